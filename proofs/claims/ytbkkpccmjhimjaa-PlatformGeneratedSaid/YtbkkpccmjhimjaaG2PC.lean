/- Part of a proof: texts Vpref19 some Vpref19 Explain Vpkeep Same int Vplaw20 agrees Vplaw20 PlatformGenerated. No conditions of their own. -/
import Derived.Test.YtbkkpccmjhimjaaProg
import Derived.Test.YtbkkpccmjhimjaaG2VB
import Derived.Test.YtbkkpccmjhimjaaG2FA
import Derived.Test.YtbkkpccmjhimjaaG2PB
import Derived.Test.YtbkkpccmjhimjaaG2PA
/-
  ref19_some: the interpreter computes the pure function
-/
set_option linter.unusedVariables false
set_option linter.unusedSimpArgs false
set_option maxRecDepth 100000
namespace Go.Vx
open Go.Proofs
noncomputable def ref19_some_c0 : Code := bodyOf Try.f43
noncomputable def ref19_some_c1 : Code := cL (bodyOf Try.f43)
noncomputable def ref19_some_c2 : Code := cL (cR (bodyOf Try.f43))
noncomputable def ref19_some_c3 : Code := cL (cL (cR (cR (bodyOf Try.f43))))
noncomputable def ref19_some_c4 : Code := cB (cB (cR (cL (cR (cR (bodyOf Try.f43))))))
noncomputable def ref19_some_c5 : Code := cB (cR (cL (cR (cR (bodyOf Try.f43)))))
noncomputable def ref19_some_c6 : Code := cR (cL (cR (cR (bodyOf Try.f43))))
noncomputable def ref19_some_c7 : Code := cL (cR (cR (bodyOf Try.f43)))
noncomputable def ref19_some_c8 : Code := cR (cR (cR (bodyOf Try.f43)))
noncomputable def ref19_some_c9 : Code := cR (cR (bodyOf Try.f43))
noncomputable def ref19_some_c10 : Code := cR (bodyOf Try.f43)
theorem ref19_some_c5_eq : ref19_some_c5 = .loop ref19_some_c4 := by kernel_rfl
theorem ref19_some_c6_eq : ref19_some_c6 = .block 0 ref19_some_c5 := by kernel_rfl
theorem ref19_some_c7_eq : ref19_some_c7 = .seq ref19_some_c3 ref19_some_c6 := by kernel_rfl
theorem ref19_some_c9_eq : ref19_some_c9 = .seq ref19_some_c7 ref19_some_c8 := by kernel_rfl
theorem ref19_some_c10_eq : ref19_some_c10 = .seq ref19_some_c2 ref19_some_c9 := by kernel_rfl
theorem ref19_some_c0_eq : ref19_some_c0 = .seq ref19_some_c1 ref19_some_c10 := by kernel_rfl
def ref19_some_tt : TT := [(3, ⟨.int .i64, 1, 8, [.int .i64 0], [.int .i64 0], [], none⟩), (22, ⟨.sl 3 1, 1, 24, [.slice none 0 0], [.sl 1 []], [], none⟩), (24, ⟨.sl 28 3, 1, 24, [.slice none 0 0], [.sl 3 []], [], none⟩), (28, ⟨.struct, 3, 40, [.int .i64 0, .int .i64 0, .slice none 0 0], [.int .i64 0, .int .i64 0, .sl 1 []], [(0, 3), (1, 3), (2, 22)], none⟩)]
theorem ref19_some_tt_eq : mkTT Try.prog [3, 22, 24, 28] = ref19_some_tt := by kernel_rfl
def ref19_some_cfg : List (Nat × Cfg) := [(0, ⟨[0, 1], [], [], [], []⟩), (1, ⟨[0, 1, 5], [], [], [], []⟩), (2, ⟨[0, 1, 5, 8, 9], [], [(5, 1005, 28, 3)], [], []⟩), (3, ⟨[0, 1, 5, 8, 9, 10], [(1005, 1005)], [], [], []⟩), (4, ⟨[0, 1, 5, 6, 8, 9], [(1005, 1005)], [], [], []⟩), (5, ⟨[0, 1, 5, 8, 9], [(21, 1005)], [], [], []⟩), (6, ⟨[0, 1, 5, 8, 9], [(1005, 1005)], [], [], []⟩), (7, ⟨[4], [(1005, 1005)], [], [], []⟩)]
def ref19_some_C (n : Nat) : VC := ⟨specOf [], ref19_some_tt, ref19_some_cfg⟩
theorem ref19_some_ents (n : Nat) : EntsOK Try.prog [] := trivial
theorem ref19_some_VC (n : Nat) : VCOk Try.prog (ref19_some_C n) := ⟨specOf_ok (ref19_some_ents n), (ref19_some_tt_eq ▸ mkTT_ok _ : TOk Try.prog ref19_some_tt), by kernel_rfl⟩
theorem ref19_some_p1_congr {R : Type} (n : Nat) (a0 : List (List D)) (a1 : List (List D)) {k0 kk0 : Option R} (hq0 : k0 = kk0) : ref19_some_p1 n a0 a1 k0 = ref19_some_p1 n a0 a1 kk0 := by
  obtain rfl : k0 = kk0 := hq0
  rfl
theorem ref19_some_p2_congr {R : Type} (n : Nat) (a0 : List (List D)) (a1 : List (List D)) {k0 kk0 : Option R} (hq0 : k0 = kk0) : ref19_some_p2 n a0 a1 k0 = ref19_some_p2 n a0 a1 kk0 := by
  obtain rfl : k0 = kk0 := hq0
  rfl
theorem ref19_some_p3_congr {R : Type} (n : Nat) (a0 : List (List D)) (a1 : List (List D)) {k0 kk0 : Int → Option R} (hq0 : ∀ x0, k0 x0 = kk0 x0) : ref19_some_p3 n a0 a1 k0 = ref19_some_p3 n a0 a1 kk0 := by
  obtain rfl : k0 = kk0 := funext fun x0 => hq0 x0
  rfl
theorem ref19_some_p4_congr {R : Type} (n : Nat) (a0 : List (List D)) (a1 : List (List D)) (w2 : Int) (h6 : Int) (h7 : List (List D)) {k0 kk0 : Int → (List (List D)) → Option R} {k1 kk1 : Bool → Option R} (hq0 : ∀ x0 x1, k0 x0 x1 = kk0 x0 x1) (hq1 : ∀ x0, k1 x0 = kk1 x0) : ref19_some_p4 n a0 a1 w2 h6 h7 k0 k1 = ref19_some_p4 n a0 a1 w2 h6 h7 kk0 kk1 := by
  obtain rfl : k0 = kk0 := funext fun x0 => funext fun x1 => hq0 x0 x1
  obtain rfl : k1 = kk1 := funext fun x0 => hq1 x0
  rfl
theorem ref19_some_p5_congr {R : Type} (n : Nat) (a0 : List (List D)) (a1 : List (List D)) (w2 : Int) {k0 kk0 : Int → Bool → (List (List D)) → Option R} (hq0 : ∀ x0 x1 x2, k0 x0 x1 x2 = kk0 x0 x1 x2) : ref19_some_p5 n a0 a1 w2 k0 = ref19_some_p5 n a0 a1 w2 kk0 := by
  obtain rfl : k0 = kk0 := funext fun x0 => funext fun x1 => funext fun x2 => hq0 x0 x1 x2
  rfl
theorem ref19_some_p6_congr {R : Type} (n : Nat) (a0 : List (List D)) (a1 : List (List D)) (w2 : Int) {k0 kk0 : Int → Bool → (List (List D)) → Option R} (hq0 : ∀ x0 x1 x2, k0 x0 x1 x2 = kk0 x0 x1 x2) : ref19_some_p6 n a0 a1 w2 k0 = ref19_some_p6 n a0 a1 w2 kk0 := by
  obtain rfl : k0 = kk0 := funext fun x0 => funext fun x1 => funext fun x2 => hq0 x0 x1 x2
  rfl
theorem ref19_some_p7_congr {R : Type} (n : Nat) (a0 : List (List D)) (a1 : List (List D)) {k0 kk0 : Int → Int → Bool → (List (List D)) → Option R} (hq0 : ∀ x0 x1 x2 x3, k0 x0 x1 x2 x3 = kk0 x0 x1 x2 x3) : ref19_some_p7 n a0 a1 k0 = ref19_some_p7 n a0 a1 kk0 := by
  obtain rfl : k0 = kk0 := funext fun x0 => funext fun x1 => funext fun x2 => funext fun x3 => hq0 x0 x1 x2 x3
  rfl
theorem ref19_some_p8_congr {R : Type} (n : Nat) (a0 : List (List D)) (a1 : List (List D)) (w39 : Int) (w40 : Int) (w41 : Bool) (w42 : List (List D)) {k0 kk0 : Option R} (hq0 : k0 = kk0) : ref19_some_p8 n a0 a1 w39 w40 w41 w42 k0 = ref19_some_p8 n a0 a1 w39 w40 w41 w42 kk0 := by
  obtain rfl : k0 = kk0 := hq0
  rfl
theorem ref19_some_p9_congr {R : Type} (n : Nat) (a0 : List (List D)) (a1 : List (List D)) {k0 kk0 : (List (List D)) → Option R} (hq0 : ∀ x0, k0 x0 = kk0 x0) : ref19_some_p9 n a0 a1 k0 = ref19_some_p9 n a0 a1 kk0 := by
  obtain rfl : k0 = kk0 := funext fun x0 => hq0 x0
  rfl
theorem ref19_some_p10_congr {R : Type} (n : Nat) (a0 : List (List D)) (a1 : List (List D)) {k0 kk0 : (List (List D)) → Option R} (hq0 : ∀ x0, k0 x0 = kk0 x0) : ref19_some_p10 n a0 a1 k0 = ref19_some_p10 n a0 a1 kk0 := by
  obtain rfl : k0 = kk0 := funext fun x0 => hq0 x0
  rfl
theorem ref19_some_p11_congr {R : Type} (n : Nat) (a0 : List (List D)) (a1 : List (List D)) {k0 kk0 : (List (List D)) → Option R} (hq0 : ∀ x0, k0 x0 = kk0 x0) : ref19_some_p11 n a0 a1 k0 = ref19_some_p11 n a0 a1 kk0 := by
  obtain rfl : k0 = kk0 := funext fun x0 => hq0 x0
  rfl
theorem ref19_some_p1_eq {R : Type} (n : Nat) (a0 : List (List D)) (a1 : List (List D)) (k : Exit → St → Option R) : vexec (ref19_some_C n) n ref19_some_c1 ⟨24, [(0, .d (D.sl 3 a0)), (1, .d (D.sl 1 a1))], []⟩ k = ref19_some_p1 n a0 a1 (k .normal ⟨24, [(0, .d (D.sl 3 a0)), (1, .d (D.sl 1 a1))], []⟩) := by kernel_rfl
theorem ref19_some_p2_eq {R : Type} (n : Nat) (a0 : List (List D)) (a1 : List (List D)) (k : Exit → St → Option R) : vexec (ref19_some_C n) n ref19_some_c2 ⟨24, [(0, .d (D.sl 3 a0)), (1, .d (D.sl 1 a1))], []⟩ k = ref19_some_p2 n a0 a1 (k .normal ⟨24, [(0, .d (D.sl 3 a0)), (1, .d (D.sl 1 a1)), (5, .nil)], []⟩) := by kernel_rfl
theorem ref19_some_p3_eq {R : Type} (n : Nat) (a0 : List (List D)) (a1 : List (List D)) (k : Exit → St → Option R) : vexec (ref19_some_C n) n ref19_some_c3 ⟨24, [(0, .d (D.sl 3 a0)), (1, .d (D.sl 1 a1)), (5, .nil)], []⟩ k = ref19_some_p3 n a0 a1 (fun z1 => k .normal ⟨24, [(0, .d (D.sl 3 a0)), (1, .d (D.sl 1 a1)), (5, .arr 1005), (8, .d (D.int .i64 z1)), (9, .d (D.int .i64 (0 : Int)))], [(1005, .arr 28 3 [])]⟩) := by kernel_rfl
theorem ref19_some_p4_eq {R : Type} (n : Nat) (a0 : List (List D)) (a1 : List (List D)) (w2 : Int) (h6 : Int) (h7 : List (List D)) (k : Exit → St → Option R) : vexec (ref19_some_C n) n ref19_some_c4 ⟨24, [(0, .d (D.sl 3 a0)), (1, .d (D.sl 1 a1)), (5, .arr 1005), (8, .d (D.int .i64 w2)), (9, .d (D.int .i64 h6))], [(1005, .arr 28 3 h7)]⟩ k = ref19_some_p4 n a0 a1 w2 h6 h7 (fun z27 z28 => k .normal ⟨24, [(0, .d (D.sl 3 a0)), (1, .d (D.sl 1 a1)), (5, .arr 1005), (8, .d (D.int .i64 w2)), (9, .d (D.int .i64 z27))], [(1005, .arr 28 3 z28)]⟩) (fun z29 => k (.exit 0) ⟨24, [(0, .d (D.sl 3 a0)), (1, .d (D.sl 1 a1)), (5, .arr 1005), (8, .d (D.int .i64 w2)), (9, .d (D.int .i64 h6)), (10, .d (D.bool z29))], [(1005, .arr 28 3 h7)]⟩) := by kernel_rfl
theorem ref19_some_r5_eq {R : Type} (n : Nat) (a0 : List (List D)) (a1 : List (List D)) (w2 : Int) (k : Exit → St → Option R) : ∀ (m : Nat) (h6 : Int) (h7 : List (List D)), loopN (vexec (ref19_some_C n) n ref19_some_c4) m ⟨24, [(0, .d (D.sl 3 a0)), (1, .d (D.sl 1 a1)), (5, .arr 1005), (8, .d (D.int .i64 w2)), (9, .d (D.int .i64 h6))], [(1005, .arr 28 3 h7)]⟩ k = ref19_some_r5 n a0 a1 w2 (fun h6 w32 h7 => k (.exit 0) ⟨24, [(0, .d (D.sl 3 a0)), (1, .d (D.sl 1 a1)), (5, .arr 1005), (8, .d (D.int .i64 w2)), (9, .d (D.int .i64 h6)), (10, .d (D.bool w32))], [(1005, .arr 28 3 h7)]⟩) m h6 h7
  | 0, _, _ => rfl
  | m + 1, h6, h7 => (ref19_some_p4_eq n a0 a1 w2 h6 h7 (loopK (vexec (ref19_some_C n) n ref19_some_c4) m k)).trans (ref19_some_p4_congr n a0 a1 w2 h6 h7 (fun w30 w31 => ref19_some_r5_eq n a0 a1 w2 k m w30 w31) (fun w32 => rfl))
theorem ref19_some_p5_eq {R : Type} (n : Nat) (a0 : List (List D)) (a1 : List (List D)) (w2 : Int) (k : Exit → St → Option R) : vexec (ref19_some_C n) n ref19_some_c5 ⟨24, [(0, .d (D.sl 3 a0)), (1, .d (D.sl 1 a1)), (5, .arr 1005), (8, .d (D.int .i64 w2)), (9, .d (D.int .i64 (0 : Int)))], [(1005, .arr 28 3 [])]⟩ k = ref19_some_p5 n a0 a1 w2 (fun h6 w32 h7 => k (.exit 0) ⟨24, [(0, .d (D.sl 3 a0)), (1, .d (D.sl 1 a1)), (5, .arr 1005), (8, .d (D.int .i64 w2)), (9, .d (D.int .i64 h6)), (10, .d (D.bool w32))], [(1005, .arr 28 3 h7)]⟩) := by
  rw [ref19_some_c5_eq]
  exact ref19_some_r5_eq n a0 a1 w2 k n (0 : Int) []
theorem ref19_some_p6_eq {R : Type} (n : Nat) (a0 : List (List D)) (a1 : List (List D)) (w2 : Int) (k : Exit → St → Option R) : vexec (ref19_some_C n) n ref19_some_c6 ⟨24, [(0, .d (D.sl 3 a0)), (1, .d (D.sl 1 a1)), (5, .arr 1005), (8, .d (D.int .i64 w2)), (9, .d (D.int .i64 (0 : Int)))], [(1005, .arr 28 3 [])]⟩ k = ref19_some_p6 n a0 a1 w2 (fun w33 w34 w35 => k .normal ⟨24, [(0, .d (D.sl 3 a0)), (1, .d (D.sl 1 a1)), (5, .arr 1005), (8, .d (D.int .i64 w2)), (9, .d (D.int .i64 w33)), (10, .d (D.bool w34))], [(1005, .arr 28 3 w35)]⟩) := by
  rw [ref19_some_c6_eq]
  unfold ref19_some_p6
  exact (ref19_some_p5_eq n a0 a1 w2 (blockK 0 k)).trans (ref19_some_p5_congr n a0 a1 w2 (fun w33 w34 w35 => rfl))
theorem ref19_some_p7_eq {R : Type} (n : Nat) (a0 : List (List D)) (a1 : List (List D)) (k : Exit → St → Option R) : vexec (ref19_some_C n) n ref19_some_c7 ⟨24, [(0, .d (D.sl 3 a0)), (1, .d (D.sl 1 a1)), (5, .nil)], []⟩ k = ref19_some_p7 n a0 a1 (fun w2 w36 w37 w38 => k .normal ⟨24, [(0, .d (D.sl 3 a0)), (1, .d (D.sl 1 a1)), (5, .arr 1005), (8, .d (D.int .i64 w2)), (9, .d (D.int .i64 w36)), (10, .d (D.bool w37))], [(1005, .arr 28 3 w38)]⟩) := by
  rw [ref19_some_c7_eq]
  unfold ref19_some_p7
  exact (ref19_some_p3_eq n a0 a1 (seqK (ref19_some_C n) n ref19_some_c6 k)).trans (ref19_some_p3_congr n a0 a1 (fun w2 => ref19_some_p6_eq n a0 a1 w2 k))
theorem ref19_some_p8_eq {R : Type} (n : Nat) (a0 : List (List D)) (a1 : List (List D)) (w39 : Int) (w40 : Int) (w41 : Bool) (w42 : List (List D)) (k : Exit → St → Option R) : vexec (ref19_some_C n) n ref19_some_c8 ⟨24, [(0, .d (D.sl 3 a0)), (1, .d (D.sl 1 a1)), (5, .arr 1005), (8, .d (D.int .i64 w39)), (9, .d (D.int .i64 w40)), (10, .d (D.bool w41))], [(1005, .arr 28 3 w42)]⟩ k = ref19_some_p8 n a0 a1 w39 w40 w41 w42 (k .ret ⟨24, [(4, .arr 1005)], [(1005, .arr 28 3 w42)]⟩) := by kernel_rfl
theorem ref19_some_p9_eq {R : Type} (n : Nat) (a0 : List (List D)) (a1 : List (List D)) (k : Exit → St → Option R) : vexec (ref19_some_C n) n ref19_some_c9 ⟨24, [(0, .d (D.sl 3 a0)), (1, .d (D.sl 1 a1)), (5, .nil)], []⟩ k = ref19_some_p9 n a0 a1 (fun w42 => k .ret ⟨24, [(4, .arr 1005)], [(1005, .arr 28 3 w42)]⟩) := by
  rw [ref19_some_c9_eq]
  unfold ref19_some_p9
  exact (ref19_some_p7_eq n a0 a1 (seqK (ref19_some_C n) n ref19_some_c8 k)).trans (ref19_some_p7_congr n a0 a1 (fun w39 w40 w41 w42 => ref19_some_p8_eq n a0 a1 w39 w40 w41 w42 k))
theorem ref19_some_p10_eq {R : Type} (n : Nat) (a0 : List (List D)) (a1 : List (List D)) (k : Exit → St → Option R) : vexec (ref19_some_C n) n ref19_some_c10 ⟨24, [(0, .d (D.sl 3 a0)), (1, .d (D.sl 1 a1))], []⟩ k = ref19_some_p10 n a0 a1 (fun w43 => k .ret ⟨24, [(4, .arr 1005)], [(1005, .arr 28 3 w43)]⟩) := by
  rw [ref19_some_c10_eq]
  unfold ref19_some_p10
  exact (ref19_some_p2_eq n a0 a1 (seqK (ref19_some_C n) n ref19_some_c9 k)).trans (ref19_some_p2_congr n a0 a1 (ref19_some_p9_eq n a0 a1 k))
theorem ref19_some_p11_eq {R : Type} (n : Nat) (a0 : List (List D)) (a1 : List (List D)) (k : Exit → St → Option R) : vexec (ref19_some_C n) n ref19_some_c0 ⟨24, [(0, .d (D.sl 3 a0)), (1, .d (D.sl 1 a1))], []⟩ k = ref19_some_p11 n a0 a1 (fun w44 => k .ret ⟨24, [(4, .arr 1005)], [(1005, .arr 28 3 w44)]⟩) := by
  rw [ref19_some_c0_eq]
  unfold ref19_some_p11
  exact (ref19_some_p1_eq n a0 a1 (seqK (ref19_some_C n) n ref19_some_c10 k)).trans (ref19_some_p1_congr n a0 a1 (ref19_some_p10_eq n a0 a1 k))
theorem ref19_some_vfn {R : Type} (n : Nat) (a0 : List (List D)) (a1 : List (List D)) (K : AV → Option R) : vfn (ref19_some_C n) n Try.f43 [.d (D.sl 3 a0), .d (D.sl 1 a1)] [] (retF [[3]] K) = ref19_some n a0 a1 (fun r0 => K (.d (D.sl 3 r0))) :=
  (show vfn (ref19_some_C n) n Try.f43 [.d (D.sl 3 a0), .d (D.sl 1 a1)] [] (retF [[3]] K) = vexec (ref19_some_C n) n ref19_some_c0 ⟨24, [(0, .d (D.sl 3 a0)), (1, .d (D.sl 1 a1))], []⟩ (retX ref19_some_tt [.tmp 4] (retF [[3]] K)) from vfn_at (by kernel_rfl) (by kernel_rfl) rfl (by kernel_rfl) rfl (by kernel_rfl) rfl).trans ((ref19_some_p11_eq n a0 a1 (retX ref19_some_tt [.tmp 4] (retF [[3]] K))).trans (by kernel_rfl))
def ref19_some_K : AV → Option (List (List D)) := fun av => match av with
  | .d (D.sl 3 r0) => some r0
  | _ => none
def ref19_some_e (n : Nat) : Entry := fun _ _ g avs _ k => match avs with
  | [c0, c1] => prS g 3 c0 fun a0 => prS g 1 c1 fun a1 => 
    gb g (ref19_some n a0 a1 some) [] fun r => k ⟨.d (D.sl 3 r), [], []⟩
  | _ => none
theorem ref19_some_ok (n : Nat) : EntryOK Try.prog 43 (ref19_some_e n) := by
  intro R site g avs hl k r h
  unfold ref19_some_e at h
  split at h
  rotate_left
  · cases h
  replace h := prS_some h
  obtain ⟨a0, h, le0⟩ := h
  replace h := prS_some h
  obtain ⟨a1, h, le1⟩ := h
  replace h := gb_some h
  obtain ⟨res, h, hr⟩ := h
  refine ⟨_, h, fun hg => CallOK.conv (avs' := [.d (D.sl 3 a0), .d (D.sl 1 a1)]) (.cons (le0 hg) (.cons (le1 hg) (.nil))) (callOK_fix (K := ref19_some_K) (res := res) (ref19_some_VC n) (fn := Try.f43) (n := n) (by kernel_rfl) (by kernel_rfl) (by kernel_rfl) (ss := [[3]]) rfl ?_ ?_)⟩
  · exact (ref19_some_vfn n a0 a1 ref19_some_K).trans (hr hg)
  · intro x hx
    unfold ref19_some_K at hx
    split at hx
    · injection hx with hx; subst hx; rfl
    · cases hx
def ref19_some_Ko : AV → List (Nat × Ob) → Option (List (List D)) := fun av H => (look H 1005).bind fun o0 => match av, o0 with
  | .arr p0, .arr p1 p2 r0 => bif Nat.beq p0 1005 && (Nat.beq p1 28 && (Nat.beq p2 3)) then some r0 else none
  | _, _ => none
theorem ref19_some_vfo (n : Nat) (a0 : List (List D)) (a1 : List (List D)) : vfn (ref19_some_C n) n Try.f43 [.d (D.sl 3 a0), .d (D.sl 1 a1)] [] ref19_some_Ko = ref19_some n a0 a1 some :=
  (show vfn (ref19_some_C n) n Try.f43 [.d (D.sl 3 a0), .d (D.sl 1 a1)] [] ref19_some_Ko = vexec (ref19_some_C n) n ref19_some_c0 ⟨24, [(0, .d (D.sl 3 a0)), (1, .d (D.sl 1 a1))], []⟩ (retX ref19_some_tt [.tmp 4] ref19_some_Ko) from vfn_at (by kernel_rfl) (by kernel_rfl) rfl (by kernel_rfl) rfl (by kernel_rfl) rfl).trans ((ref19_some_p11_eq n a0 a1 (retX ref19_some_tt [.tmp 4] ref19_some_Ko)).trans (by kernel_rfl))
def ref19_some_o (n : Nat) : Entry := fun _ site g avs hl k => match avs with
  | [c0, c1] => prS g 3 c0 fun a0 => prS g 1 c1 fun a1 => 
    bif newsOk hl [] [(1005, (site + 100000))] then gb g (ref19_some n a0 a1 some) [] fun r => k ⟨.arr (site + 100000), [((site + 100000), some (.arr 28 3 r))], []⟩ else none
  | _ => none
theorem ref19_some_oo (n : Nat) : EntryOK Try.prog 43 (ref19_some_o n) := by
  intro R site g avs hl k r h
  unfold ref19_some_o at h
  split at h
  rotate_left
  · cases h
  replace h := prS_some h
  obtain ⟨a0, h, le0⟩ := h
  replace h := prS_some h
  obtain ⟨a1, h, le1⟩ := h
  replace h := bif_some h
  obtain ⟨hc, h⟩ := h
  replace h := gb_some h
  obtain ⟨res, h, hr⟩ := h
  refine ⟨_, h, fun hg => CallOK.conv (avs' := [.d (D.sl 3 a0), .d (D.sl 1 a1)]) (.cons (le0 hg) (.cons (le1 hg) (.nil))) (callOK_own (K := ref19_some_Ko) (res := res) (ref19_some_VC n) (fn := Try.f43) (n := n) (by kernel_rfl) (by kernel_rfl) (by kernel_rfl) (ρ := []) (ν := [(1005, (site + 100000))]) (avs' := [.d (D.sl 3 a0), .d (D.sl 1 a1)]) (H := []) rfl rfl rfl rfl hc (trivial) rfl rfl ?_ ?_)⟩
  · exact (ref19_some_vfo n a0 a1).trans (hr hg)
  · intro av H' hx
    unfold ref19_some_Ko at hx
    replace hx := Option.bind_eq_some_iff.1 hx
    obtain ⟨o0, ho0, hx⟩ := hx
    split at hx
    rotate_left
    · cases hx
    replace hx := bif_some hx
    obtain ⟨hck, hx⟩ := hx
    simp only [Bool.and_eq_true] at hck
    obtain ⟨ek0, ek1, ek2⟩ := hck
    have ek0 := Nat.eq_of_beq_eq_true ek0
    subst ek0
    have ek1 := Nat.eq_of_beq_eq_true ek1
    subst ek1
    have ek2 := Nat.eq_of_beq_eq_true ek2
    subst ek2
    injection hx with hx
    subst hx
    refine ⟨rfl, ?_, ⟨by rw [ho0]; rfl, trivial⟩, trivial⟩
    simp only [List.cons_append, List.nil_append, outWr, ho0, Option.map_some]
    rfl
end Go.Vx
/-
  ref19_Explain: the interpreter computes the pure function
-/
set_option linter.unusedVariables false
set_option linter.unusedSimpArgs false
set_option maxRecDepth 100000
namespace Go.Vx
open Go.Proofs
noncomputable def ref19_Explain_c0 : Code := bodyOf Try.f36
noncomputable def ref19_Explain_c1 : Code := cL (bodyOf Try.f36)
noncomputable def ref19_Explain_c2 : Code := cL (cR (bodyOf Try.f36))
noncomputable def ref19_Explain_c3 : Code := cL (cR (cR (bodyOf Try.f36)))
noncomputable def ref19_Explain_c4 : Code := cL (cR (cR (cR (bodyOf Try.f36))))
noncomputable def ref19_Explain_c5 : Code := cL (cR (cR (cR (cR (bodyOf Try.f36)))))
noncomputable def ref19_Explain_c6 : Code := cL (cL (cR (cR (cR (cR (cR (bodyOf Try.f36)))))))
noncomputable def ref19_Explain_c7 : Code := cB (cB (cR (cL (cR (cR (cR (cR (cR (bodyOf Try.f36)))))))))
noncomputable def ref19_Explain_c8 : Code := cB (cR (cL (cR (cR (cR (cR (cR (bodyOf Try.f36))))))))
noncomputable def ref19_Explain_c9 : Code := cR (cL (cR (cR (cR (cR (cR (bodyOf Try.f36)))))))
noncomputable def ref19_Explain_c10 : Code := cL (cR (cR (cR (cR (cR (bodyOf Try.f36))))))
noncomputable def ref19_Explain_c11 : Code := cL (cL (cR (cR (cR (cR (cR (cR (bodyOf Try.f36))))))))
noncomputable def ref19_Explain_c12 : Code := cB (cB (cR (cL (cR (cR (cR (cR (cR (cR (bodyOf Try.f36))))))))))
noncomputable def ref19_Explain_c13 : Code := cB (cR (cL (cR (cR (cR (cR (cR (cR (bodyOf Try.f36)))))))))
noncomputable def ref19_Explain_c14 : Code := cR (cL (cR (cR (cR (cR (cR (cR (bodyOf Try.f36))))))))
noncomputable def ref19_Explain_c15 : Code := cL (cR (cR (cR (cR (cR (cR (bodyOf Try.f36)))))))
noncomputable def ref19_Explain_c16 : Code := cR (cR (cR (cR (cR (cR (cR (bodyOf Try.f36)))))))
noncomputable def ref19_Explain_c17 : Code := cR (cR (cR (cR (cR (cR (bodyOf Try.f36))))))
noncomputable def ref19_Explain_c18 : Code := cR (cR (cR (cR (cR (bodyOf Try.f36)))))
noncomputable def ref19_Explain_c19 : Code := cR (cR (cR (cR (bodyOf Try.f36))))
noncomputable def ref19_Explain_c20 : Code := cR (cR (cR (bodyOf Try.f36)))
noncomputable def ref19_Explain_c21 : Code := cR (cR (bodyOf Try.f36))
noncomputable def ref19_Explain_c22 : Code := cR (bodyOf Try.f36)
theorem ref19_Explain_c8_eq : ref19_Explain_c8 = .loop ref19_Explain_c7 := by kernel_rfl
theorem ref19_Explain_c9_eq : ref19_Explain_c9 = .block 0 ref19_Explain_c8 := by kernel_rfl
theorem ref19_Explain_c10_eq : ref19_Explain_c10 = .seq ref19_Explain_c6 ref19_Explain_c9 := by kernel_rfl
theorem ref19_Explain_c13_eq : ref19_Explain_c13 = .loop ref19_Explain_c12 := by kernel_rfl
theorem ref19_Explain_c14_eq : ref19_Explain_c14 = .block 2 ref19_Explain_c13 := by kernel_rfl
theorem ref19_Explain_c15_eq : ref19_Explain_c15 = .seq ref19_Explain_c11 ref19_Explain_c14 := by kernel_rfl
theorem ref19_Explain_c17_eq : ref19_Explain_c17 = .seq ref19_Explain_c15 ref19_Explain_c16 := by kernel_rfl
theorem ref19_Explain_c18_eq : ref19_Explain_c18 = .seq ref19_Explain_c10 ref19_Explain_c17 := by kernel_rfl
theorem ref19_Explain_c19_eq : ref19_Explain_c19 = .seq ref19_Explain_c5 ref19_Explain_c18 := by kernel_rfl
theorem ref19_Explain_c20_eq : ref19_Explain_c20 = .seq ref19_Explain_c4 ref19_Explain_c19 := by kernel_rfl
theorem ref19_Explain_c21_eq : ref19_Explain_c21 = .seq ref19_Explain_c3 ref19_Explain_c20 := by kernel_rfl
theorem ref19_Explain_c22_eq : ref19_Explain_c22 = .seq ref19_Explain_c2 ref19_Explain_c21 := by kernel_rfl
theorem ref19_Explain_c0_eq : ref19_Explain_c0 = .seq ref19_Explain_c1 ref19_Explain_c22 := by kernel_rfl
def ref19_Explain_tt : TT := [(3, ⟨.int .i64, 1, 8, [.int .i64 0], [.int .i64 0], [], none⟩), (22, ⟨.sl 3 1, 1, 24, [.slice none 0 0], [.sl 1 []], [], none⟩), (24, ⟨.sl 28 3, 1, 24, [.slice none 0 0], [.sl 3 []], [], none⟩), (31, ⟨.int .i64, 1, 8, [.int .i64 0], [.int .i64 0], [], none⟩)]
theorem ref19_Explain_tt_eq : mkTT Try.prog [3, 22, 24, 31] = ref19_Explain_tt := by kernel_rfl
def ref19_Explain_cfg : List (Nat × Cfg) := [(0, ⟨[0, 1, 2], [], [], [], []⟩), (1, ⟨[0, 1, 2, 10, 11], [], [], [], []⟩), (2, ⟨[0, 1, 2, 10, 11, 27], [], [], [], []⟩), (3, ⟨[6, 7, 8], [], [], [], []⟩), (4, ⟨[0, 1, 2, 10, 11, 29], [], [], [], []⟩), (5, ⟨[6, 7, 8], [], [], [], []⟩), (6, ⟨[0, 1, 2, 10, 12], [], [], [], []⟩), (7, ⟨[0, 1, 2, 10, 12, 32, 33], [], [(12, 1012, 3, 1)], [], []⟩), (8, ⟨[0, 1, 2, 10, 12, 32, 33, 34], [(1012, 1012)], [], [], []⟩), (9, ⟨[0, 1, 2, 10, 12, 13, 32, 33], [(1012, 1012)], [], [], []⟩), (10, ⟨[0, 1, 2, 10, 12, 32, 33], [(39, 1012)], [], [], []⟩), (11, ⟨[0, 1, 2, 10, 12, 32, 33], [(1012, 1012)], [], [], []⟩), (12, ⟨[0, 1, 2, 10, 12, 14], [], [], [], [1012]⟩), (13, ⟨[0, 1, 2, 10, 12, 14, 44], [], [], [], []⟩), (14, ⟨[0, 1, 2, 10, 12, 14, 48], [], [], [], [1012]⟩), (15, ⟨[6, 7, 8], [], [], [], []⟩), (16, ⟨[0, 1, 2, 10, 12, 14, 16, 17], [], [], [], []⟩), (17, ⟨[0, 1, 2, 10, 12, 14, 16, 17, 63], [], [], [], []⟩), (18, ⟨[6, 7, 8], [], [], [], []⟩), (19, ⟨[0, 1, 2, 10, 12, 14, 16, 17, 63, 65], [], [], [], []⟩), (20, ⟨[0, 1, 2, 10, 12, 14, 16], [], [], [], []⟩), (21, ⟨[0, 1, 2, 10, 12, 14, 16, 17, 69], [], [], [], []⟩), (22, ⟨[0, 1, 2, 10, 12, 14, 16], [], [], [], []⟩), (23, ⟨[0, 1, 2, 10, 12, 14], [], [], [], []⟩), (24, ⟨[6, 7, 8], [], [], [], []⟩)]
def ref19_Explain_C (n : Nat) : VC := ⟨specOf [(24, ref19_Assign_e n), (27, ref17_Without_e n), (43, ref19_some_e n)], ref19_Explain_tt, ref19_Explain_cfg⟩
theorem ref19_Explain_ents (n : Nat) : EntsOK Try.prog [(24, ref19_Assign_e n), (27, ref17_Without_e n), (43, ref19_some_e n)] := ⟨ref19_Assign_ok n, ⟨ref17_Without_ok n, ⟨ref19_some_ok n, trivial⟩⟩⟩
theorem ref19_Explain_VC (n : Nat) : VCOk Try.prog (ref19_Explain_C n) := ⟨specOf_ok (ref19_Explain_ents n), (ref19_Explain_tt_eq ▸ mkTT_ok _ : TOk Try.prog ref19_Explain_tt), by kernel_rfl⟩
theorem ref19_Explain_p1_congr {R : Type} (n : Nat) (a0 : Int) (a1 : List (List D)) (a2 : Int) {k0 kk0 : Option R} (hq0 : k0 = kk0) : ref19_Explain_p1 n a0 a1 a2 k0 = ref19_Explain_p1 n a0 a1 a2 kk0 := by
  obtain rfl : k0 = kk0 := hq0
  rfl
theorem ref19_Explain_p2_congr {R : Type} (n : Nat) (a0 : Int) (a1 : List (List D)) (a2 : Int) {k0 kk0 : Int → Int → Option R} (hq0 : ∀ x0 x1, k0 x0 x1 = kk0 x0 x1) : ref19_Explain_p2 n a0 a1 a2 k0 = ref19_Explain_p2 n a0 a1 a2 kk0 := by
  obtain rfl : k0 = kk0 := funext fun x0 => funext fun x1 => hq0 x0 x1
  rfl
theorem ref19_Explain_p3_congr {R : Type} (n : Nat) (a0 : Int) (a1 : List (List D)) (a2 : Int) (w4 : Int) (w5 : Int) {k0 kk0 : Option R} {k1 kk1 : Bool → Option R} (hq0 : k0 = kk0) (hq1 : ∀ x0, k1 x0 = kk1 x0) : ref19_Explain_p3 n a0 a1 a2 w4 w5 k0 k1 = ref19_Explain_p3 n a0 a1 a2 w4 w5 kk0 kk1 := by
  obtain rfl : k0 = kk0 := hq0
  obtain rfl : k1 = kk1 := funext fun x0 => hq1 x0
  rfl
theorem ref19_Explain_p4_congr {R : Type} (n : Nat) (a0 : Int) (a1 : List (List D)) (a2 : Int) (w4 : Int) (w5 : Int) (w7 : Bool) {k0 kk0 : Option R} {k1 kk1 : Bool → Option R} (hq0 : k0 = kk0) (hq1 : ∀ x0, k1 x0 = kk1 x0) : ref19_Explain_p4 n a0 a1 a2 w4 w5 w7 k0 k1 = ref19_Explain_p4 n a0 a1 a2 w4 w5 w7 kk0 kk1 := by
  obtain rfl : k0 = kk0 := hq0
  obtain rfl : k1 = kk1 := funext fun x0 => hq1 x0
  rfl
theorem ref19_Explain_p5_congr {R : Type} (n : Nat) (a0 : Int) (a1 : List (List D)) (a2 : Int) (w4 : Int) (w5 : Int) (w9 : Bool) {k0 kk0 : Option R} (hq0 : k0 = kk0) : ref19_Explain_p5 n a0 a1 a2 w4 w5 w9 k0 = ref19_Explain_p5 n a0 a1 a2 w4 w5 w9 kk0 := by
  obtain rfl : k0 = kk0 := hq0
  rfl
theorem ref19_Explain_p6_congr {R : Type} (n : Nat) (a0 : Int) (a1 : List (List D)) (a2 : Int) (w4 : Int) {k0 kk0 : Int → Option R} (hq0 : ∀ x0, k0 x0 = kk0 x0) : ref19_Explain_p6 n a0 a1 a2 w4 k0 = ref19_Explain_p6 n a0 a1 a2 w4 kk0 := by
  obtain rfl : k0 = kk0 := funext fun x0 => hq0 x0
  rfl
theorem ref19_Explain_p7_congr {R : Type} (n : Nat) (a0 : Int) (a1 : List (List D)) (a2 : Int) (w4 : Int) (w11 : Int) (h17 : Int) (h18 : List (List D)) {k0 kk0 : Int → (List (List D)) → Option R} {k1 kk1 : Bool → Option R} (hq0 : ∀ x0 x1, k0 x0 x1 = kk0 x0 x1) (hq1 : ∀ x0, k1 x0 = kk1 x0) : ref19_Explain_p7 n a0 a1 a2 w4 w11 h17 h18 k0 k1 = ref19_Explain_p7 n a0 a1 a2 w4 w11 h17 h18 kk0 kk1 := by
  obtain rfl : k0 = kk0 := funext fun x0 => funext fun x1 => hq0 x0 x1
  obtain rfl : k1 = kk1 := funext fun x0 => hq1 x0
  rfl
theorem ref19_Explain_p8_congr {R : Type} (n : Nat) (a0 : Int) (a1 : List (List D)) (a2 : Int) (w4 : Int) (w11 : Int) {k0 kk0 : Int → Bool → (List (List D)) → Option R} (hq0 : ∀ x0 x1 x2, k0 x0 x1 x2 = kk0 x0 x1 x2) : ref19_Explain_p8 n a0 a1 a2 w4 w11 k0 = ref19_Explain_p8 n a0 a1 a2 w4 w11 kk0 := by
  obtain rfl : k0 = kk0 := funext fun x0 => funext fun x1 => funext fun x2 => hq0 x0 x1 x2
  rfl
theorem ref19_Explain_p9_congr {R : Type} (n : Nat) (a0 : Int) (a1 : List (List D)) (a2 : Int) (w4 : Int) (w11 : Int) {k0 kk0 : Int → Bool → (List (List D)) → Option R} (hq0 : ∀ x0 x1 x2, k0 x0 x1 x2 = kk0 x0 x1 x2) : ref19_Explain_p9 n a0 a1 a2 w4 w11 k0 = ref19_Explain_p9 n a0 a1 a2 w4 w11 kk0 := by
  obtain rfl : k0 = kk0 := funext fun x0 => funext fun x1 => funext fun x2 => hq0 x0 x1 x2
  rfl
theorem ref19_Explain_p10_congr {R : Type} (n : Nat) (a0 : Int) (a1 : List (List D)) (a2 : Int) (w4 : Int) {k0 kk0 : Int → Int → Bool → (List (List D)) → Option R} (hq0 : ∀ x0 x1 x2 x3, k0 x0 x1 x2 x3 = kk0 x0 x1 x2 x3) : ref19_Explain_p10 n a0 a1 a2 w4 k0 = ref19_Explain_p10 n a0 a1 a2 w4 kk0 := by
  obtain rfl : k0 = kk0 := funext fun x0 => funext fun x1 => funext fun x2 => funext fun x3 => hq0 x0 x1 x2 x3
  rfl
theorem ref19_Explain_p11_congr {R : Type} (n : Nat) (a0 : Int) (a1 : List (List D)) (a2 : Int) (w4 : Int) (w36 : Int) (w37 : Int) (w38 : Bool) (w39 : List (List D)) {k0 kk0 : Option R} (hq0 : k0 = kk0) : ref19_Explain_p11 n a0 a1 a2 w4 w36 w37 w38 w39 k0 = ref19_Explain_p11 n a0 a1 a2 w4 w36 w37 w38 w39 kk0 := by
  obtain rfl : k0 = kk0 := hq0
  rfl
theorem ref19_Explain_p12_congr {R : Type} (n : Nat) (a0 : Int) (a1 : List (List D)) (a2 : Int) (h43 : Int) (h44 : List (List D)) (h45 : Int) {k0 kk0 : Int → Option R} {k1 kk1 : Int → (List (List D)) → Int → Option R} {k2 kk2 : Bool → Option R} (hq0 : ∀ x0, k0 x0 = kk0 x0) (hq1 : ∀ x0 x1 x2, k1 x0 x1 x2 = kk1 x0 x1 x2) (hq2 : ∀ x0, k2 x0 = kk2 x0) : ref19_Explain_p12 n a0 a1 a2 h43 h44 h45 k0 k1 k2 = ref19_Explain_p12 n a0 a1 a2 h43 h44 h45 kk0 kk1 kk2 := by
  obtain rfl : k0 = kk0 := funext fun x0 => hq0 x0
  obtain rfl : k1 = kk1 := funext fun x0 => funext fun x1 => funext fun x2 => hq1 x0 x1 x2
  obtain rfl : k2 = kk2 := funext fun x0 => hq2 x0
  rfl
theorem ref19_Explain_p13_congr {R : Type} (n : Nat) (a0 : Int) (a1 : List (List D)) (a2 : Int) (w4 : Int) (w39 : List (List D)) {k0 kk0 : Int → Option R} {k1 kk1 : Int → (List (List D)) → Int → Bool → Option R} (hq0 : ∀ x0, k0 x0 = kk0 x0) (hq1 : ∀ x0 x1 x2 x3, k1 x0 x1 x2 x3 = kk1 x0 x1 x2 x3) : ref19_Explain_p13 n a0 a1 a2 w4 w39 k0 k1 = ref19_Explain_p13 n a0 a1 a2 w4 w39 kk0 kk1 := by
  obtain rfl : k0 = kk0 := funext fun x0 => hq0 x0
  obtain rfl : k1 = kk1 := funext fun x0 => funext fun x1 => funext fun x2 => funext fun x3 => hq1 x0 x1 x2 x3
  rfl
theorem ref19_Explain_p14_congr {R : Type} (n : Nat) (a0 : Int) (a1 : List (List D)) (a2 : Int) (w4 : Int) (w39 : List (List D)) {k0 kk0 : Int → Option R} {k1 kk1 : Int → (List (List D)) → Int → Bool → Option R} (hq0 : ∀ x0, k0 x0 = kk0 x0) (hq1 : ∀ x0 x1 x2 x3, k1 x0 x1 x2 x3 = kk1 x0 x1 x2 x3) : ref19_Explain_p14 n a0 a1 a2 w4 w39 k0 k1 = ref19_Explain_p14 n a0 a1 a2 w4 w39 kk0 kk1 := by
  obtain rfl : k0 = kk0 := funext fun x0 => hq0 x0
  obtain rfl : k1 = kk1 := funext fun x0 => funext fun x1 => funext fun x2 => funext fun x3 => hq1 x0 x1 x2 x3
  rfl
theorem ref19_Explain_p15_congr {R : Type} (n : Nat) (a0 : Int) (a1 : List (List D)) (a2 : Int) (w4 : Int) (w36 : Int) (w37 : Int) (w38 : Bool) (w39 : List (List D)) {k0 kk0 : Int → Option R} {k1 kk1 : Int → (List (List D)) → Int → Bool → Option R} (hq0 : ∀ x0, k0 x0 = kk0 x0) (hq1 : ∀ x0 x1 x2 x3, k1 x0 x1 x2 x3 = kk1 x0 x1 x2 x3) : ref19_Explain_p15 n a0 a1 a2 w4 w36 w37 w38 w39 k0 k1 = ref19_Explain_p15 n a0 a1 a2 w4 w36 w37 w38 w39 kk0 kk1 := by
  obtain rfl : k0 = kk0 := funext fun x0 => hq0 x0
  obtain rfl : k1 = kk1 := funext fun x0 => funext fun x1 => funext fun x2 => funext fun x3 => hq1 x0 x1 x2 x3
  rfl
theorem ref19_Explain_p16_congr {R : Type} (n : Nat) (a0 : Int) (a1 : List (List D)) (a2 : Int) (w80 : Int) (w81 : List (List D)) (w82 : Int) (w83 : Bool) {k0 kk0 : Option R} (hq0 : k0 = kk0) : ref19_Explain_p16 n a0 a1 a2 w80 w81 w82 w83 k0 = ref19_Explain_p16 n a0 a1 a2 w80 w81 w82 w83 kk0 := by
  obtain rfl : k0 = kk0 := hq0
  rfl
theorem ref19_Explain_p17_congr {R : Type} (n : Nat) (a0 : Int) (a1 : List (List D)) (a2 : Int) (w4 : Int) (w36 : Int) (w37 : Int) (w38 : Bool) (w39 : List (List D)) {k0 kk0 : Int → Option R} {k1 kk1 : (List (List D)) → Int → Option R} (hq0 : ∀ x0, k0 x0 = kk0 x0) (hq1 : ∀ x0 x1, k1 x0 x1 = kk1 x0 x1) : ref19_Explain_p17 n a0 a1 a2 w4 w36 w37 w38 w39 k0 k1 = ref19_Explain_p17 n a0 a1 a2 w4 w36 w37 w38 w39 kk0 kk1 := by
  obtain rfl : k0 = kk0 := funext fun x0 => hq0 x0
  obtain rfl : k1 = kk1 := funext fun x0 => funext fun x1 => hq1 x0 x1
  rfl
theorem ref19_Explain_p18_congr {R : Type} (n : Nat) (a0 : Int) (a1 : List (List D)) (a2 : Int) (w4 : Int) {k0 kk0 : Int → Option R} {k1 kk1 : (List (List D)) → Int → Option R} (hq0 : ∀ x0, k0 x0 = kk0 x0) (hq1 : ∀ x0 x1, k1 x0 x1 = kk1 x0 x1) : ref19_Explain_p18 n a0 a1 a2 w4 k0 k1 = ref19_Explain_p18 n a0 a1 a2 w4 kk0 kk1 := by
  obtain rfl : k0 = kk0 := funext fun x0 => hq0 x0
  obtain rfl : k1 = kk1 := funext fun x0 => funext fun x1 => hq1 x0 x1
  rfl
theorem ref19_Explain_p19_congr {R : Type} (n : Nat) (a0 : Int) (a1 : List (List D)) (a2 : Int) (w4 : Int) (w5 : Int) (w9 : Bool) {k0 kk0 : Int → Option R} {k1 kk1 : (List (List D)) → Int → Option R} (hq0 : ∀ x0, k0 x0 = kk0 x0) (hq1 : ∀ x0 x1, k1 x0 x1 = kk1 x0 x1) : ref19_Explain_p19 n a0 a1 a2 w4 w5 w9 k0 k1 = ref19_Explain_p19 n a0 a1 a2 w4 w5 w9 kk0 kk1 := by
  obtain rfl : k0 = kk0 := funext fun x0 => hq0 x0
  obtain rfl : k1 = kk1 := funext fun x0 => funext fun x1 => hq1 x0 x1
  rfl
theorem ref19_Explain_p20_congr {R : Type} (n : Nat) (a0 : Int) (a1 : List (List D)) (a2 : Int) (w4 : Int) (w5 : Int) (w7 : Bool) {k0 kk0 : Int → Option R} {k1 kk1 : (List (List D)) → Int → Option R} (hq0 : ∀ x0, k0 x0 = kk0 x0) (hq1 : ∀ x0 x1, k1 x0 x1 = kk1 x0 x1) : ref19_Explain_p20 n a0 a1 a2 w4 w5 w7 k0 k1 = ref19_Explain_p20 n a0 a1 a2 w4 w5 w7 kk0 kk1 := by
  obtain rfl : k0 = kk0 := funext fun x0 => hq0 x0
  obtain rfl : k1 = kk1 := funext fun x0 => funext fun x1 => hq1 x0 x1
  rfl
theorem ref19_Explain_p21_congr {R : Type} (n : Nat) (a0 : Int) (a1 : List (List D)) (a2 : Int) (w4 : Int) (w5 : Int) {k0 kk0 : Int → Option R} {k1 kk1 : (List (List D)) → Int → Option R} (hq0 : ∀ x0, k0 x0 = kk0 x0) (hq1 : ∀ x0 x1, k1 x0 x1 = kk1 x0 x1) : ref19_Explain_p21 n a0 a1 a2 w4 w5 k0 k1 = ref19_Explain_p21 n a0 a1 a2 w4 w5 kk0 kk1 := by
  obtain rfl : k0 = kk0 := funext fun x0 => hq0 x0
  obtain rfl : k1 = kk1 := funext fun x0 => funext fun x1 => hq1 x0 x1
  rfl
theorem ref19_Explain_p22_congr {R : Type} (n : Nat) (a0 : Int) (a1 : List (List D)) (a2 : Int) {k0 kk0 : Int → Option R} {k1 kk1 : (List (List D)) → Int → Option R} (hq0 : ∀ x0, k0 x0 = kk0 x0) (hq1 : ∀ x0 x1, k1 x0 x1 = kk1 x0 x1) : ref19_Explain_p22 n a0 a1 a2 k0 k1 = ref19_Explain_p22 n a0 a1 a2 kk0 kk1 := by
  obtain rfl : k0 = kk0 := funext fun x0 => hq0 x0
  obtain rfl : k1 = kk1 := funext fun x0 => funext fun x1 => hq1 x0 x1
  rfl
theorem ref19_Explain_p23_congr {R : Type} (n : Nat) (a0 : Int) (a1 : List (List D)) (a2 : Int) {k0 kk0 : Int → Option R} {k1 kk1 : (List (List D)) → Int → Option R} (hq0 : ∀ x0, k0 x0 = kk0 x0) (hq1 : ∀ x0 x1, k1 x0 x1 = kk1 x0 x1) : ref19_Explain_p23 n a0 a1 a2 k0 k1 = ref19_Explain_p23 n a0 a1 a2 kk0 kk1 := by
  obtain rfl : k0 = kk0 := funext fun x0 => hq0 x0
  obtain rfl : k1 = kk1 := funext fun x0 => funext fun x1 => hq1 x0 x1
  rfl
theorem ref19_Explain_p1_eq {R : Type} (n : Nat) (a0 : Int) (a1 : List (List D)) (a2 : Int) (k : Exit → St → Option R) : vexec (ref19_Explain_C n) n ref19_Explain_c1 ⟨79, [(0, .d (D.int .i64 a0)), (1, .d (D.sl 3 a1)), (2, .d (D.int .i64 a2))], []⟩ k = ref19_Explain_p1 n a0 a1 a2 (k .normal ⟨79, [(0, .d (D.int .i64 a0)), (1, .d (D.sl 3 a1)), (2, .d (D.int .i64 a2))], []⟩) := by kernel_rfl
theorem ref19_Explain_p2_eq {R : Type} (n : Nat) (a0 : Int) (a1 : List (List D)) (a2 : Int) (k : Exit → St → Option R) : vexec (ref19_Explain_C n) n ref19_Explain_c2 ⟨79, [(0, .d (D.int .i64 a0)), (1, .d (D.sl 3 a1)), (2, .d (D.int .i64 a2))], []⟩ k = ref19_Explain_p2 n a0 a1 a2 (fun z2 z3 => k .normal ⟨79, [(0, .d (D.int .i64 a0)), (1, .d (D.sl 3 a1)), (2, .d (D.int .i64 a2)), (10, .d (D.int .i64 z2)), (11, .d (D.int .i64 z3))], []⟩) := by kernel_rfl
theorem ref19_Explain_p3_eq {R : Type} (n : Nat) (a0 : Int) (a1 : List (List D)) (a2 : Int) (w4 : Int) (w5 : Int) (k : Exit → St → Option R) : vexec (ref19_Explain_C n) n ref19_Explain_c3 ⟨79, [(0, .d (D.int .i64 a0)), (1, .d (D.sl 3 a1)), (2, .d (D.int .i64 a2)), (10, .d (D.int .i64 w4)), (11, .d (D.int .i64 w5))], []⟩ k = ref19_Explain_p3 n a0 a1 a2 w4 w5 (k .ret ⟨79, [(6, .nil), (7, .d (D.int .i64 (0 : Int))), (8, .d (D.int .i64 (6 : Int)))], []⟩) (fun z6 => k .normal ⟨79, [(0, .d (D.int .i64 a0)), (1, .d (D.sl 3 a1)), (2, .d (D.int .i64 a2)), (10, .d (D.int .i64 w4)), (11, .d (D.int .i64 w5)), (27, .d (D.bool z6))], []⟩) := by kernel_rfl
theorem ref19_Explain_p4_eq {R : Type} (n : Nat) (a0 : Int) (a1 : List (List D)) (a2 : Int) (w4 : Int) (w5 : Int) (w7 : Bool) (k : Exit → St → Option R) : vexec (ref19_Explain_C n) n ref19_Explain_c4 ⟨79, [(0, .d (D.int .i64 a0)), (1, .d (D.sl 3 a1)), (2, .d (D.int .i64 a2)), (10, .d (D.int .i64 w4)), (11, .d (D.int .i64 w5)), (27, .d (D.bool w7))], []⟩ k = ref19_Explain_p4 n a0 a1 a2 w4 w5 w7 (k .ret ⟨79, [(6, .nil), (7, .d (D.int .i64 (0 : Int))), (8, .d (D.int .i64 w5))], []⟩) (fun z8 => k .normal ⟨79, [(0, .d (D.int .i64 a0)), (1, .d (D.sl 3 a1)), (2, .d (D.int .i64 a2)), (10, .d (D.int .i64 w4)), (11, .d (D.int .i64 w5)), (29, .d (D.bool z8))], []⟩) := by kernel_rfl
theorem ref19_Explain_p5_eq {R : Type} (n : Nat) (a0 : Int) (a1 : List (List D)) (a2 : Int) (w4 : Int) (w5 : Int) (w9 : Bool) (k : Exit → St → Option R) : vexec (ref19_Explain_C n) n ref19_Explain_c5 ⟨79, [(0, .d (D.int .i64 a0)), (1, .d (D.sl 3 a1)), (2, .d (D.int .i64 a2)), (10, .d (D.int .i64 w4)), (11, .d (D.int .i64 w5)), (29, .d (D.bool w9))], []⟩ k = ref19_Explain_p5 n a0 a1 a2 w4 w5 w9 (k .normal ⟨79, [(0, .d (D.int .i64 a0)), (1, .d (D.sl 3 a1)), (2, .d (D.int .i64 a2)), (10, .d (D.int .i64 w4)), (12, .nil)], []⟩) := by kernel_rfl
theorem ref19_Explain_p6_eq {R : Type} (n : Nat) (a0 : Int) (a1 : List (List D)) (a2 : Int) (w4 : Int) (k : Exit → St → Option R) : vexec (ref19_Explain_C n) n ref19_Explain_c6 ⟨79, [(0, .d (D.int .i64 a0)), (1, .d (D.sl 3 a1)), (2, .d (D.int .i64 a2)), (10, .d (D.int .i64 w4)), (12, .nil)], []⟩ k = ref19_Explain_p6 n a0 a1 a2 w4 (fun z10 => k .normal ⟨79, [(0, .d (D.int .i64 a0)), (1, .d (D.sl 3 a1)), (2, .d (D.int .i64 a2)), (10, .d (D.int .i64 w4)), (12, .arr 1012), (32, .d (D.int .i64 z10)), (33, .d (D.int .i64 (0 : Int)))], [(1012, .arr 3 1 [])]⟩) := by kernel_rfl
theorem ref19_Explain_p7_eq {R : Type} (n : Nat) (a0 : Int) (a1 : List (List D)) (a2 : Int) (w4 : Int) (w11 : Int) (h17 : Int) (h18 : List (List D)) (k : Exit → St → Option R) : vexec (ref19_Explain_C n) n ref19_Explain_c7 ⟨79, [(0, .d (D.int .i64 a0)), (1, .d (D.sl 3 a1)), (2, .d (D.int .i64 a2)), (10, .d (D.int .i64 w4)), (12, .arr 1012), (32, .d (D.int .i64 w11)), (33, .d (D.int .i64 h17))], [(1012, .arr 3 1 h18)]⟩ k = ref19_Explain_p7 n a0 a1 a2 w4 w11 h17 h18 (fun z24 z25 => k .normal ⟨79, [(0, .d (D.int .i64 a0)), (1, .d (D.sl 3 a1)), (2, .d (D.int .i64 a2)), (10, .d (D.int .i64 w4)), (12, .arr 1012), (32, .d (D.int .i64 w11)), (33, .d (D.int .i64 z24))], [(1012, .arr 3 1 z25)]⟩) (fun z26 => k (.exit 0) ⟨79, [(0, .d (D.int .i64 a0)), (1, .d (D.sl 3 a1)), (2, .d (D.int .i64 a2)), (10, .d (D.int .i64 w4)), (12, .arr 1012), (32, .d (D.int .i64 w11)), (33, .d (D.int .i64 h17)), (34, .d (D.bool z26))], [(1012, .arr 3 1 h18)]⟩) := by kernel_rfl
theorem ref19_Explain_r8_eq {R : Type} (n : Nat) (a0 : Int) (a1 : List (List D)) (a2 : Int) (w4 : Int) (w11 : Int) (k : Exit → St → Option R) : ∀ (m : Nat) (h17 : Int) (h18 : List (List D)), loopN (vexec (ref19_Explain_C n) n ref19_Explain_c7) m ⟨79, [(0, .d (D.int .i64 a0)), (1, .d (D.sl 3 a1)), (2, .d (D.int .i64 a2)), (10, .d (D.int .i64 w4)), (12, .arr 1012), (32, .d (D.int .i64 w11)), (33, .d (D.int .i64 h17))], [(1012, .arr 3 1 h18)]⟩ k = ref19_Explain_r8 n a0 a1 a2 w4 w11 (fun h17 w29 h18 => k (.exit 0) ⟨79, [(0, .d (D.int .i64 a0)), (1, .d (D.sl 3 a1)), (2, .d (D.int .i64 a2)), (10, .d (D.int .i64 w4)), (12, .arr 1012), (32, .d (D.int .i64 w11)), (33, .d (D.int .i64 h17)), (34, .d (D.bool w29))], [(1012, .arr 3 1 h18)]⟩) m h17 h18
  | 0, _, _ => rfl
  | m + 1, h17, h18 => (ref19_Explain_p7_eq n a0 a1 a2 w4 w11 h17 h18 (loopK (vexec (ref19_Explain_C n) n ref19_Explain_c7) m k)).trans (ref19_Explain_p7_congr n a0 a1 a2 w4 w11 h17 h18 (fun w27 w28 => ref19_Explain_r8_eq n a0 a1 a2 w4 w11 k m w27 w28) (fun w29 => rfl))
theorem ref19_Explain_p8_eq {R : Type} (n : Nat) (a0 : Int) (a1 : List (List D)) (a2 : Int) (w4 : Int) (w11 : Int) (k : Exit → St → Option R) : vexec (ref19_Explain_C n) n ref19_Explain_c8 ⟨79, [(0, .d (D.int .i64 a0)), (1, .d (D.sl 3 a1)), (2, .d (D.int .i64 a2)), (10, .d (D.int .i64 w4)), (12, .arr 1012), (32, .d (D.int .i64 w11)), (33, .d (D.int .i64 (0 : Int)))], [(1012, .arr 3 1 [])]⟩ k = ref19_Explain_p8 n a0 a1 a2 w4 w11 (fun h17 w29 h18 => k (.exit 0) ⟨79, [(0, .d (D.int .i64 a0)), (1, .d (D.sl 3 a1)), (2, .d (D.int .i64 a2)), (10, .d (D.int .i64 w4)), (12, .arr 1012), (32, .d (D.int .i64 w11)), (33, .d (D.int .i64 h17)), (34, .d (D.bool w29))], [(1012, .arr 3 1 h18)]⟩) := by
  rw [ref19_Explain_c8_eq]
  exact ref19_Explain_r8_eq n a0 a1 a2 w4 w11 k n (0 : Int) []
theorem ref19_Explain_p9_eq {R : Type} (n : Nat) (a0 : Int) (a1 : List (List D)) (a2 : Int) (w4 : Int) (w11 : Int) (k : Exit → St → Option R) : vexec (ref19_Explain_C n) n ref19_Explain_c9 ⟨79, [(0, .d (D.int .i64 a0)), (1, .d (D.sl 3 a1)), (2, .d (D.int .i64 a2)), (10, .d (D.int .i64 w4)), (12, .arr 1012), (32, .d (D.int .i64 w11)), (33, .d (D.int .i64 (0 : Int)))], [(1012, .arr 3 1 [])]⟩ k = ref19_Explain_p9 n a0 a1 a2 w4 w11 (fun w30 w31 w32 => k .normal ⟨79, [(0, .d (D.int .i64 a0)), (1, .d (D.sl 3 a1)), (2, .d (D.int .i64 a2)), (10, .d (D.int .i64 w4)), (12, .arr 1012), (32, .d (D.int .i64 w11)), (33, .d (D.int .i64 w30)), (34, .d (D.bool w31))], [(1012, .arr 3 1 w32)]⟩) := by
  rw [ref19_Explain_c9_eq]
  unfold ref19_Explain_p9
  exact (ref19_Explain_p8_eq n a0 a1 a2 w4 w11 (blockK 0 k)).trans (ref19_Explain_p8_congr n a0 a1 a2 w4 w11 (fun w30 w31 w32 => rfl))
theorem ref19_Explain_p10_eq {R : Type} (n : Nat) (a0 : Int) (a1 : List (List D)) (a2 : Int) (w4 : Int) (k : Exit → St → Option R) : vexec (ref19_Explain_C n) n ref19_Explain_c10 ⟨79, [(0, .d (D.int .i64 a0)), (1, .d (D.sl 3 a1)), (2, .d (D.int .i64 a2)), (10, .d (D.int .i64 w4)), (12, .nil)], []⟩ k = ref19_Explain_p10 n a0 a1 a2 w4 (fun w11 w33 w34 w35 => k .normal ⟨79, [(0, .d (D.int .i64 a0)), (1, .d (D.sl 3 a1)), (2, .d (D.int .i64 a2)), (10, .d (D.int .i64 w4)), (12, .arr 1012), (32, .d (D.int .i64 w11)), (33, .d (D.int .i64 w33)), (34, .d (D.bool w34))], [(1012, .arr 3 1 w35)]⟩) := by
  rw [ref19_Explain_c10_eq]
  unfold ref19_Explain_p10
  exact (ref19_Explain_p6_eq n a0 a1 a2 w4 (seqK (ref19_Explain_C n) n ref19_Explain_c9 k)).trans (ref19_Explain_p6_congr n a0 a1 a2 w4 (fun w11 => ref19_Explain_p9_eq n a0 a1 a2 w4 w11 k))
theorem ref19_Explain_p11_eq {R : Type} (n : Nat) (a0 : Int) (a1 : List (List D)) (a2 : Int) (w4 : Int) (w36 : Int) (w37 : Int) (w38 : Bool) (w39 : List (List D)) (k : Exit → St → Option R) : vexec (ref19_Explain_C n) n ref19_Explain_c11 ⟨79, [(0, .d (D.int .i64 a0)), (1, .d (D.sl 3 a1)), (2, .d (D.int .i64 a2)), (10, .d (D.int .i64 w4)), (12, .arr 1012), (32, .d (D.int .i64 w36)), (33, .d (D.int .i64 w37)), (34, .d (D.bool w38))], [(1012, .arr 3 1 w39)]⟩ k = ref19_Explain_p11 n a0 a1 a2 w4 w36 w37 w38 w39 (k .normal ⟨79, [(0, .d (D.int .i64 a0)), (1, .d (D.sl 3 a1)), (2, .d (D.int .i64 a2)), (10, .d (D.int .i64 w4)), (12, .d (D.sl 1 w39)), (14, .d (D.int .i64 (0 : Int)))], []⟩) := by kernel_rfl
theorem ref19_Explain_p12_eq {R : Type} (n : Nat) (a0 : Int) (a1 : List (List D)) (a2 : Int) (h43 : Int) (h44 : List (List D)) (h45 : Int) (k : Exit → St → Option R) : vexec (ref19_Explain_C n) n ref19_Explain_c12 ⟨79, [(0, .d (D.int .i64 a0)), (1, .d (D.sl 3 a1)), (2, .d (D.int .i64 a2)), (10, .d (D.int .i64 h43)), (12, .d (D.sl 1 h44)), (14, .d (D.int .i64 h45))], []⟩ k = ref19_Explain_p12 n a0 a1 a2 h43 h44 h45 (fun z59 => k .ret ⟨79, [(6, .nil), (7, .d (D.int .i64 (0 : Int))), (8, .d (D.int .i64 z59))], []⟩) (fun z60 z61 z62 => k .normal ⟨79, [(0, .d (D.int .i64 a0)), (1, .d (D.sl 3 a1)), (2, .d (D.int .i64 a2)), (10, .d (D.int .i64 z60)), (12, .d (D.sl 1 z61)), (14, .d (D.int .i64 z62))], []⟩) (fun z63 => k (.exit 2) ⟨79, [(0, .d (D.int .i64 a0)), (1, .d (D.sl 3 a1)), (2, .d (D.int .i64 a2)), (10, .d (D.int .i64 h43)), (12, .d (D.sl 1 h44)), (14, .d (D.int .i64 h45)), (44, .d (D.bool z63))], []⟩) := by kernel_rfl
theorem ref19_Explain_r13_eq {R : Type} (n : Nat) (a0 : Int) (a1 : List (List D)) (a2 : Int) (k : Exit → St → Option R) : ∀ (m : Nat) (h43 : Int) (h44 : List (List D)) (h45 : Int), loopN (vexec (ref19_Explain_C n) n ref19_Explain_c12) m ⟨79, [(0, .d (D.int .i64 a0)), (1, .d (D.sl 3 a1)), (2, .d (D.int .i64 a2)), (10, .d (D.int .i64 h43)), (12, .d (D.sl 1 h44)), (14, .d (D.int .i64 h45))], []⟩ k = ref19_Explain_r13 n a0 a1 a2 (fun w64 => k .ret ⟨79, [(6, .nil), (7, .d (D.int .i64 (0 : Int))), (8, .d (D.int .i64 w64))], []⟩) (fun h43 h44 h45 w68 => k (.exit 2) ⟨79, [(0, .d (D.int .i64 a0)), (1, .d (D.sl 3 a1)), (2, .d (D.int .i64 a2)), (10, .d (D.int .i64 h43)), (12, .d (D.sl 1 h44)), (14, .d (D.int .i64 h45)), (44, .d (D.bool w68))], []⟩) m h43 h44 h45
  | 0, _, _, _ => rfl
  | m + 1, h43, h44, h45 => (ref19_Explain_p12_eq n a0 a1 a2 h43 h44 h45 (loopK (vexec (ref19_Explain_C n) n ref19_Explain_c12) m k)).trans (ref19_Explain_p12_congr n a0 a1 a2 h43 h44 h45 (fun w64 => rfl) (fun w65 w66 w67 => ref19_Explain_r13_eq n a0 a1 a2 k m w65 w66 w67) (fun w68 => rfl))
theorem ref19_Explain_p13_eq {R : Type} (n : Nat) (a0 : Int) (a1 : List (List D)) (a2 : Int) (w4 : Int) (w39 : List (List D)) (k : Exit → St → Option R) : vexec (ref19_Explain_C n) n ref19_Explain_c13 ⟨79, [(0, .d (D.int .i64 a0)), (1, .d (D.sl 3 a1)), (2, .d (D.int .i64 a2)), (10, .d (D.int .i64 w4)), (12, .d (D.sl 1 w39)), (14, .d (D.int .i64 (0 : Int)))], []⟩ k = ref19_Explain_p13 n a0 a1 a2 w4 w39 (fun w64 => k .ret ⟨79, [(6, .nil), (7, .d (D.int .i64 (0 : Int))), (8, .d (D.int .i64 w64))], []⟩) (fun h43 h44 h45 w68 => k (.exit 2) ⟨79, [(0, .d (D.int .i64 a0)), (1, .d (D.sl 3 a1)), (2, .d (D.int .i64 a2)), (10, .d (D.int .i64 h43)), (12, .d (D.sl 1 h44)), (14, .d (D.int .i64 h45)), (44, .d (D.bool w68))], []⟩) := by
  rw [ref19_Explain_c13_eq]
  exact ref19_Explain_r13_eq n a0 a1 a2 k n w4 w39 (0 : Int)
theorem ref19_Explain_p14_eq {R : Type} (n : Nat) (a0 : Int) (a1 : List (List D)) (a2 : Int) (w4 : Int) (w39 : List (List D)) (k : Exit → St → Option R) : vexec (ref19_Explain_C n) n ref19_Explain_c14 ⟨79, [(0, .d (D.int .i64 a0)), (1, .d (D.sl 3 a1)), (2, .d (D.int .i64 a2)), (10, .d (D.int .i64 w4)), (12, .d (D.sl 1 w39)), (14, .d (D.int .i64 (0 : Int)))], []⟩ k = ref19_Explain_p14 n a0 a1 a2 w4 w39 (fun w69 => k .ret ⟨79, [(6, .nil), (7, .d (D.int .i64 (0 : Int))), (8, .d (D.int .i64 w69))], []⟩) (fun w70 w71 w72 w73 => k .normal ⟨79, [(0, .d (D.int .i64 a0)), (1, .d (D.sl 3 a1)), (2, .d (D.int .i64 a2)), (10, .d (D.int .i64 w70)), (12, .d (D.sl 1 w71)), (14, .d (D.int .i64 w72)), (44, .d (D.bool w73))], []⟩) := by
  rw [ref19_Explain_c14_eq]
  unfold ref19_Explain_p14
  exact (ref19_Explain_p13_eq n a0 a1 a2 w4 w39 (blockK 2 k)).trans (ref19_Explain_p13_congr n a0 a1 a2 w4 w39 (fun w69 => rfl) (fun w70 w71 w72 w73 => rfl))
theorem ref19_Explain_p15_eq {R : Type} (n : Nat) (a0 : Int) (a1 : List (List D)) (a2 : Int) (w4 : Int) (w36 : Int) (w37 : Int) (w38 : Bool) (w39 : List (List D)) (k : Exit → St → Option R) : vexec (ref19_Explain_C n) n ref19_Explain_c15 ⟨79, [(0, .d (D.int .i64 a0)), (1, .d (D.sl 3 a1)), (2, .d (D.int .i64 a2)), (10, .d (D.int .i64 w4)), (12, .arr 1012), (32, .d (D.int .i64 w36)), (33, .d (D.int .i64 w37)), (34, .d (D.bool w38))], [(1012, .arr 3 1 w39)]⟩ k = ref19_Explain_p15 n a0 a1 a2 w4 w36 w37 w38 w39 (fun w74 => k .ret ⟨79, [(6, .nil), (7, .d (D.int .i64 (0 : Int))), (8, .d (D.int .i64 w74))], []⟩) (fun w75 w76 w77 w78 => k .normal ⟨79, [(0, .d (D.int .i64 a0)), (1, .d (D.sl 3 a1)), (2, .d (D.int .i64 a2)), (10, .d (D.int .i64 w75)), (12, .d (D.sl 1 w76)), (14, .d (D.int .i64 w77)), (44, .d (D.bool w78))], []⟩) := by
  rw [ref19_Explain_c15_eq]
  unfold ref19_Explain_p15
  exact (ref19_Explain_p11_eq n a0 a1 a2 w4 w36 w37 w38 w39 (seqK (ref19_Explain_C n) n ref19_Explain_c14 k)).trans (ref19_Explain_p11_congr n a0 a1 a2 w4 w36 w37 w38 w39 (ref19_Explain_p14_eq n a0 a1 a2 w4 w39 k))
theorem ref19_Explain_p16_eq {R : Type} (n : Nat) (a0 : Int) (a1 : List (List D)) (a2 : Int) (w80 : Int) (w81 : List (List D)) (w82 : Int) (w83 : Bool) (k : Exit → St → Option R) : vexec (ref19_Explain_C n) n ref19_Explain_c16 ⟨79, [(0, .d (D.int .i64 a0)), (1, .d (D.sl 3 a1)), (2, .d (D.int .i64 a2)), (10, .d (D.int .i64 w80)), (12, .d (D.sl 1 w81)), (14, .d (D.int .i64 w82)), (44, .d (D.bool w83))], []⟩ k = ref19_Explain_p16 n a0 a1 a2 w80 w81 w82 w83 (k .ret ⟨79, [(6, .d (D.sl 1 w81)), (7, .d (D.int .i64 w80)), (8, .d (D.int .i64 (0 : Int)))], []⟩) := by kernel_rfl
theorem ref19_Explain_p17_eq {R : Type} (n : Nat) (a0 : Int) (a1 : List (List D)) (a2 : Int) (w4 : Int) (w36 : Int) (w37 : Int) (w38 : Bool) (w39 : List (List D)) (k : Exit → St → Option R) : vexec (ref19_Explain_C n) n ref19_Explain_c17 ⟨79, [(0, .d (D.int .i64 a0)), (1, .d (D.sl 3 a1)), (2, .d (D.int .i64 a2)), (10, .d (D.int .i64 w4)), (12, .arr 1012), (32, .d (D.int .i64 w36)), (33, .d (D.int .i64 w37)), (34, .d (D.bool w38))], [(1012, .arr 3 1 w39)]⟩ k = ref19_Explain_p17 n a0 a1 a2 w4 w36 w37 w38 w39 (fun w79 => k .ret ⟨79, [(6, .nil), (7, .d (D.int .i64 (0 : Int))), (8, .d (D.int .i64 w79))], []⟩) (fun w81 w80 => k .ret ⟨79, [(6, .d (D.sl 1 w81)), (7, .d (D.int .i64 w80)), (8, .d (D.int .i64 (0 : Int)))], []⟩) := by
  rw [ref19_Explain_c17_eq]
  unfold ref19_Explain_p17
  exact (ref19_Explain_p15_eq n a0 a1 a2 w4 w36 w37 w38 w39 (seqK (ref19_Explain_C n) n ref19_Explain_c16 k)).trans (ref19_Explain_p15_congr n a0 a1 a2 w4 w36 w37 w38 w39 (fun w79 => rfl) (fun w80 w81 w82 w83 => ref19_Explain_p16_eq n a0 a1 a2 w80 w81 w82 w83 k))
theorem ref19_Explain_p18_eq {R : Type} (n : Nat) (a0 : Int) (a1 : List (List D)) (a2 : Int) (w4 : Int) (k : Exit → St → Option R) : vexec (ref19_Explain_C n) n ref19_Explain_c18 ⟨79, [(0, .d (D.int .i64 a0)), (1, .d (D.sl 3 a1)), (2, .d (D.int .i64 a2)), (10, .d (D.int .i64 w4)), (12, .nil)], []⟩ k = ref19_Explain_p18 n a0 a1 a2 w4 (fun w84 => k .ret ⟨79, [(6, .nil), (7, .d (D.int .i64 (0 : Int))), (8, .d (D.int .i64 w84))], []⟩) (fun w85 w86 => k .ret ⟨79, [(6, .d (D.sl 1 w85)), (7, .d (D.int .i64 w86)), (8, .d (D.int .i64 (0 : Int)))], []⟩) := by
  rw [ref19_Explain_c18_eq]
  unfold ref19_Explain_p18
  exact (ref19_Explain_p10_eq n a0 a1 a2 w4 (seqK (ref19_Explain_C n) n ref19_Explain_c17 k)).trans (ref19_Explain_p10_congr n a0 a1 a2 w4 (fun w36 w37 w38 w39 => ref19_Explain_p17_eq n a0 a1 a2 w4 w36 w37 w38 w39 k))
theorem ref19_Explain_p19_eq {R : Type} (n : Nat) (a0 : Int) (a1 : List (List D)) (a2 : Int) (w4 : Int) (w5 : Int) (w9 : Bool) (k : Exit → St → Option R) : vexec (ref19_Explain_C n) n ref19_Explain_c19 ⟨79, [(0, .d (D.int .i64 a0)), (1, .d (D.sl 3 a1)), (2, .d (D.int .i64 a2)), (10, .d (D.int .i64 w4)), (11, .d (D.int .i64 w5)), (29, .d (D.bool w9))], []⟩ k = ref19_Explain_p19 n a0 a1 a2 w4 w5 w9 (fun w87 => k .ret ⟨79, [(6, .nil), (7, .d (D.int .i64 (0 : Int))), (8, .d (D.int .i64 w87))], []⟩) (fun w88 w89 => k .ret ⟨79, [(6, .d (D.sl 1 w88)), (7, .d (D.int .i64 w89)), (8, .d (D.int .i64 (0 : Int)))], []⟩) := by
  rw [ref19_Explain_c19_eq]
  unfold ref19_Explain_p19
  exact (ref19_Explain_p5_eq n a0 a1 a2 w4 w5 w9 (seqK (ref19_Explain_C n) n ref19_Explain_c18 k)).trans (ref19_Explain_p5_congr n a0 a1 a2 w4 w5 w9 (ref19_Explain_p18_eq n a0 a1 a2 w4 k))
theorem ref19_Explain_p20_eq {R : Type} (n : Nat) (a0 : Int) (a1 : List (List D)) (a2 : Int) (w4 : Int) (w5 : Int) (w7 : Bool) (k : Exit → St → Option R) : vexec (ref19_Explain_C n) n ref19_Explain_c20 ⟨79, [(0, .d (D.int .i64 a0)), (1, .d (D.sl 3 a1)), (2, .d (D.int .i64 a2)), (10, .d (D.int .i64 w4)), (11, .d (D.int .i64 w5)), (27, .d (D.bool w7))], []⟩ k = ref19_Explain_p20 n a0 a1 a2 w4 w5 w7 (fun z93 => k .ret ⟨79, [(6, .nil), (7, .d (D.int .i64 (0 : Int))), (8, .d (D.int .i64 z93))], []⟩) (fun w91 w92 => k .ret ⟨79, [(6, .d (D.sl 1 w91)), (7, .d (D.int .i64 w92)), (8, .d (D.int .i64 (0 : Int)))], []⟩) := by
  rw [ref19_Explain_c20_eq]
  unfold ref19_Explain_p20
  exact (ref19_Explain_p4_eq n a0 a1 a2 w4 w5 w7 (seqK (ref19_Explain_C n) n ref19_Explain_c19 k)).trans (ref19_Explain_p4_congr n a0 a1 a2 w4 w5 w7 (rfl) (fun w9 => ref19_Explain_p19_eq n a0 a1 a2 w4 w5 w9 k))
theorem ref19_Explain_p21_eq {R : Type} (n : Nat) (a0 : Int) (a1 : List (List D)) (a2 : Int) (w4 : Int) (w5 : Int) (k : Exit → St → Option R) : vexec (ref19_Explain_C n) n ref19_Explain_c21 ⟨79, [(0, .d (D.int .i64 a0)), (1, .d (D.sl 3 a1)), (2, .d (D.int .i64 a2)), (10, .d (D.int .i64 w4)), (11, .d (D.int .i64 w5))], []⟩ k = ref19_Explain_p21 n a0 a1 a2 w4 w5 (fun z97 => k .ret ⟨79, [(6, .nil), (7, .d (D.int .i64 (0 : Int))), (8, .d (D.int .i64 z97))], []⟩) (fun w95 w96 => k .ret ⟨79, [(6, .d (D.sl 1 w95)), (7, .d (D.int .i64 w96)), (8, .d (D.int .i64 (0 : Int)))], []⟩) := by
  rw [ref19_Explain_c21_eq]
  unfold ref19_Explain_p21
  exact (ref19_Explain_p3_eq n a0 a1 a2 w4 w5 (seqK (ref19_Explain_C n) n ref19_Explain_c20 k)).trans (ref19_Explain_p3_congr n a0 a1 a2 w4 w5 (rfl) (fun w7 => ref19_Explain_p20_eq n a0 a1 a2 w4 w5 w7 k))
theorem ref19_Explain_p22_eq {R : Type} (n : Nat) (a0 : Int) (a1 : List (List D)) (a2 : Int) (k : Exit → St → Option R) : vexec (ref19_Explain_C n) n ref19_Explain_c22 ⟨79, [(0, .d (D.int .i64 a0)), (1, .d (D.sl 3 a1)), (2, .d (D.int .i64 a2))], []⟩ k = ref19_Explain_p22 n a0 a1 a2 (fun w98 => k .ret ⟨79, [(6, .nil), (7, .d (D.int .i64 (0 : Int))), (8, .d (D.int .i64 w98))], []⟩) (fun w99 w100 => k .ret ⟨79, [(6, .d (D.sl 1 w99)), (7, .d (D.int .i64 w100)), (8, .d (D.int .i64 (0 : Int)))], []⟩) := by
  rw [ref19_Explain_c22_eq]
  unfold ref19_Explain_p22
  exact (ref19_Explain_p2_eq n a0 a1 a2 (seqK (ref19_Explain_C n) n ref19_Explain_c21 k)).trans (ref19_Explain_p2_congr n a0 a1 a2 (fun w4 w5 => ref19_Explain_p21_eq n a0 a1 a2 w4 w5 k))
theorem ref19_Explain_p23_eq {R : Type} (n : Nat) (a0 : Int) (a1 : List (List D)) (a2 : Int) (k : Exit → St → Option R) : vexec (ref19_Explain_C n) n ref19_Explain_c0 ⟨79, [(0, .d (D.int .i64 a0)), (1, .d (D.sl 3 a1)), (2, .d (D.int .i64 a2))], []⟩ k = ref19_Explain_p23 n a0 a1 a2 (fun w101 => k .ret ⟨79, [(6, .nil), (7, .d (D.int .i64 (0 : Int))), (8, .d (D.int .i64 w101))], []⟩) (fun w102 w103 => k .ret ⟨79, [(6, .d (D.sl 1 w102)), (7, .d (D.int .i64 w103)), (8, .d (D.int .i64 (0 : Int)))], []⟩) := by
  rw [ref19_Explain_c0_eq]
  unfold ref19_Explain_p23
  exact (ref19_Explain_p1_eq n a0 a1 a2 (seqK (ref19_Explain_C n) n ref19_Explain_c22 k)).trans (ref19_Explain_p1_congr n a0 a1 a2 (ref19_Explain_p22_eq n a0 a1 a2 k))
theorem ref19_Explain_vfn {R : Type} (n : Nat) (a0 : Int) (a1 : List (List D)) (a2 : Int) (K : AV → Option R) : vfn (ref19_Explain_C n) n Try.f36 [.d (D.int .i64 a0), .d (D.sl 3 a1), .d (D.int .i64 a2)] [] (retF [[1], [0], [0]] K) = ref19_Explain n a0 a1 a2 (fun r0 r1 r2 => K (.tup [.d (D.sl 1 r0), .d (D.int .i64 r1), .d (D.int .i64 r2)])) :=
  (show vfn (ref19_Explain_C n) n Try.f36 [.d (D.int .i64 a0), .d (D.sl 3 a1), .d (D.int .i64 a2)] [] (retF [[1], [0], [0]] K) = vexec (ref19_Explain_C n) n ref19_Explain_c0 ⟨79, [(0, .d (D.int .i64 a0)), (1, .d (D.sl 3 a1)), (2, .d (D.int .i64 a2))], []⟩ (retX ref19_Explain_tt [.tmp 6, .tmp 7, .tmp 8] (retF [[1], [0], [0]] K)) from vfn_at (by kernel_rfl) (by kernel_rfl) rfl (by kernel_rfl) rfl (by kernel_rfl) rfl).trans ((ref19_Explain_p23_eq n a0 a1 a2 (retX ref19_Explain_tt [.tmp 6, .tmp 7, .tmp 8] (retF [[1], [0], [0]] K))).trans (by kernel_rfl))
def ref19_Explain_K : AV → Option ((List (List D)) × Int × Int) := fun av => match av with
  | .tup [.d (D.sl 1 r0), .d (D.int .i64 r1), .d (D.int .i64 r2)] => some (r0, r1, r2)
  | _ => none
def ref19_Explain_e (n : Nat) : Entry := fun _ _ g avs _ k => match avs with
  | [c0, c1, c2] => prI g .i64 c0 fun a0 => prS g 3 c1 fun a1 => prI g .i64 c2 fun a2 => 
    gb g (ref19_Explain n a0 a1 a2 (fun r0 r1 r2 => some (r0, r1, r2))) ([], 0, 0) fun r => k ⟨.tup [.d (D.sl 1 r.1), .d (D.int .i64 r.2.1), .d (D.int .i64 r.2.2)], [], []⟩
  | _ => none
theorem ref19_Explain_ok (n : Nat) : EntryOK Try.prog 36 (ref19_Explain_e n) := by
  intro R site g avs hl k r h
  unfold ref19_Explain_e at h
  split at h
  rotate_left
  · cases h
  replace h := prI_some h
  obtain ⟨a0, h, le0⟩ := h
  replace h := prS_some h
  obtain ⟨a1, h, le1⟩ := h
  replace h := prI_some h
  obtain ⟨a2, h, le2⟩ := h
  replace h := gb_some h
  obtain ⟨res, h, hr⟩ := h
  refine ⟨_, h, fun hg => CallOK.conv (avs' := [.d (D.int .i64 a0), .d (D.sl 3 a1), .d (D.int .i64 a2)]) (.cons (le0 hg) (.cons (le1 hg) (.cons (le2 hg) (.nil)))) (callOK_fix (K := ref19_Explain_K) (res := res) (ref19_Explain_VC n) (fn := Try.f36) (n := n) (by kernel_rfl) (by kernel_rfl) (by kernel_rfl) (ss := [[1], [0], [0]]) rfl ?_ ?_)⟩
  · exact (ref19_Explain_vfn n a0 a1 a2 ref19_Explain_K).trans (hr hg)
  · intro x hx
    unfold ref19_Explain_K at hx
    split at hx
    · injection hx with hx; subst hx; rfl
    · cases hx
end Go.Vx
/-
  keep_Same_int: the interpreter computes the pure function
-/
set_option linter.unusedVariables false
set_option linter.unusedSimpArgs false
set_option maxRecDepth 100000
namespace Go.Vx
open Go.Proofs
noncomputable def keep_Same_int_c0 : Code := bodyOf Try.f20
noncomputable def keep_Same_int_c1 : Code := cL (bodyOf Try.f20)
noncomputable def keep_Same_int_c2 : Code := cL (cR (bodyOf Try.f20))
noncomputable def keep_Same_int_c3 : Code := cL (cL (cR (cR (bodyOf Try.f20))))
noncomputable def keep_Same_int_c4 : Code := cB (cB (cR (cL (cR (cR (bodyOf Try.f20))))))
noncomputable def keep_Same_int_c5 : Code := cB (cR (cL (cR (cR (bodyOf Try.f20)))))
noncomputable def keep_Same_int_c6 : Code := cR (cL (cR (cR (bodyOf Try.f20))))
noncomputable def keep_Same_int_c7 : Code := cL (cR (cR (bodyOf Try.f20)))
noncomputable def keep_Same_int_c8 : Code := cR (cR (cR (bodyOf Try.f20)))
noncomputable def keep_Same_int_c9 : Code := cR (cR (bodyOf Try.f20))
noncomputable def keep_Same_int_c10 : Code := cR (bodyOf Try.f20)
theorem keep_Same_int_c5_eq : keep_Same_int_c5 = .loop keep_Same_int_c4 := by kernel_rfl
theorem keep_Same_int_c6_eq : keep_Same_int_c6 = .block 0 keep_Same_int_c5 := by kernel_rfl
theorem keep_Same_int_c7_eq : keep_Same_int_c7 = .seq keep_Same_int_c3 keep_Same_int_c6 := by kernel_rfl
theorem keep_Same_int_c9_eq : keep_Same_int_c9 = .seq keep_Same_int_c7 keep_Same_int_c8 := by kernel_rfl
theorem keep_Same_int_c10_eq : keep_Same_int_c10 = .seq keep_Same_int_c2 keep_Same_int_c9 := by kernel_rfl
theorem keep_Same_int_c0_eq : keep_Same_int_c0 = .seq keep_Same_int_c1 keep_Same_int_c10 := by kernel_rfl
def keep_Same_int_tt : TT := [(3, ⟨.int .i64, 1, 8, [.int .i64 0], [.int .i64 0], [], none⟩), (22, ⟨.sl 3 1, 1, 24, [.slice none 0 0], [.sl 1 []], [], none⟩)]
theorem keep_Same_int_tt_eq : mkTT Try.prog [3, 22] = keep_Same_int_tt := by kernel_rfl
def keep_Same_int_cfg : List (Nat × Cfg) := [(0, ⟨[0, 1], [], [], [], []⟩), (1, ⟨[0, 1, 10], [], [], [], []⟩), (2, ⟨[4], [], [], [], []⟩), (3, ⟨[0, 1, 12, 13], [], [], [], []⟩), (4, ⟨[0, 1, 12, 13, 14], [], [], [], []⟩), (5, ⟨[0, 1, 5, 12, 13], [], [], [], []⟩), (6, ⟨[0, 1, 12, 13, 24], [], [], [], []⟩), (7, ⟨[4], [], [], [], []⟩), (8, ⟨[0, 1, 12, 13], [], [], [], []⟩), (9, ⟨[4], [], [], [], []⟩)]
def keep_Same_int_C (n : Nat) : VC := ⟨specOf [], keep_Same_int_tt, keep_Same_int_cfg⟩
theorem keep_Same_int_ents (n : Nat) : EntsOK Try.prog [] := trivial
theorem keep_Same_int_VC (n : Nat) : VCOk Try.prog (keep_Same_int_C n) := ⟨specOf_ok (keep_Same_int_ents n), (keep_Same_int_tt_eq ▸ mkTT_ok _ : TOk Try.prog keep_Same_int_tt), by kernel_rfl⟩
theorem keep_Same_int_p1_congr {R : Type} (n : Nat) (a0 : List (List D)) (a1 : List (List D)) {k0 kk0 : Option R} (hq0 : k0 = kk0) : keep_Same_int_p1 n a0 a1 k0 = keep_Same_int_p1 n a0 a1 kk0 := by
  obtain rfl : k0 = kk0 := hq0
  rfl
theorem keep_Same_int_p2_congr {R : Type} (n : Nat) (a0 : List (List D)) (a1 : List (List D)) {k0 kk0 : Option R} {k1 kk1 : Bool → Option R} (hq0 : k0 = kk0) (hq1 : ∀ x0, k1 x0 = kk1 x0) : keep_Same_int_p2 n a0 a1 k0 k1 = keep_Same_int_p2 n a0 a1 kk0 kk1 := by
  obtain rfl : k0 = kk0 := hq0
  obtain rfl : k1 = kk1 := funext fun x0 => hq1 x0
  rfl
theorem keep_Same_int_p3_congr {R : Type} (n : Nat) (a0 : List (List D)) (a1 : List (List D)) (w2 : Bool) {k0 kk0 : Int → Option R} (hq0 : ∀ x0, k0 x0 = kk0 x0) : keep_Same_int_p3 n a0 a1 w2 k0 = keep_Same_int_p3 n a0 a1 w2 kk0 := by
  obtain rfl : k0 = kk0 := funext fun x0 => hq0 x0
  rfl
theorem keep_Same_int_p4_congr {R : Type} (n : Nat) (a0 : List (List D)) (a1 : List (List D)) (w4 : Int) (h8 : Int) {k0 kk0 : Option R} {k1 kk1 : Int → Option R} {k2 kk2 : Bool → Option R} (hq0 : k0 = kk0) (hq1 : ∀ x0, k1 x0 = kk1 x0) (hq2 : ∀ x0, k2 x0 = kk2 x0) : keep_Same_int_p4 n a0 a1 w4 h8 k0 k1 k2 = keep_Same_int_p4 n a0 a1 w4 h8 kk0 kk1 kk2 := by
  obtain rfl : k0 = kk0 := hq0
  obtain rfl : k1 = kk1 := funext fun x0 => hq1 x0
  obtain rfl : k2 = kk2 := funext fun x0 => hq2 x0
  rfl
theorem keep_Same_int_p5_congr {R : Type} (n : Nat) (a0 : List (List D)) (a1 : List (List D)) (w4 : Int) {k0 kk0 : Option R} {k1 kk1 : Int → Bool → Option R} (hq0 : k0 = kk0) (hq1 : ∀ x0 x1, k1 x0 x1 = kk1 x0 x1) : keep_Same_int_p5 n a0 a1 w4 k0 k1 = keep_Same_int_p5 n a0 a1 w4 kk0 kk1 := by
  obtain rfl : k0 = kk0 := hq0
  obtain rfl : k1 = kk1 := funext fun x0 => funext fun x1 => hq1 x0 x1
  rfl
theorem keep_Same_int_p6_congr {R : Type} (n : Nat) (a0 : List (List D)) (a1 : List (List D)) (w4 : Int) {k0 kk0 : Option R} {k1 kk1 : Int → Bool → Option R} (hq0 : k0 = kk0) (hq1 : ∀ x0 x1, k1 x0 x1 = kk1 x0 x1) : keep_Same_int_p6 n a0 a1 w4 k0 k1 = keep_Same_int_p6 n a0 a1 w4 kk0 kk1 := by
  obtain rfl : k0 = kk0 := hq0
  obtain rfl : k1 = kk1 := funext fun x0 => funext fun x1 => hq1 x0 x1
  rfl
theorem keep_Same_int_p7_congr {R : Type} (n : Nat) (a0 : List (List D)) (a1 : List (List D)) (w2 : Bool) {k0 kk0 : Option R} {k1 kk1 : Int → Int → Bool → Option R} (hq0 : k0 = kk0) (hq1 : ∀ x0 x1 x2, k1 x0 x1 x2 = kk1 x0 x1 x2) : keep_Same_int_p7 n a0 a1 w2 k0 k1 = keep_Same_int_p7 n a0 a1 w2 kk0 kk1 := by
  obtain rfl : k0 = kk0 := hq0
  obtain rfl : k1 = kk1 := funext fun x0 => funext fun x1 => funext fun x2 => hq1 x0 x1 x2
  rfl
theorem keep_Same_int_p8_congr {R : Type} (n : Nat) (a0 : List (List D)) (a1 : List (List D)) (w31 : Int) (w32 : Int) (w33 : Bool) {k0 kk0 : Option R} (hq0 : k0 = kk0) : keep_Same_int_p8 n a0 a1 w31 w32 w33 k0 = keep_Same_int_p8 n a0 a1 w31 w32 w33 kk0 := by
  obtain rfl : k0 = kk0 := hq0
  rfl
theorem keep_Same_int_p9_congr {R : Type} (n : Nat) (a0 : List (List D)) (a1 : List (List D)) (w2 : Bool) {k0 kk0 : Bool → Option R} (hq0 : ∀ x0, k0 x0 = kk0 x0) : keep_Same_int_p9 n a0 a1 w2 k0 = keep_Same_int_p9 n a0 a1 w2 kk0 := by
  obtain rfl : k0 = kk0 := funext fun x0 => hq0 x0
  rfl
theorem keep_Same_int_p10_congr {R : Type} (n : Nat) (a0 : List (List D)) (a1 : List (List D)) {k0 kk0 : Bool → Option R} (hq0 : ∀ x0, k0 x0 = kk0 x0) : keep_Same_int_p10 n a0 a1 k0 = keep_Same_int_p10 n a0 a1 kk0 := by
  obtain rfl : k0 = kk0 := funext fun x0 => hq0 x0
  rfl
theorem keep_Same_int_p11_congr {R : Type} (n : Nat) (a0 : List (List D)) (a1 : List (List D)) {k0 kk0 : Bool → Option R} (hq0 : ∀ x0, k0 x0 = kk0 x0) : keep_Same_int_p11 n a0 a1 k0 = keep_Same_int_p11 n a0 a1 kk0 := by
  obtain rfl : k0 = kk0 := funext fun x0 => hq0 x0
  rfl
theorem keep_Same_int_p1_eq {R : Type} (n : Nat) (a0 : List (List D)) (a1 : List (List D)) (k : Exit → St → Option R) : vexec (keep_Same_int_C n) n keep_Same_int_c1 ⟨26, [(0, .d (D.sl 1 a0)), (1, .d (D.sl 1 a1))], []⟩ k = keep_Same_int_p1 n a0 a1 (k .normal ⟨26, [(0, .d (D.sl 1 a0)), (1, .d (D.sl 1 a1))], []⟩) := by kernel_rfl
theorem keep_Same_int_p2_eq {R : Type} (n : Nat) (a0 : List (List D)) (a1 : List (List D)) (k : Exit → St → Option R) : vexec (keep_Same_int_C n) n keep_Same_int_c2 ⟨26, [(0, .d (D.sl 1 a0)), (1, .d (D.sl 1 a1))], []⟩ k = keep_Same_int_p2 n a0 a1 (k .ret ⟨26, [(4, .d (D.bool false))], []⟩) (fun z1 => k .normal ⟨26, [(0, .d (D.sl 1 a0)), (1, .d (D.sl 1 a1)), (10, .d (D.bool z1))], []⟩) := by kernel_rfl
theorem keep_Same_int_p3_eq {R : Type} (n : Nat) (a0 : List (List D)) (a1 : List (List D)) (w2 : Bool) (k : Exit → St → Option R) : vexec (keep_Same_int_C n) n keep_Same_int_c3 ⟨26, [(0, .d (D.sl 1 a0)), (1, .d (D.sl 1 a1)), (10, .d (D.bool w2))], []⟩ k = keep_Same_int_p3 n a0 a1 w2 (fun z3 => k .normal ⟨26, [(0, .d (D.sl 1 a0)), (1, .d (D.sl 1 a1)), (12, .d (D.int .i64 z3)), (13, .d (D.int .i64 (0 : Int)))], []⟩) := by kernel_rfl
theorem keep_Same_int_p4_eq {R : Type} (n : Nat) (a0 : List (List D)) (a1 : List (List D)) (w4 : Int) (h8 : Int) (k : Exit → St → Option R) : vexec (keep_Same_int_C n) n keep_Same_int_c4 ⟨26, [(0, .d (D.sl 1 a0)), (1, .d (D.sl 1 a1)), (12, .d (D.int .i64 w4)), (13, .d (D.int .i64 h8))], []⟩ k = keep_Same_int_p4 n a0 a1 w4 h8 (k .ret ⟨26, [(4, .d (D.bool false))], []⟩) (fun z23 => k .normal ⟨26, [(0, .d (D.sl 1 a0)), (1, .d (D.sl 1 a1)), (12, .d (D.int .i64 w4)), (13, .d (D.int .i64 z23))], []⟩) (fun z24 => k (.exit 0) ⟨26, [(0, .d (D.sl 1 a0)), (1, .d (D.sl 1 a1)), (12, .d (D.int .i64 w4)), (13, .d (D.int .i64 h8)), (14, .d (D.bool z24))], []⟩) := by kernel_rfl
theorem keep_Same_int_r5_eq {R : Type} (n : Nat) (a0 : List (List D)) (a1 : List (List D)) (w4 : Int) (k : Exit → St → Option R) : ∀ (m : Nat) (h8 : Int), loopN (vexec (keep_Same_int_C n) n keep_Same_int_c4) m ⟨26, [(0, .d (D.sl 1 a0)), (1, .d (D.sl 1 a1)), (12, .d (D.int .i64 w4)), (13, .d (D.int .i64 h8))], []⟩ k = keep_Same_int_r5 n a0 a1 w4 (k .ret ⟨26, [(4, .d (D.bool false))], []⟩) (fun h8 w26 => k (.exit 0) ⟨26, [(0, .d (D.sl 1 a0)), (1, .d (D.sl 1 a1)), (12, .d (D.int .i64 w4)), (13, .d (D.int .i64 h8)), (14, .d (D.bool w26))], []⟩) m h8
  | 0, _ => rfl
  | m + 1, h8 => (keep_Same_int_p4_eq n a0 a1 w4 h8 (loopK (vexec (keep_Same_int_C n) n keep_Same_int_c4) m k)).trans (keep_Same_int_p4_congr n a0 a1 w4 h8 (rfl) (fun w25 => keep_Same_int_r5_eq n a0 a1 w4 k m w25) (fun w26 => rfl))
theorem keep_Same_int_p5_eq {R : Type} (n : Nat) (a0 : List (List D)) (a1 : List (List D)) (w4 : Int) (k : Exit → St → Option R) : vexec (keep_Same_int_C n) n keep_Same_int_c5 ⟨26, [(0, .d (D.sl 1 a0)), (1, .d (D.sl 1 a1)), (12, .d (D.int .i64 w4)), (13, .d (D.int .i64 (0 : Int)))], []⟩ k = keep_Same_int_p5 n a0 a1 w4 (k .ret ⟨26, [(4, .d (D.bool false))], []⟩) (fun h8 w26 => k (.exit 0) ⟨26, [(0, .d (D.sl 1 a0)), (1, .d (D.sl 1 a1)), (12, .d (D.int .i64 w4)), (13, .d (D.int .i64 h8)), (14, .d (D.bool w26))], []⟩) := by
  rw [keep_Same_int_c5_eq]
  exact keep_Same_int_r5_eq n a0 a1 w4 k n (0 : Int)
theorem keep_Same_int_p6_eq {R : Type} (n : Nat) (a0 : List (List D)) (a1 : List (List D)) (w4 : Int) (k : Exit → St → Option R) : vexec (keep_Same_int_C n) n keep_Same_int_c6 ⟨26, [(0, .d (D.sl 1 a0)), (1, .d (D.sl 1 a1)), (12, .d (D.int .i64 w4)), (13, .d (D.int .i64 (0 : Int)))], []⟩ k = keep_Same_int_p6 n a0 a1 w4 (k .ret ⟨26, [(4, .d (D.bool false))], []⟩) (fun w27 w28 => k .normal ⟨26, [(0, .d (D.sl 1 a0)), (1, .d (D.sl 1 a1)), (12, .d (D.int .i64 w4)), (13, .d (D.int .i64 w27)), (14, .d (D.bool w28))], []⟩) := by
  rw [keep_Same_int_c6_eq]
  unfold keep_Same_int_p6
  exact (keep_Same_int_p5_eq n a0 a1 w4 (blockK 0 k)).trans (keep_Same_int_p5_congr n a0 a1 w4 (rfl) (fun w27 w28 => rfl))
theorem keep_Same_int_p7_eq {R : Type} (n : Nat) (a0 : List (List D)) (a1 : List (List D)) (w2 : Bool) (k : Exit → St → Option R) : vexec (keep_Same_int_C n) n keep_Same_int_c7 ⟨26, [(0, .d (D.sl 1 a0)), (1, .d (D.sl 1 a1)), (10, .d (D.bool w2))], []⟩ k = keep_Same_int_p7 n a0 a1 w2 (k .ret ⟨26, [(4, .d (D.bool false))], []⟩) (fun w4 w29 w30 => k .normal ⟨26, [(0, .d (D.sl 1 a0)), (1, .d (D.sl 1 a1)), (12, .d (D.int .i64 w4)), (13, .d (D.int .i64 w29)), (14, .d (D.bool w30))], []⟩) := by
  rw [keep_Same_int_c7_eq]
  unfold keep_Same_int_p7
  exact (keep_Same_int_p3_eq n a0 a1 w2 (seqK (keep_Same_int_C n) n keep_Same_int_c6 k)).trans (keep_Same_int_p3_congr n a0 a1 w2 (fun w4 => keep_Same_int_p6_eq n a0 a1 w4 k))
theorem keep_Same_int_p8_eq {R : Type} (n : Nat) (a0 : List (List D)) (a1 : List (List D)) (w31 : Int) (w32 : Int) (w33 : Bool) (k : Exit → St → Option R) : vexec (keep_Same_int_C n) n keep_Same_int_c8 ⟨26, [(0, .d (D.sl 1 a0)), (1, .d (D.sl 1 a1)), (12, .d (D.int .i64 w31)), (13, .d (D.int .i64 w32)), (14, .d (D.bool w33))], []⟩ k = keep_Same_int_p8 n a0 a1 w31 w32 w33 (k .ret ⟨26, [(4, .d (D.bool true))], []⟩) := by kernel_rfl
theorem keep_Same_int_p9_eq {R : Type} (n : Nat) (a0 : List (List D)) (a1 : List (List D)) (w2 : Bool) (k : Exit → St → Option R) : vexec (keep_Same_int_C n) n keep_Same_int_c9 ⟨26, [(0, .d (D.sl 1 a0)), (1, .d (D.sl 1 a1)), (10, .d (D.bool w2))], []⟩ k = keep_Same_int_p9 n a0 a1 w2 (fun z34 => k .ret ⟨26, [(4, .d (D.bool z34))], []⟩) := by
  rw [keep_Same_int_c9_eq]
  unfold keep_Same_int_p9
  exact (keep_Same_int_p7_eq n a0 a1 w2 (seqK (keep_Same_int_C n) n keep_Same_int_c8 k)).trans (keep_Same_int_p7_congr n a0 a1 w2 (rfl) (fun w31 w32 w33 => keep_Same_int_p8_eq n a0 a1 w31 w32 w33 k))
theorem keep_Same_int_p10_eq {R : Type} (n : Nat) (a0 : List (List D)) (a1 : List (List D)) (k : Exit → St → Option R) : vexec (keep_Same_int_C n) n keep_Same_int_c10 ⟨26, [(0, .d (D.sl 1 a0)), (1, .d (D.sl 1 a1))], []⟩ k = keep_Same_int_p10 n a0 a1 (fun z36 => k .ret ⟨26, [(4, .d (D.bool z36))], []⟩) := by
  rw [keep_Same_int_c10_eq]
  unfold keep_Same_int_p10
  exact (keep_Same_int_p2_eq n a0 a1 (seqK (keep_Same_int_C n) n keep_Same_int_c9 k)).trans (keep_Same_int_p2_congr n a0 a1 (rfl) (fun w2 => keep_Same_int_p9_eq n a0 a1 w2 k))
theorem keep_Same_int_p11_eq {R : Type} (n : Nat) (a0 : List (List D)) (a1 : List (List D)) (k : Exit → St → Option R) : vexec (keep_Same_int_C n) n keep_Same_int_c0 ⟨26, [(0, .d (D.sl 1 a0)), (1, .d (D.sl 1 a1))], []⟩ k = keep_Same_int_p11 n a0 a1 (fun w37 => k .ret ⟨26, [(4, .d (D.bool w37))], []⟩) := by
  rw [keep_Same_int_c0_eq]
  unfold keep_Same_int_p11
  exact (keep_Same_int_p1_eq n a0 a1 (seqK (keep_Same_int_C n) n keep_Same_int_c10 k)).trans (keep_Same_int_p1_congr n a0 a1 (keep_Same_int_p10_eq n a0 a1 k))
theorem keep_Same_int_vfn {R : Type} (n : Nat) (a0 : List (List D)) (a1 : List (List D)) (K : AV → Option R) : vfn (keep_Same_int_C n) n Try.f20 [.d (D.sl 1 a0), .d (D.sl 1 a1)] [] (retF [[0]] K) = keep_Same_int n a0 a1 (fun r0 => K (.d (D.bool r0))) :=
  (show vfn (keep_Same_int_C n) n Try.f20 [.d (D.sl 1 a0), .d (D.sl 1 a1)] [] (retF [[0]] K) = vexec (keep_Same_int_C n) n keep_Same_int_c0 ⟨26, [(0, .d (D.sl 1 a0)), (1, .d (D.sl 1 a1))], []⟩ (retX keep_Same_int_tt [.tmp 4] (retF [[0]] K)) from vfn_at (by kernel_rfl) (by kernel_rfl) rfl (by kernel_rfl) rfl (by kernel_rfl) rfl).trans ((keep_Same_int_p11_eq n a0 a1 (retX keep_Same_int_tt [.tmp 4] (retF [[0]] K))).trans (by kernel_rfl))
def keep_Same_int_K : AV → Option (Bool) := fun av => match av with
  | .d (D.bool r0) => some r0
  | _ => none
def keep_Same_int_e (n : Nat) : Entry := fun _ _ g avs _ k => match avs with
  | [c0, c1] => prS g 1 c0 fun a0 => prS g 1 c1 fun a1 => 
    gb g (keep_Same_int n a0 a1 some) false fun r => k ⟨.d (D.bool r), [], []⟩
  | _ => none
theorem keep_Same_int_ok (n : Nat) : EntryOK Try.prog 20 (keep_Same_int_e n) := by
  intro R site g avs hl k r h
  unfold keep_Same_int_e at h
  split at h
  rotate_left
  · cases h
  replace h := prS_some h
  obtain ⟨a0, h, le0⟩ := h
  replace h := prS_some h
  obtain ⟨a1, h, le1⟩ := h
  replace h := gb_some h
  obtain ⟨res, h, hr⟩ := h
  refine ⟨_, h, fun hg => CallOK.conv (avs' := [.d (D.sl 1 a0), .d (D.sl 1 a1)]) (.cons (le0 hg) (.cons (le1 hg) (.nil))) (callOK_fix (K := keep_Same_int_K) (res := res) (keep_Same_int_VC n) (fn := Try.f20) (n := n) (by kernel_rfl) (by kernel_rfl) (by kernel_rfl) (ss := [[0]]) rfl ?_ ?_)⟩
  · exact (keep_Same_int_vfn n a0 a1 keep_Same_int_K).trans (hr hg)
  · intro x hx
    unfold keep_Same_int_K at hx
    split at hx
    · injection hx with hx; subst hx; rfl
    · cases hx
end Go.Vx
/-
  law20_agrees: the interpreter computes the pure function
-/
set_option linter.unusedVariables false
set_option linter.unusedSimpArgs false
set_option maxRecDepth 100000
namespace Go.Vx
open Go.Proofs
noncomputable def law20_agrees_c0 : Code := bodyOf Try.f22
def law20_agrees_tt : TT := [(3, ⟨.int .i64, 1, 8, [.int .i64 0], [.int .i64 0], [], none⟩), (4, ⟨.bool, 1, 1, [.bool false], [.bool false], [], none⟩), (31, ⟨.int .i64, 1, 8, [.int .i64 0], [.int .i64 0], [], none⟩)]
theorem law20_agrees_tt_eq : mkTT Try.prog [3, 4, 31] = law20_agrees_tt := by kernel_rfl
def law20_agrees_cfg : List (Nat × Cfg) := [(0, ⟨[0, 1, 2, 3], [], [], [], []⟩), (1, ⟨[0, 1, 2, 3, 9, 10, 11], [], [], [], []⟩), (2, ⟨[0, 1, 2, 3, 9, 10, 11, 12, 13, 14], [], [], [], []⟩), (3, ⟨[0, 1, 2, 3, 9, 10, 11, 12, 13, 14, 15, 16, 17], [], [], [], []⟩), (4, ⟨[0, 1, 2, 9, 10, 11, 12, 13, 14, 15, 16, 17, 18, 19, 20], [], [], [], []⟩), (5, ⟨[8], [], [], [], []⟩)]
def law20_agrees_C (n : Nat) : VC := ⟨specOf [(15, platform_Assign_e n), (24, ref19_Assign_e n), (23, platform_Explain_e n), (36, ref19_Explain_e n), (29, platform_Valid_e n), (33, ref19_ValidVisits_e n), (21, platform_Proper_e n), (18, ref19_Proper_e n), (20, keep_Same_int_e n)], law20_agrees_tt, law20_agrees_cfg⟩
theorem law20_agrees_ents (n : Nat) : EntsOK Try.prog [(15, platform_Assign_e n), (24, ref19_Assign_e n), (23, platform_Explain_e n), (36, ref19_Explain_e n), (29, platform_Valid_e n), (33, ref19_ValidVisits_e n), (21, platform_Proper_e n), (18, ref19_Proper_e n), (20, keep_Same_int_e n)] := ⟨platform_Assign_ok n, ⟨ref19_Assign_ok n, ⟨platform_Explain_ok n, ⟨ref19_Explain_ok n, ⟨platform_Valid_ok n, ⟨ref19_ValidVisits_ok n, ⟨platform_Proper_ok n, ⟨ref19_Proper_ok n, ⟨keep_Same_int_ok n, trivial⟩⟩⟩⟩⟩⟩⟩⟩⟩
theorem law20_agrees_VC (n : Nat) : VCOk Try.prog (law20_agrees_C n) := ⟨specOf_ok (law20_agrees_ents n), (law20_agrees_tt_eq ▸ mkTT_ok _ : TOk Try.prog law20_agrees_tt), by kernel_rfl⟩
theorem law20_agrees_p1_congr {R : Type} (n : Nat) (a0 : Int) (a1 : List (List D)) (a2 : List (List D)) (a3 : Int) {k0 kk0 : Bool → Option R} (hq0 : ∀ x0, k0 x0 = kk0 x0) : law20_agrees_p1 n a0 a1 a2 a3 k0 = law20_agrees_p1 n a0 a1 a2 a3 kk0 := by
  obtain rfl : k0 = kk0 := funext fun x0 => hq0 x0
  rfl
theorem law20_agrees_p1_eq {R : Type} (n : Nat) (a0 : Int) (a1 : List (List D)) (a2 : List (List D)) (a3 : Int) (k : Exit → St → Option R) : vexec (law20_agrees_C n) n law20_agrees_c0 ⟨101, [(0, .d (D.int .i64 a0)), (1, .d (D.sl 3 a1)), (2, .d (D.sl 1 a2)), (3, .d (D.int .i64 a3))], []⟩ k = law20_agrees_p1 n a0 a1 a2 a3 (fun z11 => k .ret ⟨101, [(8, .d (D.bool z11))], []⟩) := by kernel_rfl
theorem law20_agrees_vfn {R : Type} (n : Nat) (a0 : Int) (a1 : List (List D)) (a2 : List (List D)) (a3 : Int) (K : AV → Option R) : vfn (law20_agrees_C n) n Try.f22 [.d (D.int .i64 a0), .d (D.sl 3 a1), .d (D.sl 1 a2), .d (D.int .i64 a3)] [] (retF [[0]] K) = law20_agrees n a0 a1 a2 a3 (fun r0 => K (.d (D.bool r0))) :=
  (show vfn (law20_agrees_C n) n Try.f22 [.d (D.int .i64 a0), .d (D.sl 3 a1), .d (D.sl 1 a2), .d (D.int .i64 a3)] [] (retF [[0]] K) = vexec (law20_agrees_C n) n law20_agrees_c0 ⟨101, [(0, .d (D.int .i64 a0)), (1, .d (D.sl 3 a1)), (2, .d (D.sl 1 a2)), (3, .d (D.int .i64 a3))], []⟩ (retX law20_agrees_tt [.tmp 8] (retF [[0]] K)) from vfn_at (by kernel_rfl) (by kernel_rfl) rfl (by kernel_rfl) rfl (by kernel_rfl) rfl).trans ((law20_agrees_p1_eq n a0 a1 a2 a3 (retX law20_agrees_tt [.tmp 8] (retF [[0]] K))).trans (by kernel_rfl))
def law20_agrees_K : AV → Option (Bool) := fun av => match av with
  | .d (D.bool r0) => some r0
  | _ => none
def law20_agrees_e (n : Nat) : Entry := fun _ _ g avs _ k => match avs with
  | [c0, c1, c2, c3] => prI g .i64 c0 fun a0 => prS g 3 c1 fun a1 => prS g 1 c2 fun a2 => prI g .i64 c3 fun a3 => 
    gb g (law20_agrees n a0 a1 a2 a3 some) false fun r => k ⟨.d (D.bool r), [], []⟩
  | _ => none
theorem law20_agrees_ok (n : Nat) : EntryOK Try.prog 22 (law20_agrees_e n) := by
  intro R site g avs hl k r h
  unfold law20_agrees_e at h
  split at h
  rotate_left
  · cases h
  replace h := prI_some h
  obtain ⟨a0, h, le0⟩ := h
  replace h := prS_some h
  obtain ⟨a1, h, le1⟩ := h
  replace h := prS_some h
  obtain ⟨a2, h, le2⟩ := h
  replace h := prI_some h
  obtain ⟨a3, h, le3⟩ := h
  replace h := gb_some h
  obtain ⟨res, h, hr⟩ := h
  refine ⟨_, h, fun hg => CallOK.conv (avs' := [.d (D.int .i64 a0), .d (D.sl 3 a1), .d (D.sl 1 a2), .d (D.int .i64 a3)]) (.cons (le0 hg) (.cons (le1 hg) (.cons (le2 hg) (.cons (le3 hg) (.nil))))) (callOK_fix (K := law20_agrees_K) (res := res) (law20_agrees_VC n) (fn := Try.f22) (n := n) (by kernel_rfl) (by kernel_rfl) (by kernel_rfl) (ss := [[0]]) rfl ?_ ?_)⟩
  · exact (law20_agrees_vfn n a0 a1 a2 a3 law20_agrees_K).trans (hr hg)
  · intro x hx
    unfold law20_agrees_K at hx
    split at hx
    · injection hx with hx; subst hx; rfl
    · cases hx
end Go.Vx
/-
  law20_PlatformGenerated: the interpreter computes the pure function
-/
set_option linter.unusedVariables false
set_option linter.unusedSimpArgs false
set_option maxRecDepth 100000
namespace Go.Vx
open Go.Proofs
noncomputable def law20_PlatformGenerated_c0 : Code := bodyOf Try.f7
noncomputable def law20_PlatformGenerated_c1 : Code := cL (bodyOf Try.f7)
noncomputable def law20_PlatformGenerated_c2 : Code := cL (cR (bodyOf Try.f7))
noncomputable def law20_PlatformGenerated_c3 : Code := cL (cR (cR (bodyOf Try.f7)))
noncomputable def law20_PlatformGenerated_c4 : Code := cL (cR (cR (cR (bodyOf Try.f7))))
noncomputable def law20_PlatformGenerated_c5 : Code := cL (cL (cR (cR (cR (cR (bodyOf Try.f7))))))
noncomputable def law20_PlatformGenerated_c6 : Code := cB (cB (cR (cL (cR (cR (cR (cR (bodyOf Try.f7))))))))
noncomputable def law20_PlatformGenerated_c7 : Code := cB (cR (cL (cR (cR (cR (cR (bodyOf Try.f7)))))))
noncomputable def law20_PlatformGenerated_c8 : Code := cR (cL (cR (cR (cR (cR (bodyOf Try.f7))))))
noncomputable def law20_PlatformGenerated_c9 : Code := cL (cR (cR (cR (cR (bodyOf Try.f7)))))
noncomputable def law20_PlatformGenerated_c10 : Code := cR (cR (cR (cR (cR (bodyOf Try.f7)))))
noncomputable def law20_PlatformGenerated_c11 : Code := cR (cR (cR (cR (bodyOf Try.f7))))
noncomputable def law20_PlatformGenerated_c12 : Code := cR (cR (cR (bodyOf Try.f7)))
noncomputable def law20_PlatformGenerated_c13 : Code := cR (cR (bodyOf Try.f7))
noncomputable def law20_PlatformGenerated_c14 : Code := cR (bodyOf Try.f7)
theorem law20_PlatformGenerated_c7_eq : law20_PlatformGenerated_c7 = .loop law20_PlatformGenerated_c6 := by kernel_rfl
theorem law20_PlatformGenerated_c8_eq : law20_PlatformGenerated_c8 = .block 0 law20_PlatformGenerated_c7 := by kernel_rfl
theorem law20_PlatformGenerated_c9_eq : law20_PlatformGenerated_c9 = .seq law20_PlatformGenerated_c5 law20_PlatformGenerated_c8 := by kernel_rfl
theorem law20_PlatformGenerated_c11_eq : law20_PlatformGenerated_c11 = .seq law20_PlatformGenerated_c9 law20_PlatformGenerated_c10 := by kernel_rfl
theorem law20_PlatformGenerated_c12_eq : law20_PlatformGenerated_c12 = .seq law20_PlatformGenerated_c4 law20_PlatformGenerated_c11 := by kernel_rfl
theorem law20_PlatformGenerated_c13_eq : law20_PlatformGenerated_c13 = .seq law20_PlatformGenerated_c3 law20_PlatformGenerated_c12 := by kernel_rfl
theorem law20_PlatformGenerated_c14_eq : law20_PlatformGenerated_c14 = .seq law20_PlatformGenerated_c2 law20_PlatformGenerated_c13 := by kernel_rfl
theorem law20_PlatformGenerated_c0_eq : law20_PlatformGenerated_c0 = .seq law20_PlatformGenerated_c1 law20_PlatformGenerated_c14 := by kernel_rfl
def law20_PlatformGenerated_tt : TT := [(3, ⟨.int .i64, 1, 8, [.int .i64 0], [.int .i64 0], [], none⟩), (22, ⟨.sl 3 1, 1, 24, [.slice none 0 0], [.sl 1 []], [], none⟩), (24, ⟨.sl 28 3, 1, 24, [.slice none 0 0], [.sl 3 []], [], none⟩)]
theorem law20_PlatformGenerated_tt_eq : mkTT Try.prog [3, 22, 24] = law20_PlatformGenerated_tt := by kernel_rfl
def law20_PlatformGenerated_cfg : List (Nat × Cfg) := [(0, ⟨[0, 1, 2, 3], [], [], [], []⟩), (1, ⟨[0, 1, 2, 3], [], [], [], []⟩), (2, ⟨[0, 2, 3, 9], [], [], [], []⟩), (3, ⟨[0, 2, 3, 9, 10], [], [], [], []⟩), (4, ⟨[0, 2, 3, 9, 10, 11], [], [(10, 1010, 3, 1)], [], []⟩), (5, ⟨[0, 2, 3, 9, 10, 11, 27], [(1010, 1010)], [], [], []⟩), (6, ⟨[0, 2, 3, 9, 10, 11], [(1010, 1010)], [], [], []⟩), (7, ⟨[0, 2, 3, 9, 10, 11], [(37, 1010)], [], [], []⟩), (8, ⟨[8], [], [], [], []⟩)]
def law20_PlatformGenerated_C (n : Nat) : VC := ⟨specOf [(10, keep_Pick_e n), (11, law20_visits_e n), (12, law20_awake_e n), (22, law20_agrees_e n)], law20_PlatformGenerated_tt, law20_PlatformGenerated_cfg⟩
theorem law20_PlatformGenerated_ents (n : Nat) : EntsOK Try.prog [(10, keep_Pick_e n), (11, law20_visits_e n), (12, law20_awake_e n), (22, law20_agrees_e n)] := ⟨keep_Pick_ok n, ⟨law20_visits_ok n, ⟨law20_awake_ok n, ⟨law20_agrees_ok n, trivial⟩⟩⟩⟩
theorem law20_PlatformGenerated_VC (n : Nat) : VCOk Try.prog (law20_PlatformGenerated_C n) := ⟨specOf_ok (law20_PlatformGenerated_ents n), (law20_PlatformGenerated_tt_eq ▸ mkTT_ok _ : TOk Try.prog law20_PlatformGenerated_tt), by kernel_rfl⟩
theorem law20_PlatformGenerated_p1_congr {R : Type} (n : Nat) (a0 : Int) (a1 : List (List D)) (a2 : List (List D)) (a3 : Int) {k0 kk0 : Option R} (hq0 : k0 = kk0) : law20_PlatformGenerated_p1 n a0 a1 a2 a3 k0 = law20_PlatformGenerated_p1 n a0 a1 a2 a3 kk0 := by
  obtain rfl : k0 = kk0 := hq0
  rfl
theorem law20_PlatformGenerated_p2_congr {R : Type} (n : Nat) (a0 : Int) (a1 : List (List D)) (a2 : List (List D)) (a3 : Int) {k0 kk0 : Int → Option R} (hq0 : ∀ x0, k0 x0 = kk0 x0) : law20_PlatformGenerated_p2 n a0 a1 a2 a3 k0 = law20_PlatformGenerated_p2 n a0 a1 a2 a3 kk0 := by
  obtain rfl : k0 = kk0 := funext fun x0 => hq0 x0
  rfl
theorem law20_PlatformGenerated_p3_congr {R : Type} (n : Nat) (w3 : Int) (a1 : List (List D)) (a2 : List (List D)) (a3 : Int) {k0 kk0 : (List (List D)) → Option R} (hq0 : ∀ x0, k0 x0 = kk0 x0) : law20_PlatformGenerated_p3 n w3 a1 a2 a3 k0 = law20_PlatformGenerated_p3 n w3 a1 a2 a3 kk0 := by
  obtain rfl : k0 = kk0 := funext fun x0 => hq0 x0
  rfl
theorem law20_PlatformGenerated_p4_congr {R : Type} (n : Nat) (w3 : Int) (a2 : List (List D)) (a3 : Int) (w5 : List (List D)) {k0 kk0 : Option R} (hq0 : k0 = kk0) : law20_PlatformGenerated_p4 n w3 a2 a3 w5 k0 = law20_PlatformGenerated_p4 n w3 a2 a3 w5 kk0 := by
  obtain rfl : k0 = kk0 := hq0
  rfl
theorem law20_PlatformGenerated_p5_congr {R : Type} (n : Nat) (w3 : Int) (a2 : List (List D)) (a3 : Int) (w5 : List (List D)) {k0 kk0 : Option R} (hq0 : k0 = kk0) : law20_PlatformGenerated_p5 n w3 a2 a3 w5 k0 = law20_PlatformGenerated_p5 n w3 a2 a3 w5 kk0 := by
  obtain rfl : k0 = kk0 := hq0
  rfl
theorem law20_PlatformGenerated_p6_congr {R : Type} (n : Nat) (w3 : Int) (a2 : List (List D)) (a3 : Int) (w5 : List (List D)) (h10 : Int) (h11 : List (List D)) {k0 kk0 : Int → (List (List D)) → Option R} {k1 kk1 : Bool → Option R} (hq0 : ∀ x0 x1, k0 x0 x1 = kk0 x0 x1) (hq1 : ∀ x0, k1 x0 = kk1 x0) : law20_PlatformGenerated_p6 n w3 a2 a3 w5 h10 h11 k0 k1 = law20_PlatformGenerated_p6 n w3 a2 a3 w5 h10 h11 kk0 kk1 := by
  obtain rfl : k0 = kk0 := funext fun x0 => funext fun x1 => hq0 x0 x1
  obtain rfl : k1 = kk1 := funext fun x0 => hq1 x0
  rfl
theorem law20_PlatformGenerated_p7_congr {R : Type} (n : Nat) (w3 : Int) (a2 : List (List D)) (a3 : Int) (w5 : List (List D)) {k0 kk0 : Int → Bool → (List (List D)) → Option R} (hq0 : ∀ x0 x1 x2, k0 x0 x1 x2 = kk0 x0 x1 x2) : law20_PlatformGenerated_p7 n w3 a2 a3 w5 k0 = law20_PlatformGenerated_p7 n w3 a2 a3 w5 kk0 := by
  obtain rfl : k0 = kk0 := funext fun x0 => funext fun x1 => funext fun x2 => hq0 x0 x1 x2
  rfl
theorem law20_PlatformGenerated_p8_congr {R : Type} (n : Nat) (w3 : Int) (a2 : List (List D)) (a3 : Int) (w5 : List (List D)) {k0 kk0 : Int → Bool → (List (List D)) → Option R} (hq0 : ∀ x0 x1 x2, k0 x0 x1 x2 = kk0 x0 x1 x2) : law20_PlatformGenerated_p8 n w3 a2 a3 w5 k0 = law20_PlatformGenerated_p8 n w3 a2 a3 w5 kk0 := by
  obtain rfl : k0 = kk0 := funext fun x0 => funext fun x1 => funext fun x2 => hq0 x0 x1 x2
  rfl
theorem law20_PlatformGenerated_p9_congr {R : Type} (n : Nat) (w3 : Int) (a2 : List (List D)) (a3 : Int) (w5 : List (List D)) {k0 kk0 : Int → Bool → (List (List D)) → Option R} (hq0 : ∀ x0 x1 x2, k0 x0 x1 x2 = kk0 x0 x1 x2) : law20_PlatformGenerated_p9 n w3 a2 a3 w5 k0 = law20_PlatformGenerated_p9 n w3 a2 a3 w5 kk0 := by
  obtain rfl : k0 = kk0 := funext fun x0 => funext fun x1 => funext fun x2 => hq0 x0 x1 x2
  rfl
theorem law20_PlatformGenerated_p10_congr {R : Type} (n : Nat) (w3 : Int) (a2 : List (List D)) (a3 : Int) (w5 : List (List D)) (w37 : Int) (w38 : Bool) (w39 : List (List D)) {k0 kk0 : Bool → Option R} (hq0 : ∀ x0, k0 x0 = kk0 x0) : law20_PlatformGenerated_p10 n w3 a2 a3 w5 w37 w38 w39 k0 = law20_PlatformGenerated_p10 n w3 a2 a3 w5 w37 w38 w39 kk0 := by
  obtain rfl : k0 = kk0 := funext fun x0 => hq0 x0
  rfl
theorem law20_PlatformGenerated_p11_congr {R : Type} (n : Nat) (w3 : Int) (a2 : List (List D)) (a3 : Int) (w5 : List (List D)) {k0 kk0 : Bool → Option R} (hq0 : ∀ x0, k0 x0 = kk0 x0) : law20_PlatformGenerated_p11 n w3 a2 a3 w5 k0 = law20_PlatformGenerated_p11 n w3 a2 a3 w5 kk0 := by
  obtain rfl : k0 = kk0 := funext fun x0 => hq0 x0
  rfl
theorem law20_PlatformGenerated_p12_congr {R : Type} (n : Nat) (w3 : Int) (a2 : List (List D)) (a3 : Int) (w5 : List (List D)) {k0 kk0 : Bool → Option R} (hq0 : ∀ x0, k0 x0 = kk0 x0) : law20_PlatformGenerated_p12 n w3 a2 a3 w5 k0 = law20_PlatformGenerated_p12 n w3 a2 a3 w5 kk0 := by
  obtain rfl : k0 = kk0 := funext fun x0 => hq0 x0
  rfl
theorem law20_PlatformGenerated_p13_congr {R : Type} (n : Nat) (w3 : Int) (a1 : List (List D)) (a2 : List (List D)) (a3 : Int) {k0 kk0 : Bool → Option R} (hq0 : ∀ x0, k0 x0 = kk0 x0) : law20_PlatformGenerated_p13 n w3 a1 a2 a3 k0 = law20_PlatformGenerated_p13 n w3 a1 a2 a3 kk0 := by
  obtain rfl : k0 = kk0 := funext fun x0 => hq0 x0
  rfl
theorem law20_PlatformGenerated_p14_congr {R : Type} (n : Nat) (a0 : Int) (a1 : List (List D)) (a2 : List (List D)) (a3 : Int) {k0 kk0 : Bool → Option R} (hq0 : ∀ x0, k0 x0 = kk0 x0) : law20_PlatformGenerated_p14 n a0 a1 a2 a3 k0 = law20_PlatformGenerated_p14 n a0 a1 a2 a3 kk0 := by
  obtain rfl : k0 = kk0 := funext fun x0 => hq0 x0
  rfl
theorem law20_PlatformGenerated_p15_congr {R : Type} (n : Nat) (a0 : Int) (a1 : List (List D)) (a2 : List (List D)) (a3 : Int) {k0 kk0 : Bool → Option R} (hq0 : ∀ x0, k0 x0 = kk0 x0) : law20_PlatformGenerated_p15 n a0 a1 a2 a3 k0 = law20_PlatformGenerated_p15 n a0 a1 a2 a3 kk0 := by
  obtain rfl : k0 = kk0 := funext fun x0 => hq0 x0
  rfl
theorem law20_PlatformGenerated_p1_eq {R : Type} (n : Nat) (a0 : Int) (a1 : List (List D)) (a2 : List (List D)) (a3 : Int) (k : Exit → St → Option R) : vexec (law20_PlatformGenerated_C n) n law20_PlatformGenerated_c1 ⟨54, [(0, .d (D.int .i64 a0)), (1, .d (D.sl 1 a1)), (2, .d (D.sl 1 a2)), (3, .d (D.int .i64 a3))], []⟩ k = law20_PlatformGenerated_p1 n a0 a1 a2 a3 (k .normal ⟨54, [(0, .d (D.int .i64 a0)), (1, .d (D.sl 1 a1)), (2, .d (D.sl 1 a2)), (3, .d (D.int .i64 a3))], []⟩) := by kernel_rfl
theorem law20_PlatformGenerated_p2_eq {R : Type} (n : Nat) (a0 : Int) (a1 : List (List D)) (a2 : List (List D)) (a3 : Int) (k : Exit → St → Option R) : vexec (law20_PlatformGenerated_C n) n law20_PlatformGenerated_c2 ⟨54, [(0, .d (D.int .i64 a0)), (1, .d (D.sl 1 a1)), (2, .d (D.sl 1 a2)), (3, .d (D.int .i64 a3))], []⟩ k = law20_PlatformGenerated_p2 n a0 a1 a2 a3 (fun z2 => k .normal ⟨54, [(0, .d (D.int .i64 z2)), (1, .d (D.sl 1 a1)), (2, .d (D.sl 1 a2)), (3, .d (D.int .i64 a3))], []⟩) := by kernel_rfl
theorem law20_PlatformGenerated_p3_eq {R : Type} (n : Nat) (w3 : Int) (a1 : List (List D)) (a2 : List (List D)) (a3 : Int) (k : Exit → St → Option R) : vexec (law20_PlatformGenerated_C n) n law20_PlatformGenerated_c3 ⟨54, [(0, .d (D.int .i64 w3)), (1, .d (D.sl 1 a1)), (2, .d (D.sl 1 a2)), (3, .d (D.int .i64 a3))], []⟩ k = law20_PlatformGenerated_p3 n w3 a1 a2 a3 (fun r4 => k .normal ⟨54, [(0, .d (D.int .i64 w3)), (2, .d (D.sl 1 a2)), (3, .d (D.int .i64 a3)), (9, .d (D.sl 3 r4))], []⟩) := by kernel_rfl
theorem law20_PlatformGenerated_p4_eq {R : Type} (n : Nat) (w3 : Int) (a2 : List (List D)) (a3 : Int) (w5 : List (List D)) (k : Exit → St → Option R) : vexec (law20_PlatformGenerated_C n) n law20_PlatformGenerated_c4 ⟨54, [(0, .d (D.int .i64 w3)), (2, .d (D.sl 1 a2)), (3, .d (D.int .i64 a3)), (9, .d (D.sl 3 w5))], []⟩ k = law20_PlatformGenerated_p4 n w3 a2 a3 w5 (k .normal ⟨54, [(0, .d (D.int .i64 w3)), (2, .d (D.sl 1 a2)), (3, .d (D.int .i64 a3)), (9, .d (D.sl 3 w5)), (10, .nil)], []⟩) := by kernel_rfl
theorem law20_PlatformGenerated_p5_eq {R : Type} (n : Nat) (w3 : Int) (a2 : List (List D)) (a3 : Int) (w5 : List (List D)) (k : Exit → St → Option R) : vexec (law20_PlatformGenerated_C n) n law20_PlatformGenerated_c5 ⟨54, [(0, .d (D.int .i64 w3)), (2, .d (D.sl 1 a2)), (3, .d (D.int .i64 a3)), (9, .d (D.sl 3 w5)), (10, .nil)], []⟩ k = law20_PlatformGenerated_p5 n w3 a2 a3 w5 (k .normal ⟨54, [(0, .d (D.int .i64 w3)), (2, .d (D.sl 1 a2)), (3, .d (D.int .i64 a3)), (9, .d (D.sl 3 w5)), (10, .arr 1010), (11, .d (D.int .i64 (0 : Int)))], [(1010, .arr 3 1 [])]⟩) := by kernel_rfl
theorem law20_PlatformGenerated_p6_eq {R : Type} (n : Nat) (w3 : Int) (a2 : List (List D)) (a3 : Int) (w5 : List (List D)) (h10 : Int) (h11 : List (List D)) (k : Exit → St → Option R) : vexec (law20_PlatformGenerated_C n) n law20_PlatformGenerated_c6 ⟨54, [(0, .d (D.int .i64 w3)), (2, .d (D.sl 1 a2)), (3, .d (D.int .i64 a3)), (9, .d (D.sl 3 w5)), (10, .arr 1010), (11, .d (D.int .i64 h10))], [(1010, .arr 3 1 h11)]⟩ k = law20_PlatformGenerated_p6 n w3 a2 a3 w5 h10 h11 (fun z25 z26 => k .normal ⟨54, [(0, .d (D.int .i64 w3)), (2, .d (D.sl 1 a2)), (3, .d (D.int .i64 a3)), (9, .d (D.sl 3 w5)), (10, .arr 1010), (11, .d (D.int .i64 z25))], [(1010, .arr 3 1 z26)]⟩) (fun z27 => k (.exit 0) ⟨54, [(0, .d (D.int .i64 w3)), (2, .d (D.sl 1 a2)), (3, .d (D.int .i64 a3)), (9, .d (D.sl 3 w5)), (10, .arr 1010), (11, .d (D.int .i64 h10)), (27, .d (D.bool z27))], [(1010, .arr 3 1 h11)]⟩) := by kernel_rfl
theorem law20_PlatformGenerated_r7_eq {R : Type} (n : Nat) (w3 : Int) (a2 : List (List D)) (a3 : Int) (w5 : List (List D)) (k : Exit → St → Option R) : ∀ (m : Nat) (h10 : Int) (h11 : List (List D)), loopN (vexec (law20_PlatformGenerated_C n) n law20_PlatformGenerated_c6) m ⟨54, [(0, .d (D.int .i64 w3)), (2, .d (D.sl 1 a2)), (3, .d (D.int .i64 a3)), (9, .d (D.sl 3 w5)), (10, .arr 1010), (11, .d (D.int .i64 h10))], [(1010, .arr 3 1 h11)]⟩ k = law20_PlatformGenerated_r7 n w3 a2 a3 w5 (fun h10 w30 h11 => k (.exit 0) ⟨54, [(0, .d (D.int .i64 w3)), (2, .d (D.sl 1 a2)), (3, .d (D.int .i64 a3)), (9, .d (D.sl 3 w5)), (10, .arr 1010), (11, .d (D.int .i64 h10)), (27, .d (D.bool w30))], [(1010, .arr 3 1 h11)]⟩) m h10 h11
  | 0, _, _ => rfl
  | m + 1, h10, h11 => (law20_PlatformGenerated_p6_eq n w3 a2 a3 w5 h10 h11 (loopK (vexec (law20_PlatformGenerated_C n) n law20_PlatformGenerated_c6) m k)).trans (law20_PlatformGenerated_p6_congr n w3 a2 a3 w5 h10 h11 (fun w28 w29 => law20_PlatformGenerated_r7_eq n w3 a2 a3 w5 k m w28 w29) (fun w30 => rfl))
theorem law20_PlatformGenerated_p7_eq {R : Type} (n : Nat) (w3 : Int) (a2 : List (List D)) (a3 : Int) (w5 : List (List D)) (k : Exit → St → Option R) : vexec (law20_PlatformGenerated_C n) n law20_PlatformGenerated_c7 ⟨54, [(0, .d (D.int .i64 w3)), (2, .d (D.sl 1 a2)), (3, .d (D.int .i64 a3)), (9, .d (D.sl 3 w5)), (10, .arr 1010), (11, .d (D.int .i64 (0 : Int)))], [(1010, .arr 3 1 [])]⟩ k = law20_PlatformGenerated_p7 n w3 a2 a3 w5 (fun h10 w30 h11 => k (.exit 0) ⟨54, [(0, .d (D.int .i64 w3)), (2, .d (D.sl 1 a2)), (3, .d (D.int .i64 a3)), (9, .d (D.sl 3 w5)), (10, .arr 1010), (11, .d (D.int .i64 h10)), (27, .d (D.bool w30))], [(1010, .arr 3 1 h11)]⟩) := by
  rw [law20_PlatformGenerated_c7_eq]
  exact law20_PlatformGenerated_r7_eq n w3 a2 a3 w5 k n (0 : Int) []
theorem law20_PlatformGenerated_p8_eq {R : Type} (n : Nat) (w3 : Int) (a2 : List (List D)) (a3 : Int) (w5 : List (List D)) (k : Exit → St → Option R) : vexec (law20_PlatformGenerated_C n) n law20_PlatformGenerated_c8 ⟨54, [(0, .d (D.int .i64 w3)), (2, .d (D.sl 1 a2)), (3, .d (D.int .i64 a3)), (9, .d (D.sl 3 w5)), (10, .arr 1010), (11, .d (D.int .i64 (0 : Int)))], [(1010, .arr 3 1 [])]⟩ k = law20_PlatformGenerated_p8 n w3 a2 a3 w5 (fun w31 w32 w33 => k .normal ⟨54, [(0, .d (D.int .i64 w3)), (2, .d (D.sl 1 a2)), (3, .d (D.int .i64 a3)), (9, .d (D.sl 3 w5)), (10, .arr 1010), (11, .d (D.int .i64 w31)), (27, .d (D.bool w32))], [(1010, .arr 3 1 w33)]⟩) := by
  rw [law20_PlatformGenerated_c8_eq]
  unfold law20_PlatformGenerated_p8
  exact (law20_PlatformGenerated_p7_eq n w3 a2 a3 w5 (blockK 0 k)).trans (law20_PlatformGenerated_p7_congr n w3 a2 a3 w5 (fun w31 w32 w33 => rfl))
theorem law20_PlatformGenerated_p9_eq {R : Type} (n : Nat) (w3 : Int) (a2 : List (List D)) (a3 : Int) (w5 : List (List D)) (k : Exit → St → Option R) : vexec (law20_PlatformGenerated_C n) n law20_PlatformGenerated_c9 ⟨54, [(0, .d (D.int .i64 w3)), (2, .d (D.sl 1 a2)), (3, .d (D.int .i64 a3)), (9, .d (D.sl 3 w5)), (10, .nil)], []⟩ k = law20_PlatformGenerated_p9 n w3 a2 a3 w5 (fun w34 w35 w36 => k .normal ⟨54, [(0, .d (D.int .i64 w3)), (2, .d (D.sl 1 a2)), (3, .d (D.int .i64 a3)), (9, .d (D.sl 3 w5)), (10, .arr 1010), (11, .d (D.int .i64 w34)), (27, .d (D.bool w35))], [(1010, .arr 3 1 w36)]⟩) := by
  rw [law20_PlatformGenerated_c9_eq]
  unfold law20_PlatformGenerated_p9
  exact (law20_PlatformGenerated_p5_eq n w3 a2 a3 w5 (seqK (law20_PlatformGenerated_C n) n law20_PlatformGenerated_c8 k)).trans (law20_PlatformGenerated_p5_congr n w3 a2 a3 w5 (law20_PlatformGenerated_p8_eq n w3 a2 a3 w5 k))
theorem law20_PlatformGenerated_p10_eq {R : Type} (n : Nat) (w3 : Int) (a2 : List (List D)) (a3 : Int) (w5 : List (List D)) (w37 : Int) (w38 : Bool) (w39 : List (List D)) (k : Exit → St → Option R) : vexec (law20_PlatformGenerated_C n) n law20_PlatformGenerated_c10 ⟨54, [(0, .d (D.int .i64 w3)), (2, .d (D.sl 1 a2)), (3, .d (D.int .i64 a3)), (9, .d (D.sl 3 w5)), (10, .arr 1010), (11, .d (D.int .i64 w37)), (27, .d (D.bool w38))], [(1010, .arr 3 1 w39)]⟩ k = law20_PlatformGenerated_p10 n w3 a2 a3 w5 w37 w38 w39 (fun z44 => k .ret ⟨54, [(8, .d (D.bool z44))], []⟩) := by kernel_rfl
theorem law20_PlatformGenerated_p11_eq {R : Type} (n : Nat) (w3 : Int) (a2 : List (List D)) (a3 : Int) (w5 : List (List D)) (k : Exit → St → Option R) : vexec (law20_PlatformGenerated_C n) n law20_PlatformGenerated_c11 ⟨54, [(0, .d (D.int .i64 w3)), (2, .d (D.sl 1 a2)), (3, .d (D.int .i64 a3)), (9, .d (D.sl 3 w5)), (10, .nil)], []⟩ k = law20_PlatformGenerated_p11 n w3 a2 a3 w5 (fun w45 => k .ret ⟨54, [(8, .d (D.bool w45))], []⟩) := by
  rw [law20_PlatformGenerated_c11_eq]
  unfold law20_PlatformGenerated_p11
  exact (law20_PlatformGenerated_p9_eq n w3 a2 a3 w5 (seqK (law20_PlatformGenerated_C n) n law20_PlatformGenerated_c10 k)).trans (law20_PlatformGenerated_p9_congr n w3 a2 a3 w5 (fun w37 w38 w39 => law20_PlatformGenerated_p10_eq n w3 a2 a3 w5 w37 w38 w39 k))
theorem law20_PlatformGenerated_p12_eq {R : Type} (n : Nat) (w3 : Int) (a2 : List (List D)) (a3 : Int) (w5 : List (List D)) (k : Exit → St → Option R) : vexec (law20_PlatformGenerated_C n) n law20_PlatformGenerated_c12 ⟨54, [(0, .d (D.int .i64 w3)), (2, .d (D.sl 1 a2)), (3, .d (D.int .i64 a3)), (9, .d (D.sl 3 w5))], []⟩ k = law20_PlatformGenerated_p12 n w3 a2 a3 w5 (fun w46 => k .ret ⟨54, [(8, .d (D.bool w46))], []⟩) := by
  rw [law20_PlatformGenerated_c12_eq]
  unfold law20_PlatformGenerated_p12
  exact (law20_PlatformGenerated_p4_eq n w3 a2 a3 w5 (seqK (law20_PlatformGenerated_C n) n law20_PlatformGenerated_c11 k)).trans (law20_PlatformGenerated_p4_congr n w3 a2 a3 w5 (law20_PlatformGenerated_p11_eq n w3 a2 a3 w5 k))
theorem law20_PlatformGenerated_p13_eq {R : Type} (n : Nat) (w3 : Int) (a1 : List (List D)) (a2 : List (List D)) (a3 : Int) (k : Exit → St → Option R) : vexec (law20_PlatformGenerated_C n) n law20_PlatformGenerated_c13 ⟨54, [(0, .d (D.int .i64 w3)), (1, .d (D.sl 1 a1)), (2, .d (D.sl 1 a2)), (3, .d (D.int .i64 a3))], []⟩ k = law20_PlatformGenerated_p13 n w3 a1 a2 a3 (fun w47 => k .ret ⟨54, [(8, .d (D.bool w47))], []⟩) := by
  rw [law20_PlatformGenerated_c13_eq]
  unfold law20_PlatformGenerated_p13
  exact (law20_PlatformGenerated_p3_eq n w3 a1 a2 a3 (seqK (law20_PlatformGenerated_C n) n law20_PlatformGenerated_c12 k)).trans (law20_PlatformGenerated_p3_congr n w3 a1 a2 a3 (fun w5 => law20_PlatformGenerated_p12_eq n w3 a2 a3 w5 k))
theorem law20_PlatformGenerated_p14_eq {R : Type} (n : Nat) (a0 : Int) (a1 : List (List D)) (a2 : List (List D)) (a3 : Int) (k : Exit → St → Option R) : vexec (law20_PlatformGenerated_C n) n law20_PlatformGenerated_c14 ⟨54, [(0, .d (D.int .i64 a0)), (1, .d (D.sl 1 a1)), (2, .d (D.sl 1 a2)), (3, .d (D.int .i64 a3))], []⟩ k = law20_PlatformGenerated_p14 n a0 a1 a2 a3 (fun w48 => k .ret ⟨54, [(8, .d (D.bool w48))], []⟩) := by
  rw [law20_PlatformGenerated_c14_eq]
  unfold law20_PlatformGenerated_p14
  exact (law20_PlatformGenerated_p2_eq n a0 a1 a2 a3 (seqK (law20_PlatformGenerated_C n) n law20_PlatformGenerated_c13 k)).trans (law20_PlatformGenerated_p2_congr n a0 a1 a2 a3 (fun w3 => law20_PlatformGenerated_p13_eq n w3 a1 a2 a3 k))
theorem law20_PlatformGenerated_p15_eq {R : Type} (n : Nat) (a0 : Int) (a1 : List (List D)) (a2 : List (List D)) (a3 : Int) (k : Exit → St → Option R) : vexec (law20_PlatformGenerated_C n) n law20_PlatformGenerated_c0 ⟨54, [(0, .d (D.int .i64 a0)), (1, .d (D.sl 1 a1)), (2, .d (D.sl 1 a2)), (3, .d (D.int .i64 a3))], []⟩ k = law20_PlatformGenerated_p15 n a0 a1 a2 a3 (fun w49 => k .ret ⟨54, [(8, .d (D.bool w49))], []⟩) := by
  rw [law20_PlatformGenerated_c0_eq]
  unfold law20_PlatformGenerated_p15
  exact (law20_PlatformGenerated_p1_eq n a0 a1 a2 a3 (seqK (law20_PlatformGenerated_C n) n law20_PlatformGenerated_c14 k)).trans (law20_PlatformGenerated_p1_congr n a0 a1 a2 a3 (law20_PlatformGenerated_p14_eq n a0 a1 a2 a3 k))
theorem law20_PlatformGenerated_vfn {R : Type} (n : Nat) (a0 : Int) (a1 : List (List D)) (a2 : List (List D)) (a3 : Int) (K : AV → Option R) : vfn (law20_PlatformGenerated_C n) n Try.f7 [.d (D.int .i64 a0), .d (D.sl 1 a1), .d (D.sl 1 a2), .d (D.int .i64 a3)] [] (retF [[0]] K) = law20_PlatformGenerated n a0 a1 a2 a3 (fun r0 => K (.d (D.bool r0))) :=
  (show vfn (law20_PlatformGenerated_C n) n Try.f7 [.d (D.int .i64 a0), .d (D.sl 1 a1), .d (D.sl 1 a2), .d (D.int .i64 a3)] [] (retF [[0]] K) = vexec (law20_PlatformGenerated_C n) n law20_PlatformGenerated_c0 ⟨54, [(0, .d (D.int .i64 a0)), (1, .d (D.sl 1 a1)), (2, .d (D.sl 1 a2)), (3, .d (D.int .i64 a3))], []⟩ (retX law20_PlatformGenerated_tt [.tmp 8] (retF [[0]] K)) from vfn_at (by kernel_rfl) (by kernel_rfl) rfl (by kernel_rfl) rfl (by kernel_rfl) rfl).trans ((law20_PlatformGenerated_p15_eq n a0 a1 a2 a3 (retX law20_PlatformGenerated_tt [.tmp 8] (retF [[0]] K))).trans (by kernel_rfl))
def law20_PlatformGenerated_K : AV → Option (Bool) := fun av => match av with
  | .d (D.bool r0) => some r0
  | _ => none
def law20_PlatformGenerated_e (n : Nat) : Entry := fun _ _ g avs _ k => match avs with
  | [c0, c1, c2, c3] => prI g .i64 c0 fun a0 => prS g 1 c1 fun a1 => prS g 1 c2 fun a2 => prI g .i64 c3 fun a3 => 
    gb g (law20_PlatformGenerated n a0 a1 a2 a3 some) false fun r => k ⟨.d (D.bool r), [], []⟩
  | _ => none
theorem law20_PlatformGenerated_ok (n : Nat) : EntryOK Try.prog 7 (law20_PlatformGenerated_e n) := by
  intro R site g avs hl k r h
  unfold law20_PlatformGenerated_e at h
  split at h
  rotate_left
  · cases h
  replace h := prI_some h
  obtain ⟨a0, h, le0⟩ := h
  replace h := prS_some h
  obtain ⟨a1, h, le1⟩ := h
  replace h := prS_some h
  obtain ⟨a2, h, le2⟩ := h
  replace h := prI_some h
  obtain ⟨a3, h, le3⟩ := h
  replace h := gb_some h
  obtain ⟨res, h, hr⟩ := h
  refine ⟨_, h, fun hg => CallOK.conv (avs' := [.d (D.int .i64 a0), .d (D.sl 1 a1), .d (D.sl 1 a2), .d (D.int .i64 a3)]) (.cons (le0 hg) (.cons (le1 hg) (.cons (le2 hg) (.cons (le3 hg) (.nil))))) (callOK_fix (K := law20_PlatformGenerated_K) (res := res) (law20_PlatformGenerated_VC n) (fn := Try.f7) (n := n) (by kernel_rfl) (by kernel_rfl) (by kernel_rfl) (ss := [[0]]) rfl ?_ ?_)⟩
  · exact (law20_PlatformGenerated_vfn n a0 a1 a2 a3 law20_PlatformGenerated_K).trans (hr hg)
  · intro x hx
    unfold law20_PlatformGenerated_K at hx
    split at hx
    · injection hx with hx; subst hx; rfl
    · cases hx
end Go.Vx
