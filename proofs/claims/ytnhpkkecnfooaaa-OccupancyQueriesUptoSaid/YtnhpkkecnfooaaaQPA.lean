/- Part of a proof: texts Vpkeep Pick Vpoccupancy Valid VisOc VisOd VisOe VisOf VisOg VisOh VisOi VisOj VisOz Vparith CeilDiv Vparith FloorDiv Vpoccupancy conflict Vprailplan occupancy Free 1 s1 Vpoccupancy. No conditions of their own. -/
import Derived.Test.YtnhpkkecnfooaaaProg
import Derived.Test.YtnhpkkecnfooaaaQVC
import Derived.Test.YtnhpkkecnfooaaaQFA
import Derived.Maps.OwnRows
import Derived.Maps.GroupsBeside
import Derived.WalkKit
import Derived.Shelf.Sort.Plain
import Derived.Ground.Names2Prog
import Derived.Shelf.Slices.CompactI
import Derived.Shelf.Slices.In.SortNone
/-
  keep_Pick: the interpreter computes the pure function
-/
set_option linter.unusedVariables false
set_option linter.unusedSimpArgs false
set_option maxRecDepth 100000
namespace Go.Vx
open Go.Proofs
noncomputable def keep_Pick_c0 : Code := bodyOf Try.f7
def keep_Pick_tt : TT := [(3, ⟨.int .i64, 1, 8, [.int .i64 0], [.int .i64 0], [], none⟩), (40, ⟨.int .u64, 1, 8, [.int .u64 0], [.int .u64 0], [], none⟩)]
theorem keep_Pick_tt_eq : mkTT Try.prog [3, 40] = keep_Pick_tt := by kernel_rfl
def keep_Pick_cfg : List (Nat × Cfg) := [(0, ⟨[0, 1], [], [], [], []⟩), (1, ⟨[4], [], [], [], []⟩)]
def keep_Pick_C (n : Nat) : VC := ⟨specOf [], keep_Pick_tt, keep_Pick_cfg⟩
theorem keep_Pick_ents (n : Nat) : EntsOK Try.prog [] := trivial
theorem keep_Pick_VC (n : Nat) : VCOk Try.prog (keep_Pick_C n) := ⟨specOf_ok (keep_Pick_ents n), (keep_Pick_tt_eq ▸ mkTT_ok _ : TOk Try.prog keep_Pick_tt), by kernel_rfl⟩
theorem keep_Pick_p1_congr {R : Type} (n : Nat) (a0 : Int) (a1 : Int) {k0 kk0 : Int → Option R} (hq0 : ∀ x0, k0 x0 = kk0 x0) : keep_Pick_p1 n a0 a1 k0 = keep_Pick_p1 n a0 a1 kk0 := by
  obtain rfl : k0 = kk0 := funext fun x0 => hq0 x0
  rfl
theorem keep_Pick_p1_eq {R : Type} (n : Nat) (a0 : Int) (a1 : Int) (k : Exit → St → Option R) : vexec (keep_Pick_C n) n keep_Pick_c0 ⟨11, [(0, .d (D.int .i64 a0)), (1, .d (D.int .i64 a1))], []⟩ k = keep_Pick_p1 n a0 a1 (fun z2 => k .ret ⟨11, [(4, .d (D.int .i64 z2))], []⟩) := by kernel_rfl
theorem keep_Pick_vfn {R : Type} (n : Nat) (a0 : Int) (a1 : Int) (K : AV → Option R) : vfn (keep_Pick_C n) n Try.f7 [.d (D.int .i64 a0), .d (D.int .i64 a1)] [] (retF [[0]] K) = keep_Pick n a0 a1 (fun r0 => K (.d (D.int .i64 r0))) :=
  (show vfn (keep_Pick_C n) n Try.f7 [.d (D.int .i64 a0), .d (D.int .i64 a1)] [] (retF [[0]] K) = vexec (keep_Pick_C n) n keep_Pick_c0 ⟨11, [(0, .d (D.int .i64 a0)), (1, .d (D.int .i64 a1))], []⟩ (retX keep_Pick_tt [.tmp 4] (retF [[0]] K)) from vfn_at (by kernel_rfl) (by kernel_rfl) rfl (by kernel_rfl) rfl (by kernel_rfl) rfl).trans ((keep_Pick_p1_eq n a0 a1 (retX keep_Pick_tt [.tmp 4] (retF [[0]] K))).trans (by kernel_rfl))
def keep_Pick_K : AV → Option (Int) := fun av => match av with
  | .d (D.int .i64 r0) => some r0
  | _ => none
def keep_Pick_e (n : Nat) : Entry := fun _ _ g avs _ k => match avs with
  | [c0, c1] => prI g .i64 c0 fun a0 => prI g .i64 c1 fun a1 => 
    gb g (keep_Pick n a0 a1 some) 0 fun r => k ⟨.d (D.int .i64 r), [], []⟩
  | _ => none
theorem keep_Pick_ok (n : Nat) : EntryOK Try.prog 7 (keep_Pick_e n) := by
  intro R site g avs hl k r h
  unfold keep_Pick_e at h
  split at h
  rotate_left
  · cases h
  replace h := prI_some h
  obtain ⟨a0, h, le0⟩ := h
  replace h := prI_some h
  obtain ⟨a1, h, le1⟩ := h
  replace h := gb_some h
  obtain ⟨res, h, hr⟩ := h
  refine ⟨_, h, fun hg => CallOK.conv (avs' := [.d (D.int .i64 a0), .d (D.int .i64 a1)]) (.cons (le0 hg) (.cons (le1 hg) (.nil))) (callOK_fix (K := keep_Pick_K) (res := res) (keep_Pick_VC n) (fn := Try.f7) (n := n) (by kernel_rfl) (by kernel_rfl) (by kernel_rfl) (ss := [[0]]) rfl ?_ ?_)⟩
  · exact (keep_Pick_vfn n a0 a1 keep_Pick_K).trans (hr hg)
  · intro x hx
    unfold keep_Pick_K at hx
    split at hx
    · injection hx with hx; subst hx; rfl
    · cases hx
end Go.Vx
/-
  occupancy_Valid: the interpreter computes the pure function
-/
set_option linter.unusedVariables false
set_option linter.unusedSimpArgs false
set_option maxRecDepth 100000
namespace Go.Vx
open Go.Proofs
noncomputable def occupancy_Valid_c0 : Code := bodyOf Try.f19
noncomputable def occupancy_Valid_c1 : Code := cL (bodyOf Try.f19)
noncomputable def occupancy_Valid_c2 : Code := cL (cR (bodyOf Try.f19))
noncomputable def occupancy_Valid_c3 : Code := cL (cL (cR (cR (bodyOf Try.f19))))
noncomputable def occupancy_Valid_c4 : Code := cB (cB (cR (cL (cR (cR (bodyOf Try.f19))))))
noncomputable def occupancy_Valid_c5 : Code := cB (cR (cL (cR (cR (bodyOf Try.f19)))))
noncomputable def occupancy_Valid_c6 : Code := cR (cL (cR (cR (bodyOf Try.f19))))
noncomputable def occupancy_Valid_c7 : Code := cL (cR (cR (bodyOf Try.f19)))
noncomputable def occupancy_Valid_c8 : Code := cR (cR (cR (bodyOf Try.f19)))
noncomputable def occupancy_Valid_c9 : Code := cR (cR (bodyOf Try.f19))
noncomputable def occupancy_Valid_c10 : Code := cR (bodyOf Try.f19)
theorem occupancy_Valid_c5_eq : occupancy_Valid_c5 = .loop occupancy_Valid_c4 := by kernel_rfl
theorem occupancy_Valid_c6_eq : occupancy_Valid_c6 = .block 0 occupancy_Valid_c5 := by kernel_rfl
theorem occupancy_Valid_c7_eq : occupancy_Valid_c7 = .seq occupancy_Valid_c3 occupancy_Valid_c6 := by kernel_rfl
theorem occupancy_Valid_c9_eq : occupancy_Valid_c9 = .seq occupancy_Valid_c7 occupancy_Valid_c8 := by kernel_rfl
theorem occupancy_Valid_c10_eq : occupancy_Valid_c10 = .seq occupancy_Valid_c2 occupancy_Valid_c9 := by kernel_rfl
theorem occupancy_Valid_c0_eq : occupancy_Valid_c0 = .seq occupancy_Valid_c1 occupancy_Valid_c10 := by kernel_rfl
def occupancy_Valid_tt : TT := [(3, ⟨.int .i64, 1, 8, [.int .i64 0], [.int .i64 0], [], none⟩), (24, ⟨.sl 31 5, 1, 24, [.slice none 0 0], [.sl 5 []], [], none⟩), (31, ⟨.struct, 5, 40, [.int .i64 0, .int .i64 0, .int .i64 0, .int .i64 0, .int .i64 0], [.int .i64 0, .int .i64 0, .int .i64 0, .int .i64 0, .int .i64 0], [(0, 3), (1, 3), (2, 3), (3, 3), (4, 3)], some [.int .i64, .int .i64, .int .i64, .int .i64, .int .i64]⟩)]
theorem occupancy_Valid_tt_eq : mkTT Try.prog [3, 24, 31] = occupancy_Valid_tt := by kernel_rfl
def occupancy_Valid_cfg : List (Nat × Cfg) := [(0, ⟨[0, 1], [], [], [], []⟩), (1, ⟨[1, 12], [], [], [], []⟩), (2, ⟨[4], [], [], [], []⟩), (3, ⟨[13, 14, 15], [], [], [], []⟩), (4, ⟨[13, 14, 15, 16], [], [], [], []⟩), (5, ⟨[6, 13, 14, 15], [(6, 6)], [], [], []⟩), (6, ⟨[6, 13, 14, 15, 36], [(6, 6)], [], [], []⟩), (7, ⟨[4], [], [], [], []⟩), (8, ⟨[13, 14, 15, 54], [], [], [], []⟩), (9, ⟨[4], [], [], [], []⟩), (10, ⟨[13, 14, 15], [], [], [], []⟩), (11, ⟨[4], [], [], [], []⟩)]
def occupancy_Valid_C (n : Nat) : VC := ⟨specOf [], occupancy_Valid_tt, occupancy_Valid_cfg⟩
theorem occupancy_Valid_ents (n : Nat) : EntsOK Try.prog [] := trivial
theorem occupancy_Valid_VC (n : Nat) : VCOk Try.prog (occupancy_Valid_C n) := ⟨specOf_ok (occupancy_Valid_ents n), (occupancy_Valid_tt_eq ▸ mkTT_ok _ : TOk Try.prog occupancy_Valid_tt), by kernel_rfl⟩
theorem occupancy_Valid_p1_congr {R : Type} (n : Nat) (a0 : Int) (a1 : List (List D)) {k0 kk0 : Option R} (hq0 : k0 = kk0) : occupancy_Valid_p1 n a0 a1 k0 = occupancy_Valid_p1 n a0 a1 kk0 := by
  obtain rfl : k0 = kk0 := hq0
  rfl
theorem occupancy_Valid_p2_congr {R : Type} (n : Nat) (a0 : Int) (a1 : List (List D)) {k0 kk0 : Option R} {k1 kk1 : Bool → Option R} (hq0 : k0 = kk0) (hq1 : ∀ x0, k1 x0 = kk1 x0) : occupancy_Valid_p2 n a0 a1 k0 k1 = occupancy_Valid_p2 n a0 a1 kk0 kk1 := by
  obtain rfl : k0 = kk0 := hq0
  obtain rfl : k1 = kk1 := funext fun x0 => hq1 x0
  rfl
theorem occupancy_Valid_p3_congr {R : Type} (n : Nat) (a1 : List (List D)) (w2 : Bool) {k0 kk0 : Int → Option R} (hq0 : ∀ x0, k0 x0 = kk0 x0) : occupancy_Valid_p3 n a1 w2 k0 = occupancy_Valid_p3 n a1 w2 kk0 := by
  obtain rfl : k0 = kk0 := funext fun x0 => hq0 x0
  rfl
theorem occupancy_Valid_p4_congr {R : Type} (n : Nat) (a1 : List (List D)) (w4 : Int) (h7 : Int) {k0 kk0 : Option R} {k1 kk1 : Int → Option R} {k2 kk2 : Bool → Option R} (hq0 : k0 = kk0) (hq1 : ∀ x0, k1 x0 = kk1 x0) (hq2 : ∀ x0, k2 x0 = kk2 x0) : occupancy_Valid_p4 n a1 w4 h7 k0 k1 k2 = occupancy_Valid_p4 n a1 w4 h7 kk0 kk1 kk2 := by
  obtain rfl : k0 = kk0 := hq0
  obtain rfl : k1 = kk1 := funext fun x0 => hq1 x0
  obtain rfl : k2 = kk2 := funext fun x0 => hq2 x0
  rfl
theorem occupancy_Valid_p5_congr {R : Type} (n : Nat) (a1 : List (List D)) (w4 : Int) {k0 kk0 : Option R} {k1 kk1 : Int → Bool → Option R} (hq0 : k0 = kk0) (hq1 : ∀ x0 x1, k1 x0 x1 = kk1 x0 x1) : occupancy_Valid_p5 n a1 w4 k0 k1 = occupancy_Valid_p5 n a1 w4 kk0 kk1 := by
  obtain rfl : k0 = kk0 := hq0
  obtain rfl : k1 = kk1 := funext fun x0 => funext fun x1 => hq1 x0 x1
  rfl
theorem occupancy_Valid_p6_congr {R : Type} (n : Nat) (a1 : List (List D)) (w4 : Int) {k0 kk0 : Option R} {k1 kk1 : Int → Bool → Option R} (hq0 : k0 = kk0) (hq1 : ∀ x0 x1, k1 x0 x1 = kk1 x0 x1) : occupancy_Valid_p6 n a1 w4 k0 k1 = occupancy_Valid_p6 n a1 w4 kk0 kk1 := by
  obtain rfl : k0 = kk0 := hq0
  obtain rfl : k1 = kk1 := funext fun x0 => funext fun x1 => hq1 x0 x1
  rfl
theorem occupancy_Valid_p7_congr {R : Type} (n : Nat) (a1 : List (List D)) (w2 : Bool) {k0 kk0 : Option R} {k1 kk1 : Int → Int → Bool → Option R} (hq0 : k0 = kk0) (hq1 : ∀ x0 x1 x2, k1 x0 x1 x2 = kk1 x0 x1 x2) : occupancy_Valid_p7 n a1 w2 k0 k1 = occupancy_Valid_p7 n a1 w2 kk0 kk1 := by
  obtain rfl : k0 = kk0 := hq0
  obtain rfl : k1 = kk1 := funext fun x0 => funext fun x1 => funext fun x2 => hq1 x0 x1 x2
  rfl
theorem occupancy_Valid_p8_congr {R : Type} (n : Nat) (a1 : List (List D)) (w46 : Int) (w47 : Int) (w48 : Bool) {k0 kk0 : Option R} (hq0 : k0 = kk0) : occupancy_Valid_p8 n a1 w46 w47 w48 k0 = occupancy_Valid_p8 n a1 w46 w47 w48 kk0 := by
  obtain rfl : k0 = kk0 := hq0
  rfl
theorem occupancy_Valid_p9_congr {R : Type} (n : Nat) (a1 : List (List D)) (w2 : Bool) {k0 kk0 : Bool → Option R} (hq0 : ∀ x0, k0 x0 = kk0 x0) : occupancy_Valid_p9 n a1 w2 k0 = occupancy_Valid_p9 n a1 w2 kk0 := by
  obtain rfl : k0 = kk0 := funext fun x0 => hq0 x0
  rfl
theorem occupancy_Valid_p10_congr {R : Type} (n : Nat) (a0 : Int) (a1 : List (List D)) {k0 kk0 : Bool → Option R} (hq0 : ∀ x0, k0 x0 = kk0 x0) : occupancy_Valid_p10 n a0 a1 k0 = occupancy_Valid_p10 n a0 a1 kk0 := by
  obtain rfl : k0 = kk0 := funext fun x0 => hq0 x0
  rfl
theorem occupancy_Valid_p11_congr {R : Type} (n : Nat) (a0 : Int) (a1 : List (List D)) {k0 kk0 : Bool → Option R} (hq0 : ∀ x0, k0 x0 = kk0 x0) : occupancy_Valid_p11 n a0 a1 k0 = occupancy_Valid_p11 n a0 a1 kk0 := by
  obtain rfl : k0 = kk0 := funext fun x0 => hq0 x0
  rfl
theorem occupancy_Valid_p1_eq {R : Type} (n : Nat) (a0 : Int) (a1 : List (List D)) (k : Exit → St → Option R) : vexec (occupancy_Valid_C n) n occupancy_Valid_c1 ⟨56, [(0, .d (D.int .i64 a0)), (1, .d (D.sl 5 a1))], []⟩ k = occupancy_Valid_p1 n a0 a1 (k .normal ⟨56, [(0, .d (D.int .i64 a0)), (1, .d (D.sl 5 a1))], []⟩) := by kernel_rfl
theorem occupancy_Valid_p2_eq {R : Type} (n : Nat) (a0 : Int) (a1 : List (List D)) (k : Exit → St → Option R) : vexec (occupancy_Valid_C n) n occupancy_Valid_c2 ⟨56, [(0, .d (D.int .i64 a0)), (1, .d (D.sl 5 a1))], []⟩ k = occupancy_Valid_p2 n a0 a1 (k .ret ⟨56, [(4, .d (D.bool false))], []⟩) (fun z1 => k .normal ⟨56, [(1, .d (D.sl 5 a1)), (12, .d (D.bool z1))], []⟩) := by kernel_rfl
theorem occupancy_Valid_p3_eq {R : Type} (n : Nat) (a1 : List (List D)) (w2 : Bool) (k : Exit → St → Option R) : vexec (occupancy_Valid_C n) n occupancy_Valid_c3 ⟨56, [(1, .d (D.sl 5 a1)), (12, .d (D.bool w2))], []⟩ k = occupancy_Valid_p3 n a1 w2 (fun z3 => k .normal ⟨56, [(13, .d (D.sl 5 a1)), (14, .d (D.int .i64 z3)), (15, .d (D.int .i64 (0 : Int)))], []⟩) := by kernel_rfl
theorem occupancy_Valid_p4_eq {R : Type} (n : Nat) (a1 : List (List D)) (w4 : Int) (h7 : Int) (k : Exit → St → Option R) : vexec (occupancy_Valid_C n) n occupancy_Valid_c4 ⟨56, [(13, .d (D.sl 5 a1)), (14, .d (D.int .i64 w4)), (15, .d (D.int .i64 h7))], []⟩ k = occupancy_Valid_p4 n a1 w4 h7 (k .ret ⟨56, [(4, .d (D.bool false))], []⟩) (fun z38 => k .normal ⟨56, [(13, .d (D.sl 5 a1)), (14, .d (D.int .i64 w4)), (15, .d (D.int .i64 z38))], []⟩) (fun z39 => k (.exit 0) ⟨56, [(13, .d (D.sl 5 a1)), (14, .d (D.int .i64 w4)), (15, .d (D.int .i64 h7)), (16, .d (D.bool z39))], []⟩) := by kernel_rfl
theorem occupancy_Valid_r5_eq {R : Type} (n : Nat) (a1 : List (List D)) (w4 : Int) (k : Exit → St → Option R) : ∀ (m : Nat) (h7 : Int), loopN (vexec (occupancy_Valid_C n) n occupancy_Valid_c4) m ⟨56, [(13, .d (D.sl 5 a1)), (14, .d (D.int .i64 w4)), (15, .d (D.int .i64 h7))], []⟩ k = occupancy_Valid_r5 n a1 w4 (k .ret ⟨56, [(4, .d (D.bool false))], []⟩) (fun h7 w41 => k (.exit 0) ⟨56, [(13, .d (D.sl 5 a1)), (14, .d (D.int .i64 w4)), (15, .d (D.int .i64 h7)), (16, .d (D.bool w41))], []⟩) m h7
  | 0, _ => rfl
  | m + 1, h7 => (occupancy_Valid_p4_eq n a1 w4 h7 (loopK (vexec (occupancy_Valid_C n) n occupancy_Valid_c4) m k)).trans (occupancy_Valid_p4_congr n a1 w4 h7 (rfl) (fun w40 => occupancy_Valid_r5_eq n a1 w4 k m w40) (fun w41 => rfl))
theorem occupancy_Valid_p5_eq {R : Type} (n : Nat) (a1 : List (List D)) (w4 : Int) (k : Exit → St → Option R) : vexec (occupancy_Valid_C n) n occupancy_Valid_c5 ⟨56, [(13, .d (D.sl 5 a1)), (14, .d (D.int .i64 w4)), (15, .d (D.int .i64 (0 : Int)))], []⟩ k = occupancy_Valid_p5 n a1 w4 (k .ret ⟨56, [(4, .d (D.bool false))], []⟩) (fun h7 w41 => k (.exit 0) ⟨56, [(13, .d (D.sl 5 a1)), (14, .d (D.int .i64 w4)), (15, .d (D.int .i64 h7)), (16, .d (D.bool w41))], []⟩) := by
  rw [occupancy_Valid_c5_eq]
  exact occupancy_Valid_r5_eq n a1 w4 k n (0 : Int)
theorem occupancy_Valid_p6_eq {R : Type} (n : Nat) (a1 : List (List D)) (w4 : Int) (k : Exit → St → Option R) : vexec (occupancy_Valid_C n) n occupancy_Valid_c6 ⟨56, [(13, .d (D.sl 5 a1)), (14, .d (D.int .i64 w4)), (15, .d (D.int .i64 (0 : Int)))], []⟩ k = occupancy_Valid_p6 n a1 w4 (k .ret ⟨56, [(4, .d (D.bool false))], []⟩) (fun w42 w43 => k .normal ⟨56, [(13, .d (D.sl 5 a1)), (14, .d (D.int .i64 w4)), (15, .d (D.int .i64 w42)), (16, .d (D.bool w43))], []⟩) := by
  rw [occupancy_Valid_c6_eq]
  unfold occupancy_Valid_p6
  exact (occupancy_Valid_p5_eq n a1 w4 (blockK 0 k)).trans (occupancy_Valid_p5_congr n a1 w4 (rfl) (fun w42 w43 => rfl))
theorem occupancy_Valid_p7_eq {R : Type} (n : Nat) (a1 : List (List D)) (w2 : Bool) (k : Exit → St → Option R) : vexec (occupancy_Valid_C n) n occupancy_Valid_c7 ⟨56, [(1, .d (D.sl 5 a1)), (12, .d (D.bool w2))], []⟩ k = occupancy_Valid_p7 n a1 w2 (k .ret ⟨56, [(4, .d (D.bool false))], []⟩) (fun w4 w44 w45 => k .normal ⟨56, [(13, .d (D.sl 5 a1)), (14, .d (D.int .i64 w4)), (15, .d (D.int .i64 w44)), (16, .d (D.bool w45))], []⟩) := by
  rw [occupancy_Valid_c7_eq]
  unfold occupancy_Valid_p7
  exact (occupancy_Valid_p3_eq n a1 w2 (seqK (occupancy_Valid_C n) n occupancy_Valid_c6 k)).trans (occupancy_Valid_p3_congr n a1 w2 (fun w4 => occupancy_Valid_p6_eq n a1 w4 k))
theorem occupancy_Valid_p8_eq {R : Type} (n : Nat) (a1 : List (List D)) (w46 : Int) (w47 : Int) (w48 : Bool) (k : Exit → St → Option R) : vexec (occupancy_Valid_C n) n occupancy_Valid_c8 ⟨56, [(13, .d (D.sl 5 a1)), (14, .d (D.int .i64 w46)), (15, .d (D.int .i64 w47)), (16, .d (D.bool w48))], []⟩ k = occupancy_Valid_p8 n a1 w46 w47 w48 (k .ret ⟨56, [(4, .d (D.bool true))], []⟩) := by kernel_rfl
theorem occupancy_Valid_p9_eq {R : Type} (n : Nat) (a1 : List (List D)) (w2 : Bool) (k : Exit → St → Option R) : vexec (occupancy_Valid_C n) n occupancy_Valid_c9 ⟨56, [(1, .d (D.sl 5 a1)), (12, .d (D.bool w2))], []⟩ k = occupancy_Valid_p9 n a1 w2 (fun z49 => k .ret ⟨56, [(4, .d (D.bool z49))], []⟩) := by
  rw [occupancy_Valid_c9_eq]
  unfold occupancy_Valid_p9
  exact (occupancy_Valid_p7_eq n a1 w2 (seqK (occupancy_Valid_C n) n occupancy_Valid_c8 k)).trans (occupancy_Valid_p7_congr n a1 w2 (rfl) (fun w46 w47 w48 => occupancy_Valid_p8_eq n a1 w46 w47 w48 k))
theorem occupancy_Valid_p10_eq {R : Type} (n : Nat) (a0 : Int) (a1 : List (List D)) (k : Exit → St → Option R) : vexec (occupancy_Valid_C n) n occupancy_Valid_c10 ⟨56, [(0, .d (D.int .i64 a0)), (1, .d (D.sl 5 a1))], []⟩ k = occupancy_Valid_p10 n a0 a1 (fun z51 => k .ret ⟨56, [(4, .d (D.bool z51))], []⟩) := by
  rw [occupancy_Valid_c10_eq]
  unfold occupancy_Valid_p10
  exact (occupancy_Valid_p2_eq n a0 a1 (seqK (occupancy_Valid_C n) n occupancy_Valid_c9 k)).trans (occupancy_Valid_p2_congr n a0 a1 (rfl) (fun w2 => occupancy_Valid_p9_eq n a1 w2 k))
theorem occupancy_Valid_p11_eq {R : Type} (n : Nat) (a0 : Int) (a1 : List (List D)) (k : Exit → St → Option R) : vexec (occupancy_Valid_C n) n occupancy_Valid_c0 ⟨56, [(0, .d (D.int .i64 a0)), (1, .d (D.sl 5 a1))], []⟩ k = occupancy_Valid_p11 n a0 a1 (fun w52 => k .ret ⟨56, [(4, .d (D.bool w52))], []⟩) := by
  rw [occupancy_Valid_c0_eq]
  unfold occupancy_Valid_p11
  exact (occupancy_Valid_p1_eq n a0 a1 (seqK (occupancy_Valid_C n) n occupancy_Valid_c10 k)).trans (occupancy_Valid_p1_congr n a0 a1 (occupancy_Valid_p10_eq n a0 a1 k))
theorem occupancy_Valid_vfn {R : Type} (n : Nat) (a0 : Int) (a1 : List (List D)) (K : AV → Option R) : vfn (occupancy_Valid_C n) n Try.f19 [.d (D.int .i64 a0), .d (D.sl 5 a1)] [] (retF [[0]] K) = occupancy_Valid n a0 a1 (fun r0 => K (.d (D.bool r0))) :=
  (show vfn (occupancy_Valid_C n) n Try.f19 [.d (D.int .i64 a0), .d (D.sl 5 a1)] [] (retF [[0]] K) = vexec (occupancy_Valid_C n) n occupancy_Valid_c0 ⟨56, [(0, .d (D.int .i64 a0)), (1, .d (D.sl 5 a1))], []⟩ (retX occupancy_Valid_tt [.tmp 4] (retF [[0]] K)) from vfn_at (by kernel_rfl) (by kernel_rfl) rfl (by kernel_rfl) rfl (by kernel_rfl) rfl).trans ((occupancy_Valid_p11_eq n a0 a1 (retX occupancy_Valid_tt [.tmp 4] (retF [[0]] K))).trans (by kernel_rfl))
def occupancy_Valid_K : AV → Option (Bool) := fun av => match av with
  | .d (D.bool r0) => some r0
  | _ => none
def occupancy_Valid_e (n : Nat) : Entry := fun _ _ g avs _ k => match avs with
  | [c0, c1] => prI g .i64 c0 fun a0 => prS g 5 c1 fun a1 => 
    gb g (occupancy_Valid n a0 a1 some) false fun r => k ⟨.d (D.bool r), [], []⟩
  | _ => none
theorem occupancy_Valid_ok (n : Nat) : EntryOK Try.prog 19 (occupancy_Valid_e n) := by
  intro R site g avs hl k r h
  unfold occupancy_Valid_e at h
  split at h
  rotate_left
  · cases h
  replace h := prI_some h
  obtain ⟨a0, h, le0⟩ := h
  replace h := prS_some h
  obtain ⟨a1, h, le1⟩ := h
  replace h := gb_some h
  obtain ⟨res, h, hr⟩ := h
  refine ⟨_, h, fun hg => CallOK.conv (avs' := [.d (D.int .i64 a0), .d (D.sl 5 a1)]) (.cons (le0 hg) (.cons (le1 hg) (.nil))) (callOK_fix (K := occupancy_Valid_K) (res := res) (occupancy_Valid_VC n) (fn := Try.f19) (n := n) (by kernel_rfl) (by kernel_rfl) (by kernel_rfl) (ss := [[0]]) rfl ?_ ?_)⟩
  · exact (occupancy_Valid_vfn n a0 a1 occupancy_Valid_K).trans (hr hg)
  · intro x hx
    unfold occupancy_Valid_K at hx
    split at hx
    · injection hx with hx; subst hx; rfl
    · cases hx
end Go.Vx
/-
  occupancy.visit: the part that groups the uses by their resources, by the library's laws for maps of slices.
-/
set_option linter.unusedVariables false
set_option linter.unusedSimpArgs false
namespace Go.Vx
open Go.Proofs Go.Maps Go.RowKit

/-- An operation, as the region's text has it. -/
structure OpAt (ops : Array Oper) (i : Nat) (dst : Option Nat) (op : Op) : Prop where
  ex : ∃ o, ops[i]? = some o ∧ o.dst = dst ∧ o.op = op ∧ o.guard = none

theorem wpOp_of {P : Program} {ops : Array Oper} {i : Nat} {dst : Option Nat} {op : Op} (h : OpAt ops i dst op) {Q : Exit → Act → World → Prop} {K : Act → World → Prop} {a : Act} {w : World} {v : Value} {w' : World}
    (hr : ∀ o : Oper, o.op = op → (execOp a.eval o).run P w = .ok (.value v) w') (hK : K (a.put dst v) w') : wpOp P ops Q i K a w := by
  obtain ⟨o, h1, h2, h3, h4⟩ := h.ex
  unfold wpOp
  simp only [h1, Region.wanted, h4, if_true]
  left
  unfold Oper.wp
  rw [hr o h3]
  subst h2
  exact hK

theorem ex_move {P : Program} {a : Act} {w : World} {x : Operand} (o : Oper) (h : o.op = .move x) : (execOp a.eval o).run P w = .ok (.value (a.eval x)) w := by
  unfold execOp; rw [h]; simp
theorem ex_field (a : Act) (w : World) (b : Nat) (hx : a.eval (.tmp 9) = .pointer (some ⟨b, 0, none⟩)) (o : Oper) (h : o.op = .fieldAddr 31 (.tmp 9) 0) : (execOp a.eval o).run Try.prog w = .ok (.value (.pointer (some ⟨b, 0, none⟩))) w := by
  have hf : (Instr.fieldAt 31 (.pointer (some ⟨b, 0, none⟩)) 0).run Try.prog w = .ok (.pointer (some ⟨b, 0, none⟩)) w := by kernel_rfl
  unfold execOp; rw [h]
  simp [hx, hf]
theorem ex_load (a : Act) (w : World) (b t : Nat) (v : Value) (hx : a.eval (.tmp t) = .pointer (some ⟨b, 0, none⟩)) (hc : w.cell? ⟨b, 0, none⟩ = some v) (o : Oper) (h : o.op = .load 3 (.tmp t)) : (execOp a.eval o).run Try.prog w = .ok (.value v) w := by
  refine run_load_op h hx ?_
  simp [loadVar, Try.isAgg3, hc]
theorem ex_lookup (a : Act) (w : World) (m x : Nat) (b : Nat) (key v : Value) (hm : a.eval (.tmp m) = .map (some b)) (hx : a.eval (.tmp x) = key) (hl : (Instr.lookup 52 (.map (some b)) key false).run Try.prog w = .ok v w) (o : Oper) (h : o.op = .lookup 52 (.tmp m) (.tmp x) false) :
    (execOp a.eval o).run Try.prog w = .ok (.value v) w := by
  unfold execOp; rw [h]
  simp [hm, hx, hl]

theorem ex_build (a : Act) (w : World) (t : Nat) (v : Value) (h1 : v.cells = #[v]) (hx : a.eval (.tmp t) = v) (o : Oper) (h : o.op = .buildSlice 22 1 #[(0, .tmp t)]) :
    (execOp a.eval o).run Try.prog w = .ok (.value (.slice (some ⟨w.heap.size, 0, none⟩) 1 1)) (w.alloc (.cells #[v] 3)) := by
  unfold execOp; rw [h]
  simp [hx, Instr.buildSlice, run_underlying Try.underlying22, Try.sizeOf3, Try.zeroValue3, Instr.fill, newRow, h1]
  congr 2
  apply Array.ext
  · simp
  · intro i h1 h2
    have hi : i = 0 := by simp at h2; omega
    subst hi
    simp

theorem ex_append (a : Act) (w : World) (s x : Nat) (v y v' : Value) (w' : World) (hs : a.eval (.tmp s) = v) (hx : a.eval (.tmp x) = y) (hr : ∀ ty, (Builtin.append_ #[22, 22] ty #[v, y]).run Try.prog w = .ok v' w') (o : Oper) (h : o.op = .call { callee := .builtin .append, args := #[.tmp s, .tmp x], argTypes := #[22, 22] }) :
    (execOp a.eval o).run Try.prog w = .ok (.value v') w' := by
  unfold execOp
  simp only [h, resolve, invoke, builtin, Sem.run_bind, Sem.run_pure, Result.andThen_ok, List.map_toArray, List.map_cons, List.map_nil, hs, hx, hr]

theorem wpOp_update {ops : Array Oper} {i : Nat} {m x y b : Nat} (h : OpAt ops i none (.mapUpdate 52 (.tmp m) (.tmp x) (.tmp y))) {Q : Exit → Act → World → Prop} {K : Act → World → Prop} {a : Act} {w w' : World} {key v : Value}
    (hm : a.eval (.tmp m) = .map (some b)) (hx : a.eval (.tmp x) = key) (hy : a.eval (.tmp y) = v) (hr : (Instr.mapUpdate 52 (.map (some b)) key v).run Try.prog w = .ok () w') (hK : K a w') : wpOp Try.prog ops Q i K a w := by
  obtain ⟨o, h1, h2, h3, h4⟩ := h.ex
  unfold wpOp
  simp only [h1, Region.wanted, h4, if_true]
  left
  unfold Oper.wp
  simp [execOp, h3, hm, hx, hy, hr, Result.andThen]
  show K (a.put o.dst undef) w'
  rw [h2]
  exact hK

/-! the region in which a group grows -/

def waitB (ops : Array Oper) (i j : Nat) : Bool := match ops[i]? with
  | some o => o.after.toList.any fun e => Region.binds .any e && Nat.beq e.on j
  | none => false

theorem wait_lst {ops : Array Oper} {listed : Array Bool} {i j : Nat} {o : Oper} (h : waitB ops i j = true) (ho : ops[i]? = some o) (hp : Preds listed o.after.toList) : Lst listed j := by
  unfold waitB at h
  rw [ho] at h
  obtain ⟨e, he, hb⟩ := List.any_eq_true.1 h
  simp only [Bool.and_eq_true] at hb
  have := hp e he hb.1
  rwa [Nat.eq_of_beq_eq_true hb.2] at this

theorem wait_closed {ops : Array Oper} {listed : Array Bool} {i j : Nat} (h : waitB ops i j = true) (hc : Closed ops.toList listed) (hl : Lst listed i) : Lst listed j := by
  cases ho : ops[i]? with
  | none => unfold waitB at h; rw [ho] at h; cases h
  | some o => exact wait_lst h ho (hc i o (by rw [Array.getElem?_toList]; exact ho) hl)

theorem eval_tmv (a : Act) (t : Nat) : a.eval (.tmp t) = tmv a t := rfl

def edges6 : List (Nat × Nat) := [(2, 1), (5, 4), (6, 3), (6, 5), (8, 7), (9, 6), (9, 8), (10, 0), (10, 1), (10, 2), (10, 3), (10, 4), (10, 5), (10, 6), (10, 7), (10, 8), (10, 9)]

structure R6 (ops : Array Oper) : Prop where
  size : ops.size = 11
  edge : allEdgesOk ops.toList 0 = true
  o0 : OpAt ops 0 (some 33) (.move (.tmp 6))
  o1 : OpAt ops 1 (some 34) (.fieldAddr 31 (.tmp 9) 0)
  o2 : OpAt ops 2 (some 35) (.load 3 (.tmp 34))
  o3 : OpAt ops 3 (some 36) (.move (.tmp 6))
  o4 : OpAt ops 4 (some 37) (.fieldAddr 31 (.tmp 9) 0)
  o5 : OpAt ops 5 (some 38) (.load 3 (.tmp 37))
  o6 : OpAt ops 6 (some 39) (.lookup 52 (.tmp 36) (.tmp 38) false)
  o7 : OpAt ops 7 (some 40) (.move (.tmp 8))
  o8 : OpAt ops 8 (some 41) (.buildSlice 22 1 #[(0, .tmp 40)])
  o9 : OpAt ops 9 (some 42) (.call { callee := .builtin .append, args := #[.tmp 39, .tmp 41], argTypes := #[22, 22] })
  o10 : OpAt ops 10 none (.mapUpdate 52 (.tmp 33) (.tmp 35) (.tmp 42))
  waits : edges6.all (fun p => waitB ops p.1 p.2) = true

theorem edges10 : ∀ i, i < 10 → (10, i) ∈ edges6 := by decide
theorem R6.w {ops : Array Oper} (h : R6 ops) (i j : Nat) (hm : (i, j) ∈ edges6) : waitB ops i j = true := List.all_eq_true.1 h.waits (i, j) hm

/-- What stands at the region's start. -/
structure S6 where
  a0 : Act
  ws : World
  b : Nat
  ub : Nat
  n : Nat
  res : Int
  i : Int
  D : DataW Unit
  v0 : Value
  zs : List Int
  No : Nat → Prop

def S6.w2 (s : S6) : World := s.ws.alloc (.cells #[.int .i64 s.i] 3)
def S6.val (s : S6) : Nat → Value
  | 0 => .map (some s.b)
  | 1 => .pointer (some ⟨s.ub, 0, none⟩)
  | 2 => .int .i64 s.res
  | 3 => .map (some s.b)
  | 4 => .pointer (some ⟨s.ub, 0, none⟩)
  | 5 => .int .i64 s.res
  | 6 => s.v0
  | 7 => .int .i64 s.i
  | _ => .slice (some ⟨s.ws.heap.size, 0, none⟩) 1 1
def S6.Mid (s : S6) (v' : Value) (w : World) : Prop :=
  s.w2.grownBy w s.v0.ownBlock ∧ w.ownsInts (s.b + 1) 3 .i64 v' (s.zs ++ [s.i]) ∧ (v'.ownBlock = s.v0.ownBlock ∨ ∃ g, v'.ownBlock = some g ∧ s.ws.heap.size ≤ g)
def S6.End (s : S6) (w : World) : Prop :=
  ∃ v' w3, s.Mid v' w3 ∧ w.ownsGroups Try.prog 3 (s.b + 1) 3 .i64 s.b (s.n + 1) (s.D.put (.int .i64 s.res) (rowDatum .i64 v' (s.zs ++ [s.i]))) ∧ w3.grownBy w (some s.b) ∧ w.Shuns s.b s.No

structure J6 (s : S6) (listed : Array Bool) (a : Act) (w : World) : Prop where
  sz : a.tmps.size = 81
  df : a.defers = s.a0.defers
  old : ∀ t, t < 33 ∨ 42 < t → tmv a t = tmv s.a0 t
  vals : ∀ j, j < 9 → Lst listed j → tmv a (33 + j) = s.val j
  stage : (¬ Lst listed 8 ∧ ¬ Lst listed 9 ∧ ¬ Lst listed 10 ∧ w = s.ws) ∨ (Lst listed 8 ∧ ¬ Lst listed 9 ∧ ¬ Lst listed 10 ∧ w = s.w2) ∨ (Lst listed 9 ∧ ¬ Lst listed 10 ∧ s.Mid (tmv a 42) w) ∨ (Lst listed 10 ∧ s.End w)

structure S6.Ok (s : S6) : Prop where
  sz : s.a0.tmps.size = 81
  t6 : tmv s.a0 6 = .map (some s.b)
  t8 : tmv s.a0 8 = .int .i64 s.i
  t9 : tmv s.a0 9 = .pointer (some ⟨s.ub, 0, none⟩)
  cell : s.ws.cell? ⟨s.ub, 0, none⟩ = some (.int .i64 s.res)
  ubb : s.ub ≠ s.b
  ubNo : s.No s.ub
  ublt : s.ub < s.ws.heap.size
  own : s.ws.ownsGroups Try.prog 3 (s.b + 1) 3 .i64 s.b s.n s.D
  shun : s.ws.Shuns s.b s.No
  small : s.n ≤ 1000000000
  wfr : (Lit.int .i64 s.res).wf = true
  wfi : (Lit.int .i64 s.i).wf = true
  look : ∀ w, w.heap[s.b]? = s.ws.heap[s.b]? → (Instr.lookup 52 (.map (some s.b)) (.int .i64 s.res) false).run Try.prog w = .ok s.v0 w
  at_ : s.D.atKey (.int .i64 s.res) .nil = rowDatum .i64 s.v0 s.zs
  ints : s.ws.ownsInts (s.b + 1) 3 .i64 s.v0 s.zs
  zl : s.zs.length ≤ s.n
  back : s.ws.groupBack Try.prog 52 3 (s.b + 1) 3 .i64 s.b s.n s.D (.int .i64 s.res) (.int .i64 s.res) s.v0
  vNo : ∀ g, s.v0.ownBlock = some g → ¬ s.No g
  noNew : ∀ g, s.ws.heap.size ≤ g → ¬ s.No g

theorem J6.quiet {s : S6} {listed : Array Bool} {a : Act} {w : World} (h : J6 s listed a w) {i : Nat} (hi : i < 8) (hl : i < listed.size) : J6 s (listed.setIfInBounds i true) (a.put (some (33 + i)) (s.val i)) w := by
  have hls : ∀ j, Lst (listed.setIfInBounds i true) j ↔ j = i ∨ Lst listed j := fun j => lst_set hl
  have hn : ∀ j, j ≠ i → (Lst (listed.setIfInBounds i true) j ↔ Lst listed j) := fun j hj => by rw [hls]; exact ⟨fun h => h.resolve_left hj, .inr⟩
  have hp : ∀ t, tmv (a.put (some (33 + i)) (s.val i)) t = if t = 33 + i then s.val i else tmv a t := fun t => tmv_put (by rw [h.sz]; omega) t
  refine ⟨?_, h.df, fun t ht => ?_, fun j hj hl' => ?_, ?_⟩
  · simp [Act.put, h.sz]
  · rw [hp, if_neg (by omega)]; exact h.old t ht
  · rw [hp]
    by_cases e : j = i
    · subst e; rw [if_pos rfl]
    · rw [if_neg (by omega)]
      exact h.vals j hj ((hn j e).1 hl')
  · rw [hn 8 (by omega), hn 9 (by omega), hn 10 (by omega), hp, if_neg (by omega)]
    exact h.stage

theorem S6.Ok.blt {s : S6} (h : s.Ok) : s.b < s.ws.heap.size := by
  obtain ⟨es, clock, hb, _⟩ := h.own
  exact (Array.getElem?_eq_some_iff.1 hb).1

theorem S6.Ok.w2_old {s : S6} (h : s.Ok) {k : Nat} (hk : k < s.ws.heap.size) : s.w2.heap[k]? = s.ws.heap[k]? := heap_alloc_lt s.ws _ hk

theorem S6.Ok.mid_old {s : S6} (h : s.Ok) {v' : Value} {w : World} (hm : s.Mid v' w) {k : Nat} (hk : k < s.ws.heap.size) (hne : s.v0.ownBlock ≠ some k) : w.heap[k]? = s.ws.heap[k]? := by
  rw [hm.1.block k (by simp [S6.w2]; omega) (fun e => hne e.symm), h.w2_old hk]

theorem S6.Ok.vb {s : S6} (h : s.Ok) : s.v0.ownBlock ≠ some s.b := fun e => by have := (h.ints.1.lt s.b e).1; omega

theorem J6.cell {s : S6} (hs : s.Ok) {listed : Array Bool} {a : Act} {w : World} (h : J6 s listed a w) (h10 : ¬ Lst listed 10) : w.cell? ⟨s.ub, 0, none⟩ = some (.int .i64 s.res) := by
  rcases h.stage with ⟨_, _, _, rfl⟩ | ⟨_, _, _, rfl⟩ | ⟨_, _, hm⟩ | ⟨h1, _⟩
  · exact hs.cell
  · rw [cell_same (w := s.ws) (hs.w2_old hs.ublt)]; exact hs.cell
  · rw [cell_same (w := s.ws) (hs.mid_old hm hs.ublt (fun e => hs.vNo _ e hs.ubNo))]; exact hs.cell
  · exact absurd h1 h10

theorem info3 : (Try.prog.info? 3).map (fun i => (i.zero, i.size, i.bytes)) = some (some (.int .i64 0), 1, 8) := by kernel_rfl

theorem r6_step {ops : Array Oper} (hops : R6 ops) {Q : Exit → Act → World → Prop} {s : S6} (hs : s.Ok) (listed : Array Bool) (a : Act) (w : World) (i : Nat) (o : Oper) (hsz : listed.size = ops.size) (hc : Closed ops.toList listed) (hJ : J6 s listed a w) (ho : ops[i]? = some o) (hn : ¬ Lst listed i) (hp : Preds listed o.after.toList) :
    wpOp Try.prog ops Q i (fun a' w' => J6 s (listed.setIfInBounds i true) a' w') a w := by
  have hi : i < 11 := by have := (Array.getElem?_eq_some_iff.1 ho).1; rw [hops.size] at this; exact this
  have hil : i < listed.size := by rw [hsz, hops.size]; exact hi
  have h10 : ¬ Lst listed 10 := fun h => by
    by_cases e : i = 10
    · exact hn (e ▸ h)
    · exact hn (wait_closed (hops.w 10 i (edges10 i (by omega))) hc h)
  have old : ∀ t : Nat, t < 33 → a.eval (.tmp t) = tmv s.a0 t := fun t ht => by rw [eval_tmv]; exact hJ.old t (.inl ht)
  have val : ∀ j, j < 9 → Lst listed j → a.eval (.tmp (33 + j)) = s.val j := fun j hj hl => by rw [eval_tmv]; exact hJ.vals j hj hl
  have e6 := (old 6 (by omega)).trans hs.t6
  have e8 := (old 8 (by omega)).trans hs.t8
  have e9 := (old 9 (by omega)).trans hs.t9
  match i, hi with
  | 0, _ => exact wpOp_of hops.o0 (v := s.val 0) (fun o h => by rw [ex_move o h, e6]; rfl) (hJ.quiet (by omega) hil)
  | 1, _ => exact wpOp_of hops.o1 (v := s.val 1) (fun o h => ex_field a w s.ub e9 o h) (hJ.quiet (by omega) hil)
  | 2, _ => exact wpOp_of hops.o2 (v := s.val 2) (fun o h => ex_load a w s.ub 34 _ (val 1 (by omega) (wait_lst (hops.w 2 1 (by decide)) ho hp)) (hJ.cell hs h10) o h) (hJ.quiet (by omega) hil)
  | 3, _ => exact wpOp_of hops.o3 (v := s.val 3) (fun o h => by rw [ex_move o h, e6]; rfl) (hJ.quiet (by omega) hil)
  | 4, _ => exact wpOp_of hops.o4 (v := s.val 4) (fun o h => ex_field a w s.ub e9 o h) (hJ.quiet (by omega) hil)
  | 5, _ => exact wpOp_of hops.o5 (v := s.val 5) (fun o h => ex_load a w s.ub 37 _ (val 4 (by omega) (wait_lst (hops.w 5 4 (by decide)) ho hp)) (hJ.cell hs h10) o h) (hJ.quiet (by omega) hil)
  | 6, _ =>
    have hb : w.heap[s.b]? = s.ws.heap[s.b]? := by
      rcases hJ.stage with ⟨_, _, _, rfl⟩ | ⟨_, _, _, rfl⟩ | ⟨_, _, hm⟩ | ⟨h1, _⟩
      · rfl
      · exact hs.w2_old hs.blt
      · exact hs.mid_old hm hs.blt hs.vb
      · exact absurd h1 h10
    exact wpOp_of hops.o6 (v := s.val 6) (fun o h => ex_lookup a w 36 38 s.b _ _ (val 3 (by omega) (wait_lst (hops.w 6 3 (by decide)) ho hp)) (val 5 (by omega) (wait_lst (hops.w 6 5 (by decide)) ho hp)) (hs.look w hb) o h) (hJ.quiet (by omega) hil)
  | 7, _ => exact wpOp_of hops.o7 (v := s.val 7) (fun o h => by rw [ex_move o h, e8]; rfl) (hJ.quiet (by omega) hil)
  | 8, _ =>
    have hw : w = s.ws := by
      rcases hJ.stage with ⟨_, _, _, h⟩ | ⟨h, _⟩ | ⟨h, _⟩ | ⟨h, _⟩
      · exact h
      · exact absurd h hn
      · exact absurd (wait_closed (hops.w 9 8 (by decide)) hc h) hn
      · exact absurd h h10
    subst hw
    have h9 : ¬ Lst listed 9 := fun h => hn (wait_closed (hops.w 9 8 (by decide)) hc h)
    have hls : ∀ j, Lst (listed.setIfInBounds 8 true) j ↔ j = 8 ∨ Lst listed j := fun j => lst_set hil
    refine wpOp_of hops.o8 (fun o h => ex_build a s.ws 40 (.int .i64 s.i) rfl (val 7 (by omega) (wait_lst (hops.w 8 7 (by decide)) ho hp)) o h) ?_
    have hpt : ∀ t, tmv (a.put (some 41) (.slice (some ⟨s.ws.heap.size, 0, none⟩) 1 1)) t = if t = 41 then .slice (some ⟨s.ws.heap.size, 0, none⟩) 1 1 else tmv a t := fun t => tmv_put (by rw [hJ.sz]; omega) t
    refine ⟨by simp [Act.put, hJ.sz], hJ.df, fun t ht => by rw [hpt, if_neg (by omega)]; exact hJ.old t ht, fun j hj hl' => ?_, .inr (.inl ⟨(hls 8).2 (.inl rfl), fun h => h9 (((hls 9).1 h).resolve_left (by omega)), fun h => h10 (((hls 10).1 h).resolve_left (by omega)), rfl⟩)⟩
    rw [hpt]
    by_cases e : j = 8
    · subst e; rw [if_pos rfl]; rfl
    · rw [if_neg (by omega)]
      exact hJ.vals j hj (((hls j).1 hl').resolve_left e)
  | 9, _ =>
    have h6 := wait_lst (hops.w 9 6 (by decide)) ho hp
    have h8 := wait_lst (hops.w 9 8 (by decide)) ho hp
    have hw : w = s.w2 := by
      rcases hJ.stage with ⟨h, _⟩ | ⟨_, _, _, h⟩ | ⟨h, _⟩ | ⟨h, _⟩
      · exact absurd h8 h
      · exact h
      · exact absurd h hn
      · exact absurd h h10
    subst hw
    have hls : ∀ j, Lst (listed.setIfInBounds 9 true) j ↔ j = 9 ∨ Lst listed j := fun j => lst_set hil
    obtain ⟨i0, hi0, hz0, hz1, hz2⟩ := info_parts info3
    have hint2 : s.w2.ownsInts (s.b + 1) 3 .i64 s.v0 s.zs := hs.ints.alloc _
    have hsrc : Src (fun _ => True) s.w2 1 (.slice (some ⟨s.ws.heap.size, 0, none⟩) 1 1) [[D.int .i64 s.i]] [.int .i64 s.i] := by
      refine ⟨.inr (.inr ⟨_, 1, rfl, fun j u hu => ?_⟩), rfl, fun u hu => ?_, fun i r hr => ?_, fun i j r x hr hx => ?_⟩
      · match j, hu with
        | 0, hu =>
          simp only [List.getElem?_cons_zero, Option.some.injEq] at hu
          subst hu
          have hnew : s.w2.heap[s.ws.heap.size]? = some (.cells #[.int .i64 s.i] 3) := (MapKept.heap_alloc s.ws _).1
          rw [add_mk]
          simp [World.cell?, hnew]
      · simp only [List.mem_singleton] at hu; subst hu; rfl
      · match i, hr with
        | 0, hr => simp only [List.getElem?_cons_zero, Option.some.injEq] at hr; subst hr; rfl
      · match i, hr with
        | 0, hr =>
          simp only [List.getElem?_cons_zero, Option.some.injEq] at hr
          subst hr
          match j, hx with
          | 0, hx => simp only [List.getElem?_cons_zero, Option.some.injEq] at hx; subst hx; exact ⟨_, rfl, .int _ _⟩
    have hsm := hs.small
    have hzl := hs.zl
    have hblt := hs.blt
    obtain ⟨v', w', g1, g2, g3, g4⟩ := run_append_src (ty := 22) Try.underlying22 hi0 hz0 hz1 rfl (by omega) hint2.1 hsrc (by unfold maxLen; simp; omega) (by rw [hz2]; simp; omega) (by simp [S6.w2]; omega)
    refine wpOp_of hops.o9 (fun o h => ex_append a s.w2 39 41 s.v0 _ v' w' (val 6 (by omega) h6) (val 8 (by omega) h8) (fun ty => g1) o h) ?_
    have hpt : ∀ t, tmv (a.put (some 42) v') t = if t = 42 then v' else tmv a t := fun t => tmv_put (by rw [hJ.sz]; omega) t
    refine ⟨by simp [Act.put, hJ.sz], hJ.df, fun t ht => by rw [hpt, if_neg (by omega)]; exact hJ.old t ht, fun j hj hl' => ?_, .inr (.inr (.inl ⟨(hls 9).2 (.inl rfl), fun h => h10 (((hls 10).1 h).resolve_left (by omega)), ?_⟩))⟩
    · rw [hpt, if_neg (by omega)]
      exact hJ.vals j hj (((hls j).1 hl').resolve_left (by omega))
    · rw [hpt, if_pos rfl]
      refine ⟨g3, hs.ints.appended (w := s.ws) (by simpa using g2) hs.wfi, g4.imp id fun h => ⟨_, h, by simp [S6.w2]⟩⟩
  | 10, _ =>
    have hall : ∀ j, j < 10 → Lst listed j := fun j hj => wait_lst (hops.w 10 j (edges10 j hj)) ho hp
    have hm : s.Mid (tmv a 42) w := by
      rcases hJ.stage with ⟨h, _⟩ | ⟨_, h, _⟩ | ⟨_, _, h⟩ | ⟨h, _⟩
      · exact absurd (hall 8 (by omega)) h
      · exact absurd (hall 9 (by omega)) h
      · exact h
      · exact absurd h h10
    have hls : ∀ j, Lst (listed.setIfInBounds 10 true) j ↔ j = 10 ∨ Lst listed j := fun j => lst_set hil
    have hgr : s.ws.grownBy w s.v0.ownBlock := (World.grownBy_alloc _ _ _).trans hm.1
    have hzl := hs.zl
    obtain ⟨w2, hrun, r1, r2⟩ := hs.back w (tmv a 42) (s.zs ++ [s.i]) hgr hm.2.1 (by simp; omega) hm.2.2
    have r3 : w2.Shuns s.b s.No := by
      obtain ⟨es, clock, hb, F, hsz', _, hbb, _⟩ := hs.own
      have hb1 : w.heap[s.b]? = some (.map es clock) := (hgr.block s.b hs.blt (fun e1 => hs.vb e1.symm)).trans hb
      have hsm := hs.small
      obtain ⟨es', clock', hb2, hwho⟩ := stored_who (int_keyed Try.underlying3) Try.underlying52 hb1 F (by unfold maxLen; omega) (keyOf_int_mk Try.underlying3 hs.wfr) hrun
      intro es2 clock2 hb2' y hy g hyg
      obtain ⟨rfl, rfl⟩ : es' = es2 ∧ clock' = clock2 := by rw [hb2] at hb2'; simpa using hb2'
      rcases hwho y hy with ⟨hy0, _⟩ | ⟨_, hval⟩
      · exact hs.shun es clock hb y hy0 g hyg
      · rw [hval] at hyg
        rcases hm.2.2 with h | ⟨g', h1, h2⟩
        · rw [h] at hyg; exact hs.vNo g hyg
        · rw [h1] at hyg; injection hyg with hyg; subst hyg; exact hs.noNew _ h2
    refine wpOp_update hops.o10 (val 0 (by omega) (hall 0 (by omega))) (val 2 (by omega) (hall 2 (by omega))) (eval_tmv a 42) hrun ?_
    exact ⟨hJ.sz, hJ.df, hJ.old, fun j hj hl' => hJ.vals j hj (((hls j).1 hl').resolve_left (by omega)), .inr (.inr (.inr ⟨(hls 10).2 (.inl rfl), _, w, hm, r1, r2, r3⟩))⟩

theorem lookE_mem {n : Int} {v : Value} : ∀ {es : List MapEntry}, lookE es n = some v → ∃ e ∈ es, e.val = v
  | e :: r, h => by
    simp only [lookE] at h
    split at h
    · split at h
      · injection h with h; exact ⟨e, List.mem_cons_self .., h⟩
      · obtain ⟨x, hx, hv⟩ := lookE_mem h; exact ⟨x, List.mem_cons_of_mem _ hx, hv⟩
    · obtain ⟨x, hx, hv⟩ := lookE_mem h; exact ⟨x, List.mem_cons_of_mem _ hx, hv⟩

theorem look_run {es : Array MapEntry} {clock b : Nat} {n : Int} {w : World} (hb : w.heap[b]? = some (.map es clock)) (hkeys : ∀ e ∈ es.toList, ∃ m, e.key = .int .i64 m) :
    (Instr.lookup 52 (.map (some b)) (.int .i64 n) false).run Try.prog w = .ok ((lookE es.toList n).getD (.slice none 0 0)) w := by
  have hck : (Instr.checkKey es.isEmpty 10000 3 (.int .i64 n)).run Try.prog w = .ok () w := by
    rw [show (10000 : Nat) = 9999 + 1 from rfl, Instr.checkKey]
    simp only [Sem.run_bind, run_und Try.underlying3, Result.andThen_ok]
    rfl
  have hz : (zeroValue 22).run Try.prog w = .ok (.slice none 0 0) w := Try.zeroValue22 w
  rcases findNow_int n es.toList 0 hkeys with ⟨h1, h2⟩ | ⟨j, v, h1, h2⟩
  · rw [h1]
    simp [Instr.lookup, run_und Try.underlying52, MapKept.run_getObj_map hb, hck, Instr.findKey, run_und Try.underlying3, h2, hz, Result.andThen]
  · rw [h1]
    simp [Instr.lookup, run_und Try.underlying52, MapKept.run_getObj_map hb, hck, Instr.findKey, run_und Try.underlying3, h2, Result.andThen]

theorem key_int {v : Value} {l : Lit} (h : keyOf Try.prog 3 v = some l) : ∃ m, v = .int .i64 m := by
  simp only [keyOf, Try.underlying3, mapKey] at h
  cases v <;> simp at h
  rename_i k m
  exact ⟨m, by rw [h.1.1]⟩

theorem groups_keys {w : World} {b n : Nat} {D : DataW Unit} (h : w.ownsGroups Try.prog 3 (b + 1) 3 .i64 b n D) : ∃ es clock, w.heap[b]? = some (.map es clock) ∧ (∀ e ∈ es.toList, ∃ m, e.key = .int .i64 m) ∧ es.size ≤ n := by
  obtain ⟨es, clock, hb, F, hs, _⟩ := h
  refine ⟨es, clock, hb, fun e he => ?_, hs⟩
  obtain ⟨y, hy⟩ := F.reads e he
  exact key_int (WideElems.rd_key hy)

/-- The groups, so far. -/
structure GI (b n : Nat) (D : DataW Unit) (No : Nat → Prop) (w : World) : Prop where
  own : w.ownsGroups Try.prog 3 (b + 1) 3 .i64 b n D
  shun : w.Shuns b No
  bNo : ¬ No b
  noNew : ∀ g, w.heap.size ≤ g → ¬ No g

theorem GI.lookup {b n : Nat} {D : DataW Unit} {No : Nat → Prop} {w : World} (h : GI b n D No w) (hn : n ≤ 1000000000) {res : Int} (hw : (Lit.int .i64 res).wf = true) :
    ∃ v zs, (∀ w', w'.heap[b]? = w.heap[b]? → (Instr.lookup 52 (.map (some b)) (.int .i64 res) false).run Try.prog w' = .ok v w') ∧ D.atKey (.int .i64 res) .nil = rowDatum .i64 v zs ∧ w.ownsInts (b + 1) 3 .i64 v zs ∧ zs.length ≤ n ∧
      w.groupBack Try.prog 52 3 (b + 1) 3 .i64 b n D (.int .i64 res) (.int .i64 res) v ∧ (∀ g, v.ownBlock = some g → ¬ No g) := by
  obtain ⟨es, clock, hb, hk, hs⟩ := groups_keys h.own
  obtain ⟨v, zs, hrun, hat, hoi, hzl, hback⟩ := h.own.at (int_keyed Try.underlying3) Try.underlying52 (Try.zeroValue22 w) (by unfold maxLen; omega) (keyOf_int_mk Try.underlying3 hw)
  have hv : v = (lookE es.toList res).getD (.slice none 0 0) := by
    rw [look_run hb hk] at hrun
    injection hrun with h1 h2
    exact h1.symm
  refine ⟨v, zs, fun w' hw' => by rw [hv]; exact look_run (hw'.trans hb) hk, hat, hoi, hzl, hback, fun g hg => ?_⟩
  cases hl : lookE es.toList res with
  | none => rw [hv, hl] at hg; cases hg
  | some u =>
    obtain ⟨e, he, heu⟩ := lookE_mem hl
    rw [hv, hl] at hg
    exact h.shun es clock hb e he g (by rw [heu]; exact hg)

theorem vis_r6 {ops : Array Oper} (hops : R6 ops) {id : Nat} {Q : Exit → Act → World → Prop} {a : Act} {w : World} {b ub n : Nat} {res i : Int} {D : DataW Unit} {No : Nat → Prop} (hG : GI b n D No w) (hn : n ≤ 1000000000)
    (hsz : a.tmps.size = 81) (t6 : tmv a 6 = .map (some b)) (t8 : tmv a 8 = .int .i64 i) (t9 : tmv a 9 = .pointer (some ⟨ub, 0, none⟩)) (hcell : w.cell? ⟨ub, 0, none⟩ = some (.int .i64 res)) (hub : No ub)
    (hwr : (Lit.int .i64 res).wf = true) (hwi : (Lit.int .i64 i).wf = true)
    (hQ : ∀ a' w' v zs, a'.tmps.size = 81 → a'.defers = a.defers → (∀ t, t < 33 ∨ 42 < t → tmv a' t = tmv a t) → D.atKey (.int .i64 res) .nil = rowDatum .i64 v zs → w.ownsInts (b + 1) 3 .i64 v zs →
      GI b (n + 1) (D.put (.int .i64 res) (.slice (ChangeShapes.lits .i64 (zs ++ [i])) [])) No w' → w'.os = w.os → w'.tape = w.tape → w'.output = w.output → w.heap.size ≤ w'.heap.size → (∀ k, k < w.heap.size → k < b ∨ No k → w'.heap[k]? = w.heap[k]?) → Q .normal a' w') :
    (Code.region id ops true).wp Try.prog Q a w := by
  have hg0 : w.grownBy { w with drawn := w.drawn + 1 } none := ⟨rfl, rfl, rfl, Nat.le_refl _, fun _ _ _ => rfl⟩
  have hGs : GI b n D No { w with drawn := w.drawn + 1 } := ⟨hG.own.kept hg0 (by simp) (fun es clock hb x hx => by cases x.val.ownBlock <;> simp), hG.shun, hG.bNo, hG.noNew⟩
  obtain ⟨v, zs, hlook, hat, hoi, hzl, hback, hvNo⟩ := hGs.lookup hn hwr
  have hublt : ub < w.heap.size := by
    rcases Nat.lt_or_ge ub w.heap.size with h | h
    · exact h
    · exact absurd hub (hG.noNew ub h)
  have hok : S6.Ok ⟨a, { w with drawn := w.drawn + 1 }, b, ub, n, res, i, D, v, zs, No⟩ :=
    ⟨hsz, t6, t8, t9, hcell, fun (e : ub = b) => hG.bNo (e ▸ hub), hub, hublt, hGs.own, hGs.shun, hn, hwr, hwi, hlook, hat, hoi, hzl, hback, hvNo, hG.noNew⟩
  refine region_gen (J := J6 ⟨a, { w with drawn := w.drawn + 1 }, b, ub, n, res, i, D, v, zs, No⟩) (by kernel_rfl) hops.edge (r6_step hops hok) (fun listed a' w' hJ hall => ?_) ⟨hsz, rfl, fun _ _ => rfl, fun j _ hl => ?_, .inl ⟨?_, ?_, ?_, rfl⟩⟩
  · have h10 : Lst listed 10 := hall 10 (by rw [hops.size]; omega)
    obtain ⟨v', w3, hm, r1, r2, r3⟩ : S6.End ⟨a, { w with drawn := w.drawn + 1 }, b, ub, n, res, i, D, v, zs, No⟩ w' := by
      rcases hJ.stage with ⟨_, _, h, _⟩ | ⟨_, _, h, _⟩ | ⟨_, h, _⟩ | ⟨_, h⟩
      · exact absurd h10 h
      · exact absurd h10 h
      · exact absurd h10 h
      · exact h
    have hgr : ({ w with drawn := w.drawn + 1 } : World).grownBy w3 v.ownBlock := (World.grownBy_alloc _ _ _).trans hm.1
    have hd : rowDatum (H := Unit) .i64 v' (zs ++ [i]) = .slice (ChangeShapes.lits .i64 (zs ++ [i])) [] := hm.2.1.datum_pos (by simp)
    have hs3 : w.heap.size ≤ w3.heap.size := hgr.size
    refine hQ a' w' v zs hJ.sz hJ.df hJ.old hat ⟨hoi.1, hoi.2⟩ ⟨hd ▸ r1, r3, hG.bNo, fun g hg' => hG.noNew g (Nat.le_trans (Nat.le_trans hs3 r2.size) hg')⟩ (r2.os.trans hgr.os) (r2.tape.trans hgr.tape) (r2.output.trans hgr.output) (Nat.le_trans hs3 r2.size) fun k hk hno => ?_
    have hkb : k ≠ b := fun e => by rcases hno with h | h; omega; exact hG.bNo (e ▸ h)
    have hkv : v.ownBlock ≠ some k := fun e => by
      rcases hno with h | h
      · have := (hoi.1.lt k e).1; omega
      · exact hvNo k e h
    rw [r2.block k (by omega) (by simpa using hkb)]
    exact hgr.block k hk (fun e => hkv e.symm)
  · exact absurd hl (by unfold Lst; simp [Array.getD])
  · unfold Lst; simp [Array.getD]
  · unfold Lst; simp [Array.getD]
  · unfold Lst; simp [Array.getD]

noncomputable def visBody : Code := bodyOf Try.f23
noncomputable def visIn : Code := cB (cL (cR (cR (cB (cB (cR (cL (cR (cR visBody)))))))))
def regOps : Code → Array Oper | .region _ ops _ => ops | _ => #[]
noncomputable def visOps6 : Array Oper := regOps (cR (cR visIn))
theorem opAt_of {ops : Array Oper} {i : Nat} {dst : Option Nat} {op : Op} (h : (ops[i]?).map (fun o => (o.dst, o.op, o.guard)) = some (dst, op, none)) : OpAt ops i dst op := by
  obtain ⟨o, h1, h2⟩ := Option.map_eq_some_iff.1 h
  injection h2 with h2 h3
  injection h3 with h3 h4
  exact ⟨o, h1, h2, h3, h4⟩
theorem visR6 : R6 visOps6 := by
  refine ⟨by kernel_rfl, by kernel_rfl, ?_, ?_, ?_, ?_, ?_, ?_, ?_, ?_, ?_, ?_, ?_, by kernel_rfl⟩
  all_goals exact opAt_of (by kernel_rfl)
end Go.Vx
/-
  occupancy.visit: the regions of its first loop that hold no operation on the map.
-/
set_option linter.unusedVariables false
set_option linter.unusedSimpArgs false
set_option maxRecDepth 100000
namespace Go.Vx
open Go.Proofs
def vis_tt : TT := [(3, ⟨.int .i64, 1, 8, [.int .i64 0], [.int .i64 0], [], none⟩), (4, ⟨.bool, 1, 1, [.bool false], [.bool false], [], none⟩), (22, ⟨.sl 3 1, 1, 24, [.slice none 0 0], [.sl 1 []], [], none⟩), (24, ⟨.sl 31 5, 1, 24, [.slice none 0 0], [.sl 5 []], [], none⟩), (31, ⟨.struct, 5, 40, [.int .i64 0, .int .i64 0, .int .i64 0, .int .i64 0, .int .i64 0], [.int .i64 0, .int .i64 0, .int .i64 0, .int .i64 0, .int .i64 0], [(0, 3), (1, 3), (2, 3), (3, 3), (4, 3)], some [.int .i64, .int .i64, .int .i64, .int .i64, .int .i64]⟩)]
theorem vis_tt_eq : mkTT Try.prog [3, 4, 22, 24, 31] = vis_tt := by kernel_rfl
def visC : VC := ⟨specOf [], vis_tt, []⟩
theorem visC_ok : VCOk Try.prog visC := ⟨specOf_ok (show EntsOK Try.prog [] from trivial), (vis_tt_eq ▸ mkTT_ok _ : TOk Try.prog vis_tt), by kernel_rfl⟩

noncomputable def visR (i : Nat) : Code := match i with
  | 0 => cL visBody
  | 1 => cL (cR visBody)
  | 2 => cL (cL (cR (cR visBody)))
  | 3 => cL (cB (cB (cR (cL (cR (cR visBody))))))
  | 4 => cL visIn
  | 5 => cL (cR visIn)
  | 6 => cR (cR visIn)
  | _ => cR (cR (cR (cB (cB (cR (cL (cR (cR visBody))))))))

/-- The temporaries that are always told of: the arguments, the map. -/
def visT (t : Int) (rows : List (List D)) (f b : Nat) (l : List (Nat × AV)) : List (Nat × AV) := (0, .d (.int .i64 t)) :: (1, .d (.sl 5 rows)) :: (2, .fn f [.ptr 1000000 0]) :: (6, .ex (.map (some b))) :: l
def visTp (t : Int) (rows : List (List D)) (f b : Nat) (l : List (Nat × AV)) : List (Nat × AV) := visT t rows f b ((7, .arr 17) :: l)
def visTq (t : Int) (rows : List (List D)) (f b : Nat) (i : Int) (l : List (Nat × AV)) : List (Nat × AV) := visTp t rows f b ((8, .d (.int .i64 i)) :: (9, .ptr 9 0) :: l)

theorem vis_x1 {R : Type} (t : Int) (f b : Nat) (rows : List (List D)) (k : Exit → St → Option R) :
    vexec visC 0 (visR 1) ⟨81, visT t rows f b [], []⟩ k =
      gb true (bif decide (0 ≤ ((List.length rows : Nat) : Int)) && decide (((List.length rows : Nat) : Int) ≤ ((List.length rows : Nat) : Int)) then some () else none) () fun _ => gb true (room (Int.toNat ((List.length rows : Nat) : Int) * 8)) () fun _ =>
        k .normal ⟨81, (7, .arr 17) :: (17, .arr 17) :: (16, .d (.int .i64 ((List.length rows : Nat) : Int))) :: (15, .d (.sl 5 rows)) :: visT t rows f b [], [(17, .arr 3 1 (List.replicate (Int.toNat ((List.length rows : Nat) : Int)) [D.int .i64 0]))]⟩ := by kernel_rfl
theorem vis_x2 {R : Type} (t : Int) (f b : Nat) (rows place : List (List D)) (k : Exit → St → Option R) :
    vexec visC 0 (visR 2) ⟨81, visTp t rows f b [], [(17, .arr 3 1 place)]⟩ k =
        k .normal ⟨81, (20, .d (.int .i64 0)) :: (19, .d (.int .i64 ((List.length rows : Nat) : Int))) :: (18, .d (.sl 5 rows)) :: visTp t rows f b [], [(17, .arr 3 1 place)]⟩ := by kernel_rfl
def visH (t : Int) (rows : List (List D)) (f b : Nat) (N i : Int) (place : List (List D)) : St := ⟨81, visTp t rows f b [(18, .d (.sl 5 rows)), (19, .d (.int .i64 N)), (20, .d (.int .i64 i))], [(17, .arr 3 1 place)]⟩
theorem vis_x3 {R : Type} (t : Int) (f b : Nat) (rows place : List (List D)) (N i : Int) (k : Exit → St → Option R) :
    vexec visC 0 (visR 3) (visH t rows f b N i place) k = k .normal ⟨81, (21, .d (.bool (decide (i < N)))) :: (visH t rows f b N i place).tm, [(17, .arr 3 1 place)]⟩ := by kernel_rfl
def visU (t : Int) (rows : List (List D)) (f b : Nat) (N i : Int) (place : List (List D)) (c : List AV) : St := ⟨81, visTq t rows f b i [(18, .d (.sl 5 rows)), (19, .d (.int .i64 N)), (20, .d (.int .i64 i))], [(9, .box c), (17, .arr 3 1 place)]⟩
theorem vis_x4 {R : Type} (t : Int) (f b : Nat) (rows place : List (List D)) (N i : Int) (k : Exit → St → Option R) :
    vexec visC 0 (visR 4) (visH t rows f b N i place) k =
      gb true (rowAt rows i) [] fun r => gb true (r[0]?) (.bool false) fun c0 => gb true (r[1]?) (.bool false) fun c1 => gb true (r[2]?) (.bool false) fun c2 => gb true (r[3]?) (.bool false) fun c3 => gb true (r[4]?) (.bool false) fun c4 =>
        k .normal ⟨81, (8, .d (.int .i64 i)) :: (9, .ptr 9 0) :: (24, .ag [.d c0, .d c1, .d c2, .d c3, .d c4]) :: (23, .el r 0) :: (22, .d (.int .i64 i)) :: (visH t rows f b N i place).tm, [(9, .box [.d c0, .d c1, .d c2, .d c3, .d c4]), (17, .arr 3 1 place)]⟩ := by kernel_rfl
theorem vis_x7 {R : Type} (t : Int) (f b : Nat) (rows place : List (List D)) (N i : Int) (k : Exit → St → Option R) :
    vexec visC 0 (visR 7) (visH t rows f b N i place) k = k .normal ⟨81, (20, .d (.int .i64 (IntKind.wrap .i64 (i + 1)))) :: (43, .d (.int .i64 (IntKind.wrap .i64 (i + 1)))) :: (visH t rows f b N i place).tm, [(17, .arr 3 1 place)]⟩ := by kernel_rfl

noncomputable def visOps5 : Array Oper := regOps (visR 5)
theorem visR5 : visR 5 = .region 5 visOps5 false := by kernel_rfl
theorem o5_5 : OpAt visOps5 5 (some 30) (.lookup 52 (.tmp 27) (.tmp 29) false) := opAt_of (by kernel_rfl)
theorem o5_6 : OpAt visOps5 6 (some 31) (.call { callee := .builtin .len, args := #[.tmp 30], argTypes := #[22] }) := opAt_of (by kernel_rfl)
theorem o5_take (j : Nat) (hj : j < (visOps5.toList.take 5).length) : (visOps5.toList.take 5)[j]? = visOps5[0 + j]? := by
  rw [List.getElem?_take, if_pos (by simp at hj; omega), Array.getElem?_toList, Nat.zero_add]
theorem o5_drop (j : Nat) (hj : j < (visOps5.toList.drop 7).length) : (visOps5.toList.drop 7)[j]? = visOps5[7 + j]? := by
  rw [List.getElem?_drop, Array.getElem?_toList]

def visV1 (t : Int) (rows : List (List D)) (f b : Nat) (N i res : Int) (place : List (List D)) (c : List AV) : St :=
  ⟨81, (29, .d (.int .i64 res)) :: (28, .ptr 9 0) :: (27, .ex (.map (some b))) :: (26, .d (.int .i64 i)) :: (25, .arr 17) :: (visU t rows f b N i place (.d (.int .i64 res) :: c)).tm, (visU t rows f b N i place (.d (.int .i64 res) :: c)).h⟩
theorem vis_v1 (t : Int) (rows : List (List D)) (f b : Nat) (N i res : Int) (place : List (List D)) (c : List AV) :
    vops visC.spec visC.tt visOps5 (visOps5.toList.take 5) (visU t rows f b N i place (.d (.int .i64 res) :: c)) [] (fun st' _ => some st') = some (visV1 t rows f b N i res place c) := by kernel_rfl
def visV3 (t : Int) (rows : List (List D)) (f b : Nat) (N i res : Int) (place : List (List D)) (c : List AV) (v : Value) (n : Int) : St :=
  ⟨81, (31, .d (.int .i64 n)) :: (30, .ex v) :: (visV1 t rows f b N i res place c).tm, (visU t rows f b N i place (.d (.int .i64 res) :: c)).h⟩
theorem vis_v3 {R : Type} (t : Int) (rows : List (List D)) (f b : Nat) (N i res : Int) (place : List (List D)) (c : List AV) (v : Value) (n : Int) (k : St → Option R) :
    vops visC.spec visC.tt visOps5 (visOps5.toList.drop 7) (visV3 t rows f b N i res place c v n) [] (fun st' _ => k st') =
      gb true (inB (List.length place) i) () fun _ => gb true (place[Int.toNat i]?) [] fun r => k ⟨81, (32, .ap 17 (Int.toNat i) 0) :: (visV3 t rows f b N i res place c v n).tm, [(17, .arr 3 1 (List.set place (Int.toNat i) (List.set r 0 (.int .i64 n)))), (9, .box (.d (.int .i64 res) :: c))]⟩ := by kernel_rfl

theorem ex_len (a : Act) (w : World) (x : Nat) (ao : Option Addr) (n cap : Nat) (hx : a.eval (.tmp x) = .slice ao n cap) (o : Oper) (h : o.op = .call { callee := .builtin .len, args := #[.tmp x], argTypes := #[22] }) : (execOp a.eval o).run Try.prog w = .ok (.value (.int .i64 n)) w := by
  unfold execOp
  simp [h, resolve, invoke, builtin, hx, Builtin.len_, run_und Try.underlying22, goInt]

theorem RdA.ex_inv {β : Nat → Option Nat} {S : Nat → Prop} {h : Nat → Option Ob} {w : World} {tm : Nat → Value} {v u : Value} (hv : RdA β S h w tm v (.ex u)) : v = u := by
  cases hv with
  | ex => rfl
  | dang _ _ l hl => simp [locOf] at hl

theorem look_skip {α : Type} {tm : List (Nat × α)} {t : Nat} {av : α} (h : look tm t = some av) : ∀ {pre : List (Nat × α)}, (pre.all fun p => (look tm p.1).isNone) = true → look (pre ++ tm) t = some av
  | [], _ => h
  | (k, x) :: r, hp => by
    simp only [List.all_cons, Bool.and_eq_true] at hp
    rw [List.cons_append, look_cons]
    by_cases e : t = k
    · subst e
      have := hp.1
      rw [h] at this
      cases this
    · rw [if_neg e]
      exact look_skip h hp.2

theorem good_run {E : Env} {o : Oper} {ev : Operand → AV} {hl : Nat → Option Ob} {v : Value} {av : AV} (hav : ∀ β S h w tm, RdA β S h w tm v av)
    (h : ∀ β S st a w, Rel E β S st a w → OpsRd β S st a w o ev → (execOp a.eval o).run Try.prog w = .ok (.value v) w) : Good Try.prog E o ev hl ⟨av, [], []⟩ :=
  good_pure fun β S st a w hR hO hA => ⟨v, h β S st a w hR hO, hav ..⟩

theorem vis_r5 {E : Env} {β : Nat → Option Nat} {S : Nat → Prop} {a : Act} {w : World} {t : Int} {rows place : List (List D)} {f b n : Nat} {N res : Int} {i : Nat} {c : List AV} {D : DataW Unit} {No : Nat → Prop}
    (hR : Rel E β S (visU t rows f b N i place (.d (.int .i64 res) :: c)) a w) {Hd : Nat → Prop} (hO : Off β S (look (visU t rows f b N i place (.d (.int .i64 res) :: c)).h) w Hd) (hb : Hd b) (hG : GI b n D No w) (hn : n ≤ 1000000000)
    (hw : (Lit.int .i64 res).wf = true) (hi : i < place.length) (hi2 : place.length ≤ 9223372036854775807) {x : Go.Vx.D} (hpl : place[i]? = some [x]) {Q : Exit → Act → World → Prop}
    (hQ : ∀ β' S' a' w' v zs, Rel E β' S' (visU t rows f b N i (place.set i [.int .i64 (List.length zs : Nat)]) (.d (.int .i64 res) :: c)) a' w' → Off β' S' (look (visU t rows f b N i (place.set i [.int .i64 (List.length zs : Nat)]) (.d (.int .i64 res) :: c)).h) w' Hd → (∀ k, Hd k → w'.heap[k]? = w.heap[k]?) → w.heap.size ≤ w'.heap.size →
      D.atKey (.int .i64 res) .nil = rowDatum .i64 v zs → w.ownsInts (b + 1) 3 .i64 v zs → Q .normal a' w') : (visR 5).wp Try.prog Q a w := by
  obtain ⟨v, zs, hlook, hat, hoi, hzl, hback, hvNo⟩ := hG.lookup hn hw
  obtain ⟨ao, cap, rfl⟩ : ∃ ao cap, v = .slice ao zs.length cap := by
    rcases hoi.1.2 with ⟨rfl, h0⟩ | ⟨g, cap, cur, rfl, _⟩
    · exact ⟨none, 0, by rw [h0]⟩
    · exact ⟨_, cap, rfl⟩
  have hb' : ∀ {β' S' st' a' w'}, Rel (envAt β S (look (visU t rows f b N i place (.d (.int .i64 res) :: c)).h) w) β' S' st' a' w' → w'.heap[b]? = w.heap[b]? := fun h => h.hr.fr.block b (hO.lt b hb) (fun ⟨l, h1, h2⟩ => hO.nO b hb l h1 h2)
  obtain ⟨r1, st1, l1, k1, run1⟩ := vops_part (E := envAt β S (look (visU t rows f b N i place (.d (.int .i64 res) :: c)).h) w) visC_ok.spec visC_ok.tt _ 0 _ _ _ _ o5_take (vis_v1 t rows f b N i res place c)
  injection k1 with k1
  subst k1
  obtain ⟨o5, p1, p2, p3, p4⟩ := o5_5.ex
  obtain ⟨o6, q1, q2, q3, q4⟩ := o5_6.ex
  have run2 := RunOK.one (P := Try.prog) (E := envAt β S (look (visU t rows f b N i place (.d (.int .i64 res) :: c)).h) w) (st := visV1 t rows f b N i res place c) p1 p4 (dl := ⟨.ex (.slice ao zs.length cap), [], []⟩) (good_run (v := .slice ao zs.length cap) (fun _ _ _ _ _ => .ex _) fun β' S' st' a' w' hR' hO' => by
      have h1 : a'.eval (.tmp 27) = .map (some b) := RdA.ex_inv (hO' (.tmp 27) (by simp [p3, Op.operands])).1
      have h2 : a'.eval (.tmp 29) = .int .i64 res := RdA.int_inv (hO' (.tmp 29) (by simp [p3, Op.operands])).1
      exact ex_lookup a' w' 27 29 b _ _ h1 h2 (hlook w' (hb' hR')) o5 p3) ⟨by rw [p2]; kernel_rfl, rfl⟩
  have run3 := RunOK.one (P := Try.prog) (E := envAt β S (look (visU t rows f b N i place (.d (.int .i64 res) :: c)).h) w) (st := put (visV1 t rows f b N i res place c) o5.dst ⟨.ex (.slice ao zs.length cap), [], []⟩) q1 q4 (dl := ⟨.d (.int .i64 (List.length zs : Nat)), [], []⟩) (good_run (v := .int .i64 (List.length zs : Nat)) (fun _ _ _ _ _ => .d _ _ (.int _ _)) fun β' S' st' a' w' hR' hO' => by
      have h1 : a'.eval (.tmp 30) = .slice ao zs.length cap := by
        have := (hO' (.tmp 30) (by simp [q3, Op.operands, Call.operands])).1
        rw [p2] at this
        exact RdA.ex_inv this
      exact ex_len a' w' 30 ao zs.length cap h1 o6 q3) ⟨by rw [p2, q2]; kernel_rfl, rfl⟩
  rw [p2] at run2 run3
  rw [q2] at run3
  have hv3 := vis_v3 t rows f b N i res place c (.slice ao zs.length cap) (List.length zs : Nat) (fun st' => some st')
  rw [inB_ok (by omega) (by omega), gb_some_eq, Int.toNat_natCast, hpl, gb_some_eq] at hv3
  obtain ⟨r4, st4, l4, k4, run4⟩ := vops_part (E := envAt β S (look (visU t rows f b N i place (.d (.int .i64 res) :: c)).h) w) visC_ok.spec visC_ok.tt _ 7 _ _ _ _ o5_drop hv3
  injection k4 with k4
  subst k4
  have hrun := ((run1.append (by rw [l1]; exact run2)).append (by rw [List.length_append, l1]; exact run3)).append (r2 := r4) (by simp only [List.length_append, l1]; exact run4)
  rw [visR5]
  refine wp_region_run hrun (by simp only [List.length_append, l1, l4, List.length_cons, List.length_nil]; kernel_rfl) ⟨β, S, hR.anew⟩ fun a' w' ⟨β', S', hR'⟩ => ?_
  obtain ⟨g1, g2⟩ := hO.keep hR'
  have hset : List.set [x] 0 (Go.Vx.D.int .i64 (List.length zs : Nat)) = [Go.Vx.D.int .i64 (List.length zs : Nat)] := rfl
  rw [hset] at hR' g1
  have hlk : ∀ l, look (visU t rows f b N i (place.set i [.int .i64 (List.length zs : Nat)]) (.d (.int .i64 res) :: c)).h l = look [(17, Ob.arr 3 1 (place.set i [.int .i64 (List.length zs : Nat)])), (9, .box (.d (.int .i64 res) :: c))] l := fun l => by
    by_cases e1 : l = 9
    · subst e1; rfl
    · by_cases e2 : l = 17
      · subst e2; rfl
      · show look (_ :: _ :: []) l = look (_ :: _ :: []) l
        rw [look_cons, look_cons, look_cons, look_cons, if_neg e1, if_neg e2, if_neg e2, if_neg e1]
  have hb1 := hR.back hR' (fun l hl hs => by
    rw [look_cons, look_cons, if_neg (by omega), if_neg (by omega)] at hs
    cases hs)
  refine hQ β' S' a' w' _ zs (hb1.sub rfl (fun t' av ht => ⟨?_, fun l _ => hlk l⟩) (fun l o ho => ⟨(hlk l).symm.trans ho, fun m _ => hlk m⟩)) ⟨g1.lt, g1.nS, fun k hk l hs => g1.nO k hk l ((hlk l).symm ▸ hs)⟩ g2 hR'.hr.fr.size hat hoi
  exact look_skip (pre := [(32, .ap 17 i 0), (31, .d (.int .i64 (List.length zs : Nat))), (30, .ex (.slice ao zs.length cap)), (29, .d (.int .i64 res)), (28, .ptr 9 0), (27, .ex (.map (some b))), (26, .d (.int .i64 i)), (25, .arr 17)]) ht (by kernel_rfl)
end Go.Vx
/-
  occupancy.visit: what the map holds behind each round.
-/
set_option linter.unusedVariables false
set_option linter.unusedSimpArgs false
namespace Go.Vx
open Go.Proofs Go.Maps Go.RowKit Go.ChangeShapes

def DOK (rs : List Int) (i : Nat) (D : DataW Unit) : Prop := IsMap D ∧ ∀ r : Int, D.atKey (.int .i64 r) .nil = if grpI rs i r = [] then .nil else .slice (lits .i64 (grpI rs i r)) []

theorem DOK_zero (rs : List Int) : DOK rs 0 (.map []) := ⟨⟨_, rfl⟩, fun r => rfl⟩

theorem lits_inj {xs ys : List Int} (h : (lits .i64 xs : List (DataW Unit)) = lits .i64 ys) : xs = ys := by
  unfold lits at h
  exact (List.map_inj_right (fun a b hab => by cases hab; rfl)).1 h

theorem DOK_zs {rs : List Int} {i : Nat} {D : DataW Unit} (h : DOK rs i D) {w : World} {base : Nat} {v : Value} {zs : List Int} {r : Int} (hat : D.atKey (.int .i64 r) .nil = rowDatum .i64 v zs) (ho : w.ownsInts base 3 .i64 v zs) : zs = grpI rs i r := by
  rw [h.2 r] at hat
  rcases ho.datum (H := Unit) with ⟨h1, rfl⟩ | h1
  · rw [h1] at hat
    split at hat
    · rename_i h2; exact h2.symm
    · cases hat
  · rw [h1] at hat
    split at hat
    · cases hat
    · injection hat with hat
      exact (lits_inj hat).symm

theorem DOK_step {rs : List Int} {i : Nat} {D : DataW Unit} (h : DOK rs i D) : DOK rs (i + 1) (D.put (.int .i64 (rs.getD i 0)) (.slice (lits .i64 (grpI rs i (rs.getD i 0) ++ [(i : Int)])) [])) := by
  refine ⟨h.1.put _ _, fun r => ?_⟩
  rw [grpI_succ]
  by_cases e : rs.getD i 0 = r
  · subst e
    rw [atKey_put_same h.1 (by trivial), if_pos rfl, if_neg (by simp)]
  · rw [atKey_put_other (fun h => e (by injection h with _ h; exact h.symm)), if_neg e, List.append_nil]
    exact h.2 r
end Go.Vx
/-
  occupancy.visit: region 6 beside the interpreter's own objects.
-/
set_option linter.unusedVariables false
set_option linter.unusedSimpArgs false
namespace Go.Vx
open Go.Proofs Go.Maps Go.RowKit Go.ChangeShapes

/-- A block that is a group's row. -/
def rowOf (w : World) (b g : Nat) : Prop := ∃ es clock, w.heap[b]? = some (.map es clock) ∧ ∃ x ∈ es.toList, x.val.ownBlock = some g
def Hg (w : World) (b k : Nat) : Prop := k = b ∨ rowOf w b k
def NoOf (w : World) (b g : Nat) : Prop := g < w.heap.size ∧ g ≠ b ∧ ¬ rowOf w b g

theorem GI_of {w : World} {b n : Nat} {D : DataW Unit} (h : w.ownsGroups Try.prog 3 (b + 1) 3 .i64 b n D) : GI b n D (NoOf w b) w :=
  ⟨h, fun es clock hb x hx g hg hN => hN.2.2 ⟨es, clock, hb, x, hx, hg⟩, fun h => h.2.1 rfl, fun g hg h => by have := h.1; omega⟩

theorem row_ge {w : World} {b n g : Nat} {D : DataW Unit} (h : w.ownsGroups Try.prog 3 (b + 1) 3 .i64 b n D) (hr : rowOf w b g) : b + 1 ≤ g ∧ g < w.heap.size := by
  obtain ⟨es, clock, hb, F, _⟩ := h
  obtain ⟨es', clock', hb', x, hx, hg⟩ := hr
  rw [hb] at hb'; injection hb' with hb'; injection hb' with e1 e2
  subst e1
  obtain ⟨y, hy⟩ := F.reads x hx
  obtain ⟨z, hz, _⟩ := WideElems.rd_val hy
  obtain ⟨zs, hoi, _⟩ := rowElem_inv hz
  exact hoi.1.lt g hg

theorem vis_r6R {E : Env} {β : Nat → Option Nat} {S : Nat → Prop} {a : Act} {w : World} {t : Int} {rows place : List (List Go.Vx.D)} {f b n : Nat} {N res : Int} {i : Nat} {c : List AV} {D : DataW Unit} {Hh : Nat → Prop}
    (hR : Rel E β S (visU t rows f b N i place (.d (.int .i64 res) :: c)) a w) (hO : Off β S (look (visU t rows f b N i place (.d (.int .i64 res) :: c)).h) w (fun k => Hg w b k ∨ Hh k)) (hh : ∀ k, Hh k → k < b) (hb0 : E.w0.heap.size ≤ b)
    (hown : w.ownsGroups Try.prog 3 (b + 1) 3 .i64 b n D) (hn : n ≤ 1000000000) (hi : i ≤ 1000000000) (hwr : (Lit.int .i64 res).wf = true) {Q : Exit → Act → World → Prop}
    (hQ : ∀ a' w' v zs, Rel E β S (visU t rows f b N i place (.d (.int .i64 res) :: c)) a' w' → Off β S (look (visU t rows f b N i place (.d (.int .i64 res) :: c)).h) w' (fun k => Hg w' b k ∨ Hh k) → (∀ k, Hh k → w'.heap[k]? = w.heap[k]?) → w.heap.size ≤ w'.heap.size →
      D.atKey (.int .i64 res) .nil = rowDatum .i64 v zs → w.ownsInts (b + 1) 3 .i64 v zs → w'.ownsGroups Try.prog 3 (b + 1) 3 .i64 b (n + 1) (D.put (.int .i64 res) (.slice (lits .i64 (zs ++ [(i : Int)])) [])) → Q .normal a' w') : (visR 6).wp Try.prog Q a w := by
  have hv6 : visR 6 = .region 6 visOps6 true := by kernel_rfl
  have t6 : tmv a 6 = .map (some b) := RdA.ex_inv (hR.tm 6 _ rfl)
  have t8 : tmv a 8 = .int .i64 (i : Int) := RdA.int_inv (hR.tm 8 _ rfl)
  obtain ⟨ub, hub, t9⟩ := RdA.ptr_inv (hR.tm 9 _ rfl)
  obtain ⟨ub', ty, cs, fz, e1, e2, _, e4, e5⟩ := hR.hr.ob 9 (.box (.d (.int .i64 res) :: c)) rfl
  obtain rfl : ub = ub' := by rw [hub] at e1; injection e1
  have hcell : w.cell? ⟨ub, 0, none⟩ = some (.int .i64 res) := by
    have h1 := RdA.int_inv (e5 0 _ rfl)
    have hsz : 0 < cs.size := by rw [e4]; simp
    simp only [Array.getD, hsz, dite_true] at h1
    simp [World.cell?, e2, hsz]
    exact h1
  have hs9 : (look (visU t rows f b N i place (.d (.int .i64 res) :: c)).h 9).isSome = true := rfl
  have hNo : NoOf w b ub := ⟨ob_lt hR hs9 hub, fun e => hO.nO ub (.inl (.inl e)) 9 hs9 hub, fun h => hO.nO ub (.inl (.inr h)) 9 hs9 hub⟩
  rw [hv6]
  refine vis_r6 visR6 (GI_of hown) hn (hR.n) t6 t8 t9 hcell hNo hwr (WalkArith.wf_i64 (by omega)) fun a' w' v zs hsz hdf hold hat hoi hG hos htp hout hsize hblk => ?_
  have hOg : Off β S (look (visU t rows f b N i place (.d (.int .i64 res) :: c)).h) w (Hg w b) := ⟨fun k hk => hO.lt k (.inl hk), fun k hk => hO.nS k (.inl hk), fun k hk => hO.nO k (.inl hk)⟩
  have hR' : Rel E β S (visU t rows f b N i place (.d (.int .i64 res) :: c)) a' w' := by
    refine rel_off hR hOg (fun k hk => ?_) (by rw [hsz, hR.n]; rfl) hdf (fun t' av ht => ?_) hos htp hout hsize fun k hk hnk => hblk k hk (.inr ⟨hk, fun e => hnk (.inl e), fun h => hnk (.inr h)⟩)
    · rcases hk with rfl | hk
      · exact .inr hb0
      · have := (row_ge hown hk).1; exact .inr (by omega)
    · have hm := look_mem ht
      simp only [visU, visTq, visTp, visT, List.mem_cons, Prod.mk.injEq, List.not_mem_nil, or_false] at hm
      have hlt : t' < 33 := by omega
      refine ⟨hold t' (.inl hlt), fun t'' hg => ?_⟩
      rcases hm with ⟨_, rfl⟩ | ⟨_, rfl⟩ | ⟨_, rfl⟩ | ⟨_, rfl⟩ | ⟨_, rfl⟩ | ⟨_, rfl⟩ | ⟨_, rfl⟩ | ⟨_, rfl⟩ | ⟨_, rfl⟩ | ⟨_, rfl⟩ <;> simp [gds, gdsL] at hg
  have hrow : ∀ k, rowOf w' b k → w.heap.size ≤ k ∨ k = b ∨ rowOf w b k := fun k hk => by
    by_cases h1 : w.heap.size ≤ k
    · exact .inl h1
    · by_cases h2 : k = b
      · exact .inr (.inl h2)
      · by_cases h3 : rowOf w b k
        · exact .inr (.inr h3)
        · obtain ⟨es, clock, hb, x, hx, hg⟩ := hk
          exact absurd ⟨by omega, h2, h3⟩ (hG.shun es clock hb x hx k hg)
  have hcase : ∀ k, Hg w' b k ∨ Hh k → (w.heap.size ≤ k ∧ k < w'.heap.size) ∨ (Hg w b k ∨ Hh k) := fun k hk => by
    rcases hk with (hk | hk) | hk
    · exact .inr (.inl (.inl hk))
    · rcases hrow k hk with h | h | h
      · exact .inl ⟨h, (row_ge hG.own hk).2⟩
      · exact .inr (.inl (.inl h))
      · exact .inr (.inl (.inr h))
    · exact .inr (.inr hk)
  refine hQ a' w' v zs hR' ⟨fun k hk => ?_, fun k hk hS => ?_, fun k hk l hs hb => ?_⟩ (fun k hk => hblk k (hO.lt k (.inr hk)) (.inl (hh k hk))) hsize hat hoi hG.own
  · rcases hcase k hk with h | h
    · exact h.2
    · exact Nat.lt_of_lt_of_le (hO.lt k h) hsize
  · rcases hcase k hk with h | h
    · have := hR.hr.sb k hS; omega
    · exact hO.nS k h hS
  · rcases hcase k hk with h | h
    · have := ob_lt hR hs hb; omega
    · exact hO.nO k h l hs hb
end Go.Vx
/-
  occupancy.visit: the other regions of a round, beside the map.
-/
set_option linter.unusedVariables false
set_option linter.unusedSimpArgs false
namespace Go.Vx
open Go.Proofs Go.Maps Go.RowKit Go.ChangeShapes

def onN (e : Exit) (st : St) : Option St := match e with
  | .normal => some st
  | _ => none
theorem onN_some {e : Exit} {st r : St} (h : onN e st = some r) : e = .normal ∧ st = r := by
  cases e with
  | normal => injection h with h; exact ⟨rfl, h⟩
  | _ => cases h

/-- A region that the interpreter runs to the state r. -/
theorem vis_run {E : Env} {β : Nat → Option Nat} {S : Nat → Prop} {a : Act} {w : World} {st r : St} {c : Code} (h : vexec visC 0 c st onN = some r) (hR : Rel E β S st a w) {Hd : Nat → Prop} (hO : Off β S (look st.h) w Hd)
    (hp : ∀ l, 1000000 ≤ l → (look r.h l).isSome = true → (look st.h l).isSome = true) {Q : Exit → Act → World → Prop}
    (hQ : ∀ β' S' a' w', Rel E β' S' r a' w' → Off β' S' (look r.h) w' Hd → (∀ k, Hd k → w'.heap[k]? = w.heap[k]?) → w.heap.size ≤ w'.heap.size → Q .normal a' w') : c.wp Try.prog Q a w := by
  refine wp_mono (vexec_hid visC_ok h hR hO (fun e st' hk => by obtain ⟨_, rfl⟩ := onN_some hk; exact hp)) fun e a' w' ⟨st', β', S', h1, h2, h3, h4, h5⟩ => ?_
  obtain ⟨rfl, rfl⟩ := onN_some h2
  exact hQ β' S' a' w' h1 h3 h4 h5.size

theorem vis_r4R {E : Env} {β : Nat → Option Nat} {S : Nat → Prop} {a : Act} {w : World} {t : Int} {rows place : List (List Go.Vx.D)} {f b : Nat} {N res : Int} {i : Nat} {c1 c2 c3 c4 : Go.Vx.D} {Hd : Nat → Prop}
    (hR : Rel E β S (visH t rows f b N i place) a w) (hO : Off β S (look (visH t rows f b N i place).h) w Hd) (hrow : rows[i]? = some [.int .i64 res, c1, c2, c3, c4]) {Q : Exit → Act → World → Prop}
    (hQ : ∀ β' S' a' w', Rel E β' S' (visU t rows f b N i place [.d (.int .i64 res), .d c1, .d c2, .d c3, .d c4]) a' w' → Off β' S' (look (visU t rows f b N i place [.d (.int .i64 res), .d c1, .d c2, .d c3, .d c4]).h) w' Hd → (∀ k, Hd k → w'.heap[k]? = w.heap[k]?) → w.heap.size ≤ w'.heap.size → Q .normal a' w') :
    (visR 4).wp Try.prog Q a w := by
  have hx := vis_x4 t f b rows place N i onN
  have hra : rowAt rows (i : Int) = some [.int .i64 res, c1, c2, c3, c4] := by
    have h0 := rowAt_get (f := fun x : List Go.Vx.D => x) hrow
    rwa [List.map_id'] at h0
  rw [hra] at hx
  refine vis_run hx hR hO (fun l hl hs => ?_) fun β' S' a' w' h1 h2 h3 h4 => hQ β' S' a' w' (h1.sub rfl (fun t' av ht => ⟨?_, fun _ _ => rfl⟩) (fun l o ho => ⟨ho, fun _ _ => rfl⟩)) h2 h3 h4
  · have hs' : (look [(9, Ob.box [.d (.int .i64 res), .d c1, .d c2, .d c3, .d c4]), (17, .arr 3 1 place)] l).isSome = true := hs
    rw [look_cons, look_cons, if_neg (by omega), if_neg (by omega)] at hs'
    cases hs'
  · have hm := look_mem ht
    simp only [visU, visTq, visTp, visT, List.mem_cons, Prod.mk.injEq, List.not_mem_nil, or_false] at hm
    rcases hm with ⟨rfl, rfl⟩ | ⟨rfl, rfl⟩ | ⟨rfl, rfl⟩ | ⟨rfl, rfl⟩ | ⟨rfl, rfl⟩ | ⟨rfl, rfl⟩ | ⟨rfl, rfl⟩ | ⟨rfl, rfl⟩ | ⟨rfl, rfl⟩ | ⟨rfl, rfl⟩ <;> rfl

theorem visU_H {E : Env} {β : Nat → Option Nat} {S : Nat → Prop} {a : Act} {w : World} {t : Int} {rows place : List (List Go.Vx.D)} {f b : Nat} {N i : Int} {c : List AV} (hR : Rel E β S (visU t rows f b N i place c) a w) : Rel E β S (visH t rows f b N i place) a w := by
  have hlk : ∀ l, l ≠ 9 → look (visH t rows f b N i place).h l = look (visU t rows f b N i place c).h l := fun l hl => by
    show look (_ :: []) l = look (_ :: _ :: []) l
    rw [look_cons, look_cons, look_cons, if_neg hl]
  refine hR.sub rfl (fun t' av ht => ?_) (fun l o ho => ?_)
  · have hm := look_mem ht
    simp only [visH, visTp, visT, List.mem_cons, Prod.mk.injEq, List.not_mem_nil, or_false] at hm
    rcases hm with ⟨rfl, rfl⟩ | ⟨rfl, rfl⟩ | ⟨rfl, rfl⟩ | ⟨rfl, rfl⟩ | ⟨rfl, rfl⟩ | ⟨rfl, rfl⟩ | ⟨rfl, rfl⟩ | ⟨rfl, rfl⟩ <;> refine ⟨rfl, fun l hn => hlk l (fun e => ?_)⟩ <;> subst e <;> simp [names, namesL] at hn
  · have ho' : look (visH t rows f b N i place).h l = some o := ho
    have hl : l = 17 := by
      by_cases e : l = 17
      · exact e
      · rw [show (visH t rows f b N i place).h = [(17, Ob.arr 3 1 place)] from rfl, look_cons, if_neg e] at ho'
        cases ho'
    subst hl
    have : o = .arr 3 1 place := by injection ho' with h; exact h.symm
    subst this
    exact ⟨rfl, fun m hm => by cases hm⟩

theorem vis_r7R {E : Env} {β : Nat → Option Nat} {S : Nat → Prop} {a : Act} {w : World} {t : Int} {rows place : List (List Go.Vx.D)} {f b : Nat} {N : Int} {i : Nat} (hi : i ≤ 1000000000) {Hd : Nat → Prop}
    (hR : Rel E β S (visH t rows f b N i place) a w) (hO : Off β S (look (visH t rows f b N i place).h) w Hd) {Q : Exit → Act → World → Prop}
    (hQ : ∀ β' S' a' w', Rel E β' S' (visH t rows f b N (i + 1 : Nat) place) a' w' → Off β' S' (look (visH t rows f b N (i + 1 : Nat) place).h) w' Hd → (∀ k, Hd k → w'.heap[k]? = w.heap[k]?) → w.heap.size ≤ w'.heap.size → Q .normal a' w') :
    (visR 7).wp Try.prog Q a w := by
  have hx := vis_x7 t f b rows place N i onN
  rw [wrap64' (by omega) (by omega), show ((i : Int) + 1) = ((i + 1 : Nat) : Int) from rfl] at hx
  refine vis_run hx hR hO (fun l hl hs => hs) fun β' S' a' w' h1 h2 h3 h4 => hQ β' S' a' w' (h1.sub rfl (fun t' av ht => ⟨?_, fun _ _ => rfl⟩) (fun l o ho => ⟨ho, fun _ _ => rfl⟩)) h2 h3 h4
  have hm := look_mem ht
  simp only [visH, visTp, visT, List.mem_cons, Prod.mk.injEq, List.not_mem_nil, or_false] at hm
  rcases hm with ⟨rfl, rfl⟩ | ⟨rfl, rfl⟩ | ⟨rfl, rfl⟩ | ⟨rfl, rfl⟩ | ⟨rfl, rfl⟩ | ⟨rfl, rfl⟩ | ⟨rfl, rfl⟩ | ⟨rfl, rfl⟩ <;> rfl
end Go.Vx
/-
  occupancy.visit: one round of the first loop.
-/
set_option linter.unusedVariables false
set_option linter.unusedSimpArgs false
namespace Go.Vx
open Go.Proofs Go.Maps Go.RowKit Go.ChangeShapes

noncomputable def visLB : Code := cB (cB (cR (cL (cR (cR visBody)))))
theorem visLB_eq : visLB = .seq (visR 3) (.seq (.cond (.tmp 21) .skip (.exit 0)) (.seq (.block 1 (.seq (visR 4) (.seq (visR 5) (visR 6)))) (visR 7))) := by kernel_rfl

/-- What stands at the loop's head behind i rounds. -/
def LI (E : Env) (t : Int) (rows : List (List Go.Vx.D)) (f b : Nat) (rs : List Int) (Hh : Nat → Prop) (w00 : World) (i : Nat) (a : Act) (w : World) : Prop :=
  ∃ β S D, Rel E β S (visH t rows f b (rs.length : Nat) i (posL rs i)) a w ∧ Off β S (look (visH t rows f b (rs.length : Nat) i (posL rs i)).h) w (fun k => Hg w b k ∨ Hh k) ∧
    w.ownsGroups Try.prog 3 (b + 1) 3 .i64 b i D ∧ DOK rs i D ∧ (∀ k, Hh k → w.heap[k]? = w00.heap[k]?)

theorem hg_same {w w' : World} {b : Nat} (h : w'.heap[b]? = w.heap[b]?) (k : Nat) : Hg w' b k ↔ Hg w b k := by unfold Hg rowOf; rw [h]

theorem own_same {w w' : World} {b n : Nat} {D : DataW Unit} (h : w.ownsGroups Try.prog 3 (b + 1) 3 .i64 b n D) (hk : ∀ k, Hg w b k → w'.heap[k]? = w.heap[k]?) : w'.ownsGroups Try.prog 3 (b + 1) 3 .i64 b n D := by
  obtain ⟨es, clock, hb, F, hs, rfl, hbb, hlen, hap⟩ := h
  have hint : ∀ x ∈ es.toList, ∀ zs, w.ownsInts (b + 1) 3 .i64 x.val zs → w'.ownsInts (b + 1) 3 .i64 x.val zs := fun x hx zs ho => by
    refine ⟨⟨ho.1.1, ho.1.2.imp id fun ⟨g, cap, cur, hv, h0, hg, r⟩ => ⟨g, cap, cur, hv, h0, ?_, r⟩⟩, ho.2⟩
    rw [hk g (.inr ⟨es, clock, hb, x, hx, by rw [hv]; rfl⟩)]
    exact hg
  have hst : ∀ x ∈ es.toList, ∀ z, rowElem (H := Unit) w (b + 1) 3 .i64 x.val = some z → rowElem w' (b + 1) 3 .i64 x.val = some z := fun x hx z hz => by
    obtain ⟨zs, ho, rfl⟩ := rowElem_inv hz
    exact rowElem_mk (hint x hx zs ho)
  obtain ⟨F1, hmap, _⟩ := F.stay hst
  refine ⟨es, clock, (hk b (.inl rfl)).trans hb, F1, hs, by rw [hmap], hbb, fun x hx zs ho => ?_, hap⟩
  obtain ⟨y, hy⟩ := F.reads x hx
  obtain ⟨z, hz, _⟩ := WideElems.rd_val hy
  obtain ⟨zs0, ho0, _⟩ := rowElem_inv hz
  rw [ho.unique (hint x hx zs0 ho0)]
  exact hlen x hx zs0 ho0

theorem off_of {β : Nat → Option Nat} {S : Nat → Prop} {h : Nat → Option Ob} {w w' : World} {b : Nat} {Hh : Nat → Prop} (hO : Off β S h w' (fun k => Hg w b k ∨ Hh k)) (hb : w'.heap[b]? = w.heap[b]?) : Off β S h w' (fun k => Hg w' b k ∨ Hh k) :=
  ⟨fun k hk => hO.lt k (hk.imp (hg_same hb k).1 id), fun k hk => hO.nS k (hk.imp (hg_same hb k).1 id), fun k hk => hO.nO k (hk.imp (hg_same hb k).1 id)⟩

theorem vis_round {E : Env} {t : Int} {rows : List (List Go.Vx.D)} {f b : Nat} {rs : List Int} {Hh : Nat → Prop} {w00 : World} {i : Nat} {a : Act} {w : World} (hrs : resX rows = some rs) (hN : rs.length ≤ 1000000000) (hh : ∀ k, Hh k → k < b) (hb0 : E.w0.heap.size ≤ b)
    (h : LI E t rows f b rs Hh w00 i a w) (hi : i < rs.length) {Q : Exit → Act → World → Prop} : visLB.wp Try.prog (Exit.then (LI E t rows f b rs Hh w00 (i + 1)) Q) a w := by
  obtain ⟨β, S, D, hR, hO, hown, hD, hH⟩ := h
  obtain ⟨r, c1, c2, c3, c4, g1, g2, g3, g4⟩ := resX_at hrs i (by rw [← resX_length hrs]; exact hi)
  have hwr : (Lit.int .i64 r).wf = true := WalkArith.wf_i64 (by omega)
  rw [visLB_eq]
  refine wp_seq (vis_run (vis_x3 t f b rows (posL rs i) (rs.length : Nat) i onN) hR hO (fun l hl hs => hs) fun β1 S1 a1 w1 hR1 hO1 hk1 hs1 => ?_)
  refine wp_seq (wp_cond_true (by
    have := RdA.bool_inv (hR1.tm 21 _ rfl)
    rw [show a1.eval (.tmp 21) = tmv a1 21 from rfl, this]
    simp; omega) (wp_skip ?_))
  have hR1' : Rel E β1 S1 (visH t rows f b (rs.length : Nat) i (posL rs i)) a1 w1 := hR1.sub rfl (fun t' av ht => ⟨look_skip (pre := [(21, .d (.bool (decide ((i : Int) < (rs.length : Nat)))))]) ht rfl, fun _ _ => rfl⟩) (fun l o ho => ⟨ho, fun _ _ => rfl⟩)
  have hown1 := own_same hown (fun k hk => hk1 k (.inl hk))
  refine wp_seq (wp_block (wp_seq (vis_r4R hR1' hO1 g1 fun β2 S2 a2 w2 hR2 hO2 hk2 hs2 => ?_)))
  have hown2 := own_same hown (fun k hk => (hk2 k (.inl hk)).trans (hk1 k (.inl hk)))
  refine wp_seq (vis_r5 hR2 hO2 (.inl (.inl rfl)) (GI_of hown2) (by omega) hwr (by rw [posL_length rs (by omega)]; exact hi) (by rw [posL_length rs (by omega)]; omega) (posL_at rs hi) fun β3 S3 a3 w3 v zs hR3 hO3 hk3 hs3 hat hoi => ?_)
  have hzs := DOK_zs hD hat hoi
  subst hzs
  rw [← g2, posL_succ rs hi] at hR3 hO3
  have hb3 : w3.heap[b]? = w.heap[b]? := (hk3 b (.inl (.inl rfl))).trans ((hk2 b (.inl (.inl rfl))).trans (hk1 b (.inl (.inl rfl))))
  have hown3 := own_same hown (fun k hk => (hk3 k (.inl hk)).trans ((hk2 k (.inl hk)).trans (hk1 k (.inl hk))))
  refine vis_r6R hR3 (off_of hO3 hb3) hh hb0 hown3 (by omega) (by omega) (g2 ▸ hwr) fun a4 w4 v4 zs4 hR4 hO4 hk4 hs4 hat4 hoi4 hown4 => ?_
  have hzs4 := DOK_zs hD hat4 hoi4
  subst hzs4
  refine vis_r7R (by omega) (visU_H hR4) ⟨hO4.lt, hO4.nS, fun k hk l hs hb => ?_⟩ fun β5 S5 a5 w5 hR5 hO5 hk5 hs5 => ?_
  · have hl : l = 17 := by
      by_cases e : l = 17
      · exact e
      · have hs' : (look [(17, Ob.arr 3 1 (posL rs (i + 1)))] l).isSome = true := hs
        rw [look_cons, if_neg e] at hs'
        cases hs'
    subst hl
    exact hO4.nO k hk 17 rfl hb
  · exact ⟨β5, S5, _, hR5, off_of hO5 (hk5 b (.inl (.inl rfl))), own_same hown4 (fun k hk => hk5 k (.inl hk)), DOK_step hD, fun k hk => (hk5 k (.inr hk)).trans ((hk4 k hk).trans ((hk3 k (.inr hk)).trans ((hk2 k (.inr hk)).trans ((hk1 k (.inr hk)).trans (hH k hk)))))⟩
end Go.Vx
/-
  occupancy.visit: the first loop.
-/
set_option linter.unusedVariables false
set_option linter.unusedSimpArgs false
namespace Go.Vx
open Go.Proofs Go.Maps Go.RowKit Go.ChangeShapes

theorem vis_rounds {E : Env} {t : Int} {rows : List (List Go.Vx.D)} {f b : Nat} {rs : List Int} {Hh : Nat → Prop} {w00 : World} (hrs : resX rows = some rs) (hN : rs.length ≤ 1000000000) (hh : ∀ k, Hh k → k < b) (hb0 : E.w0.heap.size ≤ b) {Q : Exit → Act → World → Prop}
    (hQ : ∀ a' w', LI E t rows f b rs Hh w00 rs.length a' w' → Q (.exit 0) a' w') : ∀ (m i : Nat) (a : Act) (w : World), i + m = rs.length → LI E t rows f b rs Hh w00 i a w → Code.rounds Try.prog visLB Q (m + 1) a w
  | 0, i, a, w, him, h => by
    obtain rfl : i = rs.length := by omega
    rw [rounds_succ]
    obtain ⟨β, S, D, hR, hO, hown, hD, hH⟩ := h
    rw [visLB_eq]
    refine wp_seq (vis_run (vis_x3 t f b rows (posL rs rs.length) (rs.length : Nat) rs.length onN) hR hO (fun l hl hs => hs) fun β1 S1 a1 w1 hR1 hO1 hk1 hs1 => ?_)
    refine wp_seq (wp_cond_false (by
      have := RdA.bool_inv (hR1.tm 21 _ rfl)
      rw [show a1.eval (.tmp 21) = tmv a1 21 from rfl, this]
      simp) (wp_exit (hQ a1 w1 ?_)))
    exact ⟨β1, S1, D, hR1.sub rfl (fun t' av ht => ⟨look_skip (pre := [(21, .d (.bool (decide (((rs.length : Nat) : Int) < (rs.length : Nat)))))]) ht rfl, fun _ _ => rfl⟩) (fun l o ho => ⟨ho, fun _ _ => rfl⟩), off_of hO1 (hk1 b (.inl (.inl rfl))), own_same hown (fun k hk => hk1 k (.inl hk)), hD, fun k hk => (hk1 k (.inr hk)).trans (hH k hk)⟩
  | m + 1, i, a, w, him, h => by
    rw [rounds_succ]
    refine wp_mono (vis_round (Q := Q) hrs hN hh hb0 h (by omega)) fun e a' w' hp => ?_
    cases e with
    | normal => exact vis_rounds hrs hN hh hb0 hQ m (i + 1) a' w' (by omega) hp
    | _ => exact hp

theorem vis_loop {E : Env} {t : Int} {rows : List (List Go.Vx.D)} {f b : Nat} {rs : List Int} {Hh : Nat → Prop} {w00 : World} (hrs : resX rows = some rs) (hN : rs.length ≤ 1000000000) (hh : ∀ k, Hh k → k < b) (hb0 : E.w0.heap.size ≤ b) {Q : Exit → Act → World → Prop} {a : Act} {w : World}
    (h : LI E t rows f b rs Hh w00 0 a w) (hQ : ∀ a' w', LI E t rows f b rs Hh w00 rs.length a' w' → Q .normal a' w') : (Code.block 0 (.loop visLB)).wp Try.prog Q a w :=
  wp_block (wp_loop_rounds (rs.length + 1) (vis_rounds hrs hN hh hb0 (fun a' w' hl => hQ a' w' hl) rs.length 0 a w (by omega) h))
end Go.Vx
/-
  occupancy.visit: from the start to the end of its first loop.
-/
set_option linter.unusedVariables false
set_option linter.unusedSimpArgs false
namespace Go.Vx
open Go.Proofs Go.Maps Go.RowKit Go.ChangeShapes

noncomputable def visOps0 : Array Oper := regOps (visR 0)
theorem visR0 : visR 0 = .region 0 visOps0 false := by kernel_rfl
theorem o0_0 : OpAt visOps0 0 (some 14) (.makeMap 52 none) := opAt_of (by kernel_rfl)
theorem o0_1 : OpAt visOps0 1 (some 6) (.assign (.tmp 14)) := opAt_of (by kernel_rfl)
theorem o0_size : visOps0.size = 2 := by kernel_rfl

theorem vis_r0 {Q : Exit → Act → World → Prop} {a : Act} {w : World} (hsz : a.tmps.size = 81)
    (hQ : ∀ a', a'.tmps.size = 81 → a'.defers = a.defers → (∀ t, t ≠ 14 → t ≠ 6 → tmv a' t = tmv a t) → tmv a' 6 = .map (some w.heap.size) → Q .normal a' (w.alloc (.map #[] 0))) : (visR 0).wp Try.prog Q a w := by
  rw [visR0]
  refine wp_region ?_
  rw [o0_size, show List.range 2 = [0, 1] from rfl, wpOps_cons]
  refine wpOp_of o0_0 (v := .map (some w.heap.size)) (w' := w.alloc (.map #[] 0)) (fun o h => ?_) ?_
  · unfold execOp; rw [h]; rfl
  rw [wpOps_cons]
  have e1 : ∀ t, tmv (a.put (some 14) (.map (some w.heap.size))) t = if t = 14 then .map (some w.heap.size) else tmv a t := fun t => tmv_put (by rw [hsz]; omega) t
  have s1 : (a.put (some 14) (.map (some w.heap.size))).tmps.size = 81 := by simp [Act.put, hsz]
  refine wpOp_of o0_1 (v := .map (some w.heap.size)) (w' := w.alloc (.map #[] 0)) (fun o h => ?_) ?_
  · unfold execOp; rw [h]
    have h14 : (a.put (some 14) (.map (some w.heap.size))).eval (.tmp 14) = .map (some w.heap.size) := by rw [eval_tmv, e1, if_pos rfl]
    simp [h14]
  have e2 : ∀ t, tmv ((a.put (some 14) (.map (some w.heap.size))).put (some 6) (.map (some w.heap.size))) t = if t = 6 then .map (some w.heap.size) else tmv (a.put (some 14) (.map (some w.heap.size))) t := fun t => tmv_put (by rw [s1]; omega) t
  refine hQ _ (by simp [Act.put, hsz]) rfl (fun t h1 h2 => ?_) ?_
  · rw [e2, if_neg h2, e1, if_neg h1]
  · rw [e2, if_pos rfl]

/-- The function value keeps its meaning while the captured name keeps its block. -/
theorem rdFn {β β' : Nat → Option Nat} {S S' : Nat → Prop} {h h' : Nat → Option Ob} {w w' : World} {tm tm' : Nat → Value} {v : Value} {f l : Nat} (hb : β' l = β l) (hv : RdA β S h w tm v (.fn f [.ptr l 0])) : RdA β' S' h' w' tm' v (.fn f [.ptr l 0]) := by
  cases hv with
  | fn _ cs _ hl hr =>
    refine .fn f cs _ hl fun i x hx => ?_
    have hrx := hr i x hx
    match i, hx with
    | 0, hx =>
      simp only [List.getElem?_cons_zero, Option.some.injEq] at hx
      subst hx
      obtain ⟨b, h1, h2⟩ := RdA.ptr_inv hrx
      rw [h2]
      exact .ptr l 0 b (hb.trans h1)
  | dang _ _ l hl => simp [locOf] at hl

theorem HRel.bare {E : Env} {β : Nat → Option Nat} {S : Nat → Prop} {h : Nat → Option Ob} {w : World} (hr : HRel E β S h w) : HRel E β S (look ([] : List (Nat × Ob))) w where
  ob := fun l o ho => by cases ho
  inj := fun l l' b h1 => by cases h1
  apart := fun l b h1 => by cases h1
  own := fun l b h1 => by cases h1
  sb := hr.sb
  sfr := hr.sfr
  s0 := hr.s0
  fr := hr.fr
  pin := hr.pin
  psz := fun l b hl h1 => by cases h1

/-- The caller's objects. -/
def HhOf (β : Nat → Option Nat) (H : List (Nat × Ob)) (k : Nat) : Prop := ∃ l, (look H l).isSome = true ∧ β l = some k

def visArgs (t : Int) (rows : List (List Go.Vx.D)) (f : Nat) : List AV := [.d (.int .i64 t), .d (.sl 5 rows), .fn f [.ptr 1000000 0]]

theorem vis_start {E : Env} {β : Nat → Option Nat} {S : Nat → Prop} {a : Act} {w : World} {t : Int} {rows : List (List Go.Vx.D)} {f : Nat} {H : List (Nat × Ob)} {rs : List Int} (hrs : resX rows = some rs) (hN : rs.length ≤ 1000000000)
    (hw0 : E.w0 = w) (hR : Rel E β S ⟨81, argsT 0 (visArgs t rows f), H⟩ a w) {c : Code} {Q : Exit → Act → World → Prop}
    (hQ : ∀ a' w', LI E t rows f w.heap.size rs (HhOf β H) w rs.length a' w' → c.wp Try.prog Q a' w') : (Code.seq (visR 0) (.seq (visR 1) (.seq (.seq (visR 2) (.block 0 (.loop visLB))) c))).wp Try.prog Q a w := by
  have hlen := resX_length hrs
  have hR0 : Rel E β S ⟨81, [(0, .d (.int .i64 t)), (1, .d (.sl 5 rows)), (2, .fn f [.ptr 1000000 0])], []⟩ a w := by
    refine ⟨hR.n, hR.dfr, fun t' av ht => ?_, hR.hr.bare⟩
    have hm := look_mem ht
    simp only [List.mem_cons, Prod.mk.injEq, List.not_mem_nil, or_false] at hm
    rcases hm with ⟨rfl, rfl⟩ | ⟨rfl, rfl⟩ | ⟨rfl, rfl⟩
    · exact (hR.tm 0 (.d (.int .i64 t)) rfl).mono (fun _ h => h) (fun _ _ => rfl) (fun l hl => by simp [names] at hl) (fun _ _ => rfl)
    · exact (hR.tm 1 (.d (.sl 5 rows)) rfl).mono (fun _ h => h) (fun _ _ => rfl) (fun l hl => by simp [names] at hl) (fun _ _ => rfl)
    · exact rdFn rfl (hR.tm 2 (.fn f [.ptr 1000000 0]) rfl)
  have hOh : Off β S (look ([] : List (Nat × Ob))) w (HhOf β H) := ⟨fun b ⟨l, h1, h2⟩ => ob_lt hR h1 h2, fun b ⟨l, h1, h2⟩ => hR.hr.apart l b h1 h2, fun b _ l h1 => by cases h1⟩
  refine wp_seq (vis_r0 hR.n fun a1 z1 z2 z3 z4 => ?_)
  have hold : ∀ k, k < w.heap.size → (w.alloc (.map #[] 0)).heap[k]? = w.heap[k]? := fun k hk => heap_alloc_lt w _ hk
  have hsz1 : (w.alloc (.map #[] 0)).heap.size = w.heap.size + 1 := by simp
  have hown := World.ownsGroups_made (H := Unit) w Try.prog 3 3 .i64
  have hnew : (w.alloc (.map #[] 0)).heap[w.heap.size]? = some (.map #[] 0) := (MapKept.heap_alloc w _).1
  have hHg : ∀ k, Hg (w.alloc (.map #[] 0)) w.heap.size k → k = w.heap.size := fun k hk => by
    rcases hk with h | ⟨es, clock, hb, x, hx, _⟩
    · exact h
    · rw [hnew] at hb
      injection hb with hb
      injection hb with hb1 hb2
      subst hb1
      simp at hx
  have hR1 : Rel E β S ⟨81, visT t rows f w.heap.size [], []⟩ a1 (w.alloc (.map #[] 0)) := by
    have h0 := rel_off (a' := a1) (w' := w.alloc (.map #[] 0)) (Hd := fun _ => False) hR0 ⟨fun b h => h.elim, fun b h => h.elim, fun b h => h.elim⟩ (fun b h => h.elim) (by rw [z1, hR.n]) z2 (fun t' av ht => ?_) rfl rfl rfl (by rw [hsz1]; omega) (fun k hk _ => hold k hk)
    · refine ⟨h0.n, h0.dfr, fun t' av ht => ?_, h0.hr⟩
      have ht' : look (visT t rows f w.heap.size []) t' = some av := ht
      have hm := look_mem ht'
      simp only [visT, List.mem_cons, Prod.mk.injEq, List.not_mem_nil, or_false] at hm
      rcases hm with ⟨rfl, rfl⟩ | ⟨rfl, rfl⟩ | ⟨rfl, rfl⟩ | ⟨rfl, rfl⟩
      · exact h0.tm 0 _ rfl
      · exact h0.tm 1 _ rfl
      · exact h0.tm 2 _ rfl
      · rw [z4]; exact .ex _
    · have hm := look_mem ht
      simp only [List.mem_cons, Prod.mk.injEq, List.not_mem_nil, or_false] at hm
      rcases hm with ⟨rfl, rfl⟩ | ⟨rfl, rfl⟩ | ⟨rfl, rfl⟩ <;> refine ⟨z3 _ (by omega) (by omega), fun t'' hg => by simp [gds, gdsL] at hg⟩
  have hO1 : Off β S (look ([] : List (Nat × Ob))) (w.alloc (.map #[] 0)) (fun k => Hg (w.alloc (.map #[] 0)) w.heap.size k ∨ HhOf β H k) := by
    refine ⟨fun k hk => ?_, fun k hk hS => ?_, fun k hk l h1 => by cases h1⟩
    · rcases hk with hk | hk
      · have := hHg k hk; omega
      · have := hOh.lt k hk; omega
    · rcases hk with hk | hk
      · have := hHg k hk; have := hR.hr.sb k hS; omega
      · exact hOh.nS k hk hS
  have hx1 := vis_x1 t f w.heap.size rows onN
  rw [← hlen, show (bif decide (0 ≤ ((List.length rs : Nat) : Int)) && decide (((List.length rs : Nat) : Int) ≤ ((List.length rs : Nat) : Int)) then some () else none) = some () by
    rw [decide_eq_true (by omega), decide_eq_true (by omega)]; rfl, gb_some_eq, show room (Int.toNat ((List.length rs : Nat) : Int) * 8) = some () by
    rw [Int.toNat_natCast]; exact room_ok (by omega), gb_some_eq, Int.toNat_natCast] at hx1
  refine wp_seq (vis_run hx1 hR1 hO1 (fun l hl hs => ?_) fun β2 S2 a2 w2 hR2 hO2 hk2 hs2 => ?_)
  · have hs' : (look [(17, Ob.arr 3 1 (List.replicate rs.length [Go.Vx.D.int .i64 0]))] l).isSome = true := hs
    rw [look_cons, if_neg (by omega)] at hs'
    cases hs'
  have hR2' : Rel E β2 S2 ⟨81, visTp t rows f w.heap.size [], [(17, .arr 3 1 (List.replicate rs.length [Go.Vx.D.int .i64 0]))]⟩ a2 w2 := by
    refine hR2.sub rfl (fun t' av ht => ⟨?_, fun _ _ => rfl⟩) (fun l o ho => ⟨ho, fun _ _ => rfl⟩)
    have ht' : look (visTp t rows f w.heap.size []) t' = some av := ht
    have hm := look_mem ht'
    simp only [visTp, visT, List.mem_cons, Prod.mk.injEq, List.not_mem_nil, or_false] at hm
    rcases hm with ⟨rfl, rfl⟩ | ⟨rfl, rfl⟩ | ⟨rfl, rfl⟩ | ⟨rfl, rfl⟩ | ⟨rfl, rfl⟩ <;> rfl
  have hx2 := vis_x2 t f w.heap.size rows (List.replicate rs.length [Go.Vx.D.int .i64 0]) onN
  rw [← hlen] at hx2
  refine wp_seq (wp_seq (vis_run hx2 hR2' hO2 (fun l hl hs => hs) fun β3 S3 a3 w3 hR3 hO3 hk3 hs3 => ?_))
  have hk13 : ∀ k, Hg (w.alloc (.map #[] 0)) w.heap.size k ∨ HhOf β H k → w3.heap[k]? = (w.alloc (.map #[] 0)).heap[k]? := fun k hk => (hk3 k hk).trans (hk2 k hk)
  refine vis_loop hrs hN (fun k hk => hOh.lt k hk) (by rw [hw0]; exact Nat.le_refl _) ⟨β3, S3, .map [], ?_, ?_, own_same hown (fun k hk => hk13 k (.inl hk)), DOK_zero rs, fun k hk => (hk13 k (.inr hk)).trans (hold k (hOh.lt k hk))⟩ (fun a' w' hl => hQ a' w' hl)
  · rw [posL_zero]
    refine hR3.sub rfl (fun t' av ht => ⟨?_, fun _ _ => rfl⟩) (fun l o ho => ⟨ho, fun _ _ => rfl⟩)
    have hm := look_mem ht
    simp only [visH, visTp, visT, List.mem_cons, Prod.mk.injEq, List.not_mem_nil, or_false] at hm
    rcases hm with ⟨rfl, rfl⟩ | ⟨rfl, rfl⟩ | ⟨rfl, rfl⟩ | ⟨rfl, rfl⟩ | ⟨rfl, rfl⟩ | ⟨rfl, rfl⟩ | ⟨rfl, rfl⟩ | ⟨rfl, rfl⟩ <;> rfl
  · rw [posL_zero]
    exact off_of hO3 (hk13 _ (.inl (.inl rfl)))
end Go.Vx
/-
  occupancy.visit: its contract, from a run of what lies behind the first loop.
-/
set_option linter.unusedVariables false
set_option linter.unusedSimpArgs false
namespace Go.Vx
open Go.Proofs Go.Maps Go.RowKit Go.ChangeShapes

/-- The caller's objects have pinned names, and speak of pinned names alone. -/
def pinC : AV → Bool
  | .d _ => true
  | .nil => true
  | .arr l => Nat.ble 1000000 l
  | _ => false
def pinO : Ob → Bool
  | .box cs => cs.all pinC
  | .arr .. => true
def pinH (H : List (Nat × Ob)) : Bool := H.all fun p => Nat.ble 1000000 p.1 && pinO p.2

theorem pinC_names {x : AV} (h : pinC x = true) {l : Nat} (hn : names l x = true) : 1000000 ≤ l := by
  cases x <;> simp [pinC, names] at h hn
  omega
theorem pinH_at {H : List (Nat × Ob)} (h : pinH H = true) {l : Nat} {o : Ob} (ho : look H l = some o) : 1000000 ≤ l ∧ pinO o = true := by
  have := List.all_eq_true.1 h (l, o) (look_mem ho)
  simp only [Bool.and_eq_true] at this
  exact ⟨Nat.le_of_ble_eq_true this.1, this.2⟩

theorem ints_rd {S : Nat → Prop} {w : World} {base : Nat} {v : Value} {zs : List Int} (h : w.ownsInts base 3 .i64 v zs) (hS : ∀ g, v.ownBlock = some g → S g) : Rd S w v (.sl 1 (zs.map fun z => [.int .i64 z])) := by
  rcases h.1.2 with ⟨rfl, h0⟩ | ⟨g, cap, cur, rfl, _, hg, hle, _, hsz, htk⟩
  · rw [List.length_eq_zero_iff.1 h0]
    exact .sl0 _ _ _
  · have hlen : (zs.map fun z => [Go.Vx.D.int .i64 z]).length = zs.length := List.length_map ..
    have key : ∀ (i j : Nat) (r : List Go.Vx.D) (x : Go.Vx.D), (zs.map fun z => [Go.Vx.D.int .i64 z])[i]? = some r → r[j]? = some x → j = 0 ∧ ∃ z, zs[i]? = some z ∧ x = .int .i64 z := fun i j r x hr hx => by
      rw [List.getElem?_map] at hr
      obtain ⟨z, hz, rfl⟩ := Option.map_eq_some_iff.1 hr
      match j, hx with
      | 0, hx => simp only [List.getElem?_cons_zero, Option.some.injEq] at hx; exact ⟨rfl, z, hz, hx.symm⟩
    have := Rd.sl (S := S) (w := w) ⟨g, 0, none⟩ cap 1 (zs.map fun z => [Go.Vx.D.int .i64 z]) (fun i j => .int .i64 (zs.getD i 0)) (hS g rfl) (by rw [hlen]; exact hle) (fun i r hr => by
      rw [List.getElem?_map] at hr
      obtain ⟨z, hz, rfl⟩ := Option.map_eq_some_iff.1 hr
      rfl) (fun i j r x hr hx => by
      obtain ⟨rfl, z, hz, rfl⟩ := key i j r x hr hx
      have hi : i < zs.length := (List.getElem?_eq_some_iff.1 hz).1
      rw [add_mk]
      have h2 : (cur.toList.take (zs.length * 1))[i]? = some (.int .i64 z) := by rw [htk, List.getElem?_map, hz]; rfl
      rw [List.getElem?_take, if_pos (by omega), Array.getElem?_toList] at h2
      have hz' : zs.getD i 0 = z := by rw [List.getD_eq_getElem?_getD, hz]; rfl
      rw [hz']
      have hlt : i < cur.size := (Array.getElem?_eq_some_iff.1 h2).1
      have h3 : cur[i] = .int .i64 z := (Array.getElem?_eq_some_iff.1 h2).2
      simp [World.cell?, hg, hlt, h3]) (fun i j r x hr hx => by
      obtain ⟨rfl, z, hz, rfl⟩ := key i j r x hr hx
      have hz' : zs.getD i 0 = z := by rw [List.getD_eq_getElem?_getD, hz]; rfl
      rw [hz']
      exact .int _ _)
    rw [hlen] at this
    exact this

theorem key_wf {v : Value} {l : Lit} (h : keyOf Try.prog 3 v = some l) : ∃ m, v = .int .i64 m ∧ (Lit.int .i64 m).wf = true := by
  simp only [keyOf, Try.underlying3, mapKey] at h
  cases v <;> simp at h
  rename_i k m
  exact ⟨m, by rw [h.1.1], h.1.2⟩

theorem lookE_key {n : Int} {v : Value} : ∀ {es : List MapEntry}, lookE es n = some v → ∃ e ∈ es, e.val = v ∧ e.key = .int .i64 n
  | e :: r, h => by
    simp only [lookE] at h
    split at h
    · split at h
      · rename_i hk hm; injection h with h; subst hm; exact ⟨e, List.mem_cons_self .., h, hk⟩
      · obtain ⟨x, hx, hv⟩ := lookE_key h; exact ⟨x, List.mem_cons_of_mem _ hx, hv⟩
    · obtain ⟨x, hx, hv⟩ := lookE_key h; exact ⟨x, List.mem_cons_of_mem _ hx, hv⟩

theorem map_rd {S : Nat → Prop} {w : World} {b : Nat} {rs : List Int} {D : DataW Unit} (hown : w.ownsGroups Try.prog 3 (b + 1) 3 .i64 b rs.length D) (hD : DOK rs rs.length D) (hN : rs.length ≤ 1000000000) (hrg : ∀ j, j < rs.length → -9223372036854775808 ≤ rs.getD j 0 ∧ rs.getD j 0 ≤ 9223372036854775807) (hS : ∀ k, Hg w b k → S k) : MapRd S w (.map (some b)) (grpF rs) := by
  have hwfk : ∃ es clock, w.heap[b]? = some (.map es clock) ∧ ∀ e ∈ es.toList, ∃ m, e.key = .int .i64 m ∧ (Lit.int .i64 m).wf = true := by
    obtain ⟨es, clock, hb, F, hs, _⟩ := hown
    refine ⟨es, clock, hb, fun e he => ?_⟩
    obtain ⟨y, hy⟩ := F.reads e he
    exact key_wf (WideElems.rd_key hy)
  obtain ⟨es, clock, hb, hk⟩ := hwfk
  have hk' : ∀ e ∈ es.toList, ∃ m, e.key = .int .i64 m := fun e he => (hk e he).imp fun m h => h.1
  have one : ∀ n : Int, (Lit.int .i64 n).wf = true → ∃ zs, w.ownsInts (b + 1) 3 .i64 ((lookE es.toList n).getD (.slice none 0 0)) zs ∧ zs = grpI rs rs.length n := fun n hn => by
    obtain ⟨v, zs, h1, h2, h3, _⟩ := (GI_of hown).lookup hN hn
    have hv := h1 w rfl
    rw [look_run hb hk'] at hv
    injection hv with hv
    exact ⟨zs, hv ▸ h3, DOK_zs hD h2 h3⟩
  refine ⟨b, es, clock, rfl, hS b (.inl rfl), hb, hk', fun n hn => ?_, fun n v' hv => ?_⟩
  · by_cases hwf : (Lit.int .i64 n).wf = true
    · obtain ⟨zs, h1, h2⟩ := one n hwf
      rw [hn] at h1
      have h0 : zs = [] := h1.unique (World.ownsInts_nil _ _ _ _)
      unfold grpF
      rw [← h2, h0]
      rfl
    · have hg : grpI rs rs.length n = [] := by
        unfold grpI
        rw [List.map_eq_nil_iff, List.filter_eq_nil_iff]
        intro j hj he
        have hj' : j < rs.length := by simpa using hj
        obtain ⟨h1, h2⟩ := hrg j hj'
        have he' : rs.getD j 0 = n := by simpa using he
        exact hwf (WalkArith.wf_i64 (by omega))
      unfold grpF
      rw [hg]
      rfl
  · obtain ⟨e, he, hev, hek⟩ := lookE_key hv
    obtain ⟨m, hm1, hm2⟩ := hk e he
    have : m = n := by rw [hek] at hm1; injection hm1 with _ h; exact h.symm
    subst this
    obtain ⟨zs, h1, h2⟩ := one m hm2
    rw [hv] at h1
    unfold grpF
    rw [← h2]
    exact ints_rd h1 (fun g hg => hS g (.inr ⟨es, clock, hb, e, he, by rw [hev]; exact hg⟩))

/-- The places' list, as data. -/
theorem arr_rd {β : Nat → Option Nat} {S S' : Nat → Prop} {h : Nat → Option Ob} {w : World} {tm : Nat → Value} {v : Value} {l e s : Nat} {rows : List (List Go.Vx.D)} (hv : RdA β S h w tm v (.arr l)) (hh : h l = some (.arr e s rows)) (hob : ObR β S h w l (.arr e s rows)) (hS : ∀ k, S k → S' k) (hl : ∀ k, β l = some k → S' k) : Rd S' w v (.sl s rows) := by
  cases hv with
  | arr0 _ e' s' hb hh' =>
    rw [hh] at hh'
    injection hh' with hh'
    injection hh' with h1 h2 h3
    subst h3
    exact .sl0 _ _ _
  | arr _ b cap e' s' rows' cs ty fz hb hh' hw hcs hcap hmax =>
    rw [hh] at hh'
    injection hh' with hh'
    injection hh' with h1 h2 h3
    subst h1 h2 h3
    rcases hob with ⟨h0, _⟩ | ⟨b', cs', hb', hw', hle, hr1, hr2⟩
    · rw [hb] at h0; cases h0
    · rw [hb] at hb'
      injection hb' with hb'
      subst hb'
      rw [hw] at hw'
      injection hw' with hw'
      injection hw' with hw1 hw2 hw3
      subst hw1
      refine .sl ⟨b, 0, none⟩ cap s rows (fun i j => cs.getD (i * s + j) undef) (hl b hb) hcap hr1 (fun i j r x hr hx => ?_) (fun i j r x hr hx => ?_)
      · obtain ⟨u, hu, _⟩ := hr2 i j r x hr hx
        rw [add_mk]
        have hlt : i * s + j < cs.size := (Array.getElem?_eq_some_iff.1 hu).1
        simp [World.cell?, hw, hlt]
      · obtain ⟨u, hu, hrd⟩ := hr2 i j r x hr hx
        have hlt : i * s + j < cs.size := (Array.getElem?_eq_some_iff.1 hu).1
        have h3 : cs[i * s + j] = u := (Array.getElem?_eq_some_iff.1 hu).2
        have : cs.getD (i * s + j) undef = u := by simp [Array.getD, hlt, h3]
        rw [this]
        exact hrd.mono hS (fun _ _ => rfl)
  | dang _ _ l' hl' hh' =>
    simp only [locOf, Option.some.injEq] at hl'
    subst hl'
    rw [hh] at hh'
    cases hh'

theorem vis_end {E : Env} {β : Nat → Option Nat} {S : Nat → Prop} {a a' : Act} {w w' : World} {t : Int} {rows : List (List Go.Vx.D)} {f : Nat} {H : List (Nat × Ob)} {rs : List Int} {st0 : St} (hrs : resX rows = some rs) (hN : rs.length ≤ 1000000000) (hpin : pinH H = true)
    (hE : E = ⟨w, fun b => ∃ l, (look H l).isSome = true ∧ β l = some b, S, β⟩) (hst : st0.h = H) (hR : Rel E β S st0 a w) (h : LI E t rows f w.heap.size rs (HhOf β H) w rs.length a' w') :
    RelX E ⟨81, [(0, .d (.int .i64 t)), (1, .d (.sl 5 rows)), (2, .fn f [.ptr 1000000 0]), (6, .mpd (grpF rs)), (7, .d (.sl 1 (posL rs rs.length)))], H⟩ a' w' := by
  subst hst
  obtain ⟨β', S', D, hR', hO, hown, hD, hH⟩ := h
  have hpinE : ∀ l, 1000000 ≤ l → β' l = β l := fun l hl => by have := hR'.hr.pin l hl; rw [hE] at this; exact this
  have hw0 : E.w0 = w := by rw [hE]
  have hS0 : ∀ k, S k → S' k := fun k hk => hR'.hr.s0 k (by rw [hE]; exact hk)
  have h17 : (look (visH t rows f w.heap.size (rs.length : Nat) (rs.length : Nat) (posL rs rs.length)).h 17) = some (.arr 3 1 (posL rs rs.length)) := rfl
  have hrg : ∀ j, j < rs.length → -9223372036854775808 ≤ rs.getD j 0 ∧ rs.getD j 0 ≤ 9223372036854775807 := fun j hj => by
    obtain ⟨r, _, _, _, _, _, g2, g3, g4⟩ := resX_at hrs j (by rw [← resX_length hrs]; exact hj)
    rw [g2]; exact ⟨g3, g4⟩
  refine ⟨β', fun k => S' k ∨ Hg w' w.heap.size k ∨ β' 17 = some k, hR'.n, hR'.dfr, fun t' av ht => ?_, ?_⟩
  · have hm := look_mem ht
    simp only [List.mem_cons, Prod.mk.injEq, List.not_mem_nil, or_false] at hm
    rcases hm with ⟨rfl, rfl⟩ | ⟨rfl, rfl⟩ | ⟨rfl, rfl⟩ | ⟨rfl, rfl⟩ | ⟨rfl, rfl⟩
    · exact (hR'.tm 0 (.d (.int .i64 t)) rfl).mono (fun _ h => .inl h) (fun _ _ => rfl) (fun l hl => by simp [names] at hl) (fun _ _ => rfl)
    · exact (hR'.tm 1 (.d (.sl 5 rows)) rfl).mono (fun _ h => .inl h) (fun _ _ => rfl) (fun l hl => by simp [names] at hl) (fun _ _ => rfl)
    · exact rdFn rfl (hR'.tm 2 (.fn f [.ptr 1000000 0]) rfl)
    · rw [show tmv a' 6 = .map (some w.heap.size) from RdA.ex_inv (hR'.tm 6 _ rfl)]
      exact .mpd _ _ (map_rd hown hD hN hrg (fun k hk => .inr (.inl hk)))
    · exact .d _ _ (arr_rd (hR'.tm 7 (.arr 17) rfl) h17 (hR'.hr.ob 17 _ h17) (fun k hk => .inl hk) (fun k hk => .inr (.inr hk)))
  · have hkeep : ∀ l, 1000000 ≤ l → Keep β (look st0.h) w β' (look st0.h) w' l := fun l hl => ⟨hpinE l hl, id, fun e s rows h0 => .inr ⟨rows, h0, rfl⟩, fun b cs ty fz hs hb hw => ⟨cs, ty, fz, (hH b ⟨l, hs, hb⟩).trans hw, rfl⟩⟩
    have hSw : ∀ k, S k → w'.heap[k]? = w.heap[k]? := fun k hk => by
      have hfr := hR'.hr.fr.block k (by rw [hw0]; exact hR.hr.sb k hk) (fun hM => by
        rw [hE] at hM
        obtain ⟨l, h1, h2⟩ := hM
        exact hR.hr.apart l k h1 h2 hk)
      rw [hw0] at hfr
      exact hfr
    have hin : ∀ l, (look st0.h l).isSome = true → 1000000 ≤ l := fun l hl => by
      obtain ⟨o, ho⟩ := Option.isSome_iff_exists.1 hl
      exact (pinH_at hpin ho).1
    refine ⟨fun l o ho => ?_, fun l l' b h1 h2 h3 h4 => ?_, fun l b h1 h2 hS => ?_, fun l b h1 h2 => ?_, fun b hS => ?_, fun b hS => ?_, fun b hb => .inl (hR'.hr.s0 b hb), hR'.hr.fr, hR'.hr.pin, fun l b hl hs hb cs ty fz hw => ?_⟩
    · obtain ⟨hl, ho2⟩ := pinH_at hpin ho
      have hob := hR.hr.ob l o ho
      cases o with
      | box cells =>
        obtain ⟨b, ty, cs, fz, g1, g2, g3, g4, g5⟩ := hob
        refine ⟨b, ty, cs, fz, (hpinE l hl).trans g1, (hH b ⟨l, by rw [ho]; rfl, g1⟩).trans g2, g3, g4, fun i x hx => (g5 i x hx).mono (fun k hk => .inl (hS0 k hk)) hSw (fun m hm => hkeep m ?_) (fun _ _ => rfl)⟩
        exact pinC_names (List.all_eq_true.1 ho2 x (List.mem_of_getElem? hx)) hm
      | arr e s rows' =>
        rcases hob with ⟨g1, g2⟩ | ⟨b, cs, g1, g2, g3, g4, g5⟩
        · exact .inl ⟨(hpinE l hl).trans g1, g2⟩
        · refine .inr ⟨b, cs, (hpinE l hl).trans g1, (hH b ⟨l, by rw [ho]; rfl, g1⟩).trans g2, g3, g4, fun i j r x hr hx => ?_⟩
          obtain ⟨v, q1, q2⟩ := g5 i j r x hr hx
          exact ⟨v, q1, q2.mono (fun k hk => .inl (hS0 k hk)) hSw⟩
    · exact hR.hr.inj l l' b h1 h2 ((hpinE l (hin l h1)).symm.trans h3) ((hpinE l' (hin l' h2)).symm.trans h4)
    · have hh : HhOf β st0.h b := ⟨l, h1, (hpinE l (hin l h1)).symm.trans h2⟩
      rcases hS with hS | hS | hS
      · exact hO.nS b (.inr hh) hS
      · have hlt : b < w.heap.size := ob_lt hR h1 ((hpinE l (hin l h1)).symm.trans h2)
        rcases hS with hS | hS
        · omega
        · have := (row_ge hown hS).1; omega
      · exact hO.nO b (.inr hh) 17 rfl hS
    · refine .inl ?_
      rw [hE]
      exact ⟨l, h1, (hpinE l (hin l h1)).symm.trans h2⟩
    · rcases hS with hS | hS | hS
      · exact hR'.hr.sb b hS
      · exact hO.lt b (.inl hS)
      · exact ob_lt hR' (l := 17) rfl hS
    · rcases hS with hS | hS | hS
      · exact hR'.hr.sfr b hS
      · refine .inr (.inr ?_)
        rw [hw0]
        rcases hS with hS | hS
        · omega
        · have := (row_ge hown hS).1; omega
      · exact .inr (hR'.hr.own 17 b rfl hS)
    · rw [hw0] at hw
      exact ⟨cs, ty, fz, (hH b ⟨l, hs, (hpinE l hl).symm.trans hb⟩).trans hw, rfl⟩

theorem visBody_eq : visBody = .seq (visR 0) (.seq (visR 1) (.seq (.seq (visR 2) (.block 0 (.loop visLB))) (cR (cR (cR visBody))))) := by kernel_rfl

theorem vis_calls {C : VC} (hC : VCOk Try.prog C) {n : Nat} {t : Int} {rows : List (List Go.Vx.D)} {f : Nat} {H : List (Nat × Ob)} {R : Type} {K : AV → List (Nat × Ob) → Option R} {res : R} (hpin : pinH H = true)
    (h : (visPre rows fun G p => vexec C n (cR (cR (cR (bodyOf Try.f23)))) ⟨81, [(0, .d (.int .i64 t)), (1, .d (.sl 5 rows)), (2, .fn f [.ptr 1000000 0]), (6, .mpd G), (7, .d (.sl 1 p))], H⟩ (fnK C.tt Try.f23 K)) = some res)
    {β : Nat → Option Nat} {S : Nat → Prop} {w : World} {vs : List Value} (hO : Objs β S (look H) w) (hA : ArgsRd β S (look H) w vs [.d (.int .i64 t), .d (.sl 5 rows), .fn f [.ptr 1000000 0]]) : Calls Try.prog 23 vs.toArray w (FnPost H K res β S w) := by
  unfold visPre at h
  split at h
  rotate_left
  · cases h
  rename_i rs hrs
  cases hb : Nat.ble rs.length 1000000000 with
  | false => simp [hb] at h
  | true =>
    simp only [hb, cond_true] at h
    have hN := Nat.le_of_ble_eq_true hb
    refine fn_calls hC (fn := Try.f23) (c := visBody) (by kernel_rfl) (by kernel_rfl) (by kernel_rfl) (fun a hR => ?_) hO hA
    rw [visBody_eq]
    refine vis_start (t := t) (rows := rows) (f := f) hrs hN rfl hR fun a' w' hl => ?_
    exact vexec_sound hC n _ _ _ res h a' w' (vis_end hrs hN hpin rfl rfl hR hl)
end Go.Vx
/-
  arith_CeilDiv: the interpreter computes the pure function
-/
set_option linter.unusedVariables false
set_option linter.unusedSimpArgs false
set_option maxRecDepth 100000
namespace Go.Vx
open Go.Proofs
noncomputable def arith_CeilDiv_c0 : Code := bodyOf Try.f47
def arith_CeilDiv_tt : TT := [(3, ⟨.int .i64, 1, 8, [.int .i64 0], [.int .i64 0], [], none⟩)]
theorem arith_CeilDiv_tt_eq : mkTT Try.prog [3] = arith_CeilDiv_tt := by kernel_rfl
def arith_CeilDiv_cfg : List (Nat × Cfg) := [(0, ⟨[0, 1], [], [], [], []⟩), (1, ⟨[0, 1, 8], [], [], [], []⟩), (2, ⟨[4, 5], [], [], [], []⟩), (3, ⟨[0, 1, 6], [], [], [], []⟩), (4, ⟨[6, 15], [], [], [], []⟩), (5, ⟨[6], [], [], [], []⟩), (6, ⟨[4, 5], [], [], [], []⟩)]
def arith_CeilDiv_C (n : Nat) : VC := ⟨specOf [], arith_CeilDiv_tt, arith_CeilDiv_cfg⟩
theorem arith_CeilDiv_ents (n : Nat) : EntsOK Try.prog [] := trivial
theorem arith_CeilDiv_VC (n : Nat) : VCOk Try.prog (arith_CeilDiv_C n) := ⟨specOf_ok (arith_CeilDiv_ents n), (arith_CeilDiv_tt_eq ▸ mkTT_ok _ : TOk Try.prog arith_CeilDiv_tt), by kernel_rfl⟩
theorem arith_CeilDiv_p1_congr {R : Type} (n : Nat) (a0 : Int) (a1 : Int) {k0 kk0 : Int → Int → Option R} (hq0 : ∀ x0 x1, k0 x0 x1 = kk0 x0 x1) : arith_CeilDiv_p1 n a0 a1 k0 = arith_CeilDiv_p1 n a0 a1 kk0 := by
  obtain rfl : k0 = kk0 := funext fun x0 => funext fun x1 => hq0 x0 x1
  rfl
theorem arith_CeilDiv_p1_eq {R : Type} (n : Nat) (a0 : Int) (a1 : Int) (k : Exit → St → Option R) : vexec (arith_CeilDiv_C n) n arith_CeilDiv_c0 ⟨19, [(0, .d (D.int .i64 a0)), (1, .d (D.int .i64 a1))], []⟩ k = arith_CeilDiv_p1 n a0 a1 (fun z3 z4 => k .ret ⟨19, [(4, .d (D.int .i64 z3)), (5, .d (D.int .i64 z4))], []⟩) := by kernel_rfl
theorem arith_CeilDiv_vfn {R : Type} (n : Nat) (a0 : Int) (a1 : Int) (K : AV → Option R) : vfn (arith_CeilDiv_C n) n Try.f47 [.d (D.int .i64 a0), .d (D.int .i64 a1)] [] (retF [[0], [0]] K) = arith_CeilDiv n a0 a1 (fun r0 r1 => K (.tup [.d (D.int .i64 r0), .d (D.int .i64 r1)])) :=
  (show vfn (arith_CeilDiv_C n) n Try.f47 [.d (D.int .i64 a0), .d (D.int .i64 a1)] [] (retF [[0], [0]] K) = vexec (arith_CeilDiv_C n) n arith_CeilDiv_c0 ⟨19, [(0, .d (D.int .i64 a0)), (1, .d (D.int .i64 a1))], []⟩ (retX arith_CeilDiv_tt [.tmp 4, .tmp 5] (retF [[0], [0]] K)) from vfn_at (by kernel_rfl) (by kernel_rfl) rfl (by kernel_rfl) rfl (by kernel_rfl) rfl).trans ((arith_CeilDiv_p1_eq n a0 a1 (retX arith_CeilDiv_tt [.tmp 4, .tmp 5] (retF [[0], [0]] K))).trans (by kernel_rfl))
def arith_CeilDiv_K : AV → Option (Int × Int) := fun av => match av with
  | .tup [.d (D.int .i64 r0), .d (D.int .i64 r1)] => some (r0, r1)
  | _ => none
def arith_CeilDiv_e (n : Nat) : Entry := fun _ _ g avs _ k => match avs with
  | [c0, c1] => prI g .i64 c0 fun a0 => prI g .i64 c1 fun a1 => 
    gb g (arith_CeilDiv n a0 a1 (fun r0 r1 => some (r0, r1))) (0, 0) fun r => k ⟨.tup [.d (D.int .i64 r.1), .d (D.int .i64 r.2)], [], []⟩
  | _ => none
theorem arith_CeilDiv_ok (n : Nat) : EntryOK Try.prog 47 (arith_CeilDiv_e n) := by
  intro R site g avs hl k r h
  unfold arith_CeilDiv_e at h
  split at h
  rotate_left
  · cases h
  replace h := prI_some h
  obtain ⟨a0, h, le0⟩ := h
  replace h := prI_some h
  obtain ⟨a1, h, le1⟩ := h
  replace h := gb_some h
  obtain ⟨res, h, hr⟩ := h
  refine ⟨_, h, fun hg => CallOK.conv (avs' := [.d (D.int .i64 a0), .d (D.int .i64 a1)]) (.cons (le0 hg) (.cons (le1 hg) (.nil))) (callOK_fix (K := arith_CeilDiv_K) (res := res) (arith_CeilDiv_VC n) (fn := Try.f47) (n := n) (by kernel_rfl) (by kernel_rfl) (by kernel_rfl) (ss := [[0], [0]]) rfl ?_ ?_)⟩
  · exact (arith_CeilDiv_vfn n a0 a1 arith_CeilDiv_K).trans (hr hg)
  · intro x hx
    unfold arith_CeilDiv_K at hx
    split at hx
    · injection hx with hx; subst hx; rfl
    · cases hx
end Go.Vx
/-
  arith_FloorDiv: the interpreter computes the pure function
-/
set_option linter.unusedVariables false
set_option linter.unusedSimpArgs false
set_option maxRecDepth 100000
namespace Go.Vx
open Go.Proofs
noncomputable def arith_FloorDiv_c0 : Code := bodyOf Try.f48
def arith_FloorDiv_tt : TT := [(3, ⟨.int .i64, 1, 8, [.int .i64 0], [.int .i64 0], [], none⟩)]
theorem arith_FloorDiv_tt_eq : mkTT Try.prog [3] = arith_FloorDiv_tt := by kernel_rfl
def arith_FloorDiv_cfg : List (Nat × Cfg) := [(0, ⟨[0, 1], [], [], [], []⟩), (1, ⟨[0, 1, 8], [], [], [], []⟩), (2, ⟨[4, 5], [], [], [], []⟩), (3, ⟨[0, 1, 6], [], [], [], []⟩), (4, ⟨[6, 15], [], [], [], []⟩), (5, ⟨[6], [], [], [], []⟩), (6, ⟨[4, 5], [], [], [], []⟩)]
def arith_FloorDiv_C (n : Nat) : VC := ⟨specOf [], arith_FloorDiv_tt, arith_FloorDiv_cfg⟩
theorem arith_FloorDiv_ents (n : Nat) : EntsOK Try.prog [] := trivial
theorem arith_FloorDiv_VC (n : Nat) : VCOk Try.prog (arith_FloorDiv_C n) := ⟨specOf_ok (arith_FloorDiv_ents n), (arith_FloorDiv_tt_eq ▸ mkTT_ok _ : TOk Try.prog arith_FloorDiv_tt), by kernel_rfl⟩
theorem arith_FloorDiv_p1_congr {R : Type} (n : Nat) (a0 : Int) (a1 : Int) {k0 kk0 : Int → Int → Option R} (hq0 : ∀ x0 x1, k0 x0 x1 = kk0 x0 x1) : arith_FloorDiv_p1 n a0 a1 k0 = arith_FloorDiv_p1 n a0 a1 kk0 := by
  obtain rfl : k0 = kk0 := funext fun x0 => funext fun x1 => hq0 x0 x1
  rfl
theorem arith_FloorDiv_p1_eq {R : Type} (n : Nat) (a0 : Int) (a1 : Int) (k : Exit → St → Option R) : vexec (arith_FloorDiv_C n) n arith_FloorDiv_c0 ⟨19, [(0, .d (D.int .i64 a0)), (1, .d (D.int .i64 a1))], []⟩ k = arith_FloorDiv_p1 n a0 a1 (fun z3 z4 => k .ret ⟨19, [(4, .d (D.int .i64 z3)), (5, .d (D.int .i64 z4))], []⟩) := by kernel_rfl
theorem arith_FloorDiv_vfn {R : Type} (n : Nat) (a0 : Int) (a1 : Int) (K : AV → Option R) : vfn (arith_FloorDiv_C n) n Try.f48 [.d (D.int .i64 a0), .d (D.int .i64 a1)] [] (retF [[0], [0]] K) = arith_FloorDiv n a0 a1 (fun r0 r1 => K (.tup [.d (D.int .i64 r0), .d (D.int .i64 r1)])) :=
  (show vfn (arith_FloorDiv_C n) n Try.f48 [.d (D.int .i64 a0), .d (D.int .i64 a1)] [] (retF [[0], [0]] K) = vexec (arith_FloorDiv_C n) n arith_FloorDiv_c0 ⟨19, [(0, .d (D.int .i64 a0)), (1, .d (D.int .i64 a1))], []⟩ (retX arith_FloorDiv_tt [.tmp 4, .tmp 5] (retF [[0], [0]] K)) from vfn_at (by kernel_rfl) (by kernel_rfl) rfl (by kernel_rfl) rfl (by kernel_rfl) rfl).trans ((arith_FloorDiv_p1_eq n a0 a1 (retX arith_FloorDiv_tt [.tmp 4, .tmp 5] (retF [[0], [0]] K))).trans (by kernel_rfl))
def arith_FloorDiv_K : AV → Option (Int × Int) := fun av => match av with
  | .tup [.d (D.int .i64 r0), .d (D.int .i64 r1)] => some (r0, r1)
  | _ => none
def arith_FloorDiv_e (n : Nat) : Entry := fun _ _ g avs _ k => match avs with
  | [c0, c1] => prI g .i64 c0 fun a0 => prI g .i64 c1 fun a1 => 
    gb g (arith_FloorDiv n a0 a1 (fun r0 r1 => some (r0, r1))) (0, 0) fun r => k ⟨.tup [.d (D.int .i64 r.1), .d (D.int .i64 r.2)], [], []⟩
  | _ => none
theorem arith_FloorDiv_ok (n : Nat) : EntryOK Try.prog 48 (arith_FloorDiv_e n) := by
  intro R site g avs hl k r h
  unfold arith_FloorDiv_e at h
  split at h
  rotate_left
  · cases h
  replace h := prI_some h
  obtain ⟨a0, h, le0⟩ := h
  replace h := prI_some h
  obtain ⟨a1, h, le1⟩ := h
  replace h := gb_some h
  obtain ⟨res, h, hr⟩ := h
  refine ⟨_, h, fun hg => CallOK.conv (avs' := [.d (D.int .i64 a0), .d (D.int .i64 a1)]) (.cons (le0 hg) (.cons (le1 hg) (.nil))) (callOK_fix (K := arith_FloorDiv_K) (res := res) (arith_FloorDiv_VC n) (fn := Try.f48) (n := n) (by kernel_rfl) (by kernel_rfl) (by kernel_rfl) (ss := [[0], [0]]) rfl ?_ ?_)⟩
  · exact (arith_FloorDiv_vfn n a0 a1 arith_FloorDiv_K).trans (hr hg)
  · intro x hx
    unfold arith_FloorDiv_K at hx
    split at hx
    · injection hx with hx; subst hx; rfl
    · cases hx
end Go.Vx
/-
  occupancy_conflict: the interpreter computes the pure function
-/
set_option linter.unusedVariables false
set_option linter.unusedSimpArgs false
set_option maxRecDepth 100000
namespace Go.Vx
open Go.Proofs
noncomputable def occupancy_conflict_c0 : Code := bodyOf Try.f32
noncomputable def occupancy_conflict_c1 : Code := cL (bodyOf Try.f32)
noncomputable def occupancy_conflict_c2 : Code := cL (cR (bodyOf Try.f32))
noncomputable def occupancy_conflict_c3 : Code := cL (cR (cR (bodyOf Try.f32)))
noncomputable def occupancy_conflict_c4 : Code := cB (cL (cR (cR (cR (bodyOf Try.f32)))))
noncomputable def occupancy_conflict_c5 : Code := cL (cR (cR (cR (bodyOf Try.f32))))
noncomputable def occupancy_conflict_c6 : Code := cR (cR (cR (cR (bodyOf Try.f32))))
noncomputable def occupancy_conflict_c7 : Code := cR (cR (cR (bodyOf Try.f32)))
noncomputable def occupancy_conflict_c8 : Code := cR (cR (bodyOf Try.f32))
noncomputable def occupancy_conflict_c9 : Code := cR (bodyOf Try.f32)
theorem occupancy_conflict_c5_eq : occupancy_conflict_c5 = .block 0 occupancy_conflict_c4 := by kernel_rfl
theorem occupancy_conflict_c7_eq : occupancy_conflict_c7 = .seq occupancy_conflict_c5 occupancy_conflict_c6 := by kernel_rfl
theorem occupancy_conflict_c8_eq : occupancy_conflict_c8 = .seq occupancy_conflict_c3 occupancy_conflict_c7 := by kernel_rfl
theorem occupancy_conflict_c9_eq : occupancy_conflict_c9 = .seq occupancy_conflict_c2 occupancy_conflict_c8 := by kernel_rfl
theorem occupancy_conflict_c0_eq : occupancy_conflict_c0 = .seq occupancy_conflict_c1 occupancy_conflict_c9 := by kernel_rfl
def occupancy_conflict_tt : TT := [(3, ⟨.int .i64, 1, 8, [.int .i64 0], [.int .i64 0], [], none⟩), (31, ⟨.struct, 5, 40, [.int .i64 0, .int .i64 0, .int .i64 0, .int .i64 0, .int .i64 0], [.int .i64 0, .int .i64 0, .int .i64 0, .int .i64 0, .int .i64 0], [(0, 3), (1, 3), (2, 3), (3, 3), (4, 3)], some [.int .i64, .int .i64, .int .i64, .int .i64, .int .i64]⟩)]
theorem occupancy_conflict_tt_eq : mkTT Try.prog [3, 31] = occupancy_conflict_tt := by kernel_rfl
def occupancy_conflict_cfg : List (Nat × Cfg) := [(0, ⟨[0, 4, 5], [(4, 4), (5, 5)], [], [], []⟩), (1, ⟨[0, 4, 5, 7], [(4, 4), (5, 5)], [], [], []⟩), (2, ⟨[4, 5, 7, 9], [(4, 4), (5, 5)], [], [], []⟩), (3, ⟨[4, 5, 7, 9, 39], [(4, 4), (5, 5)], [], [], []⟩), (4, ⟨[6], [], [], [], []⟩), (5, ⟨[4, 7, 9, 43], [(4, 4)], [], [], []⟩), (6, ⟨[6], [], [], [], []⟩), (7, ⟨[4, 7, 9, 49], [(4, 4)], [], [], []⟩), (8, ⟨[6], [], [], [], []⟩), (9, ⟨[4, 7, 9, 59], [(4, 4)], [], [], []⟩), (10, ⟨[6], [], [], [], []⟩), (11, ⟨[6], [], [], [], []⟩)]
def occupancy_conflict_C (n : Nat) : VC := ⟨specOf [(47, arith_CeilDiv_e n), (48, arith_FloorDiv_e n)], occupancy_conflict_tt, occupancy_conflict_cfg⟩
theorem occupancy_conflict_ents (n : Nat) : EntsOK Try.prog [(47, arith_CeilDiv_e n), (48, arith_FloorDiv_e n)] := ⟨arith_CeilDiv_ok n, ⟨arith_FloorDiv_ok n, trivial⟩⟩
theorem occupancy_conflict_VC (n : Nat) : VCOk Try.prog (occupancy_conflict_C n) := ⟨specOf_ok (occupancy_conflict_ents n), (occupancy_conflict_tt_eq ▸ mkTT_ok _ : TOk Try.prog occupancy_conflict_tt), by kernel_rfl⟩
theorem occupancy_conflict_p1_congr {R : Type} (n : Nat) (a0 : Int) (a1_0 : Int) (a1_1 : Int) (a1_2 : Int) (a1_3 : Int) (a1_4 : Int) (a2_0 : Int) (a2_1 : Int) (a2_2 : Int) (a2_3 : Int) (a2_4 : Int) {k0 kk0 : Option R} (hq0 : k0 = kk0) : occupancy_conflict_p1 n a0 a1_0 a1_1 a1_2 a1_3 a1_4 a2_0 a2_1 a2_2 a2_3 a2_4 k0 = occupancy_conflict_p1 n a0 a1_0 a1_1 a1_2 a1_3 a1_4 a2_0 a2_1 a2_2 a2_3 a2_4 kk0 := by
  obtain rfl : k0 = kk0 := hq0
  rfl
theorem occupancy_conflict_p2_congr {R : Type} (n : Nat) (a0 : Int) (a1_0 : Int) (a1_1 : Int) (a1_2 : Int) (a1_3 : Int) (a1_4 : Int) (a2_0 : Int) (a2_1 : Int) (a2_2 : Int) (a2_3 : Int) (a2_4 : Int) {k0 kk0 : Int → Option R} (hq0 : ∀ x0, k0 x0 = kk0 x0) : occupancy_conflict_p2 n a0 a1_0 a1_1 a1_2 a1_3 a1_4 a2_0 a2_1 a2_2 a2_3 a2_4 k0 = occupancy_conflict_p2 n a0 a1_0 a1_1 a1_2 a1_3 a1_4 a2_0 a2_1 a2_2 a2_3 a2_4 kk0 := by
  obtain rfl : k0 = kk0 := funext fun x0 => hq0 x0
  rfl
theorem occupancy_conflict_p3_congr {R : Type} (n : Nat) (a0 : Int) (w3 : Int) (a1_0 : Int) (a1_1 : Int) (a1_2 : Int) (a1_3 : Int) (a1_4 : Int) (a2_0 : Int) (a2_1 : Int) (a2_2 : Int) (a2_3 : Int) (a2_4 : Int) {k0 kk0 : Int → Option R} (hq0 : ∀ x0, k0 x0 = kk0 x0) : occupancy_conflict_p3 n a0 w3 a1_0 a1_1 a1_2 a1_3 a1_4 a2_0 a2_1 a2_2 a2_3 a2_4 k0 = occupancy_conflict_p3 n a0 w3 a1_0 a1_1 a1_2 a1_3 a1_4 a2_0 a2_1 a2_2 a2_3 a2_4 kk0 := by
  obtain rfl : k0 = kk0 := funext fun x0 => hq0 x0
  rfl
theorem occupancy_conflict_p4_congr {R : Type} (n : Nat) (w3 : Int) (w6 : Int) (a1_0 : Int) (a1_1 : Int) (a1_2 : Int) (a1_3 : Int) (a1_4 : Int) (a2_0 : Int) (a2_1 : Int) (a2_2 : Int) (a2_3 : Int) (a2_4 : Int) {k0 kk0 : Bool → Option R} {k1 kk1 : Bool → Option R} (hq0 : ∀ x0, k0 x0 = kk0 x0) (hq1 : ∀ x0, k1 x0 = kk1 x0) : occupancy_conflict_p4 n w3 w6 a1_0 a1_1 a1_2 a1_3 a1_4 a2_0 a2_1 a2_2 a2_3 a2_4 k0 k1 = occupancy_conflict_p4 n w3 w6 a1_0 a1_1 a1_2 a1_3 a1_4 a2_0 a2_1 a2_2 a2_3 a2_4 kk0 kk1 := by
  obtain rfl : k0 = kk0 := funext fun x0 => hq0 x0
  obtain rfl : k1 = kk1 := funext fun x0 => hq1 x0
  rfl
theorem occupancy_conflict_p5_congr {R : Type} (n : Nat) (w3 : Int) (w6 : Int) (a1_0 : Int) (a1_1 : Int) (a1_2 : Int) (a1_3 : Int) (a1_4 : Int) (a2_0 : Int) (a2_1 : Int) (a2_2 : Int) (a2_3 : Int) (a2_4 : Int) {k0 kk0 : Bool → Option R} {k1 kk1 : Bool → Option R} (hq0 : ∀ x0, k0 x0 = kk0 x0) (hq1 : ∀ x0, k1 x0 = kk1 x0) : occupancy_conflict_p5 n w3 w6 a1_0 a1_1 a1_2 a1_3 a1_4 a2_0 a2_1 a2_2 a2_3 a2_4 k0 k1 = occupancy_conflict_p5 n w3 w6 a1_0 a1_1 a1_2 a1_3 a1_4 a2_0 a2_1 a2_2 a2_3 a2_4 kk0 kk1 := by
  obtain rfl : k0 = kk0 := funext fun x0 => hq0 x0
  obtain rfl : k1 = kk1 := funext fun x0 => hq1 x0
  rfl
theorem occupancy_conflict_p6_congr {R : Type} (n : Nat) (w3 : Int) (w6 : Int) (w12 : Bool) (a1_0 : Int) (a1_1 : Int) (a1_2 : Int) (a1_3 : Int) (a1_4 : Int) {k0 kk0 : Bool → Option R} (hq0 : ∀ x0, k0 x0 = kk0 x0) : occupancy_conflict_p6 n w3 w6 w12 a1_0 a1_1 a1_2 a1_3 a1_4 k0 = occupancy_conflict_p6 n w3 w6 w12 a1_0 a1_1 a1_2 a1_3 a1_4 kk0 := by
  obtain rfl : k0 = kk0 := funext fun x0 => hq0 x0
  rfl
theorem occupancy_conflict_p7_congr {R : Type} (n : Nat) (w3 : Int) (w6 : Int) (a1_0 : Int) (a1_1 : Int) (a1_2 : Int) (a1_3 : Int) (a1_4 : Int) (a2_0 : Int) (a2_1 : Int) (a2_2 : Int) (a2_3 : Int) (a2_4 : Int) {k0 kk0 : Bool → Option R} (hq0 : ∀ x0, k0 x0 = kk0 x0) : occupancy_conflict_p7 n w3 w6 a1_0 a1_1 a1_2 a1_3 a1_4 a2_0 a2_1 a2_2 a2_3 a2_4 k0 = occupancy_conflict_p7 n w3 w6 a1_0 a1_1 a1_2 a1_3 a1_4 a2_0 a2_1 a2_2 a2_3 a2_4 kk0 := by
  obtain rfl : k0 = kk0 := funext fun x0 => hq0 x0
  rfl
theorem occupancy_conflict_p8_congr {R : Type} (n : Nat) (a0 : Int) (w3 : Int) (a1_0 : Int) (a1_1 : Int) (a1_2 : Int) (a1_3 : Int) (a1_4 : Int) (a2_0 : Int) (a2_1 : Int) (a2_2 : Int) (a2_3 : Int) (a2_4 : Int) {k0 kk0 : Bool → Option R} (hq0 : ∀ x0, k0 x0 = kk0 x0) : occupancy_conflict_p8 n a0 w3 a1_0 a1_1 a1_2 a1_3 a1_4 a2_0 a2_1 a2_2 a2_3 a2_4 k0 = occupancy_conflict_p8 n a0 w3 a1_0 a1_1 a1_2 a1_3 a1_4 a2_0 a2_1 a2_2 a2_3 a2_4 kk0 := by
  obtain rfl : k0 = kk0 := funext fun x0 => hq0 x0
  rfl
theorem occupancy_conflict_p9_congr {R : Type} (n : Nat) (a0 : Int) (a1_0 : Int) (a1_1 : Int) (a1_2 : Int) (a1_3 : Int) (a1_4 : Int) (a2_0 : Int) (a2_1 : Int) (a2_2 : Int) (a2_3 : Int) (a2_4 : Int) {k0 kk0 : Bool → Option R} (hq0 : ∀ x0, k0 x0 = kk0 x0) : occupancy_conflict_p9 n a0 a1_0 a1_1 a1_2 a1_3 a1_4 a2_0 a2_1 a2_2 a2_3 a2_4 k0 = occupancy_conflict_p9 n a0 a1_0 a1_1 a1_2 a1_3 a1_4 a2_0 a2_1 a2_2 a2_3 a2_4 kk0 := by
  obtain rfl : k0 = kk0 := funext fun x0 => hq0 x0
  rfl
theorem occupancy_conflict_p10_congr {R : Type} (n : Nat) (a0 : Int) (a1_0 : Int) (a1_1 : Int) (a1_2 : Int) (a1_3 : Int) (a1_4 : Int) (a2_0 : Int) (a2_1 : Int) (a2_2 : Int) (a2_3 : Int) (a2_4 : Int) {k0 kk0 : Bool → Option R} (hq0 : ∀ x0, k0 x0 = kk0 x0) : occupancy_conflict_p10 n a0 a1_0 a1_1 a1_2 a1_3 a1_4 a2_0 a2_1 a2_2 a2_3 a2_4 k0 = occupancy_conflict_p10 n a0 a1_0 a1_1 a1_2 a1_3 a1_4 a2_0 a2_1 a2_2 a2_3 a2_4 kk0 := by
  obtain rfl : k0 = kk0 := funext fun x0 => hq0 x0
  rfl
theorem occupancy_conflict_p1_eq {R : Type} (n : Nat) (a0 : Int) (a1_0 : Int) (a1_1 : Int) (a1_2 : Int) (a1_3 : Int) (a1_4 : Int) (a2_0 : Int) (a2_1 : Int) (a2_2 : Int) (a2_3 : Int) (a2_4 : Int) (k : Exit → St → Option R) : vexec (occupancy_conflict_C n) n occupancy_conflict_c1 ⟨73, [(0, .d (D.int .i64 a0)), (1, .ag [.d (D.int .i64 a1_0), .d (D.int .i64 a1_1), .d (D.int .i64 a1_2), .d (D.int .i64 a1_3), .d (D.int .i64 a1_4)]), (2, .ag [.d (D.int .i64 a2_0), .d (D.int .i64 a2_1), .d (D.int .i64 a2_2), .d (D.int .i64 a2_3), .d (D.int .i64 a2_4)])], []⟩ k = occupancy_conflict_p1 n a0 a1_0 a1_1 a1_2 a1_3 a1_4 a2_0 a2_1 a2_2 a2_3 a2_4 (k .normal ⟨73, [(0, .d (D.int .i64 a0)), (4, .ptr 4 0), (5, .ptr 5 0)], [(4, .box [.d (D.int .i64 a1_0), .d (D.int .i64 a1_1), .d (D.int .i64 a1_2), .d (D.int .i64 a1_3), .d (D.int .i64 a1_4)]), (5, .box [.d (D.int .i64 a2_0), .d (D.int .i64 a2_1), .d (D.int .i64 a2_2), .d (D.int .i64 a2_3), .d (D.int .i64 a2_4)])]⟩) := by kernel_rfl
theorem occupancy_conflict_p2_eq {R : Type} (n : Nat) (a0 : Int) (a1_0 : Int) (a1_1 : Int) (a1_2 : Int) (a1_3 : Int) (a1_4 : Int) (a2_0 : Int) (a2_1 : Int) (a2_2 : Int) (a2_3 : Int) (a2_4 : Int) (k : Exit → St → Option R) : vexec (occupancy_conflict_C n) n occupancy_conflict_c2 ⟨73, [(0, .d (D.int .i64 a0)), (4, .ptr 4 0), (5, .ptr 5 0)], [(4, .box [.d (D.int .i64 a1_0), .d (D.int .i64 a1_1), .d (D.int .i64 a1_2), .d (D.int .i64 a1_3), .d (D.int .i64 a1_4)]), (5, .box [.d (D.int .i64 a2_0), .d (D.int .i64 a2_1), .d (D.int .i64 a2_2), .d (D.int .i64 a2_3), .d (D.int .i64 a2_4)])]⟩ k = occupancy_conflict_p2 n a0 a1_0 a1_1 a1_2 a1_3 a1_4 a2_0 a2_1 a2_2 a2_3 a2_4 (fun z2 => k .normal ⟨73, [(0, .d (D.int .i64 a0)), (4, .ptr 4 0), (5, .ptr 5 0), (7, .d (D.int .i64 z2))], [(4, .box [.d (D.int .i64 a1_0), .d (D.int .i64 a1_1), .d (D.int .i64 a1_2), .d (D.int .i64 a1_3), .d (D.int .i64 a1_4)]), (5, .box [.d (D.int .i64 a2_0), .d (D.int .i64 a2_1), .d (D.int .i64 a2_2), .d (D.int .i64 a2_3), .d (D.int .i64 a2_4)])]⟩) := by kernel_rfl
theorem occupancy_conflict_p3_eq {R : Type} (n : Nat) (a0 : Int) (w3 : Int) (a1_0 : Int) (a1_1 : Int) (a1_2 : Int) (a1_3 : Int) (a1_4 : Int) (a2_0 : Int) (a2_1 : Int) (a2_2 : Int) (a2_3 : Int) (a2_4 : Int) (k : Exit → St → Option R) : vexec (occupancy_conflict_C n) n occupancy_conflict_c3 ⟨73, [(0, .d (D.int .i64 a0)), (4, .ptr 4 0), (5, .ptr 5 0), (7, .d (D.int .i64 w3))], [(4, .box [.d (D.int .i64 a1_0), .d (D.int .i64 a1_1), .d (D.int .i64 a1_2), .d (D.int .i64 a1_3), .d (D.int .i64 a1_4)]), (5, .box [.d (D.int .i64 a2_0), .d (D.int .i64 a2_1), .d (D.int .i64 a2_2), .d (D.int .i64 a2_3), .d (D.int .i64 a2_4)])]⟩ k = occupancy_conflict_p3 n a0 w3 a1_0 a1_1 a1_2 a1_3 a1_4 a2_0 a2_1 a2_2 a2_3 a2_4 (fun z5 => k .normal ⟨73, [(4, .ptr 4 0), (5, .ptr 5 0), (7, .d (D.int .i64 w3)), (9, .d (D.int .i64 z5))], [(4, .box [.d (D.int .i64 a1_0), .d (D.int .i64 a1_1), .d (D.int .i64 a1_2), .d (D.int .i64 a1_3), .d (D.int .i64 a1_4)]), (5, .box [.d (D.int .i64 a2_0), .d (D.int .i64 a2_1), .d (D.int .i64 a2_2), .d (D.int .i64 a2_3), .d (D.int .i64 a2_4)])]⟩) := by kernel_rfl
theorem occupancy_conflict_p4_eq {R : Type} (n : Nat) (w3 : Int) (w6 : Int) (a1_0 : Int) (a1_1 : Int) (a1_2 : Int) (a1_3 : Int) (a1_4 : Int) (a2_0 : Int) (a2_1 : Int) (a2_2 : Int) (a2_3 : Int) (a2_4 : Int) (k : Exit → St → Option R) : vexec (occupancy_conflict_C n) n occupancy_conflict_c4 ⟨73, [(4, .ptr 4 0), (5, .ptr 5 0), (7, .d (D.int .i64 w3)), (9, .d (D.int .i64 w6))], [(4, .box [.d (D.int .i64 a1_0), .d (D.int .i64 a1_1), .d (D.int .i64 a1_2), .d (D.int .i64 a1_3), .d (D.int .i64 a1_4)]), (5, .box [.d (D.int .i64 a2_0), .d (D.int .i64 a2_1), .d (D.int .i64 a2_2), .d (D.int .i64 a2_3), .d (D.int .i64 a2_4)])]⟩ k = occupancy_conflict_p4 n w3 w6 a1_0 a1_1 a1_2 a1_3 a1_4 a2_0 a2_1 a2_2 a2_3 a2_4 (fun z7 => k .ret ⟨73, [(6, .d (D.bool z7))], []⟩) (fun z8 => k .normal ⟨73, [(4, .ptr 4 0), (7, .d (D.int .i64 w3)), (9, .d (D.int .i64 w6)), (59, .d (D.bool z8))], [(4, .box [.d (D.int .i64 a1_0), .d (D.int .i64 a1_1), .d (D.int .i64 a1_2), .d (D.int .i64 a1_3), .d (D.int .i64 a1_4)])]⟩) := by kernel_rfl
theorem occupancy_conflict_p5_eq {R : Type} (n : Nat) (w3 : Int) (w6 : Int) (a1_0 : Int) (a1_1 : Int) (a1_2 : Int) (a1_3 : Int) (a1_4 : Int) (a2_0 : Int) (a2_1 : Int) (a2_2 : Int) (a2_3 : Int) (a2_4 : Int) (k : Exit → St → Option R) : vexec (occupancy_conflict_C n) n occupancy_conflict_c5 ⟨73, [(4, .ptr 4 0), (5, .ptr 5 0), (7, .d (D.int .i64 w3)), (9, .d (D.int .i64 w6))], [(4, .box [.d (D.int .i64 a1_0), .d (D.int .i64 a1_1), .d (D.int .i64 a1_2), .d (D.int .i64 a1_3), .d (D.int .i64 a1_4)]), (5, .box [.d (D.int .i64 a2_0), .d (D.int .i64 a2_1), .d (D.int .i64 a2_2), .d (D.int .i64 a2_3), .d (D.int .i64 a2_4)])]⟩ k = occupancy_conflict_p5 n w3 w6 a1_0 a1_1 a1_2 a1_3 a1_4 a2_0 a2_1 a2_2 a2_3 a2_4 (fun w9 => k .ret ⟨73, [(6, .d (D.bool w9))], []⟩) (fun w10 => k .normal ⟨73, [(4, .ptr 4 0), (7, .d (D.int .i64 w3)), (9, .d (D.int .i64 w6)), (59, .d (D.bool w10))], [(4, .box [.d (D.int .i64 a1_0), .d (D.int .i64 a1_1), .d (D.int .i64 a1_2), .d (D.int .i64 a1_3), .d (D.int .i64 a1_4)])]⟩) := by
  rw [occupancy_conflict_c5_eq]
  unfold occupancy_conflict_p5
  exact (occupancy_conflict_p4_eq n w3 w6 a1_0 a1_1 a1_2 a1_3 a1_4 a2_0 a2_1 a2_2 a2_3 a2_4 (blockK 0 k)).trans (occupancy_conflict_p4_congr n w3 w6 a1_0 a1_1 a1_2 a1_3 a1_4 a2_0 a2_1 a2_2 a2_3 a2_4 (fun w9 => rfl) (fun w10 => rfl))
theorem occupancy_conflict_p6_eq {R : Type} (n : Nat) (w3 : Int) (w6 : Int) (w12 : Bool) (a1_0 : Int) (a1_1 : Int) (a1_2 : Int) (a1_3 : Int) (a1_4 : Int) (k : Exit → St → Option R) : vexec (occupancy_conflict_C n) n occupancy_conflict_c6 ⟨73, [(4, .ptr 4 0), (7, .d (D.int .i64 w3)), (9, .d (D.int .i64 w6)), (59, .d (D.bool w12))], [(4, .box [.d (D.int .i64 a1_0), .d (D.int .i64 a1_1), .d (D.int .i64 a1_2), .d (D.int .i64 a1_3), .d (D.int .i64 a1_4)])]⟩ k = occupancy_conflict_p6 n w3 w6 w12 a1_0 a1_1 a1_2 a1_3 a1_4 (fun z14 => k .ret ⟨73, [(6, .d (D.bool z14))], []⟩) := by kernel_rfl
theorem occupancy_conflict_p7_eq {R : Type} (n : Nat) (w3 : Int) (w6 : Int) (a1_0 : Int) (a1_1 : Int) (a1_2 : Int) (a1_3 : Int) (a1_4 : Int) (a2_0 : Int) (a2_1 : Int) (a2_2 : Int) (a2_3 : Int) (a2_4 : Int) (k : Exit → St → Option R) : vexec (occupancy_conflict_C n) n occupancy_conflict_c7 ⟨73, [(4, .ptr 4 0), (5, .ptr 5 0), (7, .d (D.int .i64 w3)), (9, .d (D.int .i64 w6))], [(4, .box [.d (D.int .i64 a1_0), .d (D.int .i64 a1_1), .d (D.int .i64 a1_2), .d (D.int .i64 a1_3), .d (D.int .i64 a1_4)]), (5, .box [.d (D.int .i64 a2_0), .d (D.int .i64 a2_1), .d (D.int .i64 a2_2), .d (D.int .i64 a2_3), .d (D.int .i64 a2_4)])]⟩ k = occupancy_conflict_p7 n w3 w6 a1_0 a1_1 a1_2 a1_3 a1_4 a2_0 a2_1 a2_2 a2_3 a2_4 (fun z16 => k .ret ⟨73, [(6, .d (D.bool z16))], []⟩) := by
  rw [occupancy_conflict_c7_eq]
  unfold occupancy_conflict_p7
  exact (occupancy_conflict_p5_eq n w3 w6 a1_0 a1_1 a1_2 a1_3 a1_4 a2_0 a2_1 a2_2 a2_3 a2_4 (seqK (occupancy_conflict_C n) n occupancy_conflict_c6 k)).trans (occupancy_conflict_p5_congr n w3 w6 a1_0 a1_1 a1_2 a1_3 a1_4 a2_0 a2_1 a2_2 a2_3 a2_4 (fun w11 => rfl) (fun w12 => occupancy_conflict_p6_eq n w3 w6 w12 a1_0 a1_1 a1_2 a1_3 a1_4 k))
theorem occupancy_conflict_p8_eq {R : Type} (n : Nat) (a0 : Int) (w3 : Int) (a1_0 : Int) (a1_1 : Int) (a1_2 : Int) (a1_3 : Int) (a1_4 : Int) (a2_0 : Int) (a2_1 : Int) (a2_2 : Int) (a2_3 : Int) (a2_4 : Int) (k : Exit → St → Option R) : vexec (occupancy_conflict_C n) n occupancy_conflict_c8 ⟨73, [(0, .d (D.int .i64 a0)), (4, .ptr 4 0), (5, .ptr 5 0), (7, .d (D.int .i64 w3))], [(4, .box [.d (D.int .i64 a1_0), .d (D.int .i64 a1_1), .d (D.int .i64 a1_2), .d (D.int .i64 a1_3), .d (D.int .i64 a1_4)]), (5, .box [.d (D.int .i64 a2_0), .d (D.int .i64 a2_1), .d (D.int .i64 a2_2), .d (D.int .i64 a2_3), .d (D.int .i64 a2_4)])]⟩ k = occupancy_conflict_p8 n a0 w3 a1_0 a1_1 a1_2 a1_3 a1_4 a2_0 a2_1 a2_2 a2_3 a2_4 (fun w17 => k .ret ⟨73, [(6, .d (D.bool w17))], []⟩) := by
  rw [occupancy_conflict_c8_eq]
  unfold occupancy_conflict_p8
  exact (occupancy_conflict_p3_eq n a0 w3 a1_0 a1_1 a1_2 a1_3 a1_4 a2_0 a2_1 a2_2 a2_3 a2_4 (seqK (occupancy_conflict_C n) n occupancy_conflict_c7 k)).trans (occupancy_conflict_p3_congr n a0 w3 a1_0 a1_1 a1_2 a1_3 a1_4 a2_0 a2_1 a2_2 a2_3 a2_4 (fun w6 => occupancy_conflict_p7_eq n w3 w6 a1_0 a1_1 a1_2 a1_3 a1_4 a2_0 a2_1 a2_2 a2_3 a2_4 k))
theorem occupancy_conflict_p9_eq {R : Type} (n : Nat) (a0 : Int) (a1_0 : Int) (a1_1 : Int) (a1_2 : Int) (a1_3 : Int) (a1_4 : Int) (a2_0 : Int) (a2_1 : Int) (a2_2 : Int) (a2_3 : Int) (a2_4 : Int) (k : Exit → St → Option R) : vexec (occupancy_conflict_C n) n occupancy_conflict_c9 ⟨73, [(0, .d (D.int .i64 a0)), (4, .ptr 4 0), (5, .ptr 5 0)], [(4, .box [.d (D.int .i64 a1_0), .d (D.int .i64 a1_1), .d (D.int .i64 a1_2), .d (D.int .i64 a1_3), .d (D.int .i64 a1_4)]), (5, .box [.d (D.int .i64 a2_0), .d (D.int .i64 a2_1), .d (D.int .i64 a2_2), .d (D.int .i64 a2_3), .d (D.int .i64 a2_4)])]⟩ k = occupancy_conflict_p9 n a0 a1_0 a1_1 a1_2 a1_3 a1_4 a2_0 a2_1 a2_2 a2_3 a2_4 (fun w18 => k .ret ⟨73, [(6, .d (D.bool w18))], []⟩) := by
  rw [occupancy_conflict_c9_eq]
  unfold occupancy_conflict_p9
  exact (occupancy_conflict_p2_eq n a0 a1_0 a1_1 a1_2 a1_3 a1_4 a2_0 a2_1 a2_2 a2_3 a2_4 (seqK (occupancy_conflict_C n) n occupancy_conflict_c8 k)).trans (occupancy_conflict_p2_congr n a0 a1_0 a1_1 a1_2 a1_3 a1_4 a2_0 a2_1 a2_2 a2_3 a2_4 (fun w3 => occupancy_conflict_p8_eq n a0 w3 a1_0 a1_1 a1_2 a1_3 a1_4 a2_0 a2_1 a2_2 a2_3 a2_4 k))
theorem occupancy_conflict_p10_eq {R : Type} (n : Nat) (a0 : Int) (a1_0 : Int) (a1_1 : Int) (a1_2 : Int) (a1_3 : Int) (a1_4 : Int) (a2_0 : Int) (a2_1 : Int) (a2_2 : Int) (a2_3 : Int) (a2_4 : Int) (k : Exit → St → Option R) : vexec (occupancy_conflict_C n) n occupancy_conflict_c0 ⟨73, [(0, .d (D.int .i64 a0)), (1, .ag [.d (D.int .i64 a1_0), .d (D.int .i64 a1_1), .d (D.int .i64 a1_2), .d (D.int .i64 a1_3), .d (D.int .i64 a1_4)]), (2, .ag [.d (D.int .i64 a2_0), .d (D.int .i64 a2_1), .d (D.int .i64 a2_2), .d (D.int .i64 a2_3), .d (D.int .i64 a2_4)])], []⟩ k = occupancy_conflict_p10 n a0 a1_0 a1_1 a1_2 a1_3 a1_4 a2_0 a2_1 a2_2 a2_3 a2_4 (fun w19 => k .ret ⟨73, [(6, .d (D.bool w19))], []⟩) := by
  rw [occupancy_conflict_c0_eq]
  unfold occupancy_conflict_p10
  exact (occupancy_conflict_p1_eq n a0 a1_0 a1_1 a1_2 a1_3 a1_4 a2_0 a2_1 a2_2 a2_3 a2_4 (seqK (occupancy_conflict_C n) n occupancy_conflict_c9 k)).trans (occupancy_conflict_p1_congr n a0 a1_0 a1_1 a1_2 a1_3 a1_4 a2_0 a2_1 a2_2 a2_3 a2_4 (occupancy_conflict_p9_eq n a0 a1_0 a1_1 a1_2 a1_3 a1_4 a2_0 a2_1 a2_2 a2_3 a2_4 k))
theorem occupancy_conflict_vfn {R : Type} (n : Nat) (a0 : Int) (a1_0 : Int) (a1_1 : Int) (a1_2 : Int) (a1_3 : Int) (a1_4 : Int) (a2_0 : Int) (a2_1 : Int) (a2_2 : Int) (a2_3 : Int) (a2_4 : Int) (K : AV → Option R) : vfn (occupancy_conflict_C n) n Try.f32 [.d (D.int .i64 a0), .ag [.d (D.int .i64 a1_0), .d (D.int .i64 a1_1), .d (D.int .i64 a1_2), .d (D.int .i64 a1_3), .d (D.int .i64 a1_4)], .ag [.d (D.int .i64 a2_0), .d (D.int .i64 a2_1), .d (D.int .i64 a2_2), .d (D.int .i64 a2_3), .d (D.int .i64 a2_4)]] [] (retF [[0]] K) = occupancy_conflict n a0 a1_0 a1_1 a1_2 a1_3 a1_4 a2_0 a2_1 a2_2 a2_3 a2_4 (fun r0 => K (.d (D.bool r0))) :=
  (show vfn (occupancy_conflict_C n) n Try.f32 [.d (D.int .i64 a0), .ag [.d (D.int .i64 a1_0), .d (D.int .i64 a1_1), .d (D.int .i64 a1_2), .d (D.int .i64 a1_3), .d (D.int .i64 a1_4)], .ag [.d (D.int .i64 a2_0), .d (D.int .i64 a2_1), .d (D.int .i64 a2_2), .d (D.int .i64 a2_3), .d (D.int .i64 a2_4)]] [] (retF [[0]] K) = vexec (occupancy_conflict_C n) n occupancy_conflict_c0 ⟨73, [(0, .d (D.int .i64 a0)), (1, .ag [.d (D.int .i64 a1_0), .d (D.int .i64 a1_1), .d (D.int .i64 a1_2), .d (D.int .i64 a1_3), .d (D.int .i64 a1_4)]), (2, .ag [.d (D.int .i64 a2_0), .d (D.int .i64 a2_1), .d (D.int .i64 a2_2), .d (D.int .i64 a2_3), .d (D.int .i64 a2_4)])], []⟩ (retX occupancy_conflict_tt [.tmp 6] (retF [[0]] K)) from vfn_at (by kernel_rfl) (by kernel_rfl) rfl (by kernel_rfl) rfl (by kernel_rfl) rfl).trans ((occupancy_conflict_p10_eq n a0 a1_0 a1_1 a1_2 a1_3 a1_4 a2_0 a2_1 a2_2 a2_3 a2_4 (retX occupancy_conflict_tt [.tmp 6] (retF [[0]] K))).trans (by kernel_rfl))
def occupancy_conflict_K : AV → Option (Bool) := fun av => match av with
  | .d (D.bool r0) => some r0
  | _ => none
def occupancy_conflict_e (n : Nat) : Entry := fun _ _ g avs _ k => match avs with
  | [c0, c1, c2] => prI g .i64 c0 fun a0 => 
    prG c1 fun l1 => (match l1 with
    | [c1_0, c1_1, c1_2, c1_3, c1_4] => prI g .i64 c1_0 fun a1_0 => prI g .i64 c1_1 fun a1_1 => prI g .i64 c1_2 fun a1_2 => prI g .i64 c1_3 fun a1_3 => prI g .i64 c1_4 fun a1_4 => 
    prG c2 fun l2 => (match l2 with
    | [c2_0, c2_1, c2_2, c2_3, c2_4] => prI g .i64 c2_0 fun a2_0 => prI g .i64 c2_1 fun a2_1 => prI g .i64 c2_2 fun a2_2 => prI g .i64 c2_3 fun a2_3 => prI g .i64 c2_4 fun a2_4 => 
    gb g (occupancy_conflict n a0 a1_0 a1_1 a1_2 a1_3 a1_4 a2_0 a2_1 a2_2 a2_3 a2_4 some) false fun r => k ⟨.d (D.bool r), [], []⟩
    | _ => none)
    | _ => none)
  | _ => none
theorem occupancy_conflict_ok (n : Nat) : EntryOK Try.prog 32 (occupancy_conflict_e n) := by
  intro R site g avs hl k r h
  unfold occupancy_conflict_e at h
  split at h
  rotate_left
  · cases h
  replace h := prI_some h
  obtain ⟨a0, h, le0⟩ := h
  replace h := prG_some h
  obtain ⟨l1, h, e1⟩ := h
  subst e1
  split at h
  rotate_left
  · cases h
  replace h := prI_some h
  obtain ⟨a1_0, h, le1⟩ := h
  replace h := prI_some h
  obtain ⟨a1_1, h, le2⟩ := h
  replace h := prI_some h
  obtain ⟨a1_2, h, le3⟩ := h
  replace h := prI_some h
  obtain ⟨a1_3, h, le4⟩ := h
  replace h := prI_some h
  obtain ⟨a1_4, h, le5⟩ := h
  replace h := prG_some h
  obtain ⟨l2, h, e2⟩ := h
  subst e2
  split at h
  rotate_left
  · cases h
  replace h := prI_some h
  obtain ⟨a2_0, h, le6⟩ := h
  replace h := prI_some h
  obtain ⟨a2_1, h, le7⟩ := h
  replace h := prI_some h
  obtain ⟨a2_2, h, le8⟩ := h
  replace h := prI_some h
  obtain ⟨a2_3, h, le9⟩ := h
  replace h := prI_some h
  obtain ⟨a2_4, h, le10⟩ := h
  replace h := gb_some h
  obtain ⟨res, h, hr⟩ := h
  refine ⟨_, h, fun hg => CallOK.conv (avs' := [.d (D.int .i64 a0), .ag [.d (D.int .i64 a1_0), .d (D.int .i64 a1_1), .d (D.int .i64 a1_2), .d (D.int .i64 a1_3), .d (D.int .i64 a1_4)], .ag [.d (D.int .i64 a2_0), .d (D.int .i64 a2_1), .d (D.int .i64 a2_2), .d (D.int .i64 a2_3), .d (D.int .i64 a2_4)]]) (.cons (le0 hg) (.cons (.ag (.cons (le1 hg) (.cons (le2 hg) (.cons (le3 hg) (.cons (le4 hg) (.cons (le5 hg) (.nil))))))) (.cons (.ag (.cons (le6 hg) (.cons (le7 hg) (.cons (le8 hg) (.cons (le9 hg) (.cons (le10 hg) (.nil))))))) (.nil)))) (callOK_fix (K := occupancy_conflict_K) (res := res) (occupancy_conflict_VC n) (fn := Try.f32) (n := n) (by kernel_rfl) (by kernel_rfl) (by kernel_rfl) (ss := [[0]]) rfl ?_ ?_)⟩
  · exact (occupancy_conflict_vfn n a0 a1_0 a1_1 a1_2 a1_3 a1_4 a2_0 a2_1 a2_2 a2_3 a2_4 occupancy_conflict_K).trans (hr hg)
  · intro x hx
    unfold occupancy_conflict_K at hx
    split at hx
    · injection hx with hx; subst hx; rfl
    · cases hx
end Go.Vx
/-
  railplan_occupancy_Free_1_s1: the interpreter computes the pure function
-/
set_option linter.unusedVariables false
set_option linter.unusedSimpArgs false
set_option maxRecDepth 100000
namespace Go.Vx
open Go.Proofs
noncomputable def railplan_occupancy_Free_1_s1_c0 : Code := bodyOf Try.f24
def railplan_occupancy_Free_1_s1_tt : TT := [(4, ⟨.bool, 1, 1, [.bool false], [.bool false], [], none⟩)]
theorem railplan_occupancy_Free_1_s1_tt_eq : mkTT Try.prog [4] = railplan_occupancy_Free_1_s1_tt := by kernel_rfl
def railplan_occupancy_Free_1_s1_cfg : List (Nat × Cfg) := [(0, ⟨[2], [(1000000, 1000000)], [], [], []⟩), (1, ⟨[], [(1000000, 1000000)], [], [], []⟩), (2, ⟨[5], [(1000000, 1000000)], [], [], []⟩)]
def railplan_occupancy_Free_1_s1_C (n : Nat) : VC := ⟨specOf [], railplan_occupancy_Free_1_s1_tt, railplan_occupancy_Free_1_s1_cfg⟩
theorem railplan_occupancy_Free_1_s1_ents (n : Nat) : EntsOK Try.prog [] := trivial
theorem railplan_occupancy_Free_1_s1_VC (n : Nat) : VCOk Try.prog (railplan_occupancy_Free_1_s1_C n) := ⟨specOf_ok (railplan_occupancy_Free_1_s1_ents n), (railplan_occupancy_Free_1_s1_tt_eq ▸ mkTT_ok _ : TOk Try.prog railplan_occupancy_Free_1_s1_tt), by kernel_rfl⟩
theorem railplan_occupancy_Free_1_s1_p1_congr {R : Type} (n : Nat) (a0 : Int) (a1 : Int) (b0_0 : Bool) {k0 kk0 : Option R} (hq0 : k0 = kk0) : railplan_occupancy_Free_1_s1_p1 n a0 a1 b0_0 k0 = railplan_occupancy_Free_1_s1_p1 n a0 a1 b0_0 kk0 := by
  obtain rfl : k0 = kk0 := hq0
  rfl
theorem railplan_occupancy_Free_1_s1_p1_eq {R : Type} (n : Nat) (a0 : Int) (a1 : Int) (b0_0 : Bool) (k : Exit → St → Option R) : vexec (railplan_occupancy_Free_1_s1_C n) n railplan_occupancy_Free_1_s1_c0 ⟨6, [(0, .d (D.int .i64 a0)), (1, .d (D.int .i64 a1)), (2, .ptr 1000000 0)], [(1000000, .box [.d (D.bool b0_0)])]⟩ k = railplan_occupancy_Free_1_s1_p1 n a0 a1 b0_0 (k .ret ⟨6, [(5, .d (D.bool false))], [(1000000, .box [.d (D.bool false)])]⟩) := by kernel_rfl
def railplan_occupancy_Free_1_s1_Ko : AV → List (Nat × Ob) → Option (Bool × Bool) := fun av H => (look H 1000000).bind fun o0 => match av, o0 with
  | .d (D.bool r0), .box [.d (D.bool r1)] => some (r0, r1)
  | _, _ => none
theorem railplan_occupancy_Free_1_s1_vfo (n : Nat) (a0 : Int) (a1 : Int) (b0_0 : Bool) : vfn (railplan_occupancy_Free_1_s1_C n) n Try.f24 [.d (D.int .i64 a0), .d (D.int .i64 a1), .ptr 1000000 0] [(1000000, .box [.d (D.bool b0_0)])] railplan_occupancy_Free_1_s1_Ko = railplan_occupancy_Free_1_s1 n a0 a1 b0_0 (fun r0 r1 => some (r0, r1)) :=
  (show vfn (railplan_occupancy_Free_1_s1_C n) n Try.f24 [.d (D.int .i64 a0), .d (D.int .i64 a1), .ptr 1000000 0] [(1000000, .box [.d (D.bool b0_0)])] railplan_occupancy_Free_1_s1_Ko = vexec (railplan_occupancy_Free_1_s1_C n) n railplan_occupancy_Free_1_s1_c0 ⟨6, [(0, .d (D.int .i64 a0)), (1, .d (D.int .i64 a1)), (2, .ptr 1000000 0)], [(1000000, .box [.d (D.bool b0_0)])]⟩ (retX railplan_occupancy_Free_1_s1_tt [.tmp 5] railplan_occupancy_Free_1_s1_Ko) from vfn_at (by kernel_rfl) (by kernel_rfl) rfl (by kernel_rfl) rfl (by kernel_rfl) rfl).trans ((railplan_occupancy_Free_1_s1_p1_eq n a0 a1 b0_0 (retX railplan_occupancy_Free_1_s1_tt [.tmp 5] railplan_occupancy_Free_1_s1_Ko)).trans (by kernel_rfl))
def railplan_occupancy_Free_1_s1_s (n : Nat) : Entry := fun _ site g avs hl k => match avs with
  | [c0, c1, c2] => prI g .i64 c0 fun a0 => prI g .i64 c1 fun a1 => prP hl c2 fun l0 bl0 => (match bl0 with
    | [xl0_0] => prB g xl0_0 fun b0_0 => 
    bif newsOk hl [(1000000, l0)] [] then gb g (railplan_occupancy_Free_1_s1 n a0 a1 b0_0 (fun r0 r1 => some (r0, r1))) (false, false) fun r => k ⟨.d (D.bool r.1), [(l0, some (.box [.d (D.bool r.2)]))], [l0]⟩ else none
    | _ => none)
  | _ => none
theorem railplan_occupancy_Free_1_s1_so (n : Nat) : EntryOK Try.prog 24 (railplan_occupancy_Free_1_s1_s n) := by
  intro R site g avs hl k r h
  unfold railplan_occupancy_Free_1_s1_s at h
  split at h
  rotate_left
  · cases h
  replace h := prI_some h
  obtain ⟨a0, h, le0⟩ := h
  replace h := prI_some h
  obtain ⟨a1, h, le1⟩ := h
  replace h := prP_some h
  obtain ⟨l0, bl0, h, el0, hbl0⟩ := h
  subst el0
  split at h
  rotate_left
  · cases h
  replace h := prB_some h
  obtain ⟨b0_0, h, le2⟩ := h
  replace h := bif_some h
  obtain ⟨hc, h⟩ := h
  replace h := gb_some h
  obtain ⟨res, h, hr⟩ := h
  refine ⟨_, h, fun hg => callOK_sh (K := railplan_occupancy_Free_1_s1_Ko) (res := res) (railplan_occupancy_Free_1_s1_VC n) (fn := Try.f24) (n := n) (by kernel_rfl) (by kernel_rfl) (by kernel_rfl) (ρ := [(1000000, l0)]) (ν := []) (avs' := [.d (D.int .i64 a0), .d (D.int .i64 a1), .ptr 1000000 0]) (H := [(1000000, .box [.d (D.bool b0_0)])]) (.cons (.data rfl (le0 hg)) (.cons (.data rfl (le1 hg)) (.cons (.own rfl rfl) (.nil)))) rfl rfl hc (⟨⟨by decide, _, _, hbl0, rfl, .box (.cons (.data rfl (le2 hg)) (.nil))⟩, trivial⟩) rfl rfl ?_ ?_⟩
  · exact (railplan_occupancy_Free_1_s1_vfo n a0 a1 b0_0).trans (hr hg)
  · intro av H' hx
    unfold railplan_occupancy_Free_1_s1_Ko at hx
    replace hx := Option.bind_eq_some_iff.1 hx
    obtain ⟨o0, ho0, hx⟩ := hx
    split at hx
    rotate_left
    · cases hx
    injection hx with hx
    subst hx
    refine ⟨rfl, ?_, trivial, ⟨endOk_box rfl ho0 rfl, trivial⟩⟩
    simp only [List.cons_append, List.nil_append, outWr, ho0, Option.map_some, Option.map_none]
    rfl
end Go.Vx
/-
  occupancy_visit_s1: the interpreter computes the pure function
-/
set_option linter.unusedVariables false
set_option linter.unusedSimpArgs false
set_option maxRecDepth 100000
namespace Go.Vx
open Go.Proofs
noncomputable def occupancy_visit_s1_c0 : Code := cR (cR (cR (bodyOf Try.f23)))
noncomputable def occupancy_visit_s1_c1 : Code := cL (cR (cR (cR (bodyOf Try.f23))))
noncomputable def occupancy_visit_s1_c2 : Code := cL (cB (cB (cR (cR (cR (cR (bodyOf Try.f23)))))))
noncomputable def occupancy_visit_s1_c3 : Code := cL (cR (cB (cB (cR (cR (cR (cR (bodyOf Try.f23))))))))
noncomputable def occupancy_visit_s1_c4 : Code := cL (cB (cL (cR (cR (cB (cB (cR (cR (cR (cR (bodyOf Try.f23)))))))))))
noncomputable def occupancy_visit_s1_c5 : Code := cL (cR (cB (cL (cR (cR (cB (cB (cR (cR (cR (cR (bodyOf Try.f23))))))))))))
noncomputable def occupancy_visit_s1_c6 : Code := cB (cB (cR (cR (cB (cL (cR (cR (cB (cB (cR (cR (cR (cR (bodyOf Try.f23))))))))))))))
noncomputable def occupancy_visit_s1_c7 : Code := cB (cR (cR (cB (cL (cR (cR (cB (cB (cR (cR (cR (cR (bodyOf Try.f23)))))))))))))
noncomputable def occupancy_visit_s1_c8 : Code := cR (cR (cB (cL (cR (cR (cB (cB (cR (cR (cR (cR (bodyOf Try.f23))))))))))))
noncomputable def occupancy_visit_s1_c9 : Code := cR (cB (cL (cR (cR (cB (cB (cR (cR (cR (cR (bodyOf Try.f23)))))))))))
noncomputable def occupancy_visit_s1_c10 : Code := cB (cL (cR (cR (cB (cB (cR (cR (cR (cR (bodyOf Try.f23))))))))))
noncomputable def occupancy_visit_s1_c11 : Code := cL (cR (cR (cB (cB (cR (cR (cR (cR (bodyOf Try.f23)))))))))
noncomputable def occupancy_visit_s1_c12 : Code := cR (cR (cR (cB (cB (cR (cR (cR (cR (bodyOf Try.f23)))))))))
noncomputable def occupancy_visit_s1_c13 : Code := cR (cR (cB (cB (cR (cR (cR (cR (bodyOf Try.f23))))))))
noncomputable def occupancy_visit_s1_c14 : Code := cR (cB (cB (cR (cR (cR (cR (bodyOf Try.f23)))))))
noncomputable def occupancy_visit_s1_c15 : Code := cB (cB (cR (cR (cR (cR (bodyOf Try.f23))))))
noncomputable def occupancy_visit_s1_c16 : Code := cB (cR (cR (cR (cR (bodyOf Try.f23)))))
noncomputable def occupancy_visit_s1_c17 : Code := cR (cR (cR (cR (bodyOf Try.f23))))
theorem occupancy_visit_s1_c7_eq : occupancy_visit_s1_c7 = .loop occupancy_visit_s1_c6 := by kernel_rfl
theorem occupancy_visit_s1_c8_eq : occupancy_visit_s1_c8 = .block 4 occupancy_visit_s1_c7 := by kernel_rfl
theorem occupancy_visit_s1_c9_eq : occupancy_visit_s1_c9 = .seq occupancy_visit_s1_c5 occupancy_visit_s1_c8 := by kernel_rfl
theorem occupancy_visit_s1_c10_eq : occupancy_visit_s1_c10 = .seq occupancy_visit_s1_c4 occupancy_visit_s1_c9 := by kernel_rfl
theorem occupancy_visit_s1_c11_eq : occupancy_visit_s1_c11 = .block 3 occupancy_visit_s1_c10 := by kernel_rfl
theorem occupancy_visit_s1_c13_eq : occupancy_visit_s1_c13 = .seq occupancy_visit_s1_c11 occupancy_visit_s1_c12 := by kernel_rfl
theorem occupancy_visit_s1_c14_eq : occupancy_visit_s1_c14 = .seq occupancy_visit_s1_c3 occupancy_visit_s1_c13 := by kernel_rfl
theorem occupancy_visit_s1_c15_eq : occupancy_visit_s1_c15 = .seq occupancy_visit_s1_c2 occupancy_visit_s1_c14 := by kernel_rfl
theorem occupancy_visit_s1_c16_eq : occupancy_visit_s1_c16 = .loop occupancy_visit_s1_c15 := by kernel_rfl
theorem occupancy_visit_s1_c17_eq : occupancy_visit_s1_c17 = .block 2 occupancy_visit_s1_c16 := by kernel_rfl
theorem occupancy_visit_s1_c0_eq : occupancy_visit_s1_c0 = .seq occupancy_visit_s1_c1 occupancy_visit_s1_c17 := by kernel_rfl
def occupancy_visit_s1_tt : TT := [(3, ⟨.int .i64, 1, 8, [.int .i64 0], [.int .i64 0], [], none⟩), (22, ⟨.sl 3 1, 1, 24, [.slice none 0 0], [.sl 1 []], [], none⟩), (24, ⟨.sl 31 5, 1, 24, [.slice none 0 0], [.sl 5 []], [], none⟩), (31, ⟨.struct, 5, 40, [.int .i64 0, .int .i64 0, .int .i64 0, .int .i64 0, .int .i64 0], [.int .i64 0, .int .i64 0, .int .i64 0, .int .i64 0, .int .i64 0], [(0, 3), (1, 3), (2, 3), (3, 3), (4, 3)], some [.int .i64, .int .i64, .int .i64, .int .i64, .int .i64]⟩), (52, ⟨.mapI, 1, 8, [.map none], [], [], none⟩)]
theorem occupancy_visit_s1_tt_eq : mkTT Try.prog [3, 22, 24, 31, 52] = occupancy_visit_s1_tt := by kernel_rfl
def occupancy_visit_s1_cfg : List (Nat × Cfg) := [(0, ⟨[0, 1, 2, 6], [], [], [], []⟩), (1, ⟨[0, 1, 2, 6, 7], [], [], [], []⟩), (2, ⟨[0, 1, 2, 6, 7, 18, 19, 20], [], [], [], []⟩), (3, ⟨[0, 1, 2, 6, 7, 18, 19, 20, 21], [], [], [], []⟩), (4, ⟨[0, 1, 2, 6, 7, 8, 9, 18, 19, 20], [], [], [], []⟩), (5, ⟨[0, 1, 2, 6, 7, 8, 9, 18, 19, 20], [], [], [], []⟩), (6, ⟨[0, 1, 2, 6, 7, 18, 19, 20], [], [], [], []⟩), (7, ⟨[0, 1, 2, 6, 7, 18, 19, 20], [], [], [], []⟩), (8, ⟨[0, 1, 2, 6, 7, 44, 45, 46], [(1000000, 1000000)], [], [], []⟩), (9, ⟨[0, 1, 2, 6, 7, 44, 45, 46, 47], [(1000000, 1000000)], [], [], []⟩), (10, ⟨[0, 1, 2, 6, 7, 10, 11, 44, 45, 46], [(11, 11), (1000000, 1000000)], [], [], []⟩), (11, ⟨[0, 1, 2, 6, 7, 10, 11, 44, 45, 46, 59, 60, 61], [(11, 11), (1000000, 1000000)], [], [], []⟩), (12, ⟨[0, 1, 2, 6, 7, 10, 11, 44, 45, 46, 59, 60, 61, 62], [(11, 11), (1000000, 1000000)], [], [], []⟩), (13, ⟨[0, 1, 2, 6, 7, 10, 11, 13, 44, 45, 46, 59, 60, 61], [(11, 11), (1000000, 1000000)], [], [], []⟩), (14, ⟨[0, 1, 2, 6, 7, 10, 11, 44, 45, 46, 59, 60, 61, 78], [(11, 11), (1000000, 1000000)], [], [], []⟩), (15, ⟨[0, 1, 2, 6, 7, 10, 11, 44, 45, 46, 59, 60, 61], [(11, 11), (1000000, 1000000)], [], [], []⟩), (16, ⟨[0, 1, 2, 6, 7, 44, 45, 46], [(1000000, 1000000)], [], [], []⟩), (1000000014, ⟨[], [], [], [], []⟩)]
def occupancy_visit_s1_C (n : Nat) : VC := ⟨specOf [(32, occupancy_conflict_e n), (24, railplan_occupancy_Free_1_s1_s n)], occupancy_visit_s1_tt, occupancy_visit_s1_cfg⟩
theorem occupancy_visit_s1_ents (n : Nat) : EntsOK Try.prog [(32, occupancy_conflict_e n), (24, railplan_occupancy_Free_1_s1_s n)] := ⟨occupancy_conflict_ok n, ⟨railplan_occupancy_Free_1_s1_so n, trivial⟩⟩
theorem occupancy_visit_s1_VC (n : Nat) : VCOk Try.prog (occupancy_visit_s1_C n) := ⟨specOf_ok (occupancy_visit_s1_ents n), (occupancy_visit_s1_tt_eq ▸ mkTT_ok _ : TOk Try.prog occupancy_visit_s1_tt), by kernel_rfl⟩
theorem occupancy_visit_s1_p1_congr {R : Type} (n : Nat) (a0 : Int) (a1 : List (List D)) (G : Int → List (List D)) (p : List (List D)) (b0_0 : Bool) {k0 kk0 : Int → Option R} (hq0 : ∀ x0, k0 x0 = kk0 x0) : occupancy_visit_s1_p1 n a0 a1 G p b0_0 k0 = occupancy_visit_s1_p1 n a0 a1 G p b0_0 kk0 := by
  obtain rfl : k0 = kk0 := funext fun x0 => hq0 x0
  rfl
theorem occupancy_visit_s1_p2_congr {R : Type} (n : Nat) (a0 : Int) (a1 : List (List D)) (G : Int → List (List D)) (p : List (List D)) (w2 : Int) (h9 : Int) (h10 : Bool) {k0 kk0 : Bool → Option R} (hq0 : ∀ x0, k0 x0 = kk0 x0) : occupancy_visit_s1_p2 n a0 a1 G p w2 h9 h10 k0 = occupancy_visit_s1_p2 n a0 a1 G p w2 h9 h10 kk0 := by
  obtain rfl : k0 = kk0 := funext fun x0 => hq0 x0
  rfl
theorem occupancy_visit_s1_p3_congr {R : Type} (n : Nat) (a0 : Int) (a1 : List (List D)) (G : Int → List (List D)) (p : List (List D)) (w2 : Int) (h9 : Int) (w196 : Bool) (h10 : Bool) {k0 kk0 : Option R} {k1 kk1 : Option R} (hq0 : k0 = kk0) (hq1 : k1 = kk1) : occupancy_visit_s1_p3 n a0 a1 G p w2 h9 w196 h10 k0 k1 = occupancy_visit_s1_p3 n a0 a1 G p w2 h9 w196 h10 kk0 kk1 := by
  obtain rfl : k0 = kk0 := hq0
  obtain rfl : k1 = kk1 := hq1
  rfl
theorem occupancy_visit_s1_p4_congr {R : Type} (n : Nat) (a0 : Int) (a1 : List (List D)) (G : Int → List (List D)) (p : List (List D)) (w2 : Int) (h9 : Int) (w196 : Bool) (h10 : Bool) {k0 kk0 : D → D → D → D → D → Option R} (hq0 : ∀ x0 x1 x2 x3 x4, k0 x0 x1 x2 x3 x4 = kk0 x0 x1 x2 x3 x4) : occupancy_visit_s1_p4 n a0 a1 G p w2 h9 w196 h10 k0 = occupancy_visit_s1_p4 n a0 a1 G p w2 h9 w196 h10 kk0 := by
  obtain rfl : k0 = kk0 := funext fun x0 => funext fun x1 => funext fun x2 => funext fun x3 => funext fun x4 => hq0 x0 x1 x2 x3 x4
  rfl
theorem occupancy_visit_s1_p5_congr {R : Type} (n : Nat) (a0 : Int) (a1 : List (List D)) (G : Int → List (List D)) (p : List (List D)) (h9 : Int) (w2 : Int) (w203 : D) (w204 : D) (w205 : D) (w206 : D) (w207 : D) (h10 : Bool) {k0 kk0 : (List (List D)) → Int → Option R} (hq0 : ∀ x0 x1, k0 x0 x1 = kk0 x0 x1) : occupancy_visit_s1_p5 n a0 a1 G p h9 w2 w203 w204 w205 w206 w207 h10 k0 = occupancy_visit_s1_p5 n a0 a1 G p h9 w2 w203 w204 w205 w206 w207 h10 kk0 := by
  obtain rfl : k0 = kk0 := funext fun x0 => funext fun x1 => hq0 x0 x1
  rfl
theorem occupancy_visit_s1_p6_congr {R : Type} (n : Nat) (a0 : Int) (a1 : List (List D)) (G : Int → List (List D)) (p : List (List D)) (h9 : Int) (w2 : Int) (w215 : List (List D)) (w216 : Int) (h227 : Int) (w203 : D) (w204 : D) (w205 : D) (w206 : D) (w207 : D) (h233 : Bool) {k0 kk0 : Bool → Bool → Option R} {k1 kk1 : Int → Bool → Option R} {k2 kk2 : Bool → Option R} (hq0 : ∀ x0 x1, k0 x0 x1 = kk0 x0 x1) (hq1 : ∀ x0 x1, k1 x0 x1 = kk1 x0 x1) (hq2 : ∀ x0, k2 x0 = kk2 x0) : occupancy_visit_s1_p6 n a0 a1 G p h9 w2 w215 w216 h227 w203 w204 w205 w206 w207 h233 k0 k1 k2 = occupancy_visit_s1_p6 n a0 a1 G p h9 w2 w215 w216 h227 w203 w204 w205 w206 w207 h233 kk0 kk1 kk2 := by
  obtain rfl : k0 = kk0 := funext fun x0 => funext fun x1 => hq0 x0 x1
  obtain rfl : k1 = kk1 := funext fun x0 => funext fun x1 => hq1 x0 x1
  obtain rfl : k2 = kk2 := funext fun x0 => hq2 x0
  rfl
theorem occupancy_visit_s1_p7_congr {R : Type} (n : Nat) (a0 : Int) (a1 : List (List D)) (G : Int → List (List D)) (p : List (List D)) (h9 : Int) (w2 : Int) (w215 : List (List D)) (w216 : Int) (w203 : D) (w204 : D) (w205 : D) (w206 : D) (w207 : D) (h10 : Bool) {k0 kk0 : Int → Bool → Bool → Option R} {k1 kk1 : Int → Bool → Bool → Option R} (hq0 : ∀ x0 x1 x2, k0 x0 x1 x2 = kk0 x0 x1 x2) (hq1 : ∀ x0 x1 x2, k1 x0 x1 x2 = kk1 x0 x1 x2) : occupancy_visit_s1_p7 n a0 a1 G p h9 w2 w215 w216 w203 w204 w205 w206 w207 h10 k0 k1 = occupancy_visit_s1_p7 n a0 a1 G p h9 w2 w215 w216 w203 w204 w205 w206 w207 h10 kk0 kk1 := by
  obtain rfl : k0 = kk0 := funext fun x0 => funext fun x1 => funext fun x2 => hq0 x0 x1 x2
  obtain rfl : k1 = kk1 := funext fun x0 => funext fun x1 => funext fun x2 => hq1 x0 x1 x2
  rfl
theorem occupancy_visit_s1_p8_congr {R : Type} (n : Nat) (a0 : Int) (a1 : List (List D)) (G : Int → List (List D)) (p : List (List D)) (h9 : Int) (w2 : Int) (w215 : List (List D)) (w216 : Int) (w203 : D) (w204 : D) (w205 : D) (w206 : D) (w207 : D) (h10 : Bool) {k0 kk0 : Int → Bool → Bool → Option R} {k1 kk1 : Int → Bool → Bool → Option R} (hq0 : ∀ x0 x1 x2, k0 x0 x1 x2 = kk0 x0 x1 x2) (hq1 : ∀ x0 x1 x2, k1 x0 x1 x2 = kk1 x0 x1 x2) : occupancy_visit_s1_p8 n a0 a1 G p h9 w2 w215 w216 w203 w204 w205 w206 w207 h10 k0 k1 = occupancy_visit_s1_p8 n a0 a1 G p h9 w2 w215 w216 w203 w204 w205 w206 w207 h10 kk0 kk1 := by
  obtain rfl : k0 = kk0 := funext fun x0 => funext fun x1 => funext fun x2 => hq0 x0 x1 x2
  obtain rfl : k1 = kk1 := funext fun x0 => funext fun x1 => funext fun x2 => hq1 x0 x1 x2
  rfl
theorem occupancy_visit_s1_p9_congr {R : Type} (n : Nat) (a0 : Int) (a1 : List (List D)) (G : Int → List (List D)) (p : List (List D)) (h9 : Int) (w2 : Int) (w203 : D) (w204 : D) (w205 : D) (w206 : D) (w207 : D) (h10 : Bool) {k0 kk0 : (List (List D)) → Int → Int → Bool → Bool → Option R} {k1 kk1 : (List (List D)) → Int → Int → Bool → Bool → Option R} (hq0 : ∀ x0 x1 x2 x3 x4, k0 x0 x1 x2 x3 x4 = kk0 x0 x1 x2 x3 x4) (hq1 : ∀ x0 x1 x2 x3 x4, k1 x0 x1 x2 x3 x4 = kk1 x0 x1 x2 x3 x4) : occupancy_visit_s1_p9 n a0 a1 G p h9 w2 w203 w204 w205 w206 w207 h10 k0 k1 = occupancy_visit_s1_p9 n a0 a1 G p h9 w2 w203 w204 w205 w206 w207 h10 kk0 kk1 := by
  obtain rfl : k0 = kk0 := funext fun x0 => funext fun x1 => funext fun x2 => funext fun x3 => funext fun x4 => hq0 x0 x1 x2 x3 x4
  obtain rfl : k1 = kk1 := funext fun x0 => funext fun x1 => funext fun x2 => funext fun x3 => funext fun x4 => hq1 x0 x1 x2 x3 x4
  rfl
theorem occupancy_visit_s1_p10_congr {R : Type} (n : Nat) (a0 : Int) (a1 : List (List D)) (G : Int → List (List D)) (p : List (List D)) (w2 : Int) (h9 : Int) (w196 : Bool) (h10 : Bool) {k0 kk0 : (List (List D)) → Int → Int → Bool → D → D → D → D → D → Bool → Option R} {k1 kk1 : (List (List D)) → Int → Int → Bool → D → D → D → D → D → Bool → Option R} (hq0 : ∀ x0 x1 x2 x3 x4 x5 x6 x7 x8 x9, k0 x0 x1 x2 x3 x4 x5 x6 x7 x8 x9 = kk0 x0 x1 x2 x3 x4 x5 x6 x7 x8 x9) (hq1 : ∀ x0 x1 x2 x3 x4 x5 x6 x7 x8 x9, k1 x0 x1 x2 x3 x4 x5 x6 x7 x8 x9 = kk1 x0 x1 x2 x3 x4 x5 x6 x7 x8 x9) : occupancy_visit_s1_p10 n a0 a1 G p w2 h9 w196 h10 k0 k1 = occupancy_visit_s1_p10 n a0 a1 G p w2 h9 w196 h10 kk0 kk1 := by
  obtain rfl : k0 = kk0 := funext fun x0 => funext fun x1 => funext fun x2 => funext fun x3 => funext fun x4 => funext fun x5 => funext fun x6 => funext fun x7 => funext fun x8 => funext fun x9 => hq0 x0 x1 x2 x3 x4 x5 x6 x7 x8 x9
  obtain rfl : k1 = kk1 := funext fun x0 => funext fun x1 => funext fun x2 => funext fun x3 => funext fun x4 => funext fun x5 => funext fun x6 => funext fun x7 => funext fun x8 => funext fun x9 => hq1 x0 x1 x2 x3 x4 x5 x6 x7 x8 x9
  rfl
theorem occupancy_visit_s1_p11_congr {R : Type} (n : Nat) (a0 : Int) (a1 : List (List D)) (G : Int → List (List D)) (p : List (List D)) (w2 : Int) (h9 : Int) (w196 : Bool) (h10 : Bool) {k0 kk0 : (List (List D)) → Int → Int → Bool → D → D → D → D → D → Bool → Option R} {k1 kk1 : (List (List D)) → Int → Int → Bool → D → D → D → D → D → Bool → Option R} (hq0 : ∀ x0 x1 x2 x3 x4 x5 x6 x7 x8 x9, k0 x0 x1 x2 x3 x4 x5 x6 x7 x8 x9 = kk0 x0 x1 x2 x3 x4 x5 x6 x7 x8 x9) (hq1 : ∀ x0 x1 x2 x3 x4 x5 x6 x7 x8 x9, k1 x0 x1 x2 x3 x4 x5 x6 x7 x8 x9 = kk1 x0 x1 x2 x3 x4 x5 x6 x7 x8 x9) : occupancy_visit_s1_p11 n a0 a1 G p w2 h9 w196 h10 k0 k1 = occupancy_visit_s1_p11 n a0 a1 G p w2 h9 w196 h10 kk0 kk1 := by
  obtain rfl : k0 = kk0 := funext fun x0 => funext fun x1 => funext fun x2 => funext fun x3 => funext fun x4 => funext fun x5 => funext fun x6 => funext fun x7 => funext fun x8 => funext fun x9 => hq0 x0 x1 x2 x3 x4 x5 x6 x7 x8 x9
  obtain rfl : k1 = kk1 := funext fun x0 => funext fun x1 => funext fun x2 => funext fun x3 => funext fun x4 => funext fun x5 => funext fun x6 => funext fun x7 => funext fun x8 => funext fun x9 => hq1 x0 x1 x2 x3 x4 x5 x6 x7 x8 x9
  rfl
theorem occupancy_visit_s1_p12_congr {R : Type} (n : Nat) (a0 : Int) (a1 : List (List D)) (G : Int → List (List D)) (p : List (List D)) (h9 : Int) (w2 : Int) (w343 : List (List D)) (w344 : Int) (w345 : Int) (w346 : Bool) (w347 : D) (w348 : D) (w349 : D) (w350 : D) (w351 : D) (w352 : Bool) {k0 kk0 : Int → Option R} (hq0 : ∀ x0, k0 x0 = kk0 x0) : occupancy_visit_s1_p12 n a0 a1 G p h9 w2 w343 w344 w345 w346 w347 w348 w349 w350 w351 w352 k0 = occupancy_visit_s1_p12 n a0 a1 G p h9 w2 w343 w344 w345 w346 w347 w348 w349 w350 w351 w352 kk0 := by
  obtain rfl : k0 = kk0 := funext fun x0 => hq0 x0
  rfl
theorem occupancy_visit_s1_p13_congr {R : Type} (n : Nat) (a0 : Int) (a1 : List (List D)) (G : Int → List (List D)) (p : List (List D)) (w2 : Int) (h9 : Int) (w196 : Bool) (h10 : Bool) {k0 kk0 : (List (List D)) → Int → Int → Bool → D → D → D → D → D → Bool → Option R} {k1 kk1 : Int → Bool → Option R} (hq0 : ∀ x0 x1 x2 x3 x4 x5 x6 x7 x8 x9, k0 x0 x1 x2 x3 x4 x5 x6 x7 x8 x9 = kk0 x0 x1 x2 x3 x4 x5 x6 x7 x8 x9) (hq1 : ∀ x0 x1, k1 x0 x1 = kk1 x0 x1) : occupancy_visit_s1_p13 n a0 a1 G p w2 h9 w196 h10 k0 k1 = occupancy_visit_s1_p13 n a0 a1 G p w2 h9 w196 h10 kk0 kk1 := by
  obtain rfl : k0 = kk0 := funext fun x0 => funext fun x1 => funext fun x2 => funext fun x3 => funext fun x4 => funext fun x5 => funext fun x6 => funext fun x7 => funext fun x8 => funext fun x9 => hq0 x0 x1 x2 x3 x4 x5 x6 x7 x8 x9
  obtain rfl : k1 = kk1 := funext fun x0 => funext fun x1 => hq1 x0 x1
  rfl
theorem occupancy_visit_s1_p14_congr {R : Type} (n : Nat) (a0 : Int) (a1 : List (List D)) (G : Int → List (List D)) (p : List (List D)) (w2 : Int) (h9 : Int) (w196 : Bool) (h10 : Bool) {k0 kk0 : (List (List D)) → Int → Int → Bool → D → D → D → D → D → Bool → Option R} {k1 kk1 : Int → Bool → Option R} {k2 kk2 : Option R} (hq0 : ∀ x0 x1 x2 x3 x4 x5 x6 x7 x8 x9, k0 x0 x1 x2 x3 x4 x5 x6 x7 x8 x9 = kk0 x0 x1 x2 x3 x4 x5 x6 x7 x8 x9) (hq1 : ∀ x0 x1, k1 x0 x1 = kk1 x0 x1) (hq2 : k2 = kk2) : occupancy_visit_s1_p14 n a0 a1 G p w2 h9 w196 h10 k0 k1 k2 = occupancy_visit_s1_p14 n a0 a1 G p w2 h9 w196 h10 kk0 kk1 kk2 := by
  obtain rfl : k0 = kk0 := funext fun x0 => funext fun x1 => funext fun x2 => funext fun x3 => funext fun x4 => funext fun x5 => funext fun x6 => funext fun x7 => funext fun x8 => funext fun x9 => hq0 x0 x1 x2 x3 x4 x5 x6 x7 x8 x9
  obtain rfl : k1 = kk1 := funext fun x0 => funext fun x1 => hq1 x0 x1
  obtain rfl : k2 = kk2 := hq2
  rfl
theorem occupancy_visit_s1_p15_congr {R : Type} (n : Nat) (a0 : Int) (a1 : List (List D)) (G : Int → List (List D)) (p : List (List D)) (w2 : Int) (h9 : Int) (h10 : Bool) {k0 kk0 : (List (List D)) → Int → Int → Bool → D → D → D → D → D → Bool → Option R} {k1 kk1 : Int → Bool → Option R} {k2 kk2 : Bool → Option R} (hq0 : ∀ x0 x1 x2 x3 x4 x5 x6 x7 x8 x9, k0 x0 x1 x2 x3 x4 x5 x6 x7 x8 x9 = kk0 x0 x1 x2 x3 x4 x5 x6 x7 x8 x9) (hq1 : ∀ x0 x1, k1 x0 x1 = kk1 x0 x1) (hq2 : ∀ x0, k2 x0 = kk2 x0) : occupancy_visit_s1_p15 n a0 a1 G p w2 h9 h10 k0 k1 k2 = occupancy_visit_s1_p15 n a0 a1 G p w2 h9 h10 kk0 kk1 kk2 := by
  obtain rfl : k0 = kk0 := funext fun x0 => funext fun x1 => funext fun x2 => funext fun x3 => funext fun x4 => funext fun x5 => funext fun x6 => funext fun x7 => funext fun x8 => funext fun x9 => hq0 x0 x1 x2 x3 x4 x5 x6 x7 x8 x9
  obtain rfl : k1 = kk1 := funext fun x0 => funext fun x1 => hq1 x0 x1
  obtain rfl : k2 = kk2 := funext fun x0 => hq2 x0
  rfl
theorem occupancy_visit_s1_p16_congr {R : Type} (n : Nat) (a0 : Int) (a1 : List (List D)) (G : Int → List (List D)) (p : List (List D)) (w2 : Int) (b0_0 : Bool) {k0 kk0 : Int → (List (List D)) → Int → Int → Bool → D → D → D → D → D → Bool → Option R} {k1 kk1 : Int → Bool → Bool → Option R} (hq0 : ∀ x0 x1 x2 x3 x4 x5 x6 x7 x8 x9 x10, k0 x0 x1 x2 x3 x4 x5 x6 x7 x8 x9 x10 = kk0 x0 x1 x2 x3 x4 x5 x6 x7 x8 x9 x10) (hq1 : ∀ x0 x1 x2, k1 x0 x1 x2 = kk1 x0 x1 x2) : occupancy_visit_s1_p16 n a0 a1 G p w2 b0_0 k0 k1 = occupancy_visit_s1_p16 n a0 a1 G p w2 b0_0 kk0 kk1 := by
  obtain rfl : k0 = kk0 := funext fun x0 => funext fun x1 => funext fun x2 => funext fun x3 => funext fun x4 => funext fun x5 => funext fun x6 => funext fun x7 => funext fun x8 => funext fun x9 => funext fun x10 => hq0 x0 x1 x2 x3 x4 x5 x6 x7 x8 x9 x10
  obtain rfl : k1 = kk1 := funext fun x0 => funext fun x1 => funext fun x2 => hq1 x0 x1 x2
  rfl
theorem occupancy_visit_s1_p17_congr {R : Type} (n : Nat) (a0 : Int) (a1 : List (List D)) (G : Int → List (List D)) (p : List (List D)) (w2 : Int) (b0_0 : Bool) {k0 kk0 : Int → (List (List D)) → Int → Int → Bool → D → D → D → D → D → Bool → Option R} {k1 kk1 : Int → Bool → Bool → Option R} (hq0 : ∀ x0 x1 x2 x3 x4 x5 x6 x7 x8 x9 x10, k0 x0 x1 x2 x3 x4 x5 x6 x7 x8 x9 x10 = kk0 x0 x1 x2 x3 x4 x5 x6 x7 x8 x9 x10) (hq1 : ∀ x0 x1 x2, k1 x0 x1 x2 = kk1 x0 x1 x2) : occupancy_visit_s1_p17 n a0 a1 G p w2 b0_0 k0 k1 = occupancy_visit_s1_p17 n a0 a1 G p w2 b0_0 kk0 kk1 := by
  obtain rfl : k0 = kk0 := funext fun x0 => funext fun x1 => funext fun x2 => funext fun x3 => funext fun x4 => funext fun x5 => funext fun x6 => funext fun x7 => funext fun x8 => funext fun x9 => funext fun x10 => hq0 x0 x1 x2 x3 x4 x5 x6 x7 x8 x9 x10
  obtain rfl : k1 = kk1 := funext fun x0 => funext fun x1 => funext fun x2 => hq1 x0 x1 x2
  rfl
theorem occupancy_visit_s1_p18_congr {R : Type} (n : Nat) (a0 : Int) (a1 : List (List D)) (G : Int → List (List D)) (p : List (List D)) (b0_0 : Bool) {k0 kk0 : Int → Int → (List (List D)) → Int → Int → Bool → D → D → D → D → D → Bool → Option R} {k1 kk1 : Int → Int → Bool → Bool → Option R} (hq0 : ∀ x0 x1 x2 x3 x4 x5 x6 x7 x8 x9 x10 x11, k0 x0 x1 x2 x3 x4 x5 x6 x7 x8 x9 x10 x11 = kk0 x0 x1 x2 x3 x4 x5 x6 x7 x8 x9 x10 x11) (hq1 : ∀ x0 x1 x2 x3, k1 x0 x1 x2 x3 = kk1 x0 x1 x2 x3) : occupancy_visit_s1_p18 n a0 a1 G p b0_0 k0 k1 = occupancy_visit_s1_p18 n a0 a1 G p b0_0 kk0 kk1 := by
  obtain rfl : k0 = kk0 := funext fun x0 => funext fun x1 => funext fun x2 => funext fun x3 => funext fun x4 => funext fun x5 => funext fun x6 => funext fun x7 => funext fun x8 => funext fun x9 => funext fun x10 => funext fun x11 => hq0 x0 x1 x2 x3 x4 x5 x6 x7 x8 x9 x10 x11
  obtain rfl : k1 = kk1 := funext fun x0 => funext fun x1 => funext fun x2 => funext fun x3 => hq1 x0 x1 x2 x3
  rfl
theorem occupancy_visit_s1_p1_eq {R : Type} (n : Nat) (a0 : Int) (a1 : List (List D)) (G : Int → List (List D)) (p : List (List D)) (b0_0 : Bool) (k : Exit → St → Option R) : vexec (occupancy_visit_s1_C n) n occupancy_visit_s1_c1 ⟨81, [(0, .d (D.int .i64 a0)), (1, .d (D.sl 5 a1)), (2, .fn 24 [.ptr 1000000 0]), (6, .mpd G), (7, .d (D.sl 1 p))], [(1000000, .box [.d (D.bool b0_0)])]⟩ k = occupancy_visit_s1_p1 n a0 a1 G p b0_0 (fun z1 => k .normal ⟨81, [(0, .d (D.int .i64 a0)), (1, .d (D.sl 5 a1)), (2, .fn 24 [.ptr 1000000 0]), (6, .mpd G), (7, .d (D.sl 1 p)), (44, .d (D.sl 5 a1)), (45, .d (D.int .i64 z1)), (46, .d (D.int .i64 (0 : Int)))], [(1000000, .box [.d (D.bool b0_0)])]⟩) := by kernel_rfl
theorem occupancy_visit_s1_p2_eq {R : Type} (n : Nat) (a0 : Int) (a1 : List (List D)) (G : Int → List (List D)) (p : List (List D)) (w2 : Int) (h9 : Int) (h10 : Bool) (k : Exit → St → Option R) : vexec (occupancy_visit_s1_C n) n occupancy_visit_s1_c2 ⟨81, [(0, .d (D.int .i64 a0)), (1, .d (D.sl 5 a1)), (2, .fn 24 [.ptr 1000000 0]), (6, .mpd G), (7, .d (D.sl 1 p)), (44, .d (D.sl 5 a1)), (45, .d (D.int .i64 w2)), (46, .d (D.int .i64 h9))], [(1000000, .box [.d (D.bool h10)])]⟩ k = occupancy_visit_s1_p2 n a0 a1 G p w2 h9 h10 (fun z195 => k .normal ⟨81, [(0, .d (D.int .i64 a0)), (1, .d (D.sl 5 a1)), (2, .fn 24 [.ptr 1000000 0]), (6, .mpd G), (7, .d (D.sl 1 p)), (44, .d (D.sl 5 a1)), (45, .d (D.int .i64 w2)), (46, .d (D.int .i64 h9)), (47, .d (D.bool z195))], [(1000000, .box [.d (D.bool h10)])]⟩) := by kernel_rfl
theorem occupancy_visit_s1_p3_eq {R : Type} (n : Nat) (a0 : Int) (a1 : List (List D)) (G : Int → List (List D)) (p : List (List D)) (w2 : Int) (h9 : Int) (w196 : Bool) (h10 : Bool) (k : Exit → St → Option R) : vexec (occupancy_visit_s1_C n) n occupancy_visit_s1_c3 ⟨81, [(0, .d (D.int .i64 a0)), (1, .d (D.sl 5 a1)), (2, .fn 24 [.ptr 1000000 0]), (6, .mpd G), (7, .d (D.sl 1 p)), (44, .d (D.sl 5 a1)), (45, .d (D.int .i64 w2)), (46, .d (D.int .i64 h9)), (47, .d (D.bool w196))], [(1000000, .box [.d (D.bool h10)])]⟩ k = occupancy_visit_s1_p3 n a0 a1 G p w2 h9 w196 h10 (k .normal ⟨81, [(0, .d (D.int .i64 a0)), (1, .d (D.sl 5 a1)), (2, .fn 24 [.ptr 1000000 0]), (6, .mpd G), (7, .d (D.sl 1 p)), (44, .d (D.sl 5 a1)), (45, .d (D.int .i64 w2)), (46, .d (D.int .i64 h9)), (47, .d (D.bool w196))], [(1000000, .box [.d (D.bool h10)])]⟩) (k (.exit 2) ⟨81, [(0, .d (D.int .i64 a0)), (1, .d (D.sl 5 a1)), (2, .fn 24 [.ptr 1000000 0]), (6, .mpd G), (7, .d (D.sl 1 p)), (44, .d (D.sl 5 a1)), (45, .d (D.int .i64 w2)), (46, .d (D.int .i64 h9)), (47, .d (D.bool w196))], [(1000000, .box [.d (D.bool h10)])]⟩) := by kernel_rfl
theorem occupancy_visit_s1_p4_eq {R : Type} (n : Nat) (a0 : Int) (a1 : List (List D)) (G : Int → List (List D)) (p : List (List D)) (w2 : Int) (h9 : Int) (w196 : Bool) (h10 : Bool) (k : Exit → St → Option R) : vexec (occupancy_visit_s1_C n) n occupancy_visit_s1_c4 ⟨81, [(0, .d (D.int .i64 a0)), (1, .d (D.sl 5 a1)), (2, .fn 24 [.ptr 1000000 0]), (6, .mpd G), (7, .d (D.sl 1 p)), (44, .d (D.sl 5 a1)), (45, .d (D.int .i64 w2)), (46, .d (D.int .i64 h9)), (47, .d (D.bool w196))], [(1000000, .box [.d (D.bool h10)])]⟩ k = occupancy_visit_s1_p4 n a0 a1 G p w2 h9 w196 h10 (fun c198 c199 c200 c201 c202 => k .normal ⟨81, [(0, .d (D.int .i64 a0)), (1, .d (D.sl 5 a1)), (2, .fn 24 [.ptr 1000000 0]), (6, .mpd G), (7, .d (D.sl 1 p)), (10, .d (D.int .i64 h9)), (11, .ptr 11 0), (44, .d (D.sl 5 a1)), (45, .d (D.int .i64 w2)), (46, .d (D.int .i64 h9))], [(11, .box [.d c198, .d c199, .d c200, .d c201, .d c202]), (1000000, .box [.d (D.bool h10)])]⟩) := by kernel_rfl
theorem occupancy_visit_s1_p5_eq {R : Type} (n : Nat) (a0 : Int) (a1 : List (List D)) (G : Int → List (List D)) (p : List (List D)) (h9 : Int) (w2 : Int) (w203 : D) (w204 : D) (w205 : D) (w206 : D) (w207 : D) (h10 : Bool) (k : Exit → St → Option R) : vexec (occupancy_visit_s1_C n) n occupancy_visit_s1_c5 ⟨81, [(0, .d (D.int .i64 a0)), (1, .d (D.sl 5 a1)), (2, .fn 24 [.ptr 1000000 0]), (6, .mpd G), (7, .d (D.sl 1 p)), (10, .d (D.int .i64 h9)), (11, .ptr 11 0), (44, .d (D.sl 5 a1)), (45, .d (D.int .i64 w2)), (46, .d (D.int .i64 h9))], [(11, .box [.d w203, .d w204, .d w205, .d w206, .d w207]), (1000000, .box [.d (D.bool h10)])]⟩ k = occupancy_visit_s1_p5 n a0 a1 G p h9 w2 w203 w204 w205 w206 w207 h10 (fun z213 z214 => k .normal ⟨81, [(0, .d (D.int .i64 a0)), (1, .d (D.sl 5 a1)), (2, .fn 24 [.ptr 1000000 0]), (6, .mpd G), (7, .d (D.sl 1 p)), (10, .d (D.int .i64 h9)), (11, .ptr 11 0), (44, .d (D.sl 5 a1)), (45, .d (D.int .i64 w2)), (46, .d (D.int .i64 h9)), (59, .d (D.sl 1 z213)), (60, .d (D.int .i64 z214)), (61, .d (D.int .i64 (0 : Int)))], [(11, .box [.d w203, .d w204, .d w205, .d w206, .d w207]), (1000000, .box [.d (D.bool h10)])]⟩) := by kernel_rfl
theorem occupancy_visit_s1_p6_eq {R : Type} (n : Nat) (a0 : Int) (a1 : List (List D)) (G : Int → List (List D)) (p : List (List D)) (h9 : Int) (w2 : Int) (w215 : List (List D)) (w216 : Int) (h227 : Int) (w203 : D) (w204 : D) (w205 : D) (w206 : D) (w207 : D) (h233 : Bool) (k : Exit → St → Option R) : vexec (occupancy_visit_s1_C n) n occupancy_visit_s1_c6 ⟨81, [(0, .d (D.int .i64 a0)), (1, .d (D.sl 5 a1)), (2, .fn 24 [.ptr 1000000 0]), (6, .mpd G), (7, .d (D.sl 1 p)), (10, .d (D.int .i64 h9)), (11, .ptr 11 0), (44, .d (D.sl 5 a1)), (45, .d (D.int .i64 w2)), (46, .d (D.int .i64 h9)), (59, .d (D.sl 1 w215)), (60, .d (D.int .i64 w216)), (61, .d (D.int .i64 h227))], [(11, .box [.d w203, .d w204, .d w205, .d w206, .d w207]), (1000000, .box [.d (D.bool h233)])]⟩ k = occupancy_visit_s1_p6 n a0 a1 G p h9 w2 w215 w216 h227 w203 w204 w205 w206 w207 h233 (fun z281 z282 => k .ret ⟨81, [(0, .d (D.int .i64 a0)), (1, .d (D.sl 5 a1)), (2, .fn 24 [.ptr 1000000 0]), (6, .mpd G), (7, .d (D.sl 1 p)), (10, .d (D.int .i64 h9)), (11, .ptr 11 0), (44, .d (D.sl 5 a1)), (45, .d (D.int .i64 w2)), (46, .d (D.int .i64 h9)), (59, .d (D.sl 1 w215)), (60, .d (D.int .i64 w216)), (61, .d (D.int .i64 h227)), (78, .d (D.bool z281))], [(11, .box [.d w203, .d w204, .d w205, .d w206, .d w207]), (1000000, .box [.d (D.bool z282)])]⟩) (fun z283 z284 => k .normal ⟨81, [(0, .d (D.int .i64 a0)), (1, .d (D.sl 5 a1)), (2, .fn 24 [.ptr 1000000 0]), (6, .mpd G), (7, .d (D.sl 1 p)), (10, .d (D.int .i64 h9)), (11, .ptr 11 0), (44, .d (D.sl 5 a1)), (45, .d (D.int .i64 w2)), (46, .d (D.int .i64 h9)), (59, .d (D.sl 1 w215)), (60, .d (D.int .i64 w216)), (61, .d (D.int .i64 z283))], [(11, .box [.d w203, .d w204, .d w205, .d w206, .d w207]), (1000000, .box [.d (D.bool z284)])]⟩) (fun z285 => k (.exit 4) ⟨81, [(0, .d (D.int .i64 a0)), (1, .d (D.sl 5 a1)), (2, .fn 24 [.ptr 1000000 0]), (6, .mpd G), (7, .d (D.sl 1 p)), (10, .d (D.int .i64 h9)), (11, .ptr 11 0), (44, .d (D.sl 5 a1)), (45, .d (D.int .i64 w2)), (46, .d (D.int .i64 h9)), (59, .d (D.sl 1 w215)), (60, .d (D.int .i64 w216)), (61, .d (D.int .i64 h227)), (62, .d (D.bool z285))], [(11, .box [.d w203, .d w204, .d w205, .d w206, .d w207]), (1000000, .box [.d (D.bool h233)])]⟩) := by kernel_rfl
theorem occupancy_visit_s1_r7_eq {R : Type} (n : Nat) (a0 : Int) (a1 : List (List D)) (G : Int → List (List D)) (p : List (List D)) (h9 : Int) (w2 : Int) (w215 : List (List D)) (w216 : Int) (w203 : D) (w204 : D) (w205 : D) (w206 : D) (w207 : D) (k : Exit → St → Option R) : ∀ (m : Nat) (h227 : Int) (h233 : Bool), loopN (vexec (occupancy_visit_s1_C n) n occupancy_visit_s1_c6) m ⟨81, [(0, .d (D.int .i64 a0)), (1, .d (D.sl 5 a1)), (2, .fn 24 [.ptr 1000000 0]), (6, .mpd G), (7, .d (D.sl 1 p)), (10, .d (D.int .i64 h9)), (11, .ptr 11 0), (44, .d (D.sl 5 a1)), (45, .d (D.int .i64 w2)), (46, .d (D.int .i64 h9)), (59, .d (D.sl 1 w215)), (60, .d (D.int .i64 w216)), (61, .d (D.int .i64 h227))], [(11, .box [.d w203, .d w204, .d w205, .d w206, .d w207]), (1000000, .box [.d (D.bool h233)])]⟩ k = occupancy_visit_s1_r7 n a0 a1 G p h9 w2 w215 w216 w203 w204 w205 w206 w207 (fun h227 w286 w287 => k .ret ⟨81, [(0, .d (D.int .i64 a0)), (1, .d (D.sl 5 a1)), (2, .fn 24 [.ptr 1000000 0]), (6, .mpd G), (7, .d (D.sl 1 p)), (10, .d (D.int .i64 h9)), (11, .ptr 11 0), (44, .d (D.sl 5 a1)), (45, .d (D.int .i64 w2)), (46, .d (D.int .i64 h9)), (59, .d (D.sl 1 w215)), (60, .d (D.int .i64 w216)), (61, .d (D.int .i64 h227)), (78, .d (D.bool w286))], [(11, .box [.d w203, .d w204, .d w205, .d w206, .d w207]), (1000000, .box [.d (D.bool w287)])]⟩) (fun h227 w290 h233 => k (.exit 4) ⟨81, [(0, .d (D.int .i64 a0)), (1, .d (D.sl 5 a1)), (2, .fn 24 [.ptr 1000000 0]), (6, .mpd G), (7, .d (D.sl 1 p)), (10, .d (D.int .i64 h9)), (11, .ptr 11 0), (44, .d (D.sl 5 a1)), (45, .d (D.int .i64 w2)), (46, .d (D.int .i64 h9)), (59, .d (D.sl 1 w215)), (60, .d (D.int .i64 w216)), (61, .d (D.int .i64 h227)), (62, .d (D.bool w290))], [(11, .box [.d w203, .d w204, .d w205, .d w206, .d w207]), (1000000, .box [.d (D.bool h233)])]⟩) m h227 h233
  | 0, _, _ => rfl
  | m + 1, h227, h233 => (occupancy_visit_s1_p6_eq n a0 a1 G p h9 w2 w215 w216 h227 w203 w204 w205 w206 w207 h233 (loopK (vexec (occupancy_visit_s1_C n) n occupancy_visit_s1_c6) m k)).trans (occupancy_visit_s1_p6_congr n a0 a1 G p h9 w2 w215 w216 h227 w203 w204 w205 w206 w207 h233 (fun w286 w287 => rfl) (fun w288 w289 => occupancy_visit_s1_r7_eq n a0 a1 G p h9 w2 w215 w216 w203 w204 w205 w206 w207 k m w288 w289) (fun w290 => rfl))
theorem occupancy_visit_s1_p7_eq {R : Type} (n : Nat) (a0 : Int) (a1 : List (List D)) (G : Int → List (List D)) (p : List (List D)) (h9 : Int) (w2 : Int) (w215 : List (List D)) (w216 : Int) (w203 : D) (w204 : D) (w205 : D) (w206 : D) (w207 : D) (h10 : Bool) (k : Exit → St → Option R) : vexec (occupancy_visit_s1_C n) n occupancy_visit_s1_c7 ⟨81, [(0, .d (D.int .i64 a0)), (1, .d (D.sl 5 a1)), (2, .fn 24 [.ptr 1000000 0]), (6, .mpd G), (7, .d (D.sl 1 p)), (10, .d (D.int .i64 h9)), (11, .ptr 11 0), (44, .d (D.sl 5 a1)), (45, .d (D.int .i64 w2)), (46, .d (D.int .i64 h9)), (59, .d (D.sl 1 w215)), (60, .d (D.int .i64 w216)), (61, .d (D.int .i64 (0 : Int)))], [(11, .box [.d w203, .d w204, .d w205, .d w206, .d w207]), (1000000, .box [.d (D.bool h10)])]⟩ k = occupancy_visit_s1_p7 n a0 a1 G p h9 w2 w215 w216 w203 w204 w205 w206 w207 h10 (fun h227 w286 w287 => k .ret ⟨81, [(0, .d (D.int .i64 a0)), (1, .d (D.sl 5 a1)), (2, .fn 24 [.ptr 1000000 0]), (6, .mpd G), (7, .d (D.sl 1 p)), (10, .d (D.int .i64 h9)), (11, .ptr 11 0), (44, .d (D.sl 5 a1)), (45, .d (D.int .i64 w2)), (46, .d (D.int .i64 h9)), (59, .d (D.sl 1 w215)), (60, .d (D.int .i64 w216)), (61, .d (D.int .i64 h227)), (78, .d (D.bool w286))], [(11, .box [.d w203, .d w204, .d w205, .d w206, .d w207]), (1000000, .box [.d (D.bool w287)])]⟩) (fun h227 w290 h233 => k (.exit 4) ⟨81, [(0, .d (D.int .i64 a0)), (1, .d (D.sl 5 a1)), (2, .fn 24 [.ptr 1000000 0]), (6, .mpd G), (7, .d (D.sl 1 p)), (10, .d (D.int .i64 h9)), (11, .ptr 11 0), (44, .d (D.sl 5 a1)), (45, .d (D.int .i64 w2)), (46, .d (D.int .i64 h9)), (59, .d (D.sl 1 w215)), (60, .d (D.int .i64 w216)), (61, .d (D.int .i64 h227)), (62, .d (D.bool w290))], [(11, .box [.d w203, .d w204, .d w205, .d w206, .d w207]), (1000000, .box [.d (D.bool h233)])]⟩) := by
  rw [occupancy_visit_s1_c7_eq]
  exact occupancy_visit_s1_r7_eq n a0 a1 G p h9 w2 w215 w216 w203 w204 w205 w206 w207 k n (0 : Int) h10
theorem occupancy_visit_s1_p8_eq {R : Type} (n : Nat) (a0 : Int) (a1 : List (List D)) (G : Int → List (List D)) (p : List (List D)) (h9 : Int) (w2 : Int) (w215 : List (List D)) (w216 : Int) (w203 : D) (w204 : D) (w205 : D) (w206 : D) (w207 : D) (h10 : Bool) (k : Exit → St → Option R) : vexec (occupancy_visit_s1_C n) n occupancy_visit_s1_c8 ⟨81, [(0, .d (D.int .i64 a0)), (1, .d (D.sl 5 a1)), (2, .fn 24 [.ptr 1000000 0]), (6, .mpd G), (7, .d (D.sl 1 p)), (10, .d (D.int .i64 h9)), (11, .ptr 11 0), (44, .d (D.sl 5 a1)), (45, .d (D.int .i64 w2)), (46, .d (D.int .i64 h9)), (59, .d (D.sl 1 w215)), (60, .d (D.int .i64 w216)), (61, .d (D.int .i64 (0 : Int)))], [(11, .box [.d w203, .d w204, .d w205, .d w206, .d w207]), (1000000, .box [.d (D.bool h10)])]⟩ k = occupancy_visit_s1_p8 n a0 a1 G p h9 w2 w215 w216 w203 w204 w205 w206 w207 h10 (fun w291 w292 w293 => k .ret ⟨81, [(0, .d (D.int .i64 a0)), (1, .d (D.sl 5 a1)), (2, .fn 24 [.ptr 1000000 0]), (6, .mpd G), (7, .d (D.sl 1 p)), (10, .d (D.int .i64 h9)), (11, .ptr 11 0), (44, .d (D.sl 5 a1)), (45, .d (D.int .i64 w2)), (46, .d (D.int .i64 h9)), (59, .d (D.sl 1 w215)), (60, .d (D.int .i64 w216)), (61, .d (D.int .i64 w291)), (78, .d (D.bool w292))], [(11, .box [.d w203, .d w204, .d w205, .d w206, .d w207]), (1000000, .box [.d (D.bool w293)])]⟩) (fun w294 w295 w296 => k .normal ⟨81, [(0, .d (D.int .i64 a0)), (1, .d (D.sl 5 a1)), (2, .fn 24 [.ptr 1000000 0]), (6, .mpd G), (7, .d (D.sl 1 p)), (10, .d (D.int .i64 h9)), (11, .ptr 11 0), (44, .d (D.sl 5 a1)), (45, .d (D.int .i64 w2)), (46, .d (D.int .i64 h9)), (59, .d (D.sl 1 w215)), (60, .d (D.int .i64 w216)), (61, .d (D.int .i64 w294)), (62, .d (D.bool w295))], [(11, .box [.d w203, .d w204, .d w205, .d w206, .d w207]), (1000000, .box [.d (D.bool w296)])]⟩) := by
  rw [occupancy_visit_s1_c8_eq]
  unfold occupancy_visit_s1_p8
  exact (occupancy_visit_s1_p7_eq n a0 a1 G p h9 w2 w215 w216 w203 w204 w205 w206 w207 h10 (blockK 4 k)).trans (occupancy_visit_s1_p7_congr n a0 a1 G p h9 w2 w215 w216 w203 w204 w205 w206 w207 h10 (fun w291 w292 w293 => rfl) (fun w294 w295 w296 => rfl))
theorem occupancy_visit_s1_p9_eq {R : Type} (n : Nat) (a0 : Int) (a1 : List (List D)) (G : Int → List (List D)) (p : List (List D)) (h9 : Int) (w2 : Int) (w203 : D) (w204 : D) (w205 : D) (w206 : D) (w207 : D) (h10 : Bool) (k : Exit → St → Option R) : vexec (occupancy_visit_s1_C n) n occupancy_visit_s1_c9 ⟨81, [(0, .d (D.int .i64 a0)), (1, .d (D.sl 5 a1)), (2, .fn 24 [.ptr 1000000 0]), (6, .mpd G), (7, .d (D.sl 1 p)), (10, .d (D.int .i64 h9)), (11, .ptr 11 0), (44, .d (D.sl 5 a1)), (45, .d (D.int .i64 w2)), (46, .d (D.int .i64 h9))], [(11, .box [.d w203, .d w204, .d w205, .d w206, .d w207]), (1000000, .box [.d (D.bool h10)])]⟩ k = occupancy_visit_s1_p9 n a0 a1 G p h9 w2 w203 w204 w205 w206 w207 h10 (fun w215 w216 w297 w298 w299 => k .ret ⟨81, [(0, .d (D.int .i64 a0)), (1, .d (D.sl 5 a1)), (2, .fn 24 [.ptr 1000000 0]), (6, .mpd G), (7, .d (D.sl 1 p)), (10, .d (D.int .i64 h9)), (11, .ptr 11 0), (44, .d (D.sl 5 a1)), (45, .d (D.int .i64 w2)), (46, .d (D.int .i64 h9)), (59, .d (D.sl 1 w215)), (60, .d (D.int .i64 w216)), (61, .d (D.int .i64 w297)), (78, .d (D.bool w298))], [(11, .box [.d w203, .d w204, .d w205, .d w206, .d w207]), (1000000, .box [.d (D.bool w299)])]⟩) (fun w215 w216 w300 w301 w302 => k .normal ⟨81, [(0, .d (D.int .i64 a0)), (1, .d (D.sl 5 a1)), (2, .fn 24 [.ptr 1000000 0]), (6, .mpd G), (7, .d (D.sl 1 p)), (10, .d (D.int .i64 h9)), (11, .ptr 11 0), (44, .d (D.sl 5 a1)), (45, .d (D.int .i64 w2)), (46, .d (D.int .i64 h9)), (59, .d (D.sl 1 w215)), (60, .d (D.int .i64 w216)), (61, .d (D.int .i64 w300)), (62, .d (D.bool w301))], [(11, .box [.d w203, .d w204, .d w205, .d w206, .d w207]), (1000000, .box [.d (D.bool w302)])]⟩) := by
  rw [occupancy_visit_s1_c9_eq]
  unfold occupancy_visit_s1_p9
  exact (occupancy_visit_s1_p5_eq n a0 a1 G p h9 w2 w203 w204 w205 w206 w207 h10 (seqK (occupancy_visit_s1_C n) n occupancy_visit_s1_c8 k)).trans (occupancy_visit_s1_p5_congr n a0 a1 G p h9 w2 w203 w204 w205 w206 w207 h10 (fun w215 w216 => occupancy_visit_s1_p8_eq n a0 a1 G p h9 w2 w215 w216 w203 w204 w205 w206 w207 h10 k))
theorem occupancy_visit_s1_p10_eq {R : Type} (n : Nat) (a0 : Int) (a1 : List (List D)) (G : Int → List (List D)) (p : List (List D)) (w2 : Int) (h9 : Int) (w196 : Bool) (h10 : Bool) (k : Exit → St → Option R) : vexec (occupancy_visit_s1_C n) n occupancy_visit_s1_c10 ⟨81, [(0, .d (D.int .i64 a0)), (1, .d (D.sl 5 a1)), (2, .fn 24 [.ptr 1000000 0]), (6, .mpd G), (7, .d (D.sl 1 p)), (44, .d (D.sl 5 a1)), (45, .d (D.int .i64 w2)), (46, .d (D.int .i64 h9)), (47, .d (D.bool w196))], [(1000000, .box [.d (D.bool h10)])]⟩ k = occupancy_visit_s1_p10 n a0 a1 G p w2 h9 w196 h10 (fun w303 w304 w305 w306 w203 w204 w205 w206 w207 w307 => k .ret ⟨81, [(0, .d (D.int .i64 a0)), (1, .d (D.sl 5 a1)), (2, .fn 24 [.ptr 1000000 0]), (6, .mpd G), (7, .d (D.sl 1 p)), (10, .d (D.int .i64 h9)), (11, .ptr 11 0), (44, .d (D.sl 5 a1)), (45, .d (D.int .i64 w2)), (46, .d (D.int .i64 h9)), (59, .d (D.sl 1 w303)), (60, .d (D.int .i64 w304)), (61, .d (D.int .i64 w305)), (78, .d (D.bool w306))], [(11, .box [.d w203, .d w204, .d w205, .d w206, .d w207]), (1000000, .box [.d (D.bool w307)])]⟩) (fun w308 w309 w310 w311 w203 w204 w205 w206 w207 w312 => k .normal ⟨81, [(0, .d (D.int .i64 a0)), (1, .d (D.sl 5 a1)), (2, .fn 24 [.ptr 1000000 0]), (6, .mpd G), (7, .d (D.sl 1 p)), (10, .d (D.int .i64 h9)), (11, .ptr 11 0), (44, .d (D.sl 5 a1)), (45, .d (D.int .i64 w2)), (46, .d (D.int .i64 h9)), (59, .d (D.sl 1 w308)), (60, .d (D.int .i64 w309)), (61, .d (D.int .i64 w310)), (62, .d (D.bool w311))], [(11, .box [.d w203, .d w204, .d w205, .d w206, .d w207]), (1000000, .box [.d (D.bool w312)])]⟩) := by
  rw [occupancy_visit_s1_c10_eq]
  unfold occupancy_visit_s1_p10
  exact (occupancy_visit_s1_p4_eq n a0 a1 G p w2 h9 w196 h10 (seqK (occupancy_visit_s1_C n) n occupancy_visit_s1_c9 k)).trans (occupancy_visit_s1_p4_congr n a0 a1 G p w2 h9 w196 h10 (fun w203 w204 w205 w206 w207 => occupancy_visit_s1_p9_eq n a0 a1 G p h9 w2 w203 w204 w205 w206 w207 h10 k))
theorem occupancy_visit_s1_p11_eq {R : Type} (n : Nat) (a0 : Int) (a1 : List (List D)) (G : Int → List (List D)) (p : List (List D)) (w2 : Int) (h9 : Int) (w196 : Bool) (h10 : Bool) (k : Exit → St → Option R) : vexec (occupancy_visit_s1_C n) n occupancy_visit_s1_c11 ⟨81, [(0, .d (D.int .i64 a0)), (1, .d (D.sl 5 a1)), (2, .fn 24 [.ptr 1000000 0]), (6, .mpd G), (7, .d (D.sl 1 p)), (44, .d (D.sl 5 a1)), (45, .d (D.int .i64 w2)), (46, .d (D.int .i64 h9)), (47, .d (D.bool w196))], [(1000000, .box [.d (D.bool h10)])]⟩ k = occupancy_visit_s1_p11 n a0 a1 G p w2 h9 w196 h10 (fun w313 w314 w315 w316 w317 w318 w319 w320 w321 w322 => k .ret ⟨81, [(0, .d (D.int .i64 a0)), (1, .d (D.sl 5 a1)), (2, .fn 24 [.ptr 1000000 0]), (6, .mpd G), (7, .d (D.sl 1 p)), (10, .d (D.int .i64 h9)), (11, .ptr 11 0), (44, .d (D.sl 5 a1)), (45, .d (D.int .i64 w2)), (46, .d (D.int .i64 h9)), (59, .d (D.sl 1 w313)), (60, .d (D.int .i64 w314)), (61, .d (D.int .i64 w315)), (78, .d (D.bool w316))], [(11, .box [.d w317, .d w318, .d w319, .d w320, .d w321]), (1000000, .box [.d (D.bool w322)])]⟩) (fun w323 w324 w325 w326 w327 w328 w329 w330 w331 w332 => k .normal ⟨81, [(0, .d (D.int .i64 a0)), (1, .d (D.sl 5 a1)), (2, .fn 24 [.ptr 1000000 0]), (6, .mpd G), (7, .d (D.sl 1 p)), (10, .d (D.int .i64 h9)), (11, .ptr 11 0), (44, .d (D.sl 5 a1)), (45, .d (D.int .i64 w2)), (46, .d (D.int .i64 h9)), (59, .d (D.sl 1 w323)), (60, .d (D.int .i64 w324)), (61, .d (D.int .i64 w325)), (62, .d (D.bool w326))], [(11, .box [.d w327, .d w328, .d w329, .d w330, .d w331]), (1000000, .box [.d (D.bool w332)])]⟩) := by
  rw [occupancy_visit_s1_c11_eq]
  unfold occupancy_visit_s1_p11
  exact (occupancy_visit_s1_p10_eq n a0 a1 G p w2 h9 w196 h10 (blockK 3 k)).trans (occupancy_visit_s1_p10_congr n a0 a1 G p w2 h9 w196 h10 (fun w313 w314 w315 w316 w317 w318 w319 w320 w321 w322 => rfl) (fun w323 w324 w325 w326 w327 w328 w329 w330 w331 w332 => rfl))
theorem occupancy_visit_s1_p12_eq {R : Type} (n : Nat) (a0 : Int) (a1 : List (List D)) (G : Int → List (List D)) (p : List (List D)) (h9 : Int) (w2 : Int) (w343 : List (List D)) (w344 : Int) (w345 : Int) (w346 : Bool) (w347 : D) (w348 : D) (w349 : D) (w350 : D) (w351 : D) (w352 : Bool) (k : Exit → St → Option R) : vexec (occupancy_visit_s1_C n) n occupancy_visit_s1_c12 ⟨81, [(0, .d (D.int .i64 a0)), (1, .d (D.sl 5 a1)), (2, .fn 24 [.ptr 1000000 0]), (6, .mpd G), (7, .d (D.sl 1 p)), (10, .d (D.int .i64 h9)), (11, .ptr 11 0), (44, .d (D.sl 5 a1)), (45, .d (D.int .i64 w2)), (46, .d (D.int .i64 h9)), (59, .d (D.sl 1 w343)), (60, .d (D.int .i64 w344)), (61, .d (D.int .i64 w345)), (62, .d (D.bool w346))], [(11, .box [.d w347, .d w348, .d w349, .d w350, .d w351]), (1000000, .box [.d (D.bool w352)])]⟩ k = occupancy_visit_s1_p12 n a0 a1 G p h9 w2 w343 w344 w345 w346 w347 w348 w349 w350 w351 w352 (fun z353 => k .normal ⟨81, [(0, .d (D.int .i64 a0)), (1, .d (D.sl 5 a1)), (2, .fn 24 [.ptr 1000000 0]), (6, .mpd G), (7, .d (D.sl 1 p)), (44, .d (D.sl 5 a1)), (45, .d (D.int .i64 w2)), (46, .d (D.int .i64 z353))], [(1000000, .box [.d (D.bool w352)])]⟩) := by kernel_rfl
theorem occupancy_visit_s1_p13_eq {R : Type} (n : Nat) (a0 : Int) (a1 : List (List D)) (G : Int → List (List D)) (p : List (List D)) (w2 : Int) (h9 : Int) (w196 : Bool) (h10 : Bool) (k : Exit → St → Option R) : vexec (occupancy_visit_s1_C n) n occupancy_visit_s1_c13 ⟨81, [(0, .d (D.int .i64 a0)), (1, .d (D.sl 5 a1)), (2, .fn 24 [.ptr 1000000 0]), (6, .mpd G), (7, .d (D.sl 1 p)), (44, .d (D.sl 5 a1)), (45, .d (D.int .i64 w2)), (46, .d (D.int .i64 h9)), (47, .d (D.bool w196))], [(1000000, .box [.d (D.bool h10)])]⟩ k = occupancy_visit_s1_p13 n a0 a1 G p w2 h9 w196 h10 (fun w333 w334 w335 w336 w337 w338 w339 w340 w341 w342 => k .ret ⟨81, [(0, .d (D.int .i64 a0)), (1, .d (D.sl 5 a1)), (2, .fn 24 [.ptr 1000000 0]), (6, .mpd G), (7, .d (D.sl 1 p)), (10, .d (D.int .i64 h9)), (11, .ptr 11 0), (44, .d (D.sl 5 a1)), (45, .d (D.int .i64 w2)), (46, .d (D.int .i64 h9)), (59, .d (D.sl 1 w333)), (60, .d (D.int .i64 w334)), (61, .d (D.int .i64 w335)), (78, .d (D.bool w336))], [(11, .box [.d w337, .d w338, .d w339, .d w340, .d w341]), (1000000, .box [.d (D.bool w342)])]⟩) (fun w354 w352 => k .normal ⟨81, [(0, .d (D.int .i64 a0)), (1, .d (D.sl 5 a1)), (2, .fn 24 [.ptr 1000000 0]), (6, .mpd G), (7, .d (D.sl 1 p)), (44, .d (D.sl 5 a1)), (45, .d (D.int .i64 w2)), (46, .d (D.int .i64 w354))], [(1000000, .box [.d (D.bool w352)])]⟩) := by
  rw [occupancy_visit_s1_c13_eq]
  unfold occupancy_visit_s1_p13
  exact (occupancy_visit_s1_p11_eq n a0 a1 G p w2 h9 w196 h10 (seqK (occupancy_visit_s1_C n) n occupancy_visit_s1_c12 k)).trans (occupancy_visit_s1_p11_congr n a0 a1 G p w2 h9 w196 h10 (fun w333 w334 w335 w336 w337 w338 w339 w340 w341 w342 => rfl) (fun w343 w344 w345 w346 w347 w348 w349 w350 w351 w352 => occupancy_visit_s1_p12_eq n a0 a1 G p h9 w2 w343 w344 w345 w346 w347 w348 w349 w350 w351 w352 k))
theorem occupancy_visit_s1_p14_eq {R : Type} (n : Nat) (a0 : Int) (a1 : List (List D)) (G : Int → List (List D)) (p : List (List D)) (w2 : Int) (h9 : Int) (w196 : Bool) (h10 : Bool) (k : Exit → St → Option R) : vexec (occupancy_visit_s1_C n) n occupancy_visit_s1_c14 ⟨81, [(0, .d (D.int .i64 a0)), (1, .d (D.sl 5 a1)), (2, .fn 24 [.ptr 1000000 0]), (6, .mpd G), (7, .d (D.sl 1 p)), (44, .d (D.sl 5 a1)), (45, .d (D.int .i64 w2)), (46, .d (D.int .i64 h9)), (47, .d (D.bool w196))], [(1000000, .box [.d (D.bool h10)])]⟩ k = occupancy_visit_s1_p14 n a0 a1 G p w2 h9 w196 h10 (fun w355 w356 w357 w358 w359 w360 w361 w362 w363 w364 => k .ret ⟨81, [(0, .d (D.int .i64 a0)), (1, .d (D.sl 5 a1)), (2, .fn 24 [.ptr 1000000 0]), (6, .mpd G), (7, .d (D.sl 1 p)), (10, .d (D.int .i64 h9)), (11, .ptr 11 0), (44, .d (D.sl 5 a1)), (45, .d (D.int .i64 w2)), (46, .d (D.int .i64 h9)), (59, .d (D.sl 1 w355)), (60, .d (D.int .i64 w356)), (61, .d (D.int .i64 w357)), (78, .d (D.bool w358))], [(11, .box [.d w359, .d w360, .d w361, .d w362, .d w363]), (1000000, .box [.d (D.bool w364)])]⟩) (fun w365 w366 => k .normal ⟨81, [(0, .d (D.int .i64 a0)), (1, .d (D.sl 5 a1)), (2, .fn 24 [.ptr 1000000 0]), (6, .mpd G), (7, .d (D.sl 1 p)), (44, .d (D.sl 5 a1)), (45, .d (D.int .i64 w2)), (46, .d (D.int .i64 w365))], [(1000000, .box [.d (D.bool w366)])]⟩) (k (.exit 2) ⟨81, [(0, .d (D.int .i64 a0)), (1, .d (D.sl 5 a1)), (2, .fn 24 [.ptr 1000000 0]), (6, .mpd G), (7, .d (D.sl 1 p)), (44, .d (D.sl 5 a1)), (45, .d (D.int .i64 w2)), (46, .d (D.int .i64 h9)), (47, .d (D.bool w196))], [(1000000, .box [.d (D.bool h10)])]⟩) := by
  rw [occupancy_visit_s1_c14_eq]
  unfold occupancy_visit_s1_p14
  exact (occupancy_visit_s1_p3_eq n a0 a1 G p w2 h9 w196 h10 (seqK (occupancy_visit_s1_C n) n occupancy_visit_s1_c13 k)).trans (occupancy_visit_s1_p3_congr n a0 a1 G p w2 h9 w196 h10 (occupancy_visit_s1_p13_eq n a0 a1 G p w2 h9 w196 h10 k) (rfl))
theorem occupancy_visit_s1_p15_eq {R : Type} (n : Nat) (a0 : Int) (a1 : List (List D)) (G : Int → List (List D)) (p : List (List D)) (w2 : Int) (h9 : Int) (h10 : Bool) (k : Exit → St → Option R) : vexec (occupancy_visit_s1_C n) n occupancy_visit_s1_c15 ⟨81, [(0, .d (D.int .i64 a0)), (1, .d (D.sl 5 a1)), (2, .fn 24 [.ptr 1000000 0]), (6, .mpd G), (7, .d (D.sl 1 p)), (44, .d (D.sl 5 a1)), (45, .d (D.int .i64 w2)), (46, .d (D.int .i64 h9))], [(1000000, .box [.d (D.bool h10)])]⟩ k = occupancy_visit_s1_p15 n a0 a1 G p w2 h9 h10 (fun w367 w368 w369 w370 w371 w372 w373 w374 w375 w376 => k .ret ⟨81, [(0, .d (D.int .i64 a0)), (1, .d (D.sl 5 a1)), (2, .fn 24 [.ptr 1000000 0]), (6, .mpd G), (7, .d (D.sl 1 p)), (10, .d (D.int .i64 h9)), (11, .ptr 11 0), (44, .d (D.sl 5 a1)), (45, .d (D.int .i64 w2)), (46, .d (D.int .i64 h9)), (59, .d (D.sl 1 w367)), (60, .d (D.int .i64 w368)), (61, .d (D.int .i64 w369)), (78, .d (D.bool w370))], [(11, .box [.d w371, .d w372, .d w373, .d w374, .d w375]), (1000000, .box [.d (D.bool w376)])]⟩) (fun w377 w378 => k .normal ⟨81, [(0, .d (D.int .i64 a0)), (1, .d (D.sl 5 a1)), (2, .fn 24 [.ptr 1000000 0]), (6, .mpd G), (7, .d (D.sl 1 p)), (44, .d (D.sl 5 a1)), (45, .d (D.int .i64 w2)), (46, .d (D.int .i64 w377))], [(1000000, .box [.d (D.bool w378)])]⟩) (fun w196 => k (.exit 2) ⟨81, [(0, .d (D.int .i64 a0)), (1, .d (D.sl 5 a1)), (2, .fn 24 [.ptr 1000000 0]), (6, .mpd G), (7, .d (D.sl 1 p)), (44, .d (D.sl 5 a1)), (45, .d (D.int .i64 w2)), (46, .d (D.int .i64 h9)), (47, .d (D.bool w196))], [(1000000, .box [.d (D.bool h10)])]⟩) := by
  rw [occupancy_visit_s1_c15_eq]
  unfold occupancy_visit_s1_p15
  exact (occupancy_visit_s1_p2_eq n a0 a1 G p w2 h9 h10 (seqK (occupancy_visit_s1_C n) n occupancy_visit_s1_c14 k)).trans (occupancy_visit_s1_p2_congr n a0 a1 G p w2 h9 h10 (fun w196 => occupancy_visit_s1_p14_eq n a0 a1 G p w2 h9 w196 h10 k))
theorem occupancy_visit_s1_r16_eq {R : Type} (n : Nat) (a0 : Int) (a1 : List (List D)) (G : Int → List (List D)) (p : List (List D)) (w2 : Int) (k : Exit → St → Option R) : ∀ (m : Nat) (h9 : Int) (h10 : Bool), loopN (vexec (occupancy_visit_s1_C n) n occupancy_visit_s1_c15) m ⟨81, [(0, .d (D.int .i64 a0)), (1, .d (D.sl 5 a1)), (2, .fn 24 [.ptr 1000000 0]), (6, .mpd G), (7, .d (D.sl 1 p)), (44, .d (D.sl 5 a1)), (45, .d (D.int .i64 w2)), (46, .d (D.int .i64 h9))], [(1000000, .box [.d (D.bool h10)])]⟩ k = occupancy_visit_s1_r16 n a0 a1 G p w2 (fun h9 w379 w380 w381 w382 w383 w384 w385 w386 w387 w388 => k .ret ⟨81, [(0, .d (D.int .i64 a0)), (1, .d (D.sl 5 a1)), (2, .fn 24 [.ptr 1000000 0]), (6, .mpd G), (7, .d (D.sl 1 p)), (10, .d (D.int .i64 h9)), (11, .ptr 11 0), (44, .d (D.sl 5 a1)), (45, .d (D.int .i64 w2)), (46, .d (D.int .i64 h9)), (59, .d (D.sl 1 w379)), (60, .d (D.int .i64 w380)), (61, .d (D.int .i64 w381)), (78, .d (D.bool w382))], [(11, .box [.d w383, .d w384, .d w385, .d w386, .d w387]), (1000000, .box [.d (D.bool w388)])]⟩) (fun h9 w391 h10 => k (.exit 2) ⟨81, [(0, .d (D.int .i64 a0)), (1, .d (D.sl 5 a1)), (2, .fn 24 [.ptr 1000000 0]), (6, .mpd G), (7, .d (D.sl 1 p)), (44, .d (D.sl 5 a1)), (45, .d (D.int .i64 w2)), (46, .d (D.int .i64 h9)), (47, .d (D.bool w391))], [(1000000, .box [.d (D.bool h10)])]⟩) m h9 h10
  | 0, _, _ => rfl
  | m + 1, h9, h10 => (occupancy_visit_s1_p15_eq n a0 a1 G p w2 h9 h10 (loopK (vexec (occupancy_visit_s1_C n) n occupancy_visit_s1_c15) m k)).trans (occupancy_visit_s1_p15_congr n a0 a1 G p w2 h9 h10 (fun w379 w380 w381 w382 w383 w384 w385 w386 w387 w388 => rfl) (fun w389 w390 => occupancy_visit_s1_r16_eq n a0 a1 G p w2 k m w389 w390) (fun w391 => rfl))
theorem occupancy_visit_s1_p16_eq {R : Type} (n : Nat) (a0 : Int) (a1 : List (List D)) (G : Int → List (List D)) (p : List (List D)) (w2 : Int) (b0_0 : Bool) (k : Exit → St → Option R) : vexec (occupancy_visit_s1_C n) n occupancy_visit_s1_c16 ⟨81, [(0, .d (D.int .i64 a0)), (1, .d (D.sl 5 a1)), (2, .fn 24 [.ptr 1000000 0]), (6, .mpd G), (7, .d (D.sl 1 p)), (44, .d (D.sl 5 a1)), (45, .d (D.int .i64 w2)), (46, .d (D.int .i64 (0 : Int)))], [(1000000, .box [.d (D.bool b0_0)])]⟩ k = occupancy_visit_s1_p16 n a0 a1 G p w2 b0_0 (fun h9 w379 w380 w381 w382 w383 w384 w385 w386 w387 w388 => k .ret ⟨81, [(0, .d (D.int .i64 a0)), (1, .d (D.sl 5 a1)), (2, .fn 24 [.ptr 1000000 0]), (6, .mpd G), (7, .d (D.sl 1 p)), (10, .d (D.int .i64 h9)), (11, .ptr 11 0), (44, .d (D.sl 5 a1)), (45, .d (D.int .i64 w2)), (46, .d (D.int .i64 h9)), (59, .d (D.sl 1 w379)), (60, .d (D.int .i64 w380)), (61, .d (D.int .i64 w381)), (78, .d (D.bool w382))], [(11, .box [.d w383, .d w384, .d w385, .d w386, .d w387]), (1000000, .box [.d (D.bool w388)])]⟩) (fun h9 w391 h10 => k (.exit 2) ⟨81, [(0, .d (D.int .i64 a0)), (1, .d (D.sl 5 a1)), (2, .fn 24 [.ptr 1000000 0]), (6, .mpd G), (7, .d (D.sl 1 p)), (44, .d (D.sl 5 a1)), (45, .d (D.int .i64 w2)), (46, .d (D.int .i64 h9)), (47, .d (D.bool w391))], [(1000000, .box [.d (D.bool h10)])]⟩) := by
  rw [occupancy_visit_s1_c16_eq]
  exact occupancy_visit_s1_r16_eq n a0 a1 G p w2 k n (0 : Int) b0_0
theorem occupancy_visit_s1_p17_eq {R : Type} (n : Nat) (a0 : Int) (a1 : List (List D)) (G : Int → List (List D)) (p : List (List D)) (w2 : Int) (b0_0 : Bool) (k : Exit → St → Option R) : vexec (occupancy_visit_s1_C n) n occupancy_visit_s1_c17 ⟨81, [(0, .d (D.int .i64 a0)), (1, .d (D.sl 5 a1)), (2, .fn 24 [.ptr 1000000 0]), (6, .mpd G), (7, .d (D.sl 1 p)), (44, .d (D.sl 5 a1)), (45, .d (D.int .i64 w2)), (46, .d (D.int .i64 (0 : Int)))], [(1000000, .box [.d (D.bool b0_0)])]⟩ k = occupancy_visit_s1_p17 n a0 a1 G p w2 b0_0 (fun w392 w393 w394 w395 w396 w397 w398 w399 w400 w401 w402 => k .ret ⟨81, [(0, .d (D.int .i64 a0)), (1, .d (D.sl 5 a1)), (2, .fn 24 [.ptr 1000000 0]), (6, .mpd G), (7, .d (D.sl 1 p)), (10, .d (D.int .i64 w392)), (11, .ptr 11 0), (44, .d (D.sl 5 a1)), (45, .d (D.int .i64 w2)), (46, .d (D.int .i64 w392)), (59, .d (D.sl 1 w393)), (60, .d (D.int .i64 w394)), (61, .d (D.int .i64 w395)), (78, .d (D.bool w396))], [(11, .box [.d w397, .d w398, .d w399, .d w400, .d w401]), (1000000, .box [.d (D.bool w402)])]⟩) (fun w403 w404 w405 => k .normal ⟨81, [(0, .d (D.int .i64 a0)), (1, .d (D.sl 5 a1)), (2, .fn 24 [.ptr 1000000 0]), (6, .mpd G), (7, .d (D.sl 1 p)), (44, .d (D.sl 5 a1)), (45, .d (D.int .i64 w2)), (46, .d (D.int .i64 w403)), (47, .d (D.bool w404))], [(1000000, .box [.d (D.bool w405)])]⟩) := by
  rw [occupancy_visit_s1_c17_eq]
  unfold occupancy_visit_s1_p17
  exact (occupancy_visit_s1_p16_eq n a0 a1 G p w2 b0_0 (blockK 2 k)).trans (occupancy_visit_s1_p16_congr n a0 a1 G p w2 b0_0 (fun w392 w393 w394 w395 w396 w397 w398 w399 w400 w401 w402 => rfl) (fun w403 w404 w405 => rfl))
theorem occupancy_visit_s1_p18_eq {R : Type} (n : Nat) (a0 : Int) (a1 : List (List D)) (G : Int → List (List D)) (p : List (List D)) (b0_0 : Bool) (k : Exit → St → Option R) : vexec (occupancy_visit_s1_C n) n occupancy_visit_s1_c0 ⟨81, [(0, .d (D.int .i64 a0)), (1, .d (D.sl 5 a1)), (2, .fn 24 [.ptr 1000000 0]), (6, .mpd G), (7, .d (D.sl 1 p))], [(1000000, .box [.d (D.bool b0_0)])]⟩ k = occupancy_visit_s1_p18 n a0 a1 G p b0_0 (fun w406 w2 w407 w408 w409 w410 w411 w412 w413 w414 w415 w416 => k .ret ⟨81, [(0, .d (D.int .i64 a0)), (1, .d (D.sl 5 a1)), (2, .fn 24 [.ptr 1000000 0]), (6, .mpd G), (7, .d (D.sl 1 p)), (10, .d (D.int .i64 w406)), (11, .ptr 11 0), (44, .d (D.sl 5 a1)), (45, .d (D.int .i64 w2)), (46, .d (D.int .i64 w406)), (59, .d (D.sl 1 w407)), (60, .d (D.int .i64 w408)), (61, .d (D.int .i64 w409)), (78, .d (D.bool w410))], [(11, .box [.d w411, .d w412, .d w413, .d w414, .d w415]), (1000000, .box [.d (D.bool w416)])]⟩) (fun w2 w417 w418 w419 => k .normal ⟨81, [(0, .d (D.int .i64 a0)), (1, .d (D.sl 5 a1)), (2, .fn 24 [.ptr 1000000 0]), (6, .mpd G), (7, .d (D.sl 1 p)), (44, .d (D.sl 5 a1)), (45, .d (D.int .i64 w2)), (46, .d (D.int .i64 w417)), (47, .d (D.bool w418))], [(1000000, .box [.d (D.bool w419)])]⟩) := by
  rw [occupancy_visit_s1_c0_eq]
  unfold occupancy_visit_s1_p18
  exact (occupancy_visit_s1_p1_eq n a0 a1 G p b0_0 (seqK (occupancy_visit_s1_C n) n occupancy_visit_s1_c17 k)).trans (occupancy_visit_s1_p1_congr n a0 a1 G p b0_0 (fun w2 => occupancy_visit_s1_p17_eq n a0 a1 G p w2 b0_0 k))
def occupancy_visit_s1_Ko : AV → List (Nat × Ob) → Option (Bool) := fun av H => (look H 1000000).bind fun o0 => match av, o0 with
  | .tup [], .box [.d (D.bool r0)] => some r0
  | _, _ => none
theorem occupancy_visit_s1_vfo (n : Nat) (a0 : Int) (a1 : List (List D)) (b0_0 : Bool) : (visPre a1 fun G p => vexec (occupancy_visit_s1_C n) n occupancy_visit_s1_c0 ⟨81, [(0, .d (D.int .i64 a0)), (1, .d (D.sl 5 a1)), (2, .fn 24 [.ptr 1000000 0]), (6, .mpd G), (7, .d (D.sl 1 p))], [(1000000, .box [.d (D.bool b0_0)])]⟩ (fnK occupancy_visit_s1_tt Try.f23 occupancy_visit_s1_Ko)) = occupancy_visit_s1 n a0 a1 b0_0 some := by
  unfold occupancy_visit_s1
  congr 1
  funext G p
  exact (occupancy_visit_s1_p18_eq n a0 a1 G p b0_0 (fnK occupancy_visit_s1_tt Try.f23 occupancy_visit_s1_Ko)).trans (by kernel_rfl)
def occupancy_visit_s1_s (n : Nat) : Entry := fun _ site g avs hl k => match avs with
  | [c0, c1, c2] => prI g .i64 c0 fun a0 => prS g 5 c1 fun a1 => prF 24 c2 fun m4 => (match m4 with
    | [y4_0] => prP hl y4_0 fun l0 bl0 => (match bl0 with
    | [xl0_0] => prB g xl0_0 fun b0_0 => 
    bif newsOk hl [(1000000, l0)] [] then gb g (occupancy_visit_s1 n a0 a1 b0_0 some) false fun r => k ⟨.tup [], [(l0, some (.box [.d (D.bool r)]))], [l0]⟩ else none
    | _ => none)
    | _ => none)
  | _ => none
theorem occupancy_visit_s1_so (n : Nat) : EntryOK Try.prog 23 (occupancy_visit_s1_s n) := by
  intro R site g avs hl k r h
  unfold occupancy_visit_s1_s at h
  split at h
  rotate_left
  · cases h
  replace h := prI_some h
  obtain ⟨a0, h, le0⟩ := h
  replace h := prS_some h
  obtain ⟨a1, h, le1⟩ := h
  replace h := prF_some h
  obtain ⟨m4, h, em4⟩ := h
  subst em4
  split at h
  rotate_left
  · cases h
  replace h := prP_some h
  obtain ⟨l0, bl0, h, el0, hbl0⟩ := h
  subst el0
  split at h
  rotate_left
  · cases h
  replace h := prB_some h
  obtain ⟨b0_0, h, le2⟩ := h
  replace h := bif_some h
  obtain ⟨hc, h⟩ := h
  replace h := gb_some h
  obtain ⟨res, h, hr⟩ := h
  refine ⟨_, h, fun hg => callOK_shX (K := occupancy_visit_s1_Ko) (res := res) (fn := Try.f23) (by kernel_rfl) (by kernel_rfl) (by kernel_rfl) (ρ := [(1000000, l0)]) (ν := []) (avs' := [.d (D.int .i64 a0), .d (D.sl 5 a1), .fn 24 [.ptr 1000000 0]]) (H := [(1000000, .box [.d (D.bool b0_0)])]) (.cons (.data rfl (le0 hg)) (.cons (.data rfl (le1 hg)) (.cons (.own rfl rfl) (.nil)))) rfl rfl hc (⟨⟨by decide, _, _, hbl0, rfl, .box (.cons (.data rfl (le2 hg)) (.nil))⟩, trivial⟩) rfl rfl ?_ ?_⟩
  · exact fun β S w vs hO hA => vis_calls (occupancy_visit_s1_VC n) (by kernel_rfl) ((occupancy_visit_s1_vfo n a0 a1 b0_0).trans (hr hg)) hO hA
  · intro av H' hx
    unfold occupancy_visit_s1_Ko at hx
    replace hx := Option.bind_eq_some_iff.1 hx
    obtain ⟨o0, ho0, hx⟩ := hx
    split at hx
    rotate_left
    · cases hx
    injection hx with hx
    subst hx
    refine ⟨rfl, ?_, trivial, ⟨endOk_box rfl ho0 rfl, trivial⟩⟩
    simp only [List.cons_append, List.nil_append, outWr, ho0, Option.map_some, Option.map_none]
    rfl
end Go.Vx
/-
  occupancy_Free: the interpreter computes the pure function
-/
set_option linter.unusedVariables false
set_option linter.unusedSimpArgs false
set_option maxRecDepth 100000
namespace Go.Vx
open Go.Proofs
noncomputable def occupancy_Free_c0 : Code := bodyOf Try.f11
def occupancy_Free_tt : TT := [(4, ⟨.bool, 1, 1, [.bool false], [.bool false], [], none⟩)]
theorem occupancy_Free_tt_eq : mkTT Try.prog [4] = occupancy_Free_tt := by kernel_rfl
def occupancy_Free_cfg : List (Nat × Cfg) := [(0, ⟨[0, 1], [], [], [], []⟩), (1, ⟨[0, 1, 9], [], [], [], []⟩), (2, ⟨[4], [], [], [], []⟩), (3, ⟨[0, 1, 5], [(5, 5)], [], [], []⟩), (4, ⟨[5], [(5, 5)], [], [], []⟩), (5, ⟨[4], [], [], [], []⟩)]
def occupancy_Free_C (n : Nat) : VC := ⟨specOf [(19, occupancy_Valid_e n), (23, occupancy_visit_s1_s n)], occupancy_Free_tt, occupancy_Free_cfg⟩
theorem occupancy_Free_ents (n : Nat) : EntsOK Try.prog [(19, occupancy_Valid_e n), (23, occupancy_visit_s1_s n)] := ⟨occupancy_Valid_ok n, ⟨occupancy_visit_s1_so n, trivial⟩⟩
theorem occupancy_Free_VC (n : Nat) : VCOk Try.prog (occupancy_Free_C n) := ⟨specOf_ok (occupancy_Free_ents n), (occupancy_Free_tt_eq ▸ mkTT_ok _ : TOk Try.prog occupancy_Free_tt), by kernel_rfl⟩
theorem occupancy_Free_p1_congr {R : Type} (n : Nat) (a0 : Int) (a1 : List (List D)) {k0 kk0 : Bool → Option R} (hq0 : ∀ x0, k0 x0 = kk0 x0) : occupancy_Free_p1 n a0 a1 k0 = occupancy_Free_p1 n a0 a1 kk0 := by
  obtain rfl : k0 = kk0 := funext fun x0 => hq0 x0
  rfl
theorem occupancy_Free_p1_eq {R : Type} (n : Nat) (a0 : Int) (a1 : List (List D)) (k : Exit → St → Option R) : vexec (occupancy_Free_C n) n occupancy_Free_c0 ⟨15, [(0, .d (D.int .i64 a0)), (1, .d (D.sl 5 a1))], []⟩ k = occupancy_Free_p1 n a0 a1 (fun z3 => k .ret ⟨15, [(4, .d (D.bool z3))], []⟩) := by kernel_rfl
theorem occupancy_Free_vfn {R : Type} (n : Nat) (a0 : Int) (a1 : List (List D)) (K : AV → Option R) : vfn (occupancy_Free_C n) n Try.f11 [.d (D.int .i64 a0), .d (D.sl 5 a1)] [] (retF [[0]] K) = occupancy_Free n a0 a1 (fun r0 => K (.d (D.bool r0))) :=
  (show vfn (occupancy_Free_C n) n Try.f11 [.d (D.int .i64 a0), .d (D.sl 5 a1)] [] (retF [[0]] K) = vexec (occupancy_Free_C n) n occupancy_Free_c0 ⟨15, [(0, .d (D.int .i64 a0)), (1, .d (D.sl 5 a1))], []⟩ (retX occupancy_Free_tt [.tmp 4] (retF [[0]] K)) from vfn_at (by kernel_rfl) (by kernel_rfl) rfl (by kernel_rfl) rfl (by kernel_rfl) rfl).trans ((occupancy_Free_p1_eq n a0 a1 (retX occupancy_Free_tt [.tmp 4] (retF [[0]] K))).trans (by kernel_rfl))
def occupancy_Free_K : AV → Option (Bool) := fun av => match av with
  | .d (D.bool r0) => some r0
  | _ => none
def occupancy_Free_e (n : Nat) : Entry := fun _ _ g avs _ k => match avs with
  | [c0, c1] => prI g .i64 c0 fun a0 => prS g 5 c1 fun a1 => 
    gb g (occupancy_Free n a0 a1 some) false fun r => k ⟨.d (D.bool r), [], []⟩
  | _ => none
theorem occupancy_Free_ok (n : Nat) : EntryOK Try.prog 11 (occupancy_Free_e n) := by
  intro R site g avs hl k r h
  unfold occupancy_Free_e at h
  split at h
  rotate_left
  · cases h
  replace h := prI_some h
  obtain ⟨a0, h, le0⟩ := h
  replace h := prS_some h
  obtain ⟨a1, h, le1⟩ := h
  replace h := gb_some h
  obtain ⟨res, h, hr⟩ := h
  refine ⟨_, h, fun hg => CallOK.conv (avs' := [.d (D.int .i64 a0), .d (D.sl 5 a1)]) (.cons (le0 hg) (.cons (le1 hg) (.nil))) (callOK_fix (K := occupancy_Free_K) (res := res) (occupancy_Free_VC n) (fn := Try.f11) (n := n) (by kernel_rfl) (by kernel_rfl) (by kernel_rfl) (ss := [[0]]) rfl ?_ ?_)⟩
  · exact (occupancy_Free_vfn n a0 a1 occupancy_Free_K).trans (hr hg)
  · intro x hx
    unfold occupancy_Free_K at hx
    split at hx
    · injection hx with hx; subst hx; rfl
    · cases hx
end Go.Vx
/-
  arith_Mod: the interpreter computes the pure function
-/
set_option linter.unusedVariables false
set_option linter.unusedSimpArgs false
set_option maxRecDepth 100000
namespace Go.Vx
open Go.Proofs
noncomputable def arith_Mod_c0 : Code := bodyOf Try.f20
def arith_Mod_tt : TT := [(3, ⟨.int .i64, 1, 8, [.int .i64 0], [.int .i64 0], [], none⟩)]
theorem arith_Mod_tt_eq : mkTT Try.prog [3] = arith_Mod_tt := by kernel_rfl
def arith_Mod_cfg : List (Nat × Cfg) := [(0, ⟨[0, 1], [], [], [], []⟩), (1, ⟨[0, 1, 7], [], [], [], []⟩), (2, ⟨[4], [], [], [], []⟩), (3, ⟨[1, 5], [], [], [], []⟩), (4, ⟨[1, 5, 12], [], [], [], []⟩), (5, ⟨[5], [], [], [], []⟩), (6, ⟨[4], [], [], [], []⟩)]
def arith_Mod_C (n : Nat) : VC := ⟨specOf [], arith_Mod_tt, arith_Mod_cfg⟩
theorem arith_Mod_ents (n : Nat) : EntsOK Try.prog [] := trivial
theorem arith_Mod_VC (n : Nat) : VCOk Try.prog (arith_Mod_C n) := ⟨specOf_ok (arith_Mod_ents n), (arith_Mod_tt_eq ▸ mkTT_ok _ : TOk Try.prog arith_Mod_tt), by kernel_rfl⟩
theorem arith_Mod_p1_congr {R : Type} (n : Nat) (a0 : Int) (a1 : Int) {k0 kk0 : Int → Option R} (hq0 : ∀ x0, k0 x0 = kk0 x0) : arith_Mod_p1 n a0 a1 k0 = arith_Mod_p1 n a0 a1 kk0 := by
  obtain rfl : k0 = kk0 := funext fun x0 => hq0 x0
  rfl
theorem arith_Mod_p1_eq {R : Type} (n : Nat) (a0 : Int) (a1 : Int) (k : Exit → St → Option R) : vexec (arith_Mod_C n) n arith_Mod_c0 ⟨17, [(0, .d (D.int .i64 a0)), (1, .d (D.int .i64 a1))], []⟩ k = arith_Mod_p1 n a0 a1 (fun z2 => k .ret ⟨17, [(4, .d (D.int .i64 z2))], []⟩) := by kernel_rfl
theorem arith_Mod_vfn {R : Type} (n : Nat) (a0 : Int) (a1 : Int) (K : AV → Option R) : vfn (arith_Mod_C n) n Try.f20 [.d (D.int .i64 a0), .d (D.int .i64 a1)] [] (retF [[0]] K) = arith_Mod n a0 a1 (fun r0 => K (.d (D.int .i64 r0))) :=
  (show vfn (arith_Mod_C n) n Try.f20 [.d (D.int .i64 a0), .d (D.int .i64 a1)] [] (retF [[0]] K) = vexec (arith_Mod_C n) n arith_Mod_c0 ⟨17, [(0, .d (D.int .i64 a0)), (1, .d (D.int .i64 a1))], []⟩ (retX arith_Mod_tt [.tmp 4] (retF [[0]] K)) from vfn_at (by kernel_rfl) (by kernel_rfl) rfl (by kernel_rfl) rfl (by kernel_rfl) rfl).trans ((arith_Mod_p1_eq n a0 a1 (retX arith_Mod_tt [.tmp 4] (retF [[0]] K))).trans (by kernel_rfl))
def arith_Mod_K : AV → Option (Int) := fun av => match av with
  | .d (D.int .i64 r0) => some r0
  | _ => none
def arith_Mod_e (n : Nat) : Entry := fun _ _ g avs _ k => match avs with
  | [c0, c1] => prI g .i64 c0 fun a0 => prI g .i64 c1 fun a1 => 
    gb g (arith_Mod n a0 a1 some) 0 fun r => k ⟨.d (D.int .i64 r), [], []⟩
  | _ => none
theorem arith_Mod_ok (n : Nat) : EntryOK Try.prog 20 (arith_Mod_e n) := by
  intro R site g avs hl k r h
  unfold arith_Mod_e at h
  split at h
  rotate_left
  · cases h
  replace h := prI_some h
  obtain ⟨a0, h, le0⟩ := h
  replace h := prI_some h
  obtain ⟨a1, h, le1⟩ := h
  replace h := gb_some h
  obtain ⟨res, h, hr⟩ := h
  refine ⟨_, h, fun hg => CallOK.conv (avs' := [.d (D.int .i64 a0), .d (D.int .i64 a1)]) (.cons (le0 hg) (.cons (le1 hg) (.nil))) (callOK_fix (K := arith_Mod_K) (res := res) (arith_Mod_VC n) (fn := Try.f20) (n := n) (by kernel_rfl) (by kernel_rfl) (by kernel_rfl) (ss := [[0]]) rfl ?_ ?_)⟩
  · exact (arith_Mod_vfn n a0 a1 arith_Mod_K).trans (hr hg)
  · intro x hx
    unfold arith_Mod_K at hx
    split at hx
    · injection hx with hx; subst hx; rfl
    · cases hx
end Go.Vx
/-
  DERIVED: THE SHELF's CONTRACTS AT THIS DUMP, IN PLAIN WORDS (tools/lay-plain.mjs out of 'TryShelf.lean', which tools/lay-shelf.mjs wrote): THE SAME DECLARATIONS UNDER THE SAME NAMES: 'import', 'namespace', 'open', 'def', 'theorem' AND NOTHING ELSE: no command of the shelf's: FOR A HAND-IN. Each laying: the table of numbers ('.._ren') and one theorem, a field a fact of the dump's own or the kernel's comparison; each contract: ONE APPLICATION.
-/
namespace Go.Proofs
open Go.Shelf
def Try.lays189_ren : Go.Shelf.Ren := ⟨fun | 189 => 21 | 125 => 31 | 257 => 30 | 128 => 45 | 129 => 46 | 294 => 36 | 295 => 37 | 296 => 38 | 297 => 39 | 298 => 40 | 299 => 41 | 216 => 42 | 300 => 43 | 301 => 44 | 328 => 51 | 329 => 52 | 330 => 53 | 331 => 54 | 332 => 55 | 215 => 56 | 343 => 57 | n => n, fun | 28 => 22 | 3 => 3 | 46 => 40 | 0 => 0 | 51 => 65 | 53 => 67 | 4 => 4 | 183 => 58 | 182 => 57 | 131 => 62 | 5 => 5 | 9 => 9 | 218 => 71 | 222 => 75 | 228 => 78 | 229 => 79 | n => n, fun | n => n⟩
theorem Try.lays189 : Go.Proofs.Lays.n189 Try.prog Try.lays189_ren := {
  mixed := by kernel_rfl
  f125 := Try.func31.trans (congrArg some (by kernel_rfl))
  f128 := Try.func45.trans (congrArg some (by kernel_rfl))
  f129 := Try.func46.trans (congrArg some (by kernel_rfl))
  f189 := Try.func21.trans (congrArg some (by kernel_rfl))
  f215 := Try.func56.trans (congrArg some (by kernel_rfl))
  f216 := Try.func42.trans (congrArg some (by kernel_rfl))
  f257 := Try.func30.trans (congrArg some (by kernel_rfl))
  f294 := Try.func36.trans (congrArg some (by kernel_rfl))
  f295 := Try.func37.trans (congrArg some (by kernel_rfl))
  f296 := Try.func38.trans (congrArg some (by kernel_rfl))
  f297 := Try.func39.trans (congrArg some (by kernel_rfl))
  f298 := Try.func40.trans (congrArg some (by kernel_rfl))
  f299 := Try.func41.trans (congrArg some (by kernel_rfl))
  f300 := Try.func43.trans (congrArg some (by kernel_rfl))
  f301 := Try.func44.trans (congrArg some (by kernel_rfl))
  f328 := Try.func51.trans (congrArg some (by kernel_rfl))
  f329 := Try.func52.trans (congrArg some (by kernel_rfl))
  f330 := Try.func53.trans (congrArg some (by kernel_rfl))
  f331 := Try.func54.trans (congrArg some (by kernel_rfl))
  f332 := Try.func55.trans (congrArg some (by kernel_rfl))
  f343 := Try.func57.trans (congrArg some (by kernel_rfl))
  t0 := Try.underlying0
  a0 := Try.isAgg0
  z0 := Try.sizeOf0
  v0 := Try.zeroValue0
  t3 := Try.underlying3
  a3 := Try.isAgg3
  z3 := Try.sizeOf3
  v3 := Try.zeroValue3
  t4 := Try.underlying4
  a4 := Try.isAgg4
  z4 := Try.sizeOf4
  v4 := Try.zeroValue4
  t5 := Try.underlying5
  a5 := Try.isAgg5
  z5 := Try.sizeOf5
  v5 := Try.zeroValue5
  t9 := Try.underlying9
  a9 := Try.isAgg9
  z9 := Try.sizeOf9
  v9 := Try.zeroValue9
  t28 := Try.underlying22
  a28 := Try.isAgg22
  z28 := Try.sizeOf22
  v28 := Try.zeroValue22
  t46 := Try.underlying40
  a46 := Try.isAgg40
  z46 := Try.sizeOf40
  v46 := Try.zeroValue40
  t51 := Try.underlying65
  a51 := Try.isAgg65
  z51 := Try.sizeOf65
  v51 := Try.zeroValue65
  t53 := Try.underlying67
  a53 := Try.isAgg67
  z53 := Try.sizeOf67
  v53 := Try.zeroValue67
  t131 := Try.underlying62
  a131 := Try.isAgg62
  z131 := Try.sizeOf62
  v131 := Try.zeroValue62
  t182 := Try.underlying57
  a182 := Try.isAgg57
  z182 := Try.sizeOf57
  v182 := Try.zeroValue57
  t183 := Try.underlying58
  a183 := Try.isAgg58
  z183 := Try.sizeOf58
  v183 := Try.zeroValue58
  t218 := Try.underlying71
  a218 := Try.isAgg71
  z218 := Try.sizeOf71
  v218 := Try.zeroValue71
  t222 := Try.underlying75
  a222 := Try.isAgg75
  z222 := Try.sizeOf75
  v222 := Try.zeroValue75
  t228 := Try.underlying78
  a228 := Try.isAgg78
  z228 := Try.sizeOf78
  v228 := Try.zeroValue78
  t229 := Try.underlying79
  a229 := Try.isAgg79
  z229 := Try.sizeOf79
  v229 := Try.zeroValue79 }
open Go.Sort Go.RowKit in
theorem Try.slices_Sort_int (blk off cap : Nat) (zs : List Int) (w : World) (hH : Holds (Value.int .i64) w blk off zs.toArray) (hblk : blk < w.heap.size) (hsz : zs.length < 4611686018427387904) :
    Calls Try.prog 21 #[.slice (some ⟨blk, off, none⟩) zs.length cap] w fun e w' =>
      e = .returned (.tuple #[]) ∧ ∃ n os, w' = grow (putRow (Value.int .i64) (Sort.ahead w n) blk off (zs.mergeSort fun x y => decide (x ≤ y)).toArray) os := Any.slices_Sort_int Try.lays189 blk off cap zs w hH hblk hsz
def Try.laysNm220_ren : Go.Shelf.Ren := ⟨fun | 20 => 22 | n => n, fun | 22 => 22 | 3 => 3 | 4 => 4 | 0 => 0 | n => n, fun | n => n⟩
theorem Try.laysNm220 : Go.Proofs.Lays2.n20 Try.prog Try.laysNm220_ren := {
  mixed := by kernel_rfl
  f20 := Try.func22.trans (congrArg some (by kernel_rfl))
  t0 := Try.underlying0
  a0 := Try.isAgg0
  z0 := Try.sizeOf0
  v0 := Try.zeroValue0
  t3 := Try.underlying3
  a3 := Try.isAgg3
  z3 := Try.sizeOf3
  v3 := Try.zeroValue3
  t4 := Try.underlying4
  a4 := Try.isAgg4
  z4 := Try.sizeOf4
  v4 := Try.zeroValue4
  t22 := Try.underlying22
  a22 := Try.isAgg22
  z22 := Try.sizeOf22
  v22 := Try.zeroValue22
  i3 := by kernel_rfl }
open Go.RowKit Go.Lib Go.Sort in
/-- slices.Compact at []int, over an array: the library's two loops are walked. (LAID: no walk: one application.) -/
theorem Try.slices_Compact_int_arr (blk off cap : Nat) (d : Array Int) (w : World) (hH : Holds encI w blk off d) (hsz : d.size ≤ 9223372036854775807) (hcap : d.size ≤ cap) :
    Calls Try.prog 22 #[.slice (some ⟨blk, off, none⟩) d.size cap] w fun e w' => e = .returned (.slice (some ⟨blk, off, none⟩) (compactUpTo d d.size).length cap) ∧ ∃ q, w' = putRow encI (Sort.ahead w q) blk off (compactUpTo d d.size ++ List.replicate (d.size - (compactUpTo d d.size).length) 0).toArray := Any.slices_Compact_int_arr Try.laysNm220 blk off cap d w hH hsz hcap
open Go.RowKit Go.Lib Go.Sort in
/-- slices.Compact at []int: "Compact replaces consecutive runs of equal elements with a single copy. This is like the uniq command found on Unix. Compact modifies the contents of the slice s and returns the modified slice, which may have a smaller length. Compact zeroes the elements between the new length and the original length. The result preserves the nilness of s.": IT RETURNS THE SLICE CUT TO 'Lib.compact zs'; ITS CELLS HOLD 'Lib.compact zs', THEN ZERO VALUES up to the old length; all else is as it was, but for the count of draws. IN THE WORDS OF slices.Sort's CONTRACT ('Holds', 'putRow'): so the everyday 'slices.Sort(xs); xs = slices.Compact(xs)' goes from the one contract to the other. It asks 'zs.length ≤ cap' (every slice's: the reslicing 's[:k]' looks at it). Length 0, nil: '.._empty'. (LAID: no walk: one application.) -/
theorem Try.slices_Compact_int (blk off cap : Nat) (zs : List Int) (w : World) (hH : Holds (Value.int .i64) w blk off zs.toArray) (hsz : zs.length ≤ 9223372036854775807) (hcap : zs.length ≤ cap) :
    Calls Try.prog 22 #[.slice (some ⟨blk, off, none⟩) zs.length cap] w fun e w' => e = .returned (.slice (some ⟨blk, off, none⟩) (Lib.compact zs).length cap) ∧ ∃ q, w' = putRow (Value.int .i64) (Sort.ahead w q) blk off (Lib.compact zs ++ List.replicate (zs.length - (Lib.compact zs).length) 0).toArray := Any.slices_Compact_int Try.laysNm220 blk off cap zs w hH hsz hcap
open Go.RowKit Go.Lib Go.Sort in
/-- The same at a slice of length 0, a nil one too: it comes back as it is. (LAID: no walk: one application.) -/
theorem Try.slices_Compact_int_empty (a : Option Addr) (cap : Nat) (w : World) :
    Calls Try.prog 22 #[.slice a 0 cap] w fun e w' => e = .returned (.slice a 0 cap) ∧ w' = w := Any.slices_Compact_int_empty Try.laysNm220 a cap w
open Go.RowKit Go.Sort in
/-- .. and plain. (LAID: no walk: one application.) -/
theorem Try.slices_Sort_int_none (p : Option Addr) (cap : Nat) (w : World) :
    Calls Try.prog 21 #[.slice p 0 cap] w fun e w' => e = .returned (.tuple #[]) ∧ w' = w := Any.slices_Sort_int_none Try.lays189 p cap w
end Go.Proofs
/-
  slices_Sort_int_int: its contract
-/
set_option linter.unusedVariables false
namespace Go.Vx
open Go.Proofs
def slices_Sort_int_int_e (n : Nat) : Entry := sortE 3
theorem slices_Sort_int_int_ok (n : Nat) : EntryOK Try.prog 21 (slices_Sort_int_int_e n) := sortE_ok Try.func21 (by kernel_rfl) (by kernel_rfl) ⟨fun blk off cap zs w => Try.slices_Sort_int blk off cap zs w, fun p cap w => Try.slices_Sort_int_none p cap w⟩
end Go.Vx
/-
  slices_Compact_int_int: its contract
-/
set_option linter.unusedVariables false
namespace Go.Vx
open Go.Proofs
def slices_Compact_int_int_e (n : Nat) : Entry := compactE 3
theorem slices_Compact_int_int_ok (n : Nat) : EntryOK Try.prog 22 (slices_Compact_int_int_e n) := compactE_ok Try.func22 (by kernel_rfl) (by kernel_rfl) ⟨fun blk off cap zs w => Try.slices_Compact_int blk off cap zs w, fun p cap w => Try.slices_Compact_int_empty p cap w⟩
end Go.Vx
/-
  occupancy_At: the interpreter computes the pure function
-/
set_option linter.unusedVariables false
set_option linter.unusedSimpArgs false
set_option maxRecDepth 100000
namespace Go.Vx
open Go.Proofs
noncomputable def occupancy_At_c0 : Code := bodyOf Try.f9
noncomputable def occupancy_At_c1 : Code := cL (bodyOf Try.f9)
noncomputable def occupancy_At_c2 : Code := cL (cR (bodyOf Try.f9))
noncomputable def occupancy_At_c3 : Code := cL (cR (cR (bodyOf Try.f9)))
noncomputable def occupancy_At_c4 : Code := cL (cR (cR (cR (bodyOf Try.f9))))
noncomputable def occupancy_At_c5 : Code := cL (cL (cR (cR (cR (cR (bodyOf Try.f9))))))
noncomputable def occupancy_At_c6 : Code := cB (cB (cR (cL (cR (cR (cR (cR (bodyOf Try.f9))))))))
noncomputable def occupancy_At_c7 : Code := cB (cR (cL (cR (cR (cR (cR (bodyOf Try.f9)))))))
noncomputable def occupancy_At_c8 : Code := cR (cL (cR (cR (cR (cR (bodyOf Try.f9))))))
noncomputable def occupancy_At_c9 : Code := cL (cR (cR (cR (cR (bodyOf Try.f9)))))
noncomputable def occupancy_At_c10 : Code := cR (cR (cR (cR (cR (bodyOf Try.f9)))))
noncomputable def occupancy_At_c11 : Code := cR (cR (cR (cR (bodyOf Try.f9))))
noncomputable def occupancy_At_c12 : Code := cR (cR (cR (bodyOf Try.f9)))
noncomputable def occupancy_At_c13 : Code := cR (cR (bodyOf Try.f9))
noncomputable def occupancy_At_c14 : Code := cR (bodyOf Try.f9)
theorem occupancy_At_c7_eq : occupancy_At_c7 = .loop occupancy_At_c6 := by kernel_rfl
theorem occupancy_At_c8_eq : occupancy_At_c8 = .block 0 occupancy_At_c7 := by kernel_rfl
theorem occupancy_At_c9_eq : occupancy_At_c9 = .seq occupancy_At_c5 occupancy_At_c8 := by kernel_rfl
theorem occupancy_At_c11_eq : occupancy_At_c11 = .seq occupancy_At_c9 occupancy_At_c10 := by kernel_rfl
theorem occupancy_At_c12_eq : occupancy_At_c12 = .seq occupancy_At_c4 occupancy_At_c11 := by kernel_rfl
theorem occupancy_At_c13_eq : occupancy_At_c13 = .seq occupancy_At_c3 occupancy_At_c12 := by kernel_rfl
theorem occupancy_At_c14_eq : occupancy_At_c14 = .seq occupancy_At_c2 occupancy_At_c13 := by kernel_rfl
theorem occupancy_At_c0_eq : occupancy_At_c0 = .seq occupancy_At_c1 occupancy_At_c14 := by kernel_rfl
def occupancy_At_tt : TT := [(3, ⟨.int .i64, 1, 8, [.int .i64 0], [.int .i64 0], [], none⟩), (22, ⟨.sl 3 1, 1, 24, [.slice none 0 0], [.sl 1 []], [], none⟩), (24, ⟨.sl 31 5, 1, 24, [.slice none 0 0], [.sl 5 []], [], none⟩), (31, ⟨.struct, 5, 40, [.int .i64 0, .int .i64 0, .int .i64 0, .int .i64 0, .int .i64 0], [.int .i64 0, .int .i64 0, .int .i64 0, .int .i64 0, .int .i64 0], [(0, 3), (1, 3), (2, 3), (3, 3), (4, 3)], some [.int .i64, .int .i64, .int .i64, .int .i64, .int .i64]⟩)]
theorem occupancy_At_tt_eq : mkTT Try.prog [3, 22, 24, 31] = occupancy_At_tt := by kernel_rfl
def occupancy_At_cfg : List (Nat × Cfg) := [(0, ⟨[0, 1, 2, 3], [], [], [], []⟩), (1, ⟨[0, 1, 2, 3, 16], [], [], [], []⟩), (2, ⟨[8], [], [], [], []⟩), (3, ⟨[0, 1, 2, 3, 9], [], [], [], []⟩), (4, ⟨[0, 1, 2, 9, 10], [], [], [], []⟩), (5, ⟨[0, 2, 9, 10, 20, 21, 22], [], [(9, 1009, 3, 1)], [], []⟩), (6, ⟨[0, 2, 9, 10, 20, 21, 22, 23], [(1009, 1009)], [], [], []⟩), (7, ⟨[0, 2, 9, 10, 12, 20, 21, 22], [(12, 12), (1009, 1009)], [], [], []⟩), (8, ⟨[0, 2, 9, 10, 12, 20, 21, 22, 40], [(12, 12), (1009, 1009)], [], [], []⟩), (9, ⟨[0, 2, 9, 10, 20, 21, 22], [(45, 1009)], [], [], []⟩), (10, ⟨[0, 2, 9, 10, 20, 21, 22], [(1009, 1009)], [], [], []⟩), (11, ⟨[9], [(1009, 1009)], [], [], []⟩), (12, ⟨[8], [(100050, 100050)], [], [], []⟩)]
def occupancy_At_C (n : Nat) : VC := ⟨specOf [(19, occupancy_Valid_e n), (20, arith_Mod_e n), (21, slices_Sort_int_int_e n), (22, slices_Compact_int_int_e n)], occupancy_At_tt, occupancy_At_cfg⟩
theorem occupancy_At_ents (n : Nat) : EntsOK Try.prog [(19, occupancy_Valid_e n), (20, arith_Mod_e n), (21, slices_Sort_int_int_e n), (22, slices_Compact_int_int_e n)] := ⟨occupancy_Valid_ok n, ⟨arith_Mod_ok n, ⟨slices_Sort_int_int_ok n, ⟨slices_Compact_int_int_ok n, trivial⟩⟩⟩⟩
theorem occupancy_At_VC (n : Nat) : VCOk Try.prog (occupancy_At_C n) := ⟨specOf_ok (occupancy_At_ents n), (occupancy_At_tt_eq ▸ mkTT_ok _ : TOk Try.prog occupancy_At_tt), by kernel_rfl⟩
theorem occupancy_At_p1_congr {R : Type} (n : Nat) (a0 : Int) (a1 : List (List D)) (a2 : Int) (a3 : Int) {k0 kk0 : Option R} (hq0 : k0 = kk0) : occupancy_At_p1 n a0 a1 a2 a3 k0 = occupancy_At_p1 n a0 a1 a2 a3 kk0 := by
  obtain rfl : k0 = kk0 := hq0
  rfl
theorem occupancy_At_p2_congr {R : Type} (n : Nat) (a0 : Int) (a1 : List (List D)) (a2 : Int) (a3 : Int) {k0 kk0 : Option R} {k1 kk1 : Bool → Option R} (hq0 : k0 = kk0) (hq1 : ∀ x0, k1 x0 = kk1 x0) : occupancy_At_p2 n a0 a1 a2 a3 k0 k1 = occupancy_At_p2 n a0 a1 a2 a3 kk0 kk1 := by
  obtain rfl : k0 = kk0 := hq0
  obtain rfl : k1 = kk1 := funext fun x0 => hq1 x0
  rfl
theorem occupancy_At_p3_congr {R : Type} (n : Nat) (a0 : Int) (a1 : List (List D)) (a2 : Int) (a3 : Int) (w3 : Bool) {k0 kk0 : Option R} (hq0 : k0 = kk0) : occupancy_At_p3 n a0 a1 a2 a3 w3 k0 = occupancy_At_p3 n a0 a1 a2 a3 w3 kk0 := by
  obtain rfl : k0 = kk0 := hq0
  rfl
theorem occupancy_At_p4_congr {R : Type} (n : Nat) (a0 : Int) (a1 : List (List D)) (a2 : Int) (a3 : Int) {k0 kk0 : Int → Option R} (hq0 : ∀ x0, k0 x0 = kk0 x0) : occupancy_At_p4 n a0 a1 a2 a3 k0 = occupancy_At_p4 n a0 a1 a2 a3 kk0 := by
  obtain rfl : k0 = kk0 := funext fun x0 => hq0 x0
  rfl
theorem occupancy_At_p5_congr {R : Type} (n : Nat) (a0 : Int) (a1 : List (List D)) (a2 : Int) (w5 : Int) {k0 kk0 : Int → Option R} (hq0 : ∀ x0, k0 x0 = kk0 x0) : occupancy_At_p5 n a0 a1 a2 w5 k0 = occupancy_At_p5 n a0 a1 a2 w5 kk0 := by
  obtain rfl : k0 = kk0 := funext fun x0 => hq0 x0
  rfl
theorem occupancy_At_p6_congr {R : Type} (n : Nat) (a0 : Int) (a2 : Int) (w5 : Int) (a1 : List (List D)) (w7 : Int) (h13 : Int) (h14 : List (List D)) {k0 kk0 : Int → (List (List D)) → Option R} {k1 kk1 : Bool → Option R} (hq0 : ∀ x0 x1, k0 x0 x1 = kk0 x0 x1) (hq1 : ∀ x0, k1 x0 = kk1 x0) : occupancy_At_p6 n a0 a2 w5 a1 w7 h13 h14 k0 k1 = occupancy_At_p6 n a0 a2 w5 a1 w7 h13 h14 kk0 kk1 := by
  obtain rfl : k0 = kk0 := funext fun x0 => funext fun x1 => hq0 x0 x1
  obtain rfl : k1 = kk1 := funext fun x0 => hq1 x0
  rfl
theorem occupancy_At_p7_congr {R : Type} (n : Nat) (a0 : Int) (a2 : Int) (w5 : Int) (a1 : List (List D)) (w7 : Int) {k0 kk0 : Int → Bool → (List (List D)) → Option R} (hq0 : ∀ x0 x1 x2, k0 x0 x1 x2 = kk0 x0 x1 x2) : occupancy_At_p7 n a0 a2 w5 a1 w7 k0 = occupancy_At_p7 n a0 a2 w5 a1 w7 kk0 := by
  obtain rfl : k0 = kk0 := funext fun x0 => funext fun x1 => funext fun x2 => hq0 x0 x1 x2
  rfl
theorem occupancy_At_p8_congr {R : Type} (n : Nat) (a0 : Int) (a2 : Int) (w5 : Int) (a1 : List (List D)) (w7 : Int) {k0 kk0 : Int → Bool → (List (List D)) → Option R} (hq0 : ∀ x0 x1 x2, k0 x0 x1 x2 = kk0 x0 x1 x2) : occupancy_At_p8 n a0 a2 w5 a1 w7 k0 = occupancy_At_p8 n a0 a2 w5 a1 w7 kk0 := by
  obtain rfl : k0 = kk0 := funext fun x0 => funext fun x1 => funext fun x2 => hq0 x0 x1 x2
  rfl
theorem occupancy_At_p9_congr {R : Type} (n : Nat) (a0 : Int) (a1 : List (List D)) (a2 : Int) (w5 : Int) {k0 kk0 : Int → Int → Bool → (List (List D)) → Option R} (hq0 : ∀ x0 x1 x2 x3, k0 x0 x1 x2 x3 = kk0 x0 x1 x2 x3) : occupancy_At_p9 n a0 a1 a2 w5 k0 = occupancy_At_p9 n a0 a1 a2 w5 kk0 := by
  obtain rfl : k0 = kk0 := funext fun x0 => funext fun x1 => funext fun x2 => funext fun x3 => hq0 x0 x1 x2 x3
  rfl
theorem occupancy_At_p10_congr {R : Type} (n : Nat) (a0 : Int) (a2 : Int) (w5 : Int) (a1 : List (List D)) (w54 : Int) (w55 : Int) (w56 : Bool) (w57 : List (List D)) {k0 kk0 : (List (List D)) → Option R} (hq0 : ∀ x0, k0 x0 = kk0 x0) : occupancy_At_p10 n a0 a2 w5 a1 w54 w55 w56 w57 k0 = occupancy_At_p10 n a0 a2 w5 a1 w54 w55 w56 w57 kk0 := by
  obtain rfl : k0 = kk0 := funext fun x0 => hq0 x0
  rfl
theorem occupancy_At_p11_congr {R : Type} (n : Nat) (a0 : Int) (a1 : List (List D)) (a2 : Int) (w5 : Int) {k0 kk0 : (List (List D)) → Option R} (hq0 : ∀ x0, k0 x0 = kk0 x0) : occupancy_At_p11 n a0 a1 a2 w5 k0 = occupancy_At_p11 n a0 a1 a2 w5 kk0 := by
  obtain rfl : k0 = kk0 := funext fun x0 => hq0 x0
  rfl
theorem occupancy_At_p12_congr {R : Type} (n : Nat) (a0 : Int) (a1 : List (List D)) (a2 : Int) (a3 : Int) {k0 kk0 : (List (List D)) → Option R} (hq0 : ∀ x0, k0 x0 = kk0 x0) : occupancy_At_p12 n a0 a1 a2 a3 k0 = occupancy_At_p12 n a0 a1 a2 a3 kk0 := by
  obtain rfl : k0 = kk0 := funext fun x0 => hq0 x0
  rfl
theorem occupancy_At_p13_congr {R : Type} (n : Nat) (a0 : Int) (a1 : List (List D)) (a2 : Int) (a3 : Int) (w3 : Bool) {k0 kk0 : (List (List D)) → Option R} (hq0 : ∀ x0, k0 x0 = kk0 x0) : occupancy_At_p13 n a0 a1 a2 a3 w3 k0 = occupancy_At_p13 n a0 a1 a2 a3 w3 kk0 := by
  obtain rfl : k0 = kk0 := funext fun x0 => hq0 x0
  rfl
theorem occupancy_At_p14_congr {R : Type} (n : Nat) (a0 : Int) (a1 : List (List D)) (a2 : Int) (a3 : Int) {k0 kk0 : Option R} {k1 kk1 : (List (List D)) → Option R} (hq0 : k0 = kk0) (hq1 : ∀ x0, k1 x0 = kk1 x0) : occupancy_At_p14 n a0 a1 a2 a3 k0 k1 = occupancy_At_p14 n a0 a1 a2 a3 kk0 kk1 := by
  obtain rfl : k0 = kk0 := hq0
  obtain rfl : k1 = kk1 := funext fun x0 => hq1 x0
  rfl
theorem occupancy_At_p15_congr {R : Type} (n : Nat) (a0 : Int) (a1 : List (List D)) (a2 : Int) (a3 : Int) {k0 kk0 : Option R} {k1 kk1 : (List (List D)) → Option R} (hq0 : k0 = kk0) (hq1 : ∀ x0, k1 x0 = kk1 x0) : occupancy_At_p15 n a0 a1 a2 a3 k0 k1 = occupancy_At_p15 n a0 a1 a2 a3 kk0 kk1 := by
  obtain rfl : k0 = kk0 := hq0
  obtain rfl : k1 = kk1 := funext fun x0 => hq1 x0
  rfl
theorem occupancy_At_p1_eq {R : Type} (n : Nat) (a0 : Int) (a1 : List (List D)) (a2 : Int) (a3 : Int) (k : Exit → St → Option R) : vexec (occupancy_At_C n) n occupancy_At_c1 ⟨51, [(0, .d (D.int .i64 a0)), (1, .d (D.sl 5 a1)), (2, .d (D.int .i64 a2)), (3, .d (D.int .i64 a3))], []⟩ k = occupancy_At_p1 n a0 a1 a2 a3 (k .normal ⟨51, [(0, .d (D.int .i64 a0)), (1, .d (D.sl 5 a1)), (2, .d (D.int .i64 a2)), (3, .d (D.int .i64 a3))], []⟩) := by kernel_rfl
theorem occupancy_At_p2_eq {R : Type} (n : Nat) (a0 : Int) (a1 : List (List D)) (a2 : Int) (a3 : Int) (k : Exit → St → Option R) : vexec (occupancy_At_C n) n occupancy_At_c2 ⟨51, [(0, .d (D.int .i64 a0)), (1, .d (D.sl 5 a1)), (2, .d (D.int .i64 a2)), (3, .d (D.int .i64 a3))], []⟩ k = occupancy_At_p2 n a0 a1 a2 a3 (k .ret ⟨51, [(8, .nil)], []⟩) (fun z2 => k .normal ⟨51, [(0, .d (D.int .i64 a0)), (1, .d (D.sl 5 a1)), (2, .d (D.int .i64 a2)), (3, .d (D.int .i64 a3)), (16, .d (D.bool z2))], []⟩) := by kernel_rfl
theorem occupancy_At_p3_eq {R : Type} (n : Nat) (a0 : Int) (a1 : List (List D)) (a2 : Int) (a3 : Int) (w3 : Bool) (k : Exit → St → Option R) : vexec (occupancy_At_C n) n occupancy_At_c3 ⟨51, [(0, .d (D.int .i64 a0)), (1, .d (D.sl 5 a1)), (2, .d (D.int .i64 a2)), (3, .d (D.int .i64 a3)), (16, .d (D.bool w3))], []⟩ k = occupancy_At_p3 n a0 a1 a2 a3 w3 (k .normal ⟨51, [(0, .d (D.int .i64 a0)), (1, .d (D.sl 5 a1)), (2, .d (D.int .i64 a2)), (3, .d (D.int .i64 a3)), (9, .nil)], []⟩) := by kernel_rfl
theorem occupancy_At_p4_eq {R : Type} (n : Nat) (a0 : Int) (a1 : List (List D)) (a2 : Int) (a3 : Int) (k : Exit → St → Option R) : vexec (occupancy_At_C n) n occupancy_At_c4 ⟨51, [(0, .d (D.int .i64 a0)), (1, .d (D.sl 5 a1)), (2, .d (D.int .i64 a2)), (3, .d (D.int .i64 a3)), (9, .nil)], []⟩ k = occupancy_At_p4 n a0 a1 a2 a3 (fun r4 => k .normal ⟨51, [(0, .d (D.int .i64 a0)), (1, .d (D.sl 5 a1)), (2, .d (D.int .i64 a2)), (9, .nil), (10, .d (D.int .i64 r4))], []⟩) := by kernel_rfl
theorem occupancy_At_p5_eq {R : Type} (n : Nat) (a0 : Int) (a1 : List (List D)) (a2 : Int) (w5 : Int) (k : Exit → St → Option R) : vexec (occupancy_At_C n) n occupancy_At_c5 ⟨51, [(0, .d (D.int .i64 a0)), (1, .d (D.sl 5 a1)), (2, .d (D.int .i64 a2)), (9, .nil), (10, .d (D.int .i64 w5))], []⟩ k = occupancy_At_p5 n a0 a1 a2 w5 (fun z6 => k .normal ⟨51, [(0, .d (D.int .i64 a0)), (2, .d (D.int .i64 a2)), (9, .arr 1009), (10, .d (D.int .i64 w5)), (20, .d (D.sl 5 a1)), (21, .d (D.int .i64 z6)), (22, .d (D.int .i64 (0 : Int)))], [(1009, .arr 3 1 [])]⟩) := by kernel_rfl
theorem occupancy_At_p6_eq {R : Type} (n : Nat) (a0 : Int) (a2 : Int) (w5 : Int) (a1 : List (List D)) (w7 : Int) (h13 : Int) (h14 : List (List D)) (k : Exit → St → Option R) : vexec (occupancy_At_C n) n occupancy_At_c6 ⟨51, [(0, .d (D.int .i64 a0)), (2, .d (D.int .i64 a2)), (9, .arr 1009), (10, .d (D.int .i64 w5)), (20, .d (D.sl 5 a1)), (21, .d (D.int .i64 w7)), (22, .d (D.int .i64 h13))], [(1009, .arr 3 1 h14)]⟩ k = occupancy_At_p6 n a0 a2 w5 a1 w7 h13 h14 (fun z42 z43 => k .normal ⟨51, [(0, .d (D.int .i64 a0)), (2, .d (D.int .i64 a2)), (9, .arr 1009), (10, .d (D.int .i64 w5)), (20, .d (D.sl 5 a1)), (21, .d (D.int .i64 w7)), (22, .d (D.int .i64 z42))], [(1009, .arr 3 1 z43)]⟩) (fun z44 => k (.exit 0) ⟨51, [(0, .d (D.int .i64 a0)), (2, .d (D.int .i64 a2)), (9, .arr 1009), (10, .d (D.int .i64 w5)), (20, .d (D.sl 5 a1)), (21, .d (D.int .i64 w7)), (22, .d (D.int .i64 h13)), (23, .d (D.bool z44))], [(1009, .arr 3 1 h14)]⟩) := by kernel_rfl
theorem occupancy_At_r7_eq {R : Type} (n : Nat) (a0 : Int) (a2 : Int) (w5 : Int) (a1 : List (List D)) (w7 : Int) (k : Exit → St → Option R) : ∀ (m : Nat) (h13 : Int) (h14 : List (List D)), loopN (vexec (occupancy_At_C n) n occupancy_At_c6) m ⟨51, [(0, .d (D.int .i64 a0)), (2, .d (D.int .i64 a2)), (9, .arr 1009), (10, .d (D.int .i64 w5)), (20, .d (D.sl 5 a1)), (21, .d (D.int .i64 w7)), (22, .d (D.int .i64 h13))], [(1009, .arr 3 1 h14)]⟩ k = occupancy_At_r7 n a0 a2 w5 a1 w7 (fun h13 w47 h14 => k (.exit 0) ⟨51, [(0, .d (D.int .i64 a0)), (2, .d (D.int .i64 a2)), (9, .arr 1009), (10, .d (D.int .i64 w5)), (20, .d (D.sl 5 a1)), (21, .d (D.int .i64 w7)), (22, .d (D.int .i64 h13)), (23, .d (D.bool w47))], [(1009, .arr 3 1 h14)]⟩) m h13 h14
  | 0, _, _ => rfl
  | m + 1, h13, h14 => (occupancy_At_p6_eq n a0 a2 w5 a1 w7 h13 h14 (loopK (vexec (occupancy_At_C n) n occupancy_At_c6) m k)).trans (occupancy_At_p6_congr n a0 a2 w5 a1 w7 h13 h14 (fun w45 w46 => occupancy_At_r7_eq n a0 a2 w5 a1 w7 k m w45 w46) (fun w47 => rfl))
theorem occupancy_At_p7_eq {R : Type} (n : Nat) (a0 : Int) (a2 : Int) (w5 : Int) (a1 : List (List D)) (w7 : Int) (k : Exit → St → Option R) : vexec (occupancy_At_C n) n occupancy_At_c7 ⟨51, [(0, .d (D.int .i64 a0)), (2, .d (D.int .i64 a2)), (9, .arr 1009), (10, .d (D.int .i64 w5)), (20, .d (D.sl 5 a1)), (21, .d (D.int .i64 w7)), (22, .d (D.int .i64 (0 : Int)))], [(1009, .arr 3 1 [])]⟩ k = occupancy_At_p7 n a0 a2 w5 a1 w7 (fun h13 w47 h14 => k (.exit 0) ⟨51, [(0, .d (D.int .i64 a0)), (2, .d (D.int .i64 a2)), (9, .arr 1009), (10, .d (D.int .i64 w5)), (20, .d (D.sl 5 a1)), (21, .d (D.int .i64 w7)), (22, .d (D.int .i64 h13)), (23, .d (D.bool w47))], [(1009, .arr 3 1 h14)]⟩) := by
  rw [occupancy_At_c7_eq]
  exact occupancy_At_r7_eq n a0 a2 w5 a1 w7 k n (0 : Int) []
theorem occupancy_At_p8_eq {R : Type} (n : Nat) (a0 : Int) (a2 : Int) (w5 : Int) (a1 : List (List D)) (w7 : Int) (k : Exit → St → Option R) : vexec (occupancy_At_C n) n occupancy_At_c8 ⟨51, [(0, .d (D.int .i64 a0)), (2, .d (D.int .i64 a2)), (9, .arr 1009), (10, .d (D.int .i64 w5)), (20, .d (D.sl 5 a1)), (21, .d (D.int .i64 w7)), (22, .d (D.int .i64 (0 : Int)))], [(1009, .arr 3 1 [])]⟩ k = occupancy_At_p8 n a0 a2 w5 a1 w7 (fun w48 w49 w50 => k .normal ⟨51, [(0, .d (D.int .i64 a0)), (2, .d (D.int .i64 a2)), (9, .arr 1009), (10, .d (D.int .i64 w5)), (20, .d (D.sl 5 a1)), (21, .d (D.int .i64 w7)), (22, .d (D.int .i64 w48)), (23, .d (D.bool w49))], [(1009, .arr 3 1 w50)]⟩) := by
  rw [occupancy_At_c8_eq]
  unfold occupancy_At_p8
  exact (occupancy_At_p7_eq n a0 a2 w5 a1 w7 (blockK 0 k)).trans (occupancy_At_p7_congr n a0 a2 w5 a1 w7 (fun w48 w49 w50 => rfl))
theorem occupancy_At_p9_eq {R : Type} (n : Nat) (a0 : Int) (a1 : List (List D)) (a2 : Int) (w5 : Int) (k : Exit → St → Option R) : vexec (occupancy_At_C n) n occupancy_At_c9 ⟨51, [(0, .d (D.int .i64 a0)), (1, .d (D.sl 5 a1)), (2, .d (D.int .i64 a2)), (9, .nil), (10, .d (D.int .i64 w5))], []⟩ k = occupancy_At_p9 n a0 a1 a2 w5 (fun w7 w51 w52 w53 => k .normal ⟨51, [(0, .d (D.int .i64 a0)), (2, .d (D.int .i64 a2)), (9, .arr 1009), (10, .d (D.int .i64 w5)), (20, .d (D.sl 5 a1)), (21, .d (D.int .i64 w7)), (22, .d (D.int .i64 w51)), (23, .d (D.bool w52))], [(1009, .arr 3 1 w53)]⟩) := by
  rw [occupancy_At_c9_eq]
  unfold occupancy_At_p9
  exact (occupancy_At_p5_eq n a0 a1 a2 w5 (seqK (occupancy_At_C n) n occupancy_At_c8 k)).trans (occupancy_At_p5_congr n a0 a1 a2 w5 (fun w7 => occupancy_At_p8_eq n a0 a2 w5 a1 w7 k))
theorem occupancy_At_p10_eq {R : Type} (n : Nat) (a0 : Int) (a2 : Int) (w5 : Int) (a1 : List (List D)) (w54 : Int) (w55 : Int) (w56 : Bool) (w57 : List (List D)) (k : Exit → St → Option R) : vexec (occupancy_At_C n) n occupancy_At_c10 ⟨51, [(0, .d (D.int .i64 a0)), (2, .d (D.int .i64 a2)), (9, .arr 1009), (10, .d (D.int .i64 w5)), (20, .d (D.sl 5 a1)), (21, .d (D.int .i64 w54)), (22, .d (D.int .i64 w55)), (23, .d (D.bool w56))], [(1009, .arr 3 1 w57)]⟩ k = occupancy_At_p10 n a0 a2 w5 a1 w54 w55 w56 w57 (fun z62 => k .ret ⟨51, [(8, .arr 100050)], [(100050, .arr 3 1 z62)]⟩) := by kernel_rfl
theorem occupancy_At_p11_eq {R : Type} (n : Nat) (a0 : Int) (a1 : List (List D)) (a2 : Int) (w5 : Int) (k : Exit → St → Option R) : vexec (occupancy_At_C n) n occupancy_At_c11 ⟨51, [(0, .d (D.int .i64 a0)), (1, .d (D.sl 5 a1)), (2, .d (D.int .i64 a2)), (9, .nil), (10, .d (D.int .i64 w5))], []⟩ k = occupancy_At_p11 n a0 a1 a2 w5 (fun w63 => k .ret ⟨51, [(8, .arr 100050)], [(100050, .arr 3 1 w63)]⟩) := by
  rw [occupancy_At_c11_eq]
  unfold occupancy_At_p11
  exact (occupancy_At_p9_eq n a0 a1 a2 w5 (seqK (occupancy_At_C n) n occupancy_At_c10 k)).trans (occupancy_At_p9_congr n a0 a1 a2 w5 (fun w54 w55 w56 w57 => occupancy_At_p10_eq n a0 a2 w5 a1 w54 w55 w56 w57 k))
theorem occupancy_At_p12_eq {R : Type} (n : Nat) (a0 : Int) (a1 : List (List D)) (a2 : Int) (a3 : Int) (k : Exit → St → Option R) : vexec (occupancy_At_C n) n occupancy_At_c12 ⟨51, [(0, .d (D.int .i64 a0)), (1, .d (D.sl 5 a1)), (2, .d (D.int .i64 a2)), (3, .d (D.int .i64 a3)), (9, .nil)], []⟩ k = occupancy_At_p12 n a0 a1 a2 a3 (fun w64 => k .ret ⟨51, [(8, .arr 100050)], [(100050, .arr 3 1 w64)]⟩) := by
  rw [occupancy_At_c12_eq]
  unfold occupancy_At_p12
  exact (occupancy_At_p4_eq n a0 a1 a2 a3 (seqK (occupancy_At_C n) n occupancy_At_c11 k)).trans (occupancy_At_p4_congr n a0 a1 a2 a3 (fun w5 => occupancy_At_p11_eq n a0 a1 a2 w5 k))
theorem occupancy_At_p13_eq {R : Type} (n : Nat) (a0 : Int) (a1 : List (List D)) (a2 : Int) (a3 : Int) (w3 : Bool) (k : Exit → St → Option R) : vexec (occupancy_At_C n) n occupancy_At_c13 ⟨51, [(0, .d (D.int .i64 a0)), (1, .d (D.sl 5 a1)), (2, .d (D.int .i64 a2)), (3, .d (D.int .i64 a3)), (16, .d (D.bool w3))], []⟩ k = occupancy_At_p13 n a0 a1 a2 a3 w3 (fun w65 => k .ret ⟨51, [(8, .arr 100050)], [(100050, .arr 3 1 w65)]⟩) := by
  rw [occupancy_At_c13_eq]
  unfold occupancy_At_p13
  exact (occupancy_At_p3_eq n a0 a1 a2 a3 w3 (seqK (occupancy_At_C n) n occupancy_At_c12 k)).trans (occupancy_At_p3_congr n a0 a1 a2 a3 w3 (occupancy_At_p12_eq n a0 a1 a2 a3 k))
theorem occupancy_At_p14_eq {R : Type} (n : Nat) (a0 : Int) (a1 : List (List D)) (a2 : Int) (a3 : Int) (k : Exit → St → Option R) : vexec (occupancy_At_C n) n occupancy_At_c14 ⟨51, [(0, .d (D.int .i64 a0)), (1, .d (D.sl 5 a1)), (2, .d (D.int .i64 a2)), (3, .d (D.int .i64 a3))], []⟩ k = occupancy_At_p14 n a0 a1 a2 a3 (k .ret ⟨51, [(8, .nil)], []⟩) (fun w66 => k .ret ⟨51, [(8, .arr 100050)], [(100050, .arr 3 1 w66)]⟩) := by
  rw [occupancy_At_c14_eq]
  unfold occupancy_At_p14
  exact (occupancy_At_p2_eq n a0 a1 a2 a3 (seqK (occupancy_At_C n) n occupancy_At_c13 k)).trans (occupancy_At_p2_congr n a0 a1 a2 a3 (rfl) (fun w3 => occupancy_At_p13_eq n a0 a1 a2 a3 w3 k))
theorem occupancy_At_p15_eq {R : Type} (n : Nat) (a0 : Int) (a1 : List (List D)) (a2 : Int) (a3 : Int) (k : Exit → St → Option R) : vexec (occupancy_At_C n) n occupancy_At_c0 ⟨51, [(0, .d (D.int .i64 a0)), (1, .d (D.sl 5 a1)), (2, .d (D.int .i64 a2)), (3, .d (D.int .i64 a3))], []⟩ k = occupancy_At_p15 n a0 a1 a2 a3 (k .ret ⟨51, [(8, .nil)], []⟩) (fun w67 => k .ret ⟨51, [(8, .arr 100050)], [(100050, .arr 3 1 w67)]⟩) := by
  rw [occupancy_At_c0_eq]
  unfold occupancy_At_p15
  exact (occupancy_At_p1_eq n a0 a1 a2 a3 (seqK (occupancy_At_C n) n occupancy_At_c14 k)).trans (occupancy_At_p1_congr n a0 a1 a2 a3 (occupancy_At_p14_eq n a0 a1 a2 a3 k))
theorem occupancy_At_vfn {R : Type} (n : Nat) (a0 : Int) (a1 : List (List D)) (a2 : Int) (a3 : Int) (K : AV → Option R) : vfn (occupancy_At_C n) n Try.f9 [.d (D.int .i64 a0), .d (D.sl 5 a1), .d (D.int .i64 a2), .d (D.int .i64 a3)] [] (retF [[1]] K) = occupancy_At n a0 a1 a2 a3 (fun r0 => K (.d (D.sl 1 r0))) :=
  (show vfn (occupancy_At_C n) n Try.f9 [.d (D.int .i64 a0), .d (D.sl 5 a1), .d (D.int .i64 a2), .d (D.int .i64 a3)] [] (retF [[1]] K) = vexec (occupancy_At_C n) n occupancy_At_c0 ⟨51, [(0, .d (D.int .i64 a0)), (1, .d (D.sl 5 a1)), (2, .d (D.int .i64 a2)), (3, .d (D.int .i64 a3))], []⟩ (retX occupancy_At_tt [.tmp 8] (retF [[1]] K)) from vfn_at (by kernel_rfl) (by kernel_rfl) rfl (by kernel_rfl) rfl (by kernel_rfl) rfl).trans ((occupancy_At_p15_eq n a0 a1 a2 a3 (retX occupancy_At_tt [.tmp 8] (retF [[1]] K))).trans (by kernel_rfl))
def occupancy_At_K : AV → Option (List (List D)) := fun av => match av with
  | .d (D.sl 1 r0) => some r0
  | _ => none
def occupancy_At_e (n : Nat) : Entry := fun _ _ g avs _ k => match avs with
  | [c0, c1, c2, c3] => prI g .i64 c0 fun a0 => prS g 5 c1 fun a1 => prI g .i64 c2 fun a2 => prI g .i64 c3 fun a3 => 
    gb g (occupancy_At n a0 a1 a2 a3 some) [] fun r => k ⟨.d (D.sl 1 r), [], []⟩
  | _ => none
theorem occupancy_At_ok (n : Nat) : EntryOK Try.prog 9 (occupancy_At_e n) := by
  intro R site g avs hl k r h
  unfold occupancy_At_e at h
  split at h
  rotate_left
  · cases h
  replace h := prI_some h
  obtain ⟨a0, h, le0⟩ := h
  replace h := prS_some h
  obtain ⟨a1, h, le1⟩ := h
  replace h := prI_some h
  obtain ⟨a2, h, le2⟩ := h
  replace h := prI_some h
  obtain ⟨a3, h, le3⟩ := h
  replace h := gb_some h
  obtain ⟨res, h, hr⟩ := h
  refine ⟨_, h, fun hg => CallOK.conv (avs' := [.d (D.int .i64 a0), .d (D.sl 5 a1), .d (D.int .i64 a2), .d (D.int .i64 a3)]) (.cons (le0 hg) (.cons (le1 hg) (.cons (le2 hg) (.cons (le3 hg) (.nil))))) (callOK_fix (K := occupancy_At_K) (res := res) (occupancy_At_VC n) (fn := Try.f9) (n := n) (by kernel_rfl) (by kernel_rfl) (by kernel_rfl) (ss := [[1]]) rfl ?_ ?_)⟩
  · exact (occupancy_At_vfn n a0 a1 a2 a3 occupancy_At_K).trans (hr hg)
  · intro x hx
    unfold occupancy_At_K at hx
    split at hx
    · injection hx with hx; subst hx; rfl
    · cases hx
end Go.Vx
/-
  keep_Same_int: the interpreter computes the pure function
-/
set_option linter.unusedVariables false
set_option linter.unusedSimpArgs false
set_option maxRecDepth 100000
namespace Go.Vx
open Go.Proofs
noncomputable def keep_Same_int_c0 : Code := bodyOf Try.f14
noncomputable def keep_Same_int_c1 : Code := cL (bodyOf Try.f14)
noncomputable def keep_Same_int_c2 : Code := cL (cR (bodyOf Try.f14))
noncomputable def keep_Same_int_c3 : Code := cL (cL (cR (cR (bodyOf Try.f14))))
noncomputable def keep_Same_int_c4 : Code := cB (cB (cR (cL (cR (cR (bodyOf Try.f14))))))
noncomputable def keep_Same_int_c5 : Code := cB (cR (cL (cR (cR (bodyOf Try.f14)))))
noncomputable def keep_Same_int_c6 : Code := cR (cL (cR (cR (bodyOf Try.f14))))
noncomputable def keep_Same_int_c7 : Code := cL (cR (cR (bodyOf Try.f14)))
noncomputable def keep_Same_int_c8 : Code := cR (cR (cR (bodyOf Try.f14)))
noncomputable def keep_Same_int_c9 : Code := cR (cR (bodyOf Try.f14))
noncomputable def keep_Same_int_c10 : Code := cR (bodyOf Try.f14)
theorem keep_Same_int_c5_eq : keep_Same_int_c5 = .loop keep_Same_int_c4 := by kernel_rfl
theorem keep_Same_int_c6_eq : keep_Same_int_c6 = .block 0 keep_Same_int_c5 := by kernel_rfl
theorem keep_Same_int_c7_eq : keep_Same_int_c7 = .seq keep_Same_int_c3 keep_Same_int_c6 := by kernel_rfl
theorem keep_Same_int_c9_eq : keep_Same_int_c9 = .seq keep_Same_int_c7 keep_Same_int_c8 := by kernel_rfl
theorem keep_Same_int_c10_eq : keep_Same_int_c10 = .seq keep_Same_int_c2 keep_Same_int_c9 := by kernel_rfl
theorem keep_Same_int_c0_eq : keep_Same_int_c0 = .seq keep_Same_int_c1 keep_Same_int_c10 := by kernel_rfl
def keep_Same_int_tt : TT := [(3, ⟨.int .i64, 1, 8, [.int .i64 0], [.int .i64 0], [], none⟩), (22, ⟨.sl 3 1, 1, 24, [.slice none 0 0], [.sl 1 []], [], none⟩)]
theorem keep_Same_int_tt_eq : mkTT Try.prog [3, 22] = keep_Same_int_tt := by kernel_rfl
def keep_Same_int_cfg : List (Nat × Cfg) := [(0, ⟨[0, 1], [], [], [], []⟩), (1, ⟨[0, 1, 10], [], [], [], []⟩), (2, ⟨[4], [], [], [], []⟩), (3, ⟨[0, 1, 12, 13], [], [], [], []⟩), (4, ⟨[0, 1, 12, 13, 14], [], [], [], []⟩), (5, ⟨[0, 1, 5, 12, 13], [], [], [], []⟩), (6, ⟨[0, 1, 12, 13, 24], [], [], [], []⟩), (7, ⟨[4], [], [], [], []⟩), (8, ⟨[0, 1, 12, 13], [], [], [], []⟩), (9, ⟨[4], [], [], [], []⟩)]
def keep_Same_int_C (n : Nat) : VC := ⟨specOf [], keep_Same_int_tt, keep_Same_int_cfg⟩
theorem keep_Same_int_ents (n : Nat) : EntsOK Try.prog [] := trivial
theorem keep_Same_int_VC (n : Nat) : VCOk Try.prog (keep_Same_int_C n) := ⟨specOf_ok (keep_Same_int_ents n), (keep_Same_int_tt_eq ▸ mkTT_ok _ : TOk Try.prog keep_Same_int_tt), by kernel_rfl⟩
theorem keep_Same_int_p1_congr {R : Type} (n : Nat) (a0 : List (List D)) (a1 : List (List D)) {k0 kk0 : Option R} (hq0 : k0 = kk0) : keep_Same_int_p1 n a0 a1 k0 = keep_Same_int_p1 n a0 a1 kk0 := by
  obtain rfl : k0 = kk0 := hq0
  rfl
theorem keep_Same_int_p2_congr {R : Type} (n : Nat) (a0 : List (List D)) (a1 : List (List D)) {k0 kk0 : Option R} {k1 kk1 : Bool → Option R} (hq0 : k0 = kk0) (hq1 : ∀ x0, k1 x0 = kk1 x0) : keep_Same_int_p2 n a0 a1 k0 k1 = keep_Same_int_p2 n a0 a1 kk0 kk1 := by
  obtain rfl : k0 = kk0 := hq0
  obtain rfl : k1 = kk1 := funext fun x0 => hq1 x0
  rfl
theorem keep_Same_int_p3_congr {R : Type} (n : Nat) (a0 : List (List D)) (a1 : List (List D)) (w2 : Bool) {k0 kk0 : Int → Option R} (hq0 : ∀ x0, k0 x0 = kk0 x0) : keep_Same_int_p3 n a0 a1 w2 k0 = keep_Same_int_p3 n a0 a1 w2 kk0 := by
  obtain rfl : k0 = kk0 := funext fun x0 => hq0 x0
  rfl
theorem keep_Same_int_p4_congr {R : Type} (n : Nat) (a0 : List (List D)) (a1 : List (List D)) (w4 : Int) (h8 : Int) {k0 kk0 : Option R} {k1 kk1 : Int → Option R} {k2 kk2 : Bool → Option R} (hq0 : k0 = kk0) (hq1 : ∀ x0, k1 x0 = kk1 x0) (hq2 : ∀ x0, k2 x0 = kk2 x0) : keep_Same_int_p4 n a0 a1 w4 h8 k0 k1 k2 = keep_Same_int_p4 n a0 a1 w4 h8 kk0 kk1 kk2 := by
  obtain rfl : k0 = kk0 := hq0
  obtain rfl : k1 = kk1 := funext fun x0 => hq1 x0
  obtain rfl : k2 = kk2 := funext fun x0 => hq2 x0
  rfl
theorem keep_Same_int_p5_congr {R : Type} (n : Nat) (a0 : List (List D)) (a1 : List (List D)) (w4 : Int) {k0 kk0 : Option R} {k1 kk1 : Int → Bool → Option R} (hq0 : k0 = kk0) (hq1 : ∀ x0 x1, k1 x0 x1 = kk1 x0 x1) : keep_Same_int_p5 n a0 a1 w4 k0 k1 = keep_Same_int_p5 n a0 a1 w4 kk0 kk1 := by
  obtain rfl : k0 = kk0 := hq0
  obtain rfl : k1 = kk1 := funext fun x0 => funext fun x1 => hq1 x0 x1
  rfl
theorem keep_Same_int_p6_congr {R : Type} (n : Nat) (a0 : List (List D)) (a1 : List (List D)) (w4 : Int) {k0 kk0 : Option R} {k1 kk1 : Int → Bool → Option R} (hq0 : k0 = kk0) (hq1 : ∀ x0 x1, k1 x0 x1 = kk1 x0 x1) : keep_Same_int_p6 n a0 a1 w4 k0 k1 = keep_Same_int_p6 n a0 a1 w4 kk0 kk1 := by
  obtain rfl : k0 = kk0 := hq0
  obtain rfl : k1 = kk1 := funext fun x0 => funext fun x1 => hq1 x0 x1
  rfl
theorem keep_Same_int_p7_congr {R : Type} (n : Nat) (a0 : List (List D)) (a1 : List (List D)) (w2 : Bool) {k0 kk0 : Option R} {k1 kk1 : Int → Int → Bool → Option R} (hq0 : k0 = kk0) (hq1 : ∀ x0 x1 x2, k1 x0 x1 x2 = kk1 x0 x1 x2) : keep_Same_int_p7 n a0 a1 w2 k0 k1 = keep_Same_int_p7 n a0 a1 w2 kk0 kk1 := by
  obtain rfl : k0 = kk0 := hq0
  obtain rfl : k1 = kk1 := funext fun x0 => funext fun x1 => funext fun x2 => hq1 x0 x1 x2
  rfl
theorem keep_Same_int_p8_congr {R : Type} (n : Nat) (a0 : List (List D)) (a1 : List (List D)) (w31 : Int) (w32 : Int) (w33 : Bool) {k0 kk0 : Option R} (hq0 : k0 = kk0) : keep_Same_int_p8 n a0 a1 w31 w32 w33 k0 = keep_Same_int_p8 n a0 a1 w31 w32 w33 kk0 := by
  obtain rfl : k0 = kk0 := hq0
  rfl
theorem keep_Same_int_p9_congr {R : Type} (n : Nat) (a0 : List (List D)) (a1 : List (List D)) (w2 : Bool) {k0 kk0 : Bool → Option R} (hq0 : ∀ x0, k0 x0 = kk0 x0) : keep_Same_int_p9 n a0 a1 w2 k0 = keep_Same_int_p9 n a0 a1 w2 kk0 := by
  obtain rfl : k0 = kk0 := funext fun x0 => hq0 x0
  rfl
theorem keep_Same_int_p10_congr {R : Type} (n : Nat) (a0 : List (List D)) (a1 : List (List D)) {k0 kk0 : Bool → Option R} (hq0 : ∀ x0, k0 x0 = kk0 x0) : keep_Same_int_p10 n a0 a1 k0 = keep_Same_int_p10 n a0 a1 kk0 := by
  obtain rfl : k0 = kk0 := funext fun x0 => hq0 x0
  rfl
theorem keep_Same_int_p11_congr {R : Type} (n : Nat) (a0 : List (List D)) (a1 : List (List D)) {k0 kk0 : Bool → Option R} (hq0 : ∀ x0, k0 x0 = kk0 x0) : keep_Same_int_p11 n a0 a1 k0 = keep_Same_int_p11 n a0 a1 kk0 := by
  obtain rfl : k0 = kk0 := funext fun x0 => hq0 x0
  rfl
theorem keep_Same_int_p1_eq {R : Type} (n : Nat) (a0 : List (List D)) (a1 : List (List D)) (k : Exit → St → Option R) : vexec (keep_Same_int_C n) n keep_Same_int_c1 ⟨26, [(0, .d (D.sl 1 a0)), (1, .d (D.sl 1 a1))], []⟩ k = keep_Same_int_p1 n a0 a1 (k .normal ⟨26, [(0, .d (D.sl 1 a0)), (1, .d (D.sl 1 a1))], []⟩) := by kernel_rfl
theorem keep_Same_int_p2_eq {R : Type} (n : Nat) (a0 : List (List D)) (a1 : List (List D)) (k : Exit → St → Option R) : vexec (keep_Same_int_C n) n keep_Same_int_c2 ⟨26, [(0, .d (D.sl 1 a0)), (1, .d (D.sl 1 a1))], []⟩ k = keep_Same_int_p2 n a0 a1 (k .ret ⟨26, [(4, .d (D.bool false))], []⟩) (fun z1 => k .normal ⟨26, [(0, .d (D.sl 1 a0)), (1, .d (D.sl 1 a1)), (10, .d (D.bool z1))], []⟩) := by kernel_rfl
theorem keep_Same_int_p3_eq {R : Type} (n : Nat) (a0 : List (List D)) (a1 : List (List D)) (w2 : Bool) (k : Exit → St → Option R) : vexec (keep_Same_int_C n) n keep_Same_int_c3 ⟨26, [(0, .d (D.sl 1 a0)), (1, .d (D.sl 1 a1)), (10, .d (D.bool w2))], []⟩ k = keep_Same_int_p3 n a0 a1 w2 (fun z3 => k .normal ⟨26, [(0, .d (D.sl 1 a0)), (1, .d (D.sl 1 a1)), (12, .d (D.int .i64 z3)), (13, .d (D.int .i64 (0 : Int)))], []⟩) := by kernel_rfl
theorem keep_Same_int_p4_eq {R : Type} (n : Nat) (a0 : List (List D)) (a1 : List (List D)) (w4 : Int) (h8 : Int) (k : Exit → St → Option R) : vexec (keep_Same_int_C n) n keep_Same_int_c4 ⟨26, [(0, .d (D.sl 1 a0)), (1, .d (D.sl 1 a1)), (12, .d (D.int .i64 w4)), (13, .d (D.int .i64 h8))], []⟩ k = keep_Same_int_p4 n a0 a1 w4 h8 (k .ret ⟨26, [(4, .d (D.bool false))], []⟩) (fun z23 => k .normal ⟨26, [(0, .d (D.sl 1 a0)), (1, .d (D.sl 1 a1)), (12, .d (D.int .i64 w4)), (13, .d (D.int .i64 z23))], []⟩) (fun z24 => k (.exit 0) ⟨26, [(0, .d (D.sl 1 a0)), (1, .d (D.sl 1 a1)), (12, .d (D.int .i64 w4)), (13, .d (D.int .i64 h8)), (14, .d (D.bool z24))], []⟩) := by kernel_rfl
theorem keep_Same_int_r5_eq {R : Type} (n : Nat) (a0 : List (List D)) (a1 : List (List D)) (w4 : Int) (k : Exit → St → Option R) : ∀ (m : Nat) (h8 : Int), loopN (vexec (keep_Same_int_C n) n keep_Same_int_c4) m ⟨26, [(0, .d (D.sl 1 a0)), (1, .d (D.sl 1 a1)), (12, .d (D.int .i64 w4)), (13, .d (D.int .i64 h8))], []⟩ k = keep_Same_int_r5 n a0 a1 w4 (k .ret ⟨26, [(4, .d (D.bool false))], []⟩) (fun h8 w26 => k (.exit 0) ⟨26, [(0, .d (D.sl 1 a0)), (1, .d (D.sl 1 a1)), (12, .d (D.int .i64 w4)), (13, .d (D.int .i64 h8)), (14, .d (D.bool w26))], []⟩) m h8
  | 0, _ => rfl
  | m + 1, h8 => (keep_Same_int_p4_eq n a0 a1 w4 h8 (loopK (vexec (keep_Same_int_C n) n keep_Same_int_c4) m k)).trans (keep_Same_int_p4_congr n a0 a1 w4 h8 (rfl) (fun w25 => keep_Same_int_r5_eq n a0 a1 w4 k m w25) (fun w26 => rfl))
theorem keep_Same_int_p5_eq {R : Type} (n : Nat) (a0 : List (List D)) (a1 : List (List D)) (w4 : Int) (k : Exit → St → Option R) : vexec (keep_Same_int_C n) n keep_Same_int_c5 ⟨26, [(0, .d (D.sl 1 a0)), (1, .d (D.sl 1 a1)), (12, .d (D.int .i64 w4)), (13, .d (D.int .i64 (0 : Int)))], []⟩ k = keep_Same_int_p5 n a0 a1 w4 (k .ret ⟨26, [(4, .d (D.bool false))], []⟩) (fun h8 w26 => k (.exit 0) ⟨26, [(0, .d (D.sl 1 a0)), (1, .d (D.sl 1 a1)), (12, .d (D.int .i64 w4)), (13, .d (D.int .i64 h8)), (14, .d (D.bool w26))], []⟩) := by
  rw [keep_Same_int_c5_eq]
  exact keep_Same_int_r5_eq n a0 a1 w4 k n (0 : Int)
theorem keep_Same_int_p6_eq {R : Type} (n : Nat) (a0 : List (List D)) (a1 : List (List D)) (w4 : Int) (k : Exit → St → Option R) : vexec (keep_Same_int_C n) n keep_Same_int_c6 ⟨26, [(0, .d (D.sl 1 a0)), (1, .d (D.sl 1 a1)), (12, .d (D.int .i64 w4)), (13, .d (D.int .i64 (0 : Int)))], []⟩ k = keep_Same_int_p6 n a0 a1 w4 (k .ret ⟨26, [(4, .d (D.bool false))], []⟩) (fun w27 w28 => k .normal ⟨26, [(0, .d (D.sl 1 a0)), (1, .d (D.sl 1 a1)), (12, .d (D.int .i64 w4)), (13, .d (D.int .i64 w27)), (14, .d (D.bool w28))], []⟩) := by
  rw [keep_Same_int_c6_eq]
  unfold keep_Same_int_p6
  exact (keep_Same_int_p5_eq n a0 a1 w4 (blockK 0 k)).trans (keep_Same_int_p5_congr n a0 a1 w4 (rfl) (fun w27 w28 => rfl))
theorem keep_Same_int_p7_eq {R : Type} (n : Nat) (a0 : List (List D)) (a1 : List (List D)) (w2 : Bool) (k : Exit → St → Option R) : vexec (keep_Same_int_C n) n keep_Same_int_c7 ⟨26, [(0, .d (D.sl 1 a0)), (1, .d (D.sl 1 a1)), (10, .d (D.bool w2))], []⟩ k = keep_Same_int_p7 n a0 a1 w2 (k .ret ⟨26, [(4, .d (D.bool false))], []⟩) (fun w4 w29 w30 => k .normal ⟨26, [(0, .d (D.sl 1 a0)), (1, .d (D.sl 1 a1)), (12, .d (D.int .i64 w4)), (13, .d (D.int .i64 w29)), (14, .d (D.bool w30))], []⟩) := by
  rw [keep_Same_int_c7_eq]
  unfold keep_Same_int_p7
  exact (keep_Same_int_p3_eq n a0 a1 w2 (seqK (keep_Same_int_C n) n keep_Same_int_c6 k)).trans (keep_Same_int_p3_congr n a0 a1 w2 (fun w4 => keep_Same_int_p6_eq n a0 a1 w4 k))
theorem keep_Same_int_p8_eq {R : Type} (n : Nat) (a0 : List (List D)) (a1 : List (List D)) (w31 : Int) (w32 : Int) (w33 : Bool) (k : Exit → St → Option R) : vexec (keep_Same_int_C n) n keep_Same_int_c8 ⟨26, [(0, .d (D.sl 1 a0)), (1, .d (D.sl 1 a1)), (12, .d (D.int .i64 w31)), (13, .d (D.int .i64 w32)), (14, .d (D.bool w33))], []⟩ k = keep_Same_int_p8 n a0 a1 w31 w32 w33 (k .ret ⟨26, [(4, .d (D.bool true))], []⟩) := by kernel_rfl
theorem keep_Same_int_p9_eq {R : Type} (n : Nat) (a0 : List (List D)) (a1 : List (List D)) (w2 : Bool) (k : Exit → St → Option R) : vexec (keep_Same_int_C n) n keep_Same_int_c9 ⟨26, [(0, .d (D.sl 1 a0)), (1, .d (D.sl 1 a1)), (10, .d (D.bool w2))], []⟩ k = keep_Same_int_p9 n a0 a1 w2 (fun z34 => k .ret ⟨26, [(4, .d (D.bool z34))], []⟩) := by
  rw [keep_Same_int_c9_eq]
  unfold keep_Same_int_p9
  exact (keep_Same_int_p7_eq n a0 a1 w2 (seqK (keep_Same_int_C n) n keep_Same_int_c8 k)).trans (keep_Same_int_p7_congr n a0 a1 w2 (rfl) (fun w31 w32 w33 => keep_Same_int_p8_eq n a0 a1 w31 w32 w33 k))
theorem keep_Same_int_p10_eq {R : Type} (n : Nat) (a0 : List (List D)) (a1 : List (List D)) (k : Exit → St → Option R) : vexec (keep_Same_int_C n) n keep_Same_int_c10 ⟨26, [(0, .d (D.sl 1 a0)), (1, .d (D.sl 1 a1))], []⟩ k = keep_Same_int_p10 n a0 a1 (fun z36 => k .ret ⟨26, [(4, .d (D.bool z36))], []⟩) := by
  rw [keep_Same_int_c10_eq]
  unfold keep_Same_int_p10
  exact (keep_Same_int_p2_eq n a0 a1 (seqK (keep_Same_int_C n) n keep_Same_int_c9 k)).trans (keep_Same_int_p2_congr n a0 a1 (rfl) (fun w2 => keep_Same_int_p9_eq n a0 a1 w2 k))
theorem keep_Same_int_p11_eq {R : Type} (n : Nat) (a0 : List (List D)) (a1 : List (List D)) (k : Exit → St → Option R) : vexec (keep_Same_int_C n) n keep_Same_int_c0 ⟨26, [(0, .d (D.sl 1 a0)), (1, .d (D.sl 1 a1))], []⟩ k = keep_Same_int_p11 n a0 a1 (fun w37 => k .ret ⟨26, [(4, .d (D.bool w37))], []⟩) := by
  rw [keep_Same_int_c0_eq]
  unfold keep_Same_int_p11
  exact (keep_Same_int_p1_eq n a0 a1 (seqK (keep_Same_int_C n) n keep_Same_int_c10 k)).trans (keep_Same_int_p1_congr n a0 a1 (keep_Same_int_p10_eq n a0 a1 k))
theorem keep_Same_int_vfn {R : Type} (n : Nat) (a0 : List (List D)) (a1 : List (List D)) (K : AV → Option R) : vfn (keep_Same_int_C n) n Try.f14 [.d (D.sl 1 a0), .d (D.sl 1 a1)] [] (retF [[0]] K) = keep_Same_int n a0 a1 (fun r0 => K (.d (D.bool r0))) :=
  (show vfn (keep_Same_int_C n) n Try.f14 [.d (D.sl 1 a0), .d (D.sl 1 a1)] [] (retF [[0]] K) = vexec (keep_Same_int_C n) n keep_Same_int_c0 ⟨26, [(0, .d (D.sl 1 a0)), (1, .d (D.sl 1 a1))], []⟩ (retX keep_Same_int_tt [.tmp 4] (retF [[0]] K)) from vfn_at (by kernel_rfl) (by kernel_rfl) rfl (by kernel_rfl) rfl (by kernel_rfl) rfl).trans ((keep_Same_int_p11_eq n a0 a1 (retX keep_Same_int_tt [.tmp 4] (retF [[0]] K))).trans (by kernel_rfl))
def keep_Same_int_K : AV → Option (Bool) := fun av => match av with
  | .d (D.bool r0) => some r0
  | _ => none
def keep_Same_int_e (n : Nat) : Entry := fun _ _ g avs _ k => match avs with
  | [c0, c1] => prS g 1 c0 fun a0 => prS g 1 c1 fun a1 => 
    gb g (keep_Same_int n a0 a1 some) false fun r => k ⟨.d (D.bool r), [], []⟩
  | _ => none
theorem keep_Same_int_ok (n : Nat) : EntryOK Try.prog 14 (keep_Same_int_e n) := by
  intro R site g avs hl k r h
  unfold keep_Same_int_e at h
  split at h
  rotate_left
  · cases h
  replace h := prS_some h
  obtain ⟨a0, h, le0⟩ := h
  replace h := prS_some h
  obtain ⟨a1, h, le1⟩ := h
  replace h := gb_some h
  obtain ⟨res, h, hr⟩ := h
  refine ⟨_, h, fun hg => CallOK.conv (avs' := [.d (D.sl 1 a0), .d (D.sl 1 a1)]) (.cons (le0 hg) (.cons (le1 hg) (.nil))) (callOK_fix (K := keep_Same_int_K) (res := res) (keep_Same_int_VC n) (fn := Try.f14) (n := n) (by kernel_rfl) (by kernel_rfl) (by kernel_rfl) (ss := [[0]]) rfl ?_ ?_)⟩
  · exact (keep_Same_int_vfn n a0 a1 keep_Same_int_K).trans (hr hg)
  · intro x hx
    unfold keep_Same_int_K at hx
    split at hx
    · injection hx with hx; subst hx; rfl
    · cases hx
end Go.Vx
/-
  law19_awake: the interpreter computes the pure function
-/
set_option linter.unusedVariables false
set_option linter.unusedSimpArgs false
set_option maxRecDepth 100000
namespace Go.Vx
open Go.Proofs
noncomputable def law19_awake_c0 : Code := bodyOf Try.f10
def law19_awake_tt : TT := [(3, ⟨.int .i64, 1, 8, [.int .i64 0], [.int .i64 0], [], none⟩), (22, ⟨.sl 3 1, 1, 24, [.slice none 0 0], [.sl 1 []], [], none⟩), (24, ⟨.sl 31 5, 1, 24, [.slice none 0 0], [.sl 5 []], [], none⟩), (31, ⟨.struct, 5, 40, [.int .i64 0, .int .i64 0, .int .i64 0, .int .i64 0, .int .i64 0], [.int .i64 0, .int .i64 0, .int .i64 0, .int .i64 0, .int .i64 0], [(0, 3), (1, 3), (2, 3), (3, 3), (4, 3)], some [.int .i64, .int .i64, .int .i64, .int .i64, .int .i64]⟩)]
theorem law19_awake_tt_eq : mkTT Try.prog [3, 22, 24, 31] = law19_awake_tt := by kernel_rfl
def law19_awake_cfg : List (Nat × Cfg) := [(0, ⟨[], [], [], [], []⟩), (1, ⟨[1], [], [], [], [3]⟩), (2, ⟨[0], [], [], [], []⟩)]
def law19_awake_C (n : Nat) : VC := ⟨specOf [(11, occupancy_Free_e n), (9, occupancy_At_e n), (14, keep_Same_int_e n)], law19_awake_tt, law19_awake_cfg⟩
theorem law19_awake_ents (n : Nat) : EntsOK Try.prog [(11, occupancy_Free_e n), (9, occupancy_At_e n), (14, keep_Same_int_e n)] := ⟨occupancy_Free_ok n, ⟨occupancy_At_ok n, ⟨keep_Same_int_ok n, trivial⟩⟩⟩
theorem law19_awake_VC (n : Nat) : VCOk Try.prog (law19_awake_C n) := ⟨specOf_ok (law19_awake_ents n), (law19_awake_tt_eq ▸ mkTT_ok _ : TOk Try.prog law19_awake_tt), by kernel_rfl⟩
theorem law19_awake_p1_congr {R : Type} (n : Nat)  {k0 kk0 : Bool → Option R} (hq0 : ∀ x0, k0 x0 = kk0 x0) : law19_awake_p1 n  k0 = law19_awake_p1 n  kk0 := by
  obtain rfl : k0 = kk0 := funext fun x0 => hq0 x0
  rfl
theorem law19_awake_p1_eq {R : Type} (n : Nat)  (k : Exit → St → Option R) : vexec (law19_awake_C n) n law19_awake_c0 ⟨12, [], []⟩ k = law19_awake_p1 n  (fun z4 => k .ret ⟨12, [(0, .d (D.bool z4))], []⟩) := by kernel_rfl
theorem law19_awake_vfn {R : Type} (n : Nat)  (K : AV → Option R) : vfn (law19_awake_C n) n Try.f10 [] [] (retF [[0]] K) = law19_awake n  (fun r0 => K (.d (D.bool r0))) :=
  (show vfn (law19_awake_C n) n Try.f10 [] [] (retF [[0]] K) = vexec (law19_awake_C n) n law19_awake_c0 ⟨12, [], []⟩ (retX law19_awake_tt [.tmp 0] (retF [[0]] K)) from vfn_at (by kernel_rfl) (by kernel_rfl) rfl (by kernel_rfl) rfl (by kernel_rfl) rfl).trans ((law19_awake_p1_eq n  (retX law19_awake_tt [.tmp 0] (retF [[0]] K))).trans (by kernel_rfl))
def law19_awake_K : AV → Option (Bool) := fun av => match av with
  | .d (D.bool r0) => some r0
  | _ => none
def law19_awake_e (n : Nat) : Entry := fun _ _ g avs _ k => match avs with
  | [] => 
    gb g (law19_awake n  some) false fun r => k ⟨.d (D.bool r), [], []⟩
  | _ => none
theorem law19_awake_ok (n : Nat) : EntryOK Try.prog 10 (law19_awake_e n) := by
  intro R site g avs hl k r h
  unfold law19_awake_e at h
  split at h
  rotate_left
  · cases h
  replace h := gb_some h
  obtain ⟨res, h, hr⟩ := h
  refine ⟨_, h, fun hg => CallOK.conv (avs' := []) (.nil) (callOK_fix (K := law19_awake_K) (res := res) (law19_awake_VC n) (fn := Try.f10) (n := n) (by kernel_rfl) (by kernel_rfl) (by kernel_rfl) (ss := [[0]]) rfl ?_ ?_)⟩
  · exact (law19_awake_vfn n  law19_awake_K).trans (hr hg)
  · intro x hx
    unfold law19_awake_K at hx
    split at hx
    · injection hx with hx; subst hx; rfl
    · cases hx
end Go.Vx
/-
  keep_From: the interpreter computes the pure function
-/
set_option linter.unusedVariables false
set_option linter.unusedSimpArgs false
set_option maxRecDepth 100000
namespace Go.Vx
open Go.Proofs
noncomputable def keep_From_c0 : Code := bodyOf Try.f17
def keep_From_tt : TT := [(22, ⟨.sl 3 1, 1, 24, [.slice none 0 0], [.sl 1 []], [], none⟩), (49, ⟨.struct, 2, 32, [.slice none 0 0, .int .i64 0], [.sl 1 [], .int .i64 0], [(0, 22), (1, 3)], none⟩)]
theorem keep_From_tt_eq : mkTT Try.prog [22, 49] = keep_From_tt := by kernel_rfl
def keep_From_cfg : List (Nat × Cfg) := [(0, ⟨[0], [], [], [], []⟩), (1, ⟨[2], [(5, 5)], [], [], []⟩)]
def keep_From_C (n : Nat) : VC := ⟨specOf [], keep_From_tt, keep_From_cfg⟩
theorem keep_From_ents (n : Nat) : EntsOK Try.prog [] := trivial
theorem keep_From_VC (n : Nat) : VCOk Try.prog (keep_From_C n) := ⟨specOf_ok (keep_From_ents n), (keep_From_tt_eq ▸ mkTT_ok _ : TOk Try.prog keep_From_tt), by kernel_rfl⟩
theorem keep_From_p1_congr {R : Type} (n : Nat) (a0 : List (List D)) {k0 kk0 : Option R} (hq0 : k0 = kk0) : keep_From_p1 n a0 k0 = keep_From_p1 n a0 kk0 := by
  obtain rfl : k0 = kk0 := hq0
  rfl
theorem keep_From_p1_eq {R : Type} (n : Nat) (a0 : List (List D)) (k : Exit → St → Option R) : vexec (keep_From_C n) n keep_From_c0 ⟨6, [(0, .d (D.sl 1 a0))], []⟩ k = keep_From_p1 n a0 (k .ret ⟨6, [(2, .ptr 5 0)], [(5, .box [.d (D.sl 1 a0), .d (D.int .i64 (0 : Int))])]⟩) := by kernel_rfl
def keep_From_Ko : AV → List (Nat × Ob) → Option ((List (List D)) × Int) := fun av H => (look H 5).bind fun o0 => match av, o0 with
  | .ptr p0 p1, .box [.d (D.sl 1 r0), .d (D.int .i64 r1)] => bif Nat.beq p0 5 && (Nat.beq p1 0) then some (r0, r1) else none
  | _, _ => none
theorem keep_From_vfo (n : Nat) (a0 : List (List D)) : vfn (keep_From_C n) n Try.f17 [.d (D.sl 1 a0)] [] keep_From_Ko = keep_From n a0 (fun r0 r1 => some (r0, r1)) :=
  (show vfn (keep_From_C n) n Try.f17 [.d (D.sl 1 a0)] [] keep_From_Ko = vexec (keep_From_C n) n keep_From_c0 ⟨6, [(0, .d (D.sl 1 a0))], []⟩ (retX keep_From_tt [.tmp 2] keep_From_Ko) from vfn_at (by kernel_rfl) (by kernel_rfl) rfl (by kernel_rfl) rfl (by kernel_rfl) rfl).trans ((keep_From_p1_eq n a0 (retX keep_From_tt [.tmp 2] keep_From_Ko)).trans (by kernel_rfl))
def keep_From_o (n : Nat) : Entry := fun _ site g avs hl k => match avs with
  | [c0] => prS g 1 c0 fun a0 => 
    bif newsOk hl [] [(5, (site + 100000))] then gb g (keep_From n a0 (fun r0 r1 => some (r0, r1))) ([], 0) fun r => k ⟨.ptr (site + 100000) 0, [((site + 100000), some (.box [.d (D.sl 1 r.1), .d (D.int .i64 r.2)]))], []⟩ else none
  | _ => none
theorem keep_From_oo (n : Nat) : EntryOK Try.prog 17 (keep_From_o n) := by
  intro R site g avs hl k r h
  unfold keep_From_o at h
  split at h
  rotate_left
  · cases h
  replace h := prS_some h
  obtain ⟨a0, h, le0⟩ := h
  replace h := bif_some h
  obtain ⟨hc, h⟩ := h
  replace h := gb_some h
  obtain ⟨res, h, hr⟩ := h
  refine ⟨_, h, fun hg => CallOK.conv (avs' := [.d (D.sl 1 a0)]) (.cons (le0 hg) (.nil)) (callOK_own (K := keep_From_Ko) (res := res) (keep_From_VC n) (fn := Try.f17) (n := n) (by kernel_rfl) (by kernel_rfl) (by kernel_rfl) (ρ := []) (ν := [(5, (site + 100000))]) (avs' := [.d (D.sl 1 a0)]) (H := []) rfl rfl rfl rfl hc (trivial) rfl rfl ?_ ?_)⟩
  · exact (keep_From_vfo n a0).trans (hr hg)
  · intro av H' hx
    unfold keep_From_Ko at hx
    replace hx := Option.bind_eq_some_iff.1 hx
    obtain ⟨o0, ho0, hx⟩ := hx
    split at hx
    rotate_left
    · cases hx
    replace hx := bif_some hx
    obtain ⟨hck, hx⟩ := hx
    simp only [Bool.and_eq_true] at hck
    obtain ⟨ek0, ek1⟩ := hck
    have ek0 := Nat.eq_of_beq_eq_true ek0
    subst ek0
    have ek1 := Nat.eq_of_beq_eq_true ek1
    subst ek1
    injection hx with hx
    subst hx
    refine ⟨rfl, ?_, ⟨by rw [ho0]; rfl, trivial⟩, trivial⟩
    simp only [List.cons_append, List.nil_append, outWr, ho0, Option.map_some]
    rfl
end Go.Vx
/-
  keep_Source_Next: the interpreter computes the pure function
-/
set_option linter.unusedVariables false
set_option linter.unusedSimpArgs false
set_option maxRecDepth 100000
namespace Go.Vx
open Go.Proofs
noncomputable def keep_Source_Next_c0 : Code := bodyOf Try.f18
def keep_Source_Next_tt : TT := [(3, ⟨.int .i64, 1, 8, [.int .i64 0], [.int .i64 0], [], none⟩), (22, ⟨.sl 3 1, 1, 24, [.slice none 0 0], [.sl 1 []], [], none⟩), (49, ⟨.struct, 2, 32, [.slice none 0 0, .int .i64 0], [.sl 1 [], .int .i64 0], [(0, 22), (1, 3)], none⟩)]
theorem keep_Source_Next_tt_eq : mkTT Try.prog [3, 22, 49] = keep_Source_Next_tt := by kernel_rfl
def keep_Source_Next_cfg : List (Nat × Cfg) := [(0, ⟨[0, 1], [(1000000, 1000000)], [], [], []⟩), (1, ⟨[0, 1, 14], [(1000000, 1000000)], [], [], []⟩), (2, ⟨[4], [(1000000, 1000000)], [], [], []⟩), (3, ⟨[0, 1], [(1000000, 1000000)], [], [], []⟩), (4, ⟨[4], [(1000000, 1000000)], [], [], []⟩)]
def keep_Source_Next_C (n : Nat) : VC := ⟨specOf [(7, keep_Pick_e n)], keep_Source_Next_tt, keep_Source_Next_cfg⟩
theorem keep_Source_Next_ents (n : Nat) : EntsOK Try.prog [(7, keep_Pick_e n)] := ⟨keep_Pick_ok n, trivial⟩
theorem keep_Source_Next_VC (n : Nat) : VCOk Try.prog (keep_Source_Next_C n) := ⟨specOf_ok (keep_Source_Next_ents n), (keep_Source_Next_tt_eq ▸ mkTT_ok _ : TOk Try.prog keep_Source_Next_tt), by kernel_rfl⟩
theorem keep_Source_Next_p1_congr {R : Type} (n : Nat) (a1 : Int) (a0_0 : List (List D)) (a0_1 : Int) {k0 kk0 : Int → Int → Option R} (hq0 : ∀ x0 x1, k0 x0 x1 = kk0 x0 x1) : keep_Source_Next_p1 n a1 a0_0 a0_1 k0 = keep_Source_Next_p1 n a1 a0_0 a0_1 kk0 := by
  obtain rfl : k0 = kk0 := funext fun x0 => funext fun x1 => hq0 x0 x1
  rfl
theorem keep_Source_Next_p1_eq {R : Type} (n : Nat) (a1 : Int) (a0_0 : List (List D)) (a0_1 : Int) (k : Exit → St → Option R) : vexec (keep_Source_Next_C n) n keep_Source_Next_c0 ⟨35, [(0, .ptr 1000000 0), (1, .d (D.int .i64 a1))], [(1000000, .box [.d (D.sl 1 a0_0), .d (D.int .i64 a0_1)])]⟩ k = keep_Source_Next_p1 n a1 a0_0 a0_1 (fun z5 z6 => k .ret ⟨35, [(4, .d (D.int .i64 z5))], [(1000000, .box [.d (D.sl 1 a0_0), .d (D.int .i64 z6)])]⟩) := by kernel_rfl
def keep_Source_Next_Ko : AV → List (Nat × Ob) → Option (Int × (List (List D)) × Int) := fun av H => (look H 1000000).bind fun o0 => match av, o0 with
  | .d (D.int .i64 r0), .box [.d (D.sl 1 r1), .d (D.int .i64 r2)] => some (r0, r1, r2)
  | _, _ => none
theorem keep_Source_Next_vfo (n : Nat) (a0_0 : List (List D)) (a0_1 : Int) (a1 : Int) : vfn (keep_Source_Next_C n) n Try.f18 [.ptr 1000000 0, .d (D.int .i64 a1)] [(1000000, .box [.d (D.sl 1 a0_0), .d (D.int .i64 a0_1)])] keep_Source_Next_Ko = keep_Source_Next n a0_0 a0_1 a1 (fun r0 r1 r2 => some (r0, r1, r2)) :=
  (show vfn (keep_Source_Next_C n) n Try.f18 [.ptr 1000000 0, .d (D.int .i64 a1)] [(1000000, .box [.d (D.sl 1 a0_0), .d (D.int .i64 a0_1)])] keep_Source_Next_Ko = vexec (keep_Source_Next_C n) n keep_Source_Next_c0 ⟨35, [(0, .ptr 1000000 0), (1, .d (D.int .i64 a1))], [(1000000, .box [.d (D.sl 1 a0_0), .d (D.int .i64 a0_1)])]⟩ (retX keep_Source_Next_tt [.tmp 4] keep_Source_Next_Ko) from vfn_at (by kernel_rfl) (by kernel_rfl) rfl (by kernel_rfl) rfl (by kernel_rfl) rfl).trans ((keep_Source_Next_p1_eq n a1 a0_0 a0_1 (retX keep_Source_Next_tt [.tmp 4] keep_Source_Next_Ko)).trans (by kernel_rfl))
def keep_Source_Next_o (n : Nat) : Entry := fun _ site g avs hl k => match avs with
  | [c0, c1] => 
    prP hl c0 fun l0 b0 => (match b0 with
    | [c0_0, c0_1] => prS g 1 c0_0 fun a0_0 => prI g .i64 c0_1 fun a0_1 => prI g .i64 c1 fun a1 => 
    bif newsOk hl [(1000000, l0)] [] then gb g (keep_Source_Next n a0_0 a0_1 a1 (fun r0 r1 r2 => some (r0, r1, r2))) (0, [], 0) fun r => k ⟨.d (D.int .i64 r.1), [(l0, some (.box [.d (D.sl 1 r.2.1), .d (D.int .i64 r.2.2)]))], [l0]⟩ else none
    | _ => none)
  | _ => none
theorem keep_Source_Next_oo (n : Nat) : EntryOK Try.prog 18 (keep_Source_Next_o n) := by
  intro R site g avs hl k r h
  unfold keep_Source_Next_o at h
  split at h
  rotate_left
  · cases h
  replace h := prP_some h
  obtain ⟨l0, b0, h, e0, hb0⟩ := h
  subst e0
  split at h
  rotate_left
  · cases h
  replace h := prS_some h
  obtain ⟨a0_0, h, le0⟩ := h
  replace h := prI_some h
  obtain ⟨a0_1, h, le1⟩ := h
  replace h := prI_some h
  obtain ⟨a1, h, le2⟩ := h
  replace h := bif_some h
  obtain ⟨hc, h⟩ := h
  replace h := gb_some h
  obtain ⟨res, h, hr⟩ := h
  refine ⟨_, h, fun hg => CallOK.conv (avs' := [.ptr l0 0, .d (D.int .i64 a1)]) (.cons (.refl _) (.cons (le2 hg) (.nil))) (callOK_own (K := keep_Source_Next_Ko) (res := res) (keep_Source_Next_VC n) (fn := Try.f18) (n := n) (by kernel_rfl) (by kernel_rfl) (by kernel_rfl) (ρ := [(1000000, l0)]) (ν := []) (avs' := [.ptr 1000000 0, .d (D.int .i64 a1)]) (H := [(1000000, .box [.d (D.sl 1 a0_0), .d (D.int .i64 a0_1)])]) rfl rfl rfl rfl hc (⟨⟨by decide, _, _, hb0, rfl, .cons (le0 hg) (.cons (le1 hg) (.nil)), rfl⟩, trivial⟩) rfl rfl ?_ ?_)⟩
  · exact (keep_Source_Next_vfo n a0_0 a0_1 a1).trans (hr hg)
  · intro av H' hx
    unfold keep_Source_Next_Ko at hx
    replace hx := Option.bind_eq_some_iff.1 hx
    obtain ⟨o0, ho0, hx⟩ := hx
    split at hx
    rotate_left
    · cases hx
    injection hx with hx
    subst hx
    refine ⟨rfl, ?_, ⟨by rw [ho0]; rfl, trivial⟩, ⟨⟨_, _, rfl, ho0, rfl⟩, trivial⟩⟩
    simp only [List.cons_append, List.nil_append, outWr, ho0, Option.map_some]
    rfl
end Go.Vx
