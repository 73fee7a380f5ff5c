/- Part of a proof: texts Vpkeep Pick Vpref41 four Vpref1 Crc Vpref41 Encode Vpinternal stringslite HasPrefix Vpstrings HasPrefix Vpstore value Vpinternal stringslite Clone Vpstrings Clone Vpstore check Vps. No conditions of their own. -/
import Derived.Test.YtopjipognhonaaaProg
import Derived.Test.YtopjipognhonaaaKVC
import Derived.Test.YtopjipognhonaaaKFA
import Derived.Test.YtopjipognhonaaaKLA
/-
  keep_Pick: the interpreter computes the pure function
-/
set_option linter.unusedVariables false
set_option linter.unusedSimpArgs false
set_option maxRecDepth 100000
namespace Go.Vx
open Go.Proofs
noncomputable def keep_Pick_c0 : Code := bodyOf Try.f14
def keep_Pick_tt : TT := [(3, ⟨.int .i64, 1, 8, [.int .i64 0], [.int .i64 0], [], none⟩), (55, ⟨.int .u64, 1, 8, [.int .u64 0], [.int .u64 0], [], none⟩)]
theorem keep_Pick_tt_eq : mkTT Try.prog [3, 55] = keep_Pick_tt := by kernel_rfl
def keep_Pick_cfg : List (Nat × Cfg) := [(0, ⟨[0, 1], [], [], [], []⟩), (1, ⟨[4], [], [], [], []⟩)]
def keep_Pick_C (n : Nat) : VC := ⟨specOf [], keep_Pick_tt, keep_Pick_cfg⟩
theorem keep_Pick_ents (n : Nat) : EntsOK Try.prog [] := trivial
theorem keep_Pick_VC (n : Nat) : VCOk Try.prog (keep_Pick_C n) := ⟨specOf_ok (keep_Pick_ents n), (keep_Pick_tt_eq ▸ mkTT_ok _ : TOk Try.prog keep_Pick_tt), by kernel_rfl⟩
theorem keep_Pick_p1_congr {R : Type} (n : Nat) (a0 : Int) (a1 : Int) {k0 kk0 : Int → Option R} (hq0 : ∀ x0, k0 x0 = kk0 x0) : keep_Pick_p1 n a0 a1 k0 = keep_Pick_p1 n a0 a1 kk0 := by
  obtain rfl : k0 = kk0 := funext fun x0 => hq0 x0
  rfl
theorem keep_Pick_p1_eq {R : Type} (n : Nat) (a0 : Int) (a1 : Int) (k : Exit → St → Option R) : vexec (keep_Pick_C n) n keep_Pick_c0 ⟨11, [(0, .d (D.int .i64 a0)), (1, .d (D.int .i64 a1))], []⟩ k = keep_Pick_p1 n a0 a1 (fun z2 => k .ret ⟨11, [(4, .d (D.int .i64 z2))], []⟩) := by kernel_rfl
theorem keep_Pick_vfn {R : Type} (n : Nat) (a0 : Int) (a1 : Int) (K : AV → Option R) : vfn (keep_Pick_C n) n Try.f14 [.d (D.int .i64 a0), .d (D.int .i64 a1)] [] (retF [[0]] K) = keep_Pick n a0 a1 (fun r0 => K (.d (D.int .i64 r0))) :=
  (show vfn (keep_Pick_C n) n Try.f14 [.d (D.int .i64 a0), .d (D.int .i64 a1)] [] (retF [[0]] K) = vexec (keep_Pick_C n) n keep_Pick_c0 ⟨11, [(0, .d (D.int .i64 a0)), (1, .d (D.int .i64 a1))], []⟩ (retX keep_Pick_tt [.tmp 4] (retF [[0]] K)) from vfn_at (by kernel_rfl) (by kernel_rfl) rfl (by kernel_rfl) rfl (by kernel_rfl) rfl).trans ((keep_Pick_p1_eq n a0 a1 (retX keep_Pick_tt [.tmp 4] (retF [[0]] K))).trans (by kernel_rfl))
def keep_Pick_K : AV → Option (Int) := fun av => match av with
  | .d (D.int .i64 r0) => some r0
  | _ => none
def keep_Pick_e (n : Nat) : Entry := fun _ _ g avs _ k => match avs with
  | [c0, c1] => prI g .i64 c0 fun a0 => prI g .i64 c1 fun a1 => 
    gb g (keep_Pick n a0 a1 some) 0 fun r => k ⟨.d (D.int .i64 r), [], []⟩
  | _ => none
theorem keep_Pick_ok (n : Nat) : EntryOK Try.prog 14 (keep_Pick_e n) := by
  intro R site g avs hl k r h
  unfold keep_Pick_e at h
  split at h
  rotate_left
  · cases h
  replace h := prI_some h
  obtain ⟨a0, h, le0⟩ := h
  replace h := prI_some h
  obtain ⟨a1, h, le1⟩ := h
  replace h := gb_some h
  obtain ⟨res, h, hr⟩ := h
  refine ⟨_, h, fun hg => CallOK.conv (avs' := [.d (D.int .i64 a0), .d (D.int .i64 a1)]) (.cons (le0 hg) (.cons (le1 hg) (.nil))) (callOK_fix (K := keep_Pick_K) (res := res) (keep_Pick_VC n) (fn := Try.f14) (n := n) (by kernel_rfl) (by kernel_rfl) (by kernel_rfl) (ss := [[0]]) rfl ?_ ?_)⟩
  · exact (keep_Pick_vfn n a0 a1 keep_Pick_K).trans (hr hg)
  · intro x hx
    unfold keep_Pick_K at hx
    split at hx
    · injection hx with hx; subst hx; rfl
    · cases hx
end Go.Vx
/-
  ref41_four: the interpreter computes the pure function
-/
set_option linter.unusedVariables false
set_option linter.unusedSimpArgs false
set_option maxRecDepth 100000
namespace Go.Vx
open Go.Proofs
noncomputable def ref41_four_c0 : Code := bodyOf Try.f33
def ref41_four_tt : TT := [(3, ⟨.int .i64, 1, 8, [.int .i64 0], [.int .i64 0], [], none⟩), (5, ⟨.int .u8, 1, 1, [.int .u8 0], [.int .u8 0], [], none⟩), (9, ⟨.str, 1, 16, [.string ⟨#[]⟩], [.str []], [], none⟩), (59, ⟨.sl 5 1, 1, 24, [.slice none 0 0], [.sl 1 []], [], none⟩)]
theorem ref41_four_tt_eq : mkTT Try.prog [3, 5, 9, 59] = ref41_four_tt := by kernel_rfl
def ref41_four_cfg : List (Nat × Cfg) := [(0, ⟨[0], [], [], [], []⟩), (1, ⟨[2], [], [], [], []⟩)]
def ref41_four_C (n : Nat) : VC := ⟨specOf [], ref41_four_tt, ref41_four_cfg⟩
theorem ref41_four_ents (n : Nat) : EntsOK Try.prog [] := trivial
theorem ref41_four_VC (n : Nat) : VCOk Try.prog (ref41_four_C n) := ⟨specOf_ok (ref41_four_ents n), (ref41_four_tt_eq ▸ mkTT_ok _ : TOk Try.prog ref41_four_tt), by kernel_rfl⟩
theorem ref41_four_p1_congr {R : Type} (n : Nat) (a0 : Int) {k0 kk0 : (List UInt8) → Option R} (hq0 : ∀ x0, k0 x0 = kk0 x0) : ref41_four_p1 n a0 k0 = ref41_four_p1 n a0 kk0 := by
  obtain rfl : k0 = kk0 := funext fun x0 => hq0 x0
  rfl
theorem ref41_four_p1_eq {R : Type} (n : Nat) (a0 : Int) (k : Exit → St → Option R) : vexec (ref41_four_C n) n ref41_four_c0 ⟨16, [(0, .d (D.int .i64 a0))], []⟩ k = ref41_four_p1 n a0 (fun s4 => k .ret ⟨16, [(2, .d (D.str s4))], []⟩) := by kernel_rfl
theorem ref41_four_vfn {R : Type} (n : Nat) (a0 : Int) (K : AV → Option R) : vfn (ref41_four_C n) n Try.f33 [.d (D.int .i64 a0)] [] (retF [[0]] K) = ref41_four n a0 (fun r0 => K (.d (D.str r0))) :=
  (show vfn (ref41_four_C n) n Try.f33 [.d (D.int .i64 a0)] [] (retF [[0]] K) = vexec (ref41_four_C n) n ref41_four_c0 ⟨16, [(0, .d (D.int .i64 a0))], []⟩ (retX ref41_four_tt [.tmp 2] (retF [[0]] K)) from vfn_at (by kernel_rfl) (by kernel_rfl) rfl (by kernel_rfl) rfl (by kernel_rfl) rfl).trans ((ref41_four_p1_eq n a0 (retX ref41_four_tt [.tmp 2] (retF [[0]] K))).trans (by kernel_rfl))
def ref41_four_K : AV → Option (List UInt8) := fun av => match av with
  | .d (D.str r0) => some r0
  | _ => none
def ref41_four_e (n : Nat) : Entry := fun _ _ g avs _ k => match avs with
  | [c0] => prI g .i64 c0 fun a0 => 
    gb g (ref41_four n a0 some) [] fun r => k ⟨.d (D.str r), [], []⟩
  | _ => none
theorem ref41_four_ok (n : Nat) : EntryOK Try.prog 33 (ref41_four_e n) := by
  intro R site g avs hl k r h
  unfold ref41_four_e at h
  split at h
  rotate_left
  · cases h
  replace h := prI_some h
  obtain ⟨a0, h, le0⟩ := h
  replace h := gb_some h
  obtain ⟨res, h, hr⟩ := h
  refine ⟨_, h, fun hg => CallOK.conv (avs' := [.d (D.int .i64 a0)]) (.cons (le0 hg) (.nil)) (callOK_fix (K := ref41_four_K) (res := res) (ref41_four_VC n) (fn := Try.f33) (n := n) (by kernel_rfl) (by kernel_rfl) (by kernel_rfl) (ss := [[0]]) rfl ?_ ?_)⟩
  · exact (ref41_four_vfn n a0 ref41_four_K).trans (hr hg)
  · intro x hx
    unfold ref41_four_K at hx
    split at hx
    · injection hx with hx; subst hx; rfl
    · cases hx
end Go.Vx
/-
  ref1_Crc: the interpreter computes the pure function
-/
set_option linter.unusedVariables false
set_option linter.unusedSimpArgs false
set_option maxRecDepth 100000
namespace Go.Vx
open Go.Proofs
noncomputable def ref1_Crc_c0 : Code := bodyOf Try.f34
noncomputable def ref1_Crc_c1 : Code := cL (bodyOf Try.f34)
noncomputable def ref1_Crc_c2 : Code := cL (cR (bodyOf Try.f34))
noncomputable def ref1_Crc_c3 : Code := cL (cL (cR (cR (bodyOf Try.f34))))
noncomputable def ref1_Crc_c4 : Code := cL (cB (cB (cR (cL (cR (cR (bodyOf Try.f34)))))))
noncomputable def ref1_Crc_c5 : Code := cL (cB (cL (cR (cB (cB (cR (cL (cR (cR (bodyOf Try.f34))))))))))
noncomputable def ref1_Crc_c6 : Code := cL (cR (cB (cL (cR (cB (cB (cR (cL (cR (cR (bodyOf Try.f34)))))))))))
noncomputable def ref1_Crc_c7 : Code := cB (cB (cR (cR (cB (cL (cR (cB (cB (cR (cL (cR (cR (bodyOf Try.f34)))))))))))))
noncomputable def ref1_Crc_c8 : Code := cB (cR (cR (cB (cL (cR (cB (cB (cR (cL (cR (cR (bodyOf Try.f34))))))))))))
noncomputable def ref1_Crc_c9 : Code := cR (cR (cB (cL (cR (cB (cB (cR (cL (cR (cR (bodyOf Try.f34)))))))))))
noncomputable def ref1_Crc_c10 : Code := cR (cB (cL (cR (cB (cB (cR (cL (cR (cR (bodyOf Try.f34))))))))))
noncomputable def ref1_Crc_c11 : Code := cB (cL (cR (cB (cB (cR (cL (cR (cR (bodyOf Try.f34)))))))))
noncomputable def ref1_Crc_c12 : Code := cL (cR (cB (cB (cR (cL (cR (cR (bodyOf Try.f34))))))))
noncomputable def ref1_Crc_c13 : Code := cR (cR (cB (cB (cR (cL (cR (cR (bodyOf Try.f34))))))))
noncomputable def ref1_Crc_c14 : Code := cR (cB (cB (cR (cL (cR (cR (bodyOf Try.f34)))))))
noncomputable def ref1_Crc_c15 : Code := cB (cB (cR (cL (cR (cR (bodyOf Try.f34))))))
noncomputable def ref1_Crc_c16 : Code := cB (cR (cL (cR (cR (bodyOf Try.f34)))))
noncomputable def ref1_Crc_c17 : Code := cR (cL (cR (cR (bodyOf Try.f34))))
noncomputable def ref1_Crc_c18 : Code := cL (cR (cR (bodyOf Try.f34)))
noncomputable def ref1_Crc_c19 : Code := cR (cR (cR (bodyOf Try.f34)))
noncomputable def ref1_Crc_c20 : Code := cR (cR (bodyOf Try.f34))
noncomputable def ref1_Crc_c21 : Code := cR (bodyOf Try.f34)
theorem ref1_Crc_c8_eq : ref1_Crc_c8 = .loop ref1_Crc_c7 := by kernel_rfl
theorem ref1_Crc_c9_eq : ref1_Crc_c9 = .block 2 ref1_Crc_c8 := by kernel_rfl
theorem ref1_Crc_c10_eq : ref1_Crc_c10 = .seq ref1_Crc_c6 ref1_Crc_c9 := by kernel_rfl
theorem ref1_Crc_c11_eq : ref1_Crc_c11 = .seq ref1_Crc_c5 ref1_Crc_c10 := by kernel_rfl
theorem ref1_Crc_c12_eq : ref1_Crc_c12 = .block 1 ref1_Crc_c11 := by kernel_rfl
theorem ref1_Crc_c14_eq : ref1_Crc_c14 = .seq ref1_Crc_c12 ref1_Crc_c13 := by kernel_rfl
theorem ref1_Crc_c15_eq : ref1_Crc_c15 = .seq ref1_Crc_c4 ref1_Crc_c14 := by kernel_rfl
theorem ref1_Crc_c16_eq : ref1_Crc_c16 = .loop ref1_Crc_c15 := by kernel_rfl
theorem ref1_Crc_c17_eq : ref1_Crc_c17 = .block 0 ref1_Crc_c16 := by kernel_rfl
theorem ref1_Crc_c18_eq : ref1_Crc_c18 = .seq ref1_Crc_c3 ref1_Crc_c17 := by kernel_rfl
theorem ref1_Crc_c20_eq : ref1_Crc_c20 = .seq ref1_Crc_c18 ref1_Crc_c19 := by kernel_rfl
theorem ref1_Crc_c21_eq : ref1_Crc_c21 = .seq ref1_Crc_c2 ref1_Crc_c20 := by kernel_rfl
theorem ref1_Crc_c0_eq : ref1_Crc_c0 = .seq ref1_Crc_c1 ref1_Crc_c21 := by kernel_rfl
def ref1_Crc_tt : TT := [(3, ⟨.int .i64, 1, 8, [.int .i64 0], [.int .i64 0], [], none⟩), (5, ⟨.int .u8, 1, 1, [.int .u8 0], [.int .u8 0], [], none⟩), (9, ⟨.str, 1, 16, [.string ⟨#[]⟩], [.str []], [], none⟩), (52, ⟨.int .u32, 1, 4, [.int .u32 0], [.int .u32 0], [], none⟩)]
theorem ref1_Crc_tt_eq : mkTT Try.prog [3, 5, 9, 52] = ref1_Crc_tt := by kernel_rfl
def ref1_Crc_cfg : List (Nat × Cfg) := [(0, ⟨[0], [], [], [], []⟩), (1, ⟨[0, 3], [], [], [], []⟩), (2, ⟨[0, 3, 4], [], [], [], []⟩), (3, ⟨[0, 3, 4, 9], [], [], [], []⟩), (4, ⟨[0, 3, 4], [], [], [], []⟩), (5, ⟨[0, 3, 4], [], [], [], []⟩), (6, ⟨[0, 3, 4, 5], [], [], [], []⟩), (7, ⟨[0, 3, 4, 5, 19], [], [], [], []⟩), (8, ⟨[0, 3, 4, 5], [], [], [], []⟩), (9, ⟨[0, 3, 4, 5, 24], [], [], [], []⟩), (10, ⟨[0, 3, 4, 5], [], [], [], []⟩), (11, ⟨[0, 3, 4, 5], [], [], [], []⟩), (12, ⟨[2], [], [], [], []⟩)]
def ref1_Crc_C (n : Nat) : VC := ⟨specOf [], ref1_Crc_tt, ref1_Crc_cfg⟩
theorem ref1_Crc_ents (n : Nat) : EntsOK Try.prog [] := trivial
theorem ref1_Crc_VC (n : Nat) : VCOk Try.prog (ref1_Crc_C n) := ⟨specOf_ok (ref1_Crc_ents n), (ref1_Crc_tt_eq ▸ mkTT_ok _ : TOk Try.prog ref1_Crc_tt), by kernel_rfl⟩
theorem ref1_Crc_p1_congr {R : Type} (n : Nat) (a0 : List UInt8) {k0 kk0 : Option R} (hq0 : k0 = kk0) : ref1_Crc_p1 n a0 k0 = ref1_Crc_p1 n a0 kk0 := by
  obtain rfl : k0 = kk0 := hq0
  rfl
theorem ref1_Crc_p2_congr {R : Type} (n : Nat) (a0 : List UInt8) {k0 kk0 : Option R} (hq0 : k0 = kk0) : ref1_Crc_p2 n a0 k0 = ref1_Crc_p2 n a0 kk0 := by
  obtain rfl : k0 = kk0 := hq0
  rfl
theorem ref1_Crc_p3_congr {R : Type} (n : Nat) (a0 : List UInt8) {k0 kk0 : Option R} (hq0 : k0 = kk0) : ref1_Crc_p3 n a0 k0 = ref1_Crc_p3 n a0 kk0 := by
  obtain rfl : k0 = kk0 := hq0
  rfl
theorem ref1_Crc_p4_congr {R : Type} (n : Nat) (a0 : List UInt8) (h2 : Int) (h3 : Int) {k0 kk0 : Bool → Option R} {k1 kk1 : Bool → Option R} (hq0 : ∀ x0, k0 x0 = kk0 x0) (hq1 : ∀ x0, k1 x0 = kk1 x0) : ref1_Crc_p4 n a0 h2 h3 k0 k1 = ref1_Crc_p4 n a0 h2 h3 kk0 kk1 := by
  obtain rfl : k0 = kk0 := funext fun x0 => hq0 x0
  obtain rfl : k1 = kk1 := funext fun x0 => hq1 x0
  rfl
theorem ref1_Crc_p5_congr {R : Type} (n : Nat) (a0 : List UInt8) (h2 : Int) (h3 : Int) (w49 : Bool) {k0 kk0 : Int → Option R} (hq0 : ∀ x0, k0 x0 = kk0 x0) : ref1_Crc_p5 n a0 h2 h3 w49 k0 = ref1_Crc_p5 n a0 h2 h3 w49 kk0 := by
  obtain rfl : k0 = kk0 := funext fun x0 => hq0 x0
  rfl
theorem ref1_Crc_p6_congr {R : Type} (n : Nat) (a0 : List UInt8) (w52 : Int) (h3 : Int) {k0 kk0 : Option R} (hq0 : k0 = kk0) : ref1_Crc_p6 n a0 w52 h3 k0 = ref1_Crc_p6 n a0 w52 h3 kk0 := by
  obtain rfl : k0 = kk0 := hq0
  rfl
theorem ref1_Crc_p7_congr {R : Type} (n : Nat) (a0 : List UInt8) (h54 : Int) (h3 : Int) (h56 : Int) {k0 kk0 : Int → Int → Option R} {k1 kk1 : Bool → Option R} (hq0 : ∀ x0 x1, k0 x0 x1 = kk0 x0 x1) (hq1 : ∀ x0, k1 x0 = kk1 x0) : ref1_Crc_p7 n a0 h54 h3 h56 k0 k1 = ref1_Crc_p7 n a0 h54 h3 h56 kk0 kk1 := by
  obtain rfl : k0 = kk0 := funext fun x0 => funext fun x1 => hq0 x0 x1
  obtain rfl : k1 = kk1 := funext fun x0 => hq1 x0
  rfl
theorem ref1_Crc_p8_congr {R : Type} (n : Nat) (a0 : List UInt8) (w52 : Int) (h3 : Int) {k0 kk0 : Int → Int → Bool → Option R} (hq0 : ∀ x0 x1 x2, k0 x0 x1 x2 = kk0 x0 x1 x2) : ref1_Crc_p8 n a0 w52 h3 k0 = ref1_Crc_p8 n a0 w52 h3 kk0 := by
  obtain rfl : k0 = kk0 := funext fun x0 => funext fun x1 => funext fun x2 => hq0 x0 x1 x2
  rfl
theorem ref1_Crc_p9_congr {R : Type} (n : Nat) (a0 : List UInt8) (w52 : Int) (h3 : Int) {k0 kk0 : Int → Int → Bool → Option R} (hq0 : ∀ x0 x1 x2, k0 x0 x1 x2 = kk0 x0 x1 x2) : ref1_Crc_p9 n a0 w52 h3 k0 = ref1_Crc_p9 n a0 w52 h3 kk0 := by
  obtain rfl : k0 = kk0 := funext fun x0 => funext fun x1 => funext fun x2 => hq0 x0 x1 x2
  rfl
theorem ref1_Crc_p10_congr {R : Type} (n : Nat) (a0 : List UInt8) (w52 : Int) (h3 : Int) {k0 kk0 : Int → Int → Bool → Option R} (hq0 : ∀ x0 x1 x2, k0 x0 x1 x2 = kk0 x0 x1 x2) : ref1_Crc_p10 n a0 w52 h3 k0 = ref1_Crc_p10 n a0 w52 h3 kk0 := by
  obtain rfl : k0 = kk0 := funext fun x0 => funext fun x1 => funext fun x2 => hq0 x0 x1 x2
  rfl
theorem ref1_Crc_p11_congr {R : Type} (n : Nat) (a0 : List UInt8) (h2 : Int) (h3 : Int) (w49 : Bool) {k0 kk0 : Int → Int → Bool → Option R} (hq0 : ∀ x0 x1 x2, k0 x0 x1 x2 = kk0 x0 x1 x2) : ref1_Crc_p11 n a0 h2 h3 w49 k0 = ref1_Crc_p11 n a0 h2 h3 w49 kk0 := by
  obtain rfl : k0 = kk0 := funext fun x0 => funext fun x1 => funext fun x2 => hq0 x0 x1 x2
  rfl
theorem ref1_Crc_p12_congr {R : Type} (n : Nat) (a0 : List UInt8) (h2 : Int) (h3 : Int) (w49 : Bool) {k0 kk0 : Int → Int → Bool → Option R} (hq0 : ∀ x0 x1 x2, k0 x0 x1 x2 = kk0 x0 x1 x2) : ref1_Crc_p12 n a0 h2 h3 w49 k0 = ref1_Crc_p12 n a0 h2 h3 w49 kk0 := by
  obtain rfl : k0 = kk0 := funext fun x0 => funext fun x1 => funext fun x2 => hq0 x0 x1 x2
  rfl
theorem ref1_Crc_p13_congr {R : Type} (n : Nat) (a0 : List UInt8) (w82 : Int) (h3 : Int) (w83 : Int) (w84 : Bool) {k0 kk0 : Int → Option R} (hq0 : ∀ x0, k0 x0 = kk0 x0) : ref1_Crc_p13 n a0 w82 h3 w83 w84 k0 = ref1_Crc_p13 n a0 w82 h3 w83 w84 kk0 := by
  obtain rfl : k0 = kk0 := funext fun x0 => hq0 x0
  rfl
theorem ref1_Crc_p14_congr {R : Type} (n : Nat) (a0 : List UInt8) (h2 : Int) (h3 : Int) (w49 : Bool) {k0 kk0 : Int → Int → Option R} (hq0 : ∀ x0 x1, k0 x0 x1 = kk0 x0 x1) : ref1_Crc_p14 n a0 h2 h3 w49 k0 = ref1_Crc_p14 n a0 h2 h3 w49 kk0 := by
  obtain rfl : k0 = kk0 := funext fun x0 => funext fun x1 => hq0 x0 x1
  rfl
theorem ref1_Crc_p15_congr {R : Type} (n : Nat) (a0 : List UInt8) (h2 : Int) (h3 : Int) {k0 kk0 : Int → Int → Option R} {k1 kk1 : Bool → Option R} (hq0 : ∀ x0 x1, k0 x0 x1 = kk0 x0 x1) (hq1 : ∀ x0, k1 x0 = kk1 x0) : ref1_Crc_p15 n a0 h2 h3 k0 k1 = ref1_Crc_p15 n a0 h2 h3 kk0 kk1 := by
  obtain rfl : k0 = kk0 := funext fun x0 => funext fun x1 => hq0 x0 x1
  obtain rfl : k1 = kk1 := funext fun x0 => hq1 x0
  rfl
theorem ref1_Crc_p16_congr {R : Type} (n : Nat) (a0 : List UInt8) {k0 kk0 : Int → Int → Bool → Option R} (hq0 : ∀ x0 x1 x2, k0 x0 x1 x2 = kk0 x0 x1 x2) : ref1_Crc_p16 n a0 k0 = ref1_Crc_p16 n a0 kk0 := by
  obtain rfl : k0 = kk0 := funext fun x0 => funext fun x1 => funext fun x2 => hq0 x0 x1 x2
  rfl
theorem ref1_Crc_p17_congr {R : Type} (n : Nat) (a0 : List UInt8) {k0 kk0 : Int → Int → Bool → Option R} (hq0 : ∀ x0 x1 x2, k0 x0 x1 x2 = kk0 x0 x1 x2) : ref1_Crc_p17 n a0 k0 = ref1_Crc_p17 n a0 kk0 := by
  obtain rfl : k0 = kk0 := funext fun x0 => funext fun x1 => funext fun x2 => hq0 x0 x1 x2
  rfl
theorem ref1_Crc_p18_congr {R : Type} (n : Nat) (a0 : List UInt8) {k0 kk0 : Int → Int → Bool → Option R} (hq0 : ∀ x0 x1 x2, k0 x0 x1 x2 = kk0 x0 x1 x2) : ref1_Crc_p18 n a0 k0 = ref1_Crc_p18 n a0 kk0 := by
  obtain rfl : k0 = kk0 := funext fun x0 => funext fun x1 => funext fun x2 => hq0 x0 x1 x2
  rfl
theorem ref1_Crc_p19_congr {R : Type} (n : Nat) (a0 : List UInt8) (w99 : Int) (w100 : Int) (w101 : Bool) {k0 kk0 : Int → Option R} (hq0 : ∀ x0, k0 x0 = kk0 x0) : ref1_Crc_p19 n a0 w99 w100 w101 k0 = ref1_Crc_p19 n a0 w99 w100 w101 kk0 := by
  obtain rfl : k0 = kk0 := funext fun x0 => hq0 x0
  rfl
theorem ref1_Crc_p20_congr {R : Type} (n : Nat) (a0 : List UInt8) {k0 kk0 : Int → Option R} (hq0 : ∀ x0, k0 x0 = kk0 x0) : ref1_Crc_p20 n a0 k0 = ref1_Crc_p20 n a0 kk0 := by
  obtain rfl : k0 = kk0 := funext fun x0 => hq0 x0
  rfl
theorem ref1_Crc_p21_congr {R : Type} (n : Nat) (a0 : List UInt8) {k0 kk0 : Int → Option R} (hq0 : ∀ x0, k0 x0 = kk0 x0) : ref1_Crc_p21 n a0 k0 = ref1_Crc_p21 n a0 kk0 := by
  obtain rfl : k0 = kk0 := funext fun x0 => hq0 x0
  rfl
theorem ref1_Crc_p22_congr {R : Type} (n : Nat) (a0 : List UInt8) {k0 kk0 : Int → Option R} (hq0 : ∀ x0, k0 x0 = kk0 x0) : ref1_Crc_p22 n a0 k0 = ref1_Crc_p22 n a0 kk0 := by
  obtain rfl : k0 = kk0 := funext fun x0 => hq0 x0
  rfl
theorem ref1_Crc_p1_eq {R : Type} (n : Nat) (a0 : List UInt8) (k : Exit → St → Option R) : vexec (ref1_Crc_C n) n ref1_Crc_c1 ⟨32, [(0, .d (D.str a0))], []⟩ k = ref1_Crc_p1 n a0 (k .normal ⟨32, [(0, .d (D.str a0))], []⟩) := by kernel_rfl
theorem ref1_Crc_p2_eq {R : Type} (n : Nat) (a0 : List UInt8) (k : Exit → St → Option R) : vexec (ref1_Crc_C n) n ref1_Crc_c2 ⟨32, [(0, .d (D.str a0))], []⟩ k = ref1_Crc_p2 n a0 (k .normal ⟨32, [(0, .d (D.str a0)), (3, .d (D.int .u32 (4294967295 : Int)))], []⟩) := by kernel_rfl
theorem ref1_Crc_p3_eq {R : Type} (n : Nat) (a0 : List UInt8) (k : Exit → St → Option R) : vexec (ref1_Crc_C n) n ref1_Crc_c3 ⟨32, [(0, .d (D.str a0)), (3, .d (D.int .u32 (4294967295 : Int)))], []⟩ k = ref1_Crc_p3 n a0 (k .normal ⟨32, [(0, .d (D.str a0)), (3, .d (D.int .u32 (4294967295 : Int))), (4, .d (D.int .i64 (0 : Int)))], []⟩) := by kernel_rfl
theorem ref1_Crc_p4_eq {R : Type} (n : Nat) (a0 : List UInt8) (h2 : Int) (h3 : Int) (k : Exit → St → Option R) : vexec (ref1_Crc_C n) n ref1_Crc_c4 ⟨32, [(0, .d (D.str a0)), (3, .d (D.int .u32 h2)), (4, .d (D.int .i64 h3))], []⟩ k = ref1_Crc_p4 n a0 h2 h3 (fun z47 => k .normal ⟨32, [(0, .d (D.str a0)), (3, .d (D.int .u32 h2)), (4, .d (D.int .i64 h3)), (9, .d (D.bool z47))], []⟩) (fun z48 => k (.exit 0) ⟨32, [(0, .d (D.str a0)), (3, .d (D.int .u32 h2)), (4, .d (D.int .i64 h3)), (9, .d (D.bool z48))], []⟩) := by kernel_rfl
theorem ref1_Crc_p5_eq {R : Type} (n : Nat) (a0 : List UInt8) (h2 : Int) (h3 : Int) (w49 : Bool) (k : Exit → St → Option R) : vexec (ref1_Crc_C n) n ref1_Crc_c5 ⟨32, [(0, .d (D.str a0)), (3, .d (D.int .u32 h2)), (4, .d (D.int .i64 h3)), (9, .d (D.bool w49))], []⟩ k = ref1_Crc_p5 n a0 h2 h3 w49 (fun z51 => k .normal ⟨32, [(0, .d (D.str a0)), (3, .d (D.int .u32 z51)), (4, .d (D.int .i64 h3))], []⟩) := by kernel_rfl
theorem ref1_Crc_p6_eq {R : Type} (n : Nat) (a0 : List UInt8) (w52 : Int) (h3 : Int) (k : Exit → St → Option R) : vexec (ref1_Crc_C n) n ref1_Crc_c6 ⟨32, [(0, .d (D.str a0)), (3, .d (D.int .u32 w52)), (4, .d (D.int .i64 h3))], []⟩ k = ref1_Crc_p6 n a0 w52 h3 (k .normal ⟨32, [(0, .d (D.str a0)), (3, .d (D.int .u32 w52)), (4, .d (D.int .i64 h3)), (5, .d (D.int .i64 (0 : Int)))], []⟩) := by kernel_rfl
theorem ref1_Crc_p7_eq {R : Type} (n : Nat) (a0 : List UInt8) (h54 : Int) (h3 : Int) (h56 : Int) (k : Exit → St → Option R) : vexec (ref1_Crc_C n) n ref1_Crc_c7 ⟨32, [(0, .d (D.str a0)), (3, .d (D.int .u32 h54)), (4, .d (D.int .i64 h3)), (5, .d (D.int .i64 h56))], []⟩ k = ref1_Crc_p7 n a0 h54 h3 h56 (fun z64 z65 => k .normal ⟨32, [(0, .d (D.str a0)), (3, .d (D.int .u32 z64)), (4, .d (D.int .i64 h3)), (5, .d (D.int .i64 z65))], []⟩) (fun z66 => k (.exit 2) ⟨32, [(0, .d (D.str a0)), (3, .d (D.int .u32 h54)), (4, .d (D.int .i64 h3)), (5, .d (D.int .i64 h56)), (19, .d (D.bool z66))], []⟩) := by kernel_rfl
theorem ref1_Crc_r8_eq {R : Type} (n : Nat) (a0 : List UInt8) (h3 : Int) (k : Exit → St → Option R) : ∀ (m : Nat) (h54 : Int) (h56 : Int), loopN (vexec (ref1_Crc_C n) n ref1_Crc_c7) m ⟨32, [(0, .d (D.str a0)), (3, .d (D.int .u32 h54)), (4, .d (D.int .i64 h3)), (5, .d (D.int .i64 h56))], []⟩ k = ref1_Crc_r8 n a0 h3 (fun h54 h56 w69 => k (.exit 2) ⟨32, [(0, .d (D.str a0)), (3, .d (D.int .u32 h54)), (4, .d (D.int .i64 h3)), (5, .d (D.int .i64 h56)), (19, .d (D.bool w69))], []⟩) m h54 h56
  | 0, _, _ => rfl
  | m + 1, h54, h56 => (ref1_Crc_p7_eq n a0 h54 h3 h56 (loopK (vexec (ref1_Crc_C n) n ref1_Crc_c7) m k)).trans (ref1_Crc_p7_congr n a0 h54 h3 h56 (fun w67 w68 => ref1_Crc_r8_eq n a0 h3 k m w67 w68) (fun w69 => rfl))
theorem ref1_Crc_p8_eq {R : Type} (n : Nat) (a0 : List UInt8) (w52 : Int) (h3 : Int) (k : Exit → St → Option R) : vexec (ref1_Crc_C n) n ref1_Crc_c8 ⟨32, [(0, .d (D.str a0)), (3, .d (D.int .u32 w52)), (4, .d (D.int .i64 h3)), (5, .d (D.int .i64 (0 : Int)))], []⟩ k = ref1_Crc_p8 n a0 w52 h3 (fun h54 h56 w69 => k (.exit 2) ⟨32, [(0, .d (D.str a0)), (3, .d (D.int .u32 h54)), (4, .d (D.int .i64 h3)), (5, .d (D.int .i64 h56)), (19, .d (D.bool w69))], []⟩) := by
  rw [ref1_Crc_c8_eq]
  exact ref1_Crc_r8_eq n a0 h3 k n w52 (0 : Int)
theorem ref1_Crc_p9_eq {R : Type} (n : Nat) (a0 : List UInt8) (w52 : Int) (h3 : Int) (k : Exit → St → Option R) : vexec (ref1_Crc_C n) n ref1_Crc_c9 ⟨32, [(0, .d (D.str a0)), (3, .d (D.int .u32 w52)), (4, .d (D.int .i64 h3)), (5, .d (D.int .i64 (0 : Int)))], []⟩ k = ref1_Crc_p9 n a0 w52 h3 (fun w70 w71 w72 => k .normal ⟨32, [(0, .d (D.str a0)), (3, .d (D.int .u32 w70)), (4, .d (D.int .i64 h3)), (5, .d (D.int .i64 w71)), (19, .d (D.bool w72))], []⟩) := by
  rw [ref1_Crc_c9_eq]
  unfold ref1_Crc_p9
  exact (ref1_Crc_p8_eq n a0 w52 h3 (blockK 2 k)).trans (ref1_Crc_p8_congr n a0 w52 h3 (fun w70 w71 w72 => rfl))
theorem ref1_Crc_p10_eq {R : Type} (n : Nat) (a0 : List UInt8) (w52 : Int) (h3 : Int) (k : Exit → St → Option R) : vexec (ref1_Crc_C n) n ref1_Crc_c10 ⟨32, [(0, .d (D.str a0)), (3, .d (D.int .u32 w52)), (4, .d (D.int .i64 h3))], []⟩ k = ref1_Crc_p10 n a0 w52 h3 (fun w73 w74 w75 => k .normal ⟨32, [(0, .d (D.str a0)), (3, .d (D.int .u32 w73)), (4, .d (D.int .i64 h3)), (5, .d (D.int .i64 w74)), (19, .d (D.bool w75))], []⟩) := by
  rw [ref1_Crc_c10_eq]
  unfold ref1_Crc_p10
  exact (ref1_Crc_p6_eq n a0 w52 h3 (seqK (ref1_Crc_C n) n ref1_Crc_c9 k)).trans (ref1_Crc_p6_congr n a0 w52 h3 (ref1_Crc_p9_eq n a0 w52 h3 k))
theorem ref1_Crc_p11_eq {R : Type} (n : Nat) (a0 : List UInt8) (h2 : Int) (h3 : Int) (w49 : Bool) (k : Exit → St → Option R) : vexec (ref1_Crc_C n) n ref1_Crc_c11 ⟨32, [(0, .d (D.str a0)), (3, .d (D.int .u32 h2)), (4, .d (D.int .i64 h3)), (9, .d (D.bool w49))], []⟩ k = ref1_Crc_p11 n a0 h2 h3 w49 (fun w76 w77 w78 => k .normal ⟨32, [(0, .d (D.str a0)), (3, .d (D.int .u32 w76)), (4, .d (D.int .i64 h3)), (5, .d (D.int .i64 w77)), (19, .d (D.bool w78))], []⟩) := by
  rw [ref1_Crc_c11_eq]
  unfold ref1_Crc_p11
  exact (ref1_Crc_p5_eq n a0 h2 h3 w49 (seqK (ref1_Crc_C n) n ref1_Crc_c10 k)).trans (ref1_Crc_p5_congr n a0 h2 h3 w49 (fun w52 => ref1_Crc_p10_eq n a0 w52 h3 k))
theorem ref1_Crc_p12_eq {R : Type} (n : Nat) (a0 : List UInt8) (h2 : Int) (h3 : Int) (w49 : Bool) (k : Exit → St → Option R) : vexec (ref1_Crc_C n) n ref1_Crc_c12 ⟨32, [(0, .d (D.str a0)), (3, .d (D.int .u32 h2)), (4, .d (D.int .i64 h3)), (9, .d (D.bool w49))], []⟩ k = ref1_Crc_p12 n a0 h2 h3 w49 (fun w79 w80 w81 => k .normal ⟨32, [(0, .d (D.str a0)), (3, .d (D.int .u32 w79)), (4, .d (D.int .i64 h3)), (5, .d (D.int .i64 w80)), (19, .d (D.bool w81))], []⟩) := by
  rw [ref1_Crc_c12_eq]
  unfold ref1_Crc_p12
  exact (ref1_Crc_p11_eq n a0 h2 h3 w49 (blockK 1 k)).trans (ref1_Crc_p11_congr n a0 h2 h3 w49 (fun w79 w80 w81 => rfl))
theorem ref1_Crc_p13_eq {R : Type} (n : Nat) (a0 : List UInt8) (w82 : Int) (h3 : Int) (w83 : Int) (w84 : Bool) (k : Exit → St → Option R) : vexec (ref1_Crc_C n) n ref1_Crc_c13 ⟨32, [(0, .d (D.str a0)), (3, .d (D.int .u32 w82)), (4, .d (D.int .i64 h3)), (5, .d (D.int .i64 w83)), (19, .d (D.bool w84))], []⟩ k = ref1_Crc_p13 n a0 w82 h3 w83 w84 (fun z85 => k .normal ⟨32, [(0, .d (D.str a0)), (3, .d (D.int .u32 w82)), (4, .d (D.int .i64 z85))], []⟩) := by kernel_rfl
theorem ref1_Crc_p14_eq {R : Type} (n : Nat) (a0 : List UInt8) (h2 : Int) (h3 : Int) (w49 : Bool) (k : Exit → St → Option R) : vexec (ref1_Crc_C n) n ref1_Crc_c14 ⟨32, [(0, .d (D.str a0)), (3, .d (D.int .u32 h2)), (4, .d (D.int .i64 h3)), (9, .d (D.bool w49))], []⟩ k = ref1_Crc_p14 n a0 h2 h3 w49 (fun w82 w86 => k .normal ⟨32, [(0, .d (D.str a0)), (3, .d (D.int .u32 w82)), (4, .d (D.int .i64 w86))], []⟩) := by
  rw [ref1_Crc_c14_eq]
  unfold ref1_Crc_p14
  exact (ref1_Crc_p12_eq n a0 h2 h3 w49 (seqK (ref1_Crc_C n) n ref1_Crc_c13 k)).trans (ref1_Crc_p12_congr n a0 h2 h3 w49 (fun w82 w83 w84 => ref1_Crc_p13_eq n a0 w82 h3 w83 w84 k))
theorem ref1_Crc_p15_eq {R : Type} (n : Nat) (a0 : List UInt8) (h2 : Int) (h3 : Int) (k : Exit → St → Option R) : vexec (ref1_Crc_C n) n ref1_Crc_c15 ⟨32, [(0, .d (D.str a0)), (3, .d (D.int .u32 h2)), (4, .d (D.int .i64 h3))], []⟩ k = ref1_Crc_p15 n a0 h2 h3 (fun w87 w88 => k .normal ⟨32, [(0, .d (D.str a0)), (3, .d (D.int .u32 w87)), (4, .d (D.int .i64 w88))], []⟩) (fun w89 => k (.exit 0) ⟨32, [(0, .d (D.str a0)), (3, .d (D.int .u32 h2)), (4, .d (D.int .i64 h3)), (9, .d (D.bool w89))], []⟩) := by
  rw [ref1_Crc_c15_eq]
  unfold ref1_Crc_p15
  exact (ref1_Crc_p4_eq n a0 h2 h3 (seqK (ref1_Crc_C n) n ref1_Crc_c14 k)).trans (ref1_Crc_p4_congr n a0 h2 h3 (fun w49 => ref1_Crc_p14_eq n a0 h2 h3 w49 k) (fun w89 => rfl))
theorem ref1_Crc_r16_eq {R : Type} (n : Nat) (a0 : List UInt8) (k : Exit → St → Option R) : ∀ (m : Nat) (h2 : Int) (h3 : Int), loopN (vexec (ref1_Crc_C n) n ref1_Crc_c15) m ⟨32, [(0, .d (D.str a0)), (3, .d (D.int .u32 h2)), (4, .d (D.int .i64 h3))], []⟩ k = ref1_Crc_r16 n a0 (fun h2 h3 w92 => k (.exit 0) ⟨32, [(0, .d (D.str a0)), (3, .d (D.int .u32 h2)), (4, .d (D.int .i64 h3)), (9, .d (D.bool w92))], []⟩) m h2 h3
  | 0, _, _ => rfl
  | m + 1, h2, h3 => (ref1_Crc_p15_eq n a0 h2 h3 (loopK (vexec (ref1_Crc_C n) n ref1_Crc_c15) m k)).trans (ref1_Crc_p15_congr n a0 h2 h3 (fun w90 w91 => ref1_Crc_r16_eq n a0 k m w90 w91) (fun w92 => rfl))
theorem ref1_Crc_p16_eq {R : Type} (n : Nat) (a0 : List UInt8) (k : Exit → St → Option R) : vexec (ref1_Crc_C n) n ref1_Crc_c16 ⟨32, [(0, .d (D.str a0)), (3, .d (D.int .u32 (4294967295 : Int))), (4, .d (D.int .i64 (0 : Int)))], []⟩ k = ref1_Crc_p16 n a0 (fun h2 h3 w92 => k (.exit 0) ⟨32, [(0, .d (D.str a0)), (3, .d (D.int .u32 h2)), (4, .d (D.int .i64 h3)), (9, .d (D.bool w92))], []⟩) := by
  rw [ref1_Crc_c16_eq]
  exact ref1_Crc_r16_eq n a0 k n (4294967295 : Int) (0 : Int)
theorem ref1_Crc_p17_eq {R : Type} (n : Nat) (a0 : List UInt8) (k : Exit → St → Option R) : vexec (ref1_Crc_C n) n ref1_Crc_c17 ⟨32, [(0, .d (D.str a0)), (3, .d (D.int .u32 (4294967295 : Int))), (4, .d (D.int .i64 (0 : Int)))], []⟩ k = ref1_Crc_p17 n a0 (fun w93 w94 w95 => k .normal ⟨32, [(0, .d (D.str a0)), (3, .d (D.int .u32 w93)), (4, .d (D.int .i64 w94)), (9, .d (D.bool w95))], []⟩) := by
  rw [ref1_Crc_c17_eq]
  unfold ref1_Crc_p17
  exact (ref1_Crc_p16_eq n a0 (blockK 0 k)).trans (ref1_Crc_p16_congr n a0 (fun w93 w94 w95 => rfl))
theorem ref1_Crc_p18_eq {R : Type} (n : Nat) (a0 : List UInt8) (k : Exit → St → Option R) : vexec (ref1_Crc_C n) n ref1_Crc_c18 ⟨32, [(0, .d (D.str a0)), (3, .d (D.int .u32 (4294967295 : Int)))], []⟩ k = ref1_Crc_p18 n a0 (fun w96 w97 w98 => k .normal ⟨32, [(0, .d (D.str a0)), (3, .d (D.int .u32 w96)), (4, .d (D.int .i64 w97)), (9, .d (D.bool w98))], []⟩) := by
  rw [ref1_Crc_c18_eq]
  unfold ref1_Crc_p18
  exact (ref1_Crc_p3_eq n a0 (seqK (ref1_Crc_C n) n ref1_Crc_c17 k)).trans (ref1_Crc_p3_congr n a0 (ref1_Crc_p17_eq n a0 k))
theorem ref1_Crc_p19_eq {R : Type} (n : Nat) (a0 : List UInt8) (w99 : Int) (w100 : Int) (w101 : Bool) (k : Exit → St → Option R) : vexec (ref1_Crc_C n) n ref1_Crc_c19 ⟨32, [(0, .d (D.str a0)), (3, .d (D.int .u32 w99)), (4, .d (D.int .i64 w100)), (9, .d (D.bool w101))], []⟩ k = ref1_Crc_p19 n a0 w99 w100 w101 (fun z102 => k .ret ⟨32, [(2, .d (D.int .u32 z102))], []⟩) := by kernel_rfl
theorem ref1_Crc_p20_eq {R : Type} (n : Nat) (a0 : List UInt8) (k : Exit → St → Option R) : vexec (ref1_Crc_C n) n ref1_Crc_c20 ⟨32, [(0, .d (D.str a0)), (3, .d (D.int .u32 (4294967295 : Int)))], []⟩ k = ref1_Crc_p20 n a0 (fun w103 => k .ret ⟨32, [(2, .d (D.int .u32 w103))], []⟩) := by
  rw [ref1_Crc_c20_eq]
  unfold ref1_Crc_p20
  exact (ref1_Crc_p18_eq n a0 (seqK (ref1_Crc_C n) n ref1_Crc_c19 k)).trans (ref1_Crc_p18_congr n a0 (fun w99 w100 w101 => ref1_Crc_p19_eq n a0 w99 w100 w101 k))
theorem ref1_Crc_p21_eq {R : Type} (n : Nat) (a0 : List UInt8) (k : Exit → St → Option R) : vexec (ref1_Crc_C n) n ref1_Crc_c21 ⟨32, [(0, .d (D.str a0))], []⟩ k = ref1_Crc_p21 n a0 (fun w104 => k .ret ⟨32, [(2, .d (D.int .u32 w104))], []⟩) := by
  rw [ref1_Crc_c21_eq]
  unfold ref1_Crc_p21
  exact (ref1_Crc_p2_eq n a0 (seqK (ref1_Crc_C n) n ref1_Crc_c20 k)).trans (ref1_Crc_p2_congr n a0 (ref1_Crc_p20_eq n a0 k))
theorem ref1_Crc_p22_eq {R : Type} (n : Nat) (a0 : List UInt8) (k : Exit → St → Option R) : vexec (ref1_Crc_C n) n ref1_Crc_c0 ⟨32, [(0, .d (D.str a0))], []⟩ k = ref1_Crc_p22 n a0 (fun w105 => k .ret ⟨32, [(2, .d (D.int .u32 w105))], []⟩) := by
  rw [ref1_Crc_c0_eq]
  unfold ref1_Crc_p22
  exact (ref1_Crc_p1_eq n a0 (seqK (ref1_Crc_C n) n ref1_Crc_c21 k)).trans (ref1_Crc_p1_congr n a0 (ref1_Crc_p21_eq n a0 k))
theorem ref1_Crc_vfn {R : Type} (n : Nat) (a0 : List UInt8) (K : AV → Option R) : vfn (ref1_Crc_C n) n Try.f34 [.d (D.str a0)] [] (retF [[0]] K) = ref1_Crc n a0 (fun r0 => K (.d (D.int .u32 r0))) :=
  (show vfn (ref1_Crc_C n) n Try.f34 [.d (D.str a0)] [] (retF [[0]] K) = vexec (ref1_Crc_C n) n ref1_Crc_c0 ⟨32, [(0, .d (D.str a0))], []⟩ (retX ref1_Crc_tt [.tmp 2] (retF [[0]] K)) from vfn_at (by kernel_rfl) (by kernel_rfl) rfl (by kernel_rfl) rfl (by kernel_rfl) rfl).trans ((ref1_Crc_p22_eq n a0 (retX ref1_Crc_tt [.tmp 2] (retF [[0]] K))).trans (by kernel_rfl))
def ref1_Crc_K : AV → Option (Int) := fun av => match av with
  | .d (D.int .u32 r0) => some r0
  | _ => none
def ref1_Crc_e (n : Nat) : Entry := fun _ _ g avs _ k => match avs with
  | [c0] => prT g c0 fun a0 => 
    gb g (ref1_Crc n a0 some) 0 fun r => k ⟨.d (D.int .u32 r), [], []⟩
  | _ => none
theorem ref1_Crc_ok (n : Nat) : EntryOK Try.prog 34 (ref1_Crc_e n) := by
  intro R site g avs hl k r h
  unfold ref1_Crc_e at h
  split at h
  rotate_left
  · cases h
  replace h := prT_some h
  obtain ⟨a0, h, le0⟩ := h
  replace h := gb_some h
  obtain ⟨res, h, hr⟩ := h
  refine ⟨_, h, fun hg => CallOK.conv (avs' := [.d (D.str a0)]) (.cons (le0 hg) (.nil)) (callOK_fix (K := ref1_Crc_K) (res := res) (ref1_Crc_VC n) (fn := Try.f34) (n := n) (by kernel_rfl) (by kernel_rfl) (by kernel_rfl) (ss := [[0]]) rfl ?_ ?_)⟩
  · exact (ref1_Crc_vfn n a0 ref1_Crc_K).trans (hr hg)
  · intro x hx
    unfold ref1_Crc_K at hx
    split at hx
    · injection hx with hx; subst hx; rfl
    · cases hx
end Go.Vx
/-
  ref41_Encode: the interpreter computes the pure function
-/
set_option linter.unusedVariables false
set_option linter.unusedSimpArgs false
set_option maxRecDepth 100000
namespace Go.Vx
open Go.Proofs
noncomputable def ref41_Encode_c0 : Code := bodyOf Try.f13
def ref41_Encode_tt : TT := [(3, ⟨.int .i64, 1, 8, [.int .i64 0], [.int .i64 0], [], none⟩), (9, ⟨.str, 1, 16, [.string ⟨#[]⟩], [.str []], [], none⟩), (23, ⟨.struct, 2, 24, [.int .i64 0, .string ⟨#[]⟩], [.int .i64 0, .str []], [(0, 3), (1, 9)], some [.int .i64, .str]⟩), (52, ⟨.int .u32, 1, 4, [.int .u32 0], [.int .u32 0], [], none⟩)]
theorem ref41_Encode_tt_eq : mkTT Try.prog [3, 9, 23, 52] = ref41_Encode_tt := by kernel_rfl
def ref41_Encode_cfg : List (Nat × Cfg) := [(0, ⟨[1], [(1, 1)], [], [], []⟩), (1, ⟨[1, 12], [(1, 1)], [], [], []⟩), (2, ⟨[2, 3], [], [], [], []⟩), (3, ⟨[1, 16], [(1, 1)], [], [], []⟩), (4, ⟨[2, 3], [], [], [], []⟩), (5, ⟨[1, 4], [(1, 1)], [], [], []⟩), (6, ⟨[2, 3], [], [], [], []⟩)]
def ref41_Encode_C (n : Nat) : VC := ⟨specOf [(33, ref41_four_e n), (34, ref1_Crc_e n)], ref41_Encode_tt, ref41_Encode_cfg⟩
theorem ref41_Encode_ents (n : Nat) : EntsOK Try.prog [(33, ref41_four_e n), (34, ref1_Crc_e n)] := ⟨ref41_four_ok n, ⟨ref1_Crc_ok n, trivial⟩⟩
theorem ref41_Encode_VC (n : Nat) : VCOk Try.prog (ref41_Encode_C n) := ⟨specOf_ok (ref41_Encode_ents n), (ref41_Encode_tt_eq ▸ mkTT_ok _ : TOk Try.prog ref41_Encode_tt), by kernel_rfl⟩
theorem ref41_Encode_p1_congr {R : Type} (n : Nat) (a0_0 : Int) (a0_1 : List UInt8) {k0 kk0 : (List UInt8) → Int → Option R} (hq0 : ∀ x0 x1, k0 x0 x1 = kk0 x0 x1) : ref41_Encode_p1 n a0_0 a0_1 k0 = ref41_Encode_p1 n a0_0 a0_1 kk0 := by
  obtain rfl : k0 = kk0 := funext fun x0 => funext fun x1 => hq0 x0 x1
  rfl
theorem ref41_Encode_p1_eq {R : Type} (n : Nat) (a0_0 : Int) (a0_1 : List UInt8) (k : Exit → St → Option R) : vexec (ref41_Encode_C n) n ref41_Encode_c0 ⟨38, [(0, .ag [.d (D.int .i64 a0_0), .d (D.str a0_1)])], []⟩ k = ref41_Encode_p1 n a0_0 a0_1 (fun z10 z11 => k .ret ⟨38, [(2, .d (D.str z10)), (3, .d (D.int .i64 z11))], []⟩) := by kernel_rfl
theorem ref41_Encode_vfn {R : Type} (n : Nat) (a0_0 : Int) (a0_1 : List UInt8) (K : AV → Option R) : vfn (ref41_Encode_C n) n Try.f13 [.ag [.d (D.int .i64 a0_0), .d (D.str a0_1)]] [] (retF [[0], [0]] K) = ref41_Encode n a0_0 a0_1 (fun r0 r1 => K (.tup [.d (D.str r0), .d (D.int .i64 r1)])) :=
  (show vfn (ref41_Encode_C n) n Try.f13 [.ag [.d (D.int .i64 a0_0), .d (D.str a0_1)]] [] (retF [[0], [0]] K) = vexec (ref41_Encode_C n) n ref41_Encode_c0 ⟨38, [(0, .ag [.d (D.int .i64 a0_0), .d (D.str a0_1)])], []⟩ (retX ref41_Encode_tt [.tmp 2, .tmp 3] (retF [[0], [0]] K)) from vfn_at (by kernel_rfl) (by kernel_rfl) rfl (by kernel_rfl) rfl (by kernel_rfl) rfl).trans ((ref41_Encode_p1_eq n a0_0 a0_1 (retX ref41_Encode_tt [.tmp 2, .tmp 3] (retF [[0], [0]] K))).trans (by kernel_rfl))
def ref41_Encode_K : AV → Option ((List UInt8) × Int) := fun av => match av with
  | .tup [.d (D.str r0), .d (D.int .i64 r1)] => some (r0, r1)
  | _ => none
def ref41_Encode_e (n : Nat) : Entry := fun _ _ g avs _ k => match avs with
  | [c0] => 
    prG c0 fun l0 => (match l0 with
    | [c0_0, c0_1] => prI g .i64 c0_0 fun a0_0 => prT g c0_1 fun a0_1 => 
    gb g (ref41_Encode n a0_0 a0_1 (fun r0 r1 => some (r0, r1))) ([], 0) fun r => k ⟨.tup [.d (D.str r.1), .d (D.int .i64 r.2)], [], []⟩
    | _ => none)
  | _ => none
theorem ref41_Encode_ok (n : Nat) : EntryOK Try.prog 13 (ref41_Encode_e n) := by
  intro R site g avs hl k r h
  unfold ref41_Encode_e at h
  split at h
  rotate_left
  · cases h
  replace h := prG_some h
  obtain ⟨l0, h, e0⟩ := h
  subst e0
  split at h
  rotate_left
  · cases h
  replace h := prI_some h
  obtain ⟨a0_0, h, le0⟩ := h
  replace h := prT_some h
  obtain ⟨a0_1, h, le1⟩ := h
  replace h := gb_some h
  obtain ⟨res, h, hr⟩ := h
  refine ⟨_, h, fun hg => CallOK.conv (avs' := [.ag [.d (D.int .i64 a0_0), .d (D.str a0_1)]]) (.cons (.ag (.cons (le0 hg) (.cons (le1 hg) (.nil)))) (.nil)) (callOK_fix (K := ref41_Encode_K) (res := res) (ref41_Encode_VC n) (fn := Try.f13) (n := n) (by kernel_rfl) (by kernel_rfl) (by kernel_rfl) (ss := [[0], [0]]) rfl ?_ ?_)⟩
  · exact (ref41_Encode_vfn n a0_0 a0_1 ref41_Encode_K).trans (hr hg)
  · intro x hx
    unfold ref41_Encode_K at hx
    split at hx
    · injection hx with hx; subst hx; rfl
    · cases hx
end Go.Vx
/-
  internal_stringslite_HasPrefix: the interpreter computes the pure function
-/
set_option linter.unusedVariables false
set_option linter.unusedSimpArgs false
set_option maxRecDepth 100000
namespace Go.Vx
open Go.Proofs
noncomputable def internal_stringslite_HasPrefix_c0 : Code := bodyOf Try.f46
def internal_stringslite_HasPrefix_tt : TT := [(3, ⟨.int .i64, 1, 8, [.int .i64 0], [.int .i64 0], [], none⟩), (9, ⟨.str, 1, 16, [.string ⟨#[]⟩], [.str []], [], none⟩)]
theorem internal_stringslite_HasPrefix_tt_eq : mkTT Try.prog [3, 9] = internal_stringslite_HasPrefix_tt := by kernel_rfl
def internal_stringslite_HasPrefix_cfg : List (Nat × Cfg) := [(0, ⟨[0, 1], [], [], [], []⟩), (1, ⟨[4], [], [], [], []⟩)]
def internal_stringslite_HasPrefix_C (n : Nat) : VC := ⟨specOf [], internal_stringslite_HasPrefix_tt, internal_stringslite_HasPrefix_cfg⟩
theorem internal_stringslite_HasPrefix_ents (n : Nat) : EntsOK Try.prog [] := trivial
theorem internal_stringslite_HasPrefix_VC (n : Nat) : VCOk Try.prog (internal_stringslite_HasPrefix_C n) := ⟨specOf_ok (internal_stringslite_HasPrefix_ents n), (internal_stringslite_HasPrefix_tt_eq ▸ mkTT_ok _ : TOk Try.prog internal_stringslite_HasPrefix_tt), by kernel_rfl⟩
theorem internal_stringslite_HasPrefix_p1_congr {R : Type} (n : Nat) (a0 : List UInt8) (a1 : List UInt8) {k0 kk0 : Bool → Option R} (hq0 : ∀ x0, k0 x0 = kk0 x0) : internal_stringslite_HasPrefix_p1 n a0 a1 k0 = internal_stringslite_HasPrefix_p1 n a0 a1 kk0 := by
  obtain rfl : k0 = kk0 := funext fun x0 => hq0 x0
  rfl
theorem internal_stringslite_HasPrefix_p1_eq {R : Type} (n : Nat) (a0 : List UInt8) (a1 : List UInt8) (k : Exit → St → Option R) : vexec (internal_stringslite_HasPrefix_C n) n internal_stringslite_HasPrefix_c0 ⟨18, [(0, .d (D.str a0)), (1, .d (D.str a1))], []⟩ k = internal_stringslite_HasPrefix_p1 n a0 a1 (fun z2 => k .ret ⟨18, [(4, .d (D.bool z2))], []⟩) := by kernel_rfl
theorem internal_stringslite_HasPrefix_vfn {R : Type} (n : Nat) (a0 : List UInt8) (a1 : List UInt8) (K : AV → Option R) : vfn (internal_stringslite_HasPrefix_C n) n Try.f46 [.d (D.str a0), .d (D.str a1)] [] (retF [[0]] K) = internal_stringslite_HasPrefix n a0 a1 (fun r0 => K (.d (D.bool r0))) :=
  (show vfn (internal_stringslite_HasPrefix_C n) n Try.f46 [.d (D.str a0), .d (D.str a1)] [] (retF [[0]] K) = vexec (internal_stringslite_HasPrefix_C n) n internal_stringslite_HasPrefix_c0 ⟨18, [(0, .d (D.str a0)), (1, .d (D.str a1))], []⟩ (retX internal_stringslite_HasPrefix_tt [.tmp 4] (retF [[0]] K)) from vfn_at (by kernel_rfl) (by kernel_rfl) rfl (by kernel_rfl) rfl (by kernel_rfl) rfl).trans ((internal_stringslite_HasPrefix_p1_eq n a0 a1 (retX internal_stringslite_HasPrefix_tt [.tmp 4] (retF [[0]] K))).trans (by kernel_rfl))
def internal_stringslite_HasPrefix_K : AV → Option (Bool) := fun av => match av with
  | .d (D.bool r0) => some r0
  | _ => none
def internal_stringslite_HasPrefix_e (n : Nat) : Entry := fun _ _ g avs _ k => match avs with
  | [c0, c1] => prT g c0 fun a0 => prT g c1 fun a1 => 
    gb g (internal_stringslite_HasPrefix n a0 a1 some) false fun r => k ⟨.d (D.bool r), [], []⟩
  | _ => none
theorem internal_stringslite_HasPrefix_ok (n : Nat) : EntryOK Try.prog 46 (internal_stringslite_HasPrefix_e n) := by
  intro R site g avs hl k r h
  unfold internal_stringslite_HasPrefix_e at h
  split at h
  rotate_left
  · cases h
  replace h := prT_some h
  obtain ⟨a0, h, le0⟩ := h
  replace h := prT_some h
  obtain ⟨a1, h, le1⟩ := h
  replace h := gb_some h
  obtain ⟨res, h, hr⟩ := h
  refine ⟨_, h, fun hg => CallOK.conv (avs' := [.d (D.str a0), .d (D.str a1)]) (.cons (le0 hg) (.cons (le1 hg) (.nil))) (callOK_fix (K := internal_stringslite_HasPrefix_K) (res := res) (internal_stringslite_HasPrefix_VC n) (fn := Try.f46) (n := n) (by kernel_rfl) (by kernel_rfl) (by kernel_rfl) (ss := [[0]]) rfl ?_ ?_)⟩
  · exact (internal_stringslite_HasPrefix_vfn n a0 a1 internal_stringslite_HasPrefix_K).trans (hr hg)
  · intro x hx
    unfold internal_stringslite_HasPrefix_K at hx
    split at hx
    · injection hx with hx; subst hx; rfl
    · cases hx
end Go.Vx
/-
  strings_HasPrefix: the interpreter computes the pure function
-/
set_option linter.unusedVariables false
set_option linter.unusedSimpArgs false
set_option maxRecDepth 100000
namespace Go.Vx
open Go.Proofs
noncomputable def strings_HasPrefix_c0 : Code := bodyOf Try.f41
def strings_HasPrefix_tt : TT := []
theorem strings_HasPrefix_tt_eq : mkTT Try.prog [] = strings_HasPrefix_tt := by kernel_rfl
def strings_HasPrefix_cfg : List (Nat × Cfg) := [(0, ⟨[0, 1], [], [], [], []⟩), (1, ⟨[4], [], [], [], []⟩)]
def strings_HasPrefix_C (n : Nat) : VC := ⟨specOf [(46, internal_stringslite_HasPrefix_e n)], strings_HasPrefix_tt, strings_HasPrefix_cfg⟩
theorem strings_HasPrefix_ents (n : Nat) : EntsOK Try.prog [(46, internal_stringslite_HasPrefix_e n)] := ⟨internal_stringslite_HasPrefix_ok n, trivial⟩
theorem strings_HasPrefix_VC (n : Nat) : VCOk Try.prog (strings_HasPrefix_C n) := ⟨specOf_ok (strings_HasPrefix_ents n), (strings_HasPrefix_tt_eq ▸ mkTT_ok _ : TOk Try.prog strings_HasPrefix_tt), by kernel_rfl⟩
theorem strings_HasPrefix_p1_congr {R : Type} (n : Nat) (a0 : List UInt8) (a1 : List UInt8) {k0 kk0 : Bool → Option R} (hq0 : ∀ x0, k0 x0 = kk0 x0) : strings_HasPrefix_p1 n a0 a1 k0 = strings_HasPrefix_p1 n a0 a1 kk0 := by
  obtain rfl : k0 = kk0 := funext fun x0 => hq0 x0
  rfl
theorem strings_HasPrefix_p1_eq {R : Type} (n : Nat) (a0 : List UInt8) (a1 : List UInt8) (k : Exit → St → Option R) : vexec (strings_HasPrefix_C n) n strings_HasPrefix_c0 ⟨8, [(0, .d (D.str a0)), (1, .d (D.str a1))], []⟩ k = strings_HasPrefix_p1 n a0 a1 (fun r1 => k .ret ⟨8, [(4, .d (D.bool r1))], []⟩) := by kernel_rfl
theorem strings_HasPrefix_vfn {R : Type} (n : Nat) (a0 : List UInt8) (a1 : List UInt8) (K : AV → Option R) : vfn (strings_HasPrefix_C n) n Try.f41 [.d (D.str a0), .d (D.str a1)] [] (retF [[0]] K) = strings_HasPrefix n a0 a1 (fun r0 => K (.d (D.bool r0))) :=
  (show vfn (strings_HasPrefix_C n) n Try.f41 [.d (D.str a0), .d (D.str a1)] [] (retF [[0]] K) = vexec (strings_HasPrefix_C n) n strings_HasPrefix_c0 ⟨8, [(0, .d (D.str a0)), (1, .d (D.str a1))], []⟩ (retX strings_HasPrefix_tt [.tmp 4] (retF [[0]] K)) from vfn_at (by kernel_rfl) (by kernel_rfl) rfl (by kernel_rfl) rfl (by kernel_rfl) rfl).trans ((strings_HasPrefix_p1_eq n a0 a1 (retX strings_HasPrefix_tt [.tmp 4] (retF [[0]] K))).trans (by kernel_rfl))
def strings_HasPrefix_K : AV → Option (Bool) := fun av => match av with
  | .d (D.bool r0) => some r0
  | _ => none
def strings_HasPrefix_e (n : Nat) : Entry := fun _ _ g avs _ k => match avs with
  | [c0, c1] => prT g c0 fun a0 => prT g c1 fun a1 => 
    gb g (strings_HasPrefix n a0 a1 some) false fun r => k ⟨.d (D.bool r), [], []⟩
  | _ => none
theorem strings_HasPrefix_ok (n : Nat) : EntryOK Try.prog 41 (strings_HasPrefix_e n) := by
  intro R site g avs hl k r h
  unfold strings_HasPrefix_e at h
  split at h
  rotate_left
  · cases h
  replace h := prT_some h
  obtain ⟨a0, h, le0⟩ := h
  replace h := prT_some h
  obtain ⟨a1, h, le1⟩ := h
  replace h := gb_some h
  obtain ⟨res, h, hr⟩ := h
  refine ⟨_, h, fun hg => CallOK.conv (avs' := [.d (D.str a0), .d (D.str a1)]) (.cons (le0 hg) (.cons (le1 hg) (.nil))) (callOK_fix (K := strings_HasPrefix_K) (res := res) (strings_HasPrefix_VC n) (fn := Try.f41) (n := n) (by kernel_rfl) (by kernel_rfl) (by kernel_rfl) (ss := [[0]]) rfl ?_ ?_)⟩
  · exact (strings_HasPrefix_vfn n a0 a1 strings_HasPrefix_K).trans (hr hg)
  · intro x hx
    unfold strings_HasPrefix_K at hx
    split at hx
    · injection hx with hx; subst hx; rfl
    · cases hx
end Go.Vx
/-
  store_value: the interpreter computes the pure function
-/
set_option linter.unusedVariables false
set_option linter.unusedSimpArgs false
set_option maxRecDepth 100000
namespace Go.Vx
open Go.Proofs
noncomputable def store_value_c0 : Code := bodyOf Try.f42
noncomputable def store_value_c1 : Code := cL (bodyOf Try.f42)
noncomputable def store_value_c2 : Code := cL (cR (bodyOf Try.f42))
noncomputable def store_value_c3 : Code := cL (cL (cR (cR (bodyOf Try.f42))))
noncomputable def store_value_c4 : Code := cB (cB (cR (cL (cR (cR (bodyOf Try.f42))))))
noncomputable def store_value_c5 : Code := cB (cR (cL (cR (cR (bodyOf Try.f42)))))
noncomputable def store_value_c6 : Code := cR (cL (cR (cR (bodyOf Try.f42))))
noncomputable def store_value_c7 : Code := cL (cR (cR (bodyOf Try.f42)))
noncomputable def store_value_c8 : Code := cR (cR (cR (bodyOf Try.f42)))
noncomputable def store_value_c9 : Code := cR (cR (bodyOf Try.f42))
noncomputable def store_value_c10 : Code := cR (bodyOf Try.f42)
theorem store_value_c5_eq : store_value_c5 = .loop store_value_c4 := by kernel_rfl
theorem store_value_c6_eq : store_value_c6 = .block 0 store_value_c5 := by kernel_rfl
theorem store_value_c7_eq : store_value_c7 = .seq store_value_c3 store_value_c6 := by kernel_rfl
theorem store_value_c9_eq : store_value_c9 = .seq store_value_c7 store_value_c8 := by kernel_rfl
theorem store_value_c10_eq : store_value_c10 = .seq store_value_c2 store_value_c9 := by kernel_rfl
theorem store_value_c0_eq : store_value_c0 = .seq store_value_c1 store_value_c10 := by kernel_rfl
def store_value_tt : TT := [(3, ⟨.int .i64, 1, 8, [.int .i64 0], [.int .i64 0], [], none⟩), (5, ⟨.int .u8, 1, 1, [.int .u8 0], [.int .u8 0], [], none⟩), (9, ⟨.str, 1, 16, [.string ⟨#[]⟩], [.str []], [], none⟩), (59, ⟨.sl 5 1, 1, 24, [.slice none 0 0], [.sl 1 []], [], none⟩)]
theorem store_value_tt_eq : mkTT Try.prog [3, 5, 9, 59] = store_value_tt := by kernel_rfl
def store_value_cfg : List (Nat × Cfg) := [(0, ⟨[0], [], [], [], []⟩), (1, ⟨[0, 3], [], [], [], []⟩), (2, ⟨[3, 8, 9, 10], [], [], [], []⟩), (3, ⟨[3, 8, 9, 10, 11], [], [], [], []⟩), (4, ⟨[3, 5, 8, 9, 10], [], [], [], []⟩), (5, ⟨[3, 8, 9, 10], [], [], [], []⟩), (6, ⟨[3, 8, 9, 10], [], [], [], []⟩), (7, ⟨[2], [], [], [], []⟩)]
def store_value_C (n : Nat) : VC := ⟨specOf [], store_value_tt, store_value_cfg⟩
theorem store_value_ents (n : Nat) : EntsOK Try.prog [] := trivial
theorem store_value_VC (n : Nat) : VCOk Try.prog (store_value_C n) := ⟨specOf_ok (store_value_ents n), (store_value_tt_eq ▸ mkTT_ok _ : TOk Try.prog store_value_tt), by kernel_rfl⟩
theorem store_value_p1_congr {R : Type} (n : Nat) (a0 : List UInt8) {k0 kk0 : Option R} (hq0 : k0 = kk0) : store_value_p1 n a0 k0 = store_value_p1 n a0 kk0 := by
  obtain rfl : k0 = kk0 := hq0
  rfl
theorem store_value_p2_congr {R : Type} (n : Nat) (a0 : List UInt8) {k0 kk0 : Option R} (hq0 : k0 = kk0) : store_value_p2 n a0 k0 = store_value_p2 n a0 kk0 := by
  obtain rfl : k0 = kk0 := hq0
  rfl
theorem store_value_p3_congr {R : Type} (n : Nat) (a0 : List UInt8) {k0 kk0 : (List (List D)) → Int → Option R} (hq0 : ∀ x0 x1, k0 x0 x1 = kk0 x0 x1) : store_value_p3 n a0 k0 = store_value_p3 n a0 kk0 := by
  obtain rfl : k0 = kk0 := funext fun x0 => funext fun x1 => hq0 x0 x1
  rfl
theorem store_value_p4_congr {R : Type} (n : Nat) (h6 : Int) (w4 : List (List D)) (w5 : Int) (h9 : Int) {k0 kk0 : Int → Int → Option R} {k1 kk1 : Bool → Option R} (hq0 : ∀ x0 x1, k0 x0 x1 = kk0 x0 x1) (hq1 : ∀ x0, k1 x0 = kk1 x0) : store_value_p4 n h6 w4 w5 h9 k0 k1 = store_value_p4 n h6 w4 w5 h9 kk0 kk1 := by
  obtain rfl : k0 = kk0 := funext fun x0 => funext fun x1 => hq0 x0 x1
  obtain rfl : k1 = kk1 := funext fun x0 => hq1 x0
  rfl
theorem store_value_p5_congr {R : Type} (n : Nat) (w4 : List (List D)) (w5 : Int) {k0 kk0 : Int → Int → Bool → Option R} (hq0 : ∀ x0 x1 x2, k0 x0 x1 x2 = kk0 x0 x1 x2) : store_value_p5 n w4 w5 k0 = store_value_p5 n w4 w5 kk0 := by
  obtain rfl : k0 = kk0 := funext fun x0 => funext fun x1 => funext fun x2 => hq0 x0 x1 x2
  rfl
theorem store_value_p6_congr {R : Type} (n : Nat) (w4 : List (List D)) (w5 : Int) {k0 kk0 : Int → Int → Bool → Option R} (hq0 : ∀ x0 x1 x2, k0 x0 x1 x2 = kk0 x0 x1 x2) : store_value_p6 n w4 w5 k0 = store_value_p6 n w4 w5 kk0 := by
  obtain rfl : k0 = kk0 := funext fun x0 => funext fun x1 => funext fun x2 => hq0 x0 x1 x2
  rfl
theorem store_value_p7_congr {R : Type} (n : Nat) (a0 : List UInt8) {k0 kk0 : Int → (List (List D)) → Int → Int → Bool → Option R} (hq0 : ∀ x0 x1 x2 x3 x4, k0 x0 x1 x2 x3 x4 = kk0 x0 x1 x2 x3 x4) : store_value_p7 n a0 k0 = store_value_p7 n a0 kk0 := by
  obtain rfl : k0 = kk0 := funext fun x0 => funext fun x1 => funext fun x2 => funext fun x3 => funext fun x4 => hq0 x0 x1 x2 x3 x4
  rfl
theorem store_value_p8_congr {R : Type} (n : Nat) (w33 : Int) (w34 : List (List D)) (w35 : Int) (w36 : Int) (w37 : Bool) {k0 kk0 : Option R} (hq0 : k0 = kk0) : store_value_p8 n w33 w34 w35 w36 w37 k0 = store_value_p8 n w33 w34 w35 w36 w37 kk0 := by
  obtain rfl : k0 = kk0 := hq0
  rfl
theorem store_value_p9_congr {R : Type} (n : Nat) (a0 : List UInt8) {k0 kk0 : Int → Option R} (hq0 : ∀ x0, k0 x0 = kk0 x0) : store_value_p9 n a0 k0 = store_value_p9 n a0 kk0 := by
  obtain rfl : k0 = kk0 := funext fun x0 => hq0 x0
  rfl
theorem store_value_p10_congr {R : Type} (n : Nat) (a0 : List UInt8) {k0 kk0 : Int → Option R} (hq0 : ∀ x0, k0 x0 = kk0 x0) : store_value_p10 n a0 k0 = store_value_p10 n a0 kk0 := by
  obtain rfl : k0 = kk0 := funext fun x0 => hq0 x0
  rfl
theorem store_value_p11_congr {R : Type} (n : Nat) (a0 : List UInt8) {k0 kk0 : Int → Option R} (hq0 : ∀ x0, k0 x0 = kk0 x0) : store_value_p11 n a0 k0 = store_value_p11 n a0 kk0 := by
  obtain rfl : k0 = kk0 := funext fun x0 => hq0 x0
  rfl
theorem store_value_p1_eq {R : Type} (n : Nat) (a0 : List UInt8) (k : Exit → St → Option R) : vexec (store_value_C n) n store_value_c1 ⟨21, [(0, .d (D.str a0))], []⟩ k = store_value_p1 n a0 (k .normal ⟨21, [(0, .d (D.str a0))], []⟩) := by kernel_rfl
theorem store_value_p2_eq {R : Type} (n : Nat) (a0 : List UInt8) (k : Exit → St → Option R) : vexec (store_value_C n) n store_value_c2 ⟨21, [(0, .d (D.str a0))], []⟩ k = store_value_p2 n a0 (k .normal ⟨21, [(0, .d (D.str a0)), (3, .d (D.int .i64 (0 : Int)))], []⟩) := by kernel_rfl
theorem store_value_p3_eq {R : Type} (n : Nat) (a0 : List UInt8) (k : Exit → St → Option R) : vexec (store_value_C n) n store_value_c3 ⟨21, [(0, .d (D.str a0)), (3, .d (D.int .i64 (0 : Int)))], []⟩ k = store_value_p3 n a0 (fun z2 z3 => k .normal ⟨21, [(3, .d (D.int .i64 (0 : Int))), (8, .d (D.sl 1 z2)), (9, .d (D.int .i64 z3)), (10, .d (D.int .i64 (0 : Int)))], []⟩) := by kernel_rfl
theorem store_value_p4_eq {R : Type} (n : Nat) (h6 : Int) (w4 : List (List D)) (w5 : Int) (h9 : Int) (k : Exit → St → Option R) : vexec (store_value_C n) n store_value_c4 ⟨21, [(3, .d (D.int .i64 h6)), (8, .d (D.sl 1 w4)), (9, .d (D.int .i64 w5)), (10, .d (D.int .i64 h9))], []⟩ k = store_value_p4 n h6 w4 w5 h9 (fun z21 z22 => k .normal ⟨21, [(3, .d (D.int .i64 z21)), (8, .d (D.sl 1 w4)), (9, .d (D.int .i64 w5)), (10, .d (D.int .i64 z22))], []⟩) (fun z23 => k (.exit 0) ⟨21, [(3, .d (D.int .i64 h6)), (8, .d (D.sl 1 w4)), (9, .d (D.int .i64 w5)), (10, .d (D.int .i64 h9)), (11, .d (D.bool z23))], []⟩) := by kernel_rfl
theorem store_value_r5_eq {R : Type} (n : Nat) (w4 : List (List D)) (w5 : Int) (k : Exit → St → Option R) : ∀ (m : Nat) (h6 : Int) (h9 : Int), loopN (vexec (store_value_C n) n store_value_c4) m ⟨21, [(3, .d (D.int .i64 h6)), (8, .d (D.sl 1 w4)), (9, .d (D.int .i64 w5)), (10, .d (D.int .i64 h9))], []⟩ k = store_value_r5 n w4 w5 (fun h6 h9 w26 => k (.exit 0) ⟨21, [(3, .d (D.int .i64 h6)), (8, .d (D.sl 1 w4)), (9, .d (D.int .i64 w5)), (10, .d (D.int .i64 h9)), (11, .d (D.bool w26))], []⟩) m h6 h9
  | 0, _, _ => rfl
  | m + 1, h6, h9 => (store_value_p4_eq n h6 w4 w5 h9 (loopK (vexec (store_value_C n) n store_value_c4) m k)).trans (store_value_p4_congr n h6 w4 w5 h9 (fun w24 w25 => store_value_r5_eq n w4 w5 k m w24 w25) (fun w26 => rfl))
theorem store_value_p5_eq {R : Type} (n : Nat) (w4 : List (List D)) (w5 : Int) (k : Exit → St → Option R) : vexec (store_value_C n) n store_value_c5 ⟨21, [(3, .d (D.int .i64 (0 : Int))), (8, .d (D.sl 1 w4)), (9, .d (D.int .i64 w5)), (10, .d (D.int .i64 (0 : Int)))], []⟩ k = store_value_p5 n w4 w5 (fun h6 h9 w26 => k (.exit 0) ⟨21, [(3, .d (D.int .i64 h6)), (8, .d (D.sl 1 w4)), (9, .d (D.int .i64 w5)), (10, .d (D.int .i64 h9)), (11, .d (D.bool w26))], []⟩) := by
  rw [store_value_c5_eq]
  exact store_value_r5_eq n w4 w5 k n (0 : Int) (0 : Int)
theorem store_value_p6_eq {R : Type} (n : Nat) (w4 : List (List D)) (w5 : Int) (k : Exit → St → Option R) : vexec (store_value_C n) n store_value_c6 ⟨21, [(3, .d (D.int .i64 (0 : Int))), (8, .d (D.sl 1 w4)), (9, .d (D.int .i64 w5)), (10, .d (D.int .i64 (0 : Int)))], []⟩ k = store_value_p6 n w4 w5 (fun w27 w28 w29 => k .normal ⟨21, [(3, .d (D.int .i64 w27)), (8, .d (D.sl 1 w4)), (9, .d (D.int .i64 w5)), (10, .d (D.int .i64 w28)), (11, .d (D.bool w29))], []⟩) := by
  rw [store_value_c6_eq]
  unfold store_value_p6
  exact (store_value_p5_eq n w4 w5 (blockK 0 k)).trans (store_value_p5_congr n w4 w5 (fun w27 w28 w29 => rfl))
theorem store_value_p7_eq {R : Type} (n : Nat) (a0 : List UInt8) (k : Exit → St → Option R) : vexec (store_value_C n) n store_value_c7 ⟨21, [(0, .d (D.str a0)), (3, .d (D.int .i64 (0 : Int)))], []⟩ k = store_value_p7 n a0 (fun w30 w4 w5 w31 w32 => k .normal ⟨21, [(3, .d (D.int .i64 w30)), (8, .d (D.sl 1 w4)), (9, .d (D.int .i64 w5)), (10, .d (D.int .i64 w31)), (11, .d (D.bool w32))], []⟩) := by
  rw [store_value_c7_eq]
  unfold store_value_p7
  exact (store_value_p3_eq n a0 (seqK (store_value_C n) n store_value_c6 k)).trans (store_value_p3_congr n a0 (fun w4 w5 => store_value_p6_eq n w4 w5 k))
theorem store_value_p8_eq {R : Type} (n : Nat) (w33 : Int) (w34 : List (List D)) (w35 : Int) (w36 : Int) (w37 : Bool) (k : Exit → St → Option R) : vexec (store_value_C n) n store_value_c8 ⟨21, [(3, .d (D.int .i64 w33)), (8, .d (D.sl 1 w34)), (9, .d (D.int .i64 w35)), (10, .d (D.int .i64 w36)), (11, .d (D.bool w37))], []⟩ k = store_value_p8 n w33 w34 w35 w36 w37 (k .ret ⟨21, [(2, .d (D.int .i64 w33))], []⟩) := by kernel_rfl
theorem store_value_p9_eq {R : Type} (n : Nat) (a0 : List UInt8) (k : Exit → St → Option R) : vexec (store_value_C n) n store_value_c9 ⟨21, [(0, .d (D.str a0)), (3, .d (D.int .i64 (0 : Int)))], []⟩ k = store_value_p9 n a0 (fun w33 => k .ret ⟨21, [(2, .d (D.int .i64 w33))], []⟩) := by
  rw [store_value_c9_eq]
  unfold store_value_p9
  exact (store_value_p7_eq n a0 (seqK (store_value_C n) n store_value_c8 k)).trans (store_value_p7_congr n a0 (fun w33 w34 w35 w36 w37 => store_value_p8_eq n w33 w34 w35 w36 w37 k))
theorem store_value_p10_eq {R : Type} (n : Nat) (a0 : List UInt8) (k : Exit → St → Option R) : vexec (store_value_C n) n store_value_c10 ⟨21, [(0, .d (D.str a0))], []⟩ k = store_value_p10 n a0 (fun w38 => k .ret ⟨21, [(2, .d (D.int .i64 w38))], []⟩) := by
  rw [store_value_c10_eq]
  unfold store_value_p10
  exact (store_value_p2_eq n a0 (seqK (store_value_C n) n store_value_c9 k)).trans (store_value_p2_congr n a0 (store_value_p9_eq n a0 k))
theorem store_value_p11_eq {R : Type} (n : Nat) (a0 : List UInt8) (k : Exit → St → Option R) : vexec (store_value_C n) n store_value_c0 ⟨21, [(0, .d (D.str a0))], []⟩ k = store_value_p11 n a0 (fun w39 => k .ret ⟨21, [(2, .d (D.int .i64 w39))], []⟩) := by
  rw [store_value_c0_eq]
  unfold store_value_p11
  exact (store_value_p1_eq n a0 (seqK (store_value_C n) n store_value_c10 k)).trans (store_value_p1_congr n a0 (store_value_p10_eq n a0 k))
theorem store_value_vfn {R : Type} (n : Nat) (a0 : List UInt8) (K : AV → Option R) : vfn (store_value_C n) n Try.f42 [.d (D.str a0)] [] (retF [[0]] K) = store_value n a0 (fun r0 => K (.d (D.int .i64 r0))) :=
  (show vfn (store_value_C n) n Try.f42 [.d (D.str a0)] [] (retF [[0]] K) = vexec (store_value_C n) n store_value_c0 ⟨21, [(0, .d (D.str a0))], []⟩ (retX store_value_tt [.tmp 2] (retF [[0]] K)) from vfn_at (by kernel_rfl) (by kernel_rfl) rfl (by kernel_rfl) rfl (by kernel_rfl) rfl).trans ((store_value_p11_eq n a0 (retX store_value_tt [.tmp 2] (retF [[0]] K))).trans (by kernel_rfl))
def store_value_K : AV → Option (Int) := fun av => match av with
  | .d (D.int .i64 r0) => some r0
  | _ => none
def store_value_e (n : Nat) : Entry := fun _ _ g avs _ k => match avs with
  | [c0] => prT g c0 fun a0 => 
    gb g (store_value n a0 some) 0 fun r => k ⟨.d (D.int .i64 r), [], []⟩
  | _ => none
theorem store_value_ok (n : Nat) : EntryOK Try.prog 42 (store_value_e n) := by
  intro R site g avs hl k r h
  unfold store_value_e at h
  split at h
  rotate_left
  · cases h
  replace h := prT_some h
  obtain ⟨a0, h, le0⟩ := h
  replace h := gb_some h
  obtain ⟨res, h, hr⟩ := h
  refine ⟨_, h, fun hg => CallOK.conv (avs' := [.d (D.str a0)]) (.cons (le0 hg) (.nil)) (callOK_fix (K := store_value_K) (res := res) (store_value_VC n) (fn := Try.f42) (n := n) (by kernel_rfl) (by kernel_rfl) (by kernel_rfl) (ss := [[0]]) rfl ?_ ?_)⟩
  · exact (store_value_vfn n a0 store_value_K).trans (hr hg)
  · intro x hx
    unfold store_value_K at hx
    split at hx
    · injection hx with hx; subst hx; rfl
    · cases hx
end Go.Vx
/-
  internal_stringslite_Clone: its contract, by the library
-/
set_option linter.unusedVariables false
namespace Go.Vx
open Go.Proofs
def internal_stringslite_Clone_e (n : Nat) : Entry := fun _ _ g avs _ k => match avs with
  | [c0] => prT g c0 fun a0 => gb g (internal_stringslite_Clone n a0 some) [] fun r => k ⟨.d (D.str r), [], []⟩
  | _ => none
theorem internal_stringslite_Clone_ok (n : Nat) : EntryOK Try.prog 47 (internal_stringslite_Clone_e n) := by
  intro R site g avs hl k r h
  unfold internal_stringslite_Clone_e at h
  split at h
  rotate_left
  · cases h
  replace h := prT_some h
  obtain ⟨a0, h, le0⟩ := h
  replace h := gb_some h
  obtain ⟨res, h, hr⟩ := h
  refine ⟨_, h, fun hg => CallOK.conv (avs' := [.d (.str a0)]) (.cons (le0 hg) .nil) ?_⟩
  have hr := hr hg
  unfold internal_stringslite_Clone at hr
  cases hb : Nat.ble a0.length 281474976710656 with
  | false => simp [hb] at hr
  | true =>
    simp only [hb, cond_true, Option.some.injEq] at hr
    subst hr
    refine callOK_same Try.func47 (by kernel_rfl) (by kernel_rfl) fun b w hs => Try.stringslite_Clone b w ?_
    have := Nat.le_of_ble_eq_true hb
    rw [← hs] at this
    simpa using this
end Go.Vx
/-
  strings_Clone: the interpreter computes the pure function
-/
set_option linter.unusedVariables false
set_option linter.unusedSimpArgs false
set_option maxRecDepth 100000
namespace Go.Vx
open Go.Proofs
noncomputable def strings_Clone_c0 : Code := bodyOf Try.f43
def strings_Clone_tt : TT := []
theorem strings_Clone_tt_eq : mkTT Try.prog [] = strings_Clone_tt := by kernel_rfl
def strings_Clone_cfg : List (Nat × Cfg) := [(0, ⟨[0], [], [], [], []⟩), (1, ⟨[2], [], [], [], []⟩)]
def strings_Clone_C (n : Nat) : VC := ⟨specOf [(47, internal_stringslite_Clone_e n)], strings_Clone_tt, strings_Clone_cfg⟩
theorem strings_Clone_ents (n : Nat) : EntsOK Try.prog [(47, internal_stringslite_Clone_e n)] := ⟨internal_stringslite_Clone_ok n, trivial⟩
theorem strings_Clone_VC (n : Nat) : VCOk Try.prog (strings_Clone_C n) := ⟨specOf_ok (strings_Clone_ents n), (strings_Clone_tt_eq ▸ mkTT_ok _ : TOk Try.prog strings_Clone_tt), by kernel_rfl⟩
theorem strings_Clone_p1_congr {R : Type} (n : Nat) (a0 : List UInt8) {k0 kk0 : (List UInt8) → Option R} (hq0 : ∀ x0, k0 x0 = kk0 x0) : strings_Clone_p1 n a0 k0 = strings_Clone_p1 n a0 kk0 := by
  obtain rfl : k0 = kk0 := funext fun x0 => hq0 x0
  rfl
theorem strings_Clone_p1_eq {R : Type} (n : Nat) (a0 : List UInt8) (k : Exit → St → Option R) : vexec (strings_Clone_C n) n strings_Clone_c0 ⟨5, [(0, .d (D.str a0))], []⟩ k = strings_Clone_p1 n a0 (fun r1 => k .ret ⟨5, [(2, .d (D.str r1))], []⟩) := by kernel_rfl
theorem strings_Clone_vfn {R : Type} (n : Nat) (a0 : List UInt8) (K : AV → Option R) : vfn (strings_Clone_C n) n Try.f43 [.d (D.str a0)] [] (retF [[0]] K) = strings_Clone n a0 (fun r0 => K (.d (D.str r0))) :=
  (show vfn (strings_Clone_C n) n Try.f43 [.d (D.str a0)] [] (retF [[0]] K) = vexec (strings_Clone_C n) n strings_Clone_c0 ⟨5, [(0, .d (D.str a0))], []⟩ (retX strings_Clone_tt [.tmp 2] (retF [[0]] K)) from vfn_at (by kernel_rfl) (by kernel_rfl) rfl (by kernel_rfl) rfl (by kernel_rfl) rfl).trans ((strings_Clone_p1_eq n a0 (retX strings_Clone_tt [.tmp 2] (retF [[0]] K))).trans (by kernel_rfl))
def strings_Clone_K : AV → Option (List UInt8) := fun av => match av with
  | .d (D.str r0) => some r0
  | _ => none
def strings_Clone_e (n : Nat) : Entry := fun _ _ g avs _ k => match avs with
  | [c0] => prT g c0 fun a0 => 
    gb g (strings_Clone n a0 some) [] fun r => k ⟨.d (D.str r), [], []⟩
  | _ => none
theorem strings_Clone_ok (n : Nat) : EntryOK Try.prog 43 (strings_Clone_e n) := by
  intro R site g avs hl k r h
  unfold strings_Clone_e at h
  split at h
  rotate_left
  · cases h
  replace h := prT_some h
  obtain ⟨a0, h, le0⟩ := h
  replace h := gb_some h
  obtain ⟨res, h, hr⟩ := h
  refine ⟨_, h, fun hg => CallOK.conv (avs' := [.d (D.str a0)]) (.cons (le0 hg) (.nil)) (callOK_fix (K := strings_Clone_K) (res := res) (strings_Clone_VC n) (fn := Try.f43) (n := n) (by kernel_rfl) (by kernel_rfl) (by kernel_rfl) (ss := [[0]]) rfl ?_ ?_)⟩
  · exact (strings_Clone_vfn n a0 strings_Clone_K).trans (hr hg)
  · intro x hx
    unfold strings_Clone_K at hx
    split at hx
    · injection hx with hx; subst hx; rfl
    · cases hx
end Go.Vx
/-
  store_check: the interpreter computes the pure function
-/
set_option linter.unusedVariables false
set_option linter.unusedSimpArgs false
set_option maxRecDepth 100000
namespace Go.Vx
open Go.Proofs
noncomputable def store_check_c0 : Code := bodyOf Try.f30
def store_check_tt : TT := [(3, ⟨.int .i64, 1, 8, [.int .i64 0], [.int .i64 0], [], none⟩), (9, ⟨.str, 1, 16, [.string ⟨#[]⟩], [.str []], [], none⟩), (23, ⟨.struct, 2, 24, [.int .i64 0, .string ⟨#[]⟩], [.int .i64 0, .str []], [(0, 3), (1, 9)], some [.int .i64, .str]⟩)]
theorem store_check_tt_eq : mkTT Try.prog [3, 9, 23] = store_check_tt := by kernel_rfl
def store_check_cfg : List (Nat × Cfg) := [(0, ⟨[1], [(1, 1)], [], [], []⟩), (1, ⟨[1, 3], [(1, 1)], [], [], []⟩), (2, ⟨[2], [], [], [], []⟩), (3, ⟨[12], [], [], [], []⟩), (4, ⟨[2], [], [], [], []⟩), (5, ⟨[2], [], [], [], []⟩)]
def store_check_C (n : Nat) : VC := ⟨specOf [], store_check_tt, store_check_cfg⟩
theorem store_check_ents (n : Nat) : EntsOK Try.prog [] := trivial
theorem store_check_VC (n : Nat) : VCOk Try.prog (store_check_C n) := ⟨specOf_ok (store_check_ents n), (store_check_tt_eq ▸ mkTT_ok _ : TOk Try.prog store_check_tt), by kernel_rfl⟩
theorem store_check_p1_congr {R : Type} (n : Nat) (a0_0 : Int) (a0_1 : List UInt8) {k0 kk0 : Int → Option R} (hq0 : ∀ x0, k0 x0 = kk0 x0) : store_check_p1 n a0_0 a0_1 k0 = store_check_p1 n a0_0 a0_1 kk0 := by
  obtain rfl : k0 = kk0 := funext fun x0 => hq0 x0
  rfl
theorem store_check_p1_eq {R : Type} (n : Nat) (a0_0 : Int) (a0_1 : List UInt8) (k : Exit → St → Option R) : vexec (store_check_C n) n store_check_c0 ⟨17, [(0, .ag [.d (D.int .i64 a0_0), .d (D.str a0_1)])], []⟩ k = store_check_p1 n a0_0 a0_1 (fun z1 => k .ret ⟨17, [(2, .d (D.int .i64 z1))], []⟩) := by kernel_rfl
theorem store_check_vfn {R : Type} (n : Nat) (a0_0 : Int) (a0_1 : List UInt8) (K : AV → Option R) : vfn (store_check_C n) n Try.f30 [.ag [.d (D.int .i64 a0_0), .d (D.str a0_1)]] [] (retF [[0]] K) = store_check n a0_0 a0_1 (fun r0 => K (.d (D.int .i64 r0))) :=
  (show vfn (store_check_C n) n Try.f30 [.ag [.d (D.int .i64 a0_0), .d (D.str a0_1)]] [] (retF [[0]] K) = vexec (store_check_C n) n store_check_c0 ⟨17, [(0, .ag [.d (D.int .i64 a0_0), .d (D.str a0_1)])], []⟩ (retX store_check_tt [.tmp 2] (retF [[0]] K)) from vfn_at (by kernel_rfl) (by kernel_rfl) rfl (by kernel_rfl) rfl (by kernel_rfl) rfl).trans ((store_check_p1_eq n a0_0 a0_1 (retX store_check_tt [.tmp 2] (retF [[0]] K))).trans (by kernel_rfl))
def store_check_K : AV → Option (Int) := fun av => match av with
  | .d (D.int .i64 r0) => some r0
  | _ => none
def store_check_e (n : Nat) : Entry := fun _ _ g avs _ k => match avs with
  | [c0] => 
    prG c0 fun l0 => (match l0 with
    | [c0_0, c0_1] => prI g .i64 c0_0 fun a0_0 => prT g c0_1 fun a0_1 => 
    gb g (store_check n a0_0 a0_1 some) 0 fun r => k ⟨.d (D.int .i64 r), [], []⟩
    | _ => none)
  | _ => none
theorem store_check_ok (n : Nat) : EntryOK Try.prog 30 (store_check_e n) := by
  intro R site g avs hl k r h
  unfold store_check_e at h
  split at h
  rotate_left
  · cases h
  replace h := prG_some h
  obtain ⟨l0, h, e0⟩ := h
  subst e0
  split at h
  rotate_left
  · cases h
  replace h := prI_some h
  obtain ⟨a0_0, h, le0⟩ := h
  replace h := prT_some h
  obtain ⟨a0_1, h, le1⟩ := h
  replace h := gb_some h
  obtain ⟨res, h, hr⟩ := h
  refine ⟨_, h, fun hg => CallOK.conv (avs' := [.ag [.d (D.int .i64 a0_0), .d (D.str a0_1)]]) (.cons (.ag (.cons (le0 hg) (.cons (le1 hg) (.nil)))) (.nil)) (callOK_fix (K := store_check_K) (res := res) (store_check_VC n) (fn := Try.f30) (n := n) (by kernel_rfl) (by kernel_rfl) (by kernel_rfl) (ss := [[0]]) rfl ?_ ?_)⟩
  · exact (store_check_vfn n a0_0 a0_1 store_check_K).trans (hr hg)
  · intro x hx
    unfold store_check_K at hx
    split at hx
    · injection hx with hx; subst hx; rfl
    · cases hx
end Go.Vx
/-
  store_number: the interpreter computes the pure function
-/
set_option linter.unusedVariables false
set_option linter.unusedSimpArgs false
set_option maxRecDepth 100000
namespace Go.Vx
open Go.Proofs
noncomputable def store_number_c0 : Code := bodyOf Try.f31
def store_number_tt : TT := [(5, ⟨.int .u8, 1, 1, [.int .u8 0], [.int .u8 0], [], none⟩), (9, ⟨.str, 1, 16, [.string ⟨#[]⟩], [.str []], [], none⟩), (52, ⟨.int .u32, 1, 4, [.int .u32 0], [.int .u32 0], [], none⟩), (59, ⟨.sl 5 1, 1, 24, [.slice none 0 0], [.sl 1 []], [], none⟩)]
theorem store_number_tt_eq : mkTT Try.prog [5, 9, 52, 59] = store_number_tt := by kernel_rfl
def store_number_cfg : List (Nat × Cfg) := [(0, ⟨[0], [], [], [], []⟩), (1, ⟨[2], [], [], [], []⟩)]
def store_number_C (n : Nat) : VC := ⟨specOf [], store_number_tt, store_number_cfg⟩
theorem store_number_ents (n : Nat) : EntsOK Try.prog [] := trivial
theorem store_number_VC (n : Nat) : VCOk Try.prog (store_number_C n) := ⟨specOf_ok (store_number_ents n), (store_number_tt_eq ▸ mkTT_ok _ : TOk Try.prog store_number_tt), by kernel_rfl⟩
theorem store_number_p1_congr {R : Type} (n : Nat) (a0 : Int) {k0 kk0 : (List UInt8) → Option R} (hq0 : ∀ x0, k0 x0 = kk0 x0) : store_number_p1 n a0 k0 = store_number_p1 n a0 kk0 := by
  obtain rfl : k0 = kk0 := funext fun x0 => hq0 x0
  rfl
theorem store_number_p1_eq {R : Type} (n : Nat) (a0 : Int) (k : Exit → St → Option R) : vexec (store_number_C n) n store_number_c0 ⟨16, [(0, .d (D.int .u32 a0))], []⟩ k = store_number_p1 n a0 (fun s4 => k .ret ⟨16, [(2, .d (D.str s4))], []⟩) := by kernel_rfl
theorem store_number_vfn {R : Type} (n : Nat) (a0 : Int) (K : AV → Option R) : vfn (store_number_C n) n Try.f31 [.d (D.int .u32 a0)] [] (retF [[0]] K) = store_number n a0 (fun r0 => K (.d (D.str r0))) :=
  (show vfn (store_number_C n) n Try.f31 [.d (D.int .u32 a0)] [] (retF [[0]] K) = vexec (store_number_C n) n store_number_c0 ⟨16, [(0, .d (D.int .u32 a0))], []⟩ (retX store_number_tt [.tmp 2] (retF [[0]] K)) from vfn_at (by kernel_rfl) (by kernel_rfl) rfl (by kernel_rfl) rfl (by kernel_rfl) rfl).trans ((store_number_p1_eq n a0 (retX store_number_tt [.tmp 2] (retF [[0]] K))).trans (by kernel_rfl))
def store_number_K : AV → Option (List UInt8) := fun av => match av with
  | .d (D.str r0) => some r0
  | _ => none
def store_number_e (n : Nat) : Entry := fun _ _ g avs _ k => match avs with
  | [c0] => prI g .u32 c0 fun a0 => 
    gb g (store_number n a0 some) [] fun r => k ⟨.d (D.str r), [], []⟩
  | _ => none
theorem store_number_ok (n : Nat) : EntryOK Try.prog 31 (store_number_e n) := by
  intro R site g avs hl k r h
  unfold store_number_e at h
  split at h
  rotate_left
  · cases h
  replace h := prI_some h
  obtain ⟨a0, h, le0⟩ := h
  replace h := gb_some h
  obtain ⟨res, h, hr⟩ := h
  refine ⟨_, h, fun hg => CallOK.conv (avs' := [.d (D.int .u32 a0)]) (.cons (le0 hg) (.nil)) (callOK_fix (K := store_number_K) (res := res) (store_number_VC n) (fn := Try.f31) (n := n) (by kernel_rfl) (by kernel_rfl) (by kernel_rfl) (ss := [[0]]) rfl ?_ ?_)⟩
  · exact (store_number_vfn n a0 store_number_K).trans (hr hg)
  · intro x hx
    unfold store_number_K at hx
    split at hx
    · injection hx with hx; subst hx; rfl
    · cases hx
end Go.Vx
/-
  layoutbin_Sum: the interpreter computes the pure function
-/
set_option linter.unusedVariables false
set_option linter.unusedSimpArgs false
set_option maxRecDepth 100000
namespace Go.Vx
open Go.Proofs
noncomputable def layoutbin_Sum_c0 : Code := bodyOf Try.f32
noncomputable def layoutbin_Sum_c1 : Code := cL (bodyOf Try.f32)
noncomputable def layoutbin_Sum_c2 : Code := cL (cR (bodyOf Try.f32))
noncomputable def layoutbin_Sum_c3 : Code := cL (cL (cR (cR (bodyOf Try.f32))))
noncomputable def layoutbin_Sum_c4 : Code := cL (cB (cB (cR (cL (cR (cR (bodyOf Try.f32)))))))
noncomputable def layoutbin_Sum_c5 : Code := cL (cR (cB (cB (cR (cL (cR (cR (bodyOf Try.f32))))))))
noncomputable def layoutbin_Sum_c6 : Code := cL (cB (cL (cR (cR (cB (cB (cR (cL (cR (cR (bodyOf Try.f32)))))))))))
noncomputable def layoutbin_Sum_c7 : Code := cL (cR (cB (cL (cR (cR (cB (cB (cR (cL (cR (cR (bodyOf Try.f32))))))))))))
noncomputable def layoutbin_Sum_c8 : Code := cL (cR (cR (cB (cL (cR (cR (cB (cB (cR (cL (cR (cR (bodyOf Try.f32)))))))))))))
noncomputable def layoutbin_Sum_c9 : Code := cB (cB (cR (cR (cR (cB (cL (cR (cR (cB (cB (cR (cL (cR (cR (bodyOf Try.f32)))))))))))))))
noncomputable def layoutbin_Sum_c10 : Code := cB (cR (cR (cR (cB (cL (cR (cR (cB (cB (cR (cL (cR (cR (bodyOf Try.f32))))))))))))))
noncomputable def layoutbin_Sum_c11 : Code := cR (cR (cR (cB (cL (cR (cR (cB (cB (cR (cL (cR (cR (bodyOf Try.f32)))))))))))))
noncomputable def layoutbin_Sum_c12 : Code := cR (cR (cB (cL (cR (cR (cB (cB (cR (cL (cR (cR (bodyOf Try.f32))))))))))))
noncomputable def layoutbin_Sum_c13 : Code := cR (cB (cL (cR (cR (cB (cB (cR (cL (cR (cR (bodyOf Try.f32)))))))))))
noncomputable def layoutbin_Sum_c14 : Code := cB (cL (cR (cR (cB (cB (cR (cL (cR (cR (bodyOf Try.f32))))))))))
noncomputable def layoutbin_Sum_c15 : Code := cL (cR (cR (cB (cB (cR (cL (cR (cR (bodyOf Try.f32)))))))))
noncomputable def layoutbin_Sum_c16 : Code := cR (cR (cR (cB (cB (cR (cL (cR (cR (bodyOf Try.f32)))))))))
noncomputable def layoutbin_Sum_c17 : Code := cR (cR (cB (cB (cR (cL (cR (cR (bodyOf Try.f32))))))))
noncomputable def layoutbin_Sum_c18 : Code := cR (cB (cB (cR (cL (cR (cR (bodyOf Try.f32)))))))
noncomputable def layoutbin_Sum_c19 : Code := cB (cB (cR (cL (cR (cR (bodyOf Try.f32))))))
noncomputable def layoutbin_Sum_c20 : Code := cB (cR (cL (cR (cR (bodyOf Try.f32)))))
noncomputable def layoutbin_Sum_c21 : Code := cR (cL (cR (cR (bodyOf Try.f32))))
noncomputable def layoutbin_Sum_c22 : Code := cL (cR (cR (bodyOf Try.f32)))
noncomputable def layoutbin_Sum_c23 : Code := cR (cR (cR (bodyOf Try.f32)))
noncomputable def layoutbin_Sum_c24 : Code := cR (cR (bodyOf Try.f32))
noncomputable def layoutbin_Sum_c25 : Code := cR (bodyOf Try.f32)
theorem layoutbin_Sum_c10_eq : layoutbin_Sum_c10 = .loop layoutbin_Sum_c9 := by kernel_rfl
theorem layoutbin_Sum_c11_eq : layoutbin_Sum_c11 = .block 2 layoutbin_Sum_c10 := by kernel_rfl
theorem layoutbin_Sum_c12_eq : layoutbin_Sum_c12 = .seq layoutbin_Sum_c8 layoutbin_Sum_c11 := by kernel_rfl
theorem layoutbin_Sum_c13_eq : layoutbin_Sum_c13 = .seq layoutbin_Sum_c7 layoutbin_Sum_c12 := by kernel_rfl
theorem layoutbin_Sum_c14_eq : layoutbin_Sum_c14 = .seq layoutbin_Sum_c6 layoutbin_Sum_c13 := by kernel_rfl
theorem layoutbin_Sum_c15_eq : layoutbin_Sum_c15 = .block 1 layoutbin_Sum_c14 := by kernel_rfl
theorem layoutbin_Sum_c17_eq : layoutbin_Sum_c17 = .seq layoutbin_Sum_c15 layoutbin_Sum_c16 := by kernel_rfl
theorem layoutbin_Sum_c18_eq : layoutbin_Sum_c18 = .seq layoutbin_Sum_c5 layoutbin_Sum_c17 := by kernel_rfl
theorem layoutbin_Sum_c19_eq : layoutbin_Sum_c19 = .seq layoutbin_Sum_c4 layoutbin_Sum_c18 := by kernel_rfl
theorem layoutbin_Sum_c20_eq : layoutbin_Sum_c20 = .loop layoutbin_Sum_c19 := by kernel_rfl
theorem layoutbin_Sum_c21_eq : layoutbin_Sum_c21 = .block 0 layoutbin_Sum_c20 := by kernel_rfl
theorem layoutbin_Sum_c22_eq : layoutbin_Sum_c22 = .seq layoutbin_Sum_c3 layoutbin_Sum_c21 := by kernel_rfl
theorem layoutbin_Sum_c24_eq : layoutbin_Sum_c24 = .seq layoutbin_Sum_c22 layoutbin_Sum_c23 := by kernel_rfl
theorem layoutbin_Sum_c25_eq : layoutbin_Sum_c25 = .seq layoutbin_Sum_c2 layoutbin_Sum_c24 := by kernel_rfl
theorem layoutbin_Sum_c0_eq : layoutbin_Sum_c0 = .seq layoutbin_Sum_c1 layoutbin_Sum_c25 := by kernel_rfl
def layoutbin_Sum_tt : TT := [(3, ⟨.int .i64, 1, 8, [.int .i64 0], [.int .i64 0], [], none⟩), (5, ⟨.int .u8, 1, 1, [.int .u8 0], [.int .u8 0], [], none⟩), (9, ⟨.str, 1, 16, [.string ⟨#[]⟩], [.str []], [], none⟩), (52, ⟨.int .u32, 1, 4, [.int .u32 0], [.int .u32 0], [], none⟩)]
theorem layoutbin_Sum_tt_eq : mkTT Try.prog [3, 5, 9, 52] = layoutbin_Sum_tt := by kernel_rfl
def layoutbin_Sum_cfg : List (Nat × Cfg) := [(0, ⟨[0], [], [], [], []⟩), (1, ⟨[0, 3], [], [], [], []⟩), (2, ⟨[0, 3, 7, 8], [], [], [], []⟩), (3, ⟨[0, 3, 7, 8, 9], [], [], [], []⟩), (4, ⟨[0, 3, 4, 7, 8], [], [], [], []⟩), (5, ⟨[0, 3, 7, 8], [], [], [], []⟩), (6, ⟨[0, 3, 7, 8, 17], [], [], [], []⟩), (7, ⟨[0, 3, 7, 8, 17, 18], [], [], [], []⟩), (8, ⟨[0, 3, 5, 7, 8, 17], [], [], [], []⟩), (9, ⟨[0, 3, 5, 7, 8, 17], [], [], [], []⟩), (10, ⟨[0, 3, 7, 8, 17, 24], [], [], [], []⟩), (11, ⟨[0, 3, 7, 8, 17], [], [], [], []⟩), (12, ⟨[0, 3, 7, 8, 17], [], [], [], []⟩), (13, ⟨[0, 3, 7, 8], [], [], [], []⟩), (14, ⟨[2], [], [], [], []⟩)]
def layoutbin_Sum_C (n : Nat) : VC := ⟨specOf [], layoutbin_Sum_tt, layoutbin_Sum_cfg⟩
theorem layoutbin_Sum_ents (n : Nat) : EntsOK Try.prog [] := trivial
theorem layoutbin_Sum_VC (n : Nat) : VCOk Try.prog (layoutbin_Sum_C n) := ⟨specOf_ok (layoutbin_Sum_ents n), (layoutbin_Sum_tt_eq ▸ mkTT_ok _ : TOk Try.prog layoutbin_Sum_tt), by kernel_rfl⟩
theorem layoutbin_Sum_p1_congr {R : Type} (n : Nat) (a0 : List UInt8) {k0 kk0 : Option R} (hq0 : k0 = kk0) : layoutbin_Sum_p1 n a0 k0 = layoutbin_Sum_p1 n a0 kk0 := by
  obtain rfl : k0 = kk0 := hq0
  rfl
theorem layoutbin_Sum_p2_congr {R : Type} (n : Nat) (a0 : List UInt8) {k0 kk0 : Option R} (hq0 : k0 = kk0) : layoutbin_Sum_p2 n a0 k0 = layoutbin_Sum_p2 n a0 kk0 := by
  obtain rfl : k0 = kk0 := hq0
  rfl
theorem layoutbin_Sum_p3_congr {R : Type} (n : Nat) (a0 : List UInt8) {k0 kk0 : Int → Option R} (hq0 : ∀ x0, k0 x0 = kk0 x0) : layoutbin_Sum_p3 n a0 k0 = layoutbin_Sum_p3 n a0 kk0 := by
  obtain rfl : k0 = kk0 := funext fun x0 => hq0 x0
  rfl
theorem layoutbin_Sum_p4_congr {R : Type} (n : Nat) (a0 : List UInt8) (h4 : Int) (w2 : Int) (h6 : Int) {k0 kk0 : Bool → Option R} (hq0 : ∀ x0, k0 x0 = kk0 x0) : layoutbin_Sum_p4 n a0 h4 w2 h6 k0 = layoutbin_Sum_p4 n a0 h4 w2 h6 kk0 := by
  obtain rfl : k0 = kk0 := funext fun x0 => hq0 x0
  rfl
theorem layoutbin_Sum_p5_congr {R : Type} (n : Nat) (a0 : List UInt8) (h4 : Int) (w2 : Int) (h6 : Int) (w53 : Bool) {k0 kk0 : Option R} {k1 kk1 : Option R} (hq0 : k0 = kk0) (hq1 : k1 = kk1) : layoutbin_Sum_p5 n a0 h4 w2 h6 w53 k0 k1 = layoutbin_Sum_p5 n a0 h4 w2 h6 w53 kk0 kk1 := by
  obtain rfl : k0 = kk0 := hq0
  obtain rfl : k1 = kk1 := hq1
  rfl
theorem layoutbin_Sum_p6_congr {R : Type} (n : Nat) (a0 : List UInt8) (h4 : Int) (w2 : Int) (h6 : Int) (w53 : Bool) {k0 kk0 : Option R} (hq0 : k0 = kk0) : layoutbin_Sum_p6 n a0 h4 w2 h6 w53 k0 = layoutbin_Sum_p6 n a0 h4 w2 h6 w53 kk0 := by
  obtain rfl : k0 = kk0 := hq0
  rfl
theorem layoutbin_Sum_p7_congr {R : Type} (n : Nat) (a0 : List UInt8) (h4 : Int) (h6 : Int) (w2 : Int) {k0 kk0 : Int → Option R} (hq0 : ∀ x0, k0 x0 = kk0 x0) : layoutbin_Sum_p7 n a0 h4 h6 w2 k0 = layoutbin_Sum_p7 n a0 h4 h6 w2 kk0 := by
  obtain rfl : k0 = kk0 := funext fun x0 => hq0 x0
  rfl
theorem layoutbin_Sum_p8_congr {R : Type} (n : Nat) (a0 : List UInt8) (w56 : Int) (w2 : Int) (h6 : Int) {k0 kk0 : Option R} (hq0 : k0 = kk0) : layoutbin_Sum_p8 n a0 w56 w2 h6 k0 = layoutbin_Sum_p8 n a0 w56 w2 h6 kk0 := by
  obtain rfl : k0 = kk0 := hq0
  rfl
theorem layoutbin_Sum_p9_congr {R : Type} (n : Nat) (a0 : List UInt8) (h58 : Int) (w2 : Int) (h6 : Int) (h61 : Int) {k0 kk0 : Int → Int → Option R} {k1 kk1 : Bool → Option R} (hq0 : ∀ x0 x1, k0 x0 x1 = kk0 x0 x1) (hq1 : ∀ x0, k1 x0 = kk1 x0) : layoutbin_Sum_p9 n a0 h58 w2 h6 h61 k0 k1 = layoutbin_Sum_p9 n a0 h58 w2 h6 h61 kk0 kk1 := by
  obtain rfl : k0 = kk0 := funext fun x0 => funext fun x1 => hq0 x0 x1
  obtain rfl : k1 = kk1 := funext fun x0 => hq1 x0
  rfl
theorem layoutbin_Sum_p10_congr {R : Type} (n : Nat) (a0 : List UInt8) (w56 : Int) (w2 : Int) (h6 : Int) {k0 kk0 : Int → Int → Bool → Option R} (hq0 : ∀ x0 x1 x2, k0 x0 x1 x2 = kk0 x0 x1 x2) : layoutbin_Sum_p10 n a0 w56 w2 h6 k0 = layoutbin_Sum_p10 n a0 w56 w2 h6 kk0 := by
  obtain rfl : k0 = kk0 := funext fun x0 => funext fun x1 => funext fun x2 => hq0 x0 x1 x2
  rfl
theorem layoutbin_Sum_p11_congr {R : Type} (n : Nat) (a0 : List UInt8) (w56 : Int) (w2 : Int) (h6 : Int) {k0 kk0 : Int → Int → Bool → Option R} (hq0 : ∀ x0 x1 x2, k0 x0 x1 x2 = kk0 x0 x1 x2) : layoutbin_Sum_p11 n a0 w56 w2 h6 k0 = layoutbin_Sum_p11 n a0 w56 w2 h6 kk0 := by
  obtain rfl : k0 = kk0 := funext fun x0 => funext fun x1 => funext fun x2 => hq0 x0 x1 x2
  rfl
theorem layoutbin_Sum_p12_congr {R : Type} (n : Nat) (a0 : List UInt8) (w56 : Int) (w2 : Int) (h6 : Int) {k0 kk0 : Int → Int → Bool → Option R} (hq0 : ∀ x0 x1 x2, k0 x0 x1 x2 = kk0 x0 x1 x2) : layoutbin_Sum_p12 n a0 w56 w2 h6 k0 = layoutbin_Sum_p12 n a0 w56 w2 h6 kk0 := by
  obtain rfl : k0 = kk0 := funext fun x0 => funext fun x1 => funext fun x2 => hq0 x0 x1 x2
  rfl
theorem layoutbin_Sum_p13_congr {R : Type} (n : Nat) (a0 : List UInt8) (h4 : Int) (h6 : Int) (w2 : Int) {k0 kk0 : Int → Int → Bool → Option R} (hq0 : ∀ x0 x1 x2, k0 x0 x1 x2 = kk0 x0 x1 x2) : layoutbin_Sum_p13 n a0 h4 h6 w2 k0 = layoutbin_Sum_p13 n a0 h4 h6 w2 kk0 := by
  obtain rfl : k0 = kk0 := funext fun x0 => funext fun x1 => funext fun x2 => hq0 x0 x1 x2
  rfl
theorem layoutbin_Sum_p14_congr {R : Type} (n : Nat) (a0 : List UInt8) (h4 : Int) (w2 : Int) (h6 : Int) (w53 : Bool) {k0 kk0 : Int → Int → Bool → Option R} (hq0 : ∀ x0 x1 x2, k0 x0 x1 x2 = kk0 x0 x1 x2) : layoutbin_Sum_p14 n a0 h4 w2 h6 w53 k0 = layoutbin_Sum_p14 n a0 h4 w2 h6 w53 kk0 := by
  obtain rfl : k0 = kk0 := funext fun x0 => funext fun x1 => funext fun x2 => hq0 x0 x1 x2
  rfl
theorem layoutbin_Sum_p15_congr {R : Type} (n : Nat) (a0 : List UInt8) (h4 : Int) (w2 : Int) (h6 : Int) (w53 : Bool) {k0 kk0 : Int → Int → Bool → Option R} (hq0 : ∀ x0 x1 x2, k0 x0 x1 x2 = kk0 x0 x1 x2) : layoutbin_Sum_p15 n a0 h4 w2 h6 w53 k0 = layoutbin_Sum_p15 n a0 h4 w2 h6 w53 kk0 := by
  obtain rfl : k0 = kk0 := funext fun x0 => funext fun x1 => funext fun x2 => hq0 x0 x1 x2
  rfl
theorem layoutbin_Sum_p16_congr {R : Type} (n : Nat) (a0 : List UInt8) (w88 : Int) (w2 : Int) (h6 : Int) (w89 : Int) (w90 : Bool) {k0 kk0 : Int → Option R} (hq0 : ∀ x0, k0 x0 = kk0 x0) : layoutbin_Sum_p16 n a0 w88 w2 h6 w89 w90 k0 = layoutbin_Sum_p16 n a0 w88 w2 h6 w89 w90 kk0 := by
  obtain rfl : k0 = kk0 := funext fun x0 => hq0 x0
  rfl
theorem layoutbin_Sum_p17_congr {R : Type} (n : Nat) (a0 : List UInt8) (h4 : Int) (w2 : Int) (h6 : Int) (w53 : Bool) {k0 kk0 : Int → Int → Option R} (hq0 : ∀ x0 x1, k0 x0 x1 = kk0 x0 x1) : layoutbin_Sum_p17 n a0 h4 w2 h6 w53 k0 = layoutbin_Sum_p17 n a0 h4 w2 h6 w53 kk0 := by
  obtain rfl : k0 = kk0 := funext fun x0 => funext fun x1 => hq0 x0 x1
  rfl
theorem layoutbin_Sum_p18_congr {R : Type} (n : Nat) (a0 : List UInt8) (h4 : Int) (w2 : Int) (h6 : Int) (w53 : Bool) {k0 kk0 : Int → Int → Option R} {k1 kk1 : Option R} (hq0 : ∀ x0 x1, k0 x0 x1 = kk0 x0 x1) (hq1 : k1 = kk1) : layoutbin_Sum_p18 n a0 h4 w2 h6 w53 k0 k1 = layoutbin_Sum_p18 n a0 h4 w2 h6 w53 kk0 kk1 := by
  obtain rfl : k0 = kk0 := funext fun x0 => funext fun x1 => hq0 x0 x1
  obtain rfl : k1 = kk1 := hq1
  rfl
theorem layoutbin_Sum_p19_congr {R : Type} (n : Nat) (a0 : List UInt8) (h4 : Int) (w2 : Int) (h6 : Int) {k0 kk0 : Int → Int → Option R} {k1 kk1 : Bool → Option R} (hq0 : ∀ x0 x1, k0 x0 x1 = kk0 x0 x1) (hq1 : ∀ x0, k1 x0 = kk1 x0) : layoutbin_Sum_p19 n a0 h4 w2 h6 k0 k1 = layoutbin_Sum_p19 n a0 h4 w2 h6 kk0 kk1 := by
  obtain rfl : k0 = kk0 := funext fun x0 => funext fun x1 => hq0 x0 x1
  obtain rfl : k1 = kk1 := funext fun x0 => hq1 x0
  rfl
theorem layoutbin_Sum_p20_congr {R : Type} (n : Nat) (a0 : List UInt8) (w2 : Int) {k0 kk0 : Int → Int → Bool → Option R} (hq0 : ∀ x0 x1 x2, k0 x0 x1 x2 = kk0 x0 x1 x2) : layoutbin_Sum_p20 n a0 w2 k0 = layoutbin_Sum_p20 n a0 w2 kk0 := by
  obtain rfl : k0 = kk0 := funext fun x0 => funext fun x1 => funext fun x2 => hq0 x0 x1 x2
  rfl
theorem layoutbin_Sum_p21_congr {R : Type} (n : Nat) (a0 : List UInt8) (w2 : Int) {k0 kk0 : Int → Int → Bool → Option R} (hq0 : ∀ x0 x1 x2, k0 x0 x1 x2 = kk0 x0 x1 x2) : layoutbin_Sum_p21 n a0 w2 k0 = layoutbin_Sum_p21 n a0 w2 kk0 := by
  obtain rfl : k0 = kk0 := funext fun x0 => funext fun x1 => funext fun x2 => hq0 x0 x1 x2
  rfl
theorem layoutbin_Sum_p22_congr {R : Type} (n : Nat) (a0 : List UInt8) {k0 kk0 : Int → Int → Int → Bool → Option R} (hq0 : ∀ x0 x1 x2 x3, k0 x0 x1 x2 x3 = kk0 x0 x1 x2 x3) : layoutbin_Sum_p22 n a0 k0 = layoutbin_Sum_p22 n a0 kk0 := by
  obtain rfl : k0 = kk0 := funext fun x0 => funext fun x1 => funext fun x2 => funext fun x3 => hq0 x0 x1 x2 x3
  rfl
theorem layoutbin_Sum_p23_congr {R : Type} (n : Nat) (a0 : List UInt8) (w106 : Int) (w107 : Int) (w108 : Int) (w109 : Bool) {k0 kk0 : Int → Option R} (hq0 : ∀ x0, k0 x0 = kk0 x0) : layoutbin_Sum_p23 n a0 w106 w107 w108 w109 k0 = layoutbin_Sum_p23 n a0 w106 w107 w108 w109 kk0 := by
  obtain rfl : k0 = kk0 := funext fun x0 => hq0 x0
  rfl
theorem layoutbin_Sum_p24_congr {R : Type} (n : Nat) (a0 : List UInt8) {k0 kk0 : Int → Option R} (hq0 : ∀ x0, k0 x0 = kk0 x0) : layoutbin_Sum_p24 n a0 k0 = layoutbin_Sum_p24 n a0 kk0 := by
  obtain rfl : k0 = kk0 := funext fun x0 => hq0 x0
  rfl
theorem layoutbin_Sum_p25_congr {R : Type} (n : Nat) (a0 : List UInt8) {k0 kk0 : Int → Option R} (hq0 : ∀ x0, k0 x0 = kk0 x0) : layoutbin_Sum_p25 n a0 k0 = layoutbin_Sum_p25 n a0 kk0 := by
  obtain rfl : k0 = kk0 := funext fun x0 => hq0 x0
  rfl
theorem layoutbin_Sum_p26_congr {R : Type} (n : Nat) (a0 : List UInt8) {k0 kk0 : Int → Option R} (hq0 : ∀ x0, k0 x0 = kk0 x0) : layoutbin_Sum_p26 n a0 k0 = layoutbin_Sum_p26 n a0 kk0 := by
  obtain rfl : k0 = kk0 := funext fun x0 => hq0 x0
  rfl
theorem layoutbin_Sum_p1_eq {R : Type} (n : Nat) (a0 : List UInt8) (k : Exit → St → Option R) : vexec (layoutbin_Sum_C n) n layoutbin_Sum_c1 ⟨31, [(0, .d (D.str a0))], []⟩ k = layoutbin_Sum_p1 n a0 (k .normal ⟨31, [(0, .d (D.str a0))], []⟩) := by kernel_rfl
theorem layoutbin_Sum_p2_eq {R : Type} (n : Nat) (a0 : List UInt8) (k : Exit → St → Option R) : vexec (layoutbin_Sum_C n) n layoutbin_Sum_c2 ⟨31, [(0, .d (D.str a0))], []⟩ k = layoutbin_Sum_p2 n a0 (k .normal ⟨31, [(0, .d (D.str a0)), (3, .d (D.int .u32 (4294967295 : Int)))], []⟩) := by kernel_rfl
theorem layoutbin_Sum_p3_eq {R : Type} (n : Nat) (a0 : List UInt8) (k : Exit → St → Option R) : vexec (layoutbin_Sum_C n) n layoutbin_Sum_c3 ⟨31, [(0, .d (D.str a0)), (3, .d (D.int .u32 (4294967295 : Int)))], []⟩ k = layoutbin_Sum_p3 n a0 (fun z1 => k .normal ⟨31, [(0, .d (D.str a0)), (3, .d (D.int .u32 (4294967295 : Int))), (7, .d (D.int .i64 z1)), (8, .d (D.int .i64 (0 : Int)))], []⟩) := by kernel_rfl
theorem layoutbin_Sum_p4_eq {R : Type} (n : Nat) (a0 : List UInt8) (h4 : Int) (w2 : Int) (h6 : Int) (k : Exit → St → Option R) : vexec (layoutbin_Sum_C n) n layoutbin_Sum_c4 ⟨31, [(0, .d (D.str a0)), (3, .d (D.int .u32 h4)), (7, .d (D.int .i64 w2)), (8, .d (D.int .i64 h6))], []⟩ k = layoutbin_Sum_p4 n a0 h4 w2 h6 (fun z52 => k .normal ⟨31, [(0, .d (D.str a0)), (3, .d (D.int .u32 h4)), (7, .d (D.int .i64 w2)), (8, .d (D.int .i64 h6)), (9, .d (D.bool z52))], []⟩) := by kernel_rfl
theorem layoutbin_Sum_p5_eq {R : Type} (n : Nat) (a0 : List UInt8) (h4 : Int) (w2 : Int) (h6 : Int) (w53 : Bool) (k : Exit → St → Option R) : vexec (layoutbin_Sum_C n) n layoutbin_Sum_c5 ⟨31, [(0, .d (D.str a0)), (3, .d (D.int .u32 h4)), (7, .d (D.int .i64 w2)), (8, .d (D.int .i64 h6)), (9, .d (D.bool w53))], []⟩ k = layoutbin_Sum_p5 n a0 h4 w2 h6 w53 (k .normal ⟨31, [(0, .d (D.str a0)), (3, .d (D.int .u32 h4)), (7, .d (D.int .i64 w2)), (8, .d (D.int .i64 h6)), (9, .d (D.bool w53))], []⟩) (k (.exit 0) ⟨31, [(0, .d (D.str a0)), (3, .d (D.int .u32 h4)), (7, .d (D.int .i64 w2)), (8, .d (D.int .i64 h6)), (9, .d (D.bool w53))], []⟩) := by kernel_rfl
theorem layoutbin_Sum_p6_eq {R : Type} (n : Nat) (a0 : List UInt8) (h4 : Int) (w2 : Int) (h6 : Int) (w53 : Bool) (k : Exit → St → Option R) : vexec (layoutbin_Sum_C n) n layoutbin_Sum_c6 ⟨31, [(0, .d (D.str a0)), (3, .d (D.int .u32 h4)), (7, .d (D.int .i64 w2)), (8, .d (D.int .i64 h6)), (9, .d (D.bool w53))], []⟩ k = layoutbin_Sum_p6 n a0 h4 w2 h6 w53 (k .normal ⟨31, [(0, .d (D.str a0)), (3, .d (D.int .u32 h4)), (4, .d (D.int .i64 h6)), (7, .d (D.int .i64 w2)), (8, .d (D.int .i64 h6))], []⟩) := by kernel_rfl
theorem layoutbin_Sum_p7_eq {R : Type} (n : Nat) (a0 : List UInt8) (h4 : Int) (h6 : Int) (w2 : Int) (k : Exit → St → Option R) : vexec (layoutbin_Sum_C n) n layoutbin_Sum_c7 ⟨31, [(0, .d (D.str a0)), (3, .d (D.int .u32 h4)), (4, .d (D.int .i64 h6)), (7, .d (D.int .i64 w2)), (8, .d (D.int .i64 h6))], []⟩ k = layoutbin_Sum_p7 n a0 h4 h6 w2 (fun z55 => k .normal ⟨31, [(0, .d (D.str a0)), (3, .d (D.int .u32 z55)), (7, .d (D.int .i64 w2)), (8, .d (D.int .i64 h6))], []⟩) := by kernel_rfl
theorem layoutbin_Sum_p8_eq {R : Type} (n : Nat) (a0 : List UInt8) (w56 : Int) (w2 : Int) (h6 : Int) (k : Exit → St → Option R) : vexec (layoutbin_Sum_C n) n layoutbin_Sum_c8 ⟨31, [(0, .d (D.str a0)), (3, .d (D.int .u32 w56)), (7, .d (D.int .i64 w2)), (8, .d (D.int .i64 h6))], []⟩ k = layoutbin_Sum_p8 n a0 w56 w2 h6 (k .normal ⟨31, [(0, .d (D.str a0)), (3, .d (D.int .u32 w56)), (7, .d (D.int .i64 w2)), (8, .d (D.int .i64 h6)), (17, .d (D.int .i64 (0 : Int)))], []⟩) := by kernel_rfl
theorem layoutbin_Sum_p9_eq {R : Type} (n : Nat) (a0 : List UInt8) (h58 : Int) (w2 : Int) (h6 : Int) (h61 : Int) (k : Exit → St → Option R) : vexec (layoutbin_Sum_C n) n layoutbin_Sum_c9 ⟨31, [(0, .d (D.str a0)), (3, .d (D.int .u32 h58)), (7, .d (D.int .i64 w2)), (8, .d (D.int .i64 h6)), (17, .d (D.int .i64 h61))], []⟩ k = layoutbin_Sum_p9 n a0 h58 w2 h6 h61 (fun z67 z68 => k .normal ⟨31, [(0, .d (D.str a0)), (3, .d (D.int .u32 z67)), (7, .d (D.int .i64 w2)), (8, .d (D.int .i64 h6)), (17, .d (D.int .i64 z68))], []⟩) (fun z69 => k (.exit 2) ⟨31, [(0, .d (D.str a0)), (3, .d (D.int .u32 h58)), (7, .d (D.int .i64 w2)), (8, .d (D.int .i64 h6)), (17, .d (D.int .i64 h61)), (18, .d (D.bool z69))], []⟩) := by kernel_rfl
theorem layoutbin_Sum_r10_eq {R : Type} (n : Nat) (a0 : List UInt8) (w2 : Int) (h6 : Int) (k : Exit → St → Option R) : ∀ (m : Nat) (h58 : Int) (h61 : Int), loopN (vexec (layoutbin_Sum_C n) n layoutbin_Sum_c9) m ⟨31, [(0, .d (D.str a0)), (3, .d (D.int .u32 h58)), (7, .d (D.int .i64 w2)), (8, .d (D.int .i64 h6)), (17, .d (D.int .i64 h61))], []⟩ k = layoutbin_Sum_r10 n a0 w2 h6 (fun h58 h61 w72 => k (.exit 2) ⟨31, [(0, .d (D.str a0)), (3, .d (D.int .u32 h58)), (7, .d (D.int .i64 w2)), (8, .d (D.int .i64 h6)), (17, .d (D.int .i64 h61)), (18, .d (D.bool w72))], []⟩) m h58 h61
  | 0, _, _ => rfl
  | m + 1, h58, h61 => (layoutbin_Sum_p9_eq n a0 h58 w2 h6 h61 (loopK (vexec (layoutbin_Sum_C n) n layoutbin_Sum_c9) m k)).trans (layoutbin_Sum_p9_congr n a0 h58 w2 h6 h61 (fun w70 w71 => layoutbin_Sum_r10_eq n a0 w2 h6 k m w70 w71) (fun w72 => rfl))
theorem layoutbin_Sum_p10_eq {R : Type} (n : Nat) (a0 : List UInt8) (w56 : Int) (w2 : Int) (h6 : Int) (k : Exit → St → Option R) : vexec (layoutbin_Sum_C n) n layoutbin_Sum_c10 ⟨31, [(0, .d (D.str a0)), (3, .d (D.int .u32 w56)), (7, .d (D.int .i64 w2)), (8, .d (D.int .i64 h6)), (17, .d (D.int .i64 (0 : Int)))], []⟩ k = layoutbin_Sum_p10 n a0 w56 w2 h6 (fun h58 h61 w72 => k (.exit 2) ⟨31, [(0, .d (D.str a0)), (3, .d (D.int .u32 h58)), (7, .d (D.int .i64 w2)), (8, .d (D.int .i64 h6)), (17, .d (D.int .i64 h61)), (18, .d (D.bool w72))], []⟩) := by
  rw [layoutbin_Sum_c10_eq]
  exact layoutbin_Sum_r10_eq n a0 w2 h6 k n w56 (0 : Int)
theorem layoutbin_Sum_p11_eq {R : Type} (n : Nat) (a0 : List UInt8) (w56 : Int) (w2 : Int) (h6 : Int) (k : Exit → St → Option R) : vexec (layoutbin_Sum_C n) n layoutbin_Sum_c11 ⟨31, [(0, .d (D.str a0)), (3, .d (D.int .u32 w56)), (7, .d (D.int .i64 w2)), (8, .d (D.int .i64 h6)), (17, .d (D.int .i64 (0 : Int)))], []⟩ k = layoutbin_Sum_p11 n a0 w56 w2 h6 (fun w73 w74 w75 => k .normal ⟨31, [(0, .d (D.str a0)), (3, .d (D.int .u32 w73)), (7, .d (D.int .i64 w2)), (8, .d (D.int .i64 h6)), (17, .d (D.int .i64 w74)), (18, .d (D.bool w75))], []⟩) := by
  rw [layoutbin_Sum_c11_eq]
  unfold layoutbin_Sum_p11
  exact (layoutbin_Sum_p10_eq n a0 w56 w2 h6 (blockK 2 k)).trans (layoutbin_Sum_p10_congr n a0 w56 w2 h6 (fun w73 w74 w75 => rfl))
theorem layoutbin_Sum_p12_eq {R : Type} (n : Nat) (a0 : List UInt8) (w56 : Int) (w2 : Int) (h6 : Int) (k : Exit → St → Option R) : vexec (layoutbin_Sum_C n) n layoutbin_Sum_c12 ⟨31, [(0, .d (D.str a0)), (3, .d (D.int .u32 w56)), (7, .d (D.int .i64 w2)), (8, .d (D.int .i64 h6))], []⟩ k = layoutbin_Sum_p12 n a0 w56 w2 h6 (fun w76 w77 w78 => k .normal ⟨31, [(0, .d (D.str a0)), (3, .d (D.int .u32 w76)), (7, .d (D.int .i64 w2)), (8, .d (D.int .i64 h6)), (17, .d (D.int .i64 w77)), (18, .d (D.bool w78))], []⟩) := by
  rw [layoutbin_Sum_c12_eq]
  unfold layoutbin_Sum_p12
  exact (layoutbin_Sum_p8_eq n a0 w56 w2 h6 (seqK (layoutbin_Sum_C n) n layoutbin_Sum_c11 k)).trans (layoutbin_Sum_p8_congr n a0 w56 w2 h6 (layoutbin_Sum_p11_eq n a0 w56 w2 h6 k))
theorem layoutbin_Sum_p13_eq {R : Type} (n : Nat) (a0 : List UInt8) (h4 : Int) (h6 : Int) (w2 : Int) (k : Exit → St → Option R) : vexec (layoutbin_Sum_C n) n layoutbin_Sum_c13 ⟨31, [(0, .d (D.str a0)), (3, .d (D.int .u32 h4)), (4, .d (D.int .i64 h6)), (7, .d (D.int .i64 w2)), (8, .d (D.int .i64 h6))], []⟩ k = layoutbin_Sum_p13 n a0 h4 h6 w2 (fun w79 w80 w81 => k .normal ⟨31, [(0, .d (D.str a0)), (3, .d (D.int .u32 w79)), (7, .d (D.int .i64 w2)), (8, .d (D.int .i64 h6)), (17, .d (D.int .i64 w80)), (18, .d (D.bool w81))], []⟩) := by
  rw [layoutbin_Sum_c13_eq]
  unfold layoutbin_Sum_p13
  exact (layoutbin_Sum_p7_eq n a0 h4 h6 w2 (seqK (layoutbin_Sum_C n) n layoutbin_Sum_c12 k)).trans (layoutbin_Sum_p7_congr n a0 h4 h6 w2 (fun w56 => layoutbin_Sum_p12_eq n a0 w56 w2 h6 k))
theorem layoutbin_Sum_p14_eq {R : Type} (n : Nat) (a0 : List UInt8) (h4 : Int) (w2 : Int) (h6 : Int) (w53 : Bool) (k : Exit → St → Option R) : vexec (layoutbin_Sum_C n) n layoutbin_Sum_c14 ⟨31, [(0, .d (D.str a0)), (3, .d (D.int .u32 h4)), (7, .d (D.int .i64 w2)), (8, .d (D.int .i64 h6)), (9, .d (D.bool w53))], []⟩ k = layoutbin_Sum_p14 n a0 h4 w2 h6 w53 (fun w82 w83 w84 => k .normal ⟨31, [(0, .d (D.str a0)), (3, .d (D.int .u32 w82)), (7, .d (D.int .i64 w2)), (8, .d (D.int .i64 h6)), (17, .d (D.int .i64 w83)), (18, .d (D.bool w84))], []⟩) := by
  rw [layoutbin_Sum_c14_eq]
  unfold layoutbin_Sum_p14
  exact (layoutbin_Sum_p6_eq n a0 h4 w2 h6 w53 (seqK (layoutbin_Sum_C n) n layoutbin_Sum_c13 k)).trans (layoutbin_Sum_p6_congr n a0 h4 w2 h6 w53 (layoutbin_Sum_p13_eq n a0 h4 h6 w2 k))
theorem layoutbin_Sum_p15_eq {R : Type} (n : Nat) (a0 : List UInt8) (h4 : Int) (w2 : Int) (h6 : Int) (w53 : Bool) (k : Exit → St → Option R) : vexec (layoutbin_Sum_C n) n layoutbin_Sum_c15 ⟨31, [(0, .d (D.str a0)), (3, .d (D.int .u32 h4)), (7, .d (D.int .i64 w2)), (8, .d (D.int .i64 h6)), (9, .d (D.bool w53))], []⟩ k = layoutbin_Sum_p15 n a0 h4 w2 h6 w53 (fun w85 w86 w87 => k .normal ⟨31, [(0, .d (D.str a0)), (3, .d (D.int .u32 w85)), (7, .d (D.int .i64 w2)), (8, .d (D.int .i64 h6)), (17, .d (D.int .i64 w86)), (18, .d (D.bool w87))], []⟩) := by
  rw [layoutbin_Sum_c15_eq]
  unfold layoutbin_Sum_p15
  exact (layoutbin_Sum_p14_eq n a0 h4 w2 h6 w53 (blockK 1 k)).trans (layoutbin_Sum_p14_congr n a0 h4 w2 h6 w53 (fun w85 w86 w87 => rfl))
theorem layoutbin_Sum_p16_eq {R : Type} (n : Nat) (a0 : List UInt8) (w88 : Int) (w2 : Int) (h6 : Int) (w89 : Int) (w90 : Bool) (k : Exit → St → Option R) : vexec (layoutbin_Sum_C n) n layoutbin_Sum_c16 ⟨31, [(0, .d (D.str a0)), (3, .d (D.int .u32 w88)), (7, .d (D.int .i64 w2)), (8, .d (D.int .i64 h6)), (17, .d (D.int .i64 w89)), (18, .d (D.bool w90))], []⟩ k = layoutbin_Sum_p16 n a0 w88 w2 h6 w89 w90 (fun z91 => k .normal ⟨31, [(0, .d (D.str a0)), (3, .d (D.int .u32 w88)), (7, .d (D.int .i64 w2)), (8, .d (D.int .i64 z91))], []⟩) := by kernel_rfl
theorem layoutbin_Sum_p17_eq {R : Type} (n : Nat) (a0 : List UInt8) (h4 : Int) (w2 : Int) (h6 : Int) (w53 : Bool) (k : Exit → St → Option R) : vexec (layoutbin_Sum_C n) n layoutbin_Sum_c17 ⟨31, [(0, .d (D.str a0)), (3, .d (D.int .u32 h4)), (7, .d (D.int .i64 w2)), (8, .d (D.int .i64 h6)), (9, .d (D.bool w53))], []⟩ k = layoutbin_Sum_p17 n a0 h4 w2 h6 w53 (fun w88 w92 => k .normal ⟨31, [(0, .d (D.str a0)), (3, .d (D.int .u32 w88)), (7, .d (D.int .i64 w2)), (8, .d (D.int .i64 w92))], []⟩) := by
  rw [layoutbin_Sum_c17_eq]
  unfold layoutbin_Sum_p17
  exact (layoutbin_Sum_p15_eq n a0 h4 w2 h6 w53 (seqK (layoutbin_Sum_C n) n layoutbin_Sum_c16 k)).trans (layoutbin_Sum_p15_congr n a0 h4 w2 h6 w53 (fun w88 w89 w90 => layoutbin_Sum_p16_eq n a0 w88 w2 h6 w89 w90 k))
theorem layoutbin_Sum_p18_eq {R : Type} (n : Nat) (a0 : List UInt8) (h4 : Int) (w2 : Int) (h6 : Int) (w53 : Bool) (k : Exit → St → Option R) : vexec (layoutbin_Sum_C n) n layoutbin_Sum_c18 ⟨31, [(0, .d (D.str a0)), (3, .d (D.int .u32 h4)), (7, .d (D.int .i64 w2)), (8, .d (D.int .i64 h6)), (9, .d (D.bool w53))], []⟩ k = layoutbin_Sum_p18 n a0 h4 w2 h6 w53 (fun w93 w94 => k .normal ⟨31, [(0, .d (D.str a0)), (3, .d (D.int .u32 w93)), (7, .d (D.int .i64 w2)), (8, .d (D.int .i64 w94))], []⟩) (k (.exit 0) ⟨31, [(0, .d (D.str a0)), (3, .d (D.int .u32 h4)), (7, .d (D.int .i64 w2)), (8, .d (D.int .i64 h6)), (9, .d (D.bool w53))], []⟩) := by
  rw [layoutbin_Sum_c18_eq]
  unfold layoutbin_Sum_p18
  exact (layoutbin_Sum_p5_eq n a0 h4 w2 h6 w53 (seqK (layoutbin_Sum_C n) n layoutbin_Sum_c17 k)).trans (layoutbin_Sum_p5_congr n a0 h4 w2 h6 w53 (layoutbin_Sum_p17_eq n a0 h4 w2 h6 w53 k) (rfl))
theorem layoutbin_Sum_p19_eq {R : Type} (n : Nat) (a0 : List UInt8) (h4 : Int) (w2 : Int) (h6 : Int) (k : Exit → St → Option R) : vexec (layoutbin_Sum_C n) n layoutbin_Sum_c19 ⟨31, [(0, .d (D.str a0)), (3, .d (D.int .u32 h4)), (7, .d (D.int .i64 w2)), (8, .d (D.int .i64 h6))], []⟩ k = layoutbin_Sum_p19 n a0 h4 w2 h6 (fun w95 w96 => k .normal ⟨31, [(0, .d (D.str a0)), (3, .d (D.int .u32 w95)), (7, .d (D.int .i64 w2)), (8, .d (D.int .i64 w96))], []⟩) (fun w53 => k (.exit 0) ⟨31, [(0, .d (D.str a0)), (3, .d (D.int .u32 h4)), (7, .d (D.int .i64 w2)), (8, .d (D.int .i64 h6)), (9, .d (D.bool w53))], []⟩) := by
  rw [layoutbin_Sum_c19_eq]
  unfold layoutbin_Sum_p19
  exact (layoutbin_Sum_p4_eq n a0 h4 w2 h6 (seqK (layoutbin_Sum_C n) n layoutbin_Sum_c18 k)).trans (layoutbin_Sum_p4_congr n a0 h4 w2 h6 (fun w53 => layoutbin_Sum_p18_eq n a0 h4 w2 h6 w53 k))
theorem layoutbin_Sum_r20_eq {R : Type} (n : Nat) (a0 : List UInt8) (w2 : Int) (k : Exit → St → Option R) : ∀ (m : Nat) (h4 : Int) (h6 : Int), loopN (vexec (layoutbin_Sum_C n) n layoutbin_Sum_c19) m ⟨31, [(0, .d (D.str a0)), (3, .d (D.int .u32 h4)), (7, .d (D.int .i64 w2)), (8, .d (D.int .i64 h6))], []⟩ k = layoutbin_Sum_r20 n a0 w2 (fun h4 h6 w99 => k (.exit 0) ⟨31, [(0, .d (D.str a0)), (3, .d (D.int .u32 h4)), (7, .d (D.int .i64 w2)), (8, .d (D.int .i64 h6)), (9, .d (D.bool w99))], []⟩) m h4 h6
  | 0, _, _ => rfl
  | m + 1, h4, h6 => (layoutbin_Sum_p19_eq n a0 h4 w2 h6 (loopK (vexec (layoutbin_Sum_C n) n layoutbin_Sum_c19) m k)).trans (layoutbin_Sum_p19_congr n a0 h4 w2 h6 (fun w97 w98 => layoutbin_Sum_r20_eq n a0 w2 k m w97 w98) (fun w99 => rfl))
theorem layoutbin_Sum_p20_eq {R : Type} (n : Nat) (a0 : List UInt8) (w2 : Int) (k : Exit → St → Option R) : vexec (layoutbin_Sum_C n) n layoutbin_Sum_c20 ⟨31, [(0, .d (D.str a0)), (3, .d (D.int .u32 (4294967295 : Int))), (7, .d (D.int .i64 w2)), (8, .d (D.int .i64 (0 : Int)))], []⟩ k = layoutbin_Sum_p20 n a0 w2 (fun h4 h6 w99 => k (.exit 0) ⟨31, [(0, .d (D.str a0)), (3, .d (D.int .u32 h4)), (7, .d (D.int .i64 w2)), (8, .d (D.int .i64 h6)), (9, .d (D.bool w99))], []⟩) := by
  rw [layoutbin_Sum_c20_eq]
  exact layoutbin_Sum_r20_eq n a0 w2 k n (4294967295 : Int) (0 : Int)
theorem layoutbin_Sum_p21_eq {R : Type} (n : Nat) (a0 : List UInt8) (w2 : Int) (k : Exit → St → Option R) : vexec (layoutbin_Sum_C n) n layoutbin_Sum_c21 ⟨31, [(0, .d (D.str a0)), (3, .d (D.int .u32 (4294967295 : Int))), (7, .d (D.int .i64 w2)), (8, .d (D.int .i64 (0 : Int)))], []⟩ k = layoutbin_Sum_p21 n a0 w2 (fun w100 w101 w102 => k .normal ⟨31, [(0, .d (D.str a0)), (3, .d (D.int .u32 w100)), (7, .d (D.int .i64 w2)), (8, .d (D.int .i64 w101)), (9, .d (D.bool w102))], []⟩) := by
  rw [layoutbin_Sum_c21_eq]
  unfold layoutbin_Sum_p21
  exact (layoutbin_Sum_p20_eq n a0 w2 (blockK 0 k)).trans (layoutbin_Sum_p20_congr n a0 w2 (fun w100 w101 w102 => rfl))
theorem layoutbin_Sum_p22_eq {R : Type} (n : Nat) (a0 : List UInt8) (k : Exit → St → Option R) : vexec (layoutbin_Sum_C n) n layoutbin_Sum_c22 ⟨31, [(0, .d (D.str a0)), (3, .d (D.int .u32 (4294967295 : Int)))], []⟩ k = layoutbin_Sum_p22 n a0 (fun w103 w2 w104 w105 => k .normal ⟨31, [(0, .d (D.str a0)), (3, .d (D.int .u32 w103)), (7, .d (D.int .i64 w2)), (8, .d (D.int .i64 w104)), (9, .d (D.bool w105))], []⟩) := by
  rw [layoutbin_Sum_c22_eq]
  unfold layoutbin_Sum_p22
  exact (layoutbin_Sum_p3_eq n a0 (seqK (layoutbin_Sum_C n) n layoutbin_Sum_c21 k)).trans (layoutbin_Sum_p3_congr n a0 (fun w2 => layoutbin_Sum_p21_eq n a0 w2 k))
theorem layoutbin_Sum_p23_eq {R : Type} (n : Nat) (a0 : List UInt8) (w106 : Int) (w107 : Int) (w108 : Int) (w109 : Bool) (k : Exit → St → Option R) : vexec (layoutbin_Sum_C n) n layoutbin_Sum_c23 ⟨31, [(0, .d (D.str a0)), (3, .d (D.int .u32 w106)), (7, .d (D.int .i64 w107)), (8, .d (D.int .i64 w108)), (9, .d (D.bool w109))], []⟩ k = layoutbin_Sum_p23 n a0 w106 w107 w108 w109 (fun z110 => k .ret ⟨31, [(2, .d (D.int .u32 z110))], []⟩) := by kernel_rfl
theorem layoutbin_Sum_p24_eq {R : Type} (n : Nat) (a0 : List UInt8) (k : Exit → St → Option R) : vexec (layoutbin_Sum_C n) n layoutbin_Sum_c24 ⟨31, [(0, .d (D.str a0)), (3, .d (D.int .u32 (4294967295 : Int)))], []⟩ k = layoutbin_Sum_p24 n a0 (fun w111 => k .ret ⟨31, [(2, .d (D.int .u32 w111))], []⟩) := by
  rw [layoutbin_Sum_c24_eq]
  unfold layoutbin_Sum_p24
  exact (layoutbin_Sum_p22_eq n a0 (seqK (layoutbin_Sum_C n) n layoutbin_Sum_c23 k)).trans (layoutbin_Sum_p22_congr n a0 (fun w106 w107 w108 w109 => layoutbin_Sum_p23_eq n a0 w106 w107 w108 w109 k))
theorem layoutbin_Sum_p25_eq {R : Type} (n : Nat) (a0 : List UInt8) (k : Exit → St → Option R) : vexec (layoutbin_Sum_C n) n layoutbin_Sum_c25 ⟨31, [(0, .d (D.str a0))], []⟩ k = layoutbin_Sum_p25 n a0 (fun w112 => k .ret ⟨31, [(2, .d (D.int .u32 w112))], []⟩) := by
  rw [layoutbin_Sum_c25_eq]
  unfold layoutbin_Sum_p25
  exact (layoutbin_Sum_p2_eq n a0 (seqK (layoutbin_Sum_C n) n layoutbin_Sum_c24 k)).trans (layoutbin_Sum_p2_congr n a0 (layoutbin_Sum_p24_eq n a0 k))
theorem layoutbin_Sum_p26_eq {R : Type} (n : Nat) (a0 : List UInt8) (k : Exit → St → Option R) : vexec (layoutbin_Sum_C n) n layoutbin_Sum_c0 ⟨31, [(0, .d (D.str a0))], []⟩ k = layoutbin_Sum_p26 n a0 (fun w113 => k .ret ⟨31, [(2, .d (D.int .u32 w113))], []⟩) := by
  rw [layoutbin_Sum_c0_eq]
  unfold layoutbin_Sum_p26
  exact (layoutbin_Sum_p1_eq n a0 (seqK (layoutbin_Sum_C n) n layoutbin_Sum_c25 k)).trans (layoutbin_Sum_p1_congr n a0 (layoutbin_Sum_p25_eq n a0 k))
theorem layoutbin_Sum_vfn {R : Type} (n : Nat) (a0 : List UInt8) (K : AV → Option R) : vfn (layoutbin_Sum_C n) n Try.f32 [.d (D.str a0)] [] (retF [[0]] K) = layoutbin_Sum n a0 (fun r0 => K (.d (D.int .u32 r0))) :=
  (show vfn (layoutbin_Sum_C n) n Try.f32 [.d (D.str a0)] [] (retF [[0]] K) = vexec (layoutbin_Sum_C n) n layoutbin_Sum_c0 ⟨31, [(0, .d (D.str a0))], []⟩ (retX layoutbin_Sum_tt [.tmp 2] (retF [[0]] K)) from vfn_at (by kernel_rfl) (by kernel_rfl) rfl (by kernel_rfl) rfl (by kernel_rfl) rfl).trans ((layoutbin_Sum_p26_eq n a0 (retX layoutbin_Sum_tt [.tmp 2] (retF [[0]] K))).trans (by kernel_rfl))
def layoutbin_Sum_K : AV → Option (Int) := fun av => match av with
  | .d (D.int .u32 r0) => some r0
  | _ => none
def layoutbin_Sum_e (n : Nat) : Entry := fun _ _ g avs _ k => match avs with
  | [c0] => prT g c0 fun a0 => 
    gb g (layoutbin_Sum n a0 some) 0 fun r => k ⟨.d (D.int .u32 r), [], []⟩
  | _ => none
theorem layoutbin_Sum_ok (n : Nat) : EntryOK Try.prog 32 (layoutbin_Sum_e n) := by
  intro R site g avs hl k r h
  unfold layoutbin_Sum_e at h
  split at h
  rotate_left
  · cases h
  replace h := prT_some h
  obtain ⟨a0, h, le0⟩ := h
  replace h := gb_some h
  obtain ⟨res, h, hr⟩ := h
  refine ⟨_, h, fun hg => CallOK.conv (avs' := [.d (D.str a0)]) (.cons (le0 hg) (.nil)) (callOK_fix (K := layoutbin_Sum_K) (res := res) (layoutbin_Sum_VC n) (fn := Try.f32) (n := n) (by kernel_rfl) (by kernel_rfl) (by kernel_rfl) (ss := [[0]]) rfl ?_ ?_)⟩
  · exact (layoutbin_Sum_vfn n a0 layoutbin_Sum_K).trans (hr hg)
  · intro x hx
    unfold layoutbin_Sum_K at hx
    split at hx
    · injection hx with hx; subst hx; rfl
    · cases hx
end Go.Vx
/-
  store_Encode: the interpreter computes the pure function
-/
set_option linter.unusedVariables false
set_option linter.unusedSimpArgs false
set_option maxRecDepth 100000
namespace Go.Vx
open Go.Proofs
noncomputable def store_Encode_c0 : Code := bodyOf Try.f12
def store_Encode_tt : TT := [(3, ⟨.int .i64, 1, 8, [.int .i64 0], [.int .i64 0], [], none⟩), (9, ⟨.str, 1, 16, [.string ⟨#[]⟩], [.str []], [], none⟩), (23, ⟨.struct, 2, 24, [.int .i64 0, .string ⟨#[]⟩], [.int .i64 0, .str []], [(0, 3), (1, 9)], some [.int .i64, .str]⟩), (24, ⟨.int .i64, 1, 8, [.int .i64 0], [.int .i64 0], [], none⟩), (52, ⟨.int .u32, 1, 4, [.int .u32 0], [.int .u32 0], [], none⟩)]
theorem store_Encode_tt_eq : mkTT Try.prog [3, 9, 23, 24, 52] = store_Encode_tt := by kernel_rfl
def store_Encode_cfg : List (Nat × Cfg) := [(0, ⟨[1], [(1, 1)], [], [], []⟩), (1, ⟨[1, 4], [(1, 1)], [], [], []⟩), (2, ⟨[1, 4, 9], [(1, 1)], [], [], []⟩), (3, ⟨[2, 3], [], [], [], []⟩), (4, ⟨[1, 5], [(1, 1)], [], [], []⟩), (5, ⟨[2, 3], [], [], [], []⟩)]
def store_Encode_C (n : Nat) : VC := ⟨specOf [(30, store_check_e n), (31, store_number_e n), (32, layoutbin_Sum_e n)], store_Encode_tt, store_Encode_cfg⟩
theorem store_Encode_ents (n : Nat) : EntsOK Try.prog [(30, store_check_e n), (31, store_number_e n), (32, layoutbin_Sum_e n)] := ⟨store_check_ok n, ⟨store_number_ok n, ⟨layoutbin_Sum_ok n, trivial⟩⟩⟩
theorem store_Encode_VC (n : Nat) : VCOk Try.prog (store_Encode_C n) := ⟨specOf_ok (store_Encode_ents n), (store_Encode_tt_eq ▸ mkTT_ok _ : TOk Try.prog store_Encode_tt), by kernel_rfl⟩
theorem store_Encode_p1_congr {R : Type} (n : Nat) (a0_0 : Int) (a0_1 : List UInt8) {k0 kk0 : (List UInt8) → Int → Option R} (hq0 : ∀ x0 x1, k0 x0 x1 = kk0 x0 x1) : store_Encode_p1 n a0_0 a0_1 k0 = store_Encode_p1 n a0_0 a0_1 kk0 := by
  obtain rfl : k0 = kk0 := funext fun x0 => funext fun x1 => hq0 x0 x1
  rfl
theorem store_Encode_p1_eq {R : Type} (n : Nat) (a0_0 : Int) (a0_1 : List UInt8) (k : Exit → St → Option R) : vexec (store_Encode_C n) n store_Encode_c0 ⟨33, [(0, .ag [.d (D.int .i64 a0_0), .d (D.str a0_1)])], []⟩ k = store_Encode_p1 n a0_0 a0_1 (fun z11 z12 => k .ret ⟨33, [(2, .d (D.str z11)), (3, .d (D.int .i64 z12))], []⟩) := by kernel_rfl
theorem store_Encode_vfn {R : Type} (n : Nat) (a0_0 : Int) (a0_1 : List UInt8) (K : AV → Option R) : vfn (store_Encode_C n) n Try.f12 [.ag [.d (D.int .i64 a0_0), .d (D.str a0_1)]] [] (retF [[0], [0]] K) = store_Encode n a0_0 a0_1 (fun r0 r1 => K (.tup [.d (D.str r0), .d (D.int .i64 r1)])) :=
  (show vfn (store_Encode_C n) n Try.f12 [.ag [.d (D.int .i64 a0_0), .d (D.str a0_1)]] [] (retF [[0], [0]] K) = vexec (store_Encode_C n) n store_Encode_c0 ⟨33, [(0, .ag [.d (D.int .i64 a0_0), .d (D.str a0_1)])], []⟩ (retX store_Encode_tt [.tmp 2, .tmp 3] (retF [[0], [0]] K)) from vfn_at (by kernel_rfl) (by kernel_rfl) rfl (by kernel_rfl) rfl (by kernel_rfl) rfl).trans ((store_Encode_p1_eq n a0_0 a0_1 (retX store_Encode_tt [.tmp 2, .tmp 3] (retF [[0], [0]] K))).trans (by kernel_rfl))
def store_Encode_K : AV → Option ((List UInt8) × Int) := fun av => match av with
  | .tup [.d (D.str r0), .d (D.int .i64 r1)] => some (r0, r1)
  | _ => none
def store_Encode_e (n : Nat) : Entry := fun _ _ g avs _ k => match avs with
  | [c0] => 
    prG c0 fun l0 => (match l0 with
    | [c0_0, c0_1] => prI g .i64 c0_0 fun a0_0 => prT g c0_1 fun a0_1 => 
    gb g (store_Encode n a0_0 a0_1 (fun r0 r1 => some (r0, r1))) ([], 0) fun r => k ⟨.tup [.d (D.str r.1), .d (D.int .i64 r.2)], [], []⟩
    | _ => none)
  | _ => none
theorem store_Encode_ok (n : Nat) : EntryOK Try.prog 12 (store_Encode_e n) := by
  intro R site g avs hl k r h
  unfold store_Encode_e at h
  split at h
  rotate_left
  · cases h
  replace h := prG_some h
  obtain ⟨l0, h, e0⟩ := h
  subst e0
  split at h
  rotate_left
  · cases h
  replace h := prI_some h
  obtain ⟨a0_0, h, le0⟩ := h
  replace h := prT_some h
  obtain ⟨a0_1, h, le1⟩ := h
  replace h := gb_some h
  obtain ⟨res, h, hr⟩ := h
  refine ⟨_, h, fun hg => CallOK.conv (avs' := [.ag [.d (D.int .i64 a0_0), .d (D.str a0_1)]]) (.cons (.ag (.cons (le0 hg) (.cons (le1 hg) (.nil)))) (.nil)) (callOK_fix (K := store_Encode_K) (res := res) (store_Encode_VC n) (fn := Try.f12) (n := n) (by kernel_rfl) (by kernel_rfl) (by kernel_rfl) (ss := [[0], [0]]) rfl ?_ ?_)⟩
  · exact (store_Encode_vfn n a0_0 a0_1 store_Encode_K).trans (hr hg)
  · intro x hx
    unfold store_Encode_K at hx
    split at hx
    · injection hx with hx; subst hx; rfl
    · cases hx
end Go.Vx
/-
  store_decode: the interpreter computes the pure function
-/
set_option linter.unusedVariables false
set_option linter.unusedSimpArgs false
set_option maxRecDepth 100000
namespace Go.Vx
open Go.Proofs
noncomputable def store_decode_c0 : Code := bodyOf Try.f37
def store_decode_tt : TT := [(3, ⟨.int .i64, 1, 8, [.int .i64 0], [.int .i64 0], [], none⟩), (9, ⟨.str, 1, 16, [.string ⟨#[]⟩], [.str []], [], none⟩), (23, ⟨.struct, 2, 24, [.int .i64 0, .string ⟨#[]⟩], [.int .i64 0, .str []], [(0, 3), (1, 9)], some [.int .i64, .str]⟩), (24, ⟨.int .i64, 1, 8, [.int .i64 0], [.int .i64 0], [], none⟩)]
theorem store_decode_tt_eq : mkTT Try.prog [3, 9, 23, 24] = store_decode_tt := by kernel_rfl
def store_decode_cfg : List (Nat × Cfg) := [(0, ⟨[0, 2], [(2, 2)], [], [], []⟩), (1, ⟨[0, 2, 16], [(2, 2)], [], [], []⟩), (2, ⟨[2, 3, 4], [(2, 2)], [], [], []⟩), (3, ⟨[0, 2, 5], [(2, 2)], [], [], []⟩), (4, ⟨[0, 2, 5, 29], [(2, 2)], [], [], []⟩), (5, ⟨[2, 3, 4], [(2, 2)], [], [], []⟩), (6, ⟨[0, 2, 6], [(2, 2), (6, 6)], [], [], []⟩), (7, ⟨[0, 2, 6, 7, 8], [(2, 2), (6, 6)], [], [], []⟩), (8, ⟨[2, 6, 7, 52], [(2, 2), (6, 6)], [], [], []⟩), (9, ⟨[2, 3, 4], [(2, 2)], [], [], []⟩), (10, ⟨[2, 3, 4], [(2, 2)], [], [], []⟩)]
def store_decode_C (n : Nat) : VC := ⟨specOf [(41, strings_HasPrefix_e n), (42, store_value_e n), (43, strings_Clone_e n), (12, store_Encode_e n)], store_decode_tt, store_decode_cfg⟩
theorem store_decode_ents (n : Nat) : EntsOK Try.prog [(41, strings_HasPrefix_e n), (42, store_value_e n), (43, strings_Clone_e n), (12, store_Encode_e n)] := ⟨strings_HasPrefix_ok n, ⟨store_value_ok n, ⟨strings_Clone_ok n, ⟨store_Encode_ok n, trivial⟩⟩⟩⟩
theorem store_decode_VC (n : Nat) : VCOk Try.prog (store_decode_C n) := ⟨specOf_ok (store_decode_ents n), (store_decode_tt_eq ▸ mkTT_ok _ : TOk Try.prog store_decode_tt), by kernel_rfl⟩
theorem store_decode_p1_congr {R : Type} (n : Nat) (a0 : List UInt8) {k0 kk0 : Int → Bool → Int → (List UInt8) → Option R} (hq0 : ∀ x0 x1 x2 x3, k0 x0 x1 x2 x3 = kk0 x0 x1 x2 x3) : store_decode_p1 n a0 k0 = store_decode_p1 n a0 kk0 := by
  obtain rfl : k0 = kk0 := funext fun x0 => funext fun x1 => funext fun x2 => funext fun x3 => hq0 x0 x1 x2 x3
  rfl
theorem store_decode_p1_eq {R : Type} (n : Nat) (a0 : List UInt8) (k : Exit → St → Option R) : vexec (store_decode_C n) n store_decode_c0 ⟨57, [(0, .d (D.str a0))], []⟩ k = store_decode_p1 n a0 (fun z10 z11 z12 z13 => k .ret ⟨57, [(2, .ptr 2 0), (3, .d (D.int .i64 z10)), (4, .d (D.bool z11))], [(2, .box [.d (D.int .i64 z12), .d (D.str z13)])]⟩) := by kernel_rfl
theorem store_decode_vfn {R : Type} (n : Nat) (a0 : List UInt8) (K : AV → Option R) : vfn (store_decode_C n) n Try.f37 [.d (D.str a0)] [] (retF [[0, 0], [0], [0]] K) = store_decode n a0 (fun r0 r1 r2 r3 => K (.tup [.ag [.d (D.int .i64 r0), .d (D.str r1)], .d (D.int .i64 r2), .d (D.bool r3)])) :=
  (show vfn (store_decode_C n) n Try.f37 [.d (D.str a0)] [] (retF [[0, 0], [0], [0]] K) = vexec (store_decode_C n) n store_decode_c0 ⟨57, [(0, .d (D.str a0))], []⟩ (retX store_decode_tt [.cell 2 23, .tmp 3, .tmp 4] (retF [[0, 0], [0], [0]] K)) from vfn_at (by kernel_rfl) (by kernel_rfl) rfl (by kernel_rfl) rfl (by kernel_rfl) rfl).trans ((store_decode_p1_eq n a0 (retX store_decode_tt [.cell 2 23, .tmp 3, .tmp 4] (retF [[0, 0], [0], [0]] K))).trans (by kernel_rfl))
def store_decode_K : AV → Option (Int × (List UInt8) × Int × Bool) := fun av => match av with
  | .tup [.ag [.d (D.int .i64 r0), .d (D.str r1)], .d (D.int .i64 r2), .d (D.bool r3)] => some (r0, r1, r2, r3)
  | _ => none
def store_decode_e (n : Nat) : Entry := fun _ _ g avs _ k => match avs with
  | [c0] => prT g c0 fun a0 => 
    gb g (store_decode n a0 (fun r0 r1 r2 r3 => some (r0, r1, r2, r3))) (0, [], 0, false) fun r => k ⟨.tup [.ag [.d (D.int .i64 r.1), .d (D.str r.2.1)], .d (D.int .i64 r.2.2.1), .d (D.bool r.2.2.2)], [], []⟩
  | _ => none
theorem store_decode_ok (n : Nat) : EntryOK Try.prog 37 (store_decode_e n) := by
  intro R site g avs hl k r h
  unfold store_decode_e at h
  split at h
  rotate_left
  · cases h
  replace h := prT_some h
  obtain ⟨a0, h, le0⟩ := h
  replace h := gb_some h
  obtain ⟨res, h, hr⟩ := h
  refine ⟨_, h, fun hg => CallOK.conv (avs' := [.d (D.str a0)]) (.cons (le0 hg) (.nil)) (callOK_fix (K := store_decode_K) (res := res) (store_decode_VC n) (fn := Try.f37) (n := n) (by kernel_rfl) (by kernel_rfl) (by kernel_rfl) (ss := [[0, 0], [0], [0]]) rfl ?_ ?_)⟩
  · exact (store_decode_vfn n a0 store_decode_K).trans (hr hg)
  · intro x hx
    unfold store_decode_K at hx
    split at hx
    · injection hx with hx; subst hx; rfl
    · cases hx
end Go.Vx
/-
  store_Scan: the interpreter computes the pure function
-/
set_option linter.unusedVariables false
set_option linter.unusedSimpArgs false
set_option maxRecDepth 100000
namespace Go.Vx
open Go.Proofs
noncomputable def store_Scan_c0 : Code := bodyOf Try.f19
noncomputable def store_Scan_c1 : Code := cL (bodyOf Try.f19)
noncomputable def store_Scan_c2 : Code := cL (cR (bodyOf Try.f19))
noncomputable def store_Scan_c3 : Code := cL (cR (cR (bodyOf Try.f19)))
noncomputable def store_Scan_c4 : Code := cB (cB (cL (cR (cR (cR (bodyOf Try.f19))))))
noncomputable def store_Scan_c5 : Code := cB (cL (cR (cR (cR (bodyOf Try.f19)))))
noncomputable def store_Scan_c6 : Code := cL (cR (cR (cR (bodyOf Try.f19))))
noncomputable def store_Scan_c7 : Code := cR (cR (cR (cR (bodyOf Try.f19))))
noncomputable def store_Scan_c8 : Code := cR (cR (cR (bodyOf Try.f19)))
noncomputable def store_Scan_c9 : Code := cR (cR (bodyOf Try.f19))
noncomputable def store_Scan_c10 : Code := cR (bodyOf Try.f19)
theorem store_Scan_c5_eq : store_Scan_c5 = .loop store_Scan_c4 := by kernel_rfl
theorem store_Scan_c6_eq : store_Scan_c6 = .block 0 store_Scan_c5 := by kernel_rfl
theorem store_Scan_c8_eq : store_Scan_c8 = .seq store_Scan_c6 store_Scan_c7 := by kernel_rfl
theorem store_Scan_c9_eq : store_Scan_c9 = .seq store_Scan_c3 store_Scan_c8 := by kernel_rfl
theorem store_Scan_c10_eq : store_Scan_c10 = .seq store_Scan_c2 store_Scan_c9 := by kernel_rfl
theorem store_Scan_c0_eq : store_Scan_c0 = .seq store_Scan_c1 store_Scan_c10 := by kernel_rfl
def store_Scan_tt : TT := [(3, ⟨.int .i64, 1, 8, [.int .i64 0], [.int .i64 0], [], none⟩), (9, ⟨.str, 1, 16, [.string ⟨#[]⟩], [.str []], [], none⟩), (23, ⟨.struct, 2, 24, [.int .i64 0, .string ⟨#[]⟩], [.int .i64 0, .str []], [(0, 3), (1, 9)], some [.int .i64, .str]⟩), (32, ⟨.sl 23 2, 1, 24, [.slice none 0 0], [.sl 2 []], [], none⟩)]
theorem store_Scan_tt_eq : mkTT Try.prog [3, 9, 23, 32] = store_Scan_tt := by kernel_rfl
def store_Scan_cfg : List (Nat × Cfg) := [(0, ⟨[0], [], [], [], []⟩), (1, ⟨[0, 4], [], [], [], []⟩), (2, ⟨[0, 4, 5], [], [(4, 1004, 23, 2)], [], []⟩), (3, ⟨[0, 4, 5, 11], [(1004, 1004)], [], [], []⟩), (4, ⟨[0, 4, 5, 6, 7, 8], [(6, 6), (1004, 1004)], [], [], []⟩), (5, ⟨[0, 4, 5, 6, 7, 38], [(6, 6), (1004, 1004)], [], [], []⟩), (6, ⟨[0, 4, 5, 7], [(42, 1004)], [], [], []⟩), (7, ⟨[0, 4, 5], [(1004, 1004)], [], [], []⟩), (8, ⟨[2, 3], [(1004, 1004)], [], [], []⟩)]
def store_Scan_C (n : Nat) : VC := ⟨specOf [(37, store_decode_e n)], store_Scan_tt, store_Scan_cfg⟩
theorem store_Scan_ents (n : Nat) : EntsOK Try.prog [(37, store_decode_e n)] := ⟨store_decode_ok n, trivial⟩
theorem store_Scan_VC (n : Nat) : VCOk Try.prog (store_Scan_C n) := ⟨specOf_ok (store_Scan_ents n), (store_Scan_tt_eq ▸ mkTT_ok _ : TOk Try.prog store_Scan_tt), by kernel_rfl⟩
theorem store_Scan_p1_congr {R : Type} (n : Nat) (a0 : List UInt8) {k0 kk0 : Option R} (hq0 : k0 = kk0) : store_Scan_p1 n a0 k0 = store_Scan_p1 n a0 kk0 := by
  obtain rfl : k0 = kk0 := hq0
  rfl
theorem store_Scan_p2_congr {R : Type} (n : Nat) (a0 : List UInt8) {k0 kk0 : Option R} (hq0 : k0 = kk0) : store_Scan_p2 n a0 k0 = store_Scan_p2 n a0 kk0 := by
  obtain rfl : k0 = kk0 := hq0
  rfl
theorem store_Scan_p3_congr {R : Type} (n : Nat) (a0 : List UInt8) {k0 kk0 : Option R} (hq0 : k0 = kk0) : store_Scan_p3 n a0 k0 = store_Scan_p3 n a0 kk0 := by
  obtain rfl : k0 = kk0 := hq0
  rfl
theorem store_Scan_p4_congr {R : Type} (n : Nat) (a0 : List UInt8) (h2 : Int) (h3 : List (List D)) {k0 kk0 : Int → Bool → Int → (List UInt8) → Option R} {k1 kk1 : Int → (List (List D)) → Option R} {k2 kk2 : Bool → Option R} (hq0 : ∀ x0 x1 x2 x3, k0 x0 x1 x2 x3 = kk0 x0 x1 x2 x3) (hq1 : ∀ x0 x1, k1 x0 x1 = kk1 x0 x1) (hq2 : ∀ x0, k2 x0 = kk2 x0) : store_Scan_p4 n a0 h2 h3 k0 k1 k2 = store_Scan_p4 n a0 h2 h3 kk0 kk1 kk2 := by
  obtain rfl : k0 = kk0 := funext fun x0 => funext fun x1 => funext fun x2 => funext fun x3 => hq0 x0 x1 x2 x3
  obtain rfl : k1 = kk1 := funext fun x0 => funext fun x1 => hq1 x0 x1
  obtain rfl : k2 = kk2 := funext fun x0 => hq2 x0
  rfl
theorem store_Scan_p5_congr {R : Type} (n : Nat) (a0 : List UInt8) {k0 kk0 : Int → Int → Bool → Int → (List UInt8) → (List (List D)) → Option R} {k1 kk1 : Int → Bool → (List (List D)) → Option R} (hq0 : ∀ x0 x1 x2 x3 x4 x5, k0 x0 x1 x2 x3 x4 x5 = kk0 x0 x1 x2 x3 x4 x5) (hq1 : ∀ x0 x1 x2, k1 x0 x1 x2 = kk1 x0 x1 x2) : store_Scan_p5 n a0 k0 k1 = store_Scan_p5 n a0 kk0 kk1 := by
  obtain rfl : k0 = kk0 := funext fun x0 => funext fun x1 => funext fun x2 => funext fun x3 => funext fun x4 => funext fun x5 => hq0 x0 x1 x2 x3 x4 x5
  obtain rfl : k1 = kk1 := funext fun x0 => funext fun x1 => funext fun x2 => hq1 x0 x1 x2
  rfl
theorem store_Scan_p6_congr {R : Type} (n : Nat) (a0 : List UInt8) {k0 kk0 : Int → Int → Bool → Int → (List UInt8) → (List (List D)) → Option R} {k1 kk1 : Int → Bool → (List (List D)) → Option R} (hq0 : ∀ x0 x1 x2 x3 x4 x5, k0 x0 x1 x2 x3 x4 x5 = kk0 x0 x1 x2 x3 x4 x5) (hq1 : ∀ x0 x1 x2, k1 x0 x1 x2 = kk1 x0 x1 x2) : store_Scan_p6 n a0 k0 k1 = store_Scan_p6 n a0 kk0 kk1 := by
  obtain rfl : k0 = kk0 := funext fun x0 => funext fun x1 => funext fun x2 => funext fun x3 => funext fun x4 => funext fun x5 => hq0 x0 x1 x2 x3 x4 x5
  obtain rfl : k1 = kk1 := funext fun x0 => funext fun x1 => funext fun x2 => hq1 x0 x1 x2
  rfl
theorem store_Scan_p7_congr {R : Type} (n : Nat) (a0 : List UInt8) (w48 : Int) (w49 : Int) (w50 : Bool) (w51 : Int) (w52 : List UInt8) (w53 : List (List D)) {k0 kk0 : Option R} (hq0 : k0 = kk0) : store_Scan_p7 n a0 w48 w49 w50 w51 w52 w53 k0 = store_Scan_p7 n a0 w48 w49 w50 w51 w52 w53 kk0 := by
  obtain rfl : k0 = kk0 := hq0
  rfl
theorem store_Scan_p8_congr {R : Type} (n : Nat) (a0 : List UInt8) (w54 : Int) (w55 : Bool) (w56 : List (List D)) {k0 kk0 : Option R} (hq0 : k0 = kk0) : store_Scan_p8 n a0 w54 w55 w56 k0 = store_Scan_p8 n a0 w54 w55 w56 kk0 := by
  obtain rfl : k0 = kk0 := hq0
  rfl
theorem store_Scan_p9_congr {R : Type} (n : Nat) (a0 : List UInt8) {k0 kk0 : Int → (List (List D)) → Option R} (hq0 : ∀ x0 x1, k0 x0 x1 = kk0 x0 x1) : store_Scan_p9 n a0 k0 = store_Scan_p9 n a0 kk0 := by
  obtain rfl : k0 = kk0 := funext fun x0 => funext fun x1 => hq0 x0 x1
  rfl
theorem store_Scan_p10_congr {R : Type} (n : Nat) (a0 : List UInt8) {k0 kk0 : Int → (List (List D)) → Option R} (hq0 : ∀ x0 x1, k0 x0 x1 = kk0 x0 x1) : store_Scan_p10 n a0 k0 = store_Scan_p10 n a0 kk0 := by
  obtain rfl : k0 = kk0 := funext fun x0 => funext fun x1 => hq0 x0 x1
  rfl
theorem store_Scan_p11_congr {R : Type} (n : Nat) (a0 : List UInt8) {k0 kk0 : Int → (List (List D)) → Option R} (hq0 : ∀ x0 x1, k0 x0 x1 = kk0 x0 x1) : store_Scan_p11 n a0 k0 = store_Scan_p11 n a0 kk0 := by
  obtain rfl : k0 = kk0 := funext fun x0 => funext fun x1 => hq0 x0 x1
  rfl
theorem store_Scan_p12_congr {R : Type} (n : Nat) (a0 : List UInt8) {k0 kk0 : Int → (List (List D)) → Option R} (hq0 : ∀ x0 x1, k0 x0 x1 = kk0 x0 x1) : store_Scan_p12 n a0 k0 = store_Scan_p12 n a0 kk0 := by
  obtain rfl : k0 = kk0 := funext fun x0 => funext fun x1 => hq0 x0 x1
  rfl
theorem store_Scan_p1_eq {R : Type} (n : Nat) (a0 : List UInt8) (k : Exit → St → Option R) : vexec (store_Scan_C n) n store_Scan_c1 ⟨48, [(0, .d (D.str a0))], []⟩ k = store_Scan_p1 n a0 (k .normal ⟨48, [(0, .d (D.str a0))], []⟩) := by kernel_rfl
theorem store_Scan_p2_eq {R : Type} (n : Nat) (a0 : List UInt8) (k : Exit → St → Option R) : vexec (store_Scan_C n) n store_Scan_c2 ⟨48, [(0, .d (D.str a0))], []⟩ k = store_Scan_p2 n a0 (k .normal ⟨48, [(0, .d (D.str a0)), (4, .nil)], []⟩) := by kernel_rfl
theorem store_Scan_p3_eq {R : Type} (n : Nat) (a0 : List UInt8) (k : Exit → St → Option R) : vexec (store_Scan_C n) n store_Scan_c3 ⟨48, [(0, .d (D.str a0)), (4, .nil)], []⟩ k = store_Scan_p3 n a0 (k .normal ⟨48, [(0, .d (D.str a0)), (4, .arr 1004), (5, .d (D.int .i64 (0 : Int)))], [(1004, .arr 23 2 [])]⟩) := by kernel_rfl
theorem store_Scan_p4_eq {R : Type} (n : Nat) (a0 : List UInt8) (h2 : Int) (h3 : List (List D)) (k : Exit → St → Option R) : vexec (store_Scan_C n) n store_Scan_c4 ⟨48, [(0, .d (D.str a0)), (4, .arr 1004), (5, .d (D.int .i64 h2))], [(1004, .arr 23 2 h3)]⟩ k = store_Scan_p4 n a0 h2 h3 (fun z25 z26 z27 z28 => k (.exit 0) ⟨48, [(0, .d (D.str a0)), (4, .arr 1004), (5, .d (D.int .i64 h2)), (6, .ptr 6 0), (7, .d (D.int .i64 z25)), (38, .d (D.bool z26))], [(6, .box [.d (D.int .i64 z27), .d (D.str z28)]), (1004, .arr 23 2 h3)]⟩) (fun z29 z30 => k .normal ⟨48, [(0, .d (D.str a0)), (4, .arr 1004), (5, .d (D.int .i64 z29))], [(1004, .arr 23 2 z30)]⟩) (fun z31 => k (.exit 0) ⟨48, [(0, .d (D.str a0)), (4, .arr 1004), (5, .d (D.int .i64 h2)), (11, .d (D.bool z31))], [(1004, .arr 23 2 h3)]⟩) := by kernel_rfl
theorem store_Scan_r5_eq {R : Type} (n : Nat) (a0 : List UInt8) (k : Exit → St → Option R) : ∀ (m : Nat) (h2 : Int) (h3 : List (List D)), loopN (vexec (store_Scan_C n) n store_Scan_c4) m ⟨48, [(0, .d (D.str a0)), (4, .arr 1004), (5, .d (D.int .i64 h2))], [(1004, .arr 23 2 h3)]⟩ k = store_Scan_r5 n a0 (fun h2 w32 w33 w34 w35 h3 => k (.exit 0) ⟨48, [(0, .d (D.str a0)), (4, .arr 1004), (5, .d (D.int .i64 h2)), (6, .ptr 6 0), (7, .d (D.int .i64 w32)), (38, .d (D.bool w33))], [(6, .box [.d (D.int .i64 w34), .d (D.str w35)]), (1004, .arr 23 2 h3)]⟩) (fun h2 w38 h3 => k (.exit 0) ⟨48, [(0, .d (D.str a0)), (4, .arr 1004), (5, .d (D.int .i64 h2)), (11, .d (D.bool w38))], [(1004, .arr 23 2 h3)]⟩) m h2 h3
  | 0, _, _ => rfl
  | m + 1, h2, h3 => (store_Scan_p4_eq n a0 h2 h3 (loopK (vexec (store_Scan_C n) n store_Scan_c4) m k)).trans (store_Scan_p4_congr n a0 h2 h3 (fun w32 w33 w34 w35 => rfl) (fun w36 w37 => store_Scan_r5_eq n a0 k m w36 w37) (fun w38 => rfl))
theorem store_Scan_p5_eq {R : Type} (n : Nat) (a0 : List UInt8) (k : Exit → St → Option R) : vexec (store_Scan_C n) n store_Scan_c5 ⟨48, [(0, .d (D.str a0)), (4, .arr 1004), (5, .d (D.int .i64 (0 : Int)))], [(1004, .arr 23 2 [])]⟩ k = store_Scan_p5 n a0 (fun h2 w32 w33 w34 w35 h3 => k (.exit 0) ⟨48, [(0, .d (D.str a0)), (4, .arr 1004), (5, .d (D.int .i64 h2)), (6, .ptr 6 0), (7, .d (D.int .i64 w32)), (38, .d (D.bool w33))], [(6, .box [.d (D.int .i64 w34), .d (D.str w35)]), (1004, .arr 23 2 h3)]⟩) (fun h2 w38 h3 => k (.exit 0) ⟨48, [(0, .d (D.str a0)), (4, .arr 1004), (5, .d (D.int .i64 h2)), (11, .d (D.bool w38))], [(1004, .arr 23 2 h3)]⟩) := by
  rw [store_Scan_c5_eq]
  exact store_Scan_r5_eq n a0 k n (0 : Int) []
theorem store_Scan_p6_eq {R : Type} (n : Nat) (a0 : List UInt8) (k : Exit → St → Option R) : vexec (store_Scan_C n) n store_Scan_c6 ⟨48, [(0, .d (D.str a0)), (4, .arr 1004), (5, .d (D.int .i64 (0 : Int)))], [(1004, .arr 23 2 [])]⟩ k = store_Scan_p6 n a0 (fun w39 w40 w41 w42 w43 w44 => k .normal ⟨48, [(0, .d (D.str a0)), (4, .arr 1004), (5, .d (D.int .i64 w39)), (6, .ptr 6 0), (7, .d (D.int .i64 w40)), (38, .d (D.bool w41))], [(6, .box [.d (D.int .i64 w42), .d (D.str w43)]), (1004, .arr 23 2 w44)]⟩) (fun w45 w46 w47 => k .normal ⟨48, [(0, .d (D.str a0)), (4, .arr 1004), (5, .d (D.int .i64 w45)), (11, .d (D.bool w46))], [(1004, .arr 23 2 w47)]⟩) := by
  rw [store_Scan_c6_eq]
  unfold store_Scan_p6
  exact (store_Scan_p5_eq n a0 (blockK 0 k)).trans (store_Scan_p5_congr n a0 (fun w39 w40 w41 w42 w43 w44 => rfl) (fun w45 w46 w47 => rfl))
theorem store_Scan_p7_eq {R : Type} (n : Nat) (a0 : List UInt8) (w48 : Int) (w49 : Int) (w50 : Bool) (w51 : Int) (w52 : List UInt8) (w53 : List (List D)) (k : Exit → St → Option R) : vexec (store_Scan_C n) n store_Scan_c7 ⟨48, [(0, .d (D.str a0)), (4, .arr 1004), (5, .d (D.int .i64 w48)), (6, .ptr 6 0), (7, .d (D.int .i64 w49)), (38, .d (D.bool w50))], [(6, .box [.d (D.int .i64 w51), .d (D.str w52)]), (1004, .arr 23 2 w53)]⟩ k = store_Scan_p7 n a0 w48 w49 w50 w51 w52 w53 (k .ret ⟨48, [(2, .arr 1004), (3, .d (D.int .i64 w48))], [(1004, .arr 23 2 w53)]⟩) := by kernel_rfl
theorem store_Scan_p8_eq {R : Type} (n : Nat) (a0 : List UInt8) (w54 : Int) (w55 : Bool) (w56 : List (List D)) (k : Exit → St → Option R) : vexec (store_Scan_C n) n store_Scan_c7 ⟨48, [(0, .d (D.str a0)), (4, .arr 1004), (5, .d (D.int .i64 w54)), (11, .d (D.bool w55))], [(1004, .arr 23 2 w56)]⟩ k = store_Scan_p8 n a0 w54 w55 w56 (k .ret ⟨48, [(2, .arr 1004), (3, .d (D.int .i64 w54))], [(1004, .arr 23 2 w56)]⟩) := by kernel_rfl
theorem store_Scan_p9_eq {R : Type} (n : Nat) (a0 : List UInt8) (k : Exit → St → Option R) : vexec (store_Scan_C n) n store_Scan_c8 ⟨48, [(0, .d (D.str a0)), (4, .arr 1004), (5, .d (D.int .i64 (0 : Int)))], [(1004, .arr 23 2 [])]⟩ k = store_Scan_p9 n a0 (fun z57 z58 => k .ret ⟨48, [(2, .arr 1004), (3, .d (D.int .i64 z57))], [(1004, .arr 23 2 z58)]⟩) := by
  rw [store_Scan_c8_eq]
  unfold store_Scan_p9
  exact (store_Scan_p6_eq n a0 (seqK (store_Scan_C n) n store_Scan_c7 k)).trans (store_Scan_p6_congr n a0 (fun w48 w49 w50 w51 w52 w53 => store_Scan_p7_eq n a0 w48 w49 w50 w51 w52 w53 k) (fun w54 w55 w56 => store_Scan_p8_eq n a0 w54 w55 w56 k))
theorem store_Scan_p10_eq {R : Type} (n : Nat) (a0 : List UInt8) (k : Exit → St → Option R) : vexec (store_Scan_C n) n store_Scan_c9 ⟨48, [(0, .d (D.str a0)), (4, .nil)], []⟩ k = store_Scan_p10 n a0 (fun w59 w60 => k .ret ⟨48, [(2, .arr 1004), (3, .d (D.int .i64 w59))], [(1004, .arr 23 2 w60)]⟩) := by
  rw [store_Scan_c9_eq]
  unfold store_Scan_p10
  exact (store_Scan_p3_eq n a0 (seqK (store_Scan_C n) n store_Scan_c8 k)).trans (store_Scan_p3_congr n a0 (store_Scan_p9_eq n a0 k))
theorem store_Scan_p11_eq {R : Type} (n : Nat) (a0 : List UInt8) (k : Exit → St → Option R) : vexec (store_Scan_C n) n store_Scan_c10 ⟨48, [(0, .d (D.str a0))], []⟩ k = store_Scan_p11 n a0 (fun w61 w62 => k .ret ⟨48, [(2, .arr 1004), (3, .d (D.int .i64 w61))], [(1004, .arr 23 2 w62)]⟩) := by
  rw [store_Scan_c10_eq]
  unfold store_Scan_p11
  exact (store_Scan_p2_eq n a0 (seqK (store_Scan_C n) n store_Scan_c9 k)).trans (store_Scan_p2_congr n a0 (store_Scan_p10_eq n a0 k))
theorem store_Scan_p12_eq {R : Type} (n : Nat) (a0 : List UInt8) (k : Exit → St → Option R) : vexec (store_Scan_C n) n store_Scan_c0 ⟨48, [(0, .d (D.str a0))], []⟩ k = store_Scan_p12 n a0 (fun w63 w64 => k .ret ⟨48, [(2, .arr 1004), (3, .d (D.int .i64 w63))], [(1004, .arr 23 2 w64)]⟩) := by
  rw [store_Scan_c0_eq]
  unfold store_Scan_p12
  exact (store_Scan_p1_eq n a0 (seqK (store_Scan_C n) n store_Scan_c10 k)).trans (store_Scan_p1_congr n a0 (store_Scan_p11_eq n a0 k))
theorem store_Scan_vfn {R : Type} (n : Nat) (a0 : List UInt8) (K : AV → Option R) : vfn (store_Scan_C n) n Try.f19 [.d (D.str a0)] [] (retF [[2], [0]] K) = store_Scan n a0 (fun r0 r1 => K (.tup [.d (D.sl 2 r0), .d (D.int .i64 r1)])) :=
  (show vfn (store_Scan_C n) n Try.f19 [.d (D.str a0)] [] (retF [[2], [0]] K) = vexec (store_Scan_C n) n store_Scan_c0 ⟨48, [(0, .d (D.str a0))], []⟩ (retX store_Scan_tt [.tmp 2, .tmp 3] (retF [[2], [0]] K)) from vfn_at (by kernel_rfl) (by kernel_rfl) rfl (by kernel_rfl) rfl (by kernel_rfl) rfl).trans ((store_Scan_p12_eq n a0 (retX store_Scan_tt [.tmp 2, .tmp 3] (retF [[2], [0]] K))).trans (by kernel_rfl))
def store_Scan_K : AV → Option ((List (List D)) × Int) := fun av => match av with
  | .tup [.d (D.sl 2 r0), .d (D.int .i64 r1)] => some (r0, r1)
  | _ => none
def store_Scan_e (n : Nat) : Entry := fun _ _ g avs _ k => match avs with
  | [c0] => prT g c0 fun a0 => 
    gb g (store_Scan n a0 (fun r0 r1 => some (r0, r1))) ([], 0) fun r => k ⟨.tup [.d (D.sl 2 r.1), .d (D.int .i64 r.2)], [], []⟩
  | _ => none
theorem store_Scan_ok (n : Nat) : EntryOK Try.prog 19 (store_Scan_e n) := by
  intro R site g avs hl k r h
  unfold store_Scan_e at h
  split at h
  rotate_left
  · cases h
  replace h := prT_some h
  obtain ⟨a0, h, le0⟩ := h
  replace h := gb_some h
  obtain ⟨res, h, hr⟩ := h
  refine ⟨_, h, fun hg => CallOK.conv (avs' := [.d (D.str a0)]) (.cons (le0 hg) (.nil)) (callOK_fix (K := store_Scan_K) (res := res) (store_Scan_VC n) (fn := Try.f19) (n := n) (by kernel_rfl) (by kernel_rfl) (by kernel_rfl) (ss := [[2], [0]]) rfl ?_ ?_)⟩
  · exact (store_Scan_vfn n a0 store_Scan_K).trans (hr hg)
  · intro x hx
    unfold store_Scan_K at hx
    split at hx
    · injection hx with hx; subst hx; rfl
    · cases hx
def store_Scan_Ko : AV → List (Nat × Ob) → Option ((List (List D)) × Int) := fun av H => (look H 1004).bind fun o0 => match av, o0 with
  | .tup [.arr p0, .d (D.int .i64 r1)], .arr p1 p2 r0 => bif Nat.beq p0 1004 && (Nat.beq p1 23 && (Nat.beq p2 2)) then some (r0, r1) else none
  | _, _ => none
theorem store_Scan_vfo (n : Nat) (a0 : List UInt8) : vfn (store_Scan_C n) n Try.f19 [.d (D.str a0)] [] store_Scan_Ko = store_Scan n a0 (fun r0 r1 => some (r0, r1)) :=
  (show vfn (store_Scan_C n) n Try.f19 [.d (D.str a0)] [] store_Scan_Ko = vexec (store_Scan_C n) n store_Scan_c0 ⟨48, [(0, .d (D.str a0))], []⟩ (retX store_Scan_tt [.tmp 2, .tmp 3] store_Scan_Ko) from vfn_at (by kernel_rfl) (by kernel_rfl) rfl (by kernel_rfl) rfl (by kernel_rfl) rfl).trans ((store_Scan_p12_eq n a0 (retX store_Scan_tt [.tmp 2, .tmp 3] store_Scan_Ko)).trans (by kernel_rfl))
def store_Scan_o (n : Nat) : Entry := fun _ site g avs hl k => match avs with
  | [c0] => prT g c0 fun a0 => 
    bif newsOk hl [] [(1004, (site + 100000))] then gb g (store_Scan n a0 (fun r0 r1 => some (r0, r1))) ([], 0) fun r => k ⟨.tup [.arr (site + 100000), .d (D.int .i64 r.2)], [((site + 100000), some (.arr 23 2 r.1))], []⟩ else none
  | _ => none
theorem store_Scan_oo (n : Nat) : EntryOK Try.prog 19 (store_Scan_o n) := by
  intro R site g avs hl k r h
  unfold store_Scan_o at h
  split at h
  rotate_left
  · cases h
  replace h := prT_some h
  obtain ⟨a0, h, le0⟩ := h
  replace h := bif_some h
  obtain ⟨hc, h⟩ := h
  replace h := gb_some h
  obtain ⟨res, h, hr⟩ := h
  refine ⟨_, h, fun hg => CallOK.conv (avs' := [.d (D.str a0)]) (.cons (le0 hg) (.nil)) (callOK_own (K := store_Scan_Ko) (res := res) (store_Scan_VC n) (fn := Try.f19) (n := n) (by kernel_rfl) (by kernel_rfl) (by kernel_rfl) (ρ := []) (ν := [(1004, (site + 100000))]) (avs' := [.d (D.str a0)]) (H := []) rfl rfl rfl rfl hc (trivial) rfl rfl ?_ ?_)⟩
  · exact (store_Scan_vfo n a0).trans (hr hg)
  · intro av H' hx
    unfold store_Scan_Ko at hx
    replace hx := Option.bind_eq_some_iff.1 hx
    obtain ⟨o0, ho0, hx⟩ := hx
    split at hx
    rotate_left
    · cases hx
    replace hx := bif_some hx
    obtain ⟨hck, hx⟩ := hx
    simp only [Bool.and_eq_true] at hck
    obtain ⟨ek0, ek1, ek2⟩ := hck
    have ek0 := Nat.eq_of_beq_eq_true ek0
    subst ek0
    have ek1 := Nat.eq_of_beq_eq_true ek1
    subst ek1
    have ek2 := Nat.eq_of_beq_eq_true ek2
    subst ek2
    injection hx with hx
    subst hx
    refine ⟨rfl, ?_, ⟨by rw [ho0]; rfl, trivial⟩, trivial⟩
    simp only [List.cons_append, List.nil_append, outWr, ho0, Option.map_some]
    rfl
end Go.Vx
/-
  store_Append: the interpreter computes the pure function
-/
set_option linter.unusedVariables false
set_option linter.unusedSimpArgs false
set_option maxRecDepth 100000
namespace Go.Vx
open Go.Proofs
noncomputable def store_Append_c0 : Code := bodyOf Try.f22
def store_Append_tt : TT := [(3, ⟨.int .i64, 1, 8, [.int .i64 0], [.int .i64 0], [], none⟩), (9, ⟨.str, 1, 16, [.string ⟨#[]⟩], [.str []], [], none⟩), (23, ⟨.struct, 2, 24, [.int .i64 0, .string ⟨#[]⟩], [.int .i64 0, .str []], [(0, 3), (1, 9)], some [.int .i64, .str]⟩), (24, ⟨.int .i64, 1, 8, [.int .i64 0], [.int .i64 0], [], none⟩), (32, ⟨.sl 23 2, 1, 24, [.slice none 0 0], [.sl 2 []], [], none⟩)]
theorem store_Append_tt_eq : mkTT Try.prog [3, 9, 23, 24, 32] = store_Append_tt := by kernel_rfl
def store_Append_cfg : List (Nat × Cfg) := [(0, ⟨[0, 3], [(3, 3)], [], [], []⟩), (1, ⟨[0, 3, 6, 7], [(3, 3)], [], [], []⟩), (2, ⟨[0, 3, 6, 7, 16], [(3, 3)], [], [], []⟩), (3, ⟨[4, 5], [], [], [], []⟩), (4, ⟨[0, 3, 6, 8, 9], [(3, 3)], [], [], []⟩), (5, ⟨[0, 6, 8, 9, 23], [], [], [], []⟩), (6, ⟨[4, 5], [], [], [], []⟩), (7, ⟨[0, 6, 9, 39], [], [], [], []⟩), (8, ⟨[4, 5], [], [], [], []⟩), (9, ⟨[4, 5], [], [], [], []⟩)]
def store_Append_C (n : Nat) : VC := ⟨specOf [(12, store_Encode_e n), (19, store_Scan_e n)], store_Append_tt, store_Append_cfg⟩
theorem store_Append_ents (n : Nat) : EntsOK Try.prog [(12, store_Encode_e n), (19, store_Scan_e n)] := ⟨store_Encode_ok n, ⟨store_Scan_ok n, trivial⟩⟩
theorem store_Append_VC (n : Nat) : VCOk Try.prog (store_Append_C n) := ⟨specOf_ok (store_Append_ents n), (store_Append_tt_eq ▸ mkTT_ok _ : TOk Try.prog store_Append_tt), by kernel_rfl⟩
theorem store_Append_p1_congr {R : Type} (n : Nat) (a0 : List UInt8) (a1_0 : Int) (a1_1 : List UInt8) {k0 kk0 : (List UInt8) → Int → Option R} (hq0 : ∀ x0 x1, k0 x0 x1 = kk0 x0 x1) : store_Append_p1 n a0 a1_0 a1_1 k0 = store_Append_p1 n a0 a1_0 a1_1 kk0 := by
  obtain rfl : k0 = kk0 := funext fun x0 => funext fun x1 => hq0 x0 x1
  rfl
theorem store_Append_p1_eq {R : Type} (n : Nat) (a0 : List UInt8) (a1_0 : Int) (a1_1 : List UInt8) (k : Exit → St → Option R) : vexec (store_Append_C n) n store_Append_c0 ⟨55, [(0, .d (D.str a0)), (1, .ag [.d (D.int .i64 a1_0), .d (D.str a1_1)])], []⟩ k = store_Append_p1 n a0 a1_0 a1_1 (fun z8 z9 => k .ret ⟨55, [(4, .d (D.str z8)), (5, .d (D.int .i64 z9))], []⟩) := by kernel_rfl
theorem store_Append_vfn {R : Type} (n : Nat) (a0 : List UInt8) (a1_0 : Int) (a1_1 : List UInt8) (K : AV → Option R) : vfn (store_Append_C n) n Try.f22 [.d (D.str a0), .ag [.d (D.int .i64 a1_0), .d (D.str a1_1)]] [] (retF [[0], [0]] K) = store_Append n a0 a1_0 a1_1 (fun r0 r1 => K (.tup [.d (D.str r0), .d (D.int .i64 r1)])) :=
  (show vfn (store_Append_C n) n Try.f22 [.d (D.str a0), .ag [.d (D.int .i64 a1_0), .d (D.str a1_1)]] [] (retF [[0], [0]] K) = vexec (store_Append_C n) n store_Append_c0 ⟨55, [(0, .d (D.str a0)), (1, .ag [.d (D.int .i64 a1_0), .d (D.str a1_1)])], []⟩ (retX store_Append_tt [.tmp 4, .tmp 5] (retF [[0], [0]] K)) from vfn_at (by kernel_rfl) (by kernel_rfl) rfl (by kernel_rfl) rfl (by kernel_rfl) rfl).trans ((store_Append_p1_eq n a0 a1_0 a1_1 (retX store_Append_tt [.tmp 4, .tmp 5] (retF [[0], [0]] K))).trans (by kernel_rfl))
def store_Append_K : AV → Option ((List UInt8) × Int) := fun av => match av with
  | .tup [.d (D.str r0), .d (D.int .i64 r1)] => some (r0, r1)
  | _ => none
def store_Append_e (n : Nat) : Entry := fun _ _ g avs _ k => match avs with
  | [c0, c1] => prT g c0 fun a0 => 
    prG c1 fun l1 => (match l1 with
    | [c1_0, c1_1] => prI g .i64 c1_0 fun a1_0 => prT g c1_1 fun a1_1 => 
    gb g (store_Append n a0 a1_0 a1_1 (fun r0 r1 => some (r0, r1))) ([], 0) fun r => k ⟨.tup [.d (D.str r.1), .d (D.int .i64 r.2)], [], []⟩
    | _ => none)
  | _ => none
theorem store_Append_ok (n : Nat) : EntryOK Try.prog 22 (store_Append_e n) := by
  intro R site g avs hl k r h
  unfold store_Append_e at h
  split at h
  rotate_left
  · cases h
  replace h := prT_some h
  obtain ⟨a0, h, le0⟩ := h
  replace h := prG_some h
  obtain ⟨l1, h, e1⟩ := h
  subst e1
  split at h
  rotate_left
  · cases h
  replace h := prI_some h
  obtain ⟨a1_0, h, le1⟩ := h
  replace h := prT_some h
  obtain ⟨a1_1, h, le2⟩ := h
  replace h := gb_some h
  obtain ⟨res, h, hr⟩ := h
  refine ⟨_, h, fun hg => CallOK.conv (avs' := [.d (D.str a0), .ag [.d (D.int .i64 a1_0), .d (D.str a1_1)]]) (.cons (le0 hg) (.cons (.ag (.cons (le1 hg) (.cons (le2 hg) (.nil)))) (.nil))) (callOK_fix (K := store_Append_K) (res := res) (store_Append_VC n) (fn := Try.f22) (n := n) (by kernel_rfl) (by kernel_rfl) (by kernel_rfl) (ss := [[0], [0]]) rfl ?_ ?_)⟩
  · exact (store_Append_vfn n a0 a1_0 a1_1 store_Append_K).trans (hr hg)
  · intro x hx
    unfold store_Append_K at hx
    split at hx
    · injection hx with hx; subst hx; rfl
    · cases hx
end Go.Vx
/-
  strings_Builder_WriteString: its contract
-/
set_option linter.unusedVariables false
namespace Go.Vx
open Go.Proofs
def strings_Builder_WriteString_e (n : Nat) : Entry := bldWriteE 64
theorem strings_Builder_WriteString_ok (n : Nat) : EntryOK Try.prog 39 (strings_Builder_WriteString_e n) := bldWriteE_ok Try.func39 (by kernel_rfl) (by kernel_rfl) Try.bld_write_walk
end Go.Vx
/-
  strings_Builder_String: its contract
-/
set_option linter.unusedVariables false
namespace Go.Vx
open Go.Proofs
def strings_Builder_String_e (n : Nat) : Entry := bldStringE 64
theorem strings_Builder_String_ok (n : Nat) : EntryOK Try.prog 40 (strings_Builder_String_e n) := bldStringE_ok Try.func40 (by kernel_rfl) (by kernel_rfl) Try.bld_string_walk
end Go.Vx
/-
  store_Compact: the interpreter computes the pure function
-/
set_option linter.unusedVariables false
set_option linter.unusedSimpArgs false
set_option maxRecDepth 100000
namespace Go.Vx
open Go.Proofs
noncomputable def store_Compact_c0 : Code := bodyOf Try.f25
noncomputable def store_Compact_c1 : Code := cL (bodyOf Try.f25)
noncomputable def store_Compact_c2 : Code := cL (cR (bodyOf Try.f25))
noncomputable def store_Compact_c3 : Code := cL (cR (cR (bodyOf Try.f25)))
noncomputable def store_Compact_c4 : Code := cL (cR (cR (cR (bodyOf Try.f25))))
noncomputable def store_Compact_c5 : Code := cL (cL (cR (cR (cR (cR (bodyOf Try.f25))))))
noncomputable def store_Compact_c6 : Code := cB (cB (cR (cL (cR (cR (cR (cR (bodyOf Try.f25))))))))
noncomputable def store_Compact_c7 : Code := cB (cR (cL (cR (cR (cR (cR (bodyOf Try.f25)))))))
noncomputable def store_Compact_c8 : Code := cR (cL (cR (cR (cR (cR (bodyOf Try.f25))))))
noncomputable def store_Compact_c9 : Code := cL (cR (cR (cR (cR (bodyOf Try.f25)))))
noncomputable def store_Compact_c10 : Code := cR (cR (cR (cR (cR (bodyOf Try.f25)))))
noncomputable def store_Compact_c11 : Code := cR (cR (cR (cR (bodyOf Try.f25))))
noncomputable def store_Compact_c12 : Code := cR (cR (cR (bodyOf Try.f25)))
noncomputable def store_Compact_c13 : Code := cR (cR (bodyOf Try.f25))
noncomputable def store_Compact_c14 : Code := cR (bodyOf Try.f25)
theorem store_Compact_c7_eq : store_Compact_c7 = .loop store_Compact_c6 := by kernel_rfl
theorem store_Compact_c8_eq : store_Compact_c8 = .block 0 store_Compact_c7 := by kernel_rfl
theorem store_Compact_c9_eq : store_Compact_c9 = .seq store_Compact_c5 store_Compact_c8 := by kernel_rfl
theorem store_Compact_c11_eq : store_Compact_c11 = .seq store_Compact_c9 store_Compact_c10 := by kernel_rfl
theorem store_Compact_c12_eq : store_Compact_c12 = .seq store_Compact_c4 store_Compact_c11 := by kernel_rfl
theorem store_Compact_c13_eq : store_Compact_c13 = .seq store_Compact_c3 store_Compact_c12 := by kernel_rfl
theorem store_Compact_c14_eq : store_Compact_c14 = .seq store_Compact_c2 store_Compact_c13 := by kernel_rfl
theorem store_Compact_c0_eq : store_Compact_c0 = .seq store_Compact_c1 store_Compact_c14 := by kernel_rfl
def store_Compact_tt : TT := [(3, ⟨.int .i64, 1, 8, [.int .i64 0], [.int .i64 0], [], none⟩), (23, ⟨.struct, 2, 24, [.int .i64 0, .string ⟨#[]⟩], [.int .i64 0, .str []], [(0, 3), (1, 9)], some [.int .i64, .str]⟩), (32, ⟨.sl 23 2, 1, 24, [.slice none 0 0], [.sl 2 []], [], none⟩), (64, ⟨.struct, 2, 32, [.pointer none, .slice none 0 0], [], [(0, 62), (1, 59)], none⟩)]
theorem store_Compact_tt_eq : mkTT Try.prog [3, 23, 32, 64] = store_Compact_tt := by kernel_rfl
def store_Compact_cfg : List (Nat × Cfg) := [(0, ⟨[0, 1], [], [], [], []⟩), (1, ⟨[0, 1, 18], [], [], [], []⟩), (2, ⟨[4, 5], [], [], [], []⟩), (3, ⟨[1, 6], [], [], [], []⟩), (4, ⟨[1, 6, 8], [(8, 8)], [], [], []⟩), (5, ⟨[8, 30, 31, 32], [(8, 8)], [], [(8, 1, 1081, 5, 1)], []⟩), (6, ⟨[8, 30, 31, 32, 33], [(8, 8), (1081, 1081)], [], [], []⟩), (7, ⟨[8, 10, 30, 31, 32], [(8, 8), (10, 10), (1081, 1081)], [], [], []⟩), (8, ⟨[8, 11, 30, 31, 32], [(8, 8), (1081, 1081)], [], [(8, 1, 2321, 5, 1)], []⟩), (9, ⟨[8, 30, 31, 32], [(8, 8), (100042, 1081)], [], [], []⟩), (10, ⟨[8, 30, 31, 32], [(1081, 1081), (8, 8)], [], [], []⟩), (11, ⟨[4, 5], [], [], [], []⟩)]
def store_Compact_C (n : Nat) : VC := ⟨specOf [(19, store_Scan_e n), (12, store_Encode_e n), (39, strings_Builder_WriteString_e n), (40, strings_Builder_String_e n)], store_Compact_tt, store_Compact_cfg⟩
theorem store_Compact_ents (n : Nat) : EntsOK Try.prog [(19, store_Scan_e n), (12, store_Encode_e n), (39, strings_Builder_WriteString_e n), (40, strings_Builder_String_e n)] := ⟨store_Scan_ok n, ⟨store_Encode_ok n, ⟨strings_Builder_WriteString_ok n, ⟨strings_Builder_String_ok n, trivial⟩⟩⟩⟩
theorem store_Compact_VC (n : Nat) : VCOk Try.prog (store_Compact_C n) := ⟨specOf_ok (store_Compact_ents n), (store_Compact_tt_eq ▸ mkTT_ok _ : TOk Try.prog store_Compact_tt), by kernel_rfl⟩
theorem store_Compact_p1_congr {R : Type} (n : Nat) (a0 : List UInt8) (a1 : Int) {k0 kk0 : Option R} (hq0 : k0 = kk0) : store_Compact_p1 n a0 a1 k0 = store_Compact_p1 n a0 a1 kk0 := by
  obtain rfl : k0 = kk0 := hq0
  rfl
theorem store_Compact_p2_congr {R : Type} (n : Nat) (a0 : List UInt8) (a1 : Int) {k0 kk0 : Option R} {k1 kk1 : Bool → Option R} (hq0 : k0 = kk0) (hq1 : ∀ x0, k1 x0 = kk1 x0) : store_Compact_p2 n a0 a1 k0 k1 = store_Compact_p2 n a0 a1 kk0 kk1 := by
  obtain rfl : k0 = kk0 := hq0
  obtain rfl : k1 = kk1 := funext fun x0 => hq1 x0
  rfl
theorem store_Compact_p3_congr {R : Type} (n : Nat) (a0 : List UInt8) (a1 : Int) (w2 : Bool) {k0 kk0 : (List (List D)) → Option R} (hq0 : ∀ x0, k0 x0 = kk0 x0) : store_Compact_p3 n a0 a1 w2 k0 = store_Compact_p3 n a0 a1 w2 kk0 := by
  obtain rfl : k0 = kk0 := funext fun x0 => hq0 x0
  rfl
theorem store_Compact_p4_congr {R : Type} (n : Nat) (a1 : Int) (w5 : List (List D)) {k0 kk0 : Option R} (hq0 : k0 = kk0) : store_Compact_p4 n a1 w5 k0 = store_Compact_p4 n a1 w5 kk0 := by
  obtain rfl : k0 = kk0 := hq0
  rfl
theorem store_Compact_p5_congr {R : Type} (n : Nat) (a1 : Int) (w5 : List (List D)) {k0 kk0 : (List (List D)) → Int → Option R} (hq0 : ∀ x0 x1, k0 x0 x1 = kk0 x0 x1) : store_Compact_p5 n a1 w5 k0 = store_Compact_p5 n a1 w5 kk0 := by
  obtain rfl : k0 = kk0 := funext fun x0 => funext fun x1 => hq0 x0 x1
  rfl
theorem store_Compact_p6_congr {R : Type} (n : Nat) (w9 : List (List D)) (w10 : Int) (h13 : Int) (h14 : List (List D)) {k0 kk0 : Int → (List (List D)) → Option R} {k1 kk1 : Bool → Option R} (hq0 : ∀ x0 x1, k0 x0 x1 = kk0 x0 x1) (hq1 : ∀ x0, k1 x0 = kk1 x0) : store_Compact_p6 n w9 w10 h13 h14 k0 k1 = store_Compact_p6 n w9 w10 h13 h14 kk0 kk1 := by
  obtain rfl : k0 = kk0 := funext fun x0 => funext fun x1 => hq0 x0 x1
  obtain rfl : k1 = kk1 := funext fun x0 => hq1 x0
  rfl
theorem store_Compact_p7_congr {R : Type} (n : Nat) (w9 : List (List D)) (w10 : Int) {k0 kk0 : Int → Bool → (List (List D)) → Option R} (hq0 : ∀ x0 x1 x2, k0 x0 x1 x2 = kk0 x0 x1 x2) : store_Compact_p7 n w9 w10 k0 = store_Compact_p7 n w9 w10 kk0 := by
  obtain rfl : k0 = kk0 := funext fun x0 => funext fun x1 => funext fun x2 => hq0 x0 x1 x2
  rfl
theorem store_Compact_p8_congr {R : Type} (n : Nat) (w9 : List (List D)) (w10 : Int) {k0 kk0 : Int → Bool → (List (List D)) → Option R} (hq0 : ∀ x0 x1 x2, k0 x0 x1 x2 = kk0 x0 x1 x2) : store_Compact_p8 n w9 w10 k0 = store_Compact_p8 n w9 w10 kk0 := by
  obtain rfl : k0 = kk0 := funext fun x0 => funext fun x1 => funext fun x2 => hq0 x0 x1 x2
  rfl
theorem store_Compact_p9_congr {R : Type} (n : Nat) (a1 : Int) (w5 : List (List D)) {k0 kk0 : (List (List D)) → Int → Int → Bool → (List (List D)) → Option R} (hq0 : ∀ x0 x1 x2 x3 x4, k0 x0 x1 x2 x3 x4 = kk0 x0 x1 x2 x3 x4) : store_Compact_p9 n a1 w5 k0 = store_Compact_p9 n a1 w5 kk0 := by
  obtain rfl : k0 = kk0 := funext fun x0 => funext fun x1 => funext fun x2 => funext fun x3 => funext fun x4 => hq0 x0 x1 x2 x3 x4
  rfl
theorem store_Compact_p10_congr {R : Type} (n : Nat) (w44 : List (List D)) (w45 : Int) (w46 : Int) (w47 : Bool) (w48 : List (List D)) {k0 kk0 : (List UInt8) → Option R} (hq0 : ∀ x0, k0 x0 = kk0 x0) : store_Compact_p10 n w44 w45 w46 w47 w48 k0 = store_Compact_p10 n w44 w45 w46 w47 w48 kk0 := by
  obtain rfl : k0 = kk0 := funext fun x0 => hq0 x0
  rfl
theorem store_Compact_p11_congr {R : Type} (n : Nat) (a1 : Int) (w5 : List (List D)) {k0 kk0 : (List UInt8) → Option R} (hq0 : ∀ x0, k0 x0 = kk0 x0) : store_Compact_p11 n a1 w5 k0 = store_Compact_p11 n a1 w5 kk0 := by
  obtain rfl : k0 = kk0 := funext fun x0 => hq0 x0
  rfl
theorem store_Compact_p12_congr {R : Type} (n : Nat) (a1 : Int) (w5 : List (List D)) {k0 kk0 : (List UInt8) → Option R} (hq0 : ∀ x0, k0 x0 = kk0 x0) : store_Compact_p12 n a1 w5 k0 = store_Compact_p12 n a1 w5 kk0 := by
  obtain rfl : k0 = kk0 := funext fun x0 => hq0 x0
  rfl
theorem store_Compact_p13_congr {R : Type} (n : Nat) (a0 : List UInt8) (a1 : Int) (w2 : Bool) {k0 kk0 : (List UInt8) → Option R} (hq0 : ∀ x0, k0 x0 = kk0 x0) : store_Compact_p13 n a0 a1 w2 k0 = store_Compact_p13 n a0 a1 w2 kk0 := by
  obtain rfl : k0 = kk0 := funext fun x0 => hq0 x0
  rfl
theorem store_Compact_p14_congr {R : Type} (n : Nat) (a0 : List UInt8) (a1 : Int) {k0 kk0 : (List UInt8) → Int → Option R} (hq0 : ∀ x0 x1, k0 x0 x1 = kk0 x0 x1) : store_Compact_p14 n a0 a1 k0 = store_Compact_p14 n a0 a1 kk0 := by
  obtain rfl : k0 = kk0 := funext fun x0 => funext fun x1 => hq0 x0 x1
  rfl
theorem store_Compact_p15_congr {R : Type} (n : Nat) (a0 : List UInt8) (a1 : Int) {k0 kk0 : (List UInt8) → Int → Option R} (hq0 : ∀ x0 x1, k0 x0 x1 = kk0 x0 x1) : store_Compact_p15 n a0 a1 k0 = store_Compact_p15 n a0 a1 kk0 := by
  obtain rfl : k0 = kk0 := funext fun x0 => funext fun x1 => hq0 x0 x1
  rfl
theorem store_Compact_p1_eq {R : Type} (n : Nat) (a0 : List UInt8) (a1 : Int) (k : Exit → St → Option R) : vexec (store_Compact_C n) n store_Compact_c1 ⟨45, [(0, .d (D.str a0)), (1, .d (D.int .i64 a1))], []⟩ k = store_Compact_p1 n a0 a1 (k .normal ⟨45, [(0, .d (D.str a0)), (1, .d (D.int .i64 a1))], []⟩) := by kernel_rfl
theorem store_Compact_p2_eq {R : Type} (n : Nat) (a0 : List UInt8) (a1 : Int) (k : Exit → St → Option R) : vexec (store_Compact_C n) n store_Compact_c2 ⟨45, [(0, .d (D.str a0)), (1, .d (D.int .i64 a1))], []⟩ k = store_Compact_p2 n a0 a1 (k .ret ⟨45, [(4, .d (D.str [])), (5, .d (D.int .i64 (4 : Int)))], []⟩) (fun z1 => k .normal ⟨45, [(0, .d (D.str a0)), (1, .d (D.int .i64 a1)), (18, .d (D.bool z1))], []⟩) := by kernel_rfl
theorem store_Compact_p3_eq {R : Type} (n : Nat) (a0 : List UInt8) (a1 : Int) (w2 : Bool) (k : Exit → St → Option R) : vexec (store_Compact_C n) n store_Compact_c3 ⟨45, [(0, .d (D.str a0)), (1, .d (D.int .i64 a1)), (18, .d (D.bool w2))], []⟩ k = store_Compact_p3 n a0 a1 w2 (fun z4 => k .normal ⟨45, [(1, .d (D.int .i64 a1)), (6, .d (D.sl 2 z4))], []⟩) := by kernel_rfl
theorem store_Compact_p4_eq {R : Type} (n : Nat) (a1 : Int) (w5 : List (List D)) (k : Exit → St → Option R) : vexec (store_Compact_C n) n store_Compact_c4 ⟨45, [(1, .d (D.int .i64 a1)), (6, .d (D.sl 2 w5))], []⟩ k = store_Compact_p4 n a1 w5 (k .normal ⟨45, [(1, .d (D.int .i64 a1)), (6, .d (D.sl 2 w5)), (8, .ptr 8 0)], [(8, .box [.sa 8 64, .nil])]⟩) := by kernel_rfl
theorem store_Compact_p5_eq {R : Type} (n : Nat) (a1 : Int) (w5 : List (List D)) (k : Exit → St → Option R) : vexec (store_Compact_C n) n store_Compact_c5 ⟨45, [(1, .d (D.int .i64 a1)), (6, .d (D.sl 2 w5)), (8, .ptr 8 0)], [(8, .box [.sa 8 64, .nil])]⟩ k = store_Compact_p5 n a1 w5 (fun z7 z8 => k .normal ⟨45, [(8, .ptr 8 0), (30, .d (D.sl 2 z7)), (31, .d (D.int .i64 z8)), (32, .d (D.int .i64 (0 : Int)))], [(1081, .arr 5 1 []), (8, .box [.sa 8 64, .arr 1081])]⟩) := by kernel_rfl
theorem store_Compact_p6_eq {R : Type} (n : Nat) (w9 : List (List D)) (w10 : Int) (h13 : Int) (h14 : List (List D)) (k : Exit → St → Option R) : vexec (store_Compact_C n) n store_Compact_c6 ⟨45, [(8, .ptr 8 0), (30, .d (D.sl 2 w9)), (31, .d (D.int .i64 w10)), (32, .d (D.int .i64 h13))], [(1081, .arr 5 1 h14), (8, .box [.sa 8 64, .arr 1081])]⟩ k = store_Compact_p6 n w9 w10 h13 h14 (fun z32 z33 => k .normal ⟨45, [(8, .ptr 8 0), (30, .d (D.sl 2 w9)), (31, .d (D.int .i64 w10)), (32, .d (D.int .i64 z32))], [(1081, .arr 5 1 z33), (8, .box [.sa 8 64, .arr 1081])]⟩) (fun z34 => k (.exit 0) ⟨45, [(8, .ptr 8 0), (30, .d (D.sl 2 w9)), (31, .d (D.int .i64 w10)), (32, .d (D.int .i64 h13)), (33, .d (D.bool z34))], [(8, .box [.sa 8 64, .arr 1081]), (1081, .arr 5 1 h14)]⟩) := by kernel_rfl
theorem store_Compact_r7_eq {R : Type} (n : Nat) (w9 : List (List D)) (w10 : Int) (k : Exit → St → Option R) : ∀ (m : Nat) (h13 : Int) (h14 : List (List D)), loopN (vexec (store_Compact_C n) n store_Compact_c6) m ⟨45, [(8, .ptr 8 0), (30, .d (D.sl 2 w9)), (31, .d (D.int .i64 w10)), (32, .d (D.int .i64 h13))], [(1081, .arr 5 1 h14), (8, .box [.sa 8 64, .arr 1081])]⟩ k = store_Compact_r7 n w9 w10 (fun h13 w37 h14 => k (.exit 0) ⟨45, [(8, .ptr 8 0), (30, .d (D.sl 2 w9)), (31, .d (D.int .i64 w10)), (32, .d (D.int .i64 h13)), (33, .d (D.bool w37))], [(8, .box [.sa 8 64, .arr 1081]), (1081, .arr 5 1 h14)]⟩) m h13 h14
  | 0, _, _ => rfl
  | m + 1, h13, h14 => (store_Compact_p6_eq n w9 w10 h13 h14 (loopK (vexec (store_Compact_C n) n store_Compact_c6) m k)).trans (store_Compact_p6_congr n w9 w10 h13 h14 (fun w35 w36 => store_Compact_r7_eq n w9 w10 k m w35 w36) (fun w37 => rfl))
theorem store_Compact_p7_eq {R : Type} (n : Nat) (w9 : List (List D)) (w10 : Int) (k : Exit → St → Option R) : vexec (store_Compact_C n) n store_Compact_c7 ⟨45, [(8, .ptr 8 0), (30, .d (D.sl 2 w9)), (31, .d (D.int .i64 w10)), (32, .d (D.int .i64 (0 : Int)))], [(1081, .arr 5 1 []), (8, .box [.sa 8 64, .arr 1081])]⟩ k = store_Compact_p7 n w9 w10 (fun h13 w37 h14 => k (.exit 0) ⟨45, [(8, .ptr 8 0), (30, .d (D.sl 2 w9)), (31, .d (D.int .i64 w10)), (32, .d (D.int .i64 h13)), (33, .d (D.bool w37))], [(8, .box [.sa 8 64, .arr 1081]), (1081, .arr 5 1 h14)]⟩) := by
  rw [store_Compact_c7_eq]
  exact store_Compact_r7_eq n w9 w10 k n (0 : Int) []
theorem store_Compact_p8_eq {R : Type} (n : Nat) (w9 : List (List D)) (w10 : Int) (k : Exit → St → Option R) : vexec (store_Compact_C n) n store_Compact_c8 ⟨45, [(8, .ptr 8 0), (30, .d (D.sl 2 w9)), (31, .d (D.int .i64 w10)), (32, .d (D.int .i64 (0 : Int)))], [(1081, .arr 5 1 []), (8, .box [.sa 8 64, .arr 1081])]⟩ k = store_Compact_p8 n w9 w10 (fun w38 w39 w40 => k .normal ⟨45, [(8, .ptr 8 0), (30, .d (D.sl 2 w9)), (31, .d (D.int .i64 w10)), (32, .d (D.int .i64 w38)), (33, .d (D.bool w39))], [(8, .box [.sa 8 64, .arr 1081]), (1081, .arr 5 1 w40)]⟩) := by
  rw [store_Compact_c8_eq]
  unfold store_Compact_p8
  exact (store_Compact_p7_eq n w9 w10 (blockK 0 k)).trans (store_Compact_p7_congr n w9 w10 (fun w38 w39 w40 => rfl))
theorem store_Compact_p9_eq {R : Type} (n : Nat) (a1 : Int) (w5 : List (List D)) (k : Exit → St → Option R) : vexec (store_Compact_C n) n store_Compact_c9 ⟨45, [(1, .d (D.int .i64 a1)), (6, .d (D.sl 2 w5)), (8, .ptr 8 0)], [(8, .box [.sa 8 64, .nil])]⟩ k = store_Compact_p9 n a1 w5 (fun w9 w10 w41 w42 w43 => k .normal ⟨45, [(8, .ptr 8 0), (30, .d (D.sl 2 w9)), (31, .d (D.int .i64 w10)), (32, .d (D.int .i64 w41)), (33, .d (D.bool w42))], [(8, .box [.sa 8 64, .arr 1081]), (1081, .arr 5 1 w43)]⟩) := by
  rw [store_Compact_c9_eq]
  unfold store_Compact_p9
  exact (store_Compact_p5_eq n a1 w5 (seqK (store_Compact_C n) n store_Compact_c8 k)).trans (store_Compact_p5_congr n a1 w5 (fun w9 w10 => store_Compact_p8_eq n w9 w10 k))
theorem store_Compact_p10_eq {R : Type} (n : Nat) (w44 : List (List D)) (w45 : Int) (w46 : Int) (w47 : Bool) (w48 : List (List D)) (k : Exit → St → Option R) : vexec (store_Compact_C n) n store_Compact_c10 ⟨45, [(8, .ptr 8 0), (30, .d (D.sl 2 w44)), (31, .d (D.int .i64 w45)), (32, .d (D.int .i64 w46)), (33, .d (D.bool w47))], [(8, .box [.sa 8 64, .arr 1081]), (1081, .arr 5 1 w48)]⟩ k = store_Compact_p10 n w44 w45 w46 w47 w48 (fun s49 => k .ret ⟨45, [(4, .d (D.str s49)), (5, .d (D.int .i64 (0 : Int)))], []⟩) := by kernel_rfl
theorem store_Compact_p11_eq {R : Type} (n : Nat) (a1 : Int) (w5 : List (List D)) (k : Exit → St → Option R) : vexec (store_Compact_C n) n store_Compact_c11 ⟨45, [(1, .d (D.int .i64 a1)), (6, .d (D.sl 2 w5)), (8, .ptr 8 0)], [(8, .box [.sa 8 64, .nil])]⟩ k = store_Compact_p11 n a1 w5 (fun w50 => k .ret ⟨45, [(4, .d (D.str w50)), (5, .d (D.int .i64 (0 : Int)))], []⟩) := by
  rw [store_Compact_c11_eq]
  unfold store_Compact_p11
  exact (store_Compact_p9_eq n a1 w5 (seqK (store_Compact_C n) n store_Compact_c10 k)).trans (store_Compact_p9_congr n a1 w5 (fun w44 w45 w46 w47 w48 => store_Compact_p10_eq n w44 w45 w46 w47 w48 k))
theorem store_Compact_p12_eq {R : Type} (n : Nat) (a1 : Int) (w5 : List (List D)) (k : Exit → St → Option R) : vexec (store_Compact_C n) n store_Compact_c12 ⟨45, [(1, .d (D.int .i64 a1)), (6, .d (D.sl 2 w5))], []⟩ k = store_Compact_p12 n a1 w5 (fun w51 => k .ret ⟨45, [(4, .d (D.str w51)), (5, .d (D.int .i64 (0 : Int)))], []⟩) := by
  rw [store_Compact_c12_eq]
  unfold store_Compact_p12
  exact (store_Compact_p4_eq n a1 w5 (seqK (store_Compact_C n) n store_Compact_c11 k)).trans (store_Compact_p4_congr n a1 w5 (store_Compact_p11_eq n a1 w5 k))
theorem store_Compact_p13_eq {R : Type} (n : Nat) (a0 : List UInt8) (a1 : Int) (w2 : Bool) (k : Exit → St → Option R) : vexec (store_Compact_C n) n store_Compact_c13 ⟨45, [(0, .d (D.str a0)), (1, .d (D.int .i64 a1)), (18, .d (D.bool w2))], []⟩ k = store_Compact_p13 n a0 a1 w2 (fun w52 => k .ret ⟨45, [(4, .d (D.str w52)), (5, .d (D.int .i64 (0 : Int)))], []⟩) := by
  rw [store_Compact_c13_eq]
  unfold store_Compact_p13
  exact (store_Compact_p3_eq n a0 a1 w2 (seqK (store_Compact_C n) n store_Compact_c12 k)).trans (store_Compact_p3_congr n a0 a1 w2 (fun w5 => store_Compact_p12_eq n a1 w5 k))
theorem store_Compact_p14_eq {R : Type} (n : Nat) (a0 : List UInt8) (a1 : Int) (k : Exit → St → Option R) : vexec (store_Compact_C n) n store_Compact_c14 ⟨45, [(0, .d (D.str a0)), (1, .d (D.int .i64 a1))], []⟩ k = store_Compact_p14 n a0 a1 (fun z54 z55 => k .ret ⟨45, [(4, .d (D.str z54)), (5, .d (D.int .i64 z55))], []⟩) := by
  rw [store_Compact_c14_eq]
  unfold store_Compact_p14
  exact (store_Compact_p2_eq n a0 a1 (seqK (store_Compact_C n) n store_Compact_c13 k)).trans (store_Compact_p2_congr n a0 a1 (rfl) (fun w2 => store_Compact_p13_eq n a0 a1 w2 k))
theorem store_Compact_p15_eq {R : Type} (n : Nat) (a0 : List UInt8) (a1 : Int) (k : Exit → St → Option R) : vexec (store_Compact_C n) n store_Compact_c0 ⟨45, [(0, .d (D.str a0)), (1, .d (D.int .i64 a1))], []⟩ k = store_Compact_p15 n a0 a1 (fun w56 w57 => k .ret ⟨45, [(4, .d (D.str w56)), (5, .d (D.int .i64 w57))], []⟩) := by
  rw [store_Compact_c0_eq]
  unfold store_Compact_p15
  exact (store_Compact_p1_eq n a0 a1 (seqK (store_Compact_C n) n store_Compact_c14 k)).trans (store_Compact_p1_congr n a0 a1 (store_Compact_p14_eq n a0 a1 k))
theorem store_Compact_vfn {R : Type} (n : Nat) (a0 : List UInt8) (a1 : Int) (K : AV → Option R) : vfn (store_Compact_C n) n Try.f25 [.d (D.str a0), .d (D.int .i64 a1)] [] (retF [[0], [0]] K) = store_Compact n a0 a1 (fun r0 r1 => K (.tup [.d (D.str r0), .d (D.int .i64 r1)])) :=
  (show vfn (store_Compact_C n) n Try.f25 [.d (D.str a0), .d (D.int .i64 a1)] [] (retF [[0], [0]] K) = vexec (store_Compact_C n) n store_Compact_c0 ⟨45, [(0, .d (D.str a0)), (1, .d (D.int .i64 a1))], []⟩ (retX store_Compact_tt [.tmp 4, .tmp 5] (retF [[0], [0]] K)) from vfn_at (by kernel_rfl) (by kernel_rfl) rfl (by kernel_rfl) rfl (by kernel_rfl) rfl).trans ((store_Compact_p15_eq n a0 a1 (retX store_Compact_tt [.tmp 4, .tmp 5] (retF [[0], [0]] K))).trans (by kernel_rfl))
def store_Compact_K : AV → Option ((List UInt8) × Int) := fun av => match av with
  | .tup [.d (D.str r0), .d (D.int .i64 r1)] => some (r0, r1)
  | _ => none
def store_Compact_e (n : Nat) : Entry := fun _ _ g avs _ k => match avs with
  | [c0, c1] => prT g c0 fun a0 => prI g .i64 c1 fun a1 => 
    gb g (store_Compact n a0 a1 (fun r0 r1 => some (r0, r1))) ([], 0) fun r => k ⟨.tup [.d (D.str r.1), .d (D.int .i64 r.2)], [], []⟩
  | _ => none
theorem store_Compact_ok (n : Nat) : EntryOK Try.prog 25 (store_Compact_e n) := by
  intro R site g avs hl k r h
  unfold store_Compact_e at h
  split at h
  rotate_left
  · cases h
  replace h := prT_some h
  obtain ⟨a0, h, le0⟩ := h
  replace h := prI_some h
  obtain ⟨a1, h, le1⟩ := h
  replace h := gb_some h
  obtain ⟨res, h, hr⟩ := h
  refine ⟨_, h, fun hg => CallOK.conv (avs' := [.d (D.str a0), .d (D.int .i64 a1)]) (.cons (le0 hg) (.cons (le1 hg) (.nil))) (callOK_fix (K := store_Compact_K) (res := res) (store_Compact_VC n) (fn := Try.f25) (n := n) (by kernel_rfl) (by kernel_rfl) (by kernel_rfl) (ss := [[0], [0]]) rfl ?_ ?_)⟩
  · exact (store_Compact_vfn n a0 a1 store_Compact_K).trans (hr hg)
  · intro x hx
    unfold store_Compact_K at hx
    split at hx
    · injection hx with hx; subst hx; rfl
    · cases hx
end Go.Vx
/-
  store_Latest: the interpreter computes the pure function
-/
set_option linter.unusedVariables false
set_option linter.unusedSimpArgs false
set_option maxRecDepth 100000
namespace Go.Vx
open Go.Proofs
noncomputable def store_Latest_c0 : Code := bodyOf Try.f26
def store_Latest_tt : TT := [(3, ⟨.int .i64, 1, 8, [.int .i64 0], [.int .i64 0], [], none⟩), (23, ⟨.struct, 2, 24, [.int .i64 0, .string ⟨#[]⟩], [.int .i64 0, .str []], [(0, 3), (1, 9)], some [.int .i64, .str]⟩), (32, ⟨.sl 23 2, 1, 24, [.slice none 0 0], [.sl 2 []], [], none⟩)]
theorem store_Latest_tt_eq : mkTT Try.prog [3, 23, 32] = store_Latest_tt := by kernel_rfl
def store_Latest_cfg : List (Nat × Cfg) := [(0, ⟨[0, 2], [(2, 2)], [], [], []⟩), (1, ⟨[2, 4], [(2, 2)], [], [], []⟩), (2, ⟨[2, 4, 13], [(2, 2)], [], [], []⟩), (3, ⟨[2, 3], [(2, 2)], [], [], []⟩), (4, ⟨[2, 3], [(2, 2)], [], [], []⟩)]
def store_Latest_C (n : Nat) : VC := ⟨specOf [(19, store_Scan_e n)], store_Latest_tt, store_Latest_cfg⟩
theorem store_Latest_ents (n : Nat) : EntsOK Try.prog [(19, store_Scan_e n)] := ⟨store_Scan_ok n, trivial⟩
theorem store_Latest_VC (n : Nat) : VCOk Try.prog (store_Latest_C n) := ⟨specOf_ok (store_Latest_ents n), (store_Latest_tt_eq ▸ mkTT_ok _ : TOk Try.prog store_Latest_tt), by kernel_rfl⟩
theorem store_Latest_p1_congr {R : Type} (n : Nat) (a0 : List UInt8) {k0 kk0 : Option R} {k1 kk1 : D → D → Option R} (hq0 : k0 = kk0) (hq1 : ∀ x0 x1, k1 x0 x1 = kk1 x0 x1) : store_Latest_p1 n a0 k0 k1 = store_Latest_p1 n a0 kk0 kk1 := by
  obtain rfl : k0 = kk0 := hq0
  obtain rfl : k1 = kk1 := funext fun x0 => funext fun x1 => hq1 x0 x1
  rfl
theorem store_Latest_p1_eq {R : Type} (n : Nat) (a0 : List UInt8) (k : Exit → St → Option R) : vexec (store_Latest_C n) n store_Latest_c0 ⟨21, [(0, .d (D.str a0))], []⟩ k = store_Latest_p1 n a0 (k .ret ⟨21, [(2, .ptr 2 0), (3, .d (D.int .i64 (6 : Int)))], [(2, .box [.d (D.int .i64 (0 : Int)), .d (D.str [])])]⟩) (fun c3 c4 => k .ret ⟨21, [(2, .ptr 2 0), (3, .d (D.int .i64 (0 : Int)))], [(2, .box [.d c3, .d c4])]⟩) := by kernel_rfl
theorem store_Latest_vfn {R : Type} (n : Nat) (a0 : List UInt8) (K : AV → Option R) : vfn (store_Latest_C n) n Try.f26 [.d (D.str a0)] [] (retF [[0, 0], [0]] K) = store_Latest n a0 (fun r0 r1 r2 => K (.tup [.ag [.d r0, .d r1], .d (D.int .i64 r2)])) :=
  (show vfn (store_Latest_C n) n Try.f26 [.d (D.str a0)] [] (retF [[0, 0], [0]] K) = vexec (store_Latest_C n) n store_Latest_c0 ⟨21, [(0, .d (D.str a0))], []⟩ (retX store_Latest_tt [.cell 2 23, .tmp 3] (retF [[0, 0], [0]] K)) from vfn_at (by kernel_rfl) (by kernel_rfl) rfl (by kernel_rfl) rfl (by kernel_rfl) rfl).trans ((store_Latest_p1_eq n a0 (retX store_Latest_tt [.cell 2 23, .tmp 3] (retF [[0, 0], [0]] K))).trans (by kernel_rfl))
def store_Latest_K : AV → Option (D × D × Int) := fun av => match av with
  | .tup [.ag [.d r0, .d r1], .d (D.int .i64 r2)] => some (r0, r1, r2)
  | _ => none
def store_Latest_e (n : Nat) : Entry := fun _ _ g avs _ k => match avs with
  | [c0] => prT g c0 fun a0 => 
    gb g (store_Latest n a0 (fun r0 r1 r2 => some (r0, r1, r2))) ((.bool false), (.bool false), 0) fun r => k ⟨.tup [.ag [.d r.1, .d r.2.1], .d (D.int .i64 r.2.2)], [], []⟩
  | _ => none
theorem store_Latest_ok (n : Nat) : EntryOK Try.prog 26 (store_Latest_e n) := by
  intro R site g avs hl k r h
  unfold store_Latest_e at h
  split at h
  rotate_left
  · cases h
  replace h := prT_some h
  obtain ⟨a0, h, le0⟩ := h
  replace h := gb_some h
  obtain ⟨res, h, hr⟩ := h
  refine ⟨_, h, fun hg => CallOK.conv (avs' := [.d (D.str a0)]) (.cons (le0 hg) (.nil)) (callOK_fix (K := store_Latest_K) (res := res) (store_Latest_VC n) (fn := Try.f26) (n := n) (by kernel_rfl) (by kernel_rfl) (by kernel_rfl) (ss := [[0, 0], [0]]) rfl ?_ ?_)⟩
  · exact (store_Latest_vfn n a0 store_Latest_K).trans (hr hg)
  · intro x hx
    unfold store_Latest_K at hx
    split at hx
    · injection hx with hx; subst hx; rfl
    · cases hx
end Go.Vx
/-
  law41_awake: the interpreter computes the pure function
-/
set_option linter.unusedVariables false
set_option linter.unusedSimpArgs false
set_option maxRecDepth 100000
namespace Go.Vx
open Go.Proofs
noncomputable def law41_awake_c0 : Code := bodyOf Try.f15
def law41_awake_tt : TT := [(3, ⟨.int .i64, 1, 8, [.int .i64 0], [.int .i64 0], [], none⟩), (9, ⟨.str, 1, 16, [.string ⟨#[]⟩], [.str []], [], none⟩), (23, ⟨.struct, 2, 24, [.int .i64 0, .string ⟨#[]⟩], [.int .i64 0, .str []], [(0, 3), (1, 9)], some [.int .i64, .str]⟩), (24, ⟨.int .i64, 1, 8, [.int .i64 0], [.int .i64 0], [], none⟩)]
theorem law41_awake_tt_eq : mkTT Try.prog [3, 9, 23, 24] = law41_awake_tt := by kernel_rfl
def law41_awake_cfg : List (Nat × Cfg) := [(0, ⟨[], [], [], [], []⟩), (1, ⟨[1, 2], [], [], [], []⟩), (2, ⟨[1, 2, 3, 4], [], [], [], []⟩), (3, ⟨[1, 2, 3, 4, 5, 6], [], [], [], []⟩), (4, ⟨[1, 2, 3, 4, 5, 6, 7, 8], [(7, 7)], [], [], []⟩), (5, ⟨[1, 2, 3, 4, 6, 7, 8, 10], [(7, 7)], [], [], []⟩), (6, ⟨[0], [], [], [], []⟩)]
def law41_awake_C (n : Nat) : VC := ⟨specOf [(12, store_Encode_e n), (22, store_Append_e n), (26, store_Latest_e n)], law41_awake_tt, law41_awake_cfg⟩
theorem law41_awake_ents (n : Nat) : EntsOK Try.prog [(12, store_Encode_e n), (22, store_Append_e n), (26, store_Latest_e n)] := ⟨store_Encode_ok n, ⟨store_Append_ok n, ⟨store_Latest_ok n, trivial⟩⟩⟩
theorem law41_awake_VC (n : Nat) : VCOk Try.prog (law41_awake_C n) := ⟨specOf_ok (law41_awake_ents n), (law41_awake_tt_eq ▸ mkTT_ok _ : TOk Try.prog law41_awake_tt), by kernel_rfl⟩
theorem law41_awake_p1_congr {R : Type} (n : Nat)  {k0 kk0 : Bool → Option R} (hq0 : ∀ x0, k0 x0 = kk0 x0) : law41_awake_p1 n  k0 = law41_awake_p1 n  kk0 := by
  obtain rfl : k0 = kk0 := funext fun x0 => hq0 x0
  rfl
theorem law41_awake_p1_eq {R : Type} (n : Nat)  (k : Exit → St → Option R) : vexec (law41_awake_C n) n law41_awake_c0 ⟨76, [], []⟩ k = law41_awake_p1 n  (fun z9 => k .ret ⟨76, [(0, .d (D.bool z9))], []⟩) := by kernel_rfl
theorem law41_awake_vfn {R : Type} (n : Nat)  (K : AV → Option R) : vfn (law41_awake_C n) n Try.f15 [] [] (retF [[0]] K) = law41_awake n  (fun r0 => K (.d (D.bool r0))) :=
  (show vfn (law41_awake_C n) n Try.f15 [] [] (retF [[0]] K) = vexec (law41_awake_C n) n law41_awake_c0 ⟨76, [], []⟩ (retX law41_awake_tt [.tmp 0] (retF [[0]] K)) from vfn_at (by kernel_rfl) (by kernel_rfl) rfl (by kernel_rfl) rfl (by kernel_rfl) rfl).trans ((law41_awake_p1_eq n  (retX law41_awake_tt [.tmp 0] (retF [[0]] K))).trans (by kernel_rfl))
def law41_awake_K : AV → Option (Bool) := fun av => match av with
  | .d (D.bool r0) => some r0
  | _ => none
def law41_awake_e (n : Nat) : Entry := fun _ _ g avs _ k => match avs with
  | [] => 
    gb g (law41_awake n  some) false fun r => k ⟨.d (D.bool r), [], []⟩
  | _ => none
theorem law41_awake_ok (n : Nat) : EntryOK Try.prog 15 (law41_awake_e n) := by
  intro R site g avs hl k r h
  unfold law41_awake_e at h
  split at h
  rotate_left
  · cases h
  replace h := gb_some h
  obtain ⟨res, h, hr⟩ := h
  refine ⟨_, h, fun hg => CallOK.conv (avs' := []) (.nil) (callOK_fix (K := law41_awake_K) (res := res) (law41_awake_VC n) (fn := Try.f15) (n := n) (by kernel_rfl) (by kernel_rfl) (by kernel_rfl) (ss := [[0]]) rfl ?_ ?_)⟩
  · exact (law41_awake_vfn n  law41_awake_K).trans (hr hg)
  · intro x hx
    unfold law41_awake_K at hx
    split at hx
    · injection hx with hx; subst hx; rfl
    · cases hx
end Go.Vx
/-
  law41_StoreFull: the interpreter computes the pure function
-/
set_option linter.unusedVariables false
set_option linter.unusedSimpArgs false
set_option maxRecDepth 100000
namespace Go.Vx
open Go.Proofs
noncomputable def law41_StoreFull_c0 : Code := bodyOf Try.f10
noncomputable def law41_StoreFull_c1 : Code := cL (bodyOf Try.f10)
noncomputable def law41_StoreFull_c2 : Code := cL (cR (bodyOf Try.f10))
noncomputable def law41_StoreFull_c3 : Code := cL (cR (cR (bodyOf Try.f10)))
noncomputable def law41_StoreFull_c4 : Code := cL (cL (cR (cR (cR (bodyOf Try.f10)))))
noncomputable def law41_StoreFull_c5 : Code := cB (cB (cR (cL (cR (cR (cR (bodyOf Try.f10)))))))
noncomputable def law41_StoreFull_c6 : Code := cB (cR (cL (cR (cR (cR (bodyOf Try.f10))))))
noncomputable def law41_StoreFull_c7 : Code := cR (cL (cR (cR (cR (bodyOf Try.f10)))))
noncomputable def law41_StoreFull_c8 : Code := cL (cR (cR (cR (bodyOf Try.f10))))
noncomputable def law41_StoreFull_c9 : Code := cR (cR (cR (cR (bodyOf Try.f10))))
noncomputable def law41_StoreFull_c10 : Code := cR (cR (cR (bodyOf Try.f10)))
noncomputable def law41_StoreFull_c11 : Code := cR (cR (bodyOf Try.f10))
noncomputable def law41_StoreFull_c12 : Code := cR (bodyOf Try.f10)
theorem law41_StoreFull_c6_eq : law41_StoreFull_c6 = .loop law41_StoreFull_c5 := by kernel_rfl
theorem law41_StoreFull_c7_eq : law41_StoreFull_c7 = .block 0 law41_StoreFull_c6 := by kernel_rfl
theorem law41_StoreFull_c8_eq : law41_StoreFull_c8 = .seq law41_StoreFull_c4 law41_StoreFull_c7 := by kernel_rfl
theorem law41_StoreFull_c10_eq : law41_StoreFull_c10 = .seq law41_StoreFull_c8 law41_StoreFull_c9 := by kernel_rfl
theorem law41_StoreFull_c11_eq : law41_StoreFull_c11 = .seq law41_StoreFull_c3 law41_StoreFull_c10 := by kernel_rfl
theorem law41_StoreFull_c12_eq : law41_StoreFull_c12 = .seq law41_StoreFull_c2 law41_StoreFull_c11 := by kernel_rfl
theorem law41_StoreFull_c0_eq : law41_StoreFull_c0 = .seq law41_StoreFull_c1 law41_StoreFull_c12 := by kernel_rfl
def law41_StoreFull_tt : TT := [(3, ⟨.int .i64, 1, 8, [.int .i64 0], [.int .i64 0], [], none⟩), (9, ⟨.str, 1, 16, [.string ⟨#[]⟩], [.str []], [], none⟩), (23, ⟨.struct, 2, 24, [.int .i64 0, .string ⟨#[]⟩], [.int .i64 0, .str []], [(0, 3), (1, 9)], some [.int .i64, .str]⟩), (24, ⟨.int .i64, 1, 8, [.int .i64 0], [.int .i64 0], [], none⟩), (32, ⟨.sl 23 2, 1, 24, [.slice none 0 0], [.sl 2 []], [], none⟩)]
theorem law41_StoreFull_tt_eq : mkTT Try.prog [3, 9, 23, 24, 32] = law41_StoreFull_tt := by kernel_rfl
def law41_StoreFull_cfg : List (Nat × Cfg) := [(0, ⟨[0], [], [], [], []⟩), (1, ⟨[0, 3], [], [], [], []⟩), (2, ⟨[3, 4], [], [], [], []⟩), (3, ⟨[3, 4, 5], [], [], [], []⟩), (4, ⟨[3, 4, 5, 21], [], [], [], []⟩), (5, ⟨[3, 4, 5], [], [], [], []⟩), (6, ⟨[3, 4, 5, 6], [], [], [], []⟩), (7, ⟨[3, 4, 5], [], [], [], []⟩), (8, ⟨[3, 4, 8, 9], [], [], [], []⟩), (9, ⟨[3, 8, 9, 11], [], [], [], []⟩), (10, ⟨[8, 9, 11, 12, 13], [], [], [], []⟩), (11, ⟨[8, 9, 11, 13, 14, 15], [(14, 14)], [], [], []⟩), (12, ⟨[2], [], [], [], []⟩)]
def law41_StoreFull_C (n : Nat) : VC := ⟨specOf [(14, keep_Pick_e n), (13, ref41_Encode_e n), (19, store_Scan_e n), (22, store_Append_e n), (25, store_Compact_e n), (26, store_Latest_e n), (15, law41_awake_e n)], law41_StoreFull_tt, law41_StoreFull_cfg⟩
theorem law41_StoreFull_ents (n : Nat) : EntsOK Try.prog [(14, keep_Pick_e n), (13, ref41_Encode_e n), (19, store_Scan_e n), (22, store_Append_e n), (25, store_Compact_e n), (26, store_Latest_e n), (15, law41_awake_e n)] := ⟨keep_Pick_ok n, ⟨ref41_Encode_ok n, ⟨store_Scan_ok n, ⟨store_Append_ok n, ⟨store_Compact_ok n, ⟨store_Latest_ok n, ⟨law41_awake_ok n, trivial⟩⟩⟩⟩⟩⟩⟩
theorem law41_StoreFull_VC (n : Nat) : VCOk Try.prog (law41_StoreFull_C n) := ⟨specOf_ok (law41_StoreFull_ents n), (law41_StoreFull_tt_eq ▸ mkTT_ok _ : TOk Try.prog law41_StoreFull_tt), by kernel_rfl⟩
theorem law41_StoreFull_p1_congr {R : Type} (n : Nat) (a0 : Int) {k0 kk0 : Option R} (hq0 : k0 = kk0) : law41_StoreFull_p1 n a0 k0 = law41_StoreFull_p1 n a0 kk0 := by
  obtain rfl : k0 = kk0 := hq0
  rfl
theorem law41_StoreFull_p2_congr {R : Type} (n : Nat) (a0 : Int) {k0 kk0 : Option R} (hq0 : k0 = kk0) : law41_StoreFull_p2 n a0 k0 = law41_StoreFull_p2 n a0 kk0 := by
  obtain rfl : k0 = kk0 := hq0
  rfl
theorem law41_StoreFull_p3_congr {R : Type} (n : Nat) (a0 : Int) {k0 kk0 : Int → Option R} (hq0 : ∀ x0, k0 x0 = kk0 x0) : law41_StoreFull_p3 n a0 k0 = law41_StoreFull_p3 n a0 kk0 := by
  obtain rfl : k0 = kk0 := funext fun x0 => hq0 x0
  rfl
theorem law41_StoreFull_p4_congr {R : Type} (n : Nat) (w3 : Int) {k0 kk0 : Option R} (hq0 : k0 = kk0) : law41_StoreFull_p4 n w3 k0 = law41_StoreFull_p4 n w3 kk0 := by
  obtain rfl : k0 = kk0 := hq0
  rfl
theorem law41_StoreFull_p5_congr {R : Type} (n : Nat) (h4 : List UInt8) (w3 : Int) (h6 : Int) {k0 kk0 : (List UInt8) → Int → Option R} {k1 kk1 : Bool → Option R} (hq0 : ∀ x0 x1, k0 x0 x1 = kk0 x0 x1) (hq1 : ∀ x0, k1 x0 = kk1 x0) : law41_StoreFull_p5 n h4 w3 h6 k0 k1 = law41_StoreFull_p5 n h4 w3 h6 kk0 kk1 := by
  obtain rfl : k0 = kk0 := funext fun x0 => funext fun x1 => hq0 x0 x1
  obtain rfl : k1 = kk1 := funext fun x0 => hq1 x0
  rfl
theorem law41_StoreFull_p6_congr {R : Type} (n : Nat) (w3 : Int) {k0 kk0 : (List UInt8) → Int → Bool → Option R} (hq0 : ∀ x0 x1 x2, k0 x0 x1 x2 = kk0 x0 x1 x2) : law41_StoreFull_p6 n w3 k0 = law41_StoreFull_p6 n w3 kk0 := by
  obtain rfl : k0 = kk0 := funext fun x0 => funext fun x1 => funext fun x2 => hq0 x0 x1 x2
  rfl
theorem law41_StoreFull_p7_congr {R : Type} (n : Nat) (w3 : Int) {k0 kk0 : (List UInt8) → Int → Bool → Option R} (hq0 : ∀ x0 x1 x2, k0 x0 x1 x2 = kk0 x0 x1 x2) : law41_StoreFull_p7 n w3 k0 = law41_StoreFull_p7 n w3 kk0 := by
  obtain rfl : k0 = kk0 := funext fun x0 => funext fun x1 => funext fun x2 => hq0 x0 x1 x2
  rfl
theorem law41_StoreFull_p8_congr {R : Type} (n : Nat) (w3 : Int) {k0 kk0 : (List UInt8) → Int → Bool → Option R} (hq0 : ∀ x0 x1 x2, k0 x0 x1 x2 = kk0 x0 x1 x2) : law41_StoreFull_p8 n w3 k0 = law41_StoreFull_p8 n w3 kk0 := by
  obtain rfl : k0 = kk0 := funext fun x0 => funext fun x1 => funext fun x2 => hq0 x0 x1 x2
  rfl
theorem law41_StoreFull_p9_congr {R : Type} (n : Nat) (w26 : List UInt8) (w3 : Int) (w27 : Int) (w28 : Bool) {k0 kk0 : Bool → Option R} (hq0 : ∀ x0, k0 x0 = kk0 x0) : law41_StoreFull_p9 n w26 w3 w27 w28 k0 = law41_StoreFull_p9 n w26 w3 w27 w28 kk0 := by
  obtain rfl : k0 = kk0 := funext fun x0 => hq0 x0
  rfl
theorem law41_StoreFull_p10_congr {R : Type} (n : Nat) (w3 : Int) {k0 kk0 : Bool → Option R} (hq0 : ∀ x0, k0 x0 = kk0 x0) : law41_StoreFull_p10 n w3 k0 = law41_StoreFull_p10 n w3 kk0 := by
  obtain rfl : k0 = kk0 := funext fun x0 => hq0 x0
  rfl
theorem law41_StoreFull_p11_congr {R : Type} (n : Nat) (a0 : Int) {k0 kk0 : Bool → Option R} (hq0 : ∀ x0, k0 x0 = kk0 x0) : law41_StoreFull_p11 n a0 k0 = law41_StoreFull_p11 n a0 kk0 := by
  obtain rfl : k0 = kk0 := funext fun x0 => hq0 x0
  rfl
theorem law41_StoreFull_p12_congr {R : Type} (n : Nat) (a0 : Int) {k0 kk0 : Bool → Option R} (hq0 : ∀ x0, k0 x0 = kk0 x0) : law41_StoreFull_p12 n a0 k0 = law41_StoreFull_p12 n a0 kk0 := by
  obtain rfl : k0 = kk0 := funext fun x0 => hq0 x0
  rfl
theorem law41_StoreFull_p13_congr {R : Type} (n : Nat) (a0 : Int) {k0 kk0 : Bool → Option R} (hq0 : ∀ x0, k0 x0 = kk0 x0) : law41_StoreFull_p13 n a0 k0 = law41_StoreFull_p13 n a0 kk0 := by
  obtain rfl : k0 = kk0 := funext fun x0 => hq0 x0
  rfl
theorem law41_StoreFull_p1_eq {R : Type} (n : Nat) (a0 : Int) (k : Exit → St → Option R) : vexec (law41_StoreFull_C n) n law41_StoreFull_c1 ⟨83, [(0, .d (D.int .i64 a0))], []⟩ k = law41_StoreFull_p1 n a0 (k .normal ⟨83, [(0, .d (D.int .i64 a0))], []⟩) := by kernel_rfl
theorem law41_StoreFull_p2_eq {R : Type} (n : Nat) (a0 : Int) (k : Exit → St → Option R) : vexec (law41_StoreFull_C n) n law41_StoreFull_c2 ⟨83, [(0, .d (D.int .i64 a0))], []⟩ k = law41_StoreFull_p2 n a0 (k .normal ⟨83, [(0, .d (D.int .i64 a0)), (3, .d (D.str []))], []⟩) := by kernel_rfl
theorem law41_StoreFull_p3_eq {R : Type} (n : Nat) (a0 : Int) (k : Exit → St → Option R) : vexec (law41_StoreFull_C n) n law41_StoreFull_c3 ⟨83, [(0, .d (D.int .i64 a0)), (3, .d (D.str []))], []⟩ k = law41_StoreFull_p3 n a0 (fun z2 => k .normal ⟨83, [(3, .d (D.str [])), (4, .d (D.int .i64 z2))], []⟩) := by kernel_rfl
theorem law41_StoreFull_p4_eq {R : Type} (n : Nat) (w3 : Int) (k : Exit → St → Option R) : vexec (law41_StoreFull_C n) n law41_StoreFull_c4 ⟨83, [(3, .d (D.str [])), (4, .d (D.int .i64 w3))], []⟩ k = law41_StoreFull_p4 n w3 (k .normal ⟨83, [(3, .d (D.str [])), (4, .d (D.int .i64 w3)), (5, .d (D.int .i64 (1 : Int)))], []⟩) := by kernel_rfl
theorem law41_StoreFull_p5_eq {R : Type} (n : Nat) (h4 : List UInt8) (w3 : Int) (h6 : Int) (k : Exit → St → Option R) : vexec (law41_StoreFull_C n) n law41_StoreFull_c5 ⟨83, [(3, .d (D.str h4)), (4, .d (D.int .i64 w3)), (5, .d (D.int .i64 h6))], []⟩ k = law41_StoreFull_p5 n h4 w3 h6 (fun z14 z15 => k .normal ⟨83, [(3, .d (D.str z14)), (4, .d (D.int .i64 w3)), (5, .d (D.int .i64 z15))], []⟩) (fun z16 => k (.exit 0) ⟨83, [(3, .d (D.str h4)), (4, .d (D.int .i64 w3)), (5, .d (D.int .i64 h6)), (21, .d (D.bool z16))], []⟩) := by kernel_rfl
theorem law41_StoreFull_r6_eq {R : Type} (n : Nat) (w3 : Int) (k : Exit → St → Option R) : ∀ (m : Nat) (h4 : List UInt8) (h6 : Int), loopN (vexec (law41_StoreFull_C n) n law41_StoreFull_c5) m ⟨83, [(3, .d (D.str h4)), (4, .d (D.int .i64 w3)), (5, .d (D.int .i64 h6))], []⟩ k = law41_StoreFull_r6 n w3 (fun h4 h6 w19 => k (.exit 0) ⟨83, [(3, .d (D.str h4)), (4, .d (D.int .i64 w3)), (5, .d (D.int .i64 h6)), (21, .d (D.bool w19))], []⟩) m h4 h6
  | 0, _, _ => rfl
  | m + 1, h4, h6 => (law41_StoreFull_p5_eq n h4 w3 h6 (loopK (vexec (law41_StoreFull_C n) n law41_StoreFull_c5) m k)).trans (law41_StoreFull_p5_congr n h4 w3 h6 (fun w17 w18 => law41_StoreFull_r6_eq n w3 k m w17 w18) (fun w19 => rfl))
theorem law41_StoreFull_p6_eq {R : Type} (n : Nat) (w3 : Int) (k : Exit → St → Option R) : vexec (law41_StoreFull_C n) n law41_StoreFull_c6 ⟨83, [(3, .d (D.str [])), (4, .d (D.int .i64 w3)), (5, .d (D.int .i64 (1 : Int)))], []⟩ k = law41_StoreFull_p6 n w3 (fun h4 h6 w19 => k (.exit 0) ⟨83, [(3, .d (D.str h4)), (4, .d (D.int .i64 w3)), (5, .d (D.int .i64 h6)), (21, .d (D.bool w19))], []⟩) := by
  rw [law41_StoreFull_c6_eq]
  exact law41_StoreFull_r6_eq n w3 k n [] (1 : Int)
theorem law41_StoreFull_p7_eq {R : Type} (n : Nat) (w3 : Int) (k : Exit → St → Option R) : vexec (law41_StoreFull_C n) n law41_StoreFull_c7 ⟨83, [(3, .d (D.str [])), (4, .d (D.int .i64 w3)), (5, .d (D.int .i64 (1 : Int)))], []⟩ k = law41_StoreFull_p7 n w3 (fun w20 w21 w22 => k .normal ⟨83, [(3, .d (D.str w20)), (4, .d (D.int .i64 w3)), (5, .d (D.int .i64 w21)), (21, .d (D.bool w22))], []⟩) := by
  rw [law41_StoreFull_c7_eq]
  unfold law41_StoreFull_p7
  exact (law41_StoreFull_p6_eq n w3 (blockK 0 k)).trans (law41_StoreFull_p6_congr n w3 (fun w20 w21 w22 => rfl))
theorem law41_StoreFull_p8_eq {R : Type} (n : Nat) (w3 : Int) (k : Exit → St → Option R) : vexec (law41_StoreFull_C n) n law41_StoreFull_c8 ⟨83, [(3, .d (D.str [])), (4, .d (D.int .i64 w3))], []⟩ k = law41_StoreFull_p8 n w3 (fun w23 w24 w25 => k .normal ⟨83, [(3, .d (D.str w23)), (4, .d (D.int .i64 w3)), (5, .d (D.int .i64 w24)), (21, .d (D.bool w25))], []⟩) := by
  rw [law41_StoreFull_c8_eq]
  unfold law41_StoreFull_p8
  exact (law41_StoreFull_p4_eq n w3 (seqK (law41_StoreFull_C n) n law41_StoreFull_c7 k)).trans (law41_StoreFull_p4_congr n w3 (law41_StoreFull_p7_eq n w3 k))
theorem law41_StoreFull_p9_eq {R : Type} (n : Nat) (w26 : List UInt8) (w3 : Int) (w27 : Int) (w28 : Bool) (k : Exit → St → Option R) : vexec (law41_StoreFull_C n) n law41_StoreFull_c9 ⟨83, [(3, .d (D.str w26)), (4, .d (D.int .i64 w3)), (5, .d (D.int .i64 w27)), (21, .d (D.bool w28))], []⟩ k = law41_StoreFull_p9 n w26 w3 w27 w28 (fun z36 => k .ret ⟨83, [(2, .d (D.bool z36))], []⟩) := by kernel_rfl
theorem law41_StoreFull_p10_eq {R : Type} (n : Nat) (w3 : Int) (k : Exit → St → Option R) : vexec (law41_StoreFull_C n) n law41_StoreFull_c10 ⟨83, [(3, .d (D.str [])), (4, .d (D.int .i64 w3))], []⟩ k = law41_StoreFull_p10 n w3 (fun w37 => k .ret ⟨83, [(2, .d (D.bool w37))], []⟩) := by
  rw [law41_StoreFull_c10_eq]
  unfold law41_StoreFull_p10
  exact (law41_StoreFull_p8_eq n w3 (seqK (law41_StoreFull_C n) n law41_StoreFull_c9 k)).trans (law41_StoreFull_p8_congr n w3 (fun w26 w27 w28 => law41_StoreFull_p9_eq n w26 w3 w27 w28 k))
theorem law41_StoreFull_p11_eq {R : Type} (n : Nat) (a0 : Int) (k : Exit → St → Option R) : vexec (law41_StoreFull_C n) n law41_StoreFull_c11 ⟨83, [(0, .d (D.int .i64 a0)), (3, .d (D.str []))], []⟩ k = law41_StoreFull_p11 n a0 (fun w38 => k .ret ⟨83, [(2, .d (D.bool w38))], []⟩) := by
  rw [law41_StoreFull_c11_eq]
  unfold law41_StoreFull_p11
  exact (law41_StoreFull_p3_eq n a0 (seqK (law41_StoreFull_C n) n law41_StoreFull_c10 k)).trans (law41_StoreFull_p3_congr n a0 (fun w3 => law41_StoreFull_p10_eq n w3 k))
theorem law41_StoreFull_p12_eq {R : Type} (n : Nat) (a0 : Int) (k : Exit → St → Option R) : vexec (law41_StoreFull_C n) n law41_StoreFull_c12 ⟨83, [(0, .d (D.int .i64 a0))], []⟩ k = law41_StoreFull_p12 n a0 (fun w39 => k .ret ⟨83, [(2, .d (D.bool w39))], []⟩) := by
  rw [law41_StoreFull_c12_eq]
  unfold law41_StoreFull_p12
  exact (law41_StoreFull_p2_eq n a0 (seqK (law41_StoreFull_C n) n law41_StoreFull_c11 k)).trans (law41_StoreFull_p2_congr n a0 (law41_StoreFull_p11_eq n a0 k))
theorem law41_StoreFull_p13_eq {R : Type} (n : Nat) (a0 : Int) (k : Exit → St → Option R) : vexec (law41_StoreFull_C n) n law41_StoreFull_c0 ⟨83, [(0, .d (D.int .i64 a0))], []⟩ k = law41_StoreFull_p13 n a0 (fun w40 => k .ret ⟨83, [(2, .d (D.bool w40))], []⟩) := by
  rw [law41_StoreFull_c0_eq]
  unfold law41_StoreFull_p13
  exact (law41_StoreFull_p1_eq n a0 (seqK (law41_StoreFull_C n) n law41_StoreFull_c12 k)).trans (law41_StoreFull_p1_congr n a0 (law41_StoreFull_p12_eq n a0 k))
theorem law41_StoreFull_vfn {R : Type} (n : Nat) (a0 : Int) (K : AV → Option R) : vfn (law41_StoreFull_C n) n Try.f10 [.d (D.int .i64 a0)] [] (retF [[0]] K) = law41_StoreFull n a0 (fun r0 => K (.d (D.bool r0))) :=
  (show vfn (law41_StoreFull_C n) n Try.f10 [.d (D.int .i64 a0)] [] (retF [[0]] K) = vexec (law41_StoreFull_C n) n law41_StoreFull_c0 ⟨83, [(0, .d (D.int .i64 a0))], []⟩ (retX law41_StoreFull_tt [.tmp 2] (retF [[0]] K)) from vfn_at (by kernel_rfl) (by kernel_rfl) rfl (by kernel_rfl) rfl (by kernel_rfl) rfl).trans ((law41_StoreFull_p13_eq n a0 (retX law41_StoreFull_tt [.tmp 2] (retF [[0]] K))).trans (by kernel_rfl))
def law41_StoreFull_K : AV → Option (Bool) := fun av => match av with
  | .d (D.bool r0) => some r0
  | _ => none
def law41_StoreFull_e (n : Nat) : Entry := fun _ _ g avs _ k => match avs with
  | [c0] => prI g .i64 c0 fun a0 => 
    gb g (law41_StoreFull n a0 some) false fun r => k ⟨.d (D.bool r), [], []⟩
  | _ => none
theorem law41_StoreFull_ok (n : Nat) : EntryOK Try.prog 10 (law41_StoreFull_e n) := by
  intro R site g avs hl k r h
  unfold law41_StoreFull_e at h
  split at h
  rotate_left
  · cases h
  replace h := prI_some h
  obtain ⟨a0, h, le0⟩ := h
  replace h := gb_some h
  obtain ⟨res, h, hr⟩ := h
  refine ⟨_, h, fun hg => CallOK.conv (avs' := [.d (D.int .i64 a0)]) (.cons (le0 hg) (.nil)) (callOK_fix (K := law41_StoreFull_K) (res := res) (law41_StoreFull_VC n) (fn := Try.f10) (n := n) (by kernel_rfl) (by kernel_rfl) (by kernel_rfl) (ss := [[0]]) rfl ?_ ?_)⟩
  · exact (law41_StoreFull_vfn n a0 law41_StoreFull_K).trans (hr hg)
  · intro x hx
    unfold law41_StoreFull_K at hx
    split at hx
    · injection hx with hx; subst hx; rfl
    · cases hx
end Go.Vx
