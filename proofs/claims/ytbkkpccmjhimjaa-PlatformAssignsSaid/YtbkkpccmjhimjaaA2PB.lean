/- Part of a proof: texts Vpref19 ValidVisits Vpref19 member Vpref1 Mod Vpref19 Overlap Vpref19 Proper Vplaw20 PlatformAssigns. No conditions of their own. -/
import Derived.Test.YtbkkpccmjhimjaaProg
import Derived.Test.YtbkkpccmjhimjaaA2VB
import Derived.Test.YtbkkpccmjhimjaaA2FA
import Derived.Test.YtbkkpccmjhimjaaA2PA
/-
  ref19_ValidVisits: the interpreter computes the pure function
-/
set_option linter.unusedVariables false
set_option linter.unusedSimpArgs false
set_option maxRecDepth 100000
namespace Go.Vx
open Go.Proofs
noncomputable def ref19_ValidVisits_c0 : Code := bodyOf Try.f33
noncomputable def ref19_ValidVisits_c1 : Code := cL (bodyOf Try.f33)
noncomputable def ref19_ValidVisits_c2 : Code := cL (cR (bodyOf Try.f33))
noncomputable def ref19_ValidVisits_c3 : Code := cL (cL (cR (cR (bodyOf Try.f33))))
noncomputable def ref19_ValidVisits_c4 : Code := cL (cB (cB (cR (cL (cR (cR (bodyOf Try.f33)))))))
noncomputable def ref19_ValidVisits_c5 : Code := cL (cR (cB (cB (cR (cL (cR (cR (bodyOf Try.f33))))))))
noncomputable def ref19_ValidVisits_c6 : Code := cL (cB (cL (cR (cR (cB (cB (cR (cL (cR (cR (bodyOf Try.f33)))))))))))
noncomputable def ref19_ValidVisits_c7 : Code := cL (cR (cB (cL (cR (cR (cB (cB (cR (cL (cR (cR (bodyOf Try.f33))))))))))))
noncomputable def ref19_ValidVisits_c8 : Code := cL (cR (cR (cB (cL (cR (cR (cB (cB (cR (cL (cR (cR (bodyOf Try.f33)))))))))))))
noncomputable def ref19_ValidVisits_c9 : Code := cB (cB (cR (cR (cR (cB (cL (cR (cR (cB (cB (cR (cL (cR (cR (bodyOf Try.f33)))))))))))))))
noncomputable def ref19_ValidVisits_c10 : Code := cB (cR (cR (cR (cB (cL (cR (cR (cB (cB (cR (cL (cR (cR (bodyOf Try.f33))))))))))))))
noncomputable def ref19_ValidVisits_c11 : Code := cR (cR (cR (cB (cL (cR (cR (cB (cB (cR (cL (cR (cR (bodyOf Try.f33)))))))))))))
noncomputable def ref19_ValidVisits_c12 : Code := cR (cR (cB (cL (cR (cR (cB (cB (cR (cL (cR (cR (bodyOf Try.f33))))))))))))
noncomputable def ref19_ValidVisits_c13 : Code := cR (cB (cL (cR (cR (cB (cB (cR (cL (cR (cR (bodyOf Try.f33)))))))))))
noncomputable def ref19_ValidVisits_c14 : Code := cB (cL (cR (cR (cB (cB (cR (cL (cR (cR (bodyOf Try.f33))))))))))
noncomputable def ref19_ValidVisits_c15 : Code := cL (cR (cR (cB (cB (cR (cL (cR (cR (bodyOf Try.f33)))))))))
noncomputable def ref19_ValidVisits_c16 : Code := cR (cR (cR (cB (cB (cR (cL (cR (cR (bodyOf Try.f33)))))))))
noncomputable def ref19_ValidVisits_c17 : Code := cR (cR (cB (cB (cR (cL (cR (cR (bodyOf Try.f33))))))))
noncomputable def ref19_ValidVisits_c18 : Code := cR (cB (cB (cR (cL (cR (cR (bodyOf Try.f33)))))))
noncomputable def ref19_ValidVisits_c19 : Code := cB (cB (cR (cL (cR (cR (bodyOf Try.f33))))))
noncomputable def ref19_ValidVisits_c20 : Code := cB (cR (cL (cR (cR (bodyOf Try.f33)))))
noncomputable def ref19_ValidVisits_c21 : Code := cR (cL (cR (cR (bodyOf Try.f33))))
noncomputable def ref19_ValidVisits_c22 : Code := cL (cR (cR (bodyOf Try.f33)))
noncomputable def ref19_ValidVisits_c23 : Code := cR (cR (cR (bodyOf Try.f33)))
noncomputable def ref19_ValidVisits_c24 : Code := cR (cR (bodyOf Try.f33))
noncomputable def ref19_ValidVisits_c25 : Code := cR (bodyOf Try.f33)
theorem ref19_ValidVisits_c10_eq : ref19_ValidVisits_c10 = .loop ref19_ValidVisits_c9 := by kernel_rfl
theorem ref19_ValidVisits_c11_eq : ref19_ValidVisits_c11 = .block 2 ref19_ValidVisits_c10 := by kernel_rfl
theorem ref19_ValidVisits_c12_eq : ref19_ValidVisits_c12 = .seq ref19_ValidVisits_c8 ref19_ValidVisits_c11 := by kernel_rfl
theorem ref19_ValidVisits_c13_eq : ref19_ValidVisits_c13 = .seq ref19_ValidVisits_c7 ref19_ValidVisits_c12 := by kernel_rfl
theorem ref19_ValidVisits_c14_eq : ref19_ValidVisits_c14 = .seq ref19_ValidVisits_c6 ref19_ValidVisits_c13 := by kernel_rfl
theorem ref19_ValidVisits_c15_eq : ref19_ValidVisits_c15 = .block 1 ref19_ValidVisits_c14 := by kernel_rfl
theorem ref19_ValidVisits_c17_eq : ref19_ValidVisits_c17 = .seq ref19_ValidVisits_c15 ref19_ValidVisits_c16 := by kernel_rfl
theorem ref19_ValidVisits_c18_eq : ref19_ValidVisits_c18 = .seq ref19_ValidVisits_c5 ref19_ValidVisits_c17 := by kernel_rfl
theorem ref19_ValidVisits_c19_eq : ref19_ValidVisits_c19 = .seq ref19_ValidVisits_c4 ref19_ValidVisits_c18 := by kernel_rfl
theorem ref19_ValidVisits_c20_eq : ref19_ValidVisits_c20 = .loop ref19_ValidVisits_c19 := by kernel_rfl
theorem ref19_ValidVisits_c21_eq : ref19_ValidVisits_c21 = .block 0 ref19_ValidVisits_c20 := by kernel_rfl
theorem ref19_ValidVisits_c22_eq : ref19_ValidVisits_c22 = .seq ref19_ValidVisits_c3 ref19_ValidVisits_c21 := by kernel_rfl
theorem ref19_ValidVisits_c24_eq : ref19_ValidVisits_c24 = .seq ref19_ValidVisits_c22 ref19_ValidVisits_c23 := by kernel_rfl
theorem ref19_ValidVisits_c25_eq : ref19_ValidVisits_c25 = .seq ref19_ValidVisits_c2 ref19_ValidVisits_c24 := by kernel_rfl
theorem ref19_ValidVisits_c0_eq : ref19_ValidVisits_c0 = .seq ref19_ValidVisits_c1 ref19_ValidVisits_c25 := by kernel_rfl
def ref19_ValidVisits_tt : TT := [(3, ⟨.int .i64, 1, 8, [.int .i64 0], [.int .i64 0], [], none⟩), (22, ⟨.sl 3 1, 1, 24, [.slice none 0 0], [.sl 1 []], [], none⟩), (24, ⟨.sl 28 3, 1, 24, [.slice none 0 0], [.sl 3 []], [], none⟩), (28, ⟨.struct, 3, 40, [.int .i64 0, .int .i64 0, .slice none 0 0], [.int .i64 0, .int .i64 0, .sl 1 []], [(0, 3), (1, 3), (2, 22)], none⟩)]
theorem ref19_ValidVisits_tt_eq : mkTT Try.prog [3, 22, 24, 28] = ref19_ValidVisits_tt := by kernel_rfl
def ref19_ValidVisits_cfg : List (Nat × Cfg) := [(0, ⟨[0, 1], [], [], [], []⟩), (1, ⟨[0, 1, 14], [], [], [], []⟩), (2, ⟨[4], [], [], [], []⟩), (3, ⟨[0, 1, 16, 17], [], [], [], []⟩), (4, ⟨[0, 1, 16, 17, 18], [], [], [], []⟩), (5, ⟨[0, 1, 5, 16, 17], [], [], [], []⟩), (6, ⟨[0, 1, 5, 16, 17, 47], [], [], [], []⟩), (7, ⟨[4], [], [], [], []⟩), (8, ⟨[0, 1, 5, 16, 17, 53, 54], [], [], [], []⟩), (9, ⟨[0, 1, 5, 16, 17, 53, 54, 55], [], [], [], []⟩), (10, ⟨[0, 1, 5, 6, 16, 17, 53, 54], [], [], [], []⟩), (11, ⟨[0, 1, 5, 16, 17, 53, 54, 89], [], [], [], []⟩), (12, ⟨[4], [], [], [], []⟩), (13, ⟨[0, 1, 5, 16, 17, 53, 54], [], [], [], []⟩), (14, ⟨[0, 1, 16, 17], [], [], [], []⟩), (15, ⟨[4], [], [], [], []⟩)]
def ref19_ValidVisits_C (n : Nat) : VC := ⟨specOf [(38, ref19_in_e n)], ref19_ValidVisits_tt, ref19_ValidVisits_cfg⟩
theorem ref19_ValidVisits_ents (n : Nat) : EntsOK Try.prog [(38, ref19_in_e n)] := ⟨ref19_in_ok n, trivial⟩
theorem ref19_ValidVisits_VC (n : Nat) : VCOk Try.prog (ref19_ValidVisits_C n) := ⟨specOf_ok (ref19_ValidVisits_ents n), (ref19_ValidVisits_tt_eq ▸ mkTT_ok _ : TOk Try.prog ref19_ValidVisits_tt), by kernel_rfl⟩
theorem ref19_ValidVisits_p1_congr {R : Type} (n : Nat) (a0 : Int) (a1 : List (List D)) {k0 kk0 : Option R} (hq0 : k0 = kk0) : ref19_ValidVisits_p1 n a0 a1 k0 = ref19_ValidVisits_p1 n a0 a1 kk0 := by
  obtain rfl : k0 = kk0 := hq0
  rfl
theorem ref19_ValidVisits_p2_congr {R : Type} (n : Nat) (a0 : Int) (a1 : List (List D)) {k0 kk0 : Option R} {k1 kk1 : Bool → Option R} (hq0 : k0 = kk0) (hq1 : ∀ x0, k1 x0 = kk1 x0) : ref19_ValidVisits_p2 n a0 a1 k0 k1 = ref19_ValidVisits_p2 n a0 a1 kk0 kk1 := by
  obtain rfl : k0 = kk0 := hq0
  obtain rfl : k1 = kk1 := funext fun x0 => hq1 x0
  rfl
theorem ref19_ValidVisits_p3_congr {R : Type} (n : Nat) (a0 : Int) (a1 : List (List D)) (w3 : Bool) {k0 kk0 : Int → Option R} (hq0 : ∀ x0, k0 x0 = kk0 x0) : ref19_ValidVisits_p3 n a0 a1 w3 k0 = ref19_ValidVisits_p3 n a0 a1 w3 kk0 := by
  obtain rfl : k0 = kk0 := funext fun x0 => hq0 x0
  rfl
theorem ref19_ValidVisits_p4_congr {R : Type} (n : Nat) (a0 : Int) (a1 : List (List D)) (w5 : Int) (h9 : Int) {k0 kk0 : Bool → Option R} (hq0 : ∀ x0, k0 x0 = kk0 x0) : ref19_ValidVisits_p4 n a0 a1 w5 h9 k0 = ref19_ValidVisits_p4 n a0 a1 w5 h9 kk0 := by
  obtain rfl : k0 = kk0 := funext fun x0 => hq0 x0
  rfl
theorem ref19_ValidVisits_p5_congr {R : Type} (n : Nat) (a0 : Int) (a1 : List (List D)) (w5 : Int) (h9 : Int) (w100 : Bool) {k0 kk0 : Option R} {k1 kk1 : Option R} (hq0 : k0 = kk0) (hq1 : k1 = kk1) : ref19_ValidVisits_p5 n a0 a1 w5 h9 w100 k0 k1 = ref19_ValidVisits_p5 n a0 a1 w5 h9 w100 kk0 kk1 := by
  obtain rfl : k0 = kk0 := hq0
  obtain rfl : k1 = kk1 := hq1
  rfl
theorem ref19_ValidVisits_p6_congr {R : Type} (n : Nat) (a0 : Int) (a1 : List (List D)) (w5 : Int) (h9 : Int) (w100 : Bool) {k0 kk0 : Option R} (hq0 : k0 = kk0) : ref19_ValidVisits_p6 n a0 a1 w5 h9 w100 k0 = ref19_ValidVisits_p6 n a0 a1 w5 h9 w100 kk0 := by
  obtain rfl : k0 = kk0 := hq0
  rfl
theorem ref19_ValidVisits_p7_congr {R : Type} (n : Nat) (a0 : Int) (a1 : List (List D)) (h9 : Int) (w5 : Int) {k0 kk0 : Option R} {k1 kk1 : Bool → Option R} (hq0 : k0 = kk0) (hq1 : ∀ x0, k1 x0 = kk1 x0) : ref19_ValidVisits_p7 n a0 a1 h9 w5 k0 k1 = ref19_ValidVisits_p7 n a0 a1 h9 w5 kk0 kk1 := by
  obtain rfl : k0 = kk0 := hq0
  obtain rfl : k1 = kk1 := funext fun x0 => hq1 x0
  rfl
theorem ref19_ValidVisits_p8_congr {R : Type} (n : Nat) (a0 : Int) (a1 : List (List D)) (h9 : Int) (w5 : Int) (w113 : Bool) {k0 kk0 : Int → Option R} (hq0 : ∀ x0, k0 x0 = kk0 x0) : ref19_ValidVisits_p8 n a0 a1 h9 w5 w113 k0 = ref19_ValidVisits_p8 n a0 a1 h9 w5 w113 kk0 := by
  obtain rfl : k0 = kk0 := funext fun x0 => hq0 x0
  rfl
theorem ref19_ValidVisits_p9_congr {R : Type} (n : Nat) (a0 : Int) (a1 : List (List D)) (h9 : Int) (w5 : Int) (w118 : Int) (h125 : Int) {k0 kk0 : Option R} {k1 kk1 : Int → Option R} {k2 kk2 : Bool → Option R} (hq0 : k0 = kk0) (hq1 : ∀ x0, k1 x0 = kk1 x0) (hq2 : ∀ x0, k2 x0 = kk2 x0) : ref19_ValidVisits_p9 n a0 a1 h9 w5 w118 h125 k0 k1 k2 = ref19_ValidVisits_p9 n a0 a1 h9 w5 w118 h125 kk0 kk1 kk2 := by
  obtain rfl : k0 = kk0 := hq0
  obtain rfl : k1 = kk1 := funext fun x0 => hq1 x0
  obtain rfl : k2 = kk2 := funext fun x0 => hq2 x0
  rfl
theorem ref19_ValidVisits_p10_congr {R : Type} (n : Nat) (a0 : Int) (a1 : List (List D)) (h9 : Int) (w5 : Int) (w118 : Int) {k0 kk0 : Option R} {k1 kk1 : Int → Bool → Option R} (hq0 : k0 = kk0) (hq1 : ∀ x0 x1, k1 x0 x1 = kk1 x0 x1) : ref19_ValidVisits_p10 n a0 a1 h9 w5 w118 k0 k1 = ref19_ValidVisits_p10 n a0 a1 h9 w5 w118 kk0 kk1 := by
  obtain rfl : k0 = kk0 := hq0
  obtain rfl : k1 = kk1 := funext fun x0 => funext fun x1 => hq1 x0 x1
  rfl
theorem ref19_ValidVisits_p11_congr {R : Type} (n : Nat) (a0 : Int) (a1 : List (List D)) (h9 : Int) (w5 : Int) (w118 : Int) {k0 kk0 : Option R} {k1 kk1 : Int → Bool → Option R} (hq0 : k0 = kk0) (hq1 : ∀ x0 x1, k1 x0 x1 = kk1 x0 x1) : ref19_ValidVisits_p11 n a0 a1 h9 w5 w118 k0 k1 = ref19_ValidVisits_p11 n a0 a1 h9 w5 w118 kk0 kk1 := by
  obtain rfl : k0 = kk0 := hq0
  obtain rfl : k1 = kk1 := funext fun x0 => funext fun x1 => hq1 x0 x1
  rfl
theorem ref19_ValidVisits_p12_congr {R : Type} (n : Nat) (a0 : Int) (a1 : List (List D)) (h9 : Int) (w5 : Int) (w113 : Bool) {k0 kk0 : Option R} {k1 kk1 : Int → Int → Bool → Option R} (hq0 : k0 = kk0) (hq1 : ∀ x0 x1 x2, k1 x0 x1 x2 = kk1 x0 x1 x2) : ref19_ValidVisits_p12 n a0 a1 h9 w5 w113 k0 k1 = ref19_ValidVisits_p12 n a0 a1 h9 w5 w113 kk0 kk1 := by
  obtain rfl : k0 = kk0 := hq0
  obtain rfl : k1 = kk1 := funext fun x0 => funext fun x1 => funext fun x2 => hq1 x0 x1 x2
  rfl
theorem ref19_ValidVisits_p13_congr {R : Type} (n : Nat) (a0 : Int) (a1 : List (List D)) (h9 : Int) (w5 : Int) {k0 kk0 : Option R} {k1 kk1 : Int → Int → Bool → Option R} (hq0 : k0 = kk0) (hq1 : ∀ x0 x1 x2, k1 x0 x1 x2 = kk1 x0 x1 x2) : ref19_ValidVisits_p13 n a0 a1 h9 w5 k0 k1 = ref19_ValidVisits_p13 n a0 a1 h9 w5 kk0 kk1 := by
  obtain rfl : k0 = kk0 := hq0
  obtain rfl : k1 = kk1 := funext fun x0 => funext fun x1 => funext fun x2 => hq1 x0 x1 x2
  rfl
theorem ref19_ValidVisits_p14_congr {R : Type} (n : Nat) (a0 : Int) (a1 : List (List D)) (w5 : Int) (h9 : Int) (w100 : Bool) {k0 kk0 : Option R} {k1 kk1 : Int → Int → Bool → Option R} (hq0 : k0 = kk0) (hq1 : ∀ x0 x1 x2, k1 x0 x1 x2 = kk1 x0 x1 x2) : ref19_ValidVisits_p14 n a0 a1 w5 h9 w100 k0 k1 = ref19_ValidVisits_p14 n a0 a1 w5 h9 w100 kk0 kk1 := by
  obtain rfl : k0 = kk0 := hq0
  obtain rfl : k1 = kk1 := funext fun x0 => funext fun x1 => funext fun x2 => hq1 x0 x1 x2
  rfl
theorem ref19_ValidVisits_p15_congr {R : Type} (n : Nat) (a0 : Int) (a1 : List (List D)) (w5 : Int) (h9 : Int) (w100 : Bool) {k0 kk0 : Option R} {k1 kk1 : Int → Int → Bool → Option R} (hq0 : k0 = kk0) (hq1 : ∀ x0 x1 x2, k1 x0 x1 x2 = kk1 x0 x1 x2) : ref19_ValidVisits_p15 n a0 a1 w5 h9 w100 k0 k1 = ref19_ValidVisits_p15 n a0 a1 w5 h9 w100 kk0 kk1 := by
  obtain rfl : k0 = kk0 := hq0
  obtain rfl : k1 = kk1 := funext fun x0 => funext fun x1 => funext fun x2 => hq1 x0 x1 x2
  rfl
theorem ref19_ValidVisits_p16_congr {R : Type} (n : Nat) (a0 : Int) (a1 : List (List D)) (h9 : Int) (w5 : Int) (w181 : Int) (w182 : Int) (w183 : Bool) {k0 kk0 : Int → Option R} (hq0 : ∀ x0, k0 x0 = kk0 x0) : ref19_ValidVisits_p16 n a0 a1 h9 w5 w181 w182 w183 k0 = ref19_ValidVisits_p16 n a0 a1 h9 w5 w181 w182 w183 kk0 := by
  obtain rfl : k0 = kk0 := funext fun x0 => hq0 x0
  rfl
theorem ref19_ValidVisits_p17_congr {R : Type} (n : Nat) (a0 : Int) (a1 : List (List D)) (w5 : Int) (h9 : Int) (w100 : Bool) {k0 kk0 : Option R} {k1 kk1 : Int → Option R} (hq0 : k0 = kk0) (hq1 : ∀ x0, k1 x0 = kk1 x0) : ref19_ValidVisits_p17 n a0 a1 w5 h9 w100 k0 k1 = ref19_ValidVisits_p17 n a0 a1 w5 h9 w100 kk0 kk1 := by
  obtain rfl : k0 = kk0 := hq0
  obtain rfl : k1 = kk1 := funext fun x0 => hq1 x0
  rfl
theorem ref19_ValidVisits_p18_congr {R : Type} (n : Nat) (a0 : Int) (a1 : List (List D)) (w5 : Int) (h9 : Int) (w100 : Bool) {k0 kk0 : Option R} {k1 kk1 : Int → Option R} {k2 kk2 : Option R} (hq0 : k0 = kk0) (hq1 : ∀ x0, k1 x0 = kk1 x0) (hq2 : k2 = kk2) : ref19_ValidVisits_p18 n a0 a1 w5 h9 w100 k0 k1 k2 = ref19_ValidVisits_p18 n a0 a1 w5 h9 w100 kk0 kk1 kk2 := by
  obtain rfl : k0 = kk0 := hq0
  obtain rfl : k1 = kk1 := funext fun x0 => hq1 x0
  obtain rfl : k2 = kk2 := hq2
  rfl
theorem ref19_ValidVisits_p19_congr {R : Type} (n : Nat) (a0 : Int) (a1 : List (List D)) (w5 : Int) (h9 : Int) {k0 kk0 : Option R} {k1 kk1 : Int → Option R} {k2 kk2 : Bool → Option R} (hq0 : k0 = kk0) (hq1 : ∀ x0, k1 x0 = kk1 x0) (hq2 : ∀ x0, k2 x0 = kk2 x0) : ref19_ValidVisits_p19 n a0 a1 w5 h9 k0 k1 k2 = ref19_ValidVisits_p19 n a0 a1 w5 h9 kk0 kk1 kk2 := by
  obtain rfl : k0 = kk0 := hq0
  obtain rfl : k1 = kk1 := funext fun x0 => hq1 x0
  obtain rfl : k2 = kk2 := funext fun x0 => hq2 x0
  rfl
theorem ref19_ValidVisits_p20_congr {R : Type} (n : Nat) (a0 : Int) (a1 : List (List D)) (w5 : Int) {k0 kk0 : Option R} {k1 kk1 : Int → Bool → Option R} (hq0 : k0 = kk0) (hq1 : ∀ x0 x1, k1 x0 x1 = kk1 x0 x1) : ref19_ValidVisits_p20 n a0 a1 w5 k0 k1 = ref19_ValidVisits_p20 n a0 a1 w5 kk0 kk1 := by
  obtain rfl : k0 = kk0 := hq0
  obtain rfl : k1 = kk1 := funext fun x0 => funext fun x1 => hq1 x0 x1
  rfl
theorem ref19_ValidVisits_p21_congr {R : Type} (n : Nat) (a0 : Int) (a1 : List (List D)) (w5 : Int) {k0 kk0 : Option R} {k1 kk1 : Int → Bool → Option R} (hq0 : k0 = kk0) (hq1 : ∀ x0 x1, k1 x0 x1 = kk1 x0 x1) : ref19_ValidVisits_p21 n a0 a1 w5 k0 k1 = ref19_ValidVisits_p21 n a0 a1 w5 kk0 kk1 := by
  obtain rfl : k0 = kk0 := hq0
  obtain rfl : k1 = kk1 := funext fun x0 => funext fun x1 => hq1 x0 x1
  rfl
theorem ref19_ValidVisits_p22_congr {R : Type} (n : Nat) (a0 : Int) (a1 : List (List D)) (w3 : Bool) {k0 kk0 : Option R} {k1 kk1 : Int → Int → Bool → Option R} (hq0 : k0 = kk0) (hq1 : ∀ x0 x1 x2, k1 x0 x1 x2 = kk1 x0 x1 x2) : ref19_ValidVisits_p22 n a0 a1 w3 k0 k1 = ref19_ValidVisits_p22 n a0 a1 w3 kk0 kk1 := by
  obtain rfl : k0 = kk0 := hq0
  obtain rfl : k1 = kk1 := funext fun x0 => funext fun x1 => funext fun x2 => hq1 x0 x1 x2
  rfl
theorem ref19_ValidVisits_p23_congr {R : Type} (n : Nat) (a0 : Int) (a1 : List (List D)) (w194 : Int) (w195 : Int) (w196 : Bool) {k0 kk0 : Option R} (hq0 : k0 = kk0) : ref19_ValidVisits_p23 n a0 a1 w194 w195 w196 k0 = ref19_ValidVisits_p23 n a0 a1 w194 w195 w196 kk0 := by
  obtain rfl : k0 = kk0 := hq0
  rfl
theorem ref19_ValidVisits_p24_congr {R : Type} (n : Nat) (a0 : Int) (a1 : List (List D)) (w3 : Bool) {k0 kk0 : Bool → Option R} (hq0 : ∀ x0, k0 x0 = kk0 x0) : ref19_ValidVisits_p24 n a0 a1 w3 k0 = ref19_ValidVisits_p24 n a0 a1 w3 kk0 := by
  obtain rfl : k0 = kk0 := funext fun x0 => hq0 x0
  rfl
theorem ref19_ValidVisits_p25_congr {R : Type} (n : Nat) (a0 : Int) (a1 : List (List D)) {k0 kk0 : Bool → Option R} (hq0 : ∀ x0, k0 x0 = kk0 x0) : ref19_ValidVisits_p25 n a0 a1 k0 = ref19_ValidVisits_p25 n a0 a1 kk0 := by
  obtain rfl : k0 = kk0 := funext fun x0 => hq0 x0
  rfl
theorem ref19_ValidVisits_p26_congr {R : Type} (n : Nat) (a0 : Int) (a1 : List (List D)) {k0 kk0 : Bool → Option R} (hq0 : ∀ x0, k0 x0 = kk0 x0) : ref19_ValidVisits_p26 n a0 a1 k0 = ref19_ValidVisits_p26 n a0 a1 kk0 := by
  obtain rfl : k0 = kk0 := funext fun x0 => hq0 x0
  rfl
theorem ref19_ValidVisits_p1_eq {R : Type} (n : Nat) (a0 : Int) (a1 : List (List D)) (k : Exit → St → Option R) : vexec (ref19_ValidVisits_C n) n ref19_ValidVisits_c1 ⟨92, [(0, .d (D.int .i64 a0)), (1, .d (D.sl 3 a1))], []⟩ k = ref19_ValidVisits_p1 n a0 a1 (k .normal ⟨92, [(0, .d (D.int .i64 a0)), (1, .d (D.sl 3 a1))], []⟩) := by kernel_rfl
theorem ref19_ValidVisits_p2_eq {R : Type} (n : Nat) (a0 : Int) (a1 : List (List D)) (k : Exit → St → Option R) : vexec (ref19_ValidVisits_C n) n ref19_ValidVisits_c2 ⟨92, [(0, .d (D.int .i64 a0)), (1, .d (D.sl 3 a1))], []⟩ k = ref19_ValidVisits_p2 n a0 a1 (k .ret ⟨92, [(4, .d (D.bool false))], []⟩) (fun z2 => k .normal ⟨92, [(0, .d (D.int .i64 a0)), (1, .d (D.sl 3 a1)), (14, .d (D.bool z2))], []⟩) := by kernel_rfl
theorem ref19_ValidVisits_p3_eq {R : Type} (n : Nat) (a0 : Int) (a1 : List (List D)) (w3 : Bool) (k : Exit → St → Option R) : vexec (ref19_ValidVisits_C n) n ref19_ValidVisits_c3 ⟨92, [(0, .d (D.int .i64 a0)), (1, .d (D.sl 3 a1)), (14, .d (D.bool w3))], []⟩ k = ref19_ValidVisits_p3 n a0 a1 w3 (fun z4 => k .normal ⟨92, [(0, .d (D.int .i64 a0)), (1, .d (D.sl 3 a1)), (16, .d (D.int .i64 z4)), (17, .d (D.int .i64 (0 : Int)))], []⟩) := by kernel_rfl
theorem ref19_ValidVisits_p4_eq {R : Type} (n : Nat) (a0 : Int) (a1 : List (List D)) (w5 : Int) (h9 : Int) (k : Exit → St → Option R) : vexec (ref19_ValidVisits_C n) n ref19_ValidVisits_c4 ⟨92, [(0, .d (D.int .i64 a0)), (1, .d (D.sl 3 a1)), (16, .d (D.int .i64 w5)), (17, .d (D.int .i64 h9))], []⟩ k = ref19_ValidVisits_p4 n a0 a1 w5 h9 (fun z99 => k .normal ⟨92, [(0, .d (D.int .i64 a0)), (1, .d (D.sl 3 a1)), (16, .d (D.int .i64 w5)), (17, .d (D.int .i64 h9)), (18, .d (D.bool z99))], []⟩) := by kernel_rfl
theorem ref19_ValidVisits_p5_eq {R : Type} (n : Nat) (a0 : Int) (a1 : List (List D)) (w5 : Int) (h9 : Int) (w100 : Bool) (k : Exit → St → Option R) : vexec (ref19_ValidVisits_C n) n ref19_ValidVisits_c5 ⟨92, [(0, .d (D.int .i64 a0)), (1, .d (D.sl 3 a1)), (16, .d (D.int .i64 w5)), (17, .d (D.int .i64 h9)), (18, .d (D.bool w100))], []⟩ k = ref19_ValidVisits_p5 n a0 a1 w5 h9 w100 (k .normal ⟨92, [(0, .d (D.int .i64 a0)), (1, .d (D.sl 3 a1)), (16, .d (D.int .i64 w5)), (17, .d (D.int .i64 h9)), (18, .d (D.bool w100))], []⟩) (k (.exit 0) ⟨92, [(0, .d (D.int .i64 a0)), (1, .d (D.sl 3 a1)), (16, .d (D.int .i64 w5)), (17, .d (D.int .i64 h9)), (18, .d (D.bool w100))], []⟩) := by kernel_rfl
theorem ref19_ValidVisits_p6_eq {R : Type} (n : Nat) (a0 : Int) (a1 : List (List D)) (w5 : Int) (h9 : Int) (w100 : Bool) (k : Exit → St → Option R) : vexec (ref19_ValidVisits_C n) n ref19_ValidVisits_c6 ⟨92, [(0, .d (D.int .i64 a0)), (1, .d (D.sl 3 a1)), (16, .d (D.int .i64 w5)), (17, .d (D.int .i64 h9)), (18, .d (D.bool w100))], []⟩ k = ref19_ValidVisits_p6 n a0 a1 w5 h9 w100 (k .normal ⟨92, [(0, .d (D.int .i64 a0)), (1, .d (D.sl 3 a1)), (5, .d (D.int .i64 h9)), (16, .d (D.int .i64 w5)), (17, .d (D.int .i64 h9))], []⟩) := by kernel_rfl
theorem ref19_ValidVisits_p7_eq {R : Type} (n : Nat) (a0 : Int) (a1 : List (List D)) (h9 : Int) (w5 : Int) (k : Exit → St → Option R) : vexec (ref19_ValidVisits_C n) n ref19_ValidVisits_c7 ⟨92, [(0, .d (D.int .i64 a0)), (1, .d (D.sl 3 a1)), (5, .d (D.int .i64 h9)), (16, .d (D.int .i64 w5)), (17, .d (D.int .i64 h9))], []⟩ k = ref19_ValidVisits_p7 n a0 a1 h9 w5 (k .ret ⟨92, [(4, .d (D.bool false))], []⟩) (fun z112 => k .normal ⟨92, [(0, .d (D.int .i64 a0)), (1, .d (D.sl 3 a1)), (5, .d (D.int .i64 h9)), (16, .d (D.int .i64 w5)), (17, .d (D.int .i64 h9)), (47, .d (D.bool z112))], []⟩) := by kernel_rfl
theorem ref19_ValidVisits_p8_eq {R : Type} (n : Nat) (a0 : Int) (a1 : List (List D)) (h9 : Int) (w5 : Int) (w113 : Bool) (k : Exit → St → Option R) : vexec (ref19_ValidVisits_C n) n ref19_ValidVisits_c8 ⟨92, [(0, .d (D.int .i64 a0)), (1, .d (D.sl 3 a1)), (5, .d (D.int .i64 h9)), (16, .d (D.int .i64 w5)), (17, .d (D.int .i64 h9)), (47, .d (D.bool w113))], []⟩ k = ref19_ValidVisits_p8 n a0 a1 h9 w5 w113 (fun z117 => k .normal ⟨92, [(0, .d (D.int .i64 a0)), (1, .d (D.sl 3 a1)), (5, .d (D.int .i64 h9)), (16, .d (D.int .i64 w5)), (17, .d (D.int .i64 h9)), (53, .d (D.int .i64 z117)), (54, .d (D.int .i64 (0 : Int)))], []⟩) := by kernel_rfl
theorem ref19_ValidVisits_p9_eq {R : Type} (n : Nat) (a0 : Int) (a1 : List (List D)) (h9 : Int) (w5 : Int) (w118 : Int) (h125 : Int) (k : Exit → St → Option R) : vexec (ref19_ValidVisits_C n) n ref19_ValidVisits_c9 ⟨92, [(0, .d (D.int .i64 a0)), (1, .d (D.sl 3 a1)), (5, .d (D.int .i64 h9)), (16, .d (D.int .i64 w5)), (17, .d (D.int .i64 h9)), (53, .d (D.int .i64 w118)), (54, .d (D.int .i64 h125))], []⟩ k = ref19_ValidVisits_p9 n a0 a1 h9 w5 w118 h125 (k .ret ⟨92, [(4, .d (D.bool false))], []⟩) (fun z164 => k .normal ⟨92, [(0, .d (D.int .i64 a0)), (1, .d (D.sl 3 a1)), (5, .d (D.int .i64 h9)), (16, .d (D.int .i64 w5)), (17, .d (D.int .i64 h9)), (53, .d (D.int .i64 w118)), (54, .d (D.int .i64 z164))], []⟩) (fun z165 => k (.exit 2) ⟨92, [(0, .d (D.int .i64 a0)), (1, .d (D.sl 3 a1)), (5, .d (D.int .i64 h9)), (16, .d (D.int .i64 w5)), (17, .d (D.int .i64 h9)), (53, .d (D.int .i64 w118)), (54, .d (D.int .i64 h125)), (55, .d (D.bool z165))], []⟩) := by kernel_rfl
theorem ref19_ValidVisits_r10_eq {R : Type} (n : Nat) (a0 : Int) (a1 : List (List D)) (h9 : Int) (w5 : Int) (w118 : Int) (k : Exit → St → Option R) : ∀ (m : Nat) (h125 : Int), loopN (vexec (ref19_ValidVisits_C n) n ref19_ValidVisits_c9) m ⟨92, [(0, .d (D.int .i64 a0)), (1, .d (D.sl 3 a1)), (5, .d (D.int .i64 h9)), (16, .d (D.int .i64 w5)), (17, .d (D.int .i64 h9)), (53, .d (D.int .i64 w118)), (54, .d (D.int .i64 h125))], []⟩ k = ref19_ValidVisits_r10 n a0 a1 h9 w5 w118 (k .ret ⟨92, [(4, .d (D.bool false))], []⟩) (fun h125 w167 => k (.exit 2) ⟨92, [(0, .d (D.int .i64 a0)), (1, .d (D.sl 3 a1)), (5, .d (D.int .i64 h9)), (16, .d (D.int .i64 w5)), (17, .d (D.int .i64 h9)), (53, .d (D.int .i64 w118)), (54, .d (D.int .i64 h125)), (55, .d (D.bool w167))], []⟩) m h125
  | 0, _ => rfl
  | m + 1, h125 => (ref19_ValidVisits_p9_eq n a0 a1 h9 w5 w118 h125 (loopK (vexec (ref19_ValidVisits_C n) n ref19_ValidVisits_c9) m k)).trans (ref19_ValidVisits_p9_congr n a0 a1 h9 w5 w118 h125 (rfl) (fun w166 => ref19_ValidVisits_r10_eq n a0 a1 h9 w5 w118 k m w166) (fun w167 => rfl))
theorem ref19_ValidVisits_p10_eq {R : Type} (n : Nat) (a0 : Int) (a1 : List (List D)) (h9 : Int) (w5 : Int) (w118 : Int) (k : Exit → St → Option R) : vexec (ref19_ValidVisits_C n) n ref19_ValidVisits_c10 ⟨92, [(0, .d (D.int .i64 a0)), (1, .d (D.sl 3 a1)), (5, .d (D.int .i64 h9)), (16, .d (D.int .i64 w5)), (17, .d (D.int .i64 h9)), (53, .d (D.int .i64 w118)), (54, .d (D.int .i64 (0 : Int)))], []⟩ k = ref19_ValidVisits_p10 n a0 a1 h9 w5 w118 (k .ret ⟨92, [(4, .d (D.bool false))], []⟩) (fun h125 w167 => k (.exit 2) ⟨92, [(0, .d (D.int .i64 a0)), (1, .d (D.sl 3 a1)), (5, .d (D.int .i64 h9)), (16, .d (D.int .i64 w5)), (17, .d (D.int .i64 h9)), (53, .d (D.int .i64 w118)), (54, .d (D.int .i64 h125)), (55, .d (D.bool w167))], []⟩) := by
  rw [ref19_ValidVisits_c10_eq]
  exact ref19_ValidVisits_r10_eq n a0 a1 h9 w5 w118 k n (0 : Int)
theorem ref19_ValidVisits_p11_eq {R : Type} (n : Nat) (a0 : Int) (a1 : List (List D)) (h9 : Int) (w5 : Int) (w118 : Int) (k : Exit → St → Option R) : vexec (ref19_ValidVisits_C n) n ref19_ValidVisits_c11 ⟨92, [(0, .d (D.int .i64 a0)), (1, .d (D.sl 3 a1)), (5, .d (D.int .i64 h9)), (16, .d (D.int .i64 w5)), (17, .d (D.int .i64 h9)), (53, .d (D.int .i64 w118)), (54, .d (D.int .i64 (0 : Int)))], []⟩ k = ref19_ValidVisits_p11 n a0 a1 h9 w5 w118 (k .ret ⟨92, [(4, .d (D.bool false))], []⟩) (fun w168 w169 => k .normal ⟨92, [(0, .d (D.int .i64 a0)), (1, .d (D.sl 3 a1)), (5, .d (D.int .i64 h9)), (16, .d (D.int .i64 w5)), (17, .d (D.int .i64 h9)), (53, .d (D.int .i64 w118)), (54, .d (D.int .i64 w168)), (55, .d (D.bool w169))], []⟩) := by
  rw [ref19_ValidVisits_c11_eq]
  unfold ref19_ValidVisits_p11
  exact (ref19_ValidVisits_p10_eq n a0 a1 h9 w5 w118 (blockK 2 k)).trans (ref19_ValidVisits_p10_congr n a0 a1 h9 w5 w118 (rfl) (fun w168 w169 => rfl))
theorem ref19_ValidVisits_p12_eq {R : Type} (n : Nat) (a0 : Int) (a1 : List (List D)) (h9 : Int) (w5 : Int) (w113 : Bool) (k : Exit → St → Option R) : vexec (ref19_ValidVisits_C n) n ref19_ValidVisits_c12 ⟨92, [(0, .d (D.int .i64 a0)), (1, .d (D.sl 3 a1)), (5, .d (D.int .i64 h9)), (16, .d (D.int .i64 w5)), (17, .d (D.int .i64 h9)), (47, .d (D.bool w113))], []⟩ k = ref19_ValidVisits_p12 n a0 a1 h9 w5 w113 (k .ret ⟨92, [(4, .d (D.bool false))], []⟩) (fun w118 w170 w171 => k .normal ⟨92, [(0, .d (D.int .i64 a0)), (1, .d (D.sl 3 a1)), (5, .d (D.int .i64 h9)), (16, .d (D.int .i64 w5)), (17, .d (D.int .i64 h9)), (53, .d (D.int .i64 w118)), (54, .d (D.int .i64 w170)), (55, .d (D.bool w171))], []⟩) := by
  rw [ref19_ValidVisits_c12_eq]
  unfold ref19_ValidVisits_p12
  exact (ref19_ValidVisits_p8_eq n a0 a1 h9 w5 w113 (seqK (ref19_ValidVisits_C n) n ref19_ValidVisits_c11 k)).trans (ref19_ValidVisits_p8_congr n a0 a1 h9 w5 w113 (fun w118 => ref19_ValidVisits_p11_eq n a0 a1 h9 w5 w118 k))
theorem ref19_ValidVisits_p13_eq {R : Type} (n : Nat) (a0 : Int) (a1 : List (List D)) (h9 : Int) (w5 : Int) (k : Exit → St → Option R) : vexec (ref19_ValidVisits_C n) n ref19_ValidVisits_c13 ⟨92, [(0, .d (D.int .i64 a0)), (1, .d (D.sl 3 a1)), (5, .d (D.int .i64 h9)), (16, .d (D.int .i64 w5)), (17, .d (D.int .i64 h9))], []⟩ k = ref19_ValidVisits_p13 n a0 a1 h9 w5 (k .ret ⟨92, [(4, .d (D.bool false))], []⟩) (fun w172 w173 w174 => k .normal ⟨92, [(0, .d (D.int .i64 a0)), (1, .d (D.sl 3 a1)), (5, .d (D.int .i64 h9)), (16, .d (D.int .i64 w5)), (17, .d (D.int .i64 h9)), (53, .d (D.int .i64 w172)), (54, .d (D.int .i64 w173)), (55, .d (D.bool w174))], []⟩) := by
  rw [ref19_ValidVisits_c13_eq]
  unfold ref19_ValidVisits_p13
  exact (ref19_ValidVisits_p7_eq n a0 a1 h9 w5 (seqK (ref19_ValidVisits_C n) n ref19_ValidVisits_c12 k)).trans (ref19_ValidVisits_p7_congr n a0 a1 h9 w5 (rfl) (fun w113 => ref19_ValidVisits_p12_eq n a0 a1 h9 w5 w113 k))
theorem ref19_ValidVisits_p14_eq {R : Type} (n : Nat) (a0 : Int) (a1 : List (List D)) (w5 : Int) (h9 : Int) (w100 : Bool) (k : Exit → St → Option R) : vexec (ref19_ValidVisits_C n) n ref19_ValidVisits_c14 ⟨92, [(0, .d (D.int .i64 a0)), (1, .d (D.sl 3 a1)), (16, .d (D.int .i64 w5)), (17, .d (D.int .i64 h9)), (18, .d (D.bool w100))], []⟩ k = ref19_ValidVisits_p14 n a0 a1 w5 h9 w100 (k .ret ⟨92, [(4, .d (D.bool false))], []⟩) (fun w175 w176 w177 => k .normal ⟨92, [(0, .d (D.int .i64 a0)), (1, .d (D.sl 3 a1)), (5, .d (D.int .i64 h9)), (16, .d (D.int .i64 w5)), (17, .d (D.int .i64 h9)), (53, .d (D.int .i64 w175)), (54, .d (D.int .i64 w176)), (55, .d (D.bool w177))], []⟩) := by
  rw [ref19_ValidVisits_c14_eq]
  unfold ref19_ValidVisits_p14
  exact (ref19_ValidVisits_p6_eq n a0 a1 w5 h9 w100 (seqK (ref19_ValidVisits_C n) n ref19_ValidVisits_c13 k)).trans (ref19_ValidVisits_p6_congr n a0 a1 w5 h9 w100 (ref19_ValidVisits_p13_eq n a0 a1 h9 w5 k))
theorem ref19_ValidVisits_p15_eq {R : Type} (n : Nat) (a0 : Int) (a1 : List (List D)) (w5 : Int) (h9 : Int) (w100 : Bool) (k : Exit → St → Option R) : vexec (ref19_ValidVisits_C n) n ref19_ValidVisits_c15 ⟨92, [(0, .d (D.int .i64 a0)), (1, .d (D.sl 3 a1)), (16, .d (D.int .i64 w5)), (17, .d (D.int .i64 h9)), (18, .d (D.bool w100))], []⟩ k = ref19_ValidVisits_p15 n a0 a1 w5 h9 w100 (k .ret ⟨92, [(4, .d (D.bool false))], []⟩) (fun w178 w179 w180 => k .normal ⟨92, [(0, .d (D.int .i64 a0)), (1, .d (D.sl 3 a1)), (5, .d (D.int .i64 h9)), (16, .d (D.int .i64 w5)), (17, .d (D.int .i64 h9)), (53, .d (D.int .i64 w178)), (54, .d (D.int .i64 w179)), (55, .d (D.bool w180))], []⟩) := by
  rw [ref19_ValidVisits_c15_eq]
  unfold ref19_ValidVisits_p15
  exact (ref19_ValidVisits_p14_eq n a0 a1 w5 h9 w100 (blockK 1 k)).trans (ref19_ValidVisits_p14_congr n a0 a1 w5 h9 w100 (rfl) (fun w178 w179 w180 => rfl))
theorem ref19_ValidVisits_p16_eq {R : Type} (n : Nat) (a0 : Int) (a1 : List (List D)) (h9 : Int) (w5 : Int) (w181 : Int) (w182 : Int) (w183 : Bool) (k : Exit → St → Option R) : vexec (ref19_ValidVisits_C n) n ref19_ValidVisits_c16 ⟨92, [(0, .d (D.int .i64 a0)), (1, .d (D.sl 3 a1)), (5, .d (D.int .i64 h9)), (16, .d (D.int .i64 w5)), (17, .d (D.int .i64 h9)), (53, .d (D.int .i64 w181)), (54, .d (D.int .i64 w182)), (55, .d (D.bool w183))], []⟩ k = ref19_ValidVisits_p16 n a0 a1 h9 w5 w181 w182 w183 (fun z184 => k .normal ⟨92, [(0, .d (D.int .i64 a0)), (1, .d (D.sl 3 a1)), (16, .d (D.int .i64 w5)), (17, .d (D.int .i64 z184))], []⟩) := by kernel_rfl
theorem ref19_ValidVisits_p17_eq {R : Type} (n : Nat) (a0 : Int) (a1 : List (List D)) (w5 : Int) (h9 : Int) (w100 : Bool) (k : Exit → St → Option R) : vexec (ref19_ValidVisits_C n) n ref19_ValidVisits_c17 ⟨92, [(0, .d (D.int .i64 a0)), (1, .d (D.sl 3 a1)), (16, .d (D.int .i64 w5)), (17, .d (D.int .i64 h9)), (18, .d (D.bool w100))], []⟩ k = ref19_ValidVisits_p17 n a0 a1 w5 h9 w100 (k .ret ⟨92, [(4, .d (D.bool false))], []⟩) (fun w185 => k .normal ⟨92, [(0, .d (D.int .i64 a0)), (1, .d (D.sl 3 a1)), (16, .d (D.int .i64 w5)), (17, .d (D.int .i64 w185))], []⟩) := by
  rw [ref19_ValidVisits_c17_eq]
  unfold ref19_ValidVisits_p17
  exact (ref19_ValidVisits_p15_eq n a0 a1 w5 h9 w100 (seqK (ref19_ValidVisits_C n) n ref19_ValidVisits_c16 k)).trans (ref19_ValidVisits_p15_congr n a0 a1 w5 h9 w100 (rfl) (fun w181 w182 w183 => ref19_ValidVisits_p16_eq n a0 a1 h9 w5 w181 w182 w183 k))
theorem ref19_ValidVisits_p18_eq {R : Type} (n : Nat) (a0 : Int) (a1 : List (List D)) (w5 : Int) (h9 : Int) (w100 : Bool) (k : Exit → St → Option R) : vexec (ref19_ValidVisits_C n) n ref19_ValidVisits_c18 ⟨92, [(0, .d (D.int .i64 a0)), (1, .d (D.sl 3 a1)), (16, .d (D.int .i64 w5)), (17, .d (D.int .i64 h9)), (18, .d (D.bool w100))], []⟩ k = ref19_ValidVisits_p18 n a0 a1 w5 h9 w100 (k .ret ⟨92, [(4, .d (D.bool false))], []⟩) (fun w186 => k .normal ⟨92, [(0, .d (D.int .i64 a0)), (1, .d (D.sl 3 a1)), (16, .d (D.int .i64 w5)), (17, .d (D.int .i64 w186))], []⟩) (k (.exit 0) ⟨92, [(0, .d (D.int .i64 a0)), (1, .d (D.sl 3 a1)), (16, .d (D.int .i64 w5)), (17, .d (D.int .i64 h9)), (18, .d (D.bool w100))], []⟩) := by
  rw [ref19_ValidVisits_c18_eq]
  unfold ref19_ValidVisits_p18
  exact (ref19_ValidVisits_p5_eq n a0 a1 w5 h9 w100 (seqK (ref19_ValidVisits_C n) n ref19_ValidVisits_c17 k)).trans (ref19_ValidVisits_p5_congr n a0 a1 w5 h9 w100 (ref19_ValidVisits_p17_eq n a0 a1 w5 h9 w100 k) (rfl))
theorem ref19_ValidVisits_p19_eq {R : Type} (n : Nat) (a0 : Int) (a1 : List (List D)) (w5 : Int) (h9 : Int) (k : Exit → St → Option R) : vexec (ref19_ValidVisits_C n) n ref19_ValidVisits_c19 ⟨92, [(0, .d (D.int .i64 a0)), (1, .d (D.sl 3 a1)), (16, .d (D.int .i64 w5)), (17, .d (D.int .i64 h9))], []⟩ k = ref19_ValidVisits_p19 n a0 a1 w5 h9 (k .ret ⟨92, [(4, .d (D.bool false))], []⟩) (fun w187 => k .normal ⟨92, [(0, .d (D.int .i64 a0)), (1, .d (D.sl 3 a1)), (16, .d (D.int .i64 w5)), (17, .d (D.int .i64 w187))], []⟩) (fun w100 => k (.exit 0) ⟨92, [(0, .d (D.int .i64 a0)), (1, .d (D.sl 3 a1)), (16, .d (D.int .i64 w5)), (17, .d (D.int .i64 h9)), (18, .d (D.bool w100))], []⟩) := by
  rw [ref19_ValidVisits_c19_eq]
  unfold ref19_ValidVisits_p19
  exact (ref19_ValidVisits_p4_eq n a0 a1 w5 h9 (seqK (ref19_ValidVisits_C n) n ref19_ValidVisits_c18 k)).trans (ref19_ValidVisits_p4_congr n a0 a1 w5 h9 (fun w100 => ref19_ValidVisits_p18_eq n a0 a1 w5 h9 w100 k))
theorem ref19_ValidVisits_r20_eq {R : Type} (n : Nat) (a0 : Int) (a1 : List (List D)) (w5 : Int) (k : Exit → St → Option R) : ∀ (m : Nat) (h9 : Int), loopN (vexec (ref19_ValidVisits_C n) n ref19_ValidVisits_c19) m ⟨92, [(0, .d (D.int .i64 a0)), (1, .d (D.sl 3 a1)), (16, .d (D.int .i64 w5)), (17, .d (D.int .i64 h9))], []⟩ k = ref19_ValidVisits_r20 n a0 a1 w5 (k .ret ⟨92, [(4, .d (D.bool false))], []⟩) (fun h9 w189 => k (.exit 0) ⟨92, [(0, .d (D.int .i64 a0)), (1, .d (D.sl 3 a1)), (16, .d (D.int .i64 w5)), (17, .d (D.int .i64 h9)), (18, .d (D.bool w189))], []⟩) m h9
  | 0, _ => rfl
  | m + 1, h9 => (ref19_ValidVisits_p19_eq n a0 a1 w5 h9 (loopK (vexec (ref19_ValidVisits_C n) n ref19_ValidVisits_c19) m k)).trans (ref19_ValidVisits_p19_congr n a0 a1 w5 h9 (rfl) (fun w188 => ref19_ValidVisits_r20_eq n a0 a1 w5 k m w188) (fun w189 => rfl))
theorem ref19_ValidVisits_p20_eq {R : Type} (n : Nat) (a0 : Int) (a1 : List (List D)) (w5 : Int) (k : Exit → St → Option R) : vexec (ref19_ValidVisits_C n) n ref19_ValidVisits_c20 ⟨92, [(0, .d (D.int .i64 a0)), (1, .d (D.sl 3 a1)), (16, .d (D.int .i64 w5)), (17, .d (D.int .i64 (0 : Int)))], []⟩ k = ref19_ValidVisits_p20 n a0 a1 w5 (k .ret ⟨92, [(4, .d (D.bool false))], []⟩) (fun h9 w189 => k (.exit 0) ⟨92, [(0, .d (D.int .i64 a0)), (1, .d (D.sl 3 a1)), (16, .d (D.int .i64 w5)), (17, .d (D.int .i64 h9)), (18, .d (D.bool w189))], []⟩) := by
  rw [ref19_ValidVisits_c20_eq]
  exact ref19_ValidVisits_r20_eq n a0 a1 w5 k n (0 : Int)
theorem ref19_ValidVisits_p21_eq {R : Type} (n : Nat) (a0 : Int) (a1 : List (List D)) (w5 : Int) (k : Exit → St → Option R) : vexec (ref19_ValidVisits_C n) n ref19_ValidVisits_c21 ⟨92, [(0, .d (D.int .i64 a0)), (1, .d (D.sl 3 a1)), (16, .d (D.int .i64 w5)), (17, .d (D.int .i64 (0 : Int)))], []⟩ k = ref19_ValidVisits_p21 n a0 a1 w5 (k .ret ⟨92, [(4, .d (D.bool false))], []⟩) (fun w190 w191 => k .normal ⟨92, [(0, .d (D.int .i64 a0)), (1, .d (D.sl 3 a1)), (16, .d (D.int .i64 w5)), (17, .d (D.int .i64 w190)), (18, .d (D.bool w191))], []⟩) := by
  rw [ref19_ValidVisits_c21_eq]
  unfold ref19_ValidVisits_p21
  exact (ref19_ValidVisits_p20_eq n a0 a1 w5 (blockK 0 k)).trans (ref19_ValidVisits_p20_congr n a0 a1 w5 (rfl) (fun w190 w191 => rfl))
theorem ref19_ValidVisits_p22_eq {R : Type} (n : Nat) (a0 : Int) (a1 : List (List D)) (w3 : Bool) (k : Exit → St → Option R) : vexec (ref19_ValidVisits_C n) n ref19_ValidVisits_c22 ⟨92, [(0, .d (D.int .i64 a0)), (1, .d (D.sl 3 a1)), (14, .d (D.bool w3))], []⟩ k = ref19_ValidVisits_p22 n a0 a1 w3 (k .ret ⟨92, [(4, .d (D.bool false))], []⟩) (fun w5 w192 w193 => k .normal ⟨92, [(0, .d (D.int .i64 a0)), (1, .d (D.sl 3 a1)), (16, .d (D.int .i64 w5)), (17, .d (D.int .i64 w192)), (18, .d (D.bool w193))], []⟩) := by
  rw [ref19_ValidVisits_c22_eq]
  unfold ref19_ValidVisits_p22
  exact (ref19_ValidVisits_p3_eq n a0 a1 w3 (seqK (ref19_ValidVisits_C n) n ref19_ValidVisits_c21 k)).trans (ref19_ValidVisits_p3_congr n a0 a1 w3 (fun w5 => ref19_ValidVisits_p21_eq n a0 a1 w5 k))
theorem ref19_ValidVisits_p23_eq {R : Type} (n : Nat) (a0 : Int) (a1 : List (List D)) (w194 : Int) (w195 : Int) (w196 : Bool) (k : Exit → St → Option R) : vexec (ref19_ValidVisits_C n) n ref19_ValidVisits_c23 ⟨92, [(0, .d (D.int .i64 a0)), (1, .d (D.sl 3 a1)), (16, .d (D.int .i64 w194)), (17, .d (D.int .i64 w195)), (18, .d (D.bool w196))], []⟩ k = ref19_ValidVisits_p23 n a0 a1 w194 w195 w196 (k .ret ⟨92, [(4, .d (D.bool true))], []⟩) := by kernel_rfl
theorem ref19_ValidVisits_p24_eq {R : Type} (n : Nat) (a0 : Int) (a1 : List (List D)) (w3 : Bool) (k : Exit → St → Option R) : vexec (ref19_ValidVisits_C n) n ref19_ValidVisits_c24 ⟨92, [(0, .d (D.int .i64 a0)), (1, .d (D.sl 3 a1)), (14, .d (D.bool w3))], []⟩ k = ref19_ValidVisits_p24 n a0 a1 w3 (fun z197 => k .ret ⟨92, [(4, .d (D.bool z197))], []⟩) := by
  rw [ref19_ValidVisits_c24_eq]
  unfold ref19_ValidVisits_p24
  exact (ref19_ValidVisits_p22_eq n a0 a1 w3 (seqK (ref19_ValidVisits_C n) n ref19_ValidVisits_c23 k)).trans (ref19_ValidVisits_p22_congr n a0 a1 w3 (rfl) (fun w194 w195 w196 => ref19_ValidVisits_p23_eq n a0 a1 w194 w195 w196 k))
theorem ref19_ValidVisits_p25_eq {R : Type} (n : Nat) (a0 : Int) (a1 : List (List D)) (k : Exit → St → Option R) : vexec (ref19_ValidVisits_C n) n ref19_ValidVisits_c25 ⟨92, [(0, .d (D.int .i64 a0)), (1, .d (D.sl 3 a1))], []⟩ k = ref19_ValidVisits_p25 n a0 a1 (fun z199 => k .ret ⟨92, [(4, .d (D.bool z199))], []⟩) := by
  rw [ref19_ValidVisits_c25_eq]
  unfold ref19_ValidVisits_p25
  exact (ref19_ValidVisits_p2_eq n a0 a1 (seqK (ref19_ValidVisits_C n) n ref19_ValidVisits_c24 k)).trans (ref19_ValidVisits_p2_congr n a0 a1 (rfl) (fun w3 => ref19_ValidVisits_p24_eq n a0 a1 w3 k))
theorem ref19_ValidVisits_p26_eq {R : Type} (n : Nat) (a0 : Int) (a1 : List (List D)) (k : Exit → St → Option R) : vexec (ref19_ValidVisits_C n) n ref19_ValidVisits_c0 ⟨92, [(0, .d (D.int .i64 a0)), (1, .d (D.sl 3 a1))], []⟩ k = ref19_ValidVisits_p26 n a0 a1 (fun w200 => k .ret ⟨92, [(4, .d (D.bool w200))], []⟩) := by
  rw [ref19_ValidVisits_c0_eq]
  unfold ref19_ValidVisits_p26
  exact (ref19_ValidVisits_p1_eq n a0 a1 (seqK (ref19_ValidVisits_C n) n ref19_ValidVisits_c25 k)).trans (ref19_ValidVisits_p1_congr n a0 a1 (ref19_ValidVisits_p25_eq n a0 a1 k))
theorem ref19_ValidVisits_vfn {R : Type} (n : Nat) (a0 : Int) (a1 : List (List D)) (K : AV → Option R) : vfn (ref19_ValidVisits_C n) n Try.f33 [.d (D.int .i64 a0), .d (D.sl 3 a1)] [] (retF [[0]] K) = ref19_ValidVisits n a0 a1 (fun r0 => K (.d (D.bool r0))) :=
  (show vfn (ref19_ValidVisits_C n) n Try.f33 [.d (D.int .i64 a0), .d (D.sl 3 a1)] [] (retF [[0]] K) = vexec (ref19_ValidVisits_C n) n ref19_ValidVisits_c0 ⟨92, [(0, .d (D.int .i64 a0)), (1, .d (D.sl 3 a1))], []⟩ (retX ref19_ValidVisits_tt [.tmp 4] (retF [[0]] K)) from vfn_at (by kernel_rfl) (by kernel_rfl) rfl (by kernel_rfl) rfl (by kernel_rfl) rfl).trans ((ref19_ValidVisits_p26_eq n a0 a1 (retX ref19_ValidVisits_tt [.tmp 4] (retF [[0]] K))).trans (by kernel_rfl))
def ref19_ValidVisits_K : AV → Option (Bool) := fun av => match av with
  | .d (D.bool r0) => some r0
  | _ => none
def ref19_ValidVisits_e (n : Nat) : Entry := fun _ _ g avs _ k => match avs with
  | [c0, c1] => prI g .i64 c0 fun a0 => prS g 3 c1 fun a1 => 
    gb g (ref19_ValidVisits n a0 a1 some) false fun r => k ⟨.d (D.bool r), [], []⟩
  | _ => none
theorem ref19_ValidVisits_ok (n : Nat) : EntryOK Try.prog 33 (ref19_ValidVisits_e n) := by
  intro R site g avs hl k r h
  unfold ref19_ValidVisits_e at h
  split at h
  rotate_left
  · cases h
  replace h := prI_some h
  obtain ⟨a0, h, le0⟩ := h
  replace h := prS_some h
  obtain ⟨a1, h, le1⟩ := h
  replace h := gb_some h
  obtain ⟨res, h, hr⟩ := h
  refine ⟨_, h, fun hg => CallOK.conv (avs' := [.d (D.int .i64 a0), .d (D.sl 3 a1)]) (.cons (le0 hg) (.cons (le1 hg) (.nil))) (callOK_fix (K := ref19_ValidVisits_K) (res := res) (ref19_ValidVisits_VC n) (fn := Try.f33) (n := n) (by kernel_rfl) (by kernel_rfl) (by kernel_rfl) (ss := [[0]]) rfl ?_ ?_)⟩
  · exact (ref19_ValidVisits_vfn n a0 a1 ref19_ValidVisits_K).trans (hr hg)
  · intro x hx
    unfold ref19_ValidVisits_K at hx
    split at hx
    · injection hx with hx; subst hx; rfl
    · cases hx
end Go.Vx
/-
  ref19_member: the interpreter computes the pure function
-/
set_option linter.unusedVariables false
set_option linter.unusedSimpArgs false
set_option maxRecDepth 100000
namespace Go.Vx
open Go.Proofs
noncomputable def ref19_member_c0 : Code := bodyOf Try.f34
noncomputable def ref19_member_c1 : Code := cL (bodyOf Try.f34)
noncomputable def ref19_member_c2 : Code := cL (cL (cR (bodyOf Try.f34)))
noncomputable def ref19_member_c3 : Code := cB (cB (cR (cL (cR (bodyOf Try.f34)))))
noncomputable def ref19_member_c4 : Code := cB (cR (cL (cR (bodyOf Try.f34))))
noncomputable def ref19_member_c5 : Code := cR (cL (cR (bodyOf Try.f34)))
noncomputable def ref19_member_c6 : Code := cL (cR (bodyOf Try.f34))
noncomputable def ref19_member_c7 : Code := cR (cR (bodyOf Try.f34))
noncomputable def ref19_member_c8 : Code := cR (bodyOf Try.f34)
theorem ref19_member_c4_eq : ref19_member_c4 = .loop ref19_member_c3 := by kernel_rfl
theorem ref19_member_c5_eq : ref19_member_c5 = .block 0 ref19_member_c4 := by kernel_rfl
theorem ref19_member_c6_eq : ref19_member_c6 = .seq ref19_member_c2 ref19_member_c5 := by kernel_rfl
theorem ref19_member_c8_eq : ref19_member_c8 = .seq ref19_member_c6 ref19_member_c7 := by kernel_rfl
theorem ref19_member_c0_eq : ref19_member_c0 = .seq ref19_member_c1 ref19_member_c8 := by kernel_rfl
def ref19_member_tt : TT := [(3, ⟨.int .i64, 1, 8, [.int .i64 0], [.int .i64 0], [], none⟩), (22, ⟨.sl 3 1, 1, 24, [.slice none 0 0], [.sl 1 []], [], none⟩)]
theorem ref19_member_tt_eq : mkTT Try.prog [3, 22] = ref19_member_tt := by kernel_rfl
def ref19_member_cfg : List (Nat × Cfg) := [(0, ⟨[0, 1], [], [], [], []⟩), (1, ⟨[0, 1, 7, 8], [], [], [], []⟩), (2, ⟨[0, 1, 7, 8, 9], [], [], [], []⟩), (3, ⟨[0, 1, 5, 7, 8], [], [], [], []⟩), (4, ⟨[0, 1, 7, 8, 16], [], [], [], []⟩), (5, ⟨[4], [], [], [], []⟩), (6, ⟨[0, 1, 7, 8], [], [], [], []⟩), (7, ⟨[4], [], [], [], []⟩)]
def ref19_member_C (n : Nat) : VC := ⟨specOf [], ref19_member_tt, ref19_member_cfg⟩
theorem ref19_member_ents (n : Nat) : EntsOK Try.prog [] := trivial
theorem ref19_member_VC (n : Nat) : VCOk Try.prog (ref19_member_C n) := ⟨specOf_ok (ref19_member_ents n), (ref19_member_tt_eq ▸ mkTT_ok _ : TOk Try.prog ref19_member_tt), by kernel_rfl⟩
theorem ref19_member_p1_congr {R : Type} (n : Nat) (a0 : List (List D)) (a1 : Int) {k0 kk0 : Option R} (hq0 : k0 = kk0) : ref19_member_p1 n a0 a1 k0 = ref19_member_p1 n a0 a1 kk0 := by
  obtain rfl : k0 = kk0 := hq0
  rfl
theorem ref19_member_p2_congr {R : Type} (n : Nat) (a0 : List (List D)) (a1 : Int) {k0 kk0 : Int → Option R} (hq0 : ∀ x0, k0 x0 = kk0 x0) : ref19_member_p2 n a0 a1 k0 = ref19_member_p2 n a0 a1 kk0 := by
  obtain rfl : k0 = kk0 := funext fun x0 => hq0 x0
  rfl
theorem ref19_member_p3_congr {R : Type} (n : Nat) (a0 : List (List D)) (a1 : Int) (w2 : Int) (h6 : Int) {k0 kk0 : Option R} {k1 kk1 : Int → Option R} {k2 kk2 : Bool → Option R} (hq0 : k0 = kk0) (hq1 : ∀ x0, k1 x0 = kk1 x0) (hq2 : ∀ x0, k2 x0 = kk2 x0) : ref19_member_p3 n a0 a1 w2 h6 k0 k1 k2 = ref19_member_p3 n a0 a1 w2 h6 kk0 kk1 kk2 := by
  obtain rfl : k0 = kk0 := hq0
  obtain rfl : k1 = kk1 := funext fun x0 => hq1 x0
  obtain rfl : k2 = kk2 := funext fun x0 => hq2 x0
  rfl
theorem ref19_member_p4_congr {R : Type} (n : Nat) (a0 : List (List D)) (a1 : Int) (w2 : Int) {k0 kk0 : Option R} {k1 kk1 : Int → Bool → Option R} (hq0 : k0 = kk0) (hq1 : ∀ x0 x1, k1 x0 x1 = kk1 x0 x1) : ref19_member_p4 n a0 a1 w2 k0 k1 = ref19_member_p4 n a0 a1 w2 kk0 kk1 := by
  obtain rfl : k0 = kk0 := hq0
  obtain rfl : k1 = kk1 := funext fun x0 => funext fun x1 => hq1 x0 x1
  rfl
theorem ref19_member_p5_congr {R : Type} (n : Nat) (a0 : List (List D)) (a1 : Int) (w2 : Int) {k0 kk0 : Option R} {k1 kk1 : Int → Bool → Option R} (hq0 : k0 = kk0) (hq1 : ∀ x0 x1, k1 x0 x1 = kk1 x0 x1) : ref19_member_p5 n a0 a1 w2 k0 k1 = ref19_member_p5 n a0 a1 w2 kk0 kk1 := by
  obtain rfl : k0 = kk0 := hq0
  obtain rfl : k1 = kk1 := funext fun x0 => funext fun x1 => hq1 x0 x1
  rfl
theorem ref19_member_p6_congr {R : Type} (n : Nat) (a0 : List (List D)) (a1 : Int) {k0 kk0 : Option R} {k1 kk1 : Int → Int → Bool → Option R} (hq0 : k0 = kk0) (hq1 : ∀ x0 x1 x2, k1 x0 x1 x2 = kk1 x0 x1 x2) : ref19_member_p6 n a0 a1 k0 k1 = ref19_member_p6 n a0 a1 kk0 kk1 := by
  obtain rfl : k0 = kk0 := hq0
  obtain rfl : k1 = kk1 := funext fun x0 => funext fun x1 => funext fun x2 => hq1 x0 x1 x2
  rfl
theorem ref19_member_p7_congr {R : Type} (n : Nat) (a0 : List (List D)) (a1 : Int) (w23 : Int) (w24 : Int) (w25 : Bool) {k0 kk0 : Option R} (hq0 : k0 = kk0) : ref19_member_p7 n a0 a1 w23 w24 w25 k0 = ref19_member_p7 n a0 a1 w23 w24 w25 kk0 := by
  obtain rfl : k0 = kk0 := hq0
  rfl
theorem ref19_member_p8_congr {R : Type} (n : Nat) (a0 : List (List D)) (a1 : Int) {k0 kk0 : Bool → Option R} (hq0 : ∀ x0, k0 x0 = kk0 x0) : ref19_member_p8 n a0 a1 k0 = ref19_member_p8 n a0 a1 kk0 := by
  obtain rfl : k0 = kk0 := funext fun x0 => hq0 x0
  rfl
theorem ref19_member_p9_congr {R : Type} (n : Nat) (a0 : List (List D)) (a1 : Int) {k0 kk0 : Bool → Option R} (hq0 : ∀ x0, k0 x0 = kk0 x0) : ref19_member_p9 n a0 a1 k0 = ref19_member_p9 n a0 a1 kk0 := by
  obtain rfl : k0 = kk0 := funext fun x0 => hq0 x0
  rfl
theorem ref19_member_p1_eq {R : Type} (n : Nat) (a0 : List (List D)) (a1 : Int) (k : Exit → St → Option R) : vexec (ref19_member_C n) n ref19_member_c1 ⟨18, [(0, .d (D.sl 1 a0)), (1, .d (D.int .i64 a1))], []⟩ k = ref19_member_p1 n a0 a1 (k .normal ⟨18, [(0, .d (D.sl 1 a0)), (1, .d (D.int .i64 a1))], []⟩) := by kernel_rfl
theorem ref19_member_p2_eq {R : Type} (n : Nat) (a0 : List (List D)) (a1 : Int) (k : Exit → St → Option R) : vexec (ref19_member_C n) n ref19_member_c2 ⟨18, [(0, .d (D.sl 1 a0)), (1, .d (D.int .i64 a1))], []⟩ k = ref19_member_p2 n a0 a1 (fun z1 => k .normal ⟨18, [(0, .d (D.sl 1 a0)), (1, .d (D.int .i64 a1)), (7, .d (D.int .i64 z1)), (8, .d (D.int .i64 (0 : Int)))], []⟩) := by kernel_rfl
theorem ref19_member_p3_eq {R : Type} (n : Nat) (a0 : List (List D)) (a1 : Int) (w2 : Int) (h6 : Int) (k : Exit → St → Option R) : vexec (ref19_member_C n) n ref19_member_c3 ⟨18, [(0, .d (D.sl 1 a0)), (1, .d (D.int .i64 a1)), (7, .d (D.int .i64 w2)), (8, .d (D.int .i64 h6))], []⟩ k = ref19_member_p3 n a0 a1 w2 h6 (k .ret ⟨18, [(4, .d (D.bool true))], []⟩) (fun z15 => k .normal ⟨18, [(0, .d (D.sl 1 a0)), (1, .d (D.int .i64 a1)), (7, .d (D.int .i64 w2)), (8, .d (D.int .i64 z15))], []⟩) (fun z16 => k (.exit 0) ⟨18, [(0, .d (D.sl 1 a0)), (1, .d (D.int .i64 a1)), (7, .d (D.int .i64 w2)), (8, .d (D.int .i64 h6)), (9, .d (D.bool z16))], []⟩) := by kernel_rfl
theorem ref19_member_r4_eq {R : Type} (n : Nat) (a0 : List (List D)) (a1 : Int) (w2 : Int) (k : Exit → St → Option R) : ∀ (m : Nat) (h6 : Int), loopN (vexec (ref19_member_C n) n ref19_member_c3) m ⟨18, [(0, .d (D.sl 1 a0)), (1, .d (D.int .i64 a1)), (7, .d (D.int .i64 w2)), (8, .d (D.int .i64 h6))], []⟩ k = ref19_member_r4 n a0 a1 w2 (k .ret ⟨18, [(4, .d (D.bool true))], []⟩) (fun h6 w18 => k (.exit 0) ⟨18, [(0, .d (D.sl 1 a0)), (1, .d (D.int .i64 a1)), (7, .d (D.int .i64 w2)), (8, .d (D.int .i64 h6)), (9, .d (D.bool w18))], []⟩) m h6
  | 0, _ => rfl
  | m + 1, h6 => (ref19_member_p3_eq n a0 a1 w2 h6 (loopK (vexec (ref19_member_C n) n ref19_member_c3) m k)).trans (ref19_member_p3_congr n a0 a1 w2 h6 (rfl) (fun w17 => ref19_member_r4_eq n a0 a1 w2 k m w17) (fun w18 => rfl))
theorem ref19_member_p4_eq {R : Type} (n : Nat) (a0 : List (List D)) (a1 : Int) (w2 : Int) (k : Exit → St → Option R) : vexec (ref19_member_C n) n ref19_member_c4 ⟨18, [(0, .d (D.sl 1 a0)), (1, .d (D.int .i64 a1)), (7, .d (D.int .i64 w2)), (8, .d (D.int .i64 (0 : Int)))], []⟩ k = ref19_member_p4 n a0 a1 w2 (k .ret ⟨18, [(4, .d (D.bool true))], []⟩) (fun h6 w18 => k (.exit 0) ⟨18, [(0, .d (D.sl 1 a0)), (1, .d (D.int .i64 a1)), (7, .d (D.int .i64 w2)), (8, .d (D.int .i64 h6)), (9, .d (D.bool w18))], []⟩) := by
  rw [ref19_member_c4_eq]
  exact ref19_member_r4_eq n a0 a1 w2 k n (0 : Int)
theorem ref19_member_p5_eq {R : Type} (n : Nat) (a0 : List (List D)) (a1 : Int) (w2 : Int) (k : Exit → St → Option R) : vexec (ref19_member_C n) n ref19_member_c5 ⟨18, [(0, .d (D.sl 1 a0)), (1, .d (D.int .i64 a1)), (7, .d (D.int .i64 w2)), (8, .d (D.int .i64 (0 : Int)))], []⟩ k = ref19_member_p5 n a0 a1 w2 (k .ret ⟨18, [(4, .d (D.bool true))], []⟩) (fun w19 w20 => k .normal ⟨18, [(0, .d (D.sl 1 a0)), (1, .d (D.int .i64 a1)), (7, .d (D.int .i64 w2)), (8, .d (D.int .i64 w19)), (9, .d (D.bool w20))], []⟩) := by
  rw [ref19_member_c5_eq]
  unfold ref19_member_p5
  exact (ref19_member_p4_eq n a0 a1 w2 (blockK 0 k)).trans (ref19_member_p4_congr n a0 a1 w2 (rfl) (fun w19 w20 => rfl))
theorem ref19_member_p6_eq {R : Type} (n : Nat) (a0 : List (List D)) (a1 : Int) (k : Exit → St → Option R) : vexec (ref19_member_C n) n ref19_member_c6 ⟨18, [(0, .d (D.sl 1 a0)), (1, .d (D.int .i64 a1))], []⟩ k = ref19_member_p6 n a0 a1 (k .ret ⟨18, [(4, .d (D.bool true))], []⟩) (fun w2 w21 w22 => k .normal ⟨18, [(0, .d (D.sl 1 a0)), (1, .d (D.int .i64 a1)), (7, .d (D.int .i64 w2)), (8, .d (D.int .i64 w21)), (9, .d (D.bool w22))], []⟩) := by
  rw [ref19_member_c6_eq]
  unfold ref19_member_p6
  exact (ref19_member_p2_eq n a0 a1 (seqK (ref19_member_C n) n ref19_member_c5 k)).trans (ref19_member_p2_congr n a0 a1 (fun w2 => ref19_member_p5_eq n a0 a1 w2 k))
theorem ref19_member_p7_eq {R : Type} (n : Nat) (a0 : List (List D)) (a1 : Int) (w23 : Int) (w24 : Int) (w25 : Bool) (k : Exit → St → Option R) : vexec (ref19_member_C n) n ref19_member_c7 ⟨18, [(0, .d (D.sl 1 a0)), (1, .d (D.int .i64 a1)), (7, .d (D.int .i64 w23)), (8, .d (D.int .i64 w24)), (9, .d (D.bool w25))], []⟩ k = ref19_member_p7 n a0 a1 w23 w24 w25 (k .ret ⟨18, [(4, .d (D.bool false))], []⟩) := by kernel_rfl
theorem ref19_member_p8_eq {R : Type} (n : Nat) (a0 : List (List D)) (a1 : Int) (k : Exit → St → Option R) : vexec (ref19_member_C n) n ref19_member_c8 ⟨18, [(0, .d (D.sl 1 a0)), (1, .d (D.int .i64 a1))], []⟩ k = ref19_member_p8 n a0 a1 (fun z26 => k .ret ⟨18, [(4, .d (D.bool z26))], []⟩) := by
  rw [ref19_member_c8_eq]
  unfold ref19_member_p8
  exact (ref19_member_p6_eq n a0 a1 (seqK (ref19_member_C n) n ref19_member_c7 k)).trans (ref19_member_p6_congr n a0 a1 (rfl) (fun w23 w24 w25 => ref19_member_p7_eq n a0 a1 w23 w24 w25 k))
theorem ref19_member_p9_eq {R : Type} (n : Nat) (a0 : List (List D)) (a1 : Int) (k : Exit → St → Option R) : vexec (ref19_member_C n) n ref19_member_c0 ⟨18, [(0, .d (D.sl 1 a0)), (1, .d (D.int .i64 a1))], []⟩ k = ref19_member_p9 n a0 a1 (fun w27 => k .ret ⟨18, [(4, .d (D.bool w27))], []⟩) := by
  rw [ref19_member_c0_eq]
  unfold ref19_member_p9
  exact (ref19_member_p1_eq n a0 a1 (seqK (ref19_member_C n) n ref19_member_c8 k)).trans (ref19_member_p1_congr n a0 a1 (ref19_member_p8_eq n a0 a1 k))
theorem ref19_member_vfn {R : Type} (n : Nat) (a0 : List (List D)) (a1 : Int) (K : AV → Option R) : vfn (ref19_member_C n) n Try.f34 [.d (D.sl 1 a0), .d (D.int .i64 a1)] [] (retF [[0]] K) = ref19_member n a0 a1 (fun r0 => K (.d (D.bool r0))) :=
  (show vfn (ref19_member_C n) n Try.f34 [.d (D.sl 1 a0), .d (D.int .i64 a1)] [] (retF [[0]] K) = vexec (ref19_member_C n) n ref19_member_c0 ⟨18, [(0, .d (D.sl 1 a0)), (1, .d (D.int .i64 a1))], []⟩ (retX ref19_member_tt [.tmp 4] (retF [[0]] K)) from vfn_at (by kernel_rfl) (by kernel_rfl) rfl (by kernel_rfl) rfl (by kernel_rfl) rfl).trans ((ref19_member_p9_eq n a0 a1 (retX ref19_member_tt [.tmp 4] (retF [[0]] K))).trans (by kernel_rfl))
def ref19_member_K : AV → Option (Bool) := fun av => match av with
  | .d (D.bool r0) => some r0
  | _ => none
def ref19_member_e (n : Nat) : Entry := fun _ _ g avs _ k => match avs with
  | [c0, c1] => prS g 1 c0 fun a0 => prI g .i64 c1 fun a1 => 
    gb g (ref19_member n a0 a1 some) false fun r => k ⟨.d (D.bool r), [], []⟩
  | _ => none
theorem ref19_member_ok (n : Nat) : EntryOK Try.prog 34 (ref19_member_e n) := by
  intro R site g avs hl k r h
  unfold ref19_member_e at h
  split at h
  rotate_left
  · cases h
  replace h := prS_some h
  obtain ⟨a0, h, le0⟩ := h
  replace h := prI_some h
  obtain ⟨a1, h, le1⟩ := h
  replace h := gb_some h
  obtain ⟨res, h, hr⟩ := h
  refine ⟨_, h, fun hg => CallOK.conv (avs' := [.d (D.sl 1 a0), .d (D.int .i64 a1)]) (.cons (le0 hg) (.cons (le1 hg) (.nil))) (callOK_fix (K := ref19_member_K) (res := res) (ref19_member_VC n) (fn := Try.f34) (n := n) (by kernel_rfl) (by kernel_rfl) (by kernel_rfl) (ss := [[0]]) rfl ?_ ?_)⟩
  · exact (ref19_member_vfn n a0 a1 ref19_member_K).trans (hr hg)
  · intro x hx
    unfold ref19_member_K at hx
    split at hx
    · injection hx with hx; subst hx; rfl
    · cases hx
end Go.Vx
/-
  ref1_Mod: the interpreter computes the pure function
-/
set_option linter.unusedVariables false
set_option linter.unusedSimpArgs false
set_option maxRecDepth 100000
namespace Go.Vx
open Go.Proofs
noncomputable def ref1_Mod_c0 : Code := bodyOf Try.f13
def ref1_Mod_tt : TT := [(3, ⟨.int .i64, 1, 8, [.int .i64 0], [.int .i64 0], [], none⟩)]
theorem ref1_Mod_tt_eq : mkTT Try.prog [3] = ref1_Mod_tt := by kernel_rfl
def ref1_Mod_cfg : List (Nat × Cfg) := [(0, ⟨[0, 1], [], [], [], []⟩), (1, ⟨[0, 1, 7], [], [], [], []⟩), (2, ⟨[4], [], [], [], []⟩), (3, ⟨[1, 5], [], [], [], []⟩), (4, ⟨[1, 5, 12], [], [], [], []⟩), (5, ⟨[5], [], [], [], []⟩), (6, ⟨[4], [], [], [], []⟩)]
def ref1_Mod_C (n : Nat) : VC := ⟨specOf [], ref1_Mod_tt, ref1_Mod_cfg⟩
theorem ref1_Mod_ents (n : Nat) : EntsOK Try.prog [] := trivial
theorem ref1_Mod_VC (n : Nat) : VCOk Try.prog (ref1_Mod_C n) := ⟨specOf_ok (ref1_Mod_ents n), (ref1_Mod_tt_eq ▸ mkTT_ok _ : TOk Try.prog ref1_Mod_tt), by kernel_rfl⟩
theorem ref1_Mod_p1_congr {R : Type} (n : Nat) (a0 : Int) (a1 : Int) {k0 kk0 : Int → Option R} (hq0 : ∀ x0, k0 x0 = kk0 x0) : ref1_Mod_p1 n a0 a1 k0 = ref1_Mod_p1 n a0 a1 kk0 := by
  obtain rfl : k0 = kk0 := funext fun x0 => hq0 x0
  rfl
theorem ref1_Mod_p1_eq {R : Type} (n : Nat) (a0 : Int) (a1 : Int) (k : Exit → St → Option R) : vexec (ref1_Mod_C n) n ref1_Mod_c0 ⟨17, [(0, .d (D.int .i64 a0)), (1, .d (D.int .i64 a1))], []⟩ k = ref1_Mod_p1 n a0 a1 (fun z2 => k .ret ⟨17, [(4, .d (D.int .i64 z2))], []⟩) := by kernel_rfl
theorem ref1_Mod_vfn {R : Type} (n : Nat) (a0 : Int) (a1 : Int) (K : AV → Option R) : vfn (ref1_Mod_C n) n Try.f13 [.d (D.int .i64 a0), .d (D.int .i64 a1)] [] (retF [[0]] K) = ref1_Mod n a0 a1 (fun r0 => K (.d (D.int .i64 r0))) :=
  (show vfn (ref1_Mod_C n) n Try.f13 [.d (D.int .i64 a0), .d (D.int .i64 a1)] [] (retF [[0]] K) = vexec (ref1_Mod_C n) n ref1_Mod_c0 ⟨17, [(0, .d (D.int .i64 a0)), (1, .d (D.int .i64 a1))], []⟩ (retX ref1_Mod_tt [.tmp 4] (retF [[0]] K)) from vfn_at (by kernel_rfl) (by kernel_rfl) rfl (by kernel_rfl) rfl (by kernel_rfl) rfl).trans ((ref1_Mod_p1_eq n a0 a1 (retX ref1_Mod_tt [.tmp 4] (retF [[0]] K))).trans (by kernel_rfl))
def ref1_Mod_K : AV → Option (Int) := fun av => match av with
  | .d (D.int .i64 r0) => some r0
  | _ => none
def ref1_Mod_e (n : Nat) : Entry := fun _ _ g avs _ k => match avs with
  | [c0, c1] => prI g .i64 c0 fun a0 => prI g .i64 c1 fun a1 => 
    gb g (ref1_Mod n a0 a1 some) 0 fun r => k ⟨.d (D.int .i64 r), [], []⟩
  | _ => none
theorem ref1_Mod_ok (n : Nat) : EntryOK Try.prog 13 (ref1_Mod_e n) := by
  intro R site g avs hl k r h
  unfold ref1_Mod_e at h
  split at h
  rotate_left
  · cases h
  replace h := prI_some h
  obtain ⟨a0, h, le0⟩ := h
  replace h := prI_some h
  obtain ⟨a1, h, le1⟩ := h
  replace h := gb_some h
  obtain ⟨res, h, hr⟩ := h
  refine ⟨_, h, fun hg => CallOK.conv (avs' := [.d (D.int .i64 a0), .d (D.int .i64 a1)]) (.cons (le0 hg) (.cons (le1 hg) (.nil))) (callOK_fix (K := ref1_Mod_K) (res := res) (ref1_Mod_VC n) (fn := Try.f13) (n := n) (by kernel_rfl) (by kernel_rfl) (by kernel_rfl) (ss := [[0]]) rfl ?_ ?_)⟩
  · exact (ref1_Mod_vfn n a0 a1 ref1_Mod_K).trans (hr hg)
  · intro x hx
    unfold ref1_Mod_K at hx
    split at hx
    · injection hx with hx; subst hx; rfl
    · cases hx
end Go.Vx
/-
  ref19_Overlap: the interpreter computes the pure function
-/
set_option linter.unusedVariables false
set_option linter.unusedSimpArgs false
set_option maxRecDepth 100000
namespace Go.Vx
open Go.Proofs
noncomputable def ref19_Overlap_c0 : Code := bodyOf Try.f28
def ref19_Overlap_tt : TT := [(3, ⟨.int .i64, 1, 8, [.int .i64 0], [.int .i64 0], [], none⟩), (24, ⟨.sl 28 3, 1, 24, [.slice none 0 0], [.sl 3 []], [], none⟩), (28, ⟨.struct, 3, 40, [.int .i64 0, .int .i64 0, .slice none 0 0], [.int .i64 0, .int .i64 0, .sl 1 []], [(0, 3), (1, 3), (2, 22)], none⟩)]
theorem ref19_Overlap_tt_eq : mkTT Try.prog [3, 24, 28] = ref19_Overlap_tt := by kernel_rfl
def ref19_Overlap_cfg : List (Nat × Cfg) := [(0, ⟨[0, 4, 5], [(4, 4), (5, 5)], [], [], []⟩), (1, ⟨[0, 4, 5, 12], [(4, 4), (5, 5)], [], [], []⟩), (2, ⟨[6], [], [], [], []⟩), (3, ⟨[6], [], [], [], []⟩)]
def ref19_Overlap_C (n : Nat) : VC := ⟨specOf [(33, ref19_ValidVisits_e n), (13, ref1_Mod_e n)], ref19_Overlap_tt, ref19_Overlap_cfg⟩
theorem ref19_Overlap_ents (n : Nat) : EntsOK Try.prog [(33, ref19_ValidVisits_e n), (13, ref1_Mod_e n)] := ⟨ref19_ValidVisits_ok n, ⟨ref1_Mod_ok n, trivial⟩⟩
theorem ref19_Overlap_VC (n : Nat) : VCOk Try.prog (ref19_Overlap_C n) := ⟨specOf_ok (ref19_Overlap_ents n), (ref19_Overlap_tt_eq ▸ mkTT_ok _ : TOk Try.prog ref19_Overlap_tt), by kernel_rfl⟩
theorem ref19_Overlap_p1_congr {R : Type} (n : Nat) (a0 : Int) (a1_0 : Int) (a1_1 : Int) (a1_2 : List (List D)) (a2_0 : Int) (a2_1 : Int) (a2_2 : List (List D)) {k0 kk0 : Bool → Option R} (hq0 : ∀ x0, k0 x0 = kk0 x0) : ref19_Overlap_p1 n a0 a1_0 a1_1 a1_2 a2_0 a2_1 a2_2 k0 = ref19_Overlap_p1 n a0 a1_0 a1_1 a1_2 a2_0 a2_1 a2_2 kk0 := by
  obtain rfl : k0 = kk0 := funext fun x0 => hq0 x0
  rfl
theorem ref19_Overlap_p1_eq {R : Type} (n : Nat) (a0 : Int) (a1_0 : Int) (a1_1 : Int) (a1_2 : List (List D)) (a2_0 : Int) (a2_1 : Int) (a2_2 : List (List D)) (k : Exit → St → Option R) : vexec (ref19_Overlap_C n) n ref19_Overlap_c0 ⟨35, [(0, .d (D.int .i64 a0)), (1, .ag [.d (D.int .i64 a1_0), .d (D.int .i64 a1_1), .d (D.sl 1 a1_2)]), (2, .ag [.d (D.int .i64 a2_0), .d (D.int .i64 a2_1), .d (D.sl 1 a2_2)])], []⟩ k = ref19_Overlap_p1 n a0 a1_0 a1_1 a1_2 a2_0 a2_1 a2_2 (fun z4 => k .ret ⟨35, [(6, .d (D.bool z4))], []⟩) := by kernel_rfl
theorem ref19_Overlap_vfn {R : Type} (n : Nat) (a0 : Int) (a1_0 : Int) (a1_1 : Int) (a1_2 : List (List D)) (a2_0 : Int) (a2_1 : Int) (a2_2 : List (List D)) (K : AV → Option R) : vfn (ref19_Overlap_C n) n Try.f28 [.d (D.int .i64 a0), .ag [.d (D.int .i64 a1_0), .d (D.int .i64 a1_1), .d (D.sl 1 a1_2)], .ag [.d (D.int .i64 a2_0), .d (D.int .i64 a2_1), .d (D.sl 1 a2_2)]] [] (retF [[0]] K) = ref19_Overlap n a0 a1_0 a1_1 a1_2 a2_0 a2_1 a2_2 (fun r0 => K (.d (D.bool r0))) :=
  (show vfn (ref19_Overlap_C n) n Try.f28 [.d (D.int .i64 a0), .ag [.d (D.int .i64 a1_0), .d (D.int .i64 a1_1), .d (D.sl 1 a1_2)], .ag [.d (D.int .i64 a2_0), .d (D.int .i64 a2_1), .d (D.sl 1 a2_2)]] [] (retF [[0]] K) = vexec (ref19_Overlap_C n) n ref19_Overlap_c0 ⟨35, [(0, .d (D.int .i64 a0)), (1, .ag [.d (D.int .i64 a1_0), .d (D.int .i64 a1_1), .d (D.sl 1 a1_2)]), (2, .ag [.d (D.int .i64 a2_0), .d (D.int .i64 a2_1), .d (D.sl 1 a2_2)])], []⟩ (retX ref19_Overlap_tt [.tmp 6] (retF [[0]] K)) from vfn_at (by kernel_rfl) (by kernel_rfl) rfl (by kernel_rfl) rfl (by kernel_rfl) rfl).trans ((ref19_Overlap_p1_eq n a0 a1_0 a1_1 a1_2 a2_0 a2_1 a2_2 (retX ref19_Overlap_tt [.tmp 6] (retF [[0]] K))).trans (by kernel_rfl))
def ref19_Overlap_K : AV → Option (Bool) := fun av => match av with
  | .d (D.bool r0) => some r0
  | _ => none
def ref19_Overlap_e (n : Nat) : Entry := fun _ _ g avs _ k => match avs with
  | [c0, c1, c2] => prI g .i64 c0 fun a0 => 
    prG c1 fun l1 => (match l1 with
    | [c1_0, c1_1, c1_2] => prI g .i64 c1_0 fun a1_0 => prI g .i64 c1_1 fun a1_1 => prS g 1 c1_2 fun a1_2 => 
    prG c2 fun l2 => (match l2 with
    | [c2_0, c2_1, c2_2] => prI g .i64 c2_0 fun a2_0 => prI g .i64 c2_1 fun a2_1 => prS g 1 c2_2 fun a2_2 => 
    gb g (ref19_Overlap n a0 a1_0 a1_1 a1_2 a2_0 a2_1 a2_2 some) false fun r => k ⟨.d (D.bool r), [], []⟩
    | _ => none)
    | _ => none)
  | _ => none
theorem ref19_Overlap_ok (n : Nat) : EntryOK Try.prog 28 (ref19_Overlap_e n) := by
  intro R site g avs hl k r h
  unfold ref19_Overlap_e at h
  split at h
  rotate_left
  · cases h
  replace h := prI_some h
  obtain ⟨a0, h, le0⟩ := h
  replace h := prG_some h
  obtain ⟨l1, h, e1⟩ := h
  subst e1
  split at h
  rotate_left
  · cases h
  replace h := prI_some h
  obtain ⟨a1_0, h, le1⟩ := h
  replace h := prI_some h
  obtain ⟨a1_1, h, le2⟩ := h
  replace h := prS_some h
  obtain ⟨a1_2, h, le3⟩ := h
  replace h := prG_some h
  obtain ⟨l2, h, e2⟩ := h
  subst e2
  split at h
  rotate_left
  · cases h
  replace h := prI_some h
  obtain ⟨a2_0, h, le4⟩ := h
  replace h := prI_some h
  obtain ⟨a2_1, h, le5⟩ := h
  replace h := prS_some h
  obtain ⟨a2_2, h, le6⟩ := h
  replace h := gb_some h
  obtain ⟨res, h, hr⟩ := h
  refine ⟨_, h, fun hg => CallOK.conv (avs' := [.d (D.int .i64 a0), .ag [.d (D.int .i64 a1_0), .d (D.int .i64 a1_1), .d (D.sl 1 a1_2)], .ag [.d (D.int .i64 a2_0), .d (D.int .i64 a2_1), .d (D.sl 1 a2_2)]]) (.cons (le0 hg) (.cons (.ag (.cons (le1 hg) (.cons (le2 hg) (.cons (le3 hg) (.nil))))) (.cons (.ag (.cons (le4 hg) (.cons (le5 hg) (.cons (le6 hg) (.nil))))) (.nil)))) (callOK_fix (K := ref19_Overlap_K) (res := res) (ref19_Overlap_VC n) (fn := Try.f28) (n := n) (by kernel_rfl) (by kernel_rfl) (by kernel_rfl) (ss := [[0]]) rfl ?_ ?_)⟩
  · exact (ref19_Overlap_vfn n a0 a1_0 a1_1 a1_2 a2_0 a2_1 a2_2 ref19_Overlap_K).trans (hr hg)
  · intro x hx
    unfold ref19_Overlap_K at hx
    split at hx
    · injection hx with hx; subst hx; rfl
    · cases hx
end Go.Vx
/-
  ref19_Proper: the interpreter computes the pure function
-/
set_option linter.unusedVariables false
set_option linter.unusedSimpArgs false
set_option maxRecDepth 100000
namespace Go.Vx
open Go.Proofs
noncomputable def ref19_Proper_c0 : Code := bodyOf Try.f18
noncomputable def ref19_Proper_c1 : Code := cL (bodyOf Try.f18)
noncomputable def ref19_Proper_c2 : Code := cL (cR (bodyOf Try.f18))
noncomputable def ref19_Proper_c3 : Code := cL (cL (cR (cR (bodyOf Try.f18))))
noncomputable def ref19_Proper_c4 : Code := cL (cB (cB (cR (cL (cR (cR (bodyOf Try.f18)))))))
noncomputable def ref19_Proper_c5 : Code := cL (cR (cB (cB (cR (cL (cR (cR (bodyOf Try.f18))))))))
noncomputable def ref19_Proper_c6 : Code := cL (cB (cL (cR (cR (cB (cB (cR (cL (cR (cR (bodyOf Try.f18)))))))))))
noncomputable def ref19_Proper_c7 : Code := cL (cR (cB (cL (cR (cR (cB (cB (cR (cL (cR (cR (bodyOf Try.f18))))))))))))
noncomputable def ref19_Proper_c8 : Code := cL (cR (cR (cB (cL (cR (cR (cB (cB (cR (cL (cR (cR (bodyOf Try.f18)))))))))))))
noncomputable def ref19_Proper_c9 : Code := cB (cB (cR (cR (cR (cB (cL (cR (cR (cB (cB (cR (cL (cR (cR (bodyOf Try.f18)))))))))))))))
noncomputable def ref19_Proper_c10 : Code := cB (cR (cR (cR (cB (cL (cR (cR (cB (cB (cR (cL (cR (cR (bodyOf Try.f18))))))))))))))
noncomputable def ref19_Proper_c11 : Code := cR (cR (cR (cB (cL (cR (cR (cB (cB (cR (cL (cR (cR (bodyOf Try.f18)))))))))))))
noncomputable def ref19_Proper_c12 : Code := cR (cR (cB (cL (cR (cR (cB (cB (cR (cL (cR (cR (bodyOf Try.f18))))))))))))
noncomputable def ref19_Proper_c13 : Code := cR (cB (cL (cR (cR (cB (cB (cR (cL (cR (cR (bodyOf Try.f18)))))))))))
noncomputable def ref19_Proper_c14 : Code := cB (cL (cR (cR (cB (cB (cR (cL (cR (cR (bodyOf Try.f18))))))))))
noncomputable def ref19_Proper_c15 : Code := cL (cR (cR (cB (cB (cR (cL (cR (cR (bodyOf Try.f18)))))))))
noncomputable def ref19_Proper_c16 : Code := cR (cR (cR (cB (cB (cR (cL (cR (cR (bodyOf Try.f18)))))))))
noncomputable def ref19_Proper_c17 : Code := cR (cR (cB (cB (cR (cL (cR (cR (bodyOf Try.f18))))))))
noncomputable def ref19_Proper_c18 : Code := cR (cB (cB (cR (cL (cR (cR (bodyOf Try.f18)))))))
noncomputable def ref19_Proper_c19 : Code := cB (cB (cR (cL (cR (cR (bodyOf Try.f18))))))
noncomputable def ref19_Proper_c20 : Code := cB (cR (cL (cR (cR (bodyOf Try.f18)))))
noncomputable def ref19_Proper_c21 : Code := cR (cL (cR (cR (bodyOf Try.f18))))
noncomputable def ref19_Proper_c22 : Code := cL (cR (cR (bodyOf Try.f18)))
noncomputable def ref19_Proper_c23 : Code := cR (cR (cR (bodyOf Try.f18)))
noncomputable def ref19_Proper_c24 : Code := cR (cR (bodyOf Try.f18))
noncomputable def ref19_Proper_c25 : Code := cR (bodyOf Try.f18)
theorem ref19_Proper_c10_eq : ref19_Proper_c10 = .loop ref19_Proper_c9 := by kernel_rfl
theorem ref19_Proper_c11_eq : ref19_Proper_c11 = .block 2 ref19_Proper_c10 := by kernel_rfl
theorem ref19_Proper_c12_eq : ref19_Proper_c12 = .seq ref19_Proper_c8 ref19_Proper_c11 := by kernel_rfl
theorem ref19_Proper_c13_eq : ref19_Proper_c13 = .seq ref19_Proper_c7 ref19_Proper_c12 := by kernel_rfl
theorem ref19_Proper_c14_eq : ref19_Proper_c14 = .seq ref19_Proper_c6 ref19_Proper_c13 := by kernel_rfl
theorem ref19_Proper_c15_eq : ref19_Proper_c15 = .block 1 ref19_Proper_c14 := by kernel_rfl
theorem ref19_Proper_c17_eq : ref19_Proper_c17 = .seq ref19_Proper_c15 ref19_Proper_c16 := by kernel_rfl
theorem ref19_Proper_c18_eq : ref19_Proper_c18 = .seq ref19_Proper_c5 ref19_Proper_c17 := by kernel_rfl
theorem ref19_Proper_c19_eq : ref19_Proper_c19 = .seq ref19_Proper_c4 ref19_Proper_c18 := by kernel_rfl
theorem ref19_Proper_c20_eq : ref19_Proper_c20 = .loop ref19_Proper_c19 := by kernel_rfl
theorem ref19_Proper_c21_eq : ref19_Proper_c21 = .block 0 ref19_Proper_c20 := by kernel_rfl
theorem ref19_Proper_c22_eq : ref19_Proper_c22 = .seq ref19_Proper_c3 ref19_Proper_c21 := by kernel_rfl
theorem ref19_Proper_c24_eq : ref19_Proper_c24 = .seq ref19_Proper_c22 ref19_Proper_c23 := by kernel_rfl
theorem ref19_Proper_c25_eq : ref19_Proper_c25 = .seq ref19_Proper_c2 ref19_Proper_c24 := by kernel_rfl
theorem ref19_Proper_c0_eq : ref19_Proper_c0 = .seq ref19_Proper_c1 ref19_Proper_c25 := by kernel_rfl
def ref19_Proper_tt : TT := [(3, ⟨.int .i64, 1, 8, [.int .i64 0], [.int .i64 0], [], none⟩), (22, ⟨.sl 3 1, 1, 24, [.slice none 0 0], [.sl 1 []], [], none⟩), (24, ⟨.sl 28 3, 1, 24, [.slice none 0 0], [.sl 3 []], [], none⟩), (28, ⟨.struct, 3, 40, [.int .i64 0, .int .i64 0, .slice none 0 0], [.int .i64 0, .int .i64 0, .sl 1 []], [(0, 3), (1, 3), (2, 22)], none⟩)]
theorem ref19_Proper_tt_eq : mkTT Try.prog [3, 22, 24, 28] = ref19_Proper_tt := by kernel_rfl
def ref19_Proper_cfg : List (Nat × Cfg) := [(0, ⟨[0, 1, 2], [], [], [], []⟩), (1, ⟨[0, 1, 2, 19], [], [], [], []⟩), (2, ⟨[6], [], [], [], []⟩), (3, ⟨[0, 1, 2, 21, 22], [], [], [], []⟩), (4, ⟨[0, 1, 2, 21, 22, 23], [], [], [], []⟩), (5, ⟨[0, 1, 2, 7, 21, 22], [], [], [], []⟩), (6, ⟨[0, 1, 2, 7, 21, 22, 35], [], [], [], []⟩), (7, ⟨[6], [], [], [], []⟩), (8, ⟨[0, 1, 2, 7, 8, 21, 22], [], [], [], []⟩), (9, ⟨[0, 1, 2, 7, 8, 21, 22, 38], [], [], [], []⟩), (10, ⟨[0, 1, 2, 7, 8, 21, 22], [], [], [], []⟩), (11, ⟨[0, 1, 2, 7, 8, 21, 22, 61], [], [], [], []⟩), (12, ⟨[6], [], [], [], []⟩), (13, ⟨[0, 1, 2, 21, 22], [], [], [], []⟩), (14, ⟨[6], [], [], [], []⟩)]
def ref19_Proper_C (n : Nat) : VC := ⟨specOf [(33, ref19_ValidVisits_e n), (34, ref19_member_e n), (28, ref19_Overlap_e n)], ref19_Proper_tt, ref19_Proper_cfg⟩
theorem ref19_Proper_ents (n : Nat) : EntsOK Try.prog [(33, ref19_ValidVisits_e n), (34, ref19_member_e n), (28, ref19_Overlap_e n)] := ⟨ref19_ValidVisits_ok n, ⟨ref19_member_ok n, ⟨ref19_Overlap_ok n, trivial⟩⟩⟩
theorem ref19_Proper_VC (n : Nat) : VCOk Try.prog (ref19_Proper_C n) := ⟨specOf_ok (ref19_Proper_ents n), (ref19_Proper_tt_eq ▸ mkTT_ok _ : TOk Try.prog ref19_Proper_tt), by kernel_rfl⟩
theorem ref19_Proper_p1_congr {R : Type} (n : Nat) (a0 : Int) (a1 : List (List D)) (a2 : List (List D)) {k0 kk0 : Option R} (hq0 : k0 = kk0) : ref19_Proper_p1 n a0 a1 a2 k0 = ref19_Proper_p1 n a0 a1 a2 kk0 := by
  obtain rfl : k0 = kk0 := hq0
  rfl
theorem ref19_Proper_p2_congr {R : Type} (n : Nat) (a0 : Int) (a1 : List (List D)) (a2 : List (List D)) {k0 kk0 : Option R} {k1 kk1 : Bool → Option R} (hq0 : k0 = kk0) (hq1 : ∀ x0, k1 x0 = kk1 x0) : ref19_Proper_p2 n a0 a1 a2 k0 k1 = ref19_Proper_p2 n a0 a1 a2 kk0 kk1 := by
  obtain rfl : k0 = kk0 := hq0
  obtain rfl : k1 = kk1 := funext fun x0 => hq1 x0
  rfl
theorem ref19_Proper_p3_congr {R : Type} (n : Nat) (a0 : Int) (a1 : List (List D)) (a2 : List (List D)) (w3 : Bool) {k0 kk0 : Int → Option R} (hq0 : ∀ x0, k0 x0 = kk0 x0) : ref19_Proper_p3 n a0 a1 a2 w3 k0 = ref19_Proper_p3 n a0 a1 a2 w3 kk0 := by
  obtain rfl : k0 = kk0 := funext fun x0 => hq0 x0
  rfl
theorem ref19_Proper_p4_congr {R : Type} (n : Nat) (a0 : Int) (a1 : List (List D)) (a2 : List (List D)) (w5 : Int) (h10 : Int) {k0 kk0 : Bool → Option R} (hq0 : ∀ x0, k0 x0 = kk0 x0) : ref19_Proper_p4 n a0 a1 a2 w5 h10 k0 = ref19_Proper_p4 n a0 a1 a2 w5 h10 kk0 := by
  obtain rfl : k0 = kk0 := funext fun x0 => hq0 x0
  rfl
theorem ref19_Proper_p5_congr {R : Type} (n : Nat) (a0 : Int) (a1 : List (List D)) (a2 : List (List D)) (w5 : Int) (h10 : Int) (w94 : Bool) {k0 kk0 : Option R} {k1 kk1 : Option R} (hq0 : k0 = kk0) (hq1 : k1 = kk1) : ref19_Proper_p5 n a0 a1 a2 w5 h10 w94 k0 k1 = ref19_Proper_p5 n a0 a1 a2 w5 h10 w94 kk0 kk1 := by
  obtain rfl : k0 = kk0 := hq0
  obtain rfl : k1 = kk1 := hq1
  rfl
theorem ref19_Proper_p6_congr {R : Type} (n : Nat) (a0 : Int) (a1 : List (List D)) (a2 : List (List D)) (w5 : Int) (h10 : Int) (w94 : Bool) {k0 kk0 : Option R} (hq0 : k0 = kk0) : ref19_Proper_p6 n a0 a1 a2 w5 h10 w94 k0 = ref19_Proper_p6 n a0 a1 a2 w5 h10 w94 kk0 := by
  obtain rfl : k0 = kk0 := hq0
  rfl
theorem ref19_Proper_p7_congr {R : Type} (n : Nat) (a0 : Int) (a1 : List (List D)) (a2 : List (List D)) (h10 : Int) (w5 : Int) {k0 kk0 : Option R} {k1 kk1 : Bool → Option R} (hq0 : k0 = kk0) (hq1 : ∀ x0, k1 x0 = kk1 x0) : ref19_Proper_p7 n a0 a1 a2 h10 w5 k0 k1 = ref19_Proper_p7 n a0 a1 a2 h10 w5 kk0 kk1 := by
  obtain rfl : k0 = kk0 := hq0
  obtain rfl : k1 = kk1 := funext fun x0 => hq1 x0
  rfl
theorem ref19_Proper_p8_congr {R : Type} (n : Nat) (a0 : Int) (a1 : List (List D)) (a2 : List (List D)) (h10 : Int) (w5 : Int) (w103 : Bool) {k0 kk0 : Option R} (hq0 : k0 = kk0) : ref19_Proper_p8 n a0 a1 a2 h10 w5 w103 k0 = ref19_Proper_p8 n a0 a1 a2 h10 w5 w103 kk0 := by
  obtain rfl : k0 = kk0 := hq0
  rfl
theorem ref19_Proper_p9_congr {R : Type} (n : Nat) (a0 : Int) (a1 : List (List D)) (a2 : List (List D)) (h10 : Int) (h108 : Int) (w5 : Int) {k0 kk0 : Option R} {k1 kk1 : Int → Option R} {k2 kk2 : Bool → Option R} (hq0 : k0 = kk0) (hq1 : ∀ x0, k1 x0 = kk1 x0) (hq2 : ∀ x0, k2 x0 = kk2 x0) : ref19_Proper_p9 n a0 a1 a2 h10 h108 w5 k0 k1 k2 = ref19_Proper_p9 n a0 a1 a2 h10 h108 w5 kk0 kk1 kk2 := by
  obtain rfl : k0 = kk0 := hq0
  obtain rfl : k1 = kk1 := funext fun x0 => hq1 x0
  obtain rfl : k2 = kk2 := funext fun x0 => hq2 x0
  rfl
theorem ref19_Proper_p10_congr {R : Type} (n : Nat) (a0 : Int) (a1 : List (List D)) (a2 : List (List D)) (h10 : Int) (w5 : Int) {k0 kk0 : Option R} {k1 kk1 : Int → Bool → Option R} (hq0 : k0 = kk0) (hq1 : ∀ x0 x1, k1 x0 x1 = kk1 x0 x1) : ref19_Proper_p10 n a0 a1 a2 h10 w5 k0 k1 = ref19_Proper_p10 n a0 a1 a2 h10 w5 kk0 kk1 := by
  obtain rfl : k0 = kk0 := hq0
  obtain rfl : k1 = kk1 := funext fun x0 => funext fun x1 => hq1 x0 x1
  rfl
theorem ref19_Proper_p11_congr {R : Type} (n : Nat) (a0 : Int) (a1 : List (List D)) (a2 : List (List D)) (h10 : Int) (w5 : Int) {k0 kk0 : Option R} {k1 kk1 : Int → Bool → Option R} (hq0 : k0 = kk0) (hq1 : ∀ x0 x1, k1 x0 x1 = kk1 x0 x1) : ref19_Proper_p11 n a0 a1 a2 h10 w5 k0 k1 = ref19_Proper_p11 n a0 a1 a2 h10 w5 kk0 kk1 := by
  obtain rfl : k0 = kk0 := hq0
  obtain rfl : k1 = kk1 := funext fun x0 => funext fun x1 => hq1 x0 x1
  rfl
theorem ref19_Proper_p12_congr {R : Type} (n : Nat) (a0 : Int) (a1 : List (List D)) (a2 : List (List D)) (h10 : Int) (w5 : Int) (w103 : Bool) {k0 kk0 : Option R} {k1 kk1 : Int → Bool → Option R} (hq0 : k0 = kk0) (hq1 : ∀ x0 x1, k1 x0 x1 = kk1 x0 x1) : ref19_Proper_p12 n a0 a1 a2 h10 w5 w103 k0 k1 = ref19_Proper_p12 n a0 a1 a2 h10 w5 w103 kk0 kk1 := by
  obtain rfl : k0 = kk0 := hq0
  obtain rfl : k1 = kk1 := funext fun x0 => funext fun x1 => hq1 x0 x1
  rfl
theorem ref19_Proper_p13_congr {R : Type} (n : Nat) (a0 : Int) (a1 : List (List D)) (a2 : List (List D)) (h10 : Int) (w5 : Int) {k0 kk0 : Option R} {k1 kk1 : Int → Bool → Option R} (hq0 : k0 = kk0) (hq1 : ∀ x0 x1, k1 x0 x1 = kk1 x0 x1) : ref19_Proper_p13 n a0 a1 a2 h10 w5 k0 k1 = ref19_Proper_p13 n a0 a1 a2 h10 w5 kk0 kk1 := by
  obtain rfl : k0 = kk0 := hq0
  obtain rfl : k1 = kk1 := funext fun x0 => funext fun x1 => hq1 x0 x1
  rfl
theorem ref19_Proper_p14_congr {R : Type} (n : Nat) (a0 : Int) (a1 : List (List D)) (a2 : List (List D)) (w5 : Int) (h10 : Int) (w94 : Bool) {k0 kk0 : Option R} {k1 kk1 : Int → Bool → Option R} (hq0 : k0 = kk0) (hq1 : ∀ x0 x1, k1 x0 x1 = kk1 x0 x1) : ref19_Proper_p14 n a0 a1 a2 w5 h10 w94 k0 k1 = ref19_Proper_p14 n a0 a1 a2 w5 h10 w94 kk0 kk1 := by
  obtain rfl : k0 = kk0 := hq0
  obtain rfl : k1 = kk1 := funext fun x0 => funext fun x1 => hq1 x0 x1
  rfl
theorem ref19_Proper_p15_congr {R : Type} (n : Nat) (a0 : Int) (a1 : List (List D)) (a2 : List (List D)) (w5 : Int) (h10 : Int) (w94 : Bool) {k0 kk0 : Option R} {k1 kk1 : Int → Bool → Option R} (hq0 : k0 = kk0) (hq1 : ∀ x0 x1, k1 x0 x1 = kk1 x0 x1) : ref19_Proper_p15 n a0 a1 a2 w5 h10 w94 k0 k1 = ref19_Proper_p15 n a0 a1 a2 w5 h10 w94 kk0 kk1 := by
  obtain rfl : k0 = kk0 := hq0
  obtain rfl : k1 = kk1 := funext fun x0 => funext fun x1 => hq1 x0 x1
  rfl
theorem ref19_Proper_p16_congr {R : Type} (n : Nat) (a0 : Int) (a1 : List (List D)) (a2 : List (List D)) (h10 : Int) (w169 : Int) (w5 : Int) (w170 : Bool) {k0 kk0 : Int → Option R} (hq0 : ∀ x0, k0 x0 = kk0 x0) : ref19_Proper_p16 n a0 a1 a2 h10 w169 w5 w170 k0 = ref19_Proper_p16 n a0 a1 a2 h10 w169 w5 w170 kk0 := by
  obtain rfl : k0 = kk0 := funext fun x0 => hq0 x0
  rfl
theorem ref19_Proper_p17_congr {R : Type} (n : Nat) (a0 : Int) (a1 : List (List D)) (a2 : List (List D)) (w5 : Int) (h10 : Int) (w94 : Bool) {k0 kk0 : Option R} {k1 kk1 : Int → Option R} (hq0 : k0 = kk0) (hq1 : ∀ x0, k1 x0 = kk1 x0) : ref19_Proper_p17 n a0 a1 a2 w5 h10 w94 k0 k1 = ref19_Proper_p17 n a0 a1 a2 w5 h10 w94 kk0 kk1 := by
  obtain rfl : k0 = kk0 := hq0
  obtain rfl : k1 = kk1 := funext fun x0 => hq1 x0
  rfl
theorem ref19_Proper_p18_congr {R : Type} (n : Nat) (a0 : Int) (a1 : List (List D)) (a2 : List (List D)) (w5 : Int) (h10 : Int) (w94 : Bool) {k0 kk0 : Option R} {k1 kk1 : Int → Option R} {k2 kk2 : Option R} (hq0 : k0 = kk0) (hq1 : ∀ x0, k1 x0 = kk1 x0) (hq2 : k2 = kk2) : ref19_Proper_p18 n a0 a1 a2 w5 h10 w94 k0 k1 k2 = ref19_Proper_p18 n a0 a1 a2 w5 h10 w94 kk0 kk1 kk2 := by
  obtain rfl : k0 = kk0 := hq0
  obtain rfl : k1 = kk1 := funext fun x0 => hq1 x0
  obtain rfl : k2 = kk2 := hq2
  rfl
theorem ref19_Proper_p19_congr {R : Type} (n : Nat) (a0 : Int) (a1 : List (List D)) (a2 : List (List D)) (w5 : Int) (h10 : Int) {k0 kk0 : Option R} {k1 kk1 : Int → Option R} {k2 kk2 : Bool → Option R} (hq0 : k0 = kk0) (hq1 : ∀ x0, k1 x0 = kk1 x0) (hq2 : ∀ x0, k2 x0 = kk2 x0) : ref19_Proper_p19 n a0 a1 a2 w5 h10 k0 k1 k2 = ref19_Proper_p19 n a0 a1 a2 w5 h10 kk0 kk1 kk2 := by
  obtain rfl : k0 = kk0 := hq0
  obtain rfl : k1 = kk1 := funext fun x0 => hq1 x0
  obtain rfl : k2 = kk2 := funext fun x0 => hq2 x0
  rfl
theorem ref19_Proper_p20_congr {R : Type} (n : Nat) (a0 : Int) (a1 : List (List D)) (a2 : List (List D)) (w5 : Int) {k0 kk0 : Option R} {k1 kk1 : Int → Bool → Option R} (hq0 : k0 = kk0) (hq1 : ∀ x0 x1, k1 x0 x1 = kk1 x0 x1) : ref19_Proper_p20 n a0 a1 a2 w5 k0 k1 = ref19_Proper_p20 n a0 a1 a2 w5 kk0 kk1 := by
  obtain rfl : k0 = kk0 := hq0
  obtain rfl : k1 = kk1 := funext fun x0 => funext fun x1 => hq1 x0 x1
  rfl
theorem ref19_Proper_p21_congr {R : Type} (n : Nat) (a0 : Int) (a1 : List (List D)) (a2 : List (List D)) (w5 : Int) {k0 kk0 : Option R} {k1 kk1 : Int → Bool → Option R} (hq0 : k0 = kk0) (hq1 : ∀ x0 x1, k1 x0 x1 = kk1 x0 x1) : ref19_Proper_p21 n a0 a1 a2 w5 k0 k1 = ref19_Proper_p21 n a0 a1 a2 w5 kk0 kk1 := by
  obtain rfl : k0 = kk0 := hq0
  obtain rfl : k1 = kk1 := funext fun x0 => funext fun x1 => hq1 x0 x1
  rfl
theorem ref19_Proper_p22_congr {R : Type} (n : Nat) (a0 : Int) (a1 : List (List D)) (a2 : List (List D)) (w3 : Bool) {k0 kk0 : Option R} {k1 kk1 : Int → Int → Bool → Option R} (hq0 : k0 = kk0) (hq1 : ∀ x0 x1 x2, k1 x0 x1 x2 = kk1 x0 x1 x2) : ref19_Proper_p22 n a0 a1 a2 w3 k0 k1 = ref19_Proper_p22 n a0 a1 a2 w3 kk0 kk1 := by
  obtain rfl : k0 = kk0 := hq0
  obtain rfl : k1 = kk1 := funext fun x0 => funext fun x1 => funext fun x2 => hq1 x0 x1 x2
  rfl
theorem ref19_Proper_p23_congr {R : Type} (n : Nat) (a0 : Int) (a1 : List (List D)) (a2 : List (List D)) (w181 : Int) (w182 : Int) (w183 : Bool) {k0 kk0 : Option R} (hq0 : k0 = kk0) : ref19_Proper_p23 n a0 a1 a2 w181 w182 w183 k0 = ref19_Proper_p23 n a0 a1 a2 w181 w182 w183 kk0 := by
  obtain rfl : k0 = kk0 := hq0
  rfl
theorem ref19_Proper_p24_congr {R : Type} (n : Nat) (a0 : Int) (a1 : List (List D)) (a2 : List (List D)) (w3 : Bool) {k0 kk0 : Bool → Option R} (hq0 : ∀ x0, k0 x0 = kk0 x0) : ref19_Proper_p24 n a0 a1 a2 w3 k0 = ref19_Proper_p24 n a0 a1 a2 w3 kk0 := by
  obtain rfl : k0 = kk0 := funext fun x0 => hq0 x0
  rfl
theorem ref19_Proper_p25_congr {R : Type} (n : Nat) (a0 : Int) (a1 : List (List D)) (a2 : List (List D)) {k0 kk0 : Bool → Option R} (hq0 : ∀ x0, k0 x0 = kk0 x0) : ref19_Proper_p25 n a0 a1 a2 k0 = ref19_Proper_p25 n a0 a1 a2 kk0 := by
  obtain rfl : k0 = kk0 := funext fun x0 => hq0 x0
  rfl
theorem ref19_Proper_p26_congr {R : Type} (n : Nat) (a0 : Int) (a1 : List (List D)) (a2 : List (List D)) {k0 kk0 : Bool → Option R} (hq0 : ∀ x0, k0 x0 = kk0 x0) : ref19_Proper_p26 n a0 a1 a2 k0 = ref19_Proper_p26 n a0 a1 a2 kk0 := by
  obtain rfl : k0 = kk0 := funext fun x0 => hq0 x0
  rfl
theorem ref19_Proper_p1_eq {R : Type} (n : Nat) (a0 : Int) (a1 : List (List D)) (a2 : List (List D)) (k : Exit → St → Option R) : vexec (ref19_Proper_C n) n ref19_Proper_c1 ⟨63, [(0, .d (D.int .i64 a0)), (1, .d (D.sl 3 a1)), (2, .d (D.sl 1 a2))], []⟩ k = ref19_Proper_p1 n a0 a1 a2 (k .normal ⟨63, [(0, .d (D.int .i64 a0)), (1, .d (D.sl 3 a1)), (2, .d (D.sl 1 a2))], []⟩) := by kernel_rfl
theorem ref19_Proper_p2_eq {R : Type} (n : Nat) (a0 : Int) (a1 : List (List D)) (a2 : List (List D)) (k : Exit → St → Option R) : vexec (ref19_Proper_C n) n ref19_Proper_c2 ⟨63, [(0, .d (D.int .i64 a0)), (1, .d (D.sl 3 a1)), (2, .d (D.sl 1 a2))], []⟩ k = ref19_Proper_p2 n a0 a1 a2 (k .ret ⟨63, [(6, .d (D.bool false))], []⟩) (fun z2 => k .normal ⟨63, [(0, .d (D.int .i64 a0)), (1, .d (D.sl 3 a1)), (2, .d (D.sl 1 a2)), (19, .d (D.bool z2))], []⟩) := by kernel_rfl
theorem ref19_Proper_p3_eq {R : Type} (n : Nat) (a0 : Int) (a1 : List (List D)) (a2 : List (List D)) (w3 : Bool) (k : Exit → St → Option R) : vexec (ref19_Proper_C n) n ref19_Proper_c3 ⟨63, [(0, .d (D.int .i64 a0)), (1, .d (D.sl 3 a1)), (2, .d (D.sl 1 a2)), (19, .d (D.bool w3))], []⟩ k = ref19_Proper_p3 n a0 a1 a2 w3 (fun z4 => k .normal ⟨63, [(0, .d (D.int .i64 a0)), (1, .d (D.sl 3 a1)), (2, .d (D.sl 1 a2)), (21, .d (D.int .i64 z4)), (22, .d (D.int .i64 (0 : Int)))], []⟩) := by kernel_rfl
theorem ref19_Proper_p4_eq {R : Type} (n : Nat) (a0 : Int) (a1 : List (List D)) (a2 : List (List D)) (w5 : Int) (h10 : Int) (k : Exit → St → Option R) : vexec (ref19_Proper_C n) n ref19_Proper_c4 ⟨63, [(0, .d (D.int .i64 a0)), (1, .d (D.sl 3 a1)), (2, .d (D.sl 1 a2)), (21, .d (D.int .i64 w5)), (22, .d (D.int .i64 h10))], []⟩ k = ref19_Proper_p4 n a0 a1 a2 w5 h10 (fun z93 => k .normal ⟨63, [(0, .d (D.int .i64 a0)), (1, .d (D.sl 3 a1)), (2, .d (D.sl 1 a2)), (21, .d (D.int .i64 w5)), (22, .d (D.int .i64 h10)), (23, .d (D.bool z93))], []⟩) := by kernel_rfl
theorem ref19_Proper_p5_eq {R : Type} (n : Nat) (a0 : Int) (a1 : List (List D)) (a2 : List (List D)) (w5 : Int) (h10 : Int) (w94 : Bool) (k : Exit → St → Option R) : vexec (ref19_Proper_C n) n ref19_Proper_c5 ⟨63, [(0, .d (D.int .i64 a0)), (1, .d (D.sl 3 a1)), (2, .d (D.sl 1 a2)), (21, .d (D.int .i64 w5)), (22, .d (D.int .i64 h10)), (23, .d (D.bool w94))], []⟩ k = ref19_Proper_p5 n a0 a1 a2 w5 h10 w94 (k .normal ⟨63, [(0, .d (D.int .i64 a0)), (1, .d (D.sl 3 a1)), (2, .d (D.sl 1 a2)), (21, .d (D.int .i64 w5)), (22, .d (D.int .i64 h10)), (23, .d (D.bool w94))], []⟩) (k (.exit 0) ⟨63, [(0, .d (D.int .i64 a0)), (1, .d (D.sl 3 a1)), (2, .d (D.sl 1 a2)), (21, .d (D.int .i64 w5)), (22, .d (D.int .i64 h10)), (23, .d (D.bool w94))], []⟩) := by kernel_rfl
theorem ref19_Proper_p6_eq {R : Type} (n : Nat) (a0 : Int) (a1 : List (List D)) (a2 : List (List D)) (w5 : Int) (h10 : Int) (w94 : Bool) (k : Exit → St → Option R) : vexec (ref19_Proper_C n) n ref19_Proper_c6 ⟨63, [(0, .d (D.int .i64 a0)), (1, .d (D.sl 3 a1)), (2, .d (D.sl 1 a2)), (21, .d (D.int .i64 w5)), (22, .d (D.int .i64 h10)), (23, .d (D.bool w94))], []⟩ k = ref19_Proper_p6 n a0 a1 a2 w5 h10 w94 (k .normal ⟨63, [(0, .d (D.int .i64 a0)), (1, .d (D.sl 3 a1)), (2, .d (D.sl 1 a2)), (7, .d (D.int .i64 h10)), (21, .d (D.int .i64 w5)), (22, .d (D.int .i64 h10))], []⟩) := by kernel_rfl
theorem ref19_Proper_p7_eq {R : Type} (n : Nat) (a0 : Int) (a1 : List (List D)) (a2 : List (List D)) (h10 : Int) (w5 : Int) (k : Exit → St → Option R) : vexec (ref19_Proper_C n) n ref19_Proper_c7 ⟨63, [(0, .d (D.int .i64 a0)), (1, .d (D.sl 3 a1)), (2, .d (D.sl 1 a2)), (7, .d (D.int .i64 h10)), (21, .d (D.int .i64 w5)), (22, .d (D.int .i64 h10))], []⟩ k = ref19_Proper_p7 n a0 a1 a2 h10 w5 (k .ret ⟨63, [(6, .d (D.bool false))], []⟩) (fun z102 => k .normal ⟨63, [(0, .d (D.int .i64 a0)), (1, .d (D.sl 3 a1)), (2, .d (D.sl 1 a2)), (7, .d (D.int .i64 h10)), (21, .d (D.int .i64 w5)), (22, .d (D.int .i64 h10)), (35, .d (D.bool z102))], []⟩) := by kernel_rfl
theorem ref19_Proper_p8_eq {R : Type} (n : Nat) (a0 : Int) (a1 : List (List D)) (a2 : List (List D)) (h10 : Int) (w5 : Int) (w103 : Bool) (k : Exit → St → Option R) : vexec (ref19_Proper_C n) n ref19_Proper_c8 ⟨63, [(0, .d (D.int .i64 a0)), (1, .d (D.sl 3 a1)), (2, .d (D.sl 1 a2)), (7, .d (D.int .i64 h10)), (21, .d (D.int .i64 w5)), (22, .d (D.int .i64 h10)), (35, .d (D.bool w103))], []⟩ k = ref19_Proper_p8 n a0 a1 a2 h10 w5 w103 (k .normal ⟨63, [(0, .d (D.int .i64 a0)), (1, .d (D.sl 3 a1)), (2, .d (D.sl 1 a2)), (7, .d (D.int .i64 h10)), (8, .d (D.int .i64 (0 : Int))), (21, .d (D.int .i64 w5)), (22, .d (D.int .i64 h10))], []⟩) := by kernel_rfl
theorem ref19_Proper_p9_eq {R : Type} (n : Nat) (a0 : Int) (a1 : List (List D)) (a2 : List (List D)) (h10 : Int) (h108 : Int) (w5 : Int) (k : Exit → St → Option R) : vexec (ref19_Proper_C n) n ref19_Proper_c9 ⟨63, [(0, .d (D.int .i64 a0)), (1, .d (D.sl 3 a1)), (2, .d (D.sl 1 a2)), (7, .d (D.int .i64 h10)), (8, .d (D.int .i64 h108)), (21, .d (D.int .i64 w5)), (22, .d (D.int .i64 h10))], []⟩ k = ref19_Proper_p9 n a0 a1 a2 h10 h108 w5 (k .ret ⟨63, [(6, .d (D.bool false))], []⟩) (fun z155 => k .normal ⟨63, [(0, .d (D.int .i64 a0)), (1, .d (D.sl 3 a1)), (2, .d (D.sl 1 a2)), (7, .d (D.int .i64 h10)), (8, .d (D.int .i64 z155)), (21, .d (D.int .i64 w5)), (22, .d (D.int .i64 h10))], []⟩) (fun z156 => k (.exit 2) ⟨63, [(0, .d (D.int .i64 a0)), (1, .d (D.sl 3 a1)), (2, .d (D.sl 1 a2)), (7, .d (D.int .i64 h10)), (8, .d (D.int .i64 h108)), (21, .d (D.int .i64 w5)), (22, .d (D.int .i64 h10)), (38, .d (D.bool z156))], []⟩) := by kernel_rfl
theorem ref19_Proper_r10_eq {R : Type} (n : Nat) (a0 : Int) (a1 : List (List D)) (a2 : List (List D)) (h10 : Int) (w5 : Int) (k : Exit → St → Option R) : ∀ (m : Nat) (h108 : Int), loopN (vexec (ref19_Proper_C n) n ref19_Proper_c9) m ⟨63, [(0, .d (D.int .i64 a0)), (1, .d (D.sl 3 a1)), (2, .d (D.sl 1 a2)), (7, .d (D.int .i64 h10)), (8, .d (D.int .i64 h108)), (21, .d (D.int .i64 w5)), (22, .d (D.int .i64 h10))], []⟩ k = ref19_Proper_r10 n a0 a1 a2 h10 w5 (k .ret ⟨63, [(6, .d (D.bool false))], []⟩) (fun h108 w158 => k (.exit 2) ⟨63, [(0, .d (D.int .i64 a0)), (1, .d (D.sl 3 a1)), (2, .d (D.sl 1 a2)), (7, .d (D.int .i64 h10)), (8, .d (D.int .i64 h108)), (21, .d (D.int .i64 w5)), (22, .d (D.int .i64 h10)), (38, .d (D.bool w158))], []⟩) m h108
  | 0, _ => rfl
  | m + 1, h108 => (ref19_Proper_p9_eq n a0 a1 a2 h10 h108 w5 (loopK (vexec (ref19_Proper_C n) n ref19_Proper_c9) m k)).trans (ref19_Proper_p9_congr n a0 a1 a2 h10 h108 w5 (rfl) (fun w157 => ref19_Proper_r10_eq n a0 a1 a2 h10 w5 k m w157) (fun w158 => rfl))
theorem ref19_Proper_p10_eq {R : Type} (n : Nat) (a0 : Int) (a1 : List (List D)) (a2 : List (List D)) (h10 : Int) (w5 : Int) (k : Exit → St → Option R) : vexec (ref19_Proper_C n) n ref19_Proper_c10 ⟨63, [(0, .d (D.int .i64 a0)), (1, .d (D.sl 3 a1)), (2, .d (D.sl 1 a2)), (7, .d (D.int .i64 h10)), (8, .d (D.int .i64 (0 : Int))), (21, .d (D.int .i64 w5)), (22, .d (D.int .i64 h10))], []⟩ k = ref19_Proper_p10 n a0 a1 a2 h10 w5 (k .ret ⟨63, [(6, .d (D.bool false))], []⟩) (fun h108 w158 => k (.exit 2) ⟨63, [(0, .d (D.int .i64 a0)), (1, .d (D.sl 3 a1)), (2, .d (D.sl 1 a2)), (7, .d (D.int .i64 h10)), (8, .d (D.int .i64 h108)), (21, .d (D.int .i64 w5)), (22, .d (D.int .i64 h10)), (38, .d (D.bool w158))], []⟩) := by
  rw [ref19_Proper_c10_eq]
  exact ref19_Proper_r10_eq n a0 a1 a2 h10 w5 k n (0 : Int)
theorem ref19_Proper_p11_eq {R : Type} (n : Nat) (a0 : Int) (a1 : List (List D)) (a2 : List (List D)) (h10 : Int) (w5 : Int) (k : Exit → St → Option R) : vexec (ref19_Proper_C n) n ref19_Proper_c11 ⟨63, [(0, .d (D.int .i64 a0)), (1, .d (D.sl 3 a1)), (2, .d (D.sl 1 a2)), (7, .d (D.int .i64 h10)), (8, .d (D.int .i64 (0 : Int))), (21, .d (D.int .i64 w5)), (22, .d (D.int .i64 h10))], []⟩ k = ref19_Proper_p11 n a0 a1 a2 h10 w5 (k .ret ⟨63, [(6, .d (D.bool false))], []⟩) (fun w159 w160 => k .normal ⟨63, [(0, .d (D.int .i64 a0)), (1, .d (D.sl 3 a1)), (2, .d (D.sl 1 a2)), (7, .d (D.int .i64 h10)), (8, .d (D.int .i64 w159)), (21, .d (D.int .i64 w5)), (22, .d (D.int .i64 h10)), (38, .d (D.bool w160))], []⟩) := by
  rw [ref19_Proper_c11_eq]
  unfold ref19_Proper_p11
  exact (ref19_Proper_p10_eq n a0 a1 a2 h10 w5 (blockK 2 k)).trans (ref19_Proper_p10_congr n a0 a1 a2 h10 w5 (rfl) (fun w159 w160 => rfl))
theorem ref19_Proper_p12_eq {R : Type} (n : Nat) (a0 : Int) (a1 : List (List D)) (a2 : List (List D)) (h10 : Int) (w5 : Int) (w103 : Bool) (k : Exit → St → Option R) : vexec (ref19_Proper_C n) n ref19_Proper_c12 ⟨63, [(0, .d (D.int .i64 a0)), (1, .d (D.sl 3 a1)), (2, .d (D.sl 1 a2)), (7, .d (D.int .i64 h10)), (21, .d (D.int .i64 w5)), (22, .d (D.int .i64 h10)), (35, .d (D.bool w103))], []⟩ k = ref19_Proper_p12 n a0 a1 a2 h10 w5 w103 (k .ret ⟨63, [(6, .d (D.bool false))], []⟩) (fun w161 w162 => k .normal ⟨63, [(0, .d (D.int .i64 a0)), (1, .d (D.sl 3 a1)), (2, .d (D.sl 1 a2)), (7, .d (D.int .i64 h10)), (8, .d (D.int .i64 w161)), (21, .d (D.int .i64 w5)), (22, .d (D.int .i64 h10)), (38, .d (D.bool w162))], []⟩) := by
  rw [ref19_Proper_c12_eq]
  unfold ref19_Proper_p12
  exact (ref19_Proper_p8_eq n a0 a1 a2 h10 w5 w103 (seqK (ref19_Proper_C n) n ref19_Proper_c11 k)).trans (ref19_Proper_p8_congr n a0 a1 a2 h10 w5 w103 (ref19_Proper_p11_eq n a0 a1 a2 h10 w5 k))
theorem ref19_Proper_p13_eq {R : Type} (n : Nat) (a0 : Int) (a1 : List (List D)) (a2 : List (List D)) (h10 : Int) (w5 : Int) (k : Exit → St → Option R) : vexec (ref19_Proper_C n) n ref19_Proper_c13 ⟨63, [(0, .d (D.int .i64 a0)), (1, .d (D.sl 3 a1)), (2, .d (D.sl 1 a2)), (7, .d (D.int .i64 h10)), (21, .d (D.int .i64 w5)), (22, .d (D.int .i64 h10))], []⟩ k = ref19_Proper_p13 n a0 a1 a2 h10 w5 (k .ret ⟨63, [(6, .d (D.bool false))], []⟩) (fun w163 w164 => k .normal ⟨63, [(0, .d (D.int .i64 a0)), (1, .d (D.sl 3 a1)), (2, .d (D.sl 1 a2)), (7, .d (D.int .i64 h10)), (8, .d (D.int .i64 w163)), (21, .d (D.int .i64 w5)), (22, .d (D.int .i64 h10)), (38, .d (D.bool w164))], []⟩) := by
  rw [ref19_Proper_c13_eq]
  unfold ref19_Proper_p13
  exact (ref19_Proper_p7_eq n a0 a1 a2 h10 w5 (seqK (ref19_Proper_C n) n ref19_Proper_c12 k)).trans (ref19_Proper_p7_congr n a0 a1 a2 h10 w5 (rfl) (fun w103 => ref19_Proper_p12_eq n a0 a1 a2 h10 w5 w103 k))
theorem ref19_Proper_p14_eq {R : Type} (n : Nat) (a0 : Int) (a1 : List (List D)) (a2 : List (List D)) (w5 : Int) (h10 : Int) (w94 : Bool) (k : Exit → St → Option R) : vexec (ref19_Proper_C n) n ref19_Proper_c14 ⟨63, [(0, .d (D.int .i64 a0)), (1, .d (D.sl 3 a1)), (2, .d (D.sl 1 a2)), (21, .d (D.int .i64 w5)), (22, .d (D.int .i64 h10)), (23, .d (D.bool w94))], []⟩ k = ref19_Proper_p14 n a0 a1 a2 w5 h10 w94 (k .ret ⟨63, [(6, .d (D.bool false))], []⟩) (fun w165 w166 => k .normal ⟨63, [(0, .d (D.int .i64 a0)), (1, .d (D.sl 3 a1)), (2, .d (D.sl 1 a2)), (7, .d (D.int .i64 h10)), (8, .d (D.int .i64 w165)), (21, .d (D.int .i64 w5)), (22, .d (D.int .i64 h10)), (38, .d (D.bool w166))], []⟩) := by
  rw [ref19_Proper_c14_eq]
  unfold ref19_Proper_p14
  exact (ref19_Proper_p6_eq n a0 a1 a2 w5 h10 w94 (seqK (ref19_Proper_C n) n ref19_Proper_c13 k)).trans (ref19_Proper_p6_congr n a0 a1 a2 w5 h10 w94 (ref19_Proper_p13_eq n a0 a1 a2 h10 w5 k))
theorem ref19_Proper_p15_eq {R : Type} (n : Nat) (a0 : Int) (a1 : List (List D)) (a2 : List (List D)) (w5 : Int) (h10 : Int) (w94 : Bool) (k : Exit → St → Option R) : vexec (ref19_Proper_C n) n ref19_Proper_c15 ⟨63, [(0, .d (D.int .i64 a0)), (1, .d (D.sl 3 a1)), (2, .d (D.sl 1 a2)), (21, .d (D.int .i64 w5)), (22, .d (D.int .i64 h10)), (23, .d (D.bool w94))], []⟩ k = ref19_Proper_p15 n a0 a1 a2 w5 h10 w94 (k .ret ⟨63, [(6, .d (D.bool false))], []⟩) (fun w167 w168 => k .normal ⟨63, [(0, .d (D.int .i64 a0)), (1, .d (D.sl 3 a1)), (2, .d (D.sl 1 a2)), (7, .d (D.int .i64 h10)), (8, .d (D.int .i64 w167)), (21, .d (D.int .i64 w5)), (22, .d (D.int .i64 h10)), (38, .d (D.bool w168))], []⟩) := by
  rw [ref19_Proper_c15_eq]
  unfold ref19_Proper_p15
  exact (ref19_Proper_p14_eq n a0 a1 a2 w5 h10 w94 (blockK 1 k)).trans (ref19_Proper_p14_congr n a0 a1 a2 w5 h10 w94 (rfl) (fun w167 w168 => rfl))
theorem ref19_Proper_p16_eq {R : Type} (n : Nat) (a0 : Int) (a1 : List (List D)) (a2 : List (List D)) (h10 : Int) (w169 : Int) (w5 : Int) (w170 : Bool) (k : Exit → St → Option R) : vexec (ref19_Proper_C n) n ref19_Proper_c16 ⟨63, [(0, .d (D.int .i64 a0)), (1, .d (D.sl 3 a1)), (2, .d (D.sl 1 a2)), (7, .d (D.int .i64 h10)), (8, .d (D.int .i64 w169)), (21, .d (D.int .i64 w5)), (22, .d (D.int .i64 h10)), (38, .d (D.bool w170))], []⟩ k = ref19_Proper_p16 n a0 a1 a2 h10 w169 w5 w170 (fun z171 => k .normal ⟨63, [(0, .d (D.int .i64 a0)), (1, .d (D.sl 3 a1)), (2, .d (D.sl 1 a2)), (21, .d (D.int .i64 w5)), (22, .d (D.int .i64 z171))], []⟩) := by kernel_rfl
theorem ref19_Proper_p17_eq {R : Type} (n : Nat) (a0 : Int) (a1 : List (List D)) (a2 : List (List D)) (w5 : Int) (h10 : Int) (w94 : Bool) (k : Exit → St → Option R) : vexec (ref19_Proper_C n) n ref19_Proper_c17 ⟨63, [(0, .d (D.int .i64 a0)), (1, .d (D.sl 3 a1)), (2, .d (D.sl 1 a2)), (21, .d (D.int .i64 w5)), (22, .d (D.int .i64 h10)), (23, .d (D.bool w94))], []⟩ k = ref19_Proper_p17 n a0 a1 a2 w5 h10 w94 (k .ret ⟨63, [(6, .d (D.bool false))], []⟩) (fun w172 => k .normal ⟨63, [(0, .d (D.int .i64 a0)), (1, .d (D.sl 3 a1)), (2, .d (D.sl 1 a2)), (21, .d (D.int .i64 w5)), (22, .d (D.int .i64 w172))], []⟩) := by
  rw [ref19_Proper_c17_eq]
  unfold ref19_Proper_p17
  exact (ref19_Proper_p15_eq n a0 a1 a2 w5 h10 w94 (seqK (ref19_Proper_C n) n ref19_Proper_c16 k)).trans (ref19_Proper_p15_congr n a0 a1 a2 w5 h10 w94 (rfl) (fun w169 w170 => ref19_Proper_p16_eq n a0 a1 a2 h10 w169 w5 w170 k))
theorem ref19_Proper_p18_eq {R : Type} (n : Nat) (a0 : Int) (a1 : List (List D)) (a2 : List (List D)) (w5 : Int) (h10 : Int) (w94 : Bool) (k : Exit → St → Option R) : vexec (ref19_Proper_C n) n ref19_Proper_c18 ⟨63, [(0, .d (D.int .i64 a0)), (1, .d (D.sl 3 a1)), (2, .d (D.sl 1 a2)), (21, .d (D.int .i64 w5)), (22, .d (D.int .i64 h10)), (23, .d (D.bool w94))], []⟩ k = ref19_Proper_p18 n a0 a1 a2 w5 h10 w94 (k .ret ⟨63, [(6, .d (D.bool false))], []⟩) (fun w173 => k .normal ⟨63, [(0, .d (D.int .i64 a0)), (1, .d (D.sl 3 a1)), (2, .d (D.sl 1 a2)), (21, .d (D.int .i64 w5)), (22, .d (D.int .i64 w173))], []⟩) (k (.exit 0) ⟨63, [(0, .d (D.int .i64 a0)), (1, .d (D.sl 3 a1)), (2, .d (D.sl 1 a2)), (21, .d (D.int .i64 w5)), (22, .d (D.int .i64 h10)), (23, .d (D.bool w94))], []⟩) := by
  rw [ref19_Proper_c18_eq]
  unfold ref19_Proper_p18
  exact (ref19_Proper_p5_eq n a0 a1 a2 w5 h10 w94 (seqK (ref19_Proper_C n) n ref19_Proper_c17 k)).trans (ref19_Proper_p5_congr n a0 a1 a2 w5 h10 w94 (ref19_Proper_p17_eq n a0 a1 a2 w5 h10 w94 k) (rfl))
theorem ref19_Proper_p19_eq {R : Type} (n : Nat) (a0 : Int) (a1 : List (List D)) (a2 : List (List D)) (w5 : Int) (h10 : Int) (k : Exit → St → Option R) : vexec (ref19_Proper_C n) n ref19_Proper_c19 ⟨63, [(0, .d (D.int .i64 a0)), (1, .d (D.sl 3 a1)), (2, .d (D.sl 1 a2)), (21, .d (D.int .i64 w5)), (22, .d (D.int .i64 h10))], []⟩ k = ref19_Proper_p19 n a0 a1 a2 w5 h10 (k .ret ⟨63, [(6, .d (D.bool false))], []⟩) (fun w174 => k .normal ⟨63, [(0, .d (D.int .i64 a0)), (1, .d (D.sl 3 a1)), (2, .d (D.sl 1 a2)), (21, .d (D.int .i64 w5)), (22, .d (D.int .i64 w174))], []⟩) (fun w94 => k (.exit 0) ⟨63, [(0, .d (D.int .i64 a0)), (1, .d (D.sl 3 a1)), (2, .d (D.sl 1 a2)), (21, .d (D.int .i64 w5)), (22, .d (D.int .i64 h10)), (23, .d (D.bool w94))], []⟩) := by
  rw [ref19_Proper_c19_eq]
  unfold ref19_Proper_p19
  exact (ref19_Proper_p4_eq n a0 a1 a2 w5 h10 (seqK (ref19_Proper_C n) n ref19_Proper_c18 k)).trans (ref19_Proper_p4_congr n a0 a1 a2 w5 h10 (fun w94 => ref19_Proper_p18_eq n a0 a1 a2 w5 h10 w94 k))
theorem ref19_Proper_r20_eq {R : Type} (n : Nat) (a0 : Int) (a1 : List (List D)) (a2 : List (List D)) (w5 : Int) (k : Exit → St → Option R) : ∀ (m : Nat) (h10 : Int), loopN (vexec (ref19_Proper_C n) n ref19_Proper_c19) m ⟨63, [(0, .d (D.int .i64 a0)), (1, .d (D.sl 3 a1)), (2, .d (D.sl 1 a2)), (21, .d (D.int .i64 w5)), (22, .d (D.int .i64 h10))], []⟩ k = ref19_Proper_r20 n a0 a1 a2 w5 (k .ret ⟨63, [(6, .d (D.bool false))], []⟩) (fun h10 w176 => k (.exit 0) ⟨63, [(0, .d (D.int .i64 a0)), (1, .d (D.sl 3 a1)), (2, .d (D.sl 1 a2)), (21, .d (D.int .i64 w5)), (22, .d (D.int .i64 h10)), (23, .d (D.bool w176))], []⟩) m h10
  | 0, _ => rfl
  | m + 1, h10 => (ref19_Proper_p19_eq n a0 a1 a2 w5 h10 (loopK (vexec (ref19_Proper_C n) n ref19_Proper_c19) m k)).trans (ref19_Proper_p19_congr n a0 a1 a2 w5 h10 (rfl) (fun w175 => ref19_Proper_r20_eq n a0 a1 a2 w5 k m w175) (fun w176 => rfl))
theorem ref19_Proper_p20_eq {R : Type} (n : Nat) (a0 : Int) (a1 : List (List D)) (a2 : List (List D)) (w5 : Int) (k : Exit → St → Option R) : vexec (ref19_Proper_C n) n ref19_Proper_c20 ⟨63, [(0, .d (D.int .i64 a0)), (1, .d (D.sl 3 a1)), (2, .d (D.sl 1 a2)), (21, .d (D.int .i64 w5)), (22, .d (D.int .i64 (0 : Int)))], []⟩ k = ref19_Proper_p20 n a0 a1 a2 w5 (k .ret ⟨63, [(6, .d (D.bool false))], []⟩) (fun h10 w176 => k (.exit 0) ⟨63, [(0, .d (D.int .i64 a0)), (1, .d (D.sl 3 a1)), (2, .d (D.sl 1 a2)), (21, .d (D.int .i64 w5)), (22, .d (D.int .i64 h10)), (23, .d (D.bool w176))], []⟩) := by
  rw [ref19_Proper_c20_eq]
  exact ref19_Proper_r20_eq n a0 a1 a2 w5 k n (0 : Int)
theorem ref19_Proper_p21_eq {R : Type} (n : Nat) (a0 : Int) (a1 : List (List D)) (a2 : List (List D)) (w5 : Int) (k : Exit → St → Option R) : vexec (ref19_Proper_C n) n ref19_Proper_c21 ⟨63, [(0, .d (D.int .i64 a0)), (1, .d (D.sl 3 a1)), (2, .d (D.sl 1 a2)), (21, .d (D.int .i64 w5)), (22, .d (D.int .i64 (0 : Int)))], []⟩ k = ref19_Proper_p21 n a0 a1 a2 w5 (k .ret ⟨63, [(6, .d (D.bool false))], []⟩) (fun w177 w178 => k .normal ⟨63, [(0, .d (D.int .i64 a0)), (1, .d (D.sl 3 a1)), (2, .d (D.sl 1 a2)), (21, .d (D.int .i64 w5)), (22, .d (D.int .i64 w177)), (23, .d (D.bool w178))], []⟩) := by
  rw [ref19_Proper_c21_eq]
  unfold ref19_Proper_p21
  exact (ref19_Proper_p20_eq n a0 a1 a2 w5 (blockK 0 k)).trans (ref19_Proper_p20_congr n a0 a1 a2 w5 (rfl) (fun w177 w178 => rfl))
theorem ref19_Proper_p22_eq {R : Type} (n : Nat) (a0 : Int) (a1 : List (List D)) (a2 : List (List D)) (w3 : Bool) (k : Exit → St → Option R) : vexec (ref19_Proper_C n) n ref19_Proper_c22 ⟨63, [(0, .d (D.int .i64 a0)), (1, .d (D.sl 3 a1)), (2, .d (D.sl 1 a2)), (19, .d (D.bool w3))], []⟩ k = ref19_Proper_p22 n a0 a1 a2 w3 (k .ret ⟨63, [(6, .d (D.bool false))], []⟩) (fun w5 w179 w180 => k .normal ⟨63, [(0, .d (D.int .i64 a0)), (1, .d (D.sl 3 a1)), (2, .d (D.sl 1 a2)), (21, .d (D.int .i64 w5)), (22, .d (D.int .i64 w179)), (23, .d (D.bool w180))], []⟩) := by
  rw [ref19_Proper_c22_eq]
  unfold ref19_Proper_p22
  exact (ref19_Proper_p3_eq n a0 a1 a2 w3 (seqK (ref19_Proper_C n) n ref19_Proper_c21 k)).trans (ref19_Proper_p3_congr n a0 a1 a2 w3 (fun w5 => ref19_Proper_p21_eq n a0 a1 a2 w5 k))
theorem ref19_Proper_p23_eq {R : Type} (n : Nat) (a0 : Int) (a1 : List (List D)) (a2 : List (List D)) (w181 : Int) (w182 : Int) (w183 : Bool) (k : Exit → St → Option R) : vexec (ref19_Proper_C n) n ref19_Proper_c23 ⟨63, [(0, .d (D.int .i64 a0)), (1, .d (D.sl 3 a1)), (2, .d (D.sl 1 a2)), (21, .d (D.int .i64 w181)), (22, .d (D.int .i64 w182)), (23, .d (D.bool w183))], []⟩ k = ref19_Proper_p23 n a0 a1 a2 w181 w182 w183 (k .ret ⟨63, [(6, .d (D.bool true))], []⟩) := by kernel_rfl
theorem ref19_Proper_p24_eq {R : Type} (n : Nat) (a0 : Int) (a1 : List (List D)) (a2 : List (List D)) (w3 : Bool) (k : Exit → St → Option R) : vexec (ref19_Proper_C n) n ref19_Proper_c24 ⟨63, [(0, .d (D.int .i64 a0)), (1, .d (D.sl 3 a1)), (2, .d (D.sl 1 a2)), (19, .d (D.bool w3))], []⟩ k = ref19_Proper_p24 n a0 a1 a2 w3 (fun z184 => k .ret ⟨63, [(6, .d (D.bool z184))], []⟩) := by
  rw [ref19_Proper_c24_eq]
  unfold ref19_Proper_p24
  exact (ref19_Proper_p22_eq n a0 a1 a2 w3 (seqK (ref19_Proper_C n) n ref19_Proper_c23 k)).trans (ref19_Proper_p22_congr n a0 a1 a2 w3 (rfl) (fun w181 w182 w183 => ref19_Proper_p23_eq n a0 a1 a2 w181 w182 w183 k))
theorem ref19_Proper_p25_eq {R : Type} (n : Nat) (a0 : Int) (a1 : List (List D)) (a2 : List (List D)) (k : Exit → St → Option R) : vexec (ref19_Proper_C n) n ref19_Proper_c25 ⟨63, [(0, .d (D.int .i64 a0)), (1, .d (D.sl 3 a1)), (2, .d (D.sl 1 a2))], []⟩ k = ref19_Proper_p25 n a0 a1 a2 (fun z186 => k .ret ⟨63, [(6, .d (D.bool z186))], []⟩) := by
  rw [ref19_Proper_c25_eq]
  unfold ref19_Proper_p25
  exact (ref19_Proper_p2_eq n a0 a1 a2 (seqK (ref19_Proper_C n) n ref19_Proper_c24 k)).trans (ref19_Proper_p2_congr n a0 a1 a2 (rfl) (fun w3 => ref19_Proper_p24_eq n a0 a1 a2 w3 k))
theorem ref19_Proper_p26_eq {R : Type} (n : Nat) (a0 : Int) (a1 : List (List D)) (a2 : List (List D)) (k : Exit → St → Option R) : vexec (ref19_Proper_C n) n ref19_Proper_c0 ⟨63, [(0, .d (D.int .i64 a0)), (1, .d (D.sl 3 a1)), (2, .d (D.sl 1 a2))], []⟩ k = ref19_Proper_p26 n a0 a1 a2 (fun w187 => k .ret ⟨63, [(6, .d (D.bool w187))], []⟩) := by
  rw [ref19_Proper_c0_eq]
  unfold ref19_Proper_p26
  exact (ref19_Proper_p1_eq n a0 a1 a2 (seqK (ref19_Proper_C n) n ref19_Proper_c25 k)).trans (ref19_Proper_p1_congr n a0 a1 a2 (ref19_Proper_p25_eq n a0 a1 a2 k))
theorem ref19_Proper_vfn {R : Type} (n : Nat) (a0 : Int) (a1 : List (List D)) (a2 : List (List D)) (K : AV → Option R) : vfn (ref19_Proper_C n) n Try.f18 [.d (D.int .i64 a0), .d (D.sl 3 a1), .d (D.sl 1 a2)] [] (retF [[0]] K) = ref19_Proper n a0 a1 a2 (fun r0 => K (.d (D.bool r0))) :=
  (show vfn (ref19_Proper_C n) n Try.f18 [.d (D.int .i64 a0), .d (D.sl 3 a1), .d (D.sl 1 a2)] [] (retF [[0]] K) = vexec (ref19_Proper_C n) n ref19_Proper_c0 ⟨63, [(0, .d (D.int .i64 a0)), (1, .d (D.sl 3 a1)), (2, .d (D.sl 1 a2))], []⟩ (retX ref19_Proper_tt [.tmp 6] (retF [[0]] K)) from vfn_at (by kernel_rfl) (by kernel_rfl) rfl (by kernel_rfl) rfl (by kernel_rfl) rfl).trans ((ref19_Proper_p26_eq n a0 a1 a2 (retX ref19_Proper_tt [.tmp 6] (retF [[0]] K))).trans (by kernel_rfl))
def ref19_Proper_K : AV → Option (Bool) := fun av => match av with
  | .d (D.bool r0) => some r0
  | _ => none
def ref19_Proper_e (n : Nat) : Entry := fun _ _ g avs _ k => match avs with
  | [c0, c1, c2] => prI g .i64 c0 fun a0 => prS g 3 c1 fun a1 => prS g 1 c2 fun a2 => 
    gb g (ref19_Proper n a0 a1 a2 some) false fun r => k ⟨.d (D.bool r), [], []⟩
  | _ => none
theorem ref19_Proper_ok (n : Nat) : EntryOK Try.prog 18 (ref19_Proper_e n) := by
  intro R site g avs hl k r h
  unfold ref19_Proper_e at h
  split at h
  rotate_left
  · cases h
  replace h := prI_some h
  obtain ⟨a0, h, le0⟩ := h
  replace h := prS_some h
  obtain ⟨a1, h, le1⟩ := h
  replace h := prS_some h
  obtain ⟨a2, h, le2⟩ := h
  replace h := gb_some h
  obtain ⟨res, h, hr⟩ := h
  refine ⟨_, h, fun hg => CallOK.conv (avs' := [.d (D.int .i64 a0), .d (D.sl 3 a1), .d (D.sl 1 a2)]) (.cons (le0 hg) (.cons (le1 hg) (.cons (le2 hg) (.nil)))) (callOK_fix (K := ref19_Proper_K) (res := res) (ref19_Proper_VC n) (fn := Try.f18) (n := n) (by kernel_rfl) (by kernel_rfl) (by kernel_rfl) (ss := [[0]]) rfl ?_ ?_)⟩
  · exact (ref19_Proper_vfn n a0 a1 a2 ref19_Proper_K).trans (hr hg)
  · intro x hx
    unfold ref19_Proper_K at hx
    split at hx
    · injection hx with hx; subst hx; rfl
    · cases hx
end Go.Vx
/-
  law20_PlatformAssigns: the interpreter computes the pure function
-/
set_option linter.unusedVariables false
set_option linter.unusedSimpArgs false
set_option maxRecDepth 100000
namespace Go.Vx
open Go.Proofs
noncomputable def law20_PlatformAssigns_c0 : Code := bodyOf Try.f4
noncomputable def law20_PlatformAssigns_c1 : Code := cL (bodyOf Try.f4)
noncomputable def law20_PlatformAssigns_c2 : Code := cL (cR (bodyOf Try.f4))
noncomputable def law20_PlatformAssigns_c3 : Code := cL (cR (cR (bodyOf Try.f4)))
noncomputable def law20_PlatformAssigns_c4 : Code := cL (cR (cR (cR (bodyOf Try.f4))))
noncomputable def law20_PlatformAssigns_c5 : Code := cL (cR (cR (cR (cR (bodyOf Try.f4)))))
noncomputable def law20_PlatformAssigns_c6 : Code := cL (cR (cR (cR (cR (cR (bodyOf Try.f4))))))
noncomputable def law20_PlatformAssigns_c7 : Code := cL (cL (cR (cR (cR (cR (cR (cR (bodyOf Try.f4))))))))
noncomputable def law20_PlatformAssigns_c8 : Code := cB (cB (cR (cL (cR (cR (cR (cR (cR (cR (bodyOf Try.f4))))))))))
noncomputable def law20_PlatformAssigns_c9 : Code := cB (cR (cL (cR (cR (cR (cR (cR (cR (bodyOf Try.f4)))))))))
noncomputable def law20_PlatformAssigns_c10 : Code := cR (cL (cR (cR (cR (cR (cR (cR (bodyOf Try.f4))))))))
noncomputable def law20_PlatformAssigns_c11 : Code := cL (cR (cR (cR (cR (cR (cR (bodyOf Try.f4)))))))
noncomputable def law20_PlatformAssigns_c12 : Code := cL (cR (cR (cR (cR (cR (cR (cR (bodyOf Try.f4))))))))
noncomputable def law20_PlatformAssigns_c13 : Code := cL (cR (cR (cR (cR (cR (cR (cR (cR (bodyOf Try.f4)))))))))
noncomputable def law20_PlatformAssigns_c14 : Code := cL (cR (cR (cR (cR (cR (cR (cR (cR (cR (bodyOf Try.f4))))))))))
noncomputable def law20_PlatformAssigns_c15 : Code := cL (cL (cR (cR (cR (cR (cR (cR (cR (cR (cR (cR (bodyOf Try.f4))))))))))))
noncomputable def law20_PlatformAssigns_c16 : Code := cB (cB (cR (cL (cR (cR (cR (cR (cR (cR (cR (cR (cR (cR (bodyOf Try.f4))))))))))))))
noncomputable def law20_PlatformAssigns_c17 : Code := cB (cR (cL (cR (cR (cR (cR (cR (cR (cR (cR (cR (cR (bodyOf Try.f4)))))))))))))
noncomputable def law20_PlatformAssigns_c18 : Code := cR (cL (cR (cR (cR (cR (cR (cR (cR (cR (cR (cR (bodyOf Try.f4))))))))))))
noncomputable def law20_PlatformAssigns_c19 : Code := cL (cR (cR (cR (cR (cR (cR (cR (cR (cR (cR (bodyOf Try.f4)))))))))))
noncomputable def law20_PlatformAssigns_c20 : Code := cR (cR (cR (cR (cR (cR (cR (cR (cR (cR (cR (bodyOf Try.f4)))))))))))
noncomputable def law20_PlatformAssigns_c21 : Code := cR (cR (cR (cR (cR (cR (cR (cR (cR (cR (bodyOf Try.f4))))))))))
noncomputable def law20_PlatformAssigns_c22 : Code := cR (cR (cR (cR (cR (cR (cR (cR (cR (bodyOf Try.f4)))))))))
noncomputable def law20_PlatformAssigns_c23 : Code := cR (cR (cR (cR (cR (cR (cR (cR (bodyOf Try.f4))))))))
noncomputable def law20_PlatformAssigns_c24 : Code := cR (cR (cR (cR (cR (cR (cR (bodyOf Try.f4)))))))
noncomputable def law20_PlatformAssigns_c25 : Code := cR (cR (cR (cR (cR (cR (bodyOf Try.f4))))))
noncomputable def law20_PlatformAssigns_c26 : Code := cR (cR (cR (cR (cR (bodyOf Try.f4)))))
noncomputable def law20_PlatformAssigns_c27 : Code := cR (cR (cR (cR (bodyOf Try.f4))))
noncomputable def law20_PlatformAssigns_c28 : Code := cR (cR (cR (bodyOf Try.f4)))
noncomputable def law20_PlatformAssigns_c29 : Code := cR (cR (bodyOf Try.f4))
noncomputable def law20_PlatformAssigns_c30 : Code := cR (bodyOf Try.f4)
theorem law20_PlatformAssigns_c9_eq : law20_PlatformAssigns_c9 = .loop law20_PlatformAssigns_c8 := by kernel_rfl
theorem law20_PlatformAssigns_c10_eq : law20_PlatformAssigns_c10 = .block 0 law20_PlatformAssigns_c9 := by kernel_rfl
theorem law20_PlatformAssigns_c11_eq : law20_PlatformAssigns_c11 = .seq law20_PlatformAssigns_c7 law20_PlatformAssigns_c10 := by kernel_rfl
theorem law20_PlatformAssigns_c17_eq : law20_PlatformAssigns_c17 = .loop law20_PlatformAssigns_c16 := by kernel_rfl
theorem law20_PlatformAssigns_c18_eq : law20_PlatformAssigns_c18 = .block 2 law20_PlatformAssigns_c17 := by kernel_rfl
theorem law20_PlatformAssigns_c19_eq : law20_PlatformAssigns_c19 = .seq law20_PlatformAssigns_c15 law20_PlatformAssigns_c18 := by kernel_rfl
theorem law20_PlatformAssigns_c21_eq : law20_PlatformAssigns_c21 = .seq law20_PlatformAssigns_c19 law20_PlatformAssigns_c20 := by kernel_rfl
theorem law20_PlatformAssigns_c22_eq : law20_PlatformAssigns_c22 = .seq law20_PlatformAssigns_c14 law20_PlatformAssigns_c21 := by kernel_rfl
theorem law20_PlatformAssigns_c23_eq : law20_PlatformAssigns_c23 = .seq law20_PlatformAssigns_c13 law20_PlatformAssigns_c22 := by kernel_rfl
theorem law20_PlatformAssigns_c24_eq : law20_PlatformAssigns_c24 = .seq law20_PlatformAssigns_c12 law20_PlatformAssigns_c23 := by kernel_rfl
theorem law20_PlatformAssigns_c25_eq : law20_PlatformAssigns_c25 = .seq law20_PlatformAssigns_c11 law20_PlatformAssigns_c24 := by kernel_rfl
theorem law20_PlatformAssigns_c26_eq : law20_PlatformAssigns_c26 = .seq law20_PlatformAssigns_c6 law20_PlatformAssigns_c25 := by kernel_rfl
theorem law20_PlatformAssigns_c27_eq : law20_PlatformAssigns_c27 = .seq law20_PlatformAssigns_c5 law20_PlatformAssigns_c26 := by kernel_rfl
theorem law20_PlatformAssigns_c28_eq : law20_PlatformAssigns_c28 = .seq law20_PlatformAssigns_c4 law20_PlatformAssigns_c27 := by kernel_rfl
theorem law20_PlatformAssigns_c29_eq : law20_PlatformAssigns_c29 = .seq law20_PlatformAssigns_c3 law20_PlatformAssigns_c28 := by kernel_rfl
theorem law20_PlatformAssigns_c30_eq : law20_PlatformAssigns_c30 = .seq law20_PlatformAssigns_c2 law20_PlatformAssigns_c29 := by kernel_rfl
theorem law20_PlatformAssigns_c0_eq : law20_PlatformAssigns_c0 = .seq law20_PlatformAssigns_c1 law20_PlatformAssigns_c30 := by kernel_rfl
def law20_PlatformAssigns_tt : TT := [(3, ⟨.int .i64, 1, 8, [.int .i64 0], [.int .i64 0], [], none⟩), (22, ⟨.sl 3 1, 1, 24, [.slice none 0 0], [.sl 1 []], [], none⟩), (24, ⟨.sl 28 3, 1, 24, [.slice none 0 0], [.sl 3 []], [], none⟩), (28, ⟨.struct, 3, 40, [.int .i64 0, .int .i64 0, .slice none 0 0], [.int .i64 0, .int .i64 0, .sl 1 []], [(0, 3), (1, 3), (2, 22)], none⟩), (31, ⟨.int .i64, 1, 8, [.int .i64 0], [.int .i64 0], [], none⟩)]
theorem law20_PlatformAssigns_tt_eq : mkTT Try.prog [3, 22, 24, 28, 31] = law20_PlatformAssigns_tt := by kernel_rfl
def law20_PlatformAssigns_cfg : List (Nat × Cfg) := [(0, ⟨[0, 1, 2], [], [], [], []⟩), (1, ⟨[0, 1, 2], [], [], [], []⟩), (2, ⟨[0, 2, 7], [], [], [], []⟩), (3, ⟨[0, 2, 7, 8, 10], [], [], [], []⟩), (4, ⟨[0, 7, 8, 10, 11], [(100029, 100029)], [], [], []⟩), (5, ⟨[0, 7, 8, 10, 11, 12], [(100029, 100029)], [], [], []⟩), (6, ⟨[0, 7, 8, 10, 11, 12, 31, 32], [(100029, 100029)], [(12, 1012, 3, 1)], [], []⟩), (7, ⟨[0, 7, 8, 10, 11, 12, 31, 32, 33], [(1012, 1012), (100029, 100029)], [], [], []⟩), (8, ⟨[0, 7, 8, 10, 11, 12, 13, 31, 32], [(1012, 1012), (100029, 100029)], [], [], []⟩), (9, ⟨[0, 7, 8, 10, 11, 12, 13, 31, 32, 41], [(1012, 1012), (100029, 100029)], [], [], []⟩), (10, ⟨[0, 7, 8, 10, 11, 12, 31, 32], [(59, 1012), (100029, 100029)], [], [], []⟩), (11, ⟨[0, 7, 8, 10, 11, 12, 31, 32], [(1012, 1012), (100029, 100029)], [], [], []⟩), (12, ⟨[0, 7, 8, 10, 12, 62], [(1012, 1012)], [], [], []⟩), (13, ⟨[6], [], [], [], []⟩), (14, ⟨[0, 7, 8, 12, 79], [(1012, 1012)], [], [], []⟩), (15, ⟨[6], [], [], [], []⟩), (16, ⟨[8, 12, 84], [(1012, 1012)], [], [], []⟩), (17, ⟨[6], [], [], [], []⟩), (18, ⟨[8, 12, 87, 88], [(1012, 1012)], [], [], []⟩), (19, ⟨[8, 12, 87, 88, 89], [(1012, 1012)], [], [], []⟩), (20, ⟨[8, 12, 14, 87, 88], [(1012, 1012)], [], [], []⟩), (21, ⟨[8, 12, 14, 87, 88, 99], [(1012, 1012)], [], [], []⟩), (22, ⟨[6], [], [], [], []⟩), (23, ⟨[8, 12, 87, 88], [(1012, 1012)], [], [], []⟩), (24, ⟨[6], [], [], [], []⟩)]
def law20_PlatformAssigns_C (n : Nat) : VC := ⟨specOf [(10, keep_Pick_e n), (11, law20_visits_e n), (15, platform_Assign_e n), (16, keep_From_o n), (17, keep_Source_Next_o n), (12, law20_awake_e n), (18, ref19_Proper_e n)], law20_PlatformAssigns_tt, law20_PlatformAssigns_cfg⟩
theorem law20_PlatformAssigns_ents (n : Nat) : EntsOK Try.prog [(10, keep_Pick_e n), (11, law20_visits_e n), (15, platform_Assign_e n), (16, keep_From_o n), (17, keep_Source_Next_o n), (12, law20_awake_e n), (18, ref19_Proper_e n)] := ⟨keep_Pick_ok n, ⟨law20_visits_ok n, ⟨platform_Assign_ok n, ⟨keep_From_oo n, ⟨keep_Source_Next_oo n, ⟨law20_awake_ok n, ⟨ref19_Proper_ok n, trivial⟩⟩⟩⟩⟩⟩⟩
theorem law20_PlatformAssigns_VC (n : Nat) : VCOk Try.prog (law20_PlatformAssigns_C n) := ⟨specOf_ok (law20_PlatformAssigns_ents n), (law20_PlatformAssigns_tt_eq ▸ mkTT_ok _ : TOk Try.prog law20_PlatformAssigns_tt), by kernel_rfl⟩
theorem law20_PlatformAssigns_p1_congr {R : Type} (n : Nat) (a0 : Int) (a1 : List (List D)) (a2 : List (List D)) {k0 kk0 : Option R} (hq0 : k0 = kk0) : law20_PlatformAssigns_p1 n a0 a1 a2 k0 = law20_PlatformAssigns_p1 n a0 a1 a2 kk0 := by
  obtain rfl : k0 = kk0 := hq0
  rfl
theorem law20_PlatformAssigns_p2_congr {R : Type} (n : Nat) (a0 : Int) (a1 : List (List D)) (a2 : List (List D)) {k0 kk0 : Int → Option R} (hq0 : ∀ x0, k0 x0 = kk0 x0) : law20_PlatformAssigns_p2 n a0 a1 a2 k0 = law20_PlatformAssigns_p2 n a0 a1 a2 kk0 := by
  obtain rfl : k0 = kk0 := funext fun x0 => hq0 x0
  rfl
theorem law20_PlatformAssigns_p3_congr {R : Type} (n : Nat) (w3 : Int) (a1 : List (List D)) (a2 : List (List D)) {k0 kk0 : (List (List D)) → Option R} (hq0 : ∀ x0, k0 x0 = kk0 x0) : law20_PlatformAssigns_p3 n w3 a1 a2 k0 = law20_PlatformAssigns_p3 n w3 a1 a2 kk0 := by
  obtain rfl : k0 = kk0 := funext fun x0 => hq0 x0
  rfl
theorem law20_PlatformAssigns_p4_congr {R : Type} (n : Nat) (w3 : Int) (a2 : List (List D)) (w5 : List (List D)) {k0 kk0 : (List (List D)) → Int → Option R} (hq0 : ∀ x0 x1, k0 x0 x1 = kk0 x0 x1) : law20_PlatformAssigns_p4 n w3 a2 w5 k0 = law20_PlatformAssigns_p4 n w3 a2 w5 kk0 := by
  obtain rfl : k0 = kk0 := funext fun x0 => funext fun x1 => hq0 x0 x1
  rfl
theorem law20_PlatformAssigns_p5_congr {R : Type} (n : Nat) (w3 : Int) (a2 : List (List D)) (w5 : List (List D)) (w9 : List (List D)) (w10 : Int) {k0 kk0 : (List (List D)) → Int → Option R} (hq0 : ∀ x0 x1, k0 x0 x1 = kk0 x0 x1) : law20_PlatformAssigns_p5 n w3 a2 w5 w9 w10 k0 = law20_PlatformAssigns_p5 n w3 a2 w5 w9 w10 kk0 := by
  obtain rfl : k0 = kk0 := funext fun x0 => funext fun x1 => hq0 x0 x1
  rfl
theorem law20_PlatformAssigns_p6_congr {R : Type} (n : Nat) (w3 : Int) (w5 : List (List D)) (w9 : List (List D)) (w10 : Int) (w14 : List (List D)) (w15 : Int) {k0 kk0 : Option R} (hq0 : k0 = kk0) : law20_PlatformAssigns_p6 n w3 w5 w9 w10 w14 w15 k0 = law20_PlatformAssigns_p6 n w3 w5 w9 w10 w14 w15 kk0 := by
  obtain rfl : k0 = kk0 := hq0
  rfl
theorem law20_PlatformAssigns_p7_congr {R : Type} (n : Nat) (w3 : Int) (w5 : List (List D)) (w9 : List (List D)) (w10 : Int) (w14 : List (List D)) (w15 : Int) {k0 kk0 : Int → Option R} (hq0 : ∀ x0, k0 x0 = kk0 x0) : law20_PlatformAssigns_p7 n w3 w5 w9 w10 w14 w15 k0 = law20_PlatformAssigns_p7 n w3 w5 w9 w10 w14 w15 kk0 := by
  obtain rfl : k0 = kk0 := funext fun x0 => hq0 x0
  rfl
theorem law20_PlatformAssigns_p8_congr {R : Type} (n : Nat) (w3 : Int) (w5 : List (List D)) (w9 : List (List D)) (w10 : Int) (w17 : Int) (h23 : Int) (h24 : List (List D)) (h25 : List (List D)) (h26 : Int) {k0 kk0 : Int → (List (List D)) → (List (List D)) → Int → Option R} {k1 kk1 : Bool → Option R} (hq0 : ∀ x0 x1 x2 x3, k0 x0 x1 x2 x3 = kk0 x0 x1 x2 x3) (hq1 : ∀ x0, k1 x0 = kk1 x0) : law20_PlatformAssigns_p8 n w3 w5 w9 w10 w17 h23 h24 h25 h26 k0 k1 = law20_PlatformAssigns_p8 n w3 w5 w9 w10 w17 h23 h24 h25 h26 kk0 kk1 := by
  obtain rfl : k0 = kk0 := funext fun x0 => funext fun x1 => funext fun x2 => funext fun x3 => hq0 x0 x1 x2 x3
  obtain rfl : k1 = kk1 := funext fun x0 => hq1 x0
  rfl
theorem law20_PlatformAssigns_p9_congr {R : Type} (n : Nat) (w3 : Int) (w5 : List (List D)) (w9 : List (List D)) (w10 : Int) (w17 : Int) (w14 : List (List D)) (w15 : Int) {k0 kk0 : Int → Bool → (List (List D)) → (List (List D)) → Int → Option R} (hq0 : ∀ x0 x1 x2 x3 x4, k0 x0 x1 x2 x3 x4 = kk0 x0 x1 x2 x3 x4) : law20_PlatformAssigns_p9 n w3 w5 w9 w10 w17 w14 w15 k0 = law20_PlatformAssigns_p9 n w3 w5 w9 w10 w17 w14 w15 kk0 := by
  obtain rfl : k0 = kk0 := funext fun x0 => funext fun x1 => funext fun x2 => funext fun x3 => funext fun x4 => hq0 x0 x1 x2 x3 x4
  rfl
theorem law20_PlatformAssigns_p10_congr {R : Type} (n : Nat) (w3 : Int) (w5 : List (List D)) (w9 : List (List D)) (w10 : Int) (w17 : Int) (w14 : List (List D)) (w15 : Int) {k0 kk0 : Int → Bool → (List (List D)) → (List (List D)) → Int → Option R} (hq0 : ∀ x0 x1 x2 x3 x4, k0 x0 x1 x2 x3 x4 = kk0 x0 x1 x2 x3 x4) : law20_PlatformAssigns_p10 n w3 w5 w9 w10 w17 w14 w15 k0 = law20_PlatformAssigns_p10 n w3 w5 w9 w10 w17 w14 w15 kk0 := by
  obtain rfl : k0 = kk0 := funext fun x0 => funext fun x1 => funext fun x2 => funext fun x3 => funext fun x4 => hq0 x0 x1 x2 x3 x4
  rfl
theorem law20_PlatformAssigns_p11_congr {R : Type} (n : Nat) (w3 : Int) (w5 : List (List D)) (w9 : List (List D)) (w10 : Int) (w14 : List (List D)) (w15 : Int) {k0 kk0 : Int → Int → Bool → (List (List D)) → (List (List D)) → Int → Option R} (hq0 : ∀ x0 x1 x2 x3 x4 x5, k0 x0 x1 x2 x3 x4 x5 = kk0 x0 x1 x2 x3 x4 x5) : law20_PlatformAssigns_p11 n w3 w5 w9 w10 w14 w15 k0 = law20_PlatformAssigns_p11 n w3 w5 w9 w10 w14 w15 kk0 := by
  obtain rfl : k0 = kk0 := funext fun x0 => funext fun x1 => funext fun x2 => funext fun x3 => funext fun x4 => funext fun x5 => hq0 x0 x1 x2 x3 x4 x5
  rfl
theorem law20_PlatformAssigns_p12_congr {R : Type} (n : Nat) (w3 : Int) (w5 : List (List D)) (w9 : List (List D)) (w10 : Int) (w80 : Int) (w81 : Int) (w82 : Bool) (w83 : List (List D)) (w84 : List (List D)) (w85 : Int) {k0 kk0 : Bool → Option R} {k1 kk1 : Bool → Option R} (hq0 : ∀ x0, k0 x0 = kk0 x0) (hq1 : ∀ x0, k1 x0 = kk1 x0) : law20_PlatformAssigns_p12 n w3 w5 w9 w10 w80 w81 w82 w83 w84 w85 k0 k1 = law20_PlatformAssigns_p12 n w3 w5 w9 w10 w80 w81 w82 w83 w84 w85 kk0 kk1 := by
  obtain rfl : k0 = kk0 := funext fun x0 => hq0 x0
  obtain rfl : k1 = kk1 := funext fun x0 => hq1 x0
  rfl
theorem law20_PlatformAssigns_p13_congr {R : Type} (n : Nat) (w3 : Int) (w5 : List (List D)) (w9 : List (List D)) (w10 : Int) (w91 : Bool) (w83 : List (List D)) {k0 kk0 : Option R} {k1 kk1 : Bool → Option R} (hq0 : k0 = kk0) (hq1 : ∀ x0, k1 x0 = kk1 x0) : law20_PlatformAssigns_p13 n w3 w5 w9 w10 w91 w83 k0 k1 = law20_PlatformAssigns_p13 n w3 w5 w9 w10 w91 w83 kk0 kk1 := by
  obtain rfl : k0 = kk0 := hq0
  obtain rfl : k1 = kk1 := funext fun x0 => hq1 x0
  rfl
theorem law20_PlatformAssigns_p14_congr {R : Type} (n : Nat) (w3 : Int) (w5 : List (List D)) (w9 : List (List D)) (w94 : Bool) (w83 : List (List D)) {k0 kk0 : Bool → Option R} {k1 kk1 : Bool → Option R} (hq0 : ∀ x0, k0 x0 = kk0 x0) (hq1 : ∀ x0, k1 x0 = kk1 x0) : law20_PlatformAssigns_p14 n w3 w5 w9 w94 w83 k0 k1 = law20_PlatformAssigns_p14 n w3 w5 w9 w94 w83 kk0 kk1 := by
  obtain rfl : k0 = kk0 := funext fun x0 => hq0 x0
  obtain rfl : k1 = kk1 := funext fun x0 => hq1 x0
  rfl
theorem law20_PlatformAssigns_p15_congr {R : Type} (n : Nat) (w9 : List (List D)) (w99 : Bool) (w83 : List (List D)) {k0 kk0 : Int → Option R} (hq0 : ∀ x0, k0 x0 = kk0 x0) : law20_PlatformAssigns_p15 n w9 w99 w83 k0 = law20_PlatformAssigns_p15 n w9 w99 w83 kk0 := by
  obtain rfl : k0 = kk0 := funext fun x0 => hq0 x0
  rfl
theorem law20_PlatformAssigns_p16_congr {R : Type} (n : Nat) (w9 : List (List D)) (w101 : Int) (h104 : Int) (w83 : List (List D)) {k0 kk0 : Bool → Option R} {k1 kk1 : Int → Option R} {k2 kk2 : Bool → Option R} (hq0 : ∀ x0, k0 x0 = kk0 x0) (hq1 : ∀ x0, k1 x0 = kk1 x0) (hq2 : ∀ x0, k2 x0 = kk2 x0) : law20_PlatformAssigns_p16 n w9 w101 h104 w83 k0 k1 k2 = law20_PlatformAssigns_p16 n w9 w101 h104 w83 kk0 kk1 kk2 := by
  obtain rfl : k0 = kk0 := funext fun x0 => hq0 x0
  obtain rfl : k1 = kk1 := funext fun x0 => hq1 x0
  obtain rfl : k2 = kk2 := funext fun x0 => hq2 x0
  rfl
theorem law20_PlatformAssigns_p17_congr {R : Type} (n : Nat) (w9 : List (List D)) (w101 : Int) (w83 : List (List D)) {k0 kk0 : Bool → Option R} {k1 kk1 : Int → Bool → Option R} (hq0 : ∀ x0, k0 x0 = kk0 x0) (hq1 : ∀ x0 x1, k1 x0 x1 = kk1 x0 x1) : law20_PlatformAssigns_p17 n w9 w101 w83 k0 k1 = law20_PlatformAssigns_p17 n w9 w101 w83 kk0 kk1 := by
  obtain rfl : k0 = kk0 := funext fun x0 => hq0 x0
  obtain rfl : k1 = kk1 := funext fun x0 => funext fun x1 => hq1 x0 x1
  rfl
theorem law20_PlatformAssigns_p18_congr {R : Type} (n : Nat) (w9 : List (List D)) (w101 : Int) (w83 : List (List D)) {k0 kk0 : Bool → Option R} {k1 kk1 : Int → Bool → Option R} (hq0 : ∀ x0, k0 x0 = kk0 x0) (hq1 : ∀ x0 x1, k1 x0 x1 = kk1 x0 x1) : law20_PlatformAssigns_p18 n w9 w101 w83 k0 k1 = law20_PlatformAssigns_p18 n w9 w101 w83 kk0 kk1 := by
  obtain rfl : k0 = kk0 := funext fun x0 => hq0 x0
  obtain rfl : k1 = kk1 := funext fun x0 => funext fun x1 => hq1 x0 x1
  rfl
theorem law20_PlatformAssigns_p19_congr {R : Type} (n : Nat) (w9 : List (List D)) (w99 : Bool) (w83 : List (List D)) {k0 kk0 : Bool → Option R} {k1 kk1 : Int → Int → Bool → Option R} (hq0 : ∀ x0, k0 x0 = kk0 x0) (hq1 : ∀ x0 x1 x2, k1 x0 x1 x2 = kk1 x0 x1 x2) : law20_PlatformAssigns_p19 n w9 w99 w83 k0 k1 = law20_PlatformAssigns_p19 n w9 w99 w83 kk0 kk1 := by
  obtain rfl : k0 = kk0 := funext fun x0 => hq0 x0
  obtain rfl : k1 = kk1 := funext fun x0 => funext fun x1 => funext fun x2 => hq1 x0 x1 x2
  rfl
theorem law20_PlatformAssigns_p20_congr {R : Type} (n : Nat) (w9 : List (List D)) (w152 : Int) (w153 : Int) (w154 : Bool) (w83 : List (List D)) {k0 kk0 : Bool → Option R} (hq0 : ∀ x0, k0 x0 = kk0 x0) : law20_PlatformAssigns_p20 n w9 w152 w153 w154 w83 k0 = law20_PlatformAssigns_p20 n w9 w152 w153 w154 w83 kk0 := by
  obtain rfl : k0 = kk0 := funext fun x0 => hq0 x0
  rfl
theorem law20_PlatformAssigns_p21_congr {R : Type} (n : Nat) (w9 : List (List D)) (w99 : Bool) (w83 : List (List D)) {k0 kk0 : Bool → Option R} (hq0 : ∀ x0, k0 x0 = kk0 x0) : law20_PlatformAssigns_p21 n w9 w99 w83 k0 = law20_PlatformAssigns_p21 n w9 w99 w83 kk0 := by
  obtain rfl : k0 = kk0 := funext fun x0 => hq0 x0
  rfl
theorem law20_PlatformAssigns_p22_congr {R : Type} (n : Nat) (w3 : Int) (w5 : List (List D)) (w9 : List (List D)) (w94 : Bool) (w83 : List (List D)) {k0 kk0 : Bool → Option R} (hq0 : ∀ x0, k0 x0 = kk0 x0) : law20_PlatformAssigns_p22 n w3 w5 w9 w94 w83 k0 = law20_PlatformAssigns_p22 n w3 w5 w9 w94 w83 kk0 := by
  obtain rfl : k0 = kk0 := funext fun x0 => hq0 x0
  rfl
theorem law20_PlatformAssigns_p23_congr {R : Type} (n : Nat) (w3 : Int) (w5 : List (List D)) (w9 : List (List D)) (w10 : Int) (w91 : Bool) (w83 : List (List D)) {k0 kk0 : Bool → Option R} (hq0 : ∀ x0, k0 x0 = kk0 x0) : law20_PlatformAssigns_p23 n w3 w5 w9 w10 w91 w83 k0 = law20_PlatformAssigns_p23 n w3 w5 w9 w10 w91 w83 kk0 := by
  obtain rfl : k0 = kk0 := funext fun x0 => hq0 x0
  rfl
theorem law20_PlatformAssigns_p24_congr {R : Type} (n : Nat) (w3 : Int) (w5 : List (List D)) (w9 : List (List D)) (w10 : Int) (w80 : Int) (w81 : Int) (w82 : Bool) (w83 : List (List D)) (w84 : List (List D)) (w85 : Int) {k0 kk0 : Bool → Option R} (hq0 : ∀ x0, k0 x0 = kk0 x0) : law20_PlatformAssigns_p24 n w3 w5 w9 w10 w80 w81 w82 w83 w84 w85 k0 = law20_PlatformAssigns_p24 n w3 w5 w9 w10 w80 w81 w82 w83 w84 w85 kk0 := by
  obtain rfl : k0 = kk0 := funext fun x0 => hq0 x0
  rfl
theorem law20_PlatformAssigns_p25_congr {R : Type} (n : Nat) (w3 : Int) (w5 : List (List D)) (w9 : List (List D)) (w10 : Int) (w14 : List (List D)) (w15 : Int) {k0 kk0 : Bool → Option R} (hq0 : ∀ x0, k0 x0 = kk0 x0) : law20_PlatformAssigns_p25 n w3 w5 w9 w10 w14 w15 k0 = law20_PlatformAssigns_p25 n w3 w5 w9 w10 w14 w15 kk0 := by
  obtain rfl : k0 = kk0 := funext fun x0 => hq0 x0
  rfl
theorem law20_PlatformAssigns_p26_congr {R : Type} (n : Nat) (w3 : Int) (w5 : List (List D)) (w9 : List (List D)) (w10 : Int) (w14 : List (List D)) (w15 : Int) {k0 kk0 : Bool → Option R} (hq0 : ∀ x0, k0 x0 = kk0 x0) : law20_PlatformAssigns_p26 n w3 w5 w9 w10 w14 w15 k0 = law20_PlatformAssigns_p26 n w3 w5 w9 w10 w14 w15 kk0 := by
  obtain rfl : k0 = kk0 := funext fun x0 => hq0 x0
  rfl
theorem law20_PlatformAssigns_p27_congr {R : Type} (n : Nat) (w3 : Int) (a2 : List (List D)) (w5 : List (List D)) (w9 : List (List D)) (w10 : Int) {k0 kk0 : Bool → Option R} (hq0 : ∀ x0, k0 x0 = kk0 x0) : law20_PlatformAssigns_p27 n w3 a2 w5 w9 w10 k0 = law20_PlatformAssigns_p27 n w3 a2 w5 w9 w10 kk0 := by
  obtain rfl : k0 = kk0 := funext fun x0 => hq0 x0
  rfl
theorem law20_PlatformAssigns_p28_congr {R : Type} (n : Nat) (w3 : Int) (a2 : List (List D)) (w5 : List (List D)) {k0 kk0 : Bool → Option R} (hq0 : ∀ x0, k0 x0 = kk0 x0) : law20_PlatformAssigns_p28 n w3 a2 w5 k0 = law20_PlatformAssigns_p28 n w3 a2 w5 kk0 := by
  obtain rfl : k0 = kk0 := funext fun x0 => hq0 x0
  rfl
theorem law20_PlatformAssigns_p29_congr {R : Type} (n : Nat) (w3 : Int) (a1 : List (List D)) (a2 : List (List D)) {k0 kk0 : Bool → Option R} (hq0 : ∀ x0, k0 x0 = kk0 x0) : law20_PlatformAssigns_p29 n w3 a1 a2 k0 = law20_PlatformAssigns_p29 n w3 a1 a2 kk0 := by
  obtain rfl : k0 = kk0 := funext fun x0 => hq0 x0
  rfl
theorem law20_PlatformAssigns_p30_congr {R : Type} (n : Nat) (a0 : Int) (a1 : List (List D)) (a2 : List (List D)) {k0 kk0 : Bool → Option R} (hq0 : ∀ x0, k0 x0 = kk0 x0) : law20_PlatformAssigns_p30 n a0 a1 a2 k0 = law20_PlatformAssigns_p30 n a0 a1 a2 kk0 := by
  obtain rfl : k0 = kk0 := funext fun x0 => hq0 x0
  rfl
theorem law20_PlatformAssigns_p31_congr {R : Type} (n : Nat) (a0 : Int) (a1 : List (List D)) (a2 : List (List D)) {k0 kk0 : Bool → Option R} (hq0 : ∀ x0, k0 x0 = kk0 x0) : law20_PlatformAssigns_p31 n a0 a1 a2 k0 = law20_PlatformAssigns_p31 n a0 a1 a2 kk0 := by
  obtain rfl : k0 = kk0 := funext fun x0 => hq0 x0
  rfl
theorem law20_PlatformAssigns_p1_eq {R : Type} (n : Nat) (a0 : Int) (a1 : List (List D)) (a2 : List (List D)) (k : Exit → St → Option R) : vexec (law20_PlatformAssigns_C n) n law20_PlatformAssigns_c1 ⟨114, [(0, .d (D.int .i64 a0)), (1, .d (D.sl 1 a1)), (2, .d (D.sl 1 a2))], []⟩ k = law20_PlatformAssigns_p1 n a0 a1 a2 (k .normal ⟨114, [(0, .d (D.int .i64 a0)), (1, .d (D.sl 1 a1)), (2, .d (D.sl 1 a2))], []⟩) := by kernel_rfl
theorem law20_PlatformAssigns_p2_eq {R : Type} (n : Nat) (a0 : Int) (a1 : List (List D)) (a2 : List (List D)) (k : Exit → St → Option R) : vexec (law20_PlatformAssigns_C n) n law20_PlatformAssigns_c2 ⟨114, [(0, .d (D.int .i64 a0)), (1, .d (D.sl 1 a1)), (2, .d (D.sl 1 a2))], []⟩ k = law20_PlatformAssigns_p2 n a0 a1 a2 (fun z2 => k .normal ⟨114, [(0, .d (D.int .i64 z2)), (1, .d (D.sl 1 a1)), (2, .d (D.sl 1 a2))], []⟩) := by kernel_rfl
theorem law20_PlatformAssigns_p3_eq {R : Type} (n : Nat) (w3 : Int) (a1 : List (List D)) (a2 : List (List D)) (k : Exit → St → Option R) : vexec (law20_PlatformAssigns_C n) n law20_PlatformAssigns_c3 ⟨114, [(0, .d (D.int .i64 w3)), (1, .d (D.sl 1 a1)), (2, .d (D.sl 1 a2))], []⟩ k = law20_PlatformAssigns_p3 n w3 a1 a2 (fun r4 => k .normal ⟨114, [(0, .d (D.int .i64 w3)), (2, .d (D.sl 1 a2)), (7, .d (D.sl 3 r4))], []⟩) := by kernel_rfl
theorem law20_PlatformAssigns_p4_eq {R : Type} (n : Nat) (w3 : Int) (a2 : List (List D)) (w5 : List (List D)) (k : Exit → St → Option R) : vexec (law20_PlatformAssigns_C n) n law20_PlatformAssigns_c4 ⟨114, [(0, .d (D.int .i64 w3)), (2, .d (D.sl 1 a2)), (7, .d (D.sl 3 w5))], []⟩ k = law20_PlatformAssigns_p4 n w3 a2 w5 (fun z7 z8 => k .normal ⟨114, [(0, .d (D.int .i64 w3)), (2, .d (D.sl 1 a2)), (7, .d (D.sl 3 w5)), (8, .d (D.sl 1 z7)), (10, .d (D.int .i64 z8))], []⟩) := by kernel_rfl
theorem law20_PlatformAssigns_p5_eq {R : Type} (n : Nat) (w3 : Int) (a2 : List (List D)) (w5 : List (List D)) (w9 : List (List D)) (w10 : Int) (k : Exit → St → Option R) : vexec (law20_PlatformAssigns_C n) n law20_PlatformAssigns_c5 ⟨114, [(0, .d (D.int .i64 w3)), (2, .d (D.sl 1 a2)), (7, .d (D.sl 3 w5)), (8, .d (D.sl 1 w9)), (10, .d (D.int .i64 w10))], []⟩ k = law20_PlatformAssigns_p5 n w3 a2 w5 w9 w10 (fun z12 z13 => k .normal ⟨114, [(0, .d (D.int .i64 w3)), (7, .d (D.sl 3 w5)), (8, .d (D.sl 1 w9)), (10, .d (D.int .i64 w10)), (11, .ptr 100029 0)], [(100029, .box [.d (D.sl 1 z12), .d (D.int .i64 z13)])]⟩) := by kernel_rfl
theorem law20_PlatformAssigns_p6_eq {R : Type} (n : Nat) (w3 : Int) (w5 : List (List D)) (w9 : List (List D)) (w10 : Int) (w14 : List (List D)) (w15 : Int) (k : Exit → St → Option R) : vexec (law20_PlatformAssigns_C n) n law20_PlatformAssigns_c6 ⟨114, [(0, .d (D.int .i64 w3)), (7, .d (D.sl 3 w5)), (8, .d (D.sl 1 w9)), (10, .d (D.int .i64 w10)), (11, .ptr 100029 0)], [(100029, .box [.d (D.sl 1 w14), .d (D.int .i64 w15)])]⟩ k = law20_PlatformAssigns_p6 n w3 w5 w9 w10 w14 w15 (k .normal ⟨114, [(0, .d (D.int .i64 w3)), (7, .d (D.sl 3 w5)), (8, .d (D.sl 1 w9)), (10, .d (D.int .i64 w10)), (11, .ptr 100029 0), (12, .nil)], [(100029, .box [.d (D.sl 1 w14), .d (D.int .i64 w15)])]⟩) := by kernel_rfl
theorem law20_PlatformAssigns_p7_eq {R : Type} (n : Nat) (w3 : Int) (w5 : List (List D)) (w9 : List (List D)) (w10 : Int) (w14 : List (List D)) (w15 : Int) (k : Exit → St → Option R) : vexec (law20_PlatformAssigns_C n) n law20_PlatformAssigns_c7 ⟨114, [(0, .d (D.int .i64 w3)), (7, .d (D.sl 3 w5)), (8, .d (D.sl 1 w9)), (10, .d (D.int .i64 w10)), (11, .ptr 100029 0), (12, .nil)], [(100029, .box [.d (D.sl 1 w14), .d (D.int .i64 w15)])]⟩ k = law20_PlatformAssigns_p7 n w3 w5 w9 w10 w14 w15 (fun z16 => k .normal ⟨114, [(0, .d (D.int .i64 w3)), (7, .d (D.sl 3 w5)), (8, .d (D.sl 1 w9)), (10, .d (D.int .i64 w10)), (11, .ptr 100029 0), (12, .arr 1012), (31, .d (D.int .i64 z16)), (32, .d (D.int .i64 (0 : Int)))], [(1012, .arr 3 1 []), (100029, .box [.d (D.sl 1 w14), .d (D.int .i64 w15)])]⟩) := by kernel_rfl
theorem law20_PlatformAssigns_p8_eq {R : Type} (n : Nat) (w3 : Int) (w5 : List (List D)) (w9 : List (List D)) (w10 : Int) (w17 : Int) (h23 : Int) (h24 : List (List D)) (h25 : List (List D)) (h26 : Int) (k : Exit → St → Option R) : vexec (law20_PlatformAssigns_C n) n law20_PlatformAssigns_c8 ⟨114, [(0, .d (D.int .i64 w3)), (7, .d (D.sl 3 w5)), (8, .d (D.sl 1 w9)), (10, .d (D.int .i64 w10)), (11, .ptr 100029 0), (12, .arr 1012), (31, .d (D.int .i64 w17)), (32, .d (D.int .i64 h23))], [(1012, .arr 3 1 h24), (100029, .box [.d (D.sl 1 h25), .d (D.int .i64 h26)])]⟩ k = law20_PlatformAssigns_p8 n w3 w5 w9 w10 w17 h23 h24 h25 h26 (fun z60 z61 z62 z63 => k .normal ⟨114, [(0, .d (D.int .i64 w3)), (7, .d (D.sl 3 w5)), (8, .d (D.sl 1 w9)), (10, .d (D.int .i64 w10)), (11, .ptr 100029 0), (12, .arr 1012), (31, .d (D.int .i64 w17)), (32, .d (D.int .i64 z60))], [(1012, .arr 3 1 z61), (100029, .box [.d (D.sl 1 z62), .d (D.int .i64 z63)])]⟩) (fun z64 => k (.exit 0) ⟨114, [(0, .d (D.int .i64 w3)), (7, .d (D.sl 3 w5)), (8, .d (D.sl 1 w9)), (10, .d (D.int .i64 w10)), (11, .ptr 100029 0), (12, .arr 1012), (31, .d (D.int .i64 w17)), (32, .d (D.int .i64 h23)), (33, .d (D.bool z64))], [(1012, .arr 3 1 h24), (100029, .box [.d (D.sl 1 h25), .d (D.int .i64 h26)])]⟩) := by kernel_rfl
theorem law20_PlatformAssigns_r9_eq {R : Type} (n : Nat) (w3 : Int) (w5 : List (List D)) (w9 : List (List D)) (w10 : Int) (w17 : Int) (k : Exit → St → Option R) : ∀ (m : Nat) (h23 : Int) (h24 : List (List D)) (h25 : List (List D)) (h26 : Int), loopN (vexec (law20_PlatformAssigns_C n) n law20_PlatformAssigns_c8) m ⟨114, [(0, .d (D.int .i64 w3)), (7, .d (D.sl 3 w5)), (8, .d (D.sl 1 w9)), (10, .d (D.int .i64 w10)), (11, .ptr 100029 0), (12, .arr 1012), (31, .d (D.int .i64 w17)), (32, .d (D.int .i64 h23))], [(1012, .arr 3 1 h24), (100029, .box [.d (D.sl 1 h25), .d (D.int .i64 h26)])]⟩ k = law20_PlatformAssigns_r9 n w3 w5 w9 w10 w17 (fun h23 w69 h24 h25 h26 => k (.exit 0) ⟨114, [(0, .d (D.int .i64 w3)), (7, .d (D.sl 3 w5)), (8, .d (D.sl 1 w9)), (10, .d (D.int .i64 w10)), (11, .ptr 100029 0), (12, .arr 1012), (31, .d (D.int .i64 w17)), (32, .d (D.int .i64 h23)), (33, .d (D.bool w69))], [(1012, .arr 3 1 h24), (100029, .box [.d (D.sl 1 h25), .d (D.int .i64 h26)])]⟩) m h23 h24 h25 h26
  | 0, _, _, _, _ => rfl
  | m + 1, h23, h24, h25, h26 => (law20_PlatformAssigns_p8_eq n w3 w5 w9 w10 w17 h23 h24 h25 h26 (loopK (vexec (law20_PlatformAssigns_C n) n law20_PlatformAssigns_c8) m k)).trans (law20_PlatformAssigns_p8_congr n w3 w5 w9 w10 w17 h23 h24 h25 h26 (fun w65 w66 w67 w68 => law20_PlatformAssigns_r9_eq n w3 w5 w9 w10 w17 k m w65 w66 w67 w68) (fun w69 => rfl))
theorem law20_PlatformAssigns_p9_eq {R : Type} (n : Nat) (w3 : Int) (w5 : List (List D)) (w9 : List (List D)) (w10 : Int) (w17 : Int) (w14 : List (List D)) (w15 : Int) (k : Exit → St → Option R) : vexec (law20_PlatformAssigns_C n) n law20_PlatformAssigns_c9 ⟨114, [(0, .d (D.int .i64 w3)), (7, .d (D.sl 3 w5)), (8, .d (D.sl 1 w9)), (10, .d (D.int .i64 w10)), (11, .ptr 100029 0), (12, .arr 1012), (31, .d (D.int .i64 w17)), (32, .d (D.int .i64 (0 : Int)))], [(1012, .arr 3 1 []), (100029, .box [.d (D.sl 1 w14), .d (D.int .i64 w15)])]⟩ k = law20_PlatformAssigns_p9 n w3 w5 w9 w10 w17 w14 w15 (fun h23 w69 h24 h25 h26 => k (.exit 0) ⟨114, [(0, .d (D.int .i64 w3)), (7, .d (D.sl 3 w5)), (8, .d (D.sl 1 w9)), (10, .d (D.int .i64 w10)), (11, .ptr 100029 0), (12, .arr 1012), (31, .d (D.int .i64 w17)), (32, .d (D.int .i64 h23)), (33, .d (D.bool w69))], [(1012, .arr 3 1 h24), (100029, .box [.d (D.sl 1 h25), .d (D.int .i64 h26)])]⟩) := by
  rw [law20_PlatformAssigns_c9_eq]
  exact law20_PlatformAssigns_r9_eq n w3 w5 w9 w10 w17 k n (0 : Int) [] w14 w15
theorem law20_PlatformAssigns_p10_eq {R : Type} (n : Nat) (w3 : Int) (w5 : List (List D)) (w9 : List (List D)) (w10 : Int) (w17 : Int) (w14 : List (List D)) (w15 : Int) (k : Exit → St → Option R) : vexec (law20_PlatformAssigns_C n) n law20_PlatformAssigns_c10 ⟨114, [(0, .d (D.int .i64 w3)), (7, .d (D.sl 3 w5)), (8, .d (D.sl 1 w9)), (10, .d (D.int .i64 w10)), (11, .ptr 100029 0), (12, .arr 1012), (31, .d (D.int .i64 w17)), (32, .d (D.int .i64 (0 : Int)))], [(1012, .arr 3 1 []), (100029, .box [.d (D.sl 1 w14), .d (D.int .i64 w15)])]⟩ k = law20_PlatformAssigns_p10 n w3 w5 w9 w10 w17 w14 w15 (fun w70 w71 w72 w73 w74 => k .normal ⟨114, [(0, .d (D.int .i64 w3)), (7, .d (D.sl 3 w5)), (8, .d (D.sl 1 w9)), (10, .d (D.int .i64 w10)), (11, .ptr 100029 0), (12, .arr 1012), (31, .d (D.int .i64 w17)), (32, .d (D.int .i64 w70)), (33, .d (D.bool w71))], [(1012, .arr 3 1 w72), (100029, .box [.d (D.sl 1 w73), .d (D.int .i64 w74)])]⟩) := by
  rw [law20_PlatformAssigns_c10_eq]
  unfold law20_PlatformAssigns_p10
  exact (law20_PlatformAssigns_p9_eq n w3 w5 w9 w10 w17 w14 w15 (blockK 0 k)).trans (law20_PlatformAssigns_p9_congr n w3 w5 w9 w10 w17 w14 w15 (fun w70 w71 w72 w73 w74 => rfl))
theorem law20_PlatformAssigns_p11_eq {R : Type} (n : Nat) (w3 : Int) (w5 : List (List D)) (w9 : List (List D)) (w10 : Int) (w14 : List (List D)) (w15 : Int) (k : Exit → St → Option R) : vexec (law20_PlatformAssigns_C n) n law20_PlatformAssigns_c11 ⟨114, [(0, .d (D.int .i64 w3)), (7, .d (D.sl 3 w5)), (8, .d (D.sl 1 w9)), (10, .d (D.int .i64 w10)), (11, .ptr 100029 0), (12, .nil)], [(100029, .box [.d (D.sl 1 w14), .d (D.int .i64 w15)])]⟩ k = law20_PlatformAssigns_p11 n w3 w5 w9 w10 w14 w15 (fun w17 w75 w76 w77 w78 w79 => k .normal ⟨114, [(0, .d (D.int .i64 w3)), (7, .d (D.sl 3 w5)), (8, .d (D.sl 1 w9)), (10, .d (D.int .i64 w10)), (11, .ptr 100029 0), (12, .arr 1012), (31, .d (D.int .i64 w17)), (32, .d (D.int .i64 w75)), (33, .d (D.bool w76))], [(1012, .arr 3 1 w77), (100029, .box [.d (D.sl 1 w78), .d (D.int .i64 w79)])]⟩) := by
  rw [law20_PlatformAssigns_c11_eq]
  unfold law20_PlatformAssigns_p11
  exact (law20_PlatformAssigns_p7_eq n w3 w5 w9 w10 w14 w15 (seqK (law20_PlatformAssigns_C n) n law20_PlatformAssigns_c10 k)).trans (law20_PlatformAssigns_p7_congr n w3 w5 w9 w10 w14 w15 (fun w17 => law20_PlatformAssigns_p10_eq n w3 w5 w9 w10 w17 w14 w15 k))
theorem law20_PlatformAssigns_p12_eq {R : Type} (n : Nat) (w3 : Int) (w5 : List (List D)) (w9 : List (List D)) (w10 : Int) (w80 : Int) (w81 : Int) (w82 : Bool) (w83 : List (List D)) (w84 : List (List D)) (w85 : Int) (k : Exit → St → Option R) : vexec (law20_PlatformAssigns_C n) n law20_PlatformAssigns_c12 ⟨114, [(0, .d (D.int .i64 w3)), (7, .d (D.sl 3 w5)), (8, .d (D.sl 1 w9)), (10, .d (D.int .i64 w10)), (11, .ptr 100029 0), (12, .arr 1012), (31, .d (D.int .i64 w80)), (32, .d (D.int .i64 w81)), (33, .d (D.bool w82))], [(1012, .arr 3 1 w83), (100029, .box [.d (D.sl 1 w84), .d (D.int .i64 w85)])]⟩ k = law20_PlatformAssigns_p12 n w3 w5 w9 w10 w80 w81 w82 w83 w84 w85 (fun z88 => k .ret ⟨114, [(6, .d (D.bool z88))], []⟩) (fun z89 => k .normal ⟨114, [(0, .d (D.int .i64 w3)), (7, .d (D.sl 3 w5)), (8, .d (D.sl 1 w9)), (10, .d (D.int .i64 w10)), (12, .arr 1012), (62, .d (D.bool z89))], [(1012, .arr 3 1 w83)]⟩) := by kernel_rfl
theorem law20_PlatformAssigns_p13_eq {R : Type} (n : Nat) (w3 : Int) (w5 : List (List D)) (w9 : List (List D)) (w10 : Int) (w91 : Bool) (w83 : List (List D)) (k : Exit → St → Option R) : vexec (law20_PlatformAssigns_C n) n law20_PlatformAssigns_c13 ⟨114, [(0, .d (D.int .i64 w3)), (7, .d (D.sl 3 w5)), (8, .d (D.sl 1 w9)), (10, .d (D.int .i64 w10)), (12, .arr 1012), (62, .d (D.bool w91))], [(1012, .arr 3 1 w83)]⟩ k = law20_PlatformAssigns_p13 n w3 w5 w9 w10 w91 w83 (k .ret ⟨114, [(6, .d (D.bool false))], []⟩) (fun z93 => k .normal ⟨114, [(0, .d (D.int .i64 w3)), (7, .d (D.sl 3 w5)), (8, .d (D.sl 1 w9)), (12, .arr 1012), (79, .d (D.bool z93))], [(1012, .arr 3 1 w83)]⟩) := by kernel_rfl
theorem law20_PlatformAssigns_p14_eq {R : Type} (n : Nat) (w3 : Int) (w5 : List (List D)) (w9 : List (List D)) (w94 : Bool) (w83 : List (List D)) (k : Exit → St → Option R) : vexec (law20_PlatformAssigns_C n) n law20_PlatformAssigns_c14 ⟨114, [(0, .d (D.int .i64 w3)), (7, .d (D.sl 3 w5)), (8, .d (D.sl 1 w9)), (12, .arr 1012), (79, .d (D.bool w94))], [(1012, .arr 3 1 w83)]⟩ k = law20_PlatformAssigns_p14 n w3 w5 w9 w94 w83 (fun r96 => k .ret ⟨114, [(6, .d (D.bool r96))], []⟩) (fun z97 => k .normal ⟨114, [(8, .d (D.sl 1 w9)), (12, .arr 1012), (84, .d (D.bool z97))], [(1012, .arr 3 1 w83)]⟩) := by kernel_rfl
theorem law20_PlatformAssigns_p15_eq {R : Type} (n : Nat) (w9 : List (List D)) (w99 : Bool) (w83 : List (List D)) (k : Exit → St → Option R) : vexec (law20_PlatformAssigns_C n) n law20_PlatformAssigns_c15 ⟨114, [(8, .d (D.sl 1 w9)), (12, .arr 1012), (84, .d (D.bool w99))], [(1012, .arr 3 1 w83)]⟩ k = law20_PlatformAssigns_p15 n w9 w99 w83 (fun z100 => k .normal ⟨114, [(8, .d (D.sl 1 w9)), (12, .arr 1012), (87, .d (D.int .i64 z100)), (88, .d (D.int .i64 (0 : Int)))], [(1012, .arr 3 1 w83)]⟩) := by kernel_rfl
theorem law20_PlatformAssigns_p16_eq {R : Type} (n : Nat) (w9 : List (List D)) (w101 : Int) (h104 : Int) (w83 : List (List D)) (k : Exit → St → Option R) : vexec (law20_PlatformAssigns_C n) n law20_PlatformAssigns_c16 ⟨114, [(8, .d (D.sl 1 w9)), (12, .arr 1012), (87, .d (D.int .i64 w101)), (88, .d (D.int .i64 h104))], [(1012, .arr 3 1 w83)]⟩ k = law20_PlatformAssigns_p16 n w9 w101 h104 w83 (fun z139 => k .ret ⟨114, [(6, .d (D.bool z139))], []⟩) (fun z140 => k .normal ⟨114, [(8, .d (D.sl 1 w9)), (12, .arr 1012), (87, .d (D.int .i64 w101)), (88, .d (D.int .i64 z140))], [(1012, .arr 3 1 w83)]⟩) (fun z141 => k (.exit 2) ⟨114, [(8, .d (D.sl 1 w9)), (12, .arr 1012), (87, .d (D.int .i64 w101)), (88, .d (D.int .i64 h104)), (89, .d (D.bool z141))], [(1012, .arr 3 1 w83)]⟩) := by kernel_rfl
theorem law20_PlatformAssigns_r17_eq {R : Type} (n : Nat) (w9 : List (List D)) (w101 : Int) (w83 : List (List D)) (k : Exit → St → Option R) : ∀ (m : Nat) (h104 : Int), loopN (vexec (law20_PlatformAssigns_C n) n law20_PlatformAssigns_c16) m ⟨114, [(8, .d (D.sl 1 w9)), (12, .arr 1012), (87, .d (D.int .i64 w101)), (88, .d (D.int .i64 h104))], [(1012, .arr 3 1 w83)]⟩ k = law20_PlatformAssigns_r17 n w9 w101 w83 (fun w142 => k .ret ⟨114, [(6, .d (D.bool w142))], []⟩) (fun h104 w144 => k (.exit 2) ⟨114, [(8, .d (D.sl 1 w9)), (12, .arr 1012), (87, .d (D.int .i64 w101)), (88, .d (D.int .i64 h104)), (89, .d (D.bool w144))], [(1012, .arr 3 1 w83)]⟩) m h104
  | 0, _ => rfl
  | m + 1, h104 => (law20_PlatformAssigns_p16_eq n w9 w101 h104 w83 (loopK (vexec (law20_PlatformAssigns_C n) n law20_PlatformAssigns_c16) m k)).trans (law20_PlatformAssigns_p16_congr n w9 w101 h104 w83 (fun w142 => rfl) (fun w143 => law20_PlatformAssigns_r17_eq n w9 w101 w83 k m w143) (fun w144 => rfl))
theorem law20_PlatformAssigns_p17_eq {R : Type} (n : Nat) (w9 : List (List D)) (w101 : Int) (w83 : List (List D)) (k : Exit → St → Option R) : vexec (law20_PlatformAssigns_C n) n law20_PlatformAssigns_c17 ⟨114, [(8, .d (D.sl 1 w9)), (12, .arr 1012), (87, .d (D.int .i64 w101)), (88, .d (D.int .i64 (0 : Int)))], [(1012, .arr 3 1 w83)]⟩ k = law20_PlatformAssigns_p17 n w9 w101 w83 (fun w142 => k .ret ⟨114, [(6, .d (D.bool w142))], []⟩) (fun h104 w144 => k (.exit 2) ⟨114, [(8, .d (D.sl 1 w9)), (12, .arr 1012), (87, .d (D.int .i64 w101)), (88, .d (D.int .i64 h104)), (89, .d (D.bool w144))], [(1012, .arr 3 1 w83)]⟩) := by
  rw [law20_PlatformAssigns_c17_eq]
  exact law20_PlatformAssigns_r17_eq n w9 w101 w83 k n (0 : Int)
theorem law20_PlatformAssigns_p18_eq {R : Type} (n : Nat) (w9 : List (List D)) (w101 : Int) (w83 : List (List D)) (k : Exit → St → Option R) : vexec (law20_PlatformAssigns_C n) n law20_PlatformAssigns_c18 ⟨114, [(8, .d (D.sl 1 w9)), (12, .arr 1012), (87, .d (D.int .i64 w101)), (88, .d (D.int .i64 (0 : Int)))], [(1012, .arr 3 1 w83)]⟩ k = law20_PlatformAssigns_p18 n w9 w101 w83 (fun w145 => k .ret ⟨114, [(6, .d (D.bool w145))], []⟩) (fun w146 w147 => k .normal ⟨114, [(8, .d (D.sl 1 w9)), (12, .arr 1012), (87, .d (D.int .i64 w101)), (88, .d (D.int .i64 w146)), (89, .d (D.bool w147))], [(1012, .arr 3 1 w83)]⟩) := by
  rw [law20_PlatformAssigns_c18_eq]
  unfold law20_PlatformAssigns_p18
  exact (law20_PlatformAssigns_p17_eq n w9 w101 w83 (blockK 2 k)).trans (law20_PlatformAssigns_p17_congr n w9 w101 w83 (fun w145 => rfl) (fun w146 w147 => rfl))
theorem law20_PlatformAssigns_p19_eq {R : Type} (n : Nat) (w9 : List (List D)) (w99 : Bool) (w83 : List (List D)) (k : Exit → St → Option R) : vexec (law20_PlatformAssigns_C n) n law20_PlatformAssigns_c19 ⟨114, [(8, .d (D.sl 1 w9)), (12, .arr 1012), (84, .d (D.bool w99))], [(1012, .arr 3 1 w83)]⟩ k = law20_PlatformAssigns_p19 n w9 w99 w83 (fun w148 => k .ret ⟨114, [(6, .d (D.bool w148))], []⟩) (fun w101 w149 w150 => k .normal ⟨114, [(8, .d (D.sl 1 w9)), (12, .arr 1012), (87, .d (D.int .i64 w101)), (88, .d (D.int .i64 w149)), (89, .d (D.bool w150))], [(1012, .arr 3 1 w83)]⟩) := by
  rw [law20_PlatformAssigns_c19_eq]
  unfold law20_PlatformAssigns_p19
  exact (law20_PlatformAssigns_p15_eq n w9 w99 w83 (seqK (law20_PlatformAssigns_C n) n law20_PlatformAssigns_c18 k)).trans (law20_PlatformAssigns_p15_congr n w9 w99 w83 (fun w101 => law20_PlatformAssigns_p18_eq n w9 w101 w83 k))
theorem law20_PlatformAssigns_p20_eq {R : Type} (n : Nat) (w9 : List (List D)) (w152 : Int) (w153 : Int) (w154 : Bool) (w83 : List (List D)) (k : Exit → St → Option R) : vexec (law20_PlatformAssigns_C n) n law20_PlatformAssigns_c20 ⟨114, [(8, .d (D.sl 1 w9)), (12, .arr 1012), (87, .d (D.int .i64 w152)), (88, .d (D.int .i64 w153)), (89, .d (D.bool w154))], [(1012, .arr 3 1 w83)]⟩ k = law20_PlatformAssigns_p20 n w9 w152 w153 w154 w83 (fun r155 => k .ret ⟨114, [(6, .d (D.bool r155))], []⟩) := by kernel_rfl
theorem law20_PlatformAssigns_p21_eq {R : Type} (n : Nat) (w9 : List (List D)) (w99 : Bool) (w83 : List (List D)) (k : Exit → St → Option R) : vexec (law20_PlatformAssigns_C n) n law20_PlatformAssigns_c21 ⟨114, [(8, .d (D.sl 1 w9)), (12, .arr 1012), (84, .d (D.bool w99))], [(1012, .arr 3 1 w83)]⟩ k = law20_PlatformAssigns_p21 n w9 w99 w83 (fun z157 => k .ret ⟨114, [(6, .d (D.bool z157))], []⟩) := by
  rw [law20_PlatformAssigns_c21_eq]
  unfold law20_PlatformAssigns_p21
  exact (law20_PlatformAssigns_p19_eq n w9 w99 w83 (seqK (law20_PlatformAssigns_C n) n law20_PlatformAssigns_c20 k)).trans (law20_PlatformAssigns_p19_congr n w9 w99 w83 (fun w151 => rfl) (fun w152 w153 w154 => law20_PlatformAssigns_p20_eq n w9 w152 w153 w154 w83 k))
theorem law20_PlatformAssigns_p22_eq {R : Type} (n : Nat) (w3 : Int) (w5 : List (List D)) (w9 : List (List D)) (w94 : Bool) (w83 : List (List D)) (k : Exit → St → Option R) : vexec (law20_PlatformAssigns_C n) n law20_PlatformAssigns_c22 ⟨114, [(0, .d (D.int .i64 w3)), (7, .d (D.sl 3 w5)), (8, .d (D.sl 1 w9)), (12, .arr 1012), (79, .d (D.bool w94))], [(1012, .arr 3 1 w83)]⟩ k = law20_PlatformAssigns_p22 n w3 w5 w9 w94 w83 (fun z159 => k .ret ⟨114, [(6, .d (D.bool z159))], []⟩) := by
  rw [law20_PlatformAssigns_c22_eq]
  unfold law20_PlatformAssigns_p22
  exact (law20_PlatformAssigns_p14_eq n w3 w5 w9 w94 w83 (seqK (law20_PlatformAssigns_C n) n law20_PlatformAssigns_c21 k)).trans (law20_PlatformAssigns_p14_congr n w3 w5 w9 w94 w83 (fun w98 => rfl) (fun w99 => law20_PlatformAssigns_p21_eq n w9 w99 w83 k))
theorem law20_PlatformAssigns_p23_eq {R : Type} (n : Nat) (w3 : Int) (w5 : List (List D)) (w9 : List (List D)) (w10 : Int) (w91 : Bool) (w83 : List (List D)) (k : Exit → St → Option R) : vexec (law20_PlatformAssigns_C n) n law20_PlatformAssigns_c23 ⟨114, [(0, .d (D.int .i64 w3)), (7, .d (D.sl 3 w5)), (8, .d (D.sl 1 w9)), (10, .d (D.int .i64 w10)), (12, .arr 1012), (62, .d (D.bool w91))], [(1012, .arr 3 1 w83)]⟩ k = law20_PlatformAssigns_p23 n w3 w5 w9 w10 w91 w83 (fun z161 => k .ret ⟨114, [(6, .d (D.bool z161))], []⟩) := by
  rw [law20_PlatformAssigns_c23_eq]
  unfold law20_PlatformAssigns_p23
  exact (law20_PlatformAssigns_p13_eq n w3 w5 w9 w10 w91 w83 (seqK (law20_PlatformAssigns_C n) n law20_PlatformAssigns_c22 k)).trans (law20_PlatformAssigns_p13_congr n w3 w5 w9 w10 w91 w83 (rfl) (fun w94 => law20_PlatformAssigns_p22_eq n w3 w5 w9 w94 w83 k))
theorem law20_PlatformAssigns_p24_eq {R : Type} (n : Nat) (w3 : Int) (w5 : List (List D)) (w9 : List (List D)) (w10 : Int) (w80 : Int) (w81 : Int) (w82 : Bool) (w83 : List (List D)) (w84 : List (List D)) (w85 : Int) (k : Exit → St → Option R) : vexec (law20_PlatformAssigns_C n) n law20_PlatformAssigns_c24 ⟨114, [(0, .d (D.int .i64 w3)), (7, .d (D.sl 3 w5)), (8, .d (D.sl 1 w9)), (10, .d (D.int .i64 w10)), (11, .ptr 100029 0), (12, .arr 1012), (31, .d (D.int .i64 w80)), (32, .d (D.int .i64 w81)), (33, .d (D.bool w82))], [(1012, .arr 3 1 w83), (100029, .box [.d (D.sl 1 w84), .d (D.int .i64 w85)])]⟩ k = law20_PlatformAssigns_p24 n w3 w5 w9 w10 w80 w81 w82 w83 w84 w85 (fun z163 => k .ret ⟨114, [(6, .d (D.bool z163))], []⟩) := by
  rw [law20_PlatformAssigns_c24_eq]
  unfold law20_PlatformAssigns_p24
  exact (law20_PlatformAssigns_p12_eq n w3 w5 w9 w10 w80 w81 w82 w83 w84 w85 (seqK (law20_PlatformAssigns_C n) n law20_PlatformAssigns_c23 k)).trans (law20_PlatformAssigns_p12_congr n w3 w5 w9 w10 w80 w81 w82 w83 w84 w85 (fun w90 => rfl) (fun w91 => law20_PlatformAssigns_p23_eq n w3 w5 w9 w10 w91 w83 k))
theorem law20_PlatformAssigns_p25_eq {R : Type} (n : Nat) (w3 : Int) (w5 : List (List D)) (w9 : List (List D)) (w10 : Int) (w14 : List (List D)) (w15 : Int) (k : Exit → St → Option R) : vexec (law20_PlatformAssigns_C n) n law20_PlatformAssigns_c25 ⟨114, [(0, .d (D.int .i64 w3)), (7, .d (D.sl 3 w5)), (8, .d (D.sl 1 w9)), (10, .d (D.int .i64 w10)), (11, .ptr 100029 0), (12, .nil)], [(100029, .box [.d (D.sl 1 w14), .d (D.int .i64 w15)])]⟩ k = law20_PlatformAssigns_p25 n w3 w5 w9 w10 w14 w15 (fun w164 => k .ret ⟨114, [(6, .d (D.bool w164))], []⟩) := by
  rw [law20_PlatformAssigns_c25_eq]
  unfold law20_PlatformAssigns_p25
  exact (law20_PlatformAssigns_p11_eq n w3 w5 w9 w10 w14 w15 (seqK (law20_PlatformAssigns_C n) n law20_PlatformAssigns_c24 k)).trans (law20_PlatformAssigns_p11_congr n w3 w5 w9 w10 w14 w15 (fun w80 w81 w82 w83 w84 w85 => law20_PlatformAssigns_p24_eq n w3 w5 w9 w10 w80 w81 w82 w83 w84 w85 k))
theorem law20_PlatformAssigns_p26_eq {R : Type} (n : Nat) (w3 : Int) (w5 : List (List D)) (w9 : List (List D)) (w10 : Int) (w14 : List (List D)) (w15 : Int) (k : Exit → St → Option R) : vexec (law20_PlatformAssigns_C n) n law20_PlatformAssigns_c26 ⟨114, [(0, .d (D.int .i64 w3)), (7, .d (D.sl 3 w5)), (8, .d (D.sl 1 w9)), (10, .d (D.int .i64 w10)), (11, .ptr 100029 0)], [(100029, .box [.d (D.sl 1 w14), .d (D.int .i64 w15)])]⟩ k = law20_PlatformAssigns_p26 n w3 w5 w9 w10 w14 w15 (fun w165 => k .ret ⟨114, [(6, .d (D.bool w165))], []⟩) := by
  rw [law20_PlatformAssigns_c26_eq]
  unfold law20_PlatformAssigns_p26
  exact (law20_PlatformAssigns_p6_eq n w3 w5 w9 w10 w14 w15 (seqK (law20_PlatformAssigns_C n) n law20_PlatformAssigns_c25 k)).trans (law20_PlatformAssigns_p6_congr n w3 w5 w9 w10 w14 w15 (law20_PlatformAssigns_p25_eq n w3 w5 w9 w10 w14 w15 k))
theorem law20_PlatformAssigns_p27_eq {R : Type} (n : Nat) (w3 : Int) (a2 : List (List D)) (w5 : List (List D)) (w9 : List (List D)) (w10 : Int) (k : Exit → St → Option R) : vexec (law20_PlatformAssigns_C n) n law20_PlatformAssigns_c27 ⟨114, [(0, .d (D.int .i64 w3)), (2, .d (D.sl 1 a2)), (7, .d (D.sl 3 w5)), (8, .d (D.sl 1 w9)), (10, .d (D.int .i64 w10))], []⟩ k = law20_PlatformAssigns_p27 n w3 a2 w5 w9 w10 (fun w166 => k .ret ⟨114, [(6, .d (D.bool w166))], []⟩) := by
  rw [law20_PlatformAssigns_c27_eq]
  unfold law20_PlatformAssigns_p27
  exact (law20_PlatformAssigns_p5_eq n w3 a2 w5 w9 w10 (seqK (law20_PlatformAssigns_C n) n law20_PlatformAssigns_c26 k)).trans (law20_PlatformAssigns_p5_congr n w3 a2 w5 w9 w10 (fun w14 w15 => law20_PlatformAssigns_p26_eq n w3 w5 w9 w10 w14 w15 k))
theorem law20_PlatformAssigns_p28_eq {R : Type} (n : Nat) (w3 : Int) (a2 : List (List D)) (w5 : List (List D)) (k : Exit → St → Option R) : vexec (law20_PlatformAssigns_C n) n law20_PlatformAssigns_c28 ⟨114, [(0, .d (D.int .i64 w3)), (2, .d (D.sl 1 a2)), (7, .d (D.sl 3 w5))], []⟩ k = law20_PlatformAssigns_p28 n w3 a2 w5 (fun w167 => k .ret ⟨114, [(6, .d (D.bool w167))], []⟩) := by
  rw [law20_PlatformAssigns_c28_eq]
  unfold law20_PlatformAssigns_p28
  exact (law20_PlatformAssigns_p4_eq n w3 a2 w5 (seqK (law20_PlatformAssigns_C n) n law20_PlatformAssigns_c27 k)).trans (law20_PlatformAssigns_p4_congr n w3 a2 w5 (fun w9 w10 => law20_PlatformAssigns_p27_eq n w3 a2 w5 w9 w10 k))
theorem law20_PlatformAssigns_p29_eq {R : Type} (n : Nat) (w3 : Int) (a1 : List (List D)) (a2 : List (List D)) (k : Exit → St → Option R) : vexec (law20_PlatformAssigns_C n) n law20_PlatformAssigns_c29 ⟨114, [(0, .d (D.int .i64 w3)), (1, .d (D.sl 1 a1)), (2, .d (D.sl 1 a2))], []⟩ k = law20_PlatformAssigns_p29 n w3 a1 a2 (fun w168 => k .ret ⟨114, [(6, .d (D.bool w168))], []⟩) := by
  rw [law20_PlatformAssigns_c29_eq]
  unfold law20_PlatformAssigns_p29
  exact (law20_PlatformAssigns_p3_eq n w3 a1 a2 (seqK (law20_PlatformAssigns_C n) n law20_PlatformAssigns_c28 k)).trans (law20_PlatformAssigns_p3_congr n w3 a1 a2 (fun w5 => law20_PlatformAssigns_p28_eq n w3 a2 w5 k))
theorem law20_PlatformAssigns_p30_eq {R : Type} (n : Nat) (a0 : Int) (a1 : List (List D)) (a2 : List (List D)) (k : Exit → St → Option R) : vexec (law20_PlatformAssigns_C n) n law20_PlatformAssigns_c30 ⟨114, [(0, .d (D.int .i64 a0)), (1, .d (D.sl 1 a1)), (2, .d (D.sl 1 a2))], []⟩ k = law20_PlatformAssigns_p30 n a0 a1 a2 (fun w169 => k .ret ⟨114, [(6, .d (D.bool w169))], []⟩) := by
  rw [law20_PlatformAssigns_c30_eq]
  unfold law20_PlatformAssigns_p30
  exact (law20_PlatformAssigns_p2_eq n a0 a1 a2 (seqK (law20_PlatformAssigns_C n) n law20_PlatformAssigns_c29 k)).trans (law20_PlatformAssigns_p2_congr n a0 a1 a2 (fun w3 => law20_PlatformAssigns_p29_eq n w3 a1 a2 k))
theorem law20_PlatformAssigns_p31_eq {R : Type} (n : Nat) (a0 : Int) (a1 : List (List D)) (a2 : List (List D)) (k : Exit → St → Option R) : vexec (law20_PlatformAssigns_C n) n law20_PlatformAssigns_c0 ⟨114, [(0, .d (D.int .i64 a0)), (1, .d (D.sl 1 a1)), (2, .d (D.sl 1 a2))], []⟩ k = law20_PlatformAssigns_p31 n a0 a1 a2 (fun w170 => k .ret ⟨114, [(6, .d (D.bool w170))], []⟩) := by
  rw [law20_PlatformAssigns_c0_eq]
  unfold law20_PlatformAssigns_p31
  exact (law20_PlatformAssigns_p1_eq n a0 a1 a2 (seqK (law20_PlatformAssigns_C n) n law20_PlatformAssigns_c30 k)).trans (law20_PlatformAssigns_p1_congr n a0 a1 a2 (law20_PlatformAssigns_p30_eq n a0 a1 a2 k))
theorem law20_PlatformAssigns_vfn {R : Type} (n : Nat) (a0 : Int) (a1 : List (List D)) (a2 : List (List D)) (K : AV → Option R) : vfn (law20_PlatformAssigns_C n) n Try.f4 [.d (D.int .i64 a0), .d (D.sl 1 a1), .d (D.sl 1 a2)] [] (retF [[0]] K) = law20_PlatformAssigns n a0 a1 a2 (fun r0 => K (.d (D.bool r0))) :=
  (show vfn (law20_PlatformAssigns_C n) n Try.f4 [.d (D.int .i64 a0), .d (D.sl 1 a1), .d (D.sl 1 a2)] [] (retF [[0]] K) = vexec (law20_PlatformAssigns_C n) n law20_PlatformAssigns_c0 ⟨114, [(0, .d (D.int .i64 a0)), (1, .d (D.sl 1 a1)), (2, .d (D.sl 1 a2))], []⟩ (retX law20_PlatformAssigns_tt [.tmp 6] (retF [[0]] K)) from vfn_at (by kernel_rfl) (by kernel_rfl) rfl (by kernel_rfl) rfl (by kernel_rfl) rfl).trans ((law20_PlatformAssigns_p31_eq n a0 a1 a2 (retX law20_PlatformAssigns_tt [.tmp 6] (retF [[0]] K))).trans (by kernel_rfl))
def law20_PlatformAssigns_K : AV → Option (Bool) := fun av => match av with
  | .d (D.bool r0) => some r0
  | _ => none
def law20_PlatformAssigns_e (n : Nat) : Entry := fun _ _ g avs _ k => match avs with
  | [c0, c1, c2] => prI g .i64 c0 fun a0 => prS g 1 c1 fun a1 => prS g 1 c2 fun a2 => 
    gb g (law20_PlatformAssigns n a0 a1 a2 some) false fun r => k ⟨.d (D.bool r), [], []⟩
  | _ => none
theorem law20_PlatformAssigns_ok (n : Nat) : EntryOK Try.prog 4 (law20_PlatformAssigns_e n) := by
  intro R site g avs hl k r h
  unfold law20_PlatformAssigns_e at h
  split at h
  rotate_left
  · cases h
  replace h := prI_some h
  obtain ⟨a0, h, le0⟩ := h
  replace h := prS_some h
  obtain ⟨a1, h, le1⟩ := h
  replace h := prS_some h
  obtain ⟨a2, h, le2⟩ := h
  replace h := gb_some h
  obtain ⟨res, h, hr⟩ := h
  refine ⟨_, h, fun hg => CallOK.conv (avs' := [.d (D.int .i64 a0), .d (D.sl 1 a1), .d (D.sl 1 a2)]) (.cons (le0 hg) (.cons (le1 hg) (.cons (le2 hg) (.nil)))) (callOK_fix (K := law20_PlatformAssigns_K) (res := res) (law20_PlatformAssigns_VC n) (fn := Try.f4) (n := n) (by kernel_rfl) (by kernel_rfl) (by kernel_rfl) (ss := [[0]]) rfl ?_ ?_)⟩
  · exact (law20_PlatformAssigns_vfn n a0 a1 a2 law20_PlatformAssigns_K).trans (hr hg)
  · intro x hx
    unfold law20_PlatformAssigns_K at hx
    split at hx
    · injection hx with hx; subst hx; rfl
    · cases hx
end Go.Vx
