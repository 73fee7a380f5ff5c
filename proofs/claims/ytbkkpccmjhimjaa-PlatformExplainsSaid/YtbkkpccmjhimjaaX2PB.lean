/- Part of a proof: texts Vpplatform Explain Vpref19 in Vpref19 ValidVisits Vpref19 member Vpref1 Mod Vpref19 Overlap Vpref19 Proper Vpref19 assigner visit Vpref19 Assign Vplaw20 two Vpslices Index int int . No conditions of their own. -/
import Derived.Test.YtbkkpccmjhimjaaProg
import Derived.Test.YtbkkpccmjhimjaaX2VB
import Derived.Test.YtbkkpccmjhimjaaX2FA
import Derived.Test.YtbkkpccmjhimjaaX2PA
/-
  platform_Explain: the interpreter computes the pure function
-/
set_option linter.unusedVariables false
set_option linter.unusedSimpArgs false
set_option maxRecDepth 100000
namespace Go.Vx
open Go.Proofs
noncomputable def platform_Explain_c0 : Code := bodyOf Try.f23
noncomputable def platform_Explain_c1 : Code := cL (bodyOf Try.f23)
noncomputable def platform_Explain_c2 : Code := cL (cR (bodyOf Try.f23))
noncomputable def platform_Explain_c3 : Code := cL (cR (cR (bodyOf Try.f23)))
noncomputable def platform_Explain_c4 : Code := cL (cR (cR (cR (bodyOf Try.f23))))
noncomputable def platform_Explain_c5 : Code := cL (cR (cR (cR (cR (bodyOf Try.f23)))))
noncomputable def platform_Explain_c6 : Code := cL (cL (cR (cR (cR (cR (cR (bodyOf Try.f23)))))))
noncomputable def platform_Explain_c7 : Code := cB (cB (cR (cL (cR (cR (cR (cR (cR (bodyOf Try.f23)))))))))
noncomputable def platform_Explain_c8 : Code := cB (cR (cL (cR (cR (cR (cR (cR (bodyOf Try.f23))))))))
noncomputable def platform_Explain_c9 : Code := cR (cL (cR (cR (cR (cR (cR (bodyOf Try.f23)))))))
noncomputable def platform_Explain_c10 : Code := cL (cR (cR (cR (cR (cR (bodyOf Try.f23))))))
noncomputable def platform_Explain_c11 : Code := cL (cL (cR (cR (cR (cR (cR (cR (bodyOf Try.f23))))))))
noncomputable def platform_Explain_c12 : Code := cL (cB (cB (cR (cL (cR (cR (cR (cR (cR (cR (bodyOf Try.f23)))))))))))
noncomputable def platform_Explain_c13 : Code := cL (cR (cB (cB (cR (cL (cR (cR (cR (cR (cR (cR (bodyOf Try.f23))))))))))))
noncomputable def platform_Explain_c14 : Code := cL (cB (cL (cR (cR (cB (cB (cR (cL (cR (cR (cR (cR (cR (cR (bodyOf Try.f23)))))))))))))))
noncomputable def platform_Explain_c15 : Code := cL (cR (cB (cL (cR (cR (cB (cB (cR (cL (cR (cR (cR (cR (cR (cR (bodyOf Try.f23))))))))))))))))
noncomputable def platform_Explain_c16 : Code := cL (cR (cR (cB (cL (cR (cR (cB (cB (cR (cL (cR (cR (cR (cR (cR (cR (bodyOf Try.f23)))))))))))))))))
noncomputable def platform_Explain_c17 : Code := cL (cR (cR (cR (cB (cL (cR (cR (cB (cB (cR (cL (cR (cR (cR (cR (cR (cR (bodyOf Try.f23))))))))))))))))))
noncomputable def platform_Explain_c18 : Code := cL (cL (cR (cR (cR (cR (cB (cL (cR (cR (cB (cB (cR (cL (cR (cR (cR (cR (cR (cR (bodyOf Try.f23))))))))))))))))))))
noncomputable def platform_Explain_c19 : Code := cB (cB (cR (cL (cR (cR (cR (cR (cB (cL (cR (cR (cB (cB (cR (cL (cR (cR (cR (cR (cR (cR (bodyOf Try.f23))))))))))))))))))))))
noncomputable def platform_Explain_c20 : Code := cB (cR (cL (cR (cR (cR (cR (cB (cL (cR (cR (cB (cB (cR (cL (cR (cR (cR (cR (cR (cR (bodyOf Try.f23)))))))))))))))))))))
noncomputable def platform_Explain_c21 : Code := cR (cL (cR (cR (cR (cR (cB (cL (cR (cR (cB (cB (cR (cL (cR (cR (cR (cR (cR (cR (bodyOf Try.f23))))))))))))))))))))
noncomputable def platform_Explain_c22 : Code := cL (cR (cR (cR (cR (cB (cL (cR (cR (cB (cB (cR (cL (cR (cR (cR (cR (cR (cR (bodyOf Try.f23)))))))))))))))))))
noncomputable def platform_Explain_c23 : Code := cR (cR (cR (cR (cR (cB (cL (cR (cR (cB (cB (cR (cL (cR (cR (cR (cR (cR (cR (bodyOf Try.f23)))))))))))))))))))
noncomputable def platform_Explain_c24 : Code := cR (cR (cR (cR (cB (cL (cR (cR (cB (cB (cR (cL (cR (cR (cR (cR (cR (cR (bodyOf Try.f23))))))))))))))))))
noncomputable def platform_Explain_c25 : Code := cR (cR (cR (cB (cL (cR (cR (cB (cB (cR (cL (cR (cR (cR (cR (cR (cR (bodyOf Try.f23)))))))))))))))))
noncomputable def platform_Explain_c26 : Code := cR (cR (cB (cL (cR (cR (cB (cB (cR (cL (cR (cR (cR (cR (cR (cR (bodyOf Try.f23))))))))))))))))
noncomputable def platform_Explain_c27 : Code := cR (cB (cL (cR (cR (cB (cB (cR (cL (cR (cR (cR (cR (cR (cR (bodyOf Try.f23)))))))))))))))
noncomputable def platform_Explain_c28 : Code := cB (cL (cR (cR (cB (cB (cR (cL (cR (cR (cR (cR (cR (cR (bodyOf Try.f23))))))))))))))
noncomputable def platform_Explain_c29 : Code := cL (cR (cR (cB (cB (cR (cL (cR (cR (cR (cR (cR (cR (bodyOf Try.f23)))))))))))))
noncomputable def platform_Explain_c30 : Code := cR (cR (cR (cB (cB (cR (cL (cR (cR (cR (cR (cR (cR (bodyOf Try.f23)))))))))))))
noncomputable def platform_Explain_c31 : Code := cR (cR (cB (cB (cR (cL (cR (cR (cR (cR (cR (cR (bodyOf Try.f23))))))))))))
noncomputable def platform_Explain_c32 : Code := cR (cB (cB (cR (cL (cR (cR (cR (cR (cR (cR (bodyOf Try.f23)))))))))))
noncomputable def platform_Explain_c33 : Code := cB (cB (cR (cL (cR (cR (cR (cR (cR (cR (bodyOf Try.f23))))))))))
noncomputable def platform_Explain_c34 : Code := cB (cR (cL (cR (cR (cR (cR (cR (cR (bodyOf Try.f23)))))))))
noncomputable def platform_Explain_c35 : Code := cR (cL (cR (cR (cR (cR (cR (cR (bodyOf Try.f23))))))))
noncomputable def platform_Explain_c36 : Code := cL (cR (cR (cR (cR (cR (cR (bodyOf Try.f23)))))))
noncomputable def platform_Explain_c37 : Code := cR (cR (cR (cR (cR (cR (cR (bodyOf Try.f23)))))))
noncomputable def platform_Explain_c38 : Code := cR (cR (cR (cR (cR (cR (bodyOf Try.f23))))))
noncomputable def platform_Explain_c39 : Code := cR (cR (cR (cR (cR (bodyOf Try.f23)))))
noncomputable def platform_Explain_c40 : Code := cR (cR (cR (cR (bodyOf Try.f23))))
noncomputable def platform_Explain_c41 : Code := cR (cR (cR (bodyOf Try.f23)))
noncomputable def platform_Explain_c42 : Code := cR (cR (bodyOf Try.f23))
noncomputable def platform_Explain_c43 : Code := cR (bodyOf Try.f23)
theorem platform_Explain_c8_eq : platform_Explain_c8 = .loop platform_Explain_c7 := by kernel_rfl
theorem platform_Explain_c9_eq : platform_Explain_c9 = .block 0 platform_Explain_c8 := by kernel_rfl
theorem platform_Explain_c10_eq : platform_Explain_c10 = .seq platform_Explain_c6 platform_Explain_c9 := by kernel_rfl
theorem platform_Explain_c20_eq : platform_Explain_c20 = .loop platform_Explain_c19 := by kernel_rfl
theorem platform_Explain_c21_eq : platform_Explain_c21 = .block 4 platform_Explain_c20 := by kernel_rfl
theorem platform_Explain_c22_eq : platform_Explain_c22 = .seq platform_Explain_c18 platform_Explain_c21 := by kernel_rfl
theorem platform_Explain_c24_eq : platform_Explain_c24 = .seq platform_Explain_c22 platform_Explain_c23 := by kernel_rfl
theorem platform_Explain_c25_eq : platform_Explain_c25 = .seq platform_Explain_c17 platform_Explain_c24 := by kernel_rfl
theorem platform_Explain_c26_eq : platform_Explain_c26 = .seq platform_Explain_c16 platform_Explain_c25 := by kernel_rfl
theorem platform_Explain_c27_eq : platform_Explain_c27 = .seq platform_Explain_c15 platform_Explain_c26 := by kernel_rfl
theorem platform_Explain_c28_eq : platform_Explain_c28 = .seq platform_Explain_c14 platform_Explain_c27 := by kernel_rfl
theorem platform_Explain_c29_eq : platform_Explain_c29 = .block 3 platform_Explain_c28 := by kernel_rfl
theorem platform_Explain_c31_eq : platform_Explain_c31 = .seq platform_Explain_c29 platform_Explain_c30 := by kernel_rfl
theorem platform_Explain_c32_eq : platform_Explain_c32 = .seq platform_Explain_c13 platform_Explain_c31 := by kernel_rfl
theorem platform_Explain_c33_eq : platform_Explain_c33 = .seq platform_Explain_c12 platform_Explain_c32 := by kernel_rfl
theorem platform_Explain_c34_eq : platform_Explain_c34 = .loop platform_Explain_c33 := by kernel_rfl
theorem platform_Explain_c35_eq : platform_Explain_c35 = .block 2 platform_Explain_c34 := by kernel_rfl
theorem platform_Explain_c36_eq : platform_Explain_c36 = .seq platform_Explain_c11 platform_Explain_c35 := by kernel_rfl
theorem platform_Explain_c38_eq : platform_Explain_c38 = .seq platform_Explain_c36 platform_Explain_c37 := by kernel_rfl
theorem platform_Explain_c39_eq : platform_Explain_c39 = .seq platform_Explain_c10 platform_Explain_c38 := by kernel_rfl
theorem platform_Explain_c40_eq : platform_Explain_c40 = .seq platform_Explain_c5 platform_Explain_c39 := by kernel_rfl
theorem platform_Explain_c41_eq : platform_Explain_c41 = .seq platform_Explain_c4 platform_Explain_c40 := by kernel_rfl
theorem platform_Explain_c42_eq : platform_Explain_c42 = .seq platform_Explain_c3 platform_Explain_c41 := by kernel_rfl
theorem platform_Explain_c43_eq : platform_Explain_c43 = .seq platform_Explain_c2 platform_Explain_c42 := by kernel_rfl
theorem platform_Explain_c0_eq : platform_Explain_c0 = .seq platform_Explain_c1 platform_Explain_c43 := by kernel_rfl
def platform_Explain_tt : TT := [(3, ⟨.int .i64, 1, 8, [.int .i64 0], [.int .i64 0], [], none⟩), (4, ⟨.bool, 1, 1, [.bool false], [.bool false], [], none⟩), (22, ⟨.sl 3 1, 1, 24, [.slice none 0 0], [.sl 1 []], [], none⟩), (24, ⟨.sl 28 3, 1, 24, [.slice none 0 0], [.sl 3 []], [], none⟩), (28, ⟨.struct, 3, 40, [.int .i64 0, .int .i64 0, .slice none 0 0], [.int .i64 0, .int .i64 0, .sl 1 []], [(0, 3), (1, 3), (2, 22)], none⟩), (31, ⟨.int .i64, 1, 8, [.int .i64 0], [.int .i64 0], [], none⟩), (55, ⟨.sl 4 1, 1, 24, [.slice none 0 0], [.sl 1 []], [], none⟩)]
theorem platform_Explain_tt_eq : mkTT Try.prog [3, 4, 22, 24, 28, 31, 55] = platform_Explain_tt := by kernel_rfl
def platform_Explain_cfg : List (Nat × Cfg) := [(0, ⟨[0, 1, 2], [], [], [], []⟩), (1, ⟨[0, 1, 2, 10, 11], [], [], [], []⟩), (2, ⟨[0, 1, 2, 10, 11, 30], [], [], [], []⟩), (3, ⟨[6, 7, 8], [], [], [], []⟩), (4, ⟨[0, 1, 2, 10, 11, 32], [], [], [], []⟩), (5, ⟨[6, 7, 8], [], [], [], []⟩), (6, ⟨[0, 1, 2, 10, 12], [(36, 36)], [], [], []⟩), (7, ⟨[0, 1, 2, 10, 12, 38, 39], [(36, 36)], [], [], []⟩), (8, ⟨[0, 1, 2, 10, 12, 38, 39, 40], [(36, 36)], [], [], []⟩), (9, ⟨[0, 1, 2, 10, 12, 13, 38, 39], [(36, 36)], [], [], []⟩), (10, ⟨[0, 1, 2, 10, 12, 38, 39], [(36, 36)], [], [], []⟩), (11, ⟨[0, 1, 2, 10, 12, 38, 39], [(36, 36)], [], [], []⟩), (12, ⟨[0, 1, 2, 10, 12, 47, 48], [(36, 36)], [], [], []⟩), (13, ⟨[0, 1, 2, 10, 12, 47, 48, 49], [(36, 36)], [], [], []⟩), (14, ⟨[0, 1, 2, 10, 12, 14, 47, 48], [(36, 36)], [], [], []⟩), (15, ⟨[0, 1, 2, 10, 12, 14, 47, 48, 53], [(36, 36)], [], [], []⟩), (16, ⟨[6, 7, 8], [], [], [], []⟩), (17, ⟨[0, 1, 2, 10, 12, 14, 47, 48], [(36, 36)], [], [], []⟩), (18, ⟨[0, 1, 2, 10, 12, 14, 15, 47, 48], [(36, 36)], [], [], []⟩), (19, ⟨[0, 1, 2, 10, 12, 14, 15, 47, 48, 58, 59, 60], [(36, 36), (100058, 100058)], [(15, 1015, 28, 3)], [], []⟩), (20, ⟨[0, 1, 2, 10, 12, 14, 15, 47, 48, 58, 59, 60, 61], [(36, 36), (1015, 1015), (100058, 100058)], [], [], []⟩), (21, ⟨[0, 1, 2, 10, 12, 14, 15, 17, 47, 48, 58, 59, 60], [(36, 36), (1015, 1015), (100058, 100058)], [], [], []⟩), (22, ⟨[0, 1, 2, 10, 12, 14, 15, 47, 48, 58, 59, 60], [(36, 36), (70, 1015), (100058, 100058)], [], [], []⟩), (23, ⟨[0, 1, 2, 10, 12, 14, 15, 47, 48, 58, 59, 60], [(1015, 1015), (36, 36), (100058, 100058)], [], [], []⟩), (24, ⟨[0, 1, 2, 10, 12, 14, 19, 20, 47, 48], [(36, 36)], [], [], []⟩), (25, ⟨[0, 1, 2, 10, 12, 14, 19, 20, 47, 48, 83], [(36, 36)], [], [], []⟩), (26, ⟨[6, 7, 8], [], [], [], []⟩), (27, ⟨[0, 1, 2, 10, 12, 14, 20, 47, 48], [(36, 36)], [], [], []⟩), (28, ⟨[0, 1, 2, 10, 12, 47, 48], [(36, 36)], [], [], []⟩), (29, ⟨[0, 1, 2, 10, 12, 47, 48], [(36, 36)], [], [], []⟩), (30, ⟨[6, 7, 8], [], [], [], []⟩)]
def platform_Explain_C (n : Nat) : VC := ⟨specOf [(15, platform_Assign_e n), (37, altE [95] (platform_members_e n) (platform_members_o n))], platform_Explain_tt, platform_Explain_cfg⟩
theorem platform_Explain_ents (n : Nat) : EntsOK Try.prog [(15, platform_Assign_e n), (37, altE [95] (platform_members_e n) (platform_members_o n))] := ⟨platform_Assign_ok n, ⟨altE_ok _ (platform_members_ok n) (platform_members_oo n), trivial⟩⟩
theorem platform_Explain_VC (n : Nat) : VCOk Try.prog (platform_Explain_C n) := ⟨specOf_ok (platform_Explain_ents n), (platform_Explain_tt_eq ▸ mkTT_ok _ : TOk Try.prog platform_Explain_tt), by kernel_rfl⟩
theorem platform_Explain_p1_congr {R : Type} (n : Nat) (a0 : Int) (a1 : List (List D)) (a2 : Int) {k0 kk0 : Option R} (hq0 : k0 = kk0) : platform_Explain_p1 n a0 a1 a2 k0 = platform_Explain_p1 n a0 a1 a2 kk0 := by
  obtain rfl : k0 = kk0 := hq0
  rfl
theorem platform_Explain_p2_congr {R : Type} (n : Nat) (a0 : Int) (a1 : List (List D)) (a2 : Int) {k0 kk0 : Int → Int → Option R} (hq0 : ∀ x0 x1, k0 x0 x1 = kk0 x0 x1) : platform_Explain_p2 n a0 a1 a2 k0 = platform_Explain_p2 n a0 a1 a2 kk0 := by
  obtain rfl : k0 = kk0 := funext fun x0 => funext fun x1 => hq0 x0 x1
  rfl
theorem platform_Explain_p3_congr {R : Type} (n : Nat) (a0 : Int) (a1 : List (List D)) (a2 : Int) (w4 : Int) (w5 : Int) {k0 kk0 : Option R} {k1 kk1 : Bool → Option R} (hq0 : k0 = kk0) (hq1 : ∀ x0, k1 x0 = kk1 x0) : platform_Explain_p3 n a0 a1 a2 w4 w5 k0 k1 = platform_Explain_p3 n a0 a1 a2 w4 w5 kk0 kk1 := by
  obtain rfl : k0 = kk0 := hq0
  obtain rfl : k1 = kk1 := funext fun x0 => hq1 x0
  rfl
theorem platform_Explain_p4_congr {R : Type} (n : Nat) (a0 : Int) (a1 : List (List D)) (a2 : Int) (w4 : Int) (w5 : Int) (w7 : Bool) {k0 kk0 : Option R} {k1 kk1 : Bool → Option R} (hq0 : k0 = kk0) (hq1 : ∀ x0, k1 x0 = kk1 x0) : platform_Explain_p4 n a0 a1 a2 w4 w5 w7 k0 k1 = platform_Explain_p4 n a0 a1 a2 w4 w5 w7 kk0 kk1 := by
  obtain rfl : k0 = kk0 := hq0
  obtain rfl : k1 = kk1 := funext fun x0 => hq1 x0
  rfl
theorem platform_Explain_p5_congr {R : Type} (n : Nat) (a0 : Int) (a1 : List (List D)) (a2 : Int) (w4 : Int) (w5 : Int) (w9 : Bool) {k0 kk0 : (List (List D)) → Option R} (hq0 : ∀ x0, k0 x0 = kk0 x0) : platform_Explain_p5 n a0 a1 a2 w4 w5 w9 k0 = platform_Explain_p5 n a0 a1 a2 w4 w5 w9 kk0 := by
  obtain rfl : k0 = kk0 := funext fun x0 => hq0 x0
  rfl
theorem platform_Explain_p6_congr {R : Type} (n : Nat) (a0 : Int) (a1 : List (List D)) (a2 : Int) (w4 : Int) (w13 : List (List D)) {k0 kk0 : Int → Option R} (hq0 : ∀ x0, k0 x0 = kk0 x0) : platform_Explain_p6 n a0 a1 a2 w4 w13 k0 = platform_Explain_p6 n a0 a1 a2 w4 w13 kk0 := by
  obtain rfl : k0 = kk0 := funext fun x0 => hq0 x0
  rfl
theorem platform_Explain_p7_congr {R : Type} (n : Nat) (a0 : Int) (a1 : List (List D)) (a2 : Int) (w4 : Int) (w15 : Int) (h21 : Int) (h22 : List (List D)) {k0 kk0 : Int → (List (List D)) → Option R} {k1 kk1 : Bool → Option R} (hq0 : ∀ x0 x1, k0 x0 x1 = kk0 x0 x1) (hq1 : ∀ x0, k1 x0 = kk1 x0) : platform_Explain_p7 n a0 a1 a2 w4 w15 h21 h22 k0 k1 = platform_Explain_p7 n a0 a1 a2 w4 w15 h21 h22 kk0 kk1 := by
  obtain rfl : k0 = kk0 := funext fun x0 => funext fun x1 => hq0 x0 x1
  obtain rfl : k1 = kk1 := funext fun x0 => hq1 x0
  rfl
theorem platform_Explain_p8_congr {R : Type} (n : Nat) (a0 : Int) (a1 : List (List D)) (a2 : Int) (w4 : Int) (w15 : Int) (w13 : List (List D)) {k0 kk0 : Int → Bool → (List (List D)) → Option R} (hq0 : ∀ x0 x1 x2, k0 x0 x1 x2 = kk0 x0 x1 x2) : platform_Explain_p8 n a0 a1 a2 w4 w15 w13 k0 = platform_Explain_p8 n a0 a1 a2 w4 w15 w13 kk0 := by
  obtain rfl : k0 = kk0 := funext fun x0 => funext fun x1 => funext fun x2 => hq0 x0 x1 x2
  rfl
theorem platform_Explain_p9_congr {R : Type} (n : Nat) (a0 : Int) (a1 : List (List D)) (a2 : Int) (w4 : Int) (w15 : Int) (w13 : List (List D)) {k0 kk0 : Int → Bool → (List (List D)) → Option R} (hq0 : ∀ x0 x1 x2, k0 x0 x1 x2 = kk0 x0 x1 x2) : platform_Explain_p9 n a0 a1 a2 w4 w15 w13 k0 = platform_Explain_p9 n a0 a1 a2 w4 w15 w13 kk0 := by
  obtain rfl : k0 = kk0 := funext fun x0 => funext fun x1 => funext fun x2 => hq0 x0 x1 x2
  rfl
theorem platform_Explain_p10_congr {R : Type} (n : Nat) (a0 : Int) (a1 : List (List D)) (a2 : Int) (w4 : Int) (w13 : List (List D)) {k0 kk0 : Int → Int → Bool → (List (List D)) → Option R} (hq0 : ∀ x0 x1 x2 x3, k0 x0 x1 x2 x3 = kk0 x0 x1 x2 x3) : platform_Explain_p10 n a0 a1 a2 w4 w13 k0 = platform_Explain_p10 n a0 a1 a2 w4 w13 kk0 := by
  obtain rfl : k0 = kk0 := funext fun x0 => funext fun x1 => funext fun x2 => funext fun x3 => hq0 x0 x1 x2 x3
  rfl
theorem platform_Explain_p11_congr {R : Type} (n : Nat) (a0 : Int) (a1 : List (List D)) (a2 : Int) (w4 : Int) (w42 : Int) (w43 : Int) (w44 : Bool) (w45 : List (List D)) {k0 kk0 : Int → Option R} (hq0 : ∀ x0, k0 x0 = kk0 x0) : platform_Explain_p11 n a0 a1 a2 w4 w42 w43 w44 w45 k0 = platform_Explain_p11 n a0 a1 a2 w4 w42 w43 w44 w45 kk0 := by
  obtain rfl : k0 = kk0 := funext fun x0 => hq0 x0
  rfl
theorem platform_Explain_p12_congr {R : Type} (n : Nat) (a0 : Int) (a1 : List (List D)) (a2 : Int) (h51 : Int) (w47 : Int) (h53 : Int) (h54 : List (List D)) {k0 kk0 : Bool → Option R} (hq0 : ∀ x0, k0 x0 = kk0 x0) : platform_Explain_p12 n a0 a1 a2 h51 w47 h53 h54 k0 = platform_Explain_p12 n a0 a1 a2 h51 w47 h53 h54 kk0 := by
  obtain rfl : k0 = kk0 := funext fun x0 => hq0 x0
  rfl
theorem platform_Explain_p13_congr {R : Type} (n : Nat) (a0 : Int) (a1 : List (List D)) (a2 : Int) (h51 : Int) (w47 : Int) (h53 : Int) (w157 : Bool) (h54 : List (List D)) {k0 kk0 : Option R} {k1 kk1 : Option R} (hq0 : k0 = kk0) (hq1 : k1 = kk1) : platform_Explain_p13 n a0 a1 a2 h51 w47 h53 w157 h54 k0 k1 = platform_Explain_p13 n a0 a1 a2 h51 w47 h53 w157 h54 kk0 kk1 := by
  obtain rfl : k0 = kk0 := hq0
  obtain rfl : k1 = kk1 := hq1
  rfl
theorem platform_Explain_p14_congr {R : Type} (n : Nat) (a0 : Int) (a1 : List (List D)) (a2 : Int) (h51 : Int) (w47 : Int) (h53 : Int) (w157 : Bool) (h54 : List (List D)) {k0 kk0 : Option R} (hq0 : k0 = kk0) : platform_Explain_p14 n a0 a1 a2 h51 w47 h53 w157 h54 k0 = platform_Explain_p14 n a0 a1 a2 h51 w47 h53 w157 h54 kk0 := by
  obtain rfl : k0 = kk0 := hq0
  rfl
theorem platform_Explain_p15_congr {R : Type} (n : Nat) (a0 : Int) (a1 : List (List D)) (a2 : Int) (h51 : Int) (h53 : Int) (w47 : Int) (h54 : List (List D)) {k0 kk0 : Option R} {k1 kk1 : Bool → Option R} (hq0 : k0 = kk0) (hq1 : ∀ x0, k1 x0 = kk1 x0) : platform_Explain_p15 n a0 a1 a2 h51 h53 w47 h54 k0 k1 = platform_Explain_p15 n a0 a1 a2 h51 h53 w47 h54 kk0 kk1 := by
  obtain rfl : k0 = kk0 := hq0
  obtain rfl : k1 = kk1 := funext fun x0 => hq1 x0
  rfl
theorem platform_Explain_p16_congr {R : Type} (n : Nat) (a0 : Int) (a1 : List (List D)) (a2 : Int) (h51 : Int) (h53 : Int) (w47 : Int) (w159 : Bool) (h54 : List (List D)) {k0 kk0 : (List (List D)) → Option R} (hq0 : ∀ x0, k0 x0 = kk0 x0) : platform_Explain_p16 n a0 a1 a2 h51 h53 w47 w159 h54 k0 = platform_Explain_p16 n a0 a1 a2 h51 h53 w47 w159 h54 kk0 := by
  obtain rfl : k0 = kk0 := funext fun x0 => hq0 x0
  rfl
theorem platform_Explain_p17_congr {R : Type} (n : Nat) (a0 : Int) (a1 : List (List D)) (a2 : Int) (h51 : Int) (h53 : Int) (w47 : Int) (w163 : List (List D)) {k0 kk0 : Option R} (hq0 : k0 = kk0) : platform_Explain_p17 n a0 a1 a2 h51 h53 w47 w163 k0 = platform_Explain_p17 n a0 a1 a2 h51 h53 w47 w163 kk0 := by
  obtain rfl : k0 = kk0 := hq0
  rfl
theorem platform_Explain_p18_congr {R : Type} (n : Nat) (a0 : Int) (a1 : List (List D)) (a2 : Int) (h51 : Int) (h53 : Int) (w47 : Int) (w163 : List (List D)) {k0 kk0 : Int → (List (List D)) → Option R} (hq0 : ∀ x0 x1, k0 x0 x1 = kk0 x0 x1) : platform_Explain_p18 n a0 a1 a2 h51 h53 w47 w163 k0 = platform_Explain_p18 n a0 a1 a2 h51 h53 w47 w163 kk0 := by
  obtain rfl : k0 = kk0 := funext fun x0 => funext fun x1 => hq0 x0 x1
  rfl
theorem platform_Explain_p19_congr {R : Type} (n : Nat) (a0 : Int) (a1 : List (List D)) (a2 : Int) (h51 : Int) (h53 : Int) (w47 : Int) (w167 : Int) (h177 : Int) (h178 : List (List D)) (w163 : List (List D)) (w168 : List (List D)) {k0 kk0 : Int → (List (List D)) → Option R} {k1 kk1 : Bool → Option R} (hq0 : ∀ x0 x1, k0 x0 x1 = kk0 x0 x1) (hq1 : ∀ x0, k1 x0 = kk1 x0) : platform_Explain_p19 n a0 a1 a2 h51 h53 w47 w167 h177 h178 w163 w168 k0 k1 = platform_Explain_p19 n a0 a1 a2 h51 h53 w47 w167 h177 h178 w163 w168 kk0 kk1 := by
  obtain rfl : k0 = kk0 := funext fun x0 => funext fun x1 => hq0 x0 x1
  obtain rfl : k1 = kk1 := funext fun x0 => hq1 x0
  rfl
theorem platform_Explain_p20_congr {R : Type} (n : Nat) (a0 : Int) (a1 : List (List D)) (a2 : Int) (h51 : Int) (h53 : Int) (w47 : Int) (w167 : Int) (w163 : List (List D)) (w168 : List (List D)) {k0 kk0 : Int → Bool → (List (List D)) → Option R} (hq0 : ∀ x0 x1 x2, k0 x0 x1 x2 = kk0 x0 x1 x2) : platform_Explain_p20 n a0 a1 a2 h51 h53 w47 w167 w163 w168 k0 = platform_Explain_p20 n a0 a1 a2 h51 h53 w47 w167 w163 w168 kk0 := by
  obtain rfl : k0 = kk0 := funext fun x0 => funext fun x1 => funext fun x2 => hq0 x0 x1 x2
  rfl
theorem platform_Explain_p21_congr {R : Type} (n : Nat) (a0 : Int) (a1 : List (List D)) (a2 : Int) (h51 : Int) (h53 : Int) (w47 : Int) (w167 : Int) (w163 : List (List D)) (w168 : List (List D)) {k0 kk0 : Int → Bool → (List (List D)) → Option R} (hq0 : ∀ x0 x1 x2, k0 x0 x1 x2 = kk0 x0 x1 x2) : platform_Explain_p21 n a0 a1 a2 h51 h53 w47 w167 w163 w168 k0 = platform_Explain_p21 n a0 a1 a2 h51 h53 w47 w167 w163 w168 kk0 := by
  obtain rfl : k0 = kk0 := funext fun x0 => funext fun x1 => funext fun x2 => hq0 x0 x1 x2
  rfl
theorem platform_Explain_p22_congr {R : Type} (n : Nat) (a0 : Int) (a1 : List (List D)) (a2 : Int) (h51 : Int) (h53 : Int) (w47 : Int) (w163 : List (List D)) {k0 kk0 : Int → Int → Bool → (List (List D)) → (List (List D)) → Option R} (hq0 : ∀ x0 x1 x2 x3 x4, k0 x0 x1 x2 x3 x4 = kk0 x0 x1 x2 x3 x4) : platform_Explain_p22 n a0 a1 a2 h51 h53 w47 w163 k0 = platform_Explain_p22 n a0 a1 a2 h51 h53 w47 w163 kk0 := by
  obtain rfl : k0 = kk0 := funext fun x0 => funext fun x1 => funext fun x2 => funext fun x3 => funext fun x4 => hq0 x0 x1 x2 x3 x4
  rfl
theorem platform_Explain_p23_congr {R : Type} (n : Nat) (a0 : Int) (a1 : List (List D)) (a2 : Int) (h51 : Int) (h53 : Int) (w47 : Int) (w214 : Int) (w215 : Int) (w216 : Bool) (w163 : List (List D)) (w217 : List (List D)) (w218 : List (List D)) {k0 kk0 : Int → Option R} {k1 kk1 : Int → (List (List D)) → Option R} (hq0 : ∀ x0, k0 x0 = kk0 x0) (hq1 : ∀ x0 x1, k1 x0 x1 = kk1 x0 x1) : platform_Explain_p23 n a0 a1 a2 h51 h53 w47 w214 w215 w216 w163 w217 w218 k0 k1 = platform_Explain_p23 n a0 a1 a2 h51 h53 w47 w214 w215 w216 w163 w217 w218 kk0 kk1 := by
  obtain rfl : k0 = kk0 := funext fun x0 => hq0 x0
  obtain rfl : k1 = kk1 := funext fun x0 => funext fun x1 => hq1 x0 x1
  rfl
theorem platform_Explain_p24_congr {R : Type} (n : Nat) (a0 : Int) (a1 : List (List D)) (a2 : Int) (h51 : Int) (h53 : Int) (w47 : Int) (w163 : List (List D)) {k0 kk0 : Int → Option R} {k1 kk1 : Int → (List (List D)) → Option R} (hq0 : ∀ x0, k0 x0 = kk0 x0) (hq1 : ∀ x0 x1, k1 x0 x1 = kk1 x0 x1) : platform_Explain_p24 n a0 a1 a2 h51 h53 w47 w163 k0 k1 = platform_Explain_p24 n a0 a1 a2 h51 h53 w47 w163 kk0 kk1 := by
  obtain rfl : k0 = kk0 := funext fun x0 => hq0 x0
  obtain rfl : k1 = kk1 := funext fun x0 => funext fun x1 => hq1 x0 x1
  rfl
theorem platform_Explain_p25_congr {R : Type} (n : Nat) (a0 : Int) (a1 : List (List D)) (a2 : Int) (h51 : Int) (h53 : Int) (w47 : Int) (w163 : List (List D)) {k0 kk0 : Int → Option R} {k1 kk1 : Int → (List (List D)) → Option R} (hq0 : ∀ x0, k0 x0 = kk0 x0) (hq1 : ∀ x0 x1, k1 x0 x1 = kk1 x0 x1) : platform_Explain_p25 n a0 a1 a2 h51 h53 w47 w163 k0 k1 = platform_Explain_p25 n a0 a1 a2 h51 h53 w47 w163 kk0 kk1 := by
  obtain rfl : k0 = kk0 := funext fun x0 => hq0 x0
  obtain rfl : k1 = kk1 := funext fun x0 => funext fun x1 => hq1 x0 x1
  rfl
theorem platform_Explain_p26_congr {R : Type} (n : Nat) (a0 : Int) (a1 : List (List D)) (a2 : Int) (h51 : Int) (h53 : Int) (w47 : Int) (w159 : Bool) (h54 : List (List D)) {k0 kk0 : Int → Option R} {k1 kk1 : Int → (List (List D)) → Option R} (hq0 : ∀ x0, k0 x0 = kk0 x0) (hq1 : ∀ x0 x1, k1 x0 x1 = kk1 x0 x1) : platform_Explain_p26 n a0 a1 a2 h51 h53 w47 w159 h54 k0 k1 = platform_Explain_p26 n a0 a1 a2 h51 h53 w47 w159 h54 kk0 kk1 := by
  obtain rfl : k0 = kk0 := funext fun x0 => hq0 x0
  obtain rfl : k1 = kk1 := funext fun x0 => funext fun x1 => hq1 x0 x1
  rfl
theorem platform_Explain_p27_congr {R : Type} (n : Nat) (a0 : Int) (a1 : List (List D)) (a2 : Int) (h51 : Int) (h53 : Int) (w47 : Int) (h54 : List (List D)) {k0 kk0 : Int → Option R} {k1 kk1 : Int → (List (List D)) → Option R} (hq0 : ∀ x0, k0 x0 = kk0 x0) (hq1 : ∀ x0 x1, k1 x0 x1 = kk1 x0 x1) : platform_Explain_p27 n a0 a1 a2 h51 h53 w47 h54 k0 k1 = platform_Explain_p27 n a0 a1 a2 h51 h53 w47 h54 kk0 kk1 := by
  obtain rfl : k0 = kk0 := funext fun x0 => hq0 x0
  obtain rfl : k1 = kk1 := funext fun x0 => funext fun x1 => hq1 x0 x1
  rfl
theorem platform_Explain_p28_congr {R : Type} (n : Nat) (a0 : Int) (a1 : List (List D)) (a2 : Int) (h51 : Int) (w47 : Int) (h53 : Int) (w157 : Bool) (h54 : List (List D)) {k0 kk0 : Int → Option R} {k1 kk1 : Int → (List (List D)) → Option R} (hq0 : ∀ x0, k0 x0 = kk0 x0) (hq1 : ∀ x0 x1, k1 x0 x1 = kk1 x0 x1) : platform_Explain_p28 n a0 a1 a2 h51 w47 h53 w157 h54 k0 k1 = platform_Explain_p28 n a0 a1 a2 h51 w47 h53 w157 h54 kk0 kk1 := by
  obtain rfl : k0 = kk0 := funext fun x0 => hq0 x0
  obtain rfl : k1 = kk1 := funext fun x0 => funext fun x1 => hq1 x0 x1
  rfl
theorem platform_Explain_p29_congr {R : Type} (n : Nat) (a0 : Int) (a1 : List (List D)) (a2 : Int) (h51 : Int) (w47 : Int) (h53 : Int) (w157 : Bool) (h54 : List (List D)) {k0 kk0 : Int → Option R} {k1 kk1 : Int → (List (List D)) → Option R} (hq0 : ∀ x0, k0 x0 = kk0 x0) (hq1 : ∀ x0 x1, k1 x0 x1 = kk1 x0 x1) : platform_Explain_p29 n a0 a1 a2 h51 w47 h53 w157 h54 k0 k1 = platform_Explain_p29 n a0 a1 a2 h51 w47 h53 w157 h54 kk0 kk1 := by
  obtain rfl : k0 = kk0 := funext fun x0 => hq0 x0
  obtain rfl : k1 = kk1 := funext fun x0 => funext fun x1 => hq1 x0 x1
  rfl
theorem platform_Explain_p30_congr {R : Type} (n : Nat) (a0 : Int) (a1 : List (List D)) (a2 : Int) (w245 : Int) (w47 : Int) (h53 : Int) (w246 : List (List D)) {k0 kk0 : Int → Option R} (hq0 : ∀ x0, k0 x0 = kk0 x0) : platform_Explain_p30 n a0 a1 a2 w245 w47 h53 w246 k0 = platform_Explain_p30 n a0 a1 a2 w245 w47 h53 w246 kk0 := by
  obtain rfl : k0 = kk0 := funext fun x0 => hq0 x0
  rfl
theorem platform_Explain_p31_congr {R : Type} (n : Nat) (a0 : Int) (a1 : List (List D)) (a2 : Int) (h51 : Int) (w47 : Int) (h53 : Int) (w157 : Bool) (h54 : List (List D)) {k0 kk0 : Int → Option R} {k1 kk1 : Int → Int → (List (List D)) → Option R} (hq0 : ∀ x0, k0 x0 = kk0 x0) (hq1 : ∀ x0 x1 x2, k1 x0 x1 x2 = kk1 x0 x1 x2) : platform_Explain_p31 n a0 a1 a2 h51 w47 h53 w157 h54 k0 k1 = platform_Explain_p31 n a0 a1 a2 h51 w47 h53 w157 h54 kk0 kk1 := by
  obtain rfl : k0 = kk0 := funext fun x0 => hq0 x0
  obtain rfl : k1 = kk1 := funext fun x0 => funext fun x1 => funext fun x2 => hq1 x0 x1 x2
  rfl
theorem platform_Explain_p32_congr {R : Type} (n : Nat) (a0 : Int) (a1 : List (List D)) (a2 : Int) (h51 : Int) (w47 : Int) (h53 : Int) (w157 : Bool) (h54 : List (List D)) {k0 kk0 : Int → Option R} {k1 kk1 : Int → Int → (List (List D)) → Option R} {k2 kk2 : Option R} (hq0 : ∀ x0, k0 x0 = kk0 x0) (hq1 : ∀ x0 x1 x2, k1 x0 x1 x2 = kk1 x0 x1 x2) (hq2 : k2 = kk2) : platform_Explain_p32 n a0 a1 a2 h51 w47 h53 w157 h54 k0 k1 k2 = platform_Explain_p32 n a0 a1 a2 h51 w47 h53 w157 h54 kk0 kk1 kk2 := by
  obtain rfl : k0 = kk0 := funext fun x0 => hq0 x0
  obtain rfl : k1 = kk1 := funext fun x0 => funext fun x1 => funext fun x2 => hq1 x0 x1 x2
  obtain rfl : k2 = kk2 := hq2
  rfl
theorem platform_Explain_p33_congr {R : Type} (n : Nat) (a0 : Int) (a1 : List (List D)) (a2 : Int) (h51 : Int) (w47 : Int) (h53 : Int) (h54 : List (List D)) {k0 kk0 : Int → Option R} {k1 kk1 : Int → Int → (List (List D)) → Option R} {k2 kk2 : Bool → Option R} (hq0 : ∀ x0, k0 x0 = kk0 x0) (hq1 : ∀ x0 x1 x2, k1 x0 x1 x2 = kk1 x0 x1 x2) (hq2 : ∀ x0, k2 x0 = kk2 x0) : platform_Explain_p33 n a0 a1 a2 h51 w47 h53 h54 k0 k1 k2 = platform_Explain_p33 n a0 a1 a2 h51 w47 h53 h54 kk0 kk1 kk2 := by
  obtain rfl : k0 = kk0 := funext fun x0 => hq0 x0
  obtain rfl : k1 = kk1 := funext fun x0 => funext fun x1 => funext fun x2 => hq1 x0 x1 x2
  obtain rfl : k2 = kk2 := funext fun x0 => hq2 x0
  rfl
theorem platform_Explain_p34_congr {R : Type} (n : Nat) (a0 : Int) (a1 : List (List D)) (a2 : Int) (w4 : Int) (w47 : Int) (w45 : List (List D)) {k0 kk0 : Int → Option R} {k1 kk1 : Int → Int → Bool → (List (List D)) → Option R} (hq0 : ∀ x0, k0 x0 = kk0 x0) (hq1 : ∀ x0 x1 x2 x3, k1 x0 x1 x2 x3 = kk1 x0 x1 x2 x3) : platform_Explain_p34 n a0 a1 a2 w4 w47 w45 k0 k1 = platform_Explain_p34 n a0 a1 a2 w4 w47 w45 kk0 kk1 := by
  obtain rfl : k0 = kk0 := funext fun x0 => hq0 x0
  obtain rfl : k1 = kk1 := funext fun x0 => funext fun x1 => funext fun x2 => funext fun x3 => hq1 x0 x1 x2 x3
  rfl
theorem platform_Explain_p35_congr {R : Type} (n : Nat) (a0 : Int) (a1 : List (List D)) (a2 : Int) (w4 : Int) (w47 : Int) (w45 : List (List D)) {k0 kk0 : Int → Option R} {k1 kk1 : Int → Int → Bool → (List (List D)) → Option R} (hq0 : ∀ x0, k0 x0 = kk0 x0) (hq1 : ∀ x0 x1 x2 x3, k1 x0 x1 x2 x3 = kk1 x0 x1 x2 x3) : platform_Explain_p35 n a0 a1 a2 w4 w47 w45 k0 k1 = platform_Explain_p35 n a0 a1 a2 w4 w47 w45 kk0 kk1 := by
  obtain rfl : k0 = kk0 := funext fun x0 => hq0 x0
  obtain rfl : k1 = kk1 := funext fun x0 => funext fun x1 => funext fun x2 => funext fun x3 => hq1 x0 x1 x2 x3
  rfl
theorem platform_Explain_p36_congr {R : Type} (n : Nat) (a0 : Int) (a1 : List (List D)) (a2 : Int) (w4 : Int) (w42 : Int) (w43 : Int) (w44 : Bool) (w45 : List (List D)) {k0 kk0 : Int → Option R} {k1 kk1 : Int → Int → Int → Bool → (List (List D)) → Option R} (hq0 : ∀ x0, k0 x0 = kk0 x0) (hq1 : ∀ x0 x1 x2 x3 x4, k1 x0 x1 x2 x3 x4 = kk1 x0 x1 x2 x3 x4) : platform_Explain_p36 n a0 a1 a2 w4 w42 w43 w44 w45 k0 k1 = platform_Explain_p36 n a0 a1 a2 w4 w42 w43 w44 w45 kk0 kk1 := by
  obtain rfl : k0 = kk0 := funext fun x0 => hq0 x0
  obtain rfl : k1 = kk1 := funext fun x0 => funext fun x1 => funext fun x2 => funext fun x3 => funext fun x4 => hq1 x0 x1 x2 x3 x4
  rfl
theorem platform_Explain_p37_congr {R : Type} (n : Nat) (a0 : Int) (a1 : List (List D)) (a2 : Int) (w273 : Int) (w274 : Int) (w275 : Int) (w276 : Bool) (w277 : List (List D)) {k0 kk0 : (List (List D)) → Option R} (hq0 : ∀ x0, k0 x0 = kk0 x0) : platform_Explain_p37 n a0 a1 a2 w273 w274 w275 w276 w277 k0 = platform_Explain_p37 n a0 a1 a2 w273 w274 w275 w276 w277 kk0 := by
  obtain rfl : k0 = kk0 := funext fun x0 => hq0 x0
  rfl
theorem platform_Explain_p38_congr {R : Type} (n : Nat) (a0 : Int) (a1 : List (List D)) (a2 : Int) (w4 : Int) (w42 : Int) (w43 : Int) (w44 : Bool) (w45 : List (List D)) {k0 kk0 : Int → Option R} {k1 kk1 : (List (List D)) → Int → Option R} (hq0 : ∀ x0, k0 x0 = kk0 x0) (hq1 : ∀ x0 x1, k1 x0 x1 = kk1 x0 x1) : platform_Explain_p38 n a0 a1 a2 w4 w42 w43 w44 w45 k0 k1 = platform_Explain_p38 n a0 a1 a2 w4 w42 w43 w44 w45 kk0 kk1 := by
  obtain rfl : k0 = kk0 := funext fun x0 => hq0 x0
  obtain rfl : k1 = kk1 := funext fun x0 => funext fun x1 => hq1 x0 x1
  rfl
theorem platform_Explain_p39_congr {R : Type} (n : Nat) (a0 : Int) (a1 : List (List D)) (a2 : Int) (w4 : Int) (w13 : List (List D)) {k0 kk0 : Int → Option R} {k1 kk1 : (List (List D)) → Int → Option R} (hq0 : ∀ x0, k0 x0 = kk0 x0) (hq1 : ∀ x0 x1, k1 x0 x1 = kk1 x0 x1) : platform_Explain_p39 n a0 a1 a2 w4 w13 k0 k1 = platform_Explain_p39 n a0 a1 a2 w4 w13 kk0 kk1 := by
  obtain rfl : k0 = kk0 := funext fun x0 => hq0 x0
  obtain rfl : k1 = kk1 := funext fun x0 => funext fun x1 => hq1 x0 x1
  rfl
theorem platform_Explain_p40_congr {R : Type} (n : Nat) (a0 : Int) (a1 : List (List D)) (a2 : Int) (w4 : Int) (w5 : Int) (w9 : Bool) {k0 kk0 : Int → Option R} {k1 kk1 : (List (List D)) → Int → Option R} (hq0 : ∀ x0, k0 x0 = kk0 x0) (hq1 : ∀ x0 x1, k1 x0 x1 = kk1 x0 x1) : platform_Explain_p40 n a0 a1 a2 w4 w5 w9 k0 k1 = platform_Explain_p40 n a0 a1 a2 w4 w5 w9 kk0 kk1 := by
  obtain rfl : k0 = kk0 := funext fun x0 => hq0 x0
  obtain rfl : k1 = kk1 := funext fun x0 => funext fun x1 => hq1 x0 x1
  rfl
theorem platform_Explain_p41_congr {R : Type} (n : Nat) (a0 : Int) (a1 : List (List D)) (a2 : Int) (w4 : Int) (w5 : Int) (w7 : Bool) {k0 kk0 : Int → Option R} {k1 kk1 : (List (List D)) → Int → Option R} (hq0 : ∀ x0, k0 x0 = kk0 x0) (hq1 : ∀ x0 x1, k1 x0 x1 = kk1 x0 x1) : platform_Explain_p41 n a0 a1 a2 w4 w5 w7 k0 k1 = platform_Explain_p41 n a0 a1 a2 w4 w5 w7 kk0 kk1 := by
  obtain rfl : k0 = kk0 := funext fun x0 => hq0 x0
  obtain rfl : k1 = kk1 := funext fun x0 => funext fun x1 => hq1 x0 x1
  rfl
theorem platform_Explain_p42_congr {R : Type} (n : Nat) (a0 : Int) (a1 : List (List D)) (a2 : Int) (w4 : Int) (w5 : Int) {k0 kk0 : Int → Option R} {k1 kk1 : (List (List D)) → Int → Option R} (hq0 : ∀ x0, k0 x0 = kk0 x0) (hq1 : ∀ x0 x1, k1 x0 x1 = kk1 x0 x1) : platform_Explain_p42 n a0 a1 a2 w4 w5 k0 k1 = platform_Explain_p42 n a0 a1 a2 w4 w5 kk0 kk1 := by
  obtain rfl : k0 = kk0 := funext fun x0 => hq0 x0
  obtain rfl : k1 = kk1 := funext fun x0 => funext fun x1 => hq1 x0 x1
  rfl
theorem platform_Explain_p43_congr {R : Type} (n : Nat) (a0 : Int) (a1 : List (List D)) (a2 : Int) {k0 kk0 : Int → Option R} {k1 kk1 : (List (List D)) → Int → Option R} (hq0 : ∀ x0, k0 x0 = kk0 x0) (hq1 : ∀ x0 x1, k1 x0 x1 = kk1 x0 x1) : platform_Explain_p43 n a0 a1 a2 k0 k1 = platform_Explain_p43 n a0 a1 a2 kk0 kk1 := by
  obtain rfl : k0 = kk0 := funext fun x0 => hq0 x0
  obtain rfl : k1 = kk1 := funext fun x0 => funext fun x1 => hq1 x0 x1
  rfl
theorem platform_Explain_p44_congr {R : Type} (n : Nat) (a0 : Int) (a1 : List (List D)) (a2 : Int) {k0 kk0 : Int → Option R} {k1 kk1 : (List (List D)) → Int → Option R} (hq0 : ∀ x0, k0 x0 = kk0 x0) (hq1 : ∀ x0 x1, k1 x0 x1 = kk1 x0 x1) : platform_Explain_p44 n a0 a1 a2 k0 k1 = platform_Explain_p44 n a0 a1 a2 kk0 kk1 := by
  obtain rfl : k0 = kk0 := funext fun x0 => hq0 x0
  obtain rfl : k1 = kk1 := funext fun x0 => funext fun x1 => hq1 x0 x1
  rfl
theorem platform_Explain_p1_eq {R : Type} (n : Nat) (a0 : Int) (a1 : List (List D)) (a2 : Int) (k : Exit → St → Option R) : vexec (platform_Explain_C n) n platform_Explain_c1 ⟨97, [(0, .d (D.int .i64 a0)), (1, .d (D.sl 3 a1)), (2, .d (D.int .i64 a2))], []⟩ k = platform_Explain_p1 n a0 a1 a2 (k .normal ⟨97, [(0, .d (D.int .i64 a0)), (1, .d (D.sl 3 a1)), (2, .d (D.int .i64 a2))], []⟩) := by kernel_rfl
theorem platform_Explain_p2_eq {R : Type} (n : Nat) (a0 : Int) (a1 : List (List D)) (a2 : Int) (k : Exit → St → Option R) : vexec (platform_Explain_C n) n platform_Explain_c2 ⟨97, [(0, .d (D.int .i64 a0)), (1, .d (D.sl 3 a1)), (2, .d (D.int .i64 a2))], []⟩ k = platform_Explain_p2 n a0 a1 a2 (fun z2 z3 => k .normal ⟨97, [(0, .d (D.int .i64 a0)), (1, .d (D.sl 3 a1)), (2, .d (D.int .i64 a2)), (10, .d (D.int .i64 z2)), (11, .d (D.int .i64 z3))], []⟩) := by kernel_rfl
theorem platform_Explain_p3_eq {R : Type} (n : Nat) (a0 : Int) (a1 : List (List D)) (a2 : Int) (w4 : Int) (w5 : Int) (k : Exit → St → Option R) : vexec (platform_Explain_C n) n platform_Explain_c3 ⟨97, [(0, .d (D.int .i64 a0)), (1, .d (D.sl 3 a1)), (2, .d (D.int .i64 a2)), (10, .d (D.int .i64 w4)), (11, .d (D.int .i64 w5))], []⟩ k = platform_Explain_p3 n a0 a1 a2 w4 w5 (k .ret ⟨97, [(6, .nil), (7, .d (D.int .i64 (0 : Int))), (8, .d (D.int .i64 (6 : Int)))], []⟩) (fun z6 => k .normal ⟨97, [(0, .d (D.int .i64 a0)), (1, .d (D.sl 3 a1)), (2, .d (D.int .i64 a2)), (10, .d (D.int .i64 w4)), (11, .d (D.int .i64 w5)), (30, .d (D.bool z6))], []⟩) := by kernel_rfl
theorem platform_Explain_p4_eq {R : Type} (n : Nat) (a0 : Int) (a1 : List (List D)) (a2 : Int) (w4 : Int) (w5 : Int) (w7 : Bool) (k : Exit → St → Option R) : vexec (platform_Explain_C n) n platform_Explain_c4 ⟨97, [(0, .d (D.int .i64 a0)), (1, .d (D.sl 3 a1)), (2, .d (D.int .i64 a2)), (10, .d (D.int .i64 w4)), (11, .d (D.int .i64 w5)), (30, .d (D.bool w7))], []⟩ k = platform_Explain_p4 n a0 a1 a2 w4 w5 w7 (k .ret ⟨97, [(6, .nil), (7, .d (D.int .i64 (0 : Int))), (8, .d (D.int .i64 w5))], []⟩) (fun z8 => k .normal ⟨97, [(0, .d (D.int .i64 a0)), (1, .d (D.sl 3 a1)), (2, .d (D.int .i64 a2)), (10, .d (D.int .i64 w4)), (11, .d (D.int .i64 w5)), (32, .d (D.bool z8))], []⟩) := by kernel_rfl
theorem platform_Explain_p5_eq {R : Type} (n : Nat) (a0 : Int) (a1 : List (List D)) (a2 : Int) (w4 : Int) (w5 : Int) (w9 : Bool) (k : Exit → St → Option R) : vexec (platform_Explain_C n) n platform_Explain_c5 ⟨97, [(0, .d (D.int .i64 a0)), (1, .d (D.sl 3 a1)), (2, .d (D.int .i64 a2)), (10, .d (D.int .i64 w4)), (11, .d (D.int .i64 w5)), (32, .d (D.bool w9))], []⟩ k = platform_Explain_p5 n a0 a1 a2 w4 w5 w9 (fun z12 => k .normal ⟨97, [(0, .d (D.int .i64 a0)), (1, .d (D.sl 3 a1)), (2, .d (D.int .i64 a2)), (10, .d (D.int .i64 w4)), (12, .arr 36)], [(36, .arr 4 1 z12)]⟩) := by kernel_rfl
theorem platform_Explain_p6_eq {R : Type} (n : Nat) (a0 : Int) (a1 : List (List D)) (a2 : Int) (w4 : Int) (w13 : List (List D)) (k : Exit → St → Option R) : vexec (platform_Explain_C n) n platform_Explain_c6 ⟨97, [(0, .d (D.int .i64 a0)), (1, .d (D.sl 3 a1)), (2, .d (D.int .i64 a2)), (10, .d (D.int .i64 w4)), (12, .arr 36)], [(36, .arr 4 1 w13)]⟩ k = platform_Explain_p6 n a0 a1 a2 w4 w13 (fun z14 => k .normal ⟨97, [(0, .d (D.int .i64 a0)), (1, .d (D.sl 3 a1)), (2, .d (D.int .i64 a2)), (10, .d (D.int .i64 w4)), (12, .arr 36), (38, .d (D.int .i64 z14)), (39, .d (D.int .i64 (0 : Int)))], [(36, .arr 4 1 w13)]⟩) := by kernel_rfl
theorem platform_Explain_p7_eq {R : Type} (n : Nat) (a0 : Int) (a1 : List (List D)) (a2 : Int) (w4 : Int) (w15 : Int) (h21 : Int) (h22 : List (List D)) (k : Exit → St → Option R) : vexec (platform_Explain_C n) n platform_Explain_c7 ⟨97, [(0, .d (D.int .i64 a0)), (1, .d (D.sl 3 a1)), (2, .d (D.int .i64 a2)), (10, .d (D.int .i64 w4)), (12, .arr 36), (38, .d (D.int .i64 w15)), (39, .d (D.int .i64 h21))], [(36, .arr 4 1 h22)]⟩ k = platform_Explain_p7 n a0 a1 a2 w4 w15 h21 h22 (fun z30 z31 => k .normal ⟨97, [(0, .d (D.int .i64 a0)), (1, .d (D.sl 3 a1)), (2, .d (D.int .i64 a2)), (10, .d (D.int .i64 w4)), (12, .arr 36), (38, .d (D.int .i64 w15)), (39, .d (D.int .i64 z30))], [(36, .arr 4 1 z31)]⟩) (fun z32 => k (.exit 0) ⟨97, [(0, .d (D.int .i64 a0)), (1, .d (D.sl 3 a1)), (2, .d (D.int .i64 a2)), (10, .d (D.int .i64 w4)), (12, .arr 36), (38, .d (D.int .i64 w15)), (39, .d (D.int .i64 h21)), (40, .d (D.bool z32))], [(36, .arr 4 1 h22)]⟩) := by kernel_rfl
theorem platform_Explain_r8_eq {R : Type} (n : Nat) (a0 : Int) (a1 : List (List D)) (a2 : Int) (w4 : Int) (w15 : Int) (k : Exit → St → Option R) : ∀ (m : Nat) (h21 : Int) (h22 : List (List D)), loopN (vexec (platform_Explain_C n) n platform_Explain_c7) m ⟨97, [(0, .d (D.int .i64 a0)), (1, .d (D.sl 3 a1)), (2, .d (D.int .i64 a2)), (10, .d (D.int .i64 w4)), (12, .arr 36), (38, .d (D.int .i64 w15)), (39, .d (D.int .i64 h21))], [(36, .arr 4 1 h22)]⟩ k = platform_Explain_r8 n a0 a1 a2 w4 w15 (fun h21 w35 h22 => k (.exit 0) ⟨97, [(0, .d (D.int .i64 a0)), (1, .d (D.sl 3 a1)), (2, .d (D.int .i64 a2)), (10, .d (D.int .i64 w4)), (12, .arr 36), (38, .d (D.int .i64 w15)), (39, .d (D.int .i64 h21)), (40, .d (D.bool w35))], [(36, .arr 4 1 h22)]⟩) m h21 h22
  | 0, _, _ => rfl
  | m + 1, h21, h22 => (platform_Explain_p7_eq n a0 a1 a2 w4 w15 h21 h22 (loopK (vexec (platform_Explain_C n) n platform_Explain_c7) m k)).trans (platform_Explain_p7_congr n a0 a1 a2 w4 w15 h21 h22 (fun w33 w34 => platform_Explain_r8_eq n a0 a1 a2 w4 w15 k m w33 w34) (fun w35 => rfl))
theorem platform_Explain_p8_eq {R : Type} (n : Nat) (a0 : Int) (a1 : List (List D)) (a2 : Int) (w4 : Int) (w15 : Int) (w13 : List (List D)) (k : Exit → St → Option R) : vexec (platform_Explain_C n) n platform_Explain_c8 ⟨97, [(0, .d (D.int .i64 a0)), (1, .d (D.sl 3 a1)), (2, .d (D.int .i64 a2)), (10, .d (D.int .i64 w4)), (12, .arr 36), (38, .d (D.int .i64 w15)), (39, .d (D.int .i64 (0 : Int)))], [(36, .arr 4 1 w13)]⟩ k = platform_Explain_p8 n a0 a1 a2 w4 w15 w13 (fun h21 w35 h22 => k (.exit 0) ⟨97, [(0, .d (D.int .i64 a0)), (1, .d (D.sl 3 a1)), (2, .d (D.int .i64 a2)), (10, .d (D.int .i64 w4)), (12, .arr 36), (38, .d (D.int .i64 w15)), (39, .d (D.int .i64 h21)), (40, .d (D.bool w35))], [(36, .arr 4 1 h22)]⟩) := by
  rw [platform_Explain_c8_eq]
  exact platform_Explain_r8_eq n a0 a1 a2 w4 w15 k n (0 : Int) w13
theorem platform_Explain_p9_eq {R : Type} (n : Nat) (a0 : Int) (a1 : List (List D)) (a2 : Int) (w4 : Int) (w15 : Int) (w13 : List (List D)) (k : Exit → St → Option R) : vexec (platform_Explain_C n) n platform_Explain_c9 ⟨97, [(0, .d (D.int .i64 a0)), (1, .d (D.sl 3 a1)), (2, .d (D.int .i64 a2)), (10, .d (D.int .i64 w4)), (12, .arr 36), (38, .d (D.int .i64 w15)), (39, .d (D.int .i64 (0 : Int)))], [(36, .arr 4 1 w13)]⟩ k = platform_Explain_p9 n a0 a1 a2 w4 w15 w13 (fun w36 w37 w38 => k .normal ⟨97, [(0, .d (D.int .i64 a0)), (1, .d (D.sl 3 a1)), (2, .d (D.int .i64 a2)), (10, .d (D.int .i64 w4)), (12, .arr 36), (38, .d (D.int .i64 w15)), (39, .d (D.int .i64 w36)), (40, .d (D.bool w37))], [(36, .arr 4 1 w38)]⟩) := by
  rw [platform_Explain_c9_eq]
  unfold platform_Explain_p9
  exact (platform_Explain_p8_eq n a0 a1 a2 w4 w15 w13 (blockK 0 k)).trans (platform_Explain_p8_congr n a0 a1 a2 w4 w15 w13 (fun w36 w37 w38 => rfl))
theorem platform_Explain_p10_eq {R : Type} (n : Nat) (a0 : Int) (a1 : List (List D)) (a2 : Int) (w4 : Int) (w13 : List (List D)) (k : Exit → St → Option R) : vexec (platform_Explain_C n) n platform_Explain_c10 ⟨97, [(0, .d (D.int .i64 a0)), (1, .d (D.sl 3 a1)), (2, .d (D.int .i64 a2)), (10, .d (D.int .i64 w4)), (12, .arr 36)], [(36, .arr 4 1 w13)]⟩ k = platform_Explain_p10 n a0 a1 a2 w4 w13 (fun w15 w39 w40 w41 => k .normal ⟨97, [(0, .d (D.int .i64 a0)), (1, .d (D.sl 3 a1)), (2, .d (D.int .i64 a2)), (10, .d (D.int .i64 w4)), (12, .arr 36), (38, .d (D.int .i64 w15)), (39, .d (D.int .i64 w39)), (40, .d (D.bool w40))], [(36, .arr 4 1 w41)]⟩) := by
  rw [platform_Explain_c10_eq]
  unfold platform_Explain_p10
  exact (platform_Explain_p6_eq n a0 a1 a2 w4 w13 (seqK (platform_Explain_C n) n platform_Explain_c9 k)).trans (platform_Explain_p6_congr n a0 a1 a2 w4 w13 (fun w15 => platform_Explain_p9_eq n a0 a1 a2 w4 w15 w13 k))
theorem platform_Explain_p11_eq {R : Type} (n : Nat) (a0 : Int) (a1 : List (List D)) (a2 : Int) (w4 : Int) (w42 : Int) (w43 : Int) (w44 : Bool) (w45 : List (List D)) (k : Exit → St → Option R) : vexec (platform_Explain_C n) n platform_Explain_c11 ⟨97, [(0, .d (D.int .i64 a0)), (1, .d (D.sl 3 a1)), (2, .d (D.int .i64 a2)), (10, .d (D.int .i64 w4)), (12, .arr 36), (38, .d (D.int .i64 w42)), (39, .d (D.int .i64 w43)), (40, .d (D.bool w44))], [(36, .arr 4 1 w45)]⟩ k = platform_Explain_p11 n a0 a1 a2 w4 w42 w43 w44 w45 (fun z46 => k .normal ⟨97, [(0, .d (D.int .i64 a0)), (1, .d (D.sl 3 a1)), (2, .d (D.int .i64 a2)), (10, .d (D.int .i64 w4)), (12, .arr 36), (47, .d (D.int .i64 z46)), (48, .d (D.int .i64 (0 : Int)))], [(36, .arr 4 1 w45)]⟩) := by kernel_rfl
theorem platform_Explain_p12_eq {R : Type} (n : Nat) (a0 : Int) (a1 : List (List D)) (a2 : Int) (h51 : Int) (w47 : Int) (h53 : Int) (h54 : List (List D)) (k : Exit → St → Option R) : vexec (platform_Explain_C n) n platform_Explain_c12 ⟨97, [(0, .d (D.int .i64 a0)), (1, .d (D.sl 3 a1)), (2, .d (D.int .i64 a2)), (10, .d (D.int .i64 h51)), (12, .arr 36), (47, .d (D.int .i64 w47)), (48, .d (D.int .i64 h53))], [(36, .arr 4 1 h54)]⟩ k = platform_Explain_p12 n a0 a1 a2 h51 w47 h53 h54 (fun z156 => k .normal ⟨97, [(0, .d (D.int .i64 a0)), (1, .d (D.sl 3 a1)), (2, .d (D.int .i64 a2)), (10, .d (D.int .i64 h51)), (12, .arr 36), (47, .d (D.int .i64 w47)), (48, .d (D.int .i64 h53)), (49, .d (D.bool z156))], [(36, .arr 4 1 h54)]⟩) := by kernel_rfl
theorem platform_Explain_p13_eq {R : Type} (n : Nat) (a0 : Int) (a1 : List (List D)) (a2 : Int) (h51 : Int) (w47 : Int) (h53 : Int) (w157 : Bool) (h54 : List (List D)) (k : Exit → St → Option R) : vexec (platform_Explain_C n) n platform_Explain_c13 ⟨97, [(0, .d (D.int .i64 a0)), (1, .d (D.sl 3 a1)), (2, .d (D.int .i64 a2)), (10, .d (D.int .i64 h51)), (12, .arr 36), (47, .d (D.int .i64 w47)), (48, .d (D.int .i64 h53)), (49, .d (D.bool w157))], [(36, .arr 4 1 h54)]⟩ k = platform_Explain_p13 n a0 a1 a2 h51 w47 h53 w157 h54 (k .normal ⟨97, [(0, .d (D.int .i64 a0)), (1, .d (D.sl 3 a1)), (2, .d (D.int .i64 a2)), (10, .d (D.int .i64 h51)), (12, .arr 36), (47, .d (D.int .i64 w47)), (48, .d (D.int .i64 h53)), (49, .d (D.bool w157))], [(36, .arr 4 1 h54)]⟩) (k (.exit 2) ⟨97, [(0, .d (D.int .i64 a0)), (1, .d (D.sl 3 a1)), (2, .d (D.int .i64 a2)), (10, .d (D.int .i64 h51)), (12, .arr 36), (47, .d (D.int .i64 w47)), (48, .d (D.int .i64 h53)), (49, .d (D.bool w157))], [(36, .arr 4 1 h54)]⟩) := by kernel_rfl
theorem platform_Explain_p14_eq {R : Type} (n : Nat) (a0 : Int) (a1 : List (List D)) (a2 : Int) (h51 : Int) (w47 : Int) (h53 : Int) (w157 : Bool) (h54 : List (List D)) (k : Exit → St → Option R) : vexec (platform_Explain_C n) n platform_Explain_c14 ⟨97, [(0, .d (D.int .i64 a0)), (1, .d (D.sl 3 a1)), (2, .d (D.int .i64 a2)), (10, .d (D.int .i64 h51)), (12, .arr 36), (47, .d (D.int .i64 w47)), (48, .d (D.int .i64 h53)), (49, .d (D.bool w157))], [(36, .arr 4 1 h54)]⟩ k = platform_Explain_p14 n a0 a1 a2 h51 w47 h53 w157 h54 (k .normal ⟨97, [(0, .d (D.int .i64 a0)), (1, .d (D.sl 3 a1)), (2, .d (D.int .i64 a2)), (10, .d (D.int .i64 h51)), (12, .arr 36), (14, .d (D.int .i64 h53)), (47, .d (D.int .i64 w47)), (48, .d (D.int .i64 h53))], [(36, .arr 4 1 h54)]⟩) := by kernel_rfl
theorem platform_Explain_p15_eq {R : Type} (n : Nat) (a0 : Int) (a1 : List (List D)) (a2 : Int) (h51 : Int) (h53 : Int) (w47 : Int) (h54 : List (List D)) (k : Exit → St → Option R) : vexec (platform_Explain_C n) n platform_Explain_c15 ⟨97, [(0, .d (D.int .i64 a0)), (1, .d (D.sl 3 a1)), (2, .d (D.int .i64 a2)), (10, .d (D.int .i64 h51)), (12, .arr 36), (14, .d (D.int .i64 h53)), (47, .d (D.int .i64 w47)), (48, .d (D.int .i64 h53))], [(36, .arr 4 1 h54)]⟩ k = platform_Explain_p15 n a0 a1 a2 h51 h53 w47 h54 (k .ret ⟨97, [(6, .nil), (7, .d (D.int .i64 (0 : Int))), (8, .d (D.int .i64 (15 : Int)))], []⟩) (fun z158 => k .normal ⟨97, [(0, .d (D.int .i64 a0)), (1, .d (D.sl 3 a1)), (2, .d (D.int .i64 a2)), (10, .d (D.int .i64 h51)), (12, .arr 36), (14, .d (D.int .i64 h53)), (47, .d (D.int .i64 w47)), (48, .d (D.int .i64 h53)), (53, .d (D.bool z158))], [(36, .arr 4 1 h54)]⟩) := by kernel_rfl
theorem platform_Explain_p16_eq {R : Type} (n : Nat) (a0 : Int) (a1 : List (List D)) (a2 : Int) (h51 : Int) (h53 : Int) (w47 : Int) (w159 : Bool) (h54 : List (List D)) (k : Exit → St → Option R) : vexec (platform_Explain_C n) n platform_Explain_c16 ⟨97, [(0, .d (D.int .i64 a0)), (1, .d (D.sl 3 a1)), (2, .d (D.int .i64 a2)), (10, .d (D.int .i64 h51)), (12, .arr 36), (14, .d (D.int .i64 h53)), (47, .d (D.int .i64 w47)), (48, .d (D.int .i64 h53)), (53, .d (D.bool w159))], [(36, .arr 4 1 h54)]⟩ k = platform_Explain_p16 n a0 a1 a2 h51 h53 w47 w159 h54 (fun z162 => k .normal ⟨97, [(0, .d (D.int .i64 a0)), (1, .d (D.sl 3 a1)), (2, .d (D.int .i64 a2)), (10, .d (D.int .i64 h51)), (12, .arr 36), (14, .d (D.int .i64 h53)), (47, .d (D.int .i64 w47)), (48, .d (D.int .i64 h53))], [(36, .arr 4 1 z162)]⟩) := by kernel_rfl
theorem platform_Explain_p17_eq {R : Type} (n : Nat) (a0 : Int) (a1 : List (List D)) (a2 : Int) (h51 : Int) (h53 : Int) (w47 : Int) (w163 : List (List D)) (k : Exit → St → Option R) : vexec (platform_Explain_C n) n platform_Explain_c17 ⟨97, [(0, .d (D.int .i64 a0)), (1, .d (D.sl 3 a1)), (2, .d (D.int .i64 a2)), (10, .d (D.int .i64 h51)), (12, .arr 36), (14, .d (D.int .i64 h53)), (47, .d (D.int .i64 w47)), (48, .d (D.int .i64 h53))], [(36, .arr 4 1 w163)]⟩ k = platform_Explain_p17 n a0 a1 a2 h51 h53 w47 w163 (k .normal ⟨97, [(0, .d (D.int .i64 a0)), (1, .d (D.sl 3 a1)), (2, .d (D.int .i64 a2)), (10, .d (D.int .i64 h51)), (12, .arr 36), (14, .d (D.int .i64 h53)), (15, .nil), (47, .d (D.int .i64 w47)), (48, .d (D.int .i64 h53))], [(36, .arr 4 1 w163)]⟩) := by kernel_rfl
theorem platform_Explain_p18_eq {R : Type} (n : Nat) (a0 : Int) (a1 : List (List D)) (a2 : Int) (h51 : Int) (h53 : Int) (w47 : Int) (w163 : List (List D)) (k : Exit → St → Option R) : vexec (platform_Explain_C n) n platform_Explain_c18 ⟨97, [(0, .d (D.int .i64 a0)), (1, .d (D.sl 3 a1)), (2, .d (D.int .i64 a2)), (10, .d (D.int .i64 h51)), (12, .arr 36), (14, .d (D.int .i64 h53)), (15, .nil), (47, .d (D.int .i64 w47)), (48, .d (D.int .i64 h53))], [(36, .arr 4 1 w163)]⟩ k = platform_Explain_p18 n a0 a1 a2 h51 h53 w47 w163 (fun z166 r164 => k .normal ⟨97, [(0, .d (D.int .i64 a0)), (1, .d (D.sl 3 a1)), (2, .d (D.int .i64 a2)), (10, .d (D.int .i64 h51)), (12, .arr 36), (14, .d (D.int .i64 h53)), (15, .arr 1015), (47, .d (D.int .i64 w47)), (48, .d (D.int .i64 h53)), (58, .arr 100058), (59, .d (D.int .i64 z166)), (60, .d (D.int .i64 (0 : Int)))], [(1015, .arr 28 3 []), (36, .arr 4 1 w163), (100058, .arr 3 1 r164)]⟩) := by kernel_rfl
theorem platform_Explain_p19_eq {R : Type} (n : Nat) (a0 : Int) (a1 : List (List D)) (a2 : Int) (h51 : Int) (h53 : Int) (w47 : Int) (w167 : Int) (h177 : Int) (h178 : List (List D)) (w163 : List (List D)) (w168 : List (List D)) (k : Exit → St → Option R) : vexec (platform_Explain_C n) n platform_Explain_c19 ⟨97, [(0, .d (D.int .i64 a0)), (1, .d (D.sl 3 a1)), (2, .d (D.int .i64 a2)), (10, .d (D.int .i64 h51)), (12, .arr 36), (14, .d (D.int .i64 h53)), (15, .arr 1015), (47, .d (D.int .i64 w47)), (48, .d (D.int .i64 h53)), (58, .arr 100058), (59, .d (D.int .i64 w167)), (60, .d (D.int .i64 h177))], [(1015, .arr 28 3 h178), (36, .arr 4 1 w163), (100058, .arr 3 1 w168)]⟩ k = platform_Explain_p19 n a0 a1 a2 h51 h53 w47 w167 h177 h178 w163 w168 (fun z202 z203 => k .normal ⟨97, [(0, .d (D.int .i64 a0)), (1, .d (D.sl 3 a1)), (2, .d (D.int .i64 a2)), (10, .d (D.int .i64 h51)), (12, .arr 36), (14, .d (D.int .i64 h53)), (15, .arr 1015), (47, .d (D.int .i64 w47)), (48, .d (D.int .i64 h53)), (58, .arr 100058), (59, .d (D.int .i64 w167)), (60, .d (D.int .i64 z202))], [(1015, .arr 28 3 z203), (36, .arr 4 1 w163), (100058, .arr 3 1 w168)]⟩) (fun z204 => k (.exit 4) ⟨97, [(0, .d (D.int .i64 a0)), (1, .d (D.sl 3 a1)), (2, .d (D.int .i64 a2)), (10, .d (D.int .i64 h51)), (12, .arr 36), (14, .d (D.int .i64 h53)), (15, .arr 1015), (47, .d (D.int .i64 w47)), (48, .d (D.int .i64 h53)), (58, .arr 100058), (59, .d (D.int .i64 w167)), (60, .d (D.int .i64 h177)), (61, .d (D.bool z204))], [(36, .arr 4 1 w163), (1015, .arr 28 3 h178), (100058, .arr 3 1 w168)]⟩) := by kernel_rfl
theorem platform_Explain_r20_eq {R : Type} (n : Nat) (a0 : Int) (a1 : List (List D)) (a2 : Int) (h51 : Int) (h53 : Int) (w47 : Int) (w167 : Int) (w163 : List (List D)) (w168 : List (List D)) (k : Exit → St → Option R) : ∀ (m : Nat) (h177 : Int) (h178 : List (List D)), loopN (vexec (platform_Explain_C n) n platform_Explain_c19) m ⟨97, [(0, .d (D.int .i64 a0)), (1, .d (D.sl 3 a1)), (2, .d (D.int .i64 a2)), (10, .d (D.int .i64 h51)), (12, .arr 36), (14, .d (D.int .i64 h53)), (15, .arr 1015), (47, .d (D.int .i64 w47)), (48, .d (D.int .i64 h53)), (58, .arr 100058), (59, .d (D.int .i64 w167)), (60, .d (D.int .i64 h177))], [(1015, .arr 28 3 h178), (36, .arr 4 1 w163), (100058, .arr 3 1 w168)]⟩ k = platform_Explain_r20 n a0 a1 a2 h51 h53 w47 w167 w163 w168 (fun h177 w207 h178 => k (.exit 4) ⟨97, [(0, .d (D.int .i64 a0)), (1, .d (D.sl 3 a1)), (2, .d (D.int .i64 a2)), (10, .d (D.int .i64 h51)), (12, .arr 36), (14, .d (D.int .i64 h53)), (15, .arr 1015), (47, .d (D.int .i64 w47)), (48, .d (D.int .i64 h53)), (58, .arr 100058), (59, .d (D.int .i64 w167)), (60, .d (D.int .i64 h177)), (61, .d (D.bool w207))], [(36, .arr 4 1 w163), (1015, .arr 28 3 h178), (100058, .arr 3 1 w168)]⟩) m h177 h178
  | 0, _, _ => rfl
  | m + 1, h177, h178 => (platform_Explain_p19_eq n a0 a1 a2 h51 h53 w47 w167 h177 h178 w163 w168 (loopK (vexec (platform_Explain_C n) n platform_Explain_c19) m k)).trans (platform_Explain_p19_congr n a0 a1 a2 h51 h53 w47 w167 h177 h178 w163 w168 (fun w205 w206 => platform_Explain_r20_eq n a0 a1 a2 h51 h53 w47 w167 w163 w168 k m w205 w206) (fun w207 => rfl))
theorem platform_Explain_p20_eq {R : Type} (n : Nat) (a0 : Int) (a1 : List (List D)) (a2 : Int) (h51 : Int) (h53 : Int) (w47 : Int) (w167 : Int) (w163 : List (List D)) (w168 : List (List D)) (k : Exit → St → Option R) : vexec (platform_Explain_C n) n platform_Explain_c20 ⟨97, [(0, .d (D.int .i64 a0)), (1, .d (D.sl 3 a1)), (2, .d (D.int .i64 a2)), (10, .d (D.int .i64 h51)), (12, .arr 36), (14, .d (D.int .i64 h53)), (15, .arr 1015), (47, .d (D.int .i64 w47)), (48, .d (D.int .i64 h53)), (58, .arr 100058), (59, .d (D.int .i64 w167)), (60, .d (D.int .i64 (0 : Int)))], [(1015, .arr 28 3 []), (36, .arr 4 1 w163), (100058, .arr 3 1 w168)]⟩ k = platform_Explain_p20 n a0 a1 a2 h51 h53 w47 w167 w163 w168 (fun h177 w207 h178 => k (.exit 4) ⟨97, [(0, .d (D.int .i64 a0)), (1, .d (D.sl 3 a1)), (2, .d (D.int .i64 a2)), (10, .d (D.int .i64 h51)), (12, .arr 36), (14, .d (D.int .i64 h53)), (15, .arr 1015), (47, .d (D.int .i64 w47)), (48, .d (D.int .i64 h53)), (58, .arr 100058), (59, .d (D.int .i64 w167)), (60, .d (D.int .i64 h177)), (61, .d (D.bool w207))], [(36, .arr 4 1 w163), (1015, .arr 28 3 h178), (100058, .arr 3 1 w168)]⟩) := by
  rw [platform_Explain_c20_eq]
  exact platform_Explain_r20_eq n a0 a1 a2 h51 h53 w47 w167 w163 w168 k n (0 : Int) []
theorem platform_Explain_p21_eq {R : Type} (n : Nat) (a0 : Int) (a1 : List (List D)) (a2 : Int) (h51 : Int) (h53 : Int) (w47 : Int) (w167 : Int) (w163 : List (List D)) (w168 : List (List D)) (k : Exit → St → Option R) : vexec (platform_Explain_C n) n platform_Explain_c21 ⟨97, [(0, .d (D.int .i64 a0)), (1, .d (D.sl 3 a1)), (2, .d (D.int .i64 a2)), (10, .d (D.int .i64 h51)), (12, .arr 36), (14, .d (D.int .i64 h53)), (15, .arr 1015), (47, .d (D.int .i64 w47)), (48, .d (D.int .i64 h53)), (58, .arr 100058), (59, .d (D.int .i64 w167)), (60, .d (D.int .i64 (0 : Int)))], [(1015, .arr 28 3 []), (36, .arr 4 1 w163), (100058, .arr 3 1 w168)]⟩ k = platform_Explain_p21 n a0 a1 a2 h51 h53 w47 w167 w163 w168 (fun w208 w209 w210 => k .normal ⟨97, [(0, .d (D.int .i64 a0)), (1, .d (D.sl 3 a1)), (2, .d (D.int .i64 a2)), (10, .d (D.int .i64 h51)), (12, .arr 36), (14, .d (D.int .i64 h53)), (15, .arr 1015), (47, .d (D.int .i64 w47)), (48, .d (D.int .i64 h53)), (58, .arr 100058), (59, .d (D.int .i64 w167)), (60, .d (D.int .i64 w208)), (61, .d (D.bool w209))], [(36, .arr 4 1 w163), (1015, .arr 28 3 w210), (100058, .arr 3 1 w168)]⟩) := by
  rw [platform_Explain_c21_eq]
  unfold platform_Explain_p21
  exact (platform_Explain_p20_eq n a0 a1 a2 h51 h53 w47 w167 w163 w168 (blockK 4 k)).trans (platform_Explain_p20_congr n a0 a1 a2 h51 h53 w47 w167 w163 w168 (fun w208 w209 w210 => rfl))
theorem platform_Explain_p22_eq {R : Type} (n : Nat) (a0 : Int) (a1 : List (List D)) (a2 : Int) (h51 : Int) (h53 : Int) (w47 : Int) (w163 : List (List D)) (k : Exit → St → Option R) : vexec (platform_Explain_C n) n platform_Explain_c22 ⟨97, [(0, .d (D.int .i64 a0)), (1, .d (D.sl 3 a1)), (2, .d (D.int .i64 a2)), (10, .d (D.int .i64 h51)), (12, .arr 36), (14, .d (D.int .i64 h53)), (15, .nil), (47, .d (D.int .i64 w47)), (48, .d (D.int .i64 h53))], [(36, .arr 4 1 w163)]⟩ k = platform_Explain_p22 n a0 a1 a2 h51 h53 w47 w163 (fun w167 w211 w212 w213 w168 => k .normal ⟨97, [(0, .d (D.int .i64 a0)), (1, .d (D.sl 3 a1)), (2, .d (D.int .i64 a2)), (10, .d (D.int .i64 h51)), (12, .arr 36), (14, .d (D.int .i64 h53)), (15, .arr 1015), (47, .d (D.int .i64 w47)), (48, .d (D.int .i64 h53)), (58, .arr 100058), (59, .d (D.int .i64 w167)), (60, .d (D.int .i64 w211)), (61, .d (D.bool w212))], [(36, .arr 4 1 w163), (1015, .arr 28 3 w213), (100058, .arr 3 1 w168)]⟩) := by
  rw [platform_Explain_c22_eq]
  unfold platform_Explain_p22
  exact (platform_Explain_p18_eq n a0 a1 a2 h51 h53 w47 w163 (seqK (platform_Explain_C n) n platform_Explain_c21 k)).trans (platform_Explain_p18_congr n a0 a1 a2 h51 h53 w47 w163 (fun w167 w168 => platform_Explain_p21_eq n a0 a1 a2 h51 h53 w47 w167 w163 w168 k))
theorem platform_Explain_p23_eq {R : Type} (n : Nat) (a0 : Int) (a1 : List (List D)) (a2 : Int) (h51 : Int) (h53 : Int) (w47 : Int) (w214 : Int) (w215 : Int) (w216 : Bool) (w163 : List (List D)) (w217 : List (List D)) (w218 : List (List D)) (k : Exit → St → Option R) : vexec (platform_Explain_C n) n platform_Explain_c23 ⟨97, [(0, .d (D.int .i64 a0)), (1, .d (D.sl 3 a1)), (2, .d (D.int .i64 a2)), (10, .d (D.int .i64 h51)), (12, .arr 36), (14, .d (D.int .i64 h53)), (15, .arr 1015), (47, .d (D.int .i64 w47)), (48, .d (D.int .i64 h53)), (58, .arr 100058), (59, .d (D.int .i64 w214)), (60, .d (D.int .i64 w215)), (61, .d (D.bool w216))], [(36, .arr 4 1 w163), (1015, .arr 28 3 w217), (100058, .arr 3 1 w218)]⟩ k = platform_Explain_p23 n a0 a1 a2 h51 h53 w47 w214 w215 w216 w163 w217 w218 (fun z222 => k .ret ⟨97, [(6, .nil), (7, .d (D.int .i64 (0 : Int))), (8, .d (D.int .i64 z222))], []⟩) (fun z223 z224 => k .normal ⟨97, [(0, .d (D.int .i64 a0)), (1, .d (D.sl 3 a1)), (2, .d (D.int .i64 a2)), (10, .d (D.int .i64 z223)), (12, .arr 36), (47, .d (D.int .i64 w47)), (48, .d (D.int .i64 h53))], [(36, .arr 4 1 z224)]⟩) := by kernel_rfl
theorem platform_Explain_p24_eq {R : Type} (n : Nat) (a0 : Int) (a1 : List (List D)) (a2 : Int) (h51 : Int) (h53 : Int) (w47 : Int) (w163 : List (List D)) (k : Exit → St → Option R) : vexec (platform_Explain_C n) n platform_Explain_c24 ⟨97, [(0, .d (D.int .i64 a0)), (1, .d (D.sl 3 a1)), (2, .d (D.int .i64 a2)), (10, .d (D.int .i64 h51)), (12, .arr 36), (14, .d (D.int .i64 h53)), (15, .nil), (47, .d (D.int .i64 w47)), (48, .d (D.int .i64 h53))], [(36, .arr 4 1 w163)]⟩ k = platform_Explain_p24 n a0 a1 a2 h51 h53 w47 w163 (fun w225 => k .ret ⟨97, [(6, .nil), (7, .d (D.int .i64 (0 : Int))), (8, .d (D.int .i64 w225))], []⟩) (fun w226 w227 => k .normal ⟨97, [(0, .d (D.int .i64 a0)), (1, .d (D.sl 3 a1)), (2, .d (D.int .i64 a2)), (10, .d (D.int .i64 w226)), (12, .arr 36), (47, .d (D.int .i64 w47)), (48, .d (D.int .i64 h53))], [(36, .arr 4 1 w227)]⟩) := by
  rw [platform_Explain_c24_eq]
  unfold platform_Explain_p24
  exact (platform_Explain_p22_eq n a0 a1 a2 h51 h53 w47 w163 (seqK (platform_Explain_C n) n platform_Explain_c23 k)).trans (platform_Explain_p22_congr n a0 a1 a2 h51 h53 w47 w163 (fun w214 w215 w216 w217 w218 => platform_Explain_p23_eq n a0 a1 a2 h51 h53 w47 w214 w215 w216 w163 w217 w218 k))
theorem platform_Explain_p25_eq {R : Type} (n : Nat) (a0 : Int) (a1 : List (List D)) (a2 : Int) (h51 : Int) (h53 : Int) (w47 : Int) (w163 : List (List D)) (k : Exit → St → Option R) : vexec (platform_Explain_C n) n platform_Explain_c25 ⟨97, [(0, .d (D.int .i64 a0)), (1, .d (D.sl 3 a1)), (2, .d (D.int .i64 a2)), (10, .d (D.int .i64 h51)), (12, .arr 36), (14, .d (D.int .i64 h53)), (47, .d (D.int .i64 w47)), (48, .d (D.int .i64 h53))], [(36, .arr 4 1 w163)]⟩ k = platform_Explain_p25 n a0 a1 a2 h51 h53 w47 w163 (fun w228 => k .ret ⟨97, [(6, .nil), (7, .d (D.int .i64 (0 : Int))), (8, .d (D.int .i64 w228))], []⟩) (fun w229 w230 => k .normal ⟨97, [(0, .d (D.int .i64 a0)), (1, .d (D.sl 3 a1)), (2, .d (D.int .i64 a2)), (10, .d (D.int .i64 w229)), (12, .arr 36), (47, .d (D.int .i64 w47)), (48, .d (D.int .i64 h53))], [(36, .arr 4 1 w230)]⟩) := by
  rw [platform_Explain_c25_eq]
  unfold platform_Explain_p25
  exact (platform_Explain_p17_eq n a0 a1 a2 h51 h53 w47 w163 (seqK (platform_Explain_C n) n platform_Explain_c24 k)).trans (platform_Explain_p17_congr n a0 a1 a2 h51 h53 w47 w163 (platform_Explain_p24_eq n a0 a1 a2 h51 h53 w47 w163 k))
theorem platform_Explain_p26_eq {R : Type} (n : Nat) (a0 : Int) (a1 : List (List D)) (a2 : Int) (h51 : Int) (h53 : Int) (w47 : Int) (w159 : Bool) (h54 : List (List D)) (k : Exit → St → Option R) : vexec (platform_Explain_C n) n platform_Explain_c26 ⟨97, [(0, .d (D.int .i64 a0)), (1, .d (D.sl 3 a1)), (2, .d (D.int .i64 a2)), (10, .d (D.int .i64 h51)), (12, .arr 36), (14, .d (D.int .i64 h53)), (47, .d (D.int .i64 w47)), (48, .d (D.int .i64 h53)), (53, .d (D.bool w159))], [(36, .arr 4 1 h54)]⟩ k = platform_Explain_p26 n a0 a1 a2 h51 h53 w47 w159 h54 (fun w231 => k .ret ⟨97, [(6, .nil), (7, .d (D.int .i64 (0 : Int))), (8, .d (D.int .i64 w231))], []⟩) (fun w232 w233 => k .normal ⟨97, [(0, .d (D.int .i64 a0)), (1, .d (D.sl 3 a1)), (2, .d (D.int .i64 a2)), (10, .d (D.int .i64 w232)), (12, .arr 36), (47, .d (D.int .i64 w47)), (48, .d (D.int .i64 h53))], [(36, .arr 4 1 w233)]⟩) := by
  rw [platform_Explain_c26_eq]
  unfold platform_Explain_p26
  exact (platform_Explain_p16_eq n a0 a1 a2 h51 h53 w47 w159 h54 (seqK (platform_Explain_C n) n platform_Explain_c25 k)).trans (platform_Explain_p16_congr n a0 a1 a2 h51 h53 w47 w159 h54 (fun w163 => platform_Explain_p25_eq n a0 a1 a2 h51 h53 w47 w163 k))
theorem platform_Explain_p27_eq {R : Type} (n : Nat) (a0 : Int) (a1 : List (List D)) (a2 : Int) (h51 : Int) (h53 : Int) (w47 : Int) (h54 : List (List D)) (k : Exit → St → Option R) : vexec (platform_Explain_C n) n platform_Explain_c27 ⟨97, [(0, .d (D.int .i64 a0)), (1, .d (D.sl 3 a1)), (2, .d (D.int .i64 a2)), (10, .d (D.int .i64 h51)), (12, .arr 36), (14, .d (D.int .i64 h53)), (47, .d (D.int .i64 w47)), (48, .d (D.int .i64 h53))], [(36, .arr 4 1 h54)]⟩ k = platform_Explain_p27 n a0 a1 a2 h51 h53 w47 h54 (fun z237 => k .ret ⟨97, [(6, .nil), (7, .d (D.int .i64 (0 : Int))), (8, .d (D.int .i64 z237))], []⟩) (fun w235 w236 => k .normal ⟨97, [(0, .d (D.int .i64 a0)), (1, .d (D.sl 3 a1)), (2, .d (D.int .i64 a2)), (10, .d (D.int .i64 w235)), (12, .arr 36), (47, .d (D.int .i64 w47)), (48, .d (D.int .i64 h53))], [(36, .arr 4 1 w236)]⟩) := by
  rw [platform_Explain_c27_eq]
  unfold platform_Explain_p27
  exact (platform_Explain_p15_eq n a0 a1 a2 h51 h53 w47 h54 (seqK (platform_Explain_C n) n platform_Explain_c26 k)).trans (platform_Explain_p15_congr n a0 a1 a2 h51 h53 w47 h54 (rfl) (fun w159 => platform_Explain_p26_eq n a0 a1 a2 h51 h53 w47 w159 h54 k))
theorem platform_Explain_p28_eq {R : Type} (n : Nat) (a0 : Int) (a1 : List (List D)) (a2 : Int) (h51 : Int) (w47 : Int) (h53 : Int) (w157 : Bool) (h54 : List (List D)) (k : Exit → St → Option R) : vexec (platform_Explain_C n) n platform_Explain_c28 ⟨97, [(0, .d (D.int .i64 a0)), (1, .d (D.sl 3 a1)), (2, .d (D.int .i64 a2)), (10, .d (D.int .i64 h51)), (12, .arr 36), (47, .d (D.int .i64 w47)), (48, .d (D.int .i64 h53)), (49, .d (D.bool w157))], [(36, .arr 4 1 h54)]⟩ k = platform_Explain_p28 n a0 a1 a2 h51 w47 h53 w157 h54 (fun w238 => k .ret ⟨97, [(6, .nil), (7, .d (D.int .i64 (0 : Int))), (8, .d (D.int .i64 w238))], []⟩) (fun w239 w240 => k .normal ⟨97, [(0, .d (D.int .i64 a0)), (1, .d (D.sl 3 a1)), (2, .d (D.int .i64 a2)), (10, .d (D.int .i64 w239)), (12, .arr 36), (47, .d (D.int .i64 w47)), (48, .d (D.int .i64 h53))], [(36, .arr 4 1 w240)]⟩) := by
  rw [platform_Explain_c28_eq]
  unfold platform_Explain_p28
  exact (platform_Explain_p14_eq n a0 a1 a2 h51 w47 h53 w157 h54 (seqK (platform_Explain_C n) n platform_Explain_c27 k)).trans (platform_Explain_p14_congr n a0 a1 a2 h51 w47 h53 w157 h54 (platform_Explain_p27_eq n a0 a1 a2 h51 h53 w47 h54 k))
theorem platform_Explain_p29_eq {R : Type} (n : Nat) (a0 : Int) (a1 : List (List D)) (a2 : Int) (h51 : Int) (w47 : Int) (h53 : Int) (w157 : Bool) (h54 : List (List D)) (k : Exit → St → Option R) : vexec (platform_Explain_C n) n platform_Explain_c29 ⟨97, [(0, .d (D.int .i64 a0)), (1, .d (D.sl 3 a1)), (2, .d (D.int .i64 a2)), (10, .d (D.int .i64 h51)), (12, .arr 36), (47, .d (D.int .i64 w47)), (48, .d (D.int .i64 h53)), (49, .d (D.bool w157))], [(36, .arr 4 1 h54)]⟩ k = platform_Explain_p29 n a0 a1 a2 h51 w47 h53 w157 h54 (fun w241 => k .ret ⟨97, [(6, .nil), (7, .d (D.int .i64 (0 : Int))), (8, .d (D.int .i64 w241))], []⟩) (fun w242 w243 => k .normal ⟨97, [(0, .d (D.int .i64 a0)), (1, .d (D.sl 3 a1)), (2, .d (D.int .i64 a2)), (10, .d (D.int .i64 w242)), (12, .arr 36), (47, .d (D.int .i64 w47)), (48, .d (D.int .i64 h53))], [(36, .arr 4 1 w243)]⟩) := by
  rw [platform_Explain_c29_eq]
  unfold platform_Explain_p29
  exact (platform_Explain_p28_eq n a0 a1 a2 h51 w47 h53 w157 h54 (blockK 3 k)).trans (platform_Explain_p28_congr n a0 a1 a2 h51 w47 h53 w157 h54 (fun w241 => rfl) (fun w242 w243 => rfl))
theorem platform_Explain_p30_eq {R : Type} (n : Nat) (a0 : Int) (a1 : List (List D)) (a2 : Int) (w245 : Int) (w47 : Int) (h53 : Int) (w246 : List (List D)) (k : Exit → St → Option R) : vexec (platform_Explain_C n) n platform_Explain_c30 ⟨97, [(0, .d (D.int .i64 a0)), (1, .d (D.sl 3 a1)), (2, .d (D.int .i64 a2)), (10, .d (D.int .i64 w245)), (12, .arr 36), (47, .d (D.int .i64 w47)), (48, .d (D.int .i64 h53))], [(36, .arr 4 1 w246)]⟩ k = platform_Explain_p30 n a0 a1 a2 w245 w47 h53 w246 (fun z247 => k .normal ⟨97, [(0, .d (D.int .i64 a0)), (1, .d (D.sl 3 a1)), (2, .d (D.int .i64 a2)), (10, .d (D.int .i64 w245)), (12, .arr 36), (47, .d (D.int .i64 w47)), (48, .d (D.int .i64 z247))], [(36, .arr 4 1 w246)]⟩) := by kernel_rfl
theorem platform_Explain_p31_eq {R : Type} (n : Nat) (a0 : Int) (a1 : List (List D)) (a2 : Int) (h51 : Int) (w47 : Int) (h53 : Int) (w157 : Bool) (h54 : List (List D)) (k : Exit → St → Option R) : vexec (platform_Explain_C n) n platform_Explain_c31 ⟨97, [(0, .d (D.int .i64 a0)), (1, .d (D.sl 3 a1)), (2, .d (D.int .i64 a2)), (10, .d (D.int .i64 h51)), (12, .arr 36), (47, .d (D.int .i64 w47)), (48, .d (D.int .i64 h53)), (49, .d (D.bool w157))], [(36, .arr 4 1 h54)]⟩ k = platform_Explain_p31 n a0 a1 a2 h51 w47 h53 w157 h54 (fun w244 => k .ret ⟨97, [(6, .nil), (7, .d (D.int .i64 (0 : Int))), (8, .d (D.int .i64 w244))], []⟩) (fun w245 w248 w246 => k .normal ⟨97, [(0, .d (D.int .i64 a0)), (1, .d (D.sl 3 a1)), (2, .d (D.int .i64 a2)), (10, .d (D.int .i64 w245)), (12, .arr 36), (47, .d (D.int .i64 w47)), (48, .d (D.int .i64 w248))], [(36, .arr 4 1 w246)]⟩) := by
  rw [platform_Explain_c31_eq]
  unfold platform_Explain_p31
  exact (platform_Explain_p29_eq n a0 a1 a2 h51 w47 h53 w157 h54 (seqK (platform_Explain_C n) n platform_Explain_c30 k)).trans (platform_Explain_p29_congr n a0 a1 a2 h51 w47 h53 w157 h54 (fun w244 => rfl) (fun w245 w246 => platform_Explain_p30_eq n a0 a1 a2 w245 w47 h53 w246 k))
theorem platform_Explain_p32_eq {R : Type} (n : Nat) (a0 : Int) (a1 : List (List D)) (a2 : Int) (h51 : Int) (w47 : Int) (h53 : Int) (w157 : Bool) (h54 : List (List D)) (k : Exit → St → Option R) : vexec (platform_Explain_C n) n platform_Explain_c32 ⟨97, [(0, .d (D.int .i64 a0)), (1, .d (D.sl 3 a1)), (2, .d (D.int .i64 a2)), (10, .d (D.int .i64 h51)), (12, .arr 36), (47, .d (D.int .i64 w47)), (48, .d (D.int .i64 h53)), (49, .d (D.bool w157))], [(36, .arr 4 1 h54)]⟩ k = platform_Explain_p32 n a0 a1 a2 h51 w47 h53 w157 h54 (fun w249 => k .ret ⟨97, [(6, .nil), (7, .d (D.int .i64 (0 : Int))), (8, .d (D.int .i64 w249))], []⟩) (fun w250 w251 w252 => k .normal ⟨97, [(0, .d (D.int .i64 a0)), (1, .d (D.sl 3 a1)), (2, .d (D.int .i64 a2)), (10, .d (D.int .i64 w250)), (12, .arr 36), (47, .d (D.int .i64 w47)), (48, .d (D.int .i64 w251))], [(36, .arr 4 1 w252)]⟩) (k (.exit 2) ⟨97, [(0, .d (D.int .i64 a0)), (1, .d (D.sl 3 a1)), (2, .d (D.int .i64 a2)), (10, .d (D.int .i64 h51)), (12, .arr 36), (47, .d (D.int .i64 w47)), (48, .d (D.int .i64 h53)), (49, .d (D.bool w157))], [(36, .arr 4 1 h54)]⟩) := by
  rw [platform_Explain_c32_eq]
  unfold platform_Explain_p32
  exact (platform_Explain_p13_eq n a0 a1 a2 h51 w47 h53 w157 h54 (seqK (platform_Explain_C n) n platform_Explain_c31 k)).trans (platform_Explain_p13_congr n a0 a1 a2 h51 w47 h53 w157 h54 (platform_Explain_p31_eq n a0 a1 a2 h51 w47 h53 w157 h54 k) (rfl))
theorem platform_Explain_p33_eq {R : Type} (n : Nat) (a0 : Int) (a1 : List (List D)) (a2 : Int) (h51 : Int) (w47 : Int) (h53 : Int) (h54 : List (List D)) (k : Exit → St → Option R) : vexec (platform_Explain_C n) n platform_Explain_c33 ⟨97, [(0, .d (D.int .i64 a0)), (1, .d (D.sl 3 a1)), (2, .d (D.int .i64 a2)), (10, .d (D.int .i64 h51)), (12, .arr 36), (47, .d (D.int .i64 w47)), (48, .d (D.int .i64 h53))], [(36, .arr 4 1 h54)]⟩ k = platform_Explain_p33 n a0 a1 a2 h51 w47 h53 h54 (fun w253 => k .ret ⟨97, [(6, .nil), (7, .d (D.int .i64 (0 : Int))), (8, .d (D.int .i64 w253))], []⟩) (fun w254 w255 w256 => k .normal ⟨97, [(0, .d (D.int .i64 a0)), (1, .d (D.sl 3 a1)), (2, .d (D.int .i64 a2)), (10, .d (D.int .i64 w254)), (12, .arr 36), (47, .d (D.int .i64 w47)), (48, .d (D.int .i64 w255))], [(36, .arr 4 1 w256)]⟩) (fun w157 => k (.exit 2) ⟨97, [(0, .d (D.int .i64 a0)), (1, .d (D.sl 3 a1)), (2, .d (D.int .i64 a2)), (10, .d (D.int .i64 h51)), (12, .arr 36), (47, .d (D.int .i64 w47)), (48, .d (D.int .i64 h53)), (49, .d (D.bool w157))], [(36, .arr 4 1 h54)]⟩) := by
  rw [platform_Explain_c33_eq]
  unfold platform_Explain_p33
  exact (platform_Explain_p12_eq n a0 a1 a2 h51 w47 h53 h54 (seqK (platform_Explain_C n) n platform_Explain_c32 k)).trans (platform_Explain_p12_congr n a0 a1 a2 h51 w47 h53 h54 (fun w157 => platform_Explain_p32_eq n a0 a1 a2 h51 w47 h53 w157 h54 k))
theorem platform_Explain_r34_eq {R : Type} (n : Nat) (a0 : Int) (a1 : List (List D)) (a2 : Int) (w47 : Int) (k : Exit → St → Option R) : ∀ (m : Nat) (h51 : Int) (h53 : Int) (h54 : List (List D)), loopN (vexec (platform_Explain_C n) n platform_Explain_c33) m ⟨97, [(0, .d (D.int .i64 a0)), (1, .d (D.sl 3 a1)), (2, .d (D.int .i64 a2)), (10, .d (D.int .i64 h51)), (12, .arr 36), (47, .d (D.int .i64 w47)), (48, .d (D.int .i64 h53))], [(36, .arr 4 1 h54)]⟩ k = platform_Explain_r34 n a0 a1 a2 w47 (fun w257 => k .ret ⟨97, [(6, .nil), (7, .d (D.int .i64 (0 : Int))), (8, .d (D.int .i64 w257))], []⟩) (fun h51 h53 w261 h54 => k (.exit 2) ⟨97, [(0, .d (D.int .i64 a0)), (1, .d (D.sl 3 a1)), (2, .d (D.int .i64 a2)), (10, .d (D.int .i64 h51)), (12, .arr 36), (47, .d (D.int .i64 w47)), (48, .d (D.int .i64 h53)), (49, .d (D.bool w261))], [(36, .arr 4 1 h54)]⟩) m h51 h53 h54
  | 0, _, _, _ => rfl
  | m + 1, h51, h53, h54 => (platform_Explain_p33_eq n a0 a1 a2 h51 w47 h53 h54 (loopK (vexec (platform_Explain_C n) n platform_Explain_c33) m k)).trans (platform_Explain_p33_congr n a0 a1 a2 h51 w47 h53 h54 (fun w257 => rfl) (fun w258 w259 w260 => platform_Explain_r34_eq n a0 a1 a2 w47 k m w258 w259 w260) (fun w261 => rfl))
theorem platform_Explain_p34_eq {R : Type} (n : Nat) (a0 : Int) (a1 : List (List D)) (a2 : Int) (w4 : Int) (w47 : Int) (w45 : List (List D)) (k : Exit → St → Option R) : vexec (platform_Explain_C n) n platform_Explain_c34 ⟨97, [(0, .d (D.int .i64 a0)), (1, .d (D.sl 3 a1)), (2, .d (D.int .i64 a2)), (10, .d (D.int .i64 w4)), (12, .arr 36), (47, .d (D.int .i64 w47)), (48, .d (D.int .i64 (0 : Int)))], [(36, .arr 4 1 w45)]⟩ k = platform_Explain_p34 n a0 a1 a2 w4 w47 w45 (fun w257 => k .ret ⟨97, [(6, .nil), (7, .d (D.int .i64 (0 : Int))), (8, .d (D.int .i64 w257))], []⟩) (fun h51 h53 w261 h54 => k (.exit 2) ⟨97, [(0, .d (D.int .i64 a0)), (1, .d (D.sl 3 a1)), (2, .d (D.int .i64 a2)), (10, .d (D.int .i64 h51)), (12, .arr 36), (47, .d (D.int .i64 w47)), (48, .d (D.int .i64 h53)), (49, .d (D.bool w261))], [(36, .arr 4 1 h54)]⟩) := by
  rw [platform_Explain_c34_eq]
  exact platform_Explain_r34_eq n a0 a1 a2 w47 k n w4 (0 : Int) w45
theorem platform_Explain_p35_eq {R : Type} (n : Nat) (a0 : Int) (a1 : List (List D)) (a2 : Int) (w4 : Int) (w47 : Int) (w45 : List (List D)) (k : Exit → St → Option R) : vexec (platform_Explain_C n) n platform_Explain_c35 ⟨97, [(0, .d (D.int .i64 a0)), (1, .d (D.sl 3 a1)), (2, .d (D.int .i64 a2)), (10, .d (D.int .i64 w4)), (12, .arr 36), (47, .d (D.int .i64 w47)), (48, .d (D.int .i64 (0 : Int)))], [(36, .arr 4 1 w45)]⟩ k = platform_Explain_p35 n a0 a1 a2 w4 w47 w45 (fun w262 => k .ret ⟨97, [(6, .nil), (7, .d (D.int .i64 (0 : Int))), (8, .d (D.int .i64 w262))], []⟩) (fun w263 w264 w265 w266 => k .normal ⟨97, [(0, .d (D.int .i64 a0)), (1, .d (D.sl 3 a1)), (2, .d (D.int .i64 a2)), (10, .d (D.int .i64 w263)), (12, .arr 36), (47, .d (D.int .i64 w47)), (48, .d (D.int .i64 w264)), (49, .d (D.bool w265))], [(36, .arr 4 1 w266)]⟩) := by
  rw [platform_Explain_c35_eq]
  unfold platform_Explain_p35
  exact (platform_Explain_p34_eq n a0 a1 a2 w4 w47 w45 (blockK 2 k)).trans (platform_Explain_p34_congr n a0 a1 a2 w4 w47 w45 (fun w262 => rfl) (fun w263 w264 w265 w266 => rfl))
theorem platform_Explain_p36_eq {R : Type} (n : Nat) (a0 : Int) (a1 : List (List D)) (a2 : Int) (w4 : Int) (w42 : Int) (w43 : Int) (w44 : Bool) (w45 : List (List D)) (k : Exit → St → Option R) : vexec (platform_Explain_C n) n platform_Explain_c36 ⟨97, [(0, .d (D.int .i64 a0)), (1, .d (D.sl 3 a1)), (2, .d (D.int .i64 a2)), (10, .d (D.int .i64 w4)), (12, .arr 36), (38, .d (D.int .i64 w42)), (39, .d (D.int .i64 w43)), (40, .d (D.bool w44))], [(36, .arr 4 1 w45)]⟩ k = platform_Explain_p36 n a0 a1 a2 w4 w42 w43 w44 w45 (fun w267 => k .ret ⟨97, [(6, .nil), (7, .d (D.int .i64 (0 : Int))), (8, .d (D.int .i64 w267))], []⟩) (fun w268 w47 w269 w270 w271 => k .normal ⟨97, [(0, .d (D.int .i64 a0)), (1, .d (D.sl 3 a1)), (2, .d (D.int .i64 a2)), (10, .d (D.int .i64 w268)), (12, .arr 36), (47, .d (D.int .i64 w47)), (48, .d (D.int .i64 w269)), (49, .d (D.bool w270))], [(36, .arr 4 1 w271)]⟩) := by
  rw [platform_Explain_c36_eq]
  unfold platform_Explain_p36
  exact (platform_Explain_p11_eq n a0 a1 a2 w4 w42 w43 w44 w45 (seqK (platform_Explain_C n) n platform_Explain_c35 k)).trans (platform_Explain_p11_congr n a0 a1 a2 w4 w42 w43 w44 w45 (fun w47 => platform_Explain_p35_eq n a0 a1 a2 w4 w47 w45 k))
theorem platform_Explain_p37_eq {R : Type} (n : Nat) (a0 : Int) (a1 : List (List D)) (a2 : Int) (w273 : Int) (w274 : Int) (w275 : Int) (w276 : Bool) (w277 : List (List D)) (k : Exit → St → Option R) : vexec (platform_Explain_C n) n platform_Explain_c37 ⟨97, [(0, .d (D.int .i64 a0)), (1, .d (D.sl 3 a1)), (2, .d (D.int .i64 a2)), (10, .d (D.int .i64 w273)), (12, .arr 36), (47, .d (D.int .i64 w274)), (48, .d (D.int .i64 w275)), (49, .d (D.bool w276))], [(36, .arr 4 1 w277)]⟩ k = platform_Explain_p37 n a0 a1 a2 w273 w274 w275 w276 w277 (fun r278 => k .ret ⟨97, [(6, .d (D.sl 1 r278)), (7, .d (D.int .i64 w273)), (8, .d (D.int .i64 (0 : Int)))], []⟩) := by kernel_rfl
theorem platform_Explain_p38_eq {R : Type} (n : Nat) (a0 : Int) (a1 : List (List D)) (a2 : Int) (w4 : Int) (w42 : Int) (w43 : Int) (w44 : Bool) (w45 : List (List D)) (k : Exit → St → Option R) : vexec (platform_Explain_C n) n platform_Explain_c38 ⟨97, [(0, .d (D.int .i64 a0)), (1, .d (D.sl 3 a1)), (2, .d (D.int .i64 a2)), (10, .d (D.int .i64 w4)), (12, .arr 36), (38, .d (D.int .i64 w42)), (39, .d (D.int .i64 w43)), (40, .d (D.bool w44))], [(36, .arr 4 1 w45)]⟩ k = platform_Explain_p38 n a0 a1 a2 w4 w42 w43 w44 w45 (fun w272 => k .ret ⟨97, [(6, .nil), (7, .d (D.int .i64 (0 : Int))), (8, .d (D.int .i64 w272))], []⟩) (fun w279 w273 => k .ret ⟨97, [(6, .d (D.sl 1 w279)), (7, .d (D.int .i64 w273)), (8, .d (D.int .i64 (0 : Int)))], []⟩) := by
  rw [platform_Explain_c38_eq]
  unfold platform_Explain_p38
  exact (platform_Explain_p36_eq n a0 a1 a2 w4 w42 w43 w44 w45 (seqK (platform_Explain_C n) n platform_Explain_c37 k)).trans (platform_Explain_p36_congr n a0 a1 a2 w4 w42 w43 w44 w45 (fun w272 => rfl) (fun w273 w274 w275 w276 w277 => platform_Explain_p37_eq n a0 a1 a2 w273 w274 w275 w276 w277 k))
theorem platform_Explain_p39_eq {R : Type} (n : Nat) (a0 : Int) (a1 : List (List D)) (a2 : Int) (w4 : Int) (w13 : List (List D)) (k : Exit → St → Option R) : vexec (platform_Explain_C n) n platform_Explain_c39 ⟨97, [(0, .d (D.int .i64 a0)), (1, .d (D.sl 3 a1)), (2, .d (D.int .i64 a2)), (10, .d (D.int .i64 w4)), (12, .arr 36)], [(36, .arr 4 1 w13)]⟩ k = platform_Explain_p39 n a0 a1 a2 w4 w13 (fun w280 => k .ret ⟨97, [(6, .nil), (7, .d (D.int .i64 (0 : Int))), (8, .d (D.int .i64 w280))], []⟩) (fun w281 w282 => k .ret ⟨97, [(6, .d (D.sl 1 w281)), (7, .d (D.int .i64 w282)), (8, .d (D.int .i64 (0 : Int)))], []⟩) := by
  rw [platform_Explain_c39_eq]
  unfold platform_Explain_p39
  exact (platform_Explain_p10_eq n a0 a1 a2 w4 w13 (seqK (platform_Explain_C n) n platform_Explain_c38 k)).trans (platform_Explain_p10_congr n a0 a1 a2 w4 w13 (fun w42 w43 w44 w45 => platform_Explain_p38_eq n a0 a1 a2 w4 w42 w43 w44 w45 k))
theorem platform_Explain_p40_eq {R : Type} (n : Nat) (a0 : Int) (a1 : List (List D)) (a2 : Int) (w4 : Int) (w5 : Int) (w9 : Bool) (k : Exit → St → Option R) : vexec (platform_Explain_C n) n platform_Explain_c40 ⟨97, [(0, .d (D.int .i64 a0)), (1, .d (D.sl 3 a1)), (2, .d (D.int .i64 a2)), (10, .d (D.int .i64 w4)), (11, .d (D.int .i64 w5)), (32, .d (D.bool w9))], []⟩ k = platform_Explain_p40 n a0 a1 a2 w4 w5 w9 (fun w283 => k .ret ⟨97, [(6, .nil), (7, .d (D.int .i64 (0 : Int))), (8, .d (D.int .i64 w283))], []⟩) (fun w284 w285 => k .ret ⟨97, [(6, .d (D.sl 1 w284)), (7, .d (D.int .i64 w285)), (8, .d (D.int .i64 (0 : Int)))], []⟩) := by
  rw [platform_Explain_c40_eq]
  unfold platform_Explain_p40
  exact (platform_Explain_p5_eq n a0 a1 a2 w4 w5 w9 (seqK (platform_Explain_C n) n platform_Explain_c39 k)).trans (platform_Explain_p5_congr n a0 a1 a2 w4 w5 w9 (fun w13 => platform_Explain_p39_eq n a0 a1 a2 w4 w13 k))
theorem platform_Explain_p41_eq {R : Type} (n : Nat) (a0 : Int) (a1 : List (List D)) (a2 : Int) (w4 : Int) (w5 : Int) (w7 : Bool) (k : Exit → St → Option R) : vexec (platform_Explain_C n) n platform_Explain_c41 ⟨97, [(0, .d (D.int .i64 a0)), (1, .d (D.sl 3 a1)), (2, .d (D.int .i64 a2)), (10, .d (D.int .i64 w4)), (11, .d (D.int .i64 w5)), (30, .d (D.bool w7))], []⟩ k = platform_Explain_p41 n a0 a1 a2 w4 w5 w7 (fun z289 => k .ret ⟨97, [(6, .nil), (7, .d (D.int .i64 (0 : Int))), (8, .d (D.int .i64 z289))], []⟩) (fun w287 w288 => k .ret ⟨97, [(6, .d (D.sl 1 w287)), (7, .d (D.int .i64 w288)), (8, .d (D.int .i64 (0 : Int)))], []⟩) := by
  rw [platform_Explain_c41_eq]
  unfold platform_Explain_p41
  exact (platform_Explain_p4_eq n a0 a1 a2 w4 w5 w7 (seqK (platform_Explain_C n) n platform_Explain_c40 k)).trans (platform_Explain_p4_congr n a0 a1 a2 w4 w5 w7 (rfl) (fun w9 => platform_Explain_p40_eq n a0 a1 a2 w4 w5 w9 k))
theorem platform_Explain_p42_eq {R : Type} (n : Nat) (a0 : Int) (a1 : List (List D)) (a2 : Int) (w4 : Int) (w5 : Int) (k : Exit → St → Option R) : vexec (platform_Explain_C n) n platform_Explain_c42 ⟨97, [(0, .d (D.int .i64 a0)), (1, .d (D.sl 3 a1)), (2, .d (D.int .i64 a2)), (10, .d (D.int .i64 w4)), (11, .d (D.int .i64 w5))], []⟩ k = platform_Explain_p42 n a0 a1 a2 w4 w5 (fun z293 => k .ret ⟨97, [(6, .nil), (7, .d (D.int .i64 (0 : Int))), (8, .d (D.int .i64 z293))], []⟩) (fun w291 w292 => k .ret ⟨97, [(6, .d (D.sl 1 w291)), (7, .d (D.int .i64 w292)), (8, .d (D.int .i64 (0 : Int)))], []⟩) := by
  rw [platform_Explain_c42_eq]
  unfold platform_Explain_p42
  exact (platform_Explain_p3_eq n a0 a1 a2 w4 w5 (seqK (platform_Explain_C n) n platform_Explain_c41 k)).trans (platform_Explain_p3_congr n a0 a1 a2 w4 w5 (rfl) (fun w7 => platform_Explain_p41_eq n a0 a1 a2 w4 w5 w7 k))
theorem platform_Explain_p43_eq {R : Type} (n : Nat) (a0 : Int) (a1 : List (List D)) (a2 : Int) (k : Exit → St → Option R) : vexec (platform_Explain_C n) n platform_Explain_c43 ⟨97, [(0, .d (D.int .i64 a0)), (1, .d (D.sl 3 a1)), (2, .d (D.int .i64 a2))], []⟩ k = platform_Explain_p43 n a0 a1 a2 (fun w294 => k .ret ⟨97, [(6, .nil), (7, .d (D.int .i64 (0 : Int))), (8, .d (D.int .i64 w294))], []⟩) (fun w295 w296 => k .ret ⟨97, [(6, .d (D.sl 1 w295)), (7, .d (D.int .i64 w296)), (8, .d (D.int .i64 (0 : Int)))], []⟩) := by
  rw [platform_Explain_c43_eq]
  unfold platform_Explain_p43
  exact (platform_Explain_p2_eq n a0 a1 a2 (seqK (platform_Explain_C n) n platform_Explain_c42 k)).trans (platform_Explain_p2_congr n a0 a1 a2 (fun w4 w5 => platform_Explain_p42_eq n a0 a1 a2 w4 w5 k))
theorem platform_Explain_p44_eq {R : Type} (n : Nat) (a0 : Int) (a1 : List (List D)) (a2 : Int) (k : Exit → St → Option R) : vexec (platform_Explain_C n) n platform_Explain_c0 ⟨97, [(0, .d (D.int .i64 a0)), (1, .d (D.sl 3 a1)), (2, .d (D.int .i64 a2))], []⟩ k = platform_Explain_p44 n a0 a1 a2 (fun w297 => k .ret ⟨97, [(6, .nil), (7, .d (D.int .i64 (0 : Int))), (8, .d (D.int .i64 w297))], []⟩) (fun w298 w299 => k .ret ⟨97, [(6, .d (D.sl 1 w298)), (7, .d (D.int .i64 w299)), (8, .d (D.int .i64 (0 : Int)))], []⟩) := by
  rw [platform_Explain_c0_eq]
  unfold platform_Explain_p44
  exact (platform_Explain_p1_eq n a0 a1 a2 (seqK (platform_Explain_C n) n platform_Explain_c43 k)).trans (platform_Explain_p1_congr n a0 a1 a2 (platform_Explain_p43_eq n a0 a1 a2 k))
theorem platform_Explain_vfn {R : Type} (n : Nat) (a0 : Int) (a1 : List (List D)) (a2 : Int) (K : AV → Option R) : vfn (platform_Explain_C n) n Try.f23 [.d (D.int .i64 a0), .d (D.sl 3 a1), .d (D.int .i64 a2)] [] (retF [[1], [0], [0]] K) = platform_Explain n a0 a1 a2 (fun r0 r1 r2 => K (.tup [.d (D.sl 1 r0), .d (D.int .i64 r1), .d (D.int .i64 r2)])) :=
  (show vfn (platform_Explain_C n) n Try.f23 [.d (D.int .i64 a0), .d (D.sl 3 a1), .d (D.int .i64 a2)] [] (retF [[1], [0], [0]] K) = vexec (platform_Explain_C n) n platform_Explain_c0 ⟨97, [(0, .d (D.int .i64 a0)), (1, .d (D.sl 3 a1)), (2, .d (D.int .i64 a2))], []⟩ (retX platform_Explain_tt [.tmp 6, .tmp 7, .tmp 8] (retF [[1], [0], [0]] K)) from vfn_at (by kernel_rfl) (by kernel_rfl) rfl (by kernel_rfl) rfl (by kernel_rfl) rfl).trans ((platform_Explain_p44_eq n a0 a1 a2 (retX platform_Explain_tt [.tmp 6, .tmp 7, .tmp 8] (retF [[1], [0], [0]] K))).trans (by kernel_rfl))
def platform_Explain_K : AV → Option ((List (List D)) × Int × Int) := fun av => match av with
  | .tup [.d (D.sl 1 r0), .d (D.int .i64 r1), .d (D.int .i64 r2)] => some (r0, r1, r2)
  | _ => none
def platform_Explain_e (n : Nat) : Entry := fun _ _ g avs _ k => match avs with
  | [c0, c1, c2] => prI g .i64 c0 fun a0 => prS g 3 c1 fun a1 => prI g .i64 c2 fun a2 => 
    gb g (platform_Explain n a0 a1 a2 (fun r0 r1 r2 => some (r0, r1, r2))) ([], 0, 0) fun r => k ⟨.tup [.d (D.sl 1 r.1), .d (D.int .i64 r.2.1), .d (D.int .i64 r.2.2)], [], []⟩
  | _ => none
theorem platform_Explain_ok (n : Nat) : EntryOK Try.prog 23 (platform_Explain_e n) := by
  intro R site g avs hl k r h
  unfold platform_Explain_e at h
  split at h
  rotate_left
  · cases h
  replace h := prI_some h
  obtain ⟨a0, h, le0⟩ := h
  replace h := prS_some h
  obtain ⟨a1, h, le1⟩ := h
  replace h := prI_some h
  obtain ⟨a2, h, le2⟩ := h
  replace h := gb_some h
  obtain ⟨res, h, hr⟩ := h
  refine ⟨_, h, fun hg => CallOK.conv (avs' := [.d (D.int .i64 a0), .d (D.sl 3 a1), .d (D.int .i64 a2)]) (.cons (le0 hg) (.cons (le1 hg) (.cons (le2 hg) (.nil)))) (callOK_fix (K := platform_Explain_K) (res := res) (platform_Explain_VC n) (fn := Try.f23) (n := n) (by kernel_rfl) (by kernel_rfl) (by kernel_rfl) (ss := [[1], [0], [0]]) rfl ?_ ?_)⟩
  · exact (platform_Explain_vfn n a0 a1 a2 platform_Explain_K).trans (hr hg)
  · intro x hx
    unfold platform_Explain_K at hx
    split at hx
    · injection hx with hx; subst hx; rfl
    · cases hx
end Go.Vx
/-
  ref19_in: the interpreter computes the pure function
-/
set_option linter.unusedVariables false
set_option linter.unusedSimpArgs false
set_option maxRecDepth 100000
namespace Go.Vx
open Go.Proofs
noncomputable def ref19_in_c0 : Code := bodyOf Try.f38
def ref19_in_tt : TT := [(3, ⟨.int .i64, 1, 8, [.int .i64 0], [.int .i64 0], [], none⟩)]
theorem ref19_in_tt_eq : mkTT Try.prog [3] = ref19_in_tt := by kernel_rfl
def ref19_in_cfg : List (Nat × Cfg) := [(0, ⟨[0, 1, 2], [], [], [], []⟩), (1, ⟨[6], [], [], [], []⟩)]
def ref19_in_C (n : Nat) : VC := ⟨specOf [], ref19_in_tt, ref19_in_cfg⟩
theorem ref19_in_ents (n : Nat) : EntsOK Try.prog [] := trivial
theorem ref19_in_VC (n : Nat) : VCOk Try.prog (ref19_in_C n) := ⟨specOf_ok (ref19_in_ents n), (ref19_in_tt_eq ▸ mkTT_ok _ : TOk Try.prog ref19_in_tt), by kernel_rfl⟩
theorem ref19_in_p1_congr {R : Type} (n : Nat) (a0 : Int) (a1 : Int) (a2 : Int) {k0 kk0 : Bool → Option R} (hq0 : ∀ x0, k0 x0 = kk0 x0) : ref19_in_p1 n a0 a1 a2 k0 = ref19_in_p1 n a0 a1 a2 kk0 := by
  obtain rfl : k0 = kk0 := funext fun x0 => hq0 x0
  rfl
theorem ref19_in_p1_eq {R : Type} (n : Nat) (a0 : Int) (a1 : Int) (a2 : Int) (k : Exit → St → Option R) : vexec (ref19_in_C n) n ref19_in_c0 ⟨15, [(0, .d (D.int .i64 a0)), (1, .d (D.int .i64 a1)), (2, .d (D.int .i64 a2))], []⟩ k = ref19_in_p1 n a0 a1 a2 (fun z1 => k .ret ⟨15, [(6, .d (D.bool z1))], []⟩) := by kernel_rfl
theorem ref19_in_vfn {R : Type} (n : Nat) (a0 : Int) (a1 : Int) (a2 : Int) (K : AV → Option R) : vfn (ref19_in_C n) n Try.f38 [.d (D.int .i64 a0), .d (D.int .i64 a1), .d (D.int .i64 a2)] [] (retF [[0]] K) = ref19_in n a0 a1 a2 (fun r0 => K (.d (D.bool r0))) :=
  (show vfn (ref19_in_C n) n Try.f38 [.d (D.int .i64 a0), .d (D.int .i64 a1), .d (D.int .i64 a2)] [] (retF [[0]] K) = vexec (ref19_in_C n) n ref19_in_c0 ⟨15, [(0, .d (D.int .i64 a0)), (1, .d (D.int .i64 a1)), (2, .d (D.int .i64 a2))], []⟩ (retX ref19_in_tt [.tmp 6] (retF [[0]] K)) from vfn_at (by kernel_rfl) (by kernel_rfl) rfl (by kernel_rfl) rfl (by kernel_rfl) rfl).trans ((ref19_in_p1_eq n a0 a1 a2 (retX ref19_in_tt [.tmp 6] (retF [[0]] K))).trans (by kernel_rfl))
def ref19_in_K : AV → Option (Bool) := fun av => match av with
  | .d (D.bool r0) => some r0
  | _ => none
def ref19_in_e (n : Nat) : Entry := fun _ _ g avs _ k => match avs with
  | [c0, c1, c2] => prI g .i64 c0 fun a0 => prI g .i64 c1 fun a1 => prI g .i64 c2 fun a2 => 
    gb g (ref19_in n a0 a1 a2 some) false fun r => k ⟨.d (D.bool r), [], []⟩
  | _ => none
theorem ref19_in_ok (n : Nat) : EntryOK Try.prog 38 (ref19_in_e n) := by
  intro R site g avs hl k r h
  unfold ref19_in_e at h
  split at h
  rotate_left
  · cases h
  replace h := prI_some h
  obtain ⟨a0, h, le0⟩ := h
  replace h := prI_some h
  obtain ⟨a1, h, le1⟩ := h
  replace h := prI_some h
  obtain ⟨a2, h, le2⟩ := h
  replace h := gb_some h
  obtain ⟨res, h, hr⟩ := h
  refine ⟨_, h, fun hg => CallOK.conv (avs' := [.d (D.int .i64 a0), .d (D.int .i64 a1), .d (D.int .i64 a2)]) (.cons (le0 hg) (.cons (le1 hg) (.cons (le2 hg) (.nil)))) (callOK_fix (K := ref19_in_K) (res := res) (ref19_in_VC n) (fn := Try.f38) (n := n) (by kernel_rfl) (by kernel_rfl) (by kernel_rfl) (ss := [[0]]) rfl ?_ ?_)⟩
  · exact (ref19_in_vfn n a0 a1 a2 ref19_in_K).trans (hr hg)
  · intro x hx
    unfold ref19_in_K at hx
    split at hx
    · injection hx with hx; subst hx; rfl
    · cases hx
end Go.Vx
/-
  ref19_ValidVisits: the interpreter computes the pure function
-/
set_option linter.unusedVariables false
set_option linter.unusedSimpArgs false
set_option maxRecDepth 100000
namespace Go.Vx
open Go.Proofs
noncomputable def ref19_ValidVisits_c0 : Code := bodyOf Try.f33
noncomputable def ref19_ValidVisits_c1 : Code := cL (bodyOf Try.f33)
noncomputable def ref19_ValidVisits_c2 : Code := cL (cR (bodyOf Try.f33))
noncomputable def ref19_ValidVisits_c3 : Code := cL (cL (cR (cR (bodyOf Try.f33))))
noncomputable def ref19_ValidVisits_c4 : Code := cL (cB (cB (cR (cL (cR (cR (bodyOf Try.f33)))))))
noncomputable def ref19_ValidVisits_c5 : Code := cL (cR (cB (cB (cR (cL (cR (cR (bodyOf Try.f33))))))))
noncomputable def ref19_ValidVisits_c6 : Code := cL (cB (cL (cR (cR (cB (cB (cR (cL (cR (cR (bodyOf Try.f33)))))))))))
noncomputable def ref19_ValidVisits_c7 : Code := cL (cR (cB (cL (cR (cR (cB (cB (cR (cL (cR (cR (bodyOf Try.f33))))))))))))
noncomputable def ref19_ValidVisits_c8 : Code := cL (cR (cR (cB (cL (cR (cR (cB (cB (cR (cL (cR (cR (bodyOf Try.f33)))))))))))))
noncomputable def ref19_ValidVisits_c9 : Code := cB (cB (cR (cR (cR (cB (cL (cR (cR (cB (cB (cR (cL (cR (cR (bodyOf Try.f33)))))))))))))))
noncomputable def ref19_ValidVisits_c10 : Code := cB (cR (cR (cR (cB (cL (cR (cR (cB (cB (cR (cL (cR (cR (bodyOf Try.f33))))))))))))))
noncomputable def ref19_ValidVisits_c11 : Code := cR (cR (cR (cB (cL (cR (cR (cB (cB (cR (cL (cR (cR (bodyOf Try.f33)))))))))))))
noncomputable def ref19_ValidVisits_c12 : Code := cR (cR (cB (cL (cR (cR (cB (cB (cR (cL (cR (cR (bodyOf Try.f33))))))))))))
noncomputable def ref19_ValidVisits_c13 : Code := cR (cB (cL (cR (cR (cB (cB (cR (cL (cR (cR (bodyOf Try.f33)))))))))))
noncomputable def ref19_ValidVisits_c14 : Code := cB (cL (cR (cR (cB (cB (cR (cL (cR (cR (bodyOf Try.f33))))))))))
noncomputable def ref19_ValidVisits_c15 : Code := cL (cR (cR (cB (cB (cR (cL (cR (cR (bodyOf Try.f33)))))))))
noncomputable def ref19_ValidVisits_c16 : Code := cR (cR (cR (cB (cB (cR (cL (cR (cR (bodyOf Try.f33)))))))))
noncomputable def ref19_ValidVisits_c17 : Code := cR (cR (cB (cB (cR (cL (cR (cR (bodyOf Try.f33))))))))
noncomputable def ref19_ValidVisits_c18 : Code := cR (cB (cB (cR (cL (cR (cR (bodyOf Try.f33)))))))
noncomputable def ref19_ValidVisits_c19 : Code := cB (cB (cR (cL (cR (cR (bodyOf Try.f33))))))
noncomputable def ref19_ValidVisits_c20 : Code := cB (cR (cL (cR (cR (bodyOf Try.f33)))))
noncomputable def ref19_ValidVisits_c21 : Code := cR (cL (cR (cR (bodyOf Try.f33))))
noncomputable def ref19_ValidVisits_c22 : Code := cL (cR (cR (bodyOf Try.f33)))
noncomputable def ref19_ValidVisits_c23 : Code := cR (cR (cR (bodyOf Try.f33)))
noncomputable def ref19_ValidVisits_c24 : Code := cR (cR (bodyOf Try.f33))
noncomputable def ref19_ValidVisits_c25 : Code := cR (bodyOf Try.f33)
theorem ref19_ValidVisits_c10_eq : ref19_ValidVisits_c10 = .loop ref19_ValidVisits_c9 := by kernel_rfl
theorem ref19_ValidVisits_c11_eq : ref19_ValidVisits_c11 = .block 2 ref19_ValidVisits_c10 := by kernel_rfl
theorem ref19_ValidVisits_c12_eq : ref19_ValidVisits_c12 = .seq ref19_ValidVisits_c8 ref19_ValidVisits_c11 := by kernel_rfl
theorem ref19_ValidVisits_c13_eq : ref19_ValidVisits_c13 = .seq ref19_ValidVisits_c7 ref19_ValidVisits_c12 := by kernel_rfl
theorem ref19_ValidVisits_c14_eq : ref19_ValidVisits_c14 = .seq ref19_ValidVisits_c6 ref19_ValidVisits_c13 := by kernel_rfl
theorem ref19_ValidVisits_c15_eq : ref19_ValidVisits_c15 = .block 1 ref19_ValidVisits_c14 := by kernel_rfl
theorem ref19_ValidVisits_c17_eq : ref19_ValidVisits_c17 = .seq ref19_ValidVisits_c15 ref19_ValidVisits_c16 := by kernel_rfl
theorem ref19_ValidVisits_c18_eq : ref19_ValidVisits_c18 = .seq ref19_ValidVisits_c5 ref19_ValidVisits_c17 := by kernel_rfl
theorem ref19_ValidVisits_c19_eq : ref19_ValidVisits_c19 = .seq ref19_ValidVisits_c4 ref19_ValidVisits_c18 := by kernel_rfl
theorem ref19_ValidVisits_c20_eq : ref19_ValidVisits_c20 = .loop ref19_ValidVisits_c19 := by kernel_rfl
theorem ref19_ValidVisits_c21_eq : ref19_ValidVisits_c21 = .block 0 ref19_ValidVisits_c20 := by kernel_rfl
theorem ref19_ValidVisits_c22_eq : ref19_ValidVisits_c22 = .seq ref19_ValidVisits_c3 ref19_ValidVisits_c21 := by kernel_rfl
theorem ref19_ValidVisits_c24_eq : ref19_ValidVisits_c24 = .seq ref19_ValidVisits_c22 ref19_ValidVisits_c23 := by kernel_rfl
theorem ref19_ValidVisits_c25_eq : ref19_ValidVisits_c25 = .seq ref19_ValidVisits_c2 ref19_ValidVisits_c24 := by kernel_rfl
theorem ref19_ValidVisits_c0_eq : ref19_ValidVisits_c0 = .seq ref19_ValidVisits_c1 ref19_ValidVisits_c25 := by kernel_rfl
def ref19_ValidVisits_tt : TT := [(3, ⟨.int .i64, 1, 8, [.int .i64 0], [.int .i64 0], [], none⟩), (22, ⟨.sl 3 1, 1, 24, [.slice none 0 0], [.sl 1 []], [], none⟩), (24, ⟨.sl 28 3, 1, 24, [.slice none 0 0], [.sl 3 []], [], none⟩), (28, ⟨.struct, 3, 40, [.int .i64 0, .int .i64 0, .slice none 0 0], [.int .i64 0, .int .i64 0, .sl 1 []], [(0, 3), (1, 3), (2, 22)], none⟩)]
theorem ref19_ValidVisits_tt_eq : mkTT Try.prog [3, 22, 24, 28] = ref19_ValidVisits_tt := by kernel_rfl
def ref19_ValidVisits_cfg : List (Nat × Cfg) := [(0, ⟨[0, 1], [], [], [], []⟩), (1, ⟨[0, 1, 14], [], [], [], []⟩), (2, ⟨[4], [], [], [], []⟩), (3, ⟨[0, 1, 16, 17], [], [], [], []⟩), (4, ⟨[0, 1, 16, 17, 18], [], [], [], []⟩), (5, ⟨[0, 1, 5, 16, 17], [], [], [], []⟩), (6, ⟨[0, 1, 5, 16, 17, 47], [], [], [], []⟩), (7, ⟨[4], [], [], [], []⟩), (8, ⟨[0, 1, 5, 16, 17, 53, 54], [], [], [], []⟩), (9, ⟨[0, 1, 5, 16, 17, 53, 54, 55], [], [], [], []⟩), (10, ⟨[0, 1, 5, 6, 16, 17, 53, 54], [], [], [], []⟩), (11, ⟨[0, 1, 5, 16, 17, 53, 54, 89], [], [], [], []⟩), (12, ⟨[4], [], [], [], []⟩), (13, ⟨[0, 1, 5, 16, 17, 53, 54], [], [], [], []⟩), (14, ⟨[0, 1, 16, 17], [], [], [], []⟩), (15, ⟨[4], [], [], [], []⟩)]
def ref19_ValidVisits_C (n : Nat) : VC := ⟨specOf [(38, ref19_in_e n)], ref19_ValidVisits_tt, ref19_ValidVisits_cfg⟩
theorem ref19_ValidVisits_ents (n : Nat) : EntsOK Try.prog [(38, ref19_in_e n)] := ⟨ref19_in_ok n, trivial⟩
theorem ref19_ValidVisits_VC (n : Nat) : VCOk Try.prog (ref19_ValidVisits_C n) := ⟨specOf_ok (ref19_ValidVisits_ents n), (ref19_ValidVisits_tt_eq ▸ mkTT_ok _ : TOk Try.prog ref19_ValidVisits_tt), by kernel_rfl⟩
theorem ref19_ValidVisits_p1_congr {R : Type} (n : Nat) (a0 : Int) (a1 : List (List D)) {k0 kk0 : Option R} (hq0 : k0 = kk0) : ref19_ValidVisits_p1 n a0 a1 k0 = ref19_ValidVisits_p1 n a0 a1 kk0 := by
  obtain rfl : k0 = kk0 := hq0
  rfl
theorem ref19_ValidVisits_p2_congr {R : Type} (n : Nat) (a0 : Int) (a1 : List (List D)) {k0 kk0 : Option R} {k1 kk1 : Bool → Option R} (hq0 : k0 = kk0) (hq1 : ∀ x0, k1 x0 = kk1 x0) : ref19_ValidVisits_p2 n a0 a1 k0 k1 = ref19_ValidVisits_p2 n a0 a1 kk0 kk1 := by
  obtain rfl : k0 = kk0 := hq0
  obtain rfl : k1 = kk1 := funext fun x0 => hq1 x0
  rfl
theorem ref19_ValidVisits_p3_congr {R : Type} (n : Nat) (a0 : Int) (a1 : List (List D)) (w3 : Bool) {k0 kk0 : Int → Option R} (hq0 : ∀ x0, k0 x0 = kk0 x0) : ref19_ValidVisits_p3 n a0 a1 w3 k0 = ref19_ValidVisits_p3 n a0 a1 w3 kk0 := by
  obtain rfl : k0 = kk0 := funext fun x0 => hq0 x0
  rfl
theorem ref19_ValidVisits_p4_congr {R : Type} (n : Nat) (a0 : Int) (a1 : List (List D)) (w5 : Int) (h9 : Int) {k0 kk0 : Bool → Option R} (hq0 : ∀ x0, k0 x0 = kk0 x0) : ref19_ValidVisits_p4 n a0 a1 w5 h9 k0 = ref19_ValidVisits_p4 n a0 a1 w5 h9 kk0 := by
  obtain rfl : k0 = kk0 := funext fun x0 => hq0 x0
  rfl
theorem ref19_ValidVisits_p5_congr {R : Type} (n : Nat) (a0 : Int) (a1 : List (List D)) (w5 : Int) (h9 : Int) (w100 : Bool) {k0 kk0 : Option R} {k1 kk1 : Option R} (hq0 : k0 = kk0) (hq1 : k1 = kk1) : ref19_ValidVisits_p5 n a0 a1 w5 h9 w100 k0 k1 = ref19_ValidVisits_p5 n a0 a1 w5 h9 w100 kk0 kk1 := by
  obtain rfl : k0 = kk0 := hq0
  obtain rfl : k1 = kk1 := hq1
  rfl
theorem ref19_ValidVisits_p6_congr {R : Type} (n : Nat) (a0 : Int) (a1 : List (List D)) (w5 : Int) (h9 : Int) (w100 : Bool) {k0 kk0 : Option R} (hq0 : k0 = kk0) : ref19_ValidVisits_p6 n a0 a1 w5 h9 w100 k0 = ref19_ValidVisits_p6 n a0 a1 w5 h9 w100 kk0 := by
  obtain rfl : k0 = kk0 := hq0
  rfl
theorem ref19_ValidVisits_p7_congr {R : Type} (n : Nat) (a0 : Int) (a1 : List (List D)) (h9 : Int) (w5 : Int) {k0 kk0 : Option R} {k1 kk1 : Bool → Option R} (hq0 : k0 = kk0) (hq1 : ∀ x0, k1 x0 = kk1 x0) : ref19_ValidVisits_p7 n a0 a1 h9 w5 k0 k1 = ref19_ValidVisits_p7 n a0 a1 h9 w5 kk0 kk1 := by
  obtain rfl : k0 = kk0 := hq0
  obtain rfl : k1 = kk1 := funext fun x0 => hq1 x0
  rfl
theorem ref19_ValidVisits_p8_congr {R : Type} (n : Nat) (a0 : Int) (a1 : List (List D)) (h9 : Int) (w5 : Int) (w113 : Bool) {k0 kk0 : Int → Option R} (hq0 : ∀ x0, k0 x0 = kk0 x0) : ref19_ValidVisits_p8 n a0 a1 h9 w5 w113 k0 = ref19_ValidVisits_p8 n a0 a1 h9 w5 w113 kk0 := by
  obtain rfl : k0 = kk0 := funext fun x0 => hq0 x0
  rfl
theorem ref19_ValidVisits_p9_congr {R : Type} (n : Nat) (a0 : Int) (a1 : List (List D)) (h9 : Int) (w5 : Int) (w118 : Int) (h125 : Int) {k0 kk0 : Option R} {k1 kk1 : Int → Option R} {k2 kk2 : Bool → Option R} (hq0 : k0 = kk0) (hq1 : ∀ x0, k1 x0 = kk1 x0) (hq2 : ∀ x0, k2 x0 = kk2 x0) : ref19_ValidVisits_p9 n a0 a1 h9 w5 w118 h125 k0 k1 k2 = ref19_ValidVisits_p9 n a0 a1 h9 w5 w118 h125 kk0 kk1 kk2 := by
  obtain rfl : k0 = kk0 := hq0
  obtain rfl : k1 = kk1 := funext fun x0 => hq1 x0
  obtain rfl : k2 = kk2 := funext fun x0 => hq2 x0
  rfl
theorem ref19_ValidVisits_p10_congr {R : Type} (n : Nat) (a0 : Int) (a1 : List (List D)) (h9 : Int) (w5 : Int) (w118 : Int) {k0 kk0 : Option R} {k1 kk1 : Int → Bool → Option R} (hq0 : k0 = kk0) (hq1 : ∀ x0 x1, k1 x0 x1 = kk1 x0 x1) : ref19_ValidVisits_p10 n a0 a1 h9 w5 w118 k0 k1 = ref19_ValidVisits_p10 n a0 a1 h9 w5 w118 kk0 kk1 := by
  obtain rfl : k0 = kk0 := hq0
  obtain rfl : k1 = kk1 := funext fun x0 => funext fun x1 => hq1 x0 x1
  rfl
theorem ref19_ValidVisits_p11_congr {R : Type} (n : Nat) (a0 : Int) (a1 : List (List D)) (h9 : Int) (w5 : Int) (w118 : Int) {k0 kk0 : Option R} {k1 kk1 : Int → Bool → Option R} (hq0 : k0 = kk0) (hq1 : ∀ x0 x1, k1 x0 x1 = kk1 x0 x1) : ref19_ValidVisits_p11 n a0 a1 h9 w5 w118 k0 k1 = ref19_ValidVisits_p11 n a0 a1 h9 w5 w118 kk0 kk1 := by
  obtain rfl : k0 = kk0 := hq0
  obtain rfl : k1 = kk1 := funext fun x0 => funext fun x1 => hq1 x0 x1
  rfl
theorem ref19_ValidVisits_p12_congr {R : Type} (n : Nat) (a0 : Int) (a1 : List (List D)) (h9 : Int) (w5 : Int) (w113 : Bool) {k0 kk0 : Option R} {k1 kk1 : Int → Int → Bool → Option R} (hq0 : k0 = kk0) (hq1 : ∀ x0 x1 x2, k1 x0 x1 x2 = kk1 x0 x1 x2) : ref19_ValidVisits_p12 n a0 a1 h9 w5 w113 k0 k1 = ref19_ValidVisits_p12 n a0 a1 h9 w5 w113 kk0 kk1 := by
  obtain rfl : k0 = kk0 := hq0
  obtain rfl : k1 = kk1 := funext fun x0 => funext fun x1 => funext fun x2 => hq1 x0 x1 x2
  rfl
theorem ref19_ValidVisits_p13_congr {R : Type} (n : Nat) (a0 : Int) (a1 : List (List D)) (h9 : Int) (w5 : Int) {k0 kk0 : Option R} {k1 kk1 : Int → Int → Bool → Option R} (hq0 : k0 = kk0) (hq1 : ∀ x0 x1 x2, k1 x0 x1 x2 = kk1 x0 x1 x2) : ref19_ValidVisits_p13 n a0 a1 h9 w5 k0 k1 = ref19_ValidVisits_p13 n a0 a1 h9 w5 kk0 kk1 := by
  obtain rfl : k0 = kk0 := hq0
  obtain rfl : k1 = kk1 := funext fun x0 => funext fun x1 => funext fun x2 => hq1 x0 x1 x2
  rfl
theorem ref19_ValidVisits_p14_congr {R : Type} (n : Nat) (a0 : Int) (a1 : List (List D)) (w5 : Int) (h9 : Int) (w100 : Bool) {k0 kk0 : Option R} {k1 kk1 : Int → Int → Bool → Option R} (hq0 : k0 = kk0) (hq1 : ∀ x0 x1 x2, k1 x0 x1 x2 = kk1 x0 x1 x2) : ref19_ValidVisits_p14 n a0 a1 w5 h9 w100 k0 k1 = ref19_ValidVisits_p14 n a0 a1 w5 h9 w100 kk0 kk1 := by
  obtain rfl : k0 = kk0 := hq0
  obtain rfl : k1 = kk1 := funext fun x0 => funext fun x1 => funext fun x2 => hq1 x0 x1 x2
  rfl
theorem ref19_ValidVisits_p15_congr {R : Type} (n : Nat) (a0 : Int) (a1 : List (List D)) (w5 : Int) (h9 : Int) (w100 : Bool) {k0 kk0 : Option R} {k1 kk1 : Int → Int → Bool → Option R} (hq0 : k0 = kk0) (hq1 : ∀ x0 x1 x2, k1 x0 x1 x2 = kk1 x0 x1 x2) : ref19_ValidVisits_p15 n a0 a1 w5 h9 w100 k0 k1 = ref19_ValidVisits_p15 n a0 a1 w5 h9 w100 kk0 kk1 := by
  obtain rfl : k0 = kk0 := hq0
  obtain rfl : k1 = kk1 := funext fun x0 => funext fun x1 => funext fun x2 => hq1 x0 x1 x2
  rfl
theorem ref19_ValidVisits_p16_congr {R : Type} (n : Nat) (a0 : Int) (a1 : List (List D)) (h9 : Int) (w5 : Int) (w181 : Int) (w182 : Int) (w183 : Bool) {k0 kk0 : Int → Option R} (hq0 : ∀ x0, k0 x0 = kk0 x0) : ref19_ValidVisits_p16 n a0 a1 h9 w5 w181 w182 w183 k0 = ref19_ValidVisits_p16 n a0 a1 h9 w5 w181 w182 w183 kk0 := by
  obtain rfl : k0 = kk0 := funext fun x0 => hq0 x0
  rfl
theorem ref19_ValidVisits_p17_congr {R : Type} (n : Nat) (a0 : Int) (a1 : List (List D)) (w5 : Int) (h9 : Int) (w100 : Bool) {k0 kk0 : Option R} {k1 kk1 : Int → Option R} (hq0 : k0 = kk0) (hq1 : ∀ x0, k1 x0 = kk1 x0) : ref19_ValidVisits_p17 n a0 a1 w5 h9 w100 k0 k1 = ref19_ValidVisits_p17 n a0 a1 w5 h9 w100 kk0 kk1 := by
  obtain rfl : k0 = kk0 := hq0
  obtain rfl : k1 = kk1 := funext fun x0 => hq1 x0
  rfl
theorem ref19_ValidVisits_p18_congr {R : Type} (n : Nat) (a0 : Int) (a1 : List (List D)) (w5 : Int) (h9 : Int) (w100 : Bool) {k0 kk0 : Option R} {k1 kk1 : Int → Option R} {k2 kk2 : Option R} (hq0 : k0 = kk0) (hq1 : ∀ x0, k1 x0 = kk1 x0) (hq2 : k2 = kk2) : ref19_ValidVisits_p18 n a0 a1 w5 h9 w100 k0 k1 k2 = ref19_ValidVisits_p18 n a0 a1 w5 h9 w100 kk0 kk1 kk2 := by
  obtain rfl : k0 = kk0 := hq0
  obtain rfl : k1 = kk1 := funext fun x0 => hq1 x0
  obtain rfl : k2 = kk2 := hq2
  rfl
theorem ref19_ValidVisits_p19_congr {R : Type} (n : Nat) (a0 : Int) (a1 : List (List D)) (w5 : Int) (h9 : Int) {k0 kk0 : Option R} {k1 kk1 : Int → Option R} {k2 kk2 : Bool → Option R} (hq0 : k0 = kk0) (hq1 : ∀ x0, k1 x0 = kk1 x0) (hq2 : ∀ x0, k2 x0 = kk2 x0) : ref19_ValidVisits_p19 n a0 a1 w5 h9 k0 k1 k2 = ref19_ValidVisits_p19 n a0 a1 w5 h9 kk0 kk1 kk2 := by
  obtain rfl : k0 = kk0 := hq0
  obtain rfl : k1 = kk1 := funext fun x0 => hq1 x0
  obtain rfl : k2 = kk2 := funext fun x0 => hq2 x0
  rfl
theorem ref19_ValidVisits_p20_congr {R : Type} (n : Nat) (a0 : Int) (a1 : List (List D)) (w5 : Int) {k0 kk0 : Option R} {k1 kk1 : Int → Bool → Option R} (hq0 : k0 = kk0) (hq1 : ∀ x0 x1, k1 x0 x1 = kk1 x0 x1) : ref19_ValidVisits_p20 n a0 a1 w5 k0 k1 = ref19_ValidVisits_p20 n a0 a1 w5 kk0 kk1 := by
  obtain rfl : k0 = kk0 := hq0
  obtain rfl : k1 = kk1 := funext fun x0 => funext fun x1 => hq1 x0 x1
  rfl
theorem ref19_ValidVisits_p21_congr {R : Type} (n : Nat) (a0 : Int) (a1 : List (List D)) (w5 : Int) {k0 kk0 : Option R} {k1 kk1 : Int → Bool → Option R} (hq0 : k0 = kk0) (hq1 : ∀ x0 x1, k1 x0 x1 = kk1 x0 x1) : ref19_ValidVisits_p21 n a0 a1 w5 k0 k1 = ref19_ValidVisits_p21 n a0 a1 w5 kk0 kk1 := by
  obtain rfl : k0 = kk0 := hq0
  obtain rfl : k1 = kk1 := funext fun x0 => funext fun x1 => hq1 x0 x1
  rfl
theorem ref19_ValidVisits_p22_congr {R : Type} (n : Nat) (a0 : Int) (a1 : List (List D)) (w3 : Bool) {k0 kk0 : Option R} {k1 kk1 : Int → Int → Bool → Option R} (hq0 : k0 = kk0) (hq1 : ∀ x0 x1 x2, k1 x0 x1 x2 = kk1 x0 x1 x2) : ref19_ValidVisits_p22 n a0 a1 w3 k0 k1 = ref19_ValidVisits_p22 n a0 a1 w3 kk0 kk1 := by
  obtain rfl : k0 = kk0 := hq0
  obtain rfl : k1 = kk1 := funext fun x0 => funext fun x1 => funext fun x2 => hq1 x0 x1 x2
  rfl
theorem ref19_ValidVisits_p23_congr {R : Type} (n : Nat) (a0 : Int) (a1 : List (List D)) (w194 : Int) (w195 : Int) (w196 : Bool) {k0 kk0 : Option R} (hq0 : k0 = kk0) : ref19_ValidVisits_p23 n a0 a1 w194 w195 w196 k0 = ref19_ValidVisits_p23 n a0 a1 w194 w195 w196 kk0 := by
  obtain rfl : k0 = kk0 := hq0
  rfl
theorem ref19_ValidVisits_p24_congr {R : Type} (n : Nat) (a0 : Int) (a1 : List (List D)) (w3 : Bool) {k0 kk0 : Bool → Option R} (hq0 : ∀ x0, k0 x0 = kk0 x0) : ref19_ValidVisits_p24 n a0 a1 w3 k0 = ref19_ValidVisits_p24 n a0 a1 w3 kk0 := by
  obtain rfl : k0 = kk0 := funext fun x0 => hq0 x0
  rfl
theorem ref19_ValidVisits_p25_congr {R : Type} (n : Nat) (a0 : Int) (a1 : List (List D)) {k0 kk0 : Bool → Option R} (hq0 : ∀ x0, k0 x0 = kk0 x0) : ref19_ValidVisits_p25 n a0 a1 k0 = ref19_ValidVisits_p25 n a0 a1 kk0 := by
  obtain rfl : k0 = kk0 := funext fun x0 => hq0 x0
  rfl
theorem ref19_ValidVisits_p26_congr {R : Type} (n : Nat) (a0 : Int) (a1 : List (List D)) {k0 kk0 : Bool → Option R} (hq0 : ∀ x0, k0 x0 = kk0 x0) : ref19_ValidVisits_p26 n a0 a1 k0 = ref19_ValidVisits_p26 n a0 a1 kk0 := by
  obtain rfl : k0 = kk0 := funext fun x0 => hq0 x0
  rfl
theorem ref19_ValidVisits_p1_eq {R : Type} (n : Nat) (a0 : Int) (a1 : List (List D)) (k : Exit → St → Option R) : vexec (ref19_ValidVisits_C n) n ref19_ValidVisits_c1 ⟨92, [(0, .d (D.int .i64 a0)), (1, .d (D.sl 3 a1))], []⟩ k = ref19_ValidVisits_p1 n a0 a1 (k .normal ⟨92, [(0, .d (D.int .i64 a0)), (1, .d (D.sl 3 a1))], []⟩) := by kernel_rfl
theorem ref19_ValidVisits_p2_eq {R : Type} (n : Nat) (a0 : Int) (a1 : List (List D)) (k : Exit → St → Option R) : vexec (ref19_ValidVisits_C n) n ref19_ValidVisits_c2 ⟨92, [(0, .d (D.int .i64 a0)), (1, .d (D.sl 3 a1))], []⟩ k = ref19_ValidVisits_p2 n a0 a1 (k .ret ⟨92, [(4, .d (D.bool false))], []⟩) (fun z2 => k .normal ⟨92, [(0, .d (D.int .i64 a0)), (1, .d (D.sl 3 a1)), (14, .d (D.bool z2))], []⟩) := by kernel_rfl
theorem ref19_ValidVisits_p3_eq {R : Type} (n : Nat) (a0 : Int) (a1 : List (List D)) (w3 : Bool) (k : Exit → St → Option R) : vexec (ref19_ValidVisits_C n) n ref19_ValidVisits_c3 ⟨92, [(0, .d (D.int .i64 a0)), (1, .d (D.sl 3 a1)), (14, .d (D.bool w3))], []⟩ k = ref19_ValidVisits_p3 n a0 a1 w3 (fun z4 => k .normal ⟨92, [(0, .d (D.int .i64 a0)), (1, .d (D.sl 3 a1)), (16, .d (D.int .i64 z4)), (17, .d (D.int .i64 (0 : Int)))], []⟩) := by kernel_rfl
theorem ref19_ValidVisits_p4_eq {R : Type} (n : Nat) (a0 : Int) (a1 : List (List D)) (w5 : Int) (h9 : Int) (k : Exit → St → Option R) : vexec (ref19_ValidVisits_C n) n ref19_ValidVisits_c4 ⟨92, [(0, .d (D.int .i64 a0)), (1, .d (D.sl 3 a1)), (16, .d (D.int .i64 w5)), (17, .d (D.int .i64 h9))], []⟩ k = ref19_ValidVisits_p4 n a0 a1 w5 h9 (fun z99 => k .normal ⟨92, [(0, .d (D.int .i64 a0)), (1, .d (D.sl 3 a1)), (16, .d (D.int .i64 w5)), (17, .d (D.int .i64 h9)), (18, .d (D.bool z99))], []⟩) := by kernel_rfl
theorem ref19_ValidVisits_p5_eq {R : Type} (n : Nat) (a0 : Int) (a1 : List (List D)) (w5 : Int) (h9 : Int) (w100 : Bool) (k : Exit → St → Option R) : vexec (ref19_ValidVisits_C n) n ref19_ValidVisits_c5 ⟨92, [(0, .d (D.int .i64 a0)), (1, .d (D.sl 3 a1)), (16, .d (D.int .i64 w5)), (17, .d (D.int .i64 h9)), (18, .d (D.bool w100))], []⟩ k = ref19_ValidVisits_p5 n a0 a1 w5 h9 w100 (k .normal ⟨92, [(0, .d (D.int .i64 a0)), (1, .d (D.sl 3 a1)), (16, .d (D.int .i64 w5)), (17, .d (D.int .i64 h9)), (18, .d (D.bool w100))], []⟩) (k (.exit 0) ⟨92, [(0, .d (D.int .i64 a0)), (1, .d (D.sl 3 a1)), (16, .d (D.int .i64 w5)), (17, .d (D.int .i64 h9)), (18, .d (D.bool w100))], []⟩) := by kernel_rfl
theorem ref19_ValidVisits_p6_eq {R : Type} (n : Nat) (a0 : Int) (a1 : List (List D)) (w5 : Int) (h9 : Int) (w100 : Bool) (k : Exit → St → Option R) : vexec (ref19_ValidVisits_C n) n ref19_ValidVisits_c6 ⟨92, [(0, .d (D.int .i64 a0)), (1, .d (D.sl 3 a1)), (16, .d (D.int .i64 w5)), (17, .d (D.int .i64 h9)), (18, .d (D.bool w100))], []⟩ k = ref19_ValidVisits_p6 n a0 a1 w5 h9 w100 (k .normal ⟨92, [(0, .d (D.int .i64 a0)), (1, .d (D.sl 3 a1)), (5, .d (D.int .i64 h9)), (16, .d (D.int .i64 w5)), (17, .d (D.int .i64 h9))], []⟩) := by kernel_rfl
theorem ref19_ValidVisits_p7_eq {R : Type} (n : Nat) (a0 : Int) (a1 : List (List D)) (h9 : Int) (w5 : Int) (k : Exit → St → Option R) : vexec (ref19_ValidVisits_C n) n ref19_ValidVisits_c7 ⟨92, [(0, .d (D.int .i64 a0)), (1, .d (D.sl 3 a1)), (5, .d (D.int .i64 h9)), (16, .d (D.int .i64 w5)), (17, .d (D.int .i64 h9))], []⟩ k = ref19_ValidVisits_p7 n a0 a1 h9 w5 (k .ret ⟨92, [(4, .d (D.bool false))], []⟩) (fun z112 => k .normal ⟨92, [(0, .d (D.int .i64 a0)), (1, .d (D.sl 3 a1)), (5, .d (D.int .i64 h9)), (16, .d (D.int .i64 w5)), (17, .d (D.int .i64 h9)), (47, .d (D.bool z112))], []⟩) := by kernel_rfl
theorem ref19_ValidVisits_p8_eq {R : Type} (n : Nat) (a0 : Int) (a1 : List (List D)) (h9 : Int) (w5 : Int) (w113 : Bool) (k : Exit → St → Option R) : vexec (ref19_ValidVisits_C n) n ref19_ValidVisits_c8 ⟨92, [(0, .d (D.int .i64 a0)), (1, .d (D.sl 3 a1)), (5, .d (D.int .i64 h9)), (16, .d (D.int .i64 w5)), (17, .d (D.int .i64 h9)), (47, .d (D.bool w113))], []⟩ k = ref19_ValidVisits_p8 n a0 a1 h9 w5 w113 (fun z117 => k .normal ⟨92, [(0, .d (D.int .i64 a0)), (1, .d (D.sl 3 a1)), (5, .d (D.int .i64 h9)), (16, .d (D.int .i64 w5)), (17, .d (D.int .i64 h9)), (53, .d (D.int .i64 z117)), (54, .d (D.int .i64 (0 : Int)))], []⟩) := by kernel_rfl
theorem ref19_ValidVisits_p9_eq {R : Type} (n : Nat) (a0 : Int) (a1 : List (List D)) (h9 : Int) (w5 : Int) (w118 : Int) (h125 : Int) (k : Exit → St → Option R) : vexec (ref19_ValidVisits_C n) n ref19_ValidVisits_c9 ⟨92, [(0, .d (D.int .i64 a0)), (1, .d (D.sl 3 a1)), (5, .d (D.int .i64 h9)), (16, .d (D.int .i64 w5)), (17, .d (D.int .i64 h9)), (53, .d (D.int .i64 w118)), (54, .d (D.int .i64 h125))], []⟩ k = ref19_ValidVisits_p9 n a0 a1 h9 w5 w118 h125 (k .ret ⟨92, [(4, .d (D.bool false))], []⟩) (fun z164 => k .normal ⟨92, [(0, .d (D.int .i64 a0)), (1, .d (D.sl 3 a1)), (5, .d (D.int .i64 h9)), (16, .d (D.int .i64 w5)), (17, .d (D.int .i64 h9)), (53, .d (D.int .i64 w118)), (54, .d (D.int .i64 z164))], []⟩) (fun z165 => k (.exit 2) ⟨92, [(0, .d (D.int .i64 a0)), (1, .d (D.sl 3 a1)), (5, .d (D.int .i64 h9)), (16, .d (D.int .i64 w5)), (17, .d (D.int .i64 h9)), (53, .d (D.int .i64 w118)), (54, .d (D.int .i64 h125)), (55, .d (D.bool z165))], []⟩) := by kernel_rfl
theorem ref19_ValidVisits_r10_eq {R : Type} (n : Nat) (a0 : Int) (a1 : List (List D)) (h9 : Int) (w5 : Int) (w118 : Int) (k : Exit → St → Option R) : ∀ (m : Nat) (h125 : Int), loopN (vexec (ref19_ValidVisits_C n) n ref19_ValidVisits_c9) m ⟨92, [(0, .d (D.int .i64 a0)), (1, .d (D.sl 3 a1)), (5, .d (D.int .i64 h9)), (16, .d (D.int .i64 w5)), (17, .d (D.int .i64 h9)), (53, .d (D.int .i64 w118)), (54, .d (D.int .i64 h125))], []⟩ k = ref19_ValidVisits_r10 n a0 a1 h9 w5 w118 (k .ret ⟨92, [(4, .d (D.bool false))], []⟩) (fun h125 w167 => k (.exit 2) ⟨92, [(0, .d (D.int .i64 a0)), (1, .d (D.sl 3 a1)), (5, .d (D.int .i64 h9)), (16, .d (D.int .i64 w5)), (17, .d (D.int .i64 h9)), (53, .d (D.int .i64 w118)), (54, .d (D.int .i64 h125)), (55, .d (D.bool w167))], []⟩) m h125
  | 0, _ => rfl
  | m + 1, h125 => (ref19_ValidVisits_p9_eq n a0 a1 h9 w5 w118 h125 (loopK (vexec (ref19_ValidVisits_C n) n ref19_ValidVisits_c9) m k)).trans (ref19_ValidVisits_p9_congr n a0 a1 h9 w5 w118 h125 (rfl) (fun w166 => ref19_ValidVisits_r10_eq n a0 a1 h9 w5 w118 k m w166) (fun w167 => rfl))
theorem ref19_ValidVisits_p10_eq {R : Type} (n : Nat) (a0 : Int) (a1 : List (List D)) (h9 : Int) (w5 : Int) (w118 : Int) (k : Exit → St → Option R) : vexec (ref19_ValidVisits_C n) n ref19_ValidVisits_c10 ⟨92, [(0, .d (D.int .i64 a0)), (1, .d (D.sl 3 a1)), (5, .d (D.int .i64 h9)), (16, .d (D.int .i64 w5)), (17, .d (D.int .i64 h9)), (53, .d (D.int .i64 w118)), (54, .d (D.int .i64 (0 : Int)))], []⟩ k = ref19_ValidVisits_p10 n a0 a1 h9 w5 w118 (k .ret ⟨92, [(4, .d (D.bool false))], []⟩) (fun h125 w167 => k (.exit 2) ⟨92, [(0, .d (D.int .i64 a0)), (1, .d (D.sl 3 a1)), (5, .d (D.int .i64 h9)), (16, .d (D.int .i64 w5)), (17, .d (D.int .i64 h9)), (53, .d (D.int .i64 w118)), (54, .d (D.int .i64 h125)), (55, .d (D.bool w167))], []⟩) := by
  rw [ref19_ValidVisits_c10_eq]
  exact ref19_ValidVisits_r10_eq n a0 a1 h9 w5 w118 k n (0 : Int)
theorem ref19_ValidVisits_p11_eq {R : Type} (n : Nat) (a0 : Int) (a1 : List (List D)) (h9 : Int) (w5 : Int) (w118 : Int) (k : Exit → St → Option R) : vexec (ref19_ValidVisits_C n) n ref19_ValidVisits_c11 ⟨92, [(0, .d (D.int .i64 a0)), (1, .d (D.sl 3 a1)), (5, .d (D.int .i64 h9)), (16, .d (D.int .i64 w5)), (17, .d (D.int .i64 h9)), (53, .d (D.int .i64 w118)), (54, .d (D.int .i64 (0 : Int)))], []⟩ k = ref19_ValidVisits_p11 n a0 a1 h9 w5 w118 (k .ret ⟨92, [(4, .d (D.bool false))], []⟩) (fun w168 w169 => k .normal ⟨92, [(0, .d (D.int .i64 a0)), (1, .d (D.sl 3 a1)), (5, .d (D.int .i64 h9)), (16, .d (D.int .i64 w5)), (17, .d (D.int .i64 h9)), (53, .d (D.int .i64 w118)), (54, .d (D.int .i64 w168)), (55, .d (D.bool w169))], []⟩) := by
  rw [ref19_ValidVisits_c11_eq]
  unfold ref19_ValidVisits_p11
  exact (ref19_ValidVisits_p10_eq n a0 a1 h9 w5 w118 (blockK 2 k)).trans (ref19_ValidVisits_p10_congr n a0 a1 h9 w5 w118 (rfl) (fun w168 w169 => rfl))
theorem ref19_ValidVisits_p12_eq {R : Type} (n : Nat) (a0 : Int) (a1 : List (List D)) (h9 : Int) (w5 : Int) (w113 : Bool) (k : Exit → St → Option R) : vexec (ref19_ValidVisits_C n) n ref19_ValidVisits_c12 ⟨92, [(0, .d (D.int .i64 a0)), (1, .d (D.sl 3 a1)), (5, .d (D.int .i64 h9)), (16, .d (D.int .i64 w5)), (17, .d (D.int .i64 h9)), (47, .d (D.bool w113))], []⟩ k = ref19_ValidVisits_p12 n a0 a1 h9 w5 w113 (k .ret ⟨92, [(4, .d (D.bool false))], []⟩) (fun w118 w170 w171 => k .normal ⟨92, [(0, .d (D.int .i64 a0)), (1, .d (D.sl 3 a1)), (5, .d (D.int .i64 h9)), (16, .d (D.int .i64 w5)), (17, .d (D.int .i64 h9)), (53, .d (D.int .i64 w118)), (54, .d (D.int .i64 w170)), (55, .d (D.bool w171))], []⟩) := by
  rw [ref19_ValidVisits_c12_eq]
  unfold ref19_ValidVisits_p12
  exact (ref19_ValidVisits_p8_eq n a0 a1 h9 w5 w113 (seqK (ref19_ValidVisits_C n) n ref19_ValidVisits_c11 k)).trans (ref19_ValidVisits_p8_congr n a0 a1 h9 w5 w113 (fun w118 => ref19_ValidVisits_p11_eq n a0 a1 h9 w5 w118 k))
theorem ref19_ValidVisits_p13_eq {R : Type} (n : Nat) (a0 : Int) (a1 : List (List D)) (h9 : Int) (w5 : Int) (k : Exit → St → Option R) : vexec (ref19_ValidVisits_C n) n ref19_ValidVisits_c13 ⟨92, [(0, .d (D.int .i64 a0)), (1, .d (D.sl 3 a1)), (5, .d (D.int .i64 h9)), (16, .d (D.int .i64 w5)), (17, .d (D.int .i64 h9))], []⟩ k = ref19_ValidVisits_p13 n a0 a1 h9 w5 (k .ret ⟨92, [(4, .d (D.bool false))], []⟩) (fun w172 w173 w174 => k .normal ⟨92, [(0, .d (D.int .i64 a0)), (1, .d (D.sl 3 a1)), (5, .d (D.int .i64 h9)), (16, .d (D.int .i64 w5)), (17, .d (D.int .i64 h9)), (53, .d (D.int .i64 w172)), (54, .d (D.int .i64 w173)), (55, .d (D.bool w174))], []⟩) := by
  rw [ref19_ValidVisits_c13_eq]
  unfold ref19_ValidVisits_p13
  exact (ref19_ValidVisits_p7_eq n a0 a1 h9 w5 (seqK (ref19_ValidVisits_C n) n ref19_ValidVisits_c12 k)).trans (ref19_ValidVisits_p7_congr n a0 a1 h9 w5 (rfl) (fun w113 => ref19_ValidVisits_p12_eq n a0 a1 h9 w5 w113 k))
theorem ref19_ValidVisits_p14_eq {R : Type} (n : Nat) (a0 : Int) (a1 : List (List D)) (w5 : Int) (h9 : Int) (w100 : Bool) (k : Exit → St → Option R) : vexec (ref19_ValidVisits_C n) n ref19_ValidVisits_c14 ⟨92, [(0, .d (D.int .i64 a0)), (1, .d (D.sl 3 a1)), (16, .d (D.int .i64 w5)), (17, .d (D.int .i64 h9)), (18, .d (D.bool w100))], []⟩ k = ref19_ValidVisits_p14 n a0 a1 w5 h9 w100 (k .ret ⟨92, [(4, .d (D.bool false))], []⟩) (fun w175 w176 w177 => k .normal ⟨92, [(0, .d (D.int .i64 a0)), (1, .d (D.sl 3 a1)), (5, .d (D.int .i64 h9)), (16, .d (D.int .i64 w5)), (17, .d (D.int .i64 h9)), (53, .d (D.int .i64 w175)), (54, .d (D.int .i64 w176)), (55, .d (D.bool w177))], []⟩) := by
  rw [ref19_ValidVisits_c14_eq]
  unfold ref19_ValidVisits_p14
  exact (ref19_ValidVisits_p6_eq n a0 a1 w5 h9 w100 (seqK (ref19_ValidVisits_C n) n ref19_ValidVisits_c13 k)).trans (ref19_ValidVisits_p6_congr n a0 a1 w5 h9 w100 (ref19_ValidVisits_p13_eq n a0 a1 h9 w5 k))
theorem ref19_ValidVisits_p15_eq {R : Type} (n : Nat) (a0 : Int) (a1 : List (List D)) (w5 : Int) (h9 : Int) (w100 : Bool) (k : Exit → St → Option R) : vexec (ref19_ValidVisits_C n) n ref19_ValidVisits_c15 ⟨92, [(0, .d (D.int .i64 a0)), (1, .d (D.sl 3 a1)), (16, .d (D.int .i64 w5)), (17, .d (D.int .i64 h9)), (18, .d (D.bool w100))], []⟩ k = ref19_ValidVisits_p15 n a0 a1 w5 h9 w100 (k .ret ⟨92, [(4, .d (D.bool false))], []⟩) (fun w178 w179 w180 => k .normal ⟨92, [(0, .d (D.int .i64 a0)), (1, .d (D.sl 3 a1)), (5, .d (D.int .i64 h9)), (16, .d (D.int .i64 w5)), (17, .d (D.int .i64 h9)), (53, .d (D.int .i64 w178)), (54, .d (D.int .i64 w179)), (55, .d (D.bool w180))], []⟩) := by
  rw [ref19_ValidVisits_c15_eq]
  unfold ref19_ValidVisits_p15
  exact (ref19_ValidVisits_p14_eq n a0 a1 w5 h9 w100 (blockK 1 k)).trans (ref19_ValidVisits_p14_congr n a0 a1 w5 h9 w100 (rfl) (fun w178 w179 w180 => rfl))
theorem ref19_ValidVisits_p16_eq {R : Type} (n : Nat) (a0 : Int) (a1 : List (List D)) (h9 : Int) (w5 : Int) (w181 : Int) (w182 : Int) (w183 : Bool) (k : Exit → St → Option R) : vexec (ref19_ValidVisits_C n) n ref19_ValidVisits_c16 ⟨92, [(0, .d (D.int .i64 a0)), (1, .d (D.sl 3 a1)), (5, .d (D.int .i64 h9)), (16, .d (D.int .i64 w5)), (17, .d (D.int .i64 h9)), (53, .d (D.int .i64 w181)), (54, .d (D.int .i64 w182)), (55, .d (D.bool w183))], []⟩ k = ref19_ValidVisits_p16 n a0 a1 h9 w5 w181 w182 w183 (fun z184 => k .normal ⟨92, [(0, .d (D.int .i64 a0)), (1, .d (D.sl 3 a1)), (16, .d (D.int .i64 w5)), (17, .d (D.int .i64 z184))], []⟩) := by kernel_rfl
theorem ref19_ValidVisits_p17_eq {R : Type} (n : Nat) (a0 : Int) (a1 : List (List D)) (w5 : Int) (h9 : Int) (w100 : Bool) (k : Exit → St → Option R) : vexec (ref19_ValidVisits_C n) n ref19_ValidVisits_c17 ⟨92, [(0, .d (D.int .i64 a0)), (1, .d (D.sl 3 a1)), (16, .d (D.int .i64 w5)), (17, .d (D.int .i64 h9)), (18, .d (D.bool w100))], []⟩ k = ref19_ValidVisits_p17 n a0 a1 w5 h9 w100 (k .ret ⟨92, [(4, .d (D.bool false))], []⟩) (fun w185 => k .normal ⟨92, [(0, .d (D.int .i64 a0)), (1, .d (D.sl 3 a1)), (16, .d (D.int .i64 w5)), (17, .d (D.int .i64 w185))], []⟩) := by
  rw [ref19_ValidVisits_c17_eq]
  unfold ref19_ValidVisits_p17
  exact (ref19_ValidVisits_p15_eq n a0 a1 w5 h9 w100 (seqK (ref19_ValidVisits_C n) n ref19_ValidVisits_c16 k)).trans (ref19_ValidVisits_p15_congr n a0 a1 w5 h9 w100 (rfl) (fun w181 w182 w183 => ref19_ValidVisits_p16_eq n a0 a1 h9 w5 w181 w182 w183 k))
theorem ref19_ValidVisits_p18_eq {R : Type} (n : Nat) (a0 : Int) (a1 : List (List D)) (w5 : Int) (h9 : Int) (w100 : Bool) (k : Exit → St → Option R) : vexec (ref19_ValidVisits_C n) n ref19_ValidVisits_c18 ⟨92, [(0, .d (D.int .i64 a0)), (1, .d (D.sl 3 a1)), (16, .d (D.int .i64 w5)), (17, .d (D.int .i64 h9)), (18, .d (D.bool w100))], []⟩ k = ref19_ValidVisits_p18 n a0 a1 w5 h9 w100 (k .ret ⟨92, [(4, .d (D.bool false))], []⟩) (fun w186 => k .normal ⟨92, [(0, .d (D.int .i64 a0)), (1, .d (D.sl 3 a1)), (16, .d (D.int .i64 w5)), (17, .d (D.int .i64 w186))], []⟩) (k (.exit 0) ⟨92, [(0, .d (D.int .i64 a0)), (1, .d (D.sl 3 a1)), (16, .d (D.int .i64 w5)), (17, .d (D.int .i64 h9)), (18, .d (D.bool w100))], []⟩) := by
  rw [ref19_ValidVisits_c18_eq]
  unfold ref19_ValidVisits_p18
  exact (ref19_ValidVisits_p5_eq n a0 a1 w5 h9 w100 (seqK (ref19_ValidVisits_C n) n ref19_ValidVisits_c17 k)).trans (ref19_ValidVisits_p5_congr n a0 a1 w5 h9 w100 (ref19_ValidVisits_p17_eq n a0 a1 w5 h9 w100 k) (rfl))
theorem ref19_ValidVisits_p19_eq {R : Type} (n : Nat) (a0 : Int) (a1 : List (List D)) (w5 : Int) (h9 : Int) (k : Exit → St → Option R) : vexec (ref19_ValidVisits_C n) n ref19_ValidVisits_c19 ⟨92, [(0, .d (D.int .i64 a0)), (1, .d (D.sl 3 a1)), (16, .d (D.int .i64 w5)), (17, .d (D.int .i64 h9))], []⟩ k = ref19_ValidVisits_p19 n a0 a1 w5 h9 (k .ret ⟨92, [(4, .d (D.bool false))], []⟩) (fun w187 => k .normal ⟨92, [(0, .d (D.int .i64 a0)), (1, .d (D.sl 3 a1)), (16, .d (D.int .i64 w5)), (17, .d (D.int .i64 w187))], []⟩) (fun w100 => k (.exit 0) ⟨92, [(0, .d (D.int .i64 a0)), (1, .d (D.sl 3 a1)), (16, .d (D.int .i64 w5)), (17, .d (D.int .i64 h9)), (18, .d (D.bool w100))], []⟩) := by
  rw [ref19_ValidVisits_c19_eq]
  unfold ref19_ValidVisits_p19
  exact (ref19_ValidVisits_p4_eq n a0 a1 w5 h9 (seqK (ref19_ValidVisits_C n) n ref19_ValidVisits_c18 k)).trans (ref19_ValidVisits_p4_congr n a0 a1 w5 h9 (fun w100 => ref19_ValidVisits_p18_eq n a0 a1 w5 h9 w100 k))
theorem ref19_ValidVisits_r20_eq {R : Type} (n : Nat) (a0 : Int) (a1 : List (List D)) (w5 : Int) (k : Exit → St → Option R) : ∀ (m : Nat) (h9 : Int), loopN (vexec (ref19_ValidVisits_C n) n ref19_ValidVisits_c19) m ⟨92, [(0, .d (D.int .i64 a0)), (1, .d (D.sl 3 a1)), (16, .d (D.int .i64 w5)), (17, .d (D.int .i64 h9))], []⟩ k = ref19_ValidVisits_r20 n a0 a1 w5 (k .ret ⟨92, [(4, .d (D.bool false))], []⟩) (fun h9 w189 => k (.exit 0) ⟨92, [(0, .d (D.int .i64 a0)), (1, .d (D.sl 3 a1)), (16, .d (D.int .i64 w5)), (17, .d (D.int .i64 h9)), (18, .d (D.bool w189))], []⟩) m h9
  | 0, _ => rfl
  | m + 1, h9 => (ref19_ValidVisits_p19_eq n a0 a1 w5 h9 (loopK (vexec (ref19_ValidVisits_C n) n ref19_ValidVisits_c19) m k)).trans (ref19_ValidVisits_p19_congr n a0 a1 w5 h9 (rfl) (fun w188 => ref19_ValidVisits_r20_eq n a0 a1 w5 k m w188) (fun w189 => rfl))
theorem ref19_ValidVisits_p20_eq {R : Type} (n : Nat) (a0 : Int) (a1 : List (List D)) (w5 : Int) (k : Exit → St → Option R) : vexec (ref19_ValidVisits_C n) n ref19_ValidVisits_c20 ⟨92, [(0, .d (D.int .i64 a0)), (1, .d (D.sl 3 a1)), (16, .d (D.int .i64 w5)), (17, .d (D.int .i64 (0 : Int)))], []⟩ k = ref19_ValidVisits_p20 n a0 a1 w5 (k .ret ⟨92, [(4, .d (D.bool false))], []⟩) (fun h9 w189 => k (.exit 0) ⟨92, [(0, .d (D.int .i64 a0)), (1, .d (D.sl 3 a1)), (16, .d (D.int .i64 w5)), (17, .d (D.int .i64 h9)), (18, .d (D.bool w189))], []⟩) := by
  rw [ref19_ValidVisits_c20_eq]
  exact ref19_ValidVisits_r20_eq n a0 a1 w5 k n (0 : Int)
theorem ref19_ValidVisits_p21_eq {R : Type} (n : Nat) (a0 : Int) (a1 : List (List D)) (w5 : Int) (k : Exit → St → Option R) : vexec (ref19_ValidVisits_C n) n ref19_ValidVisits_c21 ⟨92, [(0, .d (D.int .i64 a0)), (1, .d (D.sl 3 a1)), (16, .d (D.int .i64 w5)), (17, .d (D.int .i64 (0 : Int)))], []⟩ k = ref19_ValidVisits_p21 n a0 a1 w5 (k .ret ⟨92, [(4, .d (D.bool false))], []⟩) (fun w190 w191 => k .normal ⟨92, [(0, .d (D.int .i64 a0)), (1, .d (D.sl 3 a1)), (16, .d (D.int .i64 w5)), (17, .d (D.int .i64 w190)), (18, .d (D.bool w191))], []⟩) := by
  rw [ref19_ValidVisits_c21_eq]
  unfold ref19_ValidVisits_p21
  exact (ref19_ValidVisits_p20_eq n a0 a1 w5 (blockK 0 k)).trans (ref19_ValidVisits_p20_congr n a0 a1 w5 (rfl) (fun w190 w191 => rfl))
theorem ref19_ValidVisits_p22_eq {R : Type} (n : Nat) (a0 : Int) (a1 : List (List D)) (w3 : Bool) (k : Exit → St → Option R) : vexec (ref19_ValidVisits_C n) n ref19_ValidVisits_c22 ⟨92, [(0, .d (D.int .i64 a0)), (1, .d (D.sl 3 a1)), (14, .d (D.bool w3))], []⟩ k = ref19_ValidVisits_p22 n a0 a1 w3 (k .ret ⟨92, [(4, .d (D.bool false))], []⟩) (fun w5 w192 w193 => k .normal ⟨92, [(0, .d (D.int .i64 a0)), (1, .d (D.sl 3 a1)), (16, .d (D.int .i64 w5)), (17, .d (D.int .i64 w192)), (18, .d (D.bool w193))], []⟩) := by
  rw [ref19_ValidVisits_c22_eq]
  unfold ref19_ValidVisits_p22
  exact (ref19_ValidVisits_p3_eq n a0 a1 w3 (seqK (ref19_ValidVisits_C n) n ref19_ValidVisits_c21 k)).trans (ref19_ValidVisits_p3_congr n a0 a1 w3 (fun w5 => ref19_ValidVisits_p21_eq n a0 a1 w5 k))
theorem ref19_ValidVisits_p23_eq {R : Type} (n : Nat) (a0 : Int) (a1 : List (List D)) (w194 : Int) (w195 : Int) (w196 : Bool) (k : Exit → St → Option R) : vexec (ref19_ValidVisits_C n) n ref19_ValidVisits_c23 ⟨92, [(0, .d (D.int .i64 a0)), (1, .d (D.sl 3 a1)), (16, .d (D.int .i64 w194)), (17, .d (D.int .i64 w195)), (18, .d (D.bool w196))], []⟩ k = ref19_ValidVisits_p23 n a0 a1 w194 w195 w196 (k .ret ⟨92, [(4, .d (D.bool true))], []⟩) := by kernel_rfl
theorem ref19_ValidVisits_p24_eq {R : Type} (n : Nat) (a0 : Int) (a1 : List (List D)) (w3 : Bool) (k : Exit → St → Option R) : vexec (ref19_ValidVisits_C n) n ref19_ValidVisits_c24 ⟨92, [(0, .d (D.int .i64 a0)), (1, .d (D.sl 3 a1)), (14, .d (D.bool w3))], []⟩ k = ref19_ValidVisits_p24 n a0 a1 w3 (fun z197 => k .ret ⟨92, [(4, .d (D.bool z197))], []⟩) := by
  rw [ref19_ValidVisits_c24_eq]
  unfold ref19_ValidVisits_p24
  exact (ref19_ValidVisits_p22_eq n a0 a1 w3 (seqK (ref19_ValidVisits_C n) n ref19_ValidVisits_c23 k)).trans (ref19_ValidVisits_p22_congr n a0 a1 w3 (rfl) (fun w194 w195 w196 => ref19_ValidVisits_p23_eq n a0 a1 w194 w195 w196 k))
theorem ref19_ValidVisits_p25_eq {R : Type} (n : Nat) (a0 : Int) (a1 : List (List D)) (k : Exit → St → Option R) : vexec (ref19_ValidVisits_C n) n ref19_ValidVisits_c25 ⟨92, [(0, .d (D.int .i64 a0)), (1, .d (D.sl 3 a1))], []⟩ k = ref19_ValidVisits_p25 n a0 a1 (fun z199 => k .ret ⟨92, [(4, .d (D.bool z199))], []⟩) := by
  rw [ref19_ValidVisits_c25_eq]
  unfold ref19_ValidVisits_p25
  exact (ref19_ValidVisits_p2_eq n a0 a1 (seqK (ref19_ValidVisits_C n) n ref19_ValidVisits_c24 k)).trans (ref19_ValidVisits_p2_congr n a0 a1 (rfl) (fun w3 => ref19_ValidVisits_p24_eq n a0 a1 w3 k))
theorem ref19_ValidVisits_p26_eq {R : Type} (n : Nat) (a0 : Int) (a1 : List (List D)) (k : Exit → St → Option R) : vexec (ref19_ValidVisits_C n) n ref19_ValidVisits_c0 ⟨92, [(0, .d (D.int .i64 a0)), (1, .d (D.sl 3 a1))], []⟩ k = ref19_ValidVisits_p26 n a0 a1 (fun w200 => k .ret ⟨92, [(4, .d (D.bool w200))], []⟩) := by
  rw [ref19_ValidVisits_c0_eq]
  unfold ref19_ValidVisits_p26
  exact (ref19_ValidVisits_p1_eq n a0 a1 (seqK (ref19_ValidVisits_C n) n ref19_ValidVisits_c25 k)).trans (ref19_ValidVisits_p1_congr n a0 a1 (ref19_ValidVisits_p25_eq n a0 a1 k))
theorem ref19_ValidVisits_vfn {R : Type} (n : Nat) (a0 : Int) (a1 : List (List D)) (K : AV → Option R) : vfn (ref19_ValidVisits_C n) n Try.f33 [.d (D.int .i64 a0), .d (D.sl 3 a1)] [] (retF [[0]] K) = ref19_ValidVisits n a0 a1 (fun r0 => K (.d (D.bool r0))) :=
  (show vfn (ref19_ValidVisits_C n) n Try.f33 [.d (D.int .i64 a0), .d (D.sl 3 a1)] [] (retF [[0]] K) = vexec (ref19_ValidVisits_C n) n ref19_ValidVisits_c0 ⟨92, [(0, .d (D.int .i64 a0)), (1, .d (D.sl 3 a1))], []⟩ (retX ref19_ValidVisits_tt [.tmp 4] (retF [[0]] K)) from vfn_at (by kernel_rfl) (by kernel_rfl) rfl (by kernel_rfl) rfl (by kernel_rfl) rfl).trans ((ref19_ValidVisits_p26_eq n a0 a1 (retX ref19_ValidVisits_tt [.tmp 4] (retF [[0]] K))).trans (by kernel_rfl))
def ref19_ValidVisits_K : AV → Option (Bool) := fun av => match av with
  | .d (D.bool r0) => some r0
  | _ => none
def ref19_ValidVisits_e (n : Nat) : Entry := fun _ _ g avs _ k => match avs with
  | [c0, c1] => prI g .i64 c0 fun a0 => prS g 3 c1 fun a1 => 
    gb g (ref19_ValidVisits n a0 a1 some) false fun r => k ⟨.d (D.bool r), [], []⟩
  | _ => none
theorem ref19_ValidVisits_ok (n : Nat) : EntryOK Try.prog 33 (ref19_ValidVisits_e n) := by
  intro R site g avs hl k r h
  unfold ref19_ValidVisits_e at h
  split at h
  rotate_left
  · cases h
  replace h := prI_some h
  obtain ⟨a0, h, le0⟩ := h
  replace h := prS_some h
  obtain ⟨a1, h, le1⟩ := h
  replace h := gb_some h
  obtain ⟨res, h, hr⟩ := h
  refine ⟨_, h, fun hg => CallOK.conv (avs' := [.d (D.int .i64 a0), .d (D.sl 3 a1)]) (.cons (le0 hg) (.cons (le1 hg) (.nil))) (callOK_fix (K := ref19_ValidVisits_K) (res := res) (ref19_ValidVisits_VC n) (fn := Try.f33) (n := n) (by kernel_rfl) (by kernel_rfl) (by kernel_rfl) (ss := [[0]]) rfl ?_ ?_)⟩
  · exact (ref19_ValidVisits_vfn n a0 a1 ref19_ValidVisits_K).trans (hr hg)
  · intro x hx
    unfold ref19_ValidVisits_K at hx
    split at hx
    · injection hx with hx; subst hx; rfl
    · cases hx
end Go.Vx
/-
  ref19_member: the interpreter computes the pure function
-/
set_option linter.unusedVariables false
set_option linter.unusedSimpArgs false
set_option maxRecDepth 100000
namespace Go.Vx
open Go.Proofs
noncomputable def ref19_member_c0 : Code := bodyOf Try.f34
noncomputable def ref19_member_c1 : Code := cL (bodyOf Try.f34)
noncomputable def ref19_member_c2 : Code := cL (cL (cR (bodyOf Try.f34)))
noncomputable def ref19_member_c3 : Code := cB (cB (cR (cL (cR (bodyOf Try.f34)))))
noncomputable def ref19_member_c4 : Code := cB (cR (cL (cR (bodyOf Try.f34))))
noncomputable def ref19_member_c5 : Code := cR (cL (cR (bodyOf Try.f34)))
noncomputable def ref19_member_c6 : Code := cL (cR (bodyOf Try.f34))
noncomputable def ref19_member_c7 : Code := cR (cR (bodyOf Try.f34))
noncomputable def ref19_member_c8 : Code := cR (bodyOf Try.f34)
theorem ref19_member_c4_eq : ref19_member_c4 = .loop ref19_member_c3 := by kernel_rfl
theorem ref19_member_c5_eq : ref19_member_c5 = .block 0 ref19_member_c4 := by kernel_rfl
theorem ref19_member_c6_eq : ref19_member_c6 = .seq ref19_member_c2 ref19_member_c5 := by kernel_rfl
theorem ref19_member_c8_eq : ref19_member_c8 = .seq ref19_member_c6 ref19_member_c7 := by kernel_rfl
theorem ref19_member_c0_eq : ref19_member_c0 = .seq ref19_member_c1 ref19_member_c8 := by kernel_rfl
def ref19_member_tt : TT := [(3, ⟨.int .i64, 1, 8, [.int .i64 0], [.int .i64 0], [], none⟩), (22, ⟨.sl 3 1, 1, 24, [.slice none 0 0], [.sl 1 []], [], none⟩)]
theorem ref19_member_tt_eq : mkTT Try.prog [3, 22] = ref19_member_tt := by kernel_rfl
def ref19_member_cfg : List (Nat × Cfg) := [(0, ⟨[0, 1], [], [], [], []⟩), (1, ⟨[0, 1, 7, 8], [], [], [], []⟩), (2, ⟨[0, 1, 7, 8, 9], [], [], [], []⟩), (3, ⟨[0, 1, 5, 7, 8], [], [], [], []⟩), (4, ⟨[0, 1, 7, 8, 16], [], [], [], []⟩), (5, ⟨[4], [], [], [], []⟩), (6, ⟨[0, 1, 7, 8], [], [], [], []⟩), (7, ⟨[4], [], [], [], []⟩)]
def ref19_member_C (n : Nat) : VC := ⟨specOf [], ref19_member_tt, ref19_member_cfg⟩
theorem ref19_member_ents (n : Nat) : EntsOK Try.prog [] := trivial
theorem ref19_member_VC (n : Nat) : VCOk Try.prog (ref19_member_C n) := ⟨specOf_ok (ref19_member_ents n), (ref19_member_tt_eq ▸ mkTT_ok _ : TOk Try.prog ref19_member_tt), by kernel_rfl⟩
theorem ref19_member_p1_congr {R : Type} (n : Nat) (a0 : List (List D)) (a1 : Int) {k0 kk0 : Option R} (hq0 : k0 = kk0) : ref19_member_p1 n a0 a1 k0 = ref19_member_p1 n a0 a1 kk0 := by
  obtain rfl : k0 = kk0 := hq0
  rfl
theorem ref19_member_p2_congr {R : Type} (n : Nat) (a0 : List (List D)) (a1 : Int) {k0 kk0 : Int → Option R} (hq0 : ∀ x0, k0 x0 = kk0 x0) : ref19_member_p2 n a0 a1 k0 = ref19_member_p2 n a0 a1 kk0 := by
  obtain rfl : k0 = kk0 := funext fun x0 => hq0 x0
  rfl
theorem ref19_member_p3_congr {R : Type} (n : Nat) (a0 : List (List D)) (a1 : Int) (w2 : Int) (h6 : Int) {k0 kk0 : Option R} {k1 kk1 : Int → Option R} {k2 kk2 : Bool → Option R} (hq0 : k0 = kk0) (hq1 : ∀ x0, k1 x0 = kk1 x0) (hq2 : ∀ x0, k2 x0 = kk2 x0) : ref19_member_p3 n a0 a1 w2 h6 k0 k1 k2 = ref19_member_p3 n a0 a1 w2 h6 kk0 kk1 kk2 := by
  obtain rfl : k0 = kk0 := hq0
  obtain rfl : k1 = kk1 := funext fun x0 => hq1 x0
  obtain rfl : k2 = kk2 := funext fun x0 => hq2 x0
  rfl
theorem ref19_member_p4_congr {R : Type} (n : Nat) (a0 : List (List D)) (a1 : Int) (w2 : Int) {k0 kk0 : Option R} {k1 kk1 : Int → Bool → Option R} (hq0 : k0 = kk0) (hq1 : ∀ x0 x1, k1 x0 x1 = kk1 x0 x1) : ref19_member_p4 n a0 a1 w2 k0 k1 = ref19_member_p4 n a0 a1 w2 kk0 kk1 := by
  obtain rfl : k0 = kk0 := hq0
  obtain rfl : k1 = kk1 := funext fun x0 => funext fun x1 => hq1 x0 x1
  rfl
theorem ref19_member_p5_congr {R : Type} (n : Nat) (a0 : List (List D)) (a1 : Int) (w2 : Int) {k0 kk0 : Option R} {k1 kk1 : Int → Bool → Option R} (hq0 : k0 = kk0) (hq1 : ∀ x0 x1, k1 x0 x1 = kk1 x0 x1) : ref19_member_p5 n a0 a1 w2 k0 k1 = ref19_member_p5 n a0 a1 w2 kk0 kk1 := by
  obtain rfl : k0 = kk0 := hq0
  obtain rfl : k1 = kk1 := funext fun x0 => funext fun x1 => hq1 x0 x1
  rfl
theorem ref19_member_p6_congr {R : Type} (n : Nat) (a0 : List (List D)) (a1 : Int) {k0 kk0 : Option R} {k1 kk1 : Int → Int → Bool → Option R} (hq0 : k0 = kk0) (hq1 : ∀ x0 x1 x2, k1 x0 x1 x2 = kk1 x0 x1 x2) : ref19_member_p6 n a0 a1 k0 k1 = ref19_member_p6 n a0 a1 kk0 kk1 := by
  obtain rfl : k0 = kk0 := hq0
  obtain rfl : k1 = kk1 := funext fun x0 => funext fun x1 => funext fun x2 => hq1 x0 x1 x2
  rfl
theorem ref19_member_p7_congr {R : Type} (n : Nat) (a0 : List (List D)) (a1 : Int) (w23 : Int) (w24 : Int) (w25 : Bool) {k0 kk0 : Option R} (hq0 : k0 = kk0) : ref19_member_p7 n a0 a1 w23 w24 w25 k0 = ref19_member_p7 n a0 a1 w23 w24 w25 kk0 := by
  obtain rfl : k0 = kk0 := hq0
  rfl
theorem ref19_member_p8_congr {R : Type} (n : Nat) (a0 : List (List D)) (a1 : Int) {k0 kk0 : Bool → Option R} (hq0 : ∀ x0, k0 x0 = kk0 x0) : ref19_member_p8 n a0 a1 k0 = ref19_member_p8 n a0 a1 kk0 := by
  obtain rfl : k0 = kk0 := funext fun x0 => hq0 x0
  rfl
theorem ref19_member_p9_congr {R : Type} (n : Nat) (a0 : List (List D)) (a1 : Int) {k0 kk0 : Bool → Option R} (hq0 : ∀ x0, k0 x0 = kk0 x0) : ref19_member_p9 n a0 a1 k0 = ref19_member_p9 n a0 a1 kk0 := by
  obtain rfl : k0 = kk0 := funext fun x0 => hq0 x0
  rfl
theorem ref19_member_p1_eq {R : Type} (n : Nat) (a0 : List (List D)) (a1 : Int) (k : Exit → St → Option R) : vexec (ref19_member_C n) n ref19_member_c1 ⟨18, [(0, .d (D.sl 1 a0)), (1, .d (D.int .i64 a1))], []⟩ k = ref19_member_p1 n a0 a1 (k .normal ⟨18, [(0, .d (D.sl 1 a0)), (1, .d (D.int .i64 a1))], []⟩) := by kernel_rfl
theorem ref19_member_p2_eq {R : Type} (n : Nat) (a0 : List (List D)) (a1 : Int) (k : Exit → St → Option R) : vexec (ref19_member_C n) n ref19_member_c2 ⟨18, [(0, .d (D.sl 1 a0)), (1, .d (D.int .i64 a1))], []⟩ k = ref19_member_p2 n a0 a1 (fun z1 => k .normal ⟨18, [(0, .d (D.sl 1 a0)), (1, .d (D.int .i64 a1)), (7, .d (D.int .i64 z1)), (8, .d (D.int .i64 (0 : Int)))], []⟩) := by kernel_rfl
theorem ref19_member_p3_eq {R : Type} (n : Nat) (a0 : List (List D)) (a1 : Int) (w2 : Int) (h6 : Int) (k : Exit → St → Option R) : vexec (ref19_member_C n) n ref19_member_c3 ⟨18, [(0, .d (D.sl 1 a0)), (1, .d (D.int .i64 a1)), (7, .d (D.int .i64 w2)), (8, .d (D.int .i64 h6))], []⟩ k = ref19_member_p3 n a0 a1 w2 h6 (k .ret ⟨18, [(4, .d (D.bool true))], []⟩) (fun z15 => k .normal ⟨18, [(0, .d (D.sl 1 a0)), (1, .d (D.int .i64 a1)), (7, .d (D.int .i64 w2)), (8, .d (D.int .i64 z15))], []⟩) (fun z16 => k (.exit 0) ⟨18, [(0, .d (D.sl 1 a0)), (1, .d (D.int .i64 a1)), (7, .d (D.int .i64 w2)), (8, .d (D.int .i64 h6)), (9, .d (D.bool z16))], []⟩) := by kernel_rfl
theorem ref19_member_r4_eq {R : Type} (n : Nat) (a0 : List (List D)) (a1 : Int) (w2 : Int) (k : Exit → St → Option R) : ∀ (m : Nat) (h6 : Int), loopN (vexec (ref19_member_C n) n ref19_member_c3) m ⟨18, [(0, .d (D.sl 1 a0)), (1, .d (D.int .i64 a1)), (7, .d (D.int .i64 w2)), (8, .d (D.int .i64 h6))], []⟩ k = ref19_member_r4 n a0 a1 w2 (k .ret ⟨18, [(4, .d (D.bool true))], []⟩) (fun h6 w18 => k (.exit 0) ⟨18, [(0, .d (D.sl 1 a0)), (1, .d (D.int .i64 a1)), (7, .d (D.int .i64 w2)), (8, .d (D.int .i64 h6)), (9, .d (D.bool w18))], []⟩) m h6
  | 0, _ => rfl
  | m + 1, h6 => (ref19_member_p3_eq n a0 a1 w2 h6 (loopK (vexec (ref19_member_C n) n ref19_member_c3) m k)).trans (ref19_member_p3_congr n a0 a1 w2 h6 (rfl) (fun w17 => ref19_member_r4_eq n a0 a1 w2 k m w17) (fun w18 => rfl))
theorem ref19_member_p4_eq {R : Type} (n : Nat) (a0 : List (List D)) (a1 : Int) (w2 : Int) (k : Exit → St → Option R) : vexec (ref19_member_C n) n ref19_member_c4 ⟨18, [(0, .d (D.sl 1 a0)), (1, .d (D.int .i64 a1)), (7, .d (D.int .i64 w2)), (8, .d (D.int .i64 (0 : Int)))], []⟩ k = ref19_member_p4 n a0 a1 w2 (k .ret ⟨18, [(4, .d (D.bool true))], []⟩) (fun h6 w18 => k (.exit 0) ⟨18, [(0, .d (D.sl 1 a0)), (1, .d (D.int .i64 a1)), (7, .d (D.int .i64 w2)), (8, .d (D.int .i64 h6)), (9, .d (D.bool w18))], []⟩) := by
  rw [ref19_member_c4_eq]
  exact ref19_member_r4_eq n a0 a1 w2 k n (0 : Int)
theorem ref19_member_p5_eq {R : Type} (n : Nat) (a0 : List (List D)) (a1 : Int) (w2 : Int) (k : Exit → St → Option R) : vexec (ref19_member_C n) n ref19_member_c5 ⟨18, [(0, .d (D.sl 1 a0)), (1, .d (D.int .i64 a1)), (7, .d (D.int .i64 w2)), (8, .d (D.int .i64 (0 : Int)))], []⟩ k = ref19_member_p5 n a0 a1 w2 (k .ret ⟨18, [(4, .d (D.bool true))], []⟩) (fun w19 w20 => k .normal ⟨18, [(0, .d (D.sl 1 a0)), (1, .d (D.int .i64 a1)), (7, .d (D.int .i64 w2)), (8, .d (D.int .i64 w19)), (9, .d (D.bool w20))], []⟩) := by
  rw [ref19_member_c5_eq]
  unfold ref19_member_p5
  exact (ref19_member_p4_eq n a0 a1 w2 (blockK 0 k)).trans (ref19_member_p4_congr n a0 a1 w2 (rfl) (fun w19 w20 => rfl))
theorem ref19_member_p6_eq {R : Type} (n : Nat) (a0 : List (List D)) (a1 : Int) (k : Exit → St → Option R) : vexec (ref19_member_C n) n ref19_member_c6 ⟨18, [(0, .d (D.sl 1 a0)), (1, .d (D.int .i64 a1))], []⟩ k = ref19_member_p6 n a0 a1 (k .ret ⟨18, [(4, .d (D.bool true))], []⟩) (fun w2 w21 w22 => k .normal ⟨18, [(0, .d (D.sl 1 a0)), (1, .d (D.int .i64 a1)), (7, .d (D.int .i64 w2)), (8, .d (D.int .i64 w21)), (9, .d (D.bool w22))], []⟩) := by
  rw [ref19_member_c6_eq]
  unfold ref19_member_p6
  exact (ref19_member_p2_eq n a0 a1 (seqK (ref19_member_C n) n ref19_member_c5 k)).trans (ref19_member_p2_congr n a0 a1 (fun w2 => ref19_member_p5_eq n a0 a1 w2 k))
theorem ref19_member_p7_eq {R : Type} (n : Nat) (a0 : List (List D)) (a1 : Int) (w23 : Int) (w24 : Int) (w25 : Bool) (k : Exit → St → Option R) : vexec (ref19_member_C n) n ref19_member_c7 ⟨18, [(0, .d (D.sl 1 a0)), (1, .d (D.int .i64 a1)), (7, .d (D.int .i64 w23)), (8, .d (D.int .i64 w24)), (9, .d (D.bool w25))], []⟩ k = ref19_member_p7 n a0 a1 w23 w24 w25 (k .ret ⟨18, [(4, .d (D.bool false))], []⟩) := by kernel_rfl
theorem ref19_member_p8_eq {R : Type} (n : Nat) (a0 : List (List D)) (a1 : Int) (k : Exit → St → Option R) : vexec (ref19_member_C n) n ref19_member_c8 ⟨18, [(0, .d (D.sl 1 a0)), (1, .d (D.int .i64 a1))], []⟩ k = ref19_member_p8 n a0 a1 (fun z26 => k .ret ⟨18, [(4, .d (D.bool z26))], []⟩) := by
  rw [ref19_member_c8_eq]
  unfold ref19_member_p8
  exact (ref19_member_p6_eq n a0 a1 (seqK (ref19_member_C n) n ref19_member_c7 k)).trans (ref19_member_p6_congr n a0 a1 (rfl) (fun w23 w24 w25 => ref19_member_p7_eq n a0 a1 w23 w24 w25 k))
theorem ref19_member_p9_eq {R : Type} (n : Nat) (a0 : List (List D)) (a1 : Int) (k : Exit → St → Option R) : vexec (ref19_member_C n) n ref19_member_c0 ⟨18, [(0, .d (D.sl 1 a0)), (1, .d (D.int .i64 a1))], []⟩ k = ref19_member_p9 n a0 a1 (fun w27 => k .ret ⟨18, [(4, .d (D.bool w27))], []⟩) := by
  rw [ref19_member_c0_eq]
  unfold ref19_member_p9
  exact (ref19_member_p1_eq n a0 a1 (seqK (ref19_member_C n) n ref19_member_c8 k)).trans (ref19_member_p1_congr n a0 a1 (ref19_member_p8_eq n a0 a1 k))
theorem ref19_member_vfn {R : Type} (n : Nat) (a0 : List (List D)) (a1 : Int) (K : AV → Option R) : vfn (ref19_member_C n) n Try.f34 [.d (D.sl 1 a0), .d (D.int .i64 a1)] [] (retF [[0]] K) = ref19_member n a0 a1 (fun r0 => K (.d (D.bool r0))) :=
  (show vfn (ref19_member_C n) n Try.f34 [.d (D.sl 1 a0), .d (D.int .i64 a1)] [] (retF [[0]] K) = vexec (ref19_member_C n) n ref19_member_c0 ⟨18, [(0, .d (D.sl 1 a0)), (1, .d (D.int .i64 a1))], []⟩ (retX ref19_member_tt [.tmp 4] (retF [[0]] K)) from vfn_at (by kernel_rfl) (by kernel_rfl) rfl (by kernel_rfl) rfl (by kernel_rfl) rfl).trans ((ref19_member_p9_eq n a0 a1 (retX ref19_member_tt [.tmp 4] (retF [[0]] K))).trans (by kernel_rfl))
def ref19_member_K : AV → Option (Bool) := fun av => match av with
  | .d (D.bool r0) => some r0
  | _ => none
def ref19_member_e (n : Nat) : Entry := fun _ _ g avs _ k => match avs with
  | [c0, c1] => prS g 1 c0 fun a0 => prI g .i64 c1 fun a1 => 
    gb g (ref19_member n a0 a1 some) false fun r => k ⟨.d (D.bool r), [], []⟩
  | _ => none
theorem ref19_member_ok (n : Nat) : EntryOK Try.prog 34 (ref19_member_e n) := by
  intro R site g avs hl k r h
  unfold ref19_member_e at h
  split at h
  rotate_left
  · cases h
  replace h := prS_some h
  obtain ⟨a0, h, le0⟩ := h
  replace h := prI_some h
  obtain ⟨a1, h, le1⟩ := h
  replace h := gb_some h
  obtain ⟨res, h, hr⟩ := h
  refine ⟨_, h, fun hg => CallOK.conv (avs' := [.d (D.sl 1 a0), .d (D.int .i64 a1)]) (.cons (le0 hg) (.cons (le1 hg) (.nil))) (callOK_fix (K := ref19_member_K) (res := res) (ref19_member_VC n) (fn := Try.f34) (n := n) (by kernel_rfl) (by kernel_rfl) (by kernel_rfl) (ss := [[0]]) rfl ?_ ?_)⟩
  · exact (ref19_member_vfn n a0 a1 ref19_member_K).trans (hr hg)
  · intro x hx
    unfold ref19_member_K at hx
    split at hx
    · injection hx with hx; subst hx; rfl
    · cases hx
end Go.Vx
/-
  ref1_Mod: the interpreter computes the pure function
-/
set_option linter.unusedVariables false
set_option linter.unusedSimpArgs false
set_option maxRecDepth 100000
namespace Go.Vx
open Go.Proofs
noncomputable def ref1_Mod_c0 : Code := bodyOf Try.f13
def ref1_Mod_tt : TT := [(3, ⟨.int .i64, 1, 8, [.int .i64 0], [.int .i64 0], [], none⟩)]
theorem ref1_Mod_tt_eq : mkTT Try.prog [3] = ref1_Mod_tt := by kernel_rfl
def ref1_Mod_cfg : List (Nat × Cfg) := [(0, ⟨[0, 1], [], [], [], []⟩), (1, ⟨[0, 1, 7], [], [], [], []⟩), (2, ⟨[4], [], [], [], []⟩), (3, ⟨[1, 5], [], [], [], []⟩), (4, ⟨[1, 5, 12], [], [], [], []⟩), (5, ⟨[5], [], [], [], []⟩), (6, ⟨[4], [], [], [], []⟩)]
def ref1_Mod_C (n : Nat) : VC := ⟨specOf [], ref1_Mod_tt, ref1_Mod_cfg⟩
theorem ref1_Mod_ents (n : Nat) : EntsOK Try.prog [] := trivial
theorem ref1_Mod_VC (n : Nat) : VCOk Try.prog (ref1_Mod_C n) := ⟨specOf_ok (ref1_Mod_ents n), (ref1_Mod_tt_eq ▸ mkTT_ok _ : TOk Try.prog ref1_Mod_tt), by kernel_rfl⟩
theorem ref1_Mod_p1_congr {R : Type} (n : Nat) (a0 : Int) (a1 : Int) {k0 kk0 : Int → Option R} (hq0 : ∀ x0, k0 x0 = kk0 x0) : ref1_Mod_p1 n a0 a1 k0 = ref1_Mod_p1 n a0 a1 kk0 := by
  obtain rfl : k0 = kk0 := funext fun x0 => hq0 x0
  rfl
theorem ref1_Mod_p1_eq {R : Type} (n : Nat) (a0 : Int) (a1 : Int) (k : Exit → St → Option R) : vexec (ref1_Mod_C n) n ref1_Mod_c0 ⟨17, [(0, .d (D.int .i64 a0)), (1, .d (D.int .i64 a1))], []⟩ k = ref1_Mod_p1 n a0 a1 (fun z2 => k .ret ⟨17, [(4, .d (D.int .i64 z2))], []⟩) := by kernel_rfl
theorem ref1_Mod_vfn {R : Type} (n : Nat) (a0 : Int) (a1 : Int) (K : AV → Option R) : vfn (ref1_Mod_C n) n Try.f13 [.d (D.int .i64 a0), .d (D.int .i64 a1)] [] (retF [[0]] K) = ref1_Mod n a0 a1 (fun r0 => K (.d (D.int .i64 r0))) :=
  (show vfn (ref1_Mod_C n) n Try.f13 [.d (D.int .i64 a0), .d (D.int .i64 a1)] [] (retF [[0]] K) = vexec (ref1_Mod_C n) n ref1_Mod_c0 ⟨17, [(0, .d (D.int .i64 a0)), (1, .d (D.int .i64 a1))], []⟩ (retX ref1_Mod_tt [.tmp 4] (retF [[0]] K)) from vfn_at (by kernel_rfl) (by kernel_rfl) rfl (by kernel_rfl) rfl (by kernel_rfl) rfl).trans ((ref1_Mod_p1_eq n a0 a1 (retX ref1_Mod_tt [.tmp 4] (retF [[0]] K))).trans (by kernel_rfl))
def ref1_Mod_K : AV → Option (Int) := fun av => match av with
  | .d (D.int .i64 r0) => some r0
  | _ => none
def ref1_Mod_e (n : Nat) : Entry := fun _ _ g avs _ k => match avs with
  | [c0, c1] => prI g .i64 c0 fun a0 => prI g .i64 c1 fun a1 => 
    gb g (ref1_Mod n a0 a1 some) 0 fun r => k ⟨.d (D.int .i64 r), [], []⟩
  | _ => none
theorem ref1_Mod_ok (n : Nat) : EntryOK Try.prog 13 (ref1_Mod_e n) := by
  intro R site g avs hl k r h
  unfold ref1_Mod_e at h
  split at h
  rotate_left
  · cases h
  replace h := prI_some h
  obtain ⟨a0, h, le0⟩ := h
  replace h := prI_some h
  obtain ⟨a1, h, le1⟩ := h
  replace h := gb_some h
  obtain ⟨res, h, hr⟩ := h
  refine ⟨_, h, fun hg => CallOK.conv (avs' := [.d (D.int .i64 a0), .d (D.int .i64 a1)]) (.cons (le0 hg) (.cons (le1 hg) (.nil))) (callOK_fix (K := ref1_Mod_K) (res := res) (ref1_Mod_VC n) (fn := Try.f13) (n := n) (by kernel_rfl) (by kernel_rfl) (by kernel_rfl) (ss := [[0]]) rfl ?_ ?_)⟩
  · exact (ref1_Mod_vfn n a0 a1 ref1_Mod_K).trans (hr hg)
  · intro x hx
    unfold ref1_Mod_K at hx
    split at hx
    · injection hx with hx; subst hx; rfl
    · cases hx
end Go.Vx
/-
  ref19_Overlap: the interpreter computes the pure function
-/
set_option linter.unusedVariables false
set_option linter.unusedSimpArgs false
set_option maxRecDepth 100000
namespace Go.Vx
open Go.Proofs
noncomputable def ref19_Overlap_c0 : Code := bodyOf Try.f28
def ref19_Overlap_tt : TT := [(3, ⟨.int .i64, 1, 8, [.int .i64 0], [.int .i64 0], [], none⟩), (24, ⟨.sl 28 3, 1, 24, [.slice none 0 0], [.sl 3 []], [], none⟩), (28, ⟨.struct, 3, 40, [.int .i64 0, .int .i64 0, .slice none 0 0], [.int .i64 0, .int .i64 0, .sl 1 []], [(0, 3), (1, 3), (2, 22)], none⟩)]
theorem ref19_Overlap_tt_eq : mkTT Try.prog [3, 24, 28] = ref19_Overlap_tt := by kernel_rfl
def ref19_Overlap_cfg : List (Nat × Cfg) := [(0, ⟨[0, 4, 5], [(4, 4), (5, 5)], [], [], []⟩), (1, ⟨[0, 4, 5, 12], [(4, 4), (5, 5)], [], [], []⟩), (2, ⟨[6], [], [], [], []⟩), (3, ⟨[6], [], [], [], []⟩)]
def ref19_Overlap_C (n : Nat) : VC := ⟨specOf [(33, ref19_ValidVisits_e n), (13, ref1_Mod_e n)], ref19_Overlap_tt, ref19_Overlap_cfg⟩
theorem ref19_Overlap_ents (n : Nat) : EntsOK Try.prog [(33, ref19_ValidVisits_e n), (13, ref1_Mod_e n)] := ⟨ref19_ValidVisits_ok n, ⟨ref1_Mod_ok n, trivial⟩⟩
theorem ref19_Overlap_VC (n : Nat) : VCOk Try.prog (ref19_Overlap_C n) := ⟨specOf_ok (ref19_Overlap_ents n), (ref19_Overlap_tt_eq ▸ mkTT_ok _ : TOk Try.prog ref19_Overlap_tt), by kernel_rfl⟩
theorem ref19_Overlap_p1_congr {R : Type} (n : Nat) (a0 : Int) (a1_0 : Int) (a1_1 : Int) (a1_2 : List (List D)) (a2_0 : Int) (a2_1 : Int) (a2_2 : List (List D)) {k0 kk0 : Bool → Option R} (hq0 : ∀ x0, k0 x0 = kk0 x0) : ref19_Overlap_p1 n a0 a1_0 a1_1 a1_2 a2_0 a2_1 a2_2 k0 = ref19_Overlap_p1 n a0 a1_0 a1_1 a1_2 a2_0 a2_1 a2_2 kk0 := by
  obtain rfl : k0 = kk0 := funext fun x0 => hq0 x0
  rfl
theorem ref19_Overlap_p1_eq {R : Type} (n : Nat) (a0 : Int) (a1_0 : Int) (a1_1 : Int) (a1_2 : List (List D)) (a2_0 : Int) (a2_1 : Int) (a2_2 : List (List D)) (k : Exit → St → Option R) : vexec (ref19_Overlap_C n) n ref19_Overlap_c0 ⟨35, [(0, .d (D.int .i64 a0)), (1, .ag [.d (D.int .i64 a1_0), .d (D.int .i64 a1_1), .d (D.sl 1 a1_2)]), (2, .ag [.d (D.int .i64 a2_0), .d (D.int .i64 a2_1), .d (D.sl 1 a2_2)])], []⟩ k = ref19_Overlap_p1 n a0 a1_0 a1_1 a1_2 a2_0 a2_1 a2_2 (fun z4 => k .ret ⟨35, [(6, .d (D.bool z4))], []⟩) := by kernel_rfl
theorem ref19_Overlap_vfn {R : Type} (n : Nat) (a0 : Int) (a1_0 : Int) (a1_1 : Int) (a1_2 : List (List D)) (a2_0 : Int) (a2_1 : Int) (a2_2 : List (List D)) (K : AV → Option R) : vfn (ref19_Overlap_C n) n Try.f28 [.d (D.int .i64 a0), .ag [.d (D.int .i64 a1_0), .d (D.int .i64 a1_1), .d (D.sl 1 a1_2)], .ag [.d (D.int .i64 a2_0), .d (D.int .i64 a2_1), .d (D.sl 1 a2_2)]] [] (retF [[0]] K) = ref19_Overlap n a0 a1_0 a1_1 a1_2 a2_0 a2_1 a2_2 (fun r0 => K (.d (D.bool r0))) :=
  (show vfn (ref19_Overlap_C n) n Try.f28 [.d (D.int .i64 a0), .ag [.d (D.int .i64 a1_0), .d (D.int .i64 a1_1), .d (D.sl 1 a1_2)], .ag [.d (D.int .i64 a2_0), .d (D.int .i64 a2_1), .d (D.sl 1 a2_2)]] [] (retF [[0]] K) = vexec (ref19_Overlap_C n) n ref19_Overlap_c0 ⟨35, [(0, .d (D.int .i64 a0)), (1, .ag [.d (D.int .i64 a1_0), .d (D.int .i64 a1_1), .d (D.sl 1 a1_2)]), (2, .ag [.d (D.int .i64 a2_0), .d (D.int .i64 a2_1), .d (D.sl 1 a2_2)])], []⟩ (retX ref19_Overlap_tt [.tmp 6] (retF [[0]] K)) from vfn_at (by kernel_rfl) (by kernel_rfl) rfl (by kernel_rfl) rfl (by kernel_rfl) rfl).trans ((ref19_Overlap_p1_eq n a0 a1_0 a1_1 a1_2 a2_0 a2_1 a2_2 (retX ref19_Overlap_tt [.tmp 6] (retF [[0]] K))).trans (by kernel_rfl))
def ref19_Overlap_K : AV → Option (Bool) := fun av => match av with
  | .d (D.bool r0) => some r0
  | _ => none
def ref19_Overlap_e (n : Nat) : Entry := fun _ _ g avs _ k => match avs with
  | [c0, c1, c2] => prI g .i64 c0 fun a0 => 
    prG c1 fun l1 => (match l1 with
    | [c1_0, c1_1, c1_2] => prI g .i64 c1_0 fun a1_0 => prI g .i64 c1_1 fun a1_1 => prS g 1 c1_2 fun a1_2 => 
    prG c2 fun l2 => (match l2 with
    | [c2_0, c2_1, c2_2] => prI g .i64 c2_0 fun a2_0 => prI g .i64 c2_1 fun a2_1 => prS g 1 c2_2 fun a2_2 => 
    gb g (ref19_Overlap n a0 a1_0 a1_1 a1_2 a2_0 a2_1 a2_2 some) false fun r => k ⟨.d (D.bool r), [], []⟩
    | _ => none)
    | _ => none)
  | _ => none
theorem ref19_Overlap_ok (n : Nat) : EntryOK Try.prog 28 (ref19_Overlap_e n) := by
  intro R site g avs hl k r h
  unfold ref19_Overlap_e at h
  split at h
  rotate_left
  · cases h
  replace h := prI_some h
  obtain ⟨a0, h, le0⟩ := h
  replace h := prG_some h
  obtain ⟨l1, h, e1⟩ := h
  subst e1
  split at h
  rotate_left
  · cases h
  replace h := prI_some h
  obtain ⟨a1_0, h, le1⟩ := h
  replace h := prI_some h
  obtain ⟨a1_1, h, le2⟩ := h
  replace h := prS_some h
  obtain ⟨a1_2, h, le3⟩ := h
  replace h := prG_some h
  obtain ⟨l2, h, e2⟩ := h
  subst e2
  split at h
  rotate_left
  · cases h
  replace h := prI_some h
  obtain ⟨a2_0, h, le4⟩ := h
  replace h := prI_some h
  obtain ⟨a2_1, h, le5⟩ := h
  replace h := prS_some h
  obtain ⟨a2_2, h, le6⟩ := h
  replace h := gb_some h
  obtain ⟨res, h, hr⟩ := h
  refine ⟨_, h, fun hg => CallOK.conv (avs' := [.d (D.int .i64 a0), .ag [.d (D.int .i64 a1_0), .d (D.int .i64 a1_1), .d (D.sl 1 a1_2)], .ag [.d (D.int .i64 a2_0), .d (D.int .i64 a2_1), .d (D.sl 1 a2_2)]]) (.cons (le0 hg) (.cons (.ag (.cons (le1 hg) (.cons (le2 hg) (.cons (le3 hg) (.nil))))) (.cons (.ag (.cons (le4 hg) (.cons (le5 hg) (.cons (le6 hg) (.nil))))) (.nil)))) (callOK_fix (K := ref19_Overlap_K) (res := res) (ref19_Overlap_VC n) (fn := Try.f28) (n := n) (by kernel_rfl) (by kernel_rfl) (by kernel_rfl) (ss := [[0]]) rfl ?_ ?_)⟩
  · exact (ref19_Overlap_vfn n a0 a1_0 a1_1 a1_2 a2_0 a2_1 a2_2 ref19_Overlap_K).trans (hr hg)
  · intro x hx
    unfold ref19_Overlap_K at hx
    split at hx
    · injection hx with hx; subst hx; rfl
    · cases hx
end Go.Vx
/-
  ref19_Proper: the interpreter computes the pure function
-/
set_option linter.unusedVariables false
set_option linter.unusedSimpArgs false
set_option maxRecDepth 100000
namespace Go.Vx
open Go.Proofs
noncomputable def ref19_Proper_c0 : Code := bodyOf Try.f18
noncomputable def ref19_Proper_c1 : Code := cL (bodyOf Try.f18)
noncomputable def ref19_Proper_c2 : Code := cL (cR (bodyOf Try.f18))
noncomputable def ref19_Proper_c3 : Code := cL (cL (cR (cR (bodyOf Try.f18))))
noncomputable def ref19_Proper_c4 : Code := cL (cB (cB (cR (cL (cR (cR (bodyOf Try.f18)))))))
noncomputable def ref19_Proper_c5 : Code := cL (cR (cB (cB (cR (cL (cR (cR (bodyOf Try.f18))))))))
noncomputable def ref19_Proper_c6 : Code := cL (cB (cL (cR (cR (cB (cB (cR (cL (cR (cR (bodyOf Try.f18)))))))))))
noncomputable def ref19_Proper_c7 : Code := cL (cR (cB (cL (cR (cR (cB (cB (cR (cL (cR (cR (bodyOf Try.f18))))))))))))
noncomputable def ref19_Proper_c8 : Code := cL (cR (cR (cB (cL (cR (cR (cB (cB (cR (cL (cR (cR (bodyOf Try.f18)))))))))))))
noncomputable def ref19_Proper_c9 : Code := cB (cB (cR (cR (cR (cB (cL (cR (cR (cB (cB (cR (cL (cR (cR (bodyOf Try.f18)))))))))))))))
noncomputable def ref19_Proper_c10 : Code := cB (cR (cR (cR (cB (cL (cR (cR (cB (cB (cR (cL (cR (cR (bodyOf Try.f18))))))))))))))
noncomputable def ref19_Proper_c11 : Code := cR (cR (cR (cB (cL (cR (cR (cB (cB (cR (cL (cR (cR (bodyOf Try.f18)))))))))))))
noncomputable def ref19_Proper_c12 : Code := cR (cR (cB (cL (cR (cR (cB (cB (cR (cL (cR (cR (bodyOf Try.f18))))))))))))
noncomputable def ref19_Proper_c13 : Code := cR (cB (cL (cR (cR (cB (cB (cR (cL (cR (cR (bodyOf Try.f18)))))))))))
noncomputable def ref19_Proper_c14 : Code := cB (cL (cR (cR (cB (cB (cR (cL (cR (cR (bodyOf Try.f18))))))))))
noncomputable def ref19_Proper_c15 : Code := cL (cR (cR (cB (cB (cR (cL (cR (cR (bodyOf Try.f18)))))))))
noncomputable def ref19_Proper_c16 : Code := cR (cR (cR (cB (cB (cR (cL (cR (cR (bodyOf Try.f18)))))))))
noncomputable def ref19_Proper_c17 : Code := cR (cR (cB (cB (cR (cL (cR (cR (bodyOf Try.f18))))))))
noncomputable def ref19_Proper_c18 : Code := cR (cB (cB (cR (cL (cR (cR (bodyOf Try.f18)))))))
noncomputable def ref19_Proper_c19 : Code := cB (cB (cR (cL (cR (cR (bodyOf Try.f18))))))
noncomputable def ref19_Proper_c20 : Code := cB (cR (cL (cR (cR (bodyOf Try.f18)))))
noncomputable def ref19_Proper_c21 : Code := cR (cL (cR (cR (bodyOf Try.f18))))
noncomputable def ref19_Proper_c22 : Code := cL (cR (cR (bodyOf Try.f18)))
noncomputable def ref19_Proper_c23 : Code := cR (cR (cR (bodyOf Try.f18)))
noncomputable def ref19_Proper_c24 : Code := cR (cR (bodyOf Try.f18))
noncomputable def ref19_Proper_c25 : Code := cR (bodyOf Try.f18)
theorem ref19_Proper_c10_eq : ref19_Proper_c10 = .loop ref19_Proper_c9 := by kernel_rfl
theorem ref19_Proper_c11_eq : ref19_Proper_c11 = .block 2 ref19_Proper_c10 := by kernel_rfl
theorem ref19_Proper_c12_eq : ref19_Proper_c12 = .seq ref19_Proper_c8 ref19_Proper_c11 := by kernel_rfl
theorem ref19_Proper_c13_eq : ref19_Proper_c13 = .seq ref19_Proper_c7 ref19_Proper_c12 := by kernel_rfl
theorem ref19_Proper_c14_eq : ref19_Proper_c14 = .seq ref19_Proper_c6 ref19_Proper_c13 := by kernel_rfl
theorem ref19_Proper_c15_eq : ref19_Proper_c15 = .block 1 ref19_Proper_c14 := by kernel_rfl
theorem ref19_Proper_c17_eq : ref19_Proper_c17 = .seq ref19_Proper_c15 ref19_Proper_c16 := by kernel_rfl
theorem ref19_Proper_c18_eq : ref19_Proper_c18 = .seq ref19_Proper_c5 ref19_Proper_c17 := by kernel_rfl
theorem ref19_Proper_c19_eq : ref19_Proper_c19 = .seq ref19_Proper_c4 ref19_Proper_c18 := by kernel_rfl
theorem ref19_Proper_c20_eq : ref19_Proper_c20 = .loop ref19_Proper_c19 := by kernel_rfl
theorem ref19_Proper_c21_eq : ref19_Proper_c21 = .block 0 ref19_Proper_c20 := by kernel_rfl
theorem ref19_Proper_c22_eq : ref19_Proper_c22 = .seq ref19_Proper_c3 ref19_Proper_c21 := by kernel_rfl
theorem ref19_Proper_c24_eq : ref19_Proper_c24 = .seq ref19_Proper_c22 ref19_Proper_c23 := by kernel_rfl
theorem ref19_Proper_c25_eq : ref19_Proper_c25 = .seq ref19_Proper_c2 ref19_Proper_c24 := by kernel_rfl
theorem ref19_Proper_c0_eq : ref19_Proper_c0 = .seq ref19_Proper_c1 ref19_Proper_c25 := by kernel_rfl
def ref19_Proper_tt : TT := [(3, ⟨.int .i64, 1, 8, [.int .i64 0], [.int .i64 0], [], none⟩), (22, ⟨.sl 3 1, 1, 24, [.slice none 0 0], [.sl 1 []], [], none⟩), (24, ⟨.sl 28 3, 1, 24, [.slice none 0 0], [.sl 3 []], [], none⟩), (28, ⟨.struct, 3, 40, [.int .i64 0, .int .i64 0, .slice none 0 0], [.int .i64 0, .int .i64 0, .sl 1 []], [(0, 3), (1, 3), (2, 22)], none⟩)]
theorem ref19_Proper_tt_eq : mkTT Try.prog [3, 22, 24, 28] = ref19_Proper_tt := by kernel_rfl
def ref19_Proper_cfg : List (Nat × Cfg) := [(0, ⟨[0, 1, 2], [], [], [], []⟩), (1, ⟨[0, 1, 2, 19], [], [], [], []⟩), (2, ⟨[6], [], [], [], []⟩), (3, ⟨[0, 1, 2, 21, 22], [], [], [], []⟩), (4, ⟨[0, 1, 2, 21, 22, 23], [], [], [], []⟩), (5, ⟨[0, 1, 2, 7, 21, 22], [], [], [], []⟩), (6, ⟨[0, 1, 2, 7, 21, 22, 35], [], [], [], []⟩), (7, ⟨[6], [], [], [], []⟩), (8, ⟨[0, 1, 2, 7, 8, 21, 22], [], [], [], []⟩), (9, ⟨[0, 1, 2, 7, 8, 21, 22, 38], [], [], [], []⟩), (10, ⟨[0, 1, 2, 7, 8, 21, 22], [], [], [], []⟩), (11, ⟨[0, 1, 2, 7, 8, 21, 22, 61], [], [], [], []⟩), (12, ⟨[6], [], [], [], []⟩), (13, ⟨[0, 1, 2, 21, 22], [], [], [], []⟩), (14, ⟨[6], [], [], [], []⟩)]
def ref19_Proper_C (n : Nat) : VC := ⟨specOf [(33, ref19_ValidVisits_e n), (34, ref19_member_e n), (28, ref19_Overlap_e n)], ref19_Proper_tt, ref19_Proper_cfg⟩
theorem ref19_Proper_ents (n : Nat) : EntsOK Try.prog [(33, ref19_ValidVisits_e n), (34, ref19_member_e n), (28, ref19_Overlap_e n)] := ⟨ref19_ValidVisits_ok n, ⟨ref19_member_ok n, ⟨ref19_Overlap_ok n, trivial⟩⟩⟩
theorem ref19_Proper_VC (n : Nat) : VCOk Try.prog (ref19_Proper_C n) := ⟨specOf_ok (ref19_Proper_ents n), (ref19_Proper_tt_eq ▸ mkTT_ok _ : TOk Try.prog ref19_Proper_tt), by kernel_rfl⟩
theorem ref19_Proper_p1_congr {R : Type} (n : Nat) (a0 : Int) (a1 : List (List D)) (a2 : List (List D)) {k0 kk0 : Option R} (hq0 : k0 = kk0) : ref19_Proper_p1 n a0 a1 a2 k0 = ref19_Proper_p1 n a0 a1 a2 kk0 := by
  obtain rfl : k0 = kk0 := hq0
  rfl
theorem ref19_Proper_p2_congr {R : Type} (n : Nat) (a0 : Int) (a1 : List (List D)) (a2 : List (List D)) {k0 kk0 : Option R} {k1 kk1 : Bool → Option R} (hq0 : k0 = kk0) (hq1 : ∀ x0, k1 x0 = kk1 x0) : ref19_Proper_p2 n a0 a1 a2 k0 k1 = ref19_Proper_p2 n a0 a1 a2 kk0 kk1 := by
  obtain rfl : k0 = kk0 := hq0
  obtain rfl : k1 = kk1 := funext fun x0 => hq1 x0
  rfl
theorem ref19_Proper_p3_congr {R : Type} (n : Nat) (a0 : Int) (a1 : List (List D)) (a2 : List (List D)) (w3 : Bool) {k0 kk0 : Int → Option R} (hq0 : ∀ x0, k0 x0 = kk0 x0) : ref19_Proper_p3 n a0 a1 a2 w3 k0 = ref19_Proper_p3 n a0 a1 a2 w3 kk0 := by
  obtain rfl : k0 = kk0 := funext fun x0 => hq0 x0
  rfl
theorem ref19_Proper_p4_congr {R : Type} (n : Nat) (a0 : Int) (a1 : List (List D)) (a2 : List (List D)) (w5 : Int) (h10 : Int) {k0 kk0 : Bool → Option R} (hq0 : ∀ x0, k0 x0 = kk0 x0) : ref19_Proper_p4 n a0 a1 a2 w5 h10 k0 = ref19_Proper_p4 n a0 a1 a2 w5 h10 kk0 := by
  obtain rfl : k0 = kk0 := funext fun x0 => hq0 x0
  rfl
theorem ref19_Proper_p5_congr {R : Type} (n : Nat) (a0 : Int) (a1 : List (List D)) (a2 : List (List D)) (w5 : Int) (h10 : Int) (w94 : Bool) {k0 kk0 : Option R} {k1 kk1 : Option R} (hq0 : k0 = kk0) (hq1 : k1 = kk1) : ref19_Proper_p5 n a0 a1 a2 w5 h10 w94 k0 k1 = ref19_Proper_p5 n a0 a1 a2 w5 h10 w94 kk0 kk1 := by
  obtain rfl : k0 = kk0 := hq0
  obtain rfl : k1 = kk1 := hq1
  rfl
theorem ref19_Proper_p6_congr {R : Type} (n : Nat) (a0 : Int) (a1 : List (List D)) (a2 : List (List D)) (w5 : Int) (h10 : Int) (w94 : Bool) {k0 kk0 : Option R} (hq0 : k0 = kk0) : ref19_Proper_p6 n a0 a1 a2 w5 h10 w94 k0 = ref19_Proper_p6 n a0 a1 a2 w5 h10 w94 kk0 := by
  obtain rfl : k0 = kk0 := hq0
  rfl
theorem ref19_Proper_p7_congr {R : Type} (n : Nat) (a0 : Int) (a1 : List (List D)) (a2 : List (List D)) (h10 : Int) (w5 : Int) {k0 kk0 : Option R} {k1 kk1 : Bool → Option R} (hq0 : k0 = kk0) (hq1 : ∀ x0, k1 x0 = kk1 x0) : ref19_Proper_p7 n a0 a1 a2 h10 w5 k0 k1 = ref19_Proper_p7 n a0 a1 a2 h10 w5 kk0 kk1 := by
  obtain rfl : k0 = kk0 := hq0
  obtain rfl : k1 = kk1 := funext fun x0 => hq1 x0
  rfl
theorem ref19_Proper_p8_congr {R : Type} (n : Nat) (a0 : Int) (a1 : List (List D)) (a2 : List (List D)) (h10 : Int) (w5 : Int) (w103 : Bool) {k0 kk0 : Option R} (hq0 : k0 = kk0) : ref19_Proper_p8 n a0 a1 a2 h10 w5 w103 k0 = ref19_Proper_p8 n a0 a1 a2 h10 w5 w103 kk0 := by
  obtain rfl : k0 = kk0 := hq0
  rfl
theorem ref19_Proper_p9_congr {R : Type} (n : Nat) (a0 : Int) (a1 : List (List D)) (a2 : List (List D)) (h10 : Int) (h108 : Int) (w5 : Int) {k0 kk0 : Option R} {k1 kk1 : Int → Option R} {k2 kk2 : Bool → Option R} (hq0 : k0 = kk0) (hq1 : ∀ x0, k1 x0 = kk1 x0) (hq2 : ∀ x0, k2 x0 = kk2 x0) : ref19_Proper_p9 n a0 a1 a2 h10 h108 w5 k0 k1 k2 = ref19_Proper_p9 n a0 a1 a2 h10 h108 w5 kk0 kk1 kk2 := by
  obtain rfl : k0 = kk0 := hq0
  obtain rfl : k1 = kk1 := funext fun x0 => hq1 x0
  obtain rfl : k2 = kk2 := funext fun x0 => hq2 x0
  rfl
theorem ref19_Proper_p10_congr {R : Type} (n : Nat) (a0 : Int) (a1 : List (List D)) (a2 : List (List D)) (h10 : Int) (w5 : Int) {k0 kk0 : Option R} {k1 kk1 : Int → Bool → Option R} (hq0 : k0 = kk0) (hq1 : ∀ x0 x1, k1 x0 x1 = kk1 x0 x1) : ref19_Proper_p10 n a0 a1 a2 h10 w5 k0 k1 = ref19_Proper_p10 n a0 a1 a2 h10 w5 kk0 kk1 := by
  obtain rfl : k0 = kk0 := hq0
  obtain rfl : k1 = kk1 := funext fun x0 => funext fun x1 => hq1 x0 x1
  rfl
theorem ref19_Proper_p11_congr {R : Type} (n : Nat) (a0 : Int) (a1 : List (List D)) (a2 : List (List D)) (h10 : Int) (w5 : Int) {k0 kk0 : Option R} {k1 kk1 : Int → Bool → Option R} (hq0 : k0 = kk0) (hq1 : ∀ x0 x1, k1 x0 x1 = kk1 x0 x1) : ref19_Proper_p11 n a0 a1 a2 h10 w5 k0 k1 = ref19_Proper_p11 n a0 a1 a2 h10 w5 kk0 kk1 := by
  obtain rfl : k0 = kk0 := hq0
  obtain rfl : k1 = kk1 := funext fun x0 => funext fun x1 => hq1 x0 x1
  rfl
theorem ref19_Proper_p12_congr {R : Type} (n : Nat) (a0 : Int) (a1 : List (List D)) (a2 : List (List D)) (h10 : Int) (w5 : Int) (w103 : Bool) {k0 kk0 : Option R} {k1 kk1 : Int → Bool → Option R} (hq0 : k0 = kk0) (hq1 : ∀ x0 x1, k1 x0 x1 = kk1 x0 x1) : ref19_Proper_p12 n a0 a1 a2 h10 w5 w103 k0 k1 = ref19_Proper_p12 n a0 a1 a2 h10 w5 w103 kk0 kk1 := by
  obtain rfl : k0 = kk0 := hq0
  obtain rfl : k1 = kk1 := funext fun x0 => funext fun x1 => hq1 x0 x1
  rfl
theorem ref19_Proper_p13_congr {R : Type} (n : Nat) (a0 : Int) (a1 : List (List D)) (a2 : List (List D)) (h10 : Int) (w5 : Int) {k0 kk0 : Option R} {k1 kk1 : Int → Bool → Option R} (hq0 : k0 = kk0) (hq1 : ∀ x0 x1, k1 x0 x1 = kk1 x0 x1) : ref19_Proper_p13 n a0 a1 a2 h10 w5 k0 k1 = ref19_Proper_p13 n a0 a1 a2 h10 w5 kk0 kk1 := by
  obtain rfl : k0 = kk0 := hq0
  obtain rfl : k1 = kk1 := funext fun x0 => funext fun x1 => hq1 x0 x1
  rfl
theorem ref19_Proper_p14_congr {R : Type} (n : Nat) (a0 : Int) (a1 : List (List D)) (a2 : List (List D)) (w5 : Int) (h10 : Int) (w94 : Bool) {k0 kk0 : Option R} {k1 kk1 : Int → Bool → Option R} (hq0 : k0 = kk0) (hq1 : ∀ x0 x1, k1 x0 x1 = kk1 x0 x1) : ref19_Proper_p14 n a0 a1 a2 w5 h10 w94 k0 k1 = ref19_Proper_p14 n a0 a1 a2 w5 h10 w94 kk0 kk1 := by
  obtain rfl : k0 = kk0 := hq0
  obtain rfl : k1 = kk1 := funext fun x0 => funext fun x1 => hq1 x0 x1
  rfl
theorem ref19_Proper_p15_congr {R : Type} (n : Nat) (a0 : Int) (a1 : List (List D)) (a2 : List (List D)) (w5 : Int) (h10 : Int) (w94 : Bool) {k0 kk0 : Option R} {k1 kk1 : Int → Bool → Option R} (hq0 : k0 = kk0) (hq1 : ∀ x0 x1, k1 x0 x1 = kk1 x0 x1) : ref19_Proper_p15 n a0 a1 a2 w5 h10 w94 k0 k1 = ref19_Proper_p15 n a0 a1 a2 w5 h10 w94 kk0 kk1 := by
  obtain rfl : k0 = kk0 := hq0
  obtain rfl : k1 = kk1 := funext fun x0 => funext fun x1 => hq1 x0 x1
  rfl
theorem ref19_Proper_p16_congr {R : Type} (n : Nat) (a0 : Int) (a1 : List (List D)) (a2 : List (List D)) (h10 : Int) (w169 : Int) (w5 : Int) (w170 : Bool) {k0 kk0 : Int → Option R} (hq0 : ∀ x0, k0 x0 = kk0 x0) : ref19_Proper_p16 n a0 a1 a2 h10 w169 w5 w170 k0 = ref19_Proper_p16 n a0 a1 a2 h10 w169 w5 w170 kk0 := by
  obtain rfl : k0 = kk0 := funext fun x0 => hq0 x0
  rfl
theorem ref19_Proper_p17_congr {R : Type} (n : Nat) (a0 : Int) (a1 : List (List D)) (a2 : List (List D)) (w5 : Int) (h10 : Int) (w94 : Bool) {k0 kk0 : Option R} {k1 kk1 : Int → Option R} (hq0 : k0 = kk0) (hq1 : ∀ x0, k1 x0 = kk1 x0) : ref19_Proper_p17 n a0 a1 a2 w5 h10 w94 k0 k1 = ref19_Proper_p17 n a0 a1 a2 w5 h10 w94 kk0 kk1 := by
  obtain rfl : k0 = kk0 := hq0
  obtain rfl : k1 = kk1 := funext fun x0 => hq1 x0
  rfl
theorem ref19_Proper_p18_congr {R : Type} (n : Nat) (a0 : Int) (a1 : List (List D)) (a2 : List (List D)) (w5 : Int) (h10 : Int) (w94 : Bool) {k0 kk0 : Option R} {k1 kk1 : Int → Option R} {k2 kk2 : Option R} (hq0 : k0 = kk0) (hq1 : ∀ x0, k1 x0 = kk1 x0) (hq2 : k2 = kk2) : ref19_Proper_p18 n a0 a1 a2 w5 h10 w94 k0 k1 k2 = ref19_Proper_p18 n a0 a1 a2 w5 h10 w94 kk0 kk1 kk2 := by
  obtain rfl : k0 = kk0 := hq0
  obtain rfl : k1 = kk1 := funext fun x0 => hq1 x0
  obtain rfl : k2 = kk2 := hq2
  rfl
theorem ref19_Proper_p19_congr {R : Type} (n : Nat) (a0 : Int) (a1 : List (List D)) (a2 : List (List D)) (w5 : Int) (h10 : Int) {k0 kk0 : Option R} {k1 kk1 : Int → Option R} {k2 kk2 : Bool → Option R} (hq0 : k0 = kk0) (hq1 : ∀ x0, k1 x0 = kk1 x0) (hq2 : ∀ x0, k2 x0 = kk2 x0) : ref19_Proper_p19 n a0 a1 a2 w5 h10 k0 k1 k2 = ref19_Proper_p19 n a0 a1 a2 w5 h10 kk0 kk1 kk2 := by
  obtain rfl : k0 = kk0 := hq0
  obtain rfl : k1 = kk1 := funext fun x0 => hq1 x0
  obtain rfl : k2 = kk2 := funext fun x0 => hq2 x0
  rfl
theorem ref19_Proper_p20_congr {R : Type} (n : Nat) (a0 : Int) (a1 : List (List D)) (a2 : List (List D)) (w5 : Int) {k0 kk0 : Option R} {k1 kk1 : Int → Bool → Option R} (hq0 : k0 = kk0) (hq1 : ∀ x0 x1, k1 x0 x1 = kk1 x0 x1) : ref19_Proper_p20 n a0 a1 a2 w5 k0 k1 = ref19_Proper_p20 n a0 a1 a2 w5 kk0 kk1 := by
  obtain rfl : k0 = kk0 := hq0
  obtain rfl : k1 = kk1 := funext fun x0 => funext fun x1 => hq1 x0 x1
  rfl
theorem ref19_Proper_p21_congr {R : Type} (n : Nat) (a0 : Int) (a1 : List (List D)) (a2 : List (List D)) (w5 : Int) {k0 kk0 : Option R} {k1 kk1 : Int → Bool → Option R} (hq0 : k0 = kk0) (hq1 : ∀ x0 x1, k1 x0 x1 = kk1 x0 x1) : ref19_Proper_p21 n a0 a1 a2 w5 k0 k1 = ref19_Proper_p21 n a0 a1 a2 w5 kk0 kk1 := by
  obtain rfl : k0 = kk0 := hq0
  obtain rfl : k1 = kk1 := funext fun x0 => funext fun x1 => hq1 x0 x1
  rfl
theorem ref19_Proper_p22_congr {R : Type} (n : Nat) (a0 : Int) (a1 : List (List D)) (a2 : List (List D)) (w3 : Bool) {k0 kk0 : Option R} {k1 kk1 : Int → Int → Bool → Option R} (hq0 : k0 = kk0) (hq1 : ∀ x0 x1 x2, k1 x0 x1 x2 = kk1 x0 x1 x2) : ref19_Proper_p22 n a0 a1 a2 w3 k0 k1 = ref19_Proper_p22 n a0 a1 a2 w3 kk0 kk1 := by
  obtain rfl : k0 = kk0 := hq0
  obtain rfl : k1 = kk1 := funext fun x0 => funext fun x1 => funext fun x2 => hq1 x0 x1 x2
  rfl
theorem ref19_Proper_p23_congr {R : Type} (n : Nat) (a0 : Int) (a1 : List (List D)) (a2 : List (List D)) (w181 : Int) (w182 : Int) (w183 : Bool) {k0 kk0 : Option R} (hq0 : k0 = kk0) : ref19_Proper_p23 n a0 a1 a2 w181 w182 w183 k0 = ref19_Proper_p23 n a0 a1 a2 w181 w182 w183 kk0 := by
  obtain rfl : k0 = kk0 := hq0
  rfl
theorem ref19_Proper_p24_congr {R : Type} (n : Nat) (a0 : Int) (a1 : List (List D)) (a2 : List (List D)) (w3 : Bool) {k0 kk0 : Bool → Option R} (hq0 : ∀ x0, k0 x0 = kk0 x0) : ref19_Proper_p24 n a0 a1 a2 w3 k0 = ref19_Proper_p24 n a0 a1 a2 w3 kk0 := by
  obtain rfl : k0 = kk0 := funext fun x0 => hq0 x0
  rfl
theorem ref19_Proper_p25_congr {R : Type} (n : Nat) (a0 : Int) (a1 : List (List D)) (a2 : List (List D)) {k0 kk0 : Bool → Option R} (hq0 : ∀ x0, k0 x0 = kk0 x0) : ref19_Proper_p25 n a0 a1 a2 k0 = ref19_Proper_p25 n a0 a1 a2 kk0 := by
  obtain rfl : k0 = kk0 := funext fun x0 => hq0 x0
  rfl
theorem ref19_Proper_p26_congr {R : Type} (n : Nat) (a0 : Int) (a1 : List (List D)) (a2 : List (List D)) {k0 kk0 : Bool → Option R} (hq0 : ∀ x0, k0 x0 = kk0 x0) : ref19_Proper_p26 n a0 a1 a2 k0 = ref19_Proper_p26 n a0 a1 a2 kk0 := by
  obtain rfl : k0 = kk0 := funext fun x0 => hq0 x0
  rfl
theorem ref19_Proper_p1_eq {R : Type} (n : Nat) (a0 : Int) (a1 : List (List D)) (a2 : List (List D)) (k : Exit → St → Option R) : vexec (ref19_Proper_C n) n ref19_Proper_c1 ⟨63, [(0, .d (D.int .i64 a0)), (1, .d (D.sl 3 a1)), (2, .d (D.sl 1 a2))], []⟩ k = ref19_Proper_p1 n a0 a1 a2 (k .normal ⟨63, [(0, .d (D.int .i64 a0)), (1, .d (D.sl 3 a1)), (2, .d (D.sl 1 a2))], []⟩) := by kernel_rfl
theorem ref19_Proper_p2_eq {R : Type} (n : Nat) (a0 : Int) (a1 : List (List D)) (a2 : List (List D)) (k : Exit → St → Option R) : vexec (ref19_Proper_C n) n ref19_Proper_c2 ⟨63, [(0, .d (D.int .i64 a0)), (1, .d (D.sl 3 a1)), (2, .d (D.sl 1 a2))], []⟩ k = ref19_Proper_p2 n a0 a1 a2 (k .ret ⟨63, [(6, .d (D.bool false))], []⟩) (fun z2 => k .normal ⟨63, [(0, .d (D.int .i64 a0)), (1, .d (D.sl 3 a1)), (2, .d (D.sl 1 a2)), (19, .d (D.bool z2))], []⟩) := by kernel_rfl
theorem ref19_Proper_p3_eq {R : Type} (n : Nat) (a0 : Int) (a1 : List (List D)) (a2 : List (List D)) (w3 : Bool) (k : Exit → St → Option R) : vexec (ref19_Proper_C n) n ref19_Proper_c3 ⟨63, [(0, .d (D.int .i64 a0)), (1, .d (D.sl 3 a1)), (2, .d (D.sl 1 a2)), (19, .d (D.bool w3))], []⟩ k = ref19_Proper_p3 n a0 a1 a2 w3 (fun z4 => k .normal ⟨63, [(0, .d (D.int .i64 a0)), (1, .d (D.sl 3 a1)), (2, .d (D.sl 1 a2)), (21, .d (D.int .i64 z4)), (22, .d (D.int .i64 (0 : Int)))], []⟩) := by kernel_rfl
theorem ref19_Proper_p4_eq {R : Type} (n : Nat) (a0 : Int) (a1 : List (List D)) (a2 : List (List D)) (w5 : Int) (h10 : Int) (k : Exit → St → Option R) : vexec (ref19_Proper_C n) n ref19_Proper_c4 ⟨63, [(0, .d (D.int .i64 a0)), (1, .d (D.sl 3 a1)), (2, .d (D.sl 1 a2)), (21, .d (D.int .i64 w5)), (22, .d (D.int .i64 h10))], []⟩ k = ref19_Proper_p4 n a0 a1 a2 w5 h10 (fun z93 => k .normal ⟨63, [(0, .d (D.int .i64 a0)), (1, .d (D.sl 3 a1)), (2, .d (D.sl 1 a2)), (21, .d (D.int .i64 w5)), (22, .d (D.int .i64 h10)), (23, .d (D.bool z93))], []⟩) := by kernel_rfl
theorem ref19_Proper_p5_eq {R : Type} (n : Nat) (a0 : Int) (a1 : List (List D)) (a2 : List (List D)) (w5 : Int) (h10 : Int) (w94 : Bool) (k : Exit → St → Option R) : vexec (ref19_Proper_C n) n ref19_Proper_c5 ⟨63, [(0, .d (D.int .i64 a0)), (1, .d (D.sl 3 a1)), (2, .d (D.sl 1 a2)), (21, .d (D.int .i64 w5)), (22, .d (D.int .i64 h10)), (23, .d (D.bool w94))], []⟩ k = ref19_Proper_p5 n a0 a1 a2 w5 h10 w94 (k .normal ⟨63, [(0, .d (D.int .i64 a0)), (1, .d (D.sl 3 a1)), (2, .d (D.sl 1 a2)), (21, .d (D.int .i64 w5)), (22, .d (D.int .i64 h10)), (23, .d (D.bool w94))], []⟩) (k (.exit 0) ⟨63, [(0, .d (D.int .i64 a0)), (1, .d (D.sl 3 a1)), (2, .d (D.sl 1 a2)), (21, .d (D.int .i64 w5)), (22, .d (D.int .i64 h10)), (23, .d (D.bool w94))], []⟩) := by kernel_rfl
theorem ref19_Proper_p6_eq {R : Type} (n : Nat) (a0 : Int) (a1 : List (List D)) (a2 : List (List D)) (w5 : Int) (h10 : Int) (w94 : Bool) (k : Exit → St → Option R) : vexec (ref19_Proper_C n) n ref19_Proper_c6 ⟨63, [(0, .d (D.int .i64 a0)), (1, .d (D.sl 3 a1)), (2, .d (D.sl 1 a2)), (21, .d (D.int .i64 w5)), (22, .d (D.int .i64 h10)), (23, .d (D.bool w94))], []⟩ k = ref19_Proper_p6 n a0 a1 a2 w5 h10 w94 (k .normal ⟨63, [(0, .d (D.int .i64 a0)), (1, .d (D.sl 3 a1)), (2, .d (D.sl 1 a2)), (7, .d (D.int .i64 h10)), (21, .d (D.int .i64 w5)), (22, .d (D.int .i64 h10))], []⟩) := by kernel_rfl
theorem ref19_Proper_p7_eq {R : Type} (n : Nat) (a0 : Int) (a1 : List (List D)) (a2 : List (List D)) (h10 : Int) (w5 : Int) (k : Exit → St → Option R) : vexec (ref19_Proper_C n) n ref19_Proper_c7 ⟨63, [(0, .d (D.int .i64 a0)), (1, .d (D.sl 3 a1)), (2, .d (D.sl 1 a2)), (7, .d (D.int .i64 h10)), (21, .d (D.int .i64 w5)), (22, .d (D.int .i64 h10))], []⟩ k = ref19_Proper_p7 n a0 a1 a2 h10 w5 (k .ret ⟨63, [(6, .d (D.bool false))], []⟩) (fun z102 => k .normal ⟨63, [(0, .d (D.int .i64 a0)), (1, .d (D.sl 3 a1)), (2, .d (D.sl 1 a2)), (7, .d (D.int .i64 h10)), (21, .d (D.int .i64 w5)), (22, .d (D.int .i64 h10)), (35, .d (D.bool z102))], []⟩) := by kernel_rfl
theorem ref19_Proper_p8_eq {R : Type} (n : Nat) (a0 : Int) (a1 : List (List D)) (a2 : List (List D)) (h10 : Int) (w5 : Int) (w103 : Bool) (k : Exit → St → Option R) : vexec (ref19_Proper_C n) n ref19_Proper_c8 ⟨63, [(0, .d (D.int .i64 a0)), (1, .d (D.sl 3 a1)), (2, .d (D.sl 1 a2)), (7, .d (D.int .i64 h10)), (21, .d (D.int .i64 w5)), (22, .d (D.int .i64 h10)), (35, .d (D.bool w103))], []⟩ k = ref19_Proper_p8 n a0 a1 a2 h10 w5 w103 (k .normal ⟨63, [(0, .d (D.int .i64 a0)), (1, .d (D.sl 3 a1)), (2, .d (D.sl 1 a2)), (7, .d (D.int .i64 h10)), (8, .d (D.int .i64 (0 : Int))), (21, .d (D.int .i64 w5)), (22, .d (D.int .i64 h10))], []⟩) := by kernel_rfl
theorem ref19_Proper_p9_eq {R : Type} (n : Nat) (a0 : Int) (a1 : List (List D)) (a2 : List (List D)) (h10 : Int) (h108 : Int) (w5 : Int) (k : Exit → St → Option R) : vexec (ref19_Proper_C n) n ref19_Proper_c9 ⟨63, [(0, .d (D.int .i64 a0)), (1, .d (D.sl 3 a1)), (2, .d (D.sl 1 a2)), (7, .d (D.int .i64 h10)), (8, .d (D.int .i64 h108)), (21, .d (D.int .i64 w5)), (22, .d (D.int .i64 h10))], []⟩ k = ref19_Proper_p9 n a0 a1 a2 h10 h108 w5 (k .ret ⟨63, [(6, .d (D.bool false))], []⟩) (fun z155 => k .normal ⟨63, [(0, .d (D.int .i64 a0)), (1, .d (D.sl 3 a1)), (2, .d (D.sl 1 a2)), (7, .d (D.int .i64 h10)), (8, .d (D.int .i64 z155)), (21, .d (D.int .i64 w5)), (22, .d (D.int .i64 h10))], []⟩) (fun z156 => k (.exit 2) ⟨63, [(0, .d (D.int .i64 a0)), (1, .d (D.sl 3 a1)), (2, .d (D.sl 1 a2)), (7, .d (D.int .i64 h10)), (8, .d (D.int .i64 h108)), (21, .d (D.int .i64 w5)), (22, .d (D.int .i64 h10)), (38, .d (D.bool z156))], []⟩) := by kernel_rfl
theorem ref19_Proper_r10_eq {R : Type} (n : Nat) (a0 : Int) (a1 : List (List D)) (a2 : List (List D)) (h10 : Int) (w5 : Int) (k : Exit → St → Option R) : ∀ (m : Nat) (h108 : Int), loopN (vexec (ref19_Proper_C n) n ref19_Proper_c9) m ⟨63, [(0, .d (D.int .i64 a0)), (1, .d (D.sl 3 a1)), (2, .d (D.sl 1 a2)), (7, .d (D.int .i64 h10)), (8, .d (D.int .i64 h108)), (21, .d (D.int .i64 w5)), (22, .d (D.int .i64 h10))], []⟩ k = ref19_Proper_r10 n a0 a1 a2 h10 w5 (k .ret ⟨63, [(6, .d (D.bool false))], []⟩) (fun h108 w158 => k (.exit 2) ⟨63, [(0, .d (D.int .i64 a0)), (1, .d (D.sl 3 a1)), (2, .d (D.sl 1 a2)), (7, .d (D.int .i64 h10)), (8, .d (D.int .i64 h108)), (21, .d (D.int .i64 w5)), (22, .d (D.int .i64 h10)), (38, .d (D.bool w158))], []⟩) m h108
  | 0, _ => rfl
  | m + 1, h108 => (ref19_Proper_p9_eq n a0 a1 a2 h10 h108 w5 (loopK (vexec (ref19_Proper_C n) n ref19_Proper_c9) m k)).trans (ref19_Proper_p9_congr n a0 a1 a2 h10 h108 w5 (rfl) (fun w157 => ref19_Proper_r10_eq n a0 a1 a2 h10 w5 k m w157) (fun w158 => rfl))
theorem ref19_Proper_p10_eq {R : Type} (n : Nat) (a0 : Int) (a1 : List (List D)) (a2 : List (List D)) (h10 : Int) (w5 : Int) (k : Exit → St → Option R) : vexec (ref19_Proper_C n) n ref19_Proper_c10 ⟨63, [(0, .d (D.int .i64 a0)), (1, .d (D.sl 3 a1)), (2, .d (D.sl 1 a2)), (7, .d (D.int .i64 h10)), (8, .d (D.int .i64 (0 : Int))), (21, .d (D.int .i64 w5)), (22, .d (D.int .i64 h10))], []⟩ k = ref19_Proper_p10 n a0 a1 a2 h10 w5 (k .ret ⟨63, [(6, .d (D.bool false))], []⟩) (fun h108 w158 => k (.exit 2) ⟨63, [(0, .d (D.int .i64 a0)), (1, .d (D.sl 3 a1)), (2, .d (D.sl 1 a2)), (7, .d (D.int .i64 h10)), (8, .d (D.int .i64 h108)), (21, .d (D.int .i64 w5)), (22, .d (D.int .i64 h10)), (38, .d (D.bool w158))], []⟩) := by
  rw [ref19_Proper_c10_eq]
  exact ref19_Proper_r10_eq n a0 a1 a2 h10 w5 k n (0 : Int)
theorem ref19_Proper_p11_eq {R : Type} (n : Nat) (a0 : Int) (a1 : List (List D)) (a2 : List (List D)) (h10 : Int) (w5 : Int) (k : Exit → St → Option R) : vexec (ref19_Proper_C n) n ref19_Proper_c11 ⟨63, [(0, .d (D.int .i64 a0)), (1, .d (D.sl 3 a1)), (2, .d (D.sl 1 a2)), (7, .d (D.int .i64 h10)), (8, .d (D.int .i64 (0 : Int))), (21, .d (D.int .i64 w5)), (22, .d (D.int .i64 h10))], []⟩ k = ref19_Proper_p11 n a0 a1 a2 h10 w5 (k .ret ⟨63, [(6, .d (D.bool false))], []⟩) (fun w159 w160 => k .normal ⟨63, [(0, .d (D.int .i64 a0)), (1, .d (D.sl 3 a1)), (2, .d (D.sl 1 a2)), (7, .d (D.int .i64 h10)), (8, .d (D.int .i64 w159)), (21, .d (D.int .i64 w5)), (22, .d (D.int .i64 h10)), (38, .d (D.bool w160))], []⟩) := by
  rw [ref19_Proper_c11_eq]
  unfold ref19_Proper_p11
  exact (ref19_Proper_p10_eq n a0 a1 a2 h10 w5 (blockK 2 k)).trans (ref19_Proper_p10_congr n a0 a1 a2 h10 w5 (rfl) (fun w159 w160 => rfl))
theorem ref19_Proper_p12_eq {R : Type} (n : Nat) (a0 : Int) (a1 : List (List D)) (a2 : List (List D)) (h10 : Int) (w5 : Int) (w103 : Bool) (k : Exit → St → Option R) : vexec (ref19_Proper_C n) n ref19_Proper_c12 ⟨63, [(0, .d (D.int .i64 a0)), (1, .d (D.sl 3 a1)), (2, .d (D.sl 1 a2)), (7, .d (D.int .i64 h10)), (21, .d (D.int .i64 w5)), (22, .d (D.int .i64 h10)), (35, .d (D.bool w103))], []⟩ k = ref19_Proper_p12 n a0 a1 a2 h10 w5 w103 (k .ret ⟨63, [(6, .d (D.bool false))], []⟩) (fun w161 w162 => k .normal ⟨63, [(0, .d (D.int .i64 a0)), (1, .d (D.sl 3 a1)), (2, .d (D.sl 1 a2)), (7, .d (D.int .i64 h10)), (8, .d (D.int .i64 w161)), (21, .d (D.int .i64 w5)), (22, .d (D.int .i64 h10)), (38, .d (D.bool w162))], []⟩) := by
  rw [ref19_Proper_c12_eq]
  unfold ref19_Proper_p12
  exact (ref19_Proper_p8_eq n a0 a1 a2 h10 w5 w103 (seqK (ref19_Proper_C n) n ref19_Proper_c11 k)).trans (ref19_Proper_p8_congr n a0 a1 a2 h10 w5 w103 (ref19_Proper_p11_eq n a0 a1 a2 h10 w5 k))
theorem ref19_Proper_p13_eq {R : Type} (n : Nat) (a0 : Int) (a1 : List (List D)) (a2 : List (List D)) (h10 : Int) (w5 : Int) (k : Exit → St → Option R) : vexec (ref19_Proper_C n) n ref19_Proper_c13 ⟨63, [(0, .d (D.int .i64 a0)), (1, .d (D.sl 3 a1)), (2, .d (D.sl 1 a2)), (7, .d (D.int .i64 h10)), (21, .d (D.int .i64 w5)), (22, .d (D.int .i64 h10))], []⟩ k = ref19_Proper_p13 n a0 a1 a2 h10 w5 (k .ret ⟨63, [(6, .d (D.bool false))], []⟩) (fun w163 w164 => k .normal ⟨63, [(0, .d (D.int .i64 a0)), (1, .d (D.sl 3 a1)), (2, .d (D.sl 1 a2)), (7, .d (D.int .i64 h10)), (8, .d (D.int .i64 w163)), (21, .d (D.int .i64 w5)), (22, .d (D.int .i64 h10)), (38, .d (D.bool w164))], []⟩) := by
  rw [ref19_Proper_c13_eq]
  unfold ref19_Proper_p13
  exact (ref19_Proper_p7_eq n a0 a1 a2 h10 w5 (seqK (ref19_Proper_C n) n ref19_Proper_c12 k)).trans (ref19_Proper_p7_congr n a0 a1 a2 h10 w5 (rfl) (fun w103 => ref19_Proper_p12_eq n a0 a1 a2 h10 w5 w103 k))
theorem ref19_Proper_p14_eq {R : Type} (n : Nat) (a0 : Int) (a1 : List (List D)) (a2 : List (List D)) (w5 : Int) (h10 : Int) (w94 : Bool) (k : Exit → St → Option R) : vexec (ref19_Proper_C n) n ref19_Proper_c14 ⟨63, [(0, .d (D.int .i64 a0)), (1, .d (D.sl 3 a1)), (2, .d (D.sl 1 a2)), (21, .d (D.int .i64 w5)), (22, .d (D.int .i64 h10)), (23, .d (D.bool w94))], []⟩ k = ref19_Proper_p14 n a0 a1 a2 w5 h10 w94 (k .ret ⟨63, [(6, .d (D.bool false))], []⟩) (fun w165 w166 => k .normal ⟨63, [(0, .d (D.int .i64 a0)), (1, .d (D.sl 3 a1)), (2, .d (D.sl 1 a2)), (7, .d (D.int .i64 h10)), (8, .d (D.int .i64 w165)), (21, .d (D.int .i64 w5)), (22, .d (D.int .i64 h10)), (38, .d (D.bool w166))], []⟩) := by
  rw [ref19_Proper_c14_eq]
  unfold ref19_Proper_p14
  exact (ref19_Proper_p6_eq n a0 a1 a2 w5 h10 w94 (seqK (ref19_Proper_C n) n ref19_Proper_c13 k)).trans (ref19_Proper_p6_congr n a0 a1 a2 w5 h10 w94 (ref19_Proper_p13_eq n a0 a1 a2 h10 w5 k))
theorem ref19_Proper_p15_eq {R : Type} (n : Nat) (a0 : Int) (a1 : List (List D)) (a2 : List (List D)) (w5 : Int) (h10 : Int) (w94 : Bool) (k : Exit → St → Option R) : vexec (ref19_Proper_C n) n ref19_Proper_c15 ⟨63, [(0, .d (D.int .i64 a0)), (1, .d (D.sl 3 a1)), (2, .d (D.sl 1 a2)), (21, .d (D.int .i64 w5)), (22, .d (D.int .i64 h10)), (23, .d (D.bool w94))], []⟩ k = ref19_Proper_p15 n a0 a1 a2 w5 h10 w94 (k .ret ⟨63, [(6, .d (D.bool false))], []⟩) (fun w167 w168 => k .normal ⟨63, [(0, .d (D.int .i64 a0)), (1, .d (D.sl 3 a1)), (2, .d (D.sl 1 a2)), (7, .d (D.int .i64 h10)), (8, .d (D.int .i64 w167)), (21, .d (D.int .i64 w5)), (22, .d (D.int .i64 h10)), (38, .d (D.bool w168))], []⟩) := by
  rw [ref19_Proper_c15_eq]
  unfold ref19_Proper_p15
  exact (ref19_Proper_p14_eq n a0 a1 a2 w5 h10 w94 (blockK 1 k)).trans (ref19_Proper_p14_congr n a0 a1 a2 w5 h10 w94 (rfl) (fun w167 w168 => rfl))
theorem ref19_Proper_p16_eq {R : Type} (n : Nat) (a0 : Int) (a1 : List (List D)) (a2 : List (List D)) (h10 : Int) (w169 : Int) (w5 : Int) (w170 : Bool) (k : Exit → St → Option R) : vexec (ref19_Proper_C n) n ref19_Proper_c16 ⟨63, [(0, .d (D.int .i64 a0)), (1, .d (D.sl 3 a1)), (2, .d (D.sl 1 a2)), (7, .d (D.int .i64 h10)), (8, .d (D.int .i64 w169)), (21, .d (D.int .i64 w5)), (22, .d (D.int .i64 h10)), (38, .d (D.bool w170))], []⟩ k = ref19_Proper_p16 n a0 a1 a2 h10 w169 w5 w170 (fun z171 => k .normal ⟨63, [(0, .d (D.int .i64 a0)), (1, .d (D.sl 3 a1)), (2, .d (D.sl 1 a2)), (21, .d (D.int .i64 w5)), (22, .d (D.int .i64 z171))], []⟩) := by kernel_rfl
theorem ref19_Proper_p17_eq {R : Type} (n : Nat) (a0 : Int) (a1 : List (List D)) (a2 : List (List D)) (w5 : Int) (h10 : Int) (w94 : Bool) (k : Exit → St → Option R) : vexec (ref19_Proper_C n) n ref19_Proper_c17 ⟨63, [(0, .d (D.int .i64 a0)), (1, .d (D.sl 3 a1)), (2, .d (D.sl 1 a2)), (21, .d (D.int .i64 w5)), (22, .d (D.int .i64 h10)), (23, .d (D.bool w94))], []⟩ k = ref19_Proper_p17 n a0 a1 a2 w5 h10 w94 (k .ret ⟨63, [(6, .d (D.bool false))], []⟩) (fun w172 => k .normal ⟨63, [(0, .d (D.int .i64 a0)), (1, .d (D.sl 3 a1)), (2, .d (D.sl 1 a2)), (21, .d (D.int .i64 w5)), (22, .d (D.int .i64 w172))], []⟩) := by
  rw [ref19_Proper_c17_eq]
  unfold ref19_Proper_p17
  exact (ref19_Proper_p15_eq n a0 a1 a2 w5 h10 w94 (seqK (ref19_Proper_C n) n ref19_Proper_c16 k)).trans (ref19_Proper_p15_congr n a0 a1 a2 w5 h10 w94 (rfl) (fun w169 w170 => ref19_Proper_p16_eq n a0 a1 a2 h10 w169 w5 w170 k))
theorem ref19_Proper_p18_eq {R : Type} (n : Nat) (a0 : Int) (a1 : List (List D)) (a2 : List (List D)) (w5 : Int) (h10 : Int) (w94 : Bool) (k : Exit → St → Option R) : vexec (ref19_Proper_C n) n ref19_Proper_c18 ⟨63, [(0, .d (D.int .i64 a0)), (1, .d (D.sl 3 a1)), (2, .d (D.sl 1 a2)), (21, .d (D.int .i64 w5)), (22, .d (D.int .i64 h10)), (23, .d (D.bool w94))], []⟩ k = ref19_Proper_p18 n a0 a1 a2 w5 h10 w94 (k .ret ⟨63, [(6, .d (D.bool false))], []⟩) (fun w173 => k .normal ⟨63, [(0, .d (D.int .i64 a0)), (1, .d (D.sl 3 a1)), (2, .d (D.sl 1 a2)), (21, .d (D.int .i64 w5)), (22, .d (D.int .i64 w173))], []⟩) (k (.exit 0) ⟨63, [(0, .d (D.int .i64 a0)), (1, .d (D.sl 3 a1)), (2, .d (D.sl 1 a2)), (21, .d (D.int .i64 w5)), (22, .d (D.int .i64 h10)), (23, .d (D.bool w94))], []⟩) := by
  rw [ref19_Proper_c18_eq]
  unfold ref19_Proper_p18
  exact (ref19_Proper_p5_eq n a0 a1 a2 w5 h10 w94 (seqK (ref19_Proper_C n) n ref19_Proper_c17 k)).trans (ref19_Proper_p5_congr n a0 a1 a2 w5 h10 w94 (ref19_Proper_p17_eq n a0 a1 a2 w5 h10 w94 k) (rfl))
theorem ref19_Proper_p19_eq {R : Type} (n : Nat) (a0 : Int) (a1 : List (List D)) (a2 : List (List D)) (w5 : Int) (h10 : Int) (k : Exit → St → Option R) : vexec (ref19_Proper_C n) n ref19_Proper_c19 ⟨63, [(0, .d (D.int .i64 a0)), (1, .d (D.sl 3 a1)), (2, .d (D.sl 1 a2)), (21, .d (D.int .i64 w5)), (22, .d (D.int .i64 h10))], []⟩ k = ref19_Proper_p19 n a0 a1 a2 w5 h10 (k .ret ⟨63, [(6, .d (D.bool false))], []⟩) (fun w174 => k .normal ⟨63, [(0, .d (D.int .i64 a0)), (1, .d (D.sl 3 a1)), (2, .d (D.sl 1 a2)), (21, .d (D.int .i64 w5)), (22, .d (D.int .i64 w174))], []⟩) (fun w94 => k (.exit 0) ⟨63, [(0, .d (D.int .i64 a0)), (1, .d (D.sl 3 a1)), (2, .d (D.sl 1 a2)), (21, .d (D.int .i64 w5)), (22, .d (D.int .i64 h10)), (23, .d (D.bool w94))], []⟩) := by
  rw [ref19_Proper_c19_eq]
  unfold ref19_Proper_p19
  exact (ref19_Proper_p4_eq n a0 a1 a2 w5 h10 (seqK (ref19_Proper_C n) n ref19_Proper_c18 k)).trans (ref19_Proper_p4_congr n a0 a1 a2 w5 h10 (fun w94 => ref19_Proper_p18_eq n a0 a1 a2 w5 h10 w94 k))
theorem ref19_Proper_r20_eq {R : Type} (n : Nat) (a0 : Int) (a1 : List (List D)) (a2 : List (List D)) (w5 : Int) (k : Exit → St → Option R) : ∀ (m : Nat) (h10 : Int), loopN (vexec (ref19_Proper_C n) n ref19_Proper_c19) m ⟨63, [(0, .d (D.int .i64 a0)), (1, .d (D.sl 3 a1)), (2, .d (D.sl 1 a2)), (21, .d (D.int .i64 w5)), (22, .d (D.int .i64 h10))], []⟩ k = ref19_Proper_r20 n a0 a1 a2 w5 (k .ret ⟨63, [(6, .d (D.bool false))], []⟩) (fun h10 w176 => k (.exit 0) ⟨63, [(0, .d (D.int .i64 a0)), (1, .d (D.sl 3 a1)), (2, .d (D.sl 1 a2)), (21, .d (D.int .i64 w5)), (22, .d (D.int .i64 h10)), (23, .d (D.bool w176))], []⟩) m h10
  | 0, _ => rfl
  | m + 1, h10 => (ref19_Proper_p19_eq n a0 a1 a2 w5 h10 (loopK (vexec (ref19_Proper_C n) n ref19_Proper_c19) m k)).trans (ref19_Proper_p19_congr n a0 a1 a2 w5 h10 (rfl) (fun w175 => ref19_Proper_r20_eq n a0 a1 a2 w5 k m w175) (fun w176 => rfl))
theorem ref19_Proper_p20_eq {R : Type} (n : Nat) (a0 : Int) (a1 : List (List D)) (a2 : List (List D)) (w5 : Int) (k : Exit → St → Option R) : vexec (ref19_Proper_C n) n ref19_Proper_c20 ⟨63, [(0, .d (D.int .i64 a0)), (1, .d (D.sl 3 a1)), (2, .d (D.sl 1 a2)), (21, .d (D.int .i64 w5)), (22, .d (D.int .i64 (0 : Int)))], []⟩ k = ref19_Proper_p20 n a0 a1 a2 w5 (k .ret ⟨63, [(6, .d (D.bool false))], []⟩) (fun h10 w176 => k (.exit 0) ⟨63, [(0, .d (D.int .i64 a0)), (1, .d (D.sl 3 a1)), (2, .d (D.sl 1 a2)), (21, .d (D.int .i64 w5)), (22, .d (D.int .i64 h10)), (23, .d (D.bool w176))], []⟩) := by
  rw [ref19_Proper_c20_eq]
  exact ref19_Proper_r20_eq n a0 a1 a2 w5 k n (0 : Int)
theorem ref19_Proper_p21_eq {R : Type} (n : Nat) (a0 : Int) (a1 : List (List D)) (a2 : List (List D)) (w5 : Int) (k : Exit → St → Option R) : vexec (ref19_Proper_C n) n ref19_Proper_c21 ⟨63, [(0, .d (D.int .i64 a0)), (1, .d (D.sl 3 a1)), (2, .d (D.sl 1 a2)), (21, .d (D.int .i64 w5)), (22, .d (D.int .i64 (0 : Int)))], []⟩ k = ref19_Proper_p21 n a0 a1 a2 w5 (k .ret ⟨63, [(6, .d (D.bool false))], []⟩) (fun w177 w178 => k .normal ⟨63, [(0, .d (D.int .i64 a0)), (1, .d (D.sl 3 a1)), (2, .d (D.sl 1 a2)), (21, .d (D.int .i64 w5)), (22, .d (D.int .i64 w177)), (23, .d (D.bool w178))], []⟩) := by
  rw [ref19_Proper_c21_eq]
  unfold ref19_Proper_p21
  exact (ref19_Proper_p20_eq n a0 a1 a2 w5 (blockK 0 k)).trans (ref19_Proper_p20_congr n a0 a1 a2 w5 (rfl) (fun w177 w178 => rfl))
theorem ref19_Proper_p22_eq {R : Type} (n : Nat) (a0 : Int) (a1 : List (List D)) (a2 : List (List D)) (w3 : Bool) (k : Exit → St → Option R) : vexec (ref19_Proper_C n) n ref19_Proper_c22 ⟨63, [(0, .d (D.int .i64 a0)), (1, .d (D.sl 3 a1)), (2, .d (D.sl 1 a2)), (19, .d (D.bool w3))], []⟩ k = ref19_Proper_p22 n a0 a1 a2 w3 (k .ret ⟨63, [(6, .d (D.bool false))], []⟩) (fun w5 w179 w180 => k .normal ⟨63, [(0, .d (D.int .i64 a0)), (1, .d (D.sl 3 a1)), (2, .d (D.sl 1 a2)), (21, .d (D.int .i64 w5)), (22, .d (D.int .i64 w179)), (23, .d (D.bool w180))], []⟩) := by
  rw [ref19_Proper_c22_eq]
  unfold ref19_Proper_p22
  exact (ref19_Proper_p3_eq n a0 a1 a2 w3 (seqK (ref19_Proper_C n) n ref19_Proper_c21 k)).trans (ref19_Proper_p3_congr n a0 a1 a2 w3 (fun w5 => ref19_Proper_p21_eq n a0 a1 a2 w5 k))
theorem ref19_Proper_p23_eq {R : Type} (n : Nat) (a0 : Int) (a1 : List (List D)) (a2 : List (List D)) (w181 : Int) (w182 : Int) (w183 : Bool) (k : Exit → St → Option R) : vexec (ref19_Proper_C n) n ref19_Proper_c23 ⟨63, [(0, .d (D.int .i64 a0)), (1, .d (D.sl 3 a1)), (2, .d (D.sl 1 a2)), (21, .d (D.int .i64 w181)), (22, .d (D.int .i64 w182)), (23, .d (D.bool w183))], []⟩ k = ref19_Proper_p23 n a0 a1 a2 w181 w182 w183 (k .ret ⟨63, [(6, .d (D.bool true))], []⟩) := by kernel_rfl
theorem ref19_Proper_p24_eq {R : Type} (n : Nat) (a0 : Int) (a1 : List (List D)) (a2 : List (List D)) (w3 : Bool) (k : Exit → St → Option R) : vexec (ref19_Proper_C n) n ref19_Proper_c24 ⟨63, [(0, .d (D.int .i64 a0)), (1, .d (D.sl 3 a1)), (2, .d (D.sl 1 a2)), (19, .d (D.bool w3))], []⟩ k = ref19_Proper_p24 n a0 a1 a2 w3 (fun z184 => k .ret ⟨63, [(6, .d (D.bool z184))], []⟩) := by
  rw [ref19_Proper_c24_eq]
  unfold ref19_Proper_p24
  exact (ref19_Proper_p22_eq n a0 a1 a2 w3 (seqK (ref19_Proper_C n) n ref19_Proper_c23 k)).trans (ref19_Proper_p22_congr n a0 a1 a2 w3 (rfl) (fun w181 w182 w183 => ref19_Proper_p23_eq n a0 a1 a2 w181 w182 w183 k))
theorem ref19_Proper_p25_eq {R : Type} (n : Nat) (a0 : Int) (a1 : List (List D)) (a2 : List (List D)) (k : Exit → St → Option R) : vexec (ref19_Proper_C n) n ref19_Proper_c25 ⟨63, [(0, .d (D.int .i64 a0)), (1, .d (D.sl 3 a1)), (2, .d (D.sl 1 a2))], []⟩ k = ref19_Proper_p25 n a0 a1 a2 (fun z186 => k .ret ⟨63, [(6, .d (D.bool z186))], []⟩) := by
  rw [ref19_Proper_c25_eq]
  unfold ref19_Proper_p25
  exact (ref19_Proper_p2_eq n a0 a1 a2 (seqK (ref19_Proper_C n) n ref19_Proper_c24 k)).trans (ref19_Proper_p2_congr n a0 a1 a2 (rfl) (fun w3 => ref19_Proper_p24_eq n a0 a1 a2 w3 k))
theorem ref19_Proper_p26_eq {R : Type} (n : Nat) (a0 : Int) (a1 : List (List D)) (a2 : List (List D)) (k : Exit → St → Option R) : vexec (ref19_Proper_C n) n ref19_Proper_c0 ⟨63, [(0, .d (D.int .i64 a0)), (1, .d (D.sl 3 a1)), (2, .d (D.sl 1 a2))], []⟩ k = ref19_Proper_p26 n a0 a1 a2 (fun w187 => k .ret ⟨63, [(6, .d (D.bool w187))], []⟩) := by
  rw [ref19_Proper_c0_eq]
  unfold ref19_Proper_p26
  exact (ref19_Proper_p1_eq n a0 a1 a2 (seqK (ref19_Proper_C n) n ref19_Proper_c25 k)).trans (ref19_Proper_p1_congr n a0 a1 a2 (ref19_Proper_p25_eq n a0 a1 a2 k))
theorem ref19_Proper_vfn {R : Type} (n : Nat) (a0 : Int) (a1 : List (List D)) (a2 : List (List D)) (K : AV → Option R) : vfn (ref19_Proper_C n) n Try.f18 [.d (D.int .i64 a0), .d (D.sl 3 a1), .d (D.sl 1 a2)] [] (retF [[0]] K) = ref19_Proper n a0 a1 a2 (fun r0 => K (.d (D.bool r0))) :=
  (show vfn (ref19_Proper_C n) n Try.f18 [.d (D.int .i64 a0), .d (D.sl 3 a1), .d (D.sl 1 a2)] [] (retF [[0]] K) = vexec (ref19_Proper_C n) n ref19_Proper_c0 ⟨63, [(0, .d (D.int .i64 a0)), (1, .d (D.sl 3 a1)), (2, .d (D.sl 1 a2))], []⟩ (retX ref19_Proper_tt [.tmp 6] (retF [[0]] K)) from vfn_at (by kernel_rfl) (by kernel_rfl) rfl (by kernel_rfl) rfl (by kernel_rfl) rfl).trans ((ref19_Proper_p26_eq n a0 a1 a2 (retX ref19_Proper_tt [.tmp 6] (retF [[0]] K))).trans (by kernel_rfl))
def ref19_Proper_K : AV → Option (Bool) := fun av => match av with
  | .d (D.bool r0) => some r0
  | _ => none
def ref19_Proper_e (n : Nat) : Entry := fun _ _ g avs _ k => match avs with
  | [c0, c1, c2] => prI g .i64 c0 fun a0 => prS g 3 c1 fun a1 => prS g 1 c2 fun a2 => 
    gb g (ref19_Proper n a0 a1 a2 some) false fun r => k ⟨.d (D.bool r), [], []⟩
  | _ => none
theorem ref19_Proper_ok (n : Nat) : EntryOK Try.prog 18 (ref19_Proper_e n) := by
  intro R site g avs hl k r h
  unfold ref19_Proper_e at h
  split at h
  rotate_left
  · cases h
  replace h := prI_some h
  obtain ⟨a0, h, le0⟩ := h
  replace h := prS_some h
  obtain ⟨a1, h, le1⟩ := h
  replace h := prS_some h
  obtain ⟨a2, h, le2⟩ := h
  replace h := gb_some h
  obtain ⟨res, h, hr⟩ := h
  refine ⟨_, h, fun hg => CallOK.conv (avs' := [.d (D.int .i64 a0), .d (D.sl 3 a1), .d (D.sl 1 a2)]) (.cons (le0 hg) (.cons (le1 hg) (.cons (le2 hg) (.nil)))) (callOK_fix (K := ref19_Proper_K) (res := res) (ref19_Proper_VC n) (fn := Try.f18) (n := n) (by kernel_rfl) (by kernel_rfl) (by kernel_rfl) (ss := [[0]]) rfl ?_ ?_)⟩
  · exact (ref19_Proper_vfn n a0 a1 a2 ref19_Proper_K).trans (hr hg)
  · intro x hx
    unfold ref19_Proper_K at hx
    split at hx
    · injection hx with hx; subst hx; rfl
    · cases hx
end Go.Vx
/-
  ref19_assigner_visit: the interpreter computes the pure function
-/
set_option linter.unusedVariables false
set_option linter.unusedSimpArgs false
set_option maxRecDepth 100000
namespace Go.Vx
open Go.Proofs
noncomputable def ref19_assigner_visit_c0 : Code := bodyOf Try.f39
noncomputable def ref19_assigner_visit_c1 : Code := cL (bodyOf Try.f39)
noncomputable def ref19_assigner_visit_c2 : Code := cL (cR (bodyOf Try.f39))
noncomputable def ref19_assigner_visit_c3 : Code := cL (cR (cR (bodyOf Try.f39)))
noncomputable def ref19_assigner_visit_c4 : Code := cL (cL (cR (cR (cR (bodyOf Try.f39)))))
noncomputable def ref19_assigner_visit_c5 : Code := cB (cB (cR (cL (cR (cR (cR (bodyOf Try.f39)))))))
noncomputable def ref19_assigner_visit_c6 : Code := cB (cR (cL (cR (cR (cR (bodyOf Try.f39))))))
noncomputable def ref19_assigner_visit_c7 : Code := cR (cL (cR (cR (cR (bodyOf Try.f39)))))
noncomputable def ref19_assigner_visit_c8 : Code := cL (cR (cR (cR (bodyOf Try.f39))))
noncomputable def ref19_assigner_visit_c9 : Code := cR (cR (cR (cR (bodyOf Try.f39))))
noncomputable def ref19_assigner_visit_c10 : Code := cR (cR (cR (bodyOf Try.f39)))
noncomputable def ref19_assigner_visit_c11 : Code := cR (cR (bodyOf Try.f39))
noncomputable def ref19_assigner_visit_c12 : Code := cR (bodyOf Try.f39)
theorem ref19_assigner_visit_c6_eq : ref19_assigner_visit_c6 = .loop ref19_assigner_visit_c5 := by kernel_rfl
theorem ref19_assigner_visit_c7_eq : ref19_assigner_visit_c7 = .block 0 ref19_assigner_visit_c6 := by kernel_rfl
theorem ref19_assigner_visit_c8_eq : ref19_assigner_visit_c8 = .seq ref19_assigner_visit_c4 ref19_assigner_visit_c7 := by kernel_rfl
theorem ref19_assigner_visit_c10_eq : ref19_assigner_visit_c10 = .seq ref19_assigner_visit_c8 ref19_assigner_visit_c9 := by kernel_rfl
theorem ref19_assigner_visit_c11_eq : ref19_assigner_visit_c11 = .seq ref19_assigner_visit_c3 ref19_assigner_visit_c10 := by kernel_rfl
theorem ref19_assigner_visit_c12_eq : ref19_assigner_visit_c12 = .seq ref19_assigner_visit_c2 ref19_assigner_visit_c11 := by kernel_rfl
theorem ref19_assigner_visit_c0_eq : ref19_assigner_visit_c0 = .seq ref19_assigner_visit_c1 ref19_assigner_visit_c12 := by kernel_rfl
def ref19_assigner_visit_tt : TT := [(3, ⟨.int .i64, 1, 8, [.int .i64 0], [.int .i64 0], [], none⟩), (4, ⟨.bool, 1, 1, [.bool false], [.bool false], [], none⟩), (22, ⟨.sl 3 1, 1, 24, [.slice none 0 0], [.sl 1 []], [], none⟩), (24, ⟨.sl 28 3, 1, 24, [.slice none 0 0], [.sl 3 []], [], none⟩), (28, ⟨.struct, 3, 40, [.int .i64 0, .int .i64 0, .slice none 0 0], [.int .i64 0, .int .i64 0, .sl 1 []], [(0, 3), (1, 3), (2, 22)], none⟩), (60, ⟨.struct, 6, 80, [.int .i64 0, .slice none 0 0, .int .i64 0, .int .i64 0, .bool false, .slice none 0 0], [.int .i64 0, .sl 3 [], .int .i64 0, .int .i64 0, .bool false, .sl 1 []], [(0, 3), (1, 24), (2, 3), (3, 3), (4, 4), (5, 22)], none⟩)]
theorem ref19_assigner_visit_tt_eq : mkTT Try.prog [3, 4, 22, 24, 28, 60] = ref19_assigner_visit_tt := by kernel_rfl
def ref19_assigner_visit_cfg : List (Nat × Cfg) := [(0, ⟨[0], [(1000000, 1000000)], [], [], []⟩), (1, ⟨[0, 3], [(1000000, 1000000)], [], [], []⟩), (2, ⟨[0, 3, 16], [(1000000, 1000000)], [], [], []⟩), (3, ⟨[2], [(1000000, 1000000)], [], [], []⟩), (4, ⟨[0, 3, 25, 26], [(1000000, 1000000)], [], [], []⟩), (5, ⟨[0, 3, 25, 26, 27], [(1000000, 1000000)], [], [], []⟩), (6, ⟨[0, 3, 4, 25, 26], [(1000000, 1000000)], [], [], []⟩), (7, ⟨[0, 3, 4, 25, 26], [(1000000, 1000000)], [], [], []⟩), (8, ⟨[0, 3, 4, 25, 26, 44], [(1000000, 1000000)], [], [], []⟩), (9, ⟨[], [(1000000, 1000000)], [], [], []⟩), (10, ⟨[2], [(1000000, 1000000)], [], [], []⟩), (11, ⟨[0, 3, 25, 26], [(1000000, 1000000)], [], [], [68]⟩), (12, ⟨[0, 3, 25, 26, 90], [(1000000, 1000000)], [], [], []⟩), (13, ⟨[2], [(1000000, 1000000)], [], [], []⟩), (14, ⟨[0, 3, 25, 26, 94], [(1000000, 1000000)], [], [], []⟩), (15, ⟨[2], [(1000000, 1000000)], [], [], []⟩), (16, ⟨[0, 3, 25, 26], [(1000000, 1000000)], [], [], []⟩), (17, ⟨[], [(1000000, 1000000)], [], [], []⟩), (18, ⟨[2], [(1000000, 1000000)], [], [], []⟩)]
def ref19_assigner_visit_o (n d : Nat) : Entry := fun _ site g avs hl k => match avs with
  | [c0] => 
    prP hl c0 fun l0 b0 => (match b0 with
    | [c0_0, c0_1, c0_2, c0_3, c0_4, c0_5] => prI g .i64 c0_0 fun a0_0 => prS g 3 c0_1 fun a0_1 => prI g .i64 c0_2 fun a0_2 => prI g .i64 c0_3 fun a0_3 => prB g c0_4 fun a0_4 => prS g 1 c0_5 fun a0_5 => 
    bif newsOk hl [(1000000, l0)] [] then gb g (ref19_assigner_visit_F n d a0_0 a0_1 a0_2 a0_3 a0_4 a0_5) (false, 0, [], 0, 0, false, []) fun r => k ⟨.d (D.bool r.1), [(l0, some (.box [.d (D.int .i64 r.2.1), .d (D.sl 3 r.2.2.1), .d (D.int .i64 r.2.2.2.1), .d (D.int .i64 r.2.2.2.2.1), .d (D.bool r.2.2.2.2.2.1), .d (D.sl 1 r.2.2.2.2.2.2)]))], [l0]⟩ else none
    | _ => none)
  | _ => none
def ref19_assigner_visit_C (n d : Nat) : VC := ⟨specOf [(18, ref19_Proper_e n), (39, ref19_assigner_visit_o n d)], ref19_assigner_visit_tt, ref19_assigner_visit_cfg⟩
theorem ref19_assigner_visit_ents (n d : Nat) (ih : EntryOK Try.prog 39 (ref19_assigner_visit_o n d)) : EntsOK Try.prog [(18, ref19_Proper_e n), (39, ref19_assigner_visit_o n d)] := ⟨ref19_Proper_ok n, ⟨ih, trivial⟩⟩
theorem ref19_assigner_visit_VC (n d : Nat) (ih : EntryOK Try.prog 39 (ref19_assigner_visit_o n d)) : VCOk Try.prog (ref19_assigner_visit_C n d) := ⟨specOf_ok (ref19_assigner_visit_ents n d ih), (ref19_assigner_visit_tt_eq ▸ mkTT_ok _ : TOk Try.prog ref19_assigner_visit_tt), by kernel_rfl⟩
theorem ref19_assigner_visit_p1_congr {R : Type} (n : Nat) (Fr : Int → (List (List D)) → Int → Int → Bool → (List (List D)) → Option (Bool × Int × (List (List D)) × Int × Int × Bool × (List (List D)))) (a0_0 : Int) (a0_1 : List (List D)) (a0_2 : Int) (a0_3 : Int) (a0_4 : Bool) (a0_5 : List (List D)) {k0 kk0 : Option R} (hq0 : k0 = kk0) : ref19_assigner_visit_p1 n Fr a0_0 a0_1 a0_2 a0_3 a0_4 a0_5 k0 = ref19_assigner_visit_p1 n Fr a0_0 a0_1 a0_2 a0_3 a0_4 a0_5 kk0 := by
  obtain rfl : k0 = kk0 := hq0
  rfl
theorem ref19_assigner_visit_p2_congr {R : Type} (n : Nat) (Fr : Int → (List (List D)) → Int → Int → Bool → (List (List D)) → Option (Bool × Int × (List (List D)) × Int × Int × Bool × (List (List D)))) (a0_0 : Int) (a0_1 : List (List D)) (a0_2 : Int) (a0_3 : Int) (a0_4 : Bool) (a0_5 : List (List D)) {k0 kk0 : Int → Option R} (hq0 : ∀ x0, k0 x0 = kk0 x0) : ref19_assigner_visit_p2 n Fr a0_0 a0_1 a0_2 a0_3 a0_4 a0_5 k0 = ref19_assigner_visit_p2 n Fr a0_0 a0_1 a0_2 a0_3 a0_4 a0_5 kk0 := by
  obtain rfl : k0 = kk0 := funext fun x0 => hq0 x0
  rfl
theorem ref19_assigner_visit_p3_congr {R : Type} (n : Nat) (Fr : Int → (List (List D)) → Int → Int → Bool → (List (List D)) → Option (Bool × Int × (List (List D)) × Int × Int × Bool × (List (List D)))) (w2 : Int) (a0_0 : Int) (a0_1 : List (List D)) (a0_2 : Int) (a0_3 : Int) (a0_4 : Bool) (a0_5 : List (List D)) {k0 kk0 : Option R} {k1 kk1 : Bool → Option R} (hq0 : k0 = kk0) (hq1 : ∀ x0, k1 x0 = kk1 x0) : ref19_assigner_visit_p3 n Fr w2 a0_0 a0_1 a0_2 a0_3 a0_4 a0_5 k0 k1 = ref19_assigner_visit_p3 n Fr w2 a0_0 a0_1 a0_2 a0_3 a0_4 a0_5 kk0 kk1 := by
  obtain rfl : k0 = kk0 := hq0
  obtain rfl : k1 = kk1 := funext fun x0 => hq1 x0
  rfl
theorem ref19_assigner_visit_p4_congr {R : Type} (n : Nat) (Fr : Int → (List (List D)) → Int → Int → Bool → (List (List D)) → Option (Bool × Int × (List (List D)) × Int × Int × Bool × (List (List D)))) (w2 : Int) (w4 : Bool) (a0_0 : Int) (a0_1 : List (List D)) (a0_2 : Int) (a0_3 : Int) (a0_4 : Bool) (a0_5 : List (List D)) {k0 kk0 : Int → Option R} (hq0 : ∀ x0, k0 x0 = kk0 x0) : ref19_assigner_visit_p4 n Fr w2 w4 a0_0 a0_1 a0_2 a0_3 a0_4 a0_5 k0 = ref19_assigner_visit_p4 n Fr w2 w4 a0_0 a0_1 a0_2 a0_3 a0_4 a0_5 kk0 := by
  obtain rfl : k0 = kk0 := funext fun x0 => hq0 x0
  rfl
theorem ref19_assigner_visit_p5_congr {R : Type} (n : Nat) (Fr : Int → (List (List D)) → Int → Int → Bool → (List (List D)) → Option (Bool × Int × (List (List D)) × Int × Int × Bool × (List (List D)))) (w2 : Int) (w9 : Int) (h12 : Int) (h13 : Int) (h14 : List (List D)) (h15 : Int) (h16 : Int) (h17 : Bool) (h18 : List (List D)) {k0 kk0 : Bool → Int → (List (List D)) → Int → Int → Bool → (List (List D)) → Option R} {k1 kk1 : Int → Int → (List (List D)) → Int → Int → Bool → (List (List D)) → Option R} {k2 kk2 : Bool → Option R} (hq0 : ∀ x0 x1 x2 x3 x4 x5 x6, k0 x0 x1 x2 x3 x4 x5 x6 = kk0 x0 x1 x2 x3 x4 x5 x6) (hq1 : ∀ x0 x1 x2 x3 x4 x5 x6, k1 x0 x1 x2 x3 x4 x5 x6 = kk1 x0 x1 x2 x3 x4 x5 x6) (hq2 : ∀ x0, k2 x0 = kk2 x0) : ref19_assigner_visit_p5 n Fr w2 w9 h12 h13 h14 h15 h16 h17 h18 k0 k1 k2 = ref19_assigner_visit_p5 n Fr w2 w9 h12 h13 h14 h15 h16 h17 h18 kk0 kk1 kk2 := by
  obtain rfl : k0 = kk0 := funext fun x0 => funext fun x1 => funext fun x2 => funext fun x3 => funext fun x4 => funext fun x5 => funext fun x6 => hq0 x0 x1 x2 x3 x4 x5 x6
  obtain rfl : k1 = kk1 := funext fun x0 => funext fun x1 => funext fun x2 => funext fun x3 => funext fun x4 => funext fun x5 => funext fun x6 => hq1 x0 x1 x2 x3 x4 x5 x6
  obtain rfl : k2 = kk2 := funext fun x0 => hq2 x0
  rfl
theorem ref19_assigner_visit_p6_congr {R : Type} (n : Nat) (Fr : Int → (List (List D)) → Int → Int → Bool → (List (List D)) → Option (Bool × Int × (List (List D)) × Int × Int × Bool × (List (List D)))) (w2 : Int) (w9 : Int) (a0_0 : Int) (a0_1 : List (List D)) (a0_2 : Int) (a0_3 : Int) (a0_4 : Bool) (a0_5 : List (List D)) {k0 kk0 : Bool → Int → (List (List D)) → Int → Int → Bool → (List (List D)) → Option R} {k1 kk1 : Int → Bool → Int → (List (List D)) → Int → Int → Bool → (List (List D)) → Option R} (hq0 : ∀ x0 x1 x2 x3 x4 x5 x6, k0 x0 x1 x2 x3 x4 x5 x6 = kk0 x0 x1 x2 x3 x4 x5 x6) (hq1 : ∀ x0 x1 x2 x3 x4 x5 x6 x7, k1 x0 x1 x2 x3 x4 x5 x6 x7 = kk1 x0 x1 x2 x3 x4 x5 x6 x7) : ref19_assigner_visit_p6 n Fr w2 w9 a0_0 a0_1 a0_2 a0_3 a0_4 a0_5 k0 k1 = ref19_assigner_visit_p6 n Fr w2 w9 a0_0 a0_1 a0_2 a0_3 a0_4 a0_5 kk0 kk1 := by
  obtain rfl : k0 = kk0 := funext fun x0 => funext fun x1 => funext fun x2 => funext fun x3 => funext fun x4 => funext fun x5 => funext fun x6 => hq0 x0 x1 x2 x3 x4 x5 x6
  obtain rfl : k1 = kk1 := funext fun x0 => funext fun x1 => funext fun x2 => funext fun x3 => funext fun x4 => funext fun x5 => funext fun x6 => funext fun x7 => hq1 x0 x1 x2 x3 x4 x5 x6 x7
  rfl
theorem ref19_assigner_visit_p7_congr {R : Type} (n : Nat) (Fr : Int → (List (List D)) → Int → Int → Bool → (List (List D)) → Option (Bool × Int × (List (List D)) × Int × Int × Bool × (List (List D)))) (w2 : Int) (w9 : Int) (a0_0 : Int) (a0_1 : List (List D)) (a0_2 : Int) (a0_3 : Int) (a0_4 : Bool) (a0_5 : List (List D)) {k0 kk0 : Bool → Int → (List (List D)) → Int → Int → Bool → (List (List D)) → Option R} {k1 kk1 : Int → Bool → Int → (List (List D)) → Int → Int → Bool → (List (List D)) → Option R} (hq0 : ∀ x0 x1 x2 x3 x4 x5 x6, k0 x0 x1 x2 x3 x4 x5 x6 = kk0 x0 x1 x2 x3 x4 x5 x6) (hq1 : ∀ x0 x1 x2 x3 x4 x5 x6 x7, k1 x0 x1 x2 x3 x4 x5 x6 x7 = kk1 x0 x1 x2 x3 x4 x5 x6 x7) : ref19_assigner_visit_p7 n Fr w2 w9 a0_0 a0_1 a0_2 a0_3 a0_4 a0_5 k0 k1 = ref19_assigner_visit_p7 n Fr w2 w9 a0_0 a0_1 a0_2 a0_3 a0_4 a0_5 kk0 kk1 := by
  obtain rfl : k0 = kk0 := funext fun x0 => funext fun x1 => funext fun x2 => funext fun x3 => funext fun x4 => funext fun x5 => funext fun x6 => hq0 x0 x1 x2 x3 x4 x5 x6
  obtain rfl : k1 = kk1 := funext fun x0 => funext fun x1 => funext fun x2 => funext fun x3 => funext fun x4 => funext fun x5 => funext fun x6 => funext fun x7 => hq1 x0 x1 x2 x3 x4 x5 x6 x7
  rfl
theorem ref19_assigner_visit_p8_congr {R : Type} (n : Nat) (Fr : Int → (List (List D)) → Int → Int → Bool → (List (List D)) → Option (Bool × Int × (List (List D)) × Int × Int × Bool × (List (List D)))) (w2 : Int) (w4 : Bool) (a0_0 : Int) (a0_1 : List (List D)) (a0_2 : Int) (a0_3 : Int) (a0_4 : Bool) (a0_5 : List (List D)) {k0 kk0 : Bool → Int → (List (List D)) → Int → Int → Bool → (List (List D)) → Option R} {k1 kk1 : Int → Int → Bool → Int → (List (List D)) → Int → Int → Bool → (List (List D)) → Option R} (hq0 : ∀ x0 x1 x2 x3 x4 x5 x6, k0 x0 x1 x2 x3 x4 x5 x6 = kk0 x0 x1 x2 x3 x4 x5 x6) (hq1 : ∀ x0 x1 x2 x3 x4 x5 x6 x7 x8, k1 x0 x1 x2 x3 x4 x5 x6 x7 x8 = kk1 x0 x1 x2 x3 x4 x5 x6 x7 x8) : ref19_assigner_visit_p8 n Fr w2 w4 a0_0 a0_1 a0_2 a0_3 a0_4 a0_5 k0 k1 = ref19_assigner_visit_p8 n Fr w2 w4 a0_0 a0_1 a0_2 a0_3 a0_4 a0_5 kk0 kk1 := by
  obtain rfl : k0 = kk0 := funext fun x0 => funext fun x1 => funext fun x2 => funext fun x3 => funext fun x4 => funext fun x5 => funext fun x6 => hq0 x0 x1 x2 x3 x4 x5 x6
  obtain rfl : k1 = kk1 := funext fun x0 => funext fun x1 => funext fun x2 => funext fun x3 => funext fun x4 => funext fun x5 => funext fun x6 => funext fun x7 => funext fun x8 => hq1 x0 x1 x2 x3 x4 x5 x6 x7 x8
  rfl
theorem ref19_assigner_visit_p9_congr {R : Type} (n : Nat) (Fr : Int → (List (List D)) → Int → Int → Bool → (List (List D)) → Option (Bool × Int × (List (List D)) × Int × Int × Bool × (List (List D)))) (w2 : Int) (w125 : Int) (w126 : Int) (w127 : Bool) (w128 : Int) (w129 : List (List D)) (w130 : Int) (w131 : Int) (w132 : Bool) (w133 : List (List D)) {k0 kk0 : (List (List D)) → Option R} (hq0 : ∀ x0, k0 x0 = kk0 x0) : ref19_assigner_visit_p9 n Fr w2 w125 w126 w127 w128 w129 w130 w131 w132 w133 k0 = ref19_assigner_visit_p9 n Fr w2 w125 w126 w127 w128 w129 w130 w131 w132 w133 kk0 := by
  obtain rfl : k0 = kk0 := funext fun x0 => hq0 x0
  rfl
theorem ref19_assigner_visit_p10_congr {R : Type} (n : Nat) (Fr : Int → (List (List D)) → Int → Int → Bool → (List (List D)) → Option (Bool × Int × (List (List D)) × Int × Int × Bool × (List (List D)))) (w2 : Int) (w4 : Bool) (a0_0 : Int) (a0_1 : List (List D)) (a0_2 : Int) (a0_3 : Int) (a0_4 : Bool) (a0_5 : List (List D)) {k0 kk0 : Bool → Int → (List (List D)) → Int → Int → Bool → (List (List D)) → Option R} (hq0 : ∀ x0 x1 x2 x3 x4 x5 x6, k0 x0 x1 x2 x3 x4 x5 x6 = kk0 x0 x1 x2 x3 x4 x5 x6) : ref19_assigner_visit_p10 n Fr w2 w4 a0_0 a0_1 a0_2 a0_3 a0_4 a0_5 k0 = ref19_assigner_visit_p10 n Fr w2 w4 a0_0 a0_1 a0_2 a0_3 a0_4 a0_5 kk0 := by
  obtain rfl : k0 = kk0 := funext fun x0 => funext fun x1 => funext fun x2 => funext fun x3 => funext fun x4 => funext fun x5 => funext fun x6 => hq0 x0 x1 x2 x3 x4 x5 x6
  rfl
theorem ref19_assigner_visit_p11_congr {R : Type} (n : Nat) (Fr : Int → (List (List D)) → Int → Int → Bool → (List (List D)) → Option (Bool × Int × (List (List D)) × Int × Int × Bool × (List (List D)))) (w2 : Int) (a0_0 : Int) (a0_1 : List (List D)) (a0_2 : Int) (a0_3 : Int) (a0_4 : Bool) (a0_5 : List (List D)) {k0 kk0 : Bool → Int → (List (List D)) → Int → Int → Bool → (List (List D)) → Option R} (hq0 : ∀ x0 x1 x2 x3 x4 x5 x6, k0 x0 x1 x2 x3 x4 x5 x6 = kk0 x0 x1 x2 x3 x4 x5 x6) : ref19_assigner_visit_p11 n Fr w2 a0_0 a0_1 a0_2 a0_3 a0_4 a0_5 k0 = ref19_assigner_visit_p11 n Fr w2 a0_0 a0_1 a0_2 a0_3 a0_4 a0_5 kk0 := by
  obtain rfl : k0 = kk0 := funext fun x0 => funext fun x1 => funext fun x2 => funext fun x3 => funext fun x4 => funext fun x5 => funext fun x6 => hq0 x0 x1 x2 x3 x4 x5 x6
  rfl
theorem ref19_assigner_visit_p12_congr {R : Type} (n : Nat) (Fr : Int → (List (List D)) → Int → Int → Bool → (List (List D)) → Option (Bool × Int × (List (List D)) × Int × Int × Bool × (List (List D)))) (a0_0 : Int) (a0_1 : List (List D)) (a0_2 : Int) (a0_3 : Int) (a0_4 : Bool) (a0_5 : List (List D)) {k0 kk0 : Bool → Int → (List (List D)) → Int → Int → Bool → (List (List D)) → Option R} (hq0 : ∀ x0 x1 x2 x3 x4 x5 x6, k0 x0 x1 x2 x3 x4 x5 x6 = kk0 x0 x1 x2 x3 x4 x5 x6) : ref19_assigner_visit_p12 n Fr a0_0 a0_1 a0_2 a0_3 a0_4 a0_5 k0 = ref19_assigner_visit_p12 n Fr a0_0 a0_1 a0_2 a0_3 a0_4 a0_5 kk0 := by
  obtain rfl : k0 = kk0 := funext fun x0 => funext fun x1 => funext fun x2 => funext fun x3 => funext fun x4 => funext fun x5 => funext fun x6 => hq0 x0 x1 x2 x3 x4 x5 x6
  rfl
theorem ref19_assigner_visit_p13_congr {R : Type} (n : Nat) (Fr : Int → (List (List D)) → Int → Int → Bool → (List (List D)) → Option (Bool × Int × (List (List D)) × Int × Int × Bool × (List (List D)))) (a0_0 : Int) (a0_1 : List (List D)) (a0_2 : Int) (a0_3 : Int) (a0_4 : Bool) (a0_5 : List (List D)) {k0 kk0 : Bool → Int → (List (List D)) → Int → Int → Bool → (List (List D)) → Option R} (hq0 : ∀ x0 x1 x2 x3 x4 x5 x6, k0 x0 x1 x2 x3 x4 x5 x6 = kk0 x0 x1 x2 x3 x4 x5 x6) : ref19_assigner_visit_p13 n Fr a0_0 a0_1 a0_2 a0_3 a0_4 a0_5 k0 = ref19_assigner_visit_p13 n Fr a0_0 a0_1 a0_2 a0_3 a0_4 a0_5 kk0 := by
  obtain rfl : k0 = kk0 := funext fun x0 => funext fun x1 => funext fun x2 => funext fun x3 => funext fun x4 => funext fun x5 => funext fun x6 => hq0 x0 x1 x2 x3 x4 x5 x6
  rfl
theorem ref19_assigner_visit_p1_eq {R : Type} (n d : Nat) (a0_0 : Int) (a0_1 : List (List D)) (a0_2 : Int) (a0_3 : Int) (a0_4 : Bool) (a0_5 : List (List D)) (k : Exit → St → Option R) : vexec (ref19_assigner_visit_C n d) n ref19_assigner_visit_c1 ⟨106, [(0, .ptr 1000000 0)], [(1000000, .box [.d (D.int .i64 a0_0), .d (D.sl 3 a0_1), .d (D.int .i64 a0_2), .d (D.int .i64 a0_3), .d (D.bool a0_4), .d (D.sl 1 a0_5)])]⟩ k = ref19_assigner_visit_p1 n (ref19_assigner_visit_F n d) a0_0 a0_1 a0_2 a0_3 a0_4 a0_5 (k .normal ⟨106, [(0, .ptr 1000000 0)], [(1000000, .box [.d (D.int .i64 a0_0), .d (D.sl 3 a0_1), .d (D.int .i64 a0_2), .d (D.int .i64 a0_3), .d (D.bool a0_4), .d (D.sl 1 a0_5)])]⟩) := by kernel_rfl
theorem ref19_assigner_visit_p2_eq {R : Type} (n d : Nat) (a0_0 : Int) (a0_1 : List (List D)) (a0_2 : Int) (a0_3 : Int) (a0_4 : Bool) (a0_5 : List (List D)) (k : Exit → St → Option R) : vexec (ref19_assigner_visit_C n d) n ref19_assigner_visit_c2 ⟨106, [(0, .ptr 1000000 0)], [(1000000, .box [.d (D.int .i64 a0_0), .d (D.sl 3 a0_1), .d (D.int .i64 a0_2), .d (D.int .i64 a0_3), .d (D.bool a0_4), .d (D.sl 1 a0_5)])]⟩ k = ref19_assigner_visit_p2 n (ref19_assigner_visit_F n d) a0_0 a0_1 a0_2 a0_3 a0_4 a0_5 (fun z1 => k .normal ⟨106, [(0, .ptr 1000000 0), (3, .d (D.int .i64 z1))], [(1000000, .box [.d (D.int .i64 a0_0), .d (D.sl 3 a0_1), .d (D.int .i64 a0_2), .d (D.int .i64 a0_3), .d (D.bool a0_4), .d (D.sl 1 a0_5)])]⟩) := by kernel_rfl
theorem ref19_assigner_visit_p3_eq {R : Type} (n d : Nat) (w2 : Int) (a0_0 : Int) (a0_1 : List (List D)) (a0_2 : Int) (a0_3 : Int) (a0_4 : Bool) (a0_5 : List (List D)) (k : Exit → St → Option R) : vexec (ref19_assigner_visit_C n d) n ref19_assigner_visit_c3 ⟨106, [(0, .ptr 1000000 0), (3, .d (D.int .i64 w2))], [(1000000, .box [.d (D.int .i64 a0_0), .d (D.sl 3 a0_1), .d (D.int .i64 a0_2), .d (D.int .i64 a0_3), .d (D.bool a0_4), .d (D.sl 1 a0_5)])]⟩ k = ref19_assigner_visit_p3 n (ref19_assigner_visit_F n d) w2 a0_0 a0_1 a0_2 a0_3 a0_4 a0_5 (k .ret ⟨106, [(2, .d (D.bool true))], [(1000000, .box [.d (D.int .i64 a0_0), .d (D.sl 3 a0_1), .d (D.int .i64 a0_2), .d (D.int .i64 a0_3), .d (D.bool a0_4), .d (D.sl 1 a0_5)])]⟩) (fun z3 => k .normal ⟨106, [(0, .ptr 1000000 0), (3, .d (D.int .i64 w2)), (16, .d (D.bool z3))], [(1000000, .box [.d (D.int .i64 a0_0), .d (D.sl 3 a0_1), .d (D.int .i64 a0_2), .d (D.int .i64 a0_3), .d (D.bool a0_4), .d (D.sl 1 a0_5)])]⟩) := by kernel_rfl
theorem ref19_assigner_visit_p4_eq {R : Type} (n d : Nat) (w2 : Int) (w4 : Bool) (a0_0 : Int) (a0_1 : List (List D)) (a0_2 : Int) (a0_3 : Int) (a0_4 : Bool) (a0_5 : List (List D)) (k : Exit → St → Option R) : vexec (ref19_assigner_visit_C n d) n ref19_assigner_visit_c4 ⟨106, [(0, .ptr 1000000 0), (3, .d (D.int .i64 w2)), (16, .d (D.bool w4))], [(1000000, .box [.d (D.int .i64 a0_0), .d (D.sl 3 a0_1), .d (D.int .i64 a0_2), .d (D.int .i64 a0_3), .d (D.bool a0_4), .d (D.sl 1 a0_5)])]⟩ k = ref19_assigner_visit_p4 n (ref19_assigner_visit_F n d) w2 w4 a0_0 a0_1 a0_2 a0_3 a0_4 a0_5 (fun z8 => k .normal ⟨106, [(0, .ptr 1000000 0), (3, .d (D.int .i64 w2)), (25, .d (D.int .i64 z8)), (26, .d (D.int .i64 (0 : Int)))], [(1000000, .box [.d (D.int .i64 a0_0), .d (D.sl 3 a0_1), .d (D.int .i64 a0_2), .d (D.int .i64 a0_3), .d (D.bool a0_4), .d (D.sl 1 a0_5)])]⟩) := by kernel_rfl
theorem ref19_assigner_visit_p5_eq {R : Type} (n d : Nat) (w2 : Int) (w9 : Int) (h12 : Int) (h13 : Int) (h14 : List (List D)) (h15 : Int) (h16 : Int) (h17 : Bool) (h18 : List (List D)) (k : Exit → St → Option R) : vexec (ref19_assigner_visit_C n d) n ref19_assigner_visit_c5 ⟨106, [(0, .ptr 1000000 0), (3, .d (D.int .i64 w2)), (25, .d (D.int .i64 w9)), (26, .d (D.int .i64 h12))], [(1000000, .box [.d (D.int .i64 h13), .d (D.sl 3 h14), .d (D.int .i64 h15), .d (D.int .i64 h16), .d (D.bool h17), .d (D.sl 1 h18)])]⟩ k = ref19_assigner_visit_p5 n (ref19_assigner_visit_F n d) w2 w9 h12 h13 h14 h15 h16 h17 h18 (fun z58 z59 z60 z61 z62 z63 z64 => k .ret ⟨106, [(2, .d (D.bool z58))], [(1000000, .box [.d (D.int .i64 z59), .d (D.sl 3 z60), .d (D.int .i64 z61), .d (D.int .i64 z62), .d (D.bool z63), .d (D.sl 1 z64)])]⟩) (fun z65 z66 z67 z68 z69 z70 z71 => k .normal ⟨106, [(0, .ptr 1000000 0), (3, .d (D.int .i64 w2)), (25, .d (D.int .i64 w9)), (26, .d (D.int .i64 z65))], [(1000000, .box [.d (D.int .i64 z66), .d (D.sl 3 z67), .d (D.int .i64 z68), .d (D.int .i64 z69), .d (D.bool z70), .d (D.sl 1 z71)])]⟩) (fun z72 => k (.exit 0) ⟨106, [(0, .ptr 1000000 0), (3, .d (D.int .i64 w2)), (25, .d (D.int .i64 w9)), (26, .d (D.int .i64 h12)), (27, .d (D.bool z72))], [(1000000, .box [.d (D.int .i64 h13), .d (D.sl 3 h14), .d (D.int .i64 h15), .d (D.int .i64 h16), .d (D.bool h17), .d (D.sl 1 h18)])]⟩) := by kernel_rfl
theorem ref19_assigner_visit_r6_eq {R : Type} (n d : Nat) (w2 : Int) (w9 : Int) (k : Exit → St → Option R) : ∀ (m : Nat) (h12 : Int) (h13 : Int) (h14 : List (List D)) (h15 : Int) (h16 : Int) (h17 : Bool) (h18 : List (List D)), loopN (vexec (ref19_assigner_visit_C n d) n ref19_assigner_visit_c5) m ⟨106, [(0, .ptr 1000000 0), (3, .d (D.int .i64 w2)), (25, .d (D.int .i64 w9)), (26, .d (D.int .i64 h12))], [(1000000, .box [.d (D.int .i64 h13), .d (D.sl 3 h14), .d (D.int .i64 h15), .d (D.int .i64 h16), .d (D.bool h17), .d (D.sl 1 h18)])]⟩ k = ref19_assigner_visit_r6 n (ref19_assigner_visit_F n d) w2 w9 (fun w73 w74 w75 w76 w77 w78 w79 => k .ret ⟨106, [(2, .d (D.bool w73))], [(1000000, .box [.d (D.int .i64 w74), .d (D.sl 3 w75), .d (D.int .i64 w76), .d (D.int .i64 w77), .d (D.bool w78), .d (D.sl 1 w79)])]⟩) (fun h12 w87 h13 h14 h15 h16 h17 h18 => k (.exit 0) ⟨106, [(0, .ptr 1000000 0), (3, .d (D.int .i64 w2)), (25, .d (D.int .i64 w9)), (26, .d (D.int .i64 h12)), (27, .d (D.bool w87))], [(1000000, .box [.d (D.int .i64 h13), .d (D.sl 3 h14), .d (D.int .i64 h15), .d (D.int .i64 h16), .d (D.bool h17), .d (D.sl 1 h18)])]⟩) m h12 h13 h14 h15 h16 h17 h18
  | 0, _, _, _, _, _, _, _ => rfl
  | m + 1, h12, h13, h14, h15, h16, h17, h18 => (ref19_assigner_visit_p5_eq n d w2 w9 h12 h13 h14 h15 h16 h17 h18 (loopK (vexec (ref19_assigner_visit_C n d) n ref19_assigner_visit_c5) m k)).trans (ref19_assigner_visit_p5_congr n (ref19_assigner_visit_F n d) w2 w9 h12 h13 h14 h15 h16 h17 h18 (fun w73 w74 w75 w76 w77 w78 w79 => rfl) (fun w80 w81 w82 w83 w84 w85 w86 => ref19_assigner_visit_r6_eq n d w2 w9 k m w80 w81 w82 w83 w84 w85 w86) (fun w87 => rfl))
theorem ref19_assigner_visit_p6_eq {R : Type} (n d : Nat) (w2 : Int) (w9 : Int) (a0_0 : Int) (a0_1 : List (List D)) (a0_2 : Int) (a0_3 : Int) (a0_4 : Bool) (a0_5 : List (List D)) (k : Exit → St → Option R) : vexec (ref19_assigner_visit_C n d) n ref19_assigner_visit_c6 ⟨106, [(0, .ptr 1000000 0), (3, .d (D.int .i64 w2)), (25, .d (D.int .i64 w9)), (26, .d (D.int .i64 (0 : Int)))], [(1000000, .box [.d (D.int .i64 a0_0), .d (D.sl 3 a0_1), .d (D.int .i64 a0_2), .d (D.int .i64 a0_3), .d (D.bool a0_4), .d (D.sl 1 a0_5)])]⟩ k = ref19_assigner_visit_p6 n (ref19_assigner_visit_F n d) w2 w9 a0_0 a0_1 a0_2 a0_3 a0_4 a0_5 (fun w73 w74 w75 w76 w77 w78 w79 => k .ret ⟨106, [(2, .d (D.bool w73))], [(1000000, .box [.d (D.int .i64 w74), .d (D.sl 3 w75), .d (D.int .i64 w76), .d (D.int .i64 w77), .d (D.bool w78), .d (D.sl 1 w79)])]⟩) (fun h12 w87 h13 h14 h15 h16 h17 h18 => k (.exit 0) ⟨106, [(0, .ptr 1000000 0), (3, .d (D.int .i64 w2)), (25, .d (D.int .i64 w9)), (26, .d (D.int .i64 h12)), (27, .d (D.bool w87))], [(1000000, .box [.d (D.int .i64 h13), .d (D.sl 3 h14), .d (D.int .i64 h15), .d (D.int .i64 h16), .d (D.bool h17), .d (D.sl 1 h18)])]⟩) := by
  rw [ref19_assigner_visit_c6_eq]
  exact ref19_assigner_visit_r6_eq n d w2 w9 k n (0 : Int) a0_0 a0_1 a0_2 a0_3 a0_4 a0_5
theorem ref19_assigner_visit_p7_eq {R : Type} (n d : Nat) (w2 : Int) (w9 : Int) (a0_0 : Int) (a0_1 : List (List D)) (a0_2 : Int) (a0_3 : Int) (a0_4 : Bool) (a0_5 : List (List D)) (k : Exit → St → Option R) : vexec (ref19_assigner_visit_C n d) n ref19_assigner_visit_c7 ⟨106, [(0, .ptr 1000000 0), (3, .d (D.int .i64 w2)), (25, .d (D.int .i64 w9)), (26, .d (D.int .i64 (0 : Int)))], [(1000000, .box [.d (D.int .i64 a0_0), .d (D.sl 3 a0_1), .d (D.int .i64 a0_2), .d (D.int .i64 a0_3), .d (D.bool a0_4), .d (D.sl 1 a0_5)])]⟩ k = ref19_assigner_visit_p7 n (ref19_assigner_visit_F n d) w2 w9 a0_0 a0_1 a0_2 a0_3 a0_4 a0_5 (fun w88 w89 w90 w91 w92 w93 w94 => k .ret ⟨106, [(2, .d (D.bool w88))], [(1000000, .box [.d (D.int .i64 w89), .d (D.sl 3 w90), .d (D.int .i64 w91), .d (D.int .i64 w92), .d (D.bool w93), .d (D.sl 1 w94)])]⟩) (fun w95 w96 w97 w98 w99 w100 w101 w102 => k .normal ⟨106, [(0, .ptr 1000000 0), (3, .d (D.int .i64 w2)), (25, .d (D.int .i64 w9)), (26, .d (D.int .i64 w95)), (27, .d (D.bool w96))], [(1000000, .box [.d (D.int .i64 w97), .d (D.sl 3 w98), .d (D.int .i64 w99), .d (D.int .i64 w100), .d (D.bool w101), .d (D.sl 1 w102)])]⟩) := by
  rw [ref19_assigner_visit_c7_eq]
  unfold ref19_assigner_visit_p7
  exact (ref19_assigner_visit_p6_eq n d w2 w9 a0_0 a0_1 a0_2 a0_3 a0_4 a0_5 (blockK 0 k)).trans (ref19_assigner_visit_p6_congr n (ref19_assigner_visit_F n d) w2 w9 a0_0 a0_1 a0_2 a0_3 a0_4 a0_5 (fun w88 w89 w90 w91 w92 w93 w94 => rfl) (fun w95 w96 w97 w98 w99 w100 w101 w102 => rfl))
theorem ref19_assigner_visit_p8_eq {R : Type} (n d : Nat) (w2 : Int) (w4 : Bool) (a0_0 : Int) (a0_1 : List (List D)) (a0_2 : Int) (a0_3 : Int) (a0_4 : Bool) (a0_5 : List (List D)) (k : Exit → St → Option R) : vexec (ref19_assigner_visit_C n d) n ref19_assigner_visit_c8 ⟨106, [(0, .ptr 1000000 0), (3, .d (D.int .i64 w2)), (16, .d (D.bool w4))], [(1000000, .box [.d (D.int .i64 a0_0), .d (D.sl 3 a0_1), .d (D.int .i64 a0_2), .d (D.int .i64 a0_3), .d (D.bool a0_4), .d (D.sl 1 a0_5)])]⟩ k = ref19_assigner_visit_p8 n (ref19_assigner_visit_F n d) w2 w4 a0_0 a0_1 a0_2 a0_3 a0_4 a0_5 (fun w103 w104 w105 w106 w107 w108 w109 => k .ret ⟨106, [(2, .d (D.bool w103))], [(1000000, .box [.d (D.int .i64 w104), .d (D.sl 3 w105), .d (D.int .i64 w106), .d (D.int .i64 w107), .d (D.bool w108), .d (D.sl 1 w109)])]⟩) (fun w9 w110 w111 w112 w113 w114 w115 w116 w117 => k .normal ⟨106, [(0, .ptr 1000000 0), (3, .d (D.int .i64 w2)), (25, .d (D.int .i64 w9)), (26, .d (D.int .i64 w110)), (27, .d (D.bool w111))], [(1000000, .box [.d (D.int .i64 w112), .d (D.sl 3 w113), .d (D.int .i64 w114), .d (D.int .i64 w115), .d (D.bool w116), .d (D.sl 1 w117)])]⟩) := by
  rw [ref19_assigner_visit_c8_eq]
  unfold ref19_assigner_visit_p8
  exact (ref19_assigner_visit_p4_eq n d w2 w4 a0_0 a0_1 a0_2 a0_3 a0_4 a0_5 (seqK (ref19_assigner_visit_C n d) n ref19_assigner_visit_c7 k)).trans (ref19_assigner_visit_p4_congr n (ref19_assigner_visit_F n d) w2 w4 a0_0 a0_1 a0_2 a0_3 a0_4 a0_5 (fun w9 => ref19_assigner_visit_p7_eq n d w2 w9 a0_0 a0_1 a0_2 a0_3 a0_4 a0_5 k))
theorem ref19_assigner_visit_p9_eq {R : Type} (n d : Nat) (w2 : Int) (w125 : Int) (w126 : Int) (w127 : Bool) (w128 : Int) (w129 : List (List D)) (w130 : Int) (w131 : Int) (w132 : Bool) (w133 : List (List D)) (k : Exit → St → Option R) : vexec (ref19_assigner_visit_C n d) n ref19_assigner_visit_c9 ⟨106, [(0, .ptr 1000000 0), (3, .d (D.int .i64 w2)), (25, .d (D.int .i64 w125)), (26, .d (D.int .i64 w126)), (27, .d (D.bool w127))], [(1000000, .box [.d (D.int .i64 w128), .d (D.sl 3 w129), .d (D.int .i64 w130), .d (D.int .i64 w131), .d (D.bool w132), .d (D.sl 1 w133)])]⟩ k = ref19_assigner_visit_p9 n (ref19_assigner_visit_F n d) w2 w125 w126 w127 w128 w129 w130 w131 w132 w133 (fun z135 => k .ret ⟨106, [(2, .d (D.bool false))], [(1000000, .box [.d (D.int .i64 w128), .d (D.sl 3 w129), .d (D.int .i64 w130), .d (D.int .i64 w131), .d (D.bool w132), .d (D.sl 1 z135)])]⟩) := by kernel_rfl
theorem ref19_assigner_visit_p10_eq {R : Type} (n d : Nat) (w2 : Int) (w4 : Bool) (a0_0 : Int) (a0_1 : List (List D)) (a0_2 : Int) (a0_3 : Int) (a0_4 : Bool) (a0_5 : List (List D)) (k : Exit → St → Option R) : vexec (ref19_assigner_visit_C n d) n ref19_assigner_visit_c10 ⟨106, [(0, .ptr 1000000 0), (3, .d (D.int .i64 w2)), (16, .d (D.bool w4))], [(1000000, .box [.d (D.int .i64 a0_0), .d (D.sl 3 a0_1), .d (D.int .i64 a0_2), .d (D.int .i64 a0_3), .d (D.bool a0_4), .d (D.sl 1 a0_5)])]⟩ k = ref19_assigner_visit_p10 n (ref19_assigner_visit_F n d) w2 w4 a0_0 a0_1 a0_2 a0_3 a0_4 a0_5 (fun z137 z138 z139 z140 z141 z142 z143 => k .ret ⟨106, [(2, .d (D.bool z137))], [(1000000, .box [.d (D.int .i64 z138), .d (D.sl 3 z139), .d (D.int .i64 z140), .d (D.int .i64 z141), .d (D.bool z142), .d (D.sl 1 z143)])]⟩) := by
  rw [ref19_assigner_visit_c10_eq]
  unfold ref19_assigner_visit_p10
  exact (ref19_assigner_visit_p8_eq n d w2 w4 a0_0 a0_1 a0_2 a0_3 a0_4 a0_5 (seqK (ref19_assigner_visit_C n d) n ref19_assigner_visit_c9 k)).trans (ref19_assigner_visit_p8_congr n (ref19_assigner_visit_F n d) w2 w4 a0_0 a0_1 a0_2 a0_3 a0_4 a0_5 (fun w118 w119 w120 w121 w122 w123 w124 => rfl) (fun w125 w126 w127 w128 w129 w130 w131 w132 w133 => ref19_assigner_visit_p9_eq n d w2 w125 w126 w127 w128 w129 w130 w131 w132 w133 k))
theorem ref19_assigner_visit_p11_eq {R : Type} (n d : Nat) (w2 : Int) (a0_0 : Int) (a0_1 : List (List D)) (a0_2 : Int) (a0_3 : Int) (a0_4 : Bool) (a0_5 : List (List D)) (k : Exit → St → Option R) : vexec (ref19_assigner_visit_C n d) n ref19_assigner_visit_c11 ⟨106, [(0, .ptr 1000000 0), (3, .d (D.int .i64 w2))], [(1000000, .box [.d (D.int .i64 a0_0), .d (D.sl 3 a0_1), .d (D.int .i64 a0_2), .d (D.int .i64 a0_3), .d (D.bool a0_4), .d (D.sl 1 a0_5)])]⟩ k = ref19_assigner_visit_p11 n (ref19_assigner_visit_F n d) w2 a0_0 a0_1 a0_2 a0_3 a0_4 a0_5 (fun z151 z152 z153 z154 z155 z156 z157 => k .ret ⟨106, [(2, .d (D.bool z151))], [(1000000, .box [.d (D.int .i64 z152), .d (D.sl 3 z153), .d (D.int .i64 z154), .d (D.int .i64 z155), .d (D.bool z156), .d (D.sl 1 z157)])]⟩) := by
  rw [ref19_assigner_visit_c11_eq]
  unfold ref19_assigner_visit_p11
  exact (ref19_assigner_visit_p3_eq n d w2 a0_0 a0_1 a0_2 a0_3 a0_4 a0_5 (seqK (ref19_assigner_visit_C n d) n ref19_assigner_visit_c10 k)).trans (ref19_assigner_visit_p3_congr n (ref19_assigner_visit_F n d) w2 a0_0 a0_1 a0_2 a0_3 a0_4 a0_5 (rfl) (fun w4 => ref19_assigner_visit_p10_eq n d w2 w4 a0_0 a0_1 a0_2 a0_3 a0_4 a0_5 k))
theorem ref19_assigner_visit_p12_eq {R : Type} (n d : Nat) (a0_0 : Int) (a0_1 : List (List D)) (a0_2 : Int) (a0_3 : Int) (a0_4 : Bool) (a0_5 : List (List D)) (k : Exit → St → Option R) : vexec (ref19_assigner_visit_C n d) n ref19_assigner_visit_c12 ⟨106, [(0, .ptr 1000000 0)], [(1000000, .box [.d (D.int .i64 a0_0), .d (D.sl 3 a0_1), .d (D.int .i64 a0_2), .d (D.int .i64 a0_3), .d (D.bool a0_4), .d (D.sl 1 a0_5)])]⟩ k = ref19_assigner_visit_p12 n (ref19_assigner_visit_F n d) a0_0 a0_1 a0_2 a0_3 a0_4 a0_5 (fun w158 w159 w160 w161 w162 w163 w164 => k .ret ⟨106, [(2, .d (D.bool w158))], [(1000000, .box [.d (D.int .i64 w159), .d (D.sl 3 w160), .d (D.int .i64 w161), .d (D.int .i64 w162), .d (D.bool w163), .d (D.sl 1 w164)])]⟩) := by
  rw [ref19_assigner_visit_c12_eq]
  unfold ref19_assigner_visit_p12
  exact (ref19_assigner_visit_p2_eq n d a0_0 a0_1 a0_2 a0_3 a0_4 a0_5 (seqK (ref19_assigner_visit_C n d) n ref19_assigner_visit_c11 k)).trans (ref19_assigner_visit_p2_congr n (ref19_assigner_visit_F n d) a0_0 a0_1 a0_2 a0_3 a0_4 a0_5 (fun w2 => ref19_assigner_visit_p11_eq n d w2 a0_0 a0_1 a0_2 a0_3 a0_4 a0_5 k))
theorem ref19_assigner_visit_p13_eq {R : Type} (n d : Nat) (a0_0 : Int) (a0_1 : List (List D)) (a0_2 : Int) (a0_3 : Int) (a0_4 : Bool) (a0_5 : List (List D)) (k : Exit → St → Option R) : vexec (ref19_assigner_visit_C n d) n ref19_assigner_visit_c0 ⟨106, [(0, .ptr 1000000 0)], [(1000000, .box [.d (D.int .i64 a0_0), .d (D.sl 3 a0_1), .d (D.int .i64 a0_2), .d (D.int .i64 a0_3), .d (D.bool a0_4), .d (D.sl 1 a0_5)])]⟩ k = ref19_assigner_visit_p13 n (ref19_assigner_visit_F n d) a0_0 a0_1 a0_2 a0_3 a0_4 a0_5 (fun w165 w166 w167 w168 w169 w170 w171 => k .ret ⟨106, [(2, .d (D.bool w165))], [(1000000, .box [.d (D.int .i64 w166), .d (D.sl 3 w167), .d (D.int .i64 w168), .d (D.int .i64 w169), .d (D.bool w170), .d (D.sl 1 w171)])]⟩) := by
  rw [ref19_assigner_visit_c0_eq]
  unfold ref19_assigner_visit_p13
  exact (ref19_assigner_visit_p1_eq n d a0_0 a0_1 a0_2 a0_3 a0_4 a0_5 (seqK (ref19_assigner_visit_C n d) n ref19_assigner_visit_c12 k)).trans (ref19_assigner_visit_p1_congr n (ref19_assigner_visit_F n d) a0_0 a0_1 a0_2 a0_3 a0_4 a0_5 (ref19_assigner_visit_p12_eq n d a0_0 a0_1 a0_2 a0_3 a0_4 a0_5 k))
def ref19_assigner_visit_Ko : AV → List (Nat × Ob) → Option (Bool × Int × (List (List D)) × Int × Int × Bool × (List (List D))) := fun av H => (look H 1000000).bind fun o0 => match av, o0 with
  | .d (D.bool r0), .box [.d (D.int .i64 r1), .d (D.sl 3 r2), .d (D.int .i64 r3), .d (D.int .i64 r4), .d (D.bool r5), .d (D.sl 1 r6)] => some (r0, r1, r2, r3, r4, r5, r6)
  | _, _ => none
theorem ref19_assigner_visit_vfo (n d : Nat) (a0_0 : Int) (a0_1 : List (List D)) (a0_2 : Int) (a0_3 : Int) (a0_4 : Bool) (a0_5 : List (List D)) : vfn (ref19_assigner_visit_C n d) n Try.f39 [.ptr 1000000 0] [(1000000, .box [.d (D.int .i64 a0_0), .d (D.sl 3 a0_1), .d (D.int .i64 a0_2), .d (D.int .i64 a0_3), .d (D.bool a0_4), .d (D.sl 1 a0_5)])] ref19_assigner_visit_Ko = ref19_assigner_visit n (ref19_assigner_visit_F n d) a0_0 a0_1 a0_2 a0_3 a0_4 a0_5 (fun r0 r1 r2 r3 r4 r5 r6 => some (r0, r1, r2, r3, r4, r5, r6)) :=
  (show vfn (ref19_assigner_visit_C n d) n Try.f39 [.ptr 1000000 0] [(1000000, .box [.d (D.int .i64 a0_0), .d (D.sl 3 a0_1), .d (D.int .i64 a0_2), .d (D.int .i64 a0_3), .d (D.bool a0_4), .d (D.sl 1 a0_5)])] ref19_assigner_visit_Ko = vexec (ref19_assigner_visit_C n d) n ref19_assigner_visit_c0 ⟨106, [(0, .ptr 1000000 0)], [(1000000, .box [.d (D.int .i64 a0_0), .d (D.sl 3 a0_1), .d (D.int .i64 a0_2), .d (D.int .i64 a0_3), .d (D.bool a0_4), .d (D.sl 1 a0_5)])]⟩ (retX ref19_assigner_visit_tt [.tmp 2] ref19_assigner_visit_Ko) from vfn_at (by kernel_rfl) (by kernel_rfl) rfl (by kernel_rfl) rfl (by kernel_rfl) rfl).trans ((ref19_assigner_visit_p13_eq n d a0_0 a0_1 a0_2 a0_3 a0_4 a0_5 (retX ref19_assigner_visit_tt [.tmp 2] ref19_assigner_visit_Ko)).trans (by kernel_rfl))
theorem ref19_assigner_visit_oo (n d : Nat) : EntryOK Try.prog 39 (ref19_assigner_visit_o n d) := by
  induction d with
  | zero =>
    intro R site g avs hl k r h
    unfold ref19_assigner_visit_o at h
    split at h
    rotate_left
    · cases h
    replace h := prP_some h
    obtain ⟨l0, b0, h, e0, hb0⟩ := h
    subst e0
    split at h
    rotate_left
    · cases h
    replace h := prI_some h
    obtain ⟨a0_0, h, le0⟩ := h
    replace h := prS_some h
    obtain ⟨a0_1, h, le1⟩ := h
    replace h := prI_some h
    obtain ⟨a0_2, h, le2⟩ := h
    replace h := prI_some h
    obtain ⟨a0_3, h, le3⟩ := h
    replace h := prB_some h
    obtain ⟨a0_4, h, le4⟩ := h
    replace h := prS_some h
    obtain ⟨a0_5, h, le5⟩ := h
    replace h := bif_some h
    obtain ⟨hc, h⟩ := h
    replace h := gb_some h
    obtain ⟨res, h, hr⟩ := h
    exact ⟨_, h, fun hg => nomatch (show (none : Option (Bool × Int × (List (List D)) × Int × Int × Bool × (List (List D)))) = some res from hr hg)⟩
  | succ d ih =>
    intro R site g avs hl k r h
    unfold ref19_assigner_visit_o at h
    split at h
    rotate_left
    · cases h
    replace h := prP_some h
    obtain ⟨l0, b0, h, e0, hb0⟩ := h
    subst e0
    split at h
    rotate_left
    · cases h
    replace h := prI_some h
    obtain ⟨a0_0, h, le0⟩ := h
    replace h := prS_some h
    obtain ⟨a0_1, h, le1⟩ := h
    replace h := prI_some h
    obtain ⟨a0_2, h, le2⟩ := h
    replace h := prI_some h
    obtain ⟨a0_3, h, le3⟩ := h
    replace h := prB_some h
    obtain ⟨a0_4, h, le4⟩ := h
    replace h := prS_some h
    obtain ⟨a0_5, h, le5⟩ := h
    replace h := bif_some h
    obtain ⟨hc, h⟩ := h
    replace h := gb_some h
    obtain ⟨res, h, hr⟩ := h
    refine ⟨_, h, fun hg => CallOK.conv (avs' := [.ptr l0 0]) (.cons (.refl _) (.nil)) (callOK_own (K := ref19_assigner_visit_Ko) (res := res) (ref19_assigner_visit_VC n d ih) (fn := Try.f39) (n := n) (by kernel_rfl) (by kernel_rfl) (by kernel_rfl) (ρ := [(1000000, l0)]) (ν := []) (avs' := [.ptr 1000000 0]) (H := [(1000000, .box [.d (D.int .i64 a0_0), .d (D.sl 3 a0_1), .d (D.int .i64 a0_2), .d (D.int .i64 a0_3), .d (D.bool a0_4), .d (D.sl 1 a0_5)])]) rfl rfl rfl rfl hc (⟨⟨by decide, _, _, hb0, rfl, .cons (le0 hg) (.cons (le1 hg) (.cons (le2 hg) (.cons (le3 hg) (.cons (le4 hg) (.cons (le5 hg) (.nil)))))), rfl⟩, trivial⟩) rfl rfl ?_ ?_)⟩
    · exact (ref19_assigner_visit_vfo n d a0_0 a0_1 a0_2 a0_3 a0_4 a0_5).trans (hr hg)
    · intro av H' hx
      unfold ref19_assigner_visit_Ko at hx
      replace hx := Option.bind_eq_some_iff.1 hx
      obtain ⟨o0, ho0, hx⟩ := hx
      split at hx
      rotate_left
      · cases hx
      injection hx with hx
      subst hx
      refine ⟨rfl, ?_, ⟨by rw [ho0]; rfl, trivial⟩, ⟨⟨_, _, rfl, ho0, rfl⟩, trivial⟩⟩
      simp only [List.cons_append, List.nil_append, outWr, ho0, Option.map_some]
      rfl
end Go.Vx
/-
  ref19_Assign: the interpreter computes the pure function
-/
set_option linter.unusedVariables false
set_option linter.unusedSimpArgs false
set_option maxRecDepth 100000
namespace Go.Vx
open Go.Proofs
noncomputable def ref19_Assign_c0 : Code := bodyOf Try.f24
def ref19_Assign_tt : TT := [(3, ⟨.int .i64, 1, 8, [.int .i64 0], [.int .i64 0], [], none⟩), (4, ⟨.bool, 1, 1, [.bool false], [.bool false], [], none⟩), (22, ⟨.sl 3 1, 1, 24, [.slice none 0 0], [.sl 1 []], [], none⟩), (24, ⟨.sl 28 3, 1, 24, [.slice none 0 0], [.sl 3 []], [], none⟩), (60, ⟨.struct, 6, 80, [.int .i64 0, .slice none 0 0, .int .i64 0, .int .i64 0, .bool false, .slice none 0 0], [.int .i64 0, .sl 3 [], .int .i64 0, .int .i64 0, .bool false, .sl 1 []], [(0, 3), (1, 24), (2, 3), (3, 3), (4, 4), (5, 22)], none⟩)]
theorem ref19_Assign_tt_eq : mkTT Try.prog [3, 4, 22, 24, 60] = ref19_Assign_tt := by kernel_rfl
def ref19_Assign_cfg : List (Nat × Cfg) := [(0, ⟨[0, 1, 2], [], [], [], []⟩), (1, ⟨[0, 1, 2, 13], [], [], [], []⟩), (2, ⟨[6, 7, 8], [], [], [], []⟩), (3, ⟨[0, 1, 2, 16], [], [], [], []⟩), (4, ⟨[6, 7, 8], [], [], [], []⟩), (5, ⟨[9], [(21, 21)], [], [], []⟩), (6, ⟨[9, 22], [(21, 21)], [], [], []⟩), (7, ⟨[6, 7, 8], [], [], [], []⟩), (8, ⟨[9, 33], [(21, 21)], [], [], []⟩), (9, ⟨[6, 7, 8], [], [], [], []⟩), (10, ⟨[6, 7, 8], [], [], [], []⟩)]
def ref19_Assign_C (n : Nat) : VC := ⟨specOf [(33, ref19_ValidVisits_e n), (38, ref19_in_e n), (39, ref19_assigner_visit_o n n)], ref19_Assign_tt, ref19_Assign_cfg⟩
theorem ref19_Assign_ents (n : Nat) : EntsOK Try.prog [(33, ref19_ValidVisits_e n), (38, ref19_in_e n), (39, ref19_assigner_visit_o n n)] := ⟨ref19_ValidVisits_ok n, ⟨ref19_in_ok n, ⟨ref19_assigner_visit_oo n n, trivial⟩⟩⟩
theorem ref19_Assign_VC (n : Nat) : VCOk Try.prog (ref19_Assign_C n) := ⟨specOf_ok (ref19_Assign_ents n), (ref19_Assign_tt_eq ▸ mkTT_ok _ : TOk Try.prog ref19_Assign_tt), by kernel_rfl⟩
theorem ref19_Assign_p1_congr {R : Type} (n : Nat) (a0 : Int) (a1 : List (List D)) (a2 : Int) {k0 kk0 : Int → Int → Option R} {k1 kk1 : (List (List D)) → Int → Option R} (hq0 : ∀ x0 x1, k0 x0 x1 = kk0 x0 x1) (hq1 : ∀ x0 x1, k1 x0 x1 = kk1 x0 x1) : ref19_Assign_p1 n a0 a1 a2 k0 k1 = ref19_Assign_p1 n a0 a1 a2 kk0 kk1 := by
  obtain rfl : k0 = kk0 := funext fun x0 => funext fun x1 => hq0 x0 x1
  obtain rfl : k1 = kk1 := funext fun x0 => funext fun x1 => hq1 x0 x1
  rfl
theorem ref19_Assign_p1_eq {R : Type} (n : Nat) (a0 : Int) (a1 : List (List D)) (a2 : Int) (k : Exit → St → Option R) : vexec (ref19_Assign_C n) n ref19_Assign_c0 ⟨42, [(0, .d (D.int .i64 a0)), (1, .d (D.sl 3 a1)), (2, .d (D.int .i64 a2))], []⟩ k = ref19_Assign_p1 n a0 a1 a2 (fun z4 z5 => k .ret ⟨42, [(6, .nil), (7, .d (D.int .i64 z4)), (8, .d (D.int .i64 z5))], []⟩) (fun z6 z7 => k .ret ⟨42, [(6, .d (D.sl 1 z6)), (7, .d (D.int .i64 z7)), (8, .d (D.int .i64 (0 : Int)))], []⟩) := by kernel_rfl
theorem ref19_Assign_vfn {R : Type} (n : Nat) (a0 : Int) (a1 : List (List D)) (a2 : Int) (K : AV → Option R) : vfn (ref19_Assign_C n) n Try.f24 [.d (D.int .i64 a0), .d (D.sl 3 a1), .d (D.int .i64 a2)] [] (retF [[1], [0], [0]] K) = ref19_Assign n a0 a1 a2 (fun r0 r1 r2 => K (.tup [.d (D.sl 1 r0), .d (D.int .i64 r1), .d (D.int .i64 r2)])) :=
  (show vfn (ref19_Assign_C n) n Try.f24 [.d (D.int .i64 a0), .d (D.sl 3 a1), .d (D.int .i64 a2)] [] (retF [[1], [0], [0]] K) = vexec (ref19_Assign_C n) n ref19_Assign_c0 ⟨42, [(0, .d (D.int .i64 a0)), (1, .d (D.sl 3 a1)), (2, .d (D.int .i64 a2))], []⟩ (retX ref19_Assign_tt [.tmp 6, .tmp 7, .tmp 8] (retF [[1], [0], [0]] K)) from vfn_at (by kernel_rfl) (by kernel_rfl) rfl (by kernel_rfl) rfl (by kernel_rfl) rfl).trans ((ref19_Assign_p1_eq n a0 a1 a2 (retX ref19_Assign_tt [.tmp 6, .tmp 7, .tmp 8] (retF [[1], [0], [0]] K))).trans (by kernel_rfl))
def ref19_Assign_K : AV → Option ((List (List D)) × Int × Int) := fun av => match av with
  | .tup [.d (D.sl 1 r0), .d (D.int .i64 r1), .d (D.int .i64 r2)] => some (r0, r1, r2)
  | _ => none
def ref19_Assign_e (n : Nat) : Entry := fun _ _ g avs _ k => match avs with
  | [c0, c1, c2] => prI g .i64 c0 fun a0 => prS g 3 c1 fun a1 => prI g .i64 c2 fun a2 => 
    gb g (ref19_Assign n a0 a1 a2 (fun r0 r1 r2 => some (r0, r1, r2))) ([], 0, 0) fun r => k ⟨.tup [.d (D.sl 1 r.1), .d (D.int .i64 r.2.1), .d (D.int .i64 r.2.2)], [], []⟩
  | _ => none
theorem ref19_Assign_ok (n : Nat) : EntryOK Try.prog 24 (ref19_Assign_e n) := by
  intro R site g avs hl k r h
  unfold ref19_Assign_e at h
  split at h
  rotate_left
  · cases h
  replace h := prI_some h
  obtain ⟨a0, h, le0⟩ := h
  replace h := prS_some h
  obtain ⟨a1, h, le1⟩ := h
  replace h := prI_some h
  obtain ⟨a2, h, le2⟩ := h
  replace h := gb_some h
  obtain ⟨res, h, hr⟩ := h
  refine ⟨_, h, fun hg => CallOK.conv (avs' := [.d (D.int .i64 a0), .d (D.sl 3 a1), .d (D.int .i64 a2)]) (.cons (le0 hg) (.cons (le1 hg) (.cons (le2 hg) (.nil)))) (callOK_fix (K := ref19_Assign_K) (res := res) (ref19_Assign_VC n) (fn := Try.f24) (n := n) (by kernel_rfl) (by kernel_rfl) (by kernel_rfl) (ss := [[1], [0], [0]]) rfl ?_ ?_)⟩
  · exact (ref19_Assign_vfn n a0 a1 a2 ref19_Assign_K).trans (hr hg)
  · intro x hx
    unfold ref19_Assign_K at hx
    split at hx
    · injection hx with hx; subst hx; rfl
    · cases hx
end Go.Vx
/-
  law20_two: the interpreter computes the pure function
-/
set_option linter.unusedVariables false
set_option linter.unusedSimpArgs false
set_option maxRecDepth 100000
namespace Go.Vx
open Go.Proofs
noncomputable def law20_two_c0 : Code := bodyOf Try.f19
def law20_two_tt : TT := [(3, ⟨.int .i64, 1, 8, [.int .i64 0], [.int .i64 0], [], none⟩), (22, ⟨.sl 3 1, 1, 24, [.slice none 0 0], [.sl 1 []], [], none⟩), (24, ⟨.sl 28 3, 1, 24, [.slice none 0 0], [.sl 3 []], [], none⟩), (28, ⟨.struct, 3, 40, [.int .i64 0, .int .i64 0, .slice none 0 0], [.int .i64 0, .int .i64 0, .sl 1 []], [(0, 3), (1, 3), (2, 22)], none⟩)]
theorem law20_two_tt_eq : mkTT Try.prog [3, 22, 24, 28] = law20_two_tt := by kernel_rfl
def law20_two_cfg : List (Nat × Cfg) := [(0, ⟨[], [], [], [], []⟩), (1, ⟨[0], [(5, 5)], [], [], []⟩)]
def law20_two_C (n : Nat) : VC := ⟨specOf [], law20_two_tt, law20_two_cfg⟩
theorem law20_two_ents (n : Nat) : EntsOK Try.prog [] := trivial
theorem law20_two_VC (n : Nat) : VCOk Try.prog (law20_two_C n) := ⟨specOf_ok (law20_two_ents n), (law20_two_tt_eq ▸ mkTT_ok _ : TOk Try.prog law20_two_tt), by kernel_rfl⟩
theorem law20_two_p1_congr {R : Type} (n : Nat)  {k0 kk0 : (List (List D)) → Option R} (hq0 : ∀ x0, k0 x0 = kk0 x0) : law20_two_p1 n  k0 = law20_two_p1 n  kk0 := by
  obtain rfl : k0 = kk0 := funext fun x0 => hq0 x0
  rfl
theorem law20_two_p1_eq {R : Type} (n : Nat)  (k : Exit → St → Option R) : vexec (law20_two_C n) n law20_two_c0 ⟨6, [], []⟩ k = law20_two_p1 n  (fun z1 => k .ret ⟨6, [(0, .arr 5)], [(5, .arr 28 3 z1)]⟩) := by kernel_rfl
theorem law20_two_vfn {R : Type} (n : Nat)  (K : AV → Option R) : vfn (law20_two_C n) n Try.f19 [] [] (retF [[3]] K) = law20_two n  (fun r0 => K (.d (D.sl 3 r0))) :=
  (show vfn (law20_two_C n) n Try.f19 [] [] (retF [[3]] K) = vexec (law20_two_C n) n law20_two_c0 ⟨6, [], []⟩ (retX law20_two_tt [.tmp 0] (retF [[3]] K)) from vfn_at (by kernel_rfl) (by kernel_rfl) rfl (by kernel_rfl) rfl (by kernel_rfl) rfl).trans ((law20_two_p1_eq n  (retX law20_two_tt [.tmp 0] (retF [[3]] K))).trans (by kernel_rfl))
def law20_two_K : AV → Option (List (List D)) := fun av => match av with
  | .d (D.sl 3 r0) => some r0
  | _ => none
def law20_two_e (n : Nat) : Entry := fun _ _ g avs _ k => match avs with
  | [] => 
    gb g (law20_two n  some) [] fun r => k ⟨.d (D.sl 3 r), [], []⟩
  | _ => none
theorem law20_two_ok (n : Nat) : EntryOK Try.prog 19 (law20_two_e n) := by
  intro R site g avs hl k r h
  unfold law20_two_e at h
  split at h
  rotate_left
  · cases h
  replace h := gb_some h
  obtain ⟨res, h, hr⟩ := h
  refine ⟨_, h, fun hg => CallOK.conv (avs' := []) (.nil) (callOK_fix (K := law20_two_K) (res := res) (law20_two_VC n) (fn := Try.f19) (n := n) (by kernel_rfl) (by kernel_rfl) (by kernel_rfl) (ss := [[3]]) rfl ?_ ?_)⟩
  · exact (law20_two_vfn n  law20_two_K).trans (hr hg)
  · intro x hx
    unfold law20_two_K at hx
    split at hx
    · injection hx with hx; subst hx; rfl
    · cases hx
def law20_two_Ko : AV → List (Nat × Ob) → Option (List (List D)) := fun av H => (look H 5).bind fun o0 => match av, o0 with
  | .arr p0, .arr p1 p2 r0 => bif Nat.beq p0 5 && (Nat.beq p1 28 && (Nat.beq p2 3)) then some r0 else none
  | _, _ => none
theorem law20_two_vfo (n : Nat)  : vfn (law20_two_C n) n Try.f19 [] [] law20_two_Ko = law20_two n  some :=
  (show vfn (law20_two_C n) n Try.f19 [] [] law20_two_Ko = vexec (law20_two_C n) n law20_two_c0 ⟨6, [], []⟩ (retX law20_two_tt [.tmp 0] law20_two_Ko) from vfn_at (by kernel_rfl) (by kernel_rfl) rfl (by kernel_rfl) rfl (by kernel_rfl) rfl).trans ((law20_two_p1_eq n  (retX law20_two_tt [.tmp 0] law20_two_Ko)).trans (by kernel_rfl))
def law20_two_o (n : Nat) : Entry := fun _ site g avs hl k => match avs with
  | [] => 
    bif newsOk hl [] [(5, (site + 100000))] then gb g (law20_two n  some) [] fun r => k ⟨.arr (site + 100000), [((site + 100000), some (.arr 28 3 r))], []⟩ else none
  | _ => none
theorem law20_two_oo (n : Nat) : EntryOK Try.prog 19 (law20_two_o n) := by
  intro R site g avs hl k r h
  unfold law20_two_o at h
  split at h
  rotate_left
  · cases h
  replace h := bif_some h
  obtain ⟨hc, h⟩ := h
  replace h := gb_some h
  obtain ⟨res, h, hr⟩ := h
  refine ⟨_, h, fun hg => CallOK.conv (avs' := []) (.nil) (callOK_own (K := law20_two_Ko) (res := res) (law20_two_VC n) (fn := Try.f19) (n := n) (by kernel_rfl) (by kernel_rfl) (by kernel_rfl) (ρ := []) (ν := [(5, (site + 100000))]) (avs' := []) (H := []) rfl rfl rfl rfl hc (trivial) rfl rfl ?_ ?_)⟩
  · exact (law20_two_vfo n ).trans (hr hg)
  · intro av H' hx
    unfold law20_two_Ko at hx
    replace hx := Option.bind_eq_some_iff.1 hx
    obtain ⟨o0, ho0, hx⟩ := hx
    split at hx
    rotate_left
    · cases hx
    replace hx := bif_some hx
    obtain ⟨hck, hx⟩ := hx
    simp only [Bool.and_eq_true] at hck
    obtain ⟨ek0, ek1, ek2⟩ := hck
    have ek0 := Nat.eq_of_beq_eq_true ek0
    subst ek0
    have ek1 := Nat.eq_of_beq_eq_true ek1
    subst ek1
    have ek2 := Nat.eq_of_beq_eq_true ek2
    subst ek2
    injection hx with hx
    subst hx
    refine ⟨rfl, ?_, ⟨by rw [ho0]; rfl, trivial⟩, trivial⟩
    simp only [List.cons_append, List.nil_append, outWr, ho0, Option.map_some]
    rfl
end Go.Vx
/-
  slices_Index_int_int: the interpreter computes the pure function
-/
set_option linter.unusedVariables false
set_option linter.unusedSimpArgs false
set_option maxRecDepth 100000
namespace Go.Vx
open Go.Proofs
noncomputable def slices_Index_int_int_c0 : Code := bodyOf Try.f42
noncomputable def slices_Index_int_int_c1 : Code := cL (bodyOf Try.f42)
noncomputable def slices_Index_int_int_c2 : Code := cL (cL (cR (bodyOf Try.f42)))
noncomputable def slices_Index_int_int_c3 : Code := cB (cB (cR (cL (cR (bodyOf Try.f42)))))
noncomputable def slices_Index_int_int_c4 : Code := cB (cR (cL (cR (bodyOf Try.f42))))
noncomputable def slices_Index_int_int_c5 : Code := cR (cL (cR (bodyOf Try.f42)))
noncomputable def slices_Index_int_int_c6 : Code := cL (cR (bodyOf Try.f42))
noncomputable def slices_Index_int_int_c7 : Code := cR (cR (bodyOf Try.f42))
noncomputable def slices_Index_int_int_c8 : Code := cR (bodyOf Try.f42)
theorem slices_Index_int_int_c4_eq : slices_Index_int_int_c4 = .loop slices_Index_int_int_c3 := by kernel_rfl
theorem slices_Index_int_int_c5_eq : slices_Index_int_int_c5 = .block 0 slices_Index_int_int_c4 := by kernel_rfl
theorem slices_Index_int_int_c6_eq : slices_Index_int_int_c6 = .seq slices_Index_int_int_c2 slices_Index_int_int_c5 := by kernel_rfl
theorem slices_Index_int_int_c8_eq : slices_Index_int_int_c8 = .seq slices_Index_int_int_c6 slices_Index_int_int_c7 := by kernel_rfl
theorem slices_Index_int_int_c0_eq : slices_Index_int_int_c0 = .seq slices_Index_int_int_c1 slices_Index_int_int_c8 := by kernel_rfl
def slices_Index_int_int_tt : TT := [(3, ⟨.int .i64, 1, 8, [.int .i64 0], [.int .i64 0], [], none⟩), (22, ⟨.sl 3 1, 1, 24, [.slice none 0 0], [.sl 1 []], [], none⟩)]
theorem slices_Index_int_int_tt_eq : mkTT Try.prog [3, 22] = slices_Index_int_int_tt := by kernel_rfl
def slices_Index_int_int_cfg : List (Nat × Cfg) := [(0, ⟨[0, 1], [], [], [], []⟩), (1, ⟨[0, 1, 7, 8], [], [], [], []⟩), (2, ⟨[0, 1, 7, 8, 9], [], [], [], []⟩), (3, ⟨[0, 1, 5, 7, 8], [], [], [], []⟩), (4, ⟨[0, 1, 5, 7, 8, 16], [], [], [], []⟩), (5, ⟨[4], [], [], [], []⟩), (6, ⟨[0, 1, 7, 8], [], [], [], []⟩), (7, ⟨[4], [], [], [], []⟩)]
def slices_Index_int_int_C (n : Nat) : VC := ⟨specOf [], slices_Index_int_int_tt, slices_Index_int_int_cfg⟩
theorem slices_Index_int_int_ents (n : Nat) : EntsOK Try.prog [] := trivial
theorem slices_Index_int_int_VC (n : Nat) : VCOk Try.prog (slices_Index_int_int_C n) := ⟨specOf_ok (slices_Index_int_int_ents n), (slices_Index_int_int_tt_eq ▸ mkTT_ok _ : TOk Try.prog slices_Index_int_int_tt), by kernel_rfl⟩
theorem slices_Index_int_int_p1_congr {R : Type} (n : Nat) (a0 : List (List D)) (a1 : Int) {k0 kk0 : Option R} (hq0 : k0 = kk0) : slices_Index_int_int_p1 n a0 a1 k0 = slices_Index_int_int_p1 n a0 a1 kk0 := by
  obtain rfl : k0 = kk0 := hq0
  rfl
theorem slices_Index_int_int_p2_congr {R : Type} (n : Nat) (a0 : List (List D)) (a1 : Int) {k0 kk0 : Int → Option R} (hq0 : ∀ x0, k0 x0 = kk0 x0) : slices_Index_int_int_p2 n a0 a1 k0 = slices_Index_int_int_p2 n a0 a1 kk0 := by
  obtain rfl : k0 = kk0 := funext fun x0 => hq0 x0
  rfl
theorem slices_Index_int_int_p3_congr {R : Type} (n : Nat) (a0 : List (List D)) (a1 : Int) (w2 : Int) (h6 : Int) {k0 kk0 : Option R} {k1 kk1 : Int → Option R} {k2 kk2 : Bool → Option R} (hq0 : k0 = kk0) (hq1 : ∀ x0, k1 x0 = kk1 x0) (hq2 : ∀ x0, k2 x0 = kk2 x0) : slices_Index_int_int_p3 n a0 a1 w2 h6 k0 k1 k2 = slices_Index_int_int_p3 n a0 a1 w2 h6 kk0 kk1 kk2 := by
  obtain rfl : k0 = kk0 := hq0
  obtain rfl : k1 = kk1 := funext fun x0 => hq1 x0
  obtain rfl : k2 = kk2 := funext fun x0 => hq2 x0
  rfl
theorem slices_Index_int_int_p4_congr {R : Type} (n : Nat) (a0 : List (List D)) (a1 : Int) (w2 : Int) {k0 kk0 : Int → Option R} {k1 kk1 : Int → Bool → Option R} (hq0 : ∀ x0, k0 x0 = kk0 x0) (hq1 : ∀ x0 x1, k1 x0 x1 = kk1 x0 x1) : slices_Index_int_int_p4 n a0 a1 w2 k0 k1 = slices_Index_int_int_p4 n a0 a1 w2 kk0 kk1 := by
  obtain rfl : k0 = kk0 := funext fun x0 => hq0 x0
  obtain rfl : k1 = kk1 := funext fun x0 => funext fun x1 => hq1 x0 x1
  rfl
theorem slices_Index_int_int_p5_congr {R : Type} (n : Nat) (a0 : List (List D)) (a1 : Int) (w2 : Int) {k0 kk0 : Int → Option R} {k1 kk1 : Int → Bool → Option R} (hq0 : ∀ x0, k0 x0 = kk0 x0) (hq1 : ∀ x0 x1, k1 x0 x1 = kk1 x0 x1) : slices_Index_int_int_p5 n a0 a1 w2 k0 k1 = slices_Index_int_int_p5 n a0 a1 w2 kk0 kk1 := by
  obtain rfl : k0 = kk0 := funext fun x0 => hq0 x0
  obtain rfl : k1 = kk1 := funext fun x0 => funext fun x1 => hq1 x0 x1
  rfl
theorem slices_Index_int_int_p6_congr {R : Type} (n : Nat) (a0 : List (List D)) (a1 : Int) {k0 kk0 : Int → Option R} {k1 kk1 : Int → Int → Bool → Option R} (hq0 : ∀ x0, k0 x0 = kk0 x0) (hq1 : ∀ x0 x1 x2, k1 x0 x1 x2 = kk1 x0 x1 x2) : slices_Index_int_int_p6 n a0 a1 k0 k1 = slices_Index_int_int_p6 n a0 a1 kk0 kk1 := by
  obtain rfl : k0 = kk0 := funext fun x0 => hq0 x0
  obtain rfl : k1 = kk1 := funext fun x0 => funext fun x1 => funext fun x2 => hq1 x0 x1 x2
  rfl
theorem slices_Index_int_int_p7_congr {R : Type} (n : Nat) (a0 : List (List D)) (a1 : Int) (w26 : Int) (w27 : Int) (w28 : Bool) {k0 kk0 : Option R} (hq0 : k0 = kk0) : slices_Index_int_int_p7 n a0 a1 w26 w27 w28 k0 = slices_Index_int_int_p7 n a0 a1 w26 w27 w28 kk0 := by
  obtain rfl : k0 = kk0 := hq0
  rfl
theorem slices_Index_int_int_p8_congr {R : Type} (n : Nat) (a0 : List (List D)) (a1 : Int) {k0 kk0 : Int → Option R} (hq0 : ∀ x0, k0 x0 = kk0 x0) : slices_Index_int_int_p8 n a0 a1 k0 = slices_Index_int_int_p8 n a0 a1 kk0 := by
  obtain rfl : k0 = kk0 := funext fun x0 => hq0 x0
  rfl
theorem slices_Index_int_int_p9_congr {R : Type} (n : Nat) (a0 : List (List D)) (a1 : Int) {k0 kk0 : Int → Option R} (hq0 : ∀ x0, k0 x0 = kk0 x0) : slices_Index_int_int_p9 n a0 a1 k0 = slices_Index_int_int_p9 n a0 a1 kk0 := by
  obtain rfl : k0 = kk0 := funext fun x0 => hq0 x0
  rfl
theorem slices_Index_int_int_p1_eq {R : Type} (n : Nat) (a0 : List (List D)) (a1 : Int) (k : Exit → St → Option R) : vexec (slices_Index_int_int_C n) n slices_Index_int_int_c1 ⟨19, [(0, .d (D.sl 1 a0)), (1, .d (D.int .i64 a1))], []⟩ k = slices_Index_int_int_p1 n a0 a1 (k .normal ⟨19, [(0, .d (D.sl 1 a0)), (1, .d (D.int .i64 a1))], []⟩) := by kernel_rfl
theorem slices_Index_int_int_p2_eq {R : Type} (n : Nat) (a0 : List (List D)) (a1 : Int) (k : Exit → St → Option R) : vexec (slices_Index_int_int_C n) n slices_Index_int_int_c2 ⟨19, [(0, .d (D.sl 1 a0)), (1, .d (D.int .i64 a1))], []⟩ k = slices_Index_int_int_p2 n a0 a1 (fun z1 => k .normal ⟨19, [(0, .d (D.sl 1 a0)), (1, .d (D.int .i64 a1)), (7, .d (D.int .i64 z1)), (8, .d (D.int .i64 (0 : Int)))], []⟩) := by kernel_rfl
theorem slices_Index_int_int_p3_eq {R : Type} (n : Nat) (a0 : List (List D)) (a1 : Int) (w2 : Int) (h6 : Int) (k : Exit → St → Option R) : vexec (slices_Index_int_int_C n) n slices_Index_int_int_c3 ⟨19, [(0, .d (D.sl 1 a0)), (1, .d (D.int .i64 a1)), (7, .d (D.int .i64 w2)), (8, .d (D.int .i64 h6))], []⟩ k = slices_Index_int_int_p3 n a0 a1 w2 h6 (k .ret ⟨19, [(4, .d (D.int .i64 h6))], []⟩) (fun z15 => k .normal ⟨19, [(0, .d (D.sl 1 a0)), (1, .d (D.int .i64 a1)), (7, .d (D.int .i64 w2)), (8, .d (D.int .i64 z15))], []⟩) (fun z16 => k (.exit 0) ⟨19, [(0, .d (D.sl 1 a0)), (1, .d (D.int .i64 a1)), (7, .d (D.int .i64 w2)), (8, .d (D.int .i64 h6)), (9, .d (D.bool z16))], []⟩) := by kernel_rfl
theorem slices_Index_int_int_r4_eq {R : Type} (n : Nat) (a0 : List (List D)) (a1 : Int) (w2 : Int) (k : Exit → St → Option R) : ∀ (m : Nat) (h6 : Int), loopN (vexec (slices_Index_int_int_C n) n slices_Index_int_int_c3) m ⟨19, [(0, .d (D.sl 1 a0)), (1, .d (D.int .i64 a1)), (7, .d (D.int .i64 w2)), (8, .d (D.int .i64 h6))], []⟩ k = slices_Index_int_int_r4 n a0 a1 w2 (fun h6 => k .ret ⟨19, [(4, .d (D.int .i64 h6))], []⟩) (fun h6 w18 => k (.exit 0) ⟨19, [(0, .d (D.sl 1 a0)), (1, .d (D.int .i64 a1)), (7, .d (D.int .i64 w2)), (8, .d (D.int .i64 h6)), (9, .d (D.bool w18))], []⟩) m h6
  | 0, _ => rfl
  | m + 1, h6 => (slices_Index_int_int_p3_eq n a0 a1 w2 h6 (loopK (vexec (slices_Index_int_int_C n) n slices_Index_int_int_c3) m k)).trans (slices_Index_int_int_p3_congr n a0 a1 w2 h6 (rfl) (fun w17 => slices_Index_int_int_r4_eq n a0 a1 w2 k m w17) (fun w18 => rfl))
theorem slices_Index_int_int_p4_eq {R : Type} (n : Nat) (a0 : List (List D)) (a1 : Int) (w2 : Int) (k : Exit → St → Option R) : vexec (slices_Index_int_int_C n) n slices_Index_int_int_c4 ⟨19, [(0, .d (D.sl 1 a0)), (1, .d (D.int .i64 a1)), (7, .d (D.int .i64 w2)), (8, .d (D.int .i64 (0 : Int)))], []⟩ k = slices_Index_int_int_p4 n a0 a1 w2 (fun h6 => k .ret ⟨19, [(4, .d (D.int .i64 h6))], []⟩) (fun h6 w18 => k (.exit 0) ⟨19, [(0, .d (D.sl 1 a0)), (1, .d (D.int .i64 a1)), (7, .d (D.int .i64 w2)), (8, .d (D.int .i64 h6)), (9, .d (D.bool w18))], []⟩) := by
  rw [slices_Index_int_int_c4_eq]
  exact slices_Index_int_int_r4_eq n a0 a1 w2 k n (0 : Int)
theorem slices_Index_int_int_p5_eq {R : Type} (n : Nat) (a0 : List (List D)) (a1 : Int) (w2 : Int) (k : Exit → St → Option R) : vexec (slices_Index_int_int_C n) n slices_Index_int_int_c5 ⟨19, [(0, .d (D.sl 1 a0)), (1, .d (D.int .i64 a1)), (7, .d (D.int .i64 w2)), (8, .d (D.int .i64 (0 : Int)))], []⟩ k = slices_Index_int_int_p5 n a0 a1 w2 (fun w19 => k .ret ⟨19, [(4, .d (D.int .i64 w19))], []⟩) (fun w20 w21 => k .normal ⟨19, [(0, .d (D.sl 1 a0)), (1, .d (D.int .i64 a1)), (7, .d (D.int .i64 w2)), (8, .d (D.int .i64 w20)), (9, .d (D.bool w21))], []⟩) := by
  rw [slices_Index_int_int_c5_eq]
  unfold slices_Index_int_int_p5
  exact (slices_Index_int_int_p4_eq n a0 a1 w2 (blockK 0 k)).trans (slices_Index_int_int_p4_congr n a0 a1 w2 (fun w19 => rfl) (fun w20 w21 => rfl))
theorem slices_Index_int_int_p6_eq {R : Type} (n : Nat) (a0 : List (List D)) (a1 : Int) (k : Exit → St → Option R) : vexec (slices_Index_int_int_C n) n slices_Index_int_int_c6 ⟨19, [(0, .d (D.sl 1 a0)), (1, .d (D.int .i64 a1))], []⟩ k = slices_Index_int_int_p6 n a0 a1 (fun w22 => k .ret ⟨19, [(4, .d (D.int .i64 w22))], []⟩) (fun w2 w23 w24 => k .normal ⟨19, [(0, .d (D.sl 1 a0)), (1, .d (D.int .i64 a1)), (7, .d (D.int .i64 w2)), (8, .d (D.int .i64 w23)), (9, .d (D.bool w24))], []⟩) := by
  rw [slices_Index_int_int_c6_eq]
  unfold slices_Index_int_int_p6
  exact (slices_Index_int_int_p2_eq n a0 a1 (seqK (slices_Index_int_int_C n) n slices_Index_int_int_c5 k)).trans (slices_Index_int_int_p2_congr n a0 a1 (fun w2 => slices_Index_int_int_p5_eq n a0 a1 w2 k))
theorem slices_Index_int_int_p7_eq {R : Type} (n : Nat) (a0 : List (List D)) (a1 : Int) (w26 : Int) (w27 : Int) (w28 : Bool) (k : Exit → St → Option R) : vexec (slices_Index_int_int_C n) n slices_Index_int_int_c7 ⟨19, [(0, .d (D.sl 1 a0)), (1, .d (D.int .i64 a1)), (7, .d (D.int .i64 w26)), (8, .d (D.int .i64 w27)), (9, .d (D.bool w28))], []⟩ k = slices_Index_int_int_p7 n a0 a1 w26 w27 w28 (k .ret ⟨19, [(4, .d (D.int .i64 (-1 : Int)))], []⟩) := by kernel_rfl
theorem slices_Index_int_int_p8_eq {R : Type} (n : Nat) (a0 : List (List D)) (a1 : Int) (k : Exit → St → Option R) : vexec (slices_Index_int_int_C n) n slices_Index_int_int_c8 ⟨19, [(0, .d (D.sl 1 a0)), (1, .d (D.int .i64 a1))], []⟩ k = slices_Index_int_int_p8 n a0 a1 (fun z29 => k .ret ⟨19, [(4, .d (D.int .i64 z29))], []⟩) := by
  rw [slices_Index_int_int_c8_eq]
  unfold slices_Index_int_int_p8
  exact (slices_Index_int_int_p6_eq n a0 a1 (seqK (slices_Index_int_int_C n) n slices_Index_int_int_c7 k)).trans (slices_Index_int_int_p6_congr n a0 a1 (fun w25 => rfl) (fun w26 w27 w28 => slices_Index_int_int_p7_eq n a0 a1 w26 w27 w28 k))
theorem slices_Index_int_int_p9_eq {R : Type} (n : Nat) (a0 : List (List D)) (a1 : Int) (k : Exit → St → Option R) : vexec (slices_Index_int_int_C n) n slices_Index_int_int_c0 ⟨19, [(0, .d (D.sl 1 a0)), (1, .d (D.int .i64 a1))], []⟩ k = slices_Index_int_int_p9 n a0 a1 (fun w30 => k .ret ⟨19, [(4, .d (D.int .i64 w30))], []⟩) := by
  rw [slices_Index_int_int_c0_eq]
  unfold slices_Index_int_int_p9
  exact (slices_Index_int_int_p1_eq n a0 a1 (seqK (slices_Index_int_int_C n) n slices_Index_int_int_c8 k)).trans (slices_Index_int_int_p1_congr n a0 a1 (slices_Index_int_int_p8_eq n a0 a1 k))
theorem slices_Index_int_int_vfn {R : Type} (n : Nat) (a0 : List (List D)) (a1 : Int) (K : AV → Option R) : vfn (slices_Index_int_int_C n) n Try.f42 [.d (D.sl 1 a0), .d (D.int .i64 a1)] [] (retF [[0]] K) = slices_Index_int_int n a0 a1 (fun r0 => K (.d (D.int .i64 r0))) :=
  (show vfn (slices_Index_int_int_C n) n Try.f42 [.d (D.sl 1 a0), .d (D.int .i64 a1)] [] (retF [[0]] K) = vexec (slices_Index_int_int_C n) n slices_Index_int_int_c0 ⟨19, [(0, .d (D.sl 1 a0)), (1, .d (D.int .i64 a1))], []⟩ (retX slices_Index_int_int_tt [.tmp 4] (retF [[0]] K)) from vfn_at (by kernel_rfl) (by kernel_rfl) rfl (by kernel_rfl) rfl (by kernel_rfl) rfl).trans ((slices_Index_int_int_p9_eq n a0 a1 (retX slices_Index_int_int_tt [.tmp 4] (retF [[0]] K))).trans (by kernel_rfl))
def slices_Index_int_int_K : AV → Option (Int) := fun av => match av with
  | .d (D.int .i64 r0) => some r0
  | _ => none
def slices_Index_int_int_e (n : Nat) : Entry := fun _ _ g avs _ k => match avs with
  | [c0, c1] => prS g 1 c0 fun a0 => prI g .i64 c1 fun a1 => 
    gb g (slices_Index_int_int n a0 a1 some) 0 fun r => k ⟨.d (D.int .i64 r), [], []⟩
  | _ => none
theorem slices_Index_int_int_ok (n : Nat) : EntryOK Try.prog 42 (slices_Index_int_int_e n) := by
  intro R site g avs hl k r h
  unfold slices_Index_int_int_e at h
  split at h
  rotate_left
  · cases h
  replace h := prS_some h
  obtain ⟨a0, h, le0⟩ := h
  replace h := prI_some h
  obtain ⟨a1, h, le1⟩ := h
  replace h := gb_some h
  obtain ⟨res, h, hr⟩ := h
  refine ⟨_, h, fun hg => CallOK.conv (avs' := [.d (D.sl 1 a0), .d (D.int .i64 a1)]) (.cons (le0 hg) (.cons (le1 hg) (.nil))) (callOK_fix (K := slices_Index_int_int_K) (res := res) (slices_Index_int_int_VC n) (fn := Try.f42) (n := n) (by kernel_rfl) (by kernel_rfl) (by kernel_rfl) (ss := [[0]]) rfl ?_ ?_)⟩
  · exact (slices_Index_int_int_vfn n a0 a1 slices_Index_int_int_K).trans (hr hg)
  · intro x hx
    unfold slices_Index_int_int_K at hx
    split at hx
    · injection hx with hx; subst hx; rfl
    · cases hx
end Go.Vx
/-
  slices_Contains_int_int: the interpreter computes the pure function
-/
set_option linter.unusedVariables false
set_option linter.unusedSimpArgs false
set_option maxRecDepth 100000
namespace Go.Vx
open Go.Proofs
noncomputable def slices_Contains_int_int_c0 : Code := bodyOf Try.f35
def slices_Contains_int_int_tt : TT := [(3, ⟨.int .i64, 1, 8, [.int .i64 0], [.int .i64 0], [], none⟩)]
theorem slices_Contains_int_int_tt_eq : mkTT Try.prog [3] = slices_Contains_int_int_tt := by kernel_rfl
def slices_Contains_int_int_cfg : List (Nat × Cfg) := [(0, ⟨[0, 1], [], [], [], []⟩), (1, ⟨[4], [], [], [], []⟩)]
def slices_Contains_int_int_C (n : Nat) : VC := ⟨specOf [(42, slices_Index_int_int_e n)], slices_Contains_int_int_tt, slices_Contains_int_int_cfg⟩
theorem slices_Contains_int_int_ents (n : Nat) : EntsOK Try.prog [(42, slices_Index_int_int_e n)] := ⟨slices_Index_int_int_ok n, trivial⟩
theorem slices_Contains_int_int_VC (n : Nat) : VCOk Try.prog (slices_Contains_int_int_C n) := ⟨specOf_ok (slices_Contains_int_int_ents n), (slices_Contains_int_int_tt_eq ▸ mkTT_ok _ : TOk Try.prog slices_Contains_int_int_tt), by kernel_rfl⟩
theorem slices_Contains_int_int_p1_congr {R : Type} (n : Nat) (a0 : List (List D)) (a1 : Int) {k0 kk0 : Bool → Option R} (hq0 : ∀ x0, k0 x0 = kk0 x0) : slices_Contains_int_int_p1 n a0 a1 k0 = slices_Contains_int_int_p1 n a0 a1 kk0 := by
  obtain rfl : k0 = kk0 := funext fun x0 => hq0 x0
  rfl
theorem slices_Contains_int_int_p1_eq {R : Type} (n : Nat) (a0 : List (List D)) (a1 : Int) (k : Exit → St → Option R) : vexec (slices_Contains_int_int_C n) n slices_Contains_int_int_c0 ⟨9, [(0, .d (D.sl 1 a0)), (1, .d (D.int .i64 a1))], []⟩ k = slices_Contains_int_int_p1 n a0 a1 (fun z2 => k .ret ⟨9, [(4, .d (D.bool z2))], []⟩) := by kernel_rfl
theorem slices_Contains_int_int_vfn {R : Type} (n : Nat) (a0 : List (List D)) (a1 : Int) (K : AV → Option R) : vfn (slices_Contains_int_int_C n) n Try.f35 [.d (D.sl 1 a0), .d (D.int .i64 a1)] [] (retF [[0]] K) = slices_Contains_int_int n a0 a1 (fun r0 => K (.d (D.bool r0))) :=
  (show vfn (slices_Contains_int_int_C n) n Try.f35 [.d (D.sl 1 a0), .d (D.int .i64 a1)] [] (retF [[0]] K) = vexec (slices_Contains_int_int_C n) n slices_Contains_int_int_c0 ⟨9, [(0, .d (D.sl 1 a0)), (1, .d (D.int .i64 a1))], []⟩ (retX slices_Contains_int_int_tt [.tmp 4] (retF [[0]] K)) from vfn_at (by kernel_rfl) (by kernel_rfl) rfl (by kernel_rfl) rfl (by kernel_rfl) rfl).trans ((slices_Contains_int_int_p1_eq n a0 a1 (retX slices_Contains_int_int_tt [.tmp 4] (retF [[0]] K))).trans (by kernel_rfl))
def slices_Contains_int_int_K : AV → Option (Bool) := fun av => match av with
  | .d (D.bool r0) => some r0
  | _ => none
def slices_Contains_int_int_e (n : Nat) : Entry := fun _ _ g avs _ k => match avs with
  | [c0, c1] => prS g 1 c0 fun a0 => prI g .i64 c1 fun a1 => 
    gb g (slices_Contains_int_int n a0 a1 some) false fun r => k ⟨.d (D.bool r), [], []⟩
  | _ => none
theorem slices_Contains_int_int_ok (n : Nat) : EntryOK Try.prog 35 (slices_Contains_int_int_e n) := by
  intro R site g avs hl k r h
  unfold slices_Contains_int_int_e at h
  split at h
  rotate_left
  · cases h
  replace h := prS_some h
  obtain ⟨a0, h, le0⟩ := h
  replace h := prI_some h
  obtain ⟨a1, h, le1⟩ := h
  replace h := gb_some h
  obtain ⟨res, h, hr⟩ := h
  refine ⟨_, h, fun hg => CallOK.conv (avs' := [.d (D.sl 1 a0), .d (D.int .i64 a1)]) (.cons (le0 hg) (.cons (le1 hg) (.nil))) (callOK_fix (K := slices_Contains_int_int_K) (res := res) (slices_Contains_int_int_VC n) (fn := Try.f35) (n := n) (by kernel_rfl) (by kernel_rfl) (by kernel_rfl) (ss := [[0]]) rfl ?_ ?_)⟩
  · exact (slices_Contains_int_int_vfn n a0 a1 slices_Contains_int_int_K).trans (hr hg)
  · intro x hx
    unfold slices_Contains_int_int_K at hx
    split at hx
    · injection hx with hx; subst hx; rfl
    · cases hx
end Go.Vx
