/- Part of a proof: texts Vpref19 At Vplaw19 queries Vplaw19 OccupancyQueries. No conditions of their own. -/
import Derived.Test.YtnhpkkecnfooaaaProg
import Derived.Test.YtnhpkkecnfooaaaQVC
import Derived.Test.YtnhpkkecnfooaaaQFA
import Derived.Test.YtnhpkkecnfooaaaQPB
import Derived.Test.YtnhpkkecnfooaaaQPA
/-
  ref19_At: the interpreter computes the pure function
-/
set_option linter.unusedVariables false
set_option linter.unusedSimpArgs false
set_option maxRecDepth 100000
namespace Go.Vx
open Go.Proofs
noncomputable def ref19_At_c0 : Code := bodyOf Try.f29
noncomputable def ref19_At_c1 : Code := cL (bodyOf Try.f29)
noncomputable def ref19_At_c2 : Code := cL (cR (bodyOf Try.f29))
noncomputable def ref19_At_c3 : Code := cL (cR (cR (bodyOf Try.f29)))
noncomputable def ref19_At_c4 : Code := cL (cR (cR (cR (bodyOf Try.f29))))
noncomputable def ref19_At_c5 : Code := cL (cL (cR (cR (cR (cR (bodyOf Try.f29))))))
noncomputable def ref19_At_c6 : Code := cL (cB (cB (cR (cL (cR (cR (cR (cR (bodyOf Try.f29)))))))))
noncomputable def ref19_At_c7 : Code := cL (cR (cB (cB (cR (cL (cR (cR (cR (cR (bodyOf Try.f29))))))))))
noncomputable def ref19_At_c8 : Code := cL (cB (cL (cR (cR (cB (cB (cR (cL (cR (cR (cR (cR (bodyOf Try.f29)))))))))))))
noncomputable def ref19_At_c9 : Code := cL (cR (cB (cL (cR (cR (cB (cB (cR (cL (cR (cR (cR (cR (bodyOf Try.f29))))))))))))))
noncomputable def ref19_At_c10 : Code := cL (cR (cR (cB (cL (cR (cR (cB (cB (cR (cL (cR (cR (cR (cR (bodyOf Try.f29)))))))))))))))
noncomputable def ref19_At_c11 : Code := cL (cR (cR (cR (cB (cL (cR (cR (cB (cB (cR (cL (cR (cR (cR (cR (bodyOf Try.f29))))))))))))))))
noncomputable def ref19_At_c12 : Code := cB (cB (cL (cR (cR (cR (cR (cB (cL (cR (cR (cB (cB (cR (cL (cR (cR (cR (cR (bodyOf Try.f29)))))))))))))))))))
noncomputable def ref19_At_c13 : Code := cB (cL (cR (cR (cR (cR (cB (cL (cR (cR (cB (cB (cR (cL (cR (cR (cR (cR (bodyOf Try.f29))))))))))))))))))
noncomputable def ref19_At_c14 : Code := cL (cR (cR (cR (cR (cB (cL (cR (cR (cB (cB (cR (cL (cR (cR (cR (cR (bodyOf Try.f29)))))))))))))))))
noncomputable def ref19_At_c15 : Code := cR (cR (cR (cR (cR (cB (cL (cR (cR (cB (cB (cR (cL (cR (cR (cR (cR (bodyOf Try.f29)))))))))))))))))
noncomputable def ref19_At_c16 : Code := cR (cR (cR (cR (cB (cL (cR (cR (cB (cB (cR (cL (cR (cR (cR (cR (bodyOf Try.f29))))))))))))))))
noncomputable def ref19_At_c17 : Code := cR (cR (cR (cB (cL (cR (cR (cB (cB (cR (cL (cR (cR (cR (cR (bodyOf Try.f29)))))))))))))))
noncomputable def ref19_At_c18 : Code := cR (cR (cB (cL (cR (cR (cB (cB (cR (cL (cR (cR (cR (cR (bodyOf Try.f29))))))))))))))
noncomputable def ref19_At_c19 : Code := cR (cB (cL (cR (cR (cB (cB (cR (cL (cR (cR (cR (cR (bodyOf Try.f29)))))))))))))
noncomputable def ref19_At_c20 : Code := cB (cL (cR (cR (cB (cB (cR (cL (cR (cR (cR (cR (bodyOf Try.f29))))))))))))
noncomputable def ref19_At_c21 : Code := cL (cR (cR (cB (cB (cR (cL (cR (cR (cR (cR (bodyOf Try.f29)))))))))))
noncomputable def ref19_At_c22 : Code := cR (cR (cR (cB (cB (cR (cL (cR (cR (cR (cR (bodyOf Try.f29)))))))))))
noncomputable def ref19_At_c23 : Code := cR (cR (cB (cB (cR (cL (cR (cR (cR (cR (bodyOf Try.f29))))))))))
noncomputable def ref19_At_c24 : Code := cR (cB (cB (cR (cL (cR (cR (cR (cR (bodyOf Try.f29)))))))))
noncomputable def ref19_At_c25 : Code := cB (cB (cR (cL (cR (cR (cR (cR (bodyOf Try.f29))))))))
noncomputable def ref19_At_c26 : Code := cB (cR (cL (cR (cR (cR (cR (bodyOf Try.f29)))))))
noncomputable def ref19_At_c27 : Code := cR (cL (cR (cR (cR (cR (bodyOf Try.f29))))))
noncomputable def ref19_At_c28 : Code := cL (cR (cR (cR (cR (bodyOf Try.f29)))))
noncomputable def ref19_At_c29 : Code := cR (cR (cR (cR (cR (bodyOf Try.f29)))))
noncomputable def ref19_At_c30 : Code := cR (cR (cR (cR (bodyOf Try.f29))))
noncomputable def ref19_At_c31 : Code := cR (cR (cR (bodyOf Try.f29)))
noncomputable def ref19_At_c32 : Code := cR (cR (bodyOf Try.f29))
noncomputable def ref19_At_c33 : Code := cR (bodyOf Try.f29)
theorem ref19_At_c13_eq : ref19_At_c13 = .loop ref19_At_c12 := by kernel_rfl
theorem ref19_At_c14_eq : ref19_At_c14 = .block 2 ref19_At_c13 := by kernel_rfl
theorem ref19_At_c16_eq : ref19_At_c16 = .seq ref19_At_c14 ref19_At_c15 := by kernel_rfl
theorem ref19_At_c17_eq : ref19_At_c17 = .seq ref19_At_c11 ref19_At_c16 := by kernel_rfl
theorem ref19_At_c18_eq : ref19_At_c18 = .seq ref19_At_c10 ref19_At_c17 := by kernel_rfl
theorem ref19_At_c19_eq : ref19_At_c19 = .seq ref19_At_c9 ref19_At_c18 := by kernel_rfl
theorem ref19_At_c20_eq : ref19_At_c20 = .seq ref19_At_c8 ref19_At_c19 := by kernel_rfl
theorem ref19_At_c21_eq : ref19_At_c21 = .block 1 ref19_At_c20 := by kernel_rfl
theorem ref19_At_c23_eq : ref19_At_c23 = .seq ref19_At_c21 ref19_At_c22 := by kernel_rfl
theorem ref19_At_c24_eq : ref19_At_c24 = .seq ref19_At_c7 ref19_At_c23 := by kernel_rfl
theorem ref19_At_c25_eq : ref19_At_c25 = .seq ref19_At_c6 ref19_At_c24 := by kernel_rfl
theorem ref19_At_c26_eq : ref19_At_c26 = .loop ref19_At_c25 := by kernel_rfl
theorem ref19_At_c27_eq : ref19_At_c27 = .block 0 ref19_At_c26 := by kernel_rfl
theorem ref19_At_c28_eq : ref19_At_c28 = .seq ref19_At_c5 ref19_At_c27 := by kernel_rfl
theorem ref19_At_c30_eq : ref19_At_c30 = .seq ref19_At_c28 ref19_At_c29 := by kernel_rfl
theorem ref19_At_c31_eq : ref19_At_c31 = .seq ref19_At_c4 ref19_At_c30 := by kernel_rfl
theorem ref19_At_c32_eq : ref19_At_c32 = .seq ref19_At_c3 ref19_At_c31 := by kernel_rfl
theorem ref19_At_c33_eq : ref19_At_c33 = .seq ref19_At_c2 ref19_At_c32 := by kernel_rfl
theorem ref19_At_c0_eq : ref19_At_c0 = .seq ref19_At_c1 ref19_At_c33 := by kernel_rfl
def ref19_At_tt : TT := [(3, ⟨.int .i64, 1, 8, [.int .i64 0], [.int .i64 0], [], none⟩), (22, ⟨.sl 3 1, 1, 24, [.slice none 0 0], [.sl 1 []], [], none⟩), (24, ⟨.sl 31 5, 1, 24, [.slice none 0 0], [.sl 5 []], [], none⟩), (31, ⟨.struct, 5, 40, [.int .i64 0, .int .i64 0, .int .i64 0, .int .i64 0, .int .i64 0], [.int .i64 0, .int .i64 0, .int .i64 0, .int .i64 0, .int .i64 0], [(0, 3), (1, 3), (2, 3), (3, 3), (4, 3)], some [.int .i64, .int .i64, .int .i64, .int .i64, .int .i64]⟩)]
theorem ref19_At_tt_eq : mkTT Try.prog [3, 22, 24, 31] = ref19_At_tt := by kernel_rfl
def ref19_At_cfg : List (Nat × Cfg) := [(0, ⟨[0, 1, 2, 3], [], [], [], []⟩), (1, ⟨[0, 1, 2, 3, 17], [], [], [], []⟩), (2, ⟨[8], [], [], [], []⟩), (3, ⟨[0, 1, 2, 9], [], [], [], []⟩), (4, ⟨[0, 1, 2, 9, 10], [], [], [], []⟩), (5, ⟨[0, 1, 2, 9, 10, 22, 23], [], [(10, 1010, 3, 1)], [], []⟩), (6, ⟨[0, 1, 2, 9, 10, 22, 23, 24], [(1010, 1010)], [], [], []⟩), (7, ⟨[0, 1, 2, 9, 10, 11, 22, 23], [(1010, 1010)], [], [], []⟩), (8, ⟨[0, 1, 2, 9, 10, 12, 22, 23], [(12, 12), (1010, 1010)], [], [], []⟩), (9, ⟨[0, 1, 2, 9, 10, 12, 22, 23, 50], [(12, 12), (1010, 1010)], [], [], []⟩), (10, ⟨[0, 1, 2, 9, 10, 12, 13, 22, 23], [(12, 12)], [], [], [1010]⟩), (11, ⟨[0, 1, 2, 9, 10, 12, 13, 22, 23, 63], [(12, 12)], [], [], [1010]⟩), (12, ⟨[0, 1, 2, 9, 10, 12, 13, 22, 23], [(12, 12)], [], [], []⟩), (13, ⟨[0, 1, 2, 9, 10, 22, 23], [(77, 1010)], [], [], []⟩), (14, ⟨[0, 1, 2, 9, 10, 22, 23], [(1010, 1010)], [], [], []⟩), (15, ⟨[8], [(1010, 1010)], [], [], []⟩)]
def ref19_At_C (n : Nat) : VC := ⟨specOf [(26, ref19_Valid_e n), (16, ref1_Mod_e n), (35, ref19_member_e n)], ref19_At_tt, ref19_At_cfg⟩
theorem ref19_At_ents (n : Nat) : EntsOK Try.prog [(26, ref19_Valid_e n), (16, ref1_Mod_e n), (35, ref19_member_e n)] := ⟨ref19_Valid_ok n, ⟨ref1_Mod_ok n, ⟨ref19_member_ok n, trivial⟩⟩⟩
theorem ref19_At_VC (n : Nat) : VCOk Try.prog (ref19_At_C n) := ⟨specOf_ok (ref19_At_ents n), (ref19_At_tt_eq ▸ mkTT_ok _ : TOk Try.prog ref19_At_tt), by kernel_rfl⟩
theorem ref19_At_p1_congr {R : Type} (n : Nat) (a0 : Int) (a1 : List (List D)) (a2 : Int) (a3 : Int) {k0 kk0 : Option R} (hq0 : k0 = kk0) : ref19_At_p1 n a0 a1 a2 a3 k0 = ref19_At_p1 n a0 a1 a2 a3 kk0 := by
  obtain rfl : k0 = kk0 := hq0
  rfl
theorem ref19_At_p2_congr {R : Type} (n : Nat) (a0 : Int) (a1 : List (List D)) (a2 : Int) (a3 : Int) {k0 kk0 : Option R} {k1 kk1 : Bool → Option R} (hq0 : k0 = kk0) (hq1 : ∀ x0, k1 x0 = kk1 x0) : ref19_At_p2 n a0 a1 a2 a3 k0 k1 = ref19_At_p2 n a0 a1 a2 a3 kk0 kk1 := by
  obtain rfl : k0 = kk0 := hq0
  obtain rfl : k1 = kk1 := funext fun x0 => hq1 x0
  rfl
theorem ref19_At_p3_congr {R : Type} (n : Nat) (a0 : Int) (a1 : List (List D)) (a2 : Int) (a3 : Int) (w3 : Bool) {k0 kk0 : Int → Option R} (hq0 : ∀ x0, k0 x0 = kk0 x0) : ref19_At_p3 n a0 a1 a2 a3 w3 k0 = ref19_At_p3 n a0 a1 a2 a3 w3 kk0 := by
  obtain rfl : k0 = kk0 := funext fun x0 => hq0 x0
  rfl
theorem ref19_At_p4_congr {R : Type} (n : Nat) (a0 : Int) (a1 : List (List D)) (a2 : Int) (w5 : Int) {k0 kk0 : Option R} (hq0 : k0 = kk0) : ref19_At_p4 n a0 a1 a2 w5 k0 = ref19_At_p4 n a0 a1 a2 w5 kk0 := by
  obtain rfl : k0 = kk0 := hq0
  rfl
theorem ref19_At_p5_congr {R : Type} (n : Nat) (a0 : Int) (a1 : List (List D)) (a2 : Int) (w5 : Int) {k0 kk0 : Int → Option R} (hq0 : ∀ x0, k0 x0 = kk0 x0) : ref19_At_p5 n a0 a1 a2 w5 k0 = ref19_At_p5 n a0 a1 a2 w5 kk0 := by
  obtain rfl : k0 = kk0 := funext fun x0 => hq0 x0
  rfl
theorem ref19_At_p6_congr {R : Type} (n : Nat) (a0 : Int) (a1 : List (List D)) (a2 : Int) (w5 : Int) (w7 : Int) (h13 : Int) (h14 : List (List D)) {k0 kk0 : Bool → Option R} (hq0 : ∀ x0, k0 x0 = kk0 x0) : ref19_At_p6 n a0 a1 a2 w5 w7 h13 h14 k0 = ref19_At_p6 n a0 a1 a2 w5 w7 h13 h14 kk0 := by
  obtain rfl : k0 = kk0 := funext fun x0 => hq0 x0
  rfl
theorem ref19_At_p7_congr {R : Type} (n : Nat) (a0 : Int) (a1 : List (List D)) (a2 : Int) (w5 : Int) (w7 : Int) (h13 : Int) (w113 : Bool) (h14 : List (List D)) {k0 kk0 : Option R} {k1 kk1 : Option R} (hq0 : k0 = kk0) (hq1 : k1 = kk1) : ref19_At_p7 n a0 a1 a2 w5 w7 h13 w113 h14 k0 k1 = ref19_At_p7 n a0 a1 a2 w5 w7 h13 w113 h14 kk0 kk1 := by
  obtain rfl : k0 = kk0 := hq0
  obtain rfl : k1 = kk1 := hq1
  rfl
theorem ref19_At_p8_congr {R : Type} (n : Nat) (a0 : Int) (a1 : List (List D)) (a2 : Int) (w5 : Int) (w7 : Int) (h13 : Int) (w113 : Bool) (h14 : List (List D)) {k0 kk0 : Option R} (hq0 : k0 = kk0) : ref19_At_p8 n a0 a1 a2 w5 w7 h13 w113 h14 k0 = ref19_At_p8 n a0 a1 a2 w5 w7 h13 w113 h14 kk0 := by
  obtain rfl : k0 = kk0 := hq0
  rfl
theorem ref19_At_p9_congr {R : Type} (n : Nat) (a0 : Int) (a1 : List (List D)) (a2 : Int) (w5 : Int) (h13 : Int) (w7 : Int) (h14 : List (List D)) {k0 kk0 : D → D → D → D → D → Option R} (hq0 : ∀ x0 x1 x2 x3 x4, k0 x0 x1 x2 x3 x4 = kk0 x0 x1 x2 x3 x4) : ref19_At_p9 n a0 a1 a2 w5 h13 w7 h14 k0 = ref19_At_p9 n a0 a1 a2 w5 h13 w7 h14 kk0 := by
  obtain rfl : k0 = kk0 := funext fun x0 => funext fun x1 => funext fun x2 => funext fun x3 => funext fun x4 => hq0 x0 x1 x2 x3 x4
  rfl
theorem ref19_At_p10_congr {R : Type} (n : Nat) (a0 : Int) (a1 : List (List D)) (a2 : Int) (w5 : Int) (w7 : Int) (h13 : Int) (w120 : D) (w121 : D) (w122 : D) (w123 : D) (w124 : D) (h14 : List (List D)) {k0 kk0 : Bool → Option R} {k1 kk1 : Bool → Option R} (hq0 : ∀ x0, k0 x0 = kk0 x0) (hq1 : ∀ x0, k1 x0 = kk1 x0) : ref19_At_p10 n a0 a1 a2 w5 w7 h13 w120 w121 w122 w123 w124 h14 k0 k1 = ref19_At_p10 n a0 a1 a2 w5 w7 h13 w120 w121 w122 w123 w124 h14 kk0 kk1 := by
  obtain rfl : k0 = kk0 := funext fun x0 => hq0 x0
  obtain rfl : k1 = kk1 := funext fun x0 => hq1 x0
  rfl
theorem ref19_At_p11_congr {R : Type} (n : Nat) (a0 : Int) (a1 : List (List D)) (a2 : Int) (w5 : Int) (w7 : Int) (h13 : Int) (w134 : Bool) (w120 : D) (w121 : D) (w122 : D) (w123 : D) (w124 : D) (h14 : List (List D)) {k0 kk0 : Option R} (hq0 : k0 = kk0) : ref19_At_p11 n a0 a1 a2 w5 w7 h13 w134 w120 w121 w122 w123 w124 h14 k0 = ref19_At_p11 n a0 a1 a2 w5 w7 h13 w134 w120 w121 w122 w123 w124 h14 kk0 := by
  obtain rfl : k0 = kk0 := hq0
  rfl
theorem ref19_At_p12_congr {R : Type} (n : Nat) (a0 : Int) (a1 : List (List D)) (a2 : Int) (w5 : Int) (h14 : List (List D)) (h140 : Int) (w7 : Int) (h13 : Int) (w120 : D) (w121 : D) (w122 : D) (w123 : D) (w124 : D) {k0 kk0 : Int → Option R} {k1 kk1 : Bool → Option R} (hq0 : ∀ x0, k0 x0 = kk0 x0) (hq1 : ∀ x0, k1 x0 = kk1 x0) : ref19_At_p12 n a0 a1 a2 w5 h14 h140 w7 h13 w120 w121 w122 w123 w124 k0 k1 = ref19_At_p12 n a0 a1 a2 w5 h14 h140 w7 h13 w120 w121 w122 w123 w124 kk0 kk1 := by
  obtain rfl : k0 = kk0 := funext fun x0 => hq0 x0
  obtain rfl : k1 = kk1 := funext fun x0 => hq1 x0
  rfl
theorem ref19_At_p13_congr {R : Type} (n : Nat) (a0 : Int) (a1 : List (List D)) (a2 : Int) (w5 : Int) (h14 : List (List D)) (w7 : Int) (h13 : Int) (w120 : D) (w121 : D) (w122 : D) (w123 : D) (w124 : D) {k0 kk0 : Int → Bool → Option R} (hq0 : ∀ x0 x1, k0 x0 x1 = kk0 x0 x1) : ref19_At_p13 n a0 a1 a2 w5 h14 w7 h13 w120 w121 w122 w123 w124 k0 = ref19_At_p13 n a0 a1 a2 w5 h14 w7 h13 w120 w121 w122 w123 w124 kk0 := by
  obtain rfl : k0 = kk0 := funext fun x0 => funext fun x1 => hq0 x0 x1
  rfl
theorem ref19_At_p14_congr {R : Type} (n : Nat) (a0 : Int) (a1 : List (List D)) (a2 : Int) (w5 : Int) (h14 : List (List D)) (w7 : Int) (h13 : Int) (w120 : D) (w121 : D) (w122 : D) (w123 : D) (w124 : D) {k0 kk0 : Int → Bool → Option R} (hq0 : ∀ x0 x1, k0 x0 x1 = kk0 x0 x1) : ref19_At_p14 n a0 a1 a2 w5 h14 w7 h13 w120 w121 w122 w123 w124 k0 = ref19_At_p14 n a0 a1 a2 w5 h14 w7 h13 w120 w121 w122 w123 w124 kk0 := by
  obtain rfl : k0 = kk0 := funext fun x0 => funext fun x1 => hq0 x0 x1
  rfl
theorem ref19_At_p15_congr {R : Type} (n : Nat) (a0 : Int) (a1 : List (List D)) (a2 : Int) (w5 : Int) (h14 : List (List D)) (w164 : Int) (w7 : Int) (h13 : Int) (w165 : Bool) (w120 : D) (w121 : D) (w122 : D) (w123 : D) (w124 : D) {k0 kk0 : (List (List D)) → Option R} (hq0 : ∀ x0, k0 x0 = kk0 x0) : ref19_At_p15 n a0 a1 a2 w5 h14 w164 w7 h13 w165 w120 w121 w122 w123 w124 k0 = ref19_At_p15 n a0 a1 a2 w5 h14 w164 w7 h13 w165 w120 w121 w122 w123 w124 kk0 := by
  obtain rfl : k0 = kk0 := funext fun x0 => hq0 x0
  rfl
theorem ref19_At_p16_congr {R : Type} (n : Nat) (a0 : Int) (a1 : List (List D)) (a2 : Int) (w5 : Int) (h14 : List (List D)) (w7 : Int) (h13 : Int) (w120 : D) (w121 : D) (w122 : D) (w123 : D) (w124 : D) {k0 kk0 : (List (List D)) → Option R} (hq0 : ∀ x0, k0 x0 = kk0 x0) : ref19_At_p16 n a0 a1 a2 w5 h14 w7 h13 w120 w121 w122 w123 w124 k0 = ref19_At_p16 n a0 a1 a2 w5 h14 w7 h13 w120 w121 w122 w123 w124 kk0 := by
  obtain rfl : k0 = kk0 := funext fun x0 => hq0 x0
  rfl
theorem ref19_At_p17_congr {R : Type} (n : Nat) (a0 : Int) (a1 : List (List D)) (a2 : Int) (w5 : Int) (w7 : Int) (h13 : Int) (w134 : Bool) (w120 : D) (w121 : D) (w122 : D) (w123 : D) (w124 : D) (h14 : List (List D)) {k0 kk0 : (List (List D)) → Option R} (hq0 : ∀ x0, k0 x0 = kk0 x0) : ref19_At_p17 n a0 a1 a2 w5 w7 h13 w134 w120 w121 w122 w123 w124 h14 k0 = ref19_At_p17 n a0 a1 a2 w5 w7 h13 w134 w120 w121 w122 w123 w124 h14 kk0 := by
  obtain rfl : k0 = kk0 := funext fun x0 => hq0 x0
  rfl
theorem ref19_At_p18_congr {R : Type} (n : Nat) (a0 : Int) (a1 : List (List D)) (a2 : Int) (w5 : Int) (w7 : Int) (h13 : Int) (w120 : D) (w121 : D) (w122 : D) (w123 : D) (w124 : D) (h14 : List (List D)) {k0 kk0 : Bool → Option R} {k1 kk1 : (List (List D)) → Option R} (hq0 : ∀ x0, k0 x0 = kk0 x0) (hq1 : ∀ x0, k1 x0 = kk1 x0) : ref19_At_p18 n a0 a1 a2 w5 w7 h13 w120 w121 w122 w123 w124 h14 k0 k1 = ref19_At_p18 n a0 a1 a2 w5 w7 h13 w120 w121 w122 w123 w124 h14 kk0 kk1 := by
  obtain rfl : k0 = kk0 := funext fun x0 => hq0 x0
  obtain rfl : k1 = kk1 := funext fun x0 => hq1 x0
  rfl
theorem ref19_At_p19_congr {R : Type} (n : Nat) (a0 : Int) (a1 : List (List D)) (a2 : Int) (w5 : Int) (h13 : Int) (w7 : Int) (h14 : List (List D)) {k0 kk0 : Bool → D → D → D → D → D → Option R} {k1 kk1 : (List (List D)) → Option R} (hq0 : ∀ x0 x1 x2 x3 x4 x5, k0 x0 x1 x2 x3 x4 x5 = kk0 x0 x1 x2 x3 x4 x5) (hq1 : ∀ x0, k1 x0 = kk1 x0) : ref19_At_p19 n a0 a1 a2 w5 h13 w7 h14 k0 k1 = ref19_At_p19 n a0 a1 a2 w5 h13 w7 h14 kk0 kk1 := by
  obtain rfl : k0 = kk0 := funext fun x0 => funext fun x1 => funext fun x2 => funext fun x3 => funext fun x4 => funext fun x5 => hq0 x0 x1 x2 x3 x4 x5
  obtain rfl : k1 = kk1 := funext fun x0 => hq1 x0
  rfl
theorem ref19_At_p20_congr {R : Type} (n : Nat) (a0 : Int) (a1 : List (List D)) (a2 : Int) (w5 : Int) (w7 : Int) (h13 : Int) (w113 : Bool) (h14 : List (List D)) {k0 kk0 : Bool → D → D → D → D → D → Option R} {k1 kk1 : (List (List D)) → Option R} (hq0 : ∀ x0 x1 x2 x3 x4 x5, k0 x0 x1 x2 x3 x4 x5 = kk0 x0 x1 x2 x3 x4 x5) (hq1 : ∀ x0, k1 x0 = kk1 x0) : ref19_At_p20 n a0 a1 a2 w5 w7 h13 w113 h14 k0 k1 = ref19_At_p20 n a0 a1 a2 w5 w7 h13 w113 h14 kk0 kk1 := by
  obtain rfl : k0 = kk0 := funext fun x0 => funext fun x1 => funext fun x2 => funext fun x3 => funext fun x4 => funext fun x5 => hq0 x0 x1 x2 x3 x4 x5
  obtain rfl : k1 = kk1 := funext fun x0 => hq1 x0
  rfl
theorem ref19_At_p21_congr {R : Type} (n : Nat) (a0 : Int) (a1 : List (List D)) (a2 : Int) (w5 : Int) (w7 : Int) (h13 : Int) (w113 : Bool) (h14 : List (List D)) {k0 kk0 : Bool → D → D → D → D → D → Option R} {k1 kk1 : (List (List D)) → Option R} (hq0 : ∀ x0 x1 x2 x3 x4 x5, k0 x0 x1 x2 x3 x4 x5 = kk0 x0 x1 x2 x3 x4 x5) (hq1 : ∀ x0, k1 x0 = kk1 x0) : ref19_At_p21 n a0 a1 a2 w5 w7 h13 w113 h14 k0 k1 = ref19_At_p21 n a0 a1 a2 w5 w7 h13 w113 h14 kk0 kk1 := by
  obtain rfl : k0 = kk0 := funext fun x0 => funext fun x1 => funext fun x2 => funext fun x3 => funext fun x4 => funext fun x5 => hq0 x0 x1 x2 x3 x4 x5
  obtain rfl : k1 = kk1 := funext fun x0 => hq1 x0
  rfl
theorem ref19_At_p22_congr {R : Type} (n : Nat) (a0 : Int) (a1 : List (List D)) (a2 : Int) (w5 : Int) (w7 : Int) (h13 : Int) (w192 : Bool) (w193 : D) (w194 : D) (w195 : D) (w196 : D) (w197 : D) (h14 : List (List D)) {k0 kk0 : Int → Option R} (hq0 : ∀ x0, k0 x0 = kk0 x0) : ref19_At_p22 n a0 a1 a2 w5 w7 h13 w192 w193 w194 w195 w196 w197 h14 k0 = ref19_At_p22 n a0 a1 a2 w5 w7 h13 w192 w193 w194 w195 w196 w197 h14 kk0 := by
  obtain rfl : k0 = kk0 := funext fun x0 => hq0 x0
  rfl
theorem ref19_At_p23_congr {R : Type} (n : Nat) (a0 : Int) (a1 : List (List D)) (a2 : Int) (w5 : Int) (w7 : Int) (h13 : Int) (w200 : List (List D)) {k0 kk0 : Int → Option R} (hq0 : ∀ x0, k0 x0 = kk0 x0) : ref19_At_p23 n a0 a1 a2 w5 w7 h13 w200 k0 = ref19_At_p23 n a0 a1 a2 w5 w7 h13 w200 kk0 := by
  obtain rfl : k0 = kk0 := funext fun x0 => hq0 x0
  rfl
theorem ref19_At_p24_congr {R : Type} (n : Nat) (a0 : Int) (a1 : List (List D)) (a2 : Int) (w5 : Int) (w7 : Int) (h13 : Int) (w113 : Bool) (h14 : List (List D)) {k0 kk0 : Int → (List (List D)) → Option R} (hq0 : ∀ x0 x1, k0 x0 x1 = kk0 x0 x1) : ref19_At_p24 n a0 a1 a2 w5 w7 h13 w113 h14 k0 = ref19_At_p24 n a0 a1 a2 w5 w7 h13 w113 h14 kk0 := by
  obtain rfl : k0 = kk0 := funext fun x0 => funext fun x1 => hq0 x0 x1
  rfl
theorem ref19_At_p25_congr {R : Type} (n : Nat) (a0 : Int) (a1 : List (List D)) (a2 : Int) (w5 : Int) (w7 : Int) (h13 : Int) (w113 : Bool) (h14 : List (List D)) {k0 kk0 : Int → (List (List D)) → Option R} {k1 kk1 : Option R} (hq0 : ∀ x0 x1, k0 x0 x1 = kk0 x0 x1) (hq1 : k1 = kk1) : ref19_At_p25 n a0 a1 a2 w5 w7 h13 w113 h14 k0 k1 = ref19_At_p25 n a0 a1 a2 w5 w7 h13 w113 h14 kk0 kk1 := by
  obtain rfl : k0 = kk0 := funext fun x0 => funext fun x1 => hq0 x0 x1
  obtain rfl : k1 = kk1 := hq1
  rfl
theorem ref19_At_p26_congr {R : Type} (n : Nat) (a0 : Int) (a1 : List (List D)) (a2 : Int) (w5 : Int) (w7 : Int) (h13 : Int) (h14 : List (List D)) {k0 kk0 : Int → (List (List D)) → Option R} {k1 kk1 : Bool → Option R} (hq0 : ∀ x0 x1, k0 x0 x1 = kk0 x0 x1) (hq1 : ∀ x0, k1 x0 = kk1 x0) : ref19_At_p26 n a0 a1 a2 w5 w7 h13 h14 k0 k1 = ref19_At_p26 n a0 a1 a2 w5 w7 h13 h14 kk0 kk1 := by
  obtain rfl : k0 = kk0 := funext fun x0 => funext fun x1 => hq0 x0 x1
  obtain rfl : k1 = kk1 := funext fun x0 => hq1 x0
  rfl
theorem ref19_At_p27_congr {R : Type} (n : Nat) (a0 : Int) (a1 : List (List D)) (a2 : Int) (w5 : Int) (w7 : Int) {k0 kk0 : Int → Bool → (List (List D)) → Option R} (hq0 : ∀ x0 x1 x2, k0 x0 x1 x2 = kk0 x0 x1 x2) : ref19_At_p27 n a0 a1 a2 w5 w7 k0 = ref19_At_p27 n a0 a1 a2 w5 w7 kk0 := by
  obtain rfl : k0 = kk0 := funext fun x0 => funext fun x1 => funext fun x2 => hq0 x0 x1 x2
  rfl
theorem ref19_At_p28_congr {R : Type} (n : Nat) (a0 : Int) (a1 : List (List D)) (a2 : Int) (w5 : Int) (w7 : Int) {k0 kk0 : Int → Bool → (List (List D)) → Option R} (hq0 : ∀ x0 x1 x2, k0 x0 x1 x2 = kk0 x0 x1 x2) : ref19_At_p28 n a0 a1 a2 w5 w7 k0 = ref19_At_p28 n a0 a1 a2 w5 w7 kk0 := by
  obtain rfl : k0 = kk0 := funext fun x0 => funext fun x1 => funext fun x2 => hq0 x0 x1 x2
  rfl
theorem ref19_At_p29_congr {R : Type} (n : Nat) (a0 : Int) (a1 : List (List D)) (a2 : Int) (w5 : Int) {k0 kk0 : Int → Int → Bool → (List (List D)) → Option R} (hq0 : ∀ x0 x1 x2 x3, k0 x0 x1 x2 x3 = kk0 x0 x1 x2 x3) : ref19_At_p29 n a0 a1 a2 w5 k0 = ref19_At_p29 n a0 a1 a2 w5 kk0 := by
  obtain rfl : k0 = kk0 := funext fun x0 => funext fun x1 => funext fun x2 => funext fun x3 => hq0 x0 x1 x2 x3
  rfl
theorem ref19_At_p30_congr {R : Type} (n : Nat) (a0 : Int) (a1 : List (List D)) (a2 : Int) (w5 : Int) (w218 : Int) (w219 : Int) (w220 : Bool) (w221 : List (List D)) {k0 kk0 : Option R} (hq0 : k0 = kk0) : ref19_At_p30 n a0 a1 a2 w5 w218 w219 w220 w221 k0 = ref19_At_p30 n a0 a1 a2 w5 w218 w219 w220 w221 kk0 := by
  obtain rfl : k0 = kk0 := hq0
  rfl
theorem ref19_At_p31_congr {R : Type} (n : Nat) (a0 : Int) (a1 : List (List D)) (a2 : Int) (w5 : Int) {k0 kk0 : (List (List D)) → Option R} (hq0 : ∀ x0, k0 x0 = kk0 x0) : ref19_At_p31 n a0 a1 a2 w5 k0 = ref19_At_p31 n a0 a1 a2 w5 kk0 := by
  obtain rfl : k0 = kk0 := funext fun x0 => hq0 x0
  rfl
theorem ref19_At_p32_congr {R : Type} (n : Nat) (a0 : Int) (a1 : List (List D)) (a2 : Int) (w5 : Int) {k0 kk0 : (List (List D)) → Option R} (hq0 : ∀ x0, k0 x0 = kk0 x0) : ref19_At_p32 n a0 a1 a2 w5 k0 = ref19_At_p32 n a0 a1 a2 w5 kk0 := by
  obtain rfl : k0 = kk0 := funext fun x0 => hq0 x0
  rfl
theorem ref19_At_p33_congr {R : Type} (n : Nat) (a0 : Int) (a1 : List (List D)) (a2 : Int) (a3 : Int) (w3 : Bool) {k0 kk0 : (List (List D)) → Option R} (hq0 : ∀ x0, k0 x0 = kk0 x0) : ref19_At_p33 n a0 a1 a2 a3 w3 k0 = ref19_At_p33 n a0 a1 a2 a3 w3 kk0 := by
  obtain rfl : k0 = kk0 := funext fun x0 => hq0 x0
  rfl
theorem ref19_At_p34_congr {R : Type} (n : Nat) (a0 : Int) (a1 : List (List D)) (a2 : Int) (a3 : Int) {k0 kk0 : Option R} {k1 kk1 : (List (List D)) → Option R} (hq0 : k0 = kk0) (hq1 : ∀ x0, k1 x0 = kk1 x0) : ref19_At_p34 n a0 a1 a2 a3 k0 k1 = ref19_At_p34 n a0 a1 a2 a3 kk0 kk1 := by
  obtain rfl : k0 = kk0 := hq0
  obtain rfl : k1 = kk1 := funext fun x0 => hq1 x0
  rfl
theorem ref19_At_p35_congr {R : Type} (n : Nat) (a0 : Int) (a1 : List (List D)) (a2 : Int) (a3 : Int) {k0 kk0 : Option R} {k1 kk1 : (List (List D)) → Option R} (hq0 : k0 = kk0) (hq1 : ∀ x0, k1 x0 = kk1 x0) : ref19_At_p35 n a0 a1 a2 a3 k0 k1 = ref19_At_p35 n a0 a1 a2 a3 kk0 kk1 := by
  obtain rfl : k0 = kk0 := hq0
  obtain rfl : k1 = kk1 := funext fun x0 => hq1 x0
  rfl
theorem ref19_At_p1_eq {R : Type} (n : Nat) (a0 : Int) (a1 : List (List D)) (a2 : Int) (a3 : Int) (k : Exit → St → Option R) : vexec (ref19_At_C n) n ref19_At_c1 ⟨80, [(0, .d (D.int .i64 a0)), (1, .d (D.sl 5 a1)), (2, .d (D.int .i64 a2)), (3, .d (D.int .i64 a3))], []⟩ k = ref19_At_p1 n a0 a1 a2 a3 (k .normal ⟨80, [(0, .d (D.int .i64 a0)), (1, .d (D.sl 5 a1)), (2, .d (D.int .i64 a2)), (3, .d (D.int .i64 a3))], []⟩) := by kernel_rfl
theorem ref19_At_p2_eq {R : Type} (n : Nat) (a0 : Int) (a1 : List (List D)) (a2 : Int) (a3 : Int) (k : Exit → St → Option R) : vexec (ref19_At_C n) n ref19_At_c2 ⟨80, [(0, .d (D.int .i64 a0)), (1, .d (D.sl 5 a1)), (2, .d (D.int .i64 a2)), (3, .d (D.int .i64 a3))], []⟩ k = ref19_At_p2 n a0 a1 a2 a3 (k .ret ⟨80, [(8, .nil)], []⟩) (fun z2 => k .normal ⟨80, [(0, .d (D.int .i64 a0)), (1, .d (D.sl 5 a1)), (2, .d (D.int .i64 a2)), (3, .d (D.int .i64 a3)), (17, .d (D.bool z2))], []⟩) := by kernel_rfl
theorem ref19_At_p3_eq {R : Type} (n : Nat) (a0 : Int) (a1 : List (List D)) (a2 : Int) (a3 : Int) (w3 : Bool) (k : Exit → St → Option R) : vexec (ref19_At_C n) n ref19_At_c3 ⟨80, [(0, .d (D.int .i64 a0)), (1, .d (D.sl 5 a1)), (2, .d (D.int .i64 a2)), (3, .d (D.int .i64 a3)), (17, .d (D.bool w3))], []⟩ k = ref19_At_p3 n a0 a1 a2 a3 w3 (fun r4 => k .normal ⟨80, [(0, .d (D.int .i64 a0)), (1, .d (D.sl 5 a1)), (2, .d (D.int .i64 a2)), (9, .d (D.int .i64 r4))], []⟩) := by kernel_rfl
theorem ref19_At_p4_eq {R : Type} (n : Nat) (a0 : Int) (a1 : List (List D)) (a2 : Int) (w5 : Int) (k : Exit → St → Option R) : vexec (ref19_At_C n) n ref19_At_c4 ⟨80, [(0, .d (D.int .i64 a0)), (1, .d (D.sl 5 a1)), (2, .d (D.int .i64 a2)), (9, .d (D.int .i64 w5))], []⟩ k = ref19_At_p4 n a0 a1 a2 w5 (k .normal ⟨80, [(0, .d (D.int .i64 a0)), (1, .d (D.sl 5 a1)), (2, .d (D.int .i64 a2)), (9, .d (D.int .i64 w5)), (10, .nil)], []⟩) := by kernel_rfl
theorem ref19_At_p5_eq {R : Type} (n : Nat) (a0 : Int) (a1 : List (List D)) (a2 : Int) (w5 : Int) (k : Exit → St → Option R) : vexec (ref19_At_C n) n ref19_At_c5 ⟨80, [(0, .d (D.int .i64 a0)), (1, .d (D.sl 5 a1)), (2, .d (D.int .i64 a2)), (9, .d (D.int .i64 w5)), (10, .nil)], []⟩ k = ref19_At_p5 n a0 a1 a2 w5 (fun z6 => k .normal ⟨80, [(0, .d (D.int .i64 a0)), (1, .d (D.sl 5 a1)), (2, .d (D.int .i64 a2)), (9, .d (D.int .i64 w5)), (10, .arr 1010), (22, .d (D.int .i64 z6)), (23, .d (D.int .i64 (0 : Int)))], [(1010, .arr 3 1 [])]⟩) := by kernel_rfl
theorem ref19_At_p6_eq {R : Type} (n : Nat) (a0 : Int) (a1 : List (List D)) (a2 : Int) (w5 : Int) (w7 : Int) (h13 : Int) (h14 : List (List D)) (k : Exit → St → Option R) : vexec (ref19_At_C n) n ref19_At_c6 ⟨80, [(0, .d (D.int .i64 a0)), (1, .d (D.sl 5 a1)), (2, .d (D.int .i64 a2)), (9, .d (D.int .i64 w5)), (10, .arr 1010), (22, .d (D.int .i64 w7)), (23, .d (D.int .i64 h13))], [(1010, .arr 3 1 h14)]⟩ k = ref19_At_p6 n a0 a1 a2 w5 w7 h13 h14 (fun z112 => k .normal ⟨80, [(0, .d (D.int .i64 a0)), (1, .d (D.sl 5 a1)), (2, .d (D.int .i64 a2)), (9, .d (D.int .i64 w5)), (10, .arr 1010), (22, .d (D.int .i64 w7)), (23, .d (D.int .i64 h13)), (24, .d (D.bool z112))], [(1010, .arr 3 1 h14)]⟩) := by kernel_rfl
theorem ref19_At_p7_eq {R : Type} (n : Nat) (a0 : Int) (a1 : List (List D)) (a2 : Int) (w5 : Int) (w7 : Int) (h13 : Int) (w113 : Bool) (h14 : List (List D)) (k : Exit → St → Option R) : vexec (ref19_At_C n) n ref19_At_c7 ⟨80, [(0, .d (D.int .i64 a0)), (1, .d (D.sl 5 a1)), (2, .d (D.int .i64 a2)), (9, .d (D.int .i64 w5)), (10, .arr 1010), (22, .d (D.int .i64 w7)), (23, .d (D.int .i64 h13)), (24, .d (D.bool w113))], [(1010, .arr 3 1 h14)]⟩ k = ref19_At_p7 n a0 a1 a2 w5 w7 h13 w113 h14 (k .normal ⟨80, [(0, .d (D.int .i64 a0)), (1, .d (D.sl 5 a1)), (2, .d (D.int .i64 a2)), (9, .d (D.int .i64 w5)), (10, .arr 1010), (22, .d (D.int .i64 w7)), (23, .d (D.int .i64 h13)), (24, .d (D.bool w113))], [(1010, .arr 3 1 h14)]⟩) (k (.exit 0) ⟨80, [(0, .d (D.int .i64 a0)), (1, .d (D.sl 5 a1)), (2, .d (D.int .i64 a2)), (9, .d (D.int .i64 w5)), (10, .arr 1010), (22, .d (D.int .i64 w7)), (23, .d (D.int .i64 h13)), (24, .d (D.bool w113))], [(1010, .arr 3 1 h14)]⟩) := by kernel_rfl
theorem ref19_At_p8_eq {R : Type} (n : Nat) (a0 : Int) (a1 : List (List D)) (a2 : Int) (w5 : Int) (w7 : Int) (h13 : Int) (w113 : Bool) (h14 : List (List D)) (k : Exit → St → Option R) : vexec (ref19_At_C n) n ref19_At_c8 ⟨80, [(0, .d (D.int .i64 a0)), (1, .d (D.sl 5 a1)), (2, .d (D.int .i64 a2)), (9, .d (D.int .i64 w5)), (10, .arr 1010), (22, .d (D.int .i64 w7)), (23, .d (D.int .i64 h13)), (24, .d (D.bool w113))], [(1010, .arr 3 1 h14)]⟩ k = ref19_At_p8 n a0 a1 a2 w5 w7 h13 w113 h14 (k .normal ⟨80, [(0, .d (D.int .i64 a0)), (1, .d (D.sl 5 a1)), (2, .d (D.int .i64 a2)), (9, .d (D.int .i64 w5)), (10, .arr 1010), (11, .d (D.int .i64 h13)), (22, .d (D.int .i64 w7)), (23, .d (D.int .i64 h13))], [(1010, .arr 3 1 h14)]⟩) := by kernel_rfl
theorem ref19_At_p9_eq {R : Type} (n : Nat) (a0 : Int) (a1 : List (List D)) (a2 : Int) (w5 : Int) (h13 : Int) (w7 : Int) (h14 : List (List D)) (k : Exit → St → Option R) : vexec (ref19_At_C n) n ref19_At_c9 ⟨80, [(0, .d (D.int .i64 a0)), (1, .d (D.sl 5 a1)), (2, .d (D.int .i64 a2)), (9, .d (D.int .i64 w5)), (10, .arr 1010), (11, .d (D.int .i64 h13)), (22, .d (D.int .i64 w7)), (23, .d (D.int .i64 h13))], [(1010, .arr 3 1 h14)]⟩ k = ref19_At_p9 n a0 a1 a2 w5 h13 w7 h14 (fun c115 c116 c117 c118 c119 => k .normal ⟨80, [(0, .d (D.int .i64 a0)), (1, .d (D.sl 5 a1)), (2, .d (D.int .i64 a2)), (9, .d (D.int .i64 w5)), (10, .arr 1010), (12, .ptr 12 0), (22, .d (D.int .i64 w7)), (23, .d (D.int .i64 h13))], [(12, .box [.d c115, .d c116, .d c117, .d c118, .d c119]), (1010, .arr 3 1 h14)]⟩) := by kernel_rfl
theorem ref19_At_p10_eq {R : Type} (n : Nat) (a0 : Int) (a1 : List (List D)) (a2 : Int) (w5 : Int) (w7 : Int) (h13 : Int) (w120 : D) (w121 : D) (w122 : D) (w123 : D) (w124 : D) (h14 : List (List D)) (k : Exit → St → Option R) : vexec (ref19_At_C n) n ref19_At_c10 ⟨80, [(0, .d (D.int .i64 a0)), (1, .d (D.sl 5 a1)), (2, .d (D.int .i64 a2)), (9, .d (D.int .i64 w5)), (10, .arr 1010), (12, .ptr 12 0), (22, .d (D.int .i64 w7)), (23, .d (D.int .i64 h13))], [(12, .box [.d w120, .d w121, .d w122, .d w123, .d w124]), (1010, .arr 3 1 h14)]⟩ k = ref19_At_p10 n a0 a1 a2 w5 w7 h13 w120 w121 w122 w123 w124 h14 (fun z131 => k (.exit 1) ⟨80, [(0, .d (D.int .i64 a0)), (1, .d (D.sl 5 a1)), (2, .d (D.int .i64 a2)), (9, .d (D.int .i64 w5)), (10, .arr 1010), (12, .ptr 12 0), (22, .d (D.int .i64 w7)), (23, .d (D.int .i64 h13)), (50, .d (D.bool z131))], [(12, .box [.d w120, .d w121, .d w122, .d w123, .d w124]), (1010, .arr 3 1 h14)]⟩) (fun z132 => k .normal ⟨80, [(0, .d (D.int .i64 a0)), (1, .d (D.sl 5 a1)), (2, .d (D.int .i64 a2)), (9, .d (D.int .i64 w5)), (10, .arr 1010), (12, .ptr 12 0), (22, .d (D.int .i64 w7)), (23, .d (D.int .i64 h13)), (50, .d (D.bool z132))], [(12, .box [.d w120, .d w121, .d w122, .d w123, .d w124]), (1010, .arr 3 1 h14)]⟩) := by kernel_rfl
theorem ref19_At_p11_eq {R : Type} (n : Nat) (a0 : Int) (a1 : List (List D)) (a2 : Int) (w5 : Int) (w7 : Int) (h13 : Int) (w134 : Bool) (w120 : D) (w121 : D) (w122 : D) (w123 : D) (w124 : D) (h14 : List (List D)) (k : Exit → St → Option R) : vexec (ref19_At_C n) n ref19_At_c11 ⟨80, [(0, .d (D.int .i64 a0)), (1, .d (D.sl 5 a1)), (2, .d (D.int .i64 a2)), (9, .d (D.int .i64 w5)), (10, .arr 1010), (12, .ptr 12 0), (22, .d (D.int .i64 w7)), (23, .d (D.int .i64 h13)), (50, .d (D.bool w134))], [(12, .box [.d w120, .d w121, .d w122, .d w123, .d w124]), (1010, .arr 3 1 h14)]⟩ k = ref19_At_p11 n a0 a1 a2 w5 w7 h13 w134 w120 w121 w122 w123 w124 h14 (k .normal ⟨80, [(0, .d (D.int .i64 a0)), (1, .d (D.sl 5 a1)), (2, .d (D.int .i64 a2)), (9, .d (D.int .i64 w5)), (10, .d (D.sl 1 h14)), (12, .ptr 12 0), (13, .d (D.int .i64 (0 : Int))), (22, .d (D.int .i64 w7)), (23, .d (D.int .i64 h13))], [(12, .box [.d w120, .d w121, .d w122, .d w123, .d w124])]⟩) := by kernel_rfl
theorem ref19_At_p12_eq {R : Type} (n : Nat) (a0 : Int) (a1 : List (List D)) (a2 : Int) (w5 : Int) (h14 : List (List D)) (h140 : Int) (w7 : Int) (h13 : Int) (w120 : D) (w121 : D) (w122 : D) (w123 : D) (w124 : D) (k : Exit → St → Option R) : vexec (ref19_At_C n) n ref19_At_c12 ⟨80, [(0, .d (D.int .i64 a0)), (1, .d (D.sl 5 a1)), (2, .d (D.int .i64 a2)), (9, .d (D.int .i64 w5)), (10, .d (D.sl 1 h14)), (12, .ptr 12 0), (13, .d (D.int .i64 h140)), (22, .d (D.int .i64 w7)), (23, .d (D.int .i64 h13))], [(12, .box [.d w120, .d w121, .d w122, .d w123, .d w124])]⟩ k = ref19_At_p12 n a0 a1 a2 w5 h14 h140 w7 h13 w120 w121 w122 w123 w124 (fun z158 => k .normal ⟨80, [(0, .d (D.int .i64 a0)), (1, .d (D.sl 5 a1)), (2, .d (D.int .i64 a2)), (9, .d (D.int .i64 w5)), (10, .d (D.sl 1 h14)), (12, .ptr 12 0), (13, .d (D.int .i64 z158)), (22, .d (D.int .i64 w7)), (23, .d (D.int .i64 h13))], [(12, .box [.d w120, .d w121, .d w122, .d w123, .d w124])]⟩) (fun z159 => k (.exit 2) ⟨80, [(0, .d (D.int .i64 a0)), (1, .d (D.sl 5 a1)), (2, .d (D.int .i64 a2)), (9, .d (D.int .i64 w5)), (10, .d (D.sl 1 h14)), (12, .ptr 12 0), (13, .d (D.int .i64 h140)), (22, .d (D.int .i64 w7)), (23, .d (D.int .i64 h13)), (63, .d (D.bool z159))], [(12, .box [.d w120, .d w121, .d w122, .d w123, .d w124])]⟩) := by kernel_rfl
theorem ref19_At_r13_eq {R : Type} (n : Nat) (a0 : Int) (a1 : List (List D)) (a2 : Int) (w5 : Int) (h14 : List (List D)) (w7 : Int) (h13 : Int) (w120 : D) (w121 : D) (w122 : D) (w123 : D) (w124 : D) (k : Exit → St → Option R) : ∀ (m : Nat) (h140 : Int), loopN (vexec (ref19_At_C n) n ref19_At_c12) m ⟨80, [(0, .d (D.int .i64 a0)), (1, .d (D.sl 5 a1)), (2, .d (D.int .i64 a2)), (9, .d (D.int .i64 w5)), (10, .d (D.sl 1 h14)), (12, .ptr 12 0), (13, .d (D.int .i64 h140)), (22, .d (D.int .i64 w7)), (23, .d (D.int .i64 h13))], [(12, .box [.d w120, .d w121, .d w122, .d w123, .d w124])]⟩ k = ref19_At_r13 n a0 a1 a2 w5 h14 w7 h13 w120 w121 w122 w123 w124 (fun h140 w161 => k (.exit 2) ⟨80, [(0, .d (D.int .i64 a0)), (1, .d (D.sl 5 a1)), (2, .d (D.int .i64 a2)), (9, .d (D.int .i64 w5)), (10, .d (D.sl 1 h14)), (12, .ptr 12 0), (13, .d (D.int .i64 h140)), (22, .d (D.int .i64 w7)), (23, .d (D.int .i64 h13)), (63, .d (D.bool w161))], [(12, .box [.d w120, .d w121, .d w122, .d w123, .d w124])]⟩) m h140
  | 0, _ => rfl
  | m + 1, h140 => (ref19_At_p12_eq n a0 a1 a2 w5 h14 h140 w7 h13 w120 w121 w122 w123 w124 (loopK (vexec (ref19_At_C n) n ref19_At_c12) m k)).trans (ref19_At_p12_congr n a0 a1 a2 w5 h14 h140 w7 h13 w120 w121 w122 w123 w124 (fun w160 => ref19_At_r13_eq n a0 a1 a2 w5 h14 w7 h13 w120 w121 w122 w123 w124 k m w160) (fun w161 => rfl))
theorem ref19_At_p13_eq {R : Type} (n : Nat) (a0 : Int) (a1 : List (List D)) (a2 : Int) (w5 : Int) (h14 : List (List D)) (w7 : Int) (h13 : Int) (w120 : D) (w121 : D) (w122 : D) (w123 : D) (w124 : D) (k : Exit → St → Option R) : vexec (ref19_At_C n) n ref19_At_c13 ⟨80, [(0, .d (D.int .i64 a0)), (1, .d (D.sl 5 a1)), (2, .d (D.int .i64 a2)), (9, .d (D.int .i64 w5)), (10, .d (D.sl 1 h14)), (12, .ptr 12 0), (13, .d (D.int .i64 (0 : Int))), (22, .d (D.int .i64 w7)), (23, .d (D.int .i64 h13))], [(12, .box [.d w120, .d w121, .d w122, .d w123, .d w124])]⟩ k = ref19_At_p13 n a0 a1 a2 w5 h14 w7 h13 w120 w121 w122 w123 w124 (fun h140 w161 => k (.exit 2) ⟨80, [(0, .d (D.int .i64 a0)), (1, .d (D.sl 5 a1)), (2, .d (D.int .i64 a2)), (9, .d (D.int .i64 w5)), (10, .d (D.sl 1 h14)), (12, .ptr 12 0), (13, .d (D.int .i64 h140)), (22, .d (D.int .i64 w7)), (23, .d (D.int .i64 h13)), (63, .d (D.bool w161))], [(12, .box [.d w120, .d w121, .d w122, .d w123, .d w124])]⟩) := by
  rw [ref19_At_c13_eq]
  exact ref19_At_r13_eq n a0 a1 a2 w5 h14 w7 h13 w120 w121 w122 w123 w124 k n (0 : Int)
theorem ref19_At_p14_eq {R : Type} (n : Nat) (a0 : Int) (a1 : List (List D)) (a2 : Int) (w5 : Int) (h14 : List (List D)) (w7 : Int) (h13 : Int) (w120 : D) (w121 : D) (w122 : D) (w123 : D) (w124 : D) (k : Exit → St → Option R) : vexec (ref19_At_C n) n ref19_At_c14 ⟨80, [(0, .d (D.int .i64 a0)), (1, .d (D.sl 5 a1)), (2, .d (D.int .i64 a2)), (9, .d (D.int .i64 w5)), (10, .d (D.sl 1 h14)), (12, .ptr 12 0), (13, .d (D.int .i64 (0 : Int))), (22, .d (D.int .i64 w7)), (23, .d (D.int .i64 h13))], [(12, .box [.d w120, .d w121, .d w122, .d w123, .d w124])]⟩ k = ref19_At_p14 n a0 a1 a2 w5 h14 w7 h13 w120 w121 w122 w123 w124 (fun w162 w163 => k .normal ⟨80, [(0, .d (D.int .i64 a0)), (1, .d (D.sl 5 a1)), (2, .d (D.int .i64 a2)), (9, .d (D.int .i64 w5)), (10, .d (D.sl 1 h14)), (12, .ptr 12 0), (13, .d (D.int .i64 w162)), (22, .d (D.int .i64 w7)), (23, .d (D.int .i64 h13)), (63, .d (D.bool w163))], [(12, .box [.d w120, .d w121, .d w122, .d w123, .d w124])]⟩) := by
  rw [ref19_At_c14_eq]
  unfold ref19_At_p14
  exact (ref19_At_p13_eq n a0 a1 a2 w5 h14 w7 h13 w120 w121 w122 w123 w124 (blockK 2 k)).trans (ref19_At_p13_congr n a0 a1 a2 w5 h14 w7 h13 w120 w121 w122 w123 w124 (fun w162 w163 => rfl))
theorem ref19_At_p15_eq {R : Type} (n : Nat) (a0 : Int) (a1 : List (List D)) (a2 : Int) (w5 : Int) (h14 : List (List D)) (w164 : Int) (w7 : Int) (h13 : Int) (w165 : Bool) (w120 : D) (w121 : D) (w122 : D) (w123 : D) (w124 : D) (k : Exit → St → Option R) : vexec (ref19_At_C n) n ref19_At_c15 ⟨80, [(0, .d (D.int .i64 a0)), (1, .d (D.sl 5 a1)), (2, .d (D.int .i64 a2)), (9, .d (D.int .i64 w5)), (10, .d (D.sl 1 h14)), (12, .ptr 12 0), (13, .d (D.int .i64 w164)), (22, .d (D.int .i64 w7)), (23, .d (D.int .i64 h13)), (63, .d (D.bool w165))], [(12, .box [.d w120, .d w121, .d w122, .d w123, .d w124])]⟩ k = ref19_At_p15 n a0 a1 a2 w5 h14 w164 w7 h13 w165 w120 w121 w122 w123 w124 (fun z172 => k .normal ⟨80, [(0, .d (D.int .i64 a0)), (1, .d (D.sl 5 a1)), (2, .d (D.int .i64 a2)), (9, .d (D.int .i64 w5)), (10, .arr 1010), (22, .d (D.int .i64 w7)), (23, .d (D.int .i64 h13))], [(1010, .arr 3 1 z172)]⟩) := by kernel_rfl
theorem ref19_At_p16_eq {R : Type} (n : Nat) (a0 : Int) (a1 : List (List D)) (a2 : Int) (w5 : Int) (h14 : List (List D)) (w7 : Int) (h13 : Int) (w120 : D) (w121 : D) (w122 : D) (w123 : D) (w124 : D) (k : Exit → St → Option R) : vexec (ref19_At_C n) n ref19_At_c16 ⟨80, [(0, .d (D.int .i64 a0)), (1, .d (D.sl 5 a1)), (2, .d (D.int .i64 a2)), (9, .d (D.int .i64 w5)), (10, .d (D.sl 1 h14)), (12, .ptr 12 0), (13, .d (D.int .i64 (0 : Int))), (22, .d (D.int .i64 w7)), (23, .d (D.int .i64 h13))], [(12, .box [.d w120, .d w121, .d w122, .d w123, .d w124])]⟩ k = ref19_At_p16 n a0 a1 a2 w5 h14 w7 h13 w120 w121 w122 w123 w124 (fun w173 => k .normal ⟨80, [(0, .d (D.int .i64 a0)), (1, .d (D.sl 5 a1)), (2, .d (D.int .i64 a2)), (9, .d (D.int .i64 w5)), (10, .arr 1010), (22, .d (D.int .i64 w7)), (23, .d (D.int .i64 h13))], [(1010, .arr 3 1 w173)]⟩) := by
  rw [ref19_At_c16_eq]
  unfold ref19_At_p16
  exact (ref19_At_p14_eq n a0 a1 a2 w5 h14 w7 h13 w120 w121 w122 w123 w124 (seqK (ref19_At_C n) n ref19_At_c15 k)).trans (ref19_At_p14_congr n a0 a1 a2 w5 h14 w7 h13 w120 w121 w122 w123 w124 (fun w164 w165 => ref19_At_p15_eq n a0 a1 a2 w5 h14 w164 w7 h13 w165 w120 w121 w122 w123 w124 k))
theorem ref19_At_p17_eq {R : Type} (n : Nat) (a0 : Int) (a1 : List (List D)) (a2 : Int) (w5 : Int) (w7 : Int) (h13 : Int) (w134 : Bool) (w120 : D) (w121 : D) (w122 : D) (w123 : D) (w124 : D) (h14 : List (List D)) (k : Exit → St → Option R) : vexec (ref19_At_C n) n ref19_At_c17 ⟨80, [(0, .d (D.int .i64 a0)), (1, .d (D.sl 5 a1)), (2, .d (D.int .i64 a2)), (9, .d (D.int .i64 w5)), (10, .arr 1010), (12, .ptr 12 0), (22, .d (D.int .i64 w7)), (23, .d (D.int .i64 h13)), (50, .d (D.bool w134))], [(12, .box [.d w120, .d w121, .d w122, .d w123, .d w124]), (1010, .arr 3 1 h14)]⟩ k = ref19_At_p17 n a0 a1 a2 w5 w7 h13 w134 w120 w121 w122 w123 w124 h14 (fun w174 => k .normal ⟨80, [(0, .d (D.int .i64 a0)), (1, .d (D.sl 5 a1)), (2, .d (D.int .i64 a2)), (9, .d (D.int .i64 w5)), (10, .arr 1010), (22, .d (D.int .i64 w7)), (23, .d (D.int .i64 h13))], [(1010, .arr 3 1 w174)]⟩) := by
  rw [ref19_At_c17_eq]
  unfold ref19_At_p17
  exact (ref19_At_p11_eq n a0 a1 a2 w5 w7 h13 w134 w120 w121 w122 w123 w124 h14 (seqK (ref19_At_C n) n ref19_At_c16 k)).trans (ref19_At_p11_congr n a0 a1 a2 w5 w7 h13 w134 w120 w121 w122 w123 w124 h14 (ref19_At_p16_eq n a0 a1 a2 w5 h14 w7 h13 w120 w121 w122 w123 w124 k))
theorem ref19_At_p18_eq {R : Type} (n : Nat) (a0 : Int) (a1 : List (List D)) (a2 : Int) (w5 : Int) (w7 : Int) (h13 : Int) (w120 : D) (w121 : D) (w122 : D) (w123 : D) (w124 : D) (h14 : List (List D)) (k : Exit → St → Option R) : vexec (ref19_At_C n) n ref19_At_c18 ⟨80, [(0, .d (D.int .i64 a0)), (1, .d (D.sl 5 a1)), (2, .d (D.int .i64 a2)), (9, .d (D.int .i64 w5)), (10, .arr 1010), (12, .ptr 12 0), (22, .d (D.int .i64 w7)), (23, .d (D.int .i64 h13))], [(12, .box [.d w120, .d w121, .d w122, .d w123, .d w124]), (1010, .arr 3 1 h14)]⟩ k = ref19_At_p18 n a0 a1 a2 w5 w7 h13 w120 w121 w122 w123 w124 h14 (fun w133 => k (.exit 1) ⟨80, [(0, .d (D.int .i64 a0)), (1, .d (D.sl 5 a1)), (2, .d (D.int .i64 a2)), (9, .d (D.int .i64 w5)), (10, .arr 1010), (12, .ptr 12 0), (22, .d (D.int .i64 w7)), (23, .d (D.int .i64 h13)), (50, .d (D.bool w133))], [(12, .box [.d w120, .d w121, .d w122, .d w123, .d w124]), (1010, .arr 3 1 h14)]⟩) (fun w175 => k .normal ⟨80, [(0, .d (D.int .i64 a0)), (1, .d (D.sl 5 a1)), (2, .d (D.int .i64 a2)), (9, .d (D.int .i64 w5)), (10, .arr 1010), (22, .d (D.int .i64 w7)), (23, .d (D.int .i64 h13))], [(1010, .arr 3 1 w175)]⟩) := by
  rw [ref19_At_c18_eq]
  unfold ref19_At_p18
  exact (ref19_At_p10_eq n a0 a1 a2 w5 w7 h13 w120 w121 w122 w123 w124 h14 (seqK (ref19_At_C n) n ref19_At_c17 k)).trans (ref19_At_p10_congr n a0 a1 a2 w5 w7 h13 w120 w121 w122 w123 w124 h14 (fun w133 => rfl) (fun w134 => ref19_At_p17_eq n a0 a1 a2 w5 w7 h13 w134 w120 w121 w122 w123 w124 h14 k))
theorem ref19_At_p19_eq {R : Type} (n : Nat) (a0 : Int) (a1 : List (List D)) (a2 : Int) (w5 : Int) (h13 : Int) (w7 : Int) (h14 : List (List D)) (k : Exit → St → Option R) : vexec (ref19_At_C n) n ref19_At_c19 ⟨80, [(0, .d (D.int .i64 a0)), (1, .d (D.sl 5 a1)), (2, .d (D.int .i64 a2)), (9, .d (D.int .i64 w5)), (10, .arr 1010), (11, .d (D.int .i64 h13)), (22, .d (D.int .i64 w7)), (23, .d (D.int .i64 h13))], [(1010, .arr 3 1 h14)]⟩ k = ref19_At_p19 n a0 a1 a2 w5 h13 w7 h14 (fun w176 w120 w121 w122 w123 w124 => k (.exit 1) ⟨80, [(0, .d (D.int .i64 a0)), (1, .d (D.sl 5 a1)), (2, .d (D.int .i64 a2)), (9, .d (D.int .i64 w5)), (10, .arr 1010), (12, .ptr 12 0), (22, .d (D.int .i64 w7)), (23, .d (D.int .i64 h13)), (50, .d (D.bool w176))], [(12, .box [.d w120, .d w121, .d w122, .d w123, .d w124]), (1010, .arr 3 1 h14)]⟩) (fun w177 => k .normal ⟨80, [(0, .d (D.int .i64 a0)), (1, .d (D.sl 5 a1)), (2, .d (D.int .i64 a2)), (9, .d (D.int .i64 w5)), (10, .arr 1010), (22, .d (D.int .i64 w7)), (23, .d (D.int .i64 h13))], [(1010, .arr 3 1 w177)]⟩) := by
  rw [ref19_At_c19_eq]
  unfold ref19_At_p19
  exact (ref19_At_p9_eq n a0 a1 a2 w5 h13 w7 h14 (seqK (ref19_At_C n) n ref19_At_c18 k)).trans (ref19_At_p9_congr n a0 a1 a2 w5 h13 w7 h14 (fun w120 w121 w122 w123 w124 => ref19_At_p18_eq n a0 a1 a2 w5 w7 h13 w120 w121 w122 w123 w124 h14 k))
theorem ref19_At_p20_eq {R : Type} (n : Nat) (a0 : Int) (a1 : List (List D)) (a2 : Int) (w5 : Int) (w7 : Int) (h13 : Int) (w113 : Bool) (h14 : List (List D)) (k : Exit → St → Option R) : vexec (ref19_At_C n) n ref19_At_c20 ⟨80, [(0, .d (D.int .i64 a0)), (1, .d (D.sl 5 a1)), (2, .d (D.int .i64 a2)), (9, .d (D.int .i64 w5)), (10, .arr 1010), (22, .d (D.int .i64 w7)), (23, .d (D.int .i64 h13)), (24, .d (D.bool w113))], [(1010, .arr 3 1 h14)]⟩ k = ref19_At_p20 n a0 a1 a2 w5 w7 h13 w113 h14 (fun w178 w179 w180 w181 w182 w183 => k (.exit 1) ⟨80, [(0, .d (D.int .i64 a0)), (1, .d (D.sl 5 a1)), (2, .d (D.int .i64 a2)), (9, .d (D.int .i64 w5)), (10, .arr 1010), (12, .ptr 12 0), (22, .d (D.int .i64 w7)), (23, .d (D.int .i64 h13)), (50, .d (D.bool w178))], [(12, .box [.d w179, .d w180, .d w181, .d w182, .d w183]), (1010, .arr 3 1 h14)]⟩) (fun w184 => k .normal ⟨80, [(0, .d (D.int .i64 a0)), (1, .d (D.sl 5 a1)), (2, .d (D.int .i64 a2)), (9, .d (D.int .i64 w5)), (10, .arr 1010), (22, .d (D.int .i64 w7)), (23, .d (D.int .i64 h13))], [(1010, .arr 3 1 w184)]⟩) := by
  rw [ref19_At_c20_eq]
  unfold ref19_At_p20
  exact (ref19_At_p8_eq n a0 a1 a2 w5 w7 h13 w113 h14 (seqK (ref19_At_C n) n ref19_At_c19 k)).trans (ref19_At_p8_congr n a0 a1 a2 w5 w7 h13 w113 h14 (ref19_At_p19_eq n a0 a1 a2 w5 h13 w7 h14 k))
theorem ref19_At_p21_eq {R : Type} (n : Nat) (a0 : Int) (a1 : List (List D)) (a2 : Int) (w5 : Int) (w7 : Int) (h13 : Int) (w113 : Bool) (h14 : List (List D)) (k : Exit → St → Option R) : vexec (ref19_At_C n) n ref19_At_c21 ⟨80, [(0, .d (D.int .i64 a0)), (1, .d (D.sl 5 a1)), (2, .d (D.int .i64 a2)), (9, .d (D.int .i64 w5)), (10, .arr 1010), (22, .d (D.int .i64 w7)), (23, .d (D.int .i64 h13)), (24, .d (D.bool w113))], [(1010, .arr 3 1 h14)]⟩ k = ref19_At_p21 n a0 a1 a2 w5 w7 h13 w113 h14 (fun w185 w186 w187 w188 w189 w190 => k .normal ⟨80, [(0, .d (D.int .i64 a0)), (1, .d (D.sl 5 a1)), (2, .d (D.int .i64 a2)), (9, .d (D.int .i64 w5)), (10, .arr 1010), (12, .ptr 12 0), (22, .d (D.int .i64 w7)), (23, .d (D.int .i64 h13)), (50, .d (D.bool w185))], [(12, .box [.d w186, .d w187, .d w188, .d w189, .d w190]), (1010, .arr 3 1 h14)]⟩) (fun w191 => k .normal ⟨80, [(0, .d (D.int .i64 a0)), (1, .d (D.sl 5 a1)), (2, .d (D.int .i64 a2)), (9, .d (D.int .i64 w5)), (10, .arr 1010), (22, .d (D.int .i64 w7)), (23, .d (D.int .i64 h13))], [(1010, .arr 3 1 w191)]⟩) := by
  rw [ref19_At_c21_eq]
  unfold ref19_At_p21
  exact (ref19_At_p20_eq n a0 a1 a2 w5 w7 h13 w113 h14 (blockK 1 k)).trans (ref19_At_p20_congr n a0 a1 a2 w5 w7 h13 w113 h14 (fun w185 w186 w187 w188 w189 w190 => rfl) (fun w191 => rfl))
theorem ref19_At_p22_eq {R : Type} (n : Nat) (a0 : Int) (a1 : List (List D)) (a2 : Int) (w5 : Int) (w7 : Int) (h13 : Int) (w192 : Bool) (w193 : D) (w194 : D) (w195 : D) (w196 : D) (w197 : D) (h14 : List (List D)) (k : Exit → St → Option R) : vexec (ref19_At_C n) n ref19_At_c22 ⟨80, [(0, .d (D.int .i64 a0)), (1, .d (D.sl 5 a1)), (2, .d (D.int .i64 a2)), (9, .d (D.int .i64 w5)), (10, .arr 1010), (12, .ptr 12 0), (22, .d (D.int .i64 w7)), (23, .d (D.int .i64 h13)), (50, .d (D.bool w192))], [(12, .box [.d w193, .d w194, .d w195, .d w196, .d w197]), (1010, .arr 3 1 h14)]⟩ k = ref19_At_p22 n a0 a1 a2 w5 w7 h13 w192 w193 w194 w195 w196 w197 h14 (fun z198 => k .normal ⟨80, [(0, .d (D.int .i64 a0)), (1, .d (D.sl 5 a1)), (2, .d (D.int .i64 a2)), (9, .d (D.int .i64 w5)), (10, .arr 1010), (22, .d (D.int .i64 w7)), (23, .d (D.int .i64 z198))], [(1010, .arr 3 1 h14)]⟩) := by kernel_rfl
theorem ref19_At_p23_eq {R : Type} (n : Nat) (a0 : Int) (a1 : List (List D)) (a2 : Int) (w5 : Int) (w7 : Int) (h13 : Int) (w200 : List (List D)) (k : Exit → St → Option R) : vexec (ref19_At_C n) n ref19_At_c22 ⟨80, [(0, .d (D.int .i64 a0)), (1, .d (D.sl 5 a1)), (2, .d (D.int .i64 a2)), (9, .d (D.int .i64 w5)), (10, .arr 1010), (22, .d (D.int .i64 w7)), (23, .d (D.int .i64 h13))], [(1010, .arr 3 1 w200)]⟩ k = ref19_At_p23 n a0 a1 a2 w5 w7 h13 w200 (fun z201 => k .normal ⟨80, [(0, .d (D.int .i64 a0)), (1, .d (D.sl 5 a1)), (2, .d (D.int .i64 a2)), (9, .d (D.int .i64 w5)), (10, .arr 1010), (22, .d (D.int .i64 w7)), (23, .d (D.int .i64 z201))], [(1010, .arr 3 1 w200)]⟩) := by kernel_rfl
theorem ref19_At_p24_eq {R : Type} (n : Nat) (a0 : Int) (a1 : List (List D)) (a2 : Int) (w5 : Int) (w7 : Int) (h13 : Int) (w113 : Bool) (h14 : List (List D)) (k : Exit → St → Option R) : vexec (ref19_At_C n) n ref19_At_c23 ⟨80, [(0, .d (D.int .i64 a0)), (1, .d (D.sl 5 a1)), (2, .d (D.int .i64 a2)), (9, .d (D.int .i64 w5)), (10, .arr 1010), (22, .d (D.int .i64 w7)), (23, .d (D.int .i64 h13)), (24, .d (D.bool w113))], [(1010, .arr 3 1 h14)]⟩ k = ref19_At_p24 n a0 a1 a2 w5 w7 h13 w113 h14 (fun z203 z204 => k .normal ⟨80, [(0, .d (D.int .i64 a0)), (1, .d (D.sl 5 a1)), (2, .d (D.int .i64 a2)), (9, .d (D.int .i64 w5)), (10, .arr 1010), (22, .d (D.int .i64 w7)), (23, .d (D.int .i64 z203))], [(1010, .arr 3 1 z204)]⟩) := by
  rw [ref19_At_c23_eq]
  unfold ref19_At_p24
  exact (ref19_At_p21_eq n a0 a1 a2 w5 w7 h13 w113 h14 (seqK (ref19_At_C n) n ref19_At_c22 k)).trans (ref19_At_p21_congr n a0 a1 a2 w5 w7 h13 w113 h14 (fun w192 w193 w194 w195 w196 w197 => ref19_At_p22_eq n a0 a1 a2 w5 w7 h13 w192 w193 w194 w195 w196 w197 h14 k) (fun w200 => ref19_At_p23_eq n a0 a1 a2 w5 w7 h13 w200 k))
theorem ref19_At_p25_eq {R : Type} (n : Nat) (a0 : Int) (a1 : List (List D)) (a2 : Int) (w5 : Int) (w7 : Int) (h13 : Int) (w113 : Bool) (h14 : List (List D)) (k : Exit → St → Option R) : vexec (ref19_At_C n) n ref19_At_c24 ⟨80, [(0, .d (D.int .i64 a0)), (1, .d (D.sl 5 a1)), (2, .d (D.int .i64 a2)), (9, .d (D.int .i64 w5)), (10, .arr 1010), (22, .d (D.int .i64 w7)), (23, .d (D.int .i64 h13)), (24, .d (D.bool w113))], [(1010, .arr 3 1 h14)]⟩ k = ref19_At_p25 n a0 a1 a2 w5 w7 h13 w113 h14 (fun w205 w206 => k .normal ⟨80, [(0, .d (D.int .i64 a0)), (1, .d (D.sl 5 a1)), (2, .d (D.int .i64 a2)), (9, .d (D.int .i64 w5)), (10, .arr 1010), (22, .d (D.int .i64 w7)), (23, .d (D.int .i64 w205))], [(1010, .arr 3 1 w206)]⟩) (k (.exit 0) ⟨80, [(0, .d (D.int .i64 a0)), (1, .d (D.sl 5 a1)), (2, .d (D.int .i64 a2)), (9, .d (D.int .i64 w5)), (10, .arr 1010), (22, .d (D.int .i64 w7)), (23, .d (D.int .i64 h13)), (24, .d (D.bool w113))], [(1010, .arr 3 1 h14)]⟩) := by
  rw [ref19_At_c24_eq]
  unfold ref19_At_p25
  exact (ref19_At_p7_eq n a0 a1 a2 w5 w7 h13 w113 h14 (seqK (ref19_At_C n) n ref19_At_c23 k)).trans (ref19_At_p7_congr n a0 a1 a2 w5 w7 h13 w113 h14 (ref19_At_p24_eq n a0 a1 a2 w5 w7 h13 w113 h14 k) (rfl))
theorem ref19_At_p26_eq {R : Type} (n : Nat) (a0 : Int) (a1 : List (List D)) (a2 : Int) (w5 : Int) (w7 : Int) (h13 : Int) (h14 : List (List D)) (k : Exit → St → Option R) : vexec (ref19_At_C n) n ref19_At_c25 ⟨80, [(0, .d (D.int .i64 a0)), (1, .d (D.sl 5 a1)), (2, .d (D.int .i64 a2)), (9, .d (D.int .i64 w5)), (10, .arr 1010), (22, .d (D.int .i64 w7)), (23, .d (D.int .i64 h13))], [(1010, .arr 3 1 h14)]⟩ k = ref19_At_p26 n a0 a1 a2 w5 w7 h13 h14 (fun w207 w208 => k .normal ⟨80, [(0, .d (D.int .i64 a0)), (1, .d (D.sl 5 a1)), (2, .d (D.int .i64 a2)), (9, .d (D.int .i64 w5)), (10, .arr 1010), (22, .d (D.int .i64 w7)), (23, .d (D.int .i64 w207))], [(1010, .arr 3 1 w208)]⟩) (fun w113 => k (.exit 0) ⟨80, [(0, .d (D.int .i64 a0)), (1, .d (D.sl 5 a1)), (2, .d (D.int .i64 a2)), (9, .d (D.int .i64 w5)), (10, .arr 1010), (22, .d (D.int .i64 w7)), (23, .d (D.int .i64 h13)), (24, .d (D.bool w113))], [(1010, .arr 3 1 h14)]⟩) := by
  rw [ref19_At_c25_eq]
  unfold ref19_At_p26
  exact (ref19_At_p6_eq n a0 a1 a2 w5 w7 h13 h14 (seqK (ref19_At_C n) n ref19_At_c24 k)).trans (ref19_At_p6_congr n a0 a1 a2 w5 w7 h13 h14 (fun w113 => ref19_At_p25_eq n a0 a1 a2 w5 w7 h13 w113 h14 k))
theorem ref19_At_r27_eq {R : Type} (n : Nat) (a0 : Int) (a1 : List (List D)) (a2 : Int) (w5 : Int) (w7 : Int) (k : Exit → St → Option R) : ∀ (m : Nat) (h13 : Int) (h14 : List (List D)), loopN (vexec (ref19_At_C n) n ref19_At_c25) m ⟨80, [(0, .d (D.int .i64 a0)), (1, .d (D.sl 5 a1)), (2, .d (D.int .i64 a2)), (9, .d (D.int .i64 w5)), (10, .arr 1010), (22, .d (D.int .i64 w7)), (23, .d (D.int .i64 h13))], [(1010, .arr 3 1 h14)]⟩ k = ref19_At_r27 n a0 a1 a2 w5 w7 (fun h13 w211 h14 => k (.exit 0) ⟨80, [(0, .d (D.int .i64 a0)), (1, .d (D.sl 5 a1)), (2, .d (D.int .i64 a2)), (9, .d (D.int .i64 w5)), (10, .arr 1010), (22, .d (D.int .i64 w7)), (23, .d (D.int .i64 h13)), (24, .d (D.bool w211))], [(1010, .arr 3 1 h14)]⟩) m h13 h14
  | 0, _, _ => rfl
  | m + 1, h13, h14 => (ref19_At_p26_eq n a0 a1 a2 w5 w7 h13 h14 (loopK (vexec (ref19_At_C n) n ref19_At_c25) m k)).trans (ref19_At_p26_congr n a0 a1 a2 w5 w7 h13 h14 (fun w209 w210 => ref19_At_r27_eq n a0 a1 a2 w5 w7 k m w209 w210) (fun w211 => rfl))
theorem ref19_At_p27_eq {R : Type} (n : Nat) (a0 : Int) (a1 : List (List D)) (a2 : Int) (w5 : Int) (w7 : Int) (k : Exit → St → Option R) : vexec (ref19_At_C n) n ref19_At_c26 ⟨80, [(0, .d (D.int .i64 a0)), (1, .d (D.sl 5 a1)), (2, .d (D.int .i64 a2)), (9, .d (D.int .i64 w5)), (10, .arr 1010), (22, .d (D.int .i64 w7)), (23, .d (D.int .i64 (0 : Int)))], [(1010, .arr 3 1 [])]⟩ k = ref19_At_p27 n a0 a1 a2 w5 w7 (fun h13 w211 h14 => k (.exit 0) ⟨80, [(0, .d (D.int .i64 a0)), (1, .d (D.sl 5 a1)), (2, .d (D.int .i64 a2)), (9, .d (D.int .i64 w5)), (10, .arr 1010), (22, .d (D.int .i64 w7)), (23, .d (D.int .i64 h13)), (24, .d (D.bool w211))], [(1010, .arr 3 1 h14)]⟩) := by
  rw [ref19_At_c26_eq]
  exact ref19_At_r27_eq n a0 a1 a2 w5 w7 k n (0 : Int) []
theorem ref19_At_p28_eq {R : Type} (n : Nat) (a0 : Int) (a1 : List (List D)) (a2 : Int) (w5 : Int) (w7 : Int) (k : Exit → St → Option R) : vexec (ref19_At_C n) n ref19_At_c27 ⟨80, [(0, .d (D.int .i64 a0)), (1, .d (D.sl 5 a1)), (2, .d (D.int .i64 a2)), (9, .d (D.int .i64 w5)), (10, .arr 1010), (22, .d (D.int .i64 w7)), (23, .d (D.int .i64 (0 : Int)))], [(1010, .arr 3 1 [])]⟩ k = ref19_At_p28 n a0 a1 a2 w5 w7 (fun w212 w213 w214 => k .normal ⟨80, [(0, .d (D.int .i64 a0)), (1, .d (D.sl 5 a1)), (2, .d (D.int .i64 a2)), (9, .d (D.int .i64 w5)), (10, .arr 1010), (22, .d (D.int .i64 w7)), (23, .d (D.int .i64 w212)), (24, .d (D.bool w213))], [(1010, .arr 3 1 w214)]⟩) := by
  rw [ref19_At_c27_eq]
  unfold ref19_At_p28
  exact (ref19_At_p27_eq n a0 a1 a2 w5 w7 (blockK 0 k)).trans (ref19_At_p27_congr n a0 a1 a2 w5 w7 (fun w212 w213 w214 => rfl))
theorem ref19_At_p29_eq {R : Type} (n : Nat) (a0 : Int) (a1 : List (List D)) (a2 : Int) (w5 : Int) (k : Exit → St → Option R) : vexec (ref19_At_C n) n ref19_At_c28 ⟨80, [(0, .d (D.int .i64 a0)), (1, .d (D.sl 5 a1)), (2, .d (D.int .i64 a2)), (9, .d (D.int .i64 w5)), (10, .nil)], []⟩ k = ref19_At_p29 n a0 a1 a2 w5 (fun w7 w215 w216 w217 => k .normal ⟨80, [(0, .d (D.int .i64 a0)), (1, .d (D.sl 5 a1)), (2, .d (D.int .i64 a2)), (9, .d (D.int .i64 w5)), (10, .arr 1010), (22, .d (D.int .i64 w7)), (23, .d (D.int .i64 w215)), (24, .d (D.bool w216))], [(1010, .arr 3 1 w217)]⟩) := by
  rw [ref19_At_c28_eq]
  unfold ref19_At_p29
  exact (ref19_At_p5_eq n a0 a1 a2 w5 (seqK (ref19_At_C n) n ref19_At_c27 k)).trans (ref19_At_p5_congr n a0 a1 a2 w5 (fun w7 => ref19_At_p28_eq n a0 a1 a2 w5 w7 k))
theorem ref19_At_p30_eq {R : Type} (n : Nat) (a0 : Int) (a1 : List (List D)) (a2 : Int) (w5 : Int) (w218 : Int) (w219 : Int) (w220 : Bool) (w221 : List (List D)) (k : Exit → St → Option R) : vexec (ref19_At_C n) n ref19_At_c29 ⟨80, [(0, .d (D.int .i64 a0)), (1, .d (D.sl 5 a1)), (2, .d (D.int .i64 a2)), (9, .d (D.int .i64 w5)), (10, .arr 1010), (22, .d (D.int .i64 w218)), (23, .d (D.int .i64 w219)), (24, .d (D.bool w220))], [(1010, .arr 3 1 w221)]⟩ k = ref19_At_p30 n a0 a1 a2 w5 w218 w219 w220 w221 (k .ret ⟨80, [(8, .arr 1010)], [(1010, .arr 3 1 w221)]⟩) := by kernel_rfl
theorem ref19_At_p31_eq {R : Type} (n : Nat) (a0 : Int) (a1 : List (List D)) (a2 : Int) (w5 : Int) (k : Exit → St → Option R) : vexec (ref19_At_C n) n ref19_At_c30 ⟨80, [(0, .d (D.int .i64 a0)), (1, .d (D.sl 5 a1)), (2, .d (D.int .i64 a2)), (9, .d (D.int .i64 w5)), (10, .nil)], []⟩ k = ref19_At_p31 n a0 a1 a2 w5 (fun w221 => k .ret ⟨80, [(8, .arr 1010)], [(1010, .arr 3 1 w221)]⟩) := by
  rw [ref19_At_c30_eq]
  unfold ref19_At_p31
  exact (ref19_At_p29_eq n a0 a1 a2 w5 (seqK (ref19_At_C n) n ref19_At_c29 k)).trans (ref19_At_p29_congr n a0 a1 a2 w5 (fun w218 w219 w220 w221 => ref19_At_p30_eq n a0 a1 a2 w5 w218 w219 w220 w221 k))
theorem ref19_At_p32_eq {R : Type} (n : Nat) (a0 : Int) (a1 : List (List D)) (a2 : Int) (w5 : Int) (k : Exit → St → Option R) : vexec (ref19_At_C n) n ref19_At_c31 ⟨80, [(0, .d (D.int .i64 a0)), (1, .d (D.sl 5 a1)), (2, .d (D.int .i64 a2)), (9, .d (D.int .i64 w5))], []⟩ k = ref19_At_p32 n a0 a1 a2 w5 (fun w222 => k .ret ⟨80, [(8, .arr 1010)], [(1010, .arr 3 1 w222)]⟩) := by
  rw [ref19_At_c31_eq]
  unfold ref19_At_p32
  exact (ref19_At_p4_eq n a0 a1 a2 w5 (seqK (ref19_At_C n) n ref19_At_c30 k)).trans (ref19_At_p4_congr n a0 a1 a2 w5 (ref19_At_p31_eq n a0 a1 a2 w5 k))
theorem ref19_At_p33_eq {R : Type} (n : Nat) (a0 : Int) (a1 : List (List D)) (a2 : Int) (a3 : Int) (w3 : Bool) (k : Exit → St → Option R) : vexec (ref19_At_C n) n ref19_At_c32 ⟨80, [(0, .d (D.int .i64 a0)), (1, .d (D.sl 5 a1)), (2, .d (D.int .i64 a2)), (3, .d (D.int .i64 a3)), (17, .d (D.bool w3))], []⟩ k = ref19_At_p33 n a0 a1 a2 a3 w3 (fun w223 => k .ret ⟨80, [(8, .arr 1010)], [(1010, .arr 3 1 w223)]⟩) := by
  rw [ref19_At_c32_eq]
  unfold ref19_At_p33
  exact (ref19_At_p3_eq n a0 a1 a2 a3 w3 (seqK (ref19_At_C n) n ref19_At_c31 k)).trans (ref19_At_p3_congr n a0 a1 a2 a3 w3 (fun w5 => ref19_At_p32_eq n a0 a1 a2 w5 k))
theorem ref19_At_p34_eq {R : Type} (n : Nat) (a0 : Int) (a1 : List (List D)) (a2 : Int) (a3 : Int) (k : Exit → St → Option R) : vexec (ref19_At_C n) n ref19_At_c33 ⟨80, [(0, .d (D.int .i64 a0)), (1, .d (D.sl 5 a1)), (2, .d (D.int .i64 a2)), (3, .d (D.int .i64 a3))], []⟩ k = ref19_At_p34 n a0 a1 a2 a3 (k .ret ⟨80, [(8, .nil)], []⟩) (fun w224 => k .ret ⟨80, [(8, .arr 1010)], [(1010, .arr 3 1 w224)]⟩) := by
  rw [ref19_At_c33_eq]
  unfold ref19_At_p34
  exact (ref19_At_p2_eq n a0 a1 a2 a3 (seqK (ref19_At_C n) n ref19_At_c32 k)).trans (ref19_At_p2_congr n a0 a1 a2 a3 (rfl) (fun w3 => ref19_At_p33_eq n a0 a1 a2 a3 w3 k))
theorem ref19_At_p35_eq {R : Type} (n : Nat) (a0 : Int) (a1 : List (List D)) (a2 : Int) (a3 : Int) (k : Exit → St → Option R) : vexec (ref19_At_C n) n ref19_At_c0 ⟨80, [(0, .d (D.int .i64 a0)), (1, .d (D.sl 5 a1)), (2, .d (D.int .i64 a2)), (3, .d (D.int .i64 a3))], []⟩ k = ref19_At_p35 n a0 a1 a2 a3 (k .ret ⟨80, [(8, .nil)], []⟩) (fun w225 => k .ret ⟨80, [(8, .arr 1010)], [(1010, .arr 3 1 w225)]⟩) := by
  rw [ref19_At_c0_eq]
  unfold ref19_At_p35
  exact (ref19_At_p1_eq n a0 a1 a2 a3 (seqK (ref19_At_C n) n ref19_At_c33 k)).trans (ref19_At_p1_congr n a0 a1 a2 a3 (ref19_At_p34_eq n a0 a1 a2 a3 k))
theorem ref19_At_vfn {R : Type} (n : Nat) (a0 : Int) (a1 : List (List D)) (a2 : Int) (a3 : Int) (K : AV → Option R) : vfn (ref19_At_C n) n Try.f29 [.d (D.int .i64 a0), .d (D.sl 5 a1), .d (D.int .i64 a2), .d (D.int .i64 a3)] [] (retF [[1]] K) = ref19_At n a0 a1 a2 a3 (fun r0 => K (.d (D.sl 1 r0))) :=
  (show vfn (ref19_At_C n) n Try.f29 [.d (D.int .i64 a0), .d (D.sl 5 a1), .d (D.int .i64 a2), .d (D.int .i64 a3)] [] (retF [[1]] K) = vexec (ref19_At_C n) n ref19_At_c0 ⟨80, [(0, .d (D.int .i64 a0)), (1, .d (D.sl 5 a1)), (2, .d (D.int .i64 a2)), (3, .d (D.int .i64 a3))], []⟩ (retX ref19_At_tt [.tmp 8] (retF [[1]] K)) from vfn_at (by kernel_rfl) (by kernel_rfl) rfl (by kernel_rfl) rfl (by kernel_rfl) rfl).trans ((ref19_At_p35_eq n a0 a1 a2 a3 (retX ref19_At_tt [.tmp 8] (retF [[1]] K))).trans (by kernel_rfl))
def ref19_At_K : AV → Option (List (List D)) := fun av => match av with
  | .d (D.sl 1 r0) => some r0
  | _ => none
def ref19_At_e (n : Nat) : Entry := fun _ _ g avs _ k => match avs with
  | [c0, c1, c2, c3] => prI g .i64 c0 fun a0 => prS g 5 c1 fun a1 => prI g .i64 c2 fun a2 => prI g .i64 c3 fun a3 => 
    gb g (ref19_At n a0 a1 a2 a3 some) [] fun r => k ⟨.d (D.sl 1 r), [], []⟩
  | _ => none
theorem ref19_At_ok (n : Nat) : EntryOK Try.prog 29 (ref19_At_e n) := by
  intro R site g avs hl k r h
  unfold ref19_At_e at h
  split at h
  rotate_left
  · cases h
  replace h := prI_some h
  obtain ⟨a0, h, le0⟩ := h
  replace h := prS_some h
  obtain ⟨a1, h, le1⟩ := h
  replace h := prI_some h
  obtain ⟨a2, h, le2⟩ := h
  replace h := prI_some h
  obtain ⟨a3, h, le3⟩ := h
  replace h := gb_some h
  obtain ⟨res, h, hr⟩ := h
  refine ⟨_, h, fun hg => CallOK.conv (avs' := [.d (D.int .i64 a0), .d (D.sl 5 a1), .d (D.int .i64 a2), .d (D.int .i64 a3)]) (.cons (le0 hg) (.cons (le1 hg) (.cons (le2 hg) (.cons (le3 hg) (.nil))))) (callOK_fix (K := ref19_At_K) (res := res) (ref19_At_VC n) (fn := Try.f29) (n := n) (by kernel_rfl) (by kernel_rfl) (by kernel_rfl) (ss := [[1]]) rfl ?_ ?_)⟩
  · exact (ref19_At_vfn n a0 a1 a2 a3 ref19_At_K).trans (hr hg)
  · intro x hx
    unfold ref19_At_K at hx
    split at hx
    · injection hx with hx; subst hx; rfl
    · cases hx
end Go.Vx
/-
  law19_queries: the interpreter computes the pure function
-/
set_option linter.unusedVariables false
set_option linter.unusedSimpArgs false
set_option maxRecDepth 100000
namespace Go.Vx
open Go.Proofs
noncomputable def law19_queries_c0 : Code := bodyOf Try.f15
def law19_queries_tt : TT := [(4, ⟨.bool, 1, 1, [.bool false], [.bool false], [], none⟩)]
theorem law19_queries_tt_eq : mkTT Try.prog [4] = law19_queries_tt := by kernel_rfl
def law19_queries_cfg : List (Nat × Cfg) := [(0, ⟨[0, 1, 2, 3], [], [], [], []⟩), (1, ⟨[8], [], [], [], []⟩)]
def law19_queries_C (n : Nat) : VC := ⟨specOf [(19, occupancy_Valid_e n), (26, ref19_Valid_e n), (12, occupancy_Conflicts_e n), (27, ref19_Conflicts_e n), (13, keep_Same_2_int_e n), (11, occupancy_Free_e n), (28, ref19_Free_e n), (9, occupancy_At_e n), (29, ref19_At_e n), (14, keep_Same_int_e n)], law19_queries_tt, law19_queries_cfg⟩
theorem law19_queries_ents (n : Nat) : EntsOK Try.prog [(19, occupancy_Valid_e n), (26, ref19_Valid_e n), (12, occupancy_Conflicts_e n), (27, ref19_Conflicts_e n), (13, keep_Same_2_int_e n), (11, occupancy_Free_e n), (28, ref19_Free_e n), (9, occupancy_At_e n), (29, ref19_At_e n), (14, keep_Same_int_e n)] := ⟨occupancy_Valid_ok n, ⟨ref19_Valid_ok n, ⟨occupancy_Conflicts_ok n, ⟨ref19_Conflicts_ok n, ⟨keep_Same_2_int_ok n, ⟨occupancy_Free_ok n, ⟨ref19_Free_ok n, ⟨occupancy_At_ok n, ⟨ref19_At_ok n, ⟨keep_Same_int_ok n, trivial⟩⟩⟩⟩⟩⟩⟩⟩⟩⟩
theorem law19_queries_VC (n : Nat) : VCOk Try.prog (law19_queries_C n) := ⟨specOf_ok (law19_queries_ents n), (law19_queries_tt_eq ▸ mkTT_ok _ : TOk Try.prog law19_queries_tt), by kernel_rfl⟩
theorem law19_queries_p1_congr {R : Type} (n : Nat) (a0 : Int) (a1 : List (List D)) (a2 : Int) (a3 : Int) {k0 kk0 : Bool → Option R} (hq0 : ∀ x0, k0 x0 = kk0 x0) : law19_queries_p1 n a0 a1 a2 a3 k0 = law19_queries_p1 n a0 a1 a2 a3 kk0 := by
  obtain rfl : k0 = kk0 := funext fun x0 => hq0 x0
  rfl
theorem law19_queries_p1_eq {R : Type} (n : Nat) (a0 : Int) (a1 : List (List D)) (a2 : Int) (a3 : Int) (k : Exit → St → Option R) : vexec (law19_queries_C n) n law19_queries_c0 ⟨47, [(0, .d (D.int .i64 a0)), (1, .d (D.sl 5 a1)), (2, .d (D.int .i64 a2)), (3, .d (D.int .i64 a3))], []⟩ k = law19_queries_p1 n a0 a1 a2 a3 (fun z11 => k .ret ⟨47, [(8, .d (D.bool z11))], []⟩) := by kernel_rfl
theorem law19_queries_vfn {R : Type} (n : Nat) (a0 : Int) (a1 : List (List D)) (a2 : Int) (a3 : Int) (K : AV → Option R) : vfn (law19_queries_C n) n Try.f15 [.d (D.int .i64 a0), .d (D.sl 5 a1), .d (D.int .i64 a2), .d (D.int .i64 a3)] [] (retF [[0]] K) = law19_queries n a0 a1 a2 a3 (fun r0 => K (.d (D.bool r0))) :=
  (show vfn (law19_queries_C n) n Try.f15 [.d (D.int .i64 a0), .d (D.sl 5 a1), .d (D.int .i64 a2), .d (D.int .i64 a3)] [] (retF [[0]] K) = vexec (law19_queries_C n) n law19_queries_c0 ⟨47, [(0, .d (D.int .i64 a0)), (1, .d (D.sl 5 a1)), (2, .d (D.int .i64 a2)), (3, .d (D.int .i64 a3))], []⟩ (retX law19_queries_tt [.tmp 8] (retF [[0]] K)) from vfn_at (by kernel_rfl) (by kernel_rfl) rfl (by kernel_rfl) rfl (by kernel_rfl) rfl).trans ((law19_queries_p1_eq n a0 a1 a2 a3 (retX law19_queries_tt [.tmp 8] (retF [[0]] K))).trans (by kernel_rfl))
def law19_queries_K : AV → Option (Bool) := fun av => match av with
  | .d (D.bool r0) => some r0
  | _ => none
def law19_queries_e (n : Nat) : Entry := fun _ _ g avs _ k => match avs with
  | [c0, c1, c2, c3] => prI g .i64 c0 fun a0 => prS g 5 c1 fun a1 => prI g .i64 c2 fun a2 => prI g .i64 c3 fun a3 => 
    gb g (law19_queries n a0 a1 a2 a3 some) false fun r => k ⟨.d (D.bool r), [], []⟩
  | _ => none
theorem law19_queries_ok (n : Nat) : EntryOK Try.prog 15 (law19_queries_e n) := by
  intro R site g avs hl k r h
  unfold law19_queries_e at h
  split at h
  rotate_left
  · cases h
  replace h := prI_some h
  obtain ⟨a0, h, le0⟩ := h
  replace h := prS_some h
  obtain ⟨a1, h, le1⟩ := h
  replace h := prI_some h
  obtain ⟨a2, h, le2⟩ := h
  replace h := prI_some h
  obtain ⟨a3, h, le3⟩ := h
  replace h := gb_some h
  obtain ⟨res, h, hr⟩ := h
  refine ⟨_, h, fun hg => CallOK.conv (avs' := [.d (D.int .i64 a0), .d (D.sl 5 a1), .d (D.int .i64 a2), .d (D.int .i64 a3)]) (.cons (le0 hg) (.cons (le1 hg) (.cons (le2 hg) (.cons (le3 hg) (.nil))))) (callOK_fix (K := law19_queries_K) (res := res) (law19_queries_VC n) (fn := Try.f15) (n := n) (by kernel_rfl) (by kernel_rfl) (by kernel_rfl) (ss := [[0]]) rfl ?_ ?_)⟩
  · exact (law19_queries_vfn n a0 a1 a2 a3 law19_queries_K).trans (hr hg)
  · intro x hx
    unfold law19_queries_K at hx
    split at hx
    · injection hx with hx; subst hx; rfl
    · cases hx
end Go.Vx
/-
  law19_OccupancyQueries: the interpreter computes the pure function
-/
set_option linter.unusedVariables false
set_option linter.unusedSimpArgs false
set_option maxRecDepth 100000
namespace Go.Vx
open Go.Proofs
noncomputable def law19_OccupancyQueries_c0 : Code := bodyOf Try.f5
def law19_OccupancyQueries_tt : TT := [(3, ⟨.int .i64, 1, 8, [.int .i64 0], [.int .i64 0], [], none⟩), (24, ⟨.sl 31 5, 1, 24, [.slice none 0 0], [.sl 5 []], [], none⟩), (31, ⟨.struct, 5, 40, [.int .i64 0, .int .i64 0, .int .i64 0, .int .i64 0, .int .i64 0], [.int .i64 0, .int .i64 0, .int .i64 0, .int .i64 0, .int .i64 0], [(0, 3), (1, 3), (2, 3), (3, 3), (4, 3)], some [.int .i64, .int .i64, .int .i64, .int .i64, .int .i64]⟩)]
theorem law19_OccupancyQueries_tt_eq : mkTT Try.prog [3, 24, 31] = law19_OccupancyQueries_tt := by kernel_rfl
def law19_OccupancyQueries_cfg : List (Nat × Cfg) := [(0, ⟨[0, 1, 2, 3, 4], [], [], [], []⟩), (1, ⟨[1, 2, 3, 4, 11], [], [], [], []⟩), (2, ⟨[10], [], [], [], []⟩), (1000000002, ⟨[], [], [], [], []⟩)]
def law19_OccupancyQueries_C (n : Nat) : VC := ⟨specOf [(7, keep_Pick_e n), (10, law19_awake_e n), (8, altE [19] (law19_some_e n) (law19_some_o n)), (15, law19_queries_e n)], law19_OccupancyQueries_tt, law19_OccupancyQueries_cfg⟩
theorem law19_OccupancyQueries_ents (n : Nat) : EntsOK Try.prog [(7, keep_Pick_e n), (10, law19_awake_e n), (8, altE [19] (law19_some_e n) (law19_some_o n)), (15, law19_queries_e n)] := ⟨keep_Pick_ok n, ⟨law19_awake_ok n, ⟨altE_ok _ (law19_some_ok n) (law19_some_oo n), ⟨law19_queries_ok n, trivial⟩⟩⟩⟩
theorem law19_OccupancyQueries_VC (n : Nat) : VCOk Try.prog (law19_OccupancyQueries_C n) := ⟨specOf_ok (law19_OccupancyQueries_ents n), (law19_OccupancyQueries_tt_eq ▸ mkTT_ok _ : TOk Try.prog law19_OccupancyQueries_tt), by kernel_rfl⟩
theorem law19_OccupancyQueries_p1_congr {R : Type} (n : Nat) (a0 : Int) (a1 : List (List D)) (a2 : Int) (a3 : Int) (a4 : List (List D)) {k0 kk0 : Bool → Option R} (hq0 : ∀ x0, k0 x0 = kk0 x0) : law19_OccupancyQueries_p1 n a0 a1 a2 a3 a4 k0 = law19_OccupancyQueries_p1 n a0 a1 a2 a3 a4 kk0 := by
  obtain rfl : k0 = kk0 := funext fun x0 => hq0 x0
  rfl
theorem law19_OccupancyQueries_p1_eq {R : Type} (n : Nat) (a0 : Int) (a1 : List (List D)) (a2 : Int) (a3 : Int) (a4 : List (List D)) (k : Exit → St → Option R) : vexec (law19_OccupancyQueries_C n) n law19_OccupancyQueries_c0 ⟨36, [(0, .d (D.int .i64 a0)), (1, .d (D.sl 1 a1)), (2, .d (D.int .i64 a2)), (3, .d (D.int .i64 a3)), (4, .d (D.sl 5 a4))], []⟩ k = law19_OccupancyQueries_p1 n a0 a1 a2 a3 a4 (fun z14 => k .ret ⟨36, [(10, .d (D.bool z14))], []⟩) := by kernel_rfl
theorem law19_OccupancyQueries_vfn {R : Type} (n : Nat) (a0 : Int) (a1 : List (List D)) (a2 : Int) (a3 : Int) (a4 : List (List D)) (K : AV → Option R) : vfn (law19_OccupancyQueries_C n) n Try.f5 [.d (D.int .i64 a0), .d (D.sl 1 a1), .d (D.int .i64 a2), .d (D.int .i64 a3), .d (D.sl 5 a4)] [] (retF [[0]] K) = law19_OccupancyQueries n a0 a1 a2 a3 a4 (fun r0 => K (.d (D.bool r0))) :=
  (show vfn (law19_OccupancyQueries_C n) n Try.f5 [.d (D.int .i64 a0), .d (D.sl 1 a1), .d (D.int .i64 a2), .d (D.int .i64 a3), .d (D.sl 5 a4)] [] (retF [[0]] K) = vexec (law19_OccupancyQueries_C n) n law19_OccupancyQueries_c0 ⟨36, [(0, .d (D.int .i64 a0)), (1, .d (D.sl 1 a1)), (2, .d (D.int .i64 a2)), (3, .d (D.int .i64 a3)), (4, .d (D.sl 5 a4))], []⟩ (retX law19_OccupancyQueries_tt [.tmp 10] (retF [[0]] K)) from vfn_at (by kernel_rfl) (by kernel_rfl) rfl (by kernel_rfl) rfl (by kernel_rfl) rfl).trans ((law19_OccupancyQueries_p1_eq n a0 a1 a2 a3 a4 (retX law19_OccupancyQueries_tt [.tmp 10] (retF [[0]] K))).trans (by kernel_rfl))
def law19_OccupancyQueries_K : AV → Option (Bool) := fun av => match av with
  | .d (D.bool r0) => some r0
  | _ => none
def law19_OccupancyQueries_e (n : Nat) : Entry := fun _ _ g avs _ k => match avs with
  | [c0, c1, c2, c3, c4] => prI g .i64 c0 fun a0 => prS g 1 c1 fun a1 => prI g .i64 c2 fun a2 => prI g .i64 c3 fun a3 => prS g 5 c4 fun a4 => 
    gb g (law19_OccupancyQueries n a0 a1 a2 a3 a4 some) false fun r => k ⟨.d (D.bool r), [], []⟩
  | _ => none
theorem law19_OccupancyQueries_ok (n : Nat) : EntryOK Try.prog 5 (law19_OccupancyQueries_e n) := by
  intro R site g avs hl k r h
  unfold law19_OccupancyQueries_e at h
  split at h
  rotate_left
  · cases h
  replace h := prI_some h
  obtain ⟨a0, h, le0⟩ := h
  replace h := prS_some h
  obtain ⟨a1, h, le1⟩ := h
  replace h := prI_some h
  obtain ⟨a2, h, le2⟩ := h
  replace h := prI_some h
  obtain ⟨a3, h, le3⟩ := h
  replace h := prS_some h
  obtain ⟨a4, h, le4⟩ := h
  replace h := gb_some h
  obtain ⟨res, h, hr⟩ := h
  refine ⟨_, h, fun hg => CallOK.conv (avs' := [.d (D.int .i64 a0), .d (D.sl 1 a1), .d (D.int .i64 a2), .d (D.int .i64 a3), .d (D.sl 5 a4)]) (.cons (le0 hg) (.cons (le1 hg) (.cons (le2 hg) (.cons (le3 hg) (.cons (le4 hg) (.nil)))))) (callOK_fix (K := law19_OccupancyQueries_K) (res := res) (law19_OccupancyQueries_VC n) (fn := Try.f5) (n := n) (by kernel_rfl) (by kernel_rfl) (by kernel_rfl) (ss := [[0]]) rfl ?_ ?_)⟩
  · exact (law19_OccupancyQueries_vfn n a0 a1 a2 a3 a4 law19_OccupancyQueries_K).trans (hr hg)
  · intro x hx
    unfold law19_OccupancyQueries_K at hx
    split at hx
    · injection hx with hx; subst hx; rfl
    · cases hx
end Go.Vx
