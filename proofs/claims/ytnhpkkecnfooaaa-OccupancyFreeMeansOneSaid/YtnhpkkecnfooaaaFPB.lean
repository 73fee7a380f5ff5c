/- Part of a proof: texts Vpoccupancy visit s1 Vpoccupancy Free Vpkeep Same int Vplaw19 awake Vplaw19 OccupancyFreeMeansOne. No conditions of their own. -/
import Derived.Test.YtnhpkkecnfooaaaProg
import Derived.Test.YtnhpkkecnfooaaaFVC
import Derived.Test.YtnhpkkecnfooaaaFFA
import Derived.Test.YtnhpkkecnfooaaaFPA
/-
  occupancy_visit_s1: the interpreter computes the pure function
-/
set_option linter.unusedVariables false
set_option linter.unusedSimpArgs false
set_option maxRecDepth 100000
namespace Go.Vx
open Go.Proofs
noncomputable def occupancy_visit_s1_c0 : Code := cR (cR (cR (bodyOf Try.f23)))
noncomputable def occupancy_visit_s1_c1 : Code := cL (cR (cR (cR (bodyOf Try.f23))))
noncomputable def occupancy_visit_s1_c2 : Code := cL (cB (cB (cR (cR (cR (cR (bodyOf Try.f23)))))))
noncomputable def occupancy_visit_s1_c3 : Code := cL (cR (cB (cB (cR (cR (cR (cR (bodyOf Try.f23))))))))
noncomputable def occupancy_visit_s1_c4 : Code := cL (cB (cL (cR (cR (cB (cB (cR (cR (cR (cR (bodyOf Try.f23)))))))))))
noncomputable def occupancy_visit_s1_c5 : Code := cL (cR (cB (cL (cR (cR (cB (cB (cR (cR (cR (cR (bodyOf Try.f23))))))))))))
noncomputable def occupancy_visit_s1_c6 : Code := cB (cB (cR (cR (cB (cL (cR (cR (cB (cB (cR (cR (cR (cR (bodyOf Try.f23))))))))))))))
noncomputable def occupancy_visit_s1_c7 : Code := cB (cR (cR (cB (cL (cR (cR (cB (cB (cR (cR (cR (cR (bodyOf Try.f23)))))))))))))
noncomputable def occupancy_visit_s1_c8 : Code := cR (cR (cB (cL (cR (cR (cB (cB (cR (cR (cR (cR (bodyOf Try.f23))))))))))))
noncomputable def occupancy_visit_s1_c9 : Code := cR (cB (cL (cR (cR (cB (cB (cR (cR (cR (cR (bodyOf Try.f23)))))))))))
noncomputable def occupancy_visit_s1_c10 : Code := cB (cL (cR (cR (cB (cB (cR (cR (cR (cR (bodyOf Try.f23))))))))))
noncomputable def occupancy_visit_s1_c11 : Code := cL (cR (cR (cB (cB (cR (cR (cR (cR (bodyOf Try.f23)))))))))
noncomputable def occupancy_visit_s1_c12 : Code := cR (cR (cR (cB (cB (cR (cR (cR (cR (bodyOf Try.f23)))))))))
noncomputable def occupancy_visit_s1_c13 : Code := cR (cR (cB (cB (cR (cR (cR (cR (bodyOf Try.f23))))))))
noncomputable def occupancy_visit_s1_c14 : Code := cR (cB (cB (cR (cR (cR (cR (bodyOf Try.f23)))))))
noncomputable def occupancy_visit_s1_c15 : Code := cB (cB (cR (cR (cR (cR (bodyOf Try.f23))))))
noncomputable def occupancy_visit_s1_c16 : Code := cB (cR (cR (cR (cR (bodyOf Try.f23)))))
noncomputable def occupancy_visit_s1_c17 : Code := cR (cR (cR (cR (bodyOf Try.f23))))
theorem occupancy_visit_s1_c7_eq : occupancy_visit_s1_c7 = .loop occupancy_visit_s1_c6 := by kernel_rfl
theorem occupancy_visit_s1_c8_eq : occupancy_visit_s1_c8 = .block 4 occupancy_visit_s1_c7 := by kernel_rfl
theorem occupancy_visit_s1_c9_eq : occupancy_visit_s1_c9 = .seq occupancy_visit_s1_c5 occupancy_visit_s1_c8 := by kernel_rfl
theorem occupancy_visit_s1_c10_eq : occupancy_visit_s1_c10 = .seq occupancy_visit_s1_c4 occupancy_visit_s1_c9 := by kernel_rfl
theorem occupancy_visit_s1_c11_eq : occupancy_visit_s1_c11 = .block 3 occupancy_visit_s1_c10 := by kernel_rfl
theorem occupancy_visit_s1_c13_eq : occupancy_visit_s1_c13 = .seq occupancy_visit_s1_c11 occupancy_visit_s1_c12 := by kernel_rfl
theorem occupancy_visit_s1_c14_eq : occupancy_visit_s1_c14 = .seq occupancy_visit_s1_c3 occupancy_visit_s1_c13 := by kernel_rfl
theorem occupancy_visit_s1_c15_eq : occupancy_visit_s1_c15 = .seq occupancy_visit_s1_c2 occupancy_visit_s1_c14 := by kernel_rfl
theorem occupancy_visit_s1_c16_eq : occupancy_visit_s1_c16 = .loop occupancy_visit_s1_c15 := by kernel_rfl
theorem occupancy_visit_s1_c17_eq : occupancy_visit_s1_c17 = .block 2 occupancy_visit_s1_c16 := by kernel_rfl
theorem occupancy_visit_s1_c0_eq : occupancy_visit_s1_c0 = .seq occupancy_visit_s1_c1 occupancy_visit_s1_c17 := by kernel_rfl
def occupancy_visit_s1_tt : TT := [(3, ⟨.int .i64, 1, 8, [.int .i64 0], [.int .i64 0], [], none⟩), (22, ⟨.sl 3 1, 1, 24, [.slice none 0 0], [.sl 1 []], [], none⟩), (24, ⟨.sl 31 5, 1, 24, [.slice none 0 0], [.sl 5 []], [], none⟩), (31, ⟨.struct, 5, 40, [.int .i64 0, .int .i64 0, .int .i64 0, .int .i64 0, .int .i64 0], [.int .i64 0, .int .i64 0, .int .i64 0, .int .i64 0, .int .i64 0], [(0, 3), (1, 3), (2, 3), (3, 3), (4, 3)], some [.int .i64, .int .i64, .int .i64, .int .i64, .int .i64]⟩), (52, ⟨.mapI, 1, 8, [.map none], [], [], none⟩)]
theorem occupancy_visit_s1_tt_eq : mkTT Try.prog [3, 22, 24, 31, 52] = occupancy_visit_s1_tt := by kernel_rfl
def occupancy_visit_s1_cfg : List (Nat × Cfg) := [(0, ⟨[0, 1, 2, 6], [], [], [], []⟩), (1, ⟨[0, 1, 2, 6, 7], [], [], [], []⟩), (2, ⟨[0, 1, 2, 6, 7, 18, 19, 20], [], [], [], []⟩), (3, ⟨[0, 1, 2, 6, 7, 18, 19, 20, 21], [], [], [], []⟩), (4, ⟨[0, 1, 2, 6, 7, 8, 9, 18, 19, 20], [], [], [], []⟩), (5, ⟨[0, 1, 2, 6, 7, 8, 9, 18, 19, 20], [], [], [], []⟩), (6, ⟨[0, 1, 2, 6, 7, 18, 19, 20], [], [], [], []⟩), (7, ⟨[0, 1, 2, 6, 7, 18, 19, 20], [], [], [], []⟩), (8, ⟨[0, 1, 2, 6, 7, 44, 45, 46], [(1000000, 1000000)], [], [], []⟩), (9, ⟨[0, 1, 2, 6, 7, 44, 45, 46, 47], [(1000000, 1000000)], [], [], []⟩), (10, ⟨[0, 1, 2, 6, 7, 10, 11, 44, 45, 46], [(11, 11), (1000000, 1000000)], [], [], []⟩), (11, ⟨[0, 1, 2, 6, 7, 10, 11, 44, 45, 46, 59, 60, 61], [(11, 11), (1000000, 1000000)], [], [], []⟩), (12, ⟨[0, 1, 2, 6, 7, 10, 11, 44, 45, 46, 59, 60, 61, 62], [(11, 11), (1000000, 1000000)], [], [], []⟩), (13, ⟨[0, 1, 2, 6, 7, 10, 11, 13, 44, 45, 46, 59, 60, 61], [(11, 11), (1000000, 1000000)], [], [], []⟩), (14, ⟨[0, 1, 2, 6, 7, 10, 11, 44, 45, 46, 59, 60, 61, 78], [(11, 11), (1000000, 1000000)], [], [], []⟩), (15, ⟨[0, 1, 2, 6, 7, 10, 11, 44, 45, 46, 59, 60, 61], [(11, 11), (1000000, 1000000)], [], [], []⟩), (16, ⟨[0, 1, 2, 6, 7, 44, 45, 46], [(1000000, 1000000)], [], [], []⟩), (1000000014, ⟨[], [], [], [], []⟩)]
def occupancy_visit_s1_C (n : Nat) : VC := ⟨specOf [(32, occupancy_conflict_e n), (24, railplan_occupancy_Free_1_s1_s n)], occupancy_visit_s1_tt, occupancy_visit_s1_cfg⟩
theorem occupancy_visit_s1_ents (n : Nat) : EntsOK Try.prog [(32, occupancy_conflict_e n), (24, railplan_occupancy_Free_1_s1_s n)] := ⟨occupancy_conflict_ok n, ⟨railplan_occupancy_Free_1_s1_so n, trivial⟩⟩
theorem occupancy_visit_s1_VC (n : Nat) : VCOk Try.prog (occupancy_visit_s1_C n) := ⟨specOf_ok (occupancy_visit_s1_ents n), (occupancy_visit_s1_tt_eq ▸ mkTT_ok _ : TOk Try.prog occupancy_visit_s1_tt), by kernel_rfl⟩
theorem occupancy_visit_s1_p1_congr {R : Type} (n : Nat) (a0 : Int) (a1 : List (List D)) (G : Int → List (List D)) (p : List (List D)) (b0_0 : Bool) {k0 kk0 : Int → Option R} (hq0 : ∀ x0, k0 x0 = kk0 x0) : occupancy_visit_s1_p1 n a0 a1 G p b0_0 k0 = occupancy_visit_s1_p1 n a0 a1 G p b0_0 kk0 := by
  obtain rfl : k0 = kk0 := funext fun x0 => hq0 x0
  rfl
theorem occupancy_visit_s1_p2_congr {R : Type} (n : Nat) (a0 : Int) (a1 : List (List D)) (G : Int → List (List D)) (p : List (List D)) (w2 : Int) (h9 : Int) (h10 : Bool) {k0 kk0 : Bool → Option R} (hq0 : ∀ x0, k0 x0 = kk0 x0) : occupancy_visit_s1_p2 n a0 a1 G p w2 h9 h10 k0 = occupancy_visit_s1_p2 n a0 a1 G p w2 h9 h10 kk0 := by
  obtain rfl : k0 = kk0 := funext fun x0 => hq0 x0
  rfl
theorem occupancy_visit_s1_p3_congr {R : Type} (n : Nat) (a0 : Int) (a1 : List (List D)) (G : Int → List (List D)) (p : List (List D)) (w2 : Int) (h9 : Int) (w196 : Bool) (h10 : Bool) {k0 kk0 : Option R} {k1 kk1 : Option R} (hq0 : k0 = kk0) (hq1 : k1 = kk1) : occupancy_visit_s1_p3 n a0 a1 G p w2 h9 w196 h10 k0 k1 = occupancy_visit_s1_p3 n a0 a1 G p w2 h9 w196 h10 kk0 kk1 := by
  obtain rfl : k0 = kk0 := hq0
  obtain rfl : k1 = kk1 := hq1
  rfl
theorem occupancy_visit_s1_p4_congr {R : Type} (n : Nat) (a0 : Int) (a1 : List (List D)) (G : Int → List (List D)) (p : List (List D)) (w2 : Int) (h9 : Int) (w196 : Bool) (h10 : Bool) {k0 kk0 : D → D → D → D → D → Option R} (hq0 : ∀ x0 x1 x2 x3 x4, k0 x0 x1 x2 x3 x4 = kk0 x0 x1 x2 x3 x4) : occupancy_visit_s1_p4 n a0 a1 G p w2 h9 w196 h10 k0 = occupancy_visit_s1_p4 n a0 a1 G p w2 h9 w196 h10 kk0 := by
  obtain rfl : k0 = kk0 := funext fun x0 => funext fun x1 => funext fun x2 => funext fun x3 => funext fun x4 => hq0 x0 x1 x2 x3 x4
  rfl
theorem occupancy_visit_s1_p5_congr {R : Type} (n : Nat) (a0 : Int) (a1 : List (List D)) (G : Int → List (List D)) (p : List (List D)) (h9 : Int) (w2 : Int) (w203 : D) (w204 : D) (w205 : D) (w206 : D) (w207 : D) (h10 : Bool) {k0 kk0 : (List (List D)) → Int → Option R} (hq0 : ∀ x0 x1, k0 x0 x1 = kk0 x0 x1) : occupancy_visit_s1_p5 n a0 a1 G p h9 w2 w203 w204 w205 w206 w207 h10 k0 = occupancy_visit_s1_p5 n a0 a1 G p h9 w2 w203 w204 w205 w206 w207 h10 kk0 := by
  obtain rfl : k0 = kk0 := funext fun x0 => funext fun x1 => hq0 x0 x1
  rfl
theorem occupancy_visit_s1_p6_congr {R : Type} (n : Nat) (a0 : Int) (a1 : List (List D)) (G : Int → List (List D)) (p : List (List D)) (h9 : Int) (w2 : Int) (w215 : List (List D)) (w216 : Int) (h227 : Int) (w203 : D) (w204 : D) (w205 : D) (w206 : D) (w207 : D) (h233 : Bool) {k0 kk0 : Bool → Bool → Option R} {k1 kk1 : Int → Bool → Option R} {k2 kk2 : Bool → Option R} (hq0 : ∀ x0 x1, k0 x0 x1 = kk0 x0 x1) (hq1 : ∀ x0 x1, k1 x0 x1 = kk1 x0 x1) (hq2 : ∀ x0, k2 x0 = kk2 x0) : occupancy_visit_s1_p6 n a0 a1 G p h9 w2 w215 w216 h227 w203 w204 w205 w206 w207 h233 k0 k1 k2 = occupancy_visit_s1_p6 n a0 a1 G p h9 w2 w215 w216 h227 w203 w204 w205 w206 w207 h233 kk0 kk1 kk2 := by
  obtain rfl : k0 = kk0 := funext fun x0 => funext fun x1 => hq0 x0 x1
  obtain rfl : k1 = kk1 := funext fun x0 => funext fun x1 => hq1 x0 x1
  obtain rfl : k2 = kk2 := funext fun x0 => hq2 x0
  rfl
theorem occupancy_visit_s1_p7_congr {R : Type} (n : Nat) (a0 : Int) (a1 : List (List D)) (G : Int → List (List D)) (p : List (List D)) (h9 : Int) (w2 : Int) (w215 : List (List D)) (w216 : Int) (w203 : D) (w204 : D) (w205 : D) (w206 : D) (w207 : D) (h10 : Bool) {k0 kk0 : Int → Bool → Bool → Option R} {k1 kk1 : Int → Bool → Bool → Option R} (hq0 : ∀ x0 x1 x2, k0 x0 x1 x2 = kk0 x0 x1 x2) (hq1 : ∀ x0 x1 x2, k1 x0 x1 x2 = kk1 x0 x1 x2) : occupancy_visit_s1_p7 n a0 a1 G p h9 w2 w215 w216 w203 w204 w205 w206 w207 h10 k0 k1 = occupancy_visit_s1_p7 n a0 a1 G p h9 w2 w215 w216 w203 w204 w205 w206 w207 h10 kk0 kk1 := by
  obtain rfl : k0 = kk0 := funext fun x0 => funext fun x1 => funext fun x2 => hq0 x0 x1 x2
  obtain rfl : k1 = kk1 := funext fun x0 => funext fun x1 => funext fun x2 => hq1 x0 x1 x2
  rfl
theorem occupancy_visit_s1_p8_congr {R : Type} (n : Nat) (a0 : Int) (a1 : List (List D)) (G : Int → List (List D)) (p : List (List D)) (h9 : Int) (w2 : Int) (w215 : List (List D)) (w216 : Int) (w203 : D) (w204 : D) (w205 : D) (w206 : D) (w207 : D) (h10 : Bool) {k0 kk0 : Int → Bool → Bool → Option R} {k1 kk1 : Int → Bool → Bool → Option R} (hq0 : ∀ x0 x1 x2, k0 x0 x1 x2 = kk0 x0 x1 x2) (hq1 : ∀ x0 x1 x2, k1 x0 x1 x2 = kk1 x0 x1 x2) : occupancy_visit_s1_p8 n a0 a1 G p h9 w2 w215 w216 w203 w204 w205 w206 w207 h10 k0 k1 = occupancy_visit_s1_p8 n a0 a1 G p h9 w2 w215 w216 w203 w204 w205 w206 w207 h10 kk0 kk1 := by
  obtain rfl : k0 = kk0 := funext fun x0 => funext fun x1 => funext fun x2 => hq0 x0 x1 x2
  obtain rfl : k1 = kk1 := funext fun x0 => funext fun x1 => funext fun x2 => hq1 x0 x1 x2
  rfl
theorem occupancy_visit_s1_p9_congr {R : Type} (n : Nat) (a0 : Int) (a1 : List (List D)) (G : Int → List (List D)) (p : List (List D)) (h9 : Int) (w2 : Int) (w203 : D) (w204 : D) (w205 : D) (w206 : D) (w207 : D) (h10 : Bool) {k0 kk0 : (List (List D)) → Int → Int → Bool → Bool → Option R} {k1 kk1 : (List (List D)) → Int → Int → Bool → Bool → Option R} (hq0 : ∀ x0 x1 x2 x3 x4, k0 x0 x1 x2 x3 x4 = kk0 x0 x1 x2 x3 x4) (hq1 : ∀ x0 x1 x2 x3 x4, k1 x0 x1 x2 x3 x4 = kk1 x0 x1 x2 x3 x4) : occupancy_visit_s1_p9 n a0 a1 G p h9 w2 w203 w204 w205 w206 w207 h10 k0 k1 = occupancy_visit_s1_p9 n a0 a1 G p h9 w2 w203 w204 w205 w206 w207 h10 kk0 kk1 := by
  obtain rfl : k0 = kk0 := funext fun x0 => funext fun x1 => funext fun x2 => funext fun x3 => funext fun x4 => hq0 x0 x1 x2 x3 x4
  obtain rfl : k1 = kk1 := funext fun x0 => funext fun x1 => funext fun x2 => funext fun x3 => funext fun x4 => hq1 x0 x1 x2 x3 x4
  rfl
theorem occupancy_visit_s1_p10_congr {R : Type} (n : Nat) (a0 : Int) (a1 : List (List D)) (G : Int → List (List D)) (p : List (List D)) (w2 : Int) (h9 : Int) (w196 : Bool) (h10 : Bool) {k0 kk0 : (List (List D)) → Int → Int → Bool → D → D → D → D → D → Bool → Option R} {k1 kk1 : (List (List D)) → Int → Int → Bool → D → D → D → D → D → Bool → Option R} (hq0 : ∀ x0 x1 x2 x3 x4 x5 x6 x7 x8 x9, k0 x0 x1 x2 x3 x4 x5 x6 x7 x8 x9 = kk0 x0 x1 x2 x3 x4 x5 x6 x7 x8 x9) (hq1 : ∀ x0 x1 x2 x3 x4 x5 x6 x7 x8 x9, k1 x0 x1 x2 x3 x4 x5 x6 x7 x8 x9 = kk1 x0 x1 x2 x3 x4 x5 x6 x7 x8 x9) : occupancy_visit_s1_p10 n a0 a1 G p w2 h9 w196 h10 k0 k1 = occupancy_visit_s1_p10 n a0 a1 G p w2 h9 w196 h10 kk0 kk1 := by
  obtain rfl : k0 = kk0 := funext fun x0 => funext fun x1 => funext fun x2 => funext fun x3 => funext fun x4 => funext fun x5 => funext fun x6 => funext fun x7 => funext fun x8 => funext fun x9 => hq0 x0 x1 x2 x3 x4 x5 x6 x7 x8 x9
  obtain rfl : k1 = kk1 := funext fun x0 => funext fun x1 => funext fun x2 => funext fun x3 => funext fun x4 => funext fun x5 => funext fun x6 => funext fun x7 => funext fun x8 => funext fun x9 => hq1 x0 x1 x2 x3 x4 x5 x6 x7 x8 x9
  rfl
theorem occupancy_visit_s1_p11_congr {R : Type} (n : Nat) (a0 : Int) (a1 : List (List D)) (G : Int → List (List D)) (p : List (List D)) (w2 : Int) (h9 : Int) (w196 : Bool) (h10 : Bool) {k0 kk0 : (List (List D)) → Int → Int → Bool → D → D → D → D → D → Bool → Option R} {k1 kk1 : (List (List D)) → Int → Int → Bool → D → D → D → D → D → Bool → Option R} (hq0 : ∀ x0 x1 x2 x3 x4 x5 x6 x7 x8 x9, k0 x0 x1 x2 x3 x4 x5 x6 x7 x8 x9 = kk0 x0 x1 x2 x3 x4 x5 x6 x7 x8 x9) (hq1 : ∀ x0 x1 x2 x3 x4 x5 x6 x7 x8 x9, k1 x0 x1 x2 x3 x4 x5 x6 x7 x8 x9 = kk1 x0 x1 x2 x3 x4 x5 x6 x7 x8 x9) : occupancy_visit_s1_p11 n a0 a1 G p w2 h9 w196 h10 k0 k1 = occupancy_visit_s1_p11 n a0 a1 G p w2 h9 w196 h10 kk0 kk1 := by
  obtain rfl : k0 = kk0 := funext fun x0 => funext fun x1 => funext fun x2 => funext fun x3 => funext fun x4 => funext fun x5 => funext fun x6 => funext fun x7 => funext fun x8 => funext fun x9 => hq0 x0 x1 x2 x3 x4 x5 x6 x7 x8 x9
  obtain rfl : k1 = kk1 := funext fun x0 => funext fun x1 => funext fun x2 => funext fun x3 => funext fun x4 => funext fun x5 => funext fun x6 => funext fun x7 => funext fun x8 => funext fun x9 => hq1 x0 x1 x2 x3 x4 x5 x6 x7 x8 x9
  rfl
theorem occupancy_visit_s1_p12_congr {R : Type} (n : Nat) (a0 : Int) (a1 : List (List D)) (G : Int → List (List D)) (p : List (List D)) (h9 : Int) (w2 : Int) (w343 : List (List D)) (w344 : Int) (w345 : Int) (w346 : Bool) (w347 : D) (w348 : D) (w349 : D) (w350 : D) (w351 : D) (w352 : Bool) {k0 kk0 : Int → Option R} (hq0 : ∀ x0, k0 x0 = kk0 x0) : occupancy_visit_s1_p12 n a0 a1 G p h9 w2 w343 w344 w345 w346 w347 w348 w349 w350 w351 w352 k0 = occupancy_visit_s1_p12 n a0 a1 G p h9 w2 w343 w344 w345 w346 w347 w348 w349 w350 w351 w352 kk0 := by
  obtain rfl : k0 = kk0 := funext fun x0 => hq0 x0
  rfl
theorem occupancy_visit_s1_p13_congr {R : Type} (n : Nat) (a0 : Int) (a1 : List (List D)) (G : Int → List (List D)) (p : List (List D)) (w2 : Int) (h9 : Int) (w196 : Bool) (h10 : Bool) {k0 kk0 : (List (List D)) → Int → Int → Bool → D → D → D → D → D → Bool → Option R} {k1 kk1 : Int → Bool → Option R} (hq0 : ∀ x0 x1 x2 x3 x4 x5 x6 x7 x8 x9, k0 x0 x1 x2 x3 x4 x5 x6 x7 x8 x9 = kk0 x0 x1 x2 x3 x4 x5 x6 x7 x8 x9) (hq1 : ∀ x0 x1, k1 x0 x1 = kk1 x0 x1) : occupancy_visit_s1_p13 n a0 a1 G p w2 h9 w196 h10 k0 k1 = occupancy_visit_s1_p13 n a0 a1 G p w2 h9 w196 h10 kk0 kk1 := by
  obtain rfl : k0 = kk0 := funext fun x0 => funext fun x1 => funext fun x2 => funext fun x3 => funext fun x4 => funext fun x5 => funext fun x6 => funext fun x7 => funext fun x8 => funext fun x9 => hq0 x0 x1 x2 x3 x4 x5 x6 x7 x8 x9
  obtain rfl : k1 = kk1 := funext fun x0 => funext fun x1 => hq1 x0 x1
  rfl
theorem occupancy_visit_s1_p14_congr {R : Type} (n : Nat) (a0 : Int) (a1 : List (List D)) (G : Int → List (List D)) (p : List (List D)) (w2 : Int) (h9 : Int) (w196 : Bool) (h10 : Bool) {k0 kk0 : (List (List D)) → Int → Int → Bool → D → D → D → D → D → Bool → Option R} {k1 kk1 : Int → Bool → Option R} {k2 kk2 : Option R} (hq0 : ∀ x0 x1 x2 x3 x4 x5 x6 x7 x8 x9, k0 x0 x1 x2 x3 x4 x5 x6 x7 x8 x9 = kk0 x0 x1 x2 x3 x4 x5 x6 x7 x8 x9) (hq1 : ∀ x0 x1, k1 x0 x1 = kk1 x0 x1) (hq2 : k2 = kk2) : occupancy_visit_s1_p14 n a0 a1 G p w2 h9 w196 h10 k0 k1 k2 = occupancy_visit_s1_p14 n a0 a1 G p w2 h9 w196 h10 kk0 kk1 kk2 := by
  obtain rfl : k0 = kk0 := funext fun x0 => funext fun x1 => funext fun x2 => funext fun x3 => funext fun x4 => funext fun x5 => funext fun x6 => funext fun x7 => funext fun x8 => funext fun x9 => hq0 x0 x1 x2 x3 x4 x5 x6 x7 x8 x9
  obtain rfl : k1 = kk1 := funext fun x0 => funext fun x1 => hq1 x0 x1
  obtain rfl : k2 = kk2 := hq2
  rfl
theorem occupancy_visit_s1_p15_congr {R : Type} (n : Nat) (a0 : Int) (a1 : List (List D)) (G : Int → List (List D)) (p : List (List D)) (w2 : Int) (h9 : Int) (h10 : Bool) {k0 kk0 : (List (List D)) → Int → Int → Bool → D → D → D → D → D → Bool → Option R} {k1 kk1 : Int → Bool → Option R} {k2 kk2 : Bool → Option R} (hq0 : ∀ x0 x1 x2 x3 x4 x5 x6 x7 x8 x9, k0 x0 x1 x2 x3 x4 x5 x6 x7 x8 x9 = kk0 x0 x1 x2 x3 x4 x5 x6 x7 x8 x9) (hq1 : ∀ x0 x1, k1 x0 x1 = kk1 x0 x1) (hq2 : ∀ x0, k2 x0 = kk2 x0) : occupancy_visit_s1_p15 n a0 a1 G p w2 h9 h10 k0 k1 k2 = occupancy_visit_s1_p15 n a0 a1 G p w2 h9 h10 kk0 kk1 kk2 := by
  obtain rfl : k0 = kk0 := funext fun x0 => funext fun x1 => funext fun x2 => funext fun x3 => funext fun x4 => funext fun x5 => funext fun x6 => funext fun x7 => funext fun x8 => funext fun x9 => hq0 x0 x1 x2 x3 x4 x5 x6 x7 x8 x9
  obtain rfl : k1 = kk1 := funext fun x0 => funext fun x1 => hq1 x0 x1
  obtain rfl : k2 = kk2 := funext fun x0 => hq2 x0
  rfl
theorem occupancy_visit_s1_p16_congr {R : Type} (n : Nat) (a0 : Int) (a1 : List (List D)) (G : Int → List (List D)) (p : List (List D)) (w2 : Int) (b0_0 : Bool) {k0 kk0 : Int → (List (List D)) → Int → Int → Bool → D → D → D → D → D → Bool → Option R} {k1 kk1 : Int → Bool → Bool → Option R} (hq0 : ∀ x0 x1 x2 x3 x4 x5 x6 x7 x8 x9 x10, k0 x0 x1 x2 x3 x4 x5 x6 x7 x8 x9 x10 = kk0 x0 x1 x2 x3 x4 x5 x6 x7 x8 x9 x10) (hq1 : ∀ x0 x1 x2, k1 x0 x1 x2 = kk1 x0 x1 x2) : occupancy_visit_s1_p16 n a0 a1 G p w2 b0_0 k0 k1 = occupancy_visit_s1_p16 n a0 a1 G p w2 b0_0 kk0 kk1 := by
  obtain rfl : k0 = kk0 := funext fun x0 => funext fun x1 => funext fun x2 => funext fun x3 => funext fun x4 => funext fun x5 => funext fun x6 => funext fun x7 => funext fun x8 => funext fun x9 => funext fun x10 => hq0 x0 x1 x2 x3 x4 x5 x6 x7 x8 x9 x10
  obtain rfl : k1 = kk1 := funext fun x0 => funext fun x1 => funext fun x2 => hq1 x0 x1 x2
  rfl
theorem occupancy_visit_s1_p17_congr {R : Type} (n : Nat) (a0 : Int) (a1 : List (List D)) (G : Int → List (List D)) (p : List (List D)) (w2 : Int) (b0_0 : Bool) {k0 kk0 : Int → (List (List D)) → Int → Int → Bool → D → D → D → D → D → Bool → Option R} {k1 kk1 : Int → Bool → Bool → Option R} (hq0 : ∀ x0 x1 x2 x3 x4 x5 x6 x7 x8 x9 x10, k0 x0 x1 x2 x3 x4 x5 x6 x7 x8 x9 x10 = kk0 x0 x1 x2 x3 x4 x5 x6 x7 x8 x9 x10) (hq1 : ∀ x0 x1 x2, k1 x0 x1 x2 = kk1 x0 x1 x2) : occupancy_visit_s1_p17 n a0 a1 G p w2 b0_0 k0 k1 = occupancy_visit_s1_p17 n a0 a1 G p w2 b0_0 kk0 kk1 := by
  obtain rfl : k0 = kk0 := funext fun x0 => funext fun x1 => funext fun x2 => funext fun x3 => funext fun x4 => funext fun x5 => funext fun x6 => funext fun x7 => funext fun x8 => funext fun x9 => funext fun x10 => hq0 x0 x1 x2 x3 x4 x5 x6 x7 x8 x9 x10
  obtain rfl : k1 = kk1 := funext fun x0 => funext fun x1 => funext fun x2 => hq1 x0 x1 x2
  rfl
theorem occupancy_visit_s1_p18_congr {R : Type} (n : Nat) (a0 : Int) (a1 : List (List D)) (G : Int → List (List D)) (p : List (List D)) (b0_0 : Bool) {k0 kk0 : Int → Int → (List (List D)) → Int → Int → Bool → D → D → D → D → D → Bool → Option R} {k1 kk1 : Int → Int → Bool → Bool → Option R} (hq0 : ∀ x0 x1 x2 x3 x4 x5 x6 x7 x8 x9 x10 x11, k0 x0 x1 x2 x3 x4 x5 x6 x7 x8 x9 x10 x11 = kk0 x0 x1 x2 x3 x4 x5 x6 x7 x8 x9 x10 x11) (hq1 : ∀ x0 x1 x2 x3, k1 x0 x1 x2 x3 = kk1 x0 x1 x2 x3) : occupancy_visit_s1_p18 n a0 a1 G p b0_0 k0 k1 = occupancy_visit_s1_p18 n a0 a1 G p b0_0 kk0 kk1 := by
  obtain rfl : k0 = kk0 := funext fun x0 => funext fun x1 => funext fun x2 => funext fun x3 => funext fun x4 => funext fun x5 => funext fun x6 => funext fun x7 => funext fun x8 => funext fun x9 => funext fun x10 => funext fun x11 => hq0 x0 x1 x2 x3 x4 x5 x6 x7 x8 x9 x10 x11
  obtain rfl : k1 = kk1 := funext fun x0 => funext fun x1 => funext fun x2 => funext fun x3 => hq1 x0 x1 x2 x3
  rfl
theorem occupancy_visit_s1_p1_eq {R : Type} (n : Nat) (a0 : Int) (a1 : List (List D)) (G : Int → List (List D)) (p : List (List D)) (b0_0 : Bool) (k : Exit → St → Option R) : vexec (occupancy_visit_s1_C n) n occupancy_visit_s1_c1 ⟨81, [(0, .d (D.int .i64 a0)), (1, .d (D.sl 5 a1)), (2, .fn 24 [.ptr 1000000 0]), (6, .mpd G), (7, .d (D.sl 1 p))], [(1000000, .box [.d (D.bool b0_0)])]⟩ k = occupancy_visit_s1_p1 n a0 a1 G p b0_0 (fun z1 => k .normal ⟨81, [(0, .d (D.int .i64 a0)), (1, .d (D.sl 5 a1)), (2, .fn 24 [.ptr 1000000 0]), (6, .mpd G), (7, .d (D.sl 1 p)), (44, .d (D.sl 5 a1)), (45, .d (D.int .i64 z1)), (46, .d (D.int .i64 (0 : Int)))], [(1000000, .box [.d (D.bool b0_0)])]⟩) := by kernel_rfl
theorem occupancy_visit_s1_p2_eq {R : Type} (n : Nat) (a0 : Int) (a1 : List (List D)) (G : Int → List (List D)) (p : List (List D)) (w2 : Int) (h9 : Int) (h10 : Bool) (k : Exit → St → Option R) : vexec (occupancy_visit_s1_C n) n occupancy_visit_s1_c2 ⟨81, [(0, .d (D.int .i64 a0)), (1, .d (D.sl 5 a1)), (2, .fn 24 [.ptr 1000000 0]), (6, .mpd G), (7, .d (D.sl 1 p)), (44, .d (D.sl 5 a1)), (45, .d (D.int .i64 w2)), (46, .d (D.int .i64 h9))], [(1000000, .box [.d (D.bool h10)])]⟩ k = occupancy_visit_s1_p2 n a0 a1 G p w2 h9 h10 (fun z195 => k .normal ⟨81, [(0, .d (D.int .i64 a0)), (1, .d (D.sl 5 a1)), (2, .fn 24 [.ptr 1000000 0]), (6, .mpd G), (7, .d (D.sl 1 p)), (44, .d (D.sl 5 a1)), (45, .d (D.int .i64 w2)), (46, .d (D.int .i64 h9)), (47, .d (D.bool z195))], [(1000000, .box [.d (D.bool h10)])]⟩) := by kernel_rfl
theorem occupancy_visit_s1_p3_eq {R : Type} (n : Nat) (a0 : Int) (a1 : List (List D)) (G : Int → List (List D)) (p : List (List D)) (w2 : Int) (h9 : Int) (w196 : Bool) (h10 : Bool) (k : Exit → St → Option R) : vexec (occupancy_visit_s1_C n) n occupancy_visit_s1_c3 ⟨81, [(0, .d (D.int .i64 a0)), (1, .d (D.sl 5 a1)), (2, .fn 24 [.ptr 1000000 0]), (6, .mpd G), (7, .d (D.sl 1 p)), (44, .d (D.sl 5 a1)), (45, .d (D.int .i64 w2)), (46, .d (D.int .i64 h9)), (47, .d (D.bool w196))], [(1000000, .box [.d (D.bool h10)])]⟩ k = occupancy_visit_s1_p3 n a0 a1 G p w2 h9 w196 h10 (k .normal ⟨81, [(0, .d (D.int .i64 a0)), (1, .d (D.sl 5 a1)), (2, .fn 24 [.ptr 1000000 0]), (6, .mpd G), (7, .d (D.sl 1 p)), (44, .d (D.sl 5 a1)), (45, .d (D.int .i64 w2)), (46, .d (D.int .i64 h9)), (47, .d (D.bool w196))], [(1000000, .box [.d (D.bool h10)])]⟩) (k (.exit 2) ⟨81, [(0, .d (D.int .i64 a0)), (1, .d (D.sl 5 a1)), (2, .fn 24 [.ptr 1000000 0]), (6, .mpd G), (7, .d (D.sl 1 p)), (44, .d (D.sl 5 a1)), (45, .d (D.int .i64 w2)), (46, .d (D.int .i64 h9)), (47, .d (D.bool w196))], [(1000000, .box [.d (D.bool h10)])]⟩) := by kernel_rfl
theorem occupancy_visit_s1_p4_eq {R : Type} (n : Nat) (a0 : Int) (a1 : List (List D)) (G : Int → List (List D)) (p : List (List D)) (w2 : Int) (h9 : Int) (w196 : Bool) (h10 : Bool) (k : Exit → St → Option R) : vexec (occupancy_visit_s1_C n) n occupancy_visit_s1_c4 ⟨81, [(0, .d (D.int .i64 a0)), (1, .d (D.sl 5 a1)), (2, .fn 24 [.ptr 1000000 0]), (6, .mpd G), (7, .d (D.sl 1 p)), (44, .d (D.sl 5 a1)), (45, .d (D.int .i64 w2)), (46, .d (D.int .i64 h9)), (47, .d (D.bool w196))], [(1000000, .box [.d (D.bool h10)])]⟩ k = occupancy_visit_s1_p4 n a0 a1 G p w2 h9 w196 h10 (fun c198 c199 c200 c201 c202 => k .normal ⟨81, [(0, .d (D.int .i64 a0)), (1, .d (D.sl 5 a1)), (2, .fn 24 [.ptr 1000000 0]), (6, .mpd G), (7, .d (D.sl 1 p)), (10, .d (D.int .i64 h9)), (11, .ptr 11 0), (44, .d (D.sl 5 a1)), (45, .d (D.int .i64 w2)), (46, .d (D.int .i64 h9))], [(11, .box [.d c198, .d c199, .d c200, .d c201, .d c202]), (1000000, .box [.d (D.bool h10)])]⟩) := by kernel_rfl
theorem occupancy_visit_s1_p5_eq {R : Type} (n : Nat) (a0 : Int) (a1 : List (List D)) (G : Int → List (List D)) (p : List (List D)) (h9 : Int) (w2 : Int) (w203 : D) (w204 : D) (w205 : D) (w206 : D) (w207 : D) (h10 : Bool) (k : Exit → St → Option R) : vexec (occupancy_visit_s1_C n) n occupancy_visit_s1_c5 ⟨81, [(0, .d (D.int .i64 a0)), (1, .d (D.sl 5 a1)), (2, .fn 24 [.ptr 1000000 0]), (6, .mpd G), (7, .d (D.sl 1 p)), (10, .d (D.int .i64 h9)), (11, .ptr 11 0), (44, .d (D.sl 5 a1)), (45, .d (D.int .i64 w2)), (46, .d (D.int .i64 h9))], [(11, .box [.d w203, .d w204, .d w205, .d w206, .d w207]), (1000000, .box [.d (D.bool h10)])]⟩ k = occupancy_visit_s1_p5 n a0 a1 G p h9 w2 w203 w204 w205 w206 w207 h10 (fun z213 z214 => k .normal ⟨81, [(0, .d (D.int .i64 a0)), (1, .d (D.sl 5 a1)), (2, .fn 24 [.ptr 1000000 0]), (6, .mpd G), (7, .d (D.sl 1 p)), (10, .d (D.int .i64 h9)), (11, .ptr 11 0), (44, .d (D.sl 5 a1)), (45, .d (D.int .i64 w2)), (46, .d (D.int .i64 h9)), (59, .d (D.sl 1 z213)), (60, .d (D.int .i64 z214)), (61, .d (D.int .i64 (0 : Int)))], [(11, .box [.d w203, .d w204, .d w205, .d w206, .d w207]), (1000000, .box [.d (D.bool h10)])]⟩) := by kernel_rfl
theorem occupancy_visit_s1_p6_eq {R : Type} (n : Nat) (a0 : Int) (a1 : List (List D)) (G : Int → List (List D)) (p : List (List D)) (h9 : Int) (w2 : Int) (w215 : List (List D)) (w216 : Int) (h227 : Int) (w203 : D) (w204 : D) (w205 : D) (w206 : D) (w207 : D) (h233 : Bool) (k : Exit → St → Option R) : vexec (occupancy_visit_s1_C n) n occupancy_visit_s1_c6 ⟨81, [(0, .d (D.int .i64 a0)), (1, .d (D.sl 5 a1)), (2, .fn 24 [.ptr 1000000 0]), (6, .mpd G), (7, .d (D.sl 1 p)), (10, .d (D.int .i64 h9)), (11, .ptr 11 0), (44, .d (D.sl 5 a1)), (45, .d (D.int .i64 w2)), (46, .d (D.int .i64 h9)), (59, .d (D.sl 1 w215)), (60, .d (D.int .i64 w216)), (61, .d (D.int .i64 h227))], [(11, .box [.d w203, .d w204, .d w205, .d w206, .d w207]), (1000000, .box [.d (D.bool h233)])]⟩ k = occupancy_visit_s1_p6 n a0 a1 G p h9 w2 w215 w216 h227 w203 w204 w205 w206 w207 h233 (fun z281 z282 => k .ret ⟨81, [(0, .d (D.int .i64 a0)), (1, .d (D.sl 5 a1)), (2, .fn 24 [.ptr 1000000 0]), (6, .mpd G), (7, .d (D.sl 1 p)), (10, .d (D.int .i64 h9)), (11, .ptr 11 0), (44, .d (D.sl 5 a1)), (45, .d (D.int .i64 w2)), (46, .d (D.int .i64 h9)), (59, .d (D.sl 1 w215)), (60, .d (D.int .i64 w216)), (61, .d (D.int .i64 h227)), (78, .d (D.bool z281))], [(11, .box [.d w203, .d w204, .d w205, .d w206, .d w207]), (1000000, .box [.d (D.bool z282)])]⟩) (fun z283 z284 => k .normal ⟨81, [(0, .d (D.int .i64 a0)), (1, .d (D.sl 5 a1)), (2, .fn 24 [.ptr 1000000 0]), (6, .mpd G), (7, .d (D.sl 1 p)), (10, .d (D.int .i64 h9)), (11, .ptr 11 0), (44, .d (D.sl 5 a1)), (45, .d (D.int .i64 w2)), (46, .d (D.int .i64 h9)), (59, .d (D.sl 1 w215)), (60, .d (D.int .i64 w216)), (61, .d (D.int .i64 z283))], [(11, .box [.d w203, .d w204, .d w205, .d w206, .d w207]), (1000000, .box [.d (D.bool z284)])]⟩) (fun z285 => k (.exit 4) ⟨81, [(0, .d (D.int .i64 a0)), (1, .d (D.sl 5 a1)), (2, .fn 24 [.ptr 1000000 0]), (6, .mpd G), (7, .d (D.sl 1 p)), (10, .d (D.int .i64 h9)), (11, .ptr 11 0), (44, .d (D.sl 5 a1)), (45, .d (D.int .i64 w2)), (46, .d (D.int .i64 h9)), (59, .d (D.sl 1 w215)), (60, .d (D.int .i64 w216)), (61, .d (D.int .i64 h227)), (62, .d (D.bool z285))], [(11, .box [.d w203, .d w204, .d w205, .d w206, .d w207]), (1000000, .box [.d (D.bool h233)])]⟩) := by kernel_rfl
theorem occupancy_visit_s1_r7_eq {R : Type} (n : Nat) (a0 : Int) (a1 : List (List D)) (G : Int → List (List D)) (p : List (List D)) (h9 : Int) (w2 : Int) (w215 : List (List D)) (w216 : Int) (w203 : D) (w204 : D) (w205 : D) (w206 : D) (w207 : D) (k : Exit → St → Option R) : ∀ (m : Nat) (h227 : Int) (h233 : Bool), loopN (vexec (occupancy_visit_s1_C n) n occupancy_visit_s1_c6) m ⟨81, [(0, .d (D.int .i64 a0)), (1, .d (D.sl 5 a1)), (2, .fn 24 [.ptr 1000000 0]), (6, .mpd G), (7, .d (D.sl 1 p)), (10, .d (D.int .i64 h9)), (11, .ptr 11 0), (44, .d (D.sl 5 a1)), (45, .d (D.int .i64 w2)), (46, .d (D.int .i64 h9)), (59, .d (D.sl 1 w215)), (60, .d (D.int .i64 w216)), (61, .d (D.int .i64 h227))], [(11, .box [.d w203, .d w204, .d w205, .d w206, .d w207]), (1000000, .box [.d (D.bool h233)])]⟩ k = occupancy_visit_s1_r7 n a0 a1 G p h9 w2 w215 w216 w203 w204 w205 w206 w207 (fun h227 w286 w287 => k .ret ⟨81, [(0, .d (D.int .i64 a0)), (1, .d (D.sl 5 a1)), (2, .fn 24 [.ptr 1000000 0]), (6, .mpd G), (7, .d (D.sl 1 p)), (10, .d (D.int .i64 h9)), (11, .ptr 11 0), (44, .d (D.sl 5 a1)), (45, .d (D.int .i64 w2)), (46, .d (D.int .i64 h9)), (59, .d (D.sl 1 w215)), (60, .d (D.int .i64 w216)), (61, .d (D.int .i64 h227)), (78, .d (D.bool w286))], [(11, .box [.d w203, .d w204, .d w205, .d w206, .d w207]), (1000000, .box [.d (D.bool w287)])]⟩) (fun h227 w290 h233 => k (.exit 4) ⟨81, [(0, .d (D.int .i64 a0)), (1, .d (D.sl 5 a1)), (2, .fn 24 [.ptr 1000000 0]), (6, .mpd G), (7, .d (D.sl 1 p)), (10, .d (D.int .i64 h9)), (11, .ptr 11 0), (44, .d (D.sl 5 a1)), (45, .d (D.int .i64 w2)), (46, .d (D.int .i64 h9)), (59, .d (D.sl 1 w215)), (60, .d (D.int .i64 w216)), (61, .d (D.int .i64 h227)), (62, .d (D.bool w290))], [(11, .box [.d w203, .d w204, .d w205, .d w206, .d w207]), (1000000, .box [.d (D.bool h233)])]⟩) m h227 h233
  | 0, _, _ => rfl
  | m + 1, h227, h233 => (occupancy_visit_s1_p6_eq n a0 a1 G p h9 w2 w215 w216 h227 w203 w204 w205 w206 w207 h233 (loopK (vexec (occupancy_visit_s1_C n) n occupancy_visit_s1_c6) m k)).trans (occupancy_visit_s1_p6_congr n a0 a1 G p h9 w2 w215 w216 h227 w203 w204 w205 w206 w207 h233 (fun w286 w287 => rfl) (fun w288 w289 => occupancy_visit_s1_r7_eq n a0 a1 G p h9 w2 w215 w216 w203 w204 w205 w206 w207 k m w288 w289) (fun w290 => rfl))
theorem occupancy_visit_s1_p7_eq {R : Type} (n : Nat) (a0 : Int) (a1 : List (List D)) (G : Int → List (List D)) (p : List (List D)) (h9 : Int) (w2 : Int) (w215 : List (List D)) (w216 : Int) (w203 : D) (w204 : D) (w205 : D) (w206 : D) (w207 : D) (h10 : Bool) (k : Exit → St → Option R) : vexec (occupancy_visit_s1_C n) n occupancy_visit_s1_c7 ⟨81, [(0, .d (D.int .i64 a0)), (1, .d (D.sl 5 a1)), (2, .fn 24 [.ptr 1000000 0]), (6, .mpd G), (7, .d (D.sl 1 p)), (10, .d (D.int .i64 h9)), (11, .ptr 11 0), (44, .d (D.sl 5 a1)), (45, .d (D.int .i64 w2)), (46, .d (D.int .i64 h9)), (59, .d (D.sl 1 w215)), (60, .d (D.int .i64 w216)), (61, .d (D.int .i64 (0 : Int)))], [(11, .box [.d w203, .d w204, .d w205, .d w206, .d w207]), (1000000, .box [.d (D.bool h10)])]⟩ k = occupancy_visit_s1_p7 n a0 a1 G p h9 w2 w215 w216 w203 w204 w205 w206 w207 h10 (fun h227 w286 w287 => k .ret ⟨81, [(0, .d (D.int .i64 a0)), (1, .d (D.sl 5 a1)), (2, .fn 24 [.ptr 1000000 0]), (6, .mpd G), (7, .d (D.sl 1 p)), (10, .d (D.int .i64 h9)), (11, .ptr 11 0), (44, .d (D.sl 5 a1)), (45, .d (D.int .i64 w2)), (46, .d (D.int .i64 h9)), (59, .d (D.sl 1 w215)), (60, .d (D.int .i64 w216)), (61, .d (D.int .i64 h227)), (78, .d (D.bool w286))], [(11, .box [.d w203, .d w204, .d w205, .d w206, .d w207]), (1000000, .box [.d (D.bool w287)])]⟩) (fun h227 w290 h233 => k (.exit 4) ⟨81, [(0, .d (D.int .i64 a0)), (1, .d (D.sl 5 a1)), (2, .fn 24 [.ptr 1000000 0]), (6, .mpd G), (7, .d (D.sl 1 p)), (10, .d (D.int .i64 h9)), (11, .ptr 11 0), (44, .d (D.sl 5 a1)), (45, .d (D.int .i64 w2)), (46, .d (D.int .i64 h9)), (59, .d (D.sl 1 w215)), (60, .d (D.int .i64 w216)), (61, .d (D.int .i64 h227)), (62, .d (D.bool w290))], [(11, .box [.d w203, .d w204, .d w205, .d w206, .d w207]), (1000000, .box [.d (D.bool h233)])]⟩) := by
  rw [occupancy_visit_s1_c7_eq]
  exact occupancy_visit_s1_r7_eq n a0 a1 G p h9 w2 w215 w216 w203 w204 w205 w206 w207 k n (0 : Int) h10
theorem occupancy_visit_s1_p8_eq {R : Type} (n : Nat) (a0 : Int) (a1 : List (List D)) (G : Int → List (List D)) (p : List (List D)) (h9 : Int) (w2 : Int) (w215 : List (List D)) (w216 : Int) (w203 : D) (w204 : D) (w205 : D) (w206 : D) (w207 : D) (h10 : Bool) (k : Exit → St → Option R) : vexec (occupancy_visit_s1_C n) n occupancy_visit_s1_c8 ⟨81, [(0, .d (D.int .i64 a0)), (1, .d (D.sl 5 a1)), (2, .fn 24 [.ptr 1000000 0]), (6, .mpd G), (7, .d (D.sl 1 p)), (10, .d (D.int .i64 h9)), (11, .ptr 11 0), (44, .d (D.sl 5 a1)), (45, .d (D.int .i64 w2)), (46, .d (D.int .i64 h9)), (59, .d (D.sl 1 w215)), (60, .d (D.int .i64 w216)), (61, .d (D.int .i64 (0 : Int)))], [(11, .box [.d w203, .d w204, .d w205, .d w206, .d w207]), (1000000, .box [.d (D.bool h10)])]⟩ k = occupancy_visit_s1_p8 n a0 a1 G p h9 w2 w215 w216 w203 w204 w205 w206 w207 h10 (fun w291 w292 w293 => k .ret ⟨81, [(0, .d (D.int .i64 a0)), (1, .d (D.sl 5 a1)), (2, .fn 24 [.ptr 1000000 0]), (6, .mpd G), (7, .d (D.sl 1 p)), (10, .d (D.int .i64 h9)), (11, .ptr 11 0), (44, .d (D.sl 5 a1)), (45, .d (D.int .i64 w2)), (46, .d (D.int .i64 h9)), (59, .d (D.sl 1 w215)), (60, .d (D.int .i64 w216)), (61, .d (D.int .i64 w291)), (78, .d (D.bool w292))], [(11, .box [.d w203, .d w204, .d w205, .d w206, .d w207]), (1000000, .box [.d (D.bool w293)])]⟩) (fun w294 w295 w296 => k .normal ⟨81, [(0, .d (D.int .i64 a0)), (1, .d (D.sl 5 a1)), (2, .fn 24 [.ptr 1000000 0]), (6, .mpd G), (7, .d (D.sl 1 p)), (10, .d (D.int .i64 h9)), (11, .ptr 11 0), (44, .d (D.sl 5 a1)), (45, .d (D.int .i64 w2)), (46, .d (D.int .i64 h9)), (59, .d (D.sl 1 w215)), (60, .d (D.int .i64 w216)), (61, .d (D.int .i64 w294)), (62, .d (D.bool w295))], [(11, .box [.d w203, .d w204, .d w205, .d w206, .d w207]), (1000000, .box [.d (D.bool w296)])]⟩) := by
  rw [occupancy_visit_s1_c8_eq]
  unfold occupancy_visit_s1_p8
  exact (occupancy_visit_s1_p7_eq n a0 a1 G p h9 w2 w215 w216 w203 w204 w205 w206 w207 h10 (blockK 4 k)).trans (occupancy_visit_s1_p7_congr n a0 a1 G p h9 w2 w215 w216 w203 w204 w205 w206 w207 h10 (fun w291 w292 w293 => rfl) (fun w294 w295 w296 => rfl))
theorem occupancy_visit_s1_p9_eq {R : Type} (n : Nat) (a0 : Int) (a1 : List (List D)) (G : Int → List (List D)) (p : List (List D)) (h9 : Int) (w2 : Int) (w203 : D) (w204 : D) (w205 : D) (w206 : D) (w207 : D) (h10 : Bool) (k : Exit → St → Option R) : vexec (occupancy_visit_s1_C n) n occupancy_visit_s1_c9 ⟨81, [(0, .d (D.int .i64 a0)), (1, .d (D.sl 5 a1)), (2, .fn 24 [.ptr 1000000 0]), (6, .mpd G), (7, .d (D.sl 1 p)), (10, .d (D.int .i64 h9)), (11, .ptr 11 0), (44, .d (D.sl 5 a1)), (45, .d (D.int .i64 w2)), (46, .d (D.int .i64 h9))], [(11, .box [.d w203, .d w204, .d w205, .d w206, .d w207]), (1000000, .box [.d (D.bool h10)])]⟩ k = occupancy_visit_s1_p9 n a0 a1 G p h9 w2 w203 w204 w205 w206 w207 h10 (fun w215 w216 w297 w298 w299 => k .ret ⟨81, [(0, .d (D.int .i64 a0)), (1, .d (D.sl 5 a1)), (2, .fn 24 [.ptr 1000000 0]), (6, .mpd G), (7, .d (D.sl 1 p)), (10, .d (D.int .i64 h9)), (11, .ptr 11 0), (44, .d (D.sl 5 a1)), (45, .d (D.int .i64 w2)), (46, .d (D.int .i64 h9)), (59, .d (D.sl 1 w215)), (60, .d (D.int .i64 w216)), (61, .d (D.int .i64 w297)), (78, .d (D.bool w298))], [(11, .box [.d w203, .d w204, .d w205, .d w206, .d w207]), (1000000, .box [.d (D.bool w299)])]⟩) (fun w215 w216 w300 w301 w302 => k .normal ⟨81, [(0, .d (D.int .i64 a0)), (1, .d (D.sl 5 a1)), (2, .fn 24 [.ptr 1000000 0]), (6, .mpd G), (7, .d (D.sl 1 p)), (10, .d (D.int .i64 h9)), (11, .ptr 11 0), (44, .d (D.sl 5 a1)), (45, .d (D.int .i64 w2)), (46, .d (D.int .i64 h9)), (59, .d (D.sl 1 w215)), (60, .d (D.int .i64 w216)), (61, .d (D.int .i64 w300)), (62, .d (D.bool w301))], [(11, .box [.d w203, .d w204, .d w205, .d w206, .d w207]), (1000000, .box [.d (D.bool w302)])]⟩) := by
  rw [occupancy_visit_s1_c9_eq]
  unfold occupancy_visit_s1_p9
  exact (occupancy_visit_s1_p5_eq n a0 a1 G p h9 w2 w203 w204 w205 w206 w207 h10 (seqK (occupancy_visit_s1_C n) n occupancy_visit_s1_c8 k)).trans (occupancy_visit_s1_p5_congr n a0 a1 G p h9 w2 w203 w204 w205 w206 w207 h10 (fun w215 w216 => occupancy_visit_s1_p8_eq n a0 a1 G p h9 w2 w215 w216 w203 w204 w205 w206 w207 h10 k))
theorem occupancy_visit_s1_p10_eq {R : Type} (n : Nat) (a0 : Int) (a1 : List (List D)) (G : Int → List (List D)) (p : List (List D)) (w2 : Int) (h9 : Int) (w196 : Bool) (h10 : Bool) (k : Exit → St → Option R) : vexec (occupancy_visit_s1_C n) n occupancy_visit_s1_c10 ⟨81, [(0, .d (D.int .i64 a0)), (1, .d (D.sl 5 a1)), (2, .fn 24 [.ptr 1000000 0]), (6, .mpd G), (7, .d (D.sl 1 p)), (44, .d (D.sl 5 a1)), (45, .d (D.int .i64 w2)), (46, .d (D.int .i64 h9)), (47, .d (D.bool w196))], [(1000000, .box [.d (D.bool h10)])]⟩ k = occupancy_visit_s1_p10 n a0 a1 G p w2 h9 w196 h10 (fun w303 w304 w305 w306 w203 w204 w205 w206 w207 w307 => k .ret ⟨81, [(0, .d (D.int .i64 a0)), (1, .d (D.sl 5 a1)), (2, .fn 24 [.ptr 1000000 0]), (6, .mpd G), (7, .d (D.sl 1 p)), (10, .d (D.int .i64 h9)), (11, .ptr 11 0), (44, .d (D.sl 5 a1)), (45, .d (D.int .i64 w2)), (46, .d (D.int .i64 h9)), (59, .d (D.sl 1 w303)), (60, .d (D.int .i64 w304)), (61, .d (D.int .i64 w305)), (78, .d (D.bool w306))], [(11, .box [.d w203, .d w204, .d w205, .d w206, .d w207]), (1000000, .box [.d (D.bool w307)])]⟩) (fun w308 w309 w310 w311 w203 w204 w205 w206 w207 w312 => k .normal ⟨81, [(0, .d (D.int .i64 a0)), (1, .d (D.sl 5 a1)), (2, .fn 24 [.ptr 1000000 0]), (6, .mpd G), (7, .d (D.sl 1 p)), (10, .d (D.int .i64 h9)), (11, .ptr 11 0), (44, .d (D.sl 5 a1)), (45, .d (D.int .i64 w2)), (46, .d (D.int .i64 h9)), (59, .d (D.sl 1 w308)), (60, .d (D.int .i64 w309)), (61, .d (D.int .i64 w310)), (62, .d (D.bool w311))], [(11, .box [.d w203, .d w204, .d w205, .d w206, .d w207]), (1000000, .box [.d (D.bool w312)])]⟩) := by
  rw [occupancy_visit_s1_c10_eq]
  unfold occupancy_visit_s1_p10
  exact (occupancy_visit_s1_p4_eq n a0 a1 G p w2 h9 w196 h10 (seqK (occupancy_visit_s1_C n) n occupancy_visit_s1_c9 k)).trans (occupancy_visit_s1_p4_congr n a0 a1 G p w2 h9 w196 h10 (fun w203 w204 w205 w206 w207 => occupancy_visit_s1_p9_eq n a0 a1 G p h9 w2 w203 w204 w205 w206 w207 h10 k))
theorem occupancy_visit_s1_p11_eq {R : Type} (n : Nat) (a0 : Int) (a1 : List (List D)) (G : Int → List (List D)) (p : List (List D)) (w2 : Int) (h9 : Int) (w196 : Bool) (h10 : Bool) (k : Exit → St → Option R) : vexec (occupancy_visit_s1_C n) n occupancy_visit_s1_c11 ⟨81, [(0, .d (D.int .i64 a0)), (1, .d (D.sl 5 a1)), (2, .fn 24 [.ptr 1000000 0]), (6, .mpd G), (7, .d (D.sl 1 p)), (44, .d (D.sl 5 a1)), (45, .d (D.int .i64 w2)), (46, .d (D.int .i64 h9)), (47, .d (D.bool w196))], [(1000000, .box [.d (D.bool h10)])]⟩ k = occupancy_visit_s1_p11 n a0 a1 G p w2 h9 w196 h10 (fun w313 w314 w315 w316 w317 w318 w319 w320 w321 w322 => k .ret ⟨81, [(0, .d (D.int .i64 a0)), (1, .d (D.sl 5 a1)), (2, .fn 24 [.ptr 1000000 0]), (6, .mpd G), (7, .d (D.sl 1 p)), (10, .d (D.int .i64 h9)), (11, .ptr 11 0), (44, .d (D.sl 5 a1)), (45, .d (D.int .i64 w2)), (46, .d (D.int .i64 h9)), (59, .d (D.sl 1 w313)), (60, .d (D.int .i64 w314)), (61, .d (D.int .i64 w315)), (78, .d (D.bool w316))], [(11, .box [.d w317, .d w318, .d w319, .d w320, .d w321]), (1000000, .box [.d (D.bool w322)])]⟩) (fun w323 w324 w325 w326 w327 w328 w329 w330 w331 w332 => k .normal ⟨81, [(0, .d (D.int .i64 a0)), (1, .d (D.sl 5 a1)), (2, .fn 24 [.ptr 1000000 0]), (6, .mpd G), (7, .d (D.sl 1 p)), (10, .d (D.int .i64 h9)), (11, .ptr 11 0), (44, .d (D.sl 5 a1)), (45, .d (D.int .i64 w2)), (46, .d (D.int .i64 h9)), (59, .d (D.sl 1 w323)), (60, .d (D.int .i64 w324)), (61, .d (D.int .i64 w325)), (62, .d (D.bool w326))], [(11, .box [.d w327, .d w328, .d w329, .d w330, .d w331]), (1000000, .box [.d (D.bool w332)])]⟩) := by
  rw [occupancy_visit_s1_c11_eq]
  unfold occupancy_visit_s1_p11
  exact (occupancy_visit_s1_p10_eq n a0 a1 G p w2 h9 w196 h10 (blockK 3 k)).trans (occupancy_visit_s1_p10_congr n a0 a1 G p w2 h9 w196 h10 (fun w313 w314 w315 w316 w317 w318 w319 w320 w321 w322 => rfl) (fun w323 w324 w325 w326 w327 w328 w329 w330 w331 w332 => rfl))
theorem occupancy_visit_s1_p12_eq {R : Type} (n : Nat) (a0 : Int) (a1 : List (List D)) (G : Int → List (List D)) (p : List (List D)) (h9 : Int) (w2 : Int) (w343 : List (List D)) (w344 : Int) (w345 : Int) (w346 : Bool) (w347 : D) (w348 : D) (w349 : D) (w350 : D) (w351 : D) (w352 : Bool) (k : Exit → St → Option R) : vexec (occupancy_visit_s1_C n) n occupancy_visit_s1_c12 ⟨81, [(0, .d (D.int .i64 a0)), (1, .d (D.sl 5 a1)), (2, .fn 24 [.ptr 1000000 0]), (6, .mpd G), (7, .d (D.sl 1 p)), (10, .d (D.int .i64 h9)), (11, .ptr 11 0), (44, .d (D.sl 5 a1)), (45, .d (D.int .i64 w2)), (46, .d (D.int .i64 h9)), (59, .d (D.sl 1 w343)), (60, .d (D.int .i64 w344)), (61, .d (D.int .i64 w345)), (62, .d (D.bool w346))], [(11, .box [.d w347, .d w348, .d w349, .d w350, .d w351]), (1000000, .box [.d (D.bool w352)])]⟩ k = occupancy_visit_s1_p12 n a0 a1 G p h9 w2 w343 w344 w345 w346 w347 w348 w349 w350 w351 w352 (fun z353 => k .normal ⟨81, [(0, .d (D.int .i64 a0)), (1, .d (D.sl 5 a1)), (2, .fn 24 [.ptr 1000000 0]), (6, .mpd G), (7, .d (D.sl 1 p)), (44, .d (D.sl 5 a1)), (45, .d (D.int .i64 w2)), (46, .d (D.int .i64 z353))], [(1000000, .box [.d (D.bool w352)])]⟩) := by kernel_rfl
theorem occupancy_visit_s1_p13_eq {R : Type} (n : Nat) (a0 : Int) (a1 : List (List D)) (G : Int → List (List D)) (p : List (List D)) (w2 : Int) (h9 : Int) (w196 : Bool) (h10 : Bool) (k : Exit → St → Option R) : vexec (occupancy_visit_s1_C n) n occupancy_visit_s1_c13 ⟨81, [(0, .d (D.int .i64 a0)), (1, .d (D.sl 5 a1)), (2, .fn 24 [.ptr 1000000 0]), (6, .mpd G), (7, .d (D.sl 1 p)), (44, .d (D.sl 5 a1)), (45, .d (D.int .i64 w2)), (46, .d (D.int .i64 h9)), (47, .d (D.bool w196))], [(1000000, .box [.d (D.bool h10)])]⟩ k = occupancy_visit_s1_p13 n a0 a1 G p w2 h9 w196 h10 (fun w333 w334 w335 w336 w337 w338 w339 w340 w341 w342 => k .ret ⟨81, [(0, .d (D.int .i64 a0)), (1, .d (D.sl 5 a1)), (2, .fn 24 [.ptr 1000000 0]), (6, .mpd G), (7, .d (D.sl 1 p)), (10, .d (D.int .i64 h9)), (11, .ptr 11 0), (44, .d (D.sl 5 a1)), (45, .d (D.int .i64 w2)), (46, .d (D.int .i64 h9)), (59, .d (D.sl 1 w333)), (60, .d (D.int .i64 w334)), (61, .d (D.int .i64 w335)), (78, .d (D.bool w336))], [(11, .box [.d w337, .d w338, .d w339, .d w340, .d w341]), (1000000, .box [.d (D.bool w342)])]⟩) (fun w354 w352 => k .normal ⟨81, [(0, .d (D.int .i64 a0)), (1, .d (D.sl 5 a1)), (2, .fn 24 [.ptr 1000000 0]), (6, .mpd G), (7, .d (D.sl 1 p)), (44, .d (D.sl 5 a1)), (45, .d (D.int .i64 w2)), (46, .d (D.int .i64 w354))], [(1000000, .box [.d (D.bool w352)])]⟩) := by
  rw [occupancy_visit_s1_c13_eq]
  unfold occupancy_visit_s1_p13
  exact (occupancy_visit_s1_p11_eq n a0 a1 G p w2 h9 w196 h10 (seqK (occupancy_visit_s1_C n) n occupancy_visit_s1_c12 k)).trans (occupancy_visit_s1_p11_congr n a0 a1 G p w2 h9 w196 h10 (fun w333 w334 w335 w336 w337 w338 w339 w340 w341 w342 => rfl) (fun w343 w344 w345 w346 w347 w348 w349 w350 w351 w352 => occupancy_visit_s1_p12_eq n a0 a1 G p h9 w2 w343 w344 w345 w346 w347 w348 w349 w350 w351 w352 k))
theorem occupancy_visit_s1_p14_eq {R : Type} (n : Nat) (a0 : Int) (a1 : List (List D)) (G : Int → List (List D)) (p : List (List D)) (w2 : Int) (h9 : Int) (w196 : Bool) (h10 : Bool) (k : Exit → St → Option R) : vexec (occupancy_visit_s1_C n) n occupancy_visit_s1_c14 ⟨81, [(0, .d (D.int .i64 a0)), (1, .d (D.sl 5 a1)), (2, .fn 24 [.ptr 1000000 0]), (6, .mpd G), (7, .d (D.sl 1 p)), (44, .d (D.sl 5 a1)), (45, .d (D.int .i64 w2)), (46, .d (D.int .i64 h9)), (47, .d (D.bool w196))], [(1000000, .box [.d (D.bool h10)])]⟩ k = occupancy_visit_s1_p14 n a0 a1 G p w2 h9 w196 h10 (fun w355 w356 w357 w358 w359 w360 w361 w362 w363 w364 => k .ret ⟨81, [(0, .d (D.int .i64 a0)), (1, .d (D.sl 5 a1)), (2, .fn 24 [.ptr 1000000 0]), (6, .mpd G), (7, .d (D.sl 1 p)), (10, .d (D.int .i64 h9)), (11, .ptr 11 0), (44, .d (D.sl 5 a1)), (45, .d (D.int .i64 w2)), (46, .d (D.int .i64 h9)), (59, .d (D.sl 1 w355)), (60, .d (D.int .i64 w356)), (61, .d (D.int .i64 w357)), (78, .d (D.bool w358))], [(11, .box [.d w359, .d w360, .d w361, .d w362, .d w363]), (1000000, .box [.d (D.bool w364)])]⟩) (fun w365 w366 => k .normal ⟨81, [(0, .d (D.int .i64 a0)), (1, .d (D.sl 5 a1)), (2, .fn 24 [.ptr 1000000 0]), (6, .mpd G), (7, .d (D.sl 1 p)), (44, .d (D.sl 5 a1)), (45, .d (D.int .i64 w2)), (46, .d (D.int .i64 w365))], [(1000000, .box [.d (D.bool w366)])]⟩) (k (.exit 2) ⟨81, [(0, .d (D.int .i64 a0)), (1, .d (D.sl 5 a1)), (2, .fn 24 [.ptr 1000000 0]), (6, .mpd G), (7, .d (D.sl 1 p)), (44, .d (D.sl 5 a1)), (45, .d (D.int .i64 w2)), (46, .d (D.int .i64 h9)), (47, .d (D.bool w196))], [(1000000, .box [.d (D.bool h10)])]⟩) := by
  rw [occupancy_visit_s1_c14_eq]
  unfold occupancy_visit_s1_p14
  exact (occupancy_visit_s1_p3_eq n a0 a1 G p w2 h9 w196 h10 (seqK (occupancy_visit_s1_C n) n occupancy_visit_s1_c13 k)).trans (occupancy_visit_s1_p3_congr n a0 a1 G p w2 h9 w196 h10 (occupancy_visit_s1_p13_eq n a0 a1 G p w2 h9 w196 h10 k) (rfl))
theorem occupancy_visit_s1_p15_eq {R : Type} (n : Nat) (a0 : Int) (a1 : List (List D)) (G : Int → List (List D)) (p : List (List D)) (w2 : Int) (h9 : Int) (h10 : Bool) (k : Exit → St → Option R) : vexec (occupancy_visit_s1_C n) n occupancy_visit_s1_c15 ⟨81, [(0, .d (D.int .i64 a0)), (1, .d (D.sl 5 a1)), (2, .fn 24 [.ptr 1000000 0]), (6, .mpd G), (7, .d (D.sl 1 p)), (44, .d (D.sl 5 a1)), (45, .d (D.int .i64 w2)), (46, .d (D.int .i64 h9))], [(1000000, .box [.d (D.bool h10)])]⟩ k = occupancy_visit_s1_p15 n a0 a1 G p w2 h9 h10 (fun w367 w368 w369 w370 w371 w372 w373 w374 w375 w376 => k .ret ⟨81, [(0, .d (D.int .i64 a0)), (1, .d (D.sl 5 a1)), (2, .fn 24 [.ptr 1000000 0]), (6, .mpd G), (7, .d (D.sl 1 p)), (10, .d (D.int .i64 h9)), (11, .ptr 11 0), (44, .d (D.sl 5 a1)), (45, .d (D.int .i64 w2)), (46, .d (D.int .i64 h9)), (59, .d (D.sl 1 w367)), (60, .d (D.int .i64 w368)), (61, .d (D.int .i64 w369)), (78, .d (D.bool w370))], [(11, .box [.d w371, .d w372, .d w373, .d w374, .d w375]), (1000000, .box [.d (D.bool w376)])]⟩) (fun w377 w378 => k .normal ⟨81, [(0, .d (D.int .i64 a0)), (1, .d (D.sl 5 a1)), (2, .fn 24 [.ptr 1000000 0]), (6, .mpd G), (7, .d (D.sl 1 p)), (44, .d (D.sl 5 a1)), (45, .d (D.int .i64 w2)), (46, .d (D.int .i64 w377))], [(1000000, .box [.d (D.bool w378)])]⟩) (fun w196 => k (.exit 2) ⟨81, [(0, .d (D.int .i64 a0)), (1, .d (D.sl 5 a1)), (2, .fn 24 [.ptr 1000000 0]), (6, .mpd G), (7, .d (D.sl 1 p)), (44, .d (D.sl 5 a1)), (45, .d (D.int .i64 w2)), (46, .d (D.int .i64 h9)), (47, .d (D.bool w196))], [(1000000, .box [.d (D.bool h10)])]⟩) := by
  rw [occupancy_visit_s1_c15_eq]
  unfold occupancy_visit_s1_p15
  exact (occupancy_visit_s1_p2_eq n a0 a1 G p w2 h9 h10 (seqK (occupancy_visit_s1_C n) n occupancy_visit_s1_c14 k)).trans (occupancy_visit_s1_p2_congr n a0 a1 G p w2 h9 h10 (fun w196 => occupancy_visit_s1_p14_eq n a0 a1 G p w2 h9 w196 h10 k))
theorem occupancy_visit_s1_r16_eq {R : Type} (n : Nat) (a0 : Int) (a1 : List (List D)) (G : Int → List (List D)) (p : List (List D)) (w2 : Int) (k : Exit → St → Option R) : ∀ (m : Nat) (h9 : Int) (h10 : Bool), loopN (vexec (occupancy_visit_s1_C n) n occupancy_visit_s1_c15) m ⟨81, [(0, .d (D.int .i64 a0)), (1, .d (D.sl 5 a1)), (2, .fn 24 [.ptr 1000000 0]), (6, .mpd G), (7, .d (D.sl 1 p)), (44, .d (D.sl 5 a1)), (45, .d (D.int .i64 w2)), (46, .d (D.int .i64 h9))], [(1000000, .box [.d (D.bool h10)])]⟩ k = occupancy_visit_s1_r16 n a0 a1 G p w2 (fun h9 w379 w380 w381 w382 w383 w384 w385 w386 w387 w388 => k .ret ⟨81, [(0, .d (D.int .i64 a0)), (1, .d (D.sl 5 a1)), (2, .fn 24 [.ptr 1000000 0]), (6, .mpd G), (7, .d (D.sl 1 p)), (10, .d (D.int .i64 h9)), (11, .ptr 11 0), (44, .d (D.sl 5 a1)), (45, .d (D.int .i64 w2)), (46, .d (D.int .i64 h9)), (59, .d (D.sl 1 w379)), (60, .d (D.int .i64 w380)), (61, .d (D.int .i64 w381)), (78, .d (D.bool w382))], [(11, .box [.d w383, .d w384, .d w385, .d w386, .d w387]), (1000000, .box [.d (D.bool w388)])]⟩) (fun h9 w391 h10 => k (.exit 2) ⟨81, [(0, .d (D.int .i64 a0)), (1, .d (D.sl 5 a1)), (2, .fn 24 [.ptr 1000000 0]), (6, .mpd G), (7, .d (D.sl 1 p)), (44, .d (D.sl 5 a1)), (45, .d (D.int .i64 w2)), (46, .d (D.int .i64 h9)), (47, .d (D.bool w391))], [(1000000, .box [.d (D.bool h10)])]⟩) m h9 h10
  | 0, _, _ => rfl
  | m + 1, h9, h10 => (occupancy_visit_s1_p15_eq n a0 a1 G p w2 h9 h10 (loopK (vexec (occupancy_visit_s1_C n) n occupancy_visit_s1_c15) m k)).trans (occupancy_visit_s1_p15_congr n a0 a1 G p w2 h9 h10 (fun w379 w380 w381 w382 w383 w384 w385 w386 w387 w388 => rfl) (fun w389 w390 => occupancy_visit_s1_r16_eq n a0 a1 G p w2 k m w389 w390) (fun w391 => rfl))
theorem occupancy_visit_s1_p16_eq {R : Type} (n : Nat) (a0 : Int) (a1 : List (List D)) (G : Int → List (List D)) (p : List (List D)) (w2 : Int) (b0_0 : Bool) (k : Exit → St → Option R) : vexec (occupancy_visit_s1_C n) n occupancy_visit_s1_c16 ⟨81, [(0, .d (D.int .i64 a0)), (1, .d (D.sl 5 a1)), (2, .fn 24 [.ptr 1000000 0]), (6, .mpd G), (7, .d (D.sl 1 p)), (44, .d (D.sl 5 a1)), (45, .d (D.int .i64 w2)), (46, .d (D.int .i64 (0 : Int)))], [(1000000, .box [.d (D.bool b0_0)])]⟩ k = occupancy_visit_s1_p16 n a0 a1 G p w2 b0_0 (fun h9 w379 w380 w381 w382 w383 w384 w385 w386 w387 w388 => k .ret ⟨81, [(0, .d (D.int .i64 a0)), (1, .d (D.sl 5 a1)), (2, .fn 24 [.ptr 1000000 0]), (6, .mpd G), (7, .d (D.sl 1 p)), (10, .d (D.int .i64 h9)), (11, .ptr 11 0), (44, .d (D.sl 5 a1)), (45, .d (D.int .i64 w2)), (46, .d (D.int .i64 h9)), (59, .d (D.sl 1 w379)), (60, .d (D.int .i64 w380)), (61, .d (D.int .i64 w381)), (78, .d (D.bool w382))], [(11, .box [.d w383, .d w384, .d w385, .d w386, .d w387]), (1000000, .box [.d (D.bool w388)])]⟩) (fun h9 w391 h10 => k (.exit 2) ⟨81, [(0, .d (D.int .i64 a0)), (1, .d (D.sl 5 a1)), (2, .fn 24 [.ptr 1000000 0]), (6, .mpd G), (7, .d (D.sl 1 p)), (44, .d (D.sl 5 a1)), (45, .d (D.int .i64 w2)), (46, .d (D.int .i64 h9)), (47, .d (D.bool w391))], [(1000000, .box [.d (D.bool h10)])]⟩) := by
  rw [occupancy_visit_s1_c16_eq]
  exact occupancy_visit_s1_r16_eq n a0 a1 G p w2 k n (0 : Int) b0_0
theorem occupancy_visit_s1_p17_eq {R : Type} (n : Nat) (a0 : Int) (a1 : List (List D)) (G : Int → List (List D)) (p : List (List D)) (w2 : Int) (b0_0 : Bool) (k : Exit → St → Option R) : vexec (occupancy_visit_s1_C n) n occupancy_visit_s1_c17 ⟨81, [(0, .d (D.int .i64 a0)), (1, .d (D.sl 5 a1)), (2, .fn 24 [.ptr 1000000 0]), (6, .mpd G), (7, .d (D.sl 1 p)), (44, .d (D.sl 5 a1)), (45, .d (D.int .i64 w2)), (46, .d (D.int .i64 (0 : Int)))], [(1000000, .box [.d (D.bool b0_0)])]⟩ k = occupancy_visit_s1_p17 n a0 a1 G p w2 b0_0 (fun w392 w393 w394 w395 w396 w397 w398 w399 w400 w401 w402 => k .ret ⟨81, [(0, .d (D.int .i64 a0)), (1, .d (D.sl 5 a1)), (2, .fn 24 [.ptr 1000000 0]), (6, .mpd G), (7, .d (D.sl 1 p)), (10, .d (D.int .i64 w392)), (11, .ptr 11 0), (44, .d (D.sl 5 a1)), (45, .d (D.int .i64 w2)), (46, .d (D.int .i64 w392)), (59, .d (D.sl 1 w393)), (60, .d (D.int .i64 w394)), (61, .d (D.int .i64 w395)), (78, .d (D.bool w396))], [(11, .box [.d w397, .d w398, .d w399, .d w400, .d w401]), (1000000, .box [.d (D.bool w402)])]⟩) (fun w403 w404 w405 => k .normal ⟨81, [(0, .d (D.int .i64 a0)), (1, .d (D.sl 5 a1)), (2, .fn 24 [.ptr 1000000 0]), (6, .mpd G), (7, .d (D.sl 1 p)), (44, .d (D.sl 5 a1)), (45, .d (D.int .i64 w2)), (46, .d (D.int .i64 w403)), (47, .d (D.bool w404))], [(1000000, .box [.d (D.bool w405)])]⟩) := by
  rw [occupancy_visit_s1_c17_eq]
  unfold occupancy_visit_s1_p17
  exact (occupancy_visit_s1_p16_eq n a0 a1 G p w2 b0_0 (blockK 2 k)).trans (occupancy_visit_s1_p16_congr n a0 a1 G p w2 b0_0 (fun w392 w393 w394 w395 w396 w397 w398 w399 w400 w401 w402 => rfl) (fun w403 w404 w405 => rfl))
theorem occupancy_visit_s1_p18_eq {R : Type} (n : Nat) (a0 : Int) (a1 : List (List D)) (G : Int → List (List D)) (p : List (List D)) (b0_0 : Bool) (k : Exit → St → Option R) : vexec (occupancy_visit_s1_C n) n occupancy_visit_s1_c0 ⟨81, [(0, .d (D.int .i64 a0)), (1, .d (D.sl 5 a1)), (2, .fn 24 [.ptr 1000000 0]), (6, .mpd G), (7, .d (D.sl 1 p))], [(1000000, .box [.d (D.bool b0_0)])]⟩ k = occupancy_visit_s1_p18 n a0 a1 G p b0_0 (fun w406 w2 w407 w408 w409 w410 w411 w412 w413 w414 w415 w416 => k .ret ⟨81, [(0, .d (D.int .i64 a0)), (1, .d (D.sl 5 a1)), (2, .fn 24 [.ptr 1000000 0]), (6, .mpd G), (7, .d (D.sl 1 p)), (10, .d (D.int .i64 w406)), (11, .ptr 11 0), (44, .d (D.sl 5 a1)), (45, .d (D.int .i64 w2)), (46, .d (D.int .i64 w406)), (59, .d (D.sl 1 w407)), (60, .d (D.int .i64 w408)), (61, .d (D.int .i64 w409)), (78, .d (D.bool w410))], [(11, .box [.d w411, .d w412, .d w413, .d w414, .d w415]), (1000000, .box [.d (D.bool w416)])]⟩) (fun w2 w417 w418 w419 => k .normal ⟨81, [(0, .d (D.int .i64 a0)), (1, .d (D.sl 5 a1)), (2, .fn 24 [.ptr 1000000 0]), (6, .mpd G), (7, .d (D.sl 1 p)), (44, .d (D.sl 5 a1)), (45, .d (D.int .i64 w2)), (46, .d (D.int .i64 w417)), (47, .d (D.bool w418))], [(1000000, .box [.d (D.bool w419)])]⟩) := by
  rw [occupancy_visit_s1_c0_eq]
  unfold occupancy_visit_s1_p18
  exact (occupancy_visit_s1_p1_eq n a0 a1 G p b0_0 (seqK (occupancy_visit_s1_C n) n occupancy_visit_s1_c17 k)).trans (occupancy_visit_s1_p1_congr n a0 a1 G p b0_0 (fun w2 => occupancy_visit_s1_p17_eq n a0 a1 G p w2 b0_0 k))
def occupancy_visit_s1_Ko : AV → List (Nat × Ob) → Option (Bool) := fun av H => (look H 1000000).bind fun o0 => match av, o0 with
  | .tup [], .box [.d (D.bool r0)] => some r0
  | _, _ => none
theorem occupancy_visit_s1_vfo (n : Nat) (a0 : Int) (a1 : List (List D)) (b0_0 : Bool) : (visPre a1 fun G p => vexec (occupancy_visit_s1_C n) n occupancy_visit_s1_c0 ⟨81, [(0, .d (D.int .i64 a0)), (1, .d (D.sl 5 a1)), (2, .fn 24 [.ptr 1000000 0]), (6, .mpd G), (7, .d (D.sl 1 p))], [(1000000, .box [.d (D.bool b0_0)])]⟩ (fnK occupancy_visit_s1_tt Try.f23 occupancy_visit_s1_Ko)) = occupancy_visit_s1 n a0 a1 b0_0 some := by
  unfold occupancy_visit_s1
  congr 1
  funext G p
  exact (occupancy_visit_s1_p18_eq n a0 a1 G p b0_0 (fnK occupancy_visit_s1_tt Try.f23 occupancy_visit_s1_Ko)).trans (by kernel_rfl)
def occupancy_visit_s1_s (n : Nat) : Entry := fun _ site g avs hl k => match avs with
  | [c0, c1, c2] => prI g .i64 c0 fun a0 => prS g 5 c1 fun a1 => prF 24 c2 fun m4 => (match m4 with
    | [y4_0] => prP hl y4_0 fun l0 bl0 => (match bl0 with
    | [xl0_0] => prB g xl0_0 fun b0_0 => 
    bif newsOk hl [(1000000, l0)] [] then gb g (occupancy_visit_s1 n a0 a1 b0_0 some) false fun r => k ⟨.tup [], [(l0, some (.box [.d (D.bool r)]))], [l0]⟩ else none
    | _ => none)
    | _ => none)
  | _ => none
theorem occupancy_visit_s1_so (n : Nat) : EntryOK Try.prog 23 (occupancy_visit_s1_s n) := by
  intro R site g avs hl k r h
  unfold occupancy_visit_s1_s at h
  split at h
  rotate_left
  · cases h
  replace h := prI_some h
  obtain ⟨a0, h, le0⟩ := h
  replace h := prS_some h
  obtain ⟨a1, h, le1⟩ := h
  replace h := prF_some h
  obtain ⟨m4, h, em4⟩ := h
  subst em4
  split at h
  rotate_left
  · cases h
  replace h := prP_some h
  obtain ⟨l0, bl0, h, el0, hbl0⟩ := h
  subst el0
  split at h
  rotate_left
  · cases h
  replace h := prB_some h
  obtain ⟨b0_0, h, le2⟩ := h
  replace h := bif_some h
  obtain ⟨hc, h⟩ := h
  replace h := gb_some h
  obtain ⟨res, h, hr⟩ := h
  refine ⟨_, h, fun hg => callOK_shX (K := occupancy_visit_s1_Ko) (res := res) (fn := Try.f23) (by kernel_rfl) (by kernel_rfl) (by kernel_rfl) (ρ := [(1000000, l0)]) (ν := []) (avs' := [.d (D.int .i64 a0), .d (D.sl 5 a1), .fn 24 [.ptr 1000000 0]]) (H := [(1000000, .box [.d (D.bool b0_0)])]) (.cons (.data rfl (le0 hg)) (.cons (.data rfl (le1 hg)) (.cons (.own rfl rfl) (.nil)))) rfl rfl hc (⟨⟨by decide, _, _, hbl0, rfl, .box (.cons (.data rfl (le2 hg)) (.nil))⟩, trivial⟩) rfl rfl ?_ ?_⟩
  · exact fun β S w vs hO hA => vis_calls (occupancy_visit_s1_VC n) (by kernel_rfl) ((occupancy_visit_s1_vfo n a0 a1 b0_0).trans (hr hg)) hO hA
  · intro av H' hx
    unfold occupancy_visit_s1_Ko at hx
    replace hx := Option.bind_eq_some_iff.1 hx
    obtain ⟨o0, ho0, hx⟩ := hx
    split at hx
    rotate_left
    · cases hx
    injection hx with hx
    subst hx
    refine ⟨rfl, ?_, trivial, ⟨endOk_box rfl ho0 rfl, trivial⟩⟩
    simp only [List.cons_append, List.nil_append, outWr, ho0, Option.map_some, Option.map_none]
    rfl
end Go.Vx
/-
  occupancy_Free: the interpreter computes the pure function
-/
set_option linter.unusedVariables false
set_option linter.unusedSimpArgs false
set_option maxRecDepth 100000
namespace Go.Vx
open Go.Proofs
noncomputable def occupancy_Free_c0 : Code := bodyOf Try.f11
def occupancy_Free_tt : TT := [(4, ⟨.bool, 1, 1, [.bool false], [.bool false], [], none⟩)]
theorem occupancy_Free_tt_eq : mkTT Try.prog [4] = occupancy_Free_tt := by kernel_rfl
def occupancy_Free_cfg : List (Nat × Cfg) := [(0, ⟨[0, 1], [], [], [], []⟩), (1, ⟨[0, 1, 9], [], [], [], []⟩), (2, ⟨[4], [], [], [], []⟩), (3, ⟨[0, 1, 5], [(5, 5)], [], [], []⟩), (4, ⟨[5], [(5, 5)], [], [], []⟩), (5, ⟨[4], [], [], [], []⟩)]
def occupancy_Free_C (n : Nat) : VC := ⟨specOf [(19, occupancy_Valid_e n), (23, occupancy_visit_s1_s n)], occupancy_Free_tt, occupancy_Free_cfg⟩
theorem occupancy_Free_ents (n : Nat) : EntsOK Try.prog [(19, occupancy_Valid_e n), (23, occupancy_visit_s1_s n)] := ⟨occupancy_Valid_ok n, ⟨occupancy_visit_s1_so n, trivial⟩⟩
theorem occupancy_Free_VC (n : Nat) : VCOk Try.prog (occupancy_Free_C n) := ⟨specOf_ok (occupancy_Free_ents n), (occupancy_Free_tt_eq ▸ mkTT_ok _ : TOk Try.prog occupancy_Free_tt), by kernel_rfl⟩
theorem occupancy_Free_p1_congr {R : Type} (n : Nat) (a0 : Int) (a1 : List (List D)) {k0 kk0 : Bool → Option R} (hq0 : ∀ x0, k0 x0 = kk0 x0) : occupancy_Free_p1 n a0 a1 k0 = occupancy_Free_p1 n a0 a1 kk0 := by
  obtain rfl : k0 = kk0 := funext fun x0 => hq0 x0
  rfl
theorem occupancy_Free_p1_eq {R : Type} (n : Nat) (a0 : Int) (a1 : List (List D)) (k : Exit → St → Option R) : vexec (occupancy_Free_C n) n occupancy_Free_c0 ⟨15, [(0, .d (D.int .i64 a0)), (1, .d (D.sl 5 a1))], []⟩ k = occupancy_Free_p1 n a0 a1 (fun z3 => k .ret ⟨15, [(4, .d (D.bool z3))], []⟩) := by kernel_rfl
theorem occupancy_Free_vfn {R : Type} (n : Nat) (a0 : Int) (a1 : List (List D)) (K : AV → Option R) : vfn (occupancy_Free_C n) n Try.f11 [.d (D.int .i64 a0), .d (D.sl 5 a1)] [] (retF [[0]] K) = occupancy_Free n a0 a1 (fun r0 => K (.d (D.bool r0))) :=
  (show vfn (occupancy_Free_C n) n Try.f11 [.d (D.int .i64 a0), .d (D.sl 5 a1)] [] (retF [[0]] K) = vexec (occupancy_Free_C n) n occupancy_Free_c0 ⟨15, [(0, .d (D.int .i64 a0)), (1, .d (D.sl 5 a1))], []⟩ (retX occupancy_Free_tt [.tmp 4] (retF [[0]] K)) from vfn_at (by kernel_rfl) (by kernel_rfl) rfl (by kernel_rfl) rfl (by kernel_rfl) rfl).trans ((occupancy_Free_p1_eq n a0 a1 (retX occupancy_Free_tt [.tmp 4] (retF [[0]] K))).trans (by kernel_rfl))
def occupancy_Free_K : AV → Option (Bool) := fun av => match av with
  | .d (D.bool r0) => some r0
  | _ => none
def occupancy_Free_e (n : Nat) : Entry := fun _ _ g avs _ k => match avs with
  | [c0, c1] => prI g .i64 c0 fun a0 => prS g 5 c1 fun a1 => 
    gb g (occupancy_Free n a0 a1 some) false fun r => k ⟨.d (D.bool r), [], []⟩
  | _ => none
theorem occupancy_Free_ok (n : Nat) : EntryOK Try.prog 11 (occupancy_Free_e n) := by
  intro R site g avs hl k r h
  unfold occupancy_Free_e at h
  split at h
  rotate_left
  · cases h
  replace h := prI_some h
  obtain ⟨a0, h, le0⟩ := h
  replace h := prS_some h
  obtain ⟨a1, h, le1⟩ := h
  replace h := gb_some h
  obtain ⟨res, h, hr⟩ := h
  refine ⟨_, h, fun hg => CallOK.conv (avs' := [.d (D.int .i64 a0), .d (D.sl 5 a1)]) (.cons (le0 hg) (.cons (le1 hg) (.nil))) (callOK_fix (K := occupancy_Free_K) (res := res) (occupancy_Free_VC n) (fn := Try.f11) (n := n) (by kernel_rfl) (by kernel_rfl) (by kernel_rfl) (ss := [[0]]) rfl ?_ ?_)⟩
  · exact (occupancy_Free_vfn n a0 a1 occupancy_Free_K).trans (hr hg)
  · intro x hx
    unfold occupancy_Free_K at hx
    split at hx
    · injection hx with hx; subst hx; rfl
    · cases hx
end Go.Vx
/-
  keep_Same_int: the interpreter computes the pure function
-/
set_option linter.unusedVariables false
set_option linter.unusedSimpArgs false
set_option maxRecDepth 100000
namespace Go.Vx
open Go.Proofs
noncomputable def keep_Same_int_c0 : Code := bodyOf Try.f14
noncomputable def keep_Same_int_c1 : Code := cL (bodyOf Try.f14)
noncomputable def keep_Same_int_c2 : Code := cL (cR (bodyOf Try.f14))
noncomputable def keep_Same_int_c3 : Code := cL (cL (cR (cR (bodyOf Try.f14))))
noncomputable def keep_Same_int_c4 : Code := cB (cB (cR (cL (cR (cR (bodyOf Try.f14))))))
noncomputable def keep_Same_int_c5 : Code := cB (cR (cL (cR (cR (bodyOf Try.f14)))))
noncomputable def keep_Same_int_c6 : Code := cR (cL (cR (cR (bodyOf Try.f14))))
noncomputable def keep_Same_int_c7 : Code := cL (cR (cR (bodyOf Try.f14)))
noncomputable def keep_Same_int_c8 : Code := cR (cR (cR (bodyOf Try.f14)))
noncomputable def keep_Same_int_c9 : Code := cR (cR (bodyOf Try.f14))
noncomputable def keep_Same_int_c10 : Code := cR (bodyOf Try.f14)
theorem keep_Same_int_c5_eq : keep_Same_int_c5 = .loop keep_Same_int_c4 := by kernel_rfl
theorem keep_Same_int_c6_eq : keep_Same_int_c6 = .block 0 keep_Same_int_c5 := by kernel_rfl
theorem keep_Same_int_c7_eq : keep_Same_int_c7 = .seq keep_Same_int_c3 keep_Same_int_c6 := by kernel_rfl
theorem keep_Same_int_c9_eq : keep_Same_int_c9 = .seq keep_Same_int_c7 keep_Same_int_c8 := by kernel_rfl
theorem keep_Same_int_c10_eq : keep_Same_int_c10 = .seq keep_Same_int_c2 keep_Same_int_c9 := by kernel_rfl
theorem keep_Same_int_c0_eq : keep_Same_int_c0 = .seq keep_Same_int_c1 keep_Same_int_c10 := by kernel_rfl
def keep_Same_int_tt : TT := [(3, ⟨.int .i64, 1, 8, [.int .i64 0], [.int .i64 0], [], none⟩), (22, ⟨.sl 3 1, 1, 24, [.slice none 0 0], [.sl 1 []], [], none⟩)]
theorem keep_Same_int_tt_eq : mkTT Try.prog [3, 22] = keep_Same_int_tt := by kernel_rfl
def keep_Same_int_cfg : List (Nat × Cfg) := [(0, ⟨[0, 1], [], [], [], []⟩), (1, ⟨[0, 1, 10], [], [], [], []⟩), (2, ⟨[4], [], [], [], []⟩), (3, ⟨[0, 1, 12, 13], [], [], [], []⟩), (4, ⟨[0, 1, 12, 13, 14], [], [], [], []⟩), (5, ⟨[0, 1, 5, 12, 13], [], [], [], []⟩), (6, ⟨[0, 1, 12, 13, 24], [], [], [], []⟩), (7, ⟨[4], [], [], [], []⟩), (8, ⟨[0, 1, 12, 13], [], [], [], []⟩), (9, ⟨[4], [], [], [], []⟩)]
def keep_Same_int_C (n : Nat) : VC := ⟨specOf [], keep_Same_int_tt, keep_Same_int_cfg⟩
theorem keep_Same_int_ents (n : Nat) : EntsOK Try.prog [] := trivial
theorem keep_Same_int_VC (n : Nat) : VCOk Try.prog (keep_Same_int_C n) := ⟨specOf_ok (keep_Same_int_ents n), (keep_Same_int_tt_eq ▸ mkTT_ok _ : TOk Try.prog keep_Same_int_tt), by kernel_rfl⟩
theorem keep_Same_int_p1_congr {R : Type} (n : Nat) (a0 : List (List D)) (a1 : List (List D)) {k0 kk0 : Option R} (hq0 : k0 = kk0) : keep_Same_int_p1 n a0 a1 k0 = keep_Same_int_p1 n a0 a1 kk0 := by
  obtain rfl : k0 = kk0 := hq0
  rfl
theorem keep_Same_int_p2_congr {R : Type} (n : Nat) (a0 : List (List D)) (a1 : List (List D)) {k0 kk0 : Option R} {k1 kk1 : Bool → Option R} (hq0 : k0 = kk0) (hq1 : ∀ x0, k1 x0 = kk1 x0) : keep_Same_int_p2 n a0 a1 k0 k1 = keep_Same_int_p2 n a0 a1 kk0 kk1 := by
  obtain rfl : k0 = kk0 := hq0
  obtain rfl : k1 = kk1 := funext fun x0 => hq1 x0
  rfl
theorem keep_Same_int_p3_congr {R : Type} (n : Nat) (a0 : List (List D)) (a1 : List (List D)) (w2 : Bool) {k0 kk0 : Int → Option R} (hq0 : ∀ x0, k0 x0 = kk0 x0) : keep_Same_int_p3 n a0 a1 w2 k0 = keep_Same_int_p3 n a0 a1 w2 kk0 := by
  obtain rfl : k0 = kk0 := funext fun x0 => hq0 x0
  rfl
theorem keep_Same_int_p4_congr {R : Type} (n : Nat) (a0 : List (List D)) (a1 : List (List D)) (w4 : Int) (h8 : Int) {k0 kk0 : Option R} {k1 kk1 : Int → Option R} {k2 kk2 : Bool → Option R} (hq0 : k0 = kk0) (hq1 : ∀ x0, k1 x0 = kk1 x0) (hq2 : ∀ x0, k2 x0 = kk2 x0) : keep_Same_int_p4 n a0 a1 w4 h8 k0 k1 k2 = keep_Same_int_p4 n a0 a1 w4 h8 kk0 kk1 kk2 := by
  obtain rfl : k0 = kk0 := hq0
  obtain rfl : k1 = kk1 := funext fun x0 => hq1 x0
  obtain rfl : k2 = kk2 := funext fun x0 => hq2 x0
  rfl
theorem keep_Same_int_p5_congr {R : Type} (n : Nat) (a0 : List (List D)) (a1 : List (List D)) (w4 : Int) {k0 kk0 : Option R} {k1 kk1 : Int → Bool → Option R} (hq0 : k0 = kk0) (hq1 : ∀ x0 x1, k1 x0 x1 = kk1 x0 x1) : keep_Same_int_p5 n a0 a1 w4 k0 k1 = keep_Same_int_p5 n a0 a1 w4 kk0 kk1 := by
  obtain rfl : k0 = kk0 := hq0
  obtain rfl : k1 = kk1 := funext fun x0 => funext fun x1 => hq1 x0 x1
  rfl
theorem keep_Same_int_p6_congr {R : Type} (n : Nat) (a0 : List (List D)) (a1 : List (List D)) (w4 : Int) {k0 kk0 : Option R} {k1 kk1 : Int → Bool → Option R} (hq0 : k0 = kk0) (hq1 : ∀ x0 x1, k1 x0 x1 = kk1 x0 x1) : keep_Same_int_p6 n a0 a1 w4 k0 k1 = keep_Same_int_p6 n a0 a1 w4 kk0 kk1 := by
  obtain rfl : k0 = kk0 := hq0
  obtain rfl : k1 = kk1 := funext fun x0 => funext fun x1 => hq1 x0 x1
  rfl
theorem keep_Same_int_p7_congr {R : Type} (n : Nat) (a0 : List (List D)) (a1 : List (List D)) (w2 : Bool) {k0 kk0 : Option R} {k1 kk1 : Int → Int → Bool → Option R} (hq0 : k0 = kk0) (hq1 : ∀ x0 x1 x2, k1 x0 x1 x2 = kk1 x0 x1 x2) : keep_Same_int_p7 n a0 a1 w2 k0 k1 = keep_Same_int_p7 n a0 a1 w2 kk0 kk1 := by
  obtain rfl : k0 = kk0 := hq0
  obtain rfl : k1 = kk1 := funext fun x0 => funext fun x1 => funext fun x2 => hq1 x0 x1 x2
  rfl
theorem keep_Same_int_p8_congr {R : Type} (n : Nat) (a0 : List (List D)) (a1 : List (List D)) (w31 : Int) (w32 : Int) (w33 : Bool) {k0 kk0 : Option R} (hq0 : k0 = kk0) : keep_Same_int_p8 n a0 a1 w31 w32 w33 k0 = keep_Same_int_p8 n a0 a1 w31 w32 w33 kk0 := by
  obtain rfl : k0 = kk0 := hq0
  rfl
theorem keep_Same_int_p9_congr {R : Type} (n : Nat) (a0 : List (List D)) (a1 : List (List D)) (w2 : Bool) {k0 kk0 : Bool → Option R} (hq0 : ∀ x0, k0 x0 = kk0 x0) : keep_Same_int_p9 n a0 a1 w2 k0 = keep_Same_int_p9 n a0 a1 w2 kk0 := by
  obtain rfl : k0 = kk0 := funext fun x0 => hq0 x0
  rfl
theorem keep_Same_int_p10_congr {R : Type} (n : Nat) (a0 : List (List D)) (a1 : List (List D)) {k0 kk0 : Bool → Option R} (hq0 : ∀ x0, k0 x0 = kk0 x0) : keep_Same_int_p10 n a0 a1 k0 = keep_Same_int_p10 n a0 a1 kk0 := by
  obtain rfl : k0 = kk0 := funext fun x0 => hq0 x0
  rfl
theorem keep_Same_int_p11_congr {R : Type} (n : Nat) (a0 : List (List D)) (a1 : List (List D)) {k0 kk0 : Bool → Option R} (hq0 : ∀ x0, k0 x0 = kk0 x0) : keep_Same_int_p11 n a0 a1 k0 = keep_Same_int_p11 n a0 a1 kk0 := by
  obtain rfl : k0 = kk0 := funext fun x0 => hq0 x0
  rfl
theorem keep_Same_int_p1_eq {R : Type} (n : Nat) (a0 : List (List D)) (a1 : List (List D)) (k : Exit → St → Option R) : vexec (keep_Same_int_C n) n keep_Same_int_c1 ⟨26, [(0, .d (D.sl 1 a0)), (1, .d (D.sl 1 a1))], []⟩ k = keep_Same_int_p1 n a0 a1 (k .normal ⟨26, [(0, .d (D.sl 1 a0)), (1, .d (D.sl 1 a1))], []⟩) := by kernel_rfl
theorem keep_Same_int_p2_eq {R : Type} (n : Nat) (a0 : List (List D)) (a1 : List (List D)) (k : Exit → St → Option R) : vexec (keep_Same_int_C n) n keep_Same_int_c2 ⟨26, [(0, .d (D.sl 1 a0)), (1, .d (D.sl 1 a1))], []⟩ k = keep_Same_int_p2 n a0 a1 (k .ret ⟨26, [(4, .d (D.bool false))], []⟩) (fun z1 => k .normal ⟨26, [(0, .d (D.sl 1 a0)), (1, .d (D.sl 1 a1)), (10, .d (D.bool z1))], []⟩) := by kernel_rfl
theorem keep_Same_int_p3_eq {R : Type} (n : Nat) (a0 : List (List D)) (a1 : List (List D)) (w2 : Bool) (k : Exit → St → Option R) : vexec (keep_Same_int_C n) n keep_Same_int_c3 ⟨26, [(0, .d (D.sl 1 a0)), (1, .d (D.sl 1 a1)), (10, .d (D.bool w2))], []⟩ k = keep_Same_int_p3 n a0 a1 w2 (fun z3 => k .normal ⟨26, [(0, .d (D.sl 1 a0)), (1, .d (D.sl 1 a1)), (12, .d (D.int .i64 z3)), (13, .d (D.int .i64 (0 : Int)))], []⟩) := by kernel_rfl
theorem keep_Same_int_p4_eq {R : Type} (n : Nat) (a0 : List (List D)) (a1 : List (List D)) (w4 : Int) (h8 : Int) (k : Exit → St → Option R) : vexec (keep_Same_int_C n) n keep_Same_int_c4 ⟨26, [(0, .d (D.sl 1 a0)), (1, .d (D.sl 1 a1)), (12, .d (D.int .i64 w4)), (13, .d (D.int .i64 h8))], []⟩ k = keep_Same_int_p4 n a0 a1 w4 h8 (k .ret ⟨26, [(4, .d (D.bool false))], []⟩) (fun z23 => k .normal ⟨26, [(0, .d (D.sl 1 a0)), (1, .d (D.sl 1 a1)), (12, .d (D.int .i64 w4)), (13, .d (D.int .i64 z23))], []⟩) (fun z24 => k (.exit 0) ⟨26, [(0, .d (D.sl 1 a0)), (1, .d (D.sl 1 a1)), (12, .d (D.int .i64 w4)), (13, .d (D.int .i64 h8)), (14, .d (D.bool z24))], []⟩) := by kernel_rfl
theorem keep_Same_int_r5_eq {R : Type} (n : Nat) (a0 : List (List D)) (a1 : List (List D)) (w4 : Int) (k : Exit → St → Option R) : ∀ (m : Nat) (h8 : Int), loopN (vexec (keep_Same_int_C n) n keep_Same_int_c4) m ⟨26, [(0, .d (D.sl 1 a0)), (1, .d (D.sl 1 a1)), (12, .d (D.int .i64 w4)), (13, .d (D.int .i64 h8))], []⟩ k = keep_Same_int_r5 n a0 a1 w4 (k .ret ⟨26, [(4, .d (D.bool false))], []⟩) (fun h8 w26 => k (.exit 0) ⟨26, [(0, .d (D.sl 1 a0)), (1, .d (D.sl 1 a1)), (12, .d (D.int .i64 w4)), (13, .d (D.int .i64 h8)), (14, .d (D.bool w26))], []⟩) m h8
  | 0, _ => rfl
  | m + 1, h8 => (keep_Same_int_p4_eq n a0 a1 w4 h8 (loopK (vexec (keep_Same_int_C n) n keep_Same_int_c4) m k)).trans (keep_Same_int_p4_congr n a0 a1 w4 h8 (rfl) (fun w25 => keep_Same_int_r5_eq n a0 a1 w4 k m w25) (fun w26 => rfl))
theorem keep_Same_int_p5_eq {R : Type} (n : Nat) (a0 : List (List D)) (a1 : List (List D)) (w4 : Int) (k : Exit → St → Option R) : vexec (keep_Same_int_C n) n keep_Same_int_c5 ⟨26, [(0, .d (D.sl 1 a0)), (1, .d (D.sl 1 a1)), (12, .d (D.int .i64 w4)), (13, .d (D.int .i64 (0 : Int)))], []⟩ k = keep_Same_int_p5 n a0 a1 w4 (k .ret ⟨26, [(4, .d (D.bool false))], []⟩) (fun h8 w26 => k (.exit 0) ⟨26, [(0, .d (D.sl 1 a0)), (1, .d (D.sl 1 a1)), (12, .d (D.int .i64 w4)), (13, .d (D.int .i64 h8)), (14, .d (D.bool w26))], []⟩) := by
  rw [keep_Same_int_c5_eq]
  exact keep_Same_int_r5_eq n a0 a1 w4 k n (0 : Int)
theorem keep_Same_int_p6_eq {R : Type} (n : Nat) (a0 : List (List D)) (a1 : List (List D)) (w4 : Int) (k : Exit → St → Option R) : vexec (keep_Same_int_C n) n keep_Same_int_c6 ⟨26, [(0, .d (D.sl 1 a0)), (1, .d (D.sl 1 a1)), (12, .d (D.int .i64 w4)), (13, .d (D.int .i64 (0 : Int)))], []⟩ k = keep_Same_int_p6 n a0 a1 w4 (k .ret ⟨26, [(4, .d (D.bool false))], []⟩) (fun w27 w28 => k .normal ⟨26, [(0, .d (D.sl 1 a0)), (1, .d (D.sl 1 a1)), (12, .d (D.int .i64 w4)), (13, .d (D.int .i64 w27)), (14, .d (D.bool w28))], []⟩) := by
  rw [keep_Same_int_c6_eq]
  unfold keep_Same_int_p6
  exact (keep_Same_int_p5_eq n a0 a1 w4 (blockK 0 k)).trans (keep_Same_int_p5_congr n a0 a1 w4 (rfl) (fun w27 w28 => rfl))
theorem keep_Same_int_p7_eq {R : Type} (n : Nat) (a0 : List (List D)) (a1 : List (List D)) (w2 : Bool) (k : Exit → St → Option R) : vexec (keep_Same_int_C n) n keep_Same_int_c7 ⟨26, [(0, .d (D.sl 1 a0)), (1, .d (D.sl 1 a1)), (10, .d (D.bool w2))], []⟩ k = keep_Same_int_p7 n a0 a1 w2 (k .ret ⟨26, [(4, .d (D.bool false))], []⟩) (fun w4 w29 w30 => k .normal ⟨26, [(0, .d (D.sl 1 a0)), (1, .d (D.sl 1 a1)), (12, .d (D.int .i64 w4)), (13, .d (D.int .i64 w29)), (14, .d (D.bool w30))], []⟩) := by
  rw [keep_Same_int_c7_eq]
  unfold keep_Same_int_p7
  exact (keep_Same_int_p3_eq n a0 a1 w2 (seqK (keep_Same_int_C n) n keep_Same_int_c6 k)).trans (keep_Same_int_p3_congr n a0 a1 w2 (fun w4 => keep_Same_int_p6_eq n a0 a1 w4 k))
theorem keep_Same_int_p8_eq {R : Type} (n : Nat) (a0 : List (List D)) (a1 : List (List D)) (w31 : Int) (w32 : Int) (w33 : Bool) (k : Exit → St → Option R) : vexec (keep_Same_int_C n) n keep_Same_int_c8 ⟨26, [(0, .d (D.sl 1 a0)), (1, .d (D.sl 1 a1)), (12, .d (D.int .i64 w31)), (13, .d (D.int .i64 w32)), (14, .d (D.bool w33))], []⟩ k = keep_Same_int_p8 n a0 a1 w31 w32 w33 (k .ret ⟨26, [(4, .d (D.bool true))], []⟩) := by kernel_rfl
theorem keep_Same_int_p9_eq {R : Type} (n : Nat) (a0 : List (List D)) (a1 : List (List D)) (w2 : Bool) (k : Exit → St → Option R) : vexec (keep_Same_int_C n) n keep_Same_int_c9 ⟨26, [(0, .d (D.sl 1 a0)), (1, .d (D.sl 1 a1)), (10, .d (D.bool w2))], []⟩ k = keep_Same_int_p9 n a0 a1 w2 (fun z34 => k .ret ⟨26, [(4, .d (D.bool z34))], []⟩) := by
  rw [keep_Same_int_c9_eq]
  unfold keep_Same_int_p9
  exact (keep_Same_int_p7_eq n a0 a1 w2 (seqK (keep_Same_int_C n) n keep_Same_int_c8 k)).trans (keep_Same_int_p7_congr n a0 a1 w2 (rfl) (fun w31 w32 w33 => keep_Same_int_p8_eq n a0 a1 w31 w32 w33 k))
theorem keep_Same_int_p10_eq {R : Type} (n : Nat) (a0 : List (List D)) (a1 : List (List D)) (k : Exit → St → Option R) : vexec (keep_Same_int_C n) n keep_Same_int_c10 ⟨26, [(0, .d (D.sl 1 a0)), (1, .d (D.sl 1 a1))], []⟩ k = keep_Same_int_p10 n a0 a1 (fun z36 => k .ret ⟨26, [(4, .d (D.bool z36))], []⟩) := by
  rw [keep_Same_int_c10_eq]
  unfold keep_Same_int_p10
  exact (keep_Same_int_p2_eq n a0 a1 (seqK (keep_Same_int_C n) n keep_Same_int_c9 k)).trans (keep_Same_int_p2_congr n a0 a1 (rfl) (fun w2 => keep_Same_int_p9_eq n a0 a1 w2 k))
theorem keep_Same_int_p11_eq {R : Type} (n : Nat) (a0 : List (List D)) (a1 : List (List D)) (k : Exit → St → Option R) : vexec (keep_Same_int_C n) n keep_Same_int_c0 ⟨26, [(0, .d (D.sl 1 a0)), (1, .d (D.sl 1 a1))], []⟩ k = keep_Same_int_p11 n a0 a1 (fun w37 => k .ret ⟨26, [(4, .d (D.bool w37))], []⟩) := by
  rw [keep_Same_int_c0_eq]
  unfold keep_Same_int_p11
  exact (keep_Same_int_p1_eq n a0 a1 (seqK (keep_Same_int_C n) n keep_Same_int_c10 k)).trans (keep_Same_int_p1_congr n a0 a1 (keep_Same_int_p10_eq n a0 a1 k))
theorem keep_Same_int_vfn {R : Type} (n : Nat) (a0 : List (List D)) (a1 : List (List D)) (K : AV → Option R) : vfn (keep_Same_int_C n) n Try.f14 [.d (D.sl 1 a0), .d (D.sl 1 a1)] [] (retF [[0]] K) = keep_Same_int n a0 a1 (fun r0 => K (.d (D.bool r0))) :=
  (show vfn (keep_Same_int_C n) n Try.f14 [.d (D.sl 1 a0), .d (D.sl 1 a1)] [] (retF [[0]] K) = vexec (keep_Same_int_C n) n keep_Same_int_c0 ⟨26, [(0, .d (D.sl 1 a0)), (1, .d (D.sl 1 a1))], []⟩ (retX keep_Same_int_tt [.tmp 4] (retF [[0]] K)) from vfn_at (by kernel_rfl) (by kernel_rfl) rfl (by kernel_rfl) rfl (by kernel_rfl) rfl).trans ((keep_Same_int_p11_eq n a0 a1 (retX keep_Same_int_tt [.tmp 4] (retF [[0]] K))).trans (by kernel_rfl))
def keep_Same_int_K : AV → Option (Bool) := fun av => match av with
  | .d (D.bool r0) => some r0
  | _ => none
def keep_Same_int_e (n : Nat) : Entry := fun _ _ g avs _ k => match avs with
  | [c0, c1] => prS g 1 c0 fun a0 => prS g 1 c1 fun a1 => 
    gb g (keep_Same_int n a0 a1 some) false fun r => k ⟨.d (D.bool r), [], []⟩
  | _ => none
theorem keep_Same_int_ok (n : Nat) : EntryOK Try.prog 14 (keep_Same_int_e n) := by
  intro R site g avs hl k r h
  unfold keep_Same_int_e at h
  split at h
  rotate_left
  · cases h
  replace h := prS_some h
  obtain ⟨a0, h, le0⟩ := h
  replace h := prS_some h
  obtain ⟨a1, h, le1⟩ := h
  replace h := gb_some h
  obtain ⟨res, h, hr⟩ := h
  refine ⟨_, h, fun hg => CallOK.conv (avs' := [.d (D.sl 1 a0), .d (D.sl 1 a1)]) (.cons (le0 hg) (.cons (le1 hg) (.nil))) (callOK_fix (K := keep_Same_int_K) (res := res) (keep_Same_int_VC n) (fn := Try.f14) (n := n) (by kernel_rfl) (by kernel_rfl) (by kernel_rfl) (ss := [[0]]) rfl ?_ ?_)⟩
  · exact (keep_Same_int_vfn n a0 a1 keep_Same_int_K).trans (hr hg)
  · intro x hx
    unfold keep_Same_int_K at hx
    split at hx
    · injection hx with hx; subst hx; rfl
    · cases hx
end Go.Vx
/-
  law19_awake: the interpreter computes the pure function
-/
set_option linter.unusedVariables false
set_option linter.unusedSimpArgs false
set_option maxRecDepth 100000
namespace Go.Vx
open Go.Proofs
noncomputable def law19_awake_c0 : Code := bodyOf Try.f10
def law19_awake_tt : TT := [(3, ⟨.int .i64, 1, 8, [.int .i64 0], [.int .i64 0], [], none⟩), (22, ⟨.sl 3 1, 1, 24, [.slice none 0 0], [.sl 1 []], [], none⟩), (24, ⟨.sl 31 5, 1, 24, [.slice none 0 0], [.sl 5 []], [], none⟩), (31, ⟨.struct, 5, 40, [.int .i64 0, .int .i64 0, .int .i64 0, .int .i64 0, .int .i64 0], [.int .i64 0, .int .i64 0, .int .i64 0, .int .i64 0, .int .i64 0], [(0, 3), (1, 3), (2, 3), (3, 3), (4, 3)], some [.int .i64, .int .i64, .int .i64, .int .i64, .int .i64]⟩)]
theorem law19_awake_tt_eq : mkTT Try.prog [3, 22, 24, 31] = law19_awake_tt := by kernel_rfl
def law19_awake_cfg : List (Nat × Cfg) := [(0, ⟨[], [], [], [], []⟩), (1, ⟨[1], [], [], [], [3]⟩), (2, ⟨[0], [], [], [], []⟩)]
def law19_awake_C (n : Nat) : VC := ⟨specOf [(11, occupancy_Free_e n), (9, occupancy_At_e n), (14, keep_Same_int_e n)], law19_awake_tt, law19_awake_cfg⟩
theorem law19_awake_ents (n : Nat) : EntsOK Try.prog [(11, occupancy_Free_e n), (9, occupancy_At_e n), (14, keep_Same_int_e n)] := ⟨occupancy_Free_ok n, ⟨occupancy_At_ok n, ⟨keep_Same_int_ok n, trivial⟩⟩⟩
theorem law19_awake_VC (n : Nat) : VCOk Try.prog (law19_awake_C n) := ⟨specOf_ok (law19_awake_ents n), (law19_awake_tt_eq ▸ mkTT_ok _ : TOk Try.prog law19_awake_tt), by kernel_rfl⟩
theorem law19_awake_p1_congr {R : Type} (n : Nat)  {k0 kk0 : Bool → Option R} (hq0 : ∀ x0, k0 x0 = kk0 x0) : law19_awake_p1 n  k0 = law19_awake_p1 n  kk0 := by
  obtain rfl : k0 = kk0 := funext fun x0 => hq0 x0
  rfl
theorem law19_awake_p1_eq {R : Type} (n : Nat)  (k : Exit → St → Option R) : vexec (law19_awake_C n) n law19_awake_c0 ⟨12, [], []⟩ k = law19_awake_p1 n  (fun z4 => k .ret ⟨12, [(0, .d (D.bool z4))], []⟩) := by kernel_rfl
theorem law19_awake_vfn {R : Type} (n : Nat)  (K : AV → Option R) : vfn (law19_awake_C n) n Try.f10 [] [] (retF [[0]] K) = law19_awake n  (fun r0 => K (.d (D.bool r0))) :=
  (show vfn (law19_awake_C n) n Try.f10 [] [] (retF [[0]] K) = vexec (law19_awake_C n) n law19_awake_c0 ⟨12, [], []⟩ (retX law19_awake_tt [.tmp 0] (retF [[0]] K)) from vfn_at (by kernel_rfl) (by kernel_rfl) rfl (by kernel_rfl) rfl (by kernel_rfl) rfl).trans ((law19_awake_p1_eq n  (retX law19_awake_tt [.tmp 0] (retF [[0]] K))).trans (by kernel_rfl))
def law19_awake_K : AV → Option (Bool) := fun av => match av with
  | .d (D.bool r0) => some r0
  | _ => none
def law19_awake_e (n : Nat) : Entry := fun _ _ g avs _ k => match avs with
  | [] => 
    gb g (law19_awake n  some) false fun r => k ⟨.d (D.bool r), [], []⟩
  | _ => none
theorem law19_awake_ok (n : Nat) : EntryOK Try.prog 10 (law19_awake_e n) := by
  intro R site g avs hl k r h
  unfold law19_awake_e at h
  split at h
  rotate_left
  · cases h
  replace h := gb_some h
  obtain ⟨res, h, hr⟩ := h
  refine ⟨_, h, fun hg => CallOK.conv (avs' := []) (.nil) (callOK_fix (K := law19_awake_K) (res := res) (law19_awake_VC n) (fn := Try.f10) (n := n) (by kernel_rfl) (by kernel_rfl) (by kernel_rfl) (ss := [[0]]) rfl ?_ ?_)⟩
  · exact (law19_awake_vfn n  law19_awake_K).trans (hr hg)
  · intro x hx
    unfold law19_awake_K at hx
    split at hx
    · injection hx with hx; subst hx; rfl
    · cases hx
end Go.Vx
/-
  law19_OccupancyFreeMeansOne: the interpreter computes the pure function
-/
set_option linter.unusedVariables false
set_option linter.unusedSimpArgs false
set_option maxRecDepth 100000
namespace Go.Vx
open Go.Proofs
noncomputable def law19_OccupancyFreeMeansOne_c0 : Code := bodyOf Try.f3
def law19_OccupancyFreeMeansOne_tt : TT := [(3, ⟨.int .i64, 1, 8, [.int .i64 0], [.int .i64 0], [], none⟩), (22, ⟨.sl 3 1, 1, 24, [.slice none 0 0], [.sl 1 []], [], none⟩)]
theorem law19_OccupancyFreeMeansOne_tt_eq : mkTT Try.prog [3, 22] = law19_OccupancyFreeMeansOne_tt := by kernel_rfl
def law19_OccupancyFreeMeansOne_cfg : List (Nat × Cfg) := [(0, ⟨[0, 1, 2, 3], [], [], [], []⟩), (1, ⟨[0, 1, 2, 3], [], [], [], []⟩), (2, ⟨[0, 2, 3, 9], [], [], [], []⟩), (3, ⟨[0, 9, 10], [], [], [], []⟩), (4, ⟨[8], [], [], [], []⟩)]
def law19_OccupancyFreeMeansOne_C (n : Nat) : VC := ⟨specOf [(7, keep_Pick_e n), (8, law19_some_e n), (9, occupancy_At_e n), (10, law19_awake_e n), (11, occupancy_Free_e n)], law19_OccupancyFreeMeansOne_tt, law19_OccupancyFreeMeansOne_cfg⟩
theorem law19_OccupancyFreeMeansOne_ents (n : Nat) : EntsOK Try.prog [(7, keep_Pick_e n), (8, law19_some_e n), (9, occupancy_At_e n), (10, law19_awake_e n), (11, occupancy_Free_e n)] := ⟨keep_Pick_ok n, ⟨law19_some_ok n, ⟨occupancy_At_ok n, ⟨law19_awake_ok n, ⟨occupancy_Free_ok n, trivial⟩⟩⟩⟩⟩
theorem law19_OccupancyFreeMeansOne_VC (n : Nat) : VCOk Try.prog (law19_OccupancyFreeMeansOne_C n) := ⟨specOf_ok (law19_OccupancyFreeMeansOne_ents n), (law19_OccupancyFreeMeansOne_tt_eq ▸ mkTT_ok _ : TOk Try.prog law19_OccupancyFreeMeansOne_tt), by kernel_rfl⟩
theorem law19_OccupancyFreeMeansOne_p1_congr {R : Type} (n : Nat) (a0 : Int) (a1 : List (List D)) (a2 : Int) (a3 : Int) {k0 kk0 : Bool → Option R} (hq0 : ∀ x0, k0 x0 = kk0 x0) : law19_OccupancyFreeMeansOne_p1 n a0 a1 a2 a3 k0 = law19_OccupancyFreeMeansOne_p1 n a0 a1 a2 a3 kk0 := by
  obtain rfl : k0 = kk0 := funext fun x0 => hq0 x0
  rfl
theorem law19_OccupancyFreeMeansOne_p1_eq {R : Type} (n : Nat) (a0 : Int) (a1 : List (List D)) (a2 : Int) (a3 : Int) (k : Exit → St → Option R) : vexec (law19_OccupancyFreeMeansOne_C n) n law19_OccupancyFreeMeansOne_c0 ⟨34, [(0, .d (D.int .i64 a0)), (1, .d (D.sl 1 a1)), (2, .d (D.int .i64 a2)), (3, .d (D.int .i64 a3))], []⟩ k = law19_OccupancyFreeMeansOne_p1 n a0 a1 a2 a3 (fun z7 => k .ret ⟨34, [(8, .d (D.bool z7))], []⟩) := by kernel_rfl
theorem law19_OccupancyFreeMeansOne_vfn {R : Type} (n : Nat) (a0 : Int) (a1 : List (List D)) (a2 : Int) (a3 : Int) (K : AV → Option R) : vfn (law19_OccupancyFreeMeansOne_C n) n Try.f3 [.d (D.int .i64 a0), .d (D.sl 1 a1), .d (D.int .i64 a2), .d (D.int .i64 a3)] [] (retF [[0]] K) = law19_OccupancyFreeMeansOne n a0 a1 a2 a3 (fun r0 => K (.d (D.bool r0))) :=
  (show vfn (law19_OccupancyFreeMeansOne_C n) n Try.f3 [.d (D.int .i64 a0), .d (D.sl 1 a1), .d (D.int .i64 a2), .d (D.int .i64 a3)] [] (retF [[0]] K) = vexec (law19_OccupancyFreeMeansOne_C n) n law19_OccupancyFreeMeansOne_c0 ⟨34, [(0, .d (D.int .i64 a0)), (1, .d (D.sl 1 a1)), (2, .d (D.int .i64 a2)), (3, .d (D.int .i64 a3))], []⟩ (retX law19_OccupancyFreeMeansOne_tt [.tmp 8] (retF [[0]] K)) from vfn_at (by kernel_rfl) (by kernel_rfl) rfl (by kernel_rfl) rfl (by kernel_rfl) rfl).trans ((law19_OccupancyFreeMeansOne_p1_eq n a0 a1 a2 a3 (retX law19_OccupancyFreeMeansOne_tt [.tmp 8] (retF [[0]] K))).trans (by kernel_rfl))
def law19_OccupancyFreeMeansOne_K : AV → Option (Bool) := fun av => match av with
  | .d (D.bool r0) => some r0
  | _ => none
def law19_OccupancyFreeMeansOne_e (n : Nat) : Entry := fun _ _ g avs _ k => match avs with
  | [c0, c1, c2, c3] => prI g .i64 c0 fun a0 => prS g 1 c1 fun a1 => prI g .i64 c2 fun a2 => prI g .i64 c3 fun a3 => 
    gb g (law19_OccupancyFreeMeansOne n a0 a1 a2 a3 some) false fun r => k ⟨.d (D.bool r), [], []⟩
  | _ => none
theorem law19_OccupancyFreeMeansOne_ok (n : Nat) : EntryOK Try.prog 3 (law19_OccupancyFreeMeansOne_e n) := by
  intro R site g avs hl k r h
  unfold law19_OccupancyFreeMeansOne_e at h
  split at h
  rotate_left
  · cases h
  replace h := prI_some h
  obtain ⟨a0, h, le0⟩ := h
  replace h := prS_some h
  obtain ⟨a1, h, le1⟩ := h
  replace h := prI_some h
  obtain ⟨a2, h, le2⟩ := h
  replace h := prI_some h
  obtain ⟨a3, h, le3⟩ := h
  replace h := gb_some h
  obtain ⟨res, h, hr⟩ := h
  refine ⟨_, h, fun hg => CallOK.conv (avs' := [.d (D.int .i64 a0), .d (D.sl 1 a1), .d (D.int .i64 a2), .d (D.int .i64 a3)]) (.cons (le0 hg) (.cons (le1 hg) (.cons (le2 hg) (.cons (le3 hg) (.nil))))) (callOK_fix (K := law19_OccupancyFreeMeansOne_K) (res := res) (law19_OccupancyFreeMeansOne_VC n) (fn := Try.f3) (n := n) (by kernel_rfl) (by kernel_rfl) (by kernel_rfl) (ss := [[0]]) rfl ?_ ?_)⟩
  · exact (law19_OccupancyFreeMeansOne_vfn n a0 a1 a2 a3 law19_OccupancyFreeMeansOne_K).trans (hr hg)
  · intro x hx
    unfold law19_OccupancyFreeMeansOne_K at hx
    split at hx
    · injection hx with hx; subst hx; rfl
    · cases hx
end Go.Vx
