/- Part of a proof: texts Vpoccupancy visit s1 Vpoccupancy Free Vparith Mod TryShelf Vpslices Sort int int Vpslices Compact int int Vpoccupancy At Vpkeep Same int Vplaw19 OccupancyExamples. No conditions of their own. -/
import Derived.Test.YtnhpkkecnfooaaaProg
import Derived.Test.YtnhpkkecnfooaaaEVC
import Derived.Test.YtnhpkkecnfooaaaEFA
import Derived.Test.YtnhpkkecnfooaaaEPA
import Derived.Shelf.Small.Bits
import Derived.Shelf.Strconv.Itoa0
import Derived.Shelf.Sort.Plain
import Derived.Ground.Names2Prog
import Derived.Shelf.Slices.CompactI
import Derived.Shelf.Slices.SearchI
import Derived.Shelf.Slices.Cells
import Derived.Shelf.Slices.In.SortNone
/-
  occupancy_visit_s1: the interpreter computes the pure function
-/
set_option linter.unusedVariables false
set_option linter.unusedSimpArgs false
set_option maxRecDepth 100000
namespace Go.Vx
open Go.Proofs
noncomputable def occupancy_visit_s1_c0 : Code := cR (cR (cR (bodyOf Try.f23)))
noncomputable def occupancy_visit_s1_c1 : Code := cL (cR (cR (cR (bodyOf Try.f23))))
noncomputable def occupancy_visit_s1_c2 : Code := cL (cB (cB (cR (cR (cR (cR (bodyOf Try.f23)))))))
noncomputable def occupancy_visit_s1_c3 : Code := cL (cR (cB (cB (cR (cR (cR (cR (bodyOf Try.f23))))))))
noncomputable def occupancy_visit_s1_c4 : Code := cL (cB (cL (cR (cR (cB (cB (cR (cR (cR (cR (bodyOf Try.f23)))))))))))
noncomputable def occupancy_visit_s1_c5 : Code := cL (cR (cB (cL (cR (cR (cB (cB (cR (cR (cR (cR (bodyOf Try.f23))))))))))))
noncomputable def occupancy_visit_s1_c6 : Code := cB (cB (cR (cR (cB (cL (cR (cR (cB (cB (cR (cR (cR (cR (bodyOf Try.f23))))))))))))))
noncomputable def occupancy_visit_s1_c7 : Code := cB (cR (cR (cB (cL (cR (cR (cB (cB (cR (cR (cR (cR (bodyOf Try.f23)))))))))))))
noncomputable def occupancy_visit_s1_c8 : Code := cR (cR (cB (cL (cR (cR (cB (cB (cR (cR (cR (cR (bodyOf Try.f23))))))))))))
noncomputable def occupancy_visit_s1_c9 : Code := cR (cB (cL (cR (cR (cB (cB (cR (cR (cR (cR (bodyOf Try.f23)))))))))))
noncomputable def occupancy_visit_s1_c10 : Code := cB (cL (cR (cR (cB (cB (cR (cR (cR (cR (bodyOf Try.f23))))))))))
noncomputable def occupancy_visit_s1_c11 : Code := cL (cR (cR (cB (cB (cR (cR (cR (cR (bodyOf Try.f23)))))))))
noncomputable def occupancy_visit_s1_c12 : Code := cR (cR (cR (cB (cB (cR (cR (cR (cR (bodyOf Try.f23)))))))))
noncomputable def occupancy_visit_s1_c13 : Code := cR (cR (cB (cB (cR (cR (cR (cR (bodyOf Try.f23))))))))
noncomputable def occupancy_visit_s1_c14 : Code := cR (cB (cB (cR (cR (cR (cR (bodyOf Try.f23)))))))
noncomputable def occupancy_visit_s1_c15 : Code := cB (cB (cR (cR (cR (cR (bodyOf Try.f23))))))
noncomputable def occupancy_visit_s1_c16 : Code := cB (cR (cR (cR (cR (bodyOf Try.f23)))))
noncomputable def occupancy_visit_s1_c17 : Code := cR (cR (cR (cR (bodyOf Try.f23))))
theorem occupancy_visit_s1_c7_eq : occupancy_visit_s1_c7 = .loop occupancy_visit_s1_c6 := by kernel_rfl
theorem occupancy_visit_s1_c8_eq : occupancy_visit_s1_c8 = .block 4 occupancy_visit_s1_c7 := by kernel_rfl
theorem occupancy_visit_s1_c9_eq : occupancy_visit_s1_c9 = .seq occupancy_visit_s1_c5 occupancy_visit_s1_c8 := by kernel_rfl
theorem occupancy_visit_s1_c10_eq : occupancy_visit_s1_c10 = .seq occupancy_visit_s1_c4 occupancy_visit_s1_c9 := by kernel_rfl
theorem occupancy_visit_s1_c11_eq : occupancy_visit_s1_c11 = .block 3 occupancy_visit_s1_c10 := by kernel_rfl
theorem occupancy_visit_s1_c13_eq : occupancy_visit_s1_c13 = .seq occupancy_visit_s1_c11 occupancy_visit_s1_c12 := by kernel_rfl
theorem occupancy_visit_s1_c14_eq : occupancy_visit_s1_c14 = .seq occupancy_visit_s1_c3 occupancy_visit_s1_c13 := by kernel_rfl
theorem occupancy_visit_s1_c15_eq : occupancy_visit_s1_c15 = .seq occupancy_visit_s1_c2 occupancy_visit_s1_c14 := by kernel_rfl
theorem occupancy_visit_s1_c16_eq : occupancy_visit_s1_c16 = .loop occupancy_visit_s1_c15 := by kernel_rfl
theorem occupancy_visit_s1_c17_eq : occupancy_visit_s1_c17 = .block 2 occupancy_visit_s1_c16 := by kernel_rfl
theorem occupancy_visit_s1_c0_eq : occupancy_visit_s1_c0 = .seq occupancy_visit_s1_c1 occupancy_visit_s1_c17 := by kernel_rfl
def occupancy_visit_s1_tt : TT := [(3, ⟨.int .i64, 1, 8, [.int .i64 0], [.int .i64 0], [], none⟩), (22, ⟨.sl 3 1, 1, 24, [.slice none 0 0], [.sl 1 []], [], none⟩), (24, ⟨.sl 31 5, 1, 24, [.slice none 0 0], [.sl 5 []], [], none⟩), (31, ⟨.struct, 5, 40, [.int .i64 0, .int .i64 0, .int .i64 0, .int .i64 0, .int .i64 0], [.int .i64 0, .int .i64 0, .int .i64 0, .int .i64 0, .int .i64 0], [(0, 3), (1, 3), (2, 3), (3, 3), (4, 3)], some [.int .i64, .int .i64, .int .i64, .int .i64, .int .i64]⟩), (52, ⟨.mapI, 1, 8, [.map none], [], [], none⟩)]
theorem occupancy_visit_s1_tt_eq : mkTT Try.prog [3, 22, 24, 31, 52] = occupancy_visit_s1_tt := by kernel_rfl
def occupancy_visit_s1_cfg : List (Nat × Cfg) := [(0, ⟨[0, 1, 2, 6], [], [], [], []⟩), (1, ⟨[0, 1, 2, 6, 7], [], [], [], []⟩), (2, ⟨[0, 1, 2, 6, 7, 18, 19, 20], [], [], [], []⟩), (3, ⟨[0, 1, 2, 6, 7, 18, 19, 20, 21], [], [], [], []⟩), (4, ⟨[0, 1, 2, 6, 7, 8, 9, 18, 19, 20], [], [], [], []⟩), (5, ⟨[0, 1, 2, 6, 7, 8, 9, 18, 19, 20], [], [], [], []⟩), (6, ⟨[0, 1, 2, 6, 7, 18, 19, 20], [], [], [], []⟩), (7, ⟨[0, 1, 2, 6, 7, 18, 19, 20], [], [], [], []⟩), (8, ⟨[0, 1, 2, 6, 7, 44, 45, 46], [(1000000, 1000000)], [], [], []⟩), (9, ⟨[0, 1, 2, 6, 7, 44, 45, 46, 47], [(1000000, 1000000)], [], [], []⟩), (10, ⟨[0, 1, 2, 6, 7, 10, 11, 44, 45, 46], [(11, 11), (1000000, 1000000)], [], [], []⟩), (11, ⟨[0, 1, 2, 6, 7, 10, 11, 44, 45, 46, 59, 60, 61], [(11, 11), (1000000, 1000000)], [], [], []⟩), (12, ⟨[0, 1, 2, 6, 7, 10, 11, 44, 45, 46, 59, 60, 61, 62], [(11, 11), (1000000, 1000000)], [], [], []⟩), (13, ⟨[0, 1, 2, 6, 7, 10, 11, 13, 44, 45, 46, 59, 60, 61], [(11, 11), (1000000, 1000000)], [], [], []⟩), (14, ⟨[0, 1, 2, 6, 7, 10, 11, 44, 45, 46, 59, 60, 61, 78], [(11, 11), (1000000, 1000000)], [], [], []⟩), (15, ⟨[0, 1, 2, 6, 7, 10, 11, 44, 45, 46, 59, 60, 61], [(11, 11), (1000000, 1000000)], [], [], []⟩), (16, ⟨[0, 1, 2, 6, 7, 44, 45, 46], [(1000000, 1000000)], [], [], []⟩), (1000000014, ⟨[], [], [], [], []⟩)]
def occupancy_visit_s1_C (n : Nat) : VC := ⟨specOf [(32, occupancy_conflict_e n), (24, railplan_occupancy_Free_1_s1_s n)], occupancy_visit_s1_tt, occupancy_visit_s1_cfg⟩
theorem occupancy_visit_s1_ents (n : Nat) : EntsOK Try.prog [(32, occupancy_conflict_e n), (24, railplan_occupancy_Free_1_s1_s n)] := ⟨occupancy_conflict_ok n, ⟨railplan_occupancy_Free_1_s1_so n, trivial⟩⟩
theorem occupancy_visit_s1_VC (n : Nat) : VCOk Try.prog (occupancy_visit_s1_C n) := ⟨specOf_ok (occupancy_visit_s1_ents n), (occupancy_visit_s1_tt_eq ▸ mkTT_ok _ : TOk Try.prog occupancy_visit_s1_tt), by kernel_rfl⟩
theorem occupancy_visit_s1_p1_congr {R : Type} (n : Nat) (a0 : Int) (a1 : List (List D)) (G : Int → List (List D)) (p : List (List D)) (b0_0 : Bool) {k0 kk0 : Int → Option R} (hq0 : ∀ x0, k0 x0 = kk0 x0) : occupancy_visit_s1_p1 n a0 a1 G p b0_0 k0 = occupancy_visit_s1_p1 n a0 a1 G p b0_0 kk0 := by
  obtain rfl : k0 = kk0 := funext fun x0 => hq0 x0
  rfl
theorem occupancy_visit_s1_p2_congr {R : Type} (n : Nat) (a0 : Int) (a1 : List (List D)) (G : Int → List (List D)) (p : List (List D)) (w2 : Int) (h9 : Int) (h10 : Bool) {k0 kk0 : Bool → Option R} (hq0 : ∀ x0, k0 x0 = kk0 x0) : occupancy_visit_s1_p2 n a0 a1 G p w2 h9 h10 k0 = occupancy_visit_s1_p2 n a0 a1 G p w2 h9 h10 kk0 := by
  obtain rfl : k0 = kk0 := funext fun x0 => hq0 x0
  rfl
theorem occupancy_visit_s1_p3_congr {R : Type} (n : Nat) (a0 : Int) (a1 : List (List D)) (G : Int → List (List D)) (p : List (List D)) (w2 : Int) (h9 : Int) (w196 : Bool) (h10 : Bool) {k0 kk0 : Option R} {k1 kk1 : Option R} (hq0 : k0 = kk0) (hq1 : k1 = kk1) : occupancy_visit_s1_p3 n a0 a1 G p w2 h9 w196 h10 k0 k1 = occupancy_visit_s1_p3 n a0 a1 G p w2 h9 w196 h10 kk0 kk1 := by
  obtain rfl : k0 = kk0 := hq0
  obtain rfl : k1 = kk1 := hq1
  rfl
theorem occupancy_visit_s1_p4_congr {R : Type} (n : Nat) (a0 : Int) (a1 : List (List D)) (G : Int → List (List D)) (p : List (List D)) (w2 : Int) (h9 : Int) (w196 : Bool) (h10 : Bool) {k0 kk0 : D → D → D → D → D → Option R} (hq0 : ∀ x0 x1 x2 x3 x4, k0 x0 x1 x2 x3 x4 = kk0 x0 x1 x2 x3 x4) : occupancy_visit_s1_p4 n a0 a1 G p w2 h9 w196 h10 k0 = occupancy_visit_s1_p4 n a0 a1 G p w2 h9 w196 h10 kk0 := by
  obtain rfl : k0 = kk0 := funext fun x0 => funext fun x1 => funext fun x2 => funext fun x3 => funext fun x4 => hq0 x0 x1 x2 x3 x4
  rfl
theorem occupancy_visit_s1_p5_congr {R : Type} (n : Nat) (a0 : Int) (a1 : List (List D)) (G : Int → List (List D)) (p : List (List D)) (h9 : Int) (w2 : Int) (w203 : D) (w204 : D) (w205 : D) (w206 : D) (w207 : D) (h10 : Bool) {k0 kk0 : (List (List D)) → Int → Option R} (hq0 : ∀ x0 x1, k0 x0 x1 = kk0 x0 x1) : occupancy_visit_s1_p5 n a0 a1 G p h9 w2 w203 w204 w205 w206 w207 h10 k0 = occupancy_visit_s1_p5 n a0 a1 G p h9 w2 w203 w204 w205 w206 w207 h10 kk0 := by
  obtain rfl : k0 = kk0 := funext fun x0 => funext fun x1 => hq0 x0 x1
  rfl
theorem occupancy_visit_s1_p6_congr {R : Type} (n : Nat) (a0 : Int) (a1 : List (List D)) (G : Int → List (List D)) (p : List (List D)) (h9 : Int) (w2 : Int) (w215 : List (List D)) (w216 : Int) (h227 : Int) (w203 : D) (w204 : D) (w205 : D) (w206 : D) (w207 : D) (h233 : Bool) {k0 kk0 : Bool → Bool → Option R} {k1 kk1 : Int → Bool → Option R} {k2 kk2 : Bool → Option R} (hq0 : ∀ x0 x1, k0 x0 x1 = kk0 x0 x1) (hq1 : ∀ x0 x1, k1 x0 x1 = kk1 x0 x1) (hq2 : ∀ x0, k2 x0 = kk2 x0) : occupancy_visit_s1_p6 n a0 a1 G p h9 w2 w215 w216 h227 w203 w204 w205 w206 w207 h233 k0 k1 k2 = occupancy_visit_s1_p6 n a0 a1 G p h9 w2 w215 w216 h227 w203 w204 w205 w206 w207 h233 kk0 kk1 kk2 := by
  obtain rfl : k0 = kk0 := funext fun x0 => funext fun x1 => hq0 x0 x1
  obtain rfl : k1 = kk1 := funext fun x0 => funext fun x1 => hq1 x0 x1
  obtain rfl : k2 = kk2 := funext fun x0 => hq2 x0
  rfl
theorem occupancy_visit_s1_p7_congr {R : Type} (n : Nat) (a0 : Int) (a1 : List (List D)) (G : Int → List (List D)) (p : List (List D)) (h9 : Int) (w2 : Int) (w215 : List (List D)) (w216 : Int) (w203 : D) (w204 : D) (w205 : D) (w206 : D) (w207 : D) (h10 : Bool) {k0 kk0 : Int → Bool → Bool → Option R} {k1 kk1 : Int → Bool → Bool → Option R} (hq0 : ∀ x0 x1 x2, k0 x0 x1 x2 = kk0 x0 x1 x2) (hq1 : ∀ x0 x1 x2, k1 x0 x1 x2 = kk1 x0 x1 x2) : occupancy_visit_s1_p7 n a0 a1 G p h9 w2 w215 w216 w203 w204 w205 w206 w207 h10 k0 k1 = occupancy_visit_s1_p7 n a0 a1 G p h9 w2 w215 w216 w203 w204 w205 w206 w207 h10 kk0 kk1 := by
  obtain rfl : k0 = kk0 := funext fun x0 => funext fun x1 => funext fun x2 => hq0 x0 x1 x2
  obtain rfl : k1 = kk1 := funext fun x0 => funext fun x1 => funext fun x2 => hq1 x0 x1 x2
  rfl
theorem occupancy_visit_s1_p8_congr {R : Type} (n : Nat) (a0 : Int) (a1 : List (List D)) (G : Int → List (List D)) (p : List (List D)) (h9 : Int) (w2 : Int) (w215 : List (List D)) (w216 : Int) (w203 : D) (w204 : D) (w205 : D) (w206 : D) (w207 : D) (h10 : Bool) {k0 kk0 : Int → Bool → Bool → Option R} {k1 kk1 : Int → Bool → Bool → Option R} (hq0 : ∀ x0 x1 x2, k0 x0 x1 x2 = kk0 x0 x1 x2) (hq1 : ∀ x0 x1 x2, k1 x0 x1 x2 = kk1 x0 x1 x2) : occupancy_visit_s1_p8 n a0 a1 G p h9 w2 w215 w216 w203 w204 w205 w206 w207 h10 k0 k1 = occupancy_visit_s1_p8 n a0 a1 G p h9 w2 w215 w216 w203 w204 w205 w206 w207 h10 kk0 kk1 := by
  obtain rfl : k0 = kk0 := funext fun x0 => funext fun x1 => funext fun x2 => hq0 x0 x1 x2
  obtain rfl : k1 = kk1 := funext fun x0 => funext fun x1 => funext fun x2 => hq1 x0 x1 x2
  rfl
theorem occupancy_visit_s1_p9_congr {R : Type} (n : Nat) (a0 : Int) (a1 : List (List D)) (G : Int → List (List D)) (p : List (List D)) (h9 : Int) (w2 : Int) (w203 : D) (w204 : D) (w205 : D) (w206 : D) (w207 : D) (h10 : Bool) {k0 kk0 : (List (List D)) → Int → Int → Bool → Bool → Option R} {k1 kk1 : (List (List D)) → Int → Int → Bool → Bool → Option R} (hq0 : ∀ x0 x1 x2 x3 x4, k0 x0 x1 x2 x3 x4 = kk0 x0 x1 x2 x3 x4) (hq1 : ∀ x0 x1 x2 x3 x4, k1 x0 x1 x2 x3 x4 = kk1 x0 x1 x2 x3 x4) : occupancy_visit_s1_p9 n a0 a1 G p h9 w2 w203 w204 w205 w206 w207 h10 k0 k1 = occupancy_visit_s1_p9 n a0 a1 G p h9 w2 w203 w204 w205 w206 w207 h10 kk0 kk1 := by
  obtain rfl : k0 = kk0 := funext fun x0 => funext fun x1 => funext fun x2 => funext fun x3 => funext fun x4 => hq0 x0 x1 x2 x3 x4
  obtain rfl : k1 = kk1 := funext fun x0 => funext fun x1 => funext fun x2 => funext fun x3 => funext fun x4 => hq1 x0 x1 x2 x3 x4
  rfl
theorem occupancy_visit_s1_p10_congr {R : Type} (n : Nat) (a0 : Int) (a1 : List (List D)) (G : Int → List (List D)) (p : List (List D)) (w2 : Int) (h9 : Int) (w196 : Bool) (h10 : Bool) {k0 kk0 : (List (List D)) → Int → Int → Bool → D → D → D → D → D → Bool → Option R} {k1 kk1 : (List (List D)) → Int → Int → Bool → D → D → D → D → D → Bool → Option R} (hq0 : ∀ x0 x1 x2 x3 x4 x5 x6 x7 x8 x9, k0 x0 x1 x2 x3 x4 x5 x6 x7 x8 x9 = kk0 x0 x1 x2 x3 x4 x5 x6 x7 x8 x9) (hq1 : ∀ x0 x1 x2 x3 x4 x5 x6 x7 x8 x9, k1 x0 x1 x2 x3 x4 x5 x6 x7 x8 x9 = kk1 x0 x1 x2 x3 x4 x5 x6 x7 x8 x9) : occupancy_visit_s1_p10 n a0 a1 G p w2 h9 w196 h10 k0 k1 = occupancy_visit_s1_p10 n a0 a1 G p w2 h9 w196 h10 kk0 kk1 := by
  obtain rfl : k0 = kk0 := funext fun x0 => funext fun x1 => funext fun x2 => funext fun x3 => funext fun x4 => funext fun x5 => funext fun x6 => funext fun x7 => funext fun x8 => funext fun x9 => hq0 x0 x1 x2 x3 x4 x5 x6 x7 x8 x9
  obtain rfl : k1 = kk1 := funext fun x0 => funext fun x1 => funext fun x2 => funext fun x3 => funext fun x4 => funext fun x5 => funext fun x6 => funext fun x7 => funext fun x8 => funext fun x9 => hq1 x0 x1 x2 x3 x4 x5 x6 x7 x8 x9
  rfl
theorem occupancy_visit_s1_p11_congr {R : Type} (n : Nat) (a0 : Int) (a1 : List (List D)) (G : Int → List (List D)) (p : List (List D)) (w2 : Int) (h9 : Int) (w196 : Bool) (h10 : Bool) {k0 kk0 : (List (List D)) → Int → Int → Bool → D → D → D → D → D → Bool → Option R} {k1 kk1 : (List (List D)) → Int → Int → Bool → D → D → D → D → D → Bool → Option R} (hq0 : ∀ x0 x1 x2 x3 x4 x5 x6 x7 x8 x9, k0 x0 x1 x2 x3 x4 x5 x6 x7 x8 x9 = kk0 x0 x1 x2 x3 x4 x5 x6 x7 x8 x9) (hq1 : ∀ x0 x1 x2 x3 x4 x5 x6 x7 x8 x9, k1 x0 x1 x2 x3 x4 x5 x6 x7 x8 x9 = kk1 x0 x1 x2 x3 x4 x5 x6 x7 x8 x9) : occupancy_visit_s1_p11 n a0 a1 G p w2 h9 w196 h10 k0 k1 = occupancy_visit_s1_p11 n a0 a1 G p w2 h9 w196 h10 kk0 kk1 := by
  obtain rfl : k0 = kk0 := funext fun x0 => funext fun x1 => funext fun x2 => funext fun x3 => funext fun x4 => funext fun x5 => funext fun x6 => funext fun x7 => funext fun x8 => funext fun x9 => hq0 x0 x1 x2 x3 x4 x5 x6 x7 x8 x9
  obtain rfl : k1 = kk1 := funext fun x0 => funext fun x1 => funext fun x2 => funext fun x3 => funext fun x4 => funext fun x5 => funext fun x6 => funext fun x7 => funext fun x8 => funext fun x9 => hq1 x0 x1 x2 x3 x4 x5 x6 x7 x8 x9
  rfl
theorem occupancy_visit_s1_p12_congr {R : Type} (n : Nat) (a0 : Int) (a1 : List (List D)) (G : Int → List (List D)) (p : List (List D)) (h9 : Int) (w2 : Int) (w343 : List (List D)) (w344 : Int) (w345 : Int) (w346 : Bool) (w347 : D) (w348 : D) (w349 : D) (w350 : D) (w351 : D) (w352 : Bool) {k0 kk0 : Int → Option R} (hq0 : ∀ x0, k0 x0 = kk0 x0) : occupancy_visit_s1_p12 n a0 a1 G p h9 w2 w343 w344 w345 w346 w347 w348 w349 w350 w351 w352 k0 = occupancy_visit_s1_p12 n a0 a1 G p h9 w2 w343 w344 w345 w346 w347 w348 w349 w350 w351 w352 kk0 := by
  obtain rfl : k0 = kk0 := funext fun x0 => hq0 x0
  rfl
theorem occupancy_visit_s1_p13_congr {R : Type} (n : Nat) (a0 : Int) (a1 : List (List D)) (G : Int → List (List D)) (p : List (List D)) (w2 : Int) (h9 : Int) (w196 : Bool) (h10 : Bool) {k0 kk0 : (List (List D)) → Int → Int → Bool → D → D → D → D → D → Bool → Option R} {k1 kk1 : Int → Bool → Option R} (hq0 : ∀ x0 x1 x2 x3 x4 x5 x6 x7 x8 x9, k0 x0 x1 x2 x3 x4 x5 x6 x7 x8 x9 = kk0 x0 x1 x2 x3 x4 x5 x6 x7 x8 x9) (hq1 : ∀ x0 x1, k1 x0 x1 = kk1 x0 x1) : occupancy_visit_s1_p13 n a0 a1 G p w2 h9 w196 h10 k0 k1 = occupancy_visit_s1_p13 n a0 a1 G p w2 h9 w196 h10 kk0 kk1 := by
  obtain rfl : k0 = kk0 := funext fun x0 => funext fun x1 => funext fun x2 => funext fun x3 => funext fun x4 => funext fun x5 => funext fun x6 => funext fun x7 => funext fun x8 => funext fun x9 => hq0 x0 x1 x2 x3 x4 x5 x6 x7 x8 x9
  obtain rfl : k1 = kk1 := funext fun x0 => funext fun x1 => hq1 x0 x1
  rfl
theorem occupancy_visit_s1_p14_congr {R : Type} (n : Nat) (a0 : Int) (a1 : List (List D)) (G : Int → List (List D)) (p : List (List D)) (w2 : Int) (h9 : Int) (w196 : Bool) (h10 : Bool) {k0 kk0 : (List (List D)) → Int → Int → Bool → D → D → D → D → D → Bool → Option R} {k1 kk1 : Int → Bool → Option R} {k2 kk2 : Option R} (hq0 : ∀ x0 x1 x2 x3 x4 x5 x6 x7 x8 x9, k0 x0 x1 x2 x3 x4 x5 x6 x7 x8 x9 = kk0 x0 x1 x2 x3 x4 x5 x6 x7 x8 x9) (hq1 : ∀ x0 x1, k1 x0 x1 = kk1 x0 x1) (hq2 : k2 = kk2) : occupancy_visit_s1_p14 n a0 a1 G p w2 h9 w196 h10 k0 k1 k2 = occupancy_visit_s1_p14 n a0 a1 G p w2 h9 w196 h10 kk0 kk1 kk2 := by
  obtain rfl : k0 = kk0 := funext fun x0 => funext fun x1 => funext fun x2 => funext fun x3 => funext fun x4 => funext fun x5 => funext fun x6 => funext fun x7 => funext fun x8 => funext fun x9 => hq0 x0 x1 x2 x3 x4 x5 x6 x7 x8 x9
  obtain rfl : k1 = kk1 := funext fun x0 => funext fun x1 => hq1 x0 x1
  obtain rfl : k2 = kk2 := hq2
  rfl
theorem occupancy_visit_s1_p15_congr {R : Type} (n : Nat) (a0 : Int) (a1 : List (List D)) (G : Int → List (List D)) (p : List (List D)) (w2 : Int) (h9 : Int) (h10 : Bool) {k0 kk0 : (List (List D)) → Int → Int → Bool → D → D → D → D → D → Bool → Option R} {k1 kk1 : Int → Bool → Option R} {k2 kk2 : Bool → Option R} (hq0 : ∀ x0 x1 x2 x3 x4 x5 x6 x7 x8 x9, k0 x0 x1 x2 x3 x4 x5 x6 x7 x8 x9 = kk0 x0 x1 x2 x3 x4 x5 x6 x7 x8 x9) (hq1 : ∀ x0 x1, k1 x0 x1 = kk1 x0 x1) (hq2 : ∀ x0, k2 x0 = kk2 x0) : occupancy_visit_s1_p15 n a0 a1 G p w2 h9 h10 k0 k1 k2 = occupancy_visit_s1_p15 n a0 a1 G p w2 h9 h10 kk0 kk1 kk2 := by
  obtain rfl : k0 = kk0 := funext fun x0 => funext fun x1 => funext fun x2 => funext fun x3 => funext fun x4 => funext fun x5 => funext fun x6 => funext fun x7 => funext fun x8 => funext fun x9 => hq0 x0 x1 x2 x3 x4 x5 x6 x7 x8 x9
  obtain rfl : k1 = kk1 := funext fun x0 => funext fun x1 => hq1 x0 x1
  obtain rfl : k2 = kk2 := funext fun x0 => hq2 x0
  rfl
theorem occupancy_visit_s1_p16_congr {R : Type} (n : Nat) (a0 : Int) (a1 : List (List D)) (G : Int → List (List D)) (p : List (List D)) (w2 : Int) (b0_0 : Bool) {k0 kk0 : Int → (List (List D)) → Int → Int → Bool → D → D → D → D → D → Bool → Option R} {k1 kk1 : Int → Bool → Bool → Option R} (hq0 : ∀ x0 x1 x2 x3 x4 x5 x6 x7 x8 x9 x10, k0 x0 x1 x2 x3 x4 x5 x6 x7 x8 x9 x10 = kk0 x0 x1 x2 x3 x4 x5 x6 x7 x8 x9 x10) (hq1 : ∀ x0 x1 x2, k1 x0 x1 x2 = kk1 x0 x1 x2) : occupancy_visit_s1_p16 n a0 a1 G p w2 b0_0 k0 k1 = occupancy_visit_s1_p16 n a0 a1 G p w2 b0_0 kk0 kk1 := by
  obtain rfl : k0 = kk0 := funext fun x0 => funext fun x1 => funext fun x2 => funext fun x3 => funext fun x4 => funext fun x5 => funext fun x6 => funext fun x7 => funext fun x8 => funext fun x9 => funext fun x10 => hq0 x0 x1 x2 x3 x4 x5 x6 x7 x8 x9 x10
  obtain rfl : k1 = kk1 := funext fun x0 => funext fun x1 => funext fun x2 => hq1 x0 x1 x2
  rfl
theorem occupancy_visit_s1_p17_congr {R : Type} (n : Nat) (a0 : Int) (a1 : List (List D)) (G : Int → List (List D)) (p : List (List D)) (w2 : Int) (b0_0 : Bool) {k0 kk0 : Int → (List (List D)) → Int → Int → Bool → D → D → D → D → D → Bool → Option R} {k1 kk1 : Int → Bool → Bool → Option R} (hq0 : ∀ x0 x1 x2 x3 x4 x5 x6 x7 x8 x9 x10, k0 x0 x1 x2 x3 x4 x5 x6 x7 x8 x9 x10 = kk0 x0 x1 x2 x3 x4 x5 x6 x7 x8 x9 x10) (hq1 : ∀ x0 x1 x2, k1 x0 x1 x2 = kk1 x0 x1 x2) : occupancy_visit_s1_p17 n a0 a1 G p w2 b0_0 k0 k1 = occupancy_visit_s1_p17 n a0 a1 G p w2 b0_0 kk0 kk1 := by
  obtain rfl : k0 = kk0 := funext fun x0 => funext fun x1 => funext fun x2 => funext fun x3 => funext fun x4 => funext fun x5 => funext fun x6 => funext fun x7 => funext fun x8 => funext fun x9 => funext fun x10 => hq0 x0 x1 x2 x3 x4 x5 x6 x7 x8 x9 x10
  obtain rfl : k1 = kk1 := funext fun x0 => funext fun x1 => funext fun x2 => hq1 x0 x1 x2
  rfl
theorem occupancy_visit_s1_p18_congr {R : Type} (n : Nat) (a0 : Int) (a1 : List (List D)) (G : Int → List (List D)) (p : List (List D)) (b0_0 : Bool) {k0 kk0 : Int → Int → (List (List D)) → Int → Int → Bool → D → D → D → D → D → Bool → Option R} {k1 kk1 : Int → Int → Bool → Bool → Option R} (hq0 : ∀ x0 x1 x2 x3 x4 x5 x6 x7 x8 x9 x10 x11, k0 x0 x1 x2 x3 x4 x5 x6 x7 x8 x9 x10 x11 = kk0 x0 x1 x2 x3 x4 x5 x6 x7 x8 x9 x10 x11) (hq1 : ∀ x0 x1 x2 x3, k1 x0 x1 x2 x3 = kk1 x0 x1 x2 x3) : occupancy_visit_s1_p18 n a0 a1 G p b0_0 k0 k1 = occupancy_visit_s1_p18 n a0 a1 G p b0_0 kk0 kk1 := by
  obtain rfl : k0 = kk0 := funext fun x0 => funext fun x1 => funext fun x2 => funext fun x3 => funext fun x4 => funext fun x5 => funext fun x6 => funext fun x7 => funext fun x8 => funext fun x9 => funext fun x10 => funext fun x11 => hq0 x0 x1 x2 x3 x4 x5 x6 x7 x8 x9 x10 x11
  obtain rfl : k1 = kk1 := funext fun x0 => funext fun x1 => funext fun x2 => funext fun x3 => hq1 x0 x1 x2 x3
  rfl
theorem occupancy_visit_s1_p1_eq {R : Type} (n : Nat) (a0 : Int) (a1 : List (List D)) (G : Int → List (List D)) (p : List (List D)) (b0_0 : Bool) (k : Exit → St → Option R) : vexec (occupancy_visit_s1_C n) n occupancy_visit_s1_c1 ⟨81, [(0, .d (D.int .i64 a0)), (1, .d (D.sl 5 a1)), (2, .fn 24 [.ptr 1000000 0]), (6, .mpd G), (7, .d (D.sl 1 p))], [(1000000, .box [.d (D.bool b0_0)])]⟩ k = occupancy_visit_s1_p1 n a0 a1 G p b0_0 (fun z1 => k .normal ⟨81, [(0, .d (D.int .i64 a0)), (1, .d (D.sl 5 a1)), (2, .fn 24 [.ptr 1000000 0]), (6, .mpd G), (7, .d (D.sl 1 p)), (44, .d (D.sl 5 a1)), (45, .d (D.int .i64 z1)), (46, .d (D.int .i64 (0 : Int)))], [(1000000, .box [.d (D.bool b0_0)])]⟩) := by kernel_rfl
theorem occupancy_visit_s1_p2_eq {R : Type} (n : Nat) (a0 : Int) (a1 : List (List D)) (G : Int → List (List D)) (p : List (List D)) (w2 : Int) (h9 : Int) (h10 : Bool) (k : Exit → St → Option R) : vexec (occupancy_visit_s1_C n) n occupancy_visit_s1_c2 ⟨81, [(0, .d (D.int .i64 a0)), (1, .d (D.sl 5 a1)), (2, .fn 24 [.ptr 1000000 0]), (6, .mpd G), (7, .d (D.sl 1 p)), (44, .d (D.sl 5 a1)), (45, .d (D.int .i64 w2)), (46, .d (D.int .i64 h9))], [(1000000, .box [.d (D.bool h10)])]⟩ k = occupancy_visit_s1_p2 n a0 a1 G p w2 h9 h10 (fun z195 => k .normal ⟨81, [(0, .d (D.int .i64 a0)), (1, .d (D.sl 5 a1)), (2, .fn 24 [.ptr 1000000 0]), (6, .mpd G), (7, .d (D.sl 1 p)), (44, .d (D.sl 5 a1)), (45, .d (D.int .i64 w2)), (46, .d (D.int .i64 h9)), (47, .d (D.bool z195))], [(1000000, .box [.d (D.bool h10)])]⟩) := by kernel_rfl
theorem occupancy_visit_s1_p3_eq {R : Type} (n : Nat) (a0 : Int) (a1 : List (List D)) (G : Int → List (List D)) (p : List (List D)) (w2 : Int) (h9 : Int) (w196 : Bool) (h10 : Bool) (k : Exit → St → Option R) : vexec (occupancy_visit_s1_C n) n occupancy_visit_s1_c3 ⟨81, [(0, .d (D.int .i64 a0)), (1, .d (D.sl 5 a1)), (2, .fn 24 [.ptr 1000000 0]), (6, .mpd G), (7, .d (D.sl 1 p)), (44, .d (D.sl 5 a1)), (45, .d (D.int .i64 w2)), (46, .d (D.int .i64 h9)), (47, .d (D.bool w196))], [(1000000, .box [.d (D.bool h10)])]⟩ k = occupancy_visit_s1_p3 n a0 a1 G p w2 h9 w196 h10 (k .normal ⟨81, [(0, .d (D.int .i64 a0)), (1, .d (D.sl 5 a1)), (2, .fn 24 [.ptr 1000000 0]), (6, .mpd G), (7, .d (D.sl 1 p)), (44, .d (D.sl 5 a1)), (45, .d (D.int .i64 w2)), (46, .d (D.int .i64 h9)), (47, .d (D.bool w196))], [(1000000, .box [.d (D.bool h10)])]⟩) (k (.exit 2) ⟨81, [(0, .d (D.int .i64 a0)), (1, .d (D.sl 5 a1)), (2, .fn 24 [.ptr 1000000 0]), (6, .mpd G), (7, .d (D.sl 1 p)), (44, .d (D.sl 5 a1)), (45, .d (D.int .i64 w2)), (46, .d (D.int .i64 h9)), (47, .d (D.bool w196))], [(1000000, .box [.d (D.bool h10)])]⟩) := by kernel_rfl
theorem occupancy_visit_s1_p4_eq {R : Type} (n : Nat) (a0 : Int) (a1 : List (List D)) (G : Int → List (List D)) (p : List (List D)) (w2 : Int) (h9 : Int) (w196 : Bool) (h10 : Bool) (k : Exit → St → Option R) : vexec (occupancy_visit_s1_C n) n occupancy_visit_s1_c4 ⟨81, [(0, .d (D.int .i64 a0)), (1, .d (D.sl 5 a1)), (2, .fn 24 [.ptr 1000000 0]), (6, .mpd G), (7, .d (D.sl 1 p)), (44, .d (D.sl 5 a1)), (45, .d (D.int .i64 w2)), (46, .d (D.int .i64 h9)), (47, .d (D.bool w196))], [(1000000, .box [.d (D.bool h10)])]⟩ k = occupancy_visit_s1_p4 n a0 a1 G p w2 h9 w196 h10 (fun c198 c199 c200 c201 c202 => k .normal ⟨81, [(0, .d (D.int .i64 a0)), (1, .d (D.sl 5 a1)), (2, .fn 24 [.ptr 1000000 0]), (6, .mpd G), (7, .d (D.sl 1 p)), (10, .d (D.int .i64 h9)), (11, .ptr 11 0), (44, .d (D.sl 5 a1)), (45, .d (D.int .i64 w2)), (46, .d (D.int .i64 h9))], [(11, .box [.d c198, .d c199, .d c200, .d c201, .d c202]), (1000000, .box [.d (D.bool h10)])]⟩) := by kernel_rfl
theorem occupancy_visit_s1_p5_eq {R : Type} (n : Nat) (a0 : Int) (a1 : List (List D)) (G : Int → List (List D)) (p : List (List D)) (h9 : Int) (w2 : Int) (w203 : D) (w204 : D) (w205 : D) (w206 : D) (w207 : D) (h10 : Bool) (k : Exit → St → Option R) : vexec (occupancy_visit_s1_C n) n occupancy_visit_s1_c5 ⟨81, [(0, .d (D.int .i64 a0)), (1, .d (D.sl 5 a1)), (2, .fn 24 [.ptr 1000000 0]), (6, .mpd G), (7, .d (D.sl 1 p)), (10, .d (D.int .i64 h9)), (11, .ptr 11 0), (44, .d (D.sl 5 a1)), (45, .d (D.int .i64 w2)), (46, .d (D.int .i64 h9))], [(11, .box [.d w203, .d w204, .d w205, .d w206, .d w207]), (1000000, .box [.d (D.bool h10)])]⟩ k = occupancy_visit_s1_p5 n a0 a1 G p h9 w2 w203 w204 w205 w206 w207 h10 (fun z213 z214 => k .normal ⟨81, [(0, .d (D.int .i64 a0)), (1, .d (D.sl 5 a1)), (2, .fn 24 [.ptr 1000000 0]), (6, .mpd G), (7, .d (D.sl 1 p)), (10, .d (D.int .i64 h9)), (11, .ptr 11 0), (44, .d (D.sl 5 a1)), (45, .d (D.int .i64 w2)), (46, .d (D.int .i64 h9)), (59, .d (D.sl 1 z213)), (60, .d (D.int .i64 z214)), (61, .d (D.int .i64 (0 : Int)))], [(11, .box [.d w203, .d w204, .d w205, .d w206, .d w207]), (1000000, .box [.d (D.bool h10)])]⟩) := by kernel_rfl
theorem occupancy_visit_s1_p6_eq {R : Type} (n : Nat) (a0 : Int) (a1 : List (List D)) (G : Int → List (List D)) (p : List (List D)) (h9 : Int) (w2 : Int) (w215 : List (List D)) (w216 : Int) (h227 : Int) (w203 : D) (w204 : D) (w205 : D) (w206 : D) (w207 : D) (h233 : Bool) (k : Exit → St → Option R) : vexec (occupancy_visit_s1_C n) n occupancy_visit_s1_c6 ⟨81, [(0, .d (D.int .i64 a0)), (1, .d (D.sl 5 a1)), (2, .fn 24 [.ptr 1000000 0]), (6, .mpd G), (7, .d (D.sl 1 p)), (10, .d (D.int .i64 h9)), (11, .ptr 11 0), (44, .d (D.sl 5 a1)), (45, .d (D.int .i64 w2)), (46, .d (D.int .i64 h9)), (59, .d (D.sl 1 w215)), (60, .d (D.int .i64 w216)), (61, .d (D.int .i64 h227))], [(11, .box [.d w203, .d w204, .d w205, .d w206, .d w207]), (1000000, .box [.d (D.bool h233)])]⟩ k = occupancy_visit_s1_p6 n a0 a1 G p h9 w2 w215 w216 h227 w203 w204 w205 w206 w207 h233 (fun z281 z282 => k .ret ⟨81, [(0, .d (D.int .i64 a0)), (1, .d (D.sl 5 a1)), (2, .fn 24 [.ptr 1000000 0]), (6, .mpd G), (7, .d (D.sl 1 p)), (10, .d (D.int .i64 h9)), (11, .ptr 11 0), (44, .d (D.sl 5 a1)), (45, .d (D.int .i64 w2)), (46, .d (D.int .i64 h9)), (59, .d (D.sl 1 w215)), (60, .d (D.int .i64 w216)), (61, .d (D.int .i64 h227)), (78, .d (D.bool z281))], [(11, .box [.d w203, .d w204, .d w205, .d w206, .d w207]), (1000000, .box [.d (D.bool z282)])]⟩) (fun z283 z284 => k .normal ⟨81, [(0, .d (D.int .i64 a0)), (1, .d (D.sl 5 a1)), (2, .fn 24 [.ptr 1000000 0]), (6, .mpd G), (7, .d (D.sl 1 p)), (10, .d (D.int .i64 h9)), (11, .ptr 11 0), (44, .d (D.sl 5 a1)), (45, .d (D.int .i64 w2)), (46, .d (D.int .i64 h9)), (59, .d (D.sl 1 w215)), (60, .d (D.int .i64 w216)), (61, .d (D.int .i64 z283))], [(11, .box [.d w203, .d w204, .d w205, .d w206, .d w207]), (1000000, .box [.d (D.bool z284)])]⟩) (fun z285 => k (.exit 4) ⟨81, [(0, .d (D.int .i64 a0)), (1, .d (D.sl 5 a1)), (2, .fn 24 [.ptr 1000000 0]), (6, .mpd G), (7, .d (D.sl 1 p)), (10, .d (D.int .i64 h9)), (11, .ptr 11 0), (44, .d (D.sl 5 a1)), (45, .d (D.int .i64 w2)), (46, .d (D.int .i64 h9)), (59, .d (D.sl 1 w215)), (60, .d (D.int .i64 w216)), (61, .d (D.int .i64 h227)), (62, .d (D.bool z285))], [(11, .box [.d w203, .d w204, .d w205, .d w206, .d w207]), (1000000, .box [.d (D.bool h233)])]⟩) := by kernel_rfl
theorem occupancy_visit_s1_r7_eq {R : Type} (n : Nat) (a0 : Int) (a1 : List (List D)) (G : Int → List (List D)) (p : List (List D)) (h9 : Int) (w2 : Int) (w215 : List (List D)) (w216 : Int) (w203 : D) (w204 : D) (w205 : D) (w206 : D) (w207 : D) (k : Exit → St → Option R) : ∀ (m : Nat) (h227 : Int) (h233 : Bool), loopN (vexec (occupancy_visit_s1_C n) n occupancy_visit_s1_c6) m ⟨81, [(0, .d (D.int .i64 a0)), (1, .d (D.sl 5 a1)), (2, .fn 24 [.ptr 1000000 0]), (6, .mpd G), (7, .d (D.sl 1 p)), (10, .d (D.int .i64 h9)), (11, .ptr 11 0), (44, .d (D.sl 5 a1)), (45, .d (D.int .i64 w2)), (46, .d (D.int .i64 h9)), (59, .d (D.sl 1 w215)), (60, .d (D.int .i64 w216)), (61, .d (D.int .i64 h227))], [(11, .box [.d w203, .d w204, .d w205, .d w206, .d w207]), (1000000, .box [.d (D.bool h233)])]⟩ k = occupancy_visit_s1_r7 n a0 a1 G p h9 w2 w215 w216 w203 w204 w205 w206 w207 (fun h227 w286 w287 => k .ret ⟨81, [(0, .d (D.int .i64 a0)), (1, .d (D.sl 5 a1)), (2, .fn 24 [.ptr 1000000 0]), (6, .mpd G), (7, .d (D.sl 1 p)), (10, .d (D.int .i64 h9)), (11, .ptr 11 0), (44, .d (D.sl 5 a1)), (45, .d (D.int .i64 w2)), (46, .d (D.int .i64 h9)), (59, .d (D.sl 1 w215)), (60, .d (D.int .i64 w216)), (61, .d (D.int .i64 h227)), (78, .d (D.bool w286))], [(11, .box [.d w203, .d w204, .d w205, .d w206, .d w207]), (1000000, .box [.d (D.bool w287)])]⟩) (fun h227 w290 h233 => k (.exit 4) ⟨81, [(0, .d (D.int .i64 a0)), (1, .d (D.sl 5 a1)), (2, .fn 24 [.ptr 1000000 0]), (6, .mpd G), (7, .d (D.sl 1 p)), (10, .d (D.int .i64 h9)), (11, .ptr 11 0), (44, .d (D.sl 5 a1)), (45, .d (D.int .i64 w2)), (46, .d (D.int .i64 h9)), (59, .d (D.sl 1 w215)), (60, .d (D.int .i64 w216)), (61, .d (D.int .i64 h227)), (62, .d (D.bool w290))], [(11, .box [.d w203, .d w204, .d w205, .d w206, .d w207]), (1000000, .box [.d (D.bool h233)])]⟩) m h227 h233
  | 0, _, _ => rfl
  | m + 1, h227, h233 => (occupancy_visit_s1_p6_eq n a0 a1 G p h9 w2 w215 w216 h227 w203 w204 w205 w206 w207 h233 (loopK (vexec (occupancy_visit_s1_C n) n occupancy_visit_s1_c6) m k)).trans (occupancy_visit_s1_p6_congr n a0 a1 G p h9 w2 w215 w216 h227 w203 w204 w205 w206 w207 h233 (fun w286 w287 => rfl) (fun w288 w289 => occupancy_visit_s1_r7_eq n a0 a1 G p h9 w2 w215 w216 w203 w204 w205 w206 w207 k m w288 w289) (fun w290 => rfl))
theorem occupancy_visit_s1_p7_eq {R : Type} (n : Nat) (a0 : Int) (a1 : List (List D)) (G : Int → List (List D)) (p : List (List D)) (h9 : Int) (w2 : Int) (w215 : List (List D)) (w216 : Int) (w203 : D) (w204 : D) (w205 : D) (w206 : D) (w207 : D) (h10 : Bool) (k : Exit → St → Option R) : vexec (occupancy_visit_s1_C n) n occupancy_visit_s1_c7 ⟨81, [(0, .d (D.int .i64 a0)), (1, .d (D.sl 5 a1)), (2, .fn 24 [.ptr 1000000 0]), (6, .mpd G), (7, .d (D.sl 1 p)), (10, .d (D.int .i64 h9)), (11, .ptr 11 0), (44, .d (D.sl 5 a1)), (45, .d (D.int .i64 w2)), (46, .d (D.int .i64 h9)), (59, .d (D.sl 1 w215)), (60, .d (D.int .i64 w216)), (61, .d (D.int .i64 (0 : Int)))], [(11, .box [.d w203, .d w204, .d w205, .d w206, .d w207]), (1000000, .box [.d (D.bool h10)])]⟩ k = occupancy_visit_s1_p7 n a0 a1 G p h9 w2 w215 w216 w203 w204 w205 w206 w207 h10 (fun h227 w286 w287 => k .ret ⟨81, [(0, .d (D.int .i64 a0)), (1, .d (D.sl 5 a1)), (2, .fn 24 [.ptr 1000000 0]), (6, .mpd G), (7, .d (D.sl 1 p)), (10, .d (D.int .i64 h9)), (11, .ptr 11 0), (44, .d (D.sl 5 a1)), (45, .d (D.int .i64 w2)), (46, .d (D.int .i64 h9)), (59, .d (D.sl 1 w215)), (60, .d (D.int .i64 w216)), (61, .d (D.int .i64 h227)), (78, .d (D.bool w286))], [(11, .box [.d w203, .d w204, .d w205, .d w206, .d w207]), (1000000, .box [.d (D.bool w287)])]⟩) (fun h227 w290 h233 => k (.exit 4) ⟨81, [(0, .d (D.int .i64 a0)), (1, .d (D.sl 5 a1)), (2, .fn 24 [.ptr 1000000 0]), (6, .mpd G), (7, .d (D.sl 1 p)), (10, .d (D.int .i64 h9)), (11, .ptr 11 0), (44, .d (D.sl 5 a1)), (45, .d (D.int .i64 w2)), (46, .d (D.int .i64 h9)), (59, .d (D.sl 1 w215)), (60, .d (D.int .i64 w216)), (61, .d (D.int .i64 h227)), (62, .d (D.bool w290))], [(11, .box [.d w203, .d w204, .d w205, .d w206, .d w207]), (1000000, .box [.d (D.bool h233)])]⟩) := by
  rw [occupancy_visit_s1_c7_eq]
  exact occupancy_visit_s1_r7_eq n a0 a1 G p h9 w2 w215 w216 w203 w204 w205 w206 w207 k n (0 : Int) h10
theorem occupancy_visit_s1_p8_eq {R : Type} (n : Nat) (a0 : Int) (a1 : List (List D)) (G : Int → List (List D)) (p : List (List D)) (h9 : Int) (w2 : Int) (w215 : List (List D)) (w216 : Int) (w203 : D) (w204 : D) (w205 : D) (w206 : D) (w207 : D) (h10 : Bool) (k : Exit → St → Option R) : vexec (occupancy_visit_s1_C n) n occupancy_visit_s1_c8 ⟨81, [(0, .d (D.int .i64 a0)), (1, .d (D.sl 5 a1)), (2, .fn 24 [.ptr 1000000 0]), (6, .mpd G), (7, .d (D.sl 1 p)), (10, .d (D.int .i64 h9)), (11, .ptr 11 0), (44, .d (D.sl 5 a1)), (45, .d (D.int .i64 w2)), (46, .d (D.int .i64 h9)), (59, .d (D.sl 1 w215)), (60, .d (D.int .i64 w216)), (61, .d (D.int .i64 (0 : Int)))], [(11, .box [.d w203, .d w204, .d w205, .d w206, .d w207]), (1000000, .box [.d (D.bool h10)])]⟩ k = occupancy_visit_s1_p8 n a0 a1 G p h9 w2 w215 w216 w203 w204 w205 w206 w207 h10 (fun w291 w292 w293 => k .ret ⟨81, [(0, .d (D.int .i64 a0)), (1, .d (D.sl 5 a1)), (2, .fn 24 [.ptr 1000000 0]), (6, .mpd G), (7, .d (D.sl 1 p)), (10, .d (D.int .i64 h9)), (11, .ptr 11 0), (44, .d (D.sl 5 a1)), (45, .d (D.int .i64 w2)), (46, .d (D.int .i64 h9)), (59, .d (D.sl 1 w215)), (60, .d (D.int .i64 w216)), (61, .d (D.int .i64 w291)), (78, .d (D.bool w292))], [(11, .box [.d w203, .d w204, .d w205, .d w206, .d w207]), (1000000, .box [.d (D.bool w293)])]⟩) (fun w294 w295 w296 => k .normal ⟨81, [(0, .d (D.int .i64 a0)), (1, .d (D.sl 5 a1)), (2, .fn 24 [.ptr 1000000 0]), (6, .mpd G), (7, .d (D.sl 1 p)), (10, .d (D.int .i64 h9)), (11, .ptr 11 0), (44, .d (D.sl 5 a1)), (45, .d (D.int .i64 w2)), (46, .d (D.int .i64 h9)), (59, .d (D.sl 1 w215)), (60, .d (D.int .i64 w216)), (61, .d (D.int .i64 w294)), (62, .d (D.bool w295))], [(11, .box [.d w203, .d w204, .d w205, .d w206, .d w207]), (1000000, .box [.d (D.bool w296)])]⟩) := by
  rw [occupancy_visit_s1_c8_eq]
  unfold occupancy_visit_s1_p8
  exact (occupancy_visit_s1_p7_eq n a0 a1 G p h9 w2 w215 w216 w203 w204 w205 w206 w207 h10 (blockK 4 k)).trans (occupancy_visit_s1_p7_congr n a0 a1 G p h9 w2 w215 w216 w203 w204 w205 w206 w207 h10 (fun w291 w292 w293 => rfl) (fun w294 w295 w296 => rfl))
theorem occupancy_visit_s1_p9_eq {R : Type} (n : Nat) (a0 : Int) (a1 : List (List D)) (G : Int → List (List D)) (p : List (List D)) (h9 : Int) (w2 : Int) (w203 : D) (w204 : D) (w205 : D) (w206 : D) (w207 : D) (h10 : Bool) (k : Exit → St → Option R) : vexec (occupancy_visit_s1_C n) n occupancy_visit_s1_c9 ⟨81, [(0, .d (D.int .i64 a0)), (1, .d (D.sl 5 a1)), (2, .fn 24 [.ptr 1000000 0]), (6, .mpd G), (7, .d (D.sl 1 p)), (10, .d (D.int .i64 h9)), (11, .ptr 11 0), (44, .d (D.sl 5 a1)), (45, .d (D.int .i64 w2)), (46, .d (D.int .i64 h9))], [(11, .box [.d w203, .d w204, .d w205, .d w206, .d w207]), (1000000, .box [.d (D.bool h10)])]⟩ k = occupancy_visit_s1_p9 n a0 a1 G p h9 w2 w203 w204 w205 w206 w207 h10 (fun w215 w216 w297 w298 w299 => k .ret ⟨81, [(0, .d (D.int .i64 a0)), (1, .d (D.sl 5 a1)), (2, .fn 24 [.ptr 1000000 0]), (6, .mpd G), (7, .d (D.sl 1 p)), (10, .d (D.int .i64 h9)), (11, .ptr 11 0), (44, .d (D.sl 5 a1)), (45, .d (D.int .i64 w2)), (46, .d (D.int .i64 h9)), (59, .d (D.sl 1 w215)), (60, .d (D.int .i64 w216)), (61, .d (D.int .i64 w297)), (78, .d (D.bool w298))], [(11, .box [.d w203, .d w204, .d w205, .d w206, .d w207]), (1000000, .box [.d (D.bool w299)])]⟩) (fun w215 w216 w300 w301 w302 => k .normal ⟨81, [(0, .d (D.int .i64 a0)), (1, .d (D.sl 5 a1)), (2, .fn 24 [.ptr 1000000 0]), (6, .mpd G), (7, .d (D.sl 1 p)), (10, .d (D.int .i64 h9)), (11, .ptr 11 0), (44, .d (D.sl 5 a1)), (45, .d (D.int .i64 w2)), (46, .d (D.int .i64 h9)), (59, .d (D.sl 1 w215)), (60, .d (D.int .i64 w216)), (61, .d (D.int .i64 w300)), (62, .d (D.bool w301))], [(11, .box [.d w203, .d w204, .d w205, .d w206, .d w207]), (1000000, .box [.d (D.bool w302)])]⟩) := by
  rw [occupancy_visit_s1_c9_eq]
  unfold occupancy_visit_s1_p9
  exact (occupancy_visit_s1_p5_eq n a0 a1 G p h9 w2 w203 w204 w205 w206 w207 h10 (seqK (occupancy_visit_s1_C n) n occupancy_visit_s1_c8 k)).trans (occupancy_visit_s1_p5_congr n a0 a1 G p h9 w2 w203 w204 w205 w206 w207 h10 (fun w215 w216 => occupancy_visit_s1_p8_eq n a0 a1 G p h9 w2 w215 w216 w203 w204 w205 w206 w207 h10 k))
theorem occupancy_visit_s1_p10_eq {R : Type} (n : Nat) (a0 : Int) (a1 : List (List D)) (G : Int → List (List D)) (p : List (List D)) (w2 : Int) (h9 : Int) (w196 : Bool) (h10 : Bool) (k : Exit → St → Option R) : vexec (occupancy_visit_s1_C n) n occupancy_visit_s1_c10 ⟨81, [(0, .d (D.int .i64 a0)), (1, .d (D.sl 5 a1)), (2, .fn 24 [.ptr 1000000 0]), (6, .mpd G), (7, .d (D.sl 1 p)), (44, .d (D.sl 5 a1)), (45, .d (D.int .i64 w2)), (46, .d (D.int .i64 h9)), (47, .d (D.bool w196))], [(1000000, .box [.d (D.bool h10)])]⟩ k = occupancy_visit_s1_p10 n a0 a1 G p w2 h9 w196 h10 (fun w303 w304 w305 w306 w203 w204 w205 w206 w207 w307 => k .ret ⟨81, [(0, .d (D.int .i64 a0)), (1, .d (D.sl 5 a1)), (2, .fn 24 [.ptr 1000000 0]), (6, .mpd G), (7, .d (D.sl 1 p)), (10, .d (D.int .i64 h9)), (11, .ptr 11 0), (44, .d (D.sl 5 a1)), (45, .d (D.int .i64 w2)), (46, .d (D.int .i64 h9)), (59, .d (D.sl 1 w303)), (60, .d (D.int .i64 w304)), (61, .d (D.int .i64 w305)), (78, .d (D.bool w306))], [(11, .box [.d w203, .d w204, .d w205, .d w206, .d w207]), (1000000, .box [.d (D.bool w307)])]⟩) (fun w308 w309 w310 w311 w203 w204 w205 w206 w207 w312 => k .normal ⟨81, [(0, .d (D.int .i64 a0)), (1, .d (D.sl 5 a1)), (2, .fn 24 [.ptr 1000000 0]), (6, .mpd G), (7, .d (D.sl 1 p)), (10, .d (D.int .i64 h9)), (11, .ptr 11 0), (44, .d (D.sl 5 a1)), (45, .d (D.int .i64 w2)), (46, .d (D.int .i64 h9)), (59, .d (D.sl 1 w308)), (60, .d (D.int .i64 w309)), (61, .d (D.int .i64 w310)), (62, .d (D.bool w311))], [(11, .box [.d w203, .d w204, .d w205, .d w206, .d w207]), (1000000, .box [.d (D.bool w312)])]⟩) := by
  rw [occupancy_visit_s1_c10_eq]
  unfold occupancy_visit_s1_p10
  exact (occupancy_visit_s1_p4_eq n a0 a1 G p w2 h9 w196 h10 (seqK (occupancy_visit_s1_C n) n occupancy_visit_s1_c9 k)).trans (occupancy_visit_s1_p4_congr n a0 a1 G p w2 h9 w196 h10 (fun w203 w204 w205 w206 w207 => occupancy_visit_s1_p9_eq n a0 a1 G p h9 w2 w203 w204 w205 w206 w207 h10 k))
theorem occupancy_visit_s1_p11_eq {R : Type} (n : Nat) (a0 : Int) (a1 : List (List D)) (G : Int → List (List D)) (p : List (List D)) (w2 : Int) (h9 : Int) (w196 : Bool) (h10 : Bool) (k : Exit → St → Option R) : vexec (occupancy_visit_s1_C n) n occupancy_visit_s1_c11 ⟨81, [(0, .d (D.int .i64 a0)), (1, .d (D.sl 5 a1)), (2, .fn 24 [.ptr 1000000 0]), (6, .mpd G), (7, .d (D.sl 1 p)), (44, .d (D.sl 5 a1)), (45, .d (D.int .i64 w2)), (46, .d (D.int .i64 h9)), (47, .d (D.bool w196))], [(1000000, .box [.d (D.bool h10)])]⟩ k = occupancy_visit_s1_p11 n a0 a1 G p w2 h9 w196 h10 (fun w313 w314 w315 w316 w317 w318 w319 w320 w321 w322 => k .ret ⟨81, [(0, .d (D.int .i64 a0)), (1, .d (D.sl 5 a1)), (2, .fn 24 [.ptr 1000000 0]), (6, .mpd G), (7, .d (D.sl 1 p)), (10, .d (D.int .i64 h9)), (11, .ptr 11 0), (44, .d (D.sl 5 a1)), (45, .d (D.int .i64 w2)), (46, .d (D.int .i64 h9)), (59, .d (D.sl 1 w313)), (60, .d (D.int .i64 w314)), (61, .d (D.int .i64 w315)), (78, .d (D.bool w316))], [(11, .box [.d w317, .d w318, .d w319, .d w320, .d w321]), (1000000, .box [.d (D.bool w322)])]⟩) (fun w323 w324 w325 w326 w327 w328 w329 w330 w331 w332 => k .normal ⟨81, [(0, .d (D.int .i64 a0)), (1, .d (D.sl 5 a1)), (2, .fn 24 [.ptr 1000000 0]), (6, .mpd G), (7, .d (D.sl 1 p)), (10, .d (D.int .i64 h9)), (11, .ptr 11 0), (44, .d (D.sl 5 a1)), (45, .d (D.int .i64 w2)), (46, .d (D.int .i64 h9)), (59, .d (D.sl 1 w323)), (60, .d (D.int .i64 w324)), (61, .d (D.int .i64 w325)), (62, .d (D.bool w326))], [(11, .box [.d w327, .d w328, .d w329, .d w330, .d w331]), (1000000, .box [.d (D.bool w332)])]⟩) := by
  rw [occupancy_visit_s1_c11_eq]
  unfold occupancy_visit_s1_p11
  exact (occupancy_visit_s1_p10_eq n a0 a1 G p w2 h9 w196 h10 (blockK 3 k)).trans (occupancy_visit_s1_p10_congr n a0 a1 G p w2 h9 w196 h10 (fun w313 w314 w315 w316 w317 w318 w319 w320 w321 w322 => rfl) (fun w323 w324 w325 w326 w327 w328 w329 w330 w331 w332 => rfl))
theorem occupancy_visit_s1_p12_eq {R : Type} (n : Nat) (a0 : Int) (a1 : List (List D)) (G : Int → List (List D)) (p : List (List D)) (h9 : Int) (w2 : Int) (w343 : List (List D)) (w344 : Int) (w345 : Int) (w346 : Bool) (w347 : D) (w348 : D) (w349 : D) (w350 : D) (w351 : D) (w352 : Bool) (k : Exit → St → Option R) : vexec (occupancy_visit_s1_C n) n occupancy_visit_s1_c12 ⟨81, [(0, .d (D.int .i64 a0)), (1, .d (D.sl 5 a1)), (2, .fn 24 [.ptr 1000000 0]), (6, .mpd G), (7, .d (D.sl 1 p)), (10, .d (D.int .i64 h9)), (11, .ptr 11 0), (44, .d (D.sl 5 a1)), (45, .d (D.int .i64 w2)), (46, .d (D.int .i64 h9)), (59, .d (D.sl 1 w343)), (60, .d (D.int .i64 w344)), (61, .d (D.int .i64 w345)), (62, .d (D.bool w346))], [(11, .box [.d w347, .d w348, .d w349, .d w350, .d w351]), (1000000, .box [.d (D.bool w352)])]⟩ k = occupancy_visit_s1_p12 n a0 a1 G p h9 w2 w343 w344 w345 w346 w347 w348 w349 w350 w351 w352 (fun z353 => k .normal ⟨81, [(0, .d (D.int .i64 a0)), (1, .d (D.sl 5 a1)), (2, .fn 24 [.ptr 1000000 0]), (6, .mpd G), (7, .d (D.sl 1 p)), (44, .d (D.sl 5 a1)), (45, .d (D.int .i64 w2)), (46, .d (D.int .i64 z353))], [(1000000, .box [.d (D.bool w352)])]⟩) := by kernel_rfl
theorem occupancy_visit_s1_p13_eq {R : Type} (n : Nat) (a0 : Int) (a1 : List (List D)) (G : Int → List (List D)) (p : List (List D)) (w2 : Int) (h9 : Int) (w196 : Bool) (h10 : Bool) (k : Exit → St → Option R) : vexec (occupancy_visit_s1_C n) n occupancy_visit_s1_c13 ⟨81, [(0, .d (D.int .i64 a0)), (1, .d (D.sl 5 a1)), (2, .fn 24 [.ptr 1000000 0]), (6, .mpd G), (7, .d (D.sl 1 p)), (44, .d (D.sl 5 a1)), (45, .d (D.int .i64 w2)), (46, .d (D.int .i64 h9)), (47, .d (D.bool w196))], [(1000000, .box [.d (D.bool h10)])]⟩ k = occupancy_visit_s1_p13 n a0 a1 G p w2 h9 w196 h10 (fun w333 w334 w335 w336 w337 w338 w339 w340 w341 w342 => k .ret ⟨81, [(0, .d (D.int .i64 a0)), (1, .d (D.sl 5 a1)), (2, .fn 24 [.ptr 1000000 0]), (6, .mpd G), (7, .d (D.sl 1 p)), (10, .d (D.int .i64 h9)), (11, .ptr 11 0), (44, .d (D.sl 5 a1)), (45, .d (D.int .i64 w2)), (46, .d (D.int .i64 h9)), (59, .d (D.sl 1 w333)), (60, .d (D.int .i64 w334)), (61, .d (D.int .i64 w335)), (78, .d (D.bool w336))], [(11, .box [.d w337, .d w338, .d w339, .d w340, .d w341]), (1000000, .box [.d (D.bool w342)])]⟩) (fun w354 w352 => k .normal ⟨81, [(0, .d (D.int .i64 a0)), (1, .d (D.sl 5 a1)), (2, .fn 24 [.ptr 1000000 0]), (6, .mpd G), (7, .d (D.sl 1 p)), (44, .d (D.sl 5 a1)), (45, .d (D.int .i64 w2)), (46, .d (D.int .i64 w354))], [(1000000, .box [.d (D.bool w352)])]⟩) := by
  rw [occupancy_visit_s1_c13_eq]
  unfold occupancy_visit_s1_p13
  exact (occupancy_visit_s1_p11_eq n a0 a1 G p w2 h9 w196 h10 (seqK (occupancy_visit_s1_C n) n occupancy_visit_s1_c12 k)).trans (occupancy_visit_s1_p11_congr n a0 a1 G p w2 h9 w196 h10 (fun w333 w334 w335 w336 w337 w338 w339 w340 w341 w342 => rfl) (fun w343 w344 w345 w346 w347 w348 w349 w350 w351 w352 => occupancy_visit_s1_p12_eq n a0 a1 G p h9 w2 w343 w344 w345 w346 w347 w348 w349 w350 w351 w352 k))
theorem occupancy_visit_s1_p14_eq {R : Type} (n : Nat) (a0 : Int) (a1 : List (List D)) (G : Int → List (List D)) (p : List (List D)) (w2 : Int) (h9 : Int) (w196 : Bool) (h10 : Bool) (k : Exit → St → Option R) : vexec (occupancy_visit_s1_C n) n occupancy_visit_s1_c14 ⟨81, [(0, .d (D.int .i64 a0)), (1, .d (D.sl 5 a1)), (2, .fn 24 [.ptr 1000000 0]), (6, .mpd G), (7, .d (D.sl 1 p)), (44, .d (D.sl 5 a1)), (45, .d (D.int .i64 w2)), (46, .d (D.int .i64 h9)), (47, .d (D.bool w196))], [(1000000, .box [.d (D.bool h10)])]⟩ k = occupancy_visit_s1_p14 n a0 a1 G p w2 h9 w196 h10 (fun w355 w356 w357 w358 w359 w360 w361 w362 w363 w364 => k .ret ⟨81, [(0, .d (D.int .i64 a0)), (1, .d (D.sl 5 a1)), (2, .fn 24 [.ptr 1000000 0]), (6, .mpd G), (7, .d (D.sl 1 p)), (10, .d (D.int .i64 h9)), (11, .ptr 11 0), (44, .d (D.sl 5 a1)), (45, .d (D.int .i64 w2)), (46, .d (D.int .i64 h9)), (59, .d (D.sl 1 w355)), (60, .d (D.int .i64 w356)), (61, .d (D.int .i64 w357)), (78, .d (D.bool w358))], [(11, .box [.d w359, .d w360, .d w361, .d w362, .d w363]), (1000000, .box [.d (D.bool w364)])]⟩) (fun w365 w366 => k .normal ⟨81, [(0, .d (D.int .i64 a0)), (1, .d (D.sl 5 a1)), (2, .fn 24 [.ptr 1000000 0]), (6, .mpd G), (7, .d (D.sl 1 p)), (44, .d (D.sl 5 a1)), (45, .d (D.int .i64 w2)), (46, .d (D.int .i64 w365))], [(1000000, .box [.d (D.bool w366)])]⟩) (k (.exit 2) ⟨81, [(0, .d (D.int .i64 a0)), (1, .d (D.sl 5 a1)), (2, .fn 24 [.ptr 1000000 0]), (6, .mpd G), (7, .d (D.sl 1 p)), (44, .d (D.sl 5 a1)), (45, .d (D.int .i64 w2)), (46, .d (D.int .i64 h9)), (47, .d (D.bool w196))], [(1000000, .box [.d (D.bool h10)])]⟩) := by
  rw [occupancy_visit_s1_c14_eq]
  unfold occupancy_visit_s1_p14
  exact (occupancy_visit_s1_p3_eq n a0 a1 G p w2 h9 w196 h10 (seqK (occupancy_visit_s1_C n) n occupancy_visit_s1_c13 k)).trans (occupancy_visit_s1_p3_congr n a0 a1 G p w2 h9 w196 h10 (occupancy_visit_s1_p13_eq n a0 a1 G p w2 h9 w196 h10 k) (rfl))
theorem occupancy_visit_s1_p15_eq {R : Type} (n : Nat) (a0 : Int) (a1 : List (List D)) (G : Int → List (List D)) (p : List (List D)) (w2 : Int) (h9 : Int) (h10 : Bool) (k : Exit → St → Option R) : vexec (occupancy_visit_s1_C n) n occupancy_visit_s1_c15 ⟨81, [(0, .d (D.int .i64 a0)), (1, .d (D.sl 5 a1)), (2, .fn 24 [.ptr 1000000 0]), (6, .mpd G), (7, .d (D.sl 1 p)), (44, .d (D.sl 5 a1)), (45, .d (D.int .i64 w2)), (46, .d (D.int .i64 h9))], [(1000000, .box [.d (D.bool h10)])]⟩ k = occupancy_visit_s1_p15 n a0 a1 G p w2 h9 h10 (fun w367 w368 w369 w370 w371 w372 w373 w374 w375 w376 => k .ret ⟨81, [(0, .d (D.int .i64 a0)), (1, .d (D.sl 5 a1)), (2, .fn 24 [.ptr 1000000 0]), (6, .mpd G), (7, .d (D.sl 1 p)), (10, .d (D.int .i64 h9)), (11, .ptr 11 0), (44, .d (D.sl 5 a1)), (45, .d (D.int .i64 w2)), (46, .d (D.int .i64 h9)), (59, .d (D.sl 1 w367)), (60, .d (D.int .i64 w368)), (61, .d (D.int .i64 w369)), (78, .d (D.bool w370))], [(11, .box [.d w371, .d w372, .d w373, .d w374, .d w375]), (1000000, .box [.d (D.bool w376)])]⟩) (fun w377 w378 => k .normal ⟨81, [(0, .d (D.int .i64 a0)), (1, .d (D.sl 5 a1)), (2, .fn 24 [.ptr 1000000 0]), (6, .mpd G), (7, .d (D.sl 1 p)), (44, .d (D.sl 5 a1)), (45, .d (D.int .i64 w2)), (46, .d (D.int .i64 w377))], [(1000000, .box [.d (D.bool w378)])]⟩) (fun w196 => k (.exit 2) ⟨81, [(0, .d (D.int .i64 a0)), (1, .d (D.sl 5 a1)), (2, .fn 24 [.ptr 1000000 0]), (6, .mpd G), (7, .d (D.sl 1 p)), (44, .d (D.sl 5 a1)), (45, .d (D.int .i64 w2)), (46, .d (D.int .i64 h9)), (47, .d (D.bool w196))], [(1000000, .box [.d (D.bool h10)])]⟩) := by
  rw [occupancy_visit_s1_c15_eq]
  unfold occupancy_visit_s1_p15
  exact (occupancy_visit_s1_p2_eq n a0 a1 G p w2 h9 h10 (seqK (occupancy_visit_s1_C n) n occupancy_visit_s1_c14 k)).trans (occupancy_visit_s1_p2_congr n a0 a1 G p w2 h9 h10 (fun w196 => occupancy_visit_s1_p14_eq n a0 a1 G p w2 h9 w196 h10 k))
theorem occupancy_visit_s1_r16_eq {R : Type} (n : Nat) (a0 : Int) (a1 : List (List D)) (G : Int → List (List D)) (p : List (List D)) (w2 : Int) (k : Exit → St → Option R) : ∀ (m : Nat) (h9 : Int) (h10 : Bool), loopN (vexec (occupancy_visit_s1_C n) n occupancy_visit_s1_c15) m ⟨81, [(0, .d (D.int .i64 a0)), (1, .d (D.sl 5 a1)), (2, .fn 24 [.ptr 1000000 0]), (6, .mpd G), (7, .d (D.sl 1 p)), (44, .d (D.sl 5 a1)), (45, .d (D.int .i64 w2)), (46, .d (D.int .i64 h9))], [(1000000, .box [.d (D.bool h10)])]⟩ k = occupancy_visit_s1_r16 n a0 a1 G p w2 (fun h9 w379 w380 w381 w382 w383 w384 w385 w386 w387 w388 => k .ret ⟨81, [(0, .d (D.int .i64 a0)), (1, .d (D.sl 5 a1)), (2, .fn 24 [.ptr 1000000 0]), (6, .mpd G), (7, .d (D.sl 1 p)), (10, .d (D.int .i64 h9)), (11, .ptr 11 0), (44, .d (D.sl 5 a1)), (45, .d (D.int .i64 w2)), (46, .d (D.int .i64 h9)), (59, .d (D.sl 1 w379)), (60, .d (D.int .i64 w380)), (61, .d (D.int .i64 w381)), (78, .d (D.bool w382))], [(11, .box [.d w383, .d w384, .d w385, .d w386, .d w387]), (1000000, .box [.d (D.bool w388)])]⟩) (fun h9 w391 h10 => k (.exit 2) ⟨81, [(0, .d (D.int .i64 a0)), (1, .d (D.sl 5 a1)), (2, .fn 24 [.ptr 1000000 0]), (6, .mpd G), (7, .d (D.sl 1 p)), (44, .d (D.sl 5 a1)), (45, .d (D.int .i64 w2)), (46, .d (D.int .i64 h9)), (47, .d (D.bool w391))], [(1000000, .box [.d (D.bool h10)])]⟩) m h9 h10
  | 0, _, _ => rfl
  | m + 1, h9, h10 => (occupancy_visit_s1_p15_eq n a0 a1 G p w2 h9 h10 (loopK (vexec (occupancy_visit_s1_C n) n occupancy_visit_s1_c15) m k)).trans (occupancy_visit_s1_p15_congr n a0 a1 G p w2 h9 h10 (fun w379 w380 w381 w382 w383 w384 w385 w386 w387 w388 => rfl) (fun w389 w390 => occupancy_visit_s1_r16_eq n a0 a1 G p w2 k m w389 w390) (fun w391 => rfl))
theorem occupancy_visit_s1_p16_eq {R : Type} (n : Nat) (a0 : Int) (a1 : List (List D)) (G : Int → List (List D)) (p : List (List D)) (w2 : Int) (b0_0 : Bool) (k : Exit → St → Option R) : vexec (occupancy_visit_s1_C n) n occupancy_visit_s1_c16 ⟨81, [(0, .d (D.int .i64 a0)), (1, .d (D.sl 5 a1)), (2, .fn 24 [.ptr 1000000 0]), (6, .mpd G), (7, .d (D.sl 1 p)), (44, .d (D.sl 5 a1)), (45, .d (D.int .i64 w2)), (46, .d (D.int .i64 (0 : Int)))], [(1000000, .box [.d (D.bool b0_0)])]⟩ k = occupancy_visit_s1_p16 n a0 a1 G p w2 b0_0 (fun h9 w379 w380 w381 w382 w383 w384 w385 w386 w387 w388 => k .ret ⟨81, [(0, .d (D.int .i64 a0)), (1, .d (D.sl 5 a1)), (2, .fn 24 [.ptr 1000000 0]), (6, .mpd G), (7, .d (D.sl 1 p)), (10, .d (D.int .i64 h9)), (11, .ptr 11 0), (44, .d (D.sl 5 a1)), (45, .d (D.int .i64 w2)), (46, .d (D.int .i64 h9)), (59, .d (D.sl 1 w379)), (60, .d (D.int .i64 w380)), (61, .d (D.int .i64 w381)), (78, .d (D.bool w382))], [(11, .box [.d w383, .d w384, .d w385, .d w386, .d w387]), (1000000, .box [.d (D.bool w388)])]⟩) (fun h9 w391 h10 => k (.exit 2) ⟨81, [(0, .d (D.int .i64 a0)), (1, .d (D.sl 5 a1)), (2, .fn 24 [.ptr 1000000 0]), (6, .mpd G), (7, .d (D.sl 1 p)), (44, .d (D.sl 5 a1)), (45, .d (D.int .i64 w2)), (46, .d (D.int .i64 h9)), (47, .d (D.bool w391))], [(1000000, .box [.d (D.bool h10)])]⟩) := by
  rw [occupancy_visit_s1_c16_eq]
  exact occupancy_visit_s1_r16_eq n a0 a1 G p w2 k n (0 : Int) b0_0
theorem occupancy_visit_s1_p17_eq {R : Type} (n : Nat) (a0 : Int) (a1 : List (List D)) (G : Int → List (List D)) (p : List (List D)) (w2 : Int) (b0_0 : Bool) (k : Exit → St → Option R) : vexec (occupancy_visit_s1_C n) n occupancy_visit_s1_c17 ⟨81, [(0, .d (D.int .i64 a0)), (1, .d (D.sl 5 a1)), (2, .fn 24 [.ptr 1000000 0]), (6, .mpd G), (7, .d (D.sl 1 p)), (44, .d (D.sl 5 a1)), (45, .d (D.int .i64 w2)), (46, .d (D.int .i64 (0 : Int)))], [(1000000, .box [.d (D.bool b0_0)])]⟩ k = occupancy_visit_s1_p17 n a0 a1 G p w2 b0_0 (fun w392 w393 w394 w395 w396 w397 w398 w399 w400 w401 w402 => k .ret ⟨81, [(0, .d (D.int .i64 a0)), (1, .d (D.sl 5 a1)), (2, .fn 24 [.ptr 1000000 0]), (6, .mpd G), (7, .d (D.sl 1 p)), (10, .d (D.int .i64 w392)), (11, .ptr 11 0), (44, .d (D.sl 5 a1)), (45, .d (D.int .i64 w2)), (46, .d (D.int .i64 w392)), (59, .d (D.sl 1 w393)), (60, .d (D.int .i64 w394)), (61, .d (D.int .i64 w395)), (78, .d (D.bool w396))], [(11, .box [.d w397, .d w398, .d w399, .d w400, .d w401]), (1000000, .box [.d (D.bool w402)])]⟩) (fun w403 w404 w405 => k .normal ⟨81, [(0, .d (D.int .i64 a0)), (1, .d (D.sl 5 a1)), (2, .fn 24 [.ptr 1000000 0]), (6, .mpd G), (7, .d (D.sl 1 p)), (44, .d (D.sl 5 a1)), (45, .d (D.int .i64 w2)), (46, .d (D.int .i64 w403)), (47, .d (D.bool w404))], [(1000000, .box [.d (D.bool w405)])]⟩) := by
  rw [occupancy_visit_s1_c17_eq]
  unfold occupancy_visit_s1_p17
  exact (occupancy_visit_s1_p16_eq n a0 a1 G p w2 b0_0 (blockK 2 k)).trans (occupancy_visit_s1_p16_congr n a0 a1 G p w2 b0_0 (fun w392 w393 w394 w395 w396 w397 w398 w399 w400 w401 w402 => rfl) (fun w403 w404 w405 => rfl))
theorem occupancy_visit_s1_p18_eq {R : Type} (n : Nat) (a0 : Int) (a1 : List (List D)) (G : Int → List (List D)) (p : List (List D)) (b0_0 : Bool) (k : Exit → St → Option R) : vexec (occupancy_visit_s1_C n) n occupancy_visit_s1_c0 ⟨81, [(0, .d (D.int .i64 a0)), (1, .d (D.sl 5 a1)), (2, .fn 24 [.ptr 1000000 0]), (6, .mpd G), (7, .d (D.sl 1 p))], [(1000000, .box [.d (D.bool b0_0)])]⟩ k = occupancy_visit_s1_p18 n a0 a1 G p b0_0 (fun w406 w2 w407 w408 w409 w410 w411 w412 w413 w414 w415 w416 => k .ret ⟨81, [(0, .d (D.int .i64 a0)), (1, .d (D.sl 5 a1)), (2, .fn 24 [.ptr 1000000 0]), (6, .mpd G), (7, .d (D.sl 1 p)), (10, .d (D.int .i64 w406)), (11, .ptr 11 0), (44, .d (D.sl 5 a1)), (45, .d (D.int .i64 w2)), (46, .d (D.int .i64 w406)), (59, .d (D.sl 1 w407)), (60, .d (D.int .i64 w408)), (61, .d (D.int .i64 w409)), (78, .d (D.bool w410))], [(11, .box [.d w411, .d w412, .d w413, .d w414, .d w415]), (1000000, .box [.d (D.bool w416)])]⟩) (fun w2 w417 w418 w419 => k .normal ⟨81, [(0, .d (D.int .i64 a0)), (1, .d (D.sl 5 a1)), (2, .fn 24 [.ptr 1000000 0]), (6, .mpd G), (7, .d (D.sl 1 p)), (44, .d (D.sl 5 a1)), (45, .d (D.int .i64 w2)), (46, .d (D.int .i64 w417)), (47, .d (D.bool w418))], [(1000000, .box [.d (D.bool w419)])]⟩) := by
  rw [occupancy_visit_s1_c0_eq]
  unfold occupancy_visit_s1_p18
  exact (occupancy_visit_s1_p1_eq n a0 a1 G p b0_0 (seqK (occupancy_visit_s1_C n) n occupancy_visit_s1_c17 k)).trans (occupancy_visit_s1_p1_congr n a0 a1 G p b0_0 (fun w2 => occupancy_visit_s1_p17_eq n a0 a1 G p w2 b0_0 k))
def occupancy_visit_s1_Ko : AV → List (Nat × Ob) → Option (Bool) := fun av H => (look H 1000000).bind fun o0 => match av, o0 with
  | .tup [], .box [.d (D.bool r0)] => some r0
  | _, _ => none
theorem occupancy_visit_s1_vfo (n : Nat) (a0 : Int) (a1 : List (List D)) (b0_0 : Bool) : (visPre a1 fun G p => vexec (occupancy_visit_s1_C n) n occupancy_visit_s1_c0 ⟨81, [(0, .d (D.int .i64 a0)), (1, .d (D.sl 5 a1)), (2, .fn 24 [.ptr 1000000 0]), (6, .mpd G), (7, .d (D.sl 1 p))], [(1000000, .box [.d (D.bool b0_0)])]⟩ (fnK occupancy_visit_s1_tt Try.f23 occupancy_visit_s1_Ko)) = occupancy_visit_s1 n a0 a1 b0_0 some := by
  unfold occupancy_visit_s1
  congr 1
  funext G p
  exact (occupancy_visit_s1_p18_eq n a0 a1 G p b0_0 (fnK occupancy_visit_s1_tt Try.f23 occupancy_visit_s1_Ko)).trans (by kernel_rfl)
def occupancy_visit_s1_s (n : Nat) : Entry := fun _ site g avs hl k => match avs with
  | [c0, c1, c2] => prI g .i64 c0 fun a0 => prS g 5 c1 fun a1 => prF 24 c2 fun m4 => (match m4 with
    | [y4_0] => prP hl y4_0 fun l0 bl0 => (match bl0 with
    | [xl0_0] => prB g xl0_0 fun b0_0 => 
    bif newsOk hl [(1000000, l0)] [] then gb g (occupancy_visit_s1 n a0 a1 b0_0 some) false fun r => k ⟨.tup [], [(l0, some (.box [.d (D.bool r)]))], [l0]⟩ else none
    | _ => none)
    | _ => none)
  | _ => none
theorem occupancy_visit_s1_so (n : Nat) : EntryOK Try.prog 23 (occupancy_visit_s1_s n) := by
  intro R site g avs hl k r h
  unfold occupancy_visit_s1_s at h
  split at h
  rotate_left
  · cases h
  replace h := prI_some h
  obtain ⟨a0, h, le0⟩ := h
  replace h := prS_some h
  obtain ⟨a1, h, le1⟩ := h
  replace h := prF_some h
  obtain ⟨m4, h, em4⟩ := h
  subst em4
  split at h
  rotate_left
  · cases h
  replace h := prP_some h
  obtain ⟨l0, bl0, h, el0, hbl0⟩ := h
  subst el0
  split at h
  rotate_left
  · cases h
  replace h := prB_some h
  obtain ⟨b0_0, h, le2⟩ := h
  replace h := bif_some h
  obtain ⟨hc, h⟩ := h
  replace h := gb_some h
  obtain ⟨res, h, hr⟩ := h
  refine ⟨_, h, fun hg => callOK_shX (K := occupancy_visit_s1_Ko) (res := res) (fn := Try.f23) (by kernel_rfl) (by kernel_rfl) (by kernel_rfl) (ρ := [(1000000, l0)]) (ν := []) (avs' := [.d (D.int .i64 a0), .d (D.sl 5 a1), .fn 24 [.ptr 1000000 0]]) (H := [(1000000, .box [.d (D.bool b0_0)])]) (.cons (.data rfl (le0 hg)) (.cons (.data rfl (le1 hg)) (.cons (.own rfl rfl) (.nil)))) rfl rfl hc (⟨⟨by decide, _, _, hbl0, rfl, .box (.cons (.data rfl (le2 hg)) (.nil))⟩, trivial⟩) rfl rfl ?_ ?_⟩
  · exact fun β S w vs hO hA => vis_calls (occupancy_visit_s1_VC n) (by kernel_rfl) ((occupancy_visit_s1_vfo n a0 a1 b0_0).trans (hr hg)) hO hA
  · intro av H' hx
    unfold occupancy_visit_s1_Ko at hx
    replace hx := Option.bind_eq_some_iff.1 hx
    obtain ⟨o0, ho0, hx⟩ := hx
    split at hx
    rotate_left
    · cases hx
    injection hx with hx
    subst hx
    refine ⟨rfl, ?_, trivial, ⟨endOk_box rfl ho0 rfl, trivial⟩⟩
    simp only [List.cons_append, List.nil_append, outWr, ho0, Option.map_some, Option.map_none]
    rfl
end Go.Vx
/-
  occupancy_Free: the interpreter computes the pure function
-/
set_option linter.unusedVariables false
set_option linter.unusedSimpArgs false
set_option maxRecDepth 100000
namespace Go.Vx
open Go.Proofs
noncomputable def occupancy_Free_c0 : Code := bodyOf Try.f11
def occupancy_Free_tt : TT := [(4, ⟨.bool, 1, 1, [.bool false], [.bool false], [], none⟩)]
theorem occupancy_Free_tt_eq : mkTT Try.prog [4] = occupancy_Free_tt := by kernel_rfl
def occupancy_Free_cfg : List (Nat × Cfg) := [(0, ⟨[0, 1], [], [], [], []⟩), (1, ⟨[0, 1, 9], [], [], [], []⟩), (2, ⟨[4], [], [], [], []⟩), (3, ⟨[0, 1, 5], [(5, 5)], [], [], []⟩), (4, ⟨[5], [(5, 5)], [], [], []⟩), (5, ⟨[4], [], [], [], []⟩)]
def occupancy_Free_C (n : Nat) : VC := ⟨specOf [(19, occupancy_Valid_e n), (23, occupancy_visit_s1_s n)], occupancy_Free_tt, occupancy_Free_cfg⟩
theorem occupancy_Free_ents (n : Nat) : EntsOK Try.prog [(19, occupancy_Valid_e n), (23, occupancy_visit_s1_s n)] := ⟨occupancy_Valid_ok n, ⟨occupancy_visit_s1_so n, trivial⟩⟩
theorem occupancy_Free_VC (n : Nat) : VCOk Try.prog (occupancy_Free_C n) := ⟨specOf_ok (occupancy_Free_ents n), (occupancy_Free_tt_eq ▸ mkTT_ok _ : TOk Try.prog occupancy_Free_tt), by kernel_rfl⟩
theorem occupancy_Free_p1_congr {R : Type} (n : Nat) (a0 : Int) (a1 : List (List D)) {k0 kk0 : Bool → Option R} (hq0 : ∀ x0, k0 x0 = kk0 x0) : occupancy_Free_p1 n a0 a1 k0 = occupancy_Free_p1 n a0 a1 kk0 := by
  obtain rfl : k0 = kk0 := funext fun x0 => hq0 x0
  rfl
theorem occupancy_Free_p1_eq {R : Type} (n : Nat) (a0 : Int) (a1 : List (List D)) (k : Exit → St → Option R) : vexec (occupancy_Free_C n) n occupancy_Free_c0 ⟨15, [(0, .d (D.int .i64 a0)), (1, .d (D.sl 5 a1))], []⟩ k = occupancy_Free_p1 n a0 a1 (fun z3 => k .ret ⟨15, [(4, .d (D.bool z3))], []⟩) := by kernel_rfl
theorem occupancy_Free_vfn {R : Type} (n : Nat) (a0 : Int) (a1 : List (List D)) (K : AV → Option R) : vfn (occupancy_Free_C n) n Try.f11 [.d (D.int .i64 a0), .d (D.sl 5 a1)] [] (retF [[0]] K) = occupancy_Free n a0 a1 (fun r0 => K (.d (D.bool r0))) :=
  (show vfn (occupancy_Free_C n) n Try.f11 [.d (D.int .i64 a0), .d (D.sl 5 a1)] [] (retF [[0]] K) = vexec (occupancy_Free_C n) n occupancy_Free_c0 ⟨15, [(0, .d (D.int .i64 a0)), (1, .d (D.sl 5 a1))], []⟩ (retX occupancy_Free_tt [.tmp 4] (retF [[0]] K)) from vfn_at (by kernel_rfl) (by kernel_rfl) rfl (by kernel_rfl) rfl (by kernel_rfl) rfl).trans ((occupancy_Free_p1_eq n a0 a1 (retX occupancy_Free_tt [.tmp 4] (retF [[0]] K))).trans (by kernel_rfl))
def occupancy_Free_K : AV → Option (Bool) := fun av => match av with
  | .d (D.bool r0) => some r0
  | _ => none
def occupancy_Free_e (n : Nat) : Entry := fun _ _ g avs _ k => match avs with
  | [c0, c1] => prI g .i64 c0 fun a0 => prS g 5 c1 fun a1 => 
    gb g (occupancy_Free n a0 a1 some) false fun r => k ⟨.d (D.bool r), [], []⟩
  | _ => none
theorem occupancy_Free_ok (n : Nat) : EntryOK Try.prog 11 (occupancy_Free_e n) := by
  intro R site g avs hl k r h
  unfold occupancy_Free_e at h
  split at h
  rotate_left
  · cases h
  replace h := prI_some h
  obtain ⟨a0, h, le0⟩ := h
  replace h := prS_some h
  obtain ⟨a1, h, le1⟩ := h
  replace h := gb_some h
  obtain ⟨res, h, hr⟩ := h
  refine ⟨_, h, fun hg => CallOK.conv (avs' := [.d (D.int .i64 a0), .d (D.sl 5 a1)]) (.cons (le0 hg) (.cons (le1 hg) (.nil))) (callOK_fix (K := occupancy_Free_K) (res := res) (occupancy_Free_VC n) (fn := Try.f11) (n := n) (by kernel_rfl) (by kernel_rfl) (by kernel_rfl) (ss := [[0]]) rfl ?_ ?_)⟩
  · exact (occupancy_Free_vfn n a0 a1 occupancy_Free_K).trans (hr hg)
  · intro x hx
    unfold occupancy_Free_K at hx
    split at hx
    · injection hx with hx; subst hx; rfl
    · cases hx
end Go.Vx
/-
  arith_Mod: the interpreter computes the pure function
-/
set_option linter.unusedVariables false
set_option linter.unusedSimpArgs false
set_option maxRecDepth 100000
namespace Go.Vx
open Go.Proofs
noncomputable def arith_Mod_c0 : Code := bodyOf Try.f20
def arith_Mod_tt : TT := [(3, ⟨.int .i64, 1, 8, [.int .i64 0], [.int .i64 0], [], none⟩)]
theorem arith_Mod_tt_eq : mkTT Try.prog [3] = arith_Mod_tt := by kernel_rfl
def arith_Mod_cfg : List (Nat × Cfg) := [(0, ⟨[0, 1], [], [], [], []⟩), (1, ⟨[0, 1, 7], [], [], [], []⟩), (2, ⟨[4], [], [], [], []⟩), (3, ⟨[1, 5], [], [], [], []⟩), (4, ⟨[1, 5, 12], [], [], [], []⟩), (5, ⟨[5], [], [], [], []⟩), (6, ⟨[4], [], [], [], []⟩)]
def arith_Mod_C (n : Nat) : VC := ⟨specOf [], arith_Mod_tt, arith_Mod_cfg⟩
theorem arith_Mod_ents (n : Nat) : EntsOK Try.prog [] := trivial
theorem arith_Mod_VC (n : Nat) : VCOk Try.prog (arith_Mod_C n) := ⟨specOf_ok (arith_Mod_ents n), (arith_Mod_tt_eq ▸ mkTT_ok _ : TOk Try.prog arith_Mod_tt), by kernel_rfl⟩
theorem arith_Mod_p1_congr {R : Type} (n : Nat) (a0 : Int) (a1 : Int) {k0 kk0 : Int → Option R} (hq0 : ∀ x0, k0 x0 = kk0 x0) : arith_Mod_p1 n a0 a1 k0 = arith_Mod_p1 n a0 a1 kk0 := by
  obtain rfl : k0 = kk0 := funext fun x0 => hq0 x0
  rfl
theorem arith_Mod_p1_eq {R : Type} (n : Nat) (a0 : Int) (a1 : Int) (k : Exit → St → Option R) : vexec (arith_Mod_C n) n arith_Mod_c0 ⟨17, [(0, .d (D.int .i64 a0)), (1, .d (D.int .i64 a1))], []⟩ k = arith_Mod_p1 n a0 a1 (fun z2 => k .ret ⟨17, [(4, .d (D.int .i64 z2))], []⟩) := by kernel_rfl
theorem arith_Mod_vfn {R : Type} (n : Nat) (a0 : Int) (a1 : Int) (K : AV → Option R) : vfn (arith_Mod_C n) n Try.f20 [.d (D.int .i64 a0), .d (D.int .i64 a1)] [] (retF [[0]] K) = arith_Mod n a0 a1 (fun r0 => K (.d (D.int .i64 r0))) :=
  (show vfn (arith_Mod_C n) n Try.f20 [.d (D.int .i64 a0), .d (D.int .i64 a1)] [] (retF [[0]] K) = vexec (arith_Mod_C n) n arith_Mod_c0 ⟨17, [(0, .d (D.int .i64 a0)), (1, .d (D.int .i64 a1))], []⟩ (retX arith_Mod_tt [.tmp 4] (retF [[0]] K)) from vfn_at (by kernel_rfl) (by kernel_rfl) rfl (by kernel_rfl) rfl (by kernel_rfl) rfl).trans ((arith_Mod_p1_eq n a0 a1 (retX arith_Mod_tt [.tmp 4] (retF [[0]] K))).trans (by kernel_rfl))
def arith_Mod_K : AV → Option (Int) := fun av => match av with
  | .d (D.int .i64 r0) => some r0
  | _ => none
def arith_Mod_e (n : Nat) : Entry := fun _ _ g avs _ k => match avs with
  | [c0, c1] => prI g .i64 c0 fun a0 => prI g .i64 c1 fun a1 => 
    gb g (arith_Mod n a0 a1 some) 0 fun r => k ⟨.d (D.int .i64 r), [], []⟩
  | _ => none
theorem arith_Mod_ok (n : Nat) : EntryOK Try.prog 20 (arith_Mod_e n) := by
  intro R site g avs hl k r h
  unfold arith_Mod_e at h
  split at h
  rotate_left
  · cases h
  replace h := prI_some h
  obtain ⟨a0, h, le0⟩ := h
  replace h := prI_some h
  obtain ⟨a1, h, le1⟩ := h
  replace h := gb_some h
  obtain ⟨res, h, hr⟩ := h
  refine ⟨_, h, fun hg => CallOK.conv (avs' := [.d (D.int .i64 a0), .d (D.int .i64 a1)]) (.cons (le0 hg) (.cons (le1 hg) (.nil))) (callOK_fix (K := arith_Mod_K) (res := res) (arith_Mod_VC n) (fn := Try.f20) (n := n) (by kernel_rfl) (by kernel_rfl) (by kernel_rfl) (ss := [[0]]) rfl ?_ ?_)⟩
  · exact (arith_Mod_vfn n a0 a1 arith_Mod_K).trans (hr hg)
  · intro x hx
    unfold arith_Mod_K at hx
    split at hx
    · injection hx with hx; subst hx; rfl
    · cases hx
end Go.Vx
/-
  DERIVED: THE SHELF's CONTRACTS AT THIS DUMP, IN PLAIN WORDS (tools/lay-plain.mjs out of 'TryShelf.lean', which tools/lay-shelf.mjs wrote): THE SAME DECLARATIONS UNDER THE SAME NAMES: 'import', 'namespace', 'open', 'def', 'theorem' AND NOTHING ELSE: no command of the shelf's: FOR A HAND-IN. Each laying: the table of numbers ('.._ren') and one theorem, a field a fact of the dump's own or the kernel's comparison; each contract: ONE APPLICATION.
-/
namespace Go.Proofs
open Go.Shelf
def Try.lays128_ren : Go.Shelf.Ren := ⟨fun | 128 => 45 | n => n, fun | 51 => 65 | 3 => 3 | 4 => 4 | 46 => 40 | 5 => 5 | 9 => 9 | n => n, fun | n => n⟩
theorem Try.lays128 : Go.Proofs.Lays.n128 Try.prog Try.lays128_ren := {
  mixed := by kernel_rfl
  f128 := Try.func45.trans (congrArg some (by kernel_rfl))
  t3 := Try.underlying3
  a3 := Try.isAgg3
  z3 := Try.sizeOf3
  v3 := Try.zeroValue3
  t4 := Try.underlying4
  a4 := Try.isAgg4
  z4 := Try.sizeOf4
  v4 := Try.zeroValue4
  t5 := Try.underlying5
  a5 := Try.isAgg5
  z5 := Try.sizeOf5
  v5 := Try.zeroValue5
  t9 := Try.underlying9
  a9 := Try.isAgg9
  z9 := Try.sizeOf9
  v9 := Try.zeroValue9
  t46 := Try.underlying40
  a46 := Try.isAgg40
  z46 := Try.sizeOf40
  v46 := Try.zeroValue40
  t51 := Try.underlying65
  a51 := Try.isAgg65
  z51 := Try.sizeOf65
  v51 := Try.zeroValue65 }
/-- bits.Len32: "Len32 returns the minimum number of bits required to represent x; the result is 0 for x == 0.": IT RETURNS 'Lib.bitLen x'; the world is as it was. ('h0', 'h1': x is a uint32.) (LAID: no walk: one application.) -/
theorem Try.bits_Len32 (x : Int) (w : World) (h0 : 0 ≤ x) (h1 : x ≤ 4294967295) :
    Calls Try.prog 45 #[.int .u32 x] w fun e w' => e = .returned (.int .i64 (Lib.bitLen x.toNat)) ∧ w' = w := Any.bits_Len32 Try.lays128 x w h0 h1
def Try.lays125_ren : Go.Shelf.Ren := ⟨fun | 125 => 31 | 128 => 45 | 129 => 46 | n => n, fun | 46 => 40 | 3 => 3 | 51 => 65 | 53 => 67 | 4 => 4 | 5 => 5 | 9 => 9 | n => n, fun | n => n⟩
theorem Try.lays125 : Go.Proofs.Lays.n125 Try.prog Try.lays125_ren := {
  mixed := by kernel_rfl
  f125 := Try.func31.trans (congrArg some (by kernel_rfl))
  f128 := Try.func45.trans (congrArg some (by kernel_rfl))
  f129 := Try.func46.trans (congrArg some (by kernel_rfl))
  t3 := Try.underlying3
  a3 := Try.isAgg3
  z3 := Try.sizeOf3
  v3 := Try.zeroValue3
  t4 := Try.underlying4
  a4 := Try.isAgg4
  z4 := Try.sizeOf4
  v4 := Try.zeroValue4
  t5 := Try.underlying5
  a5 := Try.isAgg5
  z5 := Try.sizeOf5
  v5 := Try.zeroValue5
  t9 := Try.underlying9
  a9 := Try.isAgg9
  z9 := Try.sizeOf9
  v9 := Try.zeroValue9
  t46 := Try.underlying40
  a46 := Try.isAgg40
  z46 := Try.sizeOf40
  v46 := Try.zeroValue40
  t51 := Try.underlying65
  a51 := Try.isAgg65
  z51 := Try.sizeOf65
  v51 := Try.zeroValue65
  t53 := Try.underlying67
  a53 := Try.isAgg67
  z53 := Try.sizeOf67
  v53 := Try.zeroValue67 }
/-- bits.Len: "Len returns the minimum number of bits required to represent x; the result is 0 for x == 0.": IT RETURNS 'Lib.bitLen x'; the world is as it was. (A uint has 64 bits in the model.) ITS CALLEE bits.Len64 IS MET BY ITS OWN CONTRACT OFF THE SHELF (lay that first). (LAID: no walk: one application.) -/
theorem Try.bits_Len (x : Int) (w : World) (h0 : 0 ≤ x) (h1 : x ≤ 18446744073709551615) :
    Calls Try.prog 31 #[.int .u64 x] w fun e w' => e = .returned (.int .i64 (Lib.bitLen x.toNat)) ∧ w' = w := Any.bits_Len Try.lays125 x w h0 h1
def Try.lays129_ren : Go.Shelf.Ren := ⟨fun | 129 => 46 | n => n, fun | 53 => 67 | 3 => 3 | 4 => 4 | 46 => 40 | 5 => 5 | 9 => 9 | n => n, fun | n => n⟩
theorem Try.lays129 : Go.Proofs.Lays.n129 Try.prog Try.lays129_ren := {
  mixed := by kernel_rfl
  f129 := Try.func46.trans (congrArg some (by kernel_rfl))
  t3 := Try.underlying3
  a3 := Try.isAgg3
  z3 := Try.sizeOf3
  v3 := Try.zeroValue3
  t4 := Try.underlying4
  a4 := Try.isAgg4
  z4 := Try.sizeOf4
  v4 := Try.zeroValue4
  t5 := Try.underlying5
  a5 := Try.isAgg5
  z5 := Try.sizeOf5
  v5 := Try.zeroValue5
  t9 := Try.underlying9
  a9 := Try.isAgg9
  z9 := Try.sizeOf9
  v9 := Try.zeroValue9
  t46 := Try.underlying40
  a46 := Try.isAgg40
  z46 := Try.sizeOf40
  v46 := Try.zeroValue40
  t53 := Try.underlying67
  a53 := Try.isAgg67
  z53 := Try.sizeOf67
  v53 := Try.zeroValue67 }
/-- bits.Len64: "Len64 returns the minimum number of bits required to represent x; the result is 0 for x == 0.": IT RETURNS 'Lib.bitLen x'; the world is as it was. ('h0', 'h1': x is a uint64.) (LAID: no walk: one application.) -/
theorem Try.bits_Len64 (x : Int) (w : World) (h0 : 0 ≤ x) (h1 : x ≤ 18446744073709551615) :
    Calls Try.prog 46 #[.int .u64 x] w fun e w' => e = .returned (.int .i64 (Lib.bitLen x.toNat)) ∧ w' = w := Any.bits_Len64 Try.lays129 x w h0 h1
def Try.lays189_ren : Go.Shelf.Ren := ⟨fun | 189 => 21 | 125 => 31 | 257 => 30 | 128 => 45 | 129 => 46 | 294 => 36 | 295 => 37 | 296 => 38 | 297 => 39 | 298 => 40 | 299 => 41 | 216 => 42 | 300 => 43 | 301 => 44 | 328 => 51 | 329 => 52 | 330 => 53 | 331 => 54 | 332 => 55 | 215 => 56 | 343 => 57 | n => n, fun | 28 => 22 | 3 => 3 | 46 => 40 | 0 => 0 | 51 => 65 | 53 => 67 | 4 => 4 | 183 => 58 | 182 => 57 | 131 => 62 | 5 => 5 | 9 => 9 | 218 => 71 | 222 => 75 | 228 => 78 | 229 => 79 | n => n, fun | n => n⟩
theorem Try.lays189 : Go.Proofs.Lays.n189 Try.prog Try.lays189_ren := {
  mixed := by kernel_rfl
  f125 := Try.func31.trans (congrArg some (by kernel_rfl))
  f128 := Try.func45.trans (congrArg some (by kernel_rfl))
  f129 := Try.func46.trans (congrArg some (by kernel_rfl))
  f189 := Try.func21.trans (congrArg some (by kernel_rfl))
  f215 := Try.func56.trans (congrArg some (by kernel_rfl))
  f216 := Try.func42.trans (congrArg some (by kernel_rfl))
  f257 := Try.func30.trans (congrArg some (by kernel_rfl))
  f294 := Try.func36.trans (congrArg some (by kernel_rfl))
  f295 := Try.func37.trans (congrArg some (by kernel_rfl))
  f296 := Try.func38.trans (congrArg some (by kernel_rfl))
  f297 := Try.func39.trans (congrArg some (by kernel_rfl))
  f298 := Try.func40.trans (congrArg some (by kernel_rfl))
  f299 := Try.func41.trans (congrArg some (by kernel_rfl))
  f300 := Try.func43.trans (congrArg some (by kernel_rfl))
  f301 := Try.func44.trans (congrArg some (by kernel_rfl))
  f328 := Try.func51.trans (congrArg some (by kernel_rfl))
  f329 := Try.func52.trans (congrArg some (by kernel_rfl))
  f330 := Try.func53.trans (congrArg some (by kernel_rfl))
  f331 := Try.func54.trans (congrArg some (by kernel_rfl))
  f332 := Try.func55.trans (congrArg some (by kernel_rfl))
  f343 := Try.func57.trans (congrArg some (by kernel_rfl))
  t0 := Try.underlying0
  a0 := Try.isAgg0
  z0 := Try.sizeOf0
  v0 := Try.zeroValue0
  t3 := Try.underlying3
  a3 := Try.isAgg3
  z3 := Try.sizeOf3
  v3 := Try.zeroValue3
  t4 := Try.underlying4
  a4 := Try.isAgg4
  z4 := Try.sizeOf4
  v4 := Try.zeroValue4
  t5 := Try.underlying5
  a5 := Try.isAgg5
  z5 := Try.sizeOf5
  v5 := Try.zeroValue5
  t9 := Try.underlying9
  a9 := Try.isAgg9
  z9 := Try.sizeOf9
  v9 := Try.zeroValue9
  t28 := Try.underlying22
  a28 := Try.isAgg22
  z28 := Try.sizeOf22
  v28 := Try.zeroValue22
  t46 := Try.underlying40
  a46 := Try.isAgg40
  z46 := Try.sizeOf40
  v46 := Try.zeroValue40
  t51 := Try.underlying65
  a51 := Try.isAgg65
  z51 := Try.sizeOf65
  v51 := Try.zeroValue65
  t53 := Try.underlying67
  a53 := Try.isAgg67
  z53 := Try.sizeOf67
  v53 := Try.zeroValue67
  t131 := Try.underlying62
  a131 := Try.isAgg62
  z131 := Try.sizeOf62
  v131 := Try.zeroValue62
  t182 := Try.underlying57
  a182 := Try.isAgg57
  z182 := Try.sizeOf57
  v182 := Try.zeroValue57
  t183 := Try.underlying58
  a183 := Try.isAgg58
  z183 := Try.sizeOf58
  v183 := Try.zeroValue58
  t218 := Try.underlying71
  a218 := Try.isAgg71
  z218 := Try.sizeOf71
  v218 := Try.zeroValue71
  t222 := Try.underlying75
  a222 := Try.isAgg75
  z222 := Try.sizeOf75
  v222 := Try.zeroValue75
  t228 := Try.underlying78
  a228 := Try.isAgg78
  z228 := Try.sizeOf78
  v228 := Try.zeroValue78
  t229 := Try.underlying79
  a229 := Try.isAgg79
  z229 := Try.sizeOf79
  v229 := Try.zeroValue79 }
open Go.Sort Go.RowKit in
theorem Try.slices_Sort_int (blk off cap : Nat) (zs : List Int) (w : World) (hH : Holds (Value.int .i64) w blk off zs.toArray) (hblk : blk < w.heap.size) (hsz : zs.length < 4611686018427387904) :
    Calls Try.prog 21 #[.slice (some ⟨blk, off, none⟩) zs.length cap] w fun e w' =>
      e = .returned (.tuple #[]) ∧ ∃ n os, w' = grow (putRow (Value.int .i64) (Sort.ahead w n) blk off (zs.mergeSort fun x y => decide (x ≤ y)).toArray) os := Any.slices_Sort_int Try.lays189 blk off cap zs w hH hblk hsz
def Try.laysNm220_ren : Go.Shelf.Ren := ⟨fun | 20 => 22 | n => n, fun | 22 => 22 | 3 => 3 | 4 => 4 | 0 => 0 | n => n, fun | n => n⟩
theorem Try.laysNm220 : Go.Proofs.Lays2.n20 Try.prog Try.laysNm220_ren := {
  mixed := by kernel_rfl
  f20 := Try.func22.trans (congrArg some (by kernel_rfl))
  t0 := Try.underlying0
  a0 := Try.isAgg0
  z0 := Try.sizeOf0
  v0 := Try.zeroValue0
  t3 := Try.underlying3
  a3 := Try.isAgg3
  z3 := Try.sizeOf3
  v3 := Try.zeroValue3
  t4 := Try.underlying4
  a4 := Try.isAgg4
  z4 := Try.sizeOf4
  v4 := Try.zeroValue4
  t22 := Try.underlying22
  a22 := Try.isAgg22
  z22 := Try.sizeOf22
  v22 := Try.zeroValue22
  i3 := by kernel_rfl }
open Go.RowKit Go.Lib Go.Sort in
/-- slices.Compact at []int, over an array: the library's two loops are walked. (LAID: no walk: one application.) -/
theorem Try.slices_Compact_int_arr (blk off cap : Nat) (d : Array Int) (w : World) (hH : Holds encI w blk off d) (hsz : d.size ≤ 9223372036854775807) (hcap : d.size ≤ cap) :
    Calls Try.prog 22 #[.slice (some ⟨blk, off, none⟩) d.size cap] w fun e w' => e = .returned (.slice (some ⟨blk, off, none⟩) (compactUpTo d d.size).length cap) ∧ ∃ q, w' = putRow encI (Sort.ahead w q) blk off (compactUpTo d d.size ++ List.replicate (d.size - (compactUpTo d d.size).length) 0).toArray := Any.slices_Compact_int_arr Try.laysNm220 blk off cap d w hH hsz hcap
open Go.RowKit Go.Lib Go.Sort in
/-- slices.Compact at []int: "Compact replaces consecutive runs of equal elements with a single copy. This is like the uniq command found on Unix. Compact modifies the contents of the slice s and returns the modified slice, which may have a smaller length. Compact zeroes the elements between the new length and the original length. The result preserves the nilness of s.": IT RETURNS THE SLICE CUT TO 'Lib.compact zs'; ITS CELLS HOLD 'Lib.compact zs', THEN ZERO VALUES up to the old length; all else is as it was, but for the count of draws. IN THE WORDS OF slices.Sort's CONTRACT ('Holds', 'putRow'): so the everyday 'slices.Sort(xs); xs = slices.Compact(xs)' goes from the one contract to the other. It asks 'zs.length ≤ cap' (every slice's: the reslicing 's[:k]' looks at it). Length 0, nil: '.._empty'. (LAID: no walk: one application.) -/
theorem Try.slices_Compact_int (blk off cap : Nat) (zs : List Int) (w : World) (hH : Holds (Value.int .i64) w blk off zs.toArray) (hsz : zs.length ≤ 9223372036854775807) (hcap : zs.length ≤ cap) :
    Calls Try.prog 22 #[.slice (some ⟨blk, off, none⟩) zs.length cap] w fun e w' => e = .returned (.slice (some ⟨blk, off, none⟩) (Lib.compact zs).length cap) ∧ ∃ q, w' = putRow (Value.int .i64) (Sort.ahead w q) blk off (Lib.compact zs ++ List.replicate (zs.length - (Lib.compact zs).length) 0).toArray := Any.slices_Compact_int Try.laysNm220 blk off cap zs w hH hsz hcap
open Go.RowKit Go.Lib Go.Sort in
/-- The same at a slice of length 0, a nil one too: it comes back as it is. (LAID: no walk: one application.) -/
theorem Try.slices_Compact_int_empty (a : Option Addr) (cap : Nat) (w : World) :
    Calls Try.prog 22 #[.slice a 0 cap] w fun e w' => e = .returned (.slice a 0 cap) ∧ w' = w := Any.slices_Compact_int_empty Try.laysNm220 a cap w
def Try.laysNm237_ren : Go.Shelf.Ren := ⟨fun | 37 => 56 | n => n, fun | 3 => 3 | 4 => 4 | n => n, fun | n => n⟩
theorem Try.laysNm237 : Go.Proofs.Lays2.n37 Try.prog Try.laysNm237_ren := {
  mixed := by kernel_rfl
  f37 := Try.func56.trans (congrArg some (by kernel_rfl))
  t3 := Try.underlying3
  a3 := Try.isAgg3
  z3 := Try.sizeOf3
  v3 := Try.zeroValue3
  t4 := Try.underlying4
  a4 := Try.isAgg4
  z4 := Try.sizeOf4
  v4 := Try.zeroValue4 }
open Go.RowKit Go.Lib in
/-- cmp.isNaN[int]: 'x != x': false. (LAID: no walk: one application.) -/
theorem Try.cmp_isNaN_int2 (x : Int) (w : World) :
    Calls Try.prog 56 #[.int .i64 x] w fun e w' => e = .returned (.bool false) ∧ w' = w := Any.cmp_isNaN_int2 Try.laysNm237 x w
def Try.laysNm231_ren : Go.Shelf.Ren := ⟨fun | 31 => 42 | 37 => 56 | n => n, fun | 3 => 3 | 4 => 4 | n => n, fun | n => n⟩
theorem Try.laysNm231 : Go.Proofs.Lays2.n31 Try.prog Try.laysNm231_ren := {
  mixed := by kernel_rfl
  f31 := Try.func42.trans (congrArg some (by kernel_rfl))
  f37 := Try.func56.trans (congrArg some (by kernel_rfl))
  t3 := Try.underlying3
  a3 := Try.isAgg3
  z3 := Try.sizeOf3
  v3 := Try.zeroValue3
  t4 := Try.underlying4
  a4 := Try.isAgg4
  z4 := Try.sizeOf4
  v4 := Try.zeroValue4 }
open Go.RowKit Go.Lib in
/-- cmp.Less[int]: "Less reports whether x is less than y.": 'x < y'; the world is as it was. (LAID: no walk: one application.) -/
theorem Try.cmp_Less_int2 (x y : Int) (w : World) :
    Calls Try.prog 42 #[.int .i64 x, .int .i64 y] w fun e w' => e = .returned (.bool (decide (x < y))) ∧ w' = w := Any.cmp_Less_int2 Try.laysNm231 x y w
open Go.RowKit Go.Lib Go.Sort in
/-- slices.Compact at []int, of an argument: the slice cut to 'Lib.compact (elements)'; the n cells hold that, then zeros. (LAID: no walk: one application.) -/
theorem Try.slices_Compact_int_cells (b off n c : Nat) (zs : List Int) (w : World) (hz : n ≤ zs.length) (hbig : n ≤ 9223372036854775807) (hcap : n ≤ c) (hc : ∀ j, j < zs.length → w.cell? ⟨b, off + j, none⟩ = some (.int .i64 (zs.getD j 0))) (hf : ∀ j, j < n → w.frozen? ⟨b, off + j, none⟩ = false) :
    Calls Try.prog 22 #[.slice (some ⟨b, off, none⟩) n c] w fun e w' => e = .returned (.slice (some ⟨b, off, none⟩) (Lib.compact (zs.take n)).length c) ∧ ∃ q, w' = (w.drewN q).setCells b off ((Lib.compact (zs.take n) ++ List.replicate (n - (Lib.compact (zs.take n)).length) 0).map (Value.int .i64)) := Any.slices_Compact_int_cells Try.laysNm220 b off n c zs w hz hbig hcap hc hf
open Go.RowKit Go.Sort in
/-- .. and plain. (LAID: no walk: one application.) -/
theorem Try.slices_Sort_int_none (p : Option Addr) (cap : Nat) (w : World) :
    Calls Try.prog 21 #[.slice p 0 cap] w fun e w' => e = .returned (.tuple #[]) ∧ w' = w := Any.slices_Sort_int_none Try.lays189 p cap w
end Go.Proofs
/-
  slices_Sort_int_int: its contract
-/
set_option linter.unusedVariables false
namespace Go.Vx
open Go.Proofs
def slices_Sort_int_int_e (n : Nat) : Entry := sortE 3
theorem slices_Sort_int_int_ok (n : Nat) : EntryOK Try.prog 21 (slices_Sort_int_int_e n) := sortE_ok Try.func21 (by kernel_rfl) (by kernel_rfl) ⟨fun blk off cap zs w => Try.slices_Sort_int blk off cap zs w, fun p cap w => Try.slices_Sort_int_none p cap w⟩
end Go.Vx
/-
  slices_Compact_int_int: its contract
-/
set_option linter.unusedVariables false
namespace Go.Vx
open Go.Proofs
def slices_Compact_int_int_e (n : Nat) : Entry := compactE 3
theorem slices_Compact_int_int_ok (n : Nat) : EntryOK Try.prog 22 (slices_Compact_int_int_e n) := compactE_ok Try.func22 (by kernel_rfl) (by kernel_rfl) ⟨fun blk off cap zs w => Try.slices_Compact_int blk off cap zs w, fun p cap w => Try.slices_Compact_int_empty p cap w⟩
end Go.Vx
/-
  occupancy_At: the interpreter computes the pure function
-/
set_option linter.unusedVariables false
set_option linter.unusedSimpArgs false
set_option maxRecDepth 100000
namespace Go.Vx
open Go.Proofs
noncomputable def occupancy_At_c0 : Code := bodyOf Try.f9
noncomputable def occupancy_At_c1 : Code := cL (bodyOf Try.f9)
noncomputable def occupancy_At_c2 : Code := cL (cR (bodyOf Try.f9))
noncomputable def occupancy_At_c3 : Code := cL (cR (cR (bodyOf Try.f9)))
noncomputable def occupancy_At_c4 : Code := cL (cR (cR (cR (bodyOf Try.f9))))
noncomputable def occupancy_At_c5 : Code := cL (cL (cR (cR (cR (cR (bodyOf Try.f9))))))
noncomputable def occupancy_At_c6 : Code := cB (cB (cR (cL (cR (cR (cR (cR (bodyOf Try.f9))))))))
noncomputable def occupancy_At_c7 : Code := cB (cR (cL (cR (cR (cR (cR (bodyOf Try.f9)))))))
noncomputable def occupancy_At_c8 : Code := cR (cL (cR (cR (cR (cR (bodyOf Try.f9))))))
noncomputable def occupancy_At_c9 : Code := cL (cR (cR (cR (cR (bodyOf Try.f9)))))
noncomputable def occupancy_At_c10 : Code := cR (cR (cR (cR (cR (bodyOf Try.f9)))))
noncomputable def occupancy_At_c11 : Code := cR (cR (cR (cR (bodyOf Try.f9))))
noncomputable def occupancy_At_c12 : Code := cR (cR (cR (bodyOf Try.f9)))
noncomputable def occupancy_At_c13 : Code := cR (cR (bodyOf Try.f9))
noncomputable def occupancy_At_c14 : Code := cR (bodyOf Try.f9)
theorem occupancy_At_c7_eq : occupancy_At_c7 = .loop occupancy_At_c6 := by kernel_rfl
theorem occupancy_At_c8_eq : occupancy_At_c8 = .block 0 occupancy_At_c7 := by kernel_rfl
theorem occupancy_At_c9_eq : occupancy_At_c9 = .seq occupancy_At_c5 occupancy_At_c8 := by kernel_rfl
theorem occupancy_At_c11_eq : occupancy_At_c11 = .seq occupancy_At_c9 occupancy_At_c10 := by kernel_rfl
theorem occupancy_At_c12_eq : occupancy_At_c12 = .seq occupancy_At_c4 occupancy_At_c11 := by kernel_rfl
theorem occupancy_At_c13_eq : occupancy_At_c13 = .seq occupancy_At_c3 occupancy_At_c12 := by kernel_rfl
theorem occupancy_At_c14_eq : occupancy_At_c14 = .seq occupancy_At_c2 occupancy_At_c13 := by kernel_rfl
theorem occupancy_At_c0_eq : occupancy_At_c0 = .seq occupancy_At_c1 occupancy_At_c14 := by kernel_rfl
def occupancy_At_tt : TT := [(3, ⟨.int .i64, 1, 8, [.int .i64 0], [.int .i64 0], [], none⟩), (22, ⟨.sl 3 1, 1, 24, [.slice none 0 0], [.sl 1 []], [], none⟩), (24, ⟨.sl 31 5, 1, 24, [.slice none 0 0], [.sl 5 []], [], none⟩), (31, ⟨.struct, 5, 40, [.int .i64 0, .int .i64 0, .int .i64 0, .int .i64 0, .int .i64 0], [.int .i64 0, .int .i64 0, .int .i64 0, .int .i64 0, .int .i64 0], [(0, 3), (1, 3), (2, 3), (3, 3), (4, 3)], some [.int .i64, .int .i64, .int .i64, .int .i64, .int .i64]⟩)]
theorem occupancy_At_tt_eq : mkTT Try.prog [3, 22, 24, 31] = occupancy_At_tt := by kernel_rfl
def occupancy_At_cfg : List (Nat × Cfg) := [(0, ⟨[0, 1, 2, 3], [], [], [], []⟩), (1, ⟨[0, 1, 2, 3, 16], [], [], [], []⟩), (2, ⟨[8], [], [], [], []⟩), (3, ⟨[0, 1, 2, 3, 9], [], [], [], []⟩), (4, ⟨[0, 1, 2, 9, 10], [], [], [], []⟩), (5, ⟨[0, 2, 9, 10, 20, 21, 22], [], [(9, 1009, 3, 1)], [], []⟩), (6, ⟨[0, 2, 9, 10, 20, 21, 22, 23], [(1009, 1009)], [], [], []⟩), (7, ⟨[0, 2, 9, 10, 12, 20, 21, 22], [(12, 12), (1009, 1009)], [], [], []⟩), (8, ⟨[0, 2, 9, 10, 12, 20, 21, 22, 40], [(12, 12), (1009, 1009)], [], [], []⟩), (9, ⟨[0, 2, 9, 10, 20, 21, 22], [(45, 1009)], [], [], []⟩), (10, ⟨[0, 2, 9, 10, 20, 21, 22], [(1009, 1009)], [], [], []⟩), (11, ⟨[9], [(1009, 1009)], [], [], []⟩), (12, ⟨[8], [(100050, 100050)], [], [], []⟩)]
def occupancy_At_C (n : Nat) : VC := ⟨specOf [(19, occupancy_Valid_e n), (20, arith_Mod_e n), (21, slices_Sort_int_int_e n), (22, slices_Compact_int_int_e n)], occupancy_At_tt, occupancy_At_cfg⟩
theorem occupancy_At_ents (n : Nat) : EntsOK Try.prog [(19, occupancy_Valid_e n), (20, arith_Mod_e n), (21, slices_Sort_int_int_e n), (22, slices_Compact_int_int_e n)] := ⟨occupancy_Valid_ok n, ⟨arith_Mod_ok n, ⟨slices_Sort_int_int_ok n, ⟨slices_Compact_int_int_ok n, trivial⟩⟩⟩⟩
theorem occupancy_At_VC (n : Nat) : VCOk Try.prog (occupancy_At_C n) := ⟨specOf_ok (occupancy_At_ents n), (occupancy_At_tt_eq ▸ mkTT_ok _ : TOk Try.prog occupancy_At_tt), by kernel_rfl⟩
theorem occupancy_At_p1_congr {R : Type} (n : Nat) (a0 : Int) (a1 : List (List D)) (a2 : Int) (a3 : Int) {k0 kk0 : Option R} (hq0 : k0 = kk0) : occupancy_At_p1 n a0 a1 a2 a3 k0 = occupancy_At_p1 n a0 a1 a2 a3 kk0 := by
  obtain rfl : k0 = kk0 := hq0
  rfl
theorem occupancy_At_p2_congr {R : Type} (n : Nat) (a0 : Int) (a1 : List (List D)) (a2 : Int) (a3 : Int) {k0 kk0 : Option R} {k1 kk1 : Bool → Option R} (hq0 : k0 = kk0) (hq1 : ∀ x0, k1 x0 = kk1 x0) : occupancy_At_p2 n a0 a1 a2 a3 k0 k1 = occupancy_At_p2 n a0 a1 a2 a3 kk0 kk1 := by
  obtain rfl : k0 = kk0 := hq0
  obtain rfl : k1 = kk1 := funext fun x0 => hq1 x0
  rfl
theorem occupancy_At_p3_congr {R : Type} (n : Nat) (a0 : Int) (a1 : List (List D)) (a2 : Int) (a3 : Int) (w3 : Bool) {k0 kk0 : Option R} (hq0 : k0 = kk0) : occupancy_At_p3 n a0 a1 a2 a3 w3 k0 = occupancy_At_p3 n a0 a1 a2 a3 w3 kk0 := by
  obtain rfl : k0 = kk0 := hq0
  rfl
theorem occupancy_At_p4_congr {R : Type} (n : Nat) (a0 : Int) (a1 : List (List D)) (a2 : Int) (a3 : Int) {k0 kk0 : Int → Option R} (hq0 : ∀ x0, k0 x0 = kk0 x0) : occupancy_At_p4 n a0 a1 a2 a3 k0 = occupancy_At_p4 n a0 a1 a2 a3 kk0 := by
  obtain rfl : k0 = kk0 := funext fun x0 => hq0 x0
  rfl
theorem occupancy_At_p5_congr {R : Type} (n : Nat) (a0 : Int) (a1 : List (List D)) (a2 : Int) (w5 : Int) {k0 kk0 : Int → Option R} (hq0 : ∀ x0, k0 x0 = kk0 x0) : occupancy_At_p5 n a0 a1 a2 w5 k0 = occupancy_At_p5 n a0 a1 a2 w5 kk0 := by
  obtain rfl : k0 = kk0 := funext fun x0 => hq0 x0
  rfl
theorem occupancy_At_p6_congr {R : Type} (n : Nat) (a0 : Int) (a2 : Int) (w5 : Int) (a1 : List (List D)) (w7 : Int) (h13 : Int) (h14 : List (List D)) {k0 kk0 : Int → (List (List D)) → Option R} {k1 kk1 : Bool → Option R} (hq0 : ∀ x0 x1, k0 x0 x1 = kk0 x0 x1) (hq1 : ∀ x0, k1 x0 = kk1 x0) : occupancy_At_p6 n a0 a2 w5 a1 w7 h13 h14 k0 k1 = occupancy_At_p6 n a0 a2 w5 a1 w7 h13 h14 kk0 kk1 := by
  obtain rfl : k0 = kk0 := funext fun x0 => funext fun x1 => hq0 x0 x1
  obtain rfl : k1 = kk1 := funext fun x0 => hq1 x0
  rfl
theorem occupancy_At_p7_congr {R : Type} (n : Nat) (a0 : Int) (a2 : Int) (w5 : Int) (a1 : List (List D)) (w7 : Int) {k0 kk0 : Int → Bool → (List (List D)) → Option R} (hq0 : ∀ x0 x1 x2, k0 x0 x1 x2 = kk0 x0 x1 x2) : occupancy_At_p7 n a0 a2 w5 a1 w7 k0 = occupancy_At_p7 n a0 a2 w5 a1 w7 kk0 := by
  obtain rfl : k0 = kk0 := funext fun x0 => funext fun x1 => funext fun x2 => hq0 x0 x1 x2
  rfl
theorem occupancy_At_p8_congr {R : Type} (n : Nat) (a0 : Int) (a2 : Int) (w5 : Int) (a1 : List (List D)) (w7 : Int) {k0 kk0 : Int → Bool → (List (List D)) → Option R} (hq0 : ∀ x0 x1 x2, k0 x0 x1 x2 = kk0 x0 x1 x2) : occupancy_At_p8 n a0 a2 w5 a1 w7 k0 = occupancy_At_p8 n a0 a2 w5 a1 w7 kk0 := by
  obtain rfl : k0 = kk0 := funext fun x0 => funext fun x1 => funext fun x2 => hq0 x0 x1 x2
  rfl
theorem occupancy_At_p9_congr {R : Type} (n : Nat) (a0 : Int) (a1 : List (List D)) (a2 : Int) (w5 : Int) {k0 kk0 : Int → Int → Bool → (List (List D)) → Option R} (hq0 : ∀ x0 x1 x2 x3, k0 x0 x1 x2 x3 = kk0 x0 x1 x2 x3) : occupancy_At_p9 n a0 a1 a2 w5 k0 = occupancy_At_p9 n a0 a1 a2 w5 kk0 := by
  obtain rfl : k0 = kk0 := funext fun x0 => funext fun x1 => funext fun x2 => funext fun x3 => hq0 x0 x1 x2 x3
  rfl
theorem occupancy_At_p10_congr {R : Type} (n : Nat) (a0 : Int) (a2 : Int) (w5 : Int) (a1 : List (List D)) (w54 : Int) (w55 : Int) (w56 : Bool) (w57 : List (List D)) {k0 kk0 : (List (List D)) → Option R} (hq0 : ∀ x0, k0 x0 = kk0 x0) : occupancy_At_p10 n a0 a2 w5 a1 w54 w55 w56 w57 k0 = occupancy_At_p10 n a0 a2 w5 a1 w54 w55 w56 w57 kk0 := by
  obtain rfl : k0 = kk0 := funext fun x0 => hq0 x0
  rfl
theorem occupancy_At_p11_congr {R : Type} (n : Nat) (a0 : Int) (a1 : List (List D)) (a2 : Int) (w5 : Int) {k0 kk0 : (List (List D)) → Option R} (hq0 : ∀ x0, k0 x0 = kk0 x0) : occupancy_At_p11 n a0 a1 a2 w5 k0 = occupancy_At_p11 n a0 a1 a2 w5 kk0 := by
  obtain rfl : k0 = kk0 := funext fun x0 => hq0 x0
  rfl
theorem occupancy_At_p12_congr {R : Type} (n : Nat) (a0 : Int) (a1 : List (List D)) (a2 : Int) (a3 : Int) {k0 kk0 : (List (List D)) → Option R} (hq0 : ∀ x0, k0 x0 = kk0 x0) : occupancy_At_p12 n a0 a1 a2 a3 k0 = occupancy_At_p12 n a0 a1 a2 a3 kk0 := by
  obtain rfl : k0 = kk0 := funext fun x0 => hq0 x0
  rfl
theorem occupancy_At_p13_congr {R : Type} (n : Nat) (a0 : Int) (a1 : List (List D)) (a2 : Int) (a3 : Int) (w3 : Bool) {k0 kk0 : (List (List D)) → Option R} (hq0 : ∀ x0, k0 x0 = kk0 x0) : occupancy_At_p13 n a0 a1 a2 a3 w3 k0 = occupancy_At_p13 n a0 a1 a2 a3 w3 kk0 := by
  obtain rfl : k0 = kk0 := funext fun x0 => hq0 x0
  rfl
theorem occupancy_At_p14_congr {R : Type} (n : Nat) (a0 : Int) (a1 : List (List D)) (a2 : Int) (a3 : Int) {k0 kk0 : Option R} {k1 kk1 : (List (List D)) → Option R} (hq0 : k0 = kk0) (hq1 : ∀ x0, k1 x0 = kk1 x0) : occupancy_At_p14 n a0 a1 a2 a3 k0 k1 = occupancy_At_p14 n a0 a1 a2 a3 kk0 kk1 := by
  obtain rfl : k0 = kk0 := hq0
  obtain rfl : k1 = kk1 := funext fun x0 => hq1 x0
  rfl
theorem occupancy_At_p15_congr {R : Type} (n : Nat) (a0 : Int) (a1 : List (List D)) (a2 : Int) (a3 : Int) {k0 kk0 : Option R} {k1 kk1 : (List (List D)) → Option R} (hq0 : k0 = kk0) (hq1 : ∀ x0, k1 x0 = kk1 x0) : occupancy_At_p15 n a0 a1 a2 a3 k0 k1 = occupancy_At_p15 n a0 a1 a2 a3 kk0 kk1 := by
  obtain rfl : k0 = kk0 := hq0
  obtain rfl : k1 = kk1 := funext fun x0 => hq1 x0
  rfl
theorem occupancy_At_p1_eq {R : Type} (n : Nat) (a0 : Int) (a1 : List (List D)) (a2 : Int) (a3 : Int) (k : Exit → St → Option R) : vexec (occupancy_At_C n) n occupancy_At_c1 ⟨51, [(0, .d (D.int .i64 a0)), (1, .d (D.sl 5 a1)), (2, .d (D.int .i64 a2)), (3, .d (D.int .i64 a3))], []⟩ k = occupancy_At_p1 n a0 a1 a2 a3 (k .normal ⟨51, [(0, .d (D.int .i64 a0)), (1, .d (D.sl 5 a1)), (2, .d (D.int .i64 a2)), (3, .d (D.int .i64 a3))], []⟩) := by kernel_rfl
theorem occupancy_At_p2_eq {R : Type} (n : Nat) (a0 : Int) (a1 : List (List D)) (a2 : Int) (a3 : Int) (k : Exit → St → Option R) : vexec (occupancy_At_C n) n occupancy_At_c2 ⟨51, [(0, .d (D.int .i64 a0)), (1, .d (D.sl 5 a1)), (2, .d (D.int .i64 a2)), (3, .d (D.int .i64 a3))], []⟩ k = occupancy_At_p2 n a0 a1 a2 a3 (k .ret ⟨51, [(8, .nil)], []⟩) (fun z2 => k .normal ⟨51, [(0, .d (D.int .i64 a0)), (1, .d (D.sl 5 a1)), (2, .d (D.int .i64 a2)), (3, .d (D.int .i64 a3)), (16, .d (D.bool z2))], []⟩) := by kernel_rfl
theorem occupancy_At_p3_eq {R : Type} (n : Nat) (a0 : Int) (a1 : List (List D)) (a2 : Int) (a3 : Int) (w3 : Bool) (k : Exit → St → Option R) : vexec (occupancy_At_C n) n occupancy_At_c3 ⟨51, [(0, .d (D.int .i64 a0)), (1, .d (D.sl 5 a1)), (2, .d (D.int .i64 a2)), (3, .d (D.int .i64 a3)), (16, .d (D.bool w3))], []⟩ k = occupancy_At_p3 n a0 a1 a2 a3 w3 (k .normal ⟨51, [(0, .d (D.int .i64 a0)), (1, .d (D.sl 5 a1)), (2, .d (D.int .i64 a2)), (3, .d (D.int .i64 a3)), (9, .nil)], []⟩) := by kernel_rfl
theorem occupancy_At_p4_eq {R : Type} (n : Nat) (a0 : Int) (a1 : List (List D)) (a2 : Int) (a3 : Int) (k : Exit → St → Option R) : vexec (occupancy_At_C n) n occupancy_At_c4 ⟨51, [(0, .d (D.int .i64 a0)), (1, .d (D.sl 5 a1)), (2, .d (D.int .i64 a2)), (3, .d (D.int .i64 a3)), (9, .nil)], []⟩ k = occupancy_At_p4 n a0 a1 a2 a3 (fun r4 => k .normal ⟨51, [(0, .d (D.int .i64 a0)), (1, .d (D.sl 5 a1)), (2, .d (D.int .i64 a2)), (9, .nil), (10, .d (D.int .i64 r4))], []⟩) := by kernel_rfl
theorem occupancy_At_p5_eq {R : Type} (n : Nat) (a0 : Int) (a1 : List (List D)) (a2 : Int) (w5 : Int) (k : Exit → St → Option R) : vexec (occupancy_At_C n) n occupancy_At_c5 ⟨51, [(0, .d (D.int .i64 a0)), (1, .d (D.sl 5 a1)), (2, .d (D.int .i64 a2)), (9, .nil), (10, .d (D.int .i64 w5))], []⟩ k = occupancy_At_p5 n a0 a1 a2 w5 (fun z6 => k .normal ⟨51, [(0, .d (D.int .i64 a0)), (2, .d (D.int .i64 a2)), (9, .arr 1009), (10, .d (D.int .i64 w5)), (20, .d (D.sl 5 a1)), (21, .d (D.int .i64 z6)), (22, .d (D.int .i64 (0 : Int)))], [(1009, .arr 3 1 [])]⟩) := by kernel_rfl
theorem occupancy_At_p6_eq {R : Type} (n : Nat) (a0 : Int) (a2 : Int) (w5 : Int) (a1 : List (List D)) (w7 : Int) (h13 : Int) (h14 : List (List D)) (k : Exit → St → Option R) : vexec (occupancy_At_C n) n occupancy_At_c6 ⟨51, [(0, .d (D.int .i64 a0)), (2, .d (D.int .i64 a2)), (9, .arr 1009), (10, .d (D.int .i64 w5)), (20, .d (D.sl 5 a1)), (21, .d (D.int .i64 w7)), (22, .d (D.int .i64 h13))], [(1009, .arr 3 1 h14)]⟩ k = occupancy_At_p6 n a0 a2 w5 a1 w7 h13 h14 (fun z42 z43 => k .normal ⟨51, [(0, .d (D.int .i64 a0)), (2, .d (D.int .i64 a2)), (9, .arr 1009), (10, .d (D.int .i64 w5)), (20, .d (D.sl 5 a1)), (21, .d (D.int .i64 w7)), (22, .d (D.int .i64 z42))], [(1009, .arr 3 1 z43)]⟩) (fun z44 => k (.exit 0) ⟨51, [(0, .d (D.int .i64 a0)), (2, .d (D.int .i64 a2)), (9, .arr 1009), (10, .d (D.int .i64 w5)), (20, .d (D.sl 5 a1)), (21, .d (D.int .i64 w7)), (22, .d (D.int .i64 h13)), (23, .d (D.bool z44))], [(1009, .arr 3 1 h14)]⟩) := by kernel_rfl
theorem occupancy_At_r7_eq {R : Type} (n : Nat) (a0 : Int) (a2 : Int) (w5 : Int) (a1 : List (List D)) (w7 : Int) (k : Exit → St → Option R) : ∀ (m : Nat) (h13 : Int) (h14 : List (List D)), loopN (vexec (occupancy_At_C n) n occupancy_At_c6) m ⟨51, [(0, .d (D.int .i64 a0)), (2, .d (D.int .i64 a2)), (9, .arr 1009), (10, .d (D.int .i64 w5)), (20, .d (D.sl 5 a1)), (21, .d (D.int .i64 w7)), (22, .d (D.int .i64 h13))], [(1009, .arr 3 1 h14)]⟩ k = occupancy_At_r7 n a0 a2 w5 a1 w7 (fun h13 w47 h14 => k (.exit 0) ⟨51, [(0, .d (D.int .i64 a0)), (2, .d (D.int .i64 a2)), (9, .arr 1009), (10, .d (D.int .i64 w5)), (20, .d (D.sl 5 a1)), (21, .d (D.int .i64 w7)), (22, .d (D.int .i64 h13)), (23, .d (D.bool w47))], [(1009, .arr 3 1 h14)]⟩) m h13 h14
  | 0, _, _ => rfl
  | m + 1, h13, h14 => (occupancy_At_p6_eq n a0 a2 w5 a1 w7 h13 h14 (loopK (vexec (occupancy_At_C n) n occupancy_At_c6) m k)).trans (occupancy_At_p6_congr n a0 a2 w5 a1 w7 h13 h14 (fun w45 w46 => occupancy_At_r7_eq n a0 a2 w5 a1 w7 k m w45 w46) (fun w47 => rfl))
theorem occupancy_At_p7_eq {R : Type} (n : Nat) (a0 : Int) (a2 : Int) (w5 : Int) (a1 : List (List D)) (w7 : Int) (k : Exit → St → Option R) : vexec (occupancy_At_C n) n occupancy_At_c7 ⟨51, [(0, .d (D.int .i64 a0)), (2, .d (D.int .i64 a2)), (9, .arr 1009), (10, .d (D.int .i64 w5)), (20, .d (D.sl 5 a1)), (21, .d (D.int .i64 w7)), (22, .d (D.int .i64 (0 : Int)))], [(1009, .arr 3 1 [])]⟩ k = occupancy_At_p7 n a0 a2 w5 a1 w7 (fun h13 w47 h14 => k (.exit 0) ⟨51, [(0, .d (D.int .i64 a0)), (2, .d (D.int .i64 a2)), (9, .arr 1009), (10, .d (D.int .i64 w5)), (20, .d (D.sl 5 a1)), (21, .d (D.int .i64 w7)), (22, .d (D.int .i64 h13)), (23, .d (D.bool w47))], [(1009, .arr 3 1 h14)]⟩) := by
  rw [occupancy_At_c7_eq]
  exact occupancy_At_r7_eq n a0 a2 w5 a1 w7 k n (0 : Int) []
theorem occupancy_At_p8_eq {R : Type} (n : Nat) (a0 : Int) (a2 : Int) (w5 : Int) (a1 : List (List D)) (w7 : Int) (k : Exit → St → Option R) : vexec (occupancy_At_C n) n occupancy_At_c8 ⟨51, [(0, .d (D.int .i64 a0)), (2, .d (D.int .i64 a2)), (9, .arr 1009), (10, .d (D.int .i64 w5)), (20, .d (D.sl 5 a1)), (21, .d (D.int .i64 w7)), (22, .d (D.int .i64 (0 : Int)))], [(1009, .arr 3 1 [])]⟩ k = occupancy_At_p8 n a0 a2 w5 a1 w7 (fun w48 w49 w50 => k .normal ⟨51, [(0, .d (D.int .i64 a0)), (2, .d (D.int .i64 a2)), (9, .arr 1009), (10, .d (D.int .i64 w5)), (20, .d (D.sl 5 a1)), (21, .d (D.int .i64 w7)), (22, .d (D.int .i64 w48)), (23, .d (D.bool w49))], [(1009, .arr 3 1 w50)]⟩) := by
  rw [occupancy_At_c8_eq]
  unfold occupancy_At_p8
  exact (occupancy_At_p7_eq n a0 a2 w5 a1 w7 (blockK 0 k)).trans (occupancy_At_p7_congr n a0 a2 w5 a1 w7 (fun w48 w49 w50 => rfl))
theorem occupancy_At_p9_eq {R : Type} (n : Nat) (a0 : Int) (a1 : List (List D)) (a2 : Int) (w5 : Int) (k : Exit → St → Option R) : vexec (occupancy_At_C n) n occupancy_At_c9 ⟨51, [(0, .d (D.int .i64 a0)), (1, .d (D.sl 5 a1)), (2, .d (D.int .i64 a2)), (9, .nil), (10, .d (D.int .i64 w5))], []⟩ k = occupancy_At_p9 n a0 a1 a2 w5 (fun w7 w51 w52 w53 => k .normal ⟨51, [(0, .d (D.int .i64 a0)), (2, .d (D.int .i64 a2)), (9, .arr 1009), (10, .d (D.int .i64 w5)), (20, .d (D.sl 5 a1)), (21, .d (D.int .i64 w7)), (22, .d (D.int .i64 w51)), (23, .d (D.bool w52))], [(1009, .arr 3 1 w53)]⟩) := by
  rw [occupancy_At_c9_eq]
  unfold occupancy_At_p9
  exact (occupancy_At_p5_eq n a0 a1 a2 w5 (seqK (occupancy_At_C n) n occupancy_At_c8 k)).trans (occupancy_At_p5_congr n a0 a1 a2 w5 (fun w7 => occupancy_At_p8_eq n a0 a2 w5 a1 w7 k))
theorem occupancy_At_p10_eq {R : Type} (n : Nat) (a0 : Int) (a2 : Int) (w5 : Int) (a1 : List (List D)) (w54 : Int) (w55 : Int) (w56 : Bool) (w57 : List (List D)) (k : Exit → St → Option R) : vexec (occupancy_At_C n) n occupancy_At_c10 ⟨51, [(0, .d (D.int .i64 a0)), (2, .d (D.int .i64 a2)), (9, .arr 1009), (10, .d (D.int .i64 w5)), (20, .d (D.sl 5 a1)), (21, .d (D.int .i64 w54)), (22, .d (D.int .i64 w55)), (23, .d (D.bool w56))], [(1009, .arr 3 1 w57)]⟩ k = occupancy_At_p10 n a0 a2 w5 a1 w54 w55 w56 w57 (fun z62 => k .ret ⟨51, [(8, .arr 100050)], [(100050, .arr 3 1 z62)]⟩) := by kernel_rfl
theorem occupancy_At_p11_eq {R : Type} (n : Nat) (a0 : Int) (a1 : List (List D)) (a2 : Int) (w5 : Int) (k : Exit → St → Option R) : vexec (occupancy_At_C n) n occupancy_At_c11 ⟨51, [(0, .d (D.int .i64 a0)), (1, .d (D.sl 5 a1)), (2, .d (D.int .i64 a2)), (9, .nil), (10, .d (D.int .i64 w5))], []⟩ k = occupancy_At_p11 n a0 a1 a2 w5 (fun w63 => k .ret ⟨51, [(8, .arr 100050)], [(100050, .arr 3 1 w63)]⟩) := by
  rw [occupancy_At_c11_eq]
  unfold occupancy_At_p11
  exact (occupancy_At_p9_eq n a0 a1 a2 w5 (seqK (occupancy_At_C n) n occupancy_At_c10 k)).trans (occupancy_At_p9_congr n a0 a1 a2 w5 (fun w54 w55 w56 w57 => occupancy_At_p10_eq n a0 a2 w5 a1 w54 w55 w56 w57 k))
theorem occupancy_At_p12_eq {R : Type} (n : Nat) (a0 : Int) (a1 : List (List D)) (a2 : Int) (a3 : Int) (k : Exit → St → Option R) : vexec (occupancy_At_C n) n occupancy_At_c12 ⟨51, [(0, .d (D.int .i64 a0)), (1, .d (D.sl 5 a1)), (2, .d (D.int .i64 a2)), (3, .d (D.int .i64 a3)), (9, .nil)], []⟩ k = occupancy_At_p12 n a0 a1 a2 a3 (fun w64 => k .ret ⟨51, [(8, .arr 100050)], [(100050, .arr 3 1 w64)]⟩) := by
  rw [occupancy_At_c12_eq]
  unfold occupancy_At_p12
  exact (occupancy_At_p4_eq n a0 a1 a2 a3 (seqK (occupancy_At_C n) n occupancy_At_c11 k)).trans (occupancy_At_p4_congr n a0 a1 a2 a3 (fun w5 => occupancy_At_p11_eq n a0 a1 a2 w5 k))
theorem occupancy_At_p13_eq {R : Type} (n : Nat) (a0 : Int) (a1 : List (List D)) (a2 : Int) (a3 : Int) (w3 : Bool) (k : Exit → St → Option R) : vexec (occupancy_At_C n) n occupancy_At_c13 ⟨51, [(0, .d (D.int .i64 a0)), (1, .d (D.sl 5 a1)), (2, .d (D.int .i64 a2)), (3, .d (D.int .i64 a3)), (16, .d (D.bool w3))], []⟩ k = occupancy_At_p13 n a0 a1 a2 a3 w3 (fun w65 => k .ret ⟨51, [(8, .arr 100050)], [(100050, .arr 3 1 w65)]⟩) := by
  rw [occupancy_At_c13_eq]
  unfold occupancy_At_p13
  exact (occupancy_At_p3_eq n a0 a1 a2 a3 w3 (seqK (occupancy_At_C n) n occupancy_At_c12 k)).trans (occupancy_At_p3_congr n a0 a1 a2 a3 w3 (occupancy_At_p12_eq n a0 a1 a2 a3 k))
theorem occupancy_At_p14_eq {R : Type} (n : Nat) (a0 : Int) (a1 : List (List D)) (a2 : Int) (a3 : Int) (k : Exit → St → Option R) : vexec (occupancy_At_C n) n occupancy_At_c14 ⟨51, [(0, .d (D.int .i64 a0)), (1, .d (D.sl 5 a1)), (2, .d (D.int .i64 a2)), (3, .d (D.int .i64 a3))], []⟩ k = occupancy_At_p14 n a0 a1 a2 a3 (k .ret ⟨51, [(8, .nil)], []⟩) (fun w66 => k .ret ⟨51, [(8, .arr 100050)], [(100050, .arr 3 1 w66)]⟩) := by
  rw [occupancy_At_c14_eq]
  unfold occupancy_At_p14
  exact (occupancy_At_p2_eq n a0 a1 a2 a3 (seqK (occupancy_At_C n) n occupancy_At_c13 k)).trans (occupancy_At_p2_congr n a0 a1 a2 a3 (rfl) (fun w3 => occupancy_At_p13_eq n a0 a1 a2 a3 w3 k))
theorem occupancy_At_p15_eq {R : Type} (n : Nat) (a0 : Int) (a1 : List (List D)) (a2 : Int) (a3 : Int) (k : Exit → St → Option R) : vexec (occupancy_At_C n) n occupancy_At_c0 ⟨51, [(0, .d (D.int .i64 a0)), (1, .d (D.sl 5 a1)), (2, .d (D.int .i64 a2)), (3, .d (D.int .i64 a3))], []⟩ k = occupancy_At_p15 n a0 a1 a2 a3 (k .ret ⟨51, [(8, .nil)], []⟩) (fun w67 => k .ret ⟨51, [(8, .arr 100050)], [(100050, .arr 3 1 w67)]⟩) := by
  rw [occupancy_At_c0_eq]
  unfold occupancy_At_p15
  exact (occupancy_At_p1_eq n a0 a1 a2 a3 (seqK (occupancy_At_C n) n occupancy_At_c14 k)).trans (occupancy_At_p1_congr n a0 a1 a2 a3 (occupancy_At_p14_eq n a0 a1 a2 a3 k))
theorem occupancy_At_vfn {R : Type} (n : Nat) (a0 : Int) (a1 : List (List D)) (a2 : Int) (a3 : Int) (K : AV → Option R) : vfn (occupancy_At_C n) n Try.f9 [.d (D.int .i64 a0), .d (D.sl 5 a1), .d (D.int .i64 a2), .d (D.int .i64 a3)] [] (retF [[1]] K) = occupancy_At n a0 a1 a2 a3 (fun r0 => K (.d (D.sl 1 r0))) :=
  (show vfn (occupancy_At_C n) n Try.f9 [.d (D.int .i64 a0), .d (D.sl 5 a1), .d (D.int .i64 a2), .d (D.int .i64 a3)] [] (retF [[1]] K) = vexec (occupancy_At_C n) n occupancy_At_c0 ⟨51, [(0, .d (D.int .i64 a0)), (1, .d (D.sl 5 a1)), (2, .d (D.int .i64 a2)), (3, .d (D.int .i64 a3))], []⟩ (retX occupancy_At_tt [.tmp 8] (retF [[1]] K)) from vfn_at (by kernel_rfl) (by kernel_rfl) rfl (by kernel_rfl) rfl (by kernel_rfl) rfl).trans ((occupancy_At_p15_eq n a0 a1 a2 a3 (retX occupancy_At_tt [.tmp 8] (retF [[1]] K))).trans (by kernel_rfl))
def occupancy_At_K : AV → Option (List (List D)) := fun av => match av with
  | .d (D.sl 1 r0) => some r0
  | _ => none
def occupancy_At_e (n : Nat) : Entry := fun _ _ g avs _ k => match avs with
  | [c0, c1, c2, c3] => prI g .i64 c0 fun a0 => prS g 5 c1 fun a1 => prI g .i64 c2 fun a2 => prI g .i64 c3 fun a3 => 
    gb g (occupancy_At n a0 a1 a2 a3 some) [] fun r => k ⟨.d (D.sl 1 r), [], []⟩
  | _ => none
theorem occupancy_At_ok (n : Nat) : EntryOK Try.prog 9 (occupancy_At_e n) := by
  intro R site g avs hl k r h
  unfold occupancy_At_e at h
  split at h
  rotate_left
  · cases h
  replace h := prI_some h
  obtain ⟨a0, h, le0⟩ := h
  replace h := prS_some h
  obtain ⟨a1, h, le1⟩ := h
  replace h := prI_some h
  obtain ⟨a2, h, le2⟩ := h
  replace h := prI_some h
  obtain ⟨a3, h, le3⟩ := h
  replace h := gb_some h
  obtain ⟨res, h, hr⟩ := h
  refine ⟨_, h, fun hg => CallOK.conv (avs' := [.d (D.int .i64 a0), .d (D.sl 5 a1), .d (D.int .i64 a2), .d (D.int .i64 a3)]) (.cons (le0 hg) (.cons (le1 hg) (.cons (le2 hg) (.cons (le3 hg) (.nil))))) (callOK_fix (K := occupancy_At_K) (res := res) (occupancy_At_VC n) (fn := Try.f9) (n := n) (by kernel_rfl) (by kernel_rfl) (by kernel_rfl) (ss := [[1]]) rfl ?_ ?_)⟩
  · exact (occupancy_At_vfn n a0 a1 a2 a3 occupancy_At_K).trans (hr hg)
  · intro x hx
    unfold occupancy_At_K at hx
    split at hx
    · injection hx with hx; subst hx; rfl
    · cases hx
end Go.Vx
/-
  keep_Same_int: the interpreter computes the pure function
-/
set_option linter.unusedVariables false
set_option linter.unusedSimpArgs false
set_option maxRecDepth 100000
namespace Go.Vx
open Go.Proofs
noncomputable def keep_Same_int_c0 : Code := bodyOf Try.f14
noncomputable def keep_Same_int_c1 : Code := cL (bodyOf Try.f14)
noncomputable def keep_Same_int_c2 : Code := cL (cR (bodyOf Try.f14))
noncomputable def keep_Same_int_c3 : Code := cL (cL (cR (cR (bodyOf Try.f14))))
noncomputable def keep_Same_int_c4 : Code := cB (cB (cR (cL (cR (cR (bodyOf Try.f14))))))
noncomputable def keep_Same_int_c5 : Code := cB (cR (cL (cR (cR (bodyOf Try.f14)))))
noncomputable def keep_Same_int_c6 : Code := cR (cL (cR (cR (bodyOf Try.f14))))
noncomputable def keep_Same_int_c7 : Code := cL (cR (cR (bodyOf Try.f14)))
noncomputable def keep_Same_int_c8 : Code := cR (cR (cR (bodyOf Try.f14)))
noncomputable def keep_Same_int_c9 : Code := cR (cR (bodyOf Try.f14))
noncomputable def keep_Same_int_c10 : Code := cR (bodyOf Try.f14)
theorem keep_Same_int_c5_eq : keep_Same_int_c5 = .loop keep_Same_int_c4 := by kernel_rfl
theorem keep_Same_int_c6_eq : keep_Same_int_c6 = .block 0 keep_Same_int_c5 := by kernel_rfl
theorem keep_Same_int_c7_eq : keep_Same_int_c7 = .seq keep_Same_int_c3 keep_Same_int_c6 := by kernel_rfl
theorem keep_Same_int_c9_eq : keep_Same_int_c9 = .seq keep_Same_int_c7 keep_Same_int_c8 := by kernel_rfl
theorem keep_Same_int_c10_eq : keep_Same_int_c10 = .seq keep_Same_int_c2 keep_Same_int_c9 := by kernel_rfl
theorem keep_Same_int_c0_eq : keep_Same_int_c0 = .seq keep_Same_int_c1 keep_Same_int_c10 := by kernel_rfl
def keep_Same_int_tt : TT := [(3, ⟨.int .i64, 1, 8, [.int .i64 0], [.int .i64 0], [], none⟩), (22, ⟨.sl 3 1, 1, 24, [.slice none 0 0], [.sl 1 []], [], none⟩)]
theorem keep_Same_int_tt_eq : mkTT Try.prog [3, 22] = keep_Same_int_tt := by kernel_rfl
def keep_Same_int_cfg : List (Nat × Cfg) := [(0, ⟨[0, 1], [], [], [], []⟩), (1, ⟨[0, 1, 10], [], [], [], []⟩), (2, ⟨[4], [], [], [], []⟩), (3, ⟨[0, 1, 12, 13], [], [], [], []⟩), (4, ⟨[0, 1, 12, 13, 14], [], [], [], []⟩), (5, ⟨[0, 1, 5, 12, 13], [], [], [], []⟩), (6, ⟨[0, 1, 12, 13, 24], [], [], [], []⟩), (7, ⟨[4], [], [], [], []⟩), (8, ⟨[0, 1, 12, 13], [], [], [], []⟩), (9, ⟨[4], [], [], [], []⟩)]
def keep_Same_int_C (n : Nat) : VC := ⟨specOf [], keep_Same_int_tt, keep_Same_int_cfg⟩
theorem keep_Same_int_ents (n : Nat) : EntsOK Try.prog [] := trivial
theorem keep_Same_int_VC (n : Nat) : VCOk Try.prog (keep_Same_int_C n) := ⟨specOf_ok (keep_Same_int_ents n), (keep_Same_int_tt_eq ▸ mkTT_ok _ : TOk Try.prog keep_Same_int_tt), by kernel_rfl⟩
theorem keep_Same_int_p1_congr {R : Type} (n : Nat) (a0 : List (List D)) (a1 : List (List D)) {k0 kk0 : Option R} (hq0 : k0 = kk0) : keep_Same_int_p1 n a0 a1 k0 = keep_Same_int_p1 n a0 a1 kk0 := by
  obtain rfl : k0 = kk0 := hq0
  rfl
theorem keep_Same_int_p2_congr {R : Type} (n : Nat) (a0 : List (List D)) (a1 : List (List D)) {k0 kk0 : Option R} {k1 kk1 : Bool → Option R} (hq0 : k0 = kk0) (hq1 : ∀ x0, k1 x0 = kk1 x0) : keep_Same_int_p2 n a0 a1 k0 k1 = keep_Same_int_p2 n a0 a1 kk0 kk1 := by
  obtain rfl : k0 = kk0 := hq0
  obtain rfl : k1 = kk1 := funext fun x0 => hq1 x0
  rfl
theorem keep_Same_int_p3_congr {R : Type} (n : Nat) (a0 : List (List D)) (a1 : List (List D)) (w2 : Bool) {k0 kk0 : Int → Option R} (hq0 : ∀ x0, k0 x0 = kk0 x0) : keep_Same_int_p3 n a0 a1 w2 k0 = keep_Same_int_p3 n a0 a1 w2 kk0 := by
  obtain rfl : k0 = kk0 := funext fun x0 => hq0 x0
  rfl
theorem keep_Same_int_p4_congr {R : Type} (n : Nat) (a0 : List (List D)) (a1 : List (List D)) (w4 : Int) (h8 : Int) {k0 kk0 : Option R} {k1 kk1 : Int → Option R} {k2 kk2 : Bool → Option R} (hq0 : k0 = kk0) (hq1 : ∀ x0, k1 x0 = kk1 x0) (hq2 : ∀ x0, k2 x0 = kk2 x0) : keep_Same_int_p4 n a0 a1 w4 h8 k0 k1 k2 = keep_Same_int_p4 n a0 a1 w4 h8 kk0 kk1 kk2 := by
  obtain rfl : k0 = kk0 := hq0
  obtain rfl : k1 = kk1 := funext fun x0 => hq1 x0
  obtain rfl : k2 = kk2 := funext fun x0 => hq2 x0
  rfl
theorem keep_Same_int_p5_congr {R : Type} (n : Nat) (a0 : List (List D)) (a1 : List (List D)) (w4 : Int) {k0 kk0 : Option R} {k1 kk1 : Int → Bool → Option R} (hq0 : k0 = kk0) (hq1 : ∀ x0 x1, k1 x0 x1 = kk1 x0 x1) : keep_Same_int_p5 n a0 a1 w4 k0 k1 = keep_Same_int_p5 n a0 a1 w4 kk0 kk1 := by
  obtain rfl : k0 = kk0 := hq0
  obtain rfl : k1 = kk1 := funext fun x0 => funext fun x1 => hq1 x0 x1
  rfl
theorem keep_Same_int_p6_congr {R : Type} (n : Nat) (a0 : List (List D)) (a1 : List (List D)) (w4 : Int) {k0 kk0 : Option R} {k1 kk1 : Int → Bool → Option R} (hq0 : k0 = kk0) (hq1 : ∀ x0 x1, k1 x0 x1 = kk1 x0 x1) : keep_Same_int_p6 n a0 a1 w4 k0 k1 = keep_Same_int_p6 n a0 a1 w4 kk0 kk1 := by
  obtain rfl : k0 = kk0 := hq0
  obtain rfl : k1 = kk1 := funext fun x0 => funext fun x1 => hq1 x0 x1
  rfl
theorem keep_Same_int_p7_congr {R : Type} (n : Nat) (a0 : List (List D)) (a1 : List (List D)) (w2 : Bool) {k0 kk0 : Option R} {k1 kk1 : Int → Int → Bool → Option R} (hq0 : k0 = kk0) (hq1 : ∀ x0 x1 x2, k1 x0 x1 x2 = kk1 x0 x1 x2) : keep_Same_int_p7 n a0 a1 w2 k0 k1 = keep_Same_int_p7 n a0 a1 w2 kk0 kk1 := by
  obtain rfl : k0 = kk0 := hq0
  obtain rfl : k1 = kk1 := funext fun x0 => funext fun x1 => funext fun x2 => hq1 x0 x1 x2
  rfl
theorem keep_Same_int_p8_congr {R : Type} (n : Nat) (a0 : List (List D)) (a1 : List (List D)) (w31 : Int) (w32 : Int) (w33 : Bool) {k0 kk0 : Option R} (hq0 : k0 = kk0) : keep_Same_int_p8 n a0 a1 w31 w32 w33 k0 = keep_Same_int_p8 n a0 a1 w31 w32 w33 kk0 := by
  obtain rfl : k0 = kk0 := hq0
  rfl
theorem keep_Same_int_p9_congr {R : Type} (n : Nat) (a0 : List (List D)) (a1 : List (List D)) (w2 : Bool) {k0 kk0 : Bool → Option R} (hq0 : ∀ x0, k0 x0 = kk0 x0) : keep_Same_int_p9 n a0 a1 w2 k0 = keep_Same_int_p9 n a0 a1 w2 kk0 := by
  obtain rfl : k0 = kk0 := funext fun x0 => hq0 x0
  rfl
theorem keep_Same_int_p10_congr {R : Type} (n : Nat) (a0 : List (List D)) (a1 : List (List D)) {k0 kk0 : Bool → Option R} (hq0 : ∀ x0, k0 x0 = kk0 x0) : keep_Same_int_p10 n a0 a1 k0 = keep_Same_int_p10 n a0 a1 kk0 := by
  obtain rfl : k0 = kk0 := funext fun x0 => hq0 x0
  rfl
theorem keep_Same_int_p11_congr {R : Type} (n : Nat) (a0 : List (List D)) (a1 : List (List D)) {k0 kk0 : Bool → Option R} (hq0 : ∀ x0, k0 x0 = kk0 x0) : keep_Same_int_p11 n a0 a1 k0 = keep_Same_int_p11 n a0 a1 kk0 := by
  obtain rfl : k0 = kk0 := funext fun x0 => hq0 x0
  rfl
theorem keep_Same_int_p1_eq {R : Type} (n : Nat) (a0 : List (List D)) (a1 : List (List D)) (k : Exit → St → Option R) : vexec (keep_Same_int_C n) n keep_Same_int_c1 ⟨26, [(0, .d (D.sl 1 a0)), (1, .d (D.sl 1 a1))], []⟩ k = keep_Same_int_p1 n a0 a1 (k .normal ⟨26, [(0, .d (D.sl 1 a0)), (1, .d (D.sl 1 a1))], []⟩) := by kernel_rfl
theorem keep_Same_int_p2_eq {R : Type} (n : Nat) (a0 : List (List D)) (a1 : List (List D)) (k : Exit → St → Option R) : vexec (keep_Same_int_C n) n keep_Same_int_c2 ⟨26, [(0, .d (D.sl 1 a0)), (1, .d (D.sl 1 a1))], []⟩ k = keep_Same_int_p2 n a0 a1 (k .ret ⟨26, [(4, .d (D.bool false))], []⟩) (fun z1 => k .normal ⟨26, [(0, .d (D.sl 1 a0)), (1, .d (D.sl 1 a1)), (10, .d (D.bool z1))], []⟩) := by kernel_rfl
theorem keep_Same_int_p3_eq {R : Type} (n : Nat) (a0 : List (List D)) (a1 : List (List D)) (w2 : Bool) (k : Exit → St → Option R) : vexec (keep_Same_int_C n) n keep_Same_int_c3 ⟨26, [(0, .d (D.sl 1 a0)), (1, .d (D.sl 1 a1)), (10, .d (D.bool w2))], []⟩ k = keep_Same_int_p3 n a0 a1 w2 (fun z3 => k .normal ⟨26, [(0, .d (D.sl 1 a0)), (1, .d (D.sl 1 a1)), (12, .d (D.int .i64 z3)), (13, .d (D.int .i64 (0 : Int)))], []⟩) := by kernel_rfl
theorem keep_Same_int_p4_eq {R : Type} (n : Nat) (a0 : List (List D)) (a1 : List (List D)) (w4 : Int) (h8 : Int) (k : Exit → St → Option R) : vexec (keep_Same_int_C n) n keep_Same_int_c4 ⟨26, [(0, .d (D.sl 1 a0)), (1, .d (D.sl 1 a1)), (12, .d (D.int .i64 w4)), (13, .d (D.int .i64 h8))], []⟩ k = keep_Same_int_p4 n a0 a1 w4 h8 (k .ret ⟨26, [(4, .d (D.bool false))], []⟩) (fun z23 => k .normal ⟨26, [(0, .d (D.sl 1 a0)), (1, .d (D.sl 1 a1)), (12, .d (D.int .i64 w4)), (13, .d (D.int .i64 z23))], []⟩) (fun z24 => k (.exit 0) ⟨26, [(0, .d (D.sl 1 a0)), (1, .d (D.sl 1 a1)), (12, .d (D.int .i64 w4)), (13, .d (D.int .i64 h8)), (14, .d (D.bool z24))], []⟩) := by kernel_rfl
theorem keep_Same_int_r5_eq {R : Type} (n : Nat) (a0 : List (List D)) (a1 : List (List D)) (w4 : Int) (k : Exit → St → Option R) : ∀ (m : Nat) (h8 : Int), loopN (vexec (keep_Same_int_C n) n keep_Same_int_c4) m ⟨26, [(0, .d (D.sl 1 a0)), (1, .d (D.sl 1 a1)), (12, .d (D.int .i64 w4)), (13, .d (D.int .i64 h8))], []⟩ k = keep_Same_int_r5 n a0 a1 w4 (k .ret ⟨26, [(4, .d (D.bool false))], []⟩) (fun h8 w26 => k (.exit 0) ⟨26, [(0, .d (D.sl 1 a0)), (1, .d (D.sl 1 a1)), (12, .d (D.int .i64 w4)), (13, .d (D.int .i64 h8)), (14, .d (D.bool w26))], []⟩) m h8
  | 0, _ => rfl
  | m + 1, h8 => (keep_Same_int_p4_eq n a0 a1 w4 h8 (loopK (vexec (keep_Same_int_C n) n keep_Same_int_c4) m k)).trans (keep_Same_int_p4_congr n a0 a1 w4 h8 (rfl) (fun w25 => keep_Same_int_r5_eq n a0 a1 w4 k m w25) (fun w26 => rfl))
theorem keep_Same_int_p5_eq {R : Type} (n : Nat) (a0 : List (List D)) (a1 : List (List D)) (w4 : Int) (k : Exit → St → Option R) : vexec (keep_Same_int_C n) n keep_Same_int_c5 ⟨26, [(0, .d (D.sl 1 a0)), (1, .d (D.sl 1 a1)), (12, .d (D.int .i64 w4)), (13, .d (D.int .i64 (0 : Int)))], []⟩ k = keep_Same_int_p5 n a0 a1 w4 (k .ret ⟨26, [(4, .d (D.bool false))], []⟩) (fun h8 w26 => k (.exit 0) ⟨26, [(0, .d (D.sl 1 a0)), (1, .d (D.sl 1 a1)), (12, .d (D.int .i64 w4)), (13, .d (D.int .i64 h8)), (14, .d (D.bool w26))], []⟩) := by
  rw [keep_Same_int_c5_eq]
  exact keep_Same_int_r5_eq n a0 a1 w4 k n (0 : Int)
theorem keep_Same_int_p6_eq {R : Type} (n : Nat) (a0 : List (List D)) (a1 : List (List D)) (w4 : Int) (k : Exit → St → Option R) : vexec (keep_Same_int_C n) n keep_Same_int_c6 ⟨26, [(0, .d (D.sl 1 a0)), (1, .d (D.sl 1 a1)), (12, .d (D.int .i64 w4)), (13, .d (D.int .i64 (0 : Int)))], []⟩ k = keep_Same_int_p6 n a0 a1 w4 (k .ret ⟨26, [(4, .d (D.bool false))], []⟩) (fun w27 w28 => k .normal ⟨26, [(0, .d (D.sl 1 a0)), (1, .d (D.sl 1 a1)), (12, .d (D.int .i64 w4)), (13, .d (D.int .i64 w27)), (14, .d (D.bool w28))], []⟩) := by
  rw [keep_Same_int_c6_eq]
  unfold keep_Same_int_p6
  exact (keep_Same_int_p5_eq n a0 a1 w4 (blockK 0 k)).trans (keep_Same_int_p5_congr n a0 a1 w4 (rfl) (fun w27 w28 => rfl))
theorem keep_Same_int_p7_eq {R : Type} (n : Nat) (a0 : List (List D)) (a1 : List (List D)) (w2 : Bool) (k : Exit → St → Option R) : vexec (keep_Same_int_C n) n keep_Same_int_c7 ⟨26, [(0, .d (D.sl 1 a0)), (1, .d (D.sl 1 a1)), (10, .d (D.bool w2))], []⟩ k = keep_Same_int_p7 n a0 a1 w2 (k .ret ⟨26, [(4, .d (D.bool false))], []⟩) (fun w4 w29 w30 => k .normal ⟨26, [(0, .d (D.sl 1 a0)), (1, .d (D.sl 1 a1)), (12, .d (D.int .i64 w4)), (13, .d (D.int .i64 w29)), (14, .d (D.bool w30))], []⟩) := by
  rw [keep_Same_int_c7_eq]
  unfold keep_Same_int_p7
  exact (keep_Same_int_p3_eq n a0 a1 w2 (seqK (keep_Same_int_C n) n keep_Same_int_c6 k)).trans (keep_Same_int_p3_congr n a0 a1 w2 (fun w4 => keep_Same_int_p6_eq n a0 a1 w4 k))
theorem keep_Same_int_p8_eq {R : Type} (n : Nat) (a0 : List (List D)) (a1 : List (List D)) (w31 : Int) (w32 : Int) (w33 : Bool) (k : Exit → St → Option R) : vexec (keep_Same_int_C n) n keep_Same_int_c8 ⟨26, [(0, .d (D.sl 1 a0)), (1, .d (D.sl 1 a1)), (12, .d (D.int .i64 w31)), (13, .d (D.int .i64 w32)), (14, .d (D.bool w33))], []⟩ k = keep_Same_int_p8 n a0 a1 w31 w32 w33 (k .ret ⟨26, [(4, .d (D.bool true))], []⟩) := by kernel_rfl
theorem keep_Same_int_p9_eq {R : Type} (n : Nat) (a0 : List (List D)) (a1 : List (List D)) (w2 : Bool) (k : Exit → St → Option R) : vexec (keep_Same_int_C n) n keep_Same_int_c9 ⟨26, [(0, .d (D.sl 1 a0)), (1, .d (D.sl 1 a1)), (10, .d (D.bool w2))], []⟩ k = keep_Same_int_p9 n a0 a1 w2 (fun z34 => k .ret ⟨26, [(4, .d (D.bool z34))], []⟩) := by
  rw [keep_Same_int_c9_eq]
  unfold keep_Same_int_p9
  exact (keep_Same_int_p7_eq n a0 a1 w2 (seqK (keep_Same_int_C n) n keep_Same_int_c8 k)).trans (keep_Same_int_p7_congr n a0 a1 w2 (rfl) (fun w31 w32 w33 => keep_Same_int_p8_eq n a0 a1 w31 w32 w33 k))
theorem keep_Same_int_p10_eq {R : Type} (n : Nat) (a0 : List (List D)) (a1 : List (List D)) (k : Exit → St → Option R) : vexec (keep_Same_int_C n) n keep_Same_int_c10 ⟨26, [(0, .d (D.sl 1 a0)), (1, .d (D.sl 1 a1))], []⟩ k = keep_Same_int_p10 n a0 a1 (fun z36 => k .ret ⟨26, [(4, .d (D.bool z36))], []⟩) := by
  rw [keep_Same_int_c10_eq]
  unfold keep_Same_int_p10
  exact (keep_Same_int_p2_eq n a0 a1 (seqK (keep_Same_int_C n) n keep_Same_int_c9 k)).trans (keep_Same_int_p2_congr n a0 a1 (rfl) (fun w2 => keep_Same_int_p9_eq n a0 a1 w2 k))
theorem keep_Same_int_p11_eq {R : Type} (n : Nat) (a0 : List (List D)) (a1 : List (List D)) (k : Exit → St → Option R) : vexec (keep_Same_int_C n) n keep_Same_int_c0 ⟨26, [(0, .d (D.sl 1 a0)), (1, .d (D.sl 1 a1))], []⟩ k = keep_Same_int_p11 n a0 a1 (fun w37 => k .ret ⟨26, [(4, .d (D.bool w37))], []⟩) := by
  rw [keep_Same_int_c0_eq]
  unfold keep_Same_int_p11
  exact (keep_Same_int_p1_eq n a0 a1 (seqK (keep_Same_int_C n) n keep_Same_int_c10 k)).trans (keep_Same_int_p1_congr n a0 a1 (keep_Same_int_p10_eq n a0 a1 k))
theorem keep_Same_int_vfn {R : Type} (n : Nat) (a0 : List (List D)) (a1 : List (List D)) (K : AV → Option R) : vfn (keep_Same_int_C n) n Try.f14 [.d (D.sl 1 a0), .d (D.sl 1 a1)] [] (retF [[0]] K) = keep_Same_int n a0 a1 (fun r0 => K (.d (D.bool r0))) :=
  (show vfn (keep_Same_int_C n) n Try.f14 [.d (D.sl 1 a0), .d (D.sl 1 a1)] [] (retF [[0]] K) = vexec (keep_Same_int_C n) n keep_Same_int_c0 ⟨26, [(0, .d (D.sl 1 a0)), (1, .d (D.sl 1 a1))], []⟩ (retX keep_Same_int_tt [.tmp 4] (retF [[0]] K)) from vfn_at (by kernel_rfl) (by kernel_rfl) rfl (by kernel_rfl) rfl (by kernel_rfl) rfl).trans ((keep_Same_int_p11_eq n a0 a1 (retX keep_Same_int_tt [.tmp 4] (retF [[0]] K))).trans (by kernel_rfl))
def keep_Same_int_K : AV → Option (Bool) := fun av => match av with
  | .d (D.bool r0) => some r0
  | _ => none
def keep_Same_int_e (n : Nat) : Entry := fun _ _ g avs _ k => match avs with
  | [c0, c1] => prS g 1 c0 fun a0 => prS g 1 c1 fun a1 => 
    gb g (keep_Same_int n a0 a1 some) false fun r => k ⟨.d (D.bool r), [], []⟩
  | _ => none
theorem keep_Same_int_ok (n : Nat) : EntryOK Try.prog 14 (keep_Same_int_e n) := by
  intro R site g avs hl k r h
  unfold keep_Same_int_e at h
  split at h
  rotate_left
  · cases h
  replace h := prS_some h
  obtain ⟨a0, h, le0⟩ := h
  replace h := prS_some h
  obtain ⟨a1, h, le1⟩ := h
  replace h := gb_some h
  obtain ⟨res, h, hr⟩ := h
  refine ⟨_, h, fun hg => CallOK.conv (avs' := [.d (D.sl 1 a0), .d (D.sl 1 a1)]) (.cons (le0 hg) (.cons (le1 hg) (.nil))) (callOK_fix (K := keep_Same_int_K) (res := res) (keep_Same_int_VC n) (fn := Try.f14) (n := n) (by kernel_rfl) (by kernel_rfl) (by kernel_rfl) (ss := [[0]]) rfl ?_ ?_)⟩
  · exact (keep_Same_int_vfn n a0 a1 keep_Same_int_K).trans (hr hg)
  · intro x hx
    unfold keep_Same_int_K at hx
    split at hx
    · injection hx with hx; subst hx; rfl
    · cases hx
end Go.Vx
/-
  law19_OccupancyExamples: the interpreter computes the pure function
-/
set_option linter.unusedVariables false
set_option linter.unusedSimpArgs false
set_option maxRecDepth 100000
namespace Go.Vx
open Go.Proofs
noncomputable def law19_OccupancyExamples_c0 : Code := bodyOf Try.f4
def law19_OccupancyExamples_tt : TT := [(3, ⟨.int .i64, 1, 8, [.int .i64 0], [.int .i64 0], [], none⟩), (22, ⟨.sl 3 1, 1, 24, [.slice none 0 0], [.sl 1 []], [], none⟩), (24, ⟨.sl 31 5, 1, 24, [.slice none 0 0], [.sl 5 []], [], none⟩), (31, ⟨.struct, 5, 40, [.int .i64 0, .int .i64 0, .int .i64 0, .int .i64 0, .int .i64 0], [.int .i64 0, .int .i64 0, .int .i64 0, .int .i64 0, .int .i64 0], [(0, 3), (1, 3), (2, 3), (3, 3), (4, 3)], some [.int .i64, .int .i64, .int .i64, .int .i64, .int .i64]⟩), (32, ⟨.sl 35 2, 1, 24, [.slice none 0 0], [.sl 2 []], [], none⟩), (35, ⟨.array 3 1 2, 2, 16, [.int .i64 0, .int .i64 0], [.int .i64 0, .int .i64 0], [(0, 3), (1, 3)], some [.int .i64, .int .i64]⟩)]
theorem law19_OccupancyExamples_tt_eq : mkTT Try.prog [3, 22, 24, 31, 32, 35] = law19_OccupancyExamples_tt := by kernel_rfl
def law19_OccupancyExamples_cfg : List (Nat × Cfg) := [(0, ⟨[], [], [], [], []⟩), (1, ⟨[1], [], [], [], [5]⟩), (2, ⟨[1, 2], [], [], [], []⟩), (3, ⟨[0], [], [], [], []⟩)]
def law19_OccupancyExamples_C (n : Nat) : VC := ⟨specOf [(12, occupancy_Conflicts_e n), (13, keep_Same_2_int_e n), (11, occupancy_Free_e n), (9, occupancy_At_e n), (14, keep_Same_int_e n)], law19_OccupancyExamples_tt, law19_OccupancyExamples_cfg⟩
theorem law19_OccupancyExamples_ents (n : Nat) : EntsOK Try.prog [(12, occupancy_Conflicts_e n), (13, keep_Same_2_int_e n), (11, occupancy_Free_e n), (9, occupancy_At_e n), (14, keep_Same_int_e n)] := ⟨occupancy_Conflicts_ok n, ⟨keep_Same_2_int_ok n, ⟨occupancy_Free_ok n, ⟨occupancy_At_ok n, ⟨keep_Same_int_ok n, trivial⟩⟩⟩⟩⟩
theorem law19_OccupancyExamples_VC (n : Nat) : VCOk Try.prog (law19_OccupancyExamples_C n) := ⟨specOf_ok (law19_OccupancyExamples_ents n), (law19_OccupancyExamples_tt_eq ▸ mkTT_ok _ : TOk Try.prog law19_OccupancyExamples_tt), by kernel_rfl⟩
theorem law19_OccupancyExamples_p1_congr {R : Type} (n : Nat)  {k0 kk0 : Bool → Option R} (hq0 : ∀ x0, k0 x0 = kk0 x0) : law19_OccupancyExamples_p1 n  k0 = law19_OccupancyExamples_p1 n  kk0 := by
  obtain rfl : k0 = kk0 := funext fun x0 => hq0 x0
  rfl
theorem law19_OccupancyExamples_p1_eq {R : Type} (n : Nat)  (k : Exit → St → Option R) : vexec (law19_OccupancyExamples_C n) n law19_OccupancyExamples_c0 ⟨27, [], []⟩ k = law19_OccupancyExamples_p1 n  (fun z7 => k .ret ⟨27, [(0, .d (D.bool z7))], []⟩) := by kernel_rfl
theorem law19_OccupancyExamples_vfn {R : Type} (n : Nat)  (K : AV → Option R) : vfn (law19_OccupancyExamples_C n) n Try.f4 [] [] (retF [[0]] K) = law19_OccupancyExamples n  (fun r0 => K (.d (D.bool r0))) :=
  (show vfn (law19_OccupancyExamples_C n) n Try.f4 [] [] (retF [[0]] K) = vexec (law19_OccupancyExamples_C n) n law19_OccupancyExamples_c0 ⟨27, [], []⟩ (retX law19_OccupancyExamples_tt [.tmp 0] (retF [[0]] K)) from vfn_at (by kernel_rfl) (by kernel_rfl) rfl (by kernel_rfl) rfl (by kernel_rfl) rfl).trans ((law19_OccupancyExamples_p1_eq n  (retX law19_OccupancyExamples_tt [.tmp 0] (retF [[0]] K))).trans (by kernel_rfl))
def law19_OccupancyExamples_K : AV → Option (Bool) := fun av => match av with
  | .d (D.bool r0) => some r0
  | _ => none
def law19_OccupancyExamples_e (n : Nat) : Entry := fun _ _ g avs _ k => match avs with
  | [] => 
    gb g (law19_OccupancyExamples n  some) false fun r => k ⟨.d (D.bool r), [], []⟩
  | _ => none
theorem law19_OccupancyExamples_ok (n : Nat) : EntryOK Try.prog 4 (law19_OccupancyExamples_e n) := by
  intro R site g avs hl k r h
  unfold law19_OccupancyExamples_e at h
  split at h
  rotate_left
  · cases h
  replace h := gb_some h
  obtain ⟨res, h, hr⟩ := h
  refine ⟨_, h, fun hg => CallOK.conv (avs' := []) (.nil) (callOK_fix (K := law19_OccupancyExamples_K) (res := res) (law19_OccupancyExamples_VC n) (fn := Try.f4) (n := n) (by kernel_rfl) (by kernel_rfl) (by kernel_rfl) (ss := [[0]]) rfl ?_ ?_)⟩
  · exact (law19_OccupancyExamples_vfn n  law19_OccupancyExamples_K).trans (hr hg)
  · intro x hx
    unfold law19_OccupancyExamples_K at hx
    split at hx
    · injection hx with hx; subst hx; rfl
    · cases hx
end Go.Vx
