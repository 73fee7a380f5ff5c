/- Part of a proof: texts Vpoccupancy visit s1 Vpoccupancy Free Vparith Mod TryShelf Vpslices Sort int int Vpslices Compact int int Vpoccupancy At Vpkeep Same int Vplaw19 awake Vplaw19 OccupancyConflictIsCo. No conditions of their own. -/
import Derived.Test.YtnhpkkecnfooaaaProg
import Derived.Test.YtnhpkkecnfooaaaCVC
import Derived.Test.YtnhpkkecnfooaaaCFA
import Derived.Test.YtnhpkkecnfooaaaCPA
import Derived.Shelf.Sort.Plain
import Derived.Ground.Names2Prog
import Derived.Shelf.Slices.CompactI
import Derived.Shelf.Slices.In.SortNone
/-
  occupancy_visit_s1: the interpreter computes the pure function
-/
set_option linter.unusedVariables false
set_option linter.unusedSimpArgs false
set_option maxRecDepth 100000
namespace Go.Vx
open Go.Proofs
noncomputable def occupancy_visit_s1_c0 : Code := cR (cR (cR (bodyOf Try.f23)))
noncomputable def occupancy_visit_s1_c1 : Code := cL (cR (cR (cR (bodyOf Try.f23))))
noncomputable def occupancy_visit_s1_c2 : Code := cL (cB (cB (cR (cR (cR (cR (bodyOf Try.f23)))))))
noncomputable def occupancy_visit_s1_c3 : Code := cL (cR (cB (cB (cR (cR (cR (cR (bodyOf Try.f23))))))))
noncomputable def occupancy_visit_s1_c4 : Code := cL (cB (cL (cR (cR (cB (cB (cR (cR (cR (cR (bodyOf Try.f23)))))))))))
noncomputable def occupancy_visit_s1_c5 : Code := cL (cR (cB (cL (cR (cR (cB (cB (cR (cR (cR (cR (bodyOf Try.f23))))))))))))
noncomputable def occupancy_visit_s1_c6 : Code := cB (cB (cR (cR (cB (cL (cR (cR (cB (cB (cR (cR (cR (cR (bodyOf Try.f23))))))))))))))
noncomputable def occupancy_visit_s1_c7 : Code := cB (cR (cR (cB (cL (cR (cR (cB (cB (cR (cR (cR (cR (bodyOf Try.f23)))))))))))))
noncomputable def occupancy_visit_s1_c8 : Code := cR (cR (cB (cL (cR (cR (cB (cB (cR (cR (cR (cR (bodyOf Try.f23))))))))))))
noncomputable def occupancy_visit_s1_c9 : Code := cR (cB (cL (cR (cR (cB (cB (cR (cR (cR (cR (bodyOf Try.f23)))))))))))
noncomputable def occupancy_visit_s1_c10 : Code := cB (cL (cR (cR (cB (cB (cR (cR (cR (cR (bodyOf Try.f23))))))))))
noncomputable def occupancy_visit_s1_c11 : Code := cL (cR (cR (cB (cB (cR (cR (cR (cR (bodyOf Try.f23)))))))))
noncomputable def occupancy_visit_s1_c12 : Code := cR (cR (cR (cB (cB (cR (cR (cR (cR (bodyOf Try.f23)))))))))
noncomputable def occupancy_visit_s1_c13 : Code := cR (cR (cB (cB (cR (cR (cR (cR (bodyOf Try.f23))))))))
noncomputable def occupancy_visit_s1_c14 : Code := cR (cB (cB (cR (cR (cR (cR (bodyOf Try.f23)))))))
noncomputable def occupancy_visit_s1_c15 : Code := cB (cB (cR (cR (cR (cR (bodyOf Try.f23))))))
noncomputable def occupancy_visit_s1_c16 : Code := cB (cR (cR (cR (cR (bodyOf Try.f23)))))
noncomputable def occupancy_visit_s1_c17 : Code := cR (cR (cR (cR (bodyOf Try.f23))))
theorem occupancy_visit_s1_c7_eq : occupancy_visit_s1_c7 = .loop occupancy_visit_s1_c6 := by kernel_rfl
theorem occupancy_visit_s1_c8_eq : occupancy_visit_s1_c8 = .block 4 occupancy_visit_s1_c7 := by kernel_rfl
theorem occupancy_visit_s1_c9_eq : occupancy_visit_s1_c9 = .seq occupancy_visit_s1_c5 occupancy_visit_s1_c8 := by kernel_rfl
theorem occupancy_visit_s1_c10_eq : occupancy_visit_s1_c10 = .seq occupancy_visit_s1_c4 occupancy_visit_s1_c9 := by kernel_rfl
theorem occupancy_visit_s1_c11_eq : occupancy_visit_s1_c11 = .block 3 occupancy_visit_s1_c10 := by kernel_rfl
theorem occupancy_visit_s1_c13_eq : occupancy_visit_s1_c13 = .seq occupancy_visit_s1_c11 occupancy_visit_s1_c12 := by kernel_rfl
theorem occupancy_visit_s1_c14_eq : occupancy_visit_s1_c14 = .seq occupancy_visit_s1_c3 occupancy_visit_s1_c13 := by kernel_rfl
theorem occupancy_visit_s1_c15_eq : occupancy_visit_s1_c15 = .seq occupancy_visit_s1_c2 occupancy_visit_s1_c14 := by kernel_rfl
theorem occupancy_visit_s1_c16_eq : occupancy_visit_s1_c16 = .loop occupancy_visit_s1_c15 := by kernel_rfl
theorem occupancy_visit_s1_c17_eq : occupancy_visit_s1_c17 = .block 2 occupancy_visit_s1_c16 := by kernel_rfl
theorem occupancy_visit_s1_c0_eq : occupancy_visit_s1_c0 = .seq occupancy_visit_s1_c1 occupancy_visit_s1_c17 := by kernel_rfl
def occupancy_visit_s1_tt : TT := [(3, ⟨.int .i64, 1, 8, [.int .i64 0], [.int .i64 0], [], none⟩), (22, ⟨.sl 3 1, 1, 24, [.slice none 0 0], [.sl 1 []], [], none⟩), (24, ⟨.sl 31 5, 1, 24, [.slice none 0 0], [.sl 5 []], [], none⟩), (31, ⟨.struct, 5, 40, [.int .i64 0, .int .i64 0, .int .i64 0, .int .i64 0, .int .i64 0], [.int .i64 0, .int .i64 0, .int .i64 0, .int .i64 0, .int .i64 0], [(0, 3), (1, 3), (2, 3), (3, 3), (4, 3)], some [.int .i64, .int .i64, .int .i64, .int .i64, .int .i64]⟩), (52, ⟨.mapI, 1, 8, [.map none], [], [], none⟩)]
theorem occupancy_visit_s1_tt_eq : mkTT Try.prog [3, 22, 24, 31, 52] = occupancy_visit_s1_tt := by kernel_rfl
def occupancy_visit_s1_cfg : List (Nat × Cfg) := [(0, ⟨[0, 1, 2, 6], [], [], [], []⟩), (1, ⟨[0, 1, 2, 6, 7], [], [], [], []⟩), (2, ⟨[0, 1, 2, 6, 7, 18, 19, 20], [], [], [], []⟩), (3, ⟨[0, 1, 2, 6, 7, 18, 19, 20, 21], [], [], [], []⟩), (4, ⟨[0, 1, 2, 6, 7, 8, 9, 18, 19, 20], [], [], [], []⟩), (5, ⟨[0, 1, 2, 6, 7, 8, 9, 18, 19, 20], [], [], [], []⟩), (6, ⟨[0, 1, 2, 6, 7, 18, 19, 20], [], [], [], []⟩), (7, ⟨[0, 1, 2, 6, 7, 18, 19, 20], [], [], [], []⟩), (8, ⟨[0, 1, 2, 6, 7, 44, 45, 46], [(1000000, 1000000)], [], [], []⟩), (9, ⟨[0, 1, 2, 6, 7, 44, 45, 46, 47], [(1000000, 1000000)], [], [], []⟩), (10, ⟨[0, 1, 2, 6, 7, 10, 11, 44, 45, 46], [(11, 11), (1000000, 1000000)], [], [], []⟩), (11, ⟨[0, 1, 2, 6, 7, 10, 11, 44, 45, 46, 59, 60, 61], [(11, 11), (1000000, 1000000)], [], [], []⟩), (12, ⟨[0, 1, 2, 6, 7, 10, 11, 44, 45, 46, 59, 60, 61, 62], [(11, 11), (1000000, 1000000)], [], [], []⟩), (13, ⟨[0, 1, 2, 6, 7, 10, 11, 13, 44, 45, 46, 59, 60, 61], [(11, 11), (1000000, 1000000)], [], [], []⟩), (14, ⟨[0, 1, 2, 6, 7, 10, 11, 44, 45, 46, 59, 60, 61, 78], [(11, 11), (1000000, 1000000)], [], [], []⟩), (15, ⟨[0, 1, 2, 6, 7, 10, 11, 44, 45, 46, 59, 60, 61], [(11, 11), (1000000, 1000000)], [], [], []⟩), (16, ⟨[0, 1, 2, 6, 7, 44, 45, 46], [(1000000, 1000000)], [], [], []⟩), (1000000014, ⟨[], [], [], [], []⟩)]
def occupancy_visit_s1_C (n : Nat) : VC := ⟨specOf [(32, occupancy_conflict_e n), (24, railplan_occupancy_Free_1_s1_s n)], occupancy_visit_s1_tt, occupancy_visit_s1_cfg⟩
theorem occupancy_visit_s1_ents (n : Nat) : EntsOK Try.prog [(32, occupancy_conflict_e n), (24, railplan_occupancy_Free_1_s1_s n)] := ⟨occupancy_conflict_ok n, ⟨railplan_occupancy_Free_1_s1_so n, trivial⟩⟩
theorem occupancy_visit_s1_VC (n : Nat) : VCOk Try.prog (occupancy_visit_s1_C n) := ⟨specOf_ok (occupancy_visit_s1_ents n), (occupancy_visit_s1_tt_eq ▸ mkTT_ok _ : TOk Try.prog occupancy_visit_s1_tt), by kernel_rfl⟩
theorem occupancy_visit_s1_p1_congr {R : Type} (n : Nat) (a0 : Int) (a1 : List (List D)) (G : Int → List (List D)) (p : List (List D)) (b0_0 : Bool) {k0 kk0 : Int → Option R} (hq0 : ∀ x0, k0 x0 = kk0 x0) : occupancy_visit_s1_p1 n a0 a1 G p b0_0 k0 = occupancy_visit_s1_p1 n a0 a1 G p b0_0 kk0 := by
  obtain rfl : k0 = kk0 := funext fun x0 => hq0 x0
  rfl
theorem occupancy_visit_s1_p2_congr {R : Type} (n : Nat) (a0 : Int) (a1 : List (List D)) (G : Int → List (List D)) (p : List (List D)) (w2 : Int) (h9 : Int) (h10 : Bool) {k0 kk0 : Bool → Option R} (hq0 : ∀ x0, k0 x0 = kk0 x0) : occupancy_visit_s1_p2 n a0 a1 G p w2 h9 h10 k0 = occupancy_visit_s1_p2 n a0 a1 G p w2 h9 h10 kk0 := by
  obtain rfl : k0 = kk0 := funext fun x0 => hq0 x0
  rfl
theorem occupancy_visit_s1_p3_congr {R : Type} (n : Nat) (a0 : Int) (a1 : List (List D)) (G : Int → List (List D)) (p : List (List D)) (w2 : Int) (h9 : Int) (w196 : Bool) (h10 : Bool) {k0 kk0 : Option R} {k1 kk1 : Option R} (hq0 : k0 = kk0) (hq1 : k1 = kk1) : occupancy_visit_s1_p3 n a0 a1 G p w2 h9 w196 h10 k0 k1 = occupancy_visit_s1_p3 n a0 a1 G p w2 h9 w196 h10 kk0 kk1 := by
  obtain rfl : k0 = kk0 := hq0
  obtain rfl : k1 = kk1 := hq1
  rfl
theorem occupancy_visit_s1_p4_congr {R : Type} (n : Nat) (a0 : Int) (a1 : List (List D)) (G : Int → List (List D)) (p : List (List D)) (w2 : Int) (h9 : Int) (w196 : Bool) (h10 : Bool) {k0 kk0 : D → D → D → D → D → Option R} (hq0 : ∀ x0 x1 x2 x3 x4, k0 x0 x1 x2 x3 x4 = kk0 x0 x1 x2 x3 x4) : occupancy_visit_s1_p4 n a0 a1 G p w2 h9 w196 h10 k0 = occupancy_visit_s1_p4 n a0 a1 G p w2 h9 w196 h10 kk0 := by
  obtain rfl : k0 = kk0 := funext fun x0 => funext fun x1 => funext fun x2 => funext fun x3 => funext fun x4 => hq0 x0 x1 x2 x3 x4
  rfl
theorem occupancy_visit_s1_p5_congr {R : Type} (n : Nat) (a0 : Int) (a1 : List (List D)) (G : Int → List (List D)) (p : List (List D)) (h9 : Int) (w2 : Int) (w203 : D) (w204 : D) (w205 : D) (w206 : D) (w207 : D) (h10 : Bool) {k0 kk0 : (List (List D)) → Int → Option R} (hq0 : ∀ x0 x1, k0 x0 x1 = kk0 x0 x1) : occupancy_visit_s1_p5 n a0 a1 G p h9 w2 w203 w204 w205 w206 w207 h10 k0 = occupancy_visit_s1_p5 n a0 a1 G p h9 w2 w203 w204 w205 w206 w207 h10 kk0 := by
  obtain rfl : k0 = kk0 := funext fun x0 => funext fun x1 => hq0 x0 x1
  rfl
theorem occupancy_visit_s1_p6_congr {R : Type} (n : Nat) (a0 : Int) (a1 : List (List D)) (G : Int → List (List D)) (p : List (List D)) (h9 : Int) (w2 : Int) (w215 : List (List D)) (w216 : Int) (h227 : Int) (w203 : D) (w204 : D) (w205 : D) (w206 : D) (w207 : D) (h233 : Bool) {k0 kk0 : Bool → Bool → Option R} {k1 kk1 : Int → Bool → Option R} {k2 kk2 : Bool → Option R} (hq0 : ∀ x0 x1, k0 x0 x1 = kk0 x0 x1) (hq1 : ∀ x0 x1, k1 x0 x1 = kk1 x0 x1) (hq2 : ∀ x0, k2 x0 = kk2 x0) : occupancy_visit_s1_p6 n a0 a1 G p h9 w2 w215 w216 h227 w203 w204 w205 w206 w207 h233 k0 k1 k2 = occupancy_visit_s1_p6 n a0 a1 G p h9 w2 w215 w216 h227 w203 w204 w205 w206 w207 h233 kk0 kk1 kk2 := by
  obtain rfl : k0 = kk0 := funext fun x0 => funext fun x1 => hq0 x0 x1
  obtain rfl : k1 = kk1 := funext fun x0 => funext fun x1 => hq1 x0 x1
  obtain rfl : k2 = kk2 := funext fun x0 => hq2 x0
  rfl
theorem occupancy_visit_s1_p7_congr {R : Type} (n : Nat) (a0 : Int) (a1 : List (List D)) (G : Int → List (List D)) (p : List (List D)) (h9 : Int) (w2 : Int) (w215 : List (List D)) (w216 : Int) (w203 : D) (w204 : D) (w205 : D) (w206 : D) (w207 : D) (h10 : Bool) {k0 kk0 : Int → Bool → Bool → Option R} {k1 kk1 : Int → Bool → Bool → Option R} (hq0 : ∀ x0 x1 x2, k0 x0 x1 x2 = kk0 x0 x1 x2) (hq1 : ∀ x0 x1 x2, k1 x0 x1 x2 = kk1 x0 x1 x2) : occupancy_visit_s1_p7 n a0 a1 G p h9 w2 w215 w216 w203 w204 w205 w206 w207 h10 k0 k1 = occupancy_visit_s1_p7 n a0 a1 G p h9 w2 w215 w216 w203 w204 w205 w206 w207 h10 kk0 kk1 := by
  obtain rfl : k0 = kk0 := funext fun x0 => funext fun x1 => funext fun x2 => hq0 x0 x1 x2
  obtain rfl : k1 = kk1 := funext fun x0 => funext fun x1 => funext fun x2 => hq1 x0 x1 x2
  rfl
theorem occupancy_visit_s1_p8_congr {R : Type} (n : Nat) (a0 : Int) (a1 : List (List D)) (G : Int → List (List D)) (p : List (List D)) (h9 : Int) (w2 : Int) (w215 : List (List D)) (w216 : Int) (w203 : D) (w204 : D) (w205 : D) (w206 : D) (w207 : D) (h10 : Bool) {k0 kk0 : Int → Bool → Bool → Option R} {k1 kk1 : Int → Bool → Bool → Option R} (hq0 : ∀ x0 x1 x2, k0 x0 x1 x2 = kk0 x0 x1 x2) (hq1 : ∀ x0 x1 x2, k1 x0 x1 x2 = kk1 x0 x1 x2) : occupancy_visit_s1_p8 n a0 a1 G p h9 w2 w215 w216 w203 w204 w205 w206 w207 h10 k0 k1 = occupancy_visit_s1_p8 n a0 a1 G p h9 w2 w215 w216 w203 w204 w205 w206 w207 h10 kk0 kk1 := by
  obtain rfl : k0 = kk0 := funext fun x0 => funext fun x1 => funext fun x2 => hq0 x0 x1 x2
  obtain rfl : k1 = kk1 := funext fun x0 => funext fun x1 => funext fun x2 => hq1 x0 x1 x2
  rfl
theorem occupancy_visit_s1_p9_congr {R : Type} (n : Nat) (a0 : Int) (a1 : List (List D)) (G : Int → List (List D)) (p : List (List D)) (h9 : Int) (w2 : Int) (w203 : D) (w204 : D) (w205 : D) (w206 : D) (w207 : D) (h10 : Bool) {k0 kk0 : (List (List D)) → Int → Int → Bool → Bool → Option R} {k1 kk1 : (List (List D)) → Int → Int → Bool → Bool → Option R} (hq0 : ∀ x0 x1 x2 x3 x4, k0 x0 x1 x2 x3 x4 = kk0 x0 x1 x2 x3 x4) (hq1 : ∀ x0 x1 x2 x3 x4, k1 x0 x1 x2 x3 x4 = kk1 x0 x1 x2 x3 x4) : occupancy_visit_s1_p9 n a0 a1 G p h9 w2 w203 w204 w205 w206 w207 h10 k0 k1 = occupancy_visit_s1_p9 n a0 a1 G p h9 w2 w203 w204 w205 w206 w207 h10 kk0 kk1 := by
  obtain rfl : k0 = kk0 := funext fun x0 => funext fun x1 => funext fun x2 => funext fun x3 => funext fun x4 => hq0 x0 x1 x2 x3 x4
  obtain rfl : k1 = kk1 := funext fun x0 => funext fun x1 => funext fun x2 => funext fun x3 => funext fun x4 => hq1 x0 x1 x2 x3 x4
  rfl
theorem occupancy_visit_s1_p10_congr {R : Type} (n : Nat) (a0 : Int) (a1 : List (List D)) (G : Int → List (List D)) (p : List (List D)) (w2 : Int) (h9 : Int) (w196 : Bool) (h10 : Bool) {k0 kk0 : (List (List D)) → Int → Int → Bool → D → D → D → D → D → Bool → Option R} {k1 kk1 : (List (List D)) → Int → Int → Bool → D → D → D → D → D → Bool → Option R} (hq0 : ∀ x0 x1 x2 x3 x4 x5 x6 x7 x8 x9, k0 x0 x1 x2 x3 x4 x5 x6 x7 x8 x9 = kk0 x0 x1 x2 x3 x4 x5 x6 x7 x8 x9) (hq1 : ∀ x0 x1 x2 x3 x4 x5 x6 x7 x8 x9, k1 x0 x1 x2 x3 x4 x5 x6 x7 x8 x9 = kk1 x0 x1 x2 x3 x4 x5 x6 x7 x8 x9) : occupancy_visit_s1_p10 n a0 a1 G p w2 h9 w196 h10 k0 k1 = occupancy_visit_s1_p10 n a0 a1 G p w2 h9 w196 h10 kk0 kk1 := by
  obtain rfl : k0 = kk0 := funext fun x0 => funext fun x1 => funext fun x2 => funext fun x3 => funext fun x4 => funext fun x5 => funext fun x6 => funext fun x7 => funext fun x8 => funext fun x9 => hq0 x0 x1 x2 x3 x4 x5 x6 x7 x8 x9
  obtain rfl : k1 = kk1 := funext fun x0 => funext fun x1 => funext fun x2 => funext fun x3 => funext fun x4 => funext fun x5 => funext fun x6 => funext fun x7 => funext fun x8 => funext fun x9 => hq1 x0 x1 x2 x3 x4 x5 x6 x7 x8 x9
  rfl
theorem occupancy_visit_s1_p11_congr {R : Type} (n : Nat) (a0 : Int) (a1 : List (List D)) (G : Int → List (List D)) (p : List (List D)) (w2 : Int) (h9 : Int) (w196 : Bool) (h10 : Bool) {k0 kk0 : (List (List D)) → Int → Int → Bool → D → D → D → D → D → Bool → Option R} {k1 kk1 : (List (List D)) → Int → Int → Bool → D → D → D → D → D → Bool → Option R} (hq0 : ∀ x0 x1 x2 x3 x4 x5 x6 x7 x8 x9, k0 x0 x1 x2 x3 x4 x5 x6 x7 x8 x9 = kk0 x0 x1 x2 x3 x4 x5 x6 x7 x8 x9) (hq1 : ∀ x0 x1 x2 x3 x4 x5 x6 x7 x8 x9, k1 x0 x1 x2 x3 x4 x5 x6 x7 x8 x9 = kk1 x0 x1 x2 x3 x4 x5 x6 x7 x8 x9) : occupancy_visit_s1_p11 n a0 a1 G p w2 h9 w196 h10 k0 k1 = occupancy_visit_s1_p11 n a0 a1 G p w2 h9 w196 h10 kk0 kk1 := by
  obtain rfl : k0 = kk0 := funext fun x0 => funext fun x1 => funext fun x2 => funext fun x3 => funext fun x4 => funext fun x5 => funext fun x6 => funext fun x7 => funext fun x8 => funext fun x9 => hq0 x0 x1 x2 x3 x4 x5 x6 x7 x8 x9
  obtain rfl : k1 = kk1 := funext fun x0 => funext fun x1 => funext fun x2 => funext fun x3 => funext fun x4 => funext fun x5 => funext fun x6 => funext fun x7 => funext fun x8 => funext fun x9 => hq1 x0 x1 x2 x3 x4 x5 x6 x7 x8 x9
  rfl
theorem occupancy_visit_s1_p12_congr {R : Type} (n : Nat) (a0 : Int) (a1 : List (List D)) (G : Int → List (List D)) (p : List (List D)) (h9 : Int) (w2 : Int) (w343 : List (List D)) (w344 : Int) (w345 : Int) (w346 : Bool) (w347 : D) (w348 : D) (w349 : D) (w350 : D) (w351 : D) (w352 : Bool) {k0 kk0 : Int → Option R} (hq0 : ∀ x0, k0 x0 = kk0 x0) : occupancy_visit_s1_p12 n a0 a1 G p h9 w2 w343 w344 w345 w346 w347 w348 w349 w350 w351 w352 k0 = occupancy_visit_s1_p12 n a0 a1 G p h9 w2 w343 w344 w345 w346 w347 w348 w349 w350 w351 w352 kk0 := by
  obtain rfl : k0 = kk0 := funext fun x0 => hq0 x0
  rfl
theorem occupancy_visit_s1_p13_congr {R : Type} (n : Nat) (a0 : Int) (a1 : List (List D)) (G : Int → List (List D)) (p : List (List D)) (w2 : Int) (h9 : Int) (w196 : Bool) (h10 : Bool) {k0 kk0 : (List (List D)) → Int → Int → Bool → D → D → D → D → D → Bool → Option R} {k1 kk1 : Int → Bool → Option R} (hq0 : ∀ x0 x1 x2 x3 x4 x5 x6 x7 x8 x9, k0 x0 x1 x2 x3 x4 x5 x6 x7 x8 x9 = kk0 x0 x1 x2 x3 x4 x5 x6 x7 x8 x9) (hq1 : ∀ x0 x1, k1 x0 x1 = kk1 x0 x1) : occupancy_visit_s1_p13 n a0 a1 G p w2 h9 w196 h10 k0 k1 = occupancy_visit_s1_p13 n a0 a1 G p w2 h9 w196 h10 kk0 kk1 := by
  obtain rfl : k0 = kk0 := funext fun x0 => funext fun x1 => funext fun x2 => funext fun x3 => funext fun x4 => funext fun x5 => funext fun x6 => funext fun x7 => funext fun x8 => funext fun x9 => hq0 x0 x1 x2 x3 x4 x5 x6 x7 x8 x9
  obtain rfl : k1 = kk1 := funext fun x0 => funext fun x1 => hq1 x0 x1
  rfl
theorem occupancy_visit_s1_p14_congr {R : Type} (n : Nat) (a0 : Int) (a1 : List (List D)) (G : Int → List (List D)) (p : List (List D)) (w2 : Int) (h9 : Int) (w196 : Bool) (h10 : Bool) {k0 kk0 : (List (List D)) → Int → Int → Bool → D → D → D → D → D → Bool → Option R} {k1 kk1 : Int → Bool → Option R} {k2 kk2 : Option R} (hq0 : ∀ x0 x1 x2 x3 x4 x5 x6 x7 x8 x9, k0 x0 x1 x2 x3 x4 x5 x6 x7 x8 x9 = kk0 x0 x1 x2 x3 x4 x5 x6 x7 x8 x9) (hq1 : ∀ x0 x1, k1 x0 x1 = kk1 x0 x1) (hq2 : k2 = kk2) : occupancy_visit_s1_p14 n a0 a1 G p w2 h9 w196 h10 k0 k1 k2 = occupancy_visit_s1_p14 n a0 a1 G p w2 h9 w196 h10 kk0 kk1 kk2 := by
  obtain rfl : k0 = kk0 := funext fun x0 => funext fun x1 => funext fun x2 => funext fun x3 => funext fun x4 => funext fun x5 => funext fun x6 => funext fun x7 => funext fun x8 => funext fun x9 => hq0 x0 x1 x2 x3 x4 x5 x6 x7 x8 x9
  obtain rfl : k1 = kk1 := funext fun x0 => funext fun x1 => hq1 x0 x1
  obtain rfl : k2 = kk2 := hq2
  rfl
theorem occupancy_visit_s1_p15_congr {R : Type} (n : Nat) (a0 : Int) (a1 : List (List D)) (G : Int → List (List D)) (p : List (List D)) (w2 : Int) (h9 : Int) (h10 : Bool) {k0 kk0 : (List (List D)) → Int → Int → Bool → D → D → D → D → D → Bool → Option R} {k1 kk1 : Int → Bool → Option R} {k2 kk2 : Bool → Option R} (hq0 : ∀ x0 x1 x2 x3 x4 x5 x6 x7 x8 x9, k0 x0 x1 x2 x3 x4 x5 x6 x7 x8 x9 = kk0 x0 x1 x2 x3 x4 x5 x6 x7 x8 x9) (hq1 : ∀ x0 x1, k1 x0 x1 = kk1 x0 x1) (hq2 : ∀ x0, k2 x0 = kk2 x0) : occupancy_visit_s1_p15 n a0 a1 G p w2 h9 h10 k0 k1 k2 = occupancy_visit_s1_p15 n a0 a1 G p w2 h9 h10 kk0 kk1 kk2 := by
  obtain rfl : k0 = kk0 := funext fun x0 => funext fun x1 => funext fun x2 => funext fun x3 => funext fun x4 => funext fun x5 => funext fun x6 => funext fun x7 => funext fun x8 => funext fun x9 => hq0 x0 x1 x2 x3 x4 x5 x6 x7 x8 x9
  obtain rfl : k1 = kk1 := funext fun x0 => funext fun x1 => hq1 x0 x1
  obtain rfl : k2 = kk2 := funext fun x0 => hq2 x0
  rfl
theorem occupancy_visit_s1_p16_congr {R : Type} (n : Nat) (a0 : Int) (a1 : List (List D)) (G : Int → List (List D)) (p : List (List D)) (w2 : Int) (b0_0 : Bool) {k0 kk0 : Int → (List (List D)) → Int → Int → Bool → D → D → D → D → D → Bool → Option R} {k1 kk1 : Int → Bool → Bool → Option R} (hq0 : ∀ x0 x1 x2 x3 x4 x5 x6 x7 x8 x9 x10, k0 x0 x1 x2 x3 x4 x5 x6 x7 x8 x9 x10 = kk0 x0 x1 x2 x3 x4 x5 x6 x7 x8 x9 x10) (hq1 : ∀ x0 x1 x2, k1 x0 x1 x2 = kk1 x0 x1 x2) : occupancy_visit_s1_p16 n a0 a1 G p w2 b0_0 k0 k1 = occupancy_visit_s1_p16 n a0 a1 G p w2 b0_0 kk0 kk1 := by
  obtain rfl : k0 = kk0 := funext fun x0 => funext fun x1 => funext fun x2 => funext fun x3 => funext fun x4 => funext fun x5 => funext fun x6 => funext fun x7 => funext fun x8 => funext fun x9 => funext fun x10 => hq0 x0 x1 x2 x3 x4 x5 x6 x7 x8 x9 x10
  obtain rfl : k1 = kk1 := funext fun x0 => funext fun x1 => funext fun x2 => hq1 x0 x1 x2
  rfl
theorem occupancy_visit_s1_p17_congr {R : Type} (n : Nat) (a0 : Int) (a1 : List (List D)) (G : Int → List (List D)) (p : List (List D)) (w2 : Int) (b0_0 : Bool) {k0 kk0 : Int → (List (List D)) → Int → Int → Bool → D → D → D → D → D → Bool → Option R} {k1 kk1 : Int → Bool → Bool → Option R} (hq0 : ∀ x0 x1 x2 x3 x4 x5 x6 x7 x8 x9 x10, k0 x0 x1 x2 x3 x4 x5 x6 x7 x8 x9 x10 = kk0 x0 x1 x2 x3 x4 x5 x6 x7 x8 x9 x10) (hq1 : ∀ x0 x1 x2, k1 x0 x1 x2 = kk1 x0 x1 x2) : occupancy_visit_s1_p17 n a0 a1 G p w2 b0_0 k0 k1 = occupancy_visit_s1_p17 n a0 a1 G p w2 b0_0 kk0 kk1 := by
  obtain rfl : k0 = kk0 := funext fun x0 => funext fun x1 => funext fun x2 => funext fun x3 => funext fun x4 => funext fun x5 => funext fun x6 => funext fun x7 => funext fun x8 => funext fun x9 => funext fun x10 => hq0 x0 x1 x2 x3 x4 x5 x6 x7 x8 x9 x10
  obtain rfl : k1 = kk1 := funext fun x0 => funext fun x1 => funext fun x2 => hq1 x0 x1 x2
  rfl
theorem occupancy_visit_s1_p18_congr {R : Type} (n : Nat) (a0 : Int) (a1 : List (List D)) (G : Int → List (List D)) (p : List (List D)) (b0_0 : Bool) {k0 kk0 : Int → Int → (List (List D)) → Int → Int → Bool → D → D → D → D → D → Bool → Option R} {k1 kk1 : Int → Int → Bool → Bool → Option R} (hq0 : ∀ x0 x1 x2 x3 x4 x5 x6 x7 x8 x9 x10 x11, k0 x0 x1 x2 x3 x4 x5 x6 x7 x8 x9 x10 x11 = kk0 x0 x1 x2 x3 x4 x5 x6 x7 x8 x9 x10 x11) (hq1 : ∀ x0 x1 x2 x3, k1 x0 x1 x2 x3 = kk1 x0 x1 x2 x3) : occupancy_visit_s1_p18 n a0 a1 G p b0_0 k0 k1 = occupancy_visit_s1_p18 n a0 a1 G p b0_0 kk0 kk1 := by
  obtain rfl : k0 = kk0 := funext fun x0 => funext fun x1 => funext fun x2 => funext fun x3 => funext fun x4 => funext fun x5 => funext fun x6 => funext fun x7 => funext fun x8 => funext fun x9 => funext fun x10 => funext fun x11 => hq0 x0 x1 x2 x3 x4 x5 x6 x7 x8 x9 x10 x11
  obtain rfl : k1 = kk1 := funext fun x0 => funext fun x1 => funext fun x2 => funext fun x3 => hq1 x0 x1 x2 x3
  rfl
theorem occupancy_visit_s1_p1_eq {R : Type} (n : Nat) (a0 : Int) (a1 : List (List D)) (G : Int → List (List D)) (p : List (List D)) (b0_0 : Bool) (k : Exit → St → Option R) : vexec (occupancy_visit_s1_C n) n occupancy_visit_s1_c1 ⟨81, [(0, .d (D.int .i64 a0)), (1, .d (D.sl 5 a1)), (2, .fn 24 [.ptr 1000000 0]), (6, .mpd G), (7, .d (D.sl 1 p))], [(1000000, .box [.d (D.bool b0_0)])]⟩ k = occupancy_visit_s1_p1 n a0 a1 G p b0_0 (fun z1 => k .normal ⟨81, [(0, .d (D.int .i64 a0)), (1, .d (D.sl 5 a1)), (2, .fn 24 [.ptr 1000000 0]), (6, .mpd G), (7, .d (D.sl 1 p)), (44, .d (D.sl 5 a1)), (45, .d (D.int .i64 z1)), (46, .d (D.int .i64 (0 : Int)))], [(1000000, .box [.d (D.bool b0_0)])]⟩) := by kernel_rfl
theorem occupancy_visit_s1_p2_eq {R : Type} (n : Nat) (a0 : Int) (a1 : List (List D)) (G : Int → List (List D)) (p : List (List D)) (w2 : Int) (h9 : Int) (h10 : Bool) (k : Exit → St → Option R) : vexec (occupancy_visit_s1_C n) n occupancy_visit_s1_c2 ⟨81, [(0, .d (D.int .i64 a0)), (1, .d (D.sl 5 a1)), (2, .fn 24 [.ptr 1000000 0]), (6, .mpd G), (7, .d (D.sl 1 p)), (44, .d (D.sl 5 a1)), (45, .d (D.int .i64 w2)), (46, .d (D.int .i64 h9))], [(1000000, .box [.d (D.bool h10)])]⟩ k = occupancy_visit_s1_p2 n a0 a1 G p w2 h9 h10 (fun z195 => k .normal ⟨81, [(0, .d (D.int .i64 a0)), (1, .d (D.sl 5 a1)), (2, .fn 24 [.ptr 1000000 0]), (6, .mpd G), (7, .d (D.sl 1 p)), (44, .d (D.sl 5 a1)), (45, .d (D.int .i64 w2)), (46, .d (D.int .i64 h9)), (47, .d (D.bool z195))], [(1000000, .box [.d (D.bool h10)])]⟩) := by kernel_rfl
theorem occupancy_visit_s1_p3_eq {R : Type} (n : Nat) (a0 : Int) (a1 : List (List D)) (G : Int → List (List D)) (p : List (List D)) (w2 : Int) (h9 : Int) (w196 : Bool) (h10 : Bool) (k : Exit → St → Option R) : vexec (occupancy_visit_s1_C n) n occupancy_visit_s1_c3 ⟨81, [(0, .d (D.int .i64 a0)), (1, .d (D.sl 5 a1)), (2, .fn 24 [.ptr 1000000 0]), (6, .mpd G), (7, .d (D.sl 1 p)), (44, .d (D.sl 5 a1)), (45, .d (D.int .i64 w2)), (46, .d (D.int .i64 h9)), (47, .d (D.bool w196))], [(1000000, .box [.d (D.bool h10)])]⟩ k = occupancy_visit_s1_p3 n a0 a1 G p w2 h9 w196 h10 (k .normal ⟨81, [(0, .d (D.int .i64 a0)), (1, .d (D.sl 5 a1)), (2, .fn 24 [.ptr 1000000 0]), (6, .mpd G), (7, .d (D.sl 1 p)), (44, .d (D.sl 5 a1)), (45, .d (D.int .i64 w2)), (46, .d (D.int .i64 h9)), (47, .d (D.bool w196))], [(1000000, .box [.d (D.bool h10)])]⟩) (k (.exit 2) ⟨81, [(0, .d (D.int .i64 a0)), (1, .d (D.sl 5 a1)), (2, .fn 24 [.ptr 1000000 0]), (6, .mpd G), (7, .d (D.sl 1 p)), (44, .d (D.sl 5 a1)), (45, .d (D.int .i64 w2)), (46, .d (D.int .i64 h9)), (47, .d (D.bool w196))], [(1000000, .box [.d (D.bool h10)])]⟩) := by kernel_rfl
theorem occupancy_visit_s1_p4_eq {R : Type} (n : Nat) (a0 : Int) (a1 : List (List D)) (G : Int → List (List D)) (p : List (List D)) (w2 : Int) (h9 : Int) (w196 : Bool) (h10 : Bool) (k : Exit → St → Option R) : vexec (occupancy_visit_s1_C n) n occupancy_visit_s1_c4 ⟨81, [(0, .d (D.int .i64 a0)), (1, .d (D.sl 5 a1)), (2, .fn 24 [.ptr 1000000 0]), (6, .mpd G), (7, .d (D.sl 1 p)), (44, .d (D.sl 5 a1)), (45, .d (D.int .i64 w2)), (46, .d (D.int .i64 h9)), (47, .d (D.bool w196))], [(1000000, .box [.d (D.bool h10)])]⟩ k = occupancy_visit_s1_p4 n a0 a1 G p w2 h9 w196 h10 (fun c198 c199 c200 c201 c202 => k .normal ⟨81, [(0, .d (D.int .i64 a0)), (1, .d (D.sl 5 a1)), (2, .fn 24 [.ptr 1000000 0]), (6, .mpd G), (7, .d (D.sl 1 p)), (10, .d (D.int .i64 h9)), (11, .ptr 11 0), (44, .d (D.sl 5 a1)), (45, .d (D.int .i64 w2)), (46, .d (D.int .i64 h9))], [(11, .box [.d c198, .d c199, .d c200, .d c201, .d c202]), (1000000, .box [.d (D.bool h10)])]⟩) := by kernel_rfl
theorem occupancy_visit_s1_p5_eq {R : Type} (n : Nat) (a0 : Int) (a1 : List (List D)) (G : Int → List (List D)) (p : List (List D)) (h9 : Int) (w2 : Int) (w203 : D) (w204 : D) (w205 : D) (w206 : D) (w207 : D) (h10 : Bool) (k : Exit → St → Option R) : vexec (occupancy_visit_s1_C n) n occupancy_visit_s1_c5 ⟨81, [(0, .d (D.int .i64 a0)), (1, .d (D.sl 5 a1)), (2, .fn 24 [.ptr 1000000 0]), (6, .mpd G), (7, .d (D.sl 1 p)), (10, .d (D.int .i64 h9)), (11, .ptr 11 0), (44, .d (D.sl 5 a1)), (45, .d (D.int .i64 w2)), (46, .d (D.int .i64 h9))], [(11, .box [.d w203, .d w204, .d w205, .d w206, .d w207]), (1000000, .box [.d (D.bool h10)])]⟩ k = occupancy_visit_s1_p5 n a0 a1 G p h9 w2 w203 w204 w205 w206 w207 h10 (fun z213 z214 => k .normal ⟨81, [(0, .d (D.int .i64 a0)), (1, .d (D.sl 5 a1)), (2, .fn 24 [.ptr 1000000 0]), (6, .mpd G), (7, .d (D.sl 1 p)), (10, .d (D.int .i64 h9)), (11, .ptr 11 0), (44, .d (D.sl 5 a1)), (45, .d (D.int .i64 w2)), (46, .d (D.int .i64 h9)), (59, .d (D.sl 1 z213)), (60, .d (D.int .i64 z214)), (61, .d (D.int .i64 (0 : Int)))], [(11, .box [.d w203, .d w204, .d w205, .d w206, .d w207]), (1000000, .box [.d (D.bool h10)])]⟩) := by kernel_rfl
theorem occupancy_visit_s1_p6_eq {R : Type} (n : Nat) (a0 : Int) (a1 : List (List D)) (G : Int → List (List D)) (p : List (List D)) (h9 : Int) (w2 : Int) (w215 : List (List D)) (w216 : Int) (h227 : Int) (w203 : D) (w204 : D) (w205 : D) (w206 : D) (w207 : D) (h233 : Bool) (k : Exit → St → Option R) : vexec (occupancy_visit_s1_C n) n occupancy_visit_s1_c6 ⟨81, [(0, .d (D.int .i64 a0)), (1, .d (D.sl 5 a1)), (2, .fn 24 [.ptr 1000000 0]), (6, .mpd G), (7, .d (D.sl 1 p)), (10, .d (D.int .i64 h9)), (11, .ptr 11 0), (44, .d (D.sl 5 a1)), (45, .d (D.int .i64 w2)), (46, .d (D.int .i64 h9)), (59, .d (D.sl 1 w215)), (60, .d (D.int .i64 w216)), (61, .d (D.int .i64 h227))], [(11, .box [.d w203, .d w204, .d w205, .d w206, .d w207]), (1000000, .box [.d (D.bool h233)])]⟩ k = occupancy_visit_s1_p6 n a0 a1 G p h9 w2 w215 w216 h227 w203 w204 w205 w206 w207 h233 (fun z281 z282 => k .ret ⟨81, [(0, .d (D.int .i64 a0)), (1, .d (D.sl 5 a1)), (2, .fn 24 [.ptr 1000000 0]), (6, .mpd G), (7, .d (D.sl 1 p)), (10, .d (D.int .i64 h9)), (11, .ptr 11 0), (44, .d (D.sl 5 a1)), (45, .d (D.int .i64 w2)), (46, .d (D.int .i64 h9)), (59, .d (D.sl 1 w215)), (60, .d (D.int .i64 w216)), (61, .d (D.int .i64 h227)), (78, .d (D.bool z281))], [(11, .box [.d w203, .d w204, .d w205, .d w206, .d w207]), (1000000, .box [.d (D.bool z282)])]⟩) (fun z283 z284 => k .normal ⟨81, [(0, .d (D.int .i64 a0)), (1, .d (D.sl 5 a1)), (2, .fn 24 [.ptr 1000000 0]), (6, .mpd G), (7, .d (D.sl 1 p)), (10, .d (D.int .i64 h9)), (11, .ptr 11 0), (44, .d (D.sl 5 a1)), (45, .d (D.int .i64 w2)), (46, .d (D.int .i64 h9)), (59, .d (D.sl 1 w215)), (60, .d (D.int .i64 w216)), (61, .d (D.int .i64 z283))], [(11, .box [.d w203, .d w204, .d w205, .d w206, .d w207]), (1000000, .box [.d (D.bool z284)])]⟩) (fun z285 => k (.exit 4) ⟨81, [(0, .d (D.int .i64 a0)), (1, .d (D.sl 5 a1)), (2, .fn 24 [.ptr 1000000 0]), (6, .mpd G), (7, .d (D.sl 1 p)), (10, .d (D.int .i64 h9)), (11, .ptr 11 0), (44, .d (D.sl 5 a1)), (45, .d (D.int .i64 w2)), (46, .d (D.int .i64 h9)), (59, .d (D.sl 1 w215)), (60, .d (D.int .i64 w216)), (61, .d (D.int .i64 h227)), (62, .d (D.bool z285))], [(11, .box [.d w203, .d w204, .d w205, .d w206, .d w207]), (1000000, .box [.d (D.bool h233)])]⟩) := by kernel_rfl
theorem occupancy_visit_s1_r7_eq {R : Type} (n : Nat) (a0 : Int) (a1 : List (List D)) (G : Int → List (List D)) (p : List (List D)) (h9 : Int) (w2 : Int) (w215 : List (List D)) (w216 : Int) (w203 : D) (w204 : D) (w205 : D) (w206 : D) (w207 : D) (k : Exit → St → Option R) : ∀ (m : Nat) (h227 : Int) (h233 : Bool), loopN (vexec (occupancy_visit_s1_C n) n occupancy_visit_s1_c6) m ⟨81, [(0, .d (D.int .i64 a0)), (1, .d (D.sl 5 a1)), (2, .fn 24 [.ptr 1000000 0]), (6, .mpd G), (7, .d (D.sl 1 p)), (10, .d (D.int .i64 h9)), (11, .ptr 11 0), (44, .d (D.sl 5 a1)), (45, .d (D.int .i64 w2)), (46, .d (D.int .i64 h9)), (59, .d (D.sl 1 w215)), (60, .d (D.int .i64 w216)), (61, .d (D.int .i64 h227))], [(11, .box [.d w203, .d w204, .d w205, .d w206, .d w207]), (1000000, .box [.d (D.bool h233)])]⟩ k = occupancy_visit_s1_r7 n a0 a1 G p h9 w2 w215 w216 w203 w204 w205 w206 w207 (fun h227 w286 w287 => k .ret ⟨81, [(0, .d (D.int .i64 a0)), (1, .d (D.sl 5 a1)), (2, .fn 24 [.ptr 1000000 0]), (6, .mpd G), (7, .d (D.sl 1 p)), (10, .d (D.int .i64 h9)), (11, .ptr 11 0), (44, .d (D.sl 5 a1)), (45, .d (D.int .i64 w2)), (46, .d (D.int .i64 h9)), (59, .d (D.sl 1 w215)), (60, .d (D.int .i64 w216)), (61, .d (D.int .i64 h227)), (78, .d (D.bool w286))], [(11, .box [.d w203, .d w204, .d w205, .d w206, .d w207]), (1000000, .box [.d (D.bool w287)])]⟩) (fun h227 w290 h233 => k (.exit 4) ⟨81, [(0, .d (D.int .i64 a0)), (1, .d (D.sl 5 a1)), (2, .fn 24 [.ptr 1000000 0]), (6, .mpd G), (7, .d (D.sl 1 p)), (10, .d (D.int .i64 h9)), (11, .ptr 11 0), (44, .d (D.sl 5 a1)), (45, .d (D.int .i64 w2)), (46, .d (D.int .i64 h9)), (59, .d (D.sl 1 w215)), (60, .d (D.int .i64 w216)), (61, .d (D.int .i64 h227)), (62, .d (D.bool w290))], [(11, .box [.d w203, .d w204, .d w205, .d w206, .d w207]), (1000000, .box [.d (D.bool h233)])]⟩) m h227 h233
  | 0, _, _ => rfl
  | m + 1, h227, h233 => (occupancy_visit_s1_p6_eq n a0 a1 G p h9 w2 w215 w216 h227 w203 w204 w205 w206 w207 h233 (loopK (vexec (occupancy_visit_s1_C n) n occupancy_visit_s1_c6) m k)).trans (occupancy_visit_s1_p6_congr n a0 a1 G p h9 w2 w215 w216 h227 w203 w204 w205 w206 w207 h233 (fun w286 w287 => rfl) (fun w288 w289 => occupancy_visit_s1_r7_eq n a0 a1 G p h9 w2 w215 w216 w203 w204 w205 w206 w207 k m w288 w289) (fun w290 => rfl))
theorem occupancy_visit_s1_p7_eq {R : Type} (n : Nat) (a0 : Int) (a1 : List (List D)) (G : Int → List (List D)) (p : List (List D)) (h9 : Int) (w2 : Int) (w215 : List (List D)) (w216 : Int) (w203 : D) (w204 : D) (w205 : D) (w206 : D) (w207 : D) (h10 : Bool) (k : Exit → St → Option R) : vexec (occupancy_visit_s1_C n) n occupancy_visit_s1_c7 ⟨81, [(0, .d (D.int .i64 a0)), (1, .d (D.sl 5 a1)), (2, .fn 24 [.ptr 1000000 0]), (6, .mpd G), (7, .d (D.sl 1 p)), (10, .d (D.int .i64 h9)), (11, .ptr 11 0), (44, .d (D.sl 5 a1)), (45, .d (D.int .i64 w2)), (46, .d (D.int .i64 h9)), (59, .d (D.sl 1 w215)), (60, .d (D.int .i64 w216)), (61, .d (D.int .i64 (0 : Int)))], [(11, .box [.d w203, .d w204, .d w205, .d w206, .d w207]), (1000000, .box [.d (D.bool h10)])]⟩ k = occupancy_visit_s1_p7 n a0 a1 G p h9 w2 w215 w216 w203 w204 w205 w206 w207 h10 (fun h227 w286 w287 => k .ret ⟨81, [(0, .d (D.int .i64 a0)), (1, .d (D.sl 5 a1)), (2, .fn 24 [.ptr 1000000 0]), (6, .mpd G), (7, .d (D.sl 1 p)), (10, .d (D.int .i64 h9)), (11, .ptr 11 0), (44, .d (D.sl 5 a1)), (45, .d (D.int .i64 w2)), (46, .d (D.int .i64 h9)), (59, .d (D.sl 1 w215)), (60, .d (D.int .i64 w216)), (61, .d (D.int .i64 h227)), (78, .d (D.bool w286))], [(11, .box [.d w203, .d w204, .d w205, .d w206, .d w207]), (1000000, .box [.d (D.bool w287)])]⟩) (fun h227 w290 h233 => k (.exit 4) ⟨81, [(0, .d (D.int .i64 a0)), (1, .d (D.sl 5 a1)), (2, .fn 24 [.ptr 1000000 0]), (6, .mpd G), (7, .d (D.sl 1 p)), (10, .d (D.int .i64 h9)), (11, .ptr 11 0), (44, .d (D.sl 5 a1)), (45, .d (D.int .i64 w2)), (46, .d (D.int .i64 h9)), (59, .d (D.sl 1 w215)), (60, .d (D.int .i64 w216)), (61, .d (D.int .i64 h227)), (62, .d (D.bool w290))], [(11, .box [.d w203, .d w204, .d w205, .d w206, .d w207]), (1000000, .box [.d (D.bool h233)])]⟩) := by
  rw [occupancy_visit_s1_c7_eq]
  exact occupancy_visit_s1_r7_eq n a0 a1 G p h9 w2 w215 w216 w203 w204 w205 w206 w207 k n (0 : Int) h10
theorem occupancy_visit_s1_p8_eq {R : Type} (n : Nat) (a0 : Int) (a1 : List (List D)) (G : Int → List (List D)) (p : List (List D)) (h9 : Int) (w2 : Int) (w215 : List (List D)) (w216 : Int) (w203 : D) (w204 : D) (w205 : D) (w206 : D) (w207 : D) (h10 : Bool) (k : Exit → St → Option R) : vexec (occupancy_visit_s1_C n) n occupancy_visit_s1_c8 ⟨81, [(0, .d (D.int .i64 a0)), (1, .d (D.sl 5 a1)), (2, .fn 24 [.ptr 1000000 0]), (6, .mpd G), (7, .d (D.sl 1 p)), (10, .d (D.int .i64 h9)), (11, .ptr 11 0), (44, .d (D.sl 5 a1)), (45, .d (D.int .i64 w2)), (46, .d (D.int .i64 h9)), (59, .d (D.sl 1 w215)), (60, .d (D.int .i64 w216)), (61, .d (D.int .i64 (0 : Int)))], [(11, .box [.d w203, .d w204, .d w205, .d w206, .d w207]), (1000000, .box [.d (D.bool h10)])]⟩ k = occupancy_visit_s1_p8 n a0 a1 G p h9 w2 w215 w216 w203 w204 w205 w206 w207 h10 (fun w291 w292 w293 => k .ret ⟨81, [(0, .d (D.int .i64 a0)), (1, .d (D.sl 5 a1)), (2, .fn 24 [.ptr 1000000 0]), (6, .mpd G), (7, .d (D.sl 1 p)), (10, .d (D.int .i64 h9)), (11, .ptr 11 0), (44, .d (D.sl 5 a1)), (45, .d (D.int .i64 w2)), (46, .d (D.int .i64 h9)), (59, .d (D.sl 1 w215)), (60, .d (D.int .i64 w216)), (61, .d (D.int .i64 w291)), (78, .d (D.bool w292))], [(11, .box [.d w203, .d w204, .d w205, .d w206, .d w207]), (1000000, .box [.d (D.bool w293)])]⟩) (fun w294 w295 w296 => k .normal ⟨81, [(0, .d (D.int .i64 a0)), (1, .d (D.sl 5 a1)), (2, .fn 24 [.ptr 1000000 0]), (6, .mpd G), (7, .d (D.sl 1 p)), (10, .d (D.int .i64 h9)), (11, .ptr 11 0), (44, .d (D.sl 5 a1)), (45, .d (D.int .i64 w2)), (46, .d (D.int .i64 h9)), (59, .d (D.sl 1 w215)), (60, .d (D.int .i64 w216)), (61, .d (D.int .i64 w294)), (62, .d (D.bool w295))], [(11, .box [.d w203, .d w204, .d w205, .d w206, .d w207]), (1000000, .box [.d (D.bool w296)])]⟩) := by
  rw [occupancy_visit_s1_c8_eq]
  unfold occupancy_visit_s1_p8
  exact (occupancy_visit_s1_p7_eq n a0 a1 G p h9 w2 w215 w216 w203 w204 w205 w206 w207 h10 (blockK 4 k)).trans (occupancy_visit_s1_p7_congr n a0 a1 G p h9 w2 w215 w216 w203 w204 w205 w206 w207 h10 (fun w291 w292 w293 => rfl) (fun w294 w295 w296 => rfl))
theorem occupancy_visit_s1_p9_eq {R : Type} (n : Nat) (a0 : Int) (a1 : List (List D)) (G : Int → List (List D)) (p : List (List D)) (h9 : Int) (w2 : Int) (w203 : D) (w204 : D) (w205 : D) (w206 : D) (w207 : D) (h10 : Bool) (k : Exit → St → Option R) : vexec (occupancy_visit_s1_C n) n occupancy_visit_s1_c9 ⟨81, [(0, .d (D.int .i64 a0)), (1, .d (D.sl 5 a1)), (2, .fn 24 [.ptr 1000000 0]), (6, .mpd G), (7, .d (D.sl 1 p)), (10, .d (D.int .i64 h9)), (11, .ptr 11 0), (44, .d (D.sl 5 a1)), (45, .d (D.int .i64 w2)), (46, .d (D.int .i64 h9))], [(11, .box [.d w203, .d w204, .d w205, .d w206, .d w207]), (1000000, .box [.d (D.bool h10)])]⟩ k = occupancy_visit_s1_p9 n a0 a1 G p h9 w2 w203 w204 w205 w206 w207 h10 (fun w215 w216 w297 w298 w299 => k .ret ⟨81, [(0, .d (D.int .i64 a0)), (1, .d (D.sl 5 a1)), (2, .fn 24 [.ptr 1000000 0]), (6, .mpd G), (7, .d (D.sl 1 p)), (10, .d (D.int .i64 h9)), (11, .ptr 11 0), (44, .d (D.sl 5 a1)), (45, .d (D.int .i64 w2)), (46, .d (D.int .i64 h9)), (59, .d (D.sl 1 w215)), (60, .d (D.int .i64 w216)), (61, .d (D.int .i64 w297)), (78, .d (D.bool w298))], [(11, .box [.d w203, .d w204, .d w205, .d w206, .d w207]), (1000000, .box [.d (D.bool w299)])]⟩) (fun w215 w216 w300 w301 w302 => k .normal ⟨81, [(0, .d (D.int .i64 a0)), (1, .d (D.sl 5 a1)), (2, .fn 24 [.ptr 1000000 0]), (6, .mpd G), (7, .d (D.sl 1 p)), (10, .d (D.int .i64 h9)), (11, .ptr 11 0), (44, .d (D.sl 5 a1)), (45, .d (D.int .i64 w2)), (46, .d (D.int .i64 h9)), (59, .d (D.sl 1 w215)), (60, .d (D.int .i64 w216)), (61, .d (D.int .i64 w300)), (62, .d (D.bool w301))], [(11, .box [.d w203, .d w204, .d w205, .d w206, .d w207]), (1000000, .box [.d (D.bool w302)])]⟩) := by
  rw [occupancy_visit_s1_c9_eq]
  unfold occupancy_visit_s1_p9
  exact (occupancy_visit_s1_p5_eq n a0 a1 G p h9 w2 w203 w204 w205 w206 w207 h10 (seqK (occupancy_visit_s1_C n) n occupancy_visit_s1_c8 k)).trans (occupancy_visit_s1_p5_congr n a0 a1 G p h9 w2 w203 w204 w205 w206 w207 h10 (fun w215 w216 => occupancy_visit_s1_p8_eq n a0 a1 G p h9 w2 w215 w216 w203 w204 w205 w206 w207 h10 k))
theorem occupancy_visit_s1_p10_eq {R : Type} (n : Nat) (a0 : Int) (a1 : List (List D)) (G : Int → List (List D)) (p : List (List D)) (w2 : Int) (h9 : Int) (w196 : Bool) (h10 : Bool) (k : Exit → St → Option R) : vexec (occupancy_visit_s1_C n) n occupancy_visit_s1_c10 ⟨81, [(0, .d (D.int .i64 a0)), (1, .d (D.sl 5 a1)), (2, .fn 24 [.ptr 1000000 0]), (6, .mpd G), (7, .d (D.sl 1 p)), (44, .d (D.sl 5 a1)), (45, .d (D.int .i64 w2)), (46, .d (D.int .i64 h9)), (47, .d (D.bool w196))], [(1000000, .box [.d (D.bool h10)])]⟩ k = occupancy_visit_s1_p10 n a0 a1 G p w2 h9 w196 h10 (fun w303 w304 w305 w306 w203 w204 w205 w206 w207 w307 => k .ret ⟨81, [(0, .d (D.int .i64 a0)), (1, .d (D.sl 5 a1)), (2, .fn 24 [.ptr 1000000 0]), (6, .mpd G), (7, .d (D.sl 1 p)), (10, .d (D.int .i64 h9)), (11, .ptr 11 0), (44, .d (D.sl 5 a1)), (45, .d (D.int .i64 w2)), (46, .d (D.int .i64 h9)), (59, .d (D.sl 1 w303)), (60, .d (D.int .i64 w304)), (61, .d (D.int .i64 w305)), (78, .d (D.bool w306))], [(11, .box [.d w203, .d w204, .d w205, .d w206, .d w207]), (1000000, .box [.d (D.bool w307)])]⟩) (fun w308 w309 w310 w311 w203 w204 w205 w206 w207 w312 => k .normal ⟨81, [(0, .d (D.int .i64 a0)), (1, .d (D.sl 5 a1)), (2, .fn 24 [.ptr 1000000 0]), (6, .mpd G), (7, .d (D.sl 1 p)), (10, .d (D.int .i64 h9)), (11, .ptr 11 0), (44, .d (D.sl 5 a1)), (45, .d (D.int .i64 w2)), (46, .d (D.int .i64 h9)), (59, .d (D.sl 1 w308)), (60, .d (D.int .i64 w309)), (61, .d (D.int .i64 w310)), (62, .d (D.bool w311))], [(11, .box [.d w203, .d w204, .d w205, .d w206, .d w207]), (1000000, .box [.d (D.bool w312)])]⟩) := by
  rw [occupancy_visit_s1_c10_eq]
  unfold occupancy_visit_s1_p10
  exact (occupancy_visit_s1_p4_eq n a0 a1 G p w2 h9 w196 h10 (seqK (occupancy_visit_s1_C n) n occupancy_visit_s1_c9 k)).trans (occupancy_visit_s1_p4_congr n a0 a1 G p w2 h9 w196 h10 (fun w203 w204 w205 w206 w207 => occupancy_visit_s1_p9_eq n a0 a1 G p h9 w2 w203 w204 w205 w206 w207 h10 k))
theorem occupancy_visit_s1_p11_eq {R : Type} (n : Nat) (a0 : Int) (a1 : List (List D)) (G : Int → List (List D)) (p : List (List D)) (w2 : Int) (h9 : Int) (w196 : Bool) (h10 : Bool) (k : Exit → St → Option R) : vexec (occupancy_visit_s1_C n) n occupancy_visit_s1_c11 ⟨81, [(0, .d (D.int .i64 a0)), (1, .d (D.sl 5 a1)), (2, .fn 24 [.ptr 1000000 0]), (6, .mpd G), (7, .d (D.sl 1 p)), (44, .d (D.sl 5 a1)), (45, .d (D.int .i64 w2)), (46, .d (D.int .i64 h9)), (47, .d (D.bool w196))], [(1000000, .box [.d (D.bool h10)])]⟩ k = occupancy_visit_s1_p11 n a0 a1 G p w2 h9 w196 h10 (fun w313 w314 w315 w316 w317 w318 w319 w320 w321 w322 => k .ret ⟨81, [(0, .d (D.int .i64 a0)), (1, .d (D.sl 5 a1)), (2, .fn 24 [.ptr 1000000 0]), (6, .mpd G), (7, .d (D.sl 1 p)), (10, .d (D.int .i64 h9)), (11, .ptr 11 0), (44, .d (D.sl 5 a1)), (45, .d (D.int .i64 w2)), (46, .d (D.int .i64 h9)), (59, .d (D.sl 1 w313)), (60, .d (D.int .i64 w314)), (61, .d (D.int .i64 w315)), (78, .d (D.bool w316))], [(11, .box [.d w317, .d w318, .d w319, .d w320, .d w321]), (1000000, .box [.d (D.bool w322)])]⟩) (fun w323 w324 w325 w326 w327 w328 w329 w330 w331 w332 => k .normal ⟨81, [(0, .d (D.int .i64 a0)), (1, .d (D.sl 5 a1)), (2, .fn 24 [.ptr 1000000 0]), (6, .mpd G), (7, .d (D.sl 1 p)), (10, .d (D.int .i64 h9)), (11, .ptr 11 0), (44, .d (D.sl 5 a1)), (45, .d (D.int .i64 w2)), (46, .d (D.int .i64 h9)), (59, .d (D.sl 1 w323)), (60, .d (D.int .i64 w324)), (61, .d (D.int .i64 w325)), (62, .d (D.bool w326))], [(11, .box [.d w327, .d w328, .d w329, .d w330, .d w331]), (1000000, .box [.d (D.bool w332)])]⟩) := by
  rw [occupancy_visit_s1_c11_eq]
  unfold occupancy_visit_s1_p11
  exact (occupancy_visit_s1_p10_eq n a0 a1 G p w2 h9 w196 h10 (blockK 3 k)).trans (occupancy_visit_s1_p10_congr n a0 a1 G p w2 h9 w196 h10 (fun w313 w314 w315 w316 w317 w318 w319 w320 w321 w322 => rfl) (fun w323 w324 w325 w326 w327 w328 w329 w330 w331 w332 => rfl))
theorem occupancy_visit_s1_p12_eq {R : Type} (n : Nat) (a0 : Int) (a1 : List (List D)) (G : Int → List (List D)) (p : List (List D)) (h9 : Int) (w2 : Int) (w343 : List (List D)) (w344 : Int) (w345 : Int) (w346 : Bool) (w347 : D) (w348 : D) (w349 : D) (w350 : D) (w351 : D) (w352 : Bool) (k : Exit → St → Option R) : vexec (occupancy_visit_s1_C n) n occupancy_visit_s1_c12 ⟨81, [(0, .d (D.int .i64 a0)), (1, .d (D.sl 5 a1)), (2, .fn 24 [.ptr 1000000 0]), (6, .mpd G), (7, .d (D.sl 1 p)), (10, .d (D.int .i64 h9)), (11, .ptr 11 0), (44, .d (D.sl 5 a1)), (45, .d (D.int .i64 w2)), (46, .d (D.int .i64 h9)), (59, .d (D.sl 1 w343)), (60, .d (D.int .i64 w344)), (61, .d (D.int .i64 w345)), (62, .d (D.bool w346))], [(11, .box [.d w347, .d w348, .d w349, .d w350, .d w351]), (1000000, .box [.d (D.bool w352)])]⟩ k = occupancy_visit_s1_p12 n a0 a1 G p h9 w2 w343 w344 w345 w346 w347 w348 w349 w350 w351 w352 (fun z353 => k .normal ⟨81, [(0, .d (D.int .i64 a0)), (1, .d (D.sl 5 a1)), (2, .fn 24 [.ptr 1000000 0]), (6, .mpd G), (7, .d (D.sl 1 p)), (44, .d (D.sl 5 a1)), (45, .d (D.int .i64 w2)), (46, .d (D.int .i64 z353))], [(1000000, .box [.d (D.bool w352)])]⟩) := by kernel_rfl
theorem occupancy_visit_s1_p13_eq {R : Type} (n : Nat) (a0 : Int) (a1 : List (List D)) (G : Int → List (List D)) (p : List (List D)) (w2 : Int) (h9 : Int) (w196 : Bool) (h10 : Bool) (k : Exit → St → Option R) : vexec (occupancy_visit_s1_C n) n occupancy_visit_s1_c13 ⟨81, [(0, .d (D.int .i64 a0)), (1, .d (D.sl 5 a1)), (2, .fn 24 [.ptr 1000000 0]), (6, .mpd G), (7, .d (D.sl 1 p)), (44, .d (D.sl 5 a1)), (45, .d (D.int .i64 w2)), (46, .d (D.int .i64 h9)), (47, .d (D.bool w196))], [(1000000, .box [.d (D.bool h10)])]⟩ k = occupancy_visit_s1_p13 n a0 a1 G p w2 h9 w196 h10 (fun w333 w334 w335 w336 w337 w338 w339 w340 w341 w342 => k .ret ⟨81, [(0, .d (D.int .i64 a0)), (1, .d (D.sl 5 a1)), (2, .fn 24 [.ptr 1000000 0]), (6, .mpd G), (7, .d (D.sl 1 p)), (10, .d (D.int .i64 h9)), (11, .ptr 11 0), (44, .d (D.sl 5 a1)), (45, .d (D.int .i64 w2)), (46, .d (D.int .i64 h9)), (59, .d (D.sl 1 w333)), (60, .d (D.int .i64 w334)), (61, .d (D.int .i64 w335)), (78, .d (D.bool w336))], [(11, .box [.d w337, .d w338, .d w339, .d w340, .d w341]), (1000000, .box [.d (D.bool w342)])]⟩) (fun w354 w352 => k .normal ⟨81, [(0, .d (D.int .i64 a0)), (1, .d (D.sl 5 a1)), (2, .fn 24 [.ptr 1000000 0]), (6, .mpd G), (7, .d (D.sl 1 p)), (44, .d (D.sl 5 a1)), (45, .d (D.int .i64 w2)), (46, .d (D.int .i64 w354))], [(1000000, .box [.d (D.bool w352)])]⟩) := by
  rw [occupancy_visit_s1_c13_eq]
  unfold occupancy_visit_s1_p13
  exact (occupancy_visit_s1_p11_eq n a0 a1 G p w2 h9 w196 h10 (seqK (occupancy_visit_s1_C n) n occupancy_visit_s1_c12 k)).trans (occupancy_visit_s1_p11_congr n a0 a1 G p w2 h9 w196 h10 (fun w333 w334 w335 w336 w337 w338 w339 w340 w341 w342 => rfl) (fun w343 w344 w345 w346 w347 w348 w349 w350 w351 w352 => occupancy_visit_s1_p12_eq n a0 a1 G p h9 w2 w343 w344 w345 w346 w347 w348 w349 w350 w351 w352 k))
theorem occupancy_visit_s1_p14_eq {R : Type} (n : Nat) (a0 : Int) (a1 : List (List D)) (G : Int → List (List D)) (p : List (List D)) (w2 : Int) (h9 : Int) (w196 : Bool) (h10 : Bool) (k : Exit → St → Option R) : vexec (occupancy_visit_s1_C n) n occupancy_visit_s1_c14 ⟨81, [(0, .d (D.int .i64 a0)), (1, .d (D.sl 5 a1)), (2, .fn 24 [.ptr 1000000 0]), (6, .mpd G), (7, .d (D.sl 1 p)), (44, .d (D.sl 5 a1)), (45, .d (D.int .i64 w2)), (46, .d (D.int .i64 h9)), (47, .d (D.bool w196))], [(1000000, .box [.d (D.bool h10)])]⟩ k = occupancy_visit_s1_p14 n a0 a1 G p w2 h9 w196 h10 (fun w355 w356 w357 w358 w359 w360 w361 w362 w363 w364 => k .ret ⟨81, [(0, .d (D.int .i64 a0)), (1, .d (D.sl 5 a1)), (2, .fn 24 [.ptr 1000000 0]), (6, .mpd G), (7, .d (D.sl 1 p)), (10, .d (D.int .i64 h9)), (11, .ptr 11 0), (44, .d (D.sl 5 a1)), (45, .d (D.int .i64 w2)), (46, .d (D.int .i64 h9)), (59, .d (D.sl 1 w355)), (60, .d (D.int .i64 w356)), (61, .d (D.int .i64 w357)), (78, .d (D.bool w358))], [(11, .box [.d w359, .d w360, .d w361, .d w362, .d w363]), (1000000, .box [.d (D.bool w364)])]⟩) (fun w365 w366 => k .normal ⟨81, [(0, .d (D.int .i64 a0)), (1, .d (D.sl 5 a1)), (2, .fn 24 [.ptr 1000000 0]), (6, .mpd G), (7, .d (D.sl 1 p)), (44, .d (D.sl 5 a1)), (45, .d (D.int .i64 w2)), (46, .d (D.int .i64 w365))], [(1000000, .box [.d (D.bool w366)])]⟩) (k (.exit 2) ⟨81, [(0, .d (D.int .i64 a0)), (1, .d (D.sl 5 a1)), (2, .fn 24 [.ptr 1000000 0]), (6, .mpd G), (7, .d (D.sl 1 p)), (44, .d (D.sl 5 a1)), (45, .d (D.int .i64 w2)), (46, .d (D.int .i64 h9)), (47, .d (D.bool w196))], [(1000000, .box [.d (D.bool h10)])]⟩) := by
  rw [occupancy_visit_s1_c14_eq]
  unfold occupancy_visit_s1_p14
  exact (occupancy_visit_s1_p3_eq n a0 a1 G p w2 h9 w196 h10 (seqK (occupancy_visit_s1_C n) n occupancy_visit_s1_c13 k)).trans (occupancy_visit_s1_p3_congr n a0 a1 G p w2 h9 w196 h10 (occupancy_visit_s1_p13_eq n a0 a1 G p w2 h9 w196 h10 k) (rfl))
theorem occupancy_visit_s1_p15_eq {R : Type} (n : Nat) (a0 : Int) (a1 : List (List D)) (G : Int → List (List D)) (p : List (List D)) (w2 : Int) (h9 : Int) (h10 : Bool) (k : Exit → St → Option R) : vexec (occupancy_visit_s1_C n) n occupancy_visit_s1_c15 ⟨81, [(0, .d (D.int .i64 a0)), (1, .d (D.sl 5 a1)), (2, .fn 24 [.ptr 1000000 0]), (6, .mpd G), (7, .d (D.sl 1 p)), (44, .d (D.sl 5 a1)), (45, .d (D.int .i64 w2)), (46, .d (D.int .i64 h9))], [(1000000, .box [.d (D.bool h10)])]⟩ k = occupancy_visit_s1_p15 n a0 a1 G p w2 h9 h10 (fun w367 w368 w369 w370 w371 w372 w373 w374 w375 w376 => k .ret ⟨81, [(0, .d (D.int .i64 a0)), (1, .d (D.sl 5 a1)), (2, .fn 24 [.ptr 1000000 0]), (6, .mpd G), (7, .d (D.sl 1 p)), (10, .d (D.int .i64 h9)), (11, .ptr 11 0), (44, .d (D.sl 5 a1)), (45, .d (D.int .i64 w2)), (46, .d (D.int .i64 h9)), (59, .d (D.sl 1 w367)), (60, .d (D.int .i64 w368)), (61, .d (D.int .i64 w369)), (78, .d (D.bool w370))], [(11, .box [.d w371, .d w372, .d w373, .d w374, .d w375]), (1000000, .box [.d (D.bool w376)])]⟩) (fun w377 w378 => k .normal ⟨81, [(0, .d (D.int .i64 a0)), (1, .d (D.sl 5 a1)), (2, .fn 24 [.ptr 1000000 0]), (6, .mpd G), (7, .d (D.sl 1 p)), (44, .d (D.sl 5 a1)), (45, .d (D.int .i64 w2)), (46, .d (D.int .i64 w377))], [(1000000, .box [.d (D.bool w378)])]⟩) (fun w196 => k (.exit 2) ⟨81, [(0, .d (D.int .i64 a0)), (1, .d (D.sl 5 a1)), (2, .fn 24 [.ptr 1000000 0]), (6, .mpd G), (7, .d (D.sl 1 p)), (44, .d (D.sl 5 a1)), (45, .d (D.int .i64 w2)), (46, .d (D.int .i64 h9)), (47, .d (D.bool w196))], [(1000000, .box [.d (D.bool h10)])]⟩) := by
  rw [occupancy_visit_s1_c15_eq]
  unfold occupancy_visit_s1_p15
  exact (occupancy_visit_s1_p2_eq n a0 a1 G p w2 h9 h10 (seqK (occupancy_visit_s1_C n) n occupancy_visit_s1_c14 k)).trans (occupancy_visit_s1_p2_congr n a0 a1 G p w2 h9 h10 (fun w196 => occupancy_visit_s1_p14_eq n a0 a1 G p w2 h9 w196 h10 k))
theorem occupancy_visit_s1_r16_eq {R : Type} (n : Nat) (a0 : Int) (a1 : List (List D)) (G : Int → List (List D)) (p : List (List D)) (w2 : Int) (k : Exit → St → Option R) : ∀ (m : Nat) (h9 : Int) (h10 : Bool), loopN (vexec (occupancy_visit_s1_C n) n occupancy_visit_s1_c15) m ⟨81, [(0, .d (D.int .i64 a0)), (1, .d (D.sl 5 a1)), (2, .fn 24 [.ptr 1000000 0]), (6, .mpd G), (7, .d (D.sl 1 p)), (44, .d (D.sl 5 a1)), (45, .d (D.int .i64 w2)), (46, .d (D.int .i64 h9))], [(1000000, .box [.d (D.bool h10)])]⟩ k = occupancy_visit_s1_r16 n a0 a1 G p w2 (fun h9 w379 w380 w381 w382 w383 w384 w385 w386 w387 w388 => k .ret ⟨81, [(0, .d (D.int .i64 a0)), (1, .d (D.sl 5 a1)), (2, .fn 24 [.ptr 1000000 0]), (6, .mpd G), (7, .d (D.sl 1 p)), (10, .d (D.int .i64 h9)), (11, .ptr 11 0), (44, .d (D.sl 5 a1)), (45, .d (D.int .i64 w2)), (46, .d (D.int .i64 h9)), (59, .d (D.sl 1 w379)), (60, .d (D.int .i64 w380)), (61, .d (D.int .i64 w381)), (78, .d (D.bool w382))], [(11, .box [.d w383, .d w384, .d w385, .d w386, .d w387]), (1000000, .box [.d (D.bool w388)])]⟩) (fun h9 w391 h10 => k (.exit 2) ⟨81, [(0, .d (D.int .i64 a0)), (1, .d (D.sl 5 a1)), (2, .fn 24 [.ptr 1000000 0]), (6, .mpd G), (7, .d (D.sl 1 p)), (44, .d (D.sl 5 a1)), (45, .d (D.int .i64 w2)), (46, .d (D.int .i64 h9)), (47, .d (D.bool w391))], [(1000000, .box [.d (D.bool h10)])]⟩) m h9 h10
  | 0, _, _ => rfl
  | m + 1, h9, h10 => (occupancy_visit_s1_p15_eq n a0 a1 G p w2 h9 h10 (loopK (vexec (occupancy_visit_s1_C n) n occupancy_visit_s1_c15) m k)).trans (occupancy_visit_s1_p15_congr n a0 a1 G p w2 h9 h10 (fun w379 w380 w381 w382 w383 w384 w385 w386 w387 w388 => rfl) (fun w389 w390 => occupancy_visit_s1_r16_eq n a0 a1 G p w2 k m w389 w390) (fun w391 => rfl))
theorem occupancy_visit_s1_p16_eq {R : Type} (n : Nat) (a0 : Int) (a1 : List (List D)) (G : Int → List (List D)) (p : List (List D)) (w2 : Int) (b0_0 : Bool) (k : Exit → St → Option R) : vexec (occupancy_visit_s1_C n) n occupancy_visit_s1_c16 ⟨81, [(0, .d (D.int .i64 a0)), (1, .d (D.sl 5 a1)), (2, .fn 24 [.ptr 1000000 0]), (6, .mpd G), (7, .d (D.sl 1 p)), (44, .d (D.sl 5 a1)), (45, .d (D.int .i64 w2)), (46, .d (D.int .i64 (0 : Int)))], [(1000000, .box [.d (D.bool b0_0)])]⟩ k = occupancy_visit_s1_p16 n a0 a1 G p w2 b0_0 (fun h9 w379 w380 w381 w382 w383 w384 w385 w386 w387 w388 => k .ret ⟨81, [(0, .d (D.int .i64 a0)), (1, .d (D.sl 5 a1)), (2, .fn 24 [.ptr 1000000 0]), (6, .mpd G), (7, .d (D.sl 1 p)), (10, .d (D.int .i64 h9)), (11, .ptr 11 0), (44, .d (D.sl 5 a1)), (45, .d (D.int .i64 w2)), (46, .d (D.int .i64 h9)), (59, .d (D.sl 1 w379)), (60, .d (D.int .i64 w380)), (61, .d (D.int .i64 w381)), (78, .d (D.bool w382))], [(11, .box [.d w383, .d w384, .d w385, .d w386, .d w387]), (1000000, .box [.d (D.bool w388)])]⟩) (fun h9 w391 h10 => k (.exit 2) ⟨81, [(0, .d (D.int .i64 a0)), (1, .d (D.sl 5 a1)), (2, .fn 24 [.ptr 1000000 0]), (6, .mpd G), (7, .d (D.sl 1 p)), (44, .d (D.sl 5 a1)), (45, .d (D.int .i64 w2)), (46, .d (D.int .i64 h9)), (47, .d (D.bool w391))], [(1000000, .box [.d (D.bool h10)])]⟩) := by
  rw [occupancy_visit_s1_c16_eq]
  exact occupancy_visit_s1_r16_eq n a0 a1 G p w2 k n (0 : Int) b0_0
theorem occupancy_visit_s1_p17_eq {R : Type} (n : Nat) (a0 : Int) (a1 : List (List D)) (G : Int → List (List D)) (p : List (List D)) (w2 : Int) (b0_0 : Bool) (k : Exit → St → Option R) : vexec (occupancy_visit_s1_C n) n occupancy_visit_s1_c17 ⟨81, [(0, .d (D.int .i64 a0)), (1, .d (D.sl 5 a1)), (2, .fn 24 [.ptr 1000000 0]), (6, .mpd G), (7, .d (D.sl 1 p)), (44, .d (D.sl 5 a1)), (45, .d (D.int .i64 w2)), (46, .d (D.int .i64 (0 : Int)))], [(1000000, .box [.d (D.bool b0_0)])]⟩ k = occupancy_visit_s1_p17 n a0 a1 G p w2 b0_0 (fun w392 w393 w394 w395 w396 w397 w398 w399 w400 w401 w402 => k .ret ⟨81, [(0, .d (D.int .i64 a0)), (1, .d (D.sl 5 a1)), (2, .fn 24 [.ptr 1000000 0]), (6, .mpd G), (7, .d (D.sl 1 p)), (10, .d (D.int .i64 w392)), (11, .ptr 11 0), (44, .d (D.sl 5 a1)), (45, .d (D.int .i64 w2)), (46, .d (D.int .i64 w392)), (59, .d (D.sl 1 w393)), (60, .d (D.int .i64 w394)), (61, .d (D.int .i64 w395)), (78, .d (D.bool w396))], [(11, .box [.d w397, .d w398, .d w399, .d w400, .d w401]), (1000000, .box [.d (D.bool w402)])]⟩) (fun w403 w404 w405 => k .normal ⟨81, [(0, .d (D.int .i64 a0)), (1, .d (D.sl 5 a1)), (2, .fn 24 [.ptr 1000000 0]), (6, .mpd G), (7, .d (D.sl 1 p)), (44, .d (D.sl 5 a1)), (45, .d (D.int .i64 w2)), (46, .d (D.int .i64 w403)), (47, .d (D.bool w404))], [(1000000, .box [.d (D.bool w405)])]⟩) := by
  rw [occupancy_visit_s1_c17_eq]
  unfold occupancy_visit_s1_p17
  exact (occupancy_visit_s1_p16_eq n a0 a1 G p w2 b0_0 (blockK 2 k)).trans (occupancy_visit_s1_p16_congr n a0 a1 G p w2 b0_0 (fun w392 w393 w394 w395 w396 w397 w398 w399 w400 w401 w402 => rfl) (fun w403 w404 w405 => rfl))
theorem occupancy_visit_s1_p18_eq {R : Type} (n : Nat) (a0 : Int) (a1 : List (List D)) (G : Int → List (List D)) (p : List (List D)) (b0_0 : Bool) (k : Exit → St → Option R) : vexec (occupancy_visit_s1_C n) n occupancy_visit_s1_c0 ⟨81, [(0, .d (D.int .i64 a0)), (1, .d (D.sl 5 a1)), (2, .fn 24 [.ptr 1000000 0]), (6, .mpd G), (7, .d (D.sl 1 p))], [(1000000, .box [.d (D.bool b0_0)])]⟩ k = occupancy_visit_s1_p18 n a0 a1 G p b0_0 (fun w406 w2 w407 w408 w409 w410 w411 w412 w413 w414 w415 w416 => k .ret ⟨81, [(0, .d (D.int .i64 a0)), (1, .d (D.sl 5 a1)), (2, .fn 24 [.ptr 1000000 0]), (6, .mpd G), (7, .d (D.sl 1 p)), (10, .d (D.int .i64 w406)), (11, .ptr 11 0), (44, .d (D.sl 5 a1)), (45, .d (D.int .i64 w2)), (46, .d (D.int .i64 w406)), (59, .d (D.sl 1 w407)), (60, .d (D.int .i64 w408)), (61, .d (D.int .i64 w409)), (78, .d (D.bool w410))], [(11, .box [.d w411, .d w412, .d w413, .d w414, .d w415]), (1000000, .box [.d (D.bool w416)])]⟩) (fun w2 w417 w418 w419 => k .normal ⟨81, [(0, .d (D.int .i64 a0)), (1, .d (D.sl 5 a1)), (2, .fn 24 [.ptr 1000000 0]), (6, .mpd G), (7, .d (D.sl 1 p)), (44, .d (D.sl 5 a1)), (45, .d (D.int .i64 w2)), (46, .d (D.int .i64 w417)), (47, .d (D.bool w418))], [(1000000, .box [.d (D.bool w419)])]⟩) := by
  rw [occupancy_visit_s1_c0_eq]
  unfold occupancy_visit_s1_p18
  exact (occupancy_visit_s1_p1_eq n a0 a1 G p b0_0 (seqK (occupancy_visit_s1_C n) n occupancy_visit_s1_c17 k)).trans (occupancy_visit_s1_p1_congr n a0 a1 G p b0_0 (fun w2 => occupancy_visit_s1_p17_eq n a0 a1 G p w2 b0_0 k))
def occupancy_visit_s1_Ko : AV → List (Nat × Ob) → Option (Bool) := fun av H => (look H 1000000).bind fun o0 => match av, o0 with
  | .tup [], .box [.d (D.bool r0)] => some r0
  | _, _ => none
theorem occupancy_visit_s1_vfo (n : Nat) (a0 : Int) (a1 : List (List D)) (b0_0 : Bool) : (visPre a1 fun G p => vexec (occupancy_visit_s1_C n) n occupancy_visit_s1_c0 ⟨81, [(0, .d (D.int .i64 a0)), (1, .d (D.sl 5 a1)), (2, .fn 24 [.ptr 1000000 0]), (6, .mpd G), (7, .d (D.sl 1 p))], [(1000000, .box [.d (D.bool b0_0)])]⟩ (fnK occupancy_visit_s1_tt Try.f23 occupancy_visit_s1_Ko)) = occupancy_visit_s1 n a0 a1 b0_0 some := by
  unfold occupancy_visit_s1
  congr 1
  funext G p
  exact (occupancy_visit_s1_p18_eq n a0 a1 G p b0_0 (fnK occupancy_visit_s1_tt Try.f23 occupancy_visit_s1_Ko)).trans (by kernel_rfl)
def occupancy_visit_s1_s (n : Nat) : Entry := fun _ site g avs hl k => match avs with
  | [c0, c1, c2] => prI g .i64 c0 fun a0 => prS g 5 c1 fun a1 => prF 24 c2 fun m4 => (match m4 with
    | [y4_0] => prP hl y4_0 fun l0 bl0 => (match bl0 with
    | [xl0_0] => prB g xl0_0 fun b0_0 => 
    bif newsOk hl [(1000000, l0)] [] then gb g (occupancy_visit_s1 n a0 a1 b0_0 some) false fun r => k ⟨.tup [], [(l0, some (.box [.d (D.bool r)]))], [l0]⟩ else none
    | _ => none)
    | _ => none)
  | _ => none
theorem occupancy_visit_s1_so (n : Nat) : EntryOK Try.prog 23 (occupancy_visit_s1_s n) := by
  intro R site g avs hl k r h
  unfold occupancy_visit_s1_s at h
  split at h
  rotate_left
  · cases h
  replace h := prI_some h
  obtain ⟨a0, h, le0⟩ := h
  replace h := prS_some h
  obtain ⟨a1, h, le1⟩ := h
  replace h := prF_some h
  obtain ⟨m4, h, em4⟩ := h
  subst em4
  split at h
  rotate_left
  · cases h
  replace h := prP_some h
  obtain ⟨l0, bl0, h, el0, hbl0⟩ := h
  subst el0
  split at h
  rotate_left
  · cases h
  replace h := prB_some h
  obtain ⟨b0_0, h, le2⟩ := h
  replace h := bif_some h
  obtain ⟨hc, h⟩ := h
  replace h := gb_some h
  obtain ⟨res, h, hr⟩ := h
  refine ⟨_, h, fun hg => callOK_shX (K := occupancy_visit_s1_Ko) (res := res) (fn := Try.f23) (by kernel_rfl) (by kernel_rfl) (by kernel_rfl) (ρ := [(1000000, l0)]) (ν := []) (avs' := [.d (D.int .i64 a0), .d (D.sl 5 a1), .fn 24 [.ptr 1000000 0]]) (H := [(1000000, .box [.d (D.bool b0_0)])]) (.cons (.data rfl (le0 hg)) (.cons (.data rfl (le1 hg)) (.cons (.own rfl rfl) (.nil)))) rfl rfl hc (⟨⟨by decide, _, _, hbl0, rfl, .box (.cons (.data rfl (le2 hg)) (.nil))⟩, trivial⟩) rfl rfl ?_ ?_⟩
  · exact fun β S w vs hO hA => vis_calls (occupancy_visit_s1_VC n) (by kernel_rfl) ((occupancy_visit_s1_vfo n a0 a1 b0_0).trans (hr hg)) hO hA
  · intro av H' hx
    unfold occupancy_visit_s1_Ko at hx
    replace hx := Option.bind_eq_some_iff.1 hx
    obtain ⟨o0, ho0, hx⟩ := hx
    split at hx
    rotate_left
    · cases hx
    injection hx with hx
    subst hx
    refine ⟨rfl, ?_, trivial, ⟨endOk_box rfl ho0 rfl, trivial⟩⟩
    simp only [List.cons_append, List.nil_append, outWr, ho0, Option.map_some, Option.map_none]
    rfl
end Go.Vx
/-
  occupancy_Free: the interpreter computes the pure function
-/
set_option linter.unusedVariables false
set_option linter.unusedSimpArgs false
set_option maxRecDepth 100000
namespace Go.Vx
open Go.Proofs
noncomputable def occupancy_Free_c0 : Code := bodyOf Try.f11
def occupancy_Free_tt : TT := [(4, ⟨.bool, 1, 1, [.bool false], [.bool false], [], none⟩)]
theorem occupancy_Free_tt_eq : mkTT Try.prog [4] = occupancy_Free_tt := by kernel_rfl
def occupancy_Free_cfg : List (Nat × Cfg) := [(0, ⟨[0, 1], [], [], [], []⟩), (1, ⟨[0, 1, 9], [], [], [], []⟩), (2, ⟨[4], [], [], [], []⟩), (3, ⟨[0, 1, 5], [(5, 5)], [], [], []⟩), (4, ⟨[5], [(5, 5)], [], [], []⟩), (5, ⟨[4], [], [], [], []⟩)]
def occupancy_Free_C (n : Nat) : VC := ⟨specOf [(19, occupancy_Valid_e n), (23, occupancy_visit_s1_s n)], occupancy_Free_tt, occupancy_Free_cfg⟩
theorem occupancy_Free_ents (n : Nat) : EntsOK Try.prog [(19, occupancy_Valid_e n), (23, occupancy_visit_s1_s n)] := ⟨occupancy_Valid_ok n, ⟨occupancy_visit_s1_so n, trivial⟩⟩
theorem occupancy_Free_VC (n : Nat) : VCOk Try.prog (occupancy_Free_C n) := ⟨specOf_ok (occupancy_Free_ents n), (occupancy_Free_tt_eq ▸ mkTT_ok _ : TOk Try.prog occupancy_Free_tt), by kernel_rfl⟩
theorem occupancy_Free_p1_congr {R : Type} (n : Nat) (a0 : Int) (a1 : List (List D)) {k0 kk0 : Bool → Option R} (hq0 : ∀ x0, k0 x0 = kk0 x0) : occupancy_Free_p1 n a0 a1 k0 = occupancy_Free_p1 n a0 a1 kk0 := by
  obtain rfl : k0 = kk0 := funext fun x0 => hq0 x0
  rfl
theorem occupancy_Free_p1_eq {R : Type} (n : Nat) (a0 : Int) (a1 : List (List D)) (k : Exit → St → Option R) : vexec (occupancy_Free_C n) n occupancy_Free_c0 ⟨15, [(0, .d (D.int .i64 a0)), (1, .d (D.sl 5 a1))], []⟩ k = occupancy_Free_p1 n a0 a1 (fun z3 => k .ret ⟨15, [(4, .d (D.bool z3))], []⟩) := by kernel_rfl
theorem occupancy_Free_vfn {R : Type} (n : Nat) (a0 : Int) (a1 : List (List D)) (K : AV → Option R) : vfn (occupancy_Free_C n) n Try.f11 [.d (D.int .i64 a0), .d (D.sl 5 a1)] [] (retF [[0]] K) = occupancy_Free n a0 a1 (fun r0 => K (.d (D.bool r0))) :=
  (show vfn (occupancy_Free_C n) n Try.f11 [.d (D.int .i64 a0), .d (D.sl 5 a1)] [] (retF [[0]] K) = vexec (occupancy_Free_C n) n occupancy_Free_c0 ⟨15, [(0, .d (D.int .i64 a0)), (1, .d (D.sl 5 a1))], []⟩ (retX occupancy_Free_tt [.tmp 4] (retF [[0]] K)) from vfn_at (by kernel_rfl) (by kernel_rfl) rfl (by kernel_rfl) rfl (by kernel_rfl) rfl).trans ((occupancy_Free_p1_eq n a0 a1 (retX occupancy_Free_tt [.tmp 4] (retF [[0]] K))).trans (by kernel_rfl))
def occupancy_Free_K : AV → Option (Bool) := fun av => match av with
  | .d (D.bool r0) => some r0
  | _ => none
def occupancy_Free_e (n : Nat) : Entry := fun _ _ g avs _ k => match avs with
  | [c0, c1] => prI g .i64 c0 fun a0 => prS g 5 c1 fun a1 => 
    gb g (occupancy_Free n a0 a1 some) false fun r => k ⟨.d (D.bool r), [], []⟩
  | _ => none
theorem occupancy_Free_ok (n : Nat) : EntryOK Try.prog 11 (occupancy_Free_e n) := by
  intro R site g avs hl k r h
  unfold occupancy_Free_e at h
  split at h
  rotate_left
  · cases h
  replace h := prI_some h
  obtain ⟨a0, h, le0⟩ := h
  replace h := prS_some h
  obtain ⟨a1, h, le1⟩ := h
  replace h := gb_some h
  obtain ⟨res, h, hr⟩ := h
  refine ⟨_, h, fun hg => CallOK.conv (avs' := [.d (D.int .i64 a0), .d (D.sl 5 a1)]) (.cons (le0 hg) (.cons (le1 hg) (.nil))) (callOK_fix (K := occupancy_Free_K) (res := res) (occupancy_Free_VC n) (fn := Try.f11) (n := n) (by kernel_rfl) (by kernel_rfl) (by kernel_rfl) (ss := [[0]]) rfl ?_ ?_)⟩
  · exact (occupancy_Free_vfn n a0 a1 occupancy_Free_K).trans (hr hg)
  · intro x hx
    unfold occupancy_Free_K at hx
    split at hx
    · injection hx with hx; subst hx; rfl
    · cases hx
end Go.Vx
/-
  arith_Mod: the interpreter computes the pure function
-/
set_option linter.unusedVariables false
set_option linter.unusedSimpArgs false
set_option maxRecDepth 100000
namespace Go.Vx
open Go.Proofs
noncomputable def arith_Mod_c0 : Code := bodyOf Try.f20
def arith_Mod_tt : TT := [(3, ⟨.int .i64, 1, 8, [.int .i64 0], [.int .i64 0], [], none⟩)]
theorem arith_Mod_tt_eq : mkTT Try.prog [3] = arith_Mod_tt := by kernel_rfl
def arith_Mod_cfg : List (Nat × Cfg) := [(0, ⟨[0, 1], [], [], [], []⟩), (1, ⟨[0, 1, 7], [], [], [], []⟩), (2, ⟨[4], [], [], [], []⟩), (3, ⟨[1, 5], [], [], [], []⟩), (4, ⟨[1, 5, 12], [], [], [], []⟩), (5, ⟨[5], [], [], [], []⟩), (6, ⟨[4], [], [], [], []⟩)]
def arith_Mod_C (n : Nat) : VC := ⟨specOf [], arith_Mod_tt, arith_Mod_cfg⟩
theorem arith_Mod_ents (n : Nat) : EntsOK Try.prog [] := trivial
theorem arith_Mod_VC (n : Nat) : VCOk Try.prog (arith_Mod_C n) := ⟨specOf_ok (arith_Mod_ents n), (arith_Mod_tt_eq ▸ mkTT_ok _ : TOk Try.prog arith_Mod_tt), by kernel_rfl⟩
theorem arith_Mod_p1_congr {R : Type} (n : Nat) (a0 : Int) (a1 : Int) {k0 kk0 : Int → Option R} (hq0 : ∀ x0, k0 x0 = kk0 x0) : arith_Mod_p1 n a0 a1 k0 = arith_Mod_p1 n a0 a1 kk0 := by
  obtain rfl : k0 = kk0 := funext fun x0 => hq0 x0
  rfl
theorem arith_Mod_p1_eq {R : Type} (n : Nat) (a0 : Int) (a1 : Int) (k : Exit → St → Option R) : vexec (arith_Mod_C n) n arith_Mod_c0 ⟨17, [(0, .d (D.int .i64 a0)), (1, .d (D.int .i64 a1))], []⟩ k = arith_Mod_p1 n a0 a1 (fun z2 => k .ret ⟨17, [(4, .d (D.int .i64 z2))], []⟩) := by kernel_rfl
theorem arith_Mod_vfn {R : Type} (n : Nat) (a0 : Int) (a1 : Int) (K : AV → Option R) : vfn (arith_Mod_C n) n Try.f20 [.d (D.int .i64 a0), .d (D.int .i64 a1)] [] (retF [[0]] K) = arith_Mod n a0 a1 (fun r0 => K (.d (D.int .i64 r0))) :=
  (show vfn (arith_Mod_C n) n Try.f20 [.d (D.int .i64 a0), .d (D.int .i64 a1)] [] (retF [[0]] K) = vexec (arith_Mod_C n) n arith_Mod_c0 ⟨17, [(0, .d (D.int .i64 a0)), (1, .d (D.int .i64 a1))], []⟩ (retX arith_Mod_tt [.tmp 4] (retF [[0]] K)) from vfn_at (by kernel_rfl) (by kernel_rfl) rfl (by kernel_rfl) rfl (by kernel_rfl) rfl).trans ((arith_Mod_p1_eq n a0 a1 (retX arith_Mod_tt [.tmp 4] (retF [[0]] K))).trans (by kernel_rfl))
def arith_Mod_K : AV → Option (Int) := fun av => match av with
  | .d (D.int .i64 r0) => some r0
  | _ => none
def arith_Mod_e (n : Nat) : Entry := fun _ _ g avs _ k => match avs with
  | [c0, c1] => prI g .i64 c0 fun a0 => prI g .i64 c1 fun a1 => 
    gb g (arith_Mod n a0 a1 some) 0 fun r => k ⟨.d (D.int .i64 r), [], []⟩
  | _ => none
theorem arith_Mod_ok (n : Nat) : EntryOK Try.prog 20 (arith_Mod_e n) := by
  intro R site g avs hl k r h
  unfold arith_Mod_e at h
  split at h
  rotate_left
  · cases h
  replace h := prI_some h
  obtain ⟨a0, h, le0⟩ := h
  replace h := prI_some h
  obtain ⟨a1, h, le1⟩ := h
  replace h := gb_some h
  obtain ⟨res, h, hr⟩ := h
  refine ⟨_, h, fun hg => CallOK.conv (avs' := [.d (D.int .i64 a0), .d (D.int .i64 a1)]) (.cons (le0 hg) (.cons (le1 hg) (.nil))) (callOK_fix (K := arith_Mod_K) (res := res) (arith_Mod_VC n) (fn := Try.f20) (n := n) (by kernel_rfl) (by kernel_rfl) (by kernel_rfl) (ss := [[0]]) rfl ?_ ?_)⟩
  · exact (arith_Mod_vfn n a0 a1 arith_Mod_K).trans (hr hg)
  · intro x hx
    unfold arith_Mod_K at hx
    split at hx
    · injection hx with hx; subst hx; rfl
    · cases hx
end Go.Vx
/-
  DERIVED: THE SHELF's CONTRACTS AT THIS DUMP, IN PLAIN WORDS (tools/lay-plain.mjs out of 'TryShelf.lean', which tools/lay-shelf.mjs wrote): THE SAME DECLARATIONS UNDER THE SAME NAMES: 'import', 'namespace', 'open', 'def', 'theorem' AND NOTHING ELSE: no command of the shelf's: FOR A HAND-IN. Each laying: the table of numbers ('.._ren') and one theorem, a field a fact of the dump's own or the kernel's comparison; each contract: ONE APPLICATION.
-/
namespace Go.Proofs
open Go.Shelf
def Try.lays189_ren : Go.Shelf.Ren := ⟨fun | 189 => 21 | 125 => 31 | 257 => 30 | 128 => 45 | 129 => 46 | 294 => 36 | 295 => 37 | 296 => 38 | 297 => 39 | 298 => 40 | 299 => 41 | 216 => 42 | 300 => 43 | 301 => 44 | 328 => 51 | 329 => 52 | 330 => 53 | 331 => 54 | 332 => 55 | 215 => 56 | 343 => 57 | n => n, fun | 28 => 22 | 3 => 3 | 46 => 40 | 0 => 0 | 51 => 65 | 53 => 67 | 4 => 4 | 183 => 58 | 182 => 57 | 131 => 62 | 5 => 5 | 9 => 9 | 218 => 71 | 222 => 75 | 228 => 78 | 229 => 79 | n => n, fun | n => n⟩
theorem Try.lays189 : Go.Proofs.Lays.n189 Try.prog Try.lays189_ren := {
  mixed := by kernel_rfl
  f125 := Try.func31.trans (congrArg some (by kernel_rfl))
  f128 := Try.func45.trans (congrArg some (by kernel_rfl))
  f129 := Try.func46.trans (congrArg some (by kernel_rfl))
  f189 := Try.func21.trans (congrArg some (by kernel_rfl))
  f215 := Try.func56.trans (congrArg some (by kernel_rfl))
  f216 := Try.func42.trans (congrArg some (by kernel_rfl))
  f257 := Try.func30.trans (congrArg some (by kernel_rfl))
  f294 := Try.func36.trans (congrArg some (by kernel_rfl))
  f295 := Try.func37.trans (congrArg some (by kernel_rfl))
  f296 := Try.func38.trans (congrArg some (by kernel_rfl))
  f297 := Try.func39.trans (congrArg some (by kernel_rfl))
  f298 := Try.func40.trans (congrArg some (by kernel_rfl))
  f299 := Try.func41.trans (congrArg some (by kernel_rfl))
  f300 := Try.func43.trans (congrArg some (by kernel_rfl))
  f301 := Try.func44.trans (congrArg some (by kernel_rfl))
  f328 := Try.func51.trans (congrArg some (by kernel_rfl))
  f329 := Try.func52.trans (congrArg some (by kernel_rfl))
  f330 := Try.func53.trans (congrArg some (by kernel_rfl))
  f331 := Try.func54.trans (congrArg some (by kernel_rfl))
  f332 := Try.func55.trans (congrArg some (by kernel_rfl))
  f343 := Try.func57.trans (congrArg some (by kernel_rfl))
  t0 := Try.underlying0
  a0 := Try.isAgg0
  z0 := Try.sizeOf0
  v0 := Try.zeroValue0
  t3 := Try.underlying3
  a3 := Try.isAgg3
  z3 := Try.sizeOf3
  v3 := Try.zeroValue3
  t4 := Try.underlying4
  a4 := Try.isAgg4
  z4 := Try.sizeOf4
  v4 := Try.zeroValue4
  t5 := Try.underlying5
  a5 := Try.isAgg5
  z5 := Try.sizeOf5
  v5 := Try.zeroValue5
  t9 := Try.underlying9
  a9 := Try.isAgg9
  z9 := Try.sizeOf9
  v9 := Try.zeroValue9
  t28 := Try.underlying22
  a28 := Try.isAgg22
  z28 := Try.sizeOf22
  v28 := Try.zeroValue22
  t46 := Try.underlying40
  a46 := Try.isAgg40
  z46 := Try.sizeOf40
  v46 := Try.zeroValue40
  t51 := Try.underlying65
  a51 := Try.isAgg65
  z51 := Try.sizeOf65
  v51 := Try.zeroValue65
  t53 := Try.underlying67
  a53 := Try.isAgg67
  z53 := Try.sizeOf67
  v53 := Try.zeroValue67
  t131 := Try.underlying62
  a131 := Try.isAgg62
  z131 := Try.sizeOf62
  v131 := Try.zeroValue62
  t182 := Try.underlying57
  a182 := Try.isAgg57
  z182 := Try.sizeOf57
  v182 := Try.zeroValue57
  t183 := Try.underlying58
  a183 := Try.isAgg58
  z183 := Try.sizeOf58
  v183 := Try.zeroValue58
  t218 := Try.underlying71
  a218 := Try.isAgg71
  z218 := Try.sizeOf71
  v218 := Try.zeroValue71
  t222 := Try.underlying75
  a222 := Try.isAgg75
  z222 := Try.sizeOf75
  v222 := Try.zeroValue75
  t228 := Try.underlying78
  a228 := Try.isAgg78
  z228 := Try.sizeOf78
  v228 := Try.zeroValue78
  t229 := Try.underlying79
  a229 := Try.isAgg79
  z229 := Try.sizeOf79
  v229 := Try.zeroValue79 }
open Go.Sort Go.RowKit in
theorem Try.slices_Sort_int (blk off cap : Nat) (zs : List Int) (w : World) (hH : Holds (Value.int .i64) w blk off zs.toArray) (hblk : blk < w.heap.size) (hsz : zs.length < 4611686018427387904) :
    Calls Try.prog 21 #[.slice (some ⟨blk, off, none⟩) zs.length cap] w fun e w' =>
      e = .returned (.tuple #[]) ∧ ∃ n os, w' = grow (putRow (Value.int .i64) (Sort.ahead w n) blk off (zs.mergeSort fun x y => decide (x ≤ y)).toArray) os := Any.slices_Sort_int Try.lays189 blk off cap zs w hH hblk hsz
def Try.laysNm220_ren : Go.Shelf.Ren := ⟨fun | 20 => 22 | n => n, fun | 22 => 22 | 3 => 3 | 4 => 4 | 0 => 0 | n => n, fun | n => n⟩
theorem Try.laysNm220 : Go.Proofs.Lays2.n20 Try.prog Try.laysNm220_ren := {
  mixed := by kernel_rfl
  f20 := Try.func22.trans (congrArg some (by kernel_rfl))
  t0 := Try.underlying0
  a0 := Try.isAgg0
  z0 := Try.sizeOf0
  v0 := Try.zeroValue0
  t3 := Try.underlying3
  a3 := Try.isAgg3
  z3 := Try.sizeOf3
  v3 := Try.zeroValue3
  t4 := Try.underlying4
  a4 := Try.isAgg4
  z4 := Try.sizeOf4
  v4 := Try.zeroValue4
  t22 := Try.underlying22
  a22 := Try.isAgg22
  z22 := Try.sizeOf22
  v22 := Try.zeroValue22
  i3 := by kernel_rfl }
open Go.RowKit Go.Lib Go.Sort in
/-- slices.Compact at []int, over an array: the library's two loops are walked. (LAID: no walk: one application.) -/
theorem Try.slices_Compact_int_arr (blk off cap : Nat) (d : Array Int) (w : World) (hH : Holds encI w blk off d) (hsz : d.size ≤ 9223372036854775807) (hcap : d.size ≤ cap) :
    Calls Try.prog 22 #[.slice (some ⟨blk, off, none⟩) d.size cap] w fun e w' => e = .returned (.slice (some ⟨blk, off, none⟩) (compactUpTo d d.size).length cap) ∧ ∃ q, w' = putRow encI (Sort.ahead w q) blk off (compactUpTo d d.size ++ List.replicate (d.size - (compactUpTo d d.size).length) 0).toArray := Any.slices_Compact_int_arr Try.laysNm220 blk off cap d w hH hsz hcap
open Go.RowKit Go.Lib Go.Sort in
/-- slices.Compact at []int: "Compact replaces consecutive runs of equal elements with a single copy. This is like the uniq command found on Unix. Compact modifies the contents of the slice s and returns the modified slice, which may have a smaller length. Compact zeroes the elements between the new length and the original length. The result preserves the nilness of s.": IT RETURNS THE SLICE CUT TO 'Lib.compact zs'; ITS CELLS HOLD 'Lib.compact zs', THEN ZERO VALUES up to the old length; all else is as it was, but for the count of draws. IN THE WORDS OF slices.Sort's CONTRACT ('Holds', 'putRow'): so the everyday 'slices.Sort(xs); xs = slices.Compact(xs)' goes from the one contract to the other. It asks 'zs.length ≤ cap' (every slice's: the reslicing 's[:k]' looks at it). Length 0, nil: '.._empty'. (LAID: no walk: one application.) -/
theorem Try.slices_Compact_int (blk off cap : Nat) (zs : List Int) (w : World) (hH : Holds (Value.int .i64) w blk off zs.toArray) (hsz : zs.length ≤ 9223372036854775807) (hcap : zs.length ≤ cap) :
    Calls Try.prog 22 #[.slice (some ⟨blk, off, none⟩) zs.length cap] w fun e w' => e = .returned (.slice (some ⟨blk, off, none⟩) (Lib.compact zs).length cap) ∧ ∃ q, w' = putRow (Value.int .i64) (Sort.ahead w q) blk off (Lib.compact zs ++ List.replicate (zs.length - (Lib.compact zs).length) 0).toArray := Any.slices_Compact_int Try.laysNm220 blk off cap zs w hH hsz hcap
open Go.RowKit Go.Lib Go.Sort in
/-- The same at a slice of length 0, a nil one too: it comes back as it is. (LAID: no walk: one application.) -/
theorem Try.slices_Compact_int_empty (a : Option Addr) (cap : Nat) (w : World) :
    Calls Try.prog 22 #[.slice a 0 cap] w fun e w' => e = .returned (.slice a 0 cap) ∧ w' = w := Any.slices_Compact_int_empty Try.laysNm220 a cap w
open Go.RowKit Go.Sort in
/-- .. and plain. (LAID: no walk: one application.) -/
theorem Try.slices_Sort_int_none (p : Option Addr) (cap : Nat) (w : World) :
    Calls Try.prog 21 #[.slice p 0 cap] w fun e w' => e = .returned (.tuple #[]) ∧ w' = w := Any.slices_Sort_int_none Try.lays189 p cap w
end Go.Proofs
/-
  slices_Sort_int_int: its contract
-/
set_option linter.unusedVariables false
namespace Go.Vx
open Go.Proofs
def slices_Sort_int_int_e (n : Nat) : Entry := sortE 3
theorem slices_Sort_int_int_ok (n : Nat) : EntryOK Try.prog 21 (slices_Sort_int_int_e n) := sortE_ok Try.func21 (by kernel_rfl) (by kernel_rfl) ⟨fun blk off cap zs w => Try.slices_Sort_int blk off cap zs w, fun p cap w => Try.slices_Sort_int_none p cap w⟩
end Go.Vx
/-
  slices_Compact_int_int: its contract
-/
set_option linter.unusedVariables false
namespace Go.Vx
open Go.Proofs
def slices_Compact_int_int_e (n : Nat) : Entry := compactE 3
theorem slices_Compact_int_int_ok (n : Nat) : EntryOK Try.prog 22 (slices_Compact_int_int_e n) := compactE_ok Try.func22 (by kernel_rfl) (by kernel_rfl) ⟨fun blk off cap zs w => Try.slices_Compact_int blk off cap zs w, fun p cap w => Try.slices_Compact_int_empty p cap w⟩
end Go.Vx
/-
  occupancy_At: the interpreter computes the pure function
-/
set_option linter.unusedVariables false
set_option linter.unusedSimpArgs false
set_option maxRecDepth 100000
namespace Go.Vx
open Go.Proofs
noncomputable def occupancy_At_c0 : Code := bodyOf Try.f9
noncomputable def occupancy_At_c1 : Code := cL (bodyOf Try.f9)
noncomputable def occupancy_At_c2 : Code := cL (cR (bodyOf Try.f9))
noncomputable def occupancy_At_c3 : Code := cL (cR (cR (bodyOf Try.f9)))
noncomputable def occupancy_At_c4 : Code := cL (cR (cR (cR (bodyOf Try.f9))))
noncomputable def occupancy_At_c5 : Code := cL (cL (cR (cR (cR (cR (bodyOf Try.f9))))))
noncomputable def occupancy_At_c6 : Code := cB (cB (cR (cL (cR (cR (cR (cR (bodyOf Try.f9))))))))
noncomputable def occupancy_At_c7 : Code := cB (cR (cL (cR (cR (cR (cR (bodyOf Try.f9)))))))
noncomputable def occupancy_At_c8 : Code := cR (cL (cR (cR (cR (cR (bodyOf Try.f9))))))
noncomputable def occupancy_At_c9 : Code := cL (cR (cR (cR (cR (bodyOf Try.f9)))))
noncomputable def occupancy_At_c10 : Code := cR (cR (cR (cR (cR (bodyOf Try.f9)))))
noncomputable def occupancy_At_c11 : Code := cR (cR (cR (cR (bodyOf Try.f9))))
noncomputable def occupancy_At_c12 : Code := cR (cR (cR (bodyOf Try.f9)))
noncomputable def occupancy_At_c13 : Code := cR (cR (bodyOf Try.f9))
noncomputable def occupancy_At_c14 : Code := cR (bodyOf Try.f9)
theorem occupancy_At_c7_eq : occupancy_At_c7 = .loop occupancy_At_c6 := by kernel_rfl
theorem occupancy_At_c8_eq : occupancy_At_c8 = .block 0 occupancy_At_c7 := by kernel_rfl
theorem occupancy_At_c9_eq : occupancy_At_c9 = .seq occupancy_At_c5 occupancy_At_c8 := by kernel_rfl
theorem occupancy_At_c11_eq : occupancy_At_c11 = .seq occupancy_At_c9 occupancy_At_c10 := by kernel_rfl
theorem occupancy_At_c12_eq : occupancy_At_c12 = .seq occupancy_At_c4 occupancy_At_c11 := by kernel_rfl
theorem occupancy_At_c13_eq : occupancy_At_c13 = .seq occupancy_At_c3 occupancy_At_c12 := by kernel_rfl
theorem occupancy_At_c14_eq : occupancy_At_c14 = .seq occupancy_At_c2 occupancy_At_c13 := by kernel_rfl
theorem occupancy_At_c0_eq : occupancy_At_c0 = .seq occupancy_At_c1 occupancy_At_c14 := by kernel_rfl
def occupancy_At_tt : TT := [(3, ⟨.int .i64, 1, 8, [.int .i64 0], [.int .i64 0], [], none⟩), (22, ⟨.sl 3 1, 1, 24, [.slice none 0 0], [.sl 1 []], [], none⟩), (24, ⟨.sl 31 5, 1, 24, [.slice none 0 0], [.sl 5 []], [], none⟩), (31, ⟨.struct, 5, 40, [.int .i64 0, .int .i64 0, .int .i64 0, .int .i64 0, .int .i64 0], [.int .i64 0, .int .i64 0, .int .i64 0, .int .i64 0, .int .i64 0], [(0, 3), (1, 3), (2, 3), (3, 3), (4, 3)], some [.int .i64, .int .i64, .int .i64, .int .i64, .int .i64]⟩)]
theorem occupancy_At_tt_eq : mkTT Try.prog [3, 22, 24, 31] = occupancy_At_tt := by kernel_rfl
def occupancy_At_cfg : List (Nat × Cfg) := [(0, ⟨[0, 1, 2, 3], [], [], [], []⟩), (1, ⟨[0, 1, 2, 3, 16], [], [], [], []⟩), (2, ⟨[8], [], [], [], []⟩), (3, ⟨[0, 1, 2, 3, 9], [], [], [], []⟩), (4, ⟨[0, 1, 2, 9, 10], [], [], [], []⟩), (5, ⟨[0, 2, 9, 10, 20, 21, 22], [], [(9, 1009, 3, 1)], [], []⟩), (6, ⟨[0, 2, 9, 10, 20, 21, 22, 23], [(1009, 1009)], [], [], []⟩), (7, ⟨[0, 2, 9, 10, 12, 20, 21, 22], [(12, 12), (1009, 1009)], [], [], []⟩), (8, ⟨[0, 2, 9, 10, 12, 20, 21, 22, 40], [(12, 12), (1009, 1009)], [], [], []⟩), (9, ⟨[0, 2, 9, 10, 20, 21, 22], [(45, 1009)], [], [], []⟩), (10, ⟨[0, 2, 9, 10, 20, 21, 22], [(1009, 1009)], [], [], []⟩), (11, ⟨[9], [(1009, 1009)], [], [], []⟩), (12, ⟨[8], [(100050, 100050)], [], [], []⟩)]
def occupancy_At_C (n : Nat) : VC := ⟨specOf [(19, occupancy_Valid_e n), (20, arith_Mod_e n), (21, slices_Sort_int_int_e n), (22, slices_Compact_int_int_e n)], occupancy_At_tt, occupancy_At_cfg⟩
theorem occupancy_At_ents (n : Nat) : EntsOK Try.prog [(19, occupancy_Valid_e n), (20, arith_Mod_e n), (21, slices_Sort_int_int_e n), (22, slices_Compact_int_int_e n)] := ⟨occupancy_Valid_ok n, ⟨arith_Mod_ok n, ⟨slices_Sort_int_int_ok n, ⟨slices_Compact_int_int_ok n, trivial⟩⟩⟩⟩
theorem occupancy_At_VC (n : Nat) : VCOk Try.prog (occupancy_At_C n) := ⟨specOf_ok (occupancy_At_ents n), (occupancy_At_tt_eq ▸ mkTT_ok _ : TOk Try.prog occupancy_At_tt), by kernel_rfl⟩
theorem occupancy_At_p1_congr {R : Type} (n : Nat) (a0 : Int) (a1 : List (List D)) (a2 : Int) (a3 : Int) {k0 kk0 : Option R} (hq0 : k0 = kk0) : occupancy_At_p1 n a0 a1 a2 a3 k0 = occupancy_At_p1 n a0 a1 a2 a3 kk0 := by
  obtain rfl : k0 = kk0 := hq0
  rfl
theorem occupancy_At_p2_congr {R : Type} (n : Nat) (a0 : Int) (a1 : List (List D)) (a2 : Int) (a3 : Int) {k0 kk0 : Option R} {k1 kk1 : Bool → Option R} (hq0 : k0 = kk0) (hq1 : ∀ x0, k1 x0 = kk1 x0) : occupancy_At_p2 n a0 a1 a2 a3 k0 k1 = occupancy_At_p2 n a0 a1 a2 a3 kk0 kk1 := by
  obtain rfl : k0 = kk0 := hq0
  obtain rfl : k1 = kk1 := funext fun x0 => hq1 x0
  rfl
theorem occupancy_At_p3_congr {R : Type} (n : Nat) (a0 : Int) (a1 : List (List D)) (a2 : Int) (a3 : Int) (w3 : Bool) {k0 kk0 : Option R} (hq0 : k0 = kk0) : occupancy_At_p3 n a0 a1 a2 a3 w3 k0 = occupancy_At_p3 n a0 a1 a2 a3 w3 kk0 := by
  obtain rfl : k0 = kk0 := hq0
  rfl
theorem occupancy_At_p4_congr {R : Type} (n : Nat) (a0 : Int) (a1 : List (List D)) (a2 : Int) (a3 : Int) {k0 kk0 : Int → Option R} (hq0 : ∀ x0, k0 x0 = kk0 x0) : occupancy_At_p4 n a0 a1 a2 a3 k0 = occupancy_At_p4 n a0 a1 a2 a3 kk0 := by
  obtain rfl : k0 = kk0 := funext fun x0 => hq0 x0
  rfl
theorem occupancy_At_p5_congr {R : Type} (n : Nat) (a0 : Int) (a1 : List (List D)) (a2 : Int) (w5 : Int) {k0 kk0 : Int → Option R} (hq0 : ∀ x0, k0 x0 = kk0 x0) : occupancy_At_p5 n a0 a1 a2 w5 k0 = occupancy_At_p5 n a0 a1 a2 w5 kk0 := by
  obtain rfl : k0 = kk0 := funext fun x0 => hq0 x0
  rfl
theorem occupancy_At_p6_congr {R : Type} (n : Nat) (a0 : Int) (a2 : Int) (w5 : Int) (a1 : List (List D)) (w7 : Int) (h13 : Int) (h14 : List (List D)) {k0 kk0 : Int → (List (List D)) → Option R} {k1 kk1 : Bool → Option R} (hq0 : ∀ x0 x1, k0 x0 x1 = kk0 x0 x1) (hq1 : ∀ x0, k1 x0 = kk1 x0) : occupancy_At_p6 n a0 a2 w5 a1 w7 h13 h14 k0 k1 = occupancy_At_p6 n a0 a2 w5 a1 w7 h13 h14 kk0 kk1 := by
  obtain rfl : k0 = kk0 := funext fun x0 => funext fun x1 => hq0 x0 x1
  obtain rfl : k1 = kk1 := funext fun x0 => hq1 x0
  rfl
theorem occupancy_At_p7_congr {R : Type} (n : Nat) (a0 : Int) (a2 : Int) (w5 : Int) (a1 : List (List D)) (w7 : Int) {k0 kk0 : Int → Bool → (List (List D)) → Option R} (hq0 : ∀ x0 x1 x2, k0 x0 x1 x2 = kk0 x0 x1 x2) : occupancy_At_p7 n a0 a2 w5 a1 w7 k0 = occupancy_At_p7 n a0 a2 w5 a1 w7 kk0 := by
  obtain rfl : k0 = kk0 := funext fun x0 => funext fun x1 => funext fun x2 => hq0 x0 x1 x2
  rfl
theorem occupancy_At_p8_congr {R : Type} (n : Nat) (a0 : Int) (a2 : Int) (w5 : Int) (a1 : List (List D)) (w7 : Int) {k0 kk0 : Int → Bool → (List (List D)) → Option R} (hq0 : ∀ x0 x1 x2, k0 x0 x1 x2 = kk0 x0 x1 x2) : occupancy_At_p8 n a0 a2 w5 a1 w7 k0 = occupancy_At_p8 n a0 a2 w5 a1 w7 kk0 := by
  obtain rfl : k0 = kk0 := funext fun x0 => funext fun x1 => funext fun x2 => hq0 x0 x1 x2
  rfl
theorem occupancy_At_p9_congr {R : Type} (n : Nat) (a0 : Int) (a1 : List (List D)) (a2 : Int) (w5 : Int) {k0 kk0 : Int → Int → Bool → (List (List D)) → Option R} (hq0 : ∀ x0 x1 x2 x3, k0 x0 x1 x2 x3 = kk0 x0 x1 x2 x3) : occupancy_At_p9 n a0 a1 a2 w5 k0 = occupancy_At_p9 n a0 a1 a2 w5 kk0 := by
  obtain rfl : k0 = kk0 := funext fun x0 => funext fun x1 => funext fun x2 => funext fun x3 => hq0 x0 x1 x2 x3
  rfl
theorem occupancy_At_p10_congr {R : Type} (n : Nat) (a0 : Int) (a2 : Int) (w5 : Int) (a1 : List (List D)) (w54 : Int) (w55 : Int) (w56 : Bool) (w57 : List (List D)) {k0 kk0 : (List (List D)) → Option R} (hq0 : ∀ x0, k0 x0 = kk0 x0) : occupancy_At_p10 n a0 a2 w5 a1 w54 w55 w56 w57 k0 = occupancy_At_p10 n a0 a2 w5 a1 w54 w55 w56 w57 kk0 := by
  obtain rfl : k0 = kk0 := funext fun x0 => hq0 x0
  rfl
theorem occupancy_At_p11_congr {R : Type} (n : Nat) (a0 : Int) (a1 : List (List D)) (a2 : Int) (w5 : Int) {k0 kk0 : (List (List D)) → Option R} (hq0 : ∀ x0, k0 x0 = kk0 x0) : occupancy_At_p11 n a0 a1 a2 w5 k0 = occupancy_At_p11 n a0 a1 a2 w5 kk0 := by
  obtain rfl : k0 = kk0 := funext fun x0 => hq0 x0
  rfl
theorem occupancy_At_p12_congr {R : Type} (n : Nat) (a0 : Int) (a1 : List (List D)) (a2 : Int) (a3 : Int) {k0 kk0 : (List (List D)) → Option R} (hq0 : ∀ x0, k0 x0 = kk0 x0) : occupancy_At_p12 n a0 a1 a2 a3 k0 = occupancy_At_p12 n a0 a1 a2 a3 kk0 := by
  obtain rfl : k0 = kk0 := funext fun x0 => hq0 x0
  rfl
theorem occupancy_At_p13_congr {R : Type} (n : Nat) (a0 : Int) (a1 : List (List D)) (a2 : Int) (a3 : Int) (w3 : Bool) {k0 kk0 : (List (List D)) → Option R} (hq0 : ∀ x0, k0 x0 = kk0 x0) : occupancy_At_p13 n a0 a1 a2 a3 w3 k0 = occupancy_At_p13 n a0 a1 a2 a3 w3 kk0 := by
  obtain rfl : k0 = kk0 := funext fun x0 => hq0 x0
  rfl
theorem occupancy_At_p14_congr {R : Type} (n : Nat) (a0 : Int) (a1 : List (List D)) (a2 : Int) (a3 : Int) {k0 kk0 : Option R} {k1 kk1 : (List (List D)) → Option R} (hq0 : k0 = kk0) (hq1 : ∀ x0, k1 x0 = kk1 x0) : occupancy_At_p14 n a0 a1 a2 a3 k0 k1 = occupancy_At_p14 n a0 a1 a2 a3 kk0 kk1 := by
  obtain rfl : k0 = kk0 := hq0
  obtain rfl : k1 = kk1 := funext fun x0 => hq1 x0
  rfl
theorem occupancy_At_p15_congr {R : Type} (n : Nat) (a0 : Int) (a1 : List (List D)) (a2 : Int) (a3 : Int) {k0 kk0 : Option R} {k1 kk1 : (List (List D)) → Option R} (hq0 : k0 = kk0) (hq1 : ∀ x0, k1 x0 = kk1 x0) : occupancy_At_p15 n a0 a1 a2 a3 k0 k1 = occupancy_At_p15 n a0 a1 a2 a3 kk0 kk1 := by
  obtain rfl : k0 = kk0 := hq0
  obtain rfl : k1 = kk1 := funext fun x0 => hq1 x0
  rfl
theorem occupancy_At_p1_eq {R : Type} (n : Nat) (a0 : Int) (a1 : List (List D)) (a2 : Int) (a3 : Int) (k : Exit → St → Option R) : vexec (occupancy_At_C n) n occupancy_At_c1 ⟨51, [(0, .d (D.int .i64 a0)), (1, .d (D.sl 5 a1)), (2, .d (D.int .i64 a2)), (3, .d (D.int .i64 a3))], []⟩ k = occupancy_At_p1 n a0 a1 a2 a3 (k .normal ⟨51, [(0, .d (D.int .i64 a0)), (1, .d (D.sl 5 a1)), (2, .d (D.int .i64 a2)), (3, .d (D.int .i64 a3))], []⟩) := by kernel_rfl
theorem occupancy_At_p2_eq {R : Type} (n : Nat) (a0 : Int) (a1 : List (List D)) (a2 : Int) (a3 : Int) (k : Exit → St → Option R) : vexec (occupancy_At_C n) n occupancy_At_c2 ⟨51, [(0, .d (D.int .i64 a0)), (1, .d (D.sl 5 a1)), (2, .d (D.int .i64 a2)), (3, .d (D.int .i64 a3))], []⟩ k = occupancy_At_p2 n a0 a1 a2 a3 (k .ret ⟨51, [(8, .nil)], []⟩) (fun z2 => k .normal ⟨51, [(0, .d (D.int .i64 a0)), (1, .d (D.sl 5 a1)), (2, .d (D.int .i64 a2)), (3, .d (D.int .i64 a3)), (16, .d (D.bool z2))], []⟩) := by kernel_rfl
theorem occupancy_At_p3_eq {R : Type} (n : Nat) (a0 : Int) (a1 : List (List D)) (a2 : Int) (a3 : Int) (w3 : Bool) (k : Exit → St → Option R) : vexec (occupancy_At_C n) n occupancy_At_c3 ⟨51, [(0, .d (D.int .i64 a0)), (1, .d (D.sl 5 a1)), (2, .d (D.int .i64 a2)), (3, .d (D.int .i64 a3)), (16, .d (D.bool w3))], []⟩ k = occupancy_At_p3 n a0 a1 a2 a3 w3 (k .normal ⟨51, [(0, .d (D.int .i64 a0)), (1, .d (D.sl 5 a1)), (2, .d (D.int .i64 a2)), (3, .d (D.int .i64 a3)), (9, .nil)], []⟩) := by kernel_rfl
theorem occupancy_At_p4_eq {R : Type} (n : Nat) (a0 : Int) (a1 : List (List D)) (a2 : Int) (a3 : Int) (k : Exit → St → Option R) : vexec (occupancy_At_C n) n occupancy_At_c4 ⟨51, [(0, .d (D.int .i64 a0)), (1, .d (D.sl 5 a1)), (2, .d (D.int .i64 a2)), (3, .d (D.int .i64 a3)), (9, .nil)], []⟩ k = occupancy_At_p4 n a0 a1 a2 a3 (fun r4 => k .normal ⟨51, [(0, .d (D.int .i64 a0)), (1, .d (D.sl 5 a1)), (2, .d (D.int .i64 a2)), (9, .nil), (10, .d (D.int .i64 r4))], []⟩) := by kernel_rfl
theorem occupancy_At_p5_eq {R : Type} (n : Nat) (a0 : Int) (a1 : List (List D)) (a2 : Int) (w5 : Int) (k : Exit → St → Option R) : vexec (occupancy_At_C n) n occupancy_At_c5 ⟨51, [(0, .d (D.int .i64 a0)), (1, .d (D.sl 5 a1)), (2, .d (D.int .i64 a2)), (9, .nil), (10, .d (D.int .i64 w5))], []⟩ k = occupancy_At_p5 n a0 a1 a2 w5 (fun z6 => k .normal ⟨51, [(0, .d (D.int .i64 a0)), (2, .d (D.int .i64 a2)), (9, .arr 1009), (10, .d (D.int .i64 w5)), (20, .d (D.sl 5 a1)), (21, .d (D.int .i64 z6)), (22, .d (D.int .i64 (0 : Int)))], [(1009, .arr 3 1 [])]⟩) := by kernel_rfl
theorem occupancy_At_p6_eq {R : Type} (n : Nat) (a0 : Int) (a2 : Int) (w5 : Int) (a1 : List (List D)) (w7 : Int) (h13 : Int) (h14 : List (List D)) (k : Exit → St → Option R) : vexec (occupancy_At_C n) n occupancy_At_c6 ⟨51, [(0, .d (D.int .i64 a0)), (2, .d (D.int .i64 a2)), (9, .arr 1009), (10, .d (D.int .i64 w5)), (20, .d (D.sl 5 a1)), (21, .d (D.int .i64 w7)), (22, .d (D.int .i64 h13))], [(1009, .arr 3 1 h14)]⟩ k = occupancy_At_p6 n a0 a2 w5 a1 w7 h13 h14 (fun z42 z43 => k .normal ⟨51, [(0, .d (D.int .i64 a0)), (2, .d (D.int .i64 a2)), (9, .arr 1009), (10, .d (D.int .i64 w5)), (20, .d (D.sl 5 a1)), (21, .d (D.int .i64 w7)), (22, .d (D.int .i64 z42))], [(1009, .arr 3 1 z43)]⟩) (fun z44 => k (.exit 0) ⟨51, [(0, .d (D.int .i64 a0)), (2, .d (D.int .i64 a2)), (9, .arr 1009), (10, .d (D.int .i64 w5)), (20, .d (D.sl 5 a1)), (21, .d (D.int .i64 w7)), (22, .d (D.int .i64 h13)), (23, .d (D.bool z44))], [(1009, .arr 3 1 h14)]⟩) := by kernel_rfl
theorem occupancy_At_r7_eq {R : Type} (n : Nat) (a0 : Int) (a2 : Int) (w5 : Int) (a1 : List (List D)) (w7 : Int) (k : Exit → St → Option R) : ∀ (m : Nat) (h13 : Int) (h14 : List (List D)), loopN (vexec (occupancy_At_C n) n occupancy_At_c6) m ⟨51, [(0, .d (D.int .i64 a0)), (2, .d (D.int .i64 a2)), (9, .arr 1009), (10, .d (D.int .i64 w5)), (20, .d (D.sl 5 a1)), (21, .d (D.int .i64 w7)), (22, .d (D.int .i64 h13))], [(1009, .arr 3 1 h14)]⟩ k = occupancy_At_r7 n a0 a2 w5 a1 w7 (fun h13 w47 h14 => k (.exit 0) ⟨51, [(0, .d (D.int .i64 a0)), (2, .d (D.int .i64 a2)), (9, .arr 1009), (10, .d (D.int .i64 w5)), (20, .d (D.sl 5 a1)), (21, .d (D.int .i64 w7)), (22, .d (D.int .i64 h13)), (23, .d (D.bool w47))], [(1009, .arr 3 1 h14)]⟩) m h13 h14
  | 0, _, _ => rfl
  | m + 1, h13, h14 => (occupancy_At_p6_eq n a0 a2 w5 a1 w7 h13 h14 (loopK (vexec (occupancy_At_C n) n occupancy_At_c6) m k)).trans (occupancy_At_p6_congr n a0 a2 w5 a1 w7 h13 h14 (fun w45 w46 => occupancy_At_r7_eq n a0 a2 w5 a1 w7 k m w45 w46) (fun w47 => rfl))
theorem occupancy_At_p7_eq {R : Type} (n : Nat) (a0 : Int) (a2 : Int) (w5 : Int) (a1 : List (List D)) (w7 : Int) (k : Exit → St → Option R) : vexec (occupancy_At_C n) n occupancy_At_c7 ⟨51, [(0, .d (D.int .i64 a0)), (2, .d (D.int .i64 a2)), (9, .arr 1009), (10, .d (D.int .i64 w5)), (20, .d (D.sl 5 a1)), (21, .d (D.int .i64 w7)), (22, .d (D.int .i64 (0 : Int)))], [(1009, .arr 3 1 [])]⟩ k = occupancy_At_p7 n a0 a2 w5 a1 w7 (fun h13 w47 h14 => k (.exit 0) ⟨51, [(0, .d (D.int .i64 a0)), (2, .d (D.int .i64 a2)), (9, .arr 1009), (10, .d (D.int .i64 w5)), (20, .d (D.sl 5 a1)), (21, .d (D.int .i64 w7)), (22, .d (D.int .i64 h13)), (23, .d (D.bool w47))], [(1009, .arr 3 1 h14)]⟩) := by
  rw [occupancy_At_c7_eq]
  exact occupancy_At_r7_eq n a0 a2 w5 a1 w7 k n (0 : Int) []
theorem occupancy_At_p8_eq {R : Type} (n : Nat) (a0 : Int) (a2 : Int) (w5 : Int) (a1 : List (List D)) (w7 : Int) (k : Exit → St → Option R) : vexec (occupancy_At_C n) n occupancy_At_c8 ⟨51, [(0, .d (D.int .i64 a0)), (2, .d (D.int .i64 a2)), (9, .arr 1009), (10, .d (D.int .i64 w5)), (20, .d (D.sl 5 a1)), (21, .d (D.int .i64 w7)), (22, .d (D.int .i64 (0 : Int)))], [(1009, .arr 3 1 [])]⟩ k = occupancy_At_p8 n a0 a2 w5 a1 w7 (fun w48 w49 w50 => k .normal ⟨51, [(0, .d (D.int .i64 a0)), (2, .d (D.int .i64 a2)), (9, .arr 1009), (10, .d (D.int .i64 w5)), (20, .d (D.sl 5 a1)), (21, .d (D.int .i64 w7)), (22, .d (D.int .i64 w48)), (23, .d (D.bool w49))], [(1009, .arr 3 1 w50)]⟩) := by
  rw [occupancy_At_c8_eq]
  unfold occupancy_At_p8
  exact (occupancy_At_p7_eq n a0 a2 w5 a1 w7 (blockK 0 k)).trans (occupancy_At_p7_congr n a0 a2 w5 a1 w7 (fun w48 w49 w50 => rfl))
theorem occupancy_At_p9_eq {R : Type} (n : Nat) (a0 : Int) (a1 : List (List D)) (a2 : Int) (w5 : Int) (k : Exit → St → Option R) : vexec (occupancy_At_C n) n occupancy_At_c9 ⟨51, [(0, .d (D.int .i64 a0)), (1, .d (D.sl 5 a1)), (2, .d (D.int .i64 a2)), (9, .nil), (10, .d (D.int .i64 w5))], []⟩ k = occupancy_At_p9 n a0 a1 a2 w5 (fun w7 w51 w52 w53 => k .normal ⟨51, [(0, .d (D.int .i64 a0)), (2, .d (D.int .i64 a2)), (9, .arr 1009), (10, .d (D.int .i64 w5)), (20, .d (D.sl 5 a1)), (21, .d (D.int .i64 w7)), (22, .d (D.int .i64 w51)), (23, .d (D.bool w52))], [(1009, .arr 3 1 w53)]⟩) := by
  rw [occupancy_At_c9_eq]
  unfold occupancy_At_p9
  exact (occupancy_At_p5_eq n a0 a1 a2 w5 (seqK (occupancy_At_C n) n occupancy_At_c8 k)).trans (occupancy_At_p5_congr n a0 a1 a2 w5 (fun w7 => occupancy_At_p8_eq n a0 a2 w5 a1 w7 k))
theorem occupancy_At_p10_eq {R : Type} (n : Nat) (a0 : Int) (a2 : Int) (w5 : Int) (a1 : List (List D)) (w54 : Int) (w55 : Int) (w56 : Bool) (w57 : List (List D)) (k : Exit → St → Option R) : vexec (occupancy_At_C n) n occupancy_At_c10 ⟨51, [(0, .d (D.int .i64 a0)), (2, .d (D.int .i64 a2)), (9, .arr 1009), (10, .d (D.int .i64 w5)), (20, .d (D.sl 5 a1)), (21, .d (D.int .i64 w54)), (22, .d (D.int .i64 w55)), (23, .d (D.bool w56))], [(1009, .arr 3 1 w57)]⟩ k = occupancy_At_p10 n a0 a2 w5 a1 w54 w55 w56 w57 (fun z62 => k .ret ⟨51, [(8, .arr 100050)], [(100050, .arr 3 1 z62)]⟩) := by kernel_rfl
theorem occupancy_At_p11_eq {R : Type} (n : Nat) (a0 : Int) (a1 : List (List D)) (a2 : Int) (w5 : Int) (k : Exit → St → Option R) : vexec (occupancy_At_C n) n occupancy_At_c11 ⟨51, [(0, .d (D.int .i64 a0)), (1, .d (D.sl 5 a1)), (2, .d (D.int .i64 a2)), (9, .nil), (10, .d (D.int .i64 w5))], []⟩ k = occupancy_At_p11 n a0 a1 a2 w5 (fun w63 => k .ret ⟨51, [(8, .arr 100050)], [(100050, .arr 3 1 w63)]⟩) := by
  rw [occupancy_At_c11_eq]
  unfold occupancy_At_p11
  exact (occupancy_At_p9_eq n a0 a1 a2 w5 (seqK (occupancy_At_C n) n occupancy_At_c10 k)).trans (occupancy_At_p9_congr n a0 a1 a2 w5 (fun w54 w55 w56 w57 => occupancy_At_p10_eq n a0 a2 w5 a1 w54 w55 w56 w57 k))
theorem occupancy_At_p12_eq {R : Type} (n : Nat) (a0 : Int) (a1 : List (List D)) (a2 : Int) (a3 : Int) (k : Exit → St → Option R) : vexec (occupancy_At_C n) n occupancy_At_c12 ⟨51, [(0, .d (D.int .i64 a0)), (1, .d (D.sl 5 a1)), (2, .d (D.int .i64 a2)), (3, .d (D.int .i64 a3)), (9, .nil)], []⟩ k = occupancy_At_p12 n a0 a1 a2 a3 (fun w64 => k .ret ⟨51, [(8, .arr 100050)], [(100050, .arr 3 1 w64)]⟩) := by
  rw [occupancy_At_c12_eq]
  unfold occupancy_At_p12
  exact (occupancy_At_p4_eq n a0 a1 a2 a3 (seqK (occupancy_At_C n) n occupancy_At_c11 k)).trans (occupancy_At_p4_congr n a0 a1 a2 a3 (fun w5 => occupancy_At_p11_eq n a0 a1 a2 w5 k))
theorem occupancy_At_p13_eq {R : Type} (n : Nat) (a0 : Int) (a1 : List (List D)) (a2 : Int) (a3 : Int) (w3 : Bool) (k : Exit → St → Option R) : vexec (occupancy_At_C n) n occupancy_At_c13 ⟨51, [(0, .d (D.int .i64 a0)), (1, .d (D.sl 5 a1)), (2, .d (D.int .i64 a2)), (3, .d (D.int .i64 a3)), (16, .d (D.bool w3))], []⟩ k = occupancy_At_p13 n a0 a1 a2 a3 w3 (fun w65 => k .ret ⟨51, [(8, .arr 100050)], [(100050, .arr 3 1 w65)]⟩) := by
  rw [occupancy_At_c13_eq]
  unfold occupancy_At_p13
  exact (occupancy_At_p3_eq n a0 a1 a2 a3 w3 (seqK (occupancy_At_C n) n occupancy_At_c12 k)).trans (occupancy_At_p3_congr n a0 a1 a2 a3 w3 (occupancy_At_p12_eq n a0 a1 a2 a3 k))
theorem occupancy_At_p14_eq {R : Type} (n : Nat) (a0 : Int) (a1 : List (List D)) (a2 : Int) (a3 : Int) (k : Exit → St → Option R) : vexec (occupancy_At_C n) n occupancy_At_c14 ⟨51, [(0, .d (D.int .i64 a0)), (1, .d (D.sl 5 a1)), (2, .d (D.int .i64 a2)), (3, .d (D.int .i64 a3))], []⟩ k = occupancy_At_p14 n a0 a1 a2 a3 (k .ret ⟨51, [(8, .nil)], []⟩) (fun w66 => k .ret ⟨51, [(8, .arr 100050)], [(100050, .arr 3 1 w66)]⟩) := by
  rw [occupancy_At_c14_eq]
  unfold occupancy_At_p14
  exact (occupancy_At_p2_eq n a0 a1 a2 a3 (seqK (occupancy_At_C n) n occupancy_At_c13 k)).trans (occupancy_At_p2_congr n a0 a1 a2 a3 (rfl) (fun w3 => occupancy_At_p13_eq n a0 a1 a2 a3 w3 k))
theorem occupancy_At_p15_eq {R : Type} (n : Nat) (a0 : Int) (a1 : List (List D)) (a2 : Int) (a3 : Int) (k : Exit → St → Option R) : vexec (occupancy_At_C n) n occupancy_At_c0 ⟨51, [(0, .d (D.int .i64 a0)), (1, .d (D.sl 5 a1)), (2, .d (D.int .i64 a2)), (3, .d (D.int .i64 a3))], []⟩ k = occupancy_At_p15 n a0 a1 a2 a3 (k .ret ⟨51, [(8, .nil)], []⟩) (fun w67 => k .ret ⟨51, [(8, .arr 100050)], [(100050, .arr 3 1 w67)]⟩) := by
  rw [occupancy_At_c0_eq]
  unfold occupancy_At_p15
  exact (occupancy_At_p1_eq n a0 a1 a2 a3 (seqK (occupancy_At_C n) n occupancy_At_c14 k)).trans (occupancy_At_p1_congr n a0 a1 a2 a3 (occupancy_At_p14_eq n a0 a1 a2 a3 k))
theorem occupancy_At_vfn {R : Type} (n : Nat) (a0 : Int) (a1 : List (List D)) (a2 : Int) (a3 : Int) (K : AV → Option R) : vfn (occupancy_At_C n) n Try.f9 [.d (D.int .i64 a0), .d (D.sl 5 a1), .d (D.int .i64 a2), .d (D.int .i64 a3)] [] (retF [[1]] K) = occupancy_At n a0 a1 a2 a3 (fun r0 => K (.d (D.sl 1 r0))) :=
  (show vfn (occupancy_At_C n) n Try.f9 [.d (D.int .i64 a0), .d (D.sl 5 a1), .d (D.int .i64 a2), .d (D.int .i64 a3)] [] (retF [[1]] K) = vexec (occupancy_At_C n) n occupancy_At_c0 ⟨51, [(0, .d (D.int .i64 a0)), (1, .d (D.sl 5 a1)), (2, .d (D.int .i64 a2)), (3, .d (D.int .i64 a3))], []⟩ (retX occupancy_At_tt [.tmp 8] (retF [[1]] K)) from vfn_at (by kernel_rfl) (by kernel_rfl) rfl (by kernel_rfl) rfl (by kernel_rfl) rfl).trans ((occupancy_At_p15_eq n a0 a1 a2 a3 (retX occupancy_At_tt [.tmp 8] (retF [[1]] K))).trans (by kernel_rfl))
def occupancy_At_K : AV → Option (List (List D)) := fun av => match av with
  | .d (D.sl 1 r0) => some r0
  | _ => none
def occupancy_At_e (n : Nat) : Entry := fun _ _ g avs _ k => match avs with
  | [c0, c1, c2, c3] => prI g .i64 c0 fun a0 => prS g 5 c1 fun a1 => prI g .i64 c2 fun a2 => prI g .i64 c3 fun a3 => 
    gb g (occupancy_At n a0 a1 a2 a3 some) [] fun r => k ⟨.d (D.sl 1 r), [], []⟩
  | _ => none
theorem occupancy_At_ok (n : Nat) : EntryOK Try.prog 9 (occupancy_At_e n) := by
  intro R site g avs hl k r h
  unfold occupancy_At_e at h
  split at h
  rotate_left
  · cases h
  replace h := prI_some h
  obtain ⟨a0, h, le0⟩ := h
  replace h := prS_some h
  obtain ⟨a1, h, le1⟩ := h
  replace h := prI_some h
  obtain ⟨a2, h, le2⟩ := h
  replace h := prI_some h
  obtain ⟨a3, h, le3⟩ := h
  replace h := gb_some h
  obtain ⟨res, h, hr⟩ := h
  refine ⟨_, h, fun hg => CallOK.conv (avs' := [.d (D.int .i64 a0), .d (D.sl 5 a1), .d (D.int .i64 a2), .d (D.int .i64 a3)]) (.cons (le0 hg) (.cons (le1 hg) (.cons (le2 hg) (.cons (le3 hg) (.nil))))) (callOK_fix (K := occupancy_At_K) (res := res) (occupancy_At_VC n) (fn := Try.f9) (n := n) (by kernel_rfl) (by kernel_rfl) (by kernel_rfl) (ss := [[1]]) rfl ?_ ?_)⟩
  · exact (occupancy_At_vfn n a0 a1 a2 a3 occupancy_At_K).trans (hr hg)
  · intro x hx
    unfold occupancy_At_K at hx
    split at hx
    · injection hx with hx; subst hx; rfl
    · cases hx
end Go.Vx
/-
  keep_Same_int: the interpreter computes the pure function
-/
set_option linter.unusedVariables false
set_option linter.unusedSimpArgs false
set_option maxRecDepth 100000
namespace Go.Vx
open Go.Proofs
noncomputable def keep_Same_int_c0 : Code := bodyOf Try.f14
noncomputable def keep_Same_int_c1 : Code := cL (bodyOf Try.f14)
noncomputable def keep_Same_int_c2 : Code := cL (cR (bodyOf Try.f14))
noncomputable def keep_Same_int_c3 : Code := cL (cL (cR (cR (bodyOf Try.f14))))
noncomputable def keep_Same_int_c4 : Code := cB (cB (cR (cL (cR (cR (bodyOf Try.f14))))))
noncomputable def keep_Same_int_c5 : Code := cB (cR (cL (cR (cR (bodyOf Try.f14)))))
noncomputable def keep_Same_int_c6 : Code := cR (cL (cR (cR (bodyOf Try.f14))))
noncomputable def keep_Same_int_c7 : Code := cL (cR (cR (bodyOf Try.f14)))
noncomputable def keep_Same_int_c8 : Code := cR (cR (cR (bodyOf Try.f14)))
noncomputable def keep_Same_int_c9 : Code := cR (cR (bodyOf Try.f14))
noncomputable def keep_Same_int_c10 : Code := cR (bodyOf Try.f14)
theorem keep_Same_int_c5_eq : keep_Same_int_c5 = .loop keep_Same_int_c4 := by kernel_rfl
theorem keep_Same_int_c6_eq : keep_Same_int_c6 = .block 0 keep_Same_int_c5 := by kernel_rfl
theorem keep_Same_int_c7_eq : keep_Same_int_c7 = .seq keep_Same_int_c3 keep_Same_int_c6 := by kernel_rfl
theorem keep_Same_int_c9_eq : keep_Same_int_c9 = .seq keep_Same_int_c7 keep_Same_int_c8 := by kernel_rfl
theorem keep_Same_int_c10_eq : keep_Same_int_c10 = .seq keep_Same_int_c2 keep_Same_int_c9 := by kernel_rfl
theorem keep_Same_int_c0_eq : keep_Same_int_c0 = .seq keep_Same_int_c1 keep_Same_int_c10 := by kernel_rfl
def keep_Same_int_tt : TT := [(3, ⟨.int .i64, 1, 8, [.int .i64 0], [.int .i64 0], [], none⟩), (22, ⟨.sl 3 1, 1, 24, [.slice none 0 0], [.sl 1 []], [], none⟩)]
theorem keep_Same_int_tt_eq : mkTT Try.prog [3, 22] = keep_Same_int_tt := by kernel_rfl
def keep_Same_int_cfg : List (Nat × Cfg) := [(0, ⟨[0, 1], [], [], [], []⟩), (1, ⟨[0, 1, 10], [], [], [], []⟩), (2, ⟨[4], [], [], [], []⟩), (3, ⟨[0, 1, 12, 13], [], [], [], []⟩), (4, ⟨[0, 1, 12, 13, 14], [], [], [], []⟩), (5, ⟨[0, 1, 5, 12, 13], [], [], [], []⟩), (6, ⟨[0, 1, 12, 13, 24], [], [], [], []⟩), (7, ⟨[4], [], [], [], []⟩), (8, ⟨[0, 1, 12, 13], [], [], [], []⟩), (9, ⟨[4], [], [], [], []⟩)]
def keep_Same_int_C (n : Nat) : VC := ⟨specOf [], keep_Same_int_tt, keep_Same_int_cfg⟩
theorem keep_Same_int_ents (n : Nat) : EntsOK Try.prog [] := trivial
theorem keep_Same_int_VC (n : Nat) : VCOk Try.prog (keep_Same_int_C n) := ⟨specOf_ok (keep_Same_int_ents n), (keep_Same_int_tt_eq ▸ mkTT_ok _ : TOk Try.prog keep_Same_int_tt), by kernel_rfl⟩
theorem keep_Same_int_p1_congr {R : Type} (n : Nat) (a0 : List (List D)) (a1 : List (List D)) {k0 kk0 : Option R} (hq0 : k0 = kk0) : keep_Same_int_p1 n a0 a1 k0 = keep_Same_int_p1 n a0 a1 kk0 := by
  obtain rfl : k0 = kk0 := hq0
  rfl
theorem keep_Same_int_p2_congr {R : Type} (n : Nat) (a0 : List (List D)) (a1 : List (List D)) {k0 kk0 : Option R} {k1 kk1 : Bool → Option R} (hq0 : k0 = kk0) (hq1 : ∀ x0, k1 x0 = kk1 x0) : keep_Same_int_p2 n a0 a1 k0 k1 = keep_Same_int_p2 n a0 a1 kk0 kk1 := by
  obtain rfl : k0 = kk0 := hq0
  obtain rfl : k1 = kk1 := funext fun x0 => hq1 x0
  rfl
theorem keep_Same_int_p3_congr {R : Type} (n : Nat) (a0 : List (List D)) (a1 : List (List D)) (w2 : Bool) {k0 kk0 : Int → Option R} (hq0 : ∀ x0, k0 x0 = kk0 x0) : keep_Same_int_p3 n a0 a1 w2 k0 = keep_Same_int_p3 n a0 a1 w2 kk0 := by
  obtain rfl : k0 = kk0 := funext fun x0 => hq0 x0
  rfl
theorem keep_Same_int_p4_congr {R : Type} (n : Nat) (a0 : List (List D)) (a1 : List (List D)) (w4 : Int) (h8 : Int) {k0 kk0 : Option R} {k1 kk1 : Int → Option R} {k2 kk2 : Bool → Option R} (hq0 : k0 = kk0) (hq1 : ∀ x0, k1 x0 = kk1 x0) (hq2 : ∀ x0, k2 x0 = kk2 x0) : keep_Same_int_p4 n a0 a1 w4 h8 k0 k1 k2 = keep_Same_int_p4 n a0 a1 w4 h8 kk0 kk1 kk2 := by
  obtain rfl : k0 = kk0 := hq0
  obtain rfl : k1 = kk1 := funext fun x0 => hq1 x0
  obtain rfl : k2 = kk2 := funext fun x0 => hq2 x0
  rfl
theorem keep_Same_int_p5_congr {R : Type} (n : Nat) (a0 : List (List D)) (a1 : List (List D)) (w4 : Int) {k0 kk0 : Option R} {k1 kk1 : Int → Bool → Option R} (hq0 : k0 = kk0) (hq1 : ∀ x0 x1, k1 x0 x1 = kk1 x0 x1) : keep_Same_int_p5 n a0 a1 w4 k0 k1 = keep_Same_int_p5 n a0 a1 w4 kk0 kk1 := by
  obtain rfl : k0 = kk0 := hq0
  obtain rfl : k1 = kk1 := funext fun x0 => funext fun x1 => hq1 x0 x1
  rfl
theorem keep_Same_int_p6_congr {R : Type} (n : Nat) (a0 : List (List D)) (a1 : List (List D)) (w4 : Int) {k0 kk0 : Option R} {k1 kk1 : Int → Bool → Option R} (hq0 : k0 = kk0) (hq1 : ∀ x0 x1, k1 x0 x1 = kk1 x0 x1) : keep_Same_int_p6 n a0 a1 w4 k0 k1 = keep_Same_int_p6 n a0 a1 w4 kk0 kk1 := by
  obtain rfl : k0 = kk0 := hq0
  obtain rfl : k1 = kk1 := funext fun x0 => funext fun x1 => hq1 x0 x1
  rfl
theorem keep_Same_int_p7_congr {R : Type} (n : Nat) (a0 : List (List D)) (a1 : List (List D)) (w2 : Bool) {k0 kk0 : Option R} {k1 kk1 : Int → Int → Bool → Option R} (hq0 : k0 = kk0) (hq1 : ∀ x0 x1 x2, k1 x0 x1 x2 = kk1 x0 x1 x2) : keep_Same_int_p7 n a0 a1 w2 k0 k1 = keep_Same_int_p7 n a0 a1 w2 kk0 kk1 := by
  obtain rfl : k0 = kk0 := hq0
  obtain rfl : k1 = kk1 := funext fun x0 => funext fun x1 => funext fun x2 => hq1 x0 x1 x2
  rfl
theorem keep_Same_int_p8_congr {R : Type} (n : Nat) (a0 : List (List D)) (a1 : List (List D)) (w31 : Int) (w32 : Int) (w33 : Bool) {k0 kk0 : Option R} (hq0 : k0 = kk0) : keep_Same_int_p8 n a0 a1 w31 w32 w33 k0 = keep_Same_int_p8 n a0 a1 w31 w32 w33 kk0 := by
  obtain rfl : k0 = kk0 := hq0
  rfl
theorem keep_Same_int_p9_congr {R : Type} (n : Nat) (a0 : List (List D)) (a1 : List (List D)) (w2 : Bool) {k0 kk0 : Bool → Option R} (hq0 : ∀ x0, k0 x0 = kk0 x0) : keep_Same_int_p9 n a0 a1 w2 k0 = keep_Same_int_p9 n a0 a1 w2 kk0 := by
  obtain rfl : k0 = kk0 := funext fun x0 => hq0 x0
  rfl
theorem keep_Same_int_p10_congr {R : Type} (n : Nat) (a0 : List (List D)) (a1 : List (List D)) {k0 kk0 : Bool → Option R} (hq0 : ∀ x0, k0 x0 = kk0 x0) : keep_Same_int_p10 n a0 a1 k0 = keep_Same_int_p10 n a0 a1 kk0 := by
  obtain rfl : k0 = kk0 := funext fun x0 => hq0 x0
  rfl
theorem keep_Same_int_p11_congr {R : Type} (n : Nat) (a0 : List (List D)) (a1 : List (List D)) {k0 kk0 : Bool → Option R} (hq0 : ∀ x0, k0 x0 = kk0 x0) : keep_Same_int_p11 n a0 a1 k0 = keep_Same_int_p11 n a0 a1 kk0 := by
  obtain rfl : k0 = kk0 := funext fun x0 => hq0 x0
  rfl
theorem keep_Same_int_p1_eq {R : Type} (n : Nat) (a0 : List (List D)) (a1 : List (List D)) (k : Exit → St → Option R) : vexec (keep_Same_int_C n) n keep_Same_int_c1 ⟨26, [(0, .d (D.sl 1 a0)), (1, .d (D.sl 1 a1))], []⟩ k = keep_Same_int_p1 n a0 a1 (k .normal ⟨26, [(0, .d (D.sl 1 a0)), (1, .d (D.sl 1 a1))], []⟩) := by kernel_rfl
theorem keep_Same_int_p2_eq {R : Type} (n : Nat) (a0 : List (List D)) (a1 : List (List D)) (k : Exit → St → Option R) : vexec (keep_Same_int_C n) n keep_Same_int_c2 ⟨26, [(0, .d (D.sl 1 a0)), (1, .d (D.sl 1 a1))], []⟩ k = keep_Same_int_p2 n a0 a1 (k .ret ⟨26, [(4, .d (D.bool false))], []⟩) (fun z1 => k .normal ⟨26, [(0, .d (D.sl 1 a0)), (1, .d (D.sl 1 a1)), (10, .d (D.bool z1))], []⟩) := by kernel_rfl
theorem keep_Same_int_p3_eq {R : Type} (n : Nat) (a0 : List (List D)) (a1 : List (List D)) (w2 : Bool) (k : Exit → St → Option R) : vexec (keep_Same_int_C n) n keep_Same_int_c3 ⟨26, [(0, .d (D.sl 1 a0)), (1, .d (D.sl 1 a1)), (10, .d (D.bool w2))], []⟩ k = keep_Same_int_p3 n a0 a1 w2 (fun z3 => k .normal ⟨26, [(0, .d (D.sl 1 a0)), (1, .d (D.sl 1 a1)), (12, .d (D.int .i64 z3)), (13, .d (D.int .i64 (0 : Int)))], []⟩) := by kernel_rfl
theorem keep_Same_int_p4_eq {R : Type} (n : Nat) (a0 : List (List D)) (a1 : List (List D)) (w4 : Int) (h8 : Int) (k : Exit → St → Option R) : vexec (keep_Same_int_C n) n keep_Same_int_c4 ⟨26, [(0, .d (D.sl 1 a0)), (1, .d (D.sl 1 a1)), (12, .d (D.int .i64 w4)), (13, .d (D.int .i64 h8))], []⟩ k = keep_Same_int_p4 n a0 a1 w4 h8 (k .ret ⟨26, [(4, .d (D.bool false))], []⟩) (fun z23 => k .normal ⟨26, [(0, .d (D.sl 1 a0)), (1, .d (D.sl 1 a1)), (12, .d (D.int .i64 w4)), (13, .d (D.int .i64 z23))], []⟩) (fun z24 => k (.exit 0) ⟨26, [(0, .d (D.sl 1 a0)), (1, .d (D.sl 1 a1)), (12, .d (D.int .i64 w4)), (13, .d (D.int .i64 h8)), (14, .d (D.bool z24))], []⟩) := by kernel_rfl
theorem keep_Same_int_r5_eq {R : Type} (n : Nat) (a0 : List (List D)) (a1 : List (List D)) (w4 : Int) (k : Exit → St → Option R) : ∀ (m : Nat) (h8 : Int), loopN (vexec (keep_Same_int_C n) n keep_Same_int_c4) m ⟨26, [(0, .d (D.sl 1 a0)), (1, .d (D.sl 1 a1)), (12, .d (D.int .i64 w4)), (13, .d (D.int .i64 h8))], []⟩ k = keep_Same_int_r5 n a0 a1 w4 (k .ret ⟨26, [(4, .d (D.bool false))], []⟩) (fun h8 w26 => k (.exit 0) ⟨26, [(0, .d (D.sl 1 a0)), (1, .d (D.sl 1 a1)), (12, .d (D.int .i64 w4)), (13, .d (D.int .i64 h8)), (14, .d (D.bool w26))], []⟩) m h8
  | 0, _ => rfl
  | m + 1, h8 => (keep_Same_int_p4_eq n a0 a1 w4 h8 (loopK (vexec (keep_Same_int_C n) n keep_Same_int_c4) m k)).trans (keep_Same_int_p4_congr n a0 a1 w4 h8 (rfl) (fun w25 => keep_Same_int_r5_eq n a0 a1 w4 k m w25) (fun w26 => rfl))
theorem keep_Same_int_p5_eq {R : Type} (n : Nat) (a0 : List (List D)) (a1 : List (List D)) (w4 : Int) (k : Exit → St → Option R) : vexec (keep_Same_int_C n) n keep_Same_int_c5 ⟨26, [(0, .d (D.sl 1 a0)), (1, .d (D.sl 1 a1)), (12, .d (D.int .i64 w4)), (13, .d (D.int .i64 (0 : Int)))], []⟩ k = keep_Same_int_p5 n a0 a1 w4 (k .ret ⟨26, [(4, .d (D.bool false))], []⟩) (fun h8 w26 => k (.exit 0) ⟨26, [(0, .d (D.sl 1 a0)), (1, .d (D.sl 1 a1)), (12, .d (D.int .i64 w4)), (13, .d (D.int .i64 h8)), (14, .d (D.bool w26))], []⟩) := by
  rw [keep_Same_int_c5_eq]
  exact keep_Same_int_r5_eq n a0 a1 w4 k n (0 : Int)
theorem keep_Same_int_p6_eq {R : Type} (n : Nat) (a0 : List (List D)) (a1 : List (List D)) (w4 : Int) (k : Exit → St → Option R) : vexec (keep_Same_int_C n) n keep_Same_int_c6 ⟨26, [(0, .d (D.sl 1 a0)), (1, .d (D.sl 1 a1)), (12, .d (D.int .i64 w4)), (13, .d (D.int .i64 (0 : Int)))], []⟩ k = keep_Same_int_p6 n a0 a1 w4 (k .ret ⟨26, [(4, .d (D.bool false))], []⟩) (fun w27 w28 => k .normal ⟨26, [(0, .d (D.sl 1 a0)), (1, .d (D.sl 1 a1)), (12, .d (D.int .i64 w4)), (13, .d (D.int .i64 w27)), (14, .d (D.bool w28))], []⟩) := by
  rw [keep_Same_int_c6_eq]
  unfold keep_Same_int_p6
  exact (keep_Same_int_p5_eq n a0 a1 w4 (blockK 0 k)).trans (keep_Same_int_p5_congr n a0 a1 w4 (rfl) (fun w27 w28 => rfl))
theorem keep_Same_int_p7_eq {R : Type} (n : Nat) (a0 : List (List D)) (a1 : List (List D)) (w2 : Bool) (k : Exit → St → Option R) : vexec (keep_Same_int_C n) n keep_Same_int_c7 ⟨26, [(0, .d (D.sl 1 a0)), (1, .d (D.sl 1 a1)), (10, .d (D.bool w2))], []⟩ k = keep_Same_int_p7 n a0 a1 w2 (k .ret ⟨26, [(4, .d (D.bool false))], []⟩) (fun w4 w29 w30 => k .normal ⟨26, [(0, .d (D.sl 1 a0)), (1, .d (D.sl 1 a1)), (12, .d (D.int .i64 w4)), (13, .d (D.int .i64 w29)), (14, .d (D.bool w30))], []⟩) := by
  rw [keep_Same_int_c7_eq]
  unfold keep_Same_int_p7
  exact (keep_Same_int_p3_eq n a0 a1 w2 (seqK (keep_Same_int_C n) n keep_Same_int_c6 k)).trans (keep_Same_int_p3_congr n a0 a1 w2 (fun w4 => keep_Same_int_p6_eq n a0 a1 w4 k))
theorem keep_Same_int_p8_eq {R : Type} (n : Nat) (a0 : List (List D)) (a1 : List (List D)) (w31 : Int) (w32 : Int) (w33 : Bool) (k : Exit → St → Option R) : vexec (keep_Same_int_C n) n keep_Same_int_c8 ⟨26, [(0, .d (D.sl 1 a0)), (1, .d (D.sl 1 a1)), (12, .d (D.int .i64 w31)), (13, .d (D.int .i64 w32)), (14, .d (D.bool w33))], []⟩ k = keep_Same_int_p8 n a0 a1 w31 w32 w33 (k .ret ⟨26, [(4, .d (D.bool true))], []⟩) := by kernel_rfl
theorem keep_Same_int_p9_eq {R : Type} (n : Nat) (a0 : List (List D)) (a1 : List (List D)) (w2 : Bool) (k : Exit → St → Option R) : vexec (keep_Same_int_C n) n keep_Same_int_c9 ⟨26, [(0, .d (D.sl 1 a0)), (1, .d (D.sl 1 a1)), (10, .d (D.bool w2))], []⟩ k = keep_Same_int_p9 n a0 a1 w2 (fun z34 => k .ret ⟨26, [(4, .d (D.bool z34))], []⟩) := by
  rw [keep_Same_int_c9_eq]
  unfold keep_Same_int_p9
  exact (keep_Same_int_p7_eq n a0 a1 w2 (seqK (keep_Same_int_C n) n keep_Same_int_c8 k)).trans (keep_Same_int_p7_congr n a0 a1 w2 (rfl) (fun w31 w32 w33 => keep_Same_int_p8_eq n a0 a1 w31 w32 w33 k))
theorem keep_Same_int_p10_eq {R : Type} (n : Nat) (a0 : List (List D)) (a1 : List (List D)) (k : Exit → St → Option R) : vexec (keep_Same_int_C n) n keep_Same_int_c10 ⟨26, [(0, .d (D.sl 1 a0)), (1, .d (D.sl 1 a1))], []⟩ k = keep_Same_int_p10 n a0 a1 (fun z36 => k .ret ⟨26, [(4, .d (D.bool z36))], []⟩) := by
  rw [keep_Same_int_c10_eq]
  unfold keep_Same_int_p10
  exact (keep_Same_int_p2_eq n a0 a1 (seqK (keep_Same_int_C n) n keep_Same_int_c9 k)).trans (keep_Same_int_p2_congr n a0 a1 (rfl) (fun w2 => keep_Same_int_p9_eq n a0 a1 w2 k))
theorem keep_Same_int_p11_eq {R : Type} (n : Nat) (a0 : List (List D)) (a1 : List (List D)) (k : Exit → St → Option R) : vexec (keep_Same_int_C n) n keep_Same_int_c0 ⟨26, [(0, .d (D.sl 1 a0)), (1, .d (D.sl 1 a1))], []⟩ k = keep_Same_int_p11 n a0 a1 (fun w37 => k .ret ⟨26, [(4, .d (D.bool w37))], []⟩) := by
  rw [keep_Same_int_c0_eq]
  unfold keep_Same_int_p11
  exact (keep_Same_int_p1_eq n a0 a1 (seqK (keep_Same_int_C n) n keep_Same_int_c10 k)).trans (keep_Same_int_p1_congr n a0 a1 (keep_Same_int_p10_eq n a0 a1 k))
theorem keep_Same_int_vfn {R : Type} (n : Nat) (a0 : List (List D)) (a1 : List (List D)) (K : AV → Option R) : vfn (keep_Same_int_C n) n Try.f14 [.d (D.sl 1 a0), .d (D.sl 1 a1)] [] (retF [[0]] K) = keep_Same_int n a0 a1 (fun r0 => K (.d (D.bool r0))) :=
  (show vfn (keep_Same_int_C n) n Try.f14 [.d (D.sl 1 a0), .d (D.sl 1 a1)] [] (retF [[0]] K) = vexec (keep_Same_int_C n) n keep_Same_int_c0 ⟨26, [(0, .d (D.sl 1 a0)), (1, .d (D.sl 1 a1))], []⟩ (retX keep_Same_int_tt [.tmp 4] (retF [[0]] K)) from vfn_at (by kernel_rfl) (by kernel_rfl) rfl (by kernel_rfl) rfl (by kernel_rfl) rfl).trans ((keep_Same_int_p11_eq n a0 a1 (retX keep_Same_int_tt [.tmp 4] (retF [[0]] K))).trans (by kernel_rfl))
def keep_Same_int_K : AV → Option (Bool) := fun av => match av with
  | .d (D.bool r0) => some r0
  | _ => none
def keep_Same_int_e (n : Nat) : Entry := fun _ _ g avs _ k => match avs with
  | [c0, c1] => prS g 1 c0 fun a0 => prS g 1 c1 fun a1 => 
    gb g (keep_Same_int n a0 a1 some) false fun r => k ⟨.d (D.bool r), [], []⟩
  | _ => none
theorem keep_Same_int_ok (n : Nat) : EntryOK Try.prog 14 (keep_Same_int_e n) := by
  intro R site g avs hl k r h
  unfold keep_Same_int_e at h
  split at h
  rotate_left
  · cases h
  replace h := prS_some h
  obtain ⟨a0, h, le0⟩ := h
  replace h := prS_some h
  obtain ⟨a1, h, le1⟩ := h
  replace h := gb_some h
  obtain ⟨res, h, hr⟩ := h
  refine ⟨_, h, fun hg => CallOK.conv (avs' := [.d (D.sl 1 a0), .d (D.sl 1 a1)]) (.cons (le0 hg) (.cons (le1 hg) (.nil))) (callOK_fix (K := keep_Same_int_K) (res := res) (keep_Same_int_VC n) (fn := Try.f14) (n := n) (by kernel_rfl) (by kernel_rfl) (by kernel_rfl) (ss := [[0]]) rfl ?_ ?_)⟩
  · exact (keep_Same_int_vfn n a0 a1 keep_Same_int_K).trans (hr hg)
  · intro x hx
    unfold keep_Same_int_K at hx
    split at hx
    · injection hx with hx; subst hx; rfl
    · cases hx
end Go.Vx
/-
  law19_awake: the interpreter computes the pure function
-/
set_option linter.unusedVariables false
set_option linter.unusedSimpArgs false
set_option maxRecDepth 100000
namespace Go.Vx
open Go.Proofs
noncomputable def law19_awake_c0 : Code := bodyOf Try.f10
def law19_awake_tt : TT := [(3, ⟨.int .i64, 1, 8, [.int .i64 0], [.int .i64 0], [], none⟩), (22, ⟨.sl 3 1, 1, 24, [.slice none 0 0], [.sl 1 []], [], none⟩), (24, ⟨.sl 31 5, 1, 24, [.slice none 0 0], [.sl 5 []], [], none⟩), (31, ⟨.struct, 5, 40, [.int .i64 0, .int .i64 0, .int .i64 0, .int .i64 0, .int .i64 0], [.int .i64 0, .int .i64 0, .int .i64 0, .int .i64 0, .int .i64 0], [(0, 3), (1, 3), (2, 3), (3, 3), (4, 3)], some [.int .i64, .int .i64, .int .i64, .int .i64, .int .i64]⟩)]
theorem law19_awake_tt_eq : mkTT Try.prog [3, 22, 24, 31] = law19_awake_tt := by kernel_rfl
def law19_awake_cfg : List (Nat × Cfg) := [(0, ⟨[], [], [], [], []⟩), (1, ⟨[1], [], [], [], [3]⟩), (2, ⟨[0], [], [], [], []⟩)]
def law19_awake_C (n : Nat) : VC := ⟨specOf [(11, occupancy_Free_e n), (9, occupancy_At_e n), (14, keep_Same_int_e n)], law19_awake_tt, law19_awake_cfg⟩
theorem law19_awake_ents (n : Nat) : EntsOK Try.prog [(11, occupancy_Free_e n), (9, occupancy_At_e n), (14, keep_Same_int_e n)] := ⟨occupancy_Free_ok n, ⟨occupancy_At_ok n, ⟨keep_Same_int_ok n, trivial⟩⟩⟩
theorem law19_awake_VC (n : Nat) : VCOk Try.prog (law19_awake_C n) := ⟨specOf_ok (law19_awake_ents n), (law19_awake_tt_eq ▸ mkTT_ok _ : TOk Try.prog law19_awake_tt), by kernel_rfl⟩
theorem law19_awake_p1_congr {R : Type} (n : Nat)  {k0 kk0 : Bool → Option R} (hq0 : ∀ x0, k0 x0 = kk0 x0) : law19_awake_p1 n  k0 = law19_awake_p1 n  kk0 := by
  obtain rfl : k0 = kk0 := funext fun x0 => hq0 x0
  rfl
theorem law19_awake_p1_eq {R : Type} (n : Nat)  (k : Exit → St → Option R) : vexec (law19_awake_C n) n law19_awake_c0 ⟨12, [], []⟩ k = law19_awake_p1 n  (fun z4 => k .ret ⟨12, [(0, .d (D.bool z4))], []⟩) := by kernel_rfl
theorem law19_awake_vfn {R : Type} (n : Nat)  (K : AV → Option R) : vfn (law19_awake_C n) n Try.f10 [] [] (retF [[0]] K) = law19_awake n  (fun r0 => K (.d (D.bool r0))) :=
  (show vfn (law19_awake_C n) n Try.f10 [] [] (retF [[0]] K) = vexec (law19_awake_C n) n law19_awake_c0 ⟨12, [], []⟩ (retX law19_awake_tt [.tmp 0] (retF [[0]] K)) from vfn_at (by kernel_rfl) (by kernel_rfl) rfl (by kernel_rfl) rfl (by kernel_rfl) rfl).trans ((law19_awake_p1_eq n  (retX law19_awake_tt [.tmp 0] (retF [[0]] K))).trans (by kernel_rfl))
def law19_awake_K : AV → Option (Bool) := fun av => match av with
  | .d (D.bool r0) => some r0
  | _ => none
def law19_awake_e (n : Nat) : Entry := fun _ _ g avs _ k => match avs with
  | [] => 
    gb g (law19_awake n  some) false fun r => k ⟨.d (D.bool r), [], []⟩
  | _ => none
theorem law19_awake_ok (n : Nat) : EntryOK Try.prog 10 (law19_awake_e n) := by
  intro R site g avs hl k r h
  unfold law19_awake_e at h
  split at h
  rotate_left
  · cases h
  replace h := gb_some h
  obtain ⟨res, h, hr⟩ := h
  refine ⟨_, h, fun hg => CallOK.conv (avs' := []) (.nil) (callOK_fix (K := law19_awake_K) (res := res) (law19_awake_VC n) (fn := Try.f10) (n := n) (by kernel_rfl) (by kernel_rfl) (by kernel_rfl) (ss := [[0]]) rfl ?_ ?_)⟩
  · exact (law19_awake_vfn n  law19_awake_K).trans (hr hg)
  · intro x hx
    unfold law19_awake_K at hx
    split at hx
    · injection hx with hx; subst hx; rfl
    · cases hx
end Go.Vx
/-
  law19_OccupancyConflictIsCommon: the interpreter computes the pure function
-/
set_option linter.unusedVariables false
set_option linter.unusedSimpArgs false
set_option maxRecDepth 100000
namespace Go.Vx
open Go.Proofs
noncomputable def law19_OccupancyConflictIsCommon_c0 : Code := bodyOf Try.f6
noncomputable def law19_OccupancyConflictIsCommon_c1 : Code := cL (bodyOf Try.f6)
noncomputable def law19_OccupancyConflictIsCommon_c2 : Code := cL (cR (bodyOf Try.f6))
noncomputable def law19_OccupancyConflictIsCommon_c3 : Code := cL (cR (cR (bodyOf Try.f6)))
noncomputable def law19_OccupancyConflictIsCommon_c4 : Code := cL (cL (cR (cR (cR (bodyOf Try.f6)))))
noncomputable def law19_OccupancyConflictIsCommon_c5 : Code := cB (cB (cR (cL (cR (cR (cR (bodyOf Try.f6)))))))
noncomputable def law19_OccupancyConflictIsCommon_c6 : Code := cB (cR (cL (cR (cR (cR (bodyOf Try.f6))))))
noncomputable def law19_OccupancyConflictIsCommon_c7 : Code := cR (cL (cR (cR (cR (bodyOf Try.f6)))))
noncomputable def law19_OccupancyConflictIsCommon_c8 : Code := cL (cR (cR (cR (bodyOf Try.f6))))
noncomputable def law19_OccupancyConflictIsCommon_c9 : Code := cL (cR (cR (cR (cR (bodyOf Try.f6)))))
noncomputable def law19_OccupancyConflictIsCommon_c10 : Code := cL (cL (cR (cR (cR (cR (cR (bodyOf Try.f6)))))))
noncomputable def law19_OccupancyConflictIsCommon_c11 : Code := cL (cB (cB (cR (cL (cR (cR (cR (cR (cR (bodyOf Try.f6))))))))))
noncomputable def law19_OccupancyConflictIsCommon_c12 : Code := cL (cR (cB (cB (cR (cL (cR (cR (cR (cR (cR (bodyOf Try.f6)))))))))))
noncomputable def law19_OccupancyConflictIsCommon_c13 : Code := cL (cB (cL (cR (cR (cB (cB (cR (cL (cR (cR (cR (cR (cR (bodyOf Try.f6))))))))))))))
noncomputable def law19_OccupancyConflictIsCommon_c14 : Code := cL (cR (cB (cL (cR (cR (cB (cB (cR (cL (cR (cR (cR (cR (cR (bodyOf Try.f6)))))))))))))))
noncomputable def law19_OccupancyConflictIsCommon_c15 : Code := cL (cB (cB (cR (cR (cB (cL (cR (cR (cB (cB (cR (cL (cR (cR (cR (cR (cR (bodyOf Try.f6))))))))))))))))))
noncomputable def law19_OccupancyConflictIsCommon_c16 : Code := cL (cB (cL (cR (cB (cB (cR (cR (cB (cL (cR (cR (cB (cB (cR (cL (cR (cR (cR (cR (cR (bodyOf Try.f6)))))))))))))))))))))
noncomputable def law19_OccupancyConflictIsCommon_c17 : Code := cL (cL (cR (cB (cL (cR (cB (cB (cR (cR (cB (cL (cR (cR (cB (cB (cR (cL (cR (cR (cR (cR (cR (bodyOf Try.f6)))))))))))))))))))))))
noncomputable def law19_OccupancyConflictIsCommon_c18 : Code := cB (cB (cR (cL (cR (cB (cL (cR (cB (cB (cR (cR (cB (cL (cR (cR (cB (cB (cR (cL (cR (cR (cR (cR (cR (bodyOf Try.f6)))))))))))))))))))))))))
noncomputable def law19_OccupancyConflictIsCommon_c19 : Code := cB (cR (cL (cR (cB (cL (cR (cB (cB (cR (cR (cB (cL (cR (cR (cB (cB (cR (cL (cR (cR (cR (cR (cR (bodyOf Try.f6))))))))))))))))))))))))
noncomputable def law19_OccupancyConflictIsCommon_c20 : Code := cR (cL (cR (cB (cL (cR (cB (cB (cR (cR (cB (cL (cR (cR (cB (cB (cR (cL (cR (cR (cR (cR (cR (bodyOf Try.f6)))))))))))))))))))))))
noncomputable def law19_OccupancyConflictIsCommon_c21 : Code := cL (cR (cB (cL (cR (cB (cB (cR (cR (cB (cL (cR (cR (cB (cB (cR (cL (cR (cR (cR (cR (cR (bodyOf Try.f6))))))))))))))))))))))
noncomputable def law19_OccupancyConflictIsCommon_c22 : Code := cL (cR (cR (cB (cL (cR (cB (cB (cR (cR (cB (cL (cR (cR (cB (cB (cR (cL (cR (cR (cR (cR (cR (bodyOf Try.f6)))))))))))))))))))))))
noncomputable def law19_OccupancyConflictIsCommon_c23 : Code := cL (cL (cR (cR (cR (cB (cL (cR (cB (cB (cR (cR (cB (cL (cR (cR (cB (cB (cR (cL (cR (cR (cR (cR (cR (bodyOf Try.f6)))))))))))))))))))))))))
noncomputable def law19_OccupancyConflictIsCommon_c24 : Code := cB (cB (cR (cL (cR (cR (cR (cB (cL (cR (cB (cB (cR (cR (cB (cL (cR (cR (cB (cB (cR (cL (cR (cR (cR (cR (cR (bodyOf Try.f6)))))))))))))))))))))))))))
noncomputable def law19_OccupancyConflictIsCommon_c25 : Code := cB (cR (cL (cR (cR (cR (cB (cL (cR (cB (cB (cR (cR (cB (cL (cR (cR (cB (cB (cR (cL (cR (cR (cR (cR (cR (bodyOf Try.f6))))))))))))))))))))))))))
noncomputable def law19_OccupancyConflictIsCommon_c26 : Code := cR (cL (cR (cR (cR (cB (cL (cR (cB (cB (cR (cR (cB (cL (cR (cR (cB (cB (cR (cL (cR (cR (cR (cR (cR (bodyOf Try.f6)))))))))))))))))))))))))
noncomputable def law19_OccupancyConflictIsCommon_c27 : Code := cL (cR (cR (cR (cB (cL (cR (cB (cB (cR (cR (cB (cL (cR (cR (cB (cB (cR (cL (cR (cR (cR (cR (cR (bodyOf Try.f6))))))))))))))))))))))))
noncomputable def law19_OccupancyConflictIsCommon_c28 : Code := cR (cR (cR (cR (cB (cL (cR (cB (cB (cR (cR (cB (cL (cR (cR (cB (cB (cR (cL (cR (cR (cR (cR (cR (bodyOf Try.f6))))))))))))))))))))))))
noncomputable def law19_OccupancyConflictIsCommon_c29 : Code := cR (cR (cR (cB (cL (cR (cB (cB (cR (cR (cB (cL (cR (cR (cB (cB (cR (cL (cR (cR (cR (cR (cR (bodyOf Try.f6)))))))))))))))))))))))
noncomputable def law19_OccupancyConflictIsCommon_c30 : Code := cR (cR (cB (cL (cR (cB (cB (cR (cR (cB (cL (cR (cR (cB (cB (cR (cL (cR (cR (cR (cR (cR (bodyOf Try.f6))))))))))))))))))))))
noncomputable def law19_OccupancyConflictIsCommon_c31 : Code := cR (cB (cL (cR (cB (cB (cR (cR (cB (cL (cR (cR (cB (cB (cR (cL (cR (cR (cR (cR (cR (bodyOf Try.f6)))))))))))))))))))))
noncomputable def law19_OccupancyConflictIsCommon_c32 : Code := cB (cL (cR (cB (cB (cR (cR (cB (cL (cR (cR (cB (cB (cR (cL (cR (cR (cR (cR (cR (bodyOf Try.f6))))))))))))))))))))
noncomputable def law19_OccupancyConflictIsCommon_c33 : Code := cL (cR (cB (cB (cR (cR (cB (cL (cR (cR (cB (cB (cR (cL (cR (cR (cR (cR (cR (bodyOf Try.f6)))))))))))))))))))
noncomputable def law19_OccupancyConflictIsCommon_c34 : Code := cR (cR (cB (cB (cR (cR (cB (cL (cR (cR (cB (cB (cR (cL (cR (cR (cR (cR (cR (bodyOf Try.f6)))))))))))))))))))
noncomputable def law19_OccupancyConflictIsCommon_c35 : Code := cR (cB (cB (cR (cR (cB (cL (cR (cR (cB (cB (cR (cL (cR (cR (cR (cR (cR (bodyOf Try.f6))))))))))))))))))
noncomputable def law19_OccupancyConflictIsCommon_c36 : Code := cB (cB (cR (cR (cB (cL (cR (cR (cB (cB (cR (cL (cR (cR (cR (cR (cR (bodyOf Try.f6)))))))))))))))))
noncomputable def law19_OccupancyConflictIsCommon_c37 : Code := cB (cR (cR (cB (cL (cR (cR (cB (cB (cR (cL (cR (cR (cR (cR (cR (bodyOf Try.f6))))))))))))))))
noncomputable def law19_OccupancyConflictIsCommon_c38 : Code := cR (cR (cB (cL (cR (cR (cB (cB (cR (cL (cR (cR (cR (cR (cR (bodyOf Try.f6)))))))))))))))
noncomputable def law19_OccupancyConflictIsCommon_c39 : Code := cR (cB (cL (cR (cR (cB (cB (cR (cL (cR (cR (cR (cR (cR (bodyOf Try.f6))))))))))))))
noncomputable def law19_OccupancyConflictIsCommon_c40 : Code := cB (cL (cR (cR (cB (cB (cR (cL (cR (cR (cR (cR (cR (bodyOf Try.f6)))))))))))))
noncomputable def law19_OccupancyConflictIsCommon_c41 : Code := cL (cR (cR (cB (cB (cR (cL (cR (cR (cR (cR (cR (bodyOf Try.f6))))))))))))
noncomputable def law19_OccupancyConflictIsCommon_c42 : Code := cR (cR (cR (cB (cB (cR (cL (cR (cR (cR (cR (cR (bodyOf Try.f6))))))))))))
noncomputable def law19_OccupancyConflictIsCommon_c43 : Code := cR (cR (cB (cB (cR (cL (cR (cR (cR (cR (cR (bodyOf Try.f6)))))))))))
noncomputable def law19_OccupancyConflictIsCommon_c44 : Code := cR (cB (cB (cR (cL (cR (cR (cR (cR (cR (bodyOf Try.f6))))))))))
noncomputable def law19_OccupancyConflictIsCommon_c45 : Code := cB (cB (cR (cL (cR (cR (cR (cR (cR (bodyOf Try.f6)))))))))
noncomputable def law19_OccupancyConflictIsCommon_c46 : Code := cB (cR (cL (cR (cR (cR (cR (cR (bodyOf Try.f6))))))))
noncomputable def law19_OccupancyConflictIsCommon_c47 : Code := cR (cL (cR (cR (cR (cR (cR (bodyOf Try.f6)))))))
noncomputable def law19_OccupancyConflictIsCommon_c48 : Code := cL (cR (cR (cR (cR (cR (bodyOf Try.f6))))))
noncomputable def law19_OccupancyConflictIsCommon_c49 : Code := cR (cR (cR (cR (cR (cR (bodyOf Try.f6))))))
noncomputable def law19_OccupancyConflictIsCommon_c50 : Code := cR (cR (cR (cR (cR (bodyOf Try.f6)))))
noncomputable def law19_OccupancyConflictIsCommon_c51 : Code := cR (cR (cR (cR (bodyOf Try.f6))))
noncomputable def law19_OccupancyConflictIsCommon_c52 : Code := cR (cR (cR (bodyOf Try.f6)))
noncomputable def law19_OccupancyConflictIsCommon_c53 : Code := cR (cR (bodyOf Try.f6))
noncomputable def law19_OccupancyConflictIsCommon_c54 : Code := cR (bodyOf Try.f6)
theorem law19_OccupancyConflictIsCommon_c6_eq : law19_OccupancyConflictIsCommon_c6 = .loop law19_OccupancyConflictIsCommon_c5 := by kernel_rfl
theorem law19_OccupancyConflictIsCommon_c7_eq : law19_OccupancyConflictIsCommon_c7 = .block 0 law19_OccupancyConflictIsCommon_c6 := by kernel_rfl
theorem law19_OccupancyConflictIsCommon_c8_eq : law19_OccupancyConflictIsCommon_c8 = .seq law19_OccupancyConflictIsCommon_c4 law19_OccupancyConflictIsCommon_c7 := by kernel_rfl
theorem law19_OccupancyConflictIsCommon_c19_eq : law19_OccupancyConflictIsCommon_c19 = .loop law19_OccupancyConflictIsCommon_c18 := by kernel_rfl
theorem law19_OccupancyConflictIsCommon_c20_eq : law19_OccupancyConflictIsCommon_c20 = .block 6 law19_OccupancyConflictIsCommon_c19 := by kernel_rfl
theorem law19_OccupancyConflictIsCommon_c21_eq : law19_OccupancyConflictIsCommon_c21 = .seq law19_OccupancyConflictIsCommon_c17 law19_OccupancyConflictIsCommon_c20 := by kernel_rfl
theorem law19_OccupancyConflictIsCommon_c25_eq : law19_OccupancyConflictIsCommon_c25 = .loop law19_OccupancyConflictIsCommon_c24 := by kernel_rfl
theorem law19_OccupancyConflictIsCommon_c26_eq : law19_OccupancyConflictIsCommon_c26 = .block 8 law19_OccupancyConflictIsCommon_c25 := by kernel_rfl
theorem law19_OccupancyConflictIsCommon_c27_eq : law19_OccupancyConflictIsCommon_c27 = .seq law19_OccupancyConflictIsCommon_c23 law19_OccupancyConflictIsCommon_c26 := by kernel_rfl
theorem law19_OccupancyConflictIsCommon_c29_eq : law19_OccupancyConflictIsCommon_c29 = .seq law19_OccupancyConflictIsCommon_c27 law19_OccupancyConflictIsCommon_c28 := by kernel_rfl
theorem law19_OccupancyConflictIsCommon_c30_eq : law19_OccupancyConflictIsCommon_c30 = .seq law19_OccupancyConflictIsCommon_c22 law19_OccupancyConflictIsCommon_c29 := by kernel_rfl
theorem law19_OccupancyConflictIsCommon_c31_eq : law19_OccupancyConflictIsCommon_c31 = .seq law19_OccupancyConflictIsCommon_c21 law19_OccupancyConflictIsCommon_c30 := by kernel_rfl
theorem law19_OccupancyConflictIsCommon_c32_eq : law19_OccupancyConflictIsCommon_c32 = .seq law19_OccupancyConflictIsCommon_c16 law19_OccupancyConflictIsCommon_c31 := by kernel_rfl
theorem law19_OccupancyConflictIsCommon_c33_eq : law19_OccupancyConflictIsCommon_c33 = .block 5 law19_OccupancyConflictIsCommon_c32 := by kernel_rfl
theorem law19_OccupancyConflictIsCommon_c35_eq : law19_OccupancyConflictIsCommon_c35 = .seq law19_OccupancyConflictIsCommon_c33 law19_OccupancyConflictIsCommon_c34 := by kernel_rfl
theorem law19_OccupancyConflictIsCommon_c36_eq : law19_OccupancyConflictIsCommon_c36 = .seq law19_OccupancyConflictIsCommon_c15 law19_OccupancyConflictIsCommon_c35 := by kernel_rfl
theorem law19_OccupancyConflictIsCommon_c37_eq : law19_OccupancyConflictIsCommon_c37 = .loop law19_OccupancyConflictIsCommon_c36 := by kernel_rfl
theorem law19_OccupancyConflictIsCommon_c38_eq : law19_OccupancyConflictIsCommon_c38 = .block 4 law19_OccupancyConflictIsCommon_c37 := by kernel_rfl
theorem law19_OccupancyConflictIsCommon_c39_eq : law19_OccupancyConflictIsCommon_c39 = .seq law19_OccupancyConflictIsCommon_c14 law19_OccupancyConflictIsCommon_c38 := by kernel_rfl
theorem law19_OccupancyConflictIsCommon_c40_eq : law19_OccupancyConflictIsCommon_c40 = .seq law19_OccupancyConflictIsCommon_c13 law19_OccupancyConflictIsCommon_c39 := by kernel_rfl
theorem law19_OccupancyConflictIsCommon_c41_eq : law19_OccupancyConflictIsCommon_c41 = .block 3 law19_OccupancyConflictIsCommon_c40 := by kernel_rfl
theorem law19_OccupancyConflictIsCommon_c43_eq : law19_OccupancyConflictIsCommon_c43 = .seq law19_OccupancyConflictIsCommon_c41 law19_OccupancyConflictIsCommon_c42 := by kernel_rfl
theorem law19_OccupancyConflictIsCommon_c44_eq : law19_OccupancyConflictIsCommon_c44 = .seq law19_OccupancyConflictIsCommon_c12 law19_OccupancyConflictIsCommon_c43 := by kernel_rfl
theorem law19_OccupancyConflictIsCommon_c45_eq : law19_OccupancyConflictIsCommon_c45 = .seq law19_OccupancyConflictIsCommon_c11 law19_OccupancyConflictIsCommon_c44 := by kernel_rfl
theorem law19_OccupancyConflictIsCommon_c46_eq : law19_OccupancyConflictIsCommon_c46 = .loop law19_OccupancyConflictIsCommon_c45 := by kernel_rfl
theorem law19_OccupancyConflictIsCommon_c47_eq : law19_OccupancyConflictIsCommon_c47 = .block 2 law19_OccupancyConflictIsCommon_c46 := by kernel_rfl
theorem law19_OccupancyConflictIsCommon_c48_eq : law19_OccupancyConflictIsCommon_c48 = .seq law19_OccupancyConflictIsCommon_c10 law19_OccupancyConflictIsCommon_c47 := by kernel_rfl
theorem law19_OccupancyConflictIsCommon_c50_eq : law19_OccupancyConflictIsCommon_c50 = .seq law19_OccupancyConflictIsCommon_c48 law19_OccupancyConflictIsCommon_c49 := by kernel_rfl
theorem law19_OccupancyConflictIsCommon_c51_eq : law19_OccupancyConflictIsCommon_c51 = .seq law19_OccupancyConflictIsCommon_c9 law19_OccupancyConflictIsCommon_c50 := by kernel_rfl
theorem law19_OccupancyConflictIsCommon_c52_eq : law19_OccupancyConflictIsCommon_c52 = .seq law19_OccupancyConflictIsCommon_c8 law19_OccupancyConflictIsCommon_c51 := by kernel_rfl
theorem law19_OccupancyConflictIsCommon_c53_eq : law19_OccupancyConflictIsCommon_c53 = .seq law19_OccupancyConflictIsCommon_c3 law19_OccupancyConflictIsCommon_c52 := by kernel_rfl
theorem law19_OccupancyConflictIsCommon_c54_eq : law19_OccupancyConflictIsCommon_c54 = .seq law19_OccupancyConflictIsCommon_c2 law19_OccupancyConflictIsCommon_c53 := by kernel_rfl
theorem law19_OccupancyConflictIsCommon_c0_eq : law19_OccupancyConflictIsCommon_c0 = .seq law19_OccupancyConflictIsCommon_c1 law19_OccupancyConflictIsCommon_c54 := by kernel_rfl
def law19_OccupancyConflictIsCommon_tt : TT := [(3, ⟨.int .i64, 1, 8, [.int .i64 0], [.int .i64 0], [], none⟩), (4, ⟨.bool, 1, 1, [.bool false], [.bool false], [], none⟩), (24, ⟨.sl 31 5, 1, 24, [.slice none 0 0], [.sl 5 []], [], none⟩), (31, ⟨.struct, 5, 40, [.int .i64 0, .int .i64 0, .int .i64 0, .int .i64 0, .int .i64 0], [.int .i64 0, .int .i64 0, .int .i64 0, .int .i64 0, .int .i64 0], [(0, 3), (1, 3), (2, 3), (3, 3), (4, 3)], some [.int .i64, .int .i64, .int .i64, .int .i64, .int .i64]⟩), (32, ⟨.sl 35 2, 1, 24, [.slice none 0 0], [.sl 2 []], [], none⟩), (35, ⟨.array 3 1 2, 2, 16, [.int .i64 0, .int .i64 0], [.int .i64 0, .int .i64 0], [(0, 3), (1, 3)], some [.int .i64, .int .i64]⟩)]
theorem law19_OccupancyConflictIsCommon_tt_eq : mkTT Try.prog [3, 4, 24, 31, 32, 35] = law19_OccupancyConflictIsCommon_tt := by kernel_rfl
def law19_OccupancyConflictIsCommon_cfg : List (Nat × Cfg) := [(0, ⟨[0, 1], [], [], [], []⟩), (1, ⟨[0, 1], [], [], [], []⟩), (2, ⟨[0, 5], [(100018, 100018)], [], [], []⟩), (3, ⟨[0, 5, 20, 21], [(100018, 100018)], [], [], []⟩), (4, ⟨[0, 5, 20, 21, 22], [(100018, 100018)], [], [], []⟩), (5, ⟨[0, 5, 6, 20, 21], [(100018, 100018)], [], [], []⟩), (6, ⟨[0, 5, 20, 21], [(100018, 100018)], [], [], []⟩), (7, ⟨[0, 5, 20, 21], [(100018, 100018)], [], [], []⟩), (8, ⟨[0, 5, 7], [(100018, 100018), (100032, 100032)], [], [], []⟩), (9, ⟨[0, 5, 7, 34, 35], [(100018, 100018), (100032, 100032)], [], [], []⟩), (10, ⟨[0, 5, 7, 34, 35, 36], [(100018, 100018), (100032, 100032)], [], [], []⟩), (11, ⟨[0, 5, 7, 8, 34, 35], [(100018, 100018), (100032, 100032)], [], [], []⟩), (12, ⟨[0, 5, 7, 8, 9, 34, 35], [(100018, 100018), (100032, 100032)], [], [], []⟩), (13, ⟨[0, 5, 7, 8, 9, 34, 35, 40], [(100018, 100018), (100032, 100032)], [], [], []⟩), (14, ⟨[0, 5, 7, 8, 9, 34, 35], [(100018, 100018), (100032, 100032)], [], [], []⟩), (15, ⟨[0, 5, 7, 8, 9, 10, 34, 35], [(100018, 100018), (100032, 100032)], [], [], []⟩), (16, ⟨[0, 5, 7, 8, 9, 10, 11, 34, 35], [(100018, 100018), (100032, 100032)], [], [], []⟩), (17, ⟨[0, 5, 7, 8, 9, 10, 11, 34, 35, 45], [(100018, 100018), (100032, 100032)], [], [], []⟩), (18, ⟨[0, 5, 7, 8, 9, 10, 11, 34, 35], [(100018, 100018), (100032, 100032)], [], [], []⟩), (19, ⟨[0, 5, 7, 8, 9, 10, 11, 34, 35], [(100018, 100018), (100032, 100032)], [], [], []⟩), (20, ⟨[0, 5, 7, 8, 9, 10, 12, 34, 35], [(100018, 100018), (100032, 100032)], [], [], []⟩), (21, ⟨[0, 5, 7, 8, 9, 10, 12, 34, 35, 84, 85], [(100018, 100018), (100032, 100032)], [], [], []⟩), (22, ⟨[0, 5, 7, 8, 9, 10, 12, 34, 35, 84, 85, 86], [(100018, 100018), (100032, 100032)], [], [], []⟩), (23, ⟨[0, 5, 7, 8, 9, 10, 12, 13, 34, 35, 84, 85], [(100018, 100018), (100032, 100032)], [], [], []⟩), (24, ⟨[0, 5, 7, 8, 9, 10, 12, 34, 35, 84, 85], [(100018, 100018), (100032, 100032)], [], [], []⟩), (25, ⟨[0, 5, 7, 8, 9, 10, 12, 34, 35, 84, 85], [(100018, 100018), (100032, 100032)], [], [], []⟩), (26, ⟨[0, 5, 7, 8, 9, 34, 35, 115], [(100018, 100018), (100032, 100032)], [], [], []⟩), (27, ⟨[4], [], [], [], []⟩), (28, ⟨[0, 5, 7, 34, 35], [(100018, 100018), (100032, 100032)], [], [], []⟩), (29, ⟨[4], [], [], [], []⟩)]
def law19_OccupancyConflictIsCommon_C (n : Nat) : VC := ⟨specOf [(7, keep_Pick_e n), (8, law19_some_o n), (12, occupancy_Conflicts_o n), (16, ref1_Mod_e n), (10, law19_awake_e n)], law19_OccupancyConflictIsCommon_tt, law19_OccupancyConflictIsCommon_cfg⟩
theorem law19_OccupancyConflictIsCommon_ents (n : Nat) : EntsOK Try.prog [(7, keep_Pick_e n), (8, law19_some_o n), (12, occupancy_Conflicts_o n), (16, ref1_Mod_e n), (10, law19_awake_e n)] := ⟨keep_Pick_ok n, ⟨law19_some_oo n, ⟨occupancy_Conflicts_oo n, ⟨ref1_Mod_ok n, ⟨law19_awake_ok n, trivial⟩⟩⟩⟩⟩
theorem law19_OccupancyConflictIsCommon_VC (n : Nat) : VCOk Try.prog (law19_OccupancyConflictIsCommon_C n) := ⟨specOf_ok (law19_OccupancyConflictIsCommon_ents n), (law19_OccupancyConflictIsCommon_tt_eq ▸ mkTT_ok _ : TOk Try.prog law19_OccupancyConflictIsCommon_tt), by kernel_rfl⟩
theorem law19_OccupancyConflictIsCommon_p1_congr {R : Type} (n : Nat) (a0 : Int) (a1 : List (List D)) {k0 kk0 : Option R} (hq0 : k0 = kk0) : law19_OccupancyConflictIsCommon_p1 n a0 a1 k0 = law19_OccupancyConflictIsCommon_p1 n a0 a1 kk0 := by
  obtain rfl : k0 = kk0 := hq0
  rfl
theorem law19_OccupancyConflictIsCommon_p2_congr {R : Type} (n : Nat) (a0 : Int) (a1 : List (List D)) {k0 kk0 : Int → Option R} (hq0 : ∀ x0, k0 x0 = kk0 x0) : law19_OccupancyConflictIsCommon_p2 n a0 a1 k0 = law19_OccupancyConflictIsCommon_p2 n a0 a1 kk0 := by
  obtain rfl : k0 = kk0 := funext fun x0 => hq0 x0
  rfl
theorem law19_OccupancyConflictIsCommon_p3_congr {R : Type} (n : Nat) (w3 : Int) (a1 : List (List D)) {k0 kk0 : (List (List D)) → Option R} (hq0 : ∀ x0, k0 x0 = kk0 x0) : law19_OccupancyConflictIsCommon_p3 n w3 a1 k0 = law19_OccupancyConflictIsCommon_p3 n w3 a1 kk0 := by
  obtain rfl : k0 = kk0 := funext fun x0 => hq0 x0
  rfl
theorem law19_OccupancyConflictIsCommon_p4_congr {R : Type} (n : Nat) (w3 : Int) (w5 : List (List D)) {k0 kk0 : Int → Option R} (hq0 : ∀ x0, k0 x0 = kk0 x0) : law19_OccupancyConflictIsCommon_p4 n w3 w5 k0 = law19_OccupancyConflictIsCommon_p4 n w3 w5 kk0 := by
  obtain rfl : k0 = kk0 := funext fun x0 => hq0 x0
  rfl
theorem law19_OccupancyConflictIsCommon_p5_congr {R : Type} (n : Nat) (w3 : Int) (w7 : Int) (h10 : Int) (h11 : List (List D)) {k0 kk0 : Int → (List (List D)) → Option R} {k1 kk1 : Bool → Option R} (hq0 : ∀ x0 x1, k0 x0 x1 = kk0 x0 x1) (hq1 : ∀ x0, k1 x0 = kk1 x0) : law19_OccupancyConflictIsCommon_p5 n w3 w7 h10 h11 k0 k1 = law19_OccupancyConflictIsCommon_p5 n w3 w7 h10 h11 kk0 kk1 := by
  obtain rfl : k0 = kk0 := funext fun x0 => funext fun x1 => hq0 x0 x1
  obtain rfl : k1 = kk1 := funext fun x0 => hq1 x0
  rfl
theorem law19_OccupancyConflictIsCommon_p6_congr {R : Type} (n : Nat) (w3 : Int) (w7 : Int) (w5 : List (List D)) {k0 kk0 : Int → Bool → (List (List D)) → Option R} (hq0 : ∀ x0 x1 x2, k0 x0 x1 x2 = kk0 x0 x1 x2) : law19_OccupancyConflictIsCommon_p6 n w3 w7 w5 k0 = law19_OccupancyConflictIsCommon_p6 n w3 w7 w5 kk0 := by
  obtain rfl : k0 = kk0 := funext fun x0 => funext fun x1 => funext fun x2 => hq0 x0 x1 x2
  rfl
theorem law19_OccupancyConflictIsCommon_p7_congr {R : Type} (n : Nat) (w3 : Int) (w7 : Int) (w5 : List (List D)) {k0 kk0 : Int → Bool → (List (List D)) → Option R} (hq0 : ∀ x0 x1 x2, k0 x0 x1 x2 = kk0 x0 x1 x2) : law19_OccupancyConflictIsCommon_p7 n w3 w7 w5 k0 = law19_OccupancyConflictIsCommon_p7 n w3 w7 w5 kk0 := by
  obtain rfl : k0 = kk0 := funext fun x0 => funext fun x1 => funext fun x2 => hq0 x0 x1 x2
  rfl
theorem law19_OccupancyConflictIsCommon_p8_congr {R : Type} (n : Nat) (w3 : Int) (w5 : List (List D)) {k0 kk0 : Int → Int → Bool → (List (List D)) → Option R} (hq0 : ∀ x0 x1 x2 x3, k0 x0 x1 x2 x3 = kk0 x0 x1 x2 x3) : law19_OccupancyConflictIsCommon_p8 n w3 w5 k0 = law19_OccupancyConflictIsCommon_p8 n w3 w5 kk0 := by
  obtain rfl : k0 = kk0 := funext fun x0 => funext fun x1 => funext fun x2 => funext fun x3 => hq0 x0 x1 x2 x3
  rfl
theorem law19_OccupancyConflictIsCommon_p9_congr {R : Type} (n : Nat) (w3 : Int) (w31 : Int) (w32 : Int) (w33 : Bool) (w34 : List (List D)) {k0 kk0 : (List (List D)) → Option R} (hq0 : ∀ x0, k0 x0 = kk0 x0) : law19_OccupancyConflictIsCommon_p9 n w3 w31 w32 w33 w34 k0 = law19_OccupancyConflictIsCommon_p9 n w3 w31 w32 w33 w34 kk0 := by
  obtain rfl : k0 = kk0 := funext fun x0 => hq0 x0
  rfl
theorem law19_OccupancyConflictIsCommon_p10_congr {R : Type} (n : Nat) (w3 : Int) (w34 : List (List D)) (w37 : List (List D)) {k0 kk0 : Int → Option R} (hq0 : ∀ x0, k0 x0 = kk0 x0) : law19_OccupancyConflictIsCommon_p10 n w3 w34 w37 k0 = law19_OccupancyConflictIsCommon_p10 n w3 w34 w37 kk0 := by
  obtain rfl : k0 = kk0 := funext fun x0 => hq0 x0
  rfl
theorem law19_OccupancyConflictIsCommon_p11_congr {R : Type} (n : Nat) (w3 : Int) (w39 : Int) (h42 : Int) (w34 : List (List D)) (w37 : List (List D)) {k0 kk0 : Bool → Option R} (hq0 : ∀ x0, k0 x0 = kk0 x0) : law19_OccupancyConflictIsCommon_p11 n w3 w39 h42 w34 w37 k0 = law19_OccupancyConflictIsCommon_p11 n w3 w39 h42 w34 w37 kk0 := by
  obtain rfl : k0 = kk0 := funext fun x0 => hq0 x0
  rfl
theorem law19_OccupancyConflictIsCommon_p12_congr {R : Type} (n : Nat) (w3 : Int) (w39 : Int) (h42 : Int) (w329 : Bool) (w34 : List (List D)) (w37 : List (List D)) {k0 kk0 : Option R} {k1 kk1 : Option R} (hq0 : k0 = kk0) (hq1 : k1 = kk1) : law19_OccupancyConflictIsCommon_p12 n w3 w39 h42 w329 w34 w37 k0 k1 = law19_OccupancyConflictIsCommon_p12 n w3 w39 h42 w329 w34 w37 kk0 kk1 := by
  obtain rfl : k0 = kk0 := hq0
  obtain rfl : k1 = kk1 := hq1
  rfl
theorem law19_OccupancyConflictIsCommon_p13_congr {R : Type} (n : Nat) (w3 : Int) (w39 : Int) (h42 : Int) (w329 : Bool) (w34 : List (List D)) (w37 : List (List D)) {k0 kk0 : Option R} (hq0 : k0 = kk0) : law19_OccupancyConflictIsCommon_p13 n w3 w39 h42 w329 w34 w37 k0 = law19_OccupancyConflictIsCommon_p13 n w3 w39 h42 w329 w34 w37 kk0 := by
  obtain rfl : k0 = kk0 := hq0
  rfl
theorem law19_OccupancyConflictIsCommon_p14_congr {R : Type} (n : Nat) (w3 : Int) (h42 : Int) (w39 : Int) (w34 : List (List D)) (w37 : List (List D)) {k0 kk0 : Option R} (hq0 : k0 = kk0) : law19_OccupancyConflictIsCommon_p14 n w3 h42 w39 w34 w37 k0 = law19_OccupancyConflictIsCommon_p14 n w3 h42 w39 w34 w37 kk0 := by
  obtain rfl : k0 = kk0 := hq0
  rfl
theorem law19_OccupancyConflictIsCommon_p15_congr {R : Type} (n : Nat) (w3 : Int) (h42 : Int) (h332 : Int) (w39 : Int) (w34 : List (List D)) (w37 : List (List D)) {k0 kk0 : Bool → Option R} {k1 kk1 : Bool → Option R} (hq0 : ∀ x0, k0 x0 = kk0 x0) (hq1 : ∀ x0, k1 x0 = kk1 x0) : law19_OccupancyConflictIsCommon_p15 n w3 h42 h332 w39 w34 w37 k0 k1 = law19_OccupancyConflictIsCommon_p15 n w3 h42 h332 w39 w34 w37 kk0 kk1 := by
  obtain rfl : k0 = kk0 := funext fun x0 => hq0 x0
  obtain rfl : k1 = kk1 := funext fun x0 => hq1 x0
  rfl
theorem law19_OccupancyConflictIsCommon_p16_congr {R : Type} (n : Nat) (w3 : Int) (h42 : Int) (h332 : Int) (w39 : Int) (w468 : Bool) (w34 : List (List D)) (w37 : List (List D)) {k0 kk0 : Option R} (hq0 : k0 = kk0) : law19_OccupancyConflictIsCommon_p16 n w3 h42 h332 w39 w468 w34 w37 k0 = law19_OccupancyConflictIsCommon_p16 n w3 h42 h332 w39 w468 w34 w37 kk0 := by
  obtain rfl : k0 = kk0 := hq0
  rfl
theorem law19_OccupancyConflictIsCommon_p17_congr {R : Type} (n : Nat) (w3 : Int) (h42 : Int) (h332 : Int) (w39 : Int) (w34 : List (List D)) (w37 : List (List D)) {k0 kk0 : Option R} (hq0 : k0 = kk0) : law19_OccupancyConflictIsCommon_p17 n w3 h42 h332 w39 w34 w37 k0 = law19_OccupancyConflictIsCommon_p17 n w3 h42 h332 w39 w34 w37 kk0 := by
  obtain rfl : k0 = kk0 := hq0
  rfl
theorem law19_OccupancyConflictIsCommon_p18_congr {R : Type} (n : Nat) (w3 : Int) (h42 : Int) (h332 : Int) (h472 : Bool) (h473 : Int) (w39 : Int) (w34 : List (List D)) (w37 : List (List D)) {k0 kk0 : Bool → Int → Option R} {k1 kk1 : Bool → Option R} (hq0 : ∀ x0 x1, k0 x0 x1 = kk0 x0 x1) (hq1 : ∀ x0, k1 x0 = kk1 x0) : law19_OccupancyConflictIsCommon_p18 n w3 h42 h332 h472 h473 w39 w34 w37 k0 k1 = law19_OccupancyConflictIsCommon_p18 n w3 h42 h332 h472 h473 w39 w34 w37 kk0 kk1 := by
  obtain rfl : k0 = kk0 := funext fun x0 => funext fun x1 => hq0 x0 x1
  obtain rfl : k1 = kk1 := funext fun x0 => hq1 x0
  rfl
theorem law19_OccupancyConflictIsCommon_p19_congr {R : Type} (n : Nat) (w3 : Int) (h42 : Int) (h332 : Int) (w39 : Int) (w34 : List (List D)) (w37 : List (List D)) {k0 kk0 : Bool → Int → Bool → Option R} (hq0 : ∀ x0 x1 x2, k0 x0 x1 x2 = kk0 x0 x1 x2) : law19_OccupancyConflictIsCommon_p19 n w3 h42 h332 w39 w34 w37 k0 = law19_OccupancyConflictIsCommon_p19 n w3 h42 h332 w39 w34 w37 kk0 := by
  obtain rfl : k0 = kk0 := funext fun x0 => funext fun x1 => funext fun x2 => hq0 x0 x1 x2
  rfl
theorem law19_OccupancyConflictIsCommon_p20_congr {R : Type} (n : Nat) (w3 : Int) (h42 : Int) (h332 : Int) (w39 : Int) (w34 : List (List D)) (w37 : List (List D)) {k0 kk0 : Bool → Int → Bool → Option R} (hq0 : ∀ x0 x1 x2, k0 x0 x1 x2 = kk0 x0 x1 x2) : law19_OccupancyConflictIsCommon_p20 n w3 h42 h332 w39 w34 w37 k0 = law19_OccupancyConflictIsCommon_p20 n w3 h42 h332 w39 w34 w37 kk0 := by
  obtain rfl : k0 = kk0 := funext fun x0 => funext fun x1 => funext fun x2 => hq0 x0 x1 x2
  rfl
theorem law19_OccupancyConflictIsCommon_p21_congr {R : Type} (n : Nat) (w3 : Int) (h42 : Int) (h332 : Int) (w39 : Int) (w34 : List (List D)) (w37 : List (List D)) {k0 kk0 : Bool → Int → Bool → Option R} (hq0 : ∀ x0 x1 x2, k0 x0 x1 x2 = kk0 x0 x1 x2) : law19_OccupancyConflictIsCommon_p21 n w3 h42 h332 w39 w34 w37 k0 = law19_OccupancyConflictIsCommon_p21 n w3 h42 h332 w39 w34 w37 kk0 := by
  obtain rfl : k0 = kk0 := funext fun x0 => funext fun x1 => funext fun x2 => hq0 x0 x1 x2
  rfl
theorem law19_OccupancyConflictIsCommon_p22_congr {R : Type} (n : Nat) (w3 : Int) (h42 : Int) (h332 : Int) (w529 : Bool) (w530 : Int) (w39 : Int) (w531 : Bool) (w34 : List (List D)) (w37 : List (List D)) {k0 kk0 : Option R} (hq0 : k0 = kk0) : law19_OccupancyConflictIsCommon_p22 n w3 h42 h332 w529 w530 w39 w531 w34 w37 k0 = law19_OccupancyConflictIsCommon_p22 n w3 h42 h332 w529 w530 w39 w531 w34 w37 kk0 := by
  obtain rfl : k0 = kk0 := hq0
  rfl
theorem law19_OccupancyConflictIsCommon_p23_congr {R : Type} (n : Nat) (w3 : Int) (h42 : Int) (h332 : Int) (w529 : Bool) (w39 : Int) (w34 : List (List D)) (w37 : List (List D)) {k0 kk0 : Int → Option R} (hq0 : ∀ x0, k0 x0 = kk0 x0) : law19_OccupancyConflictIsCommon_p23 n w3 h42 h332 w529 w39 w34 w37 k0 = law19_OccupancyConflictIsCommon_p23 n w3 h42 h332 w529 w39 w34 w37 kk0 := by
  obtain rfl : k0 = kk0 := funext fun x0 => hq0 x0
  rfl
theorem law19_OccupancyConflictIsCommon_p24_congr {R : Type} (n : Nat) (w3 : Int) (h42 : Int) (h332 : Int) (w529 : Bool) (h538 : Bool) (w39 : Int) (w533 : Int) (h542 : Int) (w34 : List (List D)) (w37 : List (List D)) {k0 kk0 : Bool → Int → Option R} {k1 kk1 : Bool → Option R} (hq0 : ∀ x0 x1, k0 x0 x1 = kk0 x0 x1) (hq1 : ∀ x0, k1 x0 = kk1 x0) : law19_OccupancyConflictIsCommon_p24 n w3 h42 h332 w529 h538 w39 w533 h542 w34 w37 k0 k1 = law19_OccupancyConflictIsCommon_p24 n w3 h42 h332 w529 h538 w39 w533 h542 w34 w37 kk0 kk1 := by
  obtain rfl : k0 = kk0 := funext fun x0 => funext fun x1 => hq0 x0 x1
  obtain rfl : k1 = kk1 := funext fun x0 => hq1 x0
  rfl
theorem law19_OccupancyConflictIsCommon_p25_congr {R : Type} (n : Nat) (w3 : Int) (h42 : Int) (h332 : Int) (w529 : Bool) (w39 : Int) (w533 : Int) (w34 : List (List D)) (w37 : List (List D)) {k0 kk0 : Bool → Int → Bool → Option R} (hq0 : ∀ x0 x1 x2, k0 x0 x1 x2 = kk0 x0 x1 x2) : law19_OccupancyConflictIsCommon_p25 n w3 h42 h332 w529 w39 w533 w34 w37 k0 = law19_OccupancyConflictIsCommon_p25 n w3 h42 h332 w529 w39 w533 w34 w37 kk0 := by
  obtain rfl : k0 = kk0 := funext fun x0 => funext fun x1 => funext fun x2 => hq0 x0 x1 x2
  rfl
theorem law19_OccupancyConflictIsCommon_p26_congr {R : Type} (n : Nat) (w3 : Int) (h42 : Int) (h332 : Int) (w529 : Bool) (w39 : Int) (w533 : Int) (w34 : List (List D)) (w37 : List (List D)) {k0 kk0 : Bool → Int → Bool → Option R} (hq0 : ∀ x0 x1 x2, k0 x0 x1 x2 = kk0 x0 x1 x2) : law19_OccupancyConflictIsCommon_p26 n w3 h42 h332 w529 w39 w533 w34 w37 k0 = law19_OccupancyConflictIsCommon_p26 n w3 h42 h332 w529 w39 w533 w34 w37 kk0 := by
  obtain rfl : k0 = kk0 := funext fun x0 => funext fun x1 => funext fun x2 => hq0 x0 x1 x2
  rfl
theorem law19_OccupancyConflictIsCommon_p27_congr {R : Type} (n : Nat) (w3 : Int) (h42 : Int) (h332 : Int) (w529 : Bool) (w39 : Int) (w34 : List (List D)) (w37 : List (List D)) {k0 kk0 : Bool → Int → Int → Bool → Option R} (hq0 : ∀ x0 x1 x2 x3, k0 x0 x1 x2 x3 = kk0 x0 x1 x2 x3) : law19_OccupancyConflictIsCommon_p27 n w3 h42 h332 w529 w39 w34 w37 k0 = law19_OccupancyConflictIsCommon_p27 n w3 h42 h332 w529 w39 w34 w37 kk0 := by
  obtain rfl : k0 = kk0 := funext fun x0 => funext fun x1 => funext fun x2 => funext fun x3 => hq0 x0 x1 x2 x3
  rfl
theorem law19_OccupancyConflictIsCommon_p28_congr {R : Type} (n : Nat) (w3 : Int) (h42 : Int) (h332 : Int) (w529 : Bool) (w572 : Bool) (w39 : Int) (w573 : Int) (w574 : Int) (w575 : Bool) (w34 : List (List D)) (w37 : List (List D)) {k0 kk0 : Option R} {k1 kk1 : Bool → Option R} (hq0 : k0 = kk0) (hq1 : ∀ x0, k1 x0 = kk1 x0) : law19_OccupancyConflictIsCommon_p28 n w3 h42 h332 w529 w572 w39 w573 w574 w575 w34 w37 k0 k1 = law19_OccupancyConflictIsCommon_p28 n w3 h42 h332 w529 w572 w39 w573 w574 w575 w34 w37 kk0 kk1 := by
  obtain rfl : k0 = kk0 := hq0
  obtain rfl : k1 = kk1 := funext fun x0 => hq1 x0
  rfl
theorem law19_OccupancyConflictIsCommon_p29_congr {R : Type} (n : Nat) (w3 : Int) (h42 : Int) (h332 : Int) (w529 : Bool) (w39 : Int) (w34 : List (List D)) (w37 : List (List D)) {k0 kk0 : Option R} {k1 kk1 : Bool → Option R} (hq0 : k0 = kk0) (hq1 : ∀ x0, k1 x0 = kk1 x0) : law19_OccupancyConflictIsCommon_p29 n w3 h42 h332 w529 w39 w34 w37 k0 k1 = law19_OccupancyConflictIsCommon_p29 n w3 h42 h332 w529 w39 w34 w37 kk0 kk1 := by
  obtain rfl : k0 = kk0 := hq0
  obtain rfl : k1 = kk1 := funext fun x0 => hq1 x0
  rfl
theorem law19_OccupancyConflictIsCommon_p30_congr {R : Type} (n : Nat) (w3 : Int) (h42 : Int) (h332 : Int) (w529 : Bool) (w530 : Int) (w39 : Int) (w531 : Bool) (w34 : List (List D)) (w37 : List (List D)) {k0 kk0 : Option R} {k1 kk1 : Bool → Option R} (hq0 : k0 = kk0) (hq1 : ∀ x0, k1 x0 = kk1 x0) : law19_OccupancyConflictIsCommon_p30 n w3 h42 h332 w529 w530 w39 w531 w34 w37 k0 k1 = law19_OccupancyConflictIsCommon_p30 n w3 h42 h332 w529 w530 w39 w531 w34 w37 kk0 kk1 := by
  obtain rfl : k0 = kk0 := hq0
  obtain rfl : k1 = kk1 := funext fun x0 => hq1 x0
  rfl
theorem law19_OccupancyConflictIsCommon_p31_congr {R : Type} (n : Nat) (w3 : Int) (h42 : Int) (h332 : Int) (w39 : Int) (w34 : List (List D)) (w37 : List (List D)) {k0 kk0 : Option R} {k1 kk1 : Bool → Option R} (hq0 : k0 = kk0) (hq1 : ∀ x0, k1 x0 = kk1 x0) : law19_OccupancyConflictIsCommon_p31 n w3 h42 h332 w39 w34 w37 k0 k1 = law19_OccupancyConflictIsCommon_p31 n w3 h42 h332 w39 w34 w37 kk0 kk1 := by
  obtain rfl : k0 = kk0 := hq0
  obtain rfl : k1 = kk1 := funext fun x0 => hq1 x0
  rfl
theorem law19_OccupancyConflictIsCommon_p32_congr {R : Type} (n : Nat) (w3 : Int) (h42 : Int) (h332 : Int) (w39 : Int) (w468 : Bool) (w34 : List (List D)) (w37 : List (List D)) {k0 kk0 : Option R} {k1 kk1 : Bool → Option R} (hq0 : k0 = kk0) (hq1 : ∀ x0, k1 x0 = kk1 x0) : law19_OccupancyConflictIsCommon_p32 n w3 h42 h332 w39 w468 w34 w37 k0 k1 = law19_OccupancyConflictIsCommon_p32 n w3 h42 h332 w39 w468 w34 w37 kk0 kk1 := by
  obtain rfl : k0 = kk0 := hq0
  obtain rfl : k1 = kk1 := funext fun x0 => hq1 x0
  rfl
theorem law19_OccupancyConflictIsCommon_p33_congr {R : Type} (n : Nat) (w3 : Int) (h42 : Int) (h332 : Int) (w39 : Int) (w468 : Bool) (w34 : List (List D)) (w37 : List (List D)) {k0 kk0 : Option R} {k1 kk1 : Bool → Option R} (hq0 : k0 = kk0) (hq1 : ∀ x0, k1 x0 = kk1 x0) : law19_OccupancyConflictIsCommon_p33 n w3 h42 h332 w39 w468 w34 w37 k0 k1 = law19_OccupancyConflictIsCommon_p33 n w3 h42 h332 w39 w468 w34 w37 kk0 kk1 := by
  obtain rfl : k0 = kk0 := hq0
  obtain rfl : k1 = kk1 := funext fun x0 => hq1 x0
  rfl
theorem law19_OccupancyConflictIsCommon_p34_congr {R : Type} (n : Nat) (w3 : Int) (h42 : Int) (h332 : Int) (w39 : Int) (w590 : Bool) (w34 : List (List D)) (w37 : List (List D)) {k0 kk0 : Int → Option R} (hq0 : ∀ x0, k0 x0 = kk0 x0) : law19_OccupancyConflictIsCommon_p34 n w3 h42 h332 w39 w590 w34 w37 k0 = law19_OccupancyConflictIsCommon_p34 n w3 h42 h332 w39 w590 w34 w37 kk0 := by
  obtain rfl : k0 = kk0 := funext fun x0 => hq0 x0
  rfl
theorem law19_OccupancyConflictIsCommon_p35_congr {R : Type} (n : Nat) (w3 : Int) (h42 : Int) (h332 : Int) (w39 : Int) (w468 : Bool) (w34 : List (List D)) (w37 : List (List D)) {k0 kk0 : Option R} {k1 kk1 : Int → Option R} (hq0 : k0 = kk0) (hq1 : ∀ x0, k1 x0 = kk1 x0) : law19_OccupancyConflictIsCommon_p35 n w3 h42 h332 w39 w468 w34 w37 k0 k1 = law19_OccupancyConflictIsCommon_p35 n w3 h42 h332 w39 w468 w34 w37 kk0 kk1 := by
  obtain rfl : k0 = kk0 := hq0
  obtain rfl : k1 = kk1 := funext fun x0 => hq1 x0
  rfl
theorem law19_OccupancyConflictIsCommon_p36_congr {R : Type} (n : Nat) (w3 : Int) (h42 : Int) (h332 : Int) (w39 : Int) (w34 : List (List D)) (w37 : List (List D)) {k0 kk0 : Option R} {k1 kk1 : Int → Option R} {k2 kk2 : Bool → Option R} (hq0 : k0 = kk0) (hq1 : ∀ x0, k1 x0 = kk1 x0) (hq2 : ∀ x0, k2 x0 = kk2 x0) : law19_OccupancyConflictIsCommon_p36 n w3 h42 h332 w39 w34 w37 k0 k1 k2 = law19_OccupancyConflictIsCommon_p36 n w3 h42 h332 w39 w34 w37 kk0 kk1 kk2 := by
  obtain rfl : k0 = kk0 := hq0
  obtain rfl : k1 = kk1 := funext fun x0 => hq1 x0
  obtain rfl : k2 = kk2 := funext fun x0 => hq2 x0
  rfl
theorem law19_OccupancyConflictIsCommon_p37_congr {R : Type} (n : Nat) (w3 : Int) (h42 : Int) (w39 : Int) (w34 : List (List D)) (w37 : List (List D)) {k0 kk0 : Option R} {k1 kk1 : Int → Bool → Option R} (hq0 : k0 = kk0) (hq1 : ∀ x0 x1, k1 x0 x1 = kk1 x0 x1) : law19_OccupancyConflictIsCommon_p37 n w3 h42 w39 w34 w37 k0 k1 = law19_OccupancyConflictIsCommon_p37 n w3 h42 w39 w34 w37 kk0 kk1 := by
  obtain rfl : k0 = kk0 := hq0
  obtain rfl : k1 = kk1 := funext fun x0 => funext fun x1 => hq1 x0 x1
  rfl
theorem law19_OccupancyConflictIsCommon_p38_congr {R : Type} (n : Nat) (w3 : Int) (h42 : Int) (w39 : Int) (w34 : List (List D)) (w37 : List (List D)) {k0 kk0 : Option R} {k1 kk1 : Int → Bool → Option R} (hq0 : k0 = kk0) (hq1 : ∀ x0 x1, k1 x0 x1 = kk1 x0 x1) : law19_OccupancyConflictIsCommon_p38 n w3 h42 w39 w34 w37 k0 k1 = law19_OccupancyConflictIsCommon_p38 n w3 h42 w39 w34 w37 kk0 kk1 := by
  obtain rfl : k0 = kk0 := hq0
  obtain rfl : k1 = kk1 := funext fun x0 => funext fun x1 => hq1 x0 x1
  rfl
theorem law19_OccupancyConflictIsCommon_p39_congr {R : Type} (n : Nat) (w3 : Int) (h42 : Int) (w39 : Int) (w34 : List (List D)) (w37 : List (List D)) {k0 kk0 : Option R} {k1 kk1 : Int → Bool → Option R} (hq0 : k0 = kk0) (hq1 : ∀ x0 x1, k1 x0 x1 = kk1 x0 x1) : law19_OccupancyConflictIsCommon_p39 n w3 h42 w39 w34 w37 k0 k1 = law19_OccupancyConflictIsCommon_p39 n w3 h42 w39 w34 w37 kk0 kk1 := by
  obtain rfl : k0 = kk0 := hq0
  obtain rfl : k1 = kk1 := funext fun x0 => funext fun x1 => hq1 x0 x1
  rfl
theorem law19_OccupancyConflictIsCommon_p40_congr {R : Type} (n : Nat) (w3 : Int) (w39 : Int) (h42 : Int) (w329 : Bool) (w34 : List (List D)) (w37 : List (List D)) {k0 kk0 : Option R} {k1 kk1 : Int → Bool → Option R} (hq0 : k0 = kk0) (hq1 : ∀ x0 x1, k1 x0 x1 = kk1 x0 x1) : law19_OccupancyConflictIsCommon_p40 n w3 w39 h42 w329 w34 w37 k0 k1 = law19_OccupancyConflictIsCommon_p40 n w3 w39 h42 w329 w34 w37 kk0 kk1 := by
  obtain rfl : k0 = kk0 := hq0
  obtain rfl : k1 = kk1 := funext fun x0 => funext fun x1 => hq1 x0 x1
  rfl
theorem law19_OccupancyConflictIsCommon_p41_congr {R : Type} (n : Nat) (w3 : Int) (w39 : Int) (h42 : Int) (w329 : Bool) (w34 : List (List D)) (w37 : List (List D)) {k0 kk0 : Option R} {k1 kk1 : Int → Bool → Option R} (hq0 : k0 = kk0) (hq1 : ∀ x0 x1, k1 x0 x1 = kk1 x0 x1) : law19_OccupancyConflictIsCommon_p41 n w3 w39 h42 w329 w34 w37 k0 k1 = law19_OccupancyConflictIsCommon_p41 n w3 w39 h42 w329 w34 w37 kk0 kk1 := by
  obtain rfl : k0 = kk0 := hq0
  obtain rfl : k1 = kk1 := funext fun x0 => funext fun x1 => hq1 x0 x1
  rfl
theorem law19_OccupancyConflictIsCommon_p42_congr {R : Type} (n : Nat) (w3 : Int) (h42 : Int) (w605 : Int) (w39 : Int) (w606 : Bool) (w34 : List (List D)) (w37 : List (List D)) {k0 kk0 : Int → Option R} (hq0 : ∀ x0, k0 x0 = kk0 x0) : law19_OccupancyConflictIsCommon_p42 n w3 h42 w605 w39 w606 w34 w37 k0 = law19_OccupancyConflictIsCommon_p42 n w3 h42 w605 w39 w606 w34 w37 kk0 := by
  obtain rfl : k0 = kk0 := funext fun x0 => hq0 x0
  rfl
theorem law19_OccupancyConflictIsCommon_p43_congr {R : Type} (n : Nat) (w3 : Int) (w39 : Int) (h42 : Int) (w329 : Bool) (w34 : List (List D)) (w37 : List (List D)) {k0 kk0 : Option R} {k1 kk1 : Int → Option R} (hq0 : k0 = kk0) (hq1 : ∀ x0, k1 x0 = kk1 x0) : law19_OccupancyConflictIsCommon_p43 n w3 w39 h42 w329 w34 w37 k0 k1 = law19_OccupancyConflictIsCommon_p43 n w3 w39 h42 w329 w34 w37 kk0 kk1 := by
  obtain rfl : k0 = kk0 := hq0
  obtain rfl : k1 = kk1 := funext fun x0 => hq1 x0
  rfl
theorem law19_OccupancyConflictIsCommon_p44_congr {R : Type} (n : Nat) (w3 : Int) (w39 : Int) (h42 : Int) (w329 : Bool) (w34 : List (List D)) (w37 : List (List D)) {k0 kk0 : Option R} {k1 kk1 : Int → Option R} {k2 kk2 : Option R} (hq0 : k0 = kk0) (hq1 : ∀ x0, k1 x0 = kk1 x0) (hq2 : k2 = kk2) : law19_OccupancyConflictIsCommon_p44 n w3 w39 h42 w329 w34 w37 k0 k1 k2 = law19_OccupancyConflictIsCommon_p44 n w3 w39 h42 w329 w34 w37 kk0 kk1 kk2 := by
  obtain rfl : k0 = kk0 := hq0
  obtain rfl : k1 = kk1 := funext fun x0 => hq1 x0
  obtain rfl : k2 = kk2 := hq2
  rfl
theorem law19_OccupancyConflictIsCommon_p45_congr {R : Type} (n : Nat) (w3 : Int) (w39 : Int) (h42 : Int) (w34 : List (List D)) (w37 : List (List D)) {k0 kk0 : Option R} {k1 kk1 : Int → Option R} {k2 kk2 : Bool → Option R} (hq0 : k0 = kk0) (hq1 : ∀ x0, k1 x0 = kk1 x0) (hq2 : ∀ x0, k2 x0 = kk2 x0) : law19_OccupancyConflictIsCommon_p45 n w3 w39 h42 w34 w37 k0 k1 k2 = law19_OccupancyConflictIsCommon_p45 n w3 w39 h42 w34 w37 kk0 kk1 kk2 := by
  obtain rfl : k0 = kk0 := hq0
  obtain rfl : k1 = kk1 := funext fun x0 => hq1 x0
  obtain rfl : k2 = kk2 := funext fun x0 => hq2 x0
  rfl
theorem law19_OccupancyConflictIsCommon_p46_congr {R : Type} (n : Nat) (w3 : Int) (w39 : Int) (w34 : List (List D)) (w37 : List (List D)) {k0 kk0 : Option R} {k1 kk1 : Int → Bool → Option R} (hq0 : k0 = kk0) (hq1 : ∀ x0 x1, k1 x0 x1 = kk1 x0 x1) : law19_OccupancyConflictIsCommon_p46 n w3 w39 w34 w37 k0 k1 = law19_OccupancyConflictIsCommon_p46 n w3 w39 w34 w37 kk0 kk1 := by
  obtain rfl : k0 = kk0 := hq0
  obtain rfl : k1 = kk1 := funext fun x0 => funext fun x1 => hq1 x0 x1
  rfl
theorem law19_OccupancyConflictIsCommon_p47_congr {R : Type} (n : Nat) (w3 : Int) (w39 : Int) (w34 : List (List D)) (w37 : List (List D)) {k0 kk0 : Option R} {k1 kk1 : Int → Bool → Option R} (hq0 : k0 = kk0) (hq1 : ∀ x0 x1, k1 x0 x1 = kk1 x0 x1) : law19_OccupancyConflictIsCommon_p47 n w3 w39 w34 w37 k0 k1 = law19_OccupancyConflictIsCommon_p47 n w3 w39 w34 w37 kk0 kk1 := by
  obtain rfl : k0 = kk0 := hq0
  obtain rfl : k1 = kk1 := funext fun x0 => funext fun x1 => hq1 x0 x1
  rfl
theorem law19_OccupancyConflictIsCommon_p48_congr {R : Type} (n : Nat) (w3 : Int) (w34 : List (List D)) (w37 : List (List D)) {k0 kk0 : Option R} {k1 kk1 : Int → Int → Bool → Option R} (hq0 : k0 = kk0) (hq1 : ∀ x0 x1 x2, k1 x0 x1 x2 = kk1 x0 x1 x2) : law19_OccupancyConflictIsCommon_p48 n w3 w34 w37 k0 k1 = law19_OccupancyConflictIsCommon_p48 n w3 w34 w37 kk0 kk1 := by
  obtain rfl : k0 = kk0 := hq0
  obtain rfl : k1 = kk1 := funext fun x0 => funext fun x1 => funext fun x2 => hq1 x0 x1 x2
  rfl
theorem law19_OccupancyConflictIsCommon_p49_congr {R : Type} (n : Nat) (w3 : Int) (w617 : Int) (w618 : Int) (w619 : Bool) (w34 : List (List D)) (w37 : List (List D)) {k0 kk0 : Bool → Option R} (hq0 : ∀ x0, k0 x0 = kk0 x0) : law19_OccupancyConflictIsCommon_p49 n w3 w617 w618 w619 w34 w37 k0 = law19_OccupancyConflictIsCommon_p49 n w3 w617 w618 w619 w34 w37 kk0 := by
  obtain rfl : k0 = kk0 := funext fun x0 => hq0 x0
  rfl
theorem law19_OccupancyConflictIsCommon_p50_congr {R : Type} (n : Nat) (w3 : Int) (w34 : List (List D)) (w37 : List (List D)) {k0 kk0 : Bool → Option R} (hq0 : ∀ x0, k0 x0 = kk0 x0) : law19_OccupancyConflictIsCommon_p50 n w3 w34 w37 k0 = law19_OccupancyConflictIsCommon_p50 n w3 w34 w37 kk0 := by
  obtain rfl : k0 = kk0 := funext fun x0 => hq0 x0
  rfl
theorem law19_OccupancyConflictIsCommon_p51_congr {R : Type} (n : Nat) (w3 : Int) (w31 : Int) (w32 : Int) (w33 : Bool) (w34 : List (List D)) {k0 kk0 : Bool → Option R} (hq0 : ∀ x0, k0 x0 = kk0 x0) : law19_OccupancyConflictIsCommon_p51 n w3 w31 w32 w33 w34 k0 = law19_OccupancyConflictIsCommon_p51 n w3 w31 w32 w33 w34 kk0 := by
  obtain rfl : k0 = kk0 := funext fun x0 => hq0 x0
  rfl
theorem law19_OccupancyConflictIsCommon_p52_congr {R : Type} (n : Nat) (w3 : Int) (w5 : List (List D)) {k0 kk0 : Bool → Option R} (hq0 : ∀ x0, k0 x0 = kk0 x0) : law19_OccupancyConflictIsCommon_p52 n w3 w5 k0 = law19_OccupancyConflictIsCommon_p52 n w3 w5 kk0 := by
  obtain rfl : k0 = kk0 := funext fun x0 => hq0 x0
  rfl
theorem law19_OccupancyConflictIsCommon_p53_congr {R : Type} (n : Nat) (w3 : Int) (a1 : List (List D)) {k0 kk0 : Bool → Option R} (hq0 : ∀ x0, k0 x0 = kk0 x0) : law19_OccupancyConflictIsCommon_p53 n w3 a1 k0 = law19_OccupancyConflictIsCommon_p53 n w3 a1 kk0 := by
  obtain rfl : k0 = kk0 := funext fun x0 => hq0 x0
  rfl
theorem law19_OccupancyConflictIsCommon_p54_congr {R : Type} (n : Nat) (a0 : Int) (a1 : List (List D)) {k0 kk0 : Bool → Option R} (hq0 : ∀ x0, k0 x0 = kk0 x0) : law19_OccupancyConflictIsCommon_p54 n a0 a1 k0 = law19_OccupancyConflictIsCommon_p54 n a0 a1 kk0 := by
  obtain rfl : k0 = kk0 := funext fun x0 => hq0 x0
  rfl
theorem law19_OccupancyConflictIsCommon_p55_congr {R : Type} (n : Nat) (a0 : Int) (a1 : List (List D)) {k0 kk0 : Bool → Option R} (hq0 : ∀ x0, k0 x0 = kk0 x0) : law19_OccupancyConflictIsCommon_p55 n a0 a1 k0 = law19_OccupancyConflictIsCommon_p55 n a0 a1 kk0 := by
  obtain rfl : k0 = kk0 := funext fun x0 => hq0 x0
  rfl
theorem law19_OccupancyConflictIsCommon_p1_eq {R : Type} (n : Nat) (a0 : Int) (a1 : List (List D)) (k : Exit → St → Option R) : vexec (law19_OccupancyConflictIsCommon_C n) n law19_OccupancyConflictIsCommon_c1 ⟨118, [(0, .d (D.int .i64 a0)), (1, .d (D.sl 1 a1))], []⟩ k = law19_OccupancyConflictIsCommon_p1 n a0 a1 (k .normal ⟨118, [(0, .d (D.int .i64 a0)), (1, .d (D.sl 1 a1))], []⟩) := by kernel_rfl
theorem law19_OccupancyConflictIsCommon_p2_eq {R : Type} (n : Nat) (a0 : Int) (a1 : List (List D)) (k : Exit → St → Option R) : vexec (law19_OccupancyConflictIsCommon_C n) n law19_OccupancyConflictIsCommon_c2 ⟨118, [(0, .d (D.int .i64 a0)), (1, .d (D.sl 1 a1))], []⟩ k = law19_OccupancyConflictIsCommon_p2 n a0 a1 (fun z2 => k .normal ⟨118, [(0, .d (D.int .i64 z2)), (1, .d (D.sl 1 a1))], []⟩) := by kernel_rfl
theorem law19_OccupancyConflictIsCommon_p3_eq {R : Type} (n : Nat) (w3 : Int) (a1 : List (List D)) (k : Exit → St → Option R) : vexec (law19_OccupancyConflictIsCommon_C n) n law19_OccupancyConflictIsCommon_c3 ⟨118, [(0, .d (D.int .i64 w3)), (1, .d (D.sl 1 a1))], []⟩ k = law19_OccupancyConflictIsCommon_p3 n w3 a1 (fun r4 => k .normal ⟨118, [(0, .d (D.int .i64 w3)), (5, .arr 100018)], [(100018, .arr 31 5 r4)]⟩) := by kernel_rfl
theorem law19_OccupancyConflictIsCommon_p4_eq {R : Type} (n : Nat) (w3 : Int) (w5 : List (List D)) (k : Exit → St → Option R) : vexec (law19_OccupancyConflictIsCommon_C n) n law19_OccupancyConflictIsCommon_c4 ⟨118, [(0, .d (D.int .i64 w3)), (5, .arr 100018)], [(100018, .arr 31 5 w5)]⟩ k = law19_OccupancyConflictIsCommon_p4 n w3 w5 (fun z6 => k .normal ⟨118, [(0, .d (D.int .i64 w3)), (5, .arr 100018), (20, .d (D.int .i64 z6)), (21, .d (D.int .i64 (0 : Int)))], [(100018, .arr 31 5 w5)]⟩) := by kernel_rfl
theorem law19_OccupancyConflictIsCommon_p5_eq {R : Type} (n : Nat) (w3 : Int) (w7 : Int) (h10 : Int) (h11 : List (List D)) (k : Exit → St → Option R) : vexec (law19_OccupancyConflictIsCommon_C n) n law19_OccupancyConflictIsCommon_c5 ⟨118, [(0, .d (D.int .i64 w3)), (5, .arr 100018), (20, .d (D.int .i64 w7)), (21, .d (D.int .i64 h10))], [(100018, .arr 31 5 h11)]⟩ k = law19_OccupancyConflictIsCommon_p5 n w3 w7 h10 h11 (fun z19 z20 => k .normal ⟨118, [(0, .d (D.int .i64 w3)), (5, .arr 100018), (20, .d (D.int .i64 w7)), (21, .d (D.int .i64 z19))], [(100018, .arr 31 5 z20)]⟩) (fun z21 => k (.exit 0) ⟨118, [(0, .d (D.int .i64 w3)), (5, .arr 100018), (20, .d (D.int .i64 w7)), (21, .d (D.int .i64 h10)), (22, .d (D.bool z21))], [(100018, .arr 31 5 h11)]⟩) := by kernel_rfl
theorem law19_OccupancyConflictIsCommon_r6_eq {R : Type} (n : Nat) (w3 : Int) (w7 : Int) (k : Exit → St → Option R) : ∀ (m : Nat) (h10 : Int) (h11 : List (List D)), loopN (vexec (law19_OccupancyConflictIsCommon_C n) n law19_OccupancyConflictIsCommon_c5) m ⟨118, [(0, .d (D.int .i64 w3)), (5, .arr 100018), (20, .d (D.int .i64 w7)), (21, .d (D.int .i64 h10))], [(100018, .arr 31 5 h11)]⟩ k = law19_OccupancyConflictIsCommon_r6 n w3 w7 (fun h10 w24 h11 => k (.exit 0) ⟨118, [(0, .d (D.int .i64 w3)), (5, .arr 100018), (20, .d (D.int .i64 w7)), (21, .d (D.int .i64 h10)), (22, .d (D.bool w24))], [(100018, .arr 31 5 h11)]⟩) m h10 h11
  | 0, _, _ => rfl
  | m + 1, h10, h11 => (law19_OccupancyConflictIsCommon_p5_eq n w3 w7 h10 h11 (loopK (vexec (law19_OccupancyConflictIsCommon_C n) n law19_OccupancyConflictIsCommon_c5) m k)).trans (law19_OccupancyConflictIsCommon_p5_congr n w3 w7 h10 h11 (fun w22 w23 => law19_OccupancyConflictIsCommon_r6_eq n w3 w7 k m w22 w23) (fun w24 => rfl))
theorem law19_OccupancyConflictIsCommon_p6_eq {R : Type} (n : Nat) (w3 : Int) (w7 : Int) (w5 : List (List D)) (k : Exit → St → Option R) : vexec (law19_OccupancyConflictIsCommon_C n) n law19_OccupancyConflictIsCommon_c6 ⟨118, [(0, .d (D.int .i64 w3)), (5, .arr 100018), (20, .d (D.int .i64 w7)), (21, .d (D.int .i64 (0 : Int)))], [(100018, .arr 31 5 w5)]⟩ k = law19_OccupancyConflictIsCommon_p6 n w3 w7 w5 (fun h10 w24 h11 => k (.exit 0) ⟨118, [(0, .d (D.int .i64 w3)), (5, .arr 100018), (20, .d (D.int .i64 w7)), (21, .d (D.int .i64 h10)), (22, .d (D.bool w24))], [(100018, .arr 31 5 h11)]⟩) := by
  rw [law19_OccupancyConflictIsCommon_c6_eq]
  exact law19_OccupancyConflictIsCommon_r6_eq n w3 w7 k n (0 : Int) w5
theorem law19_OccupancyConflictIsCommon_p7_eq {R : Type} (n : Nat) (w3 : Int) (w7 : Int) (w5 : List (List D)) (k : Exit → St → Option R) : vexec (law19_OccupancyConflictIsCommon_C n) n law19_OccupancyConflictIsCommon_c7 ⟨118, [(0, .d (D.int .i64 w3)), (5, .arr 100018), (20, .d (D.int .i64 w7)), (21, .d (D.int .i64 (0 : Int)))], [(100018, .arr 31 5 w5)]⟩ k = law19_OccupancyConflictIsCommon_p7 n w3 w7 w5 (fun w25 w26 w27 => k .normal ⟨118, [(0, .d (D.int .i64 w3)), (5, .arr 100018), (20, .d (D.int .i64 w7)), (21, .d (D.int .i64 w25)), (22, .d (D.bool w26))], [(100018, .arr 31 5 w27)]⟩) := by
  rw [law19_OccupancyConflictIsCommon_c7_eq]
  unfold law19_OccupancyConflictIsCommon_p7
  exact (law19_OccupancyConflictIsCommon_p6_eq n w3 w7 w5 (blockK 0 k)).trans (law19_OccupancyConflictIsCommon_p6_congr n w3 w7 w5 (fun w25 w26 w27 => rfl))
theorem law19_OccupancyConflictIsCommon_p8_eq {R : Type} (n : Nat) (w3 : Int) (w5 : List (List D)) (k : Exit → St → Option R) : vexec (law19_OccupancyConflictIsCommon_C n) n law19_OccupancyConflictIsCommon_c8 ⟨118, [(0, .d (D.int .i64 w3)), (5, .arr 100018)], [(100018, .arr 31 5 w5)]⟩ k = law19_OccupancyConflictIsCommon_p8 n w3 w5 (fun w7 w28 w29 w30 => k .normal ⟨118, [(0, .d (D.int .i64 w3)), (5, .arr 100018), (20, .d (D.int .i64 w7)), (21, .d (D.int .i64 w28)), (22, .d (D.bool w29))], [(100018, .arr 31 5 w30)]⟩) := by
  rw [law19_OccupancyConflictIsCommon_c8_eq]
  unfold law19_OccupancyConflictIsCommon_p8
  exact (law19_OccupancyConflictIsCommon_p4_eq n w3 w5 (seqK (law19_OccupancyConflictIsCommon_C n) n law19_OccupancyConflictIsCommon_c7 k)).trans (law19_OccupancyConflictIsCommon_p4_congr n w3 w5 (fun w7 => law19_OccupancyConflictIsCommon_p7_eq n w3 w7 w5 k))
theorem law19_OccupancyConflictIsCommon_p9_eq {R : Type} (n : Nat) (w3 : Int) (w31 : Int) (w32 : Int) (w33 : Bool) (w34 : List (List D)) (k : Exit → St → Option R) : vexec (law19_OccupancyConflictIsCommon_C n) n law19_OccupancyConflictIsCommon_c9 ⟨118, [(0, .d (D.int .i64 w3)), (5, .arr 100018), (20, .d (D.int .i64 w31)), (21, .d (D.int .i64 w32)), (22, .d (D.bool w33))], [(100018, .arr 31 5 w34)]⟩ k = law19_OccupancyConflictIsCommon_p9 n w3 w31 w32 w33 w34 (fun r35 => k .normal ⟨118, [(0, .d (D.int .i64 w3)), (5, .arr 100018), (7, .arr 100032)], [(100018, .arr 31 5 w34), (100032, .arr 35 2 r35)]⟩) := by kernel_rfl
theorem law19_OccupancyConflictIsCommon_p10_eq {R : Type} (n : Nat) (w3 : Int) (w34 : List (List D)) (w37 : List (List D)) (k : Exit → St → Option R) : vexec (law19_OccupancyConflictIsCommon_C n) n law19_OccupancyConflictIsCommon_c10 ⟨118, [(0, .d (D.int .i64 w3)), (5, .arr 100018), (7, .arr 100032)], [(100018, .arr 31 5 w34), (100032, .arr 35 2 w37)]⟩ k = law19_OccupancyConflictIsCommon_p10 n w3 w34 w37 (fun z38 => k .normal ⟨118, [(0, .d (D.int .i64 w3)), (5, .arr 100018), (7, .arr 100032), (34, .d (D.int .i64 z38)), (35, .d (D.int .i64 (0 : Int)))], [(100018, .arr 31 5 w34), (100032, .arr 35 2 w37)]⟩) := by kernel_rfl
theorem law19_OccupancyConflictIsCommon_p11_eq {R : Type} (n : Nat) (w3 : Int) (w39 : Int) (h42 : Int) (w34 : List (List D)) (w37 : List (List D)) (k : Exit → St → Option R) : vexec (law19_OccupancyConflictIsCommon_C n) n law19_OccupancyConflictIsCommon_c11 ⟨118, [(0, .d (D.int .i64 w3)), (5, .arr 100018), (7, .arr 100032), (34, .d (D.int .i64 w39)), (35, .d (D.int .i64 h42))], [(100018, .arr 31 5 w34), (100032, .arr 35 2 w37)]⟩ k = law19_OccupancyConflictIsCommon_p11 n w3 w39 h42 w34 w37 (fun z328 => k .normal ⟨118, [(0, .d (D.int .i64 w3)), (5, .arr 100018), (7, .arr 100032), (34, .d (D.int .i64 w39)), (35, .d (D.int .i64 h42)), (36, .d (D.bool z328))], [(100018, .arr 31 5 w34), (100032, .arr 35 2 w37)]⟩) := by kernel_rfl
theorem law19_OccupancyConflictIsCommon_p12_eq {R : Type} (n : Nat) (w3 : Int) (w39 : Int) (h42 : Int) (w329 : Bool) (w34 : List (List D)) (w37 : List (List D)) (k : Exit → St → Option R) : vexec (law19_OccupancyConflictIsCommon_C n) n law19_OccupancyConflictIsCommon_c12 ⟨118, [(0, .d (D.int .i64 w3)), (5, .arr 100018), (7, .arr 100032), (34, .d (D.int .i64 w39)), (35, .d (D.int .i64 h42)), (36, .d (D.bool w329))], [(100018, .arr 31 5 w34), (100032, .arr 35 2 w37)]⟩ k = law19_OccupancyConflictIsCommon_p12 n w3 w39 h42 w329 w34 w37 (k .normal ⟨118, [(0, .d (D.int .i64 w3)), (5, .arr 100018), (7, .arr 100032), (34, .d (D.int .i64 w39)), (35, .d (D.int .i64 h42)), (36, .d (D.bool w329))], [(100018, .arr 31 5 w34), (100032, .arr 35 2 w37)]⟩) (k (.exit 2) ⟨118, [(0, .d (D.int .i64 w3)), (5, .arr 100018), (7, .arr 100032), (34, .d (D.int .i64 w39)), (35, .d (D.int .i64 h42)), (36, .d (D.bool w329))], [(100018, .arr 31 5 w34), (100032, .arr 35 2 w37)]⟩) := by kernel_rfl
theorem law19_OccupancyConflictIsCommon_p13_eq {R : Type} (n : Nat) (w3 : Int) (w39 : Int) (h42 : Int) (w329 : Bool) (w34 : List (List D)) (w37 : List (List D)) (k : Exit → St → Option R) : vexec (law19_OccupancyConflictIsCommon_C n) n law19_OccupancyConflictIsCommon_c13 ⟨118, [(0, .d (D.int .i64 w3)), (5, .arr 100018), (7, .arr 100032), (34, .d (D.int .i64 w39)), (35, .d (D.int .i64 h42)), (36, .d (D.bool w329))], [(100018, .arr 31 5 w34), (100032, .arr 35 2 w37)]⟩ k = law19_OccupancyConflictIsCommon_p13 n w3 w39 h42 w329 w34 w37 (k .normal ⟨118, [(0, .d (D.int .i64 w3)), (5, .arr 100018), (7, .arr 100032), (8, .d (D.int .i64 h42)), (34, .d (D.int .i64 w39)), (35, .d (D.int .i64 h42))], [(100018, .arr 31 5 w34), (100032, .arr 35 2 w37)]⟩) := by kernel_rfl
theorem law19_OccupancyConflictIsCommon_p14_eq {R : Type} (n : Nat) (w3 : Int) (h42 : Int) (w39 : Int) (w34 : List (List D)) (w37 : List (List D)) (k : Exit → St → Option R) : vexec (law19_OccupancyConflictIsCommon_C n) n law19_OccupancyConflictIsCommon_c14 ⟨118, [(0, .d (D.int .i64 w3)), (5, .arr 100018), (7, .arr 100032), (8, .d (D.int .i64 h42)), (34, .d (D.int .i64 w39)), (35, .d (D.int .i64 h42))], [(100018, .arr 31 5 w34), (100032, .arr 35 2 w37)]⟩ k = law19_OccupancyConflictIsCommon_p14 n w3 h42 w39 w34 w37 (k .normal ⟨118, [(0, .d (D.int .i64 w3)), (5, .arr 100018), (7, .arr 100032), (8, .d (D.int .i64 h42)), (9, .d (D.int .i64 (0 : Int))), (34, .d (D.int .i64 w39)), (35, .d (D.int .i64 h42))], [(100018, .arr 31 5 w34), (100032, .arr 35 2 w37)]⟩) := by kernel_rfl
theorem law19_OccupancyConflictIsCommon_p15_eq {R : Type} (n : Nat) (w3 : Int) (h42 : Int) (h332 : Int) (w39 : Int) (w34 : List (List D)) (w37 : List (List D)) (k : Exit → St → Option R) : vexec (law19_OccupancyConflictIsCommon_C n) n law19_OccupancyConflictIsCommon_c15 ⟨118, [(0, .d (D.int .i64 w3)), (5, .arr 100018), (7, .arr 100032), (8, .d (D.int .i64 h42)), (9, .d (D.int .i64 h332)), (34, .d (D.int .i64 w39)), (35, .d (D.int .i64 h42))], [(100018, .arr 31 5 w34), (100032, .arr 35 2 w37)]⟩ k = law19_OccupancyConflictIsCommon_p15 n w3 h42 h332 w39 w34 w37 (fun z466 => k .normal ⟨118, [(0, .d (D.int .i64 w3)), (5, .arr 100018), (7, .arr 100032), (8, .d (D.int .i64 h42)), (9, .d (D.int .i64 h332)), (34, .d (D.int .i64 w39)), (35, .d (D.int .i64 h42)), (40, .d (D.bool z466))], [(100018, .arr 31 5 w34), (100032, .arr 35 2 w37)]⟩) (fun z467 => k (.exit 4) ⟨118, [(0, .d (D.int .i64 w3)), (5, .arr 100018), (7, .arr 100032), (8, .d (D.int .i64 h42)), (9, .d (D.int .i64 h332)), (34, .d (D.int .i64 w39)), (35, .d (D.int .i64 h42)), (40, .d (D.bool z467))], [(100018, .arr 31 5 w34), (100032, .arr 35 2 w37)]⟩) := by kernel_rfl
theorem law19_OccupancyConflictIsCommon_p16_eq {R : Type} (n : Nat) (w3 : Int) (h42 : Int) (h332 : Int) (w39 : Int) (w468 : Bool) (w34 : List (List D)) (w37 : List (List D)) (k : Exit → St → Option R) : vexec (law19_OccupancyConflictIsCommon_C n) n law19_OccupancyConflictIsCommon_c16 ⟨118, [(0, .d (D.int .i64 w3)), (5, .arr 100018), (7, .arr 100032), (8, .d (D.int .i64 h42)), (9, .d (D.int .i64 h332)), (34, .d (D.int .i64 w39)), (35, .d (D.int .i64 h42)), (40, .d (D.bool w468))], [(100018, .arr 31 5 w34), (100032, .arr 35 2 w37)]⟩ k = law19_OccupancyConflictIsCommon_p16 n w3 h42 h332 w39 w468 w34 w37 (k .normal ⟨118, [(0, .d (D.int .i64 w3)), (5, .arr 100018), (7, .arr 100032), (8, .d (D.int .i64 h42)), (9, .d (D.int .i64 h332)), (10, .d (D.bool false)), (34, .d (D.int .i64 w39)), (35, .d (D.int .i64 h42))], [(100018, .arr 31 5 w34), (100032, .arr 35 2 w37)]⟩) := by kernel_rfl
theorem law19_OccupancyConflictIsCommon_p17_eq {R : Type} (n : Nat) (w3 : Int) (h42 : Int) (h332 : Int) (w39 : Int) (w34 : List (List D)) (w37 : List (List D)) (k : Exit → St → Option R) : vexec (law19_OccupancyConflictIsCommon_C n) n law19_OccupancyConflictIsCommon_c17 ⟨118, [(0, .d (D.int .i64 w3)), (5, .arr 100018), (7, .arr 100032), (8, .d (D.int .i64 h42)), (9, .d (D.int .i64 h332)), (10, .d (D.bool false)), (34, .d (D.int .i64 w39)), (35, .d (D.int .i64 h42))], [(100018, .arr 31 5 w34), (100032, .arr 35 2 w37)]⟩ k = law19_OccupancyConflictIsCommon_p17 n w3 h42 h332 w39 w34 w37 (k .normal ⟨118, [(0, .d (D.int .i64 w3)), (5, .arr 100018), (7, .arr 100032), (8, .d (D.int .i64 h42)), (9, .d (D.int .i64 h332)), (10, .d (D.bool false)), (11, .d (D.int .i64 (0 : Int))), (34, .d (D.int .i64 w39)), (35, .d (D.int .i64 h42))], [(100018, .arr 31 5 w34), (100032, .arr 35 2 w37)]⟩) := by kernel_rfl
theorem law19_OccupancyConflictIsCommon_p18_eq {R : Type} (n : Nat) (w3 : Int) (h42 : Int) (h332 : Int) (h472 : Bool) (h473 : Int) (w39 : Int) (w34 : List (List D)) (w37 : List (List D)) (k : Exit → St → Option R) : vexec (law19_OccupancyConflictIsCommon_C n) n law19_OccupancyConflictIsCommon_c18 ⟨118, [(0, .d (D.int .i64 w3)), (5, .arr 100018), (7, .arr 100032), (8, .d (D.int .i64 h42)), (9, .d (D.int .i64 h332)), (10, .d (D.bool h472)), (11, .d (D.int .i64 h473)), (34, .d (D.int .i64 w39)), (35, .d (D.int .i64 h42))], [(100018, .arr 31 5 w34), (100032, .arr 35 2 w37)]⟩ k = law19_OccupancyConflictIsCommon_p18 n w3 h42 h332 h472 h473 w39 w34 w37 (fun z517 z518 => k .normal ⟨118, [(0, .d (D.int .i64 w3)), (5, .arr 100018), (7, .arr 100032), (8, .d (D.int .i64 h42)), (9, .d (D.int .i64 h332)), (10, .d (D.bool z517)), (11, .d (D.int .i64 z518)), (34, .d (D.int .i64 w39)), (35, .d (D.int .i64 h42))], [(100018, .arr 31 5 w34), (100032, .arr 35 2 w37)]⟩) (fun z519 => k (.exit 6) ⟨118, [(0, .d (D.int .i64 w3)), (5, .arr 100018), (7, .arr 100032), (8, .d (D.int .i64 h42)), (9, .d (D.int .i64 h332)), (10, .d (D.bool h472)), (11, .d (D.int .i64 h473)), (34, .d (D.int .i64 w39)), (35, .d (D.int .i64 h42)), (45, .d (D.bool z519))], [(100018, .arr 31 5 w34), (100032, .arr 35 2 w37)]⟩) := by kernel_rfl
theorem law19_OccupancyConflictIsCommon_r19_eq {R : Type} (n : Nat) (w3 : Int) (h42 : Int) (h332 : Int) (w39 : Int) (w34 : List (List D)) (w37 : List (List D)) (k : Exit → St → Option R) : ∀ (m : Nat) (h472 : Bool) (h473 : Int), loopN (vexec (law19_OccupancyConflictIsCommon_C n) n law19_OccupancyConflictIsCommon_c18) m ⟨118, [(0, .d (D.int .i64 w3)), (5, .arr 100018), (7, .arr 100032), (8, .d (D.int .i64 h42)), (9, .d (D.int .i64 h332)), (10, .d (D.bool h472)), (11, .d (D.int .i64 h473)), (34, .d (D.int .i64 w39)), (35, .d (D.int .i64 h42))], [(100018, .arr 31 5 w34), (100032, .arr 35 2 w37)]⟩ k = law19_OccupancyConflictIsCommon_r19 n w3 h42 h332 w39 w34 w37 (fun h472 h473 w522 => k (.exit 6) ⟨118, [(0, .d (D.int .i64 w3)), (5, .arr 100018), (7, .arr 100032), (8, .d (D.int .i64 h42)), (9, .d (D.int .i64 h332)), (10, .d (D.bool h472)), (11, .d (D.int .i64 h473)), (34, .d (D.int .i64 w39)), (35, .d (D.int .i64 h42)), (45, .d (D.bool w522))], [(100018, .arr 31 5 w34), (100032, .arr 35 2 w37)]⟩) m h472 h473
  | 0, _, _ => rfl
  | m + 1, h472, h473 => (law19_OccupancyConflictIsCommon_p18_eq n w3 h42 h332 h472 h473 w39 w34 w37 (loopK (vexec (law19_OccupancyConflictIsCommon_C n) n law19_OccupancyConflictIsCommon_c18) m k)).trans (law19_OccupancyConflictIsCommon_p18_congr n w3 h42 h332 h472 h473 w39 w34 w37 (fun w520 w521 => law19_OccupancyConflictIsCommon_r19_eq n w3 h42 h332 w39 w34 w37 k m w520 w521) (fun w522 => rfl))
theorem law19_OccupancyConflictIsCommon_p19_eq {R : Type} (n : Nat) (w3 : Int) (h42 : Int) (h332 : Int) (w39 : Int) (w34 : List (List D)) (w37 : List (List D)) (k : Exit → St → Option R) : vexec (law19_OccupancyConflictIsCommon_C n) n law19_OccupancyConflictIsCommon_c19 ⟨118, [(0, .d (D.int .i64 w3)), (5, .arr 100018), (7, .arr 100032), (8, .d (D.int .i64 h42)), (9, .d (D.int .i64 h332)), (10, .d (D.bool false)), (11, .d (D.int .i64 (0 : Int))), (34, .d (D.int .i64 w39)), (35, .d (D.int .i64 h42))], [(100018, .arr 31 5 w34), (100032, .arr 35 2 w37)]⟩ k = law19_OccupancyConflictIsCommon_p19 n w3 h42 h332 w39 w34 w37 (fun h472 h473 w522 => k (.exit 6) ⟨118, [(0, .d (D.int .i64 w3)), (5, .arr 100018), (7, .arr 100032), (8, .d (D.int .i64 h42)), (9, .d (D.int .i64 h332)), (10, .d (D.bool h472)), (11, .d (D.int .i64 h473)), (34, .d (D.int .i64 w39)), (35, .d (D.int .i64 h42)), (45, .d (D.bool w522))], [(100018, .arr 31 5 w34), (100032, .arr 35 2 w37)]⟩) := by
  rw [law19_OccupancyConflictIsCommon_c19_eq]
  exact law19_OccupancyConflictIsCommon_r19_eq n w3 h42 h332 w39 w34 w37 k n false (0 : Int)
theorem law19_OccupancyConflictIsCommon_p20_eq {R : Type} (n : Nat) (w3 : Int) (h42 : Int) (h332 : Int) (w39 : Int) (w34 : List (List D)) (w37 : List (List D)) (k : Exit → St → Option R) : vexec (law19_OccupancyConflictIsCommon_C n) n law19_OccupancyConflictIsCommon_c20 ⟨118, [(0, .d (D.int .i64 w3)), (5, .arr 100018), (7, .arr 100032), (8, .d (D.int .i64 h42)), (9, .d (D.int .i64 h332)), (10, .d (D.bool false)), (11, .d (D.int .i64 (0 : Int))), (34, .d (D.int .i64 w39)), (35, .d (D.int .i64 h42))], [(100018, .arr 31 5 w34), (100032, .arr 35 2 w37)]⟩ k = law19_OccupancyConflictIsCommon_p20 n w3 h42 h332 w39 w34 w37 (fun w523 w524 w525 => k .normal ⟨118, [(0, .d (D.int .i64 w3)), (5, .arr 100018), (7, .arr 100032), (8, .d (D.int .i64 h42)), (9, .d (D.int .i64 h332)), (10, .d (D.bool w523)), (11, .d (D.int .i64 w524)), (34, .d (D.int .i64 w39)), (35, .d (D.int .i64 h42)), (45, .d (D.bool w525))], [(100018, .arr 31 5 w34), (100032, .arr 35 2 w37)]⟩) := by
  rw [law19_OccupancyConflictIsCommon_c20_eq]
  unfold law19_OccupancyConflictIsCommon_p20
  exact (law19_OccupancyConflictIsCommon_p19_eq n w3 h42 h332 w39 w34 w37 (blockK 6 k)).trans (law19_OccupancyConflictIsCommon_p19_congr n w3 h42 h332 w39 w34 w37 (fun w523 w524 w525 => rfl))
theorem law19_OccupancyConflictIsCommon_p21_eq {R : Type} (n : Nat) (w3 : Int) (h42 : Int) (h332 : Int) (w39 : Int) (w34 : List (List D)) (w37 : List (List D)) (k : Exit → St → Option R) : vexec (law19_OccupancyConflictIsCommon_C n) n law19_OccupancyConflictIsCommon_c21 ⟨118, [(0, .d (D.int .i64 w3)), (5, .arr 100018), (7, .arr 100032), (8, .d (D.int .i64 h42)), (9, .d (D.int .i64 h332)), (10, .d (D.bool false)), (34, .d (D.int .i64 w39)), (35, .d (D.int .i64 h42))], [(100018, .arr 31 5 w34), (100032, .arr 35 2 w37)]⟩ k = law19_OccupancyConflictIsCommon_p21 n w3 h42 h332 w39 w34 w37 (fun w526 w527 w528 => k .normal ⟨118, [(0, .d (D.int .i64 w3)), (5, .arr 100018), (7, .arr 100032), (8, .d (D.int .i64 h42)), (9, .d (D.int .i64 h332)), (10, .d (D.bool w526)), (11, .d (D.int .i64 w527)), (34, .d (D.int .i64 w39)), (35, .d (D.int .i64 h42)), (45, .d (D.bool w528))], [(100018, .arr 31 5 w34), (100032, .arr 35 2 w37)]⟩) := by
  rw [law19_OccupancyConflictIsCommon_c21_eq]
  unfold law19_OccupancyConflictIsCommon_p21
  exact (law19_OccupancyConflictIsCommon_p17_eq n w3 h42 h332 w39 w34 w37 (seqK (law19_OccupancyConflictIsCommon_C n) n law19_OccupancyConflictIsCommon_c20 k)).trans (law19_OccupancyConflictIsCommon_p17_congr n w3 h42 h332 w39 w34 w37 (law19_OccupancyConflictIsCommon_p20_eq n w3 h42 h332 w39 w34 w37 k))
theorem law19_OccupancyConflictIsCommon_p22_eq {R : Type} (n : Nat) (w3 : Int) (h42 : Int) (h332 : Int) (w529 : Bool) (w530 : Int) (w39 : Int) (w531 : Bool) (w34 : List (List D)) (w37 : List (List D)) (k : Exit → St → Option R) : vexec (law19_OccupancyConflictIsCommon_C n) n law19_OccupancyConflictIsCommon_c22 ⟨118, [(0, .d (D.int .i64 w3)), (5, .arr 100018), (7, .arr 100032), (8, .d (D.int .i64 h42)), (9, .d (D.int .i64 h332)), (10, .d (D.bool w529)), (11, .d (D.int .i64 w530)), (34, .d (D.int .i64 w39)), (35, .d (D.int .i64 h42)), (45, .d (D.bool w531))], [(100018, .arr 31 5 w34), (100032, .arr 35 2 w37)]⟩ k = law19_OccupancyConflictIsCommon_p22 n w3 h42 h332 w529 w530 w39 w531 w34 w37 (k .normal ⟨118, [(0, .d (D.int .i64 w3)), (5, .arr 100018), (7, .arr 100032), (8, .d (D.int .i64 h42)), (9, .d (D.int .i64 h332)), (10, .d (D.bool w529)), (12, .d (D.bool false)), (34, .d (D.int .i64 w39)), (35, .d (D.int .i64 h42))], [(100018, .arr 31 5 w34), (100032, .arr 35 2 w37)]⟩) := by kernel_rfl
theorem law19_OccupancyConflictIsCommon_p23_eq {R : Type} (n : Nat) (w3 : Int) (h42 : Int) (h332 : Int) (w529 : Bool) (w39 : Int) (w34 : List (List D)) (w37 : List (List D)) (k : Exit → St → Option R) : vexec (law19_OccupancyConflictIsCommon_C n) n law19_OccupancyConflictIsCommon_c23 ⟨118, [(0, .d (D.int .i64 w3)), (5, .arr 100018), (7, .arr 100032), (8, .d (D.int .i64 h42)), (9, .d (D.int .i64 h332)), (10, .d (D.bool w529)), (12, .d (D.bool false)), (34, .d (D.int .i64 w39)), (35, .d (D.int .i64 h42))], [(100018, .arr 31 5 w34), (100032, .arr 35 2 w37)]⟩ k = law19_OccupancyConflictIsCommon_p23 n w3 h42 h332 w529 w39 w34 w37 (fun z532 => k .normal ⟨118, [(0, .d (D.int .i64 w3)), (5, .arr 100018), (7, .arr 100032), (8, .d (D.int .i64 h42)), (9, .d (D.int .i64 h332)), (10, .d (D.bool w529)), (12, .d (D.bool false)), (34, .d (D.int .i64 w39)), (35, .d (D.int .i64 h42)), (84, .d (D.int .i64 z532)), (85, .d (D.int .i64 (0 : Int)))], [(100018, .arr 31 5 w34), (100032, .arr 35 2 w37)]⟩) := by kernel_rfl
theorem law19_OccupancyConflictIsCommon_p24_eq {R : Type} (n : Nat) (w3 : Int) (h42 : Int) (h332 : Int) (w529 : Bool) (h538 : Bool) (w39 : Int) (w533 : Int) (h542 : Int) (w34 : List (List D)) (w37 : List (List D)) (k : Exit → St → Option R) : vexec (law19_OccupancyConflictIsCommon_C n) n law19_OccupancyConflictIsCommon_c24 ⟨118, [(0, .d (D.int .i64 w3)), (5, .arr 100018), (7, .arr 100032), (8, .d (D.int .i64 h42)), (9, .d (D.int .i64 h332)), (10, .d (D.bool w529)), (12, .d (D.bool h538)), (34, .d (D.int .i64 w39)), (35, .d (D.int .i64 h42)), (84, .d (D.int .i64 w533)), (85, .d (D.int .i64 h542))], [(100018, .arr 31 5 w34), (100032, .arr 35 2 w37)]⟩ k = law19_OccupancyConflictIsCommon_p24 n w3 h42 h332 w529 h538 w39 w533 h542 w34 w37 (fun z560 z561 => k .normal ⟨118, [(0, .d (D.int .i64 w3)), (5, .arr 100018), (7, .arr 100032), (8, .d (D.int .i64 h42)), (9, .d (D.int .i64 h332)), (10, .d (D.bool w529)), (12, .d (D.bool z560)), (34, .d (D.int .i64 w39)), (35, .d (D.int .i64 h42)), (84, .d (D.int .i64 w533)), (85, .d (D.int .i64 z561))], [(100018, .arr 31 5 w34), (100032, .arr 35 2 w37)]⟩) (fun z562 => k (.exit 8) ⟨118, [(0, .d (D.int .i64 w3)), (5, .arr 100018), (7, .arr 100032), (8, .d (D.int .i64 h42)), (9, .d (D.int .i64 h332)), (10, .d (D.bool w529)), (12, .d (D.bool h538)), (34, .d (D.int .i64 w39)), (35, .d (D.int .i64 h42)), (84, .d (D.int .i64 w533)), (85, .d (D.int .i64 h542)), (86, .d (D.bool z562))], [(100018, .arr 31 5 w34), (100032, .arr 35 2 w37)]⟩) := by kernel_rfl
theorem law19_OccupancyConflictIsCommon_r25_eq {R : Type} (n : Nat) (w3 : Int) (h42 : Int) (h332 : Int) (w529 : Bool) (w39 : Int) (w533 : Int) (w34 : List (List D)) (w37 : List (List D)) (k : Exit → St → Option R) : ∀ (m : Nat) (h538 : Bool) (h542 : Int), loopN (vexec (law19_OccupancyConflictIsCommon_C n) n law19_OccupancyConflictIsCommon_c24) m ⟨118, [(0, .d (D.int .i64 w3)), (5, .arr 100018), (7, .arr 100032), (8, .d (D.int .i64 h42)), (9, .d (D.int .i64 h332)), (10, .d (D.bool w529)), (12, .d (D.bool h538)), (34, .d (D.int .i64 w39)), (35, .d (D.int .i64 h42)), (84, .d (D.int .i64 w533)), (85, .d (D.int .i64 h542))], [(100018, .arr 31 5 w34), (100032, .arr 35 2 w37)]⟩ k = law19_OccupancyConflictIsCommon_r25 n w3 h42 h332 w529 w39 w533 w34 w37 (fun h538 h542 w565 => k (.exit 8) ⟨118, [(0, .d (D.int .i64 w3)), (5, .arr 100018), (7, .arr 100032), (8, .d (D.int .i64 h42)), (9, .d (D.int .i64 h332)), (10, .d (D.bool w529)), (12, .d (D.bool h538)), (34, .d (D.int .i64 w39)), (35, .d (D.int .i64 h42)), (84, .d (D.int .i64 w533)), (85, .d (D.int .i64 h542)), (86, .d (D.bool w565))], [(100018, .arr 31 5 w34), (100032, .arr 35 2 w37)]⟩) m h538 h542
  | 0, _, _ => rfl
  | m + 1, h538, h542 => (law19_OccupancyConflictIsCommon_p24_eq n w3 h42 h332 w529 h538 w39 w533 h542 w34 w37 (loopK (vexec (law19_OccupancyConflictIsCommon_C n) n law19_OccupancyConflictIsCommon_c24) m k)).trans (law19_OccupancyConflictIsCommon_p24_congr n w3 h42 h332 w529 h538 w39 w533 h542 w34 w37 (fun w563 w564 => law19_OccupancyConflictIsCommon_r25_eq n w3 h42 h332 w529 w39 w533 w34 w37 k m w563 w564) (fun w565 => rfl))
theorem law19_OccupancyConflictIsCommon_p25_eq {R : Type} (n : Nat) (w3 : Int) (h42 : Int) (h332 : Int) (w529 : Bool) (w39 : Int) (w533 : Int) (w34 : List (List D)) (w37 : List (List D)) (k : Exit → St → Option R) : vexec (law19_OccupancyConflictIsCommon_C n) n law19_OccupancyConflictIsCommon_c25 ⟨118, [(0, .d (D.int .i64 w3)), (5, .arr 100018), (7, .arr 100032), (8, .d (D.int .i64 h42)), (9, .d (D.int .i64 h332)), (10, .d (D.bool w529)), (12, .d (D.bool false)), (34, .d (D.int .i64 w39)), (35, .d (D.int .i64 h42)), (84, .d (D.int .i64 w533)), (85, .d (D.int .i64 (0 : Int)))], [(100018, .arr 31 5 w34), (100032, .arr 35 2 w37)]⟩ k = law19_OccupancyConflictIsCommon_p25 n w3 h42 h332 w529 w39 w533 w34 w37 (fun h538 h542 w565 => k (.exit 8) ⟨118, [(0, .d (D.int .i64 w3)), (5, .arr 100018), (7, .arr 100032), (8, .d (D.int .i64 h42)), (9, .d (D.int .i64 h332)), (10, .d (D.bool w529)), (12, .d (D.bool h538)), (34, .d (D.int .i64 w39)), (35, .d (D.int .i64 h42)), (84, .d (D.int .i64 w533)), (85, .d (D.int .i64 h542)), (86, .d (D.bool w565))], [(100018, .arr 31 5 w34), (100032, .arr 35 2 w37)]⟩) := by
  rw [law19_OccupancyConflictIsCommon_c25_eq]
  exact law19_OccupancyConflictIsCommon_r25_eq n w3 h42 h332 w529 w39 w533 w34 w37 k n false (0 : Int)
theorem law19_OccupancyConflictIsCommon_p26_eq {R : Type} (n : Nat) (w3 : Int) (h42 : Int) (h332 : Int) (w529 : Bool) (w39 : Int) (w533 : Int) (w34 : List (List D)) (w37 : List (List D)) (k : Exit → St → Option R) : vexec (law19_OccupancyConflictIsCommon_C n) n law19_OccupancyConflictIsCommon_c26 ⟨118, [(0, .d (D.int .i64 w3)), (5, .arr 100018), (7, .arr 100032), (8, .d (D.int .i64 h42)), (9, .d (D.int .i64 h332)), (10, .d (D.bool w529)), (12, .d (D.bool false)), (34, .d (D.int .i64 w39)), (35, .d (D.int .i64 h42)), (84, .d (D.int .i64 w533)), (85, .d (D.int .i64 (0 : Int)))], [(100018, .arr 31 5 w34), (100032, .arr 35 2 w37)]⟩ k = law19_OccupancyConflictIsCommon_p26 n w3 h42 h332 w529 w39 w533 w34 w37 (fun w566 w567 w568 => k .normal ⟨118, [(0, .d (D.int .i64 w3)), (5, .arr 100018), (7, .arr 100032), (8, .d (D.int .i64 h42)), (9, .d (D.int .i64 h332)), (10, .d (D.bool w529)), (12, .d (D.bool w566)), (34, .d (D.int .i64 w39)), (35, .d (D.int .i64 h42)), (84, .d (D.int .i64 w533)), (85, .d (D.int .i64 w567)), (86, .d (D.bool w568))], [(100018, .arr 31 5 w34), (100032, .arr 35 2 w37)]⟩) := by
  rw [law19_OccupancyConflictIsCommon_c26_eq]
  unfold law19_OccupancyConflictIsCommon_p26
  exact (law19_OccupancyConflictIsCommon_p25_eq n w3 h42 h332 w529 w39 w533 w34 w37 (blockK 8 k)).trans (law19_OccupancyConflictIsCommon_p25_congr n w3 h42 h332 w529 w39 w533 w34 w37 (fun w566 w567 w568 => rfl))
theorem law19_OccupancyConflictIsCommon_p27_eq {R : Type} (n : Nat) (w3 : Int) (h42 : Int) (h332 : Int) (w529 : Bool) (w39 : Int) (w34 : List (List D)) (w37 : List (List D)) (k : Exit → St → Option R) : vexec (law19_OccupancyConflictIsCommon_C n) n law19_OccupancyConflictIsCommon_c27 ⟨118, [(0, .d (D.int .i64 w3)), (5, .arr 100018), (7, .arr 100032), (8, .d (D.int .i64 h42)), (9, .d (D.int .i64 h332)), (10, .d (D.bool w529)), (12, .d (D.bool false)), (34, .d (D.int .i64 w39)), (35, .d (D.int .i64 h42))], [(100018, .arr 31 5 w34), (100032, .arr 35 2 w37)]⟩ k = law19_OccupancyConflictIsCommon_p27 n w3 h42 h332 w529 w39 w34 w37 (fun w569 w533 w570 w571 => k .normal ⟨118, [(0, .d (D.int .i64 w3)), (5, .arr 100018), (7, .arr 100032), (8, .d (D.int .i64 h42)), (9, .d (D.int .i64 h332)), (10, .d (D.bool w529)), (12, .d (D.bool w569)), (34, .d (D.int .i64 w39)), (35, .d (D.int .i64 h42)), (84, .d (D.int .i64 w533)), (85, .d (D.int .i64 w570)), (86, .d (D.bool w571))], [(100018, .arr 31 5 w34), (100032, .arr 35 2 w37)]⟩) := by
  rw [law19_OccupancyConflictIsCommon_c27_eq]
  unfold law19_OccupancyConflictIsCommon_p27
  exact (law19_OccupancyConflictIsCommon_p23_eq n w3 h42 h332 w529 w39 w34 w37 (seqK (law19_OccupancyConflictIsCommon_C n) n law19_OccupancyConflictIsCommon_c26 k)).trans (law19_OccupancyConflictIsCommon_p23_congr n w3 h42 h332 w529 w39 w34 w37 (fun w533 => law19_OccupancyConflictIsCommon_p26_eq n w3 h42 h332 w529 w39 w533 w34 w37 k))
theorem law19_OccupancyConflictIsCommon_p28_eq {R : Type} (n : Nat) (w3 : Int) (h42 : Int) (h332 : Int) (w529 : Bool) (w572 : Bool) (w39 : Int) (w573 : Int) (w574 : Int) (w575 : Bool) (w34 : List (List D)) (w37 : List (List D)) (k : Exit → St → Option R) : vexec (law19_OccupancyConflictIsCommon_C n) n law19_OccupancyConflictIsCommon_c28 ⟨118, [(0, .d (D.int .i64 w3)), (5, .arr 100018), (7, .arr 100032), (8, .d (D.int .i64 h42)), (9, .d (D.int .i64 h332)), (10, .d (D.bool w529)), (12, .d (D.bool w572)), (34, .d (D.int .i64 w39)), (35, .d (D.int .i64 h42)), (84, .d (D.int .i64 w573)), (85, .d (D.int .i64 w574)), (86, .d (D.bool w575))], [(100018, .arr 31 5 w34), (100032, .arr 35 2 w37)]⟩ k = law19_OccupancyConflictIsCommon_p28 n w3 h42 h332 w529 w572 w39 w573 w574 w575 w34 w37 (k .ret ⟨118, [(4, .d (D.bool false))], []⟩) (fun z584 => k .normal ⟨118, [(0, .d (D.int .i64 w3)), (5, .arr 100018), (7, .arr 100032), (8, .d (D.int .i64 h42)), (9, .d (D.int .i64 h332)), (34, .d (D.int .i64 w39)), (35, .d (D.int .i64 h42)), (115, .d (D.bool z584))], [(100018, .arr 31 5 w34), (100032, .arr 35 2 w37)]⟩) := by kernel_rfl
theorem law19_OccupancyConflictIsCommon_p29_eq {R : Type} (n : Nat) (w3 : Int) (h42 : Int) (h332 : Int) (w529 : Bool) (w39 : Int) (w34 : List (List D)) (w37 : List (List D)) (k : Exit → St → Option R) : vexec (law19_OccupancyConflictIsCommon_C n) n law19_OccupancyConflictIsCommon_c29 ⟨118, [(0, .d (D.int .i64 w3)), (5, .arr 100018), (7, .arr 100032), (8, .d (D.int .i64 h42)), (9, .d (D.int .i64 h332)), (10, .d (D.bool w529)), (12, .d (D.bool false)), (34, .d (D.int .i64 w39)), (35, .d (D.int .i64 h42))], [(100018, .arr 31 5 w34), (100032, .arr 35 2 w37)]⟩ k = law19_OccupancyConflictIsCommon_p29 n w3 h42 h332 w529 w39 w34 w37 (k .ret ⟨118, [(4, .d (D.bool false))], []⟩) (fun w585 => k .normal ⟨118, [(0, .d (D.int .i64 w3)), (5, .arr 100018), (7, .arr 100032), (8, .d (D.int .i64 h42)), (9, .d (D.int .i64 h332)), (34, .d (D.int .i64 w39)), (35, .d (D.int .i64 h42)), (115, .d (D.bool w585))], [(100018, .arr 31 5 w34), (100032, .arr 35 2 w37)]⟩) := by
  rw [law19_OccupancyConflictIsCommon_c29_eq]
  unfold law19_OccupancyConflictIsCommon_p29
  exact (law19_OccupancyConflictIsCommon_p27_eq n w3 h42 h332 w529 w39 w34 w37 (seqK (law19_OccupancyConflictIsCommon_C n) n law19_OccupancyConflictIsCommon_c28 k)).trans (law19_OccupancyConflictIsCommon_p27_congr n w3 h42 h332 w529 w39 w34 w37 (fun w572 w573 w574 w575 => law19_OccupancyConflictIsCommon_p28_eq n w3 h42 h332 w529 w572 w39 w573 w574 w575 w34 w37 k))
theorem law19_OccupancyConflictIsCommon_p30_eq {R : Type} (n : Nat) (w3 : Int) (h42 : Int) (h332 : Int) (w529 : Bool) (w530 : Int) (w39 : Int) (w531 : Bool) (w34 : List (List D)) (w37 : List (List D)) (k : Exit → St → Option R) : vexec (law19_OccupancyConflictIsCommon_C n) n law19_OccupancyConflictIsCommon_c30 ⟨118, [(0, .d (D.int .i64 w3)), (5, .arr 100018), (7, .arr 100032), (8, .d (D.int .i64 h42)), (9, .d (D.int .i64 h332)), (10, .d (D.bool w529)), (11, .d (D.int .i64 w530)), (34, .d (D.int .i64 w39)), (35, .d (D.int .i64 h42)), (45, .d (D.bool w531))], [(100018, .arr 31 5 w34), (100032, .arr 35 2 w37)]⟩ k = law19_OccupancyConflictIsCommon_p30 n w3 h42 h332 w529 w530 w39 w531 w34 w37 (k .ret ⟨118, [(4, .d (D.bool false))], []⟩) (fun w586 => k .normal ⟨118, [(0, .d (D.int .i64 w3)), (5, .arr 100018), (7, .arr 100032), (8, .d (D.int .i64 h42)), (9, .d (D.int .i64 h332)), (34, .d (D.int .i64 w39)), (35, .d (D.int .i64 h42)), (115, .d (D.bool w586))], [(100018, .arr 31 5 w34), (100032, .arr 35 2 w37)]⟩) := by
  rw [law19_OccupancyConflictIsCommon_c30_eq]
  unfold law19_OccupancyConflictIsCommon_p30
  exact (law19_OccupancyConflictIsCommon_p22_eq n w3 h42 h332 w529 w530 w39 w531 w34 w37 (seqK (law19_OccupancyConflictIsCommon_C n) n law19_OccupancyConflictIsCommon_c29 k)).trans (law19_OccupancyConflictIsCommon_p22_congr n w3 h42 h332 w529 w530 w39 w531 w34 w37 (law19_OccupancyConflictIsCommon_p29_eq n w3 h42 h332 w529 w39 w34 w37 k))
theorem law19_OccupancyConflictIsCommon_p31_eq {R : Type} (n : Nat) (w3 : Int) (h42 : Int) (h332 : Int) (w39 : Int) (w34 : List (List D)) (w37 : List (List D)) (k : Exit → St → Option R) : vexec (law19_OccupancyConflictIsCommon_C n) n law19_OccupancyConflictIsCommon_c31 ⟨118, [(0, .d (D.int .i64 w3)), (5, .arr 100018), (7, .arr 100032), (8, .d (D.int .i64 h42)), (9, .d (D.int .i64 h332)), (10, .d (D.bool false)), (34, .d (D.int .i64 w39)), (35, .d (D.int .i64 h42))], [(100018, .arr 31 5 w34), (100032, .arr 35 2 w37)]⟩ k = law19_OccupancyConflictIsCommon_p31 n w3 h42 h332 w39 w34 w37 (k .ret ⟨118, [(4, .d (D.bool false))], []⟩) (fun w587 => k .normal ⟨118, [(0, .d (D.int .i64 w3)), (5, .arr 100018), (7, .arr 100032), (8, .d (D.int .i64 h42)), (9, .d (D.int .i64 h332)), (34, .d (D.int .i64 w39)), (35, .d (D.int .i64 h42)), (115, .d (D.bool w587))], [(100018, .arr 31 5 w34), (100032, .arr 35 2 w37)]⟩) := by
  rw [law19_OccupancyConflictIsCommon_c31_eq]
  unfold law19_OccupancyConflictIsCommon_p31
  exact (law19_OccupancyConflictIsCommon_p21_eq n w3 h42 h332 w39 w34 w37 (seqK (law19_OccupancyConflictIsCommon_C n) n law19_OccupancyConflictIsCommon_c30 k)).trans (law19_OccupancyConflictIsCommon_p21_congr n w3 h42 h332 w39 w34 w37 (fun w529 w530 w531 => law19_OccupancyConflictIsCommon_p30_eq n w3 h42 h332 w529 w530 w39 w531 w34 w37 k))
theorem law19_OccupancyConflictIsCommon_p32_eq {R : Type} (n : Nat) (w3 : Int) (h42 : Int) (h332 : Int) (w39 : Int) (w468 : Bool) (w34 : List (List D)) (w37 : List (List D)) (k : Exit → St → Option R) : vexec (law19_OccupancyConflictIsCommon_C n) n law19_OccupancyConflictIsCommon_c32 ⟨118, [(0, .d (D.int .i64 w3)), (5, .arr 100018), (7, .arr 100032), (8, .d (D.int .i64 h42)), (9, .d (D.int .i64 h332)), (34, .d (D.int .i64 w39)), (35, .d (D.int .i64 h42)), (40, .d (D.bool w468))], [(100018, .arr 31 5 w34), (100032, .arr 35 2 w37)]⟩ k = law19_OccupancyConflictIsCommon_p32 n w3 h42 h332 w39 w468 w34 w37 (k .ret ⟨118, [(4, .d (D.bool false))], []⟩) (fun w588 => k .normal ⟨118, [(0, .d (D.int .i64 w3)), (5, .arr 100018), (7, .arr 100032), (8, .d (D.int .i64 h42)), (9, .d (D.int .i64 h332)), (34, .d (D.int .i64 w39)), (35, .d (D.int .i64 h42)), (115, .d (D.bool w588))], [(100018, .arr 31 5 w34), (100032, .arr 35 2 w37)]⟩) := by
  rw [law19_OccupancyConflictIsCommon_c32_eq]
  unfold law19_OccupancyConflictIsCommon_p32
  exact (law19_OccupancyConflictIsCommon_p16_eq n w3 h42 h332 w39 w468 w34 w37 (seqK (law19_OccupancyConflictIsCommon_C n) n law19_OccupancyConflictIsCommon_c31 k)).trans (law19_OccupancyConflictIsCommon_p16_congr n w3 h42 h332 w39 w468 w34 w37 (law19_OccupancyConflictIsCommon_p31_eq n w3 h42 h332 w39 w34 w37 k))
theorem law19_OccupancyConflictIsCommon_p33_eq {R : Type} (n : Nat) (w3 : Int) (h42 : Int) (h332 : Int) (w39 : Int) (w468 : Bool) (w34 : List (List D)) (w37 : List (List D)) (k : Exit → St → Option R) : vexec (law19_OccupancyConflictIsCommon_C n) n law19_OccupancyConflictIsCommon_c33 ⟨118, [(0, .d (D.int .i64 w3)), (5, .arr 100018), (7, .arr 100032), (8, .d (D.int .i64 h42)), (9, .d (D.int .i64 h332)), (34, .d (D.int .i64 w39)), (35, .d (D.int .i64 h42)), (40, .d (D.bool w468))], [(100018, .arr 31 5 w34), (100032, .arr 35 2 w37)]⟩ k = law19_OccupancyConflictIsCommon_p33 n w3 h42 h332 w39 w468 w34 w37 (k .ret ⟨118, [(4, .d (D.bool false))], []⟩) (fun w589 => k .normal ⟨118, [(0, .d (D.int .i64 w3)), (5, .arr 100018), (7, .arr 100032), (8, .d (D.int .i64 h42)), (9, .d (D.int .i64 h332)), (34, .d (D.int .i64 w39)), (35, .d (D.int .i64 h42)), (115, .d (D.bool w589))], [(100018, .arr 31 5 w34), (100032, .arr 35 2 w37)]⟩) := by
  rw [law19_OccupancyConflictIsCommon_c33_eq]
  unfold law19_OccupancyConflictIsCommon_p33
  exact (law19_OccupancyConflictIsCommon_p32_eq n w3 h42 h332 w39 w468 w34 w37 (blockK 5 k)).trans (law19_OccupancyConflictIsCommon_p32_congr n w3 h42 h332 w39 w468 w34 w37 (rfl) (fun w589 => rfl))
theorem law19_OccupancyConflictIsCommon_p34_eq {R : Type} (n : Nat) (w3 : Int) (h42 : Int) (h332 : Int) (w39 : Int) (w590 : Bool) (w34 : List (List D)) (w37 : List (List D)) (k : Exit → St → Option R) : vexec (law19_OccupancyConflictIsCommon_C n) n law19_OccupancyConflictIsCommon_c34 ⟨118, [(0, .d (D.int .i64 w3)), (5, .arr 100018), (7, .arr 100032), (8, .d (D.int .i64 h42)), (9, .d (D.int .i64 h332)), (34, .d (D.int .i64 w39)), (35, .d (D.int .i64 h42)), (115, .d (D.bool w590))], [(100018, .arr 31 5 w34), (100032, .arr 35 2 w37)]⟩ k = law19_OccupancyConflictIsCommon_p34 n w3 h42 h332 w39 w590 w34 w37 (fun z591 => k .normal ⟨118, [(0, .d (D.int .i64 w3)), (5, .arr 100018), (7, .arr 100032), (8, .d (D.int .i64 h42)), (9, .d (D.int .i64 z591)), (34, .d (D.int .i64 w39)), (35, .d (D.int .i64 h42))], [(100018, .arr 31 5 w34), (100032, .arr 35 2 w37)]⟩) := by kernel_rfl
theorem law19_OccupancyConflictIsCommon_p35_eq {R : Type} (n : Nat) (w3 : Int) (h42 : Int) (h332 : Int) (w39 : Int) (w468 : Bool) (w34 : List (List D)) (w37 : List (List D)) (k : Exit → St → Option R) : vexec (law19_OccupancyConflictIsCommon_C n) n law19_OccupancyConflictIsCommon_c35 ⟨118, [(0, .d (D.int .i64 w3)), (5, .arr 100018), (7, .arr 100032), (8, .d (D.int .i64 h42)), (9, .d (D.int .i64 h332)), (34, .d (D.int .i64 w39)), (35, .d (D.int .i64 h42)), (40, .d (D.bool w468))], [(100018, .arr 31 5 w34), (100032, .arr 35 2 w37)]⟩ k = law19_OccupancyConflictIsCommon_p35 n w3 h42 h332 w39 w468 w34 w37 (k .ret ⟨118, [(4, .d (D.bool false))], []⟩) (fun w592 => k .normal ⟨118, [(0, .d (D.int .i64 w3)), (5, .arr 100018), (7, .arr 100032), (8, .d (D.int .i64 h42)), (9, .d (D.int .i64 w592)), (34, .d (D.int .i64 w39)), (35, .d (D.int .i64 h42))], [(100018, .arr 31 5 w34), (100032, .arr 35 2 w37)]⟩) := by
  rw [law19_OccupancyConflictIsCommon_c35_eq]
  unfold law19_OccupancyConflictIsCommon_p35
  exact (law19_OccupancyConflictIsCommon_p33_eq n w3 h42 h332 w39 w468 w34 w37 (seqK (law19_OccupancyConflictIsCommon_C n) n law19_OccupancyConflictIsCommon_c34 k)).trans (law19_OccupancyConflictIsCommon_p33_congr n w3 h42 h332 w39 w468 w34 w37 (rfl) (fun w590 => law19_OccupancyConflictIsCommon_p34_eq n w3 h42 h332 w39 w590 w34 w37 k))
theorem law19_OccupancyConflictIsCommon_p36_eq {R : Type} (n : Nat) (w3 : Int) (h42 : Int) (h332 : Int) (w39 : Int) (w34 : List (List D)) (w37 : List (List D)) (k : Exit → St → Option R) : vexec (law19_OccupancyConflictIsCommon_C n) n law19_OccupancyConflictIsCommon_c36 ⟨118, [(0, .d (D.int .i64 w3)), (5, .arr 100018), (7, .arr 100032), (8, .d (D.int .i64 h42)), (9, .d (D.int .i64 h332)), (34, .d (D.int .i64 w39)), (35, .d (D.int .i64 h42))], [(100018, .arr 31 5 w34), (100032, .arr 35 2 w37)]⟩ k = law19_OccupancyConflictIsCommon_p36 n w3 h42 h332 w39 w34 w37 (k .ret ⟨118, [(4, .d (D.bool false))], []⟩) (fun w593 => k .normal ⟨118, [(0, .d (D.int .i64 w3)), (5, .arr 100018), (7, .arr 100032), (8, .d (D.int .i64 h42)), (9, .d (D.int .i64 w593)), (34, .d (D.int .i64 w39)), (35, .d (D.int .i64 h42))], [(100018, .arr 31 5 w34), (100032, .arr 35 2 w37)]⟩) (fun w594 => k (.exit 4) ⟨118, [(0, .d (D.int .i64 w3)), (5, .arr 100018), (7, .arr 100032), (8, .d (D.int .i64 h42)), (9, .d (D.int .i64 h332)), (34, .d (D.int .i64 w39)), (35, .d (D.int .i64 h42)), (40, .d (D.bool w594))], [(100018, .arr 31 5 w34), (100032, .arr 35 2 w37)]⟩) := by
  rw [law19_OccupancyConflictIsCommon_c36_eq]
  unfold law19_OccupancyConflictIsCommon_p36
  exact (law19_OccupancyConflictIsCommon_p15_eq n w3 h42 h332 w39 w34 w37 (seqK (law19_OccupancyConflictIsCommon_C n) n law19_OccupancyConflictIsCommon_c35 k)).trans (law19_OccupancyConflictIsCommon_p15_congr n w3 h42 h332 w39 w34 w37 (fun w468 => law19_OccupancyConflictIsCommon_p35_eq n w3 h42 h332 w39 w468 w34 w37 k) (fun w594 => rfl))
theorem law19_OccupancyConflictIsCommon_r37_eq {R : Type} (n : Nat) (w3 : Int) (h42 : Int) (w39 : Int) (w34 : List (List D)) (w37 : List (List D)) (k : Exit → St → Option R) : ∀ (m : Nat) (h332 : Int), loopN (vexec (law19_OccupancyConflictIsCommon_C n) n law19_OccupancyConflictIsCommon_c36) m ⟨118, [(0, .d (D.int .i64 w3)), (5, .arr 100018), (7, .arr 100032), (8, .d (D.int .i64 h42)), (9, .d (D.int .i64 h332)), (34, .d (D.int .i64 w39)), (35, .d (D.int .i64 h42))], [(100018, .arr 31 5 w34), (100032, .arr 35 2 w37)]⟩ k = law19_OccupancyConflictIsCommon_r37 n w3 h42 w39 w34 w37 (k .ret ⟨118, [(4, .d (D.bool false))], []⟩) (fun h332 w596 => k (.exit 4) ⟨118, [(0, .d (D.int .i64 w3)), (5, .arr 100018), (7, .arr 100032), (8, .d (D.int .i64 h42)), (9, .d (D.int .i64 h332)), (34, .d (D.int .i64 w39)), (35, .d (D.int .i64 h42)), (40, .d (D.bool w596))], [(100018, .arr 31 5 w34), (100032, .arr 35 2 w37)]⟩) m h332
  | 0, _ => rfl
  | m + 1, h332 => (law19_OccupancyConflictIsCommon_p36_eq n w3 h42 h332 w39 w34 w37 (loopK (vexec (law19_OccupancyConflictIsCommon_C n) n law19_OccupancyConflictIsCommon_c36) m k)).trans (law19_OccupancyConflictIsCommon_p36_congr n w3 h42 h332 w39 w34 w37 (rfl) (fun w595 => law19_OccupancyConflictIsCommon_r37_eq n w3 h42 w39 w34 w37 k m w595) (fun w596 => rfl))
theorem law19_OccupancyConflictIsCommon_p37_eq {R : Type} (n : Nat) (w3 : Int) (h42 : Int) (w39 : Int) (w34 : List (List D)) (w37 : List (List D)) (k : Exit → St → Option R) : vexec (law19_OccupancyConflictIsCommon_C n) n law19_OccupancyConflictIsCommon_c37 ⟨118, [(0, .d (D.int .i64 w3)), (5, .arr 100018), (7, .arr 100032), (8, .d (D.int .i64 h42)), (9, .d (D.int .i64 (0 : Int))), (34, .d (D.int .i64 w39)), (35, .d (D.int .i64 h42))], [(100018, .arr 31 5 w34), (100032, .arr 35 2 w37)]⟩ k = law19_OccupancyConflictIsCommon_p37 n w3 h42 w39 w34 w37 (k .ret ⟨118, [(4, .d (D.bool false))], []⟩) (fun h332 w596 => k (.exit 4) ⟨118, [(0, .d (D.int .i64 w3)), (5, .arr 100018), (7, .arr 100032), (8, .d (D.int .i64 h42)), (9, .d (D.int .i64 h332)), (34, .d (D.int .i64 w39)), (35, .d (D.int .i64 h42)), (40, .d (D.bool w596))], [(100018, .arr 31 5 w34), (100032, .arr 35 2 w37)]⟩) := by
  rw [law19_OccupancyConflictIsCommon_c37_eq]
  exact law19_OccupancyConflictIsCommon_r37_eq n w3 h42 w39 w34 w37 k n (0 : Int)
theorem law19_OccupancyConflictIsCommon_p38_eq {R : Type} (n : Nat) (w3 : Int) (h42 : Int) (w39 : Int) (w34 : List (List D)) (w37 : List (List D)) (k : Exit → St → Option R) : vexec (law19_OccupancyConflictIsCommon_C n) n law19_OccupancyConflictIsCommon_c38 ⟨118, [(0, .d (D.int .i64 w3)), (5, .arr 100018), (7, .arr 100032), (8, .d (D.int .i64 h42)), (9, .d (D.int .i64 (0 : Int))), (34, .d (D.int .i64 w39)), (35, .d (D.int .i64 h42))], [(100018, .arr 31 5 w34), (100032, .arr 35 2 w37)]⟩ k = law19_OccupancyConflictIsCommon_p38 n w3 h42 w39 w34 w37 (k .ret ⟨118, [(4, .d (D.bool false))], []⟩) (fun w597 w598 => k .normal ⟨118, [(0, .d (D.int .i64 w3)), (5, .arr 100018), (7, .arr 100032), (8, .d (D.int .i64 h42)), (9, .d (D.int .i64 w597)), (34, .d (D.int .i64 w39)), (35, .d (D.int .i64 h42)), (40, .d (D.bool w598))], [(100018, .arr 31 5 w34), (100032, .arr 35 2 w37)]⟩) := by
  rw [law19_OccupancyConflictIsCommon_c38_eq]
  unfold law19_OccupancyConflictIsCommon_p38
  exact (law19_OccupancyConflictIsCommon_p37_eq n w3 h42 w39 w34 w37 (blockK 4 k)).trans (law19_OccupancyConflictIsCommon_p37_congr n w3 h42 w39 w34 w37 (rfl) (fun w597 w598 => rfl))
theorem law19_OccupancyConflictIsCommon_p39_eq {R : Type} (n : Nat) (w3 : Int) (h42 : Int) (w39 : Int) (w34 : List (List D)) (w37 : List (List D)) (k : Exit → St → Option R) : vexec (law19_OccupancyConflictIsCommon_C n) n law19_OccupancyConflictIsCommon_c39 ⟨118, [(0, .d (D.int .i64 w3)), (5, .arr 100018), (7, .arr 100032), (8, .d (D.int .i64 h42)), (34, .d (D.int .i64 w39)), (35, .d (D.int .i64 h42))], [(100018, .arr 31 5 w34), (100032, .arr 35 2 w37)]⟩ k = law19_OccupancyConflictIsCommon_p39 n w3 h42 w39 w34 w37 (k .ret ⟨118, [(4, .d (D.bool false))], []⟩) (fun w599 w600 => k .normal ⟨118, [(0, .d (D.int .i64 w3)), (5, .arr 100018), (7, .arr 100032), (8, .d (D.int .i64 h42)), (9, .d (D.int .i64 w599)), (34, .d (D.int .i64 w39)), (35, .d (D.int .i64 h42)), (40, .d (D.bool w600))], [(100018, .arr 31 5 w34), (100032, .arr 35 2 w37)]⟩) := by
  rw [law19_OccupancyConflictIsCommon_c39_eq]
  unfold law19_OccupancyConflictIsCommon_p39
  exact (law19_OccupancyConflictIsCommon_p14_eq n w3 h42 w39 w34 w37 (seqK (law19_OccupancyConflictIsCommon_C n) n law19_OccupancyConflictIsCommon_c38 k)).trans (law19_OccupancyConflictIsCommon_p14_congr n w3 h42 w39 w34 w37 (law19_OccupancyConflictIsCommon_p38_eq n w3 h42 w39 w34 w37 k))
theorem law19_OccupancyConflictIsCommon_p40_eq {R : Type} (n : Nat) (w3 : Int) (w39 : Int) (h42 : Int) (w329 : Bool) (w34 : List (List D)) (w37 : List (List D)) (k : Exit → St → Option R) : vexec (law19_OccupancyConflictIsCommon_C n) n law19_OccupancyConflictIsCommon_c40 ⟨118, [(0, .d (D.int .i64 w3)), (5, .arr 100018), (7, .arr 100032), (34, .d (D.int .i64 w39)), (35, .d (D.int .i64 h42)), (36, .d (D.bool w329))], [(100018, .arr 31 5 w34), (100032, .arr 35 2 w37)]⟩ k = law19_OccupancyConflictIsCommon_p40 n w3 w39 h42 w329 w34 w37 (k .ret ⟨118, [(4, .d (D.bool false))], []⟩) (fun w601 w602 => k .normal ⟨118, [(0, .d (D.int .i64 w3)), (5, .arr 100018), (7, .arr 100032), (8, .d (D.int .i64 h42)), (9, .d (D.int .i64 w601)), (34, .d (D.int .i64 w39)), (35, .d (D.int .i64 h42)), (40, .d (D.bool w602))], [(100018, .arr 31 5 w34), (100032, .arr 35 2 w37)]⟩) := by
  rw [law19_OccupancyConflictIsCommon_c40_eq]
  unfold law19_OccupancyConflictIsCommon_p40
  exact (law19_OccupancyConflictIsCommon_p13_eq n w3 w39 h42 w329 w34 w37 (seqK (law19_OccupancyConflictIsCommon_C n) n law19_OccupancyConflictIsCommon_c39 k)).trans (law19_OccupancyConflictIsCommon_p13_congr n w3 w39 h42 w329 w34 w37 (law19_OccupancyConflictIsCommon_p39_eq n w3 h42 w39 w34 w37 k))
theorem law19_OccupancyConflictIsCommon_p41_eq {R : Type} (n : Nat) (w3 : Int) (w39 : Int) (h42 : Int) (w329 : Bool) (w34 : List (List D)) (w37 : List (List D)) (k : Exit → St → Option R) : vexec (law19_OccupancyConflictIsCommon_C n) n law19_OccupancyConflictIsCommon_c41 ⟨118, [(0, .d (D.int .i64 w3)), (5, .arr 100018), (7, .arr 100032), (34, .d (D.int .i64 w39)), (35, .d (D.int .i64 h42)), (36, .d (D.bool w329))], [(100018, .arr 31 5 w34), (100032, .arr 35 2 w37)]⟩ k = law19_OccupancyConflictIsCommon_p41 n w3 w39 h42 w329 w34 w37 (k .ret ⟨118, [(4, .d (D.bool false))], []⟩) (fun w603 w604 => k .normal ⟨118, [(0, .d (D.int .i64 w3)), (5, .arr 100018), (7, .arr 100032), (8, .d (D.int .i64 h42)), (9, .d (D.int .i64 w603)), (34, .d (D.int .i64 w39)), (35, .d (D.int .i64 h42)), (40, .d (D.bool w604))], [(100018, .arr 31 5 w34), (100032, .arr 35 2 w37)]⟩) := by
  rw [law19_OccupancyConflictIsCommon_c41_eq]
  unfold law19_OccupancyConflictIsCommon_p41
  exact (law19_OccupancyConflictIsCommon_p40_eq n w3 w39 h42 w329 w34 w37 (blockK 3 k)).trans (law19_OccupancyConflictIsCommon_p40_congr n w3 w39 h42 w329 w34 w37 (rfl) (fun w603 w604 => rfl))
theorem law19_OccupancyConflictIsCommon_p42_eq {R : Type} (n : Nat) (w3 : Int) (h42 : Int) (w605 : Int) (w39 : Int) (w606 : Bool) (w34 : List (List D)) (w37 : List (List D)) (k : Exit → St → Option R) : vexec (law19_OccupancyConflictIsCommon_C n) n law19_OccupancyConflictIsCommon_c42 ⟨118, [(0, .d (D.int .i64 w3)), (5, .arr 100018), (7, .arr 100032), (8, .d (D.int .i64 h42)), (9, .d (D.int .i64 w605)), (34, .d (D.int .i64 w39)), (35, .d (D.int .i64 h42)), (40, .d (D.bool w606))], [(100018, .arr 31 5 w34), (100032, .arr 35 2 w37)]⟩ k = law19_OccupancyConflictIsCommon_p42 n w3 h42 w605 w39 w606 w34 w37 (fun z607 => k .normal ⟨118, [(0, .d (D.int .i64 w3)), (5, .arr 100018), (7, .arr 100032), (34, .d (D.int .i64 w39)), (35, .d (D.int .i64 z607))], [(100018, .arr 31 5 w34), (100032, .arr 35 2 w37)]⟩) := by kernel_rfl
theorem law19_OccupancyConflictIsCommon_p43_eq {R : Type} (n : Nat) (w3 : Int) (w39 : Int) (h42 : Int) (w329 : Bool) (w34 : List (List D)) (w37 : List (List D)) (k : Exit → St → Option R) : vexec (law19_OccupancyConflictIsCommon_C n) n law19_OccupancyConflictIsCommon_c43 ⟨118, [(0, .d (D.int .i64 w3)), (5, .arr 100018), (7, .arr 100032), (34, .d (D.int .i64 w39)), (35, .d (D.int .i64 h42)), (36, .d (D.bool w329))], [(100018, .arr 31 5 w34), (100032, .arr 35 2 w37)]⟩ k = law19_OccupancyConflictIsCommon_p43 n w3 w39 h42 w329 w34 w37 (k .ret ⟨118, [(4, .d (D.bool false))], []⟩) (fun w608 => k .normal ⟨118, [(0, .d (D.int .i64 w3)), (5, .arr 100018), (7, .arr 100032), (34, .d (D.int .i64 w39)), (35, .d (D.int .i64 w608))], [(100018, .arr 31 5 w34), (100032, .arr 35 2 w37)]⟩) := by
  rw [law19_OccupancyConflictIsCommon_c43_eq]
  unfold law19_OccupancyConflictIsCommon_p43
  exact (law19_OccupancyConflictIsCommon_p41_eq n w3 w39 h42 w329 w34 w37 (seqK (law19_OccupancyConflictIsCommon_C n) n law19_OccupancyConflictIsCommon_c42 k)).trans (law19_OccupancyConflictIsCommon_p41_congr n w3 w39 h42 w329 w34 w37 (rfl) (fun w605 w606 => law19_OccupancyConflictIsCommon_p42_eq n w3 h42 w605 w39 w606 w34 w37 k))
theorem law19_OccupancyConflictIsCommon_p44_eq {R : Type} (n : Nat) (w3 : Int) (w39 : Int) (h42 : Int) (w329 : Bool) (w34 : List (List D)) (w37 : List (List D)) (k : Exit → St → Option R) : vexec (law19_OccupancyConflictIsCommon_C n) n law19_OccupancyConflictIsCommon_c44 ⟨118, [(0, .d (D.int .i64 w3)), (5, .arr 100018), (7, .arr 100032), (34, .d (D.int .i64 w39)), (35, .d (D.int .i64 h42)), (36, .d (D.bool w329))], [(100018, .arr 31 5 w34), (100032, .arr 35 2 w37)]⟩ k = law19_OccupancyConflictIsCommon_p44 n w3 w39 h42 w329 w34 w37 (k .ret ⟨118, [(4, .d (D.bool false))], []⟩) (fun w609 => k .normal ⟨118, [(0, .d (D.int .i64 w3)), (5, .arr 100018), (7, .arr 100032), (34, .d (D.int .i64 w39)), (35, .d (D.int .i64 w609))], [(100018, .arr 31 5 w34), (100032, .arr 35 2 w37)]⟩) (k (.exit 2) ⟨118, [(0, .d (D.int .i64 w3)), (5, .arr 100018), (7, .arr 100032), (34, .d (D.int .i64 w39)), (35, .d (D.int .i64 h42)), (36, .d (D.bool w329))], [(100018, .arr 31 5 w34), (100032, .arr 35 2 w37)]⟩) := by
  rw [law19_OccupancyConflictIsCommon_c44_eq]
  unfold law19_OccupancyConflictIsCommon_p44
  exact (law19_OccupancyConflictIsCommon_p12_eq n w3 w39 h42 w329 w34 w37 (seqK (law19_OccupancyConflictIsCommon_C n) n law19_OccupancyConflictIsCommon_c43 k)).trans (law19_OccupancyConflictIsCommon_p12_congr n w3 w39 h42 w329 w34 w37 (law19_OccupancyConflictIsCommon_p43_eq n w3 w39 h42 w329 w34 w37 k) (rfl))
theorem law19_OccupancyConflictIsCommon_p45_eq {R : Type} (n : Nat) (w3 : Int) (w39 : Int) (h42 : Int) (w34 : List (List D)) (w37 : List (List D)) (k : Exit → St → Option R) : vexec (law19_OccupancyConflictIsCommon_C n) n law19_OccupancyConflictIsCommon_c45 ⟨118, [(0, .d (D.int .i64 w3)), (5, .arr 100018), (7, .arr 100032), (34, .d (D.int .i64 w39)), (35, .d (D.int .i64 h42))], [(100018, .arr 31 5 w34), (100032, .arr 35 2 w37)]⟩ k = law19_OccupancyConflictIsCommon_p45 n w3 w39 h42 w34 w37 (k .ret ⟨118, [(4, .d (D.bool false))], []⟩) (fun w610 => k .normal ⟨118, [(0, .d (D.int .i64 w3)), (5, .arr 100018), (7, .arr 100032), (34, .d (D.int .i64 w39)), (35, .d (D.int .i64 w610))], [(100018, .arr 31 5 w34), (100032, .arr 35 2 w37)]⟩) (fun w329 => k (.exit 2) ⟨118, [(0, .d (D.int .i64 w3)), (5, .arr 100018), (7, .arr 100032), (34, .d (D.int .i64 w39)), (35, .d (D.int .i64 h42)), (36, .d (D.bool w329))], [(100018, .arr 31 5 w34), (100032, .arr 35 2 w37)]⟩) := by
  rw [law19_OccupancyConflictIsCommon_c45_eq]
  unfold law19_OccupancyConflictIsCommon_p45
  exact (law19_OccupancyConflictIsCommon_p11_eq n w3 w39 h42 w34 w37 (seqK (law19_OccupancyConflictIsCommon_C n) n law19_OccupancyConflictIsCommon_c44 k)).trans (law19_OccupancyConflictIsCommon_p11_congr n w3 w39 h42 w34 w37 (fun w329 => law19_OccupancyConflictIsCommon_p44_eq n w3 w39 h42 w329 w34 w37 k))
theorem law19_OccupancyConflictIsCommon_r46_eq {R : Type} (n : Nat) (w3 : Int) (w39 : Int) (w34 : List (List D)) (w37 : List (List D)) (k : Exit → St → Option R) : ∀ (m : Nat) (h42 : Int), loopN (vexec (law19_OccupancyConflictIsCommon_C n) n law19_OccupancyConflictIsCommon_c45) m ⟨118, [(0, .d (D.int .i64 w3)), (5, .arr 100018), (7, .arr 100032), (34, .d (D.int .i64 w39)), (35, .d (D.int .i64 h42))], [(100018, .arr 31 5 w34), (100032, .arr 35 2 w37)]⟩ k = law19_OccupancyConflictIsCommon_r46 n w3 w39 w34 w37 (k .ret ⟨118, [(4, .d (D.bool false))], []⟩) (fun h42 w612 => k (.exit 2) ⟨118, [(0, .d (D.int .i64 w3)), (5, .arr 100018), (7, .arr 100032), (34, .d (D.int .i64 w39)), (35, .d (D.int .i64 h42)), (36, .d (D.bool w612))], [(100018, .arr 31 5 w34), (100032, .arr 35 2 w37)]⟩) m h42
  | 0, _ => rfl
  | m + 1, h42 => (law19_OccupancyConflictIsCommon_p45_eq n w3 w39 h42 w34 w37 (loopK (vexec (law19_OccupancyConflictIsCommon_C n) n law19_OccupancyConflictIsCommon_c45) m k)).trans (law19_OccupancyConflictIsCommon_p45_congr n w3 w39 h42 w34 w37 (rfl) (fun w611 => law19_OccupancyConflictIsCommon_r46_eq n w3 w39 w34 w37 k m w611) (fun w612 => rfl))
theorem law19_OccupancyConflictIsCommon_p46_eq {R : Type} (n : Nat) (w3 : Int) (w39 : Int) (w34 : List (List D)) (w37 : List (List D)) (k : Exit → St → Option R) : vexec (law19_OccupancyConflictIsCommon_C n) n law19_OccupancyConflictIsCommon_c46 ⟨118, [(0, .d (D.int .i64 w3)), (5, .arr 100018), (7, .arr 100032), (34, .d (D.int .i64 w39)), (35, .d (D.int .i64 (0 : Int)))], [(100018, .arr 31 5 w34), (100032, .arr 35 2 w37)]⟩ k = law19_OccupancyConflictIsCommon_p46 n w3 w39 w34 w37 (k .ret ⟨118, [(4, .d (D.bool false))], []⟩) (fun h42 w612 => k (.exit 2) ⟨118, [(0, .d (D.int .i64 w3)), (5, .arr 100018), (7, .arr 100032), (34, .d (D.int .i64 w39)), (35, .d (D.int .i64 h42)), (36, .d (D.bool w612))], [(100018, .arr 31 5 w34), (100032, .arr 35 2 w37)]⟩) := by
  rw [law19_OccupancyConflictIsCommon_c46_eq]
  exact law19_OccupancyConflictIsCommon_r46_eq n w3 w39 w34 w37 k n (0 : Int)
theorem law19_OccupancyConflictIsCommon_p47_eq {R : Type} (n : Nat) (w3 : Int) (w39 : Int) (w34 : List (List D)) (w37 : List (List D)) (k : Exit → St → Option R) : vexec (law19_OccupancyConflictIsCommon_C n) n law19_OccupancyConflictIsCommon_c47 ⟨118, [(0, .d (D.int .i64 w3)), (5, .arr 100018), (7, .arr 100032), (34, .d (D.int .i64 w39)), (35, .d (D.int .i64 (0 : Int)))], [(100018, .arr 31 5 w34), (100032, .arr 35 2 w37)]⟩ k = law19_OccupancyConflictIsCommon_p47 n w3 w39 w34 w37 (k .ret ⟨118, [(4, .d (D.bool false))], []⟩) (fun w613 w614 => k .normal ⟨118, [(0, .d (D.int .i64 w3)), (5, .arr 100018), (7, .arr 100032), (34, .d (D.int .i64 w39)), (35, .d (D.int .i64 w613)), (36, .d (D.bool w614))], [(100018, .arr 31 5 w34), (100032, .arr 35 2 w37)]⟩) := by
  rw [law19_OccupancyConflictIsCommon_c47_eq]
  unfold law19_OccupancyConflictIsCommon_p47
  exact (law19_OccupancyConflictIsCommon_p46_eq n w3 w39 w34 w37 (blockK 2 k)).trans (law19_OccupancyConflictIsCommon_p46_congr n w3 w39 w34 w37 (rfl) (fun w613 w614 => rfl))
theorem law19_OccupancyConflictIsCommon_p48_eq {R : Type} (n : Nat) (w3 : Int) (w34 : List (List D)) (w37 : List (List D)) (k : Exit → St → Option R) : vexec (law19_OccupancyConflictIsCommon_C n) n law19_OccupancyConflictIsCommon_c48 ⟨118, [(0, .d (D.int .i64 w3)), (5, .arr 100018), (7, .arr 100032)], [(100018, .arr 31 5 w34), (100032, .arr 35 2 w37)]⟩ k = law19_OccupancyConflictIsCommon_p48 n w3 w34 w37 (k .ret ⟨118, [(4, .d (D.bool false))], []⟩) (fun w39 w615 w616 => k .normal ⟨118, [(0, .d (D.int .i64 w3)), (5, .arr 100018), (7, .arr 100032), (34, .d (D.int .i64 w39)), (35, .d (D.int .i64 w615)), (36, .d (D.bool w616))], [(100018, .arr 31 5 w34), (100032, .arr 35 2 w37)]⟩) := by
  rw [law19_OccupancyConflictIsCommon_c48_eq]
  unfold law19_OccupancyConflictIsCommon_p48
  exact (law19_OccupancyConflictIsCommon_p10_eq n w3 w34 w37 (seqK (law19_OccupancyConflictIsCommon_C n) n law19_OccupancyConflictIsCommon_c47 k)).trans (law19_OccupancyConflictIsCommon_p10_congr n w3 w34 w37 (fun w39 => law19_OccupancyConflictIsCommon_p47_eq n w3 w39 w34 w37 k))
theorem law19_OccupancyConflictIsCommon_p49_eq {R : Type} (n : Nat) (w3 : Int) (w617 : Int) (w618 : Int) (w619 : Bool) (w34 : List (List D)) (w37 : List (List D)) (k : Exit → St → Option R) : vexec (law19_OccupancyConflictIsCommon_C n) n law19_OccupancyConflictIsCommon_c49 ⟨118, [(0, .d (D.int .i64 w3)), (5, .arr 100018), (7, .arr 100032), (34, .d (D.int .i64 w617)), (35, .d (D.int .i64 w618)), (36, .d (D.bool w619))], [(100018, .arr 31 5 w34), (100032, .arr 35 2 w37)]⟩ k = law19_OccupancyConflictIsCommon_p49 n w3 w617 w618 w619 w34 w37 (fun r620 => k .ret ⟨118, [(4, .d (D.bool r620))], []⟩) := by kernel_rfl
theorem law19_OccupancyConflictIsCommon_p50_eq {R : Type} (n : Nat) (w3 : Int) (w34 : List (List D)) (w37 : List (List D)) (k : Exit → St → Option R) : vexec (law19_OccupancyConflictIsCommon_C n) n law19_OccupancyConflictIsCommon_c50 ⟨118, [(0, .d (D.int .i64 w3)), (5, .arr 100018), (7, .arr 100032)], [(100018, .arr 31 5 w34), (100032, .arr 35 2 w37)]⟩ k = law19_OccupancyConflictIsCommon_p50 n w3 w34 w37 (fun z622 => k .ret ⟨118, [(4, .d (D.bool z622))], []⟩) := by
  rw [law19_OccupancyConflictIsCommon_c50_eq]
  unfold law19_OccupancyConflictIsCommon_p50
  exact (law19_OccupancyConflictIsCommon_p48_eq n w3 w34 w37 (seqK (law19_OccupancyConflictIsCommon_C n) n law19_OccupancyConflictIsCommon_c49 k)).trans (law19_OccupancyConflictIsCommon_p48_congr n w3 w34 w37 (rfl) (fun w617 w618 w619 => law19_OccupancyConflictIsCommon_p49_eq n w3 w617 w618 w619 w34 w37 k))
theorem law19_OccupancyConflictIsCommon_p51_eq {R : Type} (n : Nat) (w3 : Int) (w31 : Int) (w32 : Int) (w33 : Bool) (w34 : List (List D)) (k : Exit → St → Option R) : vexec (law19_OccupancyConflictIsCommon_C n) n law19_OccupancyConflictIsCommon_c51 ⟨118, [(0, .d (D.int .i64 w3)), (5, .arr 100018), (20, .d (D.int .i64 w31)), (21, .d (D.int .i64 w32)), (22, .d (D.bool w33))], [(100018, .arr 31 5 w34)]⟩ k = law19_OccupancyConflictIsCommon_p51 n w3 w31 w32 w33 w34 (fun w623 => k .ret ⟨118, [(4, .d (D.bool w623))], []⟩) := by
  rw [law19_OccupancyConflictIsCommon_c51_eq]
  unfold law19_OccupancyConflictIsCommon_p51
  exact (law19_OccupancyConflictIsCommon_p9_eq n w3 w31 w32 w33 w34 (seqK (law19_OccupancyConflictIsCommon_C n) n law19_OccupancyConflictIsCommon_c50 k)).trans (law19_OccupancyConflictIsCommon_p9_congr n w3 w31 w32 w33 w34 (fun w37 => law19_OccupancyConflictIsCommon_p50_eq n w3 w34 w37 k))
theorem law19_OccupancyConflictIsCommon_p52_eq {R : Type} (n : Nat) (w3 : Int) (w5 : List (List D)) (k : Exit → St → Option R) : vexec (law19_OccupancyConflictIsCommon_C n) n law19_OccupancyConflictIsCommon_c52 ⟨118, [(0, .d (D.int .i64 w3)), (5, .arr 100018)], [(100018, .arr 31 5 w5)]⟩ k = law19_OccupancyConflictIsCommon_p52 n w3 w5 (fun w624 => k .ret ⟨118, [(4, .d (D.bool w624))], []⟩) := by
  rw [law19_OccupancyConflictIsCommon_c52_eq]
  unfold law19_OccupancyConflictIsCommon_p52
  exact (law19_OccupancyConflictIsCommon_p8_eq n w3 w5 (seqK (law19_OccupancyConflictIsCommon_C n) n law19_OccupancyConflictIsCommon_c51 k)).trans (law19_OccupancyConflictIsCommon_p8_congr n w3 w5 (fun w31 w32 w33 w34 => law19_OccupancyConflictIsCommon_p51_eq n w3 w31 w32 w33 w34 k))
theorem law19_OccupancyConflictIsCommon_p53_eq {R : Type} (n : Nat) (w3 : Int) (a1 : List (List D)) (k : Exit → St → Option R) : vexec (law19_OccupancyConflictIsCommon_C n) n law19_OccupancyConflictIsCommon_c53 ⟨118, [(0, .d (D.int .i64 w3)), (1, .d (D.sl 1 a1))], []⟩ k = law19_OccupancyConflictIsCommon_p53 n w3 a1 (fun w625 => k .ret ⟨118, [(4, .d (D.bool w625))], []⟩) := by
  rw [law19_OccupancyConflictIsCommon_c53_eq]
  unfold law19_OccupancyConflictIsCommon_p53
  exact (law19_OccupancyConflictIsCommon_p3_eq n w3 a1 (seqK (law19_OccupancyConflictIsCommon_C n) n law19_OccupancyConflictIsCommon_c52 k)).trans (law19_OccupancyConflictIsCommon_p3_congr n w3 a1 (fun w5 => law19_OccupancyConflictIsCommon_p52_eq n w3 w5 k))
theorem law19_OccupancyConflictIsCommon_p54_eq {R : Type} (n : Nat) (a0 : Int) (a1 : List (List D)) (k : Exit → St → Option R) : vexec (law19_OccupancyConflictIsCommon_C n) n law19_OccupancyConflictIsCommon_c54 ⟨118, [(0, .d (D.int .i64 a0)), (1, .d (D.sl 1 a1))], []⟩ k = law19_OccupancyConflictIsCommon_p54 n a0 a1 (fun w626 => k .ret ⟨118, [(4, .d (D.bool w626))], []⟩) := by
  rw [law19_OccupancyConflictIsCommon_c54_eq]
  unfold law19_OccupancyConflictIsCommon_p54
  exact (law19_OccupancyConflictIsCommon_p2_eq n a0 a1 (seqK (law19_OccupancyConflictIsCommon_C n) n law19_OccupancyConflictIsCommon_c53 k)).trans (law19_OccupancyConflictIsCommon_p2_congr n a0 a1 (fun w3 => law19_OccupancyConflictIsCommon_p53_eq n w3 a1 k))
theorem law19_OccupancyConflictIsCommon_p55_eq {R : Type} (n : Nat) (a0 : Int) (a1 : List (List D)) (k : Exit → St → Option R) : vexec (law19_OccupancyConflictIsCommon_C n) n law19_OccupancyConflictIsCommon_c0 ⟨118, [(0, .d (D.int .i64 a0)), (1, .d (D.sl 1 a1))], []⟩ k = law19_OccupancyConflictIsCommon_p55 n a0 a1 (fun w627 => k .ret ⟨118, [(4, .d (D.bool w627))], []⟩) := by
  rw [law19_OccupancyConflictIsCommon_c0_eq]
  unfold law19_OccupancyConflictIsCommon_p55
  exact (law19_OccupancyConflictIsCommon_p1_eq n a0 a1 (seqK (law19_OccupancyConflictIsCommon_C n) n law19_OccupancyConflictIsCommon_c54 k)).trans (law19_OccupancyConflictIsCommon_p1_congr n a0 a1 (law19_OccupancyConflictIsCommon_p54_eq n a0 a1 k))
theorem law19_OccupancyConflictIsCommon_vfn {R : Type} (n : Nat) (a0 : Int) (a1 : List (List D)) (K : AV → Option R) : vfn (law19_OccupancyConflictIsCommon_C n) n Try.f6 [.d (D.int .i64 a0), .d (D.sl 1 a1)] [] (retF [[0]] K) = law19_OccupancyConflictIsCommon n a0 a1 (fun r0 => K (.d (D.bool r0))) :=
  (show vfn (law19_OccupancyConflictIsCommon_C n) n Try.f6 [.d (D.int .i64 a0), .d (D.sl 1 a1)] [] (retF [[0]] K) = vexec (law19_OccupancyConflictIsCommon_C n) n law19_OccupancyConflictIsCommon_c0 ⟨118, [(0, .d (D.int .i64 a0)), (1, .d (D.sl 1 a1))], []⟩ (retX law19_OccupancyConflictIsCommon_tt [.tmp 4] (retF [[0]] K)) from vfn_at (by kernel_rfl) (by kernel_rfl) rfl (by kernel_rfl) rfl (by kernel_rfl) rfl).trans ((law19_OccupancyConflictIsCommon_p55_eq n a0 a1 (retX law19_OccupancyConflictIsCommon_tt [.tmp 4] (retF [[0]] K))).trans (by kernel_rfl))
def law19_OccupancyConflictIsCommon_K : AV → Option (Bool) := fun av => match av with
  | .d (D.bool r0) => some r0
  | _ => none
def law19_OccupancyConflictIsCommon_e (n : Nat) : Entry := fun _ _ g avs _ k => match avs with
  | [c0, c1] => prI g .i64 c0 fun a0 => prS g 1 c1 fun a1 => 
    gb g (law19_OccupancyConflictIsCommon n a0 a1 some) false fun r => k ⟨.d (D.bool r), [], []⟩
  | _ => none
theorem law19_OccupancyConflictIsCommon_ok (n : Nat) : EntryOK Try.prog 6 (law19_OccupancyConflictIsCommon_e n) := by
  intro R site g avs hl k r h
  unfold law19_OccupancyConflictIsCommon_e at h
  split at h
  rotate_left
  · cases h
  replace h := prI_some h
  obtain ⟨a0, h, le0⟩ := h
  replace h := prS_some h
  obtain ⟨a1, h, le1⟩ := h
  replace h := gb_some h
  obtain ⟨res, h, hr⟩ := h
  refine ⟨_, h, fun hg => CallOK.conv (avs' := [.d (D.int .i64 a0), .d (D.sl 1 a1)]) (.cons (le0 hg) (.cons (le1 hg) (.nil))) (callOK_fix (K := law19_OccupancyConflictIsCommon_K) (res := res) (law19_OccupancyConflictIsCommon_VC n) (fn := Try.f6) (n := n) (by kernel_rfl) (by kernel_rfl) (by kernel_rfl) (ss := [[0]]) rfl ?_ ?_)⟩
  · exact (law19_OccupancyConflictIsCommon_vfn n a0 a1 law19_OccupancyConflictIsCommon_K).trans (hr hg)
  · intro x hx
    unfold law19_OccupancyConflictIsCommon_K at hx
    split at hx
    · injection hx with hx; subst hx; rfl
    · cases hx
end Go.Vx
