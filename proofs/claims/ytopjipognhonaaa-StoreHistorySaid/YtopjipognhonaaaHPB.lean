/- Part of a proof: texts Vplaw41 StoreHistory. No conditions of their own. -/
import Derived.Test.YtopjipognhonaaaProg
import Derived.Test.YtopjipognhonaaaHVC
import Derived.Test.YtopjipognhonaaaHFA
import Derived.Test.YtopjipognhonaaaHPA
/-
  law41_StoreHistory: the interpreter computes the pure function
-/
set_option linter.unusedVariables false
set_option linter.unusedSimpArgs false
set_option maxRecDepth 100000
namespace Go.Vx
open Go.Proofs
noncomputable def law41_StoreHistory_c0 : Code := bodyOf Try.f8
noncomputable def law41_StoreHistory_c1 : Code := cL (bodyOf Try.f8)
noncomputable def law41_StoreHistory_c2 : Code := cL (cR (bodyOf Try.f8))
noncomputable def law41_StoreHistory_c3 : Code := cL (cR (cR (bodyOf Try.f8)))
noncomputable def law41_StoreHistory_c4 : Code := cL (cR (cR (cR (bodyOf Try.f8))))
noncomputable def law41_StoreHistory_c5 : Code := cL (cL (cR (cR (cR (cR (bodyOf Try.f8))))))
noncomputable def law41_StoreHistory_c6 : Code := cL (cB (cB (cR (cL (cR (cR (cR (cR (bodyOf Try.f8)))))))))
noncomputable def law41_StoreHistory_c7 : Code := cL (cR (cB (cB (cR (cL (cR (cR (cR (cR (bodyOf Try.f8))))))))))
noncomputable def law41_StoreHistory_c8 : Code := cL (cB (cL (cR (cR (cB (cB (cR (cL (cR (cR (cR (cR (bodyOf Try.f8)))))))))))))
noncomputable def law41_StoreHistory_c9 : Code := cL (cR (cB (cL (cR (cR (cB (cB (cR (cL (cR (cR (cR (cR (bodyOf Try.f8))))))))))))))
noncomputable def law41_StoreHistory_c10 : Code := cL (cR (cR (cB (cL (cR (cR (cB (cB (cR (cL (cR (cR (cR (cR (bodyOf Try.f8)))))))))))))))
noncomputable def law41_StoreHistory_c11 : Code := cB (cL (cR (cR (cR (cB (cL (cR (cR (cB (cB (cR (cL (cR (cR (cR (cR (bodyOf Try.f8)))))))))))))))))
noncomputable def law41_StoreHistory_c12 : Code := cL (cR (cR (cR (cB (cL (cR (cR (cB (cB (cR (cL (cR (cR (cR (cR (bodyOf Try.f8))))))))))))))))
noncomputable def law41_StoreHistory_c13 : Code := cR (cR (cR (cR (cB (cL (cR (cR (cB (cB (cR (cL (cR (cR (cR (cR (bodyOf Try.f8))))))))))))))))
noncomputable def law41_StoreHistory_c14 : Code := cR (cR (cR (cB (cL (cR (cR (cB (cB (cR (cL (cR (cR (cR (cR (bodyOf Try.f8)))))))))))))))
noncomputable def law41_StoreHistory_c15 : Code := cR (cR (cB (cL (cR (cR (cB (cB (cR (cL (cR (cR (cR (cR (bodyOf Try.f8))))))))))))))
noncomputable def law41_StoreHistory_c16 : Code := cR (cB (cL (cR (cR (cB (cB (cR (cL (cR (cR (cR (cR (bodyOf Try.f8)))))))))))))
noncomputable def law41_StoreHistory_c17 : Code := cB (cL (cR (cR (cB (cB (cR (cL (cR (cR (cR (cR (bodyOf Try.f8))))))))))))
noncomputable def law41_StoreHistory_c18 : Code := cL (cR (cR (cB (cB (cR (cL (cR (cR (cR (cR (bodyOf Try.f8)))))))))))
noncomputable def law41_StoreHistory_c19 : Code := cR (cR (cR (cB (cB (cR (cL (cR (cR (cR (cR (bodyOf Try.f8)))))))))))
noncomputable def law41_StoreHistory_c20 : Code := cR (cR (cB (cB (cR (cL (cR (cR (cR (cR (bodyOf Try.f8))))))))))
noncomputable def law41_StoreHistory_c21 : Code := cR (cB (cB (cR (cL (cR (cR (cR (cR (bodyOf Try.f8)))))))))
noncomputable def law41_StoreHistory_c22 : Code := cB (cB (cR (cL (cR (cR (cR (cR (bodyOf Try.f8))))))))
noncomputable def law41_StoreHistory_c23 : Code := cB (cR (cL (cR (cR (cR (cR (bodyOf Try.f8)))))))
noncomputable def law41_StoreHistory_c24 : Code := cR (cL (cR (cR (cR (cR (bodyOf Try.f8))))))
noncomputable def law41_StoreHistory_c25 : Code := cL (cR (cR (cR (cR (bodyOf Try.f8)))))
noncomputable def law41_StoreHistory_c26 : Code := cL (cL (cR (cR (cR (cR (cR (bodyOf Try.f8)))))))
noncomputable def law41_StoreHistory_c27 : Code := cB (cB (cR (cL (cR (cR (cR (cR (cR (bodyOf Try.f8)))))))))
noncomputable def law41_StoreHistory_c28 : Code := cB (cR (cL (cR (cR (cR (cR (cR (bodyOf Try.f8))))))))
noncomputable def law41_StoreHistory_c29 : Code := cR (cL (cR (cR (cR (cR (cR (bodyOf Try.f8)))))))
noncomputable def law41_StoreHistory_c30 : Code := cL (cR (cR (cR (cR (cR (bodyOf Try.f8))))))
noncomputable def law41_StoreHistory_c31 : Code := cR (cR (cR (cR (cR (cR (bodyOf Try.f8))))))
noncomputable def law41_StoreHistory_c32 : Code := cR (cR (cR (cR (cR (bodyOf Try.f8)))))
noncomputable def law41_StoreHistory_c33 : Code := cR (cR (cR (cR (bodyOf Try.f8))))
noncomputable def law41_StoreHistory_c34 : Code := cR (cR (cR (bodyOf Try.f8)))
noncomputable def law41_StoreHistory_c35 : Code := cR (cR (bodyOf Try.f8))
noncomputable def law41_StoreHistory_c36 : Code := cR (bodyOf Try.f8)
theorem law41_StoreHistory_c12_eq : law41_StoreHistory_c12 = .block 2 law41_StoreHistory_c11 := by kernel_rfl
theorem law41_StoreHistory_c14_eq : law41_StoreHistory_c14 = .seq law41_StoreHistory_c12 law41_StoreHistory_c13 := by kernel_rfl
theorem law41_StoreHistory_c15_eq : law41_StoreHistory_c15 = .seq law41_StoreHistory_c10 law41_StoreHistory_c14 := by kernel_rfl
theorem law41_StoreHistory_c16_eq : law41_StoreHistory_c16 = .seq law41_StoreHistory_c9 law41_StoreHistory_c15 := by kernel_rfl
theorem law41_StoreHistory_c17_eq : law41_StoreHistory_c17 = .seq law41_StoreHistory_c8 law41_StoreHistory_c16 := by kernel_rfl
theorem law41_StoreHistory_c18_eq : law41_StoreHistory_c18 = .block 1 law41_StoreHistory_c17 := by kernel_rfl
theorem law41_StoreHistory_c20_eq : law41_StoreHistory_c20 = .seq law41_StoreHistory_c18 law41_StoreHistory_c19 := by kernel_rfl
theorem law41_StoreHistory_c21_eq : law41_StoreHistory_c21 = .seq law41_StoreHistory_c7 law41_StoreHistory_c20 := by kernel_rfl
theorem law41_StoreHistory_c22_eq : law41_StoreHistory_c22 = .seq law41_StoreHistory_c6 law41_StoreHistory_c21 := by kernel_rfl
theorem law41_StoreHistory_c23_eq : law41_StoreHistory_c23 = .loop law41_StoreHistory_c22 := by kernel_rfl
theorem law41_StoreHistory_c24_eq : law41_StoreHistory_c24 = .block 0 law41_StoreHistory_c23 := by kernel_rfl
theorem law41_StoreHistory_c25_eq : law41_StoreHistory_c25 = .seq law41_StoreHistory_c5 law41_StoreHistory_c24 := by kernel_rfl
theorem law41_StoreHistory_c28_eq : law41_StoreHistory_c28 = .loop law41_StoreHistory_c27 := by kernel_rfl
theorem law41_StoreHistory_c29_eq : law41_StoreHistory_c29 = .block 3 law41_StoreHistory_c28 := by kernel_rfl
theorem law41_StoreHistory_c30_eq : law41_StoreHistory_c30 = .seq law41_StoreHistory_c26 law41_StoreHistory_c29 := by kernel_rfl
theorem law41_StoreHistory_c32_eq : law41_StoreHistory_c32 = .seq law41_StoreHistory_c30 law41_StoreHistory_c31 := by kernel_rfl
theorem law41_StoreHistory_c33_eq : law41_StoreHistory_c33 = .seq law41_StoreHistory_c25 law41_StoreHistory_c32 := by kernel_rfl
theorem law41_StoreHistory_c34_eq : law41_StoreHistory_c34 = .seq law41_StoreHistory_c4 law41_StoreHistory_c33 := by kernel_rfl
theorem law41_StoreHistory_c35_eq : law41_StoreHistory_c35 = .seq law41_StoreHistory_c3 law41_StoreHistory_c34 := by kernel_rfl
theorem law41_StoreHistory_c36_eq : law41_StoreHistory_c36 = .seq law41_StoreHistory_c2 law41_StoreHistory_c35 := by kernel_rfl
theorem law41_StoreHistory_c0_eq : law41_StoreHistory_c0 = .seq law41_StoreHistory_c1 law41_StoreHistory_c36 := by kernel_rfl
def law41_StoreHistory_tt : TT := [(3, ⟨.int .i64, 1, 8, [.int .i64 0], [.int .i64 0], [], none⟩), (9, ⟨.str, 1, 16, [.string ⟨#[]⟩], [.str []], [], none⟩), (23, ⟨.struct, 2, 24, [.int .i64 0, .string ⟨#[]⟩], [.int .i64 0, .str []], [(0, 3), (1, 9)], some [.int .i64, .str]⟩), (24, ⟨.int .i64, 1, 8, [.int .i64 0], [.int .i64 0], [], none⟩), (32, ⟨.sl 23 2, 1, 24, [.slice none 0 0], [.sl 2 []], [], none⟩)]
theorem law41_StoreHistory_tt_eq : mkTT Try.prog [3, 9, 23, 24, 32] = law41_StoreHistory_tt := by kernel_rfl
def law41_StoreHistory_cfg : List (Nat × Cfg) := [(0, ⟨[0], [], [], [], []⟩), (1, ⟨[3], [], [], [], []⟩), (2, ⟨[3, 4], [], [], [], []⟩), (3, ⟨[3, 4, 5], [], [], [], []⟩), (4, ⟨[4, 5, 19, 20, 21], [], [(5, 1005, 23, 2)], [], []⟩), (5, ⟨[4, 5, 19, 20, 21, 22], [(1005, 1005)], [], [], []⟩), (6, ⟨[4, 5, 7, 19, 20, 21], [(7, 7), (1005, 1005)], [], [], []⟩), (7, ⟨[4, 5, 7, 8, 9, 19, 20, 21], [(7, 7), (1005, 1005)], [], [], []⟩), (8, ⟨[4, 5, 7, 8, 9, 10, 19, 20, 21], [(7, 7), (1005, 1005)], [], [], []⟩), (9, ⟨[4, 5, 7, 8, 9, 10, 19, 20, 21, 51], [(7, 7), (1005, 1005)], [], [], []⟩), (10, ⟨[4, 5, 7, 8, 9, 10, 19, 20, 21, 51], [(7, 7), (1005, 1005)], [], [], []⟩), (11, ⟨[4, 5, 7, 8, 10, 19, 20, 21, 51], [(7, 7), (1005, 1005)], [], [], []⟩), (12, ⟨[2], [], [], [], []⟩), (13, ⟨[4, 5, 7, 8, 19, 20, 21, 79], [(7, 7), (1005, 1005)], [], [], []⟩), (14, ⟨[4, 5, 19, 20, 21], [(84, 1005)], [], [], []⟩), (15, ⟨[4, 5, 19, 20, 21], [(1005, 1005)], [], [], []⟩), (16, ⟨[4, 5, 86, 87, 88], [(1005, 1005)], [], [], []⟩), (17, ⟨[4, 5, 86, 87, 88, 89], [(1005, 1005)], [], [], []⟩), (18, ⟨[4, 5, 12, 86, 87, 88], [(12, 12), (1005, 1005)], [], [], []⟩), (19, ⟨[4, 5, 12, 13, 14, 86, 87, 88], [(12, 12), (13, 13), (1005, 1005)], [], [], []⟩), (20, ⟨[4, 5, 86, 87, 88, 105], [(1005, 1005)], [], [], []⟩), (21, ⟨[2], [], [], [], []⟩), (22, ⟨[4, 5, 86, 87, 88], [(1005, 1005)], [], [], []⟩), (23, ⟨[4, 5, 15, 16], [(1005, 1005)], [], [], []⟩), (24, ⟨[2], [], [], [], []⟩)]
def law41_StoreHistory_C (n : Nat) : VC := ⟨specOf [(17, law41_versions_e n), (22, store_Append_e n), (24, store_Get_e n), (19, store_Scan_e n), (15, law41_awake_e n), (21, keep_Same_railplan_api_Version_e n)], law41_StoreHistory_tt, law41_StoreHistory_cfg⟩
theorem law41_StoreHistory_ents (n : Nat) : EntsOK Try.prog [(17, law41_versions_e n), (22, store_Append_e n), (24, store_Get_e n), (19, store_Scan_e n), (15, law41_awake_e n), (21, keep_Same_railplan_api_Version_e n)] := ⟨law41_versions_ok n, ⟨store_Append_ok n, ⟨store_Get_ok n, ⟨store_Scan_ok n, ⟨law41_awake_ok n, ⟨keep_Same_railplan_api_Version_ok n, trivial⟩⟩⟩⟩⟩⟩
theorem law41_StoreHistory_VC (n : Nat) : VCOk Try.prog (law41_StoreHistory_C n) := ⟨specOf_ok (law41_StoreHistory_ents n), (law41_StoreHistory_tt_eq ▸ mkTT_ok _ : TOk Try.prog law41_StoreHistory_tt), by kernel_rfl⟩
theorem law41_StoreHistory_p1_congr {R : Type} (n : Nat) (a0 : List (List D)) {k0 kk0 : Option R} (hq0 : k0 = kk0) : law41_StoreHistory_p1 n a0 k0 = law41_StoreHistory_p1 n a0 kk0 := by
  obtain rfl : k0 = kk0 := hq0
  rfl
theorem law41_StoreHistory_p2_congr {R : Type} (n : Nat) (a0 : List (List D)) {k0 kk0 : (List (List D)) → Option R} (hq0 : ∀ x0, k0 x0 = kk0 x0) : law41_StoreHistory_p2 n a0 k0 = law41_StoreHistory_p2 n a0 kk0 := by
  obtain rfl : k0 = kk0 := funext fun x0 => hq0 x0
  rfl
theorem law41_StoreHistory_p3_congr {R : Type} (n : Nat) (w2 : List (List D)) {k0 kk0 : Option R} (hq0 : k0 = kk0) : law41_StoreHistory_p3 n w2 k0 = law41_StoreHistory_p3 n w2 kk0 := by
  obtain rfl : k0 = kk0 := hq0
  rfl
theorem law41_StoreHistory_p4_congr {R : Type} (n : Nat) (w2 : List (List D)) {k0 kk0 : Option R} (hq0 : k0 = kk0) : law41_StoreHistory_p4 n w2 k0 = law41_StoreHistory_p4 n w2 kk0 := by
  obtain rfl : k0 = kk0 := hq0
  rfl
theorem law41_StoreHistory_p5_congr {R : Type} (n : Nat) (w2 : List (List D)) {k0 kk0 : Int → Option R} (hq0 : ∀ x0, k0 x0 = kk0 x0) : law41_StoreHistory_p5 n w2 k0 = law41_StoreHistory_p5 n w2 kk0 := by
  obtain rfl : k0 = kk0 := funext fun x0 => hq0 x0
  rfl
theorem law41_StoreHistory_p6_congr {R : Type} (n : Nat) (h5 : List UInt8) (w2 : List (List D)) (w4 : Int) (h8 : Int) (h9 : List (List D)) {k0 kk0 : Bool → Option R} (hq0 : ∀ x0, k0 x0 = kk0 x0) : law41_StoreHistory_p6 n h5 w2 w4 h8 h9 k0 = law41_StoreHistory_p6 n h5 w2 w4 h8 h9 kk0 := by
  obtain rfl : k0 = kk0 := funext fun x0 => hq0 x0
  rfl
theorem law41_StoreHistory_p7_congr {R : Type} (n : Nat) (h5 : List UInt8) (w2 : List (List D)) (w4 : Int) (h8 : Int) (w80 : Bool) (h9 : List (List D)) {k0 kk0 : Option R} {k1 kk1 : Option R} (hq0 : k0 = kk0) (hq1 : k1 = kk1) : law41_StoreHistory_p7 n h5 w2 w4 h8 w80 h9 k0 k1 = law41_StoreHistory_p7 n h5 w2 w4 h8 w80 h9 kk0 kk1 := by
  obtain rfl : k0 = kk0 := hq0
  obtain rfl : k1 = kk1 := hq1
  rfl
theorem law41_StoreHistory_p8_congr {R : Type} (n : Nat) (h5 : List UInt8) (w2 : List (List D)) (w4 : Int) (h8 : Int) (w80 : Bool) (h9 : List (List D)) {k0 kk0 : D → D → Option R} (hq0 : ∀ x0 x1, k0 x0 x1 = kk0 x0 x1) : law41_StoreHistory_p8 n h5 w2 w4 h8 w80 h9 k0 = law41_StoreHistory_p8 n h5 w2 w4 h8 w80 h9 kk0 := by
  obtain rfl : k0 = kk0 := funext fun x0 => funext fun x1 => hq0 x0 x1
  rfl
theorem law41_StoreHistory_p9_congr {R : Type} (n : Nat) (h5 : List UInt8) (w2 : List (List D)) (w4 : Int) (h8 : Int) (w84 : D) (w85 : D) (h9 : List (List D)) {k0 kk0 : (List UInt8) → Int → Option R} (hq0 : ∀ x0 x1, k0 x0 x1 = kk0 x0 x1) : law41_StoreHistory_p9 n h5 w2 w4 h8 w84 w85 h9 k0 = law41_StoreHistory_p9 n h5 w2 w4 h8 w84 w85 h9 kk0 := by
  obtain rfl : k0 = kk0 := funext fun x0 => funext fun x1 => hq0 x0 x1
  rfl
theorem law41_StoreHistory_p10_congr {R : Type} (n : Nat) (h5 : List UInt8) (w91 : List UInt8) (w92 : Int) (w2 : List (List D)) (w4 : Int) (h8 : Int) (w84 : D) (w85 : D) (h9 : List (List D)) {k0 kk0 : Bool → Option R} (hq0 : ∀ x0, k0 x0 = kk0 x0) : law41_StoreHistory_p10 n h5 w91 w92 w2 w4 h8 w84 w85 h9 k0 = law41_StoreHistory_p10 n h5 w91 w92 w2 w4 h8 w84 w85 h9 kk0 := by
  obtain rfl : k0 = kk0 := funext fun x0 => hq0 x0
  rfl
theorem law41_StoreHistory_p11_congr {R : Type} (n : Nat) (h5 : List UInt8) (w91 : List UInt8) (w92 : Int) (w100 : Bool) (w2 : List (List D)) (w4 : Int) (h8 : Int) (w84 : D) (w85 : D) (h9 : List (List D)) {k0 kk0 : Option R} {k1 kk1 : Bool → Option R} {k2 kk2 : Bool → Option R} (hq0 : k0 = kk0) (hq1 : ∀ x0, k1 x0 = kk1 x0) (hq2 : ∀ x0, k2 x0 = kk2 x0) : law41_StoreHistory_p11 n h5 w91 w92 w100 w2 w4 h8 w84 w85 h9 k0 k1 k2 = law41_StoreHistory_p11 n h5 w91 w92 w100 w2 w4 h8 w84 w85 h9 kk0 kk1 kk2 := by
  obtain rfl : k0 = kk0 := hq0
  obtain rfl : k1 = kk1 := funext fun x0 => hq1 x0
  obtain rfl : k2 = kk2 := funext fun x0 => hq2 x0
  rfl
theorem law41_StoreHistory_p12_congr {R : Type} (n : Nat) (h5 : List UInt8) (w91 : List UInt8) (w92 : Int) (w100 : Bool) (w2 : List (List D)) (w4 : Int) (h8 : Int) (w84 : D) (w85 : D) (h9 : List (List D)) {k0 kk0 : Option R} {k1 kk1 : Bool → Option R} {k2 kk2 : Bool → Option R} (hq0 : k0 = kk0) (hq1 : ∀ x0, k1 x0 = kk1 x0) (hq2 : ∀ x0, k2 x0 = kk2 x0) : law41_StoreHistory_p12 n h5 w91 w92 w100 w2 w4 h8 w84 w85 h9 k0 k1 k2 = law41_StoreHistory_p12 n h5 w91 w92 w100 w2 w4 h8 w84 w85 h9 kk0 kk1 kk2 := by
  obtain rfl : k0 = kk0 := hq0
  obtain rfl : k1 = kk1 := funext fun x0 => hq1 x0
  obtain rfl : k2 = kk2 := funext fun x0 => hq2 x0
  rfl
theorem law41_StoreHistory_p13_congr {R : Type} (n : Nat) (h5 : List UInt8) (w91 : List UInt8) (w92 : Int) (w100 : Bool) (w2 : List (List D)) (w4 : Int) (h8 : Int) (w107 : Bool) (w84 : D) (w85 : D) (h9 : List (List D)) {k0 kk0 : (List (List D)) → Option R} {k1 kk1 : Option R} (hq0 : ∀ x0, k0 x0 = kk0 x0) (hq1 : k1 = kk1) : law41_StoreHistory_p13 n h5 w91 w92 w100 w2 w4 h8 w107 w84 w85 h9 k0 k1 = law41_StoreHistory_p13 n h5 w91 w92 w100 w2 w4 h8 w107 w84 w85 h9 kk0 kk1 := by
  obtain rfl : k0 = kk0 := funext fun x0 => hq0 x0
  obtain rfl : k1 = kk1 := hq1
  rfl
theorem law41_StoreHistory_p14_congr {R : Type} (n : Nat) (h5 : List UInt8) (w91 : List UInt8) (w100 : Bool) (w2 : List (List D)) (w4 : Int) (h8 : Int) (w111 : Bool) (w84 : D) (w85 : D) (h9 : List (List D)) {k0 kk0 : (List (List D)) → Option R} {k1 kk1 : Option R} (hq0 : ∀ x0, k0 x0 = kk0 x0) (hq1 : k1 = kk1) : law41_StoreHistory_p14 n h5 w91 w100 w2 w4 h8 w111 w84 w85 h9 k0 k1 = law41_StoreHistory_p14 n h5 w91 w100 w2 w4 h8 w111 w84 w85 h9 kk0 kk1 := by
  obtain rfl : k0 = kk0 := funext fun x0 => hq0 x0
  obtain rfl : k1 = kk1 := hq1
  rfl
theorem law41_StoreHistory_p15_congr {R : Type} (n : Nat) (h5 : List UInt8) (w91 : List UInt8) (w92 : Int) (w100 : Bool) (w2 : List (List D)) (w4 : Int) (h8 : Int) (w84 : D) (w85 : D) (h9 : List (List D)) {k0 kk0 : Option R} {k1 kk1 : (List (List D)) → Option R} {k2 kk2 : Option R} (hq0 : k0 = kk0) (hq1 : ∀ x0, k1 x0 = kk1 x0) (hq2 : k2 = kk2) : law41_StoreHistory_p15 n h5 w91 w92 w100 w2 w4 h8 w84 w85 h9 k0 k1 k2 = law41_StoreHistory_p15 n h5 w91 w92 w100 w2 w4 h8 w84 w85 h9 kk0 kk1 kk2 := by
  obtain rfl : k0 = kk0 := hq0
  obtain rfl : k1 = kk1 := funext fun x0 => hq1 x0
  obtain rfl : k2 = kk2 := hq2
  rfl
theorem law41_StoreHistory_p16_congr {R : Type} (n : Nat) (h5 : List UInt8) (w91 : List UInt8) (w92 : Int) (w2 : List (List D)) (w4 : Int) (h8 : Int) (w84 : D) (w85 : D) (h9 : List (List D)) {k0 kk0 : Option R} {k1 kk1 : (List (List D)) → Option R} {k2 kk2 : Bool → Option R} (hq0 : k0 = kk0) (hq1 : ∀ x0, k1 x0 = kk1 x0) (hq2 : ∀ x0, k2 x0 = kk2 x0) : law41_StoreHistory_p16 n h5 w91 w92 w2 w4 h8 w84 w85 h9 k0 k1 k2 = law41_StoreHistory_p16 n h5 w91 w92 w2 w4 h8 w84 w85 h9 kk0 kk1 kk2 := by
  obtain rfl : k0 = kk0 := hq0
  obtain rfl : k1 = kk1 := funext fun x0 => hq1 x0
  obtain rfl : k2 = kk2 := funext fun x0 => hq2 x0
  rfl
theorem law41_StoreHistory_p17_congr {R : Type} (n : Nat) (h5 : List UInt8) (w2 : List (List D)) (w4 : Int) (h8 : Int) (w84 : D) (w85 : D) (h9 : List (List D)) {k0 kk0 : Option R} {k1 kk1 : (List UInt8) → (List (List D)) → Option R} {k2 kk2 : (List UInt8) → Bool → Option R} (hq0 : k0 = kk0) (hq1 : ∀ x0 x1, k1 x0 x1 = kk1 x0 x1) (hq2 : ∀ x0 x1, k2 x0 x1 = kk2 x0 x1) : law41_StoreHistory_p17 n h5 w2 w4 h8 w84 w85 h9 k0 k1 k2 = law41_StoreHistory_p17 n h5 w2 w4 h8 w84 w85 h9 kk0 kk1 kk2 := by
  obtain rfl : k0 = kk0 := hq0
  obtain rfl : k1 = kk1 := funext fun x0 => funext fun x1 => hq1 x0 x1
  obtain rfl : k2 = kk2 := funext fun x0 => funext fun x1 => hq2 x0 x1
  rfl
theorem law41_StoreHistory_p18_congr {R : Type} (n : Nat) (h5 : List UInt8) (w2 : List (List D)) (w4 : Int) (h8 : Int) (w80 : Bool) (h9 : List (List D)) {k0 kk0 : Option R} {k1 kk1 : (List UInt8) → (List (List D)) → Option R} {k2 kk2 : (List UInt8) → Bool → D → D → Option R} (hq0 : k0 = kk0) (hq1 : ∀ x0 x1, k1 x0 x1 = kk1 x0 x1) (hq2 : ∀ x0 x1 x2 x3, k2 x0 x1 x2 x3 = kk2 x0 x1 x2 x3) : law41_StoreHistory_p18 n h5 w2 w4 h8 w80 h9 k0 k1 k2 = law41_StoreHistory_p18 n h5 w2 w4 h8 w80 h9 kk0 kk1 kk2 := by
  obtain rfl : k0 = kk0 := hq0
  obtain rfl : k1 = kk1 := funext fun x0 => funext fun x1 => hq1 x0 x1
  obtain rfl : k2 = kk2 := funext fun x0 => funext fun x1 => funext fun x2 => funext fun x3 => hq2 x0 x1 x2 x3
  rfl
theorem law41_StoreHistory_p19_congr {R : Type} (n : Nat) (h5 : List UInt8) (w2 : List (List D)) (w4 : Int) (h8 : Int) (w80 : Bool) (h9 : List (List D)) {k0 kk0 : Option R} {k1 kk1 : (List UInt8) → (List (List D)) → Option R} {k2 kk2 : (List UInt8) → Bool → D → D → Option R} (hq0 : k0 = kk0) (hq1 : ∀ x0 x1, k1 x0 x1 = kk1 x0 x1) (hq2 : ∀ x0 x1 x2 x3, k2 x0 x1 x2 x3 = kk2 x0 x1 x2 x3) : law41_StoreHistory_p19 n h5 w2 w4 h8 w80 h9 k0 k1 k2 = law41_StoreHistory_p19 n h5 w2 w4 h8 w80 h9 kk0 kk1 kk2 := by
  obtain rfl : k0 = kk0 := hq0
  obtain rfl : k1 = kk1 := funext fun x0 => funext fun x1 => hq1 x0 x1
  obtain rfl : k2 = kk2 := funext fun x0 => funext fun x1 => funext fun x2 => funext fun x3 => hq2 x0 x1 x2 x3
  rfl
theorem law41_StoreHistory_p20_congr {R : Type} (n : Nat) (w129 : List UInt8) (w2 : List (List D)) (w4 : Int) (h8 : Int) (w130 : List (List D)) {k0 kk0 : Int → Option R} (hq0 : ∀ x0, k0 x0 = kk0 x0) : law41_StoreHistory_p20 n w129 w2 w4 h8 w130 k0 = law41_StoreHistory_p20 n w129 w2 w4 h8 w130 kk0 := by
  obtain rfl : k0 = kk0 := funext fun x0 => hq0 x0
  rfl
theorem law41_StoreHistory_p21_congr {R : Type} (n : Nat) (h5 : List UInt8) (w133 : List UInt8) (w2 : List (List D)) (w4 : Int) (h8 : Int) (w134 : Bool) (w135 : D) (w136 : D) (h9 : List (List D)) {k0 kk0 : Int → Option R} (hq0 : ∀ x0, k0 x0 = kk0 x0) : law41_StoreHistory_p21 n h5 w133 w2 w4 h8 w134 w135 w136 h9 k0 = law41_StoreHistory_p21 n h5 w133 w2 w4 h8 w134 w135 w136 h9 kk0 := by
  obtain rfl : k0 = kk0 := funext fun x0 => hq0 x0
  rfl
theorem law41_StoreHistory_p22_congr {R : Type} (n : Nat) (h5 : List UInt8) (w2 : List (List D)) (w4 : Int) (h8 : Int) (w80 : Bool) (h9 : List (List D)) {k0 kk0 : Option R} {k1 kk1 : (List UInt8) → Int → (List (List D)) → Option R} (hq0 : k0 = kk0) (hq1 : ∀ x0 x1 x2, k1 x0 x1 x2 = kk1 x0 x1 x2) : law41_StoreHistory_p22 n h5 w2 w4 h8 w80 h9 k0 k1 = law41_StoreHistory_p22 n h5 w2 w4 h8 w80 h9 kk0 kk1 := by
  obtain rfl : k0 = kk0 := hq0
  obtain rfl : k1 = kk1 := funext fun x0 => funext fun x1 => funext fun x2 => hq1 x0 x1 x2
  rfl
theorem law41_StoreHistory_p23_congr {R : Type} (n : Nat) (h5 : List UInt8) (w2 : List (List D)) (w4 : Int) (h8 : Int) (w80 : Bool) (h9 : List (List D)) {k0 kk0 : Option R} {k1 kk1 : (List UInt8) → Int → (List (List D)) → Option R} {k2 kk2 : Option R} (hq0 : k0 = kk0) (hq1 : ∀ x0 x1 x2, k1 x0 x1 x2 = kk1 x0 x1 x2) (hq2 : k2 = kk2) : law41_StoreHistory_p23 n h5 w2 w4 h8 w80 h9 k0 k1 k2 = law41_StoreHistory_p23 n h5 w2 w4 h8 w80 h9 kk0 kk1 kk2 := by
  obtain rfl : k0 = kk0 := hq0
  obtain rfl : k1 = kk1 := funext fun x0 => funext fun x1 => funext fun x2 => hq1 x0 x1 x2
  obtain rfl : k2 = kk2 := hq2
  rfl
theorem law41_StoreHistory_p24_congr {R : Type} (n : Nat) (h5 : List UInt8) (w2 : List (List D)) (w4 : Int) (h8 : Int) (h9 : List (List D)) {k0 kk0 : Option R} {k1 kk1 : (List UInt8) → Int → (List (List D)) → Option R} {k2 kk2 : Bool → Option R} (hq0 : k0 = kk0) (hq1 : ∀ x0 x1 x2, k1 x0 x1 x2 = kk1 x0 x1 x2) (hq2 : ∀ x0, k2 x0 = kk2 x0) : law41_StoreHistory_p24 n h5 w2 w4 h8 h9 k0 k1 k2 = law41_StoreHistory_p24 n h5 w2 w4 h8 h9 kk0 kk1 kk2 := by
  obtain rfl : k0 = kk0 := hq0
  obtain rfl : k1 = kk1 := funext fun x0 => funext fun x1 => funext fun x2 => hq1 x0 x1 x2
  obtain rfl : k2 = kk2 := funext fun x0 => hq2 x0
  rfl
theorem law41_StoreHistory_p25_congr {R : Type} (n : Nat) (w2 : List (List D)) (w4 : Int) {k0 kk0 : Option R} {k1 kk1 : (List UInt8) → Int → Bool → (List (List D)) → Option R} (hq0 : k0 = kk0) (hq1 : ∀ x0 x1 x2 x3, k1 x0 x1 x2 x3 = kk1 x0 x1 x2 x3) : law41_StoreHistory_p25 n w2 w4 k0 k1 = law41_StoreHistory_p25 n w2 w4 kk0 kk1 := by
  obtain rfl : k0 = kk0 := hq0
  obtain rfl : k1 = kk1 := funext fun x0 => funext fun x1 => funext fun x2 => funext fun x3 => hq1 x0 x1 x2 x3
  rfl
theorem law41_StoreHistory_p26_congr {R : Type} (n : Nat) (w2 : List (List D)) (w4 : Int) {k0 kk0 : Option R} {k1 kk1 : (List UInt8) → Int → Bool → (List (List D)) → Option R} (hq0 : k0 = kk0) (hq1 : ∀ x0 x1 x2 x3, k1 x0 x1 x2 x3 = kk1 x0 x1 x2 x3) : law41_StoreHistory_p26 n w2 w4 k0 k1 = law41_StoreHistory_p26 n w2 w4 kk0 kk1 := by
  obtain rfl : k0 = kk0 := hq0
  obtain rfl : k1 = kk1 := funext fun x0 => funext fun x1 => funext fun x2 => funext fun x3 => hq1 x0 x1 x2 x3
  rfl
theorem law41_StoreHistory_p27_congr {R : Type} (n : Nat) (w2 : List (List D)) {k0 kk0 : Option R} {k1 kk1 : (List UInt8) → Int → Int → Bool → (List (List D)) → Option R} (hq0 : k0 = kk0) (hq1 : ∀ x0 x1 x2 x3 x4, k1 x0 x1 x2 x3 x4 = kk1 x0 x1 x2 x3 x4) : law41_StoreHistory_p27 n w2 k0 k1 = law41_StoreHistory_p27 n w2 kk0 kk1 := by
  obtain rfl : k0 = kk0 := hq0
  obtain rfl : k1 = kk1 := funext fun x0 => funext fun x1 => funext fun x2 => funext fun x3 => funext fun x4 => hq1 x0 x1 x2 x3 x4
  rfl
theorem law41_StoreHistory_p28_congr {R : Type} (n : Nat) (w160 : List UInt8) (w2 : List (List D)) (w161 : Int) (w162 : Int) (w163 : Bool) (w164 : List (List D)) {k0 kk0 : Int → Option R} (hq0 : ∀ x0, k0 x0 = kk0 x0) : law41_StoreHistory_p28 n w160 w2 w161 w162 w163 w164 k0 = law41_StoreHistory_p28 n w160 w2 w161 w162 w163 w164 kk0 := by
  obtain rfl : k0 = kk0 := funext fun x0 => hq0 x0
  rfl
theorem law41_StoreHistory_p29_congr {R : Type} (n : Nat) (w160 : List UInt8) (w166 : Int) (h169 : Int) (w164 : List (List D)) {k0 kk0 : Option R} {k1 kk1 : Int → Option R} {k2 kk2 : Bool → Option R} (hq0 : k0 = kk0) (hq1 : ∀ x0, k1 x0 = kk1 x0) (hq2 : ∀ x0, k2 x0 = kk2 x0) : law41_StoreHistory_p29 n w160 w166 h169 w164 k0 k1 k2 = law41_StoreHistory_p29 n w160 w166 h169 w164 kk0 kk1 kk2 := by
  obtain rfl : k0 = kk0 := hq0
  obtain rfl : k1 = kk1 := funext fun x0 => hq1 x0
  obtain rfl : k2 = kk2 := funext fun x0 => hq2 x0
  rfl
theorem law41_StoreHistory_p30_congr {R : Type} (n : Nat) (w160 : List UInt8) (w166 : Int) (w164 : List (List D)) {k0 kk0 : Option R} {k1 kk1 : Int → Bool → Option R} (hq0 : k0 = kk0) (hq1 : ∀ x0 x1, k1 x0 x1 = kk1 x0 x1) : law41_StoreHistory_p30 n w160 w166 w164 k0 k1 = law41_StoreHistory_p30 n w160 w166 w164 kk0 kk1 := by
  obtain rfl : k0 = kk0 := hq0
  obtain rfl : k1 = kk1 := funext fun x0 => funext fun x1 => hq1 x0 x1
  rfl
theorem law41_StoreHistory_p31_congr {R : Type} (n : Nat) (w160 : List UInt8) (w166 : Int) (w164 : List (List D)) {k0 kk0 : Option R} {k1 kk1 : Int → Bool → Option R} (hq0 : k0 = kk0) (hq1 : ∀ x0 x1, k1 x0 x1 = kk1 x0 x1) : law41_StoreHistory_p31 n w160 w166 w164 k0 k1 = law41_StoreHistory_p31 n w160 w166 w164 kk0 kk1 := by
  obtain rfl : k0 = kk0 := hq0
  obtain rfl : k1 = kk1 := funext fun x0 => funext fun x1 => hq1 x0 x1
  rfl
theorem law41_StoreHistory_p32_congr {R : Type} (n : Nat) (w160 : List UInt8) (w2 : List (List D)) (w161 : Int) (w162 : Int) (w163 : Bool) (w164 : List (List D)) {k0 kk0 : Option R} {k1 kk1 : Int → Int → Bool → Option R} (hq0 : k0 = kk0) (hq1 : ∀ x0 x1 x2, k1 x0 x1 x2 = kk1 x0 x1 x2) : law41_StoreHistory_p32 n w160 w2 w161 w162 w163 w164 k0 k1 = law41_StoreHistory_p32 n w160 w2 w161 w162 w163 w164 kk0 kk1 := by
  obtain rfl : k0 = kk0 := hq0
  obtain rfl : k1 = kk1 := funext fun x0 => funext fun x1 => funext fun x2 => hq1 x0 x1 x2
  rfl
theorem law41_StoreHistory_p33_congr {R : Type} (n : Nat) (w160 : List UInt8) (w201 : Int) (w202 : Int) (w203 : Bool) (w164 : List (List D)) {k0 kk0 : Bool → Option R} (hq0 : ∀ x0, k0 x0 = kk0 x0) : law41_StoreHistory_p33 n w160 w201 w202 w203 w164 k0 = law41_StoreHistory_p33 n w160 w201 w202 w203 w164 kk0 := by
  obtain rfl : k0 = kk0 := funext fun x0 => hq0 x0
  rfl
theorem law41_StoreHistory_p34_congr {R : Type} (n : Nat) (w160 : List UInt8) (w2 : List (List D)) (w161 : Int) (w162 : Int) (w163 : Bool) (w164 : List (List D)) {k0 kk0 : Bool → Option R} (hq0 : ∀ x0, k0 x0 = kk0 x0) : law41_StoreHistory_p34 n w160 w2 w161 w162 w163 w164 k0 = law41_StoreHistory_p34 n w160 w2 w161 w162 w163 w164 kk0 := by
  obtain rfl : k0 = kk0 := funext fun x0 => hq0 x0
  rfl
theorem law41_StoreHistory_p35_congr {R : Type} (n : Nat) (w2 : List (List D)) {k0 kk0 : Bool → Option R} (hq0 : ∀ x0, k0 x0 = kk0 x0) : law41_StoreHistory_p35 n w2 k0 = law41_StoreHistory_p35 n w2 kk0 := by
  obtain rfl : k0 = kk0 := funext fun x0 => hq0 x0
  rfl
theorem law41_StoreHistory_p36_congr {R : Type} (n : Nat) (w2 : List (List D)) {k0 kk0 : Bool → Option R} (hq0 : ∀ x0, k0 x0 = kk0 x0) : law41_StoreHistory_p36 n w2 k0 = law41_StoreHistory_p36 n w2 kk0 := by
  obtain rfl : k0 = kk0 := funext fun x0 => hq0 x0
  rfl
theorem law41_StoreHistory_p37_congr {R : Type} (n : Nat) (w2 : List (List D)) {k0 kk0 : Bool → Option R} (hq0 : ∀ x0, k0 x0 = kk0 x0) : law41_StoreHistory_p37 n w2 k0 = law41_StoreHistory_p37 n w2 kk0 := by
  obtain rfl : k0 = kk0 := funext fun x0 => hq0 x0
  rfl
theorem law41_StoreHistory_p38_congr {R : Type} (n : Nat) (a0 : List (List D)) {k0 kk0 : Bool → Option R} (hq0 : ∀ x0, k0 x0 = kk0 x0) : law41_StoreHistory_p38 n a0 k0 = law41_StoreHistory_p38 n a0 kk0 := by
  obtain rfl : k0 = kk0 := funext fun x0 => hq0 x0
  rfl
theorem law41_StoreHistory_p39_congr {R : Type} (n : Nat) (a0 : List (List D)) {k0 kk0 : Bool → Option R} (hq0 : ∀ x0, k0 x0 = kk0 x0) : law41_StoreHistory_p39 n a0 k0 = law41_StoreHistory_p39 n a0 kk0 := by
  obtain rfl : k0 = kk0 := funext fun x0 => hq0 x0
  rfl
theorem law41_StoreHistory_p1_eq {R : Type} (n : Nat) (a0 : List (List D)) (k : Exit → St → Option R) : vexec (law41_StoreHistory_C n) n law41_StoreHistory_c1 ⟨124, [(0, .d (D.sl 1 a0))], []⟩ k = law41_StoreHistory_p1 n a0 (k .normal ⟨124, [(0, .d (D.sl 1 a0))], []⟩) := by kernel_rfl
theorem law41_StoreHistory_p2_eq {R : Type} (n : Nat) (a0 : List (List D)) (k : Exit → St → Option R) : vexec (law41_StoreHistory_C n) n law41_StoreHistory_c2 ⟨124, [(0, .d (D.sl 1 a0))], []⟩ k = law41_StoreHistory_p2 n a0 (fun r1 => k .normal ⟨124, [(3, .d (D.sl 2 r1))], []⟩) := by kernel_rfl
theorem law41_StoreHistory_p3_eq {R : Type} (n : Nat) (w2 : List (List D)) (k : Exit → St → Option R) : vexec (law41_StoreHistory_C n) n law41_StoreHistory_c3 ⟨124, [(3, .d (D.sl 2 w2))], []⟩ k = law41_StoreHistory_p3 n w2 (k .normal ⟨124, [(3, .d (D.sl 2 w2)), (4, .d (D.str []))], []⟩) := by kernel_rfl
theorem law41_StoreHistory_p4_eq {R : Type} (n : Nat) (w2 : List (List D)) (k : Exit → St → Option R) : vexec (law41_StoreHistory_C n) n law41_StoreHistory_c4 ⟨124, [(3, .d (D.sl 2 w2)), (4, .d (D.str []))], []⟩ k = law41_StoreHistory_p4 n w2 (k .normal ⟨124, [(3, .d (D.sl 2 w2)), (4, .d (D.str [])), (5, .nil)], []⟩) := by kernel_rfl
theorem law41_StoreHistory_p5_eq {R : Type} (n : Nat) (w2 : List (List D)) (k : Exit → St → Option R) : vexec (law41_StoreHistory_C n) n law41_StoreHistory_c5 ⟨124, [(3, .d (D.sl 2 w2)), (4, .d (D.str [])), (5, .nil)], []⟩ k = law41_StoreHistory_p5 n w2 (fun z3 => k .normal ⟨124, [(4, .d (D.str [])), (5, .arr 1005), (19, .d (D.sl 2 w2)), (20, .d (D.int .i64 z3)), (21, .d (D.int .i64 (0 : Int)))], [(1005, .arr 23 2 [])]⟩) := by kernel_rfl
theorem law41_StoreHistory_p6_eq {R : Type} (n : Nat) (h5 : List UInt8) (w2 : List (List D)) (w4 : Int) (h8 : Int) (h9 : List (List D)) (k : Exit → St → Option R) : vexec (law41_StoreHistory_C n) n law41_StoreHistory_c6 ⟨124, [(4, .d (D.str h5)), (5, .arr 1005), (19, .d (D.sl 2 w2)), (20, .d (D.int .i64 w4)), (21, .d (D.int .i64 h8))], [(1005, .arr 23 2 h9)]⟩ k = law41_StoreHistory_p6 n h5 w2 w4 h8 h9 (fun z79 => k .normal ⟨124, [(4, .d (D.str h5)), (5, .arr 1005), (19, .d (D.sl 2 w2)), (20, .d (D.int .i64 w4)), (21, .d (D.int .i64 h8)), (22, .d (D.bool z79))], [(1005, .arr 23 2 h9)]⟩) := by kernel_rfl
theorem law41_StoreHistory_p7_eq {R : Type} (n : Nat) (h5 : List UInt8) (w2 : List (List D)) (w4 : Int) (h8 : Int) (w80 : Bool) (h9 : List (List D)) (k : Exit → St → Option R) : vexec (law41_StoreHistory_C n) n law41_StoreHistory_c7 ⟨124, [(4, .d (D.str h5)), (5, .arr 1005), (19, .d (D.sl 2 w2)), (20, .d (D.int .i64 w4)), (21, .d (D.int .i64 h8)), (22, .d (D.bool w80))], [(1005, .arr 23 2 h9)]⟩ k = law41_StoreHistory_p7 n h5 w2 w4 h8 w80 h9 (k .normal ⟨124, [(4, .d (D.str h5)), (5, .arr 1005), (19, .d (D.sl 2 w2)), (20, .d (D.int .i64 w4)), (21, .d (D.int .i64 h8)), (22, .d (D.bool w80))], [(1005, .arr 23 2 h9)]⟩) (k (.exit 0) ⟨124, [(4, .d (D.str h5)), (5, .arr 1005), (19, .d (D.sl 2 w2)), (20, .d (D.int .i64 w4)), (21, .d (D.int .i64 h8)), (22, .d (D.bool w80))], [(1005, .arr 23 2 h9)]⟩) := by kernel_rfl
theorem law41_StoreHistory_p8_eq {R : Type} (n : Nat) (h5 : List UInt8) (w2 : List (List D)) (w4 : Int) (h8 : Int) (w80 : Bool) (h9 : List (List D)) (k : Exit → St → Option R) : vexec (law41_StoreHistory_C n) n law41_StoreHistory_c8 ⟨124, [(4, .d (D.str h5)), (5, .arr 1005), (19, .d (D.sl 2 w2)), (20, .d (D.int .i64 w4)), (21, .d (D.int .i64 h8)), (22, .d (D.bool w80))], [(1005, .arr 23 2 h9)]⟩ k = law41_StoreHistory_p8 n h5 w2 w4 h8 w80 h9 (fun c82 c83 => k .normal ⟨124, [(4, .d (D.str h5)), (5, .arr 1005), (7, .ptr 7 0), (19, .d (D.sl 2 w2)), (20, .d (D.int .i64 w4)), (21, .d (D.int .i64 h8))], [(7, .box [.d c82, .d c83]), (1005, .arr 23 2 h9)]⟩) := by kernel_rfl
theorem law41_StoreHistory_p9_eq {R : Type} (n : Nat) (h5 : List UInt8) (w2 : List (List D)) (w4 : Int) (h8 : Int) (w84 : D) (w85 : D) (h9 : List (List D)) (k : Exit → St → Option R) : vexec (law41_StoreHistory_C n) n law41_StoreHistory_c9 ⟨124, [(4, .d (D.str h5)), (5, .arr 1005), (7, .ptr 7 0), (19, .d (D.sl 2 w2)), (20, .d (D.int .i64 w4)), (21, .d (D.int .i64 h8))], [(7, .box [.d w84, .d w85]), (1005, .arr 23 2 h9)]⟩ k = law41_StoreHistory_p9 n h5 w2 w4 h8 w84 w85 h9 (fun z89 z90 => k .normal ⟨124, [(4, .d (D.str h5)), (5, .arr 1005), (7, .ptr 7 0), (8, .d (D.str z89)), (9, .d (D.int .i64 z90)), (19, .d (D.sl 2 w2)), (20, .d (D.int .i64 w4)), (21, .d (D.int .i64 h8))], [(7, .box [.d w84, .d w85]), (1005, .arr 23 2 h9)]⟩) := by kernel_rfl
theorem law41_StoreHistory_p10_eq {R : Type} (n : Nat) (h5 : List UInt8) (w91 : List UInt8) (w92 : Int) (w2 : List (List D)) (w4 : Int) (h8 : Int) (w84 : D) (w85 : D) (h9 : List (List D)) (k : Exit → St → Option R) : vexec (law41_StoreHistory_C n) n law41_StoreHistory_c10 ⟨124, [(4, .d (D.str h5)), (5, .arr 1005), (7, .ptr 7 0), (8, .d (D.str w91)), (9, .d (D.int .i64 w92)), (19, .d (D.sl 2 w2)), (20, .d (D.int .i64 w4)), (21, .d (D.int .i64 h8))], [(7, .box [.d w84, .d w85]), (1005, .arr 23 2 h9)]⟩ k = law41_StoreHistory_p10 n h5 w91 w92 w2 w4 h8 w84 w85 h9 (fun z99 => k .normal ⟨124, [(4, .d (D.str h5)), (5, .arr 1005), (7, .ptr 7 0), (8, .d (D.str w91)), (9, .d (D.int .i64 w92)), (10, .d (D.bool z99)), (19, .d (D.sl 2 w2)), (20, .d (D.int .i64 w4)), (21, .d (D.int .i64 h8))], [(7, .box [.d w84, .d w85]), (1005, .arr 23 2 h9)]⟩) := by kernel_rfl
theorem law41_StoreHistory_p11_eq {R : Type} (n : Nat) (h5 : List UInt8) (w91 : List UInt8) (w92 : Int) (w100 : Bool) (w2 : List (List D)) (w4 : Int) (h8 : Int) (w84 : D) (w85 : D) (h9 : List (List D)) (k : Exit → St → Option R) : vexec (law41_StoreHistory_C n) n law41_StoreHistory_c11 ⟨124, [(4, .d (D.str h5)), (5, .arr 1005), (7, .ptr 7 0), (8, .d (D.str w91)), (9, .d (D.int .i64 w92)), (10, .d (D.bool w100)), (19, .d (D.sl 2 w2)), (20, .d (D.int .i64 w4)), (21, .d (D.int .i64 h8))], [(7, .box [.d w84, .d w85]), (1005, .arr 23 2 h9)]⟩ k = law41_StoreHistory_p11 n h5 w91 w92 w100 w2 w4 h8 w84 w85 h9 (k .ret ⟨124, [(2, .d (D.bool false))], []⟩) (fun z103 => k .normal ⟨124, [(4, .d (D.str h5)), (5, .arr 1005), (7, .ptr 7 0), (8, .d (D.str w91)), (9, .d (D.int .i64 w92)), (10, .d (D.bool w100)), (19, .d (D.sl 2 w2)), (20, .d (D.int .i64 w4)), (21, .d (D.int .i64 h8)), (51, .d (D.bool z103))], [(7, .box [.d w84, .d w85]), (1005, .arr 23 2 h9)]⟩) (fun z104 => k .normal ⟨124, [(4, .d (D.str h5)), (5, .arr 1005), (7, .ptr 7 0), (8, .d (D.str w91)), (10, .d (D.bool w100)), (19, .d (D.sl 2 w2)), (20, .d (D.int .i64 w4)), (21, .d (D.int .i64 h8)), (51, .d (D.bool z104))], [(7, .box [.d w84, .d w85]), (1005, .arr 23 2 h9)]⟩) := by kernel_rfl
theorem law41_StoreHistory_p12_eq {R : Type} (n : Nat) (h5 : List UInt8) (w91 : List UInt8) (w92 : Int) (w100 : Bool) (w2 : List (List D)) (w4 : Int) (h8 : Int) (w84 : D) (w85 : D) (h9 : List (List D)) (k : Exit → St → Option R) : vexec (law41_StoreHistory_C n) n law41_StoreHistory_c12 ⟨124, [(4, .d (D.str h5)), (5, .arr 1005), (7, .ptr 7 0), (8, .d (D.str w91)), (9, .d (D.int .i64 w92)), (10, .d (D.bool w100)), (19, .d (D.sl 2 w2)), (20, .d (D.int .i64 w4)), (21, .d (D.int .i64 h8))], [(7, .box [.d w84, .d w85]), (1005, .arr 23 2 h9)]⟩ k = law41_StoreHistory_p12 n h5 w91 w92 w100 w2 w4 h8 w84 w85 h9 (k .ret ⟨124, [(2, .d (D.bool false))], []⟩) (fun w105 => k .normal ⟨124, [(4, .d (D.str h5)), (5, .arr 1005), (7, .ptr 7 0), (8, .d (D.str w91)), (9, .d (D.int .i64 w92)), (10, .d (D.bool w100)), (19, .d (D.sl 2 w2)), (20, .d (D.int .i64 w4)), (21, .d (D.int .i64 h8)), (51, .d (D.bool w105))], [(7, .box [.d w84, .d w85]), (1005, .arr 23 2 h9)]⟩) (fun w106 => k .normal ⟨124, [(4, .d (D.str h5)), (5, .arr 1005), (7, .ptr 7 0), (8, .d (D.str w91)), (10, .d (D.bool w100)), (19, .d (D.sl 2 w2)), (20, .d (D.int .i64 w4)), (21, .d (D.int .i64 h8)), (51, .d (D.bool w106))], [(7, .box [.d w84, .d w85]), (1005, .arr 23 2 h9)]⟩) := by
  rw [law41_StoreHistory_c12_eq]
  unfold law41_StoreHistory_p12
  exact (law41_StoreHistory_p11_eq n h5 w91 w92 w100 w2 w4 h8 w84 w85 h9 (blockK 2 k)).trans (law41_StoreHistory_p11_congr n h5 w91 w92 w100 w2 w4 h8 w84 w85 h9 (rfl) (fun w105 => rfl) (fun w106 => rfl))
theorem law41_StoreHistory_p13_eq {R : Type} (n : Nat) (h5 : List UInt8) (w91 : List UInt8) (w92 : Int) (w100 : Bool) (w2 : List (List D)) (w4 : Int) (h8 : Int) (w107 : Bool) (w84 : D) (w85 : D) (h9 : List (List D)) (k : Exit → St → Option R) : vexec (law41_StoreHistory_C n) n law41_StoreHistory_c13 ⟨124, [(4, .d (D.str h5)), (5, .arr 1005), (7, .ptr 7 0), (8, .d (D.str w91)), (9, .d (D.int .i64 w92)), (10, .d (D.bool w100)), (19, .d (D.sl 2 w2)), (20, .d (D.int .i64 w4)), (21, .d (D.int .i64 h8)), (51, .d (D.bool w107))], [(7, .box [.d w84, .d w85]), (1005, .arr 23 2 h9)]⟩ k = law41_StoreHistory_p13 n h5 w91 w92 w100 w2 w4 h8 w107 w84 w85 h9 (fun z109 => k .normal ⟨124, [(4, .d (D.str w91)), (5, .arr 1005), (19, .d (D.sl 2 w2)), (20, .d (D.int .i64 w4)), (21, .d (D.int .i64 h8))], [(1005, .arr 23 2 z109)]⟩) (k .normal ⟨124, [(4, .d (D.str h5)), (5, .arr 1005), (7, .ptr 7 0), (8, .d (D.str w91)), (19, .d (D.sl 2 w2)), (20, .d (D.int .i64 w4)), (21, .d (D.int .i64 h8)), (79, .d (D.bool w100))], [(7, .box [.d w84, .d w85]), (1005, .arr 23 2 h9)]⟩) := by kernel_rfl
theorem law41_StoreHistory_p14_eq {R : Type} (n : Nat) (h5 : List UInt8) (w91 : List UInt8) (w100 : Bool) (w2 : List (List D)) (w4 : Int) (h8 : Int) (w111 : Bool) (w84 : D) (w85 : D) (h9 : List (List D)) (k : Exit → St → Option R) : vexec (law41_StoreHistory_C n) n law41_StoreHistory_c13 ⟨124, [(4, .d (D.str h5)), (5, .arr 1005), (7, .ptr 7 0), (8, .d (D.str w91)), (10, .d (D.bool w100)), (19, .d (D.sl 2 w2)), (20, .d (D.int .i64 w4)), (21, .d (D.int .i64 h8)), (51, .d (D.bool w111))], [(7, .box [.d w84, .d w85]), (1005, .arr 23 2 h9)]⟩ k = law41_StoreHistory_p14 n h5 w91 w100 w2 w4 h8 w111 w84 w85 h9 (fun z113 => k .normal ⟨124, [(4, .d (D.str w91)), (5, .arr 1005), (19, .d (D.sl 2 w2)), (20, .d (D.int .i64 w4)), (21, .d (D.int .i64 h8))], [(1005, .arr 23 2 z113)]⟩) (k .normal ⟨124, [(4, .d (D.str h5)), (5, .arr 1005), (7, .ptr 7 0), (8, .d (D.str w91)), (19, .d (D.sl 2 w2)), (20, .d (D.int .i64 w4)), (21, .d (D.int .i64 h8)), (79, .d (D.bool w100))], [(7, .box [.d w84, .d w85]), (1005, .arr 23 2 h9)]⟩) := by kernel_rfl
theorem law41_StoreHistory_p15_eq {R : Type} (n : Nat) (h5 : List UInt8) (w91 : List UInt8) (w92 : Int) (w100 : Bool) (w2 : List (List D)) (w4 : Int) (h8 : Int) (w84 : D) (w85 : D) (h9 : List (List D)) (k : Exit → St → Option R) : vexec (law41_StoreHistory_C n) n law41_StoreHistory_c14 ⟨124, [(4, .d (D.str h5)), (5, .arr 1005), (7, .ptr 7 0), (8, .d (D.str w91)), (9, .d (D.int .i64 w92)), (10, .d (D.bool w100)), (19, .d (D.sl 2 w2)), (20, .d (D.int .i64 w4)), (21, .d (D.int .i64 h8))], [(7, .box [.d w84, .d w85]), (1005, .arr 23 2 h9)]⟩ k = law41_StoreHistory_p15 n h5 w91 w92 w100 w2 w4 h8 w84 w85 h9 (k .ret ⟨124, [(2, .d (D.bool false))], []⟩) (fun z115 => k .normal ⟨124, [(4, .d (D.str w91)), (5, .arr 1005), (19, .d (D.sl 2 w2)), (20, .d (D.int .i64 w4)), (21, .d (D.int .i64 h8))], [(1005, .arr 23 2 z115)]⟩) (k .normal ⟨124, [(4, .d (D.str h5)), (5, .arr 1005), (7, .ptr 7 0), (8, .d (D.str w91)), (19, .d (D.sl 2 w2)), (20, .d (D.int .i64 w4)), (21, .d (D.int .i64 h8)), (79, .d (D.bool w100))], [(7, .box [.d w84, .d w85]), (1005, .arr 23 2 h9)]⟩) := by
  rw [law41_StoreHistory_c14_eq]
  unfold law41_StoreHistory_p15
  exact (law41_StoreHistory_p12_eq n h5 w91 w92 w100 w2 w4 h8 w84 w85 h9 (seqK (law41_StoreHistory_C n) n law41_StoreHistory_c13 k)).trans (law41_StoreHistory_p12_congr n h5 w91 w92 w100 w2 w4 h8 w84 w85 h9 (rfl) (fun w107 => law41_StoreHistory_p13_eq n h5 w91 w92 w100 w2 w4 h8 w107 w84 w85 h9 k) (fun w111 => law41_StoreHistory_p14_eq n h5 w91 w100 w2 w4 h8 w111 w84 w85 h9 k))
theorem law41_StoreHistory_p16_eq {R : Type} (n : Nat) (h5 : List UInt8) (w91 : List UInt8) (w92 : Int) (w2 : List (List D)) (w4 : Int) (h8 : Int) (w84 : D) (w85 : D) (h9 : List (List D)) (k : Exit → St → Option R) : vexec (law41_StoreHistory_C n) n law41_StoreHistory_c15 ⟨124, [(4, .d (D.str h5)), (5, .arr 1005), (7, .ptr 7 0), (8, .d (D.str w91)), (9, .d (D.int .i64 w92)), (19, .d (D.sl 2 w2)), (20, .d (D.int .i64 w4)), (21, .d (D.int .i64 h8))], [(7, .box [.d w84, .d w85]), (1005, .arr 23 2 h9)]⟩ k = law41_StoreHistory_p16 n h5 w91 w92 w2 w4 h8 w84 w85 h9 (k .ret ⟨124, [(2, .d (D.bool false))], []⟩) (fun w116 => k .normal ⟨124, [(4, .d (D.str w91)), (5, .arr 1005), (19, .d (D.sl 2 w2)), (20, .d (D.int .i64 w4)), (21, .d (D.int .i64 h8))], [(1005, .arr 23 2 w116)]⟩) (fun w100 => k .normal ⟨124, [(4, .d (D.str h5)), (5, .arr 1005), (7, .ptr 7 0), (8, .d (D.str w91)), (19, .d (D.sl 2 w2)), (20, .d (D.int .i64 w4)), (21, .d (D.int .i64 h8)), (79, .d (D.bool w100))], [(7, .box [.d w84, .d w85]), (1005, .arr 23 2 h9)]⟩) := by
  rw [law41_StoreHistory_c15_eq]
  unfold law41_StoreHistory_p16
  exact (law41_StoreHistory_p10_eq n h5 w91 w92 w2 w4 h8 w84 w85 h9 (seqK (law41_StoreHistory_C n) n law41_StoreHistory_c14 k)).trans (law41_StoreHistory_p10_congr n h5 w91 w92 w2 w4 h8 w84 w85 h9 (fun w100 => law41_StoreHistory_p15_eq n h5 w91 w92 w100 w2 w4 h8 w84 w85 h9 k))
theorem law41_StoreHistory_p17_eq {R : Type} (n : Nat) (h5 : List UInt8) (w2 : List (List D)) (w4 : Int) (h8 : Int) (w84 : D) (w85 : D) (h9 : List (List D)) (k : Exit → St → Option R) : vexec (law41_StoreHistory_C n) n law41_StoreHistory_c16 ⟨124, [(4, .d (D.str h5)), (5, .arr 1005), (7, .ptr 7 0), (19, .d (D.sl 2 w2)), (20, .d (D.int .i64 w4)), (21, .d (D.int .i64 h8))], [(7, .box [.d w84, .d w85]), (1005, .arr 23 2 h9)]⟩ k = law41_StoreHistory_p17 n h5 w2 w4 h8 w84 w85 h9 (k .ret ⟨124, [(2, .d (D.bool false))], []⟩) (fun w91 w117 => k .normal ⟨124, [(4, .d (D.str w91)), (5, .arr 1005), (19, .d (D.sl 2 w2)), (20, .d (D.int .i64 w4)), (21, .d (D.int .i64 h8))], [(1005, .arr 23 2 w117)]⟩) (fun w91 w118 => k .normal ⟨124, [(4, .d (D.str h5)), (5, .arr 1005), (7, .ptr 7 0), (8, .d (D.str w91)), (19, .d (D.sl 2 w2)), (20, .d (D.int .i64 w4)), (21, .d (D.int .i64 h8)), (79, .d (D.bool w118))], [(7, .box [.d w84, .d w85]), (1005, .arr 23 2 h9)]⟩) := by
  rw [law41_StoreHistory_c16_eq]
  unfold law41_StoreHistory_p17
  exact (law41_StoreHistory_p9_eq n h5 w2 w4 h8 w84 w85 h9 (seqK (law41_StoreHistory_C n) n law41_StoreHistory_c15 k)).trans (law41_StoreHistory_p9_congr n h5 w2 w4 h8 w84 w85 h9 (fun w91 w92 => law41_StoreHistory_p16_eq n h5 w91 w92 w2 w4 h8 w84 w85 h9 k))
theorem law41_StoreHistory_p18_eq {R : Type} (n : Nat) (h5 : List UInt8) (w2 : List (List D)) (w4 : Int) (h8 : Int) (w80 : Bool) (h9 : List (List D)) (k : Exit → St → Option R) : vexec (law41_StoreHistory_C n) n law41_StoreHistory_c17 ⟨124, [(4, .d (D.str h5)), (5, .arr 1005), (19, .d (D.sl 2 w2)), (20, .d (D.int .i64 w4)), (21, .d (D.int .i64 h8)), (22, .d (D.bool w80))], [(1005, .arr 23 2 h9)]⟩ k = law41_StoreHistory_p18 n h5 w2 w4 h8 w80 h9 (k .ret ⟨124, [(2, .d (D.bool false))], []⟩) (fun w119 w120 => k .normal ⟨124, [(4, .d (D.str w119)), (5, .arr 1005), (19, .d (D.sl 2 w2)), (20, .d (D.int .i64 w4)), (21, .d (D.int .i64 h8))], [(1005, .arr 23 2 w120)]⟩) (fun w121 w122 w84 w85 => k .normal ⟨124, [(4, .d (D.str h5)), (5, .arr 1005), (7, .ptr 7 0), (8, .d (D.str w121)), (19, .d (D.sl 2 w2)), (20, .d (D.int .i64 w4)), (21, .d (D.int .i64 h8)), (79, .d (D.bool w122))], [(7, .box [.d w84, .d w85]), (1005, .arr 23 2 h9)]⟩) := by
  rw [law41_StoreHistory_c17_eq]
  unfold law41_StoreHistory_p18
  exact (law41_StoreHistory_p8_eq n h5 w2 w4 h8 w80 h9 (seqK (law41_StoreHistory_C n) n law41_StoreHistory_c16 k)).trans (law41_StoreHistory_p8_congr n h5 w2 w4 h8 w80 h9 (fun w84 w85 => law41_StoreHistory_p17_eq n h5 w2 w4 h8 w84 w85 h9 k))
theorem law41_StoreHistory_p19_eq {R : Type} (n : Nat) (h5 : List UInt8) (w2 : List (List D)) (w4 : Int) (h8 : Int) (w80 : Bool) (h9 : List (List D)) (k : Exit → St → Option R) : vexec (law41_StoreHistory_C n) n law41_StoreHistory_c18 ⟨124, [(4, .d (D.str h5)), (5, .arr 1005), (19, .d (D.sl 2 w2)), (20, .d (D.int .i64 w4)), (21, .d (D.int .i64 h8)), (22, .d (D.bool w80))], [(1005, .arr 23 2 h9)]⟩ k = law41_StoreHistory_p19 n h5 w2 w4 h8 w80 h9 (k .ret ⟨124, [(2, .d (D.bool false))], []⟩) (fun w123 w124 => k .normal ⟨124, [(4, .d (D.str w123)), (5, .arr 1005), (19, .d (D.sl 2 w2)), (20, .d (D.int .i64 w4)), (21, .d (D.int .i64 h8))], [(1005, .arr 23 2 w124)]⟩) (fun w125 w126 w127 w128 => k .normal ⟨124, [(4, .d (D.str h5)), (5, .arr 1005), (7, .ptr 7 0), (8, .d (D.str w125)), (19, .d (D.sl 2 w2)), (20, .d (D.int .i64 w4)), (21, .d (D.int .i64 h8)), (79, .d (D.bool w126))], [(7, .box [.d w127, .d w128]), (1005, .arr 23 2 h9)]⟩) := by
  rw [law41_StoreHistory_c18_eq]
  unfold law41_StoreHistory_p19
  exact (law41_StoreHistory_p18_eq n h5 w2 w4 h8 w80 h9 (blockK 1 k)).trans (law41_StoreHistory_p18_congr n h5 w2 w4 h8 w80 h9 (rfl) (fun w123 w124 => rfl) (fun w125 w126 w127 w128 => rfl))
theorem law41_StoreHistory_p20_eq {R : Type} (n : Nat) (w129 : List UInt8) (w2 : List (List D)) (w4 : Int) (h8 : Int) (w130 : List (List D)) (k : Exit → St → Option R) : vexec (law41_StoreHistory_C n) n law41_StoreHistory_c19 ⟨124, [(4, .d (D.str w129)), (5, .arr 1005), (19, .d (D.sl 2 w2)), (20, .d (D.int .i64 w4)), (21, .d (D.int .i64 h8))], [(1005, .arr 23 2 w130)]⟩ k = law41_StoreHistory_p20 n w129 w2 w4 h8 w130 (fun z131 => k .normal ⟨124, [(4, .d (D.str w129)), (5, .arr 1005), (19, .d (D.sl 2 w2)), (20, .d (D.int .i64 w4)), (21, .d (D.int .i64 z131))], [(1005, .arr 23 2 w130)]⟩) := by kernel_rfl
theorem law41_StoreHistory_p21_eq {R : Type} (n : Nat) (h5 : List UInt8) (w133 : List UInt8) (w2 : List (List D)) (w4 : Int) (h8 : Int) (w134 : Bool) (w135 : D) (w136 : D) (h9 : List (List D)) (k : Exit → St → Option R) : vexec (law41_StoreHistory_C n) n law41_StoreHistory_c19 ⟨124, [(4, .d (D.str h5)), (5, .arr 1005), (7, .ptr 7 0), (8, .d (D.str w133)), (19, .d (D.sl 2 w2)), (20, .d (D.int .i64 w4)), (21, .d (D.int .i64 h8)), (79, .d (D.bool w134))], [(7, .box [.d w135, .d w136]), (1005, .arr 23 2 h9)]⟩ k = law41_StoreHistory_p21 n h5 w133 w2 w4 h8 w134 w135 w136 h9 (fun z137 => k .normal ⟨124, [(4, .d (D.str h5)), (5, .arr 1005), (19, .d (D.sl 2 w2)), (20, .d (D.int .i64 w4)), (21, .d (D.int .i64 z137))], [(1005, .arr 23 2 h9)]⟩) := by kernel_rfl
theorem law41_StoreHistory_p22_eq {R : Type} (n : Nat) (h5 : List UInt8) (w2 : List (List D)) (w4 : Int) (h8 : Int) (w80 : Bool) (h9 : List (List D)) (k : Exit → St → Option R) : vexec (law41_StoreHistory_C n) n law41_StoreHistory_c20 ⟨124, [(4, .d (D.str h5)), (5, .arr 1005), (19, .d (D.sl 2 w2)), (20, .d (D.int .i64 w4)), (21, .d (D.int .i64 h8)), (22, .d (D.bool w80))], [(1005, .arr 23 2 h9)]⟩ k = law41_StoreHistory_p22 n h5 w2 w4 h8 w80 h9 (k .ret ⟨124, [(2, .d (D.bool false))], []⟩) (fun z139 z140 z141 => k .normal ⟨124, [(4, .d (D.str z139)), (5, .arr 1005), (19, .d (D.sl 2 w2)), (20, .d (D.int .i64 w4)), (21, .d (D.int .i64 z140))], [(1005, .arr 23 2 z141)]⟩) := by
  rw [law41_StoreHistory_c20_eq]
  unfold law41_StoreHistory_p22
  exact (law41_StoreHistory_p19_eq n h5 w2 w4 h8 w80 h9 (seqK (law41_StoreHistory_C n) n law41_StoreHistory_c19 k)).trans (law41_StoreHistory_p19_congr n h5 w2 w4 h8 w80 h9 (rfl) (fun w129 w130 => law41_StoreHistory_p20_eq n w129 w2 w4 h8 w130 k) (fun w133 w134 w135 w136 => law41_StoreHistory_p21_eq n h5 w133 w2 w4 h8 w134 w135 w136 h9 k))
theorem law41_StoreHistory_p23_eq {R : Type} (n : Nat) (h5 : List UInt8) (w2 : List (List D)) (w4 : Int) (h8 : Int) (w80 : Bool) (h9 : List (List D)) (k : Exit → St → Option R) : vexec (law41_StoreHistory_C n) n law41_StoreHistory_c21 ⟨124, [(4, .d (D.str h5)), (5, .arr 1005), (19, .d (D.sl 2 w2)), (20, .d (D.int .i64 w4)), (21, .d (D.int .i64 h8)), (22, .d (D.bool w80))], [(1005, .arr 23 2 h9)]⟩ k = law41_StoreHistory_p23 n h5 w2 w4 h8 w80 h9 (k .ret ⟨124, [(2, .d (D.bool false))], []⟩) (fun w142 w143 w144 => k .normal ⟨124, [(4, .d (D.str w142)), (5, .arr 1005), (19, .d (D.sl 2 w2)), (20, .d (D.int .i64 w4)), (21, .d (D.int .i64 w143))], [(1005, .arr 23 2 w144)]⟩) (k (.exit 0) ⟨124, [(4, .d (D.str h5)), (5, .arr 1005), (19, .d (D.sl 2 w2)), (20, .d (D.int .i64 w4)), (21, .d (D.int .i64 h8)), (22, .d (D.bool w80))], [(1005, .arr 23 2 h9)]⟩) := by
  rw [law41_StoreHistory_c21_eq]
  unfold law41_StoreHistory_p23
  exact (law41_StoreHistory_p7_eq n h5 w2 w4 h8 w80 h9 (seqK (law41_StoreHistory_C n) n law41_StoreHistory_c20 k)).trans (law41_StoreHistory_p7_congr n h5 w2 w4 h8 w80 h9 (law41_StoreHistory_p22_eq n h5 w2 w4 h8 w80 h9 k) (rfl))
theorem law41_StoreHistory_p24_eq {R : Type} (n : Nat) (h5 : List UInt8) (w2 : List (List D)) (w4 : Int) (h8 : Int) (h9 : List (List D)) (k : Exit → St → Option R) : vexec (law41_StoreHistory_C n) n law41_StoreHistory_c22 ⟨124, [(4, .d (D.str h5)), (5, .arr 1005), (19, .d (D.sl 2 w2)), (20, .d (D.int .i64 w4)), (21, .d (D.int .i64 h8))], [(1005, .arr 23 2 h9)]⟩ k = law41_StoreHistory_p24 n h5 w2 w4 h8 h9 (k .ret ⟨124, [(2, .d (D.bool false))], []⟩) (fun w145 w146 w147 => k .normal ⟨124, [(4, .d (D.str w145)), (5, .arr 1005), (19, .d (D.sl 2 w2)), (20, .d (D.int .i64 w4)), (21, .d (D.int .i64 w146))], [(1005, .arr 23 2 w147)]⟩) (fun w80 => k (.exit 0) ⟨124, [(4, .d (D.str h5)), (5, .arr 1005), (19, .d (D.sl 2 w2)), (20, .d (D.int .i64 w4)), (21, .d (D.int .i64 h8)), (22, .d (D.bool w80))], [(1005, .arr 23 2 h9)]⟩) := by
  rw [law41_StoreHistory_c22_eq]
  unfold law41_StoreHistory_p24
  exact (law41_StoreHistory_p6_eq n h5 w2 w4 h8 h9 (seqK (law41_StoreHistory_C n) n law41_StoreHistory_c21 k)).trans (law41_StoreHistory_p6_congr n h5 w2 w4 h8 h9 (fun w80 => law41_StoreHistory_p23_eq n h5 w2 w4 h8 w80 h9 k))
theorem law41_StoreHistory_r25_eq {R : Type} (n : Nat) (w2 : List (List D)) (w4 : Int) (k : Exit → St → Option R) : ∀ (m : Nat) (h5 : List UInt8) (h8 : Int) (h9 : List (List D)), loopN (vexec (law41_StoreHistory_C n) n law41_StoreHistory_c22) m ⟨124, [(4, .d (D.str h5)), (5, .arr 1005), (19, .d (D.sl 2 w2)), (20, .d (D.int .i64 w4)), (21, .d (D.int .i64 h8))], [(1005, .arr 23 2 h9)]⟩ k = law41_StoreHistory_r25 n w2 w4 (k .ret ⟨124, [(2, .d (D.bool false))], []⟩) (fun h5 h8 w151 h9 => k (.exit 0) ⟨124, [(4, .d (D.str h5)), (5, .arr 1005), (19, .d (D.sl 2 w2)), (20, .d (D.int .i64 w4)), (21, .d (D.int .i64 h8)), (22, .d (D.bool w151))], [(1005, .arr 23 2 h9)]⟩) m h5 h8 h9
  | 0, _, _, _ => rfl
  | m + 1, h5, h8, h9 => (law41_StoreHistory_p24_eq n h5 w2 w4 h8 h9 (loopK (vexec (law41_StoreHistory_C n) n law41_StoreHistory_c22) m k)).trans (law41_StoreHistory_p24_congr n h5 w2 w4 h8 h9 (rfl) (fun w148 w149 w150 => law41_StoreHistory_r25_eq n w2 w4 k m w148 w149 w150) (fun w151 => rfl))
theorem law41_StoreHistory_p25_eq {R : Type} (n : Nat) (w2 : List (List D)) (w4 : Int) (k : Exit → St → Option R) : vexec (law41_StoreHistory_C n) n law41_StoreHistory_c23 ⟨124, [(4, .d (D.str [])), (5, .arr 1005), (19, .d (D.sl 2 w2)), (20, .d (D.int .i64 w4)), (21, .d (D.int .i64 (0 : Int)))], [(1005, .arr 23 2 [])]⟩ k = law41_StoreHistory_p25 n w2 w4 (k .ret ⟨124, [(2, .d (D.bool false))], []⟩) (fun h5 h8 w151 h9 => k (.exit 0) ⟨124, [(4, .d (D.str h5)), (5, .arr 1005), (19, .d (D.sl 2 w2)), (20, .d (D.int .i64 w4)), (21, .d (D.int .i64 h8)), (22, .d (D.bool w151))], [(1005, .arr 23 2 h9)]⟩) := by
  rw [law41_StoreHistory_c23_eq]
  exact law41_StoreHistory_r25_eq n w2 w4 k n [] (0 : Int) []
theorem law41_StoreHistory_p26_eq {R : Type} (n : Nat) (w2 : List (List D)) (w4 : Int) (k : Exit → St → Option R) : vexec (law41_StoreHistory_C n) n law41_StoreHistory_c24 ⟨124, [(4, .d (D.str [])), (5, .arr 1005), (19, .d (D.sl 2 w2)), (20, .d (D.int .i64 w4)), (21, .d (D.int .i64 (0 : Int)))], [(1005, .arr 23 2 [])]⟩ k = law41_StoreHistory_p26 n w2 w4 (k .ret ⟨124, [(2, .d (D.bool false))], []⟩) (fun w152 w153 w154 w155 => k .normal ⟨124, [(4, .d (D.str w152)), (5, .arr 1005), (19, .d (D.sl 2 w2)), (20, .d (D.int .i64 w4)), (21, .d (D.int .i64 w153)), (22, .d (D.bool w154))], [(1005, .arr 23 2 w155)]⟩) := by
  rw [law41_StoreHistory_c24_eq]
  unfold law41_StoreHistory_p26
  exact (law41_StoreHistory_p25_eq n w2 w4 (blockK 0 k)).trans (law41_StoreHistory_p25_congr n w2 w4 (rfl) (fun w152 w153 w154 w155 => rfl))
theorem law41_StoreHistory_p27_eq {R : Type} (n : Nat) (w2 : List (List D)) (k : Exit → St → Option R) : vexec (law41_StoreHistory_C n) n law41_StoreHistory_c25 ⟨124, [(3, .d (D.sl 2 w2)), (4, .d (D.str [])), (5, .nil)], []⟩ k = law41_StoreHistory_p27 n w2 (k .ret ⟨124, [(2, .d (D.bool false))], []⟩) (fun w156 w4 w157 w158 w159 => k .normal ⟨124, [(4, .d (D.str w156)), (5, .arr 1005), (19, .d (D.sl 2 w2)), (20, .d (D.int .i64 w4)), (21, .d (D.int .i64 w157)), (22, .d (D.bool w158))], [(1005, .arr 23 2 w159)]⟩) := by
  rw [law41_StoreHistory_c25_eq]
  unfold law41_StoreHistory_p27
  exact (law41_StoreHistory_p5_eq n w2 (seqK (law41_StoreHistory_C n) n law41_StoreHistory_c24 k)).trans (law41_StoreHistory_p5_congr n w2 (fun w4 => law41_StoreHistory_p26_eq n w2 w4 k))
theorem law41_StoreHistory_p28_eq {R : Type} (n : Nat) (w160 : List UInt8) (w2 : List (List D)) (w161 : Int) (w162 : Int) (w163 : Bool) (w164 : List (List D)) (k : Exit → St → Option R) : vexec (law41_StoreHistory_C n) n law41_StoreHistory_c26 ⟨124, [(4, .d (D.str w160)), (5, .arr 1005), (19, .d (D.sl 2 w2)), (20, .d (D.int .i64 w161)), (21, .d (D.int .i64 w162)), (22, .d (D.bool w163))], [(1005, .arr 23 2 w164)]⟩ k = law41_StoreHistory_p28 n w160 w2 w161 w162 w163 w164 (fun z165 => k .normal ⟨124, [(4, .d (D.str w160)), (5, .arr 1005), (86, .arr 1005), (87, .d (D.int .i64 z165)), (88, .d (D.int .i64 (0 : Int)))], [(1005, .arr 23 2 w164)]⟩) := by kernel_rfl
theorem law41_StoreHistory_p29_eq {R : Type} (n : Nat) (w160 : List UInt8) (w166 : Int) (h169 : Int) (w164 : List (List D)) (k : Exit → St → Option R) : vexec (law41_StoreHistory_C n) n law41_StoreHistory_c27 ⟨124, [(4, .d (D.str w160)), (5, .arr 1005), (86, .arr 1005), (87, .d (D.int .i64 w166)), (88, .d (D.int .i64 h169))], [(1005, .arr 23 2 w164)]⟩ k = law41_StoreHistory_p29 n w160 w166 h169 w164 (k .ret ⟨124, [(2, .d (D.bool false))], []⟩) (fun z193 => k .normal ⟨124, [(4, .d (D.str w160)), (5, .arr 1005), (86, .arr 1005), (87, .d (D.int .i64 w166)), (88, .d (D.int .i64 z193))], [(1005, .arr 23 2 w164)]⟩) (fun z194 => k (.exit 3) ⟨124, [(4, .d (D.str w160)), (5, .arr 1005), (86, .arr 1005), (87, .d (D.int .i64 w166)), (88, .d (D.int .i64 h169)), (89, .d (D.bool z194))], [(1005, .arr 23 2 w164)]⟩) := by kernel_rfl
theorem law41_StoreHistory_r30_eq {R : Type} (n : Nat) (w160 : List UInt8) (w166 : Int) (w164 : List (List D)) (k : Exit → St → Option R) : ∀ (m : Nat) (h169 : Int), loopN (vexec (law41_StoreHistory_C n) n law41_StoreHistory_c27) m ⟨124, [(4, .d (D.str w160)), (5, .arr 1005), (86, .arr 1005), (87, .d (D.int .i64 w166)), (88, .d (D.int .i64 h169))], [(1005, .arr 23 2 w164)]⟩ k = law41_StoreHistory_r30 n w160 w166 w164 (k .ret ⟨124, [(2, .d (D.bool false))], []⟩) (fun h169 w196 => k (.exit 3) ⟨124, [(4, .d (D.str w160)), (5, .arr 1005), (86, .arr 1005), (87, .d (D.int .i64 w166)), (88, .d (D.int .i64 h169)), (89, .d (D.bool w196))], [(1005, .arr 23 2 w164)]⟩) m h169
  | 0, _ => rfl
  | m + 1, h169 => (law41_StoreHistory_p29_eq n w160 w166 h169 w164 (loopK (vexec (law41_StoreHistory_C n) n law41_StoreHistory_c27) m k)).trans (law41_StoreHistory_p29_congr n w160 w166 h169 w164 (rfl) (fun w195 => law41_StoreHistory_r30_eq n w160 w166 w164 k m w195) (fun w196 => rfl))
theorem law41_StoreHistory_p30_eq {R : Type} (n : Nat) (w160 : List UInt8) (w166 : Int) (w164 : List (List D)) (k : Exit → St → Option R) : vexec (law41_StoreHistory_C n) n law41_StoreHistory_c28 ⟨124, [(4, .d (D.str w160)), (5, .arr 1005), (86, .arr 1005), (87, .d (D.int .i64 w166)), (88, .d (D.int .i64 (0 : Int)))], [(1005, .arr 23 2 w164)]⟩ k = law41_StoreHistory_p30 n w160 w166 w164 (k .ret ⟨124, [(2, .d (D.bool false))], []⟩) (fun h169 w196 => k (.exit 3) ⟨124, [(4, .d (D.str w160)), (5, .arr 1005), (86, .arr 1005), (87, .d (D.int .i64 w166)), (88, .d (D.int .i64 h169)), (89, .d (D.bool w196))], [(1005, .arr 23 2 w164)]⟩) := by
  rw [law41_StoreHistory_c28_eq]
  exact law41_StoreHistory_r30_eq n w160 w166 w164 k n (0 : Int)
theorem law41_StoreHistory_p31_eq {R : Type} (n : Nat) (w160 : List UInt8) (w166 : Int) (w164 : List (List D)) (k : Exit → St → Option R) : vexec (law41_StoreHistory_C n) n law41_StoreHistory_c29 ⟨124, [(4, .d (D.str w160)), (5, .arr 1005), (86, .arr 1005), (87, .d (D.int .i64 w166)), (88, .d (D.int .i64 (0 : Int)))], [(1005, .arr 23 2 w164)]⟩ k = law41_StoreHistory_p31 n w160 w166 w164 (k .ret ⟨124, [(2, .d (D.bool false))], []⟩) (fun w197 w198 => k .normal ⟨124, [(4, .d (D.str w160)), (5, .arr 1005), (86, .arr 1005), (87, .d (D.int .i64 w166)), (88, .d (D.int .i64 w197)), (89, .d (D.bool w198))], [(1005, .arr 23 2 w164)]⟩) := by
  rw [law41_StoreHistory_c29_eq]
  unfold law41_StoreHistory_p31
  exact (law41_StoreHistory_p30_eq n w160 w166 w164 (blockK 3 k)).trans (law41_StoreHistory_p30_congr n w160 w166 w164 (rfl) (fun w197 w198 => rfl))
theorem law41_StoreHistory_p32_eq {R : Type} (n : Nat) (w160 : List UInt8) (w2 : List (List D)) (w161 : Int) (w162 : Int) (w163 : Bool) (w164 : List (List D)) (k : Exit → St → Option R) : vexec (law41_StoreHistory_C n) n law41_StoreHistory_c30 ⟨124, [(4, .d (D.str w160)), (5, .arr 1005), (19, .d (D.sl 2 w2)), (20, .d (D.int .i64 w161)), (21, .d (D.int .i64 w162)), (22, .d (D.bool w163))], [(1005, .arr 23 2 w164)]⟩ k = law41_StoreHistory_p32 n w160 w2 w161 w162 w163 w164 (k .ret ⟨124, [(2, .d (D.bool false))], []⟩) (fun w166 w199 w200 => k .normal ⟨124, [(4, .d (D.str w160)), (5, .arr 1005), (86, .arr 1005), (87, .d (D.int .i64 w166)), (88, .d (D.int .i64 w199)), (89, .d (D.bool w200))], [(1005, .arr 23 2 w164)]⟩) := by
  rw [law41_StoreHistory_c30_eq]
  unfold law41_StoreHistory_p32
  exact (law41_StoreHistory_p28_eq n w160 w2 w161 w162 w163 w164 (seqK (law41_StoreHistory_C n) n law41_StoreHistory_c29 k)).trans (law41_StoreHistory_p28_congr n w160 w2 w161 w162 w163 w164 (fun w166 => law41_StoreHistory_p31_eq n w160 w166 w164 k))
theorem law41_StoreHistory_p33_eq {R : Type} (n : Nat) (w160 : List UInt8) (w201 : Int) (w202 : Int) (w203 : Bool) (w164 : List (List D)) (k : Exit → St → Option R) : vexec (law41_StoreHistory_C n) n law41_StoreHistory_c31 ⟨124, [(4, .d (D.str w160)), (5, .arr 1005), (86, .arr 1005), (87, .d (D.int .i64 w201)), (88, .d (D.int .i64 w202)), (89, .d (D.bool w203))], [(1005, .arr 23 2 w164)]⟩ k = law41_StoreHistory_p33 n w160 w201 w202 w203 w164 (fun z207 => k .ret ⟨124, [(2, .d (D.bool z207))], []⟩) := by kernel_rfl
theorem law41_StoreHistory_p34_eq {R : Type} (n : Nat) (w160 : List UInt8) (w2 : List (List D)) (w161 : Int) (w162 : Int) (w163 : Bool) (w164 : List (List D)) (k : Exit → St → Option R) : vexec (law41_StoreHistory_C n) n law41_StoreHistory_c32 ⟨124, [(4, .d (D.str w160)), (5, .arr 1005), (19, .d (D.sl 2 w2)), (20, .d (D.int .i64 w161)), (21, .d (D.int .i64 w162)), (22, .d (D.bool w163))], [(1005, .arr 23 2 w164)]⟩ k = law41_StoreHistory_p34 n w160 w2 w161 w162 w163 w164 (fun z209 => k .ret ⟨124, [(2, .d (D.bool z209))], []⟩) := by
  rw [law41_StoreHistory_c32_eq]
  unfold law41_StoreHistory_p34
  exact (law41_StoreHistory_p32_eq n w160 w2 w161 w162 w163 w164 (seqK (law41_StoreHistory_C n) n law41_StoreHistory_c31 k)).trans (law41_StoreHistory_p32_congr n w160 w2 w161 w162 w163 w164 (rfl) (fun w201 w202 w203 => law41_StoreHistory_p33_eq n w160 w201 w202 w203 w164 k))
theorem law41_StoreHistory_p35_eq {R : Type} (n : Nat) (w2 : List (List D)) (k : Exit → St → Option R) : vexec (law41_StoreHistory_C n) n law41_StoreHistory_c33 ⟨124, [(3, .d (D.sl 2 w2)), (4, .d (D.str [])), (5, .nil)], []⟩ k = law41_StoreHistory_p35 n w2 (fun z211 => k .ret ⟨124, [(2, .d (D.bool z211))], []⟩) := by
  rw [law41_StoreHistory_c33_eq]
  unfold law41_StoreHistory_p35
  exact (law41_StoreHistory_p27_eq n w2 (seqK (law41_StoreHistory_C n) n law41_StoreHistory_c32 k)).trans (law41_StoreHistory_p27_congr n w2 (rfl) (fun w160 w161 w162 w163 w164 => law41_StoreHistory_p34_eq n w160 w2 w161 w162 w163 w164 k))
theorem law41_StoreHistory_p36_eq {R : Type} (n : Nat) (w2 : List (List D)) (k : Exit → St → Option R) : vexec (law41_StoreHistory_C n) n law41_StoreHistory_c34 ⟨124, [(3, .d (D.sl 2 w2)), (4, .d (D.str []))], []⟩ k = law41_StoreHistory_p36 n w2 (fun w212 => k .ret ⟨124, [(2, .d (D.bool w212))], []⟩) := by
  rw [law41_StoreHistory_c34_eq]
  unfold law41_StoreHistory_p36
  exact (law41_StoreHistory_p4_eq n w2 (seqK (law41_StoreHistory_C n) n law41_StoreHistory_c33 k)).trans (law41_StoreHistory_p4_congr n w2 (law41_StoreHistory_p35_eq n w2 k))
theorem law41_StoreHistory_p37_eq {R : Type} (n : Nat) (w2 : List (List D)) (k : Exit → St → Option R) : vexec (law41_StoreHistory_C n) n law41_StoreHistory_c35 ⟨124, [(3, .d (D.sl 2 w2))], []⟩ k = law41_StoreHistory_p37 n w2 (fun w213 => k .ret ⟨124, [(2, .d (D.bool w213))], []⟩) := by
  rw [law41_StoreHistory_c35_eq]
  unfold law41_StoreHistory_p37
  exact (law41_StoreHistory_p3_eq n w2 (seqK (law41_StoreHistory_C n) n law41_StoreHistory_c34 k)).trans (law41_StoreHistory_p3_congr n w2 (law41_StoreHistory_p36_eq n w2 k))
theorem law41_StoreHistory_p38_eq {R : Type} (n : Nat) (a0 : List (List D)) (k : Exit → St → Option R) : vexec (law41_StoreHistory_C n) n law41_StoreHistory_c36 ⟨124, [(0, .d (D.sl 1 a0))], []⟩ k = law41_StoreHistory_p38 n a0 (fun w214 => k .ret ⟨124, [(2, .d (D.bool w214))], []⟩) := by
  rw [law41_StoreHistory_c36_eq]
  unfold law41_StoreHistory_p38
  exact (law41_StoreHistory_p2_eq n a0 (seqK (law41_StoreHistory_C n) n law41_StoreHistory_c35 k)).trans (law41_StoreHistory_p2_congr n a0 (fun w2 => law41_StoreHistory_p37_eq n w2 k))
theorem law41_StoreHistory_p39_eq {R : Type} (n : Nat) (a0 : List (List D)) (k : Exit → St → Option R) : vexec (law41_StoreHistory_C n) n law41_StoreHistory_c0 ⟨124, [(0, .d (D.sl 1 a0))], []⟩ k = law41_StoreHistory_p39 n a0 (fun w215 => k .ret ⟨124, [(2, .d (D.bool w215))], []⟩) := by
  rw [law41_StoreHistory_c0_eq]
  unfold law41_StoreHistory_p39
  exact (law41_StoreHistory_p1_eq n a0 (seqK (law41_StoreHistory_C n) n law41_StoreHistory_c36 k)).trans (law41_StoreHistory_p1_congr n a0 (law41_StoreHistory_p38_eq n a0 k))
theorem law41_StoreHistory_vfn {R : Type} (n : Nat) (a0 : List (List D)) (K : AV → Option R) : vfn (law41_StoreHistory_C n) n Try.f8 [.d (D.sl 1 a0)] [] (retF [[0]] K) = law41_StoreHistory n a0 (fun r0 => K (.d (D.bool r0))) :=
  (show vfn (law41_StoreHistory_C n) n Try.f8 [.d (D.sl 1 a0)] [] (retF [[0]] K) = vexec (law41_StoreHistory_C n) n law41_StoreHistory_c0 ⟨124, [(0, .d (D.sl 1 a0))], []⟩ (retX law41_StoreHistory_tt [.tmp 2] (retF [[0]] K)) from vfn_at (by kernel_rfl) (by kernel_rfl) rfl (by kernel_rfl) rfl (by kernel_rfl) rfl).trans ((law41_StoreHistory_p39_eq n a0 (retX law41_StoreHistory_tt [.tmp 2] (retF [[0]] K))).trans (by kernel_rfl))
def law41_StoreHistory_K : AV → Option (Bool) := fun av => match av with
  | .d (D.bool r0) => some r0
  | _ => none
def law41_StoreHistory_e (n : Nat) : Entry := fun _ _ g avs _ k => match avs with
  | [c0] => prS g 1 c0 fun a0 => 
    gb g (law41_StoreHistory n a0 some) false fun r => k ⟨.d (D.bool r), [], []⟩
  | _ => none
theorem law41_StoreHistory_ok (n : Nat) : EntryOK Try.prog 8 (law41_StoreHistory_e n) := by
  intro R site g avs hl k r h
  unfold law41_StoreHistory_e at h
  split at h
  rotate_left
  · cases h
  replace h := prS_some h
  obtain ⟨a0, h, le0⟩ := h
  replace h := gb_some h
  obtain ⟨res, h, hr⟩ := h
  refine ⟨_, h, fun hg => CallOK.conv (avs' := [.d (D.sl 1 a0)]) (.cons (le0 hg) (.nil)) (callOK_fix (K := law41_StoreHistory_K) (res := res) (law41_StoreHistory_VC n) (fn := Try.f8) (n := n) (by kernel_rfl) (by kernel_rfl) (by kernel_rfl) (ss := [[0]]) rfl ?_ ?_)⟩
  · exact (law41_StoreHistory_vfn n a0 law41_StoreHistory_K).trans (hr hg)
  · intro x hx
    unfold law41_StoreHistory_K at hx
    split at hx
    · injection hx with hx; subst hx; rfl
    · cases hx
end Go.Vx
