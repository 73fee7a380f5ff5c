/- Part of a proof: texts Vplaw19 some Vpref19 in Vpref19 Valid Vprailplan occupancy Conflicts 1 s2 Vpoccupancy visit s3 Vpoccupancy Conflicts Vpref1 Floor Vpref1 Ceil Vpref19 conflict Vpref19 Conflicts Vpk. No conditions of their own. -/
import Derived.Test.YtnhpkkecnfooaaaProg
import Derived.Test.YtnhpkkecnfooaaaQVC
import Derived.Test.YtnhpkkecnfooaaaQFA
import Derived.Test.YtnhpkkecnfooaaaQPA
/-
  law19_some: the interpreter computes the pure function
-/
set_option linter.unusedVariables false
set_option linter.unusedSimpArgs false
set_option maxRecDepth 100000
namespace Go.Vx
open Go.Proofs
noncomputable def law19_some_c0 : Code := bodyOf Try.f8
noncomputable def law19_some_c1 : Code := cL (bodyOf Try.f8)
noncomputable def law19_some_c2 : Code := cL (cR (bodyOf Try.f8))
noncomputable def law19_some_c3 : Code := cL (cR (cR (bodyOf Try.f8)))
noncomputable def law19_some_c4 : Code := cL (cL (cR (cR (cR (bodyOf Try.f8)))))
noncomputable def law19_some_c5 : Code := cB (cB (cR (cL (cR (cR (cR (bodyOf Try.f8)))))))
noncomputable def law19_some_c6 : Code := cB (cR (cL (cR (cR (cR (bodyOf Try.f8))))))
noncomputable def law19_some_c7 : Code := cR (cL (cR (cR (cR (bodyOf Try.f8)))))
noncomputable def law19_some_c8 : Code := cL (cR (cR (cR (bodyOf Try.f8))))
noncomputable def law19_some_c9 : Code := cR (cR (cR (cR (bodyOf Try.f8))))
noncomputable def law19_some_c10 : Code := cR (cR (cR (bodyOf Try.f8)))
noncomputable def law19_some_c11 : Code := cR (cR (bodyOf Try.f8))
noncomputable def law19_some_c12 : Code := cR (bodyOf Try.f8)
theorem law19_some_c6_eq : law19_some_c6 = .loop law19_some_c5 := by kernel_rfl
theorem law19_some_c7_eq : law19_some_c7 = .block 0 law19_some_c6 := by kernel_rfl
theorem law19_some_c8_eq : law19_some_c8 = .seq law19_some_c4 law19_some_c7 := by kernel_rfl
theorem law19_some_c10_eq : law19_some_c10 = .seq law19_some_c8 law19_some_c9 := by kernel_rfl
theorem law19_some_c11_eq : law19_some_c11 = .seq law19_some_c3 law19_some_c10 := by kernel_rfl
theorem law19_some_c12_eq : law19_some_c12 = .seq law19_some_c2 law19_some_c11 := by kernel_rfl
theorem law19_some_c0_eq : law19_some_c0 = .seq law19_some_c1 law19_some_c12 := by kernel_rfl
def law19_some_tt : TT := [(3, ⟨.int .i64, 1, 8, [.int .i64 0], [.int .i64 0], [], none⟩), (24, ⟨.sl 31 5, 1, 24, [.slice none 0 0], [.sl 5 []], [], none⟩), (31, ⟨.struct, 5, 40, [.int .i64 0, .int .i64 0, .int .i64 0, .int .i64 0, .int .i64 0], [.int .i64 0, .int .i64 0, .int .i64 0, .int .i64 0, .int .i64 0], [(0, 3), (1, 3), (2, 3), (3, 3), (4, 3)], some [.int .i64, .int .i64, .int .i64, .int .i64, .int .i64]⟩)]
theorem law19_some_tt_eq : mkTT Try.prog [3, 24, 31] = law19_some_tt := by kernel_rfl
def law19_some_cfg : List (Nat × Cfg) := [(0, ⟨[0], [], [], [], []⟩), (1, ⟨[3], [(100007, 100007)], [], [], []⟩), (2, ⟨[3, 4], [(100007, 100007)], [], [], []⟩), (3, ⟨[3, 4, 5], [(100007, 100007)], [(4, 1004, 31, 5)], [], []⟩), (4, ⟨[3, 4, 5, 11], [(1004, 1004), (100007, 100007)], [], [], []⟩), (5, ⟨[3, 4, 5], [(1004, 1004), (100007, 100007)], [], [], []⟩), (6, ⟨[3, 4, 5], [(29, 1004), (100007, 100007)], [], [], []⟩), (7, ⟨[2], [(1004, 1004)], [], [], []⟩)]
def law19_some_C (n : Nat) : VC := ⟨specOf [(17, keep_From_o n), (18, keep_Source_Next_o n)], law19_some_tt, law19_some_cfg⟩
theorem law19_some_ents (n : Nat) : EntsOK Try.prog [(17, keep_From_o n), (18, keep_Source_Next_o n)] := ⟨keep_From_oo n, ⟨keep_Source_Next_oo n, trivial⟩⟩
theorem law19_some_VC (n : Nat) : VCOk Try.prog (law19_some_C n) := ⟨specOf_ok (law19_some_ents n), (law19_some_tt_eq ▸ mkTT_ok _ : TOk Try.prog law19_some_tt), by kernel_rfl⟩
theorem law19_some_p1_congr {R : Type} (n : Nat) (a0 : List (List D)) {k0 kk0 : Option R} (hq0 : k0 = kk0) : law19_some_p1 n a0 k0 = law19_some_p1 n a0 kk0 := by
  obtain rfl : k0 = kk0 := hq0
  rfl
theorem law19_some_p2_congr {R : Type} (n : Nat) (a0 : List (List D)) {k0 kk0 : (List (List D)) → Int → Option R} (hq0 : ∀ x0 x1, k0 x0 x1 = kk0 x0 x1) : law19_some_p2 n a0 k0 = law19_some_p2 n a0 kk0 := by
  obtain rfl : k0 = kk0 := funext fun x0 => funext fun x1 => hq0 x0 x1
  rfl
theorem law19_some_p3_congr {R : Type} (n : Nat) (w4 : List (List D)) (w5 : Int) {k0 kk0 : Option R} (hq0 : k0 = kk0) : law19_some_p3 n w4 w5 k0 = law19_some_p3 n w4 w5 kk0 := by
  obtain rfl : k0 = kk0 := hq0
  rfl
theorem law19_some_p4_congr {R : Type} (n : Nat) (w4 : List (List D)) (w5 : Int) {k0 kk0 : Int → (List (List D)) → Int → Option R} (hq0 : ∀ x0 x1 x2, k0 x0 x1 x2 = kk0 x0 x1 x2) : law19_some_p4 n w4 w5 k0 = law19_some_p4 n w4 w5 kk0 := by
  obtain rfl : k0 = kk0 := funext fun x0 => funext fun x1 => funext fun x2 => hq0 x0 x1 x2
  rfl
theorem law19_some_p5_congr {R : Type} (n : Nat) (h13 : Int) (h14 : List (List D)) (h15 : List (List D)) (h16 : Int) {k0 kk0 : Int → (List (List D)) → (List (List D)) → Int → Option R} {k1 kk1 : Bool → Option R} (hq0 : ∀ x0 x1 x2 x3, k0 x0 x1 x2 x3 = kk0 x0 x1 x2 x3) (hq1 : ∀ x0, k1 x0 = kk1 x0) : law19_some_p5 n h13 h14 h15 h16 k0 k1 = law19_some_p5 n h13 h14 h15 h16 kk0 kk1 := by
  obtain rfl : k0 = kk0 := funext fun x0 => funext fun x1 => funext fun x2 => funext fun x3 => hq0 x0 x1 x2 x3
  obtain rfl : k1 = kk1 := funext fun x0 => hq1 x0
  rfl
theorem law19_some_p6_congr {R : Type} (n : Nat) (w10 : Int) (w11 : List (List D)) (w12 : Int) {k0 kk0 : Int → Bool → (List (List D)) → (List (List D)) → Int → Option R} (hq0 : ∀ x0 x1 x2 x3 x4, k0 x0 x1 x2 x3 x4 = kk0 x0 x1 x2 x3 x4) : law19_some_p6 n w10 w11 w12 k0 = law19_some_p6 n w10 w11 w12 kk0 := by
  obtain rfl : k0 = kk0 := funext fun x0 => funext fun x1 => funext fun x2 => funext fun x3 => funext fun x4 => hq0 x0 x1 x2 x3 x4
  rfl
theorem law19_some_p7_congr {R : Type} (n : Nat) (w10 : Int) (w11 : List (List D)) (w12 : Int) {k0 kk0 : Int → Bool → (List (List D)) → (List (List D)) → Int → Option R} (hq0 : ∀ x0 x1 x2 x3 x4, k0 x0 x1 x2 x3 x4 = kk0 x0 x1 x2 x3 x4) : law19_some_p7 n w10 w11 w12 k0 = law19_some_p7 n w10 w11 w12 kk0 := by
  obtain rfl : k0 = kk0 := funext fun x0 => funext fun x1 => funext fun x2 => funext fun x3 => funext fun x4 => hq0 x0 x1 x2 x3 x4
  rfl
theorem law19_some_p8_congr {R : Type} (n : Nat) (w4 : List (List D)) (w5 : Int) {k0 kk0 : Int → Bool → (List (List D)) → (List (List D)) → Int → Option R} (hq0 : ∀ x0 x1 x2 x3 x4, k0 x0 x1 x2 x3 x4 = kk0 x0 x1 x2 x3 x4) : law19_some_p8 n w4 w5 k0 = law19_some_p8 n w4 w5 kk0 := by
  obtain rfl : k0 = kk0 := funext fun x0 => funext fun x1 => funext fun x2 => funext fun x3 => funext fun x4 => hq0 x0 x1 x2 x3 x4
  rfl
theorem law19_some_p9_congr {R : Type} (n : Nat) (w43 : Int) (w44 : Bool) (w45 : List (List D)) (w46 : List (List D)) (w47 : Int) {k0 kk0 : Option R} (hq0 : k0 = kk0) : law19_some_p9 n w43 w44 w45 w46 w47 k0 = law19_some_p9 n w43 w44 w45 w46 w47 kk0 := by
  obtain rfl : k0 = kk0 := hq0
  rfl
theorem law19_some_p10_congr {R : Type} (n : Nat) (w4 : List (List D)) (w5 : Int) {k0 kk0 : (List (List D)) → Option R} (hq0 : ∀ x0, k0 x0 = kk0 x0) : law19_some_p10 n w4 w5 k0 = law19_some_p10 n w4 w5 kk0 := by
  obtain rfl : k0 = kk0 := funext fun x0 => hq0 x0
  rfl
theorem law19_some_p11_congr {R : Type} (n : Nat) (w4 : List (List D)) (w5 : Int) {k0 kk0 : (List (List D)) → Option R} (hq0 : ∀ x0, k0 x0 = kk0 x0) : law19_some_p11 n w4 w5 k0 = law19_some_p11 n w4 w5 kk0 := by
  obtain rfl : k0 = kk0 := funext fun x0 => hq0 x0
  rfl
theorem law19_some_p12_congr {R : Type} (n : Nat) (a0 : List (List D)) {k0 kk0 : (List (List D)) → Option R} (hq0 : ∀ x0, k0 x0 = kk0 x0) : law19_some_p12 n a0 k0 = law19_some_p12 n a0 kk0 := by
  obtain rfl : k0 = kk0 := funext fun x0 => hq0 x0
  rfl
theorem law19_some_p13_congr {R : Type} (n : Nat) (a0 : List (List D)) {k0 kk0 : (List (List D)) → Option R} (hq0 : ∀ x0, k0 x0 = kk0 x0) : law19_some_p13 n a0 k0 = law19_some_p13 n a0 kk0 := by
  obtain rfl : k0 = kk0 := funext fun x0 => hq0 x0
  rfl
theorem law19_some_p1_eq {R : Type} (n : Nat) (a0 : List (List D)) (k : Exit → St → Option R) : vexec (law19_some_C n) n law19_some_c1 ⟨31, [(0, .d (D.sl 1 a0))], []⟩ k = law19_some_p1 n a0 (k .normal ⟨31, [(0, .d (D.sl 1 a0))], []⟩) := by kernel_rfl
theorem law19_some_p2_eq {R : Type} (n : Nat) (a0 : List (List D)) (k : Exit → St → Option R) : vexec (law19_some_C n) n law19_some_c2 ⟨31, [(0, .d (D.sl 1 a0))], []⟩ k = law19_some_p2 n a0 (fun z2 z3 => k .normal ⟨31, [(3, .ptr 100007 0)], [(100007, .box [.d (D.sl 1 z2), .d (D.int .i64 z3)])]⟩) := by kernel_rfl
theorem law19_some_p3_eq {R : Type} (n : Nat) (w4 : List (List D)) (w5 : Int) (k : Exit → St → Option R) : vexec (law19_some_C n) n law19_some_c3 ⟨31, [(3, .ptr 100007 0)], [(100007, .box [.d (D.sl 1 w4), .d (D.int .i64 w5)])]⟩ k = law19_some_p3 n w4 w5 (k .normal ⟨31, [(3, .ptr 100007 0), (4, .nil)], [(100007, .box [.d (D.sl 1 w4), .d (D.int .i64 w5)])]⟩) := by kernel_rfl
theorem law19_some_p4_eq {R : Type} (n : Nat) (w4 : List (List D)) (w5 : Int) (k : Exit → St → Option R) : vexec (law19_some_C n) n law19_some_c4 ⟨31, [(3, .ptr 100007 0), (4, .nil)], [(100007, .box [.d (D.sl 1 w4), .d (D.int .i64 w5)])]⟩ k = law19_some_p4 n w4 w5 (fun z7 z8 z9 => k .normal ⟨31, [(3, .ptr 100007 0), (4, .arr 1004), (5, .d (D.int .i64 z7))], [(1004, .arr 31 5 []), (100007, .box [.d (D.sl 1 z8), .d (D.int .i64 z9)])]⟩) := by kernel_rfl
theorem law19_some_p5_eq {R : Type} (n : Nat) (h13 : Int) (h14 : List (List D)) (h15 : List (List D)) (h16 : Int) (k : Exit → St → Option R) : vexec (law19_some_C n) n law19_some_c5 ⟨31, [(3, .ptr 100007 0), (4, .arr 1004), (5, .d (D.int .i64 h13))], [(1004, .arr 31 5 h14), (100007, .box [.d (D.sl 1 h15), .d (D.int .i64 h16)])]⟩ k = law19_some_p5 n h13 h14 h15 h16 (fun z23 z24 z25 z26 => k .normal ⟨31, [(3, .ptr 100007 0), (4, .arr 1004), (5, .d (D.int .i64 z23))], [(1004, .arr 31 5 z24), (100007, .box [.d (D.sl 1 z25), .d (D.int .i64 z26)])]⟩) (fun z27 => k (.exit 0) ⟨31, [(3, .ptr 100007 0), (4, .arr 1004), (5, .d (D.int .i64 h13)), (11, .d (D.bool z27))], [(1004, .arr 31 5 h14), (100007, .box [.d (D.sl 1 h15), .d (D.int .i64 h16)])]⟩) := by kernel_rfl
theorem law19_some_r6_eq {R : Type} (n : Nat)  (k : Exit → St → Option R) : ∀ (m : Nat) (h13 : Int) (h14 : List (List D)) (h15 : List (List D)) (h16 : Int), loopN (vexec (law19_some_C n) n law19_some_c5) m ⟨31, [(3, .ptr 100007 0), (4, .arr 1004), (5, .d (D.int .i64 h13))], [(1004, .arr 31 5 h14), (100007, .box [.d (D.sl 1 h15), .d (D.int .i64 h16)])]⟩ k = law19_some_r6 n  (fun h13 w32 h14 h15 h16 => k (.exit 0) ⟨31, [(3, .ptr 100007 0), (4, .arr 1004), (5, .d (D.int .i64 h13)), (11, .d (D.bool w32))], [(1004, .arr 31 5 h14), (100007, .box [.d (D.sl 1 h15), .d (D.int .i64 h16)])]⟩) m h13 h14 h15 h16
  | 0, _, _, _, _ => rfl
  | m + 1, h13, h14, h15, h16 => (law19_some_p5_eq n h13 h14 h15 h16 (loopK (vexec (law19_some_C n) n law19_some_c5) m k)).trans (law19_some_p5_congr n h13 h14 h15 h16 (fun w28 w29 w30 w31 => law19_some_r6_eq n  k m w28 w29 w30 w31) (fun w32 => rfl))
theorem law19_some_p6_eq {R : Type} (n : Nat) (w10 : Int) (w11 : List (List D)) (w12 : Int) (k : Exit → St → Option R) : vexec (law19_some_C n) n law19_some_c6 ⟨31, [(3, .ptr 100007 0), (4, .arr 1004), (5, .d (D.int .i64 w10))], [(1004, .arr 31 5 []), (100007, .box [.d (D.sl 1 w11), .d (D.int .i64 w12)])]⟩ k = law19_some_p6 n w10 w11 w12 (fun h13 w32 h14 h15 h16 => k (.exit 0) ⟨31, [(3, .ptr 100007 0), (4, .arr 1004), (5, .d (D.int .i64 h13)), (11, .d (D.bool w32))], [(1004, .arr 31 5 h14), (100007, .box [.d (D.sl 1 h15), .d (D.int .i64 h16)])]⟩) := by
  rw [law19_some_c6_eq]
  exact law19_some_r6_eq n  k n w10 [] w11 w12
theorem law19_some_p7_eq {R : Type} (n : Nat) (w10 : Int) (w11 : List (List D)) (w12 : Int) (k : Exit → St → Option R) : vexec (law19_some_C n) n law19_some_c7 ⟨31, [(3, .ptr 100007 0), (4, .arr 1004), (5, .d (D.int .i64 w10))], [(1004, .arr 31 5 []), (100007, .box [.d (D.sl 1 w11), .d (D.int .i64 w12)])]⟩ k = law19_some_p7 n w10 w11 w12 (fun w33 w34 w35 w36 w37 => k .normal ⟨31, [(3, .ptr 100007 0), (4, .arr 1004), (5, .d (D.int .i64 w33)), (11, .d (D.bool w34))], [(1004, .arr 31 5 w35), (100007, .box [.d (D.sl 1 w36), .d (D.int .i64 w37)])]⟩) := by
  rw [law19_some_c7_eq]
  unfold law19_some_p7
  exact (law19_some_p6_eq n w10 w11 w12 (blockK 0 k)).trans (law19_some_p6_congr n w10 w11 w12 (fun w33 w34 w35 w36 w37 => rfl))
theorem law19_some_p8_eq {R : Type} (n : Nat) (w4 : List (List D)) (w5 : Int) (k : Exit → St → Option R) : vexec (law19_some_C n) n law19_some_c8 ⟨31, [(3, .ptr 100007 0), (4, .nil)], [(100007, .box [.d (D.sl 1 w4), .d (D.int .i64 w5)])]⟩ k = law19_some_p8 n w4 w5 (fun w38 w39 w40 w41 w42 => k .normal ⟨31, [(3, .ptr 100007 0), (4, .arr 1004), (5, .d (D.int .i64 w38)), (11, .d (D.bool w39))], [(1004, .arr 31 5 w40), (100007, .box [.d (D.sl 1 w41), .d (D.int .i64 w42)])]⟩) := by
  rw [law19_some_c8_eq]
  unfold law19_some_p8
  exact (law19_some_p4_eq n w4 w5 (seqK (law19_some_C n) n law19_some_c7 k)).trans (law19_some_p4_congr n w4 w5 (fun w10 w11 w12 => law19_some_p7_eq n w10 w11 w12 k))
theorem law19_some_p9_eq {R : Type} (n : Nat) (w43 : Int) (w44 : Bool) (w45 : List (List D)) (w46 : List (List D)) (w47 : Int) (k : Exit → St → Option R) : vexec (law19_some_C n) n law19_some_c9 ⟨31, [(3, .ptr 100007 0), (4, .arr 1004), (5, .d (D.int .i64 w43)), (11, .d (D.bool w44))], [(1004, .arr 31 5 w45), (100007, .box [.d (D.sl 1 w46), .d (D.int .i64 w47)])]⟩ k = law19_some_p9 n w43 w44 w45 w46 w47 (k .ret ⟨31, [(2, .arr 1004)], [(1004, .arr 31 5 w45)]⟩) := by kernel_rfl
theorem law19_some_p10_eq {R : Type} (n : Nat) (w4 : List (List D)) (w5 : Int) (k : Exit → St → Option R) : vexec (law19_some_C n) n law19_some_c10 ⟨31, [(3, .ptr 100007 0), (4, .nil)], [(100007, .box [.d (D.sl 1 w4), .d (D.int .i64 w5)])]⟩ k = law19_some_p10 n w4 w5 (fun w45 => k .ret ⟨31, [(2, .arr 1004)], [(1004, .arr 31 5 w45)]⟩) := by
  rw [law19_some_c10_eq]
  unfold law19_some_p10
  exact (law19_some_p8_eq n w4 w5 (seqK (law19_some_C n) n law19_some_c9 k)).trans (law19_some_p8_congr n w4 w5 (fun w43 w44 w45 w46 w47 => law19_some_p9_eq n w43 w44 w45 w46 w47 k))
theorem law19_some_p11_eq {R : Type} (n : Nat) (w4 : List (List D)) (w5 : Int) (k : Exit → St → Option R) : vexec (law19_some_C n) n law19_some_c11 ⟨31, [(3, .ptr 100007 0)], [(100007, .box [.d (D.sl 1 w4), .d (D.int .i64 w5)])]⟩ k = law19_some_p11 n w4 w5 (fun w48 => k .ret ⟨31, [(2, .arr 1004)], [(1004, .arr 31 5 w48)]⟩) := by
  rw [law19_some_c11_eq]
  unfold law19_some_p11
  exact (law19_some_p3_eq n w4 w5 (seqK (law19_some_C n) n law19_some_c10 k)).trans (law19_some_p3_congr n w4 w5 (law19_some_p10_eq n w4 w5 k))
theorem law19_some_p12_eq {R : Type} (n : Nat) (a0 : List (List D)) (k : Exit → St → Option R) : vexec (law19_some_C n) n law19_some_c12 ⟨31, [(0, .d (D.sl 1 a0))], []⟩ k = law19_some_p12 n a0 (fun w49 => k .ret ⟨31, [(2, .arr 1004)], [(1004, .arr 31 5 w49)]⟩) := by
  rw [law19_some_c12_eq]
  unfold law19_some_p12
  exact (law19_some_p2_eq n a0 (seqK (law19_some_C n) n law19_some_c11 k)).trans (law19_some_p2_congr n a0 (fun w4 w5 => law19_some_p11_eq n w4 w5 k))
theorem law19_some_p13_eq {R : Type} (n : Nat) (a0 : List (List D)) (k : Exit → St → Option R) : vexec (law19_some_C n) n law19_some_c0 ⟨31, [(0, .d (D.sl 1 a0))], []⟩ k = law19_some_p13 n a0 (fun w50 => k .ret ⟨31, [(2, .arr 1004)], [(1004, .arr 31 5 w50)]⟩) := by
  rw [law19_some_c0_eq]
  unfold law19_some_p13
  exact (law19_some_p1_eq n a0 (seqK (law19_some_C n) n law19_some_c12 k)).trans (law19_some_p1_congr n a0 (law19_some_p12_eq n a0 k))
theorem law19_some_vfn {R : Type} (n : Nat) (a0 : List (List D)) (K : AV → Option R) : vfn (law19_some_C n) n Try.f8 [.d (D.sl 1 a0)] [] (retF [[5]] K) = law19_some n a0 (fun r0 => K (.d (D.sl 5 r0))) :=
  (show vfn (law19_some_C n) n Try.f8 [.d (D.sl 1 a0)] [] (retF [[5]] K) = vexec (law19_some_C n) n law19_some_c0 ⟨31, [(0, .d (D.sl 1 a0))], []⟩ (retX law19_some_tt [.tmp 2] (retF [[5]] K)) from vfn_at (by kernel_rfl) (by kernel_rfl) rfl (by kernel_rfl) rfl (by kernel_rfl) rfl).trans ((law19_some_p13_eq n a0 (retX law19_some_tt [.tmp 2] (retF [[5]] K))).trans (by kernel_rfl))
def law19_some_K : AV → Option (List (List D)) := fun av => match av with
  | .d (D.sl 5 r0) => some r0
  | _ => none
def law19_some_e (n : Nat) : Entry := fun _ _ g avs _ k => match avs with
  | [c0] => prS g 1 c0 fun a0 => 
    gb g (law19_some n a0 some) [] fun r => k ⟨.d (D.sl 5 r), [], []⟩
  | _ => none
theorem law19_some_ok (n : Nat) : EntryOK Try.prog 8 (law19_some_e n) := by
  intro R site g avs hl k r h
  unfold law19_some_e at h
  split at h
  rotate_left
  · cases h
  replace h := prS_some h
  obtain ⟨a0, h, le0⟩ := h
  replace h := gb_some h
  obtain ⟨res, h, hr⟩ := h
  refine ⟨_, h, fun hg => CallOK.conv (avs' := [.d (D.sl 1 a0)]) (.cons (le0 hg) (.nil)) (callOK_fix (K := law19_some_K) (res := res) (law19_some_VC n) (fn := Try.f8) (n := n) (by kernel_rfl) (by kernel_rfl) (by kernel_rfl) (ss := [[5]]) rfl ?_ ?_)⟩
  · exact (law19_some_vfn n a0 law19_some_K).trans (hr hg)
  · intro x hx
    unfold law19_some_K at hx
    split at hx
    · injection hx with hx; subst hx; rfl
    · cases hx
def law19_some_Ko : AV → List (Nat × Ob) → Option (List (List D)) := fun av H => (look H 1004).bind fun o0 => match av, o0 with
  | .arr p0, .arr p1 p2 r0 => bif Nat.beq p0 1004 && (Nat.beq p1 31 && (Nat.beq p2 5)) then some r0 else none
  | _, _ => none
theorem law19_some_vfo (n : Nat) (a0 : List (List D)) : vfn (law19_some_C n) n Try.f8 [.d (D.sl 1 a0)] [] law19_some_Ko = law19_some n a0 some :=
  (show vfn (law19_some_C n) n Try.f8 [.d (D.sl 1 a0)] [] law19_some_Ko = vexec (law19_some_C n) n law19_some_c0 ⟨31, [(0, .d (D.sl 1 a0))], []⟩ (retX law19_some_tt [.tmp 2] law19_some_Ko) from vfn_at (by kernel_rfl) (by kernel_rfl) rfl (by kernel_rfl) rfl (by kernel_rfl) rfl).trans ((law19_some_p13_eq n a0 (retX law19_some_tt [.tmp 2] law19_some_Ko)).trans (by kernel_rfl))
def law19_some_o (n : Nat) : Entry := fun _ site g avs hl k => match avs with
  | [c0] => prS g 1 c0 fun a0 => 
    bif newsOk hl [] [(1004, (site + 100000))] then gb g (law19_some n a0 some) [] fun r => k ⟨.arr (site + 100000), [((site + 100000), some (.arr 31 5 r))], []⟩ else none
  | _ => none
theorem law19_some_oo (n : Nat) : EntryOK Try.prog 8 (law19_some_o n) := by
  intro R site g avs hl k r h
  unfold law19_some_o at h
  split at h
  rotate_left
  · cases h
  replace h := prS_some h
  obtain ⟨a0, h, le0⟩ := h
  replace h := bif_some h
  obtain ⟨hc, h⟩ := h
  replace h := gb_some h
  obtain ⟨res, h, hr⟩ := h
  refine ⟨_, h, fun hg => CallOK.conv (avs' := [.d (D.sl 1 a0)]) (.cons (le0 hg) (.nil)) (callOK_own (K := law19_some_Ko) (res := res) (law19_some_VC n) (fn := Try.f8) (n := n) (by kernel_rfl) (by kernel_rfl) (by kernel_rfl) (ρ := []) (ν := [(1004, (site + 100000))]) (avs' := [.d (D.sl 1 a0)]) (H := []) rfl rfl rfl rfl hc (trivial) rfl rfl ?_ ?_)⟩
  · exact (law19_some_vfo n a0).trans (hr hg)
  · intro av H' hx
    unfold law19_some_Ko at hx
    replace hx := Option.bind_eq_some_iff.1 hx
    obtain ⟨o0, ho0, hx⟩ := hx
    split at hx
    rotate_left
    · cases hx
    replace hx := bif_some hx
    obtain ⟨hck, hx⟩ := hx
    simp only [Bool.and_eq_true] at hck
    obtain ⟨ek0, ek1, ek2⟩ := hck
    have ek0 := Nat.eq_of_beq_eq_true ek0
    subst ek0
    have ek1 := Nat.eq_of_beq_eq_true ek1
    subst ek1
    have ek2 := Nat.eq_of_beq_eq_true ek2
    subst ek2
    injection hx with hx
    subst hx
    refine ⟨rfl, ?_, ⟨by rw [ho0]; rfl, trivial⟩, trivial⟩
    simp only [List.cons_append, List.nil_append, outWr, ho0, Option.map_some]
    rfl
end Go.Vx
/-
  ref19_in: the interpreter computes the pure function
-/
set_option linter.unusedVariables false
set_option linter.unusedSimpArgs false
set_option maxRecDepth 100000
namespace Go.Vx
open Go.Proofs
noncomputable def ref19_in_c0 : Code := bodyOf Try.f33
def ref19_in_tt : TT := [(3, ⟨.int .i64, 1, 8, [.int .i64 0], [.int .i64 0], [], none⟩)]
theorem ref19_in_tt_eq : mkTT Try.prog [3] = ref19_in_tt := by kernel_rfl
def ref19_in_cfg : List (Nat × Cfg) := [(0, ⟨[0, 1, 2], [], [], [], []⟩), (1, ⟨[6], [], [], [], []⟩)]
def ref19_in_C (n : Nat) : VC := ⟨specOf [], ref19_in_tt, ref19_in_cfg⟩
theorem ref19_in_ents (n : Nat) : EntsOK Try.prog [] := trivial
theorem ref19_in_VC (n : Nat) : VCOk Try.prog (ref19_in_C n) := ⟨specOf_ok (ref19_in_ents n), (ref19_in_tt_eq ▸ mkTT_ok _ : TOk Try.prog ref19_in_tt), by kernel_rfl⟩
theorem ref19_in_p1_congr {R : Type} (n : Nat) (a0 : Int) (a1 : Int) (a2 : Int) {k0 kk0 : Bool → Option R} (hq0 : ∀ x0, k0 x0 = kk0 x0) : ref19_in_p1 n a0 a1 a2 k0 = ref19_in_p1 n a0 a1 a2 kk0 := by
  obtain rfl : k0 = kk0 := funext fun x0 => hq0 x0
  rfl
theorem ref19_in_p1_eq {R : Type} (n : Nat) (a0 : Int) (a1 : Int) (a2 : Int) (k : Exit → St → Option R) : vexec (ref19_in_C n) n ref19_in_c0 ⟨15, [(0, .d (D.int .i64 a0)), (1, .d (D.int .i64 a1)), (2, .d (D.int .i64 a2))], []⟩ k = ref19_in_p1 n a0 a1 a2 (fun z1 => k .ret ⟨15, [(6, .d (D.bool z1))], []⟩) := by kernel_rfl
theorem ref19_in_vfn {R : Type} (n : Nat) (a0 : Int) (a1 : Int) (a2 : Int) (K : AV → Option R) : vfn (ref19_in_C n) n Try.f33 [.d (D.int .i64 a0), .d (D.int .i64 a1), .d (D.int .i64 a2)] [] (retF [[0]] K) = ref19_in n a0 a1 a2 (fun r0 => K (.d (D.bool r0))) :=
  (show vfn (ref19_in_C n) n Try.f33 [.d (D.int .i64 a0), .d (D.int .i64 a1), .d (D.int .i64 a2)] [] (retF [[0]] K) = vexec (ref19_in_C n) n ref19_in_c0 ⟨15, [(0, .d (D.int .i64 a0)), (1, .d (D.int .i64 a1)), (2, .d (D.int .i64 a2))], []⟩ (retX ref19_in_tt [.tmp 6] (retF [[0]] K)) from vfn_at (by kernel_rfl) (by kernel_rfl) rfl (by kernel_rfl) rfl (by kernel_rfl) rfl).trans ((ref19_in_p1_eq n a0 a1 a2 (retX ref19_in_tt [.tmp 6] (retF [[0]] K))).trans (by kernel_rfl))
def ref19_in_K : AV → Option (Bool) := fun av => match av with
  | .d (D.bool r0) => some r0
  | _ => none
def ref19_in_e (n : Nat) : Entry := fun _ _ g avs _ k => match avs with
  | [c0, c1, c2] => prI g .i64 c0 fun a0 => prI g .i64 c1 fun a1 => prI g .i64 c2 fun a2 => 
    gb g (ref19_in n a0 a1 a2 some) false fun r => k ⟨.d (D.bool r), [], []⟩
  | _ => none
theorem ref19_in_ok (n : Nat) : EntryOK Try.prog 33 (ref19_in_e n) := by
  intro R site g avs hl k r h
  unfold ref19_in_e at h
  split at h
  rotate_left
  · cases h
  replace h := prI_some h
  obtain ⟨a0, h, le0⟩ := h
  replace h := prI_some h
  obtain ⟨a1, h, le1⟩ := h
  replace h := prI_some h
  obtain ⟨a2, h, le2⟩ := h
  replace h := gb_some h
  obtain ⟨res, h, hr⟩ := h
  refine ⟨_, h, fun hg => CallOK.conv (avs' := [.d (D.int .i64 a0), .d (D.int .i64 a1), .d (D.int .i64 a2)]) (.cons (le0 hg) (.cons (le1 hg) (.cons (le2 hg) (.nil)))) (callOK_fix (K := ref19_in_K) (res := res) (ref19_in_VC n) (fn := Try.f33) (n := n) (by kernel_rfl) (by kernel_rfl) (by kernel_rfl) (ss := [[0]]) rfl ?_ ?_)⟩
  · exact (ref19_in_vfn n a0 a1 a2 ref19_in_K).trans (hr hg)
  · intro x hx
    unfold ref19_in_K at hx
    split at hx
    · injection hx with hx; subst hx; rfl
    · cases hx
end Go.Vx
/-
  ref19_Valid: the interpreter computes the pure function
-/
set_option linter.unusedVariables false
set_option linter.unusedSimpArgs false
set_option maxRecDepth 100000
namespace Go.Vx
open Go.Proofs
noncomputable def ref19_Valid_c0 : Code := bodyOf Try.f26
noncomputable def ref19_Valid_c1 : Code := cL (bodyOf Try.f26)
noncomputable def ref19_Valid_c2 : Code := cL (cR (bodyOf Try.f26))
noncomputable def ref19_Valid_c3 : Code := cL (cL (cR (cR (bodyOf Try.f26))))
noncomputable def ref19_Valid_c4 : Code := cB (cB (cR (cL (cR (cR (bodyOf Try.f26))))))
noncomputable def ref19_Valid_c5 : Code := cB (cR (cL (cR (cR (bodyOf Try.f26)))))
noncomputable def ref19_Valid_c6 : Code := cR (cL (cR (cR (bodyOf Try.f26))))
noncomputable def ref19_Valid_c7 : Code := cL (cR (cR (bodyOf Try.f26)))
noncomputable def ref19_Valid_c8 : Code := cR (cR (cR (bodyOf Try.f26)))
noncomputable def ref19_Valid_c9 : Code := cR (cR (bodyOf Try.f26))
noncomputable def ref19_Valid_c10 : Code := cR (bodyOf Try.f26)
theorem ref19_Valid_c5_eq : ref19_Valid_c5 = .loop ref19_Valid_c4 := by kernel_rfl
theorem ref19_Valid_c6_eq : ref19_Valid_c6 = .block 0 ref19_Valid_c5 := by kernel_rfl
theorem ref19_Valid_c7_eq : ref19_Valid_c7 = .seq ref19_Valid_c3 ref19_Valid_c6 := by kernel_rfl
theorem ref19_Valid_c9_eq : ref19_Valid_c9 = .seq ref19_Valid_c7 ref19_Valid_c8 := by kernel_rfl
theorem ref19_Valid_c10_eq : ref19_Valid_c10 = .seq ref19_Valid_c2 ref19_Valid_c9 := by kernel_rfl
theorem ref19_Valid_c0_eq : ref19_Valid_c0 = .seq ref19_Valid_c1 ref19_Valid_c10 := by kernel_rfl
def ref19_Valid_tt : TT := [(3, ⟨.int .i64, 1, 8, [.int .i64 0], [.int .i64 0], [], none⟩), (24, ⟨.sl 31 5, 1, 24, [.slice none 0 0], [.sl 5 []], [], none⟩), (31, ⟨.struct, 5, 40, [.int .i64 0, .int .i64 0, .int .i64 0, .int .i64 0, .int .i64 0], [.int .i64 0, .int .i64 0, .int .i64 0, .int .i64 0, .int .i64 0], [(0, 3), (1, 3), (2, 3), (3, 3), (4, 3)], some [.int .i64, .int .i64, .int .i64, .int .i64, .int .i64]⟩)]
theorem ref19_Valid_tt_eq : mkTT Try.prog [3, 24, 31] = ref19_Valid_tt := by kernel_rfl
def ref19_Valid_cfg : List (Nat × Cfg) := [(0, ⟨[0, 1], [], [], [], []⟩), (1, ⟨[1, 9], [], [], [], []⟩), (2, ⟨[4], [], [], [], []⟩), (3, ⟨[1, 11, 12], [], [], [], []⟩), (4, ⟨[1, 11, 12, 13], [], [], [], []⟩), (5, ⟨[1, 5, 11, 12], [], [], [], []⟩), (6, ⟨[1, 6, 11, 12], [(6, 6)], [], [], []⟩), (7, ⟨[1, 11, 12, 44], [], [], [], []⟩), (8, ⟨[4], [], [], [], []⟩), (9, ⟨[1, 11, 12], [], [], [], []⟩), (10, ⟨[4], [], [], [], []⟩)]
def ref19_Valid_C (n : Nat) : VC := ⟨specOf [(33, ref19_in_e n)], ref19_Valid_tt, ref19_Valid_cfg⟩
theorem ref19_Valid_ents (n : Nat) : EntsOK Try.prog [(33, ref19_in_e n)] := ⟨ref19_in_ok n, trivial⟩
theorem ref19_Valid_VC (n : Nat) : VCOk Try.prog (ref19_Valid_C n) := ⟨specOf_ok (ref19_Valid_ents n), (ref19_Valid_tt_eq ▸ mkTT_ok _ : TOk Try.prog ref19_Valid_tt), by kernel_rfl⟩
theorem ref19_Valid_p1_congr {R : Type} (n : Nat) (a0 : Int) (a1 : List (List D)) {k0 kk0 : Option R} (hq0 : k0 = kk0) : ref19_Valid_p1 n a0 a1 k0 = ref19_Valid_p1 n a0 a1 kk0 := by
  obtain rfl : k0 = kk0 := hq0
  rfl
theorem ref19_Valid_p2_congr {R : Type} (n : Nat) (a0 : Int) (a1 : List (List D)) {k0 kk0 : Option R} {k1 kk1 : Bool → Option R} (hq0 : k0 = kk0) (hq1 : ∀ x0, k1 x0 = kk1 x0) : ref19_Valid_p2 n a0 a1 k0 k1 = ref19_Valid_p2 n a0 a1 kk0 kk1 := by
  obtain rfl : k0 = kk0 := hq0
  obtain rfl : k1 = kk1 := funext fun x0 => hq1 x0
  rfl
theorem ref19_Valid_p3_congr {R : Type} (n : Nat) (a1 : List (List D)) (w3 : Bool) {k0 kk0 : Int → Option R} (hq0 : ∀ x0, k0 x0 = kk0 x0) : ref19_Valid_p3 n a1 w3 k0 = ref19_Valid_p3 n a1 w3 kk0 := by
  obtain rfl : k0 = kk0 := funext fun x0 => hq0 x0
  rfl
theorem ref19_Valid_p4_congr {R : Type} (n : Nat) (a1 : List (List D)) (w5 : Int) (h8 : Int) {k0 kk0 : Option R} {k1 kk1 : Int → Option R} {k2 kk2 : Bool → Option R} (hq0 : k0 = kk0) (hq1 : ∀ x0, k1 x0 = kk1 x0) (hq2 : ∀ x0, k2 x0 = kk2 x0) : ref19_Valid_p4 n a1 w5 h8 k0 k1 k2 = ref19_Valid_p4 n a1 w5 h8 kk0 kk1 kk2 := by
  obtain rfl : k0 = kk0 := hq0
  obtain rfl : k1 = kk1 := funext fun x0 => hq1 x0
  obtain rfl : k2 = kk2 := funext fun x0 => hq2 x0
  rfl
theorem ref19_Valid_p5_congr {R : Type} (n : Nat) (a1 : List (List D)) (w5 : Int) {k0 kk0 : Option R} {k1 kk1 : Int → Bool → Option R} (hq0 : k0 = kk0) (hq1 : ∀ x0 x1, k1 x0 x1 = kk1 x0 x1) : ref19_Valid_p5 n a1 w5 k0 k1 = ref19_Valid_p5 n a1 w5 kk0 kk1 := by
  obtain rfl : k0 = kk0 := hq0
  obtain rfl : k1 = kk1 := funext fun x0 => funext fun x1 => hq1 x0 x1
  rfl
theorem ref19_Valid_p6_congr {R : Type} (n : Nat) (a1 : List (List D)) (w5 : Int) {k0 kk0 : Option R} {k1 kk1 : Int → Bool → Option R} (hq0 : k0 = kk0) (hq1 : ∀ x0 x1, k1 x0 x1 = kk1 x0 x1) : ref19_Valid_p6 n a1 w5 k0 k1 = ref19_Valid_p6 n a1 w5 kk0 kk1 := by
  obtain rfl : k0 = kk0 := hq0
  obtain rfl : k1 = kk1 := funext fun x0 => funext fun x1 => hq1 x0 x1
  rfl
theorem ref19_Valid_p7_congr {R : Type} (n : Nat) (a1 : List (List D)) (w3 : Bool) {k0 kk0 : Option R} {k1 kk1 : Int → Int → Bool → Option R} (hq0 : k0 = kk0) (hq1 : ∀ x0 x1 x2, k1 x0 x1 x2 = kk1 x0 x1 x2) : ref19_Valid_p7 n a1 w3 k0 k1 = ref19_Valid_p7 n a1 w3 kk0 kk1 := by
  obtain rfl : k0 = kk0 := hq0
  obtain rfl : k1 = kk1 := funext fun x0 => funext fun x1 => funext fun x2 => hq1 x0 x1 x2
  rfl
theorem ref19_Valid_p8_congr {R : Type} (n : Nat) (a1 : List (List D)) (w47 : Int) (w48 : Int) (w49 : Bool) {k0 kk0 : Option R} (hq0 : k0 = kk0) : ref19_Valid_p8 n a1 w47 w48 w49 k0 = ref19_Valid_p8 n a1 w47 w48 w49 kk0 := by
  obtain rfl : k0 = kk0 := hq0
  rfl
theorem ref19_Valid_p9_congr {R : Type} (n : Nat) (a1 : List (List D)) (w3 : Bool) {k0 kk0 : Bool → Option R} (hq0 : ∀ x0, k0 x0 = kk0 x0) : ref19_Valid_p9 n a1 w3 k0 = ref19_Valid_p9 n a1 w3 kk0 := by
  obtain rfl : k0 = kk0 := funext fun x0 => hq0 x0
  rfl
theorem ref19_Valid_p10_congr {R : Type} (n : Nat) (a0 : Int) (a1 : List (List D)) {k0 kk0 : Bool → Option R} (hq0 : ∀ x0, k0 x0 = kk0 x0) : ref19_Valid_p10 n a0 a1 k0 = ref19_Valid_p10 n a0 a1 kk0 := by
  obtain rfl : k0 = kk0 := funext fun x0 => hq0 x0
  rfl
theorem ref19_Valid_p11_congr {R : Type} (n : Nat) (a0 : Int) (a1 : List (List D)) {k0 kk0 : Bool → Option R} (hq0 : ∀ x0, k0 x0 = kk0 x0) : ref19_Valid_p11 n a0 a1 k0 = ref19_Valid_p11 n a0 a1 kk0 := by
  obtain rfl : k0 = kk0 := funext fun x0 => hq0 x0
  rfl
theorem ref19_Valid_p1_eq {R : Type} (n : Nat) (a0 : Int) (a1 : List (List D)) (k : Exit → St → Option R) : vexec (ref19_Valid_C n) n ref19_Valid_c1 ⟨46, [(0, .d (D.int .i64 a0)), (1, .d (D.sl 5 a1))], []⟩ k = ref19_Valid_p1 n a0 a1 (k .normal ⟨46, [(0, .d (D.int .i64 a0)), (1, .d (D.sl 5 a1))], []⟩) := by kernel_rfl
theorem ref19_Valid_p2_eq {R : Type} (n : Nat) (a0 : Int) (a1 : List (List D)) (k : Exit → St → Option R) : vexec (ref19_Valid_C n) n ref19_Valid_c2 ⟨46, [(0, .d (D.int .i64 a0)), (1, .d (D.sl 5 a1))], []⟩ k = ref19_Valid_p2 n a0 a1 (k .ret ⟨46, [(4, .d (D.bool false))], []⟩) (fun z2 => k .normal ⟨46, [(1, .d (D.sl 5 a1)), (9, .d (D.bool z2))], []⟩) := by kernel_rfl
theorem ref19_Valid_p3_eq {R : Type} (n : Nat) (a1 : List (List D)) (w3 : Bool) (k : Exit → St → Option R) : vexec (ref19_Valid_C n) n ref19_Valid_c3 ⟨46, [(1, .d (D.sl 5 a1)), (9, .d (D.bool w3))], []⟩ k = ref19_Valid_p3 n a1 w3 (fun z4 => k .normal ⟨46, [(1, .d (D.sl 5 a1)), (11, .d (D.int .i64 z4)), (12, .d (D.int .i64 (0 : Int)))], []⟩) := by kernel_rfl
theorem ref19_Valid_p4_eq {R : Type} (n : Nat) (a1 : List (List D)) (w5 : Int) (h8 : Int) (k : Exit → St → Option R) : vexec (ref19_Valid_C n) n ref19_Valid_c4 ⟨46, [(1, .d (D.sl 5 a1)), (11, .d (D.int .i64 w5)), (12, .d (D.int .i64 h8))], []⟩ k = ref19_Valid_p4 n a1 w5 h8 (k .ret ⟨46, [(4, .d (D.bool false))], []⟩) (fun z39 => k .normal ⟨46, [(1, .d (D.sl 5 a1)), (11, .d (D.int .i64 w5)), (12, .d (D.int .i64 z39))], []⟩) (fun z40 => k (.exit 0) ⟨46, [(1, .d (D.sl 5 a1)), (11, .d (D.int .i64 w5)), (12, .d (D.int .i64 h8)), (13, .d (D.bool z40))], []⟩) := by kernel_rfl
theorem ref19_Valid_r5_eq {R : Type} (n : Nat) (a1 : List (List D)) (w5 : Int) (k : Exit → St → Option R) : ∀ (m : Nat) (h8 : Int), loopN (vexec (ref19_Valid_C n) n ref19_Valid_c4) m ⟨46, [(1, .d (D.sl 5 a1)), (11, .d (D.int .i64 w5)), (12, .d (D.int .i64 h8))], []⟩ k = ref19_Valid_r5 n a1 w5 (k .ret ⟨46, [(4, .d (D.bool false))], []⟩) (fun h8 w42 => k (.exit 0) ⟨46, [(1, .d (D.sl 5 a1)), (11, .d (D.int .i64 w5)), (12, .d (D.int .i64 h8)), (13, .d (D.bool w42))], []⟩) m h8
  | 0, _ => rfl
  | m + 1, h8 => (ref19_Valid_p4_eq n a1 w5 h8 (loopK (vexec (ref19_Valid_C n) n ref19_Valid_c4) m k)).trans (ref19_Valid_p4_congr n a1 w5 h8 (rfl) (fun w41 => ref19_Valid_r5_eq n a1 w5 k m w41) (fun w42 => rfl))
theorem ref19_Valid_p5_eq {R : Type} (n : Nat) (a1 : List (List D)) (w5 : Int) (k : Exit → St → Option R) : vexec (ref19_Valid_C n) n ref19_Valid_c5 ⟨46, [(1, .d (D.sl 5 a1)), (11, .d (D.int .i64 w5)), (12, .d (D.int .i64 (0 : Int)))], []⟩ k = ref19_Valid_p5 n a1 w5 (k .ret ⟨46, [(4, .d (D.bool false))], []⟩) (fun h8 w42 => k (.exit 0) ⟨46, [(1, .d (D.sl 5 a1)), (11, .d (D.int .i64 w5)), (12, .d (D.int .i64 h8)), (13, .d (D.bool w42))], []⟩) := by
  rw [ref19_Valid_c5_eq]
  exact ref19_Valid_r5_eq n a1 w5 k n (0 : Int)
theorem ref19_Valid_p6_eq {R : Type} (n : Nat) (a1 : List (List D)) (w5 : Int) (k : Exit → St → Option R) : vexec (ref19_Valid_C n) n ref19_Valid_c6 ⟨46, [(1, .d (D.sl 5 a1)), (11, .d (D.int .i64 w5)), (12, .d (D.int .i64 (0 : Int)))], []⟩ k = ref19_Valid_p6 n a1 w5 (k .ret ⟨46, [(4, .d (D.bool false))], []⟩) (fun w43 w44 => k .normal ⟨46, [(1, .d (D.sl 5 a1)), (11, .d (D.int .i64 w5)), (12, .d (D.int .i64 w43)), (13, .d (D.bool w44))], []⟩) := by
  rw [ref19_Valid_c6_eq]
  unfold ref19_Valid_p6
  exact (ref19_Valid_p5_eq n a1 w5 (blockK 0 k)).trans (ref19_Valid_p5_congr n a1 w5 (rfl) (fun w43 w44 => rfl))
theorem ref19_Valid_p7_eq {R : Type} (n : Nat) (a1 : List (List D)) (w3 : Bool) (k : Exit → St → Option R) : vexec (ref19_Valid_C n) n ref19_Valid_c7 ⟨46, [(1, .d (D.sl 5 a1)), (9, .d (D.bool w3))], []⟩ k = ref19_Valid_p7 n a1 w3 (k .ret ⟨46, [(4, .d (D.bool false))], []⟩) (fun w5 w45 w46 => k .normal ⟨46, [(1, .d (D.sl 5 a1)), (11, .d (D.int .i64 w5)), (12, .d (D.int .i64 w45)), (13, .d (D.bool w46))], []⟩) := by
  rw [ref19_Valid_c7_eq]
  unfold ref19_Valid_p7
  exact (ref19_Valid_p3_eq n a1 w3 (seqK (ref19_Valid_C n) n ref19_Valid_c6 k)).trans (ref19_Valid_p3_congr n a1 w3 (fun w5 => ref19_Valid_p6_eq n a1 w5 k))
theorem ref19_Valid_p8_eq {R : Type} (n : Nat) (a1 : List (List D)) (w47 : Int) (w48 : Int) (w49 : Bool) (k : Exit → St → Option R) : vexec (ref19_Valid_C n) n ref19_Valid_c8 ⟨46, [(1, .d (D.sl 5 a1)), (11, .d (D.int .i64 w47)), (12, .d (D.int .i64 w48)), (13, .d (D.bool w49))], []⟩ k = ref19_Valid_p8 n a1 w47 w48 w49 (k .ret ⟨46, [(4, .d (D.bool true))], []⟩) := by kernel_rfl
theorem ref19_Valid_p9_eq {R : Type} (n : Nat) (a1 : List (List D)) (w3 : Bool) (k : Exit → St → Option R) : vexec (ref19_Valid_C n) n ref19_Valid_c9 ⟨46, [(1, .d (D.sl 5 a1)), (9, .d (D.bool w3))], []⟩ k = ref19_Valid_p9 n a1 w3 (fun z50 => k .ret ⟨46, [(4, .d (D.bool z50))], []⟩) := by
  rw [ref19_Valid_c9_eq]
  unfold ref19_Valid_p9
  exact (ref19_Valid_p7_eq n a1 w3 (seqK (ref19_Valid_C n) n ref19_Valid_c8 k)).trans (ref19_Valid_p7_congr n a1 w3 (rfl) (fun w47 w48 w49 => ref19_Valid_p8_eq n a1 w47 w48 w49 k))
theorem ref19_Valid_p10_eq {R : Type} (n : Nat) (a0 : Int) (a1 : List (List D)) (k : Exit → St → Option R) : vexec (ref19_Valid_C n) n ref19_Valid_c10 ⟨46, [(0, .d (D.int .i64 a0)), (1, .d (D.sl 5 a1))], []⟩ k = ref19_Valid_p10 n a0 a1 (fun z52 => k .ret ⟨46, [(4, .d (D.bool z52))], []⟩) := by
  rw [ref19_Valid_c10_eq]
  unfold ref19_Valid_p10
  exact (ref19_Valid_p2_eq n a0 a1 (seqK (ref19_Valid_C n) n ref19_Valid_c9 k)).trans (ref19_Valid_p2_congr n a0 a1 (rfl) (fun w3 => ref19_Valid_p9_eq n a1 w3 k))
theorem ref19_Valid_p11_eq {R : Type} (n : Nat) (a0 : Int) (a1 : List (List D)) (k : Exit → St → Option R) : vexec (ref19_Valid_C n) n ref19_Valid_c0 ⟨46, [(0, .d (D.int .i64 a0)), (1, .d (D.sl 5 a1))], []⟩ k = ref19_Valid_p11 n a0 a1 (fun w53 => k .ret ⟨46, [(4, .d (D.bool w53))], []⟩) := by
  rw [ref19_Valid_c0_eq]
  unfold ref19_Valid_p11
  exact (ref19_Valid_p1_eq n a0 a1 (seqK (ref19_Valid_C n) n ref19_Valid_c10 k)).trans (ref19_Valid_p1_congr n a0 a1 (ref19_Valid_p10_eq n a0 a1 k))
theorem ref19_Valid_vfn {R : Type} (n : Nat) (a0 : Int) (a1 : List (List D)) (K : AV → Option R) : vfn (ref19_Valid_C n) n Try.f26 [.d (D.int .i64 a0), .d (D.sl 5 a1)] [] (retF [[0]] K) = ref19_Valid n a0 a1 (fun r0 => K (.d (D.bool r0))) :=
  (show vfn (ref19_Valid_C n) n Try.f26 [.d (D.int .i64 a0), .d (D.sl 5 a1)] [] (retF [[0]] K) = vexec (ref19_Valid_C n) n ref19_Valid_c0 ⟨46, [(0, .d (D.int .i64 a0)), (1, .d (D.sl 5 a1))], []⟩ (retX ref19_Valid_tt [.tmp 4] (retF [[0]] K)) from vfn_at (by kernel_rfl) (by kernel_rfl) rfl (by kernel_rfl) rfl (by kernel_rfl) rfl).trans ((ref19_Valid_p11_eq n a0 a1 (retX ref19_Valid_tt [.tmp 4] (retF [[0]] K))).trans (by kernel_rfl))
def ref19_Valid_K : AV → Option (Bool) := fun av => match av with
  | .d (D.bool r0) => some r0
  | _ => none
def ref19_Valid_e (n : Nat) : Entry := fun _ _ g avs _ k => match avs with
  | [c0, c1] => prI g .i64 c0 fun a0 => prS g 5 c1 fun a1 => 
    gb g (ref19_Valid n a0 a1 some) false fun r => k ⟨.d (D.bool r), [], []⟩
  | _ => none
theorem ref19_Valid_ok (n : Nat) : EntryOK Try.prog 26 (ref19_Valid_e n) := by
  intro R site g avs hl k r h
  unfold ref19_Valid_e at h
  split at h
  rotate_left
  · cases h
  replace h := prI_some h
  obtain ⟨a0, h, le0⟩ := h
  replace h := prS_some h
  obtain ⟨a1, h, le1⟩ := h
  replace h := gb_some h
  obtain ⟨res, h, hr⟩ := h
  refine ⟨_, h, fun hg => CallOK.conv (avs' := [.d (D.int .i64 a0), .d (D.sl 5 a1)]) (.cons (le0 hg) (.cons (le1 hg) (.nil))) (callOK_fix (K := ref19_Valid_K) (res := res) (ref19_Valid_VC n) (fn := Try.f26) (n := n) (by kernel_rfl) (by kernel_rfl) (by kernel_rfl) (ss := [[0]]) rfl ?_ ?_)⟩
  · exact (ref19_Valid_vfn n a0 a1 ref19_Valid_K).trans (hr hg)
  · intro x hx
    unfold ref19_Valid_K at hx
    split at hx
    · injection hx with hx; subst hx; rfl
    · cases hx
end Go.Vx
/-
  railplan_occupancy_Conflicts_1_s2: the interpreter computes the pure function
-/
set_option linter.unusedVariables false
set_option linter.unusedSimpArgs false
set_option maxRecDepth 100000
namespace Go.Vx
open Go.Proofs
noncomputable def railplan_occupancy_Conflicts_1_s2_c0 : Code := bodyOf Try.f25
def railplan_occupancy_Conflicts_1_s2_tt : TT := [(3, ⟨.int .i64, 1, 8, [.int .i64 0], [.int .i64 0], [], none⟩), (32, ⟨.sl 35 2, 1, 24, [.slice none 0 0], [.sl 2 []], [], none⟩), (35, ⟨.array 3 1 2, 2, 16, [.int .i64 0, .int .i64 0], [.int .i64 0, .int .i64 0], [(0, 3), (1, 3)], some [.int .i64, .int .i64]⟩)]
theorem railplan_occupancy_Conflicts_1_s2_tt_eq : mkTT Try.prog [3, 32, 35] = railplan_occupancy_Conflicts_1_s2_tt := by kernel_rfl
def railplan_occupancy_Conflicts_1_s2_cfg : List (Nat × Cfg) := [(0, ⟨[0, 1, 2], [(1000000, 1000000), (1000001, 98000)], [], [], []⟩), (1, ⟨[], [(11, 98000), (1000000, 1000000)], [], [], []⟩), (2, ⟨[5], [(98000, 98000), (1000000, 1000000)], [], [], []⟩)]
def railplan_occupancy_Conflicts_1_s2_C (n : Nat) : VC := ⟨specOf [], railplan_occupancy_Conflicts_1_s2_tt, railplan_occupancy_Conflicts_1_s2_cfg⟩
theorem railplan_occupancy_Conflicts_1_s2_ents (n : Nat) : EntsOK Try.prog [] := trivial
theorem railplan_occupancy_Conflicts_1_s2_VC (n : Nat) : VCOk Try.prog (railplan_occupancy_Conflicts_1_s2_C n) := ⟨specOf_ok (railplan_occupancy_Conflicts_1_s2_ents n), (railplan_occupancy_Conflicts_1_s2_tt_eq ▸ mkTT_ok _ : TOk Try.prog railplan_occupancy_Conflicts_1_s2_tt), by kernel_rfl⟩
theorem railplan_occupancy_Conflicts_1_s2_p1_congr {R : Type} (n : Nat) (a0 : Int) (a1 : Int) (q1 : List (List D)) {k0 kk0 : (List (List D)) → Option R} (hq0 : ∀ x0, k0 x0 = kk0 x0) : railplan_occupancy_Conflicts_1_s2_p1 n a0 a1 q1 k0 = railplan_occupancy_Conflicts_1_s2_p1 n a0 a1 q1 kk0 := by
  obtain rfl : k0 = kk0 := funext fun x0 => hq0 x0
  rfl
theorem railplan_occupancy_Conflicts_1_s2_p1_eq {R : Type} (n : Nat) (a0 : Int) (a1 : Int) (q1 : List (List D)) (k : Exit → St → Option R) : vexec (railplan_occupancy_Conflicts_1_s2_C n) n railplan_occupancy_Conflicts_1_s2_c0 ⟨12, [(0, .d (D.int .i64 a0)), (1, .d (D.int .i64 a1)), (2, .ptr 1000000 0)], [(1000000, .box [.arr 1000001]), (1000001, .arr 35 2 q1)]⟩ k = railplan_occupancy_Conflicts_1_s2_p1 n a0 a1 q1 (fun z2 => k .ret ⟨12, [(5, .d (D.bool true))], [(98000, .arr 35 2 z2), (1000000, .box [.arr 98000])]⟩) := by kernel_rfl
def railplan_occupancy_Conflicts_1_s2_Ko : AV → List (Nat × Ob) → Option (Bool × (List (List D))) := fun av H => (look H 1000000).bind fun o0 => (look H 98000).bind fun o1 => match av, o0, o1 with
  | .d (D.bool r0), .box [.arr p0], .arr p1 p2 r1 => bif Nat.beq p0 98000 && (Nat.beq p1 35 && (Nat.beq p2 2 && ((look H 1000001).isNone))) then some (r0, r1) else none
  | _, _, _ => none
theorem railplan_occupancy_Conflicts_1_s2_vfo (n : Nat) (a0 : Int) (a1 : Int) (q1 : List (List D)) : vfn (railplan_occupancy_Conflicts_1_s2_C n) n Try.f25 [.d (D.int .i64 a0), .d (D.int .i64 a1), .ptr 1000000 0] [(1000000, .box [.arr 1000001]), (1000001, .arr 35 2 q1)] railplan_occupancy_Conflicts_1_s2_Ko = railplan_occupancy_Conflicts_1_s2 n a0 a1 q1 (fun r0 r1 => some (r0, r1)) :=
  (show vfn (railplan_occupancy_Conflicts_1_s2_C n) n Try.f25 [.d (D.int .i64 a0), .d (D.int .i64 a1), .ptr 1000000 0] [(1000000, .box [.arr 1000001]), (1000001, .arr 35 2 q1)] railplan_occupancy_Conflicts_1_s2_Ko = vexec (railplan_occupancy_Conflicts_1_s2_C n) n railplan_occupancy_Conflicts_1_s2_c0 ⟨12, [(0, .d (D.int .i64 a0)), (1, .d (D.int .i64 a1)), (2, .ptr 1000000 0)], [(1000000, .box [.arr 1000001]), (1000001, .arr 35 2 q1)]⟩ (retX railplan_occupancy_Conflicts_1_s2_tt [.tmp 5] railplan_occupancy_Conflicts_1_s2_Ko) from vfn_at (by kernel_rfl) (by kernel_rfl) rfl (by kernel_rfl) rfl (by kernel_rfl) rfl).trans ((railplan_occupancy_Conflicts_1_s2_p1_eq n a0 a1 q1 (retX railplan_occupancy_Conflicts_1_s2_tt [.tmp 5] railplan_occupancy_Conflicts_1_s2_Ko)).trans (by kernel_rfl))
def railplan_occupancy_Conflicts_1_s2_s (n : Nat) : Entry := fun _ site g avs hl k => match avs with
  | [c0, c1, c2] => prI g .i64 c0 fun a0 => prI g .i64 c1 fun a1 => prP hl c2 fun l0 bl0 => (match bl0 with
    | [xl0_0] => prR hl 35 2 xl0_0 fun l1 q1 => 
    bif newsOk hl [(1000000, l0), (1000001, l1)] [(98000, (site + 100000))] then gb g (railplan_occupancy_Conflicts_1_s2 n a0 a1 q1 (fun r0 r1 => some (r0, r1))) (false, []) fun r => k ⟨.d (D.bool r.1), [(l0, some (.box [.arr (site + 100000)])), (l1, none), ((site + 100000), some (.arr 35 2 r.2))], [l0, l1]⟩ else none
    | _ => none)
  | _ => none
theorem railplan_occupancy_Conflicts_1_s2_so (n : Nat) : EntryOK Try.prog 25 (railplan_occupancy_Conflicts_1_s2_s n) := by
  intro R site g avs hl k r h
  unfold railplan_occupancy_Conflicts_1_s2_s at h
  split at h
  rotate_left
  · cases h
  replace h := prI_some h
  obtain ⟨a0, h, le0⟩ := h
  replace h := prI_some h
  obtain ⟨a1, h, le1⟩ := h
  replace h := prP_some h
  obtain ⟨l0, bl0, h, el0, hbl0⟩ := h
  subst el0
  split at h
  rotate_left
  · cases h
  replace h := prR_some h
  obtain ⟨l1, q1, h, el1, hbl1⟩ := h
  subst el1
  replace h := bif_some h
  obtain ⟨hc, h⟩ := h
  replace h := gb_some h
  obtain ⟨res, h, hr⟩ := h
  refine ⟨_, h, fun hg => callOK_sh (K := railplan_occupancy_Conflicts_1_s2_Ko) (res := res) (railplan_occupancy_Conflicts_1_s2_VC n) (fn := Try.f25) (n := n) (by kernel_rfl) (by kernel_rfl) (by kernel_rfl) (ρ := [(1000000, l0), (1000001, l1)]) (ν := [(98000, (site + 100000))]) (avs' := [.d (D.int .i64 a0), .d (D.int .i64 a1), .ptr 1000000 0]) (H := [(1000000, .box [.arr 1000001]), (1000001, .arr 35 2 q1)]) (.cons (.data rfl (le0 hg)) (.cons (.data rfl (le1 hg)) (.cons (.own rfl rfl) (.nil)))) rfl rfl hc (⟨⟨by decide, _, _, hbl0, rfl, .box (.cons (.own rfl rfl) (.nil))⟩, ⟨⟨by decide, _, _, hbl1, rfl, .arr _ _ _⟩, trivial⟩⟩) rfl rfl ?_ ?_⟩
  · exact (railplan_occupancy_Conflicts_1_s2_vfo n a0 a1 q1).trans (hr hg)
  · intro av H' hx
    unfold railplan_occupancy_Conflicts_1_s2_Ko at hx
    replace hx := Option.bind_eq_some_iff.1 hx
    obtain ⟨o0, ho0, hx⟩ := hx
    replace hx := Option.bind_eq_some_iff.1 hx
    obtain ⟨o1, ho1, hx⟩ := hx
    split at hx
    rotate_left
    · cases hx
    replace hx := bif_some hx
    obtain ⟨hck, hx⟩ := hx
    simp only [Bool.and_eq_true] at hck
    obtain ⟨ek0, ek1, ek2, hn0⟩ := hck
    have ek0 := Nat.eq_of_beq_eq_true ek0
    subst ek0
    have ek1 := Nat.eq_of_beq_eq_true ek1
    subst ek1
    have ek2 := Nat.eq_of_beq_eq_true ek2
    subst ek2
    have hn0 := Option.isNone_iff_eq_none.1 hn0
    injection hx with hx
    subst hx
    refine ⟨rfl, ?_, ⟨by rw [ho1]; rfl, trivial⟩, ⟨endOk_box rfl ho0 rfl, ⟨endOk_gone rfl hn0, trivial⟩⟩⟩
    simp only [List.cons_append, List.nil_append, outWr, ho0, ho1, hn0, Option.map_some, Option.map_none]
    rfl
end Go.Vx
/-
  occupancy_visit_s3: the interpreter computes the pure function
-/
set_option linter.unusedVariables false
set_option linter.unusedSimpArgs false
set_option maxRecDepth 100000
namespace Go.Vx
open Go.Proofs
noncomputable def occupancy_visit_s3_c0 : Code := cR (cR (cR (bodyOf Try.f23)))
noncomputable def occupancy_visit_s3_c1 : Code := cL (cR (cR (cR (bodyOf Try.f23))))
noncomputable def occupancy_visit_s3_c2 : Code := cL (cB (cB (cR (cR (cR (cR (bodyOf Try.f23)))))))
noncomputable def occupancy_visit_s3_c3 : Code := cL (cR (cB (cB (cR (cR (cR (cR (bodyOf Try.f23))))))))
noncomputable def occupancy_visit_s3_c4 : Code := cL (cB (cL (cR (cR (cB (cB (cR (cR (cR (cR (bodyOf Try.f23)))))))))))
noncomputable def occupancy_visit_s3_c5 : Code := cL (cR (cB (cL (cR (cR (cB (cB (cR (cR (cR (cR (bodyOf Try.f23))))))))))))
noncomputable def occupancy_visit_s3_c6 : Code := cB (cB (cR (cR (cB (cL (cR (cR (cB (cB (cR (cR (cR (cR (bodyOf Try.f23))))))))))))))
noncomputable def occupancy_visit_s3_c7 : Code := cB (cR (cR (cB (cL (cR (cR (cB (cB (cR (cR (cR (cR (bodyOf Try.f23)))))))))))))
noncomputable def occupancy_visit_s3_c8 : Code := cR (cR (cB (cL (cR (cR (cB (cB (cR (cR (cR (cR (bodyOf Try.f23))))))))))))
noncomputable def occupancy_visit_s3_c9 : Code := cR (cB (cL (cR (cR (cB (cB (cR (cR (cR (cR (bodyOf Try.f23)))))))))))
noncomputable def occupancy_visit_s3_c10 : Code := cB (cL (cR (cR (cB (cB (cR (cR (cR (cR (bodyOf Try.f23))))))))))
noncomputable def occupancy_visit_s3_c11 : Code := cL (cR (cR (cB (cB (cR (cR (cR (cR (bodyOf Try.f23)))))))))
noncomputable def occupancy_visit_s3_c12 : Code := cR (cR (cR (cB (cB (cR (cR (cR (cR (bodyOf Try.f23)))))))))
noncomputable def occupancy_visit_s3_c13 : Code := cR (cR (cB (cB (cR (cR (cR (cR (bodyOf Try.f23))))))))
noncomputable def occupancy_visit_s3_c14 : Code := cR (cB (cB (cR (cR (cR (cR (bodyOf Try.f23)))))))
noncomputable def occupancy_visit_s3_c15 : Code := cB (cB (cR (cR (cR (cR (bodyOf Try.f23))))))
noncomputable def occupancy_visit_s3_c16 : Code := cB (cR (cR (cR (cR (bodyOf Try.f23)))))
noncomputable def occupancy_visit_s3_c17 : Code := cR (cR (cR (cR (bodyOf Try.f23))))
theorem occupancy_visit_s3_c7_eq : occupancy_visit_s3_c7 = .loop occupancy_visit_s3_c6 := by kernel_rfl
theorem occupancy_visit_s3_c8_eq : occupancy_visit_s3_c8 = .block 4 occupancy_visit_s3_c7 := by kernel_rfl
theorem occupancy_visit_s3_c9_eq : occupancy_visit_s3_c9 = .seq occupancy_visit_s3_c5 occupancy_visit_s3_c8 := by kernel_rfl
theorem occupancy_visit_s3_c10_eq : occupancy_visit_s3_c10 = .seq occupancy_visit_s3_c4 occupancy_visit_s3_c9 := by kernel_rfl
theorem occupancy_visit_s3_c11_eq : occupancy_visit_s3_c11 = .block 3 occupancy_visit_s3_c10 := by kernel_rfl
theorem occupancy_visit_s3_c13_eq : occupancy_visit_s3_c13 = .seq occupancy_visit_s3_c11 occupancy_visit_s3_c12 := by kernel_rfl
theorem occupancy_visit_s3_c14_eq : occupancy_visit_s3_c14 = .seq occupancy_visit_s3_c3 occupancy_visit_s3_c13 := by kernel_rfl
theorem occupancy_visit_s3_c15_eq : occupancy_visit_s3_c15 = .seq occupancy_visit_s3_c2 occupancy_visit_s3_c14 := by kernel_rfl
theorem occupancy_visit_s3_c16_eq : occupancy_visit_s3_c16 = .loop occupancy_visit_s3_c15 := by kernel_rfl
theorem occupancy_visit_s3_c17_eq : occupancy_visit_s3_c17 = .block 2 occupancy_visit_s3_c16 := by kernel_rfl
theorem occupancy_visit_s3_c0_eq : occupancy_visit_s3_c0 = .seq occupancy_visit_s3_c1 occupancy_visit_s3_c17 := by kernel_rfl
def occupancy_visit_s3_tt : TT := [(3, ⟨.int .i64, 1, 8, [.int .i64 0], [.int .i64 0], [], none⟩), (22, ⟨.sl 3 1, 1, 24, [.slice none 0 0], [.sl 1 []], [], none⟩), (24, ⟨.sl 31 5, 1, 24, [.slice none 0 0], [.sl 5 []], [], none⟩), (31, ⟨.struct, 5, 40, [.int .i64 0, .int .i64 0, .int .i64 0, .int .i64 0, .int .i64 0], [.int .i64 0, .int .i64 0, .int .i64 0, .int .i64 0, .int .i64 0], [(0, 3), (1, 3), (2, 3), (3, 3), (4, 3)], some [.int .i64, .int .i64, .int .i64, .int .i64, .int .i64]⟩), (52, ⟨.mapI, 1, 8, [.map none], [], [], none⟩)]
theorem occupancy_visit_s3_tt_eq : mkTT Try.prog [3, 22, 24, 31, 52] = occupancy_visit_s3_tt := by kernel_rfl
def occupancy_visit_s3_cfg : List (Nat × Cfg) := [(0, ⟨[0, 1, 2, 6], [], [], [], []⟩), (1, ⟨[0, 1, 2, 6, 7], [], [], [], []⟩), (2, ⟨[0, 1, 2, 6, 7, 18, 19, 20], [], [], [], []⟩), (3, ⟨[0, 1, 2, 6, 7, 18, 19, 20, 21], [], [], [], []⟩), (4, ⟨[0, 1, 2, 6, 7, 8, 9, 18, 19, 20], [], [], [], []⟩), (5, ⟨[0, 1, 2, 6, 7, 8, 9, 18, 19, 20], [], [], [], []⟩), (6, ⟨[0, 1, 2, 6, 7, 18, 19, 20], [], [], [], []⟩), (7, ⟨[0, 1, 2, 6, 7, 18, 19, 20], [], [], [], []⟩), (8, ⟨[0, 1, 2, 6, 7, 44, 45, 46], [(1000000, 1000000), (1000001, 98000)], [], [], []⟩), (9, ⟨[0, 1, 2, 6, 7, 44, 45, 46, 47], [(98000, 98000), (1000000, 1000000)], [], [], []⟩), (10, ⟨[0, 1, 2, 6, 7, 10, 11, 44, 45, 46], [(11, 11), (98000, 98000), (1000000, 1000000)], [], [], []⟩), (11, ⟨[0, 1, 2, 6, 7, 10, 11, 44, 45, 46, 59, 60, 61], [(11, 11), (98000, 98000), (1000000, 1000000)], [], [], []⟩), (12, ⟨[0, 1, 2, 6, 7, 10, 11, 44, 45, 46, 59, 60, 61, 62], [(11, 11), (98000, 98000), (1000000, 1000000)], [], [], []⟩), (13, ⟨[0, 1, 2, 6, 7, 10, 11, 13, 44, 45, 46, 59, 60, 61], [(11, 11), (98000, 98000), (1000000, 1000000)], [], [], []⟩), (14, ⟨[0, 1, 2, 6, 7, 10, 11, 44, 45, 46, 59, 60, 61, 78], [(11, 11), (100076, 98000), (1000000, 1000000), (98000, 98000)], [], [], []⟩), (15, ⟨[0, 1, 2, 6, 7, 10, 11, 44, 45, 46, 59, 60, 61], [(11, 11), (98000, 98000), (1000000, 1000000)], [], [], []⟩), (16, ⟨[0, 1, 2, 6, 7, 44, 45, 46], [(1000000, 1000000), (98000, 98000)], [], [], []⟩), (1000000014, ⟨[], [], [], [], []⟩)]
def occupancy_visit_s3_C (n : Nat) : VC := ⟨specOf [(32, occupancy_conflict_e n), (25, railplan_occupancy_Conflicts_1_s2_s n)], occupancy_visit_s3_tt, occupancy_visit_s3_cfg⟩
theorem occupancy_visit_s3_ents (n : Nat) : EntsOK Try.prog [(32, occupancy_conflict_e n), (25, railplan_occupancy_Conflicts_1_s2_s n)] := ⟨occupancy_conflict_ok n, ⟨railplan_occupancy_Conflicts_1_s2_so n, trivial⟩⟩
theorem occupancy_visit_s3_VC (n : Nat) : VCOk Try.prog (occupancy_visit_s3_C n) := ⟨specOf_ok (occupancy_visit_s3_ents n), (occupancy_visit_s3_tt_eq ▸ mkTT_ok _ : TOk Try.prog occupancy_visit_s3_tt), by kernel_rfl⟩
theorem occupancy_visit_s3_p1_congr {R : Type} (n : Nat) (a0 : Int) (a1 : List (List D)) (G : Int → List (List D)) (p : List (List D)) (q1 : List (List D)) {k0 kk0 : Int → Option R} (hq0 : ∀ x0, k0 x0 = kk0 x0) : occupancy_visit_s3_p1 n a0 a1 G p q1 k0 = occupancy_visit_s3_p1 n a0 a1 G p q1 kk0 := by
  obtain rfl : k0 = kk0 := funext fun x0 => hq0 x0
  rfl
theorem occupancy_visit_s3_p2_congr {R : Type} (n : Nat) (a0 : Int) (a1 : List (List D)) (G : Int → List (List D)) (p : List (List D)) (w2 : Int) (h9 : Int) (h10 : List (List D)) {k0 kk0 : Bool → Option R} (hq0 : ∀ x0, k0 x0 = kk0 x0) : occupancy_visit_s3_p2 n a0 a1 G p w2 h9 h10 k0 = occupancy_visit_s3_p2 n a0 a1 G p w2 h9 h10 kk0 := by
  obtain rfl : k0 = kk0 := funext fun x0 => hq0 x0
  rfl
theorem occupancy_visit_s3_p3_congr {R : Type} (n : Nat) (a0 : Int) (a1 : List (List D)) (G : Int → List (List D)) (p : List (List D)) (w2 : Int) (h9 : Int) (w250 : Bool) (h10 : List (List D)) {k0 kk0 : Option R} {k1 kk1 : Option R} (hq0 : k0 = kk0) (hq1 : k1 = kk1) : occupancy_visit_s3_p3 n a0 a1 G p w2 h9 w250 h10 k0 k1 = occupancy_visit_s3_p3 n a0 a1 G p w2 h9 w250 h10 kk0 kk1 := by
  obtain rfl : k0 = kk0 := hq0
  obtain rfl : k1 = kk1 := hq1
  rfl
theorem occupancy_visit_s3_p4_congr {R : Type} (n : Nat) (a0 : Int) (a1 : List (List D)) (G : Int → List (List D)) (p : List (List D)) (w2 : Int) (h9 : Int) (w250 : Bool) (h10 : List (List D)) {k0 kk0 : D → D → D → D → D → Option R} (hq0 : ∀ x0 x1 x2 x3 x4, k0 x0 x1 x2 x3 x4 = kk0 x0 x1 x2 x3 x4) : occupancy_visit_s3_p4 n a0 a1 G p w2 h9 w250 h10 k0 = occupancy_visit_s3_p4 n a0 a1 G p w2 h9 w250 h10 kk0 := by
  obtain rfl : k0 = kk0 := funext fun x0 => funext fun x1 => funext fun x2 => funext fun x3 => funext fun x4 => hq0 x0 x1 x2 x3 x4
  rfl
theorem occupancy_visit_s3_p5_congr {R : Type} (n : Nat) (a0 : Int) (a1 : List (List D)) (G : Int → List (List D)) (p : List (List D)) (h9 : Int) (w2 : Int) (w257 : D) (w258 : D) (w259 : D) (w260 : D) (w261 : D) (h10 : List (List D)) {k0 kk0 : (List (List D)) → Int → Option R} (hq0 : ∀ x0 x1, k0 x0 x1 = kk0 x0 x1) : occupancy_visit_s3_p5 n a0 a1 G p h9 w2 w257 w258 w259 w260 w261 h10 k0 = occupancy_visit_s3_p5 n a0 a1 G p h9 w2 w257 w258 w259 w260 w261 h10 kk0 := by
  obtain rfl : k0 = kk0 := funext fun x0 => funext fun x1 => hq0 x0 x1
  rfl
theorem occupancy_visit_s3_p6_congr {R : Type} (n : Nat) (a0 : Int) (a1 : List (List D)) (G : Int → List (List D)) (p : List (List D)) (h9 : Int) (w2 : Int) (w269 : List (List D)) (w270 : Int) (h281 : Int) (w257 : D) (w258 : D) (w259 : D) (w260 : D) (w261 : D) (h287 : List (List D)) {k0 kk0 : Bool → (List (List D)) → Option R} {k1 kk1 : Int → (List (List D)) → Option R} {k2 kk2 : Bool → Option R} {k3 kk3 : Bool → Option R} (hq0 : ∀ x0 x1, k0 x0 x1 = kk0 x0 x1) (hq1 : ∀ x0 x1, k1 x0 x1 = kk1 x0 x1) (hq2 : ∀ x0, k2 x0 = kk2 x0) (hq3 : ∀ x0, k3 x0 = kk3 x0) : occupancy_visit_s3_p6 n a0 a1 G p h9 w2 w269 w270 h281 w257 w258 w259 w260 w261 h287 k0 k1 k2 k3 = occupancy_visit_s3_p6 n a0 a1 G p h9 w2 w269 w270 h281 w257 w258 w259 w260 w261 h287 kk0 kk1 kk2 kk3 := by
  obtain rfl : k0 = kk0 := funext fun x0 => funext fun x1 => hq0 x0 x1
  obtain rfl : k1 = kk1 := funext fun x0 => funext fun x1 => hq1 x0 x1
  obtain rfl : k2 = kk2 := funext fun x0 => hq2 x0
  obtain rfl : k3 = kk3 := funext fun x0 => hq3 x0
  rfl
theorem occupancy_visit_s3_p7_congr {R : Type} (n : Nat) (a0 : Int) (a1 : List (List D)) (G : Int → List (List D)) (p : List (List D)) (h9 : Int) (w2 : Int) (w269 : List (List D)) (w270 : Int) (w257 : D) (w258 : D) (w259 : D) (w260 : D) (w261 : D) (h10 : List (List D)) {k0 kk0 : Int → Bool → (List (List D)) → Option R} {k1 kk1 : Int → Bool → (List (List D)) → Option R} {k2 kk2 : Int → Bool → (List (List D)) → Option R} (hq0 : ∀ x0 x1 x2, k0 x0 x1 x2 = kk0 x0 x1 x2) (hq1 : ∀ x0 x1 x2, k1 x0 x1 x2 = kk1 x0 x1 x2) (hq2 : ∀ x0 x1 x2, k2 x0 x1 x2 = kk2 x0 x1 x2) : occupancy_visit_s3_p7 n a0 a1 G p h9 w2 w269 w270 w257 w258 w259 w260 w261 h10 k0 k1 k2 = occupancy_visit_s3_p7 n a0 a1 G p h9 w2 w269 w270 w257 w258 w259 w260 w261 h10 kk0 kk1 kk2 := by
  obtain rfl : k0 = kk0 := funext fun x0 => funext fun x1 => funext fun x2 => hq0 x0 x1 x2
  obtain rfl : k1 = kk1 := funext fun x0 => funext fun x1 => funext fun x2 => hq1 x0 x1 x2
  obtain rfl : k2 = kk2 := funext fun x0 => funext fun x1 => funext fun x2 => hq2 x0 x1 x2
  rfl
theorem occupancy_visit_s3_p8_congr {R : Type} (n : Nat) (a0 : Int) (a1 : List (List D)) (G : Int → List (List D)) (p : List (List D)) (h9 : Int) (w2 : Int) (w269 : List (List D)) (w270 : Int) (w257 : D) (w258 : D) (w259 : D) (w260 : D) (w261 : D) (h10 : List (List D)) {k0 kk0 : Int → Bool → (List (List D)) → Option R} {k1 kk1 : Int → Bool → (List (List D)) → Option R} {k2 kk2 : Int → Bool → (List (List D)) → Option R} (hq0 : ∀ x0 x1 x2, k0 x0 x1 x2 = kk0 x0 x1 x2) (hq1 : ∀ x0 x1 x2, k1 x0 x1 x2 = kk1 x0 x1 x2) (hq2 : ∀ x0 x1 x2, k2 x0 x1 x2 = kk2 x0 x1 x2) : occupancy_visit_s3_p8 n a0 a1 G p h9 w2 w269 w270 w257 w258 w259 w260 w261 h10 k0 k1 k2 = occupancy_visit_s3_p8 n a0 a1 G p h9 w2 w269 w270 w257 w258 w259 w260 w261 h10 kk0 kk1 kk2 := by
  obtain rfl : k0 = kk0 := funext fun x0 => funext fun x1 => funext fun x2 => hq0 x0 x1 x2
  obtain rfl : k1 = kk1 := funext fun x0 => funext fun x1 => funext fun x2 => hq1 x0 x1 x2
  obtain rfl : k2 = kk2 := funext fun x0 => funext fun x1 => funext fun x2 => hq2 x0 x1 x2
  rfl
theorem occupancy_visit_s3_p9_congr {R : Type} (n : Nat) (a0 : Int) (a1 : List (List D)) (G : Int → List (List D)) (p : List (List D)) (h9 : Int) (w2 : Int) (w257 : D) (w258 : D) (w259 : D) (w260 : D) (w261 : D) (h10 : List (List D)) {k0 kk0 : (List (List D)) → Int → Int → Bool → (List (List D)) → Option R} {k1 kk1 : (List (List D)) → Int → Int → Bool → (List (List D)) → Option R} {k2 kk2 : (List (List D)) → Int → Int → Bool → (List (List D)) → Option R} (hq0 : ∀ x0 x1 x2 x3 x4, k0 x0 x1 x2 x3 x4 = kk0 x0 x1 x2 x3 x4) (hq1 : ∀ x0 x1 x2 x3 x4, k1 x0 x1 x2 x3 x4 = kk1 x0 x1 x2 x3 x4) (hq2 : ∀ x0 x1 x2 x3 x4, k2 x0 x1 x2 x3 x4 = kk2 x0 x1 x2 x3 x4) : occupancy_visit_s3_p9 n a0 a1 G p h9 w2 w257 w258 w259 w260 w261 h10 k0 k1 k2 = occupancy_visit_s3_p9 n a0 a1 G p h9 w2 w257 w258 w259 w260 w261 h10 kk0 kk1 kk2 := by
  obtain rfl : k0 = kk0 := funext fun x0 => funext fun x1 => funext fun x2 => funext fun x3 => funext fun x4 => hq0 x0 x1 x2 x3 x4
  obtain rfl : k1 = kk1 := funext fun x0 => funext fun x1 => funext fun x2 => funext fun x3 => funext fun x4 => hq1 x0 x1 x2 x3 x4
  obtain rfl : k2 = kk2 := funext fun x0 => funext fun x1 => funext fun x2 => funext fun x3 => funext fun x4 => hq2 x0 x1 x2 x3 x4
  rfl
theorem occupancy_visit_s3_p10_congr {R : Type} (n : Nat) (a0 : Int) (a1 : List (List D)) (G : Int → List (List D)) (p : List (List D)) (w2 : Int) (h9 : Int) (w250 : Bool) (h10 : List (List D)) {k0 kk0 : (List (List D)) → Int → Int → Bool → D → D → D → D → D → (List (List D)) → Option R} {k1 kk1 : (List (List D)) → Int → Int → Bool → D → D → D → D → D → (List (List D)) → Option R} {k2 kk2 : (List (List D)) → Int → Int → Bool → D → D → D → D → D → (List (List D)) → Option R} (hq0 : ∀ x0 x1 x2 x3 x4 x5 x6 x7 x8 x9, k0 x0 x1 x2 x3 x4 x5 x6 x7 x8 x9 = kk0 x0 x1 x2 x3 x4 x5 x6 x7 x8 x9) (hq1 : ∀ x0 x1 x2 x3 x4 x5 x6 x7 x8 x9, k1 x0 x1 x2 x3 x4 x5 x6 x7 x8 x9 = kk1 x0 x1 x2 x3 x4 x5 x6 x7 x8 x9) (hq2 : ∀ x0 x1 x2 x3 x4 x5 x6 x7 x8 x9, k2 x0 x1 x2 x3 x4 x5 x6 x7 x8 x9 = kk2 x0 x1 x2 x3 x4 x5 x6 x7 x8 x9) : occupancy_visit_s3_p10 n a0 a1 G p w2 h9 w250 h10 k0 k1 k2 = occupancy_visit_s3_p10 n a0 a1 G p w2 h9 w250 h10 kk0 kk1 kk2 := by
  obtain rfl : k0 = kk0 := funext fun x0 => funext fun x1 => funext fun x2 => funext fun x3 => funext fun x4 => funext fun x5 => funext fun x6 => funext fun x7 => funext fun x8 => funext fun x9 => hq0 x0 x1 x2 x3 x4 x5 x6 x7 x8 x9
  obtain rfl : k1 = kk1 := funext fun x0 => funext fun x1 => funext fun x2 => funext fun x3 => funext fun x4 => funext fun x5 => funext fun x6 => funext fun x7 => funext fun x8 => funext fun x9 => hq1 x0 x1 x2 x3 x4 x5 x6 x7 x8 x9
  obtain rfl : k2 = kk2 := funext fun x0 => funext fun x1 => funext fun x2 => funext fun x3 => funext fun x4 => funext fun x5 => funext fun x6 => funext fun x7 => funext fun x8 => funext fun x9 => hq2 x0 x1 x2 x3 x4 x5 x6 x7 x8 x9
  rfl
theorem occupancy_visit_s3_p11_congr {R : Type} (n : Nat) (a0 : Int) (a1 : List (List D)) (G : Int → List (List D)) (p : List (List D)) (w2 : Int) (h9 : Int) (w250 : Bool) (h10 : List (List D)) {k0 kk0 : (List (List D)) → Int → Int → Bool → D → D → D → D → D → (List (List D)) → Option R} {k1 kk1 : (List (List D)) → Int → Int → Bool → D → D → D → D → D → (List (List D)) → Option R} {k2 kk2 : (List (List D)) → Int → Int → Bool → D → D → D → D → D → (List (List D)) → Option R} (hq0 : ∀ x0 x1 x2 x3 x4 x5 x6 x7 x8 x9, k0 x0 x1 x2 x3 x4 x5 x6 x7 x8 x9 = kk0 x0 x1 x2 x3 x4 x5 x6 x7 x8 x9) (hq1 : ∀ x0 x1 x2 x3 x4 x5 x6 x7 x8 x9, k1 x0 x1 x2 x3 x4 x5 x6 x7 x8 x9 = kk1 x0 x1 x2 x3 x4 x5 x6 x7 x8 x9) (hq2 : ∀ x0 x1 x2 x3 x4 x5 x6 x7 x8 x9, k2 x0 x1 x2 x3 x4 x5 x6 x7 x8 x9 = kk2 x0 x1 x2 x3 x4 x5 x6 x7 x8 x9) : occupancy_visit_s3_p11 n a0 a1 G p w2 h9 w250 h10 k0 k1 k2 = occupancy_visit_s3_p11 n a0 a1 G p w2 h9 w250 h10 kk0 kk1 kk2 := by
  obtain rfl : k0 = kk0 := funext fun x0 => funext fun x1 => funext fun x2 => funext fun x3 => funext fun x4 => funext fun x5 => funext fun x6 => funext fun x7 => funext fun x8 => funext fun x9 => hq0 x0 x1 x2 x3 x4 x5 x6 x7 x8 x9
  obtain rfl : k1 = kk1 := funext fun x0 => funext fun x1 => funext fun x2 => funext fun x3 => funext fun x4 => funext fun x5 => funext fun x6 => funext fun x7 => funext fun x8 => funext fun x9 => hq1 x0 x1 x2 x3 x4 x5 x6 x7 x8 x9
  obtain rfl : k2 = kk2 := funext fun x0 => funext fun x1 => funext fun x2 => funext fun x3 => funext fun x4 => funext fun x5 => funext fun x6 => funext fun x7 => funext fun x8 => funext fun x9 => hq2 x0 x1 x2 x3 x4 x5 x6 x7 x8 x9
  rfl
theorem occupancy_visit_s3_p12_congr {R : Type} (n : Nat) (a0 : Int) (a1 : List (List D)) (G : Int → List (List D)) (p : List (List D)) (h9 : Int) (w2 : Int) (w431 : List (List D)) (w432 : Int) (w433 : Int) (w434 : Bool) (w435 : D) (w436 : D) (w437 : D) (w438 : D) (w439 : D) (w440 : List (List D)) {k0 kk0 : Int → Option R} (hq0 : ∀ x0, k0 x0 = kk0 x0) : occupancy_visit_s3_p12 n a0 a1 G p h9 w2 w431 w432 w433 w434 w435 w436 w437 w438 w439 w440 k0 = occupancy_visit_s3_p12 n a0 a1 G p h9 w2 w431 w432 w433 w434 w435 w436 w437 w438 w439 w440 kk0 := by
  obtain rfl : k0 = kk0 := funext fun x0 => hq0 x0
  rfl
theorem occupancy_visit_s3_p13_congr {R : Type} (n : Nat) (a0 : Int) (a1 : List (List D)) (G : Int → List (List D)) (p : List (List D)) (w2 : Int) (h9 : Int) (w250 : Bool) (h10 : List (List D)) {k0 kk0 : (List (List D)) → Int → Int → Bool → D → D → D → D → D → (List (List D)) → Option R} {k1 kk1 : (List (List D)) → Int → Int → Bool → D → D → D → D → D → (List (List D)) → Option R} {k2 kk2 : Int → (List (List D)) → Option R} (hq0 : ∀ x0 x1 x2 x3 x4 x5 x6 x7 x8 x9, k0 x0 x1 x2 x3 x4 x5 x6 x7 x8 x9 = kk0 x0 x1 x2 x3 x4 x5 x6 x7 x8 x9) (hq1 : ∀ x0 x1 x2 x3 x4 x5 x6 x7 x8 x9, k1 x0 x1 x2 x3 x4 x5 x6 x7 x8 x9 = kk1 x0 x1 x2 x3 x4 x5 x6 x7 x8 x9) (hq2 : ∀ x0 x1, k2 x0 x1 = kk2 x0 x1) : occupancy_visit_s3_p13 n a0 a1 G p w2 h9 w250 h10 k0 k1 k2 = occupancy_visit_s3_p13 n a0 a1 G p w2 h9 w250 h10 kk0 kk1 kk2 := by
  obtain rfl : k0 = kk0 := funext fun x0 => funext fun x1 => funext fun x2 => funext fun x3 => funext fun x4 => funext fun x5 => funext fun x6 => funext fun x7 => funext fun x8 => funext fun x9 => hq0 x0 x1 x2 x3 x4 x5 x6 x7 x8 x9
  obtain rfl : k1 = kk1 := funext fun x0 => funext fun x1 => funext fun x2 => funext fun x3 => funext fun x4 => funext fun x5 => funext fun x6 => funext fun x7 => funext fun x8 => funext fun x9 => hq1 x0 x1 x2 x3 x4 x5 x6 x7 x8 x9
  obtain rfl : k2 = kk2 := funext fun x0 => funext fun x1 => hq2 x0 x1
  rfl
theorem occupancy_visit_s3_p14_congr {R : Type} (n : Nat) (a0 : Int) (a1 : List (List D)) (G : Int → List (List D)) (p : List (List D)) (w2 : Int) (h9 : Int) (w250 : Bool) (h10 : List (List D)) {k0 kk0 : (List (List D)) → Int → Int → Bool → D → D → D → D → D → (List (List D)) → Option R} {k1 kk1 : (List (List D)) → Int → Int → Bool → D → D → D → D → D → (List (List D)) → Option R} {k2 kk2 : Int → (List (List D)) → Option R} {k3 kk3 : Option R} (hq0 : ∀ x0 x1 x2 x3 x4 x5 x6 x7 x8 x9, k0 x0 x1 x2 x3 x4 x5 x6 x7 x8 x9 = kk0 x0 x1 x2 x3 x4 x5 x6 x7 x8 x9) (hq1 : ∀ x0 x1 x2 x3 x4 x5 x6 x7 x8 x9, k1 x0 x1 x2 x3 x4 x5 x6 x7 x8 x9 = kk1 x0 x1 x2 x3 x4 x5 x6 x7 x8 x9) (hq2 : ∀ x0 x1, k2 x0 x1 = kk2 x0 x1) (hq3 : k3 = kk3) : occupancy_visit_s3_p14 n a0 a1 G p w2 h9 w250 h10 k0 k1 k2 k3 = occupancy_visit_s3_p14 n a0 a1 G p w2 h9 w250 h10 kk0 kk1 kk2 kk3 := by
  obtain rfl : k0 = kk0 := funext fun x0 => funext fun x1 => funext fun x2 => funext fun x3 => funext fun x4 => funext fun x5 => funext fun x6 => funext fun x7 => funext fun x8 => funext fun x9 => hq0 x0 x1 x2 x3 x4 x5 x6 x7 x8 x9
  obtain rfl : k1 = kk1 := funext fun x0 => funext fun x1 => funext fun x2 => funext fun x3 => funext fun x4 => funext fun x5 => funext fun x6 => funext fun x7 => funext fun x8 => funext fun x9 => hq1 x0 x1 x2 x3 x4 x5 x6 x7 x8 x9
  obtain rfl : k2 = kk2 := funext fun x0 => funext fun x1 => hq2 x0 x1
  obtain rfl : k3 = kk3 := hq3
  rfl
theorem occupancy_visit_s3_p15_congr {R : Type} (n : Nat) (a0 : Int) (a1 : List (List D)) (G : Int → List (List D)) (p : List (List D)) (w2 : Int) (h9 : Int) (h10 : List (List D)) {k0 kk0 : (List (List D)) → Int → Int → Bool → D → D → D → D → D → (List (List D)) → Option R} {k1 kk1 : (List (List D)) → Int → Int → Bool → D → D → D → D → D → (List (List D)) → Option R} {k2 kk2 : Int → (List (List D)) → Option R} {k3 kk3 : Bool → Option R} (hq0 : ∀ x0 x1 x2 x3 x4 x5 x6 x7 x8 x9, k0 x0 x1 x2 x3 x4 x5 x6 x7 x8 x9 = kk0 x0 x1 x2 x3 x4 x5 x6 x7 x8 x9) (hq1 : ∀ x0 x1 x2 x3 x4 x5 x6 x7 x8 x9, k1 x0 x1 x2 x3 x4 x5 x6 x7 x8 x9 = kk1 x0 x1 x2 x3 x4 x5 x6 x7 x8 x9) (hq2 : ∀ x0 x1, k2 x0 x1 = kk2 x0 x1) (hq3 : ∀ x0, k3 x0 = kk3 x0) : occupancy_visit_s3_p15 n a0 a1 G p w2 h9 h10 k0 k1 k2 k3 = occupancy_visit_s3_p15 n a0 a1 G p w2 h9 h10 kk0 kk1 kk2 kk3 := by
  obtain rfl : k0 = kk0 := funext fun x0 => funext fun x1 => funext fun x2 => funext fun x3 => funext fun x4 => funext fun x5 => funext fun x6 => funext fun x7 => funext fun x8 => funext fun x9 => hq0 x0 x1 x2 x3 x4 x5 x6 x7 x8 x9
  obtain rfl : k1 = kk1 := funext fun x0 => funext fun x1 => funext fun x2 => funext fun x3 => funext fun x4 => funext fun x5 => funext fun x6 => funext fun x7 => funext fun x8 => funext fun x9 => hq1 x0 x1 x2 x3 x4 x5 x6 x7 x8 x9
  obtain rfl : k2 = kk2 := funext fun x0 => funext fun x1 => hq2 x0 x1
  obtain rfl : k3 = kk3 := funext fun x0 => hq3 x0
  rfl
theorem occupancy_visit_s3_p16_congr {R : Type} (n : Nat) (a0 : Int) (a1 : List (List D)) (G : Int → List (List D)) (p : List (List D)) (w2 : Int) (q1 : List (List D)) {k0 kk0 : Int → (List (List D)) → Int → Int → Bool → D → D → D → D → D → (List (List D)) → Option R} {k1 kk1 : Int → (List (List D)) → Int → Int → Bool → D → D → D → D → D → (List (List D)) → Option R} {k2 kk2 : Int → Bool → (List (List D)) → Option R} (hq0 : ∀ x0 x1 x2 x3 x4 x5 x6 x7 x8 x9 x10, k0 x0 x1 x2 x3 x4 x5 x6 x7 x8 x9 x10 = kk0 x0 x1 x2 x3 x4 x5 x6 x7 x8 x9 x10) (hq1 : ∀ x0 x1 x2 x3 x4 x5 x6 x7 x8 x9 x10, k1 x0 x1 x2 x3 x4 x5 x6 x7 x8 x9 x10 = kk1 x0 x1 x2 x3 x4 x5 x6 x7 x8 x9 x10) (hq2 : ∀ x0 x1 x2, k2 x0 x1 x2 = kk2 x0 x1 x2) : occupancy_visit_s3_p16 n a0 a1 G p w2 q1 k0 k1 k2 = occupancy_visit_s3_p16 n a0 a1 G p w2 q1 kk0 kk1 kk2 := by
  obtain rfl : k0 = kk0 := funext fun x0 => funext fun x1 => funext fun x2 => funext fun x3 => funext fun x4 => funext fun x5 => funext fun x6 => funext fun x7 => funext fun x8 => funext fun x9 => funext fun x10 => hq0 x0 x1 x2 x3 x4 x5 x6 x7 x8 x9 x10
  obtain rfl : k1 = kk1 := funext fun x0 => funext fun x1 => funext fun x2 => funext fun x3 => funext fun x4 => funext fun x5 => funext fun x6 => funext fun x7 => funext fun x8 => funext fun x9 => funext fun x10 => hq1 x0 x1 x2 x3 x4 x5 x6 x7 x8 x9 x10
  obtain rfl : k2 = kk2 := funext fun x0 => funext fun x1 => funext fun x2 => hq2 x0 x1 x2
  rfl
theorem occupancy_visit_s3_p17_congr {R : Type} (n : Nat) (a0 : Int) (a1 : List (List D)) (G : Int → List (List D)) (p : List (List D)) (w2 : Int) (q1 : List (List D)) {k0 kk0 : Int → (List (List D)) → Int → Int → Bool → D → D → D → D → D → (List (List D)) → Option R} {k1 kk1 : Int → (List (List D)) → Int → Int → Bool → D → D → D → D → D → (List (List D)) → Option R} {k2 kk2 : Int → Bool → (List (List D)) → Option R} (hq0 : ∀ x0 x1 x2 x3 x4 x5 x6 x7 x8 x9 x10, k0 x0 x1 x2 x3 x4 x5 x6 x7 x8 x9 x10 = kk0 x0 x1 x2 x3 x4 x5 x6 x7 x8 x9 x10) (hq1 : ∀ x0 x1 x2 x3 x4 x5 x6 x7 x8 x9 x10, k1 x0 x1 x2 x3 x4 x5 x6 x7 x8 x9 x10 = kk1 x0 x1 x2 x3 x4 x5 x6 x7 x8 x9 x10) (hq2 : ∀ x0 x1 x2, k2 x0 x1 x2 = kk2 x0 x1 x2) : occupancy_visit_s3_p17 n a0 a1 G p w2 q1 k0 k1 k2 = occupancy_visit_s3_p17 n a0 a1 G p w2 q1 kk0 kk1 kk2 := by
  obtain rfl : k0 = kk0 := funext fun x0 => funext fun x1 => funext fun x2 => funext fun x3 => funext fun x4 => funext fun x5 => funext fun x6 => funext fun x7 => funext fun x8 => funext fun x9 => funext fun x10 => hq0 x0 x1 x2 x3 x4 x5 x6 x7 x8 x9 x10
  obtain rfl : k1 = kk1 := funext fun x0 => funext fun x1 => funext fun x2 => funext fun x3 => funext fun x4 => funext fun x5 => funext fun x6 => funext fun x7 => funext fun x8 => funext fun x9 => funext fun x10 => hq1 x0 x1 x2 x3 x4 x5 x6 x7 x8 x9 x10
  obtain rfl : k2 = kk2 := funext fun x0 => funext fun x1 => funext fun x2 => hq2 x0 x1 x2
  rfl
theorem occupancy_visit_s3_p18_congr {R : Type} (n : Nat) (a0 : Int) (a1 : List (List D)) (G : Int → List (List D)) (p : List (List D)) (q1 : List (List D)) {k0 kk0 : Int → Int → (List (List D)) → Int → Int → Bool → D → D → D → D → D → (List (List D)) → Option R} {k1 kk1 : Int → Int → (List (List D)) → Int → Int → Bool → D → D → D → D → D → (List (List D)) → Option R} {k2 kk2 : Int → Int → Bool → (List (List D)) → Option R} (hq0 : ∀ x0 x1 x2 x3 x4 x5 x6 x7 x8 x9 x10 x11, k0 x0 x1 x2 x3 x4 x5 x6 x7 x8 x9 x10 x11 = kk0 x0 x1 x2 x3 x4 x5 x6 x7 x8 x9 x10 x11) (hq1 : ∀ x0 x1 x2 x3 x4 x5 x6 x7 x8 x9 x10 x11, k1 x0 x1 x2 x3 x4 x5 x6 x7 x8 x9 x10 x11 = kk1 x0 x1 x2 x3 x4 x5 x6 x7 x8 x9 x10 x11) (hq2 : ∀ x0 x1 x2 x3, k2 x0 x1 x2 x3 = kk2 x0 x1 x2 x3) : occupancy_visit_s3_p18 n a0 a1 G p q1 k0 k1 k2 = occupancy_visit_s3_p18 n a0 a1 G p q1 kk0 kk1 kk2 := by
  obtain rfl : k0 = kk0 := funext fun x0 => funext fun x1 => funext fun x2 => funext fun x3 => funext fun x4 => funext fun x5 => funext fun x6 => funext fun x7 => funext fun x8 => funext fun x9 => funext fun x10 => funext fun x11 => hq0 x0 x1 x2 x3 x4 x5 x6 x7 x8 x9 x10 x11
  obtain rfl : k1 = kk1 := funext fun x0 => funext fun x1 => funext fun x2 => funext fun x3 => funext fun x4 => funext fun x5 => funext fun x6 => funext fun x7 => funext fun x8 => funext fun x9 => funext fun x10 => funext fun x11 => hq1 x0 x1 x2 x3 x4 x5 x6 x7 x8 x9 x10 x11
  obtain rfl : k2 = kk2 := funext fun x0 => funext fun x1 => funext fun x2 => funext fun x3 => hq2 x0 x1 x2 x3
  rfl
theorem occupancy_visit_s3_p1_eq {R : Type} (n : Nat) (a0 : Int) (a1 : List (List D)) (G : Int → List (List D)) (p : List (List D)) (q1 : List (List D)) (k : Exit → St → Option R) : vexec (occupancy_visit_s3_C n) n occupancy_visit_s3_c1 ⟨81, [(0, .d (D.int .i64 a0)), (1, .d (D.sl 5 a1)), (2, .fn 25 [.ptr 1000000 0]), (6, .mpd G), (7, .d (D.sl 1 p))], [(1000000, .box [.arr 1000001]), (1000001, .arr 35 2 q1)]⟩ k = occupancy_visit_s3_p1 n a0 a1 G p q1 (fun z1 => k .normal ⟨81, [(0, .d (D.int .i64 a0)), (1, .d (D.sl 5 a1)), (2, .fn 25 [.ptr 1000000 0]), (6, .mpd G), (7, .d (D.sl 1 p)), (44, .d (D.sl 5 a1)), (45, .d (D.int .i64 z1)), (46, .d (D.int .i64 (0 : Int)))], [(1000000, .box [.arr 98000]), (98000, .arr 35 2 q1)]⟩) := by kernel_rfl
theorem occupancy_visit_s3_p2_eq {R : Type} (n : Nat) (a0 : Int) (a1 : List (List D)) (G : Int → List (List D)) (p : List (List D)) (w2 : Int) (h9 : Int) (h10 : List (List D)) (k : Exit → St → Option R) : vexec (occupancy_visit_s3_C n) n occupancy_visit_s3_c2 ⟨81, [(0, .d (D.int .i64 a0)), (1, .d (D.sl 5 a1)), (2, .fn 25 [.ptr 1000000 0]), (6, .mpd G), (7, .d (D.sl 1 p)), (44, .d (D.sl 5 a1)), (45, .d (D.int .i64 w2)), (46, .d (D.int .i64 h9))], [(1000000, .box [.arr 98000]), (98000, .arr 35 2 h10)]⟩ k = occupancy_visit_s3_p2 n a0 a1 G p w2 h9 h10 (fun z249 => k .normal ⟨81, [(0, .d (D.int .i64 a0)), (1, .d (D.sl 5 a1)), (2, .fn 25 [.ptr 1000000 0]), (6, .mpd G), (7, .d (D.sl 1 p)), (44, .d (D.sl 5 a1)), (45, .d (D.int .i64 w2)), (46, .d (D.int .i64 h9)), (47, .d (D.bool z249))], [(98000, .arr 35 2 h10), (1000000, .box [.arr 98000])]⟩) := by kernel_rfl
theorem occupancy_visit_s3_p3_eq {R : Type} (n : Nat) (a0 : Int) (a1 : List (List D)) (G : Int → List (List D)) (p : List (List D)) (w2 : Int) (h9 : Int) (w250 : Bool) (h10 : List (List D)) (k : Exit → St → Option R) : vexec (occupancy_visit_s3_C n) n occupancy_visit_s3_c3 ⟨81, [(0, .d (D.int .i64 a0)), (1, .d (D.sl 5 a1)), (2, .fn 25 [.ptr 1000000 0]), (6, .mpd G), (7, .d (D.sl 1 p)), (44, .d (D.sl 5 a1)), (45, .d (D.int .i64 w2)), (46, .d (D.int .i64 h9)), (47, .d (D.bool w250))], [(98000, .arr 35 2 h10), (1000000, .box [.arr 98000])]⟩ k = occupancy_visit_s3_p3 n a0 a1 G p w2 h9 w250 h10 (k .normal ⟨81, [(0, .d (D.int .i64 a0)), (1, .d (D.sl 5 a1)), (2, .fn 25 [.ptr 1000000 0]), (6, .mpd G), (7, .d (D.sl 1 p)), (44, .d (D.sl 5 a1)), (45, .d (D.int .i64 w2)), (46, .d (D.int .i64 h9)), (47, .d (D.bool w250))], [(98000, .arr 35 2 h10), (1000000, .box [.arr 98000])]⟩) (k (.exit 2) ⟨81, [(0, .d (D.int .i64 a0)), (1, .d (D.sl 5 a1)), (2, .fn 25 [.ptr 1000000 0]), (6, .mpd G), (7, .d (D.sl 1 p)), (44, .d (D.sl 5 a1)), (45, .d (D.int .i64 w2)), (46, .d (D.int .i64 h9)), (47, .d (D.bool w250))], [(98000, .arr 35 2 h10), (1000000, .box [.arr 98000])]⟩) := by kernel_rfl
theorem occupancy_visit_s3_p4_eq {R : Type} (n : Nat) (a0 : Int) (a1 : List (List D)) (G : Int → List (List D)) (p : List (List D)) (w2 : Int) (h9 : Int) (w250 : Bool) (h10 : List (List D)) (k : Exit → St → Option R) : vexec (occupancy_visit_s3_C n) n occupancy_visit_s3_c4 ⟨81, [(0, .d (D.int .i64 a0)), (1, .d (D.sl 5 a1)), (2, .fn 25 [.ptr 1000000 0]), (6, .mpd G), (7, .d (D.sl 1 p)), (44, .d (D.sl 5 a1)), (45, .d (D.int .i64 w2)), (46, .d (D.int .i64 h9)), (47, .d (D.bool w250))], [(98000, .arr 35 2 h10), (1000000, .box [.arr 98000])]⟩ k = occupancy_visit_s3_p4 n a0 a1 G p w2 h9 w250 h10 (fun c252 c253 c254 c255 c256 => k .normal ⟨81, [(0, .d (D.int .i64 a0)), (1, .d (D.sl 5 a1)), (2, .fn 25 [.ptr 1000000 0]), (6, .mpd G), (7, .d (D.sl 1 p)), (10, .d (D.int .i64 h9)), (11, .ptr 11 0), (44, .d (D.sl 5 a1)), (45, .d (D.int .i64 w2)), (46, .d (D.int .i64 h9))], [(11, .box [.d c252, .d c253, .d c254, .d c255, .d c256]), (98000, .arr 35 2 h10), (1000000, .box [.arr 98000])]⟩) := by kernel_rfl
theorem occupancy_visit_s3_p5_eq {R : Type} (n : Nat) (a0 : Int) (a1 : List (List D)) (G : Int → List (List D)) (p : List (List D)) (h9 : Int) (w2 : Int) (w257 : D) (w258 : D) (w259 : D) (w260 : D) (w261 : D) (h10 : List (List D)) (k : Exit → St → Option R) : vexec (occupancy_visit_s3_C n) n occupancy_visit_s3_c5 ⟨81, [(0, .d (D.int .i64 a0)), (1, .d (D.sl 5 a1)), (2, .fn 25 [.ptr 1000000 0]), (6, .mpd G), (7, .d (D.sl 1 p)), (10, .d (D.int .i64 h9)), (11, .ptr 11 0), (44, .d (D.sl 5 a1)), (45, .d (D.int .i64 w2)), (46, .d (D.int .i64 h9))], [(11, .box [.d w257, .d w258, .d w259, .d w260, .d w261]), (98000, .arr 35 2 h10), (1000000, .box [.arr 98000])]⟩ k = occupancy_visit_s3_p5 n a0 a1 G p h9 w2 w257 w258 w259 w260 w261 h10 (fun z267 z268 => k .normal ⟨81, [(0, .d (D.int .i64 a0)), (1, .d (D.sl 5 a1)), (2, .fn 25 [.ptr 1000000 0]), (6, .mpd G), (7, .d (D.sl 1 p)), (10, .d (D.int .i64 h9)), (11, .ptr 11 0), (44, .d (D.sl 5 a1)), (45, .d (D.int .i64 w2)), (46, .d (D.int .i64 h9)), (59, .d (D.sl 1 z267)), (60, .d (D.int .i64 z268)), (61, .d (D.int .i64 (0 : Int)))], [(11, .box [.d w257, .d w258, .d w259, .d w260, .d w261]), (98000, .arr 35 2 h10), (1000000, .box [.arr 98000])]⟩) := by kernel_rfl
theorem occupancy_visit_s3_p6_eq {R : Type} (n : Nat) (a0 : Int) (a1 : List (List D)) (G : Int → List (List D)) (p : List (List D)) (h9 : Int) (w2 : Int) (w269 : List (List D)) (w270 : Int) (h281 : Int) (w257 : D) (w258 : D) (w259 : D) (w260 : D) (w261 : D) (h287 : List (List D)) (k : Exit → St → Option R) : vexec (occupancy_visit_s3_C n) n occupancy_visit_s3_c6 ⟨81, [(0, .d (D.int .i64 a0)), (1, .d (D.sl 5 a1)), (2, .fn 25 [.ptr 1000000 0]), (6, .mpd G), (7, .d (D.sl 1 p)), (10, .d (D.int .i64 h9)), (11, .ptr 11 0), (44, .d (D.sl 5 a1)), (45, .d (D.int .i64 w2)), (46, .d (D.int .i64 h9)), (59, .d (D.sl 1 w269)), (60, .d (D.int .i64 w270)), (61, .d (D.int .i64 h281))], [(11, .box [.d w257, .d w258, .d w259, .d w260, .d w261]), (98000, .arr 35 2 h287), (1000000, .box [.arr 98000])]⟩ k = occupancy_visit_s3_p6 n a0 a1 G p h9 w2 w269 w270 h281 w257 w258 w259 w260 w261 h287 (fun z336 z337 => k .ret ⟨81, [(0, .d (D.int .i64 a0)), (1, .d (D.sl 5 a1)), (2, .fn 25 [.ptr 1000000 0]), (6, .mpd G), (7, .d (D.sl 1 p)), (10, .d (D.int .i64 h9)), (11, .ptr 11 0), (44, .d (D.sl 5 a1)), (45, .d (D.int .i64 w2)), (46, .d (D.int .i64 h9)), (59, .d (D.sl 1 w269)), (60, .d (D.int .i64 w270)), (61, .d (D.int .i64 h281)), (78, .d (D.bool z336))], [(11, .box [.d w257, .d w258, .d w259, .d w260, .d w261]), (98000, .arr 35 2 z337), (1000000, .box [.arr 98000])]⟩) (fun z338 z339 => k .normal ⟨81, [(0, .d (D.int .i64 a0)), (1, .d (D.sl 5 a1)), (2, .fn 25 [.ptr 1000000 0]), (6, .mpd G), (7, .d (D.sl 1 p)), (10, .d (D.int .i64 h9)), (11, .ptr 11 0), (44, .d (D.sl 5 a1)), (45, .d (D.int .i64 w2)), (46, .d (D.int .i64 h9)), (59, .d (D.sl 1 w269)), (60, .d (D.int .i64 w270)), (61, .d (D.int .i64 z338))], [(11, .box [.d w257, .d w258, .d w259, .d w260, .d w261]), (98000, .arr 35 2 z339), (1000000, .box [.arr 98000])]⟩) (fun z340 => k .ret ⟨81, [(0, .d (D.int .i64 a0)), (1, .d (D.sl 5 a1)), (2, .fn 25 [.ptr 1000000 0]), (6, .mpd G), (7, .d (D.sl 1 p)), (10, .d (D.int .i64 h9)), (11, .ptr 11 0), (44, .d (D.sl 5 a1)), (45, .d (D.int .i64 w2)), (46, .d (D.int .i64 h9)), (59, .d (D.sl 1 w269)), (60, .d (D.int .i64 w270)), (61, .d (D.int .i64 h281)), (78, .d (D.bool z340))], [(11, .box [.d w257, .d w258, .d w259, .d w260, .d w261]), (1000000, .box [.arr 98000]), (98000, .arr 35 2 h287)]⟩) (fun z341 => k (.exit 4) ⟨81, [(0, .d (D.int .i64 a0)), (1, .d (D.sl 5 a1)), (2, .fn 25 [.ptr 1000000 0]), (6, .mpd G), (7, .d (D.sl 1 p)), (10, .d (D.int .i64 h9)), (11, .ptr 11 0), (44, .d (D.sl 5 a1)), (45, .d (D.int .i64 w2)), (46, .d (D.int .i64 h9)), (59, .d (D.sl 1 w269)), (60, .d (D.int .i64 w270)), (61, .d (D.int .i64 h281)), (62, .d (D.bool z341))], [(11, .box [.d w257, .d w258, .d w259, .d w260, .d w261]), (98000, .arr 35 2 h287), (1000000, .box [.arr 98000])]⟩) := by kernel_rfl
theorem occupancy_visit_s3_r7_eq {R : Type} (n : Nat) (a0 : Int) (a1 : List (List D)) (G : Int → List (List D)) (p : List (List D)) (h9 : Int) (w2 : Int) (w269 : List (List D)) (w270 : Int) (w257 : D) (w258 : D) (w259 : D) (w260 : D) (w261 : D) (k : Exit → St → Option R) : ∀ (m : Nat) (h281 : Int) (h287 : List (List D)), loopN (vexec (occupancy_visit_s3_C n) n occupancy_visit_s3_c6) m ⟨81, [(0, .d (D.int .i64 a0)), (1, .d (D.sl 5 a1)), (2, .fn 25 [.ptr 1000000 0]), (6, .mpd G), (7, .d (D.sl 1 p)), (10, .d (D.int .i64 h9)), (11, .ptr 11 0), (44, .d (D.sl 5 a1)), (45, .d (D.int .i64 w2)), (46, .d (D.int .i64 h9)), (59, .d (D.sl 1 w269)), (60, .d (D.int .i64 w270)), (61, .d (D.int .i64 h281))], [(11, .box [.d w257, .d w258, .d w259, .d w260, .d w261]), (98000, .arr 35 2 h287), (1000000, .box [.arr 98000])]⟩ k = occupancy_visit_s3_r7 n a0 a1 G p h9 w2 w269 w270 w257 w258 w259 w260 w261 (fun h281 w342 w343 => k .ret ⟨81, [(0, .d (D.int .i64 a0)), (1, .d (D.sl 5 a1)), (2, .fn 25 [.ptr 1000000 0]), (6, .mpd G), (7, .d (D.sl 1 p)), (10, .d (D.int .i64 h9)), (11, .ptr 11 0), (44, .d (D.sl 5 a1)), (45, .d (D.int .i64 w2)), (46, .d (D.int .i64 h9)), (59, .d (D.sl 1 w269)), (60, .d (D.int .i64 w270)), (61, .d (D.int .i64 h281)), (78, .d (D.bool w342))], [(11, .box [.d w257, .d w258, .d w259, .d w260, .d w261]), (98000, .arr 35 2 w343), (1000000, .box [.arr 98000])]⟩) (fun h281 w346 h287 => k .ret ⟨81, [(0, .d (D.int .i64 a0)), (1, .d (D.sl 5 a1)), (2, .fn 25 [.ptr 1000000 0]), (6, .mpd G), (7, .d (D.sl 1 p)), (10, .d (D.int .i64 h9)), (11, .ptr 11 0), (44, .d (D.sl 5 a1)), (45, .d (D.int .i64 w2)), (46, .d (D.int .i64 h9)), (59, .d (D.sl 1 w269)), (60, .d (D.int .i64 w270)), (61, .d (D.int .i64 h281)), (78, .d (D.bool w346))], [(11, .box [.d w257, .d w258, .d w259, .d w260, .d w261]), (1000000, .box [.arr 98000]), (98000, .arr 35 2 h287)]⟩) (fun h281 w347 h287 => k (.exit 4) ⟨81, [(0, .d (D.int .i64 a0)), (1, .d (D.sl 5 a1)), (2, .fn 25 [.ptr 1000000 0]), (6, .mpd G), (7, .d (D.sl 1 p)), (10, .d (D.int .i64 h9)), (11, .ptr 11 0), (44, .d (D.sl 5 a1)), (45, .d (D.int .i64 w2)), (46, .d (D.int .i64 h9)), (59, .d (D.sl 1 w269)), (60, .d (D.int .i64 w270)), (61, .d (D.int .i64 h281)), (62, .d (D.bool w347))], [(11, .box [.d w257, .d w258, .d w259, .d w260, .d w261]), (98000, .arr 35 2 h287), (1000000, .box [.arr 98000])]⟩) m h281 h287
  | 0, _, _ => rfl
  | m + 1, h281, h287 => (occupancy_visit_s3_p6_eq n a0 a1 G p h9 w2 w269 w270 h281 w257 w258 w259 w260 w261 h287 (loopK (vexec (occupancy_visit_s3_C n) n occupancy_visit_s3_c6) m k)).trans (occupancy_visit_s3_p6_congr n a0 a1 G p h9 w2 w269 w270 h281 w257 w258 w259 w260 w261 h287 (fun w342 w343 => rfl) (fun w344 w345 => occupancy_visit_s3_r7_eq n a0 a1 G p h9 w2 w269 w270 w257 w258 w259 w260 w261 k m w344 w345) (fun w346 => rfl) (fun w347 => rfl))
theorem occupancy_visit_s3_p7_eq {R : Type} (n : Nat) (a0 : Int) (a1 : List (List D)) (G : Int → List (List D)) (p : List (List D)) (h9 : Int) (w2 : Int) (w269 : List (List D)) (w270 : Int) (w257 : D) (w258 : D) (w259 : D) (w260 : D) (w261 : D) (h10 : List (List D)) (k : Exit → St → Option R) : vexec (occupancy_visit_s3_C n) n occupancy_visit_s3_c7 ⟨81, [(0, .d (D.int .i64 a0)), (1, .d (D.sl 5 a1)), (2, .fn 25 [.ptr 1000000 0]), (6, .mpd G), (7, .d (D.sl 1 p)), (10, .d (D.int .i64 h9)), (11, .ptr 11 0), (44, .d (D.sl 5 a1)), (45, .d (D.int .i64 w2)), (46, .d (D.int .i64 h9)), (59, .d (D.sl 1 w269)), (60, .d (D.int .i64 w270)), (61, .d (D.int .i64 (0 : Int)))], [(11, .box [.d w257, .d w258, .d w259, .d w260, .d w261]), (98000, .arr 35 2 h10), (1000000, .box [.arr 98000])]⟩ k = occupancy_visit_s3_p7 n a0 a1 G p h9 w2 w269 w270 w257 w258 w259 w260 w261 h10 (fun h281 w342 w343 => k .ret ⟨81, [(0, .d (D.int .i64 a0)), (1, .d (D.sl 5 a1)), (2, .fn 25 [.ptr 1000000 0]), (6, .mpd G), (7, .d (D.sl 1 p)), (10, .d (D.int .i64 h9)), (11, .ptr 11 0), (44, .d (D.sl 5 a1)), (45, .d (D.int .i64 w2)), (46, .d (D.int .i64 h9)), (59, .d (D.sl 1 w269)), (60, .d (D.int .i64 w270)), (61, .d (D.int .i64 h281)), (78, .d (D.bool w342))], [(11, .box [.d w257, .d w258, .d w259, .d w260, .d w261]), (98000, .arr 35 2 w343), (1000000, .box [.arr 98000])]⟩) (fun h281 w346 h287 => k .ret ⟨81, [(0, .d (D.int .i64 a0)), (1, .d (D.sl 5 a1)), (2, .fn 25 [.ptr 1000000 0]), (6, .mpd G), (7, .d (D.sl 1 p)), (10, .d (D.int .i64 h9)), (11, .ptr 11 0), (44, .d (D.sl 5 a1)), (45, .d (D.int .i64 w2)), (46, .d (D.int .i64 h9)), (59, .d (D.sl 1 w269)), (60, .d (D.int .i64 w270)), (61, .d (D.int .i64 h281)), (78, .d (D.bool w346))], [(11, .box [.d w257, .d w258, .d w259, .d w260, .d w261]), (1000000, .box [.arr 98000]), (98000, .arr 35 2 h287)]⟩) (fun h281 w347 h287 => k (.exit 4) ⟨81, [(0, .d (D.int .i64 a0)), (1, .d (D.sl 5 a1)), (2, .fn 25 [.ptr 1000000 0]), (6, .mpd G), (7, .d (D.sl 1 p)), (10, .d (D.int .i64 h9)), (11, .ptr 11 0), (44, .d (D.sl 5 a1)), (45, .d (D.int .i64 w2)), (46, .d (D.int .i64 h9)), (59, .d (D.sl 1 w269)), (60, .d (D.int .i64 w270)), (61, .d (D.int .i64 h281)), (62, .d (D.bool w347))], [(11, .box [.d w257, .d w258, .d w259, .d w260, .d w261]), (98000, .arr 35 2 h287), (1000000, .box [.arr 98000])]⟩) := by
  rw [occupancy_visit_s3_c7_eq]
  exact occupancy_visit_s3_r7_eq n a0 a1 G p h9 w2 w269 w270 w257 w258 w259 w260 w261 k n (0 : Int) h10
theorem occupancy_visit_s3_p8_eq {R : Type} (n : Nat) (a0 : Int) (a1 : List (List D)) (G : Int → List (List D)) (p : List (List D)) (h9 : Int) (w2 : Int) (w269 : List (List D)) (w270 : Int) (w257 : D) (w258 : D) (w259 : D) (w260 : D) (w261 : D) (h10 : List (List D)) (k : Exit → St → Option R) : vexec (occupancy_visit_s3_C n) n occupancy_visit_s3_c8 ⟨81, [(0, .d (D.int .i64 a0)), (1, .d (D.sl 5 a1)), (2, .fn 25 [.ptr 1000000 0]), (6, .mpd G), (7, .d (D.sl 1 p)), (10, .d (D.int .i64 h9)), (11, .ptr 11 0), (44, .d (D.sl 5 a1)), (45, .d (D.int .i64 w2)), (46, .d (D.int .i64 h9)), (59, .d (D.sl 1 w269)), (60, .d (D.int .i64 w270)), (61, .d (D.int .i64 (0 : Int)))], [(11, .box [.d w257, .d w258, .d w259, .d w260, .d w261]), (98000, .arr 35 2 h10), (1000000, .box [.arr 98000])]⟩ k = occupancy_visit_s3_p8 n a0 a1 G p h9 w2 w269 w270 w257 w258 w259 w260 w261 h10 (fun w348 w349 w350 => k .ret ⟨81, [(0, .d (D.int .i64 a0)), (1, .d (D.sl 5 a1)), (2, .fn 25 [.ptr 1000000 0]), (6, .mpd G), (7, .d (D.sl 1 p)), (10, .d (D.int .i64 h9)), (11, .ptr 11 0), (44, .d (D.sl 5 a1)), (45, .d (D.int .i64 w2)), (46, .d (D.int .i64 h9)), (59, .d (D.sl 1 w269)), (60, .d (D.int .i64 w270)), (61, .d (D.int .i64 w348)), (78, .d (D.bool w349))], [(11, .box [.d w257, .d w258, .d w259, .d w260, .d w261]), (98000, .arr 35 2 w350), (1000000, .box [.arr 98000])]⟩) (fun w351 w352 w353 => k .ret ⟨81, [(0, .d (D.int .i64 a0)), (1, .d (D.sl 5 a1)), (2, .fn 25 [.ptr 1000000 0]), (6, .mpd G), (7, .d (D.sl 1 p)), (10, .d (D.int .i64 h9)), (11, .ptr 11 0), (44, .d (D.sl 5 a1)), (45, .d (D.int .i64 w2)), (46, .d (D.int .i64 h9)), (59, .d (D.sl 1 w269)), (60, .d (D.int .i64 w270)), (61, .d (D.int .i64 w351)), (78, .d (D.bool w352))], [(11, .box [.d w257, .d w258, .d w259, .d w260, .d w261]), (1000000, .box [.arr 98000]), (98000, .arr 35 2 w353)]⟩) (fun w354 w355 w356 => k .normal ⟨81, [(0, .d (D.int .i64 a0)), (1, .d (D.sl 5 a1)), (2, .fn 25 [.ptr 1000000 0]), (6, .mpd G), (7, .d (D.sl 1 p)), (10, .d (D.int .i64 h9)), (11, .ptr 11 0), (44, .d (D.sl 5 a1)), (45, .d (D.int .i64 w2)), (46, .d (D.int .i64 h9)), (59, .d (D.sl 1 w269)), (60, .d (D.int .i64 w270)), (61, .d (D.int .i64 w354)), (62, .d (D.bool w355))], [(11, .box [.d w257, .d w258, .d w259, .d w260, .d w261]), (98000, .arr 35 2 w356), (1000000, .box [.arr 98000])]⟩) := by
  rw [occupancy_visit_s3_c8_eq]
  unfold occupancy_visit_s3_p8
  exact (occupancy_visit_s3_p7_eq n a0 a1 G p h9 w2 w269 w270 w257 w258 w259 w260 w261 h10 (blockK 4 k)).trans (occupancy_visit_s3_p7_congr n a0 a1 G p h9 w2 w269 w270 w257 w258 w259 w260 w261 h10 (fun w348 w349 w350 => rfl) (fun w351 w352 w353 => rfl) (fun w354 w355 w356 => rfl))
theorem occupancy_visit_s3_p9_eq {R : Type} (n : Nat) (a0 : Int) (a1 : List (List D)) (G : Int → List (List D)) (p : List (List D)) (h9 : Int) (w2 : Int) (w257 : D) (w258 : D) (w259 : D) (w260 : D) (w261 : D) (h10 : List (List D)) (k : Exit → St → Option R) : vexec (occupancy_visit_s3_C n) n occupancy_visit_s3_c9 ⟨81, [(0, .d (D.int .i64 a0)), (1, .d (D.sl 5 a1)), (2, .fn 25 [.ptr 1000000 0]), (6, .mpd G), (7, .d (D.sl 1 p)), (10, .d (D.int .i64 h9)), (11, .ptr 11 0), (44, .d (D.sl 5 a1)), (45, .d (D.int .i64 w2)), (46, .d (D.int .i64 h9))], [(11, .box [.d w257, .d w258, .d w259, .d w260, .d w261]), (98000, .arr 35 2 h10), (1000000, .box [.arr 98000])]⟩ k = occupancy_visit_s3_p9 n a0 a1 G p h9 w2 w257 w258 w259 w260 w261 h10 (fun w269 w270 w357 w358 w359 => k .ret ⟨81, [(0, .d (D.int .i64 a0)), (1, .d (D.sl 5 a1)), (2, .fn 25 [.ptr 1000000 0]), (6, .mpd G), (7, .d (D.sl 1 p)), (10, .d (D.int .i64 h9)), (11, .ptr 11 0), (44, .d (D.sl 5 a1)), (45, .d (D.int .i64 w2)), (46, .d (D.int .i64 h9)), (59, .d (D.sl 1 w269)), (60, .d (D.int .i64 w270)), (61, .d (D.int .i64 w357)), (78, .d (D.bool w358))], [(11, .box [.d w257, .d w258, .d w259, .d w260, .d w261]), (98000, .arr 35 2 w359), (1000000, .box [.arr 98000])]⟩) (fun w269 w270 w360 w361 w362 => k .ret ⟨81, [(0, .d (D.int .i64 a0)), (1, .d (D.sl 5 a1)), (2, .fn 25 [.ptr 1000000 0]), (6, .mpd G), (7, .d (D.sl 1 p)), (10, .d (D.int .i64 h9)), (11, .ptr 11 0), (44, .d (D.sl 5 a1)), (45, .d (D.int .i64 w2)), (46, .d (D.int .i64 h9)), (59, .d (D.sl 1 w269)), (60, .d (D.int .i64 w270)), (61, .d (D.int .i64 w360)), (78, .d (D.bool w361))], [(11, .box [.d w257, .d w258, .d w259, .d w260, .d w261]), (1000000, .box [.arr 98000]), (98000, .arr 35 2 w362)]⟩) (fun w269 w270 w363 w364 w365 => k .normal ⟨81, [(0, .d (D.int .i64 a0)), (1, .d (D.sl 5 a1)), (2, .fn 25 [.ptr 1000000 0]), (6, .mpd G), (7, .d (D.sl 1 p)), (10, .d (D.int .i64 h9)), (11, .ptr 11 0), (44, .d (D.sl 5 a1)), (45, .d (D.int .i64 w2)), (46, .d (D.int .i64 h9)), (59, .d (D.sl 1 w269)), (60, .d (D.int .i64 w270)), (61, .d (D.int .i64 w363)), (62, .d (D.bool w364))], [(11, .box [.d w257, .d w258, .d w259, .d w260, .d w261]), (98000, .arr 35 2 w365), (1000000, .box [.arr 98000])]⟩) := by
  rw [occupancy_visit_s3_c9_eq]
  unfold occupancy_visit_s3_p9
  exact (occupancy_visit_s3_p5_eq n a0 a1 G p h9 w2 w257 w258 w259 w260 w261 h10 (seqK (occupancy_visit_s3_C n) n occupancy_visit_s3_c8 k)).trans (occupancy_visit_s3_p5_congr n a0 a1 G p h9 w2 w257 w258 w259 w260 w261 h10 (fun w269 w270 => occupancy_visit_s3_p8_eq n a0 a1 G p h9 w2 w269 w270 w257 w258 w259 w260 w261 h10 k))
theorem occupancy_visit_s3_p10_eq {R : Type} (n : Nat) (a0 : Int) (a1 : List (List D)) (G : Int → List (List D)) (p : List (List D)) (w2 : Int) (h9 : Int) (w250 : Bool) (h10 : List (List D)) (k : Exit → St → Option R) : vexec (occupancy_visit_s3_C n) n occupancy_visit_s3_c10 ⟨81, [(0, .d (D.int .i64 a0)), (1, .d (D.sl 5 a1)), (2, .fn 25 [.ptr 1000000 0]), (6, .mpd G), (7, .d (D.sl 1 p)), (44, .d (D.sl 5 a1)), (45, .d (D.int .i64 w2)), (46, .d (D.int .i64 h9)), (47, .d (D.bool w250))], [(98000, .arr 35 2 h10), (1000000, .box [.arr 98000])]⟩ k = occupancy_visit_s3_p10 n a0 a1 G p w2 h9 w250 h10 (fun w366 w367 w368 w369 w257 w258 w259 w260 w261 w370 => k .ret ⟨81, [(0, .d (D.int .i64 a0)), (1, .d (D.sl 5 a1)), (2, .fn 25 [.ptr 1000000 0]), (6, .mpd G), (7, .d (D.sl 1 p)), (10, .d (D.int .i64 h9)), (11, .ptr 11 0), (44, .d (D.sl 5 a1)), (45, .d (D.int .i64 w2)), (46, .d (D.int .i64 h9)), (59, .d (D.sl 1 w366)), (60, .d (D.int .i64 w367)), (61, .d (D.int .i64 w368)), (78, .d (D.bool w369))], [(11, .box [.d w257, .d w258, .d w259, .d w260, .d w261]), (98000, .arr 35 2 w370), (1000000, .box [.arr 98000])]⟩) (fun w371 w372 w373 w374 w257 w258 w259 w260 w261 w375 => k .ret ⟨81, [(0, .d (D.int .i64 a0)), (1, .d (D.sl 5 a1)), (2, .fn 25 [.ptr 1000000 0]), (6, .mpd G), (7, .d (D.sl 1 p)), (10, .d (D.int .i64 h9)), (11, .ptr 11 0), (44, .d (D.sl 5 a1)), (45, .d (D.int .i64 w2)), (46, .d (D.int .i64 h9)), (59, .d (D.sl 1 w371)), (60, .d (D.int .i64 w372)), (61, .d (D.int .i64 w373)), (78, .d (D.bool w374))], [(11, .box [.d w257, .d w258, .d w259, .d w260, .d w261]), (1000000, .box [.arr 98000]), (98000, .arr 35 2 w375)]⟩) (fun w376 w377 w378 w379 w257 w258 w259 w260 w261 w380 => k .normal ⟨81, [(0, .d (D.int .i64 a0)), (1, .d (D.sl 5 a1)), (2, .fn 25 [.ptr 1000000 0]), (6, .mpd G), (7, .d (D.sl 1 p)), (10, .d (D.int .i64 h9)), (11, .ptr 11 0), (44, .d (D.sl 5 a1)), (45, .d (D.int .i64 w2)), (46, .d (D.int .i64 h9)), (59, .d (D.sl 1 w376)), (60, .d (D.int .i64 w377)), (61, .d (D.int .i64 w378)), (62, .d (D.bool w379))], [(11, .box [.d w257, .d w258, .d w259, .d w260, .d w261]), (98000, .arr 35 2 w380), (1000000, .box [.arr 98000])]⟩) := by
  rw [occupancy_visit_s3_c10_eq]
  unfold occupancy_visit_s3_p10
  exact (occupancy_visit_s3_p4_eq n a0 a1 G p w2 h9 w250 h10 (seqK (occupancy_visit_s3_C n) n occupancy_visit_s3_c9 k)).trans (occupancy_visit_s3_p4_congr n a0 a1 G p w2 h9 w250 h10 (fun w257 w258 w259 w260 w261 => occupancy_visit_s3_p9_eq n a0 a1 G p h9 w2 w257 w258 w259 w260 w261 h10 k))
theorem occupancy_visit_s3_p11_eq {R : Type} (n : Nat) (a0 : Int) (a1 : List (List D)) (G : Int → List (List D)) (p : List (List D)) (w2 : Int) (h9 : Int) (w250 : Bool) (h10 : List (List D)) (k : Exit → St → Option R) : vexec (occupancy_visit_s3_C n) n occupancy_visit_s3_c11 ⟨81, [(0, .d (D.int .i64 a0)), (1, .d (D.sl 5 a1)), (2, .fn 25 [.ptr 1000000 0]), (6, .mpd G), (7, .d (D.sl 1 p)), (44, .d (D.sl 5 a1)), (45, .d (D.int .i64 w2)), (46, .d (D.int .i64 h9)), (47, .d (D.bool w250))], [(98000, .arr 35 2 h10), (1000000, .box [.arr 98000])]⟩ k = occupancy_visit_s3_p11 n a0 a1 G p w2 h9 w250 h10 (fun w381 w382 w383 w384 w385 w386 w387 w388 w389 w390 => k .ret ⟨81, [(0, .d (D.int .i64 a0)), (1, .d (D.sl 5 a1)), (2, .fn 25 [.ptr 1000000 0]), (6, .mpd G), (7, .d (D.sl 1 p)), (10, .d (D.int .i64 h9)), (11, .ptr 11 0), (44, .d (D.sl 5 a1)), (45, .d (D.int .i64 w2)), (46, .d (D.int .i64 h9)), (59, .d (D.sl 1 w381)), (60, .d (D.int .i64 w382)), (61, .d (D.int .i64 w383)), (78, .d (D.bool w384))], [(11, .box [.d w385, .d w386, .d w387, .d w388, .d w389]), (98000, .arr 35 2 w390), (1000000, .box [.arr 98000])]⟩) (fun w391 w392 w393 w394 w395 w396 w397 w398 w399 w400 => k .ret ⟨81, [(0, .d (D.int .i64 a0)), (1, .d (D.sl 5 a1)), (2, .fn 25 [.ptr 1000000 0]), (6, .mpd G), (7, .d (D.sl 1 p)), (10, .d (D.int .i64 h9)), (11, .ptr 11 0), (44, .d (D.sl 5 a1)), (45, .d (D.int .i64 w2)), (46, .d (D.int .i64 h9)), (59, .d (D.sl 1 w391)), (60, .d (D.int .i64 w392)), (61, .d (D.int .i64 w393)), (78, .d (D.bool w394))], [(11, .box [.d w395, .d w396, .d w397, .d w398, .d w399]), (1000000, .box [.arr 98000]), (98000, .arr 35 2 w400)]⟩) (fun w401 w402 w403 w404 w405 w406 w407 w408 w409 w410 => k .normal ⟨81, [(0, .d (D.int .i64 a0)), (1, .d (D.sl 5 a1)), (2, .fn 25 [.ptr 1000000 0]), (6, .mpd G), (7, .d (D.sl 1 p)), (10, .d (D.int .i64 h9)), (11, .ptr 11 0), (44, .d (D.sl 5 a1)), (45, .d (D.int .i64 w2)), (46, .d (D.int .i64 h9)), (59, .d (D.sl 1 w401)), (60, .d (D.int .i64 w402)), (61, .d (D.int .i64 w403)), (62, .d (D.bool w404))], [(11, .box [.d w405, .d w406, .d w407, .d w408, .d w409]), (98000, .arr 35 2 w410), (1000000, .box [.arr 98000])]⟩) := by
  rw [occupancy_visit_s3_c11_eq]
  unfold occupancy_visit_s3_p11
  exact (occupancy_visit_s3_p10_eq n a0 a1 G p w2 h9 w250 h10 (blockK 3 k)).trans (occupancy_visit_s3_p10_congr n a0 a1 G p w2 h9 w250 h10 (fun w381 w382 w383 w384 w385 w386 w387 w388 w389 w390 => rfl) (fun w391 w392 w393 w394 w395 w396 w397 w398 w399 w400 => rfl) (fun w401 w402 w403 w404 w405 w406 w407 w408 w409 w410 => rfl))
theorem occupancy_visit_s3_p12_eq {R : Type} (n : Nat) (a0 : Int) (a1 : List (List D)) (G : Int → List (List D)) (p : List (List D)) (h9 : Int) (w2 : Int) (w431 : List (List D)) (w432 : Int) (w433 : Int) (w434 : Bool) (w435 : D) (w436 : D) (w437 : D) (w438 : D) (w439 : D) (w440 : List (List D)) (k : Exit → St → Option R) : vexec (occupancy_visit_s3_C n) n occupancy_visit_s3_c12 ⟨81, [(0, .d (D.int .i64 a0)), (1, .d (D.sl 5 a1)), (2, .fn 25 [.ptr 1000000 0]), (6, .mpd G), (7, .d (D.sl 1 p)), (10, .d (D.int .i64 h9)), (11, .ptr 11 0), (44, .d (D.sl 5 a1)), (45, .d (D.int .i64 w2)), (46, .d (D.int .i64 h9)), (59, .d (D.sl 1 w431)), (60, .d (D.int .i64 w432)), (61, .d (D.int .i64 w433)), (62, .d (D.bool w434))], [(11, .box [.d w435, .d w436, .d w437, .d w438, .d w439]), (98000, .arr 35 2 w440), (1000000, .box [.arr 98000])]⟩ k = occupancy_visit_s3_p12 n a0 a1 G p h9 w2 w431 w432 w433 w434 w435 w436 w437 w438 w439 w440 (fun z441 => k .normal ⟨81, [(0, .d (D.int .i64 a0)), (1, .d (D.sl 5 a1)), (2, .fn 25 [.ptr 1000000 0]), (6, .mpd G), (7, .d (D.sl 1 p)), (44, .d (D.sl 5 a1)), (45, .d (D.int .i64 w2)), (46, .d (D.int .i64 z441))], [(1000000, .box [.arr 98000]), (98000, .arr 35 2 w440)]⟩) := by kernel_rfl
theorem occupancy_visit_s3_p13_eq {R : Type} (n : Nat) (a0 : Int) (a1 : List (List D)) (G : Int → List (List D)) (p : List (List D)) (w2 : Int) (h9 : Int) (w250 : Bool) (h10 : List (List D)) (k : Exit → St → Option R) : vexec (occupancy_visit_s3_C n) n occupancy_visit_s3_c13 ⟨81, [(0, .d (D.int .i64 a0)), (1, .d (D.sl 5 a1)), (2, .fn 25 [.ptr 1000000 0]), (6, .mpd G), (7, .d (D.sl 1 p)), (44, .d (D.sl 5 a1)), (45, .d (D.int .i64 w2)), (46, .d (D.int .i64 h9)), (47, .d (D.bool w250))], [(98000, .arr 35 2 h10), (1000000, .box [.arr 98000])]⟩ k = occupancy_visit_s3_p13 n a0 a1 G p w2 h9 w250 h10 (fun w411 w412 w413 w414 w415 w416 w417 w418 w419 w420 => k .ret ⟨81, [(0, .d (D.int .i64 a0)), (1, .d (D.sl 5 a1)), (2, .fn 25 [.ptr 1000000 0]), (6, .mpd G), (7, .d (D.sl 1 p)), (10, .d (D.int .i64 h9)), (11, .ptr 11 0), (44, .d (D.sl 5 a1)), (45, .d (D.int .i64 w2)), (46, .d (D.int .i64 h9)), (59, .d (D.sl 1 w411)), (60, .d (D.int .i64 w412)), (61, .d (D.int .i64 w413)), (78, .d (D.bool w414))], [(11, .box [.d w415, .d w416, .d w417, .d w418, .d w419]), (98000, .arr 35 2 w420), (1000000, .box [.arr 98000])]⟩) (fun w421 w422 w423 w424 w425 w426 w427 w428 w429 w430 => k .ret ⟨81, [(0, .d (D.int .i64 a0)), (1, .d (D.sl 5 a1)), (2, .fn 25 [.ptr 1000000 0]), (6, .mpd G), (7, .d (D.sl 1 p)), (10, .d (D.int .i64 h9)), (11, .ptr 11 0), (44, .d (D.sl 5 a1)), (45, .d (D.int .i64 w2)), (46, .d (D.int .i64 h9)), (59, .d (D.sl 1 w421)), (60, .d (D.int .i64 w422)), (61, .d (D.int .i64 w423)), (78, .d (D.bool w424))], [(11, .box [.d w425, .d w426, .d w427, .d w428, .d w429]), (1000000, .box [.arr 98000]), (98000, .arr 35 2 w430)]⟩) (fun w442 w440 => k .normal ⟨81, [(0, .d (D.int .i64 a0)), (1, .d (D.sl 5 a1)), (2, .fn 25 [.ptr 1000000 0]), (6, .mpd G), (7, .d (D.sl 1 p)), (44, .d (D.sl 5 a1)), (45, .d (D.int .i64 w2)), (46, .d (D.int .i64 w442))], [(1000000, .box [.arr 98000]), (98000, .arr 35 2 w440)]⟩) := by
  rw [occupancy_visit_s3_c13_eq]
  unfold occupancy_visit_s3_p13
  exact (occupancy_visit_s3_p11_eq n a0 a1 G p w2 h9 w250 h10 (seqK (occupancy_visit_s3_C n) n occupancy_visit_s3_c12 k)).trans (occupancy_visit_s3_p11_congr n a0 a1 G p w2 h9 w250 h10 (fun w411 w412 w413 w414 w415 w416 w417 w418 w419 w420 => rfl) (fun w421 w422 w423 w424 w425 w426 w427 w428 w429 w430 => rfl) (fun w431 w432 w433 w434 w435 w436 w437 w438 w439 w440 => occupancy_visit_s3_p12_eq n a0 a1 G p h9 w2 w431 w432 w433 w434 w435 w436 w437 w438 w439 w440 k))
theorem occupancy_visit_s3_p14_eq {R : Type} (n : Nat) (a0 : Int) (a1 : List (List D)) (G : Int → List (List D)) (p : List (List D)) (w2 : Int) (h9 : Int) (w250 : Bool) (h10 : List (List D)) (k : Exit → St → Option R) : vexec (occupancy_visit_s3_C n) n occupancy_visit_s3_c14 ⟨81, [(0, .d (D.int .i64 a0)), (1, .d (D.sl 5 a1)), (2, .fn 25 [.ptr 1000000 0]), (6, .mpd G), (7, .d (D.sl 1 p)), (44, .d (D.sl 5 a1)), (45, .d (D.int .i64 w2)), (46, .d (D.int .i64 h9)), (47, .d (D.bool w250))], [(98000, .arr 35 2 h10), (1000000, .box [.arr 98000])]⟩ k = occupancy_visit_s3_p14 n a0 a1 G p w2 h9 w250 h10 (fun w443 w444 w445 w446 w447 w448 w449 w450 w451 w452 => k .ret ⟨81, [(0, .d (D.int .i64 a0)), (1, .d (D.sl 5 a1)), (2, .fn 25 [.ptr 1000000 0]), (6, .mpd G), (7, .d (D.sl 1 p)), (10, .d (D.int .i64 h9)), (11, .ptr 11 0), (44, .d (D.sl 5 a1)), (45, .d (D.int .i64 w2)), (46, .d (D.int .i64 h9)), (59, .d (D.sl 1 w443)), (60, .d (D.int .i64 w444)), (61, .d (D.int .i64 w445)), (78, .d (D.bool w446))], [(11, .box [.d w447, .d w448, .d w449, .d w450, .d w451]), (98000, .arr 35 2 w452), (1000000, .box [.arr 98000])]⟩) (fun w453 w454 w455 w456 w457 w458 w459 w460 w461 w462 => k .ret ⟨81, [(0, .d (D.int .i64 a0)), (1, .d (D.sl 5 a1)), (2, .fn 25 [.ptr 1000000 0]), (6, .mpd G), (7, .d (D.sl 1 p)), (10, .d (D.int .i64 h9)), (11, .ptr 11 0), (44, .d (D.sl 5 a1)), (45, .d (D.int .i64 w2)), (46, .d (D.int .i64 h9)), (59, .d (D.sl 1 w453)), (60, .d (D.int .i64 w454)), (61, .d (D.int .i64 w455)), (78, .d (D.bool w456))], [(11, .box [.d w457, .d w458, .d w459, .d w460, .d w461]), (1000000, .box [.arr 98000]), (98000, .arr 35 2 w462)]⟩) (fun w463 w464 => k .normal ⟨81, [(0, .d (D.int .i64 a0)), (1, .d (D.sl 5 a1)), (2, .fn 25 [.ptr 1000000 0]), (6, .mpd G), (7, .d (D.sl 1 p)), (44, .d (D.sl 5 a1)), (45, .d (D.int .i64 w2)), (46, .d (D.int .i64 w463))], [(1000000, .box [.arr 98000]), (98000, .arr 35 2 w464)]⟩) (k (.exit 2) ⟨81, [(0, .d (D.int .i64 a0)), (1, .d (D.sl 5 a1)), (2, .fn 25 [.ptr 1000000 0]), (6, .mpd G), (7, .d (D.sl 1 p)), (44, .d (D.sl 5 a1)), (45, .d (D.int .i64 w2)), (46, .d (D.int .i64 h9)), (47, .d (D.bool w250))], [(98000, .arr 35 2 h10), (1000000, .box [.arr 98000])]⟩) := by
  rw [occupancy_visit_s3_c14_eq]
  unfold occupancy_visit_s3_p14
  exact (occupancy_visit_s3_p3_eq n a0 a1 G p w2 h9 w250 h10 (seqK (occupancy_visit_s3_C n) n occupancy_visit_s3_c13 k)).trans (occupancy_visit_s3_p3_congr n a0 a1 G p w2 h9 w250 h10 (occupancy_visit_s3_p13_eq n a0 a1 G p w2 h9 w250 h10 k) (rfl))
theorem occupancy_visit_s3_p15_eq {R : Type} (n : Nat) (a0 : Int) (a1 : List (List D)) (G : Int → List (List D)) (p : List (List D)) (w2 : Int) (h9 : Int) (h10 : List (List D)) (k : Exit → St → Option R) : vexec (occupancy_visit_s3_C n) n occupancy_visit_s3_c15 ⟨81, [(0, .d (D.int .i64 a0)), (1, .d (D.sl 5 a1)), (2, .fn 25 [.ptr 1000000 0]), (6, .mpd G), (7, .d (D.sl 1 p)), (44, .d (D.sl 5 a1)), (45, .d (D.int .i64 w2)), (46, .d (D.int .i64 h9))], [(1000000, .box [.arr 98000]), (98000, .arr 35 2 h10)]⟩ k = occupancy_visit_s3_p15 n a0 a1 G p w2 h9 h10 (fun w465 w466 w467 w468 w469 w470 w471 w472 w473 w474 => k .ret ⟨81, [(0, .d (D.int .i64 a0)), (1, .d (D.sl 5 a1)), (2, .fn 25 [.ptr 1000000 0]), (6, .mpd G), (7, .d (D.sl 1 p)), (10, .d (D.int .i64 h9)), (11, .ptr 11 0), (44, .d (D.sl 5 a1)), (45, .d (D.int .i64 w2)), (46, .d (D.int .i64 h9)), (59, .d (D.sl 1 w465)), (60, .d (D.int .i64 w466)), (61, .d (D.int .i64 w467)), (78, .d (D.bool w468))], [(11, .box [.d w469, .d w470, .d w471, .d w472, .d w473]), (98000, .arr 35 2 w474), (1000000, .box [.arr 98000])]⟩) (fun w475 w476 w477 w478 w479 w480 w481 w482 w483 w484 => k .ret ⟨81, [(0, .d (D.int .i64 a0)), (1, .d (D.sl 5 a1)), (2, .fn 25 [.ptr 1000000 0]), (6, .mpd G), (7, .d (D.sl 1 p)), (10, .d (D.int .i64 h9)), (11, .ptr 11 0), (44, .d (D.sl 5 a1)), (45, .d (D.int .i64 w2)), (46, .d (D.int .i64 h9)), (59, .d (D.sl 1 w475)), (60, .d (D.int .i64 w476)), (61, .d (D.int .i64 w477)), (78, .d (D.bool w478))], [(11, .box [.d w479, .d w480, .d w481, .d w482, .d w483]), (1000000, .box [.arr 98000]), (98000, .arr 35 2 w484)]⟩) (fun w485 w486 => k .normal ⟨81, [(0, .d (D.int .i64 a0)), (1, .d (D.sl 5 a1)), (2, .fn 25 [.ptr 1000000 0]), (6, .mpd G), (7, .d (D.sl 1 p)), (44, .d (D.sl 5 a1)), (45, .d (D.int .i64 w2)), (46, .d (D.int .i64 w485))], [(1000000, .box [.arr 98000]), (98000, .arr 35 2 w486)]⟩) (fun w250 => k (.exit 2) ⟨81, [(0, .d (D.int .i64 a0)), (1, .d (D.sl 5 a1)), (2, .fn 25 [.ptr 1000000 0]), (6, .mpd G), (7, .d (D.sl 1 p)), (44, .d (D.sl 5 a1)), (45, .d (D.int .i64 w2)), (46, .d (D.int .i64 h9)), (47, .d (D.bool w250))], [(98000, .arr 35 2 h10), (1000000, .box [.arr 98000])]⟩) := by
  rw [occupancy_visit_s3_c15_eq]
  unfold occupancy_visit_s3_p15
  exact (occupancy_visit_s3_p2_eq n a0 a1 G p w2 h9 h10 (seqK (occupancy_visit_s3_C n) n occupancy_visit_s3_c14 k)).trans (occupancy_visit_s3_p2_congr n a0 a1 G p w2 h9 h10 (fun w250 => occupancy_visit_s3_p14_eq n a0 a1 G p w2 h9 w250 h10 k))
theorem occupancy_visit_s3_r16_eq {R : Type} (n : Nat) (a0 : Int) (a1 : List (List D)) (G : Int → List (List D)) (p : List (List D)) (w2 : Int) (k : Exit → St → Option R) : ∀ (m : Nat) (h9 : Int) (h10 : List (List D)), loopN (vexec (occupancy_visit_s3_C n) n occupancy_visit_s3_c15) m ⟨81, [(0, .d (D.int .i64 a0)), (1, .d (D.sl 5 a1)), (2, .fn 25 [.ptr 1000000 0]), (6, .mpd G), (7, .d (D.sl 1 p)), (44, .d (D.sl 5 a1)), (45, .d (D.int .i64 w2)), (46, .d (D.int .i64 h9))], [(1000000, .box [.arr 98000]), (98000, .arr 35 2 h10)]⟩ k = occupancy_visit_s3_r16 n a0 a1 G p w2 (fun h9 w487 w488 w489 w490 w491 w492 w493 w494 w495 w496 => k .ret ⟨81, [(0, .d (D.int .i64 a0)), (1, .d (D.sl 5 a1)), (2, .fn 25 [.ptr 1000000 0]), (6, .mpd G), (7, .d (D.sl 1 p)), (10, .d (D.int .i64 h9)), (11, .ptr 11 0), (44, .d (D.sl 5 a1)), (45, .d (D.int .i64 w2)), (46, .d (D.int .i64 h9)), (59, .d (D.sl 1 w487)), (60, .d (D.int .i64 w488)), (61, .d (D.int .i64 w489)), (78, .d (D.bool w490))], [(11, .box [.d w491, .d w492, .d w493, .d w494, .d w495]), (98000, .arr 35 2 w496), (1000000, .box [.arr 98000])]⟩) (fun h9 w497 w498 w499 w500 w501 w502 w503 w504 w505 w506 => k .ret ⟨81, [(0, .d (D.int .i64 a0)), (1, .d (D.sl 5 a1)), (2, .fn 25 [.ptr 1000000 0]), (6, .mpd G), (7, .d (D.sl 1 p)), (10, .d (D.int .i64 h9)), (11, .ptr 11 0), (44, .d (D.sl 5 a1)), (45, .d (D.int .i64 w2)), (46, .d (D.int .i64 h9)), (59, .d (D.sl 1 w497)), (60, .d (D.int .i64 w498)), (61, .d (D.int .i64 w499)), (78, .d (D.bool w500))], [(11, .box [.d w501, .d w502, .d w503, .d w504, .d w505]), (1000000, .box [.arr 98000]), (98000, .arr 35 2 w506)]⟩) (fun h9 w509 h10 => k (.exit 2) ⟨81, [(0, .d (D.int .i64 a0)), (1, .d (D.sl 5 a1)), (2, .fn 25 [.ptr 1000000 0]), (6, .mpd G), (7, .d (D.sl 1 p)), (44, .d (D.sl 5 a1)), (45, .d (D.int .i64 w2)), (46, .d (D.int .i64 h9)), (47, .d (D.bool w509))], [(98000, .arr 35 2 h10), (1000000, .box [.arr 98000])]⟩) m h9 h10
  | 0, _, _ => rfl
  | m + 1, h9, h10 => (occupancy_visit_s3_p15_eq n a0 a1 G p w2 h9 h10 (loopK (vexec (occupancy_visit_s3_C n) n occupancy_visit_s3_c15) m k)).trans (occupancy_visit_s3_p15_congr n a0 a1 G p w2 h9 h10 (fun w487 w488 w489 w490 w491 w492 w493 w494 w495 w496 => rfl) (fun w497 w498 w499 w500 w501 w502 w503 w504 w505 w506 => rfl) (fun w507 w508 => occupancy_visit_s3_r16_eq n a0 a1 G p w2 k m w507 w508) (fun w509 => rfl))
theorem occupancy_visit_s3_p16_eq {R : Type} (n : Nat) (a0 : Int) (a1 : List (List D)) (G : Int → List (List D)) (p : List (List D)) (w2 : Int) (q1 : List (List D)) (k : Exit → St → Option R) : vexec (occupancy_visit_s3_C n) n occupancy_visit_s3_c16 ⟨81, [(0, .d (D.int .i64 a0)), (1, .d (D.sl 5 a1)), (2, .fn 25 [.ptr 1000000 0]), (6, .mpd G), (7, .d (D.sl 1 p)), (44, .d (D.sl 5 a1)), (45, .d (D.int .i64 w2)), (46, .d (D.int .i64 (0 : Int)))], [(1000000, .box [.arr 98000]), (98000, .arr 35 2 q1)]⟩ k = occupancy_visit_s3_p16 n a0 a1 G p w2 q1 (fun h9 w487 w488 w489 w490 w491 w492 w493 w494 w495 w496 => k .ret ⟨81, [(0, .d (D.int .i64 a0)), (1, .d (D.sl 5 a1)), (2, .fn 25 [.ptr 1000000 0]), (6, .mpd G), (7, .d (D.sl 1 p)), (10, .d (D.int .i64 h9)), (11, .ptr 11 0), (44, .d (D.sl 5 a1)), (45, .d (D.int .i64 w2)), (46, .d (D.int .i64 h9)), (59, .d (D.sl 1 w487)), (60, .d (D.int .i64 w488)), (61, .d (D.int .i64 w489)), (78, .d (D.bool w490))], [(11, .box [.d w491, .d w492, .d w493, .d w494, .d w495]), (98000, .arr 35 2 w496), (1000000, .box [.arr 98000])]⟩) (fun h9 w497 w498 w499 w500 w501 w502 w503 w504 w505 w506 => k .ret ⟨81, [(0, .d (D.int .i64 a0)), (1, .d (D.sl 5 a1)), (2, .fn 25 [.ptr 1000000 0]), (6, .mpd G), (7, .d (D.sl 1 p)), (10, .d (D.int .i64 h9)), (11, .ptr 11 0), (44, .d (D.sl 5 a1)), (45, .d (D.int .i64 w2)), (46, .d (D.int .i64 h9)), (59, .d (D.sl 1 w497)), (60, .d (D.int .i64 w498)), (61, .d (D.int .i64 w499)), (78, .d (D.bool w500))], [(11, .box [.d w501, .d w502, .d w503, .d w504, .d w505]), (1000000, .box [.arr 98000]), (98000, .arr 35 2 w506)]⟩) (fun h9 w509 h10 => k (.exit 2) ⟨81, [(0, .d (D.int .i64 a0)), (1, .d (D.sl 5 a1)), (2, .fn 25 [.ptr 1000000 0]), (6, .mpd G), (7, .d (D.sl 1 p)), (44, .d (D.sl 5 a1)), (45, .d (D.int .i64 w2)), (46, .d (D.int .i64 h9)), (47, .d (D.bool w509))], [(98000, .arr 35 2 h10), (1000000, .box [.arr 98000])]⟩) := by
  rw [occupancy_visit_s3_c16_eq]
  exact occupancy_visit_s3_r16_eq n a0 a1 G p w2 k n (0 : Int) q1
theorem occupancy_visit_s3_p17_eq {R : Type} (n : Nat) (a0 : Int) (a1 : List (List D)) (G : Int → List (List D)) (p : List (List D)) (w2 : Int) (q1 : List (List D)) (k : Exit → St → Option R) : vexec (occupancy_visit_s3_C n) n occupancy_visit_s3_c17 ⟨81, [(0, .d (D.int .i64 a0)), (1, .d (D.sl 5 a1)), (2, .fn 25 [.ptr 1000000 0]), (6, .mpd G), (7, .d (D.sl 1 p)), (44, .d (D.sl 5 a1)), (45, .d (D.int .i64 w2)), (46, .d (D.int .i64 (0 : Int)))], [(1000000, .box [.arr 98000]), (98000, .arr 35 2 q1)]⟩ k = occupancy_visit_s3_p17 n a0 a1 G p w2 q1 (fun w510 w511 w512 w513 w514 w515 w516 w517 w518 w519 w520 => k .ret ⟨81, [(0, .d (D.int .i64 a0)), (1, .d (D.sl 5 a1)), (2, .fn 25 [.ptr 1000000 0]), (6, .mpd G), (7, .d (D.sl 1 p)), (10, .d (D.int .i64 w510)), (11, .ptr 11 0), (44, .d (D.sl 5 a1)), (45, .d (D.int .i64 w2)), (46, .d (D.int .i64 w510)), (59, .d (D.sl 1 w511)), (60, .d (D.int .i64 w512)), (61, .d (D.int .i64 w513)), (78, .d (D.bool w514))], [(11, .box [.d w515, .d w516, .d w517, .d w518, .d w519]), (98000, .arr 35 2 w520), (1000000, .box [.arr 98000])]⟩) (fun w521 w522 w523 w524 w525 w526 w527 w528 w529 w530 w531 => k .ret ⟨81, [(0, .d (D.int .i64 a0)), (1, .d (D.sl 5 a1)), (2, .fn 25 [.ptr 1000000 0]), (6, .mpd G), (7, .d (D.sl 1 p)), (10, .d (D.int .i64 w521)), (11, .ptr 11 0), (44, .d (D.sl 5 a1)), (45, .d (D.int .i64 w2)), (46, .d (D.int .i64 w521)), (59, .d (D.sl 1 w522)), (60, .d (D.int .i64 w523)), (61, .d (D.int .i64 w524)), (78, .d (D.bool w525))], [(11, .box [.d w526, .d w527, .d w528, .d w529, .d w530]), (1000000, .box [.arr 98000]), (98000, .arr 35 2 w531)]⟩) (fun w532 w533 w534 => k .normal ⟨81, [(0, .d (D.int .i64 a0)), (1, .d (D.sl 5 a1)), (2, .fn 25 [.ptr 1000000 0]), (6, .mpd G), (7, .d (D.sl 1 p)), (44, .d (D.sl 5 a1)), (45, .d (D.int .i64 w2)), (46, .d (D.int .i64 w532)), (47, .d (D.bool w533))], [(98000, .arr 35 2 w534), (1000000, .box [.arr 98000])]⟩) := by
  rw [occupancy_visit_s3_c17_eq]
  unfold occupancy_visit_s3_p17
  exact (occupancy_visit_s3_p16_eq n a0 a1 G p w2 q1 (blockK 2 k)).trans (occupancy_visit_s3_p16_congr n a0 a1 G p w2 q1 (fun w510 w511 w512 w513 w514 w515 w516 w517 w518 w519 w520 => rfl) (fun w521 w522 w523 w524 w525 w526 w527 w528 w529 w530 w531 => rfl) (fun w532 w533 w534 => rfl))
theorem occupancy_visit_s3_p18_eq {R : Type} (n : Nat) (a0 : Int) (a1 : List (List D)) (G : Int → List (List D)) (p : List (List D)) (q1 : List (List D)) (k : Exit → St → Option R) : vexec (occupancy_visit_s3_C n) n occupancy_visit_s3_c0 ⟨81, [(0, .d (D.int .i64 a0)), (1, .d (D.sl 5 a1)), (2, .fn 25 [.ptr 1000000 0]), (6, .mpd G), (7, .d (D.sl 1 p))], [(1000000, .box [.arr 1000001]), (1000001, .arr 35 2 q1)]⟩ k = occupancy_visit_s3_p18 n a0 a1 G p q1 (fun w535 w2 w536 w537 w538 w539 w540 w541 w542 w543 w544 w545 => k .ret ⟨81, [(0, .d (D.int .i64 a0)), (1, .d (D.sl 5 a1)), (2, .fn 25 [.ptr 1000000 0]), (6, .mpd G), (7, .d (D.sl 1 p)), (10, .d (D.int .i64 w535)), (11, .ptr 11 0), (44, .d (D.sl 5 a1)), (45, .d (D.int .i64 w2)), (46, .d (D.int .i64 w535)), (59, .d (D.sl 1 w536)), (60, .d (D.int .i64 w537)), (61, .d (D.int .i64 w538)), (78, .d (D.bool w539))], [(11, .box [.d w540, .d w541, .d w542, .d w543, .d w544]), (98000, .arr 35 2 w545), (1000000, .box [.arr 98000])]⟩) (fun w546 w2 w547 w548 w549 w550 w551 w552 w553 w554 w555 w556 => k .ret ⟨81, [(0, .d (D.int .i64 a0)), (1, .d (D.sl 5 a1)), (2, .fn 25 [.ptr 1000000 0]), (6, .mpd G), (7, .d (D.sl 1 p)), (10, .d (D.int .i64 w546)), (11, .ptr 11 0), (44, .d (D.sl 5 a1)), (45, .d (D.int .i64 w2)), (46, .d (D.int .i64 w546)), (59, .d (D.sl 1 w547)), (60, .d (D.int .i64 w548)), (61, .d (D.int .i64 w549)), (78, .d (D.bool w550))], [(11, .box [.d w551, .d w552, .d w553, .d w554, .d w555]), (1000000, .box [.arr 98000]), (98000, .arr 35 2 w556)]⟩) (fun w2 w557 w558 w559 => k .normal ⟨81, [(0, .d (D.int .i64 a0)), (1, .d (D.sl 5 a1)), (2, .fn 25 [.ptr 1000000 0]), (6, .mpd G), (7, .d (D.sl 1 p)), (44, .d (D.sl 5 a1)), (45, .d (D.int .i64 w2)), (46, .d (D.int .i64 w557)), (47, .d (D.bool w558))], [(98000, .arr 35 2 w559), (1000000, .box [.arr 98000])]⟩) := by
  rw [occupancy_visit_s3_c0_eq]
  unfold occupancy_visit_s3_p18
  exact (occupancy_visit_s3_p1_eq n a0 a1 G p q1 (seqK (occupancy_visit_s3_C n) n occupancy_visit_s3_c17 k)).trans (occupancy_visit_s3_p1_congr n a0 a1 G p q1 (fun w2 => occupancy_visit_s3_p17_eq n a0 a1 G p w2 q1 k))
def occupancy_visit_s3_Ko : AV → List (Nat × Ob) → Option (List (List D)) := fun av H => (look H 1000000).bind fun o0 => (look H 98000).bind fun o1 => match av, o0, o1 with
  | .tup [], .box [.arr p0], .arr p1 p2 r0 => bif Nat.beq p0 98000 && (Nat.beq p1 35 && (Nat.beq p2 2 && ((look H 1000001).isNone))) then some r0 else none
  | _, _, _ => none
theorem occupancy_visit_s3_vfo (n : Nat) (a0 : Int) (a1 : List (List D)) (q1 : List (List D)) : (visPre a1 fun G p => vexec (occupancy_visit_s3_C n) n occupancy_visit_s3_c0 ⟨81, [(0, .d (D.int .i64 a0)), (1, .d (D.sl 5 a1)), (2, .fn 25 [.ptr 1000000 0]), (6, .mpd G), (7, .d (D.sl 1 p))], [(1000000, .box [.arr 1000001]), (1000001, .arr 35 2 q1)]⟩ (fnK occupancy_visit_s3_tt Try.f23 occupancy_visit_s3_Ko)) = occupancy_visit_s3 n a0 a1 q1 some := by
  unfold occupancy_visit_s3
  congr 1
  funext G p
  exact (occupancy_visit_s3_p18_eq n a0 a1 G p q1 (fnK occupancy_visit_s3_tt Try.f23 occupancy_visit_s3_Ko)).trans (by kernel_rfl)
def occupancy_visit_s3_s (n : Nat) : Entry := fun _ site g avs hl k => match avs with
  | [c0, c1, c2] => prI g .i64 c0 fun a0 => prS g 5 c1 fun a1 => prF 25 c2 fun m4 => (match m4 with
    | [y4_0] => prP hl y4_0 fun l0 bl0 => (match bl0 with
    | [xl0_0] => prR hl 35 2 xl0_0 fun l1 q1 => 
    bif newsOk hl [(1000000, l0), (1000001, l1)] [(98000, (site + 100000))] then gb g (occupancy_visit_s3 n a0 a1 q1 some) [] fun r => k ⟨.tup [], [(l0, some (.box [.arr (site + 100000)])), (l1, none), ((site + 100000), some (.arr 35 2 r))], [l0, l1]⟩ else none
    | _ => none)
    | _ => none)
  | _ => none
theorem occupancy_visit_s3_so (n : Nat) : EntryOK Try.prog 23 (occupancy_visit_s3_s n) := by
  intro R site g avs hl k r h
  unfold occupancy_visit_s3_s at h
  split at h
  rotate_left
  · cases h
  replace h := prI_some h
  obtain ⟨a0, h, le0⟩ := h
  replace h := prS_some h
  obtain ⟨a1, h, le1⟩ := h
  replace h := prF_some h
  obtain ⟨m4, h, em4⟩ := h
  subst em4
  split at h
  rotate_left
  · cases h
  replace h := prP_some h
  obtain ⟨l0, bl0, h, el0, hbl0⟩ := h
  subst el0
  split at h
  rotate_left
  · cases h
  replace h := prR_some h
  obtain ⟨l1, q1, h, el1, hbl1⟩ := h
  subst el1
  replace h := bif_some h
  obtain ⟨hc, h⟩ := h
  replace h := gb_some h
  obtain ⟨res, h, hr⟩ := h
  refine ⟨_, h, fun hg => callOK_shX (K := occupancy_visit_s3_Ko) (res := res) (fn := Try.f23) (by kernel_rfl) (by kernel_rfl) (by kernel_rfl) (ρ := [(1000000, l0), (1000001, l1)]) (ν := [(98000, (site + 100000))]) (avs' := [.d (D.int .i64 a0), .d (D.sl 5 a1), .fn 25 [.ptr 1000000 0]]) (H := [(1000000, .box [.arr 1000001]), (1000001, .arr 35 2 q1)]) (.cons (.data rfl (le0 hg)) (.cons (.data rfl (le1 hg)) (.cons (.own rfl rfl) (.nil)))) rfl rfl hc (⟨⟨by decide, _, _, hbl0, rfl, .box (.cons (.own rfl rfl) (.nil))⟩, ⟨⟨by decide, _, _, hbl1, rfl, .arr _ _ _⟩, trivial⟩⟩) rfl rfl ?_ ?_⟩
  · exact fun β S w vs hO hA => vis_calls (occupancy_visit_s3_VC n) (by kernel_rfl) ((occupancy_visit_s3_vfo n a0 a1 q1).trans (hr hg)) hO hA
  · intro av H' hx
    unfold occupancy_visit_s3_Ko at hx
    replace hx := Option.bind_eq_some_iff.1 hx
    obtain ⟨o0, ho0, hx⟩ := hx
    replace hx := Option.bind_eq_some_iff.1 hx
    obtain ⟨o1, ho1, hx⟩ := hx
    split at hx
    rotate_left
    · cases hx
    replace hx := bif_some hx
    obtain ⟨hck, hx⟩ := hx
    simp only [Bool.and_eq_true] at hck
    obtain ⟨ek0, ek1, ek2, hn0⟩ := hck
    have ek0 := Nat.eq_of_beq_eq_true ek0
    subst ek0
    have ek1 := Nat.eq_of_beq_eq_true ek1
    subst ek1
    have ek2 := Nat.eq_of_beq_eq_true ek2
    subst ek2
    have hn0 := Option.isNone_iff_eq_none.1 hn0
    injection hx with hx
    subst hx
    refine ⟨rfl, ?_, ⟨by rw [ho1]; rfl, trivial⟩, ⟨endOk_box rfl ho0 rfl, ⟨endOk_gone rfl hn0, trivial⟩⟩⟩
    simp only [List.cons_append, List.nil_append, outWr, ho0, ho1, hn0, Option.map_some, Option.map_none]
    rfl
end Go.Vx
/-
  occupancy_Conflicts: the interpreter computes the pure function
-/
set_option linter.unusedVariables false
set_option linter.unusedSimpArgs false
set_option maxRecDepth 100000
namespace Go.Vx
open Go.Proofs
noncomputable def occupancy_Conflicts_c0 : Code := bodyOf Try.f12
def occupancy_Conflicts_tt : TT := [(32, ⟨.sl 35 2, 1, 24, [.slice none 0 0], [.sl 2 []], [], none⟩)]
theorem occupancy_Conflicts_tt_eq : mkTT Try.prog [32] = occupancy_Conflicts_tt := by kernel_rfl
def occupancy_Conflicts_cfg : List (Nat × Cfg) := [(0, ⟨[0, 1], [], [], [], []⟩), (1, ⟨[0, 1, 9], [], [], [], []⟩), (2, ⟨[4], [], [(4, 100013, 35, 2)], [], []⟩), (3, ⟨[0, 1, 5], [(5, 5)], [], [(5, 0, 2200, 35, 2)], []⟩), (4, ⟨[5], [(5, 5), (100013, 100013)], [], [], []⟩), (5, ⟨[4], [(100013, 100013)], [], [], []⟩)]
def occupancy_Conflicts_C (n : Nat) : VC := ⟨specOf [(19, occupancy_Valid_e n), (23, occupancy_visit_s3_s n)], occupancy_Conflicts_tt, occupancy_Conflicts_cfg⟩
theorem occupancy_Conflicts_ents (n : Nat) : EntsOK Try.prog [(19, occupancy_Valid_e n), (23, occupancy_visit_s3_s n)] := ⟨occupancy_Valid_ok n, ⟨occupancy_visit_s3_so n, trivial⟩⟩
theorem occupancy_Conflicts_VC (n : Nat) : VCOk Try.prog (occupancy_Conflicts_C n) := ⟨specOf_ok (occupancy_Conflicts_ents n), (occupancy_Conflicts_tt_eq ▸ mkTT_ok _ : TOk Try.prog occupancy_Conflicts_tt), by kernel_rfl⟩
theorem occupancy_Conflicts_p1_congr {R : Type} (n : Nat) (a0 : Int) (a1 : List (List D)) {k0 kk0 : (List (List D)) → Option R} (hq0 : ∀ x0, k0 x0 = kk0 x0) : occupancy_Conflicts_p1 n a0 a1 k0 = occupancy_Conflicts_p1 n a0 a1 kk0 := by
  obtain rfl : k0 = kk0 := funext fun x0 => hq0 x0
  rfl
theorem occupancy_Conflicts_p1_eq {R : Type} (n : Nat) (a0 : Int) (a1 : List (List D)) (k : Exit → St → Option R) : vexec (occupancy_Conflicts_C n) n occupancy_Conflicts_c0 ⟨15, [(0, .d (D.int .i64 a0)), (1, .d (D.sl 5 a1))], []⟩ k = occupancy_Conflicts_p1 n a0 a1 (fun z3 => k .ret ⟨15, [(4, .arr 100013)], [(100013, .arr 35 2 z3)]⟩) := by kernel_rfl
theorem occupancy_Conflicts_vfn {R : Type} (n : Nat) (a0 : Int) (a1 : List (List D)) (K : AV → Option R) : vfn (occupancy_Conflicts_C n) n Try.f12 [.d (D.int .i64 a0), .d (D.sl 5 a1)] [] (retF [[2]] K) = occupancy_Conflicts n a0 a1 (fun r0 => K (.d (D.sl 2 r0))) :=
  (show vfn (occupancy_Conflicts_C n) n Try.f12 [.d (D.int .i64 a0), .d (D.sl 5 a1)] [] (retF [[2]] K) = vexec (occupancy_Conflicts_C n) n occupancy_Conflicts_c0 ⟨15, [(0, .d (D.int .i64 a0)), (1, .d (D.sl 5 a1))], []⟩ (retX occupancy_Conflicts_tt [.tmp 4] (retF [[2]] K)) from vfn_at (by kernel_rfl) (by kernel_rfl) rfl (by kernel_rfl) rfl (by kernel_rfl) rfl).trans ((occupancy_Conflicts_p1_eq n a0 a1 (retX occupancy_Conflicts_tt [.tmp 4] (retF [[2]] K))).trans (by kernel_rfl))
def occupancy_Conflicts_K : AV → Option (List (List D)) := fun av => match av with
  | .d (D.sl 2 r0) => some r0
  | _ => none
def occupancy_Conflicts_e (n : Nat) : Entry := fun _ _ g avs _ k => match avs with
  | [c0, c1] => prI g .i64 c0 fun a0 => prS g 5 c1 fun a1 => 
    gb g (occupancy_Conflicts n a0 a1 some) [] fun r => k ⟨.d (D.sl 2 r), [], []⟩
  | _ => none
theorem occupancy_Conflicts_ok (n : Nat) : EntryOK Try.prog 12 (occupancy_Conflicts_e n) := by
  intro R site g avs hl k r h
  unfold occupancy_Conflicts_e at h
  split at h
  rotate_left
  · cases h
  replace h := prI_some h
  obtain ⟨a0, h, le0⟩ := h
  replace h := prS_some h
  obtain ⟨a1, h, le1⟩ := h
  replace h := gb_some h
  obtain ⟨res, h, hr⟩ := h
  refine ⟨_, h, fun hg => CallOK.conv (avs' := [.d (D.int .i64 a0), .d (D.sl 5 a1)]) (.cons (le0 hg) (.cons (le1 hg) (.nil))) (callOK_fix (K := occupancy_Conflicts_K) (res := res) (occupancy_Conflicts_VC n) (fn := Try.f12) (n := n) (by kernel_rfl) (by kernel_rfl) (by kernel_rfl) (ss := [[2]]) rfl ?_ ?_)⟩
  · exact (occupancy_Conflicts_vfn n a0 a1 occupancy_Conflicts_K).trans (hr hg)
  · intro x hx
    unfold occupancy_Conflicts_K at hx
    split at hx
    · injection hx with hx; subst hx; rfl
    · cases hx
def occupancy_Conflicts_Ko : AV → List (Nat × Ob) → Option (List (List D)) := fun av H => (look H 100013).bind fun o0 => match av, o0 with
  | .arr p0, .arr p1 p2 r0 => bif Nat.beq p0 100013 && (Nat.beq p1 35 && (Nat.beq p2 2)) then some r0 else none
  | _, _ => none
theorem occupancy_Conflicts_vfo (n : Nat) (a0 : Int) (a1 : List (List D)) : vfn (occupancy_Conflicts_C n) n Try.f12 [.d (D.int .i64 a0), .d (D.sl 5 a1)] [] occupancy_Conflicts_Ko = occupancy_Conflicts n a0 a1 some :=
  (show vfn (occupancy_Conflicts_C n) n Try.f12 [.d (D.int .i64 a0), .d (D.sl 5 a1)] [] occupancy_Conflicts_Ko = vexec (occupancy_Conflicts_C n) n occupancy_Conflicts_c0 ⟨15, [(0, .d (D.int .i64 a0)), (1, .d (D.sl 5 a1))], []⟩ (retX occupancy_Conflicts_tt [.tmp 4] occupancy_Conflicts_Ko) from vfn_at (by kernel_rfl) (by kernel_rfl) rfl (by kernel_rfl) rfl (by kernel_rfl) rfl).trans ((occupancy_Conflicts_p1_eq n a0 a1 (retX occupancy_Conflicts_tt [.tmp 4] occupancy_Conflicts_Ko)).trans (by kernel_rfl))
def occupancy_Conflicts_o (n : Nat) : Entry := fun _ site g avs hl k => match avs with
  | [c0, c1] => prI g .i64 c0 fun a0 => prS g 5 c1 fun a1 => 
    bif newsOk hl [] [(100013, (site + 100000))] then gb g (occupancy_Conflicts n a0 a1 some) [] fun r => k ⟨.arr (site + 100000), [((site + 100000), some (.arr 35 2 r))], []⟩ else none
  | _ => none
theorem occupancy_Conflicts_oo (n : Nat) : EntryOK Try.prog 12 (occupancy_Conflicts_o n) := by
  intro R site g avs hl k r h
  unfold occupancy_Conflicts_o at h
  split at h
  rotate_left
  · cases h
  replace h := prI_some h
  obtain ⟨a0, h, le0⟩ := h
  replace h := prS_some h
  obtain ⟨a1, h, le1⟩ := h
  replace h := bif_some h
  obtain ⟨hc, h⟩ := h
  replace h := gb_some h
  obtain ⟨res, h, hr⟩ := h
  refine ⟨_, h, fun hg => CallOK.conv (avs' := [.d (D.int .i64 a0), .d (D.sl 5 a1)]) (.cons (le0 hg) (.cons (le1 hg) (.nil))) (callOK_own (K := occupancy_Conflicts_Ko) (res := res) (occupancy_Conflicts_VC n) (fn := Try.f12) (n := n) (by kernel_rfl) (by kernel_rfl) (by kernel_rfl) (ρ := []) (ν := [(100013, (site + 100000))]) (avs' := [.d (D.int .i64 a0), .d (D.sl 5 a1)]) (H := []) rfl rfl rfl rfl hc (trivial) rfl rfl ?_ ?_)⟩
  · exact (occupancy_Conflicts_vfo n a0 a1).trans (hr hg)
  · intro av H' hx
    unfold occupancy_Conflicts_Ko at hx
    replace hx := Option.bind_eq_some_iff.1 hx
    obtain ⟨o0, ho0, hx⟩ := hx
    split at hx
    rotate_left
    · cases hx
    replace hx := bif_some hx
    obtain ⟨hck, hx⟩ := hx
    simp only [Bool.and_eq_true] at hck
    obtain ⟨ek0, ek1, ek2⟩ := hck
    have ek0 := Nat.eq_of_beq_eq_true ek0
    subst ek0
    have ek1 := Nat.eq_of_beq_eq_true ek1
    subst ek1
    have ek2 := Nat.eq_of_beq_eq_true ek2
    subst ek2
    injection hx with hx
    subst hx
    refine ⟨rfl, ?_, ⟨by rw [ho0]; rfl, trivial⟩, trivial⟩
    simp only [List.cons_append, List.nil_append, outWr, ho0, Option.map_some]
    rfl
end Go.Vx
/-
  ref1_Floor: the interpreter computes the pure function
-/
set_option linter.unusedVariables false
set_option linter.unusedSimpArgs false
set_option maxRecDepth 100000
namespace Go.Vx
open Go.Proofs
noncomputable def ref1_Floor_c0 : Code := bodyOf Try.f49
def ref1_Floor_tt : TT := [(3, ⟨.int .i64, 1, 8, [.int .i64 0], [.int .i64 0], [], none⟩)]
theorem ref1_Floor_tt_eq : mkTT Try.prog [3] = ref1_Floor_tt := by kernel_rfl
def ref1_Floor_cfg : List (Nat × Cfg) := [(0, ⟨[0, 1], [], [], [], []⟩), (1, ⟨[0, 1, 5], [], [], [], []⟩), (2, ⟨[5, 12], [], [], [], []⟩), (3, ⟨[5], [], [], [], []⟩), (4, ⟨[4], [], [], [], []⟩)]
def ref1_Floor_C (n : Nat) : VC := ⟨specOf [], ref1_Floor_tt, ref1_Floor_cfg⟩
theorem ref1_Floor_ents (n : Nat) : EntsOK Try.prog [] := trivial
theorem ref1_Floor_VC (n : Nat) : VCOk Try.prog (ref1_Floor_C n) := ⟨specOf_ok (ref1_Floor_ents n), (ref1_Floor_tt_eq ▸ mkTT_ok _ : TOk Try.prog ref1_Floor_tt), by kernel_rfl⟩
theorem ref1_Floor_p1_congr {R : Type} (n : Nat) (a0 : Int) (a1 : Int) {k0 kk0 : Int → Option R} (hq0 : ∀ x0, k0 x0 = kk0 x0) : ref1_Floor_p1 n a0 a1 k0 = ref1_Floor_p1 n a0 a1 kk0 := by
  obtain rfl : k0 = kk0 := funext fun x0 => hq0 x0
  rfl
theorem ref1_Floor_p1_eq {R : Type} (n : Nat) (a0 : Int) (a1 : Int) (k : Exit → St → Option R) : vexec (ref1_Floor_C n) n ref1_Floor_c0 ⟨16, [(0, .d (D.int .i64 a0)), (1, .d (D.int .i64 a1))], []⟩ k = ref1_Floor_p1 n a0 a1 (fun z3 => k .ret ⟨16, [(4, .d (D.int .i64 z3))], []⟩) := by kernel_rfl
theorem ref1_Floor_vfn {R : Type} (n : Nat) (a0 : Int) (a1 : Int) (K : AV → Option R) : vfn (ref1_Floor_C n) n Try.f49 [.d (D.int .i64 a0), .d (D.int .i64 a1)] [] (retF [[0]] K) = ref1_Floor n a0 a1 (fun r0 => K (.d (D.int .i64 r0))) :=
  (show vfn (ref1_Floor_C n) n Try.f49 [.d (D.int .i64 a0), .d (D.int .i64 a1)] [] (retF [[0]] K) = vexec (ref1_Floor_C n) n ref1_Floor_c0 ⟨16, [(0, .d (D.int .i64 a0)), (1, .d (D.int .i64 a1))], []⟩ (retX ref1_Floor_tt [.tmp 4] (retF [[0]] K)) from vfn_at (by kernel_rfl) (by kernel_rfl) rfl (by kernel_rfl) rfl (by kernel_rfl) rfl).trans ((ref1_Floor_p1_eq n a0 a1 (retX ref1_Floor_tt [.tmp 4] (retF [[0]] K))).trans (by kernel_rfl))
def ref1_Floor_K : AV → Option (Int) := fun av => match av with
  | .d (D.int .i64 r0) => some r0
  | _ => none
def ref1_Floor_e (n : Nat) : Entry := fun _ _ g avs _ k => match avs with
  | [c0, c1] => prI g .i64 c0 fun a0 => prI g .i64 c1 fun a1 => 
    gb g (ref1_Floor n a0 a1 some) 0 fun r => k ⟨.d (D.int .i64 r), [], []⟩
  | _ => none
theorem ref1_Floor_ok (n : Nat) : EntryOK Try.prog 49 (ref1_Floor_e n) := by
  intro R site g avs hl k r h
  unfold ref1_Floor_e at h
  split at h
  rotate_left
  · cases h
  replace h := prI_some h
  obtain ⟨a0, h, le0⟩ := h
  replace h := prI_some h
  obtain ⟨a1, h, le1⟩ := h
  replace h := gb_some h
  obtain ⟨res, h, hr⟩ := h
  refine ⟨_, h, fun hg => CallOK.conv (avs' := [.d (D.int .i64 a0), .d (D.int .i64 a1)]) (.cons (le0 hg) (.cons (le1 hg) (.nil))) (callOK_fix (K := ref1_Floor_K) (res := res) (ref1_Floor_VC n) (fn := Try.f49) (n := n) (by kernel_rfl) (by kernel_rfl) (by kernel_rfl) (ss := [[0]]) rfl ?_ ?_)⟩
  · exact (ref1_Floor_vfn n a0 a1 ref1_Floor_K).trans (hr hg)
  · intro x hx
    unfold ref1_Floor_K at hx
    split at hx
    · injection hx with hx; subst hx; rfl
    · cases hx
end Go.Vx
/-
  ref1_Ceil: the interpreter computes the pure function
-/
set_option linter.unusedVariables false
set_option linter.unusedSimpArgs false
set_option maxRecDepth 100000
namespace Go.Vx
open Go.Proofs
noncomputable def ref1_Ceil_c0 : Code := bodyOf Try.f50
def ref1_Ceil_tt : TT := [(3, ⟨.int .i64, 1, 8, [.int .i64 0], [.int .i64 0], [], none⟩)]
theorem ref1_Ceil_tt_eq : mkTT Try.prog [3] = ref1_Ceil_tt := by kernel_rfl
def ref1_Ceil_cfg : List (Nat × Cfg) := [(0, ⟨[0, 1], [], [], [], []⟩), (1, ⟨[0, 1, 5], [], [], [], []⟩), (2, ⟨[5, 12], [], [], [], []⟩), (3, ⟨[5], [], [], [], []⟩), (4, ⟨[4], [], [], [], []⟩)]
def ref1_Ceil_C (n : Nat) : VC := ⟨specOf [], ref1_Ceil_tt, ref1_Ceil_cfg⟩
theorem ref1_Ceil_ents (n : Nat) : EntsOK Try.prog [] := trivial
theorem ref1_Ceil_VC (n : Nat) : VCOk Try.prog (ref1_Ceil_C n) := ⟨specOf_ok (ref1_Ceil_ents n), (ref1_Ceil_tt_eq ▸ mkTT_ok _ : TOk Try.prog ref1_Ceil_tt), by kernel_rfl⟩
theorem ref1_Ceil_p1_congr {R : Type} (n : Nat) (a0 : Int) (a1 : Int) {k0 kk0 : Int → Option R} (hq0 : ∀ x0, k0 x0 = kk0 x0) : ref1_Ceil_p1 n a0 a1 k0 = ref1_Ceil_p1 n a0 a1 kk0 := by
  obtain rfl : k0 = kk0 := funext fun x0 => hq0 x0
  rfl
theorem ref1_Ceil_p1_eq {R : Type} (n : Nat) (a0 : Int) (a1 : Int) (k : Exit → St → Option R) : vexec (ref1_Ceil_C n) n ref1_Ceil_c0 ⟨16, [(0, .d (D.int .i64 a0)), (1, .d (D.int .i64 a1))], []⟩ k = ref1_Ceil_p1 n a0 a1 (fun z3 => k .ret ⟨16, [(4, .d (D.int .i64 z3))], []⟩) := by kernel_rfl
theorem ref1_Ceil_vfn {R : Type} (n : Nat) (a0 : Int) (a1 : Int) (K : AV → Option R) : vfn (ref1_Ceil_C n) n Try.f50 [.d (D.int .i64 a0), .d (D.int .i64 a1)] [] (retF [[0]] K) = ref1_Ceil n a0 a1 (fun r0 => K (.d (D.int .i64 r0))) :=
  (show vfn (ref1_Ceil_C n) n Try.f50 [.d (D.int .i64 a0), .d (D.int .i64 a1)] [] (retF [[0]] K) = vexec (ref1_Ceil_C n) n ref1_Ceil_c0 ⟨16, [(0, .d (D.int .i64 a0)), (1, .d (D.int .i64 a1))], []⟩ (retX ref1_Ceil_tt [.tmp 4] (retF [[0]] K)) from vfn_at (by kernel_rfl) (by kernel_rfl) rfl (by kernel_rfl) rfl (by kernel_rfl) rfl).trans ((ref1_Ceil_p1_eq n a0 a1 (retX ref1_Ceil_tt [.tmp 4] (retF [[0]] K))).trans (by kernel_rfl))
def ref1_Ceil_K : AV → Option (Int) := fun av => match av with
  | .d (D.int .i64 r0) => some r0
  | _ => none
def ref1_Ceil_e (n : Nat) : Entry := fun _ _ g avs _ k => match avs with
  | [c0, c1] => prI g .i64 c0 fun a0 => prI g .i64 c1 fun a1 => 
    gb g (ref1_Ceil n a0 a1 some) 0 fun r => k ⟨.d (D.int .i64 r), [], []⟩
  | _ => none
theorem ref1_Ceil_ok (n : Nat) : EntryOK Try.prog 50 (ref1_Ceil_e n) := by
  intro R site g avs hl k r h
  unfold ref1_Ceil_e at h
  split at h
  rotate_left
  · cases h
  replace h := prI_some h
  obtain ⟨a0, h, le0⟩ := h
  replace h := prI_some h
  obtain ⟨a1, h, le1⟩ := h
  replace h := gb_some h
  obtain ⟨res, h, hr⟩ := h
  refine ⟨_, h, fun hg => CallOK.conv (avs' := [.d (D.int .i64 a0), .d (D.int .i64 a1)]) (.cons (le0 hg) (.cons (le1 hg) (.nil))) (callOK_fix (K := ref1_Ceil_K) (res := res) (ref1_Ceil_VC n) (fn := Try.f50) (n := n) (by kernel_rfl) (by kernel_rfl) (by kernel_rfl) (ss := [[0]]) rfl ?_ ?_)⟩
  · exact (ref1_Ceil_vfn n a0 a1 ref1_Ceil_K).trans (hr hg)
  · intro x hx
    unfold ref1_Ceil_K at hx
    split at hx
    · injection hx with hx; subst hx; rfl
    · cases hx
end Go.Vx
/-
  ref19_conflict: the interpreter computes the pure function
-/
set_option linter.unusedVariables false
set_option linter.unusedSimpArgs false
set_option maxRecDepth 100000
namespace Go.Vx
open Go.Proofs
noncomputable def ref19_conflict_c0 : Code := bodyOf Try.f34
def ref19_conflict_tt : TT := [(3, ⟨.int .i64, 1, 8, [.int .i64 0], [.int .i64 0], [], none⟩), (31, ⟨.struct, 5, 40, [.int .i64 0, .int .i64 0, .int .i64 0, .int .i64 0, .int .i64 0], [.int .i64 0, .int .i64 0, .int .i64 0, .int .i64 0, .int .i64 0], [(0, 3), (1, 3), (2, 3), (3, 3), (4, 3)], some [.int .i64, .int .i64, .int .i64, .int .i64, .int .i64]⟩)]
theorem ref19_conflict_tt_eq : mkTT Try.prog [3, 31] = ref19_conflict_tt := by kernel_rfl
def ref19_conflict_cfg : List (Nat × Cfg) := [(0, ⟨[0, 4, 5], [(4, 4), (5, 5)], [], [], []⟩), (1, ⟨[0, 4, 5, 13], [(4, 4), (5, 5)], [], [], []⟩), (2, ⟨[6], [], [], [], []⟩), (3, ⟨[4, 5, 7, 8], [(4, 4), (5, 5)], [], [], []⟩), (4, ⟨[4, 5, 7, 8, 38], [(4, 4), (5, 5)], [], [], []⟩), (5, ⟨[6], [], [], [], []⟩), (6, ⟨[4, 7, 8, 43], [(4, 4)], [], [], []⟩), (7, ⟨[6], [], [], [], []⟩), (8, ⟨[4, 7, 8, 46], [(4, 4)], [], [], []⟩), (9, ⟨[6], [], [], [], []⟩), (10, ⟨[4, 7, 8, 55], [(4, 4)], [], [], []⟩), (11, ⟨[6], [], [], [], []⟩), (12, ⟨[6], [], [], [], []⟩)]
def ref19_conflict_C (n : Nat) : VC := ⟨specOf [(49, ref1_Floor_e n), (50, ref1_Ceil_e n)], ref19_conflict_tt, ref19_conflict_cfg⟩
theorem ref19_conflict_ents (n : Nat) : EntsOK Try.prog [(49, ref1_Floor_e n), (50, ref1_Ceil_e n)] := ⟨ref1_Floor_ok n, ⟨ref1_Ceil_ok n, trivial⟩⟩
theorem ref19_conflict_VC (n : Nat) : VCOk Try.prog (ref19_conflict_C n) := ⟨specOf_ok (ref19_conflict_ents n), (ref19_conflict_tt_eq ▸ mkTT_ok _ : TOk Try.prog ref19_conflict_tt), by kernel_rfl⟩
theorem ref19_conflict_p1_congr {R : Type} (n : Nat) (a0 : Int) (a1_0 : Int) (a1_1 : Int) (a1_2 : Int) (a1_3 : Int) (a1_4 : Int) (a2_0 : Int) (a2_1 : Int) (a2_2 : Int) (a2_3 : Int) (a2_4 : Int) {k0 kk0 : Bool → Option R} (hq0 : ∀ x0, k0 x0 = kk0 x0) : ref19_conflict_p1 n a0 a1_0 a1_1 a1_2 a1_3 a1_4 a2_0 a2_1 a2_2 a2_3 a2_4 k0 = ref19_conflict_p1 n a0 a1_0 a1_1 a1_2 a1_3 a1_4 a2_0 a2_1 a2_2 a2_3 a2_4 kk0 := by
  obtain rfl : k0 = kk0 := funext fun x0 => hq0 x0
  rfl
theorem ref19_conflict_p1_eq {R : Type} (n : Nat) (a0 : Int) (a1_0 : Int) (a1_1 : Int) (a1_2 : Int) (a1_3 : Int) (a1_4 : Int) (a2_0 : Int) (a2_1 : Int) (a2_2 : Int) (a2_3 : Int) (a2_4 : Int) (k : Exit → St → Option R) : vexec (ref19_conflict_C n) n ref19_conflict_c0 ⟨66, [(0, .d (D.int .i64 a0)), (1, .ag [.d (D.int .i64 a1_0), .d (D.int .i64 a1_1), .d (D.int .i64 a1_2), .d (D.int .i64 a1_3), .d (D.int .i64 a1_4)]), (2, .ag [.d (D.int .i64 a2_0), .d (D.int .i64 a2_1), .d (D.int .i64 a2_2), .d (D.int .i64 a2_3), .d (D.int .i64 a2_4)])], []⟩ k = ref19_conflict_p1 n a0 a1_0 a1_1 a1_2 a1_3 a1_4 a2_0 a2_1 a2_2 a2_3 a2_4 (fun z4 => k .ret ⟨66, [(6, .d (D.bool z4))], []⟩) := by kernel_rfl
theorem ref19_conflict_vfn {R : Type} (n : Nat) (a0 : Int) (a1_0 : Int) (a1_1 : Int) (a1_2 : Int) (a1_3 : Int) (a1_4 : Int) (a2_0 : Int) (a2_1 : Int) (a2_2 : Int) (a2_3 : Int) (a2_4 : Int) (K : AV → Option R) : vfn (ref19_conflict_C n) n Try.f34 [.d (D.int .i64 a0), .ag [.d (D.int .i64 a1_0), .d (D.int .i64 a1_1), .d (D.int .i64 a1_2), .d (D.int .i64 a1_3), .d (D.int .i64 a1_4)], .ag [.d (D.int .i64 a2_0), .d (D.int .i64 a2_1), .d (D.int .i64 a2_2), .d (D.int .i64 a2_3), .d (D.int .i64 a2_4)]] [] (retF [[0]] K) = ref19_conflict n a0 a1_0 a1_1 a1_2 a1_3 a1_4 a2_0 a2_1 a2_2 a2_3 a2_4 (fun r0 => K (.d (D.bool r0))) :=
  (show vfn (ref19_conflict_C n) n Try.f34 [.d (D.int .i64 a0), .ag [.d (D.int .i64 a1_0), .d (D.int .i64 a1_1), .d (D.int .i64 a1_2), .d (D.int .i64 a1_3), .d (D.int .i64 a1_4)], .ag [.d (D.int .i64 a2_0), .d (D.int .i64 a2_1), .d (D.int .i64 a2_2), .d (D.int .i64 a2_3), .d (D.int .i64 a2_4)]] [] (retF [[0]] K) = vexec (ref19_conflict_C n) n ref19_conflict_c0 ⟨66, [(0, .d (D.int .i64 a0)), (1, .ag [.d (D.int .i64 a1_0), .d (D.int .i64 a1_1), .d (D.int .i64 a1_2), .d (D.int .i64 a1_3), .d (D.int .i64 a1_4)]), (2, .ag [.d (D.int .i64 a2_0), .d (D.int .i64 a2_1), .d (D.int .i64 a2_2), .d (D.int .i64 a2_3), .d (D.int .i64 a2_4)])], []⟩ (retX ref19_conflict_tt [.tmp 6] (retF [[0]] K)) from vfn_at (by kernel_rfl) (by kernel_rfl) rfl (by kernel_rfl) rfl (by kernel_rfl) rfl).trans ((ref19_conflict_p1_eq n a0 a1_0 a1_1 a1_2 a1_3 a1_4 a2_0 a2_1 a2_2 a2_3 a2_4 (retX ref19_conflict_tt [.tmp 6] (retF [[0]] K))).trans (by kernel_rfl))
def ref19_conflict_K : AV → Option (Bool) := fun av => match av with
  | .d (D.bool r0) => some r0
  | _ => none
def ref19_conflict_e (n : Nat) : Entry := fun _ _ g avs _ k => match avs with
  | [c0, c1, c2] => prI g .i64 c0 fun a0 => 
    prG c1 fun l1 => (match l1 with
    | [c1_0, c1_1, c1_2, c1_3, c1_4] => prI g .i64 c1_0 fun a1_0 => prI g .i64 c1_1 fun a1_1 => prI g .i64 c1_2 fun a1_2 => prI g .i64 c1_3 fun a1_3 => prI g .i64 c1_4 fun a1_4 => 
    prG c2 fun l2 => (match l2 with
    | [c2_0, c2_1, c2_2, c2_3, c2_4] => prI g .i64 c2_0 fun a2_0 => prI g .i64 c2_1 fun a2_1 => prI g .i64 c2_2 fun a2_2 => prI g .i64 c2_3 fun a2_3 => prI g .i64 c2_4 fun a2_4 => 
    gb g (ref19_conflict n a0 a1_0 a1_1 a1_2 a1_3 a1_4 a2_0 a2_1 a2_2 a2_3 a2_4 some) false fun r => k ⟨.d (D.bool r), [], []⟩
    | _ => none)
    | _ => none)
  | _ => none
theorem ref19_conflict_ok (n : Nat) : EntryOK Try.prog 34 (ref19_conflict_e n) := by
  intro R site g avs hl k r h
  unfold ref19_conflict_e at h
  split at h
  rotate_left
  · cases h
  replace h := prI_some h
  obtain ⟨a0, h, le0⟩ := h
  replace h := prG_some h
  obtain ⟨l1, h, e1⟩ := h
  subst e1
  split at h
  rotate_left
  · cases h
  replace h := prI_some h
  obtain ⟨a1_0, h, le1⟩ := h
  replace h := prI_some h
  obtain ⟨a1_1, h, le2⟩ := h
  replace h := prI_some h
  obtain ⟨a1_2, h, le3⟩ := h
  replace h := prI_some h
  obtain ⟨a1_3, h, le4⟩ := h
  replace h := prI_some h
  obtain ⟨a1_4, h, le5⟩ := h
  replace h := prG_some h
  obtain ⟨l2, h, e2⟩ := h
  subst e2
  split at h
  rotate_left
  · cases h
  replace h := prI_some h
  obtain ⟨a2_0, h, le6⟩ := h
  replace h := prI_some h
  obtain ⟨a2_1, h, le7⟩ := h
  replace h := prI_some h
  obtain ⟨a2_2, h, le8⟩ := h
  replace h := prI_some h
  obtain ⟨a2_3, h, le9⟩ := h
  replace h := prI_some h
  obtain ⟨a2_4, h, le10⟩ := h
  replace h := gb_some h
  obtain ⟨res, h, hr⟩ := h
  refine ⟨_, h, fun hg => CallOK.conv (avs' := [.d (D.int .i64 a0), .ag [.d (D.int .i64 a1_0), .d (D.int .i64 a1_1), .d (D.int .i64 a1_2), .d (D.int .i64 a1_3), .d (D.int .i64 a1_4)], .ag [.d (D.int .i64 a2_0), .d (D.int .i64 a2_1), .d (D.int .i64 a2_2), .d (D.int .i64 a2_3), .d (D.int .i64 a2_4)]]) (.cons (le0 hg) (.cons (.ag (.cons (le1 hg) (.cons (le2 hg) (.cons (le3 hg) (.cons (le4 hg) (.cons (le5 hg) (.nil))))))) (.cons (.ag (.cons (le6 hg) (.cons (le7 hg) (.cons (le8 hg) (.cons (le9 hg) (.cons (le10 hg) (.nil))))))) (.nil)))) (callOK_fix (K := ref19_conflict_K) (res := res) (ref19_conflict_VC n) (fn := Try.f34) (n := n) (by kernel_rfl) (by kernel_rfl) (by kernel_rfl) (ss := [[0]]) rfl ?_ ?_)⟩
  · exact (ref19_conflict_vfn n a0 a1_0 a1_1 a1_2 a1_3 a1_4 a2_0 a2_1 a2_2 a2_3 a2_4 ref19_conflict_K).trans (hr hg)
  · intro x hx
    unfold ref19_conflict_K at hx
    split at hx
    · injection hx with hx; subst hx; rfl
    · cases hx
end Go.Vx
/-
  ref19_Conflicts: the interpreter computes the pure function
-/
set_option linter.unusedVariables false
set_option linter.unusedSimpArgs false
set_option maxRecDepth 100000
namespace Go.Vx
open Go.Proofs
noncomputable def ref19_Conflicts_c0 : Code := bodyOf Try.f27
noncomputable def ref19_Conflicts_c1 : Code := cL (bodyOf Try.f27)
noncomputable def ref19_Conflicts_c2 : Code := cL (cR (bodyOf Try.f27))
noncomputable def ref19_Conflicts_c3 : Code := cL (cR (cR (bodyOf Try.f27)))
noncomputable def ref19_Conflicts_c4 : Code := cL (cL (cR (cR (cR (bodyOf Try.f27)))))
noncomputable def ref19_Conflicts_c5 : Code := cL (cB (cB (cR (cL (cR (cR (cR (bodyOf Try.f27))))))))
noncomputable def ref19_Conflicts_c6 : Code := cL (cR (cB (cB (cR (cL (cR (cR (cR (bodyOf Try.f27)))))))))
noncomputable def ref19_Conflicts_c7 : Code := cL (cB (cL (cR (cR (cB (cB (cR (cL (cR (cR (cR (bodyOf Try.f27))))))))))))
noncomputable def ref19_Conflicts_c8 : Code := cL (cR (cB (cL (cR (cR (cB (cB (cR (cL (cR (cR (cR (bodyOf Try.f27)))))))))))))
noncomputable def ref19_Conflicts_c9 : Code := cB (cB (cR (cR (cB (cL (cR (cR (cB (cB (cR (cL (cR (cR (cR (bodyOf Try.f27)))))))))))))))
noncomputable def ref19_Conflicts_c10 : Code := cB (cR (cR (cB (cL (cR (cR (cB (cB (cR (cL (cR (cR (cR (bodyOf Try.f27))))))))))))))
noncomputable def ref19_Conflicts_c11 : Code := cR (cR (cB (cL (cR (cR (cB (cB (cR (cL (cR (cR (cR (bodyOf Try.f27)))))))))))))
noncomputable def ref19_Conflicts_c12 : Code := cR (cB (cL (cR (cR (cB (cB (cR (cL (cR (cR (cR (bodyOf Try.f27))))))))))))
noncomputable def ref19_Conflicts_c13 : Code := cB (cL (cR (cR (cB (cB (cR (cL (cR (cR (cR (bodyOf Try.f27)))))))))))
noncomputable def ref19_Conflicts_c14 : Code := cL (cR (cR (cB (cB (cR (cL (cR (cR (cR (bodyOf Try.f27))))))))))
noncomputable def ref19_Conflicts_c15 : Code := cR (cR (cR (cB (cB (cR (cL (cR (cR (cR (bodyOf Try.f27))))))))))
noncomputable def ref19_Conflicts_c16 : Code := cR (cR (cB (cB (cR (cL (cR (cR (cR (bodyOf Try.f27)))))))))
noncomputable def ref19_Conflicts_c17 : Code := cR (cB (cB (cR (cL (cR (cR (cR (bodyOf Try.f27))))))))
noncomputable def ref19_Conflicts_c18 : Code := cB (cB (cR (cL (cR (cR (cR (bodyOf Try.f27)))))))
noncomputable def ref19_Conflicts_c19 : Code := cB (cR (cL (cR (cR (cR (bodyOf Try.f27))))))
noncomputable def ref19_Conflicts_c20 : Code := cR (cL (cR (cR (cR (bodyOf Try.f27)))))
noncomputable def ref19_Conflicts_c21 : Code := cL (cR (cR (cR (bodyOf Try.f27))))
noncomputable def ref19_Conflicts_c22 : Code := cR (cR (cR (cR (bodyOf Try.f27))))
noncomputable def ref19_Conflicts_c23 : Code := cR (cR (cR (bodyOf Try.f27)))
noncomputable def ref19_Conflicts_c24 : Code := cR (cR (bodyOf Try.f27))
noncomputable def ref19_Conflicts_c25 : Code := cR (bodyOf Try.f27)
theorem ref19_Conflicts_c10_eq : ref19_Conflicts_c10 = .loop ref19_Conflicts_c9 := by kernel_rfl
theorem ref19_Conflicts_c11_eq : ref19_Conflicts_c11 = .block 2 ref19_Conflicts_c10 := by kernel_rfl
theorem ref19_Conflicts_c12_eq : ref19_Conflicts_c12 = .seq ref19_Conflicts_c8 ref19_Conflicts_c11 := by kernel_rfl
theorem ref19_Conflicts_c13_eq : ref19_Conflicts_c13 = .seq ref19_Conflicts_c7 ref19_Conflicts_c12 := by kernel_rfl
theorem ref19_Conflicts_c14_eq : ref19_Conflicts_c14 = .block 1 ref19_Conflicts_c13 := by kernel_rfl
theorem ref19_Conflicts_c16_eq : ref19_Conflicts_c16 = .seq ref19_Conflicts_c14 ref19_Conflicts_c15 := by kernel_rfl
theorem ref19_Conflicts_c17_eq : ref19_Conflicts_c17 = .seq ref19_Conflicts_c6 ref19_Conflicts_c16 := by kernel_rfl
theorem ref19_Conflicts_c18_eq : ref19_Conflicts_c18 = .seq ref19_Conflicts_c5 ref19_Conflicts_c17 := by kernel_rfl
theorem ref19_Conflicts_c19_eq : ref19_Conflicts_c19 = .loop ref19_Conflicts_c18 := by kernel_rfl
theorem ref19_Conflicts_c20_eq : ref19_Conflicts_c20 = .block 0 ref19_Conflicts_c19 := by kernel_rfl
theorem ref19_Conflicts_c21_eq : ref19_Conflicts_c21 = .seq ref19_Conflicts_c4 ref19_Conflicts_c20 := by kernel_rfl
theorem ref19_Conflicts_c23_eq : ref19_Conflicts_c23 = .seq ref19_Conflicts_c21 ref19_Conflicts_c22 := by kernel_rfl
theorem ref19_Conflicts_c24_eq : ref19_Conflicts_c24 = .seq ref19_Conflicts_c3 ref19_Conflicts_c23 := by kernel_rfl
theorem ref19_Conflicts_c25_eq : ref19_Conflicts_c25 = .seq ref19_Conflicts_c2 ref19_Conflicts_c24 := by kernel_rfl
theorem ref19_Conflicts_c0_eq : ref19_Conflicts_c0 = .seq ref19_Conflicts_c1 ref19_Conflicts_c25 := by kernel_rfl
def ref19_Conflicts_tt : TT := [(3, ⟨.int .i64, 1, 8, [.int .i64 0], [.int .i64 0], [], none⟩), (24, ⟨.sl 31 5, 1, 24, [.slice none 0 0], [.sl 5 []], [], none⟩), (31, ⟨.struct, 5, 40, [.int .i64 0, .int .i64 0, .int .i64 0, .int .i64 0, .int .i64 0], [.int .i64 0, .int .i64 0, .int .i64 0, .int .i64 0, .int .i64 0], [(0, 3), (1, 3), (2, 3), (3, 3), (4, 3)], some [.int .i64, .int .i64, .int .i64, .int .i64, .int .i64]⟩), (32, ⟨.sl 35 2, 1, 24, [.slice none 0 0], [.sl 2 []], [], none⟩), (35, ⟨.array 3 1 2, 2, 16, [.int .i64 0, .int .i64 0], [.int .i64 0, .int .i64 0], [(0, 3), (1, 3)], some [.int .i64, .int .i64]⟩)]
theorem ref19_Conflicts_tt_eq : mkTT Try.prog [3, 24, 31, 32, 35] = ref19_Conflicts_tt := by kernel_rfl
def ref19_Conflicts_cfg : List (Nat × Cfg) := [(0, ⟨[0, 1], [], [], [], []⟩), (1, ⟨[0, 1, 11], [], [], [], []⟩), (2, ⟨[4], [], [], [], []⟩), (3, ⟨[0, 1, 5], [], [], [], []⟩), (4, ⟨[0, 1, 5, 13, 14], [], [(5, 1005, 35, 2)], [], []⟩), (5, ⟨[0, 1, 5, 13, 14, 15], [(1005, 1005)], [], [], []⟩), (6, ⟨[0, 1, 5, 6, 13, 14], [(1005, 1005)], [], [], []⟩), (7, ⟨[0, 1, 5, 6, 7, 13, 14], [(1005, 1005)], [(5, 1005, 35, 2)], [], []⟩), (8, ⟨[0, 1, 5, 6, 7, 13, 14, 21], [(1005, 1005)], [], [], []⟩), (9, ⟨[0, 1, 5, 6, 7, 13, 14], [(1005, 1005)], [], [], []⟩), (10, ⟨[0, 1, 5, 6, 7, 13, 14, 33], [(1005, 1005)], [], [], []⟩), (11, ⟨[0, 1, 5, 6, 7, 13, 14], [(39, 1005)], [], [], []⟩), (12, ⟨[0, 1, 5, 13, 14], [(1005, 1005)], [], [], []⟩), (13, ⟨[4], [(1005, 1005)], [], [], []⟩)]
def ref19_Conflicts_C (n : Nat) : VC := ⟨specOf [(26, ref19_Valid_e n), (34, ref19_conflict_e n)], ref19_Conflicts_tt, ref19_Conflicts_cfg⟩
theorem ref19_Conflicts_ents (n : Nat) : EntsOK Try.prog [(26, ref19_Valid_e n), (34, ref19_conflict_e n)] := ⟨ref19_Valid_ok n, ⟨ref19_conflict_ok n, trivial⟩⟩
theorem ref19_Conflicts_VC (n : Nat) : VCOk Try.prog (ref19_Conflicts_C n) := ⟨specOf_ok (ref19_Conflicts_ents n), (ref19_Conflicts_tt_eq ▸ mkTT_ok _ : TOk Try.prog ref19_Conflicts_tt), by kernel_rfl⟩
theorem ref19_Conflicts_p1_congr {R : Type} (n : Nat) (a0 : Int) (a1 : List (List D)) {k0 kk0 : Option R} (hq0 : k0 = kk0) : ref19_Conflicts_p1 n a0 a1 k0 = ref19_Conflicts_p1 n a0 a1 kk0 := by
  obtain rfl : k0 = kk0 := hq0
  rfl
theorem ref19_Conflicts_p2_congr {R : Type} (n : Nat) (a0 : Int) (a1 : List (List D)) {k0 kk0 : Option R} {k1 kk1 : Bool → Option R} (hq0 : k0 = kk0) (hq1 : ∀ x0, k1 x0 = kk1 x0) : ref19_Conflicts_p2 n a0 a1 k0 k1 = ref19_Conflicts_p2 n a0 a1 kk0 kk1 := by
  obtain rfl : k0 = kk0 := hq0
  obtain rfl : k1 = kk1 := funext fun x0 => hq1 x0
  rfl
theorem ref19_Conflicts_p3_congr {R : Type} (n : Nat) (a0 : Int) (a1 : List (List D)) (w3 : Bool) {k0 kk0 : Option R} (hq0 : k0 = kk0) : ref19_Conflicts_p3 n a0 a1 w3 k0 = ref19_Conflicts_p3 n a0 a1 w3 kk0 := by
  obtain rfl : k0 = kk0 := hq0
  rfl
theorem ref19_Conflicts_p4_congr {R : Type} (n : Nat) (a0 : Int) (a1 : List (List D)) {k0 kk0 : Int → Option R} (hq0 : ∀ x0, k0 x0 = kk0 x0) : ref19_Conflicts_p4 n a0 a1 k0 = ref19_Conflicts_p4 n a0 a1 kk0 := by
  obtain rfl : k0 = kk0 := funext fun x0 => hq0 x0
  rfl
theorem ref19_Conflicts_p5_congr {R : Type} (n : Nat) (a0 : Int) (a1 : List (List D)) (w5 : Int) (h9 : Int) (h10 : List (List D)) {k0 kk0 : Bool → Option R} (hq0 : ∀ x0, k0 x0 = kk0 x0) : ref19_Conflicts_p5 n a0 a1 w5 h9 h10 k0 = ref19_Conflicts_p5 n a0 a1 w5 h9 h10 kk0 := by
  obtain rfl : k0 = kk0 := funext fun x0 => hq0 x0
  rfl
theorem ref19_Conflicts_p6_congr {R : Type} (n : Nat) (a0 : Int) (a1 : List (List D)) (w5 : Int) (h9 : Int) (w99 : Bool) (h10 : List (List D)) {k0 kk0 : Option R} {k1 kk1 : Option R} (hq0 : k0 = kk0) (hq1 : k1 = kk1) : ref19_Conflicts_p6 n a0 a1 w5 h9 w99 h10 k0 k1 = ref19_Conflicts_p6 n a0 a1 w5 h9 w99 h10 kk0 kk1 := by
  obtain rfl : k0 = kk0 := hq0
  obtain rfl : k1 = kk1 := hq1
  rfl
theorem ref19_Conflicts_p7_congr {R : Type} (n : Nat) (a0 : Int) (a1 : List (List D)) (w5 : Int) (h9 : Int) (w99 : Bool) (h10 : List (List D)) {k0 kk0 : Option R} (hq0 : k0 = kk0) : ref19_Conflicts_p7 n a0 a1 w5 h9 w99 h10 k0 = ref19_Conflicts_p7 n a0 a1 w5 h9 w99 h10 kk0 := by
  obtain rfl : k0 = kk0 := hq0
  rfl
theorem ref19_Conflicts_p8_congr {R : Type} (n : Nat) (a0 : Int) (a1 : List (List D)) (h9 : Int) (w5 : Int) (h10 : List (List D)) {k0 kk0 : Option R} (hq0 : k0 = kk0) : ref19_Conflicts_p8 n a0 a1 h9 w5 h10 k0 = ref19_Conflicts_p8 n a0 a1 h9 w5 h10 kk0 := by
  obtain rfl : k0 = kk0 := hq0
  rfl
theorem ref19_Conflicts_p9_congr {R : Type} (n : Nat) (a0 : Int) (a1 : List (List D)) (h9 : Int) (h103 : Int) (w5 : Int) (h106 : List (List D)) {k0 kk0 : Int → (List (List D)) → Option R} {k1 kk1 : Bool → Option R} (hq0 : ∀ x0 x1, k0 x0 x1 = kk0 x0 x1) (hq1 : ∀ x0, k1 x0 = kk1 x0) : ref19_Conflicts_p9 n a0 a1 h9 h103 w5 h106 k0 k1 = ref19_Conflicts_p9 n a0 a1 h9 h103 w5 h106 kk0 kk1 := by
  obtain rfl : k0 = kk0 := funext fun x0 => funext fun x1 => hq0 x0 x1
  obtain rfl : k1 = kk1 := funext fun x0 => hq1 x0
  rfl
theorem ref19_Conflicts_p10_congr {R : Type} (n : Nat) (a0 : Int) (a1 : List (List D)) (h9 : Int) (w5 : Int) (h10 : List (List D)) {k0 kk0 : Int → Bool → (List (List D)) → Option R} (hq0 : ∀ x0 x1 x2, k0 x0 x1 x2 = kk0 x0 x1 x2) : ref19_Conflicts_p10 n a0 a1 h9 w5 h10 k0 = ref19_Conflicts_p10 n a0 a1 h9 w5 h10 kk0 := by
  obtain rfl : k0 = kk0 := funext fun x0 => funext fun x1 => funext fun x2 => hq0 x0 x1 x2
  rfl
theorem ref19_Conflicts_p11_congr {R : Type} (n : Nat) (a0 : Int) (a1 : List (List D)) (h9 : Int) (w5 : Int) (h10 : List (List D)) {k0 kk0 : Int → Bool → (List (List D)) → Option R} (hq0 : ∀ x0 x1 x2, k0 x0 x1 x2 = kk0 x0 x1 x2) : ref19_Conflicts_p11 n a0 a1 h9 w5 h10 k0 = ref19_Conflicts_p11 n a0 a1 h9 w5 h10 kk0 := by
  obtain rfl : k0 = kk0 := funext fun x0 => funext fun x1 => funext fun x2 => hq0 x0 x1 x2
  rfl
theorem ref19_Conflicts_p12_congr {R : Type} (n : Nat) (a0 : Int) (a1 : List (List D)) (h9 : Int) (w5 : Int) (h10 : List (List D)) {k0 kk0 : Int → Bool → (List (List D)) → Option R} (hq0 : ∀ x0 x1 x2, k0 x0 x1 x2 = kk0 x0 x1 x2) : ref19_Conflicts_p12 n a0 a1 h9 w5 h10 k0 = ref19_Conflicts_p12 n a0 a1 h9 w5 h10 kk0 := by
  obtain rfl : k0 = kk0 := funext fun x0 => funext fun x1 => funext fun x2 => hq0 x0 x1 x2
  rfl
theorem ref19_Conflicts_p13_congr {R : Type} (n : Nat) (a0 : Int) (a1 : List (List D)) (w5 : Int) (h9 : Int) (w99 : Bool) (h10 : List (List D)) {k0 kk0 : Int → Bool → (List (List D)) → Option R} (hq0 : ∀ x0 x1 x2, k0 x0 x1 x2 = kk0 x0 x1 x2) : ref19_Conflicts_p13 n a0 a1 w5 h9 w99 h10 k0 = ref19_Conflicts_p13 n a0 a1 w5 h9 w99 h10 kk0 := by
  obtain rfl : k0 = kk0 := funext fun x0 => funext fun x1 => funext fun x2 => hq0 x0 x1 x2
  rfl
theorem ref19_Conflicts_p14_congr {R : Type} (n : Nat) (a0 : Int) (a1 : List (List D)) (w5 : Int) (h9 : Int) (w99 : Bool) (h10 : List (List D)) {k0 kk0 : Int → Bool → (List (List D)) → Option R} (hq0 : ∀ x0 x1 x2, k0 x0 x1 x2 = kk0 x0 x1 x2) : ref19_Conflicts_p14 n a0 a1 w5 h9 w99 h10 k0 = ref19_Conflicts_p14 n a0 a1 w5 h9 w99 h10 kk0 := by
  obtain rfl : k0 = kk0 := funext fun x0 => funext fun x1 => funext fun x2 => hq0 x0 x1 x2
  rfl
theorem ref19_Conflicts_p15_congr {R : Type} (n : Nat) (a0 : Int) (a1 : List (List D)) (h9 : Int) (w176 : Int) (w5 : Int) (w177 : Bool) (w178 : List (List D)) {k0 kk0 : Int → Option R} (hq0 : ∀ x0, k0 x0 = kk0 x0) : ref19_Conflicts_p15 n a0 a1 h9 w176 w5 w177 w178 k0 = ref19_Conflicts_p15 n a0 a1 h9 w176 w5 w177 w178 kk0 := by
  obtain rfl : k0 = kk0 := funext fun x0 => hq0 x0
  rfl
theorem ref19_Conflicts_p16_congr {R : Type} (n : Nat) (a0 : Int) (a1 : List (List D)) (w5 : Int) (h9 : Int) (w99 : Bool) (h10 : List (List D)) {k0 kk0 : Int → (List (List D)) → Option R} (hq0 : ∀ x0 x1, k0 x0 x1 = kk0 x0 x1) : ref19_Conflicts_p16 n a0 a1 w5 h9 w99 h10 k0 = ref19_Conflicts_p16 n a0 a1 w5 h9 w99 h10 kk0 := by
  obtain rfl : k0 = kk0 := funext fun x0 => funext fun x1 => hq0 x0 x1
  rfl
theorem ref19_Conflicts_p17_congr {R : Type} (n : Nat) (a0 : Int) (a1 : List (List D)) (w5 : Int) (h9 : Int) (w99 : Bool) (h10 : List (List D)) {k0 kk0 : Int → (List (List D)) → Option R} {k1 kk1 : Option R} (hq0 : ∀ x0 x1, k0 x0 x1 = kk0 x0 x1) (hq1 : k1 = kk1) : ref19_Conflicts_p17 n a0 a1 w5 h9 w99 h10 k0 k1 = ref19_Conflicts_p17 n a0 a1 w5 h9 w99 h10 kk0 kk1 := by
  obtain rfl : k0 = kk0 := funext fun x0 => funext fun x1 => hq0 x0 x1
  obtain rfl : k1 = kk1 := hq1
  rfl
theorem ref19_Conflicts_p18_congr {R : Type} (n : Nat) (a0 : Int) (a1 : List (List D)) (w5 : Int) (h9 : Int) (h10 : List (List D)) {k0 kk0 : Int → (List (List D)) → Option R} {k1 kk1 : Bool → Option R} (hq0 : ∀ x0 x1, k0 x0 x1 = kk0 x0 x1) (hq1 : ∀ x0, k1 x0 = kk1 x0) : ref19_Conflicts_p18 n a0 a1 w5 h9 h10 k0 k1 = ref19_Conflicts_p18 n a0 a1 w5 h9 h10 kk0 kk1 := by
  obtain rfl : k0 = kk0 := funext fun x0 => funext fun x1 => hq0 x0 x1
  obtain rfl : k1 = kk1 := funext fun x0 => hq1 x0
  rfl
theorem ref19_Conflicts_p19_congr {R : Type} (n : Nat) (a0 : Int) (a1 : List (List D)) (w5 : Int) {k0 kk0 : Int → Bool → (List (List D)) → Option R} (hq0 : ∀ x0 x1 x2, k0 x0 x1 x2 = kk0 x0 x1 x2) : ref19_Conflicts_p19 n a0 a1 w5 k0 = ref19_Conflicts_p19 n a0 a1 w5 kk0 := by
  obtain rfl : k0 = kk0 := funext fun x0 => funext fun x1 => funext fun x2 => hq0 x0 x1 x2
  rfl
theorem ref19_Conflicts_p20_congr {R : Type} (n : Nat) (a0 : Int) (a1 : List (List D)) (w5 : Int) {k0 kk0 : Int → Bool → (List (List D)) → Option R} (hq0 : ∀ x0 x1 x2, k0 x0 x1 x2 = kk0 x0 x1 x2) : ref19_Conflicts_p20 n a0 a1 w5 k0 = ref19_Conflicts_p20 n a0 a1 w5 kk0 := by
  obtain rfl : k0 = kk0 := funext fun x0 => funext fun x1 => funext fun x2 => hq0 x0 x1 x2
  rfl
theorem ref19_Conflicts_p21_congr {R : Type} (n : Nat) (a0 : Int) (a1 : List (List D)) {k0 kk0 : Int → Int → Bool → (List (List D)) → Option R} (hq0 : ∀ x0 x1 x2 x3, k0 x0 x1 x2 x3 = kk0 x0 x1 x2 x3) : ref19_Conflicts_p21 n a0 a1 k0 = ref19_Conflicts_p21 n a0 a1 kk0 := by
  obtain rfl : k0 = kk0 := funext fun x0 => funext fun x1 => funext fun x2 => funext fun x3 => hq0 x0 x1 x2 x3
  rfl
theorem ref19_Conflicts_p22_congr {R : Type} (n : Nat) (a0 : Int) (a1 : List (List D)) (w194 : Int) (w195 : Int) (w196 : Bool) (w197 : List (List D)) {k0 kk0 : Option R} (hq0 : k0 = kk0) : ref19_Conflicts_p22 n a0 a1 w194 w195 w196 w197 k0 = ref19_Conflicts_p22 n a0 a1 w194 w195 w196 w197 kk0 := by
  obtain rfl : k0 = kk0 := hq0
  rfl
theorem ref19_Conflicts_p23_congr {R : Type} (n : Nat) (a0 : Int) (a1 : List (List D)) {k0 kk0 : (List (List D)) → Option R} (hq0 : ∀ x0, k0 x0 = kk0 x0) : ref19_Conflicts_p23 n a0 a1 k0 = ref19_Conflicts_p23 n a0 a1 kk0 := by
  obtain rfl : k0 = kk0 := funext fun x0 => hq0 x0
  rfl
theorem ref19_Conflicts_p24_congr {R : Type} (n : Nat) (a0 : Int) (a1 : List (List D)) (w3 : Bool) {k0 kk0 : (List (List D)) → Option R} (hq0 : ∀ x0, k0 x0 = kk0 x0) : ref19_Conflicts_p24 n a0 a1 w3 k0 = ref19_Conflicts_p24 n a0 a1 w3 kk0 := by
  obtain rfl : k0 = kk0 := funext fun x0 => hq0 x0
  rfl
theorem ref19_Conflicts_p25_congr {R : Type} (n : Nat) (a0 : Int) (a1 : List (List D)) {k0 kk0 : Option R} {k1 kk1 : (List (List D)) → Option R} (hq0 : k0 = kk0) (hq1 : ∀ x0, k1 x0 = kk1 x0) : ref19_Conflicts_p25 n a0 a1 k0 k1 = ref19_Conflicts_p25 n a0 a1 kk0 kk1 := by
  obtain rfl : k0 = kk0 := hq0
  obtain rfl : k1 = kk1 := funext fun x0 => hq1 x0
  rfl
theorem ref19_Conflicts_p26_congr {R : Type} (n : Nat) (a0 : Int) (a1 : List (List D)) {k0 kk0 : Option R} {k1 kk1 : (List (List D)) → Option R} (hq0 : k0 = kk0) (hq1 : ∀ x0, k1 x0 = kk1 x0) : ref19_Conflicts_p26 n a0 a1 k0 k1 = ref19_Conflicts_p26 n a0 a1 kk0 kk1 := by
  obtain rfl : k0 = kk0 := hq0
  obtain rfl : k1 = kk1 := funext fun x0 => hq1 x0
  rfl
theorem ref19_Conflicts_p1_eq {R : Type} (n : Nat) (a0 : Int) (a1 : List (List D)) (k : Exit → St → Option R) : vexec (ref19_Conflicts_C n) n ref19_Conflicts_c1 ⟨42, [(0, .d (D.int .i64 a0)), (1, .d (D.sl 5 a1))], []⟩ k = ref19_Conflicts_p1 n a0 a1 (k .normal ⟨42, [(0, .d (D.int .i64 a0)), (1, .d (D.sl 5 a1))], []⟩) := by kernel_rfl
theorem ref19_Conflicts_p2_eq {R : Type} (n : Nat) (a0 : Int) (a1 : List (List D)) (k : Exit → St → Option R) : vexec (ref19_Conflicts_C n) n ref19_Conflicts_c2 ⟨42, [(0, .d (D.int .i64 a0)), (1, .d (D.sl 5 a1))], []⟩ k = ref19_Conflicts_p2 n a0 a1 (k .ret ⟨42, [(4, .nil)], []⟩) (fun z2 => k .normal ⟨42, [(0, .d (D.int .i64 a0)), (1, .d (D.sl 5 a1)), (11, .d (D.bool z2))], []⟩) := by kernel_rfl
theorem ref19_Conflicts_p3_eq {R : Type} (n : Nat) (a0 : Int) (a1 : List (List D)) (w3 : Bool) (k : Exit → St → Option R) : vexec (ref19_Conflicts_C n) n ref19_Conflicts_c3 ⟨42, [(0, .d (D.int .i64 a0)), (1, .d (D.sl 5 a1)), (11, .d (D.bool w3))], []⟩ k = ref19_Conflicts_p3 n a0 a1 w3 (k .normal ⟨42, [(0, .d (D.int .i64 a0)), (1, .d (D.sl 5 a1)), (5, .nil)], []⟩) := by kernel_rfl
theorem ref19_Conflicts_p4_eq {R : Type} (n : Nat) (a0 : Int) (a1 : List (List D)) (k : Exit → St → Option R) : vexec (ref19_Conflicts_C n) n ref19_Conflicts_c4 ⟨42, [(0, .d (D.int .i64 a0)), (1, .d (D.sl 5 a1)), (5, .nil)], []⟩ k = ref19_Conflicts_p4 n a0 a1 (fun z4 => k .normal ⟨42, [(0, .d (D.int .i64 a0)), (1, .d (D.sl 5 a1)), (5, .arr 1005), (13, .d (D.int .i64 z4)), (14, .d (D.int .i64 (0 : Int)))], [(1005, .arr 35 2 [])]⟩) := by kernel_rfl
theorem ref19_Conflicts_p5_eq {R : Type} (n : Nat) (a0 : Int) (a1 : List (List D)) (w5 : Int) (h9 : Int) (h10 : List (List D)) (k : Exit → St → Option R) : vexec (ref19_Conflicts_C n) n ref19_Conflicts_c5 ⟨42, [(0, .d (D.int .i64 a0)), (1, .d (D.sl 5 a1)), (5, .arr 1005), (13, .d (D.int .i64 w5)), (14, .d (D.int .i64 h9))], [(1005, .arr 35 2 h10)]⟩ k = ref19_Conflicts_p5 n a0 a1 w5 h9 h10 (fun z98 => k .normal ⟨42, [(0, .d (D.int .i64 a0)), (1, .d (D.sl 5 a1)), (5, .arr 1005), (13, .d (D.int .i64 w5)), (14, .d (D.int .i64 h9)), (15, .d (D.bool z98))], [(1005, .arr 35 2 h10)]⟩) := by kernel_rfl
theorem ref19_Conflicts_p6_eq {R : Type} (n : Nat) (a0 : Int) (a1 : List (List D)) (w5 : Int) (h9 : Int) (w99 : Bool) (h10 : List (List D)) (k : Exit → St → Option R) : vexec (ref19_Conflicts_C n) n ref19_Conflicts_c6 ⟨42, [(0, .d (D.int .i64 a0)), (1, .d (D.sl 5 a1)), (5, .arr 1005), (13, .d (D.int .i64 w5)), (14, .d (D.int .i64 h9)), (15, .d (D.bool w99))], [(1005, .arr 35 2 h10)]⟩ k = ref19_Conflicts_p6 n a0 a1 w5 h9 w99 h10 (k .normal ⟨42, [(0, .d (D.int .i64 a0)), (1, .d (D.sl 5 a1)), (5, .arr 1005), (13, .d (D.int .i64 w5)), (14, .d (D.int .i64 h9)), (15, .d (D.bool w99))], [(1005, .arr 35 2 h10)]⟩) (k (.exit 0) ⟨42, [(0, .d (D.int .i64 a0)), (1, .d (D.sl 5 a1)), (5, .arr 1005), (13, .d (D.int .i64 w5)), (14, .d (D.int .i64 h9)), (15, .d (D.bool w99))], [(1005, .arr 35 2 h10)]⟩) := by kernel_rfl
theorem ref19_Conflicts_p7_eq {R : Type} (n : Nat) (a0 : Int) (a1 : List (List D)) (w5 : Int) (h9 : Int) (w99 : Bool) (h10 : List (List D)) (k : Exit → St → Option R) : vexec (ref19_Conflicts_C n) n ref19_Conflicts_c7 ⟨42, [(0, .d (D.int .i64 a0)), (1, .d (D.sl 5 a1)), (5, .arr 1005), (13, .d (D.int .i64 w5)), (14, .d (D.int .i64 h9)), (15, .d (D.bool w99))], [(1005, .arr 35 2 h10)]⟩ k = ref19_Conflicts_p7 n a0 a1 w5 h9 w99 h10 (k .normal ⟨42, [(0, .d (D.int .i64 a0)), (1, .d (D.sl 5 a1)), (5, .arr 1005), (6, .d (D.int .i64 h9)), (13, .d (D.int .i64 w5)), (14, .d (D.int .i64 h9))], [(1005, .arr 35 2 h10)]⟩) := by kernel_rfl
theorem ref19_Conflicts_p8_eq {R : Type} (n : Nat) (a0 : Int) (a1 : List (List D)) (h9 : Int) (w5 : Int) (h10 : List (List D)) (k : Exit → St → Option R) : vexec (ref19_Conflicts_C n) n ref19_Conflicts_c8 ⟨42, [(0, .d (D.int .i64 a0)), (1, .d (D.sl 5 a1)), (5, .arr 1005), (6, .d (D.int .i64 h9)), (13, .d (D.int .i64 w5)), (14, .d (D.int .i64 h9))], [(1005, .arr 35 2 h10)]⟩ k = ref19_Conflicts_p8 n a0 a1 h9 w5 h10 (k .normal ⟨42, [(0, .d (D.int .i64 a0)), (1, .d (D.sl 5 a1)), (5, .arr 1005), (6, .d (D.int .i64 h9)), (7, .d (D.int .i64 h9)), (13, .d (D.int .i64 w5)), (14, .d (D.int .i64 h9))], [(1005, .arr 35 2 h10)]⟩) := by kernel_rfl
theorem ref19_Conflicts_p9_eq {R : Type} (n : Nat) (a0 : Int) (a1 : List (List D)) (h9 : Int) (h103 : Int) (w5 : Int) (h106 : List (List D)) (k : Exit → St → Option R) : vexec (ref19_Conflicts_C n) n ref19_Conflicts_c9 ⟨42, [(0, .d (D.int .i64 a0)), (1, .d (D.sl 5 a1)), (5, .arr 1005), (6, .d (D.int .i64 h9)), (7, .d (D.int .i64 h103)), (13, .d (D.int .i64 w5)), (14, .d (D.int .i64 h9))], [(1005, .arr 35 2 h106)]⟩ k = ref19_Conflicts_p9 n a0 a1 h9 h103 w5 h106 (fun z158 z159 => k .normal ⟨42, [(0, .d (D.int .i64 a0)), (1, .d (D.sl 5 a1)), (5, .arr 1005), (6, .d (D.int .i64 h9)), (7, .d (D.int .i64 z158)), (13, .d (D.int .i64 w5)), (14, .d (D.int .i64 h9))], [(1005, .arr 35 2 z159)]⟩) (fun z160 => k (.exit 2) ⟨42, [(0, .d (D.int .i64 a0)), (1, .d (D.sl 5 a1)), (5, .arr 1005), (6, .d (D.int .i64 h9)), (7, .d (D.int .i64 h103)), (13, .d (D.int .i64 w5)), (14, .d (D.int .i64 h9)), (21, .d (D.bool z160))], [(1005, .arr 35 2 h106)]⟩) := by kernel_rfl
theorem ref19_Conflicts_r10_eq {R : Type} (n : Nat) (a0 : Int) (a1 : List (List D)) (h9 : Int) (w5 : Int) (k : Exit → St → Option R) : ∀ (m : Nat) (h103 : Int) (h106 : List (List D)), loopN (vexec (ref19_Conflicts_C n) n ref19_Conflicts_c9) m ⟨42, [(0, .d (D.int .i64 a0)), (1, .d (D.sl 5 a1)), (5, .arr 1005), (6, .d (D.int .i64 h9)), (7, .d (D.int .i64 h103)), (13, .d (D.int .i64 w5)), (14, .d (D.int .i64 h9))], [(1005, .arr 35 2 h106)]⟩ k = ref19_Conflicts_r10 n a0 a1 h9 w5 (fun h103 w163 h106 => k (.exit 2) ⟨42, [(0, .d (D.int .i64 a0)), (1, .d (D.sl 5 a1)), (5, .arr 1005), (6, .d (D.int .i64 h9)), (7, .d (D.int .i64 h103)), (13, .d (D.int .i64 w5)), (14, .d (D.int .i64 h9)), (21, .d (D.bool w163))], [(1005, .arr 35 2 h106)]⟩) m h103 h106
  | 0, _, _ => rfl
  | m + 1, h103, h106 => (ref19_Conflicts_p9_eq n a0 a1 h9 h103 w5 h106 (loopK (vexec (ref19_Conflicts_C n) n ref19_Conflicts_c9) m k)).trans (ref19_Conflicts_p9_congr n a0 a1 h9 h103 w5 h106 (fun w161 w162 => ref19_Conflicts_r10_eq n a0 a1 h9 w5 k m w161 w162) (fun w163 => rfl))
theorem ref19_Conflicts_p10_eq {R : Type} (n : Nat) (a0 : Int) (a1 : List (List D)) (h9 : Int) (w5 : Int) (h10 : List (List D)) (k : Exit → St → Option R) : vexec (ref19_Conflicts_C n) n ref19_Conflicts_c10 ⟨42, [(0, .d (D.int .i64 a0)), (1, .d (D.sl 5 a1)), (5, .arr 1005), (6, .d (D.int .i64 h9)), (7, .d (D.int .i64 h9)), (13, .d (D.int .i64 w5)), (14, .d (D.int .i64 h9))], [(1005, .arr 35 2 h10)]⟩ k = ref19_Conflicts_p10 n a0 a1 h9 w5 h10 (fun h103 w163 h106 => k (.exit 2) ⟨42, [(0, .d (D.int .i64 a0)), (1, .d (D.sl 5 a1)), (5, .arr 1005), (6, .d (D.int .i64 h9)), (7, .d (D.int .i64 h103)), (13, .d (D.int .i64 w5)), (14, .d (D.int .i64 h9)), (21, .d (D.bool w163))], [(1005, .arr 35 2 h106)]⟩) := by
  rw [ref19_Conflicts_c10_eq]
  exact ref19_Conflicts_r10_eq n a0 a1 h9 w5 k n h9 h10
theorem ref19_Conflicts_p11_eq {R : Type} (n : Nat) (a0 : Int) (a1 : List (List D)) (h9 : Int) (w5 : Int) (h10 : List (List D)) (k : Exit → St → Option R) : vexec (ref19_Conflicts_C n) n ref19_Conflicts_c11 ⟨42, [(0, .d (D.int .i64 a0)), (1, .d (D.sl 5 a1)), (5, .arr 1005), (6, .d (D.int .i64 h9)), (7, .d (D.int .i64 h9)), (13, .d (D.int .i64 w5)), (14, .d (D.int .i64 h9))], [(1005, .arr 35 2 h10)]⟩ k = ref19_Conflicts_p11 n a0 a1 h9 w5 h10 (fun w164 w165 w166 => k .normal ⟨42, [(0, .d (D.int .i64 a0)), (1, .d (D.sl 5 a1)), (5, .arr 1005), (6, .d (D.int .i64 h9)), (7, .d (D.int .i64 w164)), (13, .d (D.int .i64 w5)), (14, .d (D.int .i64 h9)), (21, .d (D.bool w165))], [(1005, .arr 35 2 w166)]⟩) := by
  rw [ref19_Conflicts_c11_eq]
  unfold ref19_Conflicts_p11
  exact (ref19_Conflicts_p10_eq n a0 a1 h9 w5 h10 (blockK 2 k)).trans (ref19_Conflicts_p10_congr n a0 a1 h9 w5 h10 (fun w164 w165 w166 => rfl))
theorem ref19_Conflicts_p12_eq {R : Type} (n : Nat) (a0 : Int) (a1 : List (List D)) (h9 : Int) (w5 : Int) (h10 : List (List D)) (k : Exit → St → Option R) : vexec (ref19_Conflicts_C n) n ref19_Conflicts_c12 ⟨42, [(0, .d (D.int .i64 a0)), (1, .d (D.sl 5 a1)), (5, .arr 1005), (6, .d (D.int .i64 h9)), (13, .d (D.int .i64 w5)), (14, .d (D.int .i64 h9))], [(1005, .arr 35 2 h10)]⟩ k = ref19_Conflicts_p12 n a0 a1 h9 w5 h10 (fun w167 w168 w169 => k .normal ⟨42, [(0, .d (D.int .i64 a0)), (1, .d (D.sl 5 a1)), (5, .arr 1005), (6, .d (D.int .i64 h9)), (7, .d (D.int .i64 w167)), (13, .d (D.int .i64 w5)), (14, .d (D.int .i64 h9)), (21, .d (D.bool w168))], [(1005, .arr 35 2 w169)]⟩) := by
  rw [ref19_Conflicts_c12_eq]
  unfold ref19_Conflicts_p12
  exact (ref19_Conflicts_p8_eq n a0 a1 h9 w5 h10 (seqK (ref19_Conflicts_C n) n ref19_Conflicts_c11 k)).trans (ref19_Conflicts_p8_congr n a0 a1 h9 w5 h10 (ref19_Conflicts_p11_eq n a0 a1 h9 w5 h10 k))
theorem ref19_Conflicts_p13_eq {R : Type} (n : Nat) (a0 : Int) (a1 : List (List D)) (w5 : Int) (h9 : Int) (w99 : Bool) (h10 : List (List D)) (k : Exit → St → Option R) : vexec (ref19_Conflicts_C n) n ref19_Conflicts_c13 ⟨42, [(0, .d (D.int .i64 a0)), (1, .d (D.sl 5 a1)), (5, .arr 1005), (13, .d (D.int .i64 w5)), (14, .d (D.int .i64 h9)), (15, .d (D.bool w99))], [(1005, .arr 35 2 h10)]⟩ k = ref19_Conflicts_p13 n a0 a1 w5 h9 w99 h10 (fun w170 w171 w172 => k .normal ⟨42, [(0, .d (D.int .i64 a0)), (1, .d (D.sl 5 a1)), (5, .arr 1005), (6, .d (D.int .i64 h9)), (7, .d (D.int .i64 w170)), (13, .d (D.int .i64 w5)), (14, .d (D.int .i64 h9)), (21, .d (D.bool w171))], [(1005, .arr 35 2 w172)]⟩) := by
  rw [ref19_Conflicts_c13_eq]
  unfold ref19_Conflicts_p13
  exact (ref19_Conflicts_p7_eq n a0 a1 w5 h9 w99 h10 (seqK (ref19_Conflicts_C n) n ref19_Conflicts_c12 k)).trans (ref19_Conflicts_p7_congr n a0 a1 w5 h9 w99 h10 (ref19_Conflicts_p12_eq n a0 a1 h9 w5 h10 k))
theorem ref19_Conflicts_p14_eq {R : Type} (n : Nat) (a0 : Int) (a1 : List (List D)) (w5 : Int) (h9 : Int) (w99 : Bool) (h10 : List (List D)) (k : Exit → St → Option R) : vexec (ref19_Conflicts_C n) n ref19_Conflicts_c14 ⟨42, [(0, .d (D.int .i64 a0)), (1, .d (D.sl 5 a1)), (5, .arr 1005), (13, .d (D.int .i64 w5)), (14, .d (D.int .i64 h9)), (15, .d (D.bool w99))], [(1005, .arr 35 2 h10)]⟩ k = ref19_Conflicts_p14 n a0 a1 w5 h9 w99 h10 (fun w173 w174 w175 => k .normal ⟨42, [(0, .d (D.int .i64 a0)), (1, .d (D.sl 5 a1)), (5, .arr 1005), (6, .d (D.int .i64 h9)), (7, .d (D.int .i64 w173)), (13, .d (D.int .i64 w5)), (14, .d (D.int .i64 h9)), (21, .d (D.bool w174))], [(1005, .arr 35 2 w175)]⟩) := by
  rw [ref19_Conflicts_c14_eq]
  unfold ref19_Conflicts_p14
  exact (ref19_Conflicts_p13_eq n a0 a1 w5 h9 w99 h10 (blockK 1 k)).trans (ref19_Conflicts_p13_congr n a0 a1 w5 h9 w99 h10 (fun w173 w174 w175 => rfl))
theorem ref19_Conflicts_p15_eq {R : Type} (n : Nat) (a0 : Int) (a1 : List (List D)) (h9 : Int) (w176 : Int) (w5 : Int) (w177 : Bool) (w178 : List (List D)) (k : Exit → St → Option R) : vexec (ref19_Conflicts_C n) n ref19_Conflicts_c15 ⟨42, [(0, .d (D.int .i64 a0)), (1, .d (D.sl 5 a1)), (5, .arr 1005), (6, .d (D.int .i64 h9)), (7, .d (D.int .i64 w176)), (13, .d (D.int .i64 w5)), (14, .d (D.int .i64 h9)), (21, .d (D.bool w177))], [(1005, .arr 35 2 w178)]⟩ k = ref19_Conflicts_p15 n a0 a1 h9 w176 w5 w177 w178 (fun z179 => k .normal ⟨42, [(0, .d (D.int .i64 a0)), (1, .d (D.sl 5 a1)), (5, .arr 1005), (13, .d (D.int .i64 w5)), (14, .d (D.int .i64 z179))], [(1005, .arr 35 2 w178)]⟩) := by kernel_rfl
theorem ref19_Conflicts_p16_eq {R : Type} (n : Nat) (a0 : Int) (a1 : List (List D)) (w5 : Int) (h9 : Int) (w99 : Bool) (h10 : List (List D)) (k : Exit → St → Option R) : vexec (ref19_Conflicts_C n) n ref19_Conflicts_c16 ⟨42, [(0, .d (D.int .i64 a0)), (1, .d (D.sl 5 a1)), (5, .arr 1005), (13, .d (D.int .i64 w5)), (14, .d (D.int .i64 h9)), (15, .d (D.bool w99))], [(1005, .arr 35 2 h10)]⟩ k = ref19_Conflicts_p16 n a0 a1 w5 h9 w99 h10 (fun w180 w178 => k .normal ⟨42, [(0, .d (D.int .i64 a0)), (1, .d (D.sl 5 a1)), (5, .arr 1005), (13, .d (D.int .i64 w5)), (14, .d (D.int .i64 w180))], [(1005, .arr 35 2 w178)]⟩) := by
  rw [ref19_Conflicts_c16_eq]
  unfold ref19_Conflicts_p16
  exact (ref19_Conflicts_p14_eq n a0 a1 w5 h9 w99 h10 (seqK (ref19_Conflicts_C n) n ref19_Conflicts_c15 k)).trans (ref19_Conflicts_p14_congr n a0 a1 w5 h9 w99 h10 (fun w176 w177 w178 => ref19_Conflicts_p15_eq n a0 a1 h9 w176 w5 w177 w178 k))
theorem ref19_Conflicts_p17_eq {R : Type} (n : Nat) (a0 : Int) (a1 : List (List D)) (w5 : Int) (h9 : Int) (w99 : Bool) (h10 : List (List D)) (k : Exit → St → Option R) : vexec (ref19_Conflicts_C n) n ref19_Conflicts_c17 ⟨42, [(0, .d (D.int .i64 a0)), (1, .d (D.sl 5 a1)), (5, .arr 1005), (13, .d (D.int .i64 w5)), (14, .d (D.int .i64 h9)), (15, .d (D.bool w99))], [(1005, .arr 35 2 h10)]⟩ k = ref19_Conflicts_p17 n a0 a1 w5 h9 w99 h10 (fun w181 w182 => k .normal ⟨42, [(0, .d (D.int .i64 a0)), (1, .d (D.sl 5 a1)), (5, .arr 1005), (13, .d (D.int .i64 w5)), (14, .d (D.int .i64 w181))], [(1005, .arr 35 2 w182)]⟩) (k (.exit 0) ⟨42, [(0, .d (D.int .i64 a0)), (1, .d (D.sl 5 a1)), (5, .arr 1005), (13, .d (D.int .i64 w5)), (14, .d (D.int .i64 h9)), (15, .d (D.bool w99))], [(1005, .arr 35 2 h10)]⟩) := by
  rw [ref19_Conflicts_c17_eq]
  unfold ref19_Conflicts_p17
  exact (ref19_Conflicts_p6_eq n a0 a1 w5 h9 w99 h10 (seqK (ref19_Conflicts_C n) n ref19_Conflicts_c16 k)).trans (ref19_Conflicts_p6_congr n a0 a1 w5 h9 w99 h10 (ref19_Conflicts_p16_eq n a0 a1 w5 h9 w99 h10 k) (rfl))
theorem ref19_Conflicts_p18_eq {R : Type} (n : Nat) (a0 : Int) (a1 : List (List D)) (w5 : Int) (h9 : Int) (h10 : List (List D)) (k : Exit → St → Option R) : vexec (ref19_Conflicts_C n) n ref19_Conflicts_c18 ⟨42, [(0, .d (D.int .i64 a0)), (1, .d (D.sl 5 a1)), (5, .arr 1005), (13, .d (D.int .i64 w5)), (14, .d (D.int .i64 h9))], [(1005, .arr 35 2 h10)]⟩ k = ref19_Conflicts_p18 n a0 a1 w5 h9 h10 (fun w183 w184 => k .normal ⟨42, [(0, .d (D.int .i64 a0)), (1, .d (D.sl 5 a1)), (5, .arr 1005), (13, .d (D.int .i64 w5)), (14, .d (D.int .i64 w183))], [(1005, .arr 35 2 w184)]⟩) (fun w99 => k (.exit 0) ⟨42, [(0, .d (D.int .i64 a0)), (1, .d (D.sl 5 a1)), (5, .arr 1005), (13, .d (D.int .i64 w5)), (14, .d (D.int .i64 h9)), (15, .d (D.bool w99))], [(1005, .arr 35 2 h10)]⟩) := by
  rw [ref19_Conflicts_c18_eq]
  unfold ref19_Conflicts_p18
  exact (ref19_Conflicts_p5_eq n a0 a1 w5 h9 h10 (seqK (ref19_Conflicts_C n) n ref19_Conflicts_c17 k)).trans (ref19_Conflicts_p5_congr n a0 a1 w5 h9 h10 (fun w99 => ref19_Conflicts_p17_eq n a0 a1 w5 h9 w99 h10 k))
theorem ref19_Conflicts_r19_eq {R : Type} (n : Nat) (a0 : Int) (a1 : List (List D)) (w5 : Int) (k : Exit → St → Option R) : ∀ (m : Nat) (h9 : Int) (h10 : List (List D)), loopN (vexec (ref19_Conflicts_C n) n ref19_Conflicts_c18) m ⟨42, [(0, .d (D.int .i64 a0)), (1, .d (D.sl 5 a1)), (5, .arr 1005), (13, .d (D.int .i64 w5)), (14, .d (D.int .i64 h9))], [(1005, .arr 35 2 h10)]⟩ k = ref19_Conflicts_r19 n a0 a1 w5 (fun h9 w187 h10 => k (.exit 0) ⟨42, [(0, .d (D.int .i64 a0)), (1, .d (D.sl 5 a1)), (5, .arr 1005), (13, .d (D.int .i64 w5)), (14, .d (D.int .i64 h9)), (15, .d (D.bool w187))], [(1005, .arr 35 2 h10)]⟩) m h9 h10
  | 0, _, _ => rfl
  | m + 1, h9, h10 => (ref19_Conflicts_p18_eq n a0 a1 w5 h9 h10 (loopK (vexec (ref19_Conflicts_C n) n ref19_Conflicts_c18) m k)).trans (ref19_Conflicts_p18_congr n a0 a1 w5 h9 h10 (fun w185 w186 => ref19_Conflicts_r19_eq n a0 a1 w5 k m w185 w186) (fun w187 => rfl))
theorem ref19_Conflicts_p19_eq {R : Type} (n : Nat) (a0 : Int) (a1 : List (List D)) (w5 : Int) (k : Exit → St → Option R) : vexec (ref19_Conflicts_C n) n ref19_Conflicts_c19 ⟨42, [(0, .d (D.int .i64 a0)), (1, .d (D.sl 5 a1)), (5, .arr 1005), (13, .d (D.int .i64 w5)), (14, .d (D.int .i64 (0 : Int)))], [(1005, .arr 35 2 [])]⟩ k = ref19_Conflicts_p19 n a0 a1 w5 (fun h9 w187 h10 => k (.exit 0) ⟨42, [(0, .d (D.int .i64 a0)), (1, .d (D.sl 5 a1)), (5, .arr 1005), (13, .d (D.int .i64 w5)), (14, .d (D.int .i64 h9)), (15, .d (D.bool w187))], [(1005, .arr 35 2 h10)]⟩) := by
  rw [ref19_Conflicts_c19_eq]
  exact ref19_Conflicts_r19_eq n a0 a1 w5 k n (0 : Int) []
theorem ref19_Conflicts_p20_eq {R : Type} (n : Nat) (a0 : Int) (a1 : List (List D)) (w5 : Int) (k : Exit → St → Option R) : vexec (ref19_Conflicts_C n) n ref19_Conflicts_c20 ⟨42, [(0, .d (D.int .i64 a0)), (1, .d (D.sl 5 a1)), (5, .arr 1005), (13, .d (D.int .i64 w5)), (14, .d (D.int .i64 (0 : Int)))], [(1005, .arr 35 2 [])]⟩ k = ref19_Conflicts_p20 n a0 a1 w5 (fun w188 w189 w190 => k .normal ⟨42, [(0, .d (D.int .i64 a0)), (1, .d (D.sl 5 a1)), (5, .arr 1005), (13, .d (D.int .i64 w5)), (14, .d (D.int .i64 w188)), (15, .d (D.bool w189))], [(1005, .arr 35 2 w190)]⟩) := by
  rw [ref19_Conflicts_c20_eq]
  unfold ref19_Conflicts_p20
  exact (ref19_Conflicts_p19_eq n a0 a1 w5 (blockK 0 k)).trans (ref19_Conflicts_p19_congr n a0 a1 w5 (fun w188 w189 w190 => rfl))
theorem ref19_Conflicts_p21_eq {R : Type} (n : Nat) (a0 : Int) (a1 : List (List D)) (k : Exit → St → Option R) : vexec (ref19_Conflicts_C n) n ref19_Conflicts_c21 ⟨42, [(0, .d (D.int .i64 a0)), (1, .d (D.sl 5 a1)), (5, .nil)], []⟩ k = ref19_Conflicts_p21 n a0 a1 (fun w5 w191 w192 w193 => k .normal ⟨42, [(0, .d (D.int .i64 a0)), (1, .d (D.sl 5 a1)), (5, .arr 1005), (13, .d (D.int .i64 w5)), (14, .d (D.int .i64 w191)), (15, .d (D.bool w192))], [(1005, .arr 35 2 w193)]⟩) := by
  rw [ref19_Conflicts_c21_eq]
  unfold ref19_Conflicts_p21
  exact (ref19_Conflicts_p4_eq n a0 a1 (seqK (ref19_Conflicts_C n) n ref19_Conflicts_c20 k)).trans (ref19_Conflicts_p4_congr n a0 a1 (fun w5 => ref19_Conflicts_p20_eq n a0 a1 w5 k))
theorem ref19_Conflicts_p22_eq {R : Type} (n : Nat) (a0 : Int) (a1 : List (List D)) (w194 : Int) (w195 : Int) (w196 : Bool) (w197 : List (List D)) (k : Exit → St → Option R) : vexec (ref19_Conflicts_C n) n ref19_Conflicts_c22 ⟨42, [(0, .d (D.int .i64 a0)), (1, .d (D.sl 5 a1)), (5, .arr 1005), (13, .d (D.int .i64 w194)), (14, .d (D.int .i64 w195)), (15, .d (D.bool w196))], [(1005, .arr 35 2 w197)]⟩ k = ref19_Conflicts_p22 n a0 a1 w194 w195 w196 w197 (k .ret ⟨42, [(4, .arr 1005)], [(1005, .arr 35 2 w197)]⟩) := by kernel_rfl
theorem ref19_Conflicts_p23_eq {R : Type} (n : Nat) (a0 : Int) (a1 : List (List D)) (k : Exit → St → Option R) : vexec (ref19_Conflicts_C n) n ref19_Conflicts_c23 ⟨42, [(0, .d (D.int .i64 a0)), (1, .d (D.sl 5 a1)), (5, .nil)], []⟩ k = ref19_Conflicts_p23 n a0 a1 (fun w197 => k .ret ⟨42, [(4, .arr 1005)], [(1005, .arr 35 2 w197)]⟩) := by
  rw [ref19_Conflicts_c23_eq]
  unfold ref19_Conflicts_p23
  exact (ref19_Conflicts_p21_eq n a0 a1 (seqK (ref19_Conflicts_C n) n ref19_Conflicts_c22 k)).trans (ref19_Conflicts_p21_congr n a0 a1 (fun w194 w195 w196 w197 => ref19_Conflicts_p22_eq n a0 a1 w194 w195 w196 w197 k))
theorem ref19_Conflicts_p24_eq {R : Type} (n : Nat) (a0 : Int) (a1 : List (List D)) (w3 : Bool) (k : Exit → St → Option R) : vexec (ref19_Conflicts_C n) n ref19_Conflicts_c24 ⟨42, [(0, .d (D.int .i64 a0)), (1, .d (D.sl 5 a1)), (11, .d (D.bool w3))], []⟩ k = ref19_Conflicts_p24 n a0 a1 w3 (fun w198 => k .ret ⟨42, [(4, .arr 1005)], [(1005, .arr 35 2 w198)]⟩) := by
  rw [ref19_Conflicts_c24_eq]
  unfold ref19_Conflicts_p24
  exact (ref19_Conflicts_p3_eq n a0 a1 w3 (seqK (ref19_Conflicts_C n) n ref19_Conflicts_c23 k)).trans (ref19_Conflicts_p3_congr n a0 a1 w3 (ref19_Conflicts_p23_eq n a0 a1 k))
theorem ref19_Conflicts_p25_eq {R : Type} (n : Nat) (a0 : Int) (a1 : List (List D)) (k : Exit → St → Option R) : vexec (ref19_Conflicts_C n) n ref19_Conflicts_c25 ⟨42, [(0, .d (D.int .i64 a0)), (1, .d (D.sl 5 a1))], []⟩ k = ref19_Conflicts_p25 n a0 a1 (k .ret ⟨42, [(4, .nil)], []⟩) (fun w199 => k .ret ⟨42, [(4, .arr 1005)], [(1005, .arr 35 2 w199)]⟩) := by
  rw [ref19_Conflicts_c25_eq]
  unfold ref19_Conflicts_p25
  exact (ref19_Conflicts_p2_eq n a0 a1 (seqK (ref19_Conflicts_C n) n ref19_Conflicts_c24 k)).trans (ref19_Conflicts_p2_congr n a0 a1 (rfl) (fun w3 => ref19_Conflicts_p24_eq n a0 a1 w3 k))
theorem ref19_Conflicts_p26_eq {R : Type} (n : Nat) (a0 : Int) (a1 : List (List D)) (k : Exit → St → Option R) : vexec (ref19_Conflicts_C n) n ref19_Conflicts_c0 ⟨42, [(0, .d (D.int .i64 a0)), (1, .d (D.sl 5 a1))], []⟩ k = ref19_Conflicts_p26 n a0 a1 (k .ret ⟨42, [(4, .nil)], []⟩) (fun w200 => k .ret ⟨42, [(4, .arr 1005)], [(1005, .arr 35 2 w200)]⟩) := by
  rw [ref19_Conflicts_c0_eq]
  unfold ref19_Conflicts_p26
  exact (ref19_Conflicts_p1_eq n a0 a1 (seqK (ref19_Conflicts_C n) n ref19_Conflicts_c25 k)).trans (ref19_Conflicts_p1_congr n a0 a1 (ref19_Conflicts_p25_eq n a0 a1 k))
theorem ref19_Conflicts_vfn {R : Type} (n : Nat) (a0 : Int) (a1 : List (List D)) (K : AV → Option R) : vfn (ref19_Conflicts_C n) n Try.f27 [.d (D.int .i64 a0), .d (D.sl 5 a1)] [] (retF [[2]] K) = ref19_Conflicts n a0 a1 (fun r0 => K (.d (D.sl 2 r0))) :=
  (show vfn (ref19_Conflicts_C n) n Try.f27 [.d (D.int .i64 a0), .d (D.sl 5 a1)] [] (retF [[2]] K) = vexec (ref19_Conflicts_C n) n ref19_Conflicts_c0 ⟨42, [(0, .d (D.int .i64 a0)), (1, .d (D.sl 5 a1))], []⟩ (retX ref19_Conflicts_tt [.tmp 4] (retF [[2]] K)) from vfn_at (by kernel_rfl) (by kernel_rfl) rfl (by kernel_rfl) rfl (by kernel_rfl) rfl).trans ((ref19_Conflicts_p26_eq n a0 a1 (retX ref19_Conflicts_tt [.tmp 4] (retF [[2]] K))).trans (by kernel_rfl))
def ref19_Conflicts_K : AV → Option (List (List D)) := fun av => match av with
  | .d (D.sl 2 r0) => some r0
  | _ => none
def ref19_Conflicts_e (n : Nat) : Entry := fun _ _ g avs _ k => match avs with
  | [c0, c1] => prI g .i64 c0 fun a0 => prS g 5 c1 fun a1 => 
    gb g (ref19_Conflicts n a0 a1 some) [] fun r => k ⟨.d (D.sl 2 r), [], []⟩
  | _ => none
theorem ref19_Conflicts_ok (n : Nat) : EntryOK Try.prog 27 (ref19_Conflicts_e n) := by
  intro R site g avs hl k r h
  unfold ref19_Conflicts_e at h
  split at h
  rotate_left
  · cases h
  replace h := prI_some h
  obtain ⟨a0, h, le0⟩ := h
  replace h := prS_some h
  obtain ⟨a1, h, le1⟩ := h
  replace h := gb_some h
  obtain ⟨res, h, hr⟩ := h
  refine ⟨_, h, fun hg => CallOK.conv (avs' := [.d (D.int .i64 a0), .d (D.sl 5 a1)]) (.cons (le0 hg) (.cons (le1 hg) (.nil))) (callOK_fix (K := ref19_Conflicts_K) (res := res) (ref19_Conflicts_VC n) (fn := Try.f27) (n := n) (by kernel_rfl) (by kernel_rfl) (by kernel_rfl) (ss := [[2]]) rfl ?_ ?_)⟩
  · exact (ref19_Conflicts_vfn n a0 a1 ref19_Conflicts_K).trans (hr hg)
  · intro x hx
    unfold ref19_Conflicts_K at hx
    split at hx
    · injection hx with hx; subst hx; rfl
    · cases hx
end Go.Vx
/-
  keep_Same_2_int: the interpreter computes the pure function
-/
set_option linter.unusedVariables false
set_option linter.unusedSimpArgs false
set_option maxRecDepth 100000
namespace Go.Vx
open Go.Proofs
noncomputable def keep_Same_2_int_c0 : Code := bodyOf Try.f13
noncomputable def keep_Same_2_int_c1 : Code := cL (bodyOf Try.f13)
noncomputable def keep_Same_2_int_c2 : Code := cL (cR (bodyOf Try.f13))
noncomputable def keep_Same_2_int_c3 : Code := cL (cL (cR (cR (bodyOf Try.f13))))
noncomputable def keep_Same_2_int_c4 : Code := cB (cB (cR (cL (cR (cR (bodyOf Try.f13))))))
noncomputable def keep_Same_2_int_c5 : Code := cB (cR (cL (cR (cR (bodyOf Try.f13)))))
noncomputable def keep_Same_2_int_c6 : Code := cR (cL (cR (cR (bodyOf Try.f13))))
noncomputable def keep_Same_2_int_c7 : Code := cL (cR (cR (bodyOf Try.f13)))
noncomputable def keep_Same_2_int_c8 : Code := cR (cR (cR (bodyOf Try.f13)))
noncomputable def keep_Same_2_int_c9 : Code := cR (cR (bodyOf Try.f13))
noncomputable def keep_Same_2_int_c10 : Code := cR (bodyOf Try.f13)
theorem keep_Same_2_int_c5_eq : keep_Same_2_int_c5 = .loop keep_Same_2_int_c4 := by kernel_rfl
theorem keep_Same_2_int_c6_eq : keep_Same_2_int_c6 = .block 0 keep_Same_2_int_c5 := by kernel_rfl
theorem keep_Same_2_int_c7_eq : keep_Same_2_int_c7 = .seq keep_Same_2_int_c3 keep_Same_2_int_c6 := by kernel_rfl
theorem keep_Same_2_int_c9_eq : keep_Same_2_int_c9 = .seq keep_Same_2_int_c7 keep_Same_2_int_c8 := by kernel_rfl
theorem keep_Same_2_int_c10_eq : keep_Same_2_int_c10 = .seq keep_Same_2_int_c2 keep_Same_2_int_c9 := by kernel_rfl
theorem keep_Same_2_int_c0_eq : keep_Same_2_int_c0 = .seq keep_Same_2_int_c1 keep_Same_2_int_c10 := by kernel_rfl
def keep_Same_2_int_tt : TT := [(3, ⟨.int .i64, 1, 8, [.int .i64 0], [.int .i64 0], [], none⟩), (32, ⟨.sl 35 2, 1, 24, [.slice none 0 0], [.sl 2 []], [], none⟩), (35, ⟨.array 3 1 2, 2, 16, [.int .i64 0, .int .i64 0], [.int .i64 0, .int .i64 0], [(0, 3), (1, 3)], some [.int .i64, .int .i64]⟩)]
theorem keep_Same_2_int_tt_eq : mkTT Try.prog [3, 32, 35] = keep_Same_2_int_tt := by kernel_rfl
def keep_Same_2_int_cfg : List (Nat × Cfg) := [(0, ⟨[0, 1], [], [], [], []⟩), (1, ⟨[0, 1, 10], [], [], [], []⟩), (2, ⟨[4], [], [], [], []⟩), (3, ⟨[0, 1, 12, 13], [], [], [], []⟩), (4, ⟨[0, 1, 12, 13, 14], [], [], [], []⟩), (5, ⟨[0, 1, 5, 12, 13], [], [], [], []⟩), (6, ⟨[0, 1, 12, 13, 24], [], [], [], []⟩), (7, ⟨[4], [], [], [], []⟩), (8, ⟨[0, 1, 12, 13], [], [], [], []⟩), (9, ⟨[4], [], [], [], []⟩)]
def keep_Same_2_int_C (n : Nat) : VC := ⟨specOf [], keep_Same_2_int_tt, keep_Same_2_int_cfg⟩
theorem keep_Same_2_int_ents (n : Nat) : EntsOK Try.prog [] := trivial
theorem keep_Same_2_int_VC (n : Nat) : VCOk Try.prog (keep_Same_2_int_C n) := ⟨specOf_ok (keep_Same_2_int_ents n), (keep_Same_2_int_tt_eq ▸ mkTT_ok _ : TOk Try.prog keep_Same_2_int_tt), by kernel_rfl⟩
theorem keep_Same_2_int_p1_congr {R : Type} (n : Nat) (a0 : List (List D)) (a1 : List (List D)) {k0 kk0 : Option R} (hq0 : k0 = kk0) : keep_Same_2_int_p1 n a0 a1 k0 = keep_Same_2_int_p1 n a0 a1 kk0 := by
  obtain rfl : k0 = kk0 := hq0
  rfl
theorem keep_Same_2_int_p2_congr {R : Type} (n : Nat) (a0 : List (List D)) (a1 : List (List D)) {k0 kk0 : Option R} {k1 kk1 : Bool → Option R} (hq0 : k0 = kk0) (hq1 : ∀ x0, k1 x0 = kk1 x0) : keep_Same_2_int_p2 n a0 a1 k0 k1 = keep_Same_2_int_p2 n a0 a1 kk0 kk1 := by
  obtain rfl : k0 = kk0 := hq0
  obtain rfl : k1 = kk1 := funext fun x0 => hq1 x0
  rfl
theorem keep_Same_2_int_p3_congr {R : Type} (n : Nat) (a0 : List (List D)) (a1 : List (List D)) (w2 : Bool) {k0 kk0 : Int → Option R} (hq0 : ∀ x0, k0 x0 = kk0 x0) : keep_Same_2_int_p3 n a0 a1 w2 k0 = keep_Same_2_int_p3 n a0 a1 w2 kk0 := by
  obtain rfl : k0 = kk0 := funext fun x0 => hq0 x0
  rfl
theorem keep_Same_2_int_p4_congr {R : Type} (n : Nat) (a0 : List (List D)) (a1 : List (List D)) (w4 : Int) (h8 : Int) {k0 kk0 : Option R} {k1 kk1 : Int → Option R} {k2 kk2 : Bool → Option R} (hq0 : k0 = kk0) (hq1 : ∀ x0, k1 x0 = kk1 x0) (hq2 : ∀ x0, k2 x0 = kk2 x0) : keep_Same_2_int_p4 n a0 a1 w4 h8 k0 k1 k2 = keep_Same_2_int_p4 n a0 a1 w4 h8 kk0 kk1 kk2 := by
  obtain rfl : k0 = kk0 := hq0
  obtain rfl : k1 = kk1 := funext fun x0 => hq1 x0
  obtain rfl : k2 = kk2 := funext fun x0 => hq2 x0
  rfl
theorem keep_Same_2_int_p5_congr {R : Type} (n : Nat) (a0 : List (List D)) (a1 : List (List D)) (w4 : Int) {k0 kk0 : Option R} {k1 kk1 : Int → Bool → Option R} (hq0 : k0 = kk0) (hq1 : ∀ x0 x1, k1 x0 x1 = kk1 x0 x1) : keep_Same_2_int_p5 n a0 a1 w4 k0 k1 = keep_Same_2_int_p5 n a0 a1 w4 kk0 kk1 := by
  obtain rfl : k0 = kk0 := hq0
  obtain rfl : k1 = kk1 := funext fun x0 => funext fun x1 => hq1 x0 x1
  rfl
theorem keep_Same_2_int_p6_congr {R : Type} (n : Nat) (a0 : List (List D)) (a1 : List (List D)) (w4 : Int) {k0 kk0 : Option R} {k1 kk1 : Int → Bool → Option R} (hq0 : k0 = kk0) (hq1 : ∀ x0 x1, k1 x0 x1 = kk1 x0 x1) : keep_Same_2_int_p6 n a0 a1 w4 k0 k1 = keep_Same_2_int_p6 n a0 a1 w4 kk0 kk1 := by
  obtain rfl : k0 = kk0 := hq0
  obtain rfl : k1 = kk1 := funext fun x0 => funext fun x1 => hq1 x0 x1
  rfl
theorem keep_Same_2_int_p7_congr {R : Type} (n : Nat) (a0 : List (List D)) (a1 : List (List D)) (w2 : Bool) {k0 kk0 : Option R} {k1 kk1 : Int → Int → Bool → Option R} (hq0 : k0 = kk0) (hq1 : ∀ x0 x1 x2, k1 x0 x1 x2 = kk1 x0 x1 x2) : keep_Same_2_int_p7 n a0 a1 w2 k0 k1 = keep_Same_2_int_p7 n a0 a1 w2 kk0 kk1 := by
  obtain rfl : k0 = kk0 := hq0
  obtain rfl : k1 = kk1 := funext fun x0 => funext fun x1 => funext fun x2 => hq1 x0 x1 x2
  rfl
theorem keep_Same_2_int_p8_congr {R : Type} (n : Nat) (a0 : List (List D)) (a1 : List (List D)) (w39 : Int) (w40 : Int) (w41 : Bool) {k0 kk0 : Option R} (hq0 : k0 = kk0) : keep_Same_2_int_p8 n a0 a1 w39 w40 w41 k0 = keep_Same_2_int_p8 n a0 a1 w39 w40 w41 kk0 := by
  obtain rfl : k0 = kk0 := hq0
  rfl
theorem keep_Same_2_int_p9_congr {R : Type} (n : Nat) (a0 : List (List D)) (a1 : List (List D)) (w2 : Bool) {k0 kk0 : Bool → Option R} (hq0 : ∀ x0, k0 x0 = kk0 x0) : keep_Same_2_int_p9 n a0 a1 w2 k0 = keep_Same_2_int_p9 n a0 a1 w2 kk0 := by
  obtain rfl : k0 = kk0 := funext fun x0 => hq0 x0
  rfl
theorem keep_Same_2_int_p10_congr {R : Type} (n : Nat) (a0 : List (List D)) (a1 : List (List D)) {k0 kk0 : Bool → Option R} (hq0 : ∀ x0, k0 x0 = kk0 x0) : keep_Same_2_int_p10 n a0 a1 k0 = keep_Same_2_int_p10 n a0 a1 kk0 := by
  obtain rfl : k0 = kk0 := funext fun x0 => hq0 x0
  rfl
theorem keep_Same_2_int_p11_congr {R : Type} (n : Nat) (a0 : List (List D)) (a1 : List (List D)) {k0 kk0 : Bool → Option R} (hq0 : ∀ x0, k0 x0 = kk0 x0) : keep_Same_2_int_p11 n a0 a1 k0 = keep_Same_2_int_p11 n a0 a1 kk0 := by
  obtain rfl : k0 = kk0 := funext fun x0 => hq0 x0
  rfl
theorem keep_Same_2_int_p1_eq {R : Type} (n : Nat) (a0 : List (List D)) (a1 : List (List D)) (k : Exit → St → Option R) : vexec (keep_Same_2_int_C n) n keep_Same_2_int_c1 ⟨26, [(0, .d (D.sl 2 a0)), (1, .d (D.sl 2 a1))], []⟩ k = keep_Same_2_int_p1 n a0 a1 (k .normal ⟨26, [(0, .d (D.sl 2 a0)), (1, .d (D.sl 2 a1))], []⟩) := by kernel_rfl
theorem keep_Same_2_int_p2_eq {R : Type} (n : Nat) (a0 : List (List D)) (a1 : List (List D)) (k : Exit → St → Option R) : vexec (keep_Same_2_int_C n) n keep_Same_2_int_c2 ⟨26, [(0, .d (D.sl 2 a0)), (1, .d (D.sl 2 a1))], []⟩ k = keep_Same_2_int_p2 n a0 a1 (k .ret ⟨26, [(4, .d (D.bool false))], []⟩) (fun z1 => k .normal ⟨26, [(0, .d (D.sl 2 a0)), (1, .d (D.sl 2 a1)), (10, .d (D.bool z1))], []⟩) := by kernel_rfl
theorem keep_Same_2_int_p3_eq {R : Type} (n : Nat) (a0 : List (List D)) (a1 : List (List D)) (w2 : Bool) (k : Exit → St → Option R) : vexec (keep_Same_2_int_C n) n keep_Same_2_int_c3 ⟨26, [(0, .d (D.sl 2 a0)), (1, .d (D.sl 2 a1)), (10, .d (D.bool w2))], []⟩ k = keep_Same_2_int_p3 n a0 a1 w2 (fun z3 => k .normal ⟨26, [(0, .d (D.sl 2 a0)), (1, .d (D.sl 2 a1)), (12, .d (D.int .i64 z3)), (13, .d (D.int .i64 (0 : Int)))], []⟩) := by kernel_rfl
theorem keep_Same_2_int_p4_eq {R : Type} (n : Nat) (a0 : List (List D)) (a1 : List (List D)) (w4 : Int) (h8 : Int) (k : Exit → St → Option R) : vexec (keep_Same_2_int_C n) n keep_Same_2_int_c4 ⟨26, [(0, .d (D.sl 2 a0)), (1, .d (D.sl 2 a1)), (12, .d (D.int .i64 w4)), (13, .d (D.int .i64 h8))], []⟩ k = keep_Same_2_int_p4 n a0 a1 w4 h8 (k .ret ⟨26, [(4, .d (D.bool false))], []⟩) (fun z31 => k .normal ⟨26, [(0, .d (D.sl 2 a0)), (1, .d (D.sl 2 a1)), (12, .d (D.int .i64 w4)), (13, .d (D.int .i64 z31))], []⟩) (fun z32 => k (.exit 0) ⟨26, [(0, .d (D.sl 2 a0)), (1, .d (D.sl 2 a1)), (12, .d (D.int .i64 w4)), (13, .d (D.int .i64 h8)), (14, .d (D.bool z32))], []⟩) := by kernel_rfl
theorem keep_Same_2_int_r5_eq {R : Type} (n : Nat) (a0 : List (List D)) (a1 : List (List D)) (w4 : Int) (k : Exit → St → Option R) : ∀ (m : Nat) (h8 : Int), loopN (vexec (keep_Same_2_int_C n) n keep_Same_2_int_c4) m ⟨26, [(0, .d (D.sl 2 a0)), (1, .d (D.sl 2 a1)), (12, .d (D.int .i64 w4)), (13, .d (D.int .i64 h8))], []⟩ k = keep_Same_2_int_r5 n a0 a1 w4 (k .ret ⟨26, [(4, .d (D.bool false))], []⟩) (fun h8 w34 => k (.exit 0) ⟨26, [(0, .d (D.sl 2 a0)), (1, .d (D.sl 2 a1)), (12, .d (D.int .i64 w4)), (13, .d (D.int .i64 h8)), (14, .d (D.bool w34))], []⟩) m h8
  | 0, _ => rfl
  | m + 1, h8 => (keep_Same_2_int_p4_eq n a0 a1 w4 h8 (loopK (vexec (keep_Same_2_int_C n) n keep_Same_2_int_c4) m k)).trans (keep_Same_2_int_p4_congr n a0 a1 w4 h8 (rfl) (fun w33 => keep_Same_2_int_r5_eq n a0 a1 w4 k m w33) (fun w34 => rfl))
theorem keep_Same_2_int_p5_eq {R : Type} (n : Nat) (a0 : List (List D)) (a1 : List (List D)) (w4 : Int) (k : Exit → St → Option R) : vexec (keep_Same_2_int_C n) n keep_Same_2_int_c5 ⟨26, [(0, .d (D.sl 2 a0)), (1, .d (D.sl 2 a1)), (12, .d (D.int .i64 w4)), (13, .d (D.int .i64 (0 : Int)))], []⟩ k = keep_Same_2_int_p5 n a0 a1 w4 (k .ret ⟨26, [(4, .d (D.bool false))], []⟩) (fun h8 w34 => k (.exit 0) ⟨26, [(0, .d (D.sl 2 a0)), (1, .d (D.sl 2 a1)), (12, .d (D.int .i64 w4)), (13, .d (D.int .i64 h8)), (14, .d (D.bool w34))], []⟩) := by
  rw [keep_Same_2_int_c5_eq]
  exact keep_Same_2_int_r5_eq n a0 a1 w4 k n (0 : Int)
theorem keep_Same_2_int_p6_eq {R : Type} (n : Nat) (a0 : List (List D)) (a1 : List (List D)) (w4 : Int) (k : Exit → St → Option R) : vexec (keep_Same_2_int_C n) n keep_Same_2_int_c6 ⟨26, [(0, .d (D.sl 2 a0)), (1, .d (D.sl 2 a1)), (12, .d (D.int .i64 w4)), (13, .d (D.int .i64 (0 : Int)))], []⟩ k = keep_Same_2_int_p6 n a0 a1 w4 (k .ret ⟨26, [(4, .d (D.bool false))], []⟩) (fun w35 w36 => k .normal ⟨26, [(0, .d (D.sl 2 a0)), (1, .d (D.sl 2 a1)), (12, .d (D.int .i64 w4)), (13, .d (D.int .i64 w35)), (14, .d (D.bool w36))], []⟩) := by
  rw [keep_Same_2_int_c6_eq]
  unfold keep_Same_2_int_p6
  exact (keep_Same_2_int_p5_eq n a0 a1 w4 (blockK 0 k)).trans (keep_Same_2_int_p5_congr n a0 a1 w4 (rfl) (fun w35 w36 => rfl))
theorem keep_Same_2_int_p7_eq {R : Type} (n : Nat) (a0 : List (List D)) (a1 : List (List D)) (w2 : Bool) (k : Exit → St → Option R) : vexec (keep_Same_2_int_C n) n keep_Same_2_int_c7 ⟨26, [(0, .d (D.sl 2 a0)), (1, .d (D.sl 2 a1)), (10, .d (D.bool w2))], []⟩ k = keep_Same_2_int_p7 n a0 a1 w2 (k .ret ⟨26, [(4, .d (D.bool false))], []⟩) (fun w4 w37 w38 => k .normal ⟨26, [(0, .d (D.sl 2 a0)), (1, .d (D.sl 2 a1)), (12, .d (D.int .i64 w4)), (13, .d (D.int .i64 w37)), (14, .d (D.bool w38))], []⟩) := by
  rw [keep_Same_2_int_c7_eq]
  unfold keep_Same_2_int_p7
  exact (keep_Same_2_int_p3_eq n a0 a1 w2 (seqK (keep_Same_2_int_C n) n keep_Same_2_int_c6 k)).trans (keep_Same_2_int_p3_congr n a0 a1 w2 (fun w4 => keep_Same_2_int_p6_eq n a0 a1 w4 k))
theorem keep_Same_2_int_p8_eq {R : Type} (n : Nat) (a0 : List (List D)) (a1 : List (List D)) (w39 : Int) (w40 : Int) (w41 : Bool) (k : Exit → St → Option R) : vexec (keep_Same_2_int_C n) n keep_Same_2_int_c8 ⟨26, [(0, .d (D.sl 2 a0)), (1, .d (D.sl 2 a1)), (12, .d (D.int .i64 w39)), (13, .d (D.int .i64 w40)), (14, .d (D.bool w41))], []⟩ k = keep_Same_2_int_p8 n a0 a1 w39 w40 w41 (k .ret ⟨26, [(4, .d (D.bool true))], []⟩) := by kernel_rfl
theorem keep_Same_2_int_p9_eq {R : Type} (n : Nat) (a0 : List (List D)) (a1 : List (List D)) (w2 : Bool) (k : Exit → St → Option R) : vexec (keep_Same_2_int_C n) n keep_Same_2_int_c9 ⟨26, [(0, .d (D.sl 2 a0)), (1, .d (D.sl 2 a1)), (10, .d (D.bool w2))], []⟩ k = keep_Same_2_int_p9 n a0 a1 w2 (fun z42 => k .ret ⟨26, [(4, .d (D.bool z42))], []⟩) := by
  rw [keep_Same_2_int_c9_eq]
  unfold keep_Same_2_int_p9
  exact (keep_Same_2_int_p7_eq n a0 a1 w2 (seqK (keep_Same_2_int_C n) n keep_Same_2_int_c8 k)).trans (keep_Same_2_int_p7_congr n a0 a1 w2 (rfl) (fun w39 w40 w41 => keep_Same_2_int_p8_eq n a0 a1 w39 w40 w41 k))
theorem keep_Same_2_int_p10_eq {R : Type} (n : Nat) (a0 : List (List D)) (a1 : List (List D)) (k : Exit → St → Option R) : vexec (keep_Same_2_int_C n) n keep_Same_2_int_c10 ⟨26, [(0, .d (D.sl 2 a0)), (1, .d (D.sl 2 a1))], []⟩ k = keep_Same_2_int_p10 n a0 a1 (fun z44 => k .ret ⟨26, [(4, .d (D.bool z44))], []⟩) := by
  rw [keep_Same_2_int_c10_eq]
  unfold keep_Same_2_int_p10
  exact (keep_Same_2_int_p2_eq n a0 a1 (seqK (keep_Same_2_int_C n) n keep_Same_2_int_c9 k)).trans (keep_Same_2_int_p2_congr n a0 a1 (rfl) (fun w2 => keep_Same_2_int_p9_eq n a0 a1 w2 k))
theorem keep_Same_2_int_p11_eq {R : Type} (n : Nat) (a0 : List (List D)) (a1 : List (List D)) (k : Exit → St → Option R) : vexec (keep_Same_2_int_C n) n keep_Same_2_int_c0 ⟨26, [(0, .d (D.sl 2 a0)), (1, .d (D.sl 2 a1))], []⟩ k = keep_Same_2_int_p11 n a0 a1 (fun w45 => k .ret ⟨26, [(4, .d (D.bool w45))], []⟩) := by
  rw [keep_Same_2_int_c0_eq]
  unfold keep_Same_2_int_p11
  exact (keep_Same_2_int_p1_eq n a0 a1 (seqK (keep_Same_2_int_C n) n keep_Same_2_int_c10 k)).trans (keep_Same_2_int_p1_congr n a0 a1 (keep_Same_2_int_p10_eq n a0 a1 k))
theorem keep_Same_2_int_vfn {R : Type} (n : Nat) (a0 : List (List D)) (a1 : List (List D)) (K : AV → Option R) : vfn (keep_Same_2_int_C n) n Try.f13 [.d (D.sl 2 a0), .d (D.sl 2 a1)] [] (retF [[0]] K) = keep_Same_2_int n a0 a1 (fun r0 => K (.d (D.bool r0))) :=
  (show vfn (keep_Same_2_int_C n) n Try.f13 [.d (D.sl 2 a0), .d (D.sl 2 a1)] [] (retF [[0]] K) = vexec (keep_Same_2_int_C n) n keep_Same_2_int_c0 ⟨26, [(0, .d (D.sl 2 a0)), (1, .d (D.sl 2 a1))], []⟩ (retX keep_Same_2_int_tt [.tmp 4] (retF [[0]] K)) from vfn_at (by kernel_rfl) (by kernel_rfl) rfl (by kernel_rfl) rfl (by kernel_rfl) rfl).trans ((keep_Same_2_int_p11_eq n a0 a1 (retX keep_Same_2_int_tt [.tmp 4] (retF [[0]] K))).trans (by kernel_rfl))
def keep_Same_2_int_K : AV → Option (Bool) := fun av => match av with
  | .d (D.bool r0) => some r0
  | _ => none
def keep_Same_2_int_e (n : Nat) : Entry := fun _ _ g avs _ k => match avs with
  | [c0, c1] => prS g 2 c0 fun a0 => prS g 2 c1 fun a1 => 
    gb g (keep_Same_2_int n a0 a1 some) false fun r => k ⟨.d (D.bool r), [], []⟩
  | _ => none
theorem keep_Same_2_int_ok (n : Nat) : EntryOK Try.prog 13 (keep_Same_2_int_e n) := by
  intro R site g avs hl k r h
  unfold keep_Same_2_int_e at h
  split at h
  rotate_left
  · cases h
  replace h := prS_some h
  obtain ⟨a0, h, le0⟩ := h
  replace h := prS_some h
  obtain ⟨a1, h, le1⟩ := h
  replace h := gb_some h
  obtain ⟨res, h, hr⟩ := h
  refine ⟨_, h, fun hg => CallOK.conv (avs' := [.d (D.sl 2 a0), .d (D.sl 2 a1)]) (.cons (le0 hg) (.cons (le1 hg) (.nil))) (callOK_fix (K := keep_Same_2_int_K) (res := res) (keep_Same_2_int_VC n) (fn := Try.f13) (n := n) (by kernel_rfl) (by kernel_rfl) (by kernel_rfl) (ss := [[0]]) rfl ?_ ?_)⟩
  · exact (keep_Same_2_int_vfn n a0 a1 keep_Same_2_int_K).trans (hr hg)
  · intro x hx
    unfold keep_Same_2_int_K at hx
    split at hx
    · injection hx with hx; subst hx; rfl
    · cases hx
end Go.Vx
/-
  ref19_Free: the interpreter computes the pure function
-/
set_option linter.unusedVariables false
set_option linter.unusedSimpArgs false
set_option maxRecDepth 100000
namespace Go.Vx
open Go.Proofs
noncomputable def ref19_Free_c0 : Code := bodyOf Try.f28
def ref19_Free_tt : TT := [(3, ⟨.int .i64, 1, 8, [.int .i64 0], [.int .i64 0], [], none⟩), (32, ⟨.sl 35 2, 1, 24, [.slice none 0 0], [.sl 2 []], [], none⟩)]
theorem ref19_Free_tt_eq : mkTT Try.prog [3, 32] = ref19_Free_tt := by kernel_rfl
def ref19_Free_cfg : List (Nat × Cfg) := [(0, ⟨[0, 1], [], [], [], []⟩), (1, ⟨[4], [], [], [], []⟩)]
def ref19_Free_C (n : Nat) : VC := ⟨specOf [(26, ref19_Valid_e n), (27, ref19_Conflicts_e n)], ref19_Free_tt, ref19_Free_cfg⟩
theorem ref19_Free_ents (n : Nat) : EntsOK Try.prog [(26, ref19_Valid_e n), (27, ref19_Conflicts_e n)] := ⟨ref19_Valid_ok n, ⟨ref19_Conflicts_ok n, trivial⟩⟩
theorem ref19_Free_VC (n : Nat) : VCOk Try.prog (ref19_Free_C n) := ⟨specOf_ok (ref19_Free_ents n), (ref19_Free_tt_eq ▸ mkTT_ok _ : TOk Try.prog ref19_Free_tt), by kernel_rfl⟩
theorem ref19_Free_p1_congr {R : Type} (n : Nat) (a0 : Int) (a1 : List (List D)) {k0 kk0 : Bool → Option R} (hq0 : ∀ x0, k0 x0 = kk0 x0) : ref19_Free_p1 n a0 a1 k0 = ref19_Free_p1 n a0 a1 kk0 := by
  obtain rfl : k0 = kk0 := funext fun x0 => hq0 x0
  rfl
theorem ref19_Free_p1_eq {R : Type} (n : Nat) (a0 : Int) (a1 : List (List D)) (k : Exit → St → Option R) : vexec (ref19_Free_C n) n ref19_Free_c0 ⟨15, [(0, .d (D.int .i64 a0)), (1, .d (D.sl 5 a1))], []⟩ k = ref19_Free_p1 n a0 a1 (fun z3 => k .ret ⟨15, [(4, .d (D.bool z3))], []⟩) := by kernel_rfl
theorem ref19_Free_vfn {R : Type} (n : Nat) (a0 : Int) (a1 : List (List D)) (K : AV → Option R) : vfn (ref19_Free_C n) n Try.f28 [.d (D.int .i64 a0), .d (D.sl 5 a1)] [] (retF [[0]] K) = ref19_Free n a0 a1 (fun r0 => K (.d (D.bool r0))) :=
  (show vfn (ref19_Free_C n) n Try.f28 [.d (D.int .i64 a0), .d (D.sl 5 a1)] [] (retF [[0]] K) = vexec (ref19_Free_C n) n ref19_Free_c0 ⟨15, [(0, .d (D.int .i64 a0)), (1, .d (D.sl 5 a1))], []⟩ (retX ref19_Free_tt [.tmp 4] (retF [[0]] K)) from vfn_at (by kernel_rfl) (by kernel_rfl) rfl (by kernel_rfl) rfl (by kernel_rfl) rfl).trans ((ref19_Free_p1_eq n a0 a1 (retX ref19_Free_tt [.tmp 4] (retF [[0]] K))).trans (by kernel_rfl))
def ref19_Free_K : AV → Option (Bool) := fun av => match av with
  | .d (D.bool r0) => some r0
  | _ => none
def ref19_Free_e (n : Nat) : Entry := fun _ _ g avs _ k => match avs with
  | [c0, c1] => prI g .i64 c0 fun a0 => prS g 5 c1 fun a1 => 
    gb g (ref19_Free n a0 a1 some) false fun r => k ⟨.d (D.bool r), [], []⟩
  | _ => none
theorem ref19_Free_ok (n : Nat) : EntryOK Try.prog 28 (ref19_Free_e n) := by
  intro R site g avs hl k r h
  unfold ref19_Free_e at h
  split at h
  rotate_left
  · cases h
  replace h := prI_some h
  obtain ⟨a0, h, le0⟩ := h
  replace h := prS_some h
  obtain ⟨a1, h, le1⟩ := h
  replace h := gb_some h
  obtain ⟨res, h, hr⟩ := h
  refine ⟨_, h, fun hg => CallOK.conv (avs' := [.d (D.int .i64 a0), .d (D.sl 5 a1)]) (.cons (le0 hg) (.cons (le1 hg) (.nil))) (callOK_fix (K := ref19_Free_K) (res := res) (ref19_Free_VC n) (fn := Try.f28) (n := n) (by kernel_rfl) (by kernel_rfl) (by kernel_rfl) (ss := [[0]]) rfl ?_ ?_)⟩
  · exact (ref19_Free_vfn n a0 a1 ref19_Free_K).trans (hr hg)
  · intro x hx
    unfold ref19_Free_K at hx
    split at hx
    · injection hx with hx; subst hx; rfl
    · cases hx
end Go.Vx
/-
  ref1_Mod: the interpreter computes the pure function
-/
set_option linter.unusedVariables false
set_option linter.unusedSimpArgs false
set_option maxRecDepth 100000
namespace Go.Vx
open Go.Proofs
noncomputable def ref1_Mod_c0 : Code := bodyOf Try.f16
def ref1_Mod_tt : TT := [(3, ⟨.int .i64, 1, 8, [.int .i64 0], [.int .i64 0], [], none⟩)]
theorem ref1_Mod_tt_eq : mkTT Try.prog [3] = ref1_Mod_tt := by kernel_rfl
def ref1_Mod_cfg : List (Nat × Cfg) := [(0, ⟨[0, 1], [], [], [], []⟩), (1, ⟨[0, 1, 7], [], [], [], []⟩), (2, ⟨[4], [], [], [], []⟩), (3, ⟨[1, 5], [], [], [], []⟩), (4, ⟨[1, 5, 12], [], [], [], []⟩), (5, ⟨[5], [], [], [], []⟩), (6, ⟨[4], [], [], [], []⟩)]
def ref1_Mod_C (n : Nat) : VC := ⟨specOf [], ref1_Mod_tt, ref1_Mod_cfg⟩
theorem ref1_Mod_ents (n : Nat) : EntsOK Try.prog [] := trivial
theorem ref1_Mod_VC (n : Nat) : VCOk Try.prog (ref1_Mod_C n) := ⟨specOf_ok (ref1_Mod_ents n), (ref1_Mod_tt_eq ▸ mkTT_ok _ : TOk Try.prog ref1_Mod_tt), by kernel_rfl⟩
theorem ref1_Mod_p1_congr {R : Type} (n : Nat) (a0 : Int) (a1 : Int) {k0 kk0 : Int → Option R} (hq0 : ∀ x0, k0 x0 = kk0 x0) : ref1_Mod_p1 n a0 a1 k0 = ref1_Mod_p1 n a0 a1 kk0 := by
  obtain rfl : k0 = kk0 := funext fun x0 => hq0 x0
  rfl
theorem ref1_Mod_p1_eq {R : Type} (n : Nat) (a0 : Int) (a1 : Int) (k : Exit → St → Option R) : vexec (ref1_Mod_C n) n ref1_Mod_c0 ⟨17, [(0, .d (D.int .i64 a0)), (1, .d (D.int .i64 a1))], []⟩ k = ref1_Mod_p1 n a0 a1 (fun z2 => k .ret ⟨17, [(4, .d (D.int .i64 z2))], []⟩) := by kernel_rfl
theorem ref1_Mod_vfn {R : Type} (n : Nat) (a0 : Int) (a1 : Int) (K : AV → Option R) : vfn (ref1_Mod_C n) n Try.f16 [.d (D.int .i64 a0), .d (D.int .i64 a1)] [] (retF [[0]] K) = ref1_Mod n a0 a1 (fun r0 => K (.d (D.int .i64 r0))) :=
  (show vfn (ref1_Mod_C n) n Try.f16 [.d (D.int .i64 a0), .d (D.int .i64 a1)] [] (retF [[0]] K) = vexec (ref1_Mod_C n) n ref1_Mod_c0 ⟨17, [(0, .d (D.int .i64 a0)), (1, .d (D.int .i64 a1))], []⟩ (retX ref1_Mod_tt [.tmp 4] (retF [[0]] K)) from vfn_at (by kernel_rfl) (by kernel_rfl) rfl (by kernel_rfl) rfl (by kernel_rfl) rfl).trans ((ref1_Mod_p1_eq n a0 a1 (retX ref1_Mod_tt [.tmp 4] (retF [[0]] K))).trans (by kernel_rfl))
def ref1_Mod_K : AV → Option (Int) := fun av => match av with
  | .d (D.int .i64 r0) => some r0
  | _ => none
def ref1_Mod_e (n : Nat) : Entry := fun _ _ g avs _ k => match avs with
  | [c0, c1] => prI g .i64 c0 fun a0 => prI g .i64 c1 fun a1 => 
    gb g (ref1_Mod n a0 a1 some) 0 fun r => k ⟨.d (D.int .i64 r), [], []⟩
  | _ => none
theorem ref1_Mod_ok (n : Nat) : EntryOK Try.prog 16 (ref1_Mod_e n) := by
  intro R site g avs hl k r h
  unfold ref1_Mod_e at h
  split at h
  rotate_left
  · cases h
  replace h := prI_some h
  obtain ⟨a0, h, le0⟩ := h
  replace h := prI_some h
  obtain ⟨a1, h, le1⟩ := h
  replace h := gb_some h
  obtain ⟨res, h, hr⟩ := h
  refine ⟨_, h, fun hg => CallOK.conv (avs' := [.d (D.int .i64 a0), .d (D.int .i64 a1)]) (.cons (le0 hg) (.cons (le1 hg) (.nil))) (callOK_fix (K := ref1_Mod_K) (res := res) (ref1_Mod_VC n) (fn := Try.f16) (n := n) (by kernel_rfl) (by kernel_rfl) (by kernel_rfl) (ss := [[0]]) rfl ?_ ?_)⟩
  · exact (ref1_Mod_vfn n a0 a1 ref1_Mod_K).trans (hr hg)
  · intro x hx
    unfold ref1_Mod_K at hx
    split at hx
    · injection hx with hx; subst hx; rfl
    · cases hx
end Go.Vx
/-
  ref19_member: the interpreter computes the pure function
-/
set_option linter.unusedVariables false
set_option linter.unusedSimpArgs false
set_option maxRecDepth 100000
namespace Go.Vx
open Go.Proofs
noncomputable def ref19_member_c0 : Code := bodyOf Try.f35
noncomputable def ref19_member_c1 : Code := cL (bodyOf Try.f35)
noncomputable def ref19_member_c2 : Code := cL (cL (cR (bodyOf Try.f35)))
noncomputable def ref19_member_c3 : Code := cB (cB (cR (cL (cR (bodyOf Try.f35)))))
noncomputable def ref19_member_c4 : Code := cB (cR (cL (cR (bodyOf Try.f35))))
noncomputable def ref19_member_c5 : Code := cR (cL (cR (bodyOf Try.f35)))
noncomputable def ref19_member_c6 : Code := cL (cR (bodyOf Try.f35))
noncomputable def ref19_member_c7 : Code := cR (cR (bodyOf Try.f35))
noncomputable def ref19_member_c8 : Code := cR (bodyOf Try.f35)
theorem ref19_member_c4_eq : ref19_member_c4 = .loop ref19_member_c3 := by kernel_rfl
theorem ref19_member_c5_eq : ref19_member_c5 = .block 0 ref19_member_c4 := by kernel_rfl
theorem ref19_member_c6_eq : ref19_member_c6 = .seq ref19_member_c2 ref19_member_c5 := by kernel_rfl
theorem ref19_member_c8_eq : ref19_member_c8 = .seq ref19_member_c6 ref19_member_c7 := by kernel_rfl
theorem ref19_member_c0_eq : ref19_member_c0 = .seq ref19_member_c1 ref19_member_c8 := by kernel_rfl
def ref19_member_tt : TT := [(3, ⟨.int .i64, 1, 8, [.int .i64 0], [.int .i64 0], [], none⟩), (22, ⟨.sl 3 1, 1, 24, [.slice none 0 0], [.sl 1 []], [], none⟩)]
theorem ref19_member_tt_eq : mkTT Try.prog [3, 22] = ref19_member_tt := by kernel_rfl
def ref19_member_cfg : List (Nat × Cfg) := [(0, ⟨[0, 1], [], [], [], []⟩), (1, ⟨[0, 1, 7, 8], [], [], [], []⟩), (2, ⟨[0, 1, 7, 8, 9], [], [], [], []⟩), (3, ⟨[0, 1, 5, 7, 8], [], [], [], []⟩), (4, ⟨[0, 1, 7, 8, 16], [], [], [], []⟩), (5, ⟨[4], [], [], [], []⟩), (6, ⟨[0, 1, 7, 8], [], [], [], []⟩), (7, ⟨[4], [], [], [], []⟩)]
def ref19_member_C (n : Nat) : VC := ⟨specOf [], ref19_member_tt, ref19_member_cfg⟩
theorem ref19_member_ents (n : Nat) : EntsOK Try.prog [] := trivial
theorem ref19_member_VC (n : Nat) : VCOk Try.prog (ref19_member_C n) := ⟨specOf_ok (ref19_member_ents n), (ref19_member_tt_eq ▸ mkTT_ok _ : TOk Try.prog ref19_member_tt), by kernel_rfl⟩
theorem ref19_member_p1_congr {R : Type} (n : Nat) (a0 : List (List D)) (a1 : Int) {k0 kk0 : Option R} (hq0 : k0 = kk0) : ref19_member_p1 n a0 a1 k0 = ref19_member_p1 n a0 a1 kk0 := by
  obtain rfl : k0 = kk0 := hq0
  rfl
theorem ref19_member_p2_congr {R : Type} (n : Nat) (a0 : List (List D)) (a1 : Int) {k0 kk0 : Int → Option R} (hq0 : ∀ x0, k0 x0 = kk0 x0) : ref19_member_p2 n a0 a1 k0 = ref19_member_p2 n a0 a1 kk0 := by
  obtain rfl : k0 = kk0 := funext fun x0 => hq0 x0
  rfl
theorem ref19_member_p3_congr {R : Type} (n : Nat) (a0 : List (List D)) (a1 : Int) (w2 : Int) (h6 : Int) {k0 kk0 : Option R} {k1 kk1 : Int → Option R} {k2 kk2 : Bool → Option R} (hq0 : k0 = kk0) (hq1 : ∀ x0, k1 x0 = kk1 x0) (hq2 : ∀ x0, k2 x0 = kk2 x0) : ref19_member_p3 n a0 a1 w2 h6 k0 k1 k2 = ref19_member_p3 n a0 a1 w2 h6 kk0 kk1 kk2 := by
  obtain rfl : k0 = kk0 := hq0
  obtain rfl : k1 = kk1 := funext fun x0 => hq1 x0
  obtain rfl : k2 = kk2 := funext fun x0 => hq2 x0
  rfl
theorem ref19_member_p4_congr {R : Type} (n : Nat) (a0 : List (List D)) (a1 : Int) (w2 : Int) {k0 kk0 : Option R} {k1 kk1 : Int → Bool → Option R} (hq0 : k0 = kk0) (hq1 : ∀ x0 x1, k1 x0 x1 = kk1 x0 x1) : ref19_member_p4 n a0 a1 w2 k0 k1 = ref19_member_p4 n a0 a1 w2 kk0 kk1 := by
  obtain rfl : k0 = kk0 := hq0
  obtain rfl : k1 = kk1 := funext fun x0 => funext fun x1 => hq1 x0 x1
  rfl
theorem ref19_member_p5_congr {R : Type} (n : Nat) (a0 : List (List D)) (a1 : Int) (w2 : Int) {k0 kk0 : Option R} {k1 kk1 : Int → Bool → Option R} (hq0 : k0 = kk0) (hq1 : ∀ x0 x1, k1 x0 x1 = kk1 x0 x1) : ref19_member_p5 n a0 a1 w2 k0 k1 = ref19_member_p5 n a0 a1 w2 kk0 kk1 := by
  obtain rfl : k0 = kk0 := hq0
  obtain rfl : k1 = kk1 := funext fun x0 => funext fun x1 => hq1 x0 x1
  rfl
theorem ref19_member_p6_congr {R : Type} (n : Nat) (a0 : List (List D)) (a1 : Int) {k0 kk0 : Option R} {k1 kk1 : Int → Int → Bool → Option R} (hq0 : k0 = kk0) (hq1 : ∀ x0 x1 x2, k1 x0 x1 x2 = kk1 x0 x1 x2) : ref19_member_p6 n a0 a1 k0 k1 = ref19_member_p6 n a0 a1 kk0 kk1 := by
  obtain rfl : k0 = kk0 := hq0
  obtain rfl : k1 = kk1 := funext fun x0 => funext fun x1 => funext fun x2 => hq1 x0 x1 x2
  rfl
theorem ref19_member_p7_congr {R : Type} (n : Nat) (a0 : List (List D)) (a1 : Int) (w23 : Int) (w24 : Int) (w25 : Bool) {k0 kk0 : Option R} (hq0 : k0 = kk0) : ref19_member_p7 n a0 a1 w23 w24 w25 k0 = ref19_member_p7 n a0 a1 w23 w24 w25 kk0 := by
  obtain rfl : k0 = kk0 := hq0
  rfl
theorem ref19_member_p8_congr {R : Type} (n : Nat) (a0 : List (List D)) (a1 : Int) {k0 kk0 : Bool → Option R} (hq0 : ∀ x0, k0 x0 = kk0 x0) : ref19_member_p8 n a0 a1 k0 = ref19_member_p8 n a0 a1 kk0 := by
  obtain rfl : k0 = kk0 := funext fun x0 => hq0 x0
  rfl
theorem ref19_member_p9_congr {R : Type} (n : Nat) (a0 : List (List D)) (a1 : Int) {k0 kk0 : Bool → Option R} (hq0 : ∀ x0, k0 x0 = kk0 x0) : ref19_member_p9 n a0 a1 k0 = ref19_member_p9 n a0 a1 kk0 := by
  obtain rfl : k0 = kk0 := funext fun x0 => hq0 x0
  rfl
theorem ref19_member_p1_eq {R : Type} (n : Nat) (a0 : List (List D)) (a1 : Int) (k : Exit → St → Option R) : vexec (ref19_member_C n) n ref19_member_c1 ⟨18, [(0, .d (D.sl 1 a0)), (1, .d (D.int .i64 a1))], []⟩ k = ref19_member_p1 n a0 a1 (k .normal ⟨18, [(0, .d (D.sl 1 a0)), (1, .d (D.int .i64 a1))], []⟩) := by kernel_rfl
theorem ref19_member_p2_eq {R : Type} (n : Nat) (a0 : List (List D)) (a1 : Int) (k : Exit → St → Option R) : vexec (ref19_member_C n) n ref19_member_c2 ⟨18, [(0, .d (D.sl 1 a0)), (1, .d (D.int .i64 a1))], []⟩ k = ref19_member_p2 n a0 a1 (fun z1 => k .normal ⟨18, [(0, .d (D.sl 1 a0)), (1, .d (D.int .i64 a1)), (7, .d (D.int .i64 z1)), (8, .d (D.int .i64 (0 : Int)))], []⟩) := by kernel_rfl
theorem ref19_member_p3_eq {R : Type} (n : Nat) (a0 : List (List D)) (a1 : Int) (w2 : Int) (h6 : Int) (k : Exit → St → Option R) : vexec (ref19_member_C n) n ref19_member_c3 ⟨18, [(0, .d (D.sl 1 a0)), (1, .d (D.int .i64 a1)), (7, .d (D.int .i64 w2)), (8, .d (D.int .i64 h6))], []⟩ k = ref19_member_p3 n a0 a1 w2 h6 (k .ret ⟨18, [(4, .d (D.bool true))], []⟩) (fun z15 => k .normal ⟨18, [(0, .d (D.sl 1 a0)), (1, .d (D.int .i64 a1)), (7, .d (D.int .i64 w2)), (8, .d (D.int .i64 z15))], []⟩) (fun z16 => k (.exit 0) ⟨18, [(0, .d (D.sl 1 a0)), (1, .d (D.int .i64 a1)), (7, .d (D.int .i64 w2)), (8, .d (D.int .i64 h6)), (9, .d (D.bool z16))], []⟩) := by kernel_rfl
theorem ref19_member_r4_eq {R : Type} (n : Nat) (a0 : List (List D)) (a1 : Int) (w2 : Int) (k : Exit → St → Option R) : ∀ (m : Nat) (h6 : Int), loopN (vexec (ref19_member_C n) n ref19_member_c3) m ⟨18, [(0, .d (D.sl 1 a0)), (1, .d (D.int .i64 a1)), (7, .d (D.int .i64 w2)), (8, .d (D.int .i64 h6))], []⟩ k = ref19_member_r4 n a0 a1 w2 (k .ret ⟨18, [(4, .d (D.bool true))], []⟩) (fun h6 w18 => k (.exit 0) ⟨18, [(0, .d (D.sl 1 a0)), (1, .d (D.int .i64 a1)), (7, .d (D.int .i64 w2)), (8, .d (D.int .i64 h6)), (9, .d (D.bool w18))], []⟩) m h6
  | 0, _ => rfl
  | m + 1, h6 => (ref19_member_p3_eq n a0 a1 w2 h6 (loopK (vexec (ref19_member_C n) n ref19_member_c3) m k)).trans (ref19_member_p3_congr n a0 a1 w2 h6 (rfl) (fun w17 => ref19_member_r4_eq n a0 a1 w2 k m w17) (fun w18 => rfl))
theorem ref19_member_p4_eq {R : Type} (n : Nat) (a0 : List (List D)) (a1 : Int) (w2 : Int) (k : Exit → St → Option R) : vexec (ref19_member_C n) n ref19_member_c4 ⟨18, [(0, .d (D.sl 1 a0)), (1, .d (D.int .i64 a1)), (7, .d (D.int .i64 w2)), (8, .d (D.int .i64 (0 : Int)))], []⟩ k = ref19_member_p4 n a0 a1 w2 (k .ret ⟨18, [(4, .d (D.bool true))], []⟩) (fun h6 w18 => k (.exit 0) ⟨18, [(0, .d (D.sl 1 a0)), (1, .d (D.int .i64 a1)), (7, .d (D.int .i64 w2)), (8, .d (D.int .i64 h6)), (9, .d (D.bool w18))], []⟩) := by
  rw [ref19_member_c4_eq]
  exact ref19_member_r4_eq n a0 a1 w2 k n (0 : Int)
theorem ref19_member_p5_eq {R : Type} (n : Nat) (a0 : List (List D)) (a1 : Int) (w2 : Int) (k : Exit → St → Option R) : vexec (ref19_member_C n) n ref19_member_c5 ⟨18, [(0, .d (D.sl 1 a0)), (1, .d (D.int .i64 a1)), (7, .d (D.int .i64 w2)), (8, .d (D.int .i64 (0 : Int)))], []⟩ k = ref19_member_p5 n a0 a1 w2 (k .ret ⟨18, [(4, .d (D.bool true))], []⟩) (fun w19 w20 => k .normal ⟨18, [(0, .d (D.sl 1 a0)), (1, .d (D.int .i64 a1)), (7, .d (D.int .i64 w2)), (8, .d (D.int .i64 w19)), (9, .d (D.bool w20))], []⟩) := by
  rw [ref19_member_c5_eq]
  unfold ref19_member_p5
  exact (ref19_member_p4_eq n a0 a1 w2 (blockK 0 k)).trans (ref19_member_p4_congr n a0 a1 w2 (rfl) (fun w19 w20 => rfl))
theorem ref19_member_p6_eq {R : Type} (n : Nat) (a0 : List (List D)) (a1 : Int) (k : Exit → St → Option R) : vexec (ref19_member_C n) n ref19_member_c6 ⟨18, [(0, .d (D.sl 1 a0)), (1, .d (D.int .i64 a1))], []⟩ k = ref19_member_p6 n a0 a1 (k .ret ⟨18, [(4, .d (D.bool true))], []⟩) (fun w2 w21 w22 => k .normal ⟨18, [(0, .d (D.sl 1 a0)), (1, .d (D.int .i64 a1)), (7, .d (D.int .i64 w2)), (8, .d (D.int .i64 w21)), (9, .d (D.bool w22))], []⟩) := by
  rw [ref19_member_c6_eq]
  unfold ref19_member_p6
  exact (ref19_member_p2_eq n a0 a1 (seqK (ref19_member_C n) n ref19_member_c5 k)).trans (ref19_member_p2_congr n a0 a1 (fun w2 => ref19_member_p5_eq n a0 a1 w2 k))
theorem ref19_member_p7_eq {R : Type} (n : Nat) (a0 : List (List D)) (a1 : Int) (w23 : Int) (w24 : Int) (w25 : Bool) (k : Exit → St → Option R) : vexec (ref19_member_C n) n ref19_member_c7 ⟨18, [(0, .d (D.sl 1 a0)), (1, .d (D.int .i64 a1)), (7, .d (D.int .i64 w23)), (8, .d (D.int .i64 w24)), (9, .d (D.bool w25))], []⟩ k = ref19_member_p7 n a0 a1 w23 w24 w25 (k .ret ⟨18, [(4, .d (D.bool false))], []⟩) := by kernel_rfl
theorem ref19_member_p8_eq {R : Type} (n : Nat) (a0 : List (List D)) (a1 : Int) (k : Exit → St → Option R) : vexec (ref19_member_C n) n ref19_member_c8 ⟨18, [(0, .d (D.sl 1 a0)), (1, .d (D.int .i64 a1))], []⟩ k = ref19_member_p8 n a0 a1 (fun z26 => k .ret ⟨18, [(4, .d (D.bool z26))], []⟩) := by
  rw [ref19_member_c8_eq]
  unfold ref19_member_p8
  exact (ref19_member_p6_eq n a0 a1 (seqK (ref19_member_C n) n ref19_member_c7 k)).trans (ref19_member_p6_congr n a0 a1 (rfl) (fun w23 w24 w25 => ref19_member_p7_eq n a0 a1 w23 w24 w25 k))
theorem ref19_member_p9_eq {R : Type} (n : Nat) (a0 : List (List D)) (a1 : Int) (k : Exit → St → Option R) : vexec (ref19_member_C n) n ref19_member_c0 ⟨18, [(0, .d (D.sl 1 a0)), (1, .d (D.int .i64 a1))], []⟩ k = ref19_member_p9 n a0 a1 (fun w27 => k .ret ⟨18, [(4, .d (D.bool w27))], []⟩) := by
  rw [ref19_member_c0_eq]
  unfold ref19_member_p9
  exact (ref19_member_p1_eq n a0 a1 (seqK (ref19_member_C n) n ref19_member_c8 k)).trans (ref19_member_p1_congr n a0 a1 (ref19_member_p8_eq n a0 a1 k))
theorem ref19_member_vfn {R : Type} (n : Nat) (a0 : List (List D)) (a1 : Int) (K : AV → Option R) : vfn (ref19_member_C n) n Try.f35 [.d (D.sl 1 a0), .d (D.int .i64 a1)] [] (retF [[0]] K) = ref19_member n a0 a1 (fun r0 => K (.d (D.bool r0))) :=
  (show vfn (ref19_member_C n) n Try.f35 [.d (D.sl 1 a0), .d (D.int .i64 a1)] [] (retF [[0]] K) = vexec (ref19_member_C n) n ref19_member_c0 ⟨18, [(0, .d (D.sl 1 a0)), (1, .d (D.int .i64 a1))], []⟩ (retX ref19_member_tt [.tmp 4] (retF [[0]] K)) from vfn_at (by kernel_rfl) (by kernel_rfl) rfl (by kernel_rfl) rfl (by kernel_rfl) rfl).trans ((ref19_member_p9_eq n a0 a1 (retX ref19_member_tt [.tmp 4] (retF [[0]] K))).trans (by kernel_rfl))
def ref19_member_K : AV → Option (Bool) := fun av => match av with
  | .d (D.bool r0) => some r0
  | _ => none
def ref19_member_e (n : Nat) : Entry := fun _ _ g avs _ k => match avs with
  | [c0, c1] => prS g 1 c0 fun a0 => prI g .i64 c1 fun a1 => 
    gb g (ref19_member n a0 a1 some) false fun r => k ⟨.d (D.bool r), [], []⟩
  | _ => none
theorem ref19_member_ok (n : Nat) : EntryOK Try.prog 35 (ref19_member_e n) := by
  intro R site g avs hl k r h
  unfold ref19_member_e at h
  split at h
  rotate_left
  · cases h
  replace h := prS_some h
  obtain ⟨a0, h, le0⟩ := h
  replace h := prI_some h
  obtain ⟨a1, h, le1⟩ := h
  replace h := gb_some h
  obtain ⟨res, h, hr⟩ := h
  refine ⟨_, h, fun hg => CallOK.conv (avs' := [.d (D.sl 1 a0), .d (D.int .i64 a1)]) (.cons (le0 hg) (.cons (le1 hg) (.nil))) (callOK_fix (K := ref19_member_K) (res := res) (ref19_member_VC n) (fn := Try.f35) (n := n) (by kernel_rfl) (by kernel_rfl) (by kernel_rfl) (ss := [[0]]) rfl ?_ ?_)⟩
  · exact (ref19_member_vfn n a0 a1 ref19_member_K).trans (hr hg)
  · intro x hx
    unfold ref19_member_K at hx
    split at hx
    · injection hx with hx; subst hx; rfl
    · cases hx
end Go.Vx
