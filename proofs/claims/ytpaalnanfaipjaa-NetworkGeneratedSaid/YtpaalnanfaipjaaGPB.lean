/- Part of a proof: texts Vpref11 Cost Vpnetwork Duration Vpref11 Duration Vpnetwork Feasible Vpref11 Feasible Vpslices Index railplan api Event railplan api Event Vpnetwork Index Vpref11 Index Vplaw11 agre. No conditions of their own. -/
import Derived.Test.YtpaalnanfaipjaaProg
import Derived.Test.YtpaalnanfaipjaaGVB
import Derived.Test.YtpaalnanfaipjaaGFA
import Derived.Test.YtpaalnanfaipjaaGPA
/-
  ref11_Cost: the interpreter computes the pure function
-/
set_option linter.unusedVariables false
set_option linter.unusedSimpArgs false
set_option maxRecDepth 100000
namespace Go.Vx
open Go.Proofs
noncomputable def ref11_Cost_c0 : Code := bodyOf Try.f31
noncomputable def ref11_Cost_c1 : Code := cL (bodyOf Try.f31)
noncomputable def ref11_Cost_c2 : Code := cL (cR (bodyOf Try.f31))
noncomputable def ref11_Cost_c3 : Code := cL (cR (cR (bodyOf Try.f31)))
noncomputable def ref11_Cost_c4 : Code := cL (cL (cR (cR (cR (bodyOf Try.f31)))))
noncomputable def ref11_Cost_c5 : Code := cB (cB (cR (cL (cR (cR (cR (bodyOf Try.f31)))))))
noncomputable def ref11_Cost_c6 : Code := cB (cR (cL (cR (cR (cR (bodyOf Try.f31))))))
noncomputable def ref11_Cost_c7 : Code := cR (cL (cR (cR (cR (bodyOf Try.f31)))))
noncomputable def ref11_Cost_c8 : Code := cL (cR (cR (cR (bodyOf Try.f31))))
noncomputable def ref11_Cost_c9 : Code := cR (cR (cR (cR (bodyOf Try.f31))))
noncomputable def ref11_Cost_c10 : Code := cR (cR (cR (bodyOf Try.f31)))
noncomputable def ref11_Cost_c11 : Code := cR (cR (bodyOf Try.f31))
noncomputable def ref11_Cost_c12 : Code := cR (bodyOf Try.f31)
theorem ref11_Cost_c6_eq : ref11_Cost_c6 = .loop ref11_Cost_c5 := by kernel_rfl
theorem ref11_Cost_c7_eq : ref11_Cost_c7 = .block 0 ref11_Cost_c6 := by kernel_rfl
theorem ref11_Cost_c8_eq : ref11_Cost_c8 = .seq ref11_Cost_c4 ref11_Cost_c7 := by kernel_rfl
theorem ref11_Cost_c10_eq : ref11_Cost_c10 = .seq ref11_Cost_c8 ref11_Cost_c9 := by kernel_rfl
theorem ref11_Cost_c11_eq : ref11_Cost_c11 = .seq ref11_Cost_c3 ref11_Cost_c10 := by kernel_rfl
theorem ref11_Cost_c12_eq : ref11_Cost_c12 = .seq ref11_Cost_c2 ref11_Cost_c11 := by kernel_rfl
theorem ref11_Cost_c0_eq : ref11_Cost_c0 = .seq ref11_Cost_c1 ref11_Cost_c12 := by kernel_rfl
def ref11_Cost_tt : TT := [(3, ⟨.int .i64, 1, 8, [.int .i64 0], [.int .i64 0], [], none⟩), (24, ⟨.sl 31 6, 1, 24, [.slice none 0 0], [.sl 6 []], [], none⟩), (26, ⟨.struct, 3, 56, [.int .i64 0, .slice none 0 0, .slice none 0 0], [.int .i64 0, .sl 3 [], .sl 6 []], [(0, 3), (1, 23), (2, 24)], none⟩), (31, ⟨.struct, 6, 48, [.int .i64 0, .int .i64 0, .int .i64 0, .int .i64 0, .int .i64 0, .int .i64 0], [.int .i64 0, .int .i64 0, .int .i64 0, .int .i64 0, .int .i64 0, .int .i64 0], [(0, 3), (1, 3), (2, 3), (3, 3), (4, 3), (5, 3)], some [.int .i64, .int .i64, .int .i64, .int .i64, .int .i64, .int .i64]⟩)]
theorem ref11_Cost_tt_eq : mkTT Try.prog [3, 24, 26, 31] = ref11_Cost_tt := by kernel_rfl
def ref11_Cost_cfg : List (Nat × Cfg) := [(0, ⟨[1, 2], [(2, 2)], [], [], []⟩), (1, ⟨[1, 2, 11], [(2, 2)], [], [], []⟩), (2, ⟨[4, 5], [], [], [], []⟩), (3, ⟨[1, 2, 6], [(2, 2)], [], [], []⟩), (4, ⟨[1, 2, 6, 7], [(2, 2)], [], [], []⟩), (5, ⟨[1, 2, 6, 7, 16], [(2, 2)], [], [], []⟩), (6, ⟨[1, 2, 6, 7], [(2, 2)], [], [], []⟩), (7, ⟨[1, 2, 6, 7], [(2, 2)], [], [], []⟩), (8, ⟨[4, 5], [], [], [], []⟩)]
def ref11_Cost_C (n : Nat) : VC := ⟨specOf [(32, ref11_Good_e n), (37, ref11_Lasts_e n)], ref11_Cost_tt, ref11_Cost_cfg⟩
theorem ref11_Cost_ents (n : Nat) : EntsOK Try.prog [(32, ref11_Good_e n), (37, ref11_Lasts_e n)] := ⟨ref11_Good_ok n, ⟨ref11_Lasts_ok n, trivial⟩⟩
theorem ref11_Cost_VC (n : Nat) : VCOk Try.prog (ref11_Cost_C n) := ⟨specOf_ok (ref11_Cost_ents n), (ref11_Cost_tt_eq ▸ mkTT_ok _ : TOk Try.prog ref11_Cost_tt), by kernel_rfl⟩
theorem ref11_Cost_p1_congr {R : Type} (n : Nat) (a0_0 : Int) (a0_1 : List (List D)) (a0_2 : List (List D)) (a1 : List (List D)) {k0 kk0 : Option R} (hq0 : k0 = kk0) : ref11_Cost_p1 n a0_0 a0_1 a0_2 a1 k0 = ref11_Cost_p1 n a0_0 a0_1 a0_2 a1 kk0 := by
  obtain rfl : k0 = kk0 := hq0
  rfl
theorem ref11_Cost_p2_congr {R : Type} (n : Nat) (a1 : List (List D)) (a0_0 : Int) (a0_1 : List (List D)) (a0_2 : List (List D)) {k0 kk0 : Option R} {k1 kk1 : Bool → Option R} (hq0 : k0 = kk0) (hq1 : ∀ x0, k1 x0 = kk1 x0) : ref11_Cost_p2 n a1 a0_0 a0_1 a0_2 k0 k1 = ref11_Cost_p2 n a1 a0_0 a0_1 a0_2 kk0 kk1 := by
  obtain rfl : k0 = kk0 := hq0
  obtain rfl : k1 = kk1 := funext fun x0 => hq1 x0
  rfl
theorem ref11_Cost_p3_congr {R : Type} (n : Nat) (a1 : List (List D)) (w3 : Bool) (a0_0 : Int) (a0_1 : List (List D)) (a0_2 : List (List D)) {k0 kk0 : Option R} (hq0 : k0 = kk0) : ref11_Cost_p3 n a1 w3 a0_0 a0_1 a0_2 k0 = ref11_Cost_p3 n a1 w3 a0_0 a0_1 a0_2 kk0 := by
  obtain rfl : k0 = kk0 := hq0
  rfl
theorem ref11_Cost_p4_congr {R : Type} (n : Nat) (a1 : List (List D)) (a0_0 : Int) (a0_1 : List (List D)) (a0_2 : List (List D)) {k0 kk0 : Option R} (hq0 : k0 = kk0) : ref11_Cost_p4 n a1 a0_0 a0_1 a0_2 k0 = ref11_Cost_p4 n a1 a0_0 a0_1 a0_2 kk0 := by
  obtain rfl : k0 = kk0 := hq0
  rfl
theorem ref11_Cost_p5_congr {R : Type} (n : Nat) (a1 : List (List D)) (h5 : Int) (h6 : Int) (a0_0 : Int) (a0_1 : List (List D)) (a0_2 : List (List D)) {k0 kk0 : Int → Int → Option R} {k1 kk1 : Bool → Option R} (hq0 : ∀ x0 x1, k0 x0 x1 = kk0 x0 x1) (hq1 : ∀ x0, k1 x0 = kk1 x0) : ref11_Cost_p5 n a1 h5 h6 a0_0 a0_1 a0_2 k0 k1 = ref11_Cost_p5 n a1 h5 h6 a0_0 a0_1 a0_2 kk0 kk1 := by
  obtain rfl : k0 = kk0 := funext fun x0 => funext fun x1 => hq0 x0 x1
  obtain rfl : k1 = kk1 := funext fun x0 => hq1 x0
  rfl
theorem ref11_Cost_p6_congr {R : Type} (n : Nat) (a1 : List (List D)) (a0_0 : Int) (a0_1 : List (List D)) (a0_2 : List (List D)) {k0 kk0 : Int → Int → Bool → Option R} (hq0 : ∀ x0 x1 x2, k0 x0 x1 x2 = kk0 x0 x1 x2) : ref11_Cost_p6 n a1 a0_0 a0_1 a0_2 k0 = ref11_Cost_p6 n a1 a0_0 a0_1 a0_2 kk0 := by
  obtain rfl : k0 = kk0 := funext fun x0 => funext fun x1 => funext fun x2 => hq0 x0 x1 x2
  rfl
theorem ref11_Cost_p7_congr {R : Type} (n : Nat) (a1 : List (List D)) (a0_0 : Int) (a0_1 : List (List D)) (a0_2 : List (List D)) {k0 kk0 : Int → Int → Bool → Option R} (hq0 : ∀ x0 x1 x2, k0 x0 x1 x2 = kk0 x0 x1 x2) : ref11_Cost_p7 n a1 a0_0 a0_1 a0_2 k0 = ref11_Cost_p7 n a1 a0_0 a0_1 a0_2 kk0 := by
  obtain rfl : k0 = kk0 := funext fun x0 => funext fun x1 => funext fun x2 => hq0 x0 x1 x2
  rfl
theorem ref11_Cost_p8_congr {R : Type} (n : Nat) (a1 : List (List D)) (a0_0 : Int) (a0_1 : List (List D)) (a0_2 : List (List D)) {k0 kk0 : Int → Int → Bool → Option R} (hq0 : ∀ x0 x1 x2, k0 x0 x1 x2 = kk0 x0 x1 x2) : ref11_Cost_p8 n a1 a0_0 a0_1 a0_2 k0 = ref11_Cost_p8 n a1 a0_0 a0_1 a0_2 kk0 := by
  obtain rfl : k0 = kk0 := funext fun x0 => funext fun x1 => funext fun x2 => hq0 x0 x1 x2
  rfl
theorem ref11_Cost_p9_congr {R : Type} (n : Nat) (a1 : List (List D)) (w59 : Int) (w60 : Int) (w61 : Bool) (a0_0 : Int) (a0_1 : List (List D)) (a0_2 : List (List D)) {k0 kk0 : Option R} (hq0 : k0 = kk0) : ref11_Cost_p9 n a1 w59 w60 w61 a0_0 a0_1 a0_2 k0 = ref11_Cost_p9 n a1 w59 w60 w61 a0_0 a0_1 a0_2 kk0 := by
  obtain rfl : k0 = kk0 := hq0
  rfl
theorem ref11_Cost_p10_congr {R : Type} (n : Nat) (a1 : List (List D)) (a0_0 : Int) (a0_1 : List (List D)) (a0_2 : List (List D)) {k0 kk0 : Int → Option R} (hq0 : ∀ x0, k0 x0 = kk0 x0) : ref11_Cost_p10 n a1 a0_0 a0_1 a0_2 k0 = ref11_Cost_p10 n a1 a0_0 a0_1 a0_2 kk0 := by
  obtain rfl : k0 = kk0 := funext fun x0 => hq0 x0
  rfl
theorem ref11_Cost_p11_congr {R : Type} (n : Nat) (a1 : List (List D)) (w3 : Bool) (a0_0 : Int) (a0_1 : List (List D)) (a0_2 : List (List D)) {k0 kk0 : Int → Option R} (hq0 : ∀ x0, k0 x0 = kk0 x0) : ref11_Cost_p11 n a1 w3 a0_0 a0_1 a0_2 k0 = ref11_Cost_p11 n a1 w3 a0_0 a0_1 a0_2 kk0 := by
  obtain rfl : k0 = kk0 := funext fun x0 => hq0 x0
  rfl
theorem ref11_Cost_p12_congr {R : Type} (n : Nat) (a1 : List (List D)) (a0_0 : Int) (a0_1 : List (List D)) (a0_2 : List (List D)) {k0 kk0 : Int → Int → Option R} (hq0 : ∀ x0 x1, k0 x0 x1 = kk0 x0 x1) : ref11_Cost_p12 n a1 a0_0 a0_1 a0_2 k0 = ref11_Cost_p12 n a1 a0_0 a0_1 a0_2 kk0 := by
  obtain rfl : k0 = kk0 := funext fun x0 => funext fun x1 => hq0 x0 x1
  rfl
theorem ref11_Cost_p13_congr {R : Type} (n : Nat) (a0_0 : Int) (a0_1 : List (List D)) (a0_2 : List (List D)) (a1 : List (List D)) {k0 kk0 : Int → Int → Option R} (hq0 : ∀ x0 x1, k0 x0 x1 = kk0 x0 x1) : ref11_Cost_p13 n a0_0 a0_1 a0_2 a1 k0 = ref11_Cost_p13 n a0_0 a0_1 a0_2 a1 kk0 := by
  obtain rfl : k0 = kk0 := funext fun x0 => funext fun x1 => hq0 x0 x1
  rfl
theorem ref11_Cost_p1_eq {R : Type} (n : Nat) (a0_0 : Int) (a0_1 : List (List D)) (a0_2 : List (List D)) (a1 : List (List D)) (k : Exit → St → Option R) : vexec (ref11_Cost_C n) n ref11_Cost_c1 ⟨37, [(0, .ag [.d (D.int .i64 a0_0), .d (D.sl 3 a0_1), .d (D.sl 6 a0_2)]), (1, .d (D.sl 1 a1))], []⟩ k = ref11_Cost_p1 n a0_0 a0_1 a0_2 a1 (k .normal ⟨37, [(1, .d (D.sl 1 a1)), (2, .ptr 2 0)], [(2, .box [.d (D.int .i64 a0_0), .d (D.sl 3 a0_1), .d (D.sl 6 a0_2)])]⟩) := by kernel_rfl
theorem ref11_Cost_p2_eq {R : Type} (n : Nat) (a1 : List (List D)) (a0_0 : Int) (a0_1 : List (List D)) (a0_2 : List (List D)) (k : Exit → St → Option R) : vexec (ref11_Cost_C n) n ref11_Cost_c2 ⟨37, [(1, .d (D.sl 1 a1)), (2, .ptr 2 0)], [(2, .box [.d (D.int .i64 a0_0), .d (D.sl 3 a0_1), .d (D.sl 6 a0_2)])]⟩ k = ref11_Cost_p2 n a1 a0_0 a0_1 a0_2 (k .ret ⟨37, [(4, .d (D.int .i64 (0 : Int))), (5, .d (D.int .i64 (1 : Int)))], []⟩) (fun z2 => k .normal ⟨37, [(1, .d (D.sl 1 a1)), (2, .ptr 2 0), (11, .d (D.bool z2))], [(2, .box [.d (D.int .i64 a0_0), .d (D.sl 3 a0_1), .d (D.sl 6 a0_2)])]⟩) := by kernel_rfl
theorem ref11_Cost_p3_eq {R : Type} (n : Nat) (a1 : List (List D)) (w3 : Bool) (a0_0 : Int) (a0_1 : List (List D)) (a0_2 : List (List D)) (k : Exit → St → Option R) : vexec (ref11_Cost_C n) n ref11_Cost_c3 ⟨37, [(1, .d (D.sl 1 a1)), (2, .ptr 2 0), (11, .d (D.bool w3))], [(2, .box [.d (D.int .i64 a0_0), .d (D.sl 3 a0_1), .d (D.sl 6 a0_2)])]⟩ k = ref11_Cost_p3 n a1 w3 a0_0 a0_1 a0_2 (k .normal ⟨37, [(1, .d (D.sl 1 a1)), (2, .ptr 2 0), (6, .d (D.int .i64 (0 : Int)))], [(2, .box [.d (D.int .i64 a0_0), .d (D.sl 3 a0_1), .d (D.sl 6 a0_2)])]⟩) := by kernel_rfl
theorem ref11_Cost_p4_eq {R : Type} (n : Nat) (a1 : List (List D)) (a0_0 : Int) (a0_1 : List (List D)) (a0_2 : List (List D)) (k : Exit → St → Option R) : vexec (ref11_Cost_C n) n ref11_Cost_c4 ⟨37, [(1, .d (D.sl 1 a1)), (2, .ptr 2 0), (6, .d (D.int .i64 (0 : Int)))], [(2, .box [.d (D.int .i64 a0_0), .d (D.sl 3 a0_1), .d (D.sl 6 a0_2)])]⟩ k = ref11_Cost_p4 n a1 a0_0 a0_1 a0_2 (k .normal ⟨37, [(1, .d (D.sl 1 a1)), (2, .ptr 2 0), (6, .d (D.int .i64 (0 : Int))), (7, .d (D.int .i64 (0 : Int)))], [(2, .box [.d (D.int .i64 a0_0), .d (D.sl 3 a0_1), .d (D.sl 6 a0_2)])]⟩) := by kernel_rfl
theorem ref11_Cost_p5_eq {R : Type} (n : Nat) (a1 : List (List D)) (h5 : Int) (h6 : Int) (a0_0 : Int) (a0_1 : List (List D)) (a0_2 : List (List D)) (k : Exit → St → Option R) : vexec (ref11_Cost_C n) n ref11_Cost_c5 ⟨37, [(1, .d (D.sl 1 a1)), (2, .ptr 2 0), (6, .d (D.int .i64 h5)), (7, .d (D.int .i64 h6))], [(2, .box [.d (D.int .i64 a0_0), .d (D.sl 3 a0_1), .d (D.sl 6 a0_2)])]⟩ k = ref11_Cost_p5 n a1 h5 h6 a0_0 a0_1 a0_2 (fun z47 z48 => k .normal ⟨37, [(1, .d (D.sl 1 a1)), (2, .ptr 2 0), (6, .d (D.int .i64 z47)), (7, .d (D.int .i64 z48))], [(2, .box [.d (D.int .i64 a0_0), .d (D.sl 3 a0_1), .d (D.sl 6 a0_2)])]⟩) (fun z49 => k (.exit 0) ⟨37, [(1, .d (D.sl 1 a1)), (2, .ptr 2 0), (6, .d (D.int .i64 h5)), (7, .d (D.int .i64 h6)), (16, .d (D.bool z49))], [(2, .box [.d (D.int .i64 a0_0), .d (D.sl 3 a0_1), .d (D.sl 6 a0_2)])]⟩) := by kernel_rfl
theorem ref11_Cost_r6_eq {R : Type} (n : Nat) (a1 : List (List D)) (a0_0 : Int) (a0_1 : List (List D)) (a0_2 : List (List D)) (k : Exit → St → Option R) : ∀ (m : Nat) (h5 : Int) (h6 : Int), loopN (vexec (ref11_Cost_C n) n ref11_Cost_c5) m ⟨37, [(1, .d (D.sl 1 a1)), (2, .ptr 2 0), (6, .d (D.int .i64 h5)), (7, .d (D.int .i64 h6))], [(2, .box [.d (D.int .i64 a0_0), .d (D.sl 3 a0_1), .d (D.sl 6 a0_2)])]⟩ k = ref11_Cost_r6 n a1 a0_0 a0_1 a0_2 (fun h5 h6 w52 => k (.exit 0) ⟨37, [(1, .d (D.sl 1 a1)), (2, .ptr 2 0), (6, .d (D.int .i64 h5)), (7, .d (D.int .i64 h6)), (16, .d (D.bool w52))], [(2, .box [.d (D.int .i64 a0_0), .d (D.sl 3 a0_1), .d (D.sl 6 a0_2)])]⟩) m h5 h6
  | 0, _, _ => rfl
  | m + 1, h5, h6 => (ref11_Cost_p5_eq n a1 h5 h6 a0_0 a0_1 a0_2 (loopK (vexec (ref11_Cost_C n) n ref11_Cost_c5) m k)).trans (ref11_Cost_p5_congr n a1 h5 h6 a0_0 a0_1 a0_2 (fun w50 w51 => ref11_Cost_r6_eq n a1 a0_0 a0_1 a0_2 k m w50 w51) (fun w52 => rfl))
theorem ref11_Cost_p6_eq {R : Type} (n : Nat) (a1 : List (List D)) (a0_0 : Int) (a0_1 : List (List D)) (a0_2 : List (List D)) (k : Exit → St → Option R) : vexec (ref11_Cost_C n) n ref11_Cost_c6 ⟨37, [(1, .d (D.sl 1 a1)), (2, .ptr 2 0), (6, .d (D.int .i64 (0 : Int))), (7, .d (D.int .i64 (0 : Int)))], [(2, .box [.d (D.int .i64 a0_0), .d (D.sl 3 a0_1), .d (D.sl 6 a0_2)])]⟩ k = ref11_Cost_p6 n a1 a0_0 a0_1 a0_2 (fun h5 h6 w52 => k (.exit 0) ⟨37, [(1, .d (D.sl 1 a1)), (2, .ptr 2 0), (6, .d (D.int .i64 h5)), (7, .d (D.int .i64 h6)), (16, .d (D.bool w52))], [(2, .box [.d (D.int .i64 a0_0), .d (D.sl 3 a0_1), .d (D.sl 6 a0_2)])]⟩) := by
  rw [ref11_Cost_c6_eq]
  exact ref11_Cost_r6_eq n a1 a0_0 a0_1 a0_2 k n (0 : Int) (0 : Int)
theorem ref11_Cost_p7_eq {R : Type} (n : Nat) (a1 : List (List D)) (a0_0 : Int) (a0_1 : List (List D)) (a0_2 : List (List D)) (k : Exit → St → Option R) : vexec (ref11_Cost_C n) n ref11_Cost_c7 ⟨37, [(1, .d (D.sl 1 a1)), (2, .ptr 2 0), (6, .d (D.int .i64 (0 : Int))), (7, .d (D.int .i64 (0 : Int)))], [(2, .box [.d (D.int .i64 a0_0), .d (D.sl 3 a0_1), .d (D.sl 6 a0_2)])]⟩ k = ref11_Cost_p7 n a1 a0_0 a0_1 a0_2 (fun w53 w54 w55 => k .normal ⟨37, [(1, .d (D.sl 1 a1)), (2, .ptr 2 0), (6, .d (D.int .i64 w53)), (7, .d (D.int .i64 w54)), (16, .d (D.bool w55))], [(2, .box [.d (D.int .i64 a0_0), .d (D.sl 3 a0_1), .d (D.sl 6 a0_2)])]⟩) := by
  rw [ref11_Cost_c7_eq]
  unfold ref11_Cost_p7
  exact (ref11_Cost_p6_eq n a1 a0_0 a0_1 a0_2 (blockK 0 k)).trans (ref11_Cost_p6_congr n a1 a0_0 a0_1 a0_2 (fun w53 w54 w55 => rfl))
theorem ref11_Cost_p8_eq {R : Type} (n : Nat) (a1 : List (List D)) (a0_0 : Int) (a0_1 : List (List D)) (a0_2 : List (List D)) (k : Exit → St → Option R) : vexec (ref11_Cost_C n) n ref11_Cost_c8 ⟨37, [(1, .d (D.sl 1 a1)), (2, .ptr 2 0), (6, .d (D.int .i64 (0 : Int)))], [(2, .box [.d (D.int .i64 a0_0), .d (D.sl 3 a0_1), .d (D.sl 6 a0_2)])]⟩ k = ref11_Cost_p8 n a1 a0_0 a0_1 a0_2 (fun w56 w57 w58 => k .normal ⟨37, [(1, .d (D.sl 1 a1)), (2, .ptr 2 0), (6, .d (D.int .i64 w56)), (7, .d (D.int .i64 w57)), (16, .d (D.bool w58))], [(2, .box [.d (D.int .i64 a0_0), .d (D.sl 3 a0_1), .d (D.sl 6 a0_2)])]⟩) := by
  rw [ref11_Cost_c8_eq]
  unfold ref11_Cost_p8
  exact (ref11_Cost_p4_eq n a1 a0_0 a0_1 a0_2 (seqK (ref11_Cost_C n) n ref11_Cost_c7 k)).trans (ref11_Cost_p4_congr n a1 a0_0 a0_1 a0_2 (ref11_Cost_p7_eq n a1 a0_0 a0_1 a0_2 k))
theorem ref11_Cost_p9_eq {R : Type} (n : Nat) (a1 : List (List D)) (w59 : Int) (w60 : Int) (w61 : Bool) (a0_0 : Int) (a0_1 : List (List D)) (a0_2 : List (List D)) (k : Exit → St → Option R) : vexec (ref11_Cost_C n) n ref11_Cost_c9 ⟨37, [(1, .d (D.sl 1 a1)), (2, .ptr 2 0), (6, .d (D.int .i64 w59)), (7, .d (D.int .i64 w60)), (16, .d (D.bool w61))], [(2, .box [.d (D.int .i64 a0_0), .d (D.sl 3 a0_1), .d (D.sl 6 a0_2)])]⟩ k = ref11_Cost_p9 n a1 w59 w60 w61 a0_0 a0_1 a0_2 (k .ret ⟨37, [(4, .d (D.int .i64 w59)), (5, .d (D.int .i64 (0 : Int)))], []⟩) := by kernel_rfl
theorem ref11_Cost_p10_eq {R : Type} (n : Nat) (a1 : List (List D)) (a0_0 : Int) (a0_1 : List (List D)) (a0_2 : List (List D)) (k : Exit → St → Option R) : vexec (ref11_Cost_C n) n ref11_Cost_c10 ⟨37, [(1, .d (D.sl 1 a1)), (2, .ptr 2 0), (6, .d (D.int .i64 (0 : Int)))], [(2, .box [.d (D.int .i64 a0_0), .d (D.sl 3 a0_1), .d (D.sl 6 a0_2)])]⟩ k = ref11_Cost_p10 n a1 a0_0 a0_1 a0_2 (fun w59 => k .ret ⟨37, [(4, .d (D.int .i64 w59)), (5, .d (D.int .i64 (0 : Int)))], []⟩) := by
  rw [ref11_Cost_c10_eq]
  unfold ref11_Cost_p10
  exact (ref11_Cost_p8_eq n a1 a0_0 a0_1 a0_2 (seqK (ref11_Cost_C n) n ref11_Cost_c9 k)).trans (ref11_Cost_p8_congr n a1 a0_0 a0_1 a0_2 (fun w59 w60 w61 => ref11_Cost_p9_eq n a1 w59 w60 w61 a0_0 a0_1 a0_2 k))
theorem ref11_Cost_p11_eq {R : Type} (n : Nat) (a1 : List (List D)) (w3 : Bool) (a0_0 : Int) (a0_1 : List (List D)) (a0_2 : List (List D)) (k : Exit → St → Option R) : vexec (ref11_Cost_C n) n ref11_Cost_c11 ⟨37, [(1, .d (D.sl 1 a1)), (2, .ptr 2 0), (11, .d (D.bool w3))], [(2, .box [.d (D.int .i64 a0_0), .d (D.sl 3 a0_1), .d (D.sl 6 a0_2)])]⟩ k = ref11_Cost_p11 n a1 w3 a0_0 a0_1 a0_2 (fun w62 => k .ret ⟨37, [(4, .d (D.int .i64 w62)), (5, .d (D.int .i64 (0 : Int)))], []⟩) := by
  rw [ref11_Cost_c11_eq]
  unfold ref11_Cost_p11
  exact (ref11_Cost_p3_eq n a1 w3 a0_0 a0_1 a0_2 (seqK (ref11_Cost_C n) n ref11_Cost_c10 k)).trans (ref11_Cost_p3_congr n a1 w3 a0_0 a0_1 a0_2 (ref11_Cost_p10_eq n a1 a0_0 a0_1 a0_2 k))
theorem ref11_Cost_p12_eq {R : Type} (n : Nat) (a1 : List (List D)) (a0_0 : Int) (a0_1 : List (List D)) (a0_2 : List (List D)) (k : Exit → St → Option R) : vexec (ref11_Cost_C n) n ref11_Cost_c12 ⟨37, [(1, .d (D.sl 1 a1)), (2, .ptr 2 0)], [(2, .box [.d (D.int .i64 a0_0), .d (D.sl 3 a0_1), .d (D.sl 6 a0_2)])]⟩ k = ref11_Cost_p12 n a1 a0_0 a0_1 a0_2 (fun z64 z65 => k .ret ⟨37, [(4, .d (D.int .i64 z64)), (5, .d (D.int .i64 z65))], []⟩) := by
  rw [ref11_Cost_c12_eq]
  unfold ref11_Cost_p12
  exact (ref11_Cost_p2_eq n a1 a0_0 a0_1 a0_2 (seqK (ref11_Cost_C n) n ref11_Cost_c11 k)).trans (ref11_Cost_p2_congr n a1 a0_0 a0_1 a0_2 (rfl) (fun w3 => ref11_Cost_p11_eq n a1 w3 a0_0 a0_1 a0_2 k))
theorem ref11_Cost_p13_eq {R : Type} (n : Nat) (a0_0 : Int) (a0_1 : List (List D)) (a0_2 : List (List D)) (a1 : List (List D)) (k : Exit → St → Option R) : vexec (ref11_Cost_C n) n ref11_Cost_c0 ⟨37, [(0, .ag [.d (D.int .i64 a0_0), .d (D.sl 3 a0_1), .d (D.sl 6 a0_2)]), (1, .d (D.sl 1 a1))], []⟩ k = ref11_Cost_p13 n a0_0 a0_1 a0_2 a1 (fun w66 w67 => k .ret ⟨37, [(4, .d (D.int .i64 w66)), (5, .d (D.int .i64 w67))], []⟩) := by
  rw [ref11_Cost_c0_eq]
  unfold ref11_Cost_p13
  exact (ref11_Cost_p1_eq n a0_0 a0_1 a0_2 a1 (seqK (ref11_Cost_C n) n ref11_Cost_c12 k)).trans (ref11_Cost_p1_congr n a0_0 a0_1 a0_2 a1 (ref11_Cost_p12_eq n a1 a0_0 a0_1 a0_2 k))
theorem ref11_Cost_vfn {R : Type} (n : Nat) (a0_0 : Int) (a0_1 : List (List D)) (a0_2 : List (List D)) (a1 : List (List D)) (K : AV → Option R) : vfn (ref11_Cost_C n) n Try.f31 [.ag [.d (D.int .i64 a0_0), .d (D.sl 3 a0_1), .d (D.sl 6 a0_2)], .d (D.sl 1 a1)] [] (retF [[0], [0]] K) = ref11_Cost n a0_0 a0_1 a0_2 a1 (fun r0 r1 => K (.tup [.d (D.int .i64 r0), .d (D.int .i64 r1)])) :=
  (show vfn (ref11_Cost_C n) n Try.f31 [.ag [.d (D.int .i64 a0_0), .d (D.sl 3 a0_1), .d (D.sl 6 a0_2)], .d (D.sl 1 a1)] [] (retF [[0], [0]] K) = vexec (ref11_Cost_C n) n ref11_Cost_c0 ⟨37, [(0, .ag [.d (D.int .i64 a0_0), .d (D.sl 3 a0_1), .d (D.sl 6 a0_2)]), (1, .d (D.sl 1 a1))], []⟩ (retX ref11_Cost_tt [.tmp 4, .tmp 5] (retF [[0], [0]] K)) from vfn_at (by kernel_rfl) (by kernel_rfl) rfl (by kernel_rfl) rfl (by kernel_rfl) rfl).trans ((ref11_Cost_p13_eq n a0_0 a0_1 a0_2 a1 (retX ref11_Cost_tt [.tmp 4, .tmp 5] (retF [[0], [0]] K))).trans (by kernel_rfl))
def ref11_Cost_K : AV → Option (Int × Int) := fun av => match av with
  | .tup [.d (D.int .i64 r0), .d (D.int .i64 r1)] => some (r0, r1)
  | _ => none
def ref11_Cost_e (n : Nat) : Entry := fun _ _ g avs _ k => match avs with
  | [c0, c1] => 
    prG c0 fun l0 => (match l0 with
    | [c0_0, c0_1, c0_2] => prI g .i64 c0_0 fun a0_0 => prS g 3 c0_1 fun a0_1 => prS g 6 c0_2 fun a0_2 => prS g 1 c1 fun a1 => 
    gb g (ref11_Cost n a0_0 a0_1 a0_2 a1 (fun r0 r1 => some (r0, r1))) (0, 0) fun r => k ⟨.tup [.d (D.int .i64 r.1), .d (D.int .i64 r.2)], [], []⟩
    | _ => none)
  | _ => none
theorem ref11_Cost_ok (n : Nat) : EntryOK Try.prog 31 (ref11_Cost_e n) := by
  intro R site g avs hl k r h
  unfold ref11_Cost_e at h
  split at h
  rotate_left
  · cases h
  replace h := prG_some h
  obtain ⟨l0, h, e0⟩ := h
  subst e0
  split at h
  rotate_left
  · cases h
  replace h := prI_some h
  obtain ⟨a0_0, h, le0⟩ := h
  replace h := prS_some h
  obtain ⟨a0_1, h, le1⟩ := h
  replace h := prS_some h
  obtain ⟨a0_2, h, le2⟩ := h
  replace h := prS_some h
  obtain ⟨a1, h, le3⟩ := h
  replace h := gb_some h
  obtain ⟨res, h, hr⟩ := h
  refine ⟨_, h, fun hg => CallOK.conv (avs' := [.ag [.d (D.int .i64 a0_0), .d (D.sl 3 a0_1), .d (D.sl 6 a0_2)], .d (D.sl 1 a1)]) (.cons (.ag (.cons (le0 hg) (.cons (le1 hg) (.cons (le2 hg) (.nil))))) (.cons (le3 hg) (.nil))) (callOK_fix (K := ref11_Cost_K) (res := res) (ref11_Cost_VC n) (fn := Try.f31) (n := n) (by kernel_rfl) (by kernel_rfl) (by kernel_rfl) (ss := [[0], [0]]) rfl ?_ ?_)⟩
  · exact (ref11_Cost_vfn n a0_0 a0_1 a0_2 a1 ref11_Cost_K).trans (hr hg)
  · intro x hx
    unfold ref11_Cost_K at hx
    split at hx
    · injection hx with hx; subst hx; rfl
    · cases hx
end Go.Vx
/-
  network_Duration: the interpreter computes the pure function
-/
set_option linter.unusedVariables false
set_option linter.unusedSimpArgs false
set_option maxRecDepth 100000
namespace Go.Vx
open Go.Proofs
noncomputable def network_Duration_c0 : Code := bodyOf Try.f15
def network_Duration_tt : TT := [(3, ⟨.int .i64, 1, 8, [.int .i64 0], [.int .i64 0], [], none⟩), (24, ⟨.sl 31 6, 1, 24, [.slice none 0 0], [.sl 6 []], [], none⟩), (26, ⟨.struct, 3, 56, [.int .i64 0, .slice none 0 0, .slice none 0 0], [.int .i64 0, .sl 3 [], .sl 6 []], [(0, 3), (1, 23), (2, 24)], none⟩), (31, ⟨.struct, 6, 48, [.int .i64 0, .int .i64 0, .int .i64 0, .int .i64 0, .int .i64 0, .int .i64 0], [.int .i64 0, .int .i64 0, .int .i64 0, .int .i64 0, .int .i64 0, .int .i64 0], [(0, 3), (1, 3), (2, 3), (3, 3), (4, 3), (5, 3)], some [.int .i64, .int .i64, .int .i64, .int .i64, .int .i64, .int .i64]⟩)]
theorem network_Duration_tt_eq : mkTT Try.prog [3, 24, 26, 31] = network_Duration_tt := by kernel_rfl
def network_Duration_cfg : List (Nat × Cfg) := [(0, ⟨[1, 2, 3], [(3, 3)], [], [], []⟩), (1, ⟨[1, 2, 3, 21], [(3, 3)], [], [], []⟩), (2, ⟨[6], [], [], [], []⟩), (3, ⟨[6], [], [], [], []⟩)]
def network_Duration_C (n : Nat) : VC := ⟨specOf [(27, network_Good_e n), (28, network_duration_e n)], network_Duration_tt, network_Duration_cfg⟩
theorem network_Duration_ents (n : Nat) : EntsOK Try.prog [(27, network_Good_e n), (28, network_duration_e n)] := ⟨network_Good_ok n, ⟨network_duration_ok n, trivial⟩⟩
theorem network_Duration_VC (n : Nat) : VCOk Try.prog (network_Duration_C n) := ⟨specOf_ok (network_Duration_ents n), (network_Duration_tt_eq ▸ mkTT_ok _ : TOk Try.prog network_Duration_tt), by kernel_rfl⟩
theorem network_Duration_p1_congr {R : Type} (n : Nat) (a0_0 : Int) (a0_1 : List (List D)) (a0_2 : List (List D)) (a1 : List (List D)) (a2 : Int) {k0 kk0 : Int → Option R} (hq0 : ∀ x0, k0 x0 = kk0 x0) : network_Duration_p1 n a0_0 a0_1 a0_2 a1 a2 k0 = network_Duration_p1 n a0_0 a0_1 a0_2 a1 a2 kk0 := by
  obtain rfl : k0 = kk0 := funext fun x0 => hq0 x0
  rfl
theorem network_Duration_p1_eq {R : Type} (n : Nat) (a0_0 : Int) (a0_1 : List (List D)) (a0_2 : List (List D)) (a1 : List (List D)) (a2 : Int) (k : Exit → St → Option R) : vexec (network_Duration_C n) n network_Duration_c0 ⟨30, [(0, .ag [.d (D.int .i64 a0_0), .d (D.sl 3 a0_1), .d (D.sl 6 a0_2)]), (1, .d (D.sl 1 a1)), (2, .d (D.int .i64 a2))], []⟩ k = network_Duration_p1 n a0_0 a0_1 a0_2 a1 a2 (fun z16 => k .ret ⟨30, [(6, .d (D.int .i64 z16))], []⟩) := by kernel_rfl
theorem network_Duration_vfn {R : Type} (n : Nat) (a0_0 : Int) (a0_1 : List (List D)) (a0_2 : List (List D)) (a1 : List (List D)) (a2 : Int) (K : AV → Option R) : vfn (network_Duration_C n) n Try.f15 [.ag [.d (D.int .i64 a0_0), .d (D.sl 3 a0_1), .d (D.sl 6 a0_2)], .d (D.sl 1 a1), .d (D.int .i64 a2)] [] (retF [[0]] K) = network_Duration n a0_0 a0_1 a0_2 a1 a2 (fun r0 => K (.d (D.int .i64 r0))) :=
  (show vfn (network_Duration_C n) n Try.f15 [.ag [.d (D.int .i64 a0_0), .d (D.sl 3 a0_1), .d (D.sl 6 a0_2)], .d (D.sl 1 a1), .d (D.int .i64 a2)] [] (retF [[0]] K) = vexec (network_Duration_C n) n network_Duration_c0 ⟨30, [(0, .ag [.d (D.int .i64 a0_0), .d (D.sl 3 a0_1), .d (D.sl 6 a0_2)]), (1, .d (D.sl 1 a1)), (2, .d (D.int .i64 a2))], []⟩ (retX network_Duration_tt [.tmp 6] (retF [[0]] K)) from vfn_at (by kernel_rfl) (by kernel_rfl) rfl (by kernel_rfl) rfl (by kernel_rfl) rfl).trans ((network_Duration_p1_eq n a0_0 a0_1 a0_2 a1 a2 (retX network_Duration_tt [.tmp 6] (retF [[0]] K))).trans (by kernel_rfl))
def network_Duration_K : AV → Option (Int) := fun av => match av with
  | .d (D.int .i64 r0) => some r0
  | _ => none
def network_Duration_e (n : Nat) : Entry := fun _ _ g avs _ k => match avs with
  | [c0, c1, c2] => 
    prG c0 fun l0 => (match l0 with
    | [c0_0, c0_1, c0_2] => prI g .i64 c0_0 fun a0_0 => prS g 3 c0_1 fun a0_1 => prS g 6 c0_2 fun a0_2 => prS g 1 c1 fun a1 => prI g .i64 c2 fun a2 => 
    gb g (network_Duration n a0_0 a0_1 a0_2 a1 a2 some) 0 fun r => k ⟨.d (D.int .i64 r), [], []⟩
    | _ => none)
  | _ => none
theorem network_Duration_ok (n : Nat) : EntryOK Try.prog 15 (network_Duration_e n) := by
  intro R site g avs hl k r h
  unfold network_Duration_e at h
  split at h
  rotate_left
  · cases h
  replace h := prG_some h
  obtain ⟨l0, h, e0⟩ := h
  subst e0
  split at h
  rotate_left
  · cases h
  replace h := prI_some h
  obtain ⟨a0_0, h, le0⟩ := h
  replace h := prS_some h
  obtain ⟨a0_1, h, le1⟩ := h
  replace h := prS_some h
  obtain ⟨a0_2, h, le2⟩ := h
  replace h := prS_some h
  obtain ⟨a1, h, le3⟩ := h
  replace h := prI_some h
  obtain ⟨a2, h, le4⟩ := h
  replace h := gb_some h
  obtain ⟨res, h, hr⟩ := h
  refine ⟨_, h, fun hg => CallOK.conv (avs' := [.ag [.d (D.int .i64 a0_0), .d (D.sl 3 a0_1), .d (D.sl 6 a0_2)], .d (D.sl 1 a1), .d (D.int .i64 a2)]) (.cons (.ag (.cons (le0 hg) (.cons (le1 hg) (.cons (le2 hg) (.nil))))) (.cons (le3 hg) (.cons (le4 hg) (.nil)))) (callOK_fix (K := network_Duration_K) (res := res) (network_Duration_VC n) (fn := Try.f15) (n := n) (by kernel_rfl) (by kernel_rfl) (by kernel_rfl) (ss := [[0]]) rfl ?_ ?_)⟩
  · exact (network_Duration_vfn n a0_0 a0_1 a0_2 a1 a2 network_Duration_K).trans (hr hg)
  · intro x hx
    unfold network_Duration_K at hx
    split at hx
    · injection hx with hx; subst hx; rfl
    · cases hx
end Go.Vx
/-
  ref11_Duration: the interpreter computes the pure function
-/
set_option linter.unusedVariables false
set_option linter.unusedSimpArgs false
set_option maxRecDepth 100000
namespace Go.Vx
open Go.Proofs
noncomputable def ref11_Duration_c0 : Code := bodyOf Try.f33
def ref11_Duration_tt : TT := [(3, ⟨.int .i64, 1, 8, [.int .i64 0], [.int .i64 0], [], none⟩), (24, ⟨.sl 31 6, 1, 24, [.slice none 0 0], [.sl 6 []], [], none⟩), (26, ⟨.struct, 3, 56, [.int .i64 0, .slice none 0 0, .slice none 0 0], [.int .i64 0, .sl 3 [], .sl 6 []], [(0, 3), (1, 23), (2, 24)], none⟩), (31, ⟨.struct, 6, 48, [.int .i64 0, .int .i64 0, .int .i64 0, .int .i64 0, .int .i64 0, .int .i64 0], [.int .i64 0, .int .i64 0, .int .i64 0, .int .i64 0, .int .i64 0, .int .i64 0], [(0, 3), (1, 3), (2, 3), (3, 3), (4, 3), (5, 3)], some [.int .i64, .int .i64, .int .i64, .int .i64, .int .i64, .int .i64]⟩)]
theorem ref11_Duration_tt_eq : mkTT Try.prog [3, 24, 26, 31] = ref11_Duration_tt := by kernel_rfl
def ref11_Duration_cfg : List (Nat × Cfg) := [(0, ⟨[1, 2, 3], [(3, 3)], [], [], []⟩), (1, ⟨[1, 2, 3, 19], [(3, 3)], [], [], []⟩), (2, ⟨[6], [], [], [], []⟩), (3, ⟨[6], [], [], [], []⟩)]
def ref11_Duration_C (n : Nat) : VC := ⟨specOf [(32, ref11_Good_e n), (26, ref11_in_e n), (37, ref11_Lasts_e n)], ref11_Duration_tt, ref11_Duration_cfg⟩
theorem ref11_Duration_ents (n : Nat) : EntsOK Try.prog [(32, ref11_Good_e n), (26, ref11_in_e n), (37, ref11_Lasts_e n)] := ⟨ref11_Good_ok n, ⟨ref11_in_ok n, ⟨ref11_Lasts_ok n, trivial⟩⟩⟩
theorem ref11_Duration_VC (n : Nat) : VCOk Try.prog (ref11_Duration_C n) := ⟨specOf_ok (ref11_Duration_ents n), (ref11_Duration_tt_eq ▸ mkTT_ok _ : TOk Try.prog ref11_Duration_tt), by kernel_rfl⟩
theorem ref11_Duration_p1_congr {R : Type} (n : Nat) (a0_0 : Int) (a0_1 : List (List D)) (a0_2 : List (List D)) (a1 : List (List D)) (a2 : Int) {k0 kk0 : Int → Option R} (hq0 : ∀ x0, k0 x0 = kk0 x0) : ref11_Duration_p1 n a0_0 a0_1 a0_2 a1 a2 k0 = ref11_Duration_p1 n a0_0 a0_1 a0_2 a1 a2 kk0 := by
  obtain rfl : k0 = kk0 := funext fun x0 => hq0 x0
  rfl
theorem ref11_Duration_p1_eq {R : Type} (n : Nat) (a0_0 : Int) (a0_1 : List (List D)) (a0_2 : List (List D)) (a1 : List (List D)) (a2 : Int) (k : Exit → St → Option R) : vexec (ref11_Duration_C n) n ref11_Duration_c0 ⟨28, [(0, .ag [.d (D.int .i64 a0_0), .d (D.sl 3 a0_1), .d (D.sl 6 a0_2)]), (1, .d (D.sl 1 a1)), (2, .d (D.int .i64 a2))], []⟩ k = ref11_Duration_p1 n a0_0 a0_1 a0_2 a1 a2 (fun z17 => k .ret ⟨28, [(6, .d (D.int .i64 z17))], []⟩) := by kernel_rfl
theorem ref11_Duration_vfn {R : Type} (n : Nat) (a0_0 : Int) (a0_1 : List (List D)) (a0_2 : List (List D)) (a1 : List (List D)) (a2 : Int) (K : AV → Option R) : vfn (ref11_Duration_C n) n Try.f33 [.ag [.d (D.int .i64 a0_0), .d (D.sl 3 a0_1), .d (D.sl 6 a0_2)], .d (D.sl 1 a1), .d (D.int .i64 a2)] [] (retF [[0]] K) = ref11_Duration n a0_0 a0_1 a0_2 a1 a2 (fun r0 => K (.d (D.int .i64 r0))) :=
  (show vfn (ref11_Duration_C n) n Try.f33 [.ag [.d (D.int .i64 a0_0), .d (D.sl 3 a0_1), .d (D.sl 6 a0_2)], .d (D.sl 1 a1), .d (D.int .i64 a2)] [] (retF [[0]] K) = vexec (ref11_Duration_C n) n ref11_Duration_c0 ⟨28, [(0, .ag [.d (D.int .i64 a0_0), .d (D.sl 3 a0_1), .d (D.sl 6 a0_2)]), (1, .d (D.sl 1 a1)), (2, .d (D.int .i64 a2))], []⟩ (retX ref11_Duration_tt [.tmp 6] (retF [[0]] K)) from vfn_at (by kernel_rfl) (by kernel_rfl) rfl (by kernel_rfl) rfl (by kernel_rfl) rfl).trans ((ref11_Duration_p1_eq n a0_0 a0_1 a0_2 a1 a2 (retX ref11_Duration_tt [.tmp 6] (retF [[0]] K))).trans (by kernel_rfl))
def ref11_Duration_K : AV → Option (Int) := fun av => match av with
  | .d (D.int .i64 r0) => some r0
  | _ => none
def ref11_Duration_e (n : Nat) : Entry := fun _ _ g avs _ k => match avs with
  | [c0, c1, c2] => 
    prG c0 fun l0 => (match l0 with
    | [c0_0, c0_1, c0_2] => prI g .i64 c0_0 fun a0_0 => prS g 3 c0_1 fun a0_1 => prS g 6 c0_2 fun a0_2 => prS g 1 c1 fun a1 => prI g .i64 c2 fun a2 => 
    gb g (ref11_Duration n a0_0 a0_1 a0_2 a1 a2 some) 0 fun r => k ⟨.d (D.int .i64 r), [], []⟩
    | _ => none)
  | _ => none
theorem ref11_Duration_ok (n : Nat) : EntryOK Try.prog 33 (ref11_Duration_e n) := by
  intro R site g avs hl k r h
  unfold ref11_Duration_e at h
  split at h
  rotate_left
  · cases h
  replace h := prG_some h
  obtain ⟨l0, h, e0⟩ := h
  subst e0
  split at h
  rotate_left
  · cases h
  replace h := prI_some h
  obtain ⟨a0_0, h, le0⟩ := h
  replace h := prS_some h
  obtain ⟨a0_1, h, le1⟩ := h
  replace h := prS_some h
  obtain ⟨a0_2, h, le2⟩ := h
  replace h := prS_some h
  obtain ⟨a1, h, le3⟩ := h
  replace h := prI_some h
  obtain ⟨a2, h, le4⟩ := h
  replace h := gb_some h
  obtain ⟨res, h, hr⟩ := h
  refine ⟨_, h, fun hg => CallOK.conv (avs' := [.ag [.d (D.int .i64 a0_0), .d (D.sl 3 a0_1), .d (D.sl 6 a0_2)], .d (D.sl 1 a1), .d (D.int .i64 a2)]) (.cons (.ag (.cons (le0 hg) (.cons (le1 hg) (.cons (le2 hg) (.nil))))) (.cons (le3 hg) (.cons (le4 hg) (.nil)))) (callOK_fix (K := ref11_Duration_K) (res := res) (ref11_Duration_VC n) (fn := Try.f33) (n := n) (by kernel_rfl) (by kernel_rfl) (by kernel_rfl) (ss := [[0]]) rfl ?_ ?_)⟩
  · exact (ref11_Duration_vfn n a0_0 a0_1 a0_2 a1 a2 ref11_Duration_K).trans (hr hg)
  · intro x hx
    unfold ref11_Duration_K at hx
    split at hx
    · injection hx with hx; subst hx; rfl
    · cases hx
end Go.Vx
/-
  network_Feasible: the interpreter computes the pure function
-/
set_option linter.unusedVariables false
set_option linter.unusedSimpArgs false
set_option maxRecDepth 100000
namespace Go.Vx
open Go.Proofs
noncomputable def network_Feasible_c0 : Code := bodyOf Try.f17
def network_Feasible_tt : TT := [(26, ⟨.struct, 3, 56, [.int .i64 0, .slice none 0 0, .slice none 0 0], [.int .i64 0, .sl 3 [], .sl 6 []], [(0, 3), (1, 23), (2, 24)], none⟩)]
theorem network_Feasible_tt_eq : mkTT Try.prog [26] = network_Feasible_tt := by kernel_rfl
def network_Feasible_cfg : List (Nat × Cfg) := [(0, ⟨[1, 2], [(2, 2)], [], [], []⟩), (1, ⟨[1, 2, 6], [(2, 2)], [], [], []⟩), (2, ⟨[4], [], [], [], []⟩)]
def network_Feasible_C (n : Nat) : VC := ⟨specOf [(24, network_First_e n), (27, network_Good_e n)], network_Feasible_tt, network_Feasible_cfg⟩
theorem network_Feasible_ents (n : Nat) : EntsOK Try.prog [(24, network_First_e n), (27, network_Good_e n)] := ⟨network_First_ok n, ⟨network_Good_ok n, trivial⟩⟩
theorem network_Feasible_VC (n : Nat) : VCOk Try.prog (network_Feasible_C n) := ⟨specOf_ok (network_Feasible_ents n), (network_Feasible_tt_eq ▸ mkTT_ok _ : TOk Try.prog network_Feasible_tt), by kernel_rfl⟩
theorem network_Feasible_p1_congr {R : Type} (n : Nat) (a0_0 : Int) (a0_1 : List (List D)) (a0_2 : List (List D)) (a1 : List (List D)) {k0 kk0 : Bool → Option R} (hq0 : ∀ x0, k0 x0 = kk0 x0) : network_Feasible_p1 n a0_0 a0_1 a0_2 a1 k0 = network_Feasible_p1 n a0_0 a0_1 a0_2 a1 kk0 := by
  obtain rfl : k0 = kk0 := funext fun x0 => hq0 x0
  rfl
theorem network_Feasible_p1_eq {R : Type} (n : Nat) (a0_0 : Int) (a0_1 : List (List D)) (a0_2 : List (List D)) (a1 : List (List D)) (k : Exit → St → Option R) : vexec (network_Feasible_C n) n network_Feasible_c0 ⟨20, [(0, .ag [.d (D.int .i64 a0_0), .d (D.sl 3 a0_1), .d (D.sl 6 a0_2)]), (1, .d (D.sl 1 a1))], []⟩ k = network_Feasible_p1 n a0_0 a0_1 a0_2 a1 (fun z3 => k .ret ⟨20, [(4, .d (D.bool z3))], []⟩) := by kernel_rfl
theorem network_Feasible_vfn {R : Type} (n : Nat) (a0_0 : Int) (a0_1 : List (List D)) (a0_2 : List (List D)) (a1 : List (List D)) (K : AV → Option R) : vfn (network_Feasible_C n) n Try.f17 [.ag [.d (D.int .i64 a0_0), .d (D.sl 3 a0_1), .d (D.sl 6 a0_2)], .d (D.sl 1 a1)] [] (retF [[0]] K) = network_Feasible n a0_0 a0_1 a0_2 a1 (fun r0 => K (.d (D.bool r0))) :=
  (show vfn (network_Feasible_C n) n Try.f17 [.ag [.d (D.int .i64 a0_0), .d (D.sl 3 a0_1), .d (D.sl 6 a0_2)], .d (D.sl 1 a1)] [] (retF [[0]] K) = vexec (network_Feasible_C n) n network_Feasible_c0 ⟨20, [(0, .ag [.d (D.int .i64 a0_0), .d (D.sl 3 a0_1), .d (D.sl 6 a0_2)]), (1, .d (D.sl 1 a1))], []⟩ (retX network_Feasible_tt [.tmp 4] (retF [[0]] K)) from vfn_at (by kernel_rfl) (by kernel_rfl) rfl (by kernel_rfl) rfl (by kernel_rfl) rfl).trans ((network_Feasible_p1_eq n a0_0 a0_1 a0_2 a1 (retX network_Feasible_tt [.tmp 4] (retF [[0]] K))).trans (by kernel_rfl))
def network_Feasible_K : AV → Option (Bool) := fun av => match av with
  | .d (D.bool r0) => some r0
  | _ => none
def network_Feasible_e (n : Nat) : Entry := fun _ _ g avs _ k => match avs with
  | [c0, c1] => 
    prG c0 fun l0 => (match l0 with
    | [c0_0, c0_1, c0_2] => prI g .i64 c0_0 fun a0_0 => prS g 3 c0_1 fun a0_1 => prS g 6 c0_2 fun a0_2 => prS g 1 c1 fun a1 => 
    gb g (network_Feasible n a0_0 a0_1 a0_2 a1 some) false fun r => k ⟨.d (D.bool r), [], []⟩
    | _ => none)
  | _ => none
theorem network_Feasible_ok (n : Nat) : EntryOK Try.prog 17 (network_Feasible_e n) := by
  intro R site g avs hl k r h
  unfold network_Feasible_e at h
  split at h
  rotate_left
  · cases h
  replace h := prG_some h
  obtain ⟨l0, h, e0⟩ := h
  subst e0
  split at h
  rotate_left
  · cases h
  replace h := prI_some h
  obtain ⟨a0_0, h, le0⟩ := h
  replace h := prS_some h
  obtain ⟨a0_1, h, le1⟩ := h
  replace h := prS_some h
  obtain ⟨a0_2, h, le2⟩ := h
  replace h := prS_some h
  obtain ⟨a1, h, le3⟩ := h
  replace h := gb_some h
  obtain ⟨res, h, hr⟩ := h
  refine ⟨_, h, fun hg => CallOK.conv (avs' := [.ag [.d (D.int .i64 a0_0), .d (D.sl 3 a0_1), .d (D.sl 6 a0_2)], .d (D.sl 1 a1)]) (.cons (.ag (.cons (le0 hg) (.cons (le1 hg) (.cons (le2 hg) (.nil))))) (.cons (le3 hg) (.nil))) (callOK_fix (K := network_Feasible_K) (res := res) (network_Feasible_VC n) (fn := Try.f17) (n := n) (by kernel_rfl) (by kernel_rfl) (by kernel_rfl) (ss := [[0]]) rfl ?_ ?_)⟩
  · exact (network_Feasible_vfn n a0_0 a0_1 a0_2 a1 network_Feasible_K).trans (hr hg)
  · intro x hx
    unfold network_Feasible_K at hx
    split at hx
    · injection hx with hx; subst hx; rfl
    · cases hx
end Go.Vx
/-
  ref11_Feasible: the interpreter computes the pure function
-/
set_option linter.unusedVariables false
set_option linter.unusedSimpArgs false
set_option maxRecDepth 100000
namespace Go.Vx
open Go.Proofs
noncomputable def ref11_Feasible_c0 : Code := bodyOf Try.f34
def ref11_Feasible_tt : TT := [(26, ⟨.struct, 3, 56, [.int .i64 0, .slice none 0 0, .slice none 0 0], [.int .i64 0, .sl 3 [], .sl 6 []], [(0, 3), (1, 23), (2, 24)], none⟩)]
theorem ref11_Feasible_tt_eq : mkTT Try.prog [26] = ref11_Feasible_tt := by kernel_rfl
def ref11_Feasible_cfg : List (Nat × Cfg) := [(0, ⟨[1, 2], [(2, 2)], [], [], []⟩), (1, ⟨[1, 2, 6], [(2, 2)], [], [], []⟩), (2, ⟨[4], [], [], [], []⟩)]
def ref11_Feasible_C (n : Nat) : VC := ⟨specOf [(30, ref11_First_e n), (32, ref11_Good_e n)], ref11_Feasible_tt, ref11_Feasible_cfg⟩
theorem ref11_Feasible_ents (n : Nat) : EntsOK Try.prog [(30, ref11_First_e n), (32, ref11_Good_e n)] := ⟨ref11_First_ok n, ⟨ref11_Good_ok n, trivial⟩⟩
theorem ref11_Feasible_VC (n : Nat) : VCOk Try.prog (ref11_Feasible_C n) := ⟨specOf_ok (ref11_Feasible_ents n), (ref11_Feasible_tt_eq ▸ mkTT_ok _ : TOk Try.prog ref11_Feasible_tt), by kernel_rfl⟩
theorem ref11_Feasible_p1_congr {R : Type} (n : Nat) (a0_0 : Int) (a0_1 : List (List D)) (a0_2 : List (List D)) (a1 : List (List D)) {k0 kk0 : Bool → Option R} (hq0 : ∀ x0, k0 x0 = kk0 x0) : ref11_Feasible_p1 n a0_0 a0_1 a0_2 a1 k0 = ref11_Feasible_p1 n a0_0 a0_1 a0_2 a1 kk0 := by
  obtain rfl : k0 = kk0 := funext fun x0 => hq0 x0
  rfl
theorem ref11_Feasible_p1_eq {R : Type} (n : Nat) (a0_0 : Int) (a0_1 : List (List D)) (a0_2 : List (List D)) (a1 : List (List D)) (k : Exit → St → Option R) : vexec (ref11_Feasible_C n) n ref11_Feasible_c0 ⟨20, [(0, .ag [.d (D.int .i64 a0_0), .d (D.sl 3 a0_1), .d (D.sl 6 a0_2)]), (1, .d (D.sl 1 a1))], []⟩ k = ref11_Feasible_p1 n a0_0 a0_1 a0_2 a1 (fun z3 => k .ret ⟨20, [(4, .d (D.bool z3))], []⟩) := by kernel_rfl
theorem ref11_Feasible_vfn {R : Type} (n : Nat) (a0_0 : Int) (a0_1 : List (List D)) (a0_2 : List (List D)) (a1 : List (List D)) (K : AV → Option R) : vfn (ref11_Feasible_C n) n Try.f34 [.ag [.d (D.int .i64 a0_0), .d (D.sl 3 a0_1), .d (D.sl 6 a0_2)], .d (D.sl 1 a1)] [] (retF [[0]] K) = ref11_Feasible n a0_0 a0_1 a0_2 a1 (fun r0 => K (.d (D.bool r0))) :=
  (show vfn (ref11_Feasible_C n) n Try.f34 [.ag [.d (D.int .i64 a0_0), .d (D.sl 3 a0_1), .d (D.sl 6 a0_2)], .d (D.sl 1 a1)] [] (retF [[0]] K) = vexec (ref11_Feasible_C n) n ref11_Feasible_c0 ⟨20, [(0, .ag [.d (D.int .i64 a0_0), .d (D.sl 3 a0_1), .d (D.sl 6 a0_2)]), (1, .d (D.sl 1 a1))], []⟩ (retX ref11_Feasible_tt [.tmp 4] (retF [[0]] K)) from vfn_at (by kernel_rfl) (by kernel_rfl) rfl (by kernel_rfl) rfl (by kernel_rfl) rfl).trans ((ref11_Feasible_p1_eq n a0_0 a0_1 a0_2 a1 (retX ref11_Feasible_tt [.tmp 4] (retF [[0]] K))).trans (by kernel_rfl))
def ref11_Feasible_K : AV → Option (Bool) := fun av => match av with
  | .d (D.bool r0) => some r0
  | _ => none
def ref11_Feasible_e (n : Nat) : Entry := fun _ _ g avs _ k => match avs with
  | [c0, c1] => 
    prG c0 fun l0 => (match l0 with
    | [c0_0, c0_1, c0_2] => prI g .i64 c0_0 fun a0_0 => prS g 3 c0_1 fun a0_1 => prS g 6 c0_2 fun a0_2 => prS g 1 c1 fun a1 => 
    gb g (ref11_Feasible n a0_0 a0_1 a0_2 a1 some) false fun r => k ⟨.d (D.bool r), [], []⟩
    | _ => none)
  | _ => none
theorem ref11_Feasible_ok (n : Nat) : EntryOK Try.prog 34 (ref11_Feasible_e n) := by
  intro R site g avs hl k r h
  unfold ref11_Feasible_e at h
  split at h
  rotate_left
  · cases h
  replace h := prG_some h
  obtain ⟨l0, h, e0⟩ := h
  subst e0
  split at h
  rotate_left
  · cases h
  replace h := prI_some h
  obtain ⟨a0_0, h, le0⟩ := h
  replace h := prS_some h
  obtain ⟨a0_1, h, le1⟩ := h
  replace h := prS_some h
  obtain ⟨a0_2, h, le2⟩ := h
  replace h := prS_some h
  obtain ⟨a1, h, le3⟩ := h
  replace h := gb_some h
  obtain ⟨res, h, hr⟩ := h
  refine ⟨_, h, fun hg => CallOK.conv (avs' := [.ag [.d (D.int .i64 a0_0), .d (D.sl 3 a0_1), .d (D.sl 6 a0_2)], .d (D.sl 1 a1)]) (.cons (.ag (.cons (le0 hg) (.cons (le1 hg) (.cons (le2 hg) (.nil))))) (.cons (le3 hg) (.nil))) (callOK_fix (K := ref11_Feasible_K) (res := res) (ref11_Feasible_VC n) (fn := Try.f34) (n := n) (by kernel_rfl) (by kernel_rfl) (by kernel_rfl) (ss := [[0]]) rfl ?_ ?_)⟩
  · exact (ref11_Feasible_vfn n a0_0 a0_1 a0_2 a1 ref11_Feasible_K).trans (hr hg)
  · intro x hx
    unfold ref11_Feasible_K at hx
    split at hx
    · injection hx with hx; subst hx; rfl
    · cases hx
end Go.Vx
/-
  slices_Index_railplan_api_Event_railplan_api_Event: the interpreter computes the pure function
-/
set_option linter.unusedVariables false
set_option linter.unusedSimpArgs false
set_option maxRecDepth 100000
namespace Go.Vx
open Go.Proofs
noncomputable def slices_Index_railplan_api_Event_railplan_api_Event_c0 : Code := bodyOf Try.f29
noncomputable def slices_Index_railplan_api_Event_railplan_api_Event_c1 : Code := cL (bodyOf Try.f29)
noncomputable def slices_Index_railplan_api_Event_railplan_api_Event_c2 : Code := cL (cL (cR (bodyOf Try.f29)))
noncomputable def slices_Index_railplan_api_Event_railplan_api_Event_c3 : Code := cB (cB (cR (cL (cR (bodyOf Try.f29)))))
noncomputable def slices_Index_railplan_api_Event_railplan_api_Event_c4 : Code := cB (cR (cL (cR (bodyOf Try.f29))))
noncomputable def slices_Index_railplan_api_Event_railplan_api_Event_c5 : Code := cR (cL (cR (bodyOf Try.f29)))
noncomputable def slices_Index_railplan_api_Event_railplan_api_Event_c6 : Code := cL (cR (bodyOf Try.f29))
noncomputable def slices_Index_railplan_api_Event_railplan_api_Event_c7 : Code := cR (cR (bodyOf Try.f29))
noncomputable def slices_Index_railplan_api_Event_railplan_api_Event_c8 : Code := cR (bodyOf Try.f29)
theorem slices_Index_railplan_api_Event_railplan_api_Event_c4_eq : slices_Index_railplan_api_Event_railplan_api_Event_c4 = .loop slices_Index_railplan_api_Event_railplan_api_Event_c3 := by kernel_rfl
theorem slices_Index_railplan_api_Event_railplan_api_Event_c5_eq : slices_Index_railplan_api_Event_railplan_api_Event_c5 = .block 0 slices_Index_railplan_api_Event_railplan_api_Event_c4 := by kernel_rfl
theorem slices_Index_railplan_api_Event_railplan_api_Event_c6_eq : slices_Index_railplan_api_Event_railplan_api_Event_c6 = .seq slices_Index_railplan_api_Event_railplan_api_Event_c2 slices_Index_railplan_api_Event_railplan_api_Event_c5 := by kernel_rfl
theorem slices_Index_railplan_api_Event_railplan_api_Event_c8_eq : slices_Index_railplan_api_Event_railplan_api_Event_c8 = .seq slices_Index_railplan_api_Event_railplan_api_Event_c6 slices_Index_railplan_api_Event_railplan_api_Event_c7 := by kernel_rfl
theorem slices_Index_railplan_api_Event_railplan_api_Event_c0_eq : slices_Index_railplan_api_Event_railplan_api_Event_c0 = .seq slices_Index_railplan_api_Event_railplan_api_Event_c1 slices_Index_railplan_api_Event_railplan_api_Event_c8 := by kernel_rfl
def slices_Index_railplan_api_Event_railplan_api_Event_tt : TT := [(3, ⟨.int .i64, 1, 8, [.int .i64 0], [.int .i64 0], [], none⟩), (23, ⟨.sl 46 3, 1, 24, [.slice none 0 0], [.sl 3 []], [], none⟩), (46, ⟨.struct, 3, 24, [.int .i64 0, .int .i64 0, .int .i64 0], [.int .i64 0, .int .i64 0, .int .i64 0], [(0, 3), (1, 3), (2, 3)], some [.int .i64, .int .i64, .int .i64]⟩)]
theorem slices_Index_railplan_api_Event_railplan_api_Event_tt_eq : mkTT Try.prog [3, 23, 46] = slices_Index_railplan_api_Event_railplan_api_Event_tt := by kernel_rfl
def slices_Index_railplan_api_Event_railplan_api_Event_cfg : List (Nat × Cfg) := [(0, ⟨[0, 3], [(3, 3)], [], [], []⟩), (1, ⟨[0, 3, 7, 8], [(3, 3)], [], [], []⟩), (2, ⟨[0, 3, 7, 8, 9], [(3, 3)], [], [], []⟩), (3, ⟨[0, 3, 5, 7, 8], [(3, 3)], [], [], []⟩), (4, ⟨[0, 3, 5, 7, 8, 16], [(3, 3)], [], [], []⟩), (5, ⟨[4], [], [], [], []⟩), (6, ⟨[0, 3, 7, 8], [(3, 3)], [], [], []⟩), (7, ⟨[4], [], [], [], []⟩)]
def slices_Index_railplan_api_Event_railplan_api_Event_C (n : Nat) : VC := ⟨specOf [], slices_Index_railplan_api_Event_railplan_api_Event_tt, slices_Index_railplan_api_Event_railplan_api_Event_cfg⟩
theorem slices_Index_railplan_api_Event_railplan_api_Event_ents (n : Nat) : EntsOK Try.prog [] := trivial
theorem slices_Index_railplan_api_Event_railplan_api_Event_VC (n : Nat) : VCOk Try.prog (slices_Index_railplan_api_Event_railplan_api_Event_C n) := ⟨specOf_ok (slices_Index_railplan_api_Event_railplan_api_Event_ents n), (slices_Index_railplan_api_Event_railplan_api_Event_tt_eq ▸ mkTT_ok _ : TOk Try.prog slices_Index_railplan_api_Event_railplan_api_Event_tt), by kernel_rfl⟩
theorem slices_Index_railplan_api_Event_railplan_api_Event_p1_congr {R : Type} (n : Nat) (a0 : List (List D)) (a1_0 : Int) (a1_1 : Int) (a1_2 : Int) {k0 kk0 : Option R} (hq0 : k0 = kk0) : slices_Index_railplan_api_Event_railplan_api_Event_p1 n a0 a1_0 a1_1 a1_2 k0 = slices_Index_railplan_api_Event_railplan_api_Event_p1 n a0 a1_0 a1_1 a1_2 kk0 := by
  obtain rfl : k0 = kk0 := hq0
  rfl
theorem slices_Index_railplan_api_Event_railplan_api_Event_p2_congr {R : Type} (n : Nat) (a0 : List (List D)) (a1_0 : Int) (a1_1 : Int) (a1_2 : Int) {k0 kk0 : Int → Option R} (hq0 : ∀ x0, k0 x0 = kk0 x0) : slices_Index_railplan_api_Event_railplan_api_Event_p2 n a0 a1_0 a1_1 a1_2 k0 = slices_Index_railplan_api_Event_railplan_api_Event_p2 n a0 a1_0 a1_1 a1_2 kk0 := by
  obtain rfl : k0 = kk0 := funext fun x0 => hq0 x0
  rfl
theorem slices_Index_railplan_api_Event_railplan_api_Event_p3_congr {R : Type} (n : Nat) (a0 : List (List D)) (w2 : Int) (h5 : Int) (a1_0 : Int) (a1_1 : Int) (a1_2 : Int) {k0 kk0 : Option R} {k1 kk1 : Int → Option R} {k2 kk2 : Bool → Option R} (hq0 : k0 = kk0) (hq1 : ∀ x0, k1 x0 = kk1 x0) (hq2 : ∀ x0, k2 x0 = kk2 x0) : slices_Index_railplan_api_Event_railplan_api_Event_p3 n a0 w2 h5 a1_0 a1_1 a1_2 k0 k1 k2 = slices_Index_railplan_api_Event_railplan_api_Event_p3 n a0 w2 h5 a1_0 a1_1 a1_2 kk0 kk1 kk2 := by
  obtain rfl : k0 = kk0 := hq0
  obtain rfl : k1 = kk1 := funext fun x0 => hq1 x0
  obtain rfl : k2 = kk2 := funext fun x0 => hq2 x0
  rfl
theorem slices_Index_railplan_api_Event_railplan_api_Event_p4_congr {R : Type} (n : Nat) (a0 : List (List D)) (w2 : Int) (a1_0 : Int) (a1_1 : Int) (a1_2 : Int) {k0 kk0 : Int → Option R} {k1 kk1 : Int → Bool → Option R} (hq0 : ∀ x0, k0 x0 = kk0 x0) (hq1 : ∀ x0 x1, k1 x0 x1 = kk1 x0 x1) : slices_Index_railplan_api_Event_railplan_api_Event_p4 n a0 w2 a1_0 a1_1 a1_2 k0 k1 = slices_Index_railplan_api_Event_railplan_api_Event_p4 n a0 w2 a1_0 a1_1 a1_2 kk0 kk1 := by
  obtain rfl : k0 = kk0 := funext fun x0 => hq0 x0
  obtain rfl : k1 = kk1 := funext fun x0 => funext fun x1 => hq1 x0 x1
  rfl
theorem slices_Index_railplan_api_Event_railplan_api_Event_p5_congr {R : Type} (n : Nat) (a0 : List (List D)) (w2 : Int) (a1_0 : Int) (a1_1 : Int) (a1_2 : Int) {k0 kk0 : Int → Option R} {k1 kk1 : Int → Bool → Option R} (hq0 : ∀ x0, k0 x0 = kk0 x0) (hq1 : ∀ x0 x1, k1 x0 x1 = kk1 x0 x1) : slices_Index_railplan_api_Event_railplan_api_Event_p5 n a0 w2 a1_0 a1_1 a1_2 k0 k1 = slices_Index_railplan_api_Event_railplan_api_Event_p5 n a0 w2 a1_0 a1_1 a1_2 kk0 kk1 := by
  obtain rfl : k0 = kk0 := funext fun x0 => hq0 x0
  obtain rfl : k1 = kk1 := funext fun x0 => funext fun x1 => hq1 x0 x1
  rfl
theorem slices_Index_railplan_api_Event_railplan_api_Event_p6_congr {R : Type} (n : Nat) (a0 : List (List D)) (a1_0 : Int) (a1_1 : Int) (a1_2 : Int) {k0 kk0 : Int → Option R} {k1 kk1 : Int → Int → Bool → Option R} (hq0 : ∀ x0, k0 x0 = kk0 x0) (hq1 : ∀ x0 x1 x2, k1 x0 x1 x2 = kk1 x0 x1 x2) : slices_Index_railplan_api_Event_railplan_api_Event_p6 n a0 a1_0 a1_1 a1_2 k0 k1 = slices_Index_railplan_api_Event_railplan_api_Event_p6 n a0 a1_0 a1_1 a1_2 kk0 kk1 := by
  obtain rfl : k0 = kk0 := funext fun x0 => hq0 x0
  obtain rfl : k1 = kk1 := funext fun x0 => funext fun x1 => funext fun x2 => hq1 x0 x1 x2
  rfl
theorem slices_Index_railplan_api_Event_railplan_api_Event_p7_congr {R : Type} (n : Nat) (a0 : List (List D)) (w36 : Int) (w37 : Int) (w38 : Bool) (a1_0 : Int) (a1_1 : Int) (a1_2 : Int) {k0 kk0 : Option R} (hq0 : k0 = kk0) : slices_Index_railplan_api_Event_railplan_api_Event_p7 n a0 w36 w37 w38 a1_0 a1_1 a1_2 k0 = slices_Index_railplan_api_Event_railplan_api_Event_p7 n a0 w36 w37 w38 a1_0 a1_1 a1_2 kk0 := by
  obtain rfl : k0 = kk0 := hq0
  rfl
theorem slices_Index_railplan_api_Event_railplan_api_Event_p8_congr {R : Type} (n : Nat) (a0 : List (List D)) (a1_0 : Int) (a1_1 : Int) (a1_2 : Int) {k0 kk0 : Int → Option R} (hq0 : ∀ x0, k0 x0 = kk0 x0) : slices_Index_railplan_api_Event_railplan_api_Event_p8 n a0 a1_0 a1_1 a1_2 k0 = slices_Index_railplan_api_Event_railplan_api_Event_p8 n a0 a1_0 a1_1 a1_2 kk0 := by
  obtain rfl : k0 = kk0 := funext fun x0 => hq0 x0
  rfl
theorem slices_Index_railplan_api_Event_railplan_api_Event_p9_congr {R : Type} (n : Nat) (a0 : List (List D)) (a1_0 : Int) (a1_1 : Int) (a1_2 : Int) {k0 kk0 : Int → Option R} (hq0 : ∀ x0, k0 x0 = kk0 x0) : slices_Index_railplan_api_Event_railplan_api_Event_p9 n a0 a1_0 a1_1 a1_2 k0 = slices_Index_railplan_api_Event_railplan_api_Event_p9 n a0 a1_0 a1_1 a1_2 kk0 := by
  obtain rfl : k0 = kk0 := funext fun x0 => hq0 x0
  rfl
theorem slices_Index_railplan_api_Event_railplan_api_Event_p1_eq {R : Type} (n : Nat) (a0 : List (List D)) (a1_0 : Int) (a1_1 : Int) (a1_2 : Int) (k : Exit → St → Option R) : vexec (slices_Index_railplan_api_Event_railplan_api_Event_C n) n slices_Index_railplan_api_Event_railplan_api_Event_c1 ⟨19, [(0, .d (D.sl 3 a0)), (1, .ag [.d (D.int .i64 a1_0), .d (D.int .i64 a1_1), .d (D.int .i64 a1_2)])], []⟩ k = slices_Index_railplan_api_Event_railplan_api_Event_p1 n a0 a1_0 a1_1 a1_2 (k .normal ⟨19, [(0, .d (D.sl 3 a0)), (3, .ptr 3 0)], [(3, .box [.d (D.int .i64 a1_0), .d (D.int .i64 a1_1), .d (D.int .i64 a1_2)])]⟩) := by kernel_rfl
theorem slices_Index_railplan_api_Event_railplan_api_Event_p2_eq {R : Type} (n : Nat) (a0 : List (List D)) (a1_0 : Int) (a1_1 : Int) (a1_2 : Int) (k : Exit → St → Option R) : vexec (slices_Index_railplan_api_Event_railplan_api_Event_C n) n slices_Index_railplan_api_Event_railplan_api_Event_c2 ⟨19, [(0, .d (D.sl 3 a0)), (3, .ptr 3 0)], [(3, .box [.d (D.int .i64 a1_0), .d (D.int .i64 a1_1), .d (D.int .i64 a1_2)])]⟩ k = slices_Index_railplan_api_Event_railplan_api_Event_p2 n a0 a1_0 a1_1 a1_2 (fun z1 => k .normal ⟨19, [(0, .d (D.sl 3 a0)), (3, .ptr 3 0), (7, .d (D.int .i64 z1)), (8, .d (D.int .i64 (0 : Int)))], [(3, .box [.d (D.int .i64 a1_0), .d (D.int .i64 a1_1), .d (D.int .i64 a1_2)])]⟩) := by kernel_rfl
theorem slices_Index_railplan_api_Event_railplan_api_Event_p3_eq {R : Type} (n : Nat) (a0 : List (List D)) (w2 : Int) (h5 : Int) (a1_0 : Int) (a1_1 : Int) (a1_2 : Int) (k : Exit → St → Option R) : vexec (slices_Index_railplan_api_Event_railplan_api_Event_C n) n slices_Index_railplan_api_Event_railplan_api_Event_c3 ⟨19, [(0, .d (D.sl 3 a0)), (3, .ptr 3 0), (7, .d (D.int .i64 w2)), (8, .d (D.int .i64 h5))], [(3, .box [.d (D.int .i64 a1_0), .d (D.int .i64 a1_1), .d (D.int .i64 a1_2)])]⟩ k = slices_Index_railplan_api_Event_railplan_api_Event_p3 n a0 w2 h5 a1_0 a1_1 a1_2 (k .ret ⟨19, [(4, .d (D.int .i64 h5))], []⟩) (fun z25 => k .normal ⟨19, [(0, .d (D.sl 3 a0)), (3, .ptr 3 0), (7, .d (D.int .i64 w2)), (8, .d (D.int .i64 z25))], [(3, .box [.d (D.int .i64 a1_0), .d (D.int .i64 a1_1), .d (D.int .i64 a1_2)])]⟩) (fun z26 => k (.exit 0) ⟨19, [(0, .d (D.sl 3 a0)), (3, .ptr 3 0), (7, .d (D.int .i64 w2)), (8, .d (D.int .i64 h5)), (9, .d (D.bool z26))], [(3, .box [.d (D.int .i64 a1_0), .d (D.int .i64 a1_1), .d (D.int .i64 a1_2)])]⟩) := by kernel_rfl
theorem slices_Index_railplan_api_Event_railplan_api_Event_r4_eq {R : Type} (n : Nat) (a0 : List (List D)) (w2 : Int) (a1_0 : Int) (a1_1 : Int) (a1_2 : Int) (k : Exit → St → Option R) : ∀ (m : Nat) (h5 : Int), loopN (vexec (slices_Index_railplan_api_Event_railplan_api_Event_C n) n slices_Index_railplan_api_Event_railplan_api_Event_c3) m ⟨19, [(0, .d (D.sl 3 a0)), (3, .ptr 3 0), (7, .d (D.int .i64 w2)), (8, .d (D.int .i64 h5))], [(3, .box [.d (D.int .i64 a1_0), .d (D.int .i64 a1_1), .d (D.int .i64 a1_2)])]⟩ k = slices_Index_railplan_api_Event_railplan_api_Event_r4 n a0 w2 a1_0 a1_1 a1_2 (fun h5 => k .ret ⟨19, [(4, .d (D.int .i64 h5))], []⟩) (fun h5 w28 => k (.exit 0) ⟨19, [(0, .d (D.sl 3 a0)), (3, .ptr 3 0), (7, .d (D.int .i64 w2)), (8, .d (D.int .i64 h5)), (9, .d (D.bool w28))], [(3, .box [.d (D.int .i64 a1_0), .d (D.int .i64 a1_1), .d (D.int .i64 a1_2)])]⟩) m h5
  | 0, _ => rfl
  | m + 1, h5 => (slices_Index_railplan_api_Event_railplan_api_Event_p3_eq n a0 w2 h5 a1_0 a1_1 a1_2 (loopK (vexec (slices_Index_railplan_api_Event_railplan_api_Event_C n) n slices_Index_railplan_api_Event_railplan_api_Event_c3) m k)).trans (slices_Index_railplan_api_Event_railplan_api_Event_p3_congr n a0 w2 h5 a1_0 a1_1 a1_2 (rfl) (fun w27 => slices_Index_railplan_api_Event_railplan_api_Event_r4_eq n a0 w2 a1_0 a1_1 a1_2 k m w27) (fun w28 => rfl))
theorem slices_Index_railplan_api_Event_railplan_api_Event_p4_eq {R : Type} (n : Nat) (a0 : List (List D)) (w2 : Int) (a1_0 : Int) (a1_1 : Int) (a1_2 : Int) (k : Exit → St → Option R) : vexec (slices_Index_railplan_api_Event_railplan_api_Event_C n) n slices_Index_railplan_api_Event_railplan_api_Event_c4 ⟨19, [(0, .d (D.sl 3 a0)), (3, .ptr 3 0), (7, .d (D.int .i64 w2)), (8, .d (D.int .i64 (0 : Int)))], [(3, .box [.d (D.int .i64 a1_0), .d (D.int .i64 a1_1), .d (D.int .i64 a1_2)])]⟩ k = slices_Index_railplan_api_Event_railplan_api_Event_p4 n a0 w2 a1_0 a1_1 a1_2 (fun h5 => k .ret ⟨19, [(4, .d (D.int .i64 h5))], []⟩) (fun h5 w28 => k (.exit 0) ⟨19, [(0, .d (D.sl 3 a0)), (3, .ptr 3 0), (7, .d (D.int .i64 w2)), (8, .d (D.int .i64 h5)), (9, .d (D.bool w28))], [(3, .box [.d (D.int .i64 a1_0), .d (D.int .i64 a1_1), .d (D.int .i64 a1_2)])]⟩) := by
  rw [slices_Index_railplan_api_Event_railplan_api_Event_c4_eq]
  exact slices_Index_railplan_api_Event_railplan_api_Event_r4_eq n a0 w2 a1_0 a1_1 a1_2 k n (0 : Int)
theorem slices_Index_railplan_api_Event_railplan_api_Event_p5_eq {R : Type} (n : Nat) (a0 : List (List D)) (w2 : Int) (a1_0 : Int) (a1_1 : Int) (a1_2 : Int) (k : Exit → St → Option R) : vexec (slices_Index_railplan_api_Event_railplan_api_Event_C n) n slices_Index_railplan_api_Event_railplan_api_Event_c5 ⟨19, [(0, .d (D.sl 3 a0)), (3, .ptr 3 0), (7, .d (D.int .i64 w2)), (8, .d (D.int .i64 (0 : Int)))], [(3, .box [.d (D.int .i64 a1_0), .d (D.int .i64 a1_1), .d (D.int .i64 a1_2)])]⟩ k = slices_Index_railplan_api_Event_railplan_api_Event_p5 n a0 w2 a1_0 a1_1 a1_2 (fun w29 => k .ret ⟨19, [(4, .d (D.int .i64 w29))], []⟩) (fun w30 w31 => k .normal ⟨19, [(0, .d (D.sl 3 a0)), (3, .ptr 3 0), (7, .d (D.int .i64 w2)), (8, .d (D.int .i64 w30)), (9, .d (D.bool w31))], [(3, .box [.d (D.int .i64 a1_0), .d (D.int .i64 a1_1), .d (D.int .i64 a1_2)])]⟩) := by
  rw [slices_Index_railplan_api_Event_railplan_api_Event_c5_eq]
  unfold slices_Index_railplan_api_Event_railplan_api_Event_p5
  exact (slices_Index_railplan_api_Event_railplan_api_Event_p4_eq n a0 w2 a1_0 a1_1 a1_2 (blockK 0 k)).trans (slices_Index_railplan_api_Event_railplan_api_Event_p4_congr n a0 w2 a1_0 a1_1 a1_2 (fun w29 => rfl) (fun w30 w31 => rfl))
theorem slices_Index_railplan_api_Event_railplan_api_Event_p6_eq {R : Type} (n : Nat) (a0 : List (List D)) (a1_0 : Int) (a1_1 : Int) (a1_2 : Int) (k : Exit → St → Option R) : vexec (slices_Index_railplan_api_Event_railplan_api_Event_C n) n slices_Index_railplan_api_Event_railplan_api_Event_c6 ⟨19, [(0, .d (D.sl 3 a0)), (3, .ptr 3 0)], [(3, .box [.d (D.int .i64 a1_0), .d (D.int .i64 a1_1), .d (D.int .i64 a1_2)])]⟩ k = slices_Index_railplan_api_Event_railplan_api_Event_p6 n a0 a1_0 a1_1 a1_2 (fun w32 => k .ret ⟨19, [(4, .d (D.int .i64 w32))], []⟩) (fun w2 w33 w34 => k .normal ⟨19, [(0, .d (D.sl 3 a0)), (3, .ptr 3 0), (7, .d (D.int .i64 w2)), (8, .d (D.int .i64 w33)), (9, .d (D.bool w34))], [(3, .box [.d (D.int .i64 a1_0), .d (D.int .i64 a1_1), .d (D.int .i64 a1_2)])]⟩) := by
  rw [slices_Index_railplan_api_Event_railplan_api_Event_c6_eq]
  unfold slices_Index_railplan_api_Event_railplan_api_Event_p6
  exact (slices_Index_railplan_api_Event_railplan_api_Event_p2_eq n a0 a1_0 a1_1 a1_2 (seqK (slices_Index_railplan_api_Event_railplan_api_Event_C n) n slices_Index_railplan_api_Event_railplan_api_Event_c5 k)).trans (slices_Index_railplan_api_Event_railplan_api_Event_p2_congr n a0 a1_0 a1_1 a1_2 (fun w2 => slices_Index_railplan_api_Event_railplan_api_Event_p5_eq n a0 w2 a1_0 a1_1 a1_2 k))
theorem slices_Index_railplan_api_Event_railplan_api_Event_p7_eq {R : Type} (n : Nat) (a0 : List (List D)) (w36 : Int) (w37 : Int) (w38 : Bool) (a1_0 : Int) (a1_1 : Int) (a1_2 : Int) (k : Exit → St → Option R) : vexec (slices_Index_railplan_api_Event_railplan_api_Event_C n) n slices_Index_railplan_api_Event_railplan_api_Event_c7 ⟨19, [(0, .d (D.sl 3 a0)), (3, .ptr 3 0), (7, .d (D.int .i64 w36)), (8, .d (D.int .i64 w37)), (9, .d (D.bool w38))], [(3, .box [.d (D.int .i64 a1_0), .d (D.int .i64 a1_1), .d (D.int .i64 a1_2)])]⟩ k = slices_Index_railplan_api_Event_railplan_api_Event_p7 n a0 w36 w37 w38 a1_0 a1_1 a1_2 (k .ret ⟨19, [(4, .d (D.int .i64 (-1 : Int)))], []⟩) := by kernel_rfl
theorem slices_Index_railplan_api_Event_railplan_api_Event_p8_eq {R : Type} (n : Nat) (a0 : List (List D)) (a1_0 : Int) (a1_1 : Int) (a1_2 : Int) (k : Exit → St → Option R) : vexec (slices_Index_railplan_api_Event_railplan_api_Event_C n) n slices_Index_railplan_api_Event_railplan_api_Event_c8 ⟨19, [(0, .d (D.sl 3 a0)), (3, .ptr 3 0)], [(3, .box [.d (D.int .i64 a1_0), .d (D.int .i64 a1_1), .d (D.int .i64 a1_2)])]⟩ k = slices_Index_railplan_api_Event_railplan_api_Event_p8 n a0 a1_0 a1_1 a1_2 (fun z39 => k .ret ⟨19, [(4, .d (D.int .i64 z39))], []⟩) := by
  rw [slices_Index_railplan_api_Event_railplan_api_Event_c8_eq]
  unfold slices_Index_railplan_api_Event_railplan_api_Event_p8
  exact (slices_Index_railplan_api_Event_railplan_api_Event_p6_eq n a0 a1_0 a1_1 a1_2 (seqK (slices_Index_railplan_api_Event_railplan_api_Event_C n) n slices_Index_railplan_api_Event_railplan_api_Event_c7 k)).trans (slices_Index_railplan_api_Event_railplan_api_Event_p6_congr n a0 a1_0 a1_1 a1_2 (fun w35 => rfl) (fun w36 w37 w38 => slices_Index_railplan_api_Event_railplan_api_Event_p7_eq n a0 w36 w37 w38 a1_0 a1_1 a1_2 k))
theorem slices_Index_railplan_api_Event_railplan_api_Event_p9_eq {R : Type} (n : Nat) (a0 : List (List D)) (a1_0 : Int) (a1_1 : Int) (a1_2 : Int) (k : Exit → St → Option R) : vexec (slices_Index_railplan_api_Event_railplan_api_Event_C n) n slices_Index_railplan_api_Event_railplan_api_Event_c0 ⟨19, [(0, .d (D.sl 3 a0)), (1, .ag [.d (D.int .i64 a1_0), .d (D.int .i64 a1_1), .d (D.int .i64 a1_2)])], []⟩ k = slices_Index_railplan_api_Event_railplan_api_Event_p9 n a0 a1_0 a1_1 a1_2 (fun w40 => k .ret ⟨19, [(4, .d (D.int .i64 w40))], []⟩) := by
  rw [slices_Index_railplan_api_Event_railplan_api_Event_c0_eq]
  unfold slices_Index_railplan_api_Event_railplan_api_Event_p9
  exact (slices_Index_railplan_api_Event_railplan_api_Event_p1_eq n a0 a1_0 a1_1 a1_2 (seqK (slices_Index_railplan_api_Event_railplan_api_Event_C n) n slices_Index_railplan_api_Event_railplan_api_Event_c8 k)).trans (slices_Index_railplan_api_Event_railplan_api_Event_p1_congr n a0 a1_0 a1_1 a1_2 (slices_Index_railplan_api_Event_railplan_api_Event_p8_eq n a0 a1_0 a1_1 a1_2 k))
theorem slices_Index_railplan_api_Event_railplan_api_Event_vfn {R : Type} (n : Nat) (a0 : List (List D)) (a1_0 : Int) (a1_1 : Int) (a1_2 : Int) (K : AV → Option R) : vfn (slices_Index_railplan_api_Event_railplan_api_Event_C n) n Try.f29 [.d (D.sl 3 a0), .ag [.d (D.int .i64 a1_0), .d (D.int .i64 a1_1), .d (D.int .i64 a1_2)]] [] (retF [[0]] K) = slices_Index_railplan_api_Event_railplan_api_Event n a0 a1_0 a1_1 a1_2 (fun r0 => K (.d (D.int .i64 r0))) :=
  (show vfn (slices_Index_railplan_api_Event_railplan_api_Event_C n) n Try.f29 [.d (D.sl 3 a0), .ag [.d (D.int .i64 a1_0), .d (D.int .i64 a1_1), .d (D.int .i64 a1_2)]] [] (retF [[0]] K) = vexec (slices_Index_railplan_api_Event_railplan_api_Event_C n) n slices_Index_railplan_api_Event_railplan_api_Event_c0 ⟨19, [(0, .d (D.sl 3 a0)), (1, .ag [.d (D.int .i64 a1_0), .d (D.int .i64 a1_1), .d (D.int .i64 a1_2)])], []⟩ (retX slices_Index_railplan_api_Event_railplan_api_Event_tt [.tmp 4] (retF [[0]] K)) from vfn_at (by kernel_rfl) (by kernel_rfl) rfl (by kernel_rfl) rfl (by kernel_rfl) rfl).trans ((slices_Index_railplan_api_Event_railplan_api_Event_p9_eq n a0 a1_0 a1_1 a1_2 (retX slices_Index_railplan_api_Event_railplan_api_Event_tt [.tmp 4] (retF [[0]] K))).trans (by kernel_rfl))
def slices_Index_railplan_api_Event_railplan_api_Event_K : AV → Option (Int) := fun av => match av with
  | .d (D.int .i64 r0) => some r0
  | _ => none
def slices_Index_railplan_api_Event_railplan_api_Event_e (n : Nat) : Entry := fun _ _ g avs _ k => match avs with
  | [c0, c1] => prS g 3 c0 fun a0 => 
    prG c1 fun l1 => (match l1 with
    | [c1_0, c1_1, c1_2] => prI g .i64 c1_0 fun a1_0 => prI g .i64 c1_1 fun a1_1 => prI g .i64 c1_2 fun a1_2 => 
    gb g (slices_Index_railplan_api_Event_railplan_api_Event n a0 a1_0 a1_1 a1_2 some) 0 fun r => k ⟨.d (D.int .i64 r), [], []⟩
    | _ => none)
  | _ => none
theorem slices_Index_railplan_api_Event_railplan_api_Event_ok (n : Nat) : EntryOK Try.prog 29 (slices_Index_railplan_api_Event_railplan_api_Event_e n) := by
  intro R site g avs hl k r h
  unfold slices_Index_railplan_api_Event_railplan_api_Event_e at h
  split at h
  rotate_left
  · cases h
  replace h := prS_some h
  obtain ⟨a0, h, le0⟩ := h
  replace h := prG_some h
  obtain ⟨l1, h, e1⟩ := h
  subst e1
  split at h
  rotate_left
  · cases h
  replace h := prI_some h
  obtain ⟨a1_0, h, le1⟩ := h
  replace h := prI_some h
  obtain ⟨a1_1, h, le2⟩ := h
  replace h := prI_some h
  obtain ⟨a1_2, h, le3⟩ := h
  replace h := gb_some h
  obtain ⟨res, h, hr⟩ := h
  refine ⟨_, h, fun hg => CallOK.conv (avs' := [.d (D.sl 3 a0), .ag [.d (D.int .i64 a1_0), .d (D.int .i64 a1_1), .d (D.int .i64 a1_2)]]) (.cons (le0 hg) (.cons (.ag (.cons (le1 hg) (.cons (le2 hg) (.cons (le3 hg) (.nil))))) (.nil))) (callOK_fix (K := slices_Index_railplan_api_Event_railplan_api_Event_K) (res := res) (slices_Index_railplan_api_Event_railplan_api_Event_VC n) (fn := Try.f29) (n := n) (by kernel_rfl) (by kernel_rfl) (by kernel_rfl) (ss := [[0]]) rfl ?_ ?_)⟩
  · exact (slices_Index_railplan_api_Event_railplan_api_Event_vfn n a0 a1_0 a1_1 a1_2 slices_Index_railplan_api_Event_railplan_api_Event_K).trans (hr hg)
  · intro x hx
    unfold slices_Index_railplan_api_Event_railplan_api_Event_K at hx
    split at hx
    · injection hx with hx; subst hx; rfl
    · cases hx
end Go.Vx
/-
  network_Index: the interpreter computes the pure function
-/
set_option linter.unusedVariables false
set_option linter.unusedSimpArgs false
set_option maxRecDepth 100000
namespace Go.Vx
open Go.Proofs
noncomputable def network_Index_c0 : Code := bodyOf Try.f20
def network_Index_tt : TT := [(23, ⟨.sl 46 3, 1, 24, [.slice none 0 0], [.sl 3 []], [], none⟩), (26, ⟨.struct, 3, 56, [.int .i64 0, .slice none 0 0, .slice none 0 0], [.int .i64 0, .sl 3 [], .sl 6 []], [(0, 3), (1, 23), (2, 24)], none⟩), (46, ⟨.struct, 3, 24, [.int .i64 0, .int .i64 0, .int .i64 0], [.int .i64 0, .int .i64 0, .int .i64 0], [(0, 3), (1, 3), (2, 3)], some [.int .i64, .int .i64, .int .i64]⟩)]
theorem network_Index_tt_eq : mkTT Try.prog [23, 26, 46] = network_Index_tt := by kernel_rfl
def network_Index_cfg : List (Nat × Cfg) := [(0, ⟨[2, 3], [(2, 2), (3, 3)], [], [], []⟩), (1, ⟨[4], [], [], [], []⟩)]
def network_Index_C (n : Nat) : VC := ⟨specOf [(29, slices_Index_railplan_api_Event_railplan_api_Event_e n)], network_Index_tt, network_Index_cfg⟩
theorem network_Index_ents (n : Nat) : EntsOK Try.prog [(29, slices_Index_railplan_api_Event_railplan_api_Event_e n)] := ⟨slices_Index_railplan_api_Event_railplan_api_Event_ok n, trivial⟩
theorem network_Index_VC (n : Nat) : VCOk Try.prog (network_Index_C n) := ⟨specOf_ok (network_Index_ents n), (network_Index_tt_eq ▸ mkTT_ok _ : TOk Try.prog network_Index_tt), by kernel_rfl⟩
theorem network_Index_p1_congr {R : Type} (n : Nat) (a0_0 : Int) (a0_1 : List (List D)) (a0_2 : List (List D)) (a1_0 : Int) (a1_1 : Int) (a1_2 : Int) {k0 kk0 : Int → Option R} (hq0 : ∀ x0, k0 x0 = kk0 x0) : network_Index_p1 n a0_0 a0_1 a0_2 a1_0 a1_1 a1_2 k0 = network_Index_p1 n a0_0 a0_1 a0_2 a1_0 a1_1 a1_2 kk0 := by
  obtain rfl : k0 = kk0 := funext fun x0 => hq0 x0
  rfl
theorem network_Index_p1_eq {R : Type} (n : Nat) (a0_0 : Int) (a0_1 : List (List D)) (a0_2 : List (List D)) (a1_0 : Int) (a1_1 : Int) (a1_2 : Int) (k : Exit → St → Option R) : vexec (network_Index_C n) n network_Index_c0 ⟨9, [(0, .ag [.d (D.int .i64 a0_0), .d (D.sl 3 a0_1), .d (D.sl 6 a0_2)]), (1, .ag [.d (D.int .i64 a1_0), .d (D.int .i64 a1_1), .d (D.int .i64 a1_2)])], []⟩ k = network_Index_p1 n a0_0 a0_1 a0_2 a1_0 a1_1 a1_2 (fun r1 => k .ret ⟨9, [(4, .d (D.int .i64 r1))], []⟩) := by kernel_rfl
theorem network_Index_vfn {R : Type} (n : Nat) (a0_0 : Int) (a0_1 : List (List D)) (a0_2 : List (List D)) (a1_0 : Int) (a1_1 : Int) (a1_2 : Int) (K : AV → Option R) : vfn (network_Index_C n) n Try.f20 [.ag [.d (D.int .i64 a0_0), .d (D.sl 3 a0_1), .d (D.sl 6 a0_2)], .ag [.d (D.int .i64 a1_0), .d (D.int .i64 a1_1), .d (D.int .i64 a1_2)]] [] (retF [[0]] K) = network_Index n a0_0 a0_1 a0_2 a1_0 a1_1 a1_2 (fun r0 => K (.d (D.int .i64 r0))) :=
  (show vfn (network_Index_C n) n Try.f20 [.ag [.d (D.int .i64 a0_0), .d (D.sl 3 a0_1), .d (D.sl 6 a0_2)], .ag [.d (D.int .i64 a1_0), .d (D.int .i64 a1_1), .d (D.int .i64 a1_2)]] [] (retF [[0]] K) = vexec (network_Index_C n) n network_Index_c0 ⟨9, [(0, .ag [.d (D.int .i64 a0_0), .d (D.sl 3 a0_1), .d (D.sl 6 a0_2)]), (1, .ag [.d (D.int .i64 a1_0), .d (D.int .i64 a1_1), .d (D.int .i64 a1_2)])], []⟩ (retX network_Index_tt [.tmp 4] (retF [[0]] K)) from vfn_at (by kernel_rfl) (by kernel_rfl) rfl (by kernel_rfl) rfl (by kernel_rfl) rfl).trans ((network_Index_p1_eq n a0_0 a0_1 a0_2 a1_0 a1_1 a1_2 (retX network_Index_tt [.tmp 4] (retF [[0]] K))).trans (by kernel_rfl))
def network_Index_K : AV → Option (Int) := fun av => match av with
  | .d (D.int .i64 r0) => some r0
  | _ => none
def network_Index_e (n : Nat) : Entry := fun _ _ g avs _ k => match avs with
  | [c0, c1] => 
    prG c0 fun l0 => (match l0 with
    | [c0_0, c0_1, c0_2] => prI g .i64 c0_0 fun a0_0 => prS g 3 c0_1 fun a0_1 => prS g 6 c0_2 fun a0_2 => 
    prG c1 fun l1 => (match l1 with
    | [c1_0, c1_1, c1_2] => prI g .i64 c1_0 fun a1_0 => prI g .i64 c1_1 fun a1_1 => prI g .i64 c1_2 fun a1_2 => 
    gb g (network_Index n a0_0 a0_1 a0_2 a1_0 a1_1 a1_2 some) 0 fun r => k ⟨.d (D.int .i64 r), [], []⟩
    | _ => none)
    | _ => none)
  | _ => none
theorem network_Index_ok (n : Nat) : EntryOK Try.prog 20 (network_Index_e n) := by
  intro R site g avs hl k r h
  unfold network_Index_e at h
  split at h
  rotate_left
  · cases h
  replace h := prG_some h
  obtain ⟨l0, h, e0⟩ := h
  subst e0
  split at h
  rotate_left
  · cases h
  replace h := prI_some h
  obtain ⟨a0_0, h, le0⟩ := h
  replace h := prS_some h
  obtain ⟨a0_1, h, le1⟩ := h
  replace h := prS_some h
  obtain ⟨a0_2, h, le2⟩ := h
  replace h := prG_some h
  obtain ⟨l1, h, e1⟩ := h
  subst e1
  split at h
  rotate_left
  · cases h
  replace h := prI_some h
  obtain ⟨a1_0, h, le3⟩ := h
  replace h := prI_some h
  obtain ⟨a1_1, h, le4⟩ := h
  replace h := prI_some h
  obtain ⟨a1_2, h, le5⟩ := h
  replace h := gb_some h
  obtain ⟨res, h, hr⟩ := h
  refine ⟨_, h, fun hg => CallOK.conv (avs' := [.ag [.d (D.int .i64 a0_0), .d (D.sl 3 a0_1), .d (D.sl 6 a0_2)], .ag [.d (D.int .i64 a1_0), .d (D.int .i64 a1_1), .d (D.int .i64 a1_2)]]) (.cons (.ag (.cons (le0 hg) (.cons (le1 hg) (.cons (le2 hg) (.nil))))) (.cons (.ag (.cons (le3 hg) (.cons (le4 hg) (.cons (le5 hg) (.nil))))) (.nil))) (callOK_fix (K := network_Index_K) (res := res) (network_Index_VC n) (fn := Try.f20) (n := n) (by kernel_rfl) (by kernel_rfl) (by kernel_rfl) (ss := [[0]]) rfl ?_ ?_)⟩
  · exact (network_Index_vfn n a0_0 a0_1 a0_2 a1_0 a1_1 a1_2 network_Index_K).trans (hr hg)
  · intro x hx
    unfold network_Index_K at hx
    split at hx
    · injection hx with hx; subst hx; rfl
    · cases hx
end Go.Vx
/-
  ref11_Index: the interpreter computes the pure function
-/
set_option linter.unusedVariables false
set_option linter.unusedSimpArgs false
set_option maxRecDepth 100000
namespace Go.Vx
open Go.Proofs
noncomputable def ref11_Index_c0 : Code := bodyOf Try.f35
noncomputable def ref11_Index_c1 : Code := cL (bodyOf Try.f35)
noncomputable def ref11_Index_c2 : Code := cL (cL (cR (bodyOf Try.f35)))
noncomputable def ref11_Index_c3 : Code := cB (cB (cR (cL (cR (bodyOf Try.f35)))))
noncomputable def ref11_Index_c4 : Code := cB (cR (cL (cR (bodyOf Try.f35))))
noncomputable def ref11_Index_c5 : Code := cR (cL (cR (bodyOf Try.f35)))
noncomputable def ref11_Index_c6 : Code := cL (cR (bodyOf Try.f35))
noncomputable def ref11_Index_c7 : Code := cR (cR (bodyOf Try.f35))
noncomputable def ref11_Index_c8 : Code := cR (bodyOf Try.f35)
theorem ref11_Index_c4_eq : ref11_Index_c4 = .loop ref11_Index_c3 := by kernel_rfl
theorem ref11_Index_c5_eq : ref11_Index_c5 = .block 0 ref11_Index_c4 := by kernel_rfl
theorem ref11_Index_c6_eq : ref11_Index_c6 = .seq ref11_Index_c2 ref11_Index_c5 := by kernel_rfl
theorem ref11_Index_c8_eq : ref11_Index_c8 = .seq ref11_Index_c6 ref11_Index_c7 := by kernel_rfl
theorem ref11_Index_c0_eq : ref11_Index_c0 = .seq ref11_Index_c1 ref11_Index_c8 := by kernel_rfl
def ref11_Index_tt : TT := [(3, ⟨.int .i64, 1, 8, [.int .i64 0], [.int .i64 0], [], none⟩), (23, ⟨.sl 46 3, 1, 24, [.slice none 0 0], [.sl 3 []], [], none⟩), (26, ⟨.struct, 3, 56, [.int .i64 0, .slice none 0 0, .slice none 0 0], [.int .i64 0, .sl 3 [], .sl 6 []], [(0, 3), (1, 23), (2, 24)], none⟩), (46, ⟨.struct, 3, 24, [.int .i64 0, .int .i64 0, .int .i64 0], [.int .i64 0, .int .i64 0, .int .i64 0], [(0, 3), (1, 3), (2, 3)], some [.int .i64, .int .i64, .int .i64]⟩)]
theorem ref11_Index_tt_eq : mkTT Try.prog [3, 23, 26, 46] = ref11_Index_tt := by kernel_rfl
def ref11_Index_cfg : List (Nat × Cfg) := [(0, ⟨[2, 3], [(2, 2), (3, 3)], [], [], []⟩), (1, ⟨[2, 3, 5], [(2, 2), (3, 3)], [], [], []⟩), (2, ⟨[2, 3, 5, 10], [(2, 2), (3, 3)], [], [], []⟩), (3, ⟨[2, 3, 5], [(2, 2), (3, 3)], [], [], []⟩), (4, ⟨[2, 3, 5, 19], [(2, 2), (3, 3)], [], [], []⟩), (5, ⟨[4], [], [], [], []⟩), (6, ⟨[4], [], [], [], []⟩)]
def ref11_Index_C (n : Nat) : VC := ⟨specOf [], ref11_Index_tt, ref11_Index_cfg⟩
theorem ref11_Index_ents (n : Nat) : EntsOK Try.prog [] := trivial
theorem ref11_Index_VC (n : Nat) : VCOk Try.prog (ref11_Index_C n) := ⟨specOf_ok (ref11_Index_ents n), (ref11_Index_tt_eq ▸ mkTT_ok _ : TOk Try.prog ref11_Index_tt), by kernel_rfl⟩
theorem ref11_Index_p1_congr {R : Type} (n : Nat) (a0_0 : Int) (a0_1 : List (List D)) (a0_2 : List (List D)) (a1_0 : Int) (a1_1 : Int) (a1_2 : Int) {k0 kk0 : Option R} (hq0 : k0 = kk0) : ref11_Index_p1 n a0_0 a0_1 a0_2 a1_0 a1_1 a1_2 k0 = ref11_Index_p1 n a0_0 a0_1 a0_2 a1_0 a1_1 a1_2 kk0 := by
  obtain rfl : k0 = kk0 := hq0
  rfl
theorem ref11_Index_p2_congr {R : Type} (n : Nat) (a0_0 : Int) (a0_1 : List (List D)) (a0_2 : List (List D)) (a1_0 : Int) (a1_1 : Int) (a1_2 : Int) {k0 kk0 : Option R} (hq0 : k0 = kk0) : ref11_Index_p2 n a0_0 a0_1 a0_2 a1_0 a1_1 a1_2 k0 = ref11_Index_p2 n a0_0 a0_1 a0_2 a1_0 a1_1 a1_2 kk0 := by
  obtain rfl : k0 = kk0 := hq0
  rfl
theorem ref11_Index_p3_congr {R : Type} (n : Nat) (h1 : Int) (a0_0 : Int) (a0_1 : List (List D)) (a0_2 : List (List D)) (a1_0 : Int) (a1_1 : Int) (a1_2 : Int) {k0 kk0 : Option R} {k1 kk1 : Int → Option R} {k2 kk2 : Bool → Option R} (hq0 : k0 = kk0) (hq1 : ∀ x0, k1 x0 = kk1 x0) (hq2 : ∀ x0, k2 x0 = kk2 x0) : ref11_Index_p3 n h1 a0_0 a0_1 a0_2 a1_0 a1_1 a1_2 k0 k1 k2 = ref11_Index_p3 n h1 a0_0 a0_1 a0_2 a1_0 a1_1 a1_2 kk0 kk1 kk2 := by
  obtain rfl : k0 = kk0 := hq0
  obtain rfl : k1 = kk1 := funext fun x0 => hq1 x0
  obtain rfl : k2 = kk2 := funext fun x0 => hq2 x0
  rfl
theorem ref11_Index_p4_congr {R : Type} (n : Nat) (a0_0 : Int) (a0_1 : List (List D)) (a0_2 : List (List D)) (a1_0 : Int) (a1_1 : Int) (a1_2 : Int) {k0 kk0 : Int → Option R} {k1 kk1 : Int → Bool → Option R} (hq0 : ∀ x0, k0 x0 = kk0 x0) (hq1 : ∀ x0 x1, k1 x0 x1 = kk1 x0 x1) : ref11_Index_p4 n a0_0 a0_1 a0_2 a1_0 a1_1 a1_2 k0 k1 = ref11_Index_p4 n a0_0 a0_1 a0_2 a1_0 a1_1 a1_2 kk0 kk1 := by
  obtain rfl : k0 = kk0 := funext fun x0 => hq0 x0
  obtain rfl : k1 = kk1 := funext fun x0 => funext fun x1 => hq1 x0 x1
  rfl
theorem ref11_Index_p5_congr {R : Type} (n : Nat) (a0_0 : Int) (a0_1 : List (List D)) (a0_2 : List (List D)) (a1_0 : Int) (a1_1 : Int) (a1_2 : Int) {k0 kk0 : Int → Option R} {k1 kk1 : Int → Bool → Option R} (hq0 : ∀ x0, k0 x0 = kk0 x0) (hq1 : ∀ x0 x1, k1 x0 x1 = kk1 x0 x1) : ref11_Index_p5 n a0_0 a0_1 a0_2 a1_0 a1_1 a1_2 k0 k1 = ref11_Index_p5 n a0_0 a0_1 a0_2 a1_0 a1_1 a1_2 kk0 kk1 := by
  obtain rfl : k0 = kk0 := funext fun x0 => hq0 x0
  obtain rfl : k1 = kk1 := funext fun x0 => funext fun x1 => hq1 x0 x1
  rfl
theorem ref11_Index_p6_congr {R : Type} (n : Nat) (a0_0 : Int) (a0_1 : List (List D)) (a0_2 : List (List D)) (a1_0 : Int) (a1_1 : Int) (a1_2 : Int) {k0 kk0 : Int → Option R} {k1 kk1 : Int → Bool → Option R} (hq0 : ∀ x0, k0 x0 = kk0 x0) (hq1 : ∀ x0 x1, k1 x0 x1 = kk1 x0 x1) : ref11_Index_p6 n a0_0 a0_1 a0_2 a1_0 a1_1 a1_2 k0 k1 = ref11_Index_p6 n a0_0 a0_1 a0_2 a1_0 a1_1 a1_2 kk0 kk1 := by
  obtain rfl : k0 = kk0 := funext fun x0 => hq0 x0
  obtain rfl : k1 = kk1 := funext fun x0 => funext fun x1 => hq1 x0 x1
  rfl
theorem ref11_Index_p7_congr {R : Type} (n : Nat) (w35 : Int) (w36 : Bool) (a0_0 : Int) (a0_1 : List (List D)) (a0_2 : List (List D)) (a1_0 : Int) (a1_1 : Int) (a1_2 : Int) {k0 kk0 : Option R} (hq0 : k0 = kk0) : ref11_Index_p7 n w35 w36 a0_0 a0_1 a0_2 a1_0 a1_1 a1_2 k0 = ref11_Index_p7 n w35 w36 a0_0 a0_1 a0_2 a1_0 a1_1 a1_2 kk0 := by
  obtain rfl : k0 = kk0 := hq0
  rfl
theorem ref11_Index_p8_congr {R : Type} (n : Nat) (a0_0 : Int) (a0_1 : List (List D)) (a0_2 : List (List D)) (a1_0 : Int) (a1_1 : Int) (a1_2 : Int) {k0 kk0 : Int → Option R} (hq0 : ∀ x0, k0 x0 = kk0 x0) : ref11_Index_p8 n a0_0 a0_1 a0_2 a1_0 a1_1 a1_2 k0 = ref11_Index_p8 n a0_0 a0_1 a0_2 a1_0 a1_1 a1_2 kk0 := by
  obtain rfl : k0 = kk0 := funext fun x0 => hq0 x0
  rfl
theorem ref11_Index_p9_congr {R : Type} (n : Nat) (a0_0 : Int) (a0_1 : List (List D)) (a0_2 : List (List D)) (a1_0 : Int) (a1_1 : Int) (a1_2 : Int) {k0 kk0 : Int → Option R} (hq0 : ∀ x0, k0 x0 = kk0 x0) : ref11_Index_p9 n a0_0 a0_1 a0_2 a1_0 a1_1 a1_2 k0 = ref11_Index_p9 n a0_0 a0_1 a0_2 a1_0 a1_1 a1_2 kk0 := by
  obtain rfl : k0 = kk0 := funext fun x0 => hq0 x0
  rfl
theorem ref11_Index_p1_eq {R : Type} (n : Nat) (a0_0 : Int) (a0_1 : List (List D)) (a0_2 : List (List D)) (a1_0 : Int) (a1_1 : Int) (a1_2 : Int) (k : Exit → St → Option R) : vexec (ref11_Index_C n) n ref11_Index_c1 ⟨21, [(0, .ag [.d (D.int .i64 a0_0), .d (D.sl 3 a0_1), .d (D.sl 6 a0_2)]), (1, .ag [.d (D.int .i64 a1_0), .d (D.int .i64 a1_1), .d (D.int .i64 a1_2)])], []⟩ k = ref11_Index_p1 n a0_0 a0_1 a0_2 a1_0 a1_1 a1_2 (k .normal ⟨21, [(2, .ptr 2 0), (3, .ptr 3 0)], [(2, .box [.d (D.int .i64 a0_0), .d (D.sl 3 a0_1), .d (D.sl 6 a0_2)]), (3, .box [.d (D.int .i64 a1_0), .d (D.int .i64 a1_1), .d (D.int .i64 a1_2)])]⟩) := by kernel_rfl
theorem ref11_Index_p2_eq {R : Type} (n : Nat) (a0_0 : Int) (a0_1 : List (List D)) (a0_2 : List (List D)) (a1_0 : Int) (a1_1 : Int) (a1_2 : Int) (k : Exit → St → Option R) : vexec (ref11_Index_C n) n ref11_Index_c2 ⟨21, [(2, .ptr 2 0), (3, .ptr 3 0)], [(2, .box [.d (D.int .i64 a0_0), .d (D.sl 3 a0_1), .d (D.sl 6 a0_2)]), (3, .box [.d (D.int .i64 a1_0), .d (D.int .i64 a1_1), .d (D.int .i64 a1_2)])]⟩ k = ref11_Index_p2 n a0_0 a0_1 a0_2 a1_0 a1_1 a1_2 (k .normal ⟨21, [(2, .ptr 2 0), (3, .ptr 3 0), (5, .d (D.int .i64 (0 : Int)))], [(2, .box [.d (D.int .i64 a0_0), .d (D.sl 3 a0_1), .d (D.sl 6 a0_2)]), (3, .box [.d (D.int .i64 a1_0), .d (D.int .i64 a1_1), .d (D.int .i64 a1_2)])]⟩) := by kernel_rfl
theorem ref11_Index_p3_eq {R : Type} (n : Nat) (h1 : Int) (a0_0 : Int) (a0_1 : List (List D)) (a0_2 : List (List D)) (a1_0 : Int) (a1_1 : Int) (a1_2 : Int) (k : Exit → St → Option R) : vexec (ref11_Index_C n) n ref11_Index_c3 ⟨21, [(2, .ptr 2 0), (3, .ptr 3 0), (5, .d (D.int .i64 h1))], [(2, .box [.d (D.int .i64 a0_0), .d (D.sl 3 a0_1), .d (D.sl 6 a0_2)]), (3, .box [.d (D.int .i64 a1_0), .d (D.int .i64 a1_1), .d (D.int .i64 a1_2)])]⟩ k = ref11_Index_p3 n h1 a0_0 a0_1 a0_2 a1_0 a1_1 a1_2 (k .ret ⟨21, [(4, .d (D.int .i64 h1))], []⟩) (fun z24 => k .normal ⟨21, [(2, .ptr 2 0), (3, .ptr 3 0), (5, .d (D.int .i64 z24))], [(2, .box [.d (D.int .i64 a0_0), .d (D.sl 3 a0_1), .d (D.sl 6 a0_2)]), (3, .box [.d (D.int .i64 a1_0), .d (D.int .i64 a1_1), .d (D.int .i64 a1_2)])]⟩) (fun z25 => k (.exit 0) ⟨21, [(2, .ptr 2 0), (3, .ptr 3 0), (5, .d (D.int .i64 h1)), (10, .d (D.bool z25))], [(2, .box [.d (D.int .i64 a0_0), .d (D.sl 3 a0_1), .d (D.sl 6 a0_2)]), (3, .box [.d (D.int .i64 a1_0), .d (D.int .i64 a1_1), .d (D.int .i64 a1_2)])]⟩) := by kernel_rfl
theorem ref11_Index_r4_eq {R : Type} (n : Nat) (a0_0 : Int) (a0_1 : List (List D)) (a0_2 : List (List D)) (a1_0 : Int) (a1_1 : Int) (a1_2 : Int) (k : Exit → St → Option R) : ∀ (m : Nat) (h1 : Int), loopN (vexec (ref11_Index_C n) n ref11_Index_c3) m ⟨21, [(2, .ptr 2 0), (3, .ptr 3 0), (5, .d (D.int .i64 h1))], [(2, .box [.d (D.int .i64 a0_0), .d (D.sl 3 a0_1), .d (D.sl 6 a0_2)]), (3, .box [.d (D.int .i64 a1_0), .d (D.int .i64 a1_1), .d (D.int .i64 a1_2)])]⟩ k = ref11_Index_r4 n a0_0 a0_1 a0_2 a1_0 a1_1 a1_2 (fun h1 => k .ret ⟨21, [(4, .d (D.int .i64 h1))], []⟩) (fun h1 w27 => k (.exit 0) ⟨21, [(2, .ptr 2 0), (3, .ptr 3 0), (5, .d (D.int .i64 h1)), (10, .d (D.bool w27))], [(2, .box [.d (D.int .i64 a0_0), .d (D.sl 3 a0_1), .d (D.sl 6 a0_2)]), (3, .box [.d (D.int .i64 a1_0), .d (D.int .i64 a1_1), .d (D.int .i64 a1_2)])]⟩) m h1
  | 0, _ => rfl
  | m + 1, h1 => (ref11_Index_p3_eq n h1 a0_0 a0_1 a0_2 a1_0 a1_1 a1_2 (loopK (vexec (ref11_Index_C n) n ref11_Index_c3) m k)).trans (ref11_Index_p3_congr n h1 a0_0 a0_1 a0_2 a1_0 a1_1 a1_2 (rfl) (fun w26 => ref11_Index_r4_eq n a0_0 a0_1 a0_2 a1_0 a1_1 a1_2 k m w26) (fun w27 => rfl))
theorem ref11_Index_p4_eq {R : Type} (n : Nat) (a0_0 : Int) (a0_1 : List (List D)) (a0_2 : List (List D)) (a1_0 : Int) (a1_1 : Int) (a1_2 : Int) (k : Exit → St → Option R) : vexec (ref11_Index_C n) n ref11_Index_c4 ⟨21, [(2, .ptr 2 0), (3, .ptr 3 0), (5, .d (D.int .i64 (0 : Int)))], [(2, .box [.d (D.int .i64 a0_0), .d (D.sl 3 a0_1), .d (D.sl 6 a0_2)]), (3, .box [.d (D.int .i64 a1_0), .d (D.int .i64 a1_1), .d (D.int .i64 a1_2)])]⟩ k = ref11_Index_p4 n a0_0 a0_1 a0_2 a1_0 a1_1 a1_2 (fun h1 => k .ret ⟨21, [(4, .d (D.int .i64 h1))], []⟩) (fun h1 w27 => k (.exit 0) ⟨21, [(2, .ptr 2 0), (3, .ptr 3 0), (5, .d (D.int .i64 h1)), (10, .d (D.bool w27))], [(2, .box [.d (D.int .i64 a0_0), .d (D.sl 3 a0_1), .d (D.sl 6 a0_2)]), (3, .box [.d (D.int .i64 a1_0), .d (D.int .i64 a1_1), .d (D.int .i64 a1_2)])]⟩) := by
  rw [ref11_Index_c4_eq]
  exact ref11_Index_r4_eq n a0_0 a0_1 a0_2 a1_0 a1_1 a1_2 k n (0 : Int)
theorem ref11_Index_p5_eq {R : Type} (n : Nat) (a0_0 : Int) (a0_1 : List (List D)) (a0_2 : List (List D)) (a1_0 : Int) (a1_1 : Int) (a1_2 : Int) (k : Exit → St → Option R) : vexec (ref11_Index_C n) n ref11_Index_c5 ⟨21, [(2, .ptr 2 0), (3, .ptr 3 0), (5, .d (D.int .i64 (0 : Int)))], [(2, .box [.d (D.int .i64 a0_0), .d (D.sl 3 a0_1), .d (D.sl 6 a0_2)]), (3, .box [.d (D.int .i64 a1_0), .d (D.int .i64 a1_1), .d (D.int .i64 a1_2)])]⟩ k = ref11_Index_p5 n a0_0 a0_1 a0_2 a1_0 a1_1 a1_2 (fun w28 => k .ret ⟨21, [(4, .d (D.int .i64 w28))], []⟩) (fun w29 w30 => k .normal ⟨21, [(2, .ptr 2 0), (3, .ptr 3 0), (5, .d (D.int .i64 w29)), (10, .d (D.bool w30))], [(2, .box [.d (D.int .i64 a0_0), .d (D.sl 3 a0_1), .d (D.sl 6 a0_2)]), (3, .box [.d (D.int .i64 a1_0), .d (D.int .i64 a1_1), .d (D.int .i64 a1_2)])]⟩) := by
  rw [ref11_Index_c5_eq]
  unfold ref11_Index_p5
  exact (ref11_Index_p4_eq n a0_0 a0_1 a0_2 a1_0 a1_1 a1_2 (blockK 0 k)).trans (ref11_Index_p4_congr n a0_0 a0_1 a0_2 a1_0 a1_1 a1_2 (fun w28 => rfl) (fun w29 w30 => rfl))
theorem ref11_Index_p6_eq {R : Type} (n : Nat) (a0_0 : Int) (a0_1 : List (List D)) (a0_2 : List (List D)) (a1_0 : Int) (a1_1 : Int) (a1_2 : Int) (k : Exit → St → Option R) : vexec (ref11_Index_C n) n ref11_Index_c6 ⟨21, [(2, .ptr 2 0), (3, .ptr 3 0)], [(2, .box [.d (D.int .i64 a0_0), .d (D.sl 3 a0_1), .d (D.sl 6 a0_2)]), (3, .box [.d (D.int .i64 a1_0), .d (D.int .i64 a1_1), .d (D.int .i64 a1_2)])]⟩ k = ref11_Index_p6 n a0_0 a0_1 a0_2 a1_0 a1_1 a1_2 (fun w31 => k .ret ⟨21, [(4, .d (D.int .i64 w31))], []⟩) (fun w32 w33 => k .normal ⟨21, [(2, .ptr 2 0), (3, .ptr 3 0), (5, .d (D.int .i64 w32)), (10, .d (D.bool w33))], [(2, .box [.d (D.int .i64 a0_0), .d (D.sl 3 a0_1), .d (D.sl 6 a0_2)]), (3, .box [.d (D.int .i64 a1_0), .d (D.int .i64 a1_1), .d (D.int .i64 a1_2)])]⟩) := by
  rw [ref11_Index_c6_eq]
  unfold ref11_Index_p6
  exact (ref11_Index_p2_eq n a0_0 a0_1 a0_2 a1_0 a1_1 a1_2 (seqK (ref11_Index_C n) n ref11_Index_c5 k)).trans (ref11_Index_p2_congr n a0_0 a0_1 a0_2 a1_0 a1_1 a1_2 (ref11_Index_p5_eq n a0_0 a0_1 a0_2 a1_0 a1_1 a1_2 k))
theorem ref11_Index_p7_eq {R : Type} (n : Nat) (w35 : Int) (w36 : Bool) (a0_0 : Int) (a0_1 : List (List D)) (a0_2 : List (List D)) (a1_0 : Int) (a1_1 : Int) (a1_2 : Int) (k : Exit → St → Option R) : vexec (ref11_Index_C n) n ref11_Index_c7 ⟨21, [(2, .ptr 2 0), (3, .ptr 3 0), (5, .d (D.int .i64 w35)), (10, .d (D.bool w36))], [(2, .box [.d (D.int .i64 a0_0), .d (D.sl 3 a0_1), .d (D.sl 6 a0_2)]), (3, .box [.d (D.int .i64 a1_0), .d (D.int .i64 a1_1), .d (D.int .i64 a1_2)])]⟩ k = ref11_Index_p7 n w35 w36 a0_0 a0_1 a0_2 a1_0 a1_1 a1_2 (k .ret ⟨21, [(4, .d (D.int .i64 (-1 : Int)))], []⟩) := by kernel_rfl
theorem ref11_Index_p8_eq {R : Type} (n : Nat) (a0_0 : Int) (a0_1 : List (List D)) (a0_2 : List (List D)) (a1_0 : Int) (a1_1 : Int) (a1_2 : Int) (k : Exit → St → Option R) : vexec (ref11_Index_C n) n ref11_Index_c8 ⟨21, [(2, .ptr 2 0), (3, .ptr 3 0)], [(2, .box [.d (D.int .i64 a0_0), .d (D.sl 3 a0_1), .d (D.sl 6 a0_2)]), (3, .box [.d (D.int .i64 a1_0), .d (D.int .i64 a1_1), .d (D.int .i64 a1_2)])]⟩ k = ref11_Index_p8 n a0_0 a0_1 a0_2 a1_0 a1_1 a1_2 (fun z37 => k .ret ⟨21, [(4, .d (D.int .i64 z37))], []⟩) := by
  rw [ref11_Index_c8_eq]
  unfold ref11_Index_p8
  exact (ref11_Index_p6_eq n a0_0 a0_1 a0_2 a1_0 a1_1 a1_2 (seqK (ref11_Index_C n) n ref11_Index_c7 k)).trans (ref11_Index_p6_congr n a0_0 a0_1 a0_2 a1_0 a1_1 a1_2 (fun w34 => rfl) (fun w35 w36 => ref11_Index_p7_eq n w35 w36 a0_0 a0_1 a0_2 a1_0 a1_1 a1_2 k))
theorem ref11_Index_p9_eq {R : Type} (n : Nat) (a0_0 : Int) (a0_1 : List (List D)) (a0_2 : List (List D)) (a1_0 : Int) (a1_1 : Int) (a1_2 : Int) (k : Exit → St → Option R) : vexec (ref11_Index_C n) n ref11_Index_c0 ⟨21, [(0, .ag [.d (D.int .i64 a0_0), .d (D.sl 3 a0_1), .d (D.sl 6 a0_2)]), (1, .ag [.d (D.int .i64 a1_0), .d (D.int .i64 a1_1), .d (D.int .i64 a1_2)])], []⟩ k = ref11_Index_p9 n a0_0 a0_1 a0_2 a1_0 a1_1 a1_2 (fun w38 => k .ret ⟨21, [(4, .d (D.int .i64 w38))], []⟩) := by
  rw [ref11_Index_c0_eq]
  unfold ref11_Index_p9
  exact (ref11_Index_p1_eq n a0_0 a0_1 a0_2 a1_0 a1_1 a1_2 (seqK (ref11_Index_C n) n ref11_Index_c8 k)).trans (ref11_Index_p1_congr n a0_0 a0_1 a0_2 a1_0 a1_1 a1_2 (ref11_Index_p8_eq n a0_0 a0_1 a0_2 a1_0 a1_1 a1_2 k))
theorem ref11_Index_vfn {R : Type} (n : Nat) (a0_0 : Int) (a0_1 : List (List D)) (a0_2 : List (List D)) (a1_0 : Int) (a1_1 : Int) (a1_2 : Int) (K : AV → Option R) : vfn (ref11_Index_C n) n Try.f35 [.ag [.d (D.int .i64 a0_0), .d (D.sl 3 a0_1), .d (D.sl 6 a0_2)], .ag [.d (D.int .i64 a1_0), .d (D.int .i64 a1_1), .d (D.int .i64 a1_2)]] [] (retF [[0]] K) = ref11_Index n a0_0 a0_1 a0_2 a1_0 a1_1 a1_2 (fun r0 => K (.d (D.int .i64 r0))) :=
  (show vfn (ref11_Index_C n) n Try.f35 [.ag [.d (D.int .i64 a0_0), .d (D.sl 3 a0_1), .d (D.sl 6 a0_2)], .ag [.d (D.int .i64 a1_0), .d (D.int .i64 a1_1), .d (D.int .i64 a1_2)]] [] (retF [[0]] K) = vexec (ref11_Index_C n) n ref11_Index_c0 ⟨21, [(0, .ag [.d (D.int .i64 a0_0), .d (D.sl 3 a0_1), .d (D.sl 6 a0_2)]), (1, .ag [.d (D.int .i64 a1_0), .d (D.int .i64 a1_1), .d (D.int .i64 a1_2)])], []⟩ (retX ref11_Index_tt [.tmp 4] (retF [[0]] K)) from vfn_at (by kernel_rfl) (by kernel_rfl) rfl (by kernel_rfl) rfl (by kernel_rfl) rfl).trans ((ref11_Index_p9_eq n a0_0 a0_1 a0_2 a1_0 a1_1 a1_2 (retX ref11_Index_tt [.tmp 4] (retF [[0]] K))).trans (by kernel_rfl))
def ref11_Index_K : AV → Option (Int) := fun av => match av with
  | .d (D.int .i64 r0) => some r0
  | _ => none
def ref11_Index_e (n : Nat) : Entry := fun _ _ g avs _ k => match avs with
  | [c0, c1] => 
    prG c0 fun l0 => (match l0 with
    | [c0_0, c0_1, c0_2] => prI g .i64 c0_0 fun a0_0 => prS g 3 c0_1 fun a0_1 => prS g 6 c0_2 fun a0_2 => 
    prG c1 fun l1 => (match l1 with
    | [c1_0, c1_1, c1_2] => prI g .i64 c1_0 fun a1_0 => prI g .i64 c1_1 fun a1_1 => prI g .i64 c1_2 fun a1_2 => 
    gb g (ref11_Index n a0_0 a0_1 a0_2 a1_0 a1_1 a1_2 some) 0 fun r => k ⟨.d (D.int .i64 r), [], []⟩
    | _ => none)
    | _ => none)
  | _ => none
theorem ref11_Index_ok (n : Nat) : EntryOK Try.prog 35 (ref11_Index_e n) := by
  intro R site g avs hl k r h
  unfold ref11_Index_e at h
  split at h
  rotate_left
  · cases h
  replace h := prG_some h
  obtain ⟨l0, h, e0⟩ := h
  subst e0
  split at h
  rotate_left
  · cases h
  replace h := prI_some h
  obtain ⟨a0_0, h, le0⟩ := h
  replace h := prS_some h
  obtain ⟨a0_1, h, le1⟩ := h
  replace h := prS_some h
  obtain ⟨a0_2, h, le2⟩ := h
  replace h := prG_some h
  obtain ⟨l1, h, e1⟩ := h
  subst e1
  split at h
  rotate_left
  · cases h
  replace h := prI_some h
  obtain ⟨a1_0, h, le3⟩ := h
  replace h := prI_some h
  obtain ⟨a1_1, h, le4⟩ := h
  replace h := prI_some h
  obtain ⟨a1_2, h, le5⟩ := h
  replace h := gb_some h
  obtain ⟨res, h, hr⟩ := h
  refine ⟨_, h, fun hg => CallOK.conv (avs' := [.ag [.d (D.int .i64 a0_0), .d (D.sl 3 a0_1), .d (D.sl 6 a0_2)], .ag [.d (D.int .i64 a1_0), .d (D.int .i64 a1_1), .d (D.int .i64 a1_2)]]) (.cons (.ag (.cons (le0 hg) (.cons (le1 hg) (.cons (le2 hg) (.nil))))) (.cons (.ag (.cons (le3 hg) (.cons (le4 hg) (.cons (le5 hg) (.nil))))) (.nil))) (callOK_fix (K := ref11_Index_K) (res := res) (ref11_Index_VC n) (fn := Try.f35) (n := n) (by kernel_rfl) (by kernel_rfl) (by kernel_rfl) (ss := [[0]]) rfl ?_ ?_)⟩
  · exact (ref11_Index_vfn n a0_0 a0_1 a0_2 a1_0 a1_1 a1_2 ref11_Index_K).trans (hr hg)
  · intro x hx
    unfold ref11_Index_K at hx
    split at hx
    · injection hx with hx; subst hx; rfl
    · cases hx
end Go.Vx
/-
  law11_agrees: the interpreter computes the pure function
-/
set_option linter.unusedVariables false
set_option linter.unusedSimpArgs false
set_option maxRecDepth 100000
namespace Go.Vx
open Go.Proofs
noncomputable def law11_agrees_c0 : Code := bodyOf Try.f21
def law11_agrees_tt : TT := [(3, ⟨.int .i64, 1, 8, [.int .i64 0], [.int .i64 0], [], none⟩), (4, ⟨.bool, 1, 1, [.bool false], [.bool false], [], none⟩), (26, ⟨.struct, 3, 56, [.int .i64 0, .slice none 0 0, .slice none 0 0], [.int .i64 0, .sl 3 [], .sl 6 []], [(0, 3), (1, 23), (2, 24)], none⟩), (39, ⟨.int .i64, 1, 8, [.int .i64 0], [.int .i64 0], [], none⟩), (46, ⟨.struct, 3, 24, [.int .i64 0, .int .i64 0, .int .i64 0], [.int .i64 0, .int .i64 0, .int .i64 0], [(0, 3), (1, 3), (2, 3)], some [.int .i64, .int .i64, .int .i64]⟩)]
theorem law11_agrees_tt_eq : mkTT Try.prog [3, 4, 26, 39, 46] = law11_agrees_tt := by kernel_rfl
def law11_agrees_cfg : List (Nat × Cfg) := [(0, ⟨[1, 2, 4, 7], [(4, 4), (7, 7)], [], [], []⟩), (1, ⟨[1, 2, 4, 7, 9, 10], [(4, 4), (7, 7)], [], [], []⟩), (2, ⟨[1, 2, 4, 7, 9, 10, 11, 12], [(4, 4), (7, 7)], [], [], []⟩), (3, ⟨[1, 2, 4, 7, 9, 10, 11, 12, 13, 14], [(4, 4), (7, 7)], [], [], []⟩), (4, ⟨[1, 2, 4, 7, 9, 10, 11, 12, 13, 14, 15, 16], [(4, 4), (7, 7)], [], [], []⟩), (5, ⟨[8], [], [], [], []⟩)]
def law11_agrees_C (n : Nat) : VC := ⟨specOf [(24, network_First_e n), (30, ref11_First_e n), (18, network_Cost_e n), (31, ref11_Cost_e n), (12, network_Check_e n), (13, ref11_Check_e n), (27, network_Good_e n), (32, ref11_Good_e n), (15, network_Duration_e n), (33, ref11_Duration_e n), (17, network_Feasible_e n), (34, ref11_Feasible_e n), (20, network_Index_e n), (35, ref11_Index_e n)], law11_agrees_tt, law11_agrees_cfg⟩
theorem law11_agrees_ents (n : Nat) : EntsOK Try.prog [(24, network_First_e n), (30, ref11_First_e n), (18, network_Cost_e n), (31, ref11_Cost_e n), (12, network_Check_e n), (13, ref11_Check_e n), (27, network_Good_e n), (32, ref11_Good_e n), (15, network_Duration_e n), (33, ref11_Duration_e n), (17, network_Feasible_e n), (34, ref11_Feasible_e n), (20, network_Index_e n), (35, ref11_Index_e n)] := ⟨network_First_ok n, ⟨ref11_First_ok n, ⟨network_Cost_ok n, ⟨ref11_Cost_ok n, ⟨network_Check_ok n, ⟨ref11_Check_ok n, ⟨network_Good_ok n, ⟨ref11_Good_ok n, ⟨network_Duration_ok n, ⟨ref11_Duration_ok n, ⟨network_Feasible_ok n, ⟨ref11_Feasible_ok n, ⟨network_Index_ok n, ⟨ref11_Index_ok n, trivial⟩⟩⟩⟩⟩⟩⟩⟩⟩⟩⟩⟩⟩⟩
theorem law11_agrees_VC (n : Nat) : VCOk Try.prog (law11_agrees_C n) := ⟨specOf_ok (law11_agrees_ents n), (law11_agrees_tt_eq ▸ mkTT_ok _ : TOk Try.prog law11_agrees_tt), by kernel_rfl⟩
theorem law11_agrees_p1_congr {R : Type} (n : Nat) (a0_0 : Int) (a0_1 : List (List D)) (a0_2 : List (List D)) (a1 : List (List D)) (a2 : Int) (a3_0 : Int) (a3_1 : Int) (a3_2 : Int) {k0 kk0 : Bool → Option R} (hq0 : ∀ x0, k0 x0 = kk0 x0) : law11_agrees_p1 n a0_0 a0_1 a0_2 a1 a2 a3_0 a3_1 a3_2 k0 = law11_agrees_p1 n a0_0 a0_1 a0_2 a1 a2 a3_0 a3_1 a3_2 kk0 := by
  obtain rfl : k0 = kk0 := funext fun x0 => hq0 x0
  rfl
theorem law11_agrees_p1_eq {R : Type} (n : Nat) (a0_0 : Int) (a0_1 : List (List D)) (a0_2 : List (List D)) (a1 : List (List D)) (a2 : Int) (a3_0 : Int) (a3_1 : Int) (a3_2 : Int) (k : Exit → St → Option R) : vexec (law11_agrees_C n) n law11_agrees_c0 ⟨104, [(0, .ag [.d (D.int .i64 a0_0), .d (D.sl 3 a0_1), .d (D.sl 6 a0_2)]), (1, .d (D.sl 1 a1)), (2, .d (D.int .i64 a2)), (3, .ag [.d (D.int .i64 a3_0), .d (D.int .i64 a3_1), .d (D.int .i64 a3_2)])], []⟩ k = law11_agrees_p1 n a0_0 a0_1 a0_2 a1 a2 a3_0 a3_1 a3_2 (fun z15 => k .ret ⟨104, [(8, .d (D.bool z15))], []⟩) := by kernel_rfl
theorem law11_agrees_vfn {R : Type} (n : Nat) (a0_0 : Int) (a0_1 : List (List D)) (a0_2 : List (List D)) (a1 : List (List D)) (a2 : Int) (a3_0 : Int) (a3_1 : Int) (a3_2 : Int) (K : AV → Option R) : vfn (law11_agrees_C n) n Try.f21 [.ag [.d (D.int .i64 a0_0), .d (D.sl 3 a0_1), .d (D.sl 6 a0_2)], .d (D.sl 1 a1), .d (D.int .i64 a2), .ag [.d (D.int .i64 a3_0), .d (D.int .i64 a3_1), .d (D.int .i64 a3_2)]] [] (retF [[0]] K) = law11_agrees n a0_0 a0_1 a0_2 a1 a2 a3_0 a3_1 a3_2 (fun r0 => K (.d (D.bool r0))) :=
  (show vfn (law11_agrees_C n) n Try.f21 [.ag [.d (D.int .i64 a0_0), .d (D.sl 3 a0_1), .d (D.sl 6 a0_2)], .d (D.sl 1 a1), .d (D.int .i64 a2), .ag [.d (D.int .i64 a3_0), .d (D.int .i64 a3_1), .d (D.int .i64 a3_2)]] [] (retF [[0]] K) = vexec (law11_agrees_C n) n law11_agrees_c0 ⟨104, [(0, .ag [.d (D.int .i64 a0_0), .d (D.sl 3 a0_1), .d (D.sl 6 a0_2)]), (1, .d (D.sl 1 a1)), (2, .d (D.int .i64 a2)), (3, .ag [.d (D.int .i64 a3_0), .d (D.int .i64 a3_1), .d (D.int .i64 a3_2)])], []⟩ (retX law11_agrees_tt [.tmp 8] (retF [[0]] K)) from vfn_at (by kernel_rfl) (by kernel_rfl) rfl (by kernel_rfl) rfl (by kernel_rfl) rfl).trans ((law11_agrees_p1_eq n a0_0 a0_1 a0_2 a1 a2 a3_0 a3_1 a3_2 (retX law11_agrees_tt [.tmp 8] (retF [[0]] K))).trans (by kernel_rfl))
def law11_agrees_K : AV → Option (Bool) := fun av => match av with
  | .d (D.bool r0) => some r0
  | _ => none
def law11_agrees_e (n : Nat) : Entry := fun _ _ g avs _ k => match avs with
  | [c0, c1, c2, c3] => 
    prG c0 fun l0 => (match l0 with
    | [c0_0, c0_1, c0_2] => prI g .i64 c0_0 fun a0_0 => prS g 3 c0_1 fun a0_1 => prS g 6 c0_2 fun a0_2 => prS g 1 c1 fun a1 => prI g .i64 c2 fun a2 => 
    prG c3 fun l3 => (match l3 with
    | [c3_0, c3_1, c3_2] => prI g .i64 c3_0 fun a3_0 => prI g .i64 c3_1 fun a3_1 => prI g .i64 c3_2 fun a3_2 => 
    gb g (law11_agrees n a0_0 a0_1 a0_2 a1 a2 a3_0 a3_1 a3_2 some) false fun r => k ⟨.d (D.bool r), [], []⟩
    | _ => none)
    | _ => none)
  | _ => none
theorem law11_agrees_ok (n : Nat) : EntryOK Try.prog 21 (law11_agrees_e n) := by
  intro R site g avs hl k r h
  unfold law11_agrees_e at h
  split at h
  rotate_left
  · cases h
  replace h := prG_some h
  obtain ⟨l0, h, e0⟩ := h
  subst e0
  split at h
  rotate_left
  · cases h
  replace h := prI_some h
  obtain ⟨a0_0, h, le0⟩ := h
  replace h := prS_some h
  obtain ⟨a0_1, h, le1⟩ := h
  replace h := prS_some h
  obtain ⟨a0_2, h, le2⟩ := h
  replace h := prS_some h
  obtain ⟨a1, h, le3⟩ := h
  replace h := prI_some h
  obtain ⟨a2, h, le4⟩ := h
  replace h := prG_some h
  obtain ⟨l3, h, e3⟩ := h
  subst e3
  split at h
  rotate_left
  · cases h
  replace h := prI_some h
  obtain ⟨a3_0, h, le5⟩ := h
  replace h := prI_some h
  obtain ⟨a3_1, h, le6⟩ := h
  replace h := prI_some h
  obtain ⟨a3_2, h, le7⟩ := h
  replace h := gb_some h
  obtain ⟨res, h, hr⟩ := h
  refine ⟨_, h, fun hg => CallOK.conv (avs' := [.ag [.d (D.int .i64 a0_0), .d (D.sl 3 a0_1), .d (D.sl 6 a0_2)], .d (D.sl 1 a1), .d (D.int .i64 a2), .ag [.d (D.int .i64 a3_0), .d (D.int .i64 a3_1), .d (D.int .i64 a3_2)]]) (.cons (.ag (.cons (le0 hg) (.cons (le1 hg) (.cons (le2 hg) (.nil))))) (.cons (le3 hg) (.cons (le4 hg) (.cons (.ag (.cons (le5 hg) (.cons (le6 hg) (.cons (le7 hg) (.nil))))) (.nil))))) (callOK_fix (K := law11_agrees_K) (res := res) (law11_agrees_VC n) (fn := Try.f21) (n := n) (by kernel_rfl) (by kernel_rfl) (by kernel_rfl) (ss := [[0]]) rfl ?_ ?_)⟩
  · exact (law11_agrees_vfn n a0_0 a0_1 a0_2 a1 a2 a3_0 a3_1 a3_2 law11_agrees_K).trans (hr hg)
  · intro x hx
    unfold law11_agrees_K at hx
    split at hx
    · injection hx with hx; subst hx; rfl
    · cases hx
end Go.Vx
/-
  law11_NetworkGenerated: the interpreter computes the pure function
-/
set_option linter.unusedVariables false
set_option linter.unusedSimpArgs false
set_option maxRecDepth 100000
namespace Go.Vx
open Go.Proofs
noncomputable def law11_NetworkGenerated_c0 : Code := bodyOf Try.f8
def law11_NetworkGenerated_tt : TT := [(3, ⟨.int .i64, 1, 8, [.int .i64 0], [.int .i64 0], [], none⟩), (24, ⟨.sl 31 6, 1, 24, [.slice none 0 0], [.sl 6 []], [], none⟩), (26, ⟨.struct, 3, 56, [.int .i64 0, .slice none 0 0, .slice none 0 0], [.int .i64 0, .sl 3 [], .sl 6 []], [(0, 3), (1, 23), (2, 24)], none⟩), (46, ⟨.struct, 3, 24, [.int .i64 0, .int .i64 0, .int .i64 0], [.int .i64 0, .int .i64 0, .int .i64 0], [(0, 3), (1, 3), (2, 3)], some [.int .i64, .int .i64, .int .i64]⟩)]
theorem law11_NetworkGenerated_tt_eq : mkTT Try.prog [3, 24, 26, 46] = law11_NetworkGenerated_tt := by kernel_rfl
def law11_NetworkGenerated_cfg : List (Nat × Cfg) := [(0, ⟨[0, 1, 2, 7], [(7, 7)], [], [], []⟩), (1, ⟨[1, 2, 7, 9], [(7, 7), (9, 9)], [], [], []⟩), (2, ⟨[1, 7, 9, 10], [(7, 7), (9, 9)], [], [], []⟩), (3, ⟨[1, 7, 9, 10], [(7, 7), (9, 9)], [], [], []⟩), (4, ⟨[8], [], [], [], []⟩)]
def law11_NetworkGenerated_C (n : Nat) : VC := ⟨specOf [(9, keep_Network_e n), (11, keep_Pick_e n), (10, law11_awake_e n), (12, network_Check_e n), (14, keep_Times_e n), (21, law11_agrees_e n)], law11_NetworkGenerated_tt, law11_NetworkGenerated_cfg⟩
theorem law11_NetworkGenerated_ents (n : Nat) : EntsOK Try.prog [(9, keep_Network_e n), (11, keep_Pick_e n), (10, law11_awake_e n), (12, network_Check_e n), (14, keep_Times_e n), (21, law11_agrees_e n)] := ⟨keep_Network_ok n, ⟨keep_Pick_ok n, ⟨law11_awake_ok n, ⟨network_Check_ok n, ⟨keep_Times_ok n, ⟨law11_agrees_ok n, trivial⟩⟩⟩⟩⟩⟩
theorem law11_NetworkGenerated_VC (n : Nat) : VCOk Try.prog (law11_NetworkGenerated_C n) := ⟨specOf_ok (law11_NetworkGenerated_ents n), (law11_NetworkGenerated_tt_eq ▸ mkTT_ok _ : TOk Try.prog law11_NetworkGenerated_tt), by kernel_rfl⟩
theorem law11_NetworkGenerated_p1_congr {R : Type} (n : Nat) (a0 : List (List D)) (a1 : List (List D)) (a2 : Int) (a3_0 : Int) (a3_1 : Int) (a3_2 : Int) {k0 kk0 : Bool → Option R} (hq0 : ∀ x0, k0 x0 = kk0 x0) : law11_NetworkGenerated_p1 n a0 a1 a2 a3_0 a3_1 a3_2 k0 = law11_NetworkGenerated_p1 n a0 a1 a2 a3_0 a3_1 a3_2 kk0 := by
  obtain rfl : k0 = kk0 := funext fun x0 => hq0 x0
  rfl
theorem law11_NetworkGenerated_p1_eq {R : Type} (n : Nat) (a0 : List (List D)) (a1 : List (List D)) (a2 : Int) (a3_0 : Int) (a3_1 : Int) (a3_2 : Int) (k : Exit → St → Option R) : vexec (law11_NetworkGenerated_C n) n law11_NetworkGenerated_c0 ⟨47, [(0, .d (D.sl 1 a0)), (1, .d (D.sl 1 a1)), (2, .d (D.int .i64 a2)), (3, .ag [.d (D.int .i64 a3_0), .d (D.int .i64 a3_1), .d (D.int .i64 a3_2)])], []⟩ k = law11_NetworkGenerated_p1 n a0 a1 a2 a3_0 a3_1 a3_2 (fun z10 => k .ret ⟨47, [(8, .d (D.bool z10))], []⟩) := by kernel_rfl
theorem law11_NetworkGenerated_vfn {R : Type} (n : Nat) (a0 : List (List D)) (a1 : List (List D)) (a2 : Int) (a3_0 : Int) (a3_1 : Int) (a3_2 : Int) (K : AV → Option R) : vfn (law11_NetworkGenerated_C n) n Try.f8 [.d (D.sl 1 a0), .d (D.sl 1 a1), .d (D.int .i64 a2), .ag [.d (D.int .i64 a3_0), .d (D.int .i64 a3_1), .d (D.int .i64 a3_2)]] [] (retF [[0]] K) = law11_NetworkGenerated n a0 a1 a2 a3_0 a3_1 a3_2 (fun r0 => K (.d (D.bool r0))) :=
  (show vfn (law11_NetworkGenerated_C n) n Try.f8 [.d (D.sl 1 a0), .d (D.sl 1 a1), .d (D.int .i64 a2), .ag [.d (D.int .i64 a3_0), .d (D.int .i64 a3_1), .d (D.int .i64 a3_2)]] [] (retF [[0]] K) = vexec (law11_NetworkGenerated_C n) n law11_NetworkGenerated_c0 ⟨47, [(0, .d (D.sl 1 a0)), (1, .d (D.sl 1 a1)), (2, .d (D.int .i64 a2)), (3, .ag [.d (D.int .i64 a3_0), .d (D.int .i64 a3_1), .d (D.int .i64 a3_2)])], []⟩ (retX law11_NetworkGenerated_tt [.tmp 8] (retF [[0]] K)) from vfn_at (by kernel_rfl) (by kernel_rfl) rfl (by kernel_rfl) rfl (by kernel_rfl) rfl).trans ((law11_NetworkGenerated_p1_eq n a0 a1 a2 a3_0 a3_1 a3_2 (retX law11_NetworkGenerated_tt [.tmp 8] (retF [[0]] K))).trans (by kernel_rfl))
def law11_NetworkGenerated_K : AV → Option (Bool) := fun av => match av with
  | .d (D.bool r0) => some r0
  | _ => none
def law11_NetworkGenerated_e (n : Nat) : Entry := fun _ _ g avs _ k => match avs with
  | [c0, c1, c2, c3] => prS g 1 c0 fun a0 => prS g 1 c1 fun a1 => prI g .i64 c2 fun a2 => 
    prG c3 fun l3 => (match l3 with
    | [c3_0, c3_1, c3_2] => prI g .i64 c3_0 fun a3_0 => prI g .i64 c3_1 fun a3_1 => prI g .i64 c3_2 fun a3_2 => 
    gb g (law11_NetworkGenerated n a0 a1 a2 a3_0 a3_1 a3_2 some) false fun r => k ⟨.d (D.bool r), [], []⟩
    | _ => none)
  | _ => none
theorem law11_NetworkGenerated_ok (n : Nat) : EntryOK Try.prog 8 (law11_NetworkGenerated_e n) := by
  intro R site g avs hl k r h
  unfold law11_NetworkGenerated_e at h
  split at h
  rotate_left
  · cases h
  replace h := prS_some h
  obtain ⟨a0, h, le0⟩ := h
  replace h := prS_some h
  obtain ⟨a1, h, le1⟩ := h
  replace h := prI_some h
  obtain ⟨a2, h, le2⟩ := h
  replace h := prG_some h
  obtain ⟨l3, h, e3⟩ := h
  subst e3
  split at h
  rotate_left
  · cases h
  replace h := prI_some h
  obtain ⟨a3_0, h, le3⟩ := h
  replace h := prI_some h
  obtain ⟨a3_1, h, le4⟩ := h
  replace h := prI_some h
  obtain ⟨a3_2, h, le5⟩ := h
  replace h := gb_some h
  obtain ⟨res, h, hr⟩ := h
  refine ⟨_, h, fun hg => CallOK.conv (avs' := [.d (D.sl 1 a0), .d (D.sl 1 a1), .d (D.int .i64 a2), .ag [.d (D.int .i64 a3_0), .d (D.int .i64 a3_1), .d (D.int .i64 a3_2)]]) (.cons (le0 hg) (.cons (le1 hg) (.cons (le2 hg) (.cons (.ag (.cons (le3 hg) (.cons (le4 hg) (.cons (le5 hg) (.nil))))) (.nil))))) (callOK_fix (K := law11_NetworkGenerated_K) (res := res) (law11_NetworkGenerated_VC n) (fn := Try.f8) (n := n) (by kernel_rfl) (by kernel_rfl) (by kernel_rfl) (ss := [[0]]) rfl ?_ ?_)⟩
  · exact (law11_NetworkGenerated_vfn n a0 a1 a2 a3_0 a3_1 a3_2 law11_NetworkGenerated_K).trans (hr hg)
  · intro x hx
    unfold law11_NetworkGenerated_K at hx
    split at hx
    · injection hx with hx; subst hx; rfl
    · cases hx
end Go.Vx
