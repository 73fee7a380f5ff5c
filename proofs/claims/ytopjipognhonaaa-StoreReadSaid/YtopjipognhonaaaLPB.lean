/- Part of a proof: texts Vpstore Get Vpref41 Get Vpstrings Builder WriteString Vpstrings Builder String Vpstore Compact Vpref41 Compact Vpstore Append Vplaw41 awake Vplaw41 StoreRead. No conditions of their own. -/
import Derived.Test.YtopjipognhonaaaProg
import Derived.Test.YtopjipognhonaaaLVC
import Derived.Test.YtopjipognhonaaaLFA
import Derived.Test.YtopjipognhonaaaLPA
import Derived.Test.YtopjipognhonaaaLLA
/-
  store_Get: the interpreter computes the pure function
-/
set_option linter.unusedVariables false
set_option linter.unusedSimpArgs false
set_option maxRecDepth 100000
namespace Go.Vx
open Go.Proofs
noncomputable def store_Get_c0 : Code := bodyOf Try.f24
noncomputable def store_Get_c1 : Code := cL (bodyOf Try.f24)
noncomputable def store_Get_c2 : Code := cL (cR (bodyOf Try.f24))
noncomputable def store_Get_c3 : Code := cL (cL (cR (cR (bodyOf Try.f24))))
noncomputable def store_Get_c4 : Code := cB (cB (cR (cL (cR (cR (bodyOf Try.f24))))))
noncomputable def store_Get_c5 : Code := cB (cR (cL (cR (cR (bodyOf Try.f24)))))
noncomputable def store_Get_c6 : Code := cR (cL (cR (cR (bodyOf Try.f24))))
noncomputable def store_Get_c7 : Code := cL (cR (cR (bodyOf Try.f24)))
noncomputable def store_Get_c8 : Code := cR (cR (cR (bodyOf Try.f24)))
noncomputable def store_Get_c9 : Code := cR (cR (bodyOf Try.f24))
noncomputable def store_Get_c10 : Code := cR (bodyOf Try.f24)
theorem store_Get_c5_eq : store_Get_c5 = .loop store_Get_c4 := by kernel_rfl
theorem store_Get_c6_eq : store_Get_c6 = .block 0 store_Get_c5 := by kernel_rfl
theorem store_Get_c7_eq : store_Get_c7 = .seq store_Get_c3 store_Get_c6 := by kernel_rfl
theorem store_Get_c9_eq : store_Get_c9 = .seq store_Get_c7 store_Get_c8 := by kernel_rfl
theorem store_Get_c10_eq : store_Get_c10 = .seq store_Get_c2 store_Get_c9 := by kernel_rfl
theorem store_Get_c0_eq : store_Get_c0 = .seq store_Get_c1 store_Get_c10 := by kernel_rfl
def store_Get_tt : TT := [(3, ⟨.int .i64, 1, 8, [.int .i64 0], [.int .i64 0], [], none⟩), (23, ⟨.struct, 2, 24, [.int .i64 0, .string ⟨#[]⟩], [.int .i64 0, .str []], [(0, 3), (1, 9)], some [.int .i64, .str]⟩), (32, ⟨.sl 23 2, 1, 24, [.slice none 0 0], [.sl 2 []], [], none⟩)]
theorem store_Get_tt_eq : mkTT Try.prog [3, 23, 32] = store_Get_tt := by kernel_rfl
def store_Get_cfg : List (Nat × Cfg) := [(0, ⟨[0, 1, 4], [(4, 4)], [], [], []⟩), (1, ⟨[1, 4, 6], [(4, 4)], [], [], []⟩), (2, ⟨[1, 4, 15, 16, 17], [(4, 4)], [], [], []⟩), (3, ⟨[1, 4, 15, 16, 17, 18], [(4, 4)], [], [], []⟩), (4, ⟨[1, 4, 9, 15, 16, 17], [(4, 4), (9, 9)], [], [], []⟩), (5, ⟨[1, 4, 9, 15, 16, 17, 24], [(4, 4), (9, 9)], [], [], []⟩), (6, ⟨[4, 5], [(4, 4)], [], [], []⟩), (7, ⟨[1, 4, 15, 16, 17], [(4, 4)], [], [], []⟩), (8, ⟨[4, 5], [(4, 4)], [], [], []⟩)]
def store_Get_C (n : Nat) : VC := ⟨specOf [(19, store_Scan_e n)], store_Get_tt, store_Get_cfg⟩
theorem store_Get_ents (n : Nat) : EntsOK Try.prog [(19, store_Scan_e n)] := ⟨store_Scan_ok n, trivial⟩
theorem store_Get_VC (n : Nat) : VCOk Try.prog (store_Get_C n) := ⟨specOf_ok (store_Get_ents n), (store_Get_tt_eq ▸ mkTT_ok _ : TOk Try.prog store_Get_tt), by kernel_rfl⟩
theorem store_Get_p1_congr {R : Type} (n : Nat) (a0 : List UInt8) (a1 : Int) {k0 kk0 : Option R} (hq0 : k0 = kk0) : store_Get_p1 n a0 a1 k0 = store_Get_p1 n a0 a1 kk0 := by
  obtain rfl : k0 = kk0 := hq0
  rfl
theorem store_Get_p2_congr {R : Type} (n : Nat) (a0 : List UInt8) (a1 : Int) {k0 kk0 : (List (List D)) → Option R} (hq0 : ∀ x0, k0 x0 = kk0 x0) : store_Get_p2 n a0 a1 k0 = store_Get_p2 n a0 a1 kk0 := by
  obtain rfl : k0 = kk0 := funext fun x0 => hq0 x0
  rfl
theorem store_Get_p3_congr {R : Type} (n : Nat) (a1 : Int) (w3 : List (List D)) {k0 kk0 : Int → Option R} (hq0 : ∀ x0, k0 x0 = kk0 x0) : store_Get_p3 n a1 w3 k0 = store_Get_p3 n a1 w3 kk0 := by
  obtain rfl : k0 = kk0 := funext fun x0 => hq0 x0
  rfl
theorem store_Get_p4_congr {R : Type} (n : Nat) (a1 : Int) (w3 : List (List D)) (w5 : Int) (h9 : Int) {k0 kk0 : D → D → Option R} {k1 kk1 : Int → Option R} {k2 kk2 : Bool → Option R} (hq0 : ∀ x0 x1, k0 x0 x1 = kk0 x0 x1) (hq1 : ∀ x0, k1 x0 = kk1 x0) (hq2 : ∀ x0, k2 x0 = kk2 x0) : store_Get_p4 n a1 w3 w5 h9 k0 k1 k2 = store_Get_p4 n a1 w3 w5 h9 kk0 kk1 kk2 := by
  obtain rfl : k0 = kk0 := funext fun x0 => funext fun x1 => hq0 x0 x1
  obtain rfl : k1 = kk1 := funext fun x0 => hq1 x0
  obtain rfl : k2 = kk2 := funext fun x0 => hq2 x0
  rfl
theorem store_Get_p5_congr {R : Type} (n : Nat) (a1 : Int) (w3 : List (List D)) (w5 : Int) {k0 kk0 : D → D → Option R} {k1 kk1 : Int → Bool → Option R} (hq0 : ∀ x0 x1, k0 x0 x1 = kk0 x0 x1) (hq1 : ∀ x0 x1, k1 x0 x1 = kk1 x0 x1) : store_Get_p5 n a1 w3 w5 k0 k1 = store_Get_p5 n a1 w3 w5 kk0 kk1 := by
  obtain rfl : k0 = kk0 := funext fun x0 => funext fun x1 => hq0 x0 x1
  obtain rfl : k1 = kk1 := funext fun x0 => funext fun x1 => hq1 x0 x1
  rfl
theorem store_Get_p6_congr {R : Type} (n : Nat) (a1 : Int) (w3 : List (List D)) (w5 : Int) {k0 kk0 : D → D → Option R} {k1 kk1 : Int → Bool → Option R} (hq0 : ∀ x0 x1, k0 x0 x1 = kk0 x0 x1) (hq1 : ∀ x0 x1, k1 x0 x1 = kk1 x0 x1) : store_Get_p6 n a1 w3 w5 k0 k1 = store_Get_p6 n a1 w3 w5 kk0 kk1 := by
  obtain rfl : k0 = kk0 := funext fun x0 => funext fun x1 => hq0 x0 x1
  obtain rfl : k1 = kk1 := funext fun x0 => funext fun x1 => hq1 x0 x1
  rfl
theorem store_Get_p7_congr {R : Type} (n : Nat) (a1 : Int) (w3 : List (List D)) {k0 kk0 : D → D → Option R} {k1 kk1 : Int → Int → Bool → Option R} (hq0 : ∀ x0 x1, k0 x0 x1 = kk0 x0 x1) (hq1 : ∀ x0 x1 x2, k1 x0 x1 x2 = kk1 x0 x1 x2) : store_Get_p7 n a1 w3 k0 k1 = store_Get_p7 n a1 w3 kk0 kk1 := by
  obtain rfl : k0 = kk0 := funext fun x0 => funext fun x1 => hq0 x0 x1
  obtain rfl : k1 = kk1 := funext fun x0 => funext fun x1 => funext fun x2 => hq1 x0 x1 x2
  rfl
theorem store_Get_p8_congr {R : Type} (n : Nat) (a1 : Int) (w3 : List (List D)) (w38 : Int) (w39 : Int) (w40 : Bool) {k0 kk0 : Option R} (hq0 : k0 = kk0) : store_Get_p8 n a1 w3 w38 w39 w40 k0 = store_Get_p8 n a1 w3 w38 w39 w40 kk0 := by
  obtain rfl : k0 = kk0 := hq0
  rfl
theorem store_Get_p9_congr {R : Type} (n : Nat) (a1 : Int) (w3 : List (List D)) {k0 kk0 : D → D → Option R} {k1 kk1 : Option R} (hq0 : ∀ x0 x1, k0 x0 x1 = kk0 x0 x1) (hq1 : k1 = kk1) : store_Get_p9 n a1 w3 k0 k1 = store_Get_p9 n a1 w3 kk0 kk1 := by
  obtain rfl : k0 = kk0 := funext fun x0 => funext fun x1 => hq0 x0 x1
  obtain rfl : k1 = kk1 := hq1
  rfl
theorem store_Get_p10_congr {R : Type} (n : Nat) (a0 : List UInt8) (a1 : Int) {k0 kk0 : D → D → Option R} {k1 kk1 : Option R} (hq0 : ∀ x0 x1, k0 x0 x1 = kk0 x0 x1) (hq1 : k1 = kk1) : store_Get_p10 n a0 a1 k0 k1 = store_Get_p10 n a0 a1 kk0 kk1 := by
  obtain rfl : k0 = kk0 := funext fun x0 => funext fun x1 => hq0 x0 x1
  obtain rfl : k1 = kk1 := hq1
  rfl
theorem store_Get_p11_congr {R : Type} (n : Nat) (a0 : List UInt8) (a1 : Int) {k0 kk0 : D → D → Option R} {k1 kk1 : Option R} (hq0 : ∀ x0 x1, k0 x0 x1 = kk0 x0 x1) (hq1 : k1 = kk1) : store_Get_p11 n a0 a1 k0 k1 = store_Get_p11 n a0 a1 kk0 kk1 := by
  obtain rfl : k0 = kk0 := funext fun x0 => funext fun x1 => hq0 x0 x1
  obtain rfl : k1 = kk1 := hq1
  rfl
theorem store_Get_p1_eq {R : Type} (n : Nat) (a0 : List UInt8) (a1 : Int) (k : Exit → St → Option R) : vexec (store_Get_C n) n store_Get_c1 ⟨28, [(0, .d (D.str a0)), (1, .d (D.int .i64 a1))], []⟩ k = store_Get_p1 n a0 a1 (k .normal ⟨28, [(0, .d (D.str a0)), (1, .d (D.int .i64 a1)), (4, .ptr 4 0)], [(4, .box [.d (D.int .i64 (0 : Int)), .d (D.str [])])]⟩) := by kernel_rfl
theorem store_Get_p2_eq {R : Type} (n : Nat) (a0 : List UInt8) (a1 : Int) (k : Exit → St → Option R) : vexec (store_Get_C n) n store_Get_c2 ⟨28, [(0, .d (D.str a0)), (1, .d (D.int .i64 a1)), (4, .ptr 4 0)], [(4, .box [.d (D.int .i64 (0 : Int)), .d (D.str [])])]⟩ k = store_Get_p2 n a0 a1 (fun z2 => k .normal ⟨28, [(1, .d (D.int .i64 a1)), (4, .ptr 4 0), (6, .d (D.sl 2 z2))], [(4, .box [.d (D.int .i64 (0 : Int)), .d (D.str [])])]⟩) := by kernel_rfl
theorem store_Get_p3_eq {R : Type} (n : Nat) (a1 : Int) (w3 : List (List D)) (k : Exit → St → Option R) : vexec (store_Get_C n) n store_Get_c3 ⟨28, [(1, .d (D.int .i64 a1)), (4, .ptr 4 0), (6, .d (D.sl 2 w3))], [(4, .box [.d (D.int .i64 (0 : Int)), .d (D.str [])])]⟩ k = store_Get_p3 n a1 w3 (fun z4 => k .normal ⟨28, [(1, .d (D.int .i64 a1)), (4, .ptr 4 0), (15, .d (D.sl 2 w3)), (16, .d (D.int .i64 z4)), (17, .d (D.int .i64 (0 : Int)))], [(4, .box [.d (D.int .i64 (0 : Int)), .d (D.str [])])]⟩) := by kernel_rfl
theorem store_Get_p4_eq {R : Type} (n : Nat) (a1 : Int) (w3 : List (List D)) (w5 : Int) (h9 : Int) (k : Exit → St → Option R) : vexec (store_Get_C n) n store_Get_c4 ⟨28, [(1, .d (D.int .i64 a1)), (4, .ptr 4 0), (15, .d (D.sl 2 w3)), (16, .d (D.int .i64 w5)), (17, .d (D.int .i64 h9))], [(4, .box [.d (D.int .i64 (0 : Int)), .d (D.str [])])]⟩ k = store_Get_p4 n a1 w3 w5 h9 (fun c19 c20 => k .ret ⟨28, [(4, .ptr 4 0), (5, .d (D.int .i64 (0 : Int)))], [(4, .box [.d c19, .d c20])]⟩) (fun z22 => k .normal ⟨28, [(1, .d (D.int .i64 a1)), (4, .ptr 4 0), (15, .d (D.sl 2 w3)), (16, .d (D.int .i64 w5)), (17, .d (D.int .i64 z22))], [(4, .box [.d (D.int .i64 (0 : Int)), .d (D.str [])])]⟩) (fun z23 => k (.exit 0) ⟨28, [(1, .d (D.int .i64 a1)), (4, .ptr 4 0), (15, .d (D.sl 2 w3)), (16, .d (D.int .i64 w5)), (17, .d (D.int .i64 h9)), (18, .d (D.bool z23))], [(4, .box [.d (D.int .i64 (0 : Int)), .d (D.str [])])]⟩) := by kernel_rfl
theorem store_Get_r5_eq {R : Type} (n : Nat) (a1 : Int) (w3 : List (List D)) (w5 : Int) (k : Exit → St → Option R) : ∀ (m : Nat) (h9 : Int), loopN (vexec (store_Get_C n) n store_Get_c4) m ⟨28, [(1, .d (D.int .i64 a1)), (4, .ptr 4 0), (15, .d (D.sl 2 w3)), (16, .d (D.int .i64 w5)), (17, .d (D.int .i64 h9))], [(4, .box [.d (D.int .i64 (0 : Int)), .d (D.str [])])]⟩ k = store_Get_r5 n a1 w3 w5 (fun w24 w25 => k .ret ⟨28, [(4, .ptr 4 0), (5, .d (D.int .i64 (0 : Int)))], [(4, .box [.d w24, .d w25])]⟩) (fun h9 w27 => k (.exit 0) ⟨28, [(1, .d (D.int .i64 a1)), (4, .ptr 4 0), (15, .d (D.sl 2 w3)), (16, .d (D.int .i64 w5)), (17, .d (D.int .i64 h9)), (18, .d (D.bool w27))], [(4, .box [.d (D.int .i64 (0 : Int)), .d (D.str [])])]⟩) m h9
  | 0, _ => rfl
  | m + 1, h9 => (store_Get_p4_eq n a1 w3 w5 h9 (loopK (vexec (store_Get_C n) n store_Get_c4) m k)).trans (store_Get_p4_congr n a1 w3 w5 h9 (fun w24 w25 => rfl) (fun w26 => store_Get_r5_eq n a1 w3 w5 k m w26) (fun w27 => rfl))
theorem store_Get_p5_eq {R : Type} (n : Nat) (a1 : Int) (w3 : List (List D)) (w5 : Int) (k : Exit → St → Option R) : vexec (store_Get_C n) n store_Get_c5 ⟨28, [(1, .d (D.int .i64 a1)), (4, .ptr 4 0), (15, .d (D.sl 2 w3)), (16, .d (D.int .i64 w5)), (17, .d (D.int .i64 (0 : Int)))], [(4, .box [.d (D.int .i64 (0 : Int)), .d (D.str [])])]⟩ k = store_Get_p5 n a1 w3 w5 (fun w24 w25 => k .ret ⟨28, [(4, .ptr 4 0), (5, .d (D.int .i64 (0 : Int)))], [(4, .box [.d w24, .d w25])]⟩) (fun h9 w27 => k (.exit 0) ⟨28, [(1, .d (D.int .i64 a1)), (4, .ptr 4 0), (15, .d (D.sl 2 w3)), (16, .d (D.int .i64 w5)), (17, .d (D.int .i64 h9)), (18, .d (D.bool w27))], [(4, .box [.d (D.int .i64 (0 : Int)), .d (D.str [])])]⟩) := by
  rw [store_Get_c5_eq]
  exact store_Get_r5_eq n a1 w3 w5 k n (0 : Int)
theorem store_Get_p6_eq {R : Type} (n : Nat) (a1 : Int) (w3 : List (List D)) (w5 : Int) (k : Exit → St → Option R) : vexec (store_Get_C n) n store_Get_c6 ⟨28, [(1, .d (D.int .i64 a1)), (4, .ptr 4 0), (15, .d (D.sl 2 w3)), (16, .d (D.int .i64 w5)), (17, .d (D.int .i64 (0 : Int)))], [(4, .box [.d (D.int .i64 (0 : Int)), .d (D.str [])])]⟩ k = store_Get_p6 n a1 w3 w5 (fun w28 w29 => k .ret ⟨28, [(4, .ptr 4 0), (5, .d (D.int .i64 (0 : Int)))], [(4, .box [.d w28, .d w29])]⟩) (fun w30 w31 => k .normal ⟨28, [(1, .d (D.int .i64 a1)), (4, .ptr 4 0), (15, .d (D.sl 2 w3)), (16, .d (D.int .i64 w5)), (17, .d (D.int .i64 w30)), (18, .d (D.bool w31))], [(4, .box [.d (D.int .i64 (0 : Int)), .d (D.str [])])]⟩) := by
  rw [store_Get_c6_eq]
  unfold store_Get_p6
  exact (store_Get_p5_eq n a1 w3 w5 (blockK 0 k)).trans (store_Get_p5_congr n a1 w3 w5 (fun w28 w29 => rfl) (fun w30 w31 => rfl))
theorem store_Get_p7_eq {R : Type} (n : Nat) (a1 : Int) (w3 : List (List D)) (k : Exit → St → Option R) : vexec (store_Get_C n) n store_Get_c7 ⟨28, [(1, .d (D.int .i64 a1)), (4, .ptr 4 0), (6, .d (D.sl 2 w3))], [(4, .box [.d (D.int .i64 (0 : Int)), .d (D.str [])])]⟩ k = store_Get_p7 n a1 w3 (fun w32 w33 => k .ret ⟨28, [(4, .ptr 4 0), (5, .d (D.int .i64 (0 : Int)))], [(4, .box [.d w32, .d w33])]⟩) (fun w5 w34 w35 => k .normal ⟨28, [(1, .d (D.int .i64 a1)), (4, .ptr 4 0), (15, .d (D.sl 2 w3)), (16, .d (D.int .i64 w5)), (17, .d (D.int .i64 w34)), (18, .d (D.bool w35))], [(4, .box [.d (D.int .i64 (0 : Int)), .d (D.str [])])]⟩) := by
  rw [store_Get_c7_eq]
  unfold store_Get_p7
  exact (store_Get_p3_eq n a1 w3 (seqK (store_Get_C n) n store_Get_c6 k)).trans (store_Get_p3_congr n a1 w3 (fun w5 => store_Get_p6_eq n a1 w3 w5 k))
theorem store_Get_p8_eq {R : Type} (n : Nat) (a1 : Int) (w3 : List (List D)) (w38 : Int) (w39 : Int) (w40 : Bool) (k : Exit → St → Option R) : vexec (store_Get_C n) n store_Get_c8 ⟨28, [(1, .d (D.int .i64 a1)), (4, .ptr 4 0), (15, .d (D.sl 2 w3)), (16, .d (D.int .i64 w38)), (17, .d (D.int .i64 w39)), (18, .d (D.bool w40))], [(4, .box [.d (D.int .i64 (0 : Int)), .d (D.str [])])]⟩ k = store_Get_p8 n a1 w3 w38 w39 w40 (k .ret ⟨28, [(4, .ptr 4 0), (5, .d (D.int .i64 (6 : Int)))], [(4, .box [.d (D.int .i64 (0 : Int)), .d (D.str [])])]⟩) := by kernel_rfl
theorem store_Get_p9_eq {R : Type} (n : Nat) (a1 : Int) (w3 : List (List D)) (k : Exit → St → Option R) : vexec (store_Get_C n) n store_Get_c9 ⟨28, [(1, .d (D.int .i64 a1)), (4, .ptr 4 0), (6, .d (D.sl 2 w3))], [(4, .box [.d (D.int .i64 (0 : Int)), .d (D.str [])])]⟩ k = store_Get_p9 n a1 w3 (fun w36 w37 => k .ret ⟨28, [(4, .ptr 4 0), (5, .d (D.int .i64 (0 : Int)))], [(4, .box [.d w36, .d w37])]⟩) (k .ret ⟨28, [(4, .ptr 4 0), (5, .d (D.int .i64 (6 : Int)))], [(4, .box [.d (D.int .i64 (0 : Int)), .d (D.str [])])]⟩) := by
  rw [store_Get_c9_eq]
  unfold store_Get_p9
  exact (store_Get_p7_eq n a1 w3 (seqK (store_Get_C n) n store_Get_c8 k)).trans (store_Get_p7_congr n a1 w3 (fun w36 w37 => rfl) (fun w38 w39 w40 => store_Get_p8_eq n a1 w3 w38 w39 w40 k))
theorem store_Get_p10_eq {R : Type} (n : Nat) (a0 : List UInt8) (a1 : Int) (k : Exit → St → Option R) : vexec (store_Get_C n) n store_Get_c10 ⟨28, [(0, .d (D.str a0)), (1, .d (D.int .i64 a1)), (4, .ptr 4 0)], [(4, .box [.d (D.int .i64 (0 : Int)), .d (D.str [])])]⟩ k = store_Get_p10 n a0 a1 (fun w41 w42 => k .ret ⟨28, [(4, .ptr 4 0), (5, .d (D.int .i64 (0 : Int)))], [(4, .box [.d w41, .d w42])]⟩) (k .ret ⟨28, [(4, .ptr 4 0), (5, .d (D.int .i64 (6 : Int)))], [(4, .box [.d (D.int .i64 (0 : Int)), .d (D.str [])])]⟩) := by
  rw [store_Get_c10_eq]
  unfold store_Get_p10
  exact (store_Get_p2_eq n a0 a1 (seqK (store_Get_C n) n store_Get_c9 k)).trans (store_Get_p2_congr n a0 a1 (fun w3 => store_Get_p9_eq n a1 w3 k))
theorem store_Get_p11_eq {R : Type} (n : Nat) (a0 : List UInt8) (a1 : Int) (k : Exit → St → Option R) : vexec (store_Get_C n) n store_Get_c0 ⟨28, [(0, .d (D.str a0)), (1, .d (D.int .i64 a1))], []⟩ k = store_Get_p11 n a0 a1 (fun w43 w44 => k .ret ⟨28, [(4, .ptr 4 0), (5, .d (D.int .i64 (0 : Int)))], [(4, .box [.d w43, .d w44])]⟩) (k .ret ⟨28, [(4, .ptr 4 0), (5, .d (D.int .i64 (6 : Int)))], [(4, .box [.d (D.int .i64 (0 : Int)), .d (D.str [])])]⟩) := by
  rw [store_Get_c0_eq]
  unfold store_Get_p11
  exact (store_Get_p1_eq n a0 a1 (seqK (store_Get_C n) n store_Get_c10 k)).trans (store_Get_p1_congr n a0 a1 (store_Get_p10_eq n a0 a1 k))
theorem store_Get_vfn {R : Type} (n : Nat) (a0 : List UInt8) (a1 : Int) (K : AV → Option R) : vfn (store_Get_C n) n Try.f24 [.d (D.str a0), .d (D.int .i64 a1)] [] (retF [[0, 0], [0]] K) = store_Get n a0 a1 (fun r0 r1 r2 => K (.tup [.ag [.d r0, .d r1], .d (D.int .i64 r2)])) :=
  (show vfn (store_Get_C n) n Try.f24 [.d (D.str a0), .d (D.int .i64 a1)] [] (retF [[0, 0], [0]] K) = vexec (store_Get_C n) n store_Get_c0 ⟨28, [(0, .d (D.str a0)), (1, .d (D.int .i64 a1))], []⟩ (retX store_Get_tt [.cell 4 23, .tmp 5] (retF [[0, 0], [0]] K)) from vfn_at (by kernel_rfl) (by kernel_rfl) rfl (by kernel_rfl) rfl (by kernel_rfl) rfl).trans ((store_Get_p11_eq n a0 a1 (retX store_Get_tt [.cell 4 23, .tmp 5] (retF [[0, 0], [0]] K))).trans (by kernel_rfl))
def store_Get_K : AV → Option (D × D × Int) := fun av => match av with
  | .tup [.ag [.d r0, .d r1], .d (D.int .i64 r2)] => some (r0, r1, r2)
  | _ => none
def store_Get_e (n : Nat) : Entry := fun _ _ g avs _ k => match avs with
  | [c0, c1] => prT g c0 fun a0 => prI g .i64 c1 fun a1 => 
    gb g (store_Get n a0 a1 (fun r0 r1 r2 => some (r0, r1, r2))) ((.bool false), (.bool false), 0) fun r => k ⟨.tup [.ag [.d r.1, .d r.2.1], .d (D.int .i64 r.2.2)], [], []⟩
  | _ => none
theorem store_Get_ok (n : Nat) : EntryOK Try.prog 24 (store_Get_e n) := by
  intro R site g avs hl k r h
  unfold store_Get_e at h
  split at h
  rotate_left
  · cases h
  replace h := prT_some h
  obtain ⟨a0, h, le0⟩ := h
  replace h := prI_some h
  obtain ⟨a1, h, le1⟩ := h
  replace h := gb_some h
  obtain ⟨res, h, hr⟩ := h
  refine ⟨_, h, fun hg => CallOK.conv (avs' := [.d (D.str a0), .d (D.int .i64 a1)]) (.cons (le0 hg) (.cons (le1 hg) (.nil))) (callOK_fix (K := store_Get_K) (res := res) (store_Get_VC n) (fn := Try.f24) (n := n) (by kernel_rfl) (by kernel_rfl) (by kernel_rfl) (ss := [[0, 0], [0]]) rfl ?_ ?_)⟩
  · exact (store_Get_vfn n a0 a1 store_Get_K).trans (hr hg)
  · intro x hx
    unfold store_Get_K at hx
    split at hx
    · injection hx with hx; subst hx; rfl
    · cases hx
end Go.Vx
/-
  ref41_Get: the interpreter computes the pure function
-/
set_option linter.unusedVariables false
set_option linter.unusedSimpArgs false
set_option maxRecDepth 100000
namespace Go.Vx
open Go.Proofs
noncomputable def ref41_Get_c0 : Code := bodyOf Try.f28
noncomputable def ref41_Get_c1 : Code := cL (bodyOf Try.f28)
noncomputable def ref41_Get_c2 : Code := cL (cR (bodyOf Try.f28))
noncomputable def ref41_Get_c3 : Code := cL (cL (cR (cR (bodyOf Try.f28))))
noncomputable def ref41_Get_c4 : Code := cB (cB (cR (cL (cR (cR (bodyOf Try.f28))))))
noncomputable def ref41_Get_c5 : Code := cB (cR (cL (cR (cR (bodyOf Try.f28)))))
noncomputable def ref41_Get_c6 : Code := cR (cL (cR (cR (bodyOf Try.f28))))
noncomputable def ref41_Get_c7 : Code := cL (cR (cR (bodyOf Try.f28)))
noncomputable def ref41_Get_c8 : Code := cR (cR (cR (bodyOf Try.f28)))
noncomputable def ref41_Get_c9 : Code := cR (cR (bodyOf Try.f28))
noncomputable def ref41_Get_c10 : Code := cR (bodyOf Try.f28)
theorem ref41_Get_c5_eq : ref41_Get_c5 = .loop ref41_Get_c4 := by kernel_rfl
theorem ref41_Get_c6_eq : ref41_Get_c6 = .block 0 ref41_Get_c5 := by kernel_rfl
theorem ref41_Get_c7_eq : ref41_Get_c7 = .seq ref41_Get_c3 ref41_Get_c6 := by kernel_rfl
theorem ref41_Get_c9_eq : ref41_Get_c9 = .seq ref41_Get_c7 ref41_Get_c8 := by kernel_rfl
theorem ref41_Get_c10_eq : ref41_Get_c10 = .seq ref41_Get_c2 ref41_Get_c9 := by kernel_rfl
theorem ref41_Get_c0_eq : ref41_Get_c0 = .seq ref41_Get_c1 ref41_Get_c10 := by kernel_rfl
def ref41_Get_tt : TT := [(3, ⟨.int .i64, 1, 8, [.int .i64 0], [.int .i64 0], [], none⟩), (23, ⟨.struct, 2, 24, [.int .i64 0, .string ⟨#[]⟩], [.int .i64 0, .str []], [(0, 3), (1, 9)], some [.int .i64, .str]⟩), (32, ⟨.sl 23 2, 1, 24, [.slice none 0 0], [.sl 2 []], [], none⟩)]
theorem ref41_Get_tt_eq : mkTT Try.prog [3, 23, 32] = ref41_Get_tt := by kernel_rfl
def ref41_Get_cfg : List (Nat × Cfg) := [(0, ⟨[0, 1, 4], [(4, 4)], [], [], []⟩), (1, ⟨[1, 4, 6], [(4, 4)], [], [], []⟩), (2, ⟨[1, 4, 15, 16, 17], [(4, 4)], [], [], []⟩), (3, ⟨[1, 4, 15, 16, 17, 18], [(4, 4)], [], [], []⟩), (4, ⟨[1, 4, 9, 15, 16, 17], [(4, 4), (9, 9)], [], [], []⟩), (5, ⟨[1, 4, 9, 15, 16, 17, 24], [(4, 4), (9, 9)], [], [], []⟩), (6, ⟨[4, 5], [(4, 4)], [], [], []⟩), (7, ⟨[1, 4, 15, 16, 17], [(4, 4)], [], [], []⟩), (8, ⟨[4, 5], [(4, 4)], [], [], []⟩)]
def ref41_Get_C (n : Nat) : VC := ⟨specOf [(20, ref41_Scan_e n)], ref41_Get_tt, ref41_Get_cfg⟩
theorem ref41_Get_ents (n : Nat) : EntsOK Try.prog [(20, ref41_Scan_e n)] := ⟨ref41_Scan_ok n, trivial⟩
theorem ref41_Get_VC (n : Nat) : VCOk Try.prog (ref41_Get_C n) := ⟨specOf_ok (ref41_Get_ents n), (ref41_Get_tt_eq ▸ mkTT_ok _ : TOk Try.prog ref41_Get_tt), by kernel_rfl⟩
theorem ref41_Get_p1_congr {R : Type} (n : Nat) (a0 : List UInt8) (a1 : Int) {k0 kk0 : Option R} (hq0 : k0 = kk0) : ref41_Get_p1 n a0 a1 k0 = ref41_Get_p1 n a0 a1 kk0 := by
  obtain rfl : k0 = kk0 := hq0
  rfl
theorem ref41_Get_p2_congr {R : Type} (n : Nat) (a0 : List UInt8) (a1 : Int) {k0 kk0 : (List (List D)) → Option R} (hq0 : ∀ x0, k0 x0 = kk0 x0) : ref41_Get_p2 n a0 a1 k0 = ref41_Get_p2 n a0 a1 kk0 := by
  obtain rfl : k0 = kk0 := funext fun x0 => hq0 x0
  rfl
theorem ref41_Get_p3_congr {R : Type} (n : Nat) (a1 : Int) (w3 : List (List D)) {k0 kk0 : Int → Option R} (hq0 : ∀ x0, k0 x0 = kk0 x0) : ref41_Get_p3 n a1 w3 k0 = ref41_Get_p3 n a1 w3 kk0 := by
  obtain rfl : k0 = kk0 := funext fun x0 => hq0 x0
  rfl
theorem ref41_Get_p4_congr {R : Type} (n : Nat) (a1 : Int) (w3 : List (List D)) (w5 : Int) (h9 : Int) {k0 kk0 : D → D → Option R} {k1 kk1 : Int → Option R} {k2 kk2 : Bool → Option R} (hq0 : ∀ x0 x1, k0 x0 x1 = kk0 x0 x1) (hq1 : ∀ x0, k1 x0 = kk1 x0) (hq2 : ∀ x0, k2 x0 = kk2 x0) : ref41_Get_p4 n a1 w3 w5 h9 k0 k1 k2 = ref41_Get_p4 n a1 w3 w5 h9 kk0 kk1 kk2 := by
  obtain rfl : k0 = kk0 := funext fun x0 => funext fun x1 => hq0 x0 x1
  obtain rfl : k1 = kk1 := funext fun x0 => hq1 x0
  obtain rfl : k2 = kk2 := funext fun x0 => hq2 x0
  rfl
theorem ref41_Get_p5_congr {R : Type} (n : Nat) (a1 : Int) (w3 : List (List D)) (w5 : Int) {k0 kk0 : D → D → Option R} {k1 kk1 : Int → Bool → Option R} (hq0 : ∀ x0 x1, k0 x0 x1 = kk0 x0 x1) (hq1 : ∀ x0 x1, k1 x0 x1 = kk1 x0 x1) : ref41_Get_p5 n a1 w3 w5 k0 k1 = ref41_Get_p5 n a1 w3 w5 kk0 kk1 := by
  obtain rfl : k0 = kk0 := funext fun x0 => funext fun x1 => hq0 x0 x1
  obtain rfl : k1 = kk1 := funext fun x0 => funext fun x1 => hq1 x0 x1
  rfl
theorem ref41_Get_p6_congr {R : Type} (n : Nat) (a1 : Int) (w3 : List (List D)) (w5 : Int) {k0 kk0 : D → D → Option R} {k1 kk1 : Int → Bool → Option R} (hq0 : ∀ x0 x1, k0 x0 x1 = kk0 x0 x1) (hq1 : ∀ x0 x1, k1 x0 x1 = kk1 x0 x1) : ref41_Get_p6 n a1 w3 w5 k0 k1 = ref41_Get_p6 n a1 w3 w5 kk0 kk1 := by
  obtain rfl : k0 = kk0 := funext fun x0 => funext fun x1 => hq0 x0 x1
  obtain rfl : k1 = kk1 := funext fun x0 => funext fun x1 => hq1 x0 x1
  rfl
theorem ref41_Get_p7_congr {R : Type} (n : Nat) (a1 : Int) (w3 : List (List D)) {k0 kk0 : D → D → Option R} {k1 kk1 : Int → Int → Bool → Option R} (hq0 : ∀ x0 x1, k0 x0 x1 = kk0 x0 x1) (hq1 : ∀ x0 x1 x2, k1 x0 x1 x2 = kk1 x0 x1 x2) : ref41_Get_p7 n a1 w3 k0 k1 = ref41_Get_p7 n a1 w3 kk0 kk1 := by
  obtain rfl : k0 = kk0 := funext fun x0 => funext fun x1 => hq0 x0 x1
  obtain rfl : k1 = kk1 := funext fun x0 => funext fun x1 => funext fun x2 => hq1 x0 x1 x2
  rfl
theorem ref41_Get_p8_congr {R : Type} (n : Nat) (a1 : Int) (w3 : List (List D)) (w38 : Int) (w39 : Int) (w40 : Bool) {k0 kk0 : Option R} (hq0 : k0 = kk0) : ref41_Get_p8 n a1 w3 w38 w39 w40 k0 = ref41_Get_p8 n a1 w3 w38 w39 w40 kk0 := by
  obtain rfl : k0 = kk0 := hq0
  rfl
theorem ref41_Get_p9_congr {R : Type} (n : Nat) (a1 : Int) (w3 : List (List D)) {k0 kk0 : D → D → Option R} {k1 kk1 : Option R} (hq0 : ∀ x0 x1, k0 x0 x1 = kk0 x0 x1) (hq1 : k1 = kk1) : ref41_Get_p9 n a1 w3 k0 k1 = ref41_Get_p9 n a1 w3 kk0 kk1 := by
  obtain rfl : k0 = kk0 := funext fun x0 => funext fun x1 => hq0 x0 x1
  obtain rfl : k1 = kk1 := hq1
  rfl
theorem ref41_Get_p10_congr {R : Type} (n : Nat) (a0 : List UInt8) (a1 : Int) {k0 kk0 : D → D → Option R} {k1 kk1 : Option R} (hq0 : ∀ x0 x1, k0 x0 x1 = kk0 x0 x1) (hq1 : k1 = kk1) : ref41_Get_p10 n a0 a1 k0 k1 = ref41_Get_p10 n a0 a1 kk0 kk1 := by
  obtain rfl : k0 = kk0 := funext fun x0 => funext fun x1 => hq0 x0 x1
  obtain rfl : k1 = kk1 := hq1
  rfl
theorem ref41_Get_p11_congr {R : Type} (n : Nat) (a0 : List UInt8) (a1 : Int) {k0 kk0 : D → D → Option R} {k1 kk1 : Option R} (hq0 : ∀ x0 x1, k0 x0 x1 = kk0 x0 x1) (hq1 : k1 = kk1) : ref41_Get_p11 n a0 a1 k0 k1 = ref41_Get_p11 n a0 a1 kk0 kk1 := by
  obtain rfl : k0 = kk0 := funext fun x0 => funext fun x1 => hq0 x0 x1
  obtain rfl : k1 = kk1 := hq1
  rfl
theorem ref41_Get_p1_eq {R : Type} (n : Nat) (a0 : List UInt8) (a1 : Int) (k : Exit → St → Option R) : vexec (ref41_Get_C n) n ref41_Get_c1 ⟨28, [(0, .d (D.str a0)), (1, .d (D.int .i64 a1))], []⟩ k = ref41_Get_p1 n a0 a1 (k .normal ⟨28, [(0, .d (D.str a0)), (1, .d (D.int .i64 a1)), (4, .ptr 4 0)], [(4, .box [.d (D.int .i64 (0 : Int)), .d (D.str [])])]⟩) := by kernel_rfl
theorem ref41_Get_p2_eq {R : Type} (n : Nat) (a0 : List UInt8) (a1 : Int) (k : Exit → St → Option R) : vexec (ref41_Get_C n) n ref41_Get_c2 ⟨28, [(0, .d (D.str a0)), (1, .d (D.int .i64 a1)), (4, .ptr 4 0)], [(4, .box [.d (D.int .i64 (0 : Int)), .d (D.str [])])]⟩ k = ref41_Get_p2 n a0 a1 (fun z2 => k .normal ⟨28, [(1, .d (D.int .i64 a1)), (4, .ptr 4 0), (6, .d (D.sl 2 z2))], [(4, .box [.d (D.int .i64 (0 : Int)), .d (D.str [])])]⟩) := by kernel_rfl
theorem ref41_Get_p3_eq {R : Type} (n : Nat) (a1 : Int) (w3 : List (List D)) (k : Exit → St → Option R) : vexec (ref41_Get_C n) n ref41_Get_c3 ⟨28, [(1, .d (D.int .i64 a1)), (4, .ptr 4 0), (6, .d (D.sl 2 w3))], [(4, .box [.d (D.int .i64 (0 : Int)), .d (D.str [])])]⟩ k = ref41_Get_p3 n a1 w3 (fun z4 => k .normal ⟨28, [(1, .d (D.int .i64 a1)), (4, .ptr 4 0), (15, .d (D.sl 2 w3)), (16, .d (D.int .i64 z4)), (17, .d (D.int .i64 (0 : Int)))], [(4, .box [.d (D.int .i64 (0 : Int)), .d (D.str [])])]⟩) := by kernel_rfl
theorem ref41_Get_p4_eq {R : Type} (n : Nat) (a1 : Int) (w3 : List (List D)) (w5 : Int) (h9 : Int) (k : Exit → St → Option R) : vexec (ref41_Get_C n) n ref41_Get_c4 ⟨28, [(1, .d (D.int .i64 a1)), (4, .ptr 4 0), (15, .d (D.sl 2 w3)), (16, .d (D.int .i64 w5)), (17, .d (D.int .i64 h9))], [(4, .box [.d (D.int .i64 (0 : Int)), .d (D.str [])])]⟩ k = ref41_Get_p4 n a1 w3 w5 h9 (fun c19 c20 => k .ret ⟨28, [(4, .ptr 4 0), (5, .d (D.int .i64 (0 : Int)))], [(4, .box [.d c19, .d c20])]⟩) (fun z22 => k .normal ⟨28, [(1, .d (D.int .i64 a1)), (4, .ptr 4 0), (15, .d (D.sl 2 w3)), (16, .d (D.int .i64 w5)), (17, .d (D.int .i64 z22))], [(4, .box [.d (D.int .i64 (0 : Int)), .d (D.str [])])]⟩) (fun z23 => k (.exit 0) ⟨28, [(1, .d (D.int .i64 a1)), (4, .ptr 4 0), (15, .d (D.sl 2 w3)), (16, .d (D.int .i64 w5)), (17, .d (D.int .i64 h9)), (18, .d (D.bool z23))], [(4, .box [.d (D.int .i64 (0 : Int)), .d (D.str [])])]⟩) := by kernel_rfl
theorem ref41_Get_r5_eq {R : Type} (n : Nat) (a1 : Int) (w3 : List (List D)) (w5 : Int) (k : Exit → St → Option R) : ∀ (m : Nat) (h9 : Int), loopN (vexec (ref41_Get_C n) n ref41_Get_c4) m ⟨28, [(1, .d (D.int .i64 a1)), (4, .ptr 4 0), (15, .d (D.sl 2 w3)), (16, .d (D.int .i64 w5)), (17, .d (D.int .i64 h9))], [(4, .box [.d (D.int .i64 (0 : Int)), .d (D.str [])])]⟩ k = ref41_Get_r5 n a1 w3 w5 (fun w24 w25 => k .ret ⟨28, [(4, .ptr 4 0), (5, .d (D.int .i64 (0 : Int)))], [(4, .box [.d w24, .d w25])]⟩) (fun h9 w27 => k (.exit 0) ⟨28, [(1, .d (D.int .i64 a1)), (4, .ptr 4 0), (15, .d (D.sl 2 w3)), (16, .d (D.int .i64 w5)), (17, .d (D.int .i64 h9)), (18, .d (D.bool w27))], [(4, .box [.d (D.int .i64 (0 : Int)), .d (D.str [])])]⟩) m h9
  | 0, _ => rfl
  | m + 1, h9 => (ref41_Get_p4_eq n a1 w3 w5 h9 (loopK (vexec (ref41_Get_C n) n ref41_Get_c4) m k)).trans (ref41_Get_p4_congr n a1 w3 w5 h9 (fun w24 w25 => rfl) (fun w26 => ref41_Get_r5_eq n a1 w3 w5 k m w26) (fun w27 => rfl))
theorem ref41_Get_p5_eq {R : Type} (n : Nat) (a1 : Int) (w3 : List (List D)) (w5 : Int) (k : Exit → St → Option R) : vexec (ref41_Get_C n) n ref41_Get_c5 ⟨28, [(1, .d (D.int .i64 a1)), (4, .ptr 4 0), (15, .d (D.sl 2 w3)), (16, .d (D.int .i64 w5)), (17, .d (D.int .i64 (0 : Int)))], [(4, .box [.d (D.int .i64 (0 : Int)), .d (D.str [])])]⟩ k = ref41_Get_p5 n a1 w3 w5 (fun w24 w25 => k .ret ⟨28, [(4, .ptr 4 0), (5, .d (D.int .i64 (0 : Int)))], [(4, .box [.d w24, .d w25])]⟩) (fun h9 w27 => k (.exit 0) ⟨28, [(1, .d (D.int .i64 a1)), (4, .ptr 4 0), (15, .d (D.sl 2 w3)), (16, .d (D.int .i64 w5)), (17, .d (D.int .i64 h9)), (18, .d (D.bool w27))], [(4, .box [.d (D.int .i64 (0 : Int)), .d (D.str [])])]⟩) := by
  rw [ref41_Get_c5_eq]
  exact ref41_Get_r5_eq n a1 w3 w5 k n (0 : Int)
theorem ref41_Get_p6_eq {R : Type} (n : Nat) (a1 : Int) (w3 : List (List D)) (w5 : Int) (k : Exit → St → Option R) : vexec (ref41_Get_C n) n ref41_Get_c6 ⟨28, [(1, .d (D.int .i64 a1)), (4, .ptr 4 0), (15, .d (D.sl 2 w3)), (16, .d (D.int .i64 w5)), (17, .d (D.int .i64 (0 : Int)))], [(4, .box [.d (D.int .i64 (0 : Int)), .d (D.str [])])]⟩ k = ref41_Get_p6 n a1 w3 w5 (fun w28 w29 => k .ret ⟨28, [(4, .ptr 4 0), (5, .d (D.int .i64 (0 : Int)))], [(4, .box [.d w28, .d w29])]⟩) (fun w30 w31 => k .normal ⟨28, [(1, .d (D.int .i64 a1)), (4, .ptr 4 0), (15, .d (D.sl 2 w3)), (16, .d (D.int .i64 w5)), (17, .d (D.int .i64 w30)), (18, .d (D.bool w31))], [(4, .box [.d (D.int .i64 (0 : Int)), .d (D.str [])])]⟩) := by
  rw [ref41_Get_c6_eq]
  unfold ref41_Get_p6
  exact (ref41_Get_p5_eq n a1 w3 w5 (blockK 0 k)).trans (ref41_Get_p5_congr n a1 w3 w5 (fun w28 w29 => rfl) (fun w30 w31 => rfl))
theorem ref41_Get_p7_eq {R : Type} (n : Nat) (a1 : Int) (w3 : List (List D)) (k : Exit → St → Option R) : vexec (ref41_Get_C n) n ref41_Get_c7 ⟨28, [(1, .d (D.int .i64 a1)), (4, .ptr 4 0), (6, .d (D.sl 2 w3))], [(4, .box [.d (D.int .i64 (0 : Int)), .d (D.str [])])]⟩ k = ref41_Get_p7 n a1 w3 (fun w32 w33 => k .ret ⟨28, [(4, .ptr 4 0), (5, .d (D.int .i64 (0 : Int)))], [(4, .box [.d w32, .d w33])]⟩) (fun w5 w34 w35 => k .normal ⟨28, [(1, .d (D.int .i64 a1)), (4, .ptr 4 0), (15, .d (D.sl 2 w3)), (16, .d (D.int .i64 w5)), (17, .d (D.int .i64 w34)), (18, .d (D.bool w35))], [(4, .box [.d (D.int .i64 (0 : Int)), .d (D.str [])])]⟩) := by
  rw [ref41_Get_c7_eq]
  unfold ref41_Get_p7
  exact (ref41_Get_p3_eq n a1 w3 (seqK (ref41_Get_C n) n ref41_Get_c6 k)).trans (ref41_Get_p3_congr n a1 w3 (fun w5 => ref41_Get_p6_eq n a1 w3 w5 k))
theorem ref41_Get_p8_eq {R : Type} (n : Nat) (a1 : Int) (w3 : List (List D)) (w38 : Int) (w39 : Int) (w40 : Bool) (k : Exit → St → Option R) : vexec (ref41_Get_C n) n ref41_Get_c8 ⟨28, [(1, .d (D.int .i64 a1)), (4, .ptr 4 0), (15, .d (D.sl 2 w3)), (16, .d (D.int .i64 w38)), (17, .d (D.int .i64 w39)), (18, .d (D.bool w40))], [(4, .box [.d (D.int .i64 (0 : Int)), .d (D.str [])])]⟩ k = ref41_Get_p8 n a1 w3 w38 w39 w40 (k .ret ⟨28, [(4, .ptr 4 0), (5, .d (D.int .i64 (6 : Int)))], [(4, .box [.d (D.int .i64 (0 : Int)), .d (D.str [])])]⟩) := by kernel_rfl
theorem ref41_Get_p9_eq {R : Type} (n : Nat) (a1 : Int) (w3 : List (List D)) (k : Exit → St → Option R) : vexec (ref41_Get_C n) n ref41_Get_c9 ⟨28, [(1, .d (D.int .i64 a1)), (4, .ptr 4 0), (6, .d (D.sl 2 w3))], [(4, .box [.d (D.int .i64 (0 : Int)), .d (D.str [])])]⟩ k = ref41_Get_p9 n a1 w3 (fun w36 w37 => k .ret ⟨28, [(4, .ptr 4 0), (5, .d (D.int .i64 (0 : Int)))], [(4, .box [.d w36, .d w37])]⟩) (k .ret ⟨28, [(4, .ptr 4 0), (5, .d (D.int .i64 (6 : Int)))], [(4, .box [.d (D.int .i64 (0 : Int)), .d (D.str [])])]⟩) := by
  rw [ref41_Get_c9_eq]
  unfold ref41_Get_p9
  exact (ref41_Get_p7_eq n a1 w3 (seqK (ref41_Get_C n) n ref41_Get_c8 k)).trans (ref41_Get_p7_congr n a1 w3 (fun w36 w37 => rfl) (fun w38 w39 w40 => ref41_Get_p8_eq n a1 w3 w38 w39 w40 k))
theorem ref41_Get_p10_eq {R : Type} (n : Nat) (a0 : List UInt8) (a1 : Int) (k : Exit → St → Option R) : vexec (ref41_Get_C n) n ref41_Get_c10 ⟨28, [(0, .d (D.str a0)), (1, .d (D.int .i64 a1)), (4, .ptr 4 0)], [(4, .box [.d (D.int .i64 (0 : Int)), .d (D.str [])])]⟩ k = ref41_Get_p10 n a0 a1 (fun w41 w42 => k .ret ⟨28, [(4, .ptr 4 0), (5, .d (D.int .i64 (0 : Int)))], [(4, .box [.d w41, .d w42])]⟩) (k .ret ⟨28, [(4, .ptr 4 0), (5, .d (D.int .i64 (6 : Int)))], [(4, .box [.d (D.int .i64 (0 : Int)), .d (D.str [])])]⟩) := by
  rw [ref41_Get_c10_eq]
  unfold ref41_Get_p10
  exact (ref41_Get_p2_eq n a0 a1 (seqK (ref41_Get_C n) n ref41_Get_c9 k)).trans (ref41_Get_p2_congr n a0 a1 (fun w3 => ref41_Get_p9_eq n a1 w3 k))
theorem ref41_Get_p11_eq {R : Type} (n : Nat) (a0 : List UInt8) (a1 : Int) (k : Exit → St → Option R) : vexec (ref41_Get_C n) n ref41_Get_c0 ⟨28, [(0, .d (D.str a0)), (1, .d (D.int .i64 a1))], []⟩ k = ref41_Get_p11 n a0 a1 (fun w43 w44 => k .ret ⟨28, [(4, .ptr 4 0), (5, .d (D.int .i64 (0 : Int)))], [(4, .box [.d w43, .d w44])]⟩) (k .ret ⟨28, [(4, .ptr 4 0), (5, .d (D.int .i64 (6 : Int)))], [(4, .box [.d (D.int .i64 (0 : Int)), .d (D.str [])])]⟩) := by
  rw [ref41_Get_c0_eq]
  unfold ref41_Get_p11
  exact (ref41_Get_p1_eq n a0 a1 (seqK (ref41_Get_C n) n ref41_Get_c10 k)).trans (ref41_Get_p1_congr n a0 a1 (ref41_Get_p10_eq n a0 a1 k))
theorem ref41_Get_vfn {R : Type} (n : Nat) (a0 : List UInt8) (a1 : Int) (K : AV → Option R) : vfn (ref41_Get_C n) n Try.f28 [.d (D.str a0), .d (D.int .i64 a1)] [] (retF [[0, 0], [0]] K) = ref41_Get n a0 a1 (fun r0 r1 r2 => K (.tup [.ag [.d r0, .d r1], .d (D.int .i64 r2)])) :=
  (show vfn (ref41_Get_C n) n Try.f28 [.d (D.str a0), .d (D.int .i64 a1)] [] (retF [[0, 0], [0]] K) = vexec (ref41_Get_C n) n ref41_Get_c0 ⟨28, [(0, .d (D.str a0)), (1, .d (D.int .i64 a1))], []⟩ (retX ref41_Get_tt [.cell 4 23, .tmp 5] (retF [[0, 0], [0]] K)) from vfn_at (by kernel_rfl) (by kernel_rfl) rfl (by kernel_rfl) rfl (by kernel_rfl) rfl).trans ((ref41_Get_p11_eq n a0 a1 (retX ref41_Get_tt [.cell 4 23, .tmp 5] (retF [[0, 0], [0]] K))).trans (by kernel_rfl))
def ref41_Get_K : AV → Option (D × D × Int) := fun av => match av with
  | .tup [.ag [.d r0, .d r1], .d (D.int .i64 r2)] => some (r0, r1, r2)
  | _ => none
def ref41_Get_e (n : Nat) : Entry := fun _ _ g avs _ k => match avs with
  | [c0, c1] => prT g c0 fun a0 => prI g .i64 c1 fun a1 => 
    gb g (ref41_Get n a0 a1 (fun r0 r1 r2 => some (r0, r1, r2))) ((.bool false), (.bool false), 0) fun r => k ⟨.tup [.ag [.d r.1, .d r.2.1], .d (D.int .i64 r.2.2)], [], []⟩
  | _ => none
theorem ref41_Get_ok (n : Nat) : EntryOK Try.prog 28 (ref41_Get_e n) := by
  intro R site g avs hl k r h
  unfold ref41_Get_e at h
  split at h
  rotate_left
  · cases h
  replace h := prT_some h
  obtain ⟨a0, h, le0⟩ := h
  replace h := prI_some h
  obtain ⟨a1, h, le1⟩ := h
  replace h := gb_some h
  obtain ⟨res, h, hr⟩ := h
  refine ⟨_, h, fun hg => CallOK.conv (avs' := [.d (D.str a0), .d (D.int .i64 a1)]) (.cons (le0 hg) (.cons (le1 hg) (.nil))) (callOK_fix (K := ref41_Get_K) (res := res) (ref41_Get_VC n) (fn := Try.f28) (n := n) (by kernel_rfl) (by kernel_rfl) (by kernel_rfl) (ss := [[0, 0], [0]]) rfl ?_ ?_)⟩
  · exact (ref41_Get_vfn n a0 a1 ref41_Get_K).trans (hr hg)
  · intro x hx
    unfold ref41_Get_K at hx
    split at hx
    · injection hx with hx; subst hx; rfl
    · cases hx
end Go.Vx
/-
  strings_Builder_WriteString: its contract
-/
set_option linter.unusedVariables false
namespace Go.Vx
open Go.Proofs
def strings_Builder_WriteString_e (n : Nat) : Entry := bldWriteE 64
theorem strings_Builder_WriteString_ok (n : Nat) : EntryOK Try.prog 39 (strings_Builder_WriteString_e n) := bldWriteE_ok Try.func39 (by kernel_rfl) (by kernel_rfl) Try.bld_write_walk
end Go.Vx
/-
  strings_Builder_String: its contract
-/
set_option linter.unusedVariables false
namespace Go.Vx
open Go.Proofs
def strings_Builder_String_e (n : Nat) : Entry := bldStringE 64
theorem strings_Builder_String_ok (n : Nat) : EntryOK Try.prog 40 (strings_Builder_String_e n) := bldStringE_ok Try.func40 (by kernel_rfl) (by kernel_rfl) Try.bld_string_walk
end Go.Vx
/-
  store_Compact: the interpreter computes the pure function
-/
set_option linter.unusedVariables false
set_option linter.unusedSimpArgs false
set_option maxRecDepth 100000
namespace Go.Vx
open Go.Proofs
noncomputable def store_Compact_c0 : Code := bodyOf Try.f25
noncomputable def store_Compact_c1 : Code := cL (bodyOf Try.f25)
noncomputable def store_Compact_c2 : Code := cL (cR (bodyOf Try.f25))
noncomputable def store_Compact_c3 : Code := cL (cR (cR (bodyOf Try.f25)))
noncomputable def store_Compact_c4 : Code := cL (cR (cR (cR (bodyOf Try.f25))))
noncomputable def store_Compact_c5 : Code := cL (cL (cR (cR (cR (cR (bodyOf Try.f25))))))
noncomputable def store_Compact_c6 : Code := cB (cB (cR (cL (cR (cR (cR (cR (bodyOf Try.f25))))))))
noncomputable def store_Compact_c7 : Code := cB (cR (cL (cR (cR (cR (cR (bodyOf Try.f25)))))))
noncomputable def store_Compact_c8 : Code := cR (cL (cR (cR (cR (cR (bodyOf Try.f25))))))
noncomputable def store_Compact_c9 : Code := cL (cR (cR (cR (cR (bodyOf Try.f25)))))
noncomputable def store_Compact_c10 : Code := cR (cR (cR (cR (cR (bodyOf Try.f25)))))
noncomputable def store_Compact_c11 : Code := cR (cR (cR (cR (bodyOf Try.f25))))
noncomputable def store_Compact_c12 : Code := cR (cR (cR (bodyOf Try.f25)))
noncomputable def store_Compact_c13 : Code := cR (cR (bodyOf Try.f25))
noncomputable def store_Compact_c14 : Code := cR (bodyOf Try.f25)
theorem store_Compact_c7_eq : store_Compact_c7 = .loop store_Compact_c6 := by kernel_rfl
theorem store_Compact_c8_eq : store_Compact_c8 = .block 0 store_Compact_c7 := by kernel_rfl
theorem store_Compact_c9_eq : store_Compact_c9 = .seq store_Compact_c5 store_Compact_c8 := by kernel_rfl
theorem store_Compact_c11_eq : store_Compact_c11 = .seq store_Compact_c9 store_Compact_c10 := by kernel_rfl
theorem store_Compact_c12_eq : store_Compact_c12 = .seq store_Compact_c4 store_Compact_c11 := by kernel_rfl
theorem store_Compact_c13_eq : store_Compact_c13 = .seq store_Compact_c3 store_Compact_c12 := by kernel_rfl
theorem store_Compact_c14_eq : store_Compact_c14 = .seq store_Compact_c2 store_Compact_c13 := by kernel_rfl
theorem store_Compact_c0_eq : store_Compact_c0 = .seq store_Compact_c1 store_Compact_c14 := by kernel_rfl
def store_Compact_tt : TT := [(3, ⟨.int .i64, 1, 8, [.int .i64 0], [.int .i64 0], [], none⟩), (23, ⟨.struct, 2, 24, [.int .i64 0, .string ⟨#[]⟩], [.int .i64 0, .str []], [(0, 3), (1, 9)], some [.int .i64, .str]⟩), (32, ⟨.sl 23 2, 1, 24, [.slice none 0 0], [.sl 2 []], [], none⟩), (64, ⟨.struct, 2, 32, [.pointer none, .slice none 0 0], [], [(0, 62), (1, 59)], none⟩)]
theorem store_Compact_tt_eq : mkTT Try.prog [3, 23, 32, 64] = store_Compact_tt := by kernel_rfl
def store_Compact_cfg : List (Nat × Cfg) := [(0, ⟨[0, 1], [], [], [], []⟩), (1, ⟨[0, 1, 18], [], [], [], []⟩), (2, ⟨[4, 5], [], [], [], []⟩), (3, ⟨[1, 6], [], [], [], []⟩), (4, ⟨[1, 6, 8], [(8, 8)], [], [], []⟩), (5, ⟨[8, 30, 31, 32], [(8, 8)], [], [(8, 1, 1081, 5, 1)], []⟩), (6, ⟨[8, 30, 31, 32, 33], [(8, 8), (1081, 1081)], [], [], []⟩), (7, ⟨[8, 10, 30, 31, 32], [(8, 8), (10, 10), (1081, 1081)], [], [], []⟩), (8, ⟨[8, 11, 30, 31, 32], [(8, 8), (1081, 1081)], [], [(8, 1, 2321, 5, 1)], []⟩), (9, ⟨[8, 30, 31, 32], [(8, 8), (100042, 1081)], [], [], []⟩), (10, ⟨[8, 30, 31, 32], [(1081, 1081), (8, 8)], [], [], []⟩), (11, ⟨[4, 5], [], [], [], []⟩)]
def store_Compact_C (n : Nat) : VC := ⟨specOf [(19, store_Scan_e n), (12, store_Encode_e n), (39, strings_Builder_WriteString_e n), (40, strings_Builder_String_e n)], store_Compact_tt, store_Compact_cfg⟩
theorem store_Compact_ents (n : Nat) : EntsOK Try.prog [(19, store_Scan_e n), (12, store_Encode_e n), (39, strings_Builder_WriteString_e n), (40, strings_Builder_String_e n)] := ⟨store_Scan_ok n, ⟨store_Encode_ok n, ⟨strings_Builder_WriteString_ok n, ⟨strings_Builder_String_ok n, trivial⟩⟩⟩⟩
theorem store_Compact_VC (n : Nat) : VCOk Try.prog (store_Compact_C n) := ⟨specOf_ok (store_Compact_ents n), (store_Compact_tt_eq ▸ mkTT_ok _ : TOk Try.prog store_Compact_tt), by kernel_rfl⟩
theorem store_Compact_p1_congr {R : Type} (n : Nat) (a0 : List UInt8) (a1 : Int) {k0 kk0 : Option R} (hq0 : k0 = kk0) : store_Compact_p1 n a0 a1 k0 = store_Compact_p1 n a0 a1 kk0 := by
  obtain rfl : k0 = kk0 := hq0
  rfl
theorem store_Compact_p2_congr {R : Type} (n : Nat) (a0 : List UInt8) (a1 : Int) {k0 kk0 : Option R} {k1 kk1 : Bool → Option R} (hq0 : k0 = kk0) (hq1 : ∀ x0, k1 x0 = kk1 x0) : store_Compact_p2 n a0 a1 k0 k1 = store_Compact_p2 n a0 a1 kk0 kk1 := by
  obtain rfl : k0 = kk0 := hq0
  obtain rfl : k1 = kk1 := funext fun x0 => hq1 x0
  rfl
theorem store_Compact_p3_congr {R : Type} (n : Nat) (a0 : List UInt8) (a1 : Int) (w2 : Bool) {k0 kk0 : (List (List D)) → Option R} (hq0 : ∀ x0, k0 x0 = kk0 x0) : store_Compact_p3 n a0 a1 w2 k0 = store_Compact_p3 n a0 a1 w2 kk0 := by
  obtain rfl : k0 = kk0 := funext fun x0 => hq0 x0
  rfl
theorem store_Compact_p4_congr {R : Type} (n : Nat) (a1 : Int) (w5 : List (List D)) {k0 kk0 : Option R} (hq0 : k0 = kk0) : store_Compact_p4 n a1 w5 k0 = store_Compact_p4 n a1 w5 kk0 := by
  obtain rfl : k0 = kk0 := hq0
  rfl
theorem store_Compact_p5_congr {R : Type} (n : Nat) (a1 : Int) (w5 : List (List D)) {k0 kk0 : (List (List D)) → Int → Option R} (hq0 : ∀ x0 x1, k0 x0 x1 = kk0 x0 x1) : store_Compact_p5 n a1 w5 k0 = store_Compact_p5 n a1 w5 kk0 := by
  obtain rfl : k0 = kk0 := funext fun x0 => funext fun x1 => hq0 x0 x1
  rfl
theorem store_Compact_p6_congr {R : Type} (n : Nat) (w9 : List (List D)) (w10 : Int) (h13 : Int) (h14 : List (List D)) {k0 kk0 : Int → (List (List D)) → Option R} {k1 kk1 : Bool → Option R} (hq0 : ∀ x0 x1, k0 x0 x1 = kk0 x0 x1) (hq1 : ∀ x0, k1 x0 = kk1 x0) : store_Compact_p6 n w9 w10 h13 h14 k0 k1 = store_Compact_p6 n w9 w10 h13 h14 kk0 kk1 := by
  obtain rfl : k0 = kk0 := funext fun x0 => funext fun x1 => hq0 x0 x1
  obtain rfl : k1 = kk1 := funext fun x0 => hq1 x0
  rfl
theorem store_Compact_p7_congr {R : Type} (n : Nat) (w9 : List (List D)) (w10 : Int) {k0 kk0 : Int → Bool → (List (List D)) → Option R} (hq0 : ∀ x0 x1 x2, k0 x0 x1 x2 = kk0 x0 x1 x2) : store_Compact_p7 n w9 w10 k0 = store_Compact_p7 n w9 w10 kk0 := by
  obtain rfl : k0 = kk0 := funext fun x0 => funext fun x1 => funext fun x2 => hq0 x0 x1 x2
  rfl
theorem store_Compact_p8_congr {R : Type} (n : Nat) (w9 : List (List D)) (w10 : Int) {k0 kk0 : Int → Bool → (List (List D)) → Option R} (hq0 : ∀ x0 x1 x2, k0 x0 x1 x2 = kk0 x0 x1 x2) : store_Compact_p8 n w9 w10 k0 = store_Compact_p8 n w9 w10 kk0 := by
  obtain rfl : k0 = kk0 := funext fun x0 => funext fun x1 => funext fun x2 => hq0 x0 x1 x2
  rfl
theorem store_Compact_p9_congr {R : Type} (n : Nat) (a1 : Int) (w5 : List (List D)) {k0 kk0 : (List (List D)) → Int → Int → Bool → (List (List D)) → Option R} (hq0 : ∀ x0 x1 x2 x3 x4, k0 x0 x1 x2 x3 x4 = kk0 x0 x1 x2 x3 x4) : store_Compact_p9 n a1 w5 k0 = store_Compact_p9 n a1 w5 kk0 := by
  obtain rfl : k0 = kk0 := funext fun x0 => funext fun x1 => funext fun x2 => funext fun x3 => funext fun x4 => hq0 x0 x1 x2 x3 x4
  rfl
theorem store_Compact_p10_congr {R : Type} (n : Nat) (w44 : List (List D)) (w45 : Int) (w46 : Int) (w47 : Bool) (w48 : List (List D)) {k0 kk0 : (List UInt8) → Option R} (hq0 : ∀ x0, k0 x0 = kk0 x0) : store_Compact_p10 n w44 w45 w46 w47 w48 k0 = store_Compact_p10 n w44 w45 w46 w47 w48 kk0 := by
  obtain rfl : k0 = kk0 := funext fun x0 => hq0 x0
  rfl
theorem store_Compact_p11_congr {R : Type} (n : Nat) (a1 : Int) (w5 : List (List D)) {k0 kk0 : (List UInt8) → Option R} (hq0 : ∀ x0, k0 x0 = kk0 x0) : store_Compact_p11 n a1 w5 k0 = store_Compact_p11 n a1 w5 kk0 := by
  obtain rfl : k0 = kk0 := funext fun x0 => hq0 x0
  rfl
theorem store_Compact_p12_congr {R : Type} (n : Nat) (a1 : Int) (w5 : List (List D)) {k0 kk0 : (List UInt8) → Option R} (hq0 : ∀ x0, k0 x0 = kk0 x0) : store_Compact_p12 n a1 w5 k0 = store_Compact_p12 n a1 w5 kk0 := by
  obtain rfl : k0 = kk0 := funext fun x0 => hq0 x0
  rfl
theorem store_Compact_p13_congr {R : Type} (n : Nat) (a0 : List UInt8) (a1 : Int) (w2 : Bool) {k0 kk0 : (List UInt8) → Option R} (hq0 : ∀ x0, k0 x0 = kk0 x0) : store_Compact_p13 n a0 a1 w2 k0 = store_Compact_p13 n a0 a1 w2 kk0 := by
  obtain rfl : k0 = kk0 := funext fun x0 => hq0 x0
  rfl
theorem store_Compact_p14_congr {R : Type} (n : Nat) (a0 : List UInt8) (a1 : Int) {k0 kk0 : (List UInt8) → Int → Option R} (hq0 : ∀ x0 x1, k0 x0 x1 = kk0 x0 x1) : store_Compact_p14 n a0 a1 k0 = store_Compact_p14 n a0 a1 kk0 := by
  obtain rfl : k0 = kk0 := funext fun x0 => funext fun x1 => hq0 x0 x1
  rfl
theorem store_Compact_p15_congr {R : Type} (n : Nat) (a0 : List UInt8) (a1 : Int) {k0 kk0 : (List UInt8) → Int → Option R} (hq0 : ∀ x0 x1, k0 x0 x1 = kk0 x0 x1) : store_Compact_p15 n a0 a1 k0 = store_Compact_p15 n a0 a1 kk0 := by
  obtain rfl : k0 = kk0 := funext fun x0 => funext fun x1 => hq0 x0 x1
  rfl
theorem store_Compact_p1_eq {R : Type} (n : Nat) (a0 : List UInt8) (a1 : Int) (k : Exit → St → Option R) : vexec (store_Compact_C n) n store_Compact_c1 ⟨45, [(0, .d (D.str a0)), (1, .d (D.int .i64 a1))], []⟩ k = store_Compact_p1 n a0 a1 (k .normal ⟨45, [(0, .d (D.str a0)), (1, .d (D.int .i64 a1))], []⟩) := by kernel_rfl
theorem store_Compact_p2_eq {R : Type} (n : Nat) (a0 : List UInt8) (a1 : Int) (k : Exit → St → Option R) : vexec (store_Compact_C n) n store_Compact_c2 ⟨45, [(0, .d (D.str a0)), (1, .d (D.int .i64 a1))], []⟩ k = store_Compact_p2 n a0 a1 (k .ret ⟨45, [(4, .d (D.str [])), (5, .d (D.int .i64 (4 : Int)))], []⟩) (fun z1 => k .normal ⟨45, [(0, .d (D.str a0)), (1, .d (D.int .i64 a1)), (18, .d (D.bool z1))], []⟩) := by kernel_rfl
theorem store_Compact_p3_eq {R : Type} (n : Nat) (a0 : List UInt8) (a1 : Int) (w2 : Bool) (k : Exit → St → Option R) : vexec (store_Compact_C n) n store_Compact_c3 ⟨45, [(0, .d (D.str a0)), (1, .d (D.int .i64 a1)), (18, .d (D.bool w2))], []⟩ k = store_Compact_p3 n a0 a1 w2 (fun z4 => k .normal ⟨45, [(1, .d (D.int .i64 a1)), (6, .d (D.sl 2 z4))], []⟩) := by kernel_rfl
theorem store_Compact_p4_eq {R : Type} (n : Nat) (a1 : Int) (w5 : List (List D)) (k : Exit → St → Option R) : vexec (store_Compact_C n) n store_Compact_c4 ⟨45, [(1, .d (D.int .i64 a1)), (6, .d (D.sl 2 w5))], []⟩ k = store_Compact_p4 n a1 w5 (k .normal ⟨45, [(1, .d (D.int .i64 a1)), (6, .d (D.sl 2 w5)), (8, .ptr 8 0)], [(8, .box [.sa 8 64, .nil])]⟩) := by kernel_rfl
theorem store_Compact_p5_eq {R : Type} (n : Nat) (a1 : Int) (w5 : List (List D)) (k : Exit → St → Option R) : vexec (store_Compact_C n) n store_Compact_c5 ⟨45, [(1, .d (D.int .i64 a1)), (6, .d (D.sl 2 w5)), (8, .ptr 8 0)], [(8, .box [.sa 8 64, .nil])]⟩ k = store_Compact_p5 n a1 w5 (fun z7 z8 => k .normal ⟨45, [(8, .ptr 8 0), (30, .d (D.sl 2 z7)), (31, .d (D.int .i64 z8)), (32, .d (D.int .i64 (0 : Int)))], [(1081, .arr 5 1 []), (8, .box [.sa 8 64, .arr 1081])]⟩) := by kernel_rfl
theorem store_Compact_p6_eq {R : Type} (n : Nat) (w9 : List (List D)) (w10 : Int) (h13 : Int) (h14 : List (List D)) (k : Exit → St → Option R) : vexec (store_Compact_C n) n store_Compact_c6 ⟨45, [(8, .ptr 8 0), (30, .d (D.sl 2 w9)), (31, .d (D.int .i64 w10)), (32, .d (D.int .i64 h13))], [(1081, .arr 5 1 h14), (8, .box [.sa 8 64, .arr 1081])]⟩ k = store_Compact_p6 n w9 w10 h13 h14 (fun z32 z33 => k .normal ⟨45, [(8, .ptr 8 0), (30, .d (D.sl 2 w9)), (31, .d (D.int .i64 w10)), (32, .d (D.int .i64 z32))], [(1081, .arr 5 1 z33), (8, .box [.sa 8 64, .arr 1081])]⟩) (fun z34 => k (.exit 0) ⟨45, [(8, .ptr 8 0), (30, .d (D.sl 2 w9)), (31, .d (D.int .i64 w10)), (32, .d (D.int .i64 h13)), (33, .d (D.bool z34))], [(8, .box [.sa 8 64, .arr 1081]), (1081, .arr 5 1 h14)]⟩) := by kernel_rfl
theorem store_Compact_r7_eq {R : Type} (n : Nat) (w9 : List (List D)) (w10 : Int) (k : Exit → St → Option R) : ∀ (m : Nat) (h13 : Int) (h14 : List (List D)), loopN (vexec (store_Compact_C n) n store_Compact_c6) m ⟨45, [(8, .ptr 8 0), (30, .d (D.sl 2 w9)), (31, .d (D.int .i64 w10)), (32, .d (D.int .i64 h13))], [(1081, .arr 5 1 h14), (8, .box [.sa 8 64, .arr 1081])]⟩ k = store_Compact_r7 n w9 w10 (fun h13 w37 h14 => k (.exit 0) ⟨45, [(8, .ptr 8 0), (30, .d (D.sl 2 w9)), (31, .d (D.int .i64 w10)), (32, .d (D.int .i64 h13)), (33, .d (D.bool w37))], [(8, .box [.sa 8 64, .arr 1081]), (1081, .arr 5 1 h14)]⟩) m h13 h14
  | 0, _, _ => rfl
  | m + 1, h13, h14 => (store_Compact_p6_eq n w9 w10 h13 h14 (loopK (vexec (store_Compact_C n) n store_Compact_c6) m k)).trans (store_Compact_p6_congr n w9 w10 h13 h14 (fun w35 w36 => store_Compact_r7_eq n w9 w10 k m w35 w36) (fun w37 => rfl))
theorem store_Compact_p7_eq {R : Type} (n : Nat) (w9 : List (List D)) (w10 : Int) (k : Exit → St → Option R) : vexec (store_Compact_C n) n store_Compact_c7 ⟨45, [(8, .ptr 8 0), (30, .d (D.sl 2 w9)), (31, .d (D.int .i64 w10)), (32, .d (D.int .i64 (0 : Int)))], [(1081, .arr 5 1 []), (8, .box [.sa 8 64, .arr 1081])]⟩ k = store_Compact_p7 n w9 w10 (fun h13 w37 h14 => k (.exit 0) ⟨45, [(8, .ptr 8 0), (30, .d (D.sl 2 w9)), (31, .d (D.int .i64 w10)), (32, .d (D.int .i64 h13)), (33, .d (D.bool w37))], [(8, .box [.sa 8 64, .arr 1081]), (1081, .arr 5 1 h14)]⟩) := by
  rw [store_Compact_c7_eq]
  exact store_Compact_r7_eq n w9 w10 k n (0 : Int) []
theorem store_Compact_p8_eq {R : Type} (n : Nat) (w9 : List (List D)) (w10 : Int) (k : Exit → St → Option R) : vexec (store_Compact_C n) n store_Compact_c8 ⟨45, [(8, .ptr 8 0), (30, .d (D.sl 2 w9)), (31, .d (D.int .i64 w10)), (32, .d (D.int .i64 (0 : Int)))], [(1081, .arr 5 1 []), (8, .box [.sa 8 64, .arr 1081])]⟩ k = store_Compact_p8 n w9 w10 (fun w38 w39 w40 => k .normal ⟨45, [(8, .ptr 8 0), (30, .d (D.sl 2 w9)), (31, .d (D.int .i64 w10)), (32, .d (D.int .i64 w38)), (33, .d (D.bool w39))], [(8, .box [.sa 8 64, .arr 1081]), (1081, .arr 5 1 w40)]⟩) := by
  rw [store_Compact_c8_eq]
  unfold store_Compact_p8
  exact (store_Compact_p7_eq n w9 w10 (blockK 0 k)).trans (store_Compact_p7_congr n w9 w10 (fun w38 w39 w40 => rfl))
theorem store_Compact_p9_eq {R : Type} (n : Nat) (a1 : Int) (w5 : List (List D)) (k : Exit → St → Option R) : vexec (store_Compact_C n) n store_Compact_c9 ⟨45, [(1, .d (D.int .i64 a1)), (6, .d (D.sl 2 w5)), (8, .ptr 8 0)], [(8, .box [.sa 8 64, .nil])]⟩ k = store_Compact_p9 n a1 w5 (fun w9 w10 w41 w42 w43 => k .normal ⟨45, [(8, .ptr 8 0), (30, .d (D.sl 2 w9)), (31, .d (D.int .i64 w10)), (32, .d (D.int .i64 w41)), (33, .d (D.bool w42))], [(8, .box [.sa 8 64, .arr 1081]), (1081, .arr 5 1 w43)]⟩) := by
  rw [store_Compact_c9_eq]
  unfold store_Compact_p9
  exact (store_Compact_p5_eq n a1 w5 (seqK (store_Compact_C n) n store_Compact_c8 k)).trans (store_Compact_p5_congr n a1 w5 (fun w9 w10 => store_Compact_p8_eq n w9 w10 k))
theorem store_Compact_p10_eq {R : Type} (n : Nat) (w44 : List (List D)) (w45 : Int) (w46 : Int) (w47 : Bool) (w48 : List (List D)) (k : Exit → St → Option R) : vexec (store_Compact_C n) n store_Compact_c10 ⟨45, [(8, .ptr 8 0), (30, .d (D.sl 2 w44)), (31, .d (D.int .i64 w45)), (32, .d (D.int .i64 w46)), (33, .d (D.bool w47))], [(8, .box [.sa 8 64, .arr 1081]), (1081, .arr 5 1 w48)]⟩ k = store_Compact_p10 n w44 w45 w46 w47 w48 (fun s49 => k .ret ⟨45, [(4, .d (D.str s49)), (5, .d (D.int .i64 (0 : Int)))], []⟩) := by kernel_rfl
theorem store_Compact_p11_eq {R : Type} (n : Nat) (a1 : Int) (w5 : List (List D)) (k : Exit → St → Option R) : vexec (store_Compact_C n) n store_Compact_c11 ⟨45, [(1, .d (D.int .i64 a1)), (6, .d (D.sl 2 w5)), (8, .ptr 8 0)], [(8, .box [.sa 8 64, .nil])]⟩ k = store_Compact_p11 n a1 w5 (fun w50 => k .ret ⟨45, [(4, .d (D.str w50)), (5, .d (D.int .i64 (0 : Int)))], []⟩) := by
  rw [store_Compact_c11_eq]
  unfold store_Compact_p11
  exact (store_Compact_p9_eq n a1 w5 (seqK (store_Compact_C n) n store_Compact_c10 k)).trans (store_Compact_p9_congr n a1 w5 (fun w44 w45 w46 w47 w48 => store_Compact_p10_eq n w44 w45 w46 w47 w48 k))
theorem store_Compact_p12_eq {R : Type} (n : Nat) (a1 : Int) (w5 : List (List D)) (k : Exit → St → Option R) : vexec (store_Compact_C n) n store_Compact_c12 ⟨45, [(1, .d (D.int .i64 a1)), (6, .d (D.sl 2 w5))], []⟩ k = store_Compact_p12 n a1 w5 (fun w51 => k .ret ⟨45, [(4, .d (D.str w51)), (5, .d (D.int .i64 (0 : Int)))], []⟩) := by
  rw [store_Compact_c12_eq]
  unfold store_Compact_p12
  exact (store_Compact_p4_eq n a1 w5 (seqK (store_Compact_C n) n store_Compact_c11 k)).trans (store_Compact_p4_congr n a1 w5 (store_Compact_p11_eq n a1 w5 k))
theorem store_Compact_p13_eq {R : Type} (n : Nat) (a0 : List UInt8) (a1 : Int) (w2 : Bool) (k : Exit → St → Option R) : vexec (store_Compact_C n) n store_Compact_c13 ⟨45, [(0, .d (D.str a0)), (1, .d (D.int .i64 a1)), (18, .d (D.bool w2))], []⟩ k = store_Compact_p13 n a0 a1 w2 (fun w52 => k .ret ⟨45, [(4, .d (D.str w52)), (5, .d (D.int .i64 (0 : Int)))], []⟩) := by
  rw [store_Compact_c13_eq]
  unfold store_Compact_p13
  exact (store_Compact_p3_eq n a0 a1 w2 (seqK (store_Compact_C n) n store_Compact_c12 k)).trans (store_Compact_p3_congr n a0 a1 w2 (fun w5 => store_Compact_p12_eq n a1 w5 k))
theorem store_Compact_p14_eq {R : Type} (n : Nat) (a0 : List UInt8) (a1 : Int) (k : Exit → St → Option R) : vexec (store_Compact_C n) n store_Compact_c14 ⟨45, [(0, .d (D.str a0)), (1, .d (D.int .i64 a1))], []⟩ k = store_Compact_p14 n a0 a1 (fun z54 z55 => k .ret ⟨45, [(4, .d (D.str z54)), (5, .d (D.int .i64 z55))], []⟩) := by
  rw [store_Compact_c14_eq]
  unfold store_Compact_p14
  exact (store_Compact_p2_eq n a0 a1 (seqK (store_Compact_C n) n store_Compact_c13 k)).trans (store_Compact_p2_congr n a0 a1 (rfl) (fun w2 => store_Compact_p13_eq n a0 a1 w2 k))
theorem store_Compact_p15_eq {R : Type} (n : Nat) (a0 : List UInt8) (a1 : Int) (k : Exit → St → Option R) : vexec (store_Compact_C n) n store_Compact_c0 ⟨45, [(0, .d (D.str a0)), (1, .d (D.int .i64 a1))], []⟩ k = store_Compact_p15 n a0 a1 (fun w56 w57 => k .ret ⟨45, [(4, .d (D.str w56)), (5, .d (D.int .i64 w57))], []⟩) := by
  rw [store_Compact_c0_eq]
  unfold store_Compact_p15
  exact (store_Compact_p1_eq n a0 a1 (seqK (store_Compact_C n) n store_Compact_c14 k)).trans (store_Compact_p1_congr n a0 a1 (store_Compact_p14_eq n a0 a1 k))
theorem store_Compact_vfn {R : Type} (n : Nat) (a0 : List UInt8) (a1 : Int) (K : AV → Option R) : vfn (store_Compact_C n) n Try.f25 [.d (D.str a0), .d (D.int .i64 a1)] [] (retF [[0], [0]] K) = store_Compact n a0 a1 (fun r0 r1 => K (.tup [.d (D.str r0), .d (D.int .i64 r1)])) :=
  (show vfn (store_Compact_C n) n Try.f25 [.d (D.str a0), .d (D.int .i64 a1)] [] (retF [[0], [0]] K) = vexec (store_Compact_C n) n store_Compact_c0 ⟨45, [(0, .d (D.str a0)), (1, .d (D.int .i64 a1))], []⟩ (retX store_Compact_tt [.tmp 4, .tmp 5] (retF [[0], [0]] K)) from vfn_at (by kernel_rfl) (by kernel_rfl) rfl (by kernel_rfl) rfl (by kernel_rfl) rfl).trans ((store_Compact_p15_eq n a0 a1 (retX store_Compact_tt [.tmp 4, .tmp 5] (retF [[0], [0]] K))).trans (by kernel_rfl))
def store_Compact_K : AV → Option ((List UInt8) × Int) := fun av => match av with
  | .tup [.d (D.str r0), .d (D.int .i64 r1)] => some (r0, r1)
  | _ => none
def store_Compact_e (n : Nat) : Entry := fun _ _ g avs _ k => match avs with
  | [c0, c1] => prT g c0 fun a0 => prI g .i64 c1 fun a1 => 
    gb g (store_Compact n a0 a1 (fun r0 r1 => some (r0, r1))) ([], 0) fun r => k ⟨.tup [.d (D.str r.1), .d (D.int .i64 r.2)], [], []⟩
  | _ => none
theorem store_Compact_ok (n : Nat) : EntryOK Try.prog 25 (store_Compact_e n) := by
  intro R site g avs hl k r h
  unfold store_Compact_e at h
  split at h
  rotate_left
  · cases h
  replace h := prT_some h
  obtain ⟨a0, h, le0⟩ := h
  replace h := prI_some h
  obtain ⟨a1, h, le1⟩ := h
  replace h := gb_some h
  obtain ⟨res, h, hr⟩ := h
  refine ⟨_, h, fun hg => CallOK.conv (avs' := [.d (D.str a0), .d (D.int .i64 a1)]) (.cons (le0 hg) (.cons (le1 hg) (.nil))) (callOK_fix (K := store_Compact_K) (res := res) (store_Compact_VC n) (fn := Try.f25) (n := n) (by kernel_rfl) (by kernel_rfl) (by kernel_rfl) (ss := [[0], [0]]) rfl ?_ ?_)⟩
  · exact (store_Compact_vfn n a0 a1 store_Compact_K).trans (hr hg)
  · intro x hx
    unfold store_Compact_K at hx
    split at hx
    · injection hx with hx; subst hx; rfl
    · cases hx
end Go.Vx
/-
  ref41_Compact: the interpreter computes the pure function
-/
set_option linter.unusedVariables false
set_option linter.unusedSimpArgs false
set_option maxRecDepth 100000
namespace Go.Vx
open Go.Proofs
noncomputable def ref41_Compact_c0 : Code := bodyOf Try.f29
noncomputable def ref41_Compact_c1 : Code := cL (bodyOf Try.f29)
noncomputable def ref41_Compact_c2 : Code := cL (cR (bodyOf Try.f29))
noncomputable def ref41_Compact_c3 : Code := cL (cR (cR (bodyOf Try.f29)))
noncomputable def ref41_Compact_c4 : Code := cL (cR (cR (cR (bodyOf Try.f29))))
noncomputable def ref41_Compact_c5 : Code := cL (cL (cR (cR (cR (cR (bodyOf Try.f29))))))
noncomputable def ref41_Compact_c6 : Code := cB (cB (cR (cL (cR (cR (cR (cR (bodyOf Try.f29))))))))
noncomputable def ref41_Compact_c7 : Code := cB (cR (cL (cR (cR (cR (cR (bodyOf Try.f29)))))))
noncomputable def ref41_Compact_c8 : Code := cR (cL (cR (cR (cR (cR (bodyOf Try.f29))))))
noncomputable def ref41_Compact_c9 : Code := cL (cR (cR (cR (cR (bodyOf Try.f29)))))
noncomputable def ref41_Compact_c10 : Code := cR (cR (cR (cR (cR (bodyOf Try.f29)))))
noncomputable def ref41_Compact_c11 : Code := cR (cR (cR (cR (bodyOf Try.f29))))
noncomputable def ref41_Compact_c12 : Code := cR (cR (cR (bodyOf Try.f29)))
noncomputable def ref41_Compact_c13 : Code := cR (cR (bodyOf Try.f29))
noncomputable def ref41_Compact_c14 : Code := cR (bodyOf Try.f29)
theorem ref41_Compact_c7_eq : ref41_Compact_c7 = .loop ref41_Compact_c6 := by kernel_rfl
theorem ref41_Compact_c8_eq : ref41_Compact_c8 = .block 0 ref41_Compact_c7 := by kernel_rfl
theorem ref41_Compact_c9_eq : ref41_Compact_c9 = .seq ref41_Compact_c5 ref41_Compact_c8 := by kernel_rfl
theorem ref41_Compact_c11_eq : ref41_Compact_c11 = .seq ref41_Compact_c9 ref41_Compact_c10 := by kernel_rfl
theorem ref41_Compact_c12_eq : ref41_Compact_c12 = .seq ref41_Compact_c4 ref41_Compact_c11 := by kernel_rfl
theorem ref41_Compact_c13_eq : ref41_Compact_c13 = .seq ref41_Compact_c3 ref41_Compact_c12 := by kernel_rfl
theorem ref41_Compact_c14_eq : ref41_Compact_c14 = .seq ref41_Compact_c2 ref41_Compact_c13 := by kernel_rfl
theorem ref41_Compact_c0_eq : ref41_Compact_c0 = .seq ref41_Compact_c1 ref41_Compact_c14 := by kernel_rfl
def ref41_Compact_tt : TT := [(3, ⟨.int .i64, 1, 8, [.int .i64 0], [.int .i64 0], [], none⟩), (9, ⟨.str, 1, 16, [.string ⟨#[]⟩], [.str []], [], none⟩), (23, ⟨.struct, 2, 24, [.int .i64 0, .string ⟨#[]⟩], [.int .i64 0, .str []], [(0, 3), (1, 9)], some [.int .i64, .str]⟩), (32, ⟨.sl 23 2, 1, 24, [.slice none 0 0], [.sl 2 []], [], none⟩)]
theorem ref41_Compact_tt_eq : mkTT Try.prog [3, 9, 23, 32] = ref41_Compact_tt := by kernel_rfl
def ref41_Compact_cfg : List (Nat × Cfg) := [(0, ⟨[0, 1], [], [], [], []⟩), (1, ⟨[0, 1, 18], [], [], [], []⟩), (2, ⟨[4, 5], [], [], [], []⟩), (3, ⟨[1, 6], [], [], [], []⟩), (4, ⟨[1, 6, 8], [], [], [], []⟩), (5, ⟨[8, 30, 31, 32], [], [], [], []⟩), (6, ⟨[8, 30, 31, 32, 33], [], [], [], []⟩), (7, ⟨[8, 10, 30, 31, 32], [(10, 10)], [], [], []⟩), (8, ⟨[8, 11, 30, 31, 32], [], [], [], []⟩), (9, ⟨[8, 30, 31, 32], [], [], [], []⟩), (10, ⟨[8, 30, 31, 32], [], [], [], []⟩), (11, ⟨[4, 5], [], [], [], []⟩)]
def ref41_Compact_C (n : Nat) : VC := ⟨specOf [(20, ref41_Scan_e n), (13, ref41_Encode_e n)], ref41_Compact_tt, ref41_Compact_cfg⟩
theorem ref41_Compact_ents (n : Nat) : EntsOK Try.prog [(20, ref41_Scan_e n), (13, ref41_Encode_e n)] := ⟨ref41_Scan_ok n, ⟨ref41_Encode_ok n, trivial⟩⟩
theorem ref41_Compact_VC (n : Nat) : VCOk Try.prog (ref41_Compact_C n) := ⟨specOf_ok (ref41_Compact_ents n), (ref41_Compact_tt_eq ▸ mkTT_ok _ : TOk Try.prog ref41_Compact_tt), by kernel_rfl⟩
theorem ref41_Compact_p1_congr {R : Type} (n : Nat) (a0 : List UInt8) (a1 : Int) {k0 kk0 : Option R} (hq0 : k0 = kk0) : ref41_Compact_p1 n a0 a1 k0 = ref41_Compact_p1 n a0 a1 kk0 := by
  obtain rfl : k0 = kk0 := hq0
  rfl
theorem ref41_Compact_p2_congr {R : Type} (n : Nat) (a0 : List UInt8) (a1 : Int) {k0 kk0 : Option R} {k1 kk1 : Bool → Option R} (hq0 : k0 = kk0) (hq1 : ∀ x0, k1 x0 = kk1 x0) : ref41_Compact_p2 n a0 a1 k0 k1 = ref41_Compact_p2 n a0 a1 kk0 kk1 := by
  obtain rfl : k0 = kk0 := hq0
  obtain rfl : k1 = kk1 := funext fun x0 => hq1 x0
  rfl
theorem ref41_Compact_p3_congr {R : Type} (n : Nat) (a0 : List UInt8) (a1 : Int) (w2 : Bool) {k0 kk0 : (List (List D)) → Option R} (hq0 : ∀ x0, k0 x0 = kk0 x0) : ref41_Compact_p3 n a0 a1 w2 k0 = ref41_Compact_p3 n a0 a1 w2 kk0 := by
  obtain rfl : k0 = kk0 := funext fun x0 => hq0 x0
  rfl
theorem ref41_Compact_p4_congr {R : Type} (n : Nat) (a1 : Int) (w5 : List (List D)) {k0 kk0 : Option R} (hq0 : k0 = kk0) : ref41_Compact_p4 n a1 w5 k0 = ref41_Compact_p4 n a1 w5 kk0 := by
  obtain rfl : k0 = kk0 := hq0
  rfl
theorem ref41_Compact_p5_congr {R : Type} (n : Nat) (a1 : Int) (w5 : List (List D)) {k0 kk0 : (List (List D)) → Int → Option R} (hq0 : ∀ x0 x1, k0 x0 x1 = kk0 x0 x1) : ref41_Compact_p5 n a1 w5 k0 = ref41_Compact_p5 n a1 w5 kk0 := by
  obtain rfl : k0 = kk0 := funext fun x0 => funext fun x1 => hq0 x0 x1
  rfl
theorem ref41_Compact_p6_congr {R : Type} (n : Nat) (h11 : List UInt8) (w9 : List (List D)) (w10 : Int) (h14 : Int) {k0 kk0 : (List UInt8) → Int → Option R} {k1 kk1 : Bool → Option R} (hq0 : ∀ x0 x1, k0 x0 x1 = kk0 x0 x1) (hq1 : ∀ x0, k1 x0 = kk1 x0) : ref41_Compact_p6 n h11 w9 w10 h14 k0 k1 = ref41_Compact_p6 n h11 w9 w10 h14 kk0 kk1 := by
  obtain rfl : k0 = kk0 := funext fun x0 => funext fun x1 => hq0 x0 x1
  obtain rfl : k1 = kk1 := funext fun x0 => hq1 x0
  rfl
theorem ref41_Compact_p7_congr {R : Type} (n : Nat) (w9 : List (List D)) (w10 : Int) {k0 kk0 : (List UInt8) → Int → Bool → Option R} (hq0 : ∀ x0 x1 x2, k0 x0 x1 x2 = kk0 x0 x1 x2) : ref41_Compact_p7 n w9 w10 k0 = ref41_Compact_p7 n w9 w10 kk0 := by
  obtain rfl : k0 = kk0 := funext fun x0 => funext fun x1 => funext fun x2 => hq0 x0 x1 x2
  rfl
theorem ref41_Compact_p8_congr {R : Type} (n : Nat) (w9 : List (List D)) (w10 : Int) {k0 kk0 : (List UInt8) → Int → Bool → Option R} (hq0 : ∀ x0 x1 x2, k0 x0 x1 x2 = kk0 x0 x1 x2) : ref41_Compact_p8 n w9 w10 k0 = ref41_Compact_p8 n w9 w10 kk0 := by
  obtain rfl : k0 = kk0 := funext fun x0 => funext fun x1 => funext fun x2 => hq0 x0 x1 x2
  rfl
theorem ref41_Compact_p9_congr {R : Type} (n : Nat) (a1 : Int) (w5 : List (List D)) {k0 kk0 : (List UInt8) → (List (List D)) → Int → Int → Bool → Option R} (hq0 : ∀ x0 x1 x2 x3 x4, k0 x0 x1 x2 x3 x4 = kk0 x0 x1 x2 x3 x4) : ref41_Compact_p9 n a1 w5 k0 = ref41_Compact_p9 n a1 w5 kk0 := by
  obtain rfl : k0 = kk0 := funext fun x0 => funext fun x1 => funext fun x2 => funext fun x3 => funext fun x4 => hq0 x0 x1 x2 x3 x4
  rfl
theorem ref41_Compact_p10_congr {R : Type} (n : Nat) (w44 : List UInt8) (w45 : List (List D)) (w46 : Int) (w47 : Int) (w48 : Bool) {k0 kk0 : Option R} (hq0 : k0 = kk0) : ref41_Compact_p10 n w44 w45 w46 w47 w48 k0 = ref41_Compact_p10 n w44 w45 w46 w47 w48 kk0 := by
  obtain rfl : k0 = kk0 := hq0
  rfl
theorem ref41_Compact_p11_congr {R : Type} (n : Nat) (a1 : Int) (w5 : List (List D)) {k0 kk0 : (List UInt8) → Option R} (hq0 : ∀ x0, k0 x0 = kk0 x0) : ref41_Compact_p11 n a1 w5 k0 = ref41_Compact_p11 n a1 w5 kk0 := by
  obtain rfl : k0 = kk0 := funext fun x0 => hq0 x0
  rfl
theorem ref41_Compact_p12_congr {R : Type} (n : Nat) (a1 : Int) (w5 : List (List D)) {k0 kk0 : (List UInt8) → Option R} (hq0 : ∀ x0, k0 x0 = kk0 x0) : ref41_Compact_p12 n a1 w5 k0 = ref41_Compact_p12 n a1 w5 kk0 := by
  obtain rfl : k0 = kk0 := funext fun x0 => hq0 x0
  rfl
theorem ref41_Compact_p13_congr {R : Type} (n : Nat) (a0 : List UInt8) (a1 : Int) (w2 : Bool) {k0 kk0 : (List UInt8) → Option R} (hq0 : ∀ x0, k0 x0 = kk0 x0) : ref41_Compact_p13 n a0 a1 w2 k0 = ref41_Compact_p13 n a0 a1 w2 kk0 := by
  obtain rfl : k0 = kk0 := funext fun x0 => hq0 x0
  rfl
theorem ref41_Compact_p14_congr {R : Type} (n : Nat) (a0 : List UInt8) (a1 : Int) {k0 kk0 : (List UInt8) → Int → Option R} (hq0 : ∀ x0 x1, k0 x0 x1 = kk0 x0 x1) : ref41_Compact_p14 n a0 a1 k0 = ref41_Compact_p14 n a0 a1 kk0 := by
  obtain rfl : k0 = kk0 := funext fun x0 => funext fun x1 => hq0 x0 x1
  rfl
theorem ref41_Compact_p15_congr {R : Type} (n : Nat) (a0 : List UInt8) (a1 : Int) {k0 kk0 : (List UInt8) → Int → Option R} (hq0 : ∀ x0 x1, k0 x0 x1 = kk0 x0 x1) : ref41_Compact_p15 n a0 a1 k0 = ref41_Compact_p15 n a0 a1 kk0 := by
  obtain rfl : k0 = kk0 := funext fun x0 => funext fun x1 => hq0 x0 x1
  rfl
theorem ref41_Compact_p1_eq {R : Type} (n : Nat) (a0 : List UInt8) (a1 : Int) (k : Exit → St → Option R) : vexec (ref41_Compact_C n) n ref41_Compact_c1 ⟨46, [(0, .d (D.str a0)), (1, .d (D.int .i64 a1))], []⟩ k = ref41_Compact_p1 n a0 a1 (k .normal ⟨46, [(0, .d (D.str a0)), (1, .d (D.int .i64 a1))], []⟩) := by kernel_rfl
theorem ref41_Compact_p2_eq {R : Type} (n : Nat) (a0 : List UInt8) (a1 : Int) (k : Exit → St → Option R) : vexec (ref41_Compact_C n) n ref41_Compact_c2 ⟨46, [(0, .d (D.str a0)), (1, .d (D.int .i64 a1))], []⟩ k = ref41_Compact_p2 n a0 a1 (k .ret ⟨46, [(4, .d (D.str [])), (5, .d (D.int .i64 (4 : Int)))], []⟩) (fun z1 => k .normal ⟨46, [(0, .d (D.str a0)), (1, .d (D.int .i64 a1)), (18, .d (D.bool z1))], []⟩) := by kernel_rfl
theorem ref41_Compact_p3_eq {R : Type} (n : Nat) (a0 : List UInt8) (a1 : Int) (w2 : Bool) (k : Exit → St → Option R) : vexec (ref41_Compact_C n) n ref41_Compact_c3 ⟨46, [(0, .d (D.str a0)), (1, .d (D.int .i64 a1)), (18, .d (D.bool w2))], []⟩ k = ref41_Compact_p3 n a0 a1 w2 (fun z4 => k .normal ⟨46, [(1, .d (D.int .i64 a1)), (6, .d (D.sl 2 z4))], []⟩) := by kernel_rfl
theorem ref41_Compact_p4_eq {R : Type} (n : Nat) (a1 : Int) (w5 : List (List D)) (k : Exit → St → Option R) : vexec (ref41_Compact_C n) n ref41_Compact_c4 ⟨46, [(1, .d (D.int .i64 a1)), (6, .d (D.sl 2 w5))], []⟩ k = ref41_Compact_p4 n a1 w5 (k .normal ⟨46, [(1, .d (D.int .i64 a1)), (6, .d (D.sl 2 w5)), (8, .d (D.str []))], []⟩) := by kernel_rfl
theorem ref41_Compact_p5_eq {R : Type} (n : Nat) (a1 : Int) (w5 : List (List D)) (k : Exit → St → Option R) : vexec (ref41_Compact_C n) n ref41_Compact_c5 ⟨46, [(1, .d (D.int .i64 a1)), (6, .d (D.sl 2 w5)), (8, .d (D.str []))], []⟩ k = ref41_Compact_p5 n a1 w5 (fun z7 z8 => k .normal ⟨46, [(8, .d (D.str [])), (30, .d (D.sl 2 z7)), (31, .d (D.int .i64 z8)), (32, .d (D.int .i64 (0 : Int)))], []⟩) := by kernel_rfl
theorem ref41_Compact_p6_eq {R : Type} (n : Nat) (h11 : List UInt8) (w9 : List (List D)) (w10 : Int) (h14 : Int) (k : Exit → St → Option R) : vexec (ref41_Compact_C n) n ref41_Compact_c6 ⟨46, [(8, .d (D.str h11)), (30, .d (D.sl 2 w9)), (31, .d (D.int .i64 w10)), (32, .d (D.int .i64 h14))], []⟩ k = ref41_Compact_p6 n h11 w9 w10 h14 (fun z32 z33 => k .normal ⟨46, [(8, .d (D.str z32)), (30, .d (D.sl 2 w9)), (31, .d (D.int .i64 w10)), (32, .d (D.int .i64 z33))], []⟩) (fun z34 => k (.exit 0) ⟨46, [(8, .d (D.str h11)), (30, .d (D.sl 2 w9)), (31, .d (D.int .i64 w10)), (32, .d (D.int .i64 h14)), (33, .d (D.bool z34))], []⟩) := by kernel_rfl
theorem ref41_Compact_r7_eq {R : Type} (n : Nat) (w9 : List (List D)) (w10 : Int) (k : Exit → St → Option R) : ∀ (m : Nat) (h11 : List UInt8) (h14 : Int), loopN (vexec (ref41_Compact_C n) n ref41_Compact_c6) m ⟨46, [(8, .d (D.str h11)), (30, .d (D.sl 2 w9)), (31, .d (D.int .i64 w10)), (32, .d (D.int .i64 h14))], []⟩ k = ref41_Compact_r7 n w9 w10 (fun h11 h14 w37 => k (.exit 0) ⟨46, [(8, .d (D.str h11)), (30, .d (D.sl 2 w9)), (31, .d (D.int .i64 w10)), (32, .d (D.int .i64 h14)), (33, .d (D.bool w37))], []⟩) m h11 h14
  | 0, _, _ => rfl
  | m + 1, h11, h14 => (ref41_Compact_p6_eq n h11 w9 w10 h14 (loopK (vexec (ref41_Compact_C n) n ref41_Compact_c6) m k)).trans (ref41_Compact_p6_congr n h11 w9 w10 h14 (fun w35 w36 => ref41_Compact_r7_eq n w9 w10 k m w35 w36) (fun w37 => rfl))
theorem ref41_Compact_p7_eq {R : Type} (n : Nat) (w9 : List (List D)) (w10 : Int) (k : Exit → St → Option R) : vexec (ref41_Compact_C n) n ref41_Compact_c7 ⟨46, [(8, .d (D.str [])), (30, .d (D.sl 2 w9)), (31, .d (D.int .i64 w10)), (32, .d (D.int .i64 (0 : Int)))], []⟩ k = ref41_Compact_p7 n w9 w10 (fun h11 h14 w37 => k (.exit 0) ⟨46, [(8, .d (D.str h11)), (30, .d (D.sl 2 w9)), (31, .d (D.int .i64 w10)), (32, .d (D.int .i64 h14)), (33, .d (D.bool w37))], []⟩) := by
  rw [ref41_Compact_c7_eq]
  exact ref41_Compact_r7_eq n w9 w10 k n [] (0 : Int)
theorem ref41_Compact_p8_eq {R : Type} (n : Nat) (w9 : List (List D)) (w10 : Int) (k : Exit → St → Option R) : vexec (ref41_Compact_C n) n ref41_Compact_c8 ⟨46, [(8, .d (D.str [])), (30, .d (D.sl 2 w9)), (31, .d (D.int .i64 w10)), (32, .d (D.int .i64 (0 : Int)))], []⟩ k = ref41_Compact_p8 n w9 w10 (fun w38 w39 w40 => k .normal ⟨46, [(8, .d (D.str w38)), (30, .d (D.sl 2 w9)), (31, .d (D.int .i64 w10)), (32, .d (D.int .i64 w39)), (33, .d (D.bool w40))], []⟩) := by
  rw [ref41_Compact_c8_eq]
  unfold ref41_Compact_p8
  exact (ref41_Compact_p7_eq n w9 w10 (blockK 0 k)).trans (ref41_Compact_p7_congr n w9 w10 (fun w38 w39 w40 => rfl))
theorem ref41_Compact_p9_eq {R : Type} (n : Nat) (a1 : Int) (w5 : List (List D)) (k : Exit → St → Option R) : vexec (ref41_Compact_C n) n ref41_Compact_c9 ⟨46, [(1, .d (D.int .i64 a1)), (6, .d (D.sl 2 w5)), (8, .d (D.str []))], []⟩ k = ref41_Compact_p9 n a1 w5 (fun w41 w9 w10 w42 w43 => k .normal ⟨46, [(8, .d (D.str w41)), (30, .d (D.sl 2 w9)), (31, .d (D.int .i64 w10)), (32, .d (D.int .i64 w42)), (33, .d (D.bool w43))], []⟩) := by
  rw [ref41_Compact_c9_eq]
  unfold ref41_Compact_p9
  exact (ref41_Compact_p5_eq n a1 w5 (seqK (ref41_Compact_C n) n ref41_Compact_c8 k)).trans (ref41_Compact_p5_congr n a1 w5 (fun w9 w10 => ref41_Compact_p8_eq n w9 w10 k))
theorem ref41_Compact_p10_eq {R : Type} (n : Nat) (w44 : List UInt8) (w45 : List (List D)) (w46 : Int) (w47 : Int) (w48 : Bool) (k : Exit → St → Option R) : vexec (ref41_Compact_C n) n ref41_Compact_c10 ⟨46, [(8, .d (D.str w44)), (30, .d (D.sl 2 w45)), (31, .d (D.int .i64 w46)), (32, .d (D.int .i64 w47)), (33, .d (D.bool w48))], []⟩ k = ref41_Compact_p10 n w44 w45 w46 w47 w48 (k .ret ⟨46, [(4, .d (D.str w44)), (5, .d (D.int .i64 (0 : Int)))], []⟩) := by kernel_rfl
theorem ref41_Compact_p11_eq {R : Type} (n : Nat) (a1 : Int) (w5 : List (List D)) (k : Exit → St → Option R) : vexec (ref41_Compact_C n) n ref41_Compact_c11 ⟨46, [(1, .d (D.int .i64 a1)), (6, .d (D.sl 2 w5)), (8, .d (D.str []))], []⟩ k = ref41_Compact_p11 n a1 w5 (fun w44 => k .ret ⟨46, [(4, .d (D.str w44)), (5, .d (D.int .i64 (0 : Int)))], []⟩) := by
  rw [ref41_Compact_c11_eq]
  unfold ref41_Compact_p11
  exact (ref41_Compact_p9_eq n a1 w5 (seqK (ref41_Compact_C n) n ref41_Compact_c10 k)).trans (ref41_Compact_p9_congr n a1 w5 (fun w44 w45 w46 w47 w48 => ref41_Compact_p10_eq n w44 w45 w46 w47 w48 k))
theorem ref41_Compact_p12_eq {R : Type} (n : Nat) (a1 : Int) (w5 : List (List D)) (k : Exit → St → Option R) : vexec (ref41_Compact_C n) n ref41_Compact_c12 ⟨46, [(1, .d (D.int .i64 a1)), (6, .d (D.sl 2 w5))], []⟩ k = ref41_Compact_p12 n a1 w5 (fun w49 => k .ret ⟨46, [(4, .d (D.str w49)), (5, .d (D.int .i64 (0 : Int)))], []⟩) := by
  rw [ref41_Compact_c12_eq]
  unfold ref41_Compact_p12
  exact (ref41_Compact_p4_eq n a1 w5 (seqK (ref41_Compact_C n) n ref41_Compact_c11 k)).trans (ref41_Compact_p4_congr n a1 w5 (ref41_Compact_p11_eq n a1 w5 k))
theorem ref41_Compact_p13_eq {R : Type} (n : Nat) (a0 : List UInt8) (a1 : Int) (w2 : Bool) (k : Exit → St → Option R) : vexec (ref41_Compact_C n) n ref41_Compact_c13 ⟨46, [(0, .d (D.str a0)), (1, .d (D.int .i64 a1)), (18, .d (D.bool w2))], []⟩ k = ref41_Compact_p13 n a0 a1 w2 (fun w50 => k .ret ⟨46, [(4, .d (D.str w50)), (5, .d (D.int .i64 (0 : Int)))], []⟩) := by
  rw [ref41_Compact_c13_eq]
  unfold ref41_Compact_p13
  exact (ref41_Compact_p3_eq n a0 a1 w2 (seqK (ref41_Compact_C n) n ref41_Compact_c12 k)).trans (ref41_Compact_p3_congr n a0 a1 w2 (fun w5 => ref41_Compact_p12_eq n a1 w5 k))
theorem ref41_Compact_p14_eq {R : Type} (n : Nat) (a0 : List UInt8) (a1 : Int) (k : Exit → St → Option R) : vexec (ref41_Compact_C n) n ref41_Compact_c14 ⟨46, [(0, .d (D.str a0)), (1, .d (D.int .i64 a1))], []⟩ k = ref41_Compact_p14 n a0 a1 (fun z52 z53 => k .ret ⟨46, [(4, .d (D.str z52)), (5, .d (D.int .i64 z53))], []⟩) := by
  rw [ref41_Compact_c14_eq]
  unfold ref41_Compact_p14
  exact (ref41_Compact_p2_eq n a0 a1 (seqK (ref41_Compact_C n) n ref41_Compact_c13 k)).trans (ref41_Compact_p2_congr n a0 a1 (rfl) (fun w2 => ref41_Compact_p13_eq n a0 a1 w2 k))
theorem ref41_Compact_p15_eq {R : Type} (n : Nat) (a0 : List UInt8) (a1 : Int) (k : Exit → St → Option R) : vexec (ref41_Compact_C n) n ref41_Compact_c0 ⟨46, [(0, .d (D.str a0)), (1, .d (D.int .i64 a1))], []⟩ k = ref41_Compact_p15 n a0 a1 (fun w54 w55 => k .ret ⟨46, [(4, .d (D.str w54)), (5, .d (D.int .i64 w55))], []⟩) := by
  rw [ref41_Compact_c0_eq]
  unfold ref41_Compact_p15
  exact (ref41_Compact_p1_eq n a0 a1 (seqK (ref41_Compact_C n) n ref41_Compact_c14 k)).trans (ref41_Compact_p1_congr n a0 a1 (ref41_Compact_p14_eq n a0 a1 k))
theorem ref41_Compact_vfn {R : Type} (n : Nat) (a0 : List UInt8) (a1 : Int) (K : AV → Option R) : vfn (ref41_Compact_C n) n Try.f29 [.d (D.str a0), .d (D.int .i64 a1)] [] (retF [[0], [0]] K) = ref41_Compact n a0 a1 (fun r0 r1 => K (.tup [.d (D.str r0), .d (D.int .i64 r1)])) :=
  (show vfn (ref41_Compact_C n) n Try.f29 [.d (D.str a0), .d (D.int .i64 a1)] [] (retF [[0], [0]] K) = vexec (ref41_Compact_C n) n ref41_Compact_c0 ⟨46, [(0, .d (D.str a0)), (1, .d (D.int .i64 a1))], []⟩ (retX ref41_Compact_tt [.tmp 4, .tmp 5] (retF [[0], [0]] K)) from vfn_at (by kernel_rfl) (by kernel_rfl) rfl (by kernel_rfl) rfl (by kernel_rfl) rfl).trans ((ref41_Compact_p15_eq n a0 a1 (retX ref41_Compact_tt [.tmp 4, .tmp 5] (retF [[0], [0]] K))).trans (by kernel_rfl))
def ref41_Compact_K : AV → Option ((List UInt8) × Int) := fun av => match av with
  | .tup [.d (D.str r0), .d (D.int .i64 r1)] => some (r0, r1)
  | _ => none
def ref41_Compact_e (n : Nat) : Entry := fun _ _ g avs _ k => match avs with
  | [c0, c1] => prT g c0 fun a0 => prI g .i64 c1 fun a1 => 
    gb g (ref41_Compact n a0 a1 (fun r0 r1 => some (r0, r1))) ([], 0) fun r => k ⟨.tup [.d (D.str r.1), .d (D.int .i64 r.2)], [], []⟩
  | _ => none
theorem ref41_Compact_ok (n : Nat) : EntryOK Try.prog 29 (ref41_Compact_e n) := by
  intro R site g avs hl k r h
  unfold ref41_Compact_e at h
  split at h
  rotate_left
  · cases h
  replace h := prT_some h
  obtain ⟨a0, h, le0⟩ := h
  replace h := prI_some h
  obtain ⟨a1, h, le1⟩ := h
  replace h := gb_some h
  obtain ⟨res, h, hr⟩ := h
  refine ⟨_, h, fun hg => CallOK.conv (avs' := [.d (D.str a0), .d (D.int .i64 a1)]) (.cons (le0 hg) (.cons (le1 hg) (.nil))) (callOK_fix (K := ref41_Compact_K) (res := res) (ref41_Compact_VC n) (fn := Try.f29) (n := n) (by kernel_rfl) (by kernel_rfl) (by kernel_rfl) (ss := [[0], [0]]) rfl ?_ ?_)⟩
  · exact (ref41_Compact_vfn n a0 a1 ref41_Compact_K).trans (hr hg)
  · intro x hx
    unfold ref41_Compact_K at hx
    split at hx
    · injection hx with hx; subst hx; rfl
    · cases hx
end Go.Vx
/-
  store_Append: the interpreter computes the pure function
-/
set_option linter.unusedVariables false
set_option linter.unusedSimpArgs false
set_option maxRecDepth 100000
namespace Go.Vx
open Go.Proofs
noncomputable def store_Append_c0 : Code := bodyOf Try.f22
def store_Append_tt : TT := [(3, ⟨.int .i64, 1, 8, [.int .i64 0], [.int .i64 0], [], none⟩), (9, ⟨.str, 1, 16, [.string ⟨#[]⟩], [.str []], [], none⟩), (23, ⟨.struct, 2, 24, [.int .i64 0, .string ⟨#[]⟩], [.int .i64 0, .str []], [(0, 3), (1, 9)], some [.int .i64, .str]⟩), (24, ⟨.int .i64, 1, 8, [.int .i64 0], [.int .i64 0], [], none⟩), (32, ⟨.sl 23 2, 1, 24, [.slice none 0 0], [.sl 2 []], [], none⟩)]
theorem store_Append_tt_eq : mkTT Try.prog [3, 9, 23, 24, 32] = store_Append_tt := by kernel_rfl
def store_Append_cfg : List (Nat × Cfg) := [(0, ⟨[0, 3], [(3, 3)], [], [], []⟩), (1, ⟨[0, 3, 6, 7], [(3, 3)], [], [], []⟩), (2, ⟨[0, 3, 6, 7, 16], [(3, 3)], [], [], []⟩), (3, ⟨[4, 5], [], [], [], []⟩), (4, ⟨[0, 3, 6, 8, 9], [(3, 3)], [], [], []⟩), (5, ⟨[0, 6, 8, 9, 23], [], [], [], []⟩), (6, ⟨[4, 5], [], [], [], []⟩), (7, ⟨[0, 6, 9, 39], [], [], [], []⟩), (8, ⟨[4, 5], [], [], [], []⟩), (9, ⟨[4, 5], [], [], [], []⟩)]
def store_Append_C (n : Nat) : VC := ⟨specOf [(12, store_Encode_e n), (19, store_Scan_e n)], store_Append_tt, store_Append_cfg⟩
theorem store_Append_ents (n : Nat) : EntsOK Try.prog [(12, store_Encode_e n), (19, store_Scan_e n)] := ⟨store_Encode_ok n, ⟨store_Scan_ok n, trivial⟩⟩
theorem store_Append_VC (n : Nat) : VCOk Try.prog (store_Append_C n) := ⟨specOf_ok (store_Append_ents n), (store_Append_tt_eq ▸ mkTT_ok _ : TOk Try.prog store_Append_tt), by kernel_rfl⟩
theorem store_Append_p1_congr {R : Type} (n : Nat) (a0 : List UInt8) (a1_0 : Int) (a1_1 : List UInt8) {k0 kk0 : (List UInt8) → Int → Option R} (hq0 : ∀ x0 x1, k0 x0 x1 = kk0 x0 x1) : store_Append_p1 n a0 a1_0 a1_1 k0 = store_Append_p1 n a0 a1_0 a1_1 kk0 := by
  obtain rfl : k0 = kk0 := funext fun x0 => funext fun x1 => hq0 x0 x1
  rfl
theorem store_Append_p1_eq {R : Type} (n : Nat) (a0 : List UInt8) (a1_0 : Int) (a1_1 : List UInt8) (k : Exit → St → Option R) : vexec (store_Append_C n) n store_Append_c0 ⟨55, [(0, .d (D.str a0)), (1, .ag [.d (D.int .i64 a1_0), .d (D.str a1_1)])], []⟩ k = store_Append_p1 n a0 a1_0 a1_1 (fun z8 z9 => k .ret ⟨55, [(4, .d (D.str z8)), (5, .d (D.int .i64 z9))], []⟩) := by kernel_rfl
theorem store_Append_vfn {R : Type} (n : Nat) (a0 : List UInt8) (a1_0 : Int) (a1_1 : List UInt8) (K : AV → Option R) : vfn (store_Append_C n) n Try.f22 [.d (D.str a0), .ag [.d (D.int .i64 a1_0), .d (D.str a1_1)]] [] (retF [[0], [0]] K) = store_Append n a0 a1_0 a1_1 (fun r0 r1 => K (.tup [.d (D.str r0), .d (D.int .i64 r1)])) :=
  (show vfn (store_Append_C n) n Try.f22 [.d (D.str a0), .ag [.d (D.int .i64 a1_0), .d (D.str a1_1)]] [] (retF [[0], [0]] K) = vexec (store_Append_C n) n store_Append_c0 ⟨55, [(0, .d (D.str a0)), (1, .ag [.d (D.int .i64 a1_0), .d (D.str a1_1)])], []⟩ (retX store_Append_tt [.tmp 4, .tmp 5] (retF [[0], [0]] K)) from vfn_at (by kernel_rfl) (by kernel_rfl) rfl (by kernel_rfl) rfl (by kernel_rfl) rfl).trans ((store_Append_p1_eq n a0 a1_0 a1_1 (retX store_Append_tt [.tmp 4, .tmp 5] (retF [[0], [0]] K))).trans (by kernel_rfl))
def store_Append_K : AV → Option ((List UInt8) × Int) := fun av => match av with
  | .tup [.d (D.str r0), .d (D.int .i64 r1)] => some (r0, r1)
  | _ => none
def store_Append_e (n : Nat) : Entry := fun _ _ g avs _ k => match avs with
  | [c0, c1] => prT g c0 fun a0 => 
    prG c1 fun l1 => (match l1 with
    | [c1_0, c1_1] => prI g .i64 c1_0 fun a1_0 => prT g c1_1 fun a1_1 => 
    gb g (store_Append n a0 a1_0 a1_1 (fun r0 r1 => some (r0, r1))) ([], 0) fun r => k ⟨.tup [.d (D.str r.1), .d (D.int .i64 r.2)], [], []⟩
    | _ => none)
  | _ => none
theorem store_Append_ok (n : Nat) : EntryOK Try.prog 22 (store_Append_e n) := by
  intro R site g avs hl k r h
  unfold store_Append_e at h
  split at h
  rotate_left
  · cases h
  replace h := prT_some h
  obtain ⟨a0, h, le0⟩ := h
  replace h := prG_some h
  obtain ⟨l1, h, e1⟩ := h
  subst e1
  split at h
  rotate_left
  · cases h
  replace h := prI_some h
  obtain ⟨a1_0, h, le1⟩ := h
  replace h := prT_some h
  obtain ⟨a1_1, h, le2⟩ := h
  replace h := gb_some h
  obtain ⟨res, h, hr⟩ := h
  refine ⟨_, h, fun hg => CallOK.conv (avs' := [.d (D.str a0), .ag [.d (D.int .i64 a1_0), .d (D.str a1_1)]]) (.cons (le0 hg) (.cons (.ag (.cons (le1 hg) (.cons (le2 hg) (.nil)))) (.nil))) (callOK_fix (K := store_Append_K) (res := res) (store_Append_VC n) (fn := Try.f22) (n := n) (by kernel_rfl) (by kernel_rfl) (by kernel_rfl) (ss := [[0], [0]]) rfl ?_ ?_)⟩
  · exact (store_Append_vfn n a0 a1_0 a1_1 store_Append_K).trans (hr hg)
  · intro x hx
    unfold store_Append_K at hx
    split at hx
    · injection hx with hx; subst hx; rfl
    · cases hx
end Go.Vx
/-
  law41_awake: the interpreter computes the pure function
-/
set_option linter.unusedVariables false
set_option linter.unusedSimpArgs false
set_option maxRecDepth 100000
namespace Go.Vx
open Go.Proofs
noncomputable def law41_awake_c0 : Code := bodyOf Try.f15
def law41_awake_tt : TT := [(3, ⟨.int .i64, 1, 8, [.int .i64 0], [.int .i64 0], [], none⟩), (9, ⟨.str, 1, 16, [.string ⟨#[]⟩], [.str []], [], none⟩), (23, ⟨.struct, 2, 24, [.int .i64 0, .string ⟨#[]⟩], [.int .i64 0, .str []], [(0, 3), (1, 9)], some [.int .i64, .str]⟩), (24, ⟨.int .i64, 1, 8, [.int .i64 0], [.int .i64 0], [], none⟩)]
theorem law41_awake_tt_eq : mkTT Try.prog [3, 9, 23, 24] = law41_awake_tt := by kernel_rfl
def law41_awake_cfg : List (Nat × Cfg) := [(0, ⟨[], [], [], [], []⟩), (1, ⟨[1, 2], [], [], [], []⟩), (2, ⟨[1, 2, 3, 4], [], [], [], []⟩), (3, ⟨[1, 2, 3, 4, 5, 6], [], [], [], []⟩), (4, ⟨[1, 2, 3, 4, 5, 6, 7, 8], [(7, 7)], [], [], []⟩), (5, ⟨[1, 2, 3, 4, 6, 7, 8, 10], [(7, 7)], [], [], []⟩), (6, ⟨[0], [], [], [], []⟩)]
def law41_awake_C (n : Nat) : VC := ⟨specOf [(12, store_Encode_e n), (22, store_Append_e n), (26, store_Latest_e n)], law41_awake_tt, law41_awake_cfg⟩
theorem law41_awake_ents (n : Nat) : EntsOK Try.prog [(12, store_Encode_e n), (22, store_Append_e n), (26, store_Latest_e n)] := ⟨store_Encode_ok n, ⟨store_Append_ok n, ⟨store_Latest_ok n, trivial⟩⟩⟩
theorem law41_awake_VC (n : Nat) : VCOk Try.prog (law41_awake_C n) := ⟨specOf_ok (law41_awake_ents n), (law41_awake_tt_eq ▸ mkTT_ok _ : TOk Try.prog law41_awake_tt), by kernel_rfl⟩
theorem law41_awake_p1_congr {R : Type} (n : Nat)  {k0 kk0 : Bool → Option R} (hq0 : ∀ x0, k0 x0 = kk0 x0) : law41_awake_p1 n  k0 = law41_awake_p1 n  kk0 := by
  obtain rfl : k0 = kk0 := funext fun x0 => hq0 x0
  rfl
theorem law41_awake_p1_eq {R : Type} (n : Nat)  (k : Exit → St → Option R) : vexec (law41_awake_C n) n law41_awake_c0 ⟨76, [], []⟩ k = law41_awake_p1 n  (fun z9 => k .ret ⟨76, [(0, .d (D.bool z9))], []⟩) := by kernel_rfl
theorem law41_awake_vfn {R : Type} (n : Nat)  (K : AV → Option R) : vfn (law41_awake_C n) n Try.f15 [] [] (retF [[0]] K) = law41_awake n  (fun r0 => K (.d (D.bool r0))) :=
  (show vfn (law41_awake_C n) n Try.f15 [] [] (retF [[0]] K) = vexec (law41_awake_C n) n law41_awake_c0 ⟨76, [], []⟩ (retX law41_awake_tt [.tmp 0] (retF [[0]] K)) from vfn_at (by kernel_rfl) (by kernel_rfl) rfl (by kernel_rfl) rfl (by kernel_rfl) rfl).trans ((law41_awake_p1_eq n  (retX law41_awake_tt [.tmp 0] (retF [[0]] K))).trans (by kernel_rfl))
def law41_awake_K : AV → Option (Bool) := fun av => match av with
  | .d (D.bool r0) => some r0
  | _ => none
def law41_awake_e (n : Nat) : Entry := fun _ _ g avs _ k => match avs with
  | [] => 
    gb g (law41_awake n  some) false fun r => k ⟨.d (D.bool r), [], []⟩
  | _ => none
theorem law41_awake_ok (n : Nat) : EntryOK Try.prog 15 (law41_awake_e n) := by
  intro R site g avs hl k r h
  unfold law41_awake_e at h
  split at h
  rotate_left
  · cases h
  replace h := gb_some h
  obtain ⟨res, h, hr⟩ := h
  refine ⟨_, h, fun hg => CallOK.conv (avs' := []) (.nil) (callOK_fix (K := law41_awake_K) (res := res) (law41_awake_VC n) (fn := Try.f15) (n := n) (by kernel_rfl) (by kernel_rfl) (by kernel_rfl) (ss := [[0]]) rfl ?_ ?_)⟩
  · exact (law41_awake_vfn n  law41_awake_K).trans (hr hg)
  · intro x hx
    unfold law41_awake_K at hx
    split at hx
    · injection hx with hx; subst hx; rfl
    · cases hx
end Go.Vx
/-
  law41_StoreRead: the interpreter computes the pure function
-/
set_option linter.unusedVariables false
set_option linter.unusedSimpArgs false
set_option maxRecDepth 100000
namespace Go.Vx
open Go.Proofs
noncomputable def law41_StoreRead_c0 : Code := bodyOf Try.f11
def law41_StoreRead_tt : TT := [(3, ⟨.int .i64, 1, 8, [.int .i64 0], [.int .i64 0], [], none⟩), (9, ⟨.str, 1, 16, [.string ⟨#[]⟩], [.str []], [], none⟩), (23, ⟨.struct, 2, 24, [.int .i64 0, .string ⟨#[]⟩], [.int .i64 0, .str []], [(0, 3), (1, 9)], some [.int .i64, .str]⟩), (24, ⟨.int .i64, 1, 8, [.int .i64 0], [.int .i64 0], [], none⟩)]
theorem law41_StoreRead_tt_eq : mkTT Try.prog [3, 9, 23, 24] = law41_StoreRead_tt := by kernel_rfl
def law41_StoreRead_cfg : List (Nat × Cfg) := [(0, ⟨[0, 1, 2, 3, 4, 5, 6], [], [], [], []⟩), (1, ⟨[0, 2, 3, 4, 5, 6, 15], [], [], [], []⟩), (2, ⟨[0, 2, 3, 4, 5, 6, 15, 35], [], [], [], []⟩), (3, ⟨[0, 2, 5, 6, 15], [], [], [], []⟩), (4, ⟨[0, 5, 6, 15, 44], [], [], [], []⟩), (5, ⟨[5, 6, 15], [], [], [], []⟩), (6, ⟨[5, 6, 15, 16, 17], [(16, 16)], [], [], []⟩), (7, ⟨[5, 6, 15, 16, 17, 18, 19], [(16, 16), (18, 18)], [], [], []⟩), (8, ⟨[5, 6, 15, 16, 17, 18, 19, 20, 21], [(16, 16), (18, 18), (20, 20)], [], [], []⟩), (9, ⟨[6, 15, 16, 17, 18, 19, 20, 21, 22, 23], [(16, 16), (18, 18), (20, 20), (22, 22)], [], [], []⟩), (10, ⟨[6, 15, 16, 17, 18, 19, 20, 21, 22, 23, 24, 25], [(16, 16), (18, 18), (20, 20), (22, 22)], [], [], []⟩), (11, ⟨[15, 16, 17, 18, 19, 20, 21, 22, 23, 24, 25, 26, 27], [(16, 16), (18, 18), (20, 20), (22, 22)], [], [], []⟩), (12, ⟨[16, 17, 18, 19, 20, 21, 22, 23, 24, 25, 26, 27, 29], [(16, 16), (18, 18), (20, 20), (22, 22)], [], [], []⟩), (13, ⟨[14], [], [], [], []⟩)]
def law41_StoreRead_C (n : Nat) : VC := ⟨specOf [(17, law41_versions_e n), (16, law41_file_e n), (14, keep_Pick_e n), (18, law41_damaged_e n), (26, store_Latest_e n), (27, ref41_Latest_e n), (24, store_Get_e n), (28, ref41_Get_e n), (25, store_Compact_e n), (29, ref41_Compact_e n), (15, law41_awake_e n)], law41_StoreRead_tt, law41_StoreRead_cfg⟩
theorem law41_StoreRead_ents (n : Nat) : EntsOK Try.prog [(17, law41_versions_e n), (16, law41_file_e n), (14, keep_Pick_e n), (18, law41_damaged_e n), (26, store_Latest_e n), (27, ref41_Latest_e n), (24, store_Get_e n), (28, ref41_Get_e n), (25, store_Compact_e n), (29, ref41_Compact_e n), (15, law41_awake_e n)] := ⟨law41_versions_ok n, ⟨law41_file_ok n, ⟨keep_Pick_ok n, ⟨law41_damaged_ok n, ⟨store_Latest_ok n, ⟨ref41_Latest_ok n, ⟨store_Get_ok n, ⟨ref41_Get_ok n, ⟨store_Compact_ok n, ⟨ref41_Compact_ok n, ⟨law41_awake_ok n, trivial⟩⟩⟩⟩⟩⟩⟩⟩⟩⟩⟩
theorem law41_StoreRead_VC (n : Nat) : VCOk Try.prog (law41_StoreRead_C n) := ⟨specOf_ok (law41_StoreRead_ents n), (law41_StoreRead_tt_eq ▸ mkTT_ok _ : TOk Try.prog law41_StoreRead_tt), by kernel_rfl⟩
theorem law41_StoreRead_p1_congr {R : Type} (n : Nat) (a0 : List UInt8) (a1 : List (List D)) (a2 : Int) (a3 : Int) (a4 : Int) (a5 : Int) (a6 : Int) {k0 kk0 : Bool → Option R} (hq0 : ∀ x0, k0 x0 = kk0 x0) : law41_StoreRead_p1 n a0 a1 a2 a3 a4 a5 a6 k0 = law41_StoreRead_p1 n a0 a1 a2 a3 a4 a5 a6 kk0 := by
  obtain rfl : k0 = kk0 := funext fun x0 => hq0 x0
  rfl
theorem law41_StoreRead_p1_eq {R : Type} (n : Nat) (a0 : List UInt8) (a1 : List (List D)) (a2 : Int) (a3 : Int) (a4 : Int) (a5 : Int) (a6 : Int) (k : Exit → St → Option R) : vexec (law41_StoreRead_C n) n law41_StoreRead_c0 ⟨126, [(0, .d (D.str a0)), (1, .d (D.sl 1 a1)), (2, .d (D.int .i64 a2)), (3, .d (D.int .i64 a3)), (4, .d (D.int .i64 a4)), (5, .d (D.int .i64 a5)), (6, .d (D.int .i64 a6))], []⟩ k = law41_StoreRead_p1 n a0 a1 a2 a3 a4 a5 a6 (fun z88 => k .ret ⟨126, [(14, .d (D.bool z88))], []⟩) := by kernel_rfl
theorem law41_StoreRead_vfn {R : Type} (n : Nat) (a0 : List UInt8) (a1 : List (List D)) (a2 : Int) (a3 : Int) (a4 : Int) (a5 : Int) (a6 : Int) (K : AV → Option R) : vfn (law41_StoreRead_C n) n Try.f11 [.d (D.str a0), .d (D.sl 1 a1), .d (D.int .i64 a2), .d (D.int .i64 a3), .d (D.int .i64 a4), .d (D.int .i64 a5), .d (D.int .i64 a6)] [] (retF [[0]] K) = law41_StoreRead n a0 a1 a2 a3 a4 a5 a6 (fun r0 => K (.d (D.bool r0))) :=
  (show vfn (law41_StoreRead_C n) n Try.f11 [.d (D.str a0), .d (D.sl 1 a1), .d (D.int .i64 a2), .d (D.int .i64 a3), .d (D.int .i64 a4), .d (D.int .i64 a5), .d (D.int .i64 a6)] [] (retF [[0]] K) = vexec (law41_StoreRead_C n) n law41_StoreRead_c0 ⟨126, [(0, .d (D.str a0)), (1, .d (D.sl 1 a1)), (2, .d (D.int .i64 a2)), (3, .d (D.int .i64 a3)), (4, .d (D.int .i64 a4)), (5, .d (D.int .i64 a5)), (6, .d (D.int .i64 a6))], []⟩ (retX law41_StoreRead_tt [.tmp 14] (retF [[0]] K)) from vfn_at (by kernel_rfl) (by kernel_rfl) rfl (by kernel_rfl) rfl (by kernel_rfl) rfl).trans ((law41_StoreRead_p1_eq n a0 a1 a2 a3 a4 a5 a6 (retX law41_StoreRead_tt [.tmp 14] (retF [[0]] K))).trans (by kernel_rfl))
def law41_StoreRead_K : AV → Option (Bool) := fun av => match av with
  | .d (D.bool r0) => some r0
  | _ => none
def law41_StoreRead_e (n : Nat) : Entry := fun _ _ g avs _ k => match avs with
  | [c0, c1, c2, c3, c4, c5, c6] => prT g c0 fun a0 => prS g 1 c1 fun a1 => prI g .i64 c2 fun a2 => prI g .i64 c3 fun a3 => prI g .i64 c4 fun a4 => prI g .i64 c5 fun a5 => prI g .i64 c6 fun a6 => 
    gb g (law41_StoreRead n a0 a1 a2 a3 a4 a5 a6 some) false fun r => k ⟨.d (D.bool r), [], []⟩
  | _ => none
theorem law41_StoreRead_ok (n : Nat) : EntryOK Try.prog 11 (law41_StoreRead_e n) := by
  intro R site g avs hl k r h
  unfold law41_StoreRead_e at h
  split at h
  rotate_left
  · cases h
  replace h := prT_some h
  obtain ⟨a0, h, le0⟩ := h
  replace h := prS_some h
  obtain ⟨a1, h, le1⟩ := h
  replace h := prI_some h
  obtain ⟨a2, h, le2⟩ := h
  replace h := prI_some h
  obtain ⟨a3, h, le3⟩ := h
  replace h := prI_some h
  obtain ⟨a4, h, le4⟩ := h
  replace h := prI_some h
  obtain ⟨a5, h, le5⟩ := h
  replace h := prI_some h
  obtain ⟨a6, h, le6⟩ := h
  replace h := gb_some h
  obtain ⟨res, h, hr⟩ := h
  refine ⟨_, h, fun hg => CallOK.conv (avs' := [.d (D.str a0), .d (D.sl 1 a1), .d (D.int .i64 a2), .d (D.int .i64 a3), .d (D.int .i64 a4), .d (D.int .i64 a5), .d (D.int .i64 a6)]) (.cons (le0 hg) (.cons (le1 hg) (.cons (le2 hg) (.cons (le3 hg) (.cons (le4 hg) (.cons (le5 hg) (.cons (le6 hg) (.nil)))))))) (callOK_fix (K := law41_StoreRead_K) (res := res) (law41_StoreRead_VC n) (fn := Try.f11) (n := n) (by kernel_rfl) (by kernel_rfl) (by kernel_rfl) (ss := [[0]]) rfl ?_ ?_)⟩
  · exact (law41_StoreRead_vfn n a0 a1 a2 a3 a4 a5 a6 law41_StoreRead_K).trans (hr hg)
  · intro x hx
    unfold law41_StoreRead_K at hx
    split at hx
    · injection hx with hx; subst hx; rfl
    · cases hx
end Go.Vx
