/- Part of a proof: texts Vpkeep Same railplan api Version Vplaw41 StoreCrash. No conditions of their own. -/
import Derived.Test.YtopjipognhonaaaProg
import Derived.Test.YtopjipognhonaaaCVC
import Derived.Test.YtopjipognhonaaaCFA
import Derived.Test.YtopjipognhonaaaCPA
/-
  keep_Same_railplan_api_Version: the interpreter computes the pure function
-/
set_option linter.unusedVariables false
set_option linter.unusedSimpArgs false
set_option maxRecDepth 100000
namespace Go.Vx
open Go.Proofs
noncomputable def keep_Same_railplan_api_Version_c0 : Code := bodyOf Try.f21
noncomputable def keep_Same_railplan_api_Version_c1 : Code := cL (bodyOf Try.f21)
noncomputable def keep_Same_railplan_api_Version_c2 : Code := cL (cR (bodyOf Try.f21))
noncomputable def keep_Same_railplan_api_Version_c3 : Code := cL (cL (cR (cR (bodyOf Try.f21))))
noncomputable def keep_Same_railplan_api_Version_c4 : Code := cB (cB (cR (cL (cR (cR (bodyOf Try.f21))))))
noncomputable def keep_Same_railplan_api_Version_c5 : Code := cB (cR (cL (cR (cR (bodyOf Try.f21)))))
noncomputable def keep_Same_railplan_api_Version_c6 : Code := cR (cL (cR (cR (bodyOf Try.f21))))
noncomputable def keep_Same_railplan_api_Version_c7 : Code := cL (cR (cR (bodyOf Try.f21)))
noncomputable def keep_Same_railplan_api_Version_c8 : Code := cR (cR (cR (bodyOf Try.f21)))
noncomputable def keep_Same_railplan_api_Version_c9 : Code := cR (cR (bodyOf Try.f21))
noncomputable def keep_Same_railplan_api_Version_c10 : Code := cR (bodyOf Try.f21)
theorem keep_Same_railplan_api_Version_c5_eq : keep_Same_railplan_api_Version_c5 = .loop keep_Same_railplan_api_Version_c4 := by kernel_rfl
theorem keep_Same_railplan_api_Version_c6_eq : keep_Same_railplan_api_Version_c6 = .block 0 keep_Same_railplan_api_Version_c5 := by kernel_rfl
theorem keep_Same_railplan_api_Version_c7_eq : keep_Same_railplan_api_Version_c7 = .seq keep_Same_railplan_api_Version_c3 keep_Same_railplan_api_Version_c6 := by kernel_rfl
theorem keep_Same_railplan_api_Version_c9_eq : keep_Same_railplan_api_Version_c9 = .seq keep_Same_railplan_api_Version_c7 keep_Same_railplan_api_Version_c8 := by kernel_rfl
theorem keep_Same_railplan_api_Version_c10_eq : keep_Same_railplan_api_Version_c10 = .seq keep_Same_railplan_api_Version_c2 keep_Same_railplan_api_Version_c9 := by kernel_rfl
theorem keep_Same_railplan_api_Version_c0_eq : keep_Same_railplan_api_Version_c0 = .seq keep_Same_railplan_api_Version_c1 keep_Same_railplan_api_Version_c10 := by kernel_rfl
def keep_Same_railplan_api_Version_tt : TT := [(3, ⟨.int .i64, 1, 8, [.int .i64 0], [.int .i64 0], [], none⟩), (23, ⟨.struct, 2, 24, [.int .i64 0, .string ⟨#[]⟩], [.int .i64 0, .str []], [(0, 3), (1, 9)], some [.int .i64, .str]⟩), (32, ⟨.sl 23 2, 1, 24, [.slice none 0 0], [.sl 2 []], [], none⟩)]
theorem keep_Same_railplan_api_Version_tt_eq : mkTT Try.prog [3, 23, 32] = keep_Same_railplan_api_Version_tt := by kernel_rfl
def keep_Same_railplan_api_Version_cfg : List (Nat × Cfg) := [(0, ⟨[0, 1], [], [], [], []⟩), (1, ⟨[0, 1, 10], [], [], [], []⟩), (2, ⟨[4], [], [], [], []⟩), (3, ⟨[0, 1, 12, 13], [], [], [], []⟩), (4, ⟨[0, 1, 12, 13, 14], [], [], [], []⟩), (5, ⟨[0, 1, 5, 12, 13], [], [], [], []⟩), (6, ⟨[0, 1, 12, 13, 24], [], [], [], []⟩), (7, ⟨[4], [], [], [], []⟩), (8, ⟨[0, 1, 12, 13], [], [], [], []⟩), (9, ⟨[4], [], [], [], []⟩)]
def keep_Same_railplan_api_Version_C (n : Nat) : VC := ⟨specOf [], keep_Same_railplan_api_Version_tt, keep_Same_railplan_api_Version_cfg⟩
theorem keep_Same_railplan_api_Version_ents (n : Nat) : EntsOK Try.prog [] := trivial
theorem keep_Same_railplan_api_Version_VC (n : Nat) : VCOk Try.prog (keep_Same_railplan_api_Version_C n) := ⟨specOf_ok (keep_Same_railplan_api_Version_ents n), (keep_Same_railplan_api_Version_tt_eq ▸ mkTT_ok _ : TOk Try.prog keep_Same_railplan_api_Version_tt), by kernel_rfl⟩
theorem keep_Same_railplan_api_Version_p1_congr {R : Type} (n : Nat) (a0 : List (List D)) (a1 : List (List D)) {k0 kk0 : Option R} (hq0 : k0 = kk0) : keep_Same_railplan_api_Version_p1 n a0 a1 k0 = keep_Same_railplan_api_Version_p1 n a0 a1 kk0 := by
  obtain rfl : k0 = kk0 := hq0
  rfl
theorem keep_Same_railplan_api_Version_p2_congr {R : Type} (n : Nat) (a0 : List (List D)) (a1 : List (List D)) {k0 kk0 : Option R} {k1 kk1 : Bool → Option R} (hq0 : k0 = kk0) (hq1 : ∀ x0, k1 x0 = kk1 x0) : keep_Same_railplan_api_Version_p2 n a0 a1 k0 k1 = keep_Same_railplan_api_Version_p2 n a0 a1 kk0 kk1 := by
  obtain rfl : k0 = kk0 := hq0
  obtain rfl : k1 = kk1 := funext fun x0 => hq1 x0
  rfl
theorem keep_Same_railplan_api_Version_p3_congr {R : Type} (n : Nat) (a0 : List (List D)) (a1 : List (List D)) (w2 : Bool) {k0 kk0 : Int → Option R} (hq0 : ∀ x0, k0 x0 = kk0 x0) : keep_Same_railplan_api_Version_p3 n a0 a1 w2 k0 = keep_Same_railplan_api_Version_p3 n a0 a1 w2 kk0 := by
  obtain rfl : k0 = kk0 := funext fun x0 => hq0 x0
  rfl
theorem keep_Same_railplan_api_Version_p4_congr {R : Type} (n : Nat) (a0 : List (List D)) (a1 : List (List D)) (w4 : Int) (h8 : Int) {k0 kk0 : Option R} {k1 kk1 : Int → Option R} {k2 kk2 : Bool → Option R} (hq0 : k0 = kk0) (hq1 : ∀ x0, k1 x0 = kk1 x0) (hq2 : ∀ x0, k2 x0 = kk2 x0) : keep_Same_railplan_api_Version_p4 n a0 a1 w4 h8 k0 k1 k2 = keep_Same_railplan_api_Version_p4 n a0 a1 w4 h8 kk0 kk1 kk2 := by
  obtain rfl : k0 = kk0 := hq0
  obtain rfl : k1 = kk1 := funext fun x0 => hq1 x0
  obtain rfl : k2 = kk2 := funext fun x0 => hq2 x0
  rfl
theorem keep_Same_railplan_api_Version_p5_congr {R : Type} (n : Nat) (a0 : List (List D)) (a1 : List (List D)) (w4 : Int) {k0 kk0 : Option R} {k1 kk1 : Int → Bool → Option R} (hq0 : k0 = kk0) (hq1 : ∀ x0 x1, k1 x0 x1 = kk1 x0 x1) : keep_Same_railplan_api_Version_p5 n a0 a1 w4 k0 k1 = keep_Same_railplan_api_Version_p5 n a0 a1 w4 kk0 kk1 := by
  obtain rfl : k0 = kk0 := hq0
  obtain rfl : k1 = kk1 := funext fun x0 => funext fun x1 => hq1 x0 x1
  rfl
theorem keep_Same_railplan_api_Version_p6_congr {R : Type} (n : Nat) (a0 : List (List D)) (a1 : List (List D)) (w4 : Int) {k0 kk0 : Option R} {k1 kk1 : Int → Bool → Option R} (hq0 : k0 = kk0) (hq1 : ∀ x0 x1, k1 x0 x1 = kk1 x0 x1) : keep_Same_railplan_api_Version_p6 n a0 a1 w4 k0 k1 = keep_Same_railplan_api_Version_p6 n a0 a1 w4 kk0 kk1 := by
  obtain rfl : k0 = kk0 := hq0
  obtain rfl : k1 = kk1 := funext fun x0 => funext fun x1 => hq1 x0 x1
  rfl
theorem keep_Same_railplan_api_Version_p7_congr {R : Type} (n : Nat) (a0 : List (List D)) (a1 : List (List D)) (w2 : Bool) {k0 kk0 : Option R} {k1 kk1 : Int → Int → Bool → Option R} (hq0 : k0 = kk0) (hq1 : ∀ x0 x1 x2, k1 x0 x1 x2 = kk1 x0 x1 x2) : keep_Same_railplan_api_Version_p7 n a0 a1 w2 k0 k1 = keep_Same_railplan_api_Version_p7 n a0 a1 w2 kk0 kk1 := by
  obtain rfl : k0 = kk0 := hq0
  obtain rfl : k1 = kk1 := funext fun x0 => funext fun x1 => funext fun x2 => hq1 x0 x1 x2
  rfl
theorem keep_Same_railplan_api_Version_p8_congr {R : Type} (n : Nat) (a0 : List (List D)) (a1 : List (List D)) (w39 : Int) (w40 : Int) (w41 : Bool) {k0 kk0 : Option R} (hq0 : k0 = kk0) : keep_Same_railplan_api_Version_p8 n a0 a1 w39 w40 w41 k0 = keep_Same_railplan_api_Version_p8 n a0 a1 w39 w40 w41 kk0 := by
  obtain rfl : k0 = kk0 := hq0
  rfl
theorem keep_Same_railplan_api_Version_p9_congr {R : Type} (n : Nat) (a0 : List (List D)) (a1 : List (List D)) (w2 : Bool) {k0 kk0 : Bool → Option R} (hq0 : ∀ x0, k0 x0 = kk0 x0) : keep_Same_railplan_api_Version_p9 n a0 a1 w2 k0 = keep_Same_railplan_api_Version_p9 n a0 a1 w2 kk0 := by
  obtain rfl : k0 = kk0 := funext fun x0 => hq0 x0
  rfl
theorem keep_Same_railplan_api_Version_p10_congr {R : Type} (n : Nat) (a0 : List (List D)) (a1 : List (List D)) {k0 kk0 : Bool → Option R} (hq0 : ∀ x0, k0 x0 = kk0 x0) : keep_Same_railplan_api_Version_p10 n a0 a1 k0 = keep_Same_railplan_api_Version_p10 n a0 a1 kk0 := by
  obtain rfl : k0 = kk0 := funext fun x0 => hq0 x0
  rfl
theorem keep_Same_railplan_api_Version_p11_congr {R : Type} (n : Nat) (a0 : List (List D)) (a1 : List (List D)) {k0 kk0 : Bool → Option R} (hq0 : ∀ x0, k0 x0 = kk0 x0) : keep_Same_railplan_api_Version_p11 n a0 a1 k0 = keep_Same_railplan_api_Version_p11 n a0 a1 kk0 := by
  obtain rfl : k0 = kk0 := funext fun x0 => hq0 x0
  rfl
theorem keep_Same_railplan_api_Version_p1_eq {R : Type} (n : Nat) (a0 : List (List D)) (a1 : List (List D)) (k : Exit → St → Option R) : vexec (keep_Same_railplan_api_Version_C n) n keep_Same_railplan_api_Version_c1 ⟨26, [(0, .d (D.sl 2 a0)), (1, .d (D.sl 2 a1))], []⟩ k = keep_Same_railplan_api_Version_p1 n a0 a1 (k .normal ⟨26, [(0, .d (D.sl 2 a0)), (1, .d (D.sl 2 a1))], []⟩) := by kernel_rfl
theorem keep_Same_railplan_api_Version_p2_eq {R : Type} (n : Nat) (a0 : List (List D)) (a1 : List (List D)) (k : Exit → St → Option R) : vexec (keep_Same_railplan_api_Version_C n) n keep_Same_railplan_api_Version_c2 ⟨26, [(0, .d (D.sl 2 a0)), (1, .d (D.sl 2 a1))], []⟩ k = keep_Same_railplan_api_Version_p2 n a0 a1 (k .ret ⟨26, [(4, .d (D.bool false))], []⟩) (fun z1 => k .normal ⟨26, [(0, .d (D.sl 2 a0)), (1, .d (D.sl 2 a1)), (10, .d (D.bool z1))], []⟩) := by kernel_rfl
theorem keep_Same_railplan_api_Version_p3_eq {R : Type} (n : Nat) (a0 : List (List D)) (a1 : List (List D)) (w2 : Bool) (k : Exit → St → Option R) : vexec (keep_Same_railplan_api_Version_C n) n keep_Same_railplan_api_Version_c3 ⟨26, [(0, .d (D.sl 2 a0)), (1, .d (D.sl 2 a1)), (10, .d (D.bool w2))], []⟩ k = keep_Same_railplan_api_Version_p3 n a0 a1 w2 (fun z3 => k .normal ⟨26, [(0, .d (D.sl 2 a0)), (1, .d (D.sl 2 a1)), (12, .d (D.int .i64 z3)), (13, .d (D.int .i64 (0 : Int)))], []⟩) := by kernel_rfl
theorem keep_Same_railplan_api_Version_p4_eq {R : Type} (n : Nat) (a0 : List (List D)) (a1 : List (List D)) (w4 : Int) (h8 : Int) (k : Exit → St → Option R) : vexec (keep_Same_railplan_api_Version_C n) n keep_Same_railplan_api_Version_c4 ⟨26, [(0, .d (D.sl 2 a0)), (1, .d (D.sl 2 a1)), (12, .d (D.int .i64 w4)), (13, .d (D.int .i64 h8))], []⟩ k = keep_Same_railplan_api_Version_p4 n a0 a1 w4 h8 (k .ret ⟨26, [(4, .d (D.bool false))], []⟩) (fun z31 => k .normal ⟨26, [(0, .d (D.sl 2 a0)), (1, .d (D.sl 2 a1)), (12, .d (D.int .i64 w4)), (13, .d (D.int .i64 z31))], []⟩) (fun z32 => k (.exit 0) ⟨26, [(0, .d (D.sl 2 a0)), (1, .d (D.sl 2 a1)), (12, .d (D.int .i64 w4)), (13, .d (D.int .i64 h8)), (14, .d (D.bool z32))], []⟩) := by kernel_rfl
theorem keep_Same_railplan_api_Version_r5_eq {R : Type} (n : Nat) (a0 : List (List D)) (a1 : List (List D)) (w4 : Int) (k : Exit → St → Option R) : ∀ (m : Nat) (h8 : Int), loopN (vexec (keep_Same_railplan_api_Version_C n) n keep_Same_railplan_api_Version_c4) m ⟨26, [(0, .d (D.sl 2 a0)), (1, .d (D.sl 2 a1)), (12, .d (D.int .i64 w4)), (13, .d (D.int .i64 h8))], []⟩ k = keep_Same_railplan_api_Version_r5 n a0 a1 w4 (k .ret ⟨26, [(4, .d (D.bool false))], []⟩) (fun h8 w34 => k (.exit 0) ⟨26, [(0, .d (D.sl 2 a0)), (1, .d (D.sl 2 a1)), (12, .d (D.int .i64 w4)), (13, .d (D.int .i64 h8)), (14, .d (D.bool w34))], []⟩) m h8
  | 0, _ => rfl
  | m + 1, h8 => (keep_Same_railplan_api_Version_p4_eq n a0 a1 w4 h8 (loopK (vexec (keep_Same_railplan_api_Version_C n) n keep_Same_railplan_api_Version_c4) m k)).trans (keep_Same_railplan_api_Version_p4_congr n a0 a1 w4 h8 (rfl) (fun w33 => keep_Same_railplan_api_Version_r5_eq n a0 a1 w4 k m w33) (fun w34 => rfl))
theorem keep_Same_railplan_api_Version_p5_eq {R : Type} (n : Nat) (a0 : List (List D)) (a1 : List (List D)) (w4 : Int) (k : Exit → St → Option R) : vexec (keep_Same_railplan_api_Version_C n) n keep_Same_railplan_api_Version_c5 ⟨26, [(0, .d (D.sl 2 a0)), (1, .d (D.sl 2 a1)), (12, .d (D.int .i64 w4)), (13, .d (D.int .i64 (0 : Int)))], []⟩ k = keep_Same_railplan_api_Version_p5 n a0 a1 w4 (k .ret ⟨26, [(4, .d (D.bool false))], []⟩) (fun h8 w34 => k (.exit 0) ⟨26, [(0, .d (D.sl 2 a0)), (1, .d (D.sl 2 a1)), (12, .d (D.int .i64 w4)), (13, .d (D.int .i64 h8)), (14, .d (D.bool w34))], []⟩) := by
  rw [keep_Same_railplan_api_Version_c5_eq]
  exact keep_Same_railplan_api_Version_r5_eq n a0 a1 w4 k n (0 : Int)
theorem keep_Same_railplan_api_Version_p6_eq {R : Type} (n : Nat) (a0 : List (List D)) (a1 : List (List D)) (w4 : Int) (k : Exit → St → Option R) : vexec (keep_Same_railplan_api_Version_C n) n keep_Same_railplan_api_Version_c6 ⟨26, [(0, .d (D.sl 2 a0)), (1, .d (D.sl 2 a1)), (12, .d (D.int .i64 w4)), (13, .d (D.int .i64 (0 : Int)))], []⟩ k = keep_Same_railplan_api_Version_p6 n a0 a1 w4 (k .ret ⟨26, [(4, .d (D.bool false))], []⟩) (fun w35 w36 => k .normal ⟨26, [(0, .d (D.sl 2 a0)), (1, .d (D.sl 2 a1)), (12, .d (D.int .i64 w4)), (13, .d (D.int .i64 w35)), (14, .d (D.bool w36))], []⟩) := by
  rw [keep_Same_railplan_api_Version_c6_eq]
  unfold keep_Same_railplan_api_Version_p6
  exact (keep_Same_railplan_api_Version_p5_eq n a0 a1 w4 (blockK 0 k)).trans (keep_Same_railplan_api_Version_p5_congr n a0 a1 w4 (rfl) (fun w35 w36 => rfl))
theorem keep_Same_railplan_api_Version_p7_eq {R : Type} (n : Nat) (a0 : List (List D)) (a1 : List (List D)) (w2 : Bool) (k : Exit → St → Option R) : vexec (keep_Same_railplan_api_Version_C n) n keep_Same_railplan_api_Version_c7 ⟨26, [(0, .d (D.sl 2 a0)), (1, .d (D.sl 2 a1)), (10, .d (D.bool w2))], []⟩ k = keep_Same_railplan_api_Version_p7 n a0 a1 w2 (k .ret ⟨26, [(4, .d (D.bool false))], []⟩) (fun w4 w37 w38 => k .normal ⟨26, [(0, .d (D.sl 2 a0)), (1, .d (D.sl 2 a1)), (12, .d (D.int .i64 w4)), (13, .d (D.int .i64 w37)), (14, .d (D.bool w38))], []⟩) := by
  rw [keep_Same_railplan_api_Version_c7_eq]
  unfold keep_Same_railplan_api_Version_p7
  exact (keep_Same_railplan_api_Version_p3_eq n a0 a1 w2 (seqK (keep_Same_railplan_api_Version_C n) n keep_Same_railplan_api_Version_c6 k)).trans (keep_Same_railplan_api_Version_p3_congr n a0 a1 w2 (fun w4 => keep_Same_railplan_api_Version_p6_eq n a0 a1 w4 k))
theorem keep_Same_railplan_api_Version_p8_eq {R : Type} (n : Nat) (a0 : List (List D)) (a1 : List (List D)) (w39 : Int) (w40 : Int) (w41 : Bool) (k : Exit → St → Option R) : vexec (keep_Same_railplan_api_Version_C n) n keep_Same_railplan_api_Version_c8 ⟨26, [(0, .d (D.sl 2 a0)), (1, .d (D.sl 2 a1)), (12, .d (D.int .i64 w39)), (13, .d (D.int .i64 w40)), (14, .d (D.bool w41))], []⟩ k = keep_Same_railplan_api_Version_p8 n a0 a1 w39 w40 w41 (k .ret ⟨26, [(4, .d (D.bool true))], []⟩) := by kernel_rfl
theorem keep_Same_railplan_api_Version_p9_eq {R : Type} (n : Nat) (a0 : List (List D)) (a1 : List (List D)) (w2 : Bool) (k : Exit → St → Option R) : vexec (keep_Same_railplan_api_Version_C n) n keep_Same_railplan_api_Version_c9 ⟨26, [(0, .d (D.sl 2 a0)), (1, .d (D.sl 2 a1)), (10, .d (D.bool w2))], []⟩ k = keep_Same_railplan_api_Version_p9 n a0 a1 w2 (fun z42 => k .ret ⟨26, [(4, .d (D.bool z42))], []⟩) := by
  rw [keep_Same_railplan_api_Version_c9_eq]
  unfold keep_Same_railplan_api_Version_p9
  exact (keep_Same_railplan_api_Version_p7_eq n a0 a1 w2 (seqK (keep_Same_railplan_api_Version_C n) n keep_Same_railplan_api_Version_c8 k)).trans (keep_Same_railplan_api_Version_p7_congr n a0 a1 w2 (rfl) (fun w39 w40 w41 => keep_Same_railplan_api_Version_p8_eq n a0 a1 w39 w40 w41 k))
theorem keep_Same_railplan_api_Version_p10_eq {R : Type} (n : Nat) (a0 : List (List D)) (a1 : List (List D)) (k : Exit → St → Option R) : vexec (keep_Same_railplan_api_Version_C n) n keep_Same_railplan_api_Version_c10 ⟨26, [(0, .d (D.sl 2 a0)), (1, .d (D.sl 2 a1))], []⟩ k = keep_Same_railplan_api_Version_p10 n a0 a1 (fun z44 => k .ret ⟨26, [(4, .d (D.bool z44))], []⟩) := by
  rw [keep_Same_railplan_api_Version_c10_eq]
  unfold keep_Same_railplan_api_Version_p10
  exact (keep_Same_railplan_api_Version_p2_eq n a0 a1 (seqK (keep_Same_railplan_api_Version_C n) n keep_Same_railplan_api_Version_c9 k)).trans (keep_Same_railplan_api_Version_p2_congr n a0 a1 (rfl) (fun w2 => keep_Same_railplan_api_Version_p9_eq n a0 a1 w2 k))
theorem keep_Same_railplan_api_Version_p11_eq {R : Type} (n : Nat) (a0 : List (List D)) (a1 : List (List D)) (k : Exit → St → Option R) : vexec (keep_Same_railplan_api_Version_C n) n keep_Same_railplan_api_Version_c0 ⟨26, [(0, .d (D.sl 2 a0)), (1, .d (D.sl 2 a1))], []⟩ k = keep_Same_railplan_api_Version_p11 n a0 a1 (fun w45 => k .ret ⟨26, [(4, .d (D.bool w45))], []⟩) := by
  rw [keep_Same_railplan_api_Version_c0_eq]
  unfold keep_Same_railplan_api_Version_p11
  exact (keep_Same_railplan_api_Version_p1_eq n a0 a1 (seqK (keep_Same_railplan_api_Version_C n) n keep_Same_railplan_api_Version_c10 k)).trans (keep_Same_railplan_api_Version_p1_congr n a0 a1 (keep_Same_railplan_api_Version_p10_eq n a0 a1 k))
theorem keep_Same_railplan_api_Version_vfn {R : Type} (n : Nat) (a0 : List (List D)) (a1 : List (List D)) (K : AV → Option R) : vfn (keep_Same_railplan_api_Version_C n) n Try.f21 [.d (D.sl 2 a0), .d (D.sl 2 a1)] [] (retF [[0]] K) = keep_Same_railplan_api_Version n a0 a1 (fun r0 => K (.d (D.bool r0))) :=
  (show vfn (keep_Same_railplan_api_Version_C n) n Try.f21 [.d (D.sl 2 a0), .d (D.sl 2 a1)] [] (retF [[0]] K) = vexec (keep_Same_railplan_api_Version_C n) n keep_Same_railplan_api_Version_c0 ⟨26, [(0, .d (D.sl 2 a0)), (1, .d (D.sl 2 a1))], []⟩ (retX keep_Same_railplan_api_Version_tt [.tmp 4] (retF [[0]] K)) from vfn_at (by kernel_rfl) (by kernel_rfl) rfl (by kernel_rfl) rfl (by kernel_rfl) rfl).trans ((keep_Same_railplan_api_Version_p11_eq n a0 a1 (retX keep_Same_railplan_api_Version_tt [.tmp 4] (retF [[0]] K))).trans (by kernel_rfl))
def keep_Same_railplan_api_Version_K : AV → Option (Bool) := fun av => match av with
  | .d (D.bool r0) => some r0
  | _ => none
def keep_Same_railplan_api_Version_e (n : Nat) : Entry := fun _ _ g avs _ k => match avs with
  | [c0, c1] => prS g 2 c0 fun a0 => prS g 2 c1 fun a1 => 
    gb g (keep_Same_railplan_api_Version n a0 a1 some) false fun r => k ⟨.d (D.bool r), [], []⟩
  | _ => none
theorem keep_Same_railplan_api_Version_ok (n : Nat) : EntryOK Try.prog 21 (keep_Same_railplan_api_Version_e n) := by
  intro R site g avs hl k r h
  unfold keep_Same_railplan_api_Version_e at h
  split at h
  rotate_left
  · cases h
  replace h := prS_some h
  obtain ⟨a0, h, le0⟩ := h
  replace h := prS_some h
  obtain ⟨a1, h, le1⟩ := h
  replace h := gb_some h
  obtain ⟨res, h, hr⟩ := h
  refine ⟨_, h, fun hg => CallOK.conv (avs' := [.d (D.sl 2 a0), .d (D.sl 2 a1)]) (.cons (le0 hg) (.cons (le1 hg) (.nil))) (callOK_fix (K := keep_Same_railplan_api_Version_K) (res := res) (keep_Same_railplan_api_Version_VC n) (fn := Try.f21) (n := n) (by kernel_rfl) (by kernel_rfl) (by kernel_rfl) (ss := [[0]]) rfl ?_ ?_)⟩
  · exact (keep_Same_railplan_api_Version_vfn n a0 a1 keep_Same_railplan_api_Version_K).trans (hr hg)
  · intro x hx
    unfold keep_Same_railplan_api_Version_K at hx
    split at hx
    · injection hx with hx; subst hx; rfl
    · cases hx
end Go.Vx
/-
  law41_StoreCrash: the interpreter computes the pure function
-/
set_option linter.unusedVariables false
set_option linter.unusedSimpArgs false
set_option maxRecDepth 100000
namespace Go.Vx
open Go.Proofs
noncomputable def law41_StoreCrash_c0 : Code := bodyOf Try.f6
def law41_StoreCrash_tt : TT := [(3, ⟨.int .i64, 1, 8, [.int .i64 0], [.int .i64 0], [], none⟩), (9, ⟨.str, 1, 16, [.string ⟨#[]⟩], [.str []], [], none⟩), (23, ⟨.struct, 2, 24, [.int .i64 0, .string ⟨#[]⟩], [.int .i64 0, .str []], [(0, 3), (1, 9)], some [.int .i64, .str]⟩), (24, ⟨.int .i64, 1, 8, [.int .i64 0], [.int .i64 0], [], none⟩), (32, ⟨.sl 23 2, 1, 24, [.slice none 0 0], [.sl 2 []], [], none⟩)]
theorem law41_StoreCrash_tt_eq : mkTT Try.prog [3, 9, 23, 24, 32] = law41_StoreCrash_tt := by kernel_rfl
def law41_StoreCrash_cfg : List (Nat × Cfg) := [(0, ⟨[0, 2, 4], [(4, 4)], [], [], []⟩), (1, ⟨[2, 4, 7], [(4, 4)], [], [], []⟩), (2, ⟨[2, 4, 7, 8, 9], [(4, 4)], [], [], []⟩), (3, ⟨[2, 4, 7, 8, 9, 10], [(4, 4)], [], [], []⟩), (4, ⟨[2, 4, 7, 8, 9, 10, 29], [(4, 4)], [], [], []⟩), (5, ⟨[2, 4, 7, 8, 9, 10], [(4, 4)], [], [], []⟩), (6, ⟨[2, 7, 8, 9, 11], [(11, 11)], [], [], []⟩), (7, ⟨[2, 8, 9, 11, 12, 13], [(11, 11)], [], [], []⟩), (8, ⟨[2, 8, 9, 11, 12, 13, 55], [(11, 11)], [], [], []⟩), (9, ⟨[6], [], [], [], []⟩), (10, ⟨[2, 8, 9, 11, 12, 73], [(11, 11)], [], [], []⟩), (11, ⟨[6], [], [], [], []⟩), (12, ⟨[8, 9, 11, 12, 14], [(11, 11)], [], [], []⟩), (13, ⟨[8, 9, 11, 12, 15, 16], [(11, 11)], [], [], []⟩), (14, ⟨[8, 9, 11, 12, 15, 16, 17, 18], [(11, 11)], [], [], []⟩), (15, ⟨[6], [], [], [], []⟩)]
def law41_StoreCrash_C (n : Nat) : VC := ⟨specOf [(17, law41_versions_e n), (16, law41_file_e n), (20, ref41_Scan_e n), (14, keep_Pick_e n), (22, store_Append_e n), (15, law41_awake_e n), (19, store_Scan_e n), (21, keep_Same_railplan_api_Version_e n)], law41_StoreCrash_tt, law41_StoreCrash_cfg⟩
theorem law41_StoreCrash_ents (n : Nat) : EntsOK Try.prog [(17, law41_versions_e n), (16, law41_file_e n), (20, ref41_Scan_e n), (14, keep_Pick_e n), (22, store_Append_e n), (15, law41_awake_e n), (19, store_Scan_e n), (21, keep_Same_railplan_api_Version_e n)] := ⟨law41_versions_ok n, ⟨law41_file_ok n, ⟨ref41_Scan_ok n, ⟨keep_Pick_ok n, ⟨store_Append_ok n, ⟨law41_awake_ok n, ⟨store_Scan_ok n, ⟨keep_Same_railplan_api_Version_ok n, trivial⟩⟩⟩⟩⟩⟩⟩⟩
theorem law41_StoreCrash_VC (n : Nat) : VCOk Try.prog (law41_StoreCrash_C n) := ⟨specOf_ok (law41_StoreCrash_ents n), (law41_StoreCrash_tt_eq ▸ mkTT_ok _ : TOk Try.prog law41_StoreCrash_tt), by kernel_rfl⟩
theorem law41_StoreCrash_p1_congr {R : Type} (n : Nat) (a0 : List (List D)) (a1_0 : Int) (a1_1 : List UInt8) (a2 : Int) {k0 kk0 : Bool → Option R} (hq0 : ∀ x0, k0 x0 = kk0 x0) : law41_StoreCrash_p1 n a0 a1_0 a1_1 a2 k0 = law41_StoreCrash_p1 n a0 a1_0 a1_1 a2 kk0 := by
  obtain rfl : k0 = kk0 := funext fun x0 => hq0 x0
  rfl
theorem law41_StoreCrash_p1_eq {R : Type} (n : Nat) (a0 : List (List D)) (a1_0 : Int) (a1_1 : List UInt8) (a2 : Int) (k : Exit → St → Option R) : vexec (law41_StoreCrash_C n) n law41_StoreCrash_c0 ⟨120, [(0, .d (D.sl 1 a0)), (1, .ag [.d (D.int .i64 a1_0), .d (D.str a1_1)]), (2, .d (D.int .i64 a2))], []⟩ k = law41_StoreCrash_p1 n a0 a1_0 a1_1 a2 (fun z31 => k .ret ⟨120, [(6, .d (D.bool z31))], []⟩) := by kernel_rfl
theorem law41_StoreCrash_vfn {R : Type} (n : Nat) (a0 : List (List D)) (a1_0 : Int) (a1_1 : List UInt8) (a2 : Int) (K : AV → Option R) : vfn (law41_StoreCrash_C n) n Try.f6 [.d (D.sl 1 a0), .ag [.d (D.int .i64 a1_0), .d (D.str a1_1)], .d (D.int .i64 a2)] [] (retF [[0]] K) = law41_StoreCrash n a0 a1_0 a1_1 a2 (fun r0 => K (.d (D.bool r0))) :=
  (show vfn (law41_StoreCrash_C n) n Try.f6 [.d (D.sl 1 a0), .ag [.d (D.int .i64 a1_0), .d (D.str a1_1)], .d (D.int .i64 a2)] [] (retF [[0]] K) = vexec (law41_StoreCrash_C n) n law41_StoreCrash_c0 ⟨120, [(0, .d (D.sl 1 a0)), (1, .ag [.d (D.int .i64 a1_0), .d (D.str a1_1)]), (2, .d (D.int .i64 a2))], []⟩ (retX law41_StoreCrash_tt [.tmp 6] (retF [[0]] K)) from vfn_at (by kernel_rfl) (by kernel_rfl) rfl (by kernel_rfl) rfl (by kernel_rfl) rfl).trans ((law41_StoreCrash_p1_eq n a0 a1_0 a1_1 a2 (retX law41_StoreCrash_tt [.tmp 6] (retF [[0]] K))).trans (by kernel_rfl))
def law41_StoreCrash_K : AV → Option (Bool) := fun av => match av with
  | .d (D.bool r0) => some r0
  | _ => none
def law41_StoreCrash_e (n : Nat) : Entry := fun _ _ g avs _ k => match avs with
  | [c0, c1, c2] => prS g 1 c0 fun a0 => 
    prG c1 fun l1 => (match l1 with
    | [c1_0, c1_1] => prI g .i64 c1_0 fun a1_0 => prT g c1_1 fun a1_1 => prI g .i64 c2 fun a2 => 
    gb g (law41_StoreCrash n a0 a1_0 a1_1 a2 some) false fun r => k ⟨.d (D.bool r), [], []⟩
    | _ => none)
  | _ => none
theorem law41_StoreCrash_ok (n : Nat) : EntryOK Try.prog 6 (law41_StoreCrash_e n) := by
  intro R site g avs hl k r h
  unfold law41_StoreCrash_e at h
  split at h
  rotate_left
  · cases h
  replace h := prS_some h
  obtain ⟨a0, h, le0⟩ := h
  replace h := prG_some h
  obtain ⟨l1, h, e1⟩ := h
  subst e1
  split at h
  rotate_left
  · cases h
  replace h := prI_some h
  obtain ⟨a1_0, h, le1⟩ := h
  replace h := prT_some h
  obtain ⟨a1_1, h, le2⟩ := h
  replace h := prI_some h
  obtain ⟨a2, h, le3⟩ := h
  replace h := gb_some h
  obtain ⟨res, h, hr⟩ := h
  refine ⟨_, h, fun hg => CallOK.conv (avs' := [.d (D.sl 1 a0), .ag [.d (D.int .i64 a1_0), .d (D.str a1_1)], .d (D.int .i64 a2)]) (.cons (le0 hg) (.cons (.ag (.cons (le1 hg) (.cons (le2 hg) (.nil)))) (.cons (le3 hg) (.nil)))) (callOK_fix (K := law41_StoreCrash_K) (res := res) (law41_StoreCrash_VC n) (fn := Try.f6) (n := n) (by kernel_rfl) (by kernel_rfl) (by kernel_rfl) (ss := [[0]]) rfl ?_ ?_)⟩
  · exact (law41_StoreCrash_vfn n a0 a1_0 a1_1 a2 law41_StoreCrash_K).trans (hr hg)
  · intro x hx
    unfold law41_StoreCrash_K at hx
    split at hx
    · injection hx with hx; subst hx; rfl
    · cases hx
end Go.Vx
