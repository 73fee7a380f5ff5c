/- Part of a proof: texts Vpplatform Proper Vplaw20 awake Vpref17 in Vpref17 Ascending Vplaw20 pick Vpref17 Without Vplaw20 PlatformExplains. No conditions of their own. -/
import Derived.Test.YtbkkpccmjhimjaaProg
import Derived.Test.YtbkkpccmjhimjaaX2VB
import Derived.Test.YtbkkpccmjhimjaaX2FA
import Derived.Test.YtbkkpccmjhimjaaX2PA
import Derived.Test.YtbkkpccmjhimjaaX2PB
/-
  platform_Proper: the interpreter computes the pure function
-/
set_option linter.unusedVariables false
set_option linter.unusedSimpArgs false
set_option maxRecDepth 100000
namespace Go.Vx
open Go.Proofs
noncomputable def platform_Proper_c0 : Code := bodyOf Try.f21
noncomputable def platform_Proper_c1 : Code := cL (bodyOf Try.f21)
noncomputable def platform_Proper_c2 : Code := cL (cR (bodyOf Try.f21))
noncomputable def platform_Proper_c3 : Code := cL (cL (cR (cR (bodyOf Try.f21))))
noncomputable def platform_Proper_c4 : Code := cB (cB (cR (cL (cR (cR (bodyOf Try.f21))))))
noncomputable def platform_Proper_c5 : Code := cB (cR (cL (cR (cR (bodyOf Try.f21)))))
noncomputable def platform_Proper_c6 : Code := cR (cL (cR (cR (bodyOf Try.f21))))
noncomputable def platform_Proper_c7 : Code := cL (cR (cR (bodyOf Try.f21)))
noncomputable def platform_Proper_c8 : Code := cR (cR (cR (bodyOf Try.f21)))
noncomputable def platform_Proper_c9 : Code := cR (cR (bodyOf Try.f21))
noncomputable def platform_Proper_c10 : Code := cR (bodyOf Try.f21)
theorem platform_Proper_c5_eq : platform_Proper_c5 = .loop platform_Proper_c4 := by kernel_rfl
theorem platform_Proper_c6_eq : platform_Proper_c6 = .block 0 platform_Proper_c5 := by kernel_rfl
theorem platform_Proper_c7_eq : platform_Proper_c7 = .seq platform_Proper_c3 platform_Proper_c6 := by kernel_rfl
theorem platform_Proper_c9_eq : platform_Proper_c9 = .seq platform_Proper_c7 platform_Proper_c8 := by kernel_rfl
theorem platform_Proper_c10_eq : platform_Proper_c10 = .seq platform_Proper_c2 platform_Proper_c9 := by kernel_rfl
theorem platform_Proper_c0_eq : platform_Proper_c0 = .seq platform_Proper_c1 platform_Proper_c10 := by kernel_rfl
def platform_Proper_tt : TT := [(3, ⟨.int .i64, 1, 8, [.int .i64 0], [.int .i64 0], [], none⟩), (22, ⟨.sl 3 1, 1, 24, [.slice none 0 0], [.sl 1 []], [], none⟩), (24, ⟨.sl 28 3, 1, 24, [.slice none 0 0], [.sl 3 []], [], none⟩), (28, ⟨.struct, 3, 40, [.int .i64 0, .int .i64 0, .slice none 0 0], [.int .i64 0, .int .i64 0, .sl 1 []], [(0, 3), (1, 3), (2, 22)], none⟩)]
theorem platform_Proper_tt_eq : mkTT Try.prog [3, 22, 24, 28] = platform_Proper_tt := by kernel_rfl
def platform_Proper_cfg : List (Nat × Cfg) := [(0, ⟨[0, 1, 2], [], [], [], []⟩), (1, ⟨[0, 1, 2, 19], [], [], [], []⟩), (2, ⟨[6], [], [], [], []⟩), (3, ⟨[0, 1, 2, 20, 21, 22], [], [], [], []⟩), (4, ⟨[0, 1, 2, 20, 21, 22, 23], [], [], [], []⟩), (5, ⟨[0, 1, 2, 7, 8, 20, 21, 22], [], [], [], []⟩), (6, ⟨[0, 1, 2, 7, 8, 20, 21, 22, 34], [], [], [], []⟩), (7, ⟨[6], [], [], [], []⟩), (8, ⟨[0, 1, 2, 20, 21, 22, 41], [], [], [], []⟩), (9, ⟨[6], [], [], [], []⟩), (10, ⟨[0, 1, 2, 20, 21, 22], [], [], [], []⟩), (11, ⟨[6], [], [], [], []⟩)]
def platform_Proper_C (n : Nat) : VC := ⟨specOf [(29, platform_Valid_e n), (35, slices_Contains_int_int_e n), (32, platform_fits_e n)], platform_Proper_tt, platform_Proper_cfg⟩
theorem platform_Proper_ents (n : Nat) : EntsOK Try.prog [(29, platform_Valid_e n), (35, slices_Contains_int_int_e n), (32, platform_fits_e n)] := ⟨platform_Valid_ok n, ⟨slices_Contains_int_int_ok n, ⟨platform_fits_ok n, trivial⟩⟩⟩
theorem platform_Proper_VC (n : Nat) : VCOk Try.prog (platform_Proper_C n) := ⟨specOf_ok (platform_Proper_ents n), (platform_Proper_tt_eq ▸ mkTT_ok _ : TOk Try.prog platform_Proper_tt), by kernel_rfl⟩
theorem platform_Proper_p1_congr {R : Type} (n : Nat) (a0 : Int) (a1 : List (List D)) (a2 : List (List D)) {k0 kk0 : Option R} (hq0 : k0 = kk0) : platform_Proper_p1 n a0 a1 a2 k0 = platform_Proper_p1 n a0 a1 a2 kk0 := by
  obtain rfl : k0 = kk0 := hq0
  rfl
theorem platform_Proper_p2_congr {R : Type} (n : Nat) (a0 : Int) (a1 : List (List D)) (a2 : List (List D)) {k0 kk0 : Option R} {k1 kk1 : Bool → Option R} (hq0 : k0 = kk0) (hq1 : ∀ x0, k1 x0 = kk1 x0) : platform_Proper_p2 n a0 a1 a2 k0 k1 = platform_Proper_p2 n a0 a1 a2 kk0 kk1 := by
  obtain rfl : k0 = kk0 := hq0
  obtain rfl : k1 = kk1 := funext fun x0 => hq1 x0
  rfl
theorem platform_Proper_p3_congr {R : Type} (n : Nat) (a0 : Int) (a1 : List (List D)) (a2 : List (List D)) (w3 : Bool) {k0 kk0 : Int → Option R} (hq0 : ∀ x0, k0 x0 = kk0 x0) : platform_Proper_p3 n a0 a1 a2 w3 k0 = platform_Proper_p3 n a0 a1 a2 w3 kk0 := by
  obtain rfl : k0 = kk0 := funext fun x0 => hq0 x0
  rfl
theorem platform_Proper_p4_congr {R : Type} (n : Nat) (a0 : Int) (a1 : List (List D)) (a2 : List (List D)) (w5 : Int) (h11 : Int) {k0 kk0 : Option R} {k1 kk1 : Int → Option R} {k2 kk2 : Bool → Option R} (hq0 : k0 = kk0) (hq1 : ∀ x0, k1 x0 = kk1 x0) (hq2 : ∀ x0, k2 x0 = kk2 x0) : platform_Proper_p4 n a0 a1 a2 w5 h11 k0 k1 k2 = platform_Proper_p4 n a0 a1 a2 w5 h11 kk0 kk1 kk2 := by
  obtain rfl : k0 = kk0 := hq0
  obtain rfl : k1 = kk1 := funext fun x0 => hq1 x0
  obtain rfl : k2 = kk2 := funext fun x0 => hq2 x0
  rfl
theorem platform_Proper_p5_congr {R : Type} (n : Nat) (a0 : Int) (a1 : List (List D)) (a2 : List (List D)) (w5 : Int) {k0 kk0 : Option R} {k1 kk1 : Int → Bool → Option R} (hq0 : k0 = kk0) (hq1 : ∀ x0 x1, k1 x0 x1 = kk1 x0 x1) : platform_Proper_p5 n a0 a1 a2 w5 k0 k1 = platform_Proper_p5 n a0 a1 a2 w5 kk0 kk1 := by
  obtain rfl : k0 = kk0 := hq0
  obtain rfl : k1 = kk1 := funext fun x0 => funext fun x1 => hq1 x0 x1
  rfl
theorem platform_Proper_p6_congr {R : Type} (n : Nat) (a0 : Int) (a1 : List (List D)) (a2 : List (List D)) (w5 : Int) {k0 kk0 : Option R} {k1 kk1 : Int → Bool → Option R} (hq0 : k0 = kk0) (hq1 : ∀ x0 x1, k1 x0 x1 = kk1 x0 x1) : platform_Proper_p6 n a0 a1 a2 w5 k0 k1 = platform_Proper_p6 n a0 a1 a2 w5 kk0 kk1 := by
  obtain rfl : k0 = kk0 := hq0
  obtain rfl : k1 = kk1 := funext fun x0 => funext fun x1 => hq1 x0 x1
  rfl
theorem platform_Proper_p7_congr {R : Type} (n : Nat) (a0 : Int) (a1 : List (List D)) (a2 : List (List D)) (w3 : Bool) {k0 kk0 : Option R} {k1 kk1 : Int → Int → Bool → Option R} (hq0 : k0 = kk0) (hq1 : ∀ x0 x1 x2, k1 x0 x1 x2 = kk1 x0 x1 x2) : platform_Proper_p7 n a0 a1 a2 w3 k0 k1 = platform_Proper_p7 n a0 a1 a2 w3 kk0 kk1 := by
  obtain rfl : k0 = kk0 := hq0
  obtain rfl : k1 = kk1 := funext fun x0 => funext fun x1 => funext fun x2 => hq1 x0 x1 x2
  rfl
theorem platform_Proper_p8_congr {R : Type} (n : Nat) (a0 : Int) (a1 : List (List D)) (a2 : List (List D)) (w38 : Int) (w39 : Int) (w40 : Bool) {k0 kk0 : Option R} (hq0 : k0 = kk0) : platform_Proper_p8 n a0 a1 a2 w38 w39 w40 k0 = platform_Proper_p8 n a0 a1 a2 w38 w39 w40 kk0 := by
  obtain rfl : k0 = kk0 := hq0
  rfl
theorem platform_Proper_p9_congr {R : Type} (n : Nat) (a0 : Int) (a1 : List (List D)) (a2 : List (List D)) (w3 : Bool) {k0 kk0 : Bool → Option R} (hq0 : ∀ x0, k0 x0 = kk0 x0) : platform_Proper_p9 n a0 a1 a2 w3 k0 = platform_Proper_p9 n a0 a1 a2 w3 kk0 := by
  obtain rfl : k0 = kk0 := funext fun x0 => hq0 x0
  rfl
theorem platform_Proper_p10_congr {R : Type} (n : Nat) (a0 : Int) (a1 : List (List D)) (a2 : List (List D)) {k0 kk0 : Bool → Option R} (hq0 : ∀ x0, k0 x0 = kk0 x0) : platform_Proper_p10 n a0 a1 a2 k0 = platform_Proper_p10 n a0 a1 a2 kk0 := by
  obtain rfl : k0 = kk0 := funext fun x0 => hq0 x0
  rfl
theorem platform_Proper_p11_congr {R : Type} (n : Nat) (a0 : Int) (a1 : List (List D)) (a2 : List (List D)) {k0 kk0 : Bool → Option R} (hq0 : ∀ x0, k0 x0 = kk0 x0) : platform_Proper_p11 n a0 a1 a2 k0 = platform_Proper_p11 n a0 a1 a2 kk0 := by
  obtain rfl : k0 = kk0 := funext fun x0 => hq0 x0
  rfl
theorem platform_Proper_p1_eq {R : Type} (n : Nat) (a0 : Int) (a1 : List (List D)) (a2 : List (List D)) (k : Exit → St → Option R) : vexec (platform_Proper_C n) n platform_Proper_c1 ⟨43, [(0, .d (D.int .i64 a0)), (1, .d (D.sl 3 a1)), (2, .d (D.sl 1 a2))], []⟩ k = platform_Proper_p1 n a0 a1 a2 (k .normal ⟨43, [(0, .d (D.int .i64 a0)), (1, .d (D.sl 3 a1)), (2, .d (D.sl 1 a2))], []⟩) := by kernel_rfl
theorem platform_Proper_p2_eq {R : Type} (n : Nat) (a0 : Int) (a1 : List (List D)) (a2 : List (List D)) (k : Exit → St → Option R) : vexec (platform_Proper_C n) n platform_Proper_c2 ⟨43, [(0, .d (D.int .i64 a0)), (1, .d (D.sl 3 a1)), (2, .d (D.sl 1 a2))], []⟩ k = platform_Proper_p2 n a0 a1 a2 (k .ret ⟨43, [(6, .d (D.bool false))], []⟩) (fun z2 => k .normal ⟨43, [(0, .d (D.int .i64 a0)), (1, .d (D.sl 3 a1)), (2, .d (D.sl 1 a2)), (19, .d (D.bool z2))], []⟩) := by kernel_rfl
theorem platform_Proper_p3_eq {R : Type} (n : Nat) (a0 : Int) (a1 : List (List D)) (a2 : List (List D)) (w3 : Bool) (k : Exit → St → Option R) : vexec (platform_Proper_C n) n platform_Proper_c3 ⟨43, [(0, .d (D.int .i64 a0)), (1, .d (D.sl 3 a1)), (2, .d (D.sl 1 a2)), (19, .d (D.bool w3))], []⟩ k = platform_Proper_p3 n a0 a1 a2 w3 (fun z4 => k .normal ⟨43, [(0, .d (D.int .i64 a0)), (1, .d (D.sl 3 a1)), (2, .d (D.sl 1 a2)), (20, .d (D.sl 1 a2)), (21, .d (D.int .i64 z4)), (22, .d (D.int .i64 (0 : Int)))], []⟩) := by kernel_rfl
theorem platform_Proper_p4_eq {R : Type} (n : Nat) (a0 : Int) (a1 : List (List D)) (a2 : List (List D)) (w5 : Int) (h11 : Int) (k : Exit → St → Option R) : vexec (platform_Proper_C n) n platform_Proper_c4 ⟨43, [(0, .d (D.int .i64 a0)), (1, .d (D.sl 3 a1)), (2, .d (D.sl 1 a2)), (20, .d (D.sl 1 a2)), (21, .d (D.int .i64 w5)), (22, .d (D.int .i64 h11))], []⟩ k = platform_Proper_p4 n a0 a1 a2 w5 h11 (k .ret ⟨43, [(6, .d (D.bool false))], []⟩) (fun z30 => k .normal ⟨43, [(0, .d (D.int .i64 a0)), (1, .d (D.sl 3 a1)), (2, .d (D.sl 1 a2)), (20, .d (D.sl 1 a2)), (21, .d (D.int .i64 w5)), (22, .d (D.int .i64 z30))], []⟩) (fun z31 => k (.exit 0) ⟨43, [(0, .d (D.int .i64 a0)), (1, .d (D.sl 3 a1)), (2, .d (D.sl 1 a2)), (20, .d (D.sl 1 a2)), (21, .d (D.int .i64 w5)), (22, .d (D.int .i64 h11)), (23, .d (D.bool z31))], []⟩) := by kernel_rfl
theorem platform_Proper_r5_eq {R : Type} (n : Nat) (a0 : Int) (a1 : List (List D)) (a2 : List (List D)) (w5 : Int) (k : Exit → St → Option R) : ∀ (m : Nat) (h11 : Int), loopN (vexec (platform_Proper_C n) n platform_Proper_c4) m ⟨43, [(0, .d (D.int .i64 a0)), (1, .d (D.sl 3 a1)), (2, .d (D.sl 1 a2)), (20, .d (D.sl 1 a2)), (21, .d (D.int .i64 w5)), (22, .d (D.int .i64 h11))], []⟩ k = platform_Proper_r5 n a0 a1 a2 w5 (k .ret ⟨43, [(6, .d (D.bool false))], []⟩) (fun h11 w33 => k (.exit 0) ⟨43, [(0, .d (D.int .i64 a0)), (1, .d (D.sl 3 a1)), (2, .d (D.sl 1 a2)), (20, .d (D.sl 1 a2)), (21, .d (D.int .i64 w5)), (22, .d (D.int .i64 h11)), (23, .d (D.bool w33))], []⟩) m h11
  | 0, _ => rfl
  | m + 1, h11 => (platform_Proper_p4_eq n a0 a1 a2 w5 h11 (loopK (vexec (platform_Proper_C n) n platform_Proper_c4) m k)).trans (platform_Proper_p4_congr n a0 a1 a2 w5 h11 (rfl) (fun w32 => platform_Proper_r5_eq n a0 a1 a2 w5 k m w32) (fun w33 => rfl))
theorem platform_Proper_p5_eq {R : Type} (n : Nat) (a0 : Int) (a1 : List (List D)) (a2 : List (List D)) (w5 : Int) (k : Exit → St → Option R) : vexec (platform_Proper_C n) n platform_Proper_c5 ⟨43, [(0, .d (D.int .i64 a0)), (1, .d (D.sl 3 a1)), (2, .d (D.sl 1 a2)), (20, .d (D.sl 1 a2)), (21, .d (D.int .i64 w5)), (22, .d (D.int .i64 (0 : Int)))], []⟩ k = platform_Proper_p5 n a0 a1 a2 w5 (k .ret ⟨43, [(6, .d (D.bool false))], []⟩) (fun h11 w33 => k (.exit 0) ⟨43, [(0, .d (D.int .i64 a0)), (1, .d (D.sl 3 a1)), (2, .d (D.sl 1 a2)), (20, .d (D.sl 1 a2)), (21, .d (D.int .i64 w5)), (22, .d (D.int .i64 h11)), (23, .d (D.bool w33))], []⟩) := by
  rw [platform_Proper_c5_eq]
  exact platform_Proper_r5_eq n a0 a1 a2 w5 k n (0 : Int)
theorem platform_Proper_p6_eq {R : Type} (n : Nat) (a0 : Int) (a1 : List (List D)) (a2 : List (List D)) (w5 : Int) (k : Exit → St → Option R) : vexec (platform_Proper_C n) n platform_Proper_c6 ⟨43, [(0, .d (D.int .i64 a0)), (1, .d (D.sl 3 a1)), (2, .d (D.sl 1 a2)), (20, .d (D.sl 1 a2)), (21, .d (D.int .i64 w5)), (22, .d (D.int .i64 (0 : Int)))], []⟩ k = platform_Proper_p6 n a0 a1 a2 w5 (k .ret ⟨43, [(6, .d (D.bool false))], []⟩) (fun w34 w35 => k .normal ⟨43, [(0, .d (D.int .i64 a0)), (1, .d (D.sl 3 a1)), (2, .d (D.sl 1 a2)), (20, .d (D.sl 1 a2)), (21, .d (D.int .i64 w5)), (22, .d (D.int .i64 w34)), (23, .d (D.bool w35))], []⟩) := by
  rw [platform_Proper_c6_eq]
  unfold platform_Proper_p6
  exact (platform_Proper_p5_eq n a0 a1 a2 w5 (blockK 0 k)).trans (platform_Proper_p5_congr n a0 a1 a2 w5 (rfl) (fun w34 w35 => rfl))
theorem platform_Proper_p7_eq {R : Type} (n : Nat) (a0 : Int) (a1 : List (List D)) (a2 : List (List D)) (w3 : Bool) (k : Exit → St → Option R) : vexec (platform_Proper_C n) n platform_Proper_c7 ⟨43, [(0, .d (D.int .i64 a0)), (1, .d (D.sl 3 a1)), (2, .d (D.sl 1 a2)), (19, .d (D.bool w3))], []⟩ k = platform_Proper_p7 n a0 a1 a2 w3 (k .ret ⟨43, [(6, .d (D.bool false))], []⟩) (fun w5 w36 w37 => k .normal ⟨43, [(0, .d (D.int .i64 a0)), (1, .d (D.sl 3 a1)), (2, .d (D.sl 1 a2)), (20, .d (D.sl 1 a2)), (21, .d (D.int .i64 w5)), (22, .d (D.int .i64 w36)), (23, .d (D.bool w37))], []⟩) := by
  rw [platform_Proper_c7_eq]
  unfold platform_Proper_p7
  exact (platform_Proper_p3_eq n a0 a1 a2 w3 (seqK (platform_Proper_C n) n platform_Proper_c6 k)).trans (platform_Proper_p3_congr n a0 a1 a2 w3 (fun w5 => platform_Proper_p6_eq n a0 a1 a2 w5 k))
theorem platform_Proper_p8_eq {R : Type} (n : Nat) (a0 : Int) (a1 : List (List D)) (a2 : List (List D)) (w38 : Int) (w39 : Int) (w40 : Bool) (k : Exit → St → Option R) : vexec (platform_Proper_C n) n platform_Proper_c8 ⟨43, [(0, .d (D.int .i64 a0)), (1, .d (D.sl 3 a1)), (2, .d (D.sl 1 a2)), (20, .d (D.sl 1 a2)), (21, .d (D.int .i64 w38)), (22, .d (D.int .i64 w39)), (23, .d (D.bool w40))], []⟩ k = platform_Proper_p8 n a0 a1 a2 w38 w39 w40 (k .ret ⟨43, [(6, .d (D.bool true))], []⟩) := by kernel_rfl
theorem platform_Proper_p9_eq {R : Type} (n : Nat) (a0 : Int) (a1 : List (List D)) (a2 : List (List D)) (w3 : Bool) (k : Exit → St → Option R) : vexec (platform_Proper_C n) n platform_Proper_c9 ⟨43, [(0, .d (D.int .i64 a0)), (1, .d (D.sl 3 a1)), (2, .d (D.sl 1 a2)), (19, .d (D.bool w3))], []⟩ k = platform_Proper_p9 n a0 a1 a2 w3 (fun z41 => k .ret ⟨43, [(6, .d (D.bool z41))], []⟩) := by
  rw [platform_Proper_c9_eq]
  unfold platform_Proper_p9
  exact (platform_Proper_p7_eq n a0 a1 a2 w3 (seqK (platform_Proper_C n) n platform_Proper_c8 k)).trans (platform_Proper_p7_congr n a0 a1 a2 w3 (rfl) (fun w38 w39 w40 => platform_Proper_p8_eq n a0 a1 a2 w38 w39 w40 k))
theorem platform_Proper_p10_eq {R : Type} (n : Nat) (a0 : Int) (a1 : List (List D)) (a2 : List (List D)) (k : Exit → St → Option R) : vexec (platform_Proper_C n) n platform_Proper_c10 ⟨43, [(0, .d (D.int .i64 a0)), (1, .d (D.sl 3 a1)), (2, .d (D.sl 1 a2))], []⟩ k = platform_Proper_p10 n a0 a1 a2 (fun z43 => k .ret ⟨43, [(6, .d (D.bool z43))], []⟩) := by
  rw [platform_Proper_c10_eq]
  unfold platform_Proper_p10
  exact (platform_Proper_p2_eq n a0 a1 a2 (seqK (platform_Proper_C n) n platform_Proper_c9 k)).trans (platform_Proper_p2_congr n a0 a1 a2 (rfl) (fun w3 => platform_Proper_p9_eq n a0 a1 a2 w3 k))
theorem platform_Proper_p11_eq {R : Type} (n : Nat) (a0 : Int) (a1 : List (List D)) (a2 : List (List D)) (k : Exit → St → Option R) : vexec (platform_Proper_C n) n platform_Proper_c0 ⟨43, [(0, .d (D.int .i64 a0)), (1, .d (D.sl 3 a1)), (2, .d (D.sl 1 a2))], []⟩ k = platform_Proper_p11 n a0 a1 a2 (fun w44 => k .ret ⟨43, [(6, .d (D.bool w44))], []⟩) := by
  rw [platform_Proper_c0_eq]
  unfold platform_Proper_p11
  exact (platform_Proper_p1_eq n a0 a1 a2 (seqK (platform_Proper_C n) n platform_Proper_c10 k)).trans (platform_Proper_p1_congr n a0 a1 a2 (platform_Proper_p10_eq n a0 a1 a2 k))
theorem platform_Proper_vfn {R : Type} (n : Nat) (a0 : Int) (a1 : List (List D)) (a2 : List (List D)) (K : AV → Option R) : vfn (platform_Proper_C n) n Try.f21 [.d (D.int .i64 a0), .d (D.sl 3 a1), .d (D.sl 1 a2)] [] (retF [[0]] K) = platform_Proper n a0 a1 a2 (fun r0 => K (.d (D.bool r0))) :=
  (show vfn (platform_Proper_C n) n Try.f21 [.d (D.int .i64 a0), .d (D.sl 3 a1), .d (D.sl 1 a2)] [] (retF [[0]] K) = vexec (platform_Proper_C n) n platform_Proper_c0 ⟨43, [(0, .d (D.int .i64 a0)), (1, .d (D.sl 3 a1)), (2, .d (D.sl 1 a2))], []⟩ (retX platform_Proper_tt [.tmp 6] (retF [[0]] K)) from vfn_at (by kernel_rfl) (by kernel_rfl) rfl (by kernel_rfl) rfl (by kernel_rfl) rfl).trans ((platform_Proper_p11_eq n a0 a1 a2 (retX platform_Proper_tt [.tmp 6] (retF [[0]] K))).trans (by kernel_rfl))
def platform_Proper_K : AV → Option (Bool) := fun av => match av with
  | .d (D.bool r0) => some r0
  | _ => none
def platform_Proper_e (n : Nat) : Entry := fun _ _ g avs _ k => match avs with
  | [c0, c1, c2] => prI g .i64 c0 fun a0 => prS g 3 c1 fun a1 => prS g 1 c2 fun a2 => 
    gb g (platform_Proper n a0 a1 a2 some) false fun r => k ⟨.d (D.bool r), [], []⟩
  | _ => none
theorem platform_Proper_ok (n : Nat) : EntryOK Try.prog 21 (platform_Proper_e n) := by
  intro R site g avs hl k r h
  unfold platform_Proper_e at h
  split at h
  rotate_left
  · cases h
  replace h := prI_some h
  obtain ⟨a0, h, le0⟩ := h
  replace h := prS_some h
  obtain ⟨a1, h, le1⟩ := h
  replace h := prS_some h
  obtain ⟨a2, h, le2⟩ := h
  replace h := gb_some h
  obtain ⟨res, h, hr⟩ := h
  refine ⟨_, h, fun hg => CallOK.conv (avs' := [.d (D.int .i64 a0), .d (D.sl 3 a1), .d (D.sl 1 a2)]) (.cons (le0 hg) (.cons (le1 hg) (.cons (le2 hg) (.nil)))) (callOK_fix (K := platform_Proper_K) (res := res) (platform_Proper_VC n) (fn := Try.f21) (n := n) (by kernel_rfl) (by kernel_rfl) (by kernel_rfl) (ss := [[0]]) rfl ?_ ?_)⟩
  · exact (platform_Proper_vfn n a0 a1 a2 platform_Proper_K).trans (hr hg)
  · intro x hx
    unfold platform_Proper_K at hx
    split at hx
    · injection hx with hx; subst hx; rfl
    · cases hx
end Go.Vx
/-
  law20_awake: the interpreter computes the pure function
-/
set_option linter.unusedVariables false
set_option linter.unusedSimpArgs false
set_option maxRecDepth 100000
namespace Go.Vx
open Go.Proofs
noncomputable def law20_awake_c0 : Code := bodyOf Try.f12
def law20_awake_tt : TT := [(3, ⟨.int .i64, 1, 8, [.int .i64 0], [.int .i64 0], [], none⟩), (22, ⟨.sl 3 1, 1, 24, [.slice none 0 0], [.sl 1 []], [], none⟩)]
theorem law20_awake_tt_eq : mkTT Try.prog [3, 22] = law20_awake_tt := by kernel_rfl
def law20_awake_cfg : List (Nat × Cfg) := [(0, ⟨[], [], [], [], []⟩), (1, ⟨[0], [], [], [], []⟩)]
def law20_awake_C (n : Nat) : VC := ⟨specOf [(19, law20_two_e n), (21, platform_Proper_e n)], law20_awake_tt, law20_awake_cfg⟩
theorem law20_awake_ents (n : Nat) : EntsOK Try.prog [(19, law20_two_e n), (21, platform_Proper_e n)] := ⟨law20_two_ok n, ⟨platform_Proper_ok n, trivial⟩⟩
theorem law20_awake_VC (n : Nat) : VCOk Try.prog (law20_awake_C n) := ⟨specOf_ok (law20_awake_ents n), (law20_awake_tt_eq ▸ mkTT_ok _ : TOk Try.prog law20_awake_tt), by kernel_rfl⟩
theorem law20_awake_p1_congr {R : Type} (n : Nat)  {k0 kk0 : Bool → Option R} (hq0 : ∀ x0, k0 x0 = kk0 x0) : law20_awake_p1 n  k0 = law20_awake_p1 n  kk0 := by
  obtain rfl : k0 = kk0 := funext fun x0 => hq0 x0
  rfl
theorem law20_awake_p1_eq {R : Type} (n : Nat)  (k : Exit → St → Option R) : vexec (law20_awake_C n) n law20_awake_c0 ⟨10, [], []⟩ k = law20_awake_p1 n  (fun z5 => k .ret ⟨10, [(0, .d (D.bool z5))], []⟩) := by kernel_rfl
theorem law20_awake_vfn {R : Type} (n : Nat)  (K : AV → Option R) : vfn (law20_awake_C n) n Try.f12 [] [] (retF [[0]] K) = law20_awake n  (fun r0 => K (.d (D.bool r0))) :=
  (show vfn (law20_awake_C n) n Try.f12 [] [] (retF [[0]] K) = vexec (law20_awake_C n) n law20_awake_c0 ⟨10, [], []⟩ (retX law20_awake_tt [.tmp 0] (retF [[0]] K)) from vfn_at (by kernel_rfl) (by kernel_rfl) rfl (by kernel_rfl) rfl (by kernel_rfl) rfl).trans ((law20_awake_p1_eq n  (retX law20_awake_tt [.tmp 0] (retF [[0]] K))).trans (by kernel_rfl))
def law20_awake_K : AV → Option (Bool) := fun av => match av with
  | .d (D.bool r0) => some r0
  | _ => none
def law20_awake_e (n : Nat) : Entry := fun _ _ g avs _ k => match avs with
  | [] => 
    gb g (law20_awake n  some) false fun r => k ⟨.d (D.bool r), [], []⟩
  | _ => none
theorem law20_awake_ok (n : Nat) : EntryOK Try.prog 12 (law20_awake_e n) := by
  intro R site g avs hl k r h
  unfold law20_awake_e at h
  split at h
  rotate_left
  · cases h
  replace h := gb_some h
  obtain ⟨res, h, hr⟩ := h
  refine ⟨_, h, fun hg => CallOK.conv (avs' := []) (.nil) (callOK_fix (K := law20_awake_K) (res := res) (law20_awake_VC n) (fn := Try.f12) (n := n) (by kernel_rfl) (by kernel_rfl) (by kernel_rfl) (ss := [[0]]) rfl ?_ ?_)⟩
  · exact (law20_awake_vfn n  law20_awake_K).trans (hr hg)
  · intro x hx
    unfold law20_awake_K at hx
    split at hx
    · injection hx with hx; subst hx; rfl
    · cases hx
end Go.Vx
/-
  ref17_in: the interpreter computes the pure function
-/
set_option linter.unusedVariables false
set_option linter.unusedSimpArgs false
set_option maxRecDepth 100000
namespace Go.Vx
open Go.Proofs
noncomputable def ref17_in_c0 : Code := bodyOf Try.f40
def ref17_in_tt : TT := [(3, ⟨.int .i64, 1, 8, [.int .i64 0], [.int .i64 0], [], none⟩)]
theorem ref17_in_tt_eq : mkTT Try.prog [3] = ref17_in_tt := by kernel_rfl
def ref17_in_cfg : List (Nat × Cfg) := [(0, ⟨[0, 1, 2], [], [], [], []⟩), (1, ⟨[6], [], [], [], []⟩)]
def ref17_in_C (n : Nat) : VC := ⟨specOf [], ref17_in_tt, ref17_in_cfg⟩
theorem ref17_in_ents (n : Nat) : EntsOK Try.prog [] := trivial
theorem ref17_in_VC (n : Nat) : VCOk Try.prog (ref17_in_C n) := ⟨specOf_ok (ref17_in_ents n), (ref17_in_tt_eq ▸ mkTT_ok _ : TOk Try.prog ref17_in_tt), by kernel_rfl⟩
theorem ref17_in_p1_congr {R : Type} (n : Nat) (a0 : Int) (a1 : Int) (a2 : Int) {k0 kk0 : Bool → Option R} (hq0 : ∀ x0, k0 x0 = kk0 x0) : ref17_in_p1 n a0 a1 a2 k0 = ref17_in_p1 n a0 a1 a2 kk0 := by
  obtain rfl : k0 = kk0 := funext fun x0 => hq0 x0
  rfl
theorem ref17_in_p1_eq {R : Type} (n : Nat) (a0 : Int) (a1 : Int) (a2 : Int) (k : Exit → St → Option R) : vexec (ref17_in_C n) n ref17_in_c0 ⟨15, [(0, .d (D.int .i64 a0)), (1, .d (D.int .i64 a1)), (2, .d (D.int .i64 a2))], []⟩ k = ref17_in_p1 n a0 a1 a2 (fun z1 => k .ret ⟨15, [(6, .d (D.bool z1))], []⟩) := by kernel_rfl
theorem ref17_in_vfn {R : Type} (n : Nat) (a0 : Int) (a1 : Int) (a2 : Int) (K : AV → Option R) : vfn (ref17_in_C n) n Try.f40 [.d (D.int .i64 a0), .d (D.int .i64 a1), .d (D.int .i64 a2)] [] (retF [[0]] K) = ref17_in n a0 a1 a2 (fun r0 => K (.d (D.bool r0))) :=
  (show vfn (ref17_in_C n) n Try.f40 [.d (D.int .i64 a0), .d (D.int .i64 a1), .d (D.int .i64 a2)] [] (retF [[0]] K) = vexec (ref17_in_C n) n ref17_in_c0 ⟨15, [(0, .d (D.int .i64 a0)), (1, .d (D.int .i64 a1)), (2, .d (D.int .i64 a2))], []⟩ (retX ref17_in_tt [.tmp 6] (retF [[0]] K)) from vfn_at (by kernel_rfl) (by kernel_rfl) rfl (by kernel_rfl) rfl (by kernel_rfl) rfl).trans ((ref17_in_p1_eq n a0 a1 a2 (retX ref17_in_tt [.tmp 6] (retF [[0]] K))).trans (by kernel_rfl))
def ref17_in_K : AV → Option (Bool) := fun av => match av with
  | .d (D.bool r0) => some r0
  | _ => none
def ref17_in_e (n : Nat) : Entry := fun _ _ g avs _ k => match avs with
  | [c0, c1, c2] => prI g .i64 c0 fun a0 => prI g .i64 c1 fun a1 => prI g .i64 c2 fun a2 => 
    gb g (ref17_in n a0 a1 a2 some) false fun r => k ⟨.d (D.bool r), [], []⟩
  | _ => none
theorem ref17_in_ok (n : Nat) : EntryOK Try.prog 40 (ref17_in_e n) := by
  intro R site g avs hl k r h
  unfold ref17_in_e at h
  split at h
  rotate_left
  · cases h
  replace h := prI_some h
  obtain ⟨a0, h, le0⟩ := h
  replace h := prI_some h
  obtain ⟨a1, h, le1⟩ := h
  replace h := prI_some h
  obtain ⟨a2, h, le2⟩ := h
  replace h := gb_some h
  obtain ⟨res, h, hr⟩ := h
  refine ⟨_, h, fun hg => CallOK.conv (avs' := [.d (D.int .i64 a0), .d (D.int .i64 a1), .d (D.int .i64 a2)]) (.cons (le0 hg) (.cons (le1 hg) (.cons (le2 hg) (.nil)))) (callOK_fix (K := ref17_in_K) (res := res) (ref17_in_VC n) (fn := Try.f40) (n := n) (by kernel_rfl) (by kernel_rfl) (by kernel_rfl) (ss := [[0]]) rfl ?_ ?_)⟩
  · exact (ref17_in_vfn n a0 a1 a2 ref17_in_K).trans (hr hg)
  · intro x hx
    unfold ref17_in_K at hx
    split at hx
    · injection hx with hx; subst hx; rfl
    · cases hx
end Go.Vx
/-
  ref17_Ascending: the interpreter computes the pure function
-/
set_option linter.unusedVariables false
set_option linter.unusedSimpArgs false
set_option maxRecDepth 100000
namespace Go.Vx
open Go.Proofs
noncomputable def ref17_Ascending_c0 : Code := bodyOf Try.f25
noncomputable def ref17_Ascending_c1 : Code := cL (bodyOf Try.f25)
noncomputable def ref17_Ascending_c2 : Code := cL (cL (cR (bodyOf Try.f25)))
noncomputable def ref17_Ascending_c3 : Code := cB (cB (cR (cL (cR (bodyOf Try.f25)))))
noncomputable def ref17_Ascending_c4 : Code := cB (cR (cL (cR (bodyOf Try.f25))))
noncomputable def ref17_Ascending_c5 : Code := cR (cL (cR (bodyOf Try.f25)))
noncomputable def ref17_Ascending_c6 : Code := cL (cR (bodyOf Try.f25))
noncomputable def ref17_Ascending_c7 : Code := cR (cR (bodyOf Try.f25))
noncomputable def ref17_Ascending_c8 : Code := cR (bodyOf Try.f25)
theorem ref17_Ascending_c4_eq : ref17_Ascending_c4 = .loop ref17_Ascending_c3 := by kernel_rfl
theorem ref17_Ascending_c5_eq : ref17_Ascending_c5 = .block 0 ref17_Ascending_c4 := by kernel_rfl
theorem ref17_Ascending_c6_eq : ref17_Ascending_c6 = .seq ref17_Ascending_c2 ref17_Ascending_c5 := by kernel_rfl
theorem ref17_Ascending_c8_eq : ref17_Ascending_c8 = .seq ref17_Ascending_c6 ref17_Ascending_c7 := by kernel_rfl
theorem ref17_Ascending_c0_eq : ref17_Ascending_c0 = .seq ref17_Ascending_c1 ref17_Ascending_c8 := by kernel_rfl
def ref17_Ascending_tt : TT := [(3, ⟨.int .i64, 1, 8, [.int .i64 0], [.int .i64 0], [], none⟩), (22, ⟨.sl 3 1, 1, 24, [.slice none 0 0], [.sl 1 []], [], none⟩)]
theorem ref17_Ascending_tt_eq : mkTT Try.prog [3, 22] = ref17_Ascending_tt := by kernel_rfl
def ref17_Ascending_cfg : List (Nat × Cfg) := [(0, ⟨[0, 1], [], [], [], []⟩), (1, ⟨[0, 1, 5], [], [], [], []⟩), (2, ⟨[0, 1, 5, 9], [], [], [], []⟩), (3, ⟨[0, 1, 5], [], [], [], []⟩), (4, ⟨[0, 1, 5, 34], [], [], [], []⟩), (5, ⟨[4], [], [], [], []⟩), (6, ⟨[4], [], [], [], []⟩)]
def ref17_Ascending_C (n : Nat) : VC := ⟨specOf [(40, ref17_in_e n)], ref17_Ascending_tt, ref17_Ascending_cfg⟩
theorem ref17_Ascending_ents (n : Nat) : EntsOK Try.prog [(40, ref17_in_e n)] := ⟨ref17_in_ok n, trivial⟩
theorem ref17_Ascending_VC (n : Nat) : VCOk Try.prog (ref17_Ascending_C n) := ⟨specOf_ok (ref17_Ascending_ents n), (ref17_Ascending_tt_eq ▸ mkTT_ok _ : TOk Try.prog ref17_Ascending_tt), by kernel_rfl⟩
theorem ref17_Ascending_p1_congr {R : Type} (n : Nat) (a0 : List (List D)) (a1 : Int) {k0 kk0 : Option R} (hq0 : k0 = kk0) : ref17_Ascending_p1 n a0 a1 k0 = ref17_Ascending_p1 n a0 a1 kk0 := by
  obtain rfl : k0 = kk0 := hq0
  rfl
theorem ref17_Ascending_p2_congr {R : Type} (n : Nat) (a0 : List (List D)) (a1 : Int) {k0 kk0 : Option R} (hq0 : k0 = kk0) : ref17_Ascending_p2 n a0 a1 k0 = ref17_Ascending_p2 n a0 a1 kk0 := by
  obtain rfl : k0 = kk0 := hq0
  rfl
theorem ref17_Ascending_p3_congr {R : Type} (n : Nat) (a0 : List (List D)) (a1 : Int) (h3 : Int) {k0 kk0 : Option R} {k1 kk1 : Int → Option R} {k2 kk2 : Bool → Option R} (hq0 : k0 = kk0) (hq1 : ∀ x0, k1 x0 = kk1 x0) (hq2 : ∀ x0, k2 x0 = kk2 x0) : ref17_Ascending_p3 n a0 a1 h3 k0 k1 k2 = ref17_Ascending_p3 n a0 a1 h3 kk0 kk1 kk2 := by
  obtain rfl : k0 = kk0 := hq0
  obtain rfl : k1 = kk1 := funext fun x0 => hq1 x0
  obtain rfl : k2 = kk2 := funext fun x0 => hq2 x0
  rfl
theorem ref17_Ascending_p4_congr {R : Type} (n : Nat) (a0 : List (List D)) (a1 : Int) {k0 kk0 : Option R} {k1 kk1 : Int → Bool → Option R} (hq0 : k0 = kk0) (hq1 : ∀ x0 x1, k1 x0 x1 = kk1 x0 x1) : ref17_Ascending_p4 n a0 a1 k0 k1 = ref17_Ascending_p4 n a0 a1 kk0 kk1 := by
  obtain rfl : k0 = kk0 := hq0
  obtain rfl : k1 = kk1 := funext fun x0 => funext fun x1 => hq1 x0 x1
  rfl
theorem ref17_Ascending_p5_congr {R : Type} (n : Nat) (a0 : List (List D)) (a1 : Int) {k0 kk0 : Option R} {k1 kk1 : Int → Bool → Option R} (hq0 : k0 = kk0) (hq1 : ∀ x0 x1, k1 x0 x1 = kk1 x0 x1) : ref17_Ascending_p5 n a0 a1 k0 k1 = ref17_Ascending_p5 n a0 a1 kk0 kk1 := by
  obtain rfl : k0 = kk0 := hq0
  obtain rfl : k1 = kk1 := funext fun x0 => funext fun x1 => hq1 x0 x1
  rfl
theorem ref17_Ascending_p6_congr {R : Type} (n : Nat) (a0 : List (List D)) (a1 : Int) {k0 kk0 : Option R} {k1 kk1 : Int → Bool → Option R} (hq0 : k0 = kk0) (hq1 : ∀ x0 x1, k1 x0 x1 = kk1 x0 x1) : ref17_Ascending_p6 n a0 a1 k0 k1 = ref17_Ascending_p6 n a0 a1 kk0 kk1 := by
  obtain rfl : k0 = kk0 := hq0
  obtain rfl : k1 = kk1 := funext fun x0 => funext fun x1 => hq1 x0 x1
  rfl
theorem ref17_Ascending_p7_congr {R : Type} (n : Nat) (a0 : List (List D)) (a1 : Int) (w34 : Int) (w35 : Bool) {k0 kk0 : Option R} (hq0 : k0 = kk0) : ref17_Ascending_p7 n a0 a1 w34 w35 k0 = ref17_Ascending_p7 n a0 a1 w34 w35 kk0 := by
  obtain rfl : k0 = kk0 := hq0
  rfl
theorem ref17_Ascending_p8_congr {R : Type} (n : Nat) (a0 : List (List D)) (a1 : Int) {k0 kk0 : Bool → Option R} (hq0 : ∀ x0, k0 x0 = kk0 x0) : ref17_Ascending_p8 n a0 a1 k0 = ref17_Ascending_p8 n a0 a1 kk0 := by
  obtain rfl : k0 = kk0 := funext fun x0 => hq0 x0
  rfl
theorem ref17_Ascending_p9_congr {R : Type} (n : Nat) (a0 : List (List D)) (a1 : Int) {k0 kk0 : Bool → Option R} (hq0 : ∀ x0, k0 x0 = kk0 x0) : ref17_Ascending_p9 n a0 a1 k0 = ref17_Ascending_p9 n a0 a1 kk0 := by
  obtain rfl : k0 = kk0 := funext fun x0 => hq0 x0
  rfl
theorem ref17_Ascending_p1_eq {R : Type} (n : Nat) (a0 : List (List D)) (a1 : Int) (k : Exit → St → Option R) : vexec (ref17_Ascending_C n) n ref17_Ascending_c1 ⟨35, [(0, .d (D.sl 1 a0)), (1, .d (D.int .i64 a1))], []⟩ k = ref17_Ascending_p1 n a0 a1 (k .normal ⟨35, [(0, .d (D.sl 1 a0)), (1, .d (D.int .i64 a1))], []⟩) := by kernel_rfl
theorem ref17_Ascending_p2_eq {R : Type} (n : Nat) (a0 : List (List D)) (a1 : Int) (k : Exit → St → Option R) : vexec (ref17_Ascending_C n) n ref17_Ascending_c2 ⟨35, [(0, .d (D.sl 1 a0)), (1, .d (D.int .i64 a1))], []⟩ k = ref17_Ascending_p2 n a0 a1 (k .normal ⟨35, [(0, .d (D.sl 1 a0)), (1, .d (D.int .i64 a1)), (5, .d (D.int .i64 (0 : Int)))], []⟩) := by kernel_rfl
theorem ref17_Ascending_p3_eq {R : Type} (n : Nat) (a0 : List (List D)) (a1 : Int) (h3 : Int) (k : Exit → St → Option R) : vexec (ref17_Ascending_C n) n ref17_Ascending_c3 ⟨35, [(0, .d (D.sl 1 a0)), (1, .d (D.int .i64 a1)), (5, .d (D.int .i64 h3))], []⟩ k = ref17_Ascending_p3 n a0 a1 h3 (k .ret ⟨35, [(4, .d (D.bool false))], []⟩) (fun z26 => k .normal ⟨35, [(0, .d (D.sl 1 a0)), (1, .d (D.int .i64 a1)), (5, .d (D.int .i64 z26))], []⟩) (fun z27 => k (.exit 0) ⟨35, [(0, .d (D.sl 1 a0)), (1, .d (D.int .i64 a1)), (5, .d (D.int .i64 h3)), (9, .d (D.bool z27))], []⟩) := by kernel_rfl
theorem ref17_Ascending_r4_eq {R : Type} (n : Nat) (a0 : List (List D)) (a1 : Int) (k : Exit → St → Option R) : ∀ (m : Nat) (h3 : Int), loopN (vexec (ref17_Ascending_C n) n ref17_Ascending_c3) m ⟨35, [(0, .d (D.sl 1 a0)), (1, .d (D.int .i64 a1)), (5, .d (D.int .i64 h3))], []⟩ k = ref17_Ascending_r4 n a0 a1 (k .ret ⟨35, [(4, .d (D.bool false))], []⟩) (fun h3 w29 => k (.exit 0) ⟨35, [(0, .d (D.sl 1 a0)), (1, .d (D.int .i64 a1)), (5, .d (D.int .i64 h3)), (9, .d (D.bool w29))], []⟩) m h3
  | 0, _ => rfl
  | m + 1, h3 => (ref17_Ascending_p3_eq n a0 a1 h3 (loopK (vexec (ref17_Ascending_C n) n ref17_Ascending_c3) m k)).trans (ref17_Ascending_p3_congr n a0 a1 h3 (rfl) (fun w28 => ref17_Ascending_r4_eq n a0 a1 k m w28) (fun w29 => rfl))
theorem ref17_Ascending_p4_eq {R : Type} (n : Nat) (a0 : List (List D)) (a1 : Int) (k : Exit → St → Option R) : vexec (ref17_Ascending_C n) n ref17_Ascending_c4 ⟨35, [(0, .d (D.sl 1 a0)), (1, .d (D.int .i64 a1)), (5, .d (D.int .i64 (0 : Int)))], []⟩ k = ref17_Ascending_p4 n a0 a1 (k .ret ⟨35, [(4, .d (D.bool false))], []⟩) (fun h3 w29 => k (.exit 0) ⟨35, [(0, .d (D.sl 1 a0)), (1, .d (D.int .i64 a1)), (5, .d (D.int .i64 h3)), (9, .d (D.bool w29))], []⟩) := by
  rw [ref17_Ascending_c4_eq]
  exact ref17_Ascending_r4_eq n a0 a1 k n (0 : Int)
theorem ref17_Ascending_p5_eq {R : Type} (n : Nat) (a0 : List (List D)) (a1 : Int) (k : Exit → St → Option R) : vexec (ref17_Ascending_C n) n ref17_Ascending_c5 ⟨35, [(0, .d (D.sl 1 a0)), (1, .d (D.int .i64 a1)), (5, .d (D.int .i64 (0 : Int)))], []⟩ k = ref17_Ascending_p5 n a0 a1 (k .ret ⟨35, [(4, .d (D.bool false))], []⟩) (fun w30 w31 => k .normal ⟨35, [(0, .d (D.sl 1 a0)), (1, .d (D.int .i64 a1)), (5, .d (D.int .i64 w30)), (9, .d (D.bool w31))], []⟩) := by
  rw [ref17_Ascending_c5_eq]
  unfold ref17_Ascending_p5
  exact (ref17_Ascending_p4_eq n a0 a1 (blockK 0 k)).trans (ref17_Ascending_p4_congr n a0 a1 (rfl) (fun w30 w31 => rfl))
theorem ref17_Ascending_p6_eq {R : Type} (n : Nat) (a0 : List (List D)) (a1 : Int) (k : Exit → St → Option R) : vexec (ref17_Ascending_C n) n ref17_Ascending_c6 ⟨35, [(0, .d (D.sl 1 a0)), (1, .d (D.int .i64 a1))], []⟩ k = ref17_Ascending_p6 n a0 a1 (k .ret ⟨35, [(4, .d (D.bool false))], []⟩) (fun w32 w33 => k .normal ⟨35, [(0, .d (D.sl 1 a0)), (1, .d (D.int .i64 a1)), (5, .d (D.int .i64 w32)), (9, .d (D.bool w33))], []⟩) := by
  rw [ref17_Ascending_c6_eq]
  unfold ref17_Ascending_p6
  exact (ref17_Ascending_p2_eq n a0 a1 (seqK (ref17_Ascending_C n) n ref17_Ascending_c5 k)).trans (ref17_Ascending_p2_congr n a0 a1 (ref17_Ascending_p5_eq n a0 a1 k))
theorem ref17_Ascending_p7_eq {R : Type} (n : Nat) (a0 : List (List D)) (a1 : Int) (w34 : Int) (w35 : Bool) (k : Exit → St → Option R) : vexec (ref17_Ascending_C n) n ref17_Ascending_c7 ⟨35, [(0, .d (D.sl 1 a0)), (1, .d (D.int .i64 a1)), (5, .d (D.int .i64 w34)), (9, .d (D.bool w35))], []⟩ k = ref17_Ascending_p7 n a0 a1 w34 w35 (k .ret ⟨35, [(4, .d (D.bool true))], []⟩) := by kernel_rfl
theorem ref17_Ascending_p8_eq {R : Type} (n : Nat) (a0 : List (List D)) (a1 : Int) (k : Exit → St → Option R) : vexec (ref17_Ascending_C n) n ref17_Ascending_c8 ⟨35, [(0, .d (D.sl 1 a0)), (1, .d (D.int .i64 a1))], []⟩ k = ref17_Ascending_p8 n a0 a1 (fun z36 => k .ret ⟨35, [(4, .d (D.bool z36))], []⟩) := by
  rw [ref17_Ascending_c8_eq]
  unfold ref17_Ascending_p8
  exact (ref17_Ascending_p6_eq n a0 a1 (seqK (ref17_Ascending_C n) n ref17_Ascending_c7 k)).trans (ref17_Ascending_p6_congr n a0 a1 (rfl) (fun w34 w35 => ref17_Ascending_p7_eq n a0 a1 w34 w35 k))
theorem ref17_Ascending_p9_eq {R : Type} (n : Nat) (a0 : List (List D)) (a1 : Int) (k : Exit → St → Option R) : vexec (ref17_Ascending_C n) n ref17_Ascending_c0 ⟨35, [(0, .d (D.sl 1 a0)), (1, .d (D.int .i64 a1))], []⟩ k = ref17_Ascending_p9 n a0 a1 (fun w37 => k .ret ⟨35, [(4, .d (D.bool w37))], []⟩) := by
  rw [ref17_Ascending_c0_eq]
  unfold ref17_Ascending_p9
  exact (ref17_Ascending_p1_eq n a0 a1 (seqK (ref17_Ascending_C n) n ref17_Ascending_c8 k)).trans (ref17_Ascending_p1_congr n a0 a1 (ref17_Ascending_p8_eq n a0 a1 k))
theorem ref17_Ascending_vfn {R : Type} (n : Nat) (a0 : List (List D)) (a1 : Int) (K : AV → Option R) : vfn (ref17_Ascending_C n) n Try.f25 [.d (D.sl 1 a0), .d (D.int .i64 a1)] [] (retF [[0]] K) = ref17_Ascending n a0 a1 (fun r0 => K (.d (D.bool r0))) :=
  (show vfn (ref17_Ascending_C n) n Try.f25 [.d (D.sl 1 a0), .d (D.int .i64 a1)] [] (retF [[0]] K) = vexec (ref17_Ascending_C n) n ref17_Ascending_c0 ⟨35, [(0, .d (D.sl 1 a0)), (1, .d (D.int .i64 a1))], []⟩ (retX ref17_Ascending_tt [.tmp 4] (retF [[0]] K)) from vfn_at (by kernel_rfl) (by kernel_rfl) rfl (by kernel_rfl) rfl (by kernel_rfl) rfl).trans ((ref17_Ascending_p9_eq n a0 a1 (retX ref17_Ascending_tt [.tmp 4] (retF [[0]] K))).trans (by kernel_rfl))
def ref17_Ascending_K : AV → Option (Bool) := fun av => match av with
  | .d (D.bool r0) => some r0
  | _ => none
def ref17_Ascending_e (n : Nat) : Entry := fun _ _ g avs _ k => match avs with
  | [c0, c1] => prS g 1 c0 fun a0 => prI g .i64 c1 fun a1 => 
    gb g (ref17_Ascending n a0 a1 some) false fun r => k ⟨.d (D.bool r), [], []⟩
  | _ => none
theorem ref17_Ascending_ok (n : Nat) : EntryOK Try.prog 25 (ref17_Ascending_e n) := by
  intro R site g avs hl k r h
  unfold ref17_Ascending_e at h
  split at h
  rotate_left
  · cases h
  replace h := prS_some h
  obtain ⟨a0, h, le0⟩ := h
  replace h := prI_some h
  obtain ⟨a1, h, le1⟩ := h
  replace h := gb_some h
  obtain ⟨res, h, hr⟩ := h
  refine ⟨_, h, fun hg => CallOK.conv (avs' := [.d (D.sl 1 a0), .d (D.int .i64 a1)]) (.cons (le0 hg) (.cons (le1 hg) (.nil))) (callOK_fix (K := ref17_Ascending_K) (res := res) (ref17_Ascending_VC n) (fn := Try.f25) (n := n) (by kernel_rfl) (by kernel_rfl) (by kernel_rfl) (ss := [[0]]) rfl ?_ ?_)⟩
  · exact (ref17_Ascending_vfn n a0 a1 ref17_Ascending_K).trans (hr hg)
  · intro x hx
    unfold ref17_Ascending_K at hx
    split at hx
    · injection hx with hx; subst hx; rfl
    · cases hx
end Go.Vx
/-
  law20_pick: the interpreter computes the pure function
-/
set_option linter.unusedVariables false
set_option linter.unusedSimpArgs false
set_option maxRecDepth 100000
namespace Go.Vx
open Go.Proofs
noncomputable def law20_pick_c0 : Code := bodyOf Try.f26
noncomputable def law20_pick_c1 : Code := cL (bodyOf Try.f26)
noncomputable def law20_pick_c2 : Code := cL (cR (bodyOf Try.f26))
noncomputable def law20_pick_c3 : Code := cL (cL (cR (cR (bodyOf Try.f26))))
noncomputable def law20_pick_c4 : Code := cB (cB (cR (cL (cR (cR (bodyOf Try.f26))))))
noncomputable def law20_pick_c5 : Code := cB (cR (cL (cR (cR (bodyOf Try.f26)))))
noncomputable def law20_pick_c6 : Code := cR (cL (cR (cR (bodyOf Try.f26))))
noncomputable def law20_pick_c7 : Code := cL (cR (cR (bodyOf Try.f26)))
noncomputable def law20_pick_c8 : Code := cR (cR (cR (bodyOf Try.f26)))
noncomputable def law20_pick_c9 : Code := cR (cR (bodyOf Try.f26))
noncomputable def law20_pick_c10 : Code := cR (bodyOf Try.f26)
theorem law20_pick_c5_eq : law20_pick_c5 = .loop law20_pick_c4 := by kernel_rfl
theorem law20_pick_c6_eq : law20_pick_c6 = .block 0 law20_pick_c5 := by kernel_rfl
theorem law20_pick_c7_eq : law20_pick_c7 = .seq law20_pick_c3 law20_pick_c6 := by kernel_rfl
theorem law20_pick_c9_eq : law20_pick_c9 = .seq law20_pick_c7 law20_pick_c8 := by kernel_rfl
theorem law20_pick_c10_eq : law20_pick_c10 = .seq law20_pick_c2 law20_pick_c9 := by kernel_rfl
theorem law20_pick_c0_eq : law20_pick_c0 = .seq law20_pick_c1 law20_pick_c10 := by kernel_rfl
def law20_pick_tt : TT := [(3, ⟨.int .i64, 1, 8, [.int .i64 0], [.int .i64 0], [], none⟩), (22, ⟨.sl 3 1, 1, 24, [.slice none 0 0], [.sl 1 []], [], none⟩), (24, ⟨.sl 28 3, 1, 24, [.slice none 0 0], [.sl 3 []], [], none⟩), (28, ⟨.struct, 3, 40, [.int .i64 0, .int .i64 0, .slice none 0 0], [.int .i64 0, .int .i64 0, .sl 1 []], [(0, 3), (1, 3), (2, 22)], none⟩)]
theorem law20_pick_tt_eq : mkTT Try.prog [3, 22, 24, 28] = law20_pick_tt := by kernel_rfl
def law20_pick_cfg : List (Nat × Cfg) := [(0, ⟨[0, 1], [], [], [], []⟩), (1, ⟨[0, 1, 5], [], [], [], []⟩), (2, ⟨[0, 1, 5, 8, 9], [], [(5, 1005, 28, 3)], [], []⟩), (3, ⟨[0, 1, 5, 8, 9, 10], [(1005, 1005)], [], [], []⟩), (4, ⟨[0, 1, 5, 6, 8, 9], [(1005, 1005)], [], [], []⟩), (5, ⟨[0, 1, 5, 8, 9], [(21, 1005)], [], [], []⟩), (6, ⟨[0, 1, 5, 8, 9], [(1005, 1005)], [], [], []⟩), (7, ⟨[4], [(1005, 1005)], [], [], []⟩)]
def law20_pick_C (n : Nat) : VC := ⟨specOf [], law20_pick_tt, law20_pick_cfg⟩
theorem law20_pick_ents (n : Nat) : EntsOK Try.prog [] := trivial
theorem law20_pick_VC (n : Nat) : VCOk Try.prog (law20_pick_C n) := ⟨specOf_ok (law20_pick_ents n), (law20_pick_tt_eq ▸ mkTT_ok _ : TOk Try.prog law20_pick_tt), by kernel_rfl⟩
theorem law20_pick_p1_congr {R : Type} (n : Nat) (a0 : List (List D)) (a1 : List (List D)) {k0 kk0 : Option R} (hq0 : k0 = kk0) : law20_pick_p1 n a0 a1 k0 = law20_pick_p1 n a0 a1 kk0 := by
  obtain rfl : k0 = kk0 := hq0
  rfl
theorem law20_pick_p2_congr {R : Type} (n : Nat) (a0 : List (List D)) (a1 : List (List D)) {k0 kk0 : Option R} (hq0 : k0 = kk0) : law20_pick_p2 n a0 a1 k0 = law20_pick_p2 n a0 a1 kk0 := by
  obtain rfl : k0 = kk0 := hq0
  rfl
theorem law20_pick_p3_congr {R : Type} (n : Nat) (a0 : List (List D)) (a1 : List (List D)) {k0 kk0 : Int → Option R} (hq0 : ∀ x0, k0 x0 = kk0 x0) : law20_pick_p3 n a0 a1 k0 = law20_pick_p3 n a0 a1 kk0 := by
  obtain rfl : k0 = kk0 := funext fun x0 => hq0 x0
  rfl
theorem law20_pick_p4_congr {R : Type} (n : Nat) (a0 : List (List D)) (a1 : List (List D)) (w2 : Int) (h6 : Int) (h7 : List (List D)) {k0 kk0 : Int → (List (List D)) → Option R} {k1 kk1 : Bool → Option R} (hq0 : ∀ x0 x1, k0 x0 x1 = kk0 x0 x1) (hq1 : ∀ x0, k1 x0 = kk1 x0) : law20_pick_p4 n a0 a1 w2 h6 h7 k0 k1 = law20_pick_p4 n a0 a1 w2 h6 h7 kk0 kk1 := by
  obtain rfl : k0 = kk0 := funext fun x0 => funext fun x1 => hq0 x0 x1
  obtain rfl : k1 = kk1 := funext fun x0 => hq1 x0
  rfl
theorem law20_pick_p5_congr {R : Type} (n : Nat) (a0 : List (List D)) (a1 : List (List D)) (w2 : Int) {k0 kk0 : Int → Bool → (List (List D)) → Option R} (hq0 : ∀ x0 x1 x2, k0 x0 x1 x2 = kk0 x0 x1 x2) : law20_pick_p5 n a0 a1 w2 k0 = law20_pick_p5 n a0 a1 w2 kk0 := by
  obtain rfl : k0 = kk0 := funext fun x0 => funext fun x1 => funext fun x2 => hq0 x0 x1 x2
  rfl
theorem law20_pick_p6_congr {R : Type} (n : Nat) (a0 : List (List D)) (a1 : List (List D)) (w2 : Int) {k0 kk0 : Int → Bool → (List (List D)) → Option R} (hq0 : ∀ x0 x1 x2, k0 x0 x1 x2 = kk0 x0 x1 x2) : law20_pick_p6 n a0 a1 w2 k0 = law20_pick_p6 n a0 a1 w2 kk0 := by
  obtain rfl : k0 = kk0 := funext fun x0 => funext fun x1 => funext fun x2 => hq0 x0 x1 x2
  rfl
theorem law20_pick_p7_congr {R : Type} (n : Nat) (a0 : List (List D)) (a1 : List (List D)) {k0 kk0 : Int → Int → Bool → (List (List D)) → Option R} (hq0 : ∀ x0 x1 x2 x3, k0 x0 x1 x2 x3 = kk0 x0 x1 x2 x3) : law20_pick_p7 n a0 a1 k0 = law20_pick_p7 n a0 a1 kk0 := by
  obtain rfl : k0 = kk0 := funext fun x0 => funext fun x1 => funext fun x2 => funext fun x3 => hq0 x0 x1 x2 x3
  rfl
theorem law20_pick_p8_congr {R : Type} (n : Nat) (a0 : List (List D)) (a1 : List (List D)) (w39 : Int) (w40 : Int) (w41 : Bool) (w42 : List (List D)) {k0 kk0 : Option R} (hq0 : k0 = kk0) : law20_pick_p8 n a0 a1 w39 w40 w41 w42 k0 = law20_pick_p8 n a0 a1 w39 w40 w41 w42 kk0 := by
  obtain rfl : k0 = kk0 := hq0
  rfl
theorem law20_pick_p9_congr {R : Type} (n : Nat) (a0 : List (List D)) (a1 : List (List D)) {k0 kk0 : (List (List D)) → Option R} (hq0 : ∀ x0, k0 x0 = kk0 x0) : law20_pick_p9 n a0 a1 k0 = law20_pick_p9 n a0 a1 kk0 := by
  obtain rfl : k0 = kk0 := funext fun x0 => hq0 x0
  rfl
theorem law20_pick_p10_congr {R : Type} (n : Nat) (a0 : List (List D)) (a1 : List (List D)) {k0 kk0 : (List (List D)) → Option R} (hq0 : ∀ x0, k0 x0 = kk0 x0) : law20_pick_p10 n a0 a1 k0 = law20_pick_p10 n a0 a1 kk0 := by
  obtain rfl : k0 = kk0 := funext fun x0 => hq0 x0
  rfl
theorem law20_pick_p11_congr {R : Type} (n : Nat) (a0 : List (List D)) (a1 : List (List D)) {k0 kk0 : (List (List D)) → Option R} (hq0 : ∀ x0, k0 x0 = kk0 x0) : law20_pick_p11 n a0 a1 k0 = law20_pick_p11 n a0 a1 kk0 := by
  obtain rfl : k0 = kk0 := funext fun x0 => hq0 x0
  rfl
theorem law20_pick_p1_eq {R : Type} (n : Nat) (a0 : List (List D)) (a1 : List (List D)) (k : Exit → St → Option R) : vexec (law20_pick_C n) n law20_pick_c1 ⟨24, [(0, .d (D.sl 3 a0)), (1, .d (D.sl 1 a1))], []⟩ k = law20_pick_p1 n a0 a1 (k .normal ⟨24, [(0, .d (D.sl 3 a0)), (1, .d (D.sl 1 a1))], []⟩) := by kernel_rfl
theorem law20_pick_p2_eq {R : Type} (n : Nat) (a0 : List (List D)) (a1 : List (List D)) (k : Exit → St → Option R) : vexec (law20_pick_C n) n law20_pick_c2 ⟨24, [(0, .d (D.sl 3 a0)), (1, .d (D.sl 1 a1))], []⟩ k = law20_pick_p2 n a0 a1 (k .normal ⟨24, [(0, .d (D.sl 3 a0)), (1, .d (D.sl 1 a1)), (5, .nil)], []⟩) := by kernel_rfl
theorem law20_pick_p3_eq {R : Type} (n : Nat) (a0 : List (List D)) (a1 : List (List D)) (k : Exit → St → Option R) : vexec (law20_pick_C n) n law20_pick_c3 ⟨24, [(0, .d (D.sl 3 a0)), (1, .d (D.sl 1 a1)), (5, .nil)], []⟩ k = law20_pick_p3 n a0 a1 (fun z1 => k .normal ⟨24, [(0, .d (D.sl 3 a0)), (1, .d (D.sl 1 a1)), (5, .arr 1005), (8, .d (D.int .i64 z1)), (9, .d (D.int .i64 (0 : Int)))], [(1005, .arr 28 3 [])]⟩) := by kernel_rfl
theorem law20_pick_p4_eq {R : Type} (n : Nat) (a0 : List (List D)) (a1 : List (List D)) (w2 : Int) (h6 : Int) (h7 : List (List D)) (k : Exit → St → Option R) : vexec (law20_pick_C n) n law20_pick_c4 ⟨24, [(0, .d (D.sl 3 a0)), (1, .d (D.sl 1 a1)), (5, .arr 1005), (8, .d (D.int .i64 w2)), (9, .d (D.int .i64 h6))], [(1005, .arr 28 3 h7)]⟩ k = law20_pick_p4 n a0 a1 w2 h6 h7 (fun z27 z28 => k .normal ⟨24, [(0, .d (D.sl 3 a0)), (1, .d (D.sl 1 a1)), (5, .arr 1005), (8, .d (D.int .i64 w2)), (9, .d (D.int .i64 z27))], [(1005, .arr 28 3 z28)]⟩) (fun z29 => k (.exit 0) ⟨24, [(0, .d (D.sl 3 a0)), (1, .d (D.sl 1 a1)), (5, .arr 1005), (8, .d (D.int .i64 w2)), (9, .d (D.int .i64 h6)), (10, .d (D.bool z29))], [(1005, .arr 28 3 h7)]⟩) := by kernel_rfl
theorem law20_pick_r5_eq {R : Type} (n : Nat) (a0 : List (List D)) (a1 : List (List D)) (w2 : Int) (k : Exit → St → Option R) : ∀ (m : Nat) (h6 : Int) (h7 : List (List D)), loopN (vexec (law20_pick_C n) n law20_pick_c4) m ⟨24, [(0, .d (D.sl 3 a0)), (1, .d (D.sl 1 a1)), (5, .arr 1005), (8, .d (D.int .i64 w2)), (9, .d (D.int .i64 h6))], [(1005, .arr 28 3 h7)]⟩ k = law20_pick_r5 n a0 a1 w2 (fun h6 w32 h7 => k (.exit 0) ⟨24, [(0, .d (D.sl 3 a0)), (1, .d (D.sl 1 a1)), (5, .arr 1005), (8, .d (D.int .i64 w2)), (9, .d (D.int .i64 h6)), (10, .d (D.bool w32))], [(1005, .arr 28 3 h7)]⟩) m h6 h7
  | 0, _, _ => rfl
  | m + 1, h6, h7 => (law20_pick_p4_eq n a0 a1 w2 h6 h7 (loopK (vexec (law20_pick_C n) n law20_pick_c4) m k)).trans (law20_pick_p4_congr n a0 a1 w2 h6 h7 (fun w30 w31 => law20_pick_r5_eq n a0 a1 w2 k m w30 w31) (fun w32 => rfl))
theorem law20_pick_p5_eq {R : Type} (n : Nat) (a0 : List (List D)) (a1 : List (List D)) (w2 : Int) (k : Exit → St → Option R) : vexec (law20_pick_C n) n law20_pick_c5 ⟨24, [(0, .d (D.sl 3 a0)), (1, .d (D.sl 1 a1)), (5, .arr 1005), (8, .d (D.int .i64 w2)), (9, .d (D.int .i64 (0 : Int)))], [(1005, .arr 28 3 [])]⟩ k = law20_pick_p5 n a0 a1 w2 (fun h6 w32 h7 => k (.exit 0) ⟨24, [(0, .d (D.sl 3 a0)), (1, .d (D.sl 1 a1)), (5, .arr 1005), (8, .d (D.int .i64 w2)), (9, .d (D.int .i64 h6)), (10, .d (D.bool w32))], [(1005, .arr 28 3 h7)]⟩) := by
  rw [law20_pick_c5_eq]
  exact law20_pick_r5_eq n a0 a1 w2 k n (0 : Int) []
theorem law20_pick_p6_eq {R : Type} (n : Nat) (a0 : List (List D)) (a1 : List (List D)) (w2 : Int) (k : Exit → St → Option R) : vexec (law20_pick_C n) n law20_pick_c6 ⟨24, [(0, .d (D.sl 3 a0)), (1, .d (D.sl 1 a1)), (5, .arr 1005), (8, .d (D.int .i64 w2)), (9, .d (D.int .i64 (0 : Int)))], [(1005, .arr 28 3 [])]⟩ k = law20_pick_p6 n a0 a1 w2 (fun w33 w34 w35 => k .normal ⟨24, [(0, .d (D.sl 3 a0)), (1, .d (D.sl 1 a1)), (5, .arr 1005), (8, .d (D.int .i64 w2)), (9, .d (D.int .i64 w33)), (10, .d (D.bool w34))], [(1005, .arr 28 3 w35)]⟩) := by
  rw [law20_pick_c6_eq]
  unfold law20_pick_p6
  exact (law20_pick_p5_eq n a0 a1 w2 (blockK 0 k)).trans (law20_pick_p5_congr n a0 a1 w2 (fun w33 w34 w35 => rfl))
theorem law20_pick_p7_eq {R : Type} (n : Nat) (a0 : List (List D)) (a1 : List (List D)) (k : Exit → St → Option R) : vexec (law20_pick_C n) n law20_pick_c7 ⟨24, [(0, .d (D.sl 3 a0)), (1, .d (D.sl 1 a1)), (5, .nil)], []⟩ k = law20_pick_p7 n a0 a1 (fun w2 w36 w37 w38 => k .normal ⟨24, [(0, .d (D.sl 3 a0)), (1, .d (D.sl 1 a1)), (5, .arr 1005), (8, .d (D.int .i64 w2)), (9, .d (D.int .i64 w36)), (10, .d (D.bool w37))], [(1005, .arr 28 3 w38)]⟩) := by
  rw [law20_pick_c7_eq]
  unfold law20_pick_p7
  exact (law20_pick_p3_eq n a0 a1 (seqK (law20_pick_C n) n law20_pick_c6 k)).trans (law20_pick_p3_congr n a0 a1 (fun w2 => law20_pick_p6_eq n a0 a1 w2 k))
theorem law20_pick_p8_eq {R : Type} (n : Nat) (a0 : List (List D)) (a1 : List (List D)) (w39 : Int) (w40 : Int) (w41 : Bool) (w42 : List (List D)) (k : Exit → St → Option R) : vexec (law20_pick_C n) n law20_pick_c8 ⟨24, [(0, .d (D.sl 3 a0)), (1, .d (D.sl 1 a1)), (5, .arr 1005), (8, .d (D.int .i64 w39)), (9, .d (D.int .i64 w40)), (10, .d (D.bool w41))], [(1005, .arr 28 3 w42)]⟩ k = law20_pick_p8 n a0 a1 w39 w40 w41 w42 (k .ret ⟨24, [(4, .arr 1005)], [(1005, .arr 28 3 w42)]⟩) := by kernel_rfl
theorem law20_pick_p9_eq {R : Type} (n : Nat) (a0 : List (List D)) (a1 : List (List D)) (k : Exit → St → Option R) : vexec (law20_pick_C n) n law20_pick_c9 ⟨24, [(0, .d (D.sl 3 a0)), (1, .d (D.sl 1 a1)), (5, .nil)], []⟩ k = law20_pick_p9 n a0 a1 (fun w42 => k .ret ⟨24, [(4, .arr 1005)], [(1005, .arr 28 3 w42)]⟩) := by
  rw [law20_pick_c9_eq]
  unfold law20_pick_p9
  exact (law20_pick_p7_eq n a0 a1 (seqK (law20_pick_C n) n law20_pick_c8 k)).trans (law20_pick_p7_congr n a0 a1 (fun w39 w40 w41 w42 => law20_pick_p8_eq n a0 a1 w39 w40 w41 w42 k))
theorem law20_pick_p10_eq {R : Type} (n : Nat) (a0 : List (List D)) (a1 : List (List D)) (k : Exit → St → Option R) : vexec (law20_pick_C n) n law20_pick_c10 ⟨24, [(0, .d (D.sl 3 a0)), (1, .d (D.sl 1 a1))], []⟩ k = law20_pick_p10 n a0 a1 (fun w43 => k .ret ⟨24, [(4, .arr 1005)], [(1005, .arr 28 3 w43)]⟩) := by
  rw [law20_pick_c10_eq]
  unfold law20_pick_p10
  exact (law20_pick_p2_eq n a0 a1 (seqK (law20_pick_C n) n law20_pick_c9 k)).trans (law20_pick_p2_congr n a0 a1 (law20_pick_p9_eq n a0 a1 k))
theorem law20_pick_p11_eq {R : Type} (n : Nat) (a0 : List (List D)) (a1 : List (List D)) (k : Exit → St → Option R) : vexec (law20_pick_C n) n law20_pick_c0 ⟨24, [(0, .d (D.sl 3 a0)), (1, .d (D.sl 1 a1))], []⟩ k = law20_pick_p11 n a0 a1 (fun w44 => k .ret ⟨24, [(4, .arr 1005)], [(1005, .arr 28 3 w44)]⟩) := by
  rw [law20_pick_c0_eq]
  unfold law20_pick_p11
  exact (law20_pick_p1_eq n a0 a1 (seqK (law20_pick_C n) n law20_pick_c10 k)).trans (law20_pick_p1_congr n a0 a1 (law20_pick_p10_eq n a0 a1 k))
theorem law20_pick_vfn {R : Type} (n : Nat) (a0 : List (List D)) (a1 : List (List D)) (K : AV → Option R) : vfn (law20_pick_C n) n Try.f26 [.d (D.sl 3 a0), .d (D.sl 1 a1)] [] (retF [[3]] K) = law20_pick n a0 a1 (fun r0 => K (.d (D.sl 3 r0))) :=
  (show vfn (law20_pick_C n) n Try.f26 [.d (D.sl 3 a0), .d (D.sl 1 a1)] [] (retF [[3]] K) = vexec (law20_pick_C n) n law20_pick_c0 ⟨24, [(0, .d (D.sl 3 a0)), (1, .d (D.sl 1 a1))], []⟩ (retX law20_pick_tt [.tmp 4] (retF [[3]] K)) from vfn_at (by kernel_rfl) (by kernel_rfl) rfl (by kernel_rfl) rfl (by kernel_rfl) rfl).trans ((law20_pick_p11_eq n a0 a1 (retX law20_pick_tt [.tmp 4] (retF [[3]] K))).trans (by kernel_rfl))
def law20_pick_K : AV → Option (List (List D)) := fun av => match av with
  | .d (D.sl 3 r0) => some r0
  | _ => none
def law20_pick_e (n : Nat) : Entry := fun _ _ g avs _ k => match avs with
  | [c0, c1] => prS g 3 c0 fun a0 => prS g 1 c1 fun a1 => 
    gb g (law20_pick n a0 a1 some) [] fun r => k ⟨.d (D.sl 3 r), [], []⟩
  | _ => none
theorem law20_pick_ok (n : Nat) : EntryOK Try.prog 26 (law20_pick_e n) := by
  intro R site g avs hl k r h
  unfold law20_pick_e at h
  split at h
  rotate_left
  · cases h
  replace h := prS_some h
  obtain ⟨a0, h, le0⟩ := h
  replace h := prS_some h
  obtain ⟨a1, h, le1⟩ := h
  replace h := gb_some h
  obtain ⟨res, h, hr⟩ := h
  refine ⟨_, h, fun hg => CallOK.conv (avs' := [.d (D.sl 3 a0), .d (D.sl 1 a1)]) (.cons (le0 hg) (.cons (le1 hg) (.nil))) (callOK_fix (K := law20_pick_K) (res := res) (law20_pick_VC n) (fn := Try.f26) (n := n) (by kernel_rfl) (by kernel_rfl) (by kernel_rfl) (ss := [[3]]) rfl ?_ ?_)⟩
  · exact (law20_pick_vfn n a0 a1 law20_pick_K).trans (hr hg)
  · intro x hx
    unfold law20_pick_K at hx
    split at hx
    · injection hx with hx; subst hx; rfl
    · cases hx
def law20_pick_Ko : AV → List (Nat × Ob) → Option (List (List D)) := fun av H => (look H 1005).bind fun o0 => match av, o0 with
  | .arr p0, .arr p1 p2 r0 => bif Nat.beq p0 1005 && (Nat.beq p1 28 && (Nat.beq p2 3)) then some r0 else none
  | _, _ => none
theorem law20_pick_vfo (n : Nat) (a0 : List (List D)) (a1 : List (List D)) : vfn (law20_pick_C n) n Try.f26 [.d (D.sl 3 a0), .d (D.sl 1 a1)] [] law20_pick_Ko = law20_pick n a0 a1 some :=
  (show vfn (law20_pick_C n) n Try.f26 [.d (D.sl 3 a0), .d (D.sl 1 a1)] [] law20_pick_Ko = vexec (law20_pick_C n) n law20_pick_c0 ⟨24, [(0, .d (D.sl 3 a0)), (1, .d (D.sl 1 a1))], []⟩ (retX law20_pick_tt [.tmp 4] law20_pick_Ko) from vfn_at (by kernel_rfl) (by kernel_rfl) rfl (by kernel_rfl) rfl (by kernel_rfl) rfl).trans ((law20_pick_p11_eq n a0 a1 (retX law20_pick_tt [.tmp 4] law20_pick_Ko)).trans (by kernel_rfl))
def law20_pick_o (n : Nat) : Entry := fun _ site g avs hl k => match avs with
  | [c0, c1] => prS g 3 c0 fun a0 => prS g 1 c1 fun a1 => 
    bif newsOk hl [] [(1005, (site + 100000))] then gb g (law20_pick n a0 a1 some) [] fun r => k ⟨.arr (site + 100000), [((site + 100000), some (.arr 28 3 r))], []⟩ else none
  | _ => none
theorem law20_pick_oo (n : Nat) : EntryOK Try.prog 26 (law20_pick_o n) := by
  intro R site g avs hl k r h
  unfold law20_pick_o at h
  split at h
  rotate_left
  · cases h
  replace h := prS_some h
  obtain ⟨a0, h, le0⟩ := h
  replace h := prS_some h
  obtain ⟨a1, h, le1⟩ := h
  replace h := bif_some h
  obtain ⟨hc, h⟩ := h
  replace h := gb_some h
  obtain ⟨res, h, hr⟩ := h
  refine ⟨_, h, fun hg => CallOK.conv (avs' := [.d (D.sl 3 a0), .d (D.sl 1 a1)]) (.cons (le0 hg) (.cons (le1 hg) (.nil))) (callOK_own (K := law20_pick_Ko) (res := res) (law20_pick_VC n) (fn := Try.f26) (n := n) (by kernel_rfl) (by kernel_rfl) (by kernel_rfl) (ρ := []) (ν := [(1005, (site + 100000))]) (avs' := [.d (D.sl 3 a0), .d (D.sl 1 a1)]) (H := []) rfl rfl rfl rfl hc (trivial) rfl rfl ?_ ?_)⟩
  · exact (law20_pick_vfo n a0 a1).trans (hr hg)
  · intro av H' hx
    unfold law20_pick_Ko at hx
    replace hx := Option.bind_eq_some_iff.1 hx
    obtain ⟨o0, ho0, hx⟩ := hx
    split at hx
    rotate_left
    · cases hx
    replace hx := bif_some hx
    obtain ⟨hck, hx⟩ := hx
    simp only [Bool.and_eq_true] at hck
    obtain ⟨ek0, ek1, ek2⟩ := hck
    have ek0 := Nat.eq_of_beq_eq_true ek0
    subst ek0
    have ek1 := Nat.eq_of_beq_eq_true ek1
    subst ek1
    have ek2 := Nat.eq_of_beq_eq_true ek2
    subst ek2
    injection hx with hx
    subst hx
    refine ⟨rfl, ?_, ⟨by rw [ho0]; rfl, trivial⟩, trivial⟩
    simp only [List.cons_append, List.nil_append, outWr, ho0, Option.map_some]
    rfl
end Go.Vx
/-
  ref17_Without: the interpreter computes the pure function
-/
set_option linter.unusedVariables false
set_option linter.unusedSimpArgs false
set_option maxRecDepth 100000
namespace Go.Vx
open Go.Proofs
noncomputable def ref17_Without_c0 : Code := bodyOf Try.f27
def ref17_Without_tt : TT := [(3, ⟨.int .i64, 1, 8, [.int .i64 0], [.int .i64 0], [], none⟩), (22, ⟨.sl 3 1, 1, 24, [.slice none 0 0], [.sl 1 []], [], none⟩)]
theorem ref17_Without_tt_eq : mkTT Try.prog [3, 22] = ref17_Without_tt := by kernel_rfl
def ref17_Without_cfg : List (Nat × Cfg) := [(0, ⟨[0, 1], [], [], [], []⟩), (1, ⟨[4], [(13, 13)], [], [], []⟩)]
def ref17_Without_C (n : Nat) : VC := ⟨specOf [], ref17_Without_tt, ref17_Without_cfg⟩
theorem ref17_Without_ents (n : Nat) : EntsOK Try.prog [] := trivial
theorem ref17_Without_VC (n : Nat) : VCOk Try.prog (ref17_Without_C n) := ⟨specOf_ok (ref17_Without_ents n), (ref17_Without_tt_eq ▸ mkTT_ok _ : TOk Try.prog ref17_Without_tt), by kernel_rfl⟩
theorem ref17_Without_p1_congr {R : Type} (n : Nat) (a0 : List (List D)) (a1 : Int) {k0 kk0 : (List (List D)) → Option R} (hq0 : ∀ x0, k0 x0 = kk0 x0) : ref17_Without_p1 n a0 a1 k0 = ref17_Without_p1 n a0 a1 kk0 := by
  obtain rfl : k0 = kk0 := funext fun x0 => hq0 x0
  rfl
theorem ref17_Without_p1_eq {R : Type} (n : Nat) (a0 : List (List D)) (a1 : Int) (k : Exit → St → Option R) : vexec (ref17_Without_C n) n ref17_Without_c0 ⟨14, [(0, .d (D.sl 1 a0)), (1, .d (D.int .i64 a1))], []⟩ k = ref17_Without_p1 n a0 a1 (fun z5 => k .ret ⟨14, [(4, .arr 13)], [(13, .arr 3 1 z5)]⟩) := by kernel_rfl
theorem ref17_Without_vfn {R : Type} (n : Nat) (a0 : List (List D)) (a1 : Int) (K : AV → Option R) : vfn (ref17_Without_C n) n Try.f27 [.d (D.sl 1 a0), .d (D.int .i64 a1)] [] (retF [[1]] K) = ref17_Without n a0 a1 (fun r0 => K (.d (D.sl 1 r0))) :=
  (show vfn (ref17_Without_C n) n Try.f27 [.d (D.sl 1 a0), .d (D.int .i64 a1)] [] (retF [[1]] K) = vexec (ref17_Without_C n) n ref17_Without_c0 ⟨14, [(0, .d (D.sl 1 a0)), (1, .d (D.int .i64 a1))], []⟩ (retX ref17_Without_tt [.tmp 4] (retF [[1]] K)) from vfn_at (by kernel_rfl) (by kernel_rfl) rfl (by kernel_rfl) rfl (by kernel_rfl) rfl).trans ((ref17_Without_p1_eq n a0 a1 (retX ref17_Without_tt [.tmp 4] (retF [[1]] K))).trans (by kernel_rfl))
def ref17_Without_K : AV → Option (List (List D)) := fun av => match av with
  | .d (D.sl 1 r0) => some r0
  | _ => none
def ref17_Without_e (n : Nat) : Entry := fun _ _ g avs _ k => match avs with
  | [c0, c1] => prS g 1 c0 fun a0 => prI g .i64 c1 fun a1 => 
    gb g (ref17_Without n a0 a1 some) [] fun r => k ⟨.d (D.sl 1 r), [], []⟩
  | _ => none
theorem ref17_Without_ok (n : Nat) : EntryOK Try.prog 27 (ref17_Without_e n) := by
  intro R site g avs hl k r h
  unfold ref17_Without_e at h
  split at h
  rotate_left
  · cases h
  replace h := prS_some h
  obtain ⟨a0, h, le0⟩ := h
  replace h := prI_some h
  obtain ⟨a1, h, le1⟩ := h
  replace h := gb_some h
  obtain ⟨res, h, hr⟩ := h
  refine ⟨_, h, fun hg => CallOK.conv (avs' := [.d (D.sl 1 a0), .d (D.int .i64 a1)]) (.cons (le0 hg) (.cons (le1 hg) (.nil))) (callOK_fix (K := ref17_Without_K) (res := res) (ref17_Without_VC n) (fn := Try.f27) (n := n) (by kernel_rfl) (by kernel_rfl) (by kernel_rfl) (ss := [[1]]) rfl ?_ ?_)⟩
  · exact (ref17_Without_vfn n a0 a1 ref17_Without_K).trans (hr hg)
  · intro x hx
    unfold ref17_Without_K at hx
    split at hx
    · injection hx with hx; subst hx; rfl
    · cases hx
def ref17_Without_Ko : AV → List (Nat × Ob) → Option (List (List D)) := fun av H => (look H 13).bind fun o0 => match av, o0 with
  | .arr p0, .arr p1 p2 r0 => bif Nat.beq p0 13 && (Nat.beq p1 3 && (Nat.beq p2 1)) then some r0 else none
  | _, _ => none
theorem ref17_Without_vfo (n : Nat) (a0 : List (List D)) (a1 : Int) : vfn (ref17_Without_C n) n Try.f27 [.d (D.sl 1 a0), .d (D.int .i64 a1)] [] ref17_Without_Ko = ref17_Without n a0 a1 some :=
  (show vfn (ref17_Without_C n) n Try.f27 [.d (D.sl 1 a0), .d (D.int .i64 a1)] [] ref17_Without_Ko = vexec (ref17_Without_C n) n ref17_Without_c0 ⟨14, [(0, .d (D.sl 1 a0)), (1, .d (D.int .i64 a1))], []⟩ (retX ref17_Without_tt [.tmp 4] ref17_Without_Ko) from vfn_at (by kernel_rfl) (by kernel_rfl) rfl (by kernel_rfl) rfl (by kernel_rfl) rfl).trans ((ref17_Without_p1_eq n a0 a1 (retX ref17_Without_tt [.tmp 4] ref17_Without_Ko)).trans (by kernel_rfl))
def ref17_Without_o (n : Nat) : Entry := fun _ site g avs hl k => match avs with
  | [c0, c1] => prS g 1 c0 fun a0 => prI g .i64 c1 fun a1 => 
    bif newsOk hl [] [(13, (site + 100000))] then gb g (ref17_Without n a0 a1 some) [] fun r => k ⟨.arr (site + 100000), [((site + 100000), some (.arr 3 1 r))], []⟩ else none
  | _ => none
theorem ref17_Without_oo (n : Nat) : EntryOK Try.prog 27 (ref17_Without_o n) := by
  intro R site g avs hl k r h
  unfold ref17_Without_o at h
  split at h
  rotate_left
  · cases h
  replace h := prS_some h
  obtain ⟨a0, h, le0⟩ := h
  replace h := prI_some h
  obtain ⟨a1, h, le1⟩ := h
  replace h := bif_some h
  obtain ⟨hc, h⟩ := h
  replace h := gb_some h
  obtain ⟨res, h, hr⟩ := h
  refine ⟨_, h, fun hg => CallOK.conv (avs' := [.d (D.sl 1 a0), .d (D.int .i64 a1)]) (.cons (le0 hg) (.cons (le1 hg) (.nil))) (callOK_own (K := ref17_Without_Ko) (res := res) (ref17_Without_VC n) (fn := Try.f27) (n := n) (by kernel_rfl) (by kernel_rfl) (by kernel_rfl) (ρ := []) (ν := [(13, (site + 100000))]) (avs' := [.d (D.sl 1 a0), .d (D.int .i64 a1)]) (H := []) rfl rfl rfl rfl hc (trivial) rfl rfl ?_ ?_)⟩
  · exact (ref17_Without_vfo n a0 a1).trans (hr hg)
  · intro av H' hx
    unfold ref17_Without_Ko at hx
    replace hx := Option.bind_eq_some_iff.1 hx
    obtain ⟨o0, ho0, hx⟩ := hx
    split at hx
    rotate_left
    · cases hx
    replace hx := bif_some hx
    obtain ⟨hck, hx⟩ := hx
    simp only [Bool.and_eq_true] at hck
    obtain ⟨ek0, ek1, ek2⟩ := hck
    have ek0 := Nat.eq_of_beq_eq_true ek0
    subst ek0
    have ek1 := Nat.eq_of_beq_eq_true ek1
    subst ek1
    have ek2 := Nat.eq_of_beq_eq_true ek2
    subst ek2
    injection hx with hx
    subst hx
    refine ⟨rfl, ?_, ⟨by rw [ho0]; rfl, trivial⟩, trivial⟩
    simp only [List.cons_append, List.nil_append, outWr, ho0, Option.map_some]
    rfl
end Go.Vx
/-
  law20_PlatformExplains: the interpreter computes the pure function
-/
set_option linter.unusedVariables false
set_option linter.unusedSimpArgs false
set_option maxRecDepth 100000
namespace Go.Vx
open Go.Proofs
noncomputable def law20_PlatformExplains_c0 : Code := bodyOf Try.f8
def law20_PlatformExplains_tt : TT := [(3, ⟨.int .i64, 1, 8, [.int .i64 0], [.int .i64 0], [], none⟩), (22, ⟨.sl 3 1, 1, 24, [.slice none 0 0], [.sl 1 []], [], none⟩), (24, ⟨.sl 28 3, 1, 24, [.slice none 0 0], [.sl 3 []], [], none⟩), (31, ⟨.int .i64, 1, 8, [.int .i64 0], [.int .i64 0], [], none⟩)]
theorem law20_PlatformExplains_tt_eq : mkTT Try.prog [3, 22, 24, 31] = law20_PlatformExplains_tt := by kernel_rfl
def law20_PlatformExplains_cfg : List (Nat × Cfg) := [(0, ⟨[0, 1, 2], [], [], [], []⟩), (1, ⟨[0, 1, 2], [], [], [], []⟩), (2, ⟨[0, 2, 7], [], [], [], []⟩), (3, ⟨[0, 2, 7, 8, 10], [], [], [], []⟩), (4, ⟨[0, 2, 7, 8, 10, 13], [], [], [], []⟩), (5, ⟨[0, 2, 7, 8, 10, 13, 41], [], [], [], []⟩), (6, ⟨[6], [], [], [], []⟩), (7, ⟨[0, 2, 7, 8, 65], [], [], [], []⟩), (8, ⟨[6], [], [], [], []⟩), (9, ⟨[0, 2, 7, 8, 16], [], [], [], []⟩), (10, ⟨[16, 19], [], [], [], []⟩), (11, ⟨[6], [], [], [], []⟩)]
def law20_PlatformExplains_C (n : Nat) : VC := ⟨specOf [(10, keep_Pick_e n), (11, law20_visits_e n), (23, platform_Explain_e n), (24, ref19_Assign_e n), (12, law20_awake_e n), (25, ref17_Ascending_e n), (26, law20_pick_e n), (27, ref17_Without_e n)], law20_PlatformExplains_tt, law20_PlatformExplains_cfg⟩
theorem law20_PlatformExplains_ents (n : Nat) : EntsOK Try.prog [(10, keep_Pick_e n), (11, law20_visits_e n), (23, platform_Explain_e n), (24, ref19_Assign_e n), (12, law20_awake_e n), (25, ref17_Ascending_e n), (26, law20_pick_e n), (27, ref17_Without_e n)] := ⟨keep_Pick_ok n, ⟨law20_visits_ok n, ⟨platform_Explain_ok n, ⟨ref19_Assign_ok n, ⟨law20_awake_ok n, ⟨ref17_Ascending_ok n, ⟨law20_pick_ok n, ⟨ref17_Without_ok n, trivial⟩⟩⟩⟩⟩⟩⟩⟩
theorem law20_PlatformExplains_VC (n : Nat) : VCOk Try.prog (law20_PlatformExplains_C n) := ⟨specOf_ok (law20_PlatformExplains_ents n), (law20_PlatformExplains_tt_eq ▸ mkTT_ok _ : TOk Try.prog law20_PlatformExplains_tt), by kernel_rfl⟩
theorem law20_PlatformExplains_p1_congr {R : Type} (n : Nat) (a0 : Int) (a1 : List (List D)) (a2 : Int) {k0 kk0 : Bool → Option R} (hq0 : ∀ x0, k0 x0 = kk0 x0) : law20_PlatformExplains_p1 n a0 a1 a2 k0 = law20_PlatformExplains_p1 n a0 a1 a2 kk0 := by
  obtain rfl : k0 = kk0 := funext fun x0 => hq0 x0
  rfl
theorem law20_PlatformExplains_p1_eq {R : Type} (n : Nat) (a0 : Int) (a1 : List (List D)) (a2 : Int) (k : Exit → St → Option R) : vexec (law20_PlatformExplains_C n) n law20_PlatformExplains_c0 ⟨98, [(0, .d (D.int .i64 a0)), (1, .d (D.sl 1 a1)), (2, .d (D.int .i64 a2))], []⟩ k = law20_PlatformExplains_p1 n a0 a1 a2 (fun z14 => k .ret ⟨98, [(6, .d (D.bool z14))], []⟩) := by kernel_rfl
theorem law20_PlatformExplains_vfn {R : Type} (n : Nat) (a0 : Int) (a1 : List (List D)) (a2 : Int) (K : AV → Option R) : vfn (law20_PlatformExplains_C n) n Try.f8 [.d (D.int .i64 a0), .d (D.sl 1 a1), .d (D.int .i64 a2)] [] (retF [[0]] K) = law20_PlatformExplains n a0 a1 a2 (fun r0 => K (.d (D.bool r0))) :=
  (show vfn (law20_PlatformExplains_C n) n Try.f8 [.d (D.int .i64 a0), .d (D.sl 1 a1), .d (D.int .i64 a2)] [] (retF [[0]] K) = vexec (law20_PlatformExplains_C n) n law20_PlatformExplains_c0 ⟨98, [(0, .d (D.int .i64 a0)), (1, .d (D.sl 1 a1)), (2, .d (D.int .i64 a2))], []⟩ (retX law20_PlatformExplains_tt [.tmp 6] (retF [[0]] K)) from vfn_at (by kernel_rfl) (by kernel_rfl) rfl (by kernel_rfl) rfl (by kernel_rfl) rfl).trans ((law20_PlatformExplains_p1_eq n a0 a1 a2 (retX law20_PlatformExplains_tt [.tmp 6] (retF [[0]] K))).trans (by kernel_rfl))
def law20_PlatformExplains_K : AV → Option (Bool) := fun av => match av with
  | .d (D.bool r0) => some r0
  | _ => none
def law20_PlatformExplains_e (n : Nat) : Entry := fun _ _ g avs _ k => match avs with
  | [c0, c1, c2] => prI g .i64 c0 fun a0 => prS g 1 c1 fun a1 => prI g .i64 c2 fun a2 => 
    gb g (law20_PlatformExplains n a0 a1 a2 some) false fun r => k ⟨.d (D.bool r), [], []⟩
  | _ => none
theorem law20_PlatformExplains_ok (n : Nat) : EntryOK Try.prog 8 (law20_PlatformExplains_e n) := by
  intro R site g avs hl k r h
  unfold law20_PlatformExplains_e at h
  split at h
  rotate_left
  · cases h
  replace h := prI_some h
  obtain ⟨a0, h, le0⟩ := h
  replace h := prS_some h
  obtain ⟨a1, h, le1⟩ := h
  replace h := prI_some h
  obtain ⟨a2, h, le2⟩ := h
  replace h := gb_some h
  obtain ⟨res, h, hr⟩ := h
  refine ⟨_, h, fun hg => CallOK.conv (avs' := [.d (D.int .i64 a0), .d (D.sl 1 a1), .d (D.int .i64 a2)]) (.cons (le0 hg) (.cons (le1 hg) (.cons (le2 hg) (.nil)))) (callOK_fix (K := law20_PlatformExplains_K) (res := res) (law20_PlatformExplains_VC n) (fn := Try.f8) (n := n) (by kernel_rfl) (by kernel_rfl) (by kernel_rfl) (ss := [[0]]) rfl ?_ ?_)⟩
  · exact (law20_PlatformExplains_vfn n a0 a1 a2 law20_PlatformExplains_K).trans (hr hg)
  · intro x hx
    unfold law20_PlatformExplains_K at hx
    split at hx
    · injection hx with hx; subst hx; rfl
    · cases hx
end Go.Vx
