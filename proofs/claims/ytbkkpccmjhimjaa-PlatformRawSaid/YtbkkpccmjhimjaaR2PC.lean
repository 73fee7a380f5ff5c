/- Part of a proof: texts Vplaw20 PlatformRaw. No conditions of their own. -/
import Derived.Test.YtbkkpccmjhimjaaProg
import Derived.Test.YtbkkpccmjhimjaaR2VB
import Derived.Test.YtbkkpccmjhimjaaR2FA
import Derived.Test.YtbkkpccmjhimjaaR2PA
import Derived.Test.YtbkkpccmjhimjaaR2PB
/-
  law20_PlatformRaw: the interpreter computes the pure function
-/
set_option linter.unusedVariables false
set_option linter.unusedSimpArgs false
set_option maxRecDepth 100000
namespace Go.Vx
open Go.Proofs
noncomputable def law20_PlatformRaw_c0 : Code := bodyOf Try.f9
def law20_PlatformRaw_tt : TT := [(3, ⟨.int .i64, 1, 8, [.int .i64 0], [.int .i64 0], [], none⟩), (4, ⟨.bool, 1, 1, [.bool false], [.bool false], [], none⟩), (28, ⟨.struct, 3, 40, [.int .i64 0, .int .i64 0, .slice none 0 0], [.int .i64 0, .int .i64 0, .sl 1 []], [(0, 3), (1, 3), (2, 22)], none⟩)]
theorem law20_PlatformRaw_tt_eq : mkTT Try.prog [3, 4, 28] = law20_PlatformRaw_tt := by kernel_rfl
def law20_PlatformRaw_cfg : List (Nat × Cfg) := [(0, ⟨[0, 1, 4, 5, 8, 9], [(8, 8), (9, 9)], [], [], []⟩), (1, ⟨[12], [], [], [], []⟩)]
def law20_PlatformRaw_C (n : Nat) : VC := ⟨specOf [(12, law20_awake_e n), (14, platform_Overlap_e n), (28, ref19_Overlap_e n), (10, keep_Pick_e n), (22, law20_agrees_e n), (19, law20_two_e n)], law20_PlatformRaw_tt, law20_PlatformRaw_cfg⟩
theorem law20_PlatformRaw_ents (n : Nat) : EntsOK Try.prog [(12, law20_awake_e n), (14, platform_Overlap_e n), (28, ref19_Overlap_e n), (10, keep_Pick_e n), (22, law20_agrees_e n), (19, law20_two_e n)] := ⟨law20_awake_ok n, ⟨platform_Overlap_ok n, ⟨ref19_Overlap_ok n, ⟨keep_Pick_ok n, ⟨law20_agrees_ok n, ⟨law20_two_ok n, trivial⟩⟩⟩⟩⟩⟩
theorem law20_PlatformRaw_VC (n : Nat) : VCOk Try.prog (law20_PlatformRaw_C n) := ⟨specOf_ok (law20_PlatformRaw_ents n), (law20_PlatformRaw_tt_eq ▸ mkTT_ok _ : TOk Try.prog law20_PlatformRaw_tt), by kernel_rfl⟩
theorem law20_PlatformRaw_p1_congr {R : Type} (n : Nat) (a0 : Int) (a1 : List (List D)) (a2_0 : Int) (a2_1 : Int) (a2_2 : List (List D)) (a3_0 : Int) (a3_1 : Int) (a3_2 : List (List D)) (a4 : List (List D)) (a5 : Int) {k0 kk0 : Bool → Option R} (hq0 : ∀ x0, k0 x0 = kk0 x0) : law20_PlatformRaw_p1 n a0 a1 a2_0 a2_1 a2_2 a3_0 a3_1 a3_2 a4 a5 k0 = law20_PlatformRaw_p1 n a0 a1 a2_0 a2_1 a2_2 a3_0 a3_1 a3_2 a4 a5 kk0 := by
  obtain rfl : k0 = kk0 := funext fun x0 => hq0 x0
  rfl
theorem law20_PlatformRaw_p1_eq {R : Type} (n : Nat) (a0 : Int) (a1 : List (List D)) (a2_0 : Int) (a2_1 : Int) (a2_2 : List (List D)) (a3_0 : Int) (a3_1 : Int) (a3_2 : List (List D)) (a4 : List (List D)) (a5 : Int) (k : Exit → St → Option R) : vexec (law20_PlatformRaw_C n) n law20_PlatformRaw_c0 ⟨40, [(0, .d (D.int .i64 a0)), (1, .d (D.sl 3 a1)), (2, .ag [.d (D.int .i64 a2_0), .d (D.int .i64 a2_1), .d (D.sl 1 a2_2)]), (3, .ag [.d (D.int .i64 a3_0), .d (D.int .i64 a3_1), .d (D.sl 1 a3_2)]), (4, .d (D.sl 1 a4)), (5, .d (D.int .i64 a5))], []⟩ k = law20_PlatformRaw_p1 n a0 a1 a2_0 a2_1 a2_2 a3_0 a3_1 a3_2 a4 a5 (fun z8 => k .ret ⟨40, [(12, .d (D.bool z8))], []⟩) := by kernel_rfl
theorem law20_PlatformRaw_vfn {R : Type} (n : Nat) (a0 : Int) (a1 : List (List D)) (a2_0 : Int) (a2_1 : Int) (a2_2 : List (List D)) (a3_0 : Int) (a3_1 : Int) (a3_2 : List (List D)) (a4 : List (List D)) (a5 : Int) (K : AV → Option R) : vfn (law20_PlatformRaw_C n) n Try.f9 [.d (D.int .i64 a0), .d (D.sl 3 a1), .ag [.d (D.int .i64 a2_0), .d (D.int .i64 a2_1), .d (D.sl 1 a2_2)], .ag [.d (D.int .i64 a3_0), .d (D.int .i64 a3_1), .d (D.sl 1 a3_2)], .d (D.sl 1 a4), .d (D.int .i64 a5)] [] (retF [[0]] K) = law20_PlatformRaw n a0 a1 a2_0 a2_1 a2_2 a3_0 a3_1 a3_2 a4 a5 (fun r0 => K (.d (D.bool r0))) :=
  (show vfn (law20_PlatformRaw_C n) n Try.f9 [.d (D.int .i64 a0), .d (D.sl 3 a1), .ag [.d (D.int .i64 a2_0), .d (D.int .i64 a2_1), .d (D.sl 1 a2_2)], .ag [.d (D.int .i64 a3_0), .d (D.int .i64 a3_1), .d (D.sl 1 a3_2)], .d (D.sl 1 a4), .d (D.int .i64 a5)] [] (retF [[0]] K) = vexec (law20_PlatformRaw_C n) n law20_PlatformRaw_c0 ⟨40, [(0, .d (D.int .i64 a0)), (1, .d (D.sl 3 a1)), (2, .ag [.d (D.int .i64 a2_0), .d (D.int .i64 a2_1), .d (D.sl 1 a2_2)]), (3, .ag [.d (D.int .i64 a3_0), .d (D.int .i64 a3_1), .d (D.sl 1 a3_2)]), (4, .d (D.sl 1 a4)), (5, .d (D.int .i64 a5))], []⟩ (retX law20_PlatformRaw_tt [.tmp 12] (retF [[0]] K)) from vfn_at (by kernel_rfl) (by kernel_rfl) rfl (by kernel_rfl) rfl (by kernel_rfl) rfl).trans ((law20_PlatformRaw_p1_eq n a0 a1 a2_0 a2_1 a2_2 a3_0 a3_1 a3_2 a4 a5 (retX law20_PlatformRaw_tt [.tmp 12] (retF [[0]] K))).trans (by kernel_rfl))
def law20_PlatformRaw_K : AV → Option (Bool) := fun av => match av with
  | .d (D.bool r0) => some r0
  | _ => none
def law20_PlatformRaw_e (n : Nat) : Entry := fun _ _ g avs _ k => match avs with
  | [c0, c1, c2, c3, c4, c5] => prI g .i64 c0 fun a0 => prS g 3 c1 fun a1 => 
    prG c2 fun l2 => (match l2 with
    | [c2_0, c2_1, c2_2] => prI g .i64 c2_0 fun a2_0 => prI g .i64 c2_1 fun a2_1 => prS g 1 c2_2 fun a2_2 => 
    prG c3 fun l3 => (match l3 with
    | [c3_0, c3_1, c3_2] => prI g .i64 c3_0 fun a3_0 => prI g .i64 c3_1 fun a3_1 => prS g 1 c3_2 fun a3_2 => prS g 1 c4 fun a4 => prI g .i64 c5 fun a5 => 
    gb g (law20_PlatformRaw n a0 a1 a2_0 a2_1 a2_2 a3_0 a3_1 a3_2 a4 a5 some) false fun r => k ⟨.d (D.bool r), [], []⟩
    | _ => none)
    | _ => none)
  | _ => none
theorem law20_PlatformRaw_ok (n : Nat) : EntryOK Try.prog 9 (law20_PlatformRaw_e n) := by
  intro R site g avs hl k r h
  unfold law20_PlatformRaw_e at h
  split at h
  rotate_left
  · cases h
  replace h := prI_some h
  obtain ⟨a0, h, le0⟩ := h
  replace h := prS_some h
  obtain ⟨a1, h, le1⟩ := h
  replace h := prG_some h
  obtain ⟨l2, h, e2⟩ := h
  subst e2
  split at h
  rotate_left
  · cases h
  replace h := prI_some h
  obtain ⟨a2_0, h, le2⟩ := h
  replace h := prI_some h
  obtain ⟨a2_1, h, le3⟩ := h
  replace h := prS_some h
  obtain ⟨a2_2, h, le4⟩ := h
  replace h := prG_some h
  obtain ⟨l3, h, e3⟩ := h
  subst e3
  split at h
  rotate_left
  · cases h
  replace h := prI_some h
  obtain ⟨a3_0, h, le5⟩ := h
  replace h := prI_some h
  obtain ⟨a3_1, h, le6⟩ := h
  replace h := prS_some h
  obtain ⟨a3_2, h, le7⟩ := h
  replace h := prS_some h
  obtain ⟨a4, h, le8⟩ := h
  replace h := prI_some h
  obtain ⟨a5, h, le9⟩ := h
  replace h := gb_some h
  obtain ⟨res, h, hr⟩ := h
  refine ⟨_, h, fun hg => CallOK.conv (avs' := [.d (D.int .i64 a0), .d (D.sl 3 a1), .ag [.d (D.int .i64 a2_0), .d (D.int .i64 a2_1), .d (D.sl 1 a2_2)], .ag [.d (D.int .i64 a3_0), .d (D.int .i64 a3_1), .d (D.sl 1 a3_2)], .d (D.sl 1 a4), .d (D.int .i64 a5)]) (.cons (le0 hg) (.cons (le1 hg) (.cons (.ag (.cons (le2 hg) (.cons (le3 hg) (.cons (le4 hg) (.nil))))) (.cons (.ag (.cons (le5 hg) (.cons (le6 hg) (.cons (le7 hg) (.nil))))) (.cons (le8 hg) (.cons (le9 hg) (.nil))))))) (callOK_fix (K := law20_PlatformRaw_K) (res := res) (law20_PlatformRaw_VC n) (fn := Try.f9) (n := n) (by kernel_rfl) (by kernel_rfl) (by kernel_rfl) (ss := [[0]]) rfl ?_ ?_)⟩
  · exact (law20_PlatformRaw_vfn n a0 a1 a2_0 a2_1 a2_2 a3_0 a3_1 a3_2 a4 a5 law20_PlatformRaw_K).trans (hr hg)
  · intro x hx
    unfold law20_PlatformRaw_K at hx
    split at hx
    · injection hx with hx; subst hx; rfl
    · cases hx
end Go.Vx
