/- Part of a proof: texts Vplaw11 agrees Vplaw11 NetworkRaw. No conditions of their own. -/
import Derived.Test.YtpaalnanfaipjaaProg
import Derived.Test.YtpaalnanfaipjaaRVB
import Derived.Test.YtpaalnanfaipjaaRFA
import Derived.Test.YtpaalnanfaipjaaRPA
/-
  law11_agrees: the interpreter computes the pure function
-/
set_option linter.unusedVariables false
set_option linter.unusedSimpArgs false
set_option maxRecDepth 100000
namespace Go.Vx
open Go.Proofs
noncomputable def law11_agrees_c0 : Code := bodyOf Try.f21
def law11_agrees_tt : TT := [(3, ⟨.int .i64, 1, 8, [.int .i64 0], [.int .i64 0], [], none⟩), (4, ⟨.bool, 1, 1, [.bool false], [.bool false], [], none⟩), (26, ⟨.struct, 3, 56, [.int .i64 0, .slice none 0 0, .slice none 0 0], [.int .i64 0, .sl 3 [], .sl 6 []], [(0, 3), (1, 23), (2, 24)], none⟩), (39, ⟨.int .i64, 1, 8, [.int .i64 0], [.int .i64 0], [], none⟩), (46, ⟨.struct, 3, 24, [.int .i64 0, .int .i64 0, .int .i64 0], [.int .i64 0, .int .i64 0, .int .i64 0], [(0, 3), (1, 3), (2, 3)], some [.int .i64, .int .i64, .int .i64]⟩)]
theorem law11_agrees_tt_eq : mkTT Try.prog [3, 4, 26, 39, 46] = law11_agrees_tt := by kernel_rfl
def law11_agrees_cfg : List (Nat × Cfg) := [(0, ⟨[1, 2, 4, 7], [(4, 4), (7, 7)], [], [], []⟩), (1, ⟨[1, 2, 4, 7, 9, 10], [(4, 4), (7, 7)], [], [], []⟩), (2, ⟨[1, 2, 4, 7, 9, 10, 11, 12], [(4, 4), (7, 7)], [], [], []⟩), (3, ⟨[1, 2, 4, 7, 9, 10, 11, 12, 13, 14], [(4, 4), (7, 7)], [], [], []⟩), (4, ⟨[1, 2, 4, 7, 9, 10, 11, 12, 13, 14, 15, 16], [(4, 4), (7, 7)], [], [], []⟩), (5, ⟨[8], [], [], [], []⟩)]
def law11_agrees_C (n : Nat) : VC := ⟨specOf [(24, network_First_e n), (30, ref11_First_e n), (18, network_Cost_e n), (31, ref11_Cost_e n), (12, network_Check_e n), (13, ref11_Check_e n), (27, network_Good_e n), (32, ref11_Good_e n), (15, network_Duration_e n), (33, ref11_Duration_e n), (17, network_Feasible_e n), (34, ref11_Feasible_e n), (20, network_Index_e n), (35, ref11_Index_e n)], law11_agrees_tt, law11_agrees_cfg⟩
theorem law11_agrees_ents (n : Nat) : EntsOK Try.prog [(24, network_First_e n), (30, ref11_First_e n), (18, network_Cost_e n), (31, ref11_Cost_e n), (12, network_Check_e n), (13, ref11_Check_e n), (27, network_Good_e n), (32, ref11_Good_e n), (15, network_Duration_e n), (33, ref11_Duration_e n), (17, network_Feasible_e n), (34, ref11_Feasible_e n), (20, network_Index_e n), (35, ref11_Index_e n)] := ⟨network_First_ok n, ⟨ref11_First_ok n, ⟨network_Cost_ok n, ⟨ref11_Cost_ok n, ⟨network_Check_ok n, ⟨ref11_Check_ok n, ⟨network_Good_ok n, ⟨ref11_Good_ok n, ⟨network_Duration_ok n, ⟨ref11_Duration_ok n, ⟨network_Feasible_ok n, ⟨ref11_Feasible_ok n, ⟨network_Index_ok n, ⟨ref11_Index_ok n, trivial⟩⟩⟩⟩⟩⟩⟩⟩⟩⟩⟩⟩⟩⟩
theorem law11_agrees_VC (n : Nat) : VCOk Try.prog (law11_agrees_C n) := ⟨specOf_ok (law11_agrees_ents n), (law11_agrees_tt_eq ▸ mkTT_ok _ : TOk Try.prog law11_agrees_tt), by kernel_rfl⟩
theorem law11_agrees_p1_congr {R : Type} (n : Nat) (a0_0 : Int) (a0_1 : List (List D)) (a0_2 : List (List D)) (a1 : List (List D)) (a2 : Int) (a3_0 : Int) (a3_1 : Int) (a3_2 : Int) {k0 kk0 : Bool → Option R} (hq0 : ∀ x0, k0 x0 = kk0 x0) : law11_agrees_p1 n a0_0 a0_1 a0_2 a1 a2 a3_0 a3_1 a3_2 k0 = law11_agrees_p1 n a0_0 a0_1 a0_2 a1 a2 a3_0 a3_1 a3_2 kk0 := by
  obtain rfl : k0 = kk0 := funext fun x0 => hq0 x0
  rfl
theorem law11_agrees_p1_eq {R : Type} (n : Nat) (a0_0 : Int) (a0_1 : List (List D)) (a0_2 : List (List D)) (a1 : List (List D)) (a2 : Int) (a3_0 : Int) (a3_1 : Int) (a3_2 : Int) (k : Exit → St → Option R) : vexec (law11_agrees_C n) n law11_agrees_c0 ⟨104, [(0, .ag [.d (D.int .i64 a0_0), .d (D.sl 3 a0_1), .d (D.sl 6 a0_2)]), (1, .d (D.sl 1 a1)), (2, .d (D.int .i64 a2)), (3, .ag [.d (D.int .i64 a3_0), .d (D.int .i64 a3_1), .d (D.int .i64 a3_2)])], []⟩ k = law11_agrees_p1 n a0_0 a0_1 a0_2 a1 a2 a3_0 a3_1 a3_2 (fun z15 => k .ret ⟨104, [(8, .d (D.bool z15))], []⟩) := by kernel_rfl
theorem law11_agrees_vfn {R : Type} (n : Nat) (a0_0 : Int) (a0_1 : List (List D)) (a0_2 : List (List D)) (a1 : List (List D)) (a2 : Int) (a3_0 : Int) (a3_1 : Int) (a3_2 : Int) (K : AV → Option R) : vfn (law11_agrees_C n) n Try.f21 [.ag [.d (D.int .i64 a0_0), .d (D.sl 3 a0_1), .d (D.sl 6 a0_2)], .d (D.sl 1 a1), .d (D.int .i64 a2), .ag [.d (D.int .i64 a3_0), .d (D.int .i64 a3_1), .d (D.int .i64 a3_2)]] [] (retF [[0]] K) = law11_agrees n a0_0 a0_1 a0_2 a1 a2 a3_0 a3_1 a3_2 (fun r0 => K (.d (D.bool r0))) :=
  (show vfn (law11_agrees_C n) n Try.f21 [.ag [.d (D.int .i64 a0_0), .d (D.sl 3 a0_1), .d (D.sl 6 a0_2)], .d (D.sl 1 a1), .d (D.int .i64 a2), .ag [.d (D.int .i64 a3_0), .d (D.int .i64 a3_1), .d (D.int .i64 a3_2)]] [] (retF [[0]] K) = vexec (law11_agrees_C n) n law11_agrees_c0 ⟨104, [(0, .ag [.d (D.int .i64 a0_0), .d (D.sl 3 a0_1), .d (D.sl 6 a0_2)]), (1, .d (D.sl 1 a1)), (2, .d (D.int .i64 a2)), (3, .ag [.d (D.int .i64 a3_0), .d (D.int .i64 a3_1), .d (D.int .i64 a3_2)])], []⟩ (retX law11_agrees_tt [.tmp 8] (retF [[0]] K)) from vfn_at (by kernel_rfl) (by kernel_rfl) rfl (by kernel_rfl) rfl (by kernel_rfl) rfl).trans ((law11_agrees_p1_eq n a0_0 a0_1 a0_2 a1 a2 a3_0 a3_1 a3_2 (retX law11_agrees_tt [.tmp 8] (retF [[0]] K))).trans (by kernel_rfl))
def law11_agrees_K : AV → Option (Bool) := fun av => match av with
  | .d (D.bool r0) => some r0
  | _ => none
def law11_agrees_e (n : Nat) : Entry := fun _ _ g avs _ k => match avs with
  | [c0, c1, c2, c3] => 
    prG c0 fun l0 => (match l0 with
    | [c0_0, c0_1, c0_2] => prI g .i64 c0_0 fun a0_0 => prS g 3 c0_1 fun a0_1 => prS g 6 c0_2 fun a0_2 => prS g 1 c1 fun a1 => prI g .i64 c2 fun a2 => 
    prG c3 fun l3 => (match l3 with
    | [c3_0, c3_1, c3_2] => prI g .i64 c3_0 fun a3_0 => prI g .i64 c3_1 fun a3_1 => prI g .i64 c3_2 fun a3_2 => 
    gb g (law11_agrees n a0_0 a0_1 a0_2 a1 a2 a3_0 a3_1 a3_2 some) false fun r => k ⟨.d (D.bool r), [], []⟩
    | _ => none)
    | _ => none)
  | _ => none
theorem law11_agrees_ok (n : Nat) : EntryOK Try.prog 21 (law11_agrees_e n) := by
  intro R site g avs hl k r h
  unfold law11_agrees_e at h
  split at h
  rotate_left
  · cases h
  replace h := prG_some h
  obtain ⟨l0, h, e0⟩ := h
  subst e0
  split at h
  rotate_left
  · cases h
  replace h := prI_some h
  obtain ⟨a0_0, h, le0⟩ := h
  replace h := prS_some h
  obtain ⟨a0_1, h, le1⟩ := h
  replace h := prS_some h
  obtain ⟨a0_2, h, le2⟩ := h
  replace h := prS_some h
  obtain ⟨a1, h, le3⟩ := h
  replace h := prI_some h
  obtain ⟨a2, h, le4⟩ := h
  replace h := prG_some h
  obtain ⟨l3, h, e3⟩ := h
  subst e3
  split at h
  rotate_left
  · cases h
  replace h := prI_some h
  obtain ⟨a3_0, h, le5⟩ := h
  replace h := prI_some h
  obtain ⟨a3_1, h, le6⟩ := h
  replace h := prI_some h
  obtain ⟨a3_2, h, le7⟩ := h
  replace h := gb_some h
  obtain ⟨res, h, hr⟩ := h
  refine ⟨_, h, fun hg => CallOK.conv (avs' := [.ag [.d (D.int .i64 a0_0), .d (D.sl 3 a0_1), .d (D.sl 6 a0_2)], .d (D.sl 1 a1), .d (D.int .i64 a2), .ag [.d (D.int .i64 a3_0), .d (D.int .i64 a3_1), .d (D.int .i64 a3_2)]]) (.cons (.ag (.cons (le0 hg) (.cons (le1 hg) (.cons (le2 hg) (.nil))))) (.cons (le3 hg) (.cons (le4 hg) (.cons (.ag (.cons (le5 hg) (.cons (le6 hg) (.cons (le7 hg) (.nil))))) (.nil))))) (callOK_fix (K := law11_agrees_K) (res := res) (law11_agrees_VC n) (fn := Try.f21) (n := n) (by kernel_rfl) (by kernel_rfl) (by kernel_rfl) (ss := [[0]]) rfl ?_ ?_)⟩
  · exact (law11_agrees_vfn n a0_0 a0_1 a0_2 a1 a2 a3_0 a3_1 a3_2 law11_agrees_K).trans (hr hg)
  · intro x hx
    unfold law11_agrees_K at hx
    split at hx
    · injection hx with hx; subst hx; rfl
    · cases hx
end Go.Vx
/-
  law11_NetworkRaw: the interpreter computes the pure function
-/
set_option linter.unusedVariables false
set_option linter.unusedSimpArgs false
set_option maxRecDepth 100000
namespace Go.Vx
open Go.Proofs
noncomputable def law11_NetworkRaw_c0 : Code := bodyOf Try.f7
def law11_NetworkRaw_tt : TT := [(26, ⟨.struct, 3, 56, [.int .i64 0, .slice none 0 0, .slice none 0 0], [.int .i64 0, .sl 3 [], .sl 6 []], [(0, 3), (1, 23), (2, 24)], none⟩), (46, ⟨.struct, 3, 24, [.int .i64 0, .int .i64 0, .int .i64 0], [.int .i64 0, .int .i64 0, .int .i64 0], [(0, 3), (1, 3), (2, 3)], some [.int .i64, .int .i64, .int .i64]⟩)]
theorem law11_NetworkRaw_tt_eq : mkTT Try.prog [26, 46] = law11_NetworkRaw_tt := by kernel_rfl
def law11_NetworkRaw_cfg : List (Nat × Cfg) := [(0, ⟨[1, 2, 4, 7], [(4, 4), (7, 7)], [], [], []⟩), (1, ⟨[8], [], [], [], []⟩)]
def law11_NetworkRaw_C (n : Nat) : VC := ⟨specOf [(10, law11_awake_e n), (21, law11_agrees_e n), (19, law11_small_e n)], law11_NetworkRaw_tt, law11_NetworkRaw_cfg⟩
theorem law11_NetworkRaw_ents (n : Nat) : EntsOK Try.prog [(10, law11_awake_e n), (21, law11_agrees_e n), (19, law11_small_e n)] := ⟨law11_awake_ok n, ⟨law11_agrees_ok n, ⟨law11_small_ok n, trivial⟩⟩⟩
theorem law11_NetworkRaw_VC (n : Nat) : VCOk Try.prog (law11_NetworkRaw_C n) := ⟨specOf_ok (law11_NetworkRaw_ents n), (law11_NetworkRaw_tt_eq ▸ mkTT_ok _ : TOk Try.prog law11_NetworkRaw_tt), by kernel_rfl⟩
theorem law11_NetworkRaw_p1_congr {R : Type} (n : Nat) (a0_0 : Int) (a0_1 : List (List D)) (a0_2 : List (List D)) (a1 : List (List D)) (a2 : Int) (a3_0 : Int) (a3_1 : Int) (a3_2 : Int) {k0 kk0 : Bool → Option R} (hq0 : ∀ x0, k0 x0 = kk0 x0) : law11_NetworkRaw_p1 n a0_0 a0_1 a0_2 a1 a2 a3_0 a3_1 a3_2 k0 = law11_NetworkRaw_p1 n a0_0 a0_1 a0_2 a1 a2 a3_0 a3_1 a3_2 kk0 := by
  obtain rfl : k0 = kk0 := funext fun x0 => hq0 x0
  rfl
theorem law11_NetworkRaw_p1_eq {R : Type} (n : Nat) (a0_0 : Int) (a0_1 : List (List D)) (a0_2 : List (List D)) (a1 : List (List D)) (a2 : Int) (a3_0 : Int) (a3_1 : Int) (a3_2 : Int) (k : Exit → St → Option R) : vexec (law11_NetworkRaw_C n) n law11_NetworkRaw_c0 ⟨24, [(0, .ag [.d (D.int .i64 a0_0), .d (D.sl 3 a0_1), .d (D.sl 6 a0_2)]), (1, .d (D.sl 1 a1)), (2, .d (D.int .i64 a2)), (3, .ag [.d (D.int .i64 a3_0), .d (D.int .i64 a3_1), .d (D.int .i64 a3_2)])], []⟩ k = law11_NetworkRaw_p1 n a0_0 a0_1 a0_2 a1 a2 a3_0 a3_1 a3_2 (fun z5 => k .ret ⟨24, [(8, .d (D.bool z5))], []⟩) := by kernel_rfl
theorem law11_NetworkRaw_vfn {R : Type} (n : Nat) (a0_0 : Int) (a0_1 : List (List D)) (a0_2 : List (List D)) (a1 : List (List D)) (a2 : Int) (a3_0 : Int) (a3_1 : Int) (a3_2 : Int) (K : AV → Option R) : vfn (law11_NetworkRaw_C n) n Try.f7 [.ag [.d (D.int .i64 a0_0), .d (D.sl 3 a0_1), .d (D.sl 6 a0_2)], .d (D.sl 1 a1), .d (D.int .i64 a2), .ag [.d (D.int .i64 a3_0), .d (D.int .i64 a3_1), .d (D.int .i64 a3_2)]] [] (retF [[0]] K) = law11_NetworkRaw n a0_0 a0_1 a0_2 a1 a2 a3_0 a3_1 a3_2 (fun r0 => K (.d (D.bool r0))) :=
  (show vfn (law11_NetworkRaw_C n) n Try.f7 [.ag [.d (D.int .i64 a0_0), .d (D.sl 3 a0_1), .d (D.sl 6 a0_2)], .d (D.sl 1 a1), .d (D.int .i64 a2), .ag [.d (D.int .i64 a3_0), .d (D.int .i64 a3_1), .d (D.int .i64 a3_2)]] [] (retF [[0]] K) = vexec (law11_NetworkRaw_C n) n law11_NetworkRaw_c0 ⟨24, [(0, .ag [.d (D.int .i64 a0_0), .d (D.sl 3 a0_1), .d (D.sl 6 a0_2)]), (1, .d (D.sl 1 a1)), (2, .d (D.int .i64 a2)), (3, .ag [.d (D.int .i64 a3_0), .d (D.int .i64 a3_1), .d (D.int .i64 a3_2)])], []⟩ (retX law11_NetworkRaw_tt [.tmp 8] (retF [[0]] K)) from vfn_at (by kernel_rfl) (by kernel_rfl) rfl (by kernel_rfl) rfl (by kernel_rfl) rfl).trans ((law11_NetworkRaw_p1_eq n a0_0 a0_1 a0_2 a1 a2 a3_0 a3_1 a3_2 (retX law11_NetworkRaw_tt [.tmp 8] (retF [[0]] K))).trans (by kernel_rfl))
def law11_NetworkRaw_K : AV → Option (Bool) := fun av => match av with
  | .d (D.bool r0) => some r0
  | _ => none
def law11_NetworkRaw_e (n : Nat) : Entry := fun _ _ g avs _ k => match avs with
  | [c0, c1, c2, c3] => 
    prG c0 fun l0 => (match l0 with
    | [c0_0, c0_1, c0_2] => prI g .i64 c0_0 fun a0_0 => prS g 3 c0_1 fun a0_1 => prS g 6 c0_2 fun a0_2 => prS g 1 c1 fun a1 => prI g .i64 c2 fun a2 => 
    prG c3 fun l3 => (match l3 with
    | [c3_0, c3_1, c3_2] => prI g .i64 c3_0 fun a3_0 => prI g .i64 c3_1 fun a3_1 => prI g .i64 c3_2 fun a3_2 => 
    gb g (law11_NetworkRaw n a0_0 a0_1 a0_2 a1 a2 a3_0 a3_1 a3_2 some) false fun r => k ⟨.d (D.bool r), [], []⟩
    | _ => none)
    | _ => none)
  | _ => none
theorem law11_NetworkRaw_ok (n : Nat) : EntryOK Try.prog 7 (law11_NetworkRaw_e n) := by
  intro R site g avs hl k r h
  unfold law11_NetworkRaw_e at h
  split at h
  rotate_left
  · cases h
  replace h := prG_some h
  obtain ⟨l0, h, e0⟩ := h
  subst e0
  split at h
  rotate_left
  · cases h
  replace h := prI_some h
  obtain ⟨a0_0, h, le0⟩ := h
  replace h := prS_some h
  obtain ⟨a0_1, h, le1⟩ := h
  replace h := prS_some h
  obtain ⟨a0_2, h, le2⟩ := h
  replace h := prS_some h
  obtain ⟨a1, h, le3⟩ := h
  replace h := prI_some h
  obtain ⟨a2, h, le4⟩ := h
  replace h := prG_some h
  obtain ⟨l3, h, e3⟩ := h
  subst e3
  split at h
  rotate_left
  · cases h
  replace h := prI_some h
  obtain ⟨a3_0, h, le5⟩ := h
  replace h := prI_some h
  obtain ⟨a3_1, h, le6⟩ := h
  replace h := prI_some h
  obtain ⟨a3_2, h, le7⟩ := h
  replace h := gb_some h
  obtain ⟨res, h, hr⟩ := h
  refine ⟨_, h, fun hg => CallOK.conv (avs' := [.ag [.d (D.int .i64 a0_0), .d (D.sl 3 a0_1), .d (D.sl 6 a0_2)], .d (D.sl 1 a1), .d (D.int .i64 a2), .ag [.d (D.int .i64 a3_0), .d (D.int .i64 a3_1), .d (D.int .i64 a3_2)]]) (.cons (.ag (.cons (le0 hg) (.cons (le1 hg) (.cons (le2 hg) (.nil))))) (.cons (le3 hg) (.cons (le4 hg) (.cons (.ag (.cons (le5 hg) (.cons (le6 hg) (.cons (le7 hg) (.nil))))) (.nil))))) (callOK_fix (K := law11_NetworkRaw_K) (res := res) (law11_NetworkRaw_VC n) (fn := Try.f7) (n := n) (by kernel_rfl) (by kernel_rfl) (by kernel_rfl) (ss := [[0]]) rfl ?_ ?_)⟩
  · exact (law11_NetworkRaw_vfn n a0_0 a0_1 a0_2 a1 a2 a3_0 a3_1 a3_2 law11_NetworkRaw_K).trans (hr hg)
  · intro x hx
    unfold law11_NetworkRaw_K at hx
    split at hx
    · injection hx with hx; subst hx; rfl
    · cases hx
end Go.Vx
