/- Part of a proof: texts Vplaw11 small Vpnetwork isEvent Vpnetwork Check Vpnetwork Good Vparith Mod Vpnetwork duration Vpnetwork First Vplaw11 awake Vpref11 in Vpref11 Check Vpref11 Good Vpref1 Mod Vpref11. No conditions of their own. -/
import Derived.Test.YtpaalnanfaipjaaProg
import Derived.Test.YtpaalnanfaipjaaRVB
import Derived.Test.YtpaalnanfaipjaaRFA
/-
  law11_small: the interpreter computes the pure function
-/
set_option linter.unusedVariables false
set_option linter.unusedSimpArgs false
set_option maxRecDepth 100000
namespace Go.Vx
open Go.Proofs
noncomputable def law11_small_c0 : Code := bodyOf Try.f19
def law11_small_tt : TT := [(3, ⟨.int .i64, 1, 8, [.int .i64 0], [.int .i64 0], [], none⟩), (23, ⟨.sl 46 3, 1, 24, [.slice none 0 0], [.sl 3 []], [], none⟩), (24, ⟨.sl 31 6, 1, 24, [.slice none 0 0], [.sl 6 []], [], none⟩), (26, ⟨.struct, 3, 56, [.int .i64 0, .slice none 0 0, .slice none 0 0], [.int .i64 0, .sl 3 [], .sl 6 []], [(0, 3), (1, 23), (2, 24)], none⟩), (31, ⟨.struct, 6, 48, [.int .i64 0, .int .i64 0, .int .i64 0, .int .i64 0, .int .i64 0, .int .i64 0], [.int .i64 0, .int .i64 0, .int .i64 0, .int .i64 0, .int .i64 0, .int .i64 0], [(0, 3), (1, 3), (2, 3), (3, 3), (4, 3), (5, 3)], some [.int .i64, .int .i64, .int .i64, .int .i64, .int .i64, .int .i64]⟩), (46, ⟨.struct, 3, 24, [.int .i64 0, .int .i64 0, .int .i64 0], [.int .i64 0, .int .i64 0, .int .i64 0], [(0, 3), (1, 3), (2, 3)], some [.int .i64, .int .i64, .int .i64]⟩)]
theorem law11_small_tt_eq : mkTT Try.prog [3, 23, 24, 26, 31, 46] = law11_small_tt := by kernel_rfl
def law11_small_cfg : List (Nat × Cfg) := [(0, ⟨[0], [(0, 0)], [], [], []⟩), (1, ⟨[0], [(0, 0), (3, 3), (5, 5)], [], [], []⟩)]
def law11_small_C (n : Nat) : VC := ⟨specOf [], law11_small_tt, law11_small_cfg⟩
theorem law11_small_ents (n : Nat) : EntsOK Try.prog [] := trivial
theorem law11_small_VC (n : Nat) : VCOk Try.prog (law11_small_C n) := ⟨specOf_ok (law11_small_ents n), (law11_small_tt_eq ▸ mkTT_ok _ : TOk Try.prog law11_small_tt), by kernel_rfl⟩
theorem law11_small_p1_congr {R : Type} (n : Nat)  {k0 kk0 : (List (List D)) → (List (List D)) → Option R} (hq0 : ∀ x0 x1, k0 x0 x1 = kk0 x0 x1) : law11_small_p1 n  k0 = law11_small_p1 n  kk0 := by
  obtain rfl : k0 = kk0 := funext fun x0 => funext fun x1 => hq0 x0 x1
  rfl
theorem law11_small_p1_eq {R : Type} (n : Nat)  (k : Exit → St → Option R) : vexec (law11_small_C n) n law11_small_c0 ⟨7, [], []⟩ k = law11_small_p1 n  (fun z1 z2 => k .ret ⟨7, [(0, .ptr 0 0)], [(0, .box [.d (D.int .i64 (10 : Int)), .arr 3, .arr 5]), (3, .arr 46 3 z1), (5, .arr 31 6 z2)]⟩) := by kernel_rfl
theorem law11_small_vfn {R : Type} (n : Nat)  (K : AV → Option R) : vfn (law11_small_C n) n Try.f19 [] [] (retF [[0, 3, 6]] K) = law11_small n  (fun r0 r1 r2 => K (.ag [.d (D.int .i64 r0), .d (D.sl 3 r1), .d (D.sl 6 r2)])) :=
  (show vfn (law11_small_C n) n Try.f19 [] [] (retF [[0, 3, 6]] K) = vexec (law11_small_C n) n law11_small_c0 ⟨7, [], []⟩ (retX law11_small_tt [.cell 0 26] (retF [[0, 3, 6]] K)) from vfn_at (by kernel_rfl) (by kernel_rfl) rfl (by kernel_rfl) rfl (by kernel_rfl) rfl).trans ((law11_small_p1_eq n  (retX law11_small_tt [.cell 0 26] (retF [[0, 3, 6]] K))).trans (by kernel_rfl))
def law11_small_K : AV → Option (Int × (List (List D)) × (List (List D))) := fun av => match av with
  | .ag [.d (D.int .i64 r0), .d (D.sl 3 r1), .d (D.sl 6 r2)] => some (r0, r1, r2)
  | _ => none
def law11_small_e (n : Nat) : Entry := fun _ _ g avs _ k => match avs with
  | [] => 
    gb g (law11_small n  (fun r0 r1 r2 => some (r0, r1, r2))) (0, [], []) fun r => k ⟨.ag [.d (D.int .i64 r.1), .d (D.sl 3 r.2.1), .d (D.sl 6 r.2.2)], [], []⟩
  | _ => none
theorem law11_small_ok (n : Nat) : EntryOK Try.prog 19 (law11_small_e n) := by
  intro R site g avs hl k r h
  unfold law11_small_e at h
  split at h
  rotate_left
  · cases h
  replace h := gb_some h
  obtain ⟨res, h, hr⟩ := h
  refine ⟨_, h, fun hg => CallOK.conv (avs' := []) (.nil) (callOK_fix (K := law11_small_K) (res := res) (law11_small_VC n) (fn := Try.f19) (n := n) (by kernel_rfl) (by kernel_rfl) (by kernel_rfl) (ss := [[0, 3, 6]]) rfl ?_ ?_)⟩
  · exact (law11_small_vfn n  law11_small_K).trans (hr hg)
  · intro x hx
    unfold law11_small_K at hx
    split at hx
    · injection hx with hx; subst hx; rfl
    · cases hx
def law11_small_Ko : AV → List (Nat × Ob) → Option (Int × (List (List D)) × (List (List D))) := fun av H => (look H 3).bind fun o0 => (look H 5).bind fun o1 => match av, o0, o1 with
  | .ag [.d (D.int .i64 r0), .arr p0, .arr p1], .arr p2 p3 r1, .arr p4 p5 r2 => bif Nat.beq p0 3 && (Nat.beq p1 5 && (Nat.beq p2 46 && (Nat.beq p3 3 && (Nat.beq p4 31 && (Nat.beq p5 6))))) then some (r0, r1, r2) else none
  | _, _, _ => none
theorem law11_small_vfo (n : Nat)  : vfn (law11_small_C n) n Try.f19 [] [] law11_small_Ko = law11_small n  (fun r0 r1 r2 => some (r0, r1, r2)) :=
  (show vfn (law11_small_C n) n Try.f19 [] [] law11_small_Ko = vexec (law11_small_C n) n law11_small_c0 ⟨7, [], []⟩ (retX law11_small_tt [.cell 0 26] law11_small_Ko) from vfn_at (by kernel_rfl) (by kernel_rfl) rfl (by kernel_rfl) rfl (by kernel_rfl) rfl).trans ((law11_small_p1_eq n  (retX law11_small_tt [.cell 0 26] law11_small_Ko)).trans (by kernel_rfl))
def law11_small_o (n : Nat) : Entry := fun _ site g avs hl k => match avs with
  | [] => 
    bif newsOk hl [] [(3, (site + 100000)), (5, (site + 200000))] then gb g (law11_small n  (fun r0 r1 r2 => some (r0, r1, r2))) (0, [], []) fun r => k ⟨.ag [.d (D.int .i64 r.1), .arr (site + 100000), .arr (site + 200000)], [((site + 100000), some (.arr 46 3 r.2.1)), ((site + 200000), some (.arr 31 6 r.2.2))], []⟩ else none
  | _ => none
theorem law11_small_oo (n : Nat) : EntryOK Try.prog 19 (law11_small_o n) := by
  intro R site g avs hl k r h
  unfold law11_small_o at h
  split at h
  rotate_left
  · cases h
  replace h := bif_some h
  obtain ⟨hc, h⟩ := h
  replace h := gb_some h
  obtain ⟨res, h, hr⟩ := h
  refine ⟨_, h, fun hg => CallOK.conv (avs' := []) (.nil) (callOK_own (K := law11_small_Ko) (res := res) (law11_small_VC n) (fn := Try.f19) (n := n) (by kernel_rfl) (by kernel_rfl) (by kernel_rfl) (ρ := []) (ν := [(3, (site + 100000)), (5, (site + 200000))]) (avs' := []) (H := []) rfl rfl rfl rfl hc (trivial) rfl rfl ?_ ?_)⟩
  · exact (law11_small_vfo n ).trans (hr hg)
  · intro av H' hx
    unfold law11_small_Ko at hx
    replace hx := Option.bind_eq_some_iff.1 hx
    obtain ⟨o0, ho0, hx⟩ := hx
    replace hx := Option.bind_eq_some_iff.1 hx
    obtain ⟨o1, ho1, hx⟩ := hx
    split at hx
    rotate_left
    · cases hx
    replace hx := bif_some hx
    obtain ⟨hck, hx⟩ := hx
    simp only [Bool.and_eq_true] at hck
    obtain ⟨ek0, ek1, ek2, ek3, ek4, ek5⟩ := hck
    have ek0 := Nat.eq_of_beq_eq_true ek0
    subst ek0
    have ek1 := Nat.eq_of_beq_eq_true ek1
    subst ek1
    have ek2 := Nat.eq_of_beq_eq_true ek2
    subst ek2
    have ek3 := Nat.eq_of_beq_eq_true ek3
    subst ek3
    have ek4 := Nat.eq_of_beq_eq_true ek4
    subst ek4
    have ek5 := Nat.eq_of_beq_eq_true ek5
    subst ek5
    injection hx with hx
    subst hx
    refine ⟨rfl, ?_, ⟨by rw [ho0]; rfl, ⟨by rw [ho1]; rfl, trivial⟩⟩, trivial⟩
    simp only [List.cons_append, List.nil_append, outWr, ho0, ho1, Option.map_some]
    rfl
end Go.Vx
/-
  network_isEvent: the interpreter computes the pure function
-/
set_option linter.unusedVariables false
set_option linter.unusedSimpArgs false
set_option maxRecDepth 100000
namespace Go.Vx
open Go.Proofs
noncomputable def network_isEvent_c0 : Code := bodyOf Try.f25
def network_isEvent_tt : TT := [(3, ⟨.int .i64, 1, 8, [.int .i64 0], [.int .i64 0], [], none⟩), (23, ⟨.sl 46 3, 1, 24, [.slice none 0 0], [.sl 3 []], [], none⟩), (26, ⟨.struct, 3, 56, [.int .i64 0, .slice none 0 0, .slice none 0 0], [.int .i64 0, .sl 3 [], .sl 6 []], [(0, 3), (1, 23), (2, 24)], none⟩)]
theorem network_isEvent_tt_eq : mkTT Try.prog [3, 23, 26] = network_isEvent_tt := by kernel_rfl
def network_isEvent_cfg : List (Nat × Cfg) := [(0, ⟨[1, 2], [(2, 2)], [], [], []⟩), (1, ⟨[4], [], [], [], []⟩)]
def network_isEvent_C (n : Nat) : VC := ⟨specOf [], network_isEvent_tt, network_isEvent_cfg⟩
theorem network_isEvent_ents (n : Nat) : EntsOK Try.prog [] := trivial
theorem network_isEvent_VC (n : Nat) : VCOk Try.prog (network_isEvent_C n) := ⟨specOf_ok (network_isEvent_ents n), (network_isEvent_tt_eq ▸ mkTT_ok _ : TOk Try.prog network_isEvent_tt), by kernel_rfl⟩
theorem network_isEvent_p1_congr {R : Type} (n : Nat) (a0_0 : Int) (a0_1 : List (List D)) (a0_2 : List (List D)) (a1 : Int) {k0 kk0 : Bool → Option R} (hq0 : ∀ x0, k0 x0 = kk0 x0) : network_isEvent_p1 n a0_0 a0_1 a0_2 a1 k0 = network_isEvent_p1 n a0_0 a0_1 a0_2 a1 kk0 := by
  obtain rfl : k0 = kk0 := funext fun x0 => hq0 x0
  rfl
theorem network_isEvent_p1_eq {R : Type} (n : Nat) (a0_0 : Int) (a0_1 : List (List D)) (a0_2 : List (List D)) (a1 : Int) (k : Exit → St → Option R) : vexec (network_isEvent_C n) n network_isEvent_c0 ⟨14, [(0, .ag [.d (D.int .i64 a0_0), .d (D.sl 3 a0_1), .d (D.sl 6 a0_2)]), (1, .d (D.int .i64 a1))], []⟩ k = network_isEvent_p1 n a0_0 a0_1 a0_2 a1 (fun z1 => k .ret ⟨14, [(4, .d (D.bool z1))], []⟩) := by kernel_rfl
theorem network_isEvent_vfn {R : Type} (n : Nat) (a0_0 : Int) (a0_1 : List (List D)) (a0_2 : List (List D)) (a1 : Int) (K : AV → Option R) : vfn (network_isEvent_C n) n Try.f25 [.ag [.d (D.int .i64 a0_0), .d (D.sl 3 a0_1), .d (D.sl 6 a0_2)], .d (D.int .i64 a1)] [] (retF [[0]] K) = network_isEvent n a0_0 a0_1 a0_2 a1 (fun r0 => K (.d (D.bool r0))) :=
  (show vfn (network_isEvent_C n) n Try.f25 [.ag [.d (D.int .i64 a0_0), .d (D.sl 3 a0_1), .d (D.sl 6 a0_2)], .d (D.int .i64 a1)] [] (retF [[0]] K) = vexec (network_isEvent_C n) n network_isEvent_c0 ⟨14, [(0, .ag [.d (D.int .i64 a0_0), .d (D.sl 3 a0_1), .d (D.sl 6 a0_2)]), (1, .d (D.int .i64 a1))], []⟩ (retX network_isEvent_tt [.tmp 4] (retF [[0]] K)) from vfn_at (by kernel_rfl) (by kernel_rfl) rfl (by kernel_rfl) rfl (by kernel_rfl) rfl).trans ((network_isEvent_p1_eq n a0_0 a0_1 a0_2 a1 (retX network_isEvent_tt [.tmp 4] (retF [[0]] K))).trans (by kernel_rfl))
def network_isEvent_K : AV → Option (Bool) := fun av => match av with
  | .d (D.bool r0) => some r0
  | _ => none
def network_isEvent_e (n : Nat) : Entry := fun _ _ g avs _ k => match avs with
  | [c0, c1] => 
    prG c0 fun l0 => (match l0 with
    | [c0_0, c0_1, c0_2] => prI g .i64 c0_0 fun a0_0 => prS g 3 c0_1 fun a0_1 => prS g 6 c0_2 fun a0_2 => prI g .i64 c1 fun a1 => 
    gb g (network_isEvent n a0_0 a0_1 a0_2 a1 some) false fun r => k ⟨.d (D.bool r), [], []⟩
    | _ => none)
  | _ => none
theorem network_isEvent_ok (n : Nat) : EntryOK Try.prog 25 (network_isEvent_e n) := by
  intro R site g avs hl k r h
  unfold network_isEvent_e at h
  split at h
  rotate_left
  · cases h
  replace h := prG_some h
  obtain ⟨l0, h, e0⟩ := h
  subst e0
  split at h
  rotate_left
  · cases h
  replace h := prI_some h
  obtain ⟨a0_0, h, le0⟩ := h
  replace h := prS_some h
  obtain ⟨a0_1, h, le1⟩ := h
  replace h := prS_some h
  obtain ⟨a0_2, h, le2⟩ := h
  replace h := prI_some h
  obtain ⟨a1, h, le3⟩ := h
  replace h := gb_some h
  obtain ⟨res, h, hr⟩ := h
  refine ⟨_, h, fun hg => CallOK.conv (avs' := [.ag [.d (D.int .i64 a0_0), .d (D.sl 3 a0_1), .d (D.sl 6 a0_2)], .d (D.int .i64 a1)]) (.cons (.ag (.cons (le0 hg) (.cons (le1 hg) (.cons (le2 hg) (.nil))))) (.cons (le3 hg) (.nil))) (callOK_fix (K := network_isEvent_K) (res := res) (network_isEvent_VC n) (fn := Try.f25) (n := n) (by kernel_rfl) (by kernel_rfl) (by kernel_rfl) (ss := [[0]]) rfl ?_ ?_)⟩
  · exact (network_isEvent_vfn n a0_0 a0_1 a0_2 a1 network_isEvent_K).trans (hr hg)
  · intro x hx
    unfold network_isEvent_K at hx
    split at hx
    · injection hx with hx; subst hx; rfl
    · cases hx
end Go.Vx
/-
  network_Check: the interpreter computes the pure function
-/
set_option linter.unusedVariables false
set_option linter.unusedSimpArgs false
set_option maxRecDepth 100000
namespace Go.Vx
open Go.Proofs
noncomputable def network_Check_c0 : Code := bodyOf Try.f12
noncomputable def network_Check_c1 : Code := cL (bodyOf Try.f12)
noncomputable def network_Check_c2 : Code := cL (cR (bodyOf Try.f12))
noncomputable def network_Check_c3 : Code := cL (cL (cR (cR (bodyOf Try.f12))))
noncomputable def network_Check_c4 : Code := cB (cB (cR (cL (cR (cR (bodyOf Try.f12))))))
noncomputable def network_Check_c5 : Code := cB (cR (cL (cR (cR (bodyOf Try.f12)))))
noncomputable def network_Check_c6 : Code := cR (cL (cR (cR (bodyOf Try.f12))))
noncomputable def network_Check_c7 : Code := cL (cR (cR (bodyOf Try.f12)))
noncomputable def network_Check_c8 : Code := cR (cR (cR (bodyOf Try.f12)))
noncomputable def network_Check_c9 : Code := cR (cR (bodyOf Try.f12))
noncomputable def network_Check_c10 : Code := cR (bodyOf Try.f12)
theorem network_Check_c5_eq : network_Check_c5 = .loop network_Check_c4 := by kernel_rfl
theorem network_Check_c6_eq : network_Check_c6 = .block 0 network_Check_c5 := by kernel_rfl
theorem network_Check_c7_eq : network_Check_c7 = .seq network_Check_c3 network_Check_c6 := by kernel_rfl
theorem network_Check_c9_eq : network_Check_c9 = .seq network_Check_c7 network_Check_c8 := by kernel_rfl
theorem network_Check_c10_eq : network_Check_c10 = .seq network_Check_c2 network_Check_c9 := by kernel_rfl
theorem network_Check_c0_eq : network_Check_c0 = .seq network_Check_c1 network_Check_c10 := by kernel_rfl
def network_Check_tt : TT := [(3, ⟨.int .i64, 1, 8, [.int .i64 0], [.int .i64 0], [], none⟩), (23, ⟨.sl 46 3, 1, 24, [.slice none 0 0], [.sl 3 []], [], none⟩), (24, ⟨.sl 31 6, 1, 24, [.slice none 0 0], [.sl 6 []], [], none⟩), (26, ⟨.struct, 3, 56, [.int .i64 0, .slice none 0 0, .slice none 0 0], [.int .i64 0, .sl 3 [], .sl 6 []], [(0, 3), (1, 23), (2, 24)], none⟩), (31, ⟨.struct, 6, 48, [.int .i64 0, .int .i64 0, .int .i64 0, .int .i64 0, .int .i64 0, .int .i64 0], [.int .i64 0, .int .i64 0, .int .i64 0, .int .i64 0, .int .i64 0, .int .i64 0], [(0, 3), (1, 3), (2, 3), (3, 3), (4, 3), (5, 3)], some [.int .i64, .int .i64, .int .i64, .int .i64, .int .i64, .int .i64]⟩)]
theorem network_Check_tt_eq : mkTT Try.prog [3, 23, 24, 26, 31] = network_Check_tt := by kernel_rfl
def network_Check_cfg : List (Nat × Cfg) := [(0, ⟨[1], [(1, 1)], [], [], []⟩), (1, ⟨[1, 24], [(1, 1)], [], [], []⟩), (2, ⟨[2], [], [], [], []⟩), (3, ⟨[1, 26, 27, 28], [(1, 1)], [], [], []⟩), (4, ⟨[1, 26, 27, 28, 29], [(1, 1)], [], [], []⟩), (5, ⟨[1, 4, 26, 27, 28], [(1, 1), (4, 4)], [], [], []⟩), (6, ⟨[1, 4, 26, 27, 28, 50], [(1, 1), (4, 4)], [], [], []⟩), (7, ⟨[2], [], [], [], []⟩), (8, ⟨[1, 4, 26, 27, 28, 75], [(1, 1), (4, 4)], [], [], []⟩), (9, ⟨[2], [], [], [], []⟩), (10, ⟨[1, 26, 27, 28, 83], [(1, 1)], [], [], []⟩), (11, ⟨[2], [], [], [], []⟩), (12, ⟨[1, 26, 27, 28], [(1, 1)], [], [], []⟩), (13, ⟨[2], [], [], [], []⟩)]
def network_Check_C (n : Nat) : VC := ⟨specOf [(25, network_isEvent_e n)], network_Check_tt, network_Check_cfg⟩
theorem network_Check_ents (n : Nat) : EntsOK Try.prog [(25, network_isEvent_e n)] := ⟨network_isEvent_ok n, trivial⟩
theorem network_Check_VC (n : Nat) : VCOk Try.prog (network_Check_C n) := ⟨specOf_ok (network_Check_ents n), (network_Check_tt_eq ▸ mkTT_ok _ : TOk Try.prog network_Check_tt), by kernel_rfl⟩
theorem network_Check_p1_congr {R : Type} (n : Nat) (a0_0 : Int) (a0_1 : List (List D)) (a0_2 : List (List D)) {k0 kk0 : Option R} (hq0 : k0 = kk0) : network_Check_p1 n a0_0 a0_1 a0_2 k0 = network_Check_p1 n a0_0 a0_1 a0_2 kk0 := by
  obtain rfl : k0 = kk0 := hq0
  rfl
theorem network_Check_p2_congr {R : Type} (n : Nat) (a0_0 : Int) (a0_1 : List (List D)) (a0_2 : List (List D)) {k0 kk0 : Option R} {k1 kk1 : Bool → Option R} (hq0 : k0 = kk0) (hq1 : ∀ x0, k1 x0 = kk1 x0) : network_Check_p2 n a0_0 a0_1 a0_2 k0 k1 = network_Check_p2 n a0_0 a0_1 a0_2 kk0 kk1 := by
  obtain rfl : k0 = kk0 := hq0
  obtain rfl : k1 = kk1 := funext fun x0 => hq1 x0
  rfl
theorem network_Check_p3_congr {R : Type} (n : Nat) (w2 : Bool) (a0_0 : Int) (a0_1 : List (List D)) (a0_2 : List (List D)) {k0 kk0 : Int → Option R} (hq0 : ∀ x0, k0 x0 = kk0 x0) : network_Check_p3 n w2 a0_0 a0_1 a0_2 k0 = network_Check_p3 n w2 a0_0 a0_1 a0_2 kk0 := by
  obtain rfl : k0 = kk0 := funext fun x0 => hq0 x0
  rfl
theorem network_Check_p4_congr {R : Type} (n : Nat) (a0_2 : List (List D)) (w4 : Int) (h7 : Int) (a0_0 : Int) (a0_1 : List (List D)) {k0 kk0 : Option R} {k1 kk1 : Int → Option R} {k2 kk2 : Bool → Option R} (hq0 : k0 = kk0) (hq1 : ∀ x0, k1 x0 = kk1 x0) (hq2 : ∀ x0, k2 x0 = kk2 x0) : network_Check_p4 n a0_2 w4 h7 a0_0 a0_1 k0 k1 k2 = network_Check_p4 n a0_2 w4 h7 a0_0 a0_1 kk0 kk1 kk2 := by
  obtain rfl : k0 = kk0 := hq0
  obtain rfl : k1 = kk1 := funext fun x0 => hq1 x0
  obtain rfl : k2 = kk2 := funext fun x0 => hq2 x0
  rfl
theorem network_Check_p5_congr {R : Type} (n : Nat) (a0_2 : List (List D)) (w4 : Int) (a0_0 : Int) (a0_1 : List (List D)) {k0 kk0 : Option R} {k1 kk1 : Int → Bool → Option R} (hq0 : k0 = kk0) (hq1 : ∀ x0 x1, k1 x0 x1 = kk1 x0 x1) : network_Check_p5 n a0_2 w4 a0_0 a0_1 k0 k1 = network_Check_p5 n a0_2 w4 a0_0 a0_1 kk0 kk1 := by
  obtain rfl : k0 = kk0 := hq0
  obtain rfl : k1 = kk1 := funext fun x0 => funext fun x1 => hq1 x0 x1
  rfl
theorem network_Check_p6_congr {R : Type} (n : Nat) (a0_2 : List (List D)) (w4 : Int) (a0_0 : Int) (a0_1 : List (List D)) {k0 kk0 : Option R} {k1 kk1 : Int → Bool → Option R} (hq0 : k0 = kk0) (hq1 : ∀ x0 x1, k1 x0 x1 = kk1 x0 x1) : network_Check_p6 n a0_2 w4 a0_0 a0_1 k0 k1 = network_Check_p6 n a0_2 w4 a0_0 a0_1 kk0 kk1 := by
  obtain rfl : k0 = kk0 := hq0
  obtain rfl : k1 = kk1 := funext fun x0 => funext fun x1 => hq1 x0 x1
  rfl
theorem network_Check_p7_congr {R : Type} (n : Nat) (w2 : Bool) (a0_0 : Int) (a0_1 : List (List D)) (a0_2 : List (List D)) {k0 kk0 : Option R} {k1 kk1 : Int → Int → Bool → Option R} (hq0 : k0 = kk0) (hq1 : ∀ x0 x1 x2, k1 x0 x1 x2 = kk1 x0 x1 x2) : network_Check_p7 n w2 a0_0 a0_1 a0_2 k0 k1 = network_Check_p7 n w2 a0_0 a0_1 a0_2 kk0 kk1 := by
  obtain rfl : k0 = kk0 := hq0
  obtain rfl : k1 = kk1 := funext fun x0 => funext fun x1 => funext fun x2 => hq1 x0 x1 x2
  rfl
theorem network_Check_p8_congr {R : Type} (n : Nat) (a0_2 : List (List D)) (w63 : Int) (w64 : Int) (w65 : Bool) (a0_0 : Int) (a0_1 : List (List D)) {k0 kk0 : Option R} (hq0 : k0 = kk0) : network_Check_p8 n a0_2 w63 w64 w65 a0_0 a0_1 k0 = network_Check_p8 n a0_2 w63 w64 w65 a0_0 a0_1 kk0 := by
  obtain rfl : k0 = kk0 := hq0
  rfl
theorem network_Check_p9_congr {R : Type} (n : Nat) (w2 : Bool) (a0_0 : Int) (a0_1 : List (List D)) (a0_2 : List (List D)) {k0 kk0 : Bool → Option R} (hq0 : ∀ x0, k0 x0 = kk0 x0) : network_Check_p9 n w2 a0_0 a0_1 a0_2 k0 = network_Check_p9 n w2 a0_0 a0_1 a0_2 kk0 := by
  obtain rfl : k0 = kk0 := funext fun x0 => hq0 x0
  rfl
theorem network_Check_p10_congr {R : Type} (n : Nat) (a0_0 : Int) (a0_1 : List (List D)) (a0_2 : List (List D)) {k0 kk0 : Bool → Option R} (hq0 : ∀ x0, k0 x0 = kk0 x0) : network_Check_p10 n a0_0 a0_1 a0_2 k0 = network_Check_p10 n a0_0 a0_1 a0_2 kk0 := by
  obtain rfl : k0 = kk0 := funext fun x0 => hq0 x0
  rfl
theorem network_Check_p11_congr {R : Type} (n : Nat) (a0_0 : Int) (a0_1 : List (List D)) (a0_2 : List (List D)) {k0 kk0 : Bool → Option R} (hq0 : ∀ x0, k0 x0 = kk0 x0) : network_Check_p11 n a0_0 a0_1 a0_2 k0 = network_Check_p11 n a0_0 a0_1 a0_2 kk0 := by
  obtain rfl : k0 = kk0 := funext fun x0 => hq0 x0
  rfl
theorem network_Check_p1_eq {R : Type} (n : Nat) (a0_0 : Int) (a0_1 : List (List D)) (a0_2 : List (List D)) (k : Exit → St → Option R) : vexec (network_Check_C n) n network_Check_c1 ⟨85, [(0, .ag [.d (D.int .i64 a0_0), .d (D.sl 3 a0_1), .d (D.sl 6 a0_2)])], []⟩ k = network_Check_p1 n a0_0 a0_1 a0_2 (k .normal ⟨85, [(1, .ptr 1 0)], [(1, .box [.d (D.int .i64 a0_0), .d (D.sl 3 a0_1), .d (D.sl 6 a0_2)])]⟩) := by kernel_rfl
theorem network_Check_p2_eq {R : Type} (n : Nat) (a0_0 : Int) (a0_1 : List (List D)) (a0_2 : List (List D)) (k : Exit → St → Option R) : vexec (network_Check_C n) n network_Check_c2 ⟨85, [(1, .ptr 1 0)], [(1, .box [.d (D.int .i64 a0_0), .d (D.sl 3 a0_1), .d (D.sl 6 a0_2)])]⟩ k = network_Check_p2 n a0_0 a0_1 a0_2 (k .ret ⟨85, [(2, .d (D.bool false))], []⟩) (fun z1 => k .normal ⟨85, [(1, .ptr 1 0), (24, .d (D.bool z1))], [(1, .box [.d (D.int .i64 a0_0), .d (D.sl 3 a0_1), .d (D.sl 6 a0_2)])]⟩) := by kernel_rfl
theorem network_Check_p3_eq {R : Type} (n : Nat) (w2 : Bool) (a0_0 : Int) (a0_1 : List (List D)) (a0_2 : List (List D)) (k : Exit → St → Option R) : vexec (network_Check_C n) n network_Check_c3 ⟨85, [(1, .ptr 1 0), (24, .d (D.bool w2))], [(1, .box [.d (D.int .i64 a0_0), .d (D.sl 3 a0_1), .d (D.sl 6 a0_2)])]⟩ k = network_Check_p3 n w2 a0_0 a0_1 a0_2 (fun z3 => k .normal ⟨85, [(1, .ptr 1 0), (26, .d (D.sl 6 a0_2)), (27, .d (D.int .i64 z3)), (28, .d (D.int .i64 (0 : Int)))], [(1, .box [.d (D.int .i64 a0_0), .d (D.sl 3 a0_1), .d (D.sl 6 a0_2)])]⟩) := by kernel_rfl
theorem network_Check_p4_eq {R : Type} (n : Nat) (a0_2 : List (List D)) (w4 : Int) (h7 : Int) (a0_0 : Int) (a0_1 : List (List D)) (k : Exit → St → Option R) : vexec (network_Check_C n) n network_Check_c4 ⟨85, [(1, .ptr 1 0), (26, .d (D.sl 6 a0_2)), (27, .d (D.int .i64 w4)), (28, .d (D.int .i64 h7))], [(1, .box [.d (D.int .i64 a0_0), .d (D.sl 3 a0_1), .d (D.sl 6 a0_2)])]⟩ k = network_Check_p4 n a0_2 w4 h7 a0_0 a0_1 (k .ret ⟨85, [(2, .d (D.bool false))], []⟩) (fun z55 => k .normal ⟨85, [(1, .ptr 1 0), (26, .d (D.sl 6 a0_2)), (27, .d (D.int .i64 w4)), (28, .d (D.int .i64 z55))], [(1, .box [.d (D.int .i64 a0_0), .d (D.sl 3 a0_1), .d (D.sl 6 a0_2)])]⟩) (fun z56 => k (.exit 0) ⟨85, [(1, .ptr 1 0), (26, .d (D.sl 6 a0_2)), (27, .d (D.int .i64 w4)), (28, .d (D.int .i64 h7)), (29, .d (D.bool z56))], [(1, .box [.d (D.int .i64 a0_0), .d (D.sl 3 a0_1), .d (D.sl 6 a0_2)])]⟩) := by kernel_rfl
theorem network_Check_r5_eq {R : Type} (n : Nat) (a0_2 : List (List D)) (w4 : Int) (a0_0 : Int) (a0_1 : List (List D)) (k : Exit → St → Option R) : ∀ (m : Nat) (h7 : Int), loopN (vexec (network_Check_C n) n network_Check_c4) m ⟨85, [(1, .ptr 1 0), (26, .d (D.sl 6 a0_2)), (27, .d (D.int .i64 w4)), (28, .d (D.int .i64 h7))], [(1, .box [.d (D.int .i64 a0_0), .d (D.sl 3 a0_1), .d (D.sl 6 a0_2)])]⟩ k = network_Check_r5 n a0_2 w4 a0_0 a0_1 (k .ret ⟨85, [(2, .d (D.bool false))], []⟩) (fun h7 w58 => k (.exit 0) ⟨85, [(1, .ptr 1 0), (26, .d (D.sl 6 a0_2)), (27, .d (D.int .i64 w4)), (28, .d (D.int .i64 h7)), (29, .d (D.bool w58))], [(1, .box [.d (D.int .i64 a0_0), .d (D.sl 3 a0_1), .d (D.sl 6 a0_2)])]⟩) m h7
  | 0, _ => rfl
  | m + 1, h7 => (network_Check_p4_eq n a0_2 w4 h7 a0_0 a0_1 (loopK (vexec (network_Check_C n) n network_Check_c4) m k)).trans (network_Check_p4_congr n a0_2 w4 h7 a0_0 a0_1 (rfl) (fun w57 => network_Check_r5_eq n a0_2 w4 a0_0 a0_1 k m w57) (fun w58 => rfl))
theorem network_Check_p5_eq {R : Type} (n : Nat) (a0_2 : List (List D)) (w4 : Int) (a0_0 : Int) (a0_1 : List (List D)) (k : Exit → St → Option R) : vexec (network_Check_C n) n network_Check_c5 ⟨85, [(1, .ptr 1 0), (26, .d (D.sl 6 a0_2)), (27, .d (D.int .i64 w4)), (28, .d (D.int .i64 (0 : Int)))], [(1, .box [.d (D.int .i64 a0_0), .d (D.sl 3 a0_1), .d (D.sl 6 a0_2)])]⟩ k = network_Check_p5 n a0_2 w4 a0_0 a0_1 (k .ret ⟨85, [(2, .d (D.bool false))], []⟩) (fun h7 w58 => k (.exit 0) ⟨85, [(1, .ptr 1 0), (26, .d (D.sl 6 a0_2)), (27, .d (D.int .i64 w4)), (28, .d (D.int .i64 h7)), (29, .d (D.bool w58))], [(1, .box [.d (D.int .i64 a0_0), .d (D.sl 3 a0_1), .d (D.sl 6 a0_2)])]⟩) := by
  rw [network_Check_c5_eq]
  exact network_Check_r5_eq n a0_2 w4 a0_0 a0_1 k n (0 : Int)
theorem network_Check_p6_eq {R : Type} (n : Nat) (a0_2 : List (List D)) (w4 : Int) (a0_0 : Int) (a0_1 : List (List D)) (k : Exit → St → Option R) : vexec (network_Check_C n) n network_Check_c6 ⟨85, [(1, .ptr 1 0), (26, .d (D.sl 6 a0_2)), (27, .d (D.int .i64 w4)), (28, .d (D.int .i64 (0 : Int)))], [(1, .box [.d (D.int .i64 a0_0), .d (D.sl 3 a0_1), .d (D.sl 6 a0_2)])]⟩ k = network_Check_p6 n a0_2 w4 a0_0 a0_1 (k .ret ⟨85, [(2, .d (D.bool false))], []⟩) (fun w59 w60 => k .normal ⟨85, [(1, .ptr 1 0), (26, .d (D.sl 6 a0_2)), (27, .d (D.int .i64 w4)), (28, .d (D.int .i64 w59)), (29, .d (D.bool w60))], [(1, .box [.d (D.int .i64 a0_0), .d (D.sl 3 a0_1), .d (D.sl 6 a0_2)])]⟩) := by
  rw [network_Check_c6_eq]
  unfold network_Check_p6
  exact (network_Check_p5_eq n a0_2 w4 a0_0 a0_1 (blockK 0 k)).trans (network_Check_p5_congr n a0_2 w4 a0_0 a0_1 (rfl) (fun w59 w60 => rfl))
theorem network_Check_p7_eq {R : Type} (n : Nat) (w2 : Bool) (a0_0 : Int) (a0_1 : List (List D)) (a0_2 : List (List D)) (k : Exit → St → Option R) : vexec (network_Check_C n) n network_Check_c7 ⟨85, [(1, .ptr 1 0), (24, .d (D.bool w2))], [(1, .box [.d (D.int .i64 a0_0), .d (D.sl 3 a0_1), .d (D.sl 6 a0_2)])]⟩ k = network_Check_p7 n w2 a0_0 a0_1 a0_2 (k .ret ⟨85, [(2, .d (D.bool false))], []⟩) (fun w4 w61 w62 => k .normal ⟨85, [(1, .ptr 1 0), (26, .d (D.sl 6 a0_2)), (27, .d (D.int .i64 w4)), (28, .d (D.int .i64 w61)), (29, .d (D.bool w62))], [(1, .box [.d (D.int .i64 a0_0), .d (D.sl 3 a0_1), .d (D.sl 6 a0_2)])]⟩) := by
  rw [network_Check_c7_eq]
  unfold network_Check_p7
  exact (network_Check_p3_eq n w2 a0_0 a0_1 a0_2 (seqK (network_Check_C n) n network_Check_c6 k)).trans (network_Check_p3_congr n w2 a0_0 a0_1 a0_2 (fun w4 => network_Check_p6_eq n a0_2 w4 a0_0 a0_1 k))
theorem network_Check_p8_eq {R : Type} (n : Nat) (a0_2 : List (List D)) (w63 : Int) (w64 : Int) (w65 : Bool) (a0_0 : Int) (a0_1 : List (List D)) (k : Exit → St → Option R) : vexec (network_Check_C n) n network_Check_c8 ⟨85, [(1, .ptr 1 0), (26, .d (D.sl 6 a0_2)), (27, .d (D.int .i64 w63)), (28, .d (D.int .i64 w64)), (29, .d (D.bool w65))], [(1, .box [.d (D.int .i64 a0_0), .d (D.sl 3 a0_1), .d (D.sl 6 a0_2)])]⟩ k = network_Check_p8 n a0_2 w63 w64 w65 a0_0 a0_1 (k .ret ⟨85, [(2, .d (D.bool true))], []⟩) := by kernel_rfl
theorem network_Check_p9_eq {R : Type} (n : Nat) (w2 : Bool) (a0_0 : Int) (a0_1 : List (List D)) (a0_2 : List (List D)) (k : Exit → St → Option R) : vexec (network_Check_C n) n network_Check_c9 ⟨85, [(1, .ptr 1 0), (24, .d (D.bool w2))], [(1, .box [.d (D.int .i64 a0_0), .d (D.sl 3 a0_1), .d (D.sl 6 a0_2)])]⟩ k = network_Check_p9 n w2 a0_0 a0_1 a0_2 (fun z66 => k .ret ⟨85, [(2, .d (D.bool z66))], []⟩) := by
  rw [network_Check_c9_eq]
  unfold network_Check_p9
  exact (network_Check_p7_eq n w2 a0_0 a0_1 a0_2 (seqK (network_Check_C n) n network_Check_c8 k)).trans (network_Check_p7_congr n w2 a0_0 a0_1 a0_2 (rfl) (fun w63 w64 w65 => network_Check_p8_eq n a0_2 w63 w64 w65 a0_0 a0_1 k))
theorem network_Check_p10_eq {R : Type} (n : Nat) (a0_0 : Int) (a0_1 : List (List D)) (a0_2 : List (List D)) (k : Exit → St → Option R) : vexec (network_Check_C n) n network_Check_c10 ⟨85, [(1, .ptr 1 0)], [(1, .box [.d (D.int .i64 a0_0), .d (D.sl 3 a0_1), .d (D.sl 6 a0_2)])]⟩ k = network_Check_p10 n a0_0 a0_1 a0_2 (fun z68 => k .ret ⟨85, [(2, .d (D.bool z68))], []⟩) := by
  rw [network_Check_c10_eq]
  unfold network_Check_p10
  exact (network_Check_p2_eq n a0_0 a0_1 a0_2 (seqK (network_Check_C n) n network_Check_c9 k)).trans (network_Check_p2_congr n a0_0 a0_1 a0_2 (rfl) (fun w2 => network_Check_p9_eq n w2 a0_0 a0_1 a0_2 k))
theorem network_Check_p11_eq {R : Type} (n : Nat) (a0_0 : Int) (a0_1 : List (List D)) (a0_2 : List (List D)) (k : Exit → St → Option R) : vexec (network_Check_C n) n network_Check_c0 ⟨85, [(0, .ag [.d (D.int .i64 a0_0), .d (D.sl 3 a0_1), .d (D.sl 6 a0_2)])], []⟩ k = network_Check_p11 n a0_0 a0_1 a0_2 (fun w69 => k .ret ⟨85, [(2, .d (D.bool w69))], []⟩) := by
  rw [network_Check_c0_eq]
  unfold network_Check_p11
  exact (network_Check_p1_eq n a0_0 a0_1 a0_2 (seqK (network_Check_C n) n network_Check_c10 k)).trans (network_Check_p1_congr n a0_0 a0_1 a0_2 (network_Check_p10_eq n a0_0 a0_1 a0_2 k))
theorem network_Check_vfn {R : Type} (n : Nat) (a0_0 : Int) (a0_1 : List (List D)) (a0_2 : List (List D)) (K : AV → Option R) : vfn (network_Check_C n) n Try.f12 [.ag [.d (D.int .i64 a0_0), .d (D.sl 3 a0_1), .d (D.sl 6 a0_2)]] [] (retF [[0]] K) = network_Check n a0_0 a0_1 a0_2 (fun r0 => K (.d (D.bool r0))) :=
  (show vfn (network_Check_C n) n Try.f12 [.ag [.d (D.int .i64 a0_0), .d (D.sl 3 a0_1), .d (D.sl 6 a0_2)]] [] (retF [[0]] K) = vexec (network_Check_C n) n network_Check_c0 ⟨85, [(0, .ag [.d (D.int .i64 a0_0), .d (D.sl 3 a0_1), .d (D.sl 6 a0_2)])], []⟩ (retX network_Check_tt [.tmp 2] (retF [[0]] K)) from vfn_at (by kernel_rfl) (by kernel_rfl) rfl (by kernel_rfl) rfl (by kernel_rfl) rfl).trans ((network_Check_p11_eq n a0_0 a0_1 a0_2 (retX network_Check_tt [.tmp 2] (retF [[0]] K))).trans (by kernel_rfl))
def network_Check_K : AV → Option (Bool) := fun av => match av with
  | .d (D.bool r0) => some r0
  | _ => none
def network_Check_e (n : Nat) : Entry := fun _ _ g avs _ k => match avs with
  | [c0] => 
    prG c0 fun l0 => (match l0 with
    | [c0_0, c0_1, c0_2] => prI g .i64 c0_0 fun a0_0 => prS g 3 c0_1 fun a0_1 => prS g 6 c0_2 fun a0_2 => 
    gb g (network_Check n a0_0 a0_1 a0_2 some) false fun r => k ⟨.d (D.bool r), [], []⟩
    | _ => none)
  | _ => none
theorem network_Check_ok (n : Nat) : EntryOK Try.prog 12 (network_Check_e n) := by
  intro R site g avs hl k r h
  unfold network_Check_e at h
  split at h
  rotate_left
  · cases h
  replace h := prG_some h
  obtain ⟨l0, h, e0⟩ := h
  subst e0
  split at h
  rotate_left
  · cases h
  replace h := prI_some h
  obtain ⟨a0_0, h, le0⟩ := h
  replace h := prS_some h
  obtain ⟨a0_1, h, le1⟩ := h
  replace h := prS_some h
  obtain ⟨a0_2, h, le2⟩ := h
  replace h := gb_some h
  obtain ⟨res, h, hr⟩ := h
  refine ⟨_, h, fun hg => CallOK.conv (avs' := [.ag [.d (D.int .i64 a0_0), .d (D.sl 3 a0_1), .d (D.sl 6 a0_2)]]) (.cons (.ag (.cons (le0 hg) (.cons (le1 hg) (.cons (le2 hg) (.nil))))) (.nil)) (callOK_fix (K := network_Check_K) (res := res) (network_Check_VC n) (fn := Try.f12) (n := n) (by kernel_rfl) (by kernel_rfl) (by kernel_rfl) (ss := [[0]]) rfl ?_ ?_)⟩
  · exact (network_Check_vfn n a0_0 a0_1 a0_2 network_Check_K).trans (hr hg)
  · intro x hx
    unfold network_Check_K at hx
    split at hx
    · injection hx with hx; subst hx; rfl
    · cases hx
end Go.Vx
/-
  network_Good: the interpreter computes the pure function
-/
set_option linter.unusedVariables false
set_option linter.unusedSimpArgs false
set_option maxRecDepth 100000
namespace Go.Vx
open Go.Proofs
noncomputable def network_Good_c0 : Code := bodyOf Try.f27
noncomputable def network_Good_c1 : Code := cL (bodyOf Try.f27)
noncomputable def network_Good_c2 : Code := cL (cR (bodyOf Try.f27))
noncomputable def network_Good_c3 : Code := cL (cL (cR (cR (bodyOf Try.f27))))
noncomputable def network_Good_c4 : Code := cB (cB (cR (cL (cR (cR (bodyOf Try.f27))))))
noncomputable def network_Good_c5 : Code := cB (cR (cL (cR (cR (bodyOf Try.f27)))))
noncomputable def network_Good_c6 : Code := cR (cL (cR (cR (bodyOf Try.f27))))
noncomputable def network_Good_c7 : Code := cL (cR (cR (bodyOf Try.f27)))
noncomputable def network_Good_c8 : Code := cR (cR (cR (bodyOf Try.f27)))
noncomputable def network_Good_c9 : Code := cR (cR (bodyOf Try.f27))
noncomputable def network_Good_c10 : Code := cR (bodyOf Try.f27)
theorem network_Good_c5_eq : network_Good_c5 = .loop network_Good_c4 := by kernel_rfl
theorem network_Good_c6_eq : network_Good_c6 = .block 0 network_Good_c5 := by kernel_rfl
theorem network_Good_c7_eq : network_Good_c7 = .seq network_Good_c3 network_Good_c6 := by kernel_rfl
theorem network_Good_c9_eq : network_Good_c9 = .seq network_Good_c7 network_Good_c8 := by kernel_rfl
theorem network_Good_c10_eq : network_Good_c10 = .seq network_Good_c2 network_Good_c9 := by kernel_rfl
theorem network_Good_c0_eq : network_Good_c0 = .seq network_Good_c1 network_Good_c10 := by kernel_rfl
def network_Good_tt : TT := [(3, ⟨.int .i64, 1, 8, [.int .i64 0], [.int .i64 0], [], none⟩), (22, ⟨.sl 3 1, 1, 24, [.slice none 0 0], [.sl 1 []], [], none⟩), (23, ⟨.sl 46 3, 1, 24, [.slice none 0 0], [.sl 3 []], [], none⟩), (26, ⟨.struct, 3, 56, [.int .i64 0, .slice none 0 0, .slice none 0 0], [.int .i64 0, .sl 3 [], .sl 6 []], [(0, 3), (1, 23), (2, 24)], none⟩)]
theorem network_Good_tt_eq : mkTT Try.prog [3, 22, 23, 26] = network_Good_tt := by kernel_rfl
def network_Good_cfg : List (Nat × Cfg) := [(0, ⟨[1, 2], [(2, 2)], [], [], []⟩), (1, ⟨[1, 2, 17], [(2, 2)], [], [], []⟩), (2, ⟨[4], [], [], [], []⟩), (3, ⟨[2, 18, 19, 20], [(2, 2)], [], [], []⟩), (4, ⟨[2, 18, 19, 20, 21], [(2, 2)], [], [], []⟩), (5, ⟨[2, 6, 18, 19, 20], [(2, 2)], [], [], []⟩), (6, ⟨[2, 18, 19, 20, 31], [(2, 2)], [], [], []⟩), (7, ⟨[4], [], [], [], []⟩), (8, ⟨[2, 18, 19, 20], [(2, 2)], [], [], []⟩), (9, ⟨[4], [], [], [], []⟩)]
def network_Good_C (n : Nat) : VC := ⟨specOf [(12, network_Check_e n)], network_Good_tt, network_Good_cfg⟩
theorem network_Good_ents (n : Nat) : EntsOK Try.prog [(12, network_Check_e n)] := ⟨network_Check_ok n, trivial⟩
theorem network_Good_VC (n : Nat) : VCOk Try.prog (network_Good_C n) := ⟨specOf_ok (network_Good_ents n), (network_Good_tt_eq ▸ mkTT_ok _ : TOk Try.prog network_Good_tt), by kernel_rfl⟩
theorem network_Good_p1_congr {R : Type} (n : Nat) (a0_0 : Int) (a0_1 : List (List D)) (a0_2 : List (List D)) (a1 : List (List D)) {k0 kk0 : Option R} (hq0 : k0 = kk0) : network_Good_p1 n a0_0 a0_1 a0_2 a1 k0 = network_Good_p1 n a0_0 a0_1 a0_2 a1 kk0 := by
  obtain rfl : k0 = kk0 := hq0
  rfl
theorem network_Good_p2_congr {R : Type} (n : Nat) (a1 : List (List D)) (a0_0 : Int) (a0_1 : List (List D)) (a0_2 : List (List D)) {k0 kk0 : Option R} {k1 kk1 : Bool → Option R} (hq0 : k0 = kk0) (hq1 : ∀ x0, k1 x0 = kk1 x0) : network_Good_p2 n a1 a0_0 a0_1 a0_2 k0 k1 = network_Good_p2 n a1 a0_0 a0_1 a0_2 kk0 kk1 := by
  obtain rfl : k0 = kk0 := hq0
  obtain rfl : k1 = kk1 := funext fun x0 => hq1 x0
  rfl
theorem network_Good_p3_congr {R : Type} (n : Nat) (a1 : List (List D)) (w3 : Bool) (a0_0 : Int) (a0_1 : List (List D)) (a0_2 : List (List D)) {k0 kk0 : Int → Option R} (hq0 : ∀ x0, k0 x0 = kk0 x0) : network_Good_p3 n a1 w3 a0_0 a0_1 a0_2 k0 = network_Good_p3 n a1 w3 a0_0 a0_1 a0_2 kk0 := by
  obtain rfl : k0 = kk0 := funext fun x0 => hq0 x0
  rfl
theorem network_Good_p4_congr {R : Type} (n : Nat) (a1 : List (List D)) (w5 : Int) (h8 : Int) (a0_0 : Int) (a0_1 : List (List D)) (a0_2 : List (List D)) {k0 kk0 : Option R} {k1 kk1 : Int → Option R} {k2 kk2 : Bool → Option R} (hq0 : k0 = kk0) (hq1 : ∀ x0, k1 x0 = kk1 x0) (hq2 : ∀ x0, k2 x0 = kk2 x0) : network_Good_p4 n a1 w5 h8 a0_0 a0_1 a0_2 k0 k1 k2 = network_Good_p4 n a1 w5 h8 a0_0 a0_1 a0_2 kk0 kk1 kk2 := by
  obtain rfl : k0 = kk0 := hq0
  obtain rfl : k1 = kk1 := funext fun x0 => hq1 x0
  obtain rfl : k2 = kk2 := funext fun x0 => hq2 x0
  rfl
theorem network_Good_p5_congr {R : Type} (n : Nat) (a1 : List (List D)) (w5 : Int) (a0_0 : Int) (a0_1 : List (List D)) (a0_2 : List (List D)) {k0 kk0 : Option R} {k1 kk1 : Int → Bool → Option R} (hq0 : k0 = kk0) (hq1 : ∀ x0 x1, k1 x0 x1 = kk1 x0 x1) : network_Good_p5 n a1 w5 a0_0 a0_1 a0_2 k0 k1 = network_Good_p5 n a1 w5 a0_0 a0_1 a0_2 kk0 kk1 := by
  obtain rfl : k0 = kk0 := hq0
  obtain rfl : k1 = kk1 := funext fun x0 => funext fun x1 => hq1 x0 x1
  rfl
theorem network_Good_p6_congr {R : Type} (n : Nat) (a1 : List (List D)) (w5 : Int) (a0_0 : Int) (a0_1 : List (List D)) (a0_2 : List (List D)) {k0 kk0 : Option R} {k1 kk1 : Int → Bool → Option R} (hq0 : k0 = kk0) (hq1 : ∀ x0 x1, k1 x0 x1 = kk1 x0 x1) : network_Good_p6 n a1 w5 a0_0 a0_1 a0_2 k0 k1 = network_Good_p6 n a1 w5 a0_0 a0_1 a0_2 kk0 kk1 := by
  obtain rfl : k0 = kk0 := hq0
  obtain rfl : k1 = kk1 := funext fun x0 => funext fun x1 => hq1 x0 x1
  rfl
theorem network_Good_p7_congr {R : Type} (n : Nat) (a1 : List (List D)) (w3 : Bool) (a0_0 : Int) (a0_1 : List (List D)) (a0_2 : List (List D)) {k0 kk0 : Option R} {k1 kk1 : Int → Int → Bool → Option R} (hq0 : k0 = kk0) (hq1 : ∀ x0 x1 x2, k1 x0 x1 x2 = kk1 x0 x1 x2) : network_Good_p7 n a1 w3 a0_0 a0_1 a0_2 k0 k1 = network_Good_p7 n a1 w3 a0_0 a0_1 a0_2 kk0 kk1 := by
  obtain rfl : k0 = kk0 := hq0
  obtain rfl : k1 = kk1 := funext fun x0 => funext fun x1 => funext fun x2 => hq1 x0 x1 x2
  rfl
theorem network_Good_p8_congr {R : Type} (n : Nat) (a1 : List (List D)) (w28 : Int) (w29 : Int) (w30 : Bool) (a0_0 : Int) (a0_1 : List (List D)) (a0_2 : List (List D)) {k0 kk0 : Option R} (hq0 : k0 = kk0) : network_Good_p8 n a1 w28 w29 w30 a0_0 a0_1 a0_2 k0 = network_Good_p8 n a1 w28 w29 w30 a0_0 a0_1 a0_2 kk0 := by
  obtain rfl : k0 = kk0 := hq0
  rfl
theorem network_Good_p9_congr {R : Type} (n : Nat) (a1 : List (List D)) (w3 : Bool) (a0_0 : Int) (a0_1 : List (List D)) (a0_2 : List (List D)) {k0 kk0 : Bool → Option R} (hq0 : ∀ x0, k0 x0 = kk0 x0) : network_Good_p9 n a1 w3 a0_0 a0_1 a0_2 k0 = network_Good_p9 n a1 w3 a0_0 a0_1 a0_2 kk0 := by
  obtain rfl : k0 = kk0 := funext fun x0 => hq0 x0
  rfl
theorem network_Good_p10_congr {R : Type} (n : Nat) (a1 : List (List D)) (a0_0 : Int) (a0_1 : List (List D)) (a0_2 : List (List D)) {k0 kk0 : Bool → Option R} (hq0 : ∀ x0, k0 x0 = kk0 x0) : network_Good_p10 n a1 a0_0 a0_1 a0_2 k0 = network_Good_p10 n a1 a0_0 a0_1 a0_2 kk0 := by
  obtain rfl : k0 = kk0 := funext fun x0 => hq0 x0
  rfl
theorem network_Good_p11_congr {R : Type} (n : Nat) (a0_0 : Int) (a0_1 : List (List D)) (a0_2 : List (List D)) (a1 : List (List D)) {k0 kk0 : Bool → Option R} (hq0 : ∀ x0, k0 x0 = kk0 x0) : network_Good_p11 n a0_0 a0_1 a0_2 a1 k0 = network_Good_p11 n a0_0 a0_1 a0_2 a1 kk0 := by
  obtain rfl : k0 = kk0 := funext fun x0 => hq0 x0
  rfl
theorem network_Good_p1_eq {R : Type} (n : Nat) (a0_0 : Int) (a0_1 : List (List D)) (a0_2 : List (List D)) (a1 : List (List D)) (k : Exit → St → Option R) : vexec (network_Good_C n) n network_Good_c1 ⟨33, [(0, .ag [.d (D.int .i64 a0_0), .d (D.sl 3 a0_1), .d (D.sl 6 a0_2)]), (1, .d (D.sl 1 a1))], []⟩ k = network_Good_p1 n a0_0 a0_1 a0_2 a1 (k .normal ⟨33, [(1, .d (D.sl 1 a1)), (2, .ptr 2 0)], [(2, .box [.d (D.int .i64 a0_0), .d (D.sl 3 a0_1), .d (D.sl 6 a0_2)])]⟩) := by kernel_rfl
theorem network_Good_p2_eq {R : Type} (n : Nat) (a1 : List (List D)) (a0_0 : Int) (a0_1 : List (List D)) (a0_2 : List (List D)) (k : Exit → St → Option R) : vexec (network_Good_C n) n network_Good_c2 ⟨33, [(1, .d (D.sl 1 a1)), (2, .ptr 2 0)], [(2, .box [.d (D.int .i64 a0_0), .d (D.sl 3 a0_1), .d (D.sl 6 a0_2)])]⟩ k = network_Good_p2 n a1 a0_0 a0_1 a0_2 (k .ret ⟨33, [(4, .d (D.bool false))], []⟩) (fun z2 => k .normal ⟨33, [(1, .d (D.sl 1 a1)), (2, .ptr 2 0), (17, .d (D.bool z2))], [(2, .box [.d (D.int .i64 a0_0), .d (D.sl 3 a0_1), .d (D.sl 6 a0_2)])]⟩) := by kernel_rfl
theorem network_Good_p3_eq {R : Type} (n : Nat) (a1 : List (List D)) (w3 : Bool) (a0_0 : Int) (a0_1 : List (List D)) (a0_2 : List (List D)) (k : Exit → St → Option R) : vexec (network_Good_C n) n network_Good_c3 ⟨33, [(1, .d (D.sl 1 a1)), (2, .ptr 2 0), (17, .d (D.bool w3))], [(2, .box [.d (D.int .i64 a0_0), .d (D.sl 3 a0_1), .d (D.sl 6 a0_2)])]⟩ k = network_Good_p3 n a1 w3 a0_0 a0_1 a0_2 (fun z4 => k .normal ⟨33, [(2, .ptr 2 0), (18, .d (D.sl 1 a1)), (19, .d (D.int .i64 z4)), (20, .d (D.int .i64 (0 : Int)))], [(2, .box [.d (D.int .i64 a0_0), .d (D.sl 3 a0_1), .d (D.sl 6 a0_2)])]⟩) := by kernel_rfl
theorem network_Good_p4_eq {R : Type} (n : Nat) (a1 : List (List D)) (w5 : Int) (h8 : Int) (a0_0 : Int) (a0_1 : List (List D)) (a0_2 : List (List D)) (k : Exit → St → Option R) : vexec (network_Good_C n) n network_Good_c4 ⟨33, [(2, .ptr 2 0), (18, .d (D.sl 1 a1)), (19, .d (D.int .i64 w5)), (20, .d (D.int .i64 h8))], [(2, .box [.d (D.int .i64 a0_0), .d (D.sl 3 a0_1), .d (D.sl 6 a0_2)])]⟩ k = network_Good_p4 n a1 w5 h8 a0_0 a0_1 a0_2 (k .ret ⟨33, [(4, .d (D.bool false))], []⟩) (fun z20 => k .normal ⟨33, [(2, .ptr 2 0), (18, .d (D.sl 1 a1)), (19, .d (D.int .i64 w5)), (20, .d (D.int .i64 z20))], [(2, .box [.d (D.int .i64 a0_0), .d (D.sl 3 a0_1), .d (D.sl 6 a0_2)])]⟩) (fun z21 => k (.exit 0) ⟨33, [(2, .ptr 2 0), (18, .d (D.sl 1 a1)), (19, .d (D.int .i64 w5)), (20, .d (D.int .i64 h8)), (21, .d (D.bool z21))], [(2, .box [.d (D.int .i64 a0_0), .d (D.sl 3 a0_1), .d (D.sl 6 a0_2)])]⟩) := by kernel_rfl
theorem network_Good_r5_eq {R : Type} (n : Nat) (a1 : List (List D)) (w5 : Int) (a0_0 : Int) (a0_1 : List (List D)) (a0_2 : List (List D)) (k : Exit → St → Option R) : ∀ (m : Nat) (h8 : Int), loopN (vexec (network_Good_C n) n network_Good_c4) m ⟨33, [(2, .ptr 2 0), (18, .d (D.sl 1 a1)), (19, .d (D.int .i64 w5)), (20, .d (D.int .i64 h8))], [(2, .box [.d (D.int .i64 a0_0), .d (D.sl 3 a0_1), .d (D.sl 6 a0_2)])]⟩ k = network_Good_r5 n a1 w5 a0_0 a0_1 a0_2 (k .ret ⟨33, [(4, .d (D.bool false))], []⟩) (fun h8 w23 => k (.exit 0) ⟨33, [(2, .ptr 2 0), (18, .d (D.sl 1 a1)), (19, .d (D.int .i64 w5)), (20, .d (D.int .i64 h8)), (21, .d (D.bool w23))], [(2, .box [.d (D.int .i64 a0_0), .d (D.sl 3 a0_1), .d (D.sl 6 a0_2)])]⟩) m h8
  | 0, _ => rfl
  | m + 1, h8 => (network_Good_p4_eq n a1 w5 h8 a0_0 a0_1 a0_2 (loopK (vexec (network_Good_C n) n network_Good_c4) m k)).trans (network_Good_p4_congr n a1 w5 h8 a0_0 a0_1 a0_2 (rfl) (fun w22 => network_Good_r5_eq n a1 w5 a0_0 a0_1 a0_2 k m w22) (fun w23 => rfl))
theorem network_Good_p5_eq {R : Type} (n : Nat) (a1 : List (List D)) (w5 : Int) (a0_0 : Int) (a0_1 : List (List D)) (a0_2 : List (List D)) (k : Exit → St → Option R) : vexec (network_Good_C n) n network_Good_c5 ⟨33, [(2, .ptr 2 0), (18, .d (D.sl 1 a1)), (19, .d (D.int .i64 w5)), (20, .d (D.int .i64 (0 : Int)))], [(2, .box [.d (D.int .i64 a0_0), .d (D.sl 3 a0_1), .d (D.sl 6 a0_2)])]⟩ k = network_Good_p5 n a1 w5 a0_0 a0_1 a0_2 (k .ret ⟨33, [(4, .d (D.bool false))], []⟩) (fun h8 w23 => k (.exit 0) ⟨33, [(2, .ptr 2 0), (18, .d (D.sl 1 a1)), (19, .d (D.int .i64 w5)), (20, .d (D.int .i64 h8)), (21, .d (D.bool w23))], [(2, .box [.d (D.int .i64 a0_0), .d (D.sl 3 a0_1), .d (D.sl 6 a0_2)])]⟩) := by
  rw [network_Good_c5_eq]
  exact network_Good_r5_eq n a1 w5 a0_0 a0_1 a0_2 k n (0 : Int)
theorem network_Good_p6_eq {R : Type} (n : Nat) (a1 : List (List D)) (w5 : Int) (a0_0 : Int) (a0_1 : List (List D)) (a0_2 : List (List D)) (k : Exit → St → Option R) : vexec (network_Good_C n) n network_Good_c6 ⟨33, [(2, .ptr 2 0), (18, .d (D.sl 1 a1)), (19, .d (D.int .i64 w5)), (20, .d (D.int .i64 (0 : Int)))], [(2, .box [.d (D.int .i64 a0_0), .d (D.sl 3 a0_1), .d (D.sl 6 a0_2)])]⟩ k = network_Good_p6 n a1 w5 a0_0 a0_1 a0_2 (k .ret ⟨33, [(4, .d (D.bool false))], []⟩) (fun w24 w25 => k .normal ⟨33, [(2, .ptr 2 0), (18, .d (D.sl 1 a1)), (19, .d (D.int .i64 w5)), (20, .d (D.int .i64 w24)), (21, .d (D.bool w25))], [(2, .box [.d (D.int .i64 a0_0), .d (D.sl 3 a0_1), .d (D.sl 6 a0_2)])]⟩) := by
  rw [network_Good_c6_eq]
  unfold network_Good_p6
  exact (network_Good_p5_eq n a1 w5 a0_0 a0_1 a0_2 (blockK 0 k)).trans (network_Good_p5_congr n a1 w5 a0_0 a0_1 a0_2 (rfl) (fun w24 w25 => rfl))
theorem network_Good_p7_eq {R : Type} (n : Nat) (a1 : List (List D)) (w3 : Bool) (a0_0 : Int) (a0_1 : List (List D)) (a0_2 : List (List D)) (k : Exit → St → Option R) : vexec (network_Good_C n) n network_Good_c7 ⟨33, [(1, .d (D.sl 1 a1)), (2, .ptr 2 0), (17, .d (D.bool w3))], [(2, .box [.d (D.int .i64 a0_0), .d (D.sl 3 a0_1), .d (D.sl 6 a0_2)])]⟩ k = network_Good_p7 n a1 w3 a0_0 a0_1 a0_2 (k .ret ⟨33, [(4, .d (D.bool false))], []⟩) (fun w5 w26 w27 => k .normal ⟨33, [(2, .ptr 2 0), (18, .d (D.sl 1 a1)), (19, .d (D.int .i64 w5)), (20, .d (D.int .i64 w26)), (21, .d (D.bool w27))], [(2, .box [.d (D.int .i64 a0_0), .d (D.sl 3 a0_1), .d (D.sl 6 a0_2)])]⟩) := by
  rw [network_Good_c7_eq]
  unfold network_Good_p7
  exact (network_Good_p3_eq n a1 w3 a0_0 a0_1 a0_2 (seqK (network_Good_C n) n network_Good_c6 k)).trans (network_Good_p3_congr n a1 w3 a0_0 a0_1 a0_2 (fun w5 => network_Good_p6_eq n a1 w5 a0_0 a0_1 a0_2 k))
theorem network_Good_p8_eq {R : Type} (n : Nat) (a1 : List (List D)) (w28 : Int) (w29 : Int) (w30 : Bool) (a0_0 : Int) (a0_1 : List (List D)) (a0_2 : List (List D)) (k : Exit → St → Option R) : vexec (network_Good_C n) n network_Good_c8 ⟨33, [(2, .ptr 2 0), (18, .d (D.sl 1 a1)), (19, .d (D.int .i64 w28)), (20, .d (D.int .i64 w29)), (21, .d (D.bool w30))], [(2, .box [.d (D.int .i64 a0_0), .d (D.sl 3 a0_1), .d (D.sl 6 a0_2)])]⟩ k = network_Good_p8 n a1 w28 w29 w30 a0_0 a0_1 a0_2 (k .ret ⟨33, [(4, .d (D.bool true))], []⟩) := by kernel_rfl
theorem network_Good_p9_eq {R : Type} (n : Nat) (a1 : List (List D)) (w3 : Bool) (a0_0 : Int) (a0_1 : List (List D)) (a0_2 : List (List D)) (k : Exit → St → Option R) : vexec (network_Good_C n) n network_Good_c9 ⟨33, [(1, .d (D.sl 1 a1)), (2, .ptr 2 0), (17, .d (D.bool w3))], [(2, .box [.d (D.int .i64 a0_0), .d (D.sl 3 a0_1), .d (D.sl 6 a0_2)])]⟩ k = network_Good_p9 n a1 w3 a0_0 a0_1 a0_2 (fun z31 => k .ret ⟨33, [(4, .d (D.bool z31))], []⟩) := by
  rw [network_Good_c9_eq]
  unfold network_Good_p9
  exact (network_Good_p7_eq n a1 w3 a0_0 a0_1 a0_2 (seqK (network_Good_C n) n network_Good_c8 k)).trans (network_Good_p7_congr n a1 w3 a0_0 a0_1 a0_2 (rfl) (fun w28 w29 w30 => network_Good_p8_eq n a1 w28 w29 w30 a0_0 a0_1 a0_2 k))
theorem network_Good_p10_eq {R : Type} (n : Nat) (a1 : List (List D)) (a0_0 : Int) (a0_1 : List (List D)) (a0_2 : List (List D)) (k : Exit → St → Option R) : vexec (network_Good_C n) n network_Good_c10 ⟨33, [(1, .d (D.sl 1 a1)), (2, .ptr 2 0)], [(2, .box [.d (D.int .i64 a0_0), .d (D.sl 3 a0_1), .d (D.sl 6 a0_2)])]⟩ k = network_Good_p10 n a1 a0_0 a0_1 a0_2 (fun z33 => k .ret ⟨33, [(4, .d (D.bool z33))], []⟩) := by
  rw [network_Good_c10_eq]
  unfold network_Good_p10
  exact (network_Good_p2_eq n a1 a0_0 a0_1 a0_2 (seqK (network_Good_C n) n network_Good_c9 k)).trans (network_Good_p2_congr n a1 a0_0 a0_1 a0_2 (rfl) (fun w3 => network_Good_p9_eq n a1 w3 a0_0 a0_1 a0_2 k))
theorem network_Good_p11_eq {R : Type} (n : Nat) (a0_0 : Int) (a0_1 : List (List D)) (a0_2 : List (List D)) (a1 : List (List D)) (k : Exit → St → Option R) : vexec (network_Good_C n) n network_Good_c0 ⟨33, [(0, .ag [.d (D.int .i64 a0_0), .d (D.sl 3 a0_1), .d (D.sl 6 a0_2)]), (1, .d (D.sl 1 a1))], []⟩ k = network_Good_p11 n a0_0 a0_1 a0_2 a1 (fun w34 => k .ret ⟨33, [(4, .d (D.bool w34))], []⟩) := by
  rw [network_Good_c0_eq]
  unfold network_Good_p11
  exact (network_Good_p1_eq n a0_0 a0_1 a0_2 a1 (seqK (network_Good_C n) n network_Good_c10 k)).trans (network_Good_p1_congr n a0_0 a0_1 a0_2 a1 (network_Good_p10_eq n a1 a0_0 a0_1 a0_2 k))
theorem network_Good_vfn {R : Type} (n : Nat) (a0_0 : Int) (a0_1 : List (List D)) (a0_2 : List (List D)) (a1 : List (List D)) (K : AV → Option R) : vfn (network_Good_C n) n Try.f27 [.ag [.d (D.int .i64 a0_0), .d (D.sl 3 a0_1), .d (D.sl 6 a0_2)], .d (D.sl 1 a1)] [] (retF [[0]] K) = network_Good n a0_0 a0_1 a0_2 a1 (fun r0 => K (.d (D.bool r0))) :=
  (show vfn (network_Good_C n) n Try.f27 [.ag [.d (D.int .i64 a0_0), .d (D.sl 3 a0_1), .d (D.sl 6 a0_2)], .d (D.sl 1 a1)] [] (retF [[0]] K) = vexec (network_Good_C n) n network_Good_c0 ⟨33, [(0, .ag [.d (D.int .i64 a0_0), .d (D.sl 3 a0_1), .d (D.sl 6 a0_2)]), (1, .d (D.sl 1 a1))], []⟩ (retX network_Good_tt [.tmp 4] (retF [[0]] K)) from vfn_at (by kernel_rfl) (by kernel_rfl) rfl (by kernel_rfl) rfl (by kernel_rfl) rfl).trans ((network_Good_p11_eq n a0_0 a0_1 a0_2 a1 (retX network_Good_tt [.tmp 4] (retF [[0]] K))).trans (by kernel_rfl))
def network_Good_K : AV → Option (Bool) := fun av => match av with
  | .d (D.bool r0) => some r0
  | _ => none
def network_Good_e (n : Nat) : Entry := fun _ _ g avs _ k => match avs with
  | [c0, c1] => 
    prG c0 fun l0 => (match l0 with
    | [c0_0, c0_1, c0_2] => prI g .i64 c0_0 fun a0_0 => prS g 3 c0_1 fun a0_1 => prS g 6 c0_2 fun a0_2 => prS g 1 c1 fun a1 => 
    gb g (network_Good n a0_0 a0_1 a0_2 a1 some) false fun r => k ⟨.d (D.bool r), [], []⟩
    | _ => none)
  | _ => none
theorem network_Good_ok (n : Nat) : EntryOK Try.prog 27 (network_Good_e n) := by
  intro R site g avs hl k r h
  unfold network_Good_e at h
  split at h
  rotate_left
  · cases h
  replace h := prG_some h
  obtain ⟨l0, h, e0⟩ := h
  subst e0
  split at h
  rotate_left
  · cases h
  replace h := prI_some h
  obtain ⟨a0_0, h, le0⟩ := h
  replace h := prS_some h
  obtain ⟨a0_1, h, le1⟩ := h
  replace h := prS_some h
  obtain ⟨a0_2, h, le2⟩ := h
  replace h := prS_some h
  obtain ⟨a1, h, le3⟩ := h
  replace h := gb_some h
  obtain ⟨res, h, hr⟩ := h
  refine ⟨_, h, fun hg => CallOK.conv (avs' := [.ag [.d (D.int .i64 a0_0), .d (D.sl 3 a0_1), .d (D.sl 6 a0_2)], .d (D.sl 1 a1)]) (.cons (.ag (.cons (le0 hg) (.cons (le1 hg) (.cons (le2 hg) (.nil))))) (.cons (le3 hg) (.nil))) (callOK_fix (K := network_Good_K) (res := res) (network_Good_VC n) (fn := Try.f27) (n := n) (by kernel_rfl) (by kernel_rfl) (by kernel_rfl) (ss := [[0]]) rfl ?_ ?_)⟩
  · exact (network_Good_vfn n a0_0 a0_1 a0_2 a1 network_Good_K).trans (hr hg)
  · intro x hx
    unfold network_Good_K at hx
    split at hx
    · injection hx with hx; subst hx; rfl
    · cases hx
end Go.Vx
/-
  arith_Mod: the interpreter computes the pure function
-/
set_option linter.unusedVariables false
set_option linter.unusedSimpArgs false
set_option maxRecDepth 100000
namespace Go.Vx
open Go.Proofs
noncomputable def arith_Mod_c0 : Code := bodyOf Try.f36
def arith_Mod_tt : TT := [(3, ⟨.int .i64, 1, 8, [.int .i64 0], [.int .i64 0], [], none⟩)]
theorem arith_Mod_tt_eq : mkTT Try.prog [3] = arith_Mod_tt := by kernel_rfl
def arith_Mod_cfg : List (Nat × Cfg) := [(0, ⟨[0, 1], [], [], [], []⟩), (1, ⟨[0, 1, 7], [], [], [], []⟩), (2, ⟨[4], [], [], [], []⟩), (3, ⟨[1, 5], [], [], [], []⟩), (4, ⟨[1, 5, 12], [], [], [], []⟩), (5, ⟨[5], [], [], [], []⟩), (6, ⟨[4], [], [], [], []⟩)]
def arith_Mod_C (n : Nat) : VC := ⟨specOf [], arith_Mod_tt, arith_Mod_cfg⟩
theorem arith_Mod_ents (n : Nat) : EntsOK Try.prog [] := trivial
theorem arith_Mod_VC (n : Nat) : VCOk Try.prog (arith_Mod_C n) := ⟨specOf_ok (arith_Mod_ents n), (arith_Mod_tt_eq ▸ mkTT_ok _ : TOk Try.prog arith_Mod_tt), by kernel_rfl⟩
theorem arith_Mod_p1_congr {R : Type} (n : Nat) (a0 : Int) (a1 : Int) {k0 kk0 : Int → Option R} (hq0 : ∀ x0, k0 x0 = kk0 x0) : arith_Mod_p1 n a0 a1 k0 = arith_Mod_p1 n a0 a1 kk0 := by
  obtain rfl : k0 = kk0 := funext fun x0 => hq0 x0
  rfl
theorem arith_Mod_p1_eq {R : Type} (n : Nat) (a0 : Int) (a1 : Int) (k : Exit → St → Option R) : vexec (arith_Mod_C n) n arith_Mod_c0 ⟨17, [(0, .d (D.int .i64 a0)), (1, .d (D.int .i64 a1))], []⟩ k = arith_Mod_p1 n a0 a1 (fun z2 => k .ret ⟨17, [(4, .d (D.int .i64 z2))], []⟩) := by kernel_rfl
theorem arith_Mod_vfn {R : Type} (n : Nat) (a0 : Int) (a1 : Int) (K : AV → Option R) : vfn (arith_Mod_C n) n Try.f36 [.d (D.int .i64 a0), .d (D.int .i64 a1)] [] (retF [[0]] K) = arith_Mod n a0 a1 (fun r0 => K (.d (D.int .i64 r0))) :=
  (show vfn (arith_Mod_C n) n Try.f36 [.d (D.int .i64 a0), .d (D.int .i64 a1)] [] (retF [[0]] K) = vexec (arith_Mod_C n) n arith_Mod_c0 ⟨17, [(0, .d (D.int .i64 a0)), (1, .d (D.int .i64 a1))], []⟩ (retX arith_Mod_tt [.tmp 4] (retF [[0]] K)) from vfn_at (by kernel_rfl) (by kernel_rfl) rfl (by kernel_rfl) rfl (by kernel_rfl) rfl).trans ((arith_Mod_p1_eq n a0 a1 (retX arith_Mod_tt [.tmp 4] (retF [[0]] K))).trans (by kernel_rfl))
def arith_Mod_K : AV → Option (Int) := fun av => match av with
  | .d (D.int .i64 r0) => some r0
  | _ => none
def arith_Mod_e (n : Nat) : Entry := fun _ _ g avs _ k => match avs with
  | [c0, c1] => prI g .i64 c0 fun a0 => prI g .i64 c1 fun a1 => 
    gb g (arith_Mod n a0 a1 some) 0 fun r => k ⟨.d (D.int .i64 r), [], []⟩
  | _ => none
theorem arith_Mod_ok (n : Nat) : EntryOK Try.prog 36 (arith_Mod_e n) := by
  intro R site g avs hl k r h
  unfold arith_Mod_e at h
  split at h
  rotate_left
  · cases h
  replace h := prI_some h
  obtain ⟨a0, h, le0⟩ := h
  replace h := prI_some h
  obtain ⟨a1, h, le1⟩ := h
  replace h := gb_some h
  obtain ⟨res, h, hr⟩ := h
  refine ⟨_, h, fun hg => CallOK.conv (avs' := [.d (D.int .i64 a0), .d (D.int .i64 a1)]) (.cons (le0 hg) (.cons (le1 hg) (.nil))) (callOK_fix (K := arith_Mod_K) (res := res) (arith_Mod_VC n) (fn := Try.f36) (n := n) (by kernel_rfl) (by kernel_rfl) (by kernel_rfl) (ss := [[0]]) rfl ?_ ?_)⟩
  · exact (arith_Mod_vfn n a0 a1 arith_Mod_K).trans (hr hg)
  · intro x hx
    unfold arith_Mod_K at hx
    split at hx
    · injection hx with hx; subst hx; rfl
    · cases hx
end Go.Vx
/-
  network_duration: the interpreter computes the pure function
-/
set_option linter.unusedVariables false
set_option linter.unusedSimpArgs false
set_option maxRecDepth 100000
namespace Go.Vx
open Go.Proofs
noncomputable def network_duration_c0 : Code := bodyOf Try.f28
def network_duration_tt : TT := [(3, ⟨.int .i64, 1, 8, [.int .i64 0], [.int .i64 0], [], none⟩), (22, ⟨.sl 3 1, 1, 24, [.slice none 0 0], [.sl 1 []], [], none⟩), (26, ⟨.struct, 3, 56, [.int .i64 0, .slice none 0 0, .slice none 0 0], [.int .i64 0, .sl 3 [], .sl 6 []], [(0, 3), (1, 23), (2, 24)], none⟩), (31, ⟨.struct, 6, 48, [.int .i64 0, .int .i64 0, .int .i64 0, .int .i64 0, .int .i64 0, .int .i64 0], [.int .i64 0, .int .i64 0, .int .i64 0, .int .i64 0, .int .i64 0, .int .i64 0], [(0, 3), (1, 3), (2, 3), (3, 3), (4, 3), (5, 3)], some [.int .i64, .int .i64, .int .i64, .int .i64, .int .i64, .int .i64]⟩)]
theorem network_duration_tt_eq : mkTT Try.prog [3, 22, 26, 31] = network_duration_tt := by kernel_rfl
def network_duration_cfg : List (Nat × Cfg) := [(0, ⟨[1, 3, 5], [(3, 3), (5, 5)], [], [], []⟩), (1, ⟨[6], [], [], [], []⟩)]
def network_duration_C (n : Nat) : VC := ⟨specOf [(36, arith_Mod_e n)], network_duration_tt, network_duration_cfg⟩
theorem network_duration_ents (n : Nat) : EntsOK Try.prog [(36, arith_Mod_e n)] := ⟨arith_Mod_ok n, trivial⟩
theorem network_duration_VC (n : Nat) : VCOk Try.prog (network_duration_C n) := ⟨specOf_ok (network_duration_ents n), (network_duration_tt_eq ▸ mkTT_ok _ : TOk Try.prog network_duration_tt), by kernel_rfl⟩
theorem network_duration_p1_congr {R : Type} (n : Nat) (a0_0 : Int) (a0_1 : List (List D)) (a0_2 : List (List D)) (a1 : List (List D)) (a2_0 : Int) (a2_1 : Int) (a2_2 : Int) (a2_3 : Int) (a2_4 : Int) (a2_5 : Int) {k0 kk0 : Int → Option R} (hq0 : ∀ x0, k0 x0 = kk0 x0) : network_duration_p1 n a0_0 a0_1 a0_2 a1 a2_0 a2_1 a2_2 a2_3 a2_4 a2_5 k0 = network_duration_p1 n a0_0 a0_1 a0_2 a1 a2_0 a2_1 a2_2 a2_3 a2_4 a2_5 kk0 := by
  obtain rfl : k0 = kk0 := funext fun x0 => hq0 x0
  rfl
theorem network_duration_p1_eq {R : Type} (n : Nat) (a0_0 : Int) (a0_1 : List (List D)) (a0_2 : List (List D)) (a1 : List (List D)) (a2_0 : Int) (a2_1 : Int) (a2_2 : Int) (a2_3 : Int) (a2_4 : Int) (a2_5 : Int) (k : Exit → St → Option R) : vexec (network_duration_C n) n network_duration_c0 ⟨27, [(0, .ag [.d (D.int .i64 a0_0), .d (D.sl 3 a0_1), .d (D.sl 6 a0_2)]), (1, .d (D.sl 1 a1)), (2, .ag [.d (D.int .i64 a2_0), .d (D.int .i64 a2_1), .d (D.int .i64 a2_2), .d (D.int .i64 a2_3), .d (D.int .i64 a2_4), .d (D.int .i64 a2_5)])], []⟩ k = network_duration_p1 n a0_0 a0_1 a0_2 a1 a2_0 a2_1 a2_2 a2_3 a2_4 a2_5 (fun z8 => k .ret ⟨27, [(6, .d (D.int .i64 z8))], []⟩) := by kernel_rfl
theorem network_duration_vfn {R : Type} (n : Nat) (a0_0 : Int) (a0_1 : List (List D)) (a0_2 : List (List D)) (a1 : List (List D)) (a2_0 : Int) (a2_1 : Int) (a2_2 : Int) (a2_3 : Int) (a2_4 : Int) (a2_5 : Int) (K : AV → Option R) : vfn (network_duration_C n) n Try.f28 [.ag [.d (D.int .i64 a0_0), .d (D.sl 3 a0_1), .d (D.sl 6 a0_2)], .d (D.sl 1 a1), .ag [.d (D.int .i64 a2_0), .d (D.int .i64 a2_1), .d (D.int .i64 a2_2), .d (D.int .i64 a2_3), .d (D.int .i64 a2_4), .d (D.int .i64 a2_5)]] [] (retF [[0]] K) = network_duration n a0_0 a0_1 a0_2 a1 a2_0 a2_1 a2_2 a2_3 a2_4 a2_5 (fun r0 => K (.d (D.int .i64 r0))) :=
  (show vfn (network_duration_C n) n Try.f28 [.ag [.d (D.int .i64 a0_0), .d (D.sl 3 a0_1), .d (D.sl 6 a0_2)], .d (D.sl 1 a1), .ag [.d (D.int .i64 a2_0), .d (D.int .i64 a2_1), .d (D.int .i64 a2_2), .d (D.int .i64 a2_3), .d (D.int .i64 a2_4), .d (D.int .i64 a2_5)]] [] (retF [[0]] K) = vexec (network_duration_C n) n network_duration_c0 ⟨27, [(0, .ag [.d (D.int .i64 a0_0), .d (D.sl 3 a0_1), .d (D.sl 6 a0_2)]), (1, .d (D.sl 1 a1)), (2, .ag [.d (D.int .i64 a2_0), .d (D.int .i64 a2_1), .d (D.int .i64 a2_2), .d (D.int .i64 a2_3), .d (D.int .i64 a2_4), .d (D.int .i64 a2_5)])], []⟩ (retX network_duration_tt [.tmp 6] (retF [[0]] K)) from vfn_at (by kernel_rfl) (by kernel_rfl) rfl (by kernel_rfl) rfl (by kernel_rfl) rfl).trans ((network_duration_p1_eq n a0_0 a0_1 a0_2 a1 a2_0 a2_1 a2_2 a2_3 a2_4 a2_5 (retX network_duration_tt [.tmp 6] (retF [[0]] K))).trans (by kernel_rfl))
def network_duration_K : AV → Option (Int) := fun av => match av with
  | .d (D.int .i64 r0) => some r0
  | _ => none
def network_duration_e (n : Nat) : Entry := fun _ _ g avs _ k => match avs with
  | [c0, c1, c2] => 
    prG c0 fun l0 => (match l0 with
    | [c0_0, c0_1, c0_2] => prI g .i64 c0_0 fun a0_0 => prS g 3 c0_1 fun a0_1 => prS g 6 c0_2 fun a0_2 => prS g 1 c1 fun a1 => 
    prG c2 fun l2 => (match l2 with
    | [c2_0, c2_1, c2_2, c2_3, c2_4, c2_5] => prI g .i64 c2_0 fun a2_0 => prI g .i64 c2_1 fun a2_1 => prI g .i64 c2_2 fun a2_2 => prI g .i64 c2_3 fun a2_3 => prI g .i64 c2_4 fun a2_4 => prI g .i64 c2_5 fun a2_5 => 
    gb g (network_duration n a0_0 a0_1 a0_2 a1 a2_0 a2_1 a2_2 a2_3 a2_4 a2_5 some) 0 fun r => k ⟨.d (D.int .i64 r), [], []⟩
    | _ => none)
    | _ => none)
  | _ => none
theorem network_duration_ok (n : Nat) : EntryOK Try.prog 28 (network_duration_e n) := by
  intro R site g avs hl k r h
  unfold network_duration_e at h
  split at h
  rotate_left
  · cases h
  replace h := prG_some h
  obtain ⟨l0, h, e0⟩ := h
  subst e0
  split at h
  rotate_left
  · cases h
  replace h := prI_some h
  obtain ⟨a0_0, h, le0⟩ := h
  replace h := prS_some h
  obtain ⟨a0_1, h, le1⟩ := h
  replace h := prS_some h
  obtain ⟨a0_2, h, le2⟩ := h
  replace h := prS_some h
  obtain ⟨a1, h, le3⟩ := h
  replace h := prG_some h
  obtain ⟨l2, h, e2⟩ := h
  subst e2
  split at h
  rotate_left
  · cases h
  replace h := prI_some h
  obtain ⟨a2_0, h, le4⟩ := h
  replace h := prI_some h
  obtain ⟨a2_1, h, le5⟩ := h
  replace h := prI_some h
  obtain ⟨a2_2, h, le6⟩ := h
  replace h := prI_some h
  obtain ⟨a2_3, h, le7⟩ := h
  replace h := prI_some h
  obtain ⟨a2_4, h, le8⟩ := h
  replace h := prI_some h
  obtain ⟨a2_5, h, le9⟩ := h
  replace h := gb_some h
  obtain ⟨res, h, hr⟩ := h
  refine ⟨_, h, fun hg => CallOK.conv (avs' := [.ag [.d (D.int .i64 a0_0), .d (D.sl 3 a0_1), .d (D.sl 6 a0_2)], .d (D.sl 1 a1), .ag [.d (D.int .i64 a2_0), .d (D.int .i64 a2_1), .d (D.int .i64 a2_2), .d (D.int .i64 a2_3), .d (D.int .i64 a2_4), .d (D.int .i64 a2_5)]]) (.cons (.ag (.cons (le0 hg) (.cons (le1 hg) (.cons (le2 hg) (.nil))))) (.cons (le3 hg) (.cons (.ag (.cons (le4 hg) (.cons (le5 hg) (.cons (le6 hg) (.cons (le7 hg) (.cons (le8 hg) (.cons (le9 hg) (.nil)))))))) (.nil)))) (callOK_fix (K := network_duration_K) (res := res) (network_duration_VC n) (fn := Try.f28) (n := n) (by kernel_rfl) (by kernel_rfl) (by kernel_rfl) (ss := [[0]]) rfl ?_ ?_)⟩
  · exact (network_duration_vfn n a0_0 a0_1 a0_2 a1 a2_0 a2_1 a2_2 a2_3 a2_4 a2_5 network_duration_K).trans (hr hg)
  · intro x hx
    unfold network_duration_K at hx
    split at hx
    · injection hx with hx; subst hx; rfl
    · cases hx
end Go.Vx
/-
  network_First: the interpreter computes the pure function
-/
set_option linter.unusedVariables false
set_option linter.unusedSimpArgs false
set_option maxRecDepth 100000
namespace Go.Vx
open Go.Proofs
noncomputable def network_First_c0 : Code := bodyOf Try.f24
noncomputable def network_First_c1 : Code := cL (bodyOf Try.f24)
noncomputable def network_First_c2 : Code := cL (cR (bodyOf Try.f24))
noncomputable def network_First_c3 : Code := cL (cL (cR (cR (bodyOf Try.f24))))
noncomputable def network_First_c4 : Code := cB (cB (cR (cL (cR (cR (bodyOf Try.f24))))))
noncomputable def network_First_c5 : Code := cB (cR (cL (cR (cR (bodyOf Try.f24)))))
noncomputable def network_First_c6 : Code := cR (cL (cR (cR (bodyOf Try.f24))))
noncomputable def network_First_c7 : Code := cL (cR (cR (bodyOf Try.f24)))
noncomputable def network_First_c8 : Code := cR (cR (cR (bodyOf Try.f24)))
noncomputable def network_First_c9 : Code := cR (cR (bodyOf Try.f24))
noncomputable def network_First_c10 : Code := cR (bodyOf Try.f24)
theorem network_First_c5_eq : network_First_c5 = .loop network_First_c4 := by kernel_rfl
theorem network_First_c6_eq : network_First_c6 = .block 0 network_First_c5 := by kernel_rfl
theorem network_First_c7_eq : network_First_c7 = .seq network_First_c3 network_First_c6 := by kernel_rfl
theorem network_First_c9_eq : network_First_c9 = .seq network_First_c7 network_First_c8 := by kernel_rfl
theorem network_First_c10_eq : network_First_c10 = .seq network_First_c2 network_First_c9 := by kernel_rfl
theorem network_First_c0_eq : network_First_c0 = .seq network_First_c1 network_First_c10 := by kernel_rfl
def network_First_tt : TT := [(3, ⟨.int .i64, 1, 8, [.int .i64 0], [.int .i64 0], [], none⟩), (24, ⟨.sl 31 6, 1, 24, [.slice none 0 0], [.sl 6 []], [], none⟩), (26, ⟨.struct, 3, 56, [.int .i64 0, .slice none 0 0, .slice none 0 0], [.int .i64 0, .sl 3 [], .sl 6 []], [(0, 3), (1, 23), (2, 24)], none⟩), (31, ⟨.struct, 6, 48, [.int .i64 0, .int .i64 0, .int .i64 0, .int .i64 0, .int .i64 0, .int .i64 0], [.int .i64 0, .int .i64 0, .int .i64 0, .int .i64 0, .int .i64 0, .int .i64 0], [(0, 3), (1, 3), (2, 3), (3, 3), (4, 3), (5, 3)], some [.int .i64, .int .i64, .int .i64, .int .i64, .int .i64, .int .i64]⟩)]
theorem network_First_tt_eq : mkTT Try.prog [3, 24, 26, 31] = network_First_tt := by kernel_rfl
def network_First_cfg : List (Nat × Cfg) := [(0, ⟨[1, 2], [(2, 2)], [], [], []⟩), (1, ⟨[1, 2, 11], [(2, 2)], [], [], []⟩), (2, ⟨[4, 5], [], [], [], []⟩), (3, ⟨[1, 2, 13, 14, 15], [(2, 2)], [], [], []⟩), (4, ⟨[1, 2, 13, 14, 15, 16], [(2, 2)], [], [], []⟩), (5, ⟨[1, 2, 6, 7, 13, 14, 15], [(2, 2), (7, 7)], [], [], []⟩), (6, ⟨[1, 2, 6, 13, 14, 15, 26], [(2, 2)], [], [], []⟩), (7, ⟨[4, 5], [], [], [], []⟩), (8, ⟨[1, 2, 13, 14, 15], [(2, 2)], [], [], []⟩), (9, ⟨[4, 5], [], [], [], []⟩)]
def network_First_C (n : Nat) : VC := ⟨specOf [(27, network_Good_e n), (28, network_duration_e n)], network_First_tt, network_First_cfg⟩
theorem network_First_ents (n : Nat) : EntsOK Try.prog [(27, network_Good_e n), (28, network_duration_e n)] := ⟨network_Good_ok n, ⟨network_duration_ok n, trivial⟩⟩
theorem network_First_VC (n : Nat) : VCOk Try.prog (network_First_C n) := ⟨specOf_ok (network_First_ents n), (network_First_tt_eq ▸ mkTT_ok _ : TOk Try.prog network_First_tt), by kernel_rfl⟩
theorem network_First_p1_congr {R : Type} (n : Nat) (a0_0 : Int) (a0_1 : List (List D)) (a0_2 : List (List D)) (a1 : List (List D)) {k0 kk0 : Option R} (hq0 : k0 = kk0) : network_First_p1 n a0_0 a0_1 a0_2 a1 k0 = network_First_p1 n a0_0 a0_1 a0_2 a1 kk0 := by
  obtain rfl : k0 = kk0 := hq0
  rfl
theorem network_First_p2_congr {R : Type} (n : Nat) (a1 : List (List D)) (a0_0 : Int) (a0_1 : List (List D)) (a0_2 : List (List D)) {k0 kk0 : Option R} {k1 kk1 : Bool → Option R} (hq0 : k0 = kk0) (hq1 : ∀ x0, k1 x0 = kk1 x0) : network_First_p2 n a1 a0_0 a0_1 a0_2 k0 k1 = network_First_p2 n a1 a0_0 a0_1 a0_2 kk0 kk1 := by
  obtain rfl : k0 = kk0 := hq0
  obtain rfl : k1 = kk1 := funext fun x0 => hq1 x0
  rfl
theorem network_First_p3_congr {R : Type} (n : Nat) (a1 : List (List D)) (w3 : Bool) (a0_0 : Int) (a0_1 : List (List D)) (a0_2 : List (List D)) {k0 kk0 : Int → Option R} (hq0 : ∀ x0, k0 x0 = kk0 x0) : network_First_p3 n a1 w3 a0_0 a0_1 a0_2 k0 = network_First_p3 n a1 w3 a0_0 a0_1 a0_2 kk0 := by
  obtain rfl : k0 = kk0 := funext fun x0 => hq0 x0
  rfl
theorem network_First_p4_congr {R : Type} (n : Nat) (a1 : List (List D)) (a0_2 : List (List D)) (w5 : Int) (h9 : Int) (a0_0 : Int) (a0_1 : List (List D)) {k0 kk0 : Option R} {k1 kk1 : Int → Option R} {k2 kk2 : Bool → Option R} (hq0 : k0 = kk0) (hq1 : ∀ x0, k1 x0 = kk1 x0) (hq2 : ∀ x0, k2 x0 = kk2 x0) : network_First_p4 n a1 a0_2 w5 h9 a0_0 a0_1 k0 k1 k2 = network_First_p4 n a1 a0_2 w5 h9 a0_0 a0_1 kk0 kk1 kk2 := by
  obtain rfl : k0 = kk0 := hq0
  obtain rfl : k1 = kk1 := funext fun x0 => hq1 x0
  obtain rfl : k2 = kk2 := funext fun x0 => hq2 x0
  rfl
theorem network_First_p5_congr {R : Type} (n : Nat) (a1 : List (List D)) (a0_2 : List (List D)) (w5 : Int) (a0_0 : Int) (a0_1 : List (List D)) {k0 kk0 : Int → Option R} {k1 kk1 : Int → Bool → Option R} (hq0 : ∀ x0, k0 x0 = kk0 x0) (hq1 : ∀ x0 x1, k1 x0 x1 = kk1 x0 x1) : network_First_p5 n a1 a0_2 w5 a0_0 a0_1 k0 k1 = network_First_p5 n a1 a0_2 w5 a0_0 a0_1 kk0 kk1 := by
  obtain rfl : k0 = kk0 := funext fun x0 => hq0 x0
  obtain rfl : k1 = kk1 := funext fun x0 => funext fun x1 => hq1 x0 x1
  rfl
theorem network_First_p6_congr {R : Type} (n : Nat) (a1 : List (List D)) (a0_2 : List (List D)) (w5 : Int) (a0_0 : Int) (a0_1 : List (List D)) {k0 kk0 : Int → Option R} {k1 kk1 : Int → Bool → Option R} (hq0 : ∀ x0, k0 x0 = kk0 x0) (hq1 : ∀ x0 x1, k1 x0 x1 = kk1 x0 x1) : network_First_p6 n a1 a0_2 w5 a0_0 a0_1 k0 k1 = network_First_p6 n a1 a0_2 w5 a0_0 a0_1 kk0 kk1 := by
  obtain rfl : k0 = kk0 := funext fun x0 => hq0 x0
  obtain rfl : k1 = kk1 := funext fun x0 => funext fun x1 => hq1 x0 x1
  rfl
theorem network_First_p7_congr {R : Type} (n : Nat) (a1 : List (List D)) (w3 : Bool) (a0_0 : Int) (a0_1 : List (List D)) (a0_2 : List (List D)) {k0 kk0 : Int → Option R} {k1 kk1 : Int → Int → Bool → Option R} (hq0 : ∀ x0, k0 x0 = kk0 x0) (hq1 : ∀ x0 x1 x2, k1 x0 x1 x2 = kk1 x0 x1 x2) : network_First_p7 n a1 w3 a0_0 a0_1 a0_2 k0 k1 = network_First_p7 n a1 w3 a0_0 a0_1 a0_2 kk0 kk1 := by
  obtain rfl : k0 = kk0 := funext fun x0 => hq0 x0
  obtain rfl : k1 = kk1 := funext fun x0 => funext fun x1 => funext fun x2 => hq1 x0 x1 x2
  rfl
theorem network_First_p8_congr {R : Type} (n : Nat) (a1 : List (List D)) (a0_2 : List (List D)) (w56 : Int) (w57 : Int) (w58 : Bool) (a0_0 : Int) (a0_1 : List (List D)) {k0 kk0 : Option R} (hq0 : k0 = kk0) : network_First_p8 n a1 a0_2 w56 w57 w58 a0_0 a0_1 k0 = network_First_p8 n a1 a0_2 w56 w57 w58 a0_0 a0_1 kk0 := by
  obtain rfl : k0 = kk0 := hq0
  rfl
theorem network_First_p9_congr {R : Type} (n : Nat) (a1 : List (List D)) (w3 : Bool) (a0_0 : Int) (a0_1 : List (List D)) (a0_2 : List (List D)) {k0 kk0 : Int → Bool → Option R} (hq0 : ∀ x0 x1, k0 x0 x1 = kk0 x0 x1) : network_First_p9 n a1 w3 a0_0 a0_1 a0_2 k0 = network_First_p9 n a1 w3 a0_0 a0_1 a0_2 kk0 := by
  obtain rfl : k0 = kk0 := funext fun x0 => funext fun x1 => hq0 x0 x1
  rfl
theorem network_First_p10_congr {R : Type} (n : Nat) (a1 : List (List D)) (a0_0 : Int) (a0_1 : List (List D)) (a0_2 : List (List D)) {k0 kk0 : Int → Bool → Option R} (hq0 : ∀ x0 x1, k0 x0 x1 = kk0 x0 x1) : network_First_p10 n a1 a0_0 a0_1 a0_2 k0 = network_First_p10 n a1 a0_0 a0_1 a0_2 kk0 := by
  obtain rfl : k0 = kk0 := funext fun x0 => funext fun x1 => hq0 x0 x1
  rfl
theorem network_First_p11_congr {R : Type} (n : Nat) (a0_0 : Int) (a0_1 : List (List D)) (a0_2 : List (List D)) (a1 : List (List D)) {k0 kk0 : Int → Bool → Option R} (hq0 : ∀ x0 x1, k0 x0 x1 = kk0 x0 x1) : network_First_p11 n a0_0 a0_1 a0_2 a1 k0 = network_First_p11 n a0_0 a0_1 a0_2 a1 kk0 := by
  obtain rfl : k0 = kk0 := funext fun x0 => funext fun x1 => hq0 x0 x1
  rfl
theorem network_First_p1_eq {R : Type} (n : Nat) (a0_0 : Int) (a0_1 : List (List D)) (a0_2 : List (List D)) (a1 : List (List D)) (k : Exit → St → Option R) : vexec (network_First_C n) n network_First_c1 ⟨29, [(0, .ag [.d (D.int .i64 a0_0), .d (D.sl 3 a0_1), .d (D.sl 6 a0_2)]), (1, .d (D.sl 1 a1))], []⟩ k = network_First_p1 n a0_0 a0_1 a0_2 a1 (k .normal ⟨29, [(1, .d (D.sl 1 a1)), (2, .ptr 2 0)], [(2, .box [.d (D.int .i64 a0_0), .d (D.sl 3 a0_1), .d (D.sl 6 a0_2)])]⟩) := by kernel_rfl
theorem network_First_p2_eq {R : Type} (n : Nat) (a1 : List (List D)) (a0_0 : Int) (a0_1 : List (List D)) (a0_2 : List (List D)) (k : Exit → St → Option R) : vexec (network_First_C n) n network_First_c2 ⟨29, [(1, .d (D.sl 1 a1)), (2, .ptr 2 0)], [(2, .box [.d (D.int .i64 a0_0), .d (D.sl 3 a0_1), .d (D.sl 6 a0_2)])]⟩ k = network_First_p2 n a1 a0_0 a0_1 a0_2 (k .ret ⟨29, [(4, .d (D.int .i64 (0 : Int))), (5, .d (D.bool false))], []⟩) (fun z2 => k .normal ⟨29, [(1, .d (D.sl 1 a1)), (2, .ptr 2 0), (11, .d (D.bool z2))], [(2, .box [.d (D.int .i64 a0_0), .d (D.sl 3 a0_1), .d (D.sl 6 a0_2)])]⟩) := by kernel_rfl
theorem network_First_p3_eq {R : Type} (n : Nat) (a1 : List (List D)) (w3 : Bool) (a0_0 : Int) (a0_1 : List (List D)) (a0_2 : List (List D)) (k : Exit → St → Option R) : vexec (network_First_C n) n network_First_c3 ⟨29, [(1, .d (D.sl 1 a1)), (2, .ptr 2 0), (11, .d (D.bool w3))], [(2, .box [.d (D.int .i64 a0_0), .d (D.sl 3 a0_1), .d (D.sl 6 a0_2)])]⟩ k = network_First_p3 n a1 w3 a0_0 a0_1 a0_2 (fun z4 => k .normal ⟨29, [(1, .d (D.sl 1 a1)), (2, .ptr 2 0), (13, .d (D.sl 6 a0_2)), (14, .d (D.int .i64 z4)), (15, .d (D.int .i64 (0 : Int)))], [(2, .box [.d (D.int .i64 a0_0), .d (D.sl 3 a0_1), .d (D.sl 6 a0_2)])]⟩) := by kernel_rfl
theorem network_First_p4_eq {R : Type} (n : Nat) (a1 : List (List D)) (a0_2 : List (List D)) (w5 : Int) (h9 : Int) (a0_0 : Int) (a0_1 : List (List D)) (k : Exit → St → Option R) : vexec (network_First_C n) n network_First_c4 ⟨29, [(1, .d (D.sl 1 a1)), (2, .ptr 2 0), (13, .d (D.sl 6 a0_2)), (14, .d (D.int .i64 w5)), (15, .d (D.int .i64 h9))], [(2, .box [.d (D.int .i64 a0_0), .d (D.sl 3 a0_1), .d (D.sl 6 a0_2)])]⟩ k = network_First_p4 n a1 a0_2 w5 h9 a0_0 a0_1 (k .ret ⟨29, [(4, .d (D.int .i64 h9)), (5, .d (D.bool true))], []⟩) (fun z45 => k .normal ⟨29, [(1, .d (D.sl 1 a1)), (2, .ptr 2 0), (13, .d (D.sl 6 a0_2)), (14, .d (D.int .i64 w5)), (15, .d (D.int .i64 z45))], [(2, .box [.d (D.int .i64 a0_0), .d (D.sl 3 a0_1), .d (D.sl 6 a0_2)])]⟩) (fun z46 => k (.exit 0) ⟨29, [(1, .d (D.sl 1 a1)), (2, .ptr 2 0), (13, .d (D.sl 6 a0_2)), (14, .d (D.int .i64 w5)), (15, .d (D.int .i64 h9)), (16, .d (D.bool z46))], [(2, .box [.d (D.int .i64 a0_0), .d (D.sl 3 a0_1), .d (D.sl 6 a0_2)])]⟩) := by kernel_rfl
theorem network_First_r5_eq {R : Type} (n : Nat) (a1 : List (List D)) (a0_2 : List (List D)) (w5 : Int) (a0_0 : Int) (a0_1 : List (List D)) (k : Exit → St → Option R) : ∀ (m : Nat) (h9 : Int), loopN (vexec (network_First_C n) n network_First_c4) m ⟨29, [(1, .d (D.sl 1 a1)), (2, .ptr 2 0), (13, .d (D.sl 6 a0_2)), (14, .d (D.int .i64 w5)), (15, .d (D.int .i64 h9))], [(2, .box [.d (D.int .i64 a0_0), .d (D.sl 3 a0_1), .d (D.sl 6 a0_2)])]⟩ k = network_First_r5 n a1 a0_2 w5 a0_0 a0_1 (fun h9 => k .ret ⟨29, [(4, .d (D.int .i64 h9)), (5, .d (D.bool true))], []⟩) (fun h9 w48 => k (.exit 0) ⟨29, [(1, .d (D.sl 1 a1)), (2, .ptr 2 0), (13, .d (D.sl 6 a0_2)), (14, .d (D.int .i64 w5)), (15, .d (D.int .i64 h9)), (16, .d (D.bool w48))], [(2, .box [.d (D.int .i64 a0_0), .d (D.sl 3 a0_1), .d (D.sl 6 a0_2)])]⟩) m h9
  | 0, _ => rfl
  | m + 1, h9 => (network_First_p4_eq n a1 a0_2 w5 h9 a0_0 a0_1 (loopK (vexec (network_First_C n) n network_First_c4) m k)).trans (network_First_p4_congr n a1 a0_2 w5 h9 a0_0 a0_1 (rfl) (fun w47 => network_First_r5_eq n a1 a0_2 w5 a0_0 a0_1 k m w47) (fun w48 => rfl))
theorem network_First_p5_eq {R : Type} (n : Nat) (a1 : List (List D)) (a0_2 : List (List D)) (w5 : Int) (a0_0 : Int) (a0_1 : List (List D)) (k : Exit → St → Option R) : vexec (network_First_C n) n network_First_c5 ⟨29, [(1, .d (D.sl 1 a1)), (2, .ptr 2 0), (13, .d (D.sl 6 a0_2)), (14, .d (D.int .i64 w5)), (15, .d (D.int .i64 (0 : Int)))], [(2, .box [.d (D.int .i64 a0_0), .d (D.sl 3 a0_1), .d (D.sl 6 a0_2)])]⟩ k = network_First_p5 n a1 a0_2 w5 a0_0 a0_1 (fun h9 => k .ret ⟨29, [(4, .d (D.int .i64 h9)), (5, .d (D.bool true))], []⟩) (fun h9 w48 => k (.exit 0) ⟨29, [(1, .d (D.sl 1 a1)), (2, .ptr 2 0), (13, .d (D.sl 6 a0_2)), (14, .d (D.int .i64 w5)), (15, .d (D.int .i64 h9)), (16, .d (D.bool w48))], [(2, .box [.d (D.int .i64 a0_0), .d (D.sl 3 a0_1), .d (D.sl 6 a0_2)])]⟩) := by
  rw [network_First_c5_eq]
  exact network_First_r5_eq n a1 a0_2 w5 a0_0 a0_1 k n (0 : Int)
theorem network_First_p6_eq {R : Type} (n : Nat) (a1 : List (List D)) (a0_2 : List (List D)) (w5 : Int) (a0_0 : Int) (a0_1 : List (List D)) (k : Exit → St → Option R) : vexec (network_First_C n) n network_First_c6 ⟨29, [(1, .d (D.sl 1 a1)), (2, .ptr 2 0), (13, .d (D.sl 6 a0_2)), (14, .d (D.int .i64 w5)), (15, .d (D.int .i64 (0 : Int)))], [(2, .box [.d (D.int .i64 a0_0), .d (D.sl 3 a0_1), .d (D.sl 6 a0_2)])]⟩ k = network_First_p6 n a1 a0_2 w5 a0_0 a0_1 (fun w49 => k .ret ⟨29, [(4, .d (D.int .i64 w49)), (5, .d (D.bool true))], []⟩) (fun w50 w51 => k .normal ⟨29, [(1, .d (D.sl 1 a1)), (2, .ptr 2 0), (13, .d (D.sl 6 a0_2)), (14, .d (D.int .i64 w5)), (15, .d (D.int .i64 w50)), (16, .d (D.bool w51))], [(2, .box [.d (D.int .i64 a0_0), .d (D.sl 3 a0_1), .d (D.sl 6 a0_2)])]⟩) := by
  rw [network_First_c6_eq]
  unfold network_First_p6
  exact (network_First_p5_eq n a1 a0_2 w5 a0_0 a0_1 (blockK 0 k)).trans (network_First_p5_congr n a1 a0_2 w5 a0_0 a0_1 (fun w49 => rfl) (fun w50 w51 => rfl))
theorem network_First_p7_eq {R : Type} (n : Nat) (a1 : List (List D)) (w3 : Bool) (a0_0 : Int) (a0_1 : List (List D)) (a0_2 : List (List D)) (k : Exit → St → Option R) : vexec (network_First_C n) n network_First_c7 ⟨29, [(1, .d (D.sl 1 a1)), (2, .ptr 2 0), (11, .d (D.bool w3))], [(2, .box [.d (D.int .i64 a0_0), .d (D.sl 3 a0_1), .d (D.sl 6 a0_2)])]⟩ k = network_First_p7 n a1 w3 a0_0 a0_1 a0_2 (fun w52 => k .ret ⟨29, [(4, .d (D.int .i64 w52)), (5, .d (D.bool true))], []⟩) (fun w5 w53 w54 => k .normal ⟨29, [(1, .d (D.sl 1 a1)), (2, .ptr 2 0), (13, .d (D.sl 6 a0_2)), (14, .d (D.int .i64 w5)), (15, .d (D.int .i64 w53)), (16, .d (D.bool w54))], [(2, .box [.d (D.int .i64 a0_0), .d (D.sl 3 a0_1), .d (D.sl 6 a0_2)])]⟩) := by
  rw [network_First_c7_eq]
  unfold network_First_p7
  exact (network_First_p3_eq n a1 w3 a0_0 a0_1 a0_2 (seqK (network_First_C n) n network_First_c6 k)).trans (network_First_p3_congr n a1 w3 a0_0 a0_1 a0_2 (fun w5 => network_First_p6_eq n a1 a0_2 w5 a0_0 a0_1 k))
theorem network_First_p8_eq {R : Type} (n : Nat) (a1 : List (List D)) (a0_2 : List (List D)) (w56 : Int) (w57 : Int) (w58 : Bool) (a0_0 : Int) (a0_1 : List (List D)) (k : Exit → St → Option R) : vexec (network_First_C n) n network_First_c8 ⟨29, [(1, .d (D.sl 1 a1)), (2, .ptr 2 0), (13, .d (D.sl 6 a0_2)), (14, .d (D.int .i64 w56)), (15, .d (D.int .i64 w57)), (16, .d (D.bool w58))], [(2, .box [.d (D.int .i64 a0_0), .d (D.sl 3 a0_1), .d (D.sl 6 a0_2)])]⟩ k = network_First_p8 n a1 a0_2 w56 w57 w58 a0_0 a0_1 (k .ret ⟨29, [(4, .d (D.int .i64 (0 : Int))), (5, .d (D.bool false))], []⟩) := by kernel_rfl
theorem network_First_p9_eq {R : Type} (n : Nat) (a1 : List (List D)) (w3 : Bool) (a0_0 : Int) (a0_1 : List (List D)) (a0_2 : List (List D)) (k : Exit → St → Option R) : vexec (network_First_C n) n network_First_c9 ⟨29, [(1, .d (D.sl 1 a1)), (2, .ptr 2 0), (11, .d (D.bool w3))], [(2, .box [.d (D.int .i64 a0_0), .d (D.sl 3 a0_1), .d (D.sl 6 a0_2)])]⟩ k = network_First_p9 n a1 w3 a0_0 a0_1 a0_2 (fun z59 z60 => k .ret ⟨29, [(4, .d (D.int .i64 z59)), (5, .d (D.bool z60))], []⟩) := by
  rw [network_First_c9_eq]
  unfold network_First_p9
  exact (network_First_p7_eq n a1 w3 a0_0 a0_1 a0_2 (seqK (network_First_C n) n network_First_c8 k)).trans (network_First_p7_congr n a1 w3 a0_0 a0_1 a0_2 (fun w55 => rfl) (fun w56 w57 w58 => network_First_p8_eq n a1 a0_2 w56 w57 w58 a0_0 a0_1 k))
theorem network_First_p10_eq {R : Type} (n : Nat) (a1 : List (List D)) (a0_0 : Int) (a0_1 : List (List D)) (a0_2 : List (List D)) (k : Exit → St → Option R) : vexec (network_First_C n) n network_First_c10 ⟨29, [(1, .d (D.sl 1 a1)), (2, .ptr 2 0)], [(2, .box [.d (D.int .i64 a0_0), .d (D.sl 3 a0_1), .d (D.sl 6 a0_2)])]⟩ k = network_First_p10 n a1 a0_0 a0_1 a0_2 (fun z63 z64 => k .ret ⟨29, [(4, .d (D.int .i64 z63)), (5, .d (D.bool z64))], []⟩) := by
  rw [network_First_c10_eq]
  unfold network_First_p10
  exact (network_First_p2_eq n a1 a0_0 a0_1 a0_2 (seqK (network_First_C n) n network_First_c9 k)).trans (network_First_p2_congr n a1 a0_0 a0_1 a0_2 (rfl) (fun w3 => network_First_p9_eq n a1 w3 a0_0 a0_1 a0_2 k))
theorem network_First_p11_eq {R : Type} (n : Nat) (a0_0 : Int) (a0_1 : List (List D)) (a0_2 : List (List D)) (a1 : List (List D)) (k : Exit → St → Option R) : vexec (network_First_C n) n network_First_c0 ⟨29, [(0, .ag [.d (D.int .i64 a0_0), .d (D.sl 3 a0_1), .d (D.sl 6 a0_2)]), (1, .d (D.sl 1 a1))], []⟩ k = network_First_p11 n a0_0 a0_1 a0_2 a1 (fun w65 w66 => k .ret ⟨29, [(4, .d (D.int .i64 w65)), (5, .d (D.bool w66))], []⟩) := by
  rw [network_First_c0_eq]
  unfold network_First_p11
  exact (network_First_p1_eq n a0_0 a0_1 a0_2 a1 (seqK (network_First_C n) n network_First_c10 k)).trans (network_First_p1_congr n a0_0 a0_1 a0_2 a1 (network_First_p10_eq n a1 a0_0 a0_1 a0_2 k))
theorem network_First_vfn {R : Type} (n : Nat) (a0_0 : Int) (a0_1 : List (List D)) (a0_2 : List (List D)) (a1 : List (List D)) (K : AV → Option R) : vfn (network_First_C n) n Try.f24 [.ag [.d (D.int .i64 a0_0), .d (D.sl 3 a0_1), .d (D.sl 6 a0_2)], .d (D.sl 1 a1)] [] (retF [[0], [0]] K) = network_First n a0_0 a0_1 a0_2 a1 (fun r0 r1 => K (.tup [.d (D.int .i64 r0), .d (D.bool r1)])) :=
  (show vfn (network_First_C n) n Try.f24 [.ag [.d (D.int .i64 a0_0), .d (D.sl 3 a0_1), .d (D.sl 6 a0_2)], .d (D.sl 1 a1)] [] (retF [[0], [0]] K) = vexec (network_First_C n) n network_First_c0 ⟨29, [(0, .ag [.d (D.int .i64 a0_0), .d (D.sl 3 a0_1), .d (D.sl 6 a0_2)]), (1, .d (D.sl 1 a1))], []⟩ (retX network_First_tt [.tmp 4, .tmp 5] (retF [[0], [0]] K)) from vfn_at (by kernel_rfl) (by kernel_rfl) rfl (by kernel_rfl) rfl (by kernel_rfl) rfl).trans ((network_First_p11_eq n a0_0 a0_1 a0_2 a1 (retX network_First_tt [.tmp 4, .tmp 5] (retF [[0], [0]] K))).trans (by kernel_rfl))
def network_First_K : AV → Option (Int × Bool) := fun av => match av with
  | .tup [.d (D.int .i64 r0), .d (D.bool r1)] => some (r0, r1)
  | _ => none
def network_First_e (n : Nat) : Entry := fun _ _ g avs _ k => match avs with
  | [c0, c1] => 
    prG c0 fun l0 => (match l0 with
    | [c0_0, c0_1, c0_2] => prI g .i64 c0_0 fun a0_0 => prS g 3 c0_1 fun a0_1 => prS g 6 c0_2 fun a0_2 => prS g 1 c1 fun a1 => 
    gb g (network_First n a0_0 a0_1 a0_2 a1 (fun r0 r1 => some (r0, r1))) (0, false) fun r => k ⟨.tup [.d (D.int .i64 r.1), .d (D.bool r.2)], [], []⟩
    | _ => none)
  | _ => none
theorem network_First_ok (n : Nat) : EntryOK Try.prog 24 (network_First_e n) := by
  intro R site g avs hl k r h
  unfold network_First_e at h
  split at h
  rotate_left
  · cases h
  replace h := prG_some h
  obtain ⟨l0, h, e0⟩ := h
  subst e0
  split at h
  rotate_left
  · cases h
  replace h := prI_some h
  obtain ⟨a0_0, h, le0⟩ := h
  replace h := prS_some h
  obtain ⟨a0_1, h, le1⟩ := h
  replace h := prS_some h
  obtain ⟨a0_2, h, le2⟩ := h
  replace h := prS_some h
  obtain ⟨a1, h, le3⟩ := h
  replace h := gb_some h
  obtain ⟨res, h, hr⟩ := h
  refine ⟨_, h, fun hg => CallOK.conv (avs' := [.ag [.d (D.int .i64 a0_0), .d (D.sl 3 a0_1), .d (D.sl 6 a0_2)], .d (D.sl 1 a1)]) (.cons (.ag (.cons (le0 hg) (.cons (le1 hg) (.cons (le2 hg) (.nil))))) (.cons (le3 hg) (.nil))) (callOK_fix (K := network_First_K) (res := res) (network_First_VC n) (fn := Try.f24) (n := n) (by kernel_rfl) (by kernel_rfl) (by kernel_rfl) (ss := [[0], [0]]) rfl ?_ ?_)⟩
  · exact (network_First_vfn n a0_0 a0_1 a0_2 a1 network_First_K).trans (hr hg)
  · intro x hx
    unfold network_First_K at hx
    split at hx
    · injection hx with hx; subst hx; rfl
    · cases hx
end Go.Vx
/-
  law11_awake: the interpreter computes the pure function
-/
set_option linter.unusedVariables false
set_option linter.unusedSimpArgs false
set_option maxRecDepth 100000
namespace Go.Vx
open Go.Proofs
noncomputable def law11_awake_c0 : Code := bodyOf Try.f10
def law11_awake_tt : TT := [(3, ⟨.int .i64, 1, 8, [.int .i64 0], [.int .i64 0], [], none⟩), (22, ⟨.sl 3 1, 1, 24, [.slice none 0 0], [.sl 1 []], [], none⟩)]
theorem law11_awake_tt_eq : mkTT Try.prog [3, 22] = law11_awake_tt := by kernel_rfl
def law11_awake_cfg : List (Nat × Cfg) := [(0, ⟨[], [], [], [], []⟩), (1, ⟨[2], [], [], [], []⟩), (2, ⟨[0], [], [], [], []⟩)]
def law11_awake_C (n : Nat) : VC := ⟨specOf [(19, law11_small_e n), (24, network_First_e n), (12, network_Check_e n)], law11_awake_tt, law11_awake_cfg⟩
theorem law11_awake_ents (n : Nat) : EntsOK Try.prog [(19, law11_small_e n), (24, network_First_e n), (12, network_Check_e n)] := ⟨law11_small_ok n, ⟨network_First_ok n, ⟨network_Check_ok n, trivial⟩⟩⟩
theorem law11_awake_VC (n : Nat) : VCOk Try.prog (law11_awake_C n) := ⟨specOf_ok (law11_awake_ents n), (law11_awake_tt_eq ▸ mkTT_ok _ : TOk Try.prog law11_awake_tt), by kernel_rfl⟩
theorem law11_awake_p1_congr {R : Type} (n : Nat)  {k0 kk0 : Bool → Option R} (hq0 : ∀ x0, k0 x0 = kk0 x0) : law11_awake_p1 n  k0 = law11_awake_p1 n  kk0 := by
  obtain rfl : k0 = kk0 := funext fun x0 => hq0 x0
  rfl
theorem law11_awake_p1_eq {R : Type} (n : Nat)  (k : Exit → St → Option R) : vexec (law11_awake_C n) n law11_awake_c0 ⟨14, [], []⟩ k = law11_awake_p1 n  (fun z5 => k .ret ⟨14, [(0, .d (D.bool z5))], []⟩) := by kernel_rfl
theorem law11_awake_vfn {R : Type} (n : Nat)  (K : AV → Option R) : vfn (law11_awake_C n) n Try.f10 [] [] (retF [[0]] K) = law11_awake n  (fun r0 => K (.d (D.bool r0))) :=
  (show vfn (law11_awake_C n) n Try.f10 [] [] (retF [[0]] K) = vexec (law11_awake_C n) n law11_awake_c0 ⟨14, [], []⟩ (retX law11_awake_tt [.tmp 0] (retF [[0]] K)) from vfn_at (by kernel_rfl) (by kernel_rfl) rfl (by kernel_rfl) rfl (by kernel_rfl) rfl).trans ((law11_awake_p1_eq n  (retX law11_awake_tt [.tmp 0] (retF [[0]] K))).trans (by kernel_rfl))
def law11_awake_K : AV → Option (Bool) := fun av => match av with
  | .d (D.bool r0) => some r0
  | _ => none
def law11_awake_e (n : Nat) : Entry := fun _ _ g avs _ k => match avs with
  | [] => 
    gb g (law11_awake n  some) false fun r => k ⟨.d (D.bool r), [], []⟩
  | _ => none
theorem law11_awake_ok (n : Nat) : EntryOK Try.prog 10 (law11_awake_e n) := by
  intro R site g avs hl k r h
  unfold law11_awake_e at h
  split at h
  rotate_left
  · cases h
  replace h := gb_some h
  obtain ⟨res, h, hr⟩ := h
  refine ⟨_, h, fun hg => CallOK.conv (avs' := []) (.nil) (callOK_fix (K := law11_awake_K) (res := res) (law11_awake_VC n) (fn := Try.f10) (n := n) (by kernel_rfl) (by kernel_rfl) (by kernel_rfl) (ss := [[0]]) rfl ?_ ?_)⟩
  · exact (law11_awake_vfn n  law11_awake_K).trans (hr hg)
  · intro x hx
    unfold law11_awake_K at hx
    split at hx
    · injection hx with hx; subst hx; rfl
    · cases hx
end Go.Vx
/-
  ref11_in: the interpreter computes the pure function
-/
set_option linter.unusedVariables false
set_option linter.unusedSimpArgs false
set_option maxRecDepth 100000
namespace Go.Vx
open Go.Proofs
noncomputable def ref11_in_c0 : Code := bodyOf Try.f26
def ref11_in_tt : TT := [(3, ⟨.int .i64, 1, 8, [.int .i64 0], [.int .i64 0], [], none⟩)]
theorem ref11_in_tt_eq : mkTT Try.prog [3] = ref11_in_tt := by kernel_rfl
def ref11_in_cfg : List (Nat × Cfg) := [(0, ⟨[0, 1, 2], [], [], [], []⟩), (1, ⟨[6], [], [], [], []⟩)]
def ref11_in_C (n : Nat) : VC := ⟨specOf [], ref11_in_tt, ref11_in_cfg⟩
theorem ref11_in_ents (n : Nat) : EntsOK Try.prog [] := trivial
theorem ref11_in_VC (n : Nat) : VCOk Try.prog (ref11_in_C n) := ⟨specOf_ok (ref11_in_ents n), (ref11_in_tt_eq ▸ mkTT_ok _ : TOk Try.prog ref11_in_tt), by kernel_rfl⟩
theorem ref11_in_p1_congr {R : Type} (n : Nat) (a0 : Int) (a1 : Int) (a2 : Int) {k0 kk0 : Bool → Option R} (hq0 : ∀ x0, k0 x0 = kk0 x0) : ref11_in_p1 n a0 a1 a2 k0 = ref11_in_p1 n a0 a1 a2 kk0 := by
  obtain rfl : k0 = kk0 := funext fun x0 => hq0 x0
  rfl
theorem ref11_in_p1_eq {R : Type} (n : Nat) (a0 : Int) (a1 : Int) (a2 : Int) (k : Exit → St → Option R) : vexec (ref11_in_C n) n ref11_in_c0 ⟨15, [(0, .d (D.int .i64 a0)), (1, .d (D.int .i64 a1)), (2, .d (D.int .i64 a2))], []⟩ k = ref11_in_p1 n a0 a1 a2 (fun z1 => k .ret ⟨15, [(6, .d (D.bool z1))], []⟩) := by kernel_rfl
theorem ref11_in_vfn {R : Type} (n : Nat) (a0 : Int) (a1 : Int) (a2 : Int) (K : AV → Option R) : vfn (ref11_in_C n) n Try.f26 [.d (D.int .i64 a0), .d (D.int .i64 a1), .d (D.int .i64 a2)] [] (retF [[0]] K) = ref11_in n a0 a1 a2 (fun r0 => K (.d (D.bool r0))) :=
  (show vfn (ref11_in_C n) n Try.f26 [.d (D.int .i64 a0), .d (D.int .i64 a1), .d (D.int .i64 a2)] [] (retF [[0]] K) = vexec (ref11_in_C n) n ref11_in_c0 ⟨15, [(0, .d (D.int .i64 a0)), (1, .d (D.int .i64 a1)), (2, .d (D.int .i64 a2))], []⟩ (retX ref11_in_tt [.tmp 6] (retF [[0]] K)) from vfn_at (by kernel_rfl) (by kernel_rfl) rfl (by kernel_rfl) rfl (by kernel_rfl) rfl).trans ((ref11_in_p1_eq n a0 a1 a2 (retX ref11_in_tt [.tmp 6] (retF [[0]] K))).trans (by kernel_rfl))
def ref11_in_K : AV → Option (Bool) := fun av => match av with
  | .d (D.bool r0) => some r0
  | _ => none
def ref11_in_e (n : Nat) : Entry := fun _ _ g avs _ k => match avs with
  | [c0, c1, c2] => prI g .i64 c0 fun a0 => prI g .i64 c1 fun a1 => prI g .i64 c2 fun a2 => 
    gb g (ref11_in n a0 a1 a2 some) false fun r => k ⟨.d (D.bool r), [], []⟩
  | _ => none
theorem ref11_in_ok (n : Nat) : EntryOK Try.prog 26 (ref11_in_e n) := by
  intro R site g avs hl k r h
  unfold ref11_in_e at h
  split at h
  rotate_left
  · cases h
  replace h := prI_some h
  obtain ⟨a0, h, le0⟩ := h
  replace h := prI_some h
  obtain ⟨a1, h, le1⟩ := h
  replace h := prI_some h
  obtain ⟨a2, h, le2⟩ := h
  replace h := gb_some h
  obtain ⟨res, h, hr⟩ := h
  refine ⟨_, h, fun hg => CallOK.conv (avs' := [.d (D.int .i64 a0), .d (D.int .i64 a1), .d (D.int .i64 a2)]) (.cons (le0 hg) (.cons (le1 hg) (.cons (le2 hg) (.nil)))) (callOK_fix (K := ref11_in_K) (res := res) (ref11_in_VC n) (fn := Try.f26) (n := n) (by kernel_rfl) (by kernel_rfl) (by kernel_rfl) (ss := [[0]]) rfl ?_ ?_)⟩
  · exact (ref11_in_vfn n a0 a1 a2 ref11_in_K).trans (hr hg)
  · intro x hx
    unfold ref11_in_K at hx
    split at hx
    · injection hx with hx; subst hx; rfl
    · cases hx
end Go.Vx
/-
  ref11_Check: the interpreter computes the pure function
-/
set_option linter.unusedVariables false
set_option linter.unusedSimpArgs false
set_option maxRecDepth 100000
namespace Go.Vx
open Go.Proofs
noncomputable def ref11_Check_c0 : Code := bodyOf Try.f13
noncomputable def ref11_Check_c1 : Code := cL (bodyOf Try.f13)
noncomputable def ref11_Check_c2 : Code := cL (cR (bodyOf Try.f13))
noncomputable def ref11_Check_c3 : Code := cL (cL (cR (cR (bodyOf Try.f13))))
noncomputable def ref11_Check_c4 : Code := cB (cB (cR (cL (cR (cR (bodyOf Try.f13))))))
noncomputable def ref11_Check_c5 : Code := cB (cR (cL (cR (cR (bodyOf Try.f13)))))
noncomputable def ref11_Check_c6 : Code := cR (cL (cR (cR (bodyOf Try.f13))))
noncomputable def ref11_Check_c7 : Code := cL (cR (cR (bodyOf Try.f13)))
noncomputable def ref11_Check_c8 : Code := cR (cR (cR (bodyOf Try.f13)))
noncomputable def ref11_Check_c9 : Code := cR (cR (bodyOf Try.f13))
noncomputable def ref11_Check_c10 : Code := cR (bodyOf Try.f13)
theorem ref11_Check_c5_eq : ref11_Check_c5 = .loop ref11_Check_c4 := by kernel_rfl
theorem ref11_Check_c6_eq : ref11_Check_c6 = .block 0 ref11_Check_c5 := by kernel_rfl
theorem ref11_Check_c7_eq : ref11_Check_c7 = .seq ref11_Check_c3 ref11_Check_c6 := by kernel_rfl
theorem ref11_Check_c9_eq : ref11_Check_c9 = .seq ref11_Check_c7 ref11_Check_c8 := by kernel_rfl
theorem ref11_Check_c10_eq : ref11_Check_c10 = .seq ref11_Check_c2 ref11_Check_c9 := by kernel_rfl
theorem ref11_Check_c0_eq : ref11_Check_c0 = .seq ref11_Check_c1 ref11_Check_c10 := by kernel_rfl
def ref11_Check_tt : TT := [(3, ⟨.int .i64, 1, 8, [.int .i64 0], [.int .i64 0], [], none⟩), (23, ⟨.sl 46 3, 1, 24, [.slice none 0 0], [.sl 3 []], [], none⟩), (24, ⟨.sl 31 6, 1, 24, [.slice none 0 0], [.sl 6 []], [], none⟩), (26, ⟨.struct, 3, 56, [.int .i64 0, .slice none 0 0, .slice none 0 0], [.int .i64 0, .sl 3 [], .sl 6 []], [(0, 3), (1, 23), (2, 24)], none⟩), (31, ⟨.struct, 6, 48, [.int .i64 0, .int .i64 0, .int .i64 0, .int .i64 0, .int .i64 0, .int .i64 0], [.int .i64 0, .int .i64 0, .int .i64 0, .int .i64 0, .int .i64 0, .int .i64 0], [(0, 3), (1, 3), (2, 3), (3, 3), (4, 3), (5, 3)], some [.int .i64, .int .i64, .int .i64, .int .i64, .int .i64, .int .i64]⟩)]
theorem ref11_Check_tt_eq : mkTT Try.prog [3, 23, 24, 26, 31] = ref11_Check_tt := by kernel_rfl
def ref11_Check_cfg : List (Nat × Cfg) := [(0, ⟨[1], [(1, 1)], [], [], []⟩), (1, ⟨[1, 20], [(1, 1)], [], [], []⟩), (2, ⟨[2], [], [], [], []⟩), (3, ⟨[1, 3], [(1, 1)], [], [], []⟩), (4, ⟨[1, 3, 25], [(1, 1)], [], [], []⟩), (5, ⟨[1, 3], [(1, 1)], [], [], []⟩), (6, ⟨[1, 3, 4], [(1, 1), (4, 4)], [], [], []⟩), (7, ⟨[1, 3, 90], [(1, 1)], [], [], []⟩), (8, ⟨[2], [], [], [], []⟩), (9, ⟨[2], [], [], [], []⟩)]
def ref11_Check_C (n : Nat) : VC := ⟨specOf [(26, ref11_in_e n)], ref11_Check_tt, ref11_Check_cfg⟩
theorem ref11_Check_ents (n : Nat) : EntsOK Try.prog [(26, ref11_in_e n)] := ⟨ref11_in_ok n, trivial⟩
theorem ref11_Check_VC (n : Nat) : VCOk Try.prog (ref11_Check_C n) := ⟨specOf_ok (ref11_Check_ents n), (ref11_Check_tt_eq ▸ mkTT_ok _ : TOk Try.prog ref11_Check_tt), by kernel_rfl⟩
theorem ref11_Check_p1_congr {R : Type} (n : Nat) (a0_0 : Int) (a0_1 : List (List D)) (a0_2 : List (List D)) {k0 kk0 : Option R} (hq0 : k0 = kk0) : ref11_Check_p1 n a0_0 a0_1 a0_2 k0 = ref11_Check_p1 n a0_0 a0_1 a0_2 kk0 := by
  obtain rfl : k0 = kk0 := hq0
  rfl
theorem ref11_Check_p2_congr {R : Type} (n : Nat) (a0_0 : Int) (a0_1 : List (List D)) (a0_2 : List (List D)) {k0 kk0 : Option R} {k1 kk1 : Bool → Option R} (hq0 : k0 = kk0) (hq1 : ∀ x0, k1 x0 = kk1 x0) : ref11_Check_p2 n a0_0 a0_1 a0_2 k0 k1 = ref11_Check_p2 n a0_0 a0_1 a0_2 kk0 kk1 := by
  obtain rfl : k0 = kk0 := hq0
  obtain rfl : k1 = kk1 := funext fun x0 => hq1 x0
  rfl
theorem ref11_Check_p3_congr {R : Type} (n : Nat) (w3 : Bool) (a0_0 : Int) (a0_1 : List (List D)) (a0_2 : List (List D)) {k0 kk0 : Option R} (hq0 : k0 = kk0) : ref11_Check_p3 n w3 a0_0 a0_1 a0_2 k0 = ref11_Check_p3 n w3 a0_0 a0_1 a0_2 kk0 := by
  obtain rfl : k0 = kk0 := hq0
  rfl
theorem ref11_Check_p4_congr {R : Type} (n : Nat) (h4 : Int) (a0_0 : Int) (a0_1 : List (List D)) (a0_2 : List (List D)) {k0 kk0 : Option R} {k1 kk1 : Int → Option R} {k2 kk2 : Bool → Option R} (hq0 : k0 = kk0) (hq1 : ∀ x0, k1 x0 = kk1 x0) (hq2 : ∀ x0, k2 x0 = kk2 x0) : ref11_Check_p4 n h4 a0_0 a0_1 a0_2 k0 k1 k2 = ref11_Check_p4 n h4 a0_0 a0_1 a0_2 kk0 kk1 kk2 := by
  obtain rfl : k0 = kk0 := hq0
  obtain rfl : k1 = kk1 := funext fun x0 => hq1 x0
  obtain rfl : k2 = kk2 := funext fun x0 => hq2 x0
  rfl
theorem ref11_Check_p5_congr {R : Type} (n : Nat) (a0_0 : Int) (a0_1 : List (List D)) (a0_2 : List (List D)) {k0 kk0 : Option R} {k1 kk1 : Int → Bool → Option R} (hq0 : k0 = kk0) (hq1 : ∀ x0 x1, k1 x0 x1 = kk1 x0 x1) : ref11_Check_p5 n a0_0 a0_1 a0_2 k0 k1 = ref11_Check_p5 n a0_0 a0_1 a0_2 kk0 kk1 := by
  obtain rfl : k0 = kk0 := hq0
  obtain rfl : k1 = kk1 := funext fun x0 => funext fun x1 => hq1 x0 x1
  rfl
theorem ref11_Check_p6_congr {R : Type} (n : Nat) (a0_0 : Int) (a0_1 : List (List D)) (a0_2 : List (List D)) {k0 kk0 : Option R} {k1 kk1 : Int → Bool → Option R} (hq0 : k0 = kk0) (hq1 : ∀ x0 x1, k1 x0 x1 = kk1 x0 x1) : ref11_Check_p6 n a0_0 a0_1 a0_2 k0 k1 = ref11_Check_p6 n a0_0 a0_1 a0_2 kk0 kk1 := by
  obtain rfl : k0 = kk0 := hq0
  obtain rfl : k1 = kk1 := funext fun x0 => funext fun x1 => hq1 x0 x1
  rfl
theorem ref11_Check_p7_congr {R : Type} (n : Nat) (w3 : Bool) (a0_0 : Int) (a0_1 : List (List D)) (a0_2 : List (List D)) {k0 kk0 : Option R} {k1 kk1 : Int → Bool → Option R} (hq0 : k0 = kk0) (hq1 : ∀ x0 x1, k1 x0 x1 = kk1 x0 x1) : ref11_Check_p7 n w3 a0_0 a0_1 a0_2 k0 k1 = ref11_Check_p7 n w3 a0_0 a0_1 a0_2 kk0 kk1 := by
  obtain rfl : k0 = kk0 := hq0
  obtain rfl : k1 = kk1 := funext fun x0 => funext fun x1 => hq1 x0 x1
  rfl
theorem ref11_Check_p8_congr {R : Type} (n : Nat) (w60 : Int) (w61 : Bool) (a0_0 : Int) (a0_1 : List (List D)) (a0_2 : List (List D)) {k0 kk0 : Option R} (hq0 : k0 = kk0) : ref11_Check_p8 n w60 w61 a0_0 a0_1 a0_2 k0 = ref11_Check_p8 n w60 w61 a0_0 a0_1 a0_2 kk0 := by
  obtain rfl : k0 = kk0 := hq0
  rfl
theorem ref11_Check_p9_congr {R : Type} (n : Nat) (w3 : Bool) (a0_0 : Int) (a0_1 : List (List D)) (a0_2 : List (List D)) {k0 kk0 : Bool → Option R} (hq0 : ∀ x0, k0 x0 = kk0 x0) : ref11_Check_p9 n w3 a0_0 a0_1 a0_2 k0 = ref11_Check_p9 n w3 a0_0 a0_1 a0_2 kk0 := by
  obtain rfl : k0 = kk0 := funext fun x0 => hq0 x0
  rfl
theorem ref11_Check_p10_congr {R : Type} (n : Nat) (a0_0 : Int) (a0_1 : List (List D)) (a0_2 : List (List D)) {k0 kk0 : Bool → Option R} (hq0 : ∀ x0, k0 x0 = kk0 x0) : ref11_Check_p10 n a0_0 a0_1 a0_2 k0 = ref11_Check_p10 n a0_0 a0_1 a0_2 kk0 := by
  obtain rfl : k0 = kk0 := funext fun x0 => hq0 x0
  rfl
theorem ref11_Check_p11_congr {R : Type} (n : Nat) (a0_0 : Int) (a0_1 : List (List D)) (a0_2 : List (List D)) {k0 kk0 : Bool → Option R} (hq0 : ∀ x0, k0 x0 = kk0 x0) : ref11_Check_p11 n a0_0 a0_1 a0_2 k0 = ref11_Check_p11 n a0_0 a0_1 a0_2 kk0 := by
  obtain rfl : k0 = kk0 := funext fun x0 => hq0 x0
  rfl
theorem ref11_Check_p1_eq {R : Type} (n : Nat) (a0_0 : Int) (a0_1 : List (List D)) (a0_2 : List (List D)) (k : Exit → St → Option R) : vexec (ref11_Check_C n) n ref11_Check_c1 ⟨91, [(0, .ag [.d (D.int .i64 a0_0), .d (D.sl 3 a0_1), .d (D.sl 6 a0_2)])], []⟩ k = ref11_Check_p1 n a0_0 a0_1 a0_2 (k .normal ⟨91, [(1, .ptr 1 0)], [(1, .box [.d (D.int .i64 a0_0), .d (D.sl 3 a0_1), .d (D.sl 6 a0_2)])]⟩) := by kernel_rfl
theorem ref11_Check_p2_eq {R : Type} (n : Nat) (a0_0 : Int) (a0_1 : List (List D)) (a0_2 : List (List D)) (k : Exit → St → Option R) : vexec (ref11_Check_C n) n ref11_Check_c2 ⟨91, [(1, .ptr 1 0)], [(1, .box [.d (D.int .i64 a0_0), .d (D.sl 3 a0_1), .d (D.sl 6 a0_2)])]⟩ k = ref11_Check_p2 n a0_0 a0_1 a0_2 (k .ret ⟨91, [(2, .d (D.bool false))], []⟩) (fun z2 => k .normal ⟨91, [(1, .ptr 1 0), (20, .d (D.bool z2))], [(1, .box [.d (D.int .i64 a0_0), .d (D.sl 3 a0_1), .d (D.sl 6 a0_2)])]⟩) := by kernel_rfl
theorem ref11_Check_p3_eq {R : Type} (n : Nat) (w3 : Bool) (a0_0 : Int) (a0_1 : List (List D)) (a0_2 : List (List D)) (k : Exit → St → Option R) : vexec (ref11_Check_C n) n ref11_Check_c3 ⟨91, [(1, .ptr 1 0), (20, .d (D.bool w3))], [(1, .box [.d (D.int .i64 a0_0), .d (D.sl 3 a0_1), .d (D.sl 6 a0_2)])]⟩ k = ref11_Check_p3 n w3 a0_0 a0_1 a0_2 (k .normal ⟨91, [(1, .ptr 1 0), (3, .d (D.int .i64 (0 : Int)))], [(1, .box [.d (D.int .i64 a0_0), .d (D.sl 3 a0_1), .d (D.sl 6 a0_2)])]⟩) := by kernel_rfl
theorem ref11_Check_p4_eq {R : Type} (n : Nat) (h4 : Int) (a0_0 : Int) (a0_1 : List (List D)) (a0_2 : List (List D)) (k : Exit → St → Option R) : vexec (ref11_Check_C n) n ref11_Check_c4 ⟨91, [(1, .ptr 1 0), (3, .d (D.int .i64 h4))], [(1, .box [.d (D.int .i64 a0_0), .d (D.sl 3 a0_1), .d (D.sl 6 a0_2)])]⟩ k = ref11_Check_p4 n h4 a0_0 a0_1 a0_2 (k .ret ⟨91, [(2, .d (D.bool false))], []⟩) (fun z52 => k .normal ⟨91, [(1, .ptr 1 0), (3, .d (D.int .i64 z52))], [(1, .box [.d (D.int .i64 a0_0), .d (D.sl 3 a0_1), .d (D.sl 6 a0_2)])]⟩) (fun z53 => k (.exit 0) ⟨91, [(1, .ptr 1 0), (3, .d (D.int .i64 h4)), (25, .d (D.bool z53))], [(1, .box [.d (D.int .i64 a0_0), .d (D.sl 3 a0_1), .d (D.sl 6 a0_2)])]⟩) := by kernel_rfl
theorem ref11_Check_r5_eq {R : Type} (n : Nat) (a0_0 : Int) (a0_1 : List (List D)) (a0_2 : List (List D)) (k : Exit → St → Option R) : ∀ (m : Nat) (h4 : Int), loopN (vexec (ref11_Check_C n) n ref11_Check_c4) m ⟨91, [(1, .ptr 1 0), (3, .d (D.int .i64 h4))], [(1, .box [.d (D.int .i64 a0_0), .d (D.sl 3 a0_1), .d (D.sl 6 a0_2)])]⟩ k = ref11_Check_r5 n a0_0 a0_1 a0_2 (k .ret ⟨91, [(2, .d (D.bool false))], []⟩) (fun h4 w55 => k (.exit 0) ⟨91, [(1, .ptr 1 0), (3, .d (D.int .i64 h4)), (25, .d (D.bool w55))], [(1, .box [.d (D.int .i64 a0_0), .d (D.sl 3 a0_1), .d (D.sl 6 a0_2)])]⟩) m h4
  | 0, _ => rfl
  | m + 1, h4 => (ref11_Check_p4_eq n h4 a0_0 a0_1 a0_2 (loopK (vexec (ref11_Check_C n) n ref11_Check_c4) m k)).trans (ref11_Check_p4_congr n h4 a0_0 a0_1 a0_2 (rfl) (fun w54 => ref11_Check_r5_eq n a0_0 a0_1 a0_2 k m w54) (fun w55 => rfl))
theorem ref11_Check_p5_eq {R : Type} (n : Nat) (a0_0 : Int) (a0_1 : List (List D)) (a0_2 : List (List D)) (k : Exit → St → Option R) : vexec (ref11_Check_C n) n ref11_Check_c5 ⟨91, [(1, .ptr 1 0), (3, .d (D.int .i64 (0 : Int)))], [(1, .box [.d (D.int .i64 a0_0), .d (D.sl 3 a0_1), .d (D.sl 6 a0_2)])]⟩ k = ref11_Check_p5 n a0_0 a0_1 a0_2 (k .ret ⟨91, [(2, .d (D.bool false))], []⟩) (fun h4 w55 => k (.exit 0) ⟨91, [(1, .ptr 1 0), (3, .d (D.int .i64 h4)), (25, .d (D.bool w55))], [(1, .box [.d (D.int .i64 a0_0), .d (D.sl 3 a0_1), .d (D.sl 6 a0_2)])]⟩) := by
  rw [ref11_Check_c5_eq]
  exact ref11_Check_r5_eq n a0_0 a0_1 a0_2 k n (0 : Int)
theorem ref11_Check_p6_eq {R : Type} (n : Nat) (a0_0 : Int) (a0_1 : List (List D)) (a0_2 : List (List D)) (k : Exit → St → Option R) : vexec (ref11_Check_C n) n ref11_Check_c6 ⟨91, [(1, .ptr 1 0), (3, .d (D.int .i64 (0 : Int)))], [(1, .box [.d (D.int .i64 a0_0), .d (D.sl 3 a0_1), .d (D.sl 6 a0_2)])]⟩ k = ref11_Check_p6 n a0_0 a0_1 a0_2 (k .ret ⟨91, [(2, .d (D.bool false))], []⟩) (fun w56 w57 => k .normal ⟨91, [(1, .ptr 1 0), (3, .d (D.int .i64 w56)), (25, .d (D.bool w57))], [(1, .box [.d (D.int .i64 a0_0), .d (D.sl 3 a0_1), .d (D.sl 6 a0_2)])]⟩) := by
  rw [ref11_Check_c6_eq]
  unfold ref11_Check_p6
  exact (ref11_Check_p5_eq n a0_0 a0_1 a0_2 (blockK 0 k)).trans (ref11_Check_p5_congr n a0_0 a0_1 a0_2 (rfl) (fun w56 w57 => rfl))
theorem ref11_Check_p7_eq {R : Type} (n : Nat) (w3 : Bool) (a0_0 : Int) (a0_1 : List (List D)) (a0_2 : List (List D)) (k : Exit → St → Option R) : vexec (ref11_Check_C n) n ref11_Check_c7 ⟨91, [(1, .ptr 1 0), (20, .d (D.bool w3))], [(1, .box [.d (D.int .i64 a0_0), .d (D.sl 3 a0_1), .d (D.sl 6 a0_2)])]⟩ k = ref11_Check_p7 n w3 a0_0 a0_1 a0_2 (k .ret ⟨91, [(2, .d (D.bool false))], []⟩) (fun w58 w59 => k .normal ⟨91, [(1, .ptr 1 0), (3, .d (D.int .i64 w58)), (25, .d (D.bool w59))], [(1, .box [.d (D.int .i64 a0_0), .d (D.sl 3 a0_1), .d (D.sl 6 a0_2)])]⟩) := by
  rw [ref11_Check_c7_eq]
  unfold ref11_Check_p7
  exact (ref11_Check_p3_eq n w3 a0_0 a0_1 a0_2 (seqK (ref11_Check_C n) n ref11_Check_c6 k)).trans (ref11_Check_p3_congr n w3 a0_0 a0_1 a0_2 (ref11_Check_p6_eq n a0_0 a0_1 a0_2 k))
theorem ref11_Check_p8_eq {R : Type} (n : Nat) (w60 : Int) (w61 : Bool) (a0_0 : Int) (a0_1 : List (List D)) (a0_2 : List (List D)) (k : Exit → St → Option R) : vexec (ref11_Check_C n) n ref11_Check_c8 ⟨91, [(1, .ptr 1 0), (3, .d (D.int .i64 w60)), (25, .d (D.bool w61))], [(1, .box [.d (D.int .i64 a0_0), .d (D.sl 3 a0_1), .d (D.sl 6 a0_2)])]⟩ k = ref11_Check_p8 n w60 w61 a0_0 a0_1 a0_2 (k .ret ⟨91, [(2, .d (D.bool true))], []⟩) := by kernel_rfl
theorem ref11_Check_p9_eq {R : Type} (n : Nat) (w3 : Bool) (a0_0 : Int) (a0_1 : List (List D)) (a0_2 : List (List D)) (k : Exit → St → Option R) : vexec (ref11_Check_C n) n ref11_Check_c9 ⟨91, [(1, .ptr 1 0), (20, .d (D.bool w3))], [(1, .box [.d (D.int .i64 a0_0), .d (D.sl 3 a0_1), .d (D.sl 6 a0_2)])]⟩ k = ref11_Check_p9 n w3 a0_0 a0_1 a0_2 (fun z62 => k .ret ⟨91, [(2, .d (D.bool z62))], []⟩) := by
  rw [ref11_Check_c9_eq]
  unfold ref11_Check_p9
  exact (ref11_Check_p7_eq n w3 a0_0 a0_1 a0_2 (seqK (ref11_Check_C n) n ref11_Check_c8 k)).trans (ref11_Check_p7_congr n w3 a0_0 a0_1 a0_2 (rfl) (fun w60 w61 => ref11_Check_p8_eq n w60 w61 a0_0 a0_1 a0_2 k))
theorem ref11_Check_p10_eq {R : Type} (n : Nat) (a0_0 : Int) (a0_1 : List (List D)) (a0_2 : List (List D)) (k : Exit → St → Option R) : vexec (ref11_Check_C n) n ref11_Check_c10 ⟨91, [(1, .ptr 1 0)], [(1, .box [.d (D.int .i64 a0_0), .d (D.sl 3 a0_1), .d (D.sl 6 a0_2)])]⟩ k = ref11_Check_p10 n a0_0 a0_1 a0_2 (fun z64 => k .ret ⟨91, [(2, .d (D.bool z64))], []⟩) := by
  rw [ref11_Check_c10_eq]
  unfold ref11_Check_p10
  exact (ref11_Check_p2_eq n a0_0 a0_1 a0_2 (seqK (ref11_Check_C n) n ref11_Check_c9 k)).trans (ref11_Check_p2_congr n a0_0 a0_1 a0_2 (rfl) (fun w3 => ref11_Check_p9_eq n w3 a0_0 a0_1 a0_2 k))
theorem ref11_Check_p11_eq {R : Type} (n : Nat) (a0_0 : Int) (a0_1 : List (List D)) (a0_2 : List (List D)) (k : Exit → St → Option R) : vexec (ref11_Check_C n) n ref11_Check_c0 ⟨91, [(0, .ag [.d (D.int .i64 a0_0), .d (D.sl 3 a0_1), .d (D.sl 6 a0_2)])], []⟩ k = ref11_Check_p11 n a0_0 a0_1 a0_2 (fun w65 => k .ret ⟨91, [(2, .d (D.bool w65))], []⟩) := by
  rw [ref11_Check_c0_eq]
  unfold ref11_Check_p11
  exact (ref11_Check_p1_eq n a0_0 a0_1 a0_2 (seqK (ref11_Check_C n) n ref11_Check_c10 k)).trans (ref11_Check_p1_congr n a0_0 a0_1 a0_2 (ref11_Check_p10_eq n a0_0 a0_1 a0_2 k))
theorem ref11_Check_vfn {R : Type} (n : Nat) (a0_0 : Int) (a0_1 : List (List D)) (a0_2 : List (List D)) (K : AV → Option R) : vfn (ref11_Check_C n) n Try.f13 [.ag [.d (D.int .i64 a0_0), .d (D.sl 3 a0_1), .d (D.sl 6 a0_2)]] [] (retF [[0]] K) = ref11_Check n a0_0 a0_1 a0_2 (fun r0 => K (.d (D.bool r0))) :=
  (show vfn (ref11_Check_C n) n Try.f13 [.ag [.d (D.int .i64 a0_0), .d (D.sl 3 a0_1), .d (D.sl 6 a0_2)]] [] (retF [[0]] K) = vexec (ref11_Check_C n) n ref11_Check_c0 ⟨91, [(0, .ag [.d (D.int .i64 a0_0), .d (D.sl 3 a0_1), .d (D.sl 6 a0_2)])], []⟩ (retX ref11_Check_tt [.tmp 2] (retF [[0]] K)) from vfn_at (by kernel_rfl) (by kernel_rfl) rfl (by kernel_rfl) rfl (by kernel_rfl) rfl).trans ((ref11_Check_p11_eq n a0_0 a0_1 a0_2 (retX ref11_Check_tt [.tmp 2] (retF [[0]] K))).trans (by kernel_rfl))
def ref11_Check_K : AV → Option (Bool) := fun av => match av with
  | .d (D.bool r0) => some r0
  | _ => none
def ref11_Check_e (n : Nat) : Entry := fun _ _ g avs _ k => match avs with
  | [c0] => 
    prG c0 fun l0 => (match l0 with
    | [c0_0, c0_1, c0_2] => prI g .i64 c0_0 fun a0_0 => prS g 3 c0_1 fun a0_1 => prS g 6 c0_2 fun a0_2 => 
    gb g (ref11_Check n a0_0 a0_1 a0_2 some) false fun r => k ⟨.d (D.bool r), [], []⟩
    | _ => none)
  | _ => none
theorem ref11_Check_ok (n : Nat) : EntryOK Try.prog 13 (ref11_Check_e n) := by
  intro R site g avs hl k r h
  unfold ref11_Check_e at h
  split at h
  rotate_left
  · cases h
  replace h := prG_some h
  obtain ⟨l0, h, e0⟩ := h
  subst e0
  split at h
  rotate_left
  · cases h
  replace h := prI_some h
  obtain ⟨a0_0, h, le0⟩ := h
  replace h := prS_some h
  obtain ⟨a0_1, h, le1⟩ := h
  replace h := prS_some h
  obtain ⟨a0_2, h, le2⟩ := h
  replace h := gb_some h
  obtain ⟨res, h, hr⟩ := h
  refine ⟨_, h, fun hg => CallOK.conv (avs' := [.ag [.d (D.int .i64 a0_0), .d (D.sl 3 a0_1), .d (D.sl 6 a0_2)]]) (.cons (.ag (.cons (le0 hg) (.cons (le1 hg) (.cons (le2 hg) (.nil))))) (.nil)) (callOK_fix (K := ref11_Check_K) (res := res) (ref11_Check_VC n) (fn := Try.f13) (n := n) (by kernel_rfl) (by kernel_rfl) (by kernel_rfl) (ss := [[0]]) rfl ?_ ?_)⟩
  · exact (ref11_Check_vfn n a0_0 a0_1 a0_2 ref11_Check_K).trans (hr hg)
  · intro x hx
    unfold ref11_Check_K at hx
    split at hx
    · injection hx with hx; subst hx; rfl
    · cases hx
end Go.Vx
/-
  ref11_Good: the interpreter computes the pure function
-/
set_option linter.unusedVariables false
set_option linter.unusedSimpArgs false
set_option maxRecDepth 100000
namespace Go.Vx
open Go.Proofs
noncomputable def ref11_Good_c0 : Code := bodyOf Try.f32
noncomputable def ref11_Good_c1 : Code := cL (bodyOf Try.f32)
noncomputable def ref11_Good_c2 : Code := cL (cR (bodyOf Try.f32))
noncomputable def ref11_Good_c3 : Code := cL (cL (cR (cR (bodyOf Try.f32))))
noncomputable def ref11_Good_c4 : Code := cB (cB (cR (cL (cR (cR (bodyOf Try.f32))))))
noncomputable def ref11_Good_c5 : Code := cB (cR (cL (cR (cR (bodyOf Try.f32)))))
noncomputable def ref11_Good_c6 : Code := cR (cL (cR (cR (bodyOf Try.f32))))
noncomputable def ref11_Good_c7 : Code := cL (cR (cR (bodyOf Try.f32)))
noncomputable def ref11_Good_c8 : Code := cR (cR (cR (bodyOf Try.f32)))
noncomputable def ref11_Good_c9 : Code := cR (cR (bodyOf Try.f32))
noncomputable def ref11_Good_c10 : Code := cR (bodyOf Try.f32)
theorem ref11_Good_c5_eq : ref11_Good_c5 = .loop ref11_Good_c4 := by kernel_rfl
theorem ref11_Good_c6_eq : ref11_Good_c6 = .block 0 ref11_Good_c5 := by kernel_rfl
theorem ref11_Good_c7_eq : ref11_Good_c7 = .seq ref11_Good_c3 ref11_Good_c6 := by kernel_rfl
theorem ref11_Good_c9_eq : ref11_Good_c9 = .seq ref11_Good_c7 ref11_Good_c8 := by kernel_rfl
theorem ref11_Good_c10_eq : ref11_Good_c10 = .seq ref11_Good_c2 ref11_Good_c9 := by kernel_rfl
theorem ref11_Good_c0_eq : ref11_Good_c0 = .seq ref11_Good_c1 ref11_Good_c10 := by kernel_rfl
def ref11_Good_tt : TT := [(3, ⟨.int .i64, 1, 8, [.int .i64 0], [.int .i64 0], [], none⟩), (22, ⟨.sl 3 1, 1, 24, [.slice none 0 0], [.sl 1 []], [], none⟩), (23, ⟨.sl 46 3, 1, 24, [.slice none 0 0], [.sl 3 []], [], none⟩), (26, ⟨.struct, 3, 56, [.int .i64 0, .slice none 0 0, .slice none 0 0], [.int .i64 0, .sl 3 [], .sl 6 []], [(0, 3), (1, 23), (2, 24)], none⟩)]
theorem ref11_Good_tt_eq : mkTT Try.prog [3, 22, 23, 26] = ref11_Good_tt := by kernel_rfl
def ref11_Good_cfg : List (Nat × Cfg) := [(0, ⟨[1, 2], [(2, 2)], [], [], []⟩), (1, ⟨[1, 2, 16], [(2, 2)], [], [], []⟩), (2, ⟨[4], [], [], [], []⟩), (3, ⟨[1, 2, 5], [(2, 2)], [], [], []⟩), (4, ⟨[1, 2, 5, 20], [(2, 2)], [], [], []⟩), (5, ⟨[1, 2, 5], [(2, 2)], [], [], []⟩), (6, ⟨[1, 2, 5, 31], [(2, 2)], [], [], []⟩), (7, ⟨[4], [], [], [], []⟩), (8, ⟨[4], [], [], [], []⟩)]
def ref11_Good_C (n : Nat) : VC := ⟨specOf [(13, ref11_Check_e n), (26, ref11_in_e n)], ref11_Good_tt, ref11_Good_cfg⟩
theorem ref11_Good_ents (n : Nat) : EntsOK Try.prog [(13, ref11_Check_e n), (26, ref11_in_e n)] := ⟨ref11_Check_ok n, ⟨ref11_in_ok n, trivial⟩⟩
theorem ref11_Good_VC (n : Nat) : VCOk Try.prog (ref11_Good_C n) := ⟨specOf_ok (ref11_Good_ents n), (ref11_Good_tt_eq ▸ mkTT_ok _ : TOk Try.prog ref11_Good_tt), by kernel_rfl⟩
theorem ref11_Good_p1_congr {R : Type} (n : Nat) (a0_0 : Int) (a0_1 : List (List D)) (a0_2 : List (List D)) (a1 : List (List D)) {k0 kk0 : Option R} (hq0 : k0 = kk0) : ref11_Good_p1 n a0_0 a0_1 a0_2 a1 k0 = ref11_Good_p1 n a0_0 a0_1 a0_2 a1 kk0 := by
  obtain rfl : k0 = kk0 := hq0
  rfl
theorem ref11_Good_p2_congr {R : Type} (n : Nat) (a1 : List (List D)) (a0_0 : Int) (a0_1 : List (List D)) (a0_2 : List (List D)) {k0 kk0 : Option R} {k1 kk1 : Bool → Option R} (hq0 : k0 = kk0) (hq1 : ∀ x0, k1 x0 = kk1 x0) : ref11_Good_p2 n a1 a0_0 a0_1 a0_2 k0 k1 = ref11_Good_p2 n a1 a0_0 a0_1 a0_2 kk0 kk1 := by
  obtain rfl : k0 = kk0 := hq0
  obtain rfl : k1 = kk1 := funext fun x0 => hq1 x0
  rfl
theorem ref11_Good_p3_congr {R : Type} (n : Nat) (a1 : List (List D)) (w3 : Bool) (a0_0 : Int) (a0_1 : List (List D)) (a0_2 : List (List D)) {k0 kk0 : Option R} (hq0 : k0 = kk0) : ref11_Good_p3 n a1 w3 a0_0 a0_1 a0_2 k0 = ref11_Good_p3 n a1 w3 a0_0 a0_1 a0_2 kk0 := by
  obtain rfl : k0 = kk0 := hq0
  rfl
theorem ref11_Good_p4_congr {R : Type} (n : Nat) (a1 : List (List D)) (h5 : Int) (a0_0 : Int) (a0_1 : List (List D)) (a0_2 : List (List D)) {k0 kk0 : Option R} {k1 kk1 : Int → Option R} {k2 kk2 : Bool → Option R} (hq0 : k0 = kk0) (hq1 : ∀ x0, k1 x0 = kk1 x0) (hq2 : ∀ x0, k2 x0 = kk2 x0) : ref11_Good_p4 n a1 h5 a0_0 a0_1 a0_2 k0 k1 k2 = ref11_Good_p4 n a1 h5 a0_0 a0_1 a0_2 kk0 kk1 kk2 := by
  obtain rfl : k0 = kk0 := hq0
  obtain rfl : k1 = kk1 := funext fun x0 => hq1 x0
  obtain rfl : k2 = kk2 := funext fun x0 => hq2 x0
  rfl
theorem ref11_Good_p5_congr {R : Type} (n : Nat) (a1 : List (List D)) (a0_0 : Int) (a0_1 : List (List D)) (a0_2 : List (List D)) {k0 kk0 : Option R} {k1 kk1 : Int → Bool → Option R} (hq0 : k0 = kk0) (hq1 : ∀ x0 x1, k1 x0 x1 = kk1 x0 x1) : ref11_Good_p5 n a1 a0_0 a0_1 a0_2 k0 k1 = ref11_Good_p5 n a1 a0_0 a0_1 a0_2 kk0 kk1 := by
  obtain rfl : k0 = kk0 := hq0
  obtain rfl : k1 = kk1 := funext fun x0 => funext fun x1 => hq1 x0 x1
  rfl
theorem ref11_Good_p6_congr {R : Type} (n : Nat) (a1 : List (List D)) (a0_0 : Int) (a0_1 : List (List D)) (a0_2 : List (List D)) {k0 kk0 : Option R} {k1 kk1 : Int → Bool → Option R} (hq0 : k0 = kk0) (hq1 : ∀ x0 x1, k1 x0 x1 = kk1 x0 x1) : ref11_Good_p6 n a1 a0_0 a0_1 a0_2 k0 k1 = ref11_Good_p6 n a1 a0_0 a0_1 a0_2 kk0 kk1 := by
  obtain rfl : k0 = kk0 := hq0
  obtain rfl : k1 = kk1 := funext fun x0 => funext fun x1 => hq1 x0 x1
  rfl
theorem ref11_Good_p7_congr {R : Type} (n : Nat) (a1 : List (List D)) (w3 : Bool) (a0_0 : Int) (a0_1 : List (List D)) (a0_2 : List (List D)) {k0 kk0 : Option R} {k1 kk1 : Int → Bool → Option R} (hq0 : k0 = kk0) (hq1 : ∀ x0 x1, k1 x0 x1 = kk1 x0 x1) : ref11_Good_p7 n a1 w3 a0_0 a0_1 a0_2 k0 k1 = ref11_Good_p7 n a1 w3 a0_0 a0_1 a0_2 kk0 kk1 := by
  obtain rfl : k0 = kk0 := hq0
  obtain rfl : k1 = kk1 := funext fun x0 => funext fun x1 => hq1 x0 x1
  rfl
theorem ref11_Good_p8_congr {R : Type} (n : Nat) (a1 : List (List D)) (w27 : Int) (w28 : Bool) (a0_0 : Int) (a0_1 : List (List D)) (a0_2 : List (List D)) {k0 kk0 : Option R} (hq0 : k0 = kk0) : ref11_Good_p8 n a1 w27 w28 a0_0 a0_1 a0_2 k0 = ref11_Good_p8 n a1 w27 w28 a0_0 a0_1 a0_2 kk0 := by
  obtain rfl : k0 = kk0 := hq0
  rfl
theorem ref11_Good_p9_congr {R : Type} (n : Nat) (a1 : List (List D)) (w3 : Bool) (a0_0 : Int) (a0_1 : List (List D)) (a0_2 : List (List D)) {k0 kk0 : Bool → Option R} (hq0 : ∀ x0, k0 x0 = kk0 x0) : ref11_Good_p9 n a1 w3 a0_0 a0_1 a0_2 k0 = ref11_Good_p9 n a1 w3 a0_0 a0_1 a0_2 kk0 := by
  obtain rfl : k0 = kk0 := funext fun x0 => hq0 x0
  rfl
theorem ref11_Good_p10_congr {R : Type} (n : Nat) (a1 : List (List D)) (a0_0 : Int) (a0_1 : List (List D)) (a0_2 : List (List D)) {k0 kk0 : Bool → Option R} (hq0 : ∀ x0, k0 x0 = kk0 x0) : ref11_Good_p10 n a1 a0_0 a0_1 a0_2 k0 = ref11_Good_p10 n a1 a0_0 a0_1 a0_2 kk0 := by
  obtain rfl : k0 = kk0 := funext fun x0 => hq0 x0
  rfl
theorem ref11_Good_p11_congr {R : Type} (n : Nat) (a0_0 : Int) (a0_1 : List (List D)) (a0_2 : List (List D)) (a1 : List (List D)) {k0 kk0 : Bool → Option R} (hq0 : ∀ x0, k0 x0 = kk0 x0) : ref11_Good_p11 n a0_0 a0_1 a0_2 a1 k0 = ref11_Good_p11 n a0_0 a0_1 a0_2 a1 kk0 := by
  obtain rfl : k0 = kk0 := funext fun x0 => hq0 x0
  rfl
theorem ref11_Good_p1_eq {R : Type} (n : Nat) (a0_0 : Int) (a0_1 : List (List D)) (a0_2 : List (List D)) (a1 : List (List D)) (k : Exit → St → Option R) : vexec (ref11_Good_C n) n ref11_Good_c1 ⟨32, [(0, .ag [.d (D.int .i64 a0_0), .d (D.sl 3 a0_1), .d (D.sl 6 a0_2)]), (1, .d (D.sl 1 a1))], []⟩ k = ref11_Good_p1 n a0_0 a0_1 a0_2 a1 (k .normal ⟨32, [(1, .d (D.sl 1 a1)), (2, .ptr 2 0)], [(2, .box [.d (D.int .i64 a0_0), .d (D.sl 3 a0_1), .d (D.sl 6 a0_2)])]⟩) := by kernel_rfl
theorem ref11_Good_p2_eq {R : Type} (n : Nat) (a1 : List (List D)) (a0_0 : Int) (a0_1 : List (List D)) (a0_2 : List (List D)) (k : Exit → St → Option R) : vexec (ref11_Good_C n) n ref11_Good_c2 ⟨32, [(1, .d (D.sl 1 a1)), (2, .ptr 2 0)], [(2, .box [.d (D.int .i64 a0_0), .d (D.sl 3 a0_1), .d (D.sl 6 a0_2)])]⟩ k = ref11_Good_p2 n a1 a0_0 a0_1 a0_2 (k .ret ⟨32, [(4, .d (D.bool false))], []⟩) (fun z2 => k .normal ⟨32, [(1, .d (D.sl 1 a1)), (2, .ptr 2 0), (16, .d (D.bool z2))], [(2, .box [.d (D.int .i64 a0_0), .d (D.sl 3 a0_1), .d (D.sl 6 a0_2)])]⟩) := by kernel_rfl
theorem ref11_Good_p3_eq {R : Type} (n : Nat) (a1 : List (List D)) (w3 : Bool) (a0_0 : Int) (a0_1 : List (List D)) (a0_2 : List (List D)) (k : Exit → St → Option R) : vexec (ref11_Good_C n) n ref11_Good_c3 ⟨32, [(1, .d (D.sl 1 a1)), (2, .ptr 2 0), (16, .d (D.bool w3))], [(2, .box [.d (D.int .i64 a0_0), .d (D.sl 3 a0_1), .d (D.sl 6 a0_2)])]⟩ k = ref11_Good_p3 n a1 w3 a0_0 a0_1 a0_2 (k .normal ⟨32, [(1, .d (D.sl 1 a1)), (2, .ptr 2 0), (5, .d (D.int .i64 (0 : Int)))], [(2, .box [.d (D.int .i64 a0_0), .d (D.sl 3 a0_1), .d (D.sl 6 a0_2)])]⟩) := by kernel_rfl
theorem ref11_Good_p4_eq {R : Type} (n : Nat) (a1 : List (List D)) (h5 : Int) (a0_0 : Int) (a0_1 : List (List D)) (a0_2 : List (List D)) (k : Exit → St → Option R) : vexec (ref11_Good_C n) n ref11_Good_c4 ⟨32, [(1, .d (D.sl 1 a1)), (2, .ptr 2 0), (5, .d (D.int .i64 h5))], [(2, .box [.d (D.int .i64 a0_0), .d (D.sl 3 a0_1), .d (D.sl 6 a0_2)])]⟩ k = ref11_Good_p4 n a1 h5 a0_0 a0_1 a0_2 (k .ret ⟨32, [(4, .d (D.bool false))], []⟩) (fun z19 => k .normal ⟨32, [(1, .d (D.sl 1 a1)), (2, .ptr 2 0), (5, .d (D.int .i64 z19))], [(2, .box [.d (D.int .i64 a0_0), .d (D.sl 3 a0_1), .d (D.sl 6 a0_2)])]⟩) (fun z20 => k (.exit 0) ⟨32, [(1, .d (D.sl 1 a1)), (2, .ptr 2 0), (5, .d (D.int .i64 h5)), (20, .d (D.bool z20))], [(2, .box [.d (D.int .i64 a0_0), .d (D.sl 3 a0_1), .d (D.sl 6 a0_2)])]⟩) := by kernel_rfl
theorem ref11_Good_r5_eq {R : Type} (n : Nat) (a1 : List (List D)) (a0_0 : Int) (a0_1 : List (List D)) (a0_2 : List (List D)) (k : Exit → St → Option R) : ∀ (m : Nat) (h5 : Int), loopN (vexec (ref11_Good_C n) n ref11_Good_c4) m ⟨32, [(1, .d (D.sl 1 a1)), (2, .ptr 2 0), (5, .d (D.int .i64 h5))], [(2, .box [.d (D.int .i64 a0_0), .d (D.sl 3 a0_1), .d (D.sl 6 a0_2)])]⟩ k = ref11_Good_r5 n a1 a0_0 a0_1 a0_2 (k .ret ⟨32, [(4, .d (D.bool false))], []⟩) (fun h5 w22 => k (.exit 0) ⟨32, [(1, .d (D.sl 1 a1)), (2, .ptr 2 0), (5, .d (D.int .i64 h5)), (20, .d (D.bool w22))], [(2, .box [.d (D.int .i64 a0_0), .d (D.sl 3 a0_1), .d (D.sl 6 a0_2)])]⟩) m h5
  | 0, _ => rfl
  | m + 1, h5 => (ref11_Good_p4_eq n a1 h5 a0_0 a0_1 a0_2 (loopK (vexec (ref11_Good_C n) n ref11_Good_c4) m k)).trans (ref11_Good_p4_congr n a1 h5 a0_0 a0_1 a0_2 (rfl) (fun w21 => ref11_Good_r5_eq n a1 a0_0 a0_1 a0_2 k m w21) (fun w22 => rfl))
theorem ref11_Good_p5_eq {R : Type} (n : Nat) (a1 : List (List D)) (a0_0 : Int) (a0_1 : List (List D)) (a0_2 : List (List D)) (k : Exit → St → Option R) : vexec (ref11_Good_C n) n ref11_Good_c5 ⟨32, [(1, .d (D.sl 1 a1)), (2, .ptr 2 0), (5, .d (D.int .i64 (0 : Int)))], [(2, .box [.d (D.int .i64 a0_0), .d (D.sl 3 a0_1), .d (D.sl 6 a0_2)])]⟩ k = ref11_Good_p5 n a1 a0_0 a0_1 a0_2 (k .ret ⟨32, [(4, .d (D.bool false))], []⟩) (fun h5 w22 => k (.exit 0) ⟨32, [(1, .d (D.sl 1 a1)), (2, .ptr 2 0), (5, .d (D.int .i64 h5)), (20, .d (D.bool w22))], [(2, .box [.d (D.int .i64 a0_0), .d (D.sl 3 a0_1), .d (D.sl 6 a0_2)])]⟩) := by
  rw [ref11_Good_c5_eq]
  exact ref11_Good_r5_eq n a1 a0_0 a0_1 a0_2 k n (0 : Int)
theorem ref11_Good_p6_eq {R : Type} (n : Nat) (a1 : List (List D)) (a0_0 : Int) (a0_1 : List (List D)) (a0_2 : List (List D)) (k : Exit → St → Option R) : vexec (ref11_Good_C n) n ref11_Good_c6 ⟨32, [(1, .d (D.sl 1 a1)), (2, .ptr 2 0), (5, .d (D.int .i64 (0 : Int)))], [(2, .box [.d (D.int .i64 a0_0), .d (D.sl 3 a0_1), .d (D.sl 6 a0_2)])]⟩ k = ref11_Good_p6 n a1 a0_0 a0_1 a0_2 (k .ret ⟨32, [(4, .d (D.bool false))], []⟩) (fun w23 w24 => k .normal ⟨32, [(1, .d (D.sl 1 a1)), (2, .ptr 2 0), (5, .d (D.int .i64 w23)), (20, .d (D.bool w24))], [(2, .box [.d (D.int .i64 a0_0), .d (D.sl 3 a0_1), .d (D.sl 6 a0_2)])]⟩) := by
  rw [ref11_Good_c6_eq]
  unfold ref11_Good_p6
  exact (ref11_Good_p5_eq n a1 a0_0 a0_1 a0_2 (blockK 0 k)).trans (ref11_Good_p5_congr n a1 a0_0 a0_1 a0_2 (rfl) (fun w23 w24 => rfl))
theorem ref11_Good_p7_eq {R : Type} (n : Nat) (a1 : List (List D)) (w3 : Bool) (a0_0 : Int) (a0_1 : List (List D)) (a0_2 : List (List D)) (k : Exit → St → Option R) : vexec (ref11_Good_C n) n ref11_Good_c7 ⟨32, [(1, .d (D.sl 1 a1)), (2, .ptr 2 0), (16, .d (D.bool w3))], [(2, .box [.d (D.int .i64 a0_0), .d (D.sl 3 a0_1), .d (D.sl 6 a0_2)])]⟩ k = ref11_Good_p7 n a1 w3 a0_0 a0_1 a0_2 (k .ret ⟨32, [(4, .d (D.bool false))], []⟩) (fun w25 w26 => k .normal ⟨32, [(1, .d (D.sl 1 a1)), (2, .ptr 2 0), (5, .d (D.int .i64 w25)), (20, .d (D.bool w26))], [(2, .box [.d (D.int .i64 a0_0), .d (D.sl 3 a0_1), .d (D.sl 6 a0_2)])]⟩) := by
  rw [ref11_Good_c7_eq]
  unfold ref11_Good_p7
  exact (ref11_Good_p3_eq n a1 w3 a0_0 a0_1 a0_2 (seqK (ref11_Good_C n) n ref11_Good_c6 k)).trans (ref11_Good_p3_congr n a1 w3 a0_0 a0_1 a0_2 (ref11_Good_p6_eq n a1 a0_0 a0_1 a0_2 k))
theorem ref11_Good_p8_eq {R : Type} (n : Nat) (a1 : List (List D)) (w27 : Int) (w28 : Bool) (a0_0 : Int) (a0_1 : List (List D)) (a0_2 : List (List D)) (k : Exit → St → Option R) : vexec (ref11_Good_C n) n ref11_Good_c8 ⟨32, [(1, .d (D.sl 1 a1)), (2, .ptr 2 0), (5, .d (D.int .i64 w27)), (20, .d (D.bool w28))], [(2, .box [.d (D.int .i64 a0_0), .d (D.sl 3 a0_1), .d (D.sl 6 a0_2)])]⟩ k = ref11_Good_p8 n a1 w27 w28 a0_0 a0_1 a0_2 (k .ret ⟨32, [(4, .d (D.bool true))], []⟩) := by kernel_rfl
theorem ref11_Good_p9_eq {R : Type} (n : Nat) (a1 : List (List D)) (w3 : Bool) (a0_0 : Int) (a0_1 : List (List D)) (a0_2 : List (List D)) (k : Exit → St → Option R) : vexec (ref11_Good_C n) n ref11_Good_c9 ⟨32, [(1, .d (D.sl 1 a1)), (2, .ptr 2 0), (16, .d (D.bool w3))], [(2, .box [.d (D.int .i64 a0_0), .d (D.sl 3 a0_1), .d (D.sl 6 a0_2)])]⟩ k = ref11_Good_p9 n a1 w3 a0_0 a0_1 a0_2 (fun z29 => k .ret ⟨32, [(4, .d (D.bool z29))], []⟩) := by
  rw [ref11_Good_c9_eq]
  unfold ref11_Good_p9
  exact (ref11_Good_p7_eq n a1 w3 a0_0 a0_1 a0_2 (seqK (ref11_Good_C n) n ref11_Good_c8 k)).trans (ref11_Good_p7_congr n a1 w3 a0_0 a0_1 a0_2 (rfl) (fun w27 w28 => ref11_Good_p8_eq n a1 w27 w28 a0_0 a0_1 a0_2 k))
theorem ref11_Good_p10_eq {R : Type} (n : Nat) (a1 : List (List D)) (a0_0 : Int) (a0_1 : List (List D)) (a0_2 : List (List D)) (k : Exit → St → Option R) : vexec (ref11_Good_C n) n ref11_Good_c10 ⟨32, [(1, .d (D.sl 1 a1)), (2, .ptr 2 0)], [(2, .box [.d (D.int .i64 a0_0), .d (D.sl 3 a0_1), .d (D.sl 6 a0_2)])]⟩ k = ref11_Good_p10 n a1 a0_0 a0_1 a0_2 (fun z31 => k .ret ⟨32, [(4, .d (D.bool z31))], []⟩) := by
  rw [ref11_Good_c10_eq]
  unfold ref11_Good_p10
  exact (ref11_Good_p2_eq n a1 a0_0 a0_1 a0_2 (seqK (ref11_Good_C n) n ref11_Good_c9 k)).trans (ref11_Good_p2_congr n a1 a0_0 a0_1 a0_2 (rfl) (fun w3 => ref11_Good_p9_eq n a1 w3 a0_0 a0_1 a0_2 k))
theorem ref11_Good_p11_eq {R : Type} (n : Nat) (a0_0 : Int) (a0_1 : List (List D)) (a0_2 : List (List D)) (a1 : List (List D)) (k : Exit → St → Option R) : vexec (ref11_Good_C n) n ref11_Good_c0 ⟨32, [(0, .ag [.d (D.int .i64 a0_0), .d (D.sl 3 a0_1), .d (D.sl 6 a0_2)]), (1, .d (D.sl 1 a1))], []⟩ k = ref11_Good_p11 n a0_0 a0_1 a0_2 a1 (fun w32 => k .ret ⟨32, [(4, .d (D.bool w32))], []⟩) := by
  rw [ref11_Good_c0_eq]
  unfold ref11_Good_p11
  exact (ref11_Good_p1_eq n a0_0 a0_1 a0_2 a1 (seqK (ref11_Good_C n) n ref11_Good_c10 k)).trans (ref11_Good_p1_congr n a0_0 a0_1 a0_2 a1 (ref11_Good_p10_eq n a1 a0_0 a0_1 a0_2 k))
theorem ref11_Good_vfn {R : Type} (n : Nat) (a0_0 : Int) (a0_1 : List (List D)) (a0_2 : List (List D)) (a1 : List (List D)) (K : AV → Option R) : vfn (ref11_Good_C n) n Try.f32 [.ag [.d (D.int .i64 a0_0), .d (D.sl 3 a0_1), .d (D.sl 6 a0_2)], .d (D.sl 1 a1)] [] (retF [[0]] K) = ref11_Good n a0_0 a0_1 a0_2 a1 (fun r0 => K (.d (D.bool r0))) :=
  (show vfn (ref11_Good_C n) n Try.f32 [.ag [.d (D.int .i64 a0_0), .d (D.sl 3 a0_1), .d (D.sl 6 a0_2)], .d (D.sl 1 a1)] [] (retF [[0]] K) = vexec (ref11_Good_C n) n ref11_Good_c0 ⟨32, [(0, .ag [.d (D.int .i64 a0_0), .d (D.sl 3 a0_1), .d (D.sl 6 a0_2)]), (1, .d (D.sl 1 a1))], []⟩ (retX ref11_Good_tt [.tmp 4] (retF [[0]] K)) from vfn_at (by kernel_rfl) (by kernel_rfl) rfl (by kernel_rfl) rfl (by kernel_rfl) rfl).trans ((ref11_Good_p11_eq n a0_0 a0_1 a0_2 a1 (retX ref11_Good_tt [.tmp 4] (retF [[0]] K))).trans (by kernel_rfl))
def ref11_Good_K : AV → Option (Bool) := fun av => match av with
  | .d (D.bool r0) => some r0
  | _ => none
def ref11_Good_e (n : Nat) : Entry := fun _ _ g avs _ k => match avs with
  | [c0, c1] => 
    prG c0 fun l0 => (match l0 with
    | [c0_0, c0_1, c0_2] => prI g .i64 c0_0 fun a0_0 => prS g 3 c0_1 fun a0_1 => prS g 6 c0_2 fun a0_2 => prS g 1 c1 fun a1 => 
    gb g (ref11_Good n a0_0 a0_1 a0_2 a1 some) false fun r => k ⟨.d (D.bool r), [], []⟩
    | _ => none)
  | _ => none
theorem ref11_Good_ok (n : Nat) : EntryOK Try.prog 32 (ref11_Good_e n) := by
  intro R site g avs hl k r h
  unfold ref11_Good_e at h
  split at h
  rotate_left
  · cases h
  replace h := prG_some h
  obtain ⟨l0, h, e0⟩ := h
  subst e0
  split at h
  rotate_left
  · cases h
  replace h := prI_some h
  obtain ⟨a0_0, h, le0⟩ := h
  replace h := prS_some h
  obtain ⟨a0_1, h, le1⟩ := h
  replace h := prS_some h
  obtain ⟨a0_2, h, le2⟩ := h
  replace h := prS_some h
  obtain ⟨a1, h, le3⟩ := h
  replace h := gb_some h
  obtain ⟨res, h, hr⟩ := h
  refine ⟨_, h, fun hg => CallOK.conv (avs' := [.ag [.d (D.int .i64 a0_0), .d (D.sl 3 a0_1), .d (D.sl 6 a0_2)], .d (D.sl 1 a1)]) (.cons (.ag (.cons (le0 hg) (.cons (le1 hg) (.cons (le2 hg) (.nil))))) (.cons (le3 hg) (.nil))) (callOK_fix (K := ref11_Good_K) (res := res) (ref11_Good_VC n) (fn := Try.f32) (n := n) (by kernel_rfl) (by kernel_rfl) (by kernel_rfl) (ss := [[0]]) rfl ?_ ?_)⟩
  · exact (ref11_Good_vfn n a0_0 a0_1 a0_2 a1 ref11_Good_K).trans (hr hg)
  · intro x hx
    unfold ref11_Good_K at hx
    split at hx
    · injection hx with hx; subst hx; rfl
    · cases hx
end Go.Vx
/-
  ref1_Mod: the interpreter computes the pure function
-/
set_option linter.unusedVariables false
set_option linter.unusedSimpArgs false
set_option maxRecDepth 100000
namespace Go.Vx
open Go.Proofs
noncomputable def ref1_Mod_c0 : Code := bodyOf Try.f16
def ref1_Mod_tt : TT := [(3, ⟨.int .i64, 1, 8, [.int .i64 0], [.int .i64 0], [], none⟩)]
theorem ref1_Mod_tt_eq : mkTT Try.prog [3] = ref1_Mod_tt := by kernel_rfl
def ref1_Mod_cfg : List (Nat × Cfg) := [(0, ⟨[0, 1], [], [], [], []⟩), (1, ⟨[0, 1, 7], [], [], [], []⟩), (2, ⟨[4], [], [], [], []⟩), (3, ⟨[1, 5], [], [], [], []⟩), (4, ⟨[1, 5, 12], [], [], [], []⟩), (5, ⟨[5], [], [], [], []⟩), (6, ⟨[4], [], [], [], []⟩)]
def ref1_Mod_C (n : Nat) : VC := ⟨specOf [], ref1_Mod_tt, ref1_Mod_cfg⟩
theorem ref1_Mod_ents (n : Nat) : EntsOK Try.prog [] := trivial
theorem ref1_Mod_VC (n : Nat) : VCOk Try.prog (ref1_Mod_C n) := ⟨specOf_ok (ref1_Mod_ents n), (ref1_Mod_tt_eq ▸ mkTT_ok _ : TOk Try.prog ref1_Mod_tt), by kernel_rfl⟩
theorem ref1_Mod_p1_congr {R : Type} (n : Nat) (a0 : Int) (a1 : Int) {k0 kk0 : Int → Option R} (hq0 : ∀ x0, k0 x0 = kk0 x0) : ref1_Mod_p1 n a0 a1 k0 = ref1_Mod_p1 n a0 a1 kk0 := by
  obtain rfl : k0 = kk0 := funext fun x0 => hq0 x0
  rfl
theorem ref1_Mod_p1_eq {R : Type} (n : Nat) (a0 : Int) (a1 : Int) (k : Exit → St → Option R) : vexec (ref1_Mod_C n) n ref1_Mod_c0 ⟨17, [(0, .d (D.int .i64 a0)), (1, .d (D.int .i64 a1))], []⟩ k = ref1_Mod_p1 n a0 a1 (fun z2 => k .ret ⟨17, [(4, .d (D.int .i64 z2))], []⟩) := by kernel_rfl
theorem ref1_Mod_vfn {R : Type} (n : Nat) (a0 : Int) (a1 : Int) (K : AV → Option R) : vfn (ref1_Mod_C n) n Try.f16 [.d (D.int .i64 a0), .d (D.int .i64 a1)] [] (retF [[0]] K) = ref1_Mod n a0 a1 (fun r0 => K (.d (D.int .i64 r0))) :=
  (show vfn (ref1_Mod_C n) n Try.f16 [.d (D.int .i64 a0), .d (D.int .i64 a1)] [] (retF [[0]] K) = vexec (ref1_Mod_C n) n ref1_Mod_c0 ⟨17, [(0, .d (D.int .i64 a0)), (1, .d (D.int .i64 a1))], []⟩ (retX ref1_Mod_tt [.tmp 4] (retF [[0]] K)) from vfn_at (by kernel_rfl) (by kernel_rfl) rfl (by kernel_rfl) rfl (by kernel_rfl) rfl).trans ((ref1_Mod_p1_eq n a0 a1 (retX ref1_Mod_tt [.tmp 4] (retF [[0]] K))).trans (by kernel_rfl))
def ref1_Mod_K : AV → Option (Int) := fun av => match av with
  | .d (D.int .i64 r0) => some r0
  | _ => none
def ref1_Mod_e (n : Nat) : Entry := fun _ _ g avs _ k => match avs with
  | [c0, c1] => prI g .i64 c0 fun a0 => prI g .i64 c1 fun a1 => 
    gb g (ref1_Mod n a0 a1 some) 0 fun r => k ⟨.d (D.int .i64 r), [], []⟩
  | _ => none
theorem ref1_Mod_ok (n : Nat) : EntryOK Try.prog 16 (ref1_Mod_e n) := by
  intro R site g avs hl k r h
  unfold ref1_Mod_e at h
  split at h
  rotate_left
  · cases h
  replace h := prI_some h
  obtain ⟨a0, h, le0⟩ := h
  replace h := prI_some h
  obtain ⟨a1, h, le1⟩ := h
  replace h := gb_some h
  obtain ⟨res, h, hr⟩ := h
  refine ⟨_, h, fun hg => CallOK.conv (avs' := [.d (D.int .i64 a0), .d (D.int .i64 a1)]) (.cons (le0 hg) (.cons (le1 hg) (.nil))) (callOK_fix (K := ref1_Mod_K) (res := res) (ref1_Mod_VC n) (fn := Try.f16) (n := n) (by kernel_rfl) (by kernel_rfl) (by kernel_rfl) (ss := [[0]]) rfl ?_ ?_)⟩
  · exact (ref1_Mod_vfn n a0 a1 ref1_Mod_K).trans (hr hg)
  · intro x hx
    unfold ref1_Mod_K at hx
    split at hx
    · injection hx with hx; subst hx; rfl
    · cases hx
end Go.Vx
/-
  ref11_Lasts: the interpreter computes the pure function
-/
set_option linter.unusedVariables false
set_option linter.unusedSimpArgs false
set_option maxRecDepth 100000
namespace Go.Vx
open Go.Proofs
noncomputable def ref11_Lasts_c0 : Code := bodyOf Try.f37
def ref11_Lasts_tt : TT := [(3, ⟨.int .i64, 1, 8, [.int .i64 0], [.int .i64 0], [], none⟩), (22, ⟨.sl 3 1, 1, 24, [.slice none 0 0], [.sl 1 []], [], none⟩), (26, ⟨.struct, 3, 56, [.int .i64 0, .slice none 0 0, .slice none 0 0], [.int .i64 0, .sl 3 [], .sl 6 []], [(0, 3), (1, 23), (2, 24)], none⟩), (31, ⟨.struct, 6, 48, [.int .i64 0, .int .i64 0, .int .i64 0, .int .i64 0, .int .i64 0, .int .i64 0], [.int .i64 0, .int .i64 0, .int .i64 0, .int .i64 0, .int .i64 0, .int .i64 0], [(0, 3), (1, 3), (2, 3), (3, 3), (4, 3), (5, 3)], some [.int .i64, .int .i64, .int .i64, .int .i64, .int .i64, .int .i64]⟩)]
theorem ref11_Lasts_tt_eq : mkTT Try.prog [3, 22, 26, 31] = ref11_Lasts_tt := by kernel_rfl
def ref11_Lasts_cfg : List (Nat × Cfg) := [(0, ⟨[1, 3, 5], [(3, 3), (5, 5)], [], [], []⟩), (1, ⟨[6], [], [], [], []⟩)]
def ref11_Lasts_C (n : Nat) : VC := ⟨specOf [(16, ref1_Mod_e n)], ref11_Lasts_tt, ref11_Lasts_cfg⟩
theorem ref11_Lasts_ents (n : Nat) : EntsOK Try.prog [(16, ref1_Mod_e n)] := ⟨ref1_Mod_ok n, trivial⟩
theorem ref11_Lasts_VC (n : Nat) : VCOk Try.prog (ref11_Lasts_C n) := ⟨specOf_ok (ref11_Lasts_ents n), (ref11_Lasts_tt_eq ▸ mkTT_ok _ : TOk Try.prog ref11_Lasts_tt), by kernel_rfl⟩
theorem ref11_Lasts_p1_congr {R : Type} (n : Nat) (a0_0 : Int) (a0_1 : List (List D)) (a0_2 : List (List D)) (a1 : List (List D)) (a2_0 : Int) (a2_1 : Int) (a2_2 : Int) (a2_3 : Int) (a2_4 : Int) (a2_5 : Int) {k0 kk0 : Int → Option R} (hq0 : ∀ x0, k0 x0 = kk0 x0) : ref11_Lasts_p1 n a0_0 a0_1 a0_2 a1 a2_0 a2_1 a2_2 a2_3 a2_4 a2_5 k0 = ref11_Lasts_p1 n a0_0 a0_1 a0_2 a1 a2_0 a2_1 a2_2 a2_3 a2_4 a2_5 kk0 := by
  obtain rfl : k0 = kk0 := funext fun x0 => hq0 x0
  rfl
theorem ref11_Lasts_p1_eq {R : Type} (n : Nat) (a0_0 : Int) (a0_1 : List (List D)) (a0_2 : List (List D)) (a1 : List (List D)) (a2_0 : Int) (a2_1 : Int) (a2_2 : Int) (a2_3 : Int) (a2_4 : Int) (a2_5 : Int) (k : Exit → St → Option R) : vexec (ref11_Lasts_C n) n ref11_Lasts_c0 ⟨27, [(0, .ag [.d (D.int .i64 a0_0), .d (D.sl 3 a0_1), .d (D.sl 6 a0_2)]), (1, .d (D.sl 1 a1)), (2, .ag [.d (D.int .i64 a2_0), .d (D.int .i64 a2_1), .d (D.int .i64 a2_2), .d (D.int .i64 a2_3), .d (D.int .i64 a2_4), .d (D.int .i64 a2_5)])], []⟩ k = ref11_Lasts_p1 n a0_0 a0_1 a0_2 a1 a2_0 a2_1 a2_2 a2_3 a2_4 a2_5 (fun z8 => k .ret ⟨27, [(6, .d (D.int .i64 z8))], []⟩) := by kernel_rfl
theorem ref11_Lasts_vfn {R : Type} (n : Nat) (a0_0 : Int) (a0_1 : List (List D)) (a0_2 : List (List D)) (a1 : List (List D)) (a2_0 : Int) (a2_1 : Int) (a2_2 : Int) (a2_3 : Int) (a2_4 : Int) (a2_5 : Int) (K : AV → Option R) : vfn (ref11_Lasts_C n) n Try.f37 [.ag [.d (D.int .i64 a0_0), .d (D.sl 3 a0_1), .d (D.sl 6 a0_2)], .d (D.sl 1 a1), .ag [.d (D.int .i64 a2_0), .d (D.int .i64 a2_1), .d (D.int .i64 a2_2), .d (D.int .i64 a2_3), .d (D.int .i64 a2_4), .d (D.int .i64 a2_5)]] [] (retF [[0]] K) = ref11_Lasts n a0_0 a0_1 a0_2 a1 a2_0 a2_1 a2_2 a2_3 a2_4 a2_5 (fun r0 => K (.d (D.int .i64 r0))) :=
  (show vfn (ref11_Lasts_C n) n Try.f37 [.ag [.d (D.int .i64 a0_0), .d (D.sl 3 a0_1), .d (D.sl 6 a0_2)], .d (D.sl 1 a1), .ag [.d (D.int .i64 a2_0), .d (D.int .i64 a2_1), .d (D.int .i64 a2_2), .d (D.int .i64 a2_3), .d (D.int .i64 a2_4), .d (D.int .i64 a2_5)]] [] (retF [[0]] K) = vexec (ref11_Lasts_C n) n ref11_Lasts_c0 ⟨27, [(0, .ag [.d (D.int .i64 a0_0), .d (D.sl 3 a0_1), .d (D.sl 6 a0_2)]), (1, .d (D.sl 1 a1)), (2, .ag [.d (D.int .i64 a2_0), .d (D.int .i64 a2_1), .d (D.int .i64 a2_2), .d (D.int .i64 a2_3), .d (D.int .i64 a2_4), .d (D.int .i64 a2_5)])], []⟩ (retX ref11_Lasts_tt [.tmp 6] (retF [[0]] K)) from vfn_at (by kernel_rfl) (by kernel_rfl) rfl (by kernel_rfl) rfl (by kernel_rfl) rfl).trans ((ref11_Lasts_p1_eq n a0_0 a0_1 a0_2 a1 a2_0 a2_1 a2_2 a2_3 a2_4 a2_5 (retX ref11_Lasts_tt [.tmp 6] (retF [[0]] K))).trans (by kernel_rfl))
def ref11_Lasts_K : AV → Option (Int) := fun av => match av with
  | .d (D.int .i64 r0) => some r0
  | _ => none
def ref11_Lasts_e (n : Nat) : Entry := fun _ _ g avs _ k => match avs with
  | [c0, c1, c2] => 
    prG c0 fun l0 => (match l0 with
    | [c0_0, c0_1, c0_2] => prI g .i64 c0_0 fun a0_0 => prS g 3 c0_1 fun a0_1 => prS g 6 c0_2 fun a0_2 => prS g 1 c1 fun a1 => 
    prG c2 fun l2 => (match l2 with
    | [c2_0, c2_1, c2_2, c2_3, c2_4, c2_5] => prI g .i64 c2_0 fun a2_0 => prI g .i64 c2_1 fun a2_1 => prI g .i64 c2_2 fun a2_2 => prI g .i64 c2_3 fun a2_3 => prI g .i64 c2_4 fun a2_4 => prI g .i64 c2_5 fun a2_5 => 
    gb g (ref11_Lasts n a0_0 a0_1 a0_2 a1 a2_0 a2_1 a2_2 a2_3 a2_4 a2_5 some) 0 fun r => k ⟨.d (D.int .i64 r), [], []⟩
    | _ => none)
    | _ => none)
  | _ => none
theorem ref11_Lasts_ok (n : Nat) : EntryOK Try.prog 37 (ref11_Lasts_e n) := by
  intro R site g avs hl k r h
  unfold ref11_Lasts_e at h
  split at h
  rotate_left
  · cases h
  replace h := prG_some h
  obtain ⟨l0, h, e0⟩ := h
  subst e0
  split at h
  rotate_left
  · cases h
  replace h := prI_some h
  obtain ⟨a0_0, h, le0⟩ := h
  replace h := prS_some h
  obtain ⟨a0_1, h, le1⟩ := h
  replace h := prS_some h
  obtain ⟨a0_2, h, le2⟩ := h
  replace h := prS_some h
  obtain ⟨a1, h, le3⟩ := h
  replace h := prG_some h
  obtain ⟨l2, h, e2⟩ := h
  subst e2
  split at h
  rotate_left
  · cases h
  replace h := prI_some h
  obtain ⟨a2_0, h, le4⟩ := h
  replace h := prI_some h
  obtain ⟨a2_1, h, le5⟩ := h
  replace h := prI_some h
  obtain ⟨a2_2, h, le6⟩ := h
  replace h := prI_some h
  obtain ⟨a2_3, h, le7⟩ := h
  replace h := prI_some h
  obtain ⟨a2_4, h, le8⟩ := h
  replace h := prI_some h
  obtain ⟨a2_5, h, le9⟩ := h
  replace h := gb_some h
  obtain ⟨res, h, hr⟩ := h
  refine ⟨_, h, fun hg => CallOK.conv (avs' := [.ag [.d (D.int .i64 a0_0), .d (D.sl 3 a0_1), .d (D.sl 6 a0_2)], .d (D.sl 1 a1), .ag [.d (D.int .i64 a2_0), .d (D.int .i64 a2_1), .d (D.int .i64 a2_2), .d (D.int .i64 a2_3), .d (D.int .i64 a2_4), .d (D.int .i64 a2_5)]]) (.cons (.ag (.cons (le0 hg) (.cons (le1 hg) (.cons (le2 hg) (.nil))))) (.cons (le3 hg) (.cons (.ag (.cons (le4 hg) (.cons (le5 hg) (.cons (le6 hg) (.cons (le7 hg) (.cons (le8 hg) (.cons (le9 hg) (.nil)))))))) (.nil)))) (callOK_fix (K := ref11_Lasts_K) (res := res) (ref11_Lasts_VC n) (fn := Try.f37) (n := n) (by kernel_rfl) (by kernel_rfl) (by kernel_rfl) (ss := [[0]]) rfl ?_ ?_)⟩
  · exact (ref11_Lasts_vfn n a0_0 a0_1 a0_2 a1 a2_0 a2_1 a2_2 a2_3 a2_4 a2_5 ref11_Lasts_K).trans (hr hg)
  · intro x hx
    unfold ref11_Lasts_K at hx
    split at hx
    · injection hx with hx; subst hx; rfl
    · cases hx
end Go.Vx
/-
  ref11_First: the interpreter computes the pure function
-/
set_option linter.unusedVariables false
set_option linter.unusedSimpArgs false
set_option maxRecDepth 100000
namespace Go.Vx
open Go.Proofs
noncomputable def ref11_First_c0 : Code := bodyOf Try.f30
noncomputable def ref11_First_c1 : Code := cL (bodyOf Try.f30)
noncomputable def ref11_First_c2 : Code := cL (cR (bodyOf Try.f30))
noncomputable def ref11_First_c3 : Code := cL (cL (cR (cR (bodyOf Try.f30))))
noncomputable def ref11_First_c4 : Code := cB (cB (cR (cL (cR (cR (bodyOf Try.f30))))))
noncomputable def ref11_First_c5 : Code := cB (cR (cL (cR (cR (bodyOf Try.f30)))))
noncomputable def ref11_First_c6 : Code := cR (cL (cR (cR (bodyOf Try.f30))))
noncomputable def ref11_First_c7 : Code := cL (cR (cR (bodyOf Try.f30)))
noncomputable def ref11_First_c8 : Code := cR (cR (cR (bodyOf Try.f30)))
noncomputable def ref11_First_c9 : Code := cR (cR (bodyOf Try.f30))
noncomputable def ref11_First_c10 : Code := cR (bodyOf Try.f30)
theorem ref11_First_c5_eq : ref11_First_c5 = .loop ref11_First_c4 := by kernel_rfl
theorem ref11_First_c6_eq : ref11_First_c6 = .block 0 ref11_First_c5 := by kernel_rfl
theorem ref11_First_c7_eq : ref11_First_c7 = .seq ref11_First_c3 ref11_First_c6 := by kernel_rfl
theorem ref11_First_c9_eq : ref11_First_c9 = .seq ref11_First_c7 ref11_First_c8 := by kernel_rfl
theorem ref11_First_c10_eq : ref11_First_c10 = .seq ref11_First_c2 ref11_First_c9 := by kernel_rfl
theorem ref11_First_c0_eq : ref11_First_c0 = .seq ref11_First_c1 ref11_First_c10 := by kernel_rfl
def ref11_First_tt : TT := [(3, ⟨.int .i64, 1, 8, [.int .i64 0], [.int .i64 0], [], none⟩), (24, ⟨.sl 31 6, 1, 24, [.slice none 0 0], [.sl 6 []], [], none⟩), (26, ⟨.struct, 3, 56, [.int .i64 0, .slice none 0 0, .slice none 0 0], [.int .i64 0, .sl 3 [], .sl 6 []], [(0, 3), (1, 23), (2, 24)], none⟩), (31, ⟨.struct, 6, 48, [.int .i64 0, .int .i64 0, .int .i64 0, .int .i64 0, .int .i64 0, .int .i64 0], [.int .i64 0, .int .i64 0, .int .i64 0, .int .i64 0, .int .i64 0, .int .i64 0], [(0, 3), (1, 3), (2, 3), (3, 3), (4, 3), (5, 3)], some [.int .i64, .int .i64, .int .i64, .int .i64, .int .i64, .int .i64]⟩)]
theorem ref11_First_tt_eq : mkTT Try.prog [3, 24, 26, 31] = ref11_First_tt := by kernel_rfl
def ref11_First_cfg : List (Nat × Cfg) := [(0, ⟨[1, 2], [(2, 2)], [], [], []⟩), (1, ⟨[1, 2, 10], [(2, 2)], [], [], []⟩), (2, ⟨[4, 5], [], [], [], []⟩), (3, ⟨[1, 2, 6], [(2, 2)], [], [], []⟩), (4, ⟨[1, 2, 6, 15], [(2, 2)], [], [], []⟩), (5, ⟨[1, 2, 6], [(2, 2)], [], [], []⟩), (6, ⟨[1, 2, 6, 32], [(2, 2)], [], [], []⟩), (7, ⟨[4, 5], [], [], [], []⟩), (8, ⟨[4, 5], [], [], [], []⟩)]
def ref11_First_C (n : Nat) : VC := ⟨specOf [(32, ref11_Good_e n), (37, ref11_Lasts_e n)], ref11_First_tt, ref11_First_cfg⟩
theorem ref11_First_ents (n : Nat) : EntsOK Try.prog [(32, ref11_Good_e n), (37, ref11_Lasts_e n)] := ⟨ref11_Good_ok n, ⟨ref11_Lasts_ok n, trivial⟩⟩
theorem ref11_First_VC (n : Nat) : VCOk Try.prog (ref11_First_C n) := ⟨specOf_ok (ref11_First_ents n), (ref11_First_tt_eq ▸ mkTT_ok _ : TOk Try.prog ref11_First_tt), by kernel_rfl⟩
theorem ref11_First_p1_congr {R : Type} (n : Nat) (a0_0 : Int) (a0_1 : List (List D)) (a0_2 : List (List D)) (a1 : List (List D)) {k0 kk0 : Option R} (hq0 : k0 = kk0) : ref11_First_p1 n a0_0 a0_1 a0_2 a1 k0 = ref11_First_p1 n a0_0 a0_1 a0_2 a1 kk0 := by
  obtain rfl : k0 = kk0 := hq0
  rfl
theorem ref11_First_p2_congr {R : Type} (n : Nat) (a1 : List (List D)) (a0_0 : Int) (a0_1 : List (List D)) (a0_2 : List (List D)) {k0 kk0 : Option R} {k1 kk1 : Bool → Option R} (hq0 : k0 = kk0) (hq1 : ∀ x0, k1 x0 = kk1 x0) : ref11_First_p2 n a1 a0_0 a0_1 a0_2 k0 k1 = ref11_First_p2 n a1 a0_0 a0_1 a0_2 kk0 kk1 := by
  obtain rfl : k0 = kk0 := hq0
  obtain rfl : k1 = kk1 := funext fun x0 => hq1 x0
  rfl
theorem ref11_First_p3_congr {R : Type} (n : Nat) (a1 : List (List D)) (w3 : Bool) (a0_0 : Int) (a0_1 : List (List D)) (a0_2 : List (List D)) {k0 kk0 : Option R} (hq0 : k0 = kk0) : ref11_First_p3 n a1 w3 a0_0 a0_1 a0_2 k0 = ref11_First_p3 n a1 w3 a0_0 a0_1 a0_2 kk0 := by
  obtain rfl : k0 = kk0 := hq0
  rfl
theorem ref11_First_p4_congr {R : Type} (n : Nat) (a1 : List (List D)) (h5 : Int) (a0_0 : Int) (a0_1 : List (List D)) (a0_2 : List (List D)) {k0 kk0 : Option R} {k1 kk1 : Int → Option R} {k2 kk2 : Bool → Option R} (hq0 : k0 = kk0) (hq1 : ∀ x0, k1 x0 = kk1 x0) (hq2 : ∀ x0, k2 x0 = kk2 x0) : ref11_First_p4 n a1 h5 a0_0 a0_1 a0_2 k0 k1 k2 = ref11_First_p4 n a1 h5 a0_0 a0_1 a0_2 kk0 kk1 kk2 := by
  obtain rfl : k0 = kk0 := hq0
  obtain rfl : k1 = kk1 := funext fun x0 => hq1 x0
  obtain rfl : k2 = kk2 := funext fun x0 => hq2 x0
  rfl
theorem ref11_First_p5_congr {R : Type} (n : Nat) (a1 : List (List D)) (a0_0 : Int) (a0_1 : List (List D)) (a0_2 : List (List D)) {k0 kk0 : Int → Option R} {k1 kk1 : Int → Bool → Option R} (hq0 : ∀ x0, k0 x0 = kk0 x0) (hq1 : ∀ x0 x1, k1 x0 x1 = kk1 x0 x1) : ref11_First_p5 n a1 a0_0 a0_1 a0_2 k0 k1 = ref11_First_p5 n a1 a0_0 a0_1 a0_2 kk0 kk1 := by
  obtain rfl : k0 = kk0 := funext fun x0 => hq0 x0
  obtain rfl : k1 = kk1 := funext fun x0 => funext fun x1 => hq1 x0 x1
  rfl
theorem ref11_First_p6_congr {R : Type} (n : Nat) (a1 : List (List D)) (a0_0 : Int) (a0_1 : List (List D)) (a0_2 : List (List D)) {k0 kk0 : Int → Option R} {k1 kk1 : Int → Bool → Option R} (hq0 : ∀ x0, k0 x0 = kk0 x0) (hq1 : ∀ x0 x1, k1 x0 x1 = kk1 x0 x1) : ref11_First_p6 n a1 a0_0 a0_1 a0_2 k0 k1 = ref11_First_p6 n a1 a0_0 a0_1 a0_2 kk0 kk1 := by
  obtain rfl : k0 = kk0 := funext fun x0 => hq0 x0
  obtain rfl : k1 = kk1 := funext fun x0 => funext fun x1 => hq1 x0 x1
  rfl
theorem ref11_First_p7_congr {R : Type} (n : Nat) (a1 : List (List D)) (w3 : Bool) (a0_0 : Int) (a0_1 : List (List D)) (a0_2 : List (List D)) {k0 kk0 : Int → Option R} {k1 kk1 : Int → Bool → Option R} (hq0 : ∀ x0, k0 x0 = kk0 x0) (hq1 : ∀ x0 x1, k1 x0 x1 = kk1 x0 x1) : ref11_First_p7 n a1 w3 a0_0 a0_1 a0_2 k0 k1 = ref11_First_p7 n a1 w3 a0_0 a0_1 a0_2 kk0 kk1 := by
  obtain rfl : k0 = kk0 := funext fun x0 => hq0 x0
  obtain rfl : k1 = kk1 := funext fun x0 => funext fun x1 => hq1 x0 x1
  rfl
theorem ref11_First_p8_congr {R : Type} (n : Nat) (a1 : List (List D)) (w56 : Int) (w57 : Bool) (a0_0 : Int) (a0_1 : List (List D)) (a0_2 : List (List D)) {k0 kk0 : Option R} (hq0 : k0 = kk0) : ref11_First_p8 n a1 w56 w57 a0_0 a0_1 a0_2 k0 = ref11_First_p8 n a1 w56 w57 a0_0 a0_1 a0_2 kk0 := by
  obtain rfl : k0 = kk0 := hq0
  rfl
theorem ref11_First_p9_congr {R : Type} (n : Nat) (a1 : List (List D)) (w3 : Bool) (a0_0 : Int) (a0_1 : List (List D)) (a0_2 : List (List D)) {k0 kk0 : Int → Bool → Option R} (hq0 : ∀ x0 x1, k0 x0 x1 = kk0 x0 x1) : ref11_First_p9 n a1 w3 a0_0 a0_1 a0_2 k0 = ref11_First_p9 n a1 w3 a0_0 a0_1 a0_2 kk0 := by
  obtain rfl : k0 = kk0 := funext fun x0 => funext fun x1 => hq0 x0 x1
  rfl
theorem ref11_First_p10_congr {R : Type} (n : Nat) (a1 : List (List D)) (a0_0 : Int) (a0_1 : List (List D)) (a0_2 : List (List D)) {k0 kk0 : Int → Bool → Option R} (hq0 : ∀ x0 x1, k0 x0 x1 = kk0 x0 x1) : ref11_First_p10 n a1 a0_0 a0_1 a0_2 k0 = ref11_First_p10 n a1 a0_0 a0_1 a0_2 kk0 := by
  obtain rfl : k0 = kk0 := funext fun x0 => funext fun x1 => hq0 x0 x1
  rfl
theorem ref11_First_p11_congr {R : Type} (n : Nat) (a0_0 : Int) (a0_1 : List (List D)) (a0_2 : List (List D)) (a1 : List (List D)) {k0 kk0 : Int → Bool → Option R} (hq0 : ∀ x0 x1, k0 x0 x1 = kk0 x0 x1) : ref11_First_p11 n a0_0 a0_1 a0_2 a1 k0 = ref11_First_p11 n a0_0 a0_1 a0_2 a1 kk0 := by
  obtain rfl : k0 = kk0 := funext fun x0 => funext fun x1 => hq0 x0 x1
  rfl
theorem ref11_First_p1_eq {R : Type} (n : Nat) (a0_0 : Int) (a0_1 : List (List D)) (a0_2 : List (List D)) (a1 : List (List D)) (k : Exit → St → Option R) : vexec (ref11_First_C n) n ref11_First_c1 ⟨34, [(0, .ag [.d (D.int .i64 a0_0), .d (D.sl 3 a0_1), .d (D.sl 6 a0_2)]), (1, .d (D.sl 1 a1))], []⟩ k = ref11_First_p1 n a0_0 a0_1 a0_2 a1 (k .normal ⟨34, [(1, .d (D.sl 1 a1)), (2, .ptr 2 0)], [(2, .box [.d (D.int .i64 a0_0), .d (D.sl 3 a0_1), .d (D.sl 6 a0_2)])]⟩) := by kernel_rfl
theorem ref11_First_p2_eq {R : Type} (n : Nat) (a1 : List (List D)) (a0_0 : Int) (a0_1 : List (List D)) (a0_2 : List (List D)) (k : Exit → St → Option R) : vexec (ref11_First_C n) n ref11_First_c2 ⟨34, [(1, .d (D.sl 1 a1)), (2, .ptr 2 0)], [(2, .box [.d (D.int .i64 a0_0), .d (D.sl 3 a0_1), .d (D.sl 6 a0_2)])]⟩ k = ref11_First_p2 n a1 a0_0 a0_1 a0_2 (k .ret ⟨34, [(4, .d (D.int .i64 (0 : Int))), (5, .d (D.bool false))], []⟩) (fun z2 => k .normal ⟨34, [(1, .d (D.sl 1 a1)), (2, .ptr 2 0), (10, .d (D.bool z2))], [(2, .box [.d (D.int .i64 a0_0), .d (D.sl 3 a0_1), .d (D.sl 6 a0_2)])]⟩) := by kernel_rfl
theorem ref11_First_p3_eq {R : Type} (n : Nat) (a1 : List (List D)) (w3 : Bool) (a0_0 : Int) (a0_1 : List (List D)) (a0_2 : List (List D)) (k : Exit → St → Option R) : vexec (ref11_First_C n) n ref11_First_c3 ⟨34, [(1, .d (D.sl 1 a1)), (2, .ptr 2 0), (10, .d (D.bool w3))], [(2, .box [.d (D.int .i64 a0_0), .d (D.sl 3 a0_1), .d (D.sl 6 a0_2)])]⟩ k = ref11_First_p3 n a1 w3 a0_0 a0_1 a0_2 (k .normal ⟨34, [(1, .d (D.sl 1 a1)), (2, .ptr 2 0), (6, .d (D.int .i64 (0 : Int)))], [(2, .box [.d (D.int .i64 a0_0), .d (D.sl 3 a0_1), .d (D.sl 6 a0_2)])]⟩) := by kernel_rfl
theorem ref11_First_p4_eq {R : Type} (n : Nat) (a1 : List (List D)) (h5 : Int) (a0_0 : Int) (a0_1 : List (List D)) (a0_2 : List (List D)) (k : Exit → St → Option R) : vexec (ref11_First_C n) n ref11_First_c4 ⟨34, [(1, .d (D.sl 1 a1)), (2, .ptr 2 0), (6, .d (D.int .i64 h5))], [(2, .box [.d (D.int .i64 a0_0), .d (D.sl 3 a0_1), .d (D.sl 6 a0_2)])]⟩ k = ref11_First_p4 n a1 h5 a0_0 a0_1 a0_2 (k .ret ⟨34, [(4, .d (D.int .i64 h5)), (5, .d (D.bool true))], []⟩) (fun z45 => k .normal ⟨34, [(1, .d (D.sl 1 a1)), (2, .ptr 2 0), (6, .d (D.int .i64 z45))], [(2, .box [.d (D.int .i64 a0_0), .d (D.sl 3 a0_1), .d (D.sl 6 a0_2)])]⟩) (fun z46 => k (.exit 0) ⟨34, [(1, .d (D.sl 1 a1)), (2, .ptr 2 0), (6, .d (D.int .i64 h5)), (15, .d (D.bool z46))], [(2, .box [.d (D.int .i64 a0_0), .d (D.sl 3 a0_1), .d (D.sl 6 a0_2)])]⟩) := by kernel_rfl
theorem ref11_First_r5_eq {R : Type} (n : Nat) (a1 : List (List D)) (a0_0 : Int) (a0_1 : List (List D)) (a0_2 : List (List D)) (k : Exit → St → Option R) : ∀ (m : Nat) (h5 : Int), loopN (vexec (ref11_First_C n) n ref11_First_c4) m ⟨34, [(1, .d (D.sl 1 a1)), (2, .ptr 2 0), (6, .d (D.int .i64 h5))], [(2, .box [.d (D.int .i64 a0_0), .d (D.sl 3 a0_1), .d (D.sl 6 a0_2)])]⟩ k = ref11_First_r5 n a1 a0_0 a0_1 a0_2 (fun h5 => k .ret ⟨34, [(4, .d (D.int .i64 h5)), (5, .d (D.bool true))], []⟩) (fun h5 w48 => k (.exit 0) ⟨34, [(1, .d (D.sl 1 a1)), (2, .ptr 2 0), (6, .d (D.int .i64 h5)), (15, .d (D.bool w48))], [(2, .box [.d (D.int .i64 a0_0), .d (D.sl 3 a0_1), .d (D.sl 6 a0_2)])]⟩) m h5
  | 0, _ => rfl
  | m + 1, h5 => (ref11_First_p4_eq n a1 h5 a0_0 a0_1 a0_2 (loopK (vexec (ref11_First_C n) n ref11_First_c4) m k)).trans (ref11_First_p4_congr n a1 h5 a0_0 a0_1 a0_2 (rfl) (fun w47 => ref11_First_r5_eq n a1 a0_0 a0_1 a0_2 k m w47) (fun w48 => rfl))
theorem ref11_First_p5_eq {R : Type} (n : Nat) (a1 : List (List D)) (a0_0 : Int) (a0_1 : List (List D)) (a0_2 : List (List D)) (k : Exit → St → Option R) : vexec (ref11_First_C n) n ref11_First_c5 ⟨34, [(1, .d (D.sl 1 a1)), (2, .ptr 2 0), (6, .d (D.int .i64 (0 : Int)))], [(2, .box [.d (D.int .i64 a0_0), .d (D.sl 3 a0_1), .d (D.sl 6 a0_2)])]⟩ k = ref11_First_p5 n a1 a0_0 a0_1 a0_2 (fun h5 => k .ret ⟨34, [(4, .d (D.int .i64 h5)), (5, .d (D.bool true))], []⟩) (fun h5 w48 => k (.exit 0) ⟨34, [(1, .d (D.sl 1 a1)), (2, .ptr 2 0), (6, .d (D.int .i64 h5)), (15, .d (D.bool w48))], [(2, .box [.d (D.int .i64 a0_0), .d (D.sl 3 a0_1), .d (D.sl 6 a0_2)])]⟩) := by
  rw [ref11_First_c5_eq]
  exact ref11_First_r5_eq n a1 a0_0 a0_1 a0_2 k n (0 : Int)
theorem ref11_First_p6_eq {R : Type} (n : Nat) (a1 : List (List D)) (a0_0 : Int) (a0_1 : List (List D)) (a0_2 : List (List D)) (k : Exit → St → Option R) : vexec (ref11_First_C n) n ref11_First_c6 ⟨34, [(1, .d (D.sl 1 a1)), (2, .ptr 2 0), (6, .d (D.int .i64 (0 : Int)))], [(2, .box [.d (D.int .i64 a0_0), .d (D.sl 3 a0_1), .d (D.sl 6 a0_2)])]⟩ k = ref11_First_p6 n a1 a0_0 a0_1 a0_2 (fun w49 => k .ret ⟨34, [(4, .d (D.int .i64 w49)), (5, .d (D.bool true))], []⟩) (fun w50 w51 => k .normal ⟨34, [(1, .d (D.sl 1 a1)), (2, .ptr 2 0), (6, .d (D.int .i64 w50)), (15, .d (D.bool w51))], [(2, .box [.d (D.int .i64 a0_0), .d (D.sl 3 a0_1), .d (D.sl 6 a0_2)])]⟩) := by
  rw [ref11_First_c6_eq]
  unfold ref11_First_p6
  exact (ref11_First_p5_eq n a1 a0_0 a0_1 a0_2 (blockK 0 k)).trans (ref11_First_p5_congr n a1 a0_0 a0_1 a0_2 (fun w49 => rfl) (fun w50 w51 => rfl))
theorem ref11_First_p7_eq {R : Type} (n : Nat) (a1 : List (List D)) (w3 : Bool) (a0_0 : Int) (a0_1 : List (List D)) (a0_2 : List (List D)) (k : Exit → St → Option R) : vexec (ref11_First_C n) n ref11_First_c7 ⟨34, [(1, .d (D.sl 1 a1)), (2, .ptr 2 0), (10, .d (D.bool w3))], [(2, .box [.d (D.int .i64 a0_0), .d (D.sl 3 a0_1), .d (D.sl 6 a0_2)])]⟩ k = ref11_First_p7 n a1 w3 a0_0 a0_1 a0_2 (fun w52 => k .ret ⟨34, [(4, .d (D.int .i64 w52)), (5, .d (D.bool true))], []⟩) (fun w53 w54 => k .normal ⟨34, [(1, .d (D.sl 1 a1)), (2, .ptr 2 0), (6, .d (D.int .i64 w53)), (15, .d (D.bool w54))], [(2, .box [.d (D.int .i64 a0_0), .d (D.sl 3 a0_1), .d (D.sl 6 a0_2)])]⟩) := by
  rw [ref11_First_c7_eq]
  unfold ref11_First_p7
  exact (ref11_First_p3_eq n a1 w3 a0_0 a0_1 a0_2 (seqK (ref11_First_C n) n ref11_First_c6 k)).trans (ref11_First_p3_congr n a1 w3 a0_0 a0_1 a0_2 (ref11_First_p6_eq n a1 a0_0 a0_1 a0_2 k))
theorem ref11_First_p8_eq {R : Type} (n : Nat) (a1 : List (List D)) (w56 : Int) (w57 : Bool) (a0_0 : Int) (a0_1 : List (List D)) (a0_2 : List (List D)) (k : Exit → St → Option R) : vexec (ref11_First_C n) n ref11_First_c8 ⟨34, [(1, .d (D.sl 1 a1)), (2, .ptr 2 0), (6, .d (D.int .i64 w56)), (15, .d (D.bool w57))], [(2, .box [.d (D.int .i64 a0_0), .d (D.sl 3 a0_1), .d (D.sl 6 a0_2)])]⟩ k = ref11_First_p8 n a1 w56 w57 a0_0 a0_1 a0_2 (k .ret ⟨34, [(4, .d (D.int .i64 (0 : Int))), (5, .d (D.bool false))], []⟩) := by kernel_rfl
theorem ref11_First_p9_eq {R : Type} (n : Nat) (a1 : List (List D)) (w3 : Bool) (a0_0 : Int) (a0_1 : List (List D)) (a0_2 : List (List D)) (k : Exit → St → Option R) : vexec (ref11_First_C n) n ref11_First_c9 ⟨34, [(1, .d (D.sl 1 a1)), (2, .ptr 2 0), (10, .d (D.bool w3))], [(2, .box [.d (D.int .i64 a0_0), .d (D.sl 3 a0_1), .d (D.sl 6 a0_2)])]⟩ k = ref11_First_p9 n a1 w3 a0_0 a0_1 a0_2 (fun z58 z59 => k .ret ⟨34, [(4, .d (D.int .i64 z58)), (5, .d (D.bool z59))], []⟩) := by
  rw [ref11_First_c9_eq]
  unfold ref11_First_p9
  exact (ref11_First_p7_eq n a1 w3 a0_0 a0_1 a0_2 (seqK (ref11_First_C n) n ref11_First_c8 k)).trans (ref11_First_p7_congr n a1 w3 a0_0 a0_1 a0_2 (fun w55 => rfl) (fun w56 w57 => ref11_First_p8_eq n a1 w56 w57 a0_0 a0_1 a0_2 k))
theorem ref11_First_p10_eq {R : Type} (n : Nat) (a1 : List (List D)) (a0_0 : Int) (a0_1 : List (List D)) (a0_2 : List (List D)) (k : Exit → St → Option R) : vexec (ref11_First_C n) n ref11_First_c10 ⟨34, [(1, .d (D.sl 1 a1)), (2, .ptr 2 0)], [(2, .box [.d (D.int .i64 a0_0), .d (D.sl 3 a0_1), .d (D.sl 6 a0_2)])]⟩ k = ref11_First_p10 n a1 a0_0 a0_1 a0_2 (fun z62 z63 => k .ret ⟨34, [(4, .d (D.int .i64 z62)), (5, .d (D.bool z63))], []⟩) := by
  rw [ref11_First_c10_eq]
  unfold ref11_First_p10
  exact (ref11_First_p2_eq n a1 a0_0 a0_1 a0_2 (seqK (ref11_First_C n) n ref11_First_c9 k)).trans (ref11_First_p2_congr n a1 a0_0 a0_1 a0_2 (rfl) (fun w3 => ref11_First_p9_eq n a1 w3 a0_0 a0_1 a0_2 k))
theorem ref11_First_p11_eq {R : Type} (n : Nat) (a0_0 : Int) (a0_1 : List (List D)) (a0_2 : List (List D)) (a1 : List (List D)) (k : Exit → St → Option R) : vexec (ref11_First_C n) n ref11_First_c0 ⟨34, [(0, .ag [.d (D.int .i64 a0_0), .d (D.sl 3 a0_1), .d (D.sl 6 a0_2)]), (1, .d (D.sl 1 a1))], []⟩ k = ref11_First_p11 n a0_0 a0_1 a0_2 a1 (fun w64 w65 => k .ret ⟨34, [(4, .d (D.int .i64 w64)), (5, .d (D.bool w65))], []⟩) := by
  rw [ref11_First_c0_eq]
  unfold ref11_First_p11
  exact (ref11_First_p1_eq n a0_0 a0_1 a0_2 a1 (seqK (ref11_First_C n) n ref11_First_c10 k)).trans (ref11_First_p1_congr n a0_0 a0_1 a0_2 a1 (ref11_First_p10_eq n a1 a0_0 a0_1 a0_2 k))
theorem ref11_First_vfn {R : Type} (n : Nat) (a0_0 : Int) (a0_1 : List (List D)) (a0_2 : List (List D)) (a1 : List (List D)) (K : AV → Option R) : vfn (ref11_First_C n) n Try.f30 [.ag [.d (D.int .i64 a0_0), .d (D.sl 3 a0_1), .d (D.sl 6 a0_2)], .d (D.sl 1 a1)] [] (retF [[0], [0]] K) = ref11_First n a0_0 a0_1 a0_2 a1 (fun r0 r1 => K (.tup [.d (D.int .i64 r0), .d (D.bool r1)])) :=
  (show vfn (ref11_First_C n) n Try.f30 [.ag [.d (D.int .i64 a0_0), .d (D.sl 3 a0_1), .d (D.sl 6 a0_2)], .d (D.sl 1 a1)] [] (retF [[0], [0]] K) = vexec (ref11_First_C n) n ref11_First_c0 ⟨34, [(0, .ag [.d (D.int .i64 a0_0), .d (D.sl 3 a0_1), .d (D.sl 6 a0_2)]), (1, .d (D.sl 1 a1))], []⟩ (retX ref11_First_tt [.tmp 4, .tmp 5] (retF [[0], [0]] K)) from vfn_at (by kernel_rfl) (by kernel_rfl) rfl (by kernel_rfl) rfl (by kernel_rfl) rfl).trans ((ref11_First_p11_eq n a0_0 a0_1 a0_2 a1 (retX ref11_First_tt [.tmp 4, .tmp 5] (retF [[0], [0]] K))).trans (by kernel_rfl))
def ref11_First_K : AV → Option (Int × Bool) := fun av => match av with
  | .tup [.d (D.int .i64 r0), .d (D.bool r1)] => some (r0, r1)
  | _ => none
def ref11_First_e (n : Nat) : Entry := fun _ _ g avs _ k => match avs with
  | [c0, c1] => 
    prG c0 fun l0 => (match l0 with
    | [c0_0, c0_1, c0_2] => prI g .i64 c0_0 fun a0_0 => prS g 3 c0_1 fun a0_1 => prS g 6 c0_2 fun a0_2 => prS g 1 c1 fun a1 => 
    gb g (ref11_First n a0_0 a0_1 a0_2 a1 (fun r0 r1 => some (r0, r1))) (0, false) fun r => k ⟨.tup [.d (D.int .i64 r.1), .d (D.bool r.2)], [], []⟩
    | _ => none)
  | _ => none
theorem ref11_First_ok (n : Nat) : EntryOK Try.prog 30 (ref11_First_e n) := by
  intro R site g avs hl k r h
  unfold ref11_First_e at h
  split at h
  rotate_left
  · cases h
  replace h := prG_some h
  obtain ⟨l0, h, e0⟩ := h
  subst e0
  split at h
  rotate_left
  · cases h
  replace h := prI_some h
  obtain ⟨a0_0, h, le0⟩ := h
  replace h := prS_some h
  obtain ⟨a0_1, h, le1⟩ := h
  replace h := prS_some h
  obtain ⟨a0_2, h, le2⟩ := h
  replace h := prS_some h
  obtain ⟨a1, h, le3⟩ := h
  replace h := gb_some h
  obtain ⟨res, h, hr⟩ := h
  refine ⟨_, h, fun hg => CallOK.conv (avs' := [.ag [.d (D.int .i64 a0_0), .d (D.sl 3 a0_1), .d (D.sl 6 a0_2)], .d (D.sl 1 a1)]) (.cons (.ag (.cons (le0 hg) (.cons (le1 hg) (.cons (le2 hg) (.nil))))) (.cons (le3 hg) (.nil))) (callOK_fix (K := ref11_First_K) (res := res) (ref11_First_VC n) (fn := Try.f30) (n := n) (by kernel_rfl) (by kernel_rfl) (by kernel_rfl) (ss := [[0], [0]]) rfl ?_ ?_)⟩
  · exact (ref11_First_vfn n a0_0 a0_1 a0_2 a1 ref11_First_K).trans (hr hg)
  · intro x hx
    unfold ref11_First_K at hx
    split at hx
    · injection hx with hx; subst hx; rfl
    · cases hx
end Go.Vx
/-
  network_Cost: the interpreter computes the pure function
-/
set_option linter.unusedVariables false
set_option linter.unusedSimpArgs false
set_option maxRecDepth 100000
namespace Go.Vx
open Go.Proofs
noncomputable def network_Cost_c0 : Code := bodyOf Try.f18
noncomputable def network_Cost_c1 : Code := cL (bodyOf Try.f18)
noncomputable def network_Cost_c2 : Code := cL (cR (bodyOf Try.f18))
noncomputable def network_Cost_c3 : Code := cL (cR (cR (bodyOf Try.f18)))
noncomputable def network_Cost_c4 : Code := cL (cL (cR (cR (cR (bodyOf Try.f18)))))
noncomputable def network_Cost_c5 : Code := cB (cB (cR (cL (cR (cR (cR (bodyOf Try.f18)))))))
noncomputable def network_Cost_c6 : Code := cB (cR (cL (cR (cR (cR (bodyOf Try.f18))))))
noncomputable def network_Cost_c7 : Code := cR (cL (cR (cR (cR (bodyOf Try.f18)))))
noncomputable def network_Cost_c8 : Code := cL (cR (cR (cR (bodyOf Try.f18))))
noncomputable def network_Cost_c9 : Code := cR (cR (cR (cR (bodyOf Try.f18))))
noncomputable def network_Cost_c10 : Code := cR (cR (cR (bodyOf Try.f18)))
noncomputable def network_Cost_c11 : Code := cR (cR (bodyOf Try.f18))
noncomputable def network_Cost_c12 : Code := cR (bodyOf Try.f18)
theorem network_Cost_c6_eq : network_Cost_c6 = .loop network_Cost_c5 := by kernel_rfl
theorem network_Cost_c7_eq : network_Cost_c7 = .block 0 network_Cost_c6 := by kernel_rfl
theorem network_Cost_c8_eq : network_Cost_c8 = .seq network_Cost_c4 network_Cost_c7 := by kernel_rfl
theorem network_Cost_c10_eq : network_Cost_c10 = .seq network_Cost_c8 network_Cost_c9 := by kernel_rfl
theorem network_Cost_c11_eq : network_Cost_c11 = .seq network_Cost_c3 network_Cost_c10 := by kernel_rfl
theorem network_Cost_c12_eq : network_Cost_c12 = .seq network_Cost_c2 network_Cost_c11 := by kernel_rfl
theorem network_Cost_c0_eq : network_Cost_c0 = .seq network_Cost_c1 network_Cost_c12 := by kernel_rfl
def network_Cost_tt : TT := [(3, ⟨.int .i64, 1, 8, [.int .i64 0], [.int .i64 0], [], none⟩), (24, ⟨.sl 31 6, 1, 24, [.slice none 0 0], [.sl 6 []], [], none⟩), (26, ⟨.struct, 3, 56, [.int .i64 0, .slice none 0 0, .slice none 0 0], [.int .i64 0, .sl 3 [], .sl 6 []], [(0, 3), (1, 23), (2, 24)], none⟩), (31, ⟨.struct, 6, 48, [.int .i64 0, .int .i64 0, .int .i64 0, .int .i64 0, .int .i64 0, .int .i64 0], [.int .i64 0, .int .i64 0, .int .i64 0, .int .i64 0, .int .i64 0, .int .i64 0], [(0, 3), (1, 3), (2, 3), (3, 3), (4, 3), (5, 3)], some [.int .i64, .int .i64, .int .i64, .int .i64, .int .i64, .int .i64]⟩)]
theorem network_Cost_tt_eq : mkTT Try.prog [3, 24, 26, 31] = network_Cost_tt := by kernel_rfl
def network_Cost_cfg : List (Nat × Cfg) := [(0, ⟨[1, 2], [(2, 2)], [], [], []⟩), (1, ⟨[1, 2, 12], [(2, 2)], [], [], []⟩), (2, ⟨[4, 5], [], [], [], []⟩), (3, ⟨[1, 2, 6], [(2, 2)], [], [], []⟩), (4, ⟨[1, 2, 6, 14, 15, 16], [(2, 2)], [], [], []⟩), (5, ⟨[1, 2, 6, 14, 15, 16, 17], [(2, 2)], [], [], []⟩), (6, ⟨[1, 2, 6, 8, 14, 15, 16], [(2, 2), (8, 8)], [], [], []⟩), (7, ⟨[1, 2, 6, 14, 15, 16], [(2, 2)], [], [], []⟩), (8, ⟨[1, 2, 6, 14, 15, 16], [(2, 2)], [], [], []⟩), (9, ⟨[4, 5], [], [], [], []⟩)]
def network_Cost_C (n : Nat) : VC := ⟨specOf [(27, network_Good_e n), (28, network_duration_e n)], network_Cost_tt, network_Cost_cfg⟩
theorem network_Cost_ents (n : Nat) : EntsOK Try.prog [(27, network_Good_e n), (28, network_duration_e n)] := ⟨network_Good_ok n, ⟨network_duration_ok n, trivial⟩⟩
theorem network_Cost_VC (n : Nat) : VCOk Try.prog (network_Cost_C n) := ⟨specOf_ok (network_Cost_ents n), (network_Cost_tt_eq ▸ mkTT_ok _ : TOk Try.prog network_Cost_tt), by kernel_rfl⟩
theorem network_Cost_p1_congr {R : Type} (n : Nat) (a0_0 : Int) (a0_1 : List (List D)) (a0_2 : List (List D)) (a1 : List (List D)) {k0 kk0 : Option R} (hq0 : k0 = kk0) : network_Cost_p1 n a0_0 a0_1 a0_2 a1 k0 = network_Cost_p1 n a0_0 a0_1 a0_2 a1 kk0 := by
  obtain rfl : k0 = kk0 := hq0
  rfl
theorem network_Cost_p2_congr {R : Type} (n : Nat) (a1 : List (List D)) (a0_0 : Int) (a0_1 : List (List D)) (a0_2 : List (List D)) {k0 kk0 : Option R} {k1 kk1 : Bool → Option R} (hq0 : k0 = kk0) (hq1 : ∀ x0, k1 x0 = kk1 x0) : network_Cost_p2 n a1 a0_0 a0_1 a0_2 k0 k1 = network_Cost_p2 n a1 a0_0 a0_1 a0_2 kk0 kk1 := by
  obtain rfl : k0 = kk0 := hq0
  obtain rfl : k1 = kk1 := funext fun x0 => hq1 x0
  rfl
theorem network_Cost_p3_congr {R : Type} (n : Nat) (a1 : List (List D)) (w3 : Bool) (a0_0 : Int) (a0_1 : List (List D)) (a0_2 : List (List D)) {k0 kk0 : Option R} (hq0 : k0 = kk0) : network_Cost_p3 n a1 w3 a0_0 a0_1 a0_2 k0 = network_Cost_p3 n a1 w3 a0_0 a0_1 a0_2 kk0 := by
  obtain rfl : k0 = kk0 := hq0
  rfl
theorem network_Cost_p4_congr {R : Type} (n : Nat) (a1 : List (List D)) (a0_0 : Int) (a0_1 : List (List D)) (a0_2 : List (List D)) {k0 kk0 : Int → Option R} (hq0 : ∀ x0, k0 x0 = kk0 x0) : network_Cost_p4 n a1 a0_0 a0_1 a0_2 k0 = network_Cost_p4 n a1 a0_0 a0_1 a0_2 kk0 := by
  obtain rfl : k0 = kk0 := funext fun x0 => hq0 x0
  rfl
theorem network_Cost_p5_congr {R : Type} (n : Nat) (a1 : List (List D)) (h7 : Int) (a0_2 : List (List D)) (w5 : Int) (h10 : Int) (a0_0 : Int) (a0_1 : List (List D)) {k0 kk0 : Int → Int → Option R} {k1 kk1 : Bool → Option R} (hq0 : ∀ x0 x1, k0 x0 x1 = kk0 x0 x1) (hq1 : ∀ x0, k1 x0 = kk1 x0) : network_Cost_p5 n a1 h7 a0_2 w5 h10 a0_0 a0_1 k0 k1 = network_Cost_p5 n a1 h7 a0_2 w5 h10 a0_0 a0_1 kk0 kk1 := by
  obtain rfl : k0 = kk0 := funext fun x0 => funext fun x1 => hq0 x0 x1
  obtain rfl : k1 = kk1 := funext fun x0 => hq1 x0
  rfl
theorem network_Cost_p6_congr {R : Type} (n : Nat) (a1 : List (List D)) (a0_2 : List (List D)) (w5 : Int) (a0_0 : Int) (a0_1 : List (List D)) {k0 kk0 : Int → Int → Bool → Option R} (hq0 : ∀ x0 x1 x2, k0 x0 x1 x2 = kk0 x0 x1 x2) : network_Cost_p6 n a1 a0_2 w5 a0_0 a0_1 k0 = network_Cost_p6 n a1 a0_2 w5 a0_0 a0_1 kk0 := by
  obtain rfl : k0 = kk0 := funext fun x0 => funext fun x1 => funext fun x2 => hq0 x0 x1 x2
  rfl
theorem network_Cost_p7_congr {R : Type} (n : Nat) (a1 : List (List D)) (a0_2 : List (List D)) (w5 : Int) (a0_0 : Int) (a0_1 : List (List D)) {k0 kk0 : Int → Int → Bool → Option R} (hq0 : ∀ x0 x1 x2, k0 x0 x1 x2 = kk0 x0 x1 x2) : network_Cost_p7 n a1 a0_2 w5 a0_0 a0_1 k0 = network_Cost_p7 n a1 a0_2 w5 a0_0 a0_1 kk0 := by
  obtain rfl : k0 = kk0 := funext fun x0 => funext fun x1 => funext fun x2 => hq0 x0 x1 x2
  rfl
theorem network_Cost_p8_congr {R : Type} (n : Nat) (a1 : List (List D)) (a0_0 : Int) (a0_1 : List (List D)) (a0_2 : List (List D)) {k0 kk0 : Int → Int → Int → Bool → Option R} (hq0 : ∀ x0 x1 x2 x3, k0 x0 x1 x2 x3 = kk0 x0 x1 x2 x3) : network_Cost_p8 n a1 a0_0 a0_1 a0_2 k0 = network_Cost_p8 n a1 a0_0 a0_1 a0_2 kk0 := by
  obtain rfl : k0 = kk0 := funext fun x0 => funext fun x1 => funext fun x2 => funext fun x3 => hq0 x0 x1 x2 x3
  rfl
theorem network_Cost_p9_congr {R : Type} (n : Nat) (a1 : List (List D)) (w59 : Int) (a0_2 : List (List D)) (w60 : Int) (w61 : Int) (w62 : Bool) (a0_0 : Int) (a0_1 : List (List D)) {k0 kk0 : Option R} (hq0 : k0 = kk0) : network_Cost_p9 n a1 w59 a0_2 w60 w61 w62 a0_0 a0_1 k0 = network_Cost_p9 n a1 w59 a0_2 w60 w61 w62 a0_0 a0_1 kk0 := by
  obtain rfl : k0 = kk0 := hq0
  rfl
theorem network_Cost_p10_congr {R : Type} (n : Nat) (a1 : List (List D)) (a0_0 : Int) (a0_1 : List (List D)) (a0_2 : List (List D)) {k0 kk0 : Int → Option R} (hq0 : ∀ x0, k0 x0 = kk0 x0) : network_Cost_p10 n a1 a0_0 a0_1 a0_2 k0 = network_Cost_p10 n a1 a0_0 a0_1 a0_2 kk0 := by
  obtain rfl : k0 = kk0 := funext fun x0 => hq0 x0
  rfl
theorem network_Cost_p11_congr {R : Type} (n : Nat) (a1 : List (List D)) (w3 : Bool) (a0_0 : Int) (a0_1 : List (List D)) (a0_2 : List (List D)) {k0 kk0 : Int → Option R} (hq0 : ∀ x0, k0 x0 = kk0 x0) : network_Cost_p11 n a1 w3 a0_0 a0_1 a0_2 k0 = network_Cost_p11 n a1 w3 a0_0 a0_1 a0_2 kk0 := by
  obtain rfl : k0 = kk0 := funext fun x0 => hq0 x0
  rfl
theorem network_Cost_p12_congr {R : Type} (n : Nat) (a1 : List (List D)) (a0_0 : Int) (a0_1 : List (List D)) (a0_2 : List (List D)) {k0 kk0 : Int → Int → Option R} (hq0 : ∀ x0 x1, k0 x0 x1 = kk0 x0 x1) : network_Cost_p12 n a1 a0_0 a0_1 a0_2 k0 = network_Cost_p12 n a1 a0_0 a0_1 a0_2 kk0 := by
  obtain rfl : k0 = kk0 := funext fun x0 => funext fun x1 => hq0 x0 x1
  rfl
theorem network_Cost_p13_congr {R : Type} (n : Nat) (a0_0 : Int) (a0_1 : List (List D)) (a0_2 : List (List D)) (a1 : List (List D)) {k0 kk0 : Int → Int → Option R} (hq0 : ∀ x0 x1, k0 x0 x1 = kk0 x0 x1) : network_Cost_p13 n a0_0 a0_1 a0_2 a1 k0 = network_Cost_p13 n a0_0 a0_1 a0_2 a1 kk0 := by
  obtain rfl : k0 = kk0 := funext fun x0 => funext fun x1 => hq0 x0 x1
  rfl
theorem network_Cost_p1_eq {R : Type} (n : Nat) (a0_0 : Int) (a0_1 : List (List D)) (a0_2 : List (List D)) (a1 : List (List D)) (k : Exit → St → Option R) : vexec (network_Cost_C n) n network_Cost_c1 ⟨31, [(0, .ag [.d (D.int .i64 a0_0), .d (D.sl 3 a0_1), .d (D.sl 6 a0_2)]), (1, .d (D.sl 1 a1))], []⟩ k = network_Cost_p1 n a0_0 a0_1 a0_2 a1 (k .normal ⟨31, [(1, .d (D.sl 1 a1)), (2, .ptr 2 0)], [(2, .box [.d (D.int .i64 a0_0), .d (D.sl 3 a0_1), .d (D.sl 6 a0_2)])]⟩) := by kernel_rfl
theorem network_Cost_p2_eq {R : Type} (n : Nat) (a1 : List (List D)) (a0_0 : Int) (a0_1 : List (List D)) (a0_2 : List (List D)) (k : Exit → St → Option R) : vexec (network_Cost_C n) n network_Cost_c2 ⟨31, [(1, .d (D.sl 1 a1)), (2, .ptr 2 0)], [(2, .box [.d (D.int .i64 a0_0), .d (D.sl 3 a0_1), .d (D.sl 6 a0_2)])]⟩ k = network_Cost_p2 n a1 a0_0 a0_1 a0_2 (k .ret ⟨31, [(4, .d (D.int .i64 (0 : Int))), (5, .d (D.int .i64 (1 : Int)))], []⟩) (fun z2 => k .normal ⟨31, [(1, .d (D.sl 1 a1)), (2, .ptr 2 0), (12, .d (D.bool z2))], [(2, .box [.d (D.int .i64 a0_0), .d (D.sl 3 a0_1), .d (D.sl 6 a0_2)])]⟩) := by kernel_rfl
theorem network_Cost_p3_eq {R : Type} (n : Nat) (a1 : List (List D)) (w3 : Bool) (a0_0 : Int) (a0_1 : List (List D)) (a0_2 : List (List D)) (k : Exit → St → Option R) : vexec (network_Cost_C n) n network_Cost_c3 ⟨31, [(1, .d (D.sl 1 a1)), (2, .ptr 2 0), (12, .d (D.bool w3))], [(2, .box [.d (D.int .i64 a0_0), .d (D.sl 3 a0_1), .d (D.sl 6 a0_2)])]⟩ k = network_Cost_p3 n a1 w3 a0_0 a0_1 a0_2 (k .normal ⟨31, [(1, .d (D.sl 1 a1)), (2, .ptr 2 0), (6, .d (D.int .i64 (0 : Int)))], [(2, .box [.d (D.int .i64 a0_0), .d (D.sl 3 a0_1), .d (D.sl 6 a0_2)])]⟩) := by kernel_rfl
theorem network_Cost_p4_eq {R : Type} (n : Nat) (a1 : List (List D)) (a0_0 : Int) (a0_1 : List (List D)) (a0_2 : List (List D)) (k : Exit → St → Option R) : vexec (network_Cost_C n) n network_Cost_c4 ⟨31, [(1, .d (D.sl 1 a1)), (2, .ptr 2 0), (6, .d (D.int .i64 (0 : Int)))], [(2, .box [.d (D.int .i64 a0_0), .d (D.sl 3 a0_1), .d (D.sl 6 a0_2)])]⟩ k = network_Cost_p4 n a1 a0_0 a0_1 a0_2 (fun z4 => k .normal ⟨31, [(1, .d (D.sl 1 a1)), (2, .ptr 2 0), (6, .d (D.int .i64 (0 : Int))), (14, .d (D.sl 6 a0_2)), (15, .d (D.int .i64 z4)), (16, .d (D.int .i64 (0 : Int)))], [(2, .box [.d (D.int .i64 a0_0), .d (D.sl 3 a0_1), .d (D.sl 6 a0_2)])]⟩) := by kernel_rfl
theorem network_Cost_p5_eq {R : Type} (n : Nat) (a1 : List (List D)) (h7 : Int) (a0_2 : List (List D)) (w5 : Int) (h10 : Int) (a0_0 : Int) (a0_1 : List (List D)) (k : Exit → St → Option R) : vexec (network_Cost_C n) n network_Cost_c5 ⟨31, [(1, .d (D.sl 1 a1)), (2, .ptr 2 0), (6, .d (D.int .i64 h7)), (14, .d (D.sl 6 a0_2)), (15, .d (D.int .i64 w5)), (16, .d (D.int .i64 h10))], [(2, .box [.d (D.int .i64 a0_0), .d (D.sl 3 a0_1), .d (D.sl 6 a0_2)])]⟩ k = network_Cost_p5 n a1 h7 a0_2 w5 h10 a0_0 a0_1 (fun z47 z48 => k .normal ⟨31, [(1, .d (D.sl 1 a1)), (2, .ptr 2 0), (6, .d (D.int .i64 z47)), (14, .d (D.sl 6 a0_2)), (15, .d (D.int .i64 w5)), (16, .d (D.int .i64 z48))], [(2, .box [.d (D.int .i64 a0_0), .d (D.sl 3 a0_1), .d (D.sl 6 a0_2)])]⟩) (fun z49 => k (.exit 0) ⟨31, [(1, .d (D.sl 1 a1)), (2, .ptr 2 0), (6, .d (D.int .i64 h7)), (14, .d (D.sl 6 a0_2)), (15, .d (D.int .i64 w5)), (16, .d (D.int .i64 h10)), (17, .d (D.bool z49))], [(2, .box [.d (D.int .i64 a0_0), .d (D.sl 3 a0_1), .d (D.sl 6 a0_2)])]⟩) := by kernel_rfl
theorem network_Cost_r6_eq {R : Type} (n : Nat) (a1 : List (List D)) (a0_2 : List (List D)) (w5 : Int) (a0_0 : Int) (a0_1 : List (List D)) (k : Exit → St → Option R) : ∀ (m : Nat) (h7 : Int) (h10 : Int), loopN (vexec (network_Cost_C n) n network_Cost_c5) m ⟨31, [(1, .d (D.sl 1 a1)), (2, .ptr 2 0), (6, .d (D.int .i64 h7)), (14, .d (D.sl 6 a0_2)), (15, .d (D.int .i64 w5)), (16, .d (D.int .i64 h10))], [(2, .box [.d (D.int .i64 a0_0), .d (D.sl 3 a0_1), .d (D.sl 6 a0_2)])]⟩ k = network_Cost_r6 n a1 a0_2 w5 a0_0 a0_1 (fun h7 h10 w52 => k (.exit 0) ⟨31, [(1, .d (D.sl 1 a1)), (2, .ptr 2 0), (6, .d (D.int .i64 h7)), (14, .d (D.sl 6 a0_2)), (15, .d (D.int .i64 w5)), (16, .d (D.int .i64 h10)), (17, .d (D.bool w52))], [(2, .box [.d (D.int .i64 a0_0), .d (D.sl 3 a0_1), .d (D.sl 6 a0_2)])]⟩) m h7 h10
  | 0, _, _ => rfl
  | m + 1, h7, h10 => (network_Cost_p5_eq n a1 h7 a0_2 w5 h10 a0_0 a0_1 (loopK (vexec (network_Cost_C n) n network_Cost_c5) m k)).trans (network_Cost_p5_congr n a1 h7 a0_2 w5 h10 a0_0 a0_1 (fun w50 w51 => network_Cost_r6_eq n a1 a0_2 w5 a0_0 a0_1 k m w50 w51) (fun w52 => rfl))
theorem network_Cost_p6_eq {R : Type} (n : Nat) (a1 : List (List D)) (a0_2 : List (List D)) (w5 : Int) (a0_0 : Int) (a0_1 : List (List D)) (k : Exit → St → Option R) : vexec (network_Cost_C n) n network_Cost_c6 ⟨31, [(1, .d (D.sl 1 a1)), (2, .ptr 2 0), (6, .d (D.int .i64 (0 : Int))), (14, .d (D.sl 6 a0_2)), (15, .d (D.int .i64 w5)), (16, .d (D.int .i64 (0 : Int)))], [(2, .box [.d (D.int .i64 a0_0), .d (D.sl 3 a0_1), .d (D.sl 6 a0_2)])]⟩ k = network_Cost_p6 n a1 a0_2 w5 a0_0 a0_1 (fun h7 h10 w52 => k (.exit 0) ⟨31, [(1, .d (D.sl 1 a1)), (2, .ptr 2 0), (6, .d (D.int .i64 h7)), (14, .d (D.sl 6 a0_2)), (15, .d (D.int .i64 w5)), (16, .d (D.int .i64 h10)), (17, .d (D.bool w52))], [(2, .box [.d (D.int .i64 a0_0), .d (D.sl 3 a0_1), .d (D.sl 6 a0_2)])]⟩) := by
  rw [network_Cost_c6_eq]
  exact network_Cost_r6_eq n a1 a0_2 w5 a0_0 a0_1 k n (0 : Int) (0 : Int)
theorem network_Cost_p7_eq {R : Type} (n : Nat) (a1 : List (List D)) (a0_2 : List (List D)) (w5 : Int) (a0_0 : Int) (a0_1 : List (List D)) (k : Exit → St → Option R) : vexec (network_Cost_C n) n network_Cost_c7 ⟨31, [(1, .d (D.sl 1 a1)), (2, .ptr 2 0), (6, .d (D.int .i64 (0 : Int))), (14, .d (D.sl 6 a0_2)), (15, .d (D.int .i64 w5)), (16, .d (D.int .i64 (0 : Int)))], [(2, .box [.d (D.int .i64 a0_0), .d (D.sl 3 a0_1), .d (D.sl 6 a0_2)])]⟩ k = network_Cost_p7 n a1 a0_2 w5 a0_0 a0_1 (fun w53 w54 w55 => k .normal ⟨31, [(1, .d (D.sl 1 a1)), (2, .ptr 2 0), (6, .d (D.int .i64 w53)), (14, .d (D.sl 6 a0_2)), (15, .d (D.int .i64 w5)), (16, .d (D.int .i64 w54)), (17, .d (D.bool w55))], [(2, .box [.d (D.int .i64 a0_0), .d (D.sl 3 a0_1), .d (D.sl 6 a0_2)])]⟩) := by
  rw [network_Cost_c7_eq]
  unfold network_Cost_p7
  exact (network_Cost_p6_eq n a1 a0_2 w5 a0_0 a0_1 (blockK 0 k)).trans (network_Cost_p6_congr n a1 a0_2 w5 a0_0 a0_1 (fun w53 w54 w55 => rfl))
theorem network_Cost_p8_eq {R : Type} (n : Nat) (a1 : List (List D)) (a0_0 : Int) (a0_1 : List (List D)) (a0_2 : List (List D)) (k : Exit → St → Option R) : vexec (network_Cost_C n) n network_Cost_c8 ⟨31, [(1, .d (D.sl 1 a1)), (2, .ptr 2 0), (6, .d (D.int .i64 (0 : Int)))], [(2, .box [.d (D.int .i64 a0_0), .d (D.sl 3 a0_1), .d (D.sl 6 a0_2)])]⟩ k = network_Cost_p8 n a1 a0_0 a0_1 a0_2 (fun w56 w5 w57 w58 => k .normal ⟨31, [(1, .d (D.sl 1 a1)), (2, .ptr 2 0), (6, .d (D.int .i64 w56)), (14, .d (D.sl 6 a0_2)), (15, .d (D.int .i64 w5)), (16, .d (D.int .i64 w57)), (17, .d (D.bool w58))], [(2, .box [.d (D.int .i64 a0_0), .d (D.sl 3 a0_1), .d (D.sl 6 a0_2)])]⟩) := by
  rw [network_Cost_c8_eq]
  unfold network_Cost_p8
  exact (network_Cost_p4_eq n a1 a0_0 a0_1 a0_2 (seqK (network_Cost_C n) n network_Cost_c7 k)).trans (network_Cost_p4_congr n a1 a0_0 a0_1 a0_2 (fun w5 => network_Cost_p7_eq n a1 a0_2 w5 a0_0 a0_1 k))
theorem network_Cost_p9_eq {R : Type} (n : Nat) (a1 : List (List D)) (w59 : Int) (a0_2 : List (List D)) (w60 : Int) (w61 : Int) (w62 : Bool) (a0_0 : Int) (a0_1 : List (List D)) (k : Exit → St → Option R) : vexec (network_Cost_C n) n network_Cost_c9 ⟨31, [(1, .d (D.sl 1 a1)), (2, .ptr 2 0), (6, .d (D.int .i64 w59)), (14, .d (D.sl 6 a0_2)), (15, .d (D.int .i64 w60)), (16, .d (D.int .i64 w61)), (17, .d (D.bool w62))], [(2, .box [.d (D.int .i64 a0_0), .d (D.sl 3 a0_1), .d (D.sl 6 a0_2)])]⟩ k = network_Cost_p9 n a1 w59 a0_2 w60 w61 w62 a0_0 a0_1 (k .ret ⟨31, [(4, .d (D.int .i64 w59)), (5, .d (D.int .i64 (0 : Int)))], []⟩) := by kernel_rfl
theorem network_Cost_p10_eq {R : Type} (n : Nat) (a1 : List (List D)) (a0_0 : Int) (a0_1 : List (List D)) (a0_2 : List (List D)) (k : Exit → St → Option R) : vexec (network_Cost_C n) n network_Cost_c10 ⟨31, [(1, .d (D.sl 1 a1)), (2, .ptr 2 0), (6, .d (D.int .i64 (0 : Int)))], [(2, .box [.d (D.int .i64 a0_0), .d (D.sl 3 a0_1), .d (D.sl 6 a0_2)])]⟩ k = network_Cost_p10 n a1 a0_0 a0_1 a0_2 (fun w59 => k .ret ⟨31, [(4, .d (D.int .i64 w59)), (5, .d (D.int .i64 (0 : Int)))], []⟩) := by
  rw [network_Cost_c10_eq]
  unfold network_Cost_p10
  exact (network_Cost_p8_eq n a1 a0_0 a0_1 a0_2 (seqK (network_Cost_C n) n network_Cost_c9 k)).trans (network_Cost_p8_congr n a1 a0_0 a0_1 a0_2 (fun w59 w60 w61 w62 => network_Cost_p9_eq n a1 w59 a0_2 w60 w61 w62 a0_0 a0_1 k))
theorem network_Cost_p11_eq {R : Type} (n : Nat) (a1 : List (List D)) (w3 : Bool) (a0_0 : Int) (a0_1 : List (List D)) (a0_2 : List (List D)) (k : Exit → St → Option R) : vexec (network_Cost_C n) n network_Cost_c11 ⟨31, [(1, .d (D.sl 1 a1)), (2, .ptr 2 0), (12, .d (D.bool w3))], [(2, .box [.d (D.int .i64 a0_0), .d (D.sl 3 a0_1), .d (D.sl 6 a0_2)])]⟩ k = network_Cost_p11 n a1 w3 a0_0 a0_1 a0_2 (fun w63 => k .ret ⟨31, [(4, .d (D.int .i64 w63)), (5, .d (D.int .i64 (0 : Int)))], []⟩) := by
  rw [network_Cost_c11_eq]
  unfold network_Cost_p11
  exact (network_Cost_p3_eq n a1 w3 a0_0 a0_1 a0_2 (seqK (network_Cost_C n) n network_Cost_c10 k)).trans (network_Cost_p3_congr n a1 w3 a0_0 a0_1 a0_2 (network_Cost_p10_eq n a1 a0_0 a0_1 a0_2 k))
theorem network_Cost_p12_eq {R : Type} (n : Nat) (a1 : List (List D)) (a0_0 : Int) (a0_1 : List (List D)) (a0_2 : List (List D)) (k : Exit → St → Option R) : vexec (network_Cost_C n) n network_Cost_c12 ⟨31, [(1, .d (D.sl 1 a1)), (2, .ptr 2 0)], [(2, .box [.d (D.int .i64 a0_0), .d (D.sl 3 a0_1), .d (D.sl 6 a0_2)])]⟩ k = network_Cost_p12 n a1 a0_0 a0_1 a0_2 (fun z65 z66 => k .ret ⟨31, [(4, .d (D.int .i64 z65)), (5, .d (D.int .i64 z66))], []⟩) := by
  rw [network_Cost_c12_eq]
  unfold network_Cost_p12
  exact (network_Cost_p2_eq n a1 a0_0 a0_1 a0_2 (seqK (network_Cost_C n) n network_Cost_c11 k)).trans (network_Cost_p2_congr n a1 a0_0 a0_1 a0_2 (rfl) (fun w3 => network_Cost_p11_eq n a1 w3 a0_0 a0_1 a0_2 k))
theorem network_Cost_p13_eq {R : Type} (n : Nat) (a0_0 : Int) (a0_1 : List (List D)) (a0_2 : List (List D)) (a1 : List (List D)) (k : Exit → St → Option R) : vexec (network_Cost_C n) n network_Cost_c0 ⟨31, [(0, .ag [.d (D.int .i64 a0_0), .d (D.sl 3 a0_1), .d (D.sl 6 a0_2)]), (1, .d (D.sl 1 a1))], []⟩ k = network_Cost_p13 n a0_0 a0_1 a0_2 a1 (fun w67 w68 => k .ret ⟨31, [(4, .d (D.int .i64 w67)), (5, .d (D.int .i64 w68))], []⟩) := by
  rw [network_Cost_c0_eq]
  unfold network_Cost_p13
  exact (network_Cost_p1_eq n a0_0 a0_1 a0_2 a1 (seqK (network_Cost_C n) n network_Cost_c12 k)).trans (network_Cost_p1_congr n a0_0 a0_1 a0_2 a1 (network_Cost_p12_eq n a1 a0_0 a0_1 a0_2 k))
theorem network_Cost_vfn {R : Type} (n : Nat) (a0_0 : Int) (a0_1 : List (List D)) (a0_2 : List (List D)) (a1 : List (List D)) (K : AV → Option R) : vfn (network_Cost_C n) n Try.f18 [.ag [.d (D.int .i64 a0_0), .d (D.sl 3 a0_1), .d (D.sl 6 a0_2)], .d (D.sl 1 a1)] [] (retF [[0], [0]] K) = network_Cost n a0_0 a0_1 a0_2 a1 (fun r0 r1 => K (.tup [.d (D.int .i64 r0), .d (D.int .i64 r1)])) :=
  (show vfn (network_Cost_C n) n Try.f18 [.ag [.d (D.int .i64 a0_0), .d (D.sl 3 a0_1), .d (D.sl 6 a0_2)], .d (D.sl 1 a1)] [] (retF [[0], [0]] K) = vexec (network_Cost_C n) n network_Cost_c0 ⟨31, [(0, .ag [.d (D.int .i64 a0_0), .d (D.sl 3 a0_1), .d (D.sl 6 a0_2)]), (1, .d (D.sl 1 a1))], []⟩ (retX network_Cost_tt [.tmp 4, .tmp 5] (retF [[0], [0]] K)) from vfn_at (by kernel_rfl) (by kernel_rfl) rfl (by kernel_rfl) rfl (by kernel_rfl) rfl).trans ((network_Cost_p13_eq n a0_0 a0_1 a0_2 a1 (retX network_Cost_tt [.tmp 4, .tmp 5] (retF [[0], [0]] K))).trans (by kernel_rfl))
def network_Cost_K : AV → Option (Int × Int) := fun av => match av with
  | .tup [.d (D.int .i64 r0), .d (D.int .i64 r1)] => some (r0, r1)
  | _ => none
def network_Cost_e (n : Nat) : Entry := fun _ _ g avs _ k => match avs with
  | [c0, c1] => 
    prG c0 fun l0 => (match l0 with
    | [c0_0, c0_1, c0_2] => prI g .i64 c0_0 fun a0_0 => prS g 3 c0_1 fun a0_1 => prS g 6 c0_2 fun a0_2 => prS g 1 c1 fun a1 => 
    gb g (network_Cost n a0_0 a0_1 a0_2 a1 (fun r0 r1 => some (r0, r1))) (0, 0) fun r => k ⟨.tup [.d (D.int .i64 r.1), .d (D.int .i64 r.2)], [], []⟩
    | _ => none)
  | _ => none
theorem network_Cost_ok (n : Nat) : EntryOK Try.prog 18 (network_Cost_e n) := by
  intro R site g avs hl k r h
  unfold network_Cost_e at h
  split at h
  rotate_left
  · cases h
  replace h := prG_some h
  obtain ⟨l0, h, e0⟩ := h
  subst e0
  split at h
  rotate_left
  · cases h
  replace h := prI_some h
  obtain ⟨a0_0, h, le0⟩ := h
  replace h := prS_some h
  obtain ⟨a0_1, h, le1⟩ := h
  replace h := prS_some h
  obtain ⟨a0_2, h, le2⟩ := h
  replace h := prS_some h
  obtain ⟨a1, h, le3⟩ := h
  replace h := gb_some h
  obtain ⟨res, h, hr⟩ := h
  refine ⟨_, h, fun hg => CallOK.conv (avs' := [.ag [.d (D.int .i64 a0_0), .d (D.sl 3 a0_1), .d (D.sl 6 a0_2)], .d (D.sl 1 a1)]) (.cons (.ag (.cons (le0 hg) (.cons (le1 hg) (.cons (le2 hg) (.nil))))) (.cons (le3 hg) (.nil))) (callOK_fix (K := network_Cost_K) (res := res) (network_Cost_VC n) (fn := Try.f18) (n := n) (by kernel_rfl) (by kernel_rfl) (by kernel_rfl) (ss := [[0], [0]]) rfl ?_ ?_)⟩
  · exact (network_Cost_vfn n a0_0 a0_1 a0_2 a1 network_Cost_K).trans (hr hg)
  · intro x hx
    unfold network_Cost_K at hx
    split at hx
    · injection hx with hx; subst hx; rfl
    · cases hx
end Go.Vx
/-
  ref11_Cost: the interpreter computes the pure function
-/
set_option linter.unusedVariables false
set_option linter.unusedSimpArgs false
set_option maxRecDepth 100000
namespace Go.Vx
open Go.Proofs
noncomputable def ref11_Cost_c0 : Code := bodyOf Try.f31
noncomputable def ref11_Cost_c1 : Code := cL (bodyOf Try.f31)
noncomputable def ref11_Cost_c2 : Code := cL (cR (bodyOf Try.f31))
noncomputable def ref11_Cost_c3 : Code := cL (cR (cR (bodyOf Try.f31)))
noncomputable def ref11_Cost_c4 : Code := cL (cL (cR (cR (cR (bodyOf Try.f31)))))
noncomputable def ref11_Cost_c5 : Code := cB (cB (cR (cL (cR (cR (cR (bodyOf Try.f31)))))))
noncomputable def ref11_Cost_c6 : Code := cB (cR (cL (cR (cR (cR (bodyOf Try.f31))))))
noncomputable def ref11_Cost_c7 : Code := cR (cL (cR (cR (cR (bodyOf Try.f31)))))
noncomputable def ref11_Cost_c8 : Code := cL (cR (cR (cR (bodyOf Try.f31))))
noncomputable def ref11_Cost_c9 : Code := cR (cR (cR (cR (bodyOf Try.f31))))
noncomputable def ref11_Cost_c10 : Code := cR (cR (cR (bodyOf Try.f31)))
noncomputable def ref11_Cost_c11 : Code := cR (cR (bodyOf Try.f31))
noncomputable def ref11_Cost_c12 : Code := cR (bodyOf Try.f31)
theorem ref11_Cost_c6_eq : ref11_Cost_c6 = .loop ref11_Cost_c5 := by kernel_rfl
theorem ref11_Cost_c7_eq : ref11_Cost_c7 = .block 0 ref11_Cost_c6 := by kernel_rfl
theorem ref11_Cost_c8_eq : ref11_Cost_c8 = .seq ref11_Cost_c4 ref11_Cost_c7 := by kernel_rfl
theorem ref11_Cost_c10_eq : ref11_Cost_c10 = .seq ref11_Cost_c8 ref11_Cost_c9 := by kernel_rfl
theorem ref11_Cost_c11_eq : ref11_Cost_c11 = .seq ref11_Cost_c3 ref11_Cost_c10 := by kernel_rfl
theorem ref11_Cost_c12_eq : ref11_Cost_c12 = .seq ref11_Cost_c2 ref11_Cost_c11 := by kernel_rfl
theorem ref11_Cost_c0_eq : ref11_Cost_c0 = .seq ref11_Cost_c1 ref11_Cost_c12 := by kernel_rfl
def ref11_Cost_tt : TT := [(3, ⟨.int .i64, 1, 8, [.int .i64 0], [.int .i64 0], [], none⟩), (24, ⟨.sl 31 6, 1, 24, [.slice none 0 0], [.sl 6 []], [], none⟩), (26, ⟨.struct, 3, 56, [.int .i64 0, .slice none 0 0, .slice none 0 0], [.int .i64 0, .sl 3 [], .sl 6 []], [(0, 3), (1, 23), (2, 24)], none⟩), (31, ⟨.struct, 6, 48, [.int .i64 0, .int .i64 0, .int .i64 0, .int .i64 0, .int .i64 0, .int .i64 0], [.int .i64 0, .int .i64 0, .int .i64 0, .int .i64 0, .int .i64 0, .int .i64 0], [(0, 3), (1, 3), (2, 3), (3, 3), (4, 3), (5, 3)], some [.int .i64, .int .i64, .int .i64, .int .i64, .int .i64, .int .i64]⟩)]
theorem ref11_Cost_tt_eq : mkTT Try.prog [3, 24, 26, 31] = ref11_Cost_tt := by kernel_rfl
def ref11_Cost_cfg : List (Nat × Cfg) := [(0, ⟨[1, 2], [(2, 2)], [], [], []⟩), (1, ⟨[1, 2, 11], [(2, 2)], [], [], []⟩), (2, ⟨[4, 5], [], [], [], []⟩), (3, ⟨[1, 2, 6], [(2, 2)], [], [], []⟩), (4, ⟨[1, 2, 6, 7], [(2, 2)], [], [], []⟩), (5, ⟨[1, 2, 6, 7, 16], [(2, 2)], [], [], []⟩), (6, ⟨[1, 2, 6, 7], [(2, 2)], [], [], []⟩), (7, ⟨[1, 2, 6, 7], [(2, 2)], [], [], []⟩), (8, ⟨[4, 5], [], [], [], []⟩)]
def ref11_Cost_C (n : Nat) : VC := ⟨specOf [(32, ref11_Good_e n), (37, ref11_Lasts_e n)], ref11_Cost_tt, ref11_Cost_cfg⟩
theorem ref11_Cost_ents (n : Nat) : EntsOK Try.prog [(32, ref11_Good_e n), (37, ref11_Lasts_e n)] := ⟨ref11_Good_ok n, ⟨ref11_Lasts_ok n, trivial⟩⟩
theorem ref11_Cost_VC (n : Nat) : VCOk Try.prog (ref11_Cost_C n) := ⟨specOf_ok (ref11_Cost_ents n), (ref11_Cost_tt_eq ▸ mkTT_ok _ : TOk Try.prog ref11_Cost_tt), by kernel_rfl⟩
theorem ref11_Cost_p1_congr {R : Type} (n : Nat) (a0_0 : Int) (a0_1 : List (List D)) (a0_2 : List (List D)) (a1 : List (List D)) {k0 kk0 : Option R} (hq0 : k0 = kk0) : ref11_Cost_p1 n a0_0 a0_1 a0_2 a1 k0 = ref11_Cost_p1 n a0_0 a0_1 a0_2 a1 kk0 := by
  obtain rfl : k0 = kk0 := hq0
  rfl
theorem ref11_Cost_p2_congr {R : Type} (n : Nat) (a1 : List (List D)) (a0_0 : Int) (a0_1 : List (List D)) (a0_2 : List (List D)) {k0 kk0 : Option R} {k1 kk1 : Bool → Option R} (hq0 : k0 = kk0) (hq1 : ∀ x0, k1 x0 = kk1 x0) : ref11_Cost_p2 n a1 a0_0 a0_1 a0_2 k0 k1 = ref11_Cost_p2 n a1 a0_0 a0_1 a0_2 kk0 kk1 := by
  obtain rfl : k0 = kk0 := hq0
  obtain rfl : k1 = kk1 := funext fun x0 => hq1 x0
  rfl
theorem ref11_Cost_p3_congr {R : Type} (n : Nat) (a1 : List (List D)) (w3 : Bool) (a0_0 : Int) (a0_1 : List (List D)) (a0_2 : List (List D)) {k0 kk0 : Option R} (hq0 : k0 = kk0) : ref11_Cost_p3 n a1 w3 a0_0 a0_1 a0_2 k0 = ref11_Cost_p3 n a1 w3 a0_0 a0_1 a0_2 kk0 := by
  obtain rfl : k0 = kk0 := hq0
  rfl
theorem ref11_Cost_p4_congr {R : Type} (n : Nat) (a1 : List (List D)) (a0_0 : Int) (a0_1 : List (List D)) (a0_2 : List (List D)) {k0 kk0 : Option R} (hq0 : k0 = kk0) : ref11_Cost_p4 n a1 a0_0 a0_1 a0_2 k0 = ref11_Cost_p4 n a1 a0_0 a0_1 a0_2 kk0 := by
  obtain rfl : k0 = kk0 := hq0
  rfl
theorem ref11_Cost_p5_congr {R : Type} (n : Nat) (a1 : List (List D)) (h5 : Int) (h6 : Int) (a0_0 : Int) (a0_1 : List (List D)) (a0_2 : List (List D)) {k0 kk0 : Int → Int → Option R} {k1 kk1 : Bool → Option R} (hq0 : ∀ x0 x1, k0 x0 x1 = kk0 x0 x1) (hq1 : ∀ x0, k1 x0 = kk1 x0) : ref11_Cost_p5 n a1 h5 h6 a0_0 a0_1 a0_2 k0 k1 = ref11_Cost_p5 n a1 h5 h6 a0_0 a0_1 a0_2 kk0 kk1 := by
  obtain rfl : k0 = kk0 := funext fun x0 => funext fun x1 => hq0 x0 x1
  obtain rfl : k1 = kk1 := funext fun x0 => hq1 x0
  rfl
theorem ref11_Cost_p6_congr {R : Type} (n : Nat) (a1 : List (List D)) (a0_0 : Int) (a0_1 : List (List D)) (a0_2 : List (List D)) {k0 kk0 : Int → Int → Bool → Option R} (hq0 : ∀ x0 x1 x2, k0 x0 x1 x2 = kk0 x0 x1 x2) : ref11_Cost_p6 n a1 a0_0 a0_1 a0_2 k0 = ref11_Cost_p6 n a1 a0_0 a0_1 a0_2 kk0 := by
  obtain rfl : k0 = kk0 := funext fun x0 => funext fun x1 => funext fun x2 => hq0 x0 x1 x2
  rfl
theorem ref11_Cost_p7_congr {R : Type} (n : Nat) (a1 : List (List D)) (a0_0 : Int) (a0_1 : List (List D)) (a0_2 : List (List D)) {k0 kk0 : Int → Int → Bool → Option R} (hq0 : ∀ x0 x1 x2, k0 x0 x1 x2 = kk0 x0 x1 x2) : ref11_Cost_p7 n a1 a0_0 a0_1 a0_2 k0 = ref11_Cost_p7 n a1 a0_0 a0_1 a0_2 kk0 := by
  obtain rfl : k0 = kk0 := funext fun x0 => funext fun x1 => funext fun x2 => hq0 x0 x1 x2
  rfl
theorem ref11_Cost_p8_congr {R : Type} (n : Nat) (a1 : List (List D)) (a0_0 : Int) (a0_1 : List (List D)) (a0_2 : List (List D)) {k0 kk0 : Int → Int → Bool → Option R} (hq0 : ∀ x0 x1 x2, k0 x0 x1 x2 = kk0 x0 x1 x2) : ref11_Cost_p8 n a1 a0_0 a0_1 a0_2 k0 = ref11_Cost_p8 n a1 a0_0 a0_1 a0_2 kk0 := by
  obtain rfl : k0 = kk0 := funext fun x0 => funext fun x1 => funext fun x2 => hq0 x0 x1 x2
  rfl
theorem ref11_Cost_p9_congr {R : Type} (n : Nat) (a1 : List (List D)) (w59 : Int) (w60 : Int) (w61 : Bool) (a0_0 : Int) (a0_1 : List (List D)) (a0_2 : List (List D)) {k0 kk0 : Option R} (hq0 : k0 = kk0) : ref11_Cost_p9 n a1 w59 w60 w61 a0_0 a0_1 a0_2 k0 = ref11_Cost_p9 n a1 w59 w60 w61 a0_0 a0_1 a0_2 kk0 := by
  obtain rfl : k0 = kk0 := hq0
  rfl
theorem ref11_Cost_p10_congr {R : Type} (n : Nat) (a1 : List (List D)) (a0_0 : Int) (a0_1 : List (List D)) (a0_2 : List (List D)) {k0 kk0 : Int → Option R} (hq0 : ∀ x0, k0 x0 = kk0 x0) : ref11_Cost_p10 n a1 a0_0 a0_1 a0_2 k0 = ref11_Cost_p10 n a1 a0_0 a0_1 a0_2 kk0 := by
  obtain rfl : k0 = kk0 := funext fun x0 => hq0 x0
  rfl
theorem ref11_Cost_p11_congr {R : Type} (n : Nat) (a1 : List (List D)) (w3 : Bool) (a0_0 : Int) (a0_1 : List (List D)) (a0_2 : List (List D)) {k0 kk0 : Int → Option R} (hq0 : ∀ x0, k0 x0 = kk0 x0) : ref11_Cost_p11 n a1 w3 a0_0 a0_1 a0_2 k0 = ref11_Cost_p11 n a1 w3 a0_0 a0_1 a0_2 kk0 := by
  obtain rfl : k0 = kk0 := funext fun x0 => hq0 x0
  rfl
theorem ref11_Cost_p12_congr {R : Type} (n : Nat) (a1 : List (List D)) (a0_0 : Int) (a0_1 : List (List D)) (a0_2 : List (List D)) {k0 kk0 : Int → Int → Option R} (hq0 : ∀ x0 x1, k0 x0 x1 = kk0 x0 x1) : ref11_Cost_p12 n a1 a0_0 a0_1 a0_2 k0 = ref11_Cost_p12 n a1 a0_0 a0_1 a0_2 kk0 := by
  obtain rfl : k0 = kk0 := funext fun x0 => funext fun x1 => hq0 x0 x1
  rfl
theorem ref11_Cost_p13_congr {R : Type} (n : Nat) (a0_0 : Int) (a0_1 : List (List D)) (a0_2 : List (List D)) (a1 : List (List D)) {k0 kk0 : Int → Int → Option R} (hq0 : ∀ x0 x1, k0 x0 x1 = kk0 x0 x1) : ref11_Cost_p13 n a0_0 a0_1 a0_2 a1 k0 = ref11_Cost_p13 n a0_0 a0_1 a0_2 a1 kk0 := by
  obtain rfl : k0 = kk0 := funext fun x0 => funext fun x1 => hq0 x0 x1
  rfl
theorem ref11_Cost_p1_eq {R : Type} (n : Nat) (a0_0 : Int) (a0_1 : List (List D)) (a0_2 : List (List D)) (a1 : List (List D)) (k : Exit → St → Option R) : vexec (ref11_Cost_C n) n ref11_Cost_c1 ⟨37, [(0, .ag [.d (D.int .i64 a0_0), .d (D.sl 3 a0_1), .d (D.sl 6 a0_2)]), (1, .d (D.sl 1 a1))], []⟩ k = ref11_Cost_p1 n a0_0 a0_1 a0_2 a1 (k .normal ⟨37, [(1, .d (D.sl 1 a1)), (2, .ptr 2 0)], [(2, .box [.d (D.int .i64 a0_0), .d (D.sl 3 a0_1), .d (D.sl 6 a0_2)])]⟩) := by kernel_rfl
theorem ref11_Cost_p2_eq {R : Type} (n : Nat) (a1 : List (List D)) (a0_0 : Int) (a0_1 : List (List D)) (a0_2 : List (List D)) (k : Exit → St → Option R) : vexec (ref11_Cost_C n) n ref11_Cost_c2 ⟨37, [(1, .d (D.sl 1 a1)), (2, .ptr 2 0)], [(2, .box [.d (D.int .i64 a0_0), .d (D.sl 3 a0_1), .d (D.sl 6 a0_2)])]⟩ k = ref11_Cost_p2 n a1 a0_0 a0_1 a0_2 (k .ret ⟨37, [(4, .d (D.int .i64 (0 : Int))), (5, .d (D.int .i64 (1 : Int)))], []⟩) (fun z2 => k .normal ⟨37, [(1, .d (D.sl 1 a1)), (2, .ptr 2 0), (11, .d (D.bool z2))], [(2, .box [.d (D.int .i64 a0_0), .d (D.sl 3 a0_1), .d (D.sl 6 a0_2)])]⟩) := by kernel_rfl
theorem ref11_Cost_p3_eq {R : Type} (n : Nat) (a1 : List (List D)) (w3 : Bool) (a0_0 : Int) (a0_1 : List (List D)) (a0_2 : List (List D)) (k : Exit → St → Option R) : vexec (ref11_Cost_C n) n ref11_Cost_c3 ⟨37, [(1, .d (D.sl 1 a1)), (2, .ptr 2 0), (11, .d (D.bool w3))], [(2, .box [.d (D.int .i64 a0_0), .d (D.sl 3 a0_1), .d (D.sl 6 a0_2)])]⟩ k = ref11_Cost_p3 n a1 w3 a0_0 a0_1 a0_2 (k .normal ⟨37, [(1, .d (D.sl 1 a1)), (2, .ptr 2 0), (6, .d (D.int .i64 (0 : Int)))], [(2, .box [.d (D.int .i64 a0_0), .d (D.sl 3 a0_1), .d (D.sl 6 a0_2)])]⟩) := by kernel_rfl
theorem ref11_Cost_p4_eq {R : Type} (n : Nat) (a1 : List (List D)) (a0_0 : Int) (a0_1 : List (List D)) (a0_2 : List (List D)) (k : Exit → St → Option R) : vexec (ref11_Cost_C n) n ref11_Cost_c4 ⟨37, [(1, .d (D.sl 1 a1)), (2, .ptr 2 0), (6, .d (D.int .i64 (0 : Int)))], [(2, .box [.d (D.int .i64 a0_0), .d (D.sl 3 a0_1), .d (D.sl 6 a0_2)])]⟩ k = ref11_Cost_p4 n a1 a0_0 a0_1 a0_2 (k .normal ⟨37, [(1, .d (D.sl 1 a1)), (2, .ptr 2 0), (6, .d (D.int .i64 (0 : Int))), (7, .d (D.int .i64 (0 : Int)))], [(2, .box [.d (D.int .i64 a0_0), .d (D.sl 3 a0_1), .d (D.sl 6 a0_2)])]⟩) := by kernel_rfl
theorem ref11_Cost_p5_eq {R : Type} (n : Nat) (a1 : List (List D)) (h5 : Int) (h6 : Int) (a0_0 : Int) (a0_1 : List (List D)) (a0_2 : List (List D)) (k : Exit → St → Option R) : vexec (ref11_Cost_C n) n ref11_Cost_c5 ⟨37, [(1, .d (D.sl 1 a1)), (2, .ptr 2 0), (6, .d (D.int .i64 h5)), (7, .d (D.int .i64 h6))], [(2, .box [.d (D.int .i64 a0_0), .d (D.sl 3 a0_1), .d (D.sl 6 a0_2)])]⟩ k = ref11_Cost_p5 n a1 h5 h6 a0_0 a0_1 a0_2 (fun z47 z48 => k .normal ⟨37, [(1, .d (D.sl 1 a1)), (2, .ptr 2 0), (6, .d (D.int .i64 z47)), (7, .d (D.int .i64 z48))], [(2, .box [.d (D.int .i64 a0_0), .d (D.sl 3 a0_1), .d (D.sl 6 a0_2)])]⟩) (fun z49 => k (.exit 0) ⟨37, [(1, .d (D.sl 1 a1)), (2, .ptr 2 0), (6, .d (D.int .i64 h5)), (7, .d (D.int .i64 h6)), (16, .d (D.bool z49))], [(2, .box [.d (D.int .i64 a0_0), .d (D.sl 3 a0_1), .d (D.sl 6 a0_2)])]⟩) := by kernel_rfl
theorem ref11_Cost_r6_eq {R : Type} (n : Nat) (a1 : List (List D)) (a0_0 : Int) (a0_1 : List (List D)) (a0_2 : List (List D)) (k : Exit → St → Option R) : ∀ (m : Nat) (h5 : Int) (h6 : Int), loopN (vexec (ref11_Cost_C n) n ref11_Cost_c5) m ⟨37, [(1, .d (D.sl 1 a1)), (2, .ptr 2 0), (6, .d (D.int .i64 h5)), (7, .d (D.int .i64 h6))], [(2, .box [.d (D.int .i64 a0_0), .d (D.sl 3 a0_1), .d (D.sl 6 a0_2)])]⟩ k = ref11_Cost_r6 n a1 a0_0 a0_1 a0_2 (fun h5 h6 w52 => k (.exit 0) ⟨37, [(1, .d (D.sl 1 a1)), (2, .ptr 2 0), (6, .d (D.int .i64 h5)), (7, .d (D.int .i64 h6)), (16, .d (D.bool w52))], [(2, .box [.d (D.int .i64 a0_0), .d (D.sl 3 a0_1), .d (D.sl 6 a0_2)])]⟩) m h5 h6
  | 0, _, _ => rfl
  | m + 1, h5, h6 => (ref11_Cost_p5_eq n a1 h5 h6 a0_0 a0_1 a0_2 (loopK (vexec (ref11_Cost_C n) n ref11_Cost_c5) m k)).trans (ref11_Cost_p5_congr n a1 h5 h6 a0_0 a0_1 a0_2 (fun w50 w51 => ref11_Cost_r6_eq n a1 a0_0 a0_1 a0_2 k m w50 w51) (fun w52 => rfl))
theorem ref11_Cost_p6_eq {R : Type} (n : Nat) (a1 : List (List D)) (a0_0 : Int) (a0_1 : List (List D)) (a0_2 : List (List D)) (k : Exit → St → Option R) : vexec (ref11_Cost_C n) n ref11_Cost_c6 ⟨37, [(1, .d (D.sl 1 a1)), (2, .ptr 2 0), (6, .d (D.int .i64 (0 : Int))), (7, .d (D.int .i64 (0 : Int)))], [(2, .box [.d (D.int .i64 a0_0), .d (D.sl 3 a0_1), .d (D.sl 6 a0_2)])]⟩ k = ref11_Cost_p6 n a1 a0_0 a0_1 a0_2 (fun h5 h6 w52 => k (.exit 0) ⟨37, [(1, .d (D.sl 1 a1)), (2, .ptr 2 0), (6, .d (D.int .i64 h5)), (7, .d (D.int .i64 h6)), (16, .d (D.bool w52))], [(2, .box [.d (D.int .i64 a0_0), .d (D.sl 3 a0_1), .d (D.sl 6 a0_2)])]⟩) := by
  rw [ref11_Cost_c6_eq]
  exact ref11_Cost_r6_eq n a1 a0_0 a0_1 a0_2 k n (0 : Int) (0 : Int)
theorem ref11_Cost_p7_eq {R : Type} (n : Nat) (a1 : List (List D)) (a0_0 : Int) (a0_1 : List (List D)) (a0_2 : List (List D)) (k : Exit → St → Option R) : vexec (ref11_Cost_C n) n ref11_Cost_c7 ⟨37, [(1, .d (D.sl 1 a1)), (2, .ptr 2 0), (6, .d (D.int .i64 (0 : Int))), (7, .d (D.int .i64 (0 : Int)))], [(2, .box [.d (D.int .i64 a0_0), .d (D.sl 3 a0_1), .d (D.sl 6 a0_2)])]⟩ k = ref11_Cost_p7 n a1 a0_0 a0_1 a0_2 (fun w53 w54 w55 => k .normal ⟨37, [(1, .d (D.sl 1 a1)), (2, .ptr 2 0), (6, .d (D.int .i64 w53)), (7, .d (D.int .i64 w54)), (16, .d (D.bool w55))], [(2, .box [.d (D.int .i64 a0_0), .d (D.sl 3 a0_1), .d (D.sl 6 a0_2)])]⟩) := by
  rw [ref11_Cost_c7_eq]
  unfold ref11_Cost_p7
  exact (ref11_Cost_p6_eq n a1 a0_0 a0_1 a0_2 (blockK 0 k)).trans (ref11_Cost_p6_congr n a1 a0_0 a0_1 a0_2 (fun w53 w54 w55 => rfl))
theorem ref11_Cost_p8_eq {R : Type} (n : Nat) (a1 : List (List D)) (a0_0 : Int) (a0_1 : List (List D)) (a0_2 : List (List D)) (k : Exit → St → Option R) : vexec (ref11_Cost_C n) n ref11_Cost_c8 ⟨37, [(1, .d (D.sl 1 a1)), (2, .ptr 2 0), (6, .d (D.int .i64 (0 : Int)))], [(2, .box [.d (D.int .i64 a0_0), .d (D.sl 3 a0_1), .d (D.sl 6 a0_2)])]⟩ k = ref11_Cost_p8 n a1 a0_0 a0_1 a0_2 (fun w56 w57 w58 => k .normal ⟨37, [(1, .d (D.sl 1 a1)), (2, .ptr 2 0), (6, .d (D.int .i64 w56)), (7, .d (D.int .i64 w57)), (16, .d (D.bool w58))], [(2, .box [.d (D.int .i64 a0_0), .d (D.sl 3 a0_1), .d (D.sl 6 a0_2)])]⟩) := by
  rw [ref11_Cost_c8_eq]
  unfold ref11_Cost_p8
  exact (ref11_Cost_p4_eq n a1 a0_0 a0_1 a0_2 (seqK (ref11_Cost_C n) n ref11_Cost_c7 k)).trans (ref11_Cost_p4_congr n a1 a0_0 a0_1 a0_2 (ref11_Cost_p7_eq n a1 a0_0 a0_1 a0_2 k))
theorem ref11_Cost_p9_eq {R : Type} (n : Nat) (a1 : List (List D)) (w59 : Int) (w60 : Int) (w61 : Bool) (a0_0 : Int) (a0_1 : List (List D)) (a0_2 : List (List D)) (k : Exit → St → Option R) : vexec (ref11_Cost_C n) n ref11_Cost_c9 ⟨37, [(1, .d (D.sl 1 a1)), (2, .ptr 2 0), (6, .d (D.int .i64 w59)), (7, .d (D.int .i64 w60)), (16, .d (D.bool w61))], [(2, .box [.d (D.int .i64 a0_0), .d (D.sl 3 a0_1), .d (D.sl 6 a0_2)])]⟩ k = ref11_Cost_p9 n a1 w59 w60 w61 a0_0 a0_1 a0_2 (k .ret ⟨37, [(4, .d (D.int .i64 w59)), (5, .d (D.int .i64 (0 : Int)))], []⟩) := by kernel_rfl
theorem ref11_Cost_p10_eq {R : Type} (n : Nat) (a1 : List (List D)) (a0_0 : Int) (a0_1 : List (List D)) (a0_2 : List (List D)) (k : Exit → St → Option R) : vexec (ref11_Cost_C n) n ref11_Cost_c10 ⟨37, [(1, .d (D.sl 1 a1)), (2, .ptr 2 0), (6, .d (D.int .i64 (0 : Int)))], [(2, .box [.d (D.int .i64 a0_0), .d (D.sl 3 a0_1), .d (D.sl 6 a0_2)])]⟩ k = ref11_Cost_p10 n a1 a0_0 a0_1 a0_2 (fun w59 => k .ret ⟨37, [(4, .d (D.int .i64 w59)), (5, .d (D.int .i64 (0 : Int)))], []⟩) := by
  rw [ref11_Cost_c10_eq]
  unfold ref11_Cost_p10
  exact (ref11_Cost_p8_eq n a1 a0_0 a0_1 a0_2 (seqK (ref11_Cost_C n) n ref11_Cost_c9 k)).trans (ref11_Cost_p8_congr n a1 a0_0 a0_1 a0_2 (fun w59 w60 w61 => ref11_Cost_p9_eq n a1 w59 w60 w61 a0_0 a0_1 a0_2 k))
theorem ref11_Cost_p11_eq {R : Type} (n : Nat) (a1 : List (List D)) (w3 : Bool) (a0_0 : Int) (a0_1 : List (List D)) (a0_2 : List (List D)) (k : Exit → St → Option R) : vexec (ref11_Cost_C n) n ref11_Cost_c11 ⟨37, [(1, .d (D.sl 1 a1)), (2, .ptr 2 0), (11, .d (D.bool w3))], [(2, .box [.d (D.int .i64 a0_0), .d (D.sl 3 a0_1), .d (D.sl 6 a0_2)])]⟩ k = ref11_Cost_p11 n a1 w3 a0_0 a0_1 a0_2 (fun w62 => k .ret ⟨37, [(4, .d (D.int .i64 w62)), (5, .d (D.int .i64 (0 : Int)))], []⟩) := by
  rw [ref11_Cost_c11_eq]
  unfold ref11_Cost_p11
  exact (ref11_Cost_p3_eq n a1 w3 a0_0 a0_1 a0_2 (seqK (ref11_Cost_C n) n ref11_Cost_c10 k)).trans (ref11_Cost_p3_congr n a1 w3 a0_0 a0_1 a0_2 (ref11_Cost_p10_eq n a1 a0_0 a0_1 a0_2 k))
theorem ref11_Cost_p12_eq {R : Type} (n : Nat) (a1 : List (List D)) (a0_0 : Int) (a0_1 : List (List D)) (a0_2 : List (List D)) (k : Exit → St → Option R) : vexec (ref11_Cost_C n) n ref11_Cost_c12 ⟨37, [(1, .d (D.sl 1 a1)), (2, .ptr 2 0)], [(2, .box [.d (D.int .i64 a0_0), .d (D.sl 3 a0_1), .d (D.sl 6 a0_2)])]⟩ k = ref11_Cost_p12 n a1 a0_0 a0_1 a0_2 (fun z64 z65 => k .ret ⟨37, [(4, .d (D.int .i64 z64)), (5, .d (D.int .i64 z65))], []⟩) := by
  rw [ref11_Cost_c12_eq]
  unfold ref11_Cost_p12
  exact (ref11_Cost_p2_eq n a1 a0_0 a0_1 a0_2 (seqK (ref11_Cost_C n) n ref11_Cost_c11 k)).trans (ref11_Cost_p2_congr n a1 a0_0 a0_1 a0_2 (rfl) (fun w3 => ref11_Cost_p11_eq n a1 w3 a0_0 a0_1 a0_2 k))
theorem ref11_Cost_p13_eq {R : Type} (n : Nat) (a0_0 : Int) (a0_1 : List (List D)) (a0_2 : List (List D)) (a1 : List (List D)) (k : Exit → St → Option R) : vexec (ref11_Cost_C n) n ref11_Cost_c0 ⟨37, [(0, .ag [.d (D.int .i64 a0_0), .d (D.sl 3 a0_1), .d (D.sl 6 a0_2)]), (1, .d (D.sl 1 a1))], []⟩ k = ref11_Cost_p13 n a0_0 a0_1 a0_2 a1 (fun w66 w67 => k .ret ⟨37, [(4, .d (D.int .i64 w66)), (5, .d (D.int .i64 w67))], []⟩) := by
  rw [ref11_Cost_c0_eq]
  unfold ref11_Cost_p13
  exact (ref11_Cost_p1_eq n a0_0 a0_1 a0_2 a1 (seqK (ref11_Cost_C n) n ref11_Cost_c12 k)).trans (ref11_Cost_p1_congr n a0_0 a0_1 a0_2 a1 (ref11_Cost_p12_eq n a1 a0_0 a0_1 a0_2 k))
theorem ref11_Cost_vfn {R : Type} (n : Nat) (a0_0 : Int) (a0_1 : List (List D)) (a0_2 : List (List D)) (a1 : List (List D)) (K : AV → Option R) : vfn (ref11_Cost_C n) n Try.f31 [.ag [.d (D.int .i64 a0_0), .d (D.sl 3 a0_1), .d (D.sl 6 a0_2)], .d (D.sl 1 a1)] [] (retF [[0], [0]] K) = ref11_Cost n a0_0 a0_1 a0_2 a1 (fun r0 r1 => K (.tup [.d (D.int .i64 r0), .d (D.int .i64 r1)])) :=
  (show vfn (ref11_Cost_C n) n Try.f31 [.ag [.d (D.int .i64 a0_0), .d (D.sl 3 a0_1), .d (D.sl 6 a0_2)], .d (D.sl 1 a1)] [] (retF [[0], [0]] K) = vexec (ref11_Cost_C n) n ref11_Cost_c0 ⟨37, [(0, .ag [.d (D.int .i64 a0_0), .d (D.sl 3 a0_1), .d (D.sl 6 a0_2)]), (1, .d (D.sl 1 a1))], []⟩ (retX ref11_Cost_tt [.tmp 4, .tmp 5] (retF [[0], [0]] K)) from vfn_at (by kernel_rfl) (by kernel_rfl) rfl (by kernel_rfl) rfl (by kernel_rfl) rfl).trans ((ref11_Cost_p13_eq n a0_0 a0_1 a0_2 a1 (retX ref11_Cost_tt [.tmp 4, .tmp 5] (retF [[0], [0]] K))).trans (by kernel_rfl))
def ref11_Cost_K : AV → Option (Int × Int) := fun av => match av with
  | .tup [.d (D.int .i64 r0), .d (D.int .i64 r1)] => some (r0, r1)
  | _ => none
def ref11_Cost_e (n : Nat) : Entry := fun _ _ g avs _ k => match avs with
  | [c0, c1] => 
    prG c0 fun l0 => (match l0 with
    | [c0_0, c0_1, c0_2] => prI g .i64 c0_0 fun a0_0 => prS g 3 c0_1 fun a0_1 => prS g 6 c0_2 fun a0_2 => prS g 1 c1 fun a1 => 
    gb g (ref11_Cost n a0_0 a0_1 a0_2 a1 (fun r0 r1 => some (r0, r1))) (0, 0) fun r => k ⟨.tup [.d (D.int .i64 r.1), .d (D.int .i64 r.2)], [], []⟩
    | _ => none)
  | _ => none
theorem ref11_Cost_ok (n : Nat) : EntryOK Try.prog 31 (ref11_Cost_e n) := by
  intro R site g avs hl k r h
  unfold ref11_Cost_e at h
  split at h
  rotate_left
  · cases h
  replace h := prG_some h
  obtain ⟨l0, h, e0⟩ := h
  subst e0
  split at h
  rotate_left
  · cases h
  replace h := prI_some h
  obtain ⟨a0_0, h, le0⟩ := h
  replace h := prS_some h
  obtain ⟨a0_1, h, le1⟩ := h
  replace h := prS_some h
  obtain ⟨a0_2, h, le2⟩ := h
  replace h := prS_some h
  obtain ⟨a1, h, le3⟩ := h
  replace h := gb_some h
  obtain ⟨res, h, hr⟩ := h
  refine ⟨_, h, fun hg => CallOK.conv (avs' := [.ag [.d (D.int .i64 a0_0), .d (D.sl 3 a0_1), .d (D.sl 6 a0_2)], .d (D.sl 1 a1)]) (.cons (.ag (.cons (le0 hg) (.cons (le1 hg) (.cons (le2 hg) (.nil))))) (.cons (le3 hg) (.nil))) (callOK_fix (K := ref11_Cost_K) (res := res) (ref11_Cost_VC n) (fn := Try.f31) (n := n) (by kernel_rfl) (by kernel_rfl) (by kernel_rfl) (ss := [[0], [0]]) rfl ?_ ?_)⟩
  · exact (ref11_Cost_vfn n a0_0 a0_1 a0_2 a1 ref11_Cost_K).trans (hr hg)
  · intro x hx
    unfold ref11_Cost_K at hx
    split at hx
    · injection hx with hx; subst hx; rfl
    · cases hx
end Go.Vx
/-
  network_Duration: the interpreter computes the pure function
-/
set_option linter.unusedVariables false
set_option linter.unusedSimpArgs false
set_option maxRecDepth 100000
namespace Go.Vx
open Go.Proofs
noncomputable def network_Duration_c0 : Code := bodyOf Try.f15
def network_Duration_tt : TT := [(3, ⟨.int .i64, 1, 8, [.int .i64 0], [.int .i64 0], [], none⟩), (24, ⟨.sl 31 6, 1, 24, [.slice none 0 0], [.sl 6 []], [], none⟩), (26, ⟨.struct, 3, 56, [.int .i64 0, .slice none 0 0, .slice none 0 0], [.int .i64 0, .sl 3 [], .sl 6 []], [(0, 3), (1, 23), (2, 24)], none⟩), (31, ⟨.struct, 6, 48, [.int .i64 0, .int .i64 0, .int .i64 0, .int .i64 0, .int .i64 0, .int .i64 0], [.int .i64 0, .int .i64 0, .int .i64 0, .int .i64 0, .int .i64 0, .int .i64 0], [(0, 3), (1, 3), (2, 3), (3, 3), (4, 3), (5, 3)], some [.int .i64, .int .i64, .int .i64, .int .i64, .int .i64, .int .i64]⟩)]
theorem network_Duration_tt_eq : mkTT Try.prog [3, 24, 26, 31] = network_Duration_tt := by kernel_rfl
def network_Duration_cfg : List (Nat × Cfg) := [(0, ⟨[1, 2, 3], [(3, 3)], [], [], []⟩), (1, ⟨[1, 2, 3, 21], [(3, 3)], [], [], []⟩), (2, ⟨[6], [], [], [], []⟩), (3, ⟨[6], [], [], [], []⟩)]
def network_Duration_C (n : Nat) : VC := ⟨specOf [(27, network_Good_e n), (28, network_duration_e n)], network_Duration_tt, network_Duration_cfg⟩
theorem network_Duration_ents (n : Nat) : EntsOK Try.prog [(27, network_Good_e n), (28, network_duration_e n)] := ⟨network_Good_ok n, ⟨network_duration_ok n, trivial⟩⟩
theorem network_Duration_VC (n : Nat) : VCOk Try.prog (network_Duration_C n) := ⟨specOf_ok (network_Duration_ents n), (network_Duration_tt_eq ▸ mkTT_ok _ : TOk Try.prog network_Duration_tt), by kernel_rfl⟩
theorem network_Duration_p1_congr {R : Type} (n : Nat) (a0_0 : Int) (a0_1 : List (List D)) (a0_2 : List (List D)) (a1 : List (List D)) (a2 : Int) {k0 kk0 : Int → Option R} (hq0 : ∀ x0, k0 x0 = kk0 x0) : network_Duration_p1 n a0_0 a0_1 a0_2 a1 a2 k0 = network_Duration_p1 n a0_0 a0_1 a0_2 a1 a2 kk0 := by
  obtain rfl : k0 = kk0 := funext fun x0 => hq0 x0
  rfl
theorem network_Duration_p1_eq {R : Type} (n : Nat) (a0_0 : Int) (a0_1 : List (List D)) (a0_2 : List (List D)) (a1 : List (List D)) (a2 : Int) (k : Exit → St → Option R) : vexec (network_Duration_C n) n network_Duration_c0 ⟨30, [(0, .ag [.d (D.int .i64 a0_0), .d (D.sl 3 a0_1), .d (D.sl 6 a0_2)]), (1, .d (D.sl 1 a1)), (2, .d (D.int .i64 a2))], []⟩ k = network_Duration_p1 n a0_0 a0_1 a0_2 a1 a2 (fun z16 => k .ret ⟨30, [(6, .d (D.int .i64 z16))], []⟩) := by kernel_rfl
theorem network_Duration_vfn {R : Type} (n : Nat) (a0_0 : Int) (a0_1 : List (List D)) (a0_2 : List (List D)) (a1 : List (List D)) (a2 : Int) (K : AV → Option R) : vfn (network_Duration_C n) n Try.f15 [.ag [.d (D.int .i64 a0_0), .d (D.sl 3 a0_1), .d (D.sl 6 a0_2)], .d (D.sl 1 a1), .d (D.int .i64 a2)] [] (retF [[0]] K) = network_Duration n a0_0 a0_1 a0_2 a1 a2 (fun r0 => K (.d (D.int .i64 r0))) :=
  (show vfn (network_Duration_C n) n Try.f15 [.ag [.d (D.int .i64 a0_0), .d (D.sl 3 a0_1), .d (D.sl 6 a0_2)], .d (D.sl 1 a1), .d (D.int .i64 a2)] [] (retF [[0]] K) = vexec (network_Duration_C n) n network_Duration_c0 ⟨30, [(0, .ag [.d (D.int .i64 a0_0), .d (D.sl 3 a0_1), .d (D.sl 6 a0_2)]), (1, .d (D.sl 1 a1)), (2, .d (D.int .i64 a2))], []⟩ (retX network_Duration_tt [.tmp 6] (retF [[0]] K)) from vfn_at (by kernel_rfl) (by kernel_rfl) rfl (by kernel_rfl) rfl (by kernel_rfl) rfl).trans ((network_Duration_p1_eq n a0_0 a0_1 a0_2 a1 a2 (retX network_Duration_tt [.tmp 6] (retF [[0]] K))).trans (by kernel_rfl))
def network_Duration_K : AV → Option (Int) := fun av => match av with
  | .d (D.int .i64 r0) => some r0
  | _ => none
def network_Duration_e (n : Nat) : Entry := fun _ _ g avs _ k => match avs with
  | [c0, c1, c2] => 
    prG c0 fun l0 => (match l0 with
    | [c0_0, c0_1, c0_2] => prI g .i64 c0_0 fun a0_0 => prS g 3 c0_1 fun a0_1 => prS g 6 c0_2 fun a0_2 => prS g 1 c1 fun a1 => prI g .i64 c2 fun a2 => 
    gb g (network_Duration n a0_0 a0_1 a0_2 a1 a2 some) 0 fun r => k ⟨.d (D.int .i64 r), [], []⟩
    | _ => none)
  | _ => none
theorem network_Duration_ok (n : Nat) : EntryOK Try.prog 15 (network_Duration_e n) := by
  intro R site g avs hl k r h
  unfold network_Duration_e at h
  split at h
  rotate_left
  · cases h
  replace h := prG_some h
  obtain ⟨l0, h, e0⟩ := h
  subst e0
  split at h
  rotate_left
  · cases h
  replace h := prI_some h
  obtain ⟨a0_0, h, le0⟩ := h
  replace h := prS_some h
  obtain ⟨a0_1, h, le1⟩ := h
  replace h := prS_some h
  obtain ⟨a0_2, h, le2⟩ := h
  replace h := prS_some h
  obtain ⟨a1, h, le3⟩ := h
  replace h := prI_some h
  obtain ⟨a2, h, le4⟩ := h
  replace h := gb_some h
  obtain ⟨res, h, hr⟩ := h
  refine ⟨_, h, fun hg => CallOK.conv (avs' := [.ag [.d (D.int .i64 a0_0), .d (D.sl 3 a0_1), .d (D.sl 6 a0_2)], .d (D.sl 1 a1), .d (D.int .i64 a2)]) (.cons (.ag (.cons (le0 hg) (.cons (le1 hg) (.cons (le2 hg) (.nil))))) (.cons (le3 hg) (.cons (le4 hg) (.nil)))) (callOK_fix (K := network_Duration_K) (res := res) (network_Duration_VC n) (fn := Try.f15) (n := n) (by kernel_rfl) (by kernel_rfl) (by kernel_rfl) (ss := [[0]]) rfl ?_ ?_)⟩
  · exact (network_Duration_vfn n a0_0 a0_1 a0_2 a1 a2 network_Duration_K).trans (hr hg)
  · intro x hx
    unfold network_Duration_K at hx
    split at hx
    · injection hx with hx; subst hx; rfl
    · cases hx
end Go.Vx
/-
  ref11_Duration: the interpreter computes the pure function
-/
set_option linter.unusedVariables false
set_option linter.unusedSimpArgs false
set_option maxRecDepth 100000
namespace Go.Vx
open Go.Proofs
noncomputable def ref11_Duration_c0 : Code := bodyOf Try.f33
def ref11_Duration_tt : TT := [(3, ⟨.int .i64, 1, 8, [.int .i64 0], [.int .i64 0], [], none⟩), (24, ⟨.sl 31 6, 1, 24, [.slice none 0 0], [.sl 6 []], [], none⟩), (26, ⟨.struct, 3, 56, [.int .i64 0, .slice none 0 0, .slice none 0 0], [.int .i64 0, .sl 3 [], .sl 6 []], [(0, 3), (1, 23), (2, 24)], none⟩), (31, ⟨.struct, 6, 48, [.int .i64 0, .int .i64 0, .int .i64 0, .int .i64 0, .int .i64 0, .int .i64 0], [.int .i64 0, .int .i64 0, .int .i64 0, .int .i64 0, .int .i64 0, .int .i64 0], [(0, 3), (1, 3), (2, 3), (3, 3), (4, 3), (5, 3)], some [.int .i64, .int .i64, .int .i64, .int .i64, .int .i64, .int .i64]⟩)]
theorem ref11_Duration_tt_eq : mkTT Try.prog [3, 24, 26, 31] = ref11_Duration_tt := by kernel_rfl
def ref11_Duration_cfg : List (Nat × Cfg) := [(0, ⟨[1, 2, 3], [(3, 3)], [], [], []⟩), (1, ⟨[1, 2, 3, 19], [(3, 3)], [], [], []⟩), (2, ⟨[6], [], [], [], []⟩), (3, ⟨[6], [], [], [], []⟩)]
def ref11_Duration_C (n : Nat) : VC := ⟨specOf [(32, ref11_Good_e n), (26, ref11_in_e n), (37, ref11_Lasts_e n)], ref11_Duration_tt, ref11_Duration_cfg⟩
theorem ref11_Duration_ents (n : Nat) : EntsOK Try.prog [(32, ref11_Good_e n), (26, ref11_in_e n), (37, ref11_Lasts_e n)] := ⟨ref11_Good_ok n, ⟨ref11_in_ok n, ⟨ref11_Lasts_ok n, trivial⟩⟩⟩
theorem ref11_Duration_VC (n : Nat) : VCOk Try.prog (ref11_Duration_C n) := ⟨specOf_ok (ref11_Duration_ents n), (ref11_Duration_tt_eq ▸ mkTT_ok _ : TOk Try.prog ref11_Duration_tt), by kernel_rfl⟩
theorem ref11_Duration_p1_congr {R : Type} (n : Nat) (a0_0 : Int) (a0_1 : List (List D)) (a0_2 : List (List D)) (a1 : List (List D)) (a2 : Int) {k0 kk0 : Int → Option R} (hq0 : ∀ x0, k0 x0 = kk0 x0) : ref11_Duration_p1 n a0_0 a0_1 a0_2 a1 a2 k0 = ref11_Duration_p1 n a0_0 a0_1 a0_2 a1 a2 kk0 := by
  obtain rfl : k0 = kk0 := funext fun x0 => hq0 x0
  rfl
theorem ref11_Duration_p1_eq {R : Type} (n : Nat) (a0_0 : Int) (a0_1 : List (List D)) (a0_2 : List (List D)) (a1 : List (List D)) (a2 : Int) (k : Exit → St → Option R) : vexec (ref11_Duration_C n) n ref11_Duration_c0 ⟨28, [(0, .ag [.d (D.int .i64 a0_0), .d (D.sl 3 a0_1), .d (D.sl 6 a0_2)]), (1, .d (D.sl 1 a1)), (2, .d (D.int .i64 a2))], []⟩ k = ref11_Duration_p1 n a0_0 a0_1 a0_2 a1 a2 (fun z17 => k .ret ⟨28, [(6, .d (D.int .i64 z17))], []⟩) := by kernel_rfl
theorem ref11_Duration_vfn {R : Type} (n : Nat) (a0_0 : Int) (a0_1 : List (List D)) (a0_2 : List (List D)) (a1 : List (List D)) (a2 : Int) (K : AV → Option R) : vfn (ref11_Duration_C n) n Try.f33 [.ag [.d (D.int .i64 a0_0), .d (D.sl 3 a0_1), .d (D.sl 6 a0_2)], .d (D.sl 1 a1), .d (D.int .i64 a2)] [] (retF [[0]] K) = ref11_Duration n a0_0 a0_1 a0_2 a1 a2 (fun r0 => K (.d (D.int .i64 r0))) :=
  (show vfn (ref11_Duration_C n) n Try.f33 [.ag [.d (D.int .i64 a0_0), .d (D.sl 3 a0_1), .d (D.sl 6 a0_2)], .d (D.sl 1 a1), .d (D.int .i64 a2)] [] (retF [[0]] K) = vexec (ref11_Duration_C n) n ref11_Duration_c0 ⟨28, [(0, .ag [.d (D.int .i64 a0_0), .d (D.sl 3 a0_1), .d (D.sl 6 a0_2)]), (1, .d (D.sl 1 a1)), (2, .d (D.int .i64 a2))], []⟩ (retX ref11_Duration_tt [.tmp 6] (retF [[0]] K)) from vfn_at (by kernel_rfl) (by kernel_rfl) rfl (by kernel_rfl) rfl (by kernel_rfl) rfl).trans ((ref11_Duration_p1_eq n a0_0 a0_1 a0_2 a1 a2 (retX ref11_Duration_tt [.tmp 6] (retF [[0]] K))).trans (by kernel_rfl))
def ref11_Duration_K : AV → Option (Int) := fun av => match av with
  | .d (D.int .i64 r0) => some r0
  | _ => none
def ref11_Duration_e (n : Nat) : Entry := fun _ _ g avs _ k => match avs with
  | [c0, c1, c2] => 
    prG c0 fun l0 => (match l0 with
    | [c0_0, c0_1, c0_2] => prI g .i64 c0_0 fun a0_0 => prS g 3 c0_1 fun a0_1 => prS g 6 c0_2 fun a0_2 => prS g 1 c1 fun a1 => prI g .i64 c2 fun a2 => 
    gb g (ref11_Duration n a0_0 a0_1 a0_2 a1 a2 some) 0 fun r => k ⟨.d (D.int .i64 r), [], []⟩
    | _ => none)
  | _ => none
theorem ref11_Duration_ok (n : Nat) : EntryOK Try.prog 33 (ref11_Duration_e n) := by
  intro R site g avs hl k r h
  unfold ref11_Duration_e at h
  split at h
  rotate_left
  · cases h
  replace h := prG_some h
  obtain ⟨l0, h, e0⟩ := h
  subst e0
  split at h
  rotate_left
  · cases h
  replace h := prI_some h
  obtain ⟨a0_0, h, le0⟩ := h
  replace h := prS_some h
  obtain ⟨a0_1, h, le1⟩ := h
  replace h := prS_some h
  obtain ⟨a0_2, h, le2⟩ := h
  replace h := prS_some h
  obtain ⟨a1, h, le3⟩ := h
  replace h := prI_some h
  obtain ⟨a2, h, le4⟩ := h
  replace h := gb_some h
  obtain ⟨res, h, hr⟩ := h
  refine ⟨_, h, fun hg => CallOK.conv (avs' := [.ag [.d (D.int .i64 a0_0), .d (D.sl 3 a0_1), .d (D.sl 6 a0_2)], .d (D.sl 1 a1), .d (D.int .i64 a2)]) (.cons (.ag (.cons (le0 hg) (.cons (le1 hg) (.cons (le2 hg) (.nil))))) (.cons (le3 hg) (.cons (le4 hg) (.nil)))) (callOK_fix (K := ref11_Duration_K) (res := res) (ref11_Duration_VC n) (fn := Try.f33) (n := n) (by kernel_rfl) (by kernel_rfl) (by kernel_rfl) (ss := [[0]]) rfl ?_ ?_)⟩
  · exact (ref11_Duration_vfn n a0_0 a0_1 a0_2 a1 a2 ref11_Duration_K).trans (hr hg)
  · intro x hx
    unfold ref11_Duration_K at hx
    split at hx
    · injection hx with hx; subst hx; rfl
    · cases hx
end Go.Vx
/-
  network_Feasible: the interpreter computes the pure function
-/
set_option linter.unusedVariables false
set_option linter.unusedSimpArgs false
set_option maxRecDepth 100000
namespace Go.Vx
open Go.Proofs
noncomputable def network_Feasible_c0 : Code := bodyOf Try.f17
def network_Feasible_tt : TT := [(26, ⟨.struct, 3, 56, [.int .i64 0, .slice none 0 0, .slice none 0 0], [.int .i64 0, .sl 3 [], .sl 6 []], [(0, 3), (1, 23), (2, 24)], none⟩)]
theorem network_Feasible_tt_eq : mkTT Try.prog [26] = network_Feasible_tt := by kernel_rfl
def network_Feasible_cfg : List (Nat × Cfg) := [(0, ⟨[1, 2], [(2, 2)], [], [], []⟩), (1, ⟨[1, 2, 6], [(2, 2)], [], [], []⟩), (2, ⟨[4], [], [], [], []⟩)]
def network_Feasible_C (n : Nat) : VC := ⟨specOf [(24, network_First_e n), (27, network_Good_e n)], network_Feasible_tt, network_Feasible_cfg⟩
theorem network_Feasible_ents (n : Nat) : EntsOK Try.prog [(24, network_First_e n), (27, network_Good_e n)] := ⟨network_First_ok n, ⟨network_Good_ok n, trivial⟩⟩
theorem network_Feasible_VC (n : Nat) : VCOk Try.prog (network_Feasible_C n) := ⟨specOf_ok (network_Feasible_ents n), (network_Feasible_tt_eq ▸ mkTT_ok _ : TOk Try.prog network_Feasible_tt), by kernel_rfl⟩
theorem network_Feasible_p1_congr {R : Type} (n : Nat) (a0_0 : Int) (a0_1 : List (List D)) (a0_2 : List (List D)) (a1 : List (List D)) {k0 kk0 : Bool → Option R} (hq0 : ∀ x0, k0 x0 = kk0 x0) : network_Feasible_p1 n a0_0 a0_1 a0_2 a1 k0 = network_Feasible_p1 n a0_0 a0_1 a0_2 a1 kk0 := by
  obtain rfl : k0 = kk0 := funext fun x0 => hq0 x0
  rfl
theorem network_Feasible_p1_eq {R : Type} (n : Nat) (a0_0 : Int) (a0_1 : List (List D)) (a0_2 : List (List D)) (a1 : List (List D)) (k : Exit → St → Option R) : vexec (network_Feasible_C n) n network_Feasible_c0 ⟨20, [(0, .ag [.d (D.int .i64 a0_0), .d (D.sl 3 a0_1), .d (D.sl 6 a0_2)]), (1, .d (D.sl 1 a1))], []⟩ k = network_Feasible_p1 n a0_0 a0_1 a0_2 a1 (fun z3 => k .ret ⟨20, [(4, .d (D.bool z3))], []⟩) := by kernel_rfl
theorem network_Feasible_vfn {R : Type} (n : Nat) (a0_0 : Int) (a0_1 : List (List D)) (a0_2 : List (List D)) (a1 : List (List D)) (K : AV → Option R) : vfn (network_Feasible_C n) n Try.f17 [.ag [.d (D.int .i64 a0_0), .d (D.sl 3 a0_1), .d (D.sl 6 a0_2)], .d (D.sl 1 a1)] [] (retF [[0]] K) = network_Feasible n a0_0 a0_1 a0_2 a1 (fun r0 => K (.d (D.bool r0))) :=
  (show vfn (network_Feasible_C n) n Try.f17 [.ag [.d (D.int .i64 a0_0), .d (D.sl 3 a0_1), .d (D.sl 6 a0_2)], .d (D.sl 1 a1)] [] (retF [[0]] K) = vexec (network_Feasible_C n) n network_Feasible_c0 ⟨20, [(0, .ag [.d (D.int .i64 a0_0), .d (D.sl 3 a0_1), .d (D.sl 6 a0_2)]), (1, .d (D.sl 1 a1))], []⟩ (retX network_Feasible_tt [.tmp 4] (retF [[0]] K)) from vfn_at (by kernel_rfl) (by kernel_rfl) rfl (by kernel_rfl) rfl (by kernel_rfl) rfl).trans ((network_Feasible_p1_eq n a0_0 a0_1 a0_2 a1 (retX network_Feasible_tt [.tmp 4] (retF [[0]] K))).trans (by kernel_rfl))
def network_Feasible_K : AV → Option (Bool) := fun av => match av with
  | .d (D.bool r0) => some r0
  | _ => none
def network_Feasible_e (n : Nat) : Entry := fun _ _ g avs _ k => match avs with
  | [c0, c1] => 
    prG c0 fun l0 => (match l0 with
    | [c0_0, c0_1, c0_2] => prI g .i64 c0_0 fun a0_0 => prS g 3 c0_1 fun a0_1 => prS g 6 c0_2 fun a0_2 => prS g 1 c1 fun a1 => 
    gb g (network_Feasible n a0_0 a0_1 a0_2 a1 some) false fun r => k ⟨.d (D.bool r), [], []⟩
    | _ => none)
  | _ => none
theorem network_Feasible_ok (n : Nat) : EntryOK Try.prog 17 (network_Feasible_e n) := by
  intro R site g avs hl k r h
  unfold network_Feasible_e at h
  split at h
  rotate_left
  · cases h
  replace h := prG_some h
  obtain ⟨l0, h, e0⟩ := h
  subst e0
  split at h
  rotate_left
  · cases h
  replace h := prI_some h
  obtain ⟨a0_0, h, le0⟩ := h
  replace h := prS_some h
  obtain ⟨a0_1, h, le1⟩ := h
  replace h := prS_some h
  obtain ⟨a0_2, h, le2⟩ := h
  replace h := prS_some h
  obtain ⟨a1, h, le3⟩ := h
  replace h := gb_some h
  obtain ⟨res, h, hr⟩ := h
  refine ⟨_, h, fun hg => CallOK.conv (avs' := [.ag [.d (D.int .i64 a0_0), .d (D.sl 3 a0_1), .d (D.sl 6 a0_2)], .d (D.sl 1 a1)]) (.cons (.ag (.cons (le0 hg) (.cons (le1 hg) (.cons (le2 hg) (.nil))))) (.cons (le3 hg) (.nil))) (callOK_fix (K := network_Feasible_K) (res := res) (network_Feasible_VC n) (fn := Try.f17) (n := n) (by kernel_rfl) (by kernel_rfl) (by kernel_rfl) (ss := [[0]]) rfl ?_ ?_)⟩
  · exact (network_Feasible_vfn n a0_0 a0_1 a0_2 a1 network_Feasible_K).trans (hr hg)
  · intro x hx
    unfold network_Feasible_K at hx
    split at hx
    · injection hx with hx; subst hx; rfl
    · cases hx
end Go.Vx
/-
  ref11_Feasible: the interpreter computes the pure function
-/
set_option linter.unusedVariables false
set_option linter.unusedSimpArgs false
set_option maxRecDepth 100000
namespace Go.Vx
open Go.Proofs
noncomputable def ref11_Feasible_c0 : Code := bodyOf Try.f34
def ref11_Feasible_tt : TT := [(26, ⟨.struct, 3, 56, [.int .i64 0, .slice none 0 0, .slice none 0 0], [.int .i64 0, .sl 3 [], .sl 6 []], [(0, 3), (1, 23), (2, 24)], none⟩)]
theorem ref11_Feasible_tt_eq : mkTT Try.prog [26] = ref11_Feasible_tt := by kernel_rfl
def ref11_Feasible_cfg : List (Nat × Cfg) := [(0, ⟨[1, 2], [(2, 2)], [], [], []⟩), (1, ⟨[1, 2, 6], [(2, 2)], [], [], []⟩), (2, ⟨[4], [], [], [], []⟩)]
def ref11_Feasible_C (n : Nat) : VC := ⟨specOf [(30, ref11_First_e n), (32, ref11_Good_e n)], ref11_Feasible_tt, ref11_Feasible_cfg⟩
theorem ref11_Feasible_ents (n : Nat) : EntsOK Try.prog [(30, ref11_First_e n), (32, ref11_Good_e n)] := ⟨ref11_First_ok n, ⟨ref11_Good_ok n, trivial⟩⟩
theorem ref11_Feasible_VC (n : Nat) : VCOk Try.prog (ref11_Feasible_C n) := ⟨specOf_ok (ref11_Feasible_ents n), (ref11_Feasible_tt_eq ▸ mkTT_ok _ : TOk Try.prog ref11_Feasible_tt), by kernel_rfl⟩
theorem ref11_Feasible_p1_congr {R : Type} (n : Nat) (a0_0 : Int) (a0_1 : List (List D)) (a0_2 : List (List D)) (a1 : List (List D)) {k0 kk0 : Bool → Option R} (hq0 : ∀ x0, k0 x0 = kk0 x0) : ref11_Feasible_p1 n a0_0 a0_1 a0_2 a1 k0 = ref11_Feasible_p1 n a0_0 a0_1 a0_2 a1 kk0 := by
  obtain rfl : k0 = kk0 := funext fun x0 => hq0 x0
  rfl
theorem ref11_Feasible_p1_eq {R : Type} (n : Nat) (a0_0 : Int) (a0_1 : List (List D)) (a0_2 : List (List D)) (a1 : List (List D)) (k : Exit → St → Option R) : vexec (ref11_Feasible_C n) n ref11_Feasible_c0 ⟨20, [(0, .ag [.d (D.int .i64 a0_0), .d (D.sl 3 a0_1), .d (D.sl 6 a0_2)]), (1, .d (D.sl 1 a1))], []⟩ k = ref11_Feasible_p1 n a0_0 a0_1 a0_2 a1 (fun z3 => k .ret ⟨20, [(4, .d (D.bool z3))], []⟩) := by kernel_rfl
theorem ref11_Feasible_vfn {R : Type} (n : Nat) (a0_0 : Int) (a0_1 : List (List D)) (a0_2 : List (List D)) (a1 : List (List D)) (K : AV → Option R) : vfn (ref11_Feasible_C n) n Try.f34 [.ag [.d (D.int .i64 a0_0), .d (D.sl 3 a0_1), .d (D.sl 6 a0_2)], .d (D.sl 1 a1)] [] (retF [[0]] K) = ref11_Feasible n a0_0 a0_1 a0_2 a1 (fun r0 => K (.d (D.bool r0))) :=
  (show vfn (ref11_Feasible_C n) n Try.f34 [.ag [.d (D.int .i64 a0_0), .d (D.sl 3 a0_1), .d (D.sl 6 a0_2)], .d (D.sl 1 a1)] [] (retF [[0]] K) = vexec (ref11_Feasible_C n) n ref11_Feasible_c0 ⟨20, [(0, .ag [.d (D.int .i64 a0_0), .d (D.sl 3 a0_1), .d (D.sl 6 a0_2)]), (1, .d (D.sl 1 a1))], []⟩ (retX ref11_Feasible_tt [.tmp 4] (retF [[0]] K)) from vfn_at (by kernel_rfl) (by kernel_rfl) rfl (by kernel_rfl) rfl (by kernel_rfl) rfl).trans ((ref11_Feasible_p1_eq n a0_0 a0_1 a0_2 a1 (retX ref11_Feasible_tt [.tmp 4] (retF [[0]] K))).trans (by kernel_rfl))
def ref11_Feasible_K : AV → Option (Bool) := fun av => match av with
  | .d (D.bool r0) => some r0
  | _ => none
def ref11_Feasible_e (n : Nat) : Entry := fun _ _ g avs _ k => match avs with
  | [c0, c1] => 
    prG c0 fun l0 => (match l0 with
    | [c0_0, c0_1, c0_2] => prI g .i64 c0_0 fun a0_0 => prS g 3 c0_1 fun a0_1 => prS g 6 c0_2 fun a0_2 => prS g 1 c1 fun a1 => 
    gb g (ref11_Feasible n a0_0 a0_1 a0_2 a1 some) false fun r => k ⟨.d (D.bool r), [], []⟩
    | _ => none)
  | _ => none
theorem ref11_Feasible_ok (n : Nat) : EntryOK Try.prog 34 (ref11_Feasible_e n) := by
  intro R site g avs hl k r h
  unfold ref11_Feasible_e at h
  split at h
  rotate_left
  · cases h
  replace h := prG_some h
  obtain ⟨l0, h, e0⟩ := h
  subst e0
  split at h
  rotate_left
  · cases h
  replace h := prI_some h
  obtain ⟨a0_0, h, le0⟩ := h
  replace h := prS_some h
  obtain ⟨a0_1, h, le1⟩ := h
  replace h := prS_some h
  obtain ⟨a0_2, h, le2⟩ := h
  replace h := prS_some h
  obtain ⟨a1, h, le3⟩ := h
  replace h := gb_some h
  obtain ⟨res, h, hr⟩ := h
  refine ⟨_, h, fun hg => CallOK.conv (avs' := [.ag [.d (D.int .i64 a0_0), .d (D.sl 3 a0_1), .d (D.sl 6 a0_2)], .d (D.sl 1 a1)]) (.cons (.ag (.cons (le0 hg) (.cons (le1 hg) (.cons (le2 hg) (.nil))))) (.cons (le3 hg) (.nil))) (callOK_fix (K := ref11_Feasible_K) (res := res) (ref11_Feasible_VC n) (fn := Try.f34) (n := n) (by kernel_rfl) (by kernel_rfl) (by kernel_rfl) (ss := [[0]]) rfl ?_ ?_)⟩
  · exact (ref11_Feasible_vfn n a0_0 a0_1 a0_2 a1 ref11_Feasible_K).trans (hr hg)
  · intro x hx
    unfold ref11_Feasible_K at hx
    split at hx
    · injection hx with hx; subst hx; rfl
    · cases hx
end Go.Vx
/-
  slices_Index_railplan_api_Event_railplan_api_Event: the interpreter computes the pure function
-/
set_option linter.unusedVariables false
set_option linter.unusedSimpArgs false
set_option maxRecDepth 100000
namespace Go.Vx
open Go.Proofs
noncomputable def slices_Index_railplan_api_Event_railplan_api_Event_c0 : Code := bodyOf Try.f29
noncomputable def slices_Index_railplan_api_Event_railplan_api_Event_c1 : Code := cL (bodyOf Try.f29)
noncomputable def slices_Index_railplan_api_Event_railplan_api_Event_c2 : Code := cL (cL (cR (bodyOf Try.f29)))
noncomputable def slices_Index_railplan_api_Event_railplan_api_Event_c3 : Code := cB (cB (cR (cL (cR (bodyOf Try.f29)))))
noncomputable def slices_Index_railplan_api_Event_railplan_api_Event_c4 : Code := cB (cR (cL (cR (bodyOf Try.f29))))
noncomputable def slices_Index_railplan_api_Event_railplan_api_Event_c5 : Code := cR (cL (cR (bodyOf Try.f29)))
noncomputable def slices_Index_railplan_api_Event_railplan_api_Event_c6 : Code := cL (cR (bodyOf Try.f29))
noncomputable def slices_Index_railplan_api_Event_railplan_api_Event_c7 : Code := cR (cR (bodyOf Try.f29))
noncomputable def slices_Index_railplan_api_Event_railplan_api_Event_c8 : Code := cR (bodyOf Try.f29)
theorem slices_Index_railplan_api_Event_railplan_api_Event_c4_eq : slices_Index_railplan_api_Event_railplan_api_Event_c4 = .loop slices_Index_railplan_api_Event_railplan_api_Event_c3 := by kernel_rfl
theorem slices_Index_railplan_api_Event_railplan_api_Event_c5_eq : slices_Index_railplan_api_Event_railplan_api_Event_c5 = .block 0 slices_Index_railplan_api_Event_railplan_api_Event_c4 := by kernel_rfl
theorem slices_Index_railplan_api_Event_railplan_api_Event_c6_eq : slices_Index_railplan_api_Event_railplan_api_Event_c6 = .seq slices_Index_railplan_api_Event_railplan_api_Event_c2 slices_Index_railplan_api_Event_railplan_api_Event_c5 := by kernel_rfl
theorem slices_Index_railplan_api_Event_railplan_api_Event_c8_eq : slices_Index_railplan_api_Event_railplan_api_Event_c8 = .seq slices_Index_railplan_api_Event_railplan_api_Event_c6 slices_Index_railplan_api_Event_railplan_api_Event_c7 := by kernel_rfl
theorem slices_Index_railplan_api_Event_railplan_api_Event_c0_eq : slices_Index_railplan_api_Event_railplan_api_Event_c0 = .seq slices_Index_railplan_api_Event_railplan_api_Event_c1 slices_Index_railplan_api_Event_railplan_api_Event_c8 := by kernel_rfl
def slices_Index_railplan_api_Event_railplan_api_Event_tt : TT := [(3, ⟨.int .i64, 1, 8, [.int .i64 0], [.int .i64 0], [], none⟩), (23, ⟨.sl 46 3, 1, 24, [.slice none 0 0], [.sl 3 []], [], none⟩), (46, ⟨.struct, 3, 24, [.int .i64 0, .int .i64 0, .int .i64 0], [.int .i64 0, .int .i64 0, .int .i64 0], [(0, 3), (1, 3), (2, 3)], some [.int .i64, .int .i64, .int .i64]⟩)]
theorem slices_Index_railplan_api_Event_railplan_api_Event_tt_eq : mkTT Try.prog [3, 23, 46] = slices_Index_railplan_api_Event_railplan_api_Event_tt := by kernel_rfl
def slices_Index_railplan_api_Event_railplan_api_Event_cfg : List (Nat × Cfg) := [(0, ⟨[0, 3], [(3, 3)], [], [], []⟩), (1, ⟨[0, 3, 7, 8], [(3, 3)], [], [], []⟩), (2, ⟨[0, 3, 7, 8, 9], [(3, 3)], [], [], []⟩), (3, ⟨[0, 3, 5, 7, 8], [(3, 3)], [], [], []⟩), (4, ⟨[0, 3, 5, 7, 8, 16], [(3, 3)], [], [], []⟩), (5, ⟨[4], [], [], [], []⟩), (6, ⟨[0, 3, 7, 8], [(3, 3)], [], [], []⟩), (7, ⟨[4], [], [], [], []⟩)]
def slices_Index_railplan_api_Event_railplan_api_Event_C (n : Nat) : VC := ⟨specOf [], slices_Index_railplan_api_Event_railplan_api_Event_tt, slices_Index_railplan_api_Event_railplan_api_Event_cfg⟩
theorem slices_Index_railplan_api_Event_railplan_api_Event_ents (n : Nat) : EntsOK Try.prog [] := trivial
theorem slices_Index_railplan_api_Event_railplan_api_Event_VC (n : Nat) : VCOk Try.prog (slices_Index_railplan_api_Event_railplan_api_Event_C n) := ⟨specOf_ok (slices_Index_railplan_api_Event_railplan_api_Event_ents n), (slices_Index_railplan_api_Event_railplan_api_Event_tt_eq ▸ mkTT_ok _ : TOk Try.prog slices_Index_railplan_api_Event_railplan_api_Event_tt), by kernel_rfl⟩
theorem slices_Index_railplan_api_Event_railplan_api_Event_p1_congr {R : Type} (n : Nat) (a0 : List (List D)) (a1_0 : Int) (a1_1 : Int) (a1_2 : Int) {k0 kk0 : Option R} (hq0 : k0 = kk0) : slices_Index_railplan_api_Event_railplan_api_Event_p1 n a0 a1_0 a1_1 a1_2 k0 = slices_Index_railplan_api_Event_railplan_api_Event_p1 n a0 a1_0 a1_1 a1_2 kk0 := by
  obtain rfl : k0 = kk0 := hq0
  rfl
theorem slices_Index_railplan_api_Event_railplan_api_Event_p2_congr {R : Type} (n : Nat) (a0 : List (List D)) (a1_0 : Int) (a1_1 : Int) (a1_2 : Int) {k0 kk0 : Int → Option R} (hq0 : ∀ x0, k0 x0 = kk0 x0) : slices_Index_railplan_api_Event_railplan_api_Event_p2 n a0 a1_0 a1_1 a1_2 k0 = slices_Index_railplan_api_Event_railplan_api_Event_p2 n a0 a1_0 a1_1 a1_2 kk0 := by
  obtain rfl : k0 = kk0 := funext fun x0 => hq0 x0
  rfl
theorem slices_Index_railplan_api_Event_railplan_api_Event_p3_congr {R : Type} (n : Nat) (a0 : List (List D)) (w2 : Int) (h5 : Int) (a1_0 : Int) (a1_1 : Int) (a1_2 : Int) {k0 kk0 : Option R} {k1 kk1 : Int → Option R} {k2 kk2 : Bool → Option R} (hq0 : k0 = kk0) (hq1 : ∀ x0, k1 x0 = kk1 x0) (hq2 : ∀ x0, k2 x0 = kk2 x0) : slices_Index_railplan_api_Event_railplan_api_Event_p3 n a0 w2 h5 a1_0 a1_1 a1_2 k0 k1 k2 = slices_Index_railplan_api_Event_railplan_api_Event_p3 n a0 w2 h5 a1_0 a1_1 a1_2 kk0 kk1 kk2 := by
  obtain rfl : k0 = kk0 := hq0
  obtain rfl : k1 = kk1 := funext fun x0 => hq1 x0
  obtain rfl : k2 = kk2 := funext fun x0 => hq2 x0
  rfl
theorem slices_Index_railplan_api_Event_railplan_api_Event_p4_congr {R : Type} (n : Nat) (a0 : List (List D)) (w2 : Int) (a1_0 : Int) (a1_1 : Int) (a1_2 : Int) {k0 kk0 : Int → Option R} {k1 kk1 : Int → Bool → Option R} (hq0 : ∀ x0, k0 x0 = kk0 x0) (hq1 : ∀ x0 x1, k1 x0 x1 = kk1 x0 x1) : slices_Index_railplan_api_Event_railplan_api_Event_p4 n a0 w2 a1_0 a1_1 a1_2 k0 k1 = slices_Index_railplan_api_Event_railplan_api_Event_p4 n a0 w2 a1_0 a1_1 a1_2 kk0 kk1 := by
  obtain rfl : k0 = kk0 := funext fun x0 => hq0 x0
  obtain rfl : k1 = kk1 := funext fun x0 => funext fun x1 => hq1 x0 x1
  rfl
theorem slices_Index_railplan_api_Event_railplan_api_Event_p5_congr {R : Type} (n : Nat) (a0 : List (List D)) (w2 : Int) (a1_0 : Int) (a1_1 : Int) (a1_2 : Int) {k0 kk0 : Int → Option R} {k1 kk1 : Int → Bool → Option R} (hq0 : ∀ x0, k0 x0 = kk0 x0) (hq1 : ∀ x0 x1, k1 x0 x1 = kk1 x0 x1) : slices_Index_railplan_api_Event_railplan_api_Event_p5 n a0 w2 a1_0 a1_1 a1_2 k0 k1 = slices_Index_railplan_api_Event_railplan_api_Event_p5 n a0 w2 a1_0 a1_1 a1_2 kk0 kk1 := by
  obtain rfl : k0 = kk0 := funext fun x0 => hq0 x0
  obtain rfl : k1 = kk1 := funext fun x0 => funext fun x1 => hq1 x0 x1
  rfl
theorem slices_Index_railplan_api_Event_railplan_api_Event_p6_congr {R : Type} (n : Nat) (a0 : List (List D)) (a1_0 : Int) (a1_1 : Int) (a1_2 : Int) {k0 kk0 : Int → Option R} {k1 kk1 : Int → Int → Bool → Option R} (hq0 : ∀ x0, k0 x0 = kk0 x0) (hq1 : ∀ x0 x1 x2, k1 x0 x1 x2 = kk1 x0 x1 x2) : slices_Index_railplan_api_Event_railplan_api_Event_p6 n a0 a1_0 a1_1 a1_2 k0 k1 = slices_Index_railplan_api_Event_railplan_api_Event_p6 n a0 a1_0 a1_1 a1_2 kk0 kk1 := by
  obtain rfl : k0 = kk0 := funext fun x0 => hq0 x0
  obtain rfl : k1 = kk1 := funext fun x0 => funext fun x1 => funext fun x2 => hq1 x0 x1 x2
  rfl
theorem slices_Index_railplan_api_Event_railplan_api_Event_p7_congr {R : Type} (n : Nat) (a0 : List (List D)) (w36 : Int) (w37 : Int) (w38 : Bool) (a1_0 : Int) (a1_1 : Int) (a1_2 : Int) {k0 kk0 : Option R} (hq0 : k0 = kk0) : slices_Index_railplan_api_Event_railplan_api_Event_p7 n a0 w36 w37 w38 a1_0 a1_1 a1_2 k0 = slices_Index_railplan_api_Event_railplan_api_Event_p7 n a0 w36 w37 w38 a1_0 a1_1 a1_2 kk0 := by
  obtain rfl : k0 = kk0 := hq0
  rfl
theorem slices_Index_railplan_api_Event_railplan_api_Event_p8_congr {R : Type} (n : Nat) (a0 : List (List D)) (a1_0 : Int) (a1_1 : Int) (a1_2 : Int) {k0 kk0 : Int → Option R} (hq0 : ∀ x0, k0 x0 = kk0 x0) : slices_Index_railplan_api_Event_railplan_api_Event_p8 n a0 a1_0 a1_1 a1_2 k0 = slices_Index_railplan_api_Event_railplan_api_Event_p8 n a0 a1_0 a1_1 a1_2 kk0 := by
  obtain rfl : k0 = kk0 := funext fun x0 => hq0 x0
  rfl
theorem slices_Index_railplan_api_Event_railplan_api_Event_p9_congr {R : Type} (n : Nat) (a0 : List (List D)) (a1_0 : Int) (a1_1 : Int) (a1_2 : Int) {k0 kk0 : Int → Option R} (hq0 : ∀ x0, k0 x0 = kk0 x0) : slices_Index_railplan_api_Event_railplan_api_Event_p9 n a0 a1_0 a1_1 a1_2 k0 = slices_Index_railplan_api_Event_railplan_api_Event_p9 n a0 a1_0 a1_1 a1_2 kk0 := by
  obtain rfl : k0 = kk0 := funext fun x0 => hq0 x0
  rfl
theorem slices_Index_railplan_api_Event_railplan_api_Event_p1_eq {R : Type} (n : Nat) (a0 : List (List D)) (a1_0 : Int) (a1_1 : Int) (a1_2 : Int) (k : Exit → St → Option R) : vexec (slices_Index_railplan_api_Event_railplan_api_Event_C n) n slices_Index_railplan_api_Event_railplan_api_Event_c1 ⟨19, [(0, .d (D.sl 3 a0)), (1, .ag [.d (D.int .i64 a1_0), .d (D.int .i64 a1_1), .d (D.int .i64 a1_2)])], []⟩ k = slices_Index_railplan_api_Event_railplan_api_Event_p1 n a0 a1_0 a1_1 a1_2 (k .normal ⟨19, [(0, .d (D.sl 3 a0)), (3, .ptr 3 0)], [(3, .box [.d (D.int .i64 a1_0), .d (D.int .i64 a1_1), .d (D.int .i64 a1_2)])]⟩) := by kernel_rfl
theorem slices_Index_railplan_api_Event_railplan_api_Event_p2_eq {R : Type} (n : Nat) (a0 : List (List D)) (a1_0 : Int) (a1_1 : Int) (a1_2 : Int) (k : Exit → St → Option R) : vexec (slices_Index_railplan_api_Event_railplan_api_Event_C n) n slices_Index_railplan_api_Event_railplan_api_Event_c2 ⟨19, [(0, .d (D.sl 3 a0)), (3, .ptr 3 0)], [(3, .box [.d (D.int .i64 a1_0), .d (D.int .i64 a1_1), .d (D.int .i64 a1_2)])]⟩ k = slices_Index_railplan_api_Event_railplan_api_Event_p2 n a0 a1_0 a1_1 a1_2 (fun z1 => k .normal ⟨19, [(0, .d (D.sl 3 a0)), (3, .ptr 3 0), (7, .d (D.int .i64 z1)), (8, .d (D.int .i64 (0 : Int)))], [(3, .box [.d (D.int .i64 a1_0), .d (D.int .i64 a1_1), .d (D.int .i64 a1_2)])]⟩) := by kernel_rfl
theorem slices_Index_railplan_api_Event_railplan_api_Event_p3_eq {R : Type} (n : Nat) (a0 : List (List D)) (w2 : Int) (h5 : Int) (a1_0 : Int) (a1_1 : Int) (a1_2 : Int) (k : Exit → St → Option R) : vexec (slices_Index_railplan_api_Event_railplan_api_Event_C n) n slices_Index_railplan_api_Event_railplan_api_Event_c3 ⟨19, [(0, .d (D.sl 3 a0)), (3, .ptr 3 0), (7, .d (D.int .i64 w2)), (8, .d (D.int .i64 h5))], [(3, .box [.d (D.int .i64 a1_0), .d (D.int .i64 a1_1), .d (D.int .i64 a1_2)])]⟩ k = slices_Index_railplan_api_Event_railplan_api_Event_p3 n a0 w2 h5 a1_0 a1_1 a1_2 (k .ret ⟨19, [(4, .d (D.int .i64 h5))], []⟩) (fun z25 => k .normal ⟨19, [(0, .d (D.sl 3 a0)), (3, .ptr 3 0), (7, .d (D.int .i64 w2)), (8, .d (D.int .i64 z25))], [(3, .box [.d (D.int .i64 a1_0), .d (D.int .i64 a1_1), .d (D.int .i64 a1_2)])]⟩) (fun z26 => k (.exit 0) ⟨19, [(0, .d (D.sl 3 a0)), (3, .ptr 3 0), (7, .d (D.int .i64 w2)), (8, .d (D.int .i64 h5)), (9, .d (D.bool z26))], [(3, .box [.d (D.int .i64 a1_0), .d (D.int .i64 a1_1), .d (D.int .i64 a1_2)])]⟩) := by kernel_rfl
theorem slices_Index_railplan_api_Event_railplan_api_Event_r4_eq {R : Type} (n : Nat) (a0 : List (List D)) (w2 : Int) (a1_0 : Int) (a1_1 : Int) (a1_2 : Int) (k : Exit → St → Option R) : ∀ (m : Nat) (h5 : Int), loopN (vexec (slices_Index_railplan_api_Event_railplan_api_Event_C n) n slices_Index_railplan_api_Event_railplan_api_Event_c3) m ⟨19, [(0, .d (D.sl 3 a0)), (3, .ptr 3 0), (7, .d (D.int .i64 w2)), (8, .d (D.int .i64 h5))], [(3, .box [.d (D.int .i64 a1_0), .d (D.int .i64 a1_1), .d (D.int .i64 a1_2)])]⟩ k = slices_Index_railplan_api_Event_railplan_api_Event_r4 n a0 w2 a1_0 a1_1 a1_2 (fun h5 => k .ret ⟨19, [(4, .d (D.int .i64 h5))], []⟩) (fun h5 w28 => k (.exit 0) ⟨19, [(0, .d (D.sl 3 a0)), (3, .ptr 3 0), (7, .d (D.int .i64 w2)), (8, .d (D.int .i64 h5)), (9, .d (D.bool w28))], [(3, .box [.d (D.int .i64 a1_0), .d (D.int .i64 a1_1), .d (D.int .i64 a1_2)])]⟩) m h5
  | 0, _ => rfl
  | m + 1, h5 => (slices_Index_railplan_api_Event_railplan_api_Event_p3_eq n a0 w2 h5 a1_0 a1_1 a1_2 (loopK (vexec (slices_Index_railplan_api_Event_railplan_api_Event_C n) n slices_Index_railplan_api_Event_railplan_api_Event_c3) m k)).trans (slices_Index_railplan_api_Event_railplan_api_Event_p3_congr n a0 w2 h5 a1_0 a1_1 a1_2 (rfl) (fun w27 => slices_Index_railplan_api_Event_railplan_api_Event_r4_eq n a0 w2 a1_0 a1_1 a1_2 k m w27) (fun w28 => rfl))
theorem slices_Index_railplan_api_Event_railplan_api_Event_p4_eq {R : Type} (n : Nat) (a0 : List (List D)) (w2 : Int) (a1_0 : Int) (a1_1 : Int) (a1_2 : Int) (k : Exit → St → Option R) : vexec (slices_Index_railplan_api_Event_railplan_api_Event_C n) n slices_Index_railplan_api_Event_railplan_api_Event_c4 ⟨19, [(0, .d (D.sl 3 a0)), (3, .ptr 3 0), (7, .d (D.int .i64 w2)), (8, .d (D.int .i64 (0 : Int)))], [(3, .box [.d (D.int .i64 a1_0), .d (D.int .i64 a1_1), .d (D.int .i64 a1_2)])]⟩ k = slices_Index_railplan_api_Event_railplan_api_Event_p4 n a0 w2 a1_0 a1_1 a1_2 (fun h5 => k .ret ⟨19, [(4, .d (D.int .i64 h5))], []⟩) (fun h5 w28 => k (.exit 0) ⟨19, [(0, .d (D.sl 3 a0)), (3, .ptr 3 0), (7, .d (D.int .i64 w2)), (8, .d (D.int .i64 h5)), (9, .d (D.bool w28))], [(3, .box [.d (D.int .i64 a1_0), .d (D.int .i64 a1_1), .d (D.int .i64 a1_2)])]⟩) := by
  rw [slices_Index_railplan_api_Event_railplan_api_Event_c4_eq]
  exact slices_Index_railplan_api_Event_railplan_api_Event_r4_eq n a0 w2 a1_0 a1_1 a1_2 k n (0 : Int)
theorem slices_Index_railplan_api_Event_railplan_api_Event_p5_eq {R : Type} (n : Nat) (a0 : List (List D)) (w2 : Int) (a1_0 : Int) (a1_1 : Int) (a1_2 : Int) (k : Exit → St → Option R) : vexec (slices_Index_railplan_api_Event_railplan_api_Event_C n) n slices_Index_railplan_api_Event_railplan_api_Event_c5 ⟨19, [(0, .d (D.sl 3 a0)), (3, .ptr 3 0), (7, .d (D.int .i64 w2)), (8, .d (D.int .i64 (0 : Int)))], [(3, .box [.d (D.int .i64 a1_0), .d (D.int .i64 a1_1), .d (D.int .i64 a1_2)])]⟩ k = slices_Index_railplan_api_Event_railplan_api_Event_p5 n a0 w2 a1_0 a1_1 a1_2 (fun w29 => k .ret ⟨19, [(4, .d (D.int .i64 w29))], []⟩) (fun w30 w31 => k .normal ⟨19, [(0, .d (D.sl 3 a0)), (3, .ptr 3 0), (7, .d (D.int .i64 w2)), (8, .d (D.int .i64 w30)), (9, .d (D.bool w31))], [(3, .box [.d (D.int .i64 a1_0), .d (D.int .i64 a1_1), .d (D.int .i64 a1_2)])]⟩) := by
  rw [slices_Index_railplan_api_Event_railplan_api_Event_c5_eq]
  unfold slices_Index_railplan_api_Event_railplan_api_Event_p5
  exact (slices_Index_railplan_api_Event_railplan_api_Event_p4_eq n a0 w2 a1_0 a1_1 a1_2 (blockK 0 k)).trans (slices_Index_railplan_api_Event_railplan_api_Event_p4_congr n a0 w2 a1_0 a1_1 a1_2 (fun w29 => rfl) (fun w30 w31 => rfl))
theorem slices_Index_railplan_api_Event_railplan_api_Event_p6_eq {R : Type} (n : Nat) (a0 : List (List D)) (a1_0 : Int) (a1_1 : Int) (a1_2 : Int) (k : Exit → St → Option R) : vexec (slices_Index_railplan_api_Event_railplan_api_Event_C n) n slices_Index_railplan_api_Event_railplan_api_Event_c6 ⟨19, [(0, .d (D.sl 3 a0)), (3, .ptr 3 0)], [(3, .box [.d (D.int .i64 a1_0), .d (D.int .i64 a1_1), .d (D.int .i64 a1_2)])]⟩ k = slices_Index_railplan_api_Event_railplan_api_Event_p6 n a0 a1_0 a1_1 a1_2 (fun w32 => k .ret ⟨19, [(4, .d (D.int .i64 w32))], []⟩) (fun w2 w33 w34 => k .normal ⟨19, [(0, .d (D.sl 3 a0)), (3, .ptr 3 0), (7, .d (D.int .i64 w2)), (8, .d (D.int .i64 w33)), (9, .d (D.bool w34))], [(3, .box [.d (D.int .i64 a1_0), .d (D.int .i64 a1_1), .d (D.int .i64 a1_2)])]⟩) := by
  rw [slices_Index_railplan_api_Event_railplan_api_Event_c6_eq]
  unfold slices_Index_railplan_api_Event_railplan_api_Event_p6
  exact (slices_Index_railplan_api_Event_railplan_api_Event_p2_eq n a0 a1_0 a1_1 a1_2 (seqK (slices_Index_railplan_api_Event_railplan_api_Event_C n) n slices_Index_railplan_api_Event_railplan_api_Event_c5 k)).trans (slices_Index_railplan_api_Event_railplan_api_Event_p2_congr n a0 a1_0 a1_1 a1_2 (fun w2 => slices_Index_railplan_api_Event_railplan_api_Event_p5_eq n a0 w2 a1_0 a1_1 a1_2 k))
theorem slices_Index_railplan_api_Event_railplan_api_Event_p7_eq {R : Type} (n : Nat) (a0 : List (List D)) (w36 : Int) (w37 : Int) (w38 : Bool) (a1_0 : Int) (a1_1 : Int) (a1_2 : Int) (k : Exit → St → Option R) : vexec (slices_Index_railplan_api_Event_railplan_api_Event_C n) n slices_Index_railplan_api_Event_railplan_api_Event_c7 ⟨19, [(0, .d (D.sl 3 a0)), (3, .ptr 3 0), (7, .d (D.int .i64 w36)), (8, .d (D.int .i64 w37)), (9, .d (D.bool w38))], [(3, .box [.d (D.int .i64 a1_0), .d (D.int .i64 a1_1), .d (D.int .i64 a1_2)])]⟩ k = slices_Index_railplan_api_Event_railplan_api_Event_p7 n a0 w36 w37 w38 a1_0 a1_1 a1_2 (k .ret ⟨19, [(4, .d (D.int .i64 (-1 : Int)))], []⟩) := by kernel_rfl
theorem slices_Index_railplan_api_Event_railplan_api_Event_p8_eq {R : Type} (n : Nat) (a0 : List (List D)) (a1_0 : Int) (a1_1 : Int) (a1_2 : Int) (k : Exit → St → Option R) : vexec (slices_Index_railplan_api_Event_railplan_api_Event_C n) n slices_Index_railplan_api_Event_railplan_api_Event_c8 ⟨19, [(0, .d (D.sl 3 a0)), (3, .ptr 3 0)], [(3, .box [.d (D.int .i64 a1_0), .d (D.int .i64 a1_1), .d (D.int .i64 a1_2)])]⟩ k = slices_Index_railplan_api_Event_railplan_api_Event_p8 n a0 a1_0 a1_1 a1_2 (fun z39 => k .ret ⟨19, [(4, .d (D.int .i64 z39))], []⟩) := by
  rw [slices_Index_railplan_api_Event_railplan_api_Event_c8_eq]
  unfold slices_Index_railplan_api_Event_railplan_api_Event_p8
  exact (slices_Index_railplan_api_Event_railplan_api_Event_p6_eq n a0 a1_0 a1_1 a1_2 (seqK (slices_Index_railplan_api_Event_railplan_api_Event_C n) n slices_Index_railplan_api_Event_railplan_api_Event_c7 k)).trans (slices_Index_railplan_api_Event_railplan_api_Event_p6_congr n a0 a1_0 a1_1 a1_2 (fun w35 => rfl) (fun w36 w37 w38 => slices_Index_railplan_api_Event_railplan_api_Event_p7_eq n a0 w36 w37 w38 a1_0 a1_1 a1_2 k))
theorem slices_Index_railplan_api_Event_railplan_api_Event_p9_eq {R : Type} (n : Nat) (a0 : List (List D)) (a1_0 : Int) (a1_1 : Int) (a1_2 : Int) (k : Exit → St → Option R) : vexec (slices_Index_railplan_api_Event_railplan_api_Event_C n) n slices_Index_railplan_api_Event_railplan_api_Event_c0 ⟨19, [(0, .d (D.sl 3 a0)), (1, .ag [.d (D.int .i64 a1_0), .d (D.int .i64 a1_1), .d (D.int .i64 a1_2)])], []⟩ k = slices_Index_railplan_api_Event_railplan_api_Event_p9 n a0 a1_0 a1_1 a1_2 (fun w40 => k .ret ⟨19, [(4, .d (D.int .i64 w40))], []⟩) := by
  rw [slices_Index_railplan_api_Event_railplan_api_Event_c0_eq]
  unfold slices_Index_railplan_api_Event_railplan_api_Event_p9
  exact (slices_Index_railplan_api_Event_railplan_api_Event_p1_eq n a0 a1_0 a1_1 a1_2 (seqK (slices_Index_railplan_api_Event_railplan_api_Event_C n) n slices_Index_railplan_api_Event_railplan_api_Event_c8 k)).trans (slices_Index_railplan_api_Event_railplan_api_Event_p1_congr n a0 a1_0 a1_1 a1_2 (slices_Index_railplan_api_Event_railplan_api_Event_p8_eq n a0 a1_0 a1_1 a1_2 k))
theorem slices_Index_railplan_api_Event_railplan_api_Event_vfn {R : Type} (n : Nat) (a0 : List (List D)) (a1_0 : Int) (a1_1 : Int) (a1_2 : Int) (K : AV → Option R) : vfn (slices_Index_railplan_api_Event_railplan_api_Event_C n) n Try.f29 [.d (D.sl 3 a0), .ag [.d (D.int .i64 a1_0), .d (D.int .i64 a1_1), .d (D.int .i64 a1_2)]] [] (retF [[0]] K) = slices_Index_railplan_api_Event_railplan_api_Event n a0 a1_0 a1_1 a1_2 (fun r0 => K (.d (D.int .i64 r0))) :=
  (show vfn (slices_Index_railplan_api_Event_railplan_api_Event_C n) n Try.f29 [.d (D.sl 3 a0), .ag [.d (D.int .i64 a1_0), .d (D.int .i64 a1_1), .d (D.int .i64 a1_2)]] [] (retF [[0]] K) = vexec (slices_Index_railplan_api_Event_railplan_api_Event_C n) n slices_Index_railplan_api_Event_railplan_api_Event_c0 ⟨19, [(0, .d (D.sl 3 a0)), (1, .ag [.d (D.int .i64 a1_0), .d (D.int .i64 a1_1), .d (D.int .i64 a1_2)])], []⟩ (retX slices_Index_railplan_api_Event_railplan_api_Event_tt [.tmp 4] (retF [[0]] K)) from vfn_at (by kernel_rfl) (by kernel_rfl) rfl (by kernel_rfl) rfl (by kernel_rfl) rfl).trans ((slices_Index_railplan_api_Event_railplan_api_Event_p9_eq n a0 a1_0 a1_1 a1_2 (retX slices_Index_railplan_api_Event_railplan_api_Event_tt [.tmp 4] (retF [[0]] K))).trans (by kernel_rfl))
def slices_Index_railplan_api_Event_railplan_api_Event_K : AV → Option (Int) := fun av => match av with
  | .d (D.int .i64 r0) => some r0
  | _ => none
def slices_Index_railplan_api_Event_railplan_api_Event_e (n : Nat) : Entry := fun _ _ g avs _ k => match avs with
  | [c0, c1] => prS g 3 c0 fun a0 => 
    prG c1 fun l1 => (match l1 with
    | [c1_0, c1_1, c1_2] => prI g .i64 c1_0 fun a1_0 => prI g .i64 c1_1 fun a1_1 => prI g .i64 c1_2 fun a1_2 => 
    gb g (slices_Index_railplan_api_Event_railplan_api_Event n a0 a1_0 a1_1 a1_2 some) 0 fun r => k ⟨.d (D.int .i64 r), [], []⟩
    | _ => none)
  | _ => none
theorem slices_Index_railplan_api_Event_railplan_api_Event_ok (n : Nat) : EntryOK Try.prog 29 (slices_Index_railplan_api_Event_railplan_api_Event_e n) := by
  intro R site g avs hl k r h
  unfold slices_Index_railplan_api_Event_railplan_api_Event_e at h
  split at h
  rotate_left
  · cases h
  replace h := prS_some h
  obtain ⟨a0, h, le0⟩ := h
  replace h := prG_some h
  obtain ⟨l1, h, e1⟩ := h
  subst e1
  split at h
  rotate_left
  · cases h
  replace h := prI_some h
  obtain ⟨a1_0, h, le1⟩ := h
  replace h := prI_some h
  obtain ⟨a1_1, h, le2⟩ := h
  replace h := prI_some h
  obtain ⟨a1_2, h, le3⟩ := h
  replace h := gb_some h
  obtain ⟨res, h, hr⟩ := h
  refine ⟨_, h, fun hg => CallOK.conv (avs' := [.d (D.sl 3 a0), .ag [.d (D.int .i64 a1_0), .d (D.int .i64 a1_1), .d (D.int .i64 a1_2)]]) (.cons (le0 hg) (.cons (.ag (.cons (le1 hg) (.cons (le2 hg) (.cons (le3 hg) (.nil))))) (.nil))) (callOK_fix (K := slices_Index_railplan_api_Event_railplan_api_Event_K) (res := res) (slices_Index_railplan_api_Event_railplan_api_Event_VC n) (fn := Try.f29) (n := n) (by kernel_rfl) (by kernel_rfl) (by kernel_rfl) (ss := [[0]]) rfl ?_ ?_)⟩
  · exact (slices_Index_railplan_api_Event_railplan_api_Event_vfn n a0 a1_0 a1_1 a1_2 slices_Index_railplan_api_Event_railplan_api_Event_K).trans (hr hg)
  · intro x hx
    unfold slices_Index_railplan_api_Event_railplan_api_Event_K at hx
    split at hx
    · injection hx with hx; subst hx; rfl
    · cases hx
end Go.Vx
/-
  network_Index: the interpreter computes the pure function
-/
set_option linter.unusedVariables false
set_option linter.unusedSimpArgs false
set_option maxRecDepth 100000
namespace Go.Vx
open Go.Proofs
noncomputable def network_Index_c0 : Code := bodyOf Try.f20
def network_Index_tt : TT := [(23, ⟨.sl 46 3, 1, 24, [.slice none 0 0], [.sl 3 []], [], none⟩), (26, ⟨.struct, 3, 56, [.int .i64 0, .slice none 0 0, .slice none 0 0], [.int .i64 0, .sl 3 [], .sl 6 []], [(0, 3), (1, 23), (2, 24)], none⟩), (46, ⟨.struct, 3, 24, [.int .i64 0, .int .i64 0, .int .i64 0], [.int .i64 0, .int .i64 0, .int .i64 0], [(0, 3), (1, 3), (2, 3)], some [.int .i64, .int .i64, .int .i64]⟩)]
theorem network_Index_tt_eq : mkTT Try.prog [23, 26, 46] = network_Index_tt := by kernel_rfl
def network_Index_cfg : List (Nat × Cfg) := [(0, ⟨[2, 3], [(2, 2), (3, 3)], [], [], []⟩), (1, ⟨[4], [], [], [], []⟩)]
def network_Index_C (n : Nat) : VC := ⟨specOf [(29, slices_Index_railplan_api_Event_railplan_api_Event_e n)], network_Index_tt, network_Index_cfg⟩
theorem network_Index_ents (n : Nat) : EntsOK Try.prog [(29, slices_Index_railplan_api_Event_railplan_api_Event_e n)] := ⟨slices_Index_railplan_api_Event_railplan_api_Event_ok n, trivial⟩
theorem network_Index_VC (n : Nat) : VCOk Try.prog (network_Index_C n) := ⟨specOf_ok (network_Index_ents n), (network_Index_tt_eq ▸ mkTT_ok _ : TOk Try.prog network_Index_tt), by kernel_rfl⟩
theorem network_Index_p1_congr {R : Type} (n : Nat) (a0_0 : Int) (a0_1 : List (List D)) (a0_2 : List (List D)) (a1_0 : Int) (a1_1 : Int) (a1_2 : Int) {k0 kk0 : Int → Option R} (hq0 : ∀ x0, k0 x0 = kk0 x0) : network_Index_p1 n a0_0 a0_1 a0_2 a1_0 a1_1 a1_2 k0 = network_Index_p1 n a0_0 a0_1 a0_2 a1_0 a1_1 a1_2 kk0 := by
  obtain rfl : k0 = kk0 := funext fun x0 => hq0 x0
  rfl
theorem network_Index_p1_eq {R : Type} (n : Nat) (a0_0 : Int) (a0_1 : List (List D)) (a0_2 : List (List D)) (a1_0 : Int) (a1_1 : Int) (a1_2 : Int) (k : Exit → St → Option R) : vexec (network_Index_C n) n network_Index_c0 ⟨9, [(0, .ag [.d (D.int .i64 a0_0), .d (D.sl 3 a0_1), .d (D.sl 6 a0_2)]), (1, .ag [.d (D.int .i64 a1_0), .d (D.int .i64 a1_1), .d (D.int .i64 a1_2)])], []⟩ k = network_Index_p1 n a0_0 a0_1 a0_2 a1_0 a1_1 a1_2 (fun r1 => k .ret ⟨9, [(4, .d (D.int .i64 r1))], []⟩) := by kernel_rfl
theorem network_Index_vfn {R : Type} (n : Nat) (a0_0 : Int) (a0_1 : List (List D)) (a0_2 : List (List D)) (a1_0 : Int) (a1_1 : Int) (a1_2 : Int) (K : AV → Option R) : vfn (network_Index_C n) n Try.f20 [.ag [.d (D.int .i64 a0_0), .d (D.sl 3 a0_1), .d (D.sl 6 a0_2)], .ag [.d (D.int .i64 a1_0), .d (D.int .i64 a1_1), .d (D.int .i64 a1_2)]] [] (retF [[0]] K) = network_Index n a0_0 a0_1 a0_2 a1_0 a1_1 a1_2 (fun r0 => K (.d (D.int .i64 r0))) :=
  (show vfn (network_Index_C n) n Try.f20 [.ag [.d (D.int .i64 a0_0), .d (D.sl 3 a0_1), .d (D.sl 6 a0_2)], .ag [.d (D.int .i64 a1_0), .d (D.int .i64 a1_1), .d (D.int .i64 a1_2)]] [] (retF [[0]] K) = vexec (network_Index_C n) n network_Index_c0 ⟨9, [(0, .ag [.d (D.int .i64 a0_0), .d (D.sl 3 a0_1), .d (D.sl 6 a0_2)]), (1, .ag [.d (D.int .i64 a1_0), .d (D.int .i64 a1_1), .d (D.int .i64 a1_2)])], []⟩ (retX network_Index_tt [.tmp 4] (retF [[0]] K)) from vfn_at (by kernel_rfl) (by kernel_rfl) rfl (by kernel_rfl) rfl (by kernel_rfl) rfl).trans ((network_Index_p1_eq n a0_0 a0_1 a0_2 a1_0 a1_1 a1_2 (retX network_Index_tt [.tmp 4] (retF [[0]] K))).trans (by kernel_rfl))
def network_Index_K : AV → Option (Int) := fun av => match av with
  | .d (D.int .i64 r0) => some r0
  | _ => none
def network_Index_e (n : Nat) : Entry := fun _ _ g avs _ k => match avs with
  | [c0, c1] => 
    prG c0 fun l0 => (match l0 with
    | [c0_0, c0_1, c0_2] => prI g .i64 c0_0 fun a0_0 => prS g 3 c0_1 fun a0_1 => prS g 6 c0_2 fun a0_2 => 
    prG c1 fun l1 => (match l1 with
    | [c1_0, c1_1, c1_2] => prI g .i64 c1_0 fun a1_0 => prI g .i64 c1_1 fun a1_1 => prI g .i64 c1_2 fun a1_2 => 
    gb g (network_Index n a0_0 a0_1 a0_2 a1_0 a1_1 a1_2 some) 0 fun r => k ⟨.d (D.int .i64 r), [], []⟩
    | _ => none)
    | _ => none)
  | _ => none
theorem network_Index_ok (n : Nat) : EntryOK Try.prog 20 (network_Index_e n) := by
  intro R site g avs hl k r h
  unfold network_Index_e at h
  split at h
  rotate_left
  · cases h
  replace h := prG_some h
  obtain ⟨l0, h, e0⟩ := h
  subst e0
  split at h
  rotate_left
  · cases h
  replace h := prI_some h
  obtain ⟨a0_0, h, le0⟩ := h
  replace h := prS_some h
  obtain ⟨a0_1, h, le1⟩ := h
  replace h := prS_some h
  obtain ⟨a0_2, h, le2⟩ := h
  replace h := prG_some h
  obtain ⟨l1, h, e1⟩ := h
  subst e1
  split at h
  rotate_left
  · cases h
  replace h := prI_some h
  obtain ⟨a1_0, h, le3⟩ := h
  replace h := prI_some h
  obtain ⟨a1_1, h, le4⟩ := h
  replace h := prI_some h
  obtain ⟨a1_2, h, le5⟩ := h
  replace h := gb_some h
  obtain ⟨res, h, hr⟩ := h
  refine ⟨_, h, fun hg => CallOK.conv (avs' := [.ag [.d (D.int .i64 a0_0), .d (D.sl 3 a0_1), .d (D.sl 6 a0_2)], .ag [.d (D.int .i64 a1_0), .d (D.int .i64 a1_1), .d (D.int .i64 a1_2)]]) (.cons (.ag (.cons (le0 hg) (.cons (le1 hg) (.cons (le2 hg) (.nil))))) (.cons (.ag (.cons (le3 hg) (.cons (le4 hg) (.cons (le5 hg) (.nil))))) (.nil))) (callOK_fix (K := network_Index_K) (res := res) (network_Index_VC n) (fn := Try.f20) (n := n) (by kernel_rfl) (by kernel_rfl) (by kernel_rfl) (ss := [[0]]) rfl ?_ ?_)⟩
  · exact (network_Index_vfn n a0_0 a0_1 a0_2 a1_0 a1_1 a1_2 network_Index_K).trans (hr hg)
  · intro x hx
    unfold network_Index_K at hx
    split at hx
    · injection hx with hx; subst hx; rfl
    · cases hx
end Go.Vx
/-
  ref11_Index: the interpreter computes the pure function
-/
set_option linter.unusedVariables false
set_option linter.unusedSimpArgs false
set_option maxRecDepth 100000
namespace Go.Vx
open Go.Proofs
noncomputable def ref11_Index_c0 : Code := bodyOf Try.f35
noncomputable def ref11_Index_c1 : Code := cL (bodyOf Try.f35)
noncomputable def ref11_Index_c2 : Code := cL (cL (cR (bodyOf Try.f35)))
noncomputable def ref11_Index_c3 : Code := cB (cB (cR (cL (cR (bodyOf Try.f35)))))
noncomputable def ref11_Index_c4 : Code := cB (cR (cL (cR (bodyOf Try.f35))))
noncomputable def ref11_Index_c5 : Code := cR (cL (cR (bodyOf Try.f35)))
noncomputable def ref11_Index_c6 : Code := cL (cR (bodyOf Try.f35))
noncomputable def ref11_Index_c7 : Code := cR (cR (bodyOf Try.f35))
noncomputable def ref11_Index_c8 : Code := cR (bodyOf Try.f35)
theorem ref11_Index_c4_eq : ref11_Index_c4 = .loop ref11_Index_c3 := by kernel_rfl
theorem ref11_Index_c5_eq : ref11_Index_c5 = .block 0 ref11_Index_c4 := by kernel_rfl
theorem ref11_Index_c6_eq : ref11_Index_c6 = .seq ref11_Index_c2 ref11_Index_c5 := by kernel_rfl
theorem ref11_Index_c8_eq : ref11_Index_c8 = .seq ref11_Index_c6 ref11_Index_c7 := by kernel_rfl
theorem ref11_Index_c0_eq : ref11_Index_c0 = .seq ref11_Index_c1 ref11_Index_c8 := by kernel_rfl
def ref11_Index_tt : TT := [(3, ⟨.int .i64, 1, 8, [.int .i64 0], [.int .i64 0], [], none⟩), (23, ⟨.sl 46 3, 1, 24, [.slice none 0 0], [.sl 3 []], [], none⟩), (26, ⟨.struct, 3, 56, [.int .i64 0, .slice none 0 0, .slice none 0 0], [.int .i64 0, .sl 3 [], .sl 6 []], [(0, 3), (1, 23), (2, 24)], none⟩), (46, ⟨.struct, 3, 24, [.int .i64 0, .int .i64 0, .int .i64 0], [.int .i64 0, .int .i64 0, .int .i64 0], [(0, 3), (1, 3), (2, 3)], some [.int .i64, .int .i64, .int .i64]⟩)]
theorem ref11_Index_tt_eq : mkTT Try.prog [3, 23, 26, 46] = ref11_Index_tt := by kernel_rfl
def ref11_Index_cfg : List (Nat × Cfg) := [(0, ⟨[2, 3], [(2, 2), (3, 3)], [], [], []⟩), (1, ⟨[2, 3, 5], [(2, 2), (3, 3)], [], [], []⟩), (2, ⟨[2, 3, 5, 10], [(2, 2), (3, 3)], [], [], []⟩), (3, ⟨[2, 3, 5], [(2, 2), (3, 3)], [], [], []⟩), (4, ⟨[2, 3, 5, 19], [(2, 2), (3, 3)], [], [], []⟩), (5, ⟨[4], [], [], [], []⟩), (6, ⟨[4], [], [], [], []⟩)]
def ref11_Index_C (n : Nat) : VC := ⟨specOf [], ref11_Index_tt, ref11_Index_cfg⟩
theorem ref11_Index_ents (n : Nat) : EntsOK Try.prog [] := trivial
theorem ref11_Index_VC (n : Nat) : VCOk Try.prog (ref11_Index_C n) := ⟨specOf_ok (ref11_Index_ents n), (ref11_Index_tt_eq ▸ mkTT_ok _ : TOk Try.prog ref11_Index_tt), by kernel_rfl⟩
theorem ref11_Index_p1_congr {R : Type} (n : Nat) (a0_0 : Int) (a0_1 : List (List D)) (a0_2 : List (List D)) (a1_0 : Int) (a1_1 : Int) (a1_2 : Int) {k0 kk0 : Option R} (hq0 : k0 = kk0) : ref11_Index_p1 n a0_0 a0_1 a0_2 a1_0 a1_1 a1_2 k0 = ref11_Index_p1 n a0_0 a0_1 a0_2 a1_0 a1_1 a1_2 kk0 := by
  obtain rfl : k0 = kk0 := hq0
  rfl
theorem ref11_Index_p2_congr {R : Type} (n : Nat) (a0_0 : Int) (a0_1 : List (List D)) (a0_2 : List (List D)) (a1_0 : Int) (a1_1 : Int) (a1_2 : Int) {k0 kk0 : Option R} (hq0 : k0 = kk0) : ref11_Index_p2 n a0_0 a0_1 a0_2 a1_0 a1_1 a1_2 k0 = ref11_Index_p2 n a0_0 a0_1 a0_2 a1_0 a1_1 a1_2 kk0 := by
  obtain rfl : k0 = kk0 := hq0
  rfl
theorem ref11_Index_p3_congr {R : Type} (n : Nat) (h1 : Int) (a0_0 : Int) (a0_1 : List (List D)) (a0_2 : List (List D)) (a1_0 : Int) (a1_1 : Int) (a1_2 : Int) {k0 kk0 : Option R} {k1 kk1 : Int → Option R} {k2 kk2 : Bool → Option R} (hq0 : k0 = kk0) (hq1 : ∀ x0, k1 x0 = kk1 x0) (hq2 : ∀ x0, k2 x0 = kk2 x0) : ref11_Index_p3 n h1 a0_0 a0_1 a0_2 a1_0 a1_1 a1_2 k0 k1 k2 = ref11_Index_p3 n h1 a0_0 a0_1 a0_2 a1_0 a1_1 a1_2 kk0 kk1 kk2 := by
  obtain rfl : k0 = kk0 := hq0
  obtain rfl : k1 = kk1 := funext fun x0 => hq1 x0
  obtain rfl : k2 = kk2 := funext fun x0 => hq2 x0
  rfl
theorem ref11_Index_p4_congr {R : Type} (n : Nat) (a0_0 : Int) (a0_1 : List (List D)) (a0_2 : List (List D)) (a1_0 : Int) (a1_1 : Int) (a1_2 : Int) {k0 kk0 : Int → Option R} {k1 kk1 : Int → Bool → Option R} (hq0 : ∀ x0, k0 x0 = kk0 x0) (hq1 : ∀ x0 x1, k1 x0 x1 = kk1 x0 x1) : ref11_Index_p4 n a0_0 a0_1 a0_2 a1_0 a1_1 a1_2 k0 k1 = ref11_Index_p4 n a0_0 a0_1 a0_2 a1_0 a1_1 a1_2 kk0 kk1 := by
  obtain rfl : k0 = kk0 := funext fun x0 => hq0 x0
  obtain rfl : k1 = kk1 := funext fun x0 => funext fun x1 => hq1 x0 x1
  rfl
theorem ref11_Index_p5_congr {R : Type} (n : Nat) (a0_0 : Int) (a0_1 : List (List D)) (a0_2 : List (List D)) (a1_0 : Int) (a1_1 : Int) (a1_2 : Int) {k0 kk0 : Int → Option R} {k1 kk1 : Int → Bool → Option R} (hq0 : ∀ x0, k0 x0 = kk0 x0) (hq1 : ∀ x0 x1, k1 x0 x1 = kk1 x0 x1) : ref11_Index_p5 n a0_0 a0_1 a0_2 a1_0 a1_1 a1_2 k0 k1 = ref11_Index_p5 n a0_0 a0_1 a0_2 a1_0 a1_1 a1_2 kk0 kk1 := by
  obtain rfl : k0 = kk0 := funext fun x0 => hq0 x0
  obtain rfl : k1 = kk1 := funext fun x0 => funext fun x1 => hq1 x0 x1
  rfl
theorem ref11_Index_p6_congr {R : Type} (n : Nat) (a0_0 : Int) (a0_1 : List (List D)) (a0_2 : List (List D)) (a1_0 : Int) (a1_1 : Int) (a1_2 : Int) {k0 kk0 : Int → Option R} {k1 kk1 : Int → Bool → Option R} (hq0 : ∀ x0, k0 x0 = kk0 x0) (hq1 : ∀ x0 x1, k1 x0 x1 = kk1 x0 x1) : ref11_Index_p6 n a0_0 a0_1 a0_2 a1_0 a1_1 a1_2 k0 k1 = ref11_Index_p6 n a0_0 a0_1 a0_2 a1_0 a1_1 a1_2 kk0 kk1 := by
  obtain rfl : k0 = kk0 := funext fun x0 => hq0 x0
  obtain rfl : k1 = kk1 := funext fun x0 => funext fun x1 => hq1 x0 x1
  rfl
theorem ref11_Index_p7_congr {R : Type} (n : Nat) (w35 : Int) (w36 : Bool) (a0_0 : Int) (a0_1 : List (List D)) (a0_2 : List (List D)) (a1_0 : Int) (a1_1 : Int) (a1_2 : Int) {k0 kk0 : Option R} (hq0 : k0 = kk0) : ref11_Index_p7 n w35 w36 a0_0 a0_1 a0_2 a1_0 a1_1 a1_2 k0 = ref11_Index_p7 n w35 w36 a0_0 a0_1 a0_2 a1_0 a1_1 a1_2 kk0 := by
  obtain rfl : k0 = kk0 := hq0
  rfl
theorem ref11_Index_p8_congr {R : Type} (n : Nat) (a0_0 : Int) (a0_1 : List (List D)) (a0_2 : List (List D)) (a1_0 : Int) (a1_1 : Int) (a1_2 : Int) {k0 kk0 : Int → Option R} (hq0 : ∀ x0, k0 x0 = kk0 x0) : ref11_Index_p8 n a0_0 a0_1 a0_2 a1_0 a1_1 a1_2 k0 = ref11_Index_p8 n a0_0 a0_1 a0_2 a1_0 a1_1 a1_2 kk0 := by
  obtain rfl : k0 = kk0 := funext fun x0 => hq0 x0
  rfl
theorem ref11_Index_p9_congr {R : Type} (n : Nat) (a0_0 : Int) (a0_1 : List (List D)) (a0_2 : List (List D)) (a1_0 : Int) (a1_1 : Int) (a1_2 : Int) {k0 kk0 : Int → Option R} (hq0 : ∀ x0, k0 x0 = kk0 x0) : ref11_Index_p9 n a0_0 a0_1 a0_2 a1_0 a1_1 a1_2 k0 = ref11_Index_p9 n a0_0 a0_1 a0_2 a1_0 a1_1 a1_2 kk0 := by
  obtain rfl : k0 = kk0 := funext fun x0 => hq0 x0
  rfl
theorem ref11_Index_p1_eq {R : Type} (n : Nat) (a0_0 : Int) (a0_1 : List (List D)) (a0_2 : List (List D)) (a1_0 : Int) (a1_1 : Int) (a1_2 : Int) (k : Exit → St → Option R) : vexec (ref11_Index_C n) n ref11_Index_c1 ⟨21, [(0, .ag [.d (D.int .i64 a0_0), .d (D.sl 3 a0_1), .d (D.sl 6 a0_2)]), (1, .ag [.d (D.int .i64 a1_0), .d (D.int .i64 a1_1), .d (D.int .i64 a1_2)])], []⟩ k = ref11_Index_p1 n a0_0 a0_1 a0_2 a1_0 a1_1 a1_2 (k .normal ⟨21, [(2, .ptr 2 0), (3, .ptr 3 0)], [(2, .box [.d (D.int .i64 a0_0), .d (D.sl 3 a0_1), .d (D.sl 6 a0_2)]), (3, .box [.d (D.int .i64 a1_0), .d (D.int .i64 a1_1), .d (D.int .i64 a1_2)])]⟩) := by kernel_rfl
theorem ref11_Index_p2_eq {R : Type} (n : Nat) (a0_0 : Int) (a0_1 : List (List D)) (a0_2 : List (List D)) (a1_0 : Int) (a1_1 : Int) (a1_2 : Int) (k : Exit → St → Option R) : vexec (ref11_Index_C n) n ref11_Index_c2 ⟨21, [(2, .ptr 2 0), (3, .ptr 3 0)], [(2, .box [.d (D.int .i64 a0_0), .d (D.sl 3 a0_1), .d (D.sl 6 a0_2)]), (3, .box [.d (D.int .i64 a1_0), .d (D.int .i64 a1_1), .d (D.int .i64 a1_2)])]⟩ k = ref11_Index_p2 n a0_0 a0_1 a0_2 a1_0 a1_1 a1_2 (k .normal ⟨21, [(2, .ptr 2 0), (3, .ptr 3 0), (5, .d (D.int .i64 (0 : Int)))], [(2, .box [.d (D.int .i64 a0_0), .d (D.sl 3 a0_1), .d (D.sl 6 a0_2)]), (3, .box [.d (D.int .i64 a1_0), .d (D.int .i64 a1_1), .d (D.int .i64 a1_2)])]⟩) := by kernel_rfl
theorem ref11_Index_p3_eq {R : Type} (n : Nat) (h1 : Int) (a0_0 : Int) (a0_1 : List (List D)) (a0_2 : List (List D)) (a1_0 : Int) (a1_1 : Int) (a1_2 : Int) (k : Exit → St → Option R) : vexec (ref11_Index_C n) n ref11_Index_c3 ⟨21, [(2, .ptr 2 0), (3, .ptr 3 0), (5, .d (D.int .i64 h1))], [(2, .box [.d (D.int .i64 a0_0), .d (D.sl 3 a0_1), .d (D.sl 6 a0_2)]), (3, .box [.d (D.int .i64 a1_0), .d (D.int .i64 a1_1), .d (D.int .i64 a1_2)])]⟩ k = ref11_Index_p3 n h1 a0_0 a0_1 a0_2 a1_0 a1_1 a1_2 (k .ret ⟨21, [(4, .d (D.int .i64 h1))], []⟩) (fun z24 => k .normal ⟨21, [(2, .ptr 2 0), (3, .ptr 3 0), (5, .d (D.int .i64 z24))], [(2, .box [.d (D.int .i64 a0_0), .d (D.sl 3 a0_1), .d (D.sl 6 a0_2)]), (3, .box [.d (D.int .i64 a1_0), .d (D.int .i64 a1_1), .d (D.int .i64 a1_2)])]⟩) (fun z25 => k (.exit 0) ⟨21, [(2, .ptr 2 0), (3, .ptr 3 0), (5, .d (D.int .i64 h1)), (10, .d (D.bool z25))], [(2, .box [.d (D.int .i64 a0_0), .d (D.sl 3 a0_1), .d (D.sl 6 a0_2)]), (3, .box [.d (D.int .i64 a1_0), .d (D.int .i64 a1_1), .d (D.int .i64 a1_2)])]⟩) := by kernel_rfl
theorem ref11_Index_r4_eq {R : Type} (n : Nat) (a0_0 : Int) (a0_1 : List (List D)) (a0_2 : List (List D)) (a1_0 : Int) (a1_1 : Int) (a1_2 : Int) (k : Exit → St → Option R) : ∀ (m : Nat) (h1 : Int), loopN (vexec (ref11_Index_C n) n ref11_Index_c3) m ⟨21, [(2, .ptr 2 0), (3, .ptr 3 0), (5, .d (D.int .i64 h1))], [(2, .box [.d (D.int .i64 a0_0), .d (D.sl 3 a0_1), .d (D.sl 6 a0_2)]), (3, .box [.d (D.int .i64 a1_0), .d (D.int .i64 a1_1), .d (D.int .i64 a1_2)])]⟩ k = ref11_Index_r4 n a0_0 a0_1 a0_2 a1_0 a1_1 a1_2 (fun h1 => k .ret ⟨21, [(4, .d (D.int .i64 h1))], []⟩) (fun h1 w27 => k (.exit 0) ⟨21, [(2, .ptr 2 0), (3, .ptr 3 0), (5, .d (D.int .i64 h1)), (10, .d (D.bool w27))], [(2, .box [.d (D.int .i64 a0_0), .d (D.sl 3 a0_1), .d (D.sl 6 a0_2)]), (3, .box [.d (D.int .i64 a1_0), .d (D.int .i64 a1_1), .d (D.int .i64 a1_2)])]⟩) m h1
  | 0, _ => rfl
  | m + 1, h1 => (ref11_Index_p3_eq n h1 a0_0 a0_1 a0_2 a1_0 a1_1 a1_2 (loopK (vexec (ref11_Index_C n) n ref11_Index_c3) m k)).trans (ref11_Index_p3_congr n h1 a0_0 a0_1 a0_2 a1_0 a1_1 a1_2 (rfl) (fun w26 => ref11_Index_r4_eq n a0_0 a0_1 a0_2 a1_0 a1_1 a1_2 k m w26) (fun w27 => rfl))
theorem ref11_Index_p4_eq {R : Type} (n : Nat) (a0_0 : Int) (a0_1 : List (List D)) (a0_2 : List (List D)) (a1_0 : Int) (a1_1 : Int) (a1_2 : Int) (k : Exit → St → Option R) : vexec (ref11_Index_C n) n ref11_Index_c4 ⟨21, [(2, .ptr 2 0), (3, .ptr 3 0), (5, .d (D.int .i64 (0 : Int)))], [(2, .box [.d (D.int .i64 a0_0), .d (D.sl 3 a0_1), .d (D.sl 6 a0_2)]), (3, .box [.d (D.int .i64 a1_0), .d (D.int .i64 a1_1), .d (D.int .i64 a1_2)])]⟩ k = ref11_Index_p4 n a0_0 a0_1 a0_2 a1_0 a1_1 a1_2 (fun h1 => k .ret ⟨21, [(4, .d (D.int .i64 h1))], []⟩) (fun h1 w27 => k (.exit 0) ⟨21, [(2, .ptr 2 0), (3, .ptr 3 0), (5, .d (D.int .i64 h1)), (10, .d (D.bool w27))], [(2, .box [.d (D.int .i64 a0_0), .d (D.sl 3 a0_1), .d (D.sl 6 a0_2)]), (3, .box [.d (D.int .i64 a1_0), .d (D.int .i64 a1_1), .d (D.int .i64 a1_2)])]⟩) := by
  rw [ref11_Index_c4_eq]
  exact ref11_Index_r4_eq n a0_0 a0_1 a0_2 a1_0 a1_1 a1_2 k n (0 : Int)
theorem ref11_Index_p5_eq {R : Type} (n : Nat) (a0_0 : Int) (a0_1 : List (List D)) (a0_2 : List (List D)) (a1_0 : Int) (a1_1 : Int) (a1_2 : Int) (k : Exit → St → Option R) : vexec (ref11_Index_C n) n ref11_Index_c5 ⟨21, [(2, .ptr 2 0), (3, .ptr 3 0), (5, .d (D.int .i64 (0 : Int)))], [(2, .box [.d (D.int .i64 a0_0), .d (D.sl 3 a0_1), .d (D.sl 6 a0_2)]), (3, .box [.d (D.int .i64 a1_0), .d (D.int .i64 a1_1), .d (D.int .i64 a1_2)])]⟩ k = ref11_Index_p5 n a0_0 a0_1 a0_2 a1_0 a1_1 a1_2 (fun w28 => k .ret ⟨21, [(4, .d (D.int .i64 w28))], []⟩) (fun w29 w30 => k .normal ⟨21, [(2, .ptr 2 0), (3, .ptr 3 0), (5, .d (D.int .i64 w29)), (10, .d (D.bool w30))], [(2, .box [.d (D.int .i64 a0_0), .d (D.sl 3 a0_1), .d (D.sl 6 a0_2)]), (3, .box [.d (D.int .i64 a1_0), .d (D.int .i64 a1_1), .d (D.int .i64 a1_2)])]⟩) := by
  rw [ref11_Index_c5_eq]
  unfold ref11_Index_p5
  exact (ref11_Index_p4_eq n a0_0 a0_1 a0_2 a1_0 a1_1 a1_2 (blockK 0 k)).trans (ref11_Index_p4_congr n a0_0 a0_1 a0_2 a1_0 a1_1 a1_2 (fun w28 => rfl) (fun w29 w30 => rfl))
theorem ref11_Index_p6_eq {R : Type} (n : Nat) (a0_0 : Int) (a0_1 : List (List D)) (a0_2 : List (List D)) (a1_0 : Int) (a1_1 : Int) (a1_2 : Int) (k : Exit → St → Option R) : vexec (ref11_Index_C n) n ref11_Index_c6 ⟨21, [(2, .ptr 2 0), (3, .ptr 3 0)], [(2, .box [.d (D.int .i64 a0_0), .d (D.sl 3 a0_1), .d (D.sl 6 a0_2)]), (3, .box [.d (D.int .i64 a1_0), .d (D.int .i64 a1_1), .d (D.int .i64 a1_2)])]⟩ k = ref11_Index_p6 n a0_0 a0_1 a0_2 a1_0 a1_1 a1_2 (fun w31 => k .ret ⟨21, [(4, .d (D.int .i64 w31))], []⟩) (fun w32 w33 => k .normal ⟨21, [(2, .ptr 2 0), (3, .ptr 3 0), (5, .d (D.int .i64 w32)), (10, .d (D.bool w33))], [(2, .box [.d (D.int .i64 a0_0), .d (D.sl 3 a0_1), .d (D.sl 6 a0_2)]), (3, .box [.d (D.int .i64 a1_0), .d (D.int .i64 a1_1), .d (D.int .i64 a1_2)])]⟩) := by
  rw [ref11_Index_c6_eq]
  unfold ref11_Index_p6
  exact (ref11_Index_p2_eq n a0_0 a0_1 a0_2 a1_0 a1_1 a1_2 (seqK (ref11_Index_C n) n ref11_Index_c5 k)).trans (ref11_Index_p2_congr n a0_0 a0_1 a0_2 a1_0 a1_1 a1_2 (ref11_Index_p5_eq n a0_0 a0_1 a0_2 a1_0 a1_1 a1_2 k))
theorem ref11_Index_p7_eq {R : Type} (n : Nat) (w35 : Int) (w36 : Bool) (a0_0 : Int) (a0_1 : List (List D)) (a0_2 : List (List D)) (a1_0 : Int) (a1_1 : Int) (a1_2 : Int) (k : Exit → St → Option R) : vexec (ref11_Index_C n) n ref11_Index_c7 ⟨21, [(2, .ptr 2 0), (3, .ptr 3 0), (5, .d (D.int .i64 w35)), (10, .d (D.bool w36))], [(2, .box [.d (D.int .i64 a0_0), .d (D.sl 3 a0_1), .d (D.sl 6 a0_2)]), (3, .box [.d (D.int .i64 a1_0), .d (D.int .i64 a1_1), .d (D.int .i64 a1_2)])]⟩ k = ref11_Index_p7 n w35 w36 a0_0 a0_1 a0_2 a1_0 a1_1 a1_2 (k .ret ⟨21, [(4, .d (D.int .i64 (-1 : Int)))], []⟩) := by kernel_rfl
theorem ref11_Index_p8_eq {R : Type} (n : Nat) (a0_0 : Int) (a0_1 : List (List D)) (a0_2 : List (List D)) (a1_0 : Int) (a1_1 : Int) (a1_2 : Int) (k : Exit → St → Option R) : vexec (ref11_Index_C n) n ref11_Index_c8 ⟨21, [(2, .ptr 2 0), (3, .ptr 3 0)], [(2, .box [.d (D.int .i64 a0_0), .d (D.sl 3 a0_1), .d (D.sl 6 a0_2)]), (3, .box [.d (D.int .i64 a1_0), .d (D.int .i64 a1_1), .d (D.int .i64 a1_2)])]⟩ k = ref11_Index_p8 n a0_0 a0_1 a0_2 a1_0 a1_1 a1_2 (fun z37 => k .ret ⟨21, [(4, .d (D.int .i64 z37))], []⟩) := by
  rw [ref11_Index_c8_eq]
  unfold ref11_Index_p8
  exact (ref11_Index_p6_eq n a0_0 a0_1 a0_2 a1_0 a1_1 a1_2 (seqK (ref11_Index_C n) n ref11_Index_c7 k)).trans (ref11_Index_p6_congr n a0_0 a0_1 a0_2 a1_0 a1_1 a1_2 (fun w34 => rfl) (fun w35 w36 => ref11_Index_p7_eq n w35 w36 a0_0 a0_1 a0_2 a1_0 a1_1 a1_2 k))
theorem ref11_Index_p9_eq {R : Type} (n : Nat) (a0_0 : Int) (a0_1 : List (List D)) (a0_2 : List (List D)) (a1_0 : Int) (a1_1 : Int) (a1_2 : Int) (k : Exit → St → Option R) : vexec (ref11_Index_C n) n ref11_Index_c0 ⟨21, [(0, .ag [.d (D.int .i64 a0_0), .d (D.sl 3 a0_1), .d (D.sl 6 a0_2)]), (1, .ag [.d (D.int .i64 a1_0), .d (D.int .i64 a1_1), .d (D.int .i64 a1_2)])], []⟩ k = ref11_Index_p9 n a0_0 a0_1 a0_2 a1_0 a1_1 a1_2 (fun w38 => k .ret ⟨21, [(4, .d (D.int .i64 w38))], []⟩) := by
  rw [ref11_Index_c0_eq]
  unfold ref11_Index_p9
  exact (ref11_Index_p1_eq n a0_0 a0_1 a0_2 a1_0 a1_1 a1_2 (seqK (ref11_Index_C n) n ref11_Index_c8 k)).trans (ref11_Index_p1_congr n a0_0 a0_1 a0_2 a1_0 a1_1 a1_2 (ref11_Index_p8_eq n a0_0 a0_1 a0_2 a1_0 a1_1 a1_2 k))
theorem ref11_Index_vfn {R : Type} (n : Nat) (a0_0 : Int) (a0_1 : List (List D)) (a0_2 : List (List D)) (a1_0 : Int) (a1_1 : Int) (a1_2 : Int) (K : AV → Option R) : vfn (ref11_Index_C n) n Try.f35 [.ag [.d (D.int .i64 a0_0), .d (D.sl 3 a0_1), .d (D.sl 6 a0_2)], .ag [.d (D.int .i64 a1_0), .d (D.int .i64 a1_1), .d (D.int .i64 a1_2)]] [] (retF [[0]] K) = ref11_Index n a0_0 a0_1 a0_2 a1_0 a1_1 a1_2 (fun r0 => K (.d (D.int .i64 r0))) :=
  (show vfn (ref11_Index_C n) n Try.f35 [.ag [.d (D.int .i64 a0_0), .d (D.sl 3 a0_1), .d (D.sl 6 a0_2)], .ag [.d (D.int .i64 a1_0), .d (D.int .i64 a1_1), .d (D.int .i64 a1_2)]] [] (retF [[0]] K) = vexec (ref11_Index_C n) n ref11_Index_c0 ⟨21, [(0, .ag [.d (D.int .i64 a0_0), .d (D.sl 3 a0_1), .d (D.sl 6 a0_2)]), (1, .ag [.d (D.int .i64 a1_0), .d (D.int .i64 a1_1), .d (D.int .i64 a1_2)])], []⟩ (retX ref11_Index_tt [.tmp 4] (retF [[0]] K)) from vfn_at (by kernel_rfl) (by kernel_rfl) rfl (by kernel_rfl) rfl (by kernel_rfl) rfl).trans ((ref11_Index_p9_eq n a0_0 a0_1 a0_2 a1_0 a1_1 a1_2 (retX ref11_Index_tt [.tmp 4] (retF [[0]] K))).trans (by kernel_rfl))
def ref11_Index_K : AV → Option (Int) := fun av => match av with
  | .d (D.int .i64 r0) => some r0
  | _ => none
def ref11_Index_e (n : Nat) : Entry := fun _ _ g avs _ k => match avs with
  | [c0, c1] => 
    prG c0 fun l0 => (match l0 with
    | [c0_0, c0_1, c0_2] => prI g .i64 c0_0 fun a0_0 => prS g 3 c0_1 fun a0_1 => prS g 6 c0_2 fun a0_2 => 
    prG c1 fun l1 => (match l1 with
    | [c1_0, c1_1, c1_2] => prI g .i64 c1_0 fun a1_0 => prI g .i64 c1_1 fun a1_1 => prI g .i64 c1_2 fun a1_2 => 
    gb g (ref11_Index n a0_0 a0_1 a0_2 a1_0 a1_1 a1_2 some) 0 fun r => k ⟨.d (D.int .i64 r), [], []⟩
    | _ => none)
    | _ => none)
  | _ => none
theorem ref11_Index_ok (n : Nat) : EntryOK Try.prog 35 (ref11_Index_e n) := by
  intro R site g avs hl k r h
  unfold ref11_Index_e at h
  split at h
  rotate_left
  · cases h
  replace h := prG_some h
  obtain ⟨l0, h, e0⟩ := h
  subst e0
  split at h
  rotate_left
  · cases h
  replace h := prI_some h
  obtain ⟨a0_0, h, le0⟩ := h
  replace h := prS_some h
  obtain ⟨a0_1, h, le1⟩ := h
  replace h := prS_some h
  obtain ⟨a0_2, h, le2⟩ := h
  replace h := prG_some h
  obtain ⟨l1, h, e1⟩ := h
  subst e1
  split at h
  rotate_left
  · cases h
  replace h := prI_some h
  obtain ⟨a1_0, h, le3⟩ := h
  replace h := prI_some h
  obtain ⟨a1_1, h, le4⟩ := h
  replace h := prI_some h
  obtain ⟨a1_2, h, le5⟩ := h
  replace h := gb_some h
  obtain ⟨res, h, hr⟩ := h
  refine ⟨_, h, fun hg => CallOK.conv (avs' := [.ag [.d (D.int .i64 a0_0), .d (D.sl 3 a0_1), .d (D.sl 6 a0_2)], .ag [.d (D.int .i64 a1_0), .d (D.int .i64 a1_1), .d (D.int .i64 a1_2)]]) (.cons (.ag (.cons (le0 hg) (.cons (le1 hg) (.cons (le2 hg) (.nil))))) (.cons (.ag (.cons (le3 hg) (.cons (le4 hg) (.cons (le5 hg) (.nil))))) (.nil))) (callOK_fix (K := ref11_Index_K) (res := res) (ref11_Index_VC n) (fn := Try.f35) (n := n) (by kernel_rfl) (by kernel_rfl) (by kernel_rfl) (ss := [[0]]) rfl ?_ ?_)⟩
  · exact (ref11_Index_vfn n a0_0 a0_1 a0_2 a1_0 a1_1 a1_2 ref11_Index_K).trans (hr hg)
  · intro x hx
    unfold ref11_Index_K at hx
    split at hx
    · injection hx with hx; subst hx; rfl
    · cases hx
end Go.Vx
