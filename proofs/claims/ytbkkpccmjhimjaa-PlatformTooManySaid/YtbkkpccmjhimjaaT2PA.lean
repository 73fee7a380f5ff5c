/- Part of a proof: texts Vpkeep Pick Vpkeep From Vpkeep Source Next Vplaw20 visits Vpref1 Mod Vpplatform Valid Vparith Mod Vpplatform overlap Vpplatform fits Vprailplan platform Assign 1 s1 Vpplatform Assi. No conditions of their own. -/
import Derived.Test.YtbkkpccmjhimjaaProg
import Derived.Test.YtbkkpccmjhimjaaT2VC
import Derived.Test.YtbkkpccmjhimjaaT2FA
/-
  keep_Pick: the interpreter computes the pure function
-/
set_option linter.unusedVariables false
set_option linter.unusedSimpArgs false
set_option maxRecDepth 100000
namespace Go.Vx
open Go.Proofs
noncomputable def keep_Pick_c0 : Code := bodyOf Try.f10
def keep_Pick_tt : TT := [(3, ⟨.int .i64, 1, 8, [.int .i64 0], [.int .i64 0], [], none⟩), (49, ⟨.int .u64, 1, 8, [.int .u64 0], [.int .u64 0], [], none⟩)]
theorem keep_Pick_tt_eq : mkTT Try.prog [3, 49] = keep_Pick_tt := by kernel_rfl
def keep_Pick_cfg : List (Nat × Cfg) := [(0, ⟨[0, 1], [], [], [], []⟩), (1, ⟨[4], [], [], [], []⟩)]
def keep_Pick_C (n : Nat) : VC := ⟨specOf [], keep_Pick_tt, keep_Pick_cfg⟩
theorem keep_Pick_ents (n : Nat) : EntsOK Try.prog [] := trivial
theorem keep_Pick_VC (n : Nat) : VCOk Try.prog (keep_Pick_C n) := ⟨specOf_ok (keep_Pick_ents n), (keep_Pick_tt_eq ▸ mkTT_ok _ : TOk Try.prog keep_Pick_tt), by kernel_rfl⟩
theorem keep_Pick_p1_congr {R : Type} (n : Nat) (a0 : Int) (a1 : Int) {k0 kk0 : Int → Option R} (hq0 : ∀ x0, k0 x0 = kk0 x0) : keep_Pick_p1 n a0 a1 k0 = keep_Pick_p1 n a0 a1 kk0 := by
  obtain rfl : k0 = kk0 := funext fun x0 => hq0 x0
  rfl
theorem keep_Pick_p1_eq {R : Type} (n : Nat) (a0 : Int) (a1 : Int) (k : Exit → St → Option R) : vexec (keep_Pick_C n) n keep_Pick_c0 ⟨11, [(0, .d (D.int .i64 a0)), (1, .d (D.int .i64 a1))], []⟩ k = keep_Pick_p1 n a0 a1 (fun z2 => k .ret ⟨11, [(4, .d (D.int .i64 z2))], []⟩) := by kernel_rfl
theorem keep_Pick_vfn {R : Type} (n : Nat) (a0 : Int) (a1 : Int) (K : AV → Option R) : vfn (keep_Pick_C n) n Try.f10 [.d (D.int .i64 a0), .d (D.int .i64 a1)] [] (retF [[0]] K) = keep_Pick n a0 a1 (fun r0 => K (.d (D.int .i64 r0))) :=
  (show vfn (keep_Pick_C n) n Try.f10 [.d (D.int .i64 a0), .d (D.int .i64 a1)] [] (retF [[0]] K) = vexec (keep_Pick_C n) n keep_Pick_c0 ⟨11, [(0, .d (D.int .i64 a0)), (1, .d (D.int .i64 a1))], []⟩ (retX keep_Pick_tt [.tmp 4] (retF [[0]] K)) from vfn_at (by kernel_rfl) (by kernel_rfl) rfl (by kernel_rfl) rfl (by kernel_rfl) rfl).trans ((keep_Pick_p1_eq n a0 a1 (retX keep_Pick_tt [.tmp 4] (retF [[0]] K))).trans (by kernel_rfl))
def keep_Pick_K : AV → Option (Int) := fun av => match av with
  | .d (D.int .i64 r0) => some r0
  | _ => none
def keep_Pick_e (n : Nat) : Entry := fun _ _ g avs _ k => match avs with
  | [c0, c1] => prI g .i64 c0 fun a0 => prI g .i64 c1 fun a1 => 
    gb g (keep_Pick n a0 a1 some) 0 fun r => k ⟨.d (D.int .i64 r), [], []⟩
  | _ => none
theorem keep_Pick_ok (n : Nat) : EntryOK Try.prog 10 (keep_Pick_e n) := by
  intro R site g avs hl k r h
  unfold keep_Pick_e at h
  split at h
  rotate_left
  · cases h
  replace h := prI_some h
  obtain ⟨a0, h, le0⟩ := h
  replace h := prI_some h
  obtain ⟨a1, h, le1⟩ := h
  replace h := gb_some h
  obtain ⟨res, h, hr⟩ := h
  refine ⟨_, h, fun hg => CallOK.conv (avs' := [.d (D.int .i64 a0), .d (D.int .i64 a1)]) (.cons (le0 hg) (.cons (le1 hg) (.nil))) (callOK_fix (K := keep_Pick_K) (res := res) (keep_Pick_VC n) (fn := Try.f10) (n := n) (by kernel_rfl) (by kernel_rfl) (by kernel_rfl) (ss := [[0]]) rfl ?_ ?_)⟩
  · exact (keep_Pick_vfn n a0 a1 keep_Pick_K).trans (hr hg)
  · intro x hx
    unfold keep_Pick_K at hx
    split at hx
    · injection hx with hx; subst hx; rfl
    · cases hx
end Go.Vx
/-
  keep_From: the interpreter computes the pure function
-/
set_option linter.unusedVariables false
set_option linter.unusedSimpArgs false
set_option maxRecDepth 100000
namespace Go.Vx
open Go.Proofs
noncomputable def keep_From_c0 : Code := bodyOf Try.f16
def keep_From_tt : TT := [(22, ⟨.sl 3 1, 1, 24, [.slice none 0 0], [.sl 1 []], [], none⟩), (54, ⟨.struct, 2, 32, [.slice none 0 0, .int .i64 0], [.sl 1 [], .int .i64 0], [(0, 22), (1, 3)], none⟩)]
theorem keep_From_tt_eq : mkTT Try.prog [22, 54] = keep_From_tt := by kernel_rfl
def keep_From_cfg : List (Nat × Cfg) := [(0, ⟨[0], [], [], [], []⟩), (1, ⟨[2], [(5, 5)], [], [], []⟩)]
def keep_From_C (n : Nat) : VC := ⟨specOf [], keep_From_tt, keep_From_cfg⟩
theorem keep_From_ents (n : Nat) : EntsOK Try.prog [] := trivial
theorem keep_From_VC (n : Nat) : VCOk Try.prog (keep_From_C n) := ⟨specOf_ok (keep_From_ents n), (keep_From_tt_eq ▸ mkTT_ok _ : TOk Try.prog keep_From_tt), by kernel_rfl⟩
theorem keep_From_p1_congr {R : Type} (n : Nat) (a0 : List (List D)) {k0 kk0 : Option R} (hq0 : k0 = kk0) : keep_From_p1 n a0 k0 = keep_From_p1 n a0 kk0 := by
  obtain rfl : k0 = kk0 := hq0
  rfl
theorem keep_From_p1_eq {R : Type} (n : Nat) (a0 : List (List D)) (k : Exit → St → Option R) : vexec (keep_From_C n) n keep_From_c0 ⟨6, [(0, .d (D.sl 1 a0))], []⟩ k = keep_From_p1 n a0 (k .ret ⟨6, [(2, .ptr 5 0)], [(5, .box [.d (D.sl 1 a0), .d (D.int .i64 (0 : Int))])]⟩) := by kernel_rfl
def keep_From_Ko : AV → List (Nat × Ob) → Option ((List (List D)) × Int) := fun av H => (look H 5).bind fun o0 => match av, o0 with
  | .ptr p0 p1, .box [.d (D.sl 1 r0), .d (D.int .i64 r1)] => bif Nat.beq p0 5 && (Nat.beq p1 0) then some (r0, r1) else none
  | _, _ => none
theorem keep_From_vfo (n : Nat) (a0 : List (List D)) : vfn (keep_From_C n) n Try.f16 [.d (D.sl 1 a0)] [] keep_From_Ko = keep_From n a0 (fun r0 r1 => some (r0, r1)) :=
  (show vfn (keep_From_C n) n Try.f16 [.d (D.sl 1 a0)] [] keep_From_Ko = vexec (keep_From_C n) n keep_From_c0 ⟨6, [(0, .d (D.sl 1 a0))], []⟩ (retX keep_From_tt [.tmp 2] keep_From_Ko) from vfn_at (by kernel_rfl) (by kernel_rfl) rfl (by kernel_rfl) rfl (by kernel_rfl) rfl).trans ((keep_From_p1_eq n a0 (retX keep_From_tt [.tmp 2] keep_From_Ko)).trans (by kernel_rfl))
def keep_From_o (n : Nat) : Entry := fun _ site g avs hl k => match avs with
  | [c0] => prS g 1 c0 fun a0 => 
    bif newsOk hl [] [(5, (site + 100000))] then gb g (keep_From n a0 (fun r0 r1 => some (r0, r1))) ([], 0) fun r => k ⟨.ptr (site + 100000) 0, [((site + 100000), some (.box [.d (D.sl 1 r.1), .d (D.int .i64 r.2)]))], []⟩ else none
  | _ => none
theorem keep_From_oo (n : Nat) : EntryOK Try.prog 16 (keep_From_o n) := by
  intro R site g avs hl k r h
  unfold keep_From_o at h
  split at h
  rotate_left
  · cases h
  replace h := prS_some h
  obtain ⟨a0, h, le0⟩ := h
  replace h := bif_some h
  obtain ⟨hc, h⟩ := h
  replace h := gb_some h
  obtain ⟨res, h, hr⟩ := h
  refine ⟨_, h, fun hg => CallOK.conv (avs' := [.d (D.sl 1 a0)]) (.cons (le0 hg) (.nil)) (callOK_own (K := keep_From_Ko) (res := res) (keep_From_VC n) (fn := Try.f16) (n := n) (by kernel_rfl) (by kernel_rfl) (by kernel_rfl) (ρ := []) (ν := [(5, (site + 100000))]) (avs' := [.d (D.sl 1 a0)]) (H := []) rfl rfl rfl rfl hc (trivial) rfl rfl ?_ ?_)⟩
  · exact (keep_From_vfo n a0).trans (hr hg)
  · intro av H' hx
    unfold keep_From_Ko at hx
    replace hx := Option.bind_eq_some_iff.1 hx
    obtain ⟨o0, ho0, hx⟩ := hx
    split at hx
    rotate_left
    · cases hx
    replace hx := bif_some hx
    obtain ⟨hck, hx⟩ := hx
    simp only [Bool.and_eq_true] at hck
    obtain ⟨ek0, ek1⟩ := hck
    have ek0 := Nat.eq_of_beq_eq_true ek0
    subst ek0
    have ek1 := Nat.eq_of_beq_eq_true ek1
    subst ek1
    injection hx with hx
    subst hx
    refine ⟨rfl, ?_, ⟨by rw [ho0]; rfl, trivial⟩, trivial⟩
    simp only [List.cons_append, List.nil_append, outWr, ho0, Option.map_some]
    rfl
end Go.Vx
/-
  keep_Source_Next: the interpreter computes the pure function
-/
set_option linter.unusedVariables false
set_option linter.unusedSimpArgs false
set_option maxRecDepth 100000
namespace Go.Vx
open Go.Proofs
noncomputable def keep_Source_Next_c0 : Code := bodyOf Try.f17
def keep_Source_Next_tt : TT := [(3, ⟨.int .i64, 1, 8, [.int .i64 0], [.int .i64 0], [], none⟩), (22, ⟨.sl 3 1, 1, 24, [.slice none 0 0], [.sl 1 []], [], none⟩), (54, ⟨.struct, 2, 32, [.slice none 0 0, .int .i64 0], [.sl 1 [], .int .i64 0], [(0, 22), (1, 3)], none⟩)]
theorem keep_Source_Next_tt_eq : mkTT Try.prog [3, 22, 54] = keep_Source_Next_tt := by kernel_rfl
def keep_Source_Next_cfg : List (Nat × Cfg) := [(0, ⟨[0, 1], [(1000000, 1000000)], [], [], []⟩), (1, ⟨[0, 1, 14], [(1000000, 1000000)], [], [], []⟩), (2, ⟨[4], [(1000000, 1000000)], [], [], []⟩), (3, ⟨[0, 1], [(1000000, 1000000)], [], [], []⟩), (4, ⟨[4], [(1000000, 1000000)], [], [], []⟩)]
def keep_Source_Next_C (n : Nat) : VC := ⟨specOf [(10, keep_Pick_e n)], keep_Source_Next_tt, keep_Source_Next_cfg⟩
theorem keep_Source_Next_ents (n : Nat) : EntsOK Try.prog [(10, keep_Pick_e n)] := ⟨keep_Pick_ok n, trivial⟩
theorem keep_Source_Next_VC (n : Nat) : VCOk Try.prog (keep_Source_Next_C n) := ⟨specOf_ok (keep_Source_Next_ents n), (keep_Source_Next_tt_eq ▸ mkTT_ok _ : TOk Try.prog keep_Source_Next_tt), by kernel_rfl⟩
theorem keep_Source_Next_p1_congr {R : Type} (n : Nat) (a1 : Int) (a0_0 : List (List D)) (a0_1 : Int) {k0 kk0 : Int → Int → Option R} (hq0 : ∀ x0 x1, k0 x0 x1 = kk0 x0 x1) : keep_Source_Next_p1 n a1 a0_0 a0_1 k0 = keep_Source_Next_p1 n a1 a0_0 a0_1 kk0 := by
  obtain rfl : k0 = kk0 := funext fun x0 => funext fun x1 => hq0 x0 x1
  rfl
theorem keep_Source_Next_p1_eq {R : Type} (n : Nat) (a1 : Int) (a0_0 : List (List D)) (a0_1 : Int) (k : Exit → St → Option R) : vexec (keep_Source_Next_C n) n keep_Source_Next_c0 ⟨35, [(0, .ptr 1000000 0), (1, .d (D.int .i64 a1))], [(1000000, .box [.d (D.sl 1 a0_0), .d (D.int .i64 a0_1)])]⟩ k = keep_Source_Next_p1 n a1 a0_0 a0_1 (fun z5 z6 => k .ret ⟨35, [(4, .d (D.int .i64 z5))], [(1000000, .box [.d (D.sl 1 a0_0), .d (D.int .i64 z6)])]⟩) := by kernel_rfl
def keep_Source_Next_Ko : AV → List (Nat × Ob) → Option (Int × (List (List D)) × Int) := fun av H => (look H 1000000).bind fun o0 => match av, o0 with
  | .d (D.int .i64 r0), .box [.d (D.sl 1 r1), .d (D.int .i64 r2)] => some (r0, r1, r2)
  | _, _ => none
theorem keep_Source_Next_vfo (n : Nat) (a0_0 : List (List D)) (a0_1 : Int) (a1 : Int) : vfn (keep_Source_Next_C n) n Try.f17 [.ptr 1000000 0, .d (D.int .i64 a1)] [(1000000, .box [.d (D.sl 1 a0_0), .d (D.int .i64 a0_1)])] keep_Source_Next_Ko = keep_Source_Next n a0_0 a0_1 a1 (fun r0 r1 r2 => some (r0, r1, r2)) :=
  (show vfn (keep_Source_Next_C n) n Try.f17 [.ptr 1000000 0, .d (D.int .i64 a1)] [(1000000, .box [.d (D.sl 1 a0_0), .d (D.int .i64 a0_1)])] keep_Source_Next_Ko = vexec (keep_Source_Next_C n) n keep_Source_Next_c0 ⟨35, [(0, .ptr 1000000 0), (1, .d (D.int .i64 a1))], [(1000000, .box [.d (D.sl 1 a0_0), .d (D.int .i64 a0_1)])]⟩ (retX keep_Source_Next_tt [.tmp 4] keep_Source_Next_Ko) from vfn_at (by kernel_rfl) (by kernel_rfl) rfl (by kernel_rfl) rfl (by kernel_rfl) rfl).trans ((keep_Source_Next_p1_eq n a1 a0_0 a0_1 (retX keep_Source_Next_tt [.tmp 4] keep_Source_Next_Ko)).trans (by kernel_rfl))
def keep_Source_Next_o (n : Nat) : Entry := fun _ site g avs hl k => match avs with
  | [c0, c1] => 
    prP hl c0 fun l0 b0 => (match b0 with
    | [c0_0, c0_1] => prS g 1 c0_0 fun a0_0 => prI g .i64 c0_1 fun a0_1 => prI g .i64 c1 fun a1 => 
    bif newsOk hl [(1000000, l0)] [] then gb g (keep_Source_Next n a0_0 a0_1 a1 (fun r0 r1 r2 => some (r0, r1, r2))) (0, [], 0) fun r => k ⟨.d (D.int .i64 r.1), [(l0, some (.box [.d (D.sl 1 r.2.1), .d (D.int .i64 r.2.2)]))], [l0]⟩ else none
    | _ => none)
  | _ => none
theorem keep_Source_Next_oo (n : Nat) : EntryOK Try.prog 17 (keep_Source_Next_o n) := by
  intro R site g avs hl k r h
  unfold keep_Source_Next_o at h
  split at h
  rotate_left
  · cases h
  replace h := prP_some h
  obtain ⟨l0, b0, h, e0, hb0⟩ := h
  subst e0
  split at h
  rotate_left
  · cases h
  replace h := prS_some h
  obtain ⟨a0_0, h, le0⟩ := h
  replace h := prI_some h
  obtain ⟨a0_1, h, le1⟩ := h
  replace h := prI_some h
  obtain ⟨a1, h, le2⟩ := h
  replace h := bif_some h
  obtain ⟨hc, h⟩ := h
  replace h := gb_some h
  obtain ⟨res, h, hr⟩ := h
  refine ⟨_, h, fun hg => CallOK.conv (avs' := [.ptr l0 0, .d (D.int .i64 a1)]) (.cons (.refl _) (.cons (le2 hg) (.nil))) (callOK_own (K := keep_Source_Next_Ko) (res := res) (keep_Source_Next_VC n) (fn := Try.f17) (n := n) (by kernel_rfl) (by kernel_rfl) (by kernel_rfl) (ρ := [(1000000, l0)]) (ν := []) (avs' := [.ptr 1000000 0, .d (D.int .i64 a1)]) (H := [(1000000, .box [.d (D.sl 1 a0_0), .d (D.int .i64 a0_1)])]) rfl rfl rfl rfl hc (⟨⟨by decide, _, _, hb0, rfl, .cons (le0 hg) (.cons (le1 hg) (.nil)), rfl⟩, trivial⟩) rfl rfl ?_ ?_)⟩
  · exact (keep_Source_Next_vfo n a0_0 a0_1 a1).trans (hr hg)
  · intro av H' hx
    unfold keep_Source_Next_Ko at hx
    replace hx := Option.bind_eq_some_iff.1 hx
    obtain ⟨o0, ho0, hx⟩ := hx
    split at hx
    rotate_left
    · cases hx
    injection hx with hx
    subst hx
    refine ⟨rfl, ?_, ⟨by rw [ho0]; rfl, trivial⟩, ⟨⟨_, _, rfl, ho0, rfl⟩, trivial⟩⟩
    simp only [List.cons_append, List.nil_append, outWr, ho0, Option.map_some]
    rfl
end Go.Vx
/-
  law20_visits: the interpreter computes the pure function
-/
set_option linter.unusedVariables false
set_option linter.unusedSimpArgs false
set_option maxRecDepth 100000
namespace Go.Vx
open Go.Proofs
noncomputable def law20_visits_c0 : Code := bodyOf Try.f11
noncomputable def law20_visits_c1 : Code := cL (bodyOf Try.f11)
noncomputable def law20_visits_c2 : Code := cL (cR (bodyOf Try.f11))
noncomputable def law20_visits_c3 : Code := cL (cR (cR (bodyOf Try.f11)))
noncomputable def law20_visits_c4 : Code := cL (cL (cR (cR (cR (bodyOf Try.f11)))))
noncomputable def law20_visits_c5 : Code := cL (cB (cB (cR (cL (cR (cR (cR (bodyOf Try.f11))))))))
noncomputable def law20_visits_c6 : Code := cL (cB (cL (cR (cB (cB (cR (cL (cR (cR (cR (bodyOf Try.f11)))))))))))
noncomputable def law20_visits_c7 : Code := cL (cR (cB (cL (cR (cB (cB (cR (cL (cR (cR (cR (bodyOf Try.f11))))))))))))
noncomputable def law20_visits_c8 : Code := cL (cL (cR (cR (cB (cL (cR (cB (cB (cR (cL (cR (cR (cR (bodyOf Try.f11))))))))))))))
noncomputable def law20_visits_c9 : Code := cB (cB (cR (cL (cR (cR (cB (cL (cR (cB (cB (cR (cL (cR (cR (cR (bodyOf Try.f11))))))))))))))))
noncomputable def law20_visits_c10 : Code := cB (cR (cL (cR (cR (cB (cL (cR (cB (cB (cR (cL (cR (cR (cR (bodyOf Try.f11)))))))))))))))
noncomputable def law20_visits_c11 : Code := cR (cL (cR (cR (cB (cL (cR (cB (cB (cR (cL (cR (cR (cR (bodyOf Try.f11))))))))))))))
noncomputable def law20_visits_c12 : Code := cL (cR (cR (cB (cL (cR (cB (cB (cR (cL (cR (cR (cR (bodyOf Try.f11)))))))))))))
noncomputable def law20_visits_c13 : Code := cR (cR (cR (cB (cL (cR (cB (cB (cR (cL (cR (cR (cR (bodyOf Try.f11)))))))))))))
noncomputable def law20_visits_c14 : Code := cR (cR (cB (cL (cR (cB (cB (cR (cL (cR (cR (cR (bodyOf Try.f11))))))))))))
noncomputable def law20_visits_c15 : Code := cR (cB (cL (cR (cB (cB (cR (cL (cR (cR (cR (bodyOf Try.f11)))))))))))
noncomputable def law20_visits_c16 : Code := cB (cL (cR (cB (cB (cR (cL (cR (cR (cR (bodyOf Try.f11))))))))))
noncomputable def law20_visits_c17 : Code := cL (cR (cB (cB (cR (cL (cR (cR (cR (bodyOf Try.f11)))))))))
noncomputable def law20_visits_c18 : Code := cR (cR (cB (cB (cR (cL (cR (cR (cR (bodyOf Try.f11)))))))))
noncomputable def law20_visits_c19 : Code := cR (cB (cB (cR (cL (cR (cR (cR (bodyOf Try.f11))))))))
noncomputable def law20_visits_c20 : Code := cB (cB (cR (cL (cR (cR (cR (bodyOf Try.f11)))))))
noncomputable def law20_visits_c21 : Code := cB (cR (cL (cR (cR (cR (bodyOf Try.f11))))))
noncomputable def law20_visits_c22 : Code := cR (cL (cR (cR (cR (bodyOf Try.f11)))))
noncomputable def law20_visits_c23 : Code := cL (cR (cR (cR (bodyOf Try.f11))))
noncomputable def law20_visits_c24 : Code := cR (cR (cR (cR (bodyOf Try.f11))))
noncomputable def law20_visits_c25 : Code := cR (cR (cR (bodyOf Try.f11)))
noncomputable def law20_visits_c26 : Code := cR (cR (bodyOf Try.f11))
noncomputable def law20_visits_c27 : Code := cR (bodyOf Try.f11)
theorem law20_visits_c10_eq : law20_visits_c10 = .loop law20_visits_c9 := by kernel_rfl
theorem law20_visits_c11_eq : law20_visits_c11 = .block 2 law20_visits_c10 := by kernel_rfl
theorem law20_visits_c12_eq : law20_visits_c12 = .seq law20_visits_c8 law20_visits_c11 := by kernel_rfl
theorem law20_visits_c14_eq : law20_visits_c14 = .seq law20_visits_c12 law20_visits_c13 := by kernel_rfl
theorem law20_visits_c15_eq : law20_visits_c15 = .seq law20_visits_c7 law20_visits_c14 := by kernel_rfl
theorem law20_visits_c16_eq : law20_visits_c16 = .seq law20_visits_c6 law20_visits_c15 := by kernel_rfl
theorem law20_visits_c17_eq : law20_visits_c17 = .block 1 law20_visits_c16 := by kernel_rfl
theorem law20_visits_c19_eq : law20_visits_c19 = .seq law20_visits_c17 law20_visits_c18 := by kernel_rfl
theorem law20_visits_c20_eq : law20_visits_c20 = .seq law20_visits_c5 law20_visits_c19 := by kernel_rfl
theorem law20_visits_c21_eq : law20_visits_c21 = .loop law20_visits_c20 := by kernel_rfl
theorem law20_visits_c22_eq : law20_visits_c22 = .block 0 law20_visits_c21 := by kernel_rfl
theorem law20_visits_c23_eq : law20_visits_c23 = .seq law20_visits_c4 law20_visits_c22 := by kernel_rfl
theorem law20_visits_c25_eq : law20_visits_c25 = .seq law20_visits_c23 law20_visits_c24 := by kernel_rfl
theorem law20_visits_c26_eq : law20_visits_c26 = .seq law20_visits_c3 law20_visits_c25 := by kernel_rfl
theorem law20_visits_c27_eq : law20_visits_c27 = .seq law20_visits_c2 law20_visits_c26 := by kernel_rfl
theorem law20_visits_c0_eq : law20_visits_c0 = .seq law20_visits_c1 law20_visits_c27 := by kernel_rfl
def law20_visits_tt : TT := [(3, ⟨.int .i64, 1, 8, [.int .i64 0], [.int .i64 0], [], none⟩), (22, ⟨.sl 3 1, 1, 24, [.slice none 0 0], [.sl 1 []], [], none⟩), (24, ⟨.sl 28 3, 1, 24, [.slice none 0 0], [.sl 3 []], [], none⟩), (28, ⟨.struct, 3, 40, [.int .i64 0, .int .i64 0, .slice none 0 0], [.int .i64 0, .int .i64 0, .sl 1 []], [(0, 3), (1, 3), (2, 22)], none⟩)]
theorem law20_visits_tt_eq : mkTT Try.prog [3, 22, 24, 28] = law20_visits_tt := by kernel_rfl
def law20_visits_cfg : List (Nat × Cfg) := [(0, ⟨[0, 1], [], [], [], []⟩), (1, ⟨[0, 5], [(100011, 100011)], [], [], []⟩), (2, ⟨[0, 5, 6], [(100011, 100011)], [], [], []⟩), (3, ⟨[0, 5, 6, 7], [(100011, 100011)], [(6, 1006, 28, 3)], [], []⟩), (4, ⟨[0, 5, 6, 7, 15], [(1006, 1006), (100011, 100011)], [], [], []⟩), (5, ⟨[0, 5, 6, 7], [(1006, 1006), (100011, 100011)], [], [], []⟩), (6, ⟨[0, 5, 6, 7, 8], [(8, 8), (1006, 1006), (100011, 100011)], [], [], []⟩), (7, ⟨[0, 5, 6, 7, 8, 28], [(8, 8), (1006, 1006), (100011, 100011)], [], [], []⟩), (8, ⟨[0, 5, 6, 7, 8], [(8, 8), (1006, 1006), (100011, 100011)], [], [], []⟩), (9, ⟨[0, 5, 6, 7, 8, 9], [(8, 8), (1006, 1006), (100011, 100011)], [], [(8, 2, 1082, 3, 1)], []⟩), (10, ⟨[0, 5, 6, 7, 8, 9, 37], [(8, 8), (1006, 1006), (1082, 1082), (100011, 100011)], [], [], []⟩), (11, ⟨[0, 5, 6, 7, 8, 9], [(1082, 1082), (8, 8), (1006, 1006), (100011, 100011)], [], [], []⟩), (12, ⟨[0, 5, 6, 7, 8, 9, 42], [(8, 8), (1006, 1006), (1082, 1082), (100011, 100011)], [], [], []⟩), (13, ⟨[0, 5, 6, 7, 8, 9], [(8, 8), (47, 1082), (1006, 1006), (100011, 100011)], [], [], []⟩), (14, ⟨[0, 5, 6, 7], [(52, 1006), (100011, 100011)], [], [], []⟩), (15, ⟨[4], [(1006, 1006)], [], [], []⟩)]
def law20_visits_C (n : Nat) : VC := ⟨specOf [(16, keep_From_o n), (17, keep_Source_Next_o n)], law20_visits_tt, law20_visits_cfg⟩
theorem law20_visits_ents (n : Nat) : EntsOK Try.prog [(16, keep_From_o n), (17, keep_Source_Next_o n)] := ⟨keep_From_oo n, ⟨keep_Source_Next_oo n, trivial⟩⟩
theorem law20_visits_VC (n : Nat) : VCOk Try.prog (law20_visits_C n) := ⟨specOf_ok (law20_visits_ents n), (law20_visits_tt_eq ▸ mkTT_ok _ : TOk Try.prog law20_visits_tt), by kernel_rfl⟩
theorem law20_visits_p1_congr {R : Type} (n : Nat) (a0 : Int) (a1 : List (List D)) {k0 kk0 : Option R} (hq0 : k0 = kk0) : law20_visits_p1 n a0 a1 k0 = law20_visits_p1 n a0 a1 kk0 := by
  obtain rfl : k0 = kk0 := hq0
  rfl
theorem law20_visits_p2_congr {R : Type} (n : Nat) (a0 : Int) (a1 : List (List D)) {k0 kk0 : (List (List D)) → Int → Option R} (hq0 : ∀ x0 x1, k0 x0 x1 = kk0 x0 x1) : law20_visits_p2 n a0 a1 k0 = law20_visits_p2 n a0 a1 kk0 := by
  obtain rfl : k0 = kk0 := funext fun x0 => funext fun x1 => hq0 x0 x1
  rfl
theorem law20_visits_p3_congr {R : Type} (n : Nat) (a0 : Int) (w4 : List (List D)) (w5 : Int) {k0 kk0 : Option R} (hq0 : k0 = kk0) : law20_visits_p3 n a0 w4 w5 k0 = law20_visits_p3 n a0 w4 w5 kk0 := by
  obtain rfl : k0 = kk0 := hq0
  rfl
theorem law20_visits_p4_congr {R : Type} (n : Nat) (a0 : Int) (w4 : List (List D)) (w5 : Int) {k0 kk0 : Int → (List (List D)) → Int → Option R} (hq0 : ∀ x0 x1 x2, k0 x0 x1 x2 = kk0 x0 x1 x2) : law20_visits_p4 n a0 w4 w5 k0 = law20_visits_p4 n a0 w4 w5 kk0 := by
  obtain rfl : k0 = kk0 := funext fun x0 => funext fun x1 => funext fun x2 => hq0 x0 x1 x2
  rfl
theorem law20_visits_p5_congr {R : Type} (n : Nat) (a0 : Int) (h14 : Int) (h15 : List (List D)) (h16 : List (List D)) (h17 : Int) {k0 kk0 : Bool → Option R} {k1 kk1 : Bool → Option R} (hq0 : ∀ x0, k0 x0 = kk0 x0) (hq1 : ∀ x0, k1 x0 = kk1 x0) : law20_visits_p5 n a0 h14 h15 h16 h17 k0 k1 = law20_visits_p5 n a0 h14 h15 h16 h17 kk0 kk1 := by
  obtain rfl : k0 = kk0 := funext fun x0 => hq0 x0
  obtain rfl : k1 = kk1 := funext fun x0 => hq1 x0
  rfl
theorem law20_visits_p6_congr {R : Type} (n : Nat) (a0 : Int) (h14 : Int) (w165 : Bool) (h15 : List (List D)) (h16 : List (List D)) (h17 : Int) {k0 kk0 : Int → Int → (List (List D)) → Int → Option R} (hq0 : ∀ x0 x1 x2 x3, k0 x0 x1 x2 x3 = kk0 x0 x1 x2 x3) : law20_visits_p6 n a0 h14 w165 h15 h16 h17 k0 = law20_visits_p6 n a0 h14 w165 h15 h16 h17 kk0 := by
  obtain rfl : k0 = kk0 := funext fun x0 => funext fun x1 => funext fun x2 => funext fun x3 => hq0 x0 x1 x2 x3
  rfl
theorem law20_visits_p7_congr {R : Type} (n : Nat) (a0 : Int) (h14 : Int) (w172 : Int) (w173 : Int) (h15 : List (List D)) (w174 : List (List D)) (w175 : Int) {k0 kk0 : Int → (List (List D)) → Int → Option R} {k1 kk1 : Bool → (List (List D)) → Int → Option R} (hq0 : ∀ x0 x1 x2, k0 x0 x1 x2 = kk0 x0 x1 x2) (hq1 : ∀ x0 x1 x2, k1 x0 x1 x2 = kk1 x0 x1 x2) : law20_visits_p7 n a0 h14 w172 w173 h15 w174 w175 k0 k1 = law20_visits_p7 n a0 h14 w172 w173 h15 w174 w175 kk0 kk1 := by
  obtain rfl : k0 = kk0 := funext fun x0 => funext fun x1 => funext fun x2 => hq0 x0 x1 x2
  obtain rfl : k1 = kk1 := funext fun x0 => funext fun x1 => funext fun x2 => hq1 x0 x1 x2
  rfl
theorem law20_visits_p8_congr {R : Type} (n : Nat) (a0 : Int) (h14 : Int) (w172 : Int) (w185 : Int) (h15 : List (List D)) (w186 : List (List D)) (w187 : Int) {k0 kk0 : Option R} (hq0 : k0 = kk0) : law20_visits_p8 n a0 h14 w172 w185 h15 w186 w187 k0 = law20_visits_p8 n a0 h14 w172 w185 h15 w186 w187 kk0 := by
  obtain rfl : k0 = kk0 := hq0
  rfl
theorem law20_visits_p9_congr {R : Type} (n : Nat) (a0 : Int) (h14 : Int) (h190 : Int) (h191 : List (List D)) (w172 : Int) (w185 : Int) (h15 : List (List D)) (h195 : List (List D)) (h196 : Int) {k0 kk0 : Int → (List (List D)) → (List (List D)) → Int → Option R} {k1 kk1 : Bool → Option R} (hq0 : ∀ x0 x1 x2 x3, k0 x0 x1 x2 x3 = kk0 x0 x1 x2 x3) (hq1 : ∀ x0, k1 x0 = kk1 x0) : law20_visits_p9 n a0 h14 h190 h191 w172 w185 h15 h195 h196 k0 k1 = law20_visits_p9 n a0 h14 h190 h191 w172 w185 h15 h195 h196 kk0 kk1 := by
  obtain rfl : k0 = kk0 := funext fun x0 => funext fun x1 => funext fun x2 => funext fun x3 => hq0 x0 x1 x2 x3
  obtain rfl : k1 = kk1 := funext fun x0 => hq1 x0
  rfl
theorem law20_visits_p10_congr {R : Type} (n : Nat) (a0 : Int) (h14 : Int) (w172 : Int) (w185 : Int) (h15 : List (List D)) (w186 : List (List D)) (w187 : Int) {k0 kk0 : Int → Bool → (List (List D)) → (List (List D)) → Int → Option R} (hq0 : ∀ x0 x1 x2 x3 x4, k0 x0 x1 x2 x3 x4 = kk0 x0 x1 x2 x3 x4) : law20_visits_p10 n a0 h14 w172 w185 h15 w186 w187 k0 = law20_visits_p10 n a0 h14 w172 w185 h15 w186 w187 kk0 := by
  obtain rfl : k0 = kk0 := funext fun x0 => funext fun x1 => funext fun x2 => funext fun x3 => funext fun x4 => hq0 x0 x1 x2 x3 x4
  rfl
theorem law20_visits_p11_congr {R : Type} (n : Nat) (a0 : Int) (h14 : Int) (w172 : Int) (w185 : Int) (h15 : List (List D)) (w186 : List (List D)) (w187 : Int) {k0 kk0 : Int → Bool → (List (List D)) → (List (List D)) → Int → Option R} (hq0 : ∀ x0 x1 x2 x3 x4, k0 x0 x1 x2 x3 x4 = kk0 x0 x1 x2 x3 x4) : law20_visits_p11 n a0 h14 w172 w185 h15 w186 w187 k0 = law20_visits_p11 n a0 h14 w172 w185 h15 w186 w187 kk0 := by
  obtain rfl : k0 = kk0 := funext fun x0 => funext fun x1 => funext fun x2 => funext fun x3 => funext fun x4 => hq0 x0 x1 x2 x3 x4
  rfl
theorem law20_visits_p12_congr {R : Type} (n : Nat) (a0 : Int) (h14 : Int) (w172 : Int) (w185 : Int) (h15 : List (List D)) (w186 : List (List D)) (w187 : Int) {k0 kk0 : Int → Bool → (List (List D)) → (List (List D)) → Int → Option R} (hq0 : ∀ x0 x1 x2 x3 x4, k0 x0 x1 x2 x3 x4 = kk0 x0 x1 x2 x3 x4) : law20_visits_p12 n a0 h14 w172 w185 h15 w186 w187 k0 = law20_visits_p12 n a0 h14 w172 w185 h15 w186 w187 kk0 := by
  obtain rfl : k0 = kk0 := funext fun x0 => funext fun x1 => funext fun x2 => funext fun x3 => funext fun x4 => hq0 x0 x1 x2 x3 x4
  rfl
theorem law20_visits_p13_congr {R : Type} (n : Nat) (a0 : Int) (h14 : Int) (w226 : Int) (w227 : Bool) (w172 : Int) (w185 : Int) (h15 : List (List D)) (w228 : List (List D)) (w229 : List (List D)) (w230 : Int) {k0 kk0 : (List (List D)) → Option R} (hq0 : ∀ x0, k0 x0 = kk0 x0) : law20_visits_p13 n a0 h14 w226 w227 w172 w185 h15 w228 w229 w230 k0 = law20_visits_p13 n a0 h14 w226 w227 w172 w185 h15 w228 w229 w230 kk0 := by
  obtain rfl : k0 = kk0 := funext fun x0 => hq0 x0
  rfl
theorem law20_visits_p14_congr {R : Type} (n : Nat) (a0 : Int) (h14 : Int) (w172 : Int) (w185 : Int) (h15 : List (List D)) (w186 : List (List D)) (w187 : Int) {k0 kk0 : (List (List D)) → (List (List D)) → Int → Option R} (hq0 : ∀ x0 x1 x2, k0 x0 x1 x2 = kk0 x0 x1 x2) : law20_visits_p14 n a0 h14 w172 w185 h15 w186 w187 k0 = law20_visits_p14 n a0 h14 w172 w185 h15 w186 w187 kk0 := by
  obtain rfl : k0 = kk0 := funext fun x0 => funext fun x1 => funext fun x2 => hq0 x0 x1 x2
  rfl
theorem law20_visits_p15_congr {R : Type} (n : Nat) (a0 : Int) (h14 : Int) (w237 : Bool) (w172 : Int) (w173 : Int) (h15 : List (List D)) (w238 : List (List D)) (w239 : Int) {k0 kk0 : Option R} (hq0 : k0 = kk0) : law20_visits_p15 n a0 h14 w237 w172 w173 h15 w238 w239 k0 = law20_visits_p15 n a0 h14 w237 w172 w173 h15 w238 w239 kk0 := by
  obtain rfl : k0 = kk0 := hq0
  rfl
theorem law20_visits_p16_congr {R : Type} (n : Nat) (a0 : Int) (h14 : Int) (h242 : Int) (h243 : List (List D)) (w172 : Int) (w173 : Int) (h15 : List (List D)) (h247 : List (List D)) (h248 : Int) {k0 kk0 : Int → (List (List D)) → (List (List D)) → Int → Option R} {k1 kk1 : Bool → Option R} (hq0 : ∀ x0 x1 x2 x3, k0 x0 x1 x2 x3 = kk0 x0 x1 x2 x3) (hq1 : ∀ x0, k1 x0 = kk1 x0) : law20_visits_p16 n a0 h14 h242 h243 w172 w173 h15 h247 h248 k0 k1 = law20_visits_p16 n a0 h14 h242 h243 w172 w173 h15 h247 h248 kk0 kk1 := by
  obtain rfl : k0 = kk0 := funext fun x0 => funext fun x1 => funext fun x2 => funext fun x3 => hq0 x0 x1 x2 x3
  obtain rfl : k1 = kk1 := funext fun x0 => hq1 x0
  rfl
theorem law20_visits_p17_congr {R : Type} (n : Nat) (a0 : Int) (h14 : Int) (w172 : Int) (w173 : Int) (h15 : List (List D)) (w238 : List (List D)) (w239 : Int) {k0 kk0 : Int → Bool → (List (List D)) → (List (List D)) → Int → Option R} (hq0 : ∀ x0 x1 x2 x3 x4, k0 x0 x1 x2 x3 x4 = kk0 x0 x1 x2 x3 x4) : law20_visits_p17 n a0 h14 w172 w173 h15 w238 w239 k0 = law20_visits_p17 n a0 h14 w172 w173 h15 w238 w239 kk0 := by
  obtain rfl : k0 = kk0 := funext fun x0 => funext fun x1 => funext fun x2 => funext fun x3 => funext fun x4 => hq0 x0 x1 x2 x3 x4
  rfl
theorem law20_visits_p18_congr {R : Type} (n : Nat) (a0 : Int) (h14 : Int) (w172 : Int) (w173 : Int) (h15 : List (List D)) (w238 : List (List D)) (w239 : Int) {k0 kk0 : Int → Bool → (List (List D)) → (List (List D)) → Int → Option R} (hq0 : ∀ x0 x1 x2 x3 x4, k0 x0 x1 x2 x3 x4 = kk0 x0 x1 x2 x3 x4) : law20_visits_p18 n a0 h14 w172 w173 h15 w238 w239 k0 = law20_visits_p18 n a0 h14 w172 w173 h15 w238 w239 kk0 := by
  obtain rfl : k0 = kk0 := funext fun x0 => funext fun x1 => funext fun x2 => funext fun x3 => funext fun x4 => hq0 x0 x1 x2 x3 x4
  rfl
theorem law20_visits_p19_congr {R : Type} (n : Nat) (a0 : Int) (h14 : Int) (w237 : Bool) (w172 : Int) (w173 : Int) (h15 : List (List D)) (w238 : List (List D)) (w239 : Int) {k0 kk0 : Int → Bool → (List (List D)) → (List (List D)) → Int → Option R} (hq0 : ∀ x0 x1 x2 x3 x4, k0 x0 x1 x2 x3 x4 = kk0 x0 x1 x2 x3 x4) : law20_visits_p19 n a0 h14 w237 w172 w173 h15 w238 w239 k0 = law20_visits_p19 n a0 h14 w237 w172 w173 h15 w238 w239 kk0 := by
  obtain rfl : k0 = kk0 := funext fun x0 => funext fun x1 => funext fun x2 => funext fun x3 => funext fun x4 => hq0 x0 x1 x2 x3 x4
  rfl
theorem law20_visits_p20_congr {R : Type} (n : Nat) (a0 : Int) (h14 : Int) (w278 : Int) (w279 : Bool) (w172 : Int) (w173 : Int) (h15 : List (List D)) (w280 : List (List D)) (w281 : List (List D)) (w282 : Int) {k0 kk0 : (List (List D)) → Option R} (hq0 : ∀ x0, k0 x0 = kk0 x0) : law20_visits_p20 n a0 h14 w278 w279 w172 w173 h15 w280 w281 w282 k0 = law20_visits_p20 n a0 h14 w278 w279 w172 w173 h15 w280 w281 w282 kk0 := by
  obtain rfl : k0 = kk0 := funext fun x0 => hq0 x0
  rfl
theorem law20_visits_p21_congr {R : Type} (n : Nat) (a0 : Int) (h14 : Int) (w237 : Bool) (w172 : Int) (w173 : Int) (h15 : List (List D)) (w238 : List (List D)) (w239 : Int) {k0 kk0 : (List (List D)) → (List (List D)) → Int → Option R} (hq0 : ∀ x0 x1 x2, k0 x0 x1 x2 = kk0 x0 x1 x2) : law20_visits_p21 n a0 h14 w237 w172 w173 h15 w238 w239 k0 = law20_visits_p21 n a0 h14 w237 w172 w173 h15 w238 w239 kk0 := by
  obtain rfl : k0 = kk0 := funext fun x0 => funext fun x1 => funext fun x2 => hq0 x0 x1 x2
  rfl
theorem law20_visits_p22_congr {R : Type} (n : Nat) (a0 : Int) (h14 : Int) (w172 : Int) (w173 : Int) (h15 : List (List D)) (w174 : List (List D)) (w175 : Int) {k0 kk0 : (List (List D)) → (List (List D)) → Int → Option R} (hq0 : ∀ x0 x1 x2, k0 x0 x1 x2 = kk0 x0 x1 x2) : law20_visits_p22 n a0 h14 w172 w173 h15 w174 w175 k0 = law20_visits_p22 n a0 h14 w172 w173 h15 w174 w175 kk0 := by
  obtain rfl : k0 = kk0 := funext fun x0 => funext fun x1 => funext fun x2 => hq0 x0 x1 x2
  rfl
theorem law20_visits_p23_congr {R : Type} (n : Nat) (a0 : Int) (h14 : Int) (w165 : Bool) (h15 : List (List D)) (h16 : List (List D)) (h17 : Int) {k0 kk0 : (List (List D)) → (List (List D)) → Int → Option R} (hq0 : ∀ x0 x1 x2, k0 x0 x1 x2 = kk0 x0 x1 x2) : law20_visits_p23 n a0 h14 w165 h15 h16 h17 k0 = law20_visits_p23 n a0 h14 w165 h15 h16 h17 kk0 := by
  obtain rfl : k0 = kk0 := funext fun x0 => funext fun x1 => funext fun x2 => hq0 x0 x1 x2
  rfl
theorem law20_visits_p24_congr {R : Type} (n : Nat) (a0 : Int) (h14 : Int) (w165 : Bool) (h15 : List (List D)) (h16 : List (List D)) (h17 : Int) {k0 kk0 : (List (List D)) → (List (List D)) → Int → Option R} (hq0 : ∀ x0 x1 x2, k0 x0 x1 x2 = kk0 x0 x1 x2) : law20_visits_p24 n a0 h14 w165 h15 h16 h17 k0 = law20_visits_p24 n a0 h14 w165 h15 h16 h17 kk0 := by
  obtain rfl : k0 = kk0 := funext fun x0 => funext fun x1 => funext fun x2 => hq0 x0 x1 x2
  rfl
theorem law20_visits_p25_congr {R : Type} (n : Nat) (a0 : Int) (h14 : Int) (w298 : List (List D)) (w299 : List (List D)) (w300 : Int) {k0 kk0 : Int → Option R} (hq0 : ∀ x0, k0 x0 = kk0 x0) : law20_visits_p25 n a0 h14 w298 w299 w300 k0 = law20_visits_p25 n a0 h14 w298 w299 w300 kk0 := by
  obtain rfl : k0 = kk0 := funext fun x0 => hq0 x0
  rfl
theorem law20_visits_p26_congr {R : Type} (n : Nat) (a0 : Int) (h14 : Int) (w165 : Bool) (h15 : List (List D)) (h16 : List (List D)) (h17 : Int) {k0 kk0 : Int → (List (List D)) → (List (List D)) → Int → Option R} (hq0 : ∀ x0 x1 x2 x3, k0 x0 x1 x2 x3 = kk0 x0 x1 x2 x3) : law20_visits_p26 n a0 h14 w165 h15 h16 h17 k0 = law20_visits_p26 n a0 h14 w165 h15 h16 h17 kk0 := by
  obtain rfl : k0 = kk0 := funext fun x0 => funext fun x1 => funext fun x2 => funext fun x3 => hq0 x0 x1 x2 x3
  rfl
theorem law20_visits_p27_congr {R : Type} (n : Nat) (a0 : Int) (h14 : Int) (h15 : List (List D)) (h16 : List (List D)) (h17 : Int) {k0 kk0 : Int → (List (List D)) → (List (List D)) → Int → Option R} {k1 kk1 : Bool → Option R} (hq0 : ∀ x0 x1 x2 x3, k0 x0 x1 x2 x3 = kk0 x0 x1 x2 x3) (hq1 : ∀ x0, k1 x0 = kk1 x0) : law20_visits_p27 n a0 h14 h15 h16 h17 k0 k1 = law20_visits_p27 n a0 h14 h15 h16 h17 kk0 kk1 := by
  obtain rfl : k0 = kk0 := funext fun x0 => funext fun x1 => funext fun x2 => funext fun x3 => hq0 x0 x1 x2 x3
  obtain rfl : k1 = kk1 := funext fun x0 => hq1 x0
  rfl
theorem law20_visits_p28_congr {R : Type} (n : Nat) (a0 : Int) (w10 : Int) (w11 : List (List D)) (w12 : Int) {k0 kk0 : Int → Bool → (List (List D)) → (List (List D)) → Int → Option R} (hq0 : ∀ x0 x1 x2 x3 x4, k0 x0 x1 x2 x3 x4 = kk0 x0 x1 x2 x3 x4) : law20_visits_p28 n a0 w10 w11 w12 k0 = law20_visits_p28 n a0 w10 w11 w12 kk0 := by
  obtain rfl : k0 = kk0 := funext fun x0 => funext fun x1 => funext fun x2 => funext fun x3 => funext fun x4 => hq0 x0 x1 x2 x3 x4
  rfl
theorem law20_visits_p29_congr {R : Type} (n : Nat) (a0 : Int) (w10 : Int) (w11 : List (List D)) (w12 : Int) {k0 kk0 : Int → Bool → (List (List D)) → (List (List D)) → Int → Option R} (hq0 : ∀ x0 x1 x2 x3 x4, k0 x0 x1 x2 x3 x4 = kk0 x0 x1 x2 x3 x4) : law20_visits_p29 n a0 w10 w11 w12 k0 = law20_visits_p29 n a0 w10 w11 w12 kk0 := by
  obtain rfl : k0 = kk0 := funext fun x0 => funext fun x1 => funext fun x2 => funext fun x3 => funext fun x4 => hq0 x0 x1 x2 x3 x4
  rfl
theorem law20_visits_p30_congr {R : Type} (n : Nat) (a0 : Int) (w4 : List (List D)) (w5 : Int) {k0 kk0 : Int → Bool → (List (List D)) → (List (List D)) → Int → Option R} (hq0 : ∀ x0 x1 x2 x3 x4, k0 x0 x1 x2 x3 x4 = kk0 x0 x1 x2 x3 x4) : law20_visits_p30 n a0 w4 w5 k0 = law20_visits_p30 n a0 w4 w5 kk0 := by
  obtain rfl : k0 = kk0 := funext fun x0 => funext fun x1 => funext fun x2 => funext fun x3 => funext fun x4 => hq0 x0 x1 x2 x3 x4
  rfl
theorem law20_visits_p31_congr {R : Type} (n : Nat) (a0 : Int) (w323 : Int) (w324 : Bool) (w325 : List (List D)) (w326 : List (List D)) (w327 : Int) {k0 kk0 : Option R} (hq0 : k0 = kk0) : law20_visits_p31 n a0 w323 w324 w325 w326 w327 k0 = law20_visits_p31 n a0 w323 w324 w325 w326 w327 kk0 := by
  obtain rfl : k0 = kk0 := hq0
  rfl
theorem law20_visits_p32_congr {R : Type} (n : Nat) (a0 : Int) (w4 : List (List D)) (w5 : Int) {k0 kk0 : (List (List D)) → Option R} (hq0 : ∀ x0, k0 x0 = kk0 x0) : law20_visits_p32 n a0 w4 w5 k0 = law20_visits_p32 n a0 w4 w5 kk0 := by
  obtain rfl : k0 = kk0 := funext fun x0 => hq0 x0
  rfl
theorem law20_visits_p33_congr {R : Type} (n : Nat) (a0 : Int) (w4 : List (List D)) (w5 : Int) {k0 kk0 : (List (List D)) → Option R} (hq0 : ∀ x0, k0 x0 = kk0 x0) : law20_visits_p33 n a0 w4 w5 k0 = law20_visits_p33 n a0 w4 w5 kk0 := by
  obtain rfl : k0 = kk0 := funext fun x0 => hq0 x0
  rfl
theorem law20_visits_p34_congr {R : Type} (n : Nat) (a0 : Int) (a1 : List (List D)) {k0 kk0 : (List (List D)) → Option R} (hq0 : ∀ x0, k0 x0 = kk0 x0) : law20_visits_p34 n a0 a1 k0 = law20_visits_p34 n a0 a1 kk0 := by
  obtain rfl : k0 = kk0 := funext fun x0 => hq0 x0
  rfl
theorem law20_visits_p35_congr {R : Type} (n : Nat) (a0 : Int) (a1 : List (List D)) {k0 kk0 : (List (List D)) → Option R} (hq0 : ∀ x0, k0 x0 = kk0 x0) : law20_visits_p35 n a0 a1 k0 = law20_visits_p35 n a0 a1 kk0 := by
  obtain rfl : k0 = kk0 := funext fun x0 => hq0 x0
  rfl
theorem law20_visits_p1_eq {R : Type} (n : Nat) (a0 : Int) (a1 : List (List D)) (k : Exit → St → Option R) : vexec (law20_visits_C n) n law20_visits_c1 ⟨54, [(0, .d (D.int .i64 a0)), (1, .d (D.sl 1 a1))], []⟩ k = law20_visits_p1 n a0 a1 (k .normal ⟨54, [(0, .d (D.int .i64 a0)), (1, .d (D.sl 1 a1))], []⟩) := by kernel_rfl
theorem law20_visits_p2_eq {R : Type} (n : Nat) (a0 : Int) (a1 : List (List D)) (k : Exit → St → Option R) : vexec (law20_visits_C n) n law20_visits_c2 ⟨54, [(0, .d (D.int .i64 a0)), (1, .d (D.sl 1 a1))], []⟩ k = law20_visits_p2 n a0 a1 (fun z2 z3 => k .normal ⟨54, [(0, .d (D.int .i64 a0)), (5, .ptr 100011 0)], [(100011, .box [.d (D.sl 1 z2), .d (D.int .i64 z3)])]⟩) := by kernel_rfl
theorem law20_visits_p3_eq {R : Type} (n : Nat) (a0 : Int) (w4 : List (List D)) (w5 : Int) (k : Exit → St → Option R) : vexec (law20_visits_C n) n law20_visits_c3 ⟨54, [(0, .d (D.int .i64 a0)), (5, .ptr 100011 0)], [(100011, .box [.d (D.sl 1 w4), .d (D.int .i64 w5)])]⟩ k = law20_visits_p3 n a0 w4 w5 (k .normal ⟨54, [(0, .d (D.int .i64 a0)), (5, .ptr 100011 0), (6, .nil)], [(100011, .box [.d (D.sl 1 w4), .d (D.int .i64 w5)])]⟩) := by kernel_rfl
theorem law20_visits_p4_eq {R : Type} (n : Nat) (a0 : Int) (w4 : List (List D)) (w5 : Int) (k : Exit → St → Option R) : vexec (law20_visits_C n) n law20_visits_c4 ⟨54, [(0, .d (D.int .i64 a0)), (5, .ptr 100011 0), (6, .nil)], [(100011, .box [.d (D.sl 1 w4), .d (D.int .i64 w5)])]⟩ k = law20_visits_p4 n a0 w4 w5 (fun z7 z8 z9 => k .normal ⟨54, [(0, .d (D.int .i64 a0)), (5, .ptr 100011 0), (6, .arr 1006), (7, .d (D.int .i64 z7))], [(1006, .arr 28 3 []), (100011, .box [.d (D.sl 1 z8), .d (D.int .i64 z9)])]⟩) := by kernel_rfl
theorem law20_visits_p5_eq {R : Type} (n : Nat) (a0 : Int) (h14 : Int) (h15 : List (List D)) (h16 : List (List D)) (h17 : Int) (k : Exit → St → Option R) : vexec (law20_visits_C n) n law20_visits_c5 ⟨54, [(0, .d (D.int .i64 a0)), (5, .ptr 100011 0), (6, .arr 1006), (7, .d (D.int .i64 h14))], [(1006, .arr 28 3 h15), (100011, .box [.d (D.sl 1 h16), .d (D.int .i64 h17)])]⟩ k = law20_visits_p5 n a0 h14 h15 h16 h17 (fun z163 => k .normal ⟨54, [(0, .d (D.int .i64 a0)), (5, .ptr 100011 0), (6, .arr 1006), (7, .d (D.int .i64 h14)), (15, .d (D.bool z163))], [(1006, .arr 28 3 h15), (100011, .box [.d (D.sl 1 h16), .d (D.int .i64 h17)])]⟩) (fun z164 => k (.exit 0) ⟨54, [(0, .d (D.int .i64 a0)), (5, .ptr 100011 0), (6, .arr 1006), (7, .d (D.int .i64 h14)), (15, .d (D.bool z164))], [(1006, .arr 28 3 h15), (100011, .box [.d (D.sl 1 h16), .d (D.int .i64 h17)])]⟩) := by kernel_rfl
theorem law20_visits_p6_eq {R : Type} (n : Nat) (a0 : Int) (h14 : Int) (w165 : Bool) (h15 : List (List D)) (h16 : List (List D)) (h17 : Int) (k : Exit → St → Option R) : vexec (law20_visits_C n) n law20_visits_c6 ⟨54, [(0, .d (D.int .i64 a0)), (5, .ptr 100011 0), (6, .arr 1006), (7, .d (D.int .i64 h14)), (15, .d (D.bool w165))], [(1006, .arr 28 3 h15), (100011, .box [.d (D.sl 1 h16), .d (D.int .i64 h17)])]⟩ k = law20_visits_p6 n a0 h14 w165 h15 h16 h17 (fun z168 z169 z170 z171 => k .normal ⟨54, [(0, .d (D.int .i64 a0)), (5, .ptr 100011 0), (6, .arr 1006), (7, .d (D.int .i64 h14)), (8, .ptr 8 0)], [(8, .box [.d (D.int .i64 z168), .d (D.int .i64 z169), .nil]), (1006, .arr 28 3 h15), (100011, .box [.d (D.sl 1 z170), .d (D.int .i64 z171)])]⟩) := by kernel_rfl
theorem law20_visits_p7_eq {R : Type} (n : Nat) (a0 : Int) (h14 : Int) (w172 : Int) (w173 : Int) (h15 : List (List D)) (w174 : List (List D)) (w175 : Int) (k : Exit → St → Option R) : vexec (law20_visits_C n) n law20_visits_c7 ⟨54, [(0, .d (D.int .i64 a0)), (5, .ptr 100011 0), (6, .arr 1006), (7, .d (D.int .i64 h14)), (8, .ptr 8 0)], [(8, .box [.d (D.int .i64 w172), .d (D.int .i64 w173), .nil]), (1006, .arr 28 3 h15), (100011, .box [.d (D.sl 1 w174), .d (D.int .i64 w175)])]⟩ k = law20_visits_p7 n a0 h14 w172 w173 h15 w174 w175 (fun z179 z180 z181 => k .normal ⟨54, [(0, .d (D.int .i64 a0)), (5, .ptr 100011 0), (6, .arr 1006), (7, .d (D.int .i64 h14)), (8, .ptr 8 0)], [(8, .box [.d (D.int .i64 w172), .d (D.int .i64 z179), .nil]), (1006, .arr 28 3 h15), (100011, .box [.d (D.sl 1 z180), .d (D.int .i64 z181)])]⟩) (fun z182 z183 z184 => k .normal ⟨54, [(0, .d (D.int .i64 a0)), (5, .ptr 100011 0), (6, .arr 1006), (7, .d (D.int .i64 h14)), (8, .ptr 8 0), (28, .d (D.bool z182))], [(8, .box [.d (D.int .i64 w172), .d (D.int .i64 w173), .nil]), (1006, .arr 28 3 h15), (100011, .box [.d (D.sl 1 z183), .d (D.int .i64 z184)])]⟩) := by kernel_rfl
theorem law20_visits_p8_eq {R : Type} (n : Nat) (a0 : Int) (h14 : Int) (w172 : Int) (w185 : Int) (h15 : List (List D)) (w186 : List (List D)) (w187 : Int) (k : Exit → St → Option R) : vexec (law20_visits_C n) n law20_visits_c8 ⟨54, [(0, .d (D.int .i64 a0)), (5, .ptr 100011 0), (6, .arr 1006), (7, .d (D.int .i64 h14)), (8, .ptr 8 0)], [(8, .box [.d (D.int .i64 w172), .d (D.int .i64 w185), .nil]), (1006, .arr 28 3 h15), (100011, .box [.d (D.sl 1 w186), .d (D.int .i64 w187)])]⟩ k = law20_visits_p8 n a0 h14 w172 w185 h15 w186 w187 (k .normal ⟨54, [(0, .d (D.int .i64 a0)), (5, .ptr 100011 0), (6, .arr 1006), (7, .d (D.int .i64 h14)), (8, .ptr 8 0), (9, .d (D.int .i64 (0 : Int)))], [(1082, .arr 3 1 []), (8, .box [.d (D.int .i64 w172), .d (D.int .i64 w185), .arr 1082]), (1006, .arr 28 3 h15), (100011, .box [.d (D.sl 1 w186), .d (D.int .i64 w187)])]⟩) := by kernel_rfl
theorem law20_visits_p9_eq {R : Type} (n : Nat) (a0 : Int) (h14 : Int) (h190 : Int) (h191 : List (List D)) (w172 : Int) (w185 : Int) (h15 : List (List D)) (h195 : List (List D)) (h196 : Int) (k : Exit → St → Option R) : vexec (law20_visits_C n) n law20_visits_c9 ⟨54, [(0, .d (D.int .i64 a0)), (5, .ptr 100011 0), (6, .arr 1006), (7, .d (D.int .i64 h14)), (8, .ptr 8 0), (9, .d (D.int .i64 h190))], [(1082, .arr 3 1 h191), (8, .box [.d (D.int .i64 w172), .d (D.int .i64 w185), .arr 1082]), (1006, .arr 28 3 h15), (100011, .box [.d (D.sl 1 h195), .d (D.int .i64 h196)])]⟩ k = law20_visits_p9 n a0 h14 h190 h191 w172 w185 h15 h195 h196 (fun z206 z207 z208 z209 => k .normal ⟨54, [(0, .d (D.int .i64 a0)), (5, .ptr 100011 0), (6, .arr 1006), (7, .d (D.int .i64 h14)), (8, .ptr 8 0), (9, .d (D.int .i64 z206))], [(1082, .arr 3 1 z207), (8, .box [.d (D.int .i64 w172), .d (D.int .i64 w185), .arr 1082]), (1006, .arr 28 3 h15), (100011, .box [.d (D.sl 1 z208), .d (D.int .i64 z209)])]⟩) (fun z210 => k (.exit 2) ⟨54, [(0, .d (D.int .i64 a0)), (5, .ptr 100011 0), (6, .arr 1006), (7, .d (D.int .i64 h14)), (8, .ptr 8 0), (9, .d (D.int .i64 h190)), (37, .d (D.bool z210))], [(8, .box [.d (D.int .i64 w172), .d (D.int .i64 w185), .arr 1082]), (1006, .arr 28 3 h15), (1082, .arr 3 1 h191), (100011, .box [.d (D.sl 1 h195), .d (D.int .i64 h196)])]⟩) := by kernel_rfl
theorem law20_visits_r10_eq {R : Type} (n : Nat) (a0 : Int) (h14 : Int) (w172 : Int) (w185 : Int) (h15 : List (List D)) (k : Exit → St → Option R) : ∀ (m : Nat) (h190 : Int) (h191 : List (List D)) (h195 : List (List D)) (h196 : Int), loopN (vexec (law20_visits_C n) n law20_visits_c9) m ⟨54, [(0, .d (D.int .i64 a0)), (5, .ptr 100011 0), (6, .arr 1006), (7, .d (D.int .i64 h14)), (8, .ptr 8 0), (9, .d (D.int .i64 h190))], [(1082, .arr 3 1 h191), (8, .box [.d (D.int .i64 w172), .d (D.int .i64 w185), .arr 1082]), (1006, .arr 28 3 h15), (100011, .box [.d (D.sl 1 h195), .d (D.int .i64 h196)])]⟩ k = law20_visits_r10 n a0 h14 w172 w185 h15 (fun h190 w215 h191 h195 h196 => k (.exit 2) ⟨54, [(0, .d (D.int .i64 a0)), (5, .ptr 100011 0), (6, .arr 1006), (7, .d (D.int .i64 h14)), (8, .ptr 8 0), (9, .d (D.int .i64 h190)), (37, .d (D.bool w215))], [(8, .box [.d (D.int .i64 w172), .d (D.int .i64 w185), .arr 1082]), (1006, .arr 28 3 h15), (1082, .arr 3 1 h191), (100011, .box [.d (D.sl 1 h195), .d (D.int .i64 h196)])]⟩) m h190 h191 h195 h196
  | 0, _, _, _, _ => rfl
  | m + 1, h190, h191, h195, h196 => (law20_visits_p9_eq n a0 h14 h190 h191 w172 w185 h15 h195 h196 (loopK (vexec (law20_visits_C n) n law20_visits_c9) m k)).trans (law20_visits_p9_congr n a0 h14 h190 h191 w172 w185 h15 h195 h196 (fun w211 w212 w213 w214 => law20_visits_r10_eq n a0 h14 w172 w185 h15 k m w211 w212 w213 w214) (fun w215 => rfl))
theorem law20_visits_p10_eq {R : Type} (n : Nat) (a0 : Int) (h14 : Int) (w172 : Int) (w185 : Int) (h15 : List (List D)) (w186 : List (List D)) (w187 : Int) (k : Exit → St → Option R) : vexec (law20_visits_C n) n law20_visits_c10 ⟨54, [(0, .d (D.int .i64 a0)), (5, .ptr 100011 0), (6, .arr 1006), (7, .d (D.int .i64 h14)), (8, .ptr 8 0), (9, .d (D.int .i64 (0 : Int)))], [(1082, .arr 3 1 []), (8, .box [.d (D.int .i64 w172), .d (D.int .i64 w185), .arr 1082]), (1006, .arr 28 3 h15), (100011, .box [.d (D.sl 1 w186), .d (D.int .i64 w187)])]⟩ k = law20_visits_p10 n a0 h14 w172 w185 h15 w186 w187 (fun h190 w215 h191 h195 h196 => k (.exit 2) ⟨54, [(0, .d (D.int .i64 a0)), (5, .ptr 100011 0), (6, .arr 1006), (7, .d (D.int .i64 h14)), (8, .ptr 8 0), (9, .d (D.int .i64 h190)), (37, .d (D.bool w215))], [(8, .box [.d (D.int .i64 w172), .d (D.int .i64 w185), .arr 1082]), (1006, .arr 28 3 h15), (1082, .arr 3 1 h191), (100011, .box [.d (D.sl 1 h195), .d (D.int .i64 h196)])]⟩) := by
  rw [law20_visits_c10_eq]
  exact law20_visits_r10_eq n a0 h14 w172 w185 h15 k n (0 : Int) [] w186 w187
theorem law20_visits_p11_eq {R : Type} (n : Nat) (a0 : Int) (h14 : Int) (w172 : Int) (w185 : Int) (h15 : List (List D)) (w186 : List (List D)) (w187 : Int) (k : Exit → St → Option R) : vexec (law20_visits_C n) n law20_visits_c11 ⟨54, [(0, .d (D.int .i64 a0)), (5, .ptr 100011 0), (6, .arr 1006), (7, .d (D.int .i64 h14)), (8, .ptr 8 0), (9, .d (D.int .i64 (0 : Int)))], [(1082, .arr 3 1 []), (8, .box [.d (D.int .i64 w172), .d (D.int .i64 w185), .arr 1082]), (1006, .arr 28 3 h15), (100011, .box [.d (D.sl 1 w186), .d (D.int .i64 w187)])]⟩ k = law20_visits_p11 n a0 h14 w172 w185 h15 w186 w187 (fun w216 w217 w218 w219 w220 => k .normal ⟨54, [(0, .d (D.int .i64 a0)), (5, .ptr 100011 0), (6, .arr 1006), (7, .d (D.int .i64 h14)), (8, .ptr 8 0), (9, .d (D.int .i64 w216)), (37, .d (D.bool w217))], [(8, .box [.d (D.int .i64 w172), .d (D.int .i64 w185), .arr 1082]), (1006, .arr 28 3 h15), (1082, .arr 3 1 w218), (100011, .box [.d (D.sl 1 w219), .d (D.int .i64 w220)])]⟩) := by
  rw [law20_visits_c11_eq]
  unfold law20_visits_p11
  exact (law20_visits_p10_eq n a0 h14 w172 w185 h15 w186 w187 (blockK 2 k)).trans (law20_visits_p10_congr n a0 h14 w172 w185 h15 w186 w187 (fun w216 w217 w218 w219 w220 => rfl))
theorem law20_visits_p12_eq {R : Type} (n : Nat) (a0 : Int) (h14 : Int) (w172 : Int) (w185 : Int) (h15 : List (List D)) (w186 : List (List D)) (w187 : Int) (k : Exit → St → Option R) : vexec (law20_visits_C n) n law20_visits_c12 ⟨54, [(0, .d (D.int .i64 a0)), (5, .ptr 100011 0), (6, .arr 1006), (7, .d (D.int .i64 h14)), (8, .ptr 8 0)], [(8, .box [.d (D.int .i64 w172), .d (D.int .i64 w185), .nil]), (1006, .arr 28 3 h15), (100011, .box [.d (D.sl 1 w186), .d (D.int .i64 w187)])]⟩ k = law20_visits_p12 n a0 h14 w172 w185 h15 w186 w187 (fun w221 w222 w223 w224 w225 => k .normal ⟨54, [(0, .d (D.int .i64 a0)), (5, .ptr 100011 0), (6, .arr 1006), (7, .d (D.int .i64 h14)), (8, .ptr 8 0), (9, .d (D.int .i64 w221)), (37, .d (D.bool w222))], [(8, .box [.d (D.int .i64 w172), .d (D.int .i64 w185), .arr 1082]), (1006, .arr 28 3 h15), (1082, .arr 3 1 w223), (100011, .box [.d (D.sl 1 w224), .d (D.int .i64 w225)])]⟩) := by
  rw [law20_visits_c12_eq]
  unfold law20_visits_p12
  exact (law20_visits_p8_eq n a0 h14 w172 w185 h15 w186 w187 (seqK (law20_visits_C n) n law20_visits_c11 k)).trans (law20_visits_p8_congr n a0 h14 w172 w185 h15 w186 w187 (law20_visits_p11_eq n a0 h14 w172 w185 h15 w186 w187 k))
theorem law20_visits_p13_eq {R : Type} (n : Nat) (a0 : Int) (h14 : Int) (w226 : Int) (w227 : Bool) (w172 : Int) (w185 : Int) (h15 : List (List D)) (w228 : List (List D)) (w229 : List (List D)) (w230 : Int) (k : Exit → St → Option R) : vexec (law20_visits_C n) n law20_visits_c13 ⟨54, [(0, .d (D.int .i64 a0)), (5, .ptr 100011 0), (6, .arr 1006), (7, .d (D.int .i64 h14)), (8, .ptr 8 0), (9, .d (D.int .i64 w226)), (37, .d (D.bool w227))], [(8, .box [.d (D.int .i64 w172), .d (D.int .i64 w185), .arr 1082]), (1006, .arr 28 3 h15), (1082, .arr 3 1 w228), (100011, .box [.d (D.sl 1 w229), .d (D.int .i64 w230)])]⟩ k = law20_visits_p13 n a0 h14 w226 w227 w172 w185 h15 w228 w229 w230 (fun z232 => k .normal ⟨54, [(0, .d (D.int .i64 a0)), (5, .ptr 100011 0), (6, .arr 1006), (7, .d (D.int .i64 h14))], [(1006, .arr 28 3 z232), (100011, .box [.d (D.sl 1 w229), .d (D.int .i64 w230)])]⟩) := by kernel_rfl
theorem law20_visits_p14_eq {R : Type} (n : Nat) (a0 : Int) (h14 : Int) (w172 : Int) (w185 : Int) (h15 : List (List D)) (w186 : List (List D)) (w187 : Int) (k : Exit → St → Option R) : vexec (law20_visits_C n) n law20_visits_c14 ⟨54, [(0, .d (D.int .i64 a0)), (5, .ptr 100011 0), (6, .arr 1006), (7, .d (D.int .i64 h14)), (8, .ptr 8 0)], [(8, .box [.d (D.int .i64 w172), .d (D.int .i64 w185), .nil]), (1006, .arr 28 3 h15), (100011, .box [.d (D.sl 1 w186), .d (D.int .i64 w187)])]⟩ k = law20_visits_p14 n a0 h14 w172 w185 h15 w186 w187 (fun w233 w229 w230 => k .normal ⟨54, [(0, .d (D.int .i64 a0)), (5, .ptr 100011 0), (6, .arr 1006), (7, .d (D.int .i64 h14))], [(1006, .arr 28 3 w233), (100011, .box [.d (D.sl 1 w229), .d (D.int .i64 w230)])]⟩) := by
  rw [law20_visits_c14_eq]
  unfold law20_visits_p14
  exact (law20_visits_p12_eq n a0 h14 w172 w185 h15 w186 w187 (seqK (law20_visits_C n) n law20_visits_c13 k)).trans (law20_visits_p12_congr n a0 h14 w172 w185 h15 w186 w187 (fun w226 w227 w228 w229 w230 => law20_visits_p13_eq n a0 h14 w226 w227 w172 w185 h15 w228 w229 w230 k))
theorem law20_visits_p15_eq {R : Type} (n : Nat) (a0 : Int) (h14 : Int) (w237 : Bool) (w172 : Int) (w173 : Int) (h15 : List (List D)) (w238 : List (List D)) (w239 : Int) (k : Exit → St → Option R) : vexec (law20_visits_C n) n law20_visits_c8 ⟨54, [(0, .d (D.int .i64 a0)), (5, .ptr 100011 0), (6, .arr 1006), (7, .d (D.int .i64 h14)), (8, .ptr 8 0), (28, .d (D.bool w237))], [(8, .box [.d (D.int .i64 w172), .d (D.int .i64 w173), .nil]), (1006, .arr 28 3 h15), (100011, .box [.d (D.sl 1 w238), .d (D.int .i64 w239)])]⟩ k = law20_visits_p15 n a0 h14 w237 w172 w173 h15 w238 w239 (k .normal ⟨54, [(0, .d (D.int .i64 a0)), (5, .ptr 100011 0), (6, .arr 1006), (7, .d (D.int .i64 h14)), (8, .ptr 8 0), (9, .d (D.int .i64 (0 : Int)))], [(1082, .arr 3 1 []), (8, .box [.d (D.int .i64 w172), .d (D.int .i64 w173), .arr 1082]), (1006, .arr 28 3 h15), (100011, .box [.d (D.sl 1 w238), .d (D.int .i64 w239)])]⟩) := by kernel_rfl
theorem law20_visits_p16_eq {R : Type} (n : Nat) (a0 : Int) (h14 : Int) (h242 : Int) (h243 : List (List D)) (w172 : Int) (w173 : Int) (h15 : List (List D)) (h247 : List (List D)) (h248 : Int) (k : Exit → St → Option R) : vexec (law20_visits_C n) n law20_visits_c9 ⟨54, [(0, .d (D.int .i64 a0)), (5, .ptr 100011 0), (6, .arr 1006), (7, .d (D.int .i64 h14)), (8, .ptr 8 0), (9, .d (D.int .i64 h242))], [(1082, .arr 3 1 h243), (8, .box [.d (D.int .i64 w172), .d (D.int .i64 w173), .arr 1082]), (1006, .arr 28 3 h15), (100011, .box [.d (D.sl 1 h247), .d (D.int .i64 h248)])]⟩ k = law20_visits_p16 n a0 h14 h242 h243 w172 w173 h15 h247 h248 (fun z258 z259 z260 z261 => k .normal ⟨54, [(0, .d (D.int .i64 a0)), (5, .ptr 100011 0), (6, .arr 1006), (7, .d (D.int .i64 h14)), (8, .ptr 8 0), (9, .d (D.int .i64 z258))], [(1082, .arr 3 1 z259), (8, .box [.d (D.int .i64 w172), .d (D.int .i64 w173), .arr 1082]), (1006, .arr 28 3 h15), (100011, .box [.d (D.sl 1 z260), .d (D.int .i64 z261)])]⟩) (fun z262 => k (.exit 2) ⟨54, [(0, .d (D.int .i64 a0)), (5, .ptr 100011 0), (6, .arr 1006), (7, .d (D.int .i64 h14)), (8, .ptr 8 0), (9, .d (D.int .i64 h242)), (37, .d (D.bool z262))], [(8, .box [.d (D.int .i64 w172), .d (D.int .i64 w173), .arr 1082]), (1006, .arr 28 3 h15), (1082, .arr 3 1 h243), (100011, .box [.d (D.sl 1 h247), .d (D.int .i64 h248)])]⟩) := by kernel_rfl
theorem law20_visits_r17_eq {R : Type} (n : Nat) (a0 : Int) (h14 : Int) (w172 : Int) (w173 : Int) (h15 : List (List D)) (k : Exit → St → Option R) : ∀ (m : Nat) (h242 : Int) (h243 : List (List D)) (h247 : List (List D)) (h248 : Int), loopN (vexec (law20_visits_C n) n law20_visits_c9) m ⟨54, [(0, .d (D.int .i64 a0)), (5, .ptr 100011 0), (6, .arr 1006), (7, .d (D.int .i64 h14)), (8, .ptr 8 0), (9, .d (D.int .i64 h242))], [(1082, .arr 3 1 h243), (8, .box [.d (D.int .i64 w172), .d (D.int .i64 w173), .arr 1082]), (1006, .arr 28 3 h15), (100011, .box [.d (D.sl 1 h247), .d (D.int .i64 h248)])]⟩ k = law20_visits_r17 n a0 h14 w172 w173 h15 (fun h242 w267 h243 h247 h248 => k (.exit 2) ⟨54, [(0, .d (D.int .i64 a0)), (5, .ptr 100011 0), (6, .arr 1006), (7, .d (D.int .i64 h14)), (8, .ptr 8 0), (9, .d (D.int .i64 h242)), (37, .d (D.bool w267))], [(8, .box [.d (D.int .i64 w172), .d (D.int .i64 w173), .arr 1082]), (1006, .arr 28 3 h15), (1082, .arr 3 1 h243), (100011, .box [.d (D.sl 1 h247), .d (D.int .i64 h248)])]⟩) m h242 h243 h247 h248
  | 0, _, _, _, _ => rfl
  | m + 1, h242, h243, h247, h248 => (law20_visits_p16_eq n a0 h14 h242 h243 w172 w173 h15 h247 h248 (loopK (vexec (law20_visits_C n) n law20_visits_c9) m k)).trans (law20_visits_p16_congr n a0 h14 h242 h243 w172 w173 h15 h247 h248 (fun w263 w264 w265 w266 => law20_visits_r17_eq n a0 h14 w172 w173 h15 k m w263 w264 w265 w266) (fun w267 => rfl))
theorem law20_visits_p17_eq {R : Type} (n : Nat) (a0 : Int) (h14 : Int) (w172 : Int) (w173 : Int) (h15 : List (List D)) (w238 : List (List D)) (w239 : Int) (k : Exit → St → Option R) : vexec (law20_visits_C n) n law20_visits_c10 ⟨54, [(0, .d (D.int .i64 a0)), (5, .ptr 100011 0), (6, .arr 1006), (7, .d (D.int .i64 h14)), (8, .ptr 8 0), (9, .d (D.int .i64 (0 : Int)))], [(1082, .arr 3 1 []), (8, .box [.d (D.int .i64 w172), .d (D.int .i64 w173), .arr 1082]), (1006, .arr 28 3 h15), (100011, .box [.d (D.sl 1 w238), .d (D.int .i64 w239)])]⟩ k = law20_visits_p17 n a0 h14 w172 w173 h15 w238 w239 (fun h242 w267 h243 h247 h248 => k (.exit 2) ⟨54, [(0, .d (D.int .i64 a0)), (5, .ptr 100011 0), (6, .arr 1006), (7, .d (D.int .i64 h14)), (8, .ptr 8 0), (9, .d (D.int .i64 h242)), (37, .d (D.bool w267))], [(8, .box [.d (D.int .i64 w172), .d (D.int .i64 w173), .arr 1082]), (1006, .arr 28 3 h15), (1082, .arr 3 1 h243), (100011, .box [.d (D.sl 1 h247), .d (D.int .i64 h248)])]⟩) := by
  rw [law20_visits_c10_eq]
  exact law20_visits_r17_eq n a0 h14 w172 w173 h15 k n (0 : Int) [] w238 w239
theorem law20_visits_p18_eq {R : Type} (n : Nat) (a0 : Int) (h14 : Int) (w172 : Int) (w173 : Int) (h15 : List (List D)) (w238 : List (List D)) (w239 : Int) (k : Exit → St → Option R) : vexec (law20_visits_C n) n law20_visits_c11 ⟨54, [(0, .d (D.int .i64 a0)), (5, .ptr 100011 0), (6, .arr 1006), (7, .d (D.int .i64 h14)), (8, .ptr 8 0), (9, .d (D.int .i64 (0 : Int)))], [(1082, .arr 3 1 []), (8, .box [.d (D.int .i64 w172), .d (D.int .i64 w173), .arr 1082]), (1006, .arr 28 3 h15), (100011, .box [.d (D.sl 1 w238), .d (D.int .i64 w239)])]⟩ k = law20_visits_p18 n a0 h14 w172 w173 h15 w238 w239 (fun w268 w269 w270 w271 w272 => k .normal ⟨54, [(0, .d (D.int .i64 a0)), (5, .ptr 100011 0), (6, .arr 1006), (7, .d (D.int .i64 h14)), (8, .ptr 8 0), (9, .d (D.int .i64 w268)), (37, .d (D.bool w269))], [(8, .box [.d (D.int .i64 w172), .d (D.int .i64 w173), .arr 1082]), (1006, .arr 28 3 h15), (1082, .arr 3 1 w270), (100011, .box [.d (D.sl 1 w271), .d (D.int .i64 w272)])]⟩) := by
  rw [law20_visits_c11_eq]
  unfold law20_visits_p18
  exact (law20_visits_p17_eq n a0 h14 w172 w173 h15 w238 w239 (blockK 2 k)).trans (law20_visits_p17_congr n a0 h14 w172 w173 h15 w238 w239 (fun w268 w269 w270 w271 w272 => rfl))
theorem law20_visits_p19_eq {R : Type} (n : Nat) (a0 : Int) (h14 : Int) (w237 : Bool) (w172 : Int) (w173 : Int) (h15 : List (List D)) (w238 : List (List D)) (w239 : Int) (k : Exit → St → Option R) : vexec (law20_visits_C n) n law20_visits_c12 ⟨54, [(0, .d (D.int .i64 a0)), (5, .ptr 100011 0), (6, .arr 1006), (7, .d (D.int .i64 h14)), (8, .ptr 8 0), (28, .d (D.bool w237))], [(8, .box [.d (D.int .i64 w172), .d (D.int .i64 w173), .nil]), (1006, .arr 28 3 h15), (100011, .box [.d (D.sl 1 w238), .d (D.int .i64 w239)])]⟩ k = law20_visits_p19 n a0 h14 w237 w172 w173 h15 w238 w239 (fun w273 w274 w275 w276 w277 => k .normal ⟨54, [(0, .d (D.int .i64 a0)), (5, .ptr 100011 0), (6, .arr 1006), (7, .d (D.int .i64 h14)), (8, .ptr 8 0), (9, .d (D.int .i64 w273)), (37, .d (D.bool w274))], [(8, .box [.d (D.int .i64 w172), .d (D.int .i64 w173), .arr 1082]), (1006, .arr 28 3 h15), (1082, .arr 3 1 w275), (100011, .box [.d (D.sl 1 w276), .d (D.int .i64 w277)])]⟩) := by
  rw [law20_visits_c12_eq]
  unfold law20_visits_p19
  exact (law20_visits_p15_eq n a0 h14 w237 w172 w173 h15 w238 w239 (seqK (law20_visits_C n) n law20_visits_c11 k)).trans (law20_visits_p15_congr n a0 h14 w237 w172 w173 h15 w238 w239 (law20_visits_p18_eq n a0 h14 w172 w173 h15 w238 w239 k))
theorem law20_visits_p20_eq {R : Type} (n : Nat) (a0 : Int) (h14 : Int) (w278 : Int) (w279 : Bool) (w172 : Int) (w173 : Int) (h15 : List (List D)) (w280 : List (List D)) (w281 : List (List D)) (w282 : Int) (k : Exit → St → Option R) : vexec (law20_visits_C n) n law20_visits_c13 ⟨54, [(0, .d (D.int .i64 a0)), (5, .ptr 100011 0), (6, .arr 1006), (7, .d (D.int .i64 h14)), (8, .ptr 8 0), (9, .d (D.int .i64 w278)), (37, .d (D.bool w279))], [(8, .box [.d (D.int .i64 w172), .d (D.int .i64 w173), .arr 1082]), (1006, .arr 28 3 h15), (1082, .arr 3 1 w280), (100011, .box [.d (D.sl 1 w281), .d (D.int .i64 w282)])]⟩ k = law20_visits_p20 n a0 h14 w278 w279 w172 w173 h15 w280 w281 w282 (fun z284 => k .normal ⟨54, [(0, .d (D.int .i64 a0)), (5, .ptr 100011 0), (6, .arr 1006), (7, .d (D.int .i64 h14))], [(1006, .arr 28 3 z284), (100011, .box [.d (D.sl 1 w281), .d (D.int .i64 w282)])]⟩) := by kernel_rfl
theorem law20_visits_p21_eq {R : Type} (n : Nat) (a0 : Int) (h14 : Int) (w237 : Bool) (w172 : Int) (w173 : Int) (h15 : List (List D)) (w238 : List (List D)) (w239 : Int) (k : Exit → St → Option R) : vexec (law20_visits_C n) n law20_visits_c14 ⟨54, [(0, .d (D.int .i64 a0)), (5, .ptr 100011 0), (6, .arr 1006), (7, .d (D.int .i64 h14)), (8, .ptr 8 0), (28, .d (D.bool w237))], [(8, .box [.d (D.int .i64 w172), .d (D.int .i64 w173), .nil]), (1006, .arr 28 3 h15), (100011, .box [.d (D.sl 1 w238), .d (D.int .i64 w239)])]⟩ k = law20_visits_p21 n a0 h14 w237 w172 w173 h15 w238 w239 (fun w285 w281 w282 => k .normal ⟨54, [(0, .d (D.int .i64 a0)), (5, .ptr 100011 0), (6, .arr 1006), (7, .d (D.int .i64 h14))], [(1006, .arr 28 3 w285), (100011, .box [.d (D.sl 1 w281), .d (D.int .i64 w282)])]⟩) := by
  rw [law20_visits_c14_eq]
  unfold law20_visits_p21
  exact (law20_visits_p19_eq n a0 h14 w237 w172 w173 h15 w238 w239 (seqK (law20_visits_C n) n law20_visits_c13 k)).trans (law20_visits_p19_congr n a0 h14 w237 w172 w173 h15 w238 w239 (fun w278 w279 w280 w281 w282 => law20_visits_p20_eq n a0 h14 w278 w279 w172 w173 h15 w280 w281 w282 k))
theorem law20_visits_p22_eq {R : Type} (n : Nat) (a0 : Int) (h14 : Int) (w172 : Int) (w173 : Int) (h15 : List (List D)) (w174 : List (List D)) (w175 : Int) (k : Exit → St → Option R) : vexec (law20_visits_C n) n law20_visits_c15 ⟨54, [(0, .d (D.int .i64 a0)), (5, .ptr 100011 0), (6, .arr 1006), (7, .d (D.int .i64 h14)), (8, .ptr 8 0)], [(8, .box [.d (D.int .i64 w172), .d (D.int .i64 w173), .nil]), (1006, .arr 28 3 h15), (100011, .box [.d (D.sl 1 w174), .d (D.int .i64 w175)])]⟩ k = law20_visits_p22 n a0 h14 w172 w173 h15 w174 w175 (fun z289 z290 z291 => k .normal ⟨54, [(0, .d (D.int .i64 a0)), (5, .ptr 100011 0), (6, .arr 1006), (7, .d (D.int .i64 h14))], [(1006, .arr 28 3 z289), (100011, .box [.d (D.sl 1 z290), .d (D.int .i64 z291)])]⟩) := by
  rw [law20_visits_c15_eq]
  unfold law20_visits_p22
  exact (law20_visits_p7_eq n a0 h14 w172 w173 h15 w174 w175 (seqK (law20_visits_C n) n law20_visits_c14 k)).trans (law20_visits_p7_congr n a0 h14 w172 w173 h15 w174 w175 (fun w185 w186 w187 => law20_visits_p14_eq n a0 h14 w172 w185 h15 w186 w187 k) (fun w237 w238 w239 => law20_visits_p21_eq n a0 h14 w237 w172 w173 h15 w238 w239 k))
theorem law20_visits_p23_eq {R : Type} (n : Nat) (a0 : Int) (h14 : Int) (w165 : Bool) (h15 : List (List D)) (h16 : List (List D)) (h17 : Int) (k : Exit → St → Option R) : vexec (law20_visits_C n) n law20_visits_c16 ⟨54, [(0, .d (D.int .i64 a0)), (5, .ptr 100011 0), (6, .arr 1006), (7, .d (D.int .i64 h14)), (15, .d (D.bool w165))], [(1006, .arr 28 3 h15), (100011, .box [.d (D.sl 1 h16), .d (D.int .i64 h17)])]⟩ k = law20_visits_p23 n a0 h14 w165 h15 h16 h17 (fun w292 w293 w294 => k .normal ⟨54, [(0, .d (D.int .i64 a0)), (5, .ptr 100011 0), (6, .arr 1006), (7, .d (D.int .i64 h14))], [(1006, .arr 28 3 w292), (100011, .box [.d (D.sl 1 w293), .d (D.int .i64 w294)])]⟩) := by
  rw [law20_visits_c16_eq]
  unfold law20_visits_p23
  exact (law20_visits_p6_eq n a0 h14 w165 h15 h16 h17 (seqK (law20_visits_C n) n law20_visits_c15 k)).trans (law20_visits_p6_congr n a0 h14 w165 h15 h16 h17 (fun w172 w173 w174 w175 => law20_visits_p22_eq n a0 h14 w172 w173 h15 w174 w175 k))
theorem law20_visits_p24_eq {R : Type} (n : Nat) (a0 : Int) (h14 : Int) (w165 : Bool) (h15 : List (List D)) (h16 : List (List D)) (h17 : Int) (k : Exit → St → Option R) : vexec (law20_visits_C n) n law20_visits_c17 ⟨54, [(0, .d (D.int .i64 a0)), (5, .ptr 100011 0), (6, .arr 1006), (7, .d (D.int .i64 h14)), (15, .d (D.bool w165))], [(1006, .arr 28 3 h15), (100011, .box [.d (D.sl 1 h16), .d (D.int .i64 h17)])]⟩ k = law20_visits_p24 n a0 h14 w165 h15 h16 h17 (fun w295 w296 w297 => k .normal ⟨54, [(0, .d (D.int .i64 a0)), (5, .ptr 100011 0), (6, .arr 1006), (7, .d (D.int .i64 h14))], [(1006, .arr 28 3 w295), (100011, .box [.d (D.sl 1 w296), .d (D.int .i64 w297)])]⟩) := by
  rw [law20_visits_c17_eq]
  unfold law20_visits_p24
  exact (law20_visits_p23_eq n a0 h14 w165 h15 h16 h17 (blockK 1 k)).trans (law20_visits_p23_congr n a0 h14 w165 h15 h16 h17 (fun w295 w296 w297 => rfl))
theorem law20_visits_p25_eq {R : Type} (n : Nat) (a0 : Int) (h14 : Int) (w298 : List (List D)) (w299 : List (List D)) (w300 : Int) (k : Exit → St → Option R) : vexec (law20_visits_C n) n law20_visits_c18 ⟨54, [(0, .d (D.int .i64 a0)), (5, .ptr 100011 0), (6, .arr 1006), (7, .d (D.int .i64 h14))], [(1006, .arr 28 3 w298), (100011, .box [.d (D.sl 1 w299), .d (D.int .i64 w300)])]⟩ k = law20_visits_p25 n a0 h14 w298 w299 w300 (fun z301 => k .normal ⟨54, [(0, .d (D.int .i64 a0)), (5, .ptr 100011 0), (6, .arr 1006), (7, .d (D.int .i64 z301))], [(1006, .arr 28 3 w298), (100011, .box [.d (D.sl 1 w299), .d (D.int .i64 w300)])]⟩) := by kernel_rfl
theorem law20_visits_p26_eq {R : Type} (n : Nat) (a0 : Int) (h14 : Int) (w165 : Bool) (h15 : List (List D)) (h16 : List (List D)) (h17 : Int) (k : Exit → St → Option R) : vexec (law20_visits_C n) n law20_visits_c19 ⟨54, [(0, .d (D.int .i64 a0)), (5, .ptr 100011 0), (6, .arr 1006), (7, .d (D.int .i64 h14)), (15, .d (D.bool w165))], [(1006, .arr 28 3 h15), (100011, .box [.d (D.sl 1 h16), .d (D.int .i64 h17)])]⟩ k = law20_visits_p26 n a0 h14 w165 h15 h16 h17 (fun w302 w298 w299 w300 => k .normal ⟨54, [(0, .d (D.int .i64 a0)), (5, .ptr 100011 0), (6, .arr 1006), (7, .d (D.int .i64 w302))], [(1006, .arr 28 3 w298), (100011, .box [.d (D.sl 1 w299), .d (D.int .i64 w300)])]⟩) := by
  rw [law20_visits_c19_eq]
  unfold law20_visits_p26
  exact (law20_visits_p24_eq n a0 h14 w165 h15 h16 h17 (seqK (law20_visits_C n) n law20_visits_c18 k)).trans (law20_visits_p24_congr n a0 h14 w165 h15 h16 h17 (fun w298 w299 w300 => law20_visits_p25_eq n a0 h14 w298 w299 w300 k))
theorem law20_visits_p27_eq {R : Type} (n : Nat) (a0 : Int) (h14 : Int) (h15 : List (List D)) (h16 : List (List D)) (h17 : Int) (k : Exit → St → Option R) : vexec (law20_visits_C n) n law20_visits_c20 ⟨54, [(0, .d (D.int .i64 a0)), (5, .ptr 100011 0), (6, .arr 1006), (7, .d (D.int .i64 h14))], [(1006, .arr 28 3 h15), (100011, .box [.d (D.sl 1 h16), .d (D.int .i64 h17)])]⟩ k = law20_visits_p27 n a0 h14 h15 h16 h17 (fun w303 w304 w305 w306 => k .normal ⟨54, [(0, .d (D.int .i64 a0)), (5, .ptr 100011 0), (6, .arr 1006), (7, .d (D.int .i64 w303))], [(1006, .arr 28 3 w304), (100011, .box [.d (D.sl 1 w305), .d (D.int .i64 w306)])]⟩) (fun w307 => k (.exit 0) ⟨54, [(0, .d (D.int .i64 a0)), (5, .ptr 100011 0), (6, .arr 1006), (7, .d (D.int .i64 h14)), (15, .d (D.bool w307))], [(1006, .arr 28 3 h15), (100011, .box [.d (D.sl 1 h16), .d (D.int .i64 h17)])]⟩) := by
  rw [law20_visits_c20_eq]
  unfold law20_visits_p27
  exact (law20_visits_p5_eq n a0 h14 h15 h16 h17 (seqK (law20_visits_C n) n law20_visits_c19 k)).trans (law20_visits_p5_congr n a0 h14 h15 h16 h17 (fun w165 => law20_visits_p26_eq n a0 h14 w165 h15 h16 h17 k) (fun w307 => rfl))
theorem law20_visits_r28_eq {R : Type} (n : Nat) (a0 : Int) (k : Exit → St → Option R) : ∀ (m : Nat) (h14 : Int) (h15 : List (List D)) (h16 : List (List D)) (h17 : Int), loopN (vexec (law20_visits_C n) n law20_visits_c20) m ⟨54, [(0, .d (D.int .i64 a0)), (5, .ptr 100011 0), (6, .arr 1006), (7, .d (D.int .i64 h14))], [(1006, .arr 28 3 h15), (100011, .box [.d (D.sl 1 h16), .d (D.int .i64 h17)])]⟩ k = law20_visits_r28 n a0 (fun h14 w312 h15 h16 h17 => k (.exit 0) ⟨54, [(0, .d (D.int .i64 a0)), (5, .ptr 100011 0), (6, .arr 1006), (7, .d (D.int .i64 h14)), (15, .d (D.bool w312))], [(1006, .arr 28 3 h15), (100011, .box [.d (D.sl 1 h16), .d (D.int .i64 h17)])]⟩) m h14 h15 h16 h17
  | 0, _, _, _, _ => rfl
  | m + 1, h14, h15, h16, h17 => (law20_visits_p27_eq n a0 h14 h15 h16 h17 (loopK (vexec (law20_visits_C n) n law20_visits_c20) m k)).trans (law20_visits_p27_congr n a0 h14 h15 h16 h17 (fun w308 w309 w310 w311 => law20_visits_r28_eq n a0 k m w308 w309 w310 w311) (fun w312 => rfl))
theorem law20_visits_p28_eq {R : Type} (n : Nat) (a0 : Int) (w10 : Int) (w11 : List (List D)) (w12 : Int) (k : Exit → St → Option R) : vexec (law20_visits_C n) n law20_visits_c21 ⟨54, [(0, .d (D.int .i64 a0)), (5, .ptr 100011 0), (6, .arr 1006), (7, .d (D.int .i64 w10))], [(1006, .arr 28 3 []), (100011, .box [.d (D.sl 1 w11), .d (D.int .i64 w12)])]⟩ k = law20_visits_p28 n a0 w10 w11 w12 (fun h14 w312 h15 h16 h17 => k (.exit 0) ⟨54, [(0, .d (D.int .i64 a0)), (5, .ptr 100011 0), (6, .arr 1006), (7, .d (D.int .i64 h14)), (15, .d (D.bool w312))], [(1006, .arr 28 3 h15), (100011, .box [.d (D.sl 1 h16), .d (D.int .i64 h17)])]⟩) := by
  rw [law20_visits_c21_eq]
  exact law20_visits_r28_eq n a0 k n w10 [] w11 w12
theorem law20_visits_p29_eq {R : Type} (n : Nat) (a0 : Int) (w10 : Int) (w11 : List (List D)) (w12 : Int) (k : Exit → St → Option R) : vexec (law20_visits_C n) n law20_visits_c22 ⟨54, [(0, .d (D.int .i64 a0)), (5, .ptr 100011 0), (6, .arr 1006), (7, .d (D.int .i64 w10))], [(1006, .arr 28 3 []), (100011, .box [.d (D.sl 1 w11), .d (D.int .i64 w12)])]⟩ k = law20_visits_p29 n a0 w10 w11 w12 (fun w313 w314 w315 w316 w317 => k .normal ⟨54, [(0, .d (D.int .i64 a0)), (5, .ptr 100011 0), (6, .arr 1006), (7, .d (D.int .i64 w313)), (15, .d (D.bool w314))], [(1006, .arr 28 3 w315), (100011, .box [.d (D.sl 1 w316), .d (D.int .i64 w317)])]⟩) := by
  rw [law20_visits_c22_eq]
  unfold law20_visits_p29
  exact (law20_visits_p28_eq n a0 w10 w11 w12 (blockK 0 k)).trans (law20_visits_p28_congr n a0 w10 w11 w12 (fun w313 w314 w315 w316 w317 => rfl))
theorem law20_visits_p30_eq {R : Type} (n : Nat) (a0 : Int) (w4 : List (List D)) (w5 : Int) (k : Exit → St → Option R) : vexec (law20_visits_C n) n law20_visits_c23 ⟨54, [(0, .d (D.int .i64 a0)), (5, .ptr 100011 0), (6, .nil)], [(100011, .box [.d (D.sl 1 w4), .d (D.int .i64 w5)])]⟩ k = law20_visits_p30 n a0 w4 w5 (fun w318 w319 w320 w321 w322 => k .normal ⟨54, [(0, .d (D.int .i64 a0)), (5, .ptr 100011 0), (6, .arr 1006), (7, .d (D.int .i64 w318)), (15, .d (D.bool w319))], [(1006, .arr 28 3 w320), (100011, .box [.d (D.sl 1 w321), .d (D.int .i64 w322)])]⟩) := by
  rw [law20_visits_c23_eq]
  unfold law20_visits_p30
  exact (law20_visits_p4_eq n a0 w4 w5 (seqK (law20_visits_C n) n law20_visits_c22 k)).trans (law20_visits_p4_congr n a0 w4 w5 (fun w10 w11 w12 => law20_visits_p29_eq n a0 w10 w11 w12 k))
theorem law20_visits_p31_eq {R : Type} (n : Nat) (a0 : Int) (w323 : Int) (w324 : Bool) (w325 : List (List D)) (w326 : List (List D)) (w327 : Int) (k : Exit → St → Option R) : vexec (law20_visits_C n) n law20_visits_c24 ⟨54, [(0, .d (D.int .i64 a0)), (5, .ptr 100011 0), (6, .arr 1006), (7, .d (D.int .i64 w323)), (15, .d (D.bool w324))], [(1006, .arr 28 3 w325), (100011, .box [.d (D.sl 1 w326), .d (D.int .i64 w327)])]⟩ k = law20_visits_p31 n a0 w323 w324 w325 w326 w327 (k .ret ⟨54, [(4, .arr 1006)], [(1006, .arr 28 3 w325)]⟩) := by kernel_rfl
theorem law20_visits_p32_eq {R : Type} (n : Nat) (a0 : Int) (w4 : List (List D)) (w5 : Int) (k : Exit → St → Option R) : vexec (law20_visits_C n) n law20_visits_c25 ⟨54, [(0, .d (D.int .i64 a0)), (5, .ptr 100011 0), (6, .nil)], [(100011, .box [.d (D.sl 1 w4), .d (D.int .i64 w5)])]⟩ k = law20_visits_p32 n a0 w4 w5 (fun w325 => k .ret ⟨54, [(4, .arr 1006)], [(1006, .arr 28 3 w325)]⟩) := by
  rw [law20_visits_c25_eq]
  unfold law20_visits_p32
  exact (law20_visits_p30_eq n a0 w4 w5 (seqK (law20_visits_C n) n law20_visits_c24 k)).trans (law20_visits_p30_congr n a0 w4 w5 (fun w323 w324 w325 w326 w327 => law20_visits_p31_eq n a0 w323 w324 w325 w326 w327 k))
theorem law20_visits_p33_eq {R : Type} (n : Nat) (a0 : Int) (w4 : List (List D)) (w5 : Int) (k : Exit → St → Option R) : vexec (law20_visits_C n) n law20_visits_c26 ⟨54, [(0, .d (D.int .i64 a0)), (5, .ptr 100011 0)], [(100011, .box [.d (D.sl 1 w4), .d (D.int .i64 w5)])]⟩ k = law20_visits_p33 n a0 w4 w5 (fun w328 => k .ret ⟨54, [(4, .arr 1006)], [(1006, .arr 28 3 w328)]⟩) := by
  rw [law20_visits_c26_eq]
  unfold law20_visits_p33
  exact (law20_visits_p3_eq n a0 w4 w5 (seqK (law20_visits_C n) n law20_visits_c25 k)).trans (law20_visits_p3_congr n a0 w4 w5 (law20_visits_p32_eq n a0 w4 w5 k))
theorem law20_visits_p34_eq {R : Type} (n : Nat) (a0 : Int) (a1 : List (List D)) (k : Exit → St → Option R) : vexec (law20_visits_C n) n law20_visits_c27 ⟨54, [(0, .d (D.int .i64 a0)), (1, .d (D.sl 1 a1))], []⟩ k = law20_visits_p34 n a0 a1 (fun w329 => k .ret ⟨54, [(4, .arr 1006)], [(1006, .arr 28 3 w329)]⟩) := by
  rw [law20_visits_c27_eq]
  unfold law20_visits_p34
  exact (law20_visits_p2_eq n a0 a1 (seqK (law20_visits_C n) n law20_visits_c26 k)).trans (law20_visits_p2_congr n a0 a1 (fun w4 w5 => law20_visits_p33_eq n a0 w4 w5 k))
theorem law20_visits_p35_eq {R : Type} (n : Nat) (a0 : Int) (a1 : List (List D)) (k : Exit → St → Option R) : vexec (law20_visits_C n) n law20_visits_c0 ⟨54, [(0, .d (D.int .i64 a0)), (1, .d (D.sl 1 a1))], []⟩ k = law20_visits_p35 n a0 a1 (fun w330 => k .ret ⟨54, [(4, .arr 1006)], [(1006, .arr 28 3 w330)]⟩) := by
  rw [law20_visits_c0_eq]
  unfold law20_visits_p35
  exact (law20_visits_p1_eq n a0 a1 (seqK (law20_visits_C n) n law20_visits_c27 k)).trans (law20_visits_p1_congr n a0 a1 (law20_visits_p34_eq n a0 a1 k))
theorem law20_visits_vfn {R : Type} (n : Nat) (a0 : Int) (a1 : List (List D)) (K : AV → Option R) : vfn (law20_visits_C n) n Try.f11 [.d (D.int .i64 a0), .d (D.sl 1 a1)] [] (retF [[3]] K) = law20_visits n a0 a1 (fun r0 => K (.d (D.sl 3 r0))) :=
  (show vfn (law20_visits_C n) n Try.f11 [.d (D.int .i64 a0), .d (D.sl 1 a1)] [] (retF [[3]] K) = vexec (law20_visits_C n) n law20_visits_c0 ⟨54, [(0, .d (D.int .i64 a0)), (1, .d (D.sl 1 a1))], []⟩ (retX law20_visits_tt [.tmp 4] (retF [[3]] K)) from vfn_at (by kernel_rfl) (by kernel_rfl) rfl (by kernel_rfl) rfl (by kernel_rfl) rfl).trans ((law20_visits_p35_eq n a0 a1 (retX law20_visits_tt [.tmp 4] (retF [[3]] K))).trans (by kernel_rfl))
def law20_visits_K : AV → Option (List (List D)) := fun av => match av with
  | .d (D.sl 3 r0) => some r0
  | _ => none
def law20_visits_e (n : Nat) : Entry := fun _ _ g avs _ k => match avs with
  | [c0, c1] => prI g .i64 c0 fun a0 => prS g 1 c1 fun a1 => 
    gb g (law20_visits n a0 a1 some) [] fun r => k ⟨.d (D.sl 3 r), [], []⟩
  | _ => none
theorem law20_visits_ok (n : Nat) : EntryOK Try.prog 11 (law20_visits_e n) := by
  intro R site g avs hl k r h
  unfold law20_visits_e at h
  split at h
  rotate_left
  · cases h
  replace h := prI_some h
  obtain ⟨a0, h, le0⟩ := h
  replace h := prS_some h
  obtain ⟨a1, h, le1⟩ := h
  replace h := gb_some h
  obtain ⟨res, h, hr⟩ := h
  refine ⟨_, h, fun hg => CallOK.conv (avs' := [.d (D.int .i64 a0), .d (D.sl 1 a1)]) (.cons (le0 hg) (.cons (le1 hg) (.nil))) (callOK_fix (K := law20_visits_K) (res := res) (law20_visits_VC n) (fn := Try.f11) (n := n) (by kernel_rfl) (by kernel_rfl) (by kernel_rfl) (ss := [[3]]) rfl ?_ ?_)⟩
  · exact (law20_visits_vfn n a0 a1 law20_visits_K).trans (hr hg)
  · intro x hx
    unfold law20_visits_K at hx
    split at hx
    · injection hx with hx; subst hx; rfl
    · cases hx
def law20_visits_Ko : AV → List (Nat × Ob) → Option (List (List D)) := fun av H => (look H 1006).bind fun o0 => match av, o0 with
  | .arr p0, .arr p1 p2 r0 => bif Nat.beq p0 1006 && (Nat.beq p1 28 && (Nat.beq p2 3)) then some r0 else none
  | _, _ => none
theorem law20_visits_vfo (n : Nat) (a0 : Int) (a1 : List (List D)) : vfn (law20_visits_C n) n Try.f11 [.d (D.int .i64 a0), .d (D.sl 1 a1)] [] law20_visits_Ko = law20_visits n a0 a1 some :=
  (show vfn (law20_visits_C n) n Try.f11 [.d (D.int .i64 a0), .d (D.sl 1 a1)] [] law20_visits_Ko = vexec (law20_visits_C n) n law20_visits_c0 ⟨54, [(0, .d (D.int .i64 a0)), (1, .d (D.sl 1 a1))], []⟩ (retX law20_visits_tt [.tmp 4] law20_visits_Ko) from vfn_at (by kernel_rfl) (by kernel_rfl) rfl (by kernel_rfl) rfl (by kernel_rfl) rfl).trans ((law20_visits_p35_eq n a0 a1 (retX law20_visits_tt [.tmp 4] law20_visits_Ko)).trans (by kernel_rfl))
def law20_visits_o (n : Nat) : Entry := fun _ site g avs hl k => match avs with
  | [c0, c1] => prI g .i64 c0 fun a0 => prS g 1 c1 fun a1 => 
    bif newsOk hl [] [(1006, (site + 100000))] then gb g (law20_visits n a0 a1 some) [] fun r => k ⟨.arr (site + 100000), [((site + 100000), some (.arr 28 3 r))], []⟩ else none
  | _ => none
theorem law20_visits_oo (n : Nat) : EntryOK Try.prog 11 (law20_visits_o n) := by
  intro R site g avs hl k r h
  unfold law20_visits_o at h
  split at h
  rotate_left
  · cases h
  replace h := prI_some h
  obtain ⟨a0, h, le0⟩ := h
  replace h := prS_some h
  obtain ⟨a1, h, le1⟩ := h
  replace h := bif_some h
  obtain ⟨hc, h⟩ := h
  replace h := gb_some h
  obtain ⟨res, h, hr⟩ := h
  refine ⟨_, h, fun hg => CallOK.conv (avs' := [.d (D.int .i64 a0), .d (D.sl 1 a1)]) (.cons (le0 hg) (.cons (le1 hg) (.nil))) (callOK_own (K := law20_visits_Ko) (res := res) (law20_visits_VC n) (fn := Try.f11) (n := n) (by kernel_rfl) (by kernel_rfl) (by kernel_rfl) (ρ := []) (ν := [(1006, (site + 100000))]) (avs' := [.d (D.int .i64 a0), .d (D.sl 1 a1)]) (H := []) rfl rfl rfl rfl hc (trivial) rfl rfl ?_ ?_)⟩
  · exact (law20_visits_vfo n a0 a1).trans (hr hg)
  · intro av H' hx
    unfold law20_visits_Ko at hx
    replace hx := Option.bind_eq_some_iff.1 hx
    obtain ⟨o0, ho0, hx⟩ := hx
    split at hx
    rotate_left
    · cases hx
    replace hx := bif_some hx
    obtain ⟨hck, hx⟩ := hx
    simp only [Bool.and_eq_true] at hck
    obtain ⟨ek0, ek1, ek2⟩ := hck
    have ek0 := Nat.eq_of_beq_eq_true ek0
    subst ek0
    have ek1 := Nat.eq_of_beq_eq_true ek1
    subst ek1
    have ek2 := Nat.eq_of_beq_eq_true ek2
    subst ek2
    injection hx with hx
    subst hx
    refine ⟨rfl, ?_, ⟨by rw [ho0]; rfl, trivial⟩, trivial⟩
    simp only [List.cons_append, List.nil_append, outWr, ho0, Option.map_some]
    rfl
end Go.Vx
/-
  ref1_Mod: the interpreter computes the pure function
-/
set_option linter.unusedVariables false
set_option linter.unusedSimpArgs false
set_option maxRecDepth 100000
namespace Go.Vx
open Go.Proofs
noncomputable def ref1_Mod_c0 : Code := bodyOf Try.f13
def ref1_Mod_tt : TT := [(3, ⟨.int .i64, 1, 8, [.int .i64 0], [.int .i64 0], [], none⟩)]
theorem ref1_Mod_tt_eq : mkTT Try.prog [3] = ref1_Mod_tt := by kernel_rfl
def ref1_Mod_cfg : List (Nat × Cfg) := [(0, ⟨[0, 1], [], [], [], []⟩), (1, ⟨[0, 1, 7], [], [], [], []⟩), (2, ⟨[4], [], [], [], []⟩), (3, ⟨[1, 5], [], [], [], []⟩), (4, ⟨[1, 5, 12], [], [], [], []⟩), (5, ⟨[5], [], [], [], []⟩), (6, ⟨[4], [], [], [], []⟩)]
def ref1_Mod_C (n : Nat) : VC := ⟨specOf [], ref1_Mod_tt, ref1_Mod_cfg⟩
theorem ref1_Mod_ents (n : Nat) : EntsOK Try.prog [] := trivial
theorem ref1_Mod_VC (n : Nat) : VCOk Try.prog (ref1_Mod_C n) := ⟨specOf_ok (ref1_Mod_ents n), (ref1_Mod_tt_eq ▸ mkTT_ok _ : TOk Try.prog ref1_Mod_tt), by kernel_rfl⟩
theorem ref1_Mod_p1_congr {R : Type} (n : Nat) (a0 : Int) (a1 : Int) {k0 kk0 : Int → Option R} (hq0 : ∀ x0, k0 x0 = kk0 x0) : ref1_Mod_p1 n a0 a1 k0 = ref1_Mod_p1 n a0 a1 kk0 := by
  obtain rfl : k0 = kk0 := funext fun x0 => hq0 x0
  rfl
theorem ref1_Mod_p1_eq {R : Type} (n : Nat) (a0 : Int) (a1 : Int) (k : Exit → St → Option R) : vexec (ref1_Mod_C n) n ref1_Mod_c0 ⟨17, [(0, .d (D.int .i64 a0)), (1, .d (D.int .i64 a1))], []⟩ k = ref1_Mod_p1 n a0 a1 (fun z2 => k .ret ⟨17, [(4, .d (D.int .i64 z2))], []⟩) := by kernel_rfl
theorem ref1_Mod_vfn {R : Type} (n : Nat) (a0 : Int) (a1 : Int) (K : AV → Option R) : vfn (ref1_Mod_C n) n Try.f13 [.d (D.int .i64 a0), .d (D.int .i64 a1)] [] (retF [[0]] K) = ref1_Mod n a0 a1 (fun r0 => K (.d (D.int .i64 r0))) :=
  (show vfn (ref1_Mod_C n) n Try.f13 [.d (D.int .i64 a0), .d (D.int .i64 a1)] [] (retF [[0]] K) = vexec (ref1_Mod_C n) n ref1_Mod_c0 ⟨17, [(0, .d (D.int .i64 a0)), (1, .d (D.int .i64 a1))], []⟩ (retX ref1_Mod_tt [.tmp 4] (retF [[0]] K)) from vfn_at (by kernel_rfl) (by kernel_rfl) rfl (by kernel_rfl) rfl (by kernel_rfl) rfl).trans ((ref1_Mod_p1_eq n a0 a1 (retX ref1_Mod_tt [.tmp 4] (retF [[0]] K))).trans (by kernel_rfl))
def ref1_Mod_K : AV → Option (Int) := fun av => match av with
  | .d (D.int .i64 r0) => some r0
  | _ => none
def ref1_Mod_e (n : Nat) : Entry := fun _ _ g avs _ k => match avs with
  | [c0, c1] => prI g .i64 c0 fun a0 => prI g .i64 c1 fun a1 => 
    gb g (ref1_Mod n a0 a1 some) 0 fun r => k ⟨.d (D.int .i64 r), [], []⟩
  | _ => none
theorem ref1_Mod_ok (n : Nat) : EntryOK Try.prog 13 (ref1_Mod_e n) := by
  intro R site g avs hl k r h
  unfold ref1_Mod_e at h
  split at h
  rotate_left
  · cases h
  replace h := prI_some h
  obtain ⟨a0, h, le0⟩ := h
  replace h := prI_some h
  obtain ⟨a1, h, le1⟩ := h
  replace h := gb_some h
  obtain ⟨res, h, hr⟩ := h
  refine ⟨_, h, fun hg => CallOK.conv (avs' := [.d (D.int .i64 a0), .d (D.int .i64 a1)]) (.cons (le0 hg) (.cons (le1 hg) (.nil))) (callOK_fix (K := ref1_Mod_K) (res := res) (ref1_Mod_VC n) (fn := Try.f13) (n := n) (by kernel_rfl) (by kernel_rfl) (by kernel_rfl) (ss := [[0]]) rfl ?_ ?_)⟩
  · exact (ref1_Mod_vfn n a0 a1 ref1_Mod_K).trans (hr hg)
  · intro x hx
    unfold ref1_Mod_K at hx
    split at hx
    · injection hx with hx; subst hx; rfl
    · cases hx
end Go.Vx
/-
  platform_Valid: the interpreter computes the pure function
-/
set_option linter.unusedVariables false
set_option linter.unusedSimpArgs false
set_option maxRecDepth 100000
namespace Go.Vx
open Go.Proofs
noncomputable def platform_Valid_c0 : Code := bodyOf Try.f29
noncomputable def platform_Valid_c1 : Code := cL (bodyOf Try.f29)
noncomputable def platform_Valid_c2 : Code := cL (cR (bodyOf Try.f29))
noncomputable def platform_Valid_c3 : Code := cL (cL (cR (cR (bodyOf Try.f29))))
noncomputable def platform_Valid_c4 : Code := cL (cB (cB (cR (cL (cR (cR (bodyOf Try.f29)))))))
noncomputable def platform_Valid_c5 : Code := cL (cR (cB (cB (cR (cL (cR (cR (bodyOf Try.f29))))))))
noncomputable def platform_Valid_c6 : Code := cL (cB (cL (cR (cR (cB (cB (cR (cL (cR (cR (bodyOf Try.f29)))))))))))
noncomputable def platform_Valid_c7 : Code := cL (cR (cB (cL (cR (cR (cB (cB (cR (cL (cR (cR (bodyOf Try.f29))))))))))))
noncomputable def platform_Valid_c8 : Code := cL (cR (cR (cB (cL (cR (cR (cB (cB (cR (cL (cR (cR (bodyOf Try.f29)))))))))))))
noncomputable def platform_Valid_c9 : Code := cL (cR (cR (cR (cB (cL (cR (cR (cB (cB (cR (cL (cR (cR (bodyOf Try.f29))))))))))))))
noncomputable def platform_Valid_c10 : Code := cB (cB (cR (cR (cR (cR (cB (cL (cR (cR (cB (cB (cR (cL (cR (cR (bodyOf Try.f29))))))))))))))))
noncomputable def platform_Valid_c11 : Code := cB (cR (cR (cR (cR (cB (cL (cR (cR (cB (cB (cR (cL (cR (cR (bodyOf Try.f29)))))))))))))))
noncomputable def platform_Valid_c12 : Code := cR (cR (cR (cR (cB (cL (cR (cR (cB (cB (cR (cL (cR (cR (bodyOf Try.f29))))))))))))))
noncomputable def platform_Valid_c13 : Code := cR (cR (cR (cB (cL (cR (cR (cB (cB (cR (cL (cR (cR (bodyOf Try.f29)))))))))))))
noncomputable def platform_Valid_c14 : Code := cR (cR (cB (cL (cR (cR (cB (cB (cR (cL (cR (cR (bodyOf Try.f29))))))))))))
noncomputable def platform_Valid_c15 : Code := cR (cB (cL (cR (cR (cB (cB (cR (cL (cR (cR (bodyOf Try.f29)))))))))))
noncomputable def platform_Valid_c16 : Code := cB (cL (cR (cR (cB (cB (cR (cL (cR (cR (bodyOf Try.f29))))))))))
noncomputable def platform_Valid_c17 : Code := cL (cR (cR (cB (cB (cR (cL (cR (cR (bodyOf Try.f29)))))))))
noncomputable def platform_Valid_c18 : Code := cR (cR (cR (cB (cB (cR (cL (cR (cR (bodyOf Try.f29)))))))))
noncomputable def platform_Valid_c19 : Code := cR (cR (cB (cB (cR (cL (cR (cR (bodyOf Try.f29))))))))
noncomputable def platform_Valid_c20 : Code := cR (cB (cB (cR (cL (cR (cR (bodyOf Try.f29)))))))
noncomputable def platform_Valid_c21 : Code := cB (cB (cR (cL (cR (cR (bodyOf Try.f29))))))
noncomputable def platform_Valid_c22 : Code := cB (cR (cL (cR (cR (bodyOf Try.f29)))))
noncomputable def platform_Valid_c23 : Code := cR (cL (cR (cR (bodyOf Try.f29))))
noncomputable def platform_Valid_c24 : Code := cL (cR (cR (bodyOf Try.f29)))
noncomputable def platform_Valid_c25 : Code := cR (cR (cR (bodyOf Try.f29)))
noncomputable def platform_Valid_c26 : Code := cR (cR (bodyOf Try.f29))
noncomputable def platform_Valid_c27 : Code := cR (bodyOf Try.f29)
theorem platform_Valid_c11_eq : platform_Valid_c11 = .loop platform_Valid_c10 := by kernel_rfl
theorem platform_Valid_c12_eq : platform_Valid_c12 = .block 2 platform_Valid_c11 := by kernel_rfl
theorem platform_Valid_c13_eq : platform_Valid_c13 = .seq platform_Valid_c9 platform_Valid_c12 := by kernel_rfl
theorem platform_Valid_c14_eq : platform_Valid_c14 = .seq platform_Valid_c8 platform_Valid_c13 := by kernel_rfl
theorem platform_Valid_c15_eq : platform_Valid_c15 = .seq platform_Valid_c7 platform_Valid_c14 := by kernel_rfl
theorem platform_Valid_c16_eq : platform_Valid_c16 = .seq platform_Valid_c6 platform_Valid_c15 := by kernel_rfl
theorem platform_Valid_c17_eq : platform_Valid_c17 = .block 1 platform_Valid_c16 := by kernel_rfl
theorem platform_Valid_c19_eq : platform_Valid_c19 = .seq platform_Valid_c17 platform_Valid_c18 := by kernel_rfl
theorem platform_Valid_c20_eq : platform_Valid_c20 = .seq platform_Valid_c5 platform_Valid_c19 := by kernel_rfl
theorem platform_Valid_c21_eq : platform_Valid_c21 = .seq platform_Valid_c4 platform_Valid_c20 := by kernel_rfl
theorem platform_Valid_c22_eq : platform_Valid_c22 = .loop platform_Valid_c21 := by kernel_rfl
theorem platform_Valid_c23_eq : platform_Valid_c23 = .block 0 platform_Valid_c22 := by kernel_rfl
theorem platform_Valid_c24_eq : platform_Valid_c24 = .seq platform_Valid_c3 platform_Valid_c23 := by kernel_rfl
theorem platform_Valid_c26_eq : platform_Valid_c26 = .seq platform_Valid_c24 platform_Valid_c25 := by kernel_rfl
theorem platform_Valid_c27_eq : platform_Valid_c27 = .seq platform_Valid_c2 platform_Valid_c26 := by kernel_rfl
theorem platform_Valid_c0_eq : platform_Valid_c0 = .seq platform_Valid_c1 platform_Valid_c27 := by kernel_rfl
def platform_Valid_tt : TT := [(3, ⟨.int .i64, 1, 8, [.int .i64 0], [.int .i64 0], [], none⟩), (22, ⟨.sl 3 1, 1, 24, [.slice none 0 0], [.sl 1 []], [], none⟩), (24, ⟨.sl 28 3, 1, 24, [.slice none 0 0], [.sl 3 []], [], none⟩), (28, ⟨.struct, 3, 40, [.int .i64 0, .int .i64 0, .slice none 0 0], [.int .i64 0, .int .i64 0, .sl 1 []], [(0, 3), (1, 3), (2, 22)], none⟩)]
theorem platform_Valid_tt_eq : mkTT Try.prog [3, 22, 24, 28] = platform_Valid_tt := by kernel_rfl
def platform_Valid_cfg : List (Nat × Cfg) := [(0, ⟨[0, 1], [], [], [], []⟩), (1, ⟨[0, 1, 20], [], [], [], []⟩), (2, ⟨[4], [], [], [], []⟩), (3, ⟨[0, 21, 22, 23], [], [], [], []⟩), (4, ⟨[0, 21, 22, 23, 24], [], [], [], []⟩), (5, ⟨[0, 6, 21, 22, 23], [(6, 6)], [], [], []⟩), (6, ⟨[0, 6, 21, 22, 23, 52], [(6, 6)], [], [], []⟩), (7, ⟨[4], [], [], [], []⟩), (8, ⟨[0, 6, 7, 21, 22, 23], [(6, 6)], [], [], []⟩), (9, ⟨[0, 7, 21, 22, 23, 54, 55, 56], [], [], [], []⟩), (10, ⟨[0, 7, 21, 22, 23, 54, 55, 56, 57], [], [], [], []⟩), (11, ⟨[0, 7, 9, 21, 22, 23, 54, 55, 56], [], [], [], []⟩), (12, ⟨[0, 9, 21, 22, 23, 54, 55, 56, 62], [], [], [], []⟩), (13, ⟨[4], [], [], [], []⟩), (14, ⟨[0, 7, 21, 22, 23, 54, 55, 56], [], [], [], []⟩), (15, ⟨[0, 7, 21, 22, 23, 54, 55, 56], [], [], [], []⟩), (16, ⟨[0, 21, 22, 23], [], [], [], []⟩), (17, ⟨[4], [], [], [], []⟩)]
def platform_Valid_C (n : Nat) : VC := ⟨specOf [], platform_Valid_tt, platform_Valid_cfg⟩
theorem platform_Valid_ents (n : Nat) : EntsOK Try.prog [] := trivial
theorem platform_Valid_VC (n : Nat) : VCOk Try.prog (platform_Valid_C n) := ⟨specOf_ok (platform_Valid_ents n), (platform_Valid_tt_eq ▸ mkTT_ok _ : TOk Try.prog platform_Valid_tt), by kernel_rfl⟩
theorem platform_Valid_p1_congr {R : Type} (n : Nat) (a0 : Int) (a1 : List (List D)) {k0 kk0 : Option R} (hq0 : k0 = kk0) : platform_Valid_p1 n a0 a1 k0 = platform_Valid_p1 n a0 a1 kk0 := by
  obtain rfl : k0 = kk0 := hq0
  rfl
theorem platform_Valid_p2_congr {R : Type} (n : Nat) (a0 : Int) (a1 : List (List D)) {k0 kk0 : Option R} {k1 kk1 : Bool → Option R} (hq0 : k0 = kk0) (hq1 : ∀ x0, k1 x0 = kk1 x0) : platform_Valid_p2 n a0 a1 k0 k1 = platform_Valid_p2 n a0 a1 kk0 kk1 := by
  obtain rfl : k0 = kk0 := hq0
  obtain rfl : k1 = kk1 := funext fun x0 => hq1 x0
  rfl
theorem platform_Valid_p3_congr {R : Type} (n : Nat) (a0 : Int) (a1 : List (List D)) (w2 : Bool) {k0 kk0 : Int → Option R} (hq0 : ∀ x0, k0 x0 = kk0 x0) : platform_Valid_p3 n a0 a1 w2 k0 = platform_Valid_p3 n a0 a1 w2 kk0 := by
  obtain rfl : k0 = kk0 := funext fun x0 => hq0 x0
  rfl
theorem platform_Valid_p4_congr {R : Type} (n : Nat) (a0 : Int) (a1 : List (List D)) (w4 : Int) (h8 : Int) {k0 kk0 : Bool → Option R} (hq0 : ∀ x0, k0 x0 = kk0 x0) : platform_Valid_p4 n a0 a1 w4 h8 k0 = platform_Valid_p4 n a0 a1 w4 h8 kk0 := by
  obtain rfl : k0 = kk0 := funext fun x0 => hq0 x0
  rfl
theorem platform_Valid_p5_congr {R : Type} (n : Nat) (a0 : Int) (a1 : List (List D)) (w4 : Int) (h8 : Int) (w86 : Bool) {k0 kk0 : Option R} {k1 kk1 : Option R} (hq0 : k0 = kk0) (hq1 : k1 = kk1) : platform_Valid_p5 n a0 a1 w4 h8 w86 k0 k1 = platform_Valid_p5 n a0 a1 w4 h8 w86 kk0 kk1 := by
  obtain rfl : k0 = kk0 := hq0
  obtain rfl : k1 = kk1 := hq1
  rfl
theorem platform_Valid_p6_congr {R : Type} (n : Nat) (a0 : Int) (a1 : List (List D)) (w4 : Int) (h8 : Int) (w86 : Bool) {k0 kk0 : D → D → D → Option R} (hq0 : ∀ x0 x1 x2, k0 x0 x1 x2 = kk0 x0 x1 x2) : platform_Valid_p6 n a0 a1 w4 h8 w86 k0 = platform_Valid_p6 n a0 a1 w4 h8 w86 kk0 := by
  obtain rfl : k0 = kk0 := funext fun x0 => funext fun x1 => funext fun x2 => hq0 x0 x1 x2
  rfl
theorem platform_Valid_p7_congr {R : Type} (n : Nat) (a0 : Int) (a1 : List (List D)) (w4 : Int) (h8 : Int) (w91 : D) (w92 : D) (w93 : D) {k0 kk0 : Option R} {k1 kk1 : Bool → Option R} (hq0 : k0 = kk0) (hq1 : ∀ x0, k1 x0 = kk1 x0) : platform_Valid_p7 n a0 a1 w4 h8 w91 w92 w93 k0 k1 = platform_Valid_p7 n a0 a1 w4 h8 w91 w92 w93 kk0 kk1 := by
  obtain rfl : k0 = kk0 := hq0
  obtain rfl : k1 = kk1 := funext fun x0 => hq1 x0
  rfl
theorem platform_Valid_p8_congr {R : Type} (n : Nat) (a0 : Int) (a1 : List (List D)) (w4 : Int) (h8 : Int) (w100 : Bool) (w91 : D) (w92 : D) (w93 : D) {k0 kk0 : Option R} (hq0 : k0 = kk0) : platform_Valid_p8 n a0 a1 w4 h8 w100 w91 w92 w93 k0 = platform_Valid_p8 n a0 a1 w4 h8 w100 w91 w92 w93 kk0 := by
  obtain rfl : k0 = kk0 := hq0
  rfl
theorem platform_Valid_p9_congr {R : Type} (n : Nat) (a0 : Int) (a1 : List (List D)) (w4 : Int) (h8 : Int) (w91 : D) (w92 : D) (w93 : D) {k0 kk0 : (List (List D)) → Int → Option R} (hq0 : ∀ x0 x1, k0 x0 x1 = kk0 x0 x1) : platform_Valid_p9 n a0 a1 w4 h8 w91 w92 w93 k0 = platform_Valid_p9 n a0 a1 w4 h8 w91 w92 w93 kk0 := by
  obtain rfl : k0 = kk0 := funext fun x0 => funext fun x1 => hq0 x0 x1
  rfl
theorem platform_Valid_p10_congr {R : Type} (n : Nat) (a0 : Int) (h106 : Int) (a1 : List (List D)) (w4 : Int) (h8 : Int) (w103 : List (List D)) (w104 : Int) (h112 : Int) {k0 kk0 : Option R} {k1 kk1 : Int → Int → Option R} {k2 kk2 : Bool → Option R} (hq0 : k0 = kk0) (hq1 : ∀ x0 x1, k1 x0 x1 = kk1 x0 x1) (hq2 : ∀ x0, k2 x0 = kk2 x0) : platform_Valid_p10 n a0 h106 a1 w4 h8 w103 w104 h112 k0 k1 k2 = platform_Valid_p10 n a0 h106 a1 w4 h8 w103 w104 h112 kk0 kk1 kk2 := by
  obtain rfl : k0 = kk0 := hq0
  obtain rfl : k1 = kk1 := funext fun x0 => funext fun x1 => hq1 x0 x1
  obtain rfl : k2 = kk2 := funext fun x0 => hq2 x0
  rfl
theorem platform_Valid_p11_congr {R : Type} (n : Nat) (a0 : Int) (a1 : List (List D)) (w4 : Int) (h8 : Int) (w103 : List (List D)) (w104 : Int) {k0 kk0 : Option R} {k1 kk1 : Int → Int → Bool → Option R} (hq0 : k0 = kk0) (hq1 : ∀ x0 x1 x2, k1 x0 x1 x2 = kk1 x0 x1 x2) : platform_Valid_p11 n a0 a1 w4 h8 w103 w104 k0 k1 = platform_Valid_p11 n a0 a1 w4 h8 w103 w104 kk0 kk1 := by
  obtain rfl : k0 = kk0 := hq0
  obtain rfl : k1 = kk1 := funext fun x0 => funext fun x1 => funext fun x2 => hq1 x0 x1 x2
  rfl
theorem platform_Valid_p12_congr {R : Type} (n : Nat) (a0 : Int) (a1 : List (List D)) (w4 : Int) (h8 : Int) (w103 : List (List D)) (w104 : Int) {k0 kk0 : Option R} {k1 kk1 : Int → Int → Bool → Option R} (hq0 : k0 = kk0) (hq1 : ∀ x0 x1 x2, k1 x0 x1 x2 = kk1 x0 x1 x2) : platform_Valid_p12 n a0 a1 w4 h8 w103 w104 k0 k1 = platform_Valid_p12 n a0 a1 w4 h8 w103 w104 kk0 kk1 := by
  obtain rfl : k0 = kk0 := hq0
  obtain rfl : k1 = kk1 := funext fun x0 => funext fun x1 => funext fun x2 => hq1 x0 x1 x2
  rfl
theorem platform_Valid_p13_congr {R : Type} (n : Nat) (a0 : Int) (a1 : List (List D)) (w4 : Int) (h8 : Int) (w91 : D) (w92 : D) (w93 : D) {k0 kk0 : Option R} {k1 kk1 : Int → (List (List D)) → Int → Int → Bool → Option R} (hq0 : k0 = kk0) (hq1 : ∀ x0 x1 x2 x3 x4, k1 x0 x1 x2 x3 x4 = kk1 x0 x1 x2 x3 x4) : platform_Valid_p13 n a0 a1 w4 h8 w91 w92 w93 k0 k1 = platform_Valid_p13 n a0 a1 w4 h8 w91 w92 w93 kk0 kk1 := by
  obtain rfl : k0 = kk0 := hq0
  obtain rfl : k1 = kk1 := funext fun x0 => funext fun x1 => funext fun x2 => funext fun x3 => funext fun x4 => hq1 x0 x1 x2 x3 x4
  rfl
theorem platform_Valid_p14_congr {R : Type} (n : Nat) (a0 : Int) (a1 : List (List D)) (w4 : Int) (h8 : Int) (w100 : Bool) (w91 : D) (w92 : D) (w93 : D) {k0 kk0 : Option R} {k1 kk1 : Int → (List (List D)) → Int → Int → Bool → Option R} (hq0 : k0 = kk0) (hq1 : ∀ x0 x1 x2 x3 x4, k1 x0 x1 x2 x3 x4 = kk1 x0 x1 x2 x3 x4) : platform_Valid_p14 n a0 a1 w4 h8 w100 w91 w92 w93 k0 k1 = platform_Valid_p14 n a0 a1 w4 h8 w100 w91 w92 w93 kk0 kk1 := by
  obtain rfl : k0 = kk0 := hq0
  obtain rfl : k1 = kk1 := funext fun x0 => funext fun x1 => funext fun x2 => funext fun x3 => funext fun x4 => hq1 x0 x1 x2 x3 x4
  rfl
theorem platform_Valid_p15_congr {R : Type} (n : Nat) (a0 : Int) (a1 : List (List D)) (w4 : Int) (h8 : Int) (w91 : D) (w92 : D) (w93 : D) {k0 kk0 : Option R} {k1 kk1 : Int → (List (List D)) → Int → Int → Bool → Option R} (hq0 : k0 = kk0) (hq1 : ∀ x0 x1 x2 x3 x4, k1 x0 x1 x2 x3 x4 = kk1 x0 x1 x2 x3 x4) : platform_Valid_p15 n a0 a1 w4 h8 w91 w92 w93 k0 k1 = platform_Valid_p15 n a0 a1 w4 h8 w91 w92 w93 kk0 kk1 := by
  obtain rfl : k0 = kk0 := hq0
  obtain rfl : k1 = kk1 := funext fun x0 => funext fun x1 => funext fun x2 => funext fun x3 => funext fun x4 => hq1 x0 x1 x2 x3 x4
  rfl
theorem platform_Valid_p16_congr {R : Type} (n : Nat) (a0 : Int) (a1 : List (List D)) (w4 : Int) (h8 : Int) (w86 : Bool) {k0 kk0 : Option R} {k1 kk1 : Int → (List (List D)) → Int → Int → Bool → Option R} (hq0 : k0 = kk0) (hq1 : ∀ x0 x1 x2 x3 x4, k1 x0 x1 x2 x3 x4 = kk1 x0 x1 x2 x3 x4) : platform_Valid_p16 n a0 a1 w4 h8 w86 k0 k1 = platform_Valid_p16 n a0 a1 w4 h8 w86 kk0 kk1 := by
  obtain rfl : k0 = kk0 := hq0
  obtain rfl : k1 = kk1 := funext fun x0 => funext fun x1 => funext fun x2 => funext fun x3 => funext fun x4 => hq1 x0 x1 x2 x3 x4
  rfl
theorem platform_Valid_p17_congr {R : Type} (n : Nat) (a0 : Int) (a1 : List (List D)) (w4 : Int) (h8 : Int) (w86 : Bool) {k0 kk0 : Option R} {k1 kk1 : Int → (List (List D)) → Int → Int → Bool → Option R} (hq0 : k0 = kk0) (hq1 : ∀ x0 x1 x2 x3 x4, k1 x0 x1 x2 x3 x4 = kk1 x0 x1 x2 x3 x4) : platform_Valid_p17 n a0 a1 w4 h8 w86 k0 k1 = platform_Valid_p17 n a0 a1 w4 h8 w86 kk0 kk1 := by
  obtain rfl : k0 = kk0 := hq0
  obtain rfl : k1 = kk1 := funext fun x0 => funext fun x1 => funext fun x2 => funext fun x3 => funext fun x4 => hq1 x0 x1 x2 x3 x4
  rfl
theorem platform_Valid_p18_congr {R : Type} (n : Nat) (a0 : Int) (w152 : Int) (a1 : List (List D)) (w4 : Int) (h8 : Int) (w153 : List (List D)) (w154 : Int) (w155 : Int) (w156 : Bool) {k0 kk0 : Int → Option R} (hq0 : ∀ x0, k0 x0 = kk0 x0) : platform_Valid_p18 n a0 w152 a1 w4 h8 w153 w154 w155 w156 k0 = platform_Valid_p18 n a0 w152 a1 w4 h8 w153 w154 w155 w156 kk0 := by
  obtain rfl : k0 = kk0 := funext fun x0 => hq0 x0
  rfl
theorem platform_Valid_p19_congr {R : Type} (n : Nat) (a0 : Int) (a1 : List (List D)) (w4 : Int) (h8 : Int) (w86 : Bool) {k0 kk0 : Option R} {k1 kk1 : Int → Option R} (hq0 : k0 = kk0) (hq1 : ∀ x0, k1 x0 = kk1 x0) : platform_Valid_p19 n a0 a1 w4 h8 w86 k0 k1 = platform_Valid_p19 n a0 a1 w4 h8 w86 kk0 kk1 := by
  obtain rfl : k0 = kk0 := hq0
  obtain rfl : k1 = kk1 := funext fun x0 => hq1 x0
  rfl
theorem platform_Valid_p20_congr {R : Type} (n : Nat) (a0 : Int) (a1 : List (List D)) (w4 : Int) (h8 : Int) (w86 : Bool) {k0 kk0 : Option R} {k1 kk1 : Int → Option R} {k2 kk2 : Option R} (hq0 : k0 = kk0) (hq1 : ∀ x0, k1 x0 = kk1 x0) (hq2 : k2 = kk2) : platform_Valid_p20 n a0 a1 w4 h8 w86 k0 k1 k2 = platform_Valid_p20 n a0 a1 w4 h8 w86 kk0 kk1 kk2 := by
  obtain rfl : k0 = kk0 := hq0
  obtain rfl : k1 = kk1 := funext fun x0 => hq1 x0
  obtain rfl : k2 = kk2 := hq2
  rfl
theorem platform_Valid_p21_congr {R : Type} (n : Nat) (a0 : Int) (a1 : List (List D)) (w4 : Int) (h8 : Int) {k0 kk0 : Option R} {k1 kk1 : Int → Option R} {k2 kk2 : Bool → Option R} (hq0 : k0 = kk0) (hq1 : ∀ x0, k1 x0 = kk1 x0) (hq2 : ∀ x0, k2 x0 = kk2 x0) : platform_Valid_p21 n a0 a1 w4 h8 k0 k1 k2 = platform_Valid_p21 n a0 a1 w4 h8 kk0 kk1 kk2 := by
  obtain rfl : k0 = kk0 := hq0
  obtain rfl : k1 = kk1 := funext fun x0 => hq1 x0
  obtain rfl : k2 = kk2 := funext fun x0 => hq2 x0
  rfl
theorem platform_Valid_p22_congr {R : Type} (n : Nat) (a0 : Int) (a1 : List (List D)) (w4 : Int) {k0 kk0 : Option R} {k1 kk1 : Int → Bool → Option R} (hq0 : k0 = kk0) (hq1 : ∀ x0 x1, k1 x0 x1 = kk1 x0 x1) : platform_Valid_p22 n a0 a1 w4 k0 k1 = platform_Valid_p22 n a0 a1 w4 kk0 kk1 := by
  obtain rfl : k0 = kk0 := hq0
  obtain rfl : k1 = kk1 := funext fun x0 => funext fun x1 => hq1 x0 x1
  rfl
theorem platform_Valid_p23_congr {R : Type} (n : Nat) (a0 : Int) (a1 : List (List D)) (w4 : Int) {k0 kk0 : Option R} {k1 kk1 : Int → Bool → Option R} (hq0 : k0 = kk0) (hq1 : ∀ x0 x1, k1 x0 x1 = kk1 x0 x1) : platform_Valid_p23 n a0 a1 w4 k0 k1 = platform_Valid_p23 n a0 a1 w4 kk0 kk1 := by
  obtain rfl : k0 = kk0 := hq0
  obtain rfl : k1 = kk1 := funext fun x0 => funext fun x1 => hq1 x0 x1
  rfl
theorem platform_Valid_p24_congr {R : Type} (n : Nat) (a0 : Int) (a1 : List (List D)) (w2 : Bool) {k0 kk0 : Option R} {k1 kk1 : Int → Int → Bool → Option R} (hq0 : k0 = kk0) (hq1 : ∀ x0 x1 x2, k1 x0 x1 x2 = kk1 x0 x1 x2) : platform_Valid_p24 n a0 a1 w2 k0 k1 = platform_Valid_p24 n a0 a1 w2 kk0 kk1 := by
  obtain rfl : k0 = kk0 := hq0
  obtain rfl : k1 = kk1 := funext fun x0 => funext fun x1 => funext fun x2 => hq1 x0 x1 x2
  rfl
theorem platform_Valid_p25_congr {R : Type} (n : Nat) (a0 : Int) (a1 : List (List D)) (w167 : Int) (w168 : Int) (w169 : Bool) {k0 kk0 : Option R} (hq0 : k0 = kk0) : platform_Valid_p25 n a0 a1 w167 w168 w169 k0 = platform_Valid_p25 n a0 a1 w167 w168 w169 kk0 := by
  obtain rfl : k0 = kk0 := hq0
  rfl
theorem platform_Valid_p26_congr {R : Type} (n : Nat) (a0 : Int) (a1 : List (List D)) (w2 : Bool) {k0 kk0 : Bool → Option R} (hq0 : ∀ x0, k0 x0 = kk0 x0) : platform_Valid_p26 n a0 a1 w2 k0 = platform_Valid_p26 n a0 a1 w2 kk0 := by
  obtain rfl : k0 = kk0 := funext fun x0 => hq0 x0
  rfl
theorem platform_Valid_p27_congr {R : Type} (n : Nat) (a0 : Int) (a1 : List (List D)) {k0 kk0 : Bool → Option R} (hq0 : ∀ x0, k0 x0 = kk0 x0) : platform_Valid_p27 n a0 a1 k0 = platform_Valid_p27 n a0 a1 kk0 := by
  obtain rfl : k0 = kk0 := funext fun x0 => hq0 x0
  rfl
theorem platform_Valid_p28_congr {R : Type} (n : Nat) (a0 : Int) (a1 : List (List D)) {k0 kk0 : Bool → Option R} (hq0 : ∀ x0, k0 x0 = kk0 x0) : platform_Valid_p28 n a0 a1 k0 = platform_Valid_p28 n a0 a1 kk0 := by
  obtain rfl : k0 = kk0 := funext fun x0 => hq0 x0
  rfl
theorem platform_Valid_p1_eq {R : Type} (n : Nat) (a0 : Int) (a1 : List (List D)) (k : Exit → St → Option R) : vexec (platform_Valid_C n) n platform_Valid_c1 ⟨66, [(0, .d (D.int .i64 a0)), (1, .d (D.sl 3 a1))], []⟩ k = platform_Valid_p1 n a0 a1 (k .normal ⟨66, [(0, .d (D.int .i64 a0)), (1, .d (D.sl 3 a1))], []⟩) := by kernel_rfl
theorem platform_Valid_p2_eq {R : Type} (n : Nat) (a0 : Int) (a1 : List (List D)) (k : Exit → St → Option R) : vexec (platform_Valid_C n) n platform_Valid_c2 ⟨66, [(0, .d (D.int .i64 a0)), (1, .d (D.sl 3 a1))], []⟩ k = platform_Valid_p2 n a0 a1 (k .ret ⟨66, [(4, .d (D.bool false))], []⟩) (fun z1 => k .normal ⟨66, [(0, .d (D.int .i64 a0)), (1, .d (D.sl 3 a1)), (20, .d (D.bool z1))], []⟩) := by kernel_rfl
theorem platform_Valid_p3_eq {R : Type} (n : Nat) (a0 : Int) (a1 : List (List D)) (w2 : Bool) (k : Exit → St → Option R) : vexec (platform_Valid_C n) n platform_Valid_c3 ⟨66, [(0, .d (D.int .i64 a0)), (1, .d (D.sl 3 a1)), (20, .d (D.bool w2))], []⟩ k = platform_Valid_p3 n a0 a1 w2 (fun z3 => k .normal ⟨66, [(0, .d (D.int .i64 a0)), (21, .d (D.sl 3 a1)), (22, .d (D.int .i64 z3)), (23, .d (D.int .i64 (0 : Int)))], []⟩) := by kernel_rfl
theorem platform_Valid_p4_eq {R : Type} (n : Nat) (a0 : Int) (a1 : List (List D)) (w4 : Int) (h8 : Int) (k : Exit → St → Option R) : vexec (platform_Valid_C n) n platform_Valid_c4 ⟨66, [(0, .d (D.int .i64 a0)), (21, .d (D.sl 3 a1)), (22, .d (D.int .i64 w4)), (23, .d (D.int .i64 h8))], []⟩ k = platform_Valid_p4 n a0 a1 w4 h8 (fun z85 => k .normal ⟨66, [(0, .d (D.int .i64 a0)), (21, .d (D.sl 3 a1)), (22, .d (D.int .i64 w4)), (23, .d (D.int .i64 h8)), (24, .d (D.bool z85))], []⟩) := by kernel_rfl
theorem platform_Valid_p5_eq {R : Type} (n : Nat) (a0 : Int) (a1 : List (List D)) (w4 : Int) (h8 : Int) (w86 : Bool) (k : Exit → St → Option R) : vexec (platform_Valid_C n) n platform_Valid_c5 ⟨66, [(0, .d (D.int .i64 a0)), (21, .d (D.sl 3 a1)), (22, .d (D.int .i64 w4)), (23, .d (D.int .i64 h8)), (24, .d (D.bool w86))], []⟩ k = platform_Valid_p5 n a0 a1 w4 h8 w86 (k .normal ⟨66, [(0, .d (D.int .i64 a0)), (21, .d (D.sl 3 a1)), (22, .d (D.int .i64 w4)), (23, .d (D.int .i64 h8)), (24, .d (D.bool w86))], []⟩) (k (.exit 0) ⟨66, [(0, .d (D.int .i64 a0)), (21, .d (D.sl 3 a1)), (22, .d (D.int .i64 w4)), (23, .d (D.int .i64 h8)), (24, .d (D.bool w86))], []⟩) := by kernel_rfl
theorem platform_Valid_p6_eq {R : Type} (n : Nat) (a0 : Int) (a1 : List (List D)) (w4 : Int) (h8 : Int) (w86 : Bool) (k : Exit → St → Option R) : vexec (platform_Valid_C n) n platform_Valid_c6 ⟨66, [(0, .d (D.int .i64 a0)), (21, .d (D.sl 3 a1)), (22, .d (D.int .i64 w4)), (23, .d (D.int .i64 h8)), (24, .d (D.bool w86))], []⟩ k = platform_Valid_p6 n a0 a1 w4 h8 w86 (fun c88 c89 c90 => k .normal ⟨66, [(0, .d (D.int .i64 a0)), (6, .ptr 6 0), (21, .d (D.sl 3 a1)), (22, .d (D.int .i64 w4)), (23, .d (D.int .i64 h8))], [(6, .box [.d c88, .d c89, .d c90])]⟩) := by kernel_rfl
theorem platform_Valid_p7_eq {R : Type} (n : Nat) (a0 : Int) (a1 : List (List D)) (w4 : Int) (h8 : Int) (w91 : D) (w92 : D) (w93 : D) (k : Exit → St → Option R) : vexec (platform_Valid_C n) n platform_Valid_c7 ⟨66, [(0, .d (D.int .i64 a0)), (6, .ptr 6 0), (21, .d (D.sl 3 a1)), (22, .d (D.int .i64 w4)), (23, .d (D.int .i64 h8))], [(6, .box [.d w91, .d w92, .d w93])]⟩ k = platform_Valid_p7 n a0 a1 w4 h8 w91 w92 w93 (k .ret ⟨66, [(4, .d (D.bool false))], []⟩) (fun z99 => k .normal ⟨66, [(0, .d (D.int .i64 a0)), (6, .ptr 6 0), (21, .d (D.sl 3 a1)), (22, .d (D.int .i64 w4)), (23, .d (D.int .i64 h8)), (52, .d (D.bool z99))], [(6, .box [.d w91, .d w92, .d w93])]⟩) := by kernel_rfl
theorem platform_Valid_p8_eq {R : Type} (n : Nat) (a0 : Int) (a1 : List (List D)) (w4 : Int) (h8 : Int) (w100 : Bool) (w91 : D) (w92 : D) (w93 : D) (k : Exit → St → Option R) : vexec (platform_Valid_C n) n platform_Valid_c8 ⟨66, [(0, .d (D.int .i64 a0)), (6, .ptr 6 0), (21, .d (D.sl 3 a1)), (22, .d (D.int .i64 w4)), (23, .d (D.int .i64 h8)), (52, .d (D.bool w100))], [(6, .box [.d w91, .d w92, .d w93])]⟩ k = platform_Valid_p8 n a0 a1 w4 h8 w100 w91 w92 w93 (k .normal ⟨66, [(0, .d (D.int .i64 a0)), (6, .ptr 6 0), (7, .d (D.int .i64 (-1 : Int))), (21, .d (D.sl 3 a1)), (22, .d (D.int .i64 w4)), (23, .d (D.int .i64 h8))], [(6, .box [.d w91, .d w92, .d w93])]⟩) := by kernel_rfl
theorem platform_Valid_p9_eq {R : Type} (n : Nat) (a0 : Int) (a1 : List (List D)) (w4 : Int) (h8 : Int) (w91 : D) (w92 : D) (w93 : D) (k : Exit → St → Option R) : vexec (platform_Valid_C n) n platform_Valid_c9 ⟨66, [(0, .d (D.int .i64 a0)), (6, .ptr 6 0), (7, .d (D.int .i64 (-1 : Int))), (21, .d (D.sl 3 a1)), (22, .d (D.int .i64 w4)), (23, .d (D.int .i64 h8))], [(6, .box [.d w91, .d w92, .d w93])]⟩ k = platform_Valid_p9 n a0 a1 w4 h8 w91 w92 w93 (fun l101 z102 => k .normal ⟨66, [(0, .d (D.int .i64 a0)), (7, .d (D.int .i64 (-1 : Int))), (21, .d (D.sl 3 a1)), (22, .d (D.int .i64 w4)), (23, .d (D.int .i64 h8)), (54, .d (D.sl 1 l101)), (55, .d (D.int .i64 z102)), (56, .d (D.int .i64 (0 : Int)))], []⟩) := by kernel_rfl
theorem platform_Valid_p10_eq {R : Type} (n : Nat) (a0 : Int) (h106 : Int) (a1 : List (List D)) (w4 : Int) (h8 : Int) (w103 : List (List D)) (w104 : Int) (h112 : Int) (k : Exit → St → Option R) : vexec (platform_Valid_C n) n platform_Valid_c10 ⟨66, [(0, .d (D.int .i64 a0)), (7, .d (D.int .i64 h106)), (21, .d (D.sl 3 a1)), (22, .d (D.int .i64 w4)), (23, .d (D.int .i64 h8)), (54, .d (D.sl 1 w103)), (55, .d (D.int .i64 w104)), (56, .d (D.int .i64 h112))], []⟩ k = platform_Valid_p10 n a0 h106 a1 w4 h8 w103 w104 h112 (k .ret ⟨66, [(4, .d (D.bool false))], []⟩) (fun i120 z121 => k .normal ⟨66, [(0, .d (D.int .i64 a0)), (7, .d (D.int .i64 i120)), (21, .d (D.sl 3 a1)), (22, .d (D.int .i64 w4)), (23, .d (D.int .i64 h8)), (54, .d (D.sl 1 w103)), (55, .d (D.int .i64 w104)), (56, .d (D.int .i64 z121))], []⟩) (fun z122 => k (.exit 2) ⟨66, [(0, .d (D.int .i64 a0)), (7, .d (D.int .i64 h106)), (21, .d (D.sl 3 a1)), (22, .d (D.int .i64 w4)), (23, .d (D.int .i64 h8)), (54, .d (D.sl 1 w103)), (55, .d (D.int .i64 w104)), (56, .d (D.int .i64 h112)), (57, .d (D.bool z122))], []⟩) := by kernel_rfl
theorem platform_Valid_r11_eq {R : Type} (n : Nat) (a0 : Int) (a1 : List (List D)) (w4 : Int) (h8 : Int) (w103 : List (List D)) (w104 : Int) (k : Exit → St → Option R) : ∀ (m : Nat) (h106 : Int) (h112 : Int), loopN (vexec (platform_Valid_C n) n platform_Valid_c10) m ⟨66, [(0, .d (D.int .i64 a0)), (7, .d (D.int .i64 h106)), (21, .d (D.sl 3 a1)), (22, .d (D.int .i64 w4)), (23, .d (D.int .i64 h8)), (54, .d (D.sl 1 w103)), (55, .d (D.int .i64 w104)), (56, .d (D.int .i64 h112))], []⟩ k = platform_Valid_r11 n a0 a1 w4 h8 w103 w104 (k .ret ⟨66, [(4, .d (D.bool false))], []⟩) (fun h106 h112 w125 => k (.exit 2) ⟨66, [(0, .d (D.int .i64 a0)), (7, .d (D.int .i64 h106)), (21, .d (D.sl 3 a1)), (22, .d (D.int .i64 w4)), (23, .d (D.int .i64 h8)), (54, .d (D.sl 1 w103)), (55, .d (D.int .i64 w104)), (56, .d (D.int .i64 h112)), (57, .d (D.bool w125))], []⟩) m h106 h112
  | 0, _, _ => rfl
  | m + 1, h106, h112 => (platform_Valid_p10_eq n a0 h106 a1 w4 h8 w103 w104 h112 (loopK (vexec (platform_Valid_C n) n platform_Valid_c10) m k)).trans (platform_Valid_p10_congr n a0 h106 a1 w4 h8 w103 w104 h112 (rfl) (fun w123 w124 => platform_Valid_r11_eq n a0 a1 w4 h8 w103 w104 k m w123 w124) (fun w125 => rfl))
theorem platform_Valid_p11_eq {R : Type} (n : Nat) (a0 : Int) (a1 : List (List D)) (w4 : Int) (h8 : Int) (w103 : List (List D)) (w104 : Int) (k : Exit → St → Option R) : vexec (platform_Valid_C n) n platform_Valid_c11 ⟨66, [(0, .d (D.int .i64 a0)), (7, .d (D.int .i64 (-1 : Int))), (21, .d (D.sl 3 a1)), (22, .d (D.int .i64 w4)), (23, .d (D.int .i64 h8)), (54, .d (D.sl 1 w103)), (55, .d (D.int .i64 w104)), (56, .d (D.int .i64 (0 : Int)))], []⟩ k = platform_Valid_p11 n a0 a1 w4 h8 w103 w104 (k .ret ⟨66, [(4, .d (D.bool false))], []⟩) (fun h106 h112 w125 => k (.exit 2) ⟨66, [(0, .d (D.int .i64 a0)), (7, .d (D.int .i64 h106)), (21, .d (D.sl 3 a1)), (22, .d (D.int .i64 w4)), (23, .d (D.int .i64 h8)), (54, .d (D.sl 1 w103)), (55, .d (D.int .i64 w104)), (56, .d (D.int .i64 h112)), (57, .d (D.bool w125))], []⟩) := by
  rw [platform_Valid_c11_eq]
  exact platform_Valid_r11_eq n a0 a1 w4 h8 w103 w104 k n (-1 : Int) (0 : Int)
theorem platform_Valid_p12_eq {R : Type} (n : Nat) (a0 : Int) (a1 : List (List D)) (w4 : Int) (h8 : Int) (w103 : List (List D)) (w104 : Int) (k : Exit → St → Option R) : vexec (platform_Valid_C n) n platform_Valid_c12 ⟨66, [(0, .d (D.int .i64 a0)), (7, .d (D.int .i64 (-1 : Int))), (21, .d (D.sl 3 a1)), (22, .d (D.int .i64 w4)), (23, .d (D.int .i64 h8)), (54, .d (D.sl 1 w103)), (55, .d (D.int .i64 w104)), (56, .d (D.int .i64 (0 : Int)))], []⟩ k = platform_Valid_p12 n a0 a1 w4 h8 w103 w104 (k .ret ⟨66, [(4, .d (D.bool false))], []⟩) (fun w126 w127 w128 => k .normal ⟨66, [(0, .d (D.int .i64 a0)), (7, .d (D.int .i64 w126)), (21, .d (D.sl 3 a1)), (22, .d (D.int .i64 w4)), (23, .d (D.int .i64 h8)), (54, .d (D.sl 1 w103)), (55, .d (D.int .i64 w104)), (56, .d (D.int .i64 w127)), (57, .d (D.bool w128))], []⟩) := by
  rw [platform_Valid_c12_eq]
  unfold platform_Valid_p12
  exact (platform_Valid_p11_eq n a0 a1 w4 h8 w103 w104 (blockK 2 k)).trans (platform_Valid_p11_congr n a0 a1 w4 h8 w103 w104 (rfl) (fun w126 w127 w128 => rfl))
theorem platform_Valid_p13_eq {R : Type} (n : Nat) (a0 : Int) (a1 : List (List D)) (w4 : Int) (h8 : Int) (w91 : D) (w92 : D) (w93 : D) (k : Exit → St → Option R) : vexec (platform_Valid_C n) n platform_Valid_c13 ⟨66, [(0, .d (D.int .i64 a0)), (6, .ptr 6 0), (7, .d (D.int .i64 (-1 : Int))), (21, .d (D.sl 3 a1)), (22, .d (D.int .i64 w4)), (23, .d (D.int .i64 h8))], [(6, .box [.d w91, .d w92, .d w93])]⟩ k = platform_Valid_p13 n a0 a1 w4 h8 w91 w92 w93 (k .ret ⟨66, [(4, .d (D.bool false))], []⟩) (fun w129 w103 w104 w130 w131 => k .normal ⟨66, [(0, .d (D.int .i64 a0)), (7, .d (D.int .i64 w129)), (21, .d (D.sl 3 a1)), (22, .d (D.int .i64 w4)), (23, .d (D.int .i64 h8)), (54, .d (D.sl 1 w103)), (55, .d (D.int .i64 w104)), (56, .d (D.int .i64 w130)), (57, .d (D.bool w131))], []⟩) := by
  rw [platform_Valid_c13_eq]
  unfold platform_Valid_p13
  exact (platform_Valid_p9_eq n a0 a1 w4 h8 w91 w92 w93 (seqK (platform_Valid_C n) n platform_Valid_c12 k)).trans (platform_Valid_p9_congr n a0 a1 w4 h8 w91 w92 w93 (fun w103 w104 => platform_Valid_p12_eq n a0 a1 w4 h8 w103 w104 k))
theorem platform_Valid_p14_eq {R : Type} (n : Nat) (a0 : Int) (a1 : List (List D)) (w4 : Int) (h8 : Int) (w100 : Bool) (w91 : D) (w92 : D) (w93 : D) (k : Exit → St → Option R) : vexec (platform_Valid_C n) n platform_Valid_c14 ⟨66, [(0, .d (D.int .i64 a0)), (6, .ptr 6 0), (21, .d (D.sl 3 a1)), (22, .d (D.int .i64 w4)), (23, .d (D.int .i64 h8)), (52, .d (D.bool w100))], [(6, .box [.d w91, .d w92, .d w93])]⟩ k = platform_Valid_p14 n a0 a1 w4 h8 w100 w91 w92 w93 (k .ret ⟨66, [(4, .d (D.bool false))], []⟩) (fun w132 w133 w134 w135 w136 => k .normal ⟨66, [(0, .d (D.int .i64 a0)), (7, .d (D.int .i64 w132)), (21, .d (D.sl 3 a1)), (22, .d (D.int .i64 w4)), (23, .d (D.int .i64 h8)), (54, .d (D.sl 1 w133)), (55, .d (D.int .i64 w134)), (56, .d (D.int .i64 w135)), (57, .d (D.bool w136))], []⟩) := by
  rw [platform_Valid_c14_eq]
  unfold platform_Valid_p14
  exact (platform_Valid_p8_eq n a0 a1 w4 h8 w100 w91 w92 w93 (seqK (platform_Valid_C n) n platform_Valid_c13 k)).trans (platform_Valid_p8_congr n a0 a1 w4 h8 w100 w91 w92 w93 (platform_Valid_p13_eq n a0 a1 w4 h8 w91 w92 w93 k))
theorem platform_Valid_p15_eq {R : Type} (n : Nat) (a0 : Int) (a1 : List (List D)) (w4 : Int) (h8 : Int) (w91 : D) (w92 : D) (w93 : D) (k : Exit → St → Option R) : vexec (platform_Valid_C n) n platform_Valid_c15 ⟨66, [(0, .d (D.int .i64 a0)), (6, .ptr 6 0), (21, .d (D.sl 3 a1)), (22, .d (D.int .i64 w4)), (23, .d (D.int .i64 h8))], [(6, .box [.d w91, .d w92, .d w93])]⟩ k = platform_Valid_p15 n a0 a1 w4 h8 w91 w92 w93 (k .ret ⟨66, [(4, .d (D.bool false))], []⟩) (fun w137 w138 w139 w140 w141 => k .normal ⟨66, [(0, .d (D.int .i64 a0)), (7, .d (D.int .i64 w137)), (21, .d (D.sl 3 a1)), (22, .d (D.int .i64 w4)), (23, .d (D.int .i64 h8)), (54, .d (D.sl 1 w138)), (55, .d (D.int .i64 w139)), (56, .d (D.int .i64 w140)), (57, .d (D.bool w141))], []⟩) := by
  rw [platform_Valid_c15_eq]
  unfold platform_Valid_p15
  exact (platform_Valid_p7_eq n a0 a1 w4 h8 w91 w92 w93 (seqK (platform_Valid_C n) n platform_Valid_c14 k)).trans (platform_Valid_p7_congr n a0 a1 w4 h8 w91 w92 w93 (rfl) (fun w100 => platform_Valid_p14_eq n a0 a1 w4 h8 w100 w91 w92 w93 k))
theorem platform_Valid_p16_eq {R : Type} (n : Nat) (a0 : Int) (a1 : List (List D)) (w4 : Int) (h8 : Int) (w86 : Bool) (k : Exit → St → Option R) : vexec (platform_Valid_C n) n platform_Valid_c16 ⟨66, [(0, .d (D.int .i64 a0)), (21, .d (D.sl 3 a1)), (22, .d (D.int .i64 w4)), (23, .d (D.int .i64 h8)), (24, .d (D.bool w86))], []⟩ k = platform_Valid_p16 n a0 a1 w4 h8 w86 (k .ret ⟨66, [(4, .d (D.bool false))], []⟩) (fun w142 w143 w144 w145 w146 => k .normal ⟨66, [(0, .d (D.int .i64 a0)), (7, .d (D.int .i64 w142)), (21, .d (D.sl 3 a1)), (22, .d (D.int .i64 w4)), (23, .d (D.int .i64 h8)), (54, .d (D.sl 1 w143)), (55, .d (D.int .i64 w144)), (56, .d (D.int .i64 w145)), (57, .d (D.bool w146))], []⟩) := by
  rw [platform_Valid_c16_eq]
  unfold platform_Valid_p16
  exact (platform_Valid_p6_eq n a0 a1 w4 h8 w86 (seqK (platform_Valid_C n) n platform_Valid_c15 k)).trans (platform_Valid_p6_congr n a0 a1 w4 h8 w86 (fun w91 w92 w93 => platform_Valid_p15_eq n a0 a1 w4 h8 w91 w92 w93 k))
theorem platform_Valid_p17_eq {R : Type} (n : Nat) (a0 : Int) (a1 : List (List D)) (w4 : Int) (h8 : Int) (w86 : Bool) (k : Exit → St → Option R) : vexec (platform_Valid_C n) n platform_Valid_c17 ⟨66, [(0, .d (D.int .i64 a0)), (21, .d (D.sl 3 a1)), (22, .d (D.int .i64 w4)), (23, .d (D.int .i64 h8)), (24, .d (D.bool w86))], []⟩ k = platform_Valid_p17 n a0 a1 w4 h8 w86 (k .ret ⟨66, [(4, .d (D.bool false))], []⟩) (fun w147 w148 w149 w150 w151 => k .normal ⟨66, [(0, .d (D.int .i64 a0)), (7, .d (D.int .i64 w147)), (21, .d (D.sl 3 a1)), (22, .d (D.int .i64 w4)), (23, .d (D.int .i64 h8)), (54, .d (D.sl 1 w148)), (55, .d (D.int .i64 w149)), (56, .d (D.int .i64 w150)), (57, .d (D.bool w151))], []⟩) := by
  rw [platform_Valid_c17_eq]
  unfold platform_Valid_p17
  exact (platform_Valid_p16_eq n a0 a1 w4 h8 w86 (blockK 1 k)).trans (platform_Valid_p16_congr n a0 a1 w4 h8 w86 (rfl) (fun w147 w148 w149 w150 w151 => rfl))
theorem platform_Valid_p18_eq {R : Type} (n : Nat) (a0 : Int) (w152 : Int) (a1 : List (List D)) (w4 : Int) (h8 : Int) (w153 : List (List D)) (w154 : Int) (w155 : Int) (w156 : Bool) (k : Exit → St → Option R) : vexec (platform_Valid_C n) n platform_Valid_c18 ⟨66, [(0, .d (D.int .i64 a0)), (7, .d (D.int .i64 w152)), (21, .d (D.sl 3 a1)), (22, .d (D.int .i64 w4)), (23, .d (D.int .i64 h8)), (54, .d (D.sl 1 w153)), (55, .d (D.int .i64 w154)), (56, .d (D.int .i64 w155)), (57, .d (D.bool w156))], []⟩ k = platform_Valid_p18 n a0 w152 a1 w4 h8 w153 w154 w155 w156 (fun z157 => k .normal ⟨66, [(0, .d (D.int .i64 a0)), (21, .d (D.sl 3 a1)), (22, .d (D.int .i64 w4)), (23, .d (D.int .i64 z157))], []⟩) := by kernel_rfl
theorem platform_Valid_p19_eq {R : Type} (n : Nat) (a0 : Int) (a1 : List (List D)) (w4 : Int) (h8 : Int) (w86 : Bool) (k : Exit → St → Option R) : vexec (platform_Valid_C n) n platform_Valid_c19 ⟨66, [(0, .d (D.int .i64 a0)), (21, .d (D.sl 3 a1)), (22, .d (D.int .i64 w4)), (23, .d (D.int .i64 h8)), (24, .d (D.bool w86))], []⟩ k = platform_Valid_p19 n a0 a1 w4 h8 w86 (k .ret ⟨66, [(4, .d (D.bool false))], []⟩) (fun w158 => k .normal ⟨66, [(0, .d (D.int .i64 a0)), (21, .d (D.sl 3 a1)), (22, .d (D.int .i64 w4)), (23, .d (D.int .i64 w158))], []⟩) := by
  rw [platform_Valid_c19_eq]
  unfold platform_Valid_p19
  exact (platform_Valid_p17_eq n a0 a1 w4 h8 w86 (seqK (platform_Valid_C n) n platform_Valid_c18 k)).trans (platform_Valid_p17_congr n a0 a1 w4 h8 w86 (rfl) (fun w152 w153 w154 w155 w156 => platform_Valid_p18_eq n a0 w152 a1 w4 h8 w153 w154 w155 w156 k))
theorem platform_Valid_p20_eq {R : Type} (n : Nat) (a0 : Int) (a1 : List (List D)) (w4 : Int) (h8 : Int) (w86 : Bool) (k : Exit → St → Option R) : vexec (platform_Valid_C n) n platform_Valid_c20 ⟨66, [(0, .d (D.int .i64 a0)), (21, .d (D.sl 3 a1)), (22, .d (D.int .i64 w4)), (23, .d (D.int .i64 h8)), (24, .d (D.bool w86))], []⟩ k = platform_Valid_p20 n a0 a1 w4 h8 w86 (k .ret ⟨66, [(4, .d (D.bool false))], []⟩) (fun w159 => k .normal ⟨66, [(0, .d (D.int .i64 a0)), (21, .d (D.sl 3 a1)), (22, .d (D.int .i64 w4)), (23, .d (D.int .i64 w159))], []⟩) (k (.exit 0) ⟨66, [(0, .d (D.int .i64 a0)), (21, .d (D.sl 3 a1)), (22, .d (D.int .i64 w4)), (23, .d (D.int .i64 h8)), (24, .d (D.bool w86))], []⟩) := by
  rw [platform_Valid_c20_eq]
  unfold platform_Valid_p20
  exact (platform_Valid_p5_eq n a0 a1 w4 h8 w86 (seqK (platform_Valid_C n) n platform_Valid_c19 k)).trans (platform_Valid_p5_congr n a0 a1 w4 h8 w86 (platform_Valid_p19_eq n a0 a1 w4 h8 w86 k) (rfl))
theorem platform_Valid_p21_eq {R : Type} (n : Nat) (a0 : Int) (a1 : List (List D)) (w4 : Int) (h8 : Int) (k : Exit → St → Option R) : vexec (platform_Valid_C n) n platform_Valid_c21 ⟨66, [(0, .d (D.int .i64 a0)), (21, .d (D.sl 3 a1)), (22, .d (D.int .i64 w4)), (23, .d (D.int .i64 h8))], []⟩ k = platform_Valid_p21 n a0 a1 w4 h8 (k .ret ⟨66, [(4, .d (D.bool false))], []⟩) (fun w160 => k .normal ⟨66, [(0, .d (D.int .i64 a0)), (21, .d (D.sl 3 a1)), (22, .d (D.int .i64 w4)), (23, .d (D.int .i64 w160))], []⟩) (fun w86 => k (.exit 0) ⟨66, [(0, .d (D.int .i64 a0)), (21, .d (D.sl 3 a1)), (22, .d (D.int .i64 w4)), (23, .d (D.int .i64 h8)), (24, .d (D.bool w86))], []⟩) := by
  rw [platform_Valid_c21_eq]
  unfold platform_Valid_p21
  exact (platform_Valid_p4_eq n a0 a1 w4 h8 (seqK (platform_Valid_C n) n platform_Valid_c20 k)).trans (platform_Valid_p4_congr n a0 a1 w4 h8 (fun w86 => platform_Valid_p20_eq n a0 a1 w4 h8 w86 k))
theorem platform_Valid_r22_eq {R : Type} (n : Nat) (a0 : Int) (a1 : List (List D)) (w4 : Int) (k : Exit → St → Option R) : ∀ (m : Nat) (h8 : Int), loopN (vexec (platform_Valid_C n) n platform_Valid_c21) m ⟨66, [(0, .d (D.int .i64 a0)), (21, .d (D.sl 3 a1)), (22, .d (D.int .i64 w4)), (23, .d (D.int .i64 h8))], []⟩ k = platform_Valid_r22 n a0 a1 w4 (k .ret ⟨66, [(4, .d (D.bool false))], []⟩) (fun h8 w162 => k (.exit 0) ⟨66, [(0, .d (D.int .i64 a0)), (21, .d (D.sl 3 a1)), (22, .d (D.int .i64 w4)), (23, .d (D.int .i64 h8)), (24, .d (D.bool w162))], []⟩) m h8
  | 0, _ => rfl
  | m + 1, h8 => (platform_Valid_p21_eq n a0 a1 w4 h8 (loopK (vexec (platform_Valid_C n) n platform_Valid_c21) m k)).trans (platform_Valid_p21_congr n a0 a1 w4 h8 (rfl) (fun w161 => platform_Valid_r22_eq n a0 a1 w4 k m w161) (fun w162 => rfl))
theorem platform_Valid_p22_eq {R : Type} (n : Nat) (a0 : Int) (a1 : List (List D)) (w4 : Int) (k : Exit → St → Option R) : vexec (platform_Valid_C n) n platform_Valid_c22 ⟨66, [(0, .d (D.int .i64 a0)), (21, .d (D.sl 3 a1)), (22, .d (D.int .i64 w4)), (23, .d (D.int .i64 (0 : Int)))], []⟩ k = platform_Valid_p22 n a0 a1 w4 (k .ret ⟨66, [(4, .d (D.bool false))], []⟩) (fun h8 w162 => k (.exit 0) ⟨66, [(0, .d (D.int .i64 a0)), (21, .d (D.sl 3 a1)), (22, .d (D.int .i64 w4)), (23, .d (D.int .i64 h8)), (24, .d (D.bool w162))], []⟩) := by
  rw [platform_Valid_c22_eq]
  exact platform_Valid_r22_eq n a0 a1 w4 k n (0 : Int)
theorem platform_Valid_p23_eq {R : Type} (n : Nat) (a0 : Int) (a1 : List (List D)) (w4 : Int) (k : Exit → St → Option R) : vexec (platform_Valid_C n) n platform_Valid_c23 ⟨66, [(0, .d (D.int .i64 a0)), (21, .d (D.sl 3 a1)), (22, .d (D.int .i64 w4)), (23, .d (D.int .i64 (0 : Int)))], []⟩ k = platform_Valid_p23 n a0 a1 w4 (k .ret ⟨66, [(4, .d (D.bool false))], []⟩) (fun w163 w164 => k .normal ⟨66, [(0, .d (D.int .i64 a0)), (21, .d (D.sl 3 a1)), (22, .d (D.int .i64 w4)), (23, .d (D.int .i64 w163)), (24, .d (D.bool w164))], []⟩) := by
  rw [platform_Valid_c23_eq]
  unfold platform_Valid_p23
  exact (platform_Valid_p22_eq n a0 a1 w4 (blockK 0 k)).trans (platform_Valid_p22_congr n a0 a1 w4 (rfl) (fun w163 w164 => rfl))
theorem platform_Valid_p24_eq {R : Type} (n : Nat) (a0 : Int) (a1 : List (List D)) (w2 : Bool) (k : Exit → St → Option R) : vexec (platform_Valid_C n) n platform_Valid_c24 ⟨66, [(0, .d (D.int .i64 a0)), (1, .d (D.sl 3 a1)), (20, .d (D.bool w2))], []⟩ k = platform_Valid_p24 n a0 a1 w2 (k .ret ⟨66, [(4, .d (D.bool false))], []⟩) (fun w4 w165 w166 => k .normal ⟨66, [(0, .d (D.int .i64 a0)), (21, .d (D.sl 3 a1)), (22, .d (D.int .i64 w4)), (23, .d (D.int .i64 w165)), (24, .d (D.bool w166))], []⟩) := by
  rw [platform_Valid_c24_eq]
  unfold platform_Valid_p24
  exact (platform_Valid_p3_eq n a0 a1 w2 (seqK (platform_Valid_C n) n platform_Valid_c23 k)).trans (platform_Valid_p3_congr n a0 a1 w2 (fun w4 => platform_Valid_p23_eq n a0 a1 w4 k))
theorem platform_Valid_p25_eq {R : Type} (n : Nat) (a0 : Int) (a1 : List (List D)) (w167 : Int) (w168 : Int) (w169 : Bool) (k : Exit → St → Option R) : vexec (platform_Valid_C n) n platform_Valid_c25 ⟨66, [(0, .d (D.int .i64 a0)), (21, .d (D.sl 3 a1)), (22, .d (D.int .i64 w167)), (23, .d (D.int .i64 w168)), (24, .d (D.bool w169))], []⟩ k = platform_Valid_p25 n a0 a1 w167 w168 w169 (k .ret ⟨66, [(4, .d (D.bool true))], []⟩) := by kernel_rfl
theorem platform_Valid_p26_eq {R : Type} (n : Nat) (a0 : Int) (a1 : List (List D)) (w2 : Bool) (k : Exit → St → Option R) : vexec (platform_Valid_C n) n platform_Valid_c26 ⟨66, [(0, .d (D.int .i64 a0)), (1, .d (D.sl 3 a1)), (20, .d (D.bool w2))], []⟩ k = platform_Valid_p26 n a0 a1 w2 (fun z170 => k .ret ⟨66, [(4, .d (D.bool z170))], []⟩) := by
  rw [platform_Valid_c26_eq]
  unfold platform_Valid_p26
  exact (platform_Valid_p24_eq n a0 a1 w2 (seqK (platform_Valid_C n) n platform_Valid_c25 k)).trans (platform_Valid_p24_congr n a0 a1 w2 (rfl) (fun w167 w168 w169 => platform_Valid_p25_eq n a0 a1 w167 w168 w169 k))
theorem platform_Valid_p27_eq {R : Type} (n : Nat) (a0 : Int) (a1 : List (List D)) (k : Exit → St → Option R) : vexec (platform_Valid_C n) n platform_Valid_c27 ⟨66, [(0, .d (D.int .i64 a0)), (1, .d (D.sl 3 a1))], []⟩ k = platform_Valid_p27 n a0 a1 (fun z172 => k .ret ⟨66, [(4, .d (D.bool z172))], []⟩) := by
  rw [platform_Valid_c27_eq]
  unfold platform_Valid_p27
  exact (platform_Valid_p2_eq n a0 a1 (seqK (platform_Valid_C n) n platform_Valid_c26 k)).trans (platform_Valid_p2_congr n a0 a1 (rfl) (fun w2 => platform_Valid_p26_eq n a0 a1 w2 k))
theorem platform_Valid_p28_eq {R : Type} (n : Nat) (a0 : Int) (a1 : List (List D)) (k : Exit → St → Option R) : vexec (platform_Valid_C n) n platform_Valid_c0 ⟨66, [(0, .d (D.int .i64 a0)), (1, .d (D.sl 3 a1))], []⟩ k = platform_Valid_p28 n a0 a1 (fun w173 => k .ret ⟨66, [(4, .d (D.bool w173))], []⟩) := by
  rw [platform_Valid_c0_eq]
  unfold platform_Valid_p28
  exact (platform_Valid_p1_eq n a0 a1 (seqK (platform_Valid_C n) n platform_Valid_c27 k)).trans (platform_Valid_p1_congr n a0 a1 (platform_Valid_p27_eq n a0 a1 k))
theorem platform_Valid_vfn {R : Type} (n : Nat) (a0 : Int) (a1 : List (List D)) (K : AV → Option R) : vfn (platform_Valid_C n) n Try.f29 [.d (D.int .i64 a0), .d (D.sl 3 a1)] [] (retF [[0]] K) = platform_Valid n a0 a1 (fun r0 => K (.d (D.bool r0))) :=
  (show vfn (platform_Valid_C n) n Try.f29 [.d (D.int .i64 a0), .d (D.sl 3 a1)] [] (retF [[0]] K) = vexec (platform_Valid_C n) n platform_Valid_c0 ⟨66, [(0, .d (D.int .i64 a0)), (1, .d (D.sl 3 a1))], []⟩ (retX platform_Valid_tt [.tmp 4] (retF [[0]] K)) from vfn_at (by kernel_rfl) (by kernel_rfl) rfl (by kernel_rfl) rfl (by kernel_rfl) rfl).trans ((platform_Valid_p28_eq n a0 a1 (retX platform_Valid_tt [.tmp 4] (retF [[0]] K))).trans (by kernel_rfl))
def platform_Valid_K : AV → Option (Bool) := fun av => match av with
  | .d (D.bool r0) => some r0
  | _ => none
def platform_Valid_e (n : Nat) : Entry := fun _ _ g avs _ k => match avs with
  | [c0, c1] => prI g .i64 c0 fun a0 => prS g 3 c1 fun a1 => 
    gb g (platform_Valid n a0 a1 some) false fun r => k ⟨.d (D.bool r), [], []⟩
  | _ => none
theorem platform_Valid_ok (n : Nat) : EntryOK Try.prog 29 (platform_Valid_e n) := by
  intro R site g avs hl k r h
  unfold platform_Valid_e at h
  split at h
  rotate_left
  · cases h
  replace h := prI_some h
  obtain ⟨a0, h, le0⟩ := h
  replace h := prS_some h
  obtain ⟨a1, h, le1⟩ := h
  replace h := gb_some h
  obtain ⟨res, h, hr⟩ := h
  refine ⟨_, h, fun hg => CallOK.conv (avs' := [.d (D.int .i64 a0), .d (D.sl 3 a1)]) (.cons (le0 hg) (.cons (le1 hg) (.nil))) (callOK_fix (K := platform_Valid_K) (res := res) (platform_Valid_VC n) (fn := Try.f29) (n := n) (by kernel_rfl) (by kernel_rfl) (by kernel_rfl) (ss := [[0]]) rfl ?_ ?_)⟩
  · exact (platform_Valid_vfn n a0 a1 platform_Valid_K).trans (hr hg)
  · intro x hx
    unfold platform_Valid_K at hx
    split at hx
    · injection hx with hx; subst hx; rfl
    · cases hx
end Go.Vx
/-
  arith_Mod: the interpreter computes the pure function
-/
set_option linter.unusedVariables false
set_option linter.unusedSimpArgs false
set_option maxRecDepth 100000
namespace Go.Vx
open Go.Proofs
noncomputable def arith_Mod_c0 : Code := bodyOf Try.f41
def arith_Mod_tt : TT := [(3, ⟨.int .i64, 1, 8, [.int .i64 0], [.int .i64 0], [], none⟩)]
theorem arith_Mod_tt_eq : mkTT Try.prog [3] = arith_Mod_tt := by kernel_rfl
def arith_Mod_cfg : List (Nat × Cfg) := [(0, ⟨[0, 1], [], [], [], []⟩), (1, ⟨[0, 1, 7], [], [], [], []⟩), (2, ⟨[4], [], [], [], []⟩), (3, ⟨[1, 5], [], [], [], []⟩), (4, ⟨[1, 5, 12], [], [], [], []⟩), (5, ⟨[5], [], [], [], []⟩), (6, ⟨[4], [], [], [], []⟩)]
def arith_Mod_C (n : Nat) : VC := ⟨specOf [], arith_Mod_tt, arith_Mod_cfg⟩
theorem arith_Mod_ents (n : Nat) : EntsOK Try.prog [] := trivial
theorem arith_Mod_VC (n : Nat) : VCOk Try.prog (arith_Mod_C n) := ⟨specOf_ok (arith_Mod_ents n), (arith_Mod_tt_eq ▸ mkTT_ok _ : TOk Try.prog arith_Mod_tt), by kernel_rfl⟩
theorem arith_Mod_p1_congr {R : Type} (n : Nat) (a0 : Int) (a1 : Int) {k0 kk0 : Int → Option R} (hq0 : ∀ x0, k0 x0 = kk0 x0) : arith_Mod_p1 n a0 a1 k0 = arith_Mod_p1 n a0 a1 kk0 := by
  obtain rfl : k0 = kk0 := funext fun x0 => hq0 x0
  rfl
theorem arith_Mod_p1_eq {R : Type} (n : Nat) (a0 : Int) (a1 : Int) (k : Exit → St → Option R) : vexec (arith_Mod_C n) n arith_Mod_c0 ⟨17, [(0, .d (D.int .i64 a0)), (1, .d (D.int .i64 a1))], []⟩ k = arith_Mod_p1 n a0 a1 (fun z2 => k .ret ⟨17, [(4, .d (D.int .i64 z2))], []⟩) := by kernel_rfl
theorem arith_Mod_vfn {R : Type} (n : Nat) (a0 : Int) (a1 : Int) (K : AV → Option R) : vfn (arith_Mod_C n) n Try.f41 [.d (D.int .i64 a0), .d (D.int .i64 a1)] [] (retF [[0]] K) = arith_Mod n a0 a1 (fun r0 => K (.d (D.int .i64 r0))) :=
  (show vfn (arith_Mod_C n) n Try.f41 [.d (D.int .i64 a0), .d (D.int .i64 a1)] [] (retF [[0]] K) = vexec (arith_Mod_C n) n arith_Mod_c0 ⟨17, [(0, .d (D.int .i64 a0)), (1, .d (D.int .i64 a1))], []⟩ (retX arith_Mod_tt [.tmp 4] (retF [[0]] K)) from vfn_at (by kernel_rfl) (by kernel_rfl) rfl (by kernel_rfl) rfl (by kernel_rfl) rfl).trans ((arith_Mod_p1_eq n a0 a1 (retX arith_Mod_tt [.tmp 4] (retF [[0]] K))).trans (by kernel_rfl))
def arith_Mod_K : AV → Option (Int) := fun av => match av with
  | .d (D.int .i64 r0) => some r0
  | _ => none
def arith_Mod_e (n : Nat) : Entry := fun _ _ g avs _ k => match avs with
  | [c0, c1] => prI g .i64 c0 fun a0 => prI g .i64 c1 fun a1 => 
    gb g (arith_Mod n a0 a1 some) 0 fun r => k ⟨.d (D.int .i64 r), [], []⟩
  | _ => none
theorem arith_Mod_ok (n : Nat) : EntryOK Try.prog 41 (arith_Mod_e n) := by
  intro R site g avs hl k r h
  unfold arith_Mod_e at h
  split at h
  rotate_left
  · cases h
  replace h := prI_some h
  obtain ⟨a0, h, le0⟩ := h
  replace h := prI_some h
  obtain ⟨a1, h, le1⟩ := h
  replace h := gb_some h
  obtain ⟨res, h, hr⟩ := h
  refine ⟨_, h, fun hg => CallOK.conv (avs' := [.d (D.int .i64 a0), .d (D.int .i64 a1)]) (.cons (le0 hg) (.cons (le1 hg) (.nil))) (callOK_fix (K := arith_Mod_K) (res := res) (arith_Mod_VC n) (fn := Try.f41) (n := n) (by kernel_rfl) (by kernel_rfl) (by kernel_rfl) (ss := [[0]]) rfl ?_ ?_)⟩
  · exact (arith_Mod_vfn n a0 a1 arith_Mod_K).trans (hr hg)
  · intro x hx
    unfold arith_Mod_K at hx
    split at hx
    · injection hx with hx; subst hx; rfl
    · cases hx
end Go.Vx
/-
  platform_overlap: the interpreter computes the pure function
-/
set_option linter.unusedVariables false
set_option linter.unusedSimpArgs false
set_option maxRecDepth 100000
namespace Go.Vx
open Go.Proofs
noncomputable def platform_overlap_c0 : Code := bodyOf Try.f30
def platform_overlap_tt : TT := [(3, ⟨.int .i64, 1, 8, [.int .i64 0], [.int .i64 0], [], none⟩), (28, ⟨.struct, 3, 40, [.int .i64 0, .int .i64 0, .slice none 0 0], [.int .i64 0, .int .i64 0, .sl 1 []], [(0, 3), (1, 3), (2, 22)], none⟩)]
theorem platform_overlap_tt_eq : mkTT Try.prog [3, 28] = platform_overlap_tt := by kernel_rfl
def platform_overlap_cfg : List (Nat × Cfg) := [(0, ⟨[0, 4, 5], [(4, 4), (5, 5)], [], [], []⟩), (1, ⟨[6], [], [], [], []⟩)]
def platform_overlap_C (n : Nat) : VC := ⟨specOf [(41, arith_Mod_e n)], platform_overlap_tt, platform_overlap_cfg⟩
theorem platform_overlap_ents (n : Nat) : EntsOK Try.prog [(41, arith_Mod_e n)] := ⟨arith_Mod_ok n, trivial⟩
theorem platform_overlap_VC (n : Nat) : VCOk Try.prog (platform_overlap_C n) := ⟨specOf_ok (platform_overlap_ents n), (platform_overlap_tt_eq ▸ mkTT_ok _ : TOk Try.prog platform_overlap_tt), by kernel_rfl⟩
theorem platform_overlap_p1_congr {R : Type} (n : Nat) (a0 : Int) (a1_0 : Int) (a1_1 : Int) (a1_2 : List (List D)) (a2_0 : Int) (a2_1 : Int) (a2_2 : List (List D)) {k0 kk0 : Bool → Option R} (hq0 : ∀ x0, k0 x0 = kk0 x0) : platform_overlap_p1 n a0 a1_0 a1_1 a1_2 a2_0 a2_1 a2_2 k0 = platform_overlap_p1 n a0 a1_0 a1_1 a1_2 a2_0 a2_1 a2_2 kk0 := by
  obtain rfl : k0 = kk0 := funext fun x0 => hq0 x0
  rfl
theorem platform_overlap_p1_eq {R : Type} (n : Nat) (a0 : Int) (a1_0 : Int) (a1_1 : Int) (a1_2 : List (List D)) (a2_0 : Int) (a2_1 : Int) (a2_2 : List (List D)) (k : Exit → St → Option R) : vexec (platform_overlap_C n) n platform_overlap_c0 ⟨29, [(0, .d (D.int .i64 a0)), (1, .ag [.d (D.int .i64 a1_0), .d (D.int .i64 a1_1), .d (D.sl 1 a1_2)]), (2, .ag [.d (D.int .i64 a2_0), .d (D.int .i64 a2_1), .d (D.sl 1 a2_2)])], []⟩ k = platform_overlap_p1 n a0 a1_0 a1_1 a1_2 a2_0 a2_1 a2_2 (fun z3 => k .ret ⟨29, [(6, .d (D.bool z3))], []⟩) := by kernel_rfl
theorem platform_overlap_vfn {R : Type} (n : Nat) (a0 : Int) (a1_0 : Int) (a1_1 : Int) (a1_2 : List (List D)) (a2_0 : Int) (a2_1 : Int) (a2_2 : List (List D)) (K : AV → Option R) : vfn (platform_overlap_C n) n Try.f30 [.d (D.int .i64 a0), .ag [.d (D.int .i64 a1_0), .d (D.int .i64 a1_1), .d (D.sl 1 a1_2)], .ag [.d (D.int .i64 a2_0), .d (D.int .i64 a2_1), .d (D.sl 1 a2_2)]] [] (retF [[0]] K) = platform_overlap n a0 a1_0 a1_1 a1_2 a2_0 a2_1 a2_2 (fun r0 => K (.d (D.bool r0))) :=
  (show vfn (platform_overlap_C n) n Try.f30 [.d (D.int .i64 a0), .ag [.d (D.int .i64 a1_0), .d (D.int .i64 a1_1), .d (D.sl 1 a1_2)], .ag [.d (D.int .i64 a2_0), .d (D.int .i64 a2_1), .d (D.sl 1 a2_2)]] [] (retF [[0]] K) = vexec (platform_overlap_C n) n platform_overlap_c0 ⟨29, [(0, .d (D.int .i64 a0)), (1, .ag [.d (D.int .i64 a1_0), .d (D.int .i64 a1_1), .d (D.sl 1 a1_2)]), (2, .ag [.d (D.int .i64 a2_0), .d (D.int .i64 a2_1), .d (D.sl 1 a2_2)])], []⟩ (retX platform_overlap_tt [.tmp 6] (retF [[0]] K)) from vfn_at (by kernel_rfl) (by kernel_rfl) rfl (by kernel_rfl) rfl (by kernel_rfl) rfl).trans ((platform_overlap_p1_eq n a0 a1_0 a1_1 a1_2 a2_0 a2_1 a2_2 (retX platform_overlap_tt [.tmp 6] (retF [[0]] K))).trans (by kernel_rfl))
def platform_overlap_K : AV → Option (Bool) := fun av => match av with
  | .d (D.bool r0) => some r0
  | _ => none
def platform_overlap_e (n : Nat) : Entry := fun _ _ g avs _ k => match avs with
  | [c0, c1, c2] => prI g .i64 c0 fun a0 => 
    prG c1 fun l1 => (match l1 with
    | [c1_0, c1_1, c1_2] => prI g .i64 c1_0 fun a1_0 => prI g .i64 c1_1 fun a1_1 => prS g 1 c1_2 fun a1_2 => 
    prG c2 fun l2 => (match l2 with
    | [c2_0, c2_1, c2_2] => prI g .i64 c2_0 fun a2_0 => prI g .i64 c2_1 fun a2_1 => prS g 1 c2_2 fun a2_2 => 
    gb g (platform_overlap n a0 a1_0 a1_1 a1_2 a2_0 a2_1 a2_2 some) false fun r => k ⟨.d (D.bool r), [], []⟩
    | _ => none)
    | _ => none)
  | _ => none
theorem platform_overlap_ok (n : Nat) : EntryOK Try.prog 30 (platform_overlap_e n) := by
  intro R site g avs hl k r h
  unfold platform_overlap_e at h
  split at h
  rotate_left
  · cases h
  replace h := prI_some h
  obtain ⟨a0, h, le0⟩ := h
  replace h := prG_some h
  obtain ⟨l1, h, e1⟩ := h
  subst e1
  split at h
  rotate_left
  · cases h
  replace h := prI_some h
  obtain ⟨a1_0, h, le1⟩ := h
  replace h := prI_some h
  obtain ⟨a1_1, h, le2⟩ := h
  replace h := prS_some h
  obtain ⟨a1_2, h, le3⟩ := h
  replace h := prG_some h
  obtain ⟨l2, h, e2⟩ := h
  subst e2
  split at h
  rotate_left
  · cases h
  replace h := prI_some h
  obtain ⟨a2_0, h, le4⟩ := h
  replace h := prI_some h
  obtain ⟨a2_1, h, le5⟩ := h
  replace h := prS_some h
  obtain ⟨a2_2, h, le6⟩ := h
  replace h := gb_some h
  obtain ⟨res, h, hr⟩ := h
  refine ⟨_, h, fun hg => CallOK.conv (avs' := [.d (D.int .i64 a0), .ag [.d (D.int .i64 a1_0), .d (D.int .i64 a1_1), .d (D.sl 1 a1_2)], .ag [.d (D.int .i64 a2_0), .d (D.int .i64 a2_1), .d (D.sl 1 a2_2)]]) (.cons (le0 hg) (.cons (.ag (.cons (le1 hg) (.cons (le2 hg) (.cons (le3 hg) (.nil))))) (.cons (.ag (.cons (le4 hg) (.cons (le5 hg) (.cons (le6 hg) (.nil))))) (.nil)))) (callOK_fix (K := platform_overlap_K) (res := res) (platform_overlap_VC n) (fn := Try.f30) (n := n) (by kernel_rfl) (by kernel_rfl) (by kernel_rfl) (ss := [[0]]) rfl ?_ ?_)⟩
  · exact (platform_overlap_vfn n a0 a1_0 a1_1 a1_2 a2_0 a2_1 a2_2 platform_overlap_K).trans (hr hg)
  · intro x hx
    unfold platform_overlap_K at hx
    split at hx
    · injection hx with hx; subst hx; rfl
    · cases hx
end Go.Vx
/-
  platform_fits: the interpreter computes the pure function
-/
set_option linter.unusedVariables false
set_option linter.unusedSimpArgs false
set_option maxRecDepth 100000
namespace Go.Vx
open Go.Proofs
noncomputable def platform_fits_c0 : Code := bodyOf Try.f32
noncomputable def platform_fits_c1 : Code := cL (bodyOf Try.f32)
noncomputable def platform_fits_c2 : Code := cL (cL (cR (bodyOf Try.f32)))
noncomputable def platform_fits_c3 : Code := cB (cB (cR (cL (cR (bodyOf Try.f32)))))
noncomputable def platform_fits_c4 : Code := cB (cR (cL (cR (bodyOf Try.f32))))
noncomputable def platform_fits_c5 : Code := cR (cL (cR (bodyOf Try.f32)))
noncomputable def platform_fits_c6 : Code := cL (cR (bodyOf Try.f32))
noncomputable def platform_fits_c7 : Code := cR (cR (bodyOf Try.f32))
noncomputable def platform_fits_c8 : Code := cR (bodyOf Try.f32)
theorem platform_fits_c4_eq : platform_fits_c4 = .loop platform_fits_c3 := by kernel_rfl
theorem platform_fits_c5_eq : platform_fits_c5 = .block 0 platform_fits_c4 := by kernel_rfl
theorem platform_fits_c6_eq : platform_fits_c6 = .seq platform_fits_c2 platform_fits_c5 := by kernel_rfl
theorem platform_fits_c8_eq : platform_fits_c8 = .seq platform_fits_c6 platform_fits_c7 := by kernel_rfl
theorem platform_fits_c0_eq : platform_fits_c0 = .seq platform_fits_c1 platform_fits_c8 := by kernel_rfl
def platform_fits_tt : TT := [(3, ⟨.int .i64, 1, 8, [.int .i64 0], [.int .i64 0], [], none⟩), (22, ⟨.sl 3 1, 1, 24, [.slice none 0 0], [.sl 1 []], [], none⟩), (24, ⟨.sl 28 3, 1, 24, [.slice none 0 0], [.sl 3 []], [], none⟩), (28, ⟨.struct, 3, 40, [.int .i64 0, .int .i64 0, .slice none 0 0], [.int .i64 0, .int .i64 0, .sl 1 []], [(0, 3), (1, 3), (2, 22)], none⟩)]
theorem platform_fits_tt_eq : mkTT Try.prog [3, 22, 24, 28] = platform_fits_tt := by kernel_rfl
def platform_fits_cfg : List (Nat × Cfg) := [(0, ⟨[0, 1, 2, 3, 4], [], [], [], []⟩), (1, ⟨[0, 1, 2, 3, 4, 12, 13], [], [], [], []⟩), (2, ⟨[0, 1, 2, 3, 4, 12, 13, 14], [], [], [], []⟩), (3, ⟨[0, 1, 2, 3, 4, 11, 12, 13], [], [], [], []⟩), (4, ⟨[0, 1, 2, 3, 4, 12, 13, 33], [], [], [], []⟩), (5, ⟨[10], [], [], [], []⟩), (6, ⟨[0, 1, 2, 3, 4, 12, 13], [], [], [], []⟩), (7, ⟨[10], [], [], [], []⟩)]
def platform_fits_C (n : Nat) : VC := ⟨specOf [(30, platform_overlap_e n)], platform_fits_tt, platform_fits_cfg⟩
theorem platform_fits_ents (n : Nat) : EntsOK Try.prog [(30, platform_overlap_e n)] := ⟨platform_overlap_ok n, trivial⟩
theorem platform_fits_VC (n : Nat) : VCOk Try.prog (platform_fits_C n) := ⟨specOf_ok (platform_fits_ents n), (platform_fits_tt_eq ▸ mkTT_ok _ : TOk Try.prog platform_fits_tt), by kernel_rfl⟩
theorem platform_fits_p1_congr {R : Type} (n : Nat) (a0 : Int) (a1 : List (List D)) (a2 : List (List D)) (a3 : Int) (a4 : Int) {k0 kk0 : Option R} (hq0 : k0 = kk0) : platform_fits_p1 n a0 a1 a2 a3 a4 k0 = platform_fits_p1 n a0 a1 a2 a3 a4 kk0 := by
  obtain rfl : k0 = kk0 := hq0
  rfl
theorem platform_fits_p2_congr {R : Type} (n : Nat) (a0 : Int) (a1 : List (List D)) (a2 : List (List D)) (a3 : Int) (a4 : Int) {k0 kk0 : Option R} (hq0 : k0 = kk0) : platform_fits_p2 n a0 a1 a2 a3 a4 k0 = platform_fits_p2 n a0 a1 a2 a3 a4 kk0 := by
  obtain rfl : k0 = kk0 := hq0
  rfl
theorem platform_fits_p3_congr {R : Type} (n : Nat) (a0 : Int) (a1 : List (List D)) (a2 : List (List D)) (a3 : Int) (a4 : Int) (h7 : Int) {k0 kk0 : Option R} {k1 kk1 : Int → Option R} {k2 kk2 : Bool → Option R} (hq0 : k0 = kk0) (hq1 : ∀ x0, k1 x0 = kk1 x0) (hq2 : ∀ x0, k2 x0 = kk2 x0) : platform_fits_p3 n a0 a1 a2 a3 a4 h7 k0 k1 k2 = platform_fits_p3 n a0 a1 a2 a3 a4 h7 kk0 kk1 kk2 := by
  obtain rfl : k0 = kk0 := hq0
  obtain rfl : k1 = kk1 := funext fun x0 => hq1 x0
  obtain rfl : k2 = kk2 := funext fun x0 => hq2 x0
  rfl
theorem platform_fits_p4_congr {R : Type} (n : Nat) (a0 : Int) (a1 : List (List D)) (a2 : List (List D)) (a3 : Int) (a4 : Int) {k0 kk0 : Option R} {k1 kk1 : Int → Bool → Option R} (hq0 : k0 = kk0) (hq1 : ∀ x0 x1, k1 x0 x1 = kk1 x0 x1) : platform_fits_p4 n a0 a1 a2 a3 a4 k0 k1 = platform_fits_p4 n a0 a1 a2 a3 a4 kk0 kk1 := by
  obtain rfl : k0 = kk0 := hq0
  obtain rfl : k1 = kk1 := funext fun x0 => funext fun x1 => hq1 x0 x1
  rfl
theorem platform_fits_p5_congr {R : Type} (n : Nat) (a0 : Int) (a1 : List (List D)) (a2 : List (List D)) (a3 : Int) (a4 : Int) {k0 kk0 : Option R} {k1 kk1 : Int → Bool → Option R} (hq0 : k0 = kk0) (hq1 : ∀ x0 x1, k1 x0 x1 = kk1 x0 x1) : platform_fits_p5 n a0 a1 a2 a3 a4 k0 k1 = platform_fits_p5 n a0 a1 a2 a3 a4 kk0 kk1 := by
  obtain rfl : k0 = kk0 := hq0
  obtain rfl : k1 = kk1 := funext fun x0 => funext fun x1 => hq1 x0 x1
  rfl
theorem platform_fits_p6_congr {R : Type} (n : Nat) (a0 : Int) (a1 : List (List D)) (a2 : List (List D)) (a3 : Int) (a4 : Int) {k0 kk0 : Option R} {k1 kk1 : Int → Bool → Option R} (hq0 : k0 = kk0) (hq1 : ∀ x0 x1, k1 x0 x1 = kk1 x0 x1) : platform_fits_p6 n a0 a1 a2 a3 a4 k0 k1 = platform_fits_p6 n a0 a1 a2 a3 a4 kk0 kk1 := by
  obtain rfl : k0 = kk0 := hq0
  obtain rfl : k1 = kk1 := funext fun x0 => funext fun x1 => hq1 x0 x1
  rfl
theorem platform_fits_p7_congr {R : Type} (n : Nat) (a0 : Int) (a1 : List (List D)) (a2 : List (List D)) (a3 : Int) (a4 : Int) (w54 : Int) (w55 : Bool) {k0 kk0 : Option R} (hq0 : k0 = kk0) : platform_fits_p7 n a0 a1 a2 a3 a4 w54 w55 k0 = platform_fits_p7 n a0 a1 a2 a3 a4 w54 w55 kk0 := by
  obtain rfl : k0 = kk0 := hq0
  rfl
theorem platform_fits_p8_congr {R : Type} (n : Nat) (a0 : Int) (a1 : List (List D)) (a2 : List (List D)) (a3 : Int) (a4 : Int) {k0 kk0 : Bool → Option R} (hq0 : ∀ x0, k0 x0 = kk0 x0) : platform_fits_p8 n a0 a1 a2 a3 a4 k0 = platform_fits_p8 n a0 a1 a2 a3 a4 kk0 := by
  obtain rfl : k0 = kk0 := funext fun x0 => hq0 x0
  rfl
theorem platform_fits_p9_congr {R : Type} (n : Nat) (a0 : Int) (a1 : List (List D)) (a2 : List (List D)) (a3 : Int) (a4 : Int) {k0 kk0 : Bool → Option R} (hq0 : ∀ x0, k0 x0 = kk0 x0) : platform_fits_p9 n a0 a1 a2 a3 a4 k0 = platform_fits_p9 n a0 a1 a2 a3 a4 kk0 := by
  obtain rfl : k0 = kk0 := funext fun x0 => hq0 x0
  rfl
theorem platform_fits_p1_eq {R : Type} (n : Nat) (a0 : Int) (a1 : List (List D)) (a2 : List (List D)) (a3 : Int) (a4 : Int) (k : Exit → St → Option R) : vexec (platform_fits_C n) n platform_fits_c1 ⟨35, [(0, .d (D.int .i64 a0)), (1, .d (D.sl 3 a1)), (2, .d (D.sl 1 a2)), (3, .d (D.int .i64 a3)), (4, .d (D.int .i64 a4))], []⟩ k = platform_fits_p1 n a0 a1 a2 a3 a4 (k .normal ⟨35, [(0, .d (D.int .i64 a0)), (1, .d (D.sl 3 a1)), (2, .d (D.sl 1 a2)), (3, .d (D.int .i64 a3)), (4, .d (D.int .i64 a4))], []⟩) := by kernel_rfl
theorem platform_fits_p2_eq {R : Type} (n : Nat) (a0 : Int) (a1 : List (List D)) (a2 : List (List D)) (a3 : Int) (a4 : Int) (k : Exit → St → Option R) : vexec (platform_fits_C n) n platform_fits_c2 ⟨35, [(0, .d (D.int .i64 a0)), (1, .d (D.sl 3 a1)), (2, .d (D.sl 1 a2)), (3, .d (D.int .i64 a3)), (4, .d (D.int .i64 a4))], []⟩ k = platform_fits_p2 n a0 a1 a2 a3 a4 (k .normal ⟨35, [(0, .d (D.int .i64 a0)), (1, .d (D.sl 3 a1)), (2, .d (D.sl 1 a2)), (3, .d (D.int .i64 a3)), (4, .d (D.int .i64 a4)), (12, .d (D.int .i64 a3)), (13, .d (D.int .i64 (0 : Int)))], []⟩) := by kernel_rfl
theorem platform_fits_p3_eq {R : Type} (n : Nat) (a0 : Int) (a1 : List (List D)) (a2 : List (List D)) (a3 : Int) (a4 : Int) (h7 : Int) (k : Exit → St → Option R) : vexec (platform_fits_C n) n platform_fits_c3 ⟨35, [(0, .d (D.int .i64 a0)), (1, .d (D.sl 3 a1)), (2, .d (D.sl 1 a2)), (3, .d (D.int .i64 a3)), (4, .d (D.int .i64 a4)), (12, .d (D.int .i64 a3)), (13, .d (D.int .i64 h7))], []⟩ k = platform_fits_p3 n a0 a1 a2 a3 a4 h7 (k .ret ⟨35, [(10, .d (D.bool false))], []⟩) (fun z46 => k .normal ⟨35, [(0, .d (D.int .i64 a0)), (1, .d (D.sl 3 a1)), (2, .d (D.sl 1 a2)), (3, .d (D.int .i64 a3)), (4, .d (D.int .i64 a4)), (12, .d (D.int .i64 a3)), (13, .d (D.int .i64 z46))], []⟩) (fun z47 => k (.exit 0) ⟨35, [(0, .d (D.int .i64 a0)), (1, .d (D.sl 3 a1)), (2, .d (D.sl 1 a2)), (3, .d (D.int .i64 a3)), (4, .d (D.int .i64 a4)), (12, .d (D.int .i64 a3)), (13, .d (D.int .i64 h7)), (14, .d (D.bool z47))], []⟩) := by kernel_rfl
theorem platform_fits_r4_eq {R : Type} (n : Nat) (a0 : Int) (a1 : List (List D)) (a2 : List (List D)) (a3 : Int) (a4 : Int) (k : Exit → St → Option R) : ∀ (m : Nat) (h7 : Int), loopN (vexec (platform_fits_C n) n platform_fits_c3) m ⟨35, [(0, .d (D.int .i64 a0)), (1, .d (D.sl 3 a1)), (2, .d (D.sl 1 a2)), (3, .d (D.int .i64 a3)), (4, .d (D.int .i64 a4)), (12, .d (D.int .i64 a3)), (13, .d (D.int .i64 h7))], []⟩ k = platform_fits_r4 n a0 a1 a2 a3 a4 (k .ret ⟨35, [(10, .d (D.bool false))], []⟩) (fun h7 w49 => k (.exit 0) ⟨35, [(0, .d (D.int .i64 a0)), (1, .d (D.sl 3 a1)), (2, .d (D.sl 1 a2)), (3, .d (D.int .i64 a3)), (4, .d (D.int .i64 a4)), (12, .d (D.int .i64 a3)), (13, .d (D.int .i64 h7)), (14, .d (D.bool w49))], []⟩) m h7
  | 0, _ => rfl
  | m + 1, h7 => (platform_fits_p3_eq n a0 a1 a2 a3 a4 h7 (loopK (vexec (platform_fits_C n) n platform_fits_c3) m k)).trans (platform_fits_p3_congr n a0 a1 a2 a3 a4 h7 (rfl) (fun w48 => platform_fits_r4_eq n a0 a1 a2 a3 a4 k m w48) (fun w49 => rfl))
theorem platform_fits_p4_eq {R : Type} (n : Nat) (a0 : Int) (a1 : List (List D)) (a2 : List (List D)) (a3 : Int) (a4 : Int) (k : Exit → St → Option R) : vexec (platform_fits_C n) n platform_fits_c4 ⟨35, [(0, .d (D.int .i64 a0)), (1, .d (D.sl 3 a1)), (2, .d (D.sl 1 a2)), (3, .d (D.int .i64 a3)), (4, .d (D.int .i64 a4)), (12, .d (D.int .i64 a3)), (13, .d (D.int .i64 (0 : Int)))], []⟩ k = platform_fits_p4 n a0 a1 a2 a3 a4 (k .ret ⟨35, [(10, .d (D.bool false))], []⟩) (fun h7 w49 => k (.exit 0) ⟨35, [(0, .d (D.int .i64 a0)), (1, .d (D.sl 3 a1)), (2, .d (D.sl 1 a2)), (3, .d (D.int .i64 a3)), (4, .d (D.int .i64 a4)), (12, .d (D.int .i64 a3)), (13, .d (D.int .i64 h7)), (14, .d (D.bool w49))], []⟩) := by
  rw [platform_fits_c4_eq]
  exact platform_fits_r4_eq n a0 a1 a2 a3 a4 k n (0 : Int)
theorem platform_fits_p5_eq {R : Type} (n : Nat) (a0 : Int) (a1 : List (List D)) (a2 : List (List D)) (a3 : Int) (a4 : Int) (k : Exit → St → Option R) : vexec (platform_fits_C n) n platform_fits_c5 ⟨35, [(0, .d (D.int .i64 a0)), (1, .d (D.sl 3 a1)), (2, .d (D.sl 1 a2)), (3, .d (D.int .i64 a3)), (4, .d (D.int .i64 a4)), (12, .d (D.int .i64 a3)), (13, .d (D.int .i64 (0 : Int)))], []⟩ k = platform_fits_p5 n a0 a1 a2 a3 a4 (k .ret ⟨35, [(10, .d (D.bool false))], []⟩) (fun w50 w51 => k .normal ⟨35, [(0, .d (D.int .i64 a0)), (1, .d (D.sl 3 a1)), (2, .d (D.sl 1 a2)), (3, .d (D.int .i64 a3)), (4, .d (D.int .i64 a4)), (12, .d (D.int .i64 a3)), (13, .d (D.int .i64 w50)), (14, .d (D.bool w51))], []⟩) := by
  rw [platform_fits_c5_eq]
  unfold platform_fits_p5
  exact (platform_fits_p4_eq n a0 a1 a2 a3 a4 (blockK 0 k)).trans (platform_fits_p4_congr n a0 a1 a2 a3 a4 (rfl) (fun w50 w51 => rfl))
theorem platform_fits_p6_eq {R : Type} (n : Nat) (a0 : Int) (a1 : List (List D)) (a2 : List (List D)) (a3 : Int) (a4 : Int) (k : Exit → St → Option R) : vexec (platform_fits_C n) n platform_fits_c6 ⟨35, [(0, .d (D.int .i64 a0)), (1, .d (D.sl 3 a1)), (2, .d (D.sl 1 a2)), (3, .d (D.int .i64 a3)), (4, .d (D.int .i64 a4))], []⟩ k = platform_fits_p6 n a0 a1 a2 a3 a4 (k .ret ⟨35, [(10, .d (D.bool false))], []⟩) (fun w52 w53 => k .normal ⟨35, [(0, .d (D.int .i64 a0)), (1, .d (D.sl 3 a1)), (2, .d (D.sl 1 a2)), (3, .d (D.int .i64 a3)), (4, .d (D.int .i64 a4)), (12, .d (D.int .i64 a3)), (13, .d (D.int .i64 w52)), (14, .d (D.bool w53))], []⟩) := by
  rw [platform_fits_c6_eq]
  unfold platform_fits_p6
  exact (platform_fits_p2_eq n a0 a1 a2 a3 a4 (seqK (platform_fits_C n) n platform_fits_c5 k)).trans (platform_fits_p2_congr n a0 a1 a2 a3 a4 (platform_fits_p5_eq n a0 a1 a2 a3 a4 k))
theorem platform_fits_p7_eq {R : Type} (n : Nat) (a0 : Int) (a1 : List (List D)) (a2 : List (List D)) (a3 : Int) (a4 : Int) (w54 : Int) (w55 : Bool) (k : Exit → St → Option R) : vexec (platform_fits_C n) n platform_fits_c7 ⟨35, [(0, .d (D.int .i64 a0)), (1, .d (D.sl 3 a1)), (2, .d (D.sl 1 a2)), (3, .d (D.int .i64 a3)), (4, .d (D.int .i64 a4)), (12, .d (D.int .i64 a3)), (13, .d (D.int .i64 w54)), (14, .d (D.bool w55))], []⟩ k = platform_fits_p7 n a0 a1 a2 a3 a4 w54 w55 (k .ret ⟨35, [(10, .d (D.bool true))], []⟩) := by kernel_rfl
theorem platform_fits_p8_eq {R : Type} (n : Nat) (a0 : Int) (a1 : List (List D)) (a2 : List (List D)) (a3 : Int) (a4 : Int) (k : Exit → St → Option R) : vexec (platform_fits_C n) n platform_fits_c8 ⟨35, [(0, .d (D.int .i64 a0)), (1, .d (D.sl 3 a1)), (2, .d (D.sl 1 a2)), (3, .d (D.int .i64 a3)), (4, .d (D.int .i64 a4))], []⟩ k = platform_fits_p8 n a0 a1 a2 a3 a4 (fun z56 => k .ret ⟨35, [(10, .d (D.bool z56))], []⟩) := by
  rw [platform_fits_c8_eq]
  unfold platform_fits_p8
  exact (platform_fits_p6_eq n a0 a1 a2 a3 a4 (seqK (platform_fits_C n) n platform_fits_c7 k)).trans (platform_fits_p6_congr n a0 a1 a2 a3 a4 (rfl) (fun w54 w55 => platform_fits_p7_eq n a0 a1 a2 a3 a4 w54 w55 k))
theorem platform_fits_p9_eq {R : Type} (n : Nat) (a0 : Int) (a1 : List (List D)) (a2 : List (List D)) (a3 : Int) (a4 : Int) (k : Exit → St → Option R) : vexec (platform_fits_C n) n platform_fits_c0 ⟨35, [(0, .d (D.int .i64 a0)), (1, .d (D.sl 3 a1)), (2, .d (D.sl 1 a2)), (3, .d (D.int .i64 a3)), (4, .d (D.int .i64 a4))], []⟩ k = platform_fits_p9 n a0 a1 a2 a3 a4 (fun w57 => k .ret ⟨35, [(10, .d (D.bool w57))], []⟩) := by
  rw [platform_fits_c0_eq]
  unfold platform_fits_p9
  exact (platform_fits_p1_eq n a0 a1 a2 a3 a4 (seqK (platform_fits_C n) n platform_fits_c8 k)).trans (platform_fits_p1_congr n a0 a1 a2 a3 a4 (platform_fits_p8_eq n a0 a1 a2 a3 a4 k))
theorem platform_fits_vfn {R : Type} (n : Nat) (a0 : Int) (a1 : List (List D)) (a2 : List (List D)) (a3 : Int) (a4 : Int) (K : AV → Option R) : vfn (platform_fits_C n) n Try.f32 [.d (D.int .i64 a0), .d (D.sl 3 a1), .d (D.sl 1 a2), .d (D.int .i64 a3), .d (D.int .i64 a4)] [] (retF [[0]] K) = platform_fits n a0 a1 a2 a3 a4 (fun r0 => K (.d (D.bool r0))) :=
  (show vfn (platform_fits_C n) n Try.f32 [.d (D.int .i64 a0), .d (D.sl 3 a1), .d (D.sl 1 a2), .d (D.int .i64 a3), .d (D.int .i64 a4)] [] (retF [[0]] K) = vexec (platform_fits_C n) n platform_fits_c0 ⟨35, [(0, .d (D.int .i64 a0)), (1, .d (D.sl 3 a1)), (2, .d (D.sl 1 a2)), (3, .d (D.int .i64 a3)), (4, .d (D.int .i64 a4))], []⟩ (retX platform_fits_tt [.tmp 10] (retF [[0]] K)) from vfn_at (by kernel_rfl) (by kernel_rfl) rfl (by kernel_rfl) rfl (by kernel_rfl) rfl).trans ((platform_fits_p9_eq n a0 a1 a2 a3 a4 (retX platform_fits_tt [.tmp 10] (retF [[0]] K))).trans (by kernel_rfl))
def platform_fits_K : AV → Option (Bool) := fun av => match av with
  | .d (D.bool r0) => some r0
  | _ => none
def platform_fits_e (n : Nat) : Entry := fun _ _ g avs _ k => match avs with
  | [c0, c1, c2, c3, c4] => prI g .i64 c0 fun a0 => prS g 3 c1 fun a1 => prS g 1 c2 fun a2 => prI g .i64 c3 fun a3 => prI g .i64 c4 fun a4 => 
    gb g (platform_fits n a0 a1 a2 a3 a4 some) false fun r => k ⟨.d (D.bool r), [], []⟩
  | _ => none
theorem platform_fits_ok (n : Nat) : EntryOK Try.prog 32 (platform_fits_e n) := by
  intro R site g avs hl k r h
  unfold platform_fits_e at h
  split at h
  rotate_left
  · cases h
  replace h := prI_some h
  obtain ⟨a0, h, le0⟩ := h
  replace h := prS_some h
  obtain ⟨a1, h, le1⟩ := h
  replace h := prS_some h
  obtain ⟨a2, h, le2⟩ := h
  replace h := prI_some h
  obtain ⟨a3, h, le3⟩ := h
  replace h := prI_some h
  obtain ⟨a4, h, le4⟩ := h
  replace h := gb_some h
  obtain ⟨res, h, hr⟩ := h
  refine ⟨_, h, fun hg => CallOK.conv (avs' := [.d (D.int .i64 a0), .d (D.sl 3 a1), .d (D.sl 1 a2), .d (D.int .i64 a3), .d (D.int .i64 a4)]) (.cons (le0 hg) (.cons (le1 hg) (.cons (le2 hg) (.cons (le3 hg) (.cons (le4 hg) (.nil)))))) (callOK_fix (K := platform_fits_K) (res := res) (platform_fits_VC n) (fn := Try.f32) (n := n) (by kernel_rfl) (by kernel_rfl) (by kernel_rfl) (ss := [[0]]) rfl ?_ ?_)⟩
  · exact (platform_fits_vfn n a0 a1 a2 a3 a4 platform_fits_K).trans (hr hg)
  · intro x hx
    unfold platform_fits_K at hx
    split at hx
    · injection hx with hx; subst hx; rfl
    · cases hx
end Go.Vx
/-
  railplan_platform_Assign_1_s1: the interpreter computes the pure function
-/
set_option linter.unusedVariables false
set_option linter.unusedSimpArgs false
set_option maxRecDepth 100000
namespace Go.Vx
open Go.Proofs
noncomputable def railplan_platform_Assign_1_s1_c0 : Code := bodyOf Try.f31
noncomputable def railplan_platform_Assign_1_s1_c1 : Code := cL (bodyOf Try.f31)
noncomputable def railplan_platform_Assign_1_s1_c2 : Code := cL (cR (bodyOf Try.f31))
noncomputable def railplan_platform_Assign_1_s1_c3 : Code := cL (cL (cR (cR (bodyOf Try.f31))))
noncomputable def railplan_platform_Assign_1_s1_c4 : Code := cB (cB (cR (cL (cR (cR (bodyOf Try.f31))))))
noncomputable def railplan_platform_Assign_1_s1_c5 : Code := cB (cR (cL (cR (cR (bodyOf Try.f31)))))
noncomputable def railplan_platform_Assign_1_s1_c6 : Code := cR (cL (cR (cR (bodyOf Try.f31))))
noncomputable def railplan_platform_Assign_1_s1_c7 : Code := cL (cR (cR (bodyOf Try.f31)))
noncomputable def railplan_platform_Assign_1_s1_c8 : Code := cR (cR (cR (bodyOf Try.f31)))
noncomputable def railplan_platform_Assign_1_s1_c9 : Code := cR (cR (bodyOf Try.f31))
noncomputable def railplan_platform_Assign_1_s1_c10 : Code := cR (bodyOf Try.f31)
theorem railplan_platform_Assign_1_s1_c5_eq : railplan_platform_Assign_1_s1_c5 = .loop railplan_platform_Assign_1_s1_c4 := by kernel_rfl
theorem railplan_platform_Assign_1_s1_c6_eq : railplan_platform_Assign_1_s1_c6 = .block 0 railplan_platform_Assign_1_s1_c5 := by kernel_rfl
theorem railplan_platform_Assign_1_s1_c7_eq : railplan_platform_Assign_1_s1_c7 = .seq railplan_platform_Assign_1_s1_c3 railplan_platform_Assign_1_s1_c6 := by kernel_rfl
theorem railplan_platform_Assign_1_s1_c9_eq : railplan_platform_Assign_1_s1_c9 = .seq railplan_platform_Assign_1_s1_c7 railplan_platform_Assign_1_s1_c8 := by kernel_rfl
theorem railplan_platform_Assign_1_s1_c10_eq : railplan_platform_Assign_1_s1_c10 = .seq railplan_platform_Assign_1_s1_c2 railplan_platform_Assign_1_s1_c9 := by kernel_rfl
theorem railplan_platform_Assign_1_s1_c0_eq : railplan_platform_Assign_1_s1_c0 = .seq railplan_platform_Assign_1_s1_c1 railplan_platform_Assign_1_s1_c10 := by kernel_rfl
def railplan_platform_Assign_1_s1_tt : TT := [(3, ⟨.int .i64, 1, 8, [.int .i64 0], [.int .i64 0], [], none⟩), (22, ⟨.sl 3 1, 1, 24, [.slice none 0 0], [.sl 1 []], [], none⟩), (24, ⟨.sl 28 3, 1, 24, [.slice none 0 0], [.sl 3 []], [], none⟩), (28, ⟨.struct, 3, 40, [.int .i64 0, .int .i64 0, .slice none 0 0], [.int .i64 0, .int .i64 0, .sl 1 []], [(0, 3), (1, 3), (2, 22)], none⟩), (31, ⟨.int .i64, 1, 8, [.int .i64 0], [.int .i64 0], [], none⟩), (51, ⟨.other, 1, 8, [.nilFunc], [], [], none⟩)]
theorem railplan_platform_Assign_1_s1_tt_eq : mkTT Try.prog [3, 22, 24, 28, 31, 51] = railplan_platform_Assign_1_s1_tt := by kernel_rfl
def railplan_platform_Assign_1_s1_cfg : List (Nat × Cfg) := [(0, ⟨[0, 1, 2, 3, 4, 5, 6], [(1000000, 1000000), (1000001, 1000001), (1000002, 1000002), (1000003, 1000003), (1000004, 1000004), (1000005, 98160), (1000006, 1000006)], [], [], []⟩), (1, ⟨[0, 1, 2, 3, 4, 5, 6, 15], [(98160, 98160), (1000000, 1000000), (1000001, 1000001), (1000002, 1000002), (1000003, 1000003), (1000004, 1000004), (1000006, 1000006)], [], [], []⟩), (2, ⟨[8], [(98160, 98160), (1000000, 1000000), (1000001, 1000001), (1000002, 1000002), (1000003, 1000003), (1000004, 1000004), (1000006, 1000006)], [], [], []⟩), (3, ⟨[0, 1, 2, 3, 4, 5, 6, 20, 21, 22], [(98160, 98160), (1000000, 1000000), (1000001, 1000001), (1000002, 1000002), (1000003, 1000003), (1000004, 1000004), (1000006, 1000006)], [], [], []⟩), (4, ⟨[0, 1, 2, 3, 4, 5, 6, 20, 21, 22, 23], [(98160, 98160), (1000000, 1000000), (1000001, 1000001), (1000002, 1000002), (1000003, 1000003), (1000004, 1000004), (1000006, 1000006)], [], [], []⟩), (5, ⟨[0, 1, 2, 3, 4, 5, 6, 10, 20, 21, 22], [(98160, 98160), (1000000, 1000000), (1000001, 1000001), (1000002, 1000002), (1000003, 1000003), (1000004, 1000004), (1000006, 1000006)], [], [], []⟩), (6, ⟨[0, 1, 2, 3, 4, 5, 6, 10, 20, 21, 22, 28], [(98160, 98160), (1000000, 1000000), (1000001, 1000001), (1000002, 1000002), (1000003, 1000003), (1000004, 1000004), (1000006, 1000006)], [], [], []⟩), (7, ⟨[8], [(98160, 98160), (1000000, 1000000), (1000001, 1000001), (1000002, 1000002), (1000003, 1000003), (1000004, 1000004), (1000006, 1000006)], [], [], []⟩), (8, ⟨[0, 1, 2, 3, 4, 5, 6, 10, 20, 21, 22], [(98160, 98160), (1000000, 1000000), (1000001, 1000001), (1000002, 1000002), (1000003, 1000003), (1000004, 1000004), (1000006, 1000006)], [], [], []⟩), (9, ⟨[0, 1, 2, 3, 4, 5, 6, 10, 20, 21, 22, 37], [(98160, 98160), (1000000, 1000000), (1000001, 1000001), (1000002, 1000002), (1000003, 1000003), (1000004, 1000004), (1000006, 1000006)], [], [], []⟩), (10, ⟨[0, 1, 2, 3, 4, 5, 6, 20, 21, 22], [(98160, 98160), (1000000, 1000000), (1000001, 1000001), (1000002, 1000002), (1000003, 1000003), (1000004, 1000004), (1000006, 1000006)], [], [], []⟩), (11, ⟨[0, 1, 2, 3, 4, 5, 6, 11, 20, 21, 22], [(100045, 98160), (1000000, 1000000), (1000001, 1000001), (1000002, 1000002), (1000003, 1000003), (1000004, 1000004), (1000006, 1000006)], [], [], []⟩), (12, ⟨[0, 1, 2, 3, 4, 5, 6, 11, 20, 21, 22, 47], [(98160, 98160), (1000000, 1000000), (1000001, 1000001), (1000002, 1000002), (1000003, 1000003), (1000004, 1000004), (1000006, 1000006)], [], [], []⟩), (13, ⟨[8], [(98160, 98160), (1000000, 1000000), (1000001, 1000001), (1000002, 1000002), (1000003, 1000003), (1000004, 1000004), (1000006, 1000006)], [], [], []⟩), (14, ⟨[0, 1, 2, 3, 4, 5, 6, 20, 21, 22], [(98160, 98160), (1000000, 1000000), (1000001, 1000001), (1000002, 1000002), (1000003, 1000003), (1000004, 1000004), (1000006, 1000006)], [], [], []⟩), (15, ⟨[8], [(98160, 98160), (1000000, 1000000), (1000001, 1000001), (1000002, 1000002), (1000003, 1000003), (1000004, 1000004), (1000006, 1000006)], [], [], []⟩)]
def railplan_platform_Assign_1_s1_s (n d : Nat) : Entry := fun _ site g avs hl k => match avs with
  | [c0, c1, c2, c3, c4, c5, c6] => prI g .i64 c0 fun a0 => prP hl c1 fun l0 bl0 => (match bl0 with
    | [xl0_0] => prS g 3 xl0_0 fun b0_0 => prP hl c2 fun l1 bl1 => (match bl1 with
    | [xl1_0] => prI g .i64 xl1_0 fun b1_0 => prP hl c3 fun l2 bl2 => (match bl2 with
    | [xl2_0] => prI g .i64 xl2_0 fun b2_0 => prP hl c4 fun l3 bl3 => (match bl3 with
    | [xl3_0] => prI g .i64 xl3_0 fun b3_0 => prP hl c5 fun l4 bl4 => (match bl4 with
    | [xl4_0] => prR hl 3 1 xl4_0 fun l5 q5 => prP hl c6 fun l6 bl6 => (match bl6 with
    | [xl6_0] => prF 31 xl6_0 fun m49 => (match m49 with
    | [y49_0, y49_1, y49_2, y49_3, y49_4, y49_5] => prQ l0 y49_0 (prQ l1 y49_1 (prQ l2 y49_2 (prQ l3 y49_3 (prQ l4 y49_4 (prQ l6 y49_5 (
    bif newsOk hl [(1000000, l0), (1000001, l1), (1000002, l2), (1000003, l3), (1000004, l4), (1000005, l5), (1000006, l6)] [(98160, (site + 100000))] then gb g (railplan_platform_Assign_1_s1_F n d a0 b0_0 b1_0 b2_0 b3_0 q5) (0, [], 0, 0, 0, []) fun r => k ⟨.d (D.int .i64 r.1), [(l0, some (.box [.d (D.sl 3 r.2.1)])), (l1, some (.box [.d (D.int .i64 r.2.2.1)])), (l2, some (.box [.d (D.int .i64 r.2.2.2.1)])), (l3, some (.box [.d (D.int .i64 r.2.2.2.2.1)])), (l4, some (.box [.arr (site + 100000)])), (l5, none), (l6, some (.box [.fn 31 [.ptr l0 0, .ptr l1 0, .ptr l2 0, .ptr l3 0, .ptr l4 0, .ptr l6 0]])), ((site + 100000), some (.arr 3 1 r.2.2.2.2.2))], [l0, l1, l2, l3, l4, l5, l6]⟩ else none))))))
    | _ => none)
    | _ => none)
    | _ => none)
    | _ => none)
    | _ => none)
    | _ => none)
    | _ => none)
  | _ => none
def railplan_platform_Assign_1_s1_C (n d : Nat) : VC := ⟨specOf [(32, platform_fits_e n), (31, railplan_platform_Assign_1_s1_s n d)], railplan_platform_Assign_1_s1_tt, railplan_platform_Assign_1_s1_cfg⟩
theorem railplan_platform_Assign_1_s1_ents (n d : Nat) (ih : EntryOK Try.prog 31 (railplan_platform_Assign_1_s1_s n d)) : EntsOK Try.prog [(32, platform_fits_e n), (31, railplan_platform_Assign_1_s1_s n d)] := ⟨platform_fits_ok n, ⟨ih, trivial⟩⟩
theorem railplan_platform_Assign_1_s1_VC (n d : Nat) (ih : EntryOK Try.prog 31 (railplan_platform_Assign_1_s1_s n d)) : VCOk Try.prog (railplan_platform_Assign_1_s1_C n d) := ⟨specOf_ok (railplan_platform_Assign_1_s1_ents n d ih), (railplan_platform_Assign_1_s1_tt_eq ▸ mkTT_ok _ : TOk Try.prog railplan_platform_Assign_1_s1_tt), by kernel_rfl⟩
theorem railplan_platform_Assign_1_s1_p1_congr {R : Type} (n : Nat) (Fr : Int → (List (List D)) → Int → Int → Int → (List (List D)) → Option (Int × (List (List D)) × Int × Int × Int × (List (List D)))) (a0 : Int) (b0_0 : List (List D)) (b1_0 : Int) (b2_0 : Int) (b3_0 : Int) (q5 : List (List D)) {k0 kk0 : Option R} (hq0 : k0 = kk0) : railplan_platform_Assign_1_s1_p1 n Fr a0 b0_0 b1_0 b2_0 b3_0 q5 k0 = railplan_platform_Assign_1_s1_p1 n Fr a0 b0_0 b1_0 b2_0 b3_0 q5 kk0 := by
  obtain rfl : k0 = kk0 := hq0
  rfl
theorem railplan_platform_Assign_1_s1_p2_congr {R : Type} (n : Nat) (Fr : Int → (List (List D)) → Int → Int → Int → (List (List D)) → Option (Int × (List (List D)) × Int × Int × Int × (List (List D)))) (a0 : Int) (b0_0 : List (List D)) (b1_0 : Int) (b2_0 : Int) (b3_0 : Int) (q5 : List (List D)) {k0 kk0 : Option R} {k1 kk1 : Bool → Option R} (hq0 : k0 = kk0) (hq1 : ∀ x0, k1 x0 = kk1 x0) : railplan_platform_Assign_1_s1_p2 n Fr a0 b0_0 b1_0 b2_0 b3_0 q5 k0 k1 = railplan_platform_Assign_1_s1_p2 n Fr a0 b0_0 b1_0 b2_0 b3_0 q5 kk0 kk1 := by
  obtain rfl : k0 = kk0 := hq0
  obtain rfl : k1 = kk1 := funext fun x0 => hq1 x0
  rfl
theorem railplan_platform_Assign_1_s1_p3_congr {R : Type} (n : Nat) (Fr : Int → (List (List D)) → Int → Int → Int → (List (List D)) → Option (Int × (List (List D)) × Int × Int × Int × (List (List D)))) (a0 : Int) (w2 : Bool) (q5 : List (List D)) (b0_0 : List (List D)) (b1_0 : Int) (b2_0 : Int) (b3_0 : Int) {k0 kk0 : (List (List D)) → Int → Option R} (hq0 : ∀ x0 x1, k0 x0 x1 = kk0 x0 x1) : railplan_platform_Assign_1_s1_p3 n Fr a0 w2 q5 b0_0 b1_0 b2_0 b3_0 k0 = railplan_platform_Assign_1_s1_p3 n Fr a0 w2 q5 b0_0 b1_0 b2_0 b3_0 kk0 := by
  obtain rfl : k0 = kk0 := funext fun x0 => funext fun x1 => hq0 x0 x1
  rfl
theorem railplan_platform_Assign_1_s1_p4_congr {R : Type} (n : Nat) (Fr : Int → (List (List D)) → Int → Int → Int → (List (List D)) → Option (Int × (List (List D)) × Int × Int × Int × (List (List D)))) (a0 : Int) (w7 : List (List D)) (w8 : Int) (h12 : Int) (h13 : List (List D)) (h14 : List (List D)) (h15 : Int) (h16 : Int) (h17 : Int) {k0 kk0 : Int → (List (List D)) → (List (List D)) → Int → Int → Int → Option R} {k1 kk1 : Int → (List (List D)) → (List (List D)) → Int → Int → Int → Option R} {k2 kk2 : Bool → Option R} (hq0 : ∀ x0 x1 x2 x3 x4 x5, k0 x0 x1 x2 x3 x4 x5 = kk0 x0 x1 x2 x3 x4 x5) (hq1 : ∀ x0 x1 x2 x3 x4 x5, k1 x0 x1 x2 x3 x4 x5 = kk1 x0 x1 x2 x3 x4 x5) (hq2 : ∀ x0, k2 x0 = kk2 x0) : railplan_platform_Assign_1_s1_p4 n Fr a0 w7 w8 h12 h13 h14 h15 h16 h17 k0 k1 k2 = railplan_platform_Assign_1_s1_p4 n Fr a0 w7 w8 h12 h13 h14 h15 h16 h17 kk0 kk1 kk2 := by
  obtain rfl : k0 = kk0 := funext fun x0 => funext fun x1 => funext fun x2 => funext fun x3 => funext fun x4 => funext fun x5 => hq0 x0 x1 x2 x3 x4 x5
  obtain rfl : k1 = kk1 := funext fun x0 => funext fun x1 => funext fun x2 => funext fun x3 => funext fun x4 => funext fun x5 => hq1 x0 x1 x2 x3 x4 x5
  obtain rfl : k2 = kk2 := funext fun x0 => hq2 x0
  rfl
theorem railplan_platform_Assign_1_s1_p5_congr {R : Type} (n : Nat) (Fr : Int → (List (List D)) → Int → Int → Int → (List (List D)) → Option (Int × (List (List D)) × Int × Int × Int × (List (List D)))) (a0 : Int) (w7 : List (List D)) (w8 : Int) (q5 : List (List D)) (b0_0 : List (List D)) (b1_0 : Int) (b2_0 : Int) (b3_0 : Int) {k0 kk0 : Int → (List (List D)) → (List (List D)) → Int → Int → Int → Option R} {k1 kk1 : Int → Bool → (List (List D)) → (List (List D)) → Int → Int → Int → Option R} (hq0 : ∀ x0 x1 x2 x3 x4 x5, k0 x0 x1 x2 x3 x4 x5 = kk0 x0 x1 x2 x3 x4 x5) (hq1 : ∀ x0 x1 x2 x3 x4 x5 x6, k1 x0 x1 x2 x3 x4 x5 x6 = kk1 x0 x1 x2 x3 x4 x5 x6) : railplan_platform_Assign_1_s1_p5 n Fr a0 w7 w8 q5 b0_0 b1_0 b2_0 b3_0 k0 k1 = railplan_platform_Assign_1_s1_p5 n Fr a0 w7 w8 q5 b0_0 b1_0 b2_0 b3_0 kk0 kk1 := by
  obtain rfl : k0 = kk0 := funext fun x0 => funext fun x1 => funext fun x2 => funext fun x3 => funext fun x4 => funext fun x5 => hq0 x0 x1 x2 x3 x4 x5
  obtain rfl : k1 = kk1 := funext fun x0 => funext fun x1 => funext fun x2 => funext fun x3 => funext fun x4 => funext fun x5 => funext fun x6 => hq1 x0 x1 x2 x3 x4 x5 x6
  rfl
theorem railplan_platform_Assign_1_s1_p6_congr {R : Type} (n : Nat) (Fr : Int → (List (List D)) → Int → Int → Int → (List (List D)) → Option (Int × (List (List D)) × Int × Int × Int × (List (List D)))) (a0 : Int) (w7 : List (List D)) (w8 : Int) (q5 : List (List D)) (b0_0 : List (List D)) (b1_0 : Int) (b2_0 : Int) (b3_0 : Int) {k0 kk0 : Int → (List (List D)) → (List (List D)) → Int → Int → Int → Option R} {k1 kk1 : Int → Bool → (List (List D)) → (List (List D)) → Int → Int → Int → Option R} (hq0 : ∀ x0 x1 x2 x3 x4 x5, k0 x0 x1 x2 x3 x4 x5 = kk0 x0 x1 x2 x3 x4 x5) (hq1 : ∀ x0 x1 x2 x3 x4 x5 x6, k1 x0 x1 x2 x3 x4 x5 x6 = kk1 x0 x1 x2 x3 x4 x5 x6) : railplan_platform_Assign_1_s1_p6 n Fr a0 w7 w8 q5 b0_0 b1_0 b2_0 b3_0 k0 k1 = railplan_platform_Assign_1_s1_p6 n Fr a0 w7 w8 q5 b0_0 b1_0 b2_0 b3_0 kk0 kk1 := by
  obtain rfl : k0 = kk0 := funext fun x0 => funext fun x1 => funext fun x2 => funext fun x3 => funext fun x4 => funext fun x5 => hq0 x0 x1 x2 x3 x4 x5
  obtain rfl : k1 = kk1 := funext fun x0 => funext fun x1 => funext fun x2 => funext fun x3 => funext fun x4 => funext fun x5 => funext fun x6 => hq1 x0 x1 x2 x3 x4 x5 x6
  rfl
theorem railplan_platform_Assign_1_s1_p7_congr {R : Type} (n : Nat) (Fr : Int → (List (List D)) → Int → Int → Int → (List (List D)) → Option (Int × (List (List D)) × Int × Int × Int × (List (List D)))) (a0 : Int) (w2 : Bool) (q5 : List (List D)) (b0_0 : List (List D)) (b1_0 : Int) (b2_0 : Int) (b3_0 : Int) {k0 kk0 : Int → (List (List D)) → (List (List D)) → Int → Int → Int → Option R} {k1 kk1 : (List (List D)) → Int → Int → Bool → (List (List D)) → (List (List D)) → Int → Int → Int → Option R} (hq0 : ∀ x0 x1 x2 x3 x4 x5, k0 x0 x1 x2 x3 x4 x5 = kk0 x0 x1 x2 x3 x4 x5) (hq1 : ∀ x0 x1 x2 x3 x4 x5 x6 x7 x8, k1 x0 x1 x2 x3 x4 x5 x6 x7 x8 = kk1 x0 x1 x2 x3 x4 x5 x6 x7 x8) : railplan_platform_Assign_1_s1_p7 n Fr a0 w2 q5 b0_0 b1_0 b2_0 b3_0 k0 k1 = railplan_platform_Assign_1_s1_p7 n Fr a0 w2 q5 b0_0 b1_0 b2_0 b3_0 kk0 kk1 := by
  obtain rfl : k0 = kk0 := funext fun x0 => funext fun x1 => funext fun x2 => funext fun x3 => funext fun x4 => funext fun x5 => hq0 x0 x1 x2 x3 x4 x5
  obtain rfl : k1 = kk1 := funext fun x0 => funext fun x1 => funext fun x2 => funext fun x3 => funext fun x4 => funext fun x5 => funext fun x6 => funext fun x7 => funext fun x8 => hq1 x0 x1 x2 x3 x4 x5 x6 x7 x8
  rfl
theorem railplan_platform_Assign_1_s1_p8_congr {R : Type} (n : Nat) (Fr : Int → (List (List D)) → Int → Int → Int → (List (List D)) → Option (Int × (List (List D)) × Int × Int × Int × (List (List D)))) (a0 : Int) (w103 : List (List D)) (w104 : Int) (w105 : Int) (w106 : Bool) (w107 : List (List D)) (w108 : List (List D)) (w109 : Int) (w110 : Int) (w111 : Int) {k0 kk0 : Option R} (hq0 : k0 = kk0) : railplan_platform_Assign_1_s1_p8 n Fr a0 w103 w104 w105 w106 w107 w108 w109 w110 w111 k0 = railplan_platform_Assign_1_s1_p8 n Fr a0 w103 w104 w105 w106 w107 w108 w109 w110 w111 kk0 := by
  obtain rfl : k0 = kk0 := hq0
  rfl
theorem railplan_platform_Assign_1_s1_p9_congr {R : Type} (n : Nat) (Fr : Int → (List (List D)) → Int → Int → Int → (List (List D)) → Option (Int × (List (List D)) × Int × Int × Int × (List (List D)))) (a0 : Int) (w2 : Bool) (q5 : List (List D)) (b0_0 : List (List D)) (b1_0 : Int) (b2_0 : Int) (b3_0 : Int) {k0 kk0 : Int → (List (List D)) → (List (List D)) → Int → Int → Int → Option R} (hq0 : ∀ x0 x1 x2 x3 x4 x5, k0 x0 x1 x2 x3 x4 x5 = kk0 x0 x1 x2 x3 x4 x5) : railplan_platform_Assign_1_s1_p9 n Fr a0 w2 q5 b0_0 b1_0 b2_0 b3_0 k0 = railplan_platform_Assign_1_s1_p9 n Fr a0 w2 q5 b0_0 b1_0 b2_0 b3_0 kk0 := by
  obtain rfl : k0 = kk0 := funext fun x0 => funext fun x1 => funext fun x2 => funext fun x3 => funext fun x4 => funext fun x5 => hq0 x0 x1 x2 x3 x4 x5
  rfl
theorem railplan_platform_Assign_1_s1_p10_congr {R : Type} (n : Nat) (Fr : Int → (List (List D)) → Int → Int → Int → (List (List D)) → Option (Int × (List (List D)) × Int × Int × Int × (List (List D)))) (a0 : Int) (b0_0 : List (List D)) (b1_0 : Int) (b2_0 : Int) (b3_0 : Int) (q5 : List (List D)) {k0 kk0 : Int → (List (List D)) → (List (List D)) → Int → Int → Int → Option R} (hq0 : ∀ x0 x1 x2 x3 x4 x5, k0 x0 x1 x2 x3 x4 x5 = kk0 x0 x1 x2 x3 x4 x5) : railplan_platform_Assign_1_s1_p10 n Fr a0 b0_0 b1_0 b2_0 b3_0 q5 k0 = railplan_platform_Assign_1_s1_p10 n Fr a0 b0_0 b1_0 b2_0 b3_0 q5 kk0 := by
  obtain rfl : k0 = kk0 := funext fun x0 => funext fun x1 => funext fun x2 => funext fun x3 => funext fun x4 => funext fun x5 => hq0 x0 x1 x2 x3 x4 x5
  rfl
theorem railplan_platform_Assign_1_s1_p11_congr {R : Type} (n : Nat) (Fr : Int → (List (List D)) → Int → Int → Int → (List (List D)) → Option (Int × (List (List D)) × Int × Int × Int × (List (List D)))) (a0 : Int) (b0_0 : List (List D)) (b1_0 : Int) (b2_0 : Int) (b3_0 : Int) (q5 : List (List D)) {k0 kk0 : Int → (List (List D)) → (List (List D)) → Int → Int → Int → Option R} (hq0 : ∀ x0 x1 x2 x3 x4 x5, k0 x0 x1 x2 x3 x4 x5 = kk0 x0 x1 x2 x3 x4 x5) : railplan_platform_Assign_1_s1_p11 n Fr a0 b0_0 b1_0 b2_0 b3_0 q5 k0 = railplan_platform_Assign_1_s1_p11 n Fr a0 b0_0 b1_0 b2_0 b3_0 q5 kk0 := by
  obtain rfl : k0 = kk0 := funext fun x0 => funext fun x1 => funext fun x2 => funext fun x3 => funext fun x4 => funext fun x5 => hq0 x0 x1 x2 x3 x4 x5
  rfl
theorem railplan_platform_Assign_1_s1_p1_eq {R : Type} (n d : Nat) (a0 : Int) (b0_0 : List (List D)) (b1_0 : Int) (b2_0 : Int) (b3_0 : Int) (q5 : List (List D)) (k : Exit → St → Option R) : vexec (railplan_platform_Assign_1_s1_C n d) n railplan_platform_Assign_1_s1_c1 ⟨50, [(0, .d (D.int .i64 a0)), (1, .ptr 1000000 0), (2, .ptr 1000001 0), (3, .ptr 1000002 0), (4, .ptr 1000003 0), (5, .ptr 1000004 0), (6, .ptr 1000006 0)], [(1000000, .box [.d (D.sl 3 b0_0)]), (1000001, .box [.d (D.int .i64 b1_0)]), (1000002, .box [.d (D.int .i64 b2_0)]), (1000003, .box [.d (D.int .i64 b3_0)]), (1000004, .box [.arr 1000005]), (1000005, .arr 3 1 q5), (1000006, .box [.fn 31 [.ptr 1000000 0, .ptr 1000001 0, .ptr 1000002 0, .ptr 1000003 0, .ptr 1000004 0, .ptr 1000006 0]])]⟩ k = railplan_platform_Assign_1_s1_p1 n (railplan_platform_Assign_1_s1_F n d) a0 b0_0 b1_0 b2_0 b3_0 q5 (k .normal ⟨50, [(0, .d (D.int .i64 a0)), (1, .ptr 1000000 0), (2, .ptr 1000001 0), (3, .ptr 1000002 0), (4, .ptr 1000003 0), (5, .ptr 1000004 0), (6, .ptr 1000006 0)], [(1000000, .box [.d (D.sl 3 b0_0)]), (1000001, .box [.d (D.int .i64 b1_0)]), (1000002, .box [.d (D.int .i64 b2_0)]), (1000003, .box [.d (D.int .i64 b3_0)]), (1000004, .box [.arr 98160]), (98160, .arr 3 1 q5), (1000006, .box [.fn 31 [.ptr 1000000 0, .ptr 1000001 0, .ptr 1000002 0, .ptr 1000003 0, .ptr 1000004 0, .ptr 1000006 0]])]⟩) := by kernel_rfl
theorem railplan_platform_Assign_1_s1_p2_eq {R : Type} (n d : Nat) (a0 : Int) (b0_0 : List (List D)) (b1_0 : Int) (b2_0 : Int) (b3_0 : Int) (q5 : List (List D)) (k : Exit → St → Option R) : vexec (railplan_platform_Assign_1_s1_C n d) n railplan_platform_Assign_1_s1_c2 ⟨50, [(0, .d (D.int .i64 a0)), (1, .ptr 1000000 0), (2, .ptr 1000001 0), (3, .ptr 1000002 0), (4, .ptr 1000003 0), (5, .ptr 1000004 0), (6, .ptr 1000006 0)], [(1000000, .box [.d (D.sl 3 b0_0)]), (1000001, .box [.d (D.int .i64 b1_0)]), (1000002, .box [.d (D.int .i64 b2_0)]), (1000003, .box [.d (D.int .i64 b3_0)]), (1000004, .box [.arr 98160]), (98160, .arr 3 1 q5), (1000006, .box [.fn 31 [.ptr 1000000 0, .ptr 1000001 0, .ptr 1000002 0, .ptr 1000003 0, .ptr 1000004 0, .ptr 1000006 0]])]⟩ k = railplan_platform_Assign_1_s1_p2 n (railplan_platform_Assign_1_s1_F n d) a0 b0_0 b1_0 b2_0 b3_0 q5 (k .ret ⟨50, [(8, .d (D.int .i64 (0 : Int)))], [(98160, .arr 3 1 q5), (1000000, .box [.d (D.sl 3 b0_0)]), (1000001, .box [.d (D.int .i64 b1_0)]), (1000002, .box [.d (D.int .i64 b2_0)]), (1000003, .box [.d (D.int .i64 b3_0)]), (1000004, .box [.arr 98160]), (1000006, .box [.fn 31 [.ptr 1000000 0, .ptr 1000001 0, .ptr 1000002 0, .ptr 1000003 0, .ptr 1000004 0, .ptr 1000006 0]])]⟩) (fun z1 => k .normal ⟨50, [(0, .d (D.int .i64 a0)), (1, .ptr 1000000 0), (2, .ptr 1000001 0), (3, .ptr 1000002 0), (4, .ptr 1000003 0), (5, .ptr 1000004 0), (6, .ptr 1000006 0), (15, .d (D.bool z1))], [(98160, .arr 3 1 q5), (1000000, .box [.d (D.sl 3 b0_0)]), (1000001, .box [.d (D.int .i64 b1_0)]), (1000002, .box [.d (D.int .i64 b2_0)]), (1000003, .box [.d (D.int .i64 b3_0)]), (1000004, .box [.arr 98160]), (1000006, .box [.fn 31 [.ptr 1000000 0, .ptr 1000001 0, .ptr 1000002 0, .ptr 1000003 0, .ptr 1000004 0, .ptr 1000006 0]])]⟩) := by kernel_rfl
theorem railplan_platform_Assign_1_s1_p3_eq {R : Type} (n d : Nat) (a0 : Int) (w2 : Bool) (q5 : List (List D)) (b0_0 : List (List D)) (b1_0 : Int) (b2_0 : Int) (b3_0 : Int) (k : Exit → St → Option R) : vexec (railplan_platform_Assign_1_s1_C n d) n railplan_platform_Assign_1_s1_c3 ⟨50, [(0, .d (D.int .i64 a0)), (1, .ptr 1000000 0), (2, .ptr 1000001 0), (3, .ptr 1000002 0), (4, .ptr 1000003 0), (5, .ptr 1000004 0), (6, .ptr 1000006 0), (15, .d (D.bool w2))], [(98160, .arr 3 1 q5), (1000000, .box [.d (D.sl 3 b0_0)]), (1000001, .box [.d (D.int .i64 b1_0)]), (1000002, .box [.d (D.int .i64 b2_0)]), (1000003, .box [.d (D.int .i64 b3_0)]), (1000004, .box [.arr 98160]), (1000006, .box [.fn 31 [.ptr 1000000 0, .ptr 1000001 0, .ptr 1000002 0, .ptr 1000003 0, .ptr 1000004 0, .ptr 1000006 0]])]⟩ k = railplan_platform_Assign_1_s1_p3 n (railplan_platform_Assign_1_s1_F n d) a0 w2 q5 b0_0 b1_0 b2_0 b3_0 (fun l5 z6 => k .normal ⟨50, [(0, .d (D.int .i64 a0)), (1, .ptr 1000000 0), (2, .ptr 1000001 0), (3, .ptr 1000002 0), (4, .ptr 1000003 0), (5, .ptr 1000004 0), (6, .ptr 1000006 0), (20, .d (D.sl 1 l5)), (21, .d (D.int .i64 z6)), (22, .d (D.int .i64 (0 : Int)))], [(98160, .arr 3 1 q5), (1000000, .box [.d (D.sl 3 b0_0)]), (1000001, .box [.d (D.int .i64 b1_0)]), (1000002, .box [.d (D.int .i64 b2_0)]), (1000003, .box [.d (D.int .i64 b3_0)]), (1000004, .box [.arr 98160]), (1000006, .box [.fn 31 [.ptr 1000000 0, .ptr 1000001 0, .ptr 1000002 0, .ptr 1000003 0, .ptr 1000004 0, .ptr 1000006 0]])]⟩) := by kernel_rfl
theorem railplan_platform_Assign_1_s1_p4_eq {R : Type} (n d : Nat) (a0 : Int) (w7 : List (List D)) (w8 : Int) (h12 : Int) (h13 : List (List D)) (h14 : List (List D)) (h15 : Int) (h16 : Int) (h17 : Int) (k : Exit → St → Option R) : vexec (railplan_platform_Assign_1_s1_C n d) n railplan_platform_Assign_1_s1_c4 ⟨50, [(0, .d (D.int .i64 a0)), (1, .ptr 1000000 0), (2, .ptr 1000001 0), (3, .ptr 1000002 0), (4, .ptr 1000003 0), (5, .ptr 1000004 0), (6, .ptr 1000006 0), (20, .d (D.sl 1 w7)), (21, .d (D.int .i64 w8)), (22, .d (D.int .i64 h12))], [(98160, .arr 3 1 h13), (1000000, .box [.d (D.sl 3 h14)]), (1000001, .box [.d (D.int .i64 h15)]), (1000002, .box [.d (D.int .i64 h16)]), (1000003, .box [.d (D.int .i64 h17)]), (1000004, .box [.arr 98160]), (1000006, .box [.fn 31 [.ptr 1000000 0, .ptr 1000001 0, .ptr 1000002 0, .ptr 1000003 0, .ptr 1000004 0, .ptr 1000006 0]])]⟩ k = railplan_platform_Assign_1_s1_p4 n (railplan_platform_Assign_1_s1_F n d) a0 w7 w8 h12 h13 h14 h15 h16 h17 (fun z45 z46 z47 z48 z49 z50 => k .ret ⟨50, [(8, .d (D.int .i64 z45))], [(98160, .arr 3 1 z46), (1000000, .box [.d (D.sl 3 z47)]), (1000001, .box [.d (D.int .i64 z48)]), (1000002, .box [.d (D.int .i64 z49)]), (1000003, .box [.d (D.int .i64 z50)]), (1000004, .box [.arr 98160]), (1000006, .box [.fn 31 [.ptr 1000000 0, .ptr 1000001 0, .ptr 1000002 0, .ptr 1000003 0, .ptr 1000004 0, .ptr 1000006 0]])]⟩) (fun z51 z52 z53 z54 z55 z56 => k .normal ⟨50, [(0, .d (D.int .i64 a0)), (1, .ptr 1000000 0), (2, .ptr 1000001 0), (3, .ptr 1000002 0), (4, .ptr 1000003 0), (5, .ptr 1000004 0), (6, .ptr 1000006 0), (20, .d (D.sl 1 w7)), (21, .d (D.int .i64 w8)), (22, .d (D.int .i64 z51))], [(98160, .arr 3 1 z52), (1000000, .box [.d (D.sl 3 z53)]), (1000001, .box [.d (D.int .i64 z54)]), (1000002, .box [.d (D.int .i64 z55)]), (1000003, .box [.d (D.int .i64 z56)]), (1000004, .box [.arr 98160]), (1000006, .box [.fn 31 [.ptr 1000000 0, .ptr 1000001 0, .ptr 1000002 0, .ptr 1000003 0, .ptr 1000004 0, .ptr 1000006 0]])]⟩) (fun z57 => k (.exit 0) ⟨50, [(0, .d (D.int .i64 a0)), (1, .ptr 1000000 0), (2, .ptr 1000001 0), (3, .ptr 1000002 0), (4, .ptr 1000003 0), (5, .ptr 1000004 0), (6, .ptr 1000006 0), (20, .d (D.sl 1 w7)), (21, .d (D.int .i64 w8)), (22, .d (D.int .i64 h12)), (23, .d (D.bool z57))], [(98160, .arr 3 1 h13), (1000000, .box [.d (D.sl 3 h14)]), (1000001, .box [.d (D.int .i64 h15)]), (1000002, .box [.d (D.int .i64 h16)]), (1000003, .box [.d (D.int .i64 h17)]), (1000004, .box [.arr 98160]), (1000006, .box [.fn 31 [.ptr 1000000 0, .ptr 1000001 0, .ptr 1000002 0, .ptr 1000003 0, .ptr 1000004 0, .ptr 1000006 0]])]⟩) := by kernel_rfl
theorem railplan_platform_Assign_1_s1_r5_eq {R : Type} (n d : Nat) (a0 : Int) (w7 : List (List D)) (w8 : Int) (k : Exit → St → Option R) : ∀ (m : Nat) (h12 : Int) (h13 : List (List D)) (h14 : List (List D)) (h15 : Int) (h16 : Int) (h17 : Int), loopN (vexec (railplan_platform_Assign_1_s1_C n d) n railplan_platform_Assign_1_s1_c4) m ⟨50, [(0, .d (D.int .i64 a0)), (1, .ptr 1000000 0), (2, .ptr 1000001 0), (3, .ptr 1000002 0), (4, .ptr 1000003 0), (5, .ptr 1000004 0), (6, .ptr 1000006 0), (20, .d (D.sl 1 w7)), (21, .d (D.int .i64 w8)), (22, .d (D.int .i64 h12))], [(98160, .arr 3 1 h13), (1000000, .box [.d (D.sl 3 h14)]), (1000001, .box [.d (D.int .i64 h15)]), (1000002, .box [.d (D.int .i64 h16)]), (1000003, .box [.d (D.int .i64 h17)]), (1000004, .box [.arr 98160]), (1000006, .box [.fn 31 [.ptr 1000000 0, .ptr 1000001 0, .ptr 1000002 0, .ptr 1000003 0, .ptr 1000004 0, .ptr 1000006 0]])]⟩ k = railplan_platform_Assign_1_s1_r5 n (railplan_platform_Assign_1_s1_F n d) a0 w7 w8 (fun w58 w59 w60 w61 w62 w63 => k .ret ⟨50, [(8, .d (D.int .i64 w58))], [(98160, .arr 3 1 w59), (1000000, .box [.d (D.sl 3 w60)]), (1000001, .box [.d (D.int .i64 w61)]), (1000002, .box [.d (D.int .i64 w62)]), (1000003, .box [.d (D.int .i64 w63)]), (1000004, .box [.arr 98160]), (1000006, .box [.fn 31 [.ptr 1000000 0, .ptr 1000001 0, .ptr 1000002 0, .ptr 1000003 0, .ptr 1000004 0, .ptr 1000006 0]])]⟩) (fun h12 w70 h13 h14 h15 h16 h17 => k (.exit 0) ⟨50, [(0, .d (D.int .i64 a0)), (1, .ptr 1000000 0), (2, .ptr 1000001 0), (3, .ptr 1000002 0), (4, .ptr 1000003 0), (5, .ptr 1000004 0), (6, .ptr 1000006 0), (20, .d (D.sl 1 w7)), (21, .d (D.int .i64 w8)), (22, .d (D.int .i64 h12)), (23, .d (D.bool w70))], [(98160, .arr 3 1 h13), (1000000, .box [.d (D.sl 3 h14)]), (1000001, .box [.d (D.int .i64 h15)]), (1000002, .box [.d (D.int .i64 h16)]), (1000003, .box [.d (D.int .i64 h17)]), (1000004, .box [.arr 98160]), (1000006, .box [.fn 31 [.ptr 1000000 0, .ptr 1000001 0, .ptr 1000002 0, .ptr 1000003 0, .ptr 1000004 0, .ptr 1000006 0]])]⟩) m h12 h13 h14 h15 h16 h17
  | 0, _, _, _, _, _, _ => rfl
  | m + 1, h12, h13, h14, h15, h16, h17 => (railplan_platform_Assign_1_s1_p4_eq n d a0 w7 w8 h12 h13 h14 h15 h16 h17 (loopK (vexec (railplan_platform_Assign_1_s1_C n d) n railplan_platform_Assign_1_s1_c4) m k)).trans (railplan_platform_Assign_1_s1_p4_congr n (railplan_platform_Assign_1_s1_F n d) a0 w7 w8 h12 h13 h14 h15 h16 h17 (fun w58 w59 w60 w61 w62 w63 => rfl) (fun w64 w65 w66 w67 w68 w69 => railplan_platform_Assign_1_s1_r5_eq n d a0 w7 w8 k m w64 w65 w66 w67 w68 w69) (fun w70 => rfl))
theorem railplan_platform_Assign_1_s1_p5_eq {R : Type} (n d : Nat) (a0 : Int) (w7 : List (List D)) (w8 : Int) (q5 : List (List D)) (b0_0 : List (List D)) (b1_0 : Int) (b2_0 : Int) (b3_0 : Int) (k : Exit → St → Option R) : vexec (railplan_platform_Assign_1_s1_C n d) n railplan_platform_Assign_1_s1_c5 ⟨50, [(0, .d (D.int .i64 a0)), (1, .ptr 1000000 0), (2, .ptr 1000001 0), (3, .ptr 1000002 0), (4, .ptr 1000003 0), (5, .ptr 1000004 0), (6, .ptr 1000006 0), (20, .d (D.sl 1 w7)), (21, .d (D.int .i64 w8)), (22, .d (D.int .i64 (0 : Int)))], [(98160, .arr 3 1 q5), (1000000, .box [.d (D.sl 3 b0_0)]), (1000001, .box [.d (D.int .i64 b1_0)]), (1000002, .box [.d (D.int .i64 b2_0)]), (1000003, .box [.d (D.int .i64 b3_0)]), (1000004, .box [.arr 98160]), (1000006, .box [.fn 31 [.ptr 1000000 0, .ptr 1000001 0, .ptr 1000002 0, .ptr 1000003 0, .ptr 1000004 0, .ptr 1000006 0]])]⟩ k = railplan_platform_Assign_1_s1_p5 n (railplan_platform_Assign_1_s1_F n d) a0 w7 w8 q5 b0_0 b1_0 b2_0 b3_0 (fun w58 w59 w60 w61 w62 w63 => k .ret ⟨50, [(8, .d (D.int .i64 w58))], [(98160, .arr 3 1 w59), (1000000, .box [.d (D.sl 3 w60)]), (1000001, .box [.d (D.int .i64 w61)]), (1000002, .box [.d (D.int .i64 w62)]), (1000003, .box [.d (D.int .i64 w63)]), (1000004, .box [.arr 98160]), (1000006, .box [.fn 31 [.ptr 1000000 0, .ptr 1000001 0, .ptr 1000002 0, .ptr 1000003 0, .ptr 1000004 0, .ptr 1000006 0]])]⟩) (fun h12 w70 h13 h14 h15 h16 h17 => k (.exit 0) ⟨50, [(0, .d (D.int .i64 a0)), (1, .ptr 1000000 0), (2, .ptr 1000001 0), (3, .ptr 1000002 0), (4, .ptr 1000003 0), (5, .ptr 1000004 0), (6, .ptr 1000006 0), (20, .d (D.sl 1 w7)), (21, .d (D.int .i64 w8)), (22, .d (D.int .i64 h12)), (23, .d (D.bool w70))], [(98160, .arr 3 1 h13), (1000000, .box [.d (D.sl 3 h14)]), (1000001, .box [.d (D.int .i64 h15)]), (1000002, .box [.d (D.int .i64 h16)]), (1000003, .box [.d (D.int .i64 h17)]), (1000004, .box [.arr 98160]), (1000006, .box [.fn 31 [.ptr 1000000 0, .ptr 1000001 0, .ptr 1000002 0, .ptr 1000003 0, .ptr 1000004 0, .ptr 1000006 0]])]⟩) := by
  rw [railplan_platform_Assign_1_s1_c5_eq]
  exact railplan_platform_Assign_1_s1_r5_eq n d a0 w7 w8 k n (0 : Int) q5 b0_0 b1_0 b2_0 b3_0
theorem railplan_platform_Assign_1_s1_p6_eq {R : Type} (n d : Nat) (a0 : Int) (w7 : List (List D)) (w8 : Int) (q5 : List (List D)) (b0_0 : List (List D)) (b1_0 : Int) (b2_0 : Int) (b3_0 : Int) (k : Exit → St → Option R) : vexec (railplan_platform_Assign_1_s1_C n d) n railplan_platform_Assign_1_s1_c6 ⟨50, [(0, .d (D.int .i64 a0)), (1, .ptr 1000000 0), (2, .ptr 1000001 0), (3, .ptr 1000002 0), (4, .ptr 1000003 0), (5, .ptr 1000004 0), (6, .ptr 1000006 0), (20, .d (D.sl 1 w7)), (21, .d (D.int .i64 w8)), (22, .d (D.int .i64 (0 : Int)))], [(98160, .arr 3 1 q5), (1000000, .box [.d (D.sl 3 b0_0)]), (1000001, .box [.d (D.int .i64 b1_0)]), (1000002, .box [.d (D.int .i64 b2_0)]), (1000003, .box [.d (D.int .i64 b3_0)]), (1000004, .box [.arr 98160]), (1000006, .box [.fn 31 [.ptr 1000000 0, .ptr 1000001 0, .ptr 1000002 0, .ptr 1000003 0, .ptr 1000004 0, .ptr 1000006 0]])]⟩ k = railplan_platform_Assign_1_s1_p6 n (railplan_platform_Assign_1_s1_F n d) a0 w7 w8 q5 b0_0 b1_0 b2_0 b3_0 (fun w71 w72 w73 w74 w75 w76 => k .ret ⟨50, [(8, .d (D.int .i64 w71))], [(98160, .arr 3 1 w72), (1000000, .box [.d (D.sl 3 w73)]), (1000001, .box [.d (D.int .i64 w74)]), (1000002, .box [.d (D.int .i64 w75)]), (1000003, .box [.d (D.int .i64 w76)]), (1000004, .box [.arr 98160]), (1000006, .box [.fn 31 [.ptr 1000000 0, .ptr 1000001 0, .ptr 1000002 0, .ptr 1000003 0, .ptr 1000004 0, .ptr 1000006 0]])]⟩) (fun w77 w78 w79 w80 w81 w82 w83 => k .normal ⟨50, [(0, .d (D.int .i64 a0)), (1, .ptr 1000000 0), (2, .ptr 1000001 0), (3, .ptr 1000002 0), (4, .ptr 1000003 0), (5, .ptr 1000004 0), (6, .ptr 1000006 0), (20, .d (D.sl 1 w7)), (21, .d (D.int .i64 w8)), (22, .d (D.int .i64 w77)), (23, .d (D.bool w78))], [(98160, .arr 3 1 w79), (1000000, .box [.d (D.sl 3 w80)]), (1000001, .box [.d (D.int .i64 w81)]), (1000002, .box [.d (D.int .i64 w82)]), (1000003, .box [.d (D.int .i64 w83)]), (1000004, .box [.arr 98160]), (1000006, .box [.fn 31 [.ptr 1000000 0, .ptr 1000001 0, .ptr 1000002 0, .ptr 1000003 0, .ptr 1000004 0, .ptr 1000006 0]])]⟩) := by
  rw [railplan_platform_Assign_1_s1_c6_eq]
  unfold railplan_platform_Assign_1_s1_p6
  exact (railplan_platform_Assign_1_s1_p5_eq n d a0 w7 w8 q5 b0_0 b1_0 b2_0 b3_0 (blockK 0 k)).trans (railplan_platform_Assign_1_s1_p5_congr n (railplan_platform_Assign_1_s1_F n d) a0 w7 w8 q5 b0_0 b1_0 b2_0 b3_0 (fun w71 w72 w73 w74 w75 w76 => rfl) (fun w77 w78 w79 w80 w81 w82 w83 => rfl))
theorem railplan_platform_Assign_1_s1_p7_eq {R : Type} (n d : Nat) (a0 : Int) (w2 : Bool) (q5 : List (List D)) (b0_0 : List (List D)) (b1_0 : Int) (b2_0 : Int) (b3_0 : Int) (k : Exit → St → Option R) : vexec (railplan_platform_Assign_1_s1_C n d) n railplan_platform_Assign_1_s1_c7 ⟨50, [(0, .d (D.int .i64 a0)), (1, .ptr 1000000 0), (2, .ptr 1000001 0), (3, .ptr 1000002 0), (4, .ptr 1000003 0), (5, .ptr 1000004 0), (6, .ptr 1000006 0), (15, .d (D.bool w2))], [(98160, .arr 3 1 q5), (1000000, .box [.d (D.sl 3 b0_0)]), (1000001, .box [.d (D.int .i64 b1_0)]), (1000002, .box [.d (D.int .i64 b2_0)]), (1000003, .box [.d (D.int .i64 b3_0)]), (1000004, .box [.arr 98160]), (1000006, .box [.fn 31 [.ptr 1000000 0, .ptr 1000001 0, .ptr 1000002 0, .ptr 1000003 0, .ptr 1000004 0, .ptr 1000006 0]])]⟩ k = railplan_platform_Assign_1_s1_p7 n (railplan_platform_Assign_1_s1_F n d) a0 w2 q5 b0_0 b1_0 b2_0 b3_0 (fun w84 w85 w86 w87 w88 w89 => k .ret ⟨50, [(8, .d (D.int .i64 w84))], [(98160, .arr 3 1 w85), (1000000, .box [.d (D.sl 3 w86)]), (1000001, .box [.d (D.int .i64 w87)]), (1000002, .box [.d (D.int .i64 w88)]), (1000003, .box [.d (D.int .i64 w89)]), (1000004, .box [.arr 98160]), (1000006, .box [.fn 31 [.ptr 1000000 0, .ptr 1000001 0, .ptr 1000002 0, .ptr 1000003 0, .ptr 1000004 0, .ptr 1000006 0]])]⟩) (fun w7 w8 w90 w91 w92 w93 w94 w95 w96 => k .normal ⟨50, [(0, .d (D.int .i64 a0)), (1, .ptr 1000000 0), (2, .ptr 1000001 0), (3, .ptr 1000002 0), (4, .ptr 1000003 0), (5, .ptr 1000004 0), (6, .ptr 1000006 0), (20, .d (D.sl 1 w7)), (21, .d (D.int .i64 w8)), (22, .d (D.int .i64 w90)), (23, .d (D.bool w91))], [(98160, .arr 3 1 w92), (1000000, .box [.d (D.sl 3 w93)]), (1000001, .box [.d (D.int .i64 w94)]), (1000002, .box [.d (D.int .i64 w95)]), (1000003, .box [.d (D.int .i64 w96)]), (1000004, .box [.arr 98160]), (1000006, .box [.fn 31 [.ptr 1000000 0, .ptr 1000001 0, .ptr 1000002 0, .ptr 1000003 0, .ptr 1000004 0, .ptr 1000006 0]])]⟩) := by
  rw [railplan_platform_Assign_1_s1_c7_eq]
  unfold railplan_platform_Assign_1_s1_p7
  exact (railplan_platform_Assign_1_s1_p3_eq n d a0 w2 q5 b0_0 b1_0 b2_0 b3_0 (seqK (railplan_platform_Assign_1_s1_C n d) n railplan_platform_Assign_1_s1_c6 k)).trans (railplan_platform_Assign_1_s1_p3_congr n (railplan_platform_Assign_1_s1_F n d) a0 w2 q5 b0_0 b1_0 b2_0 b3_0 (fun w7 w8 => railplan_platform_Assign_1_s1_p6_eq n d a0 w7 w8 q5 b0_0 b1_0 b2_0 b3_0 k))
theorem railplan_platform_Assign_1_s1_p8_eq {R : Type} (n d : Nat) (a0 : Int) (w103 : List (List D)) (w104 : Int) (w105 : Int) (w106 : Bool) (w107 : List (List D)) (w108 : List (List D)) (w109 : Int) (w110 : Int) (w111 : Int) (k : Exit → St → Option R) : vexec (railplan_platform_Assign_1_s1_C n d) n railplan_platform_Assign_1_s1_c8 ⟨50, [(0, .d (D.int .i64 a0)), (1, .ptr 1000000 0), (2, .ptr 1000001 0), (3, .ptr 1000002 0), (4, .ptr 1000003 0), (5, .ptr 1000004 0), (6, .ptr 1000006 0), (20, .d (D.sl 1 w103)), (21, .d (D.int .i64 w104)), (22, .d (D.int .i64 w105)), (23, .d (D.bool w106))], [(98160, .arr 3 1 w107), (1000000, .box [.d (D.sl 3 w108)]), (1000001, .box [.d (D.int .i64 w109)]), (1000002, .box [.d (D.int .i64 w110)]), (1000003, .box [.d (D.int .i64 w111)]), (1000004, .box [.arr 98160]), (1000006, .box [.fn 31 [.ptr 1000000 0, .ptr 1000001 0, .ptr 1000002 0, .ptr 1000003 0, .ptr 1000004 0, .ptr 1000006 0]])]⟩ k = railplan_platform_Assign_1_s1_p8 n (railplan_platform_Assign_1_s1_F n d) a0 w103 w104 w105 w106 w107 w108 w109 w110 w111 (k .ret ⟨50, [(8, .d (D.int .i64 (14 : Int)))], [(98160, .arr 3 1 w107), (1000000, .box [.d (D.sl 3 w108)]), (1000001, .box [.d (D.int .i64 w109)]), (1000002, .box [.d (D.int .i64 w110)]), (1000003, .box [.d (D.int .i64 w111)]), (1000004, .box [.arr 98160]), (1000006, .box [.fn 31 [.ptr 1000000 0, .ptr 1000001 0, .ptr 1000002 0, .ptr 1000003 0, .ptr 1000004 0, .ptr 1000006 0]])]⟩) := by kernel_rfl
theorem railplan_platform_Assign_1_s1_p9_eq {R : Type} (n d : Nat) (a0 : Int) (w2 : Bool) (q5 : List (List D)) (b0_0 : List (List D)) (b1_0 : Int) (b2_0 : Int) (b3_0 : Int) (k : Exit → St → Option R) : vexec (railplan_platform_Assign_1_s1_C n d) n railplan_platform_Assign_1_s1_c9 ⟨50, [(0, .d (D.int .i64 a0)), (1, .ptr 1000000 0), (2, .ptr 1000001 0), (3, .ptr 1000002 0), (4, .ptr 1000003 0), (5, .ptr 1000004 0), (6, .ptr 1000006 0), (15, .d (D.bool w2))], [(98160, .arr 3 1 q5), (1000000, .box [.d (D.sl 3 b0_0)]), (1000001, .box [.d (D.int .i64 b1_0)]), (1000002, .box [.d (D.int .i64 b2_0)]), (1000003, .box [.d (D.int .i64 b3_0)]), (1000004, .box [.arr 98160]), (1000006, .box [.fn 31 [.ptr 1000000 0, .ptr 1000001 0, .ptr 1000002 0, .ptr 1000003 0, .ptr 1000004 0, .ptr 1000006 0]])]⟩ k = railplan_platform_Assign_1_s1_p9 n (railplan_platform_Assign_1_s1_F n d) a0 w2 q5 b0_0 b1_0 b2_0 b3_0 (fun z112 z113 z114 z115 z116 z117 => k .ret ⟨50, [(8, .d (D.int .i64 z112))], [(98160, .arr 3 1 z113), (1000000, .box [.d (D.sl 3 z114)]), (1000001, .box [.d (D.int .i64 z115)]), (1000002, .box [.d (D.int .i64 z116)]), (1000003, .box [.d (D.int .i64 z117)]), (1000004, .box [.arr 98160]), (1000006, .box [.fn 31 [.ptr 1000000 0, .ptr 1000001 0, .ptr 1000002 0, .ptr 1000003 0, .ptr 1000004 0, .ptr 1000006 0]])]⟩) := by
  rw [railplan_platform_Assign_1_s1_c9_eq]
  unfold railplan_platform_Assign_1_s1_p9
  exact (railplan_platform_Assign_1_s1_p7_eq n d a0 w2 q5 b0_0 b1_0 b2_0 b3_0 (seqK (railplan_platform_Assign_1_s1_C n d) n railplan_platform_Assign_1_s1_c8 k)).trans (railplan_platform_Assign_1_s1_p7_congr n (railplan_platform_Assign_1_s1_F n d) a0 w2 q5 b0_0 b1_0 b2_0 b3_0 (fun w97 w98 w99 w100 w101 w102 => rfl) (fun w103 w104 w105 w106 w107 w108 w109 w110 w111 => railplan_platform_Assign_1_s1_p8_eq n d a0 w103 w104 w105 w106 w107 w108 w109 w110 w111 k))
theorem railplan_platform_Assign_1_s1_p10_eq {R : Type} (n d : Nat) (a0 : Int) (b0_0 : List (List D)) (b1_0 : Int) (b2_0 : Int) (b3_0 : Int) (q5 : List (List D)) (k : Exit → St → Option R) : vexec (railplan_platform_Assign_1_s1_C n d) n railplan_platform_Assign_1_s1_c10 ⟨50, [(0, .d (D.int .i64 a0)), (1, .ptr 1000000 0), (2, .ptr 1000001 0), (3, .ptr 1000002 0), (4, .ptr 1000003 0), (5, .ptr 1000004 0), (6, .ptr 1000006 0)], [(1000000, .box [.d (D.sl 3 b0_0)]), (1000001, .box [.d (D.int .i64 b1_0)]), (1000002, .box [.d (D.int .i64 b2_0)]), (1000003, .box [.d (D.int .i64 b3_0)]), (1000004, .box [.arr 98160]), (98160, .arr 3 1 q5), (1000006, .box [.fn 31 [.ptr 1000000 0, .ptr 1000001 0, .ptr 1000002 0, .ptr 1000003 0, .ptr 1000004 0, .ptr 1000006 0]])]⟩ k = railplan_platform_Assign_1_s1_p10 n (railplan_platform_Assign_1_s1_F n d) a0 b0_0 b1_0 b2_0 b3_0 q5 (fun z124 z125 z126 z127 z128 z129 => k .ret ⟨50, [(8, .d (D.int .i64 z124))], [(98160, .arr 3 1 z125), (1000000, .box [.d (D.sl 3 z126)]), (1000001, .box [.d (D.int .i64 z127)]), (1000002, .box [.d (D.int .i64 z128)]), (1000003, .box [.d (D.int .i64 z129)]), (1000004, .box [.arr 98160]), (1000006, .box [.fn 31 [.ptr 1000000 0, .ptr 1000001 0, .ptr 1000002 0, .ptr 1000003 0, .ptr 1000004 0, .ptr 1000006 0]])]⟩) := by
  rw [railplan_platform_Assign_1_s1_c10_eq]
  unfold railplan_platform_Assign_1_s1_p10
  exact (railplan_platform_Assign_1_s1_p2_eq n d a0 b0_0 b1_0 b2_0 b3_0 q5 (seqK (railplan_platform_Assign_1_s1_C n d) n railplan_platform_Assign_1_s1_c9 k)).trans (railplan_platform_Assign_1_s1_p2_congr n (railplan_platform_Assign_1_s1_F n d) a0 b0_0 b1_0 b2_0 b3_0 q5 (rfl) (fun w2 => railplan_platform_Assign_1_s1_p9_eq n d a0 w2 q5 b0_0 b1_0 b2_0 b3_0 k))
theorem railplan_platform_Assign_1_s1_p11_eq {R : Type} (n d : Nat) (a0 : Int) (b0_0 : List (List D)) (b1_0 : Int) (b2_0 : Int) (b3_0 : Int) (q5 : List (List D)) (k : Exit → St → Option R) : vexec (railplan_platform_Assign_1_s1_C n d) n railplan_platform_Assign_1_s1_c0 ⟨50, [(0, .d (D.int .i64 a0)), (1, .ptr 1000000 0), (2, .ptr 1000001 0), (3, .ptr 1000002 0), (4, .ptr 1000003 0), (5, .ptr 1000004 0), (6, .ptr 1000006 0)], [(1000000, .box [.d (D.sl 3 b0_0)]), (1000001, .box [.d (D.int .i64 b1_0)]), (1000002, .box [.d (D.int .i64 b2_0)]), (1000003, .box [.d (D.int .i64 b3_0)]), (1000004, .box [.arr 1000005]), (1000005, .arr 3 1 q5), (1000006, .box [.fn 31 [.ptr 1000000 0, .ptr 1000001 0, .ptr 1000002 0, .ptr 1000003 0, .ptr 1000004 0, .ptr 1000006 0]])]⟩ k = railplan_platform_Assign_1_s1_p11 n (railplan_platform_Assign_1_s1_F n d) a0 b0_0 b1_0 b2_0 b3_0 q5 (fun w130 w131 w132 w133 w134 w135 => k .ret ⟨50, [(8, .d (D.int .i64 w130))], [(98160, .arr 3 1 w131), (1000000, .box [.d (D.sl 3 w132)]), (1000001, .box [.d (D.int .i64 w133)]), (1000002, .box [.d (D.int .i64 w134)]), (1000003, .box [.d (D.int .i64 w135)]), (1000004, .box [.arr 98160]), (1000006, .box [.fn 31 [.ptr 1000000 0, .ptr 1000001 0, .ptr 1000002 0, .ptr 1000003 0, .ptr 1000004 0, .ptr 1000006 0]])]⟩) := by
  rw [railplan_platform_Assign_1_s1_c0_eq]
  unfold railplan_platform_Assign_1_s1_p11
  exact (railplan_platform_Assign_1_s1_p1_eq n d a0 b0_0 b1_0 b2_0 b3_0 q5 (seqK (railplan_platform_Assign_1_s1_C n d) n railplan_platform_Assign_1_s1_c10 k)).trans (railplan_platform_Assign_1_s1_p1_congr n (railplan_platform_Assign_1_s1_F n d) a0 b0_0 b1_0 b2_0 b3_0 q5 (railplan_platform_Assign_1_s1_p10_eq n d a0 b0_0 b1_0 b2_0 b3_0 q5 k))
def railplan_platform_Assign_1_s1_Ko : AV → List (Nat × Ob) → Option (Int × (List (List D)) × Int × Int × Int × (List (List D))) := fun av H => (look H 1000000).bind fun o0 => (look H 1000001).bind fun o1 => (look H 1000002).bind fun o2 => (look H 1000003).bind fun o3 => (look H 1000004).bind fun o4 => (look H 1000006).bind fun o5 => (look H 98160).bind fun o6 => match av, o0, o1, o2, o3, o4, o5, o6 with
  | .d (D.int .i64 r0), .box [.d (D.sl 3 r1)], .box [.d (D.int .i64 r2)], .box [.d (D.int .i64 r3)], .box [.d (D.int .i64 r4)], .box [.arr p0], .box [.fn p1 [.ptr p2 p3, .ptr p4 p5, .ptr p6 p7, .ptr p8 p9, .ptr p10 p11, .ptr p12 p13]], .arr p14 p15 r5 => bif Nat.beq p0 98160 && (Nat.beq p1 31 && (Nat.beq p2 1000000 && (Nat.beq p3 0 && (Nat.beq p4 1000001 && (Nat.beq p5 0 && (Nat.beq p6 1000002 && (Nat.beq p7 0 && (Nat.beq p8 1000003 && (Nat.beq p9 0 && (Nat.beq p10 1000004 && (Nat.beq p11 0 && (Nat.beq p12 1000006 && (Nat.beq p13 0 && (Nat.beq p14 3 && (Nat.beq p15 1 && ((look H 1000005).isNone)))))))))))))))) then some (r0, r1, r2, r3, r4, r5) else none
  | _, _, _, _, _, _, _, _ => none
theorem railplan_platform_Assign_1_s1_vfo (n d : Nat) (a0 : Int) (b0_0 : List (List D)) (b1_0 : Int) (b2_0 : Int) (b3_0 : Int) (q5 : List (List D)) : vfn (railplan_platform_Assign_1_s1_C n d) n Try.f31 [.d (D.int .i64 a0), .ptr 1000000 0, .ptr 1000001 0, .ptr 1000002 0, .ptr 1000003 0, .ptr 1000004 0, .ptr 1000006 0] [(1000000, .box [.d (D.sl 3 b0_0)]), (1000001, .box [.d (D.int .i64 b1_0)]), (1000002, .box [.d (D.int .i64 b2_0)]), (1000003, .box [.d (D.int .i64 b3_0)]), (1000004, .box [.arr 1000005]), (1000005, .arr 3 1 q5), (1000006, .box [.fn 31 [.ptr 1000000 0, .ptr 1000001 0, .ptr 1000002 0, .ptr 1000003 0, .ptr 1000004 0, .ptr 1000006 0]])] railplan_platform_Assign_1_s1_Ko = railplan_platform_Assign_1_s1 n (railplan_platform_Assign_1_s1_F n d) a0 b0_0 b1_0 b2_0 b3_0 q5 (fun r0 r1 r2 r3 r4 r5 => some (r0, r1, r2, r3, r4, r5)) :=
  (show vfn (railplan_platform_Assign_1_s1_C n d) n Try.f31 [.d (D.int .i64 a0), .ptr 1000000 0, .ptr 1000001 0, .ptr 1000002 0, .ptr 1000003 0, .ptr 1000004 0, .ptr 1000006 0] [(1000000, .box [.d (D.sl 3 b0_0)]), (1000001, .box [.d (D.int .i64 b1_0)]), (1000002, .box [.d (D.int .i64 b2_0)]), (1000003, .box [.d (D.int .i64 b3_0)]), (1000004, .box [.arr 1000005]), (1000005, .arr 3 1 q5), (1000006, .box [.fn 31 [.ptr 1000000 0, .ptr 1000001 0, .ptr 1000002 0, .ptr 1000003 0, .ptr 1000004 0, .ptr 1000006 0]])] railplan_platform_Assign_1_s1_Ko = vexec (railplan_platform_Assign_1_s1_C n d) n railplan_platform_Assign_1_s1_c0 ⟨50, [(0, .d (D.int .i64 a0)), (1, .ptr 1000000 0), (2, .ptr 1000001 0), (3, .ptr 1000002 0), (4, .ptr 1000003 0), (5, .ptr 1000004 0), (6, .ptr 1000006 0)], [(1000000, .box [.d (D.sl 3 b0_0)]), (1000001, .box [.d (D.int .i64 b1_0)]), (1000002, .box [.d (D.int .i64 b2_0)]), (1000003, .box [.d (D.int .i64 b3_0)]), (1000004, .box [.arr 1000005]), (1000005, .arr 3 1 q5), (1000006, .box [.fn 31 [.ptr 1000000 0, .ptr 1000001 0, .ptr 1000002 0, .ptr 1000003 0, .ptr 1000004 0, .ptr 1000006 0]])]⟩ (retX railplan_platform_Assign_1_s1_tt [.tmp 8] railplan_platform_Assign_1_s1_Ko) from vfn_at (by kernel_rfl) (by kernel_rfl) rfl (by kernel_rfl) rfl (by kernel_rfl) rfl).trans ((railplan_platform_Assign_1_s1_p11_eq n d a0 b0_0 b1_0 b2_0 b3_0 q5 (retX railplan_platform_Assign_1_s1_tt [.tmp 8] railplan_platform_Assign_1_s1_Ko)).trans (by kernel_rfl))
theorem railplan_platform_Assign_1_s1_so (n d : Nat) : EntryOK Try.prog 31 (railplan_platform_Assign_1_s1_s n d) := by
  induction d with
  | zero =>
    intro R site g avs hl k r h
    unfold railplan_platform_Assign_1_s1_s at h
    split at h
    rotate_left
    · cases h
    replace h := prI_some h
    obtain ⟨a0, h, le0⟩ := h
    replace h := prP_some h
    obtain ⟨l0, bl0, h, el0, hbl0⟩ := h
    subst el0
    split at h
    rotate_left
    · cases h
    replace h := prS_some h
    obtain ⟨b0_0, h, le1⟩ := h
    replace h := prP_some h
    obtain ⟨l1, bl1, h, el1, hbl1⟩ := h
    subst el1
    split at h
    rotate_left
    · cases h
    replace h := prI_some h
    obtain ⟨b1_0, h, le2⟩ := h
    replace h := prP_some h
    obtain ⟨l2, bl2, h, el2, hbl2⟩ := h
    subst el2
    split at h
    rotate_left
    · cases h
    replace h := prI_some h
    obtain ⟨b2_0, h, le3⟩ := h
    replace h := prP_some h
    obtain ⟨l3, bl3, h, el3, hbl3⟩ := h
    subst el3
    split at h
    rotate_left
    · cases h
    replace h := prI_some h
    obtain ⟨b3_0, h, le4⟩ := h
    replace h := prP_some h
    obtain ⟨l4, bl4, h, el4, hbl4⟩ := h
    subst el4
    split at h
    rotate_left
    · cases h
    replace h := prR_some h
    obtain ⟨l5, q5, h, el5, hbl5⟩ := h
    subst el5
    replace h := prP_some h
    obtain ⟨l6, bl6, h, el6, hbl6⟩ := h
    subst el6
    split at h
    rotate_left
    · cases h
    replace h := prF_some h
    obtain ⟨m49, h, em49⟩ := h
    subst em49
    split at h
    rotate_left
    · cases h
    replace h := prQ_some h
    obtain ⟨h, eqq⟩ := h
    subst eqq
    replace h := prQ_some h
    obtain ⟨h, eqq⟩ := h
    subst eqq
    replace h := prQ_some h
    obtain ⟨h, eqq⟩ := h
    subst eqq
    replace h := prQ_some h
    obtain ⟨h, eqq⟩ := h
    subst eqq
    replace h := prQ_some h
    obtain ⟨h, eqq⟩ := h
    subst eqq
    replace h := prQ_some h
    obtain ⟨h, eqq⟩ := h
    subst eqq
    replace h := bif_some h
    obtain ⟨hc, h⟩ := h
    replace h := gb_some h
    obtain ⟨res, h, hr⟩ := h
    exact ⟨_, h, fun hg => nomatch (show (none : Option (Int × (List (List D)) × Int × Int × Int × (List (List D)))) = some res from hr hg)⟩
  | succ d ih =>
    intro R site g avs hl k r h
    unfold railplan_platform_Assign_1_s1_s at h
    split at h
    rotate_left
    · cases h
    replace h := prI_some h
    obtain ⟨a0, h, le0⟩ := h
    replace h := prP_some h
    obtain ⟨l0, bl0, h, el0, hbl0⟩ := h
    subst el0
    split at h
    rotate_left
    · cases h
    replace h := prS_some h
    obtain ⟨b0_0, h, le1⟩ := h
    replace h := prP_some h
    obtain ⟨l1, bl1, h, el1, hbl1⟩ := h
    subst el1
    split at h
    rotate_left
    · cases h
    replace h := prI_some h
    obtain ⟨b1_0, h, le2⟩ := h
    replace h := prP_some h
    obtain ⟨l2, bl2, h, el2, hbl2⟩ := h
    subst el2
    split at h
    rotate_left
    · cases h
    replace h := prI_some h
    obtain ⟨b2_0, h, le3⟩ := h
    replace h := prP_some h
    obtain ⟨l3, bl3, h, el3, hbl3⟩ := h
    subst el3
    split at h
    rotate_left
    · cases h
    replace h := prI_some h
    obtain ⟨b3_0, h, le4⟩ := h
    replace h := prP_some h
    obtain ⟨l4, bl4, h, el4, hbl4⟩ := h
    subst el4
    split at h
    rotate_left
    · cases h
    replace h := prR_some h
    obtain ⟨l5, q5, h, el5, hbl5⟩ := h
    subst el5
    replace h := prP_some h
    obtain ⟨l6, bl6, h, el6, hbl6⟩ := h
    subst el6
    split at h
    rotate_left
    · cases h
    replace h := prF_some h
    obtain ⟨m49, h, em49⟩ := h
    subst em49
    split at h
    rotate_left
    · cases h
    replace h := prQ_some h
    obtain ⟨h, eqq⟩ := h
    subst eqq
    replace h := prQ_some h
    obtain ⟨h, eqq⟩ := h
    subst eqq
    replace h := prQ_some h
    obtain ⟨h, eqq⟩ := h
    subst eqq
    replace h := prQ_some h
    obtain ⟨h, eqq⟩ := h
    subst eqq
    replace h := prQ_some h
    obtain ⟨h, eqq⟩ := h
    subst eqq
    replace h := prQ_some h
    obtain ⟨h, eqq⟩ := h
    subst eqq
    replace h := bif_some h
    obtain ⟨hc, h⟩ := h
    replace h := gb_some h
    obtain ⟨res, h, hr⟩ := h
    refine ⟨_, h, fun hg => callOK_sh (K := railplan_platform_Assign_1_s1_Ko) (res := res) (railplan_platform_Assign_1_s1_VC n d ih) (fn := Try.f31) (n := n) (by kernel_rfl) (by kernel_rfl) (by kernel_rfl) (ρ := [(1000000, l0), (1000001, l1), (1000002, l2), (1000003, l3), (1000004, l4), (1000005, l5), (1000006, l6)]) (ν := [(98160, (site + 100000))]) (avs' := [.d (D.int .i64 a0), .ptr 1000000 0, .ptr 1000001 0, .ptr 1000002 0, .ptr 1000003 0, .ptr 1000004 0, .ptr 1000006 0]) (H := [(1000000, .box [.d (D.sl 3 b0_0)]), (1000001, .box [.d (D.int .i64 b1_0)]), (1000002, .box [.d (D.int .i64 b2_0)]), (1000003, .box [.d (D.int .i64 b3_0)]), (1000004, .box [.arr 1000005]), (1000005, .arr 3 1 q5), (1000006, .box [.fn 31 [.ptr 1000000 0, .ptr 1000001 0, .ptr 1000002 0, .ptr 1000003 0, .ptr 1000004 0, .ptr 1000006 0]])]) (.cons (.data rfl (le0 hg)) (.cons (.own rfl rfl) (.cons (.own rfl rfl) (.cons (.own rfl rfl) (.cons (.own rfl rfl) (.cons (.own rfl rfl) (.cons (.own rfl rfl) (.nil)))))))) rfl rfl hc (⟨⟨by decide, _, _, hbl0, rfl, .box (.cons (.data rfl (le1 hg)) (.nil))⟩, ⟨⟨by decide, _, _, hbl1, rfl, .box (.cons (.data rfl (le2 hg)) (.nil))⟩, ⟨⟨by decide, _, _, hbl2, rfl, .box (.cons (.data rfl (le3 hg)) (.nil))⟩, ⟨⟨by decide, _, _, hbl3, rfl, .box (.cons (.data rfl (le4 hg)) (.nil))⟩, ⟨⟨by decide, _, _, hbl4, rfl, .box (.cons (.own rfl rfl) (.nil))⟩, ⟨⟨by decide, _, _, hbl5, rfl, .arr _ _ _⟩, ⟨⟨by decide, _, _, hbl6, rfl, .box (.cons (.own rfl rfl) (.nil))⟩, trivial⟩⟩⟩⟩⟩⟩⟩) rfl rfl ?_ ?_⟩
    · exact (railplan_platform_Assign_1_s1_vfo n d a0 b0_0 b1_0 b2_0 b3_0 q5).trans (hr hg)
    · intro av H' hx
      unfold railplan_platform_Assign_1_s1_Ko at hx
      replace hx := Option.bind_eq_some_iff.1 hx
      obtain ⟨o0, ho0, hx⟩ := hx
      replace hx := Option.bind_eq_some_iff.1 hx
      obtain ⟨o1, ho1, hx⟩ := hx
      replace hx := Option.bind_eq_some_iff.1 hx
      obtain ⟨o2, ho2, hx⟩ := hx
      replace hx := Option.bind_eq_some_iff.1 hx
      obtain ⟨o3, ho3, hx⟩ := hx
      replace hx := Option.bind_eq_some_iff.1 hx
      obtain ⟨o4, ho4, hx⟩ := hx
      replace hx := Option.bind_eq_some_iff.1 hx
      obtain ⟨o5, ho5, hx⟩ := hx
      replace hx := Option.bind_eq_some_iff.1 hx
      obtain ⟨o6, ho6, hx⟩ := hx
      split at hx
      rotate_left
      · cases hx
      replace hx := bif_some hx
      obtain ⟨hck, hx⟩ := hx
      simp only [Bool.and_eq_true] at hck
      obtain ⟨ek0, ek1, ek2, ek3, ek4, ek5, ek6, ek7, ek8, ek9, ek10, ek11, ek12, ek13, ek14, ek15, hn0⟩ := hck
      have ek0 := Nat.eq_of_beq_eq_true ek0
      subst ek0
      have ek1 := Nat.eq_of_beq_eq_true ek1
      subst ek1
      have ek2 := Nat.eq_of_beq_eq_true ek2
      subst ek2
      have ek3 := Nat.eq_of_beq_eq_true ek3
      subst ek3
      have ek4 := Nat.eq_of_beq_eq_true ek4
      subst ek4
      have ek5 := Nat.eq_of_beq_eq_true ek5
      subst ek5
      have ek6 := Nat.eq_of_beq_eq_true ek6
      subst ek6
      have ek7 := Nat.eq_of_beq_eq_true ek7
      subst ek7
      have ek8 := Nat.eq_of_beq_eq_true ek8
      subst ek8
      have ek9 := Nat.eq_of_beq_eq_true ek9
      subst ek9
      have ek10 := Nat.eq_of_beq_eq_true ek10
      subst ek10
      have ek11 := Nat.eq_of_beq_eq_true ek11
      subst ek11
      have ek12 := Nat.eq_of_beq_eq_true ek12
      subst ek12
      have ek13 := Nat.eq_of_beq_eq_true ek13
      subst ek13
      have ek14 := Nat.eq_of_beq_eq_true ek14
      subst ek14
      have ek15 := Nat.eq_of_beq_eq_true ek15
      subst ek15
      have hn0 := Option.isNone_iff_eq_none.1 hn0
      injection hx with hx
      subst hx
      refine ⟨rfl, ?_, ⟨by rw [ho6]; rfl, trivial⟩, ⟨endOk_box rfl ho0 rfl, ⟨endOk_box rfl ho1 rfl, ⟨endOk_box rfl ho2 rfl, ⟨endOk_box rfl ho3 rfl, ⟨endOk_box rfl ho4 rfl, ⟨endOk_gone rfl hn0, ⟨endOk_box rfl ho5 rfl, trivial⟩⟩⟩⟩⟩⟩⟩⟩
      simp only [List.cons_append, List.nil_append, outWr, ho0, ho1, ho2, ho3, ho4, ho5, ho6, hn0, Option.map_some, Option.map_none]
      rfl
end Go.Vx
/-
  platform_Assign: the interpreter computes the pure function
-/
set_option linter.unusedVariables false
set_option linter.unusedSimpArgs false
set_option maxRecDepth 100000
namespace Go.Vx
open Go.Proofs
noncomputable def platform_Assign_c0 : Code := bodyOf Try.f15
def platform_Assign_tt : TT := [(3, ⟨.int .i64, 1, 8, [.int .i64 0], [.int .i64 0], [], none⟩), (22, ⟨.sl 3 1, 1, 24, [.slice none 0 0], [.sl 1 []], [], none⟩), (24, ⟨.sl 28 3, 1, 24, [.slice none 0 0], [.sl 3 []], [], none⟩), (31, ⟨.int .i64, 1, 8, [.int .i64 0], [.int .i64 0], [], none⟩), (51, ⟨.other, 1, 8, [.nilFunc], [], [], none⟩)]
theorem platform_Assign_tt_eq : mkTT Try.prog [3, 22, 24, 31, 51] = platform_Assign_tt := by kernel_rfl
def platform_Assign_cfg : List (Nat × Cfg) := [(0, ⟨[3, 4, 5], [(3, 3), (4, 4), (5, 5)], [], [], []⟩), (1, ⟨[3, 4, 5, 16], [(3, 3), (4, 4), (5, 5)], [], [], []⟩), (2, ⟨[6, 7, 8], [], [], [], []⟩), (3, ⟨[3, 4, 5, 22], [(3, 3), (4, 4), (5, 5)], [], [], []⟩), (4, ⟨[6, 7, 8], [], [], [], []⟩), (5, ⟨[3, 4, 5, 9], [(3, 3), (4, 4), (5, 5), (9, 9), (25, 25)], [], [], []⟩), (6, ⟨[3, 4, 5, 9, 10], [(3, 3), (4, 4), (5, 5), (9, 9), (10, 10), (25, 25)], [], [], []⟩), (7, ⟨[3, 4, 5, 9, 10, 11], [(3, 3), (4, 4), (5, 5), (9, 9), (10, 10), (11, 11), (25, 25)], [], [], []⟩), (8, ⟨[9, 10, 11], [(3, 3), (4, 4), (5, 5), (9, 9), (10, 10), (11, 11), (25, 25)], [], [], []⟩), (9, ⟨[9, 10, 12], [(9, 9), (10, 10), (100028, 100028)], [], [], []⟩), (10, ⟨[9, 10, 12, 29], [(9, 9), (10, 10), (100028, 100028)], [], [], []⟩), (11, ⟨[6, 7, 8], [], [], [], []⟩), (12, ⟨[9, 10, 12, 29, 31], [(9, 9), (10, 10), (100028, 100028)], [], [], []⟩), (13, ⟨[6, 7, 8], [(100028, 100028)], [], [], []⟩), (14, ⟨[10, 12, 35], [(10, 10)], [], [], []⟩), (15, ⟨[6, 7, 8], [], [], [], []⟩)]
def platform_Assign_C (n : Nat) : VC := ⟨specOf [(29, platform_Valid_e n), (31, railplan_platform_Assign_1_s1_s n n)], platform_Assign_tt, platform_Assign_cfg⟩
theorem platform_Assign_ents (n : Nat) : EntsOK Try.prog [(29, platform_Valid_e n), (31, railplan_platform_Assign_1_s1_s n n)] := ⟨platform_Valid_ok n, ⟨railplan_platform_Assign_1_s1_so n n, trivial⟩⟩
theorem platform_Assign_VC (n : Nat) : VCOk Try.prog (platform_Assign_C n) := ⟨specOf_ok (platform_Assign_ents n), (platform_Assign_tt_eq ▸ mkTT_ok _ : TOk Try.prog platform_Assign_tt), by kernel_rfl⟩
theorem platform_Assign_p1_congr {R : Type} (n : Nat) (a0 : Int) (a1 : List (List D)) (a2 : Int) {k0 kk0 : Int → Int → Option R} {k1 kk1 : Int → (List (List D)) → Option R} (hq0 : ∀ x0 x1, k0 x0 x1 = kk0 x0 x1) (hq1 : ∀ x0 x1, k1 x0 x1 = kk1 x0 x1) : platform_Assign_p1 n a0 a1 a2 k0 k1 = platform_Assign_p1 n a0 a1 a2 kk0 kk1 := by
  obtain rfl : k0 = kk0 := funext fun x0 => funext fun x1 => hq0 x0 x1
  obtain rfl : k1 = kk1 := funext fun x0 => funext fun x1 => hq1 x0 x1
  rfl
theorem platform_Assign_p1_eq {R : Type} (n : Nat) (a0 : Int) (a1 : List (List D)) (a2 : Int) (k : Exit → St → Option R) : vexec (platform_Assign_C n) n platform_Assign_c0 ⟨39, [(0, .d (D.int .i64 a0)), (1, .d (D.sl 3 a1)), (2, .d (D.int .i64 a2))], []⟩ k = platform_Assign_p1 n a0 a1 a2 (fun z5 z6 => k .ret ⟨39, [(6, .nil), (7, .d (D.int .i64 z5)), (8, .d (D.int .i64 z6))], []⟩) (fun z7 z8 => k .ret ⟨39, [(6, .arr 100028), (7, .d (D.int .i64 z7)), (8, .d (D.int .i64 (0 : Int)))], [(100028, .arr 3 1 z8)]⟩) := by kernel_rfl
theorem platform_Assign_vfn {R : Type} (n : Nat) (a0 : Int) (a1 : List (List D)) (a2 : Int) (K : AV → Option R) : vfn (platform_Assign_C n) n Try.f15 [.d (D.int .i64 a0), .d (D.sl 3 a1), .d (D.int .i64 a2)] [] (retF [[1], [0], [0]] K) = platform_Assign n a0 a1 a2 (fun r0 r1 r2 => K (.tup [.d (D.sl 1 r0), .d (D.int .i64 r1), .d (D.int .i64 r2)])) :=
  (show vfn (platform_Assign_C n) n Try.f15 [.d (D.int .i64 a0), .d (D.sl 3 a1), .d (D.int .i64 a2)] [] (retF [[1], [0], [0]] K) = vexec (platform_Assign_C n) n platform_Assign_c0 ⟨39, [(0, .d (D.int .i64 a0)), (1, .d (D.sl 3 a1)), (2, .d (D.int .i64 a2))], []⟩ (retX platform_Assign_tt [.tmp 6, .tmp 7, .tmp 8] (retF [[1], [0], [0]] K)) from vfn_at (by kernel_rfl) (by kernel_rfl) rfl (by kernel_rfl) rfl (by kernel_rfl) rfl).trans ((platform_Assign_p1_eq n a0 a1 a2 (retX platform_Assign_tt [.tmp 6, .tmp 7, .tmp 8] (retF [[1], [0], [0]] K))).trans (by kernel_rfl))
def platform_Assign_K : AV → Option ((List (List D)) × Int × Int) := fun av => match av with
  | .tup [.d (D.sl 1 r0), .d (D.int .i64 r1), .d (D.int .i64 r2)] => some (r0, r1, r2)
  | _ => none
def platform_Assign_e (n : Nat) : Entry := fun _ _ g avs _ k => match avs with
  | [c0, c1, c2] => prI g .i64 c0 fun a0 => prS g 3 c1 fun a1 => prI g .i64 c2 fun a2 => 
    gb g (platform_Assign n a0 a1 a2 (fun r0 r1 r2 => some (r0, r1, r2))) ([], 0, 0) fun r => k ⟨.tup [.d (D.sl 1 r.1), .d (D.int .i64 r.2.1), .d (D.int .i64 r.2.2)], [], []⟩
  | _ => none
theorem platform_Assign_ok (n : Nat) : EntryOK Try.prog 15 (platform_Assign_e n) := by
  intro R site g avs hl k r h
  unfold platform_Assign_e at h
  split at h
  rotate_left
  · cases h
  replace h := prI_some h
  obtain ⟨a0, h, le0⟩ := h
  replace h := prS_some h
  obtain ⟨a1, h, le1⟩ := h
  replace h := prI_some h
  obtain ⟨a2, h, le2⟩ := h
  replace h := gb_some h
  obtain ⟨res, h, hr⟩ := h
  refine ⟨_, h, fun hg => CallOK.conv (avs' := [.d (D.int .i64 a0), .d (D.sl 3 a1), .d (D.int .i64 a2)]) (.cons (le0 hg) (.cons (le1 hg) (.cons (le2 hg) (.nil)))) (callOK_fix (K := platform_Assign_K) (res := res) (platform_Assign_VC n) (fn := Try.f15) (n := n) (by kernel_rfl) (by kernel_rfl) (by kernel_rfl) (ss := [[1], [0], [0]]) rfl ?_ ?_)⟩
  · exact (platform_Assign_vfn n a0 a1 a2 platform_Assign_K).trans (hr hg)
  · intro x hx
    unfold platform_Assign_K at hx
    split at hx
    · injection hx with hx; subst hx; rfl
    · cases hx
end Go.Vx
/-
  law20_two: the interpreter computes the pure function
-/
set_option linter.unusedVariables false
set_option linter.unusedSimpArgs false
set_option maxRecDepth 100000
namespace Go.Vx
open Go.Proofs
noncomputable def law20_two_c0 : Code := bodyOf Try.f19
def law20_two_tt : TT := [(3, ⟨.int .i64, 1, 8, [.int .i64 0], [.int .i64 0], [], none⟩), (22, ⟨.sl 3 1, 1, 24, [.slice none 0 0], [.sl 1 []], [], none⟩), (24, ⟨.sl 28 3, 1, 24, [.slice none 0 0], [.sl 3 []], [], none⟩), (28, ⟨.struct, 3, 40, [.int .i64 0, .int .i64 0, .slice none 0 0], [.int .i64 0, .int .i64 0, .sl 1 []], [(0, 3), (1, 3), (2, 22)], none⟩)]
theorem law20_two_tt_eq : mkTT Try.prog [3, 22, 24, 28] = law20_two_tt := by kernel_rfl
def law20_two_cfg : List (Nat × Cfg) := [(0, ⟨[], [], [], [], []⟩), (1, ⟨[0], [(5, 5)], [], [], []⟩)]
def law20_two_C (n : Nat) : VC := ⟨specOf [], law20_two_tt, law20_two_cfg⟩
theorem law20_two_ents (n : Nat) : EntsOK Try.prog [] := trivial
theorem law20_two_VC (n : Nat) : VCOk Try.prog (law20_two_C n) := ⟨specOf_ok (law20_two_ents n), (law20_two_tt_eq ▸ mkTT_ok _ : TOk Try.prog law20_two_tt), by kernel_rfl⟩
theorem law20_two_p1_congr {R : Type} (n : Nat)  {k0 kk0 : (List (List D)) → Option R} (hq0 : ∀ x0, k0 x0 = kk0 x0) : law20_two_p1 n  k0 = law20_two_p1 n  kk0 := by
  obtain rfl : k0 = kk0 := funext fun x0 => hq0 x0
  rfl
theorem law20_two_p1_eq {R : Type} (n : Nat)  (k : Exit → St → Option R) : vexec (law20_two_C n) n law20_two_c0 ⟨6, [], []⟩ k = law20_two_p1 n  (fun z1 => k .ret ⟨6, [(0, .arr 5)], [(5, .arr 28 3 z1)]⟩) := by kernel_rfl
theorem law20_two_vfn {R : Type} (n : Nat)  (K : AV → Option R) : vfn (law20_two_C n) n Try.f19 [] [] (retF [[3]] K) = law20_two n  (fun r0 => K (.d (D.sl 3 r0))) :=
  (show vfn (law20_two_C n) n Try.f19 [] [] (retF [[3]] K) = vexec (law20_two_C n) n law20_two_c0 ⟨6, [], []⟩ (retX law20_two_tt [.tmp 0] (retF [[3]] K)) from vfn_at (by kernel_rfl) (by kernel_rfl) rfl (by kernel_rfl) rfl (by kernel_rfl) rfl).trans ((law20_two_p1_eq n  (retX law20_two_tt [.tmp 0] (retF [[3]] K))).trans (by kernel_rfl))
def law20_two_K : AV → Option (List (List D)) := fun av => match av with
  | .d (D.sl 3 r0) => some r0
  | _ => none
def law20_two_e (n : Nat) : Entry := fun _ _ g avs _ k => match avs with
  | [] => 
    gb g (law20_two n  some) [] fun r => k ⟨.d (D.sl 3 r), [], []⟩
  | _ => none
theorem law20_two_ok (n : Nat) : EntryOK Try.prog 19 (law20_two_e n) := by
  intro R site g avs hl k r h
  unfold law20_two_e at h
  split at h
  rotate_left
  · cases h
  replace h := gb_some h
  obtain ⟨res, h, hr⟩ := h
  refine ⟨_, h, fun hg => CallOK.conv (avs' := []) (.nil) (callOK_fix (K := law20_two_K) (res := res) (law20_two_VC n) (fn := Try.f19) (n := n) (by kernel_rfl) (by kernel_rfl) (by kernel_rfl) (ss := [[3]]) rfl ?_ ?_)⟩
  · exact (law20_two_vfn n  law20_two_K).trans (hr hg)
  · intro x hx
    unfold law20_two_K at hx
    split at hx
    · injection hx with hx; subst hx; rfl
    · cases hx
def law20_two_Ko : AV → List (Nat × Ob) → Option (List (List D)) := fun av H => (look H 5).bind fun o0 => match av, o0 with
  | .arr p0, .arr p1 p2 r0 => bif Nat.beq p0 5 && (Nat.beq p1 28 && (Nat.beq p2 3)) then some r0 else none
  | _, _ => none
theorem law20_two_vfo (n : Nat)  : vfn (law20_two_C n) n Try.f19 [] [] law20_two_Ko = law20_two n  some :=
  (show vfn (law20_two_C n) n Try.f19 [] [] law20_two_Ko = vexec (law20_two_C n) n law20_two_c0 ⟨6, [], []⟩ (retX law20_two_tt [.tmp 0] law20_two_Ko) from vfn_at (by kernel_rfl) (by kernel_rfl) rfl (by kernel_rfl) rfl (by kernel_rfl) rfl).trans ((law20_two_p1_eq n  (retX law20_two_tt [.tmp 0] law20_two_Ko)).trans (by kernel_rfl))
def law20_two_o (n : Nat) : Entry := fun _ site g avs hl k => match avs with
  | [] => 
    bif newsOk hl [] [(5, (site + 100000))] then gb g (law20_two n  some) [] fun r => k ⟨.arr (site + 100000), [((site + 100000), some (.arr 28 3 r))], []⟩ else none
  | _ => none
theorem law20_two_oo (n : Nat) : EntryOK Try.prog 19 (law20_two_o n) := by
  intro R site g avs hl k r h
  unfold law20_two_o at h
  split at h
  rotate_left
  · cases h
  replace h := bif_some h
  obtain ⟨hc, h⟩ := h
  replace h := gb_some h
  obtain ⟨res, h, hr⟩ := h
  refine ⟨_, h, fun hg => CallOK.conv (avs' := []) (.nil) (callOK_own (K := law20_two_Ko) (res := res) (law20_two_VC n) (fn := Try.f19) (n := n) (by kernel_rfl) (by kernel_rfl) (by kernel_rfl) (ρ := []) (ν := [(5, (site + 100000))]) (avs' := []) (H := []) rfl rfl rfl rfl hc (trivial) rfl rfl ?_ ?_)⟩
  · exact (law20_two_vfo n ).trans (hr hg)
  · intro av H' hx
    unfold law20_two_Ko at hx
    replace hx := Option.bind_eq_some_iff.1 hx
    obtain ⟨o0, ho0, hx⟩ := hx
    split at hx
    rotate_left
    · cases hx
    replace hx := bif_some hx
    obtain ⟨hck, hx⟩ := hx
    simp only [Bool.and_eq_true] at hck
    obtain ⟨ek0, ek1, ek2⟩ := hck
    have ek0 := Nat.eq_of_beq_eq_true ek0
    subst ek0
    have ek1 := Nat.eq_of_beq_eq_true ek1
    subst ek1
    have ek2 := Nat.eq_of_beq_eq_true ek2
    subst ek2
    injection hx with hx
    subst hx
    refine ⟨rfl, ?_, ⟨by rw [ho0]; rfl, trivial⟩, trivial⟩
    simp only [List.cons_append, List.nil_append, outWr, ho0, Option.map_some]
    rfl
end Go.Vx
/-
  slices_Index_int_int: the interpreter computes the pure function
-/
set_option linter.unusedVariables false
set_option linter.unusedSimpArgs false
set_option maxRecDepth 100000
namespace Go.Vx
open Go.Proofs
noncomputable def slices_Index_int_int_c0 : Code := bodyOf Try.f42
noncomputable def slices_Index_int_int_c1 : Code := cL (bodyOf Try.f42)
noncomputable def slices_Index_int_int_c2 : Code := cL (cL (cR (bodyOf Try.f42)))
noncomputable def slices_Index_int_int_c3 : Code := cB (cB (cR (cL (cR (bodyOf Try.f42)))))
noncomputable def slices_Index_int_int_c4 : Code := cB (cR (cL (cR (bodyOf Try.f42))))
noncomputable def slices_Index_int_int_c5 : Code := cR (cL (cR (bodyOf Try.f42)))
noncomputable def slices_Index_int_int_c6 : Code := cL (cR (bodyOf Try.f42))
noncomputable def slices_Index_int_int_c7 : Code := cR (cR (bodyOf Try.f42))
noncomputable def slices_Index_int_int_c8 : Code := cR (bodyOf Try.f42)
theorem slices_Index_int_int_c4_eq : slices_Index_int_int_c4 = .loop slices_Index_int_int_c3 := by kernel_rfl
theorem slices_Index_int_int_c5_eq : slices_Index_int_int_c5 = .block 0 slices_Index_int_int_c4 := by kernel_rfl
theorem slices_Index_int_int_c6_eq : slices_Index_int_int_c6 = .seq slices_Index_int_int_c2 slices_Index_int_int_c5 := by kernel_rfl
theorem slices_Index_int_int_c8_eq : slices_Index_int_int_c8 = .seq slices_Index_int_int_c6 slices_Index_int_int_c7 := by kernel_rfl
theorem slices_Index_int_int_c0_eq : slices_Index_int_int_c0 = .seq slices_Index_int_int_c1 slices_Index_int_int_c8 := by kernel_rfl
def slices_Index_int_int_tt : TT := [(3, ⟨.int .i64, 1, 8, [.int .i64 0], [.int .i64 0], [], none⟩), (22, ⟨.sl 3 1, 1, 24, [.slice none 0 0], [.sl 1 []], [], none⟩)]
theorem slices_Index_int_int_tt_eq : mkTT Try.prog [3, 22] = slices_Index_int_int_tt := by kernel_rfl
def slices_Index_int_int_cfg : List (Nat × Cfg) := [(0, ⟨[0, 1], [], [], [], []⟩), (1, ⟨[0, 1, 7, 8], [], [], [], []⟩), (2, ⟨[0, 1, 7, 8, 9], [], [], [], []⟩), (3, ⟨[0, 1, 5, 7, 8], [], [], [], []⟩), (4, ⟨[0, 1, 5, 7, 8, 16], [], [], [], []⟩), (5, ⟨[4], [], [], [], []⟩), (6, ⟨[0, 1, 7, 8], [], [], [], []⟩), (7, ⟨[4], [], [], [], []⟩)]
def slices_Index_int_int_C (n : Nat) : VC := ⟨specOf [], slices_Index_int_int_tt, slices_Index_int_int_cfg⟩
theorem slices_Index_int_int_ents (n : Nat) : EntsOK Try.prog [] := trivial
theorem slices_Index_int_int_VC (n : Nat) : VCOk Try.prog (slices_Index_int_int_C n) := ⟨specOf_ok (slices_Index_int_int_ents n), (slices_Index_int_int_tt_eq ▸ mkTT_ok _ : TOk Try.prog slices_Index_int_int_tt), by kernel_rfl⟩
theorem slices_Index_int_int_p1_congr {R : Type} (n : Nat) (a0 : List (List D)) (a1 : Int) {k0 kk0 : Option R} (hq0 : k0 = kk0) : slices_Index_int_int_p1 n a0 a1 k0 = slices_Index_int_int_p1 n a0 a1 kk0 := by
  obtain rfl : k0 = kk0 := hq0
  rfl
theorem slices_Index_int_int_p2_congr {R : Type} (n : Nat) (a0 : List (List D)) (a1 : Int) {k0 kk0 : Int → Option R} (hq0 : ∀ x0, k0 x0 = kk0 x0) : slices_Index_int_int_p2 n a0 a1 k0 = slices_Index_int_int_p2 n a0 a1 kk0 := by
  obtain rfl : k0 = kk0 := funext fun x0 => hq0 x0
  rfl
theorem slices_Index_int_int_p3_congr {R : Type} (n : Nat) (a0 : List (List D)) (a1 : Int) (w2 : Int) (h6 : Int) {k0 kk0 : Option R} {k1 kk1 : Int → Option R} {k2 kk2 : Bool → Option R} (hq0 : k0 = kk0) (hq1 : ∀ x0, k1 x0 = kk1 x0) (hq2 : ∀ x0, k2 x0 = kk2 x0) : slices_Index_int_int_p3 n a0 a1 w2 h6 k0 k1 k2 = slices_Index_int_int_p3 n a0 a1 w2 h6 kk0 kk1 kk2 := by
  obtain rfl : k0 = kk0 := hq0
  obtain rfl : k1 = kk1 := funext fun x0 => hq1 x0
  obtain rfl : k2 = kk2 := funext fun x0 => hq2 x0
  rfl
theorem slices_Index_int_int_p4_congr {R : Type} (n : Nat) (a0 : List (List D)) (a1 : Int) (w2 : Int) {k0 kk0 : Int → Option R} {k1 kk1 : Int → Bool → Option R} (hq0 : ∀ x0, k0 x0 = kk0 x0) (hq1 : ∀ x0 x1, k1 x0 x1 = kk1 x0 x1) : slices_Index_int_int_p4 n a0 a1 w2 k0 k1 = slices_Index_int_int_p4 n a0 a1 w2 kk0 kk1 := by
  obtain rfl : k0 = kk0 := funext fun x0 => hq0 x0
  obtain rfl : k1 = kk1 := funext fun x0 => funext fun x1 => hq1 x0 x1
  rfl
theorem slices_Index_int_int_p5_congr {R : Type} (n : Nat) (a0 : List (List D)) (a1 : Int) (w2 : Int) {k0 kk0 : Int → Option R} {k1 kk1 : Int → Bool → Option R} (hq0 : ∀ x0, k0 x0 = kk0 x0) (hq1 : ∀ x0 x1, k1 x0 x1 = kk1 x0 x1) : slices_Index_int_int_p5 n a0 a1 w2 k0 k1 = slices_Index_int_int_p5 n a0 a1 w2 kk0 kk1 := by
  obtain rfl : k0 = kk0 := funext fun x0 => hq0 x0
  obtain rfl : k1 = kk1 := funext fun x0 => funext fun x1 => hq1 x0 x1
  rfl
theorem slices_Index_int_int_p6_congr {R : Type} (n : Nat) (a0 : List (List D)) (a1 : Int) {k0 kk0 : Int → Option R} {k1 kk1 : Int → Int → Bool → Option R} (hq0 : ∀ x0, k0 x0 = kk0 x0) (hq1 : ∀ x0 x1 x2, k1 x0 x1 x2 = kk1 x0 x1 x2) : slices_Index_int_int_p6 n a0 a1 k0 k1 = slices_Index_int_int_p6 n a0 a1 kk0 kk1 := by
  obtain rfl : k0 = kk0 := funext fun x0 => hq0 x0
  obtain rfl : k1 = kk1 := funext fun x0 => funext fun x1 => funext fun x2 => hq1 x0 x1 x2
  rfl
theorem slices_Index_int_int_p7_congr {R : Type} (n : Nat) (a0 : List (List D)) (a1 : Int) (w26 : Int) (w27 : Int) (w28 : Bool) {k0 kk0 : Option R} (hq0 : k0 = kk0) : slices_Index_int_int_p7 n a0 a1 w26 w27 w28 k0 = slices_Index_int_int_p7 n a0 a1 w26 w27 w28 kk0 := by
  obtain rfl : k0 = kk0 := hq0
  rfl
theorem slices_Index_int_int_p8_congr {R : Type} (n : Nat) (a0 : List (List D)) (a1 : Int) {k0 kk0 : Int → Option R} (hq0 : ∀ x0, k0 x0 = kk0 x0) : slices_Index_int_int_p8 n a0 a1 k0 = slices_Index_int_int_p8 n a0 a1 kk0 := by
  obtain rfl : k0 = kk0 := funext fun x0 => hq0 x0
  rfl
theorem slices_Index_int_int_p9_congr {R : Type} (n : Nat) (a0 : List (List D)) (a1 : Int) {k0 kk0 : Int → Option R} (hq0 : ∀ x0, k0 x0 = kk0 x0) : slices_Index_int_int_p9 n a0 a1 k0 = slices_Index_int_int_p9 n a0 a1 kk0 := by
  obtain rfl : k0 = kk0 := funext fun x0 => hq0 x0
  rfl
theorem slices_Index_int_int_p1_eq {R : Type} (n : Nat) (a0 : List (List D)) (a1 : Int) (k : Exit → St → Option R) : vexec (slices_Index_int_int_C n) n slices_Index_int_int_c1 ⟨19, [(0, .d (D.sl 1 a0)), (1, .d (D.int .i64 a1))], []⟩ k = slices_Index_int_int_p1 n a0 a1 (k .normal ⟨19, [(0, .d (D.sl 1 a0)), (1, .d (D.int .i64 a1))], []⟩) := by kernel_rfl
theorem slices_Index_int_int_p2_eq {R : Type} (n : Nat) (a0 : List (List D)) (a1 : Int) (k : Exit → St → Option R) : vexec (slices_Index_int_int_C n) n slices_Index_int_int_c2 ⟨19, [(0, .d (D.sl 1 a0)), (1, .d (D.int .i64 a1))], []⟩ k = slices_Index_int_int_p2 n a0 a1 (fun z1 => k .normal ⟨19, [(0, .d (D.sl 1 a0)), (1, .d (D.int .i64 a1)), (7, .d (D.int .i64 z1)), (8, .d (D.int .i64 (0 : Int)))], []⟩) := by kernel_rfl
theorem slices_Index_int_int_p3_eq {R : Type} (n : Nat) (a0 : List (List D)) (a1 : Int) (w2 : Int) (h6 : Int) (k : Exit → St → Option R) : vexec (slices_Index_int_int_C n) n slices_Index_int_int_c3 ⟨19, [(0, .d (D.sl 1 a0)), (1, .d (D.int .i64 a1)), (7, .d (D.int .i64 w2)), (8, .d (D.int .i64 h6))], []⟩ k = slices_Index_int_int_p3 n a0 a1 w2 h6 (k .ret ⟨19, [(4, .d (D.int .i64 h6))], []⟩) (fun z15 => k .normal ⟨19, [(0, .d (D.sl 1 a0)), (1, .d (D.int .i64 a1)), (7, .d (D.int .i64 w2)), (8, .d (D.int .i64 z15))], []⟩) (fun z16 => k (.exit 0) ⟨19, [(0, .d (D.sl 1 a0)), (1, .d (D.int .i64 a1)), (7, .d (D.int .i64 w2)), (8, .d (D.int .i64 h6)), (9, .d (D.bool z16))], []⟩) := by kernel_rfl
theorem slices_Index_int_int_r4_eq {R : Type} (n : Nat) (a0 : List (List D)) (a1 : Int) (w2 : Int) (k : Exit → St → Option R) : ∀ (m : Nat) (h6 : Int), loopN (vexec (slices_Index_int_int_C n) n slices_Index_int_int_c3) m ⟨19, [(0, .d (D.sl 1 a0)), (1, .d (D.int .i64 a1)), (7, .d (D.int .i64 w2)), (8, .d (D.int .i64 h6))], []⟩ k = slices_Index_int_int_r4 n a0 a1 w2 (fun h6 => k .ret ⟨19, [(4, .d (D.int .i64 h6))], []⟩) (fun h6 w18 => k (.exit 0) ⟨19, [(0, .d (D.sl 1 a0)), (1, .d (D.int .i64 a1)), (7, .d (D.int .i64 w2)), (8, .d (D.int .i64 h6)), (9, .d (D.bool w18))], []⟩) m h6
  | 0, _ => rfl
  | m + 1, h6 => (slices_Index_int_int_p3_eq n a0 a1 w2 h6 (loopK (vexec (slices_Index_int_int_C n) n slices_Index_int_int_c3) m k)).trans (slices_Index_int_int_p3_congr n a0 a1 w2 h6 (rfl) (fun w17 => slices_Index_int_int_r4_eq n a0 a1 w2 k m w17) (fun w18 => rfl))
theorem slices_Index_int_int_p4_eq {R : Type} (n : Nat) (a0 : List (List D)) (a1 : Int) (w2 : Int) (k : Exit → St → Option R) : vexec (slices_Index_int_int_C n) n slices_Index_int_int_c4 ⟨19, [(0, .d (D.sl 1 a0)), (1, .d (D.int .i64 a1)), (7, .d (D.int .i64 w2)), (8, .d (D.int .i64 (0 : Int)))], []⟩ k = slices_Index_int_int_p4 n a0 a1 w2 (fun h6 => k .ret ⟨19, [(4, .d (D.int .i64 h6))], []⟩) (fun h6 w18 => k (.exit 0) ⟨19, [(0, .d (D.sl 1 a0)), (1, .d (D.int .i64 a1)), (7, .d (D.int .i64 w2)), (8, .d (D.int .i64 h6)), (9, .d (D.bool w18))], []⟩) := by
  rw [slices_Index_int_int_c4_eq]
  exact slices_Index_int_int_r4_eq n a0 a1 w2 k n (0 : Int)
theorem slices_Index_int_int_p5_eq {R : Type} (n : Nat) (a0 : List (List D)) (a1 : Int) (w2 : Int) (k : Exit → St → Option R) : vexec (slices_Index_int_int_C n) n slices_Index_int_int_c5 ⟨19, [(0, .d (D.sl 1 a0)), (1, .d (D.int .i64 a1)), (7, .d (D.int .i64 w2)), (8, .d (D.int .i64 (0 : Int)))], []⟩ k = slices_Index_int_int_p5 n a0 a1 w2 (fun w19 => k .ret ⟨19, [(4, .d (D.int .i64 w19))], []⟩) (fun w20 w21 => k .normal ⟨19, [(0, .d (D.sl 1 a0)), (1, .d (D.int .i64 a1)), (7, .d (D.int .i64 w2)), (8, .d (D.int .i64 w20)), (9, .d (D.bool w21))], []⟩) := by
  rw [slices_Index_int_int_c5_eq]
  unfold slices_Index_int_int_p5
  exact (slices_Index_int_int_p4_eq n a0 a1 w2 (blockK 0 k)).trans (slices_Index_int_int_p4_congr n a0 a1 w2 (fun w19 => rfl) (fun w20 w21 => rfl))
theorem slices_Index_int_int_p6_eq {R : Type} (n : Nat) (a0 : List (List D)) (a1 : Int) (k : Exit → St → Option R) : vexec (slices_Index_int_int_C n) n slices_Index_int_int_c6 ⟨19, [(0, .d (D.sl 1 a0)), (1, .d (D.int .i64 a1))], []⟩ k = slices_Index_int_int_p6 n a0 a1 (fun w22 => k .ret ⟨19, [(4, .d (D.int .i64 w22))], []⟩) (fun w2 w23 w24 => k .normal ⟨19, [(0, .d (D.sl 1 a0)), (1, .d (D.int .i64 a1)), (7, .d (D.int .i64 w2)), (8, .d (D.int .i64 w23)), (9, .d (D.bool w24))], []⟩) := by
  rw [slices_Index_int_int_c6_eq]
  unfold slices_Index_int_int_p6
  exact (slices_Index_int_int_p2_eq n a0 a1 (seqK (slices_Index_int_int_C n) n slices_Index_int_int_c5 k)).trans (slices_Index_int_int_p2_congr n a0 a1 (fun w2 => slices_Index_int_int_p5_eq n a0 a1 w2 k))
theorem slices_Index_int_int_p7_eq {R : Type} (n : Nat) (a0 : List (List D)) (a1 : Int) (w26 : Int) (w27 : Int) (w28 : Bool) (k : Exit → St → Option R) : vexec (slices_Index_int_int_C n) n slices_Index_int_int_c7 ⟨19, [(0, .d (D.sl 1 a0)), (1, .d (D.int .i64 a1)), (7, .d (D.int .i64 w26)), (8, .d (D.int .i64 w27)), (9, .d (D.bool w28))], []⟩ k = slices_Index_int_int_p7 n a0 a1 w26 w27 w28 (k .ret ⟨19, [(4, .d (D.int .i64 (-1 : Int)))], []⟩) := by kernel_rfl
theorem slices_Index_int_int_p8_eq {R : Type} (n : Nat) (a0 : List (List D)) (a1 : Int) (k : Exit → St → Option R) : vexec (slices_Index_int_int_C n) n slices_Index_int_int_c8 ⟨19, [(0, .d (D.sl 1 a0)), (1, .d (D.int .i64 a1))], []⟩ k = slices_Index_int_int_p8 n a0 a1 (fun z29 => k .ret ⟨19, [(4, .d (D.int .i64 z29))], []⟩) := by
  rw [slices_Index_int_int_c8_eq]
  unfold slices_Index_int_int_p8
  exact (slices_Index_int_int_p6_eq n a0 a1 (seqK (slices_Index_int_int_C n) n slices_Index_int_int_c7 k)).trans (slices_Index_int_int_p6_congr n a0 a1 (fun w25 => rfl) (fun w26 w27 w28 => slices_Index_int_int_p7_eq n a0 a1 w26 w27 w28 k))
theorem slices_Index_int_int_p9_eq {R : Type} (n : Nat) (a0 : List (List D)) (a1 : Int) (k : Exit → St → Option R) : vexec (slices_Index_int_int_C n) n slices_Index_int_int_c0 ⟨19, [(0, .d (D.sl 1 a0)), (1, .d (D.int .i64 a1))], []⟩ k = slices_Index_int_int_p9 n a0 a1 (fun w30 => k .ret ⟨19, [(4, .d (D.int .i64 w30))], []⟩) := by
  rw [slices_Index_int_int_c0_eq]
  unfold slices_Index_int_int_p9
  exact (slices_Index_int_int_p1_eq n a0 a1 (seqK (slices_Index_int_int_C n) n slices_Index_int_int_c8 k)).trans (slices_Index_int_int_p1_congr n a0 a1 (slices_Index_int_int_p8_eq n a0 a1 k))
theorem slices_Index_int_int_vfn {R : Type} (n : Nat) (a0 : List (List D)) (a1 : Int) (K : AV → Option R) : vfn (slices_Index_int_int_C n) n Try.f42 [.d (D.sl 1 a0), .d (D.int .i64 a1)] [] (retF [[0]] K) = slices_Index_int_int n a0 a1 (fun r0 => K (.d (D.int .i64 r0))) :=
  (show vfn (slices_Index_int_int_C n) n Try.f42 [.d (D.sl 1 a0), .d (D.int .i64 a1)] [] (retF [[0]] K) = vexec (slices_Index_int_int_C n) n slices_Index_int_int_c0 ⟨19, [(0, .d (D.sl 1 a0)), (1, .d (D.int .i64 a1))], []⟩ (retX slices_Index_int_int_tt [.tmp 4] (retF [[0]] K)) from vfn_at (by kernel_rfl) (by kernel_rfl) rfl (by kernel_rfl) rfl (by kernel_rfl) rfl).trans ((slices_Index_int_int_p9_eq n a0 a1 (retX slices_Index_int_int_tt [.tmp 4] (retF [[0]] K))).trans (by kernel_rfl))
def slices_Index_int_int_K : AV → Option (Int) := fun av => match av with
  | .d (D.int .i64 r0) => some r0
  | _ => none
def slices_Index_int_int_e (n : Nat) : Entry := fun _ _ g avs _ k => match avs with
  | [c0, c1] => prS g 1 c0 fun a0 => prI g .i64 c1 fun a1 => 
    gb g (slices_Index_int_int n a0 a1 some) 0 fun r => k ⟨.d (D.int .i64 r), [], []⟩
  | _ => none
theorem slices_Index_int_int_ok (n : Nat) : EntryOK Try.prog 42 (slices_Index_int_int_e n) := by
  intro R site g avs hl k r h
  unfold slices_Index_int_int_e at h
  split at h
  rotate_left
  · cases h
  replace h := prS_some h
  obtain ⟨a0, h, le0⟩ := h
  replace h := prI_some h
  obtain ⟨a1, h, le1⟩ := h
  replace h := gb_some h
  obtain ⟨res, h, hr⟩ := h
  refine ⟨_, h, fun hg => CallOK.conv (avs' := [.d (D.sl 1 a0), .d (D.int .i64 a1)]) (.cons (le0 hg) (.cons (le1 hg) (.nil))) (callOK_fix (K := slices_Index_int_int_K) (res := res) (slices_Index_int_int_VC n) (fn := Try.f42) (n := n) (by kernel_rfl) (by kernel_rfl) (by kernel_rfl) (ss := [[0]]) rfl ?_ ?_)⟩
  · exact (slices_Index_int_int_vfn n a0 a1 slices_Index_int_int_K).trans (hr hg)
  · intro x hx
    unfold slices_Index_int_int_K at hx
    split at hx
    · injection hx with hx; subst hx; rfl
    · cases hx
end Go.Vx
/-
  slices_Contains_int_int: the interpreter computes the pure function
-/
set_option linter.unusedVariables false
set_option linter.unusedSimpArgs false
set_option maxRecDepth 100000
namespace Go.Vx
open Go.Proofs
noncomputable def slices_Contains_int_int_c0 : Code := bodyOf Try.f35
def slices_Contains_int_int_tt : TT := [(3, ⟨.int .i64, 1, 8, [.int .i64 0], [.int .i64 0], [], none⟩)]
theorem slices_Contains_int_int_tt_eq : mkTT Try.prog [3] = slices_Contains_int_int_tt := by kernel_rfl
def slices_Contains_int_int_cfg : List (Nat × Cfg) := [(0, ⟨[0, 1], [], [], [], []⟩), (1, ⟨[4], [], [], [], []⟩)]
def slices_Contains_int_int_C (n : Nat) : VC := ⟨specOf [(42, slices_Index_int_int_e n)], slices_Contains_int_int_tt, slices_Contains_int_int_cfg⟩
theorem slices_Contains_int_int_ents (n : Nat) : EntsOK Try.prog [(42, slices_Index_int_int_e n)] := ⟨slices_Index_int_int_ok n, trivial⟩
theorem slices_Contains_int_int_VC (n : Nat) : VCOk Try.prog (slices_Contains_int_int_C n) := ⟨specOf_ok (slices_Contains_int_int_ents n), (slices_Contains_int_int_tt_eq ▸ mkTT_ok _ : TOk Try.prog slices_Contains_int_int_tt), by kernel_rfl⟩
theorem slices_Contains_int_int_p1_congr {R : Type} (n : Nat) (a0 : List (List D)) (a1 : Int) {k0 kk0 : Bool → Option R} (hq0 : ∀ x0, k0 x0 = kk0 x0) : slices_Contains_int_int_p1 n a0 a1 k0 = slices_Contains_int_int_p1 n a0 a1 kk0 := by
  obtain rfl : k0 = kk0 := funext fun x0 => hq0 x0
  rfl
theorem slices_Contains_int_int_p1_eq {R : Type} (n : Nat) (a0 : List (List D)) (a1 : Int) (k : Exit → St → Option R) : vexec (slices_Contains_int_int_C n) n slices_Contains_int_int_c0 ⟨9, [(0, .d (D.sl 1 a0)), (1, .d (D.int .i64 a1))], []⟩ k = slices_Contains_int_int_p1 n a0 a1 (fun z2 => k .ret ⟨9, [(4, .d (D.bool z2))], []⟩) := by kernel_rfl
theorem slices_Contains_int_int_vfn {R : Type} (n : Nat) (a0 : List (List D)) (a1 : Int) (K : AV → Option R) : vfn (slices_Contains_int_int_C n) n Try.f35 [.d (D.sl 1 a0), .d (D.int .i64 a1)] [] (retF [[0]] K) = slices_Contains_int_int n a0 a1 (fun r0 => K (.d (D.bool r0))) :=
  (show vfn (slices_Contains_int_int_C n) n Try.f35 [.d (D.sl 1 a0), .d (D.int .i64 a1)] [] (retF [[0]] K) = vexec (slices_Contains_int_int_C n) n slices_Contains_int_int_c0 ⟨9, [(0, .d (D.sl 1 a0)), (1, .d (D.int .i64 a1))], []⟩ (retX slices_Contains_int_int_tt [.tmp 4] (retF [[0]] K)) from vfn_at (by kernel_rfl) (by kernel_rfl) rfl (by kernel_rfl) rfl (by kernel_rfl) rfl).trans ((slices_Contains_int_int_p1_eq n a0 a1 (retX slices_Contains_int_int_tt [.tmp 4] (retF [[0]] K))).trans (by kernel_rfl))
def slices_Contains_int_int_K : AV → Option (Bool) := fun av => match av with
  | .d (D.bool r0) => some r0
  | _ => none
def slices_Contains_int_int_e (n : Nat) : Entry := fun _ _ g avs _ k => match avs with
  | [c0, c1] => prS g 1 c0 fun a0 => prI g .i64 c1 fun a1 => 
    gb g (slices_Contains_int_int n a0 a1 some) false fun r => k ⟨.d (D.bool r), [], []⟩
  | _ => none
theorem slices_Contains_int_int_ok (n : Nat) : EntryOK Try.prog 35 (slices_Contains_int_int_e n) := by
  intro R site g avs hl k r h
  unfold slices_Contains_int_int_e at h
  split at h
  rotate_left
  · cases h
  replace h := prS_some h
  obtain ⟨a0, h, le0⟩ := h
  replace h := prI_some h
  obtain ⟨a1, h, le1⟩ := h
  replace h := gb_some h
  obtain ⟨res, h, hr⟩ := h
  refine ⟨_, h, fun hg => CallOK.conv (avs' := [.d (D.sl 1 a0), .d (D.int .i64 a1)]) (.cons (le0 hg) (.cons (le1 hg) (.nil))) (callOK_fix (K := slices_Contains_int_int_K) (res := res) (slices_Contains_int_int_VC n) (fn := Try.f35) (n := n) (by kernel_rfl) (by kernel_rfl) (by kernel_rfl) (ss := [[0]]) rfl ?_ ?_)⟩
  · exact (slices_Contains_int_int_vfn n a0 a1 slices_Contains_int_int_K).trans (hr hg)
  · intro x hx
    unfold slices_Contains_int_int_K at hx
    split at hx
    · injection hx with hx; subst hx; rfl
    · cases hx
end Go.Vx
/-
  platform_Proper: the interpreter computes the pure function
-/
set_option linter.unusedVariables false
set_option linter.unusedSimpArgs false
set_option maxRecDepth 100000
namespace Go.Vx
open Go.Proofs
noncomputable def platform_Proper_c0 : Code := bodyOf Try.f21
noncomputable def platform_Proper_c1 : Code := cL (bodyOf Try.f21)
noncomputable def platform_Proper_c2 : Code := cL (cR (bodyOf Try.f21))
noncomputable def platform_Proper_c3 : Code := cL (cL (cR (cR (bodyOf Try.f21))))
noncomputable def platform_Proper_c4 : Code := cB (cB (cR (cL (cR (cR (bodyOf Try.f21))))))
noncomputable def platform_Proper_c5 : Code := cB (cR (cL (cR (cR (bodyOf Try.f21)))))
noncomputable def platform_Proper_c6 : Code := cR (cL (cR (cR (bodyOf Try.f21))))
noncomputable def platform_Proper_c7 : Code := cL (cR (cR (bodyOf Try.f21)))
noncomputable def platform_Proper_c8 : Code := cR (cR (cR (bodyOf Try.f21)))
noncomputable def platform_Proper_c9 : Code := cR (cR (bodyOf Try.f21))
noncomputable def platform_Proper_c10 : Code := cR (bodyOf Try.f21)
theorem platform_Proper_c5_eq : platform_Proper_c5 = .loop platform_Proper_c4 := by kernel_rfl
theorem platform_Proper_c6_eq : platform_Proper_c6 = .block 0 platform_Proper_c5 := by kernel_rfl
theorem platform_Proper_c7_eq : platform_Proper_c7 = .seq platform_Proper_c3 platform_Proper_c6 := by kernel_rfl
theorem platform_Proper_c9_eq : platform_Proper_c9 = .seq platform_Proper_c7 platform_Proper_c8 := by kernel_rfl
theorem platform_Proper_c10_eq : platform_Proper_c10 = .seq platform_Proper_c2 platform_Proper_c9 := by kernel_rfl
theorem platform_Proper_c0_eq : platform_Proper_c0 = .seq platform_Proper_c1 platform_Proper_c10 := by kernel_rfl
def platform_Proper_tt : TT := [(3, ⟨.int .i64, 1, 8, [.int .i64 0], [.int .i64 0], [], none⟩), (22, ⟨.sl 3 1, 1, 24, [.slice none 0 0], [.sl 1 []], [], none⟩), (24, ⟨.sl 28 3, 1, 24, [.slice none 0 0], [.sl 3 []], [], none⟩), (28, ⟨.struct, 3, 40, [.int .i64 0, .int .i64 0, .slice none 0 0], [.int .i64 0, .int .i64 0, .sl 1 []], [(0, 3), (1, 3), (2, 22)], none⟩)]
theorem platform_Proper_tt_eq : mkTT Try.prog [3, 22, 24, 28] = platform_Proper_tt := by kernel_rfl
def platform_Proper_cfg : List (Nat × Cfg) := [(0, ⟨[0, 1, 2], [], [], [], []⟩), (1, ⟨[0, 1, 2, 19], [], [], [], []⟩), (2, ⟨[6], [], [], [], []⟩), (3, ⟨[0, 1, 2, 20, 21, 22], [], [], [], []⟩), (4, ⟨[0, 1, 2, 20, 21, 22, 23], [], [], [], []⟩), (5, ⟨[0, 1, 2, 7, 8, 20, 21, 22], [], [], [], []⟩), (6, ⟨[0, 1, 2, 7, 8, 20, 21, 22, 34], [], [], [], []⟩), (7, ⟨[6], [], [], [], []⟩), (8, ⟨[0, 1, 2, 20, 21, 22, 41], [], [], [], []⟩), (9, ⟨[6], [], [], [], []⟩), (10, ⟨[0, 1, 2, 20, 21, 22], [], [], [], []⟩), (11, ⟨[6], [], [], [], []⟩)]
def platform_Proper_C (n : Nat) : VC := ⟨specOf [(29, platform_Valid_e n), (35, slices_Contains_int_int_e n), (32, platform_fits_e n)], platform_Proper_tt, platform_Proper_cfg⟩
theorem platform_Proper_ents (n : Nat) : EntsOK Try.prog [(29, platform_Valid_e n), (35, slices_Contains_int_int_e n), (32, platform_fits_e n)] := ⟨platform_Valid_ok n, ⟨slices_Contains_int_int_ok n, ⟨platform_fits_ok n, trivial⟩⟩⟩
theorem platform_Proper_VC (n : Nat) : VCOk Try.prog (platform_Proper_C n) := ⟨specOf_ok (platform_Proper_ents n), (platform_Proper_tt_eq ▸ mkTT_ok _ : TOk Try.prog platform_Proper_tt), by kernel_rfl⟩
theorem platform_Proper_p1_congr {R : Type} (n : Nat) (a0 : Int) (a1 : List (List D)) (a2 : List (List D)) {k0 kk0 : Option R} (hq0 : k0 = kk0) : platform_Proper_p1 n a0 a1 a2 k0 = platform_Proper_p1 n a0 a1 a2 kk0 := by
  obtain rfl : k0 = kk0 := hq0
  rfl
theorem platform_Proper_p2_congr {R : Type} (n : Nat) (a0 : Int) (a1 : List (List D)) (a2 : List (List D)) {k0 kk0 : Option R} {k1 kk1 : Bool → Option R} (hq0 : k0 = kk0) (hq1 : ∀ x0, k1 x0 = kk1 x0) : platform_Proper_p2 n a0 a1 a2 k0 k1 = platform_Proper_p2 n a0 a1 a2 kk0 kk1 := by
  obtain rfl : k0 = kk0 := hq0
  obtain rfl : k1 = kk1 := funext fun x0 => hq1 x0
  rfl
theorem platform_Proper_p3_congr {R : Type} (n : Nat) (a0 : Int) (a1 : List (List D)) (a2 : List (List D)) (w3 : Bool) {k0 kk0 : Int → Option R} (hq0 : ∀ x0, k0 x0 = kk0 x0) : platform_Proper_p3 n a0 a1 a2 w3 k0 = platform_Proper_p3 n a0 a1 a2 w3 kk0 := by
  obtain rfl : k0 = kk0 := funext fun x0 => hq0 x0
  rfl
theorem platform_Proper_p4_congr {R : Type} (n : Nat) (a0 : Int) (a1 : List (List D)) (a2 : List (List D)) (w5 : Int) (h11 : Int) {k0 kk0 : Option R} {k1 kk1 : Int → Option R} {k2 kk2 : Bool → Option R} (hq0 : k0 = kk0) (hq1 : ∀ x0, k1 x0 = kk1 x0) (hq2 : ∀ x0, k2 x0 = kk2 x0) : platform_Proper_p4 n a0 a1 a2 w5 h11 k0 k1 k2 = platform_Proper_p4 n a0 a1 a2 w5 h11 kk0 kk1 kk2 := by
  obtain rfl : k0 = kk0 := hq0
  obtain rfl : k1 = kk1 := funext fun x0 => hq1 x0
  obtain rfl : k2 = kk2 := funext fun x0 => hq2 x0
  rfl
theorem platform_Proper_p5_congr {R : Type} (n : Nat) (a0 : Int) (a1 : List (List D)) (a2 : List (List D)) (w5 : Int) {k0 kk0 : Option R} {k1 kk1 : Int → Bool → Option R} (hq0 : k0 = kk0) (hq1 : ∀ x0 x1, k1 x0 x1 = kk1 x0 x1) : platform_Proper_p5 n a0 a1 a2 w5 k0 k1 = platform_Proper_p5 n a0 a1 a2 w5 kk0 kk1 := by
  obtain rfl : k0 = kk0 := hq0
  obtain rfl : k1 = kk1 := funext fun x0 => funext fun x1 => hq1 x0 x1
  rfl
theorem platform_Proper_p6_congr {R : Type} (n : Nat) (a0 : Int) (a1 : List (List D)) (a2 : List (List D)) (w5 : Int) {k0 kk0 : Option R} {k1 kk1 : Int → Bool → Option R} (hq0 : k0 = kk0) (hq1 : ∀ x0 x1, k1 x0 x1 = kk1 x0 x1) : platform_Proper_p6 n a0 a1 a2 w5 k0 k1 = platform_Proper_p6 n a0 a1 a2 w5 kk0 kk1 := by
  obtain rfl : k0 = kk0 := hq0
  obtain rfl : k1 = kk1 := funext fun x0 => funext fun x1 => hq1 x0 x1
  rfl
theorem platform_Proper_p7_congr {R : Type} (n : Nat) (a0 : Int) (a1 : List (List D)) (a2 : List (List D)) (w3 : Bool) {k0 kk0 : Option R} {k1 kk1 : Int → Int → Bool → Option R} (hq0 : k0 = kk0) (hq1 : ∀ x0 x1 x2, k1 x0 x1 x2 = kk1 x0 x1 x2) : platform_Proper_p7 n a0 a1 a2 w3 k0 k1 = platform_Proper_p7 n a0 a1 a2 w3 kk0 kk1 := by
  obtain rfl : k0 = kk0 := hq0
  obtain rfl : k1 = kk1 := funext fun x0 => funext fun x1 => funext fun x2 => hq1 x0 x1 x2
  rfl
theorem platform_Proper_p8_congr {R : Type} (n : Nat) (a0 : Int) (a1 : List (List D)) (a2 : List (List D)) (w38 : Int) (w39 : Int) (w40 : Bool) {k0 kk0 : Option R} (hq0 : k0 = kk0) : platform_Proper_p8 n a0 a1 a2 w38 w39 w40 k0 = platform_Proper_p8 n a0 a1 a2 w38 w39 w40 kk0 := by
  obtain rfl : k0 = kk0 := hq0
  rfl
theorem platform_Proper_p9_congr {R : Type} (n : Nat) (a0 : Int) (a1 : List (List D)) (a2 : List (List D)) (w3 : Bool) {k0 kk0 : Bool → Option R} (hq0 : ∀ x0, k0 x0 = kk0 x0) : platform_Proper_p9 n a0 a1 a2 w3 k0 = platform_Proper_p9 n a0 a1 a2 w3 kk0 := by
  obtain rfl : k0 = kk0 := funext fun x0 => hq0 x0
  rfl
theorem platform_Proper_p10_congr {R : Type} (n : Nat) (a0 : Int) (a1 : List (List D)) (a2 : List (List D)) {k0 kk0 : Bool → Option R} (hq0 : ∀ x0, k0 x0 = kk0 x0) : platform_Proper_p10 n a0 a1 a2 k0 = platform_Proper_p10 n a0 a1 a2 kk0 := by
  obtain rfl : k0 = kk0 := funext fun x0 => hq0 x0
  rfl
theorem platform_Proper_p11_congr {R : Type} (n : Nat) (a0 : Int) (a1 : List (List D)) (a2 : List (List D)) {k0 kk0 : Bool → Option R} (hq0 : ∀ x0, k0 x0 = kk0 x0) : platform_Proper_p11 n a0 a1 a2 k0 = platform_Proper_p11 n a0 a1 a2 kk0 := by
  obtain rfl : k0 = kk0 := funext fun x0 => hq0 x0
  rfl
theorem platform_Proper_p1_eq {R : Type} (n : Nat) (a0 : Int) (a1 : List (List D)) (a2 : List (List D)) (k : Exit → St → Option R) : vexec (platform_Proper_C n) n platform_Proper_c1 ⟨43, [(0, .d (D.int .i64 a0)), (1, .d (D.sl 3 a1)), (2, .d (D.sl 1 a2))], []⟩ k = platform_Proper_p1 n a0 a1 a2 (k .normal ⟨43, [(0, .d (D.int .i64 a0)), (1, .d (D.sl 3 a1)), (2, .d (D.sl 1 a2))], []⟩) := by kernel_rfl
theorem platform_Proper_p2_eq {R : Type} (n : Nat) (a0 : Int) (a1 : List (List D)) (a2 : List (List D)) (k : Exit → St → Option R) : vexec (platform_Proper_C n) n platform_Proper_c2 ⟨43, [(0, .d (D.int .i64 a0)), (1, .d (D.sl 3 a1)), (2, .d (D.sl 1 a2))], []⟩ k = platform_Proper_p2 n a0 a1 a2 (k .ret ⟨43, [(6, .d (D.bool false))], []⟩) (fun z2 => k .normal ⟨43, [(0, .d (D.int .i64 a0)), (1, .d (D.sl 3 a1)), (2, .d (D.sl 1 a2)), (19, .d (D.bool z2))], []⟩) := by kernel_rfl
theorem platform_Proper_p3_eq {R : Type} (n : Nat) (a0 : Int) (a1 : List (List D)) (a2 : List (List D)) (w3 : Bool) (k : Exit → St → Option R) : vexec (platform_Proper_C n) n platform_Proper_c3 ⟨43, [(0, .d (D.int .i64 a0)), (1, .d (D.sl 3 a1)), (2, .d (D.sl 1 a2)), (19, .d (D.bool w3))], []⟩ k = platform_Proper_p3 n a0 a1 a2 w3 (fun z4 => k .normal ⟨43, [(0, .d (D.int .i64 a0)), (1, .d (D.sl 3 a1)), (2, .d (D.sl 1 a2)), (20, .d (D.sl 1 a2)), (21, .d (D.int .i64 z4)), (22, .d (D.int .i64 (0 : Int)))], []⟩) := by kernel_rfl
theorem platform_Proper_p4_eq {R : Type} (n : Nat) (a0 : Int) (a1 : List (List D)) (a2 : List (List D)) (w5 : Int) (h11 : Int) (k : Exit → St → Option R) : vexec (platform_Proper_C n) n platform_Proper_c4 ⟨43, [(0, .d (D.int .i64 a0)), (1, .d (D.sl 3 a1)), (2, .d (D.sl 1 a2)), (20, .d (D.sl 1 a2)), (21, .d (D.int .i64 w5)), (22, .d (D.int .i64 h11))], []⟩ k = platform_Proper_p4 n a0 a1 a2 w5 h11 (k .ret ⟨43, [(6, .d (D.bool false))], []⟩) (fun z30 => k .normal ⟨43, [(0, .d (D.int .i64 a0)), (1, .d (D.sl 3 a1)), (2, .d (D.sl 1 a2)), (20, .d (D.sl 1 a2)), (21, .d (D.int .i64 w5)), (22, .d (D.int .i64 z30))], []⟩) (fun z31 => k (.exit 0) ⟨43, [(0, .d (D.int .i64 a0)), (1, .d (D.sl 3 a1)), (2, .d (D.sl 1 a2)), (20, .d (D.sl 1 a2)), (21, .d (D.int .i64 w5)), (22, .d (D.int .i64 h11)), (23, .d (D.bool z31))], []⟩) := by kernel_rfl
theorem platform_Proper_r5_eq {R : Type} (n : Nat) (a0 : Int) (a1 : List (List D)) (a2 : List (List D)) (w5 : Int) (k : Exit → St → Option R) : ∀ (m : Nat) (h11 : Int), loopN (vexec (platform_Proper_C n) n platform_Proper_c4) m ⟨43, [(0, .d (D.int .i64 a0)), (1, .d (D.sl 3 a1)), (2, .d (D.sl 1 a2)), (20, .d (D.sl 1 a2)), (21, .d (D.int .i64 w5)), (22, .d (D.int .i64 h11))], []⟩ k = platform_Proper_r5 n a0 a1 a2 w5 (k .ret ⟨43, [(6, .d (D.bool false))], []⟩) (fun h11 w33 => k (.exit 0) ⟨43, [(0, .d (D.int .i64 a0)), (1, .d (D.sl 3 a1)), (2, .d (D.sl 1 a2)), (20, .d (D.sl 1 a2)), (21, .d (D.int .i64 w5)), (22, .d (D.int .i64 h11)), (23, .d (D.bool w33))], []⟩) m h11
  | 0, _ => rfl
  | m + 1, h11 => (platform_Proper_p4_eq n a0 a1 a2 w5 h11 (loopK (vexec (platform_Proper_C n) n platform_Proper_c4) m k)).trans (platform_Proper_p4_congr n a0 a1 a2 w5 h11 (rfl) (fun w32 => platform_Proper_r5_eq n a0 a1 a2 w5 k m w32) (fun w33 => rfl))
theorem platform_Proper_p5_eq {R : Type} (n : Nat) (a0 : Int) (a1 : List (List D)) (a2 : List (List D)) (w5 : Int) (k : Exit → St → Option R) : vexec (platform_Proper_C n) n platform_Proper_c5 ⟨43, [(0, .d (D.int .i64 a0)), (1, .d (D.sl 3 a1)), (2, .d (D.sl 1 a2)), (20, .d (D.sl 1 a2)), (21, .d (D.int .i64 w5)), (22, .d (D.int .i64 (0 : Int)))], []⟩ k = platform_Proper_p5 n a0 a1 a2 w5 (k .ret ⟨43, [(6, .d (D.bool false))], []⟩) (fun h11 w33 => k (.exit 0) ⟨43, [(0, .d (D.int .i64 a0)), (1, .d (D.sl 3 a1)), (2, .d (D.sl 1 a2)), (20, .d (D.sl 1 a2)), (21, .d (D.int .i64 w5)), (22, .d (D.int .i64 h11)), (23, .d (D.bool w33))], []⟩) := by
  rw [platform_Proper_c5_eq]
  exact platform_Proper_r5_eq n a0 a1 a2 w5 k n (0 : Int)
theorem platform_Proper_p6_eq {R : Type} (n : Nat) (a0 : Int) (a1 : List (List D)) (a2 : List (List D)) (w5 : Int) (k : Exit → St → Option R) : vexec (platform_Proper_C n) n platform_Proper_c6 ⟨43, [(0, .d (D.int .i64 a0)), (1, .d (D.sl 3 a1)), (2, .d (D.sl 1 a2)), (20, .d (D.sl 1 a2)), (21, .d (D.int .i64 w5)), (22, .d (D.int .i64 (0 : Int)))], []⟩ k = platform_Proper_p6 n a0 a1 a2 w5 (k .ret ⟨43, [(6, .d (D.bool false))], []⟩) (fun w34 w35 => k .normal ⟨43, [(0, .d (D.int .i64 a0)), (1, .d (D.sl 3 a1)), (2, .d (D.sl 1 a2)), (20, .d (D.sl 1 a2)), (21, .d (D.int .i64 w5)), (22, .d (D.int .i64 w34)), (23, .d (D.bool w35))], []⟩) := by
  rw [platform_Proper_c6_eq]
  unfold platform_Proper_p6
  exact (platform_Proper_p5_eq n a0 a1 a2 w5 (blockK 0 k)).trans (platform_Proper_p5_congr n a0 a1 a2 w5 (rfl) (fun w34 w35 => rfl))
theorem platform_Proper_p7_eq {R : Type} (n : Nat) (a0 : Int) (a1 : List (List D)) (a2 : List (List D)) (w3 : Bool) (k : Exit → St → Option R) : vexec (platform_Proper_C n) n platform_Proper_c7 ⟨43, [(0, .d (D.int .i64 a0)), (1, .d (D.sl 3 a1)), (2, .d (D.sl 1 a2)), (19, .d (D.bool w3))], []⟩ k = platform_Proper_p7 n a0 a1 a2 w3 (k .ret ⟨43, [(6, .d (D.bool false))], []⟩) (fun w5 w36 w37 => k .normal ⟨43, [(0, .d (D.int .i64 a0)), (1, .d (D.sl 3 a1)), (2, .d (D.sl 1 a2)), (20, .d (D.sl 1 a2)), (21, .d (D.int .i64 w5)), (22, .d (D.int .i64 w36)), (23, .d (D.bool w37))], []⟩) := by
  rw [platform_Proper_c7_eq]
  unfold platform_Proper_p7
  exact (platform_Proper_p3_eq n a0 a1 a2 w3 (seqK (platform_Proper_C n) n platform_Proper_c6 k)).trans (platform_Proper_p3_congr n a0 a1 a2 w3 (fun w5 => platform_Proper_p6_eq n a0 a1 a2 w5 k))
theorem platform_Proper_p8_eq {R : Type} (n : Nat) (a0 : Int) (a1 : List (List D)) (a2 : List (List D)) (w38 : Int) (w39 : Int) (w40 : Bool) (k : Exit → St → Option R) : vexec (platform_Proper_C n) n platform_Proper_c8 ⟨43, [(0, .d (D.int .i64 a0)), (1, .d (D.sl 3 a1)), (2, .d (D.sl 1 a2)), (20, .d (D.sl 1 a2)), (21, .d (D.int .i64 w38)), (22, .d (D.int .i64 w39)), (23, .d (D.bool w40))], []⟩ k = platform_Proper_p8 n a0 a1 a2 w38 w39 w40 (k .ret ⟨43, [(6, .d (D.bool true))], []⟩) := by kernel_rfl
theorem platform_Proper_p9_eq {R : Type} (n : Nat) (a0 : Int) (a1 : List (List D)) (a2 : List (List D)) (w3 : Bool) (k : Exit → St → Option R) : vexec (platform_Proper_C n) n platform_Proper_c9 ⟨43, [(0, .d (D.int .i64 a0)), (1, .d (D.sl 3 a1)), (2, .d (D.sl 1 a2)), (19, .d (D.bool w3))], []⟩ k = platform_Proper_p9 n a0 a1 a2 w3 (fun z41 => k .ret ⟨43, [(6, .d (D.bool z41))], []⟩) := by
  rw [platform_Proper_c9_eq]
  unfold platform_Proper_p9
  exact (platform_Proper_p7_eq n a0 a1 a2 w3 (seqK (platform_Proper_C n) n platform_Proper_c8 k)).trans (platform_Proper_p7_congr n a0 a1 a2 w3 (rfl) (fun w38 w39 w40 => platform_Proper_p8_eq n a0 a1 a2 w38 w39 w40 k))
theorem platform_Proper_p10_eq {R : Type} (n : Nat) (a0 : Int) (a1 : List (List D)) (a2 : List (List D)) (k : Exit → St → Option R) : vexec (platform_Proper_C n) n platform_Proper_c10 ⟨43, [(0, .d (D.int .i64 a0)), (1, .d (D.sl 3 a1)), (2, .d (D.sl 1 a2))], []⟩ k = platform_Proper_p10 n a0 a1 a2 (fun z43 => k .ret ⟨43, [(6, .d (D.bool z43))], []⟩) := by
  rw [platform_Proper_c10_eq]
  unfold platform_Proper_p10
  exact (platform_Proper_p2_eq n a0 a1 a2 (seqK (platform_Proper_C n) n platform_Proper_c9 k)).trans (platform_Proper_p2_congr n a0 a1 a2 (rfl) (fun w3 => platform_Proper_p9_eq n a0 a1 a2 w3 k))
theorem platform_Proper_p11_eq {R : Type} (n : Nat) (a0 : Int) (a1 : List (List D)) (a2 : List (List D)) (k : Exit → St → Option R) : vexec (platform_Proper_C n) n platform_Proper_c0 ⟨43, [(0, .d (D.int .i64 a0)), (1, .d (D.sl 3 a1)), (2, .d (D.sl 1 a2))], []⟩ k = platform_Proper_p11 n a0 a1 a2 (fun w44 => k .ret ⟨43, [(6, .d (D.bool w44))], []⟩) := by
  rw [platform_Proper_c0_eq]
  unfold platform_Proper_p11
  exact (platform_Proper_p1_eq n a0 a1 a2 (seqK (platform_Proper_C n) n platform_Proper_c10 k)).trans (platform_Proper_p1_congr n a0 a1 a2 (platform_Proper_p10_eq n a0 a1 a2 k))
theorem platform_Proper_vfn {R : Type} (n : Nat) (a0 : Int) (a1 : List (List D)) (a2 : List (List D)) (K : AV → Option R) : vfn (platform_Proper_C n) n Try.f21 [.d (D.int .i64 a0), .d (D.sl 3 a1), .d (D.sl 1 a2)] [] (retF [[0]] K) = platform_Proper n a0 a1 a2 (fun r0 => K (.d (D.bool r0))) :=
  (show vfn (platform_Proper_C n) n Try.f21 [.d (D.int .i64 a0), .d (D.sl 3 a1), .d (D.sl 1 a2)] [] (retF [[0]] K) = vexec (platform_Proper_C n) n platform_Proper_c0 ⟨43, [(0, .d (D.int .i64 a0)), (1, .d (D.sl 3 a1)), (2, .d (D.sl 1 a2))], []⟩ (retX platform_Proper_tt [.tmp 6] (retF [[0]] K)) from vfn_at (by kernel_rfl) (by kernel_rfl) rfl (by kernel_rfl) rfl (by kernel_rfl) rfl).trans ((platform_Proper_p11_eq n a0 a1 a2 (retX platform_Proper_tt [.tmp 6] (retF [[0]] K))).trans (by kernel_rfl))
def platform_Proper_K : AV → Option (Bool) := fun av => match av with
  | .d (D.bool r0) => some r0
  | _ => none
def platform_Proper_e (n : Nat) : Entry := fun _ _ g avs _ k => match avs with
  | [c0, c1, c2] => prI g .i64 c0 fun a0 => prS g 3 c1 fun a1 => prS g 1 c2 fun a2 => 
    gb g (platform_Proper n a0 a1 a2 some) false fun r => k ⟨.d (D.bool r), [], []⟩
  | _ => none
theorem platform_Proper_ok (n : Nat) : EntryOK Try.prog 21 (platform_Proper_e n) := by
  intro R site g avs hl k r h
  unfold platform_Proper_e at h
  split at h
  rotate_left
  · cases h
  replace h := prI_some h
  obtain ⟨a0, h, le0⟩ := h
  replace h := prS_some h
  obtain ⟨a1, h, le1⟩ := h
  replace h := prS_some h
  obtain ⟨a2, h, le2⟩ := h
  replace h := gb_some h
  obtain ⟨res, h, hr⟩ := h
  refine ⟨_, h, fun hg => CallOK.conv (avs' := [.d (D.int .i64 a0), .d (D.sl 3 a1), .d (D.sl 1 a2)]) (.cons (le0 hg) (.cons (le1 hg) (.cons (le2 hg) (.nil)))) (callOK_fix (K := platform_Proper_K) (res := res) (platform_Proper_VC n) (fn := Try.f21) (n := n) (by kernel_rfl) (by kernel_rfl) (by kernel_rfl) (ss := [[0]]) rfl ?_ ?_)⟩
  · exact (platform_Proper_vfn n a0 a1 a2 platform_Proper_K).trans (hr hg)
  · intro x hx
    unfold platform_Proper_K at hx
    split at hx
    · injection hx with hx; subst hx; rfl
    · cases hx
end Go.Vx
/-
  law20_awake: the interpreter computes the pure function
-/
set_option linter.unusedVariables false
set_option linter.unusedSimpArgs false
set_option maxRecDepth 100000
namespace Go.Vx
open Go.Proofs
noncomputable def law20_awake_c0 : Code := bodyOf Try.f12
def law20_awake_tt : TT := [(3, ⟨.int .i64, 1, 8, [.int .i64 0], [.int .i64 0], [], none⟩), (22, ⟨.sl 3 1, 1, 24, [.slice none 0 0], [.sl 1 []], [], none⟩)]
theorem law20_awake_tt_eq : mkTT Try.prog [3, 22] = law20_awake_tt := by kernel_rfl
def law20_awake_cfg : List (Nat × Cfg) := [(0, ⟨[], [], [], [], []⟩), (1, ⟨[0], [], [], [], []⟩)]
def law20_awake_C (n : Nat) : VC := ⟨specOf [(19, law20_two_e n), (21, platform_Proper_e n)], law20_awake_tt, law20_awake_cfg⟩
theorem law20_awake_ents (n : Nat) : EntsOK Try.prog [(19, law20_two_e n), (21, platform_Proper_e n)] := ⟨law20_two_ok n, ⟨platform_Proper_ok n, trivial⟩⟩
theorem law20_awake_VC (n : Nat) : VCOk Try.prog (law20_awake_C n) := ⟨specOf_ok (law20_awake_ents n), (law20_awake_tt_eq ▸ mkTT_ok _ : TOk Try.prog law20_awake_tt), by kernel_rfl⟩
theorem law20_awake_p1_congr {R : Type} (n : Nat)  {k0 kk0 : Bool → Option R} (hq0 : ∀ x0, k0 x0 = kk0 x0) : law20_awake_p1 n  k0 = law20_awake_p1 n  kk0 := by
  obtain rfl : k0 = kk0 := funext fun x0 => hq0 x0
  rfl
theorem law20_awake_p1_eq {R : Type} (n : Nat)  (k : Exit → St → Option R) : vexec (law20_awake_C n) n law20_awake_c0 ⟨10, [], []⟩ k = law20_awake_p1 n  (fun z5 => k .ret ⟨10, [(0, .d (D.bool z5))], []⟩) := by kernel_rfl
theorem law20_awake_vfn {R : Type} (n : Nat)  (K : AV → Option R) : vfn (law20_awake_C n) n Try.f12 [] [] (retF [[0]] K) = law20_awake n  (fun r0 => K (.d (D.bool r0))) :=
  (show vfn (law20_awake_C n) n Try.f12 [] [] (retF [[0]] K) = vexec (law20_awake_C n) n law20_awake_c0 ⟨10, [], []⟩ (retX law20_awake_tt [.tmp 0] (retF [[0]] K)) from vfn_at (by kernel_rfl) (by kernel_rfl) rfl (by kernel_rfl) rfl (by kernel_rfl) rfl).trans ((law20_awake_p1_eq n  (retX law20_awake_tt [.tmp 0] (retF [[0]] K))).trans (by kernel_rfl))
def law20_awake_K : AV → Option (Bool) := fun av => match av with
  | .d (D.bool r0) => some r0
  | _ => none
def law20_awake_e (n : Nat) : Entry := fun _ _ g avs _ k => match avs with
  | [] => 
    gb g (law20_awake n  some) false fun r => k ⟨.d (D.bool r), [], []⟩
  | _ => none
theorem law20_awake_ok (n : Nat) : EntryOK Try.prog 12 (law20_awake_e n) := by
  intro R site g avs hl k r h
  unfold law20_awake_e at h
  split at h
  rotate_left
  · cases h
  replace h := gb_some h
  obtain ⟨res, h, hr⟩ := h
  refine ⟨_, h, fun hg => CallOK.conv (avs' := []) (.nil) (callOK_fix (K := law20_awake_K) (res := res) (law20_awake_VC n) (fn := Try.f12) (n := n) (by kernel_rfl) (by kernel_rfl) (by kernel_rfl) (ss := [[0]]) rfl ?_ ?_)⟩
  · exact (law20_awake_vfn n  law20_awake_K).trans (hr hg)
  · intro x hx
    unfold law20_awake_K at hx
    split at hx
    · injection hx with hx; subst hx; rfl
    · cases hx
end Go.Vx
