/- Part of a proof: texts Vpkeep From Vpkeep Pick Vpkeep Source Next Vpkeep Network Vplaw11 small Vpnetwork isEvent Vpnetwork Check Vpnetwork Good Vparith Mod Vpnetwork duration Vpnetwork First Vplaw11 awak. No conditions of their own. -/
import Derived.Test.YtpaalnanfaipjaaProg
import Derived.Test.YtpaalnanfaipjaaGVB
import Derived.Test.YtpaalnanfaipjaaGFA
/-
  keep_From: the interpreter computes the pure function
-/
set_option linter.unusedVariables false
set_option linter.unusedSimpArgs false
set_option maxRecDepth 100000
namespace Go.Vx
open Go.Proofs
noncomputable def keep_From_c0 : Code := bodyOf Try.f22
def keep_From_tt : TT := [(22, ⟨.sl 3 1, 1, 24, [.slice none 0 0], [.sl 1 []], [], none⟩), (60, ⟨.struct, 2, 32, [.slice none 0 0, .int .i64 0], [.sl 1 [], .int .i64 0], [(0, 22), (1, 3)], none⟩)]
theorem keep_From_tt_eq : mkTT Try.prog [22, 60] = keep_From_tt := by kernel_rfl
def keep_From_cfg : List (Nat × Cfg) := [(0, ⟨[0], [], [], [], []⟩), (1, ⟨[2], [(5, 5)], [], [], []⟩)]
def keep_From_C (n : Nat) : VC := ⟨specOf [], keep_From_tt, keep_From_cfg⟩
theorem keep_From_ents (n : Nat) : EntsOK Try.prog [] := trivial
theorem keep_From_VC (n : Nat) : VCOk Try.prog (keep_From_C n) := ⟨specOf_ok (keep_From_ents n), (keep_From_tt_eq ▸ mkTT_ok _ : TOk Try.prog keep_From_tt), by kernel_rfl⟩
theorem keep_From_p1_congr {R : Type} (n : Nat) (a0 : List (List D)) {k0 kk0 : Option R} (hq0 : k0 = kk0) : keep_From_p1 n a0 k0 = keep_From_p1 n a0 kk0 := by
  obtain rfl : k0 = kk0 := hq0
  rfl
theorem keep_From_p1_eq {R : Type} (n : Nat) (a0 : List (List D)) (k : Exit → St → Option R) : vexec (keep_From_C n) n keep_From_c0 ⟨6, [(0, .d (D.sl 1 a0))], []⟩ k = keep_From_p1 n a0 (k .ret ⟨6, [(2, .ptr 5 0)], [(5, .box [.d (D.sl 1 a0), .d (D.int .i64 (0 : Int))])]⟩) := by kernel_rfl
def keep_From_Ko : AV → List (Nat × Ob) → Option ((List (List D)) × Int) := fun av H => (look H 5).bind fun o0 => match av, o0 with
  | .ptr p0 p1, .box [.d (D.sl 1 r0), .d (D.int .i64 r1)] => bif Nat.beq p0 5 && (Nat.beq p1 0) then some (r0, r1) else none
  | _, _ => none
theorem keep_From_vfo (n : Nat) (a0 : List (List D)) : vfn (keep_From_C n) n Try.f22 [.d (D.sl 1 a0)] [] keep_From_Ko = keep_From n a0 (fun r0 r1 => some (r0, r1)) :=
  (show vfn (keep_From_C n) n Try.f22 [.d (D.sl 1 a0)] [] keep_From_Ko = vexec (keep_From_C n) n keep_From_c0 ⟨6, [(0, .d (D.sl 1 a0))], []⟩ (retX keep_From_tt [.tmp 2] keep_From_Ko) from vfn_at (by kernel_rfl) (by kernel_rfl) rfl (by kernel_rfl) rfl (by kernel_rfl) rfl).trans ((keep_From_p1_eq n a0 (retX keep_From_tt [.tmp 2] keep_From_Ko)).trans (by kernel_rfl))
def keep_From_o (n : Nat) : Entry := fun _ site g avs hl k => match avs with
  | [c0] => prS g 1 c0 fun a0 => 
    bif newsOk hl [] [(5, (site + 100000))] then gb g (keep_From n a0 (fun r0 r1 => some (r0, r1))) ([], 0) fun r => k ⟨.ptr (site + 100000) 0, [((site + 100000), some (.box [.d (D.sl 1 r.1), .d (D.int .i64 r.2)]))], []⟩ else none
  | _ => none
theorem keep_From_oo (n : Nat) : EntryOK Try.prog 22 (keep_From_o n) := by
  intro R site g avs hl k r h
  unfold keep_From_o at h
  split at h
  rotate_left
  · cases h
  replace h := prS_some h
  obtain ⟨a0, h, le0⟩ := h
  replace h := bif_some h
  obtain ⟨hc, h⟩ := h
  replace h := gb_some h
  obtain ⟨res, h, hr⟩ := h
  refine ⟨_, h, fun hg => CallOK.conv (avs' := [.d (D.sl 1 a0)]) (.cons (le0 hg) (.nil)) (callOK_own (K := keep_From_Ko) (res := res) (keep_From_VC n) (fn := Try.f22) (n := n) (by kernel_rfl) (by kernel_rfl) (by kernel_rfl) (ρ := []) (ν := [(5, (site + 100000))]) (avs' := [.d (D.sl 1 a0)]) (H := []) rfl rfl rfl rfl hc (trivial) rfl rfl ?_ ?_)⟩
  · exact (keep_From_vfo n a0).trans (hr hg)
  · intro av H' hx
    unfold keep_From_Ko at hx
    replace hx := Option.bind_eq_some_iff.1 hx
    obtain ⟨o0, ho0, hx⟩ := hx
    split at hx
    rotate_left
    · cases hx
    replace hx := bif_some hx
    obtain ⟨hck, hx⟩ := hx
    simp only [Bool.and_eq_true] at hck
    obtain ⟨ek0, ek1⟩ := hck
    have ek0 := Nat.eq_of_beq_eq_true ek0
    subst ek0
    have ek1 := Nat.eq_of_beq_eq_true ek1
    subst ek1
    injection hx with hx
    subst hx
    refine ⟨rfl, ?_, ⟨by rw [ho0]; rfl, trivial⟩, trivial⟩
    simp only [List.cons_append, List.nil_append, outWr, ho0, Option.map_some]
    rfl
end Go.Vx
/-
  keep_Pick: the interpreter computes the pure function
-/
set_option linter.unusedVariables false
set_option linter.unusedSimpArgs false
set_option maxRecDepth 100000
namespace Go.Vx
open Go.Proofs
noncomputable def keep_Pick_c0 : Code := bodyOf Try.f11
def keep_Pick_tt : TT := [(3, ⟨.int .i64, 1, 8, [.int .i64 0], [.int .i64 0], [], none⟩), (54, ⟨.int .u64, 1, 8, [.int .u64 0], [.int .u64 0], [], none⟩)]
theorem keep_Pick_tt_eq : mkTT Try.prog [3, 54] = keep_Pick_tt := by kernel_rfl
def keep_Pick_cfg : List (Nat × Cfg) := [(0, ⟨[0, 1], [], [], [], []⟩), (1, ⟨[4], [], [], [], []⟩)]
def keep_Pick_C (n : Nat) : VC := ⟨specOf [], keep_Pick_tt, keep_Pick_cfg⟩
theorem keep_Pick_ents (n : Nat) : EntsOK Try.prog [] := trivial
theorem keep_Pick_VC (n : Nat) : VCOk Try.prog (keep_Pick_C n) := ⟨specOf_ok (keep_Pick_ents n), (keep_Pick_tt_eq ▸ mkTT_ok _ : TOk Try.prog keep_Pick_tt), by kernel_rfl⟩
theorem keep_Pick_p1_congr {R : Type} (n : Nat) (a0 : Int) (a1 : Int) {k0 kk0 : Int → Option R} (hq0 : ∀ x0, k0 x0 = kk0 x0) : keep_Pick_p1 n a0 a1 k0 = keep_Pick_p1 n a0 a1 kk0 := by
  obtain rfl : k0 = kk0 := funext fun x0 => hq0 x0
  rfl
theorem keep_Pick_p1_eq {R : Type} (n : Nat) (a0 : Int) (a1 : Int) (k : Exit → St → Option R) : vexec (keep_Pick_C n) n keep_Pick_c0 ⟨11, [(0, .d (D.int .i64 a0)), (1, .d (D.int .i64 a1))], []⟩ k = keep_Pick_p1 n a0 a1 (fun z2 => k .ret ⟨11, [(4, .d (D.int .i64 z2))], []⟩) := by kernel_rfl
theorem keep_Pick_vfn {R : Type} (n : Nat) (a0 : Int) (a1 : Int) (K : AV → Option R) : vfn (keep_Pick_C n) n Try.f11 [.d (D.int .i64 a0), .d (D.int .i64 a1)] [] (retF [[0]] K) = keep_Pick n a0 a1 (fun r0 => K (.d (D.int .i64 r0))) :=
  (show vfn (keep_Pick_C n) n Try.f11 [.d (D.int .i64 a0), .d (D.int .i64 a1)] [] (retF [[0]] K) = vexec (keep_Pick_C n) n keep_Pick_c0 ⟨11, [(0, .d (D.int .i64 a0)), (1, .d (D.int .i64 a1))], []⟩ (retX keep_Pick_tt [.tmp 4] (retF [[0]] K)) from vfn_at (by kernel_rfl) (by kernel_rfl) rfl (by kernel_rfl) rfl (by kernel_rfl) rfl).trans ((keep_Pick_p1_eq n a0 a1 (retX keep_Pick_tt [.tmp 4] (retF [[0]] K))).trans (by kernel_rfl))
def keep_Pick_K : AV → Option (Int) := fun av => match av with
  | .d (D.int .i64 r0) => some r0
  | _ => none
def keep_Pick_e (n : Nat) : Entry := fun _ _ g avs _ k => match avs with
  | [c0, c1] => prI g .i64 c0 fun a0 => prI g .i64 c1 fun a1 => 
    gb g (keep_Pick n a0 a1 some) 0 fun r => k ⟨.d (D.int .i64 r), [], []⟩
  | _ => none
theorem keep_Pick_ok (n : Nat) : EntryOK Try.prog 11 (keep_Pick_e n) := by
  intro R site g avs hl k r h
  unfold keep_Pick_e at h
  split at h
  rotate_left
  · cases h
  replace h := prI_some h
  obtain ⟨a0, h, le0⟩ := h
  replace h := prI_some h
  obtain ⟨a1, h, le1⟩ := h
  replace h := gb_some h
  obtain ⟨res, h, hr⟩ := h
  refine ⟨_, h, fun hg => CallOK.conv (avs' := [.d (D.int .i64 a0), .d (D.int .i64 a1)]) (.cons (le0 hg) (.cons (le1 hg) (.nil))) (callOK_fix (K := keep_Pick_K) (res := res) (keep_Pick_VC n) (fn := Try.f11) (n := n) (by kernel_rfl) (by kernel_rfl) (by kernel_rfl) (ss := [[0]]) rfl ?_ ?_)⟩
  · exact (keep_Pick_vfn n a0 a1 keep_Pick_K).trans (hr hg)
  · intro x hx
    unfold keep_Pick_K at hx
    split at hx
    · injection hx with hx; subst hx; rfl
    · cases hx
end Go.Vx
/-
  keep_Source_Next: the interpreter computes the pure function
-/
set_option linter.unusedVariables false
set_option linter.unusedSimpArgs false
set_option maxRecDepth 100000
namespace Go.Vx
open Go.Proofs
noncomputable def keep_Source_Next_c0 : Code := bodyOf Try.f23
def keep_Source_Next_tt : TT := [(3, ⟨.int .i64, 1, 8, [.int .i64 0], [.int .i64 0], [], none⟩), (22, ⟨.sl 3 1, 1, 24, [.slice none 0 0], [.sl 1 []], [], none⟩), (60, ⟨.struct, 2, 32, [.slice none 0 0, .int .i64 0], [.sl 1 [], .int .i64 0], [(0, 22), (1, 3)], none⟩)]
theorem keep_Source_Next_tt_eq : mkTT Try.prog [3, 22, 60] = keep_Source_Next_tt := by kernel_rfl
def keep_Source_Next_cfg : List (Nat × Cfg) := [(0, ⟨[0, 1], [(1000000, 1000000)], [], [], []⟩), (1, ⟨[0, 1, 14], [(1000000, 1000000)], [], [], []⟩), (2, ⟨[4], [(1000000, 1000000)], [], [], []⟩), (3, ⟨[0, 1], [(1000000, 1000000)], [], [], []⟩), (4, ⟨[4], [(1000000, 1000000)], [], [], []⟩)]
def keep_Source_Next_C (n : Nat) : VC := ⟨specOf [(11, keep_Pick_e n)], keep_Source_Next_tt, keep_Source_Next_cfg⟩
theorem keep_Source_Next_ents (n : Nat) : EntsOK Try.prog [(11, keep_Pick_e n)] := ⟨keep_Pick_ok n, trivial⟩
theorem keep_Source_Next_VC (n : Nat) : VCOk Try.prog (keep_Source_Next_C n) := ⟨specOf_ok (keep_Source_Next_ents n), (keep_Source_Next_tt_eq ▸ mkTT_ok _ : TOk Try.prog keep_Source_Next_tt), by kernel_rfl⟩
theorem keep_Source_Next_p1_congr {R : Type} (n : Nat) (a1 : Int) (a0_0 : List (List D)) (a0_1 : Int) {k0 kk0 : Int → Int → Option R} (hq0 : ∀ x0 x1, k0 x0 x1 = kk0 x0 x1) : keep_Source_Next_p1 n a1 a0_0 a0_1 k0 = keep_Source_Next_p1 n a1 a0_0 a0_1 kk0 := by
  obtain rfl : k0 = kk0 := funext fun x0 => funext fun x1 => hq0 x0 x1
  rfl
theorem keep_Source_Next_p1_eq {R : Type} (n : Nat) (a1 : Int) (a0_0 : List (List D)) (a0_1 : Int) (k : Exit → St → Option R) : vexec (keep_Source_Next_C n) n keep_Source_Next_c0 ⟨35, [(0, .ptr 1000000 0), (1, .d (D.int .i64 a1))], [(1000000, .box [.d (D.sl 1 a0_0), .d (D.int .i64 a0_1)])]⟩ k = keep_Source_Next_p1 n a1 a0_0 a0_1 (fun z5 z6 => k .ret ⟨35, [(4, .d (D.int .i64 z5))], [(1000000, .box [.d (D.sl 1 a0_0), .d (D.int .i64 z6)])]⟩) := by kernel_rfl
def keep_Source_Next_Ko : AV → List (Nat × Ob) → Option (Int × (List (List D)) × Int) := fun av H => (look H 1000000).bind fun o0 => match av, o0 with
  | .d (D.int .i64 r0), .box [.d (D.sl 1 r1), .d (D.int .i64 r2)] => some (r0, r1, r2)
  | _, _ => none
theorem keep_Source_Next_vfo (n : Nat) (a0_0 : List (List D)) (a0_1 : Int) (a1 : Int) : vfn (keep_Source_Next_C n) n Try.f23 [.ptr 1000000 0, .d (D.int .i64 a1)] [(1000000, .box [.d (D.sl 1 a0_0), .d (D.int .i64 a0_1)])] keep_Source_Next_Ko = keep_Source_Next n a0_0 a0_1 a1 (fun r0 r1 r2 => some (r0, r1, r2)) :=
  (show vfn (keep_Source_Next_C n) n Try.f23 [.ptr 1000000 0, .d (D.int .i64 a1)] [(1000000, .box [.d (D.sl 1 a0_0), .d (D.int .i64 a0_1)])] keep_Source_Next_Ko = vexec (keep_Source_Next_C n) n keep_Source_Next_c0 ⟨35, [(0, .ptr 1000000 0), (1, .d (D.int .i64 a1))], [(1000000, .box [.d (D.sl 1 a0_0), .d (D.int .i64 a0_1)])]⟩ (retX keep_Source_Next_tt [.tmp 4] keep_Source_Next_Ko) from vfn_at (by kernel_rfl) (by kernel_rfl) rfl (by kernel_rfl) rfl (by kernel_rfl) rfl).trans ((keep_Source_Next_p1_eq n a1 a0_0 a0_1 (retX keep_Source_Next_tt [.tmp 4] keep_Source_Next_Ko)).trans (by kernel_rfl))
def keep_Source_Next_o (n : Nat) : Entry := fun _ site g avs hl k => match avs with
  | [c0, c1] => 
    prP hl c0 fun l0 b0 => (match b0 with
    | [c0_0, c0_1] => prS g 1 c0_0 fun a0_0 => prI g .i64 c0_1 fun a0_1 => prI g .i64 c1 fun a1 => 
    bif newsOk hl [(1000000, l0)] [] then gb g (keep_Source_Next n a0_0 a0_1 a1 (fun r0 r1 r2 => some (r0, r1, r2))) (0, [], 0) fun r => k ⟨.d (D.int .i64 r.1), [(l0, some (.box [.d (D.sl 1 r.2.1), .d (D.int .i64 r.2.2)]))], [l0]⟩ else none
    | _ => none)
  | _ => none
theorem keep_Source_Next_oo (n : Nat) : EntryOK Try.prog 23 (keep_Source_Next_o n) := by
  intro R site g avs hl k r h
  unfold keep_Source_Next_o at h
  split at h
  rotate_left
  · cases h
  replace h := prP_some h
  obtain ⟨l0, b0, h, e0, hb0⟩ := h
  subst e0
  split at h
  rotate_left
  · cases h
  replace h := prS_some h
  obtain ⟨a0_0, h, le0⟩ := h
  replace h := prI_some h
  obtain ⟨a0_1, h, le1⟩ := h
  replace h := prI_some h
  obtain ⟨a1, h, le2⟩ := h
  replace h := bif_some h
  obtain ⟨hc, h⟩ := h
  replace h := gb_some h
  obtain ⟨res, h, hr⟩ := h
  refine ⟨_, h, fun hg => CallOK.conv (avs' := [.ptr l0 0, .d (D.int .i64 a1)]) (.cons (.refl _) (.cons (le2 hg) (.nil))) (callOK_own (K := keep_Source_Next_Ko) (res := res) (keep_Source_Next_VC n) (fn := Try.f23) (n := n) (by kernel_rfl) (by kernel_rfl) (by kernel_rfl) (ρ := [(1000000, l0)]) (ν := []) (avs' := [.ptr 1000000 0, .d (D.int .i64 a1)]) (H := [(1000000, .box [.d (D.sl 1 a0_0), .d (D.int .i64 a0_1)])]) rfl rfl rfl rfl hc (⟨⟨by decide, _, _, hb0, rfl, .cons (le0 hg) (.cons (le1 hg) (.nil)), rfl⟩, trivial⟩) rfl rfl ?_ ?_)⟩
  · exact (keep_Source_Next_vfo n a0_0 a0_1 a1).trans (hr hg)
  · intro av H' hx
    unfold keep_Source_Next_Ko at hx
    replace hx := Option.bind_eq_some_iff.1 hx
    obtain ⟨o0, ho0, hx⟩ := hx
    split at hx
    rotate_left
    · cases hx
    injection hx with hx
    subst hx
    refine ⟨rfl, ?_, ⟨by rw [ho0]; rfl, trivial⟩, ⟨⟨_, _, rfl, ho0, rfl⟩, trivial⟩⟩
    simp only [List.cons_append, List.nil_append, outWr, ho0, Option.map_some]
    rfl
end Go.Vx
/-
  keep_Network: the interpreter computes the pure function
-/
set_option linter.unusedVariables false
set_option linter.unusedSimpArgs false
set_option maxRecDepth 100000
namespace Go.Vx
open Go.Proofs
noncomputable def keep_Network_c0 : Code := bodyOf Try.f9
noncomputable def keep_Network_c1 : Code := cL (bodyOf Try.f9)
noncomputable def keep_Network_c2 : Code := cL (cR (bodyOf Try.f9))
noncomputable def keep_Network_c3 : Code := cL (cR (cR (bodyOf Try.f9)))
noncomputable def keep_Network_c4 : Code := cL (cL (cR (cR (cR (bodyOf Try.f9)))))
noncomputable def keep_Network_c5 : Code := cB (cB (cR (cL (cR (cR (cR (bodyOf Try.f9)))))))
noncomputable def keep_Network_c6 : Code := cB (cR (cL (cR (cR (cR (bodyOf Try.f9))))))
noncomputable def keep_Network_c7 : Code := cR (cL (cR (cR (cR (bodyOf Try.f9)))))
noncomputable def keep_Network_c8 : Code := cL (cR (cR (cR (bodyOf Try.f9))))
noncomputable def keep_Network_c9 : Code := cL (cR (cR (cR (cR (bodyOf Try.f9)))))
noncomputable def keep_Network_c10 : Code := cL (cL (cR (cR (cR (cR (cR (bodyOf Try.f9)))))))
noncomputable def keep_Network_c11 : Code := cB (cB (cR (cL (cR (cR (cR (cR (cR (bodyOf Try.f9)))))))))
noncomputable def keep_Network_c12 : Code := cB (cR (cL (cR (cR (cR (cR (cR (bodyOf Try.f9))))))))
noncomputable def keep_Network_c13 : Code := cR (cL (cR (cR (cR (cR (cR (bodyOf Try.f9)))))))
noncomputable def keep_Network_c14 : Code := cL (cR (cR (cR (cR (cR (bodyOf Try.f9))))))
noncomputable def keep_Network_c15 : Code := cR (cR (cR (cR (cR (cR (bodyOf Try.f9))))))
noncomputable def keep_Network_c16 : Code := cR (cR (cR (cR (cR (bodyOf Try.f9)))))
noncomputable def keep_Network_c17 : Code := cR (cR (cR (cR (bodyOf Try.f9))))
noncomputable def keep_Network_c18 : Code := cR (cR (cR (bodyOf Try.f9)))
noncomputable def keep_Network_c19 : Code := cR (cR (bodyOf Try.f9))
noncomputable def keep_Network_c20 : Code := cR (bodyOf Try.f9)
theorem keep_Network_c6_eq : keep_Network_c6 = .loop keep_Network_c5 := by kernel_rfl
theorem keep_Network_c7_eq : keep_Network_c7 = .block 0 keep_Network_c6 := by kernel_rfl
theorem keep_Network_c8_eq : keep_Network_c8 = .seq keep_Network_c4 keep_Network_c7 := by kernel_rfl
theorem keep_Network_c12_eq : keep_Network_c12 = .loop keep_Network_c11 := by kernel_rfl
theorem keep_Network_c13_eq : keep_Network_c13 = .block 2 keep_Network_c12 := by kernel_rfl
theorem keep_Network_c14_eq : keep_Network_c14 = .seq keep_Network_c10 keep_Network_c13 := by kernel_rfl
theorem keep_Network_c16_eq : keep_Network_c16 = .seq keep_Network_c14 keep_Network_c15 := by kernel_rfl
theorem keep_Network_c17_eq : keep_Network_c17 = .seq keep_Network_c9 keep_Network_c16 := by kernel_rfl
theorem keep_Network_c18_eq : keep_Network_c18 = .seq keep_Network_c8 keep_Network_c17 := by kernel_rfl
theorem keep_Network_c19_eq : keep_Network_c19 = .seq keep_Network_c3 keep_Network_c18 := by kernel_rfl
theorem keep_Network_c20_eq : keep_Network_c20 = .seq keep_Network_c2 keep_Network_c19 := by kernel_rfl
theorem keep_Network_c0_eq : keep_Network_c0 = .seq keep_Network_c1 keep_Network_c20 := by kernel_rfl
def keep_Network_tt : TT := [(3, ⟨.int .i64, 1, 8, [.int .i64 0], [.int .i64 0], [], none⟩), (23, ⟨.sl 46 3, 1, 24, [.slice none 0 0], [.sl 3 []], [], none⟩), (24, ⟨.sl 31 6, 1, 24, [.slice none 0 0], [.sl 6 []], [], none⟩), (26, ⟨.struct, 3, 56, [.int .i64 0, .slice none 0 0, .slice none 0 0], [.int .i64 0, .sl 3 [], .sl 6 []], [(0, 3), (1, 23), (2, 24)], none⟩), (31, ⟨.struct, 6, 48, [.int .i64 0, .int .i64 0, .int .i64 0, .int .i64 0, .int .i64 0, .int .i64 0], [.int .i64 0, .int .i64 0, .int .i64 0, .int .i64 0, .int .i64 0, .int .i64 0], [(0, 3), (1, 3), (2, 3), (3, 3), (4, 3), (5, 3)], some [.int .i64, .int .i64, .int .i64, .int .i64, .int .i64, .int .i64]⟩), (46, ⟨.struct, 3, 24, [.int .i64 0, .int .i64 0, .int .i64 0], [.int .i64 0, .int .i64 0, .int .i64 0], [(0, 3), (1, 3), (2, 3)], some [.int .i64, .int .i64, .int .i64]⟩)]
theorem keep_Network_tt_eq : mkTT Try.prog [3, 23, 24, 26, 31, 46] = keep_Network_tt := by kernel_rfl
def keep_Network_cfg : List (Nat × Cfg) := [(0, ⟨[0, 2], [(2, 2)], [], [], []⟩), (1, ⟨[2, 3], [(2, 2), (100010, 100010)], [], [], []⟩), (2, ⟨[2, 3, 4], [(2, 2), (4, 4), (100010, 100010)], [], [], []⟩), (3, ⟨[2, 3, 4, 5], [(2, 2), (4, 4), (100010, 100010)], [], [(4, 1, 1041, 46, 3)], []⟩), (4, ⟨[2, 3, 4, 5, 19], [(2, 2), (4, 4), (1041, 1041), (100010, 100010)], [], [], []⟩), (5, ⟨[2, 3, 4, 5], [(1041, 1041), (4, 4), (2, 2), (100010, 100010)], [], [], []⟩), (6, ⟨[2, 3, 4, 5], [(2, 2), (4, 4), (33, 1041), (100010, 100010)], [], [], []⟩), (7, ⟨[2, 3, 4, 6], [(2, 2), (4, 4), (1041, 1041), (100010, 100010)], [], [], []⟩), (8, ⟨[2, 3, 4, 6, 7], [(2, 2), (4, 4), (1041, 1041), (100010, 100010)], [], [(4, 2, 1042, 31, 6)], []⟩), (9, ⟨[2, 3, 4, 6, 7, 45], [(2, 2), (4, 4), (1041, 1041), (1042, 1042), (100010, 100010)], [], [], []⟩), (10, ⟨[2, 3, 4, 6, 7], [(1042, 1042), (4, 4), (2, 2), (1041, 1041), (100010, 100010)], [], [], []⟩), (11, ⟨[2, 3, 4, 6, 7, 8], [(2, 2), (4, 4), (8, 8), (1041, 1041), (1042, 1042), (100010, 100010)], [], [], []⟩), (12, ⟨[2, 3, 4, 6, 7, 8], [(2, 2), (4, 4), (8, 8), (1041, 1041), (1042, 1042), (100010, 100010)], [], [], []⟩), (13, ⟨[2, 3, 4, 6, 7, 8], [(2, 2), (4, 4), (8, 8), (1041, 1041), (1042, 1042), (100010, 100010)], [], [], []⟩), (14, ⟨[2, 3, 4, 6, 7, 8], [(2, 2), (4, 4), (8, 8), (1041, 1041), (1042, 1042), (100010, 100010)], [], [], []⟩), (15, ⟨[2, 3, 4, 6, 7], [(2, 2), (4, 4), (89, 1042), (1041, 1041), (100010, 100010)], [], [], []⟩), (16, ⟨[2], [(2, 2), (1041, 1041), (1042, 1042)], [], [], []⟩)]
def keep_Network_C (n : Nat) : VC := ⟨specOf [(22, keep_From_o n), (23, keep_Source_Next_o n)], keep_Network_tt, keep_Network_cfg⟩
theorem keep_Network_ents (n : Nat) : EntsOK Try.prog [(22, keep_From_o n), (23, keep_Source_Next_o n)] := ⟨keep_From_oo n, ⟨keep_Source_Next_oo n, trivial⟩⟩
theorem keep_Network_VC (n : Nat) : VCOk Try.prog (keep_Network_C n) := ⟨specOf_ok (keep_Network_ents n), (keep_Network_tt_eq ▸ mkTT_ok _ : TOk Try.prog keep_Network_tt), by kernel_rfl⟩
theorem keep_Network_p1_congr {R : Type} (n : Nat) (a0 : List (List D)) {k0 kk0 : Option R} (hq0 : k0 = kk0) : keep_Network_p1 n a0 k0 = keep_Network_p1 n a0 kk0 := by
  obtain rfl : k0 = kk0 := hq0
  rfl
theorem keep_Network_p2_congr {R : Type} (n : Nat) (a0 : List (List D)) {k0 kk0 : (List (List D)) → Int → Option R} (hq0 : ∀ x0 x1, k0 x0 x1 = kk0 x0 x1) : keep_Network_p2 n a0 k0 = keep_Network_p2 n a0 kk0 := by
  obtain rfl : k0 = kk0 := funext fun x0 => funext fun x1 => hq0 x0 x1
  rfl
theorem keep_Network_p3_congr {R : Type} (n : Nat) (w4 : List (List D)) (w5 : Int) {k0 kk0 : Int → (List (List D)) → Int → Option R} (hq0 : ∀ x0 x1 x2, k0 x0 x1 x2 = kk0 x0 x1 x2) : keep_Network_p3 n w4 w5 k0 = keep_Network_p3 n w4 w5 kk0 := by
  obtain rfl : k0 = kk0 := funext fun x0 => funext fun x1 => funext fun x2 => hq0 x0 x1 x2
  rfl
theorem keep_Network_p4_congr {R : Type} (n : Nat) (w10 : Int) (w11 : List (List D)) (w12 : Int) {k0 kk0 : Int → (List (List D)) → Int → Option R} (hq0 : ∀ x0 x1 x2, k0 x0 x1 x2 = kk0 x0 x1 x2) : keep_Network_p4 n w10 w11 w12 k0 = keep_Network_p4 n w10 w11 w12 kk0 := by
  obtain rfl : k0 = kk0 := funext fun x0 => funext fun x1 => funext fun x2 => hq0 x0 x1 x2
  rfl
theorem keep_Network_p5_congr {R : Type} (n : Nat) (h20 : Int) (h21 : List (List D)) (w10 : Int) (h24 : List (List D)) (h25 : Int) {k0 kk0 : Int → (List (List D)) → (List (List D)) → Int → Option R} {k1 kk1 : Bool → Option R} (hq0 : ∀ x0 x1 x2 x3, k0 x0 x1 x2 x3 = kk0 x0 x1 x2 x3) (hq1 : ∀ x0, k1 x0 = kk1 x0) : keep_Network_p5 n h20 h21 w10 h24 h25 k0 k1 = keep_Network_p5 n h20 h21 w10 h24 h25 kk0 kk1 := by
  obtain rfl : k0 = kk0 := funext fun x0 => funext fun x1 => funext fun x2 => funext fun x3 => hq0 x0 x1 x2 x3
  obtain rfl : k1 = kk1 := funext fun x0 => hq1 x0
  rfl
theorem keep_Network_p6_congr {R : Type} (n : Nat) (w17 : Int) (w10 : Int) (w18 : List (List D)) (w19 : Int) {k0 kk0 : Int → Bool → (List (List D)) → (List (List D)) → Int → Option R} (hq0 : ∀ x0 x1 x2 x3 x4, k0 x0 x1 x2 x3 x4 = kk0 x0 x1 x2 x3 x4) : keep_Network_p6 n w17 w10 w18 w19 k0 = keep_Network_p6 n w17 w10 w18 w19 kk0 := by
  obtain rfl : k0 = kk0 := funext fun x0 => funext fun x1 => funext fun x2 => funext fun x3 => funext fun x4 => hq0 x0 x1 x2 x3 x4
  rfl
theorem keep_Network_p7_congr {R : Type} (n : Nat) (w17 : Int) (w10 : Int) (w18 : List (List D)) (w19 : Int) {k0 kk0 : Int → Bool → (List (List D)) → (List (List D)) → Int → Option R} (hq0 : ∀ x0 x1 x2 x3 x4, k0 x0 x1 x2 x3 x4 = kk0 x0 x1 x2 x3 x4) : keep_Network_p7 n w17 w10 w18 w19 k0 = keep_Network_p7 n w17 w10 w18 w19 kk0 := by
  obtain rfl : k0 = kk0 := funext fun x0 => funext fun x1 => funext fun x2 => funext fun x3 => funext fun x4 => hq0 x0 x1 x2 x3 x4
  rfl
theorem keep_Network_p8_congr {R : Type} (n : Nat) (w10 : Int) (w11 : List (List D)) (w12 : Int) {k0 kk0 : Int → Bool → (List (List D)) → (List (List D)) → Int → Option R} (hq0 : ∀ x0 x1 x2 x3 x4, k0 x0 x1 x2 x3 x4 = kk0 x0 x1 x2 x3 x4) : keep_Network_p8 n w10 w11 w12 k0 = keep_Network_p8 n w10 w11 w12 kk0 := by
  obtain rfl : k0 = kk0 := funext fun x0 => funext fun x1 => funext fun x2 => funext fun x3 => funext fun x4 => hq0 x0 x1 x2 x3 x4
  rfl
theorem keep_Network_p9_congr {R : Type} (n : Nat) (w59 : Int) (w60 : Bool) (w10 : Int) (w61 : List (List D)) (w62 : List (List D)) (w63 : Int) {k0 kk0 : Int → Option R} (hq0 : ∀ x0, k0 x0 = kk0 x0) : keep_Network_p9 n w59 w60 w10 w61 w62 w63 k0 = keep_Network_p9 n w59 w60 w10 w61 w62 w63 kk0 := by
  obtain rfl : k0 = kk0 := funext fun x0 => hq0 x0
  rfl
theorem keep_Network_p10_congr {R : Type} (n : Nat) (w65 : Int) (w10 : Int) (w61 : List (List D)) (w62 : List (List D)) (w63 : Int) {k0 kk0 : Int → (List (List D)) → Int → Option R} (hq0 : ∀ x0 x1 x2, k0 x0 x1 x2 = kk0 x0 x1 x2) : keep_Network_p10 n w65 w10 w61 w62 w63 k0 = keep_Network_p10 n w65 w10 w61 w62 w63 kk0 := by
  obtain rfl : k0 = kk0 := funext fun x0 => funext fun x1 => funext fun x2 => hq0 x0 x1 x2
  rfl
theorem keep_Network_p11_congr {R : Type} (n : Nat) (w65 : Int) (h74 : Int) (h75 : List (List D)) (w10 : Int) (w61 : List (List D)) (h79 : List (List D)) (h80 : Int) {k0 kk0 : Int → (List (List D)) → (List (List D)) → Int → Option R} {k1 kk1 : Bool → Option R} (hq0 : ∀ x0 x1 x2 x3, k0 x0 x1 x2 x3 = kk0 x0 x1 x2 x3) (hq1 : ∀ x0, k1 x0 = kk1 x0) : keep_Network_p11 n w65 h74 h75 w10 w61 h79 h80 k0 k1 = keep_Network_p11 n w65 h74 h75 w10 w61 h79 h80 kk0 kk1 := by
  obtain rfl : k0 = kk0 := funext fun x0 => funext fun x1 => funext fun x2 => funext fun x3 => hq0 x0 x1 x2 x3
  obtain rfl : k1 = kk1 := funext fun x0 => hq1 x0
  rfl
theorem keep_Network_p12_congr {R : Type} (n : Nat) (w65 : Int) (w70 : Int) (w10 : Int) (w61 : List (List D)) (w71 : List (List D)) (w72 : Int) {k0 kk0 : Int → Bool → (List (List D)) → (List (List D)) → Int → Option R} (hq0 : ∀ x0 x1 x2 x3 x4, k0 x0 x1 x2 x3 x4 = kk0 x0 x1 x2 x3 x4) : keep_Network_p12 n w65 w70 w10 w61 w71 w72 k0 = keep_Network_p12 n w65 w70 w10 w61 w71 w72 kk0 := by
  obtain rfl : k0 = kk0 := funext fun x0 => funext fun x1 => funext fun x2 => funext fun x3 => funext fun x4 => hq0 x0 x1 x2 x3 x4
  rfl
theorem keep_Network_p13_congr {R : Type} (n : Nat) (w65 : Int) (w70 : Int) (w10 : Int) (w61 : List (List D)) (w71 : List (List D)) (w72 : Int) {k0 kk0 : Int → Bool → (List (List D)) → (List (List D)) → Int → Option R} (hq0 : ∀ x0 x1 x2 x3 x4, k0 x0 x1 x2 x3 x4 = kk0 x0 x1 x2 x3 x4) : keep_Network_p13 n w65 w70 w10 w61 w71 w72 k0 = keep_Network_p13 n w65 w70 w10 w61 w71 w72 kk0 := by
  obtain rfl : k0 = kk0 := funext fun x0 => funext fun x1 => funext fun x2 => funext fun x3 => funext fun x4 => hq0 x0 x1 x2 x3 x4
  rfl
theorem keep_Network_p14_congr {R : Type} (n : Nat) (w65 : Int) (w10 : Int) (w61 : List (List D)) (w62 : List (List D)) (w63 : Int) {k0 kk0 : Int → Bool → (List (List D)) → (List (List D)) → Int → Option R} (hq0 : ∀ x0 x1 x2 x3 x4, k0 x0 x1 x2 x3 x4 = kk0 x0 x1 x2 x3 x4) : keep_Network_p14 n w65 w10 w61 w62 w63 k0 = keep_Network_p14 n w65 w10 w61 w62 w63 kk0 := by
  obtain rfl : k0 = kk0 := funext fun x0 => funext fun x1 => funext fun x2 => funext fun x3 => funext fun x4 => hq0 x0 x1 x2 x3 x4
  rfl
theorem keep_Network_p15_congr {R : Type} (n : Nat) (w65 : Int) (w122 : Int) (w123 : Bool) (w10 : Int) (w61 : List (List D)) (w124 : List (List D)) (w125 : List (List D)) (w126 : Int) {k0 kk0 : Option R} (hq0 : k0 = kk0) : keep_Network_p15 n w65 w122 w123 w10 w61 w124 w125 w126 k0 = keep_Network_p15 n w65 w122 w123 w10 w61 w124 w125 w126 kk0 := by
  obtain rfl : k0 = kk0 := hq0
  rfl
theorem keep_Network_p16_congr {R : Type} (n : Nat) (w65 : Int) (w10 : Int) (w61 : List (List D)) (w62 : List (List D)) (w63 : Int) {k0 kk0 : (List (List D)) → Option R} (hq0 : ∀ x0, k0 x0 = kk0 x0) : keep_Network_p16 n w65 w10 w61 w62 w63 k0 = keep_Network_p16 n w65 w10 w61 w62 w63 kk0 := by
  obtain rfl : k0 = kk0 := funext fun x0 => hq0 x0
  rfl
theorem keep_Network_p17_congr {R : Type} (n : Nat) (w59 : Int) (w60 : Bool) (w10 : Int) (w61 : List (List D)) (w62 : List (List D)) (w63 : Int) {k0 kk0 : (List (List D)) → Option R} (hq0 : ∀ x0, k0 x0 = kk0 x0) : keep_Network_p17 n w59 w60 w10 w61 w62 w63 k0 = keep_Network_p17 n w59 w60 w10 w61 w62 w63 kk0 := by
  obtain rfl : k0 = kk0 := funext fun x0 => hq0 x0
  rfl
theorem keep_Network_p18_congr {R : Type} (n : Nat) (w10 : Int) (w11 : List (List D)) (w12 : Int) {k0 kk0 : (List (List D)) → (List (List D)) → Option R} (hq0 : ∀ x0 x1, k0 x0 x1 = kk0 x0 x1) : keep_Network_p18 n w10 w11 w12 k0 = keep_Network_p18 n w10 w11 w12 kk0 := by
  obtain rfl : k0 = kk0 := funext fun x0 => funext fun x1 => hq0 x0 x1
  rfl
theorem keep_Network_p19_congr {R : Type} (n : Nat) (w4 : List (List D)) (w5 : Int) {k0 kk0 : Int → (List (List D)) → (List (List D)) → Option R} (hq0 : ∀ x0 x1 x2, k0 x0 x1 x2 = kk0 x0 x1 x2) : keep_Network_p19 n w4 w5 k0 = keep_Network_p19 n w4 w5 kk0 := by
  obtain rfl : k0 = kk0 := funext fun x0 => funext fun x1 => funext fun x2 => hq0 x0 x1 x2
  rfl
theorem keep_Network_p20_congr {R : Type} (n : Nat) (a0 : List (List D)) {k0 kk0 : Int → (List (List D)) → (List (List D)) → Option R} (hq0 : ∀ x0 x1 x2, k0 x0 x1 x2 = kk0 x0 x1 x2) : keep_Network_p20 n a0 k0 = keep_Network_p20 n a0 kk0 := by
  obtain rfl : k0 = kk0 := funext fun x0 => funext fun x1 => funext fun x2 => hq0 x0 x1 x2
  rfl
theorem keep_Network_p21_congr {R : Type} (n : Nat) (a0 : List (List D)) {k0 kk0 : Int → (List (List D)) → (List (List D)) → Option R} (hq0 : ∀ x0 x1 x2, k0 x0 x1 x2 = kk0 x0 x1 x2) : keep_Network_p21 n a0 k0 = keep_Network_p21 n a0 kk0 := by
  obtain rfl : k0 = kk0 := funext fun x0 => funext fun x1 => funext fun x2 => hq0 x0 x1 x2
  rfl
theorem keep_Network_p1_eq {R : Type} (n : Nat) (a0 : List (List D)) (k : Exit → St → Option R) : vexec (keep_Network_C n) n keep_Network_c1 ⟨92, [(0, .d (D.sl 1 a0))], []⟩ k = keep_Network_p1 n a0 (k .normal ⟨92, [(0, .d (D.sl 1 a0)), (2, .ptr 2 0)], [(2, .box [.d (D.int .i64 (0 : Int)), .nil, .nil])]⟩) := by kernel_rfl
theorem keep_Network_p2_eq {R : Type} (n : Nat) (a0 : List (List D)) (k : Exit → St → Option R) : vexec (keep_Network_C n) n keep_Network_c2 ⟨92, [(0, .d (D.sl 1 a0)), (2, .ptr 2 0)], [(2, .box [.d (D.int .i64 (0 : Int)), .nil, .nil])]⟩ k = keep_Network_p2 n a0 (fun z2 z3 => k .normal ⟨92, [(2, .ptr 2 0), (3, .ptr 100010 0)], [(2, .box [.d (D.int .i64 (0 : Int)), .nil, .nil]), (100010, .box [.d (D.sl 1 z2), .d (D.int .i64 z3)])]⟩) := by kernel_rfl
theorem keep_Network_p3_eq {R : Type} (n : Nat) (w4 : List (List D)) (w5 : Int) (k : Exit → St → Option R) : vexec (keep_Network_C n) n keep_Network_c3 ⟨92, [(2, .ptr 2 0), (3, .ptr 100010 0)], [(2, .box [.d (D.int .i64 (0 : Int)), .nil, .nil]), (100010, .box [.d (D.sl 1 w4), .d (D.int .i64 w5)])]⟩ k = keep_Network_p3 n w4 w5 (fun z7 z8 z9 => k .normal ⟨92, [(2, .ptr 2 0), (3, .ptr 100010 0), (4, .ptr 4 0)], [(2, .box [.d (D.int .i64 (0 : Int)), .nil, .nil]), (4, .box [.d (D.int .i64 z7), .nil, .nil]), (100010, .box [.d (D.sl 1 z8), .d (D.int .i64 z9)])]⟩) := by kernel_rfl
theorem keep_Network_p4_eq {R : Type} (n : Nat) (w10 : Int) (w11 : List (List D)) (w12 : Int) (k : Exit → St → Option R) : vexec (keep_Network_C n) n keep_Network_c4 ⟨92, [(2, .ptr 2 0), (3, .ptr 100010 0), (4, .ptr 4 0)], [(2, .box [.d (D.int .i64 (0 : Int)), .nil, .nil]), (4, .box [.d (D.int .i64 w10), .nil, .nil]), (100010, .box [.d (D.sl 1 w11), .d (D.int .i64 w12)])]⟩ k = keep_Network_p4 n w10 w11 w12 (fun z14 z15 z16 => k .normal ⟨92, [(2, .ptr 2 0), (3, .ptr 100010 0), (4, .ptr 4 0), (5, .d (D.int .i64 z14))], [(1041, .arr 46 3 []), (4, .box [.d (D.int .i64 w10), .arr 1041, .nil]), (2, .box [.d (D.int .i64 (0 : Int)), .nil, .nil]), (100010, .box [.d (D.sl 1 z15), .d (D.int .i64 z16)])]⟩) := by kernel_rfl
theorem keep_Network_p5_eq {R : Type} (n : Nat) (h20 : Int) (h21 : List (List D)) (w10 : Int) (h24 : List (List D)) (h25 : Int) (k : Exit → St → Option R) : vexec (keep_Network_C n) n keep_Network_c5 ⟨92, [(2, .ptr 2 0), (3, .ptr 100010 0), (4, .ptr 4 0), (5, .d (D.int .i64 h20))], [(1041, .arr 46 3 h21), (4, .box [.d (D.int .i64 w10), .arr 1041, .nil]), (2, .box [.d (D.int .i64 (0 : Int)), .nil, .nil]), (100010, .box [.d (D.sl 1 h24), .d (D.int .i64 h25)])]⟩ k = keep_Network_p5 n h20 h21 w10 h24 h25 (fun z39 z40 z41 z42 => k .normal ⟨92, [(2, .ptr 2 0), (3, .ptr 100010 0), (4, .ptr 4 0), (5, .d (D.int .i64 z39))], [(1041, .arr 46 3 z40), (4, .box [.d (D.int .i64 w10), .arr 1041, .nil]), (2, .box [.d (D.int .i64 (0 : Int)), .nil, .nil]), (100010, .box [.d (D.sl 1 z41), .d (D.int .i64 z42)])]⟩) (fun z43 => k (.exit 0) ⟨92, [(2, .ptr 2 0), (3, .ptr 100010 0), (4, .ptr 4 0), (5, .d (D.int .i64 h20)), (19, .d (D.bool z43))], [(2, .box [.d (D.int .i64 (0 : Int)), .nil, .nil]), (4, .box [.d (D.int .i64 w10), .arr 1041, .nil]), (1041, .arr 46 3 h21), (100010, .box [.d (D.sl 1 h24), .d (D.int .i64 h25)])]⟩) := by kernel_rfl
theorem keep_Network_r6_eq {R : Type} (n : Nat) (w10 : Int) (k : Exit → St → Option R) : ∀ (m : Nat) (h20 : Int) (h21 : List (List D)) (h24 : List (List D)) (h25 : Int), loopN (vexec (keep_Network_C n) n keep_Network_c5) m ⟨92, [(2, .ptr 2 0), (3, .ptr 100010 0), (4, .ptr 4 0), (5, .d (D.int .i64 h20))], [(1041, .arr 46 3 h21), (4, .box [.d (D.int .i64 w10), .arr 1041, .nil]), (2, .box [.d (D.int .i64 (0 : Int)), .nil, .nil]), (100010, .box [.d (D.sl 1 h24), .d (D.int .i64 h25)])]⟩ k = keep_Network_r6 n w10 (fun h20 w48 h21 h24 h25 => k (.exit 0) ⟨92, [(2, .ptr 2 0), (3, .ptr 100010 0), (4, .ptr 4 0), (5, .d (D.int .i64 h20)), (19, .d (D.bool w48))], [(2, .box [.d (D.int .i64 (0 : Int)), .nil, .nil]), (4, .box [.d (D.int .i64 w10), .arr 1041, .nil]), (1041, .arr 46 3 h21), (100010, .box [.d (D.sl 1 h24), .d (D.int .i64 h25)])]⟩) m h20 h21 h24 h25
  | 0, _, _, _, _ => rfl
  | m + 1, h20, h21, h24, h25 => (keep_Network_p5_eq n h20 h21 w10 h24 h25 (loopK (vexec (keep_Network_C n) n keep_Network_c5) m k)).trans (keep_Network_p5_congr n h20 h21 w10 h24 h25 (fun w44 w45 w46 w47 => keep_Network_r6_eq n w10 k m w44 w45 w46 w47) (fun w48 => rfl))
theorem keep_Network_p6_eq {R : Type} (n : Nat) (w17 : Int) (w10 : Int) (w18 : List (List D)) (w19 : Int) (k : Exit → St → Option R) : vexec (keep_Network_C n) n keep_Network_c6 ⟨92, [(2, .ptr 2 0), (3, .ptr 100010 0), (4, .ptr 4 0), (5, .d (D.int .i64 w17))], [(1041, .arr 46 3 []), (4, .box [.d (D.int .i64 w10), .arr 1041, .nil]), (2, .box [.d (D.int .i64 (0 : Int)), .nil, .nil]), (100010, .box [.d (D.sl 1 w18), .d (D.int .i64 w19)])]⟩ k = keep_Network_p6 n w17 w10 w18 w19 (fun h20 w48 h21 h24 h25 => k (.exit 0) ⟨92, [(2, .ptr 2 0), (3, .ptr 100010 0), (4, .ptr 4 0), (5, .d (D.int .i64 h20)), (19, .d (D.bool w48))], [(2, .box [.d (D.int .i64 (0 : Int)), .nil, .nil]), (4, .box [.d (D.int .i64 w10), .arr 1041, .nil]), (1041, .arr 46 3 h21), (100010, .box [.d (D.sl 1 h24), .d (D.int .i64 h25)])]⟩) := by
  rw [keep_Network_c6_eq]
  exact keep_Network_r6_eq n w10 k n w17 [] w18 w19
theorem keep_Network_p7_eq {R : Type} (n : Nat) (w17 : Int) (w10 : Int) (w18 : List (List D)) (w19 : Int) (k : Exit → St → Option R) : vexec (keep_Network_C n) n keep_Network_c7 ⟨92, [(2, .ptr 2 0), (3, .ptr 100010 0), (4, .ptr 4 0), (5, .d (D.int .i64 w17))], [(1041, .arr 46 3 []), (4, .box [.d (D.int .i64 w10), .arr 1041, .nil]), (2, .box [.d (D.int .i64 (0 : Int)), .nil, .nil]), (100010, .box [.d (D.sl 1 w18), .d (D.int .i64 w19)])]⟩ k = keep_Network_p7 n w17 w10 w18 w19 (fun w49 w50 w51 w52 w53 => k .normal ⟨92, [(2, .ptr 2 0), (3, .ptr 100010 0), (4, .ptr 4 0), (5, .d (D.int .i64 w49)), (19, .d (D.bool w50))], [(2, .box [.d (D.int .i64 (0 : Int)), .nil, .nil]), (4, .box [.d (D.int .i64 w10), .arr 1041, .nil]), (1041, .arr 46 3 w51), (100010, .box [.d (D.sl 1 w52), .d (D.int .i64 w53)])]⟩) := by
  rw [keep_Network_c7_eq]
  unfold keep_Network_p7
  exact (keep_Network_p6_eq n w17 w10 w18 w19 (blockK 0 k)).trans (keep_Network_p6_congr n w17 w10 w18 w19 (fun w49 w50 w51 w52 w53 => rfl))
theorem keep_Network_p8_eq {R : Type} (n : Nat) (w10 : Int) (w11 : List (List D)) (w12 : Int) (k : Exit → St → Option R) : vexec (keep_Network_C n) n keep_Network_c8 ⟨92, [(2, .ptr 2 0), (3, .ptr 100010 0), (4, .ptr 4 0)], [(2, .box [.d (D.int .i64 (0 : Int)), .nil, .nil]), (4, .box [.d (D.int .i64 w10), .nil, .nil]), (100010, .box [.d (D.sl 1 w11), .d (D.int .i64 w12)])]⟩ k = keep_Network_p8 n w10 w11 w12 (fun w54 w55 w56 w57 w58 => k .normal ⟨92, [(2, .ptr 2 0), (3, .ptr 100010 0), (4, .ptr 4 0), (5, .d (D.int .i64 w54)), (19, .d (D.bool w55))], [(2, .box [.d (D.int .i64 (0 : Int)), .nil, .nil]), (4, .box [.d (D.int .i64 w10), .arr 1041, .nil]), (1041, .arr 46 3 w56), (100010, .box [.d (D.sl 1 w57), .d (D.int .i64 w58)])]⟩) := by
  rw [keep_Network_c8_eq]
  unfold keep_Network_p8
  exact (keep_Network_p4_eq n w10 w11 w12 (seqK (keep_Network_C n) n keep_Network_c7 k)).trans (keep_Network_p4_congr n w10 w11 w12 (fun w17 w18 w19 => keep_Network_p7_eq n w17 w10 w18 w19 k))
theorem keep_Network_p9_eq {R : Type} (n : Nat) (w59 : Int) (w60 : Bool) (w10 : Int) (w61 : List (List D)) (w62 : List (List D)) (w63 : Int) (k : Exit → St → Option R) : vexec (keep_Network_C n) n keep_Network_c9 ⟨92, [(2, .ptr 2 0), (3, .ptr 100010 0), (4, .ptr 4 0), (5, .d (D.int .i64 w59)), (19, .d (D.bool w60))], [(2, .box [.d (D.int .i64 (0 : Int)), .nil, .nil]), (4, .box [.d (D.int .i64 w10), .arr 1041, .nil]), (1041, .arr 46 3 w61), (100010, .box [.d (D.sl 1 w62), .d (D.int .i64 w63)])]⟩ k = keep_Network_p9 n w59 w60 w10 w61 w62 w63 (fun z64 => k .normal ⟨92, [(2, .ptr 2 0), (3, .ptr 100010 0), (4, .ptr 4 0), (6, .d (D.int .i64 z64))], [(2, .box [.d (D.int .i64 (0 : Int)), .nil, .nil]), (4, .box [.d (D.int .i64 w10), .arr 1041, .nil]), (1041, .arr 46 3 w61), (100010, .box [.d (D.sl 1 w62), .d (D.int .i64 w63)])]⟩) := by kernel_rfl
theorem keep_Network_p10_eq {R : Type} (n : Nat) (w65 : Int) (w10 : Int) (w61 : List (List D)) (w62 : List (List D)) (w63 : Int) (k : Exit → St → Option R) : vexec (keep_Network_C n) n keep_Network_c10 ⟨92, [(2, .ptr 2 0), (3, .ptr 100010 0), (4, .ptr 4 0), (6, .d (D.int .i64 w65))], [(2, .box [.d (D.int .i64 (0 : Int)), .nil, .nil]), (4, .box [.d (D.int .i64 w10), .arr 1041, .nil]), (1041, .arr 46 3 w61), (100010, .box [.d (D.sl 1 w62), .d (D.int .i64 w63)])]⟩ k = keep_Network_p10 n w65 w10 w61 w62 w63 (fun z67 z68 z69 => k .normal ⟨92, [(2, .ptr 2 0), (3, .ptr 100010 0), (4, .ptr 4 0), (6, .d (D.int .i64 w65)), (7, .d (D.int .i64 z67))], [(1042, .arr 31 6 []), (4, .box [.d (D.int .i64 w10), .arr 1041, .arr 1042]), (2, .box [.d (D.int .i64 (0 : Int)), .nil, .nil]), (1041, .arr 46 3 w61), (100010, .box [.d (D.sl 1 z68), .d (D.int .i64 z69)])]⟩) := by kernel_rfl
theorem keep_Network_p11_eq {R : Type} (n : Nat) (w65 : Int) (h74 : Int) (h75 : List (List D)) (w10 : Int) (w61 : List (List D)) (h79 : List (List D)) (h80 : Int) (k : Exit → St → Option R) : vexec (keep_Network_C n) n keep_Network_c11 ⟨92, [(2, .ptr 2 0), (3, .ptr 100010 0), (4, .ptr 4 0), (6, .d (D.int .i64 w65)), (7, .d (D.int .i64 h74))], [(1042, .arr 31 6 h75), (4, .box [.d (D.int .i64 w10), .arr 1041, .arr 1042]), (2, .box [.d (D.int .i64 (0 : Int)), .nil, .nil]), (1041, .arr 46 3 w61), (100010, .box [.d (D.sl 1 h79), .d (D.int .i64 h80)])]⟩ k = keep_Network_p11 n w65 h74 h75 w10 w61 h79 h80 (fun z102 z103 z104 z105 => k .normal ⟨92, [(2, .ptr 2 0), (3, .ptr 100010 0), (4, .ptr 4 0), (6, .d (D.int .i64 w65)), (7, .d (D.int .i64 z102))], [(1042, .arr 31 6 z103), (4, .box [.d (D.int .i64 w10), .arr 1041, .arr 1042]), (2, .box [.d (D.int .i64 (0 : Int)), .nil, .nil]), (1041, .arr 46 3 w61), (100010, .box [.d (D.sl 1 z104), .d (D.int .i64 z105)])]⟩) (fun z106 => k (.exit 2) ⟨92, [(2, .ptr 2 0), (3, .ptr 100010 0), (4, .ptr 4 0), (6, .d (D.int .i64 w65)), (7, .d (D.int .i64 h74)), (45, .d (D.bool z106))], [(2, .box [.d (D.int .i64 (0 : Int)), .nil, .nil]), (4, .box [.d (D.int .i64 w10), .arr 1041, .arr 1042]), (1041, .arr 46 3 w61), (1042, .arr 31 6 h75), (100010, .box [.d (D.sl 1 h79), .d (D.int .i64 h80)])]⟩) := by kernel_rfl
theorem keep_Network_r12_eq {R : Type} (n : Nat) (w65 : Int) (w10 : Int) (w61 : List (List D)) (k : Exit → St → Option R) : ∀ (m : Nat) (h74 : Int) (h75 : List (List D)) (h79 : List (List D)) (h80 : Int), loopN (vexec (keep_Network_C n) n keep_Network_c11) m ⟨92, [(2, .ptr 2 0), (3, .ptr 100010 0), (4, .ptr 4 0), (6, .d (D.int .i64 w65)), (7, .d (D.int .i64 h74))], [(1042, .arr 31 6 h75), (4, .box [.d (D.int .i64 w10), .arr 1041, .arr 1042]), (2, .box [.d (D.int .i64 (0 : Int)), .nil, .nil]), (1041, .arr 46 3 w61), (100010, .box [.d (D.sl 1 h79), .d (D.int .i64 h80)])]⟩ k = keep_Network_r12 n w65 w10 w61 (fun h74 w111 h75 h79 h80 => k (.exit 2) ⟨92, [(2, .ptr 2 0), (3, .ptr 100010 0), (4, .ptr 4 0), (6, .d (D.int .i64 w65)), (7, .d (D.int .i64 h74)), (45, .d (D.bool w111))], [(2, .box [.d (D.int .i64 (0 : Int)), .nil, .nil]), (4, .box [.d (D.int .i64 w10), .arr 1041, .arr 1042]), (1041, .arr 46 3 w61), (1042, .arr 31 6 h75), (100010, .box [.d (D.sl 1 h79), .d (D.int .i64 h80)])]⟩) m h74 h75 h79 h80
  | 0, _, _, _, _ => rfl
  | m + 1, h74, h75, h79, h80 => (keep_Network_p11_eq n w65 h74 h75 w10 w61 h79 h80 (loopK (vexec (keep_Network_C n) n keep_Network_c11) m k)).trans (keep_Network_p11_congr n w65 h74 h75 w10 w61 h79 h80 (fun w107 w108 w109 w110 => keep_Network_r12_eq n w65 w10 w61 k m w107 w108 w109 w110) (fun w111 => rfl))
theorem keep_Network_p12_eq {R : Type} (n : Nat) (w65 : Int) (w70 : Int) (w10 : Int) (w61 : List (List D)) (w71 : List (List D)) (w72 : Int) (k : Exit → St → Option R) : vexec (keep_Network_C n) n keep_Network_c12 ⟨92, [(2, .ptr 2 0), (3, .ptr 100010 0), (4, .ptr 4 0), (6, .d (D.int .i64 w65)), (7, .d (D.int .i64 w70))], [(1042, .arr 31 6 []), (4, .box [.d (D.int .i64 w10), .arr 1041, .arr 1042]), (2, .box [.d (D.int .i64 (0 : Int)), .nil, .nil]), (1041, .arr 46 3 w61), (100010, .box [.d (D.sl 1 w71), .d (D.int .i64 w72)])]⟩ k = keep_Network_p12 n w65 w70 w10 w61 w71 w72 (fun h74 w111 h75 h79 h80 => k (.exit 2) ⟨92, [(2, .ptr 2 0), (3, .ptr 100010 0), (4, .ptr 4 0), (6, .d (D.int .i64 w65)), (7, .d (D.int .i64 h74)), (45, .d (D.bool w111))], [(2, .box [.d (D.int .i64 (0 : Int)), .nil, .nil]), (4, .box [.d (D.int .i64 w10), .arr 1041, .arr 1042]), (1041, .arr 46 3 w61), (1042, .arr 31 6 h75), (100010, .box [.d (D.sl 1 h79), .d (D.int .i64 h80)])]⟩) := by
  rw [keep_Network_c12_eq]
  exact keep_Network_r12_eq n w65 w10 w61 k n w70 [] w71 w72
theorem keep_Network_p13_eq {R : Type} (n : Nat) (w65 : Int) (w70 : Int) (w10 : Int) (w61 : List (List D)) (w71 : List (List D)) (w72 : Int) (k : Exit → St → Option R) : vexec (keep_Network_C n) n keep_Network_c13 ⟨92, [(2, .ptr 2 0), (3, .ptr 100010 0), (4, .ptr 4 0), (6, .d (D.int .i64 w65)), (7, .d (D.int .i64 w70))], [(1042, .arr 31 6 []), (4, .box [.d (D.int .i64 w10), .arr 1041, .arr 1042]), (2, .box [.d (D.int .i64 (0 : Int)), .nil, .nil]), (1041, .arr 46 3 w61), (100010, .box [.d (D.sl 1 w71), .d (D.int .i64 w72)])]⟩ k = keep_Network_p13 n w65 w70 w10 w61 w71 w72 (fun w112 w113 w114 w115 w116 => k .normal ⟨92, [(2, .ptr 2 0), (3, .ptr 100010 0), (4, .ptr 4 0), (6, .d (D.int .i64 w65)), (7, .d (D.int .i64 w112)), (45, .d (D.bool w113))], [(2, .box [.d (D.int .i64 (0 : Int)), .nil, .nil]), (4, .box [.d (D.int .i64 w10), .arr 1041, .arr 1042]), (1041, .arr 46 3 w61), (1042, .arr 31 6 w114), (100010, .box [.d (D.sl 1 w115), .d (D.int .i64 w116)])]⟩) := by
  rw [keep_Network_c13_eq]
  unfold keep_Network_p13
  exact (keep_Network_p12_eq n w65 w70 w10 w61 w71 w72 (blockK 2 k)).trans (keep_Network_p12_congr n w65 w70 w10 w61 w71 w72 (fun w112 w113 w114 w115 w116 => rfl))
theorem keep_Network_p14_eq {R : Type} (n : Nat) (w65 : Int) (w10 : Int) (w61 : List (List D)) (w62 : List (List D)) (w63 : Int) (k : Exit → St → Option R) : vexec (keep_Network_C n) n keep_Network_c14 ⟨92, [(2, .ptr 2 0), (3, .ptr 100010 0), (4, .ptr 4 0), (6, .d (D.int .i64 w65))], [(2, .box [.d (D.int .i64 (0 : Int)), .nil, .nil]), (4, .box [.d (D.int .i64 w10), .arr 1041, .nil]), (1041, .arr 46 3 w61), (100010, .box [.d (D.sl 1 w62), .d (D.int .i64 w63)])]⟩ k = keep_Network_p14 n w65 w10 w61 w62 w63 (fun w117 w118 w119 w120 w121 => k .normal ⟨92, [(2, .ptr 2 0), (3, .ptr 100010 0), (4, .ptr 4 0), (6, .d (D.int .i64 w65)), (7, .d (D.int .i64 w117)), (45, .d (D.bool w118))], [(2, .box [.d (D.int .i64 (0 : Int)), .nil, .nil]), (4, .box [.d (D.int .i64 w10), .arr 1041, .arr 1042]), (1041, .arr 46 3 w61), (1042, .arr 31 6 w119), (100010, .box [.d (D.sl 1 w120), .d (D.int .i64 w121)])]⟩) := by
  rw [keep_Network_c14_eq]
  unfold keep_Network_p14
  exact (keep_Network_p10_eq n w65 w10 w61 w62 w63 (seqK (keep_Network_C n) n keep_Network_c13 k)).trans (keep_Network_p10_congr n w65 w10 w61 w62 w63 (fun w70 w71 w72 => keep_Network_p13_eq n w65 w70 w10 w61 w71 w72 k))
theorem keep_Network_p15_eq {R : Type} (n : Nat) (w65 : Int) (w122 : Int) (w123 : Bool) (w10 : Int) (w61 : List (List D)) (w124 : List (List D)) (w125 : List (List D)) (w126 : Int) (k : Exit → St → Option R) : vexec (keep_Network_C n) n keep_Network_c15 ⟨92, [(2, .ptr 2 0), (3, .ptr 100010 0), (4, .ptr 4 0), (6, .d (D.int .i64 w65)), (7, .d (D.int .i64 w122)), (45, .d (D.bool w123))], [(2, .box [.d (D.int .i64 (0 : Int)), .nil, .nil]), (4, .box [.d (D.int .i64 w10), .arr 1041, .arr 1042]), (1041, .arr 46 3 w61), (1042, .arr 31 6 w124), (100010, .box [.d (D.sl 1 w125), .d (D.int .i64 w126)])]⟩ k = keep_Network_p15 n w65 w122 w123 w10 w61 w124 w125 w126 (k .ret ⟨92, [(2, .ptr 2 0)], [(2, .box [.d (D.int .i64 w10), .arr 1041, .arr 1042]), (1041, .arr 46 3 w61), (1042, .arr 31 6 w124)]⟩) := by kernel_rfl
theorem keep_Network_p16_eq {R : Type} (n : Nat) (w65 : Int) (w10 : Int) (w61 : List (List D)) (w62 : List (List D)) (w63 : Int) (k : Exit → St → Option R) : vexec (keep_Network_C n) n keep_Network_c16 ⟨92, [(2, .ptr 2 0), (3, .ptr 100010 0), (4, .ptr 4 0), (6, .d (D.int .i64 w65))], [(2, .box [.d (D.int .i64 (0 : Int)), .nil, .nil]), (4, .box [.d (D.int .i64 w10), .arr 1041, .nil]), (1041, .arr 46 3 w61), (100010, .box [.d (D.sl 1 w62), .d (D.int .i64 w63)])]⟩ k = keep_Network_p16 n w65 w10 w61 w62 w63 (fun w124 => k .ret ⟨92, [(2, .ptr 2 0)], [(2, .box [.d (D.int .i64 w10), .arr 1041, .arr 1042]), (1041, .arr 46 3 w61), (1042, .arr 31 6 w124)]⟩) := by
  rw [keep_Network_c16_eq]
  unfold keep_Network_p16
  exact (keep_Network_p14_eq n w65 w10 w61 w62 w63 (seqK (keep_Network_C n) n keep_Network_c15 k)).trans (keep_Network_p14_congr n w65 w10 w61 w62 w63 (fun w122 w123 w124 w125 w126 => keep_Network_p15_eq n w65 w122 w123 w10 w61 w124 w125 w126 k))
theorem keep_Network_p17_eq {R : Type} (n : Nat) (w59 : Int) (w60 : Bool) (w10 : Int) (w61 : List (List D)) (w62 : List (List D)) (w63 : Int) (k : Exit → St → Option R) : vexec (keep_Network_C n) n keep_Network_c17 ⟨92, [(2, .ptr 2 0), (3, .ptr 100010 0), (4, .ptr 4 0), (5, .d (D.int .i64 w59)), (19, .d (D.bool w60))], [(2, .box [.d (D.int .i64 (0 : Int)), .nil, .nil]), (4, .box [.d (D.int .i64 w10), .arr 1041, .nil]), (1041, .arr 46 3 w61), (100010, .box [.d (D.sl 1 w62), .d (D.int .i64 w63)])]⟩ k = keep_Network_p17 n w59 w60 w10 w61 w62 w63 (fun w127 => k .ret ⟨92, [(2, .ptr 2 0)], [(2, .box [.d (D.int .i64 w10), .arr 1041, .arr 1042]), (1041, .arr 46 3 w61), (1042, .arr 31 6 w127)]⟩) := by
  rw [keep_Network_c17_eq]
  unfold keep_Network_p17
  exact (keep_Network_p9_eq n w59 w60 w10 w61 w62 w63 (seqK (keep_Network_C n) n keep_Network_c16 k)).trans (keep_Network_p9_congr n w59 w60 w10 w61 w62 w63 (fun w65 => keep_Network_p16_eq n w65 w10 w61 w62 w63 k))
theorem keep_Network_p18_eq {R : Type} (n : Nat) (w10 : Int) (w11 : List (List D)) (w12 : Int) (k : Exit → St → Option R) : vexec (keep_Network_C n) n keep_Network_c18 ⟨92, [(2, .ptr 2 0), (3, .ptr 100010 0), (4, .ptr 4 0)], [(2, .box [.d (D.int .i64 (0 : Int)), .nil, .nil]), (4, .box [.d (D.int .i64 w10), .nil, .nil]), (100010, .box [.d (D.sl 1 w11), .d (D.int .i64 w12)])]⟩ k = keep_Network_p18 n w10 w11 w12 (fun w61 w128 => k .ret ⟨92, [(2, .ptr 2 0)], [(2, .box [.d (D.int .i64 w10), .arr 1041, .arr 1042]), (1041, .arr 46 3 w61), (1042, .arr 31 6 w128)]⟩) := by
  rw [keep_Network_c18_eq]
  unfold keep_Network_p18
  exact (keep_Network_p8_eq n w10 w11 w12 (seqK (keep_Network_C n) n keep_Network_c17 k)).trans (keep_Network_p8_congr n w10 w11 w12 (fun w59 w60 w61 w62 w63 => keep_Network_p17_eq n w59 w60 w10 w61 w62 w63 k))
theorem keep_Network_p19_eq {R : Type} (n : Nat) (w4 : List (List D)) (w5 : Int) (k : Exit → St → Option R) : vexec (keep_Network_C n) n keep_Network_c19 ⟨92, [(2, .ptr 2 0), (3, .ptr 100010 0)], [(2, .box [.d (D.int .i64 (0 : Int)), .nil, .nil]), (100010, .box [.d (D.sl 1 w4), .d (D.int .i64 w5)])]⟩ k = keep_Network_p19 n w4 w5 (fun w10 w129 w130 => k .ret ⟨92, [(2, .ptr 2 0)], [(2, .box [.d (D.int .i64 w10), .arr 1041, .arr 1042]), (1041, .arr 46 3 w129), (1042, .arr 31 6 w130)]⟩) := by
  rw [keep_Network_c19_eq]
  unfold keep_Network_p19
  exact (keep_Network_p3_eq n w4 w5 (seqK (keep_Network_C n) n keep_Network_c18 k)).trans (keep_Network_p3_congr n w4 w5 (fun w10 w11 w12 => keep_Network_p18_eq n w10 w11 w12 k))
theorem keep_Network_p20_eq {R : Type} (n : Nat) (a0 : List (List D)) (k : Exit → St → Option R) : vexec (keep_Network_C n) n keep_Network_c20 ⟨92, [(0, .d (D.sl 1 a0)), (2, .ptr 2 0)], [(2, .box [.d (D.int .i64 (0 : Int)), .nil, .nil])]⟩ k = keep_Network_p20 n a0 (fun w131 w132 w133 => k .ret ⟨92, [(2, .ptr 2 0)], [(2, .box [.d (D.int .i64 w131), .arr 1041, .arr 1042]), (1041, .arr 46 3 w132), (1042, .arr 31 6 w133)]⟩) := by
  rw [keep_Network_c20_eq]
  unfold keep_Network_p20
  exact (keep_Network_p2_eq n a0 (seqK (keep_Network_C n) n keep_Network_c19 k)).trans (keep_Network_p2_congr n a0 (fun w4 w5 => keep_Network_p19_eq n w4 w5 k))
theorem keep_Network_p21_eq {R : Type} (n : Nat) (a0 : List (List D)) (k : Exit → St → Option R) : vexec (keep_Network_C n) n keep_Network_c0 ⟨92, [(0, .d (D.sl 1 a0))], []⟩ k = keep_Network_p21 n a0 (fun w134 w135 w136 => k .ret ⟨92, [(2, .ptr 2 0)], [(2, .box [.d (D.int .i64 w134), .arr 1041, .arr 1042]), (1041, .arr 46 3 w135), (1042, .arr 31 6 w136)]⟩) := by
  rw [keep_Network_c0_eq]
  unfold keep_Network_p21
  exact (keep_Network_p1_eq n a0 (seqK (keep_Network_C n) n keep_Network_c20 k)).trans (keep_Network_p1_congr n a0 (keep_Network_p20_eq n a0 k))
theorem keep_Network_vfn {R : Type} (n : Nat) (a0 : List (List D)) (K : AV → Option R) : vfn (keep_Network_C n) n Try.f9 [.d (D.sl 1 a0)] [] (retF [[0, 3, 6]] K) = keep_Network n a0 (fun r0 r1 r2 => K (.ag [.d (D.int .i64 r0), .d (D.sl 3 r1), .d (D.sl 6 r2)])) :=
  (show vfn (keep_Network_C n) n Try.f9 [.d (D.sl 1 a0)] [] (retF [[0, 3, 6]] K) = vexec (keep_Network_C n) n keep_Network_c0 ⟨92, [(0, .d (D.sl 1 a0))], []⟩ (retX keep_Network_tt [.cell 2 26] (retF [[0, 3, 6]] K)) from vfn_at (by kernel_rfl) (by kernel_rfl) rfl (by kernel_rfl) rfl (by kernel_rfl) rfl).trans ((keep_Network_p21_eq n a0 (retX keep_Network_tt [.cell 2 26] (retF [[0, 3, 6]] K))).trans (by kernel_rfl))
def keep_Network_K : AV → Option (Int × (List (List D)) × (List (List D))) := fun av => match av with
  | .ag [.d (D.int .i64 r0), .d (D.sl 3 r1), .d (D.sl 6 r2)] => some (r0, r1, r2)
  | _ => none
def keep_Network_e (n : Nat) : Entry := fun _ _ g avs _ k => match avs with
  | [c0] => prS g 1 c0 fun a0 => 
    gb g (keep_Network n a0 (fun r0 r1 r2 => some (r0, r1, r2))) (0, [], []) fun r => k ⟨.ag [.d (D.int .i64 r.1), .d (D.sl 3 r.2.1), .d (D.sl 6 r.2.2)], [], []⟩
  | _ => none
theorem keep_Network_ok (n : Nat) : EntryOK Try.prog 9 (keep_Network_e n) := by
  intro R site g avs hl k r h
  unfold keep_Network_e at h
  split at h
  rotate_left
  · cases h
  replace h := prS_some h
  obtain ⟨a0, h, le0⟩ := h
  replace h := gb_some h
  obtain ⟨res, h, hr⟩ := h
  refine ⟨_, h, fun hg => CallOK.conv (avs' := [.d (D.sl 1 a0)]) (.cons (le0 hg) (.nil)) (callOK_fix (K := keep_Network_K) (res := res) (keep_Network_VC n) (fn := Try.f9) (n := n) (by kernel_rfl) (by kernel_rfl) (by kernel_rfl) (ss := [[0, 3, 6]]) rfl ?_ ?_)⟩
  · exact (keep_Network_vfn n a0 keep_Network_K).trans (hr hg)
  · intro x hx
    unfold keep_Network_K at hx
    split at hx
    · injection hx with hx; subst hx; rfl
    · cases hx
def keep_Network_Ko : AV → List (Nat × Ob) → Option (Int × (List (List D)) × (List (List D))) := fun av H => (look H 1041).bind fun o0 => (look H 1042).bind fun o1 => match av, o0, o1 with
  | .ag [.d (D.int .i64 r0), .arr p0, .arr p1], .arr p2 p3 r1, .arr p4 p5 r2 => bif Nat.beq p0 1041 && (Nat.beq p1 1042 && (Nat.beq p2 46 && (Nat.beq p3 3 && (Nat.beq p4 31 && (Nat.beq p5 6))))) then some (r0, r1, r2) else none
  | _, _, _ => none
theorem keep_Network_vfo (n : Nat) (a0 : List (List D)) : vfn (keep_Network_C n) n Try.f9 [.d (D.sl 1 a0)] [] keep_Network_Ko = keep_Network n a0 (fun r0 r1 r2 => some (r0, r1, r2)) :=
  (show vfn (keep_Network_C n) n Try.f9 [.d (D.sl 1 a0)] [] keep_Network_Ko = vexec (keep_Network_C n) n keep_Network_c0 ⟨92, [(0, .d (D.sl 1 a0))], []⟩ (retX keep_Network_tt [.cell 2 26] keep_Network_Ko) from vfn_at (by kernel_rfl) (by kernel_rfl) rfl (by kernel_rfl) rfl (by kernel_rfl) rfl).trans ((keep_Network_p21_eq n a0 (retX keep_Network_tt [.cell 2 26] keep_Network_Ko)).trans (by kernel_rfl))
def keep_Network_o (n : Nat) : Entry := fun _ site g avs hl k => match avs with
  | [c0] => prS g 1 c0 fun a0 => 
    bif newsOk hl [] [(1041, (site + 100000)), (1042, (site + 200000))] then gb g (keep_Network n a0 (fun r0 r1 r2 => some (r0, r1, r2))) (0, [], []) fun r => k ⟨.ag [.d (D.int .i64 r.1), .arr (site + 100000), .arr (site + 200000)], [((site + 100000), some (.arr 46 3 r.2.1)), ((site + 200000), some (.arr 31 6 r.2.2))], []⟩ else none
  | _ => none
theorem keep_Network_oo (n : Nat) : EntryOK Try.prog 9 (keep_Network_o n) := by
  intro R site g avs hl k r h
  unfold keep_Network_o at h
  split at h
  rotate_left
  · cases h
  replace h := prS_some h
  obtain ⟨a0, h, le0⟩ := h
  replace h := bif_some h
  obtain ⟨hc, h⟩ := h
  replace h := gb_some h
  obtain ⟨res, h, hr⟩ := h
  refine ⟨_, h, fun hg => CallOK.conv (avs' := [.d (D.sl 1 a0)]) (.cons (le0 hg) (.nil)) (callOK_own (K := keep_Network_Ko) (res := res) (keep_Network_VC n) (fn := Try.f9) (n := n) (by kernel_rfl) (by kernel_rfl) (by kernel_rfl) (ρ := []) (ν := [(1041, (site + 100000)), (1042, (site + 200000))]) (avs' := [.d (D.sl 1 a0)]) (H := []) rfl rfl rfl rfl hc (trivial) rfl rfl ?_ ?_)⟩
  · exact (keep_Network_vfo n a0).trans (hr hg)
  · intro av H' hx
    unfold keep_Network_Ko at hx
    replace hx := Option.bind_eq_some_iff.1 hx
    obtain ⟨o0, ho0, hx⟩ := hx
    replace hx := Option.bind_eq_some_iff.1 hx
    obtain ⟨o1, ho1, hx⟩ := hx
    split at hx
    rotate_left
    · cases hx
    replace hx := bif_some hx
    obtain ⟨hck, hx⟩ := hx
    simp only [Bool.and_eq_true] at hck
    obtain ⟨ek0, ek1, ek2, ek3, ek4, ek5⟩ := hck
    have ek0 := Nat.eq_of_beq_eq_true ek0
    subst ek0
    have ek1 := Nat.eq_of_beq_eq_true ek1
    subst ek1
    have ek2 := Nat.eq_of_beq_eq_true ek2
    subst ek2
    have ek3 := Nat.eq_of_beq_eq_true ek3
    subst ek3
    have ek4 := Nat.eq_of_beq_eq_true ek4
    subst ek4
    have ek5 := Nat.eq_of_beq_eq_true ek5
    subst ek5
    injection hx with hx
    subst hx
    refine ⟨rfl, ?_, ⟨by rw [ho0]; rfl, ⟨by rw [ho1]; rfl, trivial⟩⟩, trivial⟩
    simp only [List.cons_append, List.nil_append, outWr, ho0, ho1, Option.map_some]
    rfl
end Go.Vx
/-
  law11_small: the interpreter computes the pure function
-/
set_option linter.unusedVariables false
set_option linter.unusedSimpArgs false
set_option maxRecDepth 100000
namespace Go.Vx
open Go.Proofs
noncomputable def law11_small_c0 : Code := bodyOf Try.f19
def law11_small_tt : TT := [(3, ⟨.int .i64, 1, 8, [.int .i64 0], [.int .i64 0], [], none⟩), (23, ⟨.sl 46 3, 1, 24, [.slice none 0 0], [.sl 3 []], [], none⟩), (24, ⟨.sl 31 6, 1, 24, [.slice none 0 0], [.sl 6 []], [], none⟩), (26, ⟨.struct, 3, 56, [.int .i64 0, .slice none 0 0, .slice none 0 0], [.int .i64 0, .sl 3 [], .sl 6 []], [(0, 3), (1, 23), (2, 24)], none⟩), (31, ⟨.struct, 6, 48, [.int .i64 0, .int .i64 0, .int .i64 0, .int .i64 0, .int .i64 0, .int .i64 0], [.int .i64 0, .int .i64 0, .int .i64 0, .int .i64 0, .int .i64 0, .int .i64 0], [(0, 3), (1, 3), (2, 3), (3, 3), (4, 3), (5, 3)], some [.int .i64, .int .i64, .int .i64, .int .i64, .int .i64, .int .i64]⟩), (46, ⟨.struct, 3, 24, [.int .i64 0, .int .i64 0, .int .i64 0], [.int .i64 0, .int .i64 0, .int .i64 0], [(0, 3), (1, 3), (2, 3)], some [.int .i64, .int .i64, .int .i64]⟩)]
theorem law11_small_tt_eq : mkTT Try.prog [3, 23, 24, 26, 31, 46] = law11_small_tt := by kernel_rfl
def law11_small_cfg : List (Nat × Cfg) := [(0, ⟨[0], [(0, 0)], [], [], []⟩), (1, ⟨[0], [(0, 0), (3, 3), (5, 5)], [], [], []⟩)]
def law11_small_C (n : Nat) : VC := ⟨specOf [], law11_small_tt, law11_small_cfg⟩
theorem law11_small_ents (n : Nat) : EntsOK Try.prog [] := trivial
theorem law11_small_VC (n : Nat) : VCOk Try.prog (law11_small_C n) := ⟨specOf_ok (law11_small_ents n), (law11_small_tt_eq ▸ mkTT_ok _ : TOk Try.prog law11_small_tt), by kernel_rfl⟩
theorem law11_small_p1_congr {R : Type} (n : Nat)  {k0 kk0 : (List (List D)) → (List (List D)) → Option R} (hq0 : ∀ x0 x1, k0 x0 x1 = kk0 x0 x1) : law11_small_p1 n  k0 = law11_small_p1 n  kk0 := by
  obtain rfl : k0 = kk0 := funext fun x0 => funext fun x1 => hq0 x0 x1
  rfl
theorem law11_small_p1_eq {R : Type} (n : Nat)  (k : Exit → St → Option R) : vexec (law11_small_C n) n law11_small_c0 ⟨7, [], []⟩ k = law11_small_p1 n  (fun z1 z2 => k .ret ⟨7, [(0, .ptr 0 0)], [(0, .box [.d (D.int .i64 (10 : Int)), .arr 3, .arr 5]), (3, .arr 46 3 z1), (5, .arr 31 6 z2)]⟩) := by kernel_rfl
theorem law11_small_vfn {R : Type} (n : Nat)  (K : AV → Option R) : vfn (law11_small_C n) n Try.f19 [] [] (retF [[0, 3, 6]] K) = law11_small n  (fun r0 r1 r2 => K (.ag [.d (D.int .i64 r0), .d (D.sl 3 r1), .d (D.sl 6 r2)])) :=
  (show vfn (law11_small_C n) n Try.f19 [] [] (retF [[0, 3, 6]] K) = vexec (law11_small_C n) n law11_small_c0 ⟨7, [], []⟩ (retX law11_small_tt [.cell 0 26] (retF [[0, 3, 6]] K)) from vfn_at (by kernel_rfl) (by kernel_rfl) rfl (by kernel_rfl) rfl (by kernel_rfl) rfl).trans ((law11_small_p1_eq n  (retX law11_small_tt [.cell 0 26] (retF [[0, 3, 6]] K))).trans (by kernel_rfl))
def law11_small_K : AV → Option (Int × (List (List D)) × (List (List D))) := fun av => match av with
  | .ag [.d (D.int .i64 r0), .d (D.sl 3 r1), .d (D.sl 6 r2)] => some (r0, r1, r2)
  | _ => none
def law11_small_e (n : Nat) : Entry := fun _ _ g avs _ k => match avs with
  | [] => 
    gb g (law11_small n  (fun r0 r1 r2 => some (r0, r1, r2))) (0, [], []) fun r => k ⟨.ag [.d (D.int .i64 r.1), .d (D.sl 3 r.2.1), .d (D.sl 6 r.2.2)], [], []⟩
  | _ => none
theorem law11_small_ok (n : Nat) : EntryOK Try.prog 19 (law11_small_e n) := by
  intro R site g avs hl k r h
  unfold law11_small_e at h
  split at h
  rotate_left
  · cases h
  replace h := gb_some h
  obtain ⟨res, h, hr⟩ := h
  refine ⟨_, h, fun hg => CallOK.conv (avs' := []) (.nil) (callOK_fix (K := law11_small_K) (res := res) (law11_small_VC n) (fn := Try.f19) (n := n) (by kernel_rfl) (by kernel_rfl) (by kernel_rfl) (ss := [[0, 3, 6]]) rfl ?_ ?_)⟩
  · exact (law11_small_vfn n  law11_small_K).trans (hr hg)
  · intro x hx
    unfold law11_small_K at hx
    split at hx
    · injection hx with hx; subst hx; rfl
    · cases hx
def law11_small_Ko : AV → List (Nat × Ob) → Option (Int × (List (List D)) × (List (List D))) := fun av H => (look H 3).bind fun o0 => (look H 5).bind fun o1 => match av, o0, o1 with
  | .ag [.d (D.int .i64 r0), .arr p0, .arr p1], .arr p2 p3 r1, .arr p4 p5 r2 => bif Nat.beq p0 3 && (Nat.beq p1 5 && (Nat.beq p2 46 && (Nat.beq p3 3 && (Nat.beq p4 31 && (Nat.beq p5 6))))) then some (r0, r1, r2) else none
  | _, _, _ => none
theorem law11_small_vfo (n : Nat)  : vfn (law11_small_C n) n Try.f19 [] [] law11_small_Ko = law11_small n  (fun r0 r1 r2 => some (r0, r1, r2)) :=
  (show vfn (law11_small_C n) n Try.f19 [] [] law11_small_Ko = vexec (law11_small_C n) n law11_small_c0 ⟨7, [], []⟩ (retX law11_small_tt [.cell 0 26] law11_small_Ko) from vfn_at (by kernel_rfl) (by kernel_rfl) rfl (by kernel_rfl) rfl (by kernel_rfl) rfl).trans ((law11_small_p1_eq n  (retX law11_small_tt [.cell 0 26] law11_small_Ko)).trans (by kernel_rfl))
def law11_small_o (n : Nat) : Entry := fun _ site g avs hl k => match avs with
  | [] => 
    bif newsOk hl [] [(3, (site + 100000)), (5, (site + 200000))] then gb g (law11_small n  (fun r0 r1 r2 => some (r0, r1, r2))) (0, [], []) fun r => k ⟨.ag [.d (D.int .i64 r.1), .arr (site + 100000), .arr (site + 200000)], [((site + 100000), some (.arr 46 3 r.2.1)), ((site + 200000), some (.arr 31 6 r.2.2))], []⟩ else none
  | _ => none
theorem law11_small_oo (n : Nat) : EntryOK Try.prog 19 (law11_small_o n) := by
  intro R site g avs hl k r h
  unfold law11_small_o at h
  split at h
  rotate_left
  · cases h
  replace h := bif_some h
  obtain ⟨hc, h⟩ := h
  replace h := gb_some h
  obtain ⟨res, h, hr⟩ := h
  refine ⟨_, h, fun hg => CallOK.conv (avs' := []) (.nil) (callOK_own (K := law11_small_Ko) (res := res) (law11_small_VC n) (fn := Try.f19) (n := n) (by kernel_rfl) (by kernel_rfl) (by kernel_rfl) (ρ := []) (ν := [(3, (site + 100000)), (5, (site + 200000))]) (avs' := []) (H := []) rfl rfl rfl rfl hc (trivial) rfl rfl ?_ ?_)⟩
  · exact (law11_small_vfo n ).trans (hr hg)
  · intro av H' hx
    unfold law11_small_Ko at hx
    replace hx := Option.bind_eq_some_iff.1 hx
    obtain ⟨o0, ho0, hx⟩ := hx
    replace hx := Option.bind_eq_some_iff.1 hx
    obtain ⟨o1, ho1, hx⟩ := hx
    split at hx
    rotate_left
    · cases hx
    replace hx := bif_some hx
    obtain ⟨hck, hx⟩ := hx
    simp only [Bool.and_eq_true] at hck
    obtain ⟨ek0, ek1, ek2, ek3, ek4, ek5⟩ := hck
    have ek0 := Nat.eq_of_beq_eq_true ek0
    subst ek0
    have ek1 := Nat.eq_of_beq_eq_true ek1
    subst ek1
    have ek2 := Nat.eq_of_beq_eq_true ek2
    subst ek2
    have ek3 := Nat.eq_of_beq_eq_true ek3
    subst ek3
    have ek4 := Nat.eq_of_beq_eq_true ek4
    subst ek4
    have ek5 := Nat.eq_of_beq_eq_true ek5
    subst ek5
    injection hx with hx
    subst hx
    refine ⟨rfl, ?_, ⟨by rw [ho0]; rfl, ⟨by rw [ho1]; rfl, trivial⟩⟩, trivial⟩
    simp only [List.cons_append, List.nil_append, outWr, ho0, ho1, Option.map_some]
    rfl
end Go.Vx
/-
  network_isEvent: the interpreter computes the pure function
-/
set_option linter.unusedVariables false
set_option linter.unusedSimpArgs false
set_option maxRecDepth 100000
namespace Go.Vx
open Go.Proofs
noncomputable def network_isEvent_c0 : Code := bodyOf Try.f25
def network_isEvent_tt : TT := [(3, ⟨.int .i64, 1, 8, [.int .i64 0], [.int .i64 0], [], none⟩), (23, ⟨.sl 46 3, 1, 24, [.slice none 0 0], [.sl 3 []], [], none⟩), (26, ⟨.struct, 3, 56, [.int .i64 0, .slice none 0 0, .slice none 0 0], [.int .i64 0, .sl 3 [], .sl 6 []], [(0, 3), (1, 23), (2, 24)], none⟩)]
theorem network_isEvent_tt_eq : mkTT Try.prog [3, 23, 26] = network_isEvent_tt := by kernel_rfl
def network_isEvent_cfg : List (Nat × Cfg) := [(0, ⟨[1, 2], [(2, 2)], [], [], []⟩), (1, ⟨[4], [], [], [], []⟩)]
def network_isEvent_C (n : Nat) : VC := ⟨specOf [], network_isEvent_tt, network_isEvent_cfg⟩
theorem network_isEvent_ents (n : Nat) : EntsOK Try.prog [] := trivial
theorem network_isEvent_VC (n : Nat) : VCOk Try.prog (network_isEvent_C n) := ⟨specOf_ok (network_isEvent_ents n), (network_isEvent_tt_eq ▸ mkTT_ok _ : TOk Try.prog network_isEvent_tt), by kernel_rfl⟩
theorem network_isEvent_p1_congr {R : Type} (n : Nat) (a0_0 : Int) (a0_1 : List (List D)) (a0_2 : List (List D)) (a1 : Int) {k0 kk0 : Bool → Option R} (hq0 : ∀ x0, k0 x0 = kk0 x0) : network_isEvent_p1 n a0_0 a0_1 a0_2 a1 k0 = network_isEvent_p1 n a0_0 a0_1 a0_2 a1 kk0 := by
  obtain rfl : k0 = kk0 := funext fun x0 => hq0 x0
  rfl
theorem network_isEvent_p1_eq {R : Type} (n : Nat) (a0_0 : Int) (a0_1 : List (List D)) (a0_2 : List (List D)) (a1 : Int) (k : Exit → St → Option R) : vexec (network_isEvent_C n) n network_isEvent_c0 ⟨14, [(0, .ag [.d (D.int .i64 a0_0), .d (D.sl 3 a0_1), .d (D.sl 6 a0_2)]), (1, .d (D.int .i64 a1))], []⟩ k = network_isEvent_p1 n a0_0 a0_1 a0_2 a1 (fun z1 => k .ret ⟨14, [(4, .d (D.bool z1))], []⟩) := by kernel_rfl
theorem network_isEvent_vfn {R : Type} (n : Nat) (a0_0 : Int) (a0_1 : List (List D)) (a0_2 : List (List D)) (a1 : Int) (K : AV → Option R) : vfn (network_isEvent_C n) n Try.f25 [.ag [.d (D.int .i64 a0_0), .d (D.sl 3 a0_1), .d (D.sl 6 a0_2)], .d (D.int .i64 a1)] [] (retF [[0]] K) = network_isEvent n a0_0 a0_1 a0_2 a1 (fun r0 => K (.d (D.bool r0))) :=
  (show vfn (network_isEvent_C n) n Try.f25 [.ag [.d (D.int .i64 a0_0), .d (D.sl 3 a0_1), .d (D.sl 6 a0_2)], .d (D.int .i64 a1)] [] (retF [[0]] K) = vexec (network_isEvent_C n) n network_isEvent_c0 ⟨14, [(0, .ag [.d (D.int .i64 a0_0), .d (D.sl 3 a0_1), .d (D.sl 6 a0_2)]), (1, .d (D.int .i64 a1))], []⟩ (retX network_isEvent_tt [.tmp 4] (retF [[0]] K)) from vfn_at (by kernel_rfl) (by kernel_rfl) rfl (by kernel_rfl) rfl (by kernel_rfl) rfl).trans ((network_isEvent_p1_eq n a0_0 a0_1 a0_2 a1 (retX network_isEvent_tt [.tmp 4] (retF [[0]] K))).trans (by kernel_rfl))
def network_isEvent_K : AV → Option (Bool) := fun av => match av with
  | .d (D.bool r0) => some r0
  | _ => none
def network_isEvent_e (n : Nat) : Entry := fun _ _ g avs _ k => match avs with
  | [c0, c1] => 
    prG c0 fun l0 => (match l0 with
    | [c0_0, c0_1, c0_2] => prI g .i64 c0_0 fun a0_0 => prS g 3 c0_1 fun a0_1 => prS g 6 c0_2 fun a0_2 => prI g .i64 c1 fun a1 => 
    gb g (network_isEvent n a0_0 a0_1 a0_2 a1 some) false fun r => k ⟨.d (D.bool r), [], []⟩
    | _ => none)
  | _ => none
theorem network_isEvent_ok (n : Nat) : EntryOK Try.prog 25 (network_isEvent_e n) := by
  intro R site g avs hl k r h
  unfold network_isEvent_e at h
  split at h
  rotate_left
  · cases h
  replace h := prG_some h
  obtain ⟨l0, h, e0⟩ := h
  subst e0
  split at h
  rotate_left
  · cases h
  replace h := prI_some h
  obtain ⟨a0_0, h, le0⟩ := h
  replace h := prS_some h
  obtain ⟨a0_1, h, le1⟩ := h
  replace h := prS_some h
  obtain ⟨a0_2, h, le2⟩ := h
  replace h := prI_some h
  obtain ⟨a1, h, le3⟩ := h
  replace h := gb_some h
  obtain ⟨res, h, hr⟩ := h
  refine ⟨_, h, fun hg => CallOK.conv (avs' := [.ag [.d (D.int .i64 a0_0), .d (D.sl 3 a0_1), .d (D.sl 6 a0_2)], .d (D.int .i64 a1)]) (.cons (.ag (.cons (le0 hg) (.cons (le1 hg) (.cons (le2 hg) (.nil))))) (.cons (le3 hg) (.nil))) (callOK_fix (K := network_isEvent_K) (res := res) (network_isEvent_VC n) (fn := Try.f25) (n := n) (by kernel_rfl) (by kernel_rfl) (by kernel_rfl) (ss := [[0]]) rfl ?_ ?_)⟩
  · exact (network_isEvent_vfn n a0_0 a0_1 a0_2 a1 network_isEvent_K).trans (hr hg)
  · intro x hx
    unfold network_isEvent_K at hx
    split at hx
    · injection hx with hx; subst hx; rfl
    · cases hx
end Go.Vx
/-
  network_Check: the interpreter computes the pure function
-/
set_option linter.unusedVariables false
set_option linter.unusedSimpArgs false
set_option maxRecDepth 100000
namespace Go.Vx
open Go.Proofs
noncomputable def network_Check_c0 : Code := bodyOf Try.f12
noncomputable def network_Check_c1 : Code := cL (bodyOf Try.f12)
noncomputable def network_Check_c2 : Code := cL (cR (bodyOf Try.f12))
noncomputable def network_Check_c3 : Code := cL (cL (cR (cR (bodyOf Try.f12))))
noncomputable def network_Check_c4 : Code := cB (cB (cR (cL (cR (cR (bodyOf Try.f12))))))
noncomputable def network_Check_c5 : Code := cB (cR (cL (cR (cR (bodyOf Try.f12)))))
noncomputable def network_Check_c6 : Code := cR (cL (cR (cR (bodyOf Try.f12))))
noncomputable def network_Check_c7 : Code := cL (cR (cR (bodyOf Try.f12)))
noncomputable def network_Check_c8 : Code := cR (cR (cR (bodyOf Try.f12)))
noncomputable def network_Check_c9 : Code := cR (cR (bodyOf Try.f12))
noncomputable def network_Check_c10 : Code := cR (bodyOf Try.f12)
theorem network_Check_c5_eq : network_Check_c5 = .loop network_Check_c4 := by kernel_rfl
theorem network_Check_c6_eq : network_Check_c6 = .block 0 network_Check_c5 := by kernel_rfl
theorem network_Check_c7_eq : network_Check_c7 = .seq network_Check_c3 network_Check_c6 := by kernel_rfl
theorem network_Check_c9_eq : network_Check_c9 = .seq network_Check_c7 network_Check_c8 := by kernel_rfl
theorem network_Check_c10_eq : network_Check_c10 = .seq network_Check_c2 network_Check_c9 := by kernel_rfl
theorem network_Check_c0_eq : network_Check_c0 = .seq network_Check_c1 network_Check_c10 := by kernel_rfl
def network_Check_tt : TT := [(3, ⟨.int .i64, 1, 8, [.int .i64 0], [.int .i64 0], [], none⟩), (23, ⟨.sl 46 3, 1, 24, [.slice none 0 0], [.sl 3 []], [], none⟩), (24, ⟨.sl 31 6, 1, 24, [.slice none 0 0], [.sl 6 []], [], none⟩), (26, ⟨.struct, 3, 56, [.int .i64 0, .slice none 0 0, .slice none 0 0], [.int .i64 0, .sl 3 [], .sl 6 []], [(0, 3), (1, 23), (2, 24)], none⟩), (31, ⟨.struct, 6, 48, [.int .i64 0, .int .i64 0, .int .i64 0, .int .i64 0, .int .i64 0, .int .i64 0], [.int .i64 0, .int .i64 0, .int .i64 0, .int .i64 0, .int .i64 0, .int .i64 0], [(0, 3), (1, 3), (2, 3), (3, 3), (4, 3), (5, 3)], some [.int .i64, .int .i64, .int .i64, .int .i64, .int .i64, .int .i64]⟩)]
theorem network_Check_tt_eq : mkTT Try.prog [3, 23, 24, 26, 31] = network_Check_tt := by kernel_rfl
def network_Check_cfg : List (Nat × Cfg) := [(0, ⟨[1], [(1, 1)], [], [], []⟩), (1, ⟨[1, 24], [(1, 1)], [], [], []⟩), (2, ⟨[2], [], [], [], []⟩), (3, ⟨[1, 26, 27, 28], [(1, 1)], [], [], []⟩), (4, ⟨[1, 26, 27, 28, 29], [(1, 1)], [], [], []⟩), (5, ⟨[1, 4, 26, 27, 28], [(1, 1), (4, 4)], [], [], []⟩), (6, ⟨[1, 4, 26, 27, 28, 50], [(1, 1), (4, 4)], [], [], []⟩), (7, ⟨[2], [], [], [], []⟩), (8, ⟨[1, 4, 26, 27, 28, 75], [(1, 1), (4, 4)], [], [], []⟩), (9, ⟨[2], [], [], [], []⟩), (10, ⟨[1, 26, 27, 28, 83], [(1, 1)], [], [], []⟩), (11, ⟨[2], [], [], [], []⟩), (12, ⟨[1, 26, 27, 28], [(1, 1)], [], [], []⟩), (13, ⟨[2], [], [], [], []⟩)]
def network_Check_C (n : Nat) : VC := ⟨specOf [(25, network_isEvent_e n)], network_Check_tt, network_Check_cfg⟩
theorem network_Check_ents (n : Nat) : EntsOK Try.prog [(25, network_isEvent_e n)] := ⟨network_isEvent_ok n, trivial⟩
theorem network_Check_VC (n : Nat) : VCOk Try.prog (network_Check_C n) := ⟨specOf_ok (network_Check_ents n), (network_Check_tt_eq ▸ mkTT_ok _ : TOk Try.prog network_Check_tt), by kernel_rfl⟩
theorem network_Check_p1_congr {R : Type} (n : Nat) (a0_0 : Int) (a0_1 : List (List D)) (a0_2 : List (List D)) {k0 kk0 : Option R} (hq0 : k0 = kk0) : network_Check_p1 n a0_0 a0_1 a0_2 k0 = network_Check_p1 n a0_0 a0_1 a0_2 kk0 := by
  obtain rfl : k0 = kk0 := hq0
  rfl
theorem network_Check_p2_congr {R : Type} (n : Nat) (a0_0 : Int) (a0_1 : List (List D)) (a0_2 : List (List D)) {k0 kk0 : Option R} {k1 kk1 : Bool → Option R} (hq0 : k0 = kk0) (hq1 : ∀ x0, k1 x0 = kk1 x0) : network_Check_p2 n a0_0 a0_1 a0_2 k0 k1 = network_Check_p2 n a0_0 a0_1 a0_2 kk0 kk1 := by
  obtain rfl : k0 = kk0 := hq0
  obtain rfl : k1 = kk1 := funext fun x0 => hq1 x0
  rfl
theorem network_Check_p3_congr {R : Type} (n : Nat) (w2 : Bool) (a0_0 : Int) (a0_1 : List (List D)) (a0_2 : List (List D)) {k0 kk0 : Int → Option R} (hq0 : ∀ x0, k0 x0 = kk0 x0) : network_Check_p3 n w2 a0_0 a0_1 a0_2 k0 = network_Check_p3 n w2 a0_0 a0_1 a0_2 kk0 := by
  obtain rfl : k0 = kk0 := funext fun x0 => hq0 x0
  rfl
theorem network_Check_p4_congr {R : Type} (n : Nat) (a0_2 : List (List D)) (w4 : Int) (h7 : Int) (a0_0 : Int) (a0_1 : List (List D)) {k0 kk0 : Option R} {k1 kk1 : Int → Option R} {k2 kk2 : Bool → Option R} (hq0 : k0 = kk0) (hq1 : ∀ x0, k1 x0 = kk1 x0) (hq2 : ∀ x0, k2 x0 = kk2 x0) : network_Check_p4 n a0_2 w4 h7 a0_0 a0_1 k0 k1 k2 = network_Check_p4 n a0_2 w4 h7 a0_0 a0_1 kk0 kk1 kk2 := by
  obtain rfl : k0 = kk0 := hq0
  obtain rfl : k1 = kk1 := funext fun x0 => hq1 x0
  obtain rfl : k2 = kk2 := funext fun x0 => hq2 x0
  rfl
theorem network_Check_p5_congr {R : Type} (n : Nat) (a0_2 : List (List D)) (w4 : Int) (a0_0 : Int) (a0_1 : List (List D)) {k0 kk0 : Option R} {k1 kk1 : Int → Bool → Option R} (hq0 : k0 = kk0) (hq1 : ∀ x0 x1, k1 x0 x1 = kk1 x0 x1) : network_Check_p5 n a0_2 w4 a0_0 a0_1 k0 k1 = network_Check_p5 n a0_2 w4 a0_0 a0_1 kk0 kk1 := by
  obtain rfl : k0 = kk0 := hq0
  obtain rfl : k1 = kk1 := funext fun x0 => funext fun x1 => hq1 x0 x1
  rfl
theorem network_Check_p6_congr {R : Type} (n : Nat) (a0_2 : List (List D)) (w4 : Int) (a0_0 : Int) (a0_1 : List (List D)) {k0 kk0 : Option R} {k1 kk1 : Int → Bool → Option R} (hq0 : k0 = kk0) (hq1 : ∀ x0 x1, k1 x0 x1 = kk1 x0 x1) : network_Check_p6 n a0_2 w4 a0_0 a0_1 k0 k1 = network_Check_p6 n a0_2 w4 a0_0 a0_1 kk0 kk1 := by
  obtain rfl : k0 = kk0 := hq0
  obtain rfl : k1 = kk1 := funext fun x0 => funext fun x1 => hq1 x0 x1
  rfl
theorem network_Check_p7_congr {R : Type} (n : Nat) (w2 : Bool) (a0_0 : Int) (a0_1 : List (List D)) (a0_2 : List (List D)) {k0 kk0 : Option R} {k1 kk1 : Int → Int → Bool → Option R} (hq0 : k0 = kk0) (hq1 : ∀ x0 x1 x2, k1 x0 x1 x2 = kk1 x0 x1 x2) : network_Check_p7 n w2 a0_0 a0_1 a0_2 k0 k1 = network_Check_p7 n w2 a0_0 a0_1 a0_2 kk0 kk1 := by
  obtain rfl : k0 = kk0 := hq0
  obtain rfl : k1 = kk1 := funext fun x0 => funext fun x1 => funext fun x2 => hq1 x0 x1 x2
  rfl
theorem network_Check_p8_congr {R : Type} (n : Nat) (a0_2 : List (List D)) (w63 : Int) (w64 : Int) (w65 : Bool) (a0_0 : Int) (a0_1 : List (List D)) {k0 kk0 : Option R} (hq0 : k0 = kk0) : network_Check_p8 n a0_2 w63 w64 w65 a0_0 a0_1 k0 = network_Check_p8 n a0_2 w63 w64 w65 a0_0 a0_1 kk0 := by
  obtain rfl : k0 = kk0 := hq0
  rfl
theorem network_Check_p9_congr {R : Type} (n : Nat) (w2 : Bool) (a0_0 : Int) (a0_1 : List (List D)) (a0_2 : List (List D)) {k0 kk0 : Bool → Option R} (hq0 : ∀ x0, k0 x0 = kk0 x0) : network_Check_p9 n w2 a0_0 a0_1 a0_2 k0 = network_Check_p9 n w2 a0_0 a0_1 a0_2 kk0 := by
  obtain rfl : k0 = kk0 := funext fun x0 => hq0 x0
  rfl
theorem network_Check_p10_congr {R : Type} (n : Nat) (a0_0 : Int) (a0_1 : List (List D)) (a0_2 : List (List D)) {k0 kk0 : Bool → Option R} (hq0 : ∀ x0, k0 x0 = kk0 x0) : network_Check_p10 n a0_0 a0_1 a0_2 k0 = network_Check_p10 n a0_0 a0_1 a0_2 kk0 := by
  obtain rfl : k0 = kk0 := funext fun x0 => hq0 x0
  rfl
theorem network_Check_p11_congr {R : Type} (n : Nat) (a0_0 : Int) (a0_1 : List (List D)) (a0_2 : List (List D)) {k0 kk0 : Bool → Option R} (hq0 : ∀ x0, k0 x0 = kk0 x0) : network_Check_p11 n a0_0 a0_1 a0_2 k0 = network_Check_p11 n a0_0 a0_1 a0_2 kk0 := by
  obtain rfl : k0 = kk0 := funext fun x0 => hq0 x0
  rfl
theorem network_Check_p1_eq {R : Type} (n : Nat) (a0_0 : Int) (a0_1 : List (List D)) (a0_2 : List (List D)) (k : Exit → St → Option R) : vexec (network_Check_C n) n network_Check_c1 ⟨85, [(0, .ag [.d (D.int .i64 a0_0), .d (D.sl 3 a0_1), .d (D.sl 6 a0_2)])], []⟩ k = network_Check_p1 n a0_0 a0_1 a0_2 (k .normal ⟨85, [(1, .ptr 1 0)], [(1, .box [.d (D.int .i64 a0_0), .d (D.sl 3 a0_1), .d (D.sl 6 a0_2)])]⟩) := by kernel_rfl
theorem network_Check_p2_eq {R : Type} (n : Nat) (a0_0 : Int) (a0_1 : List (List D)) (a0_2 : List (List D)) (k : Exit → St → Option R) : vexec (network_Check_C n) n network_Check_c2 ⟨85, [(1, .ptr 1 0)], [(1, .box [.d (D.int .i64 a0_0), .d (D.sl 3 a0_1), .d (D.sl 6 a0_2)])]⟩ k = network_Check_p2 n a0_0 a0_1 a0_2 (k .ret ⟨85, [(2, .d (D.bool false))], []⟩) (fun z1 => k .normal ⟨85, [(1, .ptr 1 0), (24, .d (D.bool z1))], [(1, .box [.d (D.int .i64 a0_0), .d (D.sl 3 a0_1), .d (D.sl 6 a0_2)])]⟩) := by kernel_rfl
theorem network_Check_p3_eq {R : Type} (n : Nat) (w2 : Bool) (a0_0 : Int) (a0_1 : List (List D)) (a0_2 : List (List D)) (k : Exit → St → Option R) : vexec (network_Check_C n) n network_Check_c3 ⟨85, [(1, .ptr 1 0), (24, .d (D.bool w2))], [(1, .box [.d (D.int .i64 a0_0), .d (D.sl 3 a0_1), .d (D.sl 6 a0_2)])]⟩ k = network_Check_p3 n w2 a0_0 a0_1 a0_2 (fun z3 => k .normal ⟨85, [(1, .ptr 1 0), (26, .d (D.sl 6 a0_2)), (27, .d (D.int .i64 z3)), (28, .d (D.int .i64 (0 : Int)))], [(1, .box [.d (D.int .i64 a0_0), .d (D.sl 3 a0_1), .d (D.sl 6 a0_2)])]⟩) := by kernel_rfl
theorem network_Check_p4_eq {R : Type} (n : Nat) (a0_2 : List (List D)) (w4 : Int) (h7 : Int) (a0_0 : Int) (a0_1 : List (List D)) (k : Exit → St → Option R) : vexec (network_Check_C n) n network_Check_c4 ⟨85, [(1, .ptr 1 0), (26, .d (D.sl 6 a0_2)), (27, .d (D.int .i64 w4)), (28, .d (D.int .i64 h7))], [(1, .box [.d (D.int .i64 a0_0), .d (D.sl 3 a0_1), .d (D.sl 6 a0_2)])]⟩ k = network_Check_p4 n a0_2 w4 h7 a0_0 a0_1 (k .ret ⟨85, [(2, .d (D.bool false))], []⟩) (fun z55 => k .normal ⟨85, [(1, .ptr 1 0), (26, .d (D.sl 6 a0_2)), (27, .d (D.int .i64 w4)), (28, .d (D.int .i64 z55))], [(1, .box [.d (D.int .i64 a0_0), .d (D.sl 3 a0_1), .d (D.sl 6 a0_2)])]⟩) (fun z56 => k (.exit 0) ⟨85, [(1, .ptr 1 0), (26, .d (D.sl 6 a0_2)), (27, .d (D.int .i64 w4)), (28, .d (D.int .i64 h7)), (29, .d (D.bool z56))], [(1, .box [.d (D.int .i64 a0_0), .d (D.sl 3 a0_1), .d (D.sl 6 a0_2)])]⟩) := by kernel_rfl
theorem network_Check_r5_eq {R : Type} (n : Nat) (a0_2 : List (List D)) (w4 : Int) (a0_0 : Int) (a0_1 : List (List D)) (k : Exit → St → Option R) : ∀ (m : Nat) (h7 : Int), loopN (vexec (network_Check_C n) n network_Check_c4) m ⟨85, [(1, .ptr 1 0), (26, .d (D.sl 6 a0_2)), (27, .d (D.int .i64 w4)), (28, .d (D.int .i64 h7))], [(1, .box [.d (D.int .i64 a0_0), .d (D.sl 3 a0_1), .d (D.sl 6 a0_2)])]⟩ k = network_Check_r5 n a0_2 w4 a0_0 a0_1 (k .ret ⟨85, [(2, .d (D.bool false))], []⟩) (fun h7 w58 => k (.exit 0) ⟨85, [(1, .ptr 1 0), (26, .d (D.sl 6 a0_2)), (27, .d (D.int .i64 w4)), (28, .d (D.int .i64 h7)), (29, .d (D.bool w58))], [(1, .box [.d (D.int .i64 a0_0), .d (D.sl 3 a0_1), .d (D.sl 6 a0_2)])]⟩) m h7
  | 0, _ => rfl
  | m + 1, h7 => (network_Check_p4_eq n a0_2 w4 h7 a0_0 a0_1 (loopK (vexec (network_Check_C n) n network_Check_c4) m k)).trans (network_Check_p4_congr n a0_2 w4 h7 a0_0 a0_1 (rfl) (fun w57 => network_Check_r5_eq n a0_2 w4 a0_0 a0_1 k m w57) (fun w58 => rfl))
theorem network_Check_p5_eq {R : Type} (n : Nat) (a0_2 : List (List D)) (w4 : Int) (a0_0 : Int) (a0_1 : List (List D)) (k : Exit → St → Option R) : vexec (network_Check_C n) n network_Check_c5 ⟨85, [(1, .ptr 1 0), (26, .d (D.sl 6 a0_2)), (27, .d (D.int .i64 w4)), (28, .d (D.int .i64 (0 : Int)))], [(1, .box [.d (D.int .i64 a0_0), .d (D.sl 3 a0_1), .d (D.sl 6 a0_2)])]⟩ k = network_Check_p5 n a0_2 w4 a0_0 a0_1 (k .ret ⟨85, [(2, .d (D.bool false))], []⟩) (fun h7 w58 => k (.exit 0) ⟨85, [(1, .ptr 1 0), (26, .d (D.sl 6 a0_2)), (27, .d (D.int .i64 w4)), (28, .d (D.int .i64 h7)), (29, .d (D.bool w58))], [(1, .box [.d (D.int .i64 a0_0), .d (D.sl 3 a0_1), .d (D.sl 6 a0_2)])]⟩) := by
  rw [network_Check_c5_eq]
  exact network_Check_r5_eq n a0_2 w4 a0_0 a0_1 k n (0 : Int)
theorem network_Check_p6_eq {R : Type} (n : Nat) (a0_2 : List (List D)) (w4 : Int) (a0_0 : Int) (a0_1 : List (List D)) (k : Exit → St → Option R) : vexec (network_Check_C n) n network_Check_c6 ⟨85, [(1, .ptr 1 0), (26, .d (D.sl 6 a0_2)), (27, .d (D.int .i64 w4)), (28, .d (D.int .i64 (0 : Int)))], [(1, .box [.d (D.int .i64 a0_0), .d (D.sl 3 a0_1), .d (D.sl 6 a0_2)])]⟩ k = network_Check_p6 n a0_2 w4 a0_0 a0_1 (k .ret ⟨85, [(2, .d (D.bool false))], []⟩) (fun w59 w60 => k .normal ⟨85, [(1, .ptr 1 0), (26, .d (D.sl 6 a0_2)), (27, .d (D.int .i64 w4)), (28, .d (D.int .i64 w59)), (29, .d (D.bool w60))], [(1, .box [.d (D.int .i64 a0_0), .d (D.sl 3 a0_1), .d (D.sl 6 a0_2)])]⟩) := by
  rw [network_Check_c6_eq]
  unfold network_Check_p6
  exact (network_Check_p5_eq n a0_2 w4 a0_0 a0_1 (blockK 0 k)).trans (network_Check_p5_congr n a0_2 w4 a0_0 a0_1 (rfl) (fun w59 w60 => rfl))
theorem network_Check_p7_eq {R : Type} (n : Nat) (w2 : Bool) (a0_0 : Int) (a0_1 : List (List D)) (a0_2 : List (List D)) (k : Exit → St → Option R) : vexec (network_Check_C n) n network_Check_c7 ⟨85, [(1, .ptr 1 0), (24, .d (D.bool w2))], [(1, .box [.d (D.int .i64 a0_0), .d (D.sl 3 a0_1), .d (D.sl 6 a0_2)])]⟩ k = network_Check_p7 n w2 a0_0 a0_1 a0_2 (k .ret ⟨85, [(2, .d (D.bool false))], []⟩) (fun w4 w61 w62 => k .normal ⟨85, [(1, .ptr 1 0), (26, .d (D.sl 6 a0_2)), (27, .d (D.int .i64 w4)), (28, .d (D.int .i64 w61)), (29, .d (D.bool w62))], [(1, .box [.d (D.int .i64 a0_0), .d (D.sl 3 a0_1), .d (D.sl 6 a0_2)])]⟩) := by
  rw [network_Check_c7_eq]
  unfold network_Check_p7
  exact (network_Check_p3_eq n w2 a0_0 a0_1 a0_2 (seqK (network_Check_C n) n network_Check_c6 k)).trans (network_Check_p3_congr n w2 a0_0 a0_1 a0_2 (fun w4 => network_Check_p6_eq n a0_2 w4 a0_0 a0_1 k))
theorem network_Check_p8_eq {R : Type} (n : Nat) (a0_2 : List (List D)) (w63 : Int) (w64 : Int) (w65 : Bool) (a0_0 : Int) (a0_1 : List (List D)) (k : Exit → St → Option R) : vexec (network_Check_C n) n network_Check_c8 ⟨85, [(1, .ptr 1 0), (26, .d (D.sl 6 a0_2)), (27, .d (D.int .i64 w63)), (28, .d (D.int .i64 w64)), (29, .d (D.bool w65))], [(1, .box [.d (D.int .i64 a0_0), .d (D.sl 3 a0_1), .d (D.sl 6 a0_2)])]⟩ k = network_Check_p8 n a0_2 w63 w64 w65 a0_0 a0_1 (k .ret ⟨85, [(2, .d (D.bool true))], []⟩) := by kernel_rfl
theorem network_Check_p9_eq {R : Type} (n : Nat) (w2 : Bool) (a0_0 : Int) (a0_1 : List (List D)) (a0_2 : List (List D)) (k : Exit → St → Option R) : vexec (network_Check_C n) n network_Check_c9 ⟨85, [(1, .ptr 1 0), (24, .d (D.bool w2))], [(1, .box [.d (D.int .i64 a0_0), .d (D.sl 3 a0_1), .d (D.sl 6 a0_2)])]⟩ k = network_Check_p9 n w2 a0_0 a0_1 a0_2 (fun z66 => k .ret ⟨85, [(2, .d (D.bool z66))], []⟩) := by
  rw [network_Check_c9_eq]
  unfold network_Check_p9
  exact (network_Check_p7_eq n w2 a0_0 a0_1 a0_2 (seqK (network_Check_C n) n network_Check_c8 k)).trans (network_Check_p7_congr n w2 a0_0 a0_1 a0_2 (rfl) (fun w63 w64 w65 => network_Check_p8_eq n a0_2 w63 w64 w65 a0_0 a0_1 k))
theorem network_Check_p10_eq {R : Type} (n : Nat) (a0_0 : Int) (a0_1 : List (List D)) (a0_2 : List (List D)) (k : Exit → St → Option R) : vexec (network_Check_C n) n network_Check_c10 ⟨85, [(1, .ptr 1 0)], [(1, .box [.d (D.int .i64 a0_0), .d (D.sl 3 a0_1), .d (D.sl 6 a0_2)])]⟩ k = network_Check_p10 n a0_0 a0_1 a0_2 (fun z68 => k .ret ⟨85, [(2, .d (D.bool z68))], []⟩) := by
  rw [network_Check_c10_eq]
  unfold network_Check_p10
  exact (network_Check_p2_eq n a0_0 a0_1 a0_2 (seqK (network_Check_C n) n network_Check_c9 k)).trans (network_Check_p2_congr n a0_0 a0_1 a0_2 (rfl) (fun w2 => network_Check_p9_eq n w2 a0_0 a0_1 a0_2 k))
theorem network_Check_p11_eq {R : Type} (n : Nat) (a0_0 : Int) (a0_1 : List (List D)) (a0_2 : List (List D)) (k : Exit → St → Option R) : vexec (network_Check_C n) n network_Check_c0 ⟨85, [(0, .ag [.d (D.int .i64 a0_0), .d (D.sl 3 a0_1), .d (D.sl 6 a0_2)])], []⟩ k = network_Check_p11 n a0_0 a0_1 a0_2 (fun w69 => k .ret ⟨85, [(2, .d (D.bool w69))], []⟩) := by
  rw [network_Check_c0_eq]
  unfold network_Check_p11
  exact (network_Check_p1_eq n a0_0 a0_1 a0_2 (seqK (network_Check_C n) n network_Check_c10 k)).trans (network_Check_p1_congr n a0_0 a0_1 a0_2 (network_Check_p10_eq n a0_0 a0_1 a0_2 k))
theorem network_Check_vfn {R : Type} (n : Nat) (a0_0 : Int) (a0_1 : List (List D)) (a0_2 : List (List D)) (K : AV → Option R) : vfn (network_Check_C n) n Try.f12 [.ag [.d (D.int .i64 a0_0), .d (D.sl 3 a0_1), .d (D.sl 6 a0_2)]] [] (retF [[0]] K) = network_Check n a0_0 a0_1 a0_2 (fun r0 => K (.d (D.bool r0))) :=
  (show vfn (network_Check_C n) n Try.f12 [.ag [.d (D.int .i64 a0_0), .d (D.sl 3 a0_1), .d (D.sl 6 a0_2)]] [] (retF [[0]] K) = vexec (network_Check_C n) n network_Check_c0 ⟨85, [(0, .ag [.d (D.int .i64 a0_0), .d (D.sl 3 a0_1), .d (D.sl 6 a0_2)])], []⟩ (retX network_Check_tt [.tmp 2] (retF [[0]] K)) from vfn_at (by kernel_rfl) (by kernel_rfl) rfl (by kernel_rfl) rfl (by kernel_rfl) rfl).trans ((network_Check_p11_eq n a0_0 a0_1 a0_2 (retX network_Check_tt [.tmp 2] (retF [[0]] K))).trans (by kernel_rfl))
def network_Check_K : AV → Option (Bool) := fun av => match av with
  | .d (D.bool r0) => some r0
  | _ => none
def network_Check_e (n : Nat) : Entry := fun _ _ g avs _ k => match avs with
  | [c0] => 
    prG c0 fun l0 => (match l0 with
    | [c0_0, c0_1, c0_2] => prI g .i64 c0_0 fun a0_0 => prS g 3 c0_1 fun a0_1 => prS g 6 c0_2 fun a0_2 => 
    gb g (network_Check n a0_0 a0_1 a0_2 some) false fun r => k ⟨.d (D.bool r), [], []⟩
    | _ => none)
  | _ => none
theorem network_Check_ok (n : Nat) : EntryOK Try.prog 12 (network_Check_e n) := by
  intro R site g avs hl k r h
  unfold network_Check_e at h
  split at h
  rotate_left
  · cases h
  replace h := prG_some h
  obtain ⟨l0, h, e0⟩ := h
  subst e0
  split at h
  rotate_left
  · cases h
  replace h := prI_some h
  obtain ⟨a0_0, h, le0⟩ := h
  replace h := prS_some h
  obtain ⟨a0_1, h, le1⟩ := h
  replace h := prS_some h
  obtain ⟨a0_2, h, le2⟩ := h
  replace h := gb_some h
  obtain ⟨res, h, hr⟩ := h
  refine ⟨_, h, fun hg => CallOK.conv (avs' := [.ag [.d (D.int .i64 a0_0), .d (D.sl 3 a0_1), .d (D.sl 6 a0_2)]]) (.cons (.ag (.cons (le0 hg) (.cons (le1 hg) (.cons (le2 hg) (.nil))))) (.nil)) (callOK_fix (K := network_Check_K) (res := res) (network_Check_VC n) (fn := Try.f12) (n := n) (by kernel_rfl) (by kernel_rfl) (by kernel_rfl) (ss := [[0]]) rfl ?_ ?_)⟩
  · exact (network_Check_vfn n a0_0 a0_1 a0_2 network_Check_K).trans (hr hg)
  · intro x hx
    unfold network_Check_K at hx
    split at hx
    · injection hx with hx; subst hx; rfl
    · cases hx
end Go.Vx
/-
  network_Good: the interpreter computes the pure function
-/
set_option linter.unusedVariables false
set_option linter.unusedSimpArgs false
set_option maxRecDepth 100000
namespace Go.Vx
open Go.Proofs
noncomputable def network_Good_c0 : Code := bodyOf Try.f27
noncomputable def network_Good_c1 : Code := cL (bodyOf Try.f27)
noncomputable def network_Good_c2 : Code := cL (cR (bodyOf Try.f27))
noncomputable def network_Good_c3 : Code := cL (cL (cR (cR (bodyOf Try.f27))))
noncomputable def network_Good_c4 : Code := cB (cB (cR (cL (cR (cR (bodyOf Try.f27))))))
noncomputable def network_Good_c5 : Code := cB (cR (cL (cR (cR (bodyOf Try.f27)))))
noncomputable def network_Good_c6 : Code := cR (cL (cR (cR (bodyOf Try.f27))))
noncomputable def network_Good_c7 : Code := cL (cR (cR (bodyOf Try.f27)))
noncomputable def network_Good_c8 : Code := cR (cR (cR (bodyOf Try.f27)))
noncomputable def network_Good_c9 : Code := cR (cR (bodyOf Try.f27))
noncomputable def network_Good_c10 : Code := cR (bodyOf Try.f27)
theorem network_Good_c5_eq : network_Good_c5 = .loop network_Good_c4 := by kernel_rfl
theorem network_Good_c6_eq : network_Good_c6 = .block 0 network_Good_c5 := by kernel_rfl
theorem network_Good_c7_eq : network_Good_c7 = .seq network_Good_c3 network_Good_c6 := by kernel_rfl
theorem network_Good_c9_eq : network_Good_c9 = .seq network_Good_c7 network_Good_c8 := by kernel_rfl
theorem network_Good_c10_eq : network_Good_c10 = .seq network_Good_c2 network_Good_c9 := by kernel_rfl
theorem network_Good_c0_eq : network_Good_c0 = .seq network_Good_c1 network_Good_c10 := by kernel_rfl
def network_Good_tt : TT := [(3, ⟨.int .i64, 1, 8, [.int .i64 0], [.int .i64 0], [], none⟩), (22, ⟨.sl 3 1, 1, 24, [.slice none 0 0], [.sl 1 []], [], none⟩), (23, ⟨.sl 46 3, 1, 24, [.slice none 0 0], [.sl 3 []], [], none⟩), (26, ⟨.struct, 3, 56, [.int .i64 0, .slice none 0 0, .slice none 0 0], [.int .i64 0, .sl 3 [], .sl 6 []], [(0, 3), (1, 23), (2, 24)], none⟩)]
theorem network_Good_tt_eq : mkTT Try.prog [3, 22, 23, 26] = network_Good_tt := by kernel_rfl
def network_Good_cfg : List (Nat × Cfg) := [(0, ⟨[1, 2], [(2, 2)], [], [], []⟩), (1, ⟨[1, 2, 17], [(2, 2)], [], [], []⟩), (2, ⟨[4], [], [], [], []⟩), (3, ⟨[2, 18, 19, 20], [(2, 2)], [], [], []⟩), (4, ⟨[2, 18, 19, 20, 21], [(2, 2)], [], [], []⟩), (5, ⟨[2, 6, 18, 19, 20], [(2, 2)], [], [], []⟩), (6, ⟨[2, 18, 19, 20, 31], [(2, 2)], [], [], []⟩), (7, ⟨[4], [], [], [], []⟩), (8, ⟨[2, 18, 19, 20], [(2, 2)], [], [], []⟩), (9, ⟨[4], [], [], [], []⟩)]
def network_Good_C (n : Nat) : VC := ⟨specOf [(12, network_Check_e n)], network_Good_tt, network_Good_cfg⟩
theorem network_Good_ents (n : Nat) : EntsOK Try.prog [(12, network_Check_e n)] := ⟨network_Check_ok n, trivial⟩
theorem network_Good_VC (n : Nat) : VCOk Try.prog (network_Good_C n) := ⟨specOf_ok (network_Good_ents n), (network_Good_tt_eq ▸ mkTT_ok _ : TOk Try.prog network_Good_tt), by kernel_rfl⟩
theorem network_Good_p1_congr {R : Type} (n : Nat) (a0_0 : Int) (a0_1 : List (List D)) (a0_2 : List (List D)) (a1 : List (List D)) {k0 kk0 : Option R} (hq0 : k0 = kk0) : network_Good_p1 n a0_0 a0_1 a0_2 a1 k0 = network_Good_p1 n a0_0 a0_1 a0_2 a1 kk0 := by
  obtain rfl : k0 = kk0 := hq0
  rfl
theorem network_Good_p2_congr {R : Type} (n : Nat) (a1 : List (List D)) (a0_0 : Int) (a0_1 : List (List D)) (a0_2 : List (List D)) {k0 kk0 : Option R} {k1 kk1 : Bool → Option R} (hq0 : k0 = kk0) (hq1 : ∀ x0, k1 x0 = kk1 x0) : network_Good_p2 n a1 a0_0 a0_1 a0_2 k0 k1 = network_Good_p2 n a1 a0_0 a0_1 a0_2 kk0 kk1 := by
  obtain rfl : k0 = kk0 := hq0
  obtain rfl : k1 = kk1 := funext fun x0 => hq1 x0
  rfl
theorem network_Good_p3_congr {R : Type} (n : Nat) (a1 : List (List D)) (w3 : Bool) (a0_0 : Int) (a0_1 : List (List D)) (a0_2 : List (List D)) {k0 kk0 : Int → Option R} (hq0 : ∀ x0, k0 x0 = kk0 x0) : network_Good_p3 n a1 w3 a0_0 a0_1 a0_2 k0 = network_Good_p3 n a1 w3 a0_0 a0_1 a0_2 kk0 := by
  obtain rfl : k0 = kk0 := funext fun x0 => hq0 x0
  rfl
theorem network_Good_p4_congr {R : Type} (n : Nat) (a1 : List (List D)) (w5 : Int) (h8 : Int) (a0_0 : Int) (a0_1 : List (List D)) (a0_2 : List (List D)) {k0 kk0 : Option R} {k1 kk1 : Int → Option R} {k2 kk2 : Bool → Option R} (hq0 : k0 = kk0) (hq1 : ∀ x0, k1 x0 = kk1 x0) (hq2 : ∀ x0, k2 x0 = kk2 x0) : network_Good_p4 n a1 w5 h8 a0_0 a0_1 a0_2 k0 k1 k2 = network_Good_p4 n a1 w5 h8 a0_0 a0_1 a0_2 kk0 kk1 kk2 := by
  obtain rfl : k0 = kk0 := hq0
  obtain rfl : k1 = kk1 := funext fun x0 => hq1 x0
  obtain rfl : k2 = kk2 := funext fun x0 => hq2 x0
  rfl
theorem network_Good_p5_congr {R : Type} (n : Nat) (a1 : List (List D)) (w5 : Int) (a0_0 : Int) (a0_1 : List (List D)) (a0_2 : List (List D)) {k0 kk0 : Option R} {k1 kk1 : Int → Bool → Option R} (hq0 : k0 = kk0) (hq1 : ∀ x0 x1, k1 x0 x1 = kk1 x0 x1) : network_Good_p5 n a1 w5 a0_0 a0_1 a0_2 k0 k1 = network_Good_p5 n a1 w5 a0_0 a0_1 a0_2 kk0 kk1 := by
  obtain rfl : k0 = kk0 := hq0
  obtain rfl : k1 = kk1 := funext fun x0 => funext fun x1 => hq1 x0 x1
  rfl
theorem network_Good_p6_congr {R : Type} (n : Nat) (a1 : List (List D)) (w5 : Int) (a0_0 : Int) (a0_1 : List (List D)) (a0_2 : List (List D)) {k0 kk0 : Option R} {k1 kk1 : Int → Bool → Option R} (hq0 : k0 = kk0) (hq1 : ∀ x0 x1, k1 x0 x1 = kk1 x0 x1) : network_Good_p6 n a1 w5 a0_0 a0_1 a0_2 k0 k1 = network_Good_p6 n a1 w5 a0_0 a0_1 a0_2 kk0 kk1 := by
  obtain rfl : k0 = kk0 := hq0
  obtain rfl : k1 = kk1 := funext fun x0 => funext fun x1 => hq1 x0 x1
  rfl
theorem network_Good_p7_congr {R : Type} (n : Nat) (a1 : List (List D)) (w3 : Bool) (a0_0 : Int) (a0_1 : List (List D)) (a0_2 : List (List D)) {k0 kk0 : Option R} {k1 kk1 : Int → Int → Bool → Option R} (hq0 : k0 = kk0) (hq1 : ∀ x0 x1 x2, k1 x0 x1 x2 = kk1 x0 x1 x2) : network_Good_p7 n a1 w3 a0_0 a0_1 a0_2 k0 k1 = network_Good_p7 n a1 w3 a0_0 a0_1 a0_2 kk0 kk1 := by
  obtain rfl : k0 = kk0 := hq0
  obtain rfl : k1 = kk1 := funext fun x0 => funext fun x1 => funext fun x2 => hq1 x0 x1 x2
  rfl
theorem network_Good_p8_congr {R : Type} (n : Nat) (a1 : List (List D)) (w28 : Int) (w29 : Int) (w30 : Bool) (a0_0 : Int) (a0_1 : List (List D)) (a0_2 : List (List D)) {k0 kk0 : Option R} (hq0 : k0 = kk0) : network_Good_p8 n a1 w28 w29 w30 a0_0 a0_1 a0_2 k0 = network_Good_p8 n a1 w28 w29 w30 a0_0 a0_1 a0_2 kk0 := by
  obtain rfl : k0 = kk0 := hq0
  rfl
theorem network_Good_p9_congr {R : Type} (n : Nat) (a1 : List (List D)) (w3 : Bool) (a0_0 : Int) (a0_1 : List (List D)) (a0_2 : List (List D)) {k0 kk0 : Bool → Option R} (hq0 : ∀ x0, k0 x0 = kk0 x0) : network_Good_p9 n a1 w3 a0_0 a0_1 a0_2 k0 = network_Good_p9 n a1 w3 a0_0 a0_1 a0_2 kk0 := by
  obtain rfl : k0 = kk0 := funext fun x0 => hq0 x0
  rfl
theorem network_Good_p10_congr {R : Type} (n : Nat) (a1 : List (List D)) (a0_0 : Int) (a0_1 : List (List D)) (a0_2 : List (List D)) {k0 kk0 : Bool → Option R} (hq0 : ∀ x0, k0 x0 = kk0 x0) : network_Good_p10 n a1 a0_0 a0_1 a0_2 k0 = network_Good_p10 n a1 a0_0 a0_1 a0_2 kk0 := by
  obtain rfl : k0 = kk0 := funext fun x0 => hq0 x0
  rfl
theorem network_Good_p11_congr {R : Type} (n : Nat) (a0_0 : Int) (a0_1 : List (List D)) (a0_2 : List (List D)) (a1 : List (List D)) {k0 kk0 : Bool → Option R} (hq0 : ∀ x0, k0 x0 = kk0 x0) : network_Good_p11 n a0_0 a0_1 a0_2 a1 k0 = network_Good_p11 n a0_0 a0_1 a0_2 a1 kk0 := by
  obtain rfl : k0 = kk0 := funext fun x0 => hq0 x0
  rfl
theorem network_Good_p1_eq {R : Type} (n : Nat) (a0_0 : Int) (a0_1 : List (List D)) (a0_2 : List (List D)) (a1 : List (List D)) (k : Exit → St → Option R) : vexec (network_Good_C n) n network_Good_c1 ⟨33, [(0, .ag [.d (D.int .i64 a0_0), .d (D.sl 3 a0_1), .d (D.sl 6 a0_2)]), (1, .d (D.sl 1 a1))], []⟩ k = network_Good_p1 n a0_0 a0_1 a0_2 a1 (k .normal ⟨33, [(1, .d (D.sl 1 a1)), (2, .ptr 2 0)], [(2, .box [.d (D.int .i64 a0_0), .d (D.sl 3 a0_1), .d (D.sl 6 a0_2)])]⟩) := by kernel_rfl
theorem network_Good_p2_eq {R : Type} (n : Nat) (a1 : List (List D)) (a0_0 : Int) (a0_1 : List (List D)) (a0_2 : List (List D)) (k : Exit → St → Option R) : vexec (network_Good_C n) n network_Good_c2 ⟨33, [(1, .d (D.sl 1 a1)), (2, .ptr 2 0)], [(2, .box [.d (D.int .i64 a0_0), .d (D.sl 3 a0_1), .d (D.sl 6 a0_2)])]⟩ k = network_Good_p2 n a1 a0_0 a0_1 a0_2 (k .ret ⟨33, [(4, .d (D.bool false))], []⟩) (fun z2 => k .normal ⟨33, [(1, .d (D.sl 1 a1)), (2, .ptr 2 0), (17, .d (D.bool z2))], [(2, .box [.d (D.int .i64 a0_0), .d (D.sl 3 a0_1), .d (D.sl 6 a0_2)])]⟩) := by kernel_rfl
theorem network_Good_p3_eq {R : Type} (n : Nat) (a1 : List (List D)) (w3 : Bool) (a0_0 : Int) (a0_1 : List (List D)) (a0_2 : List (List D)) (k : Exit → St → Option R) : vexec (network_Good_C n) n network_Good_c3 ⟨33, [(1, .d (D.sl 1 a1)), (2, .ptr 2 0), (17, .d (D.bool w3))], [(2, .box [.d (D.int .i64 a0_0), .d (D.sl 3 a0_1), .d (D.sl 6 a0_2)])]⟩ k = network_Good_p3 n a1 w3 a0_0 a0_1 a0_2 (fun z4 => k .normal ⟨33, [(2, .ptr 2 0), (18, .d (D.sl 1 a1)), (19, .d (D.int .i64 z4)), (20, .d (D.int .i64 (0 : Int)))], [(2, .box [.d (D.int .i64 a0_0), .d (D.sl 3 a0_1), .d (D.sl 6 a0_2)])]⟩) := by kernel_rfl
theorem network_Good_p4_eq {R : Type} (n : Nat) (a1 : List (List D)) (w5 : Int) (h8 : Int) (a0_0 : Int) (a0_1 : List (List D)) (a0_2 : List (List D)) (k : Exit → St → Option R) : vexec (network_Good_C n) n network_Good_c4 ⟨33, [(2, .ptr 2 0), (18, .d (D.sl 1 a1)), (19, .d (D.int .i64 w5)), (20, .d (D.int .i64 h8))], [(2, .box [.d (D.int .i64 a0_0), .d (D.sl 3 a0_1), .d (D.sl 6 a0_2)])]⟩ k = network_Good_p4 n a1 w5 h8 a0_0 a0_1 a0_2 (k .ret ⟨33, [(4, .d (D.bool false))], []⟩) (fun z20 => k .normal ⟨33, [(2, .ptr 2 0), (18, .d (D.sl 1 a1)), (19, .d (D.int .i64 w5)), (20, .d (D.int .i64 z20))], [(2, .box [.d (D.int .i64 a0_0), .d (D.sl 3 a0_1), .d (D.sl 6 a0_2)])]⟩) (fun z21 => k (.exit 0) ⟨33, [(2, .ptr 2 0), (18, .d (D.sl 1 a1)), (19, .d (D.int .i64 w5)), (20, .d (D.int .i64 h8)), (21, .d (D.bool z21))], [(2, .box [.d (D.int .i64 a0_0), .d (D.sl 3 a0_1), .d (D.sl 6 a0_2)])]⟩) := by kernel_rfl
theorem network_Good_r5_eq {R : Type} (n : Nat) (a1 : List (List D)) (w5 : Int) (a0_0 : Int) (a0_1 : List (List D)) (a0_2 : List (List D)) (k : Exit → St → Option R) : ∀ (m : Nat) (h8 : Int), loopN (vexec (network_Good_C n) n network_Good_c4) m ⟨33, [(2, .ptr 2 0), (18, .d (D.sl 1 a1)), (19, .d (D.int .i64 w5)), (20, .d (D.int .i64 h8))], [(2, .box [.d (D.int .i64 a0_0), .d (D.sl 3 a0_1), .d (D.sl 6 a0_2)])]⟩ k = network_Good_r5 n a1 w5 a0_0 a0_1 a0_2 (k .ret ⟨33, [(4, .d (D.bool false))], []⟩) (fun h8 w23 => k (.exit 0) ⟨33, [(2, .ptr 2 0), (18, .d (D.sl 1 a1)), (19, .d (D.int .i64 w5)), (20, .d (D.int .i64 h8)), (21, .d (D.bool w23))], [(2, .box [.d (D.int .i64 a0_0), .d (D.sl 3 a0_1), .d (D.sl 6 a0_2)])]⟩) m h8
  | 0, _ => rfl
  | m + 1, h8 => (network_Good_p4_eq n a1 w5 h8 a0_0 a0_1 a0_2 (loopK (vexec (network_Good_C n) n network_Good_c4) m k)).trans (network_Good_p4_congr n a1 w5 h8 a0_0 a0_1 a0_2 (rfl) (fun w22 => network_Good_r5_eq n a1 w5 a0_0 a0_1 a0_2 k m w22) (fun w23 => rfl))
theorem network_Good_p5_eq {R : Type} (n : Nat) (a1 : List (List D)) (w5 : Int) (a0_0 : Int) (a0_1 : List (List D)) (a0_2 : List (List D)) (k : Exit → St → Option R) : vexec (network_Good_C n) n network_Good_c5 ⟨33, [(2, .ptr 2 0), (18, .d (D.sl 1 a1)), (19, .d (D.int .i64 w5)), (20, .d (D.int .i64 (0 : Int)))], [(2, .box [.d (D.int .i64 a0_0), .d (D.sl 3 a0_1), .d (D.sl 6 a0_2)])]⟩ k = network_Good_p5 n a1 w5 a0_0 a0_1 a0_2 (k .ret ⟨33, [(4, .d (D.bool false))], []⟩) (fun h8 w23 => k (.exit 0) ⟨33, [(2, .ptr 2 0), (18, .d (D.sl 1 a1)), (19, .d (D.int .i64 w5)), (20, .d (D.int .i64 h8)), (21, .d (D.bool w23))], [(2, .box [.d (D.int .i64 a0_0), .d (D.sl 3 a0_1), .d (D.sl 6 a0_2)])]⟩) := by
  rw [network_Good_c5_eq]
  exact network_Good_r5_eq n a1 w5 a0_0 a0_1 a0_2 k n (0 : Int)
theorem network_Good_p6_eq {R : Type} (n : Nat) (a1 : List (List D)) (w5 : Int) (a0_0 : Int) (a0_1 : List (List D)) (a0_2 : List (List D)) (k : Exit → St → Option R) : vexec (network_Good_C n) n network_Good_c6 ⟨33, [(2, .ptr 2 0), (18, .d (D.sl 1 a1)), (19, .d (D.int .i64 w5)), (20, .d (D.int .i64 (0 : Int)))], [(2, .box [.d (D.int .i64 a0_0), .d (D.sl 3 a0_1), .d (D.sl 6 a0_2)])]⟩ k = network_Good_p6 n a1 w5 a0_0 a0_1 a0_2 (k .ret ⟨33, [(4, .d (D.bool false))], []⟩) (fun w24 w25 => k .normal ⟨33, [(2, .ptr 2 0), (18, .d (D.sl 1 a1)), (19, .d (D.int .i64 w5)), (20, .d (D.int .i64 w24)), (21, .d (D.bool w25))], [(2, .box [.d (D.int .i64 a0_0), .d (D.sl 3 a0_1), .d (D.sl 6 a0_2)])]⟩) := by
  rw [network_Good_c6_eq]
  unfold network_Good_p6
  exact (network_Good_p5_eq n a1 w5 a0_0 a0_1 a0_2 (blockK 0 k)).trans (network_Good_p5_congr n a1 w5 a0_0 a0_1 a0_2 (rfl) (fun w24 w25 => rfl))
theorem network_Good_p7_eq {R : Type} (n : Nat) (a1 : List (List D)) (w3 : Bool) (a0_0 : Int) (a0_1 : List (List D)) (a0_2 : List (List D)) (k : Exit → St → Option R) : vexec (network_Good_C n) n network_Good_c7 ⟨33, [(1, .d (D.sl 1 a1)), (2, .ptr 2 0), (17, .d (D.bool w3))], [(2, .box [.d (D.int .i64 a0_0), .d (D.sl 3 a0_1), .d (D.sl 6 a0_2)])]⟩ k = network_Good_p7 n a1 w3 a0_0 a0_1 a0_2 (k .ret ⟨33, [(4, .d (D.bool false))], []⟩) (fun w5 w26 w27 => k .normal ⟨33, [(2, .ptr 2 0), (18, .d (D.sl 1 a1)), (19, .d (D.int .i64 w5)), (20, .d (D.int .i64 w26)), (21, .d (D.bool w27))], [(2, .box [.d (D.int .i64 a0_0), .d (D.sl 3 a0_1), .d (D.sl 6 a0_2)])]⟩) := by
  rw [network_Good_c7_eq]
  unfold network_Good_p7
  exact (network_Good_p3_eq n a1 w3 a0_0 a0_1 a0_2 (seqK (network_Good_C n) n network_Good_c6 k)).trans (network_Good_p3_congr n a1 w3 a0_0 a0_1 a0_2 (fun w5 => network_Good_p6_eq n a1 w5 a0_0 a0_1 a0_2 k))
theorem network_Good_p8_eq {R : Type} (n : Nat) (a1 : List (List D)) (w28 : Int) (w29 : Int) (w30 : Bool) (a0_0 : Int) (a0_1 : List (List D)) (a0_2 : List (List D)) (k : Exit → St → Option R) : vexec (network_Good_C n) n network_Good_c8 ⟨33, [(2, .ptr 2 0), (18, .d (D.sl 1 a1)), (19, .d (D.int .i64 w28)), (20, .d (D.int .i64 w29)), (21, .d (D.bool w30))], [(2, .box [.d (D.int .i64 a0_0), .d (D.sl 3 a0_1), .d (D.sl 6 a0_2)])]⟩ k = network_Good_p8 n a1 w28 w29 w30 a0_0 a0_1 a0_2 (k .ret ⟨33, [(4, .d (D.bool true))], []⟩) := by kernel_rfl
theorem network_Good_p9_eq {R : Type} (n : Nat) (a1 : List (List D)) (w3 : Bool) (a0_0 : Int) (a0_1 : List (List D)) (a0_2 : List (List D)) (k : Exit → St → Option R) : vexec (network_Good_C n) n network_Good_c9 ⟨33, [(1, .d (D.sl 1 a1)), (2, .ptr 2 0), (17, .d (D.bool w3))], [(2, .box [.d (D.int .i64 a0_0), .d (D.sl 3 a0_1), .d (D.sl 6 a0_2)])]⟩ k = network_Good_p9 n a1 w3 a0_0 a0_1 a0_2 (fun z31 => k .ret ⟨33, [(4, .d (D.bool z31))], []⟩) := by
  rw [network_Good_c9_eq]
  unfold network_Good_p9
  exact (network_Good_p7_eq n a1 w3 a0_0 a0_1 a0_2 (seqK (network_Good_C n) n network_Good_c8 k)).trans (network_Good_p7_congr n a1 w3 a0_0 a0_1 a0_2 (rfl) (fun w28 w29 w30 => network_Good_p8_eq n a1 w28 w29 w30 a0_0 a0_1 a0_2 k))
theorem network_Good_p10_eq {R : Type} (n : Nat) (a1 : List (List D)) (a0_0 : Int) (a0_1 : List (List D)) (a0_2 : List (List D)) (k : Exit → St → Option R) : vexec (network_Good_C n) n network_Good_c10 ⟨33, [(1, .d (D.sl 1 a1)), (2, .ptr 2 0)], [(2, .box [.d (D.int .i64 a0_0), .d (D.sl 3 a0_1), .d (D.sl 6 a0_2)])]⟩ k = network_Good_p10 n a1 a0_0 a0_1 a0_2 (fun z33 => k .ret ⟨33, [(4, .d (D.bool z33))], []⟩) := by
  rw [network_Good_c10_eq]
  unfold network_Good_p10
  exact (network_Good_p2_eq n a1 a0_0 a0_1 a0_2 (seqK (network_Good_C n) n network_Good_c9 k)).trans (network_Good_p2_congr n a1 a0_0 a0_1 a0_2 (rfl) (fun w3 => network_Good_p9_eq n a1 w3 a0_0 a0_1 a0_2 k))
theorem network_Good_p11_eq {R : Type} (n : Nat) (a0_0 : Int) (a0_1 : List (List D)) (a0_2 : List (List D)) (a1 : List (List D)) (k : Exit → St → Option R) : vexec (network_Good_C n) n network_Good_c0 ⟨33, [(0, .ag [.d (D.int .i64 a0_0), .d (D.sl 3 a0_1), .d (D.sl 6 a0_2)]), (1, .d (D.sl 1 a1))], []⟩ k = network_Good_p11 n a0_0 a0_1 a0_2 a1 (fun w34 => k .ret ⟨33, [(4, .d (D.bool w34))], []⟩) := by
  rw [network_Good_c0_eq]
  unfold network_Good_p11
  exact (network_Good_p1_eq n a0_0 a0_1 a0_2 a1 (seqK (network_Good_C n) n network_Good_c10 k)).trans (network_Good_p1_congr n a0_0 a0_1 a0_2 a1 (network_Good_p10_eq n a1 a0_0 a0_1 a0_2 k))
theorem network_Good_vfn {R : Type} (n : Nat) (a0_0 : Int) (a0_1 : List (List D)) (a0_2 : List (List D)) (a1 : List (List D)) (K : AV → Option R) : vfn (network_Good_C n) n Try.f27 [.ag [.d (D.int .i64 a0_0), .d (D.sl 3 a0_1), .d (D.sl 6 a0_2)], .d (D.sl 1 a1)] [] (retF [[0]] K) = network_Good n a0_0 a0_1 a0_2 a1 (fun r0 => K (.d (D.bool r0))) :=
  (show vfn (network_Good_C n) n Try.f27 [.ag [.d (D.int .i64 a0_0), .d (D.sl 3 a0_1), .d (D.sl 6 a0_2)], .d (D.sl 1 a1)] [] (retF [[0]] K) = vexec (network_Good_C n) n network_Good_c0 ⟨33, [(0, .ag [.d (D.int .i64 a0_0), .d (D.sl 3 a0_1), .d (D.sl 6 a0_2)]), (1, .d (D.sl 1 a1))], []⟩ (retX network_Good_tt [.tmp 4] (retF [[0]] K)) from vfn_at (by kernel_rfl) (by kernel_rfl) rfl (by kernel_rfl) rfl (by kernel_rfl) rfl).trans ((network_Good_p11_eq n a0_0 a0_1 a0_2 a1 (retX network_Good_tt [.tmp 4] (retF [[0]] K))).trans (by kernel_rfl))
def network_Good_K : AV → Option (Bool) := fun av => match av with
  | .d (D.bool r0) => some r0
  | _ => none
def network_Good_e (n : Nat) : Entry := fun _ _ g avs _ k => match avs with
  | [c0, c1] => 
    prG c0 fun l0 => (match l0 with
    | [c0_0, c0_1, c0_2] => prI g .i64 c0_0 fun a0_0 => prS g 3 c0_1 fun a0_1 => prS g 6 c0_2 fun a0_2 => prS g 1 c1 fun a1 => 
    gb g (network_Good n a0_0 a0_1 a0_2 a1 some) false fun r => k ⟨.d (D.bool r), [], []⟩
    | _ => none)
  | _ => none
theorem network_Good_ok (n : Nat) : EntryOK Try.prog 27 (network_Good_e n) := by
  intro R site g avs hl k r h
  unfold network_Good_e at h
  split at h
  rotate_left
  · cases h
  replace h := prG_some h
  obtain ⟨l0, h, e0⟩ := h
  subst e0
  split at h
  rotate_left
  · cases h
  replace h := prI_some h
  obtain ⟨a0_0, h, le0⟩ := h
  replace h := prS_some h
  obtain ⟨a0_1, h, le1⟩ := h
  replace h := prS_some h
  obtain ⟨a0_2, h, le2⟩ := h
  replace h := prS_some h
  obtain ⟨a1, h, le3⟩ := h
  replace h := gb_some h
  obtain ⟨res, h, hr⟩ := h
  refine ⟨_, h, fun hg => CallOK.conv (avs' := [.ag [.d (D.int .i64 a0_0), .d (D.sl 3 a0_1), .d (D.sl 6 a0_2)], .d (D.sl 1 a1)]) (.cons (.ag (.cons (le0 hg) (.cons (le1 hg) (.cons (le2 hg) (.nil))))) (.cons (le3 hg) (.nil))) (callOK_fix (K := network_Good_K) (res := res) (network_Good_VC n) (fn := Try.f27) (n := n) (by kernel_rfl) (by kernel_rfl) (by kernel_rfl) (ss := [[0]]) rfl ?_ ?_)⟩
  · exact (network_Good_vfn n a0_0 a0_1 a0_2 a1 network_Good_K).trans (hr hg)
  · intro x hx
    unfold network_Good_K at hx
    split at hx
    · injection hx with hx; subst hx; rfl
    · cases hx
end Go.Vx
/-
  arith_Mod: the interpreter computes the pure function
-/
set_option linter.unusedVariables false
set_option linter.unusedSimpArgs false
set_option maxRecDepth 100000
namespace Go.Vx
open Go.Proofs
noncomputable def arith_Mod_c0 : Code := bodyOf Try.f36
def arith_Mod_tt : TT := [(3, ⟨.int .i64, 1, 8, [.int .i64 0], [.int .i64 0], [], none⟩)]
theorem arith_Mod_tt_eq : mkTT Try.prog [3] = arith_Mod_tt := by kernel_rfl
def arith_Mod_cfg : List (Nat × Cfg) := [(0, ⟨[0, 1], [], [], [], []⟩), (1, ⟨[0, 1, 7], [], [], [], []⟩), (2, ⟨[4], [], [], [], []⟩), (3, ⟨[1, 5], [], [], [], []⟩), (4, ⟨[1, 5, 12], [], [], [], []⟩), (5, ⟨[5], [], [], [], []⟩), (6, ⟨[4], [], [], [], []⟩)]
def arith_Mod_C (n : Nat) : VC := ⟨specOf [], arith_Mod_tt, arith_Mod_cfg⟩
theorem arith_Mod_ents (n : Nat) : EntsOK Try.prog [] := trivial
theorem arith_Mod_VC (n : Nat) : VCOk Try.prog (arith_Mod_C n) := ⟨specOf_ok (arith_Mod_ents n), (arith_Mod_tt_eq ▸ mkTT_ok _ : TOk Try.prog arith_Mod_tt), by kernel_rfl⟩
theorem arith_Mod_p1_congr {R : Type} (n : Nat) (a0 : Int) (a1 : Int) {k0 kk0 : Int → Option R} (hq0 : ∀ x0, k0 x0 = kk0 x0) : arith_Mod_p1 n a0 a1 k0 = arith_Mod_p1 n a0 a1 kk0 := by
  obtain rfl : k0 = kk0 := funext fun x0 => hq0 x0
  rfl
theorem arith_Mod_p1_eq {R : Type} (n : Nat) (a0 : Int) (a1 : Int) (k : Exit → St → Option R) : vexec (arith_Mod_C n) n arith_Mod_c0 ⟨17, [(0, .d (D.int .i64 a0)), (1, .d (D.int .i64 a1))], []⟩ k = arith_Mod_p1 n a0 a1 (fun z2 => k .ret ⟨17, [(4, .d (D.int .i64 z2))], []⟩) := by kernel_rfl
theorem arith_Mod_vfn {R : Type} (n : Nat) (a0 : Int) (a1 : Int) (K : AV → Option R) : vfn (arith_Mod_C n) n Try.f36 [.d (D.int .i64 a0), .d (D.int .i64 a1)] [] (retF [[0]] K) = arith_Mod n a0 a1 (fun r0 => K (.d (D.int .i64 r0))) :=
  (show vfn (arith_Mod_C n) n Try.f36 [.d (D.int .i64 a0), .d (D.int .i64 a1)] [] (retF [[0]] K) = vexec (arith_Mod_C n) n arith_Mod_c0 ⟨17, [(0, .d (D.int .i64 a0)), (1, .d (D.int .i64 a1))], []⟩ (retX arith_Mod_tt [.tmp 4] (retF [[0]] K)) from vfn_at (by kernel_rfl) (by kernel_rfl) rfl (by kernel_rfl) rfl (by kernel_rfl) rfl).trans ((arith_Mod_p1_eq n a0 a1 (retX arith_Mod_tt [.tmp 4] (retF [[0]] K))).trans (by kernel_rfl))
def arith_Mod_K : AV → Option (Int) := fun av => match av with
  | .d (D.int .i64 r0) => some r0
  | _ => none
def arith_Mod_e (n : Nat) : Entry := fun _ _ g avs _ k => match avs with
  | [c0, c1] => prI g .i64 c0 fun a0 => prI g .i64 c1 fun a1 => 
    gb g (arith_Mod n a0 a1 some) 0 fun r => k ⟨.d (D.int .i64 r), [], []⟩
  | _ => none
theorem arith_Mod_ok (n : Nat) : EntryOK Try.prog 36 (arith_Mod_e n) := by
  intro R site g avs hl k r h
  unfold arith_Mod_e at h
  split at h
  rotate_left
  · cases h
  replace h := prI_some h
  obtain ⟨a0, h, le0⟩ := h
  replace h := prI_some h
  obtain ⟨a1, h, le1⟩ := h
  replace h := gb_some h
  obtain ⟨res, h, hr⟩ := h
  refine ⟨_, h, fun hg => CallOK.conv (avs' := [.d (D.int .i64 a0), .d (D.int .i64 a1)]) (.cons (le0 hg) (.cons (le1 hg) (.nil))) (callOK_fix (K := arith_Mod_K) (res := res) (arith_Mod_VC n) (fn := Try.f36) (n := n) (by kernel_rfl) (by kernel_rfl) (by kernel_rfl) (ss := [[0]]) rfl ?_ ?_)⟩
  · exact (arith_Mod_vfn n a0 a1 arith_Mod_K).trans (hr hg)
  · intro x hx
    unfold arith_Mod_K at hx
    split at hx
    · injection hx with hx; subst hx; rfl
    · cases hx
end Go.Vx
/-
  network_duration: the interpreter computes the pure function
-/
set_option linter.unusedVariables false
set_option linter.unusedSimpArgs false
set_option maxRecDepth 100000
namespace Go.Vx
open Go.Proofs
noncomputable def network_duration_c0 : Code := bodyOf Try.f28
def network_duration_tt : TT := [(3, ⟨.int .i64, 1, 8, [.int .i64 0], [.int .i64 0], [], none⟩), (22, ⟨.sl 3 1, 1, 24, [.slice none 0 0], [.sl 1 []], [], none⟩), (26, ⟨.struct, 3, 56, [.int .i64 0, .slice none 0 0, .slice none 0 0], [.int .i64 0, .sl 3 [], .sl 6 []], [(0, 3), (1, 23), (2, 24)], none⟩), (31, ⟨.struct, 6, 48, [.int .i64 0, .int .i64 0, .int .i64 0, .int .i64 0, .int .i64 0, .int .i64 0], [.int .i64 0, .int .i64 0, .int .i64 0, .int .i64 0, .int .i64 0, .int .i64 0], [(0, 3), (1, 3), (2, 3), (3, 3), (4, 3), (5, 3)], some [.int .i64, .int .i64, .int .i64, .int .i64, .int .i64, .int .i64]⟩)]
theorem network_duration_tt_eq : mkTT Try.prog [3, 22, 26, 31] = network_duration_tt := by kernel_rfl
def network_duration_cfg : List (Nat × Cfg) := [(0, ⟨[1, 3, 5], [(3, 3), (5, 5)], [], [], []⟩), (1, ⟨[6], [], [], [], []⟩)]
def network_duration_C (n : Nat) : VC := ⟨specOf [(36, arith_Mod_e n)], network_duration_tt, network_duration_cfg⟩
theorem network_duration_ents (n : Nat) : EntsOK Try.prog [(36, arith_Mod_e n)] := ⟨arith_Mod_ok n, trivial⟩
theorem network_duration_VC (n : Nat) : VCOk Try.prog (network_duration_C n) := ⟨specOf_ok (network_duration_ents n), (network_duration_tt_eq ▸ mkTT_ok _ : TOk Try.prog network_duration_tt), by kernel_rfl⟩
theorem network_duration_p1_congr {R : Type} (n : Nat) (a0_0 : Int) (a0_1 : List (List D)) (a0_2 : List (List D)) (a1 : List (List D)) (a2_0 : Int) (a2_1 : Int) (a2_2 : Int) (a2_3 : Int) (a2_4 : Int) (a2_5 : Int) {k0 kk0 : Int → Option R} (hq0 : ∀ x0, k0 x0 = kk0 x0) : network_duration_p1 n a0_0 a0_1 a0_2 a1 a2_0 a2_1 a2_2 a2_3 a2_4 a2_5 k0 = network_duration_p1 n a0_0 a0_1 a0_2 a1 a2_0 a2_1 a2_2 a2_3 a2_4 a2_5 kk0 := by
  obtain rfl : k0 = kk0 := funext fun x0 => hq0 x0
  rfl
theorem network_duration_p1_eq {R : Type} (n : Nat) (a0_0 : Int) (a0_1 : List (List D)) (a0_2 : List (List D)) (a1 : List (List D)) (a2_0 : Int) (a2_1 : Int) (a2_2 : Int) (a2_3 : Int) (a2_4 : Int) (a2_5 : Int) (k : Exit → St → Option R) : vexec (network_duration_C n) n network_duration_c0 ⟨27, [(0, .ag [.d (D.int .i64 a0_0), .d (D.sl 3 a0_1), .d (D.sl 6 a0_2)]), (1, .d (D.sl 1 a1)), (2, .ag [.d (D.int .i64 a2_0), .d (D.int .i64 a2_1), .d (D.int .i64 a2_2), .d (D.int .i64 a2_3), .d (D.int .i64 a2_4), .d (D.int .i64 a2_5)])], []⟩ k = network_duration_p1 n a0_0 a0_1 a0_2 a1 a2_0 a2_1 a2_2 a2_3 a2_4 a2_5 (fun z8 => k .ret ⟨27, [(6, .d (D.int .i64 z8))], []⟩) := by kernel_rfl
theorem network_duration_vfn {R : Type} (n : Nat) (a0_0 : Int) (a0_1 : List (List D)) (a0_2 : List (List D)) (a1 : List (List D)) (a2_0 : Int) (a2_1 : Int) (a2_2 : Int) (a2_3 : Int) (a2_4 : Int) (a2_5 : Int) (K : AV → Option R) : vfn (network_duration_C n) n Try.f28 [.ag [.d (D.int .i64 a0_0), .d (D.sl 3 a0_1), .d (D.sl 6 a0_2)], .d (D.sl 1 a1), .ag [.d (D.int .i64 a2_0), .d (D.int .i64 a2_1), .d (D.int .i64 a2_2), .d (D.int .i64 a2_3), .d (D.int .i64 a2_4), .d (D.int .i64 a2_5)]] [] (retF [[0]] K) = network_duration n a0_0 a0_1 a0_2 a1 a2_0 a2_1 a2_2 a2_3 a2_4 a2_5 (fun r0 => K (.d (D.int .i64 r0))) :=
  (show vfn (network_duration_C n) n Try.f28 [.ag [.d (D.int .i64 a0_0), .d (D.sl 3 a0_1), .d (D.sl 6 a0_2)], .d (D.sl 1 a1), .ag [.d (D.int .i64 a2_0), .d (D.int .i64 a2_1), .d (D.int .i64 a2_2), .d (D.int .i64 a2_3), .d (D.int .i64 a2_4), .d (D.int .i64 a2_5)]] [] (retF [[0]] K) = vexec (network_duration_C n) n network_duration_c0 ⟨27, [(0, .ag [.d (D.int .i64 a0_0), .d (D.sl 3 a0_1), .d (D.sl 6 a0_2)]), (1, .d (D.sl 1 a1)), (2, .ag [.d (D.int .i64 a2_0), .d (D.int .i64 a2_1), .d (D.int .i64 a2_2), .d (D.int .i64 a2_3), .d (D.int .i64 a2_4), .d (D.int .i64 a2_5)])], []⟩ (retX network_duration_tt [.tmp 6] (retF [[0]] K)) from vfn_at (by kernel_rfl) (by kernel_rfl) rfl (by kernel_rfl) rfl (by kernel_rfl) rfl).trans ((network_duration_p1_eq n a0_0 a0_1 a0_2 a1 a2_0 a2_1 a2_2 a2_3 a2_4 a2_5 (retX network_duration_tt [.tmp 6] (retF [[0]] K))).trans (by kernel_rfl))
def network_duration_K : AV → Option (Int) := fun av => match av with
  | .d (D.int .i64 r0) => some r0
  | _ => none
def network_duration_e (n : Nat) : Entry := fun _ _ g avs _ k => match avs with
  | [c0, c1, c2] => 
    prG c0 fun l0 => (match l0 with
    | [c0_0, c0_1, c0_2] => prI g .i64 c0_0 fun a0_0 => prS g 3 c0_1 fun a0_1 => prS g 6 c0_2 fun a0_2 => prS g 1 c1 fun a1 => 
    prG c2 fun l2 => (match l2 with
    | [c2_0, c2_1, c2_2, c2_3, c2_4, c2_5] => prI g .i64 c2_0 fun a2_0 => prI g .i64 c2_1 fun a2_1 => prI g .i64 c2_2 fun a2_2 => prI g .i64 c2_3 fun a2_3 => prI g .i64 c2_4 fun a2_4 => prI g .i64 c2_5 fun a2_5 => 
    gb g (network_duration n a0_0 a0_1 a0_2 a1 a2_0 a2_1 a2_2 a2_3 a2_4 a2_5 some) 0 fun r => k ⟨.d (D.int .i64 r), [], []⟩
    | _ => none)
    | _ => none)
  | _ => none
theorem network_duration_ok (n : Nat) : EntryOK Try.prog 28 (network_duration_e n) := by
  intro R site g avs hl k r h
  unfold network_duration_e at h
  split at h
  rotate_left
  · cases h
  replace h := prG_some h
  obtain ⟨l0, h, e0⟩ := h
  subst e0
  split at h
  rotate_left
  · cases h
  replace h := prI_some h
  obtain ⟨a0_0, h, le0⟩ := h
  replace h := prS_some h
  obtain ⟨a0_1, h, le1⟩ := h
  replace h := prS_some h
  obtain ⟨a0_2, h, le2⟩ := h
  replace h := prS_some h
  obtain ⟨a1, h, le3⟩ := h
  replace h := prG_some h
  obtain ⟨l2, h, e2⟩ := h
  subst e2
  split at h
  rotate_left
  · cases h
  replace h := prI_some h
  obtain ⟨a2_0, h, le4⟩ := h
  replace h := prI_some h
  obtain ⟨a2_1, h, le5⟩ := h
  replace h := prI_some h
  obtain ⟨a2_2, h, le6⟩ := h
  replace h := prI_some h
  obtain ⟨a2_3, h, le7⟩ := h
  replace h := prI_some h
  obtain ⟨a2_4, h, le8⟩ := h
  replace h := prI_some h
  obtain ⟨a2_5, h, le9⟩ := h
  replace h := gb_some h
  obtain ⟨res, h, hr⟩ := h
  refine ⟨_, h, fun hg => CallOK.conv (avs' := [.ag [.d (D.int .i64 a0_0), .d (D.sl 3 a0_1), .d (D.sl 6 a0_2)], .d (D.sl 1 a1), .ag [.d (D.int .i64 a2_0), .d (D.int .i64 a2_1), .d (D.int .i64 a2_2), .d (D.int .i64 a2_3), .d (D.int .i64 a2_4), .d (D.int .i64 a2_5)]]) (.cons (.ag (.cons (le0 hg) (.cons (le1 hg) (.cons (le2 hg) (.nil))))) (.cons (le3 hg) (.cons (.ag (.cons (le4 hg) (.cons (le5 hg) (.cons (le6 hg) (.cons (le7 hg) (.cons (le8 hg) (.cons (le9 hg) (.nil)))))))) (.nil)))) (callOK_fix (K := network_duration_K) (res := res) (network_duration_VC n) (fn := Try.f28) (n := n) (by kernel_rfl) (by kernel_rfl) (by kernel_rfl) (ss := [[0]]) rfl ?_ ?_)⟩
  · exact (network_duration_vfn n a0_0 a0_1 a0_2 a1 a2_0 a2_1 a2_2 a2_3 a2_4 a2_5 network_duration_K).trans (hr hg)
  · intro x hx
    unfold network_duration_K at hx
    split at hx
    · injection hx with hx; subst hx; rfl
    · cases hx
end Go.Vx
/-
  network_First: the interpreter computes the pure function
-/
set_option linter.unusedVariables false
set_option linter.unusedSimpArgs false
set_option maxRecDepth 100000
namespace Go.Vx
open Go.Proofs
noncomputable def network_First_c0 : Code := bodyOf Try.f24
noncomputable def network_First_c1 : Code := cL (bodyOf Try.f24)
noncomputable def network_First_c2 : Code := cL (cR (bodyOf Try.f24))
noncomputable def network_First_c3 : Code := cL (cL (cR (cR (bodyOf Try.f24))))
noncomputable def network_First_c4 : Code := cB (cB (cR (cL (cR (cR (bodyOf Try.f24))))))
noncomputable def network_First_c5 : Code := cB (cR (cL (cR (cR (bodyOf Try.f24)))))
noncomputable def network_First_c6 : Code := cR (cL (cR (cR (bodyOf Try.f24))))
noncomputable def network_First_c7 : Code := cL (cR (cR (bodyOf Try.f24)))
noncomputable def network_First_c8 : Code := cR (cR (cR (bodyOf Try.f24)))
noncomputable def network_First_c9 : Code := cR (cR (bodyOf Try.f24))
noncomputable def network_First_c10 : Code := cR (bodyOf Try.f24)
theorem network_First_c5_eq : network_First_c5 = .loop network_First_c4 := by kernel_rfl
theorem network_First_c6_eq : network_First_c6 = .block 0 network_First_c5 := by kernel_rfl
theorem network_First_c7_eq : network_First_c7 = .seq network_First_c3 network_First_c6 := by kernel_rfl
theorem network_First_c9_eq : network_First_c9 = .seq network_First_c7 network_First_c8 := by kernel_rfl
theorem network_First_c10_eq : network_First_c10 = .seq network_First_c2 network_First_c9 := by kernel_rfl
theorem network_First_c0_eq : network_First_c0 = .seq network_First_c1 network_First_c10 := by kernel_rfl
def network_First_tt : TT := [(3, ⟨.int .i64, 1, 8, [.int .i64 0], [.int .i64 0], [], none⟩), (24, ⟨.sl 31 6, 1, 24, [.slice none 0 0], [.sl 6 []], [], none⟩), (26, ⟨.struct, 3, 56, [.int .i64 0, .slice none 0 0, .slice none 0 0], [.int .i64 0, .sl 3 [], .sl 6 []], [(0, 3), (1, 23), (2, 24)], none⟩), (31, ⟨.struct, 6, 48, [.int .i64 0, .int .i64 0, .int .i64 0, .int .i64 0, .int .i64 0, .int .i64 0], [.int .i64 0, .int .i64 0, .int .i64 0, .int .i64 0, .int .i64 0, .int .i64 0], [(0, 3), (1, 3), (2, 3), (3, 3), (4, 3), (5, 3)], some [.int .i64, .int .i64, .int .i64, .int .i64, .int .i64, .int .i64]⟩)]
theorem network_First_tt_eq : mkTT Try.prog [3, 24, 26, 31] = network_First_tt := by kernel_rfl
def network_First_cfg : List (Nat × Cfg) := [(0, ⟨[1, 2], [(2, 2)], [], [], []⟩), (1, ⟨[1, 2, 11], [(2, 2)], [], [], []⟩), (2, ⟨[4, 5], [], [], [], []⟩), (3, ⟨[1, 2, 13, 14, 15], [(2, 2)], [], [], []⟩), (4, ⟨[1, 2, 13, 14, 15, 16], [(2, 2)], [], [], []⟩), (5, ⟨[1, 2, 6, 7, 13, 14, 15], [(2, 2), (7, 7)], [], [], []⟩), (6, ⟨[1, 2, 6, 13, 14, 15, 26], [(2, 2)], [], [], []⟩), (7, ⟨[4, 5], [], [], [], []⟩), (8, ⟨[1, 2, 13, 14, 15], [(2, 2)], [], [], []⟩), (9, ⟨[4, 5], [], [], [], []⟩)]
def network_First_C (n : Nat) : VC := ⟨specOf [(27, network_Good_e n), (28, network_duration_e n)], network_First_tt, network_First_cfg⟩
theorem network_First_ents (n : Nat) : EntsOK Try.prog [(27, network_Good_e n), (28, network_duration_e n)] := ⟨network_Good_ok n, ⟨network_duration_ok n, trivial⟩⟩
theorem network_First_VC (n : Nat) : VCOk Try.prog (network_First_C n) := ⟨specOf_ok (network_First_ents n), (network_First_tt_eq ▸ mkTT_ok _ : TOk Try.prog network_First_tt), by kernel_rfl⟩
theorem network_First_p1_congr {R : Type} (n : Nat) (a0_0 : Int) (a0_1 : List (List D)) (a0_2 : List (List D)) (a1 : List (List D)) {k0 kk0 : Option R} (hq0 : k0 = kk0) : network_First_p1 n a0_0 a0_1 a0_2 a1 k0 = network_First_p1 n a0_0 a0_1 a0_2 a1 kk0 := by
  obtain rfl : k0 = kk0 := hq0
  rfl
theorem network_First_p2_congr {R : Type} (n : Nat) (a1 : List (List D)) (a0_0 : Int) (a0_1 : List (List D)) (a0_2 : List (List D)) {k0 kk0 : Option R} {k1 kk1 : Bool → Option R} (hq0 : k0 = kk0) (hq1 : ∀ x0, k1 x0 = kk1 x0) : network_First_p2 n a1 a0_0 a0_1 a0_2 k0 k1 = network_First_p2 n a1 a0_0 a0_1 a0_2 kk0 kk1 := by
  obtain rfl : k0 = kk0 := hq0
  obtain rfl : k1 = kk1 := funext fun x0 => hq1 x0
  rfl
theorem network_First_p3_congr {R : Type} (n : Nat) (a1 : List (List D)) (w3 : Bool) (a0_0 : Int) (a0_1 : List (List D)) (a0_2 : List (List D)) {k0 kk0 : Int → Option R} (hq0 : ∀ x0, k0 x0 = kk0 x0) : network_First_p3 n a1 w3 a0_0 a0_1 a0_2 k0 = network_First_p3 n a1 w3 a0_0 a0_1 a0_2 kk0 := by
  obtain rfl : k0 = kk0 := funext fun x0 => hq0 x0
  rfl
theorem network_First_p4_congr {R : Type} (n : Nat) (a1 : List (List D)) (a0_2 : List (List D)) (w5 : Int) (h9 : Int) (a0_0 : Int) (a0_1 : List (List D)) {k0 kk0 : Option R} {k1 kk1 : Int → Option R} {k2 kk2 : Bool → Option R} (hq0 : k0 = kk0) (hq1 : ∀ x0, k1 x0 = kk1 x0) (hq2 : ∀ x0, k2 x0 = kk2 x0) : network_First_p4 n a1 a0_2 w5 h9 a0_0 a0_1 k0 k1 k2 = network_First_p4 n a1 a0_2 w5 h9 a0_0 a0_1 kk0 kk1 kk2 := by
  obtain rfl : k0 = kk0 := hq0
  obtain rfl : k1 = kk1 := funext fun x0 => hq1 x0
  obtain rfl : k2 = kk2 := funext fun x0 => hq2 x0
  rfl
theorem network_First_p5_congr {R : Type} (n : Nat) (a1 : List (List D)) (a0_2 : List (List D)) (w5 : Int) (a0_0 : Int) (a0_1 : List (List D)) {k0 kk0 : Int → Option R} {k1 kk1 : Int → Bool → Option R} (hq0 : ∀ x0, k0 x0 = kk0 x0) (hq1 : ∀ x0 x1, k1 x0 x1 = kk1 x0 x1) : network_First_p5 n a1 a0_2 w5 a0_0 a0_1 k0 k1 = network_First_p5 n a1 a0_2 w5 a0_0 a0_1 kk0 kk1 := by
  obtain rfl : k0 = kk0 := funext fun x0 => hq0 x0
  obtain rfl : k1 = kk1 := funext fun x0 => funext fun x1 => hq1 x0 x1
  rfl
theorem network_First_p6_congr {R : Type} (n : Nat) (a1 : List (List D)) (a0_2 : List (List D)) (w5 : Int) (a0_0 : Int) (a0_1 : List (List D)) {k0 kk0 : Int → Option R} {k1 kk1 : Int → Bool → Option R} (hq0 : ∀ x0, k0 x0 = kk0 x0) (hq1 : ∀ x0 x1, k1 x0 x1 = kk1 x0 x1) : network_First_p6 n a1 a0_2 w5 a0_0 a0_1 k0 k1 = network_First_p6 n a1 a0_2 w5 a0_0 a0_1 kk0 kk1 := by
  obtain rfl : k0 = kk0 := funext fun x0 => hq0 x0
  obtain rfl : k1 = kk1 := funext fun x0 => funext fun x1 => hq1 x0 x1
  rfl
theorem network_First_p7_congr {R : Type} (n : Nat) (a1 : List (List D)) (w3 : Bool) (a0_0 : Int) (a0_1 : List (List D)) (a0_2 : List (List D)) {k0 kk0 : Int → Option R} {k1 kk1 : Int → Int → Bool → Option R} (hq0 : ∀ x0, k0 x0 = kk0 x0) (hq1 : ∀ x0 x1 x2, k1 x0 x1 x2 = kk1 x0 x1 x2) : network_First_p7 n a1 w3 a0_0 a0_1 a0_2 k0 k1 = network_First_p7 n a1 w3 a0_0 a0_1 a0_2 kk0 kk1 := by
  obtain rfl : k0 = kk0 := funext fun x0 => hq0 x0
  obtain rfl : k1 = kk1 := funext fun x0 => funext fun x1 => funext fun x2 => hq1 x0 x1 x2
  rfl
theorem network_First_p8_congr {R : Type} (n : Nat) (a1 : List (List D)) (a0_2 : List (List D)) (w56 : Int) (w57 : Int) (w58 : Bool) (a0_0 : Int) (a0_1 : List (List D)) {k0 kk0 : Option R} (hq0 : k0 = kk0) : network_First_p8 n a1 a0_2 w56 w57 w58 a0_0 a0_1 k0 = network_First_p8 n a1 a0_2 w56 w57 w58 a0_0 a0_1 kk0 := by
  obtain rfl : k0 = kk0 := hq0
  rfl
theorem network_First_p9_congr {R : Type} (n : Nat) (a1 : List (List D)) (w3 : Bool) (a0_0 : Int) (a0_1 : List (List D)) (a0_2 : List (List D)) {k0 kk0 : Int → Bool → Option R} (hq0 : ∀ x0 x1, k0 x0 x1 = kk0 x0 x1) : network_First_p9 n a1 w3 a0_0 a0_1 a0_2 k0 = network_First_p9 n a1 w3 a0_0 a0_1 a0_2 kk0 := by
  obtain rfl : k0 = kk0 := funext fun x0 => funext fun x1 => hq0 x0 x1
  rfl
theorem network_First_p10_congr {R : Type} (n : Nat) (a1 : List (List D)) (a0_0 : Int) (a0_1 : List (List D)) (a0_2 : List (List D)) {k0 kk0 : Int → Bool → Option R} (hq0 : ∀ x0 x1, k0 x0 x1 = kk0 x0 x1) : network_First_p10 n a1 a0_0 a0_1 a0_2 k0 = network_First_p10 n a1 a0_0 a0_1 a0_2 kk0 := by
  obtain rfl : k0 = kk0 := funext fun x0 => funext fun x1 => hq0 x0 x1
  rfl
theorem network_First_p11_congr {R : Type} (n : Nat) (a0_0 : Int) (a0_1 : List (List D)) (a0_2 : List (List D)) (a1 : List (List D)) {k0 kk0 : Int → Bool → Option R} (hq0 : ∀ x0 x1, k0 x0 x1 = kk0 x0 x1) : network_First_p11 n a0_0 a0_1 a0_2 a1 k0 = network_First_p11 n a0_0 a0_1 a0_2 a1 kk0 := by
  obtain rfl : k0 = kk0 := funext fun x0 => funext fun x1 => hq0 x0 x1
  rfl
theorem network_First_p1_eq {R : Type} (n : Nat) (a0_0 : Int) (a0_1 : List (List D)) (a0_2 : List (List D)) (a1 : List (List D)) (k : Exit → St → Option R) : vexec (network_First_C n) n network_First_c1 ⟨29, [(0, .ag [.d (D.int .i64 a0_0), .d (D.sl 3 a0_1), .d (D.sl 6 a0_2)]), (1, .d (D.sl 1 a1))], []⟩ k = network_First_p1 n a0_0 a0_1 a0_2 a1 (k .normal ⟨29, [(1, .d (D.sl 1 a1)), (2, .ptr 2 0)], [(2, .box [.d (D.int .i64 a0_0), .d (D.sl 3 a0_1), .d (D.sl 6 a0_2)])]⟩) := by kernel_rfl
theorem network_First_p2_eq {R : Type} (n : Nat) (a1 : List (List D)) (a0_0 : Int) (a0_1 : List (List D)) (a0_2 : List (List D)) (k : Exit → St → Option R) : vexec (network_First_C n) n network_First_c2 ⟨29, [(1, .d (D.sl 1 a1)), (2, .ptr 2 0)], [(2, .box [.d (D.int .i64 a0_0), .d (D.sl 3 a0_1), .d (D.sl 6 a0_2)])]⟩ k = network_First_p2 n a1 a0_0 a0_1 a0_2 (k .ret ⟨29, [(4, .d (D.int .i64 (0 : Int))), (5, .d (D.bool false))], []⟩) (fun z2 => k .normal ⟨29, [(1, .d (D.sl 1 a1)), (2, .ptr 2 0), (11, .d (D.bool z2))], [(2, .box [.d (D.int .i64 a0_0), .d (D.sl 3 a0_1), .d (D.sl 6 a0_2)])]⟩) := by kernel_rfl
theorem network_First_p3_eq {R : Type} (n : Nat) (a1 : List (List D)) (w3 : Bool) (a0_0 : Int) (a0_1 : List (List D)) (a0_2 : List (List D)) (k : Exit → St → Option R) : vexec (network_First_C n) n network_First_c3 ⟨29, [(1, .d (D.sl 1 a1)), (2, .ptr 2 0), (11, .d (D.bool w3))], [(2, .box [.d (D.int .i64 a0_0), .d (D.sl 3 a0_1), .d (D.sl 6 a0_2)])]⟩ k = network_First_p3 n a1 w3 a0_0 a0_1 a0_2 (fun z4 => k .normal ⟨29, [(1, .d (D.sl 1 a1)), (2, .ptr 2 0), (13, .d (D.sl 6 a0_2)), (14, .d (D.int .i64 z4)), (15, .d (D.int .i64 (0 : Int)))], [(2, .box [.d (D.int .i64 a0_0), .d (D.sl 3 a0_1), .d (D.sl 6 a0_2)])]⟩) := by kernel_rfl
theorem network_First_p4_eq {R : Type} (n : Nat) (a1 : List (List D)) (a0_2 : List (List D)) (w5 : Int) (h9 : Int) (a0_0 : Int) (a0_1 : List (List D)) (k : Exit → St → Option R) : vexec (network_First_C n) n network_First_c4 ⟨29, [(1, .d (D.sl 1 a1)), (2, .ptr 2 0), (13, .d (D.sl 6 a0_2)), (14, .d (D.int .i64 w5)), (15, .d (D.int .i64 h9))], [(2, .box [.d (D.int .i64 a0_0), .d (D.sl 3 a0_1), .d (D.sl 6 a0_2)])]⟩ k = network_First_p4 n a1 a0_2 w5 h9 a0_0 a0_1 (k .ret ⟨29, [(4, .d (D.int .i64 h9)), (5, .d (D.bool true))], []⟩) (fun z45 => k .normal ⟨29, [(1, .d (D.sl 1 a1)), (2, .ptr 2 0), (13, .d (D.sl 6 a0_2)), (14, .d (D.int .i64 w5)), (15, .d (D.int .i64 z45))], [(2, .box [.d (D.int .i64 a0_0), .d (D.sl 3 a0_1), .d (D.sl 6 a0_2)])]⟩) (fun z46 => k (.exit 0) ⟨29, [(1, .d (D.sl 1 a1)), (2, .ptr 2 0), (13, .d (D.sl 6 a0_2)), (14, .d (D.int .i64 w5)), (15, .d (D.int .i64 h9)), (16, .d (D.bool z46))], [(2, .box [.d (D.int .i64 a0_0), .d (D.sl 3 a0_1), .d (D.sl 6 a0_2)])]⟩) := by kernel_rfl
theorem network_First_r5_eq {R : Type} (n : Nat) (a1 : List (List D)) (a0_2 : List (List D)) (w5 : Int) (a0_0 : Int) (a0_1 : List (List D)) (k : Exit → St → Option R) : ∀ (m : Nat) (h9 : Int), loopN (vexec (network_First_C n) n network_First_c4) m ⟨29, [(1, .d (D.sl 1 a1)), (2, .ptr 2 0), (13, .d (D.sl 6 a0_2)), (14, .d (D.int .i64 w5)), (15, .d (D.int .i64 h9))], [(2, .box [.d (D.int .i64 a0_0), .d (D.sl 3 a0_1), .d (D.sl 6 a0_2)])]⟩ k = network_First_r5 n a1 a0_2 w5 a0_0 a0_1 (fun h9 => k .ret ⟨29, [(4, .d (D.int .i64 h9)), (5, .d (D.bool true))], []⟩) (fun h9 w48 => k (.exit 0) ⟨29, [(1, .d (D.sl 1 a1)), (2, .ptr 2 0), (13, .d (D.sl 6 a0_2)), (14, .d (D.int .i64 w5)), (15, .d (D.int .i64 h9)), (16, .d (D.bool w48))], [(2, .box [.d (D.int .i64 a0_0), .d (D.sl 3 a0_1), .d (D.sl 6 a0_2)])]⟩) m h9
  | 0, _ => rfl
  | m + 1, h9 => (network_First_p4_eq n a1 a0_2 w5 h9 a0_0 a0_1 (loopK (vexec (network_First_C n) n network_First_c4) m k)).trans (network_First_p4_congr n a1 a0_2 w5 h9 a0_0 a0_1 (rfl) (fun w47 => network_First_r5_eq n a1 a0_2 w5 a0_0 a0_1 k m w47) (fun w48 => rfl))
theorem network_First_p5_eq {R : Type} (n : Nat) (a1 : List (List D)) (a0_2 : List (List D)) (w5 : Int) (a0_0 : Int) (a0_1 : List (List D)) (k : Exit → St → Option R) : vexec (network_First_C n) n network_First_c5 ⟨29, [(1, .d (D.sl 1 a1)), (2, .ptr 2 0), (13, .d (D.sl 6 a0_2)), (14, .d (D.int .i64 w5)), (15, .d (D.int .i64 (0 : Int)))], [(2, .box [.d (D.int .i64 a0_0), .d (D.sl 3 a0_1), .d (D.sl 6 a0_2)])]⟩ k = network_First_p5 n a1 a0_2 w5 a0_0 a0_1 (fun h9 => k .ret ⟨29, [(4, .d (D.int .i64 h9)), (5, .d (D.bool true))], []⟩) (fun h9 w48 => k (.exit 0) ⟨29, [(1, .d (D.sl 1 a1)), (2, .ptr 2 0), (13, .d (D.sl 6 a0_2)), (14, .d (D.int .i64 w5)), (15, .d (D.int .i64 h9)), (16, .d (D.bool w48))], [(2, .box [.d (D.int .i64 a0_0), .d (D.sl 3 a0_1), .d (D.sl 6 a0_2)])]⟩) := by
  rw [network_First_c5_eq]
  exact network_First_r5_eq n a1 a0_2 w5 a0_0 a0_1 k n (0 : Int)
theorem network_First_p6_eq {R : Type} (n : Nat) (a1 : List (List D)) (a0_2 : List (List D)) (w5 : Int) (a0_0 : Int) (a0_1 : List (List D)) (k : Exit → St → Option R) : vexec (network_First_C n) n network_First_c6 ⟨29, [(1, .d (D.sl 1 a1)), (2, .ptr 2 0), (13, .d (D.sl 6 a0_2)), (14, .d (D.int .i64 w5)), (15, .d (D.int .i64 (0 : Int)))], [(2, .box [.d (D.int .i64 a0_0), .d (D.sl 3 a0_1), .d (D.sl 6 a0_2)])]⟩ k = network_First_p6 n a1 a0_2 w5 a0_0 a0_1 (fun w49 => k .ret ⟨29, [(4, .d (D.int .i64 w49)), (5, .d (D.bool true))], []⟩) (fun w50 w51 => k .normal ⟨29, [(1, .d (D.sl 1 a1)), (2, .ptr 2 0), (13, .d (D.sl 6 a0_2)), (14, .d (D.int .i64 w5)), (15, .d (D.int .i64 w50)), (16, .d (D.bool w51))], [(2, .box [.d (D.int .i64 a0_0), .d (D.sl 3 a0_1), .d (D.sl 6 a0_2)])]⟩) := by
  rw [network_First_c6_eq]
  unfold network_First_p6
  exact (network_First_p5_eq n a1 a0_2 w5 a0_0 a0_1 (blockK 0 k)).trans (network_First_p5_congr n a1 a0_2 w5 a0_0 a0_1 (fun w49 => rfl) (fun w50 w51 => rfl))
theorem network_First_p7_eq {R : Type} (n : Nat) (a1 : List (List D)) (w3 : Bool) (a0_0 : Int) (a0_1 : List (List D)) (a0_2 : List (List D)) (k : Exit → St → Option R) : vexec (network_First_C n) n network_First_c7 ⟨29, [(1, .d (D.sl 1 a1)), (2, .ptr 2 0), (11, .d (D.bool w3))], [(2, .box [.d (D.int .i64 a0_0), .d (D.sl 3 a0_1), .d (D.sl 6 a0_2)])]⟩ k = network_First_p7 n a1 w3 a0_0 a0_1 a0_2 (fun w52 => k .ret ⟨29, [(4, .d (D.int .i64 w52)), (5, .d (D.bool true))], []⟩) (fun w5 w53 w54 => k .normal ⟨29, [(1, .d (D.sl 1 a1)), (2, .ptr 2 0), (13, .d (D.sl 6 a0_2)), (14, .d (D.int .i64 w5)), (15, .d (D.int .i64 w53)), (16, .d (D.bool w54))], [(2, .box [.d (D.int .i64 a0_0), .d (D.sl 3 a0_1), .d (D.sl 6 a0_2)])]⟩) := by
  rw [network_First_c7_eq]
  unfold network_First_p7
  exact (network_First_p3_eq n a1 w3 a0_0 a0_1 a0_2 (seqK (network_First_C n) n network_First_c6 k)).trans (network_First_p3_congr n a1 w3 a0_0 a0_1 a0_2 (fun w5 => network_First_p6_eq n a1 a0_2 w5 a0_0 a0_1 k))
theorem network_First_p8_eq {R : Type} (n : Nat) (a1 : List (List D)) (a0_2 : List (List D)) (w56 : Int) (w57 : Int) (w58 : Bool) (a0_0 : Int) (a0_1 : List (List D)) (k : Exit → St → Option R) : vexec (network_First_C n) n network_First_c8 ⟨29, [(1, .d (D.sl 1 a1)), (2, .ptr 2 0), (13, .d (D.sl 6 a0_2)), (14, .d (D.int .i64 w56)), (15, .d (D.int .i64 w57)), (16, .d (D.bool w58))], [(2, .box [.d (D.int .i64 a0_0), .d (D.sl 3 a0_1), .d (D.sl 6 a0_2)])]⟩ k = network_First_p8 n a1 a0_2 w56 w57 w58 a0_0 a0_1 (k .ret ⟨29, [(4, .d (D.int .i64 (0 : Int))), (5, .d (D.bool false))], []⟩) := by kernel_rfl
theorem network_First_p9_eq {R : Type} (n : Nat) (a1 : List (List D)) (w3 : Bool) (a0_0 : Int) (a0_1 : List (List D)) (a0_2 : List (List D)) (k : Exit → St → Option R) : vexec (network_First_C n) n network_First_c9 ⟨29, [(1, .d (D.sl 1 a1)), (2, .ptr 2 0), (11, .d (D.bool w3))], [(2, .box [.d (D.int .i64 a0_0), .d (D.sl 3 a0_1), .d (D.sl 6 a0_2)])]⟩ k = network_First_p9 n a1 w3 a0_0 a0_1 a0_2 (fun z59 z60 => k .ret ⟨29, [(4, .d (D.int .i64 z59)), (5, .d (D.bool z60))], []⟩) := by
  rw [network_First_c9_eq]
  unfold network_First_p9
  exact (network_First_p7_eq n a1 w3 a0_0 a0_1 a0_2 (seqK (network_First_C n) n network_First_c8 k)).trans (network_First_p7_congr n a1 w3 a0_0 a0_1 a0_2 (fun w55 => rfl) (fun w56 w57 w58 => network_First_p8_eq n a1 a0_2 w56 w57 w58 a0_0 a0_1 k))
theorem network_First_p10_eq {R : Type} (n : Nat) (a1 : List (List D)) (a0_0 : Int) (a0_1 : List (List D)) (a0_2 : List (List D)) (k : Exit → St → Option R) : vexec (network_First_C n) n network_First_c10 ⟨29, [(1, .d (D.sl 1 a1)), (2, .ptr 2 0)], [(2, .box [.d (D.int .i64 a0_0), .d (D.sl 3 a0_1), .d (D.sl 6 a0_2)])]⟩ k = network_First_p10 n a1 a0_0 a0_1 a0_2 (fun z63 z64 => k .ret ⟨29, [(4, .d (D.int .i64 z63)), (5, .d (D.bool z64))], []⟩) := by
  rw [network_First_c10_eq]
  unfold network_First_p10
  exact (network_First_p2_eq n a1 a0_0 a0_1 a0_2 (seqK (network_First_C n) n network_First_c9 k)).trans (network_First_p2_congr n a1 a0_0 a0_1 a0_2 (rfl) (fun w3 => network_First_p9_eq n a1 w3 a0_0 a0_1 a0_2 k))
theorem network_First_p11_eq {R : Type} (n : Nat) (a0_0 : Int) (a0_1 : List (List D)) (a0_2 : List (List D)) (a1 : List (List D)) (k : Exit → St → Option R) : vexec (network_First_C n) n network_First_c0 ⟨29, [(0, .ag [.d (D.int .i64 a0_0), .d (D.sl 3 a0_1), .d (D.sl 6 a0_2)]), (1, .d (D.sl 1 a1))], []⟩ k = network_First_p11 n a0_0 a0_1 a0_2 a1 (fun w65 w66 => k .ret ⟨29, [(4, .d (D.int .i64 w65)), (5, .d (D.bool w66))], []⟩) := by
  rw [network_First_c0_eq]
  unfold network_First_p11
  exact (network_First_p1_eq n a0_0 a0_1 a0_2 a1 (seqK (network_First_C n) n network_First_c10 k)).trans (network_First_p1_congr n a0_0 a0_1 a0_2 a1 (network_First_p10_eq n a1 a0_0 a0_1 a0_2 k))
theorem network_First_vfn {R : Type} (n : Nat) (a0_0 : Int) (a0_1 : List (List D)) (a0_2 : List (List D)) (a1 : List (List D)) (K : AV → Option R) : vfn (network_First_C n) n Try.f24 [.ag [.d (D.int .i64 a0_0), .d (D.sl 3 a0_1), .d (D.sl 6 a0_2)], .d (D.sl 1 a1)] [] (retF [[0], [0]] K) = network_First n a0_0 a0_1 a0_2 a1 (fun r0 r1 => K (.tup [.d (D.int .i64 r0), .d (D.bool r1)])) :=
  (show vfn (network_First_C n) n Try.f24 [.ag [.d (D.int .i64 a0_0), .d (D.sl 3 a0_1), .d (D.sl 6 a0_2)], .d (D.sl 1 a1)] [] (retF [[0], [0]] K) = vexec (network_First_C n) n network_First_c0 ⟨29, [(0, .ag [.d (D.int .i64 a0_0), .d (D.sl 3 a0_1), .d (D.sl 6 a0_2)]), (1, .d (D.sl 1 a1))], []⟩ (retX network_First_tt [.tmp 4, .tmp 5] (retF [[0], [0]] K)) from vfn_at (by kernel_rfl) (by kernel_rfl) rfl (by kernel_rfl) rfl (by kernel_rfl) rfl).trans ((network_First_p11_eq n a0_0 a0_1 a0_2 a1 (retX network_First_tt [.tmp 4, .tmp 5] (retF [[0], [0]] K))).trans (by kernel_rfl))
def network_First_K : AV → Option (Int × Bool) := fun av => match av with
  | .tup [.d (D.int .i64 r0), .d (D.bool r1)] => some (r0, r1)
  | _ => none
def network_First_e (n : Nat) : Entry := fun _ _ g avs _ k => match avs with
  | [c0, c1] => 
    prG c0 fun l0 => (match l0 with
    | [c0_0, c0_1, c0_2] => prI g .i64 c0_0 fun a0_0 => prS g 3 c0_1 fun a0_1 => prS g 6 c0_2 fun a0_2 => prS g 1 c1 fun a1 => 
    gb g (network_First n a0_0 a0_1 a0_2 a1 (fun r0 r1 => some (r0, r1))) (0, false) fun r => k ⟨.tup [.d (D.int .i64 r.1), .d (D.bool r.2)], [], []⟩
    | _ => none)
  | _ => none
theorem network_First_ok (n : Nat) : EntryOK Try.prog 24 (network_First_e n) := by
  intro R site g avs hl k r h
  unfold network_First_e at h
  split at h
  rotate_left
  · cases h
  replace h := prG_some h
  obtain ⟨l0, h, e0⟩ := h
  subst e0
  split at h
  rotate_left
  · cases h
  replace h := prI_some h
  obtain ⟨a0_0, h, le0⟩ := h
  replace h := prS_some h
  obtain ⟨a0_1, h, le1⟩ := h
  replace h := prS_some h
  obtain ⟨a0_2, h, le2⟩ := h
  replace h := prS_some h
  obtain ⟨a1, h, le3⟩ := h
  replace h := gb_some h
  obtain ⟨res, h, hr⟩ := h
  refine ⟨_, h, fun hg => CallOK.conv (avs' := [.ag [.d (D.int .i64 a0_0), .d (D.sl 3 a0_1), .d (D.sl 6 a0_2)], .d (D.sl 1 a1)]) (.cons (.ag (.cons (le0 hg) (.cons (le1 hg) (.cons (le2 hg) (.nil))))) (.cons (le3 hg) (.nil))) (callOK_fix (K := network_First_K) (res := res) (network_First_VC n) (fn := Try.f24) (n := n) (by kernel_rfl) (by kernel_rfl) (by kernel_rfl) (ss := [[0], [0]]) rfl ?_ ?_)⟩
  · exact (network_First_vfn n a0_0 a0_1 a0_2 a1 network_First_K).trans (hr hg)
  · intro x hx
    unfold network_First_K at hx
    split at hx
    · injection hx with hx; subst hx; rfl
    · cases hx
end Go.Vx
/-
  law11_awake: the interpreter computes the pure function
-/
set_option linter.unusedVariables false
set_option linter.unusedSimpArgs false
set_option maxRecDepth 100000
namespace Go.Vx
open Go.Proofs
noncomputable def law11_awake_c0 : Code := bodyOf Try.f10
def law11_awake_tt : TT := [(3, ⟨.int .i64, 1, 8, [.int .i64 0], [.int .i64 0], [], none⟩), (22, ⟨.sl 3 1, 1, 24, [.slice none 0 0], [.sl 1 []], [], none⟩)]
theorem law11_awake_tt_eq : mkTT Try.prog [3, 22] = law11_awake_tt := by kernel_rfl
def law11_awake_cfg : List (Nat × Cfg) := [(0, ⟨[], [], [], [], []⟩), (1, ⟨[2], [], [], [], []⟩), (2, ⟨[0], [], [], [], []⟩)]
def law11_awake_C (n : Nat) : VC := ⟨specOf [(19, law11_small_e n), (24, network_First_e n), (12, network_Check_e n)], law11_awake_tt, law11_awake_cfg⟩
theorem law11_awake_ents (n : Nat) : EntsOK Try.prog [(19, law11_small_e n), (24, network_First_e n), (12, network_Check_e n)] := ⟨law11_small_ok n, ⟨network_First_ok n, ⟨network_Check_ok n, trivial⟩⟩⟩
theorem law11_awake_VC (n : Nat) : VCOk Try.prog (law11_awake_C n) := ⟨specOf_ok (law11_awake_ents n), (law11_awake_tt_eq ▸ mkTT_ok _ : TOk Try.prog law11_awake_tt), by kernel_rfl⟩
theorem law11_awake_p1_congr {R : Type} (n : Nat)  {k0 kk0 : Bool → Option R} (hq0 : ∀ x0, k0 x0 = kk0 x0) : law11_awake_p1 n  k0 = law11_awake_p1 n  kk0 := by
  obtain rfl : k0 = kk0 := funext fun x0 => hq0 x0
  rfl
theorem law11_awake_p1_eq {R : Type} (n : Nat)  (k : Exit → St → Option R) : vexec (law11_awake_C n) n law11_awake_c0 ⟨14, [], []⟩ k = law11_awake_p1 n  (fun z5 => k .ret ⟨14, [(0, .d (D.bool z5))], []⟩) := by kernel_rfl
theorem law11_awake_vfn {R : Type} (n : Nat)  (K : AV → Option R) : vfn (law11_awake_C n) n Try.f10 [] [] (retF [[0]] K) = law11_awake n  (fun r0 => K (.d (D.bool r0))) :=
  (show vfn (law11_awake_C n) n Try.f10 [] [] (retF [[0]] K) = vexec (law11_awake_C n) n law11_awake_c0 ⟨14, [], []⟩ (retX law11_awake_tt [.tmp 0] (retF [[0]] K)) from vfn_at (by kernel_rfl) (by kernel_rfl) rfl (by kernel_rfl) rfl (by kernel_rfl) rfl).trans ((law11_awake_p1_eq n  (retX law11_awake_tt [.tmp 0] (retF [[0]] K))).trans (by kernel_rfl))
def law11_awake_K : AV → Option (Bool) := fun av => match av with
  | .d (D.bool r0) => some r0
  | _ => none
def law11_awake_e (n : Nat) : Entry := fun _ _ g avs _ k => match avs with
  | [] => 
    gb g (law11_awake n  some) false fun r => k ⟨.d (D.bool r), [], []⟩
  | _ => none
theorem law11_awake_ok (n : Nat) : EntryOK Try.prog 10 (law11_awake_e n) := by
  intro R site g avs hl k r h
  unfold law11_awake_e at h
  split at h
  rotate_left
  · cases h
  replace h := gb_some h
  obtain ⟨res, h, hr⟩ := h
  refine ⟨_, h, fun hg => CallOK.conv (avs' := []) (.nil) (callOK_fix (K := law11_awake_K) (res := res) (law11_awake_VC n) (fn := Try.f10) (n := n) (by kernel_rfl) (by kernel_rfl) (by kernel_rfl) (ss := [[0]]) rfl ?_ ?_)⟩
  · exact (law11_awake_vfn n  law11_awake_K).trans (hr hg)
  · intro x hx
    unfold law11_awake_K at hx
    split at hx
    · injection hx with hx; subst hx; rfl
    · cases hx
end Go.Vx
/-
  keep_Times: the interpreter computes the pure function
-/
set_option linter.unusedVariables false
set_option linter.unusedSimpArgs false
set_option maxRecDepth 100000
namespace Go.Vx
open Go.Proofs
noncomputable def keep_Times_c0 : Code := bodyOf Try.f14
noncomputable def keep_Times_c1 : Code := cL (bodyOf Try.f14)
noncomputable def keep_Times_c2 : Code := cL (cR (bodyOf Try.f14))
noncomputable def keep_Times_c3 : Code := cL (cR (cR (bodyOf Try.f14)))
noncomputable def keep_Times_c4 : Code := cL (cL (cR (cR (cR (bodyOf Try.f14)))))
noncomputable def keep_Times_c5 : Code := cB (cB (cR (cL (cR (cR (cR (bodyOf Try.f14)))))))
noncomputable def keep_Times_c6 : Code := cB (cR (cL (cR (cR (cR (bodyOf Try.f14))))))
noncomputable def keep_Times_c7 : Code := cR (cL (cR (cR (cR (bodyOf Try.f14)))))
noncomputable def keep_Times_c8 : Code := cL (cR (cR (cR (bodyOf Try.f14))))
noncomputable def keep_Times_c9 : Code := cR (cR (cR (cR (bodyOf Try.f14))))
noncomputable def keep_Times_c10 : Code := cR (cR (cR (bodyOf Try.f14)))
noncomputable def keep_Times_c11 : Code := cR (cR (bodyOf Try.f14))
noncomputable def keep_Times_c12 : Code := cR (bodyOf Try.f14)
theorem keep_Times_c6_eq : keep_Times_c6 = .loop keep_Times_c5 := by kernel_rfl
theorem keep_Times_c7_eq : keep_Times_c7 = .block 0 keep_Times_c6 := by kernel_rfl
theorem keep_Times_c8_eq : keep_Times_c8 = .seq keep_Times_c4 keep_Times_c7 := by kernel_rfl
theorem keep_Times_c10_eq : keep_Times_c10 = .seq keep_Times_c8 keep_Times_c9 := by kernel_rfl
theorem keep_Times_c11_eq : keep_Times_c11 = .seq keep_Times_c3 keep_Times_c10 := by kernel_rfl
theorem keep_Times_c12_eq : keep_Times_c12 = .seq keep_Times_c2 keep_Times_c11 := by kernel_rfl
theorem keep_Times_c0_eq : keep_Times_c0 = .seq keep_Times_c1 keep_Times_c12 := by kernel_rfl
def keep_Times_tt : TT := [(3, ⟨.int .i64, 1, 8, [.int .i64 0], [.int .i64 0], [], none⟩), (22, ⟨.sl 3 1, 1, 24, [.slice none 0 0], [.sl 1 []], [], none⟩), (23, ⟨.sl 46 3, 1, 24, [.slice none 0 0], [.sl 3 []], [], none⟩), (26, ⟨.struct, 3, 56, [.int .i64 0, .slice none 0 0, .slice none 0 0], [.int .i64 0, .sl 3 [], .sl 6 []], [(0, 3), (1, 23), (2, 24)], none⟩)]
theorem keep_Times_tt_eq : mkTT Try.prog [3, 22, 23, 26] = keep_Times_tt := by kernel_rfl
def keep_Times_cfg : List (Nat × Cfg) := [(0, ⟨[1, 2], [(2, 2)], [], [], []⟩), (1, ⟨[2, 5], [(2, 2), (100009, 100009)], [], [], []⟩), (2, ⟨[2, 5, 6], [(2, 2), (13, 13), (100009, 100009)], [], [], []⟩), (3, ⟨[2, 5, 6, 15, 16], [(2, 2), (13, 13), (100009, 100009)], [], [], []⟩), (4, ⟨[2, 5, 6, 15, 16, 17], [(2, 2), (13, 13), (100009, 100009)], [], [], []⟩), (5, ⟨[2, 5, 6, 7, 15, 16], [(2, 2), (13, 13), (100009, 100009)], [], [], []⟩), (6, ⟨[2, 5, 6, 15, 16], [(2, 2), (13, 13), (100009, 100009)], [], [], []⟩), (7, ⟨[2, 5, 6, 15, 16], [(2, 2), (13, 13), (100009, 100009)], [], [], []⟩), (8, ⟨[4], [(13, 13)], [], [], []⟩)]
def keep_Times_C (n : Nat) : VC := ⟨specOf [(22, keep_From_o n), (23, keep_Source_Next_o n)], keep_Times_tt, keep_Times_cfg⟩
theorem keep_Times_ents (n : Nat) : EntsOK Try.prog [(22, keep_From_o n), (23, keep_Source_Next_o n)] := ⟨keep_From_oo n, ⟨keep_Source_Next_oo n, trivial⟩⟩
theorem keep_Times_VC (n : Nat) : VCOk Try.prog (keep_Times_C n) := ⟨specOf_ok (keep_Times_ents n), (keep_Times_tt_eq ▸ mkTT_ok _ : TOk Try.prog keep_Times_tt), by kernel_rfl⟩
theorem keep_Times_p1_congr {R : Type} (n : Nat) (a0_0 : Int) (a0_1 : List (List D)) (a0_2 : List (List D)) (a1 : List (List D)) {k0 kk0 : Option R} (hq0 : k0 = kk0) : keep_Times_p1 n a0_0 a0_1 a0_2 a1 k0 = keep_Times_p1 n a0_0 a0_1 a0_2 a1 kk0 := by
  obtain rfl : k0 = kk0 := hq0
  rfl
theorem keep_Times_p2_congr {R : Type} (n : Nat) (a1 : List (List D)) (a0_0 : Int) (a0_1 : List (List D)) (a0_2 : List (List D)) {k0 kk0 : (List (List D)) → Int → Option R} (hq0 : ∀ x0 x1, k0 x0 x1 = kk0 x0 x1) : keep_Times_p2 n a1 a0_0 a0_1 a0_2 k0 = keep_Times_p2 n a1 a0_0 a0_1 a0_2 kk0 := by
  obtain rfl : k0 = kk0 := funext fun x0 => funext fun x1 => hq0 x0 x1
  rfl
theorem keep_Times_p3_congr {R : Type} (n : Nat) (a0_0 : Int) (a0_1 : List (List D)) (a0_2 : List (List D)) (w4 : List (List D)) (w5 : Int) {k0 kk0 : (List (List D)) → Option R} (hq0 : ∀ x0, k0 x0 = kk0 x0) : keep_Times_p3 n a0_0 a0_1 a0_2 w4 w5 k0 = keep_Times_p3 n a0_0 a0_1 a0_2 w4 w5 kk0 := by
  obtain rfl : k0 = kk0 := funext fun x0 => hq0 x0
  rfl
theorem keep_Times_p4_congr {R : Type} (n : Nat) (a0_0 : Int) (a0_1 : List (List D)) (a0_2 : List (List D)) (w9 : List (List D)) (w4 : List (List D)) (w5 : Int) {k0 kk0 : Int → Option R} (hq0 : ∀ x0, k0 x0 = kk0 x0) : keep_Times_p4 n a0_0 a0_1 a0_2 w9 w4 w5 k0 = keep_Times_p4 n a0_0 a0_1 a0_2 w9 w4 w5 kk0 := by
  obtain rfl : k0 = kk0 := funext fun x0 => hq0 x0
  rfl
theorem keep_Times_p5_congr {R : Type} (n : Nat) (w11 : Int) (h13 : Int) (a0_0 : Int) (a0_1 : List (List D)) (a0_2 : List (List D)) (h17 : List (List D)) (h18 : List (List D)) (h19 : Int) {k0 kk0 : Int → (List (List D)) → (List (List D)) → Int → Option R} {k1 kk1 : Bool → Option R} (hq0 : ∀ x0 x1 x2 x3, k0 x0 x1 x2 x3 = kk0 x0 x1 x2 x3) (hq1 : ∀ x0, k1 x0 = kk1 x0) : keep_Times_p5 n w11 h13 a0_0 a0_1 a0_2 h17 h18 h19 k0 k1 = keep_Times_p5 n w11 h13 a0_0 a0_1 a0_2 h17 h18 h19 kk0 kk1 := by
  obtain rfl : k0 = kk0 := funext fun x0 => funext fun x1 => funext fun x2 => funext fun x3 => hq0 x0 x1 x2 x3
  obtain rfl : k1 = kk1 := funext fun x0 => hq1 x0
  rfl
theorem keep_Times_p6_congr {R : Type} (n : Nat) (w11 : Int) (a0_0 : Int) (a0_1 : List (List D)) (a0_2 : List (List D)) (w9 : List (List D)) (w4 : List (List D)) (w5 : Int) {k0 kk0 : Int → Bool → (List (List D)) → (List (List D)) → Int → Option R} (hq0 : ∀ x0 x1 x2 x3 x4, k0 x0 x1 x2 x3 x4 = kk0 x0 x1 x2 x3 x4) : keep_Times_p6 n w11 a0_0 a0_1 a0_2 w9 w4 w5 k0 = keep_Times_p6 n w11 a0_0 a0_1 a0_2 w9 w4 w5 kk0 := by
  obtain rfl : k0 = kk0 := funext fun x0 => funext fun x1 => funext fun x2 => funext fun x3 => funext fun x4 => hq0 x0 x1 x2 x3 x4
  rfl
theorem keep_Times_p7_congr {R : Type} (n : Nat) (w11 : Int) (a0_0 : Int) (a0_1 : List (List D)) (a0_2 : List (List D)) (w9 : List (List D)) (w4 : List (List D)) (w5 : Int) {k0 kk0 : Int → Bool → (List (List D)) → (List (List D)) → Int → Option R} (hq0 : ∀ x0 x1 x2 x3 x4, k0 x0 x1 x2 x3 x4 = kk0 x0 x1 x2 x3 x4) : keep_Times_p7 n w11 a0_0 a0_1 a0_2 w9 w4 w5 k0 = keep_Times_p7 n w11 a0_0 a0_1 a0_2 w9 w4 w5 kk0 := by
  obtain rfl : k0 = kk0 := funext fun x0 => funext fun x1 => funext fun x2 => funext fun x3 => funext fun x4 => hq0 x0 x1 x2 x3 x4
  rfl
theorem keep_Times_p8_congr {R : Type} (n : Nat) (a0_0 : Int) (a0_1 : List (List D)) (a0_2 : List (List D)) (w9 : List (List D)) (w4 : List (List D)) (w5 : Int) {k0 kk0 : Int → Int → Bool → (List (List D)) → (List (List D)) → Int → Option R} (hq0 : ∀ x0 x1 x2 x3 x4 x5, k0 x0 x1 x2 x3 x4 x5 = kk0 x0 x1 x2 x3 x4 x5) : keep_Times_p8 n a0_0 a0_1 a0_2 w9 w4 w5 k0 = keep_Times_p8 n a0_0 a0_1 a0_2 w9 w4 w5 kk0 := by
  obtain rfl : k0 = kk0 := funext fun x0 => funext fun x1 => funext fun x2 => funext fun x3 => funext fun x4 => funext fun x5 => hq0 x0 x1 x2 x3 x4 x5
  rfl
theorem keep_Times_p9_congr {R : Type} (n : Nat) (w51 : Int) (w52 : Int) (w53 : Bool) (a0_0 : Int) (a0_1 : List (List D)) (a0_2 : List (List D)) (w54 : List (List D)) (w55 : List (List D)) (w56 : Int) {k0 kk0 : Option R} (hq0 : k0 = kk0) : keep_Times_p9 n w51 w52 w53 a0_0 a0_1 a0_2 w54 w55 w56 k0 = keep_Times_p9 n w51 w52 w53 a0_0 a0_1 a0_2 w54 w55 w56 kk0 := by
  obtain rfl : k0 = kk0 := hq0
  rfl
theorem keep_Times_p10_congr {R : Type} (n : Nat) (a0_0 : Int) (a0_1 : List (List D)) (a0_2 : List (List D)) (w9 : List (List D)) (w4 : List (List D)) (w5 : Int) {k0 kk0 : (List (List D)) → Option R} (hq0 : ∀ x0, k0 x0 = kk0 x0) : keep_Times_p10 n a0_0 a0_1 a0_2 w9 w4 w5 k0 = keep_Times_p10 n a0_0 a0_1 a0_2 w9 w4 w5 kk0 := by
  obtain rfl : k0 = kk0 := funext fun x0 => hq0 x0
  rfl
theorem keep_Times_p11_congr {R : Type} (n : Nat) (a0_0 : Int) (a0_1 : List (List D)) (a0_2 : List (List D)) (w4 : List (List D)) (w5 : Int) {k0 kk0 : (List (List D)) → Option R} (hq0 : ∀ x0, k0 x0 = kk0 x0) : keep_Times_p11 n a0_0 a0_1 a0_2 w4 w5 k0 = keep_Times_p11 n a0_0 a0_1 a0_2 w4 w5 kk0 := by
  obtain rfl : k0 = kk0 := funext fun x0 => hq0 x0
  rfl
theorem keep_Times_p12_congr {R : Type} (n : Nat) (a1 : List (List D)) (a0_0 : Int) (a0_1 : List (List D)) (a0_2 : List (List D)) {k0 kk0 : (List (List D)) → Option R} (hq0 : ∀ x0, k0 x0 = kk0 x0) : keep_Times_p12 n a1 a0_0 a0_1 a0_2 k0 = keep_Times_p12 n a1 a0_0 a0_1 a0_2 kk0 := by
  obtain rfl : k0 = kk0 := funext fun x0 => hq0 x0
  rfl
theorem keep_Times_p13_congr {R : Type} (n : Nat) (a0_0 : Int) (a0_1 : List (List D)) (a0_2 : List (List D)) (a1 : List (List D)) {k0 kk0 : (List (List D)) → Option R} (hq0 : ∀ x0, k0 x0 = kk0 x0) : keep_Times_p13 n a0_0 a0_1 a0_2 a1 k0 = keep_Times_p13 n a0_0 a0_1 a0_2 a1 kk0 := by
  obtain rfl : k0 = kk0 := funext fun x0 => hq0 x0
  rfl
theorem keep_Times_p1_eq {R : Type} (n : Nat) (a0_0 : Int) (a0_1 : List (List D)) (a0_2 : List (List D)) (a1 : List (List D)) (k : Exit → St → Option R) : vexec (keep_Times_C n) n keep_Times_c1 ⟨28, [(0, .ag [.d (D.int .i64 a0_0), .d (D.sl 3 a0_1), .d (D.sl 6 a0_2)]), (1, .d (D.sl 1 a1))], []⟩ k = keep_Times_p1 n a0_0 a0_1 a0_2 a1 (k .normal ⟨28, [(1, .d (D.sl 1 a1)), (2, .ptr 2 0)], [(2, .box [.d (D.int .i64 a0_0), .d (D.sl 3 a0_1), .d (D.sl 6 a0_2)])]⟩) := by kernel_rfl
theorem keep_Times_p2_eq {R : Type} (n : Nat) (a1 : List (List D)) (a0_0 : Int) (a0_1 : List (List D)) (a0_2 : List (List D)) (k : Exit → St → Option R) : vexec (keep_Times_C n) n keep_Times_c2 ⟨28, [(1, .d (D.sl 1 a1)), (2, .ptr 2 0)], [(2, .box [.d (D.int .i64 a0_0), .d (D.sl 3 a0_1), .d (D.sl 6 a0_2)])]⟩ k = keep_Times_p2 n a1 a0_0 a0_1 a0_2 (fun z2 z3 => k .normal ⟨28, [(2, .ptr 2 0), (5, .ptr 100009 0)], [(2, .box [.d (D.int .i64 a0_0), .d (D.sl 3 a0_1), .d (D.sl 6 a0_2)]), (100009, .box [.d (D.sl 1 z2), .d (D.int .i64 z3)])]⟩) := by kernel_rfl
theorem keep_Times_p3_eq {R : Type} (n : Nat) (a0_0 : Int) (a0_1 : List (List D)) (a0_2 : List (List D)) (w4 : List (List D)) (w5 : Int) (k : Exit → St → Option R) : vexec (keep_Times_C n) n keep_Times_c3 ⟨28, [(2, .ptr 2 0), (5, .ptr 100009 0)], [(2, .box [.d (D.int .i64 a0_0), .d (D.sl 3 a0_1), .d (D.sl 6 a0_2)]), (100009, .box [.d (D.sl 1 w4), .d (D.int .i64 w5)])]⟩ k = keep_Times_p3 n a0_0 a0_1 a0_2 w4 w5 (fun z8 => k .normal ⟨28, [(2, .ptr 2 0), (5, .ptr 100009 0), (6, .arr 13)], [(2, .box [.d (D.int .i64 a0_0), .d (D.sl 3 a0_1), .d (D.sl 6 a0_2)]), (13, .arr 3 1 z8), (100009, .box [.d (D.sl 1 w4), .d (D.int .i64 w5)])]⟩) := by kernel_rfl
theorem keep_Times_p4_eq {R : Type} (n : Nat) (a0_0 : Int) (a0_1 : List (List D)) (a0_2 : List (List D)) (w9 : List (List D)) (w4 : List (List D)) (w5 : Int) (k : Exit → St → Option R) : vexec (keep_Times_C n) n keep_Times_c4 ⟨28, [(2, .ptr 2 0), (5, .ptr 100009 0), (6, .arr 13)], [(2, .box [.d (D.int .i64 a0_0), .d (D.sl 3 a0_1), .d (D.sl 6 a0_2)]), (13, .arr 3 1 w9), (100009, .box [.d (D.sl 1 w4), .d (D.int .i64 w5)])]⟩ k = keep_Times_p4 n a0_0 a0_1 a0_2 w9 w4 w5 (fun z10 => k .normal ⟨28, [(2, .ptr 2 0), (5, .ptr 100009 0), (6, .arr 13), (15, .d (D.int .i64 z10)), (16, .d (D.int .i64 (0 : Int)))], [(2, .box [.d (D.int .i64 a0_0), .d (D.sl 3 a0_1), .d (D.sl 6 a0_2)]), (13, .arr 3 1 w9), (100009, .box [.d (D.sl 1 w4), .d (D.int .i64 w5)])]⟩) := by kernel_rfl
theorem keep_Times_p5_eq {R : Type} (n : Nat) (w11 : Int) (h13 : Int) (a0_0 : Int) (a0_1 : List (List D)) (a0_2 : List (List D)) (h17 : List (List D)) (h18 : List (List D)) (h19 : Int) (k : Exit → St → Option R) : vexec (keep_Times_C n) n keep_Times_c5 ⟨28, [(2, .ptr 2 0), (5, .ptr 100009 0), (6, .arr 13), (15, .d (D.int .i64 w11)), (16, .d (D.int .i64 h13))], [(2, .box [.d (D.int .i64 a0_0), .d (D.sl 3 a0_1), .d (D.sl 6 a0_2)]), (13, .arr 3 1 h17), (100009, .box [.d (D.sl 1 h18), .d (D.int .i64 h19)])]⟩ k = keep_Times_p5 n w11 h13 a0_0 a0_1 a0_2 h17 h18 h19 (fun z31 z32 z33 z34 => k .normal ⟨28, [(2, .ptr 2 0), (5, .ptr 100009 0), (6, .arr 13), (15, .d (D.int .i64 w11)), (16, .d (D.int .i64 z31))], [(2, .box [.d (D.int .i64 a0_0), .d (D.sl 3 a0_1), .d (D.sl 6 a0_2)]), (13, .arr 3 1 z32), (100009, .box [.d (D.sl 1 z33), .d (D.int .i64 z34)])]⟩) (fun z35 => k (.exit 0) ⟨28, [(2, .ptr 2 0), (5, .ptr 100009 0), (6, .arr 13), (15, .d (D.int .i64 w11)), (16, .d (D.int .i64 h13)), (17, .d (D.bool z35))], [(2, .box [.d (D.int .i64 a0_0), .d (D.sl 3 a0_1), .d (D.sl 6 a0_2)]), (13, .arr 3 1 h17), (100009, .box [.d (D.sl 1 h18), .d (D.int .i64 h19)])]⟩) := by kernel_rfl
theorem keep_Times_r6_eq {R : Type} (n : Nat) (w11 : Int) (a0_0 : Int) (a0_1 : List (List D)) (a0_2 : List (List D)) (k : Exit → St → Option R) : ∀ (m : Nat) (h13 : Int) (h17 : List (List D)) (h18 : List (List D)) (h19 : Int), loopN (vexec (keep_Times_C n) n keep_Times_c5) m ⟨28, [(2, .ptr 2 0), (5, .ptr 100009 0), (6, .arr 13), (15, .d (D.int .i64 w11)), (16, .d (D.int .i64 h13))], [(2, .box [.d (D.int .i64 a0_0), .d (D.sl 3 a0_1), .d (D.sl 6 a0_2)]), (13, .arr 3 1 h17), (100009, .box [.d (D.sl 1 h18), .d (D.int .i64 h19)])]⟩ k = keep_Times_r6 n w11 a0_0 a0_1 a0_2 (fun h13 w40 h17 h18 h19 => k (.exit 0) ⟨28, [(2, .ptr 2 0), (5, .ptr 100009 0), (6, .arr 13), (15, .d (D.int .i64 w11)), (16, .d (D.int .i64 h13)), (17, .d (D.bool w40))], [(2, .box [.d (D.int .i64 a0_0), .d (D.sl 3 a0_1), .d (D.sl 6 a0_2)]), (13, .arr 3 1 h17), (100009, .box [.d (D.sl 1 h18), .d (D.int .i64 h19)])]⟩) m h13 h17 h18 h19
  | 0, _, _, _, _ => rfl
  | m + 1, h13, h17, h18, h19 => (keep_Times_p5_eq n w11 h13 a0_0 a0_1 a0_2 h17 h18 h19 (loopK (vexec (keep_Times_C n) n keep_Times_c5) m k)).trans (keep_Times_p5_congr n w11 h13 a0_0 a0_1 a0_2 h17 h18 h19 (fun w36 w37 w38 w39 => keep_Times_r6_eq n w11 a0_0 a0_1 a0_2 k m w36 w37 w38 w39) (fun w40 => rfl))
theorem keep_Times_p6_eq {R : Type} (n : Nat) (w11 : Int) (a0_0 : Int) (a0_1 : List (List D)) (a0_2 : List (List D)) (w9 : List (List D)) (w4 : List (List D)) (w5 : Int) (k : Exit → St → Option R) : vexec (keep_Times_C n) n keep_Times_c6 ⟨28, [(2, .ptr 2 0), (5, .ptr 100009 0), (6, .arr 13), (15, .d (D.int .i64 w11)), (16, .d (D.int .i64 (0 : Int)))], [(2, .box [.d (D.int .i64 a0_0), .d (D.sl 3 a0_1), .d (D.sl 6 a0_2)]), (13, .arr 3 1 w9), (100009, .box [.d (D.sl 1 w4), .d (D.int .i64 w5)])]⟩ k = keep_Times_p6 n w11 a0_0 a0_1 a0_2 w9 w4 w5 (fun h13 w40 h17 h18 h19 => k (.exit 0) ⟨28, [(2, .ptr 2 0), (5, .ptr 100009 0), (6, .arr 13), (15, .d (D.int .i64 w11)), (16, .d (D.int .i64 h13)), (17, .d (D.bool w40))], [(2, .box [.d (D.int .i64 a0_0), .d (D.sl 3 a0_1), .d (D.sl 6 a0_2)]), (13, .arr 3 1 h17), (100009, .box [.d (D.sl 1 h18), .d (D.int .i64 h19)])]⟩) := by
  rw [keep_Times_c6_eq]
  exact keep_Times_r6_eq n w11 a0_0 a0_1 a0_2 k n (0 : Int) w9 w4 w5
theorem keep_Times_p7_eq {R : Type} (n : Nat) (w11 : Int) (a0_0 : Int) (a0_1 : List (List D)) (a0_2 : List (List D)) (w9 : List (List D)) (w4 : List (List D)) (w5 : Int) (k : Exit → St → Option R) : vexec (keep_Times_C n) n keep_Times_c7 ⟨28, [(2, .ptr 2 0), (5, .ptr 100009 0), (6, .arr 13), (15, .d (D.int .i64 w11)), (16, .d (D.int .i64 (0 : Int)))], [(2, .box [.d (D.int .i64 a0_0), .d (D.sl 3 a0_1), .d (D.sl 6 a0_2)]), (13, .arr 3 1 w9), (100009, .box [.d (D.sl 1 w4), .d (D.int .i64 w5)])]⟩ k = keep_Times_p7 n w11 a0_0 a0_1 a0_2 w9 w4 w5 (fun w41 w42 w43 w44 w45 => k .normal ⟨28, [(2, .ptr 2 0), (5, .ptr 100009 0), (6, .arr 13), (15, .d (D.int .i64 w11)), (16, .d (D.int .i64 w41)), (17, .d (D.bool w42))], [(2, .box [.d (D.int .i64 a0_0), .d (D.sl 3 a0_1), .d (D.sl 6 a0_2)]), (13, .arr 3 1 w43), (100009, .box [.d (D.sl 1 w44), .d (D.int .i64 w45)])]⟩) := by
  rw [keep_Times_c7_eq]
  unfold keep_Times_p7
  exact (keep_Times_p6_eq n w11 a0_0 a0_1 a0_2 w9 w4 w5 (blockK 0 k)).trans (keep_Times_p6_congr n w11 a0_0 a0_1 a0_2 w9 w4 w5 (fun w41 w42 w43 w44 w45 => rfl))
theorem keep_Times_p8_eq {R : Type} (n : Nat) (a0_0 : Int) (a0_1 : List (List D)) (a0_2 : List (List D)) (w9 : List (List D)) (w4 : List (List D)) (w5 : Int) (k : Exit → St → Option R) : vexec (keep_Times_C n) n keep_Times_c8 ⟨28, [(2, .ptr 2 0), (5, .ptr 100009 0), (6, .arr 13)], [(2, .box [.d (D.int .i64 a0_0), .d (D.sl 3 a0_1), .d (D.sl 6 a0_2)]), (13, .arr 3 1 w9), (100009, .box [.d (D.sl 1 w4), .d (D.int .i64 w5)])]⟩ k = keep_Times_p8 n a0_0 a0_1 a0_2 w9 w4 w5 (fun w11 w46 w47 w48 w49 w50 => k .normal ⟨28, [(2, .ptr 2 0), (5, .ptr 100009 0), (6, .arr 13), (15, .d (D.int .i64 w11)), (16, .d (D.int .i64 w46)), (17, .d (D.bool w47))], [(2, .box [.d (D.int .i64 a0_0), .d (D.sl 3 a0_1), .d (D.sl 6 a0_2)]), (13, .arr 3 1 w48), (100009, .box [.d (D.sl 1 w49), .d (D.int .i64 w50)])]⟩) := by
  rw [keep_Times_c8_eq]
  unfold keep_Times_p8
  exact (keep_Times_p4_eq n a0_0 a0_1 a0_2 w9 w4 w5 (seqK (keep_Times_C n) n keep_Times_c7 k)).trans (keep_Times_p4_congr n a0_0 a0_1 a0_2 w9 w4 w5 (fun w11 => keep_Times_p7_eq n w11 a0_0 a0_1 a0_2 w9 w4 w5 k))
theorem keep_Times_p9_eq {R : Type} (n : Nat) (w51 : Int) (w52 : Int) (w53 : Bool) (a0_0 : Int) (a0_1 : List (List D)) (a0_2 : List (List D)) (w54 : List (List D)) (w55 : List (List D)) (w56 : Int) (k : Exit → St → Option R) : vexec (keep_Times_C n) n keep_Times_c9 ⟨28, [(2, .ptr 2 0), (5, .ptr 100009 0), (6, .arr 13), (15, .d (D.int .i64 w51)), (16, .d (D.int .i64 w52)), (17, .d (D.bool w53))], [(2, .box [.d (D.int .i64 a0_0), .d (D.sl 3 a0_1), .d (D.sl 6 a0_2)]), (13, .arr 3 1 w54), (100009, .box [.d (D.sl 1 w55), .d (D.int .i64 w56)])]⟩ k = keep_Times_p9 n w51 w52 w53 a0_0 a0_1 a0_2 w54 w55 w56 (k .ret ⟨28, [(4, .arr 13)], [(13, .arr 3 1 w54)]⟩) := by kernel_rfl
theorem keep_Times_p10_eq {R : Type} (n : Nat) (a0_0 : Int) (a0_1 : List (List D)) (a0_2 : List (List D)) (w9 : List (List D)) (w4 : List (List D)) (w5 : Int) (k : Exit → St → Option R) : vexec (keep_Times_C n) n keep_Times_c10 ⟨28, [(2, .ptr 2 0), (5, .ptr 100009 0), (6, .arr 13)], [(2, .box [.d (D.int .i64 a0_0), .d (D.sl 3 a0_1), .d (D.sl 6 a0_2)]), (13, .arr 3 1 w9), (100009, .box [.d (D.sl 1 w4), .d (D.int .i64 w5)])]⟩ k = keep_Times_p10 n a0_0 a0_1 a0_2 w9 w4 w5 (fun w54 => k .ret ⟨28, [(4, .arr 13)], [(13, .arr 3 1 w54)]⟩) := by
  rw [keep_Times_c10_eq]
  unfold keep_Times_p10
  exact (keep_Times_p8_eq n a0_0 a0_1 a0_2 w9 w4 w5 (seqK (keep_Times_C n) n keep_Times_c9 k)).trans (keep_Times_p8_congr n a0_0 a0_1 a0_2 w9 w4 w5 (fun w51 w52 w53 w54 w55 w56 => keep_Times_p9_eq n w51 w52 w53 a0_0 a0_1 a0_2 w54 w55 w56 k))
theorem keep_Times_p11_eq {R : Type} (n : Nat) (a0_0 : Int) (a0_1 : List (List D)) (a0_2 : List (List D)) (w4 : List (List D)) (w5 : Int) (k : Exit → St → Option R) : vexec (keep_Times_C n) n keep_Times_c11 ⟨28, [(2, .ptr 2 0), (5, .ptr 100009 0)], [(2, .box [.d (D.int .i64 a0_0), .d (D.sl 3 a0_1), .d (D.sl 6 a0_2)]), (100009, .box [.d (D.sl 1 w4), .d (D.int .i64 w5)])]⟩ k = keep_Times_p11 n a0_0 a0_1 a0_2 w4 w5 (fun w57 => k .ret ⟨28, [(4, .arr 13)], [(13, .arr 3 1 w57)]⟩) := by
  rw [keep_Times_c11_eq]
  unfold keep_Times_p11
  exact (keep_Times_p3_eq n a0_0 a0_1 a0_2 w4 w5 (seqK (keep_Times_C n) n keep_Times_c10 k)).trans (keep_Times_p3_congr n a0_0 a0_1 a0_2 w4 w5 (fun w9 => keep_Times_p10_eq n a0_0 a0_1 a0_2 w9 w4 w5 k))
theorem keep_Times_p12_eq {R : Type} (n : Nat) (a1 : List (List D)) (a0_0 : Int) (a0_1 : List (List D)) (a0_2 : List (List D)) (k : Exit → St → Option R) : vexec (keep_Times_C n) n keep_Times_c12 ⟨28, [(1, .d (D.sl 1 a1)), (2, .ptr 2 0)], [(2, .box [.d (D.int .i64 a0_0), .d (D.sl 3 a0_1), .d (D.sl 6 a0_2)])]⟩ k = keep_Times_p12 n a1 a0_0 a0_1 a0_2 (fun w58 => k .ret ⟨28, [(4, .arr 13)], [(13, .arr 3 1 w58)]⟩) := by
  rw [keep_Times_c12_eq]
  unfold keep_Times_p12
  exact (keep_Times_p2_eq n a1 a0_0 a0_1 a0_2 (seqK (keep_Times_C n) n keep_Times_c11 k)).trans (keep_Times_p2_congr n a1 a0_0 a0_1 a0_2 (fun w4 w5 => keep_Times_p11_eq n a0_0 a0_1 a0_2 w4 w5 k))
theorem keep_Times_p13_eq {R : Type} (n : Nat) (a0_0 : Int) (a0_1 : List (List D)) (a0_2 : List (List D)) (a1 : List (List D)) (k : Exit → St → Option R) : vexec (keep_Times_C n) n keep_Times_c0 ⟨28, [(0, .ag [.d (D.int .i64 a0_0), .d (D.sl 3 a0_1), .d (D.sl 6 a0_2)]), (1, .d (D.sl 1 a1))], []⟩ k = keep_Times_p13 n a0_0 a0_1 a0_2 a1 (fun w59 => k .ret ⟨28, [(4, .arr 13)], [(13, .arr 3 1 w59)]⟩) := by
  rw [keep_Times_c0_eq]
  unfold keep_Times_p13
  exact (keep_Times_p1_eq n a0_0 a0_1 a0_2 a1 (seqK (keep_Times_C n) n keep_Times_c12 k)).trans (keep_Times_p1_congr n a0_0 a0_1 a0_2 a1 (keep_Times_p12_eq n a1 a0_0 a0_1 a0_2 k))
theorem keep_Times_vfn {R : Type} (n : Nat) (a0_0 : Int) (a0_1 : List (List D)) (a0_2 : List (List D)) (a1 : List (List D)) (K : AV → Option R) : vfn (keep_Times_C n) n Try.f14 [.ag [.d (D.int .i64 a0_0), .d (D.sl 3 a0_1), .d (D.sl 6 a0_2)], .d (D.sl 1 a1)] [] (retF [[1]] K) = keep_Times n a0_0 a0_1 a0_2 a1 (fun r0 => K (.d (D.sl 1 r0))) :=
  (show vfn (keep_Times_C n) n Try.f14 [.ag [.d (D.int .i64 a0_0), .d (D.sl 3 a0_1), .d (D.sl 6 a0_2)], .d (D.sl 1 a1)] [] (retF [[1]] K) = vexec (keep_Times_C n) n keep_Times_c0 ⟨28, [(0, .ag [.d (D.int .i64 a0_0), .d (D.sl 3 a0_1), .d (D.sl 6 a0_2)]), (1, .d (D.sl 1 a1))], []⟩ (retX keep_Times_tt [.tmp 4] (retF [[1]] K)) from vfn_at (by kernel_rfl) (by kernel_rfl) rfl (by kernel_rfl) rfl (by kernel_rfl) rfl).trans ((keep_Times_p13_eq n a0_0 a0_1 a0_2 a1 (retX keep_Times_tt [.tmp 4] (retF [[1]] K))).trans (by kernel_rfl))
def keep_Times_K : AV → Option (List (List D)) := fun av => match av with
  | .d (D.sl 1 r0) => some r0
  | _ => none
def keep_Times_e (n : Nat) : Entry := fun _ _ g avs _ k => match avs with
  | [c0, c1] => 
    prG c0 fun l0 => (match l0 with
    | [c0_0, c0_1, c0_2] => prI g .i64 c0_0 fun a0_0 => prS g 3 c0_1 fun a0_1 => prS g 6 c0_2 fun a0_2 => prS g 1 c1 fun a1 => 
    gb g (keep_Times n a0_0 a0_1 a0_2 a1 some) [] fun r => k ⟨.d (D.sl 1 r), [], []⟩
    | _ => none)
  | _ => none
theorem keep_Times_ok (n : Nat) : EntryOK Try.prog 14 (keep_Times_e n) := by
  intro R site g avs hl k r h
  unfold keep_Times_e at h
  split at h
  rotate_left
  · cases h
  replace h := prG_some h
  obtain ⟨l0, h, e0⟩ := h
  subst e0
  split at h
  rotate_left
  · cases h
  replace h := prI_some h
  obtain ⟨a0_0, h, le0⟩ := h
  replace h := prS_some h
  obtain ⟨a0_1, h, le1⟩ := h
  replace h := prS_some h
  obtain ⟨a0_2, h, le2⟩ := h
  replace h := prS_some h
  obtain ⟨a1, h, le3⟩ := h
  replace h := gb_some h
  obtain ⟨res, h, hr⟩ := h
  refine ⟨_, h, fun hg => CallOK.conv (avs' := [.ag [.d (D.int .i64 a0_0), .d (D.sl 3 a0_1), .d (D.sl 6 a0_2)], .d (D.sl 1 a1)]) (.cons (.ag (.cons (le0 hg) (.cons (le1 hg) (.cons (le2 hg) (.nil))))) (.cons (le3 hg) (.nil))) (callOK_fix (K := keep_Times_K) (res := res) (keep_Times_VC n) (fn := Try.f14) (n := n) (by kernel_rfl) (by kernel_rfl) (by kernel_rfl) (ss := [[1]]) rfl ?_ ?_)⟩
  · exact (keep_Times_vfn n a0_0 a0_1 a0_2 a1 keep_Times_K).trans (hr hg)
  · intro x hx
    unfold keep_Times_K at hx
    split at hx
    · injection hx with hx; subst hx; rfl
    · cases hx
def keep_Times_Ko : AV → List (Nat × Ob) → Option (List (List D)) := fun av H => (look H 13).bind fun o0 => match av, o0 with
  | .arr p0, .arr p1 p2 r0 => bif Nat.beq p0 13 && (Nat.beq p1 3 && (Nat.beq p2 1)) then some r0 else none
  | _, _ => none
theorem keep_Times_vfo (n : Nat) (a0_0 : Int) (a0_1 : List (List D)) (a0_2 : List (List D)) (a1 : List (List D)) : vfn (keep_Times_C n) n Try.f14 [.ag [.d (D.int .i64 a0_0), .d (D.sl 3 a0_1), .d (D.sl 6 a0_2)], .d (D.sl 1 a1)] [] keep_Times_Ko = keep_Times n a0_0 a0_1 a0_2 a1 some :=
  (show vfn (keep_Times_C n) n Try.f14 [.ag [.d (D.int .i64 a0_0), .d (D.sl 3 a0_1), .d (D.sl 6 a0_2)], .d (D.sl 1 a1)] [] keep_Times_Ko = vexec (keep_Times_C n) n keep_Times_c0 ⟨28, [(0, .ag [.d (D.int .i64 a0_0), .d (D.sl 3 a0_1), .d (D.sl 6 a0_2)]), (1, .d (D.sl 1 a1))], []⟩ (retX keep_Times_tt [.tmp 4] keep_Times_Ko) from vfn_at (by kernel_rfl) (by kernel_rfl) rfl (by kernel_rfl) rfl (by kernel_rfl) rfl).trans ((keep_Times_p13_eq n a0_0 a0_1 a0_2 a1 (retX keep_Times_tt [.tmp 4] keep_Times_Ko)).trans (by kernel_rfl))
def keep_Times_o (n : Nat) : Entry := fun _ site g avs hl k => match avs with
  | [c0, c1] => 
    prG c0 fun l0 => (match l0 with
    | [c0_0, c0_1, c0_2] => prI g .i64 c0_0 fun a0_0 => prS g 3 c0_1 fun a0_1 => prS g 6 c0_2 fun a0_2 => prS g 1 c1 fun a1 => 
    bif newsOk hl [] [(13, (site + 100000))] then gb g (keep_Times n a0_0 a0_1 a0_2 a1 some) [] fun r => k ⟨.arr (site + 100000), [((site + 100000), some (.arr 3 1 r))], []⟩ else none
    | _ => none)
  | _ => none
theorem keep_Times_oo (n : Nat) : EntryOK Try.prog 14 (keep_Times_o n) := by
  intro R site g avs hl k r h
  unfold keep_Times_o at h
  split at h
  rotate_left
  · cases h
  replace h := prG_some h
  obtain ⟨l0, h, e0⟩ := h
  subst e0
  split at h
  rotate_left
  · cases h
  replace h := prI_some h
  obtain ⟨a0_0, h, le0⟩ := h
  replace h := prS_some h
  obtain ⟨a0_1, h, le1⟩ := h
  replace h := prS_some h
  obtain ⟨a0_2, h, le2⟩ := h
  replace h := prS_some h
  obtain ⟨a1, h, le3⟩ := h
  replace h := bif_some h
  obtain ⟨hc, h⟩ := h
  replace h := gb_some h
  obtain ⟨res, h, hr⟩ := h
  refine ⟨_, h, fun hg => CallOK.conv (avs' := [.ag [.d (D.int .i64 a0_0), .d (D.sl 3 a0_1), .d (D.sl 6 a0_2)], .d (D.sl 1 a1)]) (.cons (.ag (.cons (le0 hg) (.cons (le1 hg) (.cons (le2 hg) (.nil))))) (.cons (le3 hg) (.nil))) (callOK_own (K := keep_Times_Ko) (res := res) (keep_Times_VC n) (fn := Try.f14) (n := n) (by kernel_rfl) (by kernel_rfl) (by kernel_rfl) (ρ := []) (ν := [(13, (site + 100000))]) (avs' := [.ag [.d (D.int .i64 a0_0), .d (D.sl 3 a0_1), .d (D.sl 6 a0_2)], .d (D.sl 1 a1)]) (H := []) rfl rfl rfl rfl hc (trivial) rfl rfl ?_ ?_)⟩
  · exact (keep_Times_vfo n a0_0 a0_1 a0_2 a1).trans (hr hg)
  · intro av H' hx
    unfold keep_Times_Ko at hx
    replace hx := Option.bind_eq_some_iff.1 hx
    obtain ⟨o0, ho0, hx⟩ := hx
    split at hx
    rotate_left
    · cases hx
    replace hx := bif_some hx
    obtain ⟨hck, hx⟩ := hx
    simp only [Bool.and_eq_true] at hck
    obtain ⟨ek0, ek1, ek2⟩ := hck
    have ek0 := Nat.eq_of_beq_eq_true ek0
    subst ek0
    have ek1 := Nat.eq_of_beq_eq_true ek1
    subst ek1
    have ek2 := Nat.eq_of_beq_eq_true ek2
    subst ek2
    injection hx with hx
    subst hx
    refine ⟨rfl, ?_, ⟨by rw [ho0]; rfl, trivial⟩, trivial⟩
    simp only [List.cons_append, List.nil_append, outWr, ho0, Option.map_some]
    rfl
end Go.Vx
/-
  ref11_in: the interpreter computes the pure function
-/
set_option linter.unusedVariables false
set_option linter.unusedSimpArgs false
set_option maxRecDepth 100000
namespace Go.Vx
open Go.Proofs
noncomputable def ref11_in_c0 : Code := bodyOf Try.f26
def ref11_in_tt : TT := [(3, ⟨.int .i64, 1, 8, [.int .i64 0], [.int .i64 0], [], none⟩)]
theorem ref11_in_tt_eq : mkTT Try.prog [3] = ref11_in_tt := by kernel_rfl
def ref11_in_cfg : List (Nat × Cfg) := [(0, ⟨[0, 1, 2], [], [], [], []⟩), (1, ⟨[6], [], [], [], []⟩)]
def ref11_in_C (n : Nat) : VC := ⟨specOf [], ref11_in_tt, ref11_in_cfg⟩
theorem ref11_in_ents (n : Nat) : EntsOK Try.prog [] := trivial
theorem ref11_in_VC (n : Nat) : VCOk Try.prog (ref11_in_C n) := ⟨specOf_ok (ref11_in_ents n), (ref11_in_tt_eq ▸ mkTT_ok _ : TOk Try.prog ref11_in_tt), by kernel_rfl⟩
theorem ref11_in_p1_congr {R : Type} (n : Nat) (a0 : Int) (a1 : Int) (a2 : Int) {k0 kk0 : Bool → Option R} (hq0 : ∀ x0, k0 x0 = kk0 x0) : ref11_in_p1 n a0 a1 a2 k0 = ref11_in_p1 n a0 a1 a2 kk0 := by
  obtain rfl : k0 = kk0 := funext fun x0 => hq0 x0
  rfl
theorem ref11_in_p1_eq {R : Type} (n : Nat) (a0 : Int) (a1 : Int) (a2 : Int) (k : Exit → St → Option R) : vexec (ref11_in_C n) n ref11_in_c0 ⟨15, [(0, .d (D.int .i64 a0)), (1, .d (D.int .i64 a1)), (2, .d (D.int .i64 a2))], []⟩ k = ref11_in_p1 n a0 a1 a2 (fun z1 => k .ret ⟨15, [(6, .d (D.bool z1))], []⟩) := by kernel_rfl
theorem ref11_in_vfn {R : Type} (n : Nat) (a0 : Int) (a1 : Int) (a2 : Int) (K : AV → Option R) : vfn (ref11_in_C n) n Try.f26 [.d (D.int .i64 a0), .d (D.int .i64 a1), .d (D.int .i64 a2)] [] (retF [[0]] K) = ref11_in n a0 a1 a2 (fun r0 => K (.d (D.bool r0))) :=
  (show vfn (ref11_in_C n) n Try.f26 [.d (D.int .i64 a0), .d (D.int .i64 a1), .d (D.int .i64 a2)] [] (retF [[0]] K) = vexec (ref11_in_C n) n ref11_in_c0 ⟨15, [(0, .d (D.int .i64 a0)), (1, .d (D.int .i64 a1)), (2, .d (D.int .i64 a2))], []⟩ (retX ref11_in_tt [.tmp 6] (retF [[0]] K)) from vfn_at (by kernel_rfl) (by kernel_rfl) rfl (by kernel_rfl) rfl (by kernel_rfl) rfl).trans ((ref11_in_p1_eq n a0 a1 a2 (retX ref11_in_tt [.tmp 6] (retF [[0]] K))).trans (by kernel_rfl))
def ref11_in_K : AV → Option (Bool) := fun av => match av with
  | .d (D.bool r0) => some r0
  | _ => none
def ref11_in_e (n : Nat) : Entry := fun _ _ g avs _ k => match avs with
  | [c0, c1, c2] => prI g .i64 c0 fun a0 => prI g .i64 c1 fun a1 => prI g .i64 c2 fun a2 => 
    gb g (ref11_in n a0 a1 a2 some) false fun r => k ⟨.d (D.bool r), [], []⟩
  | _ => none
theorem ref11_in_ok (n : Nat) : EntryOK Try.prog 26 (ref11_in_e n) := by
  intro R site g avs hl k r h
  unfold ref11_in_e at h
  split at h
  rotate_left
  · cases h
  replace h := prI_some h
  obtain ⟨a0, h, le0⟩ := h
  replace h := prI_some h
  obtain ⟨a1, h, le1⟩ := h
  replace h := prI_some h
  obtain ⟨a2, h, le2⟩ := h
  replace h := gb_some h
  obtain ⟨res, h, hr⟩ := h
  refine ⟨_, h, fun hg => CallOK.conv (avs' := [.d (D.int .i64 a0), .d (D.int .i64 a1), .d (D.int .i64 a2)]) (.cons (le0 hg) (.cons (le1 hg) (.cons (le2 hg) (.nil)))) (callOK_fix (K := ref11_in_K) (res := res) (ref11_in_VC n) (fn := Try.f26) (n := n) (by kernel_rfl) (by kernel_rfl) (by kernel_rfl) (ss := [[0]]) rfl ?_ ?_)⟩
  · exact (ref11_in_vfn n a0 a1 a2 ref11_in_K).trans (hr hg)
  · intro x hx
    unfold ref11_in_K at hx
    split at hx
    · injection hx with hx; subst hx; rfl
    · cases hx
end Go.Vx
/-
  ref11_Check: the interpreter computes the pure function
-/
set_option linter.unusedVariables false
set_option linter.unusedSimpArgs false
set_option maxRecDepth 100000
namespace Go.Vx
open Go.Proofs
noncomputable def ref11_Check_c0 : Code := bodyOf Try.f13
noncomputable def ref11_Check_c1 : Code := cL (bodyOf Try.f13)
noncomputable def ref11_Check_c2 : Code := cL (cR (bodyOf Try.f13))
noncomputable def ref11_Check_c3 : Code := cL (cL (cR (cR (bodyOf Try.f13))))
noncomputable def ref11_Check_c4 : Code := cB (cB (cR (cL (cR (cR (bodyOf Try.f13))))))
noncomputable def ref11_Check_c5 : Code := cB (cR (cL (cR (cR (bodyOf Try.f13)))))
noncomputable def ref11_Check_c6 : Code := cR (cL (cR (cR (bodyOf Try.f13))))
noncomputable def ref11_Check_c7 : Code := cL (cR (cR (bodyOf Try.f13)))
noncomputable def ref11_Check_c8 : Code := cR (cR (cR (bodyOf Try.f13)))
noncomputable def ref11_Check_c9 : Code := cR (cR (bodyOf Try.f13))
noncomputable def ref11_Check_c10 : Code := cR (bodyOf Try.f13)
theorem ref11_Check_c5_eq : ref11_Check_c5 = .loop ref11_Check_c4 := by kernel_rfl
theorem ref11_Check_c6_eq : ref11_Check_c6 = .block 0 ref11_Check_c5 := by kernel_rfl
theorem ref11_Check_c7_eq : ref11_Check_c7 = .seq ref11_Check_c3 ref11_Check_c6 := by kernel_rfl
theorem ref11_Check_c9_eq : ref11_Check_c9 = .seq ref11_Check_c7 ref11_Check_c8 := by kernel_rfl
theorem ref11_Check_c10_eq : ref11_Check_c10 = .seq ref11_Check_c2 ref11_Check_c9 := by kernel_rfl
theorem ref11_Check_c0_eq : ref11_Check_c0 = .seq ref11_Check_c1 ref11_Check_c10 := by kernel_rfl
def ref11_Check_tt : TT := [(3, ⟨.int .i64, 1, 8, [.int .i64 0], [.int .i64 0], [], none⟩), (23, ⟨.sl 46 3, 1, 24, [.slice none 0 0], [.sl 3 []], [], none⟩), (24, ⟨.sl 31 6, 1, 24, [.slice none 0 0], [.sl 6 []], [], none⟩), (26, ⟨.struct, 3, 56, [.int .i64 0, .slice none 0 0, .slice none 0 0], [.int .i64 0, .sl 3 [], .sl 6 []], [(0, 3), (1, 23), (2, 24)], none⟩), (31, ⟨.struct, 6, 48, [.int .i64 0, .int .i64 0, .int .i64 0, .int .i64 0, .int .i64 0, .int .i64 0], [.int .i64 0, .int .i64 0, .int .i64 0, .int .i64 0, .int .i64 0, .int .i64 0], [(0, 3), (1, 3), (2, 3), (3, 3), (4, 3), (5, 3)], some [.int .i64, .int .i64, .int .i64, .int .i64, .int .i64, .int .i64]⟩)]
theorem ref11_Check_tt_eq : mkTT Try.prog [3, 23, 24, 26, 31] = ref11_Check_tt := by kernel_rfl
def ref11_Check_cfg : List (Nat × Cfg) := [(0, ⟨[1], [(1, 1)], [], [], []⟩), (1, ⟨[1, 20], [(1, 1)], [], [], []⟩), (2, ⟨[2], [], [], [], []⟩), (3, ⟨[1, 3], [(1, 1)], [], [], []⟩), (4, ⟨[1, 3, 25], [(1, 1)], [], [], []⟩), (5, ⟨[1, 3], [(1, 1)], [], [], []⟩), (6, ⟨[1, 3, 4], [(1, 1), (4, 4)], [], [], []⟩), (7, ⟨[1, 3, 90], [(1, 1)], [], [], []⟩), (8, ⟨[2], [], [], [], []⟩), (9, ⟨[2], [], [], [], []⟩)]
def ref11_Check_C (n : Nat) : VC := ⟨specOf [(26, ref11_in_e n)], ref11_Check_tt, ref11_Check_cfg⟩
theorem ref11_Check_ents (n : Nat) : EntsOK Try.prog [(26, ref11_in_e n)] := ⟨ref11_in_ok n, trivial⟩
theorem ref11_Check_VC (n : Nat) : VCOk Try.prog (ref11_Check_C n) := ⟨specOf_ok (ref11_Check_ents n), (ref11_Check_tt_eq ▸ mkTT_ok _ : TOk Try.prog ref11_Check_tt), by kernel_rfl⟩
theorem ref11_Check_p1_congr {R : Type} (n : Nat) (a0_0 : Int) (a0_1 : List (List D)) (a0_2 : List (List D)) {k0 kk0 : Option R} (hq0 : k0 = kk0) : ref11_Check_p1 n a0_0 a0_1 a0_2 k0 = ref11_Check_p1 n a0_0 a0_1 a0_2 kk0 := by
  obtain rfl : k0 = kk0 := hq0
  rfl
theorem ref11_Check_p2_congr {R : Type} (n : Nat) (a0_0 : Int) (a0_1 : List (List D)) (a0_2 : List (List D)) {k0 kk0 : Option R} {k1 kk1 : Bool → Option R} (hq0 : k0 = kk0) (hq1 : ∀ x0, k1 x0 = kk1 x0) : ref11_Check_p2 n a0_0 a0_1 a0_2 k0 k1 = ref11_Check_p2 n a0_0 a0_1 a0_2 kk0 kk1 := by
  obtain rfl : k0 = kk0 := hq0
  obtain rfl : k1 = kk1 := funext fun x0 => hq1 x0
  rfl
theorem ref11_Check_p3_congr {R : Type} (n : Nat) (w3 : Bool) (a0_0 : Int) (a0_1 : List (List D)) (a0_2 : List (List D)) {k0 kk0 : Option R} (hq0 : k0 = kk0) : ref11_Check_p3 n w3 a0_0 a0_1 a0_2 k0 = ref11_Check_p3 n w3 a0_0 a0_1 a0_2 kk0 := by
  obtain rfl : k0 = kk0 := hq0
  rfl
theorem ref11_Check_p4_congr {R : Type} (n : Nat) (h4 : Int) (a0_0 : Int) (a0_1 : List (List D)) (a0_2 : List (List D)) {k0 kk0 : Option R} {k1 kk1 : Int → Option R} {k2 kk2 : Bool → Option R} (hq0 : k0 = kk0) (hq1 : ∀ x0, k1 x0 = kk1 x0) (hq2 : ∀ x0, k2 x0 = kk2 x0) : ref11_Check_p4 n h4 a0_0 a0_1 a0_2 k0 k1 k2 = ref11_Check_p4 n h4 a0_0 a0_1 a0_2 kk0 kk1 kk2 := by
  obtain rfl : k0 = kk0 := hq0
  obtain rfl : k1 = kk1 := funext fun x0 => hq1 x0
  obtain rfl : k2 = kk2 := funext fun x0 => hq2 x0
  rfl
theorem ref11_Check_p5_congr {R : Type} (n : Nat) (a0_0 : Int) (a0_1 : List (List D)) (a0_2 : List (List D)) {k0 kk0 : Option R} {k1 kk1 : Int → Bool → Option R} (hq0 : k0 = kk0) (hq1 : ∀ x0 x1, k1 x0 x1 = kk1 x0 x1) : ref11_Check_p5 n a0_0 a0_1 a0_2 k0 k1 = ref11_Check_p5 n a0_0 a0_1 a0_2 kk0 kk1 := by
  obtain rfl : k0 = kk0 := hq0
  obtain rfl : k1 = kk1 := funext fun x0 => funext fun x1 => hq1 x0 x1
  rfl
theorem ref11_Check_p6_congr {R : Type} (n : Nat) (a0_0 : Int) (a0_1 : List (List D)) (a0_2 : List (List D)) {k0 kk0 : Option R} {k1 kk1 : Int → Bool → Option R} (hq0 : k0 = kk0) (hq1 : ∀ x0 x1, k1 x0 x1 = kk1 x0 x1) : ref11_Check_p6 n a0_0 a0_1 a0_2 k0 k1 = ref11_Check_p6 n a0_0 a0_1 a0_2 kk0 kk1 := by
  obtain rfl : k0 = kk0 := hq0
  obtain rfl : k1 = kk1 := funext fun x0 => funext fun x1 => hq1 x0 x1
  rfl
theorem ref11_Check_p7_congr {R : Type} (n : Nat) (w3 : Bool) (a0_0 : Int) (a0_1 : List (List D)) (a0_2 : List (List D)) {k0 kk0 : Option R} {k1 kk1 : Int → Bool → Option R} (hq0 : k0 = kk0) (hq1 : ∀ x0 x1, k1 x0 x1 = kk1 x0 x1) : ref11_Check_p7 n w3 a0_0 a0_1 a0_2 k0 k1 = ref11_Check_p7 n w3 a0_0 a0_1 a0_2 kk0 kk1 := by
  obtain rfl : k0 = kk0 := hq0
  obtain rfl : k1 = kk1 := funext fun x0 => funext fun x1 => hq1 x0 x1
  rfl
theorem ref11_Check_p8_congr {R : Type} (n : Nat) (w60 : Int) (w61 : Bool) (a0_0 : Int) (a0_1 : List (List D)) (a0_2 : List (List D)) {k0 kk0 : Option R} (hq0 : k0 = kk0) : ref11_Check_p8 n w60 w61 a0_0 a0_1 a0_2 k0 = ref11_Check_p8 n w60 w61 a0_0 a0_1 a0_2 kk0 := by
  obtain rfl : k0 = kk0 := hq0
  rfl
theorem ref11_Check_p9_congr {R : Type} (n : Nat) (w3 : Bool) (a0_0 : Int) (a0_1 : List (List D)) (a0_2 : List (List D)) {k0 kk0 : Bool → Option R} (hq0 : ∀ x0, k0 x0 = kk0 x0) : ref11_Check_p9 n w3 a0_0 a0_1 a0_2 k0 = ref11_Check_p9 n w3 a0_0 a0_1 a0_2 kk0 := by
  obtain rfl : k0 = kk0 := funext fun x0 => hq0 x0
  rfl
theorem ref11_Check_p10_congr {R : Type} (n : Nat) (a0_0 : Int) (a0_1 : List (List D)) (a0_2 : List (List D)) {k0 kk0 : Bool → Option R} (hq0 : ∀ x0, k0 x0 = kk0 x0) : ref11_Check_p10 n a0_0 a0_1 a0_2 k0 = ref11_Check_p10 n a0_0 a0_1 a0_2 kk0 := by
  obtain rfl : k0 = kk0 := funext fun x0 => hq0 x0
  rfl
theorem ref11_Check_p11_congr {R : Type} (n : Nat) (a0_0 : Int) (a0_1 : List (List D)) (a0_2 : List (List D)) {k0 kk0 : Bool → Option R} (hq0 : ∀ x0, k0 x0 = kk0 x0) : ref11_Check_p11 n a0_0 a0_1 a0_2 k0 = ref11_Check_p11 n a0_0 a0_1 a0_2 kk0 := by
  obtain rfl : k0 = kk0 := funext fun x0 => hq0 x0
  rfl
theorem ref11_Check_p1_eq {R : Type} (n : Nat) (a0_0 : Int) (a0_1 : List (List D)) (a0_2 : List (List D)) (k : Exit → St → Option R) : vexec (ref11_Check_C n) n ref11_Check_c1 ⟨91, [(0, .ag [.d (D.int .i64 a0_0), .d (D.sl 3 a0_1), .d (D.sl 6 a0_2)])], []⟩ k = ref11_Check_p1 n a0_0 a0_1 a0_2 (k .normal ⟨91, [(1, .ptr 1 0)], [(1, .box [.d (D.int .i64 a0_0), .d (D.sl 3 a0_1), .d (D.sl 6 a0_2)])]⟩) := by kernel_rfl
theorem ref11_Check_p2_eq {R : Type} (n : Nat) (a0_0 : Int) (a0_1 : List (List D)) (a0_2 : List (List D)) (k : Exit → St → Option R) : vexec (ref11_Check_C n) n ref11_Check_c2 ⟨91, [(1, .ptr 1 0)], [(1, .box [.d (D.int .i64 a0_0), .d (D.sl 3 a0_1), .d (D.sl 6 a0_2)])]⟩ k = ref11_Check_p2 n a0_0 a0_1 a0_2 (k .ret ⟨91, [(2, .d (D.bool false))], []⟩) (fun z2 => k .normal ⟨91, [(1, .ptr 1 0), (20, .d (D.bool z2))], [(1, .box [.d (D.int .i64 a0_0), .d (D.sl 3 a0_1), .d (D.sl 6 a0_2)])]⟩) := by kernel_rfl
theorem ref11_Check_p3_eq {R : Type} (n : Nat) (w3 : Bool) (a0_0 : Int) (a0_1 : List (List D)) (a0_2 : List (List D)) (k : Exit → St → Option R) : vexec (ref11_Check_C n) n ref11_Check_c3 ⟨91, [(1, .ptr 1 0), (20, .d (D.bool w3))], [(1, .box [.d (D.int .i64 a0_0), .d (D.sl 3 a0_1), .d (D.sl 6 a0_2)])]⟩ k = ref11_Check_p3 n w3 a0_0 a0_1 a0_2 (k .normal ⟨91, [(1, .ptr 1 0), (3, .d (D.int .i64 (0 : Int)))], [(1, .box [.d (D.int .i64 a0_0), .d (D.sl 3 a0_1), .d (D.sl 6 a0_2)])]⟩) := by kernel_rfl
theorem ref11_Check_p4_eq {R : Type} (n : Nat) (h4 : Int) (a0_0 : Int) (a0_1 : List (List D)) (a0_2 : List (List D)) (k : Exit → St → Option R) : vexec (ref11_Check_C n) n ref11_Check_c4 ⟨91, [(1, .ptr 1 0), (3, .d (D.int .i64 h4))], [(1, .box [.d (D.int .i64 a0_0), .d (D.sl 3 a0_1), .d (D.sl 6 a0_2)])]⟩ k = ref11_Check_p4 n h4 a0_0 a0_1 a0_2 (k .ret ⟨91, [(2, .d (D.bool false))], []⟩) (fun z52 => k .normal ⟨91, [(1, .ptr 1 0), (3, .d (D.int .i64 z52))], [(1, .box [.d (D.int .i64 a0_0), .d (D.sl 3 a0_1), .d (D.sl 6 a0_2)])]⟩) (fun z53 => k (.exit 0) ⟨91, [(1, .ptr 1 0), (3, .d (D.int .i64 h4)), (25, .d (D.bool z53))], [(1, .box [.d (D.int .i64 a0_0), .d (D.sl 3 a0_1), .d (D.sl 6 a0_2)])]⟩) := by kernel_rfl
theorem ref11_Check_r5_eq {R : Type} (n : Nat) (a0_0 : Int) (a0_1 : List (List D)) (a0_2 : List (List D)) (k : Exit → St → Option R) : ∀ (m : Nat) (h4 : Int), loopN (vexec (ref11_Check_C n) n ref11_Check_c4) m ⟨91, [(1, .ptr 1 0), (3, .d (D.int .i64 h4))], [(1, .box [.d (D.int .i64 a0_0), .d (D.sl 3 a0_1), .d (D.sl 6 a0_2)])]⟩ k = ref11_Check_r5 n a0_0 a0_1 a0_2 (k .ret ⟨91, [(2, .d (D.bool false))], []⟩) (fun h4 w55 => k (.exit 0) ⟨91, [(1, .ptr 1 0), (3, .d (D.int .i64 h4)), (25, .d (D.bool w55))], [(1, .box [.d (D.int .i64 a0_0), .d (D.sl 3 a0_1), .d (D.sl 6 a0_2)])]⟩) m h4
  | 0, _ => rfl
  | m + 1, h4 => (ref11_Check_p4_eq n h4 a0_0 a0_1 a0_2 (loopK (vexec (ref11_Check_C n) n ref11_Check_c4) m k)).trans (ref11_Check_p4_congr n h4 a0_0 a0_1 a0_2 (rfl) (fun w54 => ref11_Check_r5_eq n a0_0 a0_1 a0_2 k m w54) (fun w55 => rfl))
theorem ref11_Check_p5_eq {R : Type} (n : Nat) (a0_0 : Int) (a0_1 : List (List D)) (a0_2 : List (List D)) (k : Exit → St → Option R) : vexec (ref11_Check_C n) n ref11_Check_c5 ⟨91, [(1, .ptr 1 0), (3, .d (D.int .i64 (0 : Int)))], [(1, .box [.d (D.int .i64 a0_0), .d (D.sl 3 a0_1), .d (D.sl 6 a0_2)])]⟩ k = ref11_Check_p5 n a0_0 a0_1 a0_2 (k .ret ⟨91, [(2, .d (D.bool false))], []⟩) (fun h4 w55 => k (.exit 0) ⟨91, [(1, .ptr 1 0), (3, .d (D.int .i64 h4)), (25, .d (D.bool w55))], [(1, .box [.d (D.int .i64 a0_0), .d (D.sl 3 a0_1), .d (D.sl 6 a0_2)])]⟩) := by
  rw [ref11_Check_c5_eq]
  exact ref11_Check_r5_eq n a0_0 a0_1 a0_2 k n (0 : Int)
theorem ref11_Check_p6_eq {R : Type} (n : Nat) (a0_0 : Int) (a0_1 : List (List D)) (a0_2 : List (List D)) (k : Exit → St → Option R) : vexec (ref11_Check_C n) n ref11_Check_c6 ⟨91, [(1, .ptr 1 0), (3, .d (D.int .i64 (0 : Int)))], [(1, .box [.d (D.int .i64 a0_0), .d (D.sl 3 a0_1), .d (D.sl 6 a0_2)])]⟩ k = ref11_Check_p6 n a0_0 a0_1 a0_2 (k .ret ⟨91, [(2, .d (D.bool false))], []⟩) (fun w56 w57 => k .normal ⟨91, [(1, .ptr 1 0), (3, .d (D.int .i64 w56)), (25, .d (D.bool w57))], [(1, .box [.d (D.int .i64 a0_0), .d (D.sl 3 a0_1), .d (D.sl 6 a0_2)])]⟩) := by
  rw [ref11_Check_c6_eq]
  unfold ref11_Check_p6
  exact (ref11_Check_p5_eq n a0_0 a0_1 a0_2 (blockK 0 k)).trans (ref11_Check_p5_congr n a0_0 a0_1 a0_2 (rfl) (fun w56 w57 => rfl))
theorem ref11_Check_p7_eq {R : Type} (n : Nat) (w3 : Bool) (a0_0 : Int) (a0_1 : List (List D)) (a0_2 : List (List D)) (k : Exit → St → Option R) : vexec (ref11_Check_C n) n ref11_Check_c7 ⟨91, [(1, .ptr 1 0), (20, .d (D.bool w3))], [(1, .box [.d (D.int .i64 a0_0), .d (D.sl 3 a0_1), .d (D.sl 6 a0_2)])]⟩ k = ref11_Check_p7 n w3 a0_0 a0_1 a0_2 (k .ret ⟨91, [(2, .d (D.bool false))], []⟩) (fun w58 w59 => k .normal ⟨91, [(1, .ptr 1 0), (3, .d (D.int .i64 w58)), (25, .d (D.bool w59))], [(1, .box [.d (D.int .i64 a0_0), .d (D.sl 3 a0_1), .d (D.sl 6 a0_2)])]⟩) := by
  rw [ref11_Check_c7_eq]
  unfold ref11_Check_p7
  exact (ref11_Check_p3_eq n w3 a0_0 a0_1 a0_2 (seqK (ref11_Check_C n) n ref11_Check_c6 k)).trans (ref11_Check_p3_congr n w3 a0_0 a0_1 a0_2 (ref11_Check_p6_eq n a0_0 a0_1 a0_2 k))
theorem ref11_Check_p8_eq {R : Type} (n : Nat) (w60 : Int) (w61 : Bool) (a0_0 : Int) (a0_1 : List (List D)) (a0_2 : List (List D)) (k : Exit → St → Option R) : vexec (ref11_Check_C n) n ref11_Check_c8 ⟨91, [(1, .ptr 1 0), (3, .d (D.int .i64 w60)), (25, .d (D.bool w61))], [(1, .box [.d (D.int .i64 a0_0), .d (D.sl 3 a0_1), .d (D.sl 6 a0_2)])]⟩ k = ref11_Check_p8 n w60 w61 a0_0 a0_1 a0_2 (k .ret ⟨91, [(2, .d (D.bool true))], []⟩) := by kernel_rfl
theorem ref11_Check_p9_eq {R : Type} (n : Nat) (w3 : Bool) (a0_0 : Int) (a0_1 : List (List D)) (a0_2 : List (List D)) (k : Exit → St → Option R) : vexec (ref11_Check_C n) n ref11_Check_c9 ⟨91, [(1, .ptr 1 0), (20, .d (D.bool w3))], [(1, .box [.d (D.int .i64 a0_0), .d (D.sl 3 a0_1), .d (D.sl 6 a0_2)])]⟩ k = ref11_Check_p9 n w3 a0_0 a0_1 a0_2 (fun z62 => k .ret ⟨91, [(2, .d (D.bool z62))], []⟩) := by
  rw [ref11_Check_c9_eq]
  unfold ref11_Check_p9
  exact (ref11_Check_p7_eq n w3 a0_0 a0_1 a0_2 (seqK (ref11_Check_C n) n ref11_Check_c8 k)).trans (ref11_Check_p7_congr n w3 a0_0 a0_1 a0_2 (rfl) (fun w60 w61 => ref11_Check_p8_eq n w60 w61 a0_0 a0_1 a0_2 k))
theorem ref11_Check_p10_eq {R : Type} (n : Nat) (a0_0 : Int) (a0_1 : List (List D)) (a0_2 : List (List D)) (k : Exit → St → Option R) : vexec (ref11_Check_C n) n ref11_Check_c10 ⟨91, [(1, .ptr 1 0)], [(1, .box [.d (D.int .i64 a0_0), .d (D.sl 3 a0_1), .d (D.sl 6 a0_2)])]⟩ k = ref11_Check_p10 n a0_0 a0_1 a0_2 (fun z64 => k .ret ⟨91, [(2, .d (D.bool z64))], []⟩) := by
  rw [ref11_Check_c10_eq]
  unfold ref11_Check_p10
  exact (ref11_Check_p2_eq n a0_0 a0_1 a0_2 (seqK (ref11_Check_C n) n ref11_Check_c9 k)).trans (ref11_Check_p2_congr n a0_0 a0_1 a0_2 (rfl) (fun w3 => ref11_Check_p9_eq n w3 a0_0 a0_1 a0_2 k))
theorem ref11_Check_p11_eq {R : Type} (n : Nat) (a0_0 : Int) (a0_1 : List (List D)) (a0_2 : List (List D)) (k : Exit → St → Option R) : vexec (ref11_Check_C n) n ref11_Check_c0 ⟨91, [(0, .ag [.d (D.int .i64 a0_0), .d (D.sl 3 a0_1), .d (D.sl 6 a0_2)])], []⟩ k = ref11_Check_p11 n a0_0 a0_1 a0_2 (fun w65 => k .ret ⟨91, [(2, .d (D.bool w65))], []⟩) := by
  rw [ref11_Check_c0_eq]
  unfold ref11_Check_p11
  exact (ref11_Check_p1_eq n a0_0 a0_1 a0_2 (seqK (ref11_Check_C n) n ref11_Check_c10 k)).trans (ref11_Check_p1_congr n a0_0 a0_1 a0_2 (ref11_Check_p10_eq n a0_0 a0_1 a0_2 k))
theorem ref11_Check_vfn {R : Type} (n : Nat) (a0_0 : Int) (a0_1 : List (List D)) (a0_2 : List (List D)) (K : AV → Option R) : vfn (ref11_Check_C n) n Try.f13 [.ag [.d (D.int .i64 a0_0), .d (D.sl 3 a0_1), .d (D.sl 6 a0_2)]] [] (retF [[0]] K) = ref11_Check n a0_0 a0_1 a0_2 (fun r0 => K (.d (D.bool r0))) :=
  (show vfn (ref11_Check_C n) n Try.f13 [.ag [.d (D.int .i64 a0_0), .d (D.sl 3 a0_1), .d (D.sl 6 a0_2)]] [] (retF [[0]] K) = vexec (ref11_Check_C n) n ref11_Check_c0 ⟨91, [(0, .ag [.d (D.int .i64 a0_0), .d (D.sl 3 a0_1), .d (D.sl 6 a0_2)])], []⟩ (retX ref11_Check_tt [.tmp 2] (retF [[0]] K)) from vfn_at (by kernel_rfl) (by kernel_rfl) rfl (by kernel_rfl) rfl (by kernel_rfl) rfl).trans ((ref11_Check_p11_eq n a0_0 a0_1 a0_2 (retX ref11_Check_tt [.tmp 2] (retF [[0]] K))).trans (by kernel_rfl))
def ref11_Check_K : AV → Option (Bool) := fun av => match av with
  | .d (D.bool r0) => some r0
  | _ => none
def ref11_Check_e (n : Nat) : Entry := fun _ _ g avs _ k => match avs with
  | [c0] => 
    prG c0 fun l0 => (match l0 with
    | [c0_0, c0_1, c0_2] => prI g .i64 c0_0 fun a0_0 => prS g 3 c0_1 fun a0_1 => prS g 6 c0_2 fun a0_2 => 
    gb g (ref11_Check n a0_0 a0_1 a0_2 some) false fun r => k ⟨.d (D.bool r), [], []⟩
    | _ => none)
  | _ => none
theorem ref11_Check_ok (n : Nat) : EntryOK Try.prog 13 (ref11_Check_e n) := by
  intro R site g avs hl k r h
  unfold ref11_Check_e at h
  split at h
  rotate_left
  · cases h
  replace h := prG_some h
  obtain ⟨l0, h, e0⟩ := h
  subst e0
  split at h
  rotate_left
  · cases h
  replace h := prI_some h
  obtain ⟨a0_0, h, le0⟩ := h
  replace h := prS_some h
  obtain ⟨a0_1, h, le1⟩ := h
  replace h := prS_some h
  obtain ⟨a0_2, h, le2⟩ := h
  replace h := gb_some h
  obtain ⟨res, h, hr⟩ := h
  refine ⟨_, h, fun hg => CallOK.conv (avs' := [.ag [.d (D.int .i64 a0_0), .d (D.sl 3 a0_1), .d (D.sl 6 a0_2)]]) (.cons (.ag (.cons (le0 hg) (.cons (le1 hg) (.cons (le2 hg) (.nil))))) (.nil)) (callOK_fix (K := ref11_Check_K) (res := res) (ref11_Check_VC n) (fn := Try.f13) (n := n) (by kernel_rfl) (by kernel_rfl) (by kernel_rfl) (ss := [[0]]) rfl ?_ ?_)⟩
  · exact (ref11_Check_vfn n a0_0 a0_1 a0_2 ref11_Check_K).trans (hr hg)
  · intro x hx
    unfold ref11_Check_K at hx
    split at hx
    · injection hx with hx; subst hx; rfl
    · cases hx
end Go.Vx
/-
  ref11_Good: the interpreter computes the pure function
-/
set_option linter.unusedVariables false
set_option linter.unusedSimpArgs false
set_option maxRecDepth 100000
namespace Go.Vx
open Go.Proofs
noncomputable def ref11_Good_c0 : Code := bodyOf Try.f32
noncomputable def ref11_Good_c1 : Code := cL (bodyOf Try.f32)
noncomputable def ref11_Good_c2 : Code := cL (cR (bodyOf Try.f32))
noncomputable def ref11_Good_c3 : Code := cL (cL (cR (cR (bodyOf Try.f32))))
noncomputable def ref11_Good_c4 : Code := cB (cB (cR (cL (cR (cR (bodyOf Try.f32))))))
noncomputable def ref11_Good_c5 : Code := cB (cR (cL (cR (cR (bodyOf Try.f32)))))
noncomputable def ref11_Good_c6 : Code := cR (cL (cR (cR (bodyOf Try.f32))))
noncomputable def ref11_Good_c7 : Code := cL (cR (cR (bodyOf Try.f32)))
noncomputable def ref11_Good_c8 : Code := cR (cR (cR (bodyOf Try.f32)))
noncomputable def ref11_Good_c9 : Code := cR (cR (bodyOf Try.f32))
noncomputable def ref11_Good_c10 : Code := cR (bodyOf Try.f32)
theorem ref11_Good_c5_eq : ref11_Good_c5 = .loop ref11_Good_c4 := by kernel_rfl
theorem ref11_Good_c6_eq : ref11_Good_c6 = .block 0 ref11_Good_c5 := by kernel_rfl
theorem ref11_Good_c7_eq : ref11_Good_c7 = .seq ref11_Good_c3 ref11_Good_c6 := by kernel_rfl
theorem ref11_Good_c9_eq : ref11_Good_c9 = .seq ref11_Good_c7 ref11_Good_c8 := by kernel_rfl
theorem ref11_Good_c10_eq : ref11_Good_c10 = .seq ref11_Good_c2 ref11_Good_c9 := by kernel_rfl
theorem ref11_Good_c0_eq : ref11_Good_c0 = .seq ref11_Good_c1 ref11_Good_c10 := by kernel_rfl
def ref11_Good_tt : TT := [(3, ⟨.int .i64, 1, 8, [.int .i64 0], [.int .i64 0], [], none⟩), (22, ⟨.sl 3 1, 1, 24, [.slice none 0 0], [.sl 1 []], [], none⟩), (23, ⟨.sl 46 3, 1, 24, [.slice none 0 0], [.sl 3 []], [], none⟩), (26, ⟨.struct, 3, 56, [.int .i64 0, .slice none 0 0, .slice none 0 0], [.int .i64 0, .sl 3 [], .sl 6 []], [(0, 3), (1, 23), (2, 24)], none⟩)]
theorem ref11_Good_tt_eq : mkTT Try.prog [3, 22, 23, 26] = ref11_Good_tt := by kernel_rfl
def ref11_Good_cfg : List (Nat × Cfg) := [(0, ⟨[1, 2], [(2, 2)], [], [], []⟩), (1, ⟨[1, 2, 16], [(2, 2)], [], [], []⟩), (2, ⟨[4], [], [], [], []⟩), (3, ⟨[1, 2, 5], [(2, 2)], [], [], []⟩), (4, ⟨[1, 2, 5, 20], [(2, 2)], [], [], []⟩), (5, ⟨[1, 2, 5], [(2, 2)], [], [], []⟩), (6, ⟨[1, 2, 5, 31], [(2, 2)], [], [], []⟩), (7, ⟨[4], [], [], [], []⟩), (8, ⟨[4], [], [], [], []⟩)]
def ref11_Good_C (n : Nat) : VC := ⟨specOf [(13, ref11_Check_e n), (26, ref11_in_e n)], ref11_Good_tt, ref11_Good_cfg⟩
theorem ref11_Good_ents (n : Nat) : EntsOK Try.prog [(13, ref11_Check_e n), (26, ref11_in_e n)] := ⟨ref11_Check_ok n, ⟨ref11_in_ok n, trivial⟩⟩
theorem ref11_Good_VC (n : Nat) : VCOk Try.prog (ref11_Good_C n) := ⟨specOf_ok (ref11_Good_ents n), (ref11_Good_tt_eq ▸ mkTT_ok _ : TOk Try.prog ref11_Good_tt), by kernel_rfl⟩
theorem ref11_Good_p1_congr {R : Type} (n : Nat) (a0_0 : Int) (a0_1 : List (List D)) (a0_2 : List (List D)) (a1 : List (List D)) {k0 kk0 : Option R} (hq0 : k0 = kk0) : ref11_Good_p1 n a0_0 a0_1 a0_2 a1 k0 = ref11_Good_p1 n a0_0 a0_1 a0_2 a1 kk0 := by
  obtain rfl : k0 = kk0 := hq0
  rfl
theorem ref11_Good_p2_congr {R : Type} (n : Nat) (a1 : List (List D)) (a0_0 : Int) (a0_1 : List (List D)) (a0_2 : List (List D)) {k0 kk0 : Option R} {k1 kk1 : Bool → Option R} (hq0 : k0 = kk0) (hq1 : ∀ x0, k1 x0 = kk1 x0) : ref11_Good_p2 n a1 a0_0 a0_1 a0_2 k0 k1 = ref11_Good_p2 n a1 a0_0 a0_1 a0_2 kk0 kk1 := by
  obtain rfl : k0 = kk0 := hq0
  obtain rfl : k1 = kk1 := funext fun x0 => hq1 x0
  rfl
theorem ref11_Good_p3_congr {R : Type} (n : Nat) (a1 : List (List D)) (w3 : Bool) (a0_0 : Int) (a0_1 : List (List D)) (a0_2 : List (List D)) {k0 kk0 : Option R} (hq0 : k0 = kk0) : ref11_Good_p3 n a1 w3 a0_0 a0_1 a0_2 k0 = ref11_Good_p3 n a1 w3 a0_0 a0_1 a0_2 kk0 := by
  obtain rfl : k0 = kk0 := hq0
  rfl
theorem ref11_Good_p4_congr {R : Type} (n : Nat) (a1 : List (List D)) (h5 : Int) (a0_0 : Int) (a0_1 : List (List D)) (a0_2 : List (List D)) {k0 kk0 : Option R} {k1 kk1 : Int → Option R} {k2 kk2 : Bool → Option R} (hq0 : k0 = kk0) (hq1 : ∀ x0, k1 x0 = kk1 x0) (hq2 : ∀ x0, k2 x0 = kk2 x0) : ref11_Good_p4 n a1 h5 a0_0 a0_1 a0_2 k0 k1 k2 = ref11_Good_p4 n a1 h5 a0_0 a0_1 a0_2 kk0 kk1 kk2 := by
  obtain rfl : k0 = kk0 := hq0
  obtain rfl : k1 = kk1 := funext fun x0 => hq1 x0
  obtain rfl : k2 = kk2 := funext fun x0 => hq2 x0
  rfl
theorem ref11_Good_p5_congr {R : Type} (n : Nat) (a1 : List (List D)) (a0_0 : Int) (a0_1 : List (List D)) (a0_2 : List (List D)) {k0 kk0 : Option R} {k1 kk1 : Int → Bool → Option R} (hq0 : k0 = kk0) (hq1 : ∀ x0 x1, k1 x0 x1 = kk1 x0 x1) : ref11_Good_p5 n a1 a0_0 a0_1 a0_2 k0 k1 = ref11_Good_p5 n a1 a0_0 a0_1 a0_2 kk0 kk1 := by
  obtain rfl : k0 = kk0 := hq0
  obtain rfl : k1 = kk1 := funext fun x0 => funext fun x1 => hq1 x0 x1
  rfl
theorem ref11_Good_p6_congr {R : Type} (n : Nat) (a1 : List (List D)) (a0_0 : Int) (a0_1 : List (List D)) (a0_2 : List (List D)) {k0 kk0 : Option R} {k1 kk1 : Int → Bool → Option R} (hq0 : k0 = kk0) (hq1 : ∀ x0 x1, k1 x0 x1 = kk1 x0 x1) : ref11_Good_p6 n a1 a0_0 a0_1 a0_2 k0 k1 = ref11_Good_p6 n a1 a0_0 a0_1 a0_2 kk0 kk1 := by
  obtain rfl : k0 = kk0 := hq0
  obtain rfl : k1 = kk1 := funext fun x0 => funext fun x1 => hq1 x0 x1
  rfl
theorem ref11_Good_p7_congr {R : Type} (n : Nat) (a1 : List (List D)) (w3 : Bool) (a0_0 : Int) (a0_1 : List (List D)) (a0_2 : List (List D)) {k0 kk0 : Option R} {k1 kk1 : Int → Bool → Option R} (hq0 : k0 = kk0) (hq1 : ∀ x0 x1, k1 x0 x1 = kk1 x0 x1) : ref11_Good_p7 n a1 w3 a0_0 a0_1 a0_2 k0 k1 = ref11_Good_p7 n a1 w3 a0_0 a0_1 a0_2 kk0 kk1 := by
  obtain rfl : k0 = kk0 := hq0
  obtain rfl : k1 = kk1 := funext fun x0 => funext fun x1 => hq1 x0 x1
  rfl
theorem ref11_Good_p8_congr {R : Type} (n : Nat) (a1 : List (List D)) (w27 : Int) (w28 : Bool) (a0_0 : Int) (a0_1 : List (List D)) (a0_2 : List (List D)) {k0 kk0 : Option R} (hq0 : k0 = kk0) : ref11_Good_p8 n a1 w27 w28 a0_0 a0_1 a0_2 k0 = ref11_Good_p8 n a1 w27 w28 a0_0 a0_1 a0_2 kk0 := by
  obtain rfl : k0 = kk0 := hq0
  rfl
theorem ref11_Good_p9_congr {R : Type} (n : Nat) (a1 : List (List D)) (w3 : Bool) (a0_0 : Int) (a0_1 : List (List D)) (a0_2 : List (List D)) {k0 kk0 : Bool → Option R} (hq0 : ∀ x0, k0 x0 = kk0 x0) : ref11_Good_p9 n a1 w3 a0_0 a0_1 a0_2 k0 = ref11_Good_p9 n a1 w3 a0_0 a0_1 a0_2 kk0 := by
  obtain rfl : k0 = kk0 := funext fun x0 => hq0 x0
  rfl
theorem ref11_Good_p10_congr {R : Type} (n : Nat) (a1 : List (List D)) (a0_0 : Int) (a0_1 : List (List D)) (a0_2 : List (List D)) {k0 kk0 : Bool → Option R} (hq0 : ∀ x0, k0 x0 = kk0 x0) : ref11_Good_p10 n a1 a0_0 a0_1 a0_2 k0 = ref11_Good_p10 n a1 a0_0 a0_1 a0_2 kk0 := by
  obtain rfl : k0 = kk0 := funext fun x0 => hq0 x0
  rfl
theorem ref11_Good_p11_congr {R : Type} (n : Nat) (a0_0 : Int) (a0_1 : List (List D)) (a0_2 : List (List D)) (a1 : List (List D)) {k0 kk0 : Bool → Option R} (hq0 : ∀ x0, k0 x0 = kk0 x0) : ref11_Good_p11 n a0_0 a0_1 a0_2 a1 k0 = ref11_Good_p11 n a0_0 a0_1 a0_2 a1 kk0 := by
  obtain rfl : k0 = kk0 := funext fun x0 => hq0 x0
  rfl
theorem ref11_Good_p1_eq {R : Type} (n : Nat) (a0_0 : Int) (a0_1 : List (List D)) (a0_2 : List (List D)) (a1 : List (List D)) (k : Exit → St → Option R) : vexec (ref11_Good_C n) n ref11_Good_c1 ⟨32, [(0, .ag [.d (D.int .i64 a0_0), .d (D.sl 3 a0_1), .d (D.sl 6 a0_2)]), (1, .d (D.sl 1 a1))], []⟩ k = ref11_Good_p1 n a0_0 a0_1 a0_2 a1 (k .normal ⟨32, [(1, .d (D.sl 1 a1)), (2, .ptr 2 0)], [(2, .box [.d (D.int .i64 a0_0), .d (D.sl 3 a0_1), .d (D.sl 6 a0_2)])]⟩) := by kernel_rfl
theorem ref11_Good_p2_eq {R : Type} (n : Nat) (a1 : List (List D)) (a0_0 : Int) (a0_1 : List (List D)) (a0_2 : List (List D)) (k : Exit → St → Option R) : vexec (ref11_Good_C n) n ref11_Good_c2 ⟨32, [(1, .d (D.sl 1 a1)), (2, .ptr 2 0)], [(2, .box [.d (D.int .i64 a0_0), .d (D.sl 3 a0_1), .d (D.sl 6 a0_2)])]⟩ k = ref11_Good_p2 n a1 a0_0 a0_1 a0_2 (k .ret ⟨32, [(4, .d (D.bool false))], []⟩) (fun z2 => k .normal ⟨32, [(1, .d (D.sl 1 a1)), (2, .ptr 2 0), (16, .d (D.bool z2))], [(2, .box [.d (D.int .i64 a0_0), .d (D.sl 3 a0_1), .d (D.sl 6 a0_2)])]⟩) := by kernel_rfl
theorem ref11_Good_p3_eq {R : Type} (n : Nat) (a1 : List (List D)) (w3 : Bool) (a0_0 : Int) (a0_1 : List (List D)) (a0_2 : List (List D)) (k : Exit → St → Option R) : vexec (ref11_Good_C n) n ref11_Good_c3 ⟨32, [(1, .d (D.sl 1 a1)), (2, .ptr 2 0), (16, .d (D.bool w3))], [(2, .box [.d (D.int .i64 a0_0), .d (D.sl 3 a0_1), .d (D.sl 6 a0_2)])]⟩ k = ref11_Good_p3 n a1 w3 a0_0 a0_1 a0_2 (k .normal ⟨32, [(1, .d (D.sl 1 a1)), (2, .ptr 2 0), (5, .d (D.int .i64 (0 : Int)))], [(2, .box [.d (D.int .i64 a0_0), .d (D.sl 3 a0_1), .d (D.sl 6 a0_2)])]⟩) := by kernel_rfl
theorem ref11_Good_p4_eq {R : Type} (n : Nat) (a1 : List (List D)) (h5 : Int) (a0_0 : Int) (a0_1 : List (List D)) (a0_2 : List (List D)) (k : Exit → St → Option R) : vexec (ref11_Good_C n) n ref11_Good_c4 ⟨32, [(1, .d (D.sl 1 a1)), (2, .ptr 2 0), (5, .d (D.int .i64 h5))], [(2, .box [.d (D.int .i64 a0_0), .d (D.sl 3 a0_1), .d (D.sl 6 a0_2)])]⟩ k = ref11_Good_p4 n a1 h5 a0_0 a0_1 a0_2 (k .ret ⟨32, [(4, .d (D.bool false))], []⟩) (fun z19 => k .normal ⟨32, [(1, .d (D.sl 1 a1)), (2, .ptr 2 0), (5, .d (D.int .i64 z19))], [(2, .box [.d (D.int .i64 a0_0), .d (D.sl 3 a0_1), .d (D.sl 6 a0_2)])]⟩) (fun z20 => k (.exit 0) ⟨32, [(1, .d (D.sl 1 a1)), (2, .ptr 2 0), (5, .d (D.int .i64 h5)), (20, .d (D.bool z20))], [(2, .box [.d (D.int .i64 a0_0), .d (D.sl 3 a0_1), .d (D.sl 6 a0_2)])]⟩) := by kernel_rfl
theorem ref11_Good_r5_eq {R : Type} (n : Nat) (a1 : List (List D)) (a0_0 : Int) (a0_1 : List (List D)) (a0_2 : List (List D)) (k : Exit → St → Option R) : ∀ (m : Nat) (h5 : Int), loopN (vexec (ref11_Good_C n) n ref11_Good_c4) m ⟨32, [(1, .d (D.sl 1 a1)), (2, .ptr 2 0), (5, .d (D.int .i64 h5))], [(2, .box [.d (D.int .i64 a0_0), .d (D.sl 3 a0_1), .d (D.sl 6 a0_2)])]⟩ k = ref11_Good_r5 n a1 a0_0 a0_1 a0_2 (k .ret ⟨32, [(4, .d (D.bool false))], []⟩) (fun h5 w22 => k (.exit 0) ⟨32, [(1, .d (D.sl 1 a1)), (2, .ptr 2 0), (5, .d (D.int .i64 h5)), (20, .d (D.bool w22))], [(2, .box [.d (D.int .i64 a0_0), .d (D.sl 3 a0_1), .d (D.sl 6 a0_2)])]⟩) m h5
  | 0, _ => rfl
  | m + 1, h5 => (ref11_Good_p4_eq n a1 h5 a0_0 a0_1 a0_2 (loopK (vexec (ref11_Good_C n) n ref11_Good_c4) m k)).trans (ref11_Good_p4_congr n a1 h5 a0_0 a0_1 a0_2 (rfl) (fun w21 => ref11_Good_r5_eq n a1 a0_0 a0_1 a0_2 k m w21) (fun w22 => rfl))
theorem ref11_Good_p5_eq {R : Type} (n : Nat) (a1 : List (List D)) (a0_0 : Int) (a0_1 : List (List D)) (a0_2 : List (List D)) (k : Exit → St → Option R) : vexec (ref11_Good_C n) n ref11_Good_c5 ⟨32, [(1, .d (D.sl 1 a1)), (2, .ptr 2 0), (5, .d (D.int .i64 (0 : Int)))], [(2, .box [.d (D.int .i64 a0_0), .d (D.sl 3 a0_1), .d (D.sl 6 a0_2)])]⟩ k = ref11_Good_p5 n a1 a0_0 a0_1 a0_2 (k .ret ⟨32, [(4, .d (D.bool false))], []⟩) (fun h5 w22 => k (.exit 0) ⟨32, [(1, .d (D.sl 1 a1)), (2, .ptr 2 0), (5, .d (D.int .i64 h5)), (20, .d (D.bool w22))], [(2, .box [.d (D.int .i64 a0_0), .d (D.sl 3 a0_1), .d (D.sl 6 a0_2)])]⟩) := by
  rw [ref11_Good_c5_eq]
  exact ref11_Good_r5_eq n a1 a0_0 a0_1 a0_2 k n (0 : Int)
theorem ref11_Good_p6_eq {R : Type} (n : Nat) (a1 : List (List D)) (a0_0 : Int) (a0_1 : List (List D)) (a0_2 : List (List D)) (k : Exit → St → Option R) : vexec (ref11_Good_C n) n ref11_Good_c6 ⟨32, [(1, .d (D.sl 1 a1)), (2, .ptr 2 0), (5, .d (D.int .i64 (0 : Int)))], [(2, .box [.d (D.int .i64 a0_0), .d (D.sl 3 a0_1), .d (D.sl 6 a0_2)])]⟩ k = ref11_Good_p6 n a1 a0_0 a0_1 a0_2 (k .ret ⟨32, [(4, .d (D.bool false))], []⟩) (fun w23 w24 => k .normal ⟨32, [(1, .d (D.sl 1 a1)), (2, .ptr 2 0), (5, .d (D.int .i64 w23)), (20, .d (D.bool w24))], [(2, .box [.d (D.int .i64 a0_0), .d (D.sl 3 a0_1), .d (D.sl 6 a0_2)])]⟩) := by
  rw [ref11_Good_c6_eq]
  unfold ref11_Good_p6
  exact (ref11_Good_p5_eq n a1 a0_0 a0_1 a0_2 (blockK 0 k)).trans (ref11_Good_p5_congr n a1 a0_0 a0_1 a0_2 (rfl) (fun w23 w24 => rfl))
theorem ref11_Good_p7_eq {R : Type} (n : Nat) (a1 : List (List D)) (w3 : Bool) (a0_0 : Int) (a0_1 : List (List D)) (a0_2 : List (List D)) (k : Exit → St → Option R) : vexec (ref11_Good_C n) n ref11_Good_c7 ⟨32, [(1, .d (D.sl 1 a1)), (2, .ptr 2 0), (16, .d (D.bool w3))], [(2, .box [.d (D.int .i64 a0_0), .d (D.sl 3 a0_1), .d (D.sl 6 a0_2)])]⟩ k = ref11_Good_p7 n a1 w3 a0_0 a0_1 a0_2 (k .ret ⟨32, [(4, .d (D.bool false))], []⟩) (fun w25 w26 => k .normal ⟨32, [(1, .d (D.sl 1 a1)), (2, .ptr 2 0), (5, .d (D.int .i64 w25)), (20, .d (D.bool w26))], [(2, .box [.d (D.int .i64 a0_0), .d (D.sl 3 a0_1), .d (D.sl 6 a0_2)])]⟩) := by
  rw [ref11_Good_c7_eq]
  unfold ref11_Good_p7
  exact (ref11_Good_p3_eq n a1 w3 a0_0 a0_1 a0_2 (seqK (ref11_Good_C n) n ref11_Good_c6 k)).trans (ref11_Good_p3_congr n a1 w3 a0_0 a0_1 a0_2 (ref11_Good_p6_eq n a1 a0_0 a0_1 a0_2 k))
theorem ref11_Good_p8_eq {R : Type} (n : Nat) (a1 : List (List D)) (w27 : Int) (w28 : Bool) (a0_0 : Int) (a0_1 : List (List D)) (a0_2 : List (List D)) (k : Exit → St → Option R) : vexec (ref11_Good_C n) n ref11_Good_c8 ⟨32, [(1, .d (D.sl 1 a1)), (2, .ptr 2 0), (5, .d (D.int .i64 w27)), (20, .d (D.bool w28))], [(2, .box [.d (D.int .i64 a0_0), .d (D.sl 3 a0_1), .d (D.sl 6 a0_2)])]⟩ k = ref11_Good_p8 n a1 w27 w28 a0_0 a0_1 a0_2 (k .ret ⟨32, [(4, .d (D.bool true))], []⟩) := by kernel_rfl
theorem ref11_Good_p9_eq {R : Type} (n : Nat) (a1 : List (List D)) (w3 : Bool) (a0_0 : Int) (a0_1 : List (List D)) (a0_2 : List (List D)) (k : Exit → St → Option R) : vexec (ref11_Good_C n) n ref11_Good_c9 ⟨32, [(1, .d (D.sl 1 a1)), (2, .ptr 2 0), (16, .d (D.bool w3))], [(2, .box [.d (D.int .i64 a0_0), .d (D.sl 3 a0_1), .d (D.sl 6 a0_2)])]⟩ k = ref11_Good_p9 n a1 w3 a0_0 a0_1 a0_2 (fun z29 => k .ret ⟨32, [(4, .d (D.bool z29))], []⟩) := by
  rw [ref11_Good_c9_eq]
  unfold ref11_Good_p9
  exact (ref11_Good_p7_eq n a1 w3 a0_0 a0_1 a0_2 (seqK (ref11_Good_C n) n ref11_Good_c8 k)).trans (ref11_Good_p7_congr n a1 w3 a0_0 a0_1 a0_2 (rfl) (fun w27 w28 => ref11_Good_p8_eq n a1 w27 w28 a0_0 a0_1 a0_2 k))
theorem ref11_Good_p10_eq {R : Type} (n : Nat) (a1 : List (List D)) (a0_0 : Int) (a0_1 : List (List D)) (a0_2 : List (List D)) (k : Exit → St → Option R) : vexec (ref11_Good_C n) n ref11_Good_c10 ⟨32, [(1, .d (D.sl 1 a1)), (2, .ptr 2 0)], [(2, .box [.d (D.int .i64 a0_0), .d (D.sl 3 a0_1), .d (D.sl 6 a0_2)])]⟩ k = ref11_Good_p10 n a1 a0_0 a0_1 a0_2 (fun z31 => k .ret ⟨32, [(4, .d (D.bool z31))], []⟩) := by
  rw [ref11_Good_c10_eq]
  unfold ref11_Good_p10
  exact (ref11_Good_p2_eq n a1 a0_0 a0_1 a0_2 (seqK (ref11_Good_C n) n ref11_Good_c9 k)).trans (ref11_Good_p2_congr n a1 a0_0 a0_1 a0_2 (rfl) (fun w3 => ref11_Good_p9_eq n a1 w3 a0_0 a0_1 a0_2 k))
theorem ref11_Good_p11_eq {R : Type} (n : Nat) (a0_0 : Int) (a0_1 : List (List D)) (a0_2 : List (List D)) (a1 : List (List D)) (k : Exit → St → Option R) : vexec (ref11_Good_C n) n ref11_Good_c0 ⟨32, [(0, .ag [.d (D.int .i64 a0_0), .d (D.sl 3 a0_1), .d (D.sl 6 a0_2)]), (1, .d (D.sl 1 a1))], []⟩ k = ref11_Good_p11 n a0_0 a0_1 a0_2 a1 (fun w32 => k .ret ⟨32, [(4, .d (D.bool w32))], []⟩) := by
  rw [ref11_Good_c0_eq]
  unfold ref11_Good_p11
  exact (ref11_Good_p1_eq n a0_0 a0_1 a0_2 a1 (seqK (ref11_Good_C n) n ref11_Good_c10 k)).trans (ref11_Good_p1_congr n a0_0 a0_1 a0_2 a1 (ref11_Good_p10_eq n a1 a0_0 a0_1 a0_2 k))
theorem ref11_Good_vfn {R : Type} (n : Nat) (a0_0 : Int) (a0_1 : List (List D)) (a0_2 : List (List D)) (a1 : List (List D)) (K : AV → Option R) : vfn (ref11_Good_C n) n Try.f32 [.ag [.d (D.int .i64 a0_0), .d (D.sl 3 a0_1), .d (D.sl 6 a0_2)], .d (D.sl 1 a1)] [] (retF [[0]] K) = ref11_Good n a0_0 a0_1 a0_2 a1 (fun r0 => K (.d (D.bool r0))) :=
  (show vfn (ref11_Good_C n) n Try.f32 [.ag [.d (D.int .i64 a0_0), .d (D.sl 3 a0_1), .d (D.sl 6 a0_2)], .d (D.sl 1 a1)] [] (retF [[0]] K) = vexec (ref11_Good_C n) n ref11_Good_c0 ⟨32, [(0, .ag [.d (D.int .i64 a0_0), .d (D.sl 3 a0_1), .d (D.sl 6 a0_2)]), (1, .d (D.sl 1 a1))], []⟩ (retX ref11_Good_tt [.tmp 4] (retF [[0]] K)) from vfn_at (by kernel_rfl) (by kernel_rfl) rfl (by kernel_rfl) rfl (by kernel_rfl) rfl).trans ((ref11_Good_p11_eq n a0_0 a0_1 a0_2 a1 (retX ref11_Good_tt [.tmp 4] (retF [[0]] K))).trans (by kernel_rfl))
def ref11_Good_K : AV → Option (Bool) := fun av => match av with
  | .d (D.bool r0) => some r0
  | _ => none
def ref11_Good_e (n : Nat) : Entry := fun _ _ g avs _ k => match avs with
  | [c0, c1] => 
    prG c0 fun l0 => (match l0 with
    | [c0_0, c0_1, c0_2] => prI g .i64 c0_0 fun a0_0 => prS g 3 c0_1 fun a0_1 => prS g 6 c0_2 fun a0_2 => prS g 1 c1 fun a1 => 
    gb g (ref11_Good n a0_0 a0_1 a0_2 a1 some) false fun r => k ⟨.d (D.bool r), [], []⟩
    | _ => none)
  | _ => none
theorem ref11_Good_ok (n : Nat) : EntryOK Try.prog 32 (ref11_Good_e n) := by
  intro R site g avs hl k r h
  unfold ref11_Good_e at h
  split at h
  rotate_left
  · cases h
  replace h := prG_some h
  obtain ⟨l0, h, e0⟩ := h
  subst e0
  split at h
  rotate_left
  · cases h
  replace h := prI_some h
  obtain ⟨a0_0, h, le0⟩ := h
  replace h := prS_some h
  obtain ⟨a0_1, h, le1⟩ := h
  replace h := prS_some h
  obtain ⟨a0_2, h, le2⟩ := h
  replace h := prS_some h
  obtain ⟨a1, h, le3⟩ := h
  replace h := gb_some h
  obtain ⟨res, h, hr⟩ := h
  refine ⟨_, h, fun hg => CallOK.conv (avs' := [.ag [.d (D.int .i64 a0_0), .d (D.sl 3 a0_1), .d (D.sl 6 a0_2)], .d (D.sl 1 a1)]) (.cons (.ag (.cons (le0 hg) (.cons (le1 hg) (.cons (le2 hg) (.nil))))) (.cons (le3 hg) (.nil))) (callOK_fix (K := ref11_Good_K) (res := res) (ref11_Good_VC n) (fn := Try.f32) (n := n) (by kernel_rfl) (by kernel_rfl) (by kernel_rfl) (ss := [[0]]) rfl ?_ ?_)⟩
  · exact (ref11_Good_vfn n a0_0 a0_1 a0_2 a1 ref11_Good_K).trans (hr hg)
  · intro x hx
    unfold ref11_Good_K at hx
    split at hx
    · injection hx with hx; subst hx; rfl
    · cases hx
end Go.Vx
/-
  ref1_Mod: the interpreter computes the pure function
-/
set_option linter.unusedVariables false
set_option linter.unusedSimpArgs false
set_option maxRecDepth 100000
namespace Go.Vx
open Go.Proofs
noncomputable def ref1_Mod_c0 : Code := bodyOf Try.f16
def ref1_Mod_tt : TT := [(3, ⟨.int .i64, 1, 8, [.int .i64 0], [.int .i64 0], [], none⟩)]
theorem ref1_Mod_tt_eq : mkTT Try.prog [3] = ref1_Mod_tt := by kernel_rfl
def ref1_Mod_cfg : List (Nat × Cfg) := [(0, ⟨[0, 1], [], [], [], []⟩), (1, ⟨[0, 1, 7], [], [], [], []⟩), (2, ⟨[4], [], [], [], []⟩), (3, ⟨[1, 5], [], [], [], []⟩), (4, ⟨[1, 5, 12], [], [], [], []⟩), (5, ⟨[5], [], [], [], []⟩), (6, ⟨[4], [], [], [], []⟩)]
def ref1_Mod_C (n : Nat) : VC := ⟨specOf [], ref1_Mod_tt, ref1_Mod_cfg⟩
theorem ref1_Mod_ents (n : Nat) : EntsOK Try.prog [] := trivial
theorem ref1_Mod_VC (n : Nat) : VCOk Try.prog (ref1_Mod_C n) := ⟨specOf_ok (ref1_Mod_ents n), (ref1_Mod_tt_eq ▸ mkTT_ok _ : TOk Try.prog ref1_Mod_tt), by kernel_rfl⟩
theorem ref1_Mod_p1_congr {R : Type} (n : Nat) (a0 : Int) (a1 : Int) {k0 kk0 : Int → Option R} (hq0 : ∀ x0, k0 x0 = kk0 x0) : ref1_Mod_p1 n a0 a1 k0 = ref1_Mod_p1 n a0 a1 kk0 := by
  obtain rfl : k0 = kk0 := funext fun x0 => hq0 x0
  rfl
theorem ref1_Mod_p1_eq {R : Type} (n : Nat) (a0 : Int) (a1 : Int) (k : Exit → St → Option R) : vexec (ref1_Mod_C n) n ref1_Mod_c0 ⟨17, [(0, .d (D.int .i64 a0)), (1, .d (D.int .i64 a1))], []⟩ k = ref1_Mod_p1 n a0 a1 (fun z2 => k .ret ⟨17, [(4, .d (D.int .i64 z2))], []⟩) := by kernel_rfl
theorem ref1_Mod_vfn {R : Type} (n : Nat) (a0 : Int) (a1 : Int) (K : AV → Option R) : vfn (ref1_Mod_C n) n Try.f16 [.d (D.int .i64 a0), .d (D.int .i64 a1)] [] (retF [[0]] K) = ref1_Mod n a0 a1 (fun r0 => K (.d (D.int .i64 r0))) :=
  (show vfn (ref1_Mod_C n) n Try.f16 [.d (D.int .i64 a0), .d (D.int .i64 a1)] [] (retF [[0]] K) = vexec (ref1_Mod_C n) n ref1_Mod_c0 ⟨17, [(0, .d (D.int .i64 a0)), (1, .d (D.int .i64 a1))], []⟩ (retX ref1_Mod_tt [.tmp 4] (retF [[0]] K)) from vfn_at (by kernel_rfl) (by kernel_rfl) rfl (by kernel_rfl) rfl (by kernel_rfl) rfl).trans ((ref1_Mod_p1_eq n a0 a1 (retX ref1_Mod_tt [.tmp 4] (retF [[0]] K))).trans (by kernel_rfl))
def ref1_Mod_K : AV → Option (Int) := fun av => match av with
  | .d (D.int .i64 r0) => some r0
  | _ => none
def ref1_Mod_e (n : Nat) : Entry := fun _ _ g avs _ k => match avs with
  | [c0, c1] => prI g .i64 c0 fun a0 => prI g .i64 c1 fun a1 => 
    gb g (ref1_Mod n a0 a1 some) 0 fun r => k ⟨.d (D.int .i64 r), [], []⟩
  | _ => none
theorem ref1_Mod_ok (n : Nat) : EntryOK Try.prog 16 (ref1_Mod_e n) := by
  intro R site g avs hl k r h
  unfold ref1_Mod_e at h
  split at h
  rotate_left
  · cases h
  replace h := prI_some h
  obtain ⟨a0, h, le0⟩ := h
  replace h := prI_some h
  obtain ⟨a1, h, le1⟩ := h
  replace h := gb_some h
  obtain ⟨res, h, hr⟩ := h
  refine ⟨_, h, fun hg => CallOK.conv (avs' := [.d (D.int .i64 a0), .d (D.int .i64 a1)]) (.cons (le0 hg) (.cons (le1 hg) (.nil))) (callOK_fix (K := ref1_Mod_K) (res := res) (ref1_Mod_VC n) (fn := Try.f16) (n := n) (by kernel_rfl) (by kernel_rfl) (by kernel_rfl) (ss := [[0]]) rfl ?_ ?_)⟩
  · exact (ref1_Mod_vfn n a0 a1 ref1_Mod_K).trans (hr hg)
  · intro x hx
    unfold ref1_Mod_K at hx
    split at hx
    · injection hx with hx; subst hx; rfl
    · cases hx
end Go.Vx
/-
  ref11_Lasts: the interpreter computes the pure function
-/
set_option linter.unusedVariables false
set_option linter.unusedSimpArgs false
set_option maxRecDepth 100000
namespace Go.Vx
open Go.Proofs
noncomputable def ref11_Lasts_c0 : Code := bodyOf Try.f37
def ref11_Lasts_tt : TT := [(3, ⟨.int .i64, 1, 8, [.int .i64 0], [.int .i64 0], [], none⟩), (22, ⟨.sl 3 1, 1, 24, [.slice none 0 0], [.sl 1 []], [], none⟩), (26, ⟨.struct, 3, 56, [.int .i64 0, .slice none 0 0, .slice none 0 0], [.int .i64 0, .sl 3 [], .sl 6 []], [(0, 3), (1, 23), (2, 24)], none⟩), (31, ⟨.struct, 6, 48, [.int .i64 0, .int .i64 0, .int .i64 0, .int .i64 0, .int .i64 0, .int .i64 0], [.int .i64 0, .int .i64 0, .int .i64 0, .int .i64 0, .int .i64 0, .int .i64 0], [(0, 3), (1, 3), (2, 3), (3, 3), (4, 3), (5, 3)], some [.int .i64, .int .i64, .int .i64, .int .i64, .int .i64, .int .i64]⟩)]
theorem ref11_Lasts_tt_eq : mkTT Try.prog [3, 22, 26, 31] = ref11_Lasts_tt := by kernel_rfl
def ref11_Lasts_cfg : List (Nat × Cfg) := [(0, ⟨[1, 3, 5], [(3, 3), (5, 5)], [], [], []⟩), (1, ⟨[6], [], [], [], []⟩)]
def ref11_Lasts_C (n : Nat) : VC := ⟨specOf [(16, ref1_Mod_e n)], ref11_Lasts_tt, ref11_Lasts_cfg⟩
theorem ref11_Lasts_ents (n : Nat) : EntsOK Try.prog [(16, ref1_Mod_e n)] := ⟨ref1_Mod_ok n, trivial⟩
theorem ref11_Lasts_VC (n : Nat) : VCOk Try.prog (ref11_Lasts_C n) := ⟨specOf_ok (ref11_Lasts_ents n), (ref11_Lasts_tt_eq ▸ mkTT_ok _ : TOk Try.prog ref11_Lasts_tt), by kernel_rfl⟩
theorem ref11_Lasts_p1_congr {R : Type} (n : Nat) (a0_0 : Int) (a0_1 : List (List D)) (a0_2 : List (List D)) (a1 : List (List D)) (a2_0 : Int) (a2_1 : Int) (a2_2 : Int) (a2_3 : Int) (a2_4 : Int) (a2_5 : Int) {k0 kk0 : Int → Option R} (hq0 : ∀ x0, k0 x0 = kk0 x0) : ref11_Lasts_p1 n a0_0 a0_1 a0_2 a1 a2_0 a2_1 a2_2 a2_3 a2_4 a2_5 k0 = ref11_Lasts_p1 n a0_0 a0_1 a0_2 a1 a2_0 a2_1 a2_2 a2_3 a2_4 a2_5 kk0 := by
  obtain rfl : k0 = kk0 := funext fun x0 => hq0 x0
  rfl
theorem ref11_Lasts_p1_eq {R : Type} (n : Nat) (a0_0 : Int) (a0_1 : List (List D)) (a0_2 : List (List D)) (a1 : List (List D)) (a2_0 : Int) (a2_1 : Int) (a2_2 : Int) (a2_3 : Int) (a2_4 : Int) (a2_5 : Int) (k : Exit → St → Option R) : vexec (ref11_Lasts_C n) n ref11_Lasts_c0 ⟨27, [(0, .ag [.d (D.int .i64 a0_0), .d (D.sl 3 a0_1), .d (D.sl 6 a0_2)]), (1, .d (D.sl 1 a1)), (2, .ag [.d (D.int .i64 a2_0), .d (D.int .i64 a2_1), .d (D.int .i64 a2_2), .d (D.int .i64 a2_3), .d (D.int .i64 a2_4), .d (D.int .i64 a2_5)])], []⟩ k = ref11_Lasts_p1 n a0_0 a0_1 a0_2 a1 a2_0 a2_1 a2_2 a2_3 a2_4 a2_5 (fun z8 => k .ret ⟨27, [(6, .d (D.int .i64 z8))], []⟩) := by kernel_rfl
theorem ref11_Lasts_vfn {R : Type} (n : Nat) (a0_0 : Int) (a0_1 : List (List D)) (a0_2 : List (List D)) (a1 : List (List D)) (a2_0 : Int) (a2_1 : Int) (a2_2 : Int) (a2_3 : Int) (a2_4 : Int) (a2_5 : Int) (K : AV → Option R) : vfn (ref11_Lasts_C n) n Try.f37 [.ag [.d (D.int .i64 a0_0), .d (D.sl 3 a0_1), .d (D.sl 6 a0_2)], .d (D.sl 1 a1), .ag [.d (D.int .i64 a2_0), .d (D.int .i64 a2_1), .d (D.int .i64 a2_2), .d (D.int .i64 a2_3), .d (D.int .i64 a2_4), .d (D.int .i64 a2_5)]] [] (retF [[0]] K) = ref11_Lasts n a0_0 a0_1 a0_2 a1 a2_0 a2_1 a2_2 a2_3 a2_4 a2_5 (fun r0 => K (.d (D.int .i64 r0))) :=
  (show vfn (ref11_Lasts_C n) n Try.f37 [.ag [.d (D.int .i64 a0_0), .d (D.sl 3 a0_1), .d (D.sl 6 a0_2)], .d (D.sl 1 a1), .ag [.d (D.int .i64 a2_0), .d (D.int .i64 a2_1), .d (D.int .i64 a2_2), .d (D.int .i64 a2_3), .d (D.int .i64 a2_4), .d (D.int .i64 a2_5)]] [] (retF [[0]] K) = vexec (ref11_Lasts_C n) n ref11_Lasts_c0 ⟨27, [(0, .ag [.d (D.int .i64 a0_0), .d (D.sl 3 a0_1), .d (D.sl 6 a0_2)]), (1, .d (D.sl 1 a1)), (2, .ag [.d (D.int .i64 a2_0), .d (D.int .i64 a2_1), .d (D.int .i64 a2_2), .d (D.int .i64 a2_3), .d (D.int .i64 a2_4), .d (D.int .i64 a2_5)])], []⟩ (retX ref11_Lasts_tt [.tmp 6] (retF [[0]] K)) from vfn_at (by kernel_rfl) (by kernel_rfl) rfl (by kernel_rfl) rfl (by kernel_rfl) rfl).trans ((ref11_Lasts_p1_eq n a0_0 a0_1 a0_2 a1 a2_0 a2_1 a2_2 a2_3 a2_4 a2_5 (retX ref11_Lasts_tt [.tmp 6] (retF [[0]] K))).trans (by kernel_rfl))
def ref11_Lasts_K : AV → Option (Int) := fun av => match av with
  | .d (D.int .i64 r0) => some r0
  | _ => none
def ref11_Lasts_e (n : Nat) : Entry := fun _ _ g avs _ k => match avs with
  | [c0, c1, c2] => 
    prG c0 fun l0 => (match l0 with
    | [c0_0, c0_1, c0_2] => prI g .i64 c0_0 fun a0_0 => prS g 3 c0_1 fun a0_1 => prS g 6 c0_2 fun a0_2 => prS g 1 c1 fun a1 => 
    prG c2 fun l2 => (match l2 with
    | [c2_0, c2_1, c2_2, c2_3, c2_4, c2_5] => prI g .i64 c2_0 fun a2_0 => prI g .i64 c2_1 fun a2_1 => prI g .i64 c2_2 fun a2_2 => prI g .i64 c2_3 fun a2_3 => prI g .i64 c2_4 fun a2_4 => prI g .i64 c2_5 fun a2_5 => 
    gb g (ref11_Lasts n a0_0 a0_1 a0_2 a1 a2_0 a2_1 a2_2 a2_3 a2_4 a2_5 some) 0 fun r => k ⟨.d (D.int .i64 r), [], []⟩
    | _ => none)
    | _ => none)
  | _ => none
theorem ref11_Lasts_ok (n : Nat) : EntryOK Try.prog 37 (ref11_Lasts_e n) := by
  intro R site g avs hl k r h
  unfold ref11_Lasts_e at h
  split at h
  rotate_left
  · cases h
  replace h := prG_some h
  obtain ⟨l0, h, e0⟩ := h
  subst e0
  split at h
  rotate_left
  · cases h
  replace h := prI_some h
  obtain ⟨a0_0, h, le0⟩ := h
  replace h := prS_some h
  obtain ⟨a0_1, h, le1⟩ := h
  replace h := prS_some h
  obtain ⟨a0_2, h, le2⟩ := h
  replace h := prS_some h
  obtain ⟨a1, h, le3⟩ := h
  replace h := prG_some h
  obtain ⟨l2, h, e2⟩ := h
  subst e2
  split at h
  rotate_left
  · cases h
  replace h := prI_some h
  obtain ⟨a2_0, h, le4⟩ := h
  replace h := prI_some h
  obtain ⟨a2_1, h, le5⟩ := h
  replace h := prI_some h
  obtain ⟨a2_2, h, le6⟩ := h
  replace h := prI_some h
  obtain ⟨a2_3, h, le7⟩ := h
  replace h := prI_some h
  obtain ⟨a2_4, h, le8⟩ := h
  replace h := prI_some h
  obtain ⟨a2_5, h, le9⟩ := h
  replace h := gb_some h
  obtain ⟨res, h, hr⟩ := h
  refine ⟨_, h, fun hg => CallOK.conv (avs' := [.ag [.d (D.int .i64 a0_0), .d (D.sl 3 a0_1), .d (D.sl 6 a0_2)], .d (D.sl 1 a1), .ag [.d (D.int .i64 a2_0), .d (D.int .i64 a2_1), .d (D.int .i64 a2_2), .d (D.int .i64 a2_3), .d (D.int .i64 a2_4), .d (D.int .i64 a2_5)]]) (.cons (.ag (.cons (le0 hg) (.cons (le1 hg) (.cons (le2 hg) (.nil))))) (.cons (le3 hg) (.cons (.ag (.cons (le4 hg) (.cons (le5 hg) (.cons (le6 hg) (.cons (le7 hg) (.cons (le8 hg) (.cons (le9 hg) (.nil)))))))) (.nil)))) (callOK_fix (K := ref11_Lasts_K) (res := res) (ref11_Lasts_VC n) (fn := Try.f37) (n := n) (by kernel_rfl) (by kernel_rfl) (by kernel_rfl) (ss := [[0]]) rfl ?_ ?_)⟩
  · exact (ref11_Lasts_vfn n a0_0 a0_1 a0_2 a1 a2_0 a2_1 a2_2 a2_3 a2_4 a2_5 ref11_Lasts_K).trans (hr hg)
  · intro x hx
    unfold ref11_Lasts_K at hx
    split at hx
    · injection hx with hx; subst hx; rfl
    · cases hx
end Go.Vx
/-
  ref11_First: the interpreter computes the pure function
-/
set_option linter.unusedVariables false
set_option linter.unusedSimpArgs false
set_option maxRecDepth 100000
namespace Go.Vx
open Go.Proofs
noncomputable def ref11_First_c0 : Code := bodyOf Try.f30
noncomputable def ref11_First_c1 : Code := cL (bodyOf Try.f30)
noncomputable def ref11_First_c2 : Code := cL (cR (bodyOf Try.f30))
noncomputable def ref11_First_c3 : Code := cL (cL (cR (cR (bodyOf Try.f30))))
noncomputable def ref11_First_c4 : Code := cB (cB (cR (cL (cR (cR (bodyOf Try.f30))))))
noncomputable def ref11_First_c5 : Code := cB (cR (cL (cR (cR (bodyOf Try.f30)))))
noncomputable def ref11_First_c6 : Code := cR (cL (cR (cR (bodyOf Try.f30))))
noncomputable def ref11_First_c7 : Code := cL (cR (cR (bodyOf Try.f30)))
noncomputable def ref11_First_c8 : Code := cR (cR (cR (bodyOf Try.f30)))
noncomputable def ref11_First_c9 : Code := cR (cR (bodyOf Try.f30))
noncomputable def ref11_First_c10 : Code := cR (bodyOf Try.f30)
theorem ref11_First_c5_eq : ref11_First_c5 = .loop ref11_First_c4 := by kernel_rfl
theorem ref11_First_c6_eq : ref11_First_c6 = .block 0 ref11_First_c5 := by kernel_rfl
theorem ref11_First_c7_eq : ref11_First_c7 = .seq ref11_First_c3 ref11_First_c6 := by kernel_rfl
theorem ref11_First_c9_eq : ref11_First_c9 = .seq ref11_First_c7 ref11_First_c8 := by kernel_rfl
theorem ref11_First_c10_eq : ref11_First_c10 = .seq ref11_First_c2 ref11_First_c9 := by kernel_rfl
theorem ref11_First_c0_eq : ref11_First_c0 = .seq ref11_First_c1 ref11_First_c10 := by kernel_rfl
def ref11_First_tt : TT := [(3, ⟨.int .i64, 1, 8, [.int .i64 0], [.int .i64 0], [], none⟩), (24, ⟨.sl 31 6, 1, 24, [.slice none 0 0], [.sl 6 []], [], none⟩), (26, ⟨.struct, 3, 56, [.int .i64 0, .slice none 0 0, .slice none 0 0], [.int .i64 0, .sl 3 [], .sl 6 []], [(0, 3), (1, 23), (2, 24)], none⟩), (31, ⟨.struct, 6, 48, [.int .i64 0, .int .i64 0, .int .i64 0, .int .i64 0, .int .i64 0, .int .i64 0], [.int .i64 0, .int .i64 0, .int .i64 0, .int .i64 0, .int .i64 0, .int .i64 0], [(0, 3), (1, 3), (2, 3), (3, 3), (4, 3), (5, 3)], some [.int .i64, .int .i64, .int .i64, .int .i64, .int .i64, .int .i64]⟩)]
theorem ref11_First_tt_eq : mkTT Try.prog [3, 24, 26, 31] = ref11_First_tt := by kernel_rfl
def ref11_First_cfg : List (Nat × Cfg) := [(0, ⟨[1, 2], [(2, 2)], [], [], []⟩), (1, ⟨[1, 2, 10], [(2, 2)], [], [], []⟩), (2, ⟨[4, 5], [], [], [], []⟩), (3, ⟨[1, 2, 6], [(2, 2)], [], [], []⟩), (4, ⟨[1, 2, 6, 15], [(2, 2)], [], [], []⟩), (5, ⟨[1, 2, 6], [(2, 2)], [], [], []⟩), (6, ⟨[1, 2, 6, 32], [(2, 2)], [], [], []⟩), (7, ⟨[4, 5], [], [], [], []⟩), (8, ⟨[4, 5], [], [], [], []⟩)]
def ref11_First_C (n : Nat) : VC := ⟨specOf [(32, ref11_Good_e n), (37, ref11_Lasts_e n)], ref11_First_tt, ref11_First_cfg⟩
theorem ref11_First_ents (n : Nat) : EntsOK Try.prog [(32, ref11_Good_e n), (37, ref11_Lasts_e n)] := ⟨ref11_Good_ok n, ⟨ref11_Lasts_ok n, trivial⟩⟩
theorem ref11_First_VC (n : Nat) : VCOk Try.prog (ref11_First_C n) := ⟨specOf_ok (ref11_First_ents n), (ref11_First_tt_eq ▸ mkTT_ok _ : TOk Try.prog ref11_First_tt), by kernel_rfl⟩
theorem ref11_First_p1_congr {R : Type} (n : Nat) (a0_0 : Int) (a0_1 : List (List D)) (a0_2 : List (List D)) (a1 : List (List D)) {k0 kk0 : Option R} (hq0 : k0 = kk0) : ref11_First_p1 n a0_0 a0_1 a0_2 a1 k0 = ref11_First_p1 n a0_0 a0_1 a0_2 a1 kk0 := by
  obtain rfl : k0 = kk0 := hq0
  rfl
theorem ref11_First_p2_congr {R : Type} (n : Nat) (a1 : List (List D)) (a0_0 : Int) (a0_1 : List (List D)) (a0_2 : List (List D)) {k0 kk0 : Option R} {k1 kk1 : Bool → Option R} (hq0 : k0 = kk0) (hq1 : ∀ x0, k1 x0 = kk1 x0) : ref11_First_p2 n a1 a0_0 a0_1 a0_2 k0 k1 = ref11_First_p2 n a1 a0_0 a0_1 a0_2 kk0 kk1 := by
  obtain rfl : k0 = kk0 := hq0
  obtain rfl : k1 = kk1 := funext fun x0 => hq1 x0
  rfl
theorem ref11_First_p3_congr {R : Type} (n : Nat) (a1 : List (List D)) (w3 : Bool) (a0_0 : Int) (a0_1 : List (List D)) (a0_2 : List (List D)) {k0 kk0 : Option R} (hq0 : k0 = kk0) : ref11_First_p3 n a1 w3 a0_0 a0_1 a0_2 k0 = ref11_First_p3 n a1 w3 a0_0 a0_1 a0_2 kk0 := by
  obtain rfl : k0 = kk0 := hq0
  rfl
theorem ref11_First_p4_congr {R : Type} (n : Nat) (a1 : List (List D)) (h5 : Int) (a0_0 : Int) (a0_1 : List (List D)) (a0_2 : List (List D)) {k0 kk0 : Option R} {k1 kk1 : Int → Option R} {k2 kk2 : Bool → Option R} (hq0 : k0 = kk0) (hq1 : ∀ x0, k1 x0 = kk1 x0) (hq2 : ∀ x0, k2 x0 = kk2 x0) : ref11_First_p4 n a1 h5 a0_0 a0_1 a0_2 k0 k1 k2 = ref11_First_p4 n a1 h5 a0_0 a0_1 a0_2 kk0 kk1 kk2 := by
  obtain rfl : k0 = kk0 := hq0
  obtain rfl : k1 = kk1 := funext fun x0 => hq1 x0
  obtain rfl : k2 = kk2 := funext fun x0 => hq2 x0
  rfl
theorem ref11_First_p5_congr {R : Type} (n : Nat) (a1 : List (List D)) (a0_0 : Int) (a0_1 : List (List D)) (a0_2 : List (List D)) {k0 kk0 : Int → Option R} {k1 kk1 : Int → Bool → Option R} (hq0 : ∀ x0, k0 x0 = kk0 x0) (hq1 : ∀ x0 x1, k1 x0 x1 = kk1 x0 x1) : ref11_First_p5 n a1 a0_0 a0_1 a0_2 k0 k1 = ref11_First_p5 n a1 a0_0 a0_1 a0_2 kk0 kk1 := by
  obtain rfl : k0 = kk0 := funext fun x0 => hq0 x0
  obtain rfl : k1 = kk1 := funext fun x0 => funext fun x1 => hq1 x0 x1
  rfl
theorem ref11_First_p6_congr {R : Type} (n : Nat) (a1 : List (List D)) (a0_0 : Int) (a0_1 : List (List D)) (a0_2 : List (List D)) {k0 kk0 : Int → Option R} {k1 kk1 : Int → Bool → Option R} (hq0 : ∀ x0, k0 x0 = kk0 x0) (hq1 : ∀ x0 x1, k1 x0 x1 = kk1 x0 x1) : ref11_First_p6 n a1 a0_0 a0_1 a0_2 k0 k1 = ref11_First_p6 n a1 a0_0 a0_1 a0_2 kk0 kk1 := by
  obtain rfl : k0 = kk0 := funext fun x0 => hq0 x0
  obtain rfl : k1 = kk1 := funext fun x0 => funext fun x1 => hq1 x0 x1
  rfl
theorem ref11_First_p7_congr {R : Type} (n : Nat) (a1 : List (List D)) (w3 : Bool) (a0_0 : Int) (a0_1 : List (List D)) (a0_2 : List (List D)) {k0 kk0 : Int → Option R} {k1 kk1 : Int → Bool → Option R} (hq0 : ∀ x0, k0 x0 = kk0 x0) (hq1 : ∀ x0 x1, k1 x0 x1 = kk1 x0 x1) : ref11_First_p7 n a1 w3 a0_0 a0_1 a0_2 k0 k1 = ref11_First_p7 n a1 w3 a0_0 a0_1 a0_2 kk0 kk1 := by
  obtain rfl : k0 = kk0 := funext fun x0 => hq0 x0
  obtain rfl : k1 = kk1 := funext fun x0 => funext fun x1 => hq1 x0 x1
  rfl
theorem ref11_First_p8_congr {R : Type} (n : Nat) (a1 : List (List D)) (w56 : Int) (w57 : Bool) (a0_0 : Int) (a0_1 : List (List D)) (a0_2 : List (List D)) {k0 kk0 : Option R} (hq0 : k0 = kk0) : ref11_First_p8 n a1 w56 w57 a0_0 a0_1 a0_2 k0 = ref11_First_p8 n a1 w56 w57 a0_0 a0_1 a0_2 kk0 := by
  obtain rfl : k0 = kk0 := hq0
  rfl
theorem ref11_First_p9_congr {R : Type} (n : Nat) (a1 : List (List D)) (w3 : Bool) (a0_0 : Int) (a0_1 : List (List D)) (a0_2 : List (List D)) {k0 kk0 : Int → Bool → Option R} (hq0 : ∀ x0 x1, k0 x0 x1 = kk0 x0 x1) : ref11_First_p9 n a1 w3 a0_0 a0_1 a0_2 k0 = ref11_First_p9 n a1 w3 a0_0 a0_1 a0_2 kk0 := by
  obtain rfl : k0 = kk0 := funext fun x0 => funext fun x1 => hq0 x0 x1
  rfl
theorem ref11_First_p10_congr {R : Type} (n : Nat) (a1 : List (List D)) (a0_0 : Int) (a0_1 : List (List D)) (a0_2 : List (List D)) {k0 kk0 : Int → Bool → Option R} (hq0 : ∀ x0 x1, k0 x0 x1 = kk0 x0 x1) : ref11_First_p10 n a1 a0_0 a0_1 a0_2 k0 = ref11_First_p10 n a1 a0_0 a0_1 a0_2 kk0 := by
  obtain rfl : k0 = kk0 := funext fun x0 => funext fun x1 => hq0 x0 x1
  rfl
theorem ref11_First_p11_congr {R : Type} (n : Nat) (a0_0 : Int) (a0_1 : List (List D)) (a0_2 : List (List D)) (a1 : List (List D)) {k0 kk0 : Int → Bool → Option R} (hq0 : ∀ x0 x1, k0 x0 x1 = kk0 x0 x1) : ref11_First_p11 n a0_0 a0_1 a0_2 a1 k0 = ref11_First_p11 n a0_0 a0_1 a0_2 a1 kk0 := by
  obtain rfl : k0 = kk0 := funext fun x0 => funext fun x1 => hq0 x0 x1
  rfl
theorem ref11_First_p1_eq {R : Type} (n : Nat) (a0_0 : Int) (a0_1 : List (List D)) (a0_2 : List (List D)) (a1 : List (List D)) (k : Exit → St → Option R) : vexec (ref11_First_C n) n ref11_First_c1 ⟨34, [(0, .ag [.d (D.int .i64 a0_0), .d (D.sl 3 a0_1), .d (D.sl 6 a0_2)]), (1, .d (D.sl 1 a1))], []⟩ k = ref11_First_p1 n a0_0 a0_1 a0_2 a1 (k .normal ⟨34, [(1, .d (D.sl 1 a1)), (2, .ptr 2 0)], [(2, .box [.d (D.int .i64 a0_0), .d (D.sl 3 a0_1), .d (D.sl 6 a0_2)])]⟩) := by kernel_rfl
theorem ref11_First_p2_eq {R : Type} (n : Nat) (a1 : List (List D)) (a0_0 : Int) (a0_1 : List (List D)) (a0_2 : List (List D)) (k : Exit → St → Option R) : vexec (ref11_First_C n) n ref11_First_c2 ⟨34, [(1, .d (D.sl 1 a1)), (2, .ptr 2 0)], [(2, .box [.d (D.int .i64 a0_0), .d (D.sl 3 a0_1), .d (D.sl 6 a0_2)])]⟩ k = ref11_First_p2 n a1 a0_0 a0_1 a0_2 (k .ret ⟨34, [(4, .d (D.int .i64 (0 : Int))), (5, .d (D.bool false))], []⟩) (fun z2 => k .normal ⟨34, [(1, .d (D.sl 1 a1)), (2, .ptr 2 0), (10, .d (D.bool z2))], [(2, .box [.d (D.int .i64 a0_0), .d (D.sl 3 a0_1), .d (D.sl 6 a0_2)])]⟩) := by kernel_rfl
theorem ref11_First_p3_eq {R : Type} (n : Nat) (a1 : List (List D)) (w3 : Bool) (a0_0 : Int) (a0_1 : List (List D)) (a0_2 : List (List D)) (k : Exit → St → Option R) : vexec (ref11_First_C n) n ref11_First_c3 ⟨34, [(1, .d (D.sl 1 a1)), (2, .ptr 2 0), (10, .d (D.bool w3))], [(2, .box [.d (D.int .i64 a0_0), .d (D.sl 3 a0_1), .d (D.sl 6 a0_2)])]⟩ k = ref11_First_p3 n a1 w3 a0_0 a0_1 a0_2 (k .normal ⟨34, [(1, .d (D.sl 1 a1)), (2, .ptr 2 0), (6, .d (D.int .i64 (0 : Int)))], [(2, .box [.d (D.int .i64 a0_0), .d (D.sl 3 a0_1), .d (D.sl 6 a0_2)])]⟩) := by kernel_rfl
theorem ref11_First_p4_eq {R : Type} (n : Nat) (a1 : List (List D)) (h5 : Int) (a0_0 : Int) (a0_1 : List (List D)) (a0_2 : List (List D)) (k : Exit → St → Option R) : vexec (ref11_First_C n) n ref11_First_c4 ⟨34, [(1, .d (D.sl 1 a1)), (2, .ptr 2 0), (6, .d (D.int .i64 h5))], [(2, .box [.d (D.int .i64 a0_0), .d (D.sl 3 a0_1), .d (D.sl 6 a0_2)])]⟩ k = ref11_First_p4 n a1 h5 a0_0 a0_1 a0_2 (k .ret ⟨34, [(4, .d (D.int .i64 h5)), (5, .d (D.bool true))], []⟩) (fun z45 => k .normal ⟨34, [(1, .d (D.sl 1 a1)), (2, .ptr 2 0), (6, .d (D.int .i64 z45))], [(2, .box [.d (D.int .i64 a0_0), .d (D.sl 3 a0_1), .d (D.sl 6 a0_2)])]⟩) (fun z46 => k (.exit 0) ⟨34, [(1, .d (D.sl 1 a1)), (2, .ptr 2 0), (6, .d (D.int .i64 h5)), (15, .d (D.bool z46))], [(2, .box [.d (D.int .i64 a0_0), .d (D.sl 3 a0_1), .d (D.sl 6 a0_2)])]⟩) := by kernel_rfl
theorem ref11_First_r5_eq {R : Type} (n : Nat) (a1 : List (List D)) (a0_0 : Int) (a0_1 : List (List D)) (a0_2 : List (List D)) (k : Exit → St → Option R) : ∀ (m : Nat) (h5 : Int), loopN (vexec (ref11_First_C n) n ref11_First_c4) m ⟨34, [(1, .d (D.sl 1 a1)), (2, .ptr 2 0), (6, .d (D.int .i64 h5))], [(2, .box [.d (D.int .i64 a0_0), .d (D.sl 3 a0_1), .d (D.sl 6 a0_2)])]⟩ k = ref11_First_r5 n a1 a0_0 a0_1 a0_2 (fun h5 => k .ret ⟨34, [(4, .d (D.int .i64 h5)), (5, .d (D.bool true))], []⟩) (fun h5 w48 => k (.exit 0) ⟨34, [(1, .d (D.sl 1 a1)), (2, .ptr 2 0), (6, .d (D.int .i64 h5)), (15, .d (D.bool w48))], [(2, .box [.d (D.int .i64 a0_0), .d (D.sl 3 a0_1), .d (D.sl 6 a0_2)])]⟩) m h5
  | 0, _ => rfl
  | m + 1, h5 => (ref11_First_p4_eq n a1 h5 a0_0 a0_1 a0_2 (loopK (vexec (ref11_First_C n) n ref11_First_c4) m k)).trans (ref11_First_p4_congr n a1 h5 a0_0 a0_1 a0_2 (rfl) (fun w47 => ref11_First_r5_eq n a1 a0_0 a0_1 a0_2 k m w47) (fun w48 => rfl))
theorem ref11_First_p5_eq {R : Type} (n : Nat) (a1 : List (List D)) (a0_0 : Int) (a0_1 : List (List D)) (a0_2 : List (List D)) (k : Exit → St → Option R) : vexec (ref11_First_C n) n ref11_First_c5 ⟨34, [(1, .d (D.sl 1 a1)), (2, .ptr 2 0), (6, .d (D.int .i64 (0 : Int)))], [(2, .box [.d (D.int .i64 a0_0), .d (D.sl 3 a0_1), .d (D.sl 6 a0_2)])]⟩ k = ref11_First_p5 n a1 a0_0 a0_1 a0_2 (fun h5 => k .ret ⟨34, [(4, .d (D.int .i64 h5)), (5, .d (D.bool true))], []⟩) (fun h5 w48 => k (.exit 0) ⟨34, [(1, .d (D.sl 1 a1)), (2, .ptr 2 0), (6, .d (D.int .i64 h5)), (15, .d (D.bool w48))], [(2, .box [.d (D.int .i64 a0_0), .d (D.sl 3 a0_1), .d (D.sl 6 a0_2)])]⟩) := by
  rw [ref11_First_c5_eq]
  exact ref11_First_r5_eq n a1 a0_0 a0_1 a0_2 k n (0 : Int)
theorem ref11_First_p6_eq {R : Type} (n : Nat) (a1 : List (List D)) (a0_0 : Int) (a0_1 : List (List D)) (a0_2 : List (List D)) (k : Exit → St → Option R) : vexec (ref11_First_C n) n ref11_First_c6 ⟨34, [(1, .d (D.sl 1 a1)), (2, .ptr 2 0), (6, .d (D.int .i64 (0 : Int)))], [(2, .box [.d (D.int .i64 a0_0), .d (D.sl 3 a0_1), .d (D.sl 6 a0_2)])]⟩ k = ref11_First_p6 n a1 a0_0 a0_1 a0_2 (fun w49 => k .ret ⟨34, [(4, .d (D.int .i64 w49)), (5, .d (D.bool true))], []⟩) (fun w50 w51 => k .normal ⟨34, [(1, .d (D.sl 1 a1)), (2, .ptr 2 0), (6, .d (D.int .i64 w50)), (15, .d (D.bool w51))], [(2, .box [.d (D.int .i64 a0_0), .d (D.sl 3 a0_1), .d (D.sl 6 a0_2)])]⟩) := by
  rw [ref11_First_c6_eq]
  unfold ref11_First_p6
  exact (ref11_First_p5_eq n a1 a0_0 a0_1 a0_2 (blockK 0 k)).trans (ref11_First_p5_congr n a1 a0_0 a0_1 a0_2 (fun w49 => rfl) (fun w50 w51 => rfl))
theorem ref11_First_p7_eq {R : Type} (n : Nat) (a1 : List (List D)) (w3 : Bool) (a0_0 : Int) (a0_1 : List (List D)) (a0_2 : List (List D)) (k : Exit → St → Option R) : vexec (ref11_First_C n) n ref11_First_c7 ⟨34, [(1, .d (D.sl 1 a1)), (2, .ptr 2 0), (10, .d (D.bool w3))], [(2, .box [.d (D.int .i64 a0_0), .d (D.sl 3 a0_1), .d (D.sl 6 a0_2)])]⟩ k = ref11_First_p7 n a1 w3 a0_0 a0_1 a0_2 (fun w52 => k .ret ⟨34, [(4, .d (D.int .i64 w52)), (5, .d (D.bool true))], []⟩) (fun w53 w54 => k .normal ⟨34, [(1, .d (D.sl 1 a1)), (2, .ptr 2 0), (6, .d (D.int .i64 w53)), (15, .d (D.bool w54))], [(2, .box [.d (D.int .i64 a0_0), .d (D.sl 3 a0_1), .d (D.sl 6 a0_2)])]⟩) := by
  rw [ref11_First_c7_eq]
  unfold ref11_First_p7
  exact (ref11_First_p3_eq n a1 w3 a0_0 a0_1 a0_2 (seqK (ref11_First_C n) n ref11_First_c6 k)).trans (ref11_First_p3_congr n a1 w3 a0_0 a0_1 a0_2 (ref11_First_p6_eq n a1 a0_0 a0_1 a0_2 k))
theorem ref11_First_p8_eq {R : Type} (n : Nat) (a1 : List (List D)) (w56 : Int) (w57 : Bool) (a0_0 : Int) (a0_1 : List (List D)) (a0_2 : List (List D)) (k : Exit → St → Option R) : vexec (ref11_First_C n) n ref11_First_c8 ⟨34, [(1, .d (D.sl 1 a1)), (2, .ptr 2 0), (6, .d (D.int .i64 w56)), (15, .d (D.bool w57))], [(2, .box [.d (D.int .i64 a0_0), .d (D.sl 3 a0_1), .d (D.sl 6 a0_2)])]⟩ k = ref11_First_p8 n a1 w56 w57 a0_0 a0_1 a0_2 (k .ret ⟨34, [(4, .d (D.int .i64 (0 : Int))), (5, .d (D.bool false))], []⟩) := by kernel_rfl
theorem ref11_First_p9_eq {R : Type} (n : Nat) (a1 : List (List D)) (w3 : Bool) (a0_0 : Int) (a0_1 : List (List D)) (a0_2 : List (List D)) (k : Exit → St → Option R) : vexec (ref11_First_C n) n ref11_First_c9 ⟨34, [(1, .d (D.sl 1 a1)), (2, .ptr 2 0), (10, .d (D.bool w3))], [(2, .box [.d (D.int .i64 a0_0), .d (D.sl 3 a0_1), .d (D.sl 6 a0_2)])]⟩ k = ref11_First_p9 n a1 w3 a0_0 a0_1 a0_2 (fun z58 z59 => k .ret ⟨34, [(4, .d (D.int .i64 z58)), (5, .d (D.bool z59))], []⟩) := by
  rw [ref11_First_c9_eq]
  unfold ref11_First_p9
  exact (ref11_First_p7_eq n a1 w3 a0_0 a0_1 a0_2 (seqK (ref11_First_C n) n ref11_First_c8 k)).trans (ref11_First_p7_congr n a1 w3 a0_0 a0_1 a0_2 (fun w55 => rfl) (fun w56 w57 => ref11_First_p8_eq n a1 w56 w57 a0_0 a0_1 a0_2 k))
theorem ref11_First_p10_eq {R : Type} (n : Nat) (a1 : List (List D)) (a0_0 : Int) (a0_1 : List (List D)) (a0_2 : List (List D)) (k : Exit → St → Option R) : vexec (ref11_First_C n) n ref11_First_c10 ⟨34, [(1, .d (D.sl 1 a1)), (2, .ptr 2 0)], [(2, .box [.d (D.int .i64 a0_0), .d (D.sl 3 a0_1), .d (D.sl 6 a0_2)])]⟩ k = ref11_First_p10 n a1 a0_0 a0_1 a0_2 (fun z62 z63 => k .ret ⟨34, [(4, .d (D.int .i64 z62)), (5, .d (D.bool z63))], []⟩) := by
  rw [ref11_First_c10_eq]
  unfold ref11_First_p10
  exact (ref11_First_p2_eq n a1 a0_0 a0_1 a0_2 (seqK (ref11_First_C n) n ref11_First_c9 k)).trans (ref11_First_p2_congr n a1 a0_0 a0_1 a0_2 (rfl) (fun w3 => ref11_First_p9_eq n a1 w3 a0_0 a0_1 a0_2 k))
theorem ref11_First_p11_eq {R : Type} (n : Nat) (a0_0 : Int) (a0_1 : List (List D)) (a0_2 : List (List D)) (a1 : List (List D)) (k : Exit → St → Option R) : vexec (ref11_First_C n) n ref11_First_c0 ⟨34, [(0, .ag [.d (D.int .i64 a0_0), .d (D.sl 3 a0_1), .d (D.sl 6 a0_2)]), (1, .d (D.sl 1 a1))], []⟩ k = ref11_First_p11 n a0_0 a0_1 a0_2 a1 (fun w64 w65 => k .ret ⟨34, [(4, .d (D.int .i64 w64)), (5, .d (D.bool w65))], []⟩) := by
  rw [ref11_First_c0_eq]
  unfold ref11_First_p11
  exact (ref11_First_p1_eq n a0_0 a0_1 a0_2 a1 (seqK (ref11_First_C n) n ref11_First_c10 k)).trans (ref11_First_p1_congr n a0_0 a0_1 a0_2 a1 (ref11_First_p10_eq n a1 a0_0 a0_1 a0_2 k))
theorem ref11_First_vfn {R : Type} (n : Nat) (a0_0 : Int) (a0_1 : List (List D)) (a0_2 : List (List D)) (a1 : List (List D)) (K : AV → Option R) : vfn (ref11_First_C n) n Try.f30 [.ag [.d (D.int .i64 a0_0), .d (D.sl 3 a0_1), .d (D.sl 6 a0_2)], .d (D.sl 1 a1)] [] (retF [[0], [0]] K) = ref11_First n a0_0 a0_1 a0_2 a1 (fun r0 r1 => K (.tup [.d (D.int .i64 r0), .d (D.bool r1)])) :=
  (show vfn (ref11_First_C n) n Try.f30 [.ag [.d (D.int .i64 a0_0), .d (D.sl 3 a0_1), .d (D.sl 6 a0_2)], .d (D.sl 1 a1)] [] (retF [[0], [0]] K) = vexec (ref11_First_C n) n ref11_First_c0 ⟨34, [(0, .ag [.d (D.int .i64 a0_0), .d (D.sl 3 a0_1), .d (D.sl 6 a0_2)]), (1, .d (D.sl 1 a1))], []⟩ (retX ref11_First_tt [.tmp 4, .tmp 5] (retF [[0], [0]] K)) from vfn_at (by kernel_rfl) (by kernel_rfl) rfl (by kernel_rfl) rfl (by kernel_rfl) rfl).trans ((ref11_First_p11_eq n a0_0 a0_1 a0_2 a1 (retX ref11_First_tt [.tmp 4, .tmp 5] (retF [[0], [0]] K))).trans (by kernel_rfl))
def ref11_First_K : AV → Option (Int × Bool) := fun av => match av with
  | .tup [.d (D.int .i64 r0), .d (D.bool r1)] => some (r0, r1)
  | _ => none
def ref11_First_e (n : Nat) : Entry := fun _ _ g avs _ k => match avs with
  | [c0, c1] => 
    prG c0 fun l0 => (match l0 with
    | [c0_0, c0_1, c0_2] => prI g .i64 c0_0 fun a0_0 => prS g 3 c0_1 fun a0_1 => prS g 6 c0_2 fun a0_2 => prS g 1 c1 fun a1 => 
    gb g (ref11_First n a0_0 a0_1 a0_2 a1 (fun r0 r1 => some (r0, r1))) (0, false) fun r => k ⟨.tup [.d (D.int .i64 r.1), .d (D.bool r.2)], [], []⟩
    | _ => none)
  | _ => none
theorem ref11_First_ok (n : Nat) : EntryOK Try.prog 30 (ref11_First_e n) := by
  intro R site g avs hl k r h
  unfold ref11_First_e at h
  split at h
  rotate_left
  · cases h
  replace h := prG_some h
  obtain ⟨l0, h, e0⟩ := h
  subst e0
  split at h
  rotate_left
  · cases h
  replace h := prI_some h
  obtain ⟨a0_0, h, le0⟩ := h
  replace h := prS_some h
  obtain ⟨a0_1, h, le1⟩ := h
  replace h := prS_some h
  obtain ⟨a0_2, h, le2⟩ := h
  replace h := prS_some h
  obtain ⟨a1, h, le3⟩ := h
  replace h := gb_some h
  obtain ⟨res, h, hr⟩ := h
  refine ⟨_, h, fun hg => CallOK.conv (avs' := [.ag [.d (D.int .i64 a0_0), .d (D.sl 3 a0_1), .d (D.sl 6 a0_2)], .d (D.sl 1 a1)]) (.cons (.ag (.cons (le0 hg) (.cons (le1 hg) (.cons (le2 hg) (.nil))))) (.cons (le3 hg) (.nil))) (callOK_fix (K := ref11_First_K) (res := res) (ref11_First_VC n) (fn := Try.f30) (n := n) (by kernel_rfl) (by kernel_rfl) (by kernel_rfl) (ss := [[0], [0]]) rfl ?_ ?_)⟩
  · exact (ref11_First_vfn n a0_0 a0_1 a0_2 a1 ref11_First_K).trans (hr hg)
  · intro x hx
    unfold ref11_First_K at hx
    split at hx
    · injection hx with hx; subst hx; rfl
    · cases hx
end Go.Vx
/-
  network_Cost: the interpreter computes the pure function
-/
set_option linter.unusedVariables false
set_option linter.unusedSimpArgs false
set_option maxRecDepth 100000
namespace Go.Vx
open Go.Proofs
noncomputable def network_Cost_c0 : Code := bodyOf Try.f18
noncomputable def network_Cost_c1 : Code := cL (bodyOf Try.f18)
noncomputable def network_Cost_c2 : Code := cL (cR (bodyOf Try.f18))
noncomputable def network_Cost_c3 : Code := cL (cR (cR (bodyOf Try.f18)))
noncomputable def network_Cost_c4 : Code := cL (cL (cR (cR (cR (bodyOf Try.f18)))))
noncomputable def network_Cost_c5 : Code := cB (cB (cR (cL (cR (cR (cR (bodyOf Try.f18)))))))
noncomputable def network_Cost_c6 : Code := cB (cR (cL (cR (cR (cR (bodyOf Try.f18))))))
noncomputable def network_Cost_c7 : Code := cR (cL (cR (cR (cR (bodyOf Try.f18)))))
noncomputable def network_Cost_c8 : Code := cL (cR (cR (cR (bodyOf Try.f18))))
noncomputable def network_Cost_c9 : Code := cR (cR (cR (cR (bodyOf Try.f18))))
noncomputable def network_Cost_c10 : Code := cR (cR (cR (bodyOf Try.f18)))
noncomputable def network_Cost_c11 : Code := cR (cR (bodyOf Try.f18))
noncomputable def network_Cost_c12 : Code := cR (bodyOf Try.f18)
theorem network_Cost_c6_eq : network_Cost_c6 = .loop network_Cost_c5 := by kernel_rfl
theorem network_Cost_c7_eq : network_Cost_c7 = .block 0 network_Cost_c6 := by kernel_rfl
theorem network_Cost_c8_eq : network_Cost_c8 = .seq network_Cost_c4 network_Cost_c7 := by kernel_rfl
theorem network_Cost_c10_eq : network_Cost_c10 = .seq network_Cost_c8 network_Cost_c9 := by kernel_rfl
theorem network_Cost_c11_eq : network_Cost_c11 = .seq network_Cost_c3 network_Cost_c10 := by kernel_rfl
theorem network_Cost_c12_eq : network_Cost_c12 = .seq network_Cost_c2 network_Cost_c11 := by kernel_rfl
theorem network_Cost_c0_eq : network_Cost_c0 = .seq network_Cost_c1 network_Cost_c12 := by kernel_rfl
def network_Cost_tt : TT := [(3, ⟨.int .i64, 1, 8, [.int .i64 0], [.int .i64 0], [], none⟩), (24, ⟨.sl 31 6, 1, 24, [.slice none 0 0], [.sl 6 []], [], none⟩), (26, ⟨.struct, 3, 56, [.int .i64 0, .slice none 0 0, .slice none 0 0], [.int .i64 0, .sl 3 [], .sl 6 []], [(0, 3), (1, 23), (2, 24)], none⟩), (31, ⟨.struct, 6, 48, [.int .i64 0, .int .i64 0, .int .i64 0, .int .i64 0, .int .i64 0, .int .i64 0], [.int .i64 0, .int .i64 0, .int .i64 0, .int .i64 0, .int .i64 0, .int .i64 0], [(0, 3), (1, 3), (2, 3), (3, 3), (4, 3), (5, 3)], some [.int .i64, .int .i64, .int .i64, .int .i64, .int .i64, .int .i64]⟩)]
theorem network_Cost_tt_eq : mkTT Try.prog [3, 24, 26, 31] = network_Cost_tt := by kernel_rfl
def network_Cost_cfg : List (Nat × Cfg) := [(0, ⟨[1, 2], [(2, 2)], [], [], []⟩), (1, ⟨[1, 2, 12], [(2, 2)], [], [], []⟩), (2, ⟨[4, 5], [], [], [], []⟩), (3, ⟨[1, 2, 6], [(2, 2)], [], [], []⟩), (4, ⟨[1, 2, 6, 14, 15, 16], [(2, 2)], [], [], []⟩), (5, ⟨[1, 2, 6, 14, 15, 16, 17], [(2, 2)], [], [], []⟩), (6, ⟨[1, 2, 6, 8, 14, 15, 16], [(2, 2), (8, 8)], [], [], []⟩), (7, ⟨[1, 2, 6, 14, 15, 16], [(2, 2)], [], [], []⟩), (8, ⟨[1, 2, 6, 14, 15, 16], [(2, 2)], [], [], []⟩), (9, ⟨[4, 5], [], [], [], []⟩)]
def network_Cost_C (n : Nat) : VC := ⟨specOf [(27, network_Good_e n), (28, network_duration_e n)], network_Cost_tt, network_Cost_cfg⟩
theorem network_Cost_ents (n : Nat) : EntsOK Try.prog [(27, network_Good_e n), (28, network_duration_e n)] := ⟨network_Good_ok n, ⟨network_duration_ok n, trivial⟩⟩
theorem network_Cost_VC (n : Nat) : VCOk Try.prog (network_Cost_C n) := ⟨specOf_ok (network_Cost_ents n), (network_Cost_tt_eq ▸ mkTT_ok _ : TOk Try.prog network_Cost_tt), by kernel_rfl⟩
theorem network_Cost_p1_congr {R : Type} (n : Nat) (a0_0 : Int) (a0_1 : List (List D)) (a0_2 : List (List D)) (a1 : List (List D)) {k0 kk0 : Option R} (hq0 : k0 = kk0) : network_Cost_p1 n a0_0 a0_1 a0_2 a1 k0 = network_Cost_p1 n a0_0 a0_1 a0_2 a1 kk0 := by
  obtain rfl : k0 = kk0 := hq0
  rfl
theorem network_Cost_p2_congr {R : Type} (n : Nat) (a1 : List (List D)) (a0_0 : Int) (a0_1 : List (List D)) (a0_2 : List (List D)) {k0 kk0 : Option R} {k1 kk1 : Bool → Option R} (hq0 : k0 = kk0) (hq1 : ∀ x0, k1 x0 = kk1 x0) : network_Cost_p2 n a1 a0_0 a0_1 a0_2 k0 k1 = network_Cost_p2 n a1 a0_0 a0_1 a0_2 kk0 kk1 := by
  obtain rfl : k0 = kk0 := hq0
  obtain rfl : k1 = kk1 := funext fun x0 => hq1 x0
  rfl
theorem network_Cost_p3_congr {R : Type} (n : Nat) (a1 : List (List D)) (w3 : Bool) (a0_0 : Int) (a0_1 : List (List D)) (a0_2 : List (List D)) {k0 kk0 : Option R} (hq0 : k0 = kk0) : network_Cost_p3 n a1 w3 a0_0 a0_1 a0_2 k0 = network_Cost_p3 n a1 w3 a0_0 a0_1 a0_2 kk0 := by
  obtain rfl : k0 = kk0 := hq0
  rfl
theorem network_Cost_p4_congr {R : Type} (n : Nat) (a1 : List (List D)) (a0_0 : Int) (a0_1 : List (List D)) (a0_2 : List (List D)) {k0 kk0 : Int → Option R} (hq0 : ∀ x0, k0 x0 = kk0 x0) : network_Cost_p4 n a1 a0_0 a0_1 a0_2 k0 = network_Cost_p4 n a1 a0_0 a0_1 a0_2 kk0 := by
  obtain rfl : k0 = kk0 := funext fun x0 => hq0 x0
  rfl
theorem network_Cost_p5_congr {R : Type} (n : Nat) (a1 : List (List D)) (h7 : Int) (a0_2 : List (List D)) (w5 : Int) (h10 : Int) (a0_0 : Int) (a0_1 : List (List D)) {k0 kk0 : Int → Int → Option R} {k1 kk1 : Bool → Option R} (hq0 : ∀ x0 x1, k0 x0 x1 = kk0 x0 x1) (hq1 : ∀ x0, k1 x0 = kk1 x0) : network_Cost_p5 n a1 h7 a0_2 w5 h10 a0_0 a0_1 k0 k1 = network_Cost_p5 n a1 h7 a0_2 w5 h10 a0_0 a0_1 kk0 kk1 := by
  obtain rfl : k0 = kk0 := funext fun x0 => funext fun x1 => hq0 x0 x1
  obtain rfl : k1 = kk1 := funext fun x0 => hq1 x0
  rfl
theorem network_Cost_p6_congr {R : Type} (n : Nat) (a1 : List (List D)) (a0_2 : List (List D)) (w5 : Int) (a0_0 : Int) (a0_1 : List (List D)) {k0 kk0 : Int → Int → Bool → Option R} (hq0 : ∀ x0 x1 x2, k0 x0 x1 x2 = kk0 x0 x1 x2) : network_Cost_p6 n a1 a0_2 w5 a0_0 a0_1 k0 = network_Cost_p6 n a1 a0_2 w5 a0_0 a0_1 kk0 := by
  obtain rfl : k0 = kk0 := funext fun x0 => funext fun x1 => funext fun x2 => hq0 x0 x1 x2
  rfl
theorem network_Cost_p7_congr {R : Type} (n : Nat) (a1 : List (List D)) (a0_2 : List (List D)) (w5 : Int) (a0_0 : Int) (a0_1 : List (List D)) {k0 kk0 : Int → Int → Bool → Option R} (hq0 : ∀ x0 x1 x2, k0 x0 x1 x2 = kk0 x0 x1 x2) : network_Cost_p7 n a1 a0_2 w5 a0_0 a0_1 k0 = network_Cost_p7 n a1 a0_2 w5 a0_0 a0_1 kk0 := by
  obtain rfl : k0 = kk0 := funext fun x0 => funext fun x1 => funext fun x2 => hq0 x0 x1 x2
  rfl
theorem network_Cost_p8_congr {R : Type} (n : Nat) (a1 : List (List D)) (a0_0 : Int) (a0_1 : List (List D)) (a0_2 : List (List D)) {k0 kk0 : Int → Int → Int → Bool → Option R} (hq0 : ∀ x0 x1 x2 x3, k0 x0 x1 x2 x3 = kk0 x0 x1 x2 x3) : network_Cost_p8 n a1 a0_0 a0_1 a0_2 k0 = network_Cost_p8 n a1 a0_0 a0_1 a0_2 kk0 := by
  obtain rfl : k0 = kk0 := funext fun x0 => funext fun x1 => funext fun x2 => funext fun x3 => hq0 x0 x1 x2 x3
  rfl
theorem network_Cost_p9_congr {R : Type} (n : Nat) (a1 : List (List D)) (w59 : Int) (a0_2 : List (List D)) (w60 : Int) (w61 : Int) (w62 : Bool) (a0_0 : Int) (a0_1 : List (List D)) {k0 kk0 : Option R} (hq0 : k0 = kk0) : network_Cost_p9 n a1 w59 a0_2 w60 w61 w62 a0_0 a0_1 k0 = network_Cost_p9 n a1 w59 a0_2 w60 w61 w62 a0_0 a0_1 kk0 := by
  obtain rfl : k0 = kk0 := hq0
  rfl
theorem network_Cost_p10_congr {R : Type} (n : Nat) (a1 : List (List D)) (a0_0 : Int) (a0_1 : List (List D)) (a0_2 : List (List D)) {k0 kk0 : Int → Option R} (hq0 : ∀ x0, k0 x0 = kk0 x0) : network_Cost_p10 n a1 a0_0 a0_1 a0_2 k0 = network_Cost_p10 n a1 a0_0 a0_1 a0_2 kk0 := by
  obtain rfl : k0 = kk0 := funext fun x0 => hq0 x0
  rfl
theorem network_Cost_p11_congr {R : Type} (n : Nat) (a1 : List (List D)) (w3 : Bool) (a0_0 : Int) (a0_1 : List (List D)) (a0_2 : List (List D)) {k0 kk0 : Int → Option R} (hq0 : ∀ x0, k0 x0 = kk0 x0) : network_Cost_p11 n a1 w3 a0_0 a0_1 a0_2 k0 = network_Cost_p11 n a1 w3 a0_0 a0_1 a0_2 kk0 := by
  obtain rfl : k0 = kk0 := funext fun x0 => hq0 x0
  rfl
theorem network_Cost_p12_congr {R : Type} (n : Nat) (a1 : List (List D)) (a0_0 : Int) (a0_1 : List (List D)) (a0_2 : List (List D)) {k0 kk0 : Int → Int → Option R} (hq0 : ∀ x0 x1, k0 x0 x1 = kk0 x0 x1) : network_Cost_p12 n a1 a0_0 a0_1 a0_2 k0 = network_Cost_p12 n a1 a0_0 a0_1 a0_2 kk0 := by
  obtain rfl : k0 = kk0 := funext fun x0 => funext fun x1 => hq0 x0 x1
  rfl
theorem network_Cost_p13_congr {R : Type} (n : Nat) (a0_0 : Int) (a0_1 : List (List D)) (a0_2 : List (List D)) (a1 : List (List D)) {k0 kk0 : Int → Int → Option R} (hq0 : ∀ x0 x1, k0 x0 x1 = kk0 x0 x1) : network_Cost_p13 n a0_0 a0_1 a0_2 a1 k0 = network_Cost_p13 n a0_0 a0_1 a0_2 a1 kk0 := by
  obtain rfl : k0 = kk0 := funext fun x0 => funext fun x1 => hq0 x0 x1
  rfl
theorem network_Cost_p1_eq {R : Type} (n : Nat) (a0_0 : Int) (a0_1 : List (List D)) (a0_2 : List (List D)) (a1 : List (List D)) (k : Exit → St → Option R) : vexec (network_Cost_C n) n network_Cost_c1 ⟨31, [(0, .ag [.d (D.int .i64 a0_0), .d (D.sl 3 a0_1), .d (D.sl 6 a0_2)]), (1, .d (D.sl 1 a1))], []⟩ k = network_Cost_p1 n a0_0 a0_1 a0_2 a1 (k .normal ⟨31, [(1, .d (D.sl 1 a1)), (2, .ptr 2 0)], [(2, .box [.d (D.int .i64 a0_0), .d (D.sl 3 a0_1), .d (D.sl 6 a0_2)])]⟩) := by kernel_rfl
theorem network_Cost_p2_eq {R : Type} (n : Nat) (a1 : List (List D)) (a0_0 : Int) (a0_1 : List (List D)) (a0_2 : List (List D)) (k : Exit → St → Option R) : vexec (network_Cost_C n) n network_Cost_c2 ⟨31, [(1, .d (D.sl 1 a1)), (2, .ptr 2 0)], [(2, .box [.d (D.int .i64 a0_0), .d (D.sl 3 a0_1), .d (D.sl 6 a0_2)])]⟩ k = network_Cost_p2 n a1 a0_0 a0_1 a0_2 (k .ret ⟨31, [(4, .d (D.int .i64 (0 : Int))), (5, .d (D.int .i64 (1 : Int)))], []⟩) (fun z2 => k .normal ⟨31, [(1, .d (D.sl 1 a1)), (2, .ptr 2 0), (12, .d (D.bool z2))], [(2, .box [.d (D.int .i64 a0_0), .d (D.sl 3 a0_1), .d (D.sl 6 a0_2)])]⟩) := by kernel_rfl
theorem network_Cost_p3_eq {R : Type} (n : Nat) (a1 : List (List D)) (w3 : Bool) (a0_0 : Int) (a0_1 : List (List D)) (a0_2 : List (List D)) (k : Exit → St → Option R) : vexec (network_Cost_C n) n network_Cost_c3 ⟨31, [(1, .d (D.sl 1 a1)), (2, .ptr 2 0), (12, .d (D.bool w3))], [(2, .box [.d (D.int .i64 a0_0), .d (D.sl 3 a0_1), .d (D.sl 6 a0_2)])]⟩ k = network_Cost_p3 n a1 w3 a0_0 a0_1 a0_2 (k .normal ⟨31, [(1, .d (D.sl 1 a1)), (2, .ptr 2 0), (6, .d (D.int .i64 (0 : Int)))], [(2, .box [.d (D.int .i64 a0_0), .d (D.sl 3 a0_1), .d (D.sl 6 a0_2)])]⟩) := by kernel_rfl
theorem network_Cost_p4_eq {R : Type} (n : Nat) (a1 : List (List D)) (a0_0 : Int) (a0_1 : List (List D)) (a0_2 : List (List D)) (k : Exit → St → Option R) : vexec (network_Cost_C n) n network_Cost_c4 ⟨31, [(1, .d (D.sl 1 a1)), (2, .ptr 2 0), (6, .d (D.int .i64 (0 : Int)))], [(2, .box [.d (D.int .i64 a0_0), .d (D.sl 3 a0_1), .d (D.sl 6 a0_2)])]⟩ k = network_Cost_p4 n a1 a0_0 a0_1 a0_2 (fun z4 => k .normal ⟨31, [(1, .d (D.sl 1 a1)), (2, .ptr 2 0), (6, .d (D.int .i64 (0 : Int))), (14, .d (D.sl 6 a0_2)), (15, .d (D.int .i64 z4)), (16, .d (D.int .i64 (0 : Int)))], [(2, .box [.d (D.int .i64 a0_0), .d (D.sl 3 a0_1), .d (D.sl 6 a0_2)])]⟩) := by kernel_rfl
theorem network_Cost_p5_eq {R : Type} (n : Nat) (a1 : List (List D)) (h7 : Int) (a0_2 : List (List D)) (w5 : Int) (h10 : Int) (a0_0 : Int) (a0_1 : List (List D)) (k : Exit → St → Option R) : vexec (network_Cost_C n) n network_Cost_c5 ⟨31, [(1, .d (D.sl 1 a1)), (2, .ptr 2 0), (6, .d (D.int .i64 h7)), (14, .d (D.sl 6 a0_2)), (15, .d (D.int .i64 w5)), (16, .d (D.int .i64 h10))], [(2, .box [.d (D.int .i64 a0_0), .d (D.sl 3 a0_1), .d (D.sl 6 a0_2)])]⟩ k = network_Cost_p5 n a1 h7 a0_2 w5 h10 a0_0 a0_1 (fun z47 z48 => k .normal ⟨31, [(1, .d (D.sl 1 a1)), (2, .ptr 2 0), (6, .d (D.int .i64 z47)), (14, .d (D.sl 6 a0_2)), (15, .d (D.int .i64 w5)), (16, .d (D.int .i64 z48))], [(2, .box [.d (D.int .i64 a0_0), .d (D.sl 3 a0_1), .d (D.sl 6 a0_2)])]⟩) (fun z49 => k (.exit 0) ⟨31, [(1, .d (D.sl 1 a1)), (2, .ptr 2 0), (6, .d (D.int .i64 h7)), (14, .d (D.sl 6 a0_2)), (15, .d (D.int .i64 w5)), (16, .d (D.int .i64 h10)), (17, .d (D.bool z49))], [(2, .box [.d (D.int .i64 a0_0), .d (D.sl 3 a0_1), .d (D.sl 6 a0_2)])]⟩) := by kernel_rfl
theorem network_Cost_r6_eq {R : Type} (n : Nat) (a1 : List (List D)) (a0_2 : List (List D)) (w5 : Int) (a0_0 : Int) (a0_1 : List (List D)) (k : Exit → St → Option R) : ∀ (m : Nat) (h7 : Int) (h10 : Int), loopN (vexec (network_Cost_C n) n network_Cost_c5) m ⟨31, [(1, .d (D.sl 1 a1)), (2, .ptr 2 0), (6, .d (D.int .i64 h7)), (14, .d (D.sl 6 a0_2)), (15, .d (D.int .i64 w5)), (16, .d (D.int .i64 h10))], [(2, .box [.d (D.int .i64 a0_0), .d (D.sl 3 a0_1), .d (D.sl 6 a0_2)])]⟩ k = network_Cost_r6 n a1 a0_2 w5 a0_0 a0_1 (fun h7 h10 w52 => k (.exit 0) ⟨31, [(1, .d (D.sl 1 a1)), (2, .ptr 2 0), (6, .d (D.int .i64 h7)), (14, .d (D.sl 6 a0_2)), (15, .d (D.int .i64 w5)), (16, .d (D.int .i64 h10)), (17, .d (D.bool w52))], [(2, .box [.d (D.int .i64 a0_0), .d (D.sl 3 a0_1), .d (D.sl 6 a0_2)])]⟩) m h7 h10
  | 0, _, _ => rfl
  | m + 1, h7, h10 => (network_Cost_p5_eq n a1 h7 a0_2 w5 h10 a0_0 a0_1 (loopK (vexec (network_Cost_C n) n network_Cost_c5) m k)).trans (network_Cost_p5_congr n a1 h7 a0_2 w5 h10 a0_0 a0_1 (fun w50 w51 => network_Cost_r6_eq n a1 a0_2 w5 a0_0 a0_1 k m w50 w51) (fun w52 => rfl))
theorem network_Cost_p6_eq {R : Type} (n : Nat) (a1 : List (List D)) (a0_2 : List (List D)) (w5 : Int) (a0_0 : Int) (a0_1 : List (List D)) (k : Exit → St → Option R) : vexec (network_Cost_C n) n network_Cost_c6 ⟨31, [(1, .d (D.sl 1 a1)), (2, .ptr 2 0), (6, .d (D.int .i64 (0 : Int))), (14, .d (D.sl 6 a0_2)), (15, .d (D.int .i64 w5)), (16, .d (D.int .i64 (0 : Int)))], [(2, .box [.d (D.int .i64 a0_0), .d (D.sl 3 a0_1), .d (D.sl 6 a0_2)])]⟩ k = network_Cost_p6 n a1 a0_2 w5 a0_0 a0_1 (fun h7 h10 w52 => k (.exit 0) ⟨31, [(1, .d (D.sl 1 a1)), (2, .ptr 2 0), (6, .d (D.int .i64 h7)), (14, .d (D.sl 6 a0_2)), (15, .d (D.int .i64 w5)), (16, .d (D.int .i64 h10)), (17, .d (D.bool w52))], [(2, .box [.d (D.int .i64 a0_0), .d (D.sl 3 a0_1), .d (D.sl 6 a0_2)])]⟩) := by
  rw [network_Cost_c6_eq]
  exact network_Cost_r6_eq n a1 a0_2 w5 a0_0 a0_1 k n (0 : Int) (0 : Int)
theorem network_Cost_p7_eq {R : Type} (n : Nat) (a1 : List (List D)) (a0_2 : List (List D)) (w5 : Int) (a0_0 : Int) (a0_1 : List (List D)) (k : Exit → St → Option R) : vexec (network_Cost_C n) n network_Cost_c7 ⟨31, [(1, .d (D.sl 1 a1)), (2, .ptr 2 0), (6, .d (D.int .i64 (0 : Int))), (14, .d (D.sl 6 a0_2)), (15, .d (D.int .i64 w5)), (16, .d (D.int .i64 (0 : Int)))], [(2, .box [.d (D.int .i64 a0_0), .d (D.sl 3 a0_1), .d (D.sl 6 a0_2)])]⟩ k = network_Cost_p7 n a1 a0_2 w5 a0_0 a0_1 (fun w53 w54 w55 => k .normal ⟨31, [(1, .d (D.sl 1 a1)), (2, .ptr 2 0), (6, .d (D.int .i64 w53)), (14, .d (D.sl 6 a0_2)), (15, .d (D.int .i64 w5)), (16, .d (D.int .i64 w54)), (17, .d (D.bool w55))], [(2, .box [.d (D.int .i64 a0_0), .d (D.sl 3 a0_1), .d (D.sl 6 a0_2)])]⟩) := by
  rw [network_Cost_c7_eq]
  unfold network_Cost_p7
  exact (network_Cost_p6_eq n a1 a0_2 w5 a0_0 a0_1 (blockK 0 k)).trans (network_Cost_p6_congr n a1 a0_2 w5 a0_0 a0_1 (fun w53 w54 w55 => rfl))
theorem network_Cost_p8_eq {R : Type} (n : Nat) (a1 : List (List D)) (a0_0 : Int) (a0_1 : List (List D)) (a0_2 : List (List D)) (k : Exit → St → Option R) : vexec (network_Cost_C n) n network_Cost_c8 ⟨31, [(1, .d (D.sl 1 a1)), (2, .ptr 2 0), (6, .d (D.int .i64 (0 : Int)))], [(2, .box [.d (D.int .i64 a0_0), .d (D.sl 3 a0_1), .d (D.sl 6 a0_2)])]⟩ k = network_Cost_p8 n a1 a0_0 a0_1 a0_2 (fun w56 w5 w57 w58 => k .normal ⟨31, [(1, .d (D.sl 1 a1)), (2, .ptr 2 0), (6, .d (D.int .i64 w56)), (14, .d (D.sl 6 a0_2)), (15, .d (D.int .i64 w5)), (16, .d (D.int .i64 w57)), (17, .d (D.bool w58))], [(2, .box [.d (D.int .i64 a0_0), .d (D.sl 3 a0_1), .d (D.sl 6 a0_2)])]⟩) := by
  rw [network_Cost_c8_eq]
  unfold network_Cost_p8
  exact (network_Cost_p4_eq n a1 a0_0 a0_1 a0_2 (seqK (network_Cost_C n) n network_Cost_c7 k)).trans (network_Cost_p4_congr n a1 a0_0 a0_1 a0_2 (fun w5 => network_Cost_p7_eq n a1 a0_2 w5 a0_0 a0_1 k))
theorem network_Cost_p9_eq {R : Type} (n : Nat) (a1 : List (List D)) (w59 : Int) (a0_2 : List (List D)) (w60 : Int) (w61 : Int) (w62 : Bool) (a0_0 : Int) (a0_1 : List (List D)) (k : Exit → St → Option R) : vexec (network_Cost_C n) n network_Cost_c9 ⟨31, [(1, .d (D.sl 1 a1)), (2, .ptr 2 0), (6, .d (D.int .i64 w59)), (14, .d (D.sl 6 a0_2)), (15, .d (D.int .i64 w60)), (16, .d (D.int .i64 w61)), (17, .d (D.bool w62))], [(2, .box [.d (D.int .i64 a0_0), .d (D.sl 3 a0_1), .d (D.sl 6 a0_2)])]⟩ k = network_Cost_p9 n a1 w59 a0_2 w60 w61 w62 a0_0 a0_1 (k .ret ⟨31, [(4, .d (D.int .i64 w59)), (5, .d (D.int .i64 (0 : Int)))], []⟩) := by kernel_rfl
theorem network_Cost_p10_eq {R : Type} (n : Nat) (a1 : List (List D)) (a0_0 : Int) (a0_1 : List (List D)) (a0_2 : List (List D)) (k : Exit → St → Option R) : vexec (network_Cost_C n) n network_Cost_c10 ⟨31, [(1, .d (D.sl 1 a1)), (2, .ptr 2 0), (6, .d (D.int .i64 (0 : Int)))], [(2, .box [.d (D.int .i64 a0_0), .d (D.sl 3 a0_1), .d (D.sl 6 a0_2)])]⟩ k = network_Cost_p10 n a1 a0_0 a0_1 a0_2 (fun w59 => k .ret ⟨31, [(4, .d (D.int .i64 w59)), (5, .d (D.int .i64 (0 : Int)))], []⟩) := by
  rw [network_Cost_c10_eq]
  unfold network_Cost_p10
  exact (network_Cost_p8_eq n a1 a0_0 a0_1 a0_2 (seqK (network_Cost_C n) n network_Cost_c9 k)).trans (network_Cost_p8_congr n a1 a0_0 a0_1 a0_2 (fun w59 w60 w61 w62 => network_Cost_p9_eq n a1 w59 a0_2 w60 w61 w62 a0_0 a0_1 k))
theorem network_Cost_p11_eq {R : Type} (n : Nat) (a1 : List (List D)) (w3 : Bool) (a0_0 : Int) (a0_1 : List (List D)) (a0_2 : List (List D)) (k : Exit → St → Option R) : vexec (network_Cost_C n) n network_Cost_c11 ⟨31, [(1, .d (D.sl 1 a1)), (2, .ptr 2 0), (12, .d (D.bool w3))], [(2, .box [.d (D.int .i64 a0_0), .d (D.sl 3 a0_1), .d (D.sl 6 a0_2)])]⟩ k = network_Cost_p11 n a1 w3 a0_0 a0_1 a0_2 (fun w63 => k .ret ⟨31, [(4, .d (D.int .i64 w63)), (5, .d (D.int .i64 (0 : Int)))], []⟩) := by
  rw [network_Cost_c11_eq]
  unfold network_Cost_p11
  exact (network_Cost_p3_eq n a1 w3 a0_0 a0_1 a0_2 (seqK (network_Cost_C n) n network_Cost_c10 k)).trans (network_Cost_p3_congr n a1 w3 a0_0 a0_1 a0_2 (network_Cost_p10_eq n a1 a0_0 a0_1 a0_2 k))
theorem network_Cost_p12_eq {R : Type} (n : Nat) (a1 : List (List D)) (a0_0 : Int) (a0_1 : List (List D)) (a0_2 : List (List D)) (k : Exit → St → Option R) : vexec (network_Cost_C n) n network_Cost_c12 ⟨31, [(1, .d (D.sl 1 a1)), (2, .ptr 2 0)], [(2, .box [.d (D.int .i64 a0_0), .d (D.sl 3 a0_1), .d (D.sl 6 a0_2)])]⟩ k = network_Cost_p12 n a1 a0_0 a0_1 a0_2 (fun z65 z66 => k .ret ⟨31, [(4, .d (D.int .i64 z65)), (5, .d (D.int .i64 z66))], []⟩) := by
  rw [network_Cost_c12_eq]
  unfold network_Cost_p12
  exact (network_Cost_p2_eq n a1 a0_0 a0_1 a0_2 (seqK (network_Cost_C n) n network_Cost_c11 k)).trans (network_Cost_p2_congr n a1 a0_0 a0_1 a0_2 (rfl) (fun w3 => network_Cost_p11_eq n a1 w3 a0_0 a0_1 a0_2 k))
theorem network_Cost_p13_eq {R : Type} (n : Nat) (a0_0 : Int) (a0_1 : List (List D)) (a0_2 : List (List D)) (a1 : List (List D)) (k : Exit → St → Option R) : vexec (network_Cost_C n) n network_Cost_c0 ⟨31, [(0, .ag [.d (D.int .i64 a0_0), .d (D.sl 3 a0_1), .d (D.sl 6 a0_2)]), (1, .d (D.sl 1 a1))], []⟩ k = network_Cost_p13 n a0_0 a0_1 a0_2 a1 (fun w67 w68 => k .ret ⟨31, [(4, .d (D.int .i64 w67)), (5, .d (D.int .i64 w68))], []⟩) := by
  rw [network_Cost_c0_eq]
  unfold network_Cost_p13
  exact (network_Cost_p1_eq n a0_0 a0_1 a0_2 a1 (seqK (network_Cost_C n) n network_Cost_c12 k)).trans (network_Cost_p1_congr n a0_0 a0_1 a0_2 a1 (network_Cost_p12_eq n a1 a0_0 a0_1 a0_2 k))
theorem network_Cost_vfn {R : Type} (n : Nat) (a0_0 : Int) (a0_1 : List (List D)) (a0_2 : List (List D)) (a1 : List (List D)) (K : AV → Option R) : vfn (network_Cost_C n) n Try.f18 [.ag [.d (D.int .i64 a0_0), .d (D.sl 3 a0_1), .d (D.sl 6 a0_2)], .d (D.sl 1 a1)] [] (retF [[0], [0]] K) = network_Cost n a0_0 a0_1 a0_2 a1 (fun r0 r1 => K (.tup [.d (D.int .i64 r0), .d (D.int .i64 r1)])) :=
  (show vfn (network_Cost_C n) n Try.f18 [.ag [.d (D.int .i64 a0_0), .d (D.sl 3 a0_1), .d (D.sl 6 a0_2)], .d (D.sl 1 a1)] [] (retF [[0], [0]] K) = vexec (network_Cost_C n) n network_Cost_c0 ⟨31, [(0, .ag [.d (D.int .i64 a0_0), .d (D.sl 3 a0_1), .d (D.sl 6 a0_2)]), (1, .d (D.sl 1 a1))], []⟩ (retX network_Cost_tt [.tmp 4, .tmp 5] (retF [[0], [0]] K)) from vfn_at (by kernel_rfl) (by kernel_rfl) rfl (by kernel_rfl) rfl (by kernel_rfl) rfl).trans ((network_Cost_p13_eq n a0_0 a0_1 a0_2 a1 (retX network_Cost_tt [.tmp 4, .tmp 5] (retF [[0], [0]] K))).trans (by kernel_rfl))
def network_Cost_K : AV → Option (Int × Int) := fun av => match av with
  | .tup [.d (D.int .i64 r0), .d (D.int .i64 r1)] => some (r0, r1)
  | _ => none
def network_Cost_e (n : Nat) : Entry := fun _ _ g avs _ k => match avs with
  | [c0, c1] => 
    prG c0 fun l0 => (match l0 with
    | [c0_0, c0_1, c0_2] => prI g .i64 c0_0 fun a0_0 => prS g 3 c0_1 fun a0_1 => prS g 6 c0_2 fun a0_2 => prS g 1 c1 fun a1 => 
    gb g (network_Cost n a0_0 a0_1 a0_2 a1 (fun r0 r1 => some (r0, r1))) (0, 0) fun r => k ⟨.tup [.d (D.int .i64 r.1), .d (D.int .i64 r.2)], [], []⟩
    | _ => none)
  | _ => none
theorem network_Cost_ok (n : Nat) : EntryOK Try.prog 18 (network_Cost_e n) := by
  intro R site g avs hl k r h
  unfold network_Cost_e at h
  split at h
  rotate_left
  · cases h
  replace h := prG_some h
  obtain ⟨l0, h, e0⟩ := h
  subst e0
  split at h
  rotate_left
  · cases h
  replace h := prI_some h
  obtain ⟨a0_0, h, le0⟩ := h
  replace h := prS_some h
  obtain ⟨a0_1, h, le1⟩ := h
  replace h := prS_some h
  obtain ⟨a0_2, h, le2⟩ := h
  replace h := prS_some h
  obtain ⟨a1, h, le3⟩ := h
  replace h := gb_some h
  obtain ⟨res, h, hr⟩ := h
  refine ⟨_, h, fun hg => CallOK.conv (avs' := [.ag [.d (D.int .i64 a0_0), .d (D.sl 3 a0_1), .d (D.sl 6 a0_2)], .d (D.sl 1 a1)]) (.cons (.ag (.cons (le0 hg) (.cons (le1 hg) (.cons (le2 hg) (.nil))))) (.cons (le3 hg) (.nil))) (callOK_fix (K := network_Cost_K) (res := res) (network_Cost_VC n) (fn := Try.f18) (n := n) (by kernel_rfl) (by kernel_rfl) (by kernel_rfl) (ss := [[0], [0]]) rfl ?_ ?_)⟩
  · exact (network_Cost_vfn n a0_0 a0_1 a0_2 a1 network_Cost_K).trans (hr hg)
  · intro x hx
    unfold network_Cost_K at hx
    split at hx
    · injection hx with hx; subst hx; rfl
    · cases hx
end Go.Vx
