/- Part of a proof: texts Vpstore Append Vpstore Latest Vplaw41 awake Vpkeep Same railplan api Version Vplaw41 StoreCompact. No conditions of their own. -/
import Derived.Test.YtopjipognhonaaaProg
import Derived.Test.YtopjipognhonaaaJVC
import Derived.Test.YtopjipognhonaaaJFA
import Derived.Test.YtopjipognhonaaaJPA
/-
  store_Append: the interpreter computes the pure function
-/
set_option linter.unusedVariables false
set_option linter.unusedSimpArgs false
set_option maxRecDepth 100000
namespace Go.Vx
open Go.Proofs
noncomputable def store_Append_c0 : Code := bodyOf Try.f22
def store_Append_tt : TT := [(3, ⟨.int .i64, 1, 8, [.int .i64 0], [.int .i64 0], [], none⟩), (9, ⟨.str, 1, 16, [.string ⟨#[]⟩], [.str []], [], none⟩), (23, ⟨.struct, 2, 24, [.int .i64 0, .string ⟨#[]⟩], [.int .i64 0, .str []], [(0, 3), (1, 9)], some [.int .i64, .str]⟩), (24, ⟨.int .i64, 1, 8, [.int .i64 0], [.int .i64 0], [], none⟩), (32, ⟨.sl 23 2, 1, 24, [.slice none 0 0], [.sl 2 []], [], none⟩)]
theorem store_Append_tt_eq : mkTT Try.prog [3, 9, 23, 24, 32] = store_Append_tt := by kernel_rfl
def store_Append_cfg : List (Nat × Cfg) := [(0, ⟨[0, 3], [(3, 3)], [], [], []⟩), (1, ⟨[0, 3, 6, 7], [(3, 3)], [], [], []⟩), (2, ⟨[0, 3, 6, 7, 16], [(3, 3)], [], [], []⟩), (3, ⟨[4, 5], [], [], [], []⟩), (4, ⟨[0, 3, 6, 8, 9], [(3, 3)], [], [], []⟩), (5, ⟨[0, 6, 8, 9, 23], [], [], [], []⟩), (6, ⟨[4, 5], [], [], [], []⟩), (7, ⟨[0, 6, 9, 39], [], [], [], []⟩), (8, ⟨[4, 5], [], [], [], []⟩), (9, ⟨[4, 5], [], [], [], []⟩)]
def store_Append_C (n : Nat) : VC := ⟨specOf [(12, store_Encode_e n), (19, store_Scan_e n)], store_Append_tt, store_Append_cfg⟩
theorem store_Append_ents (n : Nat) : EntsOK Try.prog [(12, store_Encode_e n), (19, store_Scan_e n)] := ⟨store_Encode_ok n, ⟨store_Scan_ok n, trivial⟩⟩
theorem store_Append_VC (n : Nat) : VCOk Try.prog (store_Append_C n) := ⟨specOf_ok (store_Append_ents n), (store_Append_tt_eq ▸ mkTT_ok _ : TOk Try.prog store_Append_tt), by kernel_rfl⟩
theorem store_Append_p1_congr {R : Type} (n : Nat) (a0 : List UInt8) (a1_0 : Int) (a1_1 : List UInt8) {k0 kk0 : (List UInt8) → Int → Option R} (hq0 : ∀ x0 x1, k0 x0 x1 = kk0 x0 x1) : store_Append_p1 n a0 a1_0 a1_1 k0 = store_Append_p1 n a0 a1_0 a1_1 kk0 := by
  obtain rfl : k0 = kk0 := funext fun x0 => funext fun x1 => hq0 x0 x1
  rfl
theorem store_Append_p1_eq {R : Type} (n : Nat) (a0 : List UInt8) (a1_0 : Int) (a1_1 : List UInt8) (k : Exit → St → Option R) : vexec (store_Append_C n) n store_Append_c0 ⟨55, [(0, .d (D.str a0)), (1, .ag [.d (D.int .i64 a1_0), .d (D.str a1_1)])], []⟩ k = store_Append_p1 n a0 a1_0 a1_1 (fun z8 z9 => k .ret ⟨55, [(4, .d (D.str z8)), (5, .d (D.int .i64 z9))], []⟩) := by kernel_rfl
theorem store_Append_vfn {R : Type} (n : Nat) (a0 : List UInt8) (a1_0 : Int) (a1_1 : List UInt8) (K : AV → Option R) : vfn (store_Append_C n) n Try.f22 [.d (D.str a0), .ag [.d (D.int .i64 a1_0), .d (D.str a1_1)]] [] (retF [[0], [0]] K) = store_Append n a0 a1_0 a1_1 (fun r0 r1 => K (.tup [.d (D.str r0), .d (D.int .i64 r1)])) :=
  (show vfn (store_Append_C n) n Try.f22 [.d (D.str a0), .ag [.d (D.int .i64 a1_0), .d (D.str a1_1)]] [] (retF [[0], [0]] K) = vexec (store_Append_C n) n store_Append_c0 ⟨55, [(0, .d (D.str a0)), (1, .ag [.d (D.int .i64 a1_0), .d (D.str a1_1)])], []⟩ (retX store_Append_tt [.tmp 4, .tmp 5] (retF [[0], [0]] K)) from vfn_at (by kernel_rfl) (by kernel_rfl) rfl (by kernel_rfl) rfl (by kernel_rfl) rfl).trans ((store_Append_p1_eq n a0 a1_0 a1_1 (retX store_Append_tt [.tmp 4, .tmp 5] (retF [[0], [0]] K))).trans (by kernel_rfl))
def store_Append_K : AV → Option ((List UInt8) × Int) := fun av => match av with
  | .tup [.d (D.str r0), .d (D.int .i64 r1)] => some (r0, r1)
  | _ => none
def store_Append_e (n : Nat) : Entry := fun _ _ g avs _ k => match avs with
  | [c0, c1] => prT g c0 fun a0 => 
    prG c1 fun l1 => (match l1 with
    | [c1_0, c1_1] => prI g .i64 c1_0 fun a1_0 => prT g c1_1 fun a1_1 => 
    gb g (store_Append n a0 a1_0 a1_1 (fun r0 r1 => some (r0, r1))) ([], 0) fun r => k ⟨.tup [.d (D.str r.1), .d (D.int .i64 r.2)], [], []⟩
    | _ => none)
  | _ => none
theorem store_Append_ok (n : Nat) : EntryOK Try.prog 22 (store_Append_e n) := by
  intro R site g avs hl k r h
  unfold store_Append_e at h
  split at h
  rotate_left
  · cases h
  replace h := prT_some h
  obtain ⟨a0, h, le0⟩ := h
  replace h := prG_some h
  obtain ⟨l1, h, e1⟩ := h
  subst e1
  split at h
  rotate_left
  · cases h
  replace h := prI_some h
  obtain ⟨a1_0, h, le1⟩ := h
  replace h := prT_some h
  obtain ⟨a1_1, h, le2⟩ := h
  replace h := gb_some h
  obtain ⟨res, h, hr⟩ := h
  refine ⟨_, h, fun hg => CallOK.conv (avs' := [.d (D.str a0), .ag [.d (D.int .i64 a1_0), .d (D.str a1_1)]]) (.cons (le0 hg) (.cons (.ag (.cons (le1 hg) (.cons (le2 hg) (.nil)))) (.nil))) (callOK_fix (K := store_Append_K) (res := res) (store_Append_VC n) (fn := Try.f22) (n := n) (by kernel_rfl) (by kernel_rfl) (by kernel_rfl) (ss := [[0], [0]]) rfl ?_ ?_)⟩
  · exact (store_Append_vfn n a0 a1_0 a1_1 store_Append_K).trans (hr hg)
  · intro x hx
    unfold store_Append_K at hx
    split at hx
    · injection hx with hx; subst hx; rfl
    · cases hx
end Go.Vx
/-
  store_Latest: the interpreter computes the pure function
-/
set_option linter.unusedVariables false
set_option linter.unusedSimpArgs false
set_option maxRecDepth 100000
namespace Go.Vx
open Go.Proofs
noncomputable def store_Latest_c0 : Code := bodyOf Try.f26
def store_Latest_tt : TT := [(3, ⟨.int .i64, 1, 8, [.int .i64 0], [.int .i64 0], [], none⟩), (23, ⟨.struct, 2, 24, [.int .i64 0, .string ⟨#[]⟩], [.int .i64 0, .str []], [(0, 3), (1, 9)], some [.int .i64, .str]⟩), (32, ⟨.sl 23 2, 1, 24, [.slice none 0 0], [.sl 2 []], [], none⟩)]
theorem store_Latest_tt_eq : mkTT Try.prog [3, 23, 32] = store_Latest_tt := by kernel_rfl
def store_Latest_cfg : List (Nat × Cfg) := [(0, ⟨[0, 2], [(2, 2)], [], [], []⟩), (1, ⟨[2, 4], [(2, 2)], [], [], []⟩), (2, ⟨[2, 4, 13], [(2, 2)], [], [], []⟩), (3, ⟨[2, 3], [(2, 2)], [], [], []⟩), (4, ⟨[2, 3], [(2, 2)], [], [], []⟩)]
def store_Latest_C (n : Nat) : VC := ⟨specOf [(19, store_Scan_e n)], store_Latest_tt, store_Latest_cfg⟩
theorem store_Latest_ents (n : Nat) : EntsOK Try.prog [(19, store_Scan_e n)] := ⟨store_Scan_ok n, trivial⟩
theorem store_Latest_VC (n : Nat) : VCOk Try.prog (store_Latest_C n) := ⟨specOf_ok (store_Latest_ents n), (store_Latest_tt_eq ▸ mkTT_ok _ : TOk Try.prog store_Latest_tt), by kernel_rfl⟩
theorem store_Latest_p1_congr {R : Type} (n : Nat) (a0 : List UInt8) {k0 kk0 : Option R} {k1 kk1 : D → D → Option R} (hq0 : k0 = kk0) (hq1 : ∀ x0 x1, k1 x0 x1 = kk1 x0 x1) : store_Latest_p1 n a0 k0 k1 = store_Latest_p1 n a0 kk0 kk1 := by
  obtain rfl : k0 = kk0 := hq0
  obtain rfl : k1 = kk1 := funext fun x0 => funext fun x1 => hq1 x0 x1
  rfl
theorem store_Latest_p1_eq {R : Type} (n : Nat) (a0 : List UInt8) (k : Exit → St → Option R) : vexec (store_Latest_C n) n store_Latest_c0 ⟨21, [(0, .d (D.str a0))], []⟩ k = store_Latest_p1 n a0 (k .ret ⟨21, [(2, .ptr 2 0), (3, .d (D.int .i64 (6 : Int)))], [(2, .box [.d (D.int .i64 (0 : Int)), .d (D.str [])])]⟩) (fun c3 c4 => k .ret ⟨21, [(2, .ptr 2 0), (3, .d (D.int .i64 (0 : Int)))], [(2, .box [.d c3, .d c4])]⟩) := by kernel_rfl
theorem store_Latest_vfn {R : Type} (n : Nat) (a0 : List UInt8) (K : AV → Option R) : vfn (store_Latest_C n) n Try.f26 [.d (D.str a0)] [] (retF [[0, 0], [0]] K) = store_Latest n a0 (fun r0 r1 r2 => K (.tup [.ag [.d r0, .d r1], .d (D.int .i64 r2)])) :=
  (show vfn (store_Latest_C n) n Try.f26 [.d (D.str a0)] [] (retF [[0, 0], [0]] K) = vexec (store_Latest_C n) n store_Latest_c0 ⟨21, [(0, .d (D.str a0))], []⟩ (retX store_Latest_tt [.cell 2 23, .tmp 3] (retF [[0, 0], [0]] K)) from vfn_at (by kernel_rfl) (by kernel_rfl) rfl (by kernel_rfl) rfl (by kernel_rfl) rfl).trans ((store_Latest_p1_eq n a0 (retX store_Latest_tt [.cell 2 23, .tmp 3] (retF [[0, 0], [0]] K))).trans (by kernel_rfl))
def store_Latest_K : AV → Option (D × D × Int) := fun av => match av with
  | .tup [.ag [.d r0, .d r1], .d (D.int .i64 r2)] => some (r0, r1, r2)
  | _ => none
def store_Latest_e (n : Nat) : Entry := fun _ _ g avs _ k => match avs with
  | [c0] => prT g c0 fun a0 => 
    gb g (store_Latest n a0 (fun r0 r1 r2 => some (r0, r1, r2))) ((.bool false), (.bool false), 0) fun r => k ⟨.tup [.ag [.d r.1, .d r.2.1], .d (D.int .i64 r.2.2)], [], []⟩
  | _ => none
theorem store_Latest_ok (n : Nat) : EntryOK Try.prog 26 (store_Latest_e n) := by
  intro R site g avs hl k r h
  unfold store_Latest_e at h
  split at h
  rotate_left
  · cases h
  replace h := prT_some h
  obtain ⟨a0, h, le0⟩ := h
  replace h := gb_some h
  obtain ⟨res, h, hr⟩ := h
  refine ⟨_, h, fun hg => CallOK.conv (avs' := [.d (D.str a0)]) (.cons (le0 hg) (.nil)) (callOK_fix (K := store_Latest_K) (res := res) (store_Latest_VC n) (fn := Try.f26) (n := n) (by kernel_rfl) (by kernel_rfl) (by kernel_rfl) (ss := [[0, 0], [0]]) rfl ?_ ?_)⟩
  · exact (store_Latest_vfn n a0 store_Latest_K).trans (hr hg)
  · intro x hx
    unfold store_Latest_K at hx
    split at hx
    · injection hx with hx; subst hx; rfl
    · cases hx
end Go.Vx
/-
  law41_awake: the interpreter computes the pure function
-/
set_option linter.unusedVariables false
set_option linter.unusedSimpArgs false
set_option maxRecDepth 100000
namespace Go.Vx
open Go.Proofs
noncomputable def law41_awake_c0 : Code := bodyOf Try.f15
def law41_awake_tt : TT := [(3, ⟨.int .i64, 1, 8, [.int .i64 0], [.int .i64 0], [], none⟩), (9, ⟨.str, 1, 16, [.string ⟨#[]⟩], [.str []], [], none⟩), (23, ⟨.struct, 2, 24, [.int .i64 0, .string ⟨#[]⟩], [.int .i64 0, .str []], [(0, 3), (1, 9)], some [.int .i64, .str]⟩), (24, ⟨.int .i64, 1, 8, [.int .i64 0], [.int .i64 0], [], none⟩)]
theorem law41_awake_tt_eq : mkTT Try.prog [3, 9, 23, 24] = law41_awake_tt := by kernel_rfl
def law41_awake_cfg : List (Nat × Cfg) := [(0, ⟨[], [], [], [], []⟩), (1, ⟨[1, 2], [], [], [], []⟩), (2, ⟨[1, 2, 3, 4], [], [], [], []⟩), (3, ⟨[1, 2, 3, 4, 5, 6], [], [], [], []⟩), (4, ⟨[1, 2, 3, 4, 5, 6, 7, 8], [(7, 7)], [], [], []⟩), (5, ⟨[1, 2, 3, 4, 6, 7, 8, 10], [(7, 7)], [], [], []⟩), (6, ⟨[0], [], [], [], []⟩)]
def law41_awake_C (n : Nat) : VC := ⟨specOf [(12, store_Encode_e n), (22, store_Append_e n), (26, store_Latest_e n)], law41_awake_tt, law41_awake_cfg⟩
theorem law41_awake_ents (n : Nat) : EntsOK Try.prog [(12, store_Encode_e n), (22, store_Append_e n), (26, store_Latest_e n)] := ⟨store_Encode_ok n, ⟨store_Append_ok n, ⟨store_Latest_ok n, trivial⟩⟩⟩
theorem law41_awake_VC (n : Nat) : VCOk Try.prog (law41_awake_C n) := ⟨specOf_ok (law41_awake_ents n), (law41_awake_tt_eq ▸ mkTT_ok _ : TOk Try.prog law41_awake_tt), by kernel_rfl⟩
theorem law41_awake_p1_congr {R : Type} (n : Nat)  {k0 kk0 : Bool → Option R} (hq0 : ∀ x0, k0 x0 = kk0 x0) : law41_awake_p1 n  k0 = law41_awake_p1 n  kk0 := by
  obtain rfl : k0 = kk0 := funext fun x0 => hq0 x0
  rfl
theorem law41_awake_p1_eq {R : Type} (n : Nat)  (k : Exit → St → Option R) : vexec (law41_awake_C n) n law41_awake_c0 ⟨76, [], []⟩ k = law41_awake_p1 n  (fun z9 => k .ret ⟨76, [(0, .d (D.bool z9))], []⟩) := by kernel_rfl
theorem law41_awake_vfn {R : Type} (n : Nat)  (K : AV → Option R) : vfn (law41_awake_C n) n Try.f15 [] [] (retF [[0]] K) = law41_awake n  (fun r0 => K (.d (D.bool r0))) :=
  (show vfn (law41_awake_C n) n Try.f15 [] [] (retF [[0]] K) = vexec (law41_awake_C n) n law41_awake_c0 ⟨76, [], []⟩ (retX law41_awake_tt [.tmp 0] (retF [[0]] K)) from vfn_at (by kernel_rfl) (by kernel_rfl) rfl (by kernel_rfl) rfl (by kernel_rfl) rfl).trans ((law41_awake_p1_eq n  (retX law41_awake_tt [.tmp 0] (retF [[0]] K))).trans (by kernel_rfl))
def law41_awake_K : AV → Option (Bool) := fun av => match av with
  | .d (D.bool r0) => some r0
  | _ => none
def law41_awake_e (n : Nat) : Entry := fun _ _ g avs _ k => match avs with
  | [] => 
    gb g (law41_awake n  some) false fun r => k ⟨.d (D.bool r), [], []⟩
  | _ => none
theorem law41_awake_ok (n : Nat) : EntryOK Try.prog 15 (law41_awake_e n) := by
  intro R site g avs hl k r h
  unfold law41_awake_e at h
  split at h
  rotate_left
  · cases h
  replace h := gb_some h
  obtain ⟨res, h, hr⟩ := h
  refine ⟨_, h, fun hg => CallOK.conv (avs' := []) (.nil) (callOK_fix (K := law41_awake_K) (res := res) (law41_awake_VC n) (fn := Try.f15) (n := n) (by kernel_rfl) (by kernel_rfl) (by kernel_rfl) (ss := [[0]]) rfl ?_ ?_)⟩
  · exact (law41_awake_vfn n  law41_awake_K).trans (hr hg)
  · intro x hx
    unfold law41_awake_K at hx
    split at hx
    · injection hx with hx; subst hx; rfl
    · cases hx
end Go.Vx
/-
  keep_Same_railplan_api_Version: the interpreter computes the pure function
-/
set_option linter.unusedVariables false
set_option linter.unusedSimpArgs false
set_option maxRecDepth 100000
namespace Go.Vx
open Go.Proofs
noncomputable def keep_Same_railplan_api_Version_c0 : Code := bodyOf Try.f21
noncomputable def keep_Same_railplan_api_Version_c1 : Code := cL (bodyOf Try.f21)
noncomputable def keep_Same_railplan_api_Version_c2 : Code := cL (cR (bodyOf Try.f21))
noncomputable def keep_Same_railplan_api_Version_c3 : Code := cL (cL (cR (cR (bodyOf Try.f21))))
noncomputable def keep_Same_railplan_api_Version_c4 : Code := cB (cB (cR (cL (cR (cR (bodyOf Try.f21))))))
noncomputable def keep_Same_railplan_api_Version_c5 : Code := cB (cR (cL (cR (cR (bodyOf Try.f21)))))
noncomputable def keep_Same_railplan_api_Version_c6 : Code := cR (cL (cR (cR (bodyOf Try.f21))))
noncomputable def keep_Same_railplan_api_Version_c7 : Code := cL (cR (cR (bodyOf Try.f21)))
noncomputable def keep_Same_railplan_api_Version_c8 : Code := cR (cR (cR (bodyOf Try.f21)))
noncomputable def keep_Same_railplan_api_Version_c9 : Code := cR (cR (bodyOf Try.f21))
noncomputable def keep_Same_railplan_api_Version_c10 : Code := cR (bodyOf Try.f21)
theorem keep_Same_railplan_api_Version_c5_eq : keep_Same_railplan_api_Version_c5 = .loop keep_Same_railplan_api_Version_c4 := by kernel_rfl
theorem keep_Same_railplan_api_Version_c6_eq : keep_Same_railplan_api_Version_c6 = .block 0 keep_Same_railplan_api_Version_c5 := by kernel_rfl
theorem keep_Same_railplan_api_Version_c7_eq : keep_Same_railplan_api_Version_c7 = .seq keep_Same_railplan_api_Version_c3 keep_Same_railplan_api_Version_c6 := by kernel_rfl
theorem keep_Same_railplan_api_Version_c9_eq : keep_Same_railplan_api_Version_c9 = .seq keep_Same_railplan_api_Version_c7 keep_Same_railplan_api_Version_c8 := by kernel_rfl
theorem keep_Same_railplan_api_Version_c10_eq : keep_Same_railplan_api_Version_c10 = .seq keep_Same_railplan_api_Version_c2 keep_Same_railplan_api_Version_c9 := by kernel_rfl
theorem keep_Same_railplan_api_Version_c0_eq : keep_Same_railplan_api_Version_c0 = .seq keep_Same_railplan_api_Version_c1 keep_Same_railplan_api_Version_c10 := by kernel_rfl
def keep_Same_railplan_api_Version_tt : TT := [(3, ⟨.int .i64, 1, 8, [.int .i64 0], [.int .i64 0], [], none⟩), (23, ⟨.struct, 2, 24, [.int .i64 0, .string ⟨#[]⟩], [.int .i64 0, .str []], [(0, 3), (1, 9)], some [.int .i64, .str]⟩), (32, ⟨.sl 23 2, 1, 24, [.slice none 0 0], [.sl 2 []], [], none⟩)]
theorem keep_Same_railplan_api_Version_tt_eq : mkTT Try.prog [3, 23, 32] = keep_Same_railplan_api_Version_tt := by kernel_rfl
def keep_Same_railplan_api_Version_cfg : List (Nat × Cfg) := [(0, ⟨[0, 1], [], [], [], []⟩), (1, ⟨[0, 1, 10], [], [], [], []⟩), (2, ⟨[4], [], [], [], []⟩), (3, ⟨[0, 1, 12, 13], [], [], [], []⟩), (4, ⟨[0, 1, 12, 13, 14], [], [], [], []⟩), (5, ⟨[0, 1, 5, 12, 13], [], [], [], []⟩), (6, ⟨[0, 1, 12, 13, 24], [], [], [], []⟩), (7, ⟨[4], [], [], [], []⟩), (8, ⟨[0, 1, 12, 13], [], [], [], []⟩), (9, ⟨[4], [], [], [], []⟩)]
def keep_Same_railplan_api_Version_C (n : Nat) : VC := ⟨specOf [], keep_Same_railplan_api_Version_tt, keep_Same_railplan_api_Version_cfg⟩
theorem keep_Same_railplan_api_Version_ents (n : Nat) : EntsOK Try.prog [] := trivial
theorem keep_Same_railplan_api_Version_VC (n : Nat) : VCOk Try.prog (keep_Same_railplan_api_Version_C n) := ⟨specOf_ok (keep_Same_railplan_api_Version_ents n), (keep_Same_railplan_api_Version_tt_eq ▸ mkTT_ok _ : TOk Try.prog keep_Same_railplan_api_Version_tt), by kernel_rfl⟩
theorem keep_Same_railplan_api_Version_p1_congr {R : Type} (n : Nat) (a0 : List (List D)) (a1 : List (List D)) {k0 kk0 : Option R} (hq0 : k0 = kk0) : keep_Same_railplan_api_Version_p1 n a0 a1 k0 = keep_Same_railplan_api_Version_p1 n a0 a1 kk0 := by
  obtain rfl : k0 = kk0 := hq0
  rfl
theorem keep_Same_railplan_api_Version_p2_congr {R : Type} (n : Nat) (a0 : List (List D)) (a1 : List (List D)) {k0 kk0 : Option R} {k1 kk1 : Bool → Option R} (hq0 : k0 = kk0) (hq1 : ∀ x0, k1 x0 = kk1 x0) : keep_Same_railplan_api_Version_p2 n a0 a1 k0 k1 = keep_Same_railplan_api_Version_p2 n a0 a1 kk0 kk1 := by
  obtain rfl : k0 = kk0 := hq0
  obtain rfl : k1 = kk1 := funext fun x0 => hq1 x0
  rfl
theorem keep_Same_railplan_api_Version_p3_congr {R : Type} (n : Nat) (a0 : List (List D)) (a1 : List (List D)) (w2 : Bool) {k0 kk0 : Int → Option R} (hq0 : ∀ x0, k0 x0 = kk0 x0) : keep_Same_railplan_api_Version_p3 n a0 a1 w2 k0 = keep_Same_railplan_api_Version_p3 n a0 a1 w2 kk0 := by
  obtain rfl : k0 = kk0 := funext fun x0 => hq0 x0
  rfl
theorem keep_Same_railplan_api_Version_p4_congr {R : Type} (n : Nat) (a0 : List (List D)) (a1 : List (List D)) (w4 : Int) (h8 : Int) {k0 kk0 : Option R} {k1 kk1 : Int → Option R} {k2 kk2 : Bool → Option R} (hq0 : k0 = kk0) (hq1 : ∀ x0, k1 x0 = kk1 x0) (hq2 : ∀ x0, k2 x0 = kk2 x0) : keep_Same_railplan_api_Version_p4 n a0 a1 w4 h8 k0 k1 k2 = keep_Same_railplan_api_Version_p4 n a0 a1 w4 h8 kk0 kk1 kk2 := by
  obtain rfl : k0 = kk0 := hq0
  obtain rfl : k1 = kk1 := funext fun x0 => hq1 x0
  obtain rfl : k2 = kk2 := funext fun x0 => hq2 x0
  rfl
theorem keep_Same_railplan_api_Version_p5_congr {R : Type} (n : Nat) (a0 : List (List D)) (a1 : List (List D)) (w4 : Int) {k0 kk0 : Option R} {k1 kk1 : Int → Bool → Option R} (hq0 : k0 = kk0) (hq1 : ∀ x0 x1, k1 x0 x1 = kk1 x0 x1) : keep_Same_railplan_api_Version_p5 n a0 a1 w4 k0 k1 = keep_Same_railplan_api_Version_p5 n a0 a1 w4 kk0 kk1 := by
  obtain rfl : k0 = kk0 := hq0
  obtain rfl : k1 = kk1 := funext fun x0 => funext fun x1 => hq1 x0 x1
  rfl
theorem keep_Same_railplan_api_Version_p6_congr {R : Type} (n : Nat) (a0 : List (List D)) (a1 : List (List D)) (w4 : Int) {k0 kk0 : Option R} {k1 kk1 : Int → Bool → Option R} (hq0 : k0 = kk0) (hq1 : ∀ x0 x1, k1 x0 x1 = kk1 x0 x1) : keep_Same_railplan_api_Version_p6 n a0 a1 w4 k0 k1 = keep_Same_railplan_api_Version_p6 n a0 a1 w4 kk0 kk1 := by
  obtain rfl : k0 = kk0 := hq0
  obtain rfl : k1 = kk1 := funext fun x0 => funext fun x1 => hq1 x0 x1
  rfl
theorem keep_Same_railplan_api_Version_p7_congr {R : Type} (n : Nat) (a0 : List (List D)) (a1 : List (List D)) (w2 : Bool) {k0 kk0 : Option R} {k1 kk1 : Int → Int → Bool → Option R} (hq0 : k0 = kk0) (hq1 : ∀ x0 x1 x2, k1 x0 x1 x2 = kk1 x0 x1 x2) : keep_Same_railplan_api_Version_p7 n a0 a1 w2 k0 k1 = keep_Same_railplan_api_Version_p7 n a0 a1 w2 kk0 kk1 := by
  obtain rfl : k0 = kk0 := hq0
  obtain rfl : k1 = kk1 := funext fun x0 => funext fun x1 => funext fun x2 => hq1 x0 x1 x2
  rfl
theorem keep_Same_railplan_api_Version_p8_congr {R : Type} (n : Nat) (a0 : List (List D)) (a1 : List (List D)) (w39 : Int) (w40 : Int) (w41 : Bool) {k0 kk0 : Option R} (hq0 : k0 = kk0) : keep_Same_railplan_api_Version_p8 n a0 a1 w39 w40 w41 k0 = keep_Same_railplan_api_Version_p8 n a0 a1 w39 w40 w41 kk0 := by
  obtain rfl : k0 = kk0 := hq0
  rfl
theorem keep_Same_railplan_api_Version_p9_congr {R : Type} (n : Nat) (a0 : List (List D)) (a1 : List (List D)) (w2 : Bool) {k0 kk0 : Bool → Option R} (hq0 : ∀ x0, k0 x0 = kk0 x0) : keep_Same_railplan_api_Version_p9 n a0 a1 w2 k0 = keep_Same_railplan_api_Version_p9 n a0 a1 w2 kk0 := by
  obtain rfl : k0 = kk0 := funext fun x0 => hq0 x0
  rfl
theorem keep_Same_railplan_api_Version_p10_congr {R : Type} (n : Nat) (a0 : List (List D)) (a1 : List (List D)) {k0 kk0 : Bool → Option R} (hq0 : ∀ x0, k0 x0 = kk0 x0) : keep_Same_railplan_api_Version_p10 n a0 a1 k0 = keep_Same_railplan_api_Version_p10 n a0 a1 kk0 := by
  obtain rfl : k0 = kk0 := funext fun x0 => hq0 x0
  rfl
theorem keep_Same_railplan_api_Version_p11_congr {R : Type} (n : Nat) (a0 : List (List D)) (a1 : List (List D)) {k0 kk0 : Bool → Option R} (hq0 : ∀ x0, k0 x0 = kk0 x0) : keep_Same_railplan_api_Version_p11 n a0 a1 k0 = keep_Same_railplan_api_Version_p11 n a0 a1 kk0 := by
  obtain rfl : k0 = kk0 := funext fun x0 => hq0 x0
  rfl
theorem keep_Same_railplan_api_Version_p1_eq {R : Type} (n : Nat) (a0 : List (List D)) (a1 : List (List D)) (k : Exit → St → Option R) : vexec (keep_Same_railplan_api_Version_C n) n keep_Same_railplan_api_Version_c1 ⟨26, [(0, .d (D.sl 2 a0)), (1, .d (D.sl 2 a1))], []⟩ k = keep_Same_railplan_api_Version_p1 n a0 a1 (k .normal ⟨26, [(0, .d (D.sl 2 a0)), (1, .d (D.sl 2 a1))], []⟩) := by kernel_rfl
theorem keep_Same_railplan_api_Version_p2_eq {R : Type} (n : Nat) (a0 : List (List D)) (a1 : List (List D)) (k : Exit → St → Option R) : vexec (keep_Same_railplan_api_Version_C n) n keep_Same_railplan_api_Version_c2 ⟨26, [(0, .d (D.sl 2 a0)), (1, .d (D.sl 2 a1))], []⟩ k = keep_Same_railplan_api_Version_p2 n a0 a1 (k .ret ⟨26, [(4, .d (D.bool false))], []⟩) (fun z1 => k .normal ⟨26, [(0, .d (D.sl 2 a0)), (1, .d (D.sl 2 a1)), (10, .d (D.bool z1))], []⟩) := by kernel_rfl
theorem keep_Same_railplan_api_Version_p3_eq {R : Type} (n : Nat) (a0 : List (List D)) (a1 : List (List D)) (w2 : Bool) (k : Exit → St → Option R) : vexec (keep_Same_railplan_api_Version_C n) n keep_Same_railplan_api_Version_c3 ⟨26, [(0, .d (D.sl 2 a0)), (1, .d (D.sl 2 a1)), (10, .d (D.bool w2))], []⟩ k = keep_Same_railplan_api_Version_p3 n a0 a1 w2 (fun z3 => k .normal ⟨26, [(0, .d (D.sl 2 a0)), (1, .d (D.sl 2 a1)), (12, .d (D.int .i64 z3)), (13, .d (D.int .i64 (0 : Int)))], []⟩) := by kernel_rfl
theorem keep_Same_railplan_api_Version_p4_eq {R : Type} (n : Nat) (a0 : List (List D)) (a1 : List (List D)) (w4 : Int) (h8 : Int) (k : Exit → St → Option R) : vexec (keep_Same_railplan_api_Version_C n) n keep_Same_railplan_api_Version_c4 ⟨26, [(0, .d (D.sl 2 a0)), (1, .d (D.sl 2 a1)), (12, .d (D.int .i64 w4)), (13, .d (D.int .i64 h8))], []⟩ k = keep_Same_railplan_api_Version_p4 n a0 a1 w4 h8 (k .ret ⟨26, [(4, .d (D.bool false))], []⟩) (fun z31 => k .normal ⟨26, [(0, .d (D.sl 2 a0)), (1, .d (D.sl 2 a1)), (12, .d (D.int .i64 w4)), (13, .d (D.int .i64 z31))], []⟩) (fun z32 => k (.exit 0) ⟨26, [(0, .d (D.sl 2 a0)), (1, .d (D.sl 2 a1)), (12, .d (D.int .i64 w4)), (13, .d (D.int .i64 h8)), (14, .d (D.bool z32))], []⟩) := by kernel_rfl
theorem keep_Same_railplan_api_Version_r5_eq {R : Type} (n : Nat) (a0 : List (List D)) (a1 : List (List D)) (w4 : Int) (k : Exit → St → Option R) : ∀ (m : Nat) (h8 : Int), loopN (vexec (keep_Same_railplan_api_Version_C n) n keep_Same_railplan_api_Version_c4) m ⟨26, [(0, .d (D.sl 2 a0)), (1, .d (D.sl 2 a1)), (12, .d (D.int .i64 w4)), (13, .d (D.int .i64 h8))], []⟩ k = keep_Same_railplan_api_Version_r5 n a0 a1 w4 (k .ret ⟨26, [(4, .d (D.bool false))], []⟩) (fun h8 w34 => k (.exit 0) ⟨26, [(0, .d (D.sl 2 a0)), (1, .d (D.sl 2 a1)), (12, .d (D.int .i64 w4)), (13, .d (D.int .i64 h8)), (14, .d (D.bool w34))], []⟩) m h8
  | 0, _ => rfl
  | m + 1, h8 => (keep_Same_railplan_api_Version_p4_eq n a0 a1 w4 h8 (loopK (vexec (keep_Same_railplan_api_Version_C n) n keep_Same_railplan_api_Version_c4) m k)).trans (keep_Same_railplan_api_Version_p4_congr n a0 a1 w4 h8 (rfl) (fun w33 => keep_Same_railplan_api_Version_r5_eq n a0 a1 w4 k m w33) (fun w34 => rfl))
theorem keep_Same_railplan_api_Version_p5_eq {R : Type} (n : Nat) (a0 : List (List D)) (a1 : List (List D)) (w4 : Int) (k : Exit → St → Option R) : vexec (keep_Same_railplan_api_Version_C n) n keep_Same_railplan_api_Version_c5 ⟨26, [(0, .d (D.sl 2 a0)), (1, .d (D.sl 2 a1)), (12, .d (D.int .i64 w4)), (13, .d (D.int .i64 (0 : Int)))], []⟩ k = keep_Same_railplan_api_Version_p5 n a0 a1 w4 (k .ret ⟨26, [(4, .d (D.bool false))], []⟩) (fun h8 w34 => k (.exit 0) ⟨26, [(0, .d (D.sl 2 a0)), (1, .d (D.sl 2 a1)), (12, .d (D.int .i64 w4)), (13, .d (D.int .i64 h8)), (14, .d (D.bool w34))], []⟩) := by
  rw [keep_Same_railplan_api_Version_c5_eq]
  exact keep_Same_railplan_api_Version_r5_eq n a0 a1 w4 k n (0 : Int)
theorem keep_Same_railplan_api_Version_p6_eq {R : Type} (n : Nat) (a0 : List (List D)) (a1 : List (List D)) (w4 : Int) (k : Exit → St → Option R) : vexec (keep_Same_railplan_api_Version_C n) n keep_Same_railplan_api_Version_c6 ⟨26, [(0, .d (D.sl 2 a0)), (1, .d (D.sl 2 a1)), (12, .d (D.int .i64 w4)), (13, .d (D.int .i64 (0 : Int)))], []⟩ k = keep_Same_railplan_api_Version_p6 n a0 a1 w4 (k .ret ⟨26, [(4, .d (D.bool false))], []⟩) (fun w35 w36 => k .normal ⟨26, [(0, .d (D.sl 2 a0)), (1, .d (D.sl 2 a1)), (12, .d (D.int .i64 w4)), (13, .d (D.int .i64 w35)), (14, .d (D.bool w36))], []⟩) := by
  rw [keep_Same_railplan_api_Version_c6_eq]
  unfold keep_Same_railplan_api_Version_p6
  exact (keep_Same_railplan_api_Version_p5_eq n a0 a1 w4 (blockK 0 k)).trans (keep_Same_railplan_api_Version_p5_congr n a0 a1 w4 (rfl) (fun w35 w36 => rfl))
theorem keep_Same_railplan_api_Version_p7_eq {R : Type} (n : Nat) (a0 : List (List D)) (a1 : List (List D)) (w2 : Bool) (k : Exit → St → Option R) : vexec (keep_Same_railplan_api_Version_C n) n keep_Same_railplan_api_Version_c7 ⟨26, [(0, .d (D.sl 2 a0)), (1, .d (D.sl 2 a1)), (10, .d (D.bool w2))], []⟩ k = keep_Same_railplan_api_Version_p7 n a0 a1 w2 (k .ret ⟨26, [(4, .d (D.bool false))], []⟩) (fun w4 w37 w38 => k .normal ⟨26, [(0, .d (D.sl 2 a0)), (1, .d (D.sl 2 a1)), (12, .d (D.int .i64 w4)), (13, .d (D.int .i64 w37)), (14, .d (D.bool w38))], []⟩) := by
  rw [keep_Same_railplan_api_Version_c7_eq]
  unfold keep_Same_railplan_api_Version_p7
  exact (keep_Same_railplan_api_Version_p3_eq n a0 a1 w2 (seqK (keep_Same_railplan_api_Version_C n) n keep_Same_railplan_api_Version_c6 k)).trans (keep_Same_railplan_api_Version_p3_congr n a0 a1 w2 (fun w4 => keep_Same_railplan_api_Version_p6_eq n a0 a1 w4 k))
theorem keep_Same_railplan_api_Version_p8_eq {R : Type} (n : Nat) (a0 : List (List D)) (a1 : List (List D)) (w39 : Int) (w40 : Int) (w41 : Bool) (k : Exit → St → Option R) : vexec (keep_Same_railplan_api_Version_C n) n keep_Same_railplan_api_Version_c8 ⟨26, [(0, .d (D.sl 2 a0)), (1, .d (D.sl 2 a1)), (12, .d (D.int .i64 w39)), (13, .d (D.int .i64 w40)), (14, .d (D.bool w41))], []⟩ k = keep_Same_railplan_api_Version_p8 n a0 a1 w39 w40 w41 (k .ret ⟨26, [(4, .d (D.bool true))], []⟩) := by kernel_rfl
theorem keep_Same_railplan_api_Version_p9_eq {R : Type} (n : Nat) (a0 : List (List D)) (a1 : List (List D)) (w2 : Bool) (k : Exit → St → Option R) : vexec (keep_Same_railplan_api_Version_C n) n keep_Same_railplan_api_Version_c9 ⟨26, [(0, .d (D.sl 2 a0)), (1, .d (D.sl 2 a1)), (10, .d (D.bool w2))], []⟩ k = keep_Same_railplan_api_Version_p9 n a0 a1 w2 (fun z42 => k .ret ⟨26, [(4, .d (D.bool z42))], []⟩) := by
  rw [keep_Same_railplan_api_Version_c9_eq]
  unfold keep_Same_railplan_api_Version_p9
  exact (keep_Same_railplan_api_Version_p7_eq n a0 a1 w2 (seqK (keep_Same_railplan_api_Version_C n) n keep_Same_railplan_api_Version_c8 k)).trans (keep_Same_railplan_api_Version_p7_congr n a0 a1 w2 (rfl) (fun w39 w40 w41 => keep_Same_railplan_api_Version_p8_eq n a0 a1 w39 w40 w41 k))
theorem keep_Same_railplan_api_Version_p10_eq {R : Type} (n : Nat) (a0 : List (List D)) (a1 : List (List D)) (k : Exit → St → Option R) : vexec (keep_Same_railplan_api_Version_C n) n keep_Same_railplan_api_Version_c10 ⟨26, [(0, .d (D.sl 2 a0)), (1, .d (D.sl 2 a1))], []⟩ k = keep_Same_railplan_api_Version_p10 n a0 a1 (fun z44 => k .ret ⟨26, [(4, .d (D.bool z44))], []⟩) := by
  rw [keep_Same_railplan_api_Version_c10_eq]
  unfold keep_Same_railplan_api_Version_p10
  exact (keep_Same_railplan_api_Version_p2_eq n a0 a1 (seqK (keep_Same_railplan_api_Version_C n) n keep_Same_railplan_api_Version_c9 k)).trans (keep_Same_railplan_api_Version_p2_congr n a0 a1 (rfl) (fun w2 => keep_Same_railplan_api_Version_p9_eq n a0 a1 w2 k))
theorem keep_Same_railplan_api_Version_p11_eq {R : Type} (n : Nat) (a0 : List (List D)) (a1 : List (List D)) (k : Exit → St → Option R) : vexec (keep_Same_railplan_api_Version_C n) n keep_Same_railplan_api_Version_c0 ⟨26, [(0, .d (D.sl 2 a0)), (1, .d (D.sl 2 a1))], []⟩ k = keep_Same_railplan_api_Version_p11 n a0 a1 (fun w45 => k .ret ⟨26, [(4, .d (D.bool w45))], []⟩) := by
  rw [keep_Same_railplan_api_Version_c0_eq]
  unfold keep_Same_railplan_api_Version_p11
  exact (keep_Same_railplan_api_Version_p1_eq n a0 a1 (seqK (keep_Same_railplan_api_Version_C n) n keep_Same_railplan_api_Version_c10 k)).trans (keep_Same_railplan_api_Version_p1_congr n a0 a1 (keep_Same_railplan_api_Version_p10_eq n a0 a1 k))
theorem keep_Same_railplan_api_Version_vfn {R : Type} (n : Nat) (a0 : List (List D)) (a1 : List (List D)) (K : AV → Option R) : vfn (keep_Same_railplan_api_Version_C n) n Try.f21 [.d (D.sl 2 a0), .d (D.sl 2 a1)] [] (retF [[0]] K) = keep_Same_railplan_api_Version n a0 a1 (fun r0 => K (.d (D.bool r0))) :=
  (show vfn (keep_Same_railplan_api_Version_C n) n Try.f21 [.d (D.sl 2 a0), .d (D.sl 2 a1)] [] (retF [[0]] K) = vexec (keep_Same_railplan_api_Version_C n) n keep_Same_railplan_api_Version_c0 ⟨26, [(0, .d (D.sl 2 a0)), (1, .d (D.sl 2 a1))], []⟩ (retX keep_Same_railplan_api_Version_tt [.tmp 4] (retF [[0]] K)) from vfn_at (by kernel_rfl) (by kernel_rfl) rfl (by kernel_rfl) rfl (by kernel_rfl) rfl).trans ((keep_Same_railplan_api_Version_p11_eq n a0 a1 (retX keep_Same_railplan_api_Version_tt [.tmp 4] (retF [[0]] K))).trans (by kernel_rfl))
def keep_Same_railplan_api_Version_K : AV → Option (Bool) := fun av => match av with
  | .d (D.bool r0) => some r0
  | _ => none
def keep_Same_railplan_api_Version_e (n : Nat) : Entry := fun _ _ g avs _ k => match avs with
  | [c0, c1] => prS g 2 c0 fun a0 => prS g 2 c1 fun a1 => 
    gb g (keep_Same_railplan_api_Version n a0 a1 some) false fun r => k ⟨.d (D.bool r), [], []⟩
  | _ => none
theorem keep_Same_railplan_api_Version_ok (n : Nat) : EntryOK Try.prog 21 (keep_Same_railplan_api_Version_e n) := by
  intro R site g avs hl k r h
  unfold keep_Same_railplan_api_Version_e at h
  split at h
  rotate_left
  · cases h
  replace h := prS_some h
  obtain ⟨a0, h, le0⟩ := h
  replace h := prS_some h
  obtain ⟨a1, h, le1⟩ := h
  replace h := gb_some h
  obtain ⟨res, h, hr⟩ := h
  refine ⟨_, h, fun hg => CallOK.conv (avs' := [.d (D.sl 2 a0), .d (D.sl 2 a1)]) (.cons (le0 hg) (.cons (le1 hg) (.nil))) (callOK_fix (K := keep_Same_railplan_api_Version_K) (res := res) (keep_Same_railplan_api_Version_VC n) (fn := Try.f21) (n := n) (by kernel_rfl) (by kernel_rfl) (by kernel_rfl) (ss := [[0]]) rfl ?_ ?_)⟩
  · exact (keep_Same_railplan_api_Version_vfn n a0 a1 keep_Same_railplan_api_Version_K).trans (hr hg)
  · intro x hx
    unfold keep_Same_railplan_api_Version_K at hx
    split at hx
    · injection hx with hx; subst hx; rfl
    · cases hx
end Go.Vx
/-
  law41_StoreCompact: the interpreter computes the pure function
-/
set_option linter.unusedVariables false
set_option linter.unusedSimpArgs false
set_option maxRecDepth 100000
namespace Go.Vx
open Go.Proofs
noncomputable def law41_StoreCompact_c0 : Code := bodyOf Try.f9
def law41_StoreCompact_tt : TT := [(3, ⟨.int .i64, 1, 8, [.int .i64 0], [.int .i64 0], [], none⟩), (9, ⟨.str, 1, 16, [.string ⟨#[]⟩], [.str []], [], none⟩), (24, ⟨.int .i64, 1, 8, [.int .i64 0], [.int .i64 0], [], none⟩), (32, ⟨.sl 23 2, 1, 24, [.slice none 0 0], [.sl 2 []], [], none⟩)]
theorem law41_StoreCompact_tt_eq : mkTT Try.prog [3, 9, 24, 32] = law41_StoreCompact_tt := by kernel_rfl
def law41_StoreCompact_cfg : List (Nat × Cfg) := [(0, ⟨[0, 1, 2, 3, 4], [], [], [], []⟩), (1, ⟨[4, 11], [], [], [], []⟩), (2, ⟨[4, 11, 12], [], [], [], []⟩), (3, ⟨[11, 12, 14], [], [], [], []⟩), (4, ⟨[12, 14, 15, 16], [], [], [], []⟩), (5, ⟨[12, 14, 15, 16, 17, 18], [], [], [], []⟩), (6, ⟨[10], [], [], [], []⟩)]
def law41_StoreCompact_C (n : Nat) : VC := ⟨specOf [(17, law41_versions_e n), (16, law41_file_e n), (18, law41_damaged_e n), (20, ref41_Scan_e n), (14, keep_Pick_e n), (25, store_Compact_e n), (19, store_Scan_e n), (15, law41_awake_e n), (21, keep_Same_railplan_api_Version_e n)], law41_StoreCompact_tt, law41_StoreCompact_cfg⟩
theorem law41_StoreCompact_ents (n : Nat) : EntsOK Try.prog [(17, law41_versions_e n), (16, law41_file_e n), (18, law41_damaged_e n), (20, ref41_Scan_e n), (14, keep_Pick_e n), (25, store_Compact_e n), (19, store_Scan_e n), (15, law41_awake_e n), (21, keep_Same_railplan_api_Version_e n)] := ⟨law41_versions_ok n, ⟨law41_file_ok n, ⟨law41_damaged_ok n, ⟨ref41_Scan_ok n, ⟨keep_Pick_ok n, ⟨store_Compact_ok n, ⟨store_Scan_ok n, ⟨law41_awake_ok n, ⟨keep_Same_railplan_api_Version_ok n, trivial⟩⟩⟩⟩⟩⟩⟩⟩⟩
theorem law41_StoreCompact_VC (n : Nat) : VCOk Try.prog (law41_StoreCompact_C n) := ⟨specOf_ok (law41_StoreCompact_ents n), (law41_StoreCompact_tt_eq ▸ mkTT_ok _ : TOk Try.prog law41_StoreCompact_tt), by kernel_rfl⟩
theorem law41_StoreCompact_p1_congr {R : Type} (n : Nat) (a0 : List (List D)) (a1 : Int) (a2 : Int) (a3 : Int) (a4 : Int) {k0 kk0 : Bool → Option R} (hq0 : ∀ x0, k0 x0 = kk0 x0) : law41_StoreCompact_p1 n a0 a1 a2 a3 a4 k0 = law41_StoreCompact_p1 n a0 a1 a2 a3 a4 kk0 := by
  obtain rfl : k0 = kk0 := funext fun x0 => hq0 x0
  rfl
theorem law41_StoreCompact_p1_eq {R : Type} (n : Nat) (a0 : List (List D)) (a1 : Int) (a2 : Int) (a3 : Int) (a4 : Int) (k : Exit → St → Option R) : vexec (law41_StoreCompact_C n) n law41_StoreCompact_c0 ⟨67, [(0, .d (D.sl 1 a0)), (1, .d (D.int .i64 a1)), (2, .d (D.int .i64 a2)), (3, .d (D.int .i64 a3)), (4, .d (D.int .i64 a4))], []⟩ k = law41_StoreCompact_p1 n a0 a1 a2 a3 a4 (fun z11 => k .ret ⟨67, [(10, .d (D.bool z11))], []⟩) := by kernel_rfl
theorem law41_StoreCompact_vfn {R : Type} (n : Nat) (a0 : List (List D)) (a1 : Int) (a2 : Int) (a3 : Int) (a4 : Int) (K : AV → Option R) : vfn (law41_StoreCompact_C n) n Try.f9 [.d (D.sl 1 a0), .d (D.int .i64 a1), .d (D.int .i64 a2), .d (D.int .i64 a3), .d (D.int .i64 a4)] [] (retF [[0]] K) = law41_StoreCompact n a0 a1 a2 a3 a4 (fun r0 => K (.d (D.bool r0))) :=
  (show vfn (law41_StoreCompact_C n) n Try.f9 [.d (D.sl 1 a0), .d (D.int .i64 a1), .d (D.int .i64 a2), .d (D.int .i64 a3), .d (D.int .i64 a4)] [] (retF [[0]] K) = vexec (law41_StoreCompact_C n) n law41_StoreCompact_c0 ⟨67, [(0, .d (D.sl 1 a0)), (1, .d (D.int .i64 a1)), (2, .d (D.int .i64 a2)), (3, .d (D.int .i64 a3)), (4, .d (D.int .i64 a4))], []⟩ (retX law41_StoreCompact_tt [.tmp 10] (retF [[0]] K)) from vfn_at (by kernel_rfl) (by kernel_rfl) rfl (by kernel_rfl) rfl (by kernel_rfl) rfl).trans ((law41_StoreCompact_p1_eq n a0 a1 a2 a3 a4 (retX law41_StoreCompact_tt [.tmp 10] (retF [[0]] K))).trans (by kernel_rfl))
def law41_StoreCompact_K : AV → Option (Bool) := fun av => match av with
  | .d (D.bool r0) => some r0
  | _ => none
def law41_StoreCompact_e (n : Nat) : Entry := fun _ _ g avs _ k => match avs with
  | [c0, c1, c2, c3, c4] => prS g 1 c0 fun a0 => prI g .i64 c1 fun a1 => prI g .i64 c2 fun a2 => prI g .i64 c3 fun a3 => prI g .i64 c4 fun a4 => 
    gb g (law41_StoreCompact n a0 a1 a2 a3 a4 some) false fun r => k ⟨.d (D.bool r), [], []⟩
  | _ => none
theorem law41_StoreCompact_ok (n : Nat) : EntryOK Try.prog 9 (law41_StoreCompact_e n) := by
  intro R site g avs hl k r h
  unfold law41_StoreCompact_e at h
  split at h
  rotate_left
  · cases h
  replace h := prS_some h
  obtain ⟨a0, h, le0⟩ := h
  replace h := prI_some h
  obtain ⟨a1, h, le1⟩ := h
  replace h := prI_some h
  obtain ⟨a2, h, le2⟩ := h
  replace h := prI_some h
  obtain ⟨a3, h, le3⟩ := h
  replace h := prI_some h
  obtain ⟨a4, h, le4⟩ := h
  replace h := gb_some h
  obtain ⟨res, h, hr⟩ := h
  refine ⟨_, h, fun hg => CallOK.conv (avs' := [.d (D.sl 1 a0), .d (D.int .i64 a1), .d (D.int .i64 a2), .d (D.int .i64 a3), .d (D.int .i64 a4)]) (.cons (le0 hg) (.cons (le1 hg) (.cons (le2 hg) (.cons (le3 hg) (.cons (le4 hg) (.nil)))))) (callOK_fix (K := law41_StoreCompact_K) (res := res) (law41_StoreCompact_VC n) (fn := Try.f9) (n := n) (by kernel_rfl) (by kernel_rfl) (by kernel_rfl) (ss := [[0]]) rfl ?_ ?_)⟩
  · exact (law41_StoreCompact_vfn n a0 a1 a2 a3 a4 law41_StoreCompact_K).trans (hr hg)
  · intro x hx
    unfold law41_StoreCompact_K at hx
    split at hx
    · injection hx with hx; subst hx; rfl
    · cases hx
end Go.Vx
