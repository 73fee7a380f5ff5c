/-
  The law OccupancyConflictIsCommon returns true for every input: 'Rows.OccupancyConflictIsCommonSaid'. No condition beyond the given statement's own.
-/
import Derived.Test.YtnhpkkecnfooaaaRows
import Derived.Test.YtnhpkkecnfooaaaCVC
import Derived.Test.YtnhpkkecnfooaaaCLA
import Derived.Test.YtnhpkkecnfooaaaCPB
import Derived.WalkKit
import Derived.ProofKit
import Derived.JoinedCond
set_option linter.unusedVariables false
set_option linter.unusedSimpArgs false
namespace Go.Proofs.Ytnhpkkecnfooaaa.occupancyConflictIsCommonDone
open Go.Vx

theorem own : ownKnob Try.prog.godebug = none := by kernel_rfl
theorem laidOut : laidOutB Try.prog = true := by kernel_rfl
def ash : List ASh := [.one (.int .i64), .one (.sl [.int .i64])]
theorem ash_eq : ashL Try.prog Try.f6.params.toList = some ash := by kernel_rfl
theorem params_ok : (Try.f6.params.toList.all fun t => Try.prog.readableRec t && decide (t < Try.prog.types.size)) = true := by kernel_rfl

theorem walk (W : World) (args : Array Value) (avs : List AV) (ha : AFits ash avs) (hr : ArgsRd (fun _ => none) (SW W) (Vx.look ([] : List (Nat × Ob))) W args.toList avs) :
    Calls Try.prog 6 args W fun e w' => e = .returned (.bool true) ∧ RowKit.Below W.heap.size W w' := by
  match avs, ha with
  | [v0, v1], ⟨⟨x0, e0, f0⟩, ⟨x1, e1, f1⟩, _⟩ =>
    subst e0 e1
    obtain ⟨t, rfl, wt⟩ := fit_int f0
    obtain ⟨rows1, rfl⟩ := fit_sl f1
    obtain ⟨l, rfl, bl, hl⟩ := fit_ints f1
    have hlaw := conflictIsCommonA 600 (by omega) (l := l) (Nat.le_trans hl (by decide)) t
    have hv := (law19_OccupancyConflictIsCommon_vfn 600 t (Vx.encI l) lawK).trans hlaw
    exact law_true (law19_OccupancyConflictIsCommon_VC 600) Try.func6 lawK_ok hr hv

theorem contract (H : Type) (enc : TypeId × Value → H) (W : World) (base : Nat) (args : Array Value) (ds gs : List (DataW H)) (before : List MemPlace)
    (hval : ∀ (j : Nat) t v, Try.f6.params[j]? = some t → args[j]? = some v → Value.okWide Try.prog W .any base t v)
    (hW : DataW.Whole enc Try.prog Try.f6.params.toList Rows.occupancyConflictIsCommonSpec.vars false W args.toList ds gs before) :
    Calls Try.prog 6 args W fun e W' => ∃ v, e = .returned v ∧ Rows.occupancyConflictIsCommonSpec.post enc Try.prog Try.f6 false true false false W args v W' :=
  law_contract laidOut rfl params_ok ash_eq (by kernel_rfl) Try.underlying4 hval hW
    (fun ds hd => by
      have hd : ds.length = 2 := hd
      match ds, hd with
      | [d0, d1], _ => rfl)
    (fun avs ha hr => walk W args avs ha hr)

set_option maxRecDepth 100000 in
theorem lifted (os : Os) (started : os.Started) (H : Type) (enc : TypeId × Value → H) :
    ReturnsInHanded {} Try.checked os 6 .any (Rows.occupancyConflictIsCommonSpec.pre6 enc Try.prog Try.f6 Rows.occupancyConflictIsCommonRow.domain false) (Rows.occupancyConflictIsCommonSpec.post enc Try.prog Try.f6 false true false false) := by
  refine returnsInHanded_of_change (C := Try.checked) own started (by kernel_rfl) Try.func6
    (ChangeSpec.witness6 (enc := enc) (C := Try.checked) false ⟨#[], #[.int .i64 0, .slice none 0 0], []⟩ 8 (by kernel_rfl) (by kernel_rfl) (by kernel_rfl) (by kernel_rfl)) ?_
  intro W base args ds gs before hval hW hcnd _
  exact contract H enc W base args ds gs before hval hW

theorem over : Rows.occupancyConflictIsCommonRow.holds Try.pinned (OpenSpec.ofChange Rows.occupancyConflictIsCommonSpec) :=
  OpenClaim.holds_of_wide 6 Try.f6 rfl rfl rfl rfl rfl rfl rfl ⟨rfl, rfl, rfl, rfl, rfl⟩ rfl rfl rfl rfl rfl (by kernel_rfl) Try.func6 (by kernel_rfl)
    (of_decide_eq_true (by kernel_rfl)) (by unfold Func.isWrapper; first | (rw [if_pos (by decide +kernel)]; kernel_rfl) | (rw [if_neg (by decide +kernel)]; exact ⟨rfl, rfl⟩))
    (fun os started H enc _ => lifted os started H enc)

theorem proved : Rows.OccupancyConflictIsCommonSaid := over
#print axioms proved
end Go.Proofs.Ytnhpkkecnfooaaa.occupancyConflictIsCommonDone
