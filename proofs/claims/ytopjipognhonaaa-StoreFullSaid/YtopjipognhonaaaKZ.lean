/-
  The law StoreFull returns true for every input: 'Rows.StoreFullSaid'. No condition beyond the given statement's own.
-/
import Derived.Test.YtopjipognhonaaaRows
import Derived.Test.YtopjipognhonaaaKVC
import Derived.Test.YtopjipognhonaaaKLA
import Derived.Test.YtopjipognhonaaaKPA
import Derived.WalkKit
import Derived.ProofKit
import Derived.JoinedCond
set_option linter.unusedVariables false
set_option linter.unusedSimpArgs false
namespace Go.Proofs.Ytopjipognhonaaa.storeFullDone
open Go.Vx

theorem own : ownKnob Try.prog.godebug = none := by kernel_rfl
theorem laidOut : laidOutB Try.prog = true := by kernel_rfl
def ash : List ASh := [.one (.int .i64)]
theorem ash_eq : ashL Try.prog Try.f10.params.toList = some ash := by kernel_rfl
theorem params_ok : (Try.f10.params.toList.all fun t => Try.prog.readableRec t && decide (t < Try.prog.types.size)) = true := by kernel_rfl

theorem walk (W : World) (args : Array Value) (avs : List AV) (ha : AFits ash avs) (hr : ArgsRd (fun _ => none) (SW W) (Vx.look ([] : List (Nat × Ob))) W args.toList avs) :
    Calls Try.prog 10 args W fun e w' => e = .returned (.bool true) ∧ RowKit.Below W.heap.size W w' := by
  match avs, ha with
  | [v0], ⟨⟨x0, e0, f0⟩, _⟩ =>
    subst e0
    obtain ⟨a, rfl, wa⟩ := fit_int f0
    have hlaw := storeFullA 70001 (by omega) a
    have hv := (law41_StoreFull_vfn 70001 a lawK).trans hlaw
    exact law_true (law41_StoreFull_VC 70001) Try.func10 lawK_ok hr hv

theorem contract (H : Type) (enc : TypeId × Value → H) (W : World) (base : Nat) (args : Array Value) (ds gs : List (DataW H)) (before : List MemPlace)
    (hval : ∀ (j : Nat) t v, Try.f10.params[j]? = some t → args[j]? = some v → Value.okWide Try.prog W .any base t v)
    (hW : DataW.Whole enc Try.prog Try.f10.params.toList Rows.storeFullSpec.vars false W args.toList ds gs before) :
    Calls Try.prog 10 args W fun e W' => ∃ v, e = .returned v ∧ Rows.storeFullSpec.post enc Try.prog Try.f10 false true false false W args v W' :=
  law_contract laidOut rfl params_ok ash_eq (by kernel_rfl) Try.underlying4 hval hW
    (fun ds hd => by
      have hd : ds.length = 1 := hd
      match ds, hd with
      | [d0], _ => rfl)
    (fun avs ha hr => walk W args avs ha hr)

set_option maxRecDepth 100000 in
theorem lifted (os : Os) (started : os.Started) (H : Type) (enc : TypeId × Value → H) :
    ReturnsInHanded {} Try.checked os 10 .any (Rows.storeFullSpec.pre6 enc Try.prog Try.f10 Rows.storeFullRow.domain false) (Rows.storeFullSpec.post enc Try.prog Try.f10 false true false false) := by
  refine returnsInHanded_of_change (C := Try.checked) own started (by kernel_rfl) Try.func10
    (ChangeSpec.witness6 (enc := enc) (C := Try.checked) false ⟨#[], #[.int .i64 0], []⟩ 8 (by kernel_rfl) (by kernel_rfl) (by kernel_rfl) (by kernel_rfl)) ?_
  intro W base args ds gs before hval hW hcnd _
  exact contract H enc W base args ds gs before hval hW

theorem over : Rows.storeFullRow.holds Try.pinned (OpenSpec.ofChange Rows.storeFullSpec) :=
  OpenClaim.holds_of_wide 10 Try.f10 rfl rfl rfl rfl rfl rfl rfl ⟨rfl, rfl, rfl, rfl, rfl⟩ rfl rfl rfl rfl rfl (by kernel_rfl) Try.func10 (by kernel_rfl)
    (of_decide_eq_true (by kernel_rfl)) (by unfold Func.isWrapper; first | (rw [if_pos (by decide +kernel)]; kernel_rfl) | (rw [if_neg (by decide +kernel)]; exact ⟨rfl, rfl⟩))
    (fun os started H enc _ => lifted os started H enc)

theorem proved : Rows.StoreFullSaid := over
#print axioms proved
end Go.Proofs.Ytopjipognhonaaa.storeFullDone
