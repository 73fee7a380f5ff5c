/-
  The law OccupancyFreeMeansOne returns true for every input: 'Rows.OccupancyFreeMeansOneSaid'. No condition beyond the given statement's own.
-/
import Derived.Test.YtnhpkkecnfooaaaRows
import Derived.Test.YtnhpkkecnfooaaaFVC
import Derived.Test.YtnhpkkecnfooaaaFLA
import Derived.Test.YtnhpkkecnfooaaaFPB
import Derived.WalkKit
import Derived.ProofKit
import Derived.JoinedCond
set_option linter.unusedVariables false
set_option linter.unusedSimpArgs false
namespace Go.Proofs.Ytnhpkkecnfooaaa.occupancyFreeMeansOneDone
open Go.Vx

theorem own : ownKnob Try.prog.godebug = none := by kernel_rfl
theorem laidOut : laidOutB Try.prog = true := by kernel_rfl
def ash : List ASh := [.one (.int .i64), .one (.sl [.int .i64]), .one (.int .i64), .one (.int .i64)]
theorem ash_eq : ashL Try.prog Try.f3.params.toList = some ash := by kernel_rfl
theorem params_ok : (Try.f3.params.toList.all fun t => Try.prog.readableRec t && decide (t < Try.prog.types.size)) = true := by kernel_rfl

theorem walk (W : World) (args : Array Value) (avs : List AV) (ha : AFits ash avs) (hr : ArgsRd (fun _ => none) (SW W) (Vx.look ([] : List (Nat × Ob))) W args.toList avs) :
    Calls Try.prog 3 args W fun e w' => e = .returned (.bool true) ∧ RowKit.Below W.heap.size W w' := by
  match avs, ha with
  | [v0, v1, v2, v3], ⟨⟨x0, e0, f0⟩, ⟨x1, e1, f1⟩, ⟨x2, e2, f2⟩, ⟨x3, e3, f3⟩, _⟩ =>
    subst e0 e1 e2 e3
    obtain ⟨t, rfl, wt⟩ := fit_int f0
    obtain ⟨rows1, rfl⟩ := fit_sl f1
    obtain ⟨l, rfl, bl, hl⟩ := fit_ints f1
    obtain ⟨r, rfl, wr⟩ := fit_int f2
    obtain ⟨s, rfl, ws⟩ := fit_int f3
    have hlaw := freeMeansOneA 600 (by omega) (l := l) (Nat.le_trans hl (by decide)) t r s
    have hv := (law19_OccupancyFreeMeansOne_vfn 600 t (Vx.encI l) r s lawK).trans hlaw
    exact law_true (law19_OccupancyFreeMeansOne_VC 600) Try.func3 lawK_ok hr hv

theorem contract (H : Type) (enc : TypeId × Value → H) (W : World) (base : Nat) (args : Array Value) (ds gs : List (DataW H)) (before : List MemPlace)
    (hval : ∀ (j : Nat) t v, Try.f3.params[j]? = some t → args[j]? = some v → Value.okWide Try.prog W .any base t v)
    (hW : DataW.Whole enc Try.prog Try.f3.params.toList Rows.occupancyFreeMeansOneSpec.vars false W args.toList ds gs before) :
    Calls Try.prog 3 args W fun e W' => ∃ v, e = .returned v ∧ Rows.occupancyFreeMeansOneSpec.post enc Try.prog Try.f3 false true false false W args v W' :=
  law_contract laidOut rfl params_ok ash_eq (by kernel_rfl) Try.underlying4 hval hW
    (fun ds hd => by
      have hd : ds.length = 4 := hd
      match ds, hd with
      | [d0, d1, d2, d3], _ => rfl)
    (fun avs ha hr => walk W args avs ha hr)

set_option maxRecDepth 100000 in
theorem lifted (os : Os) (started : os.Started) (H : Type) (enc : TypeId × Value → H) :
    ReturnsInHanded {} Try.checked os 3 .any (Rows.occupancyFreeMeansOneSpec.pre6 enc Try.prog Try.f3 Rows.occupancyFreeMeansOneRow.domain false) (Rows.occupancyFreeMeansOneSpec.post enc Try.prog Try.f3 false true false false) := by
  refine returnsInHanded_of_change (C := Try.checked) own started (by kernel_rfl) Try.func3
    (ChangeSpec.witness6 (enc := enc) (C := Try.checked) false ⟨#[], #[.int .i64 0, .slice none 0 0, .int .i64 0, .int .i64 0], []⟩ 8 (by kernel_rfl) (by kernel_rfl) (by kernel_rfl) (by kernel_rfl)) ?_
  intro W base args ds gs before hval hW hcnd _
  exact contract H enc W base args ds gs before hval hW

theorem over : Rows.occupancyFreeMeansOneRow.holds Try.pinned (OpenSpec.ofChange Rows.occupancyFreeMeansOneSpec) :=
  OpenClaim.holds_of_wide 3 Try.f3 rfl rfl rfl rfl rfl rfl rfl ⟨rfl, rfl, rfl, rfl, rfl⟩ rfl rfl rfl rfl rfl (by kernel_rfl) Try.func3 (by kernel_rfl)
    (of_decide_eq_true (by kernel_rfl)) (by unfold Func.isWrapper; first | (rw [if_pos (by decide +kernel)]; kernel_rfl) | (rw [if_neg (by decide +kernel)]; exact ⟨rfl, rfl⟩))
    (fun os started H enc _ => lifted os started H enc)

theorem proved : Rows.OccupancyFreeMeansOneSaid := over
#print axioms proved
end Go.Proofs.Ytnhpkkecnfooaaa.occupancyFreeMeansOneDone
