/-
  The law StoreCompact returns true for every input: 'Rows.StoreCompactSaid'. No condition beyond the given statement's own.
-/
import Derived.Test.YtopjipognhonaaaRows
import Derived.Test.YtopjipognhonaaaJVC
import Derived.Test.YtopjipognhonaaaJLA
import Derived.Test.YtopjipognhonaaaJPB
import Derived.WalkKit
import Derived.ProofKit
import Derived.JoinedCond
set_option linter.unusedVariables false
set_option linter.unusedSimpArgs false
namespace Go.Proofs.Ytopjipognhonaaa.storeCompactDone
open Go.Vx

theorem own : ownKnob Try.prog.godebug = none := by kernel_rfl
theorem laidOut : laidOutB Try.prog = true := by kernel_rfl
def ash : List ASh := [.one (.sl [.int .i64]), .one (.int .i64), .one (.int .i64), .one (.int .i64), .one (.int .i64)]
theorem ash_eq : ashL Try.prog Try.f9.params.toList = some ash := by kernel_rfl
theorem params_ok : (Try.f9.params.toList.all fun t => Try.prog.readableRec t && decide (t < Try.prog.types.size)) = true := by kernel_rfl

theorem walk (W : World) (args : Array Value) (avs : List AV) (ha : AFits ash avs) (hr : ArgsRd (fun _ => none) (SW W) (Vx.look ([] : List (Nat × Ob))) W args.toList avs) :
    Calls Try.prog 9 args W fun e w' => e = .returned (.bool true) ∧ RowKit.Below W.heap.size W w' := by
  match avs, ha with
  | [v0, v1, v2, v3, v4], ⟨⟨x0, e0, f0⟩, ⟨x1, e1, f1⟩, ⟨x2, e2, f2⟩, ⟨x3, e3, f3⟩, ⟨x4, e4, f4⟩, _⟩ =>
    subst e0 e1 e2 e3 e4
    obtain ⟨rows0, rfl⟩ := fit_sl f0
    obtain ⟨l, rfl, bl, hl⟩ := fit_ints f0
    obtain ⟨a, rfl, wa⟩ := fit_int f1
    obtain ⟨b, rfl, wb⟩ := fit_int f2
    obtain ⟨c, rfl, wc⟩ := fit_int f3
    obtain ⟨d, rfl, wd⟩ := fit_int f4
    have hlaw := storeCompactA 70001 (by omega) (l := l) hl a b c d
    have hv := (law41_StoreCompact_vfn 70001 (encI l) a b c d lawK).trans hlaw
    exact law_true (law41_StoreCompact_VC 70001) Try.func9 lawK_ok hr hv

theorem contract (H : Type) (enc : TypeId × Value → H) (W : World) (base : Nat) (args : Array Value) (ds gs : List (DataW H)) (before : List MemPlace)
    (hval : ∀ (j : Nat) t v, Try.f9.params[j]? = some t → args[j]? = some v → Value.okWide Try.prog W .any base t v)
    (hW : DataW.Whole enc Try.prog Try.f9.params.toList Rows.storeCompactSpec.vars false W args.toList ds gs before) :
    Calls Try.prog 9 args W fun e W' => ∃ v, e = .returned v ∧ Rows.storeCompactSpec.post enc Try.prog Try.f9 false true false false W args v W' :=
  law_contract laidOut rfl params_ok ash_eq (by kernel_rfl) Try.underlying4 hval hW
    (fun ds hd => by
      have hd : ds.length = 5 := hd
      match ds, hd with
      | [d0, d1, d2, d3, d4], _ => rfl)
    (fun avs ha hr => walk W args avs ha hr)

set_option maxRecDepth 100000 in
theorem lifted (os : Os) (started : os.Started) (H : Type) (enc : TypeId × Value → H) :
    ReturnsInHanded {} Try.checked os 9 .any (Rows.storeCompactSpec.pre6 enc Try.prog Try.f9 Rows.storeCompactRow.domain false) (Rows.storeCompactSpec.post enc Try.prog Try.f9 false true false false) := by
  refine returnsInHanded_of_change (C := Try.checked) own started (by kernel_rfl) Try.func9
    (ChangeSpec.witness6 (enc := enc) (C := Try.checked) false ⟨#[], #[.slice none 0 0, .int .i64 0, .int .i64 0, .int .i64 0, .int .i64 0], []⟩ 8 (by kernel_rfl) (by kernel_rfl) (by kernel_rfl) (by kernel_rfl)) ?_
  intro W base args ds gs before hval hW hcnd _
  exact contract H enc W base args ds gs before hval hW

theorem over : Rows.storeCompactRow.holds Try.pinned (OpenSpec.ofChange Rows.storeCompactSpec) :=
  OpenClaim.holds_of_wide 9 Try.f9 rfl rfl rfl rfl rfl rfl rfl ⟨rfl, rfl, rfl, rfl, rfl⟩ rfl rfl rfl rfl rfl (by kernel_rfl) Try.func9 (by kernel_rfl)
    (of_decide_eq_true (by kernel_rfl)) (by unfold Func.isWrapper; first | (rw [if_pos (by decide +kernel)]; kernel_rfl) | (rw [if_neg (by decide +kernel)]; exact ⟨rfl, rfl⟩))
    (fun os started H enc _ => lifted os started H enc)

theorem proved : Rows.StoreCompactSaid := over
#print axioms proved
end Go.Proofs.Ytopjipognhonaaa.storeCompactDone
