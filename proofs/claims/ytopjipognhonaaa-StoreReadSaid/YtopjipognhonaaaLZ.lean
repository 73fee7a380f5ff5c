/-
  The law StoreRead returns true for every input: 'Rows.StoreReadSaid'. No condition beyond the given statement's own.
-/
import Derived.Test.YtopjipognhonaaaRows
import Derived.Test.YtopjipognhonaaaLVC
import Derived.Test.YtopjipognhonaaaLLA
import Derived.Test.YtopjipognhonaaaLPB
import Derived.WalkKit
import Derived.ProofKit
import Derived.JoinedCond
set_option linter.unusedVariables false
set_option linter.unusedSimpArgs false
namespace Go.Proofs.Ytopjipognhonaaa.storeReadDone
open Go.Vx

theorem own : ownKnob Try.prog.godebug = none := by kernel_rfl
theorem laidOut : laidOutB Try.prog = true := by kernel_rfl
def ash : List ASh := [.one .str, .one (.sl [.int .i64]), .one (.int .i64), .one (.int .i64), .one (.int .i64), .one (.int .i64), .one (.int .i64)]
theorem ash_eq : ashL Try.prog Try.f11.params.toList = some ash := by kernel_rfl
theorem params_ok : (Try.f11.params.toList.all fun t => Try.prog.readableRec t && decide (t < Try.prog.types.size)) = true := by kernel_rfl

theorem walk (W : World) (args : Array Value) (avs : List AV) (ha : AFits ash avs) (hr : ArgsRd (fun _ => none) (SW W) (Vx.look ([] : List (Nat × Ob))) W args.toList avs) :
    Calls Try.prog 11 args W fun e w' => e = .returned (.bool true) ∧ RowKit.Below W.heap.size W w' := by
  match avs, ha with
  | [v0, v1, v2, v3, v4, v5, v6], ⟨⟨x0, e0, f0⟩, ⟨x1, e1, f1⟩, ⟨x2, e2, f2⟩, ⟨x3, e3, f3⟩, ⟨x4, e4, f4⟩, ⟨x5, e5, f5⟩, ⟨x6, e6, f6⟩, _⟩ =>
    subst e0 e1 e2 e3 e4 e5 e6
    obtain ⟨raw, rfl, hraw⟩ := fit_str f0
    obtain ⟨rows1, rfl⟩ := fit_sl f1
    obtain ⟨l, rfl, bl, hl⟩ := fit_ints f1
    obtain ⟨a, rfl, wa⟩ := fit_int f2
    obtain ⟨b, rfl, wb⟩ := fit_int f3
    obtain ⟨c, rfl, wc⟩ := fit_int f4
    obtain ⟨d, rfl, wd⟩ := fit_int f5
    obtain ⟨e, rfl, we⟩ := fit_int f6
    have hlaw := storeReadA 70001 (by omega) raw hraw (l := l) hl a b c d e
    have hv := (law41_StoreRead_vfn 70001 raw (encI l) a b c d e lawK).trans hlaw
    exact law_true (law41_StoreRead_VC 70001) Try.func11 lawK_ok hr hv

theorem contract (H : Type) (enc : TypeId × Value → H) (W : World) (base : Nat) (args : Array Value) (ds gs : List (DataW H)) (before : List MemPlace)
    (hval : ∀ (j : Nat) t v, Try.f11.params[j]? = some t → args[j]? = some v → Value.okWide Try.prog W .any base t v)
    (hW : DataW.Whole enc Try.prog Try.f11.params.toList Rows.storeReadSpec.vars false W args.toList ds gs before) :
    Calls Try.prog 11 args W fun e W' => ∃ v, e = .returned v ∧ Rows.storeReadSpec.post enc Try.prog Try.f11 false true false false W args v W' :=
  law_contract laidOut rfl params_ok ash_eq (by kernel_rfl) Try.underlying4 hval hW
    (fun ds hd => by
      have hd : ds.length = 7 := hd
      match ds, hd with
      | [d0, d1, d2, d3, d4, d5, d6], _ => rfl)
    (fun avs ha hr => walk W args avs ha hr)

set_option maxRecDepth 100000 in
theorem lifted (os : Os) (started : os.Started) (H : Type) (enc : TypeId × Value → H) :
    ReturnsInHanded {} Try.checked os 11 .any (Rows.storeReadSpec.pre6 enc Try.prog Try.f11 Rows.storeReadRow.domain false) (Rows.storeReadSpec.post enc Try.prog Try.f11 false true false false) := by
  refine returnsInHanded_of_change (C := Try.checked) own started (by kernel_rfl) Try.func11
    (ChangeSpec.witness6 (enc := enc) (C := Try.checked) false ⟨#[], #[.string ⟨#[]⟩, .slice none 0 0, .int .i64 0, .int .i64 0, .int .i64 0, .int .i64 0, .int .i64 0], []⟩ 8 (by kernel_rfl) (by kernel_rfl) (by kernel_rfl) (by kernel_rfl)) ?_
  intro W base args ds gs before hval hW hcnd _
  exact contract H enc W base args ds gs before hval hW

theorem over : Rows.storeReadRow.holds Try.pinned (OpenSpec.ofChange Rows.storeReadSpec) :=
  OpenClaim.holds_of_wide 11 Try.f11 rfl rfl rfl rfl rfl rfl rfl ⟨rfl, rfl, rfl, rfl, rfl⟩ rfl rfl rfl rfl rfl (by kernel_rfl) Try.func11 (by kernel_rfl)
    (of_decide_eq_true (by kernel_rfl)) (by unfold Func.isWrapper; first | (rw [if_pos (by decide +kernel)]; kernel_rfl) | (rw [if_neg (by decide +kernel)]; exact ⟨rfl, rfl⟩))
    (fun os started H enc _ => lifted os started H enc)

theorem proved : Rows.StoreReadSaid := over
#print axioms proved
end Go.Proofs.Ytopjipognhonaaa.storeReadDone
