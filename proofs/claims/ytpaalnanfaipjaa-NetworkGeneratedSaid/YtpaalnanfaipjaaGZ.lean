/-
  The law NetworkGenerated returns true for every input: 'Rows.NetworkGeneratedSaid'. No condition beyond the given statement's own.
-/
import Derived.Test.YtpaalnanfaipjaaRows
import Derived.Test.YtpaalnanfaipjaaGVB
import Derived.Test.YtpaalnanfaipjaaGLA
import Derived.Test.YtpaalnanfaipjaaGPB
import Derived.WalkKit
import Derived.ProofKit
import Derived.JoinedCond
set_option linter.unusedVariables false
set_option linter.unusedSimpArgs false
namespace Go.Proofs.Ytpaalnanfaipjaa.networkGeneratedDone
open Go.Vx

theorem own : ownKnob Try.prog.godebug = none := by kernel_rfl
theorem laidOut : laidOutB Try.prog = true := by kernel_rfl
def ash : List ASh := [.one (.sl [.int .i64]), .one (.sl [.int .i64]), .one (.int .i64), .ag [.int .i64, .int .i64, .int .i64]]
theorem ash_eq : ashL Try.prog Try.f8.params.toList = some ash := by kernel_rfl
theorem params_ok : (Try.f8.params.toList.all fun t => Try.prog.readableRec t && decide (t < Try.prog.types.size)) = true := by kernel_rfl

theorem walk (W : World) (args : Array Value) (avs : List AV) (ha : AFits ash avs) (hr : ArgsRd (fun _ => none) (SW W) (Vx.look ([] : List (Nat × Ob))) W args.toList avs) :
    Calls Try.prog 8 args W fun e w' => e = .returned (.bool true) ∧ RowKit.Below W.heap.size W w' := by
  match avs, ha with
  | [v0, v1, v2, v3], ⟨⟨x0, e0, f0⟩, ⟨x1, e1, f1⟩, ⟨x2, e2, f2⟩, ⟨x3, e3, f3⟩, _⟩ =>
    subst e0 e1 e2 e3
    obtain ⟨rows0, rfl⟩ := fit_sl f0
    obtain ⟨l, rfl, bl, hl⟩ := fit_ints f0
    obtain ⟨rows1, rfl⟩ := fit_sl f1
    obtain ⟨t, rfl, bt, ht⟩ := fit_ints f1
    obtain ⟨a, rfl, wa⟩ := fit_int f2
    obtain ⟨k0, s0, rfl, q0, f3⟩ := fitL_cons f3
    obtain ⟨k1, s1, rfl, q1, f3⟩ := fitL_cons f3
    obtain ⟨k2, s2, rfl, q2, f3⟩ := fitL_cons f3
    have hnil2 := fitL_nil f3
    subst hnil2
    obtain ⟨e0, rfl, _⟩ := fit_int q0
    obtain ⟨e1, rfl, _⟩ := fit_int q1
    obtain ⟨e2, rfl, _⟩ := fit_int q2
    have hlaw := generatedA 600 (by omega) (l := l) (t := t) hl ht a e0 e1 e2
    have hv := (law11_NetworkGenerated_vfn 600 (encI l) (encI t) a e0 e1 e2 lawK).trans hlaw
    exact law_true (law11_NetworkGenerated_VC 600) Try.func8 lawK_ok hr hv

theorem contract (H : Type) (enc : TypeId × Value → H) (W : World) (base : Nat) (args : Array Value) (ds gs : List (DataW H)) (before : List MemPlace)
    (hval : ∀ (j : Nat) t v, Try.f8.params[j]? = some t → args[j]? = some v → Value.okWide Try.prog W .any base t v)
    (hW : DataW.Whole enc Try.prog Try.f8.params.toList Rows.networkGeneratedSpec.vars false W args.toList ds gs before) :
    Calls Try.prog 8 args W fun e W' => ∃ v, e = .returned v ∧ Rows.networkGeneratedSpec.post enc Try.prog Try.f8 false true false false W args v W' :=
  law_contract laidOut rfl params_ok ash_eq (by kernel_rfl) Try.underlying4 hval hW
    (fun ds hd => by
      have hd : ds.length = 4 := hd
      match ds, hd with
      | [d0, d1, d2, d3], _ => rfl)
    (fun avs ha hr => walk W args avs ha hr)

set_option maxRecDepth 100000 in
theorem lifted (os : Os) (started : os.Started) (H : Type) (enc : TypeId × Value → H) :
    ReturnsInHanded {} Try.checked os 8 .any (Rows.networkGeneratedSpec.pre6 enc Try.prog Try.f8 Rows.networkGeneratedRow.domain false) (Rows.networkGeneratedSpec.post enc Try.prog Try.f8 false true false false) := by
  refine returnsInHanded_of_change (C := Try.checked) own started (by kernel_rfl) Try.func8
    (ChangeSpec.witness6 (enc := enc) (C := Try.checked) false ⟨#[], #[.slice none 0 0, .slice none 0 0, .int .i64 0, .agg #[.int .i64 0, .int .i64 0, .int .i64 0]], []⟩ 8 (by kernel_rfl) (by kernel_rfl) (by kernel_rfl) (by kernel_rfl)) ?_
  intro W base args ds gs before hval hW hcnd _
  exact contract H enc W base args ds gs before hval hW

theorem over : Rows.networkGeneratedRow.holds Try.pinned (OpenSpec.ofChange Rows.networkGeneratedSpec) :=
  OpenClaim.holds_of_wide 8 Try.f8 rfl rfl rfl rfl rfl rfl rfl ⟨rfl, rfl, rfl, rfl, rfl⟩ rfl rfl rfl rfl rfl (by kernel_rfl) Try.func8 (by kernel_rfl)
    (of_decide_eq_true (by kernel_rfl)) (by unfold Func.isWrapper; first | (rw [if_pos (by decide +kernel)]; kernel_rfl) | (rw [if_neg (by decide +kernel)]; exact ⟨rfl, rfl⟩))
    (fun os started H enc _ => lifted os started H enc)

theorem proved : Rows.NetworkGeneratedSaid := over
#print axioms proved
end Go.Proofs.Ytpaalnanfaipjaa.networkGeneratedDone
