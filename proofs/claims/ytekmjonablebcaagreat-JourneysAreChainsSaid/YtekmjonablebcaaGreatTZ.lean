/-
  The law JourneysAreChains returns true for every input: 'Rows.JourneysAreChainsSaid'. No condition beyond the given statement's own.
-/
import Derived.Test.YtekmjonablebcaaGreatRows
import Derived.Test.YtekmjonablebcaaGreatTB
import Derived.Test.YtekmjonablebcaaGreatTF
import Derived.Test.YtekmjonablebcaaGreatTG
import Derived.WalkKit
import Derived.ProofKit
import Derived.JoinedCond
set_option linter.unusedVariables false
set_option linter.unusedSimpArgs false
namespace Go.Proofs.YtekmjonablebcaaGreat.journeysAreChainsDone
open Go.Vx
theorem own : ownKnob Tryz.prog.godebug = none := by kernel_rfl
theorem laidOut : laidOutB Tryz.prog = true := by kernel_rfl
def ash : List ASh := [.one (.sl [.int .i64]), .one (.int .i64), .one (.int .i64)]
theorem ash_eq : ashL Tryz.prog Tryz.f4.params.toList = some ash := by kernel_rfl
theorem params_ok : (Tryz.f4.params.toList.all fun t => Tryz.prog.readableRec t && decide (t < Tryz.prog.types.size)) = true := by kernel_rfl
theorem walk (W : World) (args : Array Value) (avs : List AV) (ha : AFits ash avs) (hr : ArgsRd (fun _ => none) (SW W) (Vx.look ([] : List (Nat × Ob))) W args.toList avs) :
    Calls Tryz.prog 4 args W fun e w' => e = .returned (.bool true) ∧ RowKit.Below W.heap.size W w' := by
  match avs, ha with
  | [v0, v1, v2], ⟨⟨x0, e0, f0⟩, ⟨x1, e1, f1⟩, ⟨x2, e2, f2⟩, _⟩ =>
    subst e0 e1 e2
    obtain ⟨rows0, rfl⟩ := fit_sl f0
    obtain ⟨l, rfl, bl, hl⟩ := fit_ints f0
    obtain ⟨fr, rfl, wfr⟩ := fit_int f1
    obtain ⟨to, rfl, wto⟩ := fit_int f2
    have hlaw := chainsA (l := l) (Nat.le_trans hl (by decide)) fr to
    have hg : ∀ n, vfnT (law21_JourneysAreChains_VB n).C ([orL (law21_JourneysAreChains_l1 n n) (law21_JourneysAreChains_l2 n n)]) Tryz.f4 [.d (.sl 1 (Vx.encI l)), .d (.int .i64 fr), .d (.int .i64 to)] [] (retF [[0]] lawK) = law21_JourneysAreChains n (Vx.encI l) fr to some := fun n => by kernel_rfl
    have hv := (hg 400).trans hlaw
    exact lawT (law21_JourneysAreChains_VB 400).ok ([orL (law21_JourneysAreChains_l1 400 400) (law21_JourneysAreChains_l2 400 400)]) Tryz.func4 lawK_ok hr hv
set_option maxRecDepth 100000 in
theorem contract (H : Type) (enc : TypeId × Value → H) (W : World) (base : Nat) (args : Array Value) (ds gs : List (DataW H)) (before : List MemPlace)
    (hval : ∀ (j : Nat) t v, Tryz.f4.params[j]? = some t → args[j]? = some v → Value.okWide Tryz.prog W .any base t v)
    (hW : DataW.Whole enc Tryz.prog Tryz.f4.params.toList Rows.journeysAreChainsSpec.vars false W args.toList ds gs before) :
    Calls Tryz.prog 4 args W fun e W' => ∃ v, e = .returned v ∧ Rows.journeysAreChainsSpec.post enc Tryz.prog Tryz.f4 false true false false W args v W' :=
  law_contract laidOut rfl params_ok ash_eq (by kernel_rfl) Tryz.underlying4 hval hW
    (fun ds hd => by
      have hd : ds.length = 3 := hd
      match ds, hd with
      | [d0, d1, d2], _ => rfl)
    (fun avs ha hr => walk W args avs ha hr)
set_option maxRecDepth 100000 in
theorem lifted (os : Os) (started : os.Started) (H : Type) (enc : TypeId × Value → H) :
    ReturnsInHanded {} Tryz.checked os 4 .any (Rows.journeysAreChainsSpec.pre6 enc Tryz.prog Tryz.f4 Rows.journeysAreChainsRow.domain false) (Rows.journeysAreChainsSpec.post enc Tryz.prog Tryz.f4 false true false false) := by
  refine returnsInHanded_of_change (C := Tryz.checked) own started (by kernel_rfl) Tryz.func4
    (ChangeSpec.witness6 (enc := enc) (C := Tryz.checked) false ⟨#[], #[.slice none 0 0, .int .i64 0, .int .i64 0], []⟩ 8 (by kernel_rfl) (by kernel_rfl) (by kernel_rfl) (by kernel_rfl)) ?_
  intro W base args ds gs before hval hW hcnd _
  exact contract H enc W base args ds gs before hval hW
theorem over1 : Tryz.pinned.checked.prog.funcNamed Rows.journeysAreChainsRow.func = some 4 := by kernel_rfl
theorem over2 : joinedFacts Tryz.pinned.checked.prog 4 Tryz.f4 Rows.journeysAreChainsSpec Rows.journeysAreChainsRow = true := by kernel_rfl
theorem over3 : Tryz.f4.isWrapper Tryz.pinned.checked.prog Rows.journeysAreChainsRow.wrapper Rows.journeysAreChainsRow.mainSum := by unfold Func.isWrapper; first | (rw [if_pos (by decide +kernel)]; kernel_rfl) | (rw [if_neg (by decide +kernel)]; exact ⟨rfl, rfl⟩)
theorem over : Rows.journeysAreChainsRow.holds Tryz.pinned (OpenSpec.ofChange Rows.journeysAreChainsSpec) :=
  OpenClaim.holds_of_wide 4 Tryz.f4 rfl rfl rfl rfl rfl rfl rfl ⟨rfl, rfl, rfl, rfl, rfl⟩ rfl rfl rfl rfl rfl over1 Tryz.func4 over2
    (of_decide_eq_true (by kernel_rfl)) over3
    (fun os started H enc _ => lifted os started H enc)
theorem proved : Rows.JourneysAreChainsSaid := over
#print axioms proved
end Go.Proofs.YtekmjonablebcaaGreat.journeysAreChainsDone
