/-
  The law TimetableRoundTrip returns true: the tied card 'Rows.TimetableRoundTripCardSaid'. No condition beyond the given statement's own (the listed package variables as the program's text lays them; the tie is the given one).
-/
import Derived.Test.YtdjncnnhobmhaaaDoorCards
import Derived.Test.YtdjncnnhobmhaaaDoorTie
import Derived.Test.YtdjncnnhobmhaaaDoorTC
import Derived.Test.YtdjncnnhobmhaaaDoorTF
import Derived.LaidSub
import Derived.MakeChecks
import Derived.WalkKit
import Derived.ProofKit
import Derived.JoinedCond
import Derived.OpenShut
import Derived.LaidMore
import Derived.Lay
import Derived.SevenTiedAt
import Derived.Stop.Joined
set_option linter.unusedVariables false
set_option linter.unusedSimpArgs false
namespace Go.Proofs.YtdjncnnhobmhaaaDoor.timetableRoundTripDone
open Go.Vx

theorem own : ownKnob Tryd.prog.godebug = none := by kernel_rfl
theorem laidOut : laidOutB Tryd.prog = true := by kernel_rfl
def ash : List ASh := [.one (.sl [.int .i64])]
theorem ash_eq : ashL Tryd.prog Tryd.f4.params.toList = some ash := by kernel_rfl
theorem params_ok : (Tryd.f4.params.toList.all fun t => Tryd.prog.readableRec t && decide (t < Tryd.prog.types.size)) = true := by kernel_rfl

theorem table {W : World} (h : laidMetH Tryd.prog Rows.timetableRoundTripRow.laid W) : Lib.TabIs Tryd.prog W "internal/strconv.uint64pow10" .u64 Lib.pow10Tab := by
  rw [MakeChecks.laidMetH_plain _ _ _ (by kernel_rfl)] at h
  have h2 := h.filter fun x => x.1 == "internal/strconv.uint64pow10"
  have e : (Rows.timetableRoundTripRow.laid.filter fun x => x.1 == "internal/strconv.uint64pow10") = [("internal/strconv.uint64pow10", Lib.tabData .u64 Lib.pow10Tab)] := by kernel_rfl
  rw [e] at h2
  obtain ⟨g, hg, hty⟩ := Option.bind_eq_some_iff.1 (show ((Tryd.prog.globalNamed "internal/strconv.uint64pow10").bind fun g => (Tryd.prog.globals[g]?).map (·.type)) = some 113 by kernel_rfl)
  exact Lib.tabIs_of_head (t := 113) (e := 102) (n := 20) hg hty (by kernel_rfl) (by kernel_rfl) (by kernel_rfl) (by kernel_rfl) h2

theorem walk (W : World) (args : Array Value) (avs : List AV) (htab : Lib.TabIs Tryd.prog W "internal/strconv.uint64pow10" .u64 Lib.pow10Tab) (ha : AFits ash avs) (hr : ArgsRd (fun _ => none) (SW W) (Vx.look ([] : List (Nat × Ob))) W args.toList avs) :
    Calls Tryd.prog 4 args W fun e w' => e = .returned (.bool true) ∧ RowKit.Below W.heap.size W w' := by
  match avs, ha with
  | [v0], ⟨⟨x0, e0, f0⟩, _⟩ =>
    subst e0
    obtain ⟨rows0, rfl⟩ := fit_sl f0
    obtain ⟨l, rfl, bl, hl⟩ := fit_ints f0
    obtain ⟨al⟩ := args
    match al, hr with
    | [v], hr =>
      have hv := (hr.2 0 v _ rfl rfl).d_inv
      exact Tryd.law_walk W v l hl hv htab

set_option maxRecDepth 100000 in
theorem contract (H : Type) (enc : TypeId × Value → H) (W : World) (base : Nat) (args : Array Value) (ds gs : List (DataW H)) (before : List MemPlace)
    (hval : ∀ (j : Nat) t v, Tryd.f4.params[j]? = some t → args[j]? = some v → Value.okWide Tryd.prog W .any base t v)
    (hX : laidMetH Tryd.prog Rows.timetableRoundTripRow.laid W) (hW : DataW.Whole enc Tryd.prog Tryd.f4.params.toList Rows.timetableRoundTripSpec.vars false W args.toList ds gs before) :
    Calls Tryd.prog 4 args W fun e W' => ∃ v, e = .returned v ∧ Rows.timetableRoundTripSpec.post enc Tryd.prog Tryd.f4 false true false false W args v W' :=
  law_contract laidOut rfl params_ok ash_eq (by kernel_rfl) Tryd.underlying4 hval hW
    (fun ds hd => by
      have hd : ds.length = 1 := hd
      match ds, hd with
      | [d0], _ => rfl)
    (fun avs ha hr => walk W args avs (table hX) ha hr)

set_option maxRecDepth 100000 in
theorem lifted (os : Os) (started : os.Started) (H : Type) (enc : TypeId × Value → H) :
    ReturnsInHanded {} Tryd.checked os 4 .any (fun w args => (Rows.timetableRoundTripSpec.pre enc Tryd.prog Tryd.f4 Rows.timetableRoundTripRow.domain false w args ∧ laidMetH Tryd.prog Rows.timetableRoundTripRow.laid w) ∧ sizedMet enc Tryd.prog Tryd.f4 (OpenSpec.ofChange Rows.timetableRoundTripSpec) false w args)
      (Rows.timetableRoundTripSpec.post enc Tryd.prog Tryd.f4 false true false false) := by
  refine returnsInHanded_of_change_and (C := Tryd.checked) (X := fun w _ => laidMetH Tryd.prog Rows.timetableRoundTripRow.laid w) (fun _ _ _ hh h => h.of_heap hh) own started (by kernel_rfl) Tryd.func4
    (ChangeSpec.witness_shaped (enc := enc) (C := Tryd.checked) (os := os) (X := fun w _ => laidMetH Tryd.prog Rows.timetableRoundTripRow.laid w) false (World.laidAll Tryd.prog os Rows.timetableRoundTripRow.laid) #[.slice none 0 0] 8 (World.laidAll_os _ _ _)
      (World.shaped_of_ZipB (by kernel_rfl) (by kernel_rfl)) (by kernel_rfl) (by kernel_rfl) (by kernel_rfl)
      (by rw [MakeChecks.laidMetH_plain _ _ _ (by kernel_rfl)]; exact laidMet_laidAll _ (by kernel_rfl) (by kernel_rfl))) ?_
  intro W base args ds gs before hval hW _ _ hX _
  exact contract H enc W base args ds gs before hval hX hW

theorem row : Rows.TimetableRoundTripSaid :=
  OpenClaim.holds_of_wide 4 Tryd.f4 rfl rfl rfl rfl rfl rfl rfl ⟨rfl, rfl, rfl, rfl, rfl⟩ rfl rfl rfl rfl rfl (by kernel_rfl) Tryd.func4 (by kernel_rfl)
    (of_decide_eq_true (by kernel_rfl)) (by unfold Func.isWrapper; first | (rw [if_pos (by decide +kernel)]; kernel_rfl) | (rw [if_neg (by decide +kernel)]; exact ⟨rfl, rfl⟩))
    (fun os started H enc _ => lifted os started H enc)

theorem proved : Rows.TimetableRoundTripCardSaid :=
  Claim7.holds_tied_plain_at .later [] [.data, .data, .data, .data, .pinned] true (true, "2246d37ffc510c0b1412bcc6cda486ddf30ec8d83e03a7410f2cd8c0348dc069") false row (fun _ h => by cases h) (by kernel_rfl) (fun _ h => by cases h) timetableRoundTrip_row_tie rfl ⟨rfl, rfl⟩ (by kernel_rfl) rfl
    (fun f fn hf hfn => by
      obtain rfl : f = 4 := Option.some.inj ((show Tryd.prog.funcNamed "railplan/railplanlaw23.TimetableRoundTrip" = some 4 by kernel_rfl).symm.trans hf) |>.symm
      obtain rfl : fn = Tryd.f4 := (Option.some.inj (Tryd.func4.symm.trans hfn)).symm
      exact ⟨by kernel_rfl, fun j t ht => by
        rw [Tryd.params4] at ht
        match j, ht with
        | 0, ht =>
          have ht : t = 22 := by simpa using ht.symm
          subst ht
          show Tryd.pinned.checked.prog.wantsStandIn 22 = false
          kernel_rfl
        | j + 1, ht => simp at ht⟩)
    (by kernel_rfl)
#print axioms proved
end Go.Proofs.YtdjncnnhobmhaaaDoor.timetableRoundTripDone
