/-
  DERIVED. GIVEN WITH THE SEED: THE CARDS: each row of YtdjncnnhobmhaaaDoorRows.lean that lists a variable, with what it lists TIED to the program's text (the seventh form; the later family's looks); each row that meets fmt, with fmt's text TOLD by the authors' own Lean function (tested against real Go, not proved from fmt's source: count such statements apart). THE CARD IS WHAT COUNTS. Prove the row's statement (the work); the ties are given (YtdjncnnhobmhaaaDoorTie.lean); close each card by the builder's one call (the guide's Derived/Test/ToyasCard.lean, 'card_holds'). Laid BY PROGRAM, IN A SANDBOX (cutbox-door.mjs). By AI agents, Wed Nov 11 2026. No macro, syntax, notation, axiom, sorry.
-/
import Derived.Test.YtdjncnnhobmhaaaDoorRows
import GoSem.ClaimSeven
namespace Go.Proofs.YtdjncnnhobmhaaaDoor
namespace Rows

/-- THE TIED CARD OF 'railplanlaw23.TimetableExamples'. -/
def timetableExamplesCard : Claim7 := { stood := { row := timetableExamplesRow, standIns := [], harness := (true, "2246d37ffc510c0b1412bcc6cda486ddf30ec8d83e03a7410f2cd8c0348dc069"), looks := false }, kinds := [], alts := [], laidByText := true, laidKinds := [.data, .data, .data, .data, .pinned], laidTests := true, laidLooks := .later }
def TimetableExamplesCardSaid : Prop := Claim7.holds Tryd.pinned (.plain (OpenSpec.ofChange timetableExamplesSpec)) timetableExamplesCard

/-- THE TIED CARD OF 'railplanlaw23.TimetableRoundTrip'. -/
def timetableRoundTripCard : Claim7 := { stood := { row := timetableRoundTripRow, standIns := [], harness := (true, "2246d37ffc510c0b1412bcc6cda486ddf30ec8d83e03a7410f2cd8c0348dc069"), looks := false }, kinds := [], alts := [], laidByText := true, laidKinds := [.data, .data, .data, .data, .pinned], laidTests := true, laidLooks := .later }
def TimetableRoundTripCardSaid : Prop := Claim7.holds Tryd.pinned (.plain (OpenSpec.ofChange timetableRoundTripSpec)) timetableRoundTripCard

/-- THE SECOND FORM's CARD OF 'railplanlaw23.TimetableExamples'. -/
def timetableExamplesUptoCard : Claim7 := { stood := { row := timetableExamplesUptoRow, standIns := [], harness := (true, "2246d37ffc510c0b1412bcc6cda486ddf30ec8d83e03a7410f2cd8c0348dc069"), looks := false }, kinds := [], alts := [], laidByText := true, laidKinds := [.data, .data, .data, .data, .pinned], laidTests := true, laidLooks := .later }
def TimetableExamplesUptoCardSaid : Prop := Claim7.holds Tryd.pinned (.plain (OpenSpec.upto timetableExamplesSpec)) timetableExamplesUptoCard

/-- THE SECOND FORM's CARD OF 'railplanlaw23.TimetableRoundTrip'. -/
def timetableRoundTripUptoCard : Claim7 := { stood := { row := timetableRoundTripUptoRow, standIns := [], harness := (true, "2246d37ffc510c0b1412bcc6cda486ddf30ec8d83e03a7410f2cd8c0348dc069"), looks := false }, kinds := [], alts := [], laidByText := true, laidKinds := [.data, .data, .data, .data, .pinned], laidTests := true, laidLooks := .later }
def TimetableRoundTripUptoCardSaid : Prop := Claim7.holds Tryd.pinned (.plain (OpenSpec.upto timetableRoundTripSpec)) timetableRoundTripUptoCard
end Rows
end Go.Proofs.YtdjncnnhobmhaaaDoor
