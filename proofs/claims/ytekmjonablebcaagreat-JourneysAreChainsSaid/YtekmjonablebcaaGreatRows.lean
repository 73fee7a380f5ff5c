/-
  No cell of these rows narrows 'for every input' (looked for: loops, veiled, ifaces, maps, wideKeys, modest, calm, conditions, laid).
  DERIVED. THE GIVEN ROWS OF THIS SEAT. 4 by the template 'for every input the law returns true; each argument reads behind the call as it read before'; 0 by the template 'total and deterministic' (their statements: YtekmjonablebcaaGreatTotals.lean).
  GIVEN WITH THE SEED: the statements are not yours to turn. If you find one false, say at which input.
  Laid BY PROGRAM, IN A SANDBOX (cutbox-rows.mjs): the forced cells as the released guide's own fill.sh prints them over the translation c6a696ee2f350a54… (all of the seat's roots in one cut). By AI agents, Wed Nov 11 2026. No macro, syntax, notation, axiom, sorry.
-/
import Derived.Test.YtekmjonablebcaaGreatChecked
import GoSem.Claim
import GoSem.ClaimJoined
import GoSem.ClaimMapViews
import Derived.JoinedTies
import Derived.KernelRfl
namespace Go.Proofs.YtekmjonablebcaaGreat
/- THE CELL 'sum', in the pinned program and in every row, IS THE sha256 OF THE DUMP (.gsa) THAT YtekmjonablebcaaGreatProg.lean LOADS. Nothing in Lean hashes anything: it is a label: what it is worth is what the hold of that sum in a sandbox is worth. -/
noncomputable def Tryz.pinned : Pinned := { name := "ytekmjonablebcaagreat", sum := "c6a696ee2f350a54a73b0c41333aaf3e2aee3c9fb832e46bae180cd8ebee355e", checked := Tryz.checked }
namespace Rows
def none {H : Type} : Left H := { results := [], args := [] }

/-- 'railplanlaw21.JourneysTotal': WHATEVER THE INPUT: true; the input reads as it did. -/
def journeysTotalSpec : ChangeSpec := { name := "journeysTotal", fn := fun _ => fun
  | [d] => { results := [.lit (.bool true)], args := [d] }
  | _ => none }
def journeysTotalRow : OpenClaim := { program := "ytekmjonablebcaagreat", sum := "c6a696ee2f350a54a73b0c41333aaf3e2aee3c9fb832e46bae180cd8ebee355e", func := "railplan/railplanlaw21.JourneysTotal", spec := "journeysTotal", unfollowed := true, recurses := true, apart := false }
def JourneysTotalSaid : Prop := journeysTotalRow.holds Tryz.pinned (OpenSpec.ofChange journeysTotalSpec)

/-- ITS FALSE NEIGHBOUR: 'it returns false'. Refute it at one input. -/
def journeysTotalWrong : ChangeSpec := { name := "journeysTotal", fn := fun _ => fun
  | [d] => { results := [.lit (.bool false)], args := [d] }
  | _ => none }
def JourneysTotalWrongFalsely : Prop := journeysTotalRow.holds Tryz.pinned (OpenSpec.ofChange journeysTotalWrong)

/-- 'railplanlaw21.JourneysAreChains': WHATEVER THE INPUT: true; the input reads as it did. -/
def journeysAreChainsSpec : ChangeSpec := { name := "journeysAreChains", fn := fun _ => fun
  | [d1, d2, d3] => { results := [.lit (.bool true)], args := [d1, d2, d3] }
  | _ => none }
def journeysAreChainsRow : OpenClaim := { program := "ytekmjonablebcaagreat", sum := "c6a696ee2f350a54a73b0c41333aaf3e2aee3c9fb832e46bae180cd8ebee355e", func := "railplan/railplanlaw21.JourneysAreChains", spec := "journeysAreChains", unfollowed := true, recurses := true, apart := false }
def JourneysAreChainsSaid : Prop := journeysAreChainsRow.holds Tryz.pinned (OpenSpec.ofChange journeysAreChainsSpec)

/-- ITS FALSE NEIGHBOUR: 'it returns false'. Refute it at one input. -/
def journeysAreChainsWrong : ChangeSpec := { name := "journeysAreChains", fn := fun _ => fun
  | [d1, d2, d3] => { results := [.lit (.bool false)], args := [d1, d2, d3] }
  | _ => none }
def JourneysAreChainsWrongFalsely : Prop := journeysAreChainsRow.holds Tryz.pinned (OpenSpec.ofChange journeysAreChainsWrong)

/-- 'railplanlaw21.JourneysOfARide': WHATEVER THE INPUT: true; the input reads as it did. -/
def journeysOfARideSpec : ChangeSpec := { name := "journeysOfARide", fn := fun _ => fun
  | [d1, d2] => { results := [.lit (.bool true)], args := [d1, d2] }
  | _ => none }
def journeysOfARideRow : OpenClaim := { program := "ytekmjonablebcaagreat", sum := "c6a696ee2f350a54a73b0c41333aaf3e2aee3c9fb832e46bae180cd8ebee355e", func := "railplan/railplanlaw21.JourneysOfARide", spec := "journeysOfARide", unfollowed := true, recurses := true, apart := false }
def JourneysOfARideSaid : Prop := journeysOfARideRow.holds Tryz.pinned (OpenSpec.ofChange journeysOfARideSpec)

/-- ITS FALSE NEIGHBOUR: 'it returns false'. Refute it at one input. -/
def journeysOfARideWrong : ChangeSpec := { name := "journeysOfARide", fn := fun _ => fun
  | [d1, d2] => { results := [.lit (.bool false)], args := [d1, d2] }
  | _ => none }
def JourneysOfARideWrongFalsely : Prop := journeysOfARideRow.holds Tryz.pinned (OpenSpec.ofChange journeysOfARideWrong)

/-- 'railplanlaw21.JourneysShift': WHATEVER THE INPUT: true; the input reads as it did. -/
def journeysShiftSpec : ChangeSpec := { name := "journeysShift", fn := fun _ => fun
  | [d1, d2, d3, d4] => { results := [.lit (.bool true)], args := [d1, d2, d3, d4] }
  | _ => none }
def journeysShiftRow : OpenClaim := { program := "ytekmjonablebcaagreat", sum := "c6a696ee2f350a54a73b0c41333aaf3e2aee3c9fb832e46bae180cd8ebee355e", func := "railplan/railplanlaw21.JourneysShift", spec := "journeysShift", unfollowed := true, recurses := true, apart := false }
def JourneysShiftSaid : Prop := journeysShiftRow.holds Tryz.pinned (OpenSpec.ofChange journeysShiftSpec)

/-- ITS FALSE NEIGHBOUR: 'it returns false'. Refute it at one input. -/
def journeysShiftWrong : ChangeSpec := { name := "journeysShift", fn := fun _ => fun
  | [d1, d2, d3, d4] => { results := [.lit (.bool false)], args := [d1, d2, d3, d4] }
  | _ => none }
def JourneysShiftWrongFalsely : Prop := journeysShiftRow.holds Tryz.pinned (OpenSpec.ofChange journeysShiftWrong)

/- THE SECOND FORM. 'bulk': how many values and letters a reading holds, each counted each time it is reached (what is shared counts as often as it is met; a slice's spare places count too). A statement '..UptoSaid' is the law's where the arguments, and the package variables that the reading takes, are together of bulk at most 1048576: NARROWER than '..Said'. Prove '..Said' where nothing that the law and all that it calls make is longer than what came in: it says more and counts as full. Else prove '..UptoSaid'. A law counts once. -/
mutual
def uptoBulk {H : Type} : DataW H → Nat
  | .lit (.string bytes) => bytes.length + 1
  | .lit _ => 1
  | .nil => 1
  | .ptr d => uptoBulk d + 1
  | .slice elems spare => uptoBulkAll elems + uptoBulkAll spare + 1
  | .agg parts => uptoBulkAll parts + 1
  | .iface _ d => uptoBulk d + 1
  | .map entries => uptoBulkEntries entries + 1
  | .held _ => 1
def uptoBulkAll {H : Type} : List (DataW H) → Nat
  | [] => 0
  | d :: r => uptoBulk d + uptoBulkAll r
def uptoBulkEntries {H : Type} : List (Lit × DataW H) → Nat
  | [] => 0
  | x :: r => uptoBulkEntry x + uptoBulkEntries r
def uptoBulkEntry {H : Type} : Lit × DataW H → Nat
  | (.string bytes, d) => bytes.length + uptoBulk d + 1
  | (_, d) => uptoBulk d + 1
 end
def uptoSmall : (H : Type) → List (DataW H) → Bool := fun _ ds => decide (uptoBulkAll ds ≤ 1048576)
def OpenSpec.upto (s : _root_.Go.ChangeSpec) : _root_.Go.OpenSpec := { _root_.Go.OpenSpec.ofChange s with cond := some uptoSmall }

/-- 'railplanlaw21.JourneysTotal', WHERE WHAT IT READS IS OF BULK AT MOST 1048576: true; the input reads as it did. -/
def journeysTotalUptoRow : OpenClaim := { program := "ytekmjonablebcaagreat", sum := "c6a696ee2f350a54a73b0c41333aaf3e2aee3c9fb832e46bae180cd8ebee355e", func := "railplan/railplanlaw21.JourneysTotal", spec := "journeysTotal", unfollowed := true, recurses := true, apart := false, narrowed := true }
def JourneysTotalUptoSaid : Prop := journeysTotalUptoRow.holds Tryz.pinned (OpenSpec.upto journeysTotalSpec)

/-- 'railplanlaw21.JourneysAreChains', WHERE WHAT IT READS IS OF BULK AT MOST 1048576: true; the input reads as it did. -/
def journeysAreChainsUptoRow : OpenClaim := { program := "ytekmjonablebcaagreat", sum := "c6a696ee2f350a54a73b0c41333aaf3e2aee3c9fb832e46bae180cd8ebee355e", func := "railplan/railplanlaw21.JourneysAreChains", spec := "journeysAreChains", unfollowed := true, recurses := true, apart := false, narrowed := true }
def JourneysAreChainsUptoSaid : Prop := journeysAreChainsUptoRow.holds Tryz.pinned (OpenSpec.upto journeysAreChainsSpec)

/-- 'railplanlaw21.JourneysOfARide', WHERE WHAT IT READS IS OF BULK AT MOST 1048576: true; the input reads as it did. -/
def journeysOfARideUptoRow : OpenClaim := { program := "ytekmjonablebcaagreat", sum := "c6a696ee2f350a54a73b0c41333aaf3e2aee3c9fb832e46bae180cd8ebee355e", func := "railplan/railplanlaw21.JourneysOfARide", spec := "journeysOfARide", unfollowed := true, recurses := true, apart := false, narrowed := true }
def JourneysOfARideUptoSaid : Prop := journeysOfARideUptoRow.holds Tryz.pinned (OpenSpec.upto journeysOfARideSpec)

/-- 'railplanlaw21.JourneysShift', WHERE WHAT IT READS IS OF BULK AT MOST 1048576: true; the input reads as it did. -/
def journeysShiftUptoRow : OpenClaim := { program := "ytekmjonablebcaagreat", sum := "c6a696ee2f350a54a73b0c41333aaf3e2aee3c9fb832e46bae180cd8ebee355e", func := "railplan/railplanlaw21.JourneysShift", spec := "journeysShift", unfollowed := true, recurses := true, apart := false, narrowed := true }
def JourneysShiftUptoSaid : Prop := journeysShiftUptoRow.holds Tryz.pinned (OpenSpec.upto journeysShiftSpec)

end Rows
end Go.Proofs.YtekmjonablebcaaGreat
