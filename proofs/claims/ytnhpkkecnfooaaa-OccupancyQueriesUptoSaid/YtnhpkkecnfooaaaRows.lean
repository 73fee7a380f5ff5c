/-
  No cell of these rows narrows 'for every input' (looked for: loops, veiled, ifaces, maps, wideKeys, modest, calm, conditions, laid).
  DERIVED. THE GIVEN ROWS OF THIS SEAT. 4 by the template 'for every input the law returns true; each argument reads behind the call as it read before'; 0 by the template 'total and deterministic' (their statements: YtnhpkkecnfooaaaTotals.lean).
  GIVEN WITH THE SEED: the statements are not yours to turn. If you find one false, say at which input.
  Laid BY PROGRAM, IN A SANDBOX (cutbox-rows.mjs): the forced cells as the released guide's own fill.sh prints them over the translation 6066d0a777bfdd6d… (all of the seat's roots in one cut). By AI agents, Wed Nov 11 2026. No macro, syntax, notation, axiom, sorry.
-/
import Derived.Test.YtnhpkkecnfooaaaChecked
import GoSem.Claim
import GoSem.ClaimJoined
import GoSem.ClaimMapViews
import Derived.JoinedTies
import Derived.KernelRfl
namespace Go.Proofs.Ytnhpkkecnfooaaa
/- THE CELL 'sum', in the pinned program and in every row, IS THE sha256 OF THE DUMP (.gsa) THAT YtnhpkkecnfooaaaProg.lean LOADS. Nothing in Lean hashes anything: it is a label: what it is worth is what the hold of that sum in a sandbox is worth. -/
noncomputable def Try.pinned : Pinned := { name := "ytnhpkkecnfooaaa", sum := "6066d0a777bfdd6d9e7a2376ef31f4c0600d9da50d9710e6084edb5d1b0b02cd", checked := Try.checked }
namespace Rows
def none {H : Type} : Left H := { results := [], args := [] }

/-- 'railplanlaw19.OccupancyFreeMeansOne': WHATEVER THE INPUT: true; the input reads as it did. -/
def occupancyFreeMeansOneSpec : ChangeSpec := { name := "occupancyFreeMeansOne", fn := fun _ => fun
  | [d1, d2, d3, d4] => { results := [.lit (.bool true)], args := [d1, d2, d3, d4] }
  | _ => none }
def occupancyFreeMeansOneRow : OpenClaim := { program := "ytnhpkkecnfooaaa", sum := "6066d0a777bfdd6d9e7a2376ef31f4c0600d9da50d9710e6084edb5d1b0b02cd", func := "railplan/railplanlaw19.OccupancyFreeMeansOne", spec := "occupancyFreeMeansOne", unfollowed := true, recurses := true, apart := false }
def OccupancyFreeMeansOneSaid : Prop := occupancyFreeMeansOneRow.holds Try.pinned (OpenSpec.ofChange occupancyFreeMeansOneSpec)

/-- ITS FALSE NEIGHBOUR: 'it returns false'. Refute it at one input. -/
def occupancyFreeMeansOneWrong : ChangeSpec := { name := "occupancyFreeMeansOne", fn := fun _ => fun
  | [d1, d2, d3, d4] => { results := [.lit (.bool false)], args := [d1, d2, d3, d4] }
  | _ => none }
def OccupancyFreeMeansOneWrongFalsely : Prop := occupancyFreeMeansOneRow.holds Try.pinned (OpenSpec.ofChange occupancyFreeMeansOneWrong)

/-- 'railplanlaw19.OccupancyExamples': WHATEVER THE INPUT: true; the input reads as it did. -/
def occupancyExamplesSpec : ChangeSpec := { name := "occupancyExamples", fn := fun _ => fun
  | [] => { results := [.lit (.bool true)], args := [] }
  | _ => none }
def occupancyExamplesRow : OpenClaim := { program := "ytnhpkkecnfooaaa", sum := "6066d0a777bfdd6d9e7a2376ef31f4c0600d9da50d9710e6084edb5d1b0b02cd", func := "railplan/railplanlaw19.OccupancyExamples", spec := "occupancyExamples", unfollowed := true, recurses := true, apart := false }
def OccupancyExamplesSaid : Prop := occupancyExamplesRow.holds Try.pinned (OpenSpec.ofChange occupancyExamplesSpec)

/-- ITS FALSE NEIGHBOUR: 'it returns false'. Refute it at one input. -/
def occupancyExamplesWrong : ChangeSpec := { name := "occupancyExamples", fn := fun _ => fun
  | [] => { results := [.lit (.bool false)], args := [] }
  | _ => none }
def OccupancyExamplesWrongFalsely : Prop := occupancyExamplesRow.holds Try.pinned (OpenSpec.ofChange occupancyExamplesWrong)

/-- 'railplanlaw19.OccupancyQueries': WHATEVER THE INPUT: true; the input reads as it did. -/
def occupancyQueriesSpec : ChangeSpec := { name := "occupancyQueries", fn := fun _ => fun
  | [d1, d2, d3, d4, d5] => { results := [.lit (.bool true)], args := [d1, d2, d3, d4, d5] }
  | _ => none }
def occupancyQueriesRow : OpenClaim := { program := "ytnhpkkecnfooaaa", sum := "6066d0a777bfdd6d9e7a2376ef31f4c0600d9da50d9710e6084edb5d1b0b02cd", func := "railplan/railplanlaw19.OccupancyQueries", spec := "occupancyQueries", unfollowed := true, recurses := true, apart := false }
def OccupancyQueriesSaid : Prop := occupancyQueriesRow.holds Try.pinned (OpenSpec.ofChange occupancyQueriesSpec)

/-- ITS FALSE NEIGHBOUR: 'it returns false'. Refute it at one input. -/
def occupancyQueriesWrong : ChangeSpec := { name := "occupancyQueries", fn := fun _ => fun
  | [d1, d2, d3, d4, d5] => { results := [.lit (.bool false)], args := [d1, d2, d3, d4, d5] }
  | _ => none }
def OccupancyQueriesWrongFalsely : Prop := occupancyQueriesRow.holds Try.pinned (OpenSpec.ofChange occupancyQueriesWrong)

/-- 'railplanlaw19.OccupancyConflictIsCommon': WHATEVER THE INPUT: true; the input reads as it did. -/
def occupancyConflictIsCommonSpec : ChangeSpec := { name := "occupancyConflictIsCommon", fn := fun _ => fun
  | [d1, d2] => { results := [.lit (.bool true)], args := [d1, d2] }
  | _ => none }
def occupancyConflictIsCommonRow : OpenClaim := { program := "ytnhpkkecnfooaaa", sum := "6066d0a777bfdd6d9e7a2376ef31f4c0600d9da50d9710e6084edb5d1b0b02cd", func := "railplan/railplanlaw19.OccupancyConflictIsCommon", spec := "occupancyConflictIsCommon", unfollowed := true, recurses := true, apart := false }
def OccupancyConflictIsCommonSaid : Prop := occupancyConflictIsCommonRow.holds Try.pinned (OpenSpec.ofChange occupancyConflictIsCommonSpec)

/-- ITS FALSE NEIGHBOUR: 'it returns false'. Refute it at one input. -/
def occupancyConflictIsCommonWrong : ChangeSpec := { name := "occupancyConflictIsCommon", fn := fun _ => fun
  | [d1, d2] => { results := [.lit (.bool false)], args := [d1, d2] }
  | _ => none }
def OccupancyConflictIsCommonWrongFalsely : Prop := occupancyConflictIsCommonRow.holds Try.pinned (OpenSpec.ofChange occupancyConflictIsCommonWrong)

/- THE SECOND FORM. 'bulk': how many values and letters a reading holds, each counted each time it is reached (what is shared counts as often as it is met; a slice's spare places count too). A statement '..UptoSaid' is the law's where the arguments, and the package variables that the reading takes, are together of bulk at most 1048576: NARROWER than '..Said'. Prove '..Said' where nothing that the law and all that it calls make is longer than what came in: it says more and counts as full. Else prove '..UptoSaid'. A law counts once. -/
mutual
def uptoBulk {H : Type} : DataW H → Nat
  | .lit (.string bytes) => bytes.length + 1
  | .lit _ => 1
  | .nil => 1
  | .ptr d => uptoBulk d + 1
  | .slice elems spare => uptoBulkAll elems + uptoBulkAll spare + 1
  | .agg parts => uptoBulkAll parts + 1
  | .iface _ d => uptoBulk d + 1
  | .map entries => uptoBulkEntries entries + 1
  | .held _ => 1
def uptoBulkAll {H : Type} : List (DataW H) → Nat
  | [] => 0
  | d :: r => uptoBulk d + uptoBulkAll r
def uptoBulkEntries {H : Type} : List (Lit × DataW H) → Nat
  | [] => 0
  | x :: r => uptoBulkEntry x + uptoBulkEntries r
def uptoBulkEntry {H : Type} : Lit × DataW H → Nat
  | (.string bytes, d) => bytes.length + uptoBulk d + 1
  | (_, d) => uptoBulk d + 1
 end
def uptoSmall : (H : Type) → List (DataW H) → Bool := fun _ ds => decide (uptoBulkAll ds ≤ 1048576)
def OpenSpec.upto (s : _root_.Go.ChangeSpec) : _root_.Go.OpenSpec := { _root_.Go.OpenSpec.ofChange s with cond := some uptoSmall }

/-- 'railplanlaw19.OccupancyFreeMeansOne', WHERE WHAT IT READS IS OF BULK AT MOST 1048576: true; the input reads as it did. -/
def occupancyFreeMeansOneUptoRow : OpenClaim := { program := "ytnhpkkecnfooaaa", sum := "6066d0a777bfdd6d9e7a2376ef31f4c0600d9da50d9710e6084edb5d1b0b02cd", func := "railplan/railplanlaw19.OccupancyFreeMeansOne", spec := "occupancyFreeMeansOne", unfollowed := true, recurses := true, apart := false, narrowed := true }
def OccupancyFreeMeansOneUptoSaid : Prop := occupancyFreeMeansOneUptoRow.holds Try.pinned (OpenSpec.upto occupancyFreeMeansOneSpec)

/-- 'railplanlaw19.OccupancyExamples', WHERE WHAT IT READS IS OF BULK AT MOST 1048576: true; the input reads as it did. -/
def occupancyExamplesUptoRow : OpenClaim := { program := "ytnhpkkecnfooaaa", sum := "6066d0a777bfdd6d9e7a2376ef31f4c0600d9da50d9710e6084edb5d1b0b02cd", func := "railplan/railplanlaw19.OccupancyExamples", spec := "occupancyExamples", unfollowed := true, recurses := true, apart := false, narrowed := true }
def OccupancyExamplesUptoSaid : Prop := occupancyExamplesUptoRow.holds Try.pinned (OpenSpec.upto occupancyExamplesSpec)

/-- 'railplanlaw19.OccupancyQueries', WHERE WHAT IT READS IS OF BULK AT MOST 1048576: true; the input reads as it did. -/
def occupancyQueriesUptoRow : OpenClaim := { program := "ytnhpkkecnfooaaa", sum := "6066d0a777bfdd6d9e7a2376ef31f4c0600d9da50d9710e6084edb5d1b0b02cd", func := "railplan/railplanlaw19.OccupancyQueries", spec := "occupancyQueries", unfollowed := true, recurses := true, apart := false, narrowed := true }
def OccupancyQueriesUptoSaid : Prop := occupancyQueriesUptoRow.holds Try.pinned (OpenSpec.upto occupancyQueriesSpec)

/-- 'railplanlaw19.OccupancyConflictIsCommon', WHERE WHAT IT READS IS OF BULK AT MOST 1048576: true; the input reads as it did. -/
def occupancyConflictIsCommonUptoRow : OpenClaim := { program := "ytnhpkkecnfooaaa", sum := "6066d0a777bfdd6d9e7a2376ef31f4c0600d9da50d9710e6084edb5d1b0b02cd", func := "railplan/railplanlaw19.OccupancyConflictIsCommon", spec := "occupancyConflictIsCommon", unfollowed := true, recurses := true, apart := false, narrowed := true }
def OccupancyConflictIsCommonUptoSaid : Prop := occupancyConflictIsCommonUptoRow.holds Try.pinned (OpenSpec.upto occupancyConflictIsCommonSpec)

end Rows
end Go.Proofs.Ytnhpkkecnfooaaa
