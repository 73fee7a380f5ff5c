/-
  No cell of these rows narrows 'for every input' (looked for: loops, veiled, ifaces, maps, wideKeys, modest, calm, conditions, laid).
  DERIVED. THE GIVEN ROWS OF THIS SEAT. 3 by the template 'for every input the law returns true; each argument reads behind the call as it read before'; 0 by the template 'total and deterministic' (their statements: YtnfomkijfeokoaaGreatTotals.lean).
  GIVEN WITH THE SEED: the statements are not yours to turn. If you find one false, say at which input.
  Laid BY PROGRAM, IN A SANDBOX (cutbox-rows.mjs): the forced cells as the released guide's own fill.sh prints them over the translation 6a5c11962027e6d2… (all of the seat's roots in one cut). By AI agents, Wed Nov 11 2026. No macro, syntax, notation, axiom, sorry.
-/
import Derived.Test.YtnfomkijfeokoaaGreatChecked
import GoSem.Claim
import GoSem.ClaimJoined
import GoSem.ClaimMapViews
import Derived.JoinedTies
import Derived.KernelRfl
namespace Go.Proofs.YtnfomkijfeokoaaGreat
/- THE CELL 'sum', in the pinned program and in every row, IS THE sha256 OF THE DUMP (.gsa) THAT YtnfomkijfeokoaaGreatProg.lean LOADS. Nothing in Lean hashes anything: it is a label: what it is worth is what the hold of that sum in a sandbox is worth. -/
noncomputable def Tryz.pinned : Pinned := { name := "ytnfomkijfeokoaagreat", sum := "6a5c11962027e6d230c87bf63f1b60f021d57b923e955df2c4330d074dc265ae", checked := Tryz.checked }
namespace Rows
def none {H : Type} : Left H := { results := [], args := [] }

/-- 'railplanlaw20.PlatformAsPlanned': WHATEVER THE INPUT: true; the input reads as it did. -/
def platformAsPlannedSpec : ChangeSpec := { name := "platformAsPlanned", fn := fun _ => fun
  | [d1, d2] => { results := [.lit (.bool true)], args := [d1, d2] }
  | _ => none }
def platformAsPlannedRow : OpenClaim := { program := "ytnfomkijfeokoaagreat", sum := "6a5c11962027e6d230c87bf63f1b60f021d57b923e955df2c4330d074dc265ae", func := "railplan/railplanlaw20.PlatformAsPlanned", spec := "platformAsPlanned", unfollowed := true, recurses := true, apart := false }
def PlatformAsPlannedSaid : Prop := platformAsPlannedRow.holds Tryz.pinned (OpenSpec.ofChange platformAsPlannedSpec)

/-- ITS FALSE NEIGHBOUR: 'it returns false'. Refute it at one input. -/
def platformAsPlannedWrong : ChangeSpec := { name := "platformAsPlanned", fn := fun _ => fun
  | [d1, d2] => { results := [.lit (.bool false)], args := [d1, d2] }
  | _ => none }
def PlatformAsPlannedWrongFalsely : Prop := platformAsPlannedRow.holds Tryz.pinned (OpenSpec.ofChange platformAsPlannedWrong)

/-- 'railplanlaw19.OccupancyOfFeasibleTimes': WHATEVER THE INPUT: true; the input reads as it did. -/
def occupancyOfFeasibleTimesSpec : ChangeSpec := { name := "occupancyOfFeasibleTimes", fn := fun _ => fun
  | [d1, d2] => { results := [.lit (.bool true)], args := [d1, d2] }
  | _ => none }
def occupancyOfFeasibleTimesRow : OpenClaim := { program := "ytnfomkijfeokoaagreat", sum := "6a5c11962027e6d230c87bf63f1b60f021d57b923e955df2c4330d074dc265ae", func := "railplan/railplanlaw19.OccupancyOfFeasibleTimes", spec := "occupancyOfFeasibleTimes", unfollowed := true, recurses := true, apart := false }
def OccupancyOfFeasibleTimesSaid : Prop := occupancyOfFeasibleTimesRow.holds Tryz.pinned (OpenSpec.ofChange occupancyOfFeasibleTimesSpec)

/-- ITS FALSE NEIGHBOUR: 'it returns false'. Refute it at one input. -/
def occupancyOfFeasibleTimesWrong : ChangeSpec := { name := "occupancyOfFeasibleTimes", fn := fun _ => fun
  | [d1, d2] => { results := [.lit (.bool false)], args := [d1, d2] }
  | _ => none }
def OccupancyOfFeasibleTimesWrongFalsely : Prop := occupancyOfFeasibleTimesRow.holds Tryz.pinned (OpenSpec.ofChange occupancyOfFeasibleTimesWrong)

/-- 'railplanlaw19.OccupancyOfAllTimes': WHATEVER THE INPUT: true; the input reads as it did. -/
def occupancyOfAllTimesSpec : ChangeSpec := { name := "occupancyOfAllTimes", fn := fun _ => fun
  | [d1, d2] => { results := [.lit (.bool true)], args := [d1, d2] }
  | _ => none }
def occupancyOfAllTimesRow : OpenClaim := { program := "ytnfomkijfeokoaagreat", sum := "6a5c11962027e6d230c87bf63f1b60f021d57b923e955df2c4330d074dc265ae", func := "railplan/railplanlaw19.OccupancyOfAllTimes", spec := "occupancyOfAllTimes", unfollowed := true, recurses := true, apart := false }
def OccupancyOfAllTimesSaid : Prop := occupancyOfAllTimesRow.holds Tryz.pinned (OpenSpec.ofChange occupancyOfAllTimesSpec)

/-- ITS FALSE NEIGHBOUR: 'it returns false'. Refute it at one input. -/
def occupancyOfAllTimesWrong : ChangeSpec := { name := "occupancyOfAllTimes", fn := fun _ => fun
  | [d1, d2] => { results := [.lit (.bool false)], args := [d1, d2] }
  | _ => none }
def OccupancyOfAllTimesWrongFalsely : Prop := occupancyOfAllTimesRow.holds Tryz.pinned (OpenSpec.ofChange occupancyOfAllTimesWrong)

/- THE SECOND FORM. 'bulk': how many values and letters a reading holds, each counted each time it is reached (what is shared counts as often as it is met; a slice's spare places count too). A statement '..UptoSaid' is the law's where the arguments, and the package variables that the reading takes, are together of bulk at most 1048576: NARROWER than '..Said'. Prove '..Said' where nothing that the law and all that it calls make is longer than what came in: it says more and counts as full. Else prove '..UptoSaid'. A law counts once. -/
mutual
def uptoBulk {H : Type} : DataW H → Nat
  | .lit (.string bytes) => bytes.length + 1
  | .lit _ => 1
  | .nil => 1
  | .ptr d => uptoBulk d + 1
  | .slice elems spare => uptoBulkAll elems + uptoBulkAll spare + 1
  | .agg parts => uptoBulkAll parts + 1
  | .iface _ d => uptoBulk d + 1
  | .map entries => uptoBulkEntries entries + 1
  | .held _ => 1
def uptoBulkAll {H : Type} : List (DataW H) → Nat
  | [] => 0
  | d :: r => uptoBulk d + uptoBulkAll r
def uptoBulkEntries {H : Type} : List (Lit × DataW H) → Nat
  | [] => 0
  | x :: r => uptoBulkEntry x + uptoBulkEntries r
def uptoBulkEntry {H : Type} : Lit × DataW H → Nat
  | (.string bytes, d) => bytes.length + uptoBulk d + 1
  | (_, d) => uptoBulk d + 1
 end
def uptoSmall : (H : Type) → List (DataW H) → Bool := fun _ ds => decide (uptoBulkAll ds ≤ 1048576)
def OpenSpec.upto (s : _root_.Go.ChangeSpec) : _root_.Go.OpenSpec := { _root_.Go.OpenSpec.ofChange s with cond := some uptoSmall }

/-- 'railplanlaw20.PlatformAsPlanned', WHERE WHAT IT READS IS OF BULK AT MOST 1048576: true; the input reads as it did. -/
def platformAsPlannedUptoRow : OpenClaim := { program := "ytnfomkijfeokoaagreat", sum := "6a5c11962027e6d230c87bf63f1b60f021d57b923e955df2c4330d074dc265ae", func := "railplan/railplanlaw20.PlatformAsPlanned", spec := "platformAsPlanned", unfollowed := true, recurses := true, apart := false, narrowed := true }
def PlatformAsPlannedUptoSaid : Prop := platformAsPlannedUptoRow.holds Tryz.pinned (OpenSpec.upto platformAsPlannedSpec)

/-- 'railplanlaw19.OccupancyOfFeasibleTimes', WHERE WHAT IT READS IS OF BULK AT MOST 1048576: true; the input reads as it did. -/
def occupancyOfFeasibleTimesUptoRow : OpenClaim := { program := "ytnfomkijfeokoaagreat", sum := "6a5c11962027e6d230c87bf63f1b60f021d57b923e955df2c4330d074dc265ae", func := "railplan/railplanlaw19.OccupancyOfFeasibleTimes", spec := "occupancyOfFeasibleTimes", unfollowed := true, recurses := true, apart := false, narrowed := true }
def OccupancyOfFeasibleTimesUptoSaid : Prop := occupancyOfFeasibleTimesUptoRow.holds Tryz.pinned (OpenSpec.upto occupancyOfFeasibleTimesSpec)

/-- 'railplanlaw19.OccupancyOfAllTimes', WHERE WHAT IT READS IS OF BULK AT MOST 1048576: true; the input reads as it did. -/
def occupancyOfAllTimesUptoRow : OpenClaim := { program := "ytnfomkijfeokoaagreat", sum := "6a5c11962027e6d230c87bf63f1b60f021d57b923e955df2c4330d074dc265ae", func := "railplan/railplanlaw19.OccupancyOfAllTimes", spec := "occupancyOfAllTimes", unfollowed := true, recurses := true, apart := false, narrowed := true }
def OccupancyOfAllTimesUptoSaid : Prop := occupancyOfAllTimesUptoRow.holds Tryz.pinned (OpenSpec.upto occupancyOfAllTimesSpec)

end Rows
end Go.Proofs.YtnfomkijfeokoaaGreat
