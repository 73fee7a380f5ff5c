/-
  No cell of these rows narrows 'for every input' (looked for: loops, veiled, ifaces, maps, wideKeys, modest, calm, conditions, laid).
  DERIVED. THE GIVEN ROWS OF THIS SEAT. 3 by the template 'for every input the law returns true; each argument reads behind the call as it read before'; 0 by the template 'total and deterministic' (their statements: YtfgfecgjcggccaaGreatTotals.lean).
  GIVEN WITH THE SEED: the statements are not yours to turn. If you find one false, say at which input.
  Laid BY PROGRAM, IN A SANDBOX (cutbox-rows.mjs): the forced cells as the released guide's own fill.sh prints them over the translation e78e24b3864b44f9… (all of the seat's roots in one cut). By AI agents, Wed Nov 11 2026. No macro, syntax, notation, axiom, sorry.
-/
import Derived.Test.YtfgfecgjcggccaaGreatChecked
import GoSem.Claim
import GoSem.ClaimJoined
import GoSem.ClaimMapViews
import Derived.JoinedTies
import Derived.KernelRfl
namespace Go.Proofs.YtfgfecgjcggccaaGreat
/- THE CELL 'sum', in the pinned program and in every row, IS THE sha256 OF THE DUMP (.gsa) THAT YtfgfecgjcggccaaGreatProg.lean LOADS. Nothing in Lean hashes anything: it is a label: what it is worth is what the hold of that sum in a sandbox is worth. -/
noncomputable def Tryz.pinned : Pinned := { name := "ytfgfecgjcggccaagreat", sum := "e78e24b3864b44f9cf4aed44b228ea2797de88012c2e369abdde146b96014a27", checked := Tryz.checked }
namespace Rows
def none {H : Type} : Left H := { results := [], args := [] }

/-- 'railplanlaw11.NetworkBuildIsValid': WHATEVER THE INPUT: true; the input reads as it did. -/
def networkBuildIsValidSpec : ChangeSpec := { name := "networkBuildIsValid", fn := fun _ => fun
  | [d] => { results := [.lit (.bool true)], args := [d] }
  | _ => none }
def networkBuildIsValidRow : OpenClaim := { program := "ytfgfecgjcggccaagreat", sum := "e78e24b3864b44f9cf4aed44b228ea2797de88012c2e369abdde146b96014a27", func := "railplan/railplanlaw11.NetworkBuildIsValid", spec := "networkBuildIsValid", unfollowed := true, recurses := true, apart := false }
def NetworkBuildIsValidSaid : Prop := networkBuildIsValidRow.holds Tryz.pinned (OpenSpec.ofChange networkBuildIsValidSpec)

/-- ITS FALSE NEIGHBOUR: 'it returns false'. Refute it at one input. -/
def networkBuildIsValidWrong : ChangeSpec := { name := "networkBuildIsValid", fn := fun _ => fun
  | [d] => { results := [.lit (.bool false)], args := [d] }
  | _ => none }
def NetworkBuildIsValidWrongFalsely : Prop := networkBuildIsValidRow.holds Tryz.pinned (OpenSpec.ofChange networkBuildIsValidWrong)

/-- 'railplanlaw11.NetworkHeadwaysSeparate': WHATEVER THE INPUT: true; the input reads as it did. -/
def networkHeadwaysSeparateSpec : ChangeSpec := { name := "networkHeadwaysSeparate", fn := fun _ => fun
  | [d1, d2, d3, d4] => { results := [.lit (.bool true)], args := [d1, d2, d3, d4] }
  | _ => none }
def networkHeadwaysSeparateRow : OpenClaim := { program := "ytfgfecgjcggccaagreat", sum := "e78e24b3864b44f9cf4aed44b228ea2797de88012c2e369abdde146b96014a27", func := "railplan/railplanlaw11.NetworkHeadwaysSeparate", spec := "networkHeadwaysSeparate", unfollowed := true, recurses := true, apart := false }
def NetworkHeadwaysSeparateSaid : Prop := networkHeadwaysSeparateRow.holds Tryz.pinned (OpenSpec.ofChange networkHeadwaysSeparateSpec)

/-- ITS FALSE NEIGHBOUR: 'it returns false'. Refute it at one input. -/
def networkHeadwaysSeparateWrong : ChangeSpec := { name := "networkHeadwaysSeparate", fn := fun _ => fun
  | [d1, d2, d3, d4] => { results := [.lit (.bool false)], args := [d1, d2, d3, d4] }
  | _ => none }
def NetworkHeadwaysSeparateWrongFalsely : Prop := networkHeadwaysSeparateRow.holds Tryz.pinned (OpenSpec.ofChange networkHeadwaysSeparateWrong)

/-- 'railplanlaw11.NetworkHeadwaysAreExact': WHATEVER THE INPUT: true; the input reads as it did. -/
def networkHeadwaysAreExactSpec : ChangeSpec := { name := "networkHeadwaysAreExact", fn := fun _ => fun
  | [d1, d2, d3, d4] => { results := [.lit (.bool true)], args := [d1, d2, d3, d4] }
  | _ => none }
def networkHeadwaysAreExactRow : OpenClaim := { program := "ytfgfecgjcggccaagreat", sum := "e78e24b3864b44f9cf4aed44b228ea2797de88012c2e369abdde146b96014a27", func := "railplan/railplanlaw11.NetworkHeadwaysAreExact", spec := "networkHeadwaysAreExact", unfollowed := true, recurses := true, apart := false }
def NetworkHeadwaysAreExactSaid : Prop := networkHeadwaysAreExactRow.holds Tryz.pinned (OpenSpec.ofChange networkHeadwaysAreExactSpec)

/-- ITS FALSE NEIGHBOUR: 'it returns false'. Refute it at one input. -/
def networkHeadwaysAreExactWrong : ChangeSpec := { name := "networkHeadwaysAreExact", fn := fun _ => fun
  | [d1, d2, d3, d4] => { results := [.lit (.bool false)], args := [d1, d2, d3, d4] }
  | _ => none }
def NetworkHeadwaysAreExactWrongFalsely : Prop := networkHeadwaysAreExactRow.holds Tryz.pinned (OpenSpec.ofChange networkHeadwaysAreExactWrong)

/- THE SECOND FORM. 'bulk': how many values and letters a reading holds, each counted each time it is reached (what is shared counts as often as it is met; a slice's spare places count too). A statement '..UptoSaid' is the law's where the arguments, and the package variables that the reading takes, are together of bulk at most 1048576: NARROWER than '..Said'. Prove '..Said' where nothing that the law and all that it calls make is longer than what came in: it says more and counts as full. Else prove '..UptoSaid'. A law counts once. -/
mutual
def uptoBulk {H : Type} : DataW H → Nat
  | .lit (.string bytes) => bytes.length + 1
  | .lit _ => 1
  | .nil => 1
  | .ptr d => uptoBulk d + 1
  | .slice elems spare => uptoBulkAll elems + uptoBulkAll spare + 1
  | .agg parts => uptoBulkAll parts + 1
  | .iface _ d => uptoBulk d + 1
  | .map entries => uptoBulkEntries entries + 1
  | .held _ => 1
def uptoBulkAll {H : Type} : List (DataW H) → Nat
  | [] => 0
  | d :: r => uptoBulk d + uptoBulkAll r
def uptoBulkEntries {H : Type} : List (Lit × DataW H) → Nat
  | [] => 0
  | x :: r => uptoBulkEntry x + uptoBulkEntries r
def uptoBulkEntry {H : Type} : Lit × DataW H → Nat
  | (.string bytes, d) => bytes.length + uptoBulk d + 1
  | (_, d) => uptoBulk d + 1
 end
def uptoSmall : (H : Type) → List (DataW H) → Bool := fun _ ds => decide (uptoBulkAll ds ≤ 1048576)
def OpenSpec.upto (s : _root_.Go.ChangeSpec) : _root_.Go.OpenSpec := { _root_.Go.OpenSpec.ofChange s with cond := some uptoSmall }

/-- 'railplanlaw11.NetworkBuildIsValid', WHERE WHAT IT READS IS OF BULK AT MOST 1048576: true; the input reads as it did. -/
def networkBuildIsValidUptoRow : OpenClaim := { program := "ytfgfecgjcggccaagreat", sum := "e78e24b3864b44f9cf4aed44b228ea2797de88012c2e369abdde146b96014a27", func := "railplan/railplanlaw11.NetworkBuildIsValid", spec := "networkBuildIsValid", unfollowed := true, recurses := true, apart := false, narrowed := true }
def NetworkBuildIsValidUptoSaid : Prop := networkBuildIsValidUptoRow.holds Tryz.pinned (OpenSpec.upto networkBuildIsValidSpec)

/-- 'railplanlaw11.NetworkHeadwaysSeparate', WHERE WHAT IT READS IS OF BULK AT MOST 1048576: true; the input reads as it did. -/
def networkHeadwaysSeparateUptoRow : OpenClaim := { program := "ytfgfecgjcggccaagreat", sum := "e78e24b3864b44f9cf4aed44b228ea2797de88012c2e369abdde146b96014a27", func := "railplan/railplanlaw11.NetworkHeadwaysSeparate", spec := "networkHeadwaysSeparate", unfollowed := true, recurses := true, apart := false, narrowed := true }
def NetworkHeadwaysSeparateUptoSaid : Prop := networkHeadwaysSeparateUptoRow.holds Tryz.pinned (OpenSpec.upto networkHeadwaysSeparateSpec)

/-- 'railplanlaw11.NetworkHeadwaysAreExact', WHERE WHAT IT READS IS OF BULK AT MOST 1048576: true; the input reads as it did. -/
def networkHeadwaysAreExactUptoRow : OpenClaim := { program := "ytfgfecgjcggccaagreat", sum := "e78e24b3864b44f9cf4aed44b228ea2797de88012c2e369abdde146b96014a27", func := "railplan/railplanlaw11.NetworkHeadwaysAreExact", spec := "networkHeadwaysAreExact", unfollowed := true, recurses := true, apart := false, narrowed := true }
def NetworkHeadwaysAreExactUptoSaid : Prop := networkHeadwaysAreExactUptoRow.holds Tryz.pinned (OpenSpec.upto networkHeadwaysAreExactSpec)

end Rows
end Go.Proofs.YtfgfecgjcggccaaGreat
