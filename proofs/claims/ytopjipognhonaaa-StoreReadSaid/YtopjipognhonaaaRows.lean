/-
  No cell of these rows narrows 'for every input' (looked for: loops, veiled, ifaces, maps, wideKeys, modest, calm, conditions, laid).
  DERIVED. THE GIVEN ROWS OF THIS SEAT. 9 by the template 'for every input the law returns true; each argument reads behind the call as it read before'; 0 by the template 'total and deterministic' (their statements: YtopjipognhonaaaTotals.lean).
  GIVEN WITH THE SEED: the statements are not yours to turn. If you find one false, say at which input.
  Laid BY PROGRAM, IN A SANDBOX (cutbox-rows.mjs): the forced cells as the released guide's own fill.sh prints them over the translation e1be05fb7a74c1a0… (all of the seat's roots in one cut). By AI agents, Wed Nov 11 2026. No macro, syntax, notation, axiom, sorry.
-/
import Derived.Test.YtopjipognhonaaaChecked
import GoSem.Claim
import GoSem.ClaimJoined
import GoSem.ClaimMapViews
import Derived.JoinedTies
import Derived.KernelRfl
namespace Go.Proofs.Ytopjipognhonaaa
/- THE CELL 'sum', in the pinned program and in every row, IS THE sha256 OF THE DUMP (.gsa) THAT YtopjipognhonaaaProg.lean LOADS. Nothing in Lean hashes anything: it is a label: what it is worth is what the hold of that sum in a sandbox is worth. -/
noncomputable def Try.pinned : Pinned := { name := "ytopjipognhonaaa", sum := "e1be05fb7a74c1a0c193866ce07b929270145fbe0e9711bfd88c6c1ffe154de0", checked := Try.checked }
namespace Rows
def none {H : Type} : Left H := { results := [], args := [] }

/-- 'railplanlaw41.StoreEncode': WHATEVER THE INPUT: true; the input reads as it did. -/
def storeEncodeSpec : ChangeSpec := { name := "storeEncode", fn := fun _ => fun
  | [d1, d2] => { results := [.lit (.bool true)], args := [d1, d2] }
  | _ => none }
def storeEncodeRow : OpenClaim := { program := "ytopjipognhonaaa", sum := "e1be05fb7a74c1a0c193866ce07b929270145fbe0e9711bfd88c6c1ffe154de0", func := "railplan/railplanlaw41.StoreEncode", spec := "storeEncode", apart := false }
def StoreEncodeSaid : Prop := storeEncodeRow.holds Try.pinned (OpenSpec.ofChange storeEncodeSpec)

/-- ITS FALSE NEIGHBOUR: 'it returns false'. Refute it at one input. -/
def storeEncodeWrong : ChangeSpec := { name := "storeEncode", fn := fun _ => fun
  | [d1, d2] => { results := [.lit (.bool false)], args := [d1, d2] }
  | _ => none }
def StoreEncodeWrongFalsely : Prop := storeEncodeRow.holds Try.pinned (OpenSpec.ofChange storeEncodeWrong)

/-- 'railplanlaw41.StoreScan': WHATEVER THE INPUT: true; the input reads as it did. -/
def storeScanSpec : ChangeSpec := { name := "storeScan", fn := fun _ => fun
  | [d1, d2, d3, d4, d5] => { results := [.lit (.bool true)], args := [d1, d2, d3, d4, d5] }
  | _ => none }
def storeScanRow : OpenClaim := { program := "ytopjipognhonaaa", sum := "e1be05fb7a74c1a0c193866ce07b929270145fbe0e9711bfd88c6c1ffe154de0", func := "railplan/railplanlaw41.StoreScan", spec := "storeScan", apart := false }
def StoreScanSaid : Prop := storeScanRow.holds Try.pinned (OpenSpec.ofChange storeScanSpec)

/-- ITS FALSE NEIGHBOUR: 'it returns false'. Refute it at one input. -/
def storeScanWrong : ChangeSpec := { name := "storeScan", fn := fun _ => fun
  | [d1, d2, d3, d4, d5] => { results := [.lit (.bool false)], args := [d1, d2, d3, d4, d5] }
  | _ => none }
def StoreScanWrongFalsely : Prop := storeScanRow.holds Try.pinned (OpenSpec.ofChange storeScanWrong)

/-- 'railplanlaw41.StoreAppend': WHATEVER THE INPUT: true; the input reads as it did. -/
def storeAppendSpec : ChangeSpec := { name := "storeAppend", fn := fun _ => fun
  | [d1, d2, d3, d4, d5] => { results := [.lit (.bool true)], args := [d1, d2, d3, d4, d5] }
  | _ => none }
def storeAppendRow : OpenClaim := { program := "ytopjipognhonaaa", sum := "e1be05fb7a74c1a0c193866ce07b929270145fbe0e9711bfd88c6c1ffe154de0", func := "railplan/railplanlaw41.StoreAppend", spec := "storeAppend", apart := false }
def StoreAppendSaid : Prop := storeAppendRow.holds Try.pinned (OpenSpec.ofChange storeAppendSpec)

/-- ITS FALSE NEIGHBOUR: 'it returns false'. Refute it at one input. -/
def storeAppendWrong : ChangeSpec := { name := "storeAppend", fn := fun _ => fun
  | [d1, d2, d3, d4, d5] => { results := [.lit (.bool false)], args := [d1, d2, d3, d4, d5] }
  | _ => none }
def StoreAppendWrongFalsely : Prop := storeAppendRow.holds Try.pinned (OpenSpec.ofChange storeAppendWrong)

/-- 'railplanlaw41.StoreCrash': WHATEVER THE INPUT: true; the input reads as it did. -/
def storeCrashSpec : ChangeSpec := { name := "storeCrash", fn := fun _ => fun
  | [d1, d2, d3] => { results := [.lit (.bool true)], args := [d1, d2, d3] }
  | _ => none }
def storeCrashRow : OpenClaim := { program := "ytopjipognhonaaa", sum := "e1be05fb7a74c1a0c193866ce07b929270145fbe0e9711bfd88c6c1ffe154de0", func := "railplan/railplanlaw41.StoreCrash", spec := "storeCrash", apart := false }
def StoreCrashSaid : Prop := storeCrashRow.holds Try.pinned (OpenSpec.ofChange storeCrashSpec)

/-- ITS FALSE NEIGHBOUR: 'it returns false'. Refute it at one input. -/
def storeCrashWrong : ChangeSpec := { name := "storeCrash", fn := fun _ => fun
  | [d1, d2, d3] => { results := [.lit (.bool false)], args := [d1, d2, d3] }
  | _ => none }
def StoreCrashWrongFalsely : Prop := storeCrashRow.holds Try.pinned (OpenSpec.ofChange storeCrashWrong)

/-- 'railplanlaw41.StoreAgain': WHATEVER THE INPUT: true; the input reads as it did. -/
def storeAgainSpec : ChangeSpec := { name := "storeAgain", fn := fun _ => fun
  | [d1, d2, d3] => { results := [.lit (.bool true)], args := [d1, d2, d3] }
  | _ => none }
def storeAgainRow : OpenClaim := { program := "ytopjipognhonaaa", sum := "e1be05fb7a74c1a0c193866ce07b929270145fbe0e9711bfd88c6c1ffe154de0", func := "railplan/railplanlaw41.StoreAgain", spec := "storeAgain", apart := false }
def StoreAgainSaid : Prop := storeAgainRow.holds Try.pinned (OpenSpec.ofChange storeAgainSpec)

/-- ITS FALSE NEIGHBOUR: 'it returns false'. Refute it at one input. -/
def storeAgainWrong : ChangeSpec := { name := "storeAgain", fn := fun _ => fun
  | [d1, d2, d3] => { results := [.lit (.bool false)], args := [d1, d2, d3] }
  | _ => none }
def StoreAgainWrongFalsely : Prop := storeAgainRow.holds Try.pinned (OpenSpec.ofChange storeAgainWrong)

/-- 'railplanlaw41.StoreHistory': WHATEVER THE INPUT: true; the input reads as it did. -/
def storeHistorySpec : ChangeSpec := { name := "storeHistory", fn := fun _ => fun
  | [d] => { results := [.lit (.bool true)], args := [d] }
  | _ => none }
def storeHistoryRow : OpenClaim := { program := "ytopjipognhonaaa", sum := "e1be05fb7a74c1a0c193866ce07b929270145fbe0e9711bfd88c6c1ffe154de0", func := "railplan/railplanlaw41.StoreHistory", spec := "storeHistory", apart := false }
def StoreHistorySaid : Prop := storeHistoryRow.holds Try.pinned (OpenSpec.ofChange storeHistorySpec)

/-- ITS FALSE NEIGHBOUR: 'it returns false'. Refute it at one input. -/
def storeHistoryWrong : ChangeSpec := { name := "storeHistory", fn := fun _ => fun
  | [d] => { results := [.lit (.bool false)], args := [d] }
  | _ => none }
def StoreHistoryWrongFalsely : Prop := storeHistoryRow.holds Try.pinned (OpenSpec.ofChange storeHistoryWrong)

/-- 'railplanlaw41.StoreCompact': WHATEVER THE INPUT: true; the input reads as it did. -/
def storeCompactSpec : ChangeSpec := { name := "storeCompact", fn := fun _ => fun
  | [d1, d2, d3, d4, d5] => { results := [.lit (.bool true)], args := [d1, d2, d3, d4, d5] }
  | _ => none }
def storeCompactRow : OpenClaim := { program := "ytopjipognhonaaa", sum := "e1be05fb7a74c1a0c193866ce07b929270145fbe0e9711bfd88c6c1ffe154de0", func := "railplan/railplanlaw41.StoreCompact", spec := "storeCompact", inPlace := ["internal/abi.NoEscape"], apart := false }
def StoreCompactSaid : Prop := storeCompactRow.holds Try.pinned (OpenSpec.ofChange storeCompactSpec)

/-- ITS FALSE NEIGHBOUR: 'it returns false'. Refute it at one input. -/
def storeCompactWrong : ChangeSpec := { name := "storeCompact", fn := fun _ => fun
  | [d1, d2, d3, d4, d5] => { results := [.lit (.bool false)], args := [d1, d2, d3, d4, d5] }
  | _ => none }
def StoreCompactWrongFalsely : Prop := storeCompactRow.holds Try.pinned (OpenSpec.ofChange storeCompactWrong)

/-- 'railplanlaw41.StoreFull': WHATEVER THE INPUT: true; the input reads as it did. -/
def storeFullSpec : ChangeSpec := { name := "storeFull", fn := fun _ => fun
  | [d] => { results := [.lit (.bool true)], args := [d] }
  | _ => none }
def storeFullRow : OpenClaim := { program := "ytopjipognhonaaa", sum := "e1be05fb7a74c1a0c193866ce07b929270145fbe0e9711bfd88c6c1ffe154de0", func := "railplan/railplanlaw41.StoreFull", spec := "storeFull", inPlace := ["internal/abi.NoEscape"], apart := false }
def StoreFullSaid : Prop := storeFullRow.holds Try.pinned (OpenSpec.ofChange storeFullSpec)

/-- ITS FALSE NEIGHBOUR: 'it returns false'. Refute it at one input. -/
def storeFullWrong : ChangeSpec := { name := "storeFull", fn := fun _ => fun
  | [d] => { results := [.lit (.bool false)], args := [d] }
  | _ => none }
def StoreFullWrongFalsely : Prop := storeFullRow.holds Try.pinned (OpenSpec.ofChange storeFullWrong)

/-- 'railplanlaw41.StoreRead': WHATEVER THE INPUT: true; the input reads as it did. -/
def storeReadSpec : ChangeSpec := { name := "storeRead", fn := fun _ => fun
  | [d1, d2, d3, d4, d5, d6, d7] => { results := [.lit (.bool true)], args := [d1, d2, d3, d4, d5, d6, d7] }
  | _ => none }
def storeReadRow : OpenClaim := { program := "ytopjipognhonaaa", sum := "e1be05fb7a74c1a0c193866ce07b929270145fbe0e9711bfd88c6c1ffe154de0", func := "railplan/railplanlaw41.StoreRead", spec := "storeRead", inPlace := ["internal/abi.NoEscape"], apart := false }
def StoreReadSaid : Prop := storeReadRow.holds Try.pinned (OpenSpec.ofChange storeReadSpec)

/-- ITS FALSE NEIGHBOUR: 'it returns false'. Refute it at one input. -/
def storeReadWrong : ChangeSpec := { name := "storeRead", fn := fun _ => fun
  | [d1, d2, d3, d4, d5, d6, d7] => { results := [.lit (.bool false)], args := [d1, d2, d3, d4, d5, d6, d7] }
  | _ => none }
def StoreReadWrongFalsely : Prop := storeReadRow.holds Try.pinned (OpenSpec.ofChange storeReadWrong)

/- THE SECOND FORM. 'bulk': how many values and letters a reading holds, each counted each time it is reached (what is shared counts as often as it is met; a slice's spare places count too). A statement '..UptoSaid' is the law's where the arguments, and the package variables that the reading takes, are together of bulk at most 1048576: NARROWER than '..Said'. Prove '..Said' where nothing that the law and all that it calls make is longer than what came in: it says more and counts as full. Else prove '..UptoSaid'. A law counts once. -/
mutual
def uptoBulk {H : Type} : DataW H → Nat
  | .lit (.string bytes) => bytes.length + 1
  | .lit _ => 1
  | .nil => 1
  | .ptr d => uptoBulk d + 1
  | .slice elems spare => uptoBulkAll elems + uptoBulkAll spare + 1
  | .agg parts => uptoBulkAll parts + 1
  | .iface _ d => uptoBulk d + 1
  | .map entries => uptoBulkEntries entries + 1
  | .held _ => 1
def uptoBulkAll {H : Type} : List (DataW H) → Nat
  | [] => 0
  | d :: r => uptoBulk d + uptoBulkAll r
def uptoBulkEntries {H : Type} : List (Lit × DataW H) → Nat
  | [] => 0
  | x :: r => uptoBulkEntry x + uptoBulkEntries r
def uptoBulkEntry {H : Type} : Lit × DataW H → Nat
  | (.string bytes, d) => bytes.length + uptoBulk d + 1
  | (_, d) => uptoBulk d + 1
 end
def uptoSmall : (H : Type) → List (DataW H) → Bool := fun _ ds => decide (uptoBulkAll ds ≤ 1048576)
def OpenSpec.upto (s : _root_.Go.ChangeSpec) : _root_.Go.OpenSpec := { _root_.Go.OpenSpec.ofChange s with cond := some uptoSmall }

/-- 'railplanlaw41.StoreEncode', WHERE WHAT IT READS IS OF BULK AT MOST 1048576: true; the input reads as it did. -/
def storeEncodeUptoRow : OpenClaim := { program := "ytopjipognhonaaa", sum := "e1be05fb7a74c1a0c193866ce07b929270145fbe0e9711bfd88c6c1ffe154de0", func := "railplan/railplanlaw41.StoreEncode", spec := "storeEncode", apart := false, narrowed := true }
def StoreEncodeUptoSaid : Prop := storeEncodeUptoRow.holds Try.pinned (OpenSpec.upto storeEncodeSpec)

/-- 'railplanlaw41.StoreScan', WHERE WHAT IT READS IS OF BULK AT MOST 1048576: true; the input reads as it did. -/
def storeScanUptoRow : OpenClaim := { program := "ytopjipognhonaaa", sum := "e1be05fb7a74c1a0c193866ce07b929270145fbe0e9711bfd88c6c1ffe154de0", func := "railplan/railplanlaw41.StoreScan", spec := "storeScan", apart := false, narrowed := true }
def StoreScanUptoSaid : Prop := storeScanUptoRow.holds Try.pinned (OpenSpec.upto storeScanSpec)

/-- 'railplanlaw41.StoreAppend', WHERE WHAT IT READS IS OF BULK AT MOST 1048576: true; the input reads as it did. -/
def storeAppendUptoRow : OpenClaim := { program := "ytopjipognhonaaa", sum := "e1be05fb7a74c1a0c193866ce07b929270145fbe0e9711bfd88c6c1ffe154de0", func := "railplan/railplanlaw41.StoreAppend", spec := "storeAppend", apart := false, narrowed := true }
def StoreAppendUptoSaid : Prop := storeAppendUptoRow.holds Try.pinned (OpenSpec.upto storeAppendSpec)

/-- 'railplanlaw41.StoreCrash', WHERE WHAT IT READS IS OF BULK AT MOST 1048576: true; the input reads as it did. -/
def storeCrashUptoRow : OpenClaim := { program := "ytopjipognhonaaa", sum := "e1be05fb7a74c1a0c193866ce07b929270145fbe0e9711bfd88c6c1ffe154de0", func := "railplan/railplanlaw41.StoreCrash", spec := "storeCrash", apart := false, narrowed := true }
def StoreCrashUptoSaid : Prop := storeCrashUptoRow.holds Try.pinned (OpenSpec.upto storeCrashSpec)

/-- 'railplanlaw41.StoreAgain', WHERE WHAT IT READS IS OF BULK AT MOST 1048576: true; the input reads as it did. -/
def storeAgainUptoRow : OpenClaim := { program := "ytopjipognhonaaa", sum := "e1be05fb7a74c1a0c193866ce07b929270145fbe0e9711bfd88c6c1ffe154de0", func := "railplan/railplanlaw41.StoreAgain", spec := "storeAgain", apart := false, narrowed := true }
def StoreAgainUptoSaid : Prop := storeAgainUptoRow.holds Try.pinned (OpenSpec.upto storeAgainSpec)

/-- 'railplanlaw41.StoreHistory', WHERE WHAT IT READS IS OF BULK AT MOST 1048576: true; the input reads as it did. -/
def storeHistoryUptoRow : OpenClaim := { program := "ytopjipognhonaaa", sum := "e1be05fb7a74c1a0c193866ce07b929270145fbe0e9711bfd88c6c1ffe154de0", func := "railplan/railplanlaw41.StoreHistory", spec := "storeHistory", apart := false, narrowed := true }
def StoreHistoryUptoSaid : Prop := storeHistoryUptoRow.holds Try.pinned (OpenSpec.upto storeHistorySpec)

/-- 'railplanlaw41.StoreCompact', WHERE WHAT IT READS IS OF BULK AT MOST 1048576: true; the input reads as it did. -/
def storeCompactUptoRow : OpenClaim := { program := "ytopjipognhonaaa", sum := "e1be05fb7a74c1a0c193866ce07b929270145fbe0e9711bfd88c6c1ffe154de0", func := "railplan/railplanlaw41.StoreCompact", spec := "storeCompact", inPlace := ["internal/abi.NoEscape"], apart := false, narrowed := true }
def StoreCompactUptoSaid : Prop := storeCompactUptoRow.holds Try.pinned (OpenSpec.upto storeCompactSpec)

/-- 'railplanlaw41.StoreFull', WHERE WHAT IT READS IS OF BULK AT MOST 1048576: true; the input reads as it did. -/
def storeFullUptoRow : OpenClaim := { program := "ytopjipognhonaaa", sum := "e1be05fb7a74c1a0c193866ce07b929270145fbe0e9711bfd88c6c1ffe154de0", func := "railplan/railplanlaw41.StoreFull", spec := "storeFull", inPlace := ["internal/abi.NoEscape"], apart := false, narrowed := true }
def StoreFullUptoSaid : Prop := storeFullUptoRow.holds Try.pinned (OpenSpec.upto storeFullSpec)

/-- 'railplanlaw41.StoreRead', WHERE WHAT IT READS IS OF BULK AT MOST 1048576: true; the input reads as it did. -/
def storeReadUptoRow : OpenClaim := { program := "ytopjipognhonaaa", sum := "e1be05fb7a74c1a0c193866ce07b929270145fbe0e9711bfd88c6c1ffe154de0", func := "railplan/railplanlaw41.StoreRead", spec := "storeRead", inPlace := ["internal/abi.NoEscape"], apart := false, narrowed := true }
def StoreReadUptoSaid : Prop := storeReadUptoRow.holds Try.pinned (OpenSpec.upto storeReadSpec)

end Rows
end Go.Proofs.Ytopjipognhonaaa
