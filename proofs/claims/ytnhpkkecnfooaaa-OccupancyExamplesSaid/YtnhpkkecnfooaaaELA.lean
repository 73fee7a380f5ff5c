/- Part of a proof: texts OccB OccA. No conditions of their own. -/
import Derived.Test.YtnhpkkecnfooaaaEVC
import Derived.Test.YtnhpkkecnfooaaaEFA
/-
  The occupancy laws' awake.
-/
namespace Go.Vx
theorem sortI_sorted {zs : List Int} (h : zs.Pairwise (fun x y => decide (x ≤ y) = true)) : sortI zs = zs := by
  unfold sortI
  exact List.mergeSort_of_pairwise h
theorem occAwake (n : Nat) (hn : 512 < n) : law19_awake n some = some true := by
  obtain ⟨m, rfl⟩ : ∃ m, n = m + 12 := ⟨n - 12, by omega⟩
  have h1 : occupancy_Free (m + 12) (5 : Int) [[D.int .i64 (0 : Int), D.int .i64 (3 : Int), D.int .i64 (1 : Int), D.int .i64 (2 : Int), D.int .i64 (0 : Int)]] some = some true := rfl
  have h2 : occupancy_At (m + 12) (5 : Int) [[D.int .i64 (0 : Int), D.int .i64 (3 : Int), D.int .i64 (1 : Int), D.int .i64 (2 : Int), D.int .i64 (0 : Int)]] (0 : Int) (7 : Int) some =
      gb true (intsX (intRowsS (sortI [3]))) [] fun z60 => gb true (room (List.length z60)) () fun u61 => some (intRowsS (compI z60)) := rfl
  rw [sortI_sorted (by simp)] at h2
  unfold law19_awake law19_awake_p1
  rw [h1, h2]
  rfl
end Go.Vx
/-
  The plain law OccupancyExamples.
-/
namespace Go.Vx
def exU : List (List D) := [[D.int .i64 (0 : Int), D.int .i64 (0 : Int), D.int .i64 (0 : Int), D.int .i64 (4 : Int), D.int .i64 (0 : Int)], [D.int .i64 (0 : Int), D.int .i64 (1 : Int), D.int .i64 (13 : Int), D.int .i64 (3 : Int), D.int .i64 (0 : Int)]]
theorem occExamplesA (n : Nat) (hn : 512 < n) : law19_OccupancyExamples n some = some true := by
  obtain ⟨m, rfl⟩ : ∃ m, n = m + 12 := ⟨n - 12, by omega⟩
  have h1 : occupancy_Conflicts (m + 12) 10 exU some = some [[D.int .i64 (0 : Int), D.int .i64 (1 : Int)]] := rfl
  have h2 : occupancy_Free (m + 12) 10 exU some = some false := rfl
  have h3 : occupancy_Free (m + 12) 20 exU some = some true := rfl
  have h4 : occupancy_At (m + 12) 10 exU 0 23 some = gb true (intsX (intRowsS (sortI [0, 1]))) [] fun z60 => gb true (room (List.length z60)) () fun u61 => some (intRowsS (compI z60)) := rfl
  rw [sortI_sorted (by simp)] at h4
  unfold law19_OccupancyExamples law19_OccupancyExamples_p1
  rw [show [[D.int .i64 (0 : Int), D.int .i64 (0 : Int), D.int .i64 (0 : Int), D.int .i64 (4 : Int), D.int .i64 (0 : Int)], [D.int .i64 (0 : Int), D.int .i64 (1 : Int), D.int .i64 (13 : Int), D.int .i64 (3 : Int), D.int .i64 (0 : Int)]] = exU from rfl, h1, h2, h3, h4]
  rfl
end Go.Vx
