/-
  The law OccupancyQueries returns true for every input of bulk at most 1048576: 'Rows.OccupancyQueriesUptoSaid'. No condition beyond the given statement's own.
-/
import Derived.Test.YtnhpkkecnfooaaaRows
import Derived.Test.YtnhpkkecnfooaaaQVC
import Derived.Test.YtnhpkkecnfooaaaQLA
import Derived.Test.YtnhpkkecnfooaaaQPC
import Derived.WalkKit
import Derived.ProofKit
import Derived.JoinedCond
set_option linter.unusedVariables false
set_option linter.unusedSimpArgs false
namespace Go.Proofs.Ytnhpkkecnfooaaa.occupancyQueriesDone
open Go.Vx

theorem own : ownKnob Try.prog.godebug = none := by kernel_rfl
theorem laidOut : laidOutB Try.prog = true := by kernel_rfl
def ash : List ASh := [.one (.int .i64), .one (.sl [.int .i64]), .one (.int .i64), .one (.int .i64), .one (.sl [.int .i64, .int .i64, .int .i64, .int .i64, .int .i64])]
theorem ash_eq : ashL Try.prog Try.f5.params.toList = some ash := by kernel_rfl
theorem params_ok : (Try.f5.params.toList.all fun t => Try.prog.readableRec t && decide (t < Try.prog.types.size)) = true := by kernel_rfl

theorem part_le {H : Type} {d : DataW H} : ∀ {l : List (DataW H)}, d ∈ l → Rows.uptoBulk d ≤ Rows.uptoBulkAll l
  | [], h => by cases h
  | x :: r, h => by
    simp only [Rows.uptoBulkAll]
    rcases List.mem_cons.1 h with e | e
    · subst e; omega
    · have := part_le e; omega
theorem one_le {H : Type} (d : DataW H) : 1 ≤ Rows.uptoBulk d := by
  cases d with
  | lit l => cases l <;> simp [Rows.uptoBulk]
  | nil => simp [Rows.uptoBulk]
  | ptr d => simp [Rows.uptoBulk]
  | slice elems spare => simp [Rows.uptoBulk]
  | agg parts => simp [Rows.uptoBulk]
  | iface t d => simp [Rows.uptoBulk]
  | map entries => simp [Rows.uptoBulk]
  | held h => simp [Rows.uptoBulk]
theorem length_le {H : Type} : ∀ l : List (DataW H), l.length ≤ Rows.uptoBulkAll l
  | [] => by simp [Rows.uptoBulkAll]
  | x :: r => by have := one_le x; have := length_le r; simp only [Rows.uptoBulkAll, List.length_cons]; omega
theorem slice_le {H : Type} (es sp : List (DataW H)) : es.length ≤ Rows.uptoBulk (.slice es sp) := by
  have := length_le es
  simp only [Rows.uptoBulk]
  omega
theorem bnd {H : Type} {enc : TypeId × Value → H} {W : World} {args : Array Value} {ds gs : List (DataW H)} {before : List MemPlace}
    (hW : DataW.Whole enc Try.prog Try.f5.params.toList Rows.occupancyQueriesSpec.vars false W args.toList ds gs before) (hk : Rows.uptoSmall H (ds ++ gs) = true) {avs : List AV}
    (hr : ArgsRd (fun _ => none) (SW W) (Vx.look ([] : List (Nat × Ob))) W args.toList avs) (s : Nat) (rows : List (List D)) (ha : avs[4]? = some (.d (.sl s rows))) : rows.length ≤ 1048576 := by
  obtain ⟨p, q, hA, _⟩ := hW
  obtain ⟨v, d, p', h1, h2, h3⟩ := trodAll_at hA (i := 4) (t := 24) (by kernel_rfl)
  have hb : Rows.uptoBulkAll (ds ++ gs) ≤ 1048576 := of_decide_eq_true hk
  have := slice_bulk (bulk := Rows.uptoBulk) slice_le Try.underlying24 h3 (hr.2 4 v _ h1 ha)
  have := part_le (l := ds ++ gs) (List.mem_append_left gs (List.mem_of_getElem? h2))
  omega

theorem walk (W : World) (args : Array Value) (avs : List AV) (ha : AFits ash avs) (hr : ArgsRd (fun _ => none) (SW W) (Vx.look ([] : List (Nat × Ob))) W args.toList avs) (hbd : ∀ (s : Nat) (rows : List (List D)), avs[4]? = some (.d (.sl s rows)) → rows.length ≤ 1048576) :
    Calls Try.prog 5 args W fun e w' => e = .returned (.bool true) ∧ RowKit.Below W.heap.size W w' := by
  match avs, ha with
  | [v0, v1, v2, v3, v4], ⟨⟨x0, e0, f0⟩, ⟨x1, e1, f1⟩, ⟨x2, e2, f2⟩, ⟨x3, e3, f3⟩, ⟨x4, e4, f4⟩, _⟩ =>
    subst e0 e1 e2 e3 e4
    obtain ⟨t, rfl, wt⟩ := fit_int f0
    obtain ⟨rows1, rfl⟩ := fit_sl f1
    obtain ⟨l, rfl, bl, hl⟩ := fit_ints f1
    obtain ⟨r, rfl, wr⟩ := fit_int f2
    obtain ⟨s, rfl, ws⟩ := fit_int f3
    obtain ⟨roraw, rfl⟩ := fit_sl f4
    have hbd := hbd _ _ rfl
    obtain ⟨raw, rfl, qraw, hraw⟩ := fit_structs (enc := Use.row) dec_use f4
    have hlaw := occQueriesA 9000000000000 (by omega) (l := l) (Nat.le_trans hl (by decide)) (raw := raw) (by simpa using hbd) qraw t r s
    have hv := (law19_OccupancyQueries_vfn 9000000000000 t (Vx.encI l) r s (encU raw) lawK).trans hlaw
    exact law_true (law19_OccupancyQueries_VC 9000000000000) Try.func5 lawK_ok hr hv

theorem contract (H : Type) (enc : TypeId × Value → H) (W : World) (base : Nat) (args : Array Value) (ds gs : List (DataW H)) (before : List MemPlace)
    (hval : ∀ (j : Nat) t v, Try.f5.params[j]? = some t → args[j]? = some v → Value.okWide Try.prog W .any base t v)
    (hW : DataW.Whole enc Try.prog Try.f5.params.toList Rows.occupancyQueriesSpec.vars false W args.toList ds gs before) (hk : Rows.uptoSmall H (ds ++ gs) = true) :
    Calls Try.prog 5 args W fun e W' => ∃ v, e = .returned v ∧ Rows.occupancyQueriesSpec.post enc Try.prog Try.f5 false true false false W args v W' :=
  law_contract laidOut rfl params_ok ash_eq (by kernel_rfl) Try.underlying4 hval hW
    (fun ds hd => by
      have hd : ds.length = 5 := hd
      match ds, hd with
      | [d0, d1, d2, d3, d4], _ => rfl)
    (fun avs ha hr => walk W args avs ha hr (bnd hW hk hr))

set_option maxRecDepth 100000 in
theorem lifted (os : Os) (started : os.Started) (H : Type) (enc : TypeId × Value → H) (F : Stop.Interp) :
    ReturnsInHanded {} Try.checked os 5 .any ((Rows.OpenSpec.upto Rows.occupancyQueriesSpec).pre6 enc Try.prog Try.f5 Rows.occupancyQueriesUptoRow.domain false) (((Rows.OpenSpec.upto Rows.occupancyQueriesSpec).at F).post enc Try.prog Try.f5 false true false false) := by
  refine returnsInHanded_of_cond (C := Try.checked) (s := Rows.OpenSpec.upto Rows.occupancyQueriesSpec) (k := Rows.uptoSmall) rfl own started (by kernel_rfl) Try.func5
    (OpenSpec.witness (enc := enc) (C := Try.checked) (s := Rows.OpenSpec.upto Rows.occupancyQueriesSpec) (k := Rows.uptoSmall) rfl false ⟨#[], #[.int .i64 0, .slice none 0 0, .int .i64 0, .int .i64 0, .slice none 0 0], []⟩ 8 (by kernel_rfl) (by kernel_rfl) (by kernel_rfl)
      (x := ([.lit (.int .i64 0), .nil, .lit (.int .i64 0), .lit (.int .i64 0), .nil], [], [])) (by kernel_rfl) rfl (by kernel_rfl)) ?_
  intro W base args ds gs before hval hW _ hk _
  exact contract H enc W base args ds gs before hval hW hk

theorem proved : Rows.OccupancyQueriesUptoSaid :=
  OpenClaim.holds_of_cond 5 Try.f5 rfl rfl rfl rfl rfl rfl rfl ⟨rfl, rfl, rfl, rfl, rfl⟩ rfl rfl rfl rfl rfl (by kernel_rfl) Try.func5 (by kernel_rfl)
    (of_decide_eq_true (by kernel_rfl)) (by unfold Func.isWrapper; first | (rw [if_pos (by decide +kernel)]; kernel_rfl) | (rw [if_neg (by decide +kernel)]; exact ⟨rfl, rfl⟩))
    (fun os started H enc _ F => lifted os started H enc F)
#print axioms proved
end Go.Proofs.Ytnhpkkecnfooaaa.occupancyQueriesDone
