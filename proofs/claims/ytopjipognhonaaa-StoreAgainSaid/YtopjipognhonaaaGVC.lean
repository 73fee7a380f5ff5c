/- Part of a proof: texts VxGen3 VxGen4 VxHand. No conditions of their own. -/
import Derived.Test.YtopjipognhonaaaGVB
/-
  Contracts by shape: the callee sees some of the caller's objects, arrays and function values among them.
-/
namespace Go.Vx
section
variable {P : Program} {R : Type}

mutual
/-- All names lie in the map's domain; no guard. -/
def dm (ρ : List (Nat × Nat)) : AV → Bool
  | .ptr j _ => (look ρ j).isSome
  | .arr j => (look ρ j).isSome
  | .ap j _ _ => (look ρ j).isSome
  | .ag l => dmL ρ l
  | .tup l => dmL ρ l
  | .fn _ l => dmL ρ l
  | .gd .. => false
  | _ => true
def dmL (ρ : List (Nat × Nat)) : List AV → Bool
  | [] => true
  | a :: r => dm ρ a && dmL ρ r
end

theorem dmL_at {ρ : List (Nat × Nat)} : ∀ {l : List AV} {i : Nat} {x : AV}, dmL ρ l = true → l[i]? = some x → dm ρ x = true
  | a :: r, 0, x, h, hx => by
    simp only [dmL, Bool.and_eq_true] at h
    simp at hx; subst hx; exact h.1
  | a :: r, i + 1, x, h, hx => by
    simp only [dmL, Bool.and_eq_true] at h
    exact dmL_at h.2 (by simpa using hx)

section
variable {ρ : List (Nat × Nat)} {β β' : Nat → Option Nat} {S : Nat → Prop} {h h' : Nat → Option Ob} {w : World} {tm : Nat → Value}

theorem unren (hβ : ∀ j l, look ρ j = some l → β' j = β l) (hh : ∀ j l, look ρ j = some l → (h l).isSome = true ∧ ∀ e s rows, h l = some (.arr e s rows) → h' j = some (.arr e s rows)) :
    ∀ {v : Value} {y : AV}, RdA β S h w tm v y → ∀ x : AV, dm ρ x = true → y = renA ρ x → RdA β' S h' w tm v x := by
  intro v y hv
  induction hv with
  | top v =>
    intro x hd he
    cases x <;> simp only [renA, reduceCtorEq] at he
    case top => exact .top v
    case ptr j o => simp only [dm] at hd; obtain ⟨l, hl⟩ := Option.isSome_iff_exists.1 hd; rw [hl] at he; cases he
    case arr j => simp only [dm] at hd; obtain ⟨l, hl⟩ := Option.isSome_iff_exists.1 hd; rw [hl] at he; cases he
    case ap j i o => simp only [dm] at hd; obtain ⟨l, hl⟩ := Option.isSome_iff_exists.1 hd; rw [hl] at he; cases he
    case gd => simp [dm] at hd
  | d v z hz =>
    intro x hd he
    cases x <;> simp only [renA, reduceCtorEq] at he
    case d => injection he with he; subst he; exact .d v _ hz
    case ptr j o => split at he <;> cases he
    case arr j => split at he <;> cases he
    case ap j i o => split at he <;> cases he
  | nil =>
    intro x hd he
    cases x <;> simp only [renA, reduceCtorEq] at he
    case nil => exact .nil
    case ptr j o => split at he <;> cases he
    case arr j => split at he <;> cases he
    case ap j i o => split at he <;> cases he
  | ag cs l hl _ ih =>
    intro x hd he
    cases x <;> simp only [renA, reduceCtorEq] at he
    case ag r =>
      injection he with he
      subst he
      rw [renL_length] at hl
      refine .ag cs r hl fun i z hz => ?_
      exact ih i (renA ρ z) (by rw [renL_get, hz]; rfl) z (dmL_at (by simpa [dm] using hd) hz) rfl
    case ptr j o => split at he <;> cases he
    case arr j => split at he <;> cases he
    case ap j i o => split at he <;> cases he
  | tup cs l hl _ ih =>
    intro x hd he
    cases x <;> simp only [renA, reduceCtorEq] at he
    case tup r =>
      injection he with he
      subst he
      rw [renL_length] at hl
      refine .tup cs r hl fun i z hz => ?_
      exact ih i (renA ρ z) (by rw [renL_get, hz]; rfl) z (dmL_at (by simpa [dm] using hd) hz) rfl
    case ptr j o => split at he <;> cases he
    case arr j => split at he <;> cases he
    case ap j i o => split at he <;> cases he
  | fn f cs l hl _ ih =>
    intro x hd he
    cases x <;> simp only [renA, reduceCtorEq] at he
    case fn g r =>
      injection he with he1 he2
      subst he1
      subst he2
      rw [renL_length] at hl
      refine .fn f cs r hl fun i z hz => ?_
      exact ih i (renA ρ z) (by rw [renL_get, hz]; rfl) z (dmL_at (by simpa [dm] using hd) hz) rfl
    case ptr j o => split at he <;> cases he
    case arr j => split at he <;> cases he
    case ap j i o => split at he <;> cases he
  | fs ad s rows hx =>
    intro x hd he
    cases x <;> simp only [renA, reduceCtorEq] at he
    case fs => injection he with e1 e2; subst e1 e2; exact .fs ad _ _ hx
    case ptr j o => split at he <;> cases he
    case arr j => split at he <;> cases he
    case ap j i o => split at he <;> cases he
  | ptr l off b hb =>
    intro x hd he
    cases x <;> simp only [renA, reduceCtorEq] at he
    case ptr j o =>
      split at he
      · rename_i l' hl'
        injection he with e1 e2
        subst e1 e2
        exact .ptr j _ b ((hβ j _ hl').trans hb)
      · cases he
    case arr j => split at he <;> cases he
    case ap j i o => split at he <;> cases he
  | el ad row off c hs hc hr =>
    intro x hd he
    cases x <;> simp only [renA, reduceCtorEq] at he
    case el r o => injection he with e1 e2; subst e1 e2; exact .el ad _ _ c hs hc hr
    case ptr j o => split at he <;> cases he
    case arr j => split at he <;> cases he
    case ap j i o => split at he <;> cases he
  | arr0 l e s hb hk =>
    intro x hd he
    cases x <;> simp only [renA, reduceCtorEq] at he
    case arr j =>
      split at he
      · rename_i l' hl'
        injection he with e1
        subst e1
        exact .arr0 j e s ((hβ j _ hl').trans hb) ((hh j _ hl').2 _ _ _ hk)
      · cases he
    case ptr j o => split at he <;> cases he
    case ap j i o => split at he <;> cases he
  | arr l b cap e s rows cs ty fz hb hk hw hcs hcap hmax =>
    intro x hd he
    cases x <;> simp only [renA, reduceCtorEq] at he
    case arr j =>
      split at he
      · rename_i l' hl'
        injection he with e1
        subst e1
        exact .arr j b cap e s rows cs ty fz ((hβ j _ hl').trans hb) ((hh j _ hl').2 _ _ _ hk) hw hcs hcap hmax
      · cases he
    case ptr j o => split at he <;> cases he
    case ap j i o => split at he <;> cases he
  | ap l i off b e s rows hb hk =>
    intro x hd he
    cases x <;> simp only [renA, reduceCtorEq] at he
    case ap j i' o =>
      split at he
      · rename_i l' hl'
        injection he with e1 e2 e3
        subst e1 e2 e3
        exact .ap j _ _ b e s rows ((hβ j _ hl').trans hb) ((hh j _ hl').2 _ _ _ hk)
      · cases he
    case ptr j o => split at he <;> cases he
    case arr j => split at he <;> cases he
  | dang v av l hl hk h1 =>
    intro x hd he
    exfalso
    cases x with
    | ptr j o => simp only [renA] at he; split at he <;> (subst he; simp [locOf] at hl)
    | arr j =>
      simp only [renA] at he
      split at he
      · rename_i l' hl'
        subst he
        simp [locOf] at hl
        subst hl
        have := (hh j _ hl').1
        rw [hk] at this
        cases this
      · subst he; simp [locOf] at hl
    | ap j i o =>
      simp only [renA] at he
      split at he
      · rename_i l' hl'
        subst he
        simp [locOf] at hl
        subst hl
        have := (hh j _ hl').1
        rw [hk] at this
        cases this
      · subst he; simp [locOf] at hl
    | _ => simp only [renA] at he; subst he; simp [locOf] at hl
  | gdT v t b av ht hv ih =>
    intro x hd he
    cases x <;> simp only [renA, reduceCtorEq] at he
    case ptr j o => split at he <;> cases he
    case arr j => split at he <;> cases he
    case ap j i o => split at he <;> cases he
  | gdF t b av ht =>
    intro x hd he
    cases x <;> simp only [renA, reduceCtorEq] at he
    case ptr j o => split at he <;> cases he
    case arr j => split at he <;> cases he
    case ap j i o => split at he <;> cases he

end

/-- A cell of the caller's, and how the callee sees it. -/
def CLe (ρ : List (Nat × Nat)) (c c' : AV) : Prop := (lf c' = true ∧ AVle c c') ∨ (dm ρ c' = true ∧ c = renA ρ c')

inductive CLeL (ρ : List (Nat × Nat)) : List AV → List AV → Prop
  | nil : CLeL ρ [] []
  | cons {a b : AV} {l r : List AV} (h : CLe ρ a b) (t : CLeL ρ l r) : CLeL ρ (a :: l) (b :: r)

theorem CLeL.length {ρ : List (Nat × Nat)} {l r : List AV} (h : CLeL ρ l r) : l.length = r.length := by induction h <;> simp [*]
theorem CLeL.at {ρ : List (Nat × Nat)} {l r : List AV} (h : CLeL ρ l r) : ∀ (i : Nat) (x : AV), r[i]? = some x → ∃ y, l[i]? = some y ∧ CLe ρ y x := by
  induction h with
  | nil => intro i x hx; simp at hx
  | cons h0 _ ih =>
    intro i x hx
    cases i with
    | zero => simp at hx; subst hx; exact ⟨_, rfl, h0⟩
    | succ i => obtain ⟨y, h1, h2⟩ := ih i x (by simpa using hx); exact ⟨y, by simpa using h1, h2⟩

inductive OLe (ρ : List (Nat × Nat)) : Ob → Ob → Prop
  | box {cs cs' : List AV} (h : CLeL ρ cs cs') : OLe ρ (.box cs) (.box cs')
  | arr (e s : Nat) (rows : List (List D)) : OLe ρ (.arr e s rows) (.arr e s rows)

/-- How an object of the caller's comes back. -/
def EndOk (o o' : Option Ob) : Prop :=
  (∃ c c', o = some (.box c) ∧ o' = some (.box c') ∧ c'.length = c.length) ∨
  (∃ e s rows, o = some (.arr e s rows) ∧ (o' = none ∨ ∃ rows', o' = some (.arr e s rows') ∧ rows'.length = rows.length))

structure ShapeEnd (σ ρ : List (Nat × Nat)) (H : List (Nat × Ob)) (av : AV) (H' : List (Nat × Ob)) (dl : Dl) : Prop where
  v : renA σ av = dl.v
  wr : outWr σ H' σ = dl.wr
  news : ∀ j l, (j, l) ∈ σ → (j, l) ∉ ρ → (look H' j).isSome = true
  old : ∀ j l, (j, l) ∈ ρ → EndOk (look H j) (look H' j)

theorem callOK_shape {α : Type} {K : AV → List (Nat × Ob) → Option α} {res : α} {C : VC} (hC : VCOk P C) {n f : Nat} {fn : Func} (hf : P.funcs[f]? = some fn) (hb : fn.body.isSome = true) (hn : (fn.name == "runtime.NumGoroutine") = false)
    {σ ρ : List (Nat × Nat)} {avs avs' : List AV} {H : List (Nat × Ob)} {hl : Nat → Option Ob} {dl : Dl}
    (hav : CLeL ρ avs avs')
    (hsub : ∀ p, p ∈ ρ → p ∈ σ) (h1 : nodupN (σ.map (·.1)) = true) (h2 : nodupN (σ.map (·.2)) = true) (hρ : nodupN (ρ.map (·.1)) = true)
    (hin : ∀ j l, (j, l) ∈ ρ → 1000000 ≤ j ∧ ∃ o o', hl l = some o ∧ look H j = some o' ∧ OLe ρ o o')
    (hinH : ∀ j, (look H j).isSome = true → ∃ l, (j, l) ∈ ρ)
    (hnew : ∀ j l, (j, l) ∈ σ → (j, l) ∈ ρ ∨ hl l = none)
    (hwl : wrL dl = σ.map (·.2))
    (h : vfn C n fn avs' H K = some res) (hK : ∀ av H', K av H' = some res → ShapeEnd σ ρ H av H' dl) : CallOK P f avs hl dl := by
  refine ⟨⟨fn, hf, hb, hn⟩, fun β S h' w args hO hA hag => ?_⟩
  have hag : ∀ {j l : Nat}, (j, l) ∈ σ → h' l = hl l := fun {j l} hm => hag l (.inr (by rw [hwl]; exact List.mem_map.2 ⟨(j, l), hm, rfl⟩))
  have hlook : ∀ {j l : Nat}, (j, l) ∈ ρ → look ρ j = some l := fun hm => look_of_mem hρ hm
  have hβc : ∀ {j l : Nat}, (j, l) ∈ ρ → (look ρ j).bind β = β l := fun hm => by rw [hlook hm]; rfl
  have hlk2 : ∀ {j j' l : Nat}, (j, l) ∈ ρ → (j', l) ∈ ρ → j = j' := fun a b => by
    have := nodup_fst h2 _ _ (hsub _ a) (hsub _ b) rfl
    injection this
  have hsome' : ∀ {j l : Nat}, (j, l) ∈ ρ → (h' l).isSome = true := fun hm => by
    obtain ⟨_, o, o', g1, _⟩ := hin _ _ hm
    rw [hag (hsub _ hm), g1]; rfl
  have hun : ∀ {v : Value} {y x : AV}, RdA β S h' w tm0 v y → CLe ρ y x → RdA (fun j => (look ρ j).bind β) S (look H) w tm0 v x := by
    intro v y x hv hc
    rcases hc with ⟨c1, c2⟩ | ⟨c1, rfl⟩
    · exact rdA_lf c1 (fun _ h => h) (fun _ _ => rfl) (c2 _ _ _ _ _ _ hv)
    · refine unren (ρ := ρ) (fun j l hj => by simp only [hj]; rfl) (fun j l hj => ⟨hsome' (look_mem hj), fun e s rows hx => ?_⟩) hv x c1 rfl
      obtain ⟨_, o, o', g1, g2, g3⟩ := hin j l (look_mem hj)
      rw [hag (hsub _ (look_mem hj)), g1] at hx
      injection hx with hx
      subst hx
      cases g3
      exact g2
  -- the callee's view
  have hO0 : Objs (fun j => (look ρ j).bind β) S (look H) w := by
    refine ⟨fun j o ho => ?_, fun j j' b s1 s2 b1 b2 => ?_, fun j b s1 b1 => ?_, hO.sb⟩
    · obtain ⟨l, hm⟩ := hinH j (by simp [ho])
      obtain ⟨_, oo, o', g1, g2, g3⟩ := hin j l hm
      rw [ho] at g2
      injection g2 with g2
      subst g2
      have hob := hO.ob l _ ((hag (hsub _ hm)).trans g1)
      cases g3 with
      | box g3 =>
        obtain ⟨b, ty, c0, fz, e1, e2, e3, e4, e5⟩ := hob
        refine ⟨b, ty, c0, fz, (hβc hm).trans e1, e2, e3, e4.trans g3.length, fun i x hx => ?_⟩
        obtain ⟨y, y1, y2⟩ := g3.at i x hx
        exact hun (e5 i y y1) y2
      | arr e s rows =>
        rcases hob with ⟨e1, e2⟩ | ⟨b, cs, e1, e2, e3, e4, e5⟩
        · exact .inl ⟨(hβc hm).trans e1, e2⟩
        · exact .inr ⟨b, cs, (hβc hm).trans e1, e2, e3, e4, e5⟩
    · obtain ⟨l, hm⟩ := hinH j s1
      obtain ⟨l', hm'⟩ := hinH j' s2
      have := hO.inj l l' b (hsome' hm) (hsome' hm') (by rw [← hβc hm]; exact b1) (by rw [← hβc hm']; exact b2)
      subst this
      exact hlk2 hm hm'
    · obtain ⟨l, hm⟩ := hinH j s1
      exact hO.apart l b (hsome' hm) (by rw [← hβc hm]; exact b1)
  have hA0 : ArgsRd (fun j => (look ρ j).bind β) S (look H) w args avs' := by
    refine ⟨by rw [hA.1, hav.length], fun i v av g1 g2 => ?_⟩
    obtain ⟨y, y1, y2⟩ := hav.at i av g2
    exact hun (hA.2 i v y g1 y1) y2
  refine (vfn_calls hC hf h hO0 hA0).mono fun e w' ⟨v, av, H', β', S', he, hk, hrd, _, hr⟩ => ?_
  obtain ⟨q1, q2, q3, q4⟩ := hK av H' hk
  have hinv : ∀ {j l : Nat}, (j, l) ∈ σ → inv σ l = some j := fun hm => inv_of h2 hm
  let βo : Nat → Option Nat := fun l => match inv σ l with | some j => β' j | none => β l
  have hβo : ∀ j l, (j, l) ∈ σ → βo l = β' j := fun j l hm => by simp only [βo, hinv hm]
  have hset : ∀ j l, (j, l) ∈ σ → setF h' dl.wr l = (look H' j).map (renO σ) := fun j l hm => by rw [← q2]; exact setF_out_at σ H' σ h' h2 j l hm
  have hmem : ∀ {l : Nat}, l ∈ wrL dl → ∃ j, (j, l) ∈ σ := fun hm => by
    rw [hwl] at hm
    obtain ⟨⟨j, l'⟩, m1, m2⟩ := List.mem_map.1 hm
    simp only at m2
    subst m2
    exact ⟨j, m1⟩
  have hpin : ∀ {j l : Nat}, (j, l) ∈ ρ → β' j = β l := fun hm => (hr.pin _ (hin _ _ hm).1).trans (hβc hm)
  have hren : ∀ {v : Value} {x : AV}, RdA β' S' (look H') w' tm0 v x → RdA βo S' (setF h' dl.wr) w' tm0 v (renA σ x) := fun hx =>
    renA_gen hβo (fun j l o hm ho => by rw [hset j l hm, ho]; rfl) (fun j l hm ho => by rw [hset j l hm, ho]; rfl) hx
  have hwmem : ∀ {j l : Nat}, (j, l) ∈ σ → l ∈ wrL dl := fun {j l} hm => by rw [hwl]; exact List.mem_map.2 ⟨(j, l), hm, rfl⟩
  have hMw : ∀ b, (∃ j, (look H j).isSome = true ∧ (look ρ j).bind β = some b) → ∃ l, l ∈ wrL dl ∧ (h' l).isSome = true ∧ β l = some b := by
    intro b ⟨j, s1, s2⟩
    obtain ⟨l, hm⟩ := hinH j s1
    exact ⟨l, hwmem (hsub _ hm), hsome' hm, by rw [← hβc hm]; exact s2⟩
  have hw0 : ∀ {b : Nat}, (∃ j, (look H j).isSome = true ∧ (look ρ j).bind β = some b) ∨ w.heap.size ≤ b → w.heap.size ≤ b ∨ ∃ l0, l0 ∈ wrL dl ∧ (h' l0).isSome = true ∧ β l0 = some b := by
    intro b hx
    rcases hx with hx | hx
    · exact .inr (hMw b hx)
    · exact .inl hx
  refine ⟨v, βo, S', he, ⟨hr.s0, fun b hS => ?_, hr.sb, hr.fr.mono fun b _ hM => hMw b hM, fun l hno => ?_, fun l o hm ho => ?_, fun l hm hs => ?_, fun l b hm hs hb' => ?_, fun l l' b hm hm' hs hs' hb' hb'' => ?_, fun l hm hno hno' => ?_, ?_, fun t => by rw [← q1]; exact gds_renA σ t av⟩⟩
  · rcases hr.sfr b hS with g | g | g
    · exact .inl g
    · exact .inr (.inr (hMw b g))
    · exact .inr (.inl g)
  · have : inv σ l = none := inv_none (by rw [← hwl]; exact hno)
    simp only [βo, this]
  · obtain ⟨j, hj⟩ := hmem hm
    rw [hset j l hj, Option.map_eq_some_iff] at ho
    obtain ⟨o', ho', rfl⟩ := ho
    have hob := hr.ob j o' ho'
    cases o' with
    | box cells =>
      obtain ⟨b, ty, cs, fz, g1, g2, g3, g4, g5⟩ := hob
      refine ⟨b, ty, cs, fz, (hβo j l hj).trans g1, g2, g3, by rw [g4, renL_length], fun i x hx => ?_⟩
      rw [renL_get, Option.map_eq_some_iff] at hx
      obtain ⟨y, hy, rfl⟩ := hx
      exact hren (g5 i y hy)
    | arr e s rows =>
      rcases hob with ⟨g1, g2⟩ | ⟨b, cs, g1, g2, g3, g4, g5⟩
      · exact .inl ⟨(hβo j l hj).trans g1, g2⟩
      · exact .inr ⟨b, cs, (hβo j l hj).trans g1, g2, g3, g4, g5⟩
  · obtain ⟨j, hj⟩ := hmem hm
    rcases hnew j l hj with hp | hno
    · obtain ⟨hj6, o, o', e1, e2, e3⟩ := hin j l hp
      have hh : h' l = some o := (hag hj).trans e1
      have hcells : ∀ b cs ty fz, (setF h' dl.wr l).isSome = true → β l = some b → w.heap[b]? = some (.cells cs ty fz) → ∃ cs' ty' fz', w'.heap[b]? = some (.cells cs' ty' fz') ∧ cs'.size = cs.size := by
        intro b cs ty fz hs' hb' hw
        have hs2 : (look H' j).isSome = true := by
          rw [hset j l hj] at hs'
          cases hx : look H' j with
          | none => rw [hx] at hs'; cases hs'
          | some o => rfl
        exact hr.psz j b hj6 hs2 ((hpin hp).trans hb') cs ty fz hw
      rcases q4 j l hp with ⟨c, c', g1, g2, g3⟩ | ⟨e, s, rows, g1, g2⟩
      · rw [g1] at e2
        injection e2 with e2
        subst e2
        cases e3 with
        | box e3 => exact ⟨(hβo j l hj).trans (hpin hp), fun hx => (by rw [hh] at hx; cases hx), fun e s rows hx => (by rw [hh] at hx; cases hx), hcells⟩
      · rw [g1] at e2
        injection e2 with e2
        subst e2
        cases e3 with
        | arr =>
          refine ⟨(hβo j l hj).trans (hpin hp), fun hx => (by rw [hh] at hx; cases hx), fun e' s' rows2 hx => ?_, hcells⟩
          rw [hh] at hx
          injection hx with hx
          injection hx with x1 x2 x3
          subst x1 x2 x3
          rcases g2 with g2 | ⟨rows', g2, g3⟩
          · left; rw [hset j l hj, g2]; rfl
          · right; exact ⟨rows', by rw [hset j l hj, g2]; rfl, g3⟩
    · rw [hag hj, hno] at hs; cases hs
  · obtain ⟨j, hj⟩ := hmem hm
    rw [hβo j l hj] at hb'
    have hs2 : (look H' j).isSome = true := by
      rw [hset j l hj] at hs
      cases hx : look H' j with
      | none => rw [hx] at hs; cases hs
      | some o => rfl
    exact ⟨hw0 (hr.own j b hs2 hb'), hr.apart j b hs2 hb'⟩
  · obtain ⟨j, hj⟩ := hmem hm
    obtain ⟨j', hj'⟩ := hmem hm'
    rw [hβo j l hj] at hb'
    rw [hβo j' l' hj'] at hb''
    have hs2 : ∀ {j l : Nat}, (j, l) ∈ σ → (setF h' dl.wr l).isSome = true → (look H' j).isSome = true := by
      intro j l hj hs
      rw [hset j l hj] at hs
      cases hx : look H' j with
      | none => rw [hx] at hs; cases hs
      | some o => rfl
    have := hr.inj j j' b (hs2 hj hs) (hs2 hj' hs') hb' hb''
    subst this
    have := nodup_fst h1 _ _ hj hj' rfl
    injection this
  · obtain ⟨j, hj⟩ := hmem hm
    by_cases hp : (j, l) ∈ ρ
    · have := hsome' hp
      rw [hno] at this
      cases this
    · have := q3 j l hj hp
      rw [hset j l hj] at hno'
      cases hx : look H' j with
      | none => rw [hx] at this; cases this
      | some o => rw [hx] at hno'; cases hno'
  · rw [← q1]; exact hren hrd
end
end Go.Vx
/-
  What the generated texts lean on, for contracts by shape.
-/
namespace Go.Vx
section
variable {P : Program} {R : Type}

/-- An array of the caller's own. -/
def prR (hl : Nat → Option Ob) (e s : Nat) (av : AV) (k : Nat → List (List D) → Option R) : Option R :=
  match av with
  | .arr l => match hl l with
    | some (.arr e' s' rows) => bif Nat.beq e' e && Nat.beq s' s then k l rows else none
    | _ => none
  | _ => none
theorem prR_some {hl : Nat → Option Ob} {e s : Nat} {av : AV} {k : Nat → List (List D) → Option R} {r : R} (h : prR hl e s av k = some r) : ∃ l rows, k l rows = some r ∧ av = .arr l ∧ hl l = some (.arr e s rows) := by
  unfold prR at h
  split at h
  · rename_i l
    split at h
    · rename_i e' s' rows hh
      obtain ⟨hc, hk⟩ := bif_some h
      simp only [Bool.and_eq_true] at hc
      have h1 := Nat.eq_of_beq_eq_true hc.1
      have h2 := Nat.eq_of_beq_eq_true hc.2
      subst h1 h2
      exact ⟨l, rows, hk, rfl, hh⟩
    · cases h
  · cases h

/-- A pointer that is known already. -/
def prQ (l : Nat) (av : AV) (k : Option R) : Option R :=
  match av with
  | .ptr l' o => bif Nat.beq l' l && Nat.beq o 0 then k else none
  | _ => none
theorem prQ_some {l : Nat} {av : AV} {k : Option R} {r : R} (h : prQ l av k = some r) : k = some r ∧ av = .ptr l 0 := by
  unfold prQ at h
  split at h
  · obtain ⟨hc, hk⟩ := bif_some h
    simp only [Bool.and_eq_true] at hc
    have h1 := Nat.eq_of_beq_eq_true hc.1
    have h2 := Nat.eq_of_beq_eq_true hc.2
    subst h1 h2
    exact ⟨hk, rfl⟩
  · cases h

/-- A function value. -/
def prF (f : Nat) (av : AV) (k : List AV → Option R) : Option R :=
  match av with
  | .fn f' caps => bif Nat.beq f' f then k caps else none
  | _ => none
theorem prF_some {f : Nat} {av : AV} {k : List AV → Option R} {r : R} (h : prF f av k = some r) : ∃ caps, k caps = some r ∧ av = .fn f caps := by
  unfold prF at h
  split at h
  · obtain ⟨hc, hk⟩ := bif_some h
    have h1 := Nat.eq_of_beq_eq_true hc
    subst h1
    exact ⟨_, hk, rfl⟩
  · cases h

theorem CLe.data {ρ : List (Nat × Nat)} {c c' : AV} (hl : lf c' = true) (h : AVle c c') : CLe ρ c c' := .inl ⟨hl, h⟩
theorem CLe.own {ρ : List (Nat × Nat)} {c c' : AV} (hd : dm ρ c' = true) (h : c = renA ρ c') : CLe ρ c c' := .inr ⟨hd, h⟩

def HinS (ρ0 : List (Nat × Nat)) (hl : Nat → Option Ob) (H : List (Nat × Ob)) : List (Nat × Nat) → Prop
  | [] => True
  | (j, l) :: r => (1000000 ≤ j ∧ ∃ o o', hl l = some o ∧ look H j = some o' ∧ OLe ρ0 o o') ∧ HinS ρ0 hl H r
def EndL (H H' : List (Nat × Ob)) : List (Nat × Nat) → Prop
  | [] => True
  | (j, _) :: r => EndOk (look H j) (look H' j) ∧ EndL H H' r

theorem HinS_at {ρ0 : List (Nat × Nat)} {hl : Nat → Option Ob} {H : List (Nat × Ob)} : ∀ {ρ : List (Nat × Nat)}, HinS ρ0 hl H ρ → ∀ j l, (j, l) ∈ ρ → 1000000 ≤ j ∧ ∃ o o', hl l = some o ∧ look H j = some o' ∧ OLe ρ0 o o'
  | (a, b) :: r, h, j, l, hm => by
    rcases List.mem_cons.1 hm with hm | hm
    · injection hm with h1 h2; subst h1 h2; exact h.1
    · exact HinS_at h.2 j l hm
theorem EndL_at {H H' : List (Nat × Ob)} : ∀ {ρ : List (Nat × Nat)}, EndL H H' ρ → ∀ j l, (j, l) ∈ ρ → EndOk (look H j) (look H' j)
  | (a, b) :: r, h, j, l, hm => by
    rcases List.mem_cons.1 hm with hm | hm
    · injection hm with h1 h2; subst h1 h2; exact h.1
    · exact EndL_at h.2 j l hm

theorem endOk_box {o o' : Option Ob} {c c' : List AV} (h1 : o = some (.box c)) (h2 : o' = some (.box c')) (h3 : c'.length = c.length) : EndOk o o' := .inl ⟨c, c', h1, h2, h3⟩
theorem endOk_gone {o o' : Option Ob} {e s : Nat} {rows : List (List D)} (h1 : o = some (.arr e s rows)) (h2 : o' = none) : EndOk o o' := .inr ⟨e, s, rows, h1, .inl h2⟩

theorem callOK_sh {α : Type} {K : AV → List (Nat × Ob) → Option α} {res : α} {C : VC} (hC : VCOk P C) {n f : Nat} {fn : Func} (hf : P.funcs[f]? = some fn) (hb : fn.body.isSome = true) (hn : (fn.name == "runtime.NumGoroutine") = false)
    {ρ ν : List (Nat × Nat)} {avs avs' : List AV} {H : List (Nat × Ob)} {hl : Nat → Option Ob} {dl : Dl}
    (hav : CLeL ρ avs avs') (h1 : nodupN ((ρ ++ ν).map (·.1)) = true) (hρ : nodupN (ρ.map (·.1)) = true)
    (hc : newsOk hl ρ ν = true) (hin : HinS ρ hl H ρ) (hkeys : H.map (·.1) = ρ.map (·.1)) (hwl : wrL dl = (ρ ++ ν).map (·.2))
    (h : vfn C n fn avs' H K = some res)
    (hK : ∀ av H', K av H' = some res → renA (ρ ++ ν) av = dl.v ∧ outWr (ρ ++ ν) H' (ρ ++ ν) = dl.wr ∧ AllL H' ν ∧ EndL H H' ρ) : CallOK P f avs hl dl := by
  simp only [newsOk, Bool.and_eq_true] at hc
  refine callOK_shape hC hf hb hn hav (fun p hp => List.mem_append_left _ hp) h1 hc.1 hρ (HinS_at hin) (keys_mem hkeys) (fun j l hm => ?_) hwl h fun av H' hk => ?_
  · rcases List.mem_append.1 hm with hm | hm
    · exact .inl hm
    · exact .inr (NewL_at hc.2 j l hm)
  · obtain ⟨q1, q2, q3, q4⟩ := hK av H' hk
    refine ⟨q1, q2, fun j l hm hno => ?_, EndL_at q4⟩
    rcases List.mem_append.1 hm with hm | hm
    · exact absurd hm hno
    · exact AllL_at q3 j l hm

/-- No contract. -/
def noE : Entry := fun _ _ _ _ _ _ => none
theorem noE_ok (f : Nat) : EntryOK P f noE := fun R site g avs hl k r h => by cases h

end
end Go.Vx
/-
  Contracts proved by other means (the library's functions).
-/
namespace Go.Vx
section
variable {P : Program}

theorem fr_of_below {M : Nat → Prop} {w w' : World} (h : RowKit.Below w.heap.size w w') : Fr M w w' := ⟨h.os, h.tape, h.output, h.size, fun b hb _ => h.block b hb⟩

/-- A contract of a function of data, out of one on 'Calls'. -/
theorem callOK_hand {f : Nat} {fn : Func} (hf : P.funcs[f]? = some fn) (hb : fn.body.isSome = true) (hn : (fn.name == "runtime.NumGoroutine") = false) {avs : List AV} {av : AV} {hl : Nat → Option Ob} {rd : List Nat} (hlf : lf av = true) (hA : lfL avs = true)
    (h : ∀ (S : Nat → Prop) (w : World) (args : List Value), ArgsRd (fun _ => none) S (fun _ => none) w args avs → Calls P f args.toArray w fun e w' => ∃ v, e = .returned v ∧ RdA (fun _ => none) S (fun _ => none) w' tm0 v av ∧ RowKit.Below w.heap.size w w') : CallOK P f avs hl ⟨av, [], rd⟩ := by
  refine ⟨⟨fn, hf, hb, hn⟩, fun β S h' w args hO hAr _ => ?_⟩
  refine (h S w args ⟨hAr.1, fun i v av' h1 h2 => rdA_lf (lfL_at hA h2) (fun _ h => h) (fun _ _ => rfl) (hAr.2 i v av' h1 h2)⟩).mono fun e w' ⟨v, he, hr, hbel⟩ => ?_
  refine ⟨v, β, S, he, ⟨fun b hS => hS, fun b hS => .inl hS, fun b hS => Nat.lt_of_lt_of_le (hO.sb b hS) hbel.size, fr_of_below hbel, fun _ _ => rfl, fun l o hl' => by simp [wrL] at hl', fun l hl' => by simp [wrL] at hl', fun l b hl' => by simp [wrL] at hl', fun l l' b hl' => by simp [wrL] at hl', fun l hl' => by simp [wrL] at hl', ?_, fun t => gds_lf t _ hlf⟩⟩
  exact rdA_lf hlf (fun _ h => h) (fun _ _ => rfl) hr

theorem argsRd_one {β : Nat → Option Nat} {S : Nat → Prop} {h : Nat → Option Ob} {w : World} {args : List Value} {a : AV} (hA : ArgsRd β S h w args [a]) : ∃ v, args = [v] ∧ RdA β S h w tm0 v a := by
  obtain ⟨h1, h2⟩ := hA
  match args, h1 with
  | [v], _ => exact ⟨v, rfl, h2 0 v a rfl rfl⟩

/-- A function from a string to the same string. -/
theorem callOK_same {f : Nat} {fn : Func} (hf : P.funcs[f]? = some fn) (hb : fn.body.isSome = true) (hn : (fn.name == "runtime.NumGoroutine") = false) {hl : Nat → Option Ob} {rd : List Nat} {s : List UInt8}
    (h : ∀ (b : ByteArray) (w : World), b.data.toList = s → Calls P f #[.string b] w fun e w' => e = .returned (.string b) ∧ RowKit.Below w.heap.size w w') : CallOK P f [.d (.str s)] hl ⟨.d (.str s), [], rd⟩ := by
  refine callOK_hand hf hb hn rfl rfl fun S w args hA => ?_
  obtain ⟨v, rfl, hv⟩ := argsRd_one hA
  obtain ⟨b, hb2, rfl⟩ := hv.str_inv
  refine (h b w hb2.symm).mono fun e w' ⟨he, hbel⟩ => ⟨_, he, .d _ _ ?_, hbel⟩
  rw [hb2]
  exact .str _
end
end Go.Vx
