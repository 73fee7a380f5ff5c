/- Part of a proof: texts VxGen2 VxRow VxLaw VxUpto VxPlain VxGen3 VxGen4 VxHand VxSort VxHid. No conditions of their own. -/
import Derived.Test.YtnhpkkecnfooaaaQVB
import Derived.ProofKit
import Derived.ChangeOld
import Derived.Carry
import Derived.ChangeArms
import Derived.WideShapes
import Derived.Deep.Slices
import Derived.IntWalk
import Derived.Sort.Row
import Derived.Sort.Grow
import Derived.Lib.SlicesCompact
/-
  Contracts of functions that take pointers to variables and hand out objects of their own.
-/
namespace Go.Vx
section
variable {P : Program} {R : Type}

theorem renA_gen {ρ : List (Nat × Nat)} {β β' : Nat → Option Nat} {S : Nat → Prop} {h h' : Nat → Option Ob} (hb' : ∀ l k, (l, k) ∈ ρ → β' k = β l) (hs' : ∀ l k o, (l, k) ∈ ρ → h l = some o → h' k = some (renO ρ o))
    (hn' : ∀ l k, (l, k) ∈ ρ → h l = none → h' k = none) {w : World} {tm : Nat → Value} {v : Value} {av : AV} (hv : RdA β S h w tm v av) : RdA β' S h' w tm v (renA ρ av) := by
  induction hv with
  | top v => exact .top v
  | d v x hx => exact .d v x hx
  | nil => exact .nil
  | ag cs l hl _ ih =>
    refine .ag cs _ (by rw [renL_length]; exact hl) fun i x hx => ?_
    rw [renL_get, Option.map_eq_some_iff] at hx
    obtain ⟨y, hy, rfl⟩ := hx
    exact ih i y hy
  | tup cs l hl _ ih =>
    refine .tup cs _ (by rw [renL_length]; exact hl) fun i x hx => ?_
    rw [renL_get, Option.map_eq_some_iff] at hx
    obtain ⟨y, hy, rfl⟩ := hx
    exact ih i y hy
  | fn f cs l hl _ ih =>
    refine .fn f cs _ (by rw [renL_length]; exact hl) fun i x hx => ?_
    rw [renL_get, Option.map_eq_some_iff] at hx
    obtain ⟨y, hy, rfl⟩ := hx
    exact ih i y hy
  | ptr l off b hb =>
    unfold renA
    split
    · rename_i l' hl; exact .ptr _ _ _ ((hb' _ _ (look_mem hl)).trans hb)
    · exact .top _
  | sa v l t b hb hv =>
    unfold renA
    split
    · rename_i l' hl; exact .sa _ _ _ b ((hb' _ _ (look_mem hl)).trans hb) hv
    · exact .top _
  | el ad row off c hs hc hr => exact .el ad row off c hs hc hr
  | fs ad s rows hx => exact .fs ad s rows hx
  | mpd v f hm => exact .mpd v f hm
  | ex v => exact .ex v
  | arr0 l e s hb hh =>
    unfold renA
    split
    · rename_i l' hl; exact .arr0 _ e s ((hb' _ _ (look_mem hl)).trans hb) (hs' _ _ _ (look_mem hl) hh)
    · exact .top _
  | arr l b cap e s rows cs ty fz hb hh hw hcs hcap hmax =>
    unfold renA
    split
    · rename_i l' hl; exact .arr _ b cap e s rows cs ty fz ((hb' _ _ (look_mem hl)).trans hb) (hs' _ _ _ (look_mem hl) hh) hw hcs hcap hmax
    · exact .top _
  | ap l i off b e s rows hb hh =>
    unfold renA
    split
    · rename_i l' hl; exact .ap _ i off b e s rows ((hb' _ _ (look_mem hl)).trans hb) (hs' _ _ _ (look_mem hl) hh)
    · exact .top _
  | dang v av l hl hh h1 =>
    cases av <;> simp [locOf] at hl
    · subst hl
      unfold renA
      split
      · rename_i l' hl'; exact .dang _ _ l' rfl (hn' _ _ (look_mem hl') hh) h1
      · exact .top _
    · subst hl
      unfold renA
      split
      · rename_i l' hl'; exact .dang _ _ l' rfl (hn' _ _ (look_mem hl') hh) h1
      · exact .top _
  | gdT => exact .top _
  | gdF => exact .top _

/-- An argument: data, or a pointer to a variable that is handed over. -/
def argOk (ρ : List (Nat × Nat)) (av : AV) : Bool :=
  match av with
  | .ptr j _ => (look ρ j).isSome
  | av => lf av

def argsOk (ρ : List (Nat × Nat)) : List AV → Bool
  | [] => true
  | a :: r => argOk ρ a && argsOk ρ r

theorem argsOk_at {ρ : List (Nat × Nat)} : ∀ {l : List AV} {i : Nat} {x : AV}, argsOk ρ l = true → l[i]? = some x → argOk ρ x = true
  | a :: r, 0, x, h, hx => by
    simp only [argsOk, Bool.and_eq_true] at h
    simp at hx; subst hx; exact h.1
  | a :: r, i + 1, x, h, hx => by
    simp only [argsOk, Bool.and_eq_true] at h
    exact argsOk_at h.2 (by simpa using hx)

/-- What is seen of the callee's end. -/
def outWr (σ : List (Nat × Nat)) (H : List (Nat × Ob)) : List (Nat × Nat) → List (Nat × Option Ob)
  | [] => []
  | (j, l) :: r => (l, (look H j).map (renO σ)) :: outWr σ H r

theorem outWr_map (σ : List (Nat × Nat)) (H : List (Nat × Ob)) : ∀ τ, (outWr σ H τ).map (·.1) = τ.map (·.2)
  | [] => rfl
  | (j, l) :: r => by simp [outWr, outWr_map σ H r]

theorem setF_out_at (σ : List (Nat × Nat)) (H : List (Nat × Ob)) : ∀ (τ : List (Nat × Nat)) (h : Nat → Option Ob), nodupN (τ.map (·.2)) = true → ∀ j l, (j, l) ∈ τ → setF h (outWr σ H τ) l = (look H j).map (renO σ)
  | (a, b) :: r, h, hn, j, l, hm => by
    simp only [List.map_cons, nodupN, Bool.and_eq_true, Bool.not_eq_true'] at hn
    simp only [outWr, setF]
    rcases List.mem_cons.1 hm with hm | hm
    · injection hm with e1 e2
      subst e1 e2
      rw [setF_out]
      · simp
      · rw [outWr_map]
        intro hin
        have : memN l (r.map (·.2)) = true := by
          have : ∀ (L : List Nat), l ∈ L → memN l L = true := by
            intro L
            induction L with
            | nil => intro h; cases h
            | cons x xs ih =>
              intro h
              rcases List.mem_cons.1 h with h | h
              · subst h; simp [memN, Nat.beq_refl]
              · simp [memN, ih h]
          exact this _ hin
        rw [this] at hn
        exact absurd hn.1 (by simp)
    · exact setF_out_at σ H r _ hn.2 j l hm

mutual
theorem gds_renA (ρ : List (Nat × Nat)) (t : Nat) : ∀ av : AV, gds t (renA ρ av) = false
  | .top => rfl
  | .d _ => rfl
  | .nil => rfl
  | .el .. => rfl
  | .fs .. => rfl
  | .mpd _ => rfl
  | .ex _ => rfl
  | .gd .. => rfl
  | .ag l => by simp only [renA, gds]; exact gdsL_renL ρ t l
  | .tup l => by simp only [renA, gds]; exact gdsL_renL ρ t l
  | .fn _ l => by simp only [renA, gds]; exact gdsL_renL ρ t l
  | .ptr l o => by unfold renA; split <;> rfl
  | .arr l => by unfold renA; split <;> rfl
  | .ap l i o => by unfold renA; split <;> rfl
  | .sa l t => by unfold renA; split <;> rfl
theorem gdsL_renL (ρ : List (Nat × Nat)) (t : Nat) : ∀ l : List AV, gdsL t (renL ρ l) = false
  | [] => rfl
  | a :: r => by simp only [renL, gdsL, gds_renA ρ t a, gdsL_renL ρ t r, Bool.or_self]
end

mutual
theorem renA_lf (ρ : List (Nat × Nat)) : ∀ av : AV, lf av = true → renA ρ av = av
  | .top, _ => rfl
  | .d _, _ => rfl
  | .nil, _ => rfl
  | .el .., _ => rfl
  | .fs .., _ => rfl
  | .mpd _, _ => rfl
  | .ex _, _ => rfl
  | .gd .., h => by simp [lf] at h
  | .ag l, h => by simp only [renA]; rw [renL_lf ρ l (by simpa [lf] using h)]
  | .tup l, h => by simp only [renA]; rw [renL_lf ρ l (by simpa [lf] using h)]
  | .fn _ l, h => by simp only [renA]; rw [renL_lf ρ l (by simpa [lf] using h)]
  | .ptr .., h => by simp [lf] at h
  | .arr _, h => by simp [lf] at h
  | .ap .., h => by simp [lf] at h
  | .sa .., h => by simp [lf] at h
theorem renL_lf (ρ : List (Nat × Nat)) : ∀ l : List AV, lfL l = true → renL ρ l = l
  | [], _ => rfl
  | a :: r, h => by
    simp only [lfL, Bool.and_eq_true] at h
    simp only [renL, renA_lf ρ a h.1, renL_lf ρ r h.2]
end

theorem inv_none {σ : List (Nat × Nat)} {l : Nat} (h : l ∉ σ.map (·.2)) : inv σ l = none := by
  cases hi : inv σ l with
  | none => rfl
  | some j => exact absurd (List.mem_map.2 ⟨(j, l), inv_mem hi, rfl⟩) h

theorem look_of_mem {ρ : List (Nat × Nat)} (hn : nodupN (ρ.map (·.1)) = true) {j l : Nat} (hm : (j, l) ∈ ρ) : look ρ j = some l := by
  cases hk : look ρ j with
  | none =>
    exfalso
    have : ∀ (L : List (Nat × Nat)), (j, l) ∈ L → look L j ≠ none := by
      intro L
      induction L with
      | nil => intro h; cases h
      | cons x r ih =>
        intro h hl
        obtain ⟨a, b⟩ := x
        rw [look_cons] at hl
        by_cases e : j = a
        · rw [if_pos e] at hl; cases hl
        · rw [if_neg e] at hl
          rcases List.mem_cons.1 h with h | h
          · injection h with h1 h2; exact e h1
          · exact ih h hl
    exact this ρ hm hk
  | some l' =>
    have := nodup_fst hn (j, l) (j, l') hm (look_mem hk) rfl
    injection this with _ h
    rw [h]

/-- What is asked of the callee's run. -/
structure HeapEnd (σ ρ : List (Nat × Nat)) (H : List (Nat × Ob)) (av : AV) (H' : List (Nat × Ob)) (dl : Dl) : Prop where
  v : renA σ av = dl.v
  wr : outWr σ H' σ = dl.wr
  all : ∀ j l, (j, l) ∈ σ → (look H' j).isSome = true
  box : ∀ j l, (j, l) ∈ ρ → ∃ c c', look H j = some (.box c) ∧ look H' j = some (.box c') ∧ c'.length = c.length

theorem callOK_heap {α : Type} {K : AV → List (Nat × Ob) → Option α} {res : α} {C : VC} (hC : VCOk P C) {n f : Nat} {fn : Func} (hf : P.funcs[f]? = some fn) (hb : fn.body.isSome = true) (hn : (fn.name == "runtime.NumGoroutine") = false)
    {σ ρ : List (Nat × Nat)} {avs avs' : List AV} {H : List (Nat × Ob)} {hl : Nat → Option Ob} {dl : Dl}
    (hav : avs = avs'.map (renA ρ)) (hargs : argsOk ρ avs' = true)
    (hsub : ∀ p, p ∈ ρ → p ∈ σ) (h1 : nodupN (σ.map (·.1)) = true) (h2 : nodupN (σ.map (·.2)) = true) (hρ : nodupN (ρ.map (·.1)) = true)
    (hin : ∀ j l, (j, l) ∈ ρ → 1000000 ≤ j ∧ ∃ cs cs', hl l = some (.box cs) ∧ look H j = some (.box cs') ∧ AVleL cs cs' ∧ lfL cs' = true)
    (hinH : ∀ j, (look H j).isSome = true → ∃ l, (j, l) ∈ ρ)
    (hnew : ∀ j l, (j, l) ∈ σ → (j, l) ∈ ρ ∨ hl l = none)
    (hwl : wrL dl = σ.map (·.2))
    (h : vfn C n fn avs' H K = some res) (hK : ∀ av H', K av H' = some res → HeapEnd σ ρ H av H' dl) : CallOK P f avs hl dl := by
  refine ⟨⟨fn, hf, hb, hn⟩, fun β S h' w args hO hA hag => ?_⟩
  have hag : ∀ {j l : Nat}, (j, l) ∈ σ → h' l = hl l := fun {j l} hm => hag l (.inr (by rw [hwl]; exact List.mem_map.2 ⟨(j, l), hm, rfl⟩))
  have hlook : ∀ {j l : Nat}, (j, l) ∈ ρ → look ρ j = some l := fun hm => look_of_mem hρ hm
  have hβc : ∀ {j l : Nat}, (j, l) ∈ ρ → (look ρ j).bind β = β l := fun hm => by rw [hlook hm]; rfl
  have hlk2 : ∀ {j j' l : Nat}, (j, l) ∈ ρ → (j', l) ∈ ρ → j = j' := fun a b => by
    have := nodup_fst h2 _ _ (hsub _ a) (hsub _ b) rfl
    injection this
  have hsome' : ∀ {j l : Nat}, (j, l) ∈ ρ → (h' l).isSome = true := fun hm => by
    obtain ⟨_, cs, cs', g1, _⟩ := hin _ _ hm
    rw [hag (hsub _ hm), g1]; rfl
  -- the callee's view
  have hO0 : Objs (fun j => (look ρ j).bind β) S (look H) w := by
    refine ⟨fun j o ho => ?_, fun j j' b s1 s2 b1 b2 => ?_, fun j b s1 b1 => ?_, hO.sb⟩
    · obtain ⟨l, hm⟩ := hinH j (by simp [ho])
      obtain ⟨_, cs, cs', g1, g2, g3, g4⟩ := hin j l hm
      rw [ho] at g2
      injection g2 with g2
      subst g2
      obtain ⟨b, ty, c0, fz, e1, e2, e3, e4, e5⟩ := hO.ob l _ ((hag (hsub _ hm)).trans g1)
      refine ⟨b, ty, c0, fz, (hβc hm).trans e1, e2, ⟨e3.1, fun i l' t' hx => by have := lfL_at g4 hx; simp [lf] at this⟩, e4.trans g3.length, fun i x hx => ?_⟩
      obtain ⟨y, y1, y2⟩ := g3.at i x hx
      exact rdA_lf (lfL_at g4 hx) (fun _ h => h) (fun _ _ => rfl) (y2 _ _ _ _ _ _ (e5 i y y1))
    · obtain ⟨l, hm⟩ := hinH j s1
      obtain ⟨l', hm'⟩ := hinH j' s2
      have := hO.inj l l' b (hsome' hm) (hsome' hm') (by rw [← hβc hm]; exact b1) (by rw [← hβc hm']; exact b2)
      subst this
      exact hlk2 hm hm'
    · obtain ⟨l, hm⟩ := hinH j s1
      exact hO.apart l b (hsome' hm) (by rw [← hβc hm]; exact b1)
  have hA0 : ArgsRd (fun j => (look ρ j).bind β) S (look H) w args avs' := by
    refine ⟨by rw [hA.1, hav, List.length_map], fun i v av g1 g2 => ?_⟩
    have hr := hA.2 i v (renA ρ av) g1 (by rw [hav, List.getElem?_map, g2]; rfl)
    have hok := argsOk_at hargs g2
    unfold argOk at hok
    split at hok
    · rename_i j o
      cases hj : look ρ j with
      | none => rw [hj] at hok; cases hok
      | some l =>
        simp only [renA, hj] at hr
        cases hr with
        | ptr _ _ b hb' => exact .ptr j o b (by simp only [hj]; exact hb')
        | dang _ _ _ hl' => simp [locOf] at hl'
    · rw [renA_lf ρ av hok] at hr
      exact rdA_lf hok (fun _ h => h) (fun _ _ => rfl) hr
  refine (vfn_calls hC hf h hO0 hA0).mono fun e w' ⟨v, av, H', β', S', he, hk, hrd, _, hr⟩ => ?_
  obtain ⟨q1, q2, q3, q4⟩ := hK av H' hk
  have hinv : ∀ {j l : Nat}, (j, l) ∈ σ → inv σ l = some j := fun hm => inv_of h2 hm
  let βo : Nat → Option Nat := fun l => match inv σ l with | some j => β' j | none => β l
  have hβo : ∀ j l, (j, l) ∈ σ → βo l = β' j := fun j l hm => by simp only [βo, hinv hm]
  have hset : ∀ j l, (j, l) ∈ σ → setF h' dl.wr l = (look H' j).map (renO σ) := fun j l hm => by rw [← q2]; exact setF_out_at σ H' σ h' h2 j l hm
  have hmem : ∀ {l : Nat}, l ∈ wrL dl → ∃ j, (j, l) ∈ σ := fun hm => by
    rw [hwl] at hm
    obtain ⟨⟨j, l'⟩, m1, m2⟩ := List.mem_map.1 hm
    simp only at m2
    subst m2
    exact ⟨j, m1⟩
  have hpin : ∀ {j l : Nat}, (j, l) ∈ ρ → β' j = β l := fun hm => (hr.pin _ (hin _ _ hm).1).trans (hβc hm)
  have hren : ∀ {v : Value} {x : AV}, RdA β' S' (look H') w' tm0 v x → RdA βo S' (setF h' dl.wr) w' tm0 v (renA σ x) := fun hx =>
    renA_gen hβo (fun j l o hm ho => by rw [hset j l hm, ho]; rfl) (fun j l hm ho => by rw [hset j l hm, ho]; rfl) hx
  have hnotin : ∀ {j l : Nat}, (j, l) ∈ σ → (j, l) ∉ ρ → ∀ b, β' j = some b → w.heap.size ≤ b := by
    intro j l hm hno b hb'
    rcases hr.own j b (q3 j l hm) hb' with ⟨j', s1, s2⟩ | h
    · exfalso
      obtain ⟨l', hm'⟩ := hinH j' s1
      have e1 : β' j' = some b := (hpin hm').trans (by rw [← hβc hm']; exact s2)
      have := hr.inj j j' b (q3 j l hm) (q3 j' l' (hsub _ hm')) hb' e1
      subst this
      have := nodup_fst h1 _ _ hm (hsub _ hm') rfl
      exact hno (this ▸ hm')
    · exact h
  have hMw : ∀ b, (∃ j, (look H j).isSome = true ∧ (look ρ j).bind β = some b) → ∃ l, l ∈ wrL dl ∧ (h' l).isSome = true ∧ β l = some b := by
    intro b ⟨j, s1, s2⟩
    obtain ⟨l, hm⟩ := hinH j s1
    exact ⟨l, by rw [hwl]; exact List.mem_map.2 ⟨(j, l), hsub _ hm, rfl⟩, hsome' hm, by rw [← hβc hm]; exact s2⟩
  refine ⟨v, βo, S', he, ⟨hr.s0, fun b hS => ?_, hr.sb, hr.fr.mono fun b _ hM => hMw b hM, fun l hno => ?_, fun l o hm ho => ?_, fun l hm hs => ?_, fun l b hm hs hb' => ?_, fun l l' b hm hm' hs hs' hb' hb'' => ?_, fun l hm hno hno' => ?_, ?_, fun t => by rw [← q1]; exact gds_renA σ t av⟩⟩
  · rcases hr.sfr b hS with g | g | g
    · exact .inl g
    · exact .inr (.inr (hMw b g))
    · exact .inr (.inl g)
  · have : inv σ l = none := inv_none (by rw [← hwl]; exact hno)
    simp only [βo, this]
  · obtain ⟨j, hj⟩ := hmem hm
    rw [hset j l hj, Option.map_eq_some_iff] at ho
    obtain ⟨o', ho', rfl⟩ := ho
    have hob := hr.ob j o' ho'
    cases o' with
    | box cells =>
      obtain ⟨b, ty, cs, fz, g1, g2, g3, g4, g5⟩ := hob
      refine ⟨b, ty, cs, fz, (hβo j l hj).trans g1, g2, ⟨g3.1, saTy_ren g3.2⟩, by rw [g4, renL_length], fun i x hx => ?_⟩
      rw [renL_get, Option.map_eq_some_iff] at hx
      obtain ⟨y, hy, rfl⟩ := hx
      exact hren (g5 i y hy)
    | arr e s rows =>
      rcases hob with ⟨g1, g2⟩ | ⟨b, cs, g1, g2, g3, g4, g5⟩
      · exact .inl ⟨(hβo j l hj).trans g1, g2⟩
      · exact .inr ⟨b, cs, (hβo j l hj).trans g1, g2, g3, g4, g5⟩
  · obtain ⟨j, hj⟩ := hmem hm
    rcases hnew j l hj with hp | hno
    · obtain ⟨c, c', g1, g2, g3⟩ := q4 j l hp
      obtain ⟨_, cs, cs', e1, e2, e3, _⟩ := hin j l hp
      have hh : h' l = some (.box cs) := (hag hj).trans e1
      refine ⟨(hβo j l hj).trans (hpin hp), fun hx => (by rw [hh] at hx; cases hx), fun e s rows hx => (by rw [hh] at hx; cases hx), fun b c0 ty fz _ hb' hw => ?_⟩
      obtain ⟨b2, ty2, c2, fz2, k1, k2, _, k4, _⟩ := hr.ob j _ g2
      obtain ⟨b3, ty3, c3, fz3, m1, m2, _, m4, _⟩ := hO.ob l _ hh
      rw [hpin hp, hb'] at k1
      injection k1 with k1
      subst k1
      rw [hb'] at m1
      injection m1 with m1
      subst m1
      rw [hw] at m2
      injection m2 with m2
      injection m2 with m2 _ _
      subst m2
      refine ⟨c2, ty2, fz2, k2, ?_⟩
      rw [k4, m4, g3]
      rw [g1] at e2
      injection e2 with e2
      injection e2 with e2
      rw [e2, e3.length]
    · rw [hag hj, hno] at hs; cases hs
  · obtain ⟨j, hj⟩ := hmem hm
    rw [hβo j l hj] at hb'
    refine ⟨?_, hr.apart j b (q3 j l hj) hb'⟩
    by_cases hp : (j, l) ∈ ρ
    · exact .inr ⟨l, hm, hsome' hp, by rw [← hpin hp]; exact hb'⟩
    · exact .inl (hnotin hj hp b hb')
  · obtain ⟨j, hj⟩ := hmem hm
    obtain ⟨j', hj'⟩ := hmem hm'
    rw [hβo j l hj] at hb'
    rw [hβo j' l' hj'] at hb''
    have := hr.inj j j' b (q3 j l hj) (q3 j' l' hj') hb' hb''
    subst this
    have := nodup_fst h1 _ _ hj hj' rfl
    injection this
  · obtain ⟨j, hj⟩ := hmem hm
    have := q3 j l hj
    rw [hset j l hj] at hno'
    cases hx : look H' j with
    | none => rw [hx] at this; cases this
    | some o => rw [hx] at hno'; cases hno'
  · rw [← q1]; exact hren hrd

/-! the same, with conditions that a program prints -/

def HinL (hl : Nat → Option Ob) (H : List (Nat × Ob)) : List (Nat × Nat) → Prop
  | [] => True
  | (j, l) :: r => (1000000 ≤ j ∧ ∃ cs cs', hl l = some (.box cs) ∧ look H j = some (.box cs') ∧ AVleL cs cs' ∧ lfL cs' = true) ∧ HinL hl H r
def AllL (H : List (Nat × Ob)) : List (Nat × Nat) → Prop
  | [] => True
  | (j, _) :: r => (look H j).isSome = true ∧ AllL H r
def BoxL (H H' : List (Nat × Ob)) : List (Nat × Nat) → Prop
  | [] => True
  | (j, _) :: r => (∃ c c', look H j = some (.box c) ∧ look H' j = some (.box c') ∧ c'.length = c.length) ∧ BoxL H H' r
def NewL (hl : Nat → Option Ob) : List (Nat × Nat) → Bool
  | [] => true
  | (_, l) :: r => (hl l).isNone && NewL hl r

theorem HinL_at {hl : Nat → Option Ob} {H : List (Nat × Ob)} : ∀ {ρ : List (Nat × Nat)}, HinL hl H ρ → ∀ j l, (j, l) ∈ ρ → 1000000 ≤ j ∧ ∃ cs cs', hl l = some (.box cs) ∧ look H j = some (.box cs') ∧ AVleL cs cs' ∧ lfL cs' = true
  | (a, b) :: r, h, j, l, hm => by
    rcases List.mem_cons.1 hm with hm | hm
    · injection hm with h1 h2; subst h1 h2; exact h.1
    · exact HinL_at h.2 j l hm
theorem AllL_at {H : List (Nat × Ob)} : ∀ {ρ : List (Nat × Nat)}, AllL H ρ → ∀ j l, (j, l) ∈ ρ → (look H j).isSome = true
  | (a, b) :: r, h, j, l, hm => by
    rcases List.mem_cons.1 hm with hm | hm
    · injection hm with h1 h2; subst h1 h2; exact h.1
    · exact AllL_at h.2 j l hm
theorem BoxL_at {H H' : List (Nat × Ob)} : ∀ {ρ : List (Nat × Nat)}, BoxL H H' ρ → ∀ j l, (j, l) ∈ ρ → ∃ c c', look H j = some (.box c) ∧ look H' j = some (.box c') ∧ c'.length = c.length
  | (a, b) :: r, h, j, l, hm => by
    rcases List.mem_cons.1 hm with hm | hm
    · injection hm with h1 h2; subst h1 h2; exact h.1
    · exact BoxL_at h.2 j l hm
theorem NewL_at {hl : Nat → Option Ob} : ∀ {ρ : List (Nat × Nat)}, NewL hl ρ = true → ∀ j l, (j, l) ∈ ρ → hl l = none
  | (a, b) :: r, h, j, l, hm => by
    simp only [NewL, Bool.and_eq_true] at h
    rcases List.mem_cons.1 hm with hm | hm
    · injection hm with h1 h2; subst h1 h2; simpa using h.1
    · exact NewL_at h.2 j l hm
theorem keys_mem : ∀ {H : List (Nat × Ob)} {ρ : List (Nat × Nat)}, H.map (·.1) = ρ.map (·.1) → ∀ j, (look H j).isSome = true → ∃ l, (j, l) ∈ ρ
  | [], _, _, j, hs => by simp [look] at hs
  | (a, o) :: r, [], h, _, _ => by simp at h
  | (a, o) :: r, (b, l) :: ρ, h, j, hs => by
    simp only [List.map_cons, List.cons.injEq] at h
    rw [look_cons] at hs
    by_cases e : j = a
    · exact ⟨l, by rw [e, h.1]; exact List.mem_cons_self ..⟩
    · rw [if_neg e] at hs
      obtain ⟨l', hm⟩ := keys_mem h.2 j hs
      exact ⟨l', List.mem_cons_of_mem _ hm⟩

/-- The boolean checks of an entry. -/
def newsOk (hl : Nat → Option Ob) (ρ ν : List (Nat × Nat)) : Bool := nodupN ((ρ ++ ν).map (·.2)) && NewL hl ν

theorem callOK_own {α : Type} {K : AV → List (Nat × Ob) → Option α} {res : α} {C : VC} (hC : VCOk P C) {n f : Nat} {fn : Func} (hf : P.funcs[f]? = some fn) (hb : fn.body.isSome = true) (hn : (fn.name == "runtime.NumGoroutine") = false)
    {ρ ν : List (Nat × Nat)} {avs avs' : List AV} {H : List (Nat × Ob)} {hl : Nat → Option Ob} {dl : Dl}
    (hav : avs = avs'.map (renA ρ)) (hargs : argsOk ρ avs' = true) (h1 : nodupN ((ρ ++ ν).map (·.1)) = true) (hρ : nodupN (ρ.map (·.1)) = true)
    (hc : newsOk hl ρ ν = true) (hin : HinL hl H ρ) (hkeys : H.map (·.1) = ρ.map (·.1)) (hwl : wrL dl = (ρ ++ ν).map (·.2))
    (h : vfn C n fn avs' H K = some res)
    (hK : ∀ av H', K av H' = some res → renA (ρ ++ ν) av = dl.v ∧ outWr (ρ ++ ν) H' (ρ ++ ν) = dl.wr ∧ AllL H' (ρ ++ ν) ∧ BoxL H H' ρ) : CallOK P f avs hl dl := by
  simp only [newsOk, Bool.and_eq_true] at hc
  refine callOK_heap hC hf hb hn hav hargs (fun p hp => List.mem_append_left _ hp) h1 hc.1 hρ (HinL_at hin) (keys_mem hkeys) (fun j l hm => ?_) hwl h fun av H' hk => ?_
  · rcases List.mem_append.1 hm with hm | hm
    · exact .inl hm
    · exact .inr (NewL_at hc.2 j l hm)
  · obtain ⟨q1, q2, q3, q4⟩ := hK av H' hk
    exact ⟨q1, q2, AllL_at q3, BoxL_at q4⟩

theorem bif_some {c : Bool} {x : Option R} {r : R} (h : (bif c then x else none) = some r) : c = true ∧ x = some r := by
  cases c with
  | false => cases h
  | true => exact ⟨rfl, h⟩

/-- One contract at some places, another at the others. -/
def altE (l : List Nat) (a b : Entry) : Entry := fun R site g avs hl k => bif memN site l then a R site g avs hl k else b R site g avs hl k
theorem altE_ok (l : List Nat) {f : Nat} {a b : Entry} (ha : EntryOK P f a) (hb : EntryOK P f b) : EntryOK P f (altE l a b) := by
  intro R site g avs hl k r h
  unfold altE at h
  cases hm : memN site l with
  | true => rw [hm] at h; exact ha R site g avs hl k r h
  | false => rw [hm] at h; exact hb R site g avs hl k r h

/-- A pointer among the arguments, and its variable. -/
def prP (hl : Nat → Option Ob) (av : AV) (k : Nat → List AV → Option R) : Option R :=
  match av with
  | .ptr l o => bif Nat.beq o 0 then match hl l with
    | some (.box cs) => k l cs
    | _ => none
    else none
  | _ => none

theorem prP_some {hl : Nat → Option Ob} {av : AV} {k : Nat → List AV → Option R} {r : R} (h : prP hl av k = some r) : ∃ l cs, k l cs = some r ∧ av = .ptr l 0 ∧ hl l = some (.box cs) := by
  unfold prP at h
  split at h
  · rename_i l o
    cases ho : Nat.beq o 0 with
    | false => simp [ho] at h
    | true =>
      simp only [ho, cond_true] at h
      have := Nat.eq_of_beq_eq_true ho
      subst this
      split at h
      · rename_i cs hb; exact ⟨l, cs, h, rfl, hb⟩
      · cases h
  · cases h

end
end Go.Vx
/-
  From a law's pure function to the row.
-/
namespace Go.Vx
section
variable {P : Program} {R : Type}

/-- Every block that is there may be read. -/
def SW (w : World) : Nat → Prop := fun b => b < w.heap.size

theorem law_true {C : VC} (hC : VCOk P C) {n f : Nat} {fn : Func} (hf : P.funcs[f]? = some fn) {ss : List (List Nat)} {K : AV → Option Bool} (hK : ∀ x, K x = some true → x = .d (.bool true))
    {avs : List AV} {args : List Value} {w : World} (hA : ArgsRd (fun _ => none) (SW w) (look ([] : List (Nat × Ob))) w args avs) (h : vfn C n fn avs [] (retF ss K) = some true) :
    Calls P f args.toArray w fun e w' => e = .returned (.bool true) ∧ RowKit.Below w.heap.size w w' := by
  have hO : Objs (fun _ => none) (SW w) (look ([] : List (Nat × Ob))) w := ⟨fun l o h => by simp [look] at h, fun l l' b h => by simp [look] at h, fun l b h => by simp [look] at h, fun b h => h⟩
  refine (vfn_calls hC hf h hO hA).mono fun e w' ⟨v, av, H', β', S', he, hk, hrd, _, hr⟩ => ?_
  refine ⟨?_, Fr.below (hr.fr.mono fun b _ ⟨l, h1, _⟩ => by simp [look] at h1)⟩
  unfold retF at hk
  split at hk
  case h_2 => cases hk
  rename_i av' hav
  cases hlf2 : lf (fixT ss av') with
  | false => simp [hlf2] at hk
  | true =>
    simp only [hlf2, cond_true] at hk
    have hk := hK _ hk
    have hO' : Objs β' S' (look H') w' := ⟨hr.ob, hr.inj, hr.apart, hr.sb⟩
    obtain ⟨bs, _, _, hrd'⟩ := retAV_rd hO' hav hrd
    have := fixT_le ss _ _ _ _ _ _ _ hrd'
    rw [hk] at this
    rw [he, this.bool_inv]

theorem argsRd_nil {β : Nat → Option Nat} {S : Nat → Prop} {h : Nat → Option Ob} {w : World} : ArgsRd β S h w [] [] := ⟨rfl, fun i v av h => by simp at h⟩
theorem argsRd_cons {β : Nat → Option Nat} {S : Nat → Prop} {h : Nat → Option Ob} {w : World} {v : Value} {av : AV} {vs : List Value} {avs : List AV} (h0 : RdA β S h w tm0 v av) (hr : ArgsRd β S h w vs avs) : ArgsRd β S h w (v :: vs) (av :: avs) := by
  refine ⟨by simp [hr.1], fun i v' av' h1 h2 => ?_⟩
  cases i with
  | zero => simp at h1 h2; subst h1 h2; exact h0
  | succ i => exact hr.2 i v' av' (by simpa using h1) (by simpa using h2)

/-- A slice of integers that came in. -/
def IsRow (k : IntKind) (w : World) (a : Option Addr) (len cap : Nat) (zs : List Int) : Prop :=
  (a = none ∧ len = 0 ∧ cap = 0 ∧ zs = []) ∨
  ∃ x, a = some x ∧ len ≤ cap ∧ cap ≤ maxLen ∧ zs.length = cap ∧ (∀ i, i < zs.length → w.cell? (x.add i) = some (.int k (zs.getD i 0))) ∧ ∀ n ∈ zs, (Lit.int k n).wf = true

def intRows (k : IntKind) (l : List Int) : List (List D) := l.map fun n => [.int k n]

theorem cell_lt {w : World} {a : Addr} {v : Value} (h : w.cell? a = some v) : a.block < w.heap.size := by
  rcases Nat.lt_or_ge a.block w.heap.size with h1 | h1
  · exact h1
  · simp [World.cell?, Array.getElem?_eq_none h1] at h

theorem isRow_rd {k : IntKind} {w : World} {a : Option Addr} {len cap : Nat} {zs : List Int} (h : IsRow k w a len cap zs) :
    Rd (SW w) w (.slice a len cap) (.sl 1 (intRows k (zs.take len))) ∧ ∀ n ∈ zs.take len, (Lit.int k n).wf = true := by
  rcases h with ⟨rfl, rfl, rfl, rfl⟩ | ⟨x, rfl, hl, hm, hz, hcell, hwz⟩
  · exact ⟨.sl0 _ _ _, fun n hn => by simp at hn⟩
  · refine ⟨?_, fun n hn => hwz n (List.mem_of_mem_take hn)⟩
    cases len with
    | zero => exact .sl0 _ _ _
    | succ m =>
      have h0 := hcell 0 (by omega)
      have hlen : (intRows k (zs.take (m + 1))).length = m + 1 := by simp [intRows]; omega
      have hat : ∀ (i : Nat) (r : List D), (intRows k (zs.take (m + 1)))[i]? = some r → i < zs.length ∧ r = [.int k (zs.getD i 0)] := by
        intro i r hr
        simp only [intRows, List.getElem?_map, Option.map_eq_some_iff] at hr
        obtain ⟨n, hn, rfl⟩ := hr
        obtain ⟨h1, h2⟩ := List.getElem?_eq_some_iff.1 hn
        simp at h1 h2
        have : i < zs.length := by omega
        refine ⟨this, ?_⟩
        simp [List.getD, List.getElem?_eq_getElem this, h2]
      have := Rd.sl (S := SW w) (w := w) x cap 1 (intRows k (zs.take (m + 1))) (fun i _ => .int k (zs.getD i 0)) (by have := cell_lt h0; rwa [block_add] at this) (by omega)
        (fun i r hr => by rw [(hat i r hr).2]; rfl)
        (fun i j r y hr hy => by
          obtain ⟨h1, rfl⟩ := hat i r hr
          cases j with
          | zero => simpa using hcell i h1
          | succ j => simp at hy)
        (fun i j r y hr hy => by
          obtain ⟨h1, rfl⟩ := hat i r hr
          cases j with
          | zero => simp at hy; subst hy; exact .int _ _
          | succ j => simp at hy)
      rw [hlen] at this
      exact this

/-! pure functions -/

theorem gb_true {α : Type} (p : Option α) (z : α) (k : α → Option R) : gb true p z k = p.bind k := by cases p <;> rfl
theorem gb_some_eq {α : Type} (g : Bool) (a z : α) (k : α → Option R) : gb g (some a) z k = k a := rfl
theorem gb_false {α : Type} (p : Option α) (z : α) (k : α → Option R) : gb false p z k = k (p.getD z) := by cases p <;> rfl

end
end Go.Vx
/-
  Reading the arguments of a law as data of known shape; the row's frame for a law.
-/
namespace Go.Vx

/-- The shape of one cell's data. -/
inductive Sh where
  | int (k : IntKind)
  | bool
  | str
  | sl (row : List Sh)

inductive Fit : Sh → D → Prop
  | int (k : IntKind) (n : Int) (h : (Lit.int k n).wf = true) : Fit (.int k) (.int k n)
  | bool (b : Bool) : Fit .bool (.bool b)
  | str (s : List UInt8) (h : s.length ≤ maxLen) : Fit .str (.str s)
  | sl (row : List Sh) (rows : List (List D)) (h : rows.length ≤ maxLen) (hl : ∀ (i : Nat) (r : List D), rows[i]? = some r → r.length = row.length)
      (hr : ∀ (i j : Nat) (r : List D) (s : Sh) (x : D), rows[i]? = some r → row[j]? = some s → r[j]? = some x → Fit s x) : Fit (.sl row) (.sl row.length rows)

/-- A list of cells has its shapes. -/
def FitL (ss : List Sh) (ds : List D) : Prop := ds.length = ss.length ∧ ∀ (j : Nat) (s : Sh) (x : D), ss[j]? = some s → ds[j]? = some x → Fit s x

def shFs (P : Program) (so : TypeId → Option (List Sh)) : Nat → List Field → Option (List Sh)
  | _, [] => some []
  | off, fd :: r =>
    if fd.offset = off then match so fd.type with
      | some a => if a.length = P.cellsOf fd.type then match shFs P so (off + a.length) r with
        | some l => some (a ++ l)
        | none => none
        else none
      | none => none
    else none

/-- The shapes of a type's cells. -/
def shOf (P : Program) : Nat → TypeId → Option (List Sh)
  | 0, _ => none
  | f + 1, t =>
    match P.underlying t with
    | some .bool => some [.bool]
    | some (.int k) => some [.int k]
    | some .string => some [.str]
    | some (.slice e) => match shOf P f e with
      | some row => if row.length = P.cellsOf e ∧ row.length ≠ 0 then some [.sl row] else none
      | none => none
    | some (.struct fs) => match shFs P (shOf P f) 0 fs.toList with
      | some l => if l.length = P.cellsOf t then some l else none
      | none => none
    | _ => none

section
variable {P : Program} {H : Type} {enc : TypeId × Value → H} {w : World}

def RdL (w : World) (cs : List Value) (ds : List D) : Prop := cs.length = ds.length ∧ ∀ (j : Nat) (v : Value) (x : D), cs[j]? = some v → ds[j]? = some x → Rd (SW w) w v x

theorem ex_list {α : Type} {Q : Nat → α → Prop} : ∀ (n : Nat), (∀ i, i < n → ∃ a, Q i a) → ∃ l : List α, l.length = n ∧ ∀ (i : Nat) (a : α), l[i]? = some a → Q i a
  | 0, _ => ⟨[], rfl, fun i a h => by simp at h⟩
  | n + 1, h => by
    obtain ⟨l, h1, h2⟩ := ex_list n fun i hi => h i (by omega)
    obtain ⟨a, ha⟩ := h n (by omega)
    refine ⟨l ++ [a], by simp [h1], fun i x hx => ?_⟩
    rw [List.getElem?_append] at hx
    split at hx
    · exact h2 i x hx
    · have : i = l.length := by
        rcases Nat.lt_or_ge (i - l.length) 1 with h3 | h3
        · omega
        · rw [List.getElem?_eq_none (by simpa using h3)] at hx; cases hx
      subst this
      simp at hx
      subst hx
      rw [h1]; exact ha

theorem FitL.append {a b : List Sh} {x y : List D} (h1 : FitL a x) (h2 : FitL b y) : FitL (a ++ b) (x ++ y) := by
  refine ⟨by simp [h1.1, h2.1], fun j s d hs hd => ?_⟩
  rw [List.getElem?_append] at hs hd
  rw [h1.1] at hd
  split at hs
  · rename_i h; rw [if_pos h] at hd; exact h1.2 j s d hs hd
  · rename_i h; rw [if_neg h] at hd; exact h2.2 _ s d hs hd

theorem RdL.append {a b : List Value} {x y : List D} (h1 : RdL w a x) (h2 : RdL w b y) : RdL w (a ++ b) (x ++ y) := by
  refine ⟨by simp [h1.1, h2.1], fun j s d hs hd => ?_⟩
  rw [List.getElem?_append] at hs hd
  rw [h1.1] at hs
  split at hd
  · rename_i h; rw [if_pos h] at hs; exact h1.2 j s d hs hd
  · rename_i h; rw [if_neg h] at hs; exact h2.2 _ s d hs hd

theorem rdL_one {v : Value} {x : D} (h : Rd (SW w) w v x) : RdL w [v] [x] := ⟨rfl, fun j v' x' h1 h2 => by
  cases j with
  | zero => simp at h1 h2; subst h1 h2; exact h
  | succ j => simp at h1⟩
theorem fitL_one {s : Sh} {x : D} (h : Fit s x) : FitL [s] [x] := ⟨rfl, fun j v' x' h1 h2 => by
  cases j with
  | zero => simp at h1 h2; subst h1 h2; exact h
  | succ j => simp at h1⟩

theorem cells_some {base : Nat} {a : Addr} {n : Nat} {cs : List Value} (h : w.cells? base a n = some cs) : cs.length = n ∧ ∀ (j : Nat) (v : Value), cs[j]? = some v → w.cell? (a.add j) = some v := by
  unfold World.cells? at h
  split at h
  · refine ⟨by simpa using mapM_some_length h, fun j v hv => ?_⟩
    have hj : j < n := by
      have h1 := mapM_some_length h
      have h2 := (List.getElem?_eq_some_iff.1 hv).1
      simp at h1; omega
    have := mapM_some_get h j j (by simp [hj])
    rw [this, hv]
  · cases h

/-- What was read has a shape, and reads as data. -/
def Got (w : World) (ss : List Sh) (cs : List Value) : Prop := ∃ ds, RdL w cs ds ∧ FitL ss ds

theorem trod_got {base : Nat} {spare : Nat → Bool} {held : Bool} : ∀ (n : Nat) (f : Nat) (t : TypeId) (ss : List Sh) (cs : List Value) (x : DataW H × List MemPlace), shOf P f t = some ss → DataW.trod enc P w base spare held n t cs = some x → Got w ss cs := by
  intro n
  induction n with
  | zero => intro f t ss cs x _ h; simp [DataW.trod] at h
  | succ n ih =>
    intro f t ss cs x hs h
    cases f with
    | zero => simp [shOf] at hs
    | succ f =>
      unfold shOf at hs
      split at hs
      · rename_i ht
        injection hs with hs; subst hs
        obtain ⟨b, rfl, _⟩ := DataW.trod_bool ht h
        exact ⟨[.bool b], rdL_one (.bool b), fitL_one (.bool b)⟩
      · rename_i k ht
        injection hs with hs; subst hs
        obtain ⟨b, rfl, _, hw⟩ := DataW.trod_int ht h
        exact ⟨[.int k b], rdL_one (.int k b), fitL_one (.int k b hw)⟩
      · rename_i ht
        injection hs with hs; subst hs
        obtain ⟨b, rfl, _, hw⟩ := DataW.trod_string ht h
        exact ⟨[.str b.data.toList], rdL_one (.str b), fitL_one (.str _ (by simpa using hw))⟩
      · rename_i e ht
        split at hs
        case h_2 => cases hs
        rename_i row hrow
        split at hs
        case isFalse => cases hs
        rename_i hsz
        obtain ⟨hsz, hz⟩ := hsz
        injection hs with hs; subst hs
        rcases DataW.trod_slice ht h with ⟨rfl, _⟩ | ⟨a, len, cap, elems, rest, n', hn, rfl, _, hb, hl, hm, hel, hat, _, _⟩
        · exact ⟨[.sl row.length []], rdL_one (.sl0 _ _ _), fitL_one (.sl row [] (Nat.zero_le _) (fun i r h => by simp at h) (fun i j r s x h => by simp at h))⟩
        · obtain rfl : n = n' := by omega
          have hget : ∀ i, i < len → ∃ r : List D, ∃ cs, w.cells? base (a.add (i * P.cellsOf e)) (P.cellsOf e) = some cs ∧ RdL w cs r ∧ FitL row r := by
            intro i hi
            have h1 := hat i hi
            have h2 : elems[i]? = some (elems[i]'(by omega)) := List.getElem?_eq_getElem (by omega)
            rw [h2, Option.bind_eq_some_iff] at h1
            obtain ⟨cs, hc, h1⟩ := h1
            obtain ⟨ds, g1, g2⟩ := ih f e row cs _ hrow h1
            exact ⟨ds, cs, hc, g1, g2⟩
          obtain ⟨rows, hrl, hrows⟩ := ex_list len hget
          refine ⟨[.sl row.length rows], rdL_one ?_, fitL_one (.sl row rows (by omega) (fun i r hr => ?_) (fun i j r s x hr hs hx => ?_))⟩
          · cases len with
            | zero =>
              have : rows = [] := List.eq_nil_of_length_eq_zero hrl
              subst this
              exact .sl0 _ _ _
            | succ m =>
              have hcell : ∀ (i j : Nat) (r : List D) (x : D), rows[i]? = some r → r[j]? = some x → ∃ v, w.cell? (a.add (i * row.length + j)) = some v ∧ Rd (SW w) w v x := by
                intro i j r x hr hx
                obtain ⟨cs, hc, g1, g2⟩ := hrows i r hr
                obtain ⟨c1, c2⟩ := cells_some hc
                have hj : j < cs.length := by have := (List.getElem?_eq_some_iff.1 hx).1; have := g1.1; omega
                have hcs : cs[j]? = some (cs[j]'hj) := List.getElem?_eq_getElem hj
                refine ⟨cs[j]'hj, ?_, g1.2 j _ x hcs hx⟩
                have := c2 j _ hcs
                rw [add_add] at this
                rw [hsz]
                exact this
              · have h0 : ∃ r, rows[0]? = some r := ⟨_, List.getElem?_eq_getElem (by omega)⟩
                obtain ⟨r0, hr0⟩ := h0
                obtain ⟨cs0, hc0, g1, g2⟩ := hrows 0 r0 hr0
                have hx0 : ∃ x, r0[0]? = some x := ⟨_, List.getElem?_eq_getElem (by rw [g2.1]; omega)⟩
                obtain ⟨x0, hx0⟩ := hx0
                obtain ⟨v0, hv0, _⟩ := hcell 0 0 r0 x0 hr0 hx0
                have hblk : a.block < w.heap.size := by have := cell_lt hv0; rwa [block_add] at this
                have := Rd.sl (S := SW w) (w := w) a cap row.length rows (fun i j => (w.cell? (a.add (i * row.length + j))).getD undef) hblk (by omega)
                  (fun i r hr => by obtain ⟨_, _, _, g2⟩ := hrows i r hr; exact g2.1)
                  (fun i j r x hr hx => by obtain ⟨v, hv, _⟩ := hcell i j r x hr hx; rw [hv]; rfl)
                  (fun i j r x hr hx => by obtain ⟨v, hv, h2⟩ := hcell i j r x hr hx; rw [hv]; exact h2)
                rw [hrl] at this
                exact this
          · obtain ⟨_, _, _, g2⟩ := hrows i r hr; exact g2.1
          · obtain ⟨_, _, _, g2⟩ := hrows i r hr; exact g2.2 j s x hs hx
      · rename_i fs ht
        split at hs
        case h_2 => cases hs
        rename_i l hl
        split at hs
        case isFalse => cases hs
        rename_i hsz
        injection hs with hs; subst hs
        obtain ⟨xs, n', hn, _, hlen, hxs, hat⟩ := DataW.trod_struct ht h
        obtain rfl : n = n' := by omega
        have key : ∀ (r : List Field) (i off : Nat) (l : List Sh), fs.toList.drop i = r → shFs P (shOf P f) off r = some l → off + l.length ≤ cs.length → Got w l ((cs.drop off).take l.length) := by
          intro r
          induction r with
          | nil =>
            intro i off l _ hl _
            simp [shFs] at hl
            subst hl
            exact ⟨[], ⟨by simp, fun j v x h => by simp at h⟩, ⟨rfl, fun j v x h => by simp at h⟩⟩
          | cons fd r ihr =>
            intro i off l hd hl hle
            unfold shFs at hl
            split at hl
            case isFalse => cases hl
            rename_i hoff
            split at hl
            case h_2 => cases hl
            rename_i a ha
            split at hl
            case isFalse => cases hl
            rename_i hasz
            split at hl
            case h_2 => cases hl
            rename_i l' hl'
            injection hl with hl; subst hl
            have hi : fs[i]? = some fd := by
              have : (fs.toList.drop i)[0]? = some fd := by rw [hd]; rfl
              rw [List.getElem?_drop] at this
              simpa using this
            have h1 := hat i fd hi
            have hi' : i < xs.length := by
              have := (Array.getElem?_eq_some_iff.1 hi).1
              omega
            rw [List.getElem?_eq_getElem hi', hoff, ← hasz] at h1
            have g1 := ih f fd.type a _ _ ha h1
            have g2 := ihr (i + 1) (off + a.length) l' (by rw [← List.drop_drop, hd]; rfl) hl' (by simp at hle; omega)
            obtain ⟨d1, p1, q1⟩ := g1
            obtain ⟨d2, p2, q2⟩ := g2
            refine ⟨d1 ++ d2, ?_, q1.append q2⟩
            have hsplit : (cs.drop off).take (a ++ l').length = (cs.drop off).take a.length ++ (cs.drop (off + a.length)).take l'.length := by
              rw [List.length_append, List.take_add, List.drop_drop]
            rw [hsplit]
            exact p1.append p2
        have := key fs.toList 0 0 l rfl hl (by omega)
        rwa [List.drop_zero, List.take_of_length_le (by omega)] at this
      · cases hs

/-! the arguments -/

inductive ASh where
  | one (s : Sh)
  | ag (ss : List Sh)

def ashOf (P : Program) (t : TypeId) : Option ASh :=
  match P.underlying t with
  | some (.struct _) => match shOf P 9 t with
    | some l => some (.ag l)
    | none => none
  | _ => match shOf P 9 t with
    | some [s] => some (.one s)
    | _ => none

def ashL (P : Program) : List TypeId → Option (List ASh)
  | [] => some []
  | t :: r => match ashOf P t with
    | some a => match ashL P r with
      | some l => some (a :: l)
      | none => none
    | none => none

def AFit : ASh → AV → Prop
  | .one s, av => ∃ x, av = .d x ∧ Fit s x
  | .ag ss, av => ∃ ds : List D, av = .ag (ds.map .d) ∧ FitL ss ds

def AFits : List ASh → List AV → Prop
  | [], [] => True
  | a :: as, v :: vs => AFit a v ∧ AFits as vs
  | _, _ => False

theorem okWide_scalar {r : Reach} {base : Nat} {t : TypeId} {v : Value} {f : Nat} {ss : List Sh} (hs : shOf P f t = some ss) (hn : ∀ fs, P.underlying t ≠ some (.struct fs)) (h : Value.okWide P w r base t v) : v.cells.toList = [v] := by
  cases f with
  | zero => simp [shOf] at hs
  | succ f =>
    unfold shOf at hs
    split at hs
    · rename_i ht; obtain ⟨b, rfl⟩ := WideShapes.okWide_bool ht h; rfl
    · rename_i k ht; obtain ⟨b, rfl⟩ := WideShapes.okWide_int ht h; rfl
    · rename_i ht; obtain ⟨b, rfl⟩ := WideShapes.okWide_string ht h; rfl
    · rename_i e ht; obtain ⟨a, l, c, rfl⟩ := WideShapes.okWide_slice ht h; rfl
    · rename_i fs ht; exact absurd ht (hn fs)
    · cases hs

theorem arg_got {r : Reach} {base base' : Nat} {spare : Nat → Bool} {held : Bool} {t : TypeId} {v : Value} {d : DataW H} {ps : List MemPlace} {a : ASh} (ha : ashOf P t = some a) (hv : Value.okWide P w r base t v) (h : DataW.Trod enc P w base' spare held t v d ps) :
    ∃ av, RdA (fun _ => none) (SW w) (look ([] : List (Nat × Ob))) w tm0 v av ∧ AFit a av := by
  obtain ⟨n, h⟩ := h
  unfold ashOf at ha
  split at ha
  · rename_i fs ht
    split at ha
    case h_2 => cases ha
    rename_i l hl
    injection ha with ha; subst ha
    obtain ⟨ds, h1, h2⟩ := trod_got n 9 t l _ _ hl h
    simp only [Value.okWide, ht] at hv
    obtain ⟨cs, rfl, hsz, _⟩ := hv
    refine ⟨.ag (ds.map .d), .ag cs _ (by simpa [Value.cells] using h1.1) fun i x hx => ?_, ds, rfl, h2⟩
    rw [List.getElem?_map, Option.map_eq_some_iff] at hx
    obtain ⟨y, hy, rfl⟩ := hx
    have hi : i < cs.size := by
      have g1 := (List.getElem?_eq_some_iff.1 hy).1
      have g2 := h1.1
      simp [Value.cells] at g2
      omega
    have hc : cs.getD i undef = cs[i] := by simp [Array.getD, hi]
    rw [hc]
    exact .d _ _ (h1.2 i _ y (by simp [Value.cells, hi]) hy)
  · rename_i hn
    split at ha
    case h_2 => cases ha
    rename_i s hs
    injection ha with ha; subst ha
    have hc := okWide_scalar hs hn hv
    obtain ⟨ds, h1, h2⟩ := trod_got n 9 t _ _ _ hs h
    rw [hc] at h1
    obtain ⟨x, rfl⟩ : ∃ x, ds = [x] := by
      have := h1.1
      match ds, this with
      | [x], _ => exact ⟨x, rfl⟩
    exact ⟨.d x, .d _ _ (h1.2 0 v x rfl rfl), x, rfl, h2.2 0 s x rfl rfl⟩

theorem args_got {r : Reach} {base base' : Nat} {spare : Nat → Bool} {held : Bool} : ∀ (ts : List TypeId) (vs : List Value) (ds : List (DataW H)) (ps : List MemPlace) (as : List ASh), ashL P ts = some as →
    (∀ (j : Nat) t v, ts[j]? = some t → vs[j]? = some v → Value.okWide P w r base t v) → DataW.TrodAll enc P w base' spare held ts vs ds ps →
    ∃ avs, ArgsRd (fun _ => none) (SW w) (look ([] : List (Nat × Ob))) w vs avs ∧ AFits as avs
  | [], vs, ds, ps, as, has, hv, h => by
    simp [ashL] at has
    subst has
    cases vs with
    | nil => exact ⟨[], argsRd_nil, trivial⟩
    | cons v vs => cases ds <;> simp [DataW.TrodAll] at h
  | t :: ts, vs, ds, ps, as, has, hv, h => by
    obtain ⟨v, vs', d, ds', p, q, rfl, rfl, rfl, h1, h2⟩ := ChangeShapes.trodAll_cons h
    unfold ashL at has
    split at has
    case h_2 => cases has
    rename_i a ha
    split at has
    case h_2 => cases has
    rename_i as' has'
    injection has with has
    subst has
    obtain ⟨av, g1, g2⟩ := arg_got ha (hv 0 t v rfl rfl) h1
    obtain ⟨avs, g3, g4⟩ := args_got ts vs' ds' q as' has' (fun j t v h1 h2 => hv (j + 1) t v (by simpa using h1) (by simpa using h2)) h2
    exact ⟨av :: avs, argsRd_cons g1 g3, g2, g4⟩

theorem args_stay {W W' : World} (hl : laidOutB P = true) (hb : RowKit.Below W.heap.size W W') : ∀ (ts : List TypeId) (vs : List Value) (ds : List (DataW H)) (ps : List MemPlace), (ts.all fun t => P.readableRec t && decide (t < P.types.size)) = true →
    DataW.TrodAll enc P W 0 (fun _ => true) true ts vs ds ps → ∃ pa, DataW.TrodAll enc P W' 0 (fun b => decide (b < W.heap.size)) true ts vs ds pa
  | [], vs, ds, ps, _, h => by
    cases vs <;> cases ds <;> simp [DataW.TrodAll] at h
    exact ⟨[], rfl⟩
  | t :: ts, vs, ds, ps, ht, h => by
    obtain ⟨v, vs', d, ds', p, q, rfl, rfl, rfl, h1, h2⟩ := ChangeShapes.trodAll_cons h
    simp only [List.all_cons, Bool.and_eq_true, decide_eq_true_eq] at ht
    obtain ⟨pa, g⟩ := args_stay hl hb ts vs' ds' q ht.2 h2
    have hlt : ∀ x ∈ p, x.block < W.heap.size := by obtain ⟨m, hm⟩ := h1; exact DataW.trod_lt m _ _ _ hm
    exact ⟨p ++ pa, p, pa, RowKit.Below.trod hl ht.1.1 ht.1.2 h1 hb hlt, g, rfl⟩

theorem trodAll_length {base : Nat} {spare : Nat → Bool} {held : Bool} : ∀ (ts : List TypeId) (vs : List Value) (ds : List (DataW H)) (ps : List MemPlace), DataW.TrodAll enc P w base spare held ts vs ds ps → vs.length = ts.length ∧ ds.length = ts.length
  | [], vs, ds, ps, h => by
    cases vs <;> cases ds <;> simp [DataW.TrodAll] at h
    exact ⟨rfl, rfl⟩
  | t :: ts, vs, ds, ps, h => by
    obtain ⟨v, vs', d, ds', p, q, rfl, rfl, rfl, h1, h2⟩ := ChangeShapes.trodAll_cons h
    have := trodAll_length ts vs' ds' q h2
    simp [this.1, this.2]

/-- The contract of a law: the walk, put into the row's words. -/
theorem law_contract {fn : Func} {f : FuncId} {s : ChangeSpec} {as : List ASh} {tb : TypeId} (laid : laidOutB P = true)
    (hvars : s.vars = []) (hpar : (fn.params.toList.all fun t => P.readableRec t && decide (t < P.types.size)) = true) (has : ashL P fn.params.toList = some as)
    (hres : fn.resultTypes = #[tb]) (hb : P.underlying tb = some .bool)
    {W : World} {base : Nat} {args : Array Value} {ds gs : List (DataW H)} {before : List MemPlace}
    (hval : ∀ (j : Nat) t v, fn.params[j]? = some t → args[j]? = some v → Value.okWide P W .any base t v)
    (hW : DataW.Whole enc P fn.params.toList s.vars false W args.toList ds gs before)
    (hspec : ∀ ds : List (DataW H), ds.length = fn.params.size → s.fn H ds = { results := [.lit (.bool true)], args := ds })
    (walk : ∀ avs, AFits as avs → ArgsRd (fun _ => none) (SW W) (look ([] : List (Nat × Ob))) W args.toList avs → Calls P f args W fun e w' => e = .returned (.bool true) ∧ RowKit.Below W.heap.size W w') :
    Calls P f args W fun e W' => ∃ v, e = .returned v ∧ s.post enc P fn false true false false W args v W' := by
  have hW' := hW
  obtain ⟨p, q, hA, hV, rfl, hfz, hnd⟩ := hW
  obtain ⟨avs, g1, g2⟩ := args_got (r := .any) (base := base) _ _ _ _ as has (fun j t v h1 h2 => hval j t v (by simpa using h1) (by simpa using h2)) hA
  refine (walk avs g2 g1).mono fun e W' ⟨he, bel⟩ => ?_
  subst he
  obtain ⟨pa, hpa⟩ := args_stay laid bel _ _ _ _ hpar hA
  rw [hvars] at hV
  obtain ⟨rfl, rfl⟩ := ChangeShapes.trodVars_none hV
  have hlen := (trodAll_length _ _ _ _ hA).2
  have hsp := hspec ds (by simpa using hlen)
  refine ⟨_, rfl, ds, [], _, [], pa, [], hW', ?_, ?_, ?_, bel.frame _, fun h => by cases h⟩
  · rw [List.append_nil, hsp, hres]
    exact ChangeShapes.trodAll_mk1 (RowKit.shut_bool hb _)
  · rw [List.append_nil, hsp]; exact hpa
  · rw [List.append_nil, hsp, hvars]; rfl

end
end Go.Vx
/-
  What a bound on the arguments' bulk says of the lengths of slices.
-/
set_option linter.unusedVariables false
namespace Go.Vx
section
variable {H : Type} {enc : TypeId × Value → H} {P : Program} {w : World} {base : Nat} {spare : Nat → Bool} {held : Bool}

theorem trodAll_at : ∀ {ts : List TypeId} {vs : List Value} {ds : List (DataW H)} {ps : List MemPlace}, DataW.TrodAll enc P w base spare held ts vs ds ps → ∀ {i : Nat} {t : TypeId}, ts[i]? = some t → ∃ v d p, vs[i]? = some v ∧ ds[i]? = some d ∧ DataW.Trod enc P w base spare held t v d p
  | [], _, _, _, _, i, t, ht => by simp at ht
  | t0 :: ts, vs, ds, ps, h, i, t, ht => by
    obtain ⟨v, vs', d, ds', p, q, rfl, rfl, rfl, h1, h2⟩ := ChangeShapes.trodAll_cons h
    cases i with
    | zero =>
      simp at ht
      subst ht
      exact ⟨v, d, p, rfl, rfl, h1⟩
    | succ i =>
      obtain ⟨v', d', p', e1, e2, e3⟩ := trodAll_at h2 (i := i) (t := t) (by simpa using ht)
      exact ⟨v', d', p', by simpa using e1, by simpa using e2, e3⟩

theorem slice_bulk {bulk : DataW H → Nat} (hb : ∀ es sp, es.length ≤ bulk (.slice es sp)) {t e : TypeId} (ht : P.underlying t = some (.slice e)) {v : Value} {d : DataW H} {p : List MemPlace} (h : DataW.Trod enc P w base spare held t v d p)
    {β : Nat → Option Nat} {S : Nat → Prop} {hl : Nat → Option Ob} {tm : Nat → Value} {s : Nat} {rows : List (List D)} (hr : RdA β S hl w tm v (.d (.sl s rows))) : rows.length ≤ bulk d := by
  have hx : Rd S w v (.sl s rows) := by
    cases hr with
    | d _ _ hx => exact hx
    | dang _ _ l h1 h2 h3 => simp [locOf] at h1
  obtain ⟨n, h⟩ := h
  cases hx with
  | sl0 a cap => simp
  | sl ad cap _ _ c hS hcap hsz hc hr =>
    rcases Go.Deep.open_slice ht h with ⟨h1, h2⟩ | ⟨a, len, cap', m, n', D, Pl, h1, h2, h3, h4, h5, h6, h7⟩
    · simp [Value.cells] at h1
    · simp [Value.cells] at h1
      obtain ⟨rfl, rfl, rfl⟩ := h1
      injection h6 with h6 _
      subst h6
      refine Nat.le_trans ?_ (hb _ _)
      simp
end
end Go.Vx
/-
  Plain lemmas for pure functions: guards, rows, integers, lists.
-/
namespace Go.Vx
section
variable {R : Type}

def i64 (x : Int) : Prop := -9223372036854775808 ≤ x ∧ x ≤ 9223372036854775807

theorem wrap64 {x : Int} (h : i64 x) : IntKind.wrap .i64 x = x := IntWalk.i64_in x h
theorem wrap64' {x : Int} (h1 : -9223372036854775808 ≤ x) (h2 : x ≤ 9223372036854775807) : IntKind.wrap .i64 x = x := IntWalk.i64_in x ⟨h1, h2⟩
theorem wf64 {n : Int} (h : (Lit.int .i64 n).wf = true) : i64 n := by
  simpa [Lit.wf, IntKind.min, IntKind.max, IntKind.signed, IntKind.bits, i64] using h

theorem pInt_int (k : IntKind) (n : Int) : pInt k (.int k n) = some n := by simp [pInt]
theorem pInt_i64 (n : Int) : pInt .i64 (.int .i64 n) = some n := rfl
theorem pInt_u8 (n : Int) : pInt .u8 (.int .u8 n) = some n := rfl
theorem pBool_b (b : Bool) : pBool (.bool b) = some b := rfl
theorem pStr_s (s : List UInt8) : pStr (.str s) = some s := rfl
theorem pSl_s (k : Nat) (l : List (List D)) : pSl k (.sl k l) = some l := by simp [pSl]

theorem rowAt_map {α : Type} (f : α → List D) (l : List α) (i : Nat) : rowAt (l.map f) (i : Int) = (l[i]?).map f := by
  simp [rowAt]
theorem rowAt_get {α : Type} {f : α → List D} {l : List α} {i : Nat} {a : α} (h : l[i]? = some a) : rowAt (l.map f) (i : Int) = some (f a) := by rw [rowAt_map, h]; rfl
theorem rowAt_int {α : Type} {f : α → List D} {l : List α} {i : Int} (h0 : 0 ≤ i) {a : α} (h : l[i.toNat]? = some a) : rowAt (l.map f) i = some (f a) := by
  have : i = (i.toNat : Int) := by omega
  rw [this, rowAt_get h]

theorem room_ok {n : Nat} (h : n ≤ 140737488355328) : room n = some () := by
  unfold room; rw [Nat.ble_eq_true_of_le h]; rfl
theorem nz_ok {b : Int} (h : b ≠ 0) : nz b = some () := by
  have : (b == 0) = false := by simpa using h
  unfold nz; rw [this]; rfl
theorem inB_ok {len : Nat} {n : Int} (h0 : 0 ≤ n) (h : n < len) : inB len n = some () := by
  unfold inB; simp [h0, h]

theorem drop_cons {α : Type} {l : List α} {i : Nat} {a : α} {r : List α} (h : l.drop i = a :: r) : l[i]? = some a ∧ l.drop (i + 1) = r ∧ i < l.length := by
  have h1 : (l.drop i)[0]? = some a := by rw [h]; rfl
  rw [List.getElem?_drop] at h1
  refine ⟨by simpa using h1, by rw [← List.drop_drop, h]; rfl, ?_⟩
  have := (List.getElem?_eq_some_iff.1 h1).1
  omega
theorem drop_nil {α : Type} {l : List α} {i : Nat} (h : l.drop i = []) : l.length ≤ i := List.drop_eq_nil_iff.1 h

theorem bif_or (a b : Bool) (x y : Option R) : (bif a then x else bif b then x else y) = bif a || b then x else y := by cases a <;> rfl
theorem bif_ite (a : Bool) (x y : Option R) : (bif a then x else y) = if a = true then x else y := by cases a <;> rfl
theorem bif_pos {c : Bool} (h : c = true) (x y : R) : (bif c then x else y) = x := by rw [h]; rfl
theorem bif_neg {c : Bool} (h : c = false) (x y : R) : (bif c then x else y) = y := by rw [h]; rfl

theorem bif_flip {B c : Bool} (h : B = !c) (x y : R) : (bif B then x else y) = bif c then y else x := by subst h; cases c <;> rfl
theorem bif_same {B c : Bool} (h : B = c) (x y : R) : (bif B then x else y) = bif c then x else y := by subst h; rfl

/-- Slices of integers. -/
def encI (l : List Int) : List (List D) := l.map fun n => [D.int .i64 n]
theorem encI_length (l : List Int) : (encI l).length = l.length := by simp [encI]
theorem encI_get {l : List Int} {i : Nat} {a : Int} (h : l[i]? = some a) : rowAt (encI l) (i : Int) = some [.int .i64 a] := rowAt_get h

theorem fit_ints {rows : List (List D)} (h : Fit (.sl [.int .i64]) (.sl 1 rows)) : ∃ l : List Int, rows = encI l ∧ (∀ n ∈ l, i64 n) ∧ l.length ≤ maxLen := by
  cases h with
  | sl _ _ hm hl hr =>
    have h1 : ∀ i, i < rows.length → ∃ n : Int, rows[i]? = some [.int .i64 n] ∧ i64 n := by
      intro i hi
      have hri := List.getElem?_eq_getElem hi
      have hlen := hl i _ hri
      obtain ⟨x, hx⟩ : ∃ x, rows[i] = [x] := by
        match hq : rows[i], hlen with
        | [x], _ => exact ⟨x, rfl⟩
      have hf := hr i 0 _ (.int .i64) x hri rfl (by rw [hx]; rfl)
      cases hf with
      | int _ n hw => exact ⟨n, by rw [hri, hx], wf64 hw⟩
    obtain ⟨l, e1, e2⟩ := ex_list rows.length h1
    refine ⟨l, ?_, fun n hn => ?_, by omega⟩
    · refine List.ext_getElem? fun i => ?_
      rcases Nat.lt_or_ge i l.length with hi | hi
      · have := (e2 i _ (List.getElem?_eq_getElem hi)).1
        rw [this]
        simp [encI, hi]
      · rw [List.getElem?_eq_none (by omega), List.getElem?_eq_none (by simpa [encI] using hi)]
    · obtain ⟨i, hi⟩ := List.getElem?_of_mem hn
      exact (e2 i _ hi).2

theorem fit_sl {row : List Sh} {x : D} (h : Fit (.sl row) x) : ∃ rows, x = .sl row.length rows := by
  cases h with
  | sl _ rows _ _ _ => exact ⟨rows, rfl⟩
theorem fit_int {k : IntKind} {x : D} (h : Fit (.int k) x) : ∃ n, x = .int k n ∧ (Lit.int k n).wf = true := by
  cases h with
  | int _ n h => exact ⟨n, rfl, h⟩
theorem fit_bool {x : D} (h : Fit .bool x) : ∃ b, x = .bool b := by
  cases h with
  | bool b => exact ⟨b, rfl⟩
theorem fit_str {x : D} (h : Fit .str x) : ∃ s, x = .str s ∧ s.length ≤ maxLen := by
  cases h with
  | str s h => exact ⟨s, rfl, h⟩

theorem fitL_cons {s : Sh} {ss : List Sh} {ds : List D} (h : FitL (s :: ss) ds) : ∃ x xs, ds = x :: xs ∧ Fit s x ∧ FitL ss xs := by
  obtain ⟨h1, h2⟩ := h
  cases ds with
  | nil => simp at h1
  | cons x xs => exact ⟨x, xs, rfl, h2 0 s x rfl rfl, by simpa using h1, fun j s' x' hs hx => h2 (j + 1) s' x' (by simpa using hs) (by simpa using hx)⟩
theorem fitL_nil {ds : List D} (h : FitL [] ds) : ds = [] := List.eq_nil_of_length_eq_zero (by simpa using h.1)

/-- Slices of structs. -/
theorem fit_structs {α : Type} {enc : α → List D} {Q : α → Prop} {row : List Sh} (hdec : ∀ r : List D, FitL row r → ∃ a, r = enc a ∧ Q a) {k : Nat} {rows : List (List D)} (h : Fit (.sl row) (.sl k rows)) : ∃ l : List α, rows = l.map enc ∧ (∀ a ∈ l, Q a) ∧ l.length ≤ maxLen := by
  cases h with
  | sl _ _ hm hl hr =>
    have h1 : ∀ i, i < rows.length → ∃ a : α, rows[i]? = some (enc a) ∧ Q a := by
      intro i hi
      have hri := List.getElem?_eq_getElem hi
      obtain ⟨a, ha, hq⟩ := hdec rows[i] ⟨hl i _ hri, fun j s x hs hx => hr i j _ s x hri hs hx⟩
      exact ⟨a, by rw [hri, ha], hq⟩
    obtain ⟨l, e1, e2⟩ := ex_list rows.length h1
    refine ⟨l, ?_, fun n hn => ?_, by omega⟩
    · refine List.ext_getElem? fun i => ?_
      rcases Nat.lt_or_ge i l.length with hi | hi
      · rw [(e2 i _ (List.getElem?_eq_getElem hi)).1]; simp [hi]
      · rw [List.getElem?_eq_none (by omega), List.getElem?_eq_none (by simpa using hi)]
    · obtain ⟨i, hi⟩ := List.getElem?_of_mem hn
      exact (e2 i _ hi).2

/-- A law's answer. -/
def lawK : AV → Option Bool
  | .d (.bool b) => some b
  | _ => none
theorem lawK_ok (x : AV) (h : lawK x = some true) : x = .d (.bool true) := by
  unfold lawK at h
  split at h
  · injection h with h; subst h; rfl
  · cases h

end
end Go.Vx
/-
  Contracts by shape: the callee sees some of the caller's objects, arrays and function values among them.
-/
namespace Go.Vx
section
variable {P : Program} {R : Type}

mutual
/-- All names lie in the map's domain; no guard. -/
def dm (ρ : List (Nat × Nat)) : AV → Bool
  | .ptr j _ => (look ρ j).isSome
  | .arr j => (look ρ j).isSome
  | .ap j _ _ => (look ρ j).isSome
  | .sa j _ => (look ρ j).isSome
  | .ag l => dmL ρ l
  | .tup l => dmL ρ l
  | .fn _ l => dmL ρ l
  | .gd .. => false
  | _ => true
def dmL (ρ : List (Nat × Nat)) : List AV → Bool
  | [] => true
  | a :: r => dm ρ a && dmL ρ r
end

theorem dmL_at {ρ : List (Nat × Nat)} : ∀ {l : List AV} {i : Nat} {x : AV}, dmL ρ l = true → l[i]? = some x → dm ρ x = true
  | a :: r, 0, x, h, hx => by
    simp only [dmL, Bool.and_eq_true] at h
    simp at hx; subst hx; exact h.1
  | a :: r, i + 1, x, h, hx => by
    simp only [dmL, Bool.and_eq_true] at h
    exact dmL_at h.2 (by simpa using hx)

section
variable {ρ : List (Nat × Nat)} {β β' : Nat → Option Nat} {S : Nat → Prop} {h h' : Nat → Option Ob} {w : World} {tm : Nat → Value}

theorem unren (hβ : ∀ j l, look ρ j = some l → β' j = β l) (hh : ∀ j l, look ρ j = some l → (h l).isSome = true ∧ ∀ e s rows, h l = some (.arr e s rows) → h' j = some (.arr e s rows)) :
    ∀ {v : Value} {y : AV}, RdA β S h w tm v y → ∀ x : AV, dm ρ x = true → y = renA ρ x → RdA β' S h' w tm v x := by
  intro v y hv
  induction hv with
  | top v =>
    intro x hd he
    cases x <;> simp only [renA, reduceCtorEq] at he
    case top => exact .top v
    case ptr j o => simp only [dm] at hd; obtain ⟨l, hl⟩ := Option.isSome_iff_exists.1 hd; rw [hl] at he; cases he
    case arr j => simp only [dm] at hd; obtain ⟨l, hl⟩ := Option.isSome_iff_exists.1 hd; rw [hl] at he; cases he
    case ap j i o => simp only [dm] at hd; obtain ⟨l, hl⟩ := Option.isSome_iff_exists.1 hd; rw [hl] at he; cases he
    case sa j o => simp only [dm] at hd; obtain ⟨l, hl⟩ := Option.isSome_iff_exists.1 hd; rw [hl] at he; cases he
    case gd => simp [dm] at hd
  | d v z hz =>
    intro x hd he
    cases x <;> simp only [renA, reduceCtorEq] at he
    case d => injection he with he; subst he; exact .d v _ hz
    case ptr j o => split at he <;> cases he
    case arr j => split at he <;> cases he
    case sa j t => split at he <;> cases he
    case ap j i o => split at he <;> cases he
  | nil =>
    intro x hd he
    cases x <;> simp only [renA, reduceCtorEq] at he
    case nil => exact .nil
    case ptr j o => split at he <;> cases he
    case arr j => split at he <;> cases he
    case sa j t => split at he <;> cases he
    case ap j i o => split at he <;> cases he
  | ag cs l hl _ ih =>
    intro x hd he
    cases x <;> simp only [renA, reduceCtorEq] at he
    case ag r =>
      injection he with he
      subst he
      rw [renL_length] at hl
      refine .ag cs r hl fun i z hz => ?_
      exact ih i (renA ρ z) (by rw [renL_get, hz]; rfl) z (dmL_at (by simpa [dm] using hd) hz) rfl
    case ptr j o => split at he <;> cases he
    case arr j => split at he <;> cases he
    case sa j t => split at he <;> cases he
    case ap j i o => split at he <;> cases he
  | tup cs l hl _ ih =>
    intro x hd he
    cases x <;> simp only [renA, reduceCtorEq] at he
    case tup r =>
      injection he with he
      subst he
      rw [renL_length] at hl
      refine .tup cs r hl fun i z hz => ?_
      exact ih i (renA ρ z) (by rw [renL_get, hz]; rfl) z (dmL_at (by simpa [dm] using hd) hz) rfl
    case ptr j o => split at he <;> cases he
    case arr j => split at he <;> cases he
    case sa j t => split at he <;> cases he
    case ap j i o => split at he <;> cases he
  | fn f cs l hl _ ih =>
    intro x hd he
    cases x <;> simp only [renA, reduceCtorEq] at he
    case fn g r =>
      injection he with he1 he2
      subst he1
      subst he2
      rw [renL_length] at hl
      refine .fn f cs r hl fun i z hz => ?_
      exact ih i (renA ρ z) (by rw [renL_get, hz]; rfl) z (dmL_at (by simpa [dm] using hd) hz) rfl
    case ptr j o => split at he <;> cases he
    case arr j => split at he <;> cases he
    case sa j t => split at he <;> cases he
    case ap j i o => split at he <;> cases he
  | fs ad s rows hx =>
    intro x hd he
    cases x <;> simp only [renA, reduceCtorEq] at he
    case fs => injection he with e1 e2; subst e1 e2; exact .fs ad _ _ hx
    case ptr j o => split at he <;> cases he
    case arr j => split at he <;> cases he
    case sa j t => split at he <;> cases he
    case ap j i o => split at he <;> cases he
  | ex v =>
    intro x hd he
    cases x <;> simp only [renA, reduceCtorEq] at he
    case ex => injection he with e1; subst e1; exact .ex _
    case ptr j o => split at he <;> cases he
    case arr j => split at he <;> cases he
    case sa j t => split at he <;> cases he
    case ap j i o => split at he <;> cases he
  | mpd v f hm =>
    intro x hd he
    cases x <;> simp only [renA, reduceCtorEq] at he
    case mpd => injection he with e1; subst e1; exact .mpd v _ hm
    case ptr j o => split at he <;> cases he
    case arr j => split at he <;> cases he
    case sa j t => split at he <;> cases he
    case ap j i o => split at he <;> cases he
  | ptr l off b hb =>
    intro x hd he
    cases x <;> simp only [renA, reduceCtorEq] at he
    case ptr j o =>
      split at he
      · rename_i l' hl'
        injection he with e1 e2
        subst e1 e2
        exact .ptr j _ b ((hβ j _ hl').trans hb)
      · cases he
    case arr j => split at he <;> cases he
    case sa j t => split at he <;> cases he
    case ap j i o => split at he <;> cases he
  | sa v l t b hb hv =>
    intro x hd he
    cases x <;> simp only [renA, reduceCtorEq] at he
    case sa j t =>
      split at he
      · rename_i l' hl'
        injection he with e1 e2
        subst e1 e2
        exact .sa v j _ b ((hβ j _ hl').trans hb) hv
      · cases he
    case ptr j o => split at he <;> cases he
    case arr j => split at he <;> cases he
    case ap j i o => split at he <;> cases he
  | el ad row off c hs hc hr =>
    intro x hd he
    cases x <;> simp only [renA, reduceCtorEq] at he
    case el r o => injection he with e1 e2; subst e1 e2; exact .el ad _ _ c hs hc hr
    case ptr j o => split at he <;> cases he
    case arr j => split at he <;> cases he
    case sa j t => split at he <;> cases he
    case ap j i o => split at he <;> cases he
  | arr0 l e s hb hk =>
    intro x hd he
    cases x <;> simp only [renA, reduceCtorEq] at he
    case arr j =>
      split at he
      · rename_i l' hl'
        injection he with e1
        subst e1
        exact .arr0 j e s ((hβ j _ hl').trans hb) ((hh j _ hl').2 _ _ _ hk)
      · cases he
    case ptr j o => split at he <;> cases he
    case sa j t => split at he <;> cases he
    case ap j i o => split at he <;> cases he
  | arr l b cap e s rows cs ty fz hb hk hw hcs hcap hmax =>
    intro x hd he
    cases x <;> simp only [renA, reduceCtorEq] at he
    case arr j =>
      split at he
      · rename_i l' hl'
        injection he with e1
        subst e1
        exact .arr j b cap e s rows cs ty fz ((hβ j _ hl').trans hb) ((hh j _ hl').2 _ _ _ hk) hw hcs hcap hmax
      · cases he
    case ptr j o => split at he <;> cases he
    case sa j t => split at he <;> cases he
    case ap j i o => split at he <;> cases he
  | ap l i off b e s rows hb hk =>
    intro x hd he
    cases x <;> simp only [renA, reduceCtorEq] at he
    case ap j i' o =>
      split at he
      · rename_i l' hl'
        injection he with e1 e2 e3
        subst e1 e2 e3
        exact .ap j _ _ b e s rows ((hβ j _ hl').trans hb) ((hh j _ hl').2 _ _ _ hk)
      · cases he
    case ptr j o => split at he <;> cases he
    case arr j => split at he <;> cases he
    case sa j t => split at he <;> cases he
  | dang v av l hl hk h1 =>
    intro x hd he
    exfalso
    cases x with
    | ptr j o => simp only [renA] at he; split at he <;> (subst he; simp [locOf] at hl)
    | sa j o => simp only [renA] at he; split at he <;> (subst he; simp [locOf] at hl)
    | arr j =>
      simp only [renA] at he
      split at he
      · rename_i l' hl'
        subst he
        simp [locOf] at hl
        subst hl
        have := (hh j _ hl').1
        rw [hk] at this
        cases this
      · subst he; simp [locOf] at hl
    | ap j i o =>
      simp only [renA] at he
      split at he
      · rename_i l' hl'
        subst he
        simp [locOf] at hl
        subst hl
        have := (hh j _ hl').1
        rw [hk] at this
        cases this
      · subst he; simp [locOf] at hl
    | _ => simp only [renA] at he; subst he; simp [locOf] at hl
  | gdT v t b av ht hv ih =>
    intro x hd he
    cases x <;> simp only [renA, reduceCtorEq] at he
    case ptr j o => split at he <;> cases he
    case arr j => split at he <;> cases he
    case sa j t => split at he <;> cases he
    case ap j i o => split at he <;> cases he
  | gdF t b av ht =>
    intro x hd he
    cases x <;> simp only [renA, reduceCtorEq] at he
    case ptr j o => split at he <;> cases he
    case arr j => split at he <;> cases he
    case sa j t => split at he <;> cases he
    case ap j i o => split at he <;> cases he

end

/-- A cell of the caller's, and how the callee sees it. -/
def CLe (ρ : List (Nat × Nat)) (c c' : AV) : Prop := (lf c' = true ∧ AVle c c') ∨ (dm ρ c' = true ∧ c = renA ρ c')

inductive CLeL (ρ : List (Nat × Nat)) : List AV → List AV → Prop
  | nil : CLeL ρ [] []
  | cons {a b : AV} {l r : List AV} (h : CLe ρ a b) (t : CLeL ρ l r) : CLeL ρ (a :: l) (b :: r)

theorem CLeL.length {ρ : List (Nat × Nat)} {l r : List AV} (h : CLeL ρ l r) : l.length = r.length := by induction h <;> simp [*]
theorem CLeL.at {ρ : List (Nat × Nat)} {l r : List AV} (h : CLeL ρ l r) : ∀ (i : Nat) (x : AV), r[i]? = some x → ∃ y, l[i]? = some y ∧ CLe ρ y x := by
  induction h with
  | nil => intro i x hx; simp at hx
  | cons h0 _ ih =>
    intro i x hx
    cases i with
    | zero => simp at hx; subst hx; exact ⟨_, rfl, h0⟩
    | succ i => obtain ⟨y, h1, h2⟩ := ih i x (by simpa using hx); exact ⟨y, by simpa using h1, h2⟩

theorem saTy_cle {ρ : List (Nat × Nat)} {ty : TypeId} {cs cs' : List AV} (hc : CLeL ρ cs cs') (h : SaTy ty cs) : SaTy ty cs' := by
  intro i l t hi
  obtain ⟨y, hy, hcl⟩ := hc.at i _ hi
  rcases hcl with ⟨h1, _⟩ | ⟨h1, rfl⟩
  · simp [lf] at h1
  · simp only [dm] at h1
    obtain ⟨l', hl'⟩ := Option.isSome_iff_exists.1 h1
    simp only [renA, hl'] at hy
    exact h i l' t hy

inductive OLe (ρ : List (Nat × Nat)) : Ob → Ob → Prop
  | box {cs cs' : List AV} (h : CLeL ρ cs cs') : OLe ρ (.box cs) (.box cs')
  | arr (e s : Nat) (rows : List (List D)) : OLe ρ (.arr e s rows) (.arr e s rows)

/-- How an object of the caller's comes back. -/
def EndOk (o o' : Option Ob) : Prop :=
  (∃ c c', o = some (.box c) ∧ o' = some (.box c') ∧ c'.length = c.length) ∨
  (∃ e s rows, o = some (.arr e s rows) ∧ (o' = none ∨ ∃ rows', o' = some (.arr e s rows') ∧ rows'.length = rows.length))

structure ShapeEnd (σ ρ : List (Nat × Nat)) (H : List (Nat × Ob)) (av : AV) (H' : List (Nat × Ob)) (dl : Dl) : Prop where
  v : renA σ av = dl.v
  wr : outWr σ H' σ = dl.wr
  news : ∀ j l, (j, l) ∈ σ → (j, l) ∉ ρ → (look H' j).isSome = true
  old : ∀ j l, (j, l) ∈ ρ → EndOk (look H j) (look H' j)

theorem callOK_shapeX {α : Type} {K : AV → List (Nat × Ob) → Option α} {res : α} {f : Nat} {fn : Func} (hf : P.funcs[f]? = some fn) (hb : fn.body.isSome = true) (hn : (fn.name == "runtime.NumGoroutine") = false)
    {σ ρ : List (Nat × Nat)} {avs avs' : List AV} {H : List (Nat × Ob)} {hl : Nat → Option Ob} {dl : Dl}
    (hav : CLeL ρ avs avs')
    (hsub : ∀ p, p ∈ ρ → p ∈ σ) (h1 : nodupN (σ.map (·.1)) = true) (h2 : nodupN (σ.map (·.2)) = true) (hρ : nodupN (ρ.map (·.1)) = true)
    (hin : ∀ j l, (j, l) ∈ ρ → 1000000 ≤ j ∧ ∃ o o', hl l = some o ∧ look H j = some o' ∧ OLe ρ o o')
    (hinH : ∀ j, (look H j).isSome = true → ∃ l, (j, l) ∈ ρ)
    (hnew : ∀ j l, (j, l) ∈ σ → (j, l) ∈ ρ ∨ hl l = none)
    (hwl : wrL dl = σ.map (·.2))
    (h : ∀ (β : Nat → Option Nat) (S : Nat → Prop) (w : World) (vs : List Value), Objs β S (look H) w → ArgsRd β S (look H) w vs avs' → Calls P f vs.toArray w (FnPost H K res β S w)) (hK : ∀ av H', K av H' = some res → ShapeEnd σ ρ H av H' dl) : CallOK P f avs hl dl := by
  refine ⟨⟨fn, hf, hb, hn⟩, fun β S h' w args hO hA hag => ?_⟩
  have hag : ∀ {j l : Nat}, (j, l) ∈ σ → h' l = hl l := fun {j l} hm => hag l (.inr (by rw [hwl]; exact List.mem_map.2 ⟨(j, l), hm, rfl⟩))
  have hlook : ∀ {j l : Nat}, (j, l) ∈ ρ → look ρ j = some l := fun hm => look_of_mem hρ hm
  have hβc : ∀ {j l : Nat}, (j, l) ∈ ρ → (look ρ j).bind β = β l := fun hm => by rw [hlook hm]; rfl
  have hlk2 : ∀ {j j' l : Nat}, (j, l) ∈ ρ → (j', l) ∈ ρ → j = j' := fun a b => by
    have := nodup_fst h2 _ _ (hsub _ a) (hsub _ b) rfl
    injection this
  have hsome' : ∀ {j l : Nat}, (j, l) ∈ ρ → (h' l).isSome = true := fun hm => by
    obtain ⟨_, o, o', g1, _⟩ := hin _ _ hm
    rw [hag (hsub _ hm), g1]; rfl
  have hun : ∀ {v : Value} {y x : AV}, RdA β S h' w tm0 v y → CLe ρ y x → RdA (fun j => (look ρ j).bind β) S (look H) w tm0 v x := by
    intro v y x hv hc
    rcases hc with ⟨c1, c2⟩ | ⟨c1, rfl⟩
    · exact rdA_lf c1 (fun _ h => h) (fun _ _ => rfl) (c2 _ _ _ _ _ _ hv)
    · refine unren (ρ := ρ) (fun j l hj => by simp only [hj]; rfl) (fun j l hj => ⟨hsome' (look_mem hj), fun e s rows hx => ?_⟩) hv x c1 rfl
      obtain ⟨_, o, o', g1, g2, g3⟩ := hin j l (look_mem hj)
      rw [hag (hsub _ (look_mem hj)), g1] at hx
      injection hx with hx
      subst hx
      cases g3
      exact g2
  -- the callee's view
  have hO0 : Objs (fun j => (look ρ j).bind β) S (look H) w := by
    refine ⟨fun j o ho => ?_, fun j j' b s1 s2 b1 b2 => ?_, fun j b s1 b1 => ?_, hO.sb⟩
    · obtain ⟨l, hm⟩ := hinH j (by simp [ho])
      obtain ⟨_, oo, o', g1, g2, g3⟩ := hin j l hm
      rw [ho] at g2
      injection g2 with g2
      subst g2
      have hob := hO.ob l _ ((hag (hsub _ hm)).trans g1)
      cases g3 with
      | box g3 =>
        obtain ⟨b, ty, c0, fz, e1, e2, e3, e4, e5⟩ := hob
        refine ⟨b, ty, c0, fz, (hβc hm).trans e1, e2, ⟨e3.1, saTy_cle g3 e3.2⟩, e4.trans g3.length, fun i x hx => ?_⟩
        obtain ⟨y, y1, y2⟩ := g3.at i x hx
        exact hun (e5 i y y1) y2
      | arr e s rows =>
        rcases hob with ⟨e1, e2⟩ | ⟨b, cs, e1, e2, e3, e4, e5⟩
        · exact .inl ⟨(hβc hm).trans e1, e2⟩
        · exact .inr ⟨b, cs, (hβc hm).trans e1, e2, e3, e4, e5⟩
    · obtain ⟨l, hm⟩ := hinH j s1
      obtain ⟨l', hm'⟩ := hinH j' s2
      have := hO.inj l l' b (hsome' hm) (hsome' hm') (by rw [← hβc hm]; exact b1) (by rw [← hβc hm']; exact b2)
      subst this
      exact hlk2 hm hm'
    · obtain ⟨l, hm⟩ := hinH j s1
      exact hO.apart l b (hsome' hm) (by rw [← hβc hm]; exact b1)
  have hA0 : ArgsRd (fun j => (look ρ j).bind β) S (look H) w args avs' := by
    refine ⟨by rw [hA.1, hav.length], fun i v av g1 g2 => ?_⟩
    obtain ⟨y, y1, y2⟩ := hav.at i av g2
    exact hun (hA.2 i v y g1 y1) y2
  refine (h _ _ _ _ hO0 hA0).mono fun e w' ⟨v, av, H', β', S', he, hk, hrd, _, hr⟩ => ?_
  obtain ⟨q1, q2, q3, q4⟩ := hK av H' hk
  have hinv : ∀ {j l : Nat}, (j, l) ∈ σ → inv σ l = some j := fun hm => inv_of h2 hm
  let βo : Nat → Option Nat := fun l => match inv σ l with | some j => β' j | none => β l
  have hβo : ∀ j l, (j, l) ∈ σ → βo l = β' j := fun j l hm => by simp only [βo, hinv hm]
  have hset : ∀ j l, (j, l) ∈ σ → setF h' dl.wr l = (look H' j).map (renO σ) := fun j l hm => by rw [← q2]; exact setF_out_at σ H' σ h' h2 j l hm
  have hmem : ∀ {l : Nat}, l ∈ wrL dl → ∃ j, (j, l) ∈ σ := fun hm => by
    rw [hwl] at hm
    obtain ⟨⟨j, l'⟩, m1, m2⟩ := List.mem_map.1 hm
    simp only at m2
    subst m2
    exact ⟨j, m1⟩
  have hpin : ∀ {j l : Nat}, (j, l) ∈ ρ → β' j = β l := fun hm => (hr.pin _ (hin _ _ hm).1).trans (hβc hm)
  have hren : ∀ {v : Value} {x : AV}, RdA β' S' (look H') w' tm0 v x → RdA βo S' (setF h' dl.wr) w' tm0 v (renA σ x) := fun hx =>
    renA_gen hβo (fun j l o hm ho => by rw [hset j l hm, ho]; rfl) (fun j l hm ho => by rw [hset j l hm, ho]; rfl) hx
  have hwmem : ∀ {j l : Nat}, (j, l) ∈ σ → l ∈ wrL dl := fun {j l} hm => by rw [hwl]; exact List.mem_map.2 ⟨(j, l), hm, rfl⟩
  have hMw : ∀ b, (∃ j, (look H j).isSome = true ∧ (look ρ j).bind β = some b) → ∃ l, l ∈ wrL dl ∧ (h' l).isSome = true ∧ β l = some b := by
    intro b ⟨j, s1, s2⟩
    obtain ⟨l, hm⟩ := hinH j s1
    exact ⟨l, hwmem (hsub _ hm), hsome' hm, by rw [← hβc hm]; exact s2⟩
  have hw0 : ∀ {b : Nat}, (∃ j, (look H j).isSome = true ∧ (look ρ j).bind β = some b) ∨ w.heap.size ≤ b → w.heap.size ≤ b ∨ ∃ l0, l0 ∈ wrL dl ∧ (h' l0).isSome = true ∧ β l0 = some b := by
    intro b hx
    rcases hx with hx | hx
    · exact .inr (hMw b hx)
    · exact .inl hx
  refine ⟨v, βo, S', he, ⟨hr.s0, fun b hS => ?_, hr.sb, hr.fr.mono fun b _ hM => hMw b hM, fun l hno => ?_, fun l o hm ho => ?_, fun l hm hs => ?_, fun l b hm hs hb' => ?_, fun l l' b hm hm' hs hs' hb' hb'' => ?_, fun l hm hno hno' => ?_, ?_, fun t => by rw [← q1]; exact gds_renA σ t av⟩⟩
  · rcases hr.sfr b hS with g | g | g
    · exact .inl g
    · exact .inr (.inr (hMw b g))
    · exact .inr (.inl g)
  · have : inv σ l = none := inv_none (by rw [← hwl]; exact hno)
    simp only [βo, this]
  · obtain ⟨j, hj⟩ := hmem hm
    rw [hset j l hj, Option.map_eq_some_iff] at ho
    obtain ⟨o', ho', rfl⟩ := ho
    have hob := hr.ob j o' ho'
    cases o' with
    | box cells =>
      obtain ⟨b, ty, cs, fz, g1, g2, g3, g4, g5⟩ := hob
      refine ⟨b, ty, cs, fz, (hβo j l hj).trans g1, g2, ⟨g3.1, saTy_ren g3.2⟩, by rw [g4, renL_length], fun i x hx => ?_⟩
      rw [renL_get, Option.map_eq_some_iff] at hx
      obtain ⟨y, hy, rfl⟩ := hx
      exact hren (g5 i y hy)
    | arr e s rows =>
      rcases hob with ⟨g1, g2⟩ | ⟨b, cs, g1, g2, g3, g4, g5⟩
      · exact .inl ⟨(hβo j l hj).trans g1, g2⟩
      · exact .inr ⟨b, cs, (hβo j l hj).trans g1, g2, g3, g4, g5⟩
  · obtain ⟨j, hj⟩ := hmem hm
    rcases hnew j l hj with hp | hno
    · obtain ⟨hj6, o, o', e1, e2, e3⟩ := hin j l hp
      have hh : h' l = some o := (hag hj).trans e1
      have hcells : ∀ b cs ty fz, (setF h' dl.wr l).isSome = true → β l = some b → w.heap[b]? = some (.cells cs ty fz) → ∃ cs' ty' fz', w'.heap[b]? = some (.cells cs' ty' fz') ∧ cs'.size = cs.size := by
        intro b cs ty fz hs' hb' hw
        have hs2 : (look H' j).isSome = true := by
          rw [hset j l hj] at hs'
          cases hx : look H' j with
          | none => rw [hx] at hs'; cases hs'
          | some o => rfl
        exact hr.psz j b hj6 hs2 ((hpin hp).trans hb') cs ty fz hw
      rcases q4 j l hp with ⟨c, c', g1, g2, g3⟩ | ⟨e, s, rows, g1, g2⟩
      · rw [g1] at e2
        injection e2 with e2
        subst e2
        cases e3 with
        | box e3 => exact ⟨(hβo j l hj).trans (hpin hp), fun hx => (by rw [hh] at hx; cases hx), fun e s rows hx => (by rw [hh] at hx; cases hx), hcells⟩
      · rw [g1] at e2
        injection e2 with e2
        subst e2
        cases e3 with
        | arr =>
          refine ⟨(hβo j l hj).trans (hpin hp), fun hx => (by rw [hh] at hx; cases hx), fun e' s' rows2 hx => ?_, hcells⟩
          rw [hh] at hx
          injection hx with hx
          injection hx with x1 x2 x3
          subst x1 x2 x3
          rcases g2 with g2 | ⟨rows', g2, g3⟩
          · left; rw [hset j l hj, g2]; rfl
          · right; exact ⟨rows', by rw [hset j l hj, g2]; rfl, g3⟩
    · rw [hag hj, hno] at hs; cases hs
  · obtain ⟨j, hj⟩ := hmem hm
    rw [hβo j l hj] at hb'
    have hs2 : (look H' j).isSome = true := by
      rw [hset j l hj] at hs
      cases hx : look H' j with
      | none => rw [hx] at hs; cases hs
      | some o => rfl
    exact ⟨hw0 (hr.own j b hs2 hb'), hr.apart j b hs2 hb'⟩
  · obtain ⟨j, hj⟩ := hmem hm
    obtain ⟨j', hj'⟩ := hmem hm'
    rw [hβo j l hj] at hb'
    rw [hβo j' l' hj'] at hb''
    have hs2 : ∀ {j l : Nat}, (j, l) ∈ σ → (setF h' dl.wr l).isSome = true → (look H' j).isSome = true := by
      intro j l hj hs
      rw [hset j l hj] at hs
      cases hx : look H' j with
      | none => rw [hx] at hs; cases hs
      | some o => rfl
    have := hr.inj j j' b (hs2 hj hs) (hs2 hj' hs') hb' hb''
    subst this
    have := nodup_fst h1 _ _ hj hj' rfl
    injection this
  · obtain ⟨j, hj⟩ := hmem hm
    by_cases hp : (j, l) ∈ ρ
    · have := hsome' hp
      rw [hno] at this
      cases this
    · have := q3 j l hj hp
      rw [hset j l hj] at hno'
      cases hx : look H' j with
      | none => rw [hx] at this; cases this
      | some o => rw [hx] at hno'; cases hno'
  · rw [← q1]; exact hren hrd
theorem callOK_shape {α : Type} {K : AV → List (Nat × Ob) → Option α} {res : α} {C : VC} (hC : VCOk P C) {n f : Nat} {fn : Func} (hf : P.funcs[f]? = some fn) (hb : fn.body.isSome = true) (hn : (fn.name == "runtime.NumGoroutine") = false)
    {σ ρ : List (Nat × Nat)} {avs avs' : List AV} {H : List (Nat × Ob)} {hl : Nat → Option Ob} {dl : Dl}
    (hav : CLeL ρ avs avs')
    (hsub : ∀ p, p ∈ ρ → p ∈ σ) (h1 : nodupN (σ.map (·.1)) = true) (h2 : nodupN (σ.map (·.2)) = true) (hρ : nodupN (ρ.map (·.1)) = true)
    (hin : ∀ j l, (j, l) ∈ ρ → 1000000 ≤ j ∧ ∃ o o', hl l = some o ∧ look H j = some o' ∧ OLe ρ o o')
    (hinH : ∀ j, (look H j).isSome = true → ∃ l, (j, l) ∈ ρ)
    (hnew : ∀ j l, (j, l) ∈ σ → (j, l) ∈ ρ ∨ hl l = none)
    (hwl : wrL dl = σ.map (·.2))
    (h : vfn C n fn avs' H K = some res) (hK : ∀ av H', K av H' = some res → ShapeEnd σ ρ H av H' dl) : CallOK P f avs hl dl :=
  callOK_shapeX hf hb hn hav hsub h1 h2 hρ hin hinH hnew hwl (fun _ _ _ _ hO hA => vfn_calls hC hf h hO hA) hK

end
end Go.Vx
/-
  What the generated texts lean on, for contracts by shape.
-/
namespace Go.Vx
section
variable {P : Program} {R : Type}

/-- An array of the caller's own. -/
def prR (hl : Nat → Option Ob) (e s : Nat) (av : AV) (k : Nat → List (List D) → Option R) : Option R :=
  match av with
  | .arr l => match hl l with
    | some (.arr e' s' rows) => bif Nat.beq e' e && Nat.beq s' s then k l rows else none
    | _ => none
  | _ => none
theorem prR_some {hl : Nat → Option Ob} {e s : Nat} {av : AV} {k : Nat → List (List D) → Option R} {r : R} (h : prR hl e s av k = some r) : ∃ l rows, k l rows = some r ∧ av = .arr l ∧ hl l = some (.arr e s rows) := by
  unfold prR at h
  split at h
  · rename_i l
    split at h
    · rename_i e' s' rows hh
      obtain ⟨hc, hk⟩ := bif_some h
      simp only [Bool.and_eq_true] at hc
      have h1 := Nat.eq_of_beq_eq_true hc.1
      have h2 := Nat.eq_of_beq_eq_true hc.2
      subst h1 h2
      exact ⟨l, rows, hk, rfl, hh⟩
    · cases h
  · cases h

/-- A pointer that is known already. -/
def prQ (l : Nat) (av : AV) (k : Option R) : Option R :=
  match av with
  | .ptr l' o => bif Nat.beq l' l && Nat.beq o 0 then k else none
  | _ => none
theorem prQ_some {l : Nat} {av : AV} {k : Option R} {r : R} (h : prQ l av k = some r) : k = some r ∧ av = .ptr l 0 := by
  unfold prQ at h
  split at h
  · obtain ⟨hc, hk⟩ := bif_some h
    simp only [Bool.and_eq_true] at hc
    have h1 := Nat.eq_of_beq_eq_true hc.1
    have h2 := Nat.eq_of_beq_eq_true hc.2
    subst h1 h2
    exact ⟨hk, rfl⟩
  · cases h

/-- A function value. -/
def prF (f : Nat) (av : AV) (k : List AV → Option R) : Option R :=
  match av with
  | .fn f' caps => bif Nat.beq f' f then k caps else none
  | _ => none
theorem prF_some {f : Nat} {av : AV} {k : List AV → Option R} {r : R} (h : prF f av k = some r) : ∃ caps, k caps = some r ∧ av = .fn f caps := by
  unfold prF at h
  split at h
  · obtain ⟨hc, hk⟩ := bif_some h
    have h1 := Nat.eq_of_beq_eq_true hc
    subst h1
    exact ⟨_, hk, rfl⟩
  · cases h

theorem CLe.data {ρ : List (Nat × Nat)} {c c' : AV} (hl : lf c' = true) (h : AVle c c') : CLe ρ c c' := .inl ⟨hl, h⟩
theorem CLe.own {ρ : List (Nat × Nat)} {c c' : AV} (hd : dm ρ c' = true) (h : c = renA ρ c') : CLe ρ c c' := .inr ⟨hd, h⟩

def HinS (ρ0 : List (Nat × Nat)) (hl : Nat → Option Ob) (H : List (Nat × Ob)) : List (Nat × Nat) → Prop
  | [] => True
  | (j, l) :: r => (1000000 ≤ j ∧ ∃ o o', hl l = some o ∧ look H j = some o' ∧ OLe ρ0 o o') ∧ HinS ρ0 hl H r
def EndL (H H' : List (Nat × Ob)) : List (Nat × Nat) → Prop
  | [] => True
  | (j, _) :: r => EndOk (look H j) (look H' j) ∧ EndL H H' r

theorem HinS_at {ρ0 : List (Nat × Nat)} {hl : Nat → Option Ob} {H : List (Nat × Ob)} : ∀ {ρ : List (Nat × Nat)}, HinS ρ0 hl H ρ → ∀ j l, (j, l) ∈ ρ → 1000000 ≤ j ∧ ∃ o o', hl l = some o ∧ look H j = some o' ∧ OLe ρ0 o o'
  | (a, b) :: r, h, j, l, hm => by
    rcases List.mem_cons.1 hm with hm | hm
    · injection hm with h1 h2; subst h1 h2; exact h.1
    · exact HinS_at h.2 j l hm
theorem EndL_at {H H' : List (Nat × Ob)} : ∀ {ρ : List (Nat × Nat)}, EndL H H' ρ → ∀ j l, (j, l) ∈ ρ → EndOk (look H j) (look H' j)
  | (a, b) :: r, h, j, l, hm => by
    rcases List.mem_cons.1 hm with hm | hm
    · injection hm with h1 h2; subst h1 h2; exact h.1
    · exact EndL_at h.2 j l hm

theorem endOk_box {o o' : Option Ob} {c c' : List AV} (h1 : o = some (.box c)) (h2 : o' = some (.box c')) (h3 : c'.length = c.length) : EndOk o o' := .inl ⟨c, c', h1, h2, h3⟩
theorem endOk_gone {o o' : Option Ob} {e s : Nat} {rows : List (List D)} (h1 : o = some (.arr e s rows)) (h2 : o' = none) : EndOk o o' := .inr ⟨e, s, rows, h1, .inl h2⟩

theorem callOK_shX {α : Type} {K : AV → List (Nat × Ob) → Option α} {res : α} {f : Nat} {fn : Func} (hf : P.funcs[f]? = some fn) (hb : fn.body.isSome = true) (hn : (fn.name == "runtime.NumGoroutine") = false)
    {ρ ν : List (Nat × Nat)} {avs avs' : List AV} {H : List (Nat × Ob)} {hl : Nat → Option Ob} {dl : Dl}
    (hav : CLeL ρ avs avs') (h1 : nodupN ((ρ ++ ν).map (·.1)) = true) (hρ : nodupN (ρ.map (·.1)) = true)
    (hc : newsOk hl ρ ν = true) (hin : HinS ρ hl H ρ) (hkeys : H.map (·.1) = ρ.map (·.1)) (hwl : wrL dl = (ρ ++ ν).map (·.2))
    (h : ∀ (β : Nat → Option Nat) (S : Nat → Prop) (w : World) (vs : List Value), Objs β S (look H) w → ArgsRd β S (look H) w vs avs' → Calls P f vs.toArray w (FnPost H K res β S w))
    (hK : ∀ av H', K av H' = some res → renA (ρ ++ ν) av = dl.v ∧ outWr (ρ ++ ν) H' (ρ ++ ν) = dl.wr ∧ AllL H' ν ∧ EndL H H' ρ) : CallOK P f avs hl dl := by
  simp only [newsOk, Bool.and_eq_true] at hc
  refine callOK_shapeX hf hb hn hav (fun p hp => List.mem_append_left _ hp) h1 hc.1 hρ (HinS_at hin) (keys_mem hkeys) (fun j l hm => ?_) hwl h fun av H' hk => ?_
  · rcases List.mem_append.1 hm with hm | hm
    · exact .inl hm
    · exact .inr (NewL_at hc.2 j l hm)
  · obtain ⟨q1, q2, q3, q4⟩ := hK av H' hk
    refine ⟨q1, q2, fun j l hm hno => ?_, EndL_at q4⟩
    rcases List.mem_append.1 hm with hm | hm
    · exact absurd hm hno
    · exact AllL_at q3 j l hm

theorem callOK_sh {α : Type} {K : AV → List (Nat × Ob) → Option α} {res : α} {C : VC} (hC : VCOk P C) {n f : Nat} {fn : Func} (hf : P.funcs[f]? = some fn) (hb : fn.body.isSome = true) (hn : (fn.name == "runtime.NumGoroutine") = false)
    {ρ ν : List (Nat × Nat)} {avs avs' : List AV} {H : List (Nat × Ob)} {hl : Nat → Option Ob} {dl : Dl}
    (hav : CLeL ρ avs avs') (h1 : nodupN ((ρ ++ ν).map (·.1)) = true) (hρ : nodupN (ρ.map (·.1)) = true)
    (hc : newsOk hl ρ ν = true) (hin : HinS ρ hl H ρ) (hkeys : H.map (·.1) = ρ.map (·.1)) (hwl : wrL dl = (ρ ++ ν).map (·.2))
    (h : vfn C n fn avs' H K = some res)
    (hK : ∀ av H', K av H' = some res → renA (ρ ++ ν) av = dl.v ∧ outWr (ρ ++ ν) H' (ρ ++ ν) = dl.wr ∧ AllL H' ν ∧ EndL H H' ρ) : CallOK P f avs hl dl :=
  callOK_shX hf hb hn hav h1 hρ hc hin hkeys hwl (fun _ _ _ _ hO hA => vfn_calls hC hf h hO hA) hK

/-- No contract. -/
def noE : Entry := fun _ _ _ _ _ _ => none
theorem noE_ok (f : Nat) : EntryOK P f noE := fun R site g avs hl k r h => by cases h

end
end Go.Vx
/-
  Contracts proved by other means (the library's functions).
-/
namespace Go.Vx
section
variable {P : Program}

theorem fr_of_below {M : Nat → Prop} {w w' : World} (h : RowKit.Below w.heap.size w w') : Fr M w w' := ⟨h.os, h.tape, h.output, h.size, fun b hb _ => h.block b hb⟩

/-- A contract of a function of data, out of one on 'Calls'. -/
theorem callOK_hand {f : Nat} {fn : Func} (hf : P.funcs[f]? = some fn) (hb : fn.body.isSome = true) (hn : (fn.name == "runtime.NumGoroutine") = false) {avs : List AV} {av : AV} {hl : Nat → Option Ob} {rd : List Nat} (hlf : lf av = true) (hA : lfL avs = true)
    (h : ∀ (S : Nat → Prop) (w : World) (args : List Value), ArgsRd (fun _ => none) S (fun _ => none) w args avs → Calls P f args.toArray w fun e w' => ∃ v, e = .returned v ∧ RdA (fun _ => none) S (fun _ => none) w' tm0 v av ∧ RowKit.Below w.heap.size w w') : CallOK P f avs hl ⟨av, [], rd⟩ := by
  refine ⟨⟨fn, hf, hb, hn⟩, fun β S h' w args hO hAr _ => ?_⟩
  refine (h S w args ⟨hAr.1, fun i v av' h1 h2 => rdA_lf (lfL_at hA h2) (fun _ h => h) (fun _ _ => rfl) (hAr.2 i v av' h1 h2)⟩).mono fun e w' ⟨v, he, hr, hbel⟩ => ?_
  refine ⟨v, β, S, he, ⟨fun b hS => hS, fun b hS => .inl hS, fun b hS => Nat.lt_of_lt_of_le (hO.sb b hS) hbel.size, fr_of_below hbel, fun _ _ => rfl, fun l o hl' => by simp [wrL] at hl', fun l hl' => by simp [wrL] at hl', fun l b hl' => by simp [wrL] at hl', fun l l' b hl' => by simp [wrL] at hl', fun l hl' => by simp [wrL] at hl', ?_, fun t => gds_lf t _ hlf⟩⟩
  exact rdA_lf hlf (fun _ h => h) (fun _ _ => rfl) hr

theorem argsRd_one {β : Nat → Option Nat} {S : Nat → Prop} {h : Nat → Option Ob} {w : World} {args : List Value} {a : AV} (hA : ArgsRd β S h w args [a]) : ∃ v, args = [v] ∧ RdA β S h w tm0 v a := by
  obtain ⟨h1, h2⟩ := hA
  match args, h1 with
  | [v], _ => exact ⟨v, rfl, h2 0 v a rfl rfl⟩

/-- A function from a string to the same string. -/
theorem callOK_same {f : Nat} {fn : Func} (hf : P.funcs[f]? = some fn) (hb : fn.body.isSome = true) (hn : (fn.name == "runtime.NumGoroutine") = false) {hl : Nat → Option Ob} {rd : List Nat} {s : List UInt8}
    (h : ∀ (b : ByteArray) (w : World), b.data.toList = s → Calls P f #[.string b] w fun e w' => e = .returned (.string b) ∧ RowKit.Below w.heap.size w w') : CallOK P f [.d (.str s)] hl ⟨.d (.str s), [], rd⟩ := by
  refine callOK_hand hf hb hn rfl rfl fun S w args hA => ?_
  obtain ⟨v, rfl, hv⟩ := argsRd_one hA
  obtain ⟨b, hb2, rfl⟩ := hv.str_inv
  refine (h b w hb2.symm).mono fun e w' ⟨he, hbel⟩ => ⟨_, he, .d _ _ ?_, hbel⟩
  rw [hb2]
  exact .str _
end
end Go.Vx
/-
  slices.Sort, slices.Compact on an array of the call's own: contracts that take the array as it is.
-/
set_option linter.unusedSimpArgs false
namespace Go.Vx
open Go.Sort
section
variable {P : Program} {R : Type}

def intRowsS (zs : List Int) : List (List D) := zs.map fun z => [.int .i64 z]
def intsX : List (List D) → Option (List Int)
  | [] => some []
  | [.int .i64 n] :: r => match intsX r with
    | some l => some (n :: l)
    | none => none
  | _ => none
theorem intsX_some : ∀ {rows : List (List D)} {zs : List Int}, intsX rows = some zs → rows = intRowsS zs := by
  intro rows
  induction rows with
  | nil => intro s h; simp only [intsX, Option.some.injEq] at h; subst h; rfl
  | cons x r ih =>
    intro s h
    unfold intsX at h
    split at h
    · rename_i h0; cases h0
    · rename_i n r' h0
      injection h0 with e1 e2
      subst e1 e2
      split at h
      · rename_i l hl
        injection h with h
        subst h
        rw [ih hl]
        rfl
      · cases h
    · cases h
theorem intsX_rows : ∀ (zs : List Int), intsX (intRowsS zs) = some zs
  | [] => rfl
  | z :: r => by
    have ih := intsX_rows r
    simp only [intRowsS, List.map_cons] at ih ⊢
    simp [intsX, ih]

def sortI (zs : List Int) : List Int := zs.mergeSort fun x y => decide (x ≤ y)
def compI (zs : List Int) : List Int := Lib.compact zs

theorem heap_putRow {enc : Int → Value} {w : World} {blk : Nat} {d : Array Int} {cs : Array Value} {e : TypeId} {fz : Nat × Nat} (h : w.heap[blk]? = some (.cells cs e fz)) : (putRow enc w blk 0 d).heap[blk]? = some (.cells (putCells enc 0 d cs) e fz) := by
  simp [putRow, mapBlock, Array.getElem?_modify, h, onCells]
theorem heap_putRow_ne {enc : Int → Value} {w : World} {blk k : Nat} {d : Array Int} (h : k ≠ blk) : (putRow enc w blk 0 d).heap[k]? = w.heap[k]? := by
  simp only [putRow, mapBlock, Array.getElem?_modify]
  rw [if_neg (fun e => h e.symm)]
theorem putCells_size {enc : Int → Value} {off : Nat} {d : Array Int} {cs : Array Value} : (putCells enc off d cs).size = cs.size := by simp [putCells]
theorem putCells_at {enc : Int → Value} {zs : List Int} {cs : Array Value} {i : Nat} {z : Int} (h : zs[i]? = some z) (hc : i < cs.size) : (putCells enc 0 zs.toArray cs)[i]? = some (enc z) := by
  have hi := (List.getElem?_eq_some_iff.1 h).1
  have hz := (List.getElem?_eq_some_iff.1 h).2
  simp [putCells, hc, hi, hz]
theorem grow_old {w : World} {os : Array Obj} {k : Nat} (h : k < w.heap.size) : (grow w os).heap[k]? = w.heap[k]? := by simp [grow, Array.getElem?_append_left h]

/-- An array of numbers in memory. -/
theorem ints_view {β : Nat → Option Nat} {S : Nat → Prop} {h : Nat → Option Ob} {w : World} (hO : Objs β S h w) {l T : Nat} {zs : List Int} (h1 : h l = some (.arr T 1 (intRowsS zs))) {v : Value} (hv : RdA β S h w tm0 v (.arr l)) :
    (v = .slice none 0 0 ∧ β l = none ∧ zs = []) ∨ ∃ g cap cs, v = .slice (some ⟨g, 0, none⟩) zs.length cap ∧ β l = some g ∧ w.heap[g]? = some (.cells cs T (0, 0)) ∧ cs.size = cap * 1 ∧ zs.length ≤ cap ∧ cap ≤ maxLen ∧ Holds (Value.int .i64) w g 0 zs.toArray := by
  have hob := hO.ob l _ h1
  have hlen : (intRowsS zs).length = zs.length := by simp [intRowsS]
  rcases hv.arr_inv h1 with ⟨hb, hr, rfl⟩ | ⟨b, cap, cs, ty, fz, hb, rfl, hw, hcs, hcap, hmax⟩
  · exact .inl ⟨rfl, hb, by simpa [intRowsS] using hr⟩
  · rcases hob with ⟨hn, _⟩ | ⟨g', cs', hb', hg', hle, hrow, hcell⟩
    · rw [hb] at hn; cases hn
    · rw [hb] at hb'; injection hb' with hb'; subst hb'
      rw [hw] at hg'; injection hg' with hg'; injection hg' with e1 e2 e3
      subst e1 e2 e3
      rw [hlen] at hcap ⊢
      refine .inr ⟨b, cap, cs, rfl, hb, hw, hcs, hcap, hmax, fun j hj => ?_⟩
      simp only [List.size_toArray] at hj
      obtain ⟨u, hu, hr⟩ := hcell j 0 [.int .i64 zs[j]] (.int .i64 zs[j]) (by simp [intRowsS, hj]) rfl
      rw [Nat.mul_one, Nat.add_zero] at hu
      cases hr
      constructor
      · simp [World.cell?, hw, hu, hj]
      · simp [World.frozen?, hw]

def WalkSort (P : Program) (f : Nat) : Prop :=
  (∀ (blk off cap : Nat) (zs : List Int) (w : World), Holds (Value.int .i64) w blk off zs.toArray → blk < w.heap.size → zs.length < 4611686018427387904 →
    Calls P f #[.slice (some ⟨blk, off, none⟩) zs.length cap] w fun e w' => e = .returned (.tuple #[]) ∧ ∃ n os, w' = grow (putRow (Value.int .i64) (Sort.ahead w n) blk off (zs.mergeSort fun x y => decide (x ≤ y)).toArray) os) ∧
  ∀ (p : Option Addr) (cap : Nat) (w : World), Calls P f #[.slice p 0 cap] w fun e w' => e = .returned (.tuple #[]) ∧ w' = w

theorem rdA_tup0 {β : Nat → Option Nat} {S : Nat → Prop} {h : Nat → Option Ob} {w : World} {tm : Nat → Value} : RdA β S h w tm (.tuple #[]) (.tup []) := .tup _ _ rfl fun i x hi => by simp at hi

theorem callOK_sort {f T : Nat} {fn : Func} (hf : P.funcs[f]? = some fn) (hb : fn.body.isSome = true) (hn : (fn.name == "runtime.NumGoroutine") = false) (hW : WalkSort P f) {hl : Nat → Option Ob} {l : Nat} {zs : List Int} (h1 : hl l = some (.arr T 1 (intRowsS zs))) (hlen : zs.length < 4611686018427387904) :
    CallOK P f [.arr l] hl ⟨.tup [], [(l, some (.arr T 1 (intRowsS (sortI zs))))], [l]⟩ := by
  refine ⟨⟨fn, hf, hb, hn⟩, fun β S h w args hO hAr hh => ?_⟩
  have h1' : h l = some (.arr T 1 (intRowsS zs)) := by rw [hh l (.inl (by simp))]; exact h1
  have hlS : (h l).isSome = true := by rw [h1']; rfl
  obtain ⟨v, rfl, hv⟩ := argsRd_one hAr
  have hset : ∀ k, setF h [(l, some (Ob.arr T 1 (intRowsS (sortI zs))))] k = if k = l then some (.arr T 1 (intRowsS (sortI zs))) else h k := fun k => rfl
  have hmem : ∀ k, k ∈ wrL ⟨.tup [], [(l, some (.arr T 1 (intRowsS (sortI zs))))], [l]⟩ ↔ k = l := fun k => by simp [wrL]
  have hsl : (sortI zs).length = zs.length := by simp [sortI]
  have hil : ∀ ys : List Int, (intRowsS ys).length = ys.length := fun ys => by simp [intRowsS]
  -- what is the same in both cases
  have fin : ∀ (w' : World), (∀ b, β l = some b → ∃ cs cs' : Array Value, w.heap[b]? = some (.cells cs T (0, 0)) ∧ w'.heap[b]? = some (.cells cs' T (0, 0)) ∧ cs'.size = cs.size ∧ zs.length ≤ cs.size ∧ ∀ (i : Nat) (z : Int), (sortI zs)[i]? = some z → cs'[i]? = some (Value.int .i64 z)) →
      (β l = none → zs = []) → Fr (fun b => β l = some b) w w' → CallOut β S h w ⟨.tup [], [(l, some (.arr T 1 (intRowsS (sortI zs))))], [l]⟩ β S w' (.tuple #[]) := by
    intro w' hblk hnil hfr
    refine ⟨fun _ h => h, fun _ h => .inl h, fun x hS => Nat.lt_of_lt_of_le (hO.sb x hS) hfr.size, hfr.mono fun x _ hx => ⟨l, (hmem l).2 rfl, hlS, hx⟩, fun _ _ => rfl, ?_, ?_, ?_, ?_, fun _ _ _ _ => rfl, rdA_tup0, fun t => rfl⟩
    · intro k o hk ho
      obtain rfl := (hmem k).1 hk
      rw [show setF h (Dl.wr ⟨.tup [], [(k, some (.arr T 1 (intRowsS (sortI zs))))], [k]⟩) k = _ from hset k, if_pos rfl] at ho
      injection ho with ho
      subst ho
      cases hb' : β k with
      | none => exact .inl ⟨hb', by rw [hnil hb']; simp [sortI, intRowsS]⟩
      | some b =>
        obtain ⟨cs, cs', g1, g2, g3, g4, g5⟩ := hblk b hb'
        refine .inr ⟨b, cs', hb', g2, by rw [hil, hsl, g3]; omega, fun i r hi => ?_, fun i j r y hi hj => ?_⟩
        · simp only [intRowsS, List.getElem?_map, Option.map_eq_some_iff] at hi
          obtain ⟨z, _, rfl⟩ := hi
          rfl
        · simp only [intRowsS, List.getElem?_map, Option.map_eq_some_iff] at hi
          obtain ⟨z, hz, rfl⟩ := hi
          match j, hj with
          | 0, hj =>
            simp only [List.getElem?_cons_zero, Option.some.injEq] at hj
            subst hj
            exact ⟨_, by simpa using g5 i z hz, .int _ _⟩
    · intro k hk hs
      obtain rfl := (hmem k).1 hk
      have hsk : setF h (Dl.wr ⟨.tup [], [(k, some (.arr T 1 (intRowsS (sortI zs))))], [k]⟩) k = _ := (hset k).trans (if_pos rfl)
      refine ⟨rfl, fun h0 => (by rw [h0] at hs; cases hs), fun e s rows hks => ?_, fun b cs ty fz _ hb' hw => ?_⟩
      · rw [h1'] at hks
        injection hks with hks
        injection hks with e1 e2 e3
        subst e1 e2 e3
        exact .inr ⟨_, hsk, by rw [hil, hil, hsl]⟩
      · obtain ⟨cs0, cs', g1, g2, g3, _⟩ := hblk b hb'
        rw [g1] at hw; injection hw with hw; injection hw with e1 e2 e3
        subst e1
        exact ⟨cs', _, _, g2, g3⟩
    · intro k x hk hs hx
      obtain rfl := (hmem k).1 hk
      exact ⟨.inr ⟨k, hk, hlS, hx⟩, hO.apart k x hlS hx⟩
    · intro k k' x hk hk' _ _ _ _
      rw [(hmem k).1 hk, (hmem k').1 hk']
  rcases ints_view hO h1' hv with ⟨rfl, hbn, rfl⟩ | ⟨g, cap, cs, rfl, hbg, hg, hcs, hcap, hmax, hH⟩
  · refine (hW.2 none 0 w).mono fun e w' ⟨he, hw⟩ => ⟨_, β, S, he, ?_⟩
    subst hw
    exact fin w' (fun b hb' => by rw [hbn] at hb'; cases hb') (fun _ => rfl) (Fr.refl _ _)
  · have hlt : g < w.heap.size := (Array.getElem?_eq_some_iff.1 hg).1
    refine (hW.1 g 0 cap zs w hH hlt hlen).mono fun e w' ⟨he, n, os, hw⟩ => ⟨_, β, S, he, ?_⟩
    subst hw
    have hlt' : ∀ k, k < w.heap.size → k < (putRow (Value.int .i64) (Sort.ahead w n) g 0 (zs.mergeSort fun x y => decide (x ≤ y)).toArray).heap.size := fun k hk => by rw [size_putRow]; exact hk
    have hg0 : (Sort.ahead w n).heap[g]? = some (.cells cs T (0, 0)) := hg
    refine fin _ (fun b hb' => ?_) (fun hb' => by rw [hbg] at hb'; cases hb') ⟨rfl, rfl, rfl, by simp only [grow, Array.size_append, size_putRow]; exact Nat.le_add_right _ _, fun k hk hM => ?_⟩
    · rw [hbg] at hb'; injection hb' with hb'; subst hb'
      refine ⟨cs, putCells (Value.int .i64) 0 (sortI zs).toArray cs, hg, (grow_old (hlt' g hlt)).trans (heap_putRow hg0), putCells_size, by omega, fun i z hz => putCells_at hz ?_⟩
      have := (List.getElem?_eq_some_iff.1 hz).1
      omega
    · rw [grow_old (hlt' k hk), heap_putRow_ne (fun e => hM (by rw [hbg, e]))]
      rfl

/-- A contract that takes the array as it is. -/
def sortE (T : Nat) : Entry := fun _ _ g avs hl k => match avs with
  | [.gd _ _ .nil] => bif g then none else k ⟨.top, [], []⟩
  | [.arr l] => match hl l with
    | some (.arr e s rows) => bif Nat.beq e T && Nat.beq s 1 then gb g (intsX rows) [] fun zs => gb g (room (List.length zs)) () fun _ => k ⟨.tup [], [(l, some (.arr T 1 (intRowsS (sortI zs))))], [l]⟩ else none
    | _ => none
  | _ => none

theorem sortE_ok {f T : Nat} {fn : Func} (hf : P.funcs[f]? = some fn) (hb : fn.body.isSome = true) (hn : (fn.name == "runtime.NumGoroutine") = false) (hW : WalkSort P f) : EntryOK P f (sortE T) := by
  intro R site g avs hl k r h
  unfold sortE at h
  split at h
  · cases g with
    | true => cases h
    | false => exact ⟨_, h, fun hg => by cases hg⟩
  · rename_i l
    split at h
    · rename_i e s rows hh
      replace h := bif_some h
      obtain ⟨hc, h⟩ := h
      simp only [Bool.and_eq_true] at hc
      have e1 := Nat.eq_of_beq_eq_true hc.1
      have e2 := Nat.eq_of_beq_eq_true hc.2
      subst e1 e2
      replace h := gb_some h
      obtain ⟨zs, h, hz⟩ := h
      replace h := gb_some h
      obtain ⟨_, h, hr⟩ := h
      refine ⟨_, h, fun hg => ?_⟩
      have hz := intsX_some (hz hg)
      subst hz
      have := room_some (hr hg)
      exact callOK_sort hf hb hn hW hh (by omega)
    · cases h
  · cases h

/-! Compact -/

def WalkCompact (P : Program) (f : Nat) : Prop :=
  (∀ (blk off cap : Nat) (zs : List Int) (w : World), Holds (Value.int .i64) w blk off zs.toArray → zs.length ≤ 9223372036854775807 → zs.length ≤ cap →
    Calls P f #[.slice (some ⟨blk, off, none⟩) zs.length cap] w fun e w' => e = .returned (.slice (some ⟨blk, off, none⟩) (Lib.compact zs).length cap) ∧ ∃ q, w' = putRow (Value.int .i64) (Sort.ahead w q) blk off (Lib.compact zs ++ List.replicate (zs.length - (Lib.compact zs).length) 0).toArray) ∧
  ∀ (a : Option Addr) (cap : Nat) (w : World), Calls P f #[.slice a 0 cap] w fun e w' => e = .returned (.slice a 0 cap) ∧ w' = w

theorem compI_len (zs : List Int) : (compI zs).length ≤ zs.length := by
  unfold compI Lib.compact Lib.compactUpTo
  rw [List.length_map]
  refine Nat.le_trans (List.length_filter_le ..) ?_
  simp

theorem callOK_compact {f T : Nat} {fn : Func} (hf : P.funcs[f]? = some fn) (hb : fn.body.isSome = true) (hn : (fn.name == "runtime.NumGoroutine") = false) (hW : WalkCompact P f) {hl : Nat → Option Ob} {l N : Nat} {zs : List Int} (h1 : hl l = some (.arr T 1 (intRowsS zs))) (h3 : hl N = none) (hlen : zs.length ≤ 140737488355328) :
    CallOK P f [.arr l] hl ⟨.arr N, [(l, none), (N, some (.arr T 1 (intRowsS (compI zs))))], [l]⟩ := by
  refine ⟨⟨fn, hf, hb, hn⟩, fun β S h w args hO hAr hh => ?_⟩
  have h1' : h l = some (.arr T 1 (intRowsS zs)) := by rw [hh l (.inl (by simp))]; exact h1
  have h3' : h N = none := by rw [hh N (.inr (by simp [wrL]))]; exact h3
  have hlS : (h l).isSome = true := by rw [h1']; rfl
  have hNl : N ≠ l := fun e => by rw [e, h1'] at h3'; cases h3'
  obtain ⟨v, rfl, hv⟩ := argsRd_one hAr
  have hset : ∀ k, setF h [(l, none), (N, some (Ob.arr T 1 (intRowsS (compI zs))))] k = if k = N then some (.arr T 1 (intRowsS (compI zs))) else if k = l then none else h k := fun k => rfl
  have hmem : ∀ k, k ∈ wrL ⟨.arr N, [(l, none), (N, some (.arr T 1 (intRowsS (compI zs))))], [l]⟩ ↔ k = l ∨ k = N := fun k => by simp [wrL]
  have hcl := compI_len zs
  have hil : ∀ ys : List Int, (intRowsS ys).length = ys.length := fun ys => by simp [intRowsS]
  have fin : ∀ (w' : World) (v' : Value), (∀ b, β l = some b → ∃ cap, ∃ cs' : Array Value, w'.heap[b]? = some (.cells cs' T (0, 0)) ∧ cs'.size = cap * 1 ∧ zs.length ≤ cap ∧ cap ≤ maxLen ∧ v' = .slice (some ⟨b, 0, none⟩) (compI zs).length cap ∧ ∀ (i : Nat) (z : Int), (compI zs)[i]? = some z → cs'[i]? = some (Value.int .i64 z)) →
      (β l = none → zs = [] ∧ v' = .slice none 0 0) → Fr (fun b => β l = some b) w w' →
      CallOut β S h w ⟨.arr N, [(l, none), (N, some (.arr T 1 (intRowsS (compI zs))))], [l]⟩ (fun k => if k = N then β l else β k) S w' v' := by
    intro w' v' hblk hnil hfr
    have hsN : setF h (Dl.wr ⟨.arr N, [(l, none), (N, some (.arr T 1 (intRowsS (compI zs))))], [l]⟩) N = some (.arr T 1 (intRowsS (compI zs))) := (hset N).trans (if_pos rfl)
    have hsl : setF h (Dl.wr ⟨.arr N, [(l, none), (N, some (.arr T 1 (intRowsS (compI zs))))], [l]⟩) l = none := (hset l).trans (by rw [if_neg hNl.symm, if_pos rfl])
    refine ⟨fun _ h => h, fun _ h => .inl h, fun x hS => Nat.lt_of_lt_of_le (hO.sb x hS) hfr.size, hfr.mono fun x _ hx => ⟨l, (hmem l).2 (.inl rfl), hlS, hx⟩, fun k hk => ?_, ?_, ?_, ?_, ?_, ?_, ?_, fun t => rfl⟩
    · have : k ≠ N := fun e => hk ((hmem k).2 (.inr e))
      simp [this]
    · intro k o hk ho
      rcases (hmem k).1 hk with rfl | rfl
      · rw [hsl] at ho; cases ho
      · rw [hsN] at ho
        injection ho with ho
        subst ho
        cases hb' : β l with
        | none => exact .inl ⟨by simp [hb'], by rw [(hnil hb').1]; rfl⟩
        | some b =>
          obtain ⟨cap, cs', g2, g3, g4, g5, g6, g7⟩ := hblk b hb'
          refine .inr ⟨b, cs', by simp [hb'], g2, by rw [hil, g3]; omega, fun i r hi => ?_, fun i j r y hi hj => ?_⟩
          · simp only [intRowsS, List.getElem?_map, Option.map_eq_some_iff] at hi
            obtain ⟨z, _, rfl⟩ := hi
            rfl
          · simp only [intRowsS, List.getElem?_map, Option.map_eq_some_iff] at hi
            obtain ⟨z, hz, rfl⟩ := hi
            match j, hj with
            | 0, hj =>
              simp only [List.getElem?_cons_zero, Option.some.injEq] at hj
              subst hj
              exact ⟨_, by simpa using g7 i z hz, .int _ _⟩
    · intro k hk hs
      have hkN : k ≠ N := fun e => by rw [e, h3'] at hs; cases hs
      rcases (hmem k).1 hk with rfl | e
      · refine ⟨by simp [hkN], fun h0 => (by rw [h0] at hs; cases hs), fun e s rows hks => .inl hsl, fun b cs ty fz hs' => (by rw [hsl] at hs'; cases hs')⟩
      · exact absurd e hkN
    · intro k x hk hs hx
      rcases (hmem k).1 hk with rfl | rfl
      · rw [hsl] at hs; cases hs
      · simp only [if_pos] at hx
        exact ⟨.inr ⟨l, (hmem l).2 (.inl rfl), hlS, hx⟩, hO.apart l x hlS hx⟩
    · intro k k' x hk hk' hs hs' _ _
      have key : ∀ k, (k = l ∨ k = N) → (setF h (Dl.wr ⟨.arr N, [(l, none), (N, some (.arr T 1 (intRowsS (compI zs))))], [l]⟩) k).isSome = true → k = N := by
        intro k h0 hs
        rcases h0 with rfl | h0
        · rw [hsl] at hs; cases hs
        · exact h0
      rw [key k ((hmem k).1 hk) hs, key k' ((hmem k').1 hk') hs']
    · intro k hk h0 hs
      rcases (hmem k).1 hk with rfl | rfl
      · rw [h1'] at h0; cases h0
      · rw [hsN] at hs; cases hs
    · cases hb' : β l with
      | none =>
        obtain ⟨h0, hv'⟩ := hnil hb'
        rw [hv']
        exact .arr0 N T 1 (by simp [hb']) (by rw [hsN, h0]; rfl)
      | some b =>
        obtain ⟨cap, cs', g2, g3, g4, g5, g6, g7⟩ := hblk b hb'
        rw [g6, ← hil (compI zs)]
        exact .arr N b cap T 1 _ cs' T (0, 0) (by simp [hb']) hsN g2 g3 (by rw [hil]; omega) g5
  rcases ints_view hO h1' hv with ⟨rfl, hbn, rfl⟩ | ⟨g, cap, cs, rfl, hbg, hg, hcs, hcap, hmax, hH⟩
  · refine (hW.2 none 0 w).mono fun e w' ⟨he, hw⟩ => ⟨_, fun k => if k = N then β l else β k, S, he, ?_⟩
    subst hw
    exact fin w' _ (fun b hb' => by rw [hbn] at hb'; cases hb') (fun _ => ⟨rfl, rfl⟩) (Fr.refl _ _)
  · have hlt : g < w.heap.size := (Array.getElem?_eq_some_iff.1 hg).1
    refine (hW.1 g 0 cap zs w hH (by omega) hcap).mono fun e w' ⟨he, q, hw⟩ => ⟨_, fun k => if k = N then β l else β k, S, he, ?_⟩
    subst hw
    have hg0 : (Sort.ahead w q).heap[g]? = some (.cells cs T (0, 0)) := hg
    refine fin _ _ (fun b hb' => ?_) (fun hb' => by rw [hbg] at hb'; cases hb') ⟨rfl, rfl, rfl, by rw [size_putRow]; exact Nat.le_refl _, fun k hk hM => ?_⟩
    · rw [hbg] at hb'; injection hb' with hb'; subst hb'
      refine ⟨cap, putCells (Value.int .i64) 0 (compI zs ++ List.replicate (zs.length - (compI zs).length) 0).toArray cs, heap_putRow hg0, by rw [putCells_size, hcs], hcap, hmax, rfl, fun i z hz => putCells_at ?_ ?_⟩
      · rw [List.getElem?_append_left (List.getElem?_eq_some_iff.1 hz).1]; exact hz
      · have := (List.getElem?_eq_some_iff.1 hz).1
        omega
    · rw [heap_putRow_ne (fun e => hM (by rw [hbg, e]))]
      rfl

def compactE (T : Nat) : Entry := fun _ site g avs hl k => match avs with
  | [.gd _ _ .nil] => bif g then none else k ⟨.top, [], []⟩
  | [.arr l] => match hl l with
    | some (.arr e s rows) => bif Nat.beq e T && (Nat.beq s 1 && (hl (site + 100000)).isNone) then gb g (intsX rows) [] fun zs => gb g (room (List.length zs)) () fun _ => k ⟨.arr (site + 100000), [(l, none), (site + 100000, some (.arr T 1 (intRowsS (compI zs))))], [l]⟩ else none
    | _ => none
  | _ => none

theorem compactE_ok {f T : Nat} {fn : Func} (hf : P.funcs[f]? = some fn) (hb : fn.body.isSome = true) (hn : (fn.name == "runtime.NumGoroutine") = false) (hW : WalkCompact P f) : EntryOK P f (compactE T) := by
  intro R site g avs hl k r h
  unfold compactE at h
  split at h
  · cases g with
    | true => cases h
    | false => exact ⟨_, h, fun hg => by cases hg⟩
  · rename_i l
    split at h
    · rename_i e s rows hh
      replace h := bif_some h
      obtain ⟨hc, h⟩ := h
      simp only [Bool.and_eq_true] at hc
      have e1 := Nat.eq_of_beq_eq_true hc.1
      have e2 := Nat.eq_of_beq_eq_true hc.2.1
      have e3 := Option.isNone_iff_eq_none.1 hc.2.2
      subst e1 e2
      replace h := gb_some h
      obtain ⟨zs, h, hz⟩ := h
      replace h := gb_some h
      obtain ⟨_, h, hr⟩ := h
      refine ⟨_, h, fun hg => ?_⟩
      have hz := intsX_some (hz hg)
      subst hz
      exact callOK_compact hf hb hn hW hh e3 (room_some (hr hg))
    · cases h
  · cases h
end
end Go.Vx
/-
  Code that is run by the interpreter beside memory that is none of its own.
-/
set_option linter.unusedVariables false
namespace Go.Vx
section
variable {P : Program} {E : Env} {R : Type}

/-- Blocks that neither the data nor the objects reach. -/
structure Off (β : Nat → Option Nat) (S : Nat → Prop) (h : Nat → Option Ob) (w : World) (Hd : Nat → Prop) : Prop where
  lt : ∀ b, Hd b → b < w.heap.size
  nS : ∀ b, Hd b → ¬ S b
  nO : ∀ b, Hd b → ∀ l, (h l).isSome = true → β l ≠ some b

/-- The environment taken anew. -/
def envAt (β : Nat → Option Nat) (S : Nat → Prop) (h : Nat → Option Ob) (w : World) : Env := ⟨w, fun b => ∃ l, (h l).isSome = true ∧ β l = some b, S, β⟩

theorem Rel.anew {β : Nat → Option Nat} {S : Nat → Prop} {st : St} {a : Act} {w : World} (hR : Rel E β S st a w) : Rel (envAt β S (look st.h) w) β S st a w :=
  ⟨hR.n, hR.dfr, hR.tm, ⟨hR.hr.ob, hR.hr.inj, hR.hr.apart, fun l b h1 h2 => .inl ⟨l, h1, h2⟩, hR.hr.sb, fun b h => .inl h, fun b h => h, Fr.refl _ _, fun _ _ => rfl, fun _ _ _ _ _ cs ty fz hw => ⟨cs, ty, fz, hw, rfl⟩⟩⟩

theorem Rel.back {β β' : Nat → Option Nat} {S S' : Nat → Prop} {st st' : St} {a a' : Act} {w w' : World} (hR : Rel E β S st a w) (h : Rel (envAt β S (look st.h) w) β' S' st' a' w') (hp : ∀ l, 1000000 ≤ l → (look st'.h l).isSome = true → (look st.h l).isSome = true) : Rel E β' S' st' a' w' := by
  have hown : ∀ b, (∃ l, (look st.h l).isSome = true ∧ β l = some b) → E.M b ∨ E.w0.heap.size ≤ b := fun b ⟨l, h1, h2⟩ => hR.hr.own l b h1 h2
  have hsz := hR.hr.fr.size
  refine ⟨h.n, h.dfr, h.tm, ⟨h.hr.ob, h.hr.inj, h.hr.apart, fun l b h1 h2 => ?_, h.hr.sb, fun b hb => ?_, fun b hb => h.hr.s0 b (hR.hr.s0 b hb), ?_, fun l hl => (h.hr.pin l hl).trans (hR.hr.pin l hl), fun l b hl hs hb cs ty fz hw => ?_⟩⟩
  · rcases h.hr.own l b h1 h2 with h3 | h3
    · exact hown b h3
    · exact .inr (Nat.le_trans hsz h3)
  · rcases h.hr.sfr b hb with h3 | h3 | h3
    · exact hR.hr.sfr b h3
    · exact .inr (hown b h3)
    · exact .inr (.inr (Nat.le_trans hsz h3))
  · have f1 := hR.hr.fr
    have f2 := h.hr.fr
    refine ⟨f2.os.trans f1.os, f2.tape.trans f1.tape, f2.output.trans f1.output, Nat.le_trans f1.size f2.size, fun b hb hM => (f2.block b (Nat.lt_of_lt_of_le hb f1.size) (fun hm => ?_)).trans (f1.block b hb hM)⟩
    rcases hown b hm with h3 | h3
    · exact hM h3
    · omega
  · have hb0 : β l = some b := (h.hr.pin l hl).symm.trans hb
    obtain ⟨cs1, ty1, fz1, g1, g2⟩ := hR.hr.psz l b hl (hp l hl hs) hb0 cs ty fz hw
    obtain ⟨cs2, ty2, fz2, g3, g4⟩ := h.hr.psz l b hl hs hb cs1 ty1 fz1 g1
    exact ⟨cs2, ty2, fz2, g3, g4.trans g2⟩

theorem Off.keep {β β' : Nat → Option Nat} {S S' : Nat → Prop} {st st' : St} {a' : Act} {w w' : World} {Hd : Nat → Prop} (hO : Off β S (look st.h) w Hd) (h : Rel (envAt β S (look st.h) w) β' S' st' a' w') :
    Off β' S' (look st'.h) w' Hd ∧ ∀ b, Hd b → w'.heap[b]? = w.heap[b]? := by
  have hn : ∀ b, Hd b → ¬ ∃ l, (look st.h l).isSome = true ∧ β l = some b := fun b hb ⟨l, h1, h2⟩ => hO.nO b hb l h1 h2
  refine ⟨⟨fun b hb => Nat.lt_of_lt_of_le (hO.lt b hb) h.hr.fr.size, fun b hb hS => ?_, fun b hb l h1 h2 => ?_⟩, fun b hb => h.hr.fr.block b (hO.lt b hb) (hn b hb)⟩
  · rcases h.hr.sfr b hS with h3 | h3 | h3
    · exact hO.nS b hb h3
    · exact hn b hb h3
    · have := hO.lt b hb
      have h3 : w.heap.size ≤ b := h3
      omega
  · rcases h.hr.own l b h1 h2 with h3 | h3
    · exact hn b hb h3
    · have := hO.lt b hb
      have h3 : w.heap.size ≤ b := h3
      omega

theorem vexec_hid {C : VC} (hC : VCOk P C) {n : Nat} {c : Code} {st : St} {k : Exit → St → Option R} {r : R} (h : vexec C n c st k = some r) {β : Nat → Option Nat} {S : Nat → Prop} {a : Act} {w : World} (hR : Rel E β S st a w) {Hd : Nat → Prop} (hO : Off β S (look st.h) w Hd)
    (hp : ∀ e st', k e st' = some r → ∀ l, 1000000 ≤ l → (look st'.h l).isSome = true → (look st.h l).isSome = true) :
    c.wp P (fun e a' w' => ∃ st' β' S', Rel E β' S' st' a' w' ∧ k e st' = some r ∧ Off β' S' (look st'.h) w' Hd ∧ (∀ b, Hd b → w'.heap[b]? = w.heap[b]?) ∧ Fr (fun b => ∃ l, (look st.h l).isSome = true ∧ β l = some b) w w') a w := by
  refine wp_mono (vexec_sound (E := envAt β S (look st.h) w) hC n c st k r h a w ⟨β, S, hR.anew⟩) fun e a' w' ⟨st', ⟨β', S', hR'⟩, hk⟩ => ?_
  obtain ⟨h1, h2⟩ := hO.keep hR'
  exact ⟨st', β', S', hR.back hR' (hp e st' hk), hk, h1, h2, hR'.hr.fr⟩

/-- Whatever turns only blocks that are off, or new ones, and temporaries that are not told of. -/
theorem rel_off {β : Nat → Option Nat} {S : Nat → Prop} {st : St} {a a' : Act} {w w' : World} {Hd : Nat → Prop} (hR : Rel E β S st a w) (hO : Off β S (look st.h) w Hd) (hnew : ∀ b, Hd b → E.M b ∨ E.w0.heap.size ≤ b)
    (hn : a'.tmps.size = a.tmps.size) (hd : a'.defers = a.defers) (ht : ∀ t av, look st.tm t = some av → tmv a' t = tmv a t ∧ ∀ t', gds t' av = true → tmv a' t' = tmv a t')
    (hos : w'.os = w.os) (htape : w'.tape = w.tape) (hout : w'.output = w.output) (hsz : w.heap.size ≤ w'.heap.size) (hblk : ∀ k, k < w.heap.size → ¬ Hd k → w'.heap[k]? = w.heap[k]?) : Rel E β S st a' w' := by
  have hSw : ∀ b, S b → w'.heap[b]? = w.heap[b]? := fun b hS => hblk b (hR.hr.sb b hS) (fun h => hO.nS b h hS)
  have hob : ∀ l b, (look st.h l).isSome = true → β l = some b → w'.heap[b]? = w.heap[b]? := fun l b hs hb => hblk b (ob_lt hR hs hb) (fun h => hO.nO b h l hs hb)
  have h1 := hR.upd (w' := w') (β' := β) (S' := S) (H' := st.h) (fun _ h => h) hSw (fun _ => False) (fun l _ => ⟨rfl, rfl, fun b hs hb => hob l b hs hb⟩) (fun l h => h.elim) (fun l o h => h.elim) hR.hr.inj hR.hr.apart hR.hr.own (fun b hS => Nat.lt_of_lt_of_le (hR.hr.sb b hS) hsz) hR.hr.sfr (by
    have fr := hR.hr.fr
    refine ⟨hos.trans fr.os, htape.trans fr.tape, hout.trans fr.output, Nat.le_trans fr.size hsz, fun b hb hM => (hblk b (Nat.lt_of_lt_of_le hb fr.size) (fun h => ?_)).trans (fr.block b hb hM)⟩
    rcases hnew b h with h2 | h2
    · exact hM h2
    · omega)
  refine ⟨hn.trans h1.n, hd.trans h1.dfr, fun t av hl => ?_, h1.hr⟩
  obtain ⟨g1, g2⟩ := ht t av hl
  rw [g1]
  exact (h1.tm t av hl).mono (fun _ h => h) (fun _ _ => rfl) (fun l _ => Keep.rfl_ ..) g2

/-- A region that draws its order, by an invariant over what is done. -/
theorem draw_gen {ops : Array Oper} (hedge : allEdgesOk ops.toList 0 = true) {Q : Exit → Act → World → Prop} {J : Array Bool → Act → World → Prop}
    (hstep : ∀ (listed : Array Bool) (a : Act) (w : World) (i : Nat) (o : Oper), listed.size = ops.size → Closed ops.toList listed → J listed a w → ops[i]? = some o → ¬ Lst listed i → Preds listed o.after.toList → wpOp P ops Q i (fun a' w' => J (listed.setIfInBounds i true) a' w') a w)
    (hfin : ∀ (listed : Array Bool) (a : Act) (w : World), J listed a w → (∀ i, i < ops.size → Lst listed i) → Q .normal a w) :
    ∀ (fuel : Nat) (listed : Array Bool) (a : Act) (w : World), listed.size = ops.size → Closed ops.toList listed → (List.range ops.size).countP (fun i => !listed.getD i false) ≤ fuel → J listed a w → wpAny P .any ops Q fuel listed a w := by
  have hall : ∀ listed : Array Bool, listed.size = ops.size → Region.ready .any ops listed = [] → ∀ i, i < ops.size → Lst listed i := by
    intro listed hsz hr i
    induction i using Nat.strongRecOn with
    | ind i ih =>
      intro hi
      by_cases hl : Lst listed i
      · exact hl
      · exfalso
        have ho := Array.getElem?_eq_getElem hi
        have : i ∈ Region.ready .any ops listed := (ready_iff hsz).2 ⟨_, ho, hl, fun e he hb => ih e.on (by
          have := allEdgesOk_at i _ e he hb 0 hedge (by rw [Array.getElem?_toList]; exact ho); omega) (by
          have := allEdgesOk_at i _ e he hb 0 hedge (by rw [Array.getElem?_toList]; exact ho); omega)⟩
        rw [hr] at this
        simp at this
  intro fuel
  induction fuel with
  | zero =>
    intro listed a w hsz hcl hcnt hJ
    have hl : ∀ i, i < ops.size → Lst listed i := by
      intro i hi
      have h0 : (List.range ops.size).countP (fun i => !listed.getD i false) = 0 := by omega
      rw [List.countP_eq_zero] at h0
      have := h0 i (by simpa using hi)
      simpa [Lst] using this
    refine ⟨?_, hfin listed a w hJ hl⟩
    cases hr : Region.ready .any ops listed with
    | nil => rfl
    | cons x xs =>
      exfalso
      obtain ⟨o, ho, hn, _⟩ := (ready_iff hsz).1 (by rw [hr]; simp : x ∈ Region.ready .any ops listed)
      exact hn (hl x (Array.getElem?_eq_some_iff.1 ho).1)
  | succ fuel ih =>
    intro listed a w hsz hcl hcnt hJ
    refine ⟨fun hr => hfin listed a w hJ (hall listed hsz hr), fun i hi => ?_⟩
    obtain ⟨o, ho, hni, hpi⟩ := (ready_iff hsz).1 hi
    have hilt := (Array.getElem?_eq_some_iff.1 ho).1
    have hisz : i < listed.size := by omega
    refine wpOp_mono (fun a' w' hJ' => ih _ a' w' (by simpa using hsz) ?_ ?_ hJ') (hstep listed a w i o hsz hcl hJ ho hni hpi)
    · intro j oj hoj hl e he hb
      rw [lst_set hisz] at hl ⊢
      rcases hl with rfl | hl
      · have : oj = o := by
          have : ops[j]? = some oj := by simpa using hoj
          rw [ho] at this; injection this with this; exact this.symm
        subst this
        exact .inr (hpi e he hb)
      · exact .inr (hcl j oj hoj hl e he hb)
    · have : (List.range ops.size).countP (fun j => !(listed.setIfInBounds i true).getD j false) < (List.range ops.size).countP (fun j => !listed.getD j false) := by
        refine countP_lt (i := i) (by simpa using hilt) (fun x _ hx => ?_) ?_ ?_
        · cases hl : listed.getD x false with
          | false => rfl
          | true =>
            have : Lst (listed.setIfInBounds i true) x := (lst_set hisz).2 (.inr hl)
            simp only [Lst] at this
            rw [this] at hx; cases hx
        · cases hl : listed.getD i false with
          | false => rfl
          | true => exact absurd hl hni
        · have : Lst (listed.setIfInBounds i true) i := (lst_set hisz).2 (.inl rfl)
          simp only [Lst] at this
          rw [this]; rfl
      omega

theorem region_gen {ops : Array Oper} {id : Nat} (hm : P.follows .mixedOrders = true) (hedge : allEdgesOk ops.toList 0 = true) {Q : Exit → Act → World → Prop} {J : Array Bool → Act → World → Prop}
    (hstep : ∀ (listed : Array Bool) (a : Act) (w : World) (i : Nat) (o : Oper), listed.size = ops.size → Closed ops.toList listed → J listed a w → ops[i]? = some o → ¬ Lst listed i → Preds listed o.after.toList → wpOp P ops Q i (fun a' w' => J (listed.setIfInBounds i true) a' w') a w)
    (hfin : ∀ (listed : Array Bool) (a : Act) (w : World), J listed a w → (∀ i, i < ops.size → Lst listed i) → Q .normal a w) {a : Act} {w : World} (h0 : J (Array.replicate ops.size false) a { w with drawn := w.drawn + 1 }) : (Code.region id ops true).wp P Q a w := by
  refine wp_region_any hm (draw_gen hedge hstep hfin ops.size _ a _ (by simp) ?_ ?_ h0)
  · intro j o _ hl
    exfalso
    unfold Lst at hl
    simp [Array.getD] at hl
  · refine Nat.le_trans List.countP_le_length ?_
    simp

def namesO (l : Nat) : Ob → Bool
  | .box cells => namesL l cells
  | .arr .. => false

/-- Less is told. -/
theorem Rel.sub {β : Nat → Option Nat} {S : Nat → Prop} {st st2 : St} {a : Act} {w : World} (hR : Rel E β S st a w) (hn : st2.n = st.n)
    (ht : ∀ t av, look st2.tm t = some av → look st.tm t = some av ∧ ∀ l, names l av = true → look st2.h l = look st.h l)
    (hh : ∀ l o, look st2.h l = some o → look st.h l = some o ∧ ∀ m, namesO m o = true → look st2.h m = look st.h m) : Rel E β S st2 a w := by
  have hk : ∀ l, look st2.h l = look st.h l → Keep β (look st.h) w β (look st2.h) w l := fun l h => ⟨rfl, fun h0 => h.trans h0, fun e s rows h0 => .inr ⟨rows, h.trans h0, rfl⟩, fun b cs ty fz _ _ hw => ⟨cs, ty, fz, hw, rfl⟩⟩
  have hs : ∀ l, (look st2.h l).isSome = true → (look st.h l).isSome = true := fun l h => by
    obtain ⟨o, ho⟩ := Option.isSome_iff_exists.1 h
    rw [(hh l o ho).1]; rfl
  refine ⟨hR.n.trans hn.symm, hR.dfr, fun t av hl => ?_, ⟨fun l o ho => ?_, fun l l' b h1 h2 => hR.hr.inj l l' b (hs l h1) (hs l' h2), fun l b h1 => hR.hr.apart l b (hs l h1), fun l b h1 => hR.hr.own l b (hs l h1), hR.hr.sb, hR.hr.sfr, hR.hr.s0, hR.hr.fr, hR.hr.pin, fun l b hl h1 => hR.hr.psz l b hl (hs l h1)⟩⟩
  · obtain ⟨g1, g2⟩ := ht t av hl
    exact (hR.tm t av g1).mono (fun _ h => h) (fun _ _ => rfl) (fun l hl' => hk l (g2 l hl')) (fun _ _ => rfl)
  · obtain ⟨g1, g2⟩ := hh l o ho
    have hob := hR.hr.ob l o g1
    cases o with
    | arr e s rows => exact hob
    | box cells =>
      obtain ⟨b, ty, cs, fz, h1, h2, h3, h4, h5⟩ := hob
      exact ⟨b, ty, cs, fz, h1, h2, h3, h4, fun i x hx => (h5 i x hx).mono (fun _ h => h) (fun _ _ => rfl) (fun m hm => hk m (g2 m (namesL_of hx hm))) (fun _ _ => rfl)⟩

theorem vops_part {spec : Spec} {tt : TT} (hS : SpecOK P spec) (hT : TOk P tt) {ops : Array Oper} {R : Type} : ∀ (l : List Oper) (i : Nat) (st : St) (acc : List Rec) (k : St → List Rec → Option R) (r : R), (∀ j, j < l.length → l[j]? = ops[i + j]?) →
    vops spec tt ops l st acc k = some r → ∃ recs st', recs.length = l.length ∧ k st' (acc ++ recs) = some r ∧ RunOK P E ops i st recs st'
  | [], i, st, acc, k, r, _, h => ⟨[], st, rfl, by simpa [vops] using h, rfl⟩
  | o :: l, i, st, acc, k, r, hl, h => by
    have h0 : ops[i]? = some o := by simpa using (hl 0 (by simp)).symm
    simp only [vops] at h
    obtain ⟨rc, h, hd, hs, hstep⟩ := vstep_sound (E := E) hS hT h0 h
    obtain ⟨recs, st', h1, h2, h3⟩ := vops_part hS hT l (i + 1) _ _ k r (fun j hj => by have := hl (j + 1) (by simp; omega); simpa [Nat.add_assoc, Nat.add_comm 1 j] using this) h
    exact ⟨rc :: recs, st', by simp [h1], by simpa using h2, ⟨o, h0, hd⟩, hs, hstep, h3⟩

theorem RunOK.append {ops : Array Oper} : ∀ {r1 r2 : List Rec} {i : Nat} {st st1 st2 : St}, RunOK P E ops i st r1 st1 → RunOK P E ops (i + r1.length) st1 r2 st2 → RunOK P E ops i st (r1 ++ r2) st2
  | [], r2, i, st, st1, st2, h1, h2 => by simp only [RunOK] at h1; subst h1; simpa using h2
  | rc :: r1, r2, i, st, st1, st2, h1, h2 => by
    obtain ⟨a, b, c, d⟩ := h1
    exact ⟨a, b, c, RunOK.append d (by rw [show i + 1 + r1.length = i + (rc :: r1).length by simp; omega]; exact h2)⟩

theorem RunOK.one {ops : Array Oper} {i : Nat} {st : St} {o : Oper} (ho : ops[i]? = some o) (hg : o.guard = none) {dl : Dl} (hgood : Good P E o (evO st.tm) (look st.h) dl) (hs : SideOK st ⟨tmpsOf o.op.operands.toList ++ [], o.dst, dl⟩) :
    RunOK P E ops i st [⟨tmpsOf o.op.operands.toList ++ [], o.dst, dl⟩] (put st o.dst dl) :=
  ⟨⟨o, ho, rfl⟩, hs, step_plain ho hg hgood, rfl⟩

theorem wp_region_run {ops : Array Oper} {id : Nat} {st st' : St} {recs : List Rec} (hrun : RunOK P E ops 0 st recs st') (hlen : recs.length = ops.size) {a : Act} {w : World} (hR : RelX E st a w) {Q : Exit → Act → World → Prop} (hQ : ∀ a' w', RelX E st' a' w' → Q .normal a' w') :
    (Code.region id ops false).wp P Q a w := by
  refine wp_region ?_
  have := run_seq hQ recs 0 st a w hrun hR
  rw [hlen] at this
  rw [List.range_eq_range']
  exact this
end
end Go.Vx
