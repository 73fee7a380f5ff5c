/- Part of a proof: texts VxGen2 VxRow VxLaw. No conditions of their own. -/
import Derived.Test.YtdjncnnhobmhaaaDoorEVB
import Derived.ProofKit
import Derived.ChangeOld
import Derived.Carry
import Derived.ChangeArms
import Derived.WideShapes
/-
  Contracts of functions that take pointers to variables and hand out objects of their own.
-/
namespace Go.Vx
section
variable {P : Program} {R : Type}

theorem renA_gen {ρ : List (Nat × Nat)} {β β' : Nat → Option Nat} {S : Nat → Prop} {h h' : Nat → Option Ob} (hb' : ∀ l k, (l, k) ∈ ρ → β' k = β l) (hs' : ∀ l k o, (l, k) ∈ ρ → h l = some o → h' k = some (renO ρ o))
    (hn' : ∀ l k, (l, k) ∈ ρ → h l = none → h' k = none) {w : World} {tm : Nat → Value} {v : Value} {av : AV} (hv : RdA β S h w tm v av) : RdA β' S h' w tm v (renA ρ av) := by
  induction hv with
  | top v => exact .top v
  | d v x hx => exact .d v x hx
  | nil => exact .nil
  | ag cs l hl _ ih =>
    refine .ag cs _ (by rw [renL_length]; exact hl) fun i x hx => ?_
    rw [renL_get, Option.map_eq_some_iff] at hx
    obtain ⟨y, hy, rfl⟩ := hx
    exact ih i y hy
  | tup cs l hl _ ih =>
    refine .tup cs _ (by rw [renL_length]; exact hl) fun i x hx => ?_
    rw [renL_get, Option.map_eq_some_iff] at hx
    obtain ⟨y, hy, rfl⟩ := hx
    exact ih i y hy
  | fn f cs l hl _ ih =>
    refine .fn f cs _ (by rw [renL_length]; exact hl) fun i x hx => ?_
    rw [renL_get, Option.map_eq_some_iff] at hx
    obtain ⟨y, hy, rfl⟩ := hx
    exact ih i y hy
  | ptr l off b hb =>
    unfold renA
    split
    · rename_i l' hl; exact .ptr _ _ _ ((hb' _ _ (look_mem hl)).trans hb)
    · exact .top _
  | sa v l t b hb hv =>
    unfold renA
    split
    · rename_i l' hl; exact .sa _ _ _ b ((hb' _ _ (look_mem hl)).trans hb) hv
    · exact .top _
  | el ad row off c hs hc hr => exact .el ad row off c hs hc hr
  | fs ad s rows hx => exact .fs ad s rows hx
  | mpd v f hm => exact .mpd v f hm
  | ex v => exact .ex v
  | arr0 l e s hb hh =>
    unfold renA
    split
    · rename_i l' hl; exact .arr0 _ e s ((hb' _ _ (look_mem hl)).trans hb) (hs' _ _ _ (look_mem hl) hh)
    · exact .top _
  | arr l b cap e s rows cs ty fz hb hh hw hcs hcap hmax =>
    unfold renA
    split
    · rename_i l' hl; exact .arr _ b cap e s rows cs ty fz ((hb' _ _ (look_mem hl)).trans hb) (hs' _ _ _ (look_mem hl) hh) hw hcs hcap hmax
    · exact .top _
  | ap l i off b e s rows hb hh =>
    unfold renA
    split
    · rename_i l' hl; exact .ap _ i off b e s rows ((hb' _ _ (look_mem hl)).trans hb) (hs' _ _ _ (look_mem hl) hh)
    · exact .top _
  | dang v av l hl hh h1 =>
    cases av <;> simp [locOf] at hl
    · subst hl
      unfold renA
      split
      · rename_i l' hl'; exact .dang _ _ l' rfl (hn' _ _ (look_mem hl') hh) h1
      · exact .top _
    · subst hl
      unfold renA
      split
      · rename_i l' hl'; exact .dang _ _ l' rfl (hn' _ _ (look_mem hl') hh) h1
      · exact .top _
  | gdT => exact .top _
  | gdF => exact .top _

/-- An argument: data, or a pointer to a variable that is handed over. -/
def argOk (ρ : List (Nat × Nat)) (av : AV) : Bool :=
  match av with
  | .ptr j _ => (look ρ j).isSome
  | av => lf av

def argsOk (ρ : List (Nat × Nat)) : List AV → Bool
  | [] => true
  | a :: r => argOk ρ a && argsOk ρ r

theorem argsOk_at {ρ : List (Nat × Nat)} : ∀ {l : List AV} {i : Nat} {x : AV}, argsOk ρ l = true → l[i]? = some x → argOk ρ x = true
  | a :: r, 0, x, h, hx => by
    simp only [argsOk, Bool.and_eq_true] at h
    simp at hx; subst hx; exact h.1
  | a :: r, i + 1, x, h, hx => by
    simp only [argsOk, Bool.and_eq_true] at h
    exact argsOk_at h.2 (by simpa using hx)

/-- What is seen of the callee's end. -/
def outWr (σ : List (Nat × Nat)) (H : List (Nat × Ob)) : List (Nat × Nat) → List (Nat × Option Ob)
  | [] => []
  | (j, l) :: r => (l, (look H j).map (renO σ)) :: outWr σ H r

theorem outWr_map (σ : List (Nat × Nat)) (H : List (Nat × Ob)) : ∀ τ, (outWr σ H τ).map (·.1) = τ.map (·.2)
  | [] => rfl
  | (j, l) :: r => by simp [outWr, outWr_map σ H r]

theorem setF_out_at (σ : List (Nat × Nat)) (H : List (Nat × Ob)) : ∀ (τ : List (Nat × Nat)) (h : Nat → Option Ob), nodupN (τ.map (·.2)) = true → ∀ j l, (j, l) ∈ τ → setF h (outWr σ H τ) l = (look H j).map (renO σ)
  | (a, b) :: r, h, hn, j, l, hm => by
    simp only [List.map_cons, nodupN, Bool.and_eq_true, Bool.not_eq_true'] at hn
    simp only [outWr, setF]
    rcases List.mem_cons.1 hm with hm | hm
    · injection hm with e1 e2
      subst e1 e2
      rw [setF_out]
      · simp
      · rw [outWr_map]
        intro hin
        have : memN l (r.map (·.2)) = true := by
          have : ∀ (L : List Nat), l ∈ L → memN l L = true := by
            intro L
            induction L with
            | nil => intro h; cases h
            | cons x xs ih =>
              intro h
              rcases List.mem_cons.1 h with h | h
              · subst h; simp [memN, Nat.beq_refl]
              · simp [memN, ih h]
          exact this _ hin
        rw [this] at hn
        exact absurd hn.1 (by simp)
    · exact setF_out_at σ H r _ hn.2 j l hm

mutual
theorem gds_renA (ρ : List (Nat × Nat)) (t : Nat) : ∀ av : AV, gds t (renA ρ av) = false
  | .top => rfl
  | .d _ => rfl
  | .nil => rfl
  | .el .. => rfl
  | .fs .. => rfl
  | .mpd _ => rfl
  | .ex _ => rfl
  | .gd .. => rfl
  | .ag l => by simp only [renA, gds]; exact gdsL_renL ρ t l
  | .tup l => by simp only [renA, gds]; exact gdsL_renL ρ t l
  | .fn _ l => by simp only [renA, gds]; exact gdsL_renL ρ t l
  | .ptr l o => by unfold renA; split <;> rfl
  | .arr l => by unfold renA; split <;> rfl
  | .ap l i o => by unfold renA; split <;> rfl
  | .sa l t => by unfold renA; split <;> rfl
theorem gdsL_renL (ρ : List (Nat × Nat)) (t : Nat) : ∀ l : List AV, gdsL t (renL ρ l) = false
  | [] => rfl
  | a :: r => by simp only [renL, gdsL, gds_renA ρ t a, gdsL_renL ρ t r, Bool.or_self]
end

mutual
theorem renA_lf (ρ : List (Nat × Nat)) : ∀ av : AV, lf av = true → renA ρ av = av
  | .top, _ => rfl
  | .d _, _ => rfl
  | .nil, _ => rfl
  | .el .., _ => rfl
  | .fs .., _ => rfl
  | .mpd _, _ => rfl
  | .ex _, _ => rfl
  | .gd .., h => by simp [lf] at h
  | .ag l, h => by simp only [renA]; rw [renL_lf ρ l (by simpa [lf] using h)]
  | .tup l, h => by simp only [renA]; rw [renL_lf ρ l (by simpa [lf] using h)]
  | .fn _ l, h => by simp only [renA]; rw [renL_lf ρ l (by simpa [lf] using h)]
  | .ptr .., h => by simp [lf] at h
  | .arr _, h => by simp [lf] at h
  | .ap .., h => by simp [lf] at h
  | .sa .., h => by simp [lf] at h
theorem renL_lf (ρ : List (Nat × Nat)) : ∀ l : List AV, lfL l = true → renL ρ l = l
  | [], _ => rfl
  | a :: r, h => by
    simp only [lfL, Bool.and_eq_true] at h
    simp only [renL, renA_lf ρ a h.1, renL_lf ρ r h.2]
end

theorem inv_none {σ : List (Nat × Nat)} {l : Nat} (h : l ∉ σ.map (·.2)) : inv σ l = none := by
  cases hi : inv σ l with
  | none => rfl
  | some j => exact absurd (List.mem_map.2 ⟨(j, l), inv_mem hi, rfl⟩) h

theorem look_of_mem {ρ : List (Nat × Nat)} (hn : nodupN (ρ.map (·.1)) = true) {j l : Nat} (hm : (j, l) ∈ ρ) : look ρ j = some l := by
  cases hk : look ρ j with
  | none =>
    exfalso
    have : ∀ (L : List (Nat × Nat)), (j, l) ∈ L → look L j ≠ none := by
      intro L
      induction L with
      | nil => intro h; cases h
      | cons x r ih =>
        intro h hl
        obtain ⟨a, b⟩ := x
        rw [look_cons] at hl
        by_cases e : j = a
        · rw [if_pos e] at hl; cases hl
        · rw [if_neg e] at hl
          rcases List.mem_cons.1 h with h | h
          · injection h with h1 h2; exact e h1
          · exact ih h hl
    exact this ρ hm hk
  | some l' =>
    have := nodup_fst hn (j, l) (j, l') hm (look_mem hk) rfl
    injection this with _ h
    rw [h]

/-- What is asked of the callee's run. -/
structure HeapEnd (σ ρ : List (Nat × Nat)) (H : List (Nat × Ob)) (av : AV) (H' : List (Nat × Ob)) (dl : Dl) : Prop where
  v : renA σ av = dl.v
  wr : outWr σ H' σ = dl.wr
  all : ∀ j l, (j, l) ∈ σ → (look H' j).isSome = true
  box : ∀ j l, (j, l) ∈ ρ → ∃ c c', look H j = some (.box c) ∧ look H' j = some (.box c') ∧ c'.length = c.length

theorem callOK_heap {α : Type} {K : AV → List (Nat × Ob) → Option α} {res : α} {C : VC} (hC : VCOk P C) {n f : Nat} {fn : Func} (hf : P.funcs[f]? = some fn) (hb : fn.body.isSome = true) (hn : (fn.name == "runtime.NumGoroutine") = false)
    {σ ρ : List (Nat × Nat)} {avs avs' : List AV} {H : List (Nat × Ob)} {hl : Nat → Option Ob} {dl : Dl}
    (hav : avs = avs'.map (renA ρ)) (hargs : argsOk ρ avs' = true)
    (hsub : ∀ p, p ∈ ρ → p ∈ σ) (h1 : nodupN (σ.map (·.1)) = true) (h2 : nodupN (σ.map (·.2)) = true) (hρ : nodupN (ρ.map (·.1)) = true)
    (hin : ∀ j l, (j, l) ∈ ρ → 1000000 ≤ j ∧ ∃ cs cs', hl l = some (.box cs) ∧ look H j = some (.box cs') ∧ AVleL cs cs' ∧ lfL cs' = true)
    (hinH : ∀ j, (look H j).isSome = true → ∃ l, (j, l) ∈ ρ)
    (hnew : ∀ j l, (j, l) ∈ σ → (j, l) ∈ ρ ∨ hl l = none)
    (hwl : wrL dl = σ.map (·.2))
    (h : vfn C n fn avs' H K = some res) (hK : ∀ av H', K av H' = some res → HeapEnd σ ρ H av H' dl) : CallOK P f avs hl dl := by
  refine ⟨⟨fn, hf, hb, hn⟩, fun β S h' w args hO hA hag => ?_⟩
  have hag : ∀ {j l : Nat}, (j, l) ∈ σ → h' l = hl l := fun {j l} hm => hag l (.inr (by rw [hwl]; exact List.mem_map.2 ⟨(j, l), hm, rfl⟩))
  have hlook : ∀ {j l : Nat}, (j, l) ∈ ρ → look ρ j = some l := fun hm => look_of_mem hρ hm
  have hβc : ∀ {j l : Nat}, (j, l) ∈ ρ → (look ρ j).bind β = β l := fun hm => by rw [hlook hm]; rfl
  have hlk2 : ∀ {j j' l : Nat}, (j, l) ∈ ρ → (j', l) ∈ ρ → j = j' := fun a b => by
    have := nodup_fst h2 _ _ (hsub _ a) (hsub _ b) rfl
    injection this
  have hsome' : ∀ {j l : Nat}, (j, l) ∈ ρ → (h' l).isSome = true := fun hm => by
    obtain ⟨_, cs, cs', g1, _⟩ := hin _ _ hm
    rw [hag (hsub _ hm), g1]; rfl
  -- the callee's view
  have hO0 : Objs (fun j => (look ρ j).bind β) S (look H) w := by
    refine ⟨fun j o ho => ?_, fun j j' b s1 s2 b1 b2 => ?_, fun j b s1 b1 => ?_, hO.sb⟩
    · obtain ⟨l, hm⟩ := hinH j (by simp [ho])
      obtain ⟨_, cs, cs', g1, g2, g3, g4⟩ := hin j l hm
      rw [ho] at g2
      injection g2 with g2
      subst g2
      obtain ⟨b, ty, c0, fz, e1, e2, e3, e4, e5⟩ := hO.ob l _ ((hag (hsub _ hm)).trans g1)
      refine ⟨b, ty, c0, fz, (hβc hm).trans e1, e2, ⟨e3.1, fun i l' t' hx => by have := lfL_at g4 hx; simp [lf] at this⟩, e4.trans g3.length, fun i x hx => ?_⟩
      obtain ⟨y, y1, y2⟩ := g3.at i x hx
      exact rdA_lf (lfL_at g4 hx) (fun _ h => h) (fun _ _ => rfl) (y2 _ _ _ _ _ _ (e5 i y y1))
    · obtain ⟨l, hm⟩ := hinH j s1
      obtain ⟨l', hm'⟩ := hinH j' s2
      have := hO.inj l l' b (hsome' hm) (hsome' hm') (by rw [← hβc hm]; exact b1) (by rw [← hβc hm']; exact b2)
      subst this
      exact hlk2 hm hm'
    · obtain ⟨l, hm⟩ := hinH j s1
      exact hO.apart l b (hsome' hm) (by rw [← hβc hm]; exact b1)
  have hA0 : ArgsRd (fun j => (look ρ j).bind β) S (look H) w args avs' := by
    refine ⟨by rw [hA.1, hav, List.length_map], fun i v av g1 g2 => ?_⟩
    have hr := hA.2 i v (renA ρ av) g1 (by rw [hav, List.getElem?_map, g2]; rfl)
    have hok := argsOk_at hargs g2
    unfold argOk at hok
    split at hok
    · rename_i j o
      cases hj : look ρ j with
      | none => rw [hj] at hok; cases hok
      | some l =>
        simp only [renA, hj] at hr
        cases hr with
        | ptr _ _ b hb' => exact .ptr j o b (by simp only [hj]; exact hb')
        | dang _ _ _ hl' => simp [locOf] at hl'
    · rw [renA_lf ρ av hok] at hr
      exact rdA_lf hok (fun _ h => h) (fun _ _ => rfl) hr
  refine (vfn_calls hC hf h hO0 hA0).mono fun e w' ⟨v, av, H', β', S', he, hk, hrd, _, hr⟩ => ?_
  obtain ⟨q1, q2, q3, q4⟩ := hK av H' hk
  have hinv : ∀ {j l : Nat}, (j, l) ∈ σ → inv σ l = some j := fun hm => inv_of h2 hm
  let βo : Nat → Option Nat := fun l => match inv σ l with | some j => β' j | none => β l
  have hβo : ∀ j l, (j, l) ∈ σ → βo l = β' j := fun j l hm => by simp only [βo, hinv hm]
  have hset : ∀ j l, (j, l) ∈ σ → setF h' dl.wr l = (look H' j).map (renO σ) := fun j l hm => by rw [← q2]; exact setF_out_at σ H' σ h' h2 j l hm
  have hmem : ∀ {l : Nat}, l ∈ wrL dl → ∃ j, (j, l) ∈ σ := fun hm => by
    rw [hwl] at hm
    obtain ⟨⟨j, l'⟩, m1, m2⟩ := List.mem_map.1 hm
    simp only at m2
    subst m2
    exact ⟨j, m1⟩
  have hpin : ∀ {j l : Nat}, (j, l) ∈ ρ → β' j = β l := fun hm => (hr.pin _ (hin _ _ hm).1).trans (hβc hm)
  have hren : ∀ {v : Value} {x : AV}, RdA β' S' (look H') w' tm0 v x → RdA βo S' (setF h' dl.wr) w' tm0 v (renA σ x) := fun hx =>
    renA_gen hβo (fun j l o hm ho => by rw [hset j l hm, ho]; rfl) (fun j l hm ho => by rw [hset j l hm, ho]; rfl) hx
  have hnotin : ∀ {j l : Nat}, (j, l) ∈ σ → (j, l) ∉ ρ → ∀ b, β' j = some b → w.heap.size ≤ b := by
    intro j l hm hno b hb'
    rcases hr.own j b (q3 j l hm) hb' with ⟨j', s1, s2⟩ | h
    · exfalso
      obtain ⟨l', hm'⟩ := hinH j' s1
      have e1 : β' j' = some b := (hpin hm').trans (by rw [← hβc hm']; exact s2)
      have := hr.inj j j' b (q3 j l hm) (q3 j' l' (hsub _ hm')) hb' e1
      subst this
      have := nodup_fst h1 _ _ hm (hsub _ hm') rfl
      exact hno (this ▸ hm')
    · exact h
  have hMw : ∀ b, (∃ j, (look H j).isSome = true ∧ (look ρ j).bind β = some b) → ∃ l, l ∈ wrL dl ∧ (h' l).isSome = true ∧ β l = some b := by
    intro b ⟨j, s1, s2⟩
    obtain ⟨l, hm⟩ := hinH j s1
    exact ⟨l, by rw [hwl]; exact List.mem_map.2 ⟨(j, l), hsub _ hm, rfl⟩, hsome' hm, by rw [← hβc hm]; exact s2⟩
  refine ⟨v, βo, S', he, ⟨hr.s0, fun b hS => ?_, hr.sb, hr.fr.mono fun b _ hM => hMw b hM, fun l hno => ?_, fun l o hm ho => ?_, fun l hm hs => ?_, fun l b hm hs hb' => ?_, fun l l' b hm hm' hs hs' hb' hb'' => ?_, fun l hm hno hno' => ?_, ?_, fun t => by rw [← q1]; exact gds_renA σ t av⟩⟩
  · rcases hr.sfr b hS with g | g | g
    · exact .inl g
    · exact .inr (.inr (hMw b g))
    · exact .inr (.inl g)
  · have : inv σ l = none := inv_none (by rw [← hwl]; exact hno)
    simp only [βo, this]
  · obtain ⟨j, hj⟩ := hmem hm
    rw [hset j l hj, Option.map_eq_some_iff] at ho
    obtain ⟨o', ho', rfl⟩ := ho
    have hob := hr.ob j o' ho'
    cases o' with
    | box cells =>
      obtain ⟨b, ty, cs, fz, g1, g2, g3, g4, g5⟩ := hob
      refine ⟨b, ty, cs, fz, (hβo j l hj).trans g1, g2, ⟨g3.1, saTy_ren g3.2⟩, by rw [g4, renL_length], fun i x hx => ?_⟩
      rw [renL_get, Option.map_eq_some_iff] at hx
      obtain ⟨y, hy, rfl⟩ := hx
      exact hren (g5 i y hy)
    | arr e s rows =>
      rcases hob with ⟨g1, g2⟩ | ⟨b, cs, g1, g2, g3, g4, g5⟩
      · exact .inl ⟨(hβo j l hj).trans g1, g2⟩
      · exact .inr ⟨b, cs, (hβo j l hj).trans g1, g2, g3, g4, g5⟩
  · obtain ⟨j, hj⟩ := hmem hm
    rcases hnew j l hj with hp | hno
    · obtain ⟨c, c', g1, g2, g3⟩ := q4 j l hp
      obtain ⟨_, cs, cs', e1, e2, e3, _⟩ := hin j l hp
      have hh : h' l = some (.box cs) := (hag hj).trans e1
      refine ⟨(hβo j l hj).trans (hpin hp), fun hx => (by rw [hh] at hx; cases hx), fun e s rows hx => (by rw [hh] at hx; cases hx), fun b c0 ty fz _ hb' hw => ?_⟩
      obtain ⟨b2, ty2, c2, fz2, k1, k2, _, k4, _⟩ := hr.ob j _ g2
      obtain ⟨b3, ty3, c3, fz3, m1, m2, _, m4, _⟩ := hO.ob l _ hh
      rw [hpin hp, hb'] at k1
      injection k1 with k1
      subst k1
      rw [hb'] at m1
      injection m1 with m1
      subst m1
      rw [hw] at m2
      injection m2 with m2
      injection m2 with m2 _ _
      subst m2
      refine ⟨c2, ty2, fz2, k2, ?_⟩
      rw [k4, m4, g3]
      rw [g1] at e2
      injection e2 with e2
      injection e2 with e2
      rw [e2, e3.length]
    · rw [hag hj, hno] at hs; cases hs
  · obtain ⟨j, hj⟩ := hmem hm
    rw [hβo j l hj] at hb'
    refine ⟨?_, hr.apart j b (q3 j l hj) hb'⟩
    by_cases hp : (j, l) ∈ ρ
    · exact .inr ⟨l, hm, hsome' hp, by rw [← hpin hp]; exact hb'⟩
    · exact .inl (hnotin hj hp b hb')
  · obtain ⟨j, hj⟩ := hmem hm
    obtain ⟨j', hj'⟩ := hmem hm'
    rw [hβo j l hj] at hb'
    rw [hβo j' l' hj'] at hb''
    have := hr.inj j j' b (q3 j l hj) (q3 j' l' hj') hb' hb''
    subst this
    have := nodup_fst h1 _ _ hj hj' rfl
    injection this
  · obtain ⟨j, hj⟩ := hmem hm
    have := q3 j l hj
    rw [hset j l hj] at hno'
    cases hx : look H' j with
    | none => rw [hx] at this; cases this
    | some o => rw [hx] at hno'; cases hno'
  · rw [← q1]; exact hren hrd

/-! the same, with conditions that a program prints -/

def HinL (hl : Nat → Option Ob) (H : List (Nat × Ob)) : List (Nat × Nat) → Prop
  | [] => True
  | (j, l) :: r => (1000000 ≤ j ∧ ∃ cs cs', hl l = some (.box cs) ∧ look H j = some (.box cs') ∧ AVleL cs cs' ∧ lfL cs' = true) ∧ HinL hl H r
def AllL (H : List (Nat × Ob)) : List (Nat × Nat) → Prop
  | [] => True
  | (j, _) :: r => (look H j).isSome = true ∧ AllL H r
def BoxL (H H' : List (Nat × Ob)) : List (Nat × Nat) → Prop
  | [] => True
  | (j, _) :: r => (∃ c c', look H j = some (.box c) ∧ look H' j = some (.box c') ∧ c'.length = c.length) ∧ BoxL H H' r
def NewL (hl : Nat → Option Ob) : List (Nat × Nat) → Bool
  | [] => true
  | (_, l) :: r => (hl l).isNone && NewL hl r

theorem HinL_at {hl : Nat → Option Ob} {H : List (Nat × Ob)} : ∀ {ρ : List (Nat × Nat)}, HinL hl H ρ → ∀ j l, (j, l) ∈ ρ → 1000000 ≤ j ∧ ∃ cs cs', hl l = some (.box cs) ∧ look H j = some (.box cs') ∧ AVleL cs cs' ∧ lfL cs' = true
  | (a, b) :: r, h, j, l, hm => by
    rcases List.mem_cons.1 hm with hm | hm
    · injection hm with h1 h2; subst h1 h2; exact h.1
    · exact HinL_at h.2 j l hm
theorem AllL_at {H : List (Nat × Ob)} : ∀ {ρ : List (Nat × Nat)}, AllL H ρ → ∀ j l, (j, l) ∈ ρ → (look H j).isSome = true
  | (a, b) :: r, h, j, l, hm => by
    rcases List.mem_cons.1 hm with hm | hm
    · injection hm with h1 h2; subst h1 h2; exact h.1
    · exact AllL_at h.2 j l hm
theorem BoxL_at {H H' : List (Nat × Ob)} : ∀ {ρ : List (Nat × Nat)}, BoxL H H' ρ → ∀ j l, (j, l) ∈ ρ → ∃ c c', look H j = some (.box c) ∧ look H' j = some (.box c') ∧ c'.length = c.length
  | (a, b) :: r, h, j, l, hm => by
    rcases List.mem_cons.1 hm with hm | hm
    · injection hm with h1 h2; subst h1 h2; exact h.1
    · exact BoxL_at h.2 j l hm
theorem NewL_at {hl : Nat → Option Ob} : ∀ {ρ : List (Nat × Nat)}, NewL hl ρ = true → ∀ j l, (j, l) ∈ ρ → hl l = none
  | (a, b) :: r, h, j, l, hm => by
    simp only [NewL, Bool.and_eq_true] at h
    rcases List.mem_cons.1 hm with hm | hm
    · injection hm with h1 h2; subst h1 h2; simpa using h.1
    · exact NewL_at h.2 j l hm
theorem keys_mem : ∀ {H : List (Nat × Ob)} {ρ : List (Nat × Nat)}, H.map (·.1) = ρ.map (·.1) → ∀ j, (look H j).isSome = true → ∃ l, (j, l) ∈ ρ
  | [], _, _, j, hs => by simp [look] at hs
  | (a, o) :: r, [], h, _, _ => by simp at h
  | (a, o) :: r, (b, l) :: ρ, h, j, hs => by
    simp only [List.map_cons, List.cons.injEq] at h
    rw [look_cons] at hs
    by_cases e : j = a
    · exact ⟨l, by rw [e, h.1]; exact List.mem_cons_self ..⟩
    · rw [if_neg e] at hs
      obtain ⟨l', hm⟩ := keys_mem h.2 j hs
      exact ⟨l', List.mem_cons_of_mem _ hm⟩

/-- The boolean checks of an entry. -/
def newsOk (hl : Nat → Option Ob) (ρ ν : List (Nat × Nat)) : Bool := nodupN ((ρ ++ ν).map (·.2)) && NewL hl ν

theorem callOK_own {α : Type} {K : AV → List (Nat × Ob) → Option α} {res : α} {C : VC} (hC : VCOk P C) {n f : Nat} {fn : Func} (hf : P.funcs[f]? = some fn) (hb : fn.body.isSome = true) (hn : (fn.name == "runtime.NumGoroutine") = false)
    {ρ ν : List (Nat × Nat)} {avs avs' : List AV} {H : List (Nat × Ob)} {hl : Nat → Option Ob} {dl : Dl}
    (hav : avs = avs'.map (renA ρ)) (hargs : argsOk ρ avs' = true) (h1 : nodupN ((ρ ++ ν).map (·.1)) = true) (hρ : nodupN (ρ.map (·.1)) = true)
    (hc : newsOk hl ρ ν = true) (hin : HinL hl H ρ) (hkeys : H.map (·.1) = ρ.map (·.1)) (hwl : wrL dl = (ρ ++ ν).map (·.2))
    (h : vfn C n fn avs' H K = some res)
    (hK : ∀ av H', K av H' = some res → renA (ρ ++ ν) av = dl.v ∧ outWr (ρ ++ ν) H' (ρ ++ ν) = dl.wr ∧ AllL H' (ρ ++ ν) ∧ BoxL H H' ρ) : CallOK P f avs hl dl := by
  simp only [newsOk, Bool.and_eq_true] at hc
  refine callOK_heap hC hf hb hn hav hargs (fun p hp => List.mem_append_left _ hp) h1 hc.1 hρ (HinL_at hin) (keys_mem hkeys) (fun j l hm => ?_) hwl h fun av H' hk => ?_
  · rcases List.mem_append.1 hm with hm | hm
    · exact .inl hm
    · exact .inr (NewL_at hc.2 j l hm)
  · obtain ⟨q1, q2, q3, q4⟩ := hK av H' hk
    exact ⟨q1, q2, AllL_at q3, BoxL_at q4⟩

theorem bif_some {c : Bool} {x : Option R} {r : R} (h : (bif c then x else none) = some r) : c = true ∧ x = some r := by
  cases c with
  | false => cases h
  | true => exact ⟨rfl, h⟩

/-- One contract at some places, another at the others. -/
def altE (l : List Nat) (a b : Entry) : Entry := fun R site g avs hl k => bif memN site l then a R site g avs hl k else b R site g avs hl k
theorem altE_ok (l : List Nat) {f : Nat} {a b : Entry} (ha : EntryOK P f a) (hb : EntryOK P f b) : EntryOK P f (altE l a b) := by
  intro R site g avs hl k r h
  unfold altE at h
  cases hm : memN site l with
  | true => rw [hm] at h; exact ha R site g avs hl k r h
  | false => rw [hm] at h; exact hb R site g avs hl k r h

/-- A pointer among the arguments, and its variable. -/
def prP (hl : Nat → Option Ob) (av : AV) (k : Nat → List AV → Option R) : Option R :=
  match av with
  | .ptr l o => bif Nat.beq o 0 then match hl l with
    | some (.box cs) => k l cs
    | _ => none
    else none
  | _ => none

theorem prP_some {hl : Nat → Option Ob} {av : AV} {k : Nat → List AV → Option R} {r : R} (h : prP hl av k = some r) : ∃ l cs, k l cs = some r ∧ av = .ptr l 0 ∧ hl l = some (.box cs) := by
  unfold prP at h
  split at h
  · rename_i l o
    cases ho : Nat.beq o 0 with
    | false => simp [ho] at h
    | true =>
      simp only [ho, cond_true] at h
      have := Nat.eq_of_beq_eq_true ho
      subst this
      split at h
      · rename_i cs hb; exact ⟨l, cs, h, rfl, hb⟩
      · cases h
  · cases h

end
end Go.Vx
/-
  From a law's pure function to the row.
-/
namespace Go.Vx
section
variable {P : Program} {R : Type}

/-- Every block that is there may be read. -/
def SW (w : World) : Nat → Prop := fun b => b < w.heap.size

theorem law_true {C : VC} (hC : VCOk P C) {n f : Nat} {fn : Func} (hf : P.funcs[f]? = some fn) {ss : List (List Nat)} {K : AV → Option Bool} (hK : ∀ x, K x = some true → x = .d (.bool true))
    {avs : List AV} {args : List Value} {w : World} (hA : ArgsRd (fun _ => none) (SW w) (look ([] : List (Nat × Ob))) w args avs) (h : vfn C n fn avs [] (retF ss K) = some true) :
    Calls P f args.toArray w fun e w' => e = .returned (.bool true) ∧ RowKit.Below w.heap.size w w' := by
  have hO : Objs (fun _ => none) (SW w) (look ([] : List (Nat × Ob))) w := ⟨fun l o h => by simp [look] at h, fun l l' b h => by simp [look] at h, fun l b h => by simp [look] at h, fun b h => h⟩
  refine (vfn_calls hC hf h hO hA).mono fun e w' ⟨v, av, H', β', S', he, hk, hrd, _, hr⟩ => ?_
  refine ⟨?_, Fr.below (hr.fr.mono fun b _ ⟨l, h1, _⟩ => by simp [look] at h1)⟩
  unfold retF at hk
  split at hk
  case h_2 => cases hk
  rename_i av' hav
  cases hlf2 : lf (fixT ss av') with
  | false => simp [hlf2] at hk
  | true =>
    simp only [hlf2, cond_true] at hk
    have hk := hK _ hk
    have hO' : Objs β' S' (look H') w' := ⟨hr.ob, hr.inj, hr.apart, hr.sb⟩
    obtain ⟨bs, _, _, hrd'⟩ := retAV_rd hO' hav hrd
    have := fixT_le ss _ _ _ _ _ _ _ hrd'
    rw [hk] at this
    rw [he, this.bool_inv]

theorem argsRd_nil {β : Nat → Option Nat} {S : Nat → Prop} {h : Nat → Option Ob} {w : World} : ArgsRd β S h w [] [] := ⟨rfl, fun i v av h => by simp at h⟩
theorem argsRd_cons {β : Nat → Option Nat} {S : Nat → Prop} {h : Nat → Option Ob} {w : World} {v : Value} {av : AV} {vs : List Value} {avs : List AV} (h0 : RdA β S h w tm0 v av) (hr : ArgsRd β S h w vs avs) : ArgsRd β S h w (v :: vs) (av :: avs) := by
  refine ⟨by simp [hr.1], fun i v' av' h1 h2 => ?_⟩
  cases i with
  | zero => simp at h1 h2; subst h1 h2; exact h0
  | succ i => exact hr.2 i v' av' (by simpa using h1) (by simpa using h2)

/-- A slice of integers that came in. -/
def IsRow (k : IntKind) (w : World) (a : Option Addr) (len cap : Nat) (zs : List Int) : Prop :=
  (a = none ∧ len = 0 ∧ cap = 0 ∧ zs = []) ∨
  ∃ x, a = some x ∧ len ≤ cap ∧ cap ≤ maxLen ∧ zs.length = cap ∧ (∀ i, i < zs.length → w.cell? (x.add i) = some (.int k (zs.getD i 0))) ∧ ∀ n ∈ zs, (Lit.int k n).wf = true

def intRows (k : IntKind) (l : List Int) : List (List D) := l.map fun n => [.int k n]

theorem cell_lt {w : World} {a : Addr} {v : Value} (h : w.cell? a = some v) : a.block < w.heap.size := by
  rcases Nat.lt_or_ge a.block w.heap.size with h1 | h1
  · exact h1
  · simp [World.cell?, Array.getElem?_eq_none h1] at h

theorem isRow_rd {k : IntKind} {w : World} {a : Option Addr} {len cap : Nat} {zs : List Int} (h : IsRow k w a len cap zs) :
    Rd (SW w) w (.slice a len cap) (.sl 1 (intRows k (zs.take len))) ∧ ∀ n ∈ zs.take len, (Lit.int k n).wf = true := by
  rcases h with ⟨rfl, rfl, rfl, rfl⟩ | ⟨x, rfl, hl, hm, hz, hcell, hwz⟩
  · exact ⟨.sl0 _ _ _, fun n hn => by simp at hn⟩
  · refine ⟨?_, fun n hn => hwz n (List.mem_of_mem_take hn)⟩
    cases len with
    | zero => exact .sl0 _ _ _
    | succ m =>
      have h0 := hcell 0 (by omega)
      have hlen : (intRows k (zs.take (m + 1))).length = m + 1 := by simp [intRows]; omega
      have hat : ∀ (i : Nat) (r : List D), (intRows k (zs.take (m + 1)))[i]? = some r → i < zs.length ∧ r = [.int k (zs.getD i 0)] := by
        intro i r hr
        simp only [intRows, List.getElem?_map, Option.map_eq_some_iff] at hr
        obtain ⟨n, hn, rfl⟩ := hr
        obtain ⟨h1, h2⟩ := List.getElem?_eq_some_iff.1 hn
        simp at h1 h2
        have : i < zs.length := by omega
        refine ⟨this, ?_⟩
        simp [List.getD, List.getElem?_eq_getElem this, h2]
      have := Rd.sl (S := SW w) (w := w) x cap 1 (intRows k (zs.take (m + 1))) (fun i _ => .int k (zs.getD i 0)) (by have := cell_lt h0; rwa [block_add] at this) (by omega)
        (fun i r hr => by rw [(hat i r hr).2]; rfl)
        (fun i j r y hr hy => by
          obtain ⟨h1, rfl⟩ := hat i r hr
          cases j with
          | zero => simpa using hcell i h1
          | succ j => simp at hy)
        (fun i j r y hr hy => by
          obtain ⟨h1, rfl⟩ := hat i r hr
          cases j with
          | zero => simp at hy; subst hy; exact .int _ _
          | succ j => simp at hy)
      rw [hlen] at this
      exact this

/-! pure functions -/

theorem gb_true {α : Type} (p : Option α) (z : α) (k : α → Option R) : gb true p z k = p.bind k := by cases p <;> rfl
theorem gb_some_eq {α : Type} (g : Bool) (a z : α) (k : α → Option R) : gb g (some a) z k = k a := rfl
theorem gb_false {α : Type} (p : Option α) (z : α) (k : α → Option R) : gb false p z k = k (p.getD z) := by cases p <;> rfl

end
end Go.Vx
/-
  Reading the arguments of a law as data of known shape; the row's frame for a law.
-/
namespace Go.Vx

/-- The shape of one cell's data. -/
inductive Sh where
  | int (k : IntKind)
  | bool
  | str
  | sl (row : List Sh)

inductive Fit : Sh → D → Prop
  | int (k : IntKind) (n : Int) (h : (Lit.int k n).wf = true) : Fit (.int k) (.int k n)
  | bool (b : Bool) : Fit .bool (.bool b)
  | str (s : List UInt8) (h : s.length ≤ maxLen) : Fit .str (.str s)
  | sl (row : List Sh) (rows : List (List D)) (h : rows.length ≤ maxLen) (hl : ∀ (i : Nat) (r : List D), rows[i]? = some r → r.length = row.length)
      (hr : ∀ (i j : Nat) (r : List D) (s : Sh) (x : D), rows[i]? = some r → row[j]? = some s → r[j]? = some x → Fit s x) : Fit (.sl row) (.sl row.length rows)

/-- A list of cells has its shapes. -/
def FitL (ss : List Sh) (ds : List D) : Prop := ds.length = ss.length ∧ ∀ (j : Nat) (s : Sh) (x : D), ss[j]? = some s → ds[j]? = some x → Fit s x

def shFs (P : Program) (so : TypeId → Option (List Sh)) : Nat → List Field → Option (List Sh)
  | _, [] => some []
  | off, fd :: r =>
    if fd.offset = off then match so fd.type with
      | some a => if a.length = P.cellsOf fd.type then match shFs P so (off + a.length) r with
        | some l => some (a ++ l)
        | none => none
        else none
      | none => none
    else none

/-- The shapes of a type's cells. -/
def shOf (P : Program) : Nat → TypeId → Option (List Sh)
  | 0, _ => none
  | f + 1, t =>
    match P.underlying t with
    | some .bool => some [.bool]
    | some (.int k) => some [.int k]
    | some .string => some [.str]
    | some (.slice e) => match shOf P f e with
      | some row => if row.length = P.cellsOf e ∧ row.length ≠ 0 then some [.sl row] else none
      | none => none
    | some (.struct fs) => match shFs P (shOf P f) 0 fs.toList with
      | some l => if l.length = P.cellsOf t then some l else none
      | none => none
    | _ => none

section
variable {P : Program} {H : Type} {enc : TypeId × Value → H} {w : World}

def RdL (w : World) (cs : List Value) (ds : List D) : Prop := cs.length = ds.length ∧ ∀ (j : Nat) (v : Value) (x : D), cs[j]? = some v → ds[j]? = some x → Rd (SW w) w v x

theorem ex_list {α : Type} {Q : Nat → α → Prop} : ∀ (n : Nat), (∀ i, i < n → ∃ a, Q i a) → ∃ l : List α, l.length = n ∧ ∀ (i : Nat) (a : α), l[i]? = some a → Q i a
  | 0, _ => ⟨[], rfl, fun i a h => by simp at h⟩
  | n + 1, h => by
    obtain ⟨l, h1, h2⟩ := ex_list n fun i hi => h i (by omega)
    obtain ⟨a, ha⟩ := h n (by omega)
    refine ⟨l ++ [a], by simp [h1], fun i x hx => ?_⟩
    rw [List.getElem?_append] at hx
    split at hx
    · exact h2 i x hx
    · have : i = l.length := by
        rcases Nat.lt_or_ge (i - l.length) 1 with h3 | h3
        · omega
        · rw [List.getElem?_eq_none (by simpa using h3)] at hx; cases hx
      subst this
      simp at hx
      subst hx
      rw [h1]; exact ha

theorem FitL.append {a b : List Sh} {x y : List D} (h1 : FitL a x) (h2 : FitL b y) : FitL (a ++ b) (x ++ y) := by
  refine ⟨by simp [h1.1, h2.1], fun j s d hs hd => ?_⟩
  rw [List.getElem?_append] at hs hd
  rw [h1.1] at hd
  split at hs
  · rename_i h; rw [if_pos h] at hd; exact h1.2 j s d hs hd
  · rename_i h; rw [if_neg h] at hd; exact h2.2 _ s d hs hd

theorem RdL.append {a b : List Value} {x y : List D} (h1 : RdL w a x) (h2 : RdL w b y) : RdL w (a ++ b) (x ++ y) := by
  refine ⟨by simp [h1.1, h2.1], fun j s d hs hd => ?_⟩
  rw [List.getElem?_append] at hs hd
  rw [h1.1] at hs
  split at hd
  · rename_i h; rw [if_pos h] at hs; exact h1.2 j s d hs hd
  · rename_i h; rw [if_neg h] at hs; exact h2.2 _ s d hs hd

theorem rdL_one {v : Value} {x : D} (h : Rd (SW w) w v x) : RdL w [v] [x] := ⟨rfl, fun j v' x' h1 h2 => by
  cases j with
  | zero => simp at h1 h2; subst h1 h2; exact h
  | succ j => simp at h1⟩
theorem fitL_one {s : Sh} {x : D} (h : Fit s x) : FitL [s] [x] := ⟨rfl, fun j v' x' h1 h2 => by
  cases j with
  | zero => simp at h1 h2; subst h1 h2; exact h
  | succ j => simp at h1⟩

theorem cells_some {base : Nat} {a : Addr} {n : Nat} {cs : List Value} (h : w.cells? base a n = some cs) : cs.length = n ∧ ∀ (j : Nat) (v : Value), cs[j]? = some v → w.cell? (a.add j) = some v := by
  unfold World.cells? at h
  split at h
  · refine ⟨by simpa using mapM_some_length h, fun j v hv => ?_⟩
    have hj : j < n := by
      have h1 := mapM_some_length h
      have h2 := (List.getElem?_eq_some_iff.1 hv).1
      simp at h1; omega
    have := mapM_some_get h j j (by simp [hj])
    rw [this, hv]
  · cases h

/-- What was read has a shape, and reads as data. -/
def Got (w : World) (ss : List Sh) (cs : List Value) : Prop := ∃ ds, RdL w cs ds ∧ FitL ss ds

theorem trod_got {base : Nat} {spare : Nat → Bool} {held : Bool} : ∀ (n : Nat) (f : Nat) (t : TypeId) (ss : List Sh) (cs : List Value) (x : DataW H × List MemPlace), shOf P f t = some ss → DataW.trod enc P w base spare held n t cs = some x → Got w ss cs := by
  intro n
  induction n with
  | zero => intro f t ss cs x _ h; simp [DataW.trod] at h
  | succ n ih =>
    intro f t ss cs x hs h
    cases f with
    | zero => simp [shOf] at hs
    | succ f =>
      unfold shOf at hs
      split at hs
      · rename_i ht
        injection hs with hs; subst hs
        obtain ⟨b, rfl, _⟩ := DataW.trod_bool ht h
        exact ⟨[.bool b], rdL_one (.bool b), fitL_one (.bool b)⟩
      · rename_i k ht
        injection hs with hs; subst hs
        obtain ⟨b, rfl, _, hw⟩ := DataW.trod_int ht h
        exact ⟨[.int k b], rdL_one (.int k b), fitL_one (.int k b hw)⟩
      · rename_i ht
        injection hs with hs; subst hs
        obtain ⟨b, rfl, _, hw⟩ := DataW.trod_string ht h
        exact ⟨[.str b.data.toList], rdL_one (.str b), fitL_one (.str _ (by simpa using hw))⟩
      · rename_i e ht
        split at hs
        case h_2 => cases hs
        rename_i row hrow
        split at hs
        case isFalse => cases hs
        rename_i hsz
        obtain ⟨hsz, hz⟩ := hsz
        injection hs with hs; subst hs
        rcases DataW.trod_slice ht h with ⟨rfl, _⟩ | ⟨a, len, cap, elems, rest, n', hn, rfl, _, hb, hl, hm, hel, hat, _, _⟩
        · exact ⟨[.sl row.length []], rdL_one (.sl0 _ _ _), fitL_one (.sl row [] (Nat.zero_le _) (fun i r h => by simp at h) (fun i j r s x h => by simp at h))⟩
        · obtain rfl : n = n' := by omega
          have hget : ∀ i, i < len → ∃ r : List D, ∃ cs, w.cells? base (a.add (i * P.cellsOf e)) (P.cellsOf e) = some cs ∧ RdL w cs r ∧ FitL row r := by
            intro i hi
            have h1 := hat i hi
            have h2 : elems[i]? = some (elems[i]'(by omega)) := List.getElem?_eq_getElem (by omega)
            rw [h2, Option.bind_eq_some_iff] at h1
            obtain ⟨cs, hc, h1⟩ := h1
            obtain ⟨ds, g1, g2⟩ := ih f e row cs _ hrow h1
            exact ⟨ds, cs, hc, g1, g2⟩
          obtain ⟨rows, hrl, hrows⟩ := ex_list len hget
          refine ⟨[.sl row.length rows], rdL_one ?_, fitL_one (.sl row rows (by omega) (fun i r hr => ?_) (fun i j r s x hr hs hx => ?_))⟩
          · cases len with
            | zero =>
              have : rows = [] := List.eq_nil_of_length_eq_zero hrl
              subst this
              exact .sl0 _ _ _
            | succ m =>
              have hcell : ∀ (i j : Nat) (r : List D) (x : D), rows[i]? = some r → r[j]? = some x → ∃ v, w.cell? (a.add (i * row.length + j)) = some v ∧ Rd (SW w) w v x := by
                intro i j r x hr hx
                obtain ⟨cs, hc, g1, g2⟩ := hrows i r hr
                obtain ⟨c1, c2⟩ := cells_some hc
                have hj : j < cs.length := by have := (List.getElem?_eq_some_iff.1 hx).1; have := g1.1; omega
                have hcs : cs[j]? = some (cs[j]'hj) := List.getElem?_eq_getElem hj
                refine ⟨cs[j]'hj, ?_, g1.2 j _ x hcs hx⟩
                have := c2 j _ hcs
                rw [add_add] at this
                rw [hsz]
                exact this
              · have h0 : ∃ r, rows[0]? = some r := ⟨_, List.getElem?_eq_getElem (by omega)⟩
                obtain ⟨r0, hr0⟩ := h0
                obtain ⟨cs0, hc0, g1, g2⟩ := hrows 0 r0 hr0
                have hx0 : ∃ x, r0[0]? = some x := ⟨_, List.getElem?_eq_getElem (by rw [g2.1]; omega)⟩
                obtain ⟨x0, hx0⟩ := hx0
                obtain ⟨v0, hv0, _⟩ := hcell 0 0 r0 x0 hr0 hx0
                have hblk : a.block < w.heap.size := by have := cell_lt hv0; rwa [block_add] at this
                have := Rd.sl (S := SW w) (w := w) a cap row.length rows (fun i j => (w.cell? (a.add (i * row.length + j))).getD undef) hblk (by omega)
                  (fun i r hr => by obtain ⟨_, _, _, g2⟩ := hrows i r hr; exact g2.1)
                  (fun i j r x hr hx => by obtain ⟨v, hv, _⟩ := hcell i j r x hr hx; rw [hv]; rfl)
                  (fun i j r x hr hx => by obtain ⟨v, hv, h2⟩ := hcell i j r x hr hx; rw [hv]; exact h2)
                rw [hrl] at this
                exact this
          · obtain ⟨_, _, _, g2⟩ := hrows i r hr; exact g2.1
          · obtain ⟨_, _, _, g2⟩ := hrows i r hr; exact g2.2 j s x hs hx
      · rename_i fs ht
        split at hs
        case h_2 => cases hs
        rename_i l hl
        split at hs
        case isFalse => cases hs
        rename_i hsz
        injection hs with hs; subst hs
        obtain ⟨xs, n', hn, _, hlen, hxs, hat⟩ := DataW.trod_struct ht h
        obtain rfl : n = n' := by omega
        have key : ∀ (r : List Field) (i off : Nat) (l : List Sh), fs.toList.drop i = r → shFs P (shOf P f) off r = some l → off + l.length ≤ cs.length → Got w l ((cs.drop off).take l.length) := by
          intro r
          induction r with
          | nil =>
            intro i off l _ hl _
            simp [shFs] at hl
            subst hl
            exact ⟨[], ⟨by simp, fun j v x h => by simp at h⟩, ⟨rfl, fun j v x h => by simp at h⟩⟩
          | cons fd r ihr =>
            intro i off l hd hl hle
            unfold shFs at hl
            split at hl
            case isFalse => cases hl
            rename_i hoff
            split at hl
            case h_2 => cases hl
            rename_i a ha
            split at hl
            case isFalse => cases hl
            rename_i hasz
            split at hl
            case h_2 => cases hl
            rename_i l' hl'
            injection hl with hl; subst hl
            have hi : fs[i]? = some fd := by
              have : (fs.toList.drop i)[0]? = some fd := by rw [hd]; rfl
              rw [List.getElem?_drop] at this
              simpa using this
            have h1 := hat i fd hi
            have hi' : i < xs.length := by
              have := (Array.getElem?_eq_some_iff.1 hi).1
              omega
            rw [List.getElem?_eq_getElem hi', hoff, ← hasz] at h1
            have g1 := ih f fd.type a _ _ ha h1
            have g2 := ihr (i + 1) (off + a.length) l' (by rw [← List.drop_drop, hd]; rfl) hl' (by simp at hle; omega)
            obtain ⟨d1, p1, q1⟩ := g1
            obtain ⟨d2, p2, q2⟩ := g2
            refine ⟨d1 ++ d2, ?_, q1.append q2⟩
            have hsplit : (cs.drop off).take (a ++ l').length = (cs.drop off).take a.length ++ (cs.drop (off + a.length)).take l'.length := by
              rw [List.length_append, List.take_add, List.drop_drop]
            rw [hsplit]
            exact p1.append p2
        have := key fs.toList 0 0 l rfl hl (by omega)
        rwa [List.drop_zero, List.take_of_length_le (by omega)] at this
      · cases hs

/-! the arguments -/

inductive ASh where
  | one (s : Sh)
  | ag (ss : List Sh)

def ashOf (P : Program) (t : TypeId) : Option ASh :=
  match P.underlying t with
  | some (.struct _) => match shOf P 9 t with
    | some l => some (.ag l)
    | none => none
  | _ => match shOf P 9 t with
    | some [s] => some (.one s)
    | _ => none

def ashL (P : Program) : List TypeId → Option (List ASh)
  | [] => some []
  | t :: r => match ashOf P t with
    | some a => match ashL P r with
      | some l => some (a :: l)
      | none => none
    | none => none

def AFit : ASh → AV → Prop
  | .one s, av => ∃ x, av = .d x ∧ Fit s x
  | .ag ss, av => ∃ ds : List D, av = .ag (ds.map .d) ∧ FitL ss ds

def AFits : List ASh → List AV → Prop
  | [], [] => True
  | a :: as, v :: vs => AFit a v ∧ AFits as vs
  | _, _ => False

theorem okWide_scalar {r : Reach} {base : Nat} {t : TypeId} {v : Value} {f : Nat} {ss : List Sh} (hs : shOf P f t = some ss) (hn : ∀ fs, P.underlying t ≠ some (.struct fs)) (h : Value.okWide P w r base t v) : v.cells.toList = [v] := by
  cases f with
  | zero => simp [shOf] at hs
  | succ f =>
    unfold shOf at hs
    split at hs
    · rename_i ht; obtain ⟨b, rfl⟩ := WideShapes.okWide_bool ht h; rfl
    · rename_i k ht; obtain ⟨b, rfl⟩ := WideShapes.okWide_int ht h; rfl
    · rename_i ht; obtain ⟨b, rfl⟩ := WideShapes.okWide_string ht h; rfl
    · rename_i e ht; obtain ⟨a, l, c, rfl⟩ := WideShapes.okWide_slice ht h; rfl
    · rename_i fs ht; exact absurd ht (hn fs)
    · cases hs

theorem arg_got {r : Reach} {base base' : Nat} {spare : Nat → Bool} {held : Bool} {t : TypeId} {v : Value} {d : DataW H} {ps : List MemPlace} {a : ASh} (ha : ashOf P t = some a) (hv : Value.okWide P w r base t v) (h : DataW.Trod enc P w base' spare held t v d ps) :
    ∃ av, RdA (fun _ => none) (SW w) (look ([] : List (Nat × Ob))) w tm0 v av ∧ AFit a av := by
  obtain ⟨n, h⟩ := h
  unfold ashOf at ha
  split at ha
  · rename_i fs ht
    split at ha
    case h_2 => cases ha
    rename_i l hl
    injection ha with ha; subst ha
    obtain ⟨ds, h1, h2⟩ := trod_got n 9 t l _ _ hl h
    simp only [Value.okWide, ht] at hv
    obtain ⟨cs, rfl, hsz, _⟩ := hv
    refine ⟨.ag (ds.map .d), .ag cs _ (by simpa [Value.cells] using h1.1) fun i x hx => ?_, ds, rfl, h2⟩
    rw [List.getElem?_map, Option.map_eq_some_iff] at hx
    obtain ⟨y, hy, rfl⟩ := hx
    have hi : i < cs.size := by
      have g1 := (List.getElem?_eq_some_iff.1 hy).1
      have g2 := h1.1
      simp [Value.cells] at g2
      omega
    have hc : cs.getD i undef = cs[i] := by simp [Array.getD, hi]
    rw [hc]
    exact .d _ _ (h1.2 i _ y (by simp [Value.cells, hi]) hy)
  · rename_i hn
    split at ha
    case h_2 => cases ha
    rename_i s hs
    injection ha with ha; subst ha
    have hc := okWide_scalar hs hn hv
    obtain ⟨ds, h1, h2⟩ := trod_got n 9 t _ _ _ hs h
    rw [hc] at h1
    obtain ⟨x, rfl⟩ : ∃ x, ds = [x] := by
      have := h1.1
      match ds, this with
      | [x], _ => exact ⟨x, rfl⟩
    exact ⟨.d x, .d _ _ (h1.2 0 v x rfl rfl), x, rfl, h2.2 0 s x rfl rfl⟩

theorem args_got {r : Reach} {base base' : Nat} {spare : Nat → Bool} {held : Bool} : ∀ (ts : List TypeId) (vs : List Value) (ds : List (DataW H)) (ps : List MemPlace) (as : List ASh), ashL P ts = some as →
    (∀ (j : Nat) t v, ts[j]? = some t → vs[j]? = some v → Value.okWide P w r base t v) → DataW.TrodAll enc P w base' spare held ts vs ds ps →
    ∃ avs, ArgsRd (fun _ => none) (SW w) (look ([] : List (Nat × Ob))) w vs avs ∧ AFits as avs
  | [], vs, ds, ps, as, has, hv, h => by
    simp [ashL] at has
    subst has
    cases vs with
    | nil => exact ⟨[], argsRd_nil, trivial⟩
    | cons v vs => cases ds <;> simp [DataW.TrodAll] at h
  | t :: ts, vs, ds, ps, as, has, hv, h => by
    obtain ⟨v, vs', d, ds', p, q, rfl, rfl, rfl, h1, h2⟩ := ChangeShapes.trodAll_cons h
    unfold ashL at has
    split at has
    case h_2 => cases has
    rename_i a ha
    split at has
    case h_2 => cases has
    rename_i as' has'
    injection has with has
    subst has
    obtain ⟨av, g1, g2⟩ := arg_got ha (hv 0 t v rfl rfl) h1
    obtain ⟨avs, g3, g4⟩ := args_got ts vs' ds' q as' has' (fun j t v h1 h2 => hv (j + 1) t v (by simpa using h1) (by simpa using h2)) h2
    exact ⟨av :: avs, argsRd_cons g1 g3, g2, g4⟩

theorem args_stay {W W' : World} (hl : laidOutB P = true) (hb : RowKit.Below W.heap.size W W') : ∀ (ts : List TypeId) (vs : List Value) (ds : List (DataW H)) (ps : List MemPlace), (ts.all fun t => P.readableRec t && decide (t < P.types.size)) = true →
    DataW.TrodAll enc P W 0 (fun _ => true) true ts vs ds ps → ∃ pa, DataW.TrodAll enc P W' 0 (fun b => decide (b < W.heap.size)) true ts vs ds pa
  | [], vs, ds, ps, _, h => by
    cases vs <;> cases ds <;> simp [DataW.TrodAll] at h
    exact ⟨[], rfl⟩
  | t :: ts, vs, ds, ps, ht, h => by
    obtain ⟨v, vs', d, ds', p, q, rfl, rfl, rfl, h1, h2⟩ := ChangeShapes.trodAll_cons h
    simp only [List.all_cons, Bool.and_eq_true, decide_eq_true_eq] at ht
    obtain ⟨pa, g⟩ := args_stay hl hb ts vs' ds' q ht.2 h2
    have hlt : ∀ x ∈ p, x.block < W.heap.size := by obtain ⟨m, hm⟩ := h1; exact DataW.trod_lt m _ _ _ hm
    exact ⟨p ++ pa, p, pa, RowKit.Below.trod hl ht.1.1 ht.1.2 h1 hb hlt, g, rfl⟩

theorem trodAll_length {base : Nat} {spare : Nat → Bool} {held : Bool} : ∀ (ts : List TypeId) (vs : List Value) (ds : List (DataW H)) (ps : List MemPlace), DataW.TrodAll enc P w base spare held ts vs ds ps → vs.length = ts.length ∧ ds.length = ts.length
  | [], vs, ds, ps, h => by
    cases vs <;> cases ds <;> simp [DataW.TrodAll] at h
    exact ⟨rfl, rfl⟩
  | t :: ts, vs, ds, ps, h => by
    obtain ⟨v, vs', d, ds', p, q, rfl, rfl, rfl, h1, h2⟩ := ChangeShapes.trodAll_cons h
    have := trodAll_length ts vs' ds' q h2
    simp [this.1, this.2]

/-- The contract of a law: the walk, put into the row's words. -/
theorem law_contract {fn : Func} {f : FuncId} {s : ChangeSpec} {as : List ASh} {tb : TypeId} (laid : laidOutB P = true)
    (hvars : s.vars = []) (hpar : (fn.params.toList.all fun t => P.readableRec t && decide (t < P.types.size)) = true) (has : ashL P fn.params.toList = some as)
    (hres : fn.resultTypes = #[tb]) (hb : P.underlying tb = some .bool)
    {W : World} {base : Nat} {args : Array Value} {ds gs : List (DataW H)} {before : List MemPlace}
    (hval : ∀ (j : Nat) t v, fn.params[j]? = some t → args[j]? = some v → Value.okWide P W .any base t v)
    (hW : DataW.Whole enc P fn.params.toList s.vars false W args.toList ds gs before)
    (hspec : ∀ ds : List (DataW H), ds.length = fn.params.size → s.fn H ds = { results := [.lit (.bool true)], args := ds })
    (walk : ∀ avs, AFits as avs → ArgsRd (fun _ => none) (SW W) (look ([] : List (Nat × Ob))) W args.toList avs → Calls P f args W fun e w' => e = .returned (.bool true) ∧ RowKit.Below W.heap.size W w') :
    Calls P f args W fun e W' => ∃ v, e = .returned v ∧ s.post enc P fn false true false false W args v W' := by
  have hW' := hW
  obtain ⟨p, q, hA, hV, rfl, hfz, hnd⟩ := hW
  obtain ⟨avs, g1, g2⟩ := args_got (r := .any) (base := base) _ _ _ _ as has (fun j t v h1 h2 => hval j t v (by simpa using h1) (by simpa using h2)) hA
  refine (walk avs g2 g1).mono fun e W' ⟨he, bel⟩ => ?_
  subst he
  obtain ⟨pa, hpa⟩ := args_stay laid bel _ _ _ _ hpar hA
  rw [hvars] at hV
  obtain ⟨rfl, rfl⟩ := ChangeShapes.trodVars_none hV
  have hlen := (trodAll_length _ _ _ _ hA).2
  have hsp := hspec ds (by simpa using hlen)
  refine ⟨_, rfl, ds, [], _, [], pa, [], hW', ?_, ?_, ?_, bel.frame _, fun h => by cases h⟩
  · rw [List.append_nil, hsp, hres]
    exact ChangeShapes.trodAll_mk1 (RowKit.shut_bool hb _)
  · rw [List.append_nil, hsp]; exact hpa
  · rw [List.append_nil, hsp, hvars]; rfl

end
end Go.Vx
