/- Part of a proof: texts TmNest TmLine TrydShelf TmNumber TmArc TmFormat Vfref1 Decimal RtA TmCall Vt Vpref1 Decimal TmRefA TmTail TmRefB TmRefC TmRefD TmRefE Vfwords class Vfwords isWord Vfstrings Builder. No conditions of their own. -/
import Derived.Deep.AppendLies
import Derived.Laws.BytesString
import Derived.Laws.Rows
import Derived.OneCell
import Derived.Lib.LaidTab
import Derived.Test.YtdjncnnhobmhaaaDoorProg
import Derived.WalkKit
import Derived.Orders
import Derived.Shelf.Strings.Builder1
import Derived.Shelf.Small.Wraps
import Derived.Shelf.Strings.BuilderF
import Derived.Shelf.Strings.BuilderK
import Derived.Shelf.Strconv.Itoa0
import Derived.Shelf.Strconv.Itoa1
import Derived.Shelf.LaysM
import Derived.Shelf.Strconv.Itoa2
import Derived.Shelf.Strconv.Itoa3
import Derived.Shelf.Strings.Search1
import Derived.Shelf.Strings.Search2
import Derived.Shelf.Strings.Search3
import Derived.Shelf.Strings.Cut
import Derived.Shelf.Strings.Shaped
import Derived.Shelf.Strings.Prefix
import Derived.Shelf.Unicode.DecodeSlow
import Derived.Deep.RegionLaw
import Derived.Deep.DrawnRows
import Derived.LoopTactic
import Derived.Test.YtdjncnnhobmhaaaDoorTC
import Derived.Lib.ItoaNum
import Derived.StillTail
import Derived.OrdersHeld
import Derived.StillTailTactics
import Derived.Deep.RegionHeld3
/-
  Lists of words that the call itself has made, and that grow.
-/
set_option linter.unusedVariables false
namespace Go.Proofs

def sV (s : List UInt8) : Value := .string ⟨⟨s⟩⟩

/-- v is a slice of the call's own; each of its elements is a slice of strings of the call's own; no two lie in one row. -/
structure Nest (w : World) (B : Nat) (v : Value) (hd : List Value) (ll : List (List (List UInt8))) : Prop where
  row : w.ownsRow B 60 1 v ll.length hd
  each : ∀ (i : Nat) (h : Value) (l : List (List UInt8)), hd[i]? = some h → ll[i]? = some l → w.ownsRow B 9 1 h l.length (l.map sV)
  outer : ∀ (i : Nat) (h : Value) (b : Nat), hd[i]? = some h → h.ownBlock = some b → v.ownBlock ≠ some b
  apart : ∀ (i j : Nat) (h h' : Value) (b : Nat), hd[i]? = some h → hd[j]? = some h' → h.ownBlock = some b → h'.ownBlock = some b → i = j

theorem Nest.len {w : World} {B : Nat} {v : Value} {hd : List Value} {ll : List (List (List UInt8))} (h : Nest w B v hd ll) : hd.length = ll.length := by have := h.row.1; omega

theorem Nest.nil (w : World) (B : Nat) : Nest w B (.slice none 0 0) [] [] := ⟨World.ownsRow_nil w B 60 1, by simp, by simp, by simp⟩

/-- A world that has grown, elsewhere. -/
theorem Nest.kept {w w' : World} {B : Nat} {v : Value} {hd : List Value} {ll : List (List (List UInt8))} {row : Option Nat} (h : Nest w B v hd ll) (hg : w.grownBy w' row)
    (h1 : v.ownBlock = none ∨ v.ownBlock ≠ row) (h2 : ∀ x ∈ hd, x.ownBlock = none ∨ x.ownBlock ≠ row) : Nest w' B v hd ll :=
  ⟨h.row.kept hg h1, fun i x l hx hl => (h.each i x l hx hl).kept hg (h2 x (List.mem_of_getElem? hx)), h.outer, h.apart⟩

theorem Nest.blk {w : World} {B : Nat} {v : Value} {hd : List Value} {ll : List (List (List UInt8))} (h : Nest w B v hd ll) {i : Nat} {x : Value} {b : Nat} (hx : hd[i]? = some x) (hb : x.ownBlock = some b) : B ≤ b ∧ b < w.heap.size := by
  have hi : i < ll.length := by rw [← h.len]; exact (List.getElem?_eq_some_iff.1 hx).1
  exact (h.each i x ll[i] hx (List.getElem?_eq_getElem hi)).lt b hb

/-- One line more: the outer slice has been appended to; the new line lies by itself. -/
theorem Nest.push {w w' : World} {B : Nat} {v v' u : Value} {hd : List Value} {ll : List (List (List UInt8))} {l : List (List UInt8)} {g H : Nat} (h : Nest w B v hd ll)
    (hu : w.ownsRow B 9 1 u l.length (l.map sV)) (hun : ∀ b, u.ownBlock = some b → v.ownBlock ≠ some b ∧ b < H ∧ ∀ x ∈ hd, x.ownBlock ≠ some b)
    (hrow : w'.ownsRow B 60 1 v' (ll.length + 1) (hd ++ [u])) (hg : w.grownBy w' v.ownBlock) (hv' : v'.ownBlock = some g) (hat : v.ownBlock = some g ∨ g = H) (hH : w.heap.size = H) : Nest w' B v' (hd ++ [u]) (ll ++ [l]) := by
  have hvn : ∀ x ∈ hd, x.ownBlock = none ∨ x.ownBlock ≠ v.ownBlock := by
    intro x hx
    obtain ⟨i, hi⟩ := List.getElem?_of_mem hx
    cases hb : x.ownBlock with
    | none => exact .inl rfl
    | some b => exact .inr fun e => h.outer i x b hi hb e.symm
  have huk : w'.ownsRow B 9 1 u l.length (l.map sV) := by
    refine hu.kept hg ?_
    cases hb : u.ownBlock with
    | none => exact .inl rfl
    | some b => exact .inr fun e => (hun b hb).1 e.symm
  have hgo : ∀ (i : Nat) (x : Value) (b : Nat), hd[i]? = some x → x.ownBlock = some b → b ≠ g := by
    intro i x b hx hb e
    subst e
    rcases hat with h1 | h1
    · exact h.outer i x b hx hb h1
    · have := (h.blk hx hb).2; omega
  have hlen := h.len
  refine ⟨by simpa using hrow, fun i x k hx hk => ?_, fun i x b hx hb => ?_, fun i j x y b hx hy hbx hby => ?_⟩
  · by_cases hi : i < hd.length
    · rw [List.getElem?_append_left hi] at hx
      rw [List.getElem?_append_left (by omega)] at hk
      exact (h.each i x k hx hk).kept hg (hvn x (List.mem_of_getElem? hx))
    · rw [List.getElem?_append_right (by omega)] at hx
      rw [List.getElem?_append_right (by omega), ← hlen] at hk
      cases hm : i - hd.length with
      | zero =>
        simp only [hm, List.getElem?_cons_zero, Option.some.injEq] at hx hk
        subst hx hk
        exact huk
      | succ n => simp [hm] at hx
  · rw [hv']
    intro e
    cases e
    by_cases hi : i < hd.length
    · rw [List.getElem?_append_left hi] at hx
      exact hgo i x g hx hb rfl
    · rw [List.getElem?_append_right (by omega)] at hx
      cases hm : i - hd.length with
      | zero =>
        simp only [hm, List.getElem?_cons_zero, Option.some.injEq] at hx
        subst hx
        rcases hat with h1 | h1
        · exact (hun g hb).1 h1
        · have := (hun g hb).2.1; omega
      | succ n => simp [hm] at hx
  · have key : ∀ (i j : Nat) (x y : Value), i < hd.length → ¬ j < hd.length → (hd ++ [u])[i]? = some x → (hd ++ [u])[j]? = some y → x.ownBlock = some b → y.ownBlock = some b → False := by
      intro i j x y hi hj hx hy hbx hby
      rw [List.getElem?_append_left hi] at hx
      rw [List.getElem?_append_right (by omega)] at hy
      cases hm : j - hd.length with
      | zero =>
        simp only [hm, List.getElem?_cons_zero, Option.some.injEq] at hy
        subst hy
        exact (hun b hby).2.2 x (List.mem_of_getElem? hx) hbx
      | succ n => simp [hm] at hy
    by_cases hi : i < hd.length
    · by_cases hj : j < hd.length
      · rw [List.getElem?_append_left hi] at hx
        rw [List.getElem?_append_left hj] at hy
        exact h.apart i j x y b hx hy hbx hby
      · exact (key i j x y hi hj hx hy hbx hby).elim
    · by_cases hj : j < hd.length
      · exact (key j i y x hj hi hy hx hby hbx).elim
      · have h1 := (List.getElem?_eq_some_iff.1 hx).1
        have h2 := (List.getElem?_eq_some_iff.1 hy).1
        simp at h1 h2
        omega

theorem ownsRow_set {w : World} {base e n : Nat} {v : Value} {xs : List Value} {b i : Nat} (h : w.ownsRow base e 1 v n xs) (hb : v.ownBlock = some b) (hi : i < n) (u : Value) : (w.setCell ⟨b, i, none⟩ u).ownsRow base e 1 v n (xs.set i u) := by
  obtain ⟨h1, h2⟩ := h
  refine ⟨by simpa using h1, ?_⟩
  rcases h2 with ⟨rfl, rfl⟩ | ⟨g, cap, cur, rfl, hg, hh, hn, hc, hs, ht⟩
  · omega
  · simp [Value.ownBlock] at hb
    subst hb
    refine .inr ⟨g, cap, _, rfl, hg, heap_setCell_same w g i cur e u hh, hn, hc, by simpa using hs, ?_⟩
    rw [← ht]
    simp [List.take_set]

/-- One word more in a line. -/
theorem Nest.grow {w w1 : World} {B : Nat} {v x x' : Value} {hd : List Value} {ll : List (List (List UInt8))} {l : List (List UInt8)} {s : List UInt8} {g H i vb : Nat} (h : Nest w B v hd ll)
    (hx : hd[i]? = some x) (hl : ll[i]? = some l) (hrow : w1.ownsRow B 9 1 x' (l.length + 1) (l.map sV ++ [sV s])) (hg : w.grownBy w1 x.ownBlock) (hx' : x'.ownBlock = some g) (hat : x.ownBlock = some g ∨ g = H) (hH : w.heap.size = H)
    (hv : v.ownBlock = some vb) : Nest (w1.setCell ⟨vb, i, none⟩ x') B v (hd.set i x') (ll.set i (l ++ [s])) := by
  have hi : i < ll.length := (List.getElem?_eq_some_iff.1 hl).1
  have hvlt := (h.row.lt vb hv).2
  have hgv : g ≠ vb := by
    intro e
    subst e
    rcases hat with h1 | h1
    · exact h.outer i x g hx h1 hv
    · omega
  have hrow1 : w1.ownsRow B 60 1 v ll.length hd := by
    refine h.row.kept hg (.inr fun e => ?_)
    rw [hv] at e
    exact h.outer i x vb hx e.symm hv
  have hne : ∀ (j : Nat) (y : Value) (b : Nat), hd[j]? = some y → y.ownBlock = some b → j ≠ i → b ≠ g := by
    intro j y b hy hb hji e
    subst e
    rcases hat with h1 | h1
    · exact hji (h.apart j i y x b hy hx hb h1)
    · have := (h.blk hy hb).2; omega
  refine ⟨?_, fun j y k hy hk => ?_, fun j y b hy hb => ?_, fun j k y z b hy hz hby hbz => ?_⟩
  · rw [List.length_set]
    exact ownsRow_set hrow1 hv hi x'
  · rw [List.getElem?_set] at hy hk
    by_cases e : i = j
    · subst e
      have h1 : i < hd.length := by rw [h.len]; exact hi
      simp only [if_true, h1, hi, Option.some.injEq] at hy hk
      subst hy hk
      refine ownsRow_setCell_other (by simpa using hrow) ?_ _
      rw [hx']
      intro e
      exact hgv (Option.some.inj e)
    · rw [if_neg e] at hy hk
      refine ownsRow_setCell_other ((h.each j y k hy hk).kept hg ?_) ?_ _
      · cases hb : y.ownBlock with
        | none => exact .inl rfl
        | some b => exact .inr fun e2 => e (h.apart j i y x b hy hx hb e2.symm).symm
      · intro e2
        exact h.outer j y vb hy e2 hv
  · rw [List.getElem?_set] at hy
    by_cases e : i = j
    · subst e
      have h1 : i < hd.length := by rw [h.len]; exact hi
      simp only [if_true, h1, Option.some.injEq] at hy
      subst hy
      rw [hx'] at hb
      cases hb
      rw [hv]
      intro e2
      exact hgv (Option.some.inj e2).symm
    · rw [if_neg e] at hy
      exact h.outer j y b hy hb
  · rw [List.getElem?_set] at hy hz
    have h1 : i < hd.length := by rw [h.len]; exact hi
    by_cases e : i = j
    · by_cases e2 : i = k
      · omega
      · subst e
        rw [if_neg e2] at hz
        simp only [if_true, h1, Option.some.injEq] at hy
        subst hy
        rw [hx'] at hby
        cases hby
        exact absurd rfl (hne k z g hz hbz (fun h => e2 h.symm))
    · rw [if_neg e] at hy
      by_cases e2 : i = k
      · subst e2
        simp only [if_true, h1, Option.some.injEq] at hz
        subst hz
        rw [hx'] at hbz
        cases hbz
        exact absurd rfl (hne j y g hy hby (fun h => e h.symm))
      · rw [if_neg e2] at hz
        exact h.apart j k y z b hy hz hby hbz

/-- The blocks of a nest. -/
def NB (v : Value) (hd : List Value) (b : Nat) : Prop := v.ownBlock = some b ∨ ∃ x ∈ hd, x.ownBlock = some b

/-- The blocks of Ex are as they were. -/
structure FrE (Ex : Nat → Prop) (w w' : World) : Prop where
  os : w'.os = w.os
  tape : w'.tape = w.tape
  output : w'.output = w.output
  size : w.heap.size ≤ w'.heap.size
  block : ∀ b, Ex b → w'.heap[b]? = w.heap[b]?
theorem FrE.refl (Ex : Nat → Prop) (w : World) : FrE Ex w w := ⟨rfl, rfl, rfl, Nat.le_refl _, fun _ _ => rfl⟩
theorem FrE.trans {Ex : Nat → Prop} {a b c : World} (h : FrE Ex a b) (k : FrE Ex b c) : FrE Ex a c :=
  ⟨k.os.trans h.os, k.tape.trans h.tape, k.output.trans h.output, Nat.le_trans h.size k.size, fun i hi => (k.block i hi).trans (h.block i hi)⟩
theorem FrE.mono {Ex Ex' : Nat → Prop} {a b : World} (h : FrE Ex a b) (hx : ∀ b, Ex' b → Ex b) : FrE Ex' a b := ⟨h.os, h.tape, h.output, h.size, fun b hb => h.block b (hx b hb)⟩

theorem tab_keep {P : Program} {w w' : World} {name : String} {k : IntKind} {zs : List Int} (h : Lib.TabIs P w name k zs) (hk : ∀ g, P.globalNamed name = some g → w'.heap[g]? = w.heap[g]?) : Lib.TabIs P w' name k zs := by
  unfold Lib.TabIs World.var? at *
  cases hg : P.globalNamed name with
  | none => rw [hg] at h; simp at h
  | some g => rw [hg] at h; simp only [Option.bind_some] at h ⊢; rw [hk g hg]; exact h

/-- The writer at p: its lines, and whether it has failed; the blocks of Ex are none of its own. -/
def Wr (w : World) (p : Nat) (Ex : Nat → Prop) (ll : List (List (List UInt8))) (fl : Bool) : Prop :=
  ∃ v hd, w.heap[p]? = some (.cells #[v, .bool fl] 45 (0, 0)) ∧ Nest w 0 v hd ll ∧ (∀ b, NB v hd b → b ≠ p ∧ ¬ Ex b) ∧ ¬ Ex p ∧ ∀ b, Ex b → b < w.heap.size

theorem Wr.mono {w : World} {p : Nat} {Ex Ex' : Nat → Prop} {ll : List (List (List UInt8))} {fl : Bool} (h : Wr w p Ex ll fl) (hx : ∀ b, Ex' b → Ex b) : Wr w p Ex' ll fl := by
  obtain ⟨v, hd, h1, h2, h3, h4, h5⟩ := h
  exact ⟨v, hd, h1, h2, fun b hb => ⟨(h3 b hb).1, fun he => (h3 b hb).2 (hx b he)⟩, fun he => h4 (hx p he), fun b hb => h5 b (hx b hb)⟩

/-- A new block, that is the writer's not. -/
theorem Wr.alloc {w : World} {p : Nat} {Ex : Nat → Prop} {ll : List (List (List UInt8))} {fl : Bool} (h : Wr w p Ex ll fl) (o : Obj) : Wr (w.alloc o) p (fun b => Ex b ∨ b = w.heap.size) ll fl := by
  obtain ⟨v, hd, h1, h2, h3, h4, h5⟩ := h
  have hp : p < w.heap.size := (Array.getElem?_eq_some_iff.1 h1).1
  have hlt : ∀ b, NB v hd b → b < w.heap.size := by
    rintro b (hb | ⟨x, hx, hb⟩)
    · exact (h2.row.lt b hb).2
    · obtain ⟨i, hi⟩ := List.getElem?_of_mem hx
      exact (h2.blk hi hb).2
  have hold : (w.alloc o).heap[p]? = w.heap[p]? := by first | exact heap_alloc_old w o p hp | exact heap_alloc_old w o hp
  refine ⟨v, hd, hold.trans h1, h2.kept (World.grownBy_alloc w o none) (Classical.em _) (fun _ _ => Classical.em _), fun b hb => ⟨(h3 b hb).1, ?_⟩, ?_, ?_⟩
  · rintro (he | he)
    · exact (h3 b hb).2 he
    · have := hlt b hb; omega
  · rintro (he | he)
    · exact h4 he
    · omega
  · rintro b (he | he)
    · have := h5 b he; simp; omega
    · simp; omega

/-- A store into a block of Ex. -/
theorem Wr.setCell {w : World} {p : Nat} {Ex : Nat → Prop} {ll : List (List (List UInt8))} {fl : Bool} (h : Wr w p Ex ll fl) {a : Addr} (ha : Ex a.block) (u : Value) : Wr (w.setCell a u) p Ex ll fl := by
  obtain ⟨v, hd, h1, h2, h3, h4, h5⟩ := h
  have hpa : p ≠ a.block := fun e => h4 (e ▸ ha)
  refine ⟨v, hd, (heap_setCell_other w a p u hpa).trans h1, h2.kept (row := some a.block) ⟨rfl, rfl, rfl, by simp, fun k _ hk => heap_setCell_other w a k u (fun e => hk (by rw [e]))⟩ ?_ ?_, h3, h4, fun b hb => by have := h5 b hb; simpa using this⟩
  · exact .inr fun e => (h3 _ (.inl e)).2 ha
  · exact fun x hx => .inr fun e => (h3 _ (.inr ⟨x, hx, e⟩)).2 ha

theorem number_end {w wa W2 : World} {p vb cap g c2 : Nat} {Ex : Nat → Prop} {ll : List (List (List UInt8))} {l : List (List UInt8)} {s : List UInt8} {fl : Bool} {hd : List Value} {x : Value}
    (hp : w.heap[p]? = some (.cells #[.slice (some ⟨vb, 0, none⟩) (ll ++ [l]).length cap, .bool fl] 45 (0, 0))) (hN : Nest w 0 (.slice (some ⟨vb, 0, none⟩) (ll ++ [l]).length cap) hd (ll ++ [l]))
    (hB : ∀ b, NB (.slice (some ⟨vb, 0, none⟩) (ll ++ [l]).length cap) hd b → b ≠ p ∧ ¬ Ex b) (hpE : ¬ Ex p) (hE : ∀ b, Ex b → b < w.heap.size)
    (hx : hd[ll.length]? = some x) (hg2 : w.grownBy wa none) (hown : W2.ownsRow 0 9 1 (.slice (some ⟨g, 0, none⟩) (l.length + 1) c2) (l.length + 1) (l.map sV ++ [sV s])) (hgrow : wa.grownBy W2 x.ownBlock)
    (hat : x.ownBlock = some g ∨ g = wa.heap.size) : Wr (W2.setCell ⟨vb, ll.length, none⟩ (.slice (some ⟨g, 0, none⟩) (l.length + 1) c2)) p Ex (ll ++ [l ++ [s]]) fl ∧ FrE Ex w (W2.setCell ⟨vb, ll.length, none⟩ (.slice (some ⟨g, 0, none⟩) (l.length + 1) c2)) := by
  have hN2 := hN.kept hg2 (Classical.em _) (fun _ _ => Classical.em _)
  have hs2 := hg2.size
  have hs3 := hgrow.size
  have hplt : p < w.heap.size := (Array.getElem?_eq_some_iff.1 hp).1
  have hvb := hB vb (.inl rfl)
  have hxb : ∀ b, x.ownBlock = some b → b ≠ p ∧ ¬ Ex b := fun b hb => hB b (.inr ⟨x, List.mem_of_getElem? hx, hb⟩)
  have hlow : ∀ b, b < w.heap.size → b ≠ vb → x.ownBlock ≠ some b → (W2.setCell ⟨vb, ll.length, none⟩ (.slice (some ⟨g, 0, none⟩) (l.length + 1) c2)).heap[b]? = w.heap[b]? := by
    intro b hb h1 h2
    rw [heap_setCell_other _ _ _ _ h1, hgrow.block b (by omega) (fun e => h2 e.symm), hg2.block b hb (by simp)]
  have hset : (ll ++ [l]).set ll.length (l ++ [s]) = ll ++ [l ++ [s]] := by
    rw [List.set_append_right _ _ (Nat.le_refl _)]
    simp
  have hG := hN2.grow (i := ll.length) (x' := .slice (some ⟨g, 0, none⟩) (l.length + 1) c2) hx (by simp) hown hgrow rfl hat rfl (vb := vb) rfl
  rw [hset] at hG
  refine ⟨⟨_, _, (hlow p hplt (fun e => hvb.1 e.symm) (fun e => (hxb p e).1 rfl)).trans hp, hG, ?_, hpE, fun b hb => by have := hE b hb; simp; omega⟩, ⟨hgrow.os.trans hg2.os, hgrow.tape.trans hg2.tape, hgrow.output.trans hg2.output, by simp; omega, fun b hb => ?_⟩⟩
  · rintro b (hb | ⟨y, hy, hb⟩)
    · exact hB b (.inl hb)
    · rcases List.mem_or_eq_of_mem_set hy with hy | rfl
      · exact hB b (.inr ⟨y, hy, hb⟩)
      · simp only [Value.ownBlock, Option.some.injEq] at hb
        subst hb
        rcases hat with h1 | h1
        · exact hxb g h1
        · refine ⟨by omega, fun he => ?_⟩
          have := hE g he
          omega
  · refine hlow b (hE b hb) (fun e => hvb.2 (e ▸ hb)) (fun e => (hxb b e).2 hb)
end Go.Proofs
/-
  The writer's line.
-/
set_option linter.unusedVariables false
namespace Go.Proofs
open Go.RowKit

theorem two_alloc (w : World) (o1 o2 : Obj) : ((w.alloc o1).alloc o2).heap.size = w.heap.size + 2 ∧ (∀ k, k < w.heap.size → ((w.alloc o1).alloc o2).heap[k]? = w.heap[k]?) ∧
    ((w.alloc o1).alloc o2).heap[w.heap.size]? = some o1 ∧ ((w.alloc o1).alloc o2).heap[w.heap.size + 1]? = some o2 := by
  have e : (w.alloc o1).heap.size = w.heap.size + 1 := by simp
  refine ⟨by simp, fun k hk => ?_, ?_, ?_⟩
  · rw [heap_alloc_old (w.alloc o1) o2 (by omega), heap_alloc_old w o1 hk]
  · rw [heap_alloc_old (w.alloc o1) o2 (by omega)]
    exact heap_alloc_new w o1
  · rw [← e]
    exact heap_alloc_new (w.alloc o1) o2

set_option maxHeartbeats 4000000 in
set_option maxRecDepth 100000 in
theorem Tryd.line_calls (w : World) (p : Nat) (Ex : Nat → Prop) (ll : List (List (List UInt8))) (fl : Bool) (s : List UInt8) (h : Wr w p Ex ll fl) (hn : ll.length ≤ 100000000000) :
    Calls Tryd.prog 13 #[.pointer (some ⟨p, 0, none⟩), .string ⟨⟨s⟩⟩] w fun e w' => e = .returned (.tuple #[]) ∧ Wr w' p Ex (ll ++ [[s]]) fl ∧ FrE Ex w w' := by
  obtain ⟨v, hd, hp, hN, hB, hpE, hE⟩ := h
  obtain ⟨i0, hi, hz0⟩ := Option.map_eq_some_iff.1 (show (Tryd.prog.info? 60).map (fun i => (i.zero, i.size, i.bytes)) = some (some (.slice none 0 0), 1, 24) by kernel_rfl)
  obtain ⟨hz, hz1⟩ := Prod.mk.inj hz0
  obtain ⟨hz1, hz2⟩ := Prod.mk.inj hz1
  have c0 : w.cell? ⟨p, 0, none⟩ = some v := by simp [World.cell?, hp]
  have f0 : w.frozen? ⟨p, 0, none⟩ = false := by simp [World.frozen?, hp]
  have hplt : p < w.heap.size := (Array.getElem?_eq_some_iff.1 hp).1
  go_enter Tryd.func13, Tryd.ntmps13
  obtain ⟨e1, e2, e3, e4⟩ := two_alloc w (.cells #[.string ⟨⟨s⟩⟩] 9) (.cells #[.slice (some ⟨w.heap.size, 0, none⟩) 1 1] 60)
  go_wp2_with (at_builtin; refine wpList_append_lies _ rfl _ _ 43 rfl 0 60 i0 (.slice none 0 0) 1 24 Tryd.underlying43 hi hz hz1 hz2 rfl (by decide) v ll.length hd rfl ?own ⟨w.heap.size + 1, 0, none⟩ 1 1 [.slice (some ⟨w.heap.size, 0, none⟩) 1 1] rfl rfl ?news ?one (by decide) ?b1 ?b2 ?base _ rfl ?_)
  case own => exact (hN.row.alloc _).alloc _
  case news =>
    intro j u hj
    cases j with
    | zero =>
      simp only [List.getElem?_cons_zero, Option.some.injEq] at hj
      subst hj
      rw [show ((⟨w.heap.size + 1, 0, none⟩ : Addr).add 0) = ⟨w.heap.size + 1, 0, none⟩ from rfl]
      unfold World.cell?
      simp only [e4]
      rfl
    | succ j => simp at hj
  case one => simp [Value.oneCell']
  case b1 => unfold maxLen; omega
  case b2 => omega
  case base => exact Nat.zero_le _
  intro g cap w1 hown hgrow hat hlt
  have hpn : v.ownBlock ≠ some p := fun e => (hB p (.inl e)).1 rfl
  have hp1 : w1.heap[p]? = some (.cells #[v, .bool fl] 45 (0, 0)) := by
    rw [hgrow.block p (by rw [e1]; omega) (fun e => hpn e.symm), e2 p hplt]
    exact hp
  have c1 : w1.cell? ⟨p, 0, none⟩ = some v := by simp [World.cell?, hp1]
  have f1 : w1.frozen? ⟨p, 0, none⟩ = false := by simp [World.frozen?, hp1]
  have hs1 := hgrow.size
  rw [e1] at hs1
  go_wp2
  go_end0
  have hpg : g ≠ p := by
    rintro rfl
    rcases hat with h1 | h1
    · exact hpn h1
    · omega
  have hgE : ¬ Ex g := by
    intro he
    rcases hat with h1 | h1
    · exact (hB g (.inl h1)).2 he
    · have := hE g he; omega
  refine ⟨rfl, ⟨_, hd ++ [.slice (some ⟨w.heap.size, 0, none⟩) 1 1], heap_setCell_same w1 p 0 _ 45 _ hp1, ?_, ?_, hpE, fun b hb => by have := hE b hb; simp; omega⟩, ?_⟩
  · have hN2 := (hN.kept (World.grownBy_alloc w (.cells #[sV s] 9) none) (Classical.em _) (fun _ _ => Classical.em _)).kept (World.grownBy_alloc _ (.cells #[.slice (some ⟨w.heap.size, 0, none⟩) 1 1] 60) none) (Classical.em _) (fun _ _ => Classical.em _)
    · have hN3 := hN2.push (l := [s]) (u := .slice (some ⟨w.heap.size, 0, none⟩) 1 1) (w' := w1) (H := w.heap.size + 2) (g := g) (v' := .slice (some ⟨g, 0, none⟩) (ll.length + 1) cap) ?_ ?_ hown hgrow rfl hat e1
      · refine hN3.kept (row := some p) ⟨rfl, rfl, rfl, by simp, fun k _ hk => heap_setCell_other _ _ _ _ (fun e => hk (by rw [e]))⟩ (.inr fun e => hpg (Option.some.inj e)) ?_
        intro x hx
        right
        intro e
        rcases List.mem_append.1 hx with hx | hx
        · exact (hB p (.inr ⟨x, hx, e⟩)).1 rfl
        · simp only [List.mem_singleton] at hx
          subst hx
          simp only [Value.ownBlock, Option.some.injEq] at e
          omega
      · refine ⟨rfl, .inr ⟨w.heap.size, 1, #[sV s], rfl, Nat.zero_le _, ?_, Nat.le_refl _, by unfold maxLen; omega, rfl, rfl⟩⟩
        exact e3
      · intro b hb
        simp only [Value.ownBlock, Option.some.injEq] at hb
        subst hb
        refine ⟨fun e => ?_, by omega, fun x hx e => ?_⟩
        · have := (hN.row.lt _ e).2; omega
        · obtain ⟨i, hi2⟩ := List.getElem?_of_mem hx
          have := (hN.blk hi2 e).2; omega
  · rintro b (hb | ⟨y, hy, hb⟩)
    · simp only [Value.ownBlock, Option.some.injEq] at hb
      subst hb
      exact ⟨hpg, hgE⟩
    · rcases List.mem_append.1 hy with hy | hy
      · exact hB b (.inr ⟨y, hy, hb⟩)
      · simp only [List.mem_singleton] at hy
        subst hy
        simp only [Value.ownBlock, Option.some.injEq] at hb
        subst hb
        refine ⟨by omega, fun he => ?_⟩
        have := hE _ he
        omega
  · refine ⟨?_, ?_, ?_, ?_, ?_⟩
    · exact hgrow.os
    · exact hgrow.tape
    · exact hgrow.output
    · simp; omega
    · intro b hb
      have hlt := hE b hb
      have hbp : b ≠ p := by
        rintro rfl
        exact hpE hb
      rw [heap_setCell_other w1 ⟨p, 0, none⟩ b _ hbp, hgrow.block b (by rw [e1]; omega) (fun e => (hB b (.inl e.symm)).2 hb), e2 b hlt]
end Go.Proofs
/-
  DERIVED: THE SHELF's CONTRACTS AT THIS DUMP, IN PLAIN WORDS (tools/lay-plain.mjs out of 'TrydShelf.lean', which tools/lay-shelf.mjs wrote): THE SAME DECLARATIONS UNDER THE SAME NAMES: 'import', 'namespace', 'open', 'def', 'theorem' AND NOTHING ELSE: no command of the shelf's: FOR A HAND-IN. Each laying: the table of numbers ('.._ren') and one theorem, a field a fact of the dump's own or the kernel's comparison; each contract: ONE APPLICATION.
-/
namespace Go.Proofs
open Go.Shelf
def Tryd.lays169_ren : Go.Shelf.Ren := ⟨fun | 169 => 30 | n => n, fun | 70 => 68 | 9 => 9 | 0 => 0 | 72 => 71 | 37 => 69 | 127 => 92 | 3 => 3 | 5 => 5 | n => n, fun | n => n⟩
theorem Tryd.lays169 : Go.Proofs.Lays.n169 Tryd.prog Tryd.lays169_ren := {
  mixed := by kernel_rfl
  f169 := Tryd.func30.trans (congrArg some (by kernel_rfl))
  t0 := Tryd.underlying0
  a0 := Tryd.isAgg0
  z0 := Tryd.sizeOf0
  v0 := Tryd.zeroValue0
  t3 := Tryd.underlying3
  a3 := Tryd.isAgg3
  z3 := Tryd.sizeOf3
  v3 := Tryd.zeroValue3
  t9 := Tryd.underlying9
  a9 := Tryd.isAgg9
  z9 := Tryd.sizeOf9
  v9 := Tryd.zeroValue9
  t37 := Tryd.underlying69
  a37 := Tryd.isAgg69
  z37 := Tryd.sizeOf69
  v37 := Tryd.zeroValue69
  t70 := Tryd.underlying68
  a70 := Tryd.isAgg68
  z70 := Tryd.sizeOf68
  v70 := Tryd.zeroValue68
  t72 := Tryd.underlying71
  a72 := Tryd.isAgg71
  z72 := Tryd.sizeOf71
  v72 := Tryd.zeroValue71
  t127 := Tryd.underlying92
  a127 := Tryd.isAgg92
  z127 := Tryd.sizeOf92
  v127 := Tryd.zeroValue92 }
theorem Tryd.Builder_Extra_169 : Builder.Extra Tryd.prog Tryd.lays169_ren := {
  sizeBuilder := by kernel_rfl
  liesBuilder := by kernel_rfl
  t5 := Tryd.underlying5
  a5 := Tryd.isAgg5
  z5 := Tryd.sizeOf5
  v5 := Tryd.zeroValue5
  infoByte := by kernel_rfl
  cellsByte := by kernel_rfl
  sizeByte := by kernel_rfl
  neB5 := by decide }
open Go.RowKit in
theorem Tryd.Builder_String (B b : Nat) (l : List UInt8) (w : World) (h : Lib.IsBuilder 71 5 B b (Lib.byteCells l) w) (h0 : l ≠ []) :
    Calls Tryd.prog 30 #[.pointer (some ⟨b, 0, none⟩)] w fun e w' => e = .returned (.string ⟨l.toArray⟩) ∧ Below B w w' := Any.Builder_String Tryd.lays169 Tryd.Builder_Extra_169 B b l w h h0
open Go.RowKit in
theorem Tryd.Builder_String_empty (B b : Nat) (w : World) (h : Lib.IsBuilder 71 5 B b [] w) (hBw : B ≤ w.heap.size) :
    Calls Tryd.prog 30 #[.pointer (some ⟨b, 0, none⟩)] w fun e w' => e = .returned (.string ⟨#[]⟩) ∧ Below B w w' := Any.Builder_String_empty Tryd.lays169 Tryd.Builder_Extra_169 B b w h hBw
open Go.RowKit in
theorem Tryd.Builder_String_any (B b : Nat) (l : List UInt8) (w : World) (h : Lib.IsBuilder 71 5 B b (Lib.byteCells l) w) (hBw : B ≤ w.heap.size) :
    Calls Tryd.prog 30 #[.pointer (some ⟨b, 0, none⟩)] w fun e w' => e = .returned (.string ⟨l.toArray⟩) ∧ Below B w w' := Any.Builder_String_any Tryd.lays169 Tryd.Builder_Extra_169 B b l w h hBw
def Tryd.lays210_ren : Go.Shelf.Ren := ⟨fun | 210 => 47 | 206 => 52 | n => n, fun | 9 => 9 | 4 => 4 | 3 => 3 | n => n, fun | n => n⟩
theorem Tryd.lays210 : Go.Proofs.Lays.n210 Tryd.prog Tryd.lays210_ren := {
  mixed := by kernel_rfl
  f206 := Tryd.func52.trans (congrArg some (by kernel_rfl))
  f210 := Tryd.func47.trans (congrArg some (by kernel_rfl))
  t3 := Tryd.underlying3
  a3 := Tryd.isAgg3
  z3 := Tryd.sizeOf3
  v3 := Tryd.zeroValue3
  t4 := Tryd.underlying4
  a4 := Tryd.isAgg4
  z4 := Tryd.sizeOf4
  v4 := Tryd.zeroValue4
  t9 := Tryd.underlying9
  a9 := Tryd.isAgg9
  z9 := Tryd.sizeOf9
  v9 := Tryd.zeroValue9 }
open Go.RowKit in
theorem Tryd.stringslite_CutPrefix (s p : ByteArray) (w : World) :
    Calls Tryd.prog 47 #[.string s, .string p] w fun e w' => e = .returned (.tuple #[.string ⟨(Lib.trimPrefix s.data.toList p.data.toList).toArray⟩, .bool (Lib.hasPrefix s.data.toList p.data.toList)]) ∧ w' = w := Any.stringslite_CutPrefix Tryd.lays210 s p w
def Tryd.lays103_ren : Go.Shelf.Ren := ⟨fun | 103 => 39 | 210 => 47 | 206 => 52 | n => n, fun | 9 => 9 | 4 => 4 | 24 => 90 | 3 => 3 | n => n, fun | n => n⟩
theorem Tryd.lays103 : Go.Proofs.Lays.n103 Tryd.prog Tryd.lays103_ren := {
  mixed := by kernel_rfl
  f103 := Tryd.func39.trans (congrArg some (by kernel_rfl))
  f206 := Tryd.func52.trans (congrArg some (by kernel_rfl))
  f210 := Tryd.func47.trans (congrArg some (by kernel_rfl))
  t3 := Tryd.underlying3
  a3 := Tryd.isAgg3
  z3 := Tryd.sizeOf3
  v3 := Tryd.zeroValue3
  t4 := Tryd.underlying4
  a4 := Tryd.isAgg4
  z4 := Tryd.sizeOf4
  v4 := Tryd.zeroValue4
  t9 := Tryd.underlying9
  a9 := Tryd.isAgg9
  z9 := Tryd.sizeOf9
  v9 := Tryd.zeroValue9
  t24 := Tryd.underlying90
  a24 := Tryd.isAgg90
  z24 := Tryd.sizeOf90
  v24 := Tryd.zeroValue90 }
open Go.RowKit in
theorem Tryd.strings_CutPrefix (s p : ByteArray) (w : World) :
    Calls Tryd.prog 39 #[.string s, .string p] w fun e w' => e = .returned (.tuple #[.string ⟨(Lib.trimPrefix s.data.toList p.data.toList).toArray⟩, .bool (Lib.hasPrefix s.data.toList p.data.toList)]) ∧ w' = w := Any.strings_CutPrefix Tryd.lays103 s p w
open Go.RowKit in
theorem Tryd.Builder_String_f (B b : Nat) (l : List UInt8) (w : World) (h : Lib.IsBuilderF 71 5 B b (Lib.byteCells l) w) (h0 : l ≠ []) :
    Calls Tryd.prog 30 #[.pointer (some ⟨b, 0, none⟩)] w fun e w' => e = .returned (.string ⟨l.toArray⟩) ∧ (Lib.IsBuilderF 71 5 B b (Lib.byteCells l) w' ∧ Below B w w') := Any.Builder_String_f Tryd.lays169 Tryd.Builder_Extra_169 B b l w h h0
open Go.RowKit in
theorem Tryd.Builder_String_empty_f (B b : Nat) (w : World) (h : Lib.IsBuilderF 71 5 B b [] w) (hBw : B ≤ w.heap.size) :
    Calls Tryd.prog 30 #[.pointer (some ⟨b, 0, none⟩)] w fun e w' => e = .returned (.string ⟨#[]⟩) ∧ (Lib.IsBuilderF 71 5 B b [] w' ∧ Below B w w') := Any.Builder_String_empty_f Tryd.lays169 Tryd.Builder_Extra_169 B b w h hBw
open Go.RowKit in
theorem Tryd.Builder_String_any_f (B b : Nat) (l : List UInt8) (w : World) (h : Lib.IsBuilderF 71 5 B b (Lib.byteCells l) w) (hBw : B ≤ w.heap.size) :
    Calls Tryd.prog 30 #[.pointer (some ⟨b, 0, none⟩)] w fun e w' => e = .returned (.string ⟨l.toArray⟩) ∧ (Lib.IsBuilderF 71 5 B b (Lib.byteCells l) w' ∧ Below B w w') := Any.Builder_String_any_f Tryd.lays169 Tryd.Builder_Extra_169 B b l w h hBw
open Go.RowKit in
theorem Tryd.Builder_String_k (B b : Nat) (l : List UInt8) (w : World) (h : Lib.IsBuilderF 71 5 B b (Lib.byteCells l) w) (h0 : l ≠ []) :
    Calls Tryd.prog 30 #[.pointer (some ⟨b, 0, none⟩)] w fun e w' => e = .returned (.string ⟨l.toArray⟩) ∧ (Lib.IsBuilderF 71 5 B b (Lib.byteCells l) w' ∧ Below B w w' ∧ Lib.OthersKept 5 (some b) w w') := Any.Builder_String_k Tryd.lays169 Tryd.Builder_Extra_169 B b l w h h0
open Go.RowKit in
theorem Tryd.Builder_String_empty_k (B b : Nat) (w : World) (h : Lib.IsBuilderF 71 5 B b [] w) (hBw : B ≤ w.heap.size) :
    Calls Tryd.prog 30 #[.pointer (some ⟨b, 0, none⟩)] w fun e w' => e = .returned (.string ⟨#[]⟩) ∧ (Lib.IsBuilderF 71 5 B b [] w' ∧ Below B w w' ∧ Lib.OthersKept 5 (some b) w w') := Any.Builder_String_empty_k Tryd.lays169 Tryd.Builder_Extra_169 B b w h hBw
open Go.RowKit in
theorem Tryd.Builder_String_any_k (B b : Nat) (l : List UInt8) (w : World) (h : Lib.IsBuilderF 71 5 B b (Lib.byteCells l) w) (hBw : B ≤ w.heap.size) :
    Calls Tryd.prog 30 #[.pointer (some ⟨b, 0, none⟩)] w fun e w' => e = .returned (.string ⟨l.toArray⟩) ∧ (Lib.IsBuilderF 71 5 B b (Lib.byteCells l) w' ∧ Below B w w' ∧ Lib.OthersKept 5 (some b) w w') := Any.Builder_String_any_k Tryd.lays169 Tryd.Builder_Extra_169 B b l w h hBw
def Tryd.lays129_ren : Go.Shelf.Ren := ⟨fun | 129 => 62 | n => n, fun | 53 => 102 | 3 => 3 | 4 => 4 | 46 => 93 | 5 => 5 | 9 => 9 | n => n, fun | n => n⟩
theorem Tryd.lays129 : Go.Proofs.Lays.n129 Tryd.prog Tryd.lays129_ren := {
  mixed := by kernel_rfl
  f129 := Tryd.func62.trans (congrArg some (by kernel_rfl))
  t3 := Tryd.underlying3
  a3 := Tryd.isAgg3
  z3 := Tryd.sizeOf3
  v3 := Tryd.zeroValue3
  t4 := Tryd.underlying4
  a4 := Tryd.isAgg4
  z4 := Tryd.sizeOf4
  v4 := Tryd.zeroValue4
  t5 := Tryd.underlying5
  a5 := Tryd.isAgg5
  z5 := Tryd.sizeOf5
  v5 := Tryd.zeroValue5
  t9 := Tryd.underlying9
  a9 := Tryd.isAgg9
  z9 := Tryd.sizeOf9
  v9 := Tryd.zeroValue9
  t46 := Tryd.underlying93
  a46 := Tryd.isAgg93
  z46 := Tryd.sizeOf93
  v46 := Tryd.zeroValue93
  t53 := Tryd.underlying102
  a53 := Tryd.isAgg102
  z53 := Tryd.sizeOf102
  v53 := Tryd.zeroValue102 }
theorem Tryd.bits_Len64 (x : Int) (w : World) (h0 : 0 ≤ x) (h1 : x ≤ 18446744073709551615) :
    Calls Tryd.prog 62 #[.int .u64 x] w fun e w' => e = .returned (.int .i64 (Lib.bitLen x.toNat)) ∧ w' = w := Any.bits_Len64 Tryd.lays129 x w h0 h1
def Tryd.lays317_ren : Go.Shelf.Ren := ⟨fun | 317 => 61 | n => n, fun | 3 => 3 | 46 => 93 | n => n, fun | n => n⟩
theorem Tryd.lays317 : Go.Proofs.Lays.n317 Tryd.prog Tryd.lays317_ren := {
  mixed := by kernel_rfl
  f317 := Tryd.func61.trans (congrArg some (by kernel_rfl))
  t3 := Tryd.underlying3
  a3 := Tryd.isAgg3
  z3 := Tryd.sizeOf3
  v3 := Tryd.zeroValue3
  t46 := Tryd.underlying93
  a46 := Tryd.isAgg93
  z46 := Tryd.sizeOf93
  v46 := Tryd.zeroValue93 }
open Go.Lib in
theorem Tryd.internal_strconv_log10Pow2 (x : Nat) (h : x ≤ 64) (w : World) :
    Calls Tryd.prog 61 #[.int .i64 x] w fun e w' => e = .returned (.int .i64 (Lib.l10 x)) ∧ w' = w := Any.internal_strconv_log10Pow2 Tryd.lays317 x h w
def Tryd.lays318_ren : Go.Shelf.Ren := ⟨fun | 318 => 63 | n => n, fun | 3 => 3 | 4 => 4 | n => n, fun | n => n⟩
theorem Tryd.lays318 : Go.Proofs.Lays.n318 Tryd.prog Tryd.lays318_ren := {
  mixed := by kernel_rfl
  f318 := Tryd.func63.trans (congrArg some (by kernel_rfl))
  t3 := Tryd.underlying3
  a3 := Tryd.isAgg3
  z3 := Tryd.sizeOf3
  v3 := Tryd.zeroValue3
  t4 := Tryd.underlying4
  a4 := Tryd.isAgg4
  z4 := Tryd.sizeOf4
  v4 := Tryd.zeroValue4 }
open Go.Lib in
theorem Tryd.internal_strconv_bool2_int (b : Bool) (w : World) :
    Calls Tryd.prog 63 #[.bool b] w fun e w' => e = .returned (.int .i64 (if b then 1 else 0)) ∧ w' = w := Any.internal_strconv_bool2_int Tryd.lays318 b w
def Tryd.lays283_ren : Go.Shelf.Ren := ⟨fun | 283 => 53 | n => n, fun | 3 => 3 | 9 => 9 | 4 => 4 | n => n, fun | n => n⟩
theorem Tryd.lays283 : Go.Proofs.Lays.n283 Tryd.prog Tryd.lays283_ren := {
  mixed := by kernel_rfl
  f283 := Tryd.func53.trans (congrArg some (by kernel_rfl))
  t3 := Tryd.underlying3
  a3 := Tryd.isAgg3
  z3 := Tryd.sizeOf3
  v3 := Tryd.zeroValue3
  t4 := Tryd.underlying4
  a4 := Tryd.isAgg4
  z4 := Tryd.sizeOf4
  v4 := Tryd.zeroValue4
  t9 := Tryd.underlying9
  a9 := Tryd.isAgg9
  z9 := Tryd.sizeOf9
  v9 := Tryd.zeroValue9 }
open Go.Lib in
theorem Tryd.internal_strconv_small (i : Nat) (h : i < 100) (w : World) :
    Calls Tryd.prog 53 #[.int .i64 i] w fun e w' => e = .returned (.string ⟨(Lib.decDigits i).toArray⟩) ∧ w' = w := Any.internal_strconv_small Tryd.lays283 i h w
def Tryd.laysM284_ren : Go.Shelf.Ren := ⟨fun | 284 => 54 | 129 => 62 | 317 => 61 | 318 => 63 | n => n, fun | 53 => 102 | 3 => 3 | 212 => 113 | 0 => 0 | 4 => 4 | 46 => 93 | 5 => 5 | 9 => 9 | n => n, fun | 17 => 3 | n => n⟩
theorem Tryd.laysM284 : Go.Proofs.LaysM.n284 Tryd.prog Tryd.laysM284_ren := {
  mixed := by kernel_rfl
  f129 := Tryd.func62.trans (congrArg some (by kernel_rfl))
  f284 := Tryd.func54.trans (congrArg some (by kernel_rfl))
  f317 := Tryd.func61.trans (congrArg some (by kernel_rfl))
  f318 := Tryd.func63.trans (congrArg some (by kernel_rfl))
  t0 := Tryd.underlying0
  a0 := Tryd.isAgg0
  z0 := Tryd.sizeOf0
  v0 := Tryd.zeroValue0
  t3 := Tryd.underlying3
  a3 := Tryd.isAgg3
  z3 := Tryd.sizeOf3
  v3 := Tryd.zeroValue3
  t4 := Tryd.underlying4
  a4 := Tryd.isAgg4
  z4 := Tryd.sizeOf4
  v4 := Tryd.zeroValue4
  t5 := Tryd.underlying5
  a5 := Tryd.isAgg5
  z5 := Tryd.sizeOf5
  v5 := Tryd.zeroValue5
  t9 := Tryd.underlying9
  a9 := Tryd.isAgg9
  z9 := Tryd.sizeOf9
  v9 := Tryd.zeroValue9
  t46 := Tryd.underlying93
  a46 := Tryd.isAgg93
  z46 := Tryd.sizeOf93
  v46 := Tryd.zeroValue93
  t53 := Tryd.underlying102
  a53 := Tryd.isAgg102
  z53 := Tryd.sizeOf102
  v53 := Tryd.zeroValue102
  t212 := Tryd.underlying113
  a212 := Tryd.isAgg113
  z212 := Tryd.sizeOf113
  v212 := Tryd.zeroValue113
  g17 := by kernel_rfl
  i0 := by kernel_rfl
  i3 := by kernel_rfl
  i4 := by kernel_rfl
  i5 := by kernel_rfl
  i9 := by kernel_rfl
  i46 := by kernel_rfl
  i53 := by kernel_rfl
  i212 := by kernel_rfl
  m17 := by kernel_rfl }
open Go.Lib in
theorem Tryd.internal_strconv_numDigits (u : Nat) (h1 : 1 ≤ u) (h2 : u < 18446744073709551616) (w : World) (htab : Lib.TabIs Tryd.prog w "internal/strconv.uint64pow10" .u64 Lib.pow10Tab) :
    Calls Tryd.prog 54 #[.int .u64 u] w fun e w' => e = .returned (.int .i64 (Lib.nDigits u)) ∧ w' = w := Any.internal_strconv_numDigits Tryd.laysM284 u h1 h2 w htab
def Tryd.lays285_ren : Go.Shelf.Ren := ⟨fun | 285 => 55 | n => n, fun | 37 => 69 | 53 => 102 | 3 => 3 | 4 => 4 | 51 => 114 | 9 => 9 | 5 => 5 | 0 => 0 | n => n, fun | n => n⟩
theorem Tryd.lays285 : Go.Proofs.Lays.n285 Tryd.prog Tryd.lays285_ren := {
  mixed := by kernel_rfl
  f285 := Tryd.func55.trans (congrArg some (by kernel_rfl))
  t0 := Tryd.underlying0
  a0 := Tryd.isAgg0
  z0 := Tryd.sizeOf0
  v0 := Tryd.zeroValue0
  t3 := Tryd.underlying3
  a3 := Tryd.isAgg3
  z3 := Tryd.sizeOf3
  v3 := Tryd.zeroValue3
  t4 := Tryd.underlying4
  a4 := Tryd.isAgg4
  z4 := Tryd.sizeOf4
  v4 := Tryd.zeroValue4
  t5 := Tryd.underlying5
  a5 := Tryd.isAgg5
  z5 := Tryd.sizeOf5
  v5 := Tryd.zeroValue5
  t9 := Tryd.underlying9
  a9 := Tryd.isAgg9
  z9 := Tryd.sizeOf9
  v9 := Tryd.zeroValue9
  t37 := Tryd.underlying69
  a37 := Tryd.isAgg69
  z37 := Tryd.sizeOf69
  v37 := Tryd.zeroValue69
  t51 := Tryd.underlying114
  a51 := Tryd.isAgg114
  z51 := Tryd.sizeOf114
  v51 := Tryd.zeroValue114
  t53 := Tryd.underlying102
  a53 := Tryd.isAgg102
  z53 := Tryd.sizeOf102
  v53 := Tryd.zeroValue102 }
open Go.RowKit Go.Sort Go.Lib in
theorem Tryd.internal_strconv_formatBase10 (blk off cap : Nat) (u : Nat) (d : Array UInt8) (w : World) (hH : Holds (fun (b : UInt8) => Value.int .u8 (b.toNat : Int)) w blk off d) (hu : u < 10 ^ d.size) (hu64 : u < 18446744073709551616) (hsz : d.size < 4611686018427387904) :
    Calls Tryd.prog 55 #[.slice (some ⟨blk, off, none⟩) d.size cap, .int .u64 u] w fun e w' =>
      e = .returned (.tuple #[]) ∧ ∃ (n v' : Nat) (dk : Array UInt8), w' = (putRow (fun (b : UInt8) => Value.int .u8 (b.toNat : Int)) w blk off dk).drewN n ∧ FmtInv d.size u 0 v' dk := Any.internal_strconv_formatBase10 Tryd.lays285 blk off cap u d w hH hu hu64 hsz
def Tryd.laysM246_ren : Go.Shelf.Ren := ⟨fun | 246 => 48 | 283 => 53 | 284 => 54 | 285 => 55 | 286 => 56 | 129 => 62 | 317 => 61 | 318 => 63 | 319 => 64 | 320 => 65 | 337 => 68 | 338 => 69 | n => n, fun | 2 => 2 | 3 => 3 | 9 => 9 | 4 => 4 | 171 => 101 | 0 => 0 | 53 => 102 | 37 => 69 | 5 => 5 | 173 => 105 | 212 => 113 | 51 => 114 | 20 => 20 | 213 => 115 | 46 => 93 | 232 => 120 | 233 => 121 | n => n, fun | 17 => 3 | 18 => 4 | 19 => 5 | n => n⟩
theorem Tryd.laysM246 : Go.Proofs.LaysM.n246 Tryd.prog Tryd.laysM246_ren := {
  mixed := by kernel_rfl
  f129 := Tryd.func62.trans (congrArg some (by kernel_rfl))
  f246 := Tryd.func48.trans (congrArg some (by kernel_rfl))
  f283 := Tryd.func53.trans (congrArg some (by kernel_rfl))
  f284 := Tryd.func54.trans (congrArg some (by kernel_rfl))
  f285 := Tryd.func55.trans (congrArg some (by kernel_rfl))
  f286 := Tryd.func56.trans (congrArg some (by kernel_rfl))
  f317 := Tryd.func61.trans (congrArg some (by kernel_rfl))
  f318 := Tryd.func63.trans (congrArg some (by kernel_rfl))
  f319 := Tryd.func64.trans (congrArg some (by kernel_rfl))
  f320 := Tryd.func65.trans (congrArg some (by kernel_rfl))
  f337 := Tryd.func68.trans (congrArg some (by kernel_rfl))
  f338 := Tryd.func69.trans (congrArg some (by kernel_rfl))
  t0 := Tryd.underlying0
  a0 := Tryd.isAgg0
  z0 := Tryd.sizeOf0
  v0 := Tryd.zeroValue0
  t2 := Tryd.underlying2
  a2 := Tryd.isAgg2
  z2 := Tryd.sizeOf2
  v2 := Tryd.zeroValue2
  t3 := Tryd.underlying3
  a3 := Tryd.isAgg3
  z3 := Tryd.sizeOf3
  v3 := Tryd.zeroValue3
  t4 := Tryd.underlying4
  a4 := Tryd.isAgg4
  z4 := Tryd.sizeOf4
  v4 := Tryd.zeroValue4
  t5 := Tryd.underlying5
  a5 := Tryd.isAgg5
  z5 := Tryd.sizeOf5
  v5 := Tryd.zeroValue5
  t9 := Tryd.underlying9
  a9 := Tryd.isAgg9
  z9 := Tryd.sizeOf9
  v9 := Tryd.zeroValue9
  t20 := Tryd.underlying20
  a20 := Tryd.isAgg20
  z20 := Tryd.sizeOf20
  v20 := Tryd.zeroValue20
  t37 := Tryd.underlying69
  a37 := Tryd.isAgg69
  z37 := Tryd.sizeOf69
  v37 := Tryd.zeroValue69
  t46 := Tryd.underlying93
  a46 := Tryd.isAgg93
  z46 := Tryd.sizeOf93
  v46 := Tryd.zeroValue93
  t51 := Tryd.underlying114
  a51 := Tryd.isAgg114
  z51 := Tryd.sizeOf114
  v51 := Tryd.zeroValue114
  t53 := Tryd.underlying102
  a53 := Tryd.isAgg102
  z53 := Tryd.sizeOf102
  v53 := Tryd.zeroValue102
  t171 := Tryd.underlying101
  a171 := Tryd.isAgg101
  z171 := Tryd.sizeOf101
  v171 := Tryd.zeroValue101
  t173 := Tryd.underlying105
  a173 := Tryd.isAgg105
  z173 := Tryd.sizeOf105
  v173 := Tryd.zeroValue105
  t212 := Tryd.underlying113
  a212 := Tryd.isAgg113
  z212 := Tryd.sizeOf113
  v212 := Tryd.zeroValue113
  t213 := Tryd.underlying115
  a213 := Tryd.isAgg115
  z213 := Tryd.sizeOf115
  t232 := Tryd.underlying120
  a232 := Tryd.isAgg120
  z232 := Tryd.sizeOf120
  v232 := Tryd.zeroValue120
  t233 := Tryd.underlying121
  a233 := Tryd.isAgg121
  z233 := Tryd.sizeOf121
  v233 := Tryd.zeroValue121
  g17 := by kernel_rfl
  g18 := by kernel_rfl
  g19 := by kernel_rfl
  i0 := by kernel_rfl
  i2 := by kernel_rfl
  i3 := by kernel_rfl
  i4 := by kernel_rfl
  i5 := by kernel_rfl
  i9 := by kernel_rfl
  i20 := by kernel_rfl
  i37 := by kernel_rfl
  i46 := by kernel_rfl
  i51 := by kernel_rfl
  i53 := by kernel_rfl
  i171 := by kernel_rfl
  i173 := by kernel_rfl
  i212 := by kernel_rfl
  i232 := by kernel_rfl
  i233 := by kernel_rfl
  m17 := by kernel_rfl
  m18 := by kernel_rfl
  m19 := by kernel_rfl }
open Go.RowKit Go.Sort Go.Lib in
theorem Tryd.internal_strconv_FormatInt_10 (n : Int) (h0 : -9223372036854775808 ≤ n) (h1 : n ≤ 9223372036854775807) (w : World) (htab : Lib.TabIs Tryd.prog w "internal/strconv.uint64pow10" .u64 Lib.pow10Tab) :
    Calls Tryd.prog 48 #[.int .i64 n, .int .i64 10] w fun e w' => e = .returned (.string ⟨(Lib.itoa n).toArray⟩) ∧ ∃ k os, w' = grow (w.drewN k) os := Any.internal_strconv_FormatInt_10 Tryd.laysM246 n h0 h1 w htab
def Tryd.lays246_ren : Go.Shelf.Ren := ⟨fun | 246 => 48 | 283 => 53 | 284 => 54 | 285 => 55 | 286 => 56 | 129 => 62 | 317 => 61 | 318 => 63 | 319 => 64 | 320 => 65 | 337 => 68 | 338 => 69 | n => n, fun | 2 => 2 | 3 => 3 | 9 => 9 | 4 => 4 | 171 => 101 | 0 => 0 | 53 => 102 | 37 => 69 | 5 => 5 | 173 => 105 | 212 => 113 | 51 => 114 | 20 => 20 | 213 => 115 | 46 => 93 | 232 => 120 | 233 => 121 | n => n, fun | 17 => 3 | 18 => 4 | 19 => 5 | n => n⟩
theorem Tryd.lays246 : Go.Proofs.Lays.n246 Tryd.prog Tryd.lays246_ren := {
  mixed := by kernel_rfl
  f129 := Tryd.func62.trans (congrArg some (by kernel_rfl))
  f246 := Tryd.func48.trans (congrArg some (by kernel_rfl))
  f283 := Tryd.func53.trans (congrArg some (by kernel_rfl))
  f284 := Tryd.func54.trans (congrArg some (by kernel_rfl))
  f285 := Tryd.func55.trans (congrArg some (by kernel_rfl))
  f286 := Tryd.func56.trans (congrArg some (by kernel_rfl))
  f317 := Tryd.func61.trans (congrArg some (by kernel_rfl))
  f318 := Tryd.func63.trans (congrArg some (by kernel_rfl))
  f319 := Tryd.func64.trans (congrArg some (by kernel_rfl))
  f320 := Tryd.func65.trans (congrArg some (by kernel_rfl))
  f337 := Tryd.func68.trans (congrArg some (by kernel_rfl))
  f338 := Tryd.func69.trans (congrArg some (by kernel_rfl))
  t0 := Tryd.underlying0
  a0 := Tryd.isAgg0
  z0 := Tryd.sizeOf0
  v0 := Tryd.zeroValue0
  t2 := Tryd.underlying2
  a2 := Tryd.isAgg2
  z2 := Tryd.sizeOf2
  v2 := Tryd.zeroValue2
  t3 := Tryd.underlying3
  a3 := Tryd.isAgg3
  z3 := Tryd.sizeOf3
  v3 := Tryd.zeroValue3
  t4 := Tryd.underlying4
  a4 := Tryd.isAgg4
  z4 := Tryd.sizeOf4
  v4 := Tryd.zeroValue4
  t5 := Tryd.underlying5
  a5 := Tryd.isAgg5
  z5 := Tryd.sizeOf5
  v5 := Tryd.zeroValue5
  t9 := Tryd.underlying9
  a9 := Tryd.isAgg9
  z9 := Tryd.sizeOf9
  v9 := Tryd.zeroValue9
  t20 := Tryd.underlying20
  a20 := Tryd.isAgg20
  z20 := Tryd.sizeOf20
  v20 := Tryd.zeroValue20
  t37 := Tryd.underlying69
  a37 := Tryd.isAgg69
  z37 := Tryd.sizeOf69
  v37 := Tryd.zeroValue69
  t46 := Tryd.underlying93
  a46 := Tryd.isAgg93
  z46 := Tryd.sizeOf93
  v46 := Tryd.zeroValue93
  t51 := Tryd.underlying114
  a51 := Tryd.isAgg114
  z51 := Tryd.sizeOf114
  v51 := Tryd.zeroValue114
  t53 := Tryd.underlying102
  a53 := Tryd.isAgg102
  z53 := Tryd.sizeOf102
  v53 := Tryd.zeroValue102
  t171 := Tryd.underlying101
  a171 := Tryd.isAgg101
  z171 := Tryd.sizeOf101
  v171 := Tryd.zeroValue101
  t173 := Tryd.underlying105
  a173 := Tryd.isAgg105
  z173 := Tryd.sizeOf105
  v173 := Tryd.zeroValue105
  t212 := Tryd.underlying113
  a212 := Tryd.isAgg113
  z212 := Tryd.sizeOf113
  v212 := Tryd.zeroValue113
  t213 := Tryd.underlying115
  a213 := Tryd.isAgg115
  z213 := Tryd.sizeOf115
  t232 := Tryd.underlying120
  a232 := Tryd.isAgg120
  z232 := Tryd.sizeOf120
  v232 := Tryd.zeroValue120
  t233 := Tryd.underlying121
  a233 := Tryd.isAgg121
  z233 := Tryd.sizeOf121
  v233 := Tryd.zeroValue121
  g17 := by kernel_rfl
  g18 := by kernel_rfl
  g19 := by kernel_rfl }
open Go.RowKit Go.Sort Go.Lib in
theorem Tryd.internal_strconv_FormatInt_10_small (i : Nat) (hi : i < 100) (w : World) :
    Calls Tryd.prog 48 #[.int .i64 i, .int .i64 10] w fun e w' => e = .returned (.string ⟨(Lib.decDigits i).toArray⟩) ∧ w' = w := Any.internal_strconv_FormatInt_10_small Tryd.lays246 i hi w
def Tryd.laysM243_ren : Go.Shelf.Ren := ⟨fun | 243 => 41 | 246 => 48 | 283 => 53 | 284 => 54 | 285 => 55 | 286 => 56 | 129 => 62 | 317 => 61 | 318 => 63 | 319 => 64 | 320 => 65 | 337 => 68 | 338 => 69 | n => n, fun | 3 => 3 | 9 => 9 | 2 => 2 | 4 => 4 | 171 => 101 | 0 => 0 | 53 => 102 | 37 => 69 | 5 => 5 | 173 => 105 | 212 => 113 | 51 => 114 | 20 => 20 | 213 => 115 | 46 => 93 | 232 => 120 | 233 => 121 | n => n, fun | 17 => 3 | 18 => 4 | 19 => 5 | n => n⟩
theorem Tryd.laysM243 : Go.Proofs.LaysM.n243 Tryd.prog Tryd.laysM243_ren := {
  mixed := by kernel_rfl
  f129 := Tryd.func62.trans (congrArg some (by kernel_rfl))
  f243 := Tryd.func41.trans (congrArg some (by kernel_rfl))
  f246 := Tryd.func48.trans (congrArg some (by kernel_rfl))
  f283 := Tryd.func53.trans (congrArg some (by kernel_rfl))
  f284 := Tryd.func54.trans (congrArg some (by kernel_rfl))
  f285 := Tryd.func55.trans (congrArg some (by kernel_rfl))
  f286 := Tryd.func56.trans (congrArg some (by kernel_rfl))
  f317 := Tryd.func61.trans (congrArg some (by kernel_rfl))
  f318 := Tryd.func63.trans (congrArg some (by kernel_rfl))
  f319 := Tryd.func64.trans (congrArg some (by kernel_rfl))
  f320 := Tryd.func65.trans (congrArg some (by kernel_rfl))
  f337 := Tryd.func68.trans (congrArg some (by kernel_rfl))
  f338 := Tryd.func69.trans (congrArg some (by kernel_rfl))
  t0 := Tryd.underlying0
  a0 := Tryd.isAgg0
  z0 := Tryd.sizeOf0
  v0 := Tryd.zeroValue0
  t2 := Tryd.underlying2
  a2 := Tryd.isAgg2
  z2 := Tryd.sizeOf2
  v2 := Tryd.zeroValue2
  t3 := Tryd.underlying3
  a3 := Tryd.isAgg3
  z3 := Tryd.sizeOf3
  v3 := Tryd.zeroValue3
  t4 := Tryd.underlying4
  a4 := Tryd.isAgg4
  z4 := Tryd.sizeOf4
  v4 := Tryd.zeroValue4
  t5 := Tryd.underlying5
  a5 := Tryd.isAgg5
  z5 := Tryd.sizeOf5
  v5 := Tryd.zeroValue5
  t9 := Tryd.underlying9
  a9 := Tryd.isAgg9
  z9 := Tryd.sizeOf9
  v9 := Tryd.zeroValue9
  t20 := Tryd.underlying20
  a20 := Tryd.isAgg20
  z20 := Tryd.sizeOf20
  v20 := Tryd.zeroValue20
  t37 := Tryd.underlying69
  a37 := Tryd.isAgg69
  z37 := Tryd.sizeOf69
  v37 := Tryd.zeroValue69
  t46 := Tryd.underlying93
  a46 := Tryd.isAgg93
  z46 := Tryd.sizeOf93
  v46 := Tryd.zeroValue93
  t51 := Tryd.underlying114
  a51 := Tryd.isAgg114
  z51 := Tryd.sizeOf114
  v51 := Tryd.zeroValue114
  t53 := Tryd.underlying102
  a53 := Tryd.isAgg102
  z53 := Tryd.sizeOf102
  v53 := Tryd.zeroValue102
  t171 := Tryd.underlying101
  a171 := Tryd.isAgg101
  z171 := Tryd.sizeOf101
  v171 := Tryd.zeroValue101
  t173 := Tryd.underlying105
  a173 := Tryd.isAgg105
  z173 := Tryd.sizeOf105
  v173 := Tryd.zeroValue105
  t212 := Tryd.underlying113
  a212 := Tryd.isAgg113
  z212 := Tryd.sizeOf113
  v212 := Tryd.zeroValue113
  t213 := Tryd.underlying115
  a213 := Tryd.isAgg115
  z213 := Tryd.sizeOf115
  t232 := Tryd.underlying120
  a232 := Tryd.isAgg120
  z232 := Tryd.sizeOf120
  v232 := Tryd.zeroValue120
  t233 := Tryd.underlying121
  a233 := Tryd.isAgg121
  z233 := Tryd.sizeOf121
  v233 := Tryd.zeroValue121
  g17 := by kernel_rfl
  g18 := by kernel_rfl
  g19 := by kernel_rfl
  i0 := by kernel_rfl
  i2 := by kernel_rfl
  i3 := by kernel_rfl
  i4 := by kernel_rfl
  i5 := by kernel_rfl
  i9 := by kernel_rfl
  i20 := by kernel_rfl
  i37 := by kernel_rfl
  i46 := by kernel_rfl
  i51 := by kernel_rfl
  i53 := by kernel_rfl
  i171 := by kernel_rfl
  i173 := by kernel_rfl
  i212 := by kernel_rfl
  i232 := by kernel_rfl
  i233 := by kernel_rfl
  m17 := by kernel_rfl
  m18 := by kernel_rfl
  m19 := by kernel_rfl }
open Go.RowKit Go.Sort Go.Lib in
theorem Tryd.internal_strconv_Itoa (n : Int) (h0 : -9223372036854775808 ≤ n) (h1 : n ≤ 9223372036854775807) (w : World) (htab : Lib.TabIs Tryd.prog w "internal/strconv.uint64pow10" .u64 Lib.pow10Tab) :
    Calls Tryd.prog 41 #[.int .i64 n] w fun e w' => e = .returned (.string ⟨(Lib.itoa n).toArray⟩) ∧ ∃ k os, w' = grow (w.drewN k) os := Any.internal_strconv_Itoa Tryd.laysM243 n h0 h1 w htab
def Tryd.lays243_ren : Go.Shelf.Ren := ⟨fun | 243 => 41 | 246 => 48 | 283 => 53 | 284 => 54 | 285 => 55 | 286 => 56 | 129 => 62 | 317 => 61 | 318 => 63 | 319 => 64 | 320 => 65 | 337 => 68 | 338 => 69 | n => n, fun | 3 => 3 | 9 => 9 | 2 => 2 | 4 => 4 | 171 => 101 | 0 => 0 | 53 => 102 | 37 => 69 | 5 => 5 | 173 => 105 | 212 => 113 | 51 => 114 | 20 => 20 | 213 => 115 | 46 => 93 | 232 => 120 | 233 => 121 | n => n, fun | 17 => 3 | 18 => 4 | 19 => 5 | n => n⟩
theorem Tryd.lays243 : Go.Proofs.Lays.n243 Tryd.prog Tryd.lays243_ren := {
  mixed := by kernel_rfl
  f129 := Tryd.func62.trans (congrArg some (by kernel_rfl))
  f243 := Tryd.func41.trans (congrArg some (by kernel_rfl))
  f246 := Tryd.func48.trans (congrArg some (by kernel_rfl))
  f283 := Tryd.func53.trans (congrArg some (by kernel_rfl))
  f284 := Tryd.func54.trans (congrArg some (by kernel_rfl))
  f285 := Tryd.func55.trans (congrArg some (by kernel_rfl))
  f286 := Tryd.func56.trans (congrArg some (by kernel_rfl))
  f317 := Tryd.func61.trans (congrArg some (by kernel_rfl))
  f318 := Tryd.func63.trans (congrArg some (by kernel_rfl))
  f319 := Tryd.func64.trans (congrArg some (by kernel_rfl))
  f320 := Tryd.func65.trans (congrArg some (by kernel_rfl))
  f337 := Tryd.func68.trans (congrArg some (by kernel_rfl))
  f338 := Tryd.func69.trans (congrArg some (by kernel_rfl))
  t0 := Tryd.underlying0
  a0 := Tryd.isAgg0
  z0 := Tryd.sizeOf0
  v0 := Tryd.zeroValue0
  t2 := Tryd.underlying2
  a2 := Tryd.isAgg2
  z2 := Tryd.sizeOf2
  v2 := Tryd.zeroValue2
  t3 := Tryd.underlying3
  a3 := Tryd.isAgg3
  z3 := Tryd.sizeOf3
  v3 := Tryd.zeroValue3
  t4 := Tryd.underlying4
  a4 := Tryd.isAgg4
  z4 := Tryd.sizeOf4
  v4 := Tryd.zeroValue4
  t5 := Tryd.underlying5
  a5 := Tryd.isAgg5
  z5 := Tryd.sizeOf5
  v5 := Tryd.zeroValue5
  t9 := Tryd.underlying9
  a9 := Tryd.isAgg9
  z9 := Tryd.sizeOf9
  v9 := Tryd.zeroValue9
  t20 := Tryd.underlying20
  a20 := Tryd.isAgg20
  z20 := Tryd.sizeOf20
  v20 := Tryd.zeroValue20
  t37 := Tryd.underlying69
  a37 := Tryd.isAgg69
  z37 := Tryd.sizeOf69
  v37 := Tryd.zeroValue69
  t46 := Tryd.underlying93
  a46 := Tryd.isAgg93
  z46 := Tryd.sizeOf93
  v46 := Tryd.zeroValue93
  t51 := Tryd.underlying114
  a51 := Tryd.isAgg114
  z51 := Tryd.sizeOf114
  v51 := Tryd.zeroValue114
  t53 := Tryd.underlying102
  a53 := Tryd.isAgg102
  z53 := Tryd.sizeOf102
  v53 := Tryd.zeroValue102
  t171 := Tryd.underlying101
  a171 := Tryd.isAgg101
  z171 := Tryd.sizeOf101
  v171 := Tryd.zeroValue101
  t173 := Tryd.underlying105
  a173 := Tryd.isAgg105
  z173 := Tryd.sizeOf105
  v173 := Tryd.zeroValue105
  t212 := Tryd.underlying113
  a212 := Tryd.isAgg113
  z212 := Tryd.sizeOf113
  v212 := Tryd.zeroValue113
  t213 := Tryd.underlying115
  a213 := Tryd.isAgg115
  z213 := Tryd.sizeOf115
  t232 := Tryd.underlying120
  a232 := Tryd.isAgg120
  z232 := Tryd.sizeOf120
  v232 := Tryd.zeroValue120
  t233 := Tryd.underlying121
  a233 := Tryd.isAgg121
  z233 := Tryd.sizeOf121
  v233 := Tryd.zeroValue121
  g17 := by kernel_rfl
  g18 := by kernel_rfl
  g19 := by kernel_rfl }
open Go.RowKit Go.Sort Go.Lib in
theorem Tryd.internal_strconv_Itoa_small (i : Nat) (hi : i < 100) (w : World) :
    Calls Tryd.prog 41 #[.int .i64 i] w fun e w' => e = .returned (.string ⟨(Lib.decDigits i).toArray⟩) ∧ w' = w := Any.internal_strconv_Itoa_small Tryd.lays243 i hi w
def Tryd.laysM171_ren : Go.Shelf.Ren := ⟨fun | 171 => 26 | 243 => 41 | 246 => 48 | 283 => 53 | 284 => 54 | 285 => 55 | 286 => 56 | 129 => 62 | 317 => 61 | 318 => 63 | 319 => 64 | 320 => 65 | 337 => 68 | 338 => 69 | n => n, fun | 3 => 3 | 9 => 9 | 2 => 2 | 4 => 4 | 171 => 101 | 0 => 0 | 53 => 102 | 37 => 69 | 5 => 5 | 173 => 105 | 212 => 113 | 51 => 114 | 20 => 20 | 213 => 115 | 46 => 93 | 232 => 120 | 233 => 121 | n => n, fun | 17 => 3 | 18 => 4 | 19 => 5 | n => n⟩
theorem Tryd.laysM171 : Go.Proofs.LaysM.n171 Tryd.prog Tryd.laysM171_ren := {
  mixed := by kernel_rfl
  f129 := Tryd.func62.trans (congrArg some (by kernel_rfl))
  f171 := Tryd.func26.trans (congrArg some (by kernel_rfl))
  f243 := Tryd.func41.trans (congrArg some (by kernel_rfl))
  f246 := Tryd.func48.trans (congrArg some (by kernel_rfl))
  f283 := Tryd.func53.trans (congrArg some (by kernel_rfl))
  f284 := Tryd.func54.trans (congrArg some (by kernel_rfl))
  f285 := Tryd.func55.trans (congrArg some (by kernel_rfl))
  f286 := Tryd.func56.trans (congrArg some (by kernel_rfl))
  f317 := Tryd.func61.trans (congrArg some (by kernel_rfl))
  f318 := Tryd.func63.trans (congrArg some (by kernel_rfl))
  f319 := Tryd.func64.trans (congrArg some (by kernel_rfl))
  f320 := Tryd.func65.trans (congrArg some (by kernel_rfl))
  f337 := Tryd.func68.trans (congrArg some (by kernel_rfl))
  f338 := Tryd.func69.trans (congrArg some (by kernel_rfl))
  t0 := Tryd.underlying0
  a0 := Tryd.isAgg0
  z0 := Tryd.sizeOf0
  v0 := Tryd.zeroValue0
  t2 := Tryd.underlying2
  a2 := Tryd.isAgg2
  z2 := Tryd.sizeOf2
  v2 := Tryd.zeroValue2
  t3 := Tryd.underlying3
  a3 := Tryd.isAgg3
  z3 := Tryd.sizeOf3
  v3 := Tryd.zeroValue3
  t4 := Tryd.underlying4
  a4 := Tryd.isAgg4
  z4 := Tryd.sizeOf4
  v4 := Tryd.zeroValue4
  t5 := Tryd.underlying5
  a5 := Tryd.isAgg5
  z5 := Tryd.sizeOf5
  v5 := Tryd.zeroValue5
  t9 := Tryd.underlying9
  a9 := Tryd.isAgg9
  z9 := Tryd.sizeOf9
  v9 := Tryd.zeroValue9
  t20 := Tryd.underlying20
  a20 := Tryd.isAgg20
  z20 := Tryd.sizeOf20
  v20 := Tryd.zeroValue20
  t37 := Tryd.underlying69
  a37 := Tryd.isAgg69
  z37 := Tryd.sizeOf69
  v37 := Tryd.zeroValue69
  t46 := Tryd.underlying93
  a46 := Tryd.isAgg93
  z46 := Tryd.sizeOf93
  v46 := Tryd.zeroValue93
  t51 := Tryd.underlying114
  a51 := Tryd.isAgg114
  z51 := Tryd.sizeOf114
  v51 := Tryd.zeroValue114
  t53 := Tryd.underlying102
  a53 := Tryd.isAgg102
  z53 := Tryd.sizeOf102
  v53 := Tryd.zeroValue102
  t171 := Tryd.underlying101
  a171 := Tryd.isAgg101
  z171 := Tryd.sizeOf101
  v171 := Tryd.zeroValue101
  t173 := Tryd.underlying105
  a173 := Tryd.isAgg105
  z173 := Tryd.sizeOf105
  v173 := Tryd.zeroValue105
  t212 := Tryd.underlying113
  a212 := Tryd.isAgg113
  z212 := Tryd.sizeOf113
  v212 := Tryd.zeroValue113
  t213 := Tryd.underlying115
  a213 := Tryd.isAgg115
  z213 := Tryd.sizeOf115
  t232 := Tryd.underlying120
  a232 := Tryd.isAgg120
  z232 := Tryd.sizeOf120
  v232 := Tryd.zeroValue120
  t233 := Tryd.underlying121
  a233 := Tryd.isAgg121
  z233 := Tryd.sizeOf121
  v233 := Tryd.zeroValue121
  g17 := by kernel_rfl
  g18 := by kernel_rfl
  g19 := by kernel_rfl
  i0 := by kernel_rfl
  i2 := by kernel_rfl
  i3 := by kernel_rfl
  i4 := by kernel_rfl
  i5 := by kernel_rfl
  i9 := by kernel_rfl
  i20 := by kernel_rfl
  i37 := by kernel_rfl
  i46 := by kernel_rfl
  i51 := by kernel_rfl
  i53 := by kernel_rfl
  i171 := by kernel_rfl
  i173 := by kernel_rfl
  i212 := by kernel_rfl
  i232 := by kernel_rfl
  i233 := by kernel_rfl
  m17 := by kernel_rfl
  m18 := by kernel_rfl
  m19 := by kernel_rfl }
open Go.RowKit Go.Sort Go.Lib in
theorem Tryd.strconv_Itoa (n : Int) (h0 : -9223372036854775808 ≤ n) (h1 : n ≤ 9223372036854775807) (w : World) (htab : Lib.TabIs Tryd.prog w "internal/strconv.uint64pow10" .u64 Lib.pow10Tab) :
    Calls Tryd.prog 26 #[.int .i64 n] w fun e w' => e = .returned (.string ⟨(Lib.itoa n).toArray⟩) ∧ ∃ k os, w' = grow (w.drewN k) os := Any.strconv_Itoa Tryd.laysM171 n h0 h1 w htab
def Tryd.lays171_ren : Go.Shelf.Ren := ⟨fun | 171 => 26 | 243 => 41 | 246 => 48 | 283 => 53 | 284 => 54 | 285 => 55 | 286 => 56 | 129 => 62 | 317 => 61 | 318 => 63 | 319 => 64 | 320 => 65 | 337 => 68 | 338 => 69 | n => n, fun | 3 => 3 | 9 => 9 | 2 => 2 | 4 => 4 | 171 => 101 | 0 => 0 | 53 => 102 | 37 => 69 | 5 => 5 | 173 => 105 | 212 => 113 | 51 => 114 | 20 => 20 | 213 => 115 | 46 => 93 | 232 => 120 | 233 => 121 | n => n, fun | 17 => 3 | 18 => 4 | 19 => 5 | n => n⟩
theorem Tryd.lays171 : Go.Proofs.Lays.n171 Tryd.prog Tryd.lays171_ren := {
  mixed := by kernel_rfl
  f129 := Tryd.func62.trans (congrArg some (by kernel_rfl))
  f171 := Tryd.func26.trans (congrArg some (by kernel_rfl))
  f243 := Tryd.func41.trans (congrArg some (by kernel_rfl))
  f246 := Tryd.func48.trans (congrArg some (by kernel_rfl))
  f283 := Tryd.func53.trans (congrArg some (by kernel_rfl))
  f284 := Tryd.func54.trans (congrArg some (by kernel_rfl))
  f285 := Tryd.func55.trans (congrArg some (by kernel_rfl))
  f286 := Tryd.func56.trans (congrArg some (by kernel_rfl))
  f317 := Tryd.func61.trans (congrArg some (by kernel_rfl))
  f318 := Tryd.func63.trans (congrArg some (by kernel_rfl))
  f319 := Tryd.func64.trans (congrArg some (by kernel_rfl))
  f320 := Tryd.func65.trans (congrArg some (by kernel_rfl))
  f337 := Tryd.func68.trans (congrArg some (by kernel_rfl))
  f338 := Tryd.func69.trans (congrArg some (by kernel_rfl))
  t0 := Tryd.underlying0
  a0 := Tryd.isAgg0
  z0 := Tryd.sizeOf0
  v0 := Tryd.zeroValue0
  t2 := Tryd.underlying2
  a2 := Tryd.isAgg2
  z2 := Tryd.sizeOf2
  v2 := Tryd.zeroValue2
  t3 := Tryd.underlying3
  a3 := Tryd.isAgg3
  z3 := Tryd.sizeOf3
  v3 := Tryd.zeroValue3
  t4 := Tryd.underlying4
  a4 := Tryd.isAgg4
  z4 := Tryd.sizeOf4
  v4 := Tryd.zeroValue4
  t5 := Tryd.underlying5
  a5 := Tryd.isAgg5
  z5 := Tryd.sizeOf5
  v5 := Tryd.zeroValue5
  t9 := Tryd.underlying9
  a9 := Tryd.isAgg9
  z9 := Tryd.sizeOf9
  v9 := Tryd.zeroValue9
  t20 := Tryd.underlying20
  a20 := Tryd.isAgg20
  z20 := Tryd.sizeOf20
  v20 := Tryd.zeroValue20
  t37 := Tryd.underlying69
  a37 := Tryd.isAgg69
  z37 := Tryd.sizeOf69
  v37 := Tryd.zeroValue69
  t46 := Tryd.underlying93
  a46 := Tryd.isAgg93
  z46 := Tryd.sizeOf93
  v46 := Tryd.zeroValue93
  t51 := Tryd.underlying114
  a51 := Tryd.isAgg114
  z51 := Tryd.sizeOf114
  v51 := Tryd.zeroValue114
  t53 := Tryd.underlying102
  a53 := Tryd.isAgg102
  z53 := Tryd.sizeOf102
  v53 := Tryd.zeroValue102
  t171 := Tryd.underlying101
  a171 := Tryd.isAgg101
  z171 := Tryd.sizeOf101
  v171 := Tryd.zeroValue101
  t173 := Tryd.underlying105
  a173 := Tryd.isAgg105
  z173 := Tryd.sizeOf105
  v173 := Tryd.zeroValue105
  t212 := Tryd.underlying113
  a212 := Tryd.isAgg113
  z212 := Tryd.sizeOf113
  v212 := Tryd.zeroValue113
  t213 := Tryd.underlying115
  a213 := Tryd.isAgg115
  z213 := Tryd.sizeOf115
  t232 := Tryd.underlying120
  a232 := Tryd.isAgg120
  z232 := Tryd.sizeOf120
  v232 := Tryd.zeroValue120
  t233 := Tryd.underlying121
  a233 := Tryd.isAgg121
  z233 := Tryd.sizeOf121
  v233 := Tryd.zeroValue121
  g17 := by kernel_rfl
  g18 := by kernel_rfl
  g19 := by kernel_rfl }
open Go.RowKit Go.Sort Go.Lib in
theorem Tryd.strconv_Itoa_small (i : Nat) (hi : i < 100) (w : World) :
    Calls Tryd.prog 26 #[.int .i64 i] w fun e w' => e = .returned (.string ⟨(Lib.decDigits i).toArray⟩) ∧ w' = w := Any.strconv_Itoa_small Tryd.lays171 i hi w
def Tryd.lays217_ren : Go.Shelf.Ren := ⟨fun | 217 => 57 | 266 => 66 | n => n, fun | 9 => 9 | 5 => 5 | 3 => 3 | n => n, fun | n => n⟩
theorem Tryd.lays217 : Go.Proofs.Lays.n217 Tryd.prog Tryd.lays217_ren := {
  mixed := by kernel_rfl
  f217 := Tryd.func57.trans (congrArg some (by kernel_rfl))
  f266 := Tryd.func66.trans (congrArg some (by kernel_rfl))
  t3 := Tryd.underlying3
  a3 := Tryd.isAgg3
  z3 := Tryd.sizeOf3
  v3 := Tryd.zeroValue3
  t5 := Tryd.underlying5
  a5 := Tryd.isAgg5
  z5 := Tryd.sizeOf5
  v5 := Tryd.zeroValue5
  t9 := Tryd.underlying9
  a9 := Tryd.isAgg9
  z9 := Tryd.sizeOf9
  v9 := Tryd.zeroValue9 }
open Go.RowKit Go.Lib in
theorem Tryd.stringslite_IndexByte (s : ByteArray) (c : Int) (w : World) :
    Calls Tryd.prog 57 #[.string s, .int .u8 c] w fun e w' => e = .returned (.int .i64 (Lib.indexByte s.data.toList c.toNat.toUInt8)) ∧ w' = w := Any.stringslite_IndexByte Tryd.lays217 s c w
def Tryd.lays224_ren : Go.Shelf.Ren := ⟨fun | 224 => 59 | n => n, fun | 3 => 3 | n => n, fun | n => n⟩
theorem Tryd.lays224 : Go.Proofs.Lays.n224 Tryd.prog Tryd.lays224_ren := {
  mixed := by kernel_rfl
  f224 := Tryd.func59.trans (congrArg some (by kernel_rfl))
  t3 := Tryd.underlying3
  a3 := Tryd.isAgg3
  z3 := Tryd.sizeOf3
  v3 := Tryd.zeroValue3 }
open Go.RowKit Go.Lib in
theorem Tryd.bytealg_Cutover (n : Int) (h0 : 0 ≤ n) (h1 : n < 4611686018427387904) (w : World) :
    Calls Tryd.prog 59 #[.int .i64 n] w fun e w' => e = .returned (.int .i64 ((n + 16) / 8)) ∧ w' = w := Any.bytealg_Cutover Tryd.lays224 n h0 h1 w
def Tryd.lays314_ren : Go.Shelf.Ren := ⟨fun | 314 => 67 | n => n, fun | 9 => 9 | 51 => 114 | 3 => 3 | 4 => 4 | 5 => 5 | 46 => 93 | n => n, fun | n => n⟩
theorem Tryd.lays314 : Go.Proofs.Lays.n314 Tryd.prog Tryd.lays314_ren := {
  mixed := by kernel_rfl
  f314 := Tryd.func67.trans (congrArg some (by kernel_rfl))
  t3 := Tryd.underlying3
  a3 := Tryd.isAgg3
  z3 := Tryd.sizeOf3
  v3 := Tryd.zeroValue3
  t4 := Tryd.underlying4
  a4 := Tryd.isAgg4
  z4 := Tryd.sizeOf4
  v4 := Tryd.zeroValue4
  t5 := Tryd.underlying5
  a5 := Tryd.isAgg5
  z5 := Tryd.sizeOf5
  v5 := Tryd.zeroValue5
  t9 := Tryd.underlying9
  a9 := Tryd.isAgg9
  z9 := Tryd.sizeOf9
  v9 := Tryd.zeroValue9
  t46 := Tryd.underlying93
  a46 := Tryd.isAgg93
  z46 := Tryd.sizeOf93
  v46 := Tryd.zeroValue93
  t51 := Tryd.underlying114
  a51 := Tryd.isAgg114
  z51 := Tryd.sizeOf114
  v51 := Tryd.zeroValue114 }
open Go.RowKit Go.Lib in
theorem Tryd.bytealg_hashStr (sep : ByteArray) (hs : sep.size < 4294967281) (w : World) :
    Calls Tryd.prog 67 #[.string sep] w fun e w' => e = .returned (.tuple #[.int .u32 (RK.H sep.data.toList % 4294967296), .int .u32 (16777619 ^ sep.size % 4294967296)]) ∧ w' = w := Any.bytealg_hashStr Tryd.lays314 sep hs w
def Tryd.lays267_ren : Go.Shelf.Ren := ⟨fun | 267 => 60 | 314 => 67 | n => n, fun | 9 => 9 | 3 => 3 | 146 => 117 | 51 => 114 | 4 => 4 | 5 => 5 | 46 => 93 | n => n, fun | n => n⟩
theorem Tryd.lays267 : Go.Proofs.Lays.n267 Tryd.prog Tryd.lays267_ren := {
  mixed := by kernel_rfl
  f267 := Tryd.func60.trans (congrArg some (by kernel_rfl))
  f314 := Tryd.func67.trans (congrArg some (by kernel_rfl))
  t3 := Tryd.underlying3
  a3 := Tryd.isAgg3
  z3 := Tryd.sizeOf3
  v3 := Tryd.zeroValue3
  t4 := Tryd.underlying4
  a4 := Tryd.isAgg4
  z4 := Tryd.sizeOf4
  v4 := Tryd.zeroValue4
  t5 := Tryd.underlying5
  a5 := Tryd.isAgg5
  z5 := Tryd.sizeOf5
  v5 := Tryd.zeroValue5
  t9 := Tryd.underlying9
  a9 := Tryd.isAgg9
  z9 := Tryd.sizeOf9
  v9 := Tryd.zeroValue9
  t46 := Tryd.underlying93
  a46 := Tryd.isAgg93
  z46 := Tryd.sizeOf93
  v46 := Tryd.zeroValue93
  t51 := Tryd.underlying114
  a51 := Tryd.isAgg114
  z51 := Tryd.sizeOf114
  v51 := Tryd.zeroValue114
  t146 := Tryd.underlying117
  a146 := Tryd.isAgg117
  z146 := Tryd.sizeOf117
  v146 := Tryd.zeroValue117 }
open Go.RowKit Go.Lib in
theorem Tryd.bytealg_IndexRabinKarp (s sep : ByteArray) (h1 : 1 ≤ sep.size) (h2 : sep.size ≤ s.size) (hs : s.size < 4294967281) (w : World) :
    Calls Tryd.prog 60 #[.string s, .string sep] w fun e w' => e = .returned (.int .i64 (Lib.index s.data.toList sep.data.toList)) ∧ w' = w := Any.bytealg_IndexRabinKarp Tryd.lays267 s sep h1 h2 hs w
def Tryd.lays219_ren : Go.Shelf.Ren := ⟨fun | 219 => 51 | 217 => 57 | 225 => 58 | 224 => 59 | 267 => 60 | 266 => 66 | 314 => 67 | n => n, fun | 9 => 9 | 3 => 3 | 4 => 4 | 5 => 5 | 46 => 93 | 146 => 117 | 51 => 114 | n => n, fun | 1 => 2 | n => n⟩
theorem Tryd.lays219 : Go.Proofs.Lays.n219 Tryd.prog Tryd.lays219_ren := {
  mixed := by kernel_rfl
  f217 := Tryd.func57.trans (congrArg some (by kernel_rfl))
  f219 := Tryd.func51.trans (congrArg some (by kernel_rfl))
  f224 := Tryd.func59.trans (congrArg some (by kernel_rfl))
  f225 := Tryd.func58.trans (congrArg some (by kernel_rfl))
  f266 := Tryd.func66.trans (congrArg some (by kernel_rfl))
  f267 := Tryd.func60.trans (congrArg some (by kernel_rfl))
  f314 := Tryd.func67.trans (congrArg some (by kernel_rfl))
  t3 := Tryd.underlying3
  a3 := Tryd.isAgg3
  z3 := Tryd.sizeOf3
  v3 := Tryd.zeroValue3
  t4 := Tryd.underlying4
  a4 := Tryd.isAgg4
  z4 := Tryd.sizeOf4
  v4 := Tryd.zeroValue4
  t5 := Tryd.underlying5
  a5 := Tryd.isAgg5
  z5 := Tryd.sizeOf5
  v5 := Tryd.zeroValue5
  t9 := Tryd.underlying9
  a9 := Tryd.isAgg9
  z9 := Tryd.sizeOf9
  v9 := Tryd.zeroValue9
  t46 := Tryd.underlying93
  a46 := Tryd.isAgg93
  z46 := Tryd.sizeOf93
  v46 := Tryd.zeroValue93
  t51 := Tryd.underlying114
  a51 := Tryd.isAgg114
  z51 := Tryd.sizeOf114
  v51 := Tryd.zeroValue114
  t146 := Tryd.underlying117
  a146 := Tryd.isAgg117
  z146 := Tryd.sizeOf117
  v146 := Tryd.zeroValue117
  g1 := by kernel_rfl }
open Go.RowKit Go.Lib in
theorem Tryd.stringslite_Index_one (s : ByteArray) (c : UInt8) (w : World) :
    Calls Tryd.prog 51 #[.string s, .string ⟨#[c]⟩] w fun e w' => e = .returned (.int .i64 (Lib.indexByte s.data.toList c)) ∧ w' = w := Any.stringslite_Index_one Tryd.lays219 s c w
open Go.RowKit Go.Lib in
theorem Tryd.stringslite_Index (s sub : ByteArray) (m : Int) (w : World) (hs : s.size < 4294967281) (hm : w.cell? ⟨2, 0, none⟩ = some (.int .i64 m)) :
    Calls Tryd.prog 51 #[.string s, .string sub] w fun e w' => e = .returned (.int .i64 (Lib.index s.data.toList sub.data.toList)) ∧ w' = w := Any.stringslite_Index Tryd.lays219 s sub m w hs hm
def Tryd.lays143_ren : Go.Shelf.Ren := ⟨fun | 143 => 45 | 219 => 51 | 217 => 57 | 225 => 58 | 224 => 59 | 267 => 60 | 266 => 66 | 314 => 67 | n => n, fun | 9 => 9 | 3 => 3 | 4 => 4 | 5 => 5 | 46 => 93 | 146 => 117 | 51 => 114 | n => n, fun | 1 => 2 | n => n⟩
theorem Tryd.lays143 : Go.Proofs.Lays.n143 Tryd.prog Tryd.lays143_ren := {
  mixed := by kernel_rfl
  f143 := Tryd.func45.trans (congrArg some (by kernel_rfl))
  f217 := Tryd.func57.trans (congrArg some (by kernel_rfl))
  f219 := Tryd.func51.trans (congrArg some (by kernel_rfl))
  f224 := Tryd.func59.trans (congrArg some (by kernel_rfl))
  f225 := Tryd.func58.trans (congrArg some (by kernel_rfl))
  f266 := Tryd.func66.trans (congrArg some (by kernel_rfl))
  f267 := Tryd.func60.trans (congrArg some (by kernel_rfl))
  f314 := Tryd.func67.trans (congrArg some (by kernel_rfl))
  t3 := Tryd.underlying3
  a3 := Tryd.isAgg3
  z3 := Tryd.sizeOf3
  v3 := Tryd.zeroValue3
  t4 := Tryd.underlying4
  a4 := Tryd.isAgg4
  z4 := Tryd.sizeOf4
  v4 := Tryd.zeroValue4
  t5 := Tryd.underlying5
  a5 := Tryd.isAgg5
  z5 := Tryd.sizeOf5
  v5 := Tryd.zeroValue5
  t9 := Tryd.underlying9
  a9 := Tryd.isAgg9
  z9 := Tryd.sizeOf9
  v9 := Tryd.zeroValue9
  t46 := Tryd.underlying93
  a46 := Tryd.isAgg93
  z46 := Tryd.sizeOf93
  v46 := Tryd.zeroValue93
  t51 := Tryd.underlying114
  a51 := Tryd.isAgg114
  z51 := Tryd.sizeOf114
  v51 := Tryd.zeroValue114
  t146 := Tryd.underlying117
  a146 := Tryd.isAgg117
  z146 := Tryd.sizeOf117
  v146 := Tryd.zeroValue117
  g1 := by kernel_rfl }
open Go.RowKit Go.Lib in
theorem Tryd.strings_Index_one (s : ByteArray) (c : UInt8) (w : World) :
    Calls Tryd.prog 45 #[.string s, .string ⟨#[c]⟩] w fun e w' => e = .returned (.int .i64 (Lib.indexByte s.data.toList c)) ∧ w' = w := Any.strings_Index_one Tryd.lays143 s c w
open Go.RowKit Go.Lib in
theorem Tryd.strings_Index (s sub : ByteArray) (m : Int) (w : World) (hs : s.size < 4294967281) (hm : w.cell? ⟨2, 0, none⟩ = some (.int .i64 m)) :
    Calls Tryd.prog 45 #[.string s, .string sub] w fun e w' => e = .returned (.int .i64 (Lib.index s.data.toList sub.data.toList)) ∧ w' = w := Any.strings_Index Tryd.lays143 s sub m w hs hm
def Tryd.lays220_ren : Go.Shelf.Ren := ⟨fun | 220 => 46 | 219 => 51 | 217 => 57 | 225 => 58 | 224 => 59 | 267 => 60 | 266 => 66 | 314 => 67 | n => n, fun | 9 => 9 | 4 => 4 | 3 => 3 | 5 => 5 | 46 => 93 | 146 => 117 | 51 => 114 | n => n, fun | 1 => 2 | n => n⟩
theorem Tryd.lays220 : Go.Proofs.Lays.n220 Tryd.prog Tryd.lays220_ren := {
  mixed := by kernel_rfl
  f217 := Tryd.func57.trans (congrArg some (by kernel_rfl))
  f219 := Tryd.func51.trans (congrArg some (by kernel_rfl))
  f220 := Tryd.func46.trans (congrArg some (by kernel_rfl))
  f224 := Tryd.func59.trans (congrArg some (by kernel_rfl))
  f225 := Tryd.func58.trans (congrArg some (by kernel_rfl))
  f266 := Tryd.func66.trans (congrArg some (by kernel_rfl))
  f267 := Tryd.func60.trans (congrArg some (by kernel_rfl))
  f314 := Tryd.func67.trans (congrArg some (by kernel_rfl))
  t3 := Tryd.underlying3
  a3 := Tryd.isAgg3
  z3 := Tryd.sizeOf3
  v3 := Tryd.zeroValue3
  t4 := Tryd.underlying4
  a4 := Tryd.isAgg4
  z4 := Tryd.sizeOf4
  v4 := Tryd.zeroValue4
  t5 := Tryd.underlying5
  a5 := Tryd.isAgg5
  z5 := Tryd.sizeOf5
  v5 := Tryd.zeroValue5
  t9 := Tryd.underlying9
  a9 := Tryd.isAgg9
  z9 := Tryd.sizeOf9
  v9 := Tryd.zeroValue9
  t46 := Tryd.underlying93
  a46 := Tryd.isAgg93
  z46 := Tryd.sizeOf93
  v46 := Tryd.zeroValue93
  t51 := Tryd.underlying114
  a51 := Tryd.isAgg114
  z51 := Tryd.sizeOf114
  v51 := Tryd.zeroValue114
  t146 := Tryd.underlying117
  a146 := Tryd.isAgg117
  z146 := Tryd.sizeOf117
  v146 := Tryd.zeroValue117
  g1 := by kernel_rfl }
open Go.RowKit Go.Lib in
theorem Tryd.stringslite_Cut (s sep : ByteArray) (m : Int) (w : World) (hs : s.size < 4294967281) (hm : w.cell? ⟨2, 0, none⟩ = some (.int .i64 m)) :
    Calls Tryd.prog 46 #[.string s, .string sep] w fun e w' => e = .returned (.tuple #[.string ⟨(Lib.cut s.data.toList sep.data.toList).1.toArray⟩, .string ⟨(Lib.cut s.data.toList sep.data.toList).2.1.toArray⟩, .bool (Lib.cut s.data.toList sep.data.toList).2.2]) ∧ ∃ n, w' = w.drewN n := Any.stringslite_Cut Tryd.lays220 s sep m w hs hm
def Tryd.lays145_ren : Go.Shelf.Ren := ⟨fun | 145 => 36 | 220 => 46 | 219 => 51 | 217 => 57 | 225 => 58 | 224 => 59 | 267 => 60 | 266 => 66 | 314 => 67 | n => n, fun | 9 => 9 | 4 => 4 | 59 => 86 | 3 => 3 | 5 => 5 | 46 => 93 | 146 => 117 | 51 => 114 | n => n, fun | 1 => 2 | n => n⟩
theorem Tryd.lays145 : Go.Proofs.Lays.n145 Tryd.prog Tryd.lays145_ren := {
  mixed := by kernel_rfl
  f145 := Tryd.func36.trans (congrArg some (by kernel_rfl))
  f217 := Tryd.func57.trans (congrArg some (by kernel_rfl))
  f219 := Tryd.func51.trans (congrArg some (by kernel_rfl))
  f220 := Tryd.func46.trans (congrArg some (by kernel_rfl))
  f224 := Tryd.func59.trans (congrArg some (by kernel_rfl))
  f225 := Tryd.func58.trans (congrArg some (by kernel_rfl))
  f266 := Tryd.func66.trans (congrArg some (by kernel_rfl))
  f267 := Tryd.func60.trans (congrArg some (by kernel_rfl))
  f314 := Tryd.func67.trans (congrArg some (by kernel_rfl))
  t3 := Tryd.underlying3
  a3 := Tryd.isAgg3
  z3 := Tryd.sizeOf3
  v3 := Tryd.zeroValue3
  t4 := Tryd.underlying4
  a4 := Tryd.isAgg4
  z4 := Tryd.sizeOf4
  v4 := Tryd.zeroValue4
  t5 := Tryd.underlying5
  a5 := Tryd.isAgg5
  z5 := Tryd.sizeOf5
  v5 := Tryd.zeroValue5
  t9 := Tryd.underlying9
  a9 := Tryd.isAgg9
  z9 := Tryd.sizeOf9
  v9 := Tryd.zeroValue9
  t46 := Tryd.underlying93
  a46 := Tryd.isAgg93
  z46 := Tryd.sizeOf93
  v46 := Tryd.zeroValue93
  t51 := Tryd.underlying114
  a51 := Tryd.isAgg114
  z51 := Tryd.sizeOf114
  v51 := Tryd.zeroValue114
  t59 := Tryd.underlying86
  a59 := Tryd.isAgg86
  z59 := Tryd.sizeOf86
  v59 := Tryd.zeroValue86
  t146 := Tryd.underlying117
  a146 := Tryd.isAgg117
  z146 := Tryd.sizeOf117
  v146 := Tryd.zeroValue117
  g1 := by kernel_rfl }
open Go.RowKit Go.Lib in
theorem Tryd.strings_Cut (s sep : ByteArray) (m : Int) (w : World) (hs : s.size < 4294967281) (hm : w.cell? ⟨2, 0, none⟩ = some (.int .i64 m)) :
    Calls Tryd.prog 36 #[.string s, .string sep] w fun e w' => e = .returned (.tuple #[.string ⟨(Lib.cut s.data.toList sep.data.toList).1.toArray⟩, .string ⟨(Lib.cut s.data.toList sep.data.toList).2.1.toArray⟩, .bool (Lib.cut s.data.toList sep.data.toList).2.2]) ∧ ∃ n, w' = w.drewN n := Any.strings_Cut Tryd.lays145 s sep m w hs hm
def Tryd.laysM219_ren : Go.Shelf.Ren := ⟨fun | 219 => 51 | 217 => 57 | 225 => 58 | 224 => 59 | 267 => 60 | 266 => 66 | 314 => 67 | n => n, fun | 9 => 9 | 3 => 3 | 4 => 4 | 5 => 5 | 46 => 93 | 146 => 117 | 51 => 114 | n => n, fun | 1 => 2 | n => n⟩
theorem Tryd.laysM219 : Go.Proofs.LaysM.n219 Tryd.prog Tryd.laysM219_ren := {
  mixed := by kernel_rfl
  f217 := Tryd.func57.trans (congrArg some (by kernel_rfl))
  f219 := Tryd.func51.trans (congrArg some (by kernel_rfl))
  f224 := Tryd.func59.trans (congrArg some (by kernel_rfl))
  f225 := Tryd.func58.trans (congrArg some (by kernel_rfl))
  f266 := Tryd.func66.trans (congrArg some (by kernel_rfl))
  f267 := Tryd.func60.trans (congrArg some (by kernel_rfl))
  f314 := Tryd.func67.trans (congrArg some (by kernel_rfl))
  t3 := Tryd.underlying3
  a3 := Tryd.isAgg3
  z3 := Tryd.sizeOf3
  v3 := Tryd.zeroValue3
  t4 := Tryd.underlying4
  a4 := Tryd.isAgg4
  z4 := Tryd.sizeOf4
  v4 := Tryd.zeroValue4
  t5 := Tryd.underlying5
  a5 := Tryd.isAgg5
  z5 := Tryd.sizeOf5
  v5 := Tryd.zeroValue5
  t9 := Tryd.underlying9
  a9 := Tryd.isAgg9
  z9 := Tryd.sizeOf9
  v9 := Tryd.zeroValue9
  t46 := Tryd.underlying93
  a46 := Tryd.isAgg93
  z46 := Tryd.sizeOf93
  v46 := Tryd.zeroValue93
  t51 := Tryd.underlying114
  a51 := Tryd.isAgg114
  z51 := Tryd.sizeOf114
  v51 := Tryd.zeroValue114
  t146 := Tryd.underlying117
  a146 := Tryd.isAgg117
  z146 := Tryd.sizeOf117
  v146 := Tryd.zeroValue117
  g1 := by kernel_rfl
  i3 := by kernel_rfl
  i4 := by kernel_rfl
  i5 := by kernel_rfl
  i9 := by kernel_rfl
  i46 := by kernel_rfl
  i51 := by kernel_rfl
  i146 := by kernel_rfl
  m1 := by kernel_rfl
  s1_3 := fun w h => Go.Proofs.cell_of_shapedOpen_int (zero := #[.int .i64 0]) (t := 3) h (of_decide_eq_true (by kernel_rfl)) (by kernel_rfl) rfl (by kernel_rfl) (by kernel_rfl) Tryd.underlying3 }
open Go.RowKit Go.Lib in
theorem Tryd.stringslite_Index_shaped (s sub : ByteArray) (w : World) (h : w.ShapedOpen Tryd.prog) (hs : s.size < 4294967281) :
    Calls Tryd.prog 51 #[.string s, .string sub] w fun e w' => e = .returned (.int .i64 (Lib.index s.data.toList sub.data.toList)) ∧ w' = w := Any.stringslite_Index_shaped Tryd.laysM219 s sub w h hs
def Tryd.laysM143_ren : Go.Shelf.Ren := ⟨fun | 143 => 45 | 219 => 51 | 217 => 57 | 225 => 58 | 224 => 59 | 267 => 60 | 266 => 66 | 314 => 67 | n => n, fun | 9 => 9 | 3 => 3 | 4 => 4 | 5 => 5 | 46 => 93 | 146 => 117 | 51 => 114 | n => n, fun | 1 => 2 | n => n⟩
theorem Tryd.laysM143 : Go.Proofs.LaysM.n143 Tryd.prog Tryd.laysM143_ren := {
  mixed := by kernel_rfl
  f143 := Tryd.func45.trans (congrArg some (by kernel_rfl))
  f217 := Tryd.func57.trans (congrArg some (by kernel_rfl))
  f219 := Tryd.func51.trans (congrArg some (by kernel_rfl))
  f224 := Tryd.func59.trans (congrArg some (by kernel_rfl))
  f225 := Tryd.func58.trans (congrArg some (by kernel_rfl))
  f266 := Tryd.func66.trans (congrArg some (by kernel_rfl))
  f267 := Tryd.func60.trans (congrArg some (by kernel_rfl))
  f314 := Tryd.func67.trans (congrArg some (by kernel_rfl))
  t3 := Tryd.underlying3
  a3 := Tryd.isAgg3
  z3 := Tryd.sizeOf3
  v3 := Tryd.zeroValue3
  t4 := Tryd.underlying4
  a4 := Tryd.isAgg4
  z4 := Tryd.sizeOf4
  v4 := Tryd.zeroValue4
  t5 := Tryd.underlying5
  a5 := Tryd.isAgg5
  z5 := Tryd.sizeOf5
  v5 := Tryd.zeroValue5
  t9 := Tryd.underlying9
  a9 := Tryd.isAgg9
  z9 := Tryd.sizeOf9
  v9 := Tryd.zeroValue9
  t46 := Tryd.underlying93
  a46 := Tryd.isAgg93
  z46 := Tryd.sizeOf93
  v46 := Tryd.zeroValue93
  t51 := Tryd.underlying114
  a51 := Tryd.isAgg114
  z51 := Tryd.sizeOf114
  v51 := Tryd.zeroValue114
  t146 := Tryd.underlying117
  a146 := Tryd.isAgg117
  z146 := Tryd.sizeOf117
  v146 := Tryd.zeroValue117
  g1 := by kernel_rfl
  i3 := by kernel_rfl
  i4 := by kernel_rfl
  i5 := by kernel_rfl
  i9 := by kernel_rfl
  i46 := by kernel_rfl
  i51 := by kernel_rfl
  i146 := by kernel_rfl
  m1 := by kernel_rfl
  s1_3 := fun w h => Go.Proofs.cell_of_shapedOpen_int (zero := #[.int .i64 0]) (t := 3) h (of_decide_eq_true (by kernel_rfl)) (by kernel_rfl) rfl (by kernel_rfl) (by kernel_rfl) Tryd.underlying3 }
open Go.RowKit Go.Lib in
theorem Tryd.strings_Index_shaped (s sub : ByteArray) (w : World) (h : w.ShapedOpen Tryd.prog) (hs : s.size < 4294967281) :
    Calls Tryd.prog 45 #[.string s, .string sub] w fun e w' => e = .returned (.int .i64 (Lib.index s.data.toList sub.data.toList)) ∧ w' = w := Any.strings_Index_shaped Tryd.laysM143 s sub w h hs
def Tryd.laysM220_ren : Go.Shelf.Ren := ⟨fun | 220 => 46 | 219 => 51 | 217 => 57 | 225 => 58 | 224 => 59 | 267 => 60 | 266 => 66 | 314 => 67 | n => n, fun | 9 => 9 | 4 => 4 | 3 => 3 | 5 => 5 | 46 => 93 | 146 => 117 | 51 => 114 | n => n, fun | 1 => 2 | n => n⟩
theorem Tryd.laysM220 : Go.Proofs.LaysM.n220 Tryd.prog Tryd.laysM220_ren := {
  mixed := by kernel_rfl
  f217 := Tryd.func57.trans (congrArg some (by kernel_rfl))
  f219 := Tryd.func51.trans (congrArg some (by kernel_rfl))
  f220 := Tryd.func46.trans (congrArg some (by kernel_rfl))
  f224 := Tryd.func59.trans (congrArg some (by kernel_rfl))
  f225 := Tryd.func58.trans (congrArg some (by kernel_rfl))
  f266 := Tryd.func66.trans (congrArg some (by kernel_rfl))
  f267 := Tryd.func60.trans (congrArg some (by kernel_rfl))
  f314 := Tryd.func67.trans (congrArg some (by kernel_rfl))
  t3 := Tryd.underlying3
  a3 := Tryd.isAgg3
  z3 := Tryd.sizeOf3
  v3 := Tryd.zeroValue3
  t4 := Tryd.underlying4
  a4 := Tryd.isAgg4
  z4 := Tryd.sizeOf4
  v4 := Tryd.zeroValue4
  t5 := Tryd.underlying5
  a5 := Tryd.isAgg5
  z5 := Tryd.sizeOf5
  v5 := Tryd.zeroValue5
  t9 := Tryd.underlying9
  a9 := Tryd.isAgg9
  z9 := Tryd.sizeOf9
  v9 := Tryd.zeroValue9
  t46 := Tryd.underlying93
  a46 := Tryd.isAgg93
  z46 := Tryd.sizeOf93
  v46 := Tryd.zeroValue93
  t51 := Tryd.underlying114
  a51 := Tryd.isAgg114
  z51 := Tryd.sizeOf114
  v51 := Tryd.zeroValue114
  t146 := Tryd.underlying117
  a146 := Tryd.isAgg117
  z146 := Tryd.sizeOf117
  v146 := Tryd.zeroValue117
  g1 := by kernel_rfl
  i3 := by kernel_rfl
  i4 := by kernel_rfl
  i5 := by kernel_rfl
  i9 := by kernel_rfl
  i46 := by kernel_rfl
  i51 := by kernel_rfl
  i146 := by kernel_rfl
  m1 := by kernel_rfl
  s1_3 := fun w h => Go.Proofs.cell_of_shapedOpen_int (zero := #[.int .i64 0]) (t := 3) h (of_decide_eq_true (by kernel_rfl)) (by kernel_rfl) rfl (by kernel_rfl) (by kernel_rfl) Tryd.underlying3 }
open Go.RowKit Go.Lib in
theorem Tryd.stringslite_Cut_shaped (s sep : ByteArray) (w : World) (h : w.ShapedOpen Tryd.prog) (hs : s.size < 4294967281) :
    Calls Tryd.prog 46 #[.string s, .string sep] w fun e w' => e = .returned (.tuple #[.string ⟨(Lib.cut s.data.toList sep.data.toList).1.toArray⟩, .string ⟨(Lib.cut s.data.toList sep.data.toList).2.1.toArray⟩, .bool (Lib.cut s.data.toList sep.data.toList).2.2]) ∧ ∃ n, w' = w.drewN n := Any.stringslite_Cut_shaped Tryd.laysM220 s sep w h hs
def Tryd.laysM145_ren : Go.Shelf.Ren := ⟨fun | 145 => 36 | 220 => 46 | 219 => 51 | 217 => 57 | 225 => 58 | 224 => 59 | 267 => 60 | 266 => 66 | 314 => 67 | n => n, fun | 9 => 9 | 4 => 4 | 59 => 86 | 3 => 3 | 5 => 5 | 46 => 93 | 146 => 117 | 51 => 114 | n => n, fun | 1 => 2 | n => n⟩
theorem Tryd.laysM145 : Go.Proofs.LaysM.n145 Tryd.prog Tryd.laysM145_ren := {
  mixed := by kernel_rfl
  f145 := Tryd.func36.trans (congrArg some (by kernel_rfl))
  f217 := Tryd.func57.trans (congrArg some (by kernel_rfl))
  f219 := Tryd.func51.trans (congrArg some (by kernel_rfl))
  f220 := Tryd.func46.trans (congrArg some (by kernel_rfl))
  f224 := Tryd.func59.trans (congrArg some (by kernel_rfl))
  f225 := Tryd.func58.trans (congrArg some (by kernel_rfl))
  f266 := Tryd.func66.trans (congrArg some (by kernel_rfl))
  f267 := Tryd.func60.trans (congrArg some (by kernel_rfl))
  f314 := Tryd.func67.trans (congrArg some (by kernel_rfl))
  t3 := Tryd.underlying3
  a3 := Tryd.isAgg3
  z3 := Tryd.sizeOf3
  v3 := Tryd.zeroValue3
  t4 := Tryd.underlying4
  a4 := Tryd.isAgg4
  z4 := Tryd.sizeOf4
  v4 := Tryd.zeroValue4
  t5 := Tryd.underlying5
  a5 := Tryd.isAgg5
  z5 := Tryd.sizeOf5
  v5 := Tryd.zeroValue5
  t9 := Tryd.underlying9
  a9 := Tryd.isAgg9
  z9 := Tryd.sizeOf9
  v9 := Tryd.zeroValue9
  t46 := Tryd.underlying93
  a46 := Tryd.isAgg93
  z46 := Tryd.sizeOf93
  v46 := Tryd.zeroValue93
  t51 := Tryd.underlying114
  a51 := Tryd.isAgg114
  z51 := Tryd.sizeOf114
  v51 := Tryd.zeroValue114
  t59 := Tryd.underlying86
  a59 := Tryd.isAgg86
  z59 := Tryd.sizeOf86
  v59 := Tryd.zeroValue86
  t146 := Tryd.underlying117
  a146 := Tryd.isAgg117
  z146 := Tryd.sizeOf117
  v146 := Tryd.zeroValue117
  g1 := by kernel_rfl
  i3 := by kernel_rfl
  i4 := by kernel_rfl
  i5 := by kernel_rfl
  i9 := by kernel_rfl
  i46 := by kernel_rfl
  i51 := by kernel_rfl
  i59 := by kernel_rfl
  i146 := by kernel_rfl
  m1 := by kernel_rfl
  s1_3 := fun w h => Go.Proofs.cell_of_shapedOpen_int (zero := #[.int .i64 0]) (t := 3) h (of_decide_eq_true (by kernel_rfl)) (by kernel_rfl) rfl (by kernel_rfl) (by kernel_rfl) Tryd.underlying3 }
open Go.RowKit Go.Lib in
theorem Tryd.strings_Cut_shaped (s sep : ByteArray) (w : World) (h : w.ShapedOpen Tryd.prog) (hs : s.size < 4294967281) :
    Calls Tryd.prog 36 #[.string s, .string sep] w fun e w' => e = .returned (.tuple #[.string ⟨(Lib.cut s.data.toList sep.data.toList).1.toArray⟩, .string ⟨(Lib.cut s.data.toList sep.data.toList).2.1.toArray⟩, .bool (Lib.cut s.data.toList sep.data.toList).2.2]) ∧ ∃ n, w' = w.drewN n := Any.strings_Cut_shaped Tryd.laysM145 s sep w h hs
def Tryd.lays206_ren : Go.Shelf.Ren := ⟨fun | 206 => 52 | n => n, fun | 9 => 9 | 4 => 4 | 3 => 3 | n => n, fun | n => n⟩
theorem Tryd.lays206 : Go.Proofs.Lays.n206 Tryd.prog Tryd.lays206_ren := {
  mixed := by kernel_rfl
  f206 := Tryd.func52.trans (congrArg some (by kernel_rfl))
  t3 := Tryd.underlying3
  a3 := Tryd.isAgg3
  z3 := Tryd.sizeOf3
  v3 := Tryd.zeroValue3
  t4 := Tryd.underlying4
  a4 := Tryd.isAgg4
  z4 := Tryd.sizeOf4
  v4 := Tryd.zeroValue4
  t9 := Tryd.underlying9
  a9 := Tryd.isAgg9
  z9 := Tryd.sizeOf9
  v9 := Tryd.zeroValue9 }
open Go.RowKit Go.Lib in
theorem Tryd.stringslite_HasPrefix (s p : ByteArray) (w : World) :
    Calls Tryd.prog 52 #[.string s, .string p] w fun e w' => e = .returned (.bool (Lib.hasPrefix s.data.toList p.data.toList)) ∧ w' = w := Any.stringslite_HasPrefix Tryd.lays206 s p w
def Tryd.lays260_ren : Go.Shelf.Ren := ⟨fun | 260 => 50 | n => n, fun | 9 => 9 | 21 => 21 | 3 => 3 | 4 => 4 | 5 => 5 | 119 => 107 | 0 => 0 | 46 => 93 | 139 => 110 | 138 => 109 | n => n, fun | 3 => 0 | 4 => 1 | n => n⟩
theorem Tryd.lays260 : Go.Proofs.Lays.n260 Tryd.prog Tryd.lays260_ren := {
  mixed := by kernel_rfl
  f260 := Tryd.func50.trans (congrArg some (by kernel_rfl))
  t0 := Tryd.underlying0
  a0 := Tryd.isAgg0
  z0 := Tryd.sizeOf0
  v0 := Tryd.zeroValue0
  t3 := Tryd.underlying3
  a3 := Tryd.isAgg3
  z3 := Tryd.sizeOf3
  v3 := Tryd.zeroValue3
  t4 := Tryd.underlying4
  a4 := Tryd.isAgg4
  z4 := Tryd.sizeOf4
  v4 := Tryd.zeroValue4
  t5 := Tryd.underlying5
  a5 := Tryd.isAgg5
  z5 := Tryd.sizeOf5
  v5 := Tryd.zeroValue5
  t9 := Tryd.underlying9
  a9 := Tryd.isAgg9
  z9 := Tryd.sizeOf9
  v9 := Tryd.zeroValue9
  t21 := Tryd.underlying21
  a21 := Tryd.isAgg21
  z21 := Tryd.sizeOf21
  v21 := Tryd.zeroValue21
  t46 := Tryd.underlying93
  a46 := Tryd.isAgg93
  z46 := Tryd.sizeOf93
  v46 := Tryd.zeroValue93
  t119 := Tryd.underlying107
  a119 := Tryd.isAgg107
  z119 := Tryd.sizeOf107
  t138 := Tryd.underlying109
  a138 := Tryd.isAgg109
  z138 := Tryd.sizeOf109
  v138 := Tryd.zeroValue109
  t139 := Tryd.underlying110
  a139 := Tryd.isAgg110
  z139 := Tryd.sizeOf110
  v139 := Tryd.zeroValue110
  g3 := by kernel_rfl
  g4 := by kernel_rfl }
open Go.RowKit Go.Lib in
theorem Tryd.utf8_decodeRuneInStringSlow (s : ByteArray) (w : World) (hT : Lib.Utf8Tabs 0 1 w) :
    Calls Tryd.prog 50 #[.string s] w fun e w' => e = .returned (.tuple #[.int .i32 (Lib.decodeGo s).1, .int .i64 (Lib.decodeGo s).2]) ∧ Below w.heap.size w w' := Any.utf8_decodeRuneInStringSlow Tryd.lays260 s w hT
end Go.Proofs
/-
  The writer's number.
-/
set_option linter.unusedVariables false
namespace Go.Proofs
open Go.RowKit
attribute [local go_sem ↓] Go.wp_at_zero Go.wp_at_succ

theorem Tryd.itoa_calls (w : World) (n : Int) (h0 : -9223372036854775808 ≤ n) (h1 : n ≤ 9223372036854775807) (htab : Lib.TabIs Tryd.prog w "internal/strconv.uint64pow10" .u64 Lib.pow10Tab) :
    Calls Tryd.prog 26 #[.int .i64 n] w fun e w' => e = .returned (.string ⟨⟨Lib.itoa n⟩⟩) ∧ w.grownBy w' none := by
  refine (Tryd.strconv_Itoa n h0 h1 w htab).mono ?_
  rintro e w' ⟨he, k, os, rfl⟩
  exact ⟨he, ⟨rfl, rfl, rfl, by simp, fun b hb _ => Go.Sort.heap_grow_old (w.drewN k) os hb⟩⟩

theorem grown_none {a b c : World} (h : a.grownBy b none) (k : b.grownBy c none) : a.grownBy c none :=
  ⟨k.os.trans h.os, k.tape.trans h.tape, k.output.trans h.output, Nat.le_trans h.size k.size, fun i hi _ => (k.block i (Nat.lt_of_lt_of_le hi h.size) (by simp)).trans (h.block i hi (by simp))⟩
theorem grown_cell {a b : World} (h : a.grownBy b none) {x : Addr} {u : Value} (hu : a.cell? x = some u) : b.cell? x = some u := by
  rw [World.cell?_of_block (h.block x.block (World.block_lt_of_cell? a x hu) (by simp))]
  exact hu

set_option maxHeartbeats 8000000 in
set_option maxRecDepth 100000 in
theorem Tryd.number_calls (w : World) (p : Nat) (Ex : Nat → Prop) (ll : List (List (List UInt8))) (l : List (List UInt8)) (fl : Bool) (n : Int) (h : Wr w p Ex (ll ++ [l]) fl) (hn : ll.length ≤ 100000000000) (hl : l.length ≤ 100000000000)
    (h0 : -1099511627776 ≤ n) (h1 : n ≤ 1099511627776) (htab : Lib.TabIs Tryd.prog w "internal/strconv.uint64pow10" .u64 Lib.pow10Tab) :
    Calls Tryd.prog 14 #[.pointer (some ⟨p, 0, none⟩), .int .i64 n] w fun e w' => e = .returned (.tuple #[]) ∧ Wr w' p Ex (ll ++ [l ++ [Lib.itoa n]]) fl ∧ FrE Ex w w' := by
  obtain ⟨v, hd, hp, hN, hB, hpE, hE⟩ := h
  obtain ⟨i0, hi, hz0⟩ := Option.map_eq_some_iff.1 (show (Tryd.prog.info? 9).map (fun i => (i.zero, i.size, i.bytes)) = some (some (.string ⟨#[]⟩), 1, 16) by kernel_rfl)
  obtain ⟨hz, hz1⟩ := Prod.mk.inj hz0
  obtain ⟨hz1, hz2⟩ := Prod.mk.inj hz1
  have hln : (ll ++ [l]).length = ll.length + 1 := by simp
  obtain ⟨vb, cap, rfl, _, hvlt⟩ := hN.row.form (by rw [hln]; omega)
  have hdl : hd.length = ll.length + 1 := by rw [hN.len, hln]
  obtain ⟨x, hx⟩ : ∃ x, hd[ll.length]? = some x := ⟨_, List.getElem?_eq_getElem (by omega)⟩
  have hlk : (ll ++ [l])[ll.length]? = some l := by simp
  have hxr := hN.each _ _ _ hx hlk
  have c0 : w.cell? ⟨p, 0, none⟩ = some (.slice (some ⟨vb, 0, none⟩) (ll ++ [l]).length cap) := by simp [World.cell?, hp]
  have hplt : p < w.heap.size := (Array.getElem?_eq_some_iff.1 hp).1
  have cx : w.cell? ⟨vb, ll.length, none⟩ = some x := by
    have := hN.row.cells (g := vb) rfl ll.length x hx
    rwa [show ((⟨vb, 0, none⟩ : Addr).add ll.length) = ⟨vb, ll.length, none⟩ from by unfold Addr.add; split <;> simp_all] at this
  rw [hln] at c0
  have d1 : decide (n < -1099511627776) = false := by simp; omega
  have d2 : decide (n > 1099511627776) = false := by simp; omega
  have b1 : (0 : Int) ≤ (ll.length : Int) := by omega
  have b2 : (ll.length : Int) < (ll.length : Int) + 1 := by omega
  have w1 : wrap64 (((ll.length + 1 : Nat) : Int) - 1) = (ll.length : Int) := by unfold wrap64; omega
  have mixed : Tryd.prog.follows .mixedOrders = true := by kernel_rfl
  go_enter Tryd.func14, Tryd.ntmps14
  go_wp2
  have hpv : p ≠ vb := fun e => (hB vb (.inl rfl)).1 e.symm
  have hxp : ∀ b, x.ownBlock = some b → b ≠ p ∧ b ≠ vb := by
    intro b hb
    refine ⟨(hB b (.inr ⟨x, List.mem_of_getElem? hx, hb⟩)).1, fun e => ?_⟩
    subst e
    exact hN.outer _ _ _ hx hb rfl
  have htabd : Lib.TabIs Tryd.prog w.drew "internal/strconv.uint64pow10" .u64 Lib.pow10Tab := htab
  have c0d : w.drew.cell? ⟨p, 0, none⟩ = some (.slice (some ⟨vb, 0, none⟩) (ll.length + 1) cap) := c0
  have cxd : w.drew.cell? ⟨vb, ll.length, none⟩ = some x := cx
  obtain ⟨cur, hcur⟩ : ∃ cur, w.heap[vb]? = some (.cells cur 60 (0, 0)) := by
    rcases hN.row.2 with ⟨e, _⟩ | ⟨g, cap', cur, e, _, hg, _⟩
    · cases e
    · cases e; exact ⟨cur, hg⟩
  have q1 : l.length + 1 ≤ maxLen := by unfold maxLen; omega
  have q2 : (l.length + 1) * 16 ≤ 140737488355328 := by omega
  have q3 : ∀ u ∈ [sV (Lib.itoa n)], u.oneCell' = true := by simp [sV, Value.oneCell']
  go_region_law (first
      | (go_simp; refine (Tryd.itoa_calls w.drew n (by omega) (by omega) htabd).mono ?_; rintro e W1 ⟨rfl, hg1⟩;
         have hs1 : w.heap.size ≤ W1.heap.size := hg1.size;
         have k0 := grown_cell hg1 c0d; have kx := grown_cell hg1 cxd;
         have hg2 := grown_none hg1 (World.grownBy_alloc W1 (.cells #[.string ⟨⟨Lib.itoa n⟩⟩] 9) none);
         have hs2 : w.heap.size ≤ (W1.alloc (.cells #[.string ⟨⟨Lib.itoa n⟩⟩] 9)).heap.size := hg2.size;
         have m0 := grown_cell hg2 c0d; have mx := grown_cell hg2 cxd;
         have ho2 : (W1.alloc (.cells #[.string ⟨⟨Lib.itoa n⟩⟩] 9)).ownsRow 0 9 1 x l.length (l.map sV) := World.ownsRow.kept (w := w.drew) hxr hg2 (Classical.em _);
         have hn2 : ∀ (j : Nat) (u : Value), [sV (Lib.itoa n)][j]? = some u → (W1.alloc (.cells #[.string ⟨⟨Lib.itoa n⟩⟩] 9)).cell? ((⟨W1.heap.size, 0, none⟩ : Addr).add j) = some u := World.news_of_block (heap_alloc_new W1 (.cells #[.string ⟨⟨Lib.itoa n⟩⟩] 9)))
      | (refine step_append_lies (W1.alloc (.cells #[.string ⟨⟨Lib.itoa n⟩⟩] 9)) (by rfl) _ _ 60 (by rfl) 0 9 i0 (.string ⟨#[]⟩) 1 16 Tryd.underlying60 hi hz hz1 hz2 (by rfl) (by decide) x l.length (l.map sV) (by rfl) ho2 ⟨W1.heap.size, 0, none⟩ 1 1 [sV (Lib.itoa n)] (by rfl) rfl hn2 q3 (by decide) q1 q2 (Nat.zero_le _) _ rfl ?_; intro g c2 W2 hown hgrow hat hlt;
         have r0 := (hgrow.cell_far ⟨p, 0, none⟩ (Nat.lt_of_lt_of_le hplt hs2) (fun e => (hxp p e.symm).1 rfl)).trans m0;
         have rx := (hgrow.cell_far ⟨vb, ll.length, none⟩ (Nat.lt_of_lt_of_le hvlt hs2) (fun e => (hxp vb e.symm).2 rfl)).trans mx;
         have rf := frozen_of_row W2 vb ll.length cur 60 ((hgrow.block vb (Nat.lt_of_lt_of_le hvlt hs2) (fun e => (hxp vb e.symm).2 rfl)).trans ((hg2.block vb hvlt (fun e => by cases e)).trans hcur))))
  all_goals
    go_end0
    have E := number_end (w := w.drew) hp ⟨hN.row, hN.each, hN.outer, hN.apart⟩ hB hpE hE hx hg2 hown hgrow hat
    exact ⟨rfl, E.1, ⟨E.2.os, E.2.tape, E.2.output, E.2.size, E.2.block⟩⟩
end Go.Proofs
/-
  Format's loop over the arcs of a part.
-/
set_option linter.unusedVariables false
namespace Go.Proofs
open Go.RowKit

def IntsAt (w : World) (v : Value) (zs : List Int) : Prop := ∃ ao cap, v = .slice ao zs.length cap ∧ ∀ (k : Nat) (z : Int), zs[k]? = some z → ∃ ad : Addr, ao = some ad ∧ w.cell? (ad.add k) = some (.int .i64 z)

def loopsOf : Code → List Code
  | .loop c => c :: loopsOf c
  | .seq a b => loopsOf a ++ loopsOf b
  | .block _ c => loopsOf c
  | .scope c => loopsOf c
  | .cond _ a b => loopsOf a ++ loopsOf b
  | _ => []

noncomputable def f6_arcs : Code := (loopsOf (Tryd.f6.body.getD .skip)).getD 2 .skip

theorem arc_bounds {av : Int} (h0 : 0 ≤ av) (h1 : av < 1099511627776) : (-1099511627776 ≤ av + 1 ∧ av + 1 ≤ 1099511627776) ∧ (-1099511627776 ≤ -(av + 1) ∧ -(av + 1) ≤ 1099511627776) ∧ wrap64 (av + 1) = av + 1 ∧ wrap64 (-(av + 1)) = -(av + 1) ∧ decide (av < 0) = false ∧ decide (av ≥ 1099511627776) = false := by
  unfold wrap64
  simp
  omega

def arcW (al sl : List Int) : List (List UInt8) := (al.zip sl).map fun x => Lib.itoa (x.2 * (x.1 + 1))
theorem arcW_take {al sl : List Int} {j : Nat} (h1 : j < al.length) (h2 : j < sl.length) : (arcW al sl).take (j + 1) = (arcW al sl).take j ++ [Lib.itoa (sl[j] * (al[j] + 1))] := by
  simp only [arcW, List.take_add_one, List.getElem?_map, List.getElem?_eq_getElem (show j < (al.zip sl).length by rw [List.length_zip]; omega), Option.map_some, Option.toList_some, List.getElem_zip]


set_option maxHeartbeats 8000000 in
set_option maxRecDepth 100000 in
theorem Tryd.arc_round (u0 u1 u2 u4 u5 u6 u8 u9 u10 u11 u12 u13 u14 u15 u16 u17 u18 u19 u20 u21 u22 u23 u24 u25 u26 u27 u28 u29 u30 u31 u32 u33 u34 u35 u36 u37 u38 u39 u40 u41 u42 u43 u44 u45 u46 u47 u48 u49 u50 u51 u52 u53 u54 u55 u56 u57 u58 u59 u60 u61 u62 u63 u67 u68 u69 u70 u71 u72 u73 u74 u75 u76 u77 u78 u79 u80 u81 u82 u83 u84 u85 u86 u87 u88 u89 u90 u91 u92 u93 u94 u95 u96 u97 u98 u99 u100 u101 u102 u103 u104 u105 u106 u107 v1 v2 : Value) (p c : Nat) (Ex : Nat → Prop) (ll : List (List (List UInt8))) (l : List (List UInt8)) (al sl : List Int) (m : Value) (wr : World) (j : Nat) (Q : Exit → Act → World → Prop)
    (hlen : sl.length = al.length) (hll : ll.length ≤ 100000000000) (hl : (l ++ (arcW al sl).take j).length ≤ 100000000000) (ha : ∀ a ∈ al, 0 ≤ a ∧ a < 1099511627776) (hs : ∀ s ∈ sl, s = 1 ∨ s = -1)
    (hW : Wr wr p Ex (ll ++ [l ++ (arcW al sl).take j]) false) (ia : IntsAt wr v1 al) (is : IntsAt wr v2 sl) (hc : wr.heap[c]? = some (.cells #[v1, v2, m] 51 (0, 0))) (htab : Lib.TabIs Tryd.prog wr "internal/strconv.uint64pow10" .u64 Lib.pow10Tab)
    (hj : j < al.length) (hjm : j < 1000)
    (hQ : ∀ (x67 x68 x69 x70 x8 x9 x10 x71 x72 x73 x74 x75 x76 x77 x78 x79 x80 x81 x82 x83 x84 x85 x86 x87 x88 x89 x90 x91 x92 x93 x94 x95 x96 x97 : Value) (w' : World), Wr w' p Ex (ll ++ [l ++ (arcW al sl).take (j + 1)]) false → FrE Ex wr w' → Q .normal ⟨(u0 :: u1 :: u2 :: .pointer (some ⟨p, 0, none⟩) :: u4 :: u5 :: u6 :: .pointer (some ⟨c, 0, none⟩) :: x8 :: x9 :: x10 :: u11 :: u12 :: u13 :: u14 :: u15 :: u16 :: u17 :: u18 :: u19 :: u20 :: u21 :: u22 :: u23 :: u24 :: u25 :: u26 :: u27 :: u28 :: u29 :: u30 :: u31 :: u32 :: u33 :: u34 :: u35 :: u36 :: u37 :: u38 :: u39 :: u40 :: u41 :: u42 :: u43 :: u44 :: u45 :: u46 :: u47 :: u48 :: u49 :: u50 :: u51 :: u52 :: u53 :: u54 :: u55 :: u56 :: u57 :: u58 :: u59 :: u60 :: u61 :: u62 :: u63 :: v1 :: .int .i64 al.length :: .int .i64 ((j + 1 : Nat) : Int) :: x67 :: x68 :: x69 :: x70 :: x71 :: x72 :: x73 :: x74 :: x75 :: x76 :: x77 :: x78 :: x79 :: x80 :: x81 :: x82 :: x83 :: x84 :: x85 :: x86 :: x87 :: x88 :: x89 :: x90 :: x91 :: x92 :: x93 :: x94 :: x95 :: x96 :: x97 :: u98 :: u99 :: u100 :: u101 :: u102 :: u103 :: u104 :: u105 :: u106 :: u107 :: []).toArray, []⟩ w') :
    Code.wp Tryd.prog f6_arcs Q ⟨(u0 :: u1 :: u2 :: .pointer (some ⟨p, 0, none⟩) :: u4 :: u5 :: u6 :: .pointer (some ⟨c, 0, none⟩) :: u8 :: u9 :: u10 :: u11 :: u12 :: u13 :: u14 :: u15 :: u16 :: u17 :: u18 :: u19 :: u20 :: u21 :: u22 :: u23 :: u24 :: u25 :: u26 :: u27 :: u28 :: u29 :: u30 :: u31 :: u32 :: u33 :: u34 :: u35 :: u36 :: u37 :: u38 :: u39 :: u40 :: u41 :: u42 :: u43 :: u44 :: u45 :: u46 :: u47 :: u48 :: u49 :: u50 :: u51 :: u52 :: u53 :: u54 :: u55 :: u56 :: u57 :: u58 :: u59 :: u60 :: u61 :: u62 :: u63 :: v1 :: .int .i64 al.length :: .int .i64 (j : Int) :: u67 :: u68 :: u69 :: u70 :: u71 :: u72 :: u73 :: u74 :: u75 :: u76 :: u77 :: u78 :: u79 :: u80 :: u81 :: u82 :: u83 :: u84 :: u85 :: u86 :: u87 :: u88 :: u89 :: u90 :: u91 :: u92 :: u93 :: u94 :: u95 :: u96 :: u97 :: u98 :: u99 :: u100 :: u101 :: u102 :: u103 :: u104 :: u105 :: u106 :: u107 :: []).toArray, []⟩ wr := by
  conv => arg 2; whnf
  obtain ⟨b1, cap1, rfl, ia⟩ := ia
  obtain ⟨b2, cap2, rfl, is⟩ := is
  have hlj2 : j < sl.length := by omega
  have hnext := arcW_take hj hlj2
  obtain ⟨a1, rfl, y1⟩ := ia j al[j] (List.getElem?_eq_getElem hj)
  obtain ⟨a2, rfl, y2⟩ := is j sl[j] (List.getElem?_eq_getElem hlj2)
  obtain ⟨r0, r1⟩ := ha _ (List.getElem_mem hj)
  have hsg := hs _ (List.getElem_mem hlj2)
  generalize al[j] = av at y1 r0 r1 hnext
  generalize sl[j] = sv at y2 hsg hnext
  have xi : wr.cell? ⟨c, 1, none⟩ = some (.slice (some a2) al.length cap2) := by rw [Lib.cell_of_heap hc, ← hlen]; rfl
  have hlj' : ((j : Int) < (al.length : Int)) := by omega
  have hwj : wrap64 ((j : Int) + 1) = ((j + 1 : Nat) : Int) := by unfold wrap64; omega
  obtain ⟨⟨p0, p1⟩, ⟨p2, p3⟩, w1, w2, n1, n2⟩ := arc_bounds r0 r1
  clear hc ia is ha hs hlj2 hlen

  rcases hsg with rfl | rfl
  · as_aux_lemma =>
      rw [Int.one_mul] at hnext
      go_wp2_with (go_at_call 14; refine (Tryd.number_calls wr _ Ex _ _ false (av + 1) hW hll hl p0 p1 htab).mono ?_; rintro e wz ⟨rfl, hWz, hFz⟩)
      refine hQ _ _ _ _ _ _ _ _ _ _ _ _ _ _ _ _ _ _ _ _ _ _ _ _ _ _ _ _ _ _ _ _ _ _  wz ?_ hFz
      rw [hnext, ← List.append_assoc]
      exact hWz
  · as_aux_lemma =>
      rw [Int.neg_mul, Int.one_mul] at hnext
      go_wp2_with (go_at_call 14; refine (Tryd.number_calls wr _ Ex _ _ false (-(av + 1)) hW hll hl p2 p3 htab).mono ?_; rintro e wz ⟨rfl, hWz, hFz⟩)
      refine hQ _ _ _ _ _ _ _ _ _ _ _ _ _ _ _ _ _ _ _ _ _ _ _ _ _ _ _ _ _ _ _ _ _ _  wz ?_ hFz
      rw [hnext, ← List.append_assoc]
      exact hWz
end Go.Proofs
/-
  Format: its walk up to the joining of the lines.
-/
set_option linter.unusedVariables false
namespace Go.Proofs
open Go.RowKit

theorem IntsAt.keep {w w' : World} {v : Value} {zs : List Int} (h : IntsAt w v zs) (hf : ∀ b, b < w.heap.size → w'.heap[b]? = w.heap[b]?) : IntsAt w' v zs := by
  obtain ⟨ao, cap, h1, h2⟩ := h
  refine ⟨ao, cap, h1, fun k z hz => ?_⟩
  obtain ⟨ad, h3, h4⟩ := h2 k z hz
  exact ⟨ad, h3, by rw [World.cell?_of_block (hf _ (World.block_lt_of_cell? w _ h4))]; exact h4⟩

abbrev PartD := List Int × List Int × Int

def PartsAt (w : World) (v : Value) (ps : List PartD) : Prop := ∃ ao cap, v = .slice ao ps.length cap ∧ ∀ (k : Nat) (q : PartD), ps[k]? = some q → ∃ (ad : Addr) (va vs : Value), ao = some ad ∧
  w.cell? (ad.add (k * 3)) = some va ∧ w.cell? (ad.add (k * 3 + 1)) = some vs ∧ w.cell? (ad.add (k * 3 + 2)) = some (.int .i64 q.2.2) ∧ IntsAt w va q.1 ∧ IntsAt w vs q.2.1

theorem PartsAt.keep {w w' : World} {v : Value} {ps : List PartD} (h : PartsAt w v ps) (hf : ∀ b, b < w.heap.size → w'.heap[b]? = w.heap[b]?) : PartsAt w' v ps := by
  obtain ⟨ao, cap, h1, h2⟩ := h
  refine ⟨ao, cap, h1, fun k q hq => ?_⟩
  obtain ⟨ad, va, vs, h3, h4, h5, h6, h7, h8⟩ := h2 k q hq
  have key : ∀ {a : Addr} {u : Value}, w.cell? a = some u → w'.cell? a = some u := fun {a u} hu => by
    rw [World.cell?_of_block (hf _ (World.block_lt_of_cell? w _ hu))]; exact hu
  exact ⟨ad, va, vs, h3, key h4, key h5, key h6, h7.keep hf, h8.keep hf⟩

theorem tab_old {P : Program} {w w' : World} {name : String} {k : IntKind} {zs : List Int} (h : Lib.TabIs P w name k zs) (hf : ∀ b, b < w.heap.size → w'.heap[b]? = w.heap[b]?) : Lib.TabIs P w' name k zs := by
  unfold Lib.TabIs World.var? at *
  cases hg : P.globalNamed name with
  | none => rw [hg] at h; simp at h
  | some g =>
    rw [hg] at h
    simp only [Option.bind_some] at h ⊢
    cases hb : w.heap[g]? with
    | none => rw [hb] at h; cases h
    | some o => rw [hf g (Array.getElem?_eq_some_iff.1 hb).1]; exact h

structure TTD where
  per : Int
  times : List Int
  cost : Int
  bound : Int
  parts : List PartD

def okN (n : Int) : Prop := -1099511627776 ≤ n ∧ n ≤ 1099511627776

structure GoodPart (q : PartD) : Prop where
  len : q.1.length = q.2.1.length
  max : q.1.length ≤ 1000
  mult : okN q.2.2
  arcs : ∀ a ∈ q.1, 0 ≤ a ∧ a < 1099511627776
  signs : ∀ s ∈ q.2.1, s = 1 ∨ s = -1

structure GoodT (t : TTD) : Prop where
  per : okN t.per
  cost : okN t.cost
  bound : okN t.bound
  times : ∀ x ∈ t.times, okN x
  tmax : t.times.length ≤ 1000
  pmax : t.parts.length ≤ 1000
  parts : ∀ q ∈ t.parts, GoodPart q

def kwTable : List UInt8 := [116, 105, 109, 101, 116, 97, 98, 108, 101]
def kwTimes : List UInt8 := [116, 105, 109, 101, 115]
def kwPart : List UInt8 := [112, 97, 114, 116]

def arcWords (q : PartD) : List (List UInt8) := arcW q.1 q.2.1
def partLine (q : PartD) : List (List UInt8) := kwPart :: Lib.itoa q.2.2 :: arcWords q
def timesLine (l : List Int) : List (List UInt8) := kwTimes :: l.map Lib.itoa
def headLine (t : TTD) : List (List UInt8) := [kwTable, Lib.itoa t.per, Lib.itoa t.cost, Lib.itoa t.bound]
def fmtLines (t : TTD) : List (List (List UInt8)) := headLine t :: timesLine t.times :: t.parts.map partLine

theorem add_next (ad : Addr) (i j : Nat) (hj : j ≠ 0) : ad.add (i + j) = ⟨(ad.add i).block, (ad.add i).off + j, none⟩ := by
  have h1 : (ad.add i).add j = ad.add (i + j) := by
    unfold Addr.add
    by_cases hi : i = 0 <;> simp [hi, hj, Nat.add_assoc]
  rw [← h1]
  generalize ad.add i = x
  unfold Addr.add
  rw [if_neg hj]

theorem FrE.alloc {Ex : Nat → Prop} {w : World} (h : ∀ b, Ex b → b < w.heap.size) (o : Obj) : FrE Ex w (w.alloc o) := ⟨rfl, rfl, rfl, by simp, fun b hb => Lib.alloc_old w o b (h b hb)⟩
theorem Wr.lt {w : World} {p : Nat} {Ex : Nat → Prop} {ll : List (List (List UInt8))} {fl : Bool} (h : Wr w p Ex ll fl) : ∀ b, Ex b → b < w.heap.size := by
  obtain ⟨v, hd, h1, h2, h3, h4, h5⟩ := h
  exact h5

theorem arcWords_take {q : PartD} {j : Nat} (h1 : j < q.1.length) (h2 : j < q.2.1.length) : (arcWords q).take (j + 1) = (arcWords q).take j ++ [Lib.itoa (q.2.1[j] * (q.1[j] + 1))] := by
  simp only [arcWords, arcW, List.take_add_one, List.getElem?_map, List.getElem?_eq_getElem (show j < (q.1.zip q.2.1).length by rw [List.length_zip]; omega), Option.map_some, Option.toList_some, List.getElem_zip]
theorem arcWords_len {q : PartD} (h : q.1.length = q.2.1.length) : (arcWords q).length = q.1.length := by
  simp only [arcWords, arcW, List.length_map, List.length_zip]; omega

theorem parts_take {l : List PartD} {k : Nat} (h : k < l.length) : (l.take (k + 1)).map partLine = (l.take k).map partLine ++ [partLine l[k]] := by
  simp only [List.take_add_one, List.getElem?_eq_getElem h, Option.toList_some, List.map_append, List.map_cons, List.map_nil]

theorem lenA {α : Type} (a b : α) (l : List α) {k : Nat} (h : k ≤ 1000) : (a :: b :: l.take k).length ≤ 100000000000 := by
  have := List.length_take_le k l
  simp only [List.length_cons]
  omega
theorem lenB {α β : Type} (a b : β) (f : α → β) (l : List α) {k : Nat} (h : k ≤ 1000) : (a :: b :: (l.take k).map f).length ≤ 100000000000 := by
  have := List.length_take_le k l
  simp only [List.length_cons, List.length_map]
  omega

/-- What stands in a round of the loop over the arcs. -/
structure InRel (w wo w' : World) (t : TTD) (k : Nat) (q : PartD) (Ex : Nat → Prop) (o : Obj) (j : Nat) : Prop where
  wr : Wr w' (w.heap.size + 1) (fun b => Ex b ∨ b = wo.heap.size) (headLine t :: timesLine t.times :: (t.parts.take k).map partLine ++ [kwPart :: Lib.itoa q.2.2 :: (arcWords q).take j]) false
  fr : FrE (fun b => Ex b ∨ b = wo.heap.size) (wo.alloc o) w'
/-- What stands in a round of the loop over the parts. -/
structure OutRel (w w7 w' : World) (t : TTD) (Ex : Nat → Prop) (k : Nat) : Prop where
  wr : Wr w' (w.heap.size + 1) Ex (headLine t :: timesLine t.times :: (t.parts.take k).map partLine) false
  fr : FrE Ex w7 w'

theorem meas {n j : Nat} (h : j < n) (hn : n ≤ 1000) : n - (wrap64 ((j : Int) + 1)).toNat < n - j := by
  have e : wrap64 ((j : Int) + 1) = ((j + 1 : Nat) : Int) := by unfold wrap64; omega
  rw [e, Int.toNat_natCast]
  omega

theorem timesLine_take (l : List Int) (k : Nat) (h : k < l.length) : timesLine (l.take (k + 1)) = timesLine (l.take k) ++ [Lib.itoa l[k]] := by
  simp only [timesLine, List.take_add_one, List.getElem?_eq_getElem h, Option.toList_some, List.map_append, List.map_cons, List.map_nil, List.cons_append]

set_option maxHeartbeats 8000000 in
set_option maxRecDepth 100000 in
theorem Tryd.format_walk (w : World) (t : TTD) (vt vp : Value) (hg : GoodT t) (ht : IntsAt w vt t.times) (hp : PartsAt w vp t.parts)
    (htab : Lib.TabIs Tryd.prog w "internal/strconv.uint64pow10" .u64 Lib.pow10Tab) (res : List UInt8)
    (hjoin : ∀ (w' : World) (v : Value) (hd : List Value), Nest w' 0 v hd (fmtLines t) → w.heap.size ≤ w'.heap.size → Calls Tryd.prog 15 #[v] w' fun e w'' => e = .returned (.string ⟨⟨res⟩⟩) ∧ Below w'.heap.size w' w'') :
    Calls Tryd.prog 6 #[.agg #[.int .i64 t.per, vt, .int .i64 t.cost, .int .i64 t.bound, vp]] w fun e w' => e = .returned (.string ⟨⟨res⟩⟩) ∧ Below w.heap.size w w' := by
  obtain ⟨ao, cap, rfl, htc⟩ := ht
  obtain ⟨po, pcap, rfl, hpc⟩ := hp
  obtain ⟨e1, e2, e3, e4⟩ := two_alloc w (.cells #[.int .i64 t.per, .slice ao t.times.length cap, .int .i64 t.cost, .int .i64 t.bound, .slice po t.parts.length pcap] 25) (.cells #[.slice none 0 0, .bool false] 45)
  obtain ⟨Ex, hEx⟩ : ∃ Ex : Nat → Prop, ∀ b, Ex b ↔ b < w.heap.size + 1 := ⟨_, fun _ => Iff.rfl⟩
  have hW2 : Wr ((w.alloc (.cells #[.int .i64 t.per, .slice ao t.times.length cap, .int .i64 t.cost, .int .i64 t.bound, .slice po t.parts.length pcap] 25)).alloc (.cells #[.slice none 0 0, .bool false] 45)) (w.heap.size + 1) Ex [] false := by
    refine ⟨.slice none 0 0, [], e4, Nest.nil _ _, ?_, ?_, ?_⟩
    · rintro b (hb | ⟨x, hx, _⟩)
      · cases hb
      · cases hx
    · rw [hEx]; omega
    · intro b hb
      rw [hEx] at hb
      rw [e1]; omega
  have hold : ∀ w', FrE Ex ((w.alloc (.cells #[.int .i64 t.per, .slice ao t.times.length cap, .int .i64 t.cost, .int .i64 t.bound, .slice po t.parts.length pcap] 25)).alloc (.cells #[.slice none 0 0, .bool false] 45)) w' →
      (∀ b, b < w.heap.size → w'.heap[b]? = w.heap[b]?) ∧ w'.heap[w.heap.size]? = some (.cells #[.int .i64 t.per, .slice ao t.times.length cap, .int .i64 t.cost, .int .i64 t.bound, .slice po t.parts.length pcap] 25 (0, 0)) := by
    intro w' hF
    exact ⟨fun b hb => (hF.block b ((hEx b).2 (by omega))).trans (e2 b hb), (hF.block _ ((hEx _).2 (by omega))).trans e3⟩
  obtain ⟨g0, g1⟩ := hg.per
  obtain ⟨g2, g3⟩ := hg.cost
  obtain ⟨g4, g5⟩ := hg.bound
  go_enter Tryd.func6, Tryd.ntmps6
  go_wp2_with (go_at_call 13; refine (Tryd.line_calls _ _ Ex [] false kwTable hW2 (by simp)).mono ?_)
  rintro e w3 ⟨rfl, hW3, hF3⟩
  have o3 := hold w3 hF3
  have c3 : w3.cell? ⟨w.heap.size, 0, none⟩ = some (.int .i64 t.per) := by rw [Lib.cell_of_heap o3.2]; rfl
  go_wp2_with (go_at_call 14; refine (Tryd.number_calls w3 _ Ex [] [kwTable] false t.per hW3 (by simp) (by simp) g0 g1 (tab_old htab o3.1)).mono ?_)
  rintro e w4 ⟨rfl, hW4, hF4⟩
  replace hF4 := hF3.trans hF4
  have o4 := hold w4 hF4
  have c4 : w4.cell? ⟨w.heap.size, 2, none⟩ = some (.int .i64 t.cost) := by rw [Lib.cell_of_heap o4.2]; rfl
  go_wp2_with (go_at_call 14; refine (Tryd.number_calls w4 _ Ex [] _ false t.cost hW4 (by simp) (by simp) g2 g3 (tab_old htab o4.1)).mono ?_)
  rintro e w5 ⟨rfl, hW5, hF5⟩
  replace hF5 := hF4.trans hF5
  have o5 := hold w5 hF5
  have c5 : w5.cell? ⟨w.heap.size, 3, none⟩ = some (.int .i64 t.bound) := by rw [Lib.cell_of_heap o5.2]; rfl
  go_wp2_with (go_at_call 14; refine (Tryd.number_calls w5 _ Ex [] _ false t.bound hW5 (by simp) (by simp) g4 g5 (tab_old htab o5.1)).mono ?_)
  rintro e w6 ⟨rfl, hW6, hF6⟩
  replace hF6 := hF5.trans hF6
  go_wp2_with (go_at_call 13; refine (Tryd.line_calls _ _ Ex _ false kwTimes hW6 (by simp)).mono ?_)
  rintro e w7 ⟨rfl, hW7, hF7⟩
  replace hF7 := hF6.trans hF7
  have o7 := hold w7 hF7
  have c7 : w7.cell? ⟨w.heap.size, 1, none⟩ = some (.slice ao t.times.length cap) := by rw [Lib.cell_of_heap o7.2]; rfl
  clear hEx e1 e2 e3 e4 c3 c4 c5 o3 o4 o5 hW3 hW4 hW5 hW6 hF3 hF4 hF5 hF6 hW2
  go_wp2
  go_loopw [32] (fun i wr => ∃ k : Nat, k ≤ t.times.length ∧ i = .int .i64 k ∧ Wr wr (w.heap.size + 1) Ex [headLine t, timesLine (t.times.take k)] false ∧ FrE Ex w7 wr)
    (fun i _ => t.times.length - (intOf i).toNat)
  case atStart => exact ⟨0, Nat.zero_le _, rfl, hW7, FrE.refl _ _⟩
  case round =>
    as_aux_lemma =>
      obtain ⟨k, hk, rfl, hWr, hFr⟩ := hrel
      have hF := hF7.trans hFr
      have o := hold wr hF
      have hmax := hg.tmax
      by_cases hlt : k < t.times.length
      · obtain ⟨ad, rfl, hc⟩ := htc k t.times[k] (List.getElem?_eq_getElem hlt)
        have hcr : wr.cell? (ad.add k) = some (.int .i64 t.times[k]) := by
          rw [World.cell?_of_block (o.1 _ (World.block_lt_of_cell? w _ hc))]; exact hc
        have hlt' : ((k : Int) < (t.times.length : Int)) := by omega
        have hw : wrap64 ((k : Int) + 1) = ((k + 1 : Nat) : Int) := by unfold wrap64; omega
        obtain ⟨y0, y1⟩ := hg.times _ (List.getElem_mem hlt)
        go_wp2_with (go_at_call 14; refine (Tryd.number_calls wr _ Ex [headLine t] (timesLine (t.times.take k)) false t.times[k] hWr (by simp) (by simp [timesLine]; omega) y0 y1 (tab_old htab o.1)).mono ?_)
        rintro e w8 ⟨rfl, hW8, hF8⟩
        go_wp2
        go_roundw
        case rel =>
          refine ⟨k + 1, by omega, by go_num, ?_, hFr.trans hF8⟩
          rw [timesLine_take _ _ hlt]
          exact hW8
        case measure => simp [intOf]; omega
      · as_aux_lemma =>
          have hlt' : ¬ ((k : Int) < (t.times.length : Int)) := by omega
          have hkl : k = t.times.length := by omega
          subst hkl
          rw [List.take_length] at hWr
          have c8 : wr.cell? ⟨w.heap.size, 4, none⟩ = some (.slice po t.parts.length pcap) := by rw [Lib.cell_of_heap o.2]; rfl
          clear hk hlt c7 o7
          go_wp2
          go_loopw [43] (fun i wr => ∃ k : Nat, k ≤ t.parts.length ∧ i = .int .i64 k ∧ OutRel w w7 wr t Ex k)
            (fun i _ => t.parts.length - (intOf i).toNat)
          case atStart => exact ⟨0, Nat.zero_le _, rfl, hWr, hFr⟩
          case round =>
            as_aux_lemma =>
              obtain ⟨k, hk, rfl, hWr, hFr⟩ := hrel
              obtain ⟨wo, hwo⟩ : ∃ wo, wo = wr := ⟨_, rfl⟩
              subst hwo
              have hF := hF7.trans hFr
              have o := hold _ hF
              have hmax := hg.pmax
              by_cases hlt : k < t.parts.length
              · obtain ⟨ad, va, vs, rfl, d0, d1, d2, ⟨a1, cap1, rfl, ia⟩, ⟨a2, cap2, rfl, is⟩⟩ := hpc k t.parts[k] (List.getElem?_eq_getElem hlt)
                have hq := hg.parts _ (List.getElem_mem hlt)
                have hpt := parts_take hlt
                generalize t.parts[k] = q at *
                have key : ∀ {a : Addr} {u : Value}, w.cell? a = some u → wo.cell? a = some u := fun {a u} hu => by
                  rw [World.cell?_of_block (o.1 _ (World.block_lt_of_cell? w _ hu))]; exact hu
                replace d0 := key d0
                replace d1 := key d1
                replace d2 := key d2
                rw [add_next _ _ _ (by decide)] at d1 d2
                have hlt' : ((k : Int) < (t.parts.length : Int)) := by omega
                have hw : wrap64 ((k : Int) + 1) = ((k + 1 : Nat) : Int) := by unfold wrap64; omega
                clear key
                rw [← hq.len] at d1
                have hWa := hWr.alloc (.cells #[.slice a1 q.1.length cap1, .slice a2 q.1.length cap2, .int .i64 q.2.2] 51)
                have hLt := hWr.lt
                have hloc0 : (wo.alloc (.cells #[.slice a1 q.1.length cap1, .slice a2 q.1.length cap2, .int .i64 q.2.2] 51)).heap[wo.heap.size]? = some (.cells #[.slice a1 q.1.length cap1, .slice a2 q.1.length cap2, .int .i64 q.2.2] 51 (0, 0)) := heap_alloc_new wo _
                obtain ⟨m0, m1⟩ := hq.mult
                go_wp2_with (go_at_call 13; refine (Tryd.line_calls _ _ (fun b => Ex b ∨ b = wo.heap.size) _ false kwPart hWa (by simp; omega)).mono ?_)
                rintro e w8 ⟨rfl, hW8, hF8⟩
                have l8 := (hF8.block _ (.inr rfl)).trans hloc0
                have hF8o := hF.trans ((FrE.alloc hLt _).trans (hF8.mono fun b => .inl))
                have o8 := hold _ hF8o
                have x8 : w8.cell? ⟨wo.heap.size, 2, none⟩ = some (.int .i64 q.2.2) := by rw [Lib.cell_of_heap l8]; rfl
                go_wp2_with (go_at_call 14; refine (Tryd.number_calls w8 _ (fun b => Ex b ∨ b = wo.heap.size) _ _ false q.2.2 hW8 (by simp; omega) (by simp) m0 m1 (tab_old htab o8.1)).mono ?_)
                rintro e w9 ⟨rfl, hW9, hF9⟩
                replace hF9 := hF8.trans hF9
                have l9 := (hF9.block _ (.inr rfl)).trans hloc0
                have hF9o := hF.trans ((FrE.alloc hLt _).trans (hF9.mono fun b => .inl))
                have x9 : w9.cell? ⟨wo.heap.size, 0, none⟩ = some (.slice a1 q.1.length cap1) := by rw [Lib.cell_of_heap l9]; rfl
                clear x8 o8 hF8o l8 hF8 hW8
                go_wp2
                go_loopw [66] (fun i w' => ∃ j : Nat, j ≤ q.1.length ∧ i = .int .i64 j ∧ InRel w wo w' t k q Ex (.cells #[.slice a1 q.1.length cap1, .slice a2 q.1.length cap2, .int .i64 q.2.2] 51) j)
                  (fun i _ => q.1.length - (intOf i).toNat)
                case atStart => exact ⟨0, Nat.zero_le _, rfl, hW9, hF9⟩
                case round =>
                  as_aux_lemma =>
                    obtain ⟨j, hj, rfl, hWi, hFi⟩ := hrel
                    have li := (hFi.block _ (.inr rfl)).trans hloc0
                    have hFio := hF.trans ((FrE.alloc hLt _).trans (hFi.mono fun b => .inl))
                    have oi := hold _ hFio
                    have xi : wr.cell? ⟨wo.heap.size, 1, none⟩ = some (.slice a2 q.1.length cap2) := by rw [Lib.cell_of_heap li]; rfl
                    have hmx := hq.max
                    by_cases hlj : j < q.1.length
                    · have hLn := lenB (headLine t) (timesLine t.times) partLine t.parts (k := k) (Nat.le_trans hk hmax)
                      have hAn := lenA kwPart (Lib.itoa q.2.2) (arcWords q) (k := j) (Nat.le_trans hj hmx)
                      have ia' := IntsAt.keep (v := .slice a1 q.1.length cap1) ⟨a1, cap1, rfl, ia⟩ oi.1
                      have is' := IntsAt.keep (v := .slice a2 q.2.1.length cap2) ⟨a2, cap2, rfl, is⟩ oi.1
                      rw [← hq.len] at is'
                      refine Tryd.arc_round _ _ _ _ _ _ _ _ _ _ _ _ _ _ _ _ _ _ _ _ _ _ _ _ _ _ _ _ _ _ _ _ _ _ _ _ _ _ _ _ _ _ _ _ _ _ _ _ _ _ _ _ _ _ _ _ _ _ _ _ _ _ _ _ _ _ _ _ _ _ _ _ _ _ _ _ _ _ _ _ _ _ _ _ _ _ _ _ _ _ _ _ _ _ _ _ _ _ _ _ _ _ _ _ _ _ _ (fun b => Ex b ∨ b = wo.heap.size) _ [kwPart, Lib.itoa q.2.2] q.1 q.2.1 (.int .i64 q.2.2) wr j _ hq.len.symm hLn hAn hq.arcs hq.signs hWi ia' is' li (tab_old htab oi.1) hlj (Nat.lt_of_lt_of_le hlj hmx) ?_
                      intro x67 x68 x69 x70 x8 x9 x10 x71 x72 x73 x74 x75 x76 x77 x78 x79 x80 x81 x82 x83 x84 x85 x86 x87 x88 x89 x90 x91 x92 x93 x94 x95 x96 x97 wz hWz hFz
                      have hX : InRel w wo wz t k q Ex (.cells #[.slice a1 q.1.length cap1, .slice a2 q.1.length cap2, .int .i64 q.2.2] 51) (j + 1) := ⟨hWz, hFi.trans hFz⟩
                      dsimp only [Exit.then]
                      go_roundw
                      all_goals first
                        | exact ⟨j + 1, hlj, rfl, hX⟩
                        | exact ⟨j + 1, hlj, by go_num, hX⟩
                        | exact ⟨hlj, hX⟩
                        | exact hX
                        | (clear hw; simp [intOf]; exact meas hlj hmx)
                        | (simp [intOf]; omega)
                    · as_aux_lemma =>
                        have hlj' : ¬ ((j : Int) < (q.1.length : Int)) := by omega
                        have hjl : j = q.1.length := by omega
                        subst hjl
                        have hX : OutRel w w7 wr t Ex (k + 1) := by
                          refine ⟨?_, hFr.trans ((FrE.alloc hLt _).trans (hFi.mono fun b => .inl))⟩
                          rw [hpt]
                          have e : (arcWords q).take q.1.length = arcWords q := List.take_of_length_le (by rw [arcWords_len hq.len]; exact Nat.le_refl _)
                          rw [e] at hWi
                          exact hWi.mono fun b => .inl
                        go_wp2
                        go_roundw
                        all_goals first
                          | exact ⟨k + 1, hlt, by go_num, hX⟩
                          | exact ⟨hlt, hX⟩
                          | exact hX
                          | (clear hw; simp [intOf]; omega)
                          | (clear hw; simp [intOf]; exact meas hlt hmax)
              · as_aux_lemma =>
                  have hlt' : ¬ ((k : Int) < (t.parts.length : Int)) := by omega
                  have hkl : k = t.parts.length := by omega
                  subst hkl
                  rw [List.take_length] at hWr
                  obtain ⟨v, hd, hb, hNst, _, _, _⟩ := hWr
                  have x0 : wo.cell? ⟨w.heap.size + 1, 0, none⟩ = some v := by rw [Lib.cell_of_heap hb]; rfl
                  have x1 : wo.cell? ⟨w.heap.size + 1, 1, none⟩ = some (.bool false) := by rw [Lib.cell_of_heap hb]; rfl
                  have hsz : w.heap.size ≤ wo.heap.size := by
                    have := (Array.getElem?_eq_some_iff.1 hb).1
                    omega
                  have hbel : Below w.heap.size w wo := ⟨hF.os, hF.tape, hF.output, hsz, o.1⟩
                  go_wp2_with (go_at_call 15; refine (hjoin wo v hd hNst hsz).mono ?_; rintro e wz ⟨rfl, hz⟩)
                  go_ret
                  refine ⟨rfl, hbel.trans ⟨hz.os, hz.tape, hz.output, hz.size, fun b hb => hz.block b (by omega)⟩⟩
end Go.Proofs
/-
  ref1_Decimal: the pure function
-/
set_option linter.unusedVariables false
namespace Go.Vx
def ref1_Decimal_p1 {R : Type} (n : Nat) (a0 : Int) (k0 : (List UInt8) → Option R) (k1 : Bool → Option R) : Option R :=
 bif (bif (decide (a0 ≥ (0 : Int))) then (decide (a0 < (10 : Int))) else false) then
  gb true (slB (List.length (bs [48, 49, 50, 51, 52, 53, 54, 55, 56, 57])) (some a0) (some (IntKind.wrap .i64 (a0 + (1 : Int))))) (0, 0) fun q1 =>
  k0 (cut (bs [48, 49, 50, 51, 52, 53, 54, 55, 56, 57]) q1)
 else
  k1 (decide (a0 < (0 : Int)))
def ref1_Decimal_p2 {R : Type} (n : Nat) (h6 : Int) (h7 : List UInt8) (w5 : Bool) (k0 : Int → (List UInt8) → Option R) (k1 : Bool → Option R) : Option R :=
 bif (h6 != (0 : Int)) then
  gb true (nz (10 : Int)) () fun u19 =>
  bif (decide ((Int.tmod h6 (10 : Int)) < (0 : Int))) then
   gb true (slB (List.length (bs [48, 49, 50, 51, 52, 53, 54, 55, 56, 57])) (some (IntKind.wrap .i64 (0 - (Int.tmod h6 (10 : Int))))) (some (IntKind.wrap .i64 ((IntKind.wrap .i64 (0 - (Int.tmod h6 (10 : Int)))) + (1 : Int))))) (0, 0) fun q20 =>
   gb true (sumOk (List.length (cut (bs [48, 49, 50, 51, 52, 53, 54, 55, 56, 57]) q20) + List.length h7)) () fun u21 =>
   gb true (nz (10 : Int)) () fun u22 =>
   k0 (IntKind.wrap .i64 (Int.tdiv h6 (10 : Int))) ((cut (bs [48, 49, 50, 51, 52, 53, 54, 55, 56, 57]) q20) ++ h7)
  else
   gb true (slB (List.length (bs [48, 49, 50, 51, 52, 53, 54, 55, 56, 57])) (some (Int.tmod h6 (10 : Int))) (some (IntKind.wrap .i64 ((Int.tmod h6 (10 : Int)) + (1 : Int))))) (0, 0) fun q23 =>
   gb true (sumOk (List.length (cut (bs [48, 49, 50, 51, 52, 53, 54, 55, 56, 57]) q23) + List.length h7)) () fun u24 =>
   gb true (nz (10 : Int)) () fun u25 =>
   k0 (IntKind.wrap .i64 (Int.tdiv h6 (10 : Int))) ((cut (bs [48, 49, 50, 51, 52, 53, 54, 55, 56, 57]) q23) ++ h7)
 else
  k1 (h6 != (0 : Int))
def ref1_Decimal_r3 {R : Type} (n : Nat) (w5 : Bool) (k0 : Int → (List UInt8) → Bool → Option R) : Nat → Int → (List UInt8) → Option R
 | 0, _, _ => none
 | m + 1, h6, h7 =>
  ref1_Decimal_p2 n h6 h7 w5
   (fun w29 w30 =>
   ref1_Decimal_r3 n w5 k0 m w29 w30)
   (fun w31 =>
   k0 h6 h7 w31)
def ref1_Decimal_p4 {R : Type} (n : Nat) (w32 : Int) (w33 : List UInt8) (w5 w34 : Bool) (k0 : Option R) : Option R :=
 k0
def ref1_Decimal_p5 {R : Type} (n : Nat) (w32 : Int) (w33 : List UInt8) (w5 w34 : Bool) (k0 : (List UInt8) → Option R) (k1 : Option R) : Option R :=
 bif w5 then
  gb true (sumOk (List.length (bs [45]) + List.length w33)) () fun u35 =>
  k0 ((bs [45]) ++ w33)
 else
  k1
def ref1_Decimal_p6 {R : Type} (n : Nat) (w37 : List UInt8) (k0 : Option R) : Option R :=
 k0
def ref1_Decimal_p7 {R : Type} (n : Nat) (w33 : List UInt8) (w5 : Bool) (k0 : Option R) : Option R :=
 k0
def ref1_Decimal_p8 {R : Type} (n : Nat) (a0 : Int) (k0 : (List UInt8) → Option R) : Option R :=
 ref1_Decimal_p1 n a0
  (fun w4 =>
  k0 w4)
  (fun w5 =>
  ref1_Decimal_r3 n w5
   (fun w32 w33 w34 =>
   ref1_Decimal_p4 n w32 w33 w5 w34
    (ref1_Decimal_p5 n w32 w33 w5 w34
     (fun w37 =>
     ref1_Decimal_p6 n w37
      (k0 w37))
     (ref1_Decimal_p7 n w33 w5
      (k0 w33))))
   n a0 [])
def ref1_Decimal {R : Type} (n : Nat) (a0 : Int) (K : (List UInt8) → Option R) : Option R :=
 ref1_Decimal_p8 n a0
  (fun z38 => K z38)
end Go.Vx
/-
  The reference's Decimal is the decimal numeral.
-/
set_option linter.unusedVariables false
set_option linter.unusedSimpArgs false
namespace Go.Vx

def digB : List UInt8 := bs [48, 49, 50, 51, 52, 53, 54, 55, 56, 57]

theorem dig_at : ∀ d : Nat, d < 10 → slB (List.length digB) (some (d : Int)) (some (IntKind.wrap .i64 ((d : Int) + 1))) = some (d, d + 1) ∧ cut digB (d, d + 1) = [UInt8.ofNat (48 + d)] := by decide

theorem tmod_pos (u : Nat) : Int.tmod (u : Int) 10 = ((u % 10 : Nat) : Int) := by
  rw [Int.tmod_eq_emod_of_nonneg (by omega)]; omega
theorem tmod_neg (u : Nat) : Int.tmod (-(u : Int)) 10 = -((u % 10 : Nat) : Int) := by
  rw [Int.neg_tmod, tmod_pos]
theorem tdiv_pos (u : Nat) : Int.tdiv (u : Int) 10 = ((u / 10 : Nat) : Int) := by
  rw [Int.tdiv_eq_ediv_of_nonneg (by omega)]; omega
theorem tdiv_neg (u : Nat) : Int.tdiv (-(u : Int)) 10 = -((u / 10 : Nat) : Int) := by
  rw [Int.neg_tdiv, tdiv_pos]

theorem wrap_id {x : Int} (h0 : -4611686018427387904 ≤ x) (h1 : x ≤ 4611686018427387904) : IntKind.wrap .i64 x = x := by
  simp [IntKind.wrap, IntKind.signed, IntKind.bits]
  omega

theorem dec_step {R : Type} (n m u : Nat) (h : Int) (acc : List UInt8) (w5 : Bool) (k0 : Int → List UInt8 → Bool → Option R) (hu : 0 < u) (hu2 : u ≤ 4611686018427387904) (hh : h = (u : Int) ∨ h = -(u : Int)) (ha : acc.length ≤ 1000000) :
    ref1_Decimal_r3 n w5 k0 (m + 1) h acc = ref1_Decimal_r3 n w5 k0 m (if h < 0 then -((u / 10 : Nat) : Int) else ((u / 10 : Nat) : Int)) (UInt8.ofNat (48 + u % 10) :: acc) := by
  have hd := dig_at (u % 10) (by omega)
  have hs : sumOk (1 + acc.length) = some () := by
    unfold sumOk
    rw [show Nat.ble (1 + acc.length) 9223372036854775807 = true from Nat.ble_eq_true_of_le (by omega)]
    rfl
  have hz : nz 10 = some () := rfl
  have hne : (h != 0) = true := by
    rw [bne_iff_ne]; omega
  rw [ref1_Decimal_r3, ref1_Decimal_p2, hne]
  rcases hh with rfl | rfl
  · have e1 : decide (((u % 10 : Nat) : Int) < 0) = false := by simp; omega
    have e2 : ¬ ((u : Int) < 0) := by omega
    rw [tmod_pos, tdiv_pos, wrap_id (x := ((u / 10 : Nat) : Int)) (by omega) (by omega), if_neg e2]
    simp only [cond_true, gb, orZ, hz, Option.bind_some, e1, cond_false]
    rw [show bs [48, 49, 50, 51, 52, 53, 54, 55, 56, 57] = digB from rfl, hd.1]
    simp only [Option.bind_some, hd.2, List.length_singleton, hs, List.singleton_append]
  · have e2 : ((-(u : Int)) < 0) := by omega
    rw [tmod_neg, tdiv_neg, wrap_id (x := -((u / 10 : Nat) : Int)) (by omega) (by omega), if_pos e2]
    by_cases h0 : u % 10 = 0
    · have e1 : decide (-((u % 10 : Nat) : Int) < 0) = false := by simp; omega
      simp only [cond_true, gb, orZ, hz, Option.bind_some, e1, cond_false]
      rw [h0] at hd ⊢
      rw [show bs [48, 49, 50, 51, 52, 53, 54, 55, 56, 57] = digB from rfl, show (-((0 : Nat) : Int)) = ((0 : Nat) : Int) from rfl, hd.1]
      simp only [Option.bind_some, hd.2, List.length_singleton, hs, List.singleton_append]
    · have e1 : decide (-((u % 10 : Nat) : Int) < 0) = true := by simp; omega
      have e3 : IntKind.wrap .i64 (0 - -((u % 10 : Nat) : Int)) = ((u % 10 : Nat) : Int) := by rw [wrap_id (by omega) (by omega)]; omega
      simp only [cond_true, gb, orZ, hz, Option.bind_some, e1, cond_false, e3]
      rw [show bs [48, 49, 50, 51, 52, 53, 54, 55, 56, 57] = digB from rfl, hd.1]
      simp only [Option.bind_some, hd.2, List.length_singleton, hs, List.singleton_append]

theorem dec_zero {R : Type} (n m : Nat) (acc : List UInt8) (w5 : Bool) (k0 : Int → List UInt8 → Bool → Option R) : ref1_Decimal_r3 n w5 k0 (m + 1) 0 acc = k0 0 acc false := by
  rw [ref1_Decimal_r3, ref1_Decimal_p2]
  rfl

theorem dec_loop {R : Type} (n : Nat) (w5 : Bool) (k0 : Int → List UInt8 → Bool → Option R) : ∀ (m u : Nat) (h : Int) (acc : List UInt8), 0 < u → u < 10 ^ m → u ≤ 4611686018427387904 → (h = (u : Int) ∨ h = -(u : Int)) → acc.length + m ≤ 1000000 →
    ref1_Decimal_r3 n w5 k0 (m + 1) h acc = k0 0 (Lib.decDigits u ++ acc) false
  | 0, u, h, acc, hu, hp, _, _, _ => by simp at hp; omega
  | m + 1, u, h, acc, hu, hp, hb, hh, ha => by
    rw [dec_step n (m + 1) u h acc w5 k0 hu hb hh (by omega)]
    by_cases hs : u < 10
    · have h0 : u / 10 = 0 := by omega
      have h1 : u % 10 = u := by omega
      have e : (if h < 0 then -((u / 10 : Nat) : Int) else ((u / 10 : Nat) : Int)) = 0 := by rw [h0]; split <;> rfl
      rw [e, dec_zero, h1, Lib.decDigits, dif_pos hs]
      rfl
    · have hu' : 0 < u / 10 := by omega
      have hp' : u / 10 < 10 ^ m := by rw [Nat.pow_succ] at hp; omega
      rw [dec_loop n w5 k0 m (u / 10) _ _ hu' hp' (by omega) (by split <;> simp) (by simp only [List.length_cons]; omega)]
      have e : Lib.decDigits u = Lib.decDigits (u / 10) ++ [UInt8.ofNat (48 + u % 10)] := by rw [Lib.decDigits, dif_neg hs]
      rw [e]
      simp only [List.append_assoc, List.singleton_append]

theorem dec_len : ∀ (m u : Nat), u < 10 ^ m → (Lib.decDigits u).length ≤ m + 1
  | 0, u, h => by
    have : u = 0 := by simpa using h
    subst this
    rw [Lib.decDigits, dif_pos (by decide)]
    simp
  | m + 1, u, h => by
    rw [Lib.decDigits]
    by_cases hs : u < 10
    · rw [dif_pos hs]; simp
    · rw [dif_neg hs]
      have := dec_len m (u / 10) (by rw [Nat.pow_succ] at h; omega)
      simp only [List.length_append, List.length_singleton]
      omega

theorem dec_law {R : Type} (n : Nat) (x : Int) (hn : 20 ≤ n) (hn2 : n ≤ 900000) (h0 : -1099511627776 ≤ x) (h1 : x ≤ 1099511627776) (K : List UInt8 → Option R) : ref1_Decimal n x K = K (Lib.itoa x) := by
  unfold ref1_Decimal ref1_Decimal_p8 ref1_Decimal_p1
  by_cases hs : 0 ≤ x ∧ x < 10
  · obtain ⟨u, rfl⟩ := Int.eq_ofNat_of_zero_le hs.1
    have hd := dig_at u (by omega)
    have c : (bif decide ((u : Int) ≥ 0) then decide ((u : Int) < 10) else false) = true := by simp; omega
    rw [c]
    simp only [cond_true, gb, orZ]
    rw [show bs [48, 49, 50, 51, 52, 53, 54, 55, 56, 57] = digB from rfl, hd.1]
    simp only [Option.bind_some, hd.2]
    rw [Lib.itoa, if_neg (by omega), Lib.decDigits, dif_pos (by omega)]
    simp
  · have c : (bif decide (x ≥ 0) then decide (x < 10) else false) = false := by
      by_cases hx : 0 ≤ x
      · simp [hx]; omega
      · simp [hx]
    rw [c]
    simp only [cond_false]
    obtain ⟨m, rfl⟩ : ∃ m, n = m + 1 := ⟨n - 1, by omega⟩
    have hu : x.natAbs < 10 ^ m := Nat.lt_of_lt_of_le (show x.natAbs < 10 ^ 19 by omega) (Nat.pow_le_pow_right (by decide) (by omega))
    rw [dec_loop (m + 1) (decide (x < 0)) _ m x.natAbs x [] (by omega) hu (by omega) (by omega) (by simp; omega)]
    by_cases hx : x < 0
    · simp only [hx, decide_true, ref1_Decimal_p4, ref1_Decimal_p5, cond_true, gb, orZ, List.append_nil, ref1_Decimal_p6]
      have hl := dec_len 19 x.natAbs (by omega)
      have hso : sumOk ((bs [45]).length + (Lib.decDigits x.natAbs).length) = some () := by
        unfold sumOk
        rw [show Nat.ble ((bs [45]).length + (Lib.decDigits x.natAbs).length) 9223372036854775807 = true from Nat.ble_eq_true_of_le (by rw [show (bs [45]).length = 1 from rfl]; omega)]
        rfl
      rw [hso, Lib.itoa, if_pos hx]
      rfl
    · simp only [hx, decide_false, ref1_Decimal_p4, ref1_Decimal_p5, cond_false, List.append_nil, ref1_Decimal_p7]
      rw [Lib.itoa, if_neg hx, show x.natAbs = x.toNat by omega]
end Go.Vx
/-
  Contracts of functions of data, for walks by hand.
-/
set_option linter.unusedVariables false
namespace Go.Vx
variable {P : Program}

/-- All that is there may be read. -/
def SA (w : World) : Nat → Prop := fun b => b < w.heap.size

theorem calls_data {f : Nat} {avs : List AV} {hl : Nat → Option Ob} {av : AV} (h : CallOK P f avs hl ⟨av, [], []⟩) {w : World} {args : List Value} (hA : ArgsRd (fun _ => none) (SA w) (fun _ => none) w args avs) :
    Calls P f args.toArray w fun e w' => ∃ v, e = .returned v ∧ RdA (fun _ => none) (SA w') (fun _ => none) w' tm0 v av ∧ RowKit.Below w.heap.size w w' := by
  refine (h.2 (fun _ => none) (SA w) (fun _ => none) w args ⟨fun l o h => (by cases h), fun l l' b h => (by cases h), fun l b h => (by cases h), fun b h => h⟩ hA (fun l hl => (by rcases hl with hl | hl <;> simp [wrL] at hl))).mono fun e w' ⟨v, β', S', he, hc⟩ => ?_
  have hβ : β' = fun _ => none := funext fun l => hc.bsame l (by simp [wrL])
  subst hβ
  have hs : ∀ b, S' b → SA w' b := hc.sb
  refine ⟨v, he, ?_, ⟨hc.fr.os, hc.fr.tape, hc.fr.output, hc.fr.size, fun b hb => hc.fr.block b hb (fun ⟨l, h1, _⟩ => by simp [wrL] at h1)⟩⟩
  exact hc.res.mono hs (fun _ _ => rfl) (fun l _ => ⟨rfl, fun h => h, fun e s rows h => (by cases h), fun b cs ty fz h => (by cases h)⟩) (fun _ _ => rfl)
end Go.Vx
/-
  The types of the program
-/
namespace Go.Vx
open Go.Proofs
def gtt : TT := [(3, ⟨.int .i64, 1, 8, [.int .i64 0], [.int .i64 0], [], none⟩), (5, ⟨.int .u8, 1, 1, [.int .u8 0], [.int .u8 0], [], none⟩), (9, ⟨.str, 1, 16, [.string ⟨#[]⟩], [.str []], [], none⟩), (22, ⟨.sl 3 1, 1, 24, [.slice none 0 0], [.sl 1 []], [], none⟩), (23, ⟨.sl 51 3, 1, 24, [.slice none 0 0], [.sl 3 []], [], none⟩), (25, ⟨.struct, 5, 72, [.int .i64 0, .slice none 0 0, .int .i64 0, .int .i64 0, .slice none 0 0], [.int .i64 0, .sl 1 [], .int .i64 0, .int .i64 0, .sl 3 []], [(0, 3), (1, 22), (2, 3), (3, 3), (4, 23)], none⟩), (26, ⟨.int .i64, 1, 8, [.int .i64 0], [.int .i64 0], [], none⟩), (34, ⟨.sl 37 1, 1, 24, [.slice none 0 0], [.sl 1 []], [], none⟩), (37, ⟨.sl 41 3, 1, 24, [.slice none 0 0], [.sl 3 []], [], none⟩), (41, ⟨.struct, 3, 32, [.string ⟨#[]⟩, .int .i64 0, .int .i64 0], [.str [], .int .i64 0, .int .i64 0], [(0, 9), (1, 3), (2, 3)], some [.str, .int .i64, .int .i64]⟩), (43, ⟨.sl 60 1, 1, 24, [.slice none 0 0], [.sl 1 []], [], none⟩), (49, ⟨.struct, 2, 48, [.slice none 0 0, .slice none 0 0], [.sl 1 [], .sl 1 []], [(0, 22), (1, 22)], none⟩), (51, ⟨.struct, 3, 56, [.slice none 0 0, .slice none 0 0, .int .i64 0], [.sl 1 [], .sl 1 [], .int .i64 0], [(0, 49), (2, 3)], none⟩), (60, ⟨.sl 9 1, 1, 24, [.slice none 0 0], [.sl 1 []], [], none⟩), (71, ⟨.struct, 2, 32, [.pointer none, .slice none 0 0], [], [(0, 68), (1, 69)], none⟩), (81, ⟨.struct, 2, 32, [.slice none 0 0, .int .i64 0], [.sl 1 [], .int .i64 0], [(0, 22), (1, 3)], none⟩), (93, ⟨.int .u64, 1, 8, [.int .u64 0], [.int .u64 0], [], none⟩), (102, ⟨.int .u64, 1, 8, [.int .u64 0], [.int .u64 0], [], none⟩), (114, ⟨.int .u32, 1, 4, [.int .u32 0], [.int .u32 0], [], none⟩)]
theorem gtt_ok : TOk Tryd.prog gtt := (show mkTT Tryd.prog [3, 5, 9, 22, 23, 25, 26, 34, 37, 41, 43, 49, 51, 60, 71, 81, 93, 102, 114] = gtt by kernel_rfl) ▸ mkTT_ok _
theorem gVC {spec : Spec} {cfg : List (Nat × Cfg)} (h : SpecOK Tryd.prog spec) : VCOk Tryd.prog ⟨spec, gtt, cfg⟩ := ⟨h, gtt_ok, by kernel_rfl⟩
end Go.Vx
/-
  ref1_Decimal: the interpreter computes the pure function
-/
set_option linter.unusedVariables false
set_option linter.unusedSimpArgs false
set_option maxRecDepth 100000
namespace Go.Vx
open Go.Proofs
noncomputable def ref1_Decimal_c0 : Code := bodyOf Tryd.f21
noncomputable def ref1_Decimal_c1 : Code := cA [1, 1, 1, 1, 0, 2, 2] (bodyOf Tryd.f21)
noncomputable def ref1_Decimal_c2 : Code := cA [1, 1, 1, 1, 1] (bodyOf Tryd.f21)
noncomputable def ref1_Decimal_c3 : Code := cA [1, 1, 1, 1, 1, 0] (bodyOf Tryd.f21)
noncomputable def ref1_Decimal_c4 : Code := cA [1, 1, 1, 1, 1, 1] (bodyOf Tryd.f21)
def ref1_Decimal_C (n : Nat) : VC := ⟨specOf [], gtt, [cK 0 [0], cK 1 [0, 11], cK 2 [2], cK 3 [0, 3], cK 4 [0, 3, 4], cK 5 [0, 3, 4, 19], cK 6 [0, 3, 4, 5], cK 7 [0, 3, 4, 5, 23], cK 8 [0, 3, 4, 5], cK 9 [0, 3, 4], cK 10 [0, 3, 4], cK 11 [3, 34], cK 12 [3], cK 13 [2]]⟩
theorem ref1_Decimal_VC (n : Nat) : VCOk Tryd.prog (ref1_Decimal_C n) := gVC (specOf_ok trivial)
theorem ref1_Decimal_p1_eq {R : Type} (n : Nat) (a0 : Int) (k : Exit → St → Option R) : vexec (ref1_Decimal_C n) n ref1_Decimal_c0 ⟨38, [(0, dI a0)], []⟩ k = ref1_Decimal_p1 n a0 (fun z2 => k .ret ⟨38, [(2, dT z2)], []⟩) (fun z3 => loopN (lB (ref1_Decimal_C n) n ref1_Decimal_c1) n ⟨38, [(0, dI a0), (3, dT []), (4, dB z3)], []⟩ (blockK 0 (seqK (ref1_Decimal_C n) n ref1_Decimal_c2 k))) := by kernel_rfl
theorem ref1_Decimal_p2_eq {R : Type} (n : Nat) (h6 : Int) (h7 : List UInt8) (w5 : Bool) (k : Exit → St → Option R) : vexec (ref1_Decimal_C n) n ref1_Decimal_c1 ⟨38, [(0, dI h6), (3, dT h7), (4, dB w5)], []⟩ k = ref1_Decimal_p2 n h6 h7 w5 (fun z26 z27 => k .normal ⟨38, [(0, dI z26), (3, dT z27), (4, dB w5)], []⟩) (fun z28 => k (.exit 0) ⟨38, [(0, dI h6), (3, dT h7), (4, dB w5), (19, dB z28)], []⟩) := by kernel_rfl
theorem ref1_Decimal_r3_eq {R : Type} (n : Nat) (w5 : Bool) (k : Exit → St → Option R) : ∀ (m : Nat) (h6 : Int) (h7 : List UInt8), loopN (lB (ref1_Decimal_C n) n ref1_Decimal_c1) m ⟨38, [(0, dI h6), (3, dT h7), (4, dB w5)], []⟩ k = ref1_Decimal_r3 n w5 (fun h6 h7 w31 => k (.exit 0) ⟨38, [(0, dI h6), (3, dT h7), (4, dB w5), (19, dB w31)], []⟩) m h6 h7
 | 0, _, _ => rfl
 | m + 1, h6, h7 => (lS (by kernel_rfl) m k).trans ((ref1_Decimal_p2_eq n h6 h7 w5 (loopK (lB (ref1_Decimal_C n) n ref1_Decimal_c1) m k)).trans (cg2 (fun x0 x1 => ref1_Decimal_p2 n h6 h7 w5 x0 x1 ) (funext fun w29 => funext fun w30 => ref1_Decimal_r3_eq n w5 k m w29 w30) rfl))
theorem ref1_Decimal_p4_eq {R : Type} (n : Nat) (w32 : Int) (w33 : List UInt8) (w5 w34 : Bool) (k : Exit → St → Option R) : (blockK 0 (seqK (ref1_Decimal_C n) n ref1_Decimal_c2 k)) (.exit 0) ⟨38, [(0, dI w32), (3, dT w33), (4, dB w5), (19, dB w34)], []⟩ = ref1_Decimal_p4 n w32 w33 w5 w34 (vexec (ref1_Decimal_C n) n ref1_Decimal_c3 ⟨38, [(0, dI w32), (3, dT w33), (4, dB w5), (19, dB w34)], []⟩ (seqK (ref1_Decimal_C n) n ref1_Decimal_c4 k)) := by kernel_rfl
theorem ref1_Decimal_p5_eq {R : Type} (n : Nat) (w32 : Int) (w33 : List UInt8) (w5 w34 : Bool) (k : Exit → St → Option R) : vexec (ref1_Decimal_C n) n ref1_Decimal_c3 ⟨38, [(0, dI w32), (3, dT w33), (4, dB w5), (19, dB w34)], []⟩ k = ref1_Decimal_p5 n w32 w33 w5 w34 (fun z36 => k .normal ⟨38, [(3, dT z36)], []⟩) (k .normal ⟨38, [(3, dT w33), (34, dB w5)], []⟩) := by kernel_rfl
theorem ref1_Decimal_p6_eq {R : Type} (n : Nat) (w37 : List UInt8) (k : Exit → St → Option R) : (seqK (ref1_Decimal_C n) n ref1_Decimal_c4 k) .normal ⟨38, [(3, dT w37)], []⟩ = ref1_Decimal_p6 n w37 (k .ret ⟨38, [(2, dT w37)], []⟩) := by kernel_rfl
theorem ref1_Decimal_p7_eq {R : Type} (n : Nat) (w33 : List UInt8) (w5 : Bool) (k : Exit → St → Option R) : (seqK (ref1_Decimal_C n) n ref1_Decimal_c4 k) .normal ⟨38, [(3, dT w33), (34, dB w5)], []⟩ = ref1_Decimal_p7 n w33 w5 (k .ret ⟨38, [(2, dT w33)], []⟩) := by kernel_rfl
theorem ref1_Decimal_p8_eq {R : Type} (n : Nat) (a0 : Int) (k : Exit → St → Option R) : vexec (ref1_Decimal_C n) n ref1_Decimal_c0 ⟨38, [(0, dI a0)], []⟩ k = ref1_Decimal_p8 n a0 (fun z38 => k .ret ⟨38, [(2, dT z38)], []⟩) :=
 (ref1_Decimal_p1_eq n a0 k).trans (cg2 (fun x0 x1 => ref1_Decimal_p1 n a0 x0 x1 ) rfl (funext fun w5 => (ref1_Decimal_r3_eq n w5 (blockK 0 (seqK (ref1_Decimal_C n) n ref1_Decimal_c2 k)) n a0 []).trans (cg1 (fun x0 => ref1_Decimal_r3 n w5 x0 n a0 []) (funext fun w32 => funext fun w33 => funext fun w34 => (ref1_Decimal_p4_eq n w32 w33 w5 w34 k).trans (cg1 (fun x0 => ref1_Decimal_p4 n w32 w33 w5 w34 x0 ) ((ref1_Decimal_p5_eq n w32 w33 w5 w34 (seqK (ref1_Decimal_C n) n ref1_Decimal_c4 k)).trans (cg2 (fun x0 x1 => ref1_Decimal_p5 n w32 w33 w5 w34 x0 x1 ) (funext fun w37 => (ref1_Decimal_p6_eq n w37 k)) ((ref1_Decimal_p7_eq n w33 w5 k)))))))))
theorem ref1_Decimal_vfn {R : Type} (n : Nat) (a0 : Int) (K : AV → Option R) : vfn (ref1_Decimal_C n) n Tryd.f21 [.d (D.int .i64 a0)] [] (retF [[0]] K) = ref1_Decimal n a0 (fun r0 => K (.d (D.str r0))) :=
  (show vfn (ref1_Decimal_C n) n Tryd.f21 [.d (D.int .i64 a0)] [] (retF [[0]] K) = vexec (ref1_Decimal_C n) n ref1_Decimal_c0 ⟨38, [(0, dI a0)], []⟩ (retX gtt [.tmp 2] (retF [[0]] K)) from vfn_at (by kernel_rfl) (by kernel_rfl) rfl (by kernel_rfl) rfl (by kernel_rfl) rfl).trans ((ref1_Decimal_p8_eq n a0 (retX gtt [.tmp 2] (retF [[0]] K))).trans (by kernel_rfl))
def ref1_Decimal_K : AV → Option (List UInt8) := fun av => match av with
  | .d (D.str r0) => some r0
  | _ => none
def ref1_Decimal_e (n : Nat) : Entry := fun _ _ g avs _ k => match avs with
  | [c0] => prI g .i64 c0 fun a0 => 
    gb g (ref1_Decimal n a0 some) [] fun r => k ⟨.d (D.str r), [], []⟩
  | _ => none
theorem ref1_Decimal_ok (n : Nat) : EntryOK Tryd.prog 21 (ref1_Decimal_e n) := by
  intro R site g avs hl k r h
  unfold ref1_Decimal_e at h
  split at h
  rotate_left
  · cases h
  replace h := prI_some h
  obtain ⟨a0, h, le0⟩ := h
  replace h := gb_some h
  obtain ⟨res, h, hr⟩ := h
  refine ⟨_, h, fun hg => CallOK.conv (avs' := [.d (D.int .i64 a0)]) (.cons (le0 hg) (.nil)) (callOK_fix (K := ref1_Decimal_K) (res := res) (ref1_Decimal_VC n) (fn := Tryd.f21) (n := n) (by kernel_rfl) (by kernel_rfl) (by kernel_rfl) (ss := [[0]]) rfl ?_ ?_)⟩
  · exact (ref1_Decimal_vfn n a0 ref1_Decimal_K).trans (hr hg)
  · intro x hx
    unfold ref1_Decimal_K at hx
    split at hx
    · injection hx with hx; subst hx; rfl
    · cases hx
end Go.Vx
/-
  What the reference's FormatTimetable calls; a nest of its own.
-/
set_option linter.unusedVariables false
namespace Go.Proofs
open Go.RowKit Go.Vx

set_option maxHeartbeats 2000000 in
theorem Tryd.in_calls (w : World) (n lo hi : Int) : Calls Tryd.prog 33 #[.int .i64 n, .int .i64 lo, .int .i64 hi] w fun e w' => e = .returned (.bool (decide (n ≥ lo) && decide (n ≤ hi))) ∧ w' = w := by
  go_enter Tryd.func33, Tryd.ntmps33
  by_cases h : n ≥ lo
  · have h1 : decide (n ≥ lo) = true := by simpa using h
    go_wp2
    go_ret
    simp [h1]
  · have h1 : decide (n ≥ lo) = false := by simpa using h
    go_wp2
    go_ret
    simp

set_option maxHeartbeats 2000000 in
theorem Tryd.printable_calls (w : World) (n : Int) (h0 : -1099511627776 ≤ n) (h1 : n ≤ 1099511627776) : Calls Tryd.prog 20 #[.int .i64 n] w fun e w' => e = .returned (.bool true) ∧ w' = w := by
  have e1 : decide (n ≥ -1099511627776) = true := by simpa using h0
  have e2 : decide (n ≤ 1099511627776) = true := by simpa using h1
  go_enter Tryd.func20, Tryd.ntmps20
  go_wp2_with (go_at_call 33; refine (Tryd.in_calls w n _ _).mono ?_; rintro e w' ⟨rfl, rfl⟩; rw [e1, e2])
  go_ret
  exact ⟨rfl, rfl⟩

theorem Tryd.decimal_calls (w : World) (x : Int) (h0 : -1099511627776 ≤ x) (h1 : x ≤ 1099511627776) : Calls Tryd.prog 21 #[.int .i64 x] w fun e w' => e = .returned (.string ⟨⟨Lib.itoa x⟩⟩) ∧ w.grownBy w' none := by
  have he : ref1_Decimal_e 30 Dl 0 true [.d (.int .i64 x)] (fun _ => none) some = some ⟨.d (.str (Lib.itoa x)), [], []⟩ := by
    show gb true (ref1_Decimal 30 x some) [] (fun r => some (⟨.d (.str r), [], []⟩ : Dl)) = _
    rw [dec_law 30 x (by omega) (by omega) h0 h1]
    rfl
  obtain ⟨dl, k1, k2⟩ := ref1_Decimal_ok 30 Dl 0 true _ _ _ _ he
  simp only [Option.some.injEq] at k1
  subst k1
  refine (calls_data (k2 rfl) (args := [.int .i64 x]) ⟨rfl, fun i u av q1 q2 => ?_⟩).mono fun e w' ⟨u, he, hu, hb⟩ => ?_
  · match i, q1, q2 with
    | 0, q1, q2 =>
      simp only [List.getElem?_cons_zero, Option.some.injEq] at q1 q2
      subst q1 q2
      exact .d _ _ (.int _ _)
  · obtain ⟨b, e1, rfl⟩ := hu.str_inv
    refine ⟨?_, hb.os, hb.tape, hb.output, hb.size, fun b hb' _ => hb.block b hb'⟩
    rw [he]
    congr 2
    apply ByteArray.ext
    apply Array.ext'
    exact e1.symm
end Go.Proofs
/-
  A region that draws its order: its first operation is a move that the last ones wait for; the others of its head are quiet, its tail is forced.
-/
set_option linter.unusedVariables false
namespace Go.Proofs
open Go

section
variable {P : Program} {ops : Array Oper} {md : Region.Mode} {w : World}

/-- Each of the head, but the first, is waited for. -/
def sinkS (md : Region.Mode) (ops : Array Oper) (n : Nat) : Bool :=
  (List.range n).all fun i => i == 0 || (List.range (n + 1)).any fun j => decide (i < j) && Region.waitsFor md ops j i

theorem tail_later {n : Nat} {listed : Array Bool} (hs : sinkS md ops n = true) (hc : Region.chainB md ops n = true) (inv : HeadInv md ops n listed) (h0 : listed.getD 0 true = true) :
    ∀ (d i : Nat), n - i ≤ d → i < n → listed.getD i true = false → ∀ t, n ≤ t → t ∉ Region.ready md ops listed
  | 0, i, hd, hi, _, _, _ => by omega
  | d + 1, i, hd, hi, hun, t, ht => by
    intro hr
    obtain ⟨_, ot, hot, hall⟩ := mem_ready.1 hr
    have htlt : t < ops.size := (Array.getElem?_eq_some_iff.1 hot).1
    rcases Nat.eq_or_lt_of_le ht with htn | htn
    · subst htn
      have h1 := List.all_eq_true.1 hs i (List.mem_range.2 hi)
      have hi0 : i ≠ 0 := fun e => by rw [e, h0] at hun; cases hun
      simp only [beq_eq_false_iff_ne.2 hi0, Bool.false_or] at h1
      obtain ⟨j, hj, hj2⟩ := List.any_eq_true.1 h1
      simp only [Bool.and_eq_true, decide_eq_true_eq] at hj2
      obtain ⟨oj, hoj, e, he, hb, hon⟩ := Region.waitsFor_spec hj2.2
      have hjle := List.mem_range.1 hj
      have key : (∀ e ∈ oj.after, Region.binds md e = true → listed.getD e.on false = true) → False := fun h => by
        have h2 := h e he hb
        rw [hon, getD_both hun] at h2
        cases h2
      by_cases hjt : j = n
      · subst hjt
        have : oj = ot := Option.some.inj (hoj.symm.trans hot)
        subst this
        exact key hall
      · cases hl : listed.getD j false with
        | true => exact key (inv.closed j oj hoj hl)
        | false => exact tail_later hs hc inv h0 d j (by omega) (by omega) (getD_in (by rw [inv.size]; exact (Array.getElem?_eq_some_iff.1 hoj).1) hl) _ ht hr
    · have h1 := List.all_eq_true.1 hc t (List.mem_range.2 htlt)
      simp only [Bool.or_eq_true, decide_eq_true_eq] at h1
      rcases h1 with h1 | h1
      · omega
      · obtain ⟨o', ho', e, he, hb, hon⟩ := Region.waitsFor_spec h1
        have : o' = ot := Option.some.inj (ho'.symm.trans hot)
        subst this
        have h2 := hall e he hb
        rw [hon, getD_both (inv.tail (t - 1) (by omega) (by omega))] at h2
        cases h2

/-- An operation of the head taken ahead of the others. -/
theorem headL_first {n i : Nat} {oi : Oper} {v : Value} {L : Array Bool → Act → Prop} (hi : ops[i]? = some oi) (hsel : ∀ (j : Nat) (o : Oper) cs b, ops[j]? = some o → o.op ≠ .select cs b) (hin : i < n)
    (hw : ∀ listed, HeadInv md ops n listed → listed.getD 0 true = true → listed.getD i true = false → ∀ t, n ≤ t → t ∉ Region.ready md ops listed) (hdone : ∀ listed a, L listed a → ∀ j ∈ Region.ready md ops listed, n ≤ j) :
    ∀ (f : Nat) (listed : Array Bool) (a : Act), HeadInv md ops n listed → listed.getD 0 true = true →
      (∀ j oj, ops[j]? = some oj → j ≠ i → listed.getD j true = false → (∀ e ∈ oj.after, Region.binds md e = true → e.on ≠ i) → oi.apart ops oj = true) →
      i ∈ Region.ready md ops listed → YieldsAt P ops w oi v a → wpAnyL P md ops w n L f (listed.setIfInBounds i true) (a.put oi.dst v) → wpAnyL P md ops w n L (f + 1) listed a := by
  intro f
  induction f with
  | zero =>
    intro listed a inv h0 _ hr hy H
    refine ⟨fun h => (by rw [h] at hr; cases hr), fun j hj => ?_⟩
    have hjn : j < n := Nat.lt_of_not_le fun h => hw listed inv h0 (mem_ready.1 hr).1 j h hj
    refine ⟨hjn, ?_⟩
    by_cases hji : j = i
    · subst hji; exact hy.stOp hi H
    · have := hdone _ _ H j (ready_mono hj hji)
      omega
  | succ f ih =>
    intro listed a inv h0 hfree hr hy H
    have hun := (mem_ready.1 hr).1
    refine ⟨fun h => (by rw [h] at hr; cases hr), fun j hj => ?_⟩
    have hjn : j < n := Nat.lt_of_not_le fun h => hw listed inv h0 hun j h hj
    refine ⟨hjn, ?_⟩
    by_cases hji : j = i
    · subst hji; exact hy.stOp hi H
    · obtain ⟨hjun, oj, hoj, hall⟩ := mem_ready.1 hj
      have hap := hfree j oj hoj hji hjun fun e he hb heq => by
        have h1 := hall e he hb
        rw [heq, getD_both hun] at h1
        cases h1
      have h2 := stOp_put hoj hap (fun cs b => hsel i oi cs b hi) (fun cs b => hsel j oj cs b hoj) hy (H.2 j (ready_mono hj hji)).2
      refine stOp_mono (fun a' h3 => ih (listed.setIfInBounds j true) a' (inv.set hj hjn) ?_ (fun k ok hk hki hkun hno => hfree k ok hk hki ?_ hno) (ready_mono hr (Ne.symm hji)) h3.1 ?_) h2
      · by_cases hj0 : j = 0
        · subst hj0; rw [h0] at hjun; cases hjun
        · rw [getD_set_ne true hj0]; exact h0
      · by_cases hjk : j = k
        · subst hjk; exact hjun
        · rw [getD_set_ne true hjk] at hkun; exact hkun
      · rw [Array.setIfInBounds_comm _ _ hji]
        exact h3.2

theorem headL_lex {n g : Nat} {Lq : Act → Prop} (hsel : Region.noSelect ops = true) (hs : sinkS md ops n = true) (hc : Region.chainB md ops n = true) :
    ∀ (l : List Oper) (k : Nat) (listed : Array Bool) (a : Act), (∀ j, j < l.length → l[j]? = ops[k + j]?) → k + l.length = n → 0 < k → HeadInv md ops n listed → listed.getD 0 true = true →
    Region.lexHead md ops g l.length k listed = true → wpStill P ops w Lq l a →
    wpAnyL P md ops w n (fun listed' a' => Region.seqB md ops g n listed' = true ∧ Lq a') l.length listed a
  | [], k, listed, a, _, hk, _, _, _, hB, h => by
    have : k = n := by simpa using hk
    subst this
    exact ⟨by simpa [Region.lexHead] using hB, h⟩
  | o :: l, k, listed, a, hl, hk, hk0, inv, h0, hB, h => by
    have hk1 : ops[k]? = some o := by simpa using (hl 0 (by simp)).symm
    simp only [List.length_cons, Region.lexHead, Bool.and_eq_true] at hB
    obtain ⟨⟨hr, hf⟩, hB'⟩ := hB
    simp only [List.length_cons] at hk
    have hr' : k ∈ Region.ready md ops listed := by simpa using hr
    obtain ⟨v, hy, hK⟩ := yieldsAt_of_stOp hk1 (show stOp P ops w k (wpStill P ops w Lq l) a by unfold stOp; simp only [hk1]; exact h)
    refine headL_first hk1 (Region.noSelect_spec hsel) (by omega) (fun listed' inv' h0' hun => tail_later hs hc inv' h0' n k (by omega) (by omega) hun) (fun listed' a' hL => seqB_ready hL.1) l.length listed a inv h0 (Region.free_spec hk1 hf) hr' hy
      (headL_lex hsel hs hc l (k + 1) _ _ (fun j hj => by have := hl (j + 1) (by simp; omega); simpa [Nat.add_assoc, Nat.add_comm 1 j] using this) (by omega) (by omega) (inv.set hr' (by omega)) ?_ hB' hK)
    rw [getD_set_ne true (by omega)]
    exact h0

def moveTailB (ops : Array Oper) (n : Nat) : Bool :=
  Region.noSelect ops && decide (0 < n) && decide (n < ops.size) && sinkS .any ops n && Region.chainB .any ops n && Region.free .any ops (Array.replicate ops.size false) 0 && (Region.ready .any ops (Array.replicate ops.size false)).contains 0 &&
    Region.lexHead .any ops (ops.size - n) (n - 1) 1 ((Array.replicate ops.size false).setIfInBounds 0 true)

theorem held_of_any {Q : Exit → Act → World → Prop} : ∀ (fuel : Nat) (listed : Array Bool) (a : Act) (w : World), wpAny P md ops Q fuel listed a w → wpAnyH P md ops Q (fun _ => True) fuel listed a w
  | 0, _, _, _, h => h
  | fuel + 1, _, _, _, h => ⟨h.1, fun i hi => wpOp_mono (fun a' w' h' => ⟨trivial, held_of_any fuel _ a' w' h'⟩) (h.2 i hi)⟩

theorem wp_region_move_tail {id : Nat} {Q : Exit → Act → World → Prop} {a : Act} {w : World} {o : Oper} {l : List Oper} {v : Value} (n : Nat) (hm : P.follows .mixedOrders = true) (hQ : ∀ c a w, Q (.panic c) (a.put o.dst v) w → Q (.panic c) a w)
    (hB : moveTailB (o :: l).toArray (n + 1) = true) (hy : YieldsIf P (o :: l).toArray (fun _ => True) o v a)
    (h : wpStill P (o :: l).toArray w.drew (fun a' => wpList P (o :: l).toArray Q (l.drop n) a' w.drew) (l.take n) (a.put o.dst v)) : (Code.region id (o :: l).toArray true).wp P Q a w := by
  simp only [moveTailB, Bool.and_eq_true, decide_eq_true_eq] at hB
  obtain ⟨⟨⟨⟨⟨⟨⟨hsel, _⟩, hn⟩, hs⟩, hc⟩, hf⟩, hr⟩, hlex⟩ := hB
  have hn' : n < l.length := by simpa using hn
  have htl : (l.take n).length = n := by simp; omega
  have hdl : (l.drop n).length = (o :: l).toArray.size - (n + 1) := by simp
  have hr0 : 0 ∈ Region.ready .any (o :: l).toArray (Array.replicate (o :: l).toArray.size false) := by simpa using hr
  have inv0 : HeadInv .any (o :: l).toArray (n + 1) (Array.replicate (o :: l).toArray.size false) :=
    ⟨by simp, fun j oj _ hl => (by rw [getD_replicate_false] at hl; cases hl), fun t _ ht => getD_in (by simpa using ht) (getD_replicate_false _ _)⟩
  have inv1 := inv0.set hr0 (by omega)
  have h0 : ((Array.replicate (o :: l).toArray.size false).setIfInBounds 0 true).getD 0 true = true := by simp
  have H := headL_lex (md := .any) (g := (o :: l).toArray.size - (n + 1)) hsel hs hc (l.take n) 1 _ (a.put o.dst v) (fun j hj => by
    have hj' : j < n := by rw [htl] at hj; exact hj
    rw [Nat.add_comm 1 j]
    simp [hj']) (by rw [htl]; omega) (by omega) inv1 h0 (by rw [htl]; exact hlex) h
  refine wp_region_any hm ?_
  have G := wpAny_of_head (Q' := Q) (g := (o :: l).toArray.size - (n + 1)) (fun listed a' hL => by
    have := wpAny_of_seq (md := .any) (Q' := Q) (l.drop n) (n + 1) listed a' w.drew (fun j => by simp [List.getElem?_drop, Nat.add_right_comm n 1 j]) (by rw [hdl]; exact hL.1) hL.2
    rwa [hdl] at this) _ _ _ H
  rw [htl] at G
  have hsz : (o :: l).toArray.size = (n + ((o :: l).toArray.size - (n + 1))) + 1 := by omega
  have K := wpAnyH_take (P := P) (md := .any) (ops := (o :: l).toArray) (Q := Q) (S := fun _ => True) (i := 0) (oi := o) (v := v) (fuel := n + ((o :: l).toArray.size - (n + 1))) (listed := Array.replicate (o :: l).toArray.size false) (a := a) (w := w.drew)
    (by simp) hsel hf hr hQ hy trivial (held_of_any _ _ _ _ G)
  rw [← hsz] at K
  exact wpAny_of_held _ _ _ _ K
end

end Go.Proofs
/-
  The reference's FormatTimetable: its loop over the arcs of a part.
-/
set_option linter.unusedVariables false
namespace Go.Proofs
open Go.RowKit
attribute [local go_sem ↓] Go.wp_at_zero Go.wp_at_succ

/-- A list of words of the call's own, in a row that is none of Ex's. -/
structure Own1 (w : World) (Ex : Nat → Prop) (v : Value) (l : List (List UInt8)) : Prop where
  row : w.ownsRow 0 9 1 v l.length (l.map sV)
  out : ∀ b, v.ownBlock = some b → ¬ Ex b
  lt : ∀ b, Ex b → b < w.heap.size

theorem own_end {w W1 W2 : World} {Ex : Nat → Prop} {v : Value} {l : List (List UInt8)} {s : List UInt8} {g c2 : Nat} (h : Own1 w Ex v l) (hg2 : w.grownBy W1 none)
    (hown : W2.ownsRow 0 9 1 (.slice (some ⟨g, 0, none⟩) (l.length + 1) c2) (l.length + 1) (l.map sV ++ [sV s])) (hgrow : W1.grownBy W2 v.ownBlock) (hat : v.ownBlock = some g ∨ g = W1.heap.size) :
    Own1 W2 Ex (.slice (some ⟨g, 0, none⟩) (l.length + 1) c2) (l ++ [s]) ∧ FrE Ex w W2 := by
  have s1 := hg2.size
  have s2 := hgrow.size
  refine ⟨⟨by simpa using hown, fun b hb he => ?_, fun b hb => by have := h.lt b hb; omega⟩, ⟨hgrow.os.trans hg2.os, hgrow.tape.trans hg2.tape, hgrow.output.trans hg2.output, by omega, fun b hb => ?_⟩⟩
  · simp only [Value.ownBlock, Option.some.injEq] at hb
    subst hb
    rcases hat with h1 | h1
    · exact h.out g h1 he
    · have := h.lt g he; omega
  · have := h.lt b hb
    rw [hgrow.block b (by omega) (fun e => h.out b e.symm hb), hg2.block b this (by simp)]

theorem add_block (a : Addr) (i : Nat) : (a.add i).block = a.block := by unfold Addr.add; split <;> rfl

def onN (R : Act → World → Prop) : Exit → Act → World → Prop
  | .normal, a, w => R a w
  | _, _, _ => False

noncomputable def f10_arcs : Code := (loopsOf (Tryd.f10.body.getD .skip)).getD 2 .skip


set_option maxHeartbeats 8000000 in
set_option maxRecDepth 100000 in
theorem Tryd.farc_round (u0 u1 u2 u3 u4 u5 u8 u9 u10 u11 u12 u13 u14 u15 u16 u17 u18 u19 u20 u21 u22 u23 u24 u25 u26 u27 u28 u29 u30 u31 u32 u33 u34 u35 u36 u37 u38 u39 u40 u41 u42 u43 u44 u45 u46 u47 u48 u49 u50 u51 u52 u53 u54 u55 u56 u57 u58 u59 u60 u61 u62 u63 u64 u65 u66 u67 u68 u69 u70 u71 u72 u73 u74 u75 u76 u77 u78 u79 u80 u81 u82 u83 u84 u85 u86 u87 u88 u89 u90 u91 u92 u93 u94 u95 u96 u97 u98 u99 u100 u101 u102 u105 u106 u107 u108 u109 u110 u111 u112 u113 u114 u115 u116 u117 u118 u119 u120 u121 u122 u123 u124 u125 u126 u127 u128 u129 u130 u131 u132 u133 u134 u135 u136 u137 u138 u139 u140 u141 u142 u143 u144 u145 u146 u147 u148 u149 u150 u151 u152 u153 u154 u155 u156 u157 u158 u159 u160 v1 v2 vw : Value) (c : Nat) (Ex : Nat → Prop) (l : List (List UInt8)) (al sl : List Int) (wr : World) (j : Nat) (Q : Exit → Act → World → Prop)
    (hlen : sl.length = al.length) (hl : l.length ≤ 100000000000) (ha : ∀ a ∈ al, 0 ≤ a ∧ a < 1099511627776) (hs : ∀ s ∈ sl, s = 1 ∨ s = -1)
    (hW : Own1 wr Ex vw l) (ia : IntsAt wr v1 al) (is : IntsAt wr v2 sl) (hc : wr.heap[c]? = some (.cells #[v1, v2] 49 (0, 0)))
    (hj : j < al.length) (hjm : j < 1000) (R : Act → World → Prop) (hQe : Q = onN R)
    (hQ : ∀ (x8 x105 x106 x107 x108 x109 x110 x111 x112 x113 x114 x115 x116 x117 x118 x119 x120 x121 x122 x123 x124 x125 x126 x127 x128 x129 x130 x131 x132 x133 x134 x135 x136 x137 x138 x139 x140 x141 x142 x143 x144 x145 x146 x147 x148 x149 x150 x151 x152 x153 vz : Value) (w' : World), Own1 w' Ex vz (l ++ ((arcW al sl).drop j).take 1) → FrE Ex wr w' → R ⟨(u0 :: u1 :: u2 :: u3 :: u4 :: u5 :: .pointer (some ⟨c, 0, none⟩) :: vz :: x8 :: u9 :: u10 :: u11 :: u12 :: u13 :: u14 :: u15 :: u16 :: u17 :: u18 :: u19 :: u20 :: u21 :: u22 :: u23 :: u24 :: u25 :: u26 :: u27 :: u28 :: u29 :: u30 :: u31 :: u32 :: u33 :: u34 :: u35 :: u36 :: u37 :: u38 :: u39 :: u40 :: u41 :: u42 :: u43 :: u44 :: u45 :: u46 :: u47 :: u48 :: u49 :: u50 :: u51 :: u52 :: u53 :: u54 :: u55 :: u56 :: u57 :: u58 :: u59 :: u60 :: u61 :: u62 :: u63 :: u64 :: u65 :: u66 :: u67 :: u68 :: u69 :: u70 :: u71 :: u72 :: u73 :: u74 :: u75 :: u76 :: u77 :: u78 :: u79 :: u80 :: u81 :: u82 :: u83 :: u84 :: u85 :: u86 :: u87 :: u88 :: u89 :: u90 :: u91 :: u92 :: u93 :: u94 :: u95 :: u96 :: u97 :: u98 :: u99 :: u100 :: u101 :: u102 :: .int .i64 al.length :: .int .i64 ((j + 1 : Nat) : Int) :: x105 :: x106 :: x107 :: x108 :: x109 :: x110 :: x111 :: x112 :: x113 :: x114 :: x115 :: x116 :: x117 :: x118 :: x119 :: x120 :: x121 :: x122 :: x123 :: x124 :: x125 :: x126 :: x127 :: x128 :: x129 :: x130 :: x131 :: x132 :: x133 :: x134 :: x135 :: x136 :: x137 :: x138 :: x139 :: x140 :: x141 :: x142 :: x143 :: x144 :: x145 :: x146 :: x147 :: x148 :: x149 :: x150 :: x151 :: x152 :: x153 :: u154 :: u155 :: u156 :: u157 :: u158 :: u159 :: u160 :: []).toArray, []⟩ w') :
    Code.wp Tryd.prog f10_arcs Q ⟨(u0 :: u1 :: u2 :: u3 :: u4 :: u5 :: .pointer (some ⟨c, 0, none⟩) :: vw :: u8 :: u9 :: u10 :: u11 :: u12 :: u13 :: u14 :: u15 :: u16 :: u17 :: u18 :: u19 :: u20 :: u21 :: u22 :: u23 :: u24 :: u25 :: u26 :: u27 :: u28 :: u29 :: u30 :: u31 :: u32 :: u33 :: u34 :: u35 :: u36 :: u37 :: u38 :: u39 :: u40 :: u41 :: u42 :: u43 :: u44 :: u45 :: u46 :: u47 :: u48 :: u49 :: u50 :: u51 :: u52 :: u53 :: u54 :: u55 :: u56 :: u57 :: u58 :: u59 :: u60 :: u61 :: u62 :: u63 :: u64 :: u65 :: u66 :: u67 :: u68 :: u69 :: u70 :: u71 :: u72 :: u73 :: u74 :: u75 :: u76 :: u77 :: u78 :: u79 :: u80 :: u81 :: u82 :: u83 :: u84 :: u85 :: u86 :: u87 :: u88 :: u89 :: u90 :: u91 :: u92 :: u93 :: u94 :: u95 :: u96 :: u97 :: u98 :: u99 :: u100 :: u101 :: u102 :: .int .i64 al.length :: .int .i64 (j : Int) :: u105 :: u106 :: u107 :: u108 :: u109 :: u110 :: u111 :: u112 :: u113 :: u114 :: u115 :: u116 :: u117 :: u118 :: u119 :: u120 :: u121 :: u122 :: u123 :: u124 :: u125 :: u126 :: u127 :: u128 :: u129 :: u130 :: u131 :: u132 :: u133 :: u134 :: u135 :: u136 :: u137 :: u138 :: u139 :: u140 :: u141 :: u142 :: u143 :: u144 :: u145 :: u146 :: u147 :: u148 :: u149 :: u150 :: u151 :: u152 :: u153 :: u154 :: u155 :: u156 :: u157 :: u158 :: u159 :: u160 :: []).toArray, []⟩ wr := by
  subst hQe
  conv => arg 2; whnf
  obtain ⟨b1, cap1, rfl, ia⟩ := ia
  obtain ⟨b2, cap2, rfl, is⟩ := is
  have hlj2 : j < sl.length := by omega
  have hnext : ((arcW al sl).drop j).take 1 = [Lib.itoa (sl[j] * (al[j] + 1))] := by
    rw [List.drop_eq_getElem_cons (by simp [arcW]; omega)]
    simp [arcW]
  rw [hnext] at hQ
  obtain ⟨a1, rfl, y1⟩ := ia j al[j] (List.getElem?_eq_getElem hj)
  obtain ⟨a2, rfl, y2⟩ := is j sl[j] (List.getElem?_eq_getElem hlj2)
  obtain ⟨r0, r1⟩ := ha _ (List.getElem_mem hj)
  have hsg := hs _ (List.getElem_mem hlj2)
  generalize al[j] = av at y1 r0 r1 hQ
  generalize sl[j] = sv at y2 hsg hQ
  have x0 : wr.cell? ⟨c, 0, none⟩ = some (.slice (some a1) al.length cap1) := by rw [Lib.cell_of_heap hc]; rfl
  have x1 : wr.cell? ⟨c, 1, none⟩ = some (.slice (some a2) al.length cap2) := by rw [Lib.cell_of_heap hc, ← hlen]; rfl
  have hlj' : ((j : Int) < (al.length : Int)) := by omega
  have hwj : wrap64 ((j : Int) + 1) = ((j + 1 : Nat) : Int) := by unfold wrap64; omega
  obtain ⟨⟨p0, p1⟩, ⟨p2, p3⟩, w1, w2, n1, n2⟩ := arc_bounds r0 r1
  obtain ⟨i0, hi, hz0⟩ := Option.map_eq_some_iff.1 (show (Tryd.prog.info? 9).map (fun i => (i.zero, i.size, i.bytes)) = some (some (.string ⟨#[]⟩), 1, 16) by kernel_rfl)
  obtain ⟨hz, hz1⟩ := Prod.mk.inj hz0
  obtain ⟨hz1, hz2⟩ := Prod.mk.inj hz1
  have mixed : Tryd.prog.follows .mixedOrders = true := by kernel_rfl
  have q1 : l.length + 1 ≤ maxLen := by unfold maxLen; omega
  have q2 : (l.length + 1) * 16 ≤ 140737488355328 := by omega
  have q4 : (0 : Int) ≤ (j : Int) := by omega
  clear hnext hc ia is ha hs hlj2 hlen hz0

  rcases hsg with rfl | rfl
  · as_aux_lemma =>
      have m1 : (1 : Int) * (av + 1) = av + 1 := Int.one_mul _
      rw [m1] at hQ
      have q3 : ∀ u ∈ [sV (Lib.itoa (av + 1))], u.oneCell' = true := by simp [sV, Value.oneCell']
      have x0d : wr.drew.cell? ⟨c, 0, none⟩ = some (.slice (some a1) al.length cap1) := x0
      have x1d : wr.drew.cell? ⟨c, 1, none⟩ = some (.slice (some a2) al.length cap2) := x1
      have y1d : wr.drew.cell? (a1.add j) = some (.int .i64 av) := y1
      have y2d : wr.drew.cell? (a2.add j) = some (.int .i64 (1)) := y2
      go_wp2
      have hrow := hW.row
      refine wp_region_move_tail 12 mixed (fun c a w h => (h : False).elim) (by kernel_rfl) (.inl ⟨rfl, fun _ _ => rfl⟩) ?_
      simp only [List.take_succ_cons, List.take_zero, List.drop_succ_cons, List.drop_zero]
      repeat still_step
      refine wpStill_nil ?_
      change wpList _ _ _ _ _ wr.drew
      go_wp2_with (first
        | (go_at_call 21; refine (Tryd.decimal_calls wr.drew (av + 1) p0 p1).mono ?_; rintro e W1 ⟨rfl, hg1⟩;
           have hg2 := grown_none hg1 (World.grownBy_alloc W1 (.cells #[.string ⟨⟨Lib.itoa (av + 1)⟩⟩] 9) none);
           have ho2 : (W1.alloc (.cells #[.string ⟨⟨Lib.itoa (av + 1)⟩⟩] 9)).ownsRow 0 9 1 _ l.length (l.map sV) := World.ownsRow.kept (w := wr.drew) hrow hg2 (Classical.em _);
           have hn2 : ∀ (j : Nat) (u : Value), [sV (Lib.itoa (av + 1))][j]? = some u → (W1.alloc (.cells #[.string ⟨⟨Lib.itoa (av + 1)⟩⟩] 9)).cell? ((⟨W1.heap.size, 0, none⟩ : Addr).add j) = some u := World.news_of_block (heap_alloc_new W1 (.cells #[.string ⟨⟨Lib.itoa (av + 1)⟩⟩] 9)))
        | (at_builtin; refine wpList_append_lies (W1.alloc (.cells #[.string ⟨⟨Lib.itoa (av + 1)⟩⟩] 9)) (by rfl) _ _ 60 (by rfl) 0 9 i0 (.string ⟨#[]⟩) 1 16 Tryd.underlying60 hi hz hz1 hz2 (by rfl) (by decide) _ l.length (l.map sV) (by rfl) ho2 ⟨W1.heap.size, 0, none⟩ 1 1 [sV (Lib.itoa (av + 1))] (by rfl) rfl hn2 q3 (by decide) q1 q2 (Nat.zero_le _) _ rfl ?_; intro g c2 W2 hown hgrow hat hlt))
      have E := own_end (w := wr.drew) ⟨hW.row, hW.out, hW.lt⟩ hg2 hown hgrow hat
      go_wp2
      refine hQ _ _ _ _ _ _ _ _ _ _ _ _ _ _ _ _ _ _ _ _ _ _ _ _ _ _ _ _ _ _ _ _ _ _ _ _ _ _ _ _ _ _ _ _ _ _ _ _ _ _  _ W2 E.1 ⟨E.2.os, E.2.tape, E.2.output, E.2.size, E.2.block⟩
  · as_aux_lemma =>
      have m1 : (-1 : Int) * (av + 1) = -(av + 1) := by rw [Int.neg_mul, Int.one_mul]
      rw [m1] at hQ
      have q3 : ∀ u ∈ [sV (Lib.itoa (-(av + 1)))], u.oneCell' = true := by simp [sV, Value.oneCell']
      have x0d : wr.drew.cell? ⟨c, 0, none⟩ = some (.slice (some a1) al.length cap1) := x0
      have x1d : wr.drew.cell? ⟨c, 1, none⟩ = some (.slice (some a2) al.length cap2) := x1
      have y1d : wr.drew.cell? (a1.add j) = some (.int .i64 av) := y1
      have y2d : wr.drew.cell? (a2.add j) = some (.int .i64 (-1)) := y2
      go_wp2
      have hrow := hW.row
      refine wp_region_move_tail 12 mixed (fun c a w h => (h : False).elim) (by kernel_rfl) (.inl ⟨rfl, fun _ _ => rfl⟩) ?_
      simp only [List.take_succ_cons, List.take_zero, List.drop_succ_cons, List.drop_zero]
      repeat still_step
      refine wpStill_nil ?_
      change wpList _ _ _ _ _ wr.drew
      go_wp2_with (first
        | (go_at_call 21; refine (Tryd.decimal_calls wr.drew (-(av + 1)) p2 p3).mono ?_; rintro e W1 ⟨rfl, hg1⟩;
           have hg2 := grown_none hg1 (World.grownBy_alloc W1 (.cells #[.string ⟨⟨Lib.itoa (-(av + 1))⟩⟩] 9) none);
           have ho2 : (W1.alloc (.cells #[.string ⟨⟨Lib.itoa (-(av + 1))⟩⟩] 9)).ownsRow 0 9 1 _ l.length (l.map sV) := World.ownsRow.kept (w := wr.drew) hrow hg2 (Classical.em _);
           have hn2 : ∀ (j : Nat) (u : Value), [sV (Lib.itoa (-(av + 1)))][j]? = some u → (W1.alloc (.cells #[.string ⟨⟨Lib.itoa (-(av + 1))⟩⟩] 9)).cell? ((⟨W1.heap.size, 0, none⟩ : Addr).add j) = some u := World.news_of_block (heap_alloc_new W1 (.cells #[.string ⟨⟨Lib.itoa (-(av + 1))⟩⟩] 9)))
        | (at_builtin; refine wpList_append_lies (W1.alloc (.cells #[.string ⟨⟨Lib.itoa (-(av + 1))⟩⟩] 9)) (by rfl) _ _ 60 (by rfl) 0 9 i0 (.string ⟨#[]⟩) 1 16 Tryd.underlying60 hi hz hz1 hz2 (by rfl) (by decide) _ l.length (l.map sV) (by rfl) ho2 ⟨W1.heap.size, 0, none⟩ 1 1 [sV (Lib.itoa (-(av + 1)))] (by rfl) rfl hn2 q3 (by decide) q1 q2 (Nat.zero_le _) _ rfl ?_; intro g c2 W2 hown hgrow hat hlt))
      have E := own_end (w := wr.drew) ⟨hW.row, hW.out, hW.lt⟩ hg2 hown hgrow hat
      go_wp2
      refine hQ _ _ _ _ _ _ _ _ _ _ _ _ _ _ _ _ _ _ _ _ _ _ _ _ _ _ _ _ _ _ _ _ _ _ _ _ _ _ _ _ _ _ _ _ _ _ _ _ _ _  _ W2 E.1 ⟨E.2.os, E.2.tape, E.2.output, E.2.size, E.2.block⟩
end Go.Proofs
/-
  The reference's FormatTimetable: the first two lines; its loop over the times.
-/
set_option linter.unusedVariables false
namespace Go.Proofs
open Go.RowKit
attribute [local go_sem ↓] Go.wp_at_zero Go.wp_at_succ

structure NestE (w : World) (Ex : Nat → Prop) (v : Value) (hd : List Value) (ll : List (List (List UInt8))) : Prop where
  nest : Nest w 0 v hd ll
  out : ∀ b, NB v hd b → ¬ Ex b
  lt : ∀ b, Ex b → b < w.heap.size

theorem nestE_grow {w wa W2 : World} {Ex : Nat → Prop} {v x : Value} {hd : List Value} {ll : List (List (List UInt8))} {l : List (List UInt8)} {s : List UInt8} {g c2 i vb : Nat} (h : NestE w Ex v hd ll) (hv : v.ownBlock = some vb)
    (hx : hd[i]? = some x) (hl : ll[i]? = some l) (hg2 : w.grownBy wa none) (hown : W2.ownsRow 0 9 1 (.slice (some ⟨g, 0, none⟩) (l.length + 1) c2) (l.length + 1) (l.map sV ++ [sV s])) (hgrow : wa.grownBy W2 x.ownBlock)
    (hat : x.ownBlock = some g ∨ g = wa.heap.size) : NestE (W2.setCell ⟨vb, i, none⟩ (.slice (some ⟨g, 0, none⟩) (l.length + 1) c2)) Ex v (hd.set i (.slice (some ⟨g, 0, none⟩) (l.length + 1) c2)) (ll.set i (l ++ [s])) ∧
      FrE Ex w (W2.setCell ⟨vb, i, none⟩ (.slice (some ⟨g, 0, none⟩) (l.length + 1) c2)) := by
  have s1 := hg2.size
  have s2 := hgrow.size
  have hxb : ∀ b, x.ownBlock = some b → ¬ Ex b := fun b hb => h.out b (.inr ⟨x, List.mem_of_getElem? hx, hb⟩)
  refine ⟨⟨(h.nest.kept hg2 (Classical.em _) (fun _ _ => Classical.em _)).grow hx hl hown hgrow rfl hat rfl hv, ?_, fun b hb => by have := h.lt b hb; simp; omega⟩,
    ⟨hgrow.os.trans hg2.os, hgrow.tape.trans hg2.tape, hgrow.output.trans hg2.output, by simp; omega, fun b hb => ?_⟩⟩
  · rintro b (hb | ⟨y, hy, hb⟩) he
    · exact h.out b (.inl hb) he
    · rcases List.mem_or_eq_of_mem_set hy with hy | rfl
      · exact h.out b (.inr ⟨y, hy, hb⟩) he
      · simp only [Value.ownBlock, Option.some.injEq] at hb
        subst hb
        rcases hat with h1 | h1
        · exact hxb g h1 he
        · have := h.lt g he; omega
  · have h1 := h.lt b hb
    have h2 : b ≠ vb := fun e => h.out vb (.inl hv) (e ▸ hb)
    rw [heap_setCell_other _ _ _ _ h2, hgrow.block b (by omega) (fun e => hxb b e.symm hb), hg2.block b h1 (by simp)]

theorem fr_nest {w w' : World} {Ex : Nat → Prop} {v : Value} {hd : List Value} {ll : List (List (List UInt8))} (h : Nest w 0 v hd ll) (hE : ∀ b, NB v hd b → Ex b) (hF : FrE Ex w w') : Nest w' 0 v hd ll := by
  have key : ∀ (e n : Nat) (u : Value) (xs : List Value), (∀ b, u.ownBlock = some b → Ex b) → w.ownsRow 0 e 1 u n xs → w'.ownsRow 0 e 1 u n xs := by
    rintro e n u xs hu ⟨h1, h2⟩
    refine ⟨h1, ?_⟩
    rcases h2 with h2 | ⟨g, cap, cur, rfl, h3, h4, h5⟩
    · exact .inl h2
    · exact .inr ⟨g, cap, cur, rfl, h3, (hF.block g (hu g rfl)).trans h4, h5⟩
  exact ⟨key _ _ _ _ (fun b hb => hE b (.inl hb)) h.row, fun i x l hx hl => key _ _ _ _ (fun b hb => hE b (.inr ⟨x, List.mem_of_getElem? hx, hb⟩)) (h.each i x l hx hl), h.outer, h.apart⟩

/-- A list more, that lies by itself. -/
theorem nestE_push {w w2 : World} {Ex ExP : Nat → Prop} {v u : Value} {hd : List Value} {ll : List (List (List UInt8))} {l : List (List UInt8)} {g cap : Nat} (h : NestE w Ex v hd ll) (hE : ∀ b, Ex b → ExP b) (hN : ∀ b, NB v hd b → ExP b)
    (hu : Own1 w ExP u l) (hrow : (w2).ownsRow 0 60 1 (.slice (some ⟨g, 0, none⟩) (ll.length + 1) cap) (ll.length + 1) (hd ++ [u])) (o : Obj) (hg : (w.alloc o).grownBy w2 v.ownBlock) (hat : v.ownBlock = some g ∨ g = (w.alloc o).heap.size) :
    NestE w2 Ex (.slice (some ⟨g, 0, none⟩) (ll.length + 1) cap) (hd ++ [u]) (ll ++ [l]) ∧ FrE Ex w w2 := by
  have s1 : (w.alloc o).heap.size = w.heap.size + 1 := by simp
  have s2 := hg.size
  have ho := World.grownBy_alloc w o none
  refine ⟨⟨(h.nest.kept ho (Classical.em _) (fun _ _ => Classical.em _)).push (hu.row.kept ho (Classical.em _)) ?_ hrow hg rfl hat rfl, ?_, fun b hb => by have := h.lt b hb; omega⟩, ⟨hg.os, hg.tape, hg.output, by omega, fun b hb => ?_⟩⟩
  · intro b hb
    have h1 := hu.out b hb
    exact ⟨fun e => h1 (hN b (.inl e)), by have := hu.row.lt b hb; omega, fun x hx e => h1 (hN b (.inr ⟨x, hx, e⟩))⟩
  · rintro b (hb | ⟨y, hy, hb⟩) he
    · simp only [Value.ownBlock, Option.some.injEq] at hb
      subst hb
      rcases hat with h1 | h1
      · exact h.out g (.inl h1) he
      · have := h.lt g he; omega
    · rcases List.mem_append.1 hy with hy | hy
      · exact h.out b (.inr ⟨y, hy, hb⟩) he
      · simp only [List.mem_singleton] at hy
        subst hy
        exact hu.out b hb (hE b he)
  · have h1 := h.lt b hb
    rw [hg.block b (by omega) (fun e => h.out b (.inl e.symm) hb)]
    exact Lib.alloc_old w o b h1

def Has (w : World) (b : Nat) (o : Obj) : Prop := w.heap[b]? = some o
theorem Has.new (w : World) (o : Obj) : Has (w.alloc o) w.heap.size o := heap_alloc_new w o
theorem Has.new' {w : World} {b : Nat} (o : Obj) (h : b = w.heap.size) : Has (w.alloc o) b o := h ▸ Has.new w o
theorem Has.old {w : World} {b : Nat} {o : Obj} (h : Has w b o) (o' : Obj) : Has (w.alloc o') b o := (Lib.alloc_old w o' b (Array.getElem?_eq_some_iff.1 h).1).trans h
theorem Has.grown {w w' : World} (hg : w.grownBy w' none) {b : Nat} {o : Obj} (h : Has w b o) : Has w' b o := (hg.block b (Array.getElem?_eq_some_iff.1 h).1 (by simp)).trans h
theorem cell_old {w : World} {a : Addr} {u : Value} (h : w.cell? a = some u) (o' : Obj) : (w.alloc o').cell? a = some u := by
  rw [World.cell?_of_block (Lib.alloc_old w o' a.block (World.block_lt_of_cell? w a h))]; exact h

theorem head_nest {w W : World} {g1 g2 g3 : Nat} {s1 s2 s3 s4 s5 : List UInt8} {Ex : Nat → Prop} (hE : ∀ b, Ex b → b < w.heap.size) (hF : w.grownBy W none) (h1 : Has W g1 (.cells #[sV s1, sV s2, sV s3, sV s4] 9 (0, 0))) (h2 : Has W g2 (.cells #[sV s5] 9 (0, 0)))
    (h3 : Has W g3 (.cells #[.slice (some ⟨g1, 0, none⟩) 4 4, .slice (some ⟨g2, 0, none⟩) 1 1] 60 (0, 0))) (l1 : w.heap.size ≤ g1) (l2 : w.heap.size ≤ g2) (l3 : w.heap.size ≤ g3) :
    NestE W Ex (.slice (some ⟨g3, 0, none⟩) 2 2) [.slice (some ⟨g1, 0, none⟩) 4 4, .slice (some ⟨g2, 0, none⟩) 1 1] [[s1, s2, s3, s4], [s5]] ∧ FrE Ex w W := by
  have hs := hF.size
  have d12 : g1 ≠ g2 := by rintro rfl; have := h1.symm.trans h2; simp at this
  have d13 : g1 ≠ g3 := by rintro rfl; have := h1.symm.trans h3; simp at this
  have d23 : g2 ≠ g3 := by rintro rfl; have := h2.symm.trans h3; simp at this
  refine ⟨⟨⟨⟨rfl, .inr ⟨g3, 2, _, rfl, Nat.zero_le _, h3, Nat.le_refl _, by unfold maxLen; omega, rfl, rfl⟩⟩, fun i x l hx hl => ?_, fun i x b hx hb => ?_, fun i j x y b hx hy hbx hby => ?_⟩, fun b hb he => ?_, fun b hb => Nat.lt_of_lt_of_le (hE b hb) hs⟩,
    ⟨hF.os, hF.tape, hF.output, hs, fun b hb => hF.block b (hE b hb) (by simp)⟩⟩
  · match i, hx, hl with
    | 0, hx, hl =>
      simp only [List.getElem?_cons_zero, Option.some.injEq] at hx hl
      subst hx hl
      exact ⟨rfl, .inr ⟨g1, 4, _, rfl, Nat.zero_le _, h1, Nat.le_refl _, by unfold maxLen; omega, rfl, rfl⟩⟩
    | 1, hx, hl =>
      simp only [List.getElem?_cons_succ, List.getElem?_cons_zero, Option.some.injEq] at hx hl
      subst hx hl
      exact ⟨rfl, .inr ⟨g2, 1, _, rfl, Nat.zero_le _, h2, Nat.le_refl _, by unfold maxLen; omega, rfl, rfl⟩⟩
    | i + 2, hx, hl => simp at hx
  · match i, hx with
    | 0, hx =>
      simp only [List.getElem?_cons_zero, Option.some.injEq] at hx
      subst hx
      simp only [Value.ownBlock, Option.some.injEq] at hb
      intro e
      simp only [Value.ownBlock, Option.some.injEq] at e
      omega
    | 1, hx =>
      simp only [List.getElem?_cons_succ, List.getElem?_cons_zero, Option.some.injEq] at hx
      subst hx
      simp only [Value.ownBlock, Option.some.injEq] at hb
      intro e
      simp only [Value.ownBlock, Option.some.injEq] at e
      omega
    | i + 2, hx => simp at hx
  · match i, j, hx, hy with
    | 0, 0, _, _ => rfl
    | 1, 1, _, _ => rfl
    | 0, 1, hx, hy =>
      simp only [List.getElem?_cons_succ, List.getElem?_cons_zero, Option.some.injEq] at hx hy
      subst hx hy
      simp only [Value.ownBlock, Option.some.injEq] at hbx hby
      omega
    | 1, 0, hx, hy =>
      simp only [List.getElem?_cons_succ, List.getElem?_cons_zero, Option.some.injEq] at hx hy
      subst hx hy
      simp only [Value.ownBlock, Option.some.injEq] at hbx hby
      omega
    | i + 2, _, hx, _ => simp at hx
    | _, j + 2, _, hy => simp at hy
  · have hlt := hE b he
    rcases hb with hb | ⟨y, hy, hb⟩
    · simp only [Value.ownBlock, Option.some.injEq] at hb
      omega
    · simp only [List.mem_cons, List.not_mem_nil, or_false] at hy
      rcases hy with rfl | rfl <;> (simp only [Value.ownBlock, Option.some.injEq] at hb; omega)

theorem drew_heap (X : World) : X.drew.heap = X.heap := rfl
theorem drew_grown (X : World) : X.grownBy X.drew none := ⟨rfl, rfl, rfl, Nat.le_refl _, fun _ _ _ => rfl⟩
theorem sz_da {X W : World} {o : Obj} (h : (X.alloc o).drew.grownBy W none) : X.heap.size + 1 ≤ W.heap.size := by
  have := h.size
  rw [drew_heap] at this
  simpa using this
theorem sz_a {X W : World} {o : Obj} (h : (X.alloc o).grownBy W none) : X.heap.size + 1 ≤ W.heap.size := by
  have := h.size
  simpa using this
theorem sz_d {X W : World} (h : X.drew.grownBy W none) : X.heap.size ≤ W.heap.size := h.size
theorem head_end {w X : World} {g1 g2 g3 : Nat} {s1 s2 s3 s4 s5 : List UInt8} {Ex : Nat → Prop} (hE : ∀ b, Ex b → b < w.heap.size) (h3 : g3 = X.heap.size) (hF : w.grownBy X none) (h1 : Has X g1 (.cells #[sV s1, sV s2, sV s3, sV s4] 9 (0, 0)))
    (h2 : Has X g2 (.cells #[sV s5] 9 (0, 0))) (l1 : w.heap.size ≤ g1) (l2 : w.heap.size ≤ g2) :
    NestE (X.alloc (.cells #[.slice (some ⟨g1, 0, none⟩) 4 4, .slice (some ⟨g2, 0, none⟩) 1 1] 60 (0, 0))) Ex (.slice (some ⟨g3, 0, none⟩) 2 2) [.slice (some ⟨g1, 0, none⟩) 4 4, .slice (some ⟨g2, 0, none⟩) 1 1] [[s1, s2, s3, s4], [s5]] ∧
      FrE Ex w (X.alloc (.cells #[.slice (some ⟨g1, 0, none⟩) 4 4, .slice (some ⟨g2, 0, none⟩) 1 1] 60 (0, 0))) :=
  head_nest hE (grown_none hF (World.grownBy_alloc _ _ none)) (h1.old _) (h2.old _) (Has.new' _ h3) l1 l2 (by have := hF.size; omega)

def regsOf : Code → List Code
  | .region i o d => [.region i o d]
  | .loop c => regsOf c
  | .seq a b => regsOf a ++ regsOf b
  | .block _ c => regsOf c
  | .scope c => regsOf c
  | .cond _ a b => regsOf a ++ regsOf b
  | _ => []

noncomputable def f10_r3 : Code := (regsOf (Tryd.f10.body.getD .skip)).getD 3 .skip


set_option maxHeartbeats 8000000 in
set_option maxRecDepth 100000 in
theorem Tryd.f10_head (u0 u2 u3 u4 u5 u6 u7 u8 u9 u10 u11 u12 u13 u14 u15 u16 u17 u18 u19 u20 u21 u22 u23 u24 u25 u26 u27 u28 u29 u30 u31 u32 u33 u34 u35 u36 u37 u38 u39 u40 u41 u42 u43 u44 u45 u46 u47 u48 u49 u50 u51 u52 u53 u54 u55 u56 u57 u58 u59 u60 u61 u62 u63 u64 u65 u66 u67 u68 u69 u70 u71 u72 u73 u74 u75 u76 u77 u78 u79 u80 u81 u82 u83 u84 u85 u86 u87 u88 u89 u90 u91 u92 u93 u94 u95 u96 u97 u98 u99 u100 u101 u102 u103 u104 u105 u106 u107 u108 u109 u110 u111 u112 u113 u114 u115 u116 u117 u118 u119 u120 u121 u122 u123 u124 u125 u126 u127 u128 u129 u130 u131 u132 u133 u134 u135 u136 u137 u138 u139 u140 u141 u142 u143 u144 u145 u146 u147 u148 u149 u150 u151 u152 u153 u154 u155 u156 u157 u158 u159 u160 v1 v4 : Value) (c : Nat) (Ex : Nat → Prop) (x1 x2 x3 : Int) (w : World) (hE : ∀ b, Ex b → b < w.heap.size)
    (hc : w.heap[c]? = some (.cells #[.int .i64 x1, v1, .int .i64 x2, .int .i64 x3, v4] 25 (0, 0))) (a0 : -1099511627776 ≤ x1) (a1 : x1 ≤ 1099511627776) (b0 : -1099511627776 ≤ x2) (b1 : x2 ≤ 1099511627776) (c0 : -1099511627776 ≤ x3) (c1 : x3 ≤ 1099511627776) :
    Code.wp Tryd.prog f10_r3 (onN fun a w' => ∃ (x25 x26 x27 x28 x29 x30 x31 x32 x33 x34 x35 x36 v : Value) (hd : List Value), a = ⟨(u0 :: .pointer (some ⟨c, 0, none⟩) :: u2 :: v :: u4 :: u5 :: u6 :: u7 :: u8 :: u9 :: u10 :: u11 :: u12 :: u13 :: u14 :: u15 :: u16 :: u17 :: u18 :: u19 :: u20 :: u21 :: u22 :: u23 :: u24 :: x25 :: x26 :: x27 :: x28 :: x29 :: x30 :: x31 :: x32 :: x33 :: x34 :: x35 :: x36 :: u37 :: u38 :: u39 :: u40 :: u41 :: u42 :: u43 :: u44 :: u45 :: u46 :: u47 :: u48 :: u49 :: u50 :: u51 :: u52 :: u53 :: u54 :: u55 :: u56 :: u57 :: u58 :: u59 :: u60 :: u61 :: u62 :: u63 :: u64 :: u65 :: u66 :: u67 :: u68 :: u69 :: u70 :: u71 :: u72 :: u73 :: u74 :: u75 :: u76 :: u77 :: u78 :: u79 :: u80 :: u81 :: u82 :: u83 :: u84 :: u85 :: u86 :: u87 :: u88 :: u89 :: u90 :: u91 :: u92 :: u93 :: u94 :: u95 :: u96 :: u97 :: u98 :: u99 :: u100 :: u101 :: u102 :: u103 :: u104 :: u105 :: u106 :: u107 :: u108 :: u109 :: u110 :: u111 :: u112 :: u113 :: u114 :: u115 :: u116 :: u117 :: u118 :: u119 :: u120 :: u121 :: u122 :: u123 :: u124 :: u125 :: u126 :: u127 :: u128 :: u129 :: u130 :: u131 :: u132 :: u133 :: u134 :: u135 :: u136 :: u137 :: u138 :: u139 :: u140 :: u141 :: u142 :: u143 :: u144 :: u145 :: u146 :: u147 :: u148 :: u149 :: u150 :: u151 :: u152 :: u153 :: u154 :: u155 :: u156 :: u157 :: u158 :: u159 :: u160 :: []).toArray, []⟩ ∧ NestE w' Ex v hd [[kwTable, Lib.itoa x1, Lib.itoa x2, Lib.itoa x3], [kwTimes]] ∧ FrE Ex w w') ⟨(u0 :: .pointer (some ⟨c, 0, none⟩) :: u2 :: u3 :: u4 :: u5 :: u6 :: u7 :: u8 :: u9 :: u10 :: u11 :: u12 :: u13 :: u14 :: u15 :: u16 :: u17 :: u18 :: u19 :: u20 :: u21 :: u22 :: u23 :: u24 :: u25 :: u26 :: u27 :: u28 :: u29 :: u30 :: u31 :: u32 :: u33 :: u34 :: u35 :: u36 :: u37 :: u38 :: u39 :: u40 :: u41 :: u42 :: u43 :: u44 :: u45 :: u46 :: u47 :: u48 :: u49 :: u50 :: u51 :: u52 :: u53 :: u54 :: u55 :: u56 :: u57 :: u58 :: u59 :: u60 :: u61 :: u62 :: u63 :: u64 :: u65 :: u66 :: u67 :: u68 :: u69 :: u70 :: u71 :: u72 :: u73 :: u74 :: u75 :: u76 :: u77 :: u78 :: u79 :: u80 :: u81 :: u82 :: u83 :: u84 :: u85 :: u86 :: u87 :: u88 :: u89 :: u90 :: u91 :: u92 :: u93 :: u94 :: u95 :: u96 :: u97 :: u98 :: u99 :: u100 :: u101 :: u102 :: u103 :: u104 :: u105 :: u106 :: u107 :: u108 :: u109 :: u110 :: u111 :: u112 :: u113 :: u114 :: u115 :: u116 :: u117 :: u118 :: u119 :: u120 :: u121 :: u122 :: u123 :: u124 :: u125 :: u126 :: u127 :: u128 :: u129 :: u130 :: u131 :: u132 :: u133 :: u134 :: u135 :: u136 :: u137 :: u138 :: u139 :: u140 :: u141 :: u142 :: u143 :: u144 :: u145 :: u146 :: u147 :: u148 :: u149 :: u150 :: u151 :: u152 :: u153 :: u154 :: u155 :: u156 :: u157 :: u158 :: u159 :: u160 :: []).toArray, []⟩ w := by
  conv => arg 2; whnf
  have mixed : Tryd.prog.follows .mixedOrders = true := by kernel_rfl
  have y1 : w.drew.cell? ⟨c, 0, none⟩ = some (.int .i64 x1) := by show w.cell? _ = _; rw [Lib.cell_of_heap hc]; rfl
  have y2 : w.drew.cell? ⟨c, 2, none⟩ = some (.int .i64 x2) := by show w.cell? _ = _; rw [Lib.cell_of_heap hc]; rfl
  have y3 : w.drew.cell? ⟨c, 3, none⟩ = some (.int .i64 x3) := by show w.cell? _ = _; rw [Lib.cell_of_heap hc]; rfl
  clear hc
  have hw : w.grownBy w.drew none := ⟨rfl, rfl, rfl, Nat.le_refl _, fun _ _ _ => rfl⟩
  go_region_held3 (fun w' => w'.cell? ⟨c, 0, none⟩ = some (.int .i64 x1) ∧ w'.cell? ⟨c, 2, none⟩ = some (.int .i64 x2) ∧ w'.cell? ⟨c, 3, none⟩ = some (.int .i64 x3))
    (first
      | exact ⟨y1, y2, y3⟩
      | (refine ⟨?_, ?_, ?_⟩ <;> (repeat (first | assumption | refine cell_old ?_ _ | refine grown_cell (by assumption) ?_))))
    (first
      | (go_at_call 21; refine (Tryd.decimal_calls _ _ (by assumption) (by assumption)).mono ?_; rintro e W1 ⟨rfl, hg1⟩; (first | have hz1 := sz_da hg1 | have hz1 := sz_a hg1 | have hz1 := sz_d hg1 | have hz1 := hg1.size)))
  all_goals
    dsimp only [onN]
    refine ⟨_, _, _, _, _, _, _, _, _, _, _, _, _, _, rfl, head_end hE ?_ ?_ ?_ ?_ ?_ ?_⟩
  · simp
  · repeat (first | exact hw | refine grown_none ?_ (drew_grown _) | exact World.grownBy_alloc _ _ none | refine grown_none ?_ (World.grownBy_alloc _ _ none) | refine grown_none ?_ (by assumption))
  · repeat (first | exact Has.new' _ rfl | exact Has.new' _ (by simp) | refine Has.old ?_ _ | refine Has.grown (by assumption) ?_)
  · repeat (first | exact Has.new' _ rfl | exact Has.new' _ (by simp) | refine Has.old ?_ _ | refine Has.grown (by assumption) ?_)
  · omega
  · omega
  · simp
  · repeat (first | exact hw | refine grown_none ?_ (drew_grown _) | exact World.grownBy_alloc _ _ none | refine grown_none ?_ (World.grownBy_alloc _ _ none) | refine grown_none ?_ (by assumption))
  · repeat (first | exact Has.new' _ rfl | exact Has.new' _ (by simp) | refine Has.old ?_ _ | refine Has.grown (by assumption) ?_)
  · repeat (first | exact Has.new' _ rfl | exact Has.new' _ (by simp) | refine Has.old ?_ _ | refine Has.grown (by assumption) ?_)
  · omega
  · omega
  · simp
  · repeat (first | exact hw | refine grown_none ?_ (drew_grown _) | exact World.grownBy_alloc _ _ none | refine grown_none ?_ (World.grownBy_alloc _ _ none) | refine grown_none ?_ (by assumption))
  · repeat (first | exact Has.new' _ rfl | exact Has.new' _ (by simp) | refine Has.old ?_ _ | refine Has.grown (by assumption) ?_)
  · repeat (first | exact Has.new' _ rfl | exact Has.new' _ (by simp) | refine Has.old ?_ _ | refine Has.grown (by assumption) ?_)
  · omega
  · omega
  · simp
  · repeat (first | exact hw | refine grown_none ?_ (drew_grown _) | exact World.grownBy_alloc _ _ none | refine grown_none ?_ (World.grownBy_alloc _ _ none) | refine grown_none ?_ (by assumption))
  · repeat (first | exact Has.new' _ rfl | exact Has.new' _ (by simp) | refine Has.old ?_ _ | refine Has.grown (by assumption) ?_)
  · repeat (first | exact Has.new' _ rfl | exact Has.new' _ (by simp) | refine Has.old ?_ _ | refine Has.grown (by assumption) ?_)
  · omega
  · omega
  · simp
  · repeat (first | exact hw | refine grown_none ?_ (drew_grown _) | exact World.grownBy_alloc _ _ none | refine grown_none ?_ (World.grownBy_alloc _ _ none) | refine grown_none ?_ (by assumption))
  · repeat (first | exact Has.new' _ rfl | exact Has.new' _ (by simp) | refine Has.old ?_ _ | refine Has.grown (by assumption) ?_)
  · repeat (first | exact Has.new' _ rfl | exact Has.new' _ (by simp) | refine Has.old ?_ _ | refine Has.grown (by assumption) ?_)
  · omega
  · omega
end Go.Proofs
/-
  The reference's FormatTimetable: its loop over the times.
-/
set_option linter.unusedVariables false
namespace Go.Proofs
open Go.RowKit
attribute [local go_sem ↓] Go.wp_at_zero Go.wp_at_succ

noncomputable def f10_times : Code := (loopsOf (Tryd.f10.body.getD .skip)).getD 0 .skip


set_option maxHeartbeats 8000000 in
set_option maxRecDepth 100000 in
theorem Tryd.ftime_round (u0 u2 u4 u5 u6 u7 u8 u9 u10 u11 u12 u13 u14 u15 u16 u17 u18 u19 u20 u21 u22 u23 u24 u25 u26 u27 u28 u29 u30 u31 u32 u33 u34 u35 u36 u37 u38 u41 u42 u43 u44 u45 u46 u47 u48 u49 u50 u51 u52 u53 u54 u55 u56 u57 u58 u59 u60 u61 u62 u63 u64 u65 u66 u67 u68 u69 u70 u71 u72 u73 u74 u75 u76 u77 u78 u79 u80 u81 u82 u83 u84 u85 u86 u87 u88 u89 u90 u91 u92 u93 u94 u95 u96 u97 u98 u99 u100 u101 u102 u103 u104 u105 u106 u107 u108 u109 u110 u111 u112 u113 u114 u115 u116 u117 u118 u119 u120 u121 u122 u123 u124 u125 u126 u127 u128 u129 u130 u131 u132 u133 u134 u135 u136 u137 u138 u139 u140 u141 u142 u143 u144 u145 u146 u147 u148 u149 u150 u151 u152 u153 u154 u155 u156 u157 u158 u159 u160 v1 : Value) (c vb vcap : Nat) (Ex : Nat → Prop) (hd : List Value) (hl l : List (List UInt8)) (tl : List Int) (x0 x2 x3 v4 : Value) (wr : World) (j : Nat) (Q : Exit → Act → World → Prop)
    (hlen : l.length ≤ 100000000000) (ht : ∀ a ∈ tl, okN a) (hW : NestE wr Ex (.slice (some ⟨vb, 0, none⟩) 2 vcap) hd [hl, l]) (ia : IntsAt wr v1 tl) (hc : wr.heap[c]? = some (.cells #[x0, v1, x2, x3, v4] 25 (0, 0)))
    (hj : j < tl.length) (hjm : j < 1000) 
    (R : Act → World → Prop) (hQe : Q = onN R)
    (hQ : ∀ (x4 x41 x42 x43 x44 x45 x46 x47 x48 x49 x50 x51 x52 x53 x54 x55 x56 x57 x58 x59 x60 x61 x62 x63 : Value) (hd' : List Value) (w' : World), NestE w' Ex (.slice (some ⟨vb, 0, none⟩) 2 vcap) hd' [hl, l ++ ((tl.map Lib.itoa).drop j).take 1] → FrE Ex wr w' → R ⟨(u0 :: .pointer (some ⟨c, 0, none⟩) :: u2 :: .slice (some ⟨vb, 0, none⟩) 2 vcap :: x4 :: u5 :: u6 :: u7 :: u8 :: u9 :: u10 :: u11 :: u12 :: u13 :: u14 :: u15 :: u16 :: u17 :: u18 :: u19 :: u20 :: u21 :: u22 :: u23 :: u24 :: u25 :: u26 :: u27 :: u28 :: u29 :: u30 :: u31 :: u32 :: u33 :: u34 :: u35 :: u36 :: u37 :: u38 :: .int .i64 tl.length :: .int .i64 ((j + 1 : Nat) : Int) :: x41 :: x42 :: x43 :: x44 :: x45 :: x46 :: x47 :: x48 :: x49 :: x50 :: x51 :: x52 :: x53 :: x54 :: x55 :: x56 :: x57 :: x58 :: x59 :: x60 :: x61 :: x62 :: x63 :: u64 :: u65 :: u66 :: u67 :: u68 :: u69 :: u70 :: u71 :: u72 :: u73 :: u74 :: u75 :: u76 :: u77 :: u78 :: u79 :: u80 :: u81 :: u82 :: u83 :: u84 :: u85 :: u86 :: u87 :: u88 :: u89 :: u90 :: u91 :: u92 :: u93 :: u94 :: u95 :: u96 :: u97 :: u98 :: u99 :: u100 :: u101 :: u102 :: u103 :: u104 :: u105 :: u106 :: u107 :: u108 :: u109 :: u110 :: u111 :: u112 :: u113 :: u114 :: u115 :: u116 :: u117 :: u118 :: u119 :: u120 :: u121 :: u122 :: u123 :: u124 :: u125 :: u126 :: u127 :: u128 :: u129 :: u130 :: u131 :: u132 :: u133 :: u134 :: u135 :: u136 :: u137 :: u138 :: u139 :: u140 :: u141 :: u142 :: u143 :: u144 :: u145 :: u146 :: u147 :: u148 :: u149 :: u150 :: u151 :: u152 :: u153 :: u154 :: u155 :: u156 :: u157 :: u158 :: u159 :: u160 :: []).toArray, []⟩ w') :
    Code.wp Tryd.prog f10_times Q ⟨(u0 :: .pointer (some ⟨c, 0, none⟩) :: u2 :: .slice (some ⟨vb, 0, none⟩) 2 vcap :: u4 :: u5 :: u6 :: u7 :: u8 :: u9 :: u10 :: u11 :: u12 :: u13 :: u14 :: u15 :: u16 :: u17 :: u18 :: u19 :: u20 :: u21 :: u22 :: u23 :: u24 :: u25 :: u26 :: u27 :: u28 :: u29 :: u30 :: u31 :: u32 :: u33 :: u34 :: u35 :: u36 :: u37 :: u38 :: .int .i64 tl.length :: .int .i64 (j : Int) :: u41 :: u42 :: u43 :: u44 :: u45 :: u46 :: u47 :: u48 :: u49 :: u50 :: u51 :: u52 :: u53 :: u54 :: u55 :: u56 :: u57 :: u58 :: u59 :: u60 :: u61 :: u62 :: u63 :: u64 :: u65 :: u66 :: u67 :: u68 :: u69 :: u70 :: u71 :: u72 :: u73 :: u74 :: u75 :: u76 :: u77 :: u78 :: u79 :: u80 :: u81 :: u82 :: u83 :: u84 :: u85 :: u86 :: u87 :: u88 :: u89 :: u90 :: u91 :: u92 :: u93 :: u94 :: u95 :: u96 :: u97 :: u98 :: u99 :: u100 :: u101 :: u102 :: u103 :: u104 :: u105 :: u106 :: u107 :: u108 :: u109 :: u110 :: u111 :: u112 :: u113 :: u114 :: u115 :: u116 :: u117 :: u118 :: u119 :: u120 :: u121 :: u122 :: u123 :: u124 :: u125 :: u126 :: u127 :: u128 :: u129 :: u130 :: u131 :: u132 :: u133 :: u134 :: u135 :: u136 :: u137 :: u138 :: u139 :: u140 :: u141 :: u142 :: u143 :: u144 :: u145 :: u146 :: u147 :: u148 :: u149 :: u150 :: u151 :: u152 :: u153 :: u154 :: u155 :: u156 :: u157 :: u158 :: u159 :: u160 :: []).toArray, []⟩ wr := by
  subst hQe
  conv => arg 2; whnf
  obtain ⟨b1, cap1, rfl, ia⟩ := ia
  have hnext : ((tl.map Lib.itoa).drop j).take 1 = [Lib.itoa tl[j]] := by
    rw [List.drop_eq_getElem_cons (by simp; omega)]
    simp
  rw [hnext] at hQ
  obtain ⟨a1, rfl, y1⟩ := ia j tl[j] (List.getElem?_eq_getElem hj)
  obtain ⟨r0, r1⟩ := ht _ (List.getElem_mem hj)
  generalize tl[j] = av at y1 r0 r1 hQ hnext
  have z1 : wr.cell? ⟨c, 1, none⟩ = some (.slice (some a1) tl.length cap1) := by rw [Lib.cell_of_heap hc]; rfl
  have hlj' : ((j : Int) < (tl.length : Int)) := by omega
  have hwj : wrap64 ((j : Int) + 1) = ((j + 1 : Nat) : Int) := by unfold wrap64; omega
  obtain ⟨i0, hi, hz0⟩ := Option.map_eq_some_iff.1 (show (Tryd.prog.info? 9).map (fun i => (i.zero, i.size, i.bytes)) = some (some (.string ⟨#[]⟩), 1, 16) by kernel_rfl)
  obtain ⟨hz, hz1⟩ := Prod.mk.inj hz0
  obtain ⟨hz1, hz2⟩ := Prod.mk.inj hz1
  have mixed : Tryd.prog.follows .mixedOrders = true := by kernel_rfl
  have q1 : l.length + 1 ≤ maxLen := by unfold maxLen; omega
  have q2 : (l.length + 1) * 16 ≤ 140737488355328 := by omega
  have q3 : ∀ u ∈ [sV (Lib.itoa av)], u.oneCell' = true := by simp [sV, Value.oneCell']
  have q4 : (0 : Int) ≤ (j : Int) := by omega
  obtain ⟨x, hx⟩ : ∃ x, hd[1]? = some x := ⟨_, List.getElem?_eq_getElem (by have := hW.nest.len; simp at this; omega)⟩
  have hxr := hW.nest.each 1 x l hx rfl
  have cx : wr.cell? ⟨vb, 1, none⟩ = some x := by
    have := hW.nest.row.cells (g := vb) rfl 1 x hx
    rwa [show ((⟨vb, 0, none⟩ : Addr).add 1) = ⟨vb, 1, none⟩ from by unfold Addr.add; split <;> simp_all] at this
  have hvlt := (hW.nest.row.lt vb rfl).2
  obtain ⟨cur, hcur⟩ : ∃ cur, wr.heap[vb]? = some (.cells cur 60 (0, 0)) := by
    rcases hW.nest.row.2 with ⟨e, _⟩ | ⟨g, cap', cur, e, _, hg, _⟩
    · cases e
    · cases e; exact ⟨cur, hg⟩
  have hxv : some vb ≠ x.ownBlock := fun e => hW.nest.outer 1 x vb hx e.symm rfl
  clear hc ia ht hlen hnext hz0
  go_wp2_with (go_at_call 20; refine (Tryd.printable_calls wr av r0 r1).mono ?_; rintro e w' ⟨rfl, rfl⟩)
  have y1d : w'.drew.cell? (a1.add j) = some (.int .i64 av) := y1
  have z1d : w'.drew.cell? ⟨c, 1, none⟩ = some (.slice (some a1) tl.length cap1) := z1
  have cxd : w'.drew.cell? ⟨vb, 1, none⟩ = some x := cx
  have hlt1 : (1 : Int) < 2 := by decide
  go_region_law (first
    | (go_simp; refine (Tryd.decimal_calls w'.drew av r0 r1).mono ?_; rintro e W1 ⟨rfl, hg1⟩;
       have k0 := grown_cell hg1 y1d; have k1 := grown_cell hg1 z1d; have kx := grown_cell hg1 cxd;
       have hg2 := grown_none hg1 (World.grownBy_alloc W1 (.cells #[.string ⟨⟨Lib.itoa av⟩⟩] 9) none);
       have hs2 : w'.heap.size ≤ (W1.alloc (.cells #[.string ⟨⟨Lib.itoa av⟩⟩] 9)).heap.size := hg2.size;
       have m0 := grown_cell hg2 y1d; have m1 := grown_cell hg2 z1d; have mx := grown_cell hg2 cxd;
       have ho2 : (W1.alloc (.cells #[.string ⟨⟨Lib.itoa av⟩⟩] 9)).ownsRow 0 9 1 _ l.length (l.map sV) := World.ownsRow.kept (w := w'.drew) hxr hg2 (Classical.em _);
       have hn2 : ∀ (j : Nat) (u : Value), [sV (Lib.itoa av)][j]? = some u → (W1.alloc (.cells #[.string ⟨⟨Lib.itoa av⟩⟩] 9)).cell? ((⟨W1.heap.size, 0, none⟩ : Addr).add j) = some u := World.news_of_block (heap_alloc_new W1 (.cells #[.string ⟨⟨Lib.itoa av⟩⟩] 9)))
    | (refine step_append_lies (W1.alloc (.cells #[.string ⟨⟨Lib.itoa av⟩⟩] 9)) (by rfl) _ _ 60 (by rfl) 0 9 i0 (.string ⟨#[]⟩) 1 16 Tryd.underlying60 hi hz hz1 hz2 (by rfl) (by decide) _ l.length (l.map sV) (by rfl) ho2 ⟨W1.heap.size, 0, none⟩ 1 1 [sV (Lib.itoa av)] (by rfl) rfl hn2 q3 (by decide) q1 q2 (Nat.zero_le _) _ rfl ?_; intro g c2 W2 hown hgrow hat hlt;
       have rx := (hgrow.cell_far ⟨vb, 1, none⟩ (Nat.lt_of_lt_of_le hvlt hs2) hxv).trans mx;
       have rf := frozen_of_row W2 vb 1 cur 60 ((hgrow.block vb (Nat.lt_of_lt_of_le hvlt hs2) hxv).trans ((hg2.block vb hvlt (fun e => by cases e)).trans hcur))))
  all_goals go_wp2
  all_goals
   have E := nestE_grow (i := 1) (w := w'.drew) ⟨⟨hW.nest.row, hW.nest.each, hW.nest.outer, hW.nest.apart⟩, hW.out, hW.lt⟩ rfl hx rfl hg2 hown hgrow hat
   exact hQ _ _ _ _ _ _ _ _ _ _ _ _ _ _ _ _ _ _ _ _ _ _ _ _  _ _ E.1 ⟨E.2.os, E.2.tape, E.2.output, E.2.size, E.2.block⟩
end Go.Proofs
/-
  The reference's FormatTimetable: its walk up to the joining of the lines.
-/
set_option linter.unusedVariables false
namespace Go.Proofs
open Go.RowKit

theorem own1_start {w W1 : World} {Ex : Nat → Prop} {s1 s2 : List UInt8} (hE : ∀ b, Ex b → b < w.heap.size) (hg : w.grownBy W1 none) :
    Own1 (W1.alloc (.cells #[sV s1, sV s2] 9)) Ex (.slice (some ⟨W1.heap.size, 0, none⟩) 2 2) [s1, s2] ∧ FrE Ex w (W1.alloc (.cells #[sV s1, sV s2] 9)) := by
  have hs := hg.size
  have hs2 : (W1.alloc (.cells #[sV s1, sV s2] 9)).heap.size = W1.heap.size + 1 := by simp
  refine ⟨⟨⟨rfl, .inr ⟨W1.heap.size, 2, _, rfl, Nat.zero_le _, heap_alloc_new _ _, Nat.le_refl _, by unfold maxLen; omega, rfl, rfl⟩⟩, fun b hb he => ?_, fun b hb => by have := hE b hb; omega⟩, ⟨hg.os, hg.tape, hg.output, by omega, fun b hb => ?_⟩⟩
  · simp only [Value.ownBlock, Option.some.injEq] at hb
    have := hE b he
    omega
  · have := hE b hb
    rw [Lib.alloc_old W1 _ b (by omega), hg.block b this (by simp)]

/-- What stands in a round of the reference's loop over the arcs. -/
structure ArcR (wc w' : World) (q : PartD) (ExP : Nat → Prop) (vw : Value) (j : Nat) : Prop where
  own : Own1 w' ExP vw ([kwPart, Lib.itoa q.2.2] ++ (arcWords q).take j)
  fr : FrE ExP wc w'
/-- What stands in a round of its loop over the parts. -/
structure PartR (w1 w' : World) (t : TTD) (Ex : Nat → Prop) (v : Value) (hd : List Value) (k : Nat) : Prop where
  nest : NestE w' Ex v hd (headLine t :: timesLine t.times :: (t.parts.take k).map partLine)
  fr : FrE Ex w1 w'
theorem nb_lt {w : World} {Ex : Nat → Prop} {v : Value} {hd : List Value} {ll : List (List (List UInt8))} (h : NestE w Ex v hd ll) : ∀ b, NB v hd b → b < w.heap.size := by
  rintro b (hb | ⟨x, hx, hb⟩)
  · exact (h.nest.row.lt b hb).2
  · obtain ⟨i, hi⟩ := List.getElem?_of_mem hx
    exact (h.nest.blk hi hb).2
theorem PartR.step {w1 wo wr w2 : World} {t : TTD} {Ex ExP : Nat → Prop} {v vw : Value} {hd : List Value} {k g cap n : Nat} {q : PartD} {o : Obj} (h : PartR w1 wo t Ex v hd k) (hn : (headLine t :: timesLine t.times :: (t.parts.take k).map partLine).length = n) (hP : ∀ b, b < wo.heap.size → ExP b) (hF : FrE (fun b => b < wo.heap.size) wo wr)
    (hpt : (t.parts.take (k + 1)).map partLine = (t.parts.take k).map partLine ++ [partLine q]) (hu : Own1 wr ExP vw (partLine q)) (hrow : w2.ownsRow 0 60 1 (.slice (some ⟨g, 0, none⟩) (n + 1) cap) (n + 1) (hd ++ [vw]))
    (hg : (wr.alloc o).grownBy w2 v.ownBlock) (hat : v.ownBlock = some g ∨ g = (wr.alloc o).heap.size) : PartR w1 w2 t Ex (.slice (some ⟨g, 0, none⟩) (n + 1) cap) (hd ++ [vw]) (k + 1) := by
  subst hn
  have hN : NestE wr Ex v hd (headLine t :: timesLine t.times :: (t.parts.take k).map partLine) := ⟨fr_nest h.nest.nest (nb_lt h.nest) hF, h.nest.out, fun b hb => Nat.lt_of_lt_of_le (h.nest.lt b hb) hF.size⟩
  have E := nestE_push hN (fun b hb => hP b (h.nest.lt b hb)) (fun b hb => hP b (nb_lt h.nest b hb)) hu hrow o hg hat
  refine ⟨?_, h.fr.trans ((hF.mono fun b hb => h.nest.lt b hb).trans E.2)⟩
  rw [hpt]
  exact E.1
theorem plen {t : TTD} {k : Nat} (h : k ≤ t.parts.length) : (headLine t :: timesLine t.times :: (t.parts.take k).map partLine).length + 1 = k + 1 + 1 + 1 := by simp; omega
theorem lenC {n : Nat} (h : n ≤ 100000000000) : n + 1 ≤ maxLen ∧ (n + 1) * 24 ≤ 140737488355328 := by unfold maxLen; omega
theorem wrapS {k n : Nat} (h : k < n) (hn : n ≤ 1000) : wrap64 ((k : Int) + 1) = ((k + 1 : Nat) : Int) := by unfold wrap64; omega
theorem meas2 {n j : Nat} (h : j < n) : n - ((j : Int) + 1).toNat < n - j := by
  have e : (j : Int) + 1 = ((j + 1 : Nat) : Int) := rfl
  rw [e, Int.toNat_natCast]
  omega
structure TimeR (w1 w' : World) (t : TTD) (Ex : Nat → Prop) (v : Value) (hd : List Value) (k : Nat) : Prop where
  nest : NestE w' Ex v hd [headLine t, timesLine (t.times.take k)]
  fr : FrE Ex w1 w'
theorem ArcR.step {wc w' wz : World} {q : PartD} {ExP : Nat → Prop} {vw vz : Value} {j : Nat} (h : ArcR wc w' q ExP vw j) (ho : Own1 wz ExP vz ([kwPart, Lib.itoa q.2.2] ++ (arcWords q).take j ++ ((arcW q.1 q.2.1).drop j).take 1)) (hf : FrE ExP w' wz) : ArcR wc wz q ExP vz (j + 1) := by
  refine ⟨?_, h.fr.trans hf⟩
  rw [List.append_assoc] at ho
  have : (arcWords q).take (j + 1) = (arcWords q).take j ++ ((arcW q.1 q.2.1).drop j).take 1 := by
    unfold arcWords
    rw [List.take_add]
  rw [this]
  exact ho
theorem TimeR.step {w1 w' wz : World} {t : TTD} {Ex : Nat → Prop} {v : Value} {hd hd' : List Value} {k : Nat} (h : TimeR w1 w' t Ex v hd k) (ho : NestE wz Ex v hd' [headLine t, timesLine (t.times.take k) ++ ((t.times.map Lib.itoa).drop k).take 1]) (hf : FrE Ex w' wz) : TimeR w1 wz t Ex v hd' (k + 1) := by
  refine ⟨?_, h.fr.trans hf⟩
  have : timesLine (t.times.take (k + 1)) = timesLine (t.times.take k) ++ ((t.times.map Lib.itoa).drop k).take 1 := by
    simp only [timesLine, List.take_add, List.map_append, List.map_take, List.map_drop, List.cons_append]
  rw [this]
  exact ho

theorem onN_imp {Q : Exit → Act → World → Prop} {e : Exit} {a : Act} {w : World} (h : onN (fun a w => Q .normal a w) e a w) : Q e a w := by
  cases e with
  | normal => exact h
  | _ => exact h.elim

set_option maxHeartbeats 8000000 in
set_option maxRecDepth 100000 in
theorem Tryd.fmtref_walk (w : World) (t : TTD) (vt vp : Value) (hg : GoodT t) (ht : IntsAt w vt t.times) (hp : PartsAt w vp t.parts) (res : List UInt8)
    (hjoin : ∀ (w' : World) (v : Value) (hd : List Value), Nest w' 0 v hd (fmtLines t) → w.heap.size ≤ w'.heap.size → Calls Tryd.prog 22 #[v] w' fun e w'' => e = .returned (.string ⟨⟨res⟩⟩) ∧ Below w'.heap.size w' w'') :
    Calls Tryd.prog 10 #[.agg #[.int .i64 t.per, vt, .int .i64 t.cost, .int .i64 t.bound, vp]] w fun e w' => e = .returned (.string ⟨⟨res⟩⟩) ∧ Below w.heap.size w w' := by
  obtain ⟨ao, cap, rfl, htc⟩ := ht
  obtain ⟨po, pcap, rfl, hpc⟩ := hp
  obtain ⟨B, hB⟩ : ∃ B : Obj, B = .cells #[.int .i64 t.per, .slice ao t.times.length cap, .int .i64 t.cost, .int .i64 t.bound, .slice po t.parts.length pcap] 25 := ⟨_, rfl⟩
  obtain ⟨Ex, hEx⟩ : ∃ Ex : Nat → Prop, ∀ b, Ex b ↔ b < w.heap.size + 1 := ⟨_, fun _ => Iff.rfl⟩
  have hE : ∀ b, Ex b → b < (w.alloc B).heap.size := fun b hb => by have := (hEx b).1 hb; simp; omega
  have hold : ∀ w', FrE Ex (w.alloc B) w' → (∀ b, b < w.heap.size → w'.heap[b]? = w.heap[b]?) ∧ w'.heap[w.heap.size]? = some B := by
    intro w' hF
    exact ⟨fun b hb => (hF.block b ((hEx b).2 (by omega))).trans (Lib.alloc_old w B b hb), (hF.block _ ((hEx _).2 (by omega))).trans (heap_alloc_new w B)⟩
  have hexc : Ex w.heap.size := (hEx _).2 (by omega)
  have hnew : (w.alloc B).heap[w.heap.size]? = some B := heap_alloc_new w B
  obtain ⟨g0, g1⟩ := hg.per
  obtain ⟨g2, g3⟩ := hg.cost
  obtain ⟨g4, g5⟩ := hg.bound
  subst hB
  clear hEx
  go_enter Tryd.func10, Tryd.ntmps10
  go_wp2_with (go_at_call 20; refine (Tryd.printable_calls _ _ (by assumption) (by assumption)).mono ?_; rintro e w' ⟨rfl, rfl⟩)
  refine Code.wp_mono ?_ (Tryd.f10_head _ _ _ _ _ _ _ _ _ _ _ _ _ _ _ _ _ _ _ _ _ _ _ _ _ _ _ _ _ _ _ _ _ _ _ _ _ _ _ _ _ _ _ _ _ _ _ _ _ _ _ _ _ _ _ _ _ _ _ _ _ _ _ _ _ _ _ _ _ _ _ _ _ _ _ _ _ _ _ _ _ _ _ _ _ _ _ _ _ _ _ _ _ _ _ _ _ _ _ _ _ _ _ _ _ _ _ _ _ _ _ _ _ _ _ _ _ _ _ _ _ _ _ _ _ _ _ _ _ _ _ _ _ _ _ _ _ _ _ _ _ _ _ _ _ _ _ _ _ _ _ _ _ _ _ _ _ _ _ _  _ _ w.heap.size Ex t.per t.cost t.bound _ hE hnew g0 g1 g2 g3 g4 g5)
  rintro e a w3 h
  cases e with
  | normal =>
    obtain ⟨_, _, _, _, _, _, _, _, _, _, _, _, v, hd, rfl, hN, hF⟩ := h
    have hT : TimeR (w.alloc (.cells #[.int .i64 t.per, .slice ao t.times.length cap, .int .i64 t.cost, .int .i64 t.bound, .slice po t.parts.length pcap] 25)) w3 t Ex v hd 0 := ⟨hN, hF⟩
    clear hN hF hE hnew
    have o3 := hold w3 hT.fr
    have c3 : w3.cell? ⟨w.heap.size, 1, none⟩ = some (.slice ao t.times.length cap) := by rw [Lib.cell_of_heap o3.2]; rfl
    dsimp only [Exit.then]
    obtain ⟨vb, vcap, hv, _, _⟩ := hT.nest.nest.row.form (by simp)
    replace hv : v = .slice (some ⟨vb, 0, none⟩) 2 vcap := hv
    subst hv
    go_wp2
    go_loopw [40] (fun i wr => ∃ (k : Nat) (hd : List Value), k ≤ t.times.length ∧ i = .int .i64 k ∧ TimeR (w.alloc (.cells #[.int .i64 t.per, .slice ao t.times.length cap, .int .i64 t.cost, .int .i64 t.bound, .slice po t.parts.length pcap] 25)) wr t Ex (.slice (some ⟨vb, 0, none⟩) 2 vcap) hd k)
      (fun i _ => t.times.length - (intOf i).toNat)
    case atStart => exact ⟨0, hd, Nat.zero_le _, rfl, hT⟩
    case round =>
      as_aux_lemma =>
        obtain ⟨k, hd, hk, rfl, hR⟩ := hrel
        have o := hold wr hR.fr
        have hmax := hg.tmax
        by_cases hlt : k < t.times.length
        · refine Code.wp_mono (fun e a w h => onN_imp h) (Tryd.ftime_round _ _ _ _ _ _ _ _ _ _ _ _ _ _ _ _ _ _ _ _ _ _ _ _ _ _ _ _ _ _ _ _ _ _ _ _ _ _ _ _ _ _ _ _ _ _ _ _ _ _ _ _ _ _ _ _ _ _ _ _ _ _ _ _ _ _ _ _ _ _ _ _ _ _ _ _ _ _ _ _ _ _ _ _ _ _ _ _ _ _ _ _ _ _ _ _ _ _ _ _ _ _ _ _ _ _ _ _ _ _ _ _ _ _ _ _ _ _ _ _ _ _ _ _ _ _ _ _ _ _ _ _ _ _ _ _ _ _ _ _ _ _ _ _ _ _ _ _ _ _ _ _ _ _ _ _ _  _ w.heap.size vb vcap Ex hd (headLine t) (timesLine (t.times.take k)) t.times _ _ _ _ wr k _ (by simp [timesLine]; omega) hg.times hR.nest (IntsAt.keep (w := w) ⟨ao, cap, rfl, htc⟩ o.1) o.2 hlt (by omega) _ rfl ?_)
          intro x4 x41 x42 x43 x44 x45 x46 x47 x48 x49 x50 x51 x52 x53 x54 x55 x56 x57 x58 x59 x60 x61 x62 x63 hd' wz hN hF
          have hX := hR.step hN hF
          dsimp only [Exit.then]
          go_roundw
          all_goals first
            | exact ⟨k + 1, hd', hlt, rfl, hX⟩
            | exact ⟨k + 1, hd', hlt, by go_num, hX⟩
            | (simp [intOf]; omega)
        · as_aux_lemma =>
            have hlt' : ¬ ((k : Int) < (t.times.length : Int)) := by omega
            have hkl : k = t.times.length := by omega
            subst hkl
            have hP : PartR (w.alloc (.cells #[.int .i64 t.per, .slice ao t.times.length cap, .int .i64 t.cost, .int .i64 t.bound, .slice po t.parts.length pcap] 25)) wr t Ex (.slice (some ⟨vb, 0, none⟩) 2 vcap) hd 0 := ⟨by have := hR.nest; rwa [List.take_length] at this, hR.fr⟩
            have c8 : wr.cell? ⟨w.heap.size, 4, none⟩ = some (.slice po t.parts.length pcap) := by rw [Lib.cell_of_heap o.2]; rfl
            obtain ⟨i0, hi, hz0⟩ := Option.map_eq_some_iff.1 (show (Tryd.prog.info? 60).map (fun i => (i.zero, i.size, i.bytes)) = some (some (.slice none 0 0), 1, 24) by kernel_rfl)
            obtain ⟨hz, hz1⟩ := Prod.mk.inj hz0
            obtain ⟨hz1, hz2⟩ := Prod.mk.inj hz1
            clear hk hlt hR o3 c3 hT hmax hz0
            go_wp2
            go_loopw [3, 67] (fun v i wr => ∃ (k : Nat) (hd : List Value), k ≤ t.parts.length ∧ i = .int .i64 k ∧ PartR (w.alloc (.cells #[.int .i64 t.per, .slice ao t.times.length cap, .int .i64 t.cost, .int .i64 t.bound, .slice po t.parts.length pcap] 25)) wr t Ex v hd k)
              (fun _ i _ => t.parts.length - (intOf i).toNat)
            case atStart => exact ⟨0, hd, Nat.zero_le _, rfl, hP⟩
            case round =>
              as_aux_lemma =>
                obtain ⟨k, hd, hk, rfl, hR⟩ := hrel
                obtain ⟨wo, hwo⟩ : ∃ wo, wo = wr := ⟨_, rfl⟩
                subst hwo
                have o := hold _ hR.fr
                have hmax := hg.pmax
                by_cases hlt : k < t.parts.length
                · obtain ⟨ad, va, vs, rfl, d0, d1, d2, ⟨a1, cap1, rfl, ia⟩, ⟨a2, cap2, rfl, is⟩⟩ := hpc k t.parts[k] (List.getElem?_eq_getElem hlt)
                  have hq := hg.parts _ (List.getElem_mem hlt)
                  have hpt := parts_take hlt
                  generalize t.parts[k] = q at *
                  have key : ∀ {a : Addr} {u : Value}, w.cell? a = some u → wo.cell? a = some u := fun {a u} hu => by
                    rw [World.cell?_of_block (o.1 _ (World.block_lt_of_cell? w _ hu))]; exact hu
                  replace d0 := key d0
                  replace d1 := key d1
                  replace d2 := key d2
                  rw [add_next _ _ _ (by decide)] at d1 d2
                  have hlt' : ((k : Int) < (t.parts.length : Int)) := by omega
                  have hw : wrap64 ((k : Int) + 1) = ((k + 1 : Nat) : Int) := by unfold wrap64; omega
                  clear key
                  rw [← hq.len] at d1
                  have cB : wo.cell? ⟨w.heap.size, 4, none⟩ = some (.slice (some ad) t.parts.length pcap) := by rw [Lib.cell_of_heap o.2]; rfl
                  have cBa : (wo.alloc (.cells #[.slice a1 q.1.length cap1, .slice a2 q.1.length cap2] 49)).cell? ⟨w.heap.size, 4, none⟩ = some (.slice (some ad) t.parts.length pcap) := cell_old cB _
                  have d2a : (wo.alloc (.cells #[.slice a1 q.1.length cap1, .slice a2 q.1.length cap2] 49)).cell? ⟨(ad.add (k * 3)).block, (ad.add (k * 3)).off + 2, none⟩ = some (.int .i64 q.2.2) := cell_old d2 _
                  obtain ⟨ExP, hExP⟩ : ∃ ExP : Nat → Prop, ∀ b, ExP b ↔ b < wo.heap.size + 1 := ⟨_, fun _ => Iff.rfl⟩
                  have hEP : ∀ b, ExP b → b < (wo.alloc (.cells #[.slice a1 q.1.length cap1, .slice a2 q.1.length cap2] 49)).heap.size := fun b hb => by have := (hExP b).1 hb; simp; omega
                  have hin : ∀ b, b < wo.heap.size + 1 → ExP b := fun b hb => (hExP b).2 hb
                  have hloc0 : (wo.alloc (.cells #[.slice a1 q.1.length cap1, .slice a2 q.1.length cap2] 49)).heap[wo.heap.size]? = some (.cells #[.slice a1 q.1.length cap1, .slice a2 q.1.length cap2] 49 (0, 0)) := heap_alloc_new wo _
                  obtain ⟨m0, m1⟩ := hq.mult
                  clear hExP
                  go_wp2_with (first
                    | (go_at_call 20; refine (Tryd.printable_calls _ _ (by assumption) (by assumption)).mono ?_; rintro e w' ⟨rfl, rfl⟩)
                    | (go_at_call 21; refine (Tryd.decimal_calls _ _ (by assumption) (by assumption)).mono ?_; rintro e W1 ⟨rfl, hg1⟩;
                       have hS := own1_start (s1 := kwPart) (s2 := Lib.itoa q.2.2) hEP hg1;
                       have xS := (hS.2.block _ (hin _ (Nat.lt_succ_self _))).trans hloc0;
                       have x0 : (W1.alloc (.cells #[.string ⟨#[112, 97, 114, 116]⟩, .string ⟨⟨Lib.itoa q.2.2⟩⟩] 9)).cell? ⟨wo.heap.size, 0, none⟩ = some (.slice a1 q.1.length cap1) := (show (W1.alloc (.cells #[sV kwPart, sV (Lib.itoa q.2.2)] 9)).cell? ⟨wo.heap.size, 0, none⟩ = some (.slice a1 q.1.length cap1) from (by rw [Lib.cell_of_heap xS]; rfl))))
                  have hA0 : ArcR (wo.alloc (.cells #[.slice a1 q.1.length cap1, .slice a2 q.1.length cap2] 49)) (W1.alloc (.cells #[.string ⟨#[112, 97, 114, 116]⟩, .string ⟨⟨Lib.itoa q.2.2⟩⟩] 9)) q ExP (.slice (some ⟨W1.heap.size, 0, none⟩) 2 2) 0 := ⟨hS.1, hS.2⟩
                  clear hS xS x0 hg1 d0 d1 d2 cB cBa d2a hEP
                  go_loopw [7, 104] (fun vw i w' => ∃ (j : Nat), j ≤ q.1.length ∧ i = .int .i64 j ∧ ArcR (wo.alloc (.cells #[.slice a1 q.1.length cap1, .slice a2 q.1.length cap2] 49)) w' q ExP vw j)
                    (fun _ i _ => q.1.length - (intOf i).toNat)
                  case atStart => exact ⟨0, Nat.zero_le _, rfl, hA0⟩
                  case round =>
                    as_aux_lemma =>
                      obtain ⟨j, hj, rfl, hA⟩ := hrel
                      have hmx := hq.max
                      have hFo : FrE (fun b => b < wo.heap.size) wo wr := (FrE.alloc (fun b hb => hb) _).trans (hA.fr.mono fun b hb => hin b (Nat.lt_succ_of_lt hb))
                      by_cases hlj : j < q.1.length
                      · have li := (hA.fr.block _ (hin _ (Nat.lt_succ_self _))).trans hloc0
                        have oi := hold wr (hR.fr.trans (hFo.mono fun b hb => hR.nest.lt b hb))
                        have ia' := IntsAt.keep (v := .slice a1 q.1.length cap1) ⟨a1, cap1, rfl, ia⟩ oi.1
                        have is' := IntsAt.keep (v := .slice a2 q.2.1.length cap2) ⟨a2, cap2, rfl, is⟩ oi.1
                        rw [← hq.len] at is'
                        refine Code.wp_mono (fun e a w h => onN_imp h) (Tryd.farc_round _ _ _ _ _ _ _ _ _ _ _ _ _ _ _ _ _ _ _ _ _ _ _ _ _ _ _ _ _ _ _ _ _ _ _ _ _ _ _ _ _ _ _ _ _ _ _ _ _ _ _ _ _ _ _ _ _ _ _ _ _ _ _ _ _ _ _ _ _ _ _ _ _ _ _ _ _ _ _ _ _ _ _ _ _ _ _ _ _ _ _ _ _ _ _ _ _ _ _ _ _ _ _ _ _ _ _ _ _ _ _ _ _ _ _ _ _ _ _ _ _ _ _ _ _ _ _ _ _ _ _ _ _ _ _ _ _ _ _ _ _ _ _ _ _ _ _ _ _ _ _ _ _ _ _ _ _  _ _ u7 wo.heap.size ExP _ q.1 q.2.1 wr j _ hq.len.symm (lenA kwPart (Lib.itoa q.2.2) (arcWords q) (k := j) (Nat.le_trans hj hmx)) hq.arcs hq.signs hA.own ia' is' li hlj (Nat.lt_of_lt_of_le hlj hmx) _ rfl ?_)
                        intro x8 x105 x106 x107 x108 x109 x110 x111 x112 x113 x114 x115 x116 x117 x118 x119 x120 x121 x122 x123 x124 x125 x126 x127 x128 x129 x130 x131 x132 x133 x134 x135 x136 x137 x138 x139 x140 x141 x142 x143 x144 x145 x146 x147 x148 x149 x150 x151 x152 x153 vz wz ho hf
                        have hX := hA.step ho hf
                        dsimp only [Exit.then]
                        go_roundw
                        all_goals first
                          | exact ⟨j + 1, hlj, rfl, hX⟩
                          | exact ⟨j + 1, hlj, by go_num, hX⟩
                          | (clear hw; simp [intOf]; omega)
                      · as_aux_lemma =>
                          have hlj' : ¬ ((j : Int) < (q.1.length : Int)) := fun h => hlj (Int.ofNat_lt.1 h)
                          have hjl : j = q.1.length := Nat.le_antisymm hj (Nat.le_of_not_lt hlj)
                          subst hjl
                          have hu : Own1 wr ExP u7 (partLine q) := by
                            have := hA.own
                            rwa [List.take_of_length_le (by rw [arcWords_len hq.len]; exact Nat.le_refl _)] at this
                          obtain ⟨ub, ucap, rfl, _, _⟩ := hu.row.form (by simp [partLine])
                          have hLn := lenB (headLine t) (timesLine t.times) partLine t.parts (k := k) (Nat.le_trans hk hmax)
                          obtain ⟨n, hnl⟩ : ∃ n, (headLine t :: timesLine t.times :: (t.parts.take k).map partLine).length = n := ⟨_, rfl⟩
                          rw [hnl] at hLn
                          have hb1 : n + 1 ≤ maxLen := (lenC hLn).1
                          have hb2 : (n + 1) * 24 ≤ 140737488355328 := (lenC hLn).2
                          have hN : Nest wr 0 u3 hd (headLine t :: timesLine t.times :: (t.parts.take k).map partLine) := fr_nest hR.nest.nest (nb_lt hR.nest) hFo
                          have ho : (wr.alloc (.cells #[.slice (some ⟨ub, 0, none⟩) (partLine q).length ucap] 60)).ownsRow 0 60 1 u3 n hd := hnl ▸ hN.row.alloc _
                          have hn : ∀ (j : Nat) (u : Value), [(.slice (some ⟨ub, 0, none⟩) (partLine q).length ucap : Value)][j]? = some u → (wr.alloc (.cells #[.slice (some ⟨ub, 0, none⟩) (partLine q).length ucap] 60)).cell? ((⟨wr.heap.size, 0, none⟩ : Addr).add j) = some u := World.news_of_block (heap_alloc_new wr (.cells #[.slice (some ⟨ub, 0, none⟩) (partLine q).length ucap] 60))
                          have h1c : ∀ u ∈ [(.slice (some ⟨ub, 0, none⟩) (partLine q).length ucap : Value)], u.oneCell' = true := by simp [Value.oneCell']
                          have hstep : ∀ {gg cc : Nat} {w2 : World}, w2.ownsRow 0 60 1 (.slice (some ⟨gg, 0, none⟩) (n + 1) cc) (n + 1) (hd ++ [.slice (some ⟨ub, 0, none⟩) (partLine q).length ucap]) → (wr.alloc (.cells #[.slice (some ⟨ub, 0, none⟩) (partLine q).length ucap] 60)).grownBy w2 u3.ownBlock → (u3.ownBlock = some gg ∨ gg = (wr.alloc (.cells #[.slice (some ⟨ub, 0, none⟩) (partLine q).length ucap] 60)).heap.size) → PartR (w.alloc (.cells #[.int .i64 t.per, .slice ao t.times.length cap, .int .i64 t.cost, .int .i64 t.bound, .slice (some ad) t.parts.length pcap] 25)) w2 t Ex (.slice (some ⟨gg, 0, none⟩) (n + 1) cc) (hd ++ [.slice (some ⟨ub, 0, none⟩) (partLine q).length ucap]) (k + 1) := fun hown hgrow hat => hR.step hnl (fun b hb => hin b (Nat.lt_succ_of_lt hb)) hFo hpt hu hown hgrow hat 
                          clear hLn hN hR hpt hnl hu hA hFo hw
                          go_wp2_with (at_builtin; refine wpList_append_lies (wr.alloc (.cells #[.slice (some ⟨ub, 0, none⟩) (partLine q).length ucap] 60)) (by rfl) _ _ 43 (by rfl) 0 60 i0 (.slice none 0 0) 1 24 Tryd.underlying43 hi hz hz1 hz2 (by rfl) (by decide) u3 _ hd (by rfl) ho ⟨wr.heap.size, 0, none⟩ 1 1 [.slice (some ⟨ub, 0, none⟩) (partLine q).length ucap] (by rfl) rfl hn h1c (by decide) hb1 hb2 (Nat.zero_le _) _ rfl ?_; intro g cap w2 hown hgrow hat hgl)
                          have hX := hstep hown hgrow hat
                          go_wp2
                          go_roundw
                          all_goals first
                            | exact meas2 hlt
                            | exact ⟨k + 1, hd ++ [.slice (some ⟨ub, 0, none⟩) (partLine q).length ucap], hlt, rfl, hX⟩
                · as_aux_lemma =>
                    have hlt' : ¬ ((k : Int) < (t.parts.length : Int)) := by omega
                    have hkl : k = t.parts.length := by omega
                    subst hkl
                    have hN := hR.nest.nest
                    rw [List.take_length] at hN
                    have hsz : w.heap.size ≤ wo.heap.size := by
                      have := hR.fr.size
                      simp at this
                      omega
                    have hbel : Below w.heap.size w wo := ⟨hR.fr.os, hR.fr.tape, hR.fr.output, hsz, o.1⟩
                    go_wp2_with (go_at_call 22; refine (hjoin wo u3 hd hN hsz).mono ?_; rintro e wz ⟨rfl, hz⟩)
                    go_ret
                    refine ⟨rfl, hbel.trans ⟨hz.os, hz.tape, hz.output, hz.size, fun b hb => hz.block b (by omega)⟩⟩
  | _ => exact h.elim
end Go.Proofs
/-
  words_class: the pure function
-/
set_option linter.unusedVariables false
namespace Go.Vx
def words_class_p1 {R : Type} (n : Nat) (a0 : Int) (k0 : Option R) : Option R :=
 k0
def words_class_p2 {R : Type} (n : Nat) (a0 : Int) (k0 : Option R) : Option R :=
 k0
def words_class_p3 {R : Type} (n : Nat) (a0 : Int) (k0 : Bool → Option R) : Option R :=
 bif (a0 == (32 : Int)) then
  k0 (a0 == (32 : Int))
 else
  k0 (a0 == (9 : Int))
def words_class_p4 {R : Type} (n : Nat) (a0 : Int) (w2 : Bool) (k0 : Int → Option R) (k1 : Bool → Option R) : Option R :=
 bif w2 then
  k0 (1 : Int)
 else
  bif (a0 == (10 : Int)) then
   k0 (2 : Int)
  else
   bif (a0 == (35 : Int)) then
    k0 (3 : Int)
   else
    bif (bif (decide (a0 ≥ (33 : Int))) then (decide (a0 ≤ (126 : Int))) else false) then
     k0 (4 : Int)
    else
     k1 (bif (decide (a0 ≥ (33 : Int))) then (decide (a0 ≤ (126 : Int))) else false)
def words_class_p5 {R : Type} (n : Nat) (a0 : Int) (k0 : Int → Option R) (k1 : Bool → Option R) : Option R :=
 words_class_p2 n a0
  (words_class_p3 n a0
   (fun w2 =>
   words_class_p4 n a0 w2
    (fun w5 =>
    k0 w5)
    (fun w6 =>
    k1 w6)))
def words_class_p6 {R : Type} (n : Nat) (w8 : Bool) (k0 : Option R) : Option R :=
 k0
def words_class_p7 {R : Type} (n : Nat) (a0 : Int) (k0 : Int → Option R) : Option R :=
 words_class_p1 n a0
  (words_class_p5 n a0
   (fun w7 =>
   k0 w7)
   (fun w8 =>
   words_class_p6 n w8
    (k0 (0 : Int))))
def words_class {R : Type} (n : Nat) (a0 : Int) (K : Int → Option R) : Option R :=
 words_class_p7 n a0
  (fun z9 => K z9)
end Go.Vx
/-
  words_isWord: the pure function
-/
set_option linter.unusedVariables false
namespace Go.Vx
def words_isWord_p1 {R : Type} (n : Nat) (a0 : List UInt8) (k0 : Int → Option R) : Option R :=
 k0 ((List.length a0 : Nat) : Int)
def words_isWord_p2 {R : Type} (n : Nat) (a0 : List UInt8) (w2 h5 : Int) (k0 : Option R) (k1 : Int → Option R) (k2 : Bool → Option R) : Option R :=
 bif (decide (h5 < w2)) then
  gb true (byteAt a0 h5) 0 fun i10 =>
  gb true (words_class n i10 some) 0 fun r11 =>
  bif (r11 != (4 : Int)) then
   k0
  else
   k1 (IntKind.wrap .i64 (h5 + (1 : Int)))
 else
  k2 (decide (h5 < w2))
def words_isWord_r3 {R : Type} (n : Nat) (a0 : List UInt8) (w2 : Int) (k0 : Option R) (k1 : Int → Bool → Option R) : Nat → Int → Option R
 | 0, _ => none
 | m + 1, h5 =>
  words_isWord_p2 n a0 w2 h5
   (k0)
   (fun w14 =>
   words_isWord_r3 n a0 w2 k0 k1 m w14)
   (fun w15 =>
   k1 h5 w15)
def words_isWord_p4 {R : Type} (n : Nat) (a0 : List UInt8) (w2 w16 : Int) (w17 : Bool) (k0 : Bool → Option R) : Option R :=
 k0 (!(a0 == ([] : List UInt8)))
def words_isWord_p5 {R : Type} (n : Nat) (a0 : List UInt8) (k0 : Bool → Option R) : Option R :=
 words_isWord_p1 n a0
  (fun w2 =>
  words_isWord_r3 n a0 w2
   (k0 false)
   (fun w16 w17 =>
   words_isWord_p4 n a0 w2 w16 w17
    (fun w19 =>
    k0 w19))
   n (0 : Int))
def words_isWord {R : Type} (n : Nat) (a0 : List UInt8) (K : Bool → Option R) : Option R :=
 words_isWord_p5 n a0
  (fun z20 => K z20)
end Go.Vx
/-
  strings_Builder_WriteByte: no pure function
-/
/-
  strings_Builder_WriteString: no pure function
-/
/-
  strings_Builder_String: no pure function
-/
/-
  words_Join: the pure function
-/
set_option linter.unusedVariables false
namespace Go.Vx
def words_Join_p1 {R : Type} (n : Nat) (a0 : LL) (k0 : Int → Option R) : Option R :=
 k0 ((List.length a0 : Nat) : Int)
def words_Join_p2 {R : Type} (n : Nat) (a0 : LL) (w2 h5 : Int) (h6 : LL) (k0 : Option R) (k1 : LL → Int → Option R) (k2 : Bool → Option R) : Option R :=
 bif (decide (h5 < w2)) then
  gb true (rowAt a0 h5) [] fun r53 =>
  gb true (r53[0]?) (.bool false) fun c54 =>
  gb true (pSl 1 c54) [] fun l55 =>
  bif (bif (((List.length l55 : Nat) : Int) == (0 : Int)) then true else (decide (((List.length l55 : Nat) : Int) > (64 : Int)))) then
   k0
  else
   k1 l55 ((List.length l55 : Nat) : Int)
 else
  k2 (decide (h5 < w2))
def words_Join_p3 {R : Type} (n : Nat) (a0 : LL) (w2 h5 : Int) (w58 : LL) (w59 h65 : Int) (h66 : LL) (k0 : Option R) (k1 : Int → LL → Option R) (k2 : Bool → Option R) : Option R :=
 bif (decide (h65 < w59)) then
  gb true (rowAt w58 h65) [] fun r77 =>
  gb true (r77[0]?) (.bool false) fun c78 =>
  gb true (pStr c78) [] fun s79 =>
  gb true (words_isWord n s79 some) false fun r80 =>
  bif (!r80) then
   k0
  else
   bif (decide (h65 > (0 : Int))) then
    gb true (room (List.length h66 + 1)) () fun u81 =>
    gb true (room (List.length (h66 ++ [[D.int .u8 (32 : Int)]]) + List.length s79)) () fun u82 =>
    k1 (IntKind.wrap .i64 (h65 + (1 : Int))) ((h66 ++ [[D.int .u8 (32 : Int)]]) ++ (rowsB s79))
   else
    gb true (room (List.length h66 + List.length s79)) () fun u83 =>
    k1 (IntKind.wrap .i64 (h65 + (1 : Int))) (h66 ++ (rowsB s79))
 else
  k2 (decide (h65 < w59))
def words_Join_r4 {R : Type} (n : Nat) (a0 : LL) (w2 h5 : Int) (w58 : LL) (w59 : Int) (k0 : Option R) (k1 : Int → Bool → LL → Option R) : Nat → Int → LL → Option R
 | 0, _, _ => none
 | m + 1, h65, h66 =>
  words_Join_p3 n a0 w2 h5 w58 w59 h65 h66
   (k0)
   (fun w87 w88 =>
   words_Join_r4 n a0 w2 h5 w58 w59 k0 k1 m w87 w88)
   (fun w89 =>
   k1 h65 w89 h66)
def words_Join_p5 {R : Type} (n : Nat) (a0 : LL) (w2 h5 : Int) (w58 : LL) (w59 w90 : Int) (w91 : Bool) (w92 : LL) (k0 : Int → LL → Option R) : Option R :=
 gb true (room (List.length w92 + 1)) () fun u93 =>
 k0 (IntKind.wrap .i64 (h5 + (1 : Int))) (w92 ++ [[D.int .u8 (10 : Int)]])
def words_Join_p6 {R : Type} (n : Nat) (a0 : LL) (w2 h5 : Int) (h6 : LL) (k0 : Option R) (k1 : Int → LL → Option R) (k2 : Bool → Option R) : Option R :=
 words_Join_p2 n a0 w2 h5 h6
  (k0)
  (fun w58 w59 =>
  words_Join_r4 n a0 w2 h5 w58 w59
   (k0)
   (fun w90 w91 w92 =>
   words_Join_p5 n a0 w2 h5 w58 w59 w90 w91 w92
    (fun w96 w97 =>
    k1 w96 w97))
   n (0 : Int) h6)
  (fun w98 =>
  k2 w98)
def words_Join_r7 {R : Type} (n : Nat) (a0 : LL) (w2 : Int) (k0 : Option R) (k1 : Int → Bool → LL → Option R) : Nat → Int → LL → Option R
 | 0, _, _ => none
 | m + 1, h5, h6 =>
  words_Join_p6 n a0 w2 h5 h6
   (k0)
   (fun w99 w100 =>
   words_Join_r7 n a0 w2 k0 k1 m w99 w100)
   (fun w101 =>
   k1 h5 w101 h6)
def words_Join_p8 {R : Type} (n : Nat) (a0 : LL) (w2 w102 : Int) (w103 : Bool) (w104 : LL) (k0 : (List UInt8) → Option R) : Option R :=
 gb true (bytesX w104) [] fun s105 =>
 k0 s105
def words_Join_p9 {R : Type} (n : Nat) (a0 : LL) (k0 : (List UInt8) → Option R) : Option R :=
 words_Join_p1 n a0
  (fun w2 =>
  words_Join_r7 n a0 w2
   (k0 [])
   (fun w102 w103 w104 =>
   words_Join_p8 n a0 w2 w102 w103 w104
    (fun w106 =>
    k0 w106))
   n (0 : Int) [])
def words_Join {R : Type} (n : Nat) (a0 : LL) (K : (List UInt8) → Option R) : Option R :=
 words_Join_p9 n a0
  (fun z107 => K z107)
end Go.Vx
/-
  words_class: the interpreter computes the pure function
-/
set_option linter.unusedVariables false
set_option linter.unusedSimpArgs false
set_option maxRecDepth 100000
namespace Go.Vx
open Go.Proofs
noncomputable def words_class_c0 : Code := bodyOf Tryd.f37
noncomputable def words_class_c1 : Code := cA [1, 0] (bodyOf Tryd.f37)
noncomputable def words_class_c2 : Code := cA [1, 1] (bodyOf Tryd.f37)
noncomputable def words_class_c3 : Code := cA [1, 0, 2, 0] (bodyOf Tryd.f37)
noncomputable def words_class_c4 : Code := cA [1, 0, 2, 1] (bodyOf Tryd.f37)
def words_class_C (n : Nat) : VC := ⟨specOf [], gtt, [cK 0 [0], cK 1 [0, 3], cK 2 [0, 3], cK 3 [2], cK 4 [0, 8], cK 5 [2], cK 6 [0, 11], cK 7 [2], cK 8 [14], cK 9 [2], cK 10 [2]]⟩
theorem words_class_VC (n : Nat) : VCOk Tryd.prog (words_class_C n) := gVC (specOf_ok trivial)
theorem words_class_p1_eq {R : Type} (n : Nat) (a0 : Int) (k : Exit → St → Option R) : vexec (words_class_C n) n words_class_c0 ⟨21, [(0, .d (D.int .u8 a0))], []⟩ k = words_class_p1 n a0 (vexec (words_class_C n) n words_class_c1 ⟨21, [(0, .d (D.int .u8 a0))], []⟩ (seqK (words_class_C n) n words_class_c2 k)) := by kernel_rfl
theorem words_class_p2_eq {R : Type} (n : Nat) (a0 : Int) (k : Exit → St → Option R) : vexec (words_class_C n) n words_class_c1 ⟨21, [(0, .d (D.int .u8 a0))], []⟩ k = words_class_p2 n a0 (vexec (words_class_C n) n words_class_c3 ⟨21, [(0, .d (D.int .u8 a0))], []⟩ (seqK (words_class_C n) n words_class_c4 (blockK 0 k))) := by kernel_rfl
theorem words_class_p3_eq {R : Type} (n : Nat) (a0 : Int) (k : Exit → St → Option R) : vexec (words_class_C n) n words_class_c3 ⟨21, [(0, .d (D.int .u8 a0))], []⟩ k = words_class_p3 n a0 (fun z1 => k .normal ⟨21, [(0, .d (D.int .u8 a0)), (3, dB z1)], []⟩) := by kernel_rfl
theorem words_class_p4_eq {R : Type} (n : Nat) (a0 : Int) (w2 : Bool) (k : Exit → St → Option R) : (seqK (words_class_C n) n words_class_c4 (blockK 0 k)) .normal ⟨21, [(0, .d (D.int .u8 a0)), (3, dB w2)], []⟩ = words_class_p4 n a0 w2 (fun z3 => k .ret ⟨21, [(2, dI z3)], []⟩) (fun z4 => k .normal ⟨21, [(14, dB z4)], []⟩) := by kernel_rfl
theorem words_class_p5_eq {R : Type} (n : Nat) (a0 : Int) (k : Exit → St → Option R) : vexec (words_class_C n) n words_class_c1 ⟨21, [(0, .d (D.int .u8 a0))], []⟩ k = words_class_p5 n a0 (fun w5 => k .ret ⟨21, [(2, dI w5)], []⟩) (fun w6 => k .normal ⟨21, [(14, dB w6)], []⟩) :=
 (words_class_p2_eq n a0 k).trans (cg1 (fun x0 => words_class_p2 n a0 x0 ) ((words_class_p3_eq n a0 (seqK (words_class_C n) n words_class_c4 (blockK 0 k))).trans (cg1 (fun x0 => words_class_p3 n a0 x0 ) (funext fun w2 => (words_class_p4_eq n a0 w2 k)))))
theorem words_class_p6_eq {R : Type} (n : Nat) (w8 : Bool) (k : Exit → St → Option R) : (seqK (words_class_C n) n words_class_c2 k) .normal ⟨21, [(14, dB w8)], []⟩ = words_class_p6 n w8 (k .ret ⟨21, [(2, dI (0 : Int))], []⟩) := by kernel_rfl
theorem words_class_p7_eq {R : Type} (n : Nat) (a0 : Int) (k : Exit → St → Option R) : vexec (words_class_C n) n words_class_c0 ⟨21, [(0, .d (D.int .u8 a0))], []⟩ k = words_class_p7 n a0 (fun z9 => k .ret ⟨21, [(2, dI z9)], []⟩) :=
 (words_class_p1_eq n a0 k).trans (cg1 (fun x0 => words_class_p1 n a0 x0 ) ((words_class_p5_eq n a0 (seqK (words_class_C n) n words_class_c2 k)).trans (cg2 (fun x0 x1 => words_class_p5 n a0 x0 x1 ) rfl (funext fun w8 => (words_class_p6_eq n w8 k)))))
theorem words_class_vfn {R : Type} (n : Nat) (a0 : Int) (K : AV → Option R) : vfn (words_class_C n) n Tryd.f37 [.d (D.int .u8 a0)] [] (retF [[0]] K) = words_class n a0 (fun r0 => K (.d (D.int .i64 r0))) :=
  (show vfn (words_class_C n) n Tryd.f37 [.d (D.int .u8 a0)] [] (retF [[0]] K) = vexec (words_class_C n) n words_class_c0 ⟨21, [(0, .d (D.int .u8 a0))], []⟩ (retX gtt [.tmp 2] (retF [[0]] K)) from vfn_at (by kernel_rfl) (by kernel_rfl) rfl (by kernel_rfl) rfl (by kernel_rfl) rfl).trans ((words_class_p7_eq n a0 (retX gtt [.tmp 2] (retF [[0]] K))).trans (by kernel_rfl))
def words_class_K : AV → Option (Int) := fun av => match av with
  | .d (D.int .i64 r0) => some r0
  | _ => none
def words_class_e (n : Nat) : Entry := fun _ _ g avs _ k => match avs with
  | [c0] => prI g .u8 c0 fun a0 => 
    gb g (words_class n a0 some) 0 fun r => k ⟨.d (D.int .i64 r), [], []⟩
  | _ => none
theorem words_class_ok (n : Nat) : EntryOK Tryd.prog 37 (words_class_e n) := by
  intro R site g avs hl k r h
  unfold words_class_e at h
  split at h
  rotate_left
  · cases h
  replace h := prI_some h
  obtain ⟨a0, h, le0⟩ := h
  replace h := gb_some h
  obtain ⟨res, h, hr⟩ := h
  refine ⟨_, h, fun hg => CallOK.conv (avs' := [.d (D.int .u8 a0)]) (.cons (le0 hg) (.nil)) (callOK_fix (K := words_class_K) (res := res) (words_class_VC n) (fn := Tryd.f37) (n := n) (by kernel_rfl) (by kernel_rfl) (by kernel_rfl) (ss := [[0]]) rfl ?_ ?_)⟩
  · exact (words_class_vfn n a0 words_class_K).trans (hr hg)
  · intro x hx
    unfold words_class_K at hx
    split at hx
    · injection hx with hx; subst hx; rfl
    · cases hx
end Go.Vx
/-
  words_isWord: the interpreter computes the pure function
-/
set_option linter.unusedVariables false
set_option linter.unusedSimpArgs false
set_option maxRecDepth 100000
namespace Go.Vx
open Go.Proofs
noncomputable def words_isWord_c0 : Code := bodyOf Tryd.f27
noncomputable def words_isWord_c1 : Code := cA [1, 0, 1, 2, 2] (bodyOf Tryd.f27)
noncomputable def words_isWord_c2 : Code := cA [1, 1] (bodyOf Tryd.f27)
def words_isWord_C (n : Nat) : VC := ⟨specOf [(37, words_class_e n)], gtt, [cK 0 [0], cK 1 [0, 5, 6], cK 2 [0, 5, 6, 7], cK 3 [0, 3, 5, 6], cK 4 [0, 5, 6, 13], cK 5 [2], cK 6 [0, 5, 6], cK 7 [2]]⟩
theorem words_isWord_VC (n : Nat) : VCOk Tryd.prog (words_isWord_C n) := gVC (specOf_ok ⟨words_class_ok n, trivial⟩)
theorem words_isWord_p1_eq {R : Type} (n : Nat) (a0 : List UInt8) (k : Exit → St → Option R) : vexec (words_isWord_C n) n words_isWord_c0 ⟨17, [(0, dT a0)], []⟩ k = words_isWord_p1 n a0 (fun z1 => loopN (lB (words_isWord_C n) n words_isWord_c1) n ⟨17, [(0, dT a0), (5, dI z1), (6, dI (0 : Int))], []⟩ (blockK 0 (seqK (words_isWord_C n) n words_isWord_c2 k))) := by kernel_rfl
theorem words_isWord_p2_eq {R : Type} (n : Nat) (a0 : List UInt8) (w2 h5 : Int) (k : Exit → St → Option R) : vexec (words_isWord_C n) n words_isWord_c1 ⟨17, [(0, dT a0), (5, dI w2), (6, dI h5)], []⟩ k = words_isWord_p2 n a0 w2 h5 (k .ret ⟨17, [(2, dB false)], []⟩) (fun z12 => k .normal ⟨17, [(0, dT a0), (5, dI w2), (6, dI z12)], []⟩) (fun z13 => k (.exit 0) ⟨17, [(0, dT a0), (5, dI w2), (6, dI h5), (7, dB z13)], []⟩) := by kernel_rfl
theorem words_isWord_r3_eq {R : Type} (n : Nat) (a0 : List UInt8) (w2 : Int) (k : Exit → St → Option R) : ∀ (m : Nat) (h5 : Int), loopN (lB (words_isWord_C n) n words_isWord_c1) m ⟨17, [(0, dT a0), (5, dI w2), (6, dI h5)], []⟩ k = words_isWord_r3 n a0 w2 (k .ret ⟨17, [(2, dB false)], []⟩) (fun h5 w15 => k (.exit 0) ⟨17, [(0, dT a0), (5, dI w2), (6, dI h5), (7, dB w15)], []⟩) m h5
 | 0, _ => rfl
 | m + 1, h5 => (lS (by kernel_rfl) m k).trans ((words_isWord_p2_eq n a0 w2 h5 (loopK (lB (words_isWord_C n) n words_isWord_c1) m k)).trans (cg3 (fun x0 x1 x2 => words_isWord_p2 n a0 w2 h5 x0 x1 x2 ) rfl (funext fun w14 => words_isWord_r3_eq n a0 w2 k m w14) rfl))
theorem words_isWord_p4_eq {R : Type} (n : Nat) (a0 : List UInt8) (w2 w16 : Int) (w17 : Bool) (k : Exit → St → Option R) : (blockK 0 (seqK (words_isWord_C n) n words_isWord_c2 k)) (.exit 0) ⟨17, [(0, dT a0), (5, dI w2), (6, dI w16), (7, dB w17)], []⟩ = words_isWord_p4 n a0 w2 w16 w17 (fun z18 => k .ret ⟨17, [(2, dB z18)], []⟩) := by kernel_rfl
theorem words_isWord_p5_eq {R : Type} (n : Nat) (a0 : List UInt8) (k : Exit → St → Option R) : vexec (words_isWord_C n) n words_isWord_c0 ⟨17, [(0, dT a0)], []⟩ k = words_isWord_p5 n a0 (fun z20 => k .ret ⟨17, [(2, dB z20)], []⟩) :=
 (words_isWord_p1_eq n a0 k).trans (cg1 (fun x0 => words_isWord_p1 n a0 x0 ) (funext fun w2 => (words_isWord_r3_eq n a0 w2 (blockK 0 (seqK (words_isWord_C n) n words_isWord_c2 k)) n (0 : Int)).trans (cg2 (fun x0 x1 => words_isWord_r3 n a0 w2 x0 x1 n (0 : Int)) rfl (funext fun w16 => funext fun w17 => (words_isWord_p4_eq n a0 w2 w16 w17 k)))))
theorem words_isWord_vfn {R : Type} (n : Nat) (a0 : List UInt8) (K : AV → Option R) : vfn (words_isWord_C n) n Tryd.f27 [.d (D.str a0)] [] (retF [[0]] K) = words_isWord n a0 (fun r0 => K (.d (D.bool r0))) :=
  (show vfn (words_isWord_C n) n Tryd.f27 [.d (D.str a0)] [] (retF [[0]] K) = vexec (words_isWord_C n) n words_isWord_c0 ⟨17, [(0, dT a0)], []⟩ (retX gtt [.tmp 2] (retF [[0]] K)) from vfn_at (by kernel_rfl) (by kernel_rfl) rfl (by kernel_rfl) rfl (by kernel_rfl) rfl).trans ((words_isWord_p5_eq n a0 (retX gtt [.tmp 2] (retF [[0]] K))).trans (by kernel_rfl))
def words_isWord_K : AV → Option (Bool) := fun av => match av with
  | .d (D.bool r0) => some r0
  | _ => none
def words_isWord_e (n : Nat) : Entry := fun _ _ g avs _ k => match avs with
  | [c0] => prT g c0 fun a0 => 
    gb g (words_isWord n a0 some) false fun r => k ⟨.d (D.bool r), [], []⟩
  | _ => none
theorem words_isWord_ok (n : Nat) : EntryOK Tryd.prog 27 (words_isWord_e n) := by
  intro R site g avs hl k r h
  unfold words_isWord_e at h
  split at h
  rotate_left
  · cases h
  replace h := prT_some h
  obtain ⟨a0, h, le0⟩ := h
  replace h := gb_some h
  obtain ⟨res, h, hr⟩ := h
  refine ⟨_, h, fun hg => CallOK.conv (avs' := [.d (D.str a0)]) (.cons (le0 hg) (.nil)) (callOK_fix (K := words_isWord_K) (res := res) (words_isWord_VC n) (fn := Tryd.f27) (n := n) (by kernel_rfl) (by kernel_rfl) (by kernel_rfl) (ss := [[0]]) rfl ?_ ?_)⟩
  · exact (words_isWord_vfn n a0 words_isWord_K).trans (hr hg)
  · intro x hx
    unfold words_isWord_K at hx
    split at hx
    · injection hx with hx; subst hx; rfl
    · cases hx
end Go.Vx
/-
  strings.Builder in this program: what copyCheck, WriteString and String do, with an exact frame.
-/
set_option linter.unusedVariables false
namespace Go.Proofs
open Go.RowKit Go.Vx

set_option maxHeartbeats 1000000 in
set_option maxRecDepth 100000 in
theorem Tryd.bld_used (b : Nat) (w : World) (h0 : w.cell? ⟨b, 0, none⟩ = some (.pointer (some ⟨b, 0, none⟩))) :
    Calls Tryd.prog 42 #[.pointer (some ⟨b, 0, none⟩)] w fun e w' => e = .returned (.tuple #[]) ∧ w' = w := by
  obtain ⟨j, hj, _⟩ := Option.map_eq_some_iff.1 (show (Tryd.prog.info? 71).map (·.size) = some 2 by kernel_rfl)
  go_enter Tryd.func42, Tryd.ntmps42
  go_wp2
  rw [Lib.run_neq_ptr_same w _ Tryd.underlying68 hj]
  go_wp2
  go_end0
  exact ⟨rfl, rfl⟩

set_option maxHeartbeats 1000000 in
set_option maxRecDepth 100000 in
theorem Tryd.bld_fresh (b : Nat) (w : World) (h0 : w.cell? ⟨b, 0, none⟩ = some (.pointer none)) (hsh : w.shape? b = some (71, 2)) (hfz : w.frozen? ⟨b, 0, none⟩ = false) :
    Calls Tryd.prog 42 #[.pointer (some ⟨b, 0, none⟩)] w fun e w' => e = .returned (.tuple #[]) ∧ w' = w.setCell ⟨b, 0, none⟩ (.pointer (some ⟨b, 0, none⟩)) := by
  obtain ⟨j, hj, hjs⟩ := Option.map_eq_some_iff.1 (show (Tryd.prog.info? 71).map (·.size) = some 2 by kernel_rfl)
  go_enter Tryd.func42, Tryd.ntmps42
  go_wp2
  rw [Lib.run_to_unsafe w ⟨b, 0, none⟩ Tryd.underlying68 Tryd.underlying98 hj (by rw [hjs]; decide) hsh (Nat.zero_lt_succ 1)]
  simp only [Result.andThen]
  rw [Oper.upon_value]
  go_wp2
  rw [run_callFunc_extern Tryd.func49 (by kernel_rfl) (by kernel_rfl) (by kernel_rfl) (e := Extern.AbiNoEscape.same) (by kernel_rfl)]
  rw [Lib.run_noEscape]
  simp only [Result.andThen]
  rw [Oper.upon_value]
  go_wp2
  rw [Lib.run_from_unsafe w ⟨b, 0, none⟩ Tryd.underlying98 Tryd.underlying68 hj hsh (by kernel_rfl)]
  simp only [Result.andThen]
  rw [Oper.upon_value]
  go_wp2
  go_end0
  exact ⟨rfl, rfl⟩

section
variable {P : Program} (w : World)
theorem bld_append (t u ty e : TypeId) (i : TypeInfo) (ht : P.underlying t = some (.slice e)) (hu : P.underlying u = some .string) (hi : P.info? e = some i) (hz : i.zero = some (.int .u8 0))
    (hsize : i.size = 1) (hby : i.bytes = 1) (v : Value) (n : Nat) (xs : List Value) (hown : w.ownsRow 0 e 1 v n xs) (s : ByteArray) (hbytes : n + s.size ≤ 140737488355328) :
    ∃ v' w', (Builtin.append_ #[t, u] ty #[v, .string s]).run P w = .ok v' w' ∧ w'.ownsRow 0 e 1 v' (n + s.size) (xs ++ Lib.strCells s) ∧ w.grownBy w' v.ownBlock ∧
      (v'.ownBlock = v.ownBlock ∨ v'.ownBlock = some w.heap.size) := by
  have h63 : n + s.size ≤ maxLen := by unfold maxLen; omega
  have hsmall : n + s.size ≤ 9223372036854775807 := by omega
  obtain ⟨v', w', hr, h2, h3, h4⟩ := Lib.run_append_own_string (P := P) w 0 t u ty e i ht hu hi hz hsize hby v n xs hown s h63 hbytes (Nat.zero_le _)
  refine ⟨v', w', hr, h2, h3, ?_⟩
  have hxl : xs.length = n := by simpa using hown.1
  rcases hown.2 with ⟨rfl, rfl⟩ | ⟨g, cap, cur, rfl, hbg, hg, hnc, hcm, hcs, htake⟩
  · by_cases hm : s.size = 0
    · rw [h4.2 ⟨rfl, hm⟩]; exact .inl rfl
    · have hq := run_append_nil_string (P := P) w t u ty e i (.int .u8 0) ht hu hi hz s (by omega) (by omega) (by rw [hby]; omega)
      rw [hq] at hr
      injection hr with e1 e2
      subst e1
      exact .inr rfl
  · by_cases hroom : n + s.size ≤ cap
    · have hcs' : cur.size = cap := by simpa using hcs
      have hq := Lib.run_append_room_string (P := P) w t u ty e i ht hu hi hsize g n cap cur hg s hroom (by omega)
      rw [hq] at hr
      injection hr with e1 e2
      subst e1
      exact .inl rfl
    · have holds : ∀ j u, xs[j]? = some u → w.cell? ((⟨g, 0, none⟩ : Addr).add j) = some u := hown.cells (g := g) rfl
      have hq := Lib.run_append_grow_string (P := P) w t u ty e i (.int .u8 0) ht hu hi hz ⟨g, 0, none⟩ n cap xs (by rw [hsize]; simpa using hxl) holds s (by omega) (by omega) (by rw [hby]; exact growslice_fits (by omega) (by omega))
      rw [hq] at hr
      injection hr with e1 e2
      subst e1
      exact .inr rfl

theorem bld_wp {ops : Array Oper} {rest : List Oper} {o : Oper} {a : Act} {Q : Exit → Act → World → Prop} (hgd : o.guard = none) (sl x : Operand) (t u : TypeId)
    (ho : o.op = .call { callee := .builtin .append, args := #[sl, x], argTypes := #[t, u] })
    (e : TypeId) (i : TypeInfo) (ht : P.underlying t = some (.slice e)) (hu : P.underlying u = some .string) (hi : P.info? e = some i) (hz : i.zero = some (.int .u8 0))
    (hsize : i.size = 1) (hby : i.bytes = 1)
    (v : Value) (n : Nat) (xs : List Value) (hs : a.eval sl = v) (hown : w.ownsRow 0 e 1 v n xs) (s : ByteArray) (hx : a.eval x = .string s)
    (hbytes : n + s.size ≤ 140737488355328)
    (h : ∀ v' w', w'.ownsRow 0 e 1 v' (n + s.size) (xs ++ Lib.strCells s) → w.grownBy w' v.ownBlock → (v'.ownBlock = v.ownBlock ∨ v'.ownBlock = some w.heap.size) → wpList P ops Q rest (a.put o.dst v') w') : wpList P ops Q (o :: rest) a w := by
  refine wpList_plain hgd fun K hK => ?_
  obtain ⟨v', w', hr, h2, h3, h4⟩ := bld_append (P := P) w t u o.type e i ht hu hi hz hsize hby v n xs hown s hbytes
  unfold Oper.wp execOp
  simp only [ho, resolve, invoke, builtin, Sem.run_bind, Sem.run_pure, Result.andThen_ok, List.map_toArray, List.map_cons, List.map_nil, hs, hx, hr]
  exact hK _ _ (h v' w' h2 h3 h4)
end

theorem bld_set {w : World} {b i : Nat} {cs : Array Value} {T : TypeId} {fz : Nat × Nat} (hb : w.heap[b]? = some (.cells cs T fz)) (v : Value) : (w.setCell ⟨b, i, none⟩ v).heap[b]? = some (.cells (cs.setIfInBounds i v) T fz) := by
  obtain ⟨hlt, hb'⟩ := Array.getElem?_eq_some_iff.1 hb
  simp [World.setCell, hlt, Array.getElem_modify, hb']

theorem bld_shape {w : World} {b : Nat} {cs : Array Value} {T : TypeId} {fz : Nat × Nat} (hb : w.heap[b]? = some (.cells cs T fz)) : w.shape? b = some (T, cs.size) := by
  simp [World.shape?, hb]

theorem bld_unfz {w : World} {b j : Nat} {cs : Array Value} {T : TypeId} {fz : Nat × Nat} (hb : w.heap[b]? = some (.cells cs T fz)) (h : ¬ (fz.1 ≤ j ∧ j < fz.2)) : w.frozen? ⟨b, j, none⟩ = false := by
  simp [World.frozen?, hb]
  omega

theorem Tryd.bld_copy (b : Nat) (p v : Value) (fz : Nat × Nat) (w : World) (hbk : w.heap[b]? = some (.cells #[p, v] 71 fz)) (hu : ¬ (fz.1 ≤ 0 ∧ 0 < fz.2)) (hp : p = .pointer none ∨ p = .pointer (some ⟨b, 0, none⟩)) :
    Calls Tryd.prog 42 #[.pointer (some ⟨b, 0, none⟩)] w fun e w' => e = .returned (.tuple #[]) ∧ w'.heap[b]? = some (.cells #[.pointer (some ⟨b, 0, none⟩), v] 71 fz) ∧ w'.heap.size = w.heap.size ∧ BFr b none w w' := by
  rcases hp with rfl | rfl
  · refine (Tryd.bld_fresh b w (by rw [Lib.cell_of_heap hbk]; rfl) (bld_shape hbk) (bld_unfz hbk hu)).mono ?_
    rintro e w' ⟨rfl, rfl⟩
    exact ⟨rfl, bld_set hbk _, by simp [World.setCell], ⟨rfl, rfl, rfl, by simp [World.setCell], fun k _ hk _ => Below.heap_setCell _ _ _ k hk⟩⟩
  · refine (Tryd.bld_used b w (by rw [Lib.cell_of_heap hbk]; rfl)).mono ?_
    rintro e w' ⟨rfl, rfl⟩
    exact ⟨rfl, hbk, rfl, ⟨rfl, rfl, rfl, Nat.le_refl _, fun _ _ _ _ => rfl⟩⟩

theorem bld_ownsRow {w w' : World} {e : TypeId} {v : Value} {n : Nat} {xs : List Value} {b : Nat} (h : w.ownsRow 0 e 1 v n xs) (hne : v.ownBlock ≠ some b) (hf : BFr b none w w') : w'.ownsRow 0 e 1 v n xs := by
  refine ⟨h.1, h.2.imp id fun ⟨g, cap, cur, hv, h0, hg, r⟩ => ⟨g, cap, cur, hv, h0, ?_, r⟩⟩
  have hlt : g < w.heap.size := (Array.getElem?_eq_some_iff.1 hg).1
  rw [hf.block g hlt (fun e1 => hne (by rw [hv, e1]; rfl)) (by simp)]
  exact hg

set_option maxHeartbeats 2000000 in
set_option maxRecDepth 100000 in
theorem Tryd.bld_write (b : Nat) (p v : Value) (fz : Nat × Nat) (bs : List Value) (s : ByteArray) (w : World) (hbk : w.heap[b]? = some (.cells #[p, v] 71 fz)) (hu : ¬ (fz.1 ≤ 0 ∧ 0 < fz.2)) (hu1 : ¬ (fz.1 ≤ 1 ∧ 1 < fz.2))
    (hp : p = .pointer none ∨ p = .pointer (some ⟨b, 0, none⟩)) (hown : w.ownsRow 0 5 1 v bs.length bs) (hne : v.ownBlock ≠ some b) (hlen : bs.length + s.size ≤ 140737488355328) :
    Calls Tryd.prog 29 #[.pointer (some ⟨b, 0, none⟩), .string s] w fun e w' => e = .returned (.tuple #[.int .i64 s.size, .nilIface]) ∧
      ∃ v', w'.heap[b]? = some (.cells #[.pointer (some ⟨b, 0, none⟩), v'] 71 fz) ∧ w'.ownsRow 0 5 1 v' (bs.length + s.size) (bs ++ Lib.strCells s) ∧ (v'.ownBlock = v.ownBlock ∨ v'.ownBlock = some w.heap.size) ∧ BFr b v.ownBlock w w' := by
  obtain ⟨i0, hi, hz0, hz1, hz2⟩ := info_parts (show (Tryd.prog.info? 5).map (fun i => (i.zero, i.size, i.bytes)) = some (some (.int .u8 0), 1, 1) by kernel_rfl)
  go_enter Tryd.func29, Tryd.ntmps29
  go_wp2_with (go_at_call 42; refine (Tryd.bld_copy b p v fz _ hbk hu hp).mono ?_)
  rintro e w1 ⟨rfl, hbk1, hsz, hf1⟩
  have c0 : w1.cell? ⟨b, 0, none⟩ = some (.pointer (some ⟨b, 0, none⟩)) := by rw [Lib.cell_of_heap hbk1]; rfl
  have c1 : w1.cell? ⟨b, 1, none⟩ = some v := by rw [Lib.cell_of_heap hbk1]; rfl
  have hown1 := bld_ownsRow hown hne hf1
  go_wp2_with (at_builtin; refine bld_wp _ rfl _ _ 69 9 rfl 5 i0 Tryd.underlying69 Tryd.underlying9 hi hz0 hz1 hz2 _ _ _ rfl hown1 s rfl hlen ?_)
  intro v' w2 hown' hgrow hat
  have hlt : b < w1.heap.size := (Array.getElem?_eq_some_iff.1 hbk1).1
  have hb2 : w2.heap[b]? = some (.cells #[.pointer (some ⟨b, 0, none⟩), v] 71 fz) := by
    rw [hgrow.block b hlt (fun e => hne e.symm)]
    exact hbk1
  have d0 : w2.cell? ⟨b, 0, none⟩ = some (.pointer (some ⟨b, 0, none⟩)) := by rw [Lib.cell_of_heap hb2]; rfl
  have d1 : w2.cell? ⟨b, 1, none⟩ = some v := by rw [Lib.cell_of_heap hb2]; rfl
  have f1 : w2.frozen? ⟨b, 1, none⟩ = false := bld_unfz hb2 hu1
  have hne' : v'.ownBlock ≠ some b := by
    rcases hat with h | h
    · rw [h]; exact hne
    · rw [h]; intro e; injection e with e; omega
  obtain ⟨ao, n', cap, rfl⟩ : ∃ ao n' cap, v' = .slice ao n' cap := by
    rcases hown'.2 with ⟨hv, _⟩ | ⟨g, cap, cur, hv, _⟩
    · exact ⟨_, _, _, hv⟩
    · exact ⟨_, _, _, hv⟩
  go_wp2
  go_ret2
  refine ⟨rfl, _, bld_set hb2 _, ?_, hsz ▸ hat, ?_⟩
  · exact bld_ownsRow hown' hne' ⟨rfl, rfl, rfl, by simp [World.setCell], fun k _ hk _ => Below.heap_setCell _ _ _ k hk⟩
  · refine ⟨hgrow.os.trans hf1.os, hgrow.tape.trans hf1.tape, hgrow.output.trans hf1.output, ?_, fun k hk h1 h2 => ?_⟩
    · have := hgrow.size; simp [World.setCell]; omega
    · rw [Below.heap_setCell _ _ _ k h1, hgrow.block k (by omega) h2, hf1.block k hk h1 (by simp)]

set_option maxHeartbeats 1000000 in
set_option maxRecDepth 100000 in
theorem Tryd.bld_string (b : Nat) (p v : Value) (fz : Nat × Nat) (l : List UInt8) (w : World) (hbk : w.heap[b]? = some (.cells #[p, v] 71 fz)) (hown : w.ownsRow 0 5 1 v l.length (Lib.byteCells l)) (h0 : l ≠ []) :
    Calls Tryd.prog 30 #[.pointer (some ⟨b, 0, none⟩)] w fun e w' => e = .returned (.string ⟨l.toArray⟩) ∧ ∃ g, v.ownBlock = some g ∧ w' = w.drew.freeze ⟨g, 0, none⟩ l.length := by
  have hl0 : l.length ≠ 0 := by simpa using h0
  obtain ⟨g, cap, cur, rfl, hbg, hg, hnc, hcm, hcs, htake⟩ : ∃ g cap cur, v = .slice (some ⟨g, 0, none⟩) l.length cap ∧ 0 ≤ g ∧ w.heap[g]? = some (.cells cur 5 (0, 0)) ∧ l.length ≤ cap ∧ cap ≤ maxLen ∧ cur.size = cap * 1 ∧ cur.toList.take (l.length * 1) = Lib.byteCells l := by
    rcases hown.2 with ⟨_, hz⟩ | ⟨g, cap, cur, hv, r⟩
    · exact absurd hz hl0
    · exact ⟨g, cap, cur, hv, r⟩
  have c1 : w.drew.cell? ⟨b, 1, none⟩ = some (.slice (some ⟨g, 0, none⟩) l.length cap) := by
    have : w.drew.heap[b]? = some (.cells #[p, .slice (some ⟨g, 0, none⟩) l.length cap] 71 fz) := hbk
    rw [Lib.cell_of_heap this]; rfl
  have hSD : (Builtin.unsafeSliceData_ #[69] 92 #[.slice (some ⟨g, 0, none⟩) l.length cap]).run Tryd.prog w.drew = .ok (.pointer (some ⟨g, 0, none⟩)) w.drew :=
    Lib.run_unsafeSliceData_row _ _ _ _ _ _ (by omega)
  have hUS : (Builtin.unsafeString_ #[92, 3] 9 #[.pointer (some ⟨g, 0, none⟩), .int .i64 l.length]).run Tryd.prog w.drew = .ok (.string ⟨l.toArray⟩) (w.drew.freeze ⟨g, 0, none⟩ l.length) := by
    refine Lib.run_unsafeString_row w.drew 92 3 9 5 Tryd.underlying92 (by kernel_rfl) g cur.size (by have hg' : w.drew.heap[g]? = some (.cells cur 5 (0, 0)) := hg; simp [World.shape?, hg']) l h0 (by omega) (by unfold maxLen at hcm; omega) ?_
    intro j x hx
    have := hown.cells (g := g) rfl j (.int .u8 x.toNat) (by simp [Lib.byteCells, hx])
    exact this
  have mixed : Tryd.prog.follows .mixedOrders = true := by kernel_rfl
  go_enter Tryd.func30, Tryd.ntmps30
  go_wp2
  go_region_o
  all_goals (go_wp2; go_ret; exact ⟨rfl, g, rfl, rfl⟩)

set_option maxHeartbeats 2000000 in
set_option maxRecDepth 100000 in
theorem Tryd.bld_string_nil (b : Nat) (p : Value) (fz : Nat × Nat) (w : World) (hbk : w.heap[b]? = some (.cells #[p, .slice none 0 0] 71 fz)) :
    Calls Tryd.prog 30 #[.pointer (some ⟨b, 0, none⟩)] w fun e w' => e = .returned (.string ⟨#[]⟩) ∧ w' = w.drew := by
  have hUS : ∀ (W : World) (q : Option Addr), (Builtin.unsafeString_ #[92, 3] 9 #[.pointer q, .int .i64 0]).run Tryd.prog W = .ok (.string .empty) W := fun W q => Lib.run_unsafeString_none W _ _ _ q
  have c1 : w.drew.cell? ⟨b, 1, none⟩ = some (.slice none 0 0) := by
    have : w.drew.heap[b]? = some (.cells #[p, .slice none 0 0] 71 fz) := hbk
    rw [Lib.cell_of_heap this]; rfl
  have hSD : (Builtin.unsafeSliceData_ #[69] 92 #[.slice none 0 0]).run Tryd.prog w.drew = .ok (.pointer none) w.drew := rfl
  have mixed : Tryd.prog.follows .mixedOrders = true := by kernel_rfl
  go_enter Tryd.func30, Tryd.ntmps30
  go_wp2
  go_region_o
  all_goals (go_wp2; go_ret; exact ⟨rfl, rfl⟩)

set_option maxHeartbeats 2000000 in
set_option maxRecDepth 100000 in
theorem Tryd.bld_string_noroom (b g : Nat) (p : Value) (fz : Nat × Nat) (cur : Array Value) (w : World) (hbk : w.heap[b]? = some (.cells #[p, .slice (some ⟨g, 0, none⟩) 0 0] 71 fz)) (hg : w.heap[g]? = some (.cells cur 5 (0, 0))) :
    Calls Tryd.prog 30 #[.pointer (some ⟨b, 0, none⟩)] w fun e w' => e = .returned (.string ⟨#[]⟩) ∧ w' = w.drew.alloc (.view ⟨g, 0, none⟩ 5) := by
  have hUS : ∀ (W : World) (q : Option Addr), (Builtin.unsafeString_ #[92, 3] 9 #[.pointer q, .int .i64 0]).run Tryd.prog W = .ok (.string .empty) W := fun W q => Lib.run_unsafeString_none W _ _ _ q
  have hlt : b < w.heap.size := (Array.getElem?_eq_some_iff.1 hbk).1
  have c1 : w.drew.cell? ⟨b, 1, none⟩ = some (.slice (some ⟨g, 0, none⟩) 0 0) := by
    have : w.drew.heap[b]? = some (.cells #[p, .slice (some ⟨g, 0, none⟩) 0 0] 71 fz) := hbk
    rw [Lib.cell_of_heap this]; rfl
  have hSD : (Builtin.unsafeSliceData_ #[69] 92 #[.slice (some ⟨g, 0, none⟩) 0 0]).run Tryd.prog w.drew = .ok (.pointer (some ⟨w.drew.heap.size, 0, none⟩)) (w.drew.alloc (.view ⟨g, 0, none⟩ 5)) :=
    Lib.run_unsafeSliceData_zero w.drew _ _ 5 Tryd.underlying92 ⟨g, 0, none⟩ 0 (5, cur.size) (by have hg' : w.drew.heap[g]? = some (.cells cur 5 (0, 0)) := hg; simp [World.shape?, hg'])
  have c2 : (w.drew.alloc (.view ⟨g, 0, none⟩ 5)).cell? ⟨b, 1, none⟩ = some (.slice (some ⟨g, 0, none⟩) 0 0) := by
    have : (w.drew.alloc (.view ⟨g, 0, none⟩ 5)).heap[b]? = _ := (Lib.alloc_old w.drew _ b hlt).trans hbk
    rw [Lib.cell_of_heap this]; rfl
  have c3 : (w.alloc (.view ⟨g, 0, none⟩ 5)).drew.cell? ⟨b, 1, none⟩ = some (.slice (some ⟨g, 0, none⟩) 0 0) := c2
  have c0 : w.cell? ⟨b, 1, none⟩ = some (.slice (some ⟨g, 0, none⟩) 0 0) := c1
  have mixed : Tryd.prog.follows .mixedOrders = true := by kernel_rfl
  go_enter Tryd.func30, Tryd.ntmps30
  go_wp2
  go_region_o
  all_goals (go_wp2; go_ret; exact ⟨rfl, rfl⟩)

set_option maxHeartbeats 2000000 in
set_option maxRecDepth 100000 in
theorem Tryd.bld_string_room (b g cap : Nat) (p : Value) (fz : Nat × Nat) (w : World) (hc0 : cap ≠ 0) (hbk : w.heap[b]? = some (.cells #[p, .slice (some ⟨g, 0, none⟩) 0 cap] 71 fz)) :
    Calls Tryd.prog 30 #[.pointer (some ⟨b, 0, none⟩)] w fun e w' => e = .returned (.string ⟨#[]⟩) ∧ w' = w.drew := by
  have hUS : ∀ (W : World) (q : Option Addr), (Builtin.unsafeString_ #[92, 3] 9 #[.pointer q, .int .i64 0]).run Tryd.prog W = .ok (.string .empty) W := fun W q => Lib.run_unsafeString_none W _ _ _ q
  have c1 : w.drew.cell? ⟨b, 1, none⟩ = some (.slice (some ⟨g, 0, none⟩) 0 cap) := by
    have : w.drew.heap[b]? = some (.cells #[p, .slice (some ⟨g, 0, none⟩) 0 cap] 71 fz) := hbk
    rw [Lib.cell_of_heap this]; rfl
  have hSD : (Builtin.unsafeSliceData_ #[69] 92 #[.slice (some ⟨g, 0, none⟩) 0 cap]).run Tryd.prog w.drew = .ok (.pointer (some ⟨g, 0, none⟩)) w.drew :=
    Lib.run_unsafeSliceData_row _ _ _ _ _ _ hc0
  clear hc0
  have mixed : Tryd.prog.follows .mixedOrders = true := by kernel_rfl
  go_enter Tryd.func30, Tryd.ntmps30
  go_wp2
  go_region_o
  all_goals (go_wp2; go_ret; exact ⟨rfl, rfl⟩)

theorem bld_freeze {w : World} {p : Addr} {n k : Nat} (h : k ≠ p.block) : (w.freeze p n).heap[k]? = w.heap[k]? := by
  unfold World.freeze
  split
  · rfl
  · simp only [Array.getElem?_modify]
    rw [if_neg (fun e => h e.symm)]

set_option maxHeartbeats 2000000 in
set_option maxRecDepth 100000 in
theorem Tryd.bld_byte (b : Nat) (p v : Value) (fz : Nat × Nat) (bs : List Value) (c : Int) (w : World) (hbk : w.heap[b]? = some (.cells #[p, v] 71 fz)) (hu : ¬ (fz.1 ≤ 0 ∧ 0 < fz.2)) (hu1 : ¬ (fz.1 ≤ 1 ∧ 1 < fz.2))
    (hp : p = .pointer none ∨ p = .pointer (some ⟨b, 0, none⟩)) (hown : w.ownsRow 0 5 1 v bs.length bs) (hne : v.ownBlock ≠ some b) (hlen : bs.length + 1 ≤ 140737488355328) :
    Calls Tryd.prog 28 #[.pointer (some ⟨b, 0, none⟩), .int .u8 c] w fun e w' => e = .returned .nilIface ∧
      ∃ v', w'.heap[b]? = some (.cells #[.pointer (some ⟨b, 0, none⟩), v'] 71 fz) ∧ w'.ownsRow 0 5 1 v' (bs.length + 1) (bs ++ [.int .u8 c]) ∧ (v'.ownBlock = v.ownBlock ∨ ∃ z, w.heap.size ≤ z ∧ v'.ownBlock = some z) ∧ BFr b v.ownBlock w w' := by
  obtain ⟨i0, hi, hz0, hz1, hz2⟩ := info_parts (show (Tryd.prog.info? 5).map (fun i => (i.zero, i.size, i.bytes)) = some (some (.int .u8 0), 1, 1) by kernel_rfl)
  go_enter Tryd.func28, Tryd.ntmps28
  go_wp2_with (go_at_call 42; refine (Tryd.bld_copy b p v fz _ hbk hu hp).mono ?_)
  rintro e w1 ⟨rfl, hbk1, hsz, hf1⟩
  have c0 : w1.cell? ⟨b, 0, none⟩ = some (.pointer (some ⟨b, 0, none⟩)) := by rw [Lib.cell_of_heap hbk1]; rfl
  have c1 : w1.cell? ⟨b, 1, none⟩ = some v := by rw [Lib.cell_of_heap hbk1]; rfl
  have hown1 := bld_ownsRow hown hne hf1
  have hlt : b < w1.heap.size := (Array.getElem?_eq_some_iff.1 hbk1).1
  have hb1 : (w1.alloc (.cells #[.int .u8 c] 5)).heap[b]? = some (.cells #[.pointer (some ⟨b, 0, none⟩), v] 71 fz) := (Lib.alloc_old w1 _ b hlt).trans hbk1
  have hs1 : (w1.alloc (.cells #[.int .u8 c] 5)).heap.size = w1.heap.size + 1 := by simp
  replace hsz := hsz.symm
  go_wp2_with (at_builtin; refine wpList_append_lies _ rfl _ _ 69 rfl 0 5 i0 (.int .u8 0) 1 1 Tryd.underlying69 hi hz0 hz1 hz2 rfl (by decide) v bs.length bs rfl (hown1.alloc _) ⟨w1.heap.size, 0, none⟩ 1 1 [.int .u8 c] rfl rfl ?news ?one (by decide) ?b1 ?b2 ?base _ rfl ?_)
  case news => exact World.news_of_block (heap_alloc_new w1 (.cells #[.int .u8 c] 5))
  case one => simp [Value.oneCell']
  case b1 => unfold maxLen; omega
  case b2 => omega
  case base => exact Nat.zero_le _
  intro g cap w2 hown' hgrow hat hlt2
  have hb2 : w2.heap[b]? = some (.cells #[.pointer (some ⟨b, 0, none⟩), v] 71 fz) := by
    rw [hgrow.block b (by omega) (fun e => hne e.symm)]
    exact hb1
  have d0 : w2.cell? ⟨b, 0, none⟩ = some (.pointer (some ⟨b, 0, none⟩)) := by rw [Lib.cell_of_heap hb2]; rfl
  have d1 : w2.cell? ⟨b, 1, none⟩ = some v := by rw [Lib.cell_of_heap hb2]; rfl
  have f1 : w2.frozen? ⟨b, 1, none⟩ = false := bld_unfz hb2 hu1
  have hgb : g ≠ b := by
    rintro rfl
    rcases hat with h | h
    · exact hne h
    · omega
  go_wp2
  go_ret
  refine ⟨rfl, _, bld_set hb2 _, ?_, ?_, ?_⟩
  · exact bld_ownsRow hown' (by simpa [Value.ownBlock] using hgb) ⟨rfl, rfl, rfl, by simp [World.setCell], fun k _ hk _ => Below.heap_setCell _ _ _ k hk⟩
  · rcases hat with h | h
    · exact .inl h.symm
    · exact .inr ⟨g, by omega, rfl⟩
  · refine ⟨hgrow.os.trans hf1.os, hgrow.tape.trans hf1.tape, hgrow.output.trans hf1.output, ?_, fun k hk h1 h2 => ?_⟩
    · have := hgrow.size; simp [World.setCell]; omega
    · rw [Below.heap_setCell _ _ _ k h1, hgrow.block k (by omega) h2, Lib.alloc_old w1 _ k (by omega), hf1.block k hk h1 (by simp)]

theorem Tryd.bld_byte_walk : WalkByte Tryd.prog 28 71 := fun b p v fz bs c w hbk hu hp hown hne hlen =>
  Tryd.bld_byte b p v fz bs c w hbk (hu 0 (by omega)) (hu 1 (by omega)) hp hown hne hlen

theorem Tryd.bld_write_walk : WalkWrite Tryd.prog 29 71 := fun b p v fz bs s w hbk hu hp hown hne hlen =>
  Tryd.bld_write b p v fz bs s w hbk (hu 0 (by omega)) (hu 1 (by omega)) hp hown hne hlen

theorem Tryd.bld_string_walk : WalkString Tryd.prog 30 71 := by
  intro b p v fz s w hbk hown hne
  have hlt : b < w.heap.size := (Array.getElem?_eq_some_iff.1 hbk).1
  cases s with
  | nil =>
    rcases hown.2 with ⟨rfl, _⟩ | ⟨g, cap, cur, rfl, _, hg, _, _, _, _⟩
    · refine (Tryd.bld_string_nil b p fz w hbk).mono ?_
      rintro e w' ⟨rfl, rfl⟩
      exact ⟨rfl, rfl, ⟨rfl, rfl, rfl, Nat.le_refl _, fun _ _ _ _ => rfl⟩⟩
    · by_cases hc0 : cap = 0
      · subst hc0
        refine (Tryd.bld_string_noroom b g p fz cur w hbk hg).mono ?_
        rintro e w' ⟨rfl, rfl⟩
        exact ⟨rfl, Lib.alloc_old w.drew _ b hlt, ⟨rfl, rfl, rfl, by simp, fun k hk _ _ => Lib.alloc_old w.drew _ k hk⟩⟩
      · refine (Tryd.bld_string_room b g cap p fz w hc0 hbk).mono ?_
        rintro e w' ⟨rfl, rfl⟩
        exact ⟨rfl, rfl, ⟨rfl, rfl, rfl, Nat.le_refl _, fun _ _ _ _ => rfl⟩⟩
  | cons x r =>
    refine (Tryd.bld_string b p v fz (x :: r) w hbk hown (by simp)).mono ?_
    rintro e w' ⟨rfl, g, hg, rfl⟩
    have hgb : b ≠ g := fun e => hne (by rw [hg, e])
    exact ⟨rfl, bld_freeze hgb, ⟨rfl, rfl, rfl, by unfold World.freeze; split <;> simp, fun k _ _ h2 => bld_freeze (fun e => h2 (by rw [hg]; exact congrArg some e))⟩⟩
end Go.Proofs
/-
  strings_Builder_WriteByte: its contract
-/
set_option linter.unusedVariables false
namespace Go.Vx
open Go.Proofs
def strings_Builder_WriteByte_e (n : Nat) : Entry := bldByteE 71
theorem strings_Builder_WriteByte_ok (n : Nat) : EntryOK Tryd.prog 28 (strings_Builder_WriteByte_e n) := bldByteE_ok Tryd.func28 (by kernel_rfl) (by kernel_rfl) Tryd.bld_byte_walk
end Go.Vx
/-
  strings_Builder_WriteString: its contract
-/
set_option linter.unusedVariables false
namespace Go.Vx
open Go.Proofs
def strings_Builder_WriteString_e (n : Nat) : Entry := bldWriteE 71
theorem strings_Builder_WriteString_ok (n : Nat) : EntryOK Tryd.prog 29 (strings_Builder_WriteString_e n) := bldWriteE_ok Tryd.func29 (by kernel_rfl) (by kernel_rfl) Tryd.bld_write_walk
end Go.Vx
/-
  strings_Builder_String: its contract
-/
set_option linter.unusedVariables false
namespace Go.Vx
open Go.Proofs
def strings_Builder_String_e (n : Nat) : Entry := bldStringE 71
theorem strings_Builder_String_ok (n : Nat) : EntryOK Tryd.prog 30 (strings_Builder_String_e n) := bldStringE_ok Tryd.func30 (by kernel_rfl) (by kernel_rfl) Tryd.bld_string_walk
end Go.Vx
