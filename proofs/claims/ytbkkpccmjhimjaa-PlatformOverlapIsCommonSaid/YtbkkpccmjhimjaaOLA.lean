/- Part of a proof: texts VxPlain PlMod PlKeep PlatA PlatB PlatC. No conditions of their own. -/
import Derived.Test.YtbkkpccmjhimjaaOVB
import Derived.IntWalk
import Derived.Test.YtbkkpccmjhimjaaOFA
/-
  Plain lemmas for pure functions: guards, rows, integers, lists.
-/
namespace Go.Vx
section
variable {R : Type}

def i64 (x : Int) : Prop := -9223372036854775808 ≤ x ∧ x ≤ 9223372036854775807

theorem wrap64 {x : Int} (h : i64 x) : IntKind.wrap .i64 x = x := IntWalk.i64_in x h
theorem wrap64' {x : Int} (h1 : -9223372036854775808 ≤ x) (h2 : x ≤ 9223372036854775807) : IntKind.wrap .i64 x = x := IntWalk.i64_in x ⟨h1, h2⟩
theorem wf64 {n : Int} (h : (Lit.int .i64 n).wf = true) : i64 n := by
  simpa [Lit.wf, IntKind.min, IntKind.max, IntKind.signed, IntKind.bits, i64] using h

theorem pInt_int (k : IntKind) (n : Int) : pInt k (.int k n) = some n := by simp [pInt]
theorem pInt_i64 (n : Int) : pInt .i64 (.int .i64 n) = some n := rfl
theorem pInt_u8 (n : Int) : pInt .u8 (.int .u8 n) = some n := rfl
theorem pBool_b (b : Bool) : pBool (.bool b) = some b := rfl
theorem pStr_s (s : List UInt8) : pStr (.str s) = some s := rfl
theorem pSl_s (k : Nat) (l : List (List D)) : pSl k (.sl k l) = some l := by simp [pSl]

theorem rowAt_map {α : Type} (f : α → List D) (l : List α) (i : Nat) : rowAt (l.map f) (i : Int) = (l[i]?).map f := by
  simp [rowAt]
theorem rowAt_get {α : Type} {f : α → List D} {l : List α} {i : Nat} {a : α} (h : l[i]? = some a) : rowAt (l.map f) (i : Int) = some (f a) := by rw [rowAt_map, h]; rfl
theorem rowAt_int {α : Type} {f : α → List D} {l : List α} {i : Int} (h0 : 0 ≤ i) {a : α} (h : l[i.toNat]? = some a) : rowAt (l.map f) i = some (f a) := by
  have : i = (i.toNat : Int) := by omega
  rw [this, rowAt_get h]

theorem room_ok {n : Nat} (h : n ≤ 140737488355328) : room n = some () := by
  unfold room; rw [Nat.ble_eq_true_of_le h]; rfl
theorem nz_ok {b : Int} (h : b ≠ 0) : nz b = some () := by
  have : (b == 0) = false := by simpa using h
  unfold nz; rw [this]; rfl
theorem inB_ok {len : Nat} {n : Int} (h0 : 0 ≤ n) (h : n < len) : inB len n = some () := by
  unfold inB; simp [h0, h]

theorem drop_cons {α : Type} {l : List α} {i : Nat} {a : α} {r : List α} (h : l.drop i = a :: r) : l[i]? = some a ∧ l.drop (i + 1) = r ∧ i < l.length := by
  have h1 : (l.drop i)[0]? = some a := by rw [h]; rfl
  rw [List.getElem?_drop] at h1
  refine ⟨by simpa using h1, by rw [← List.drop_drop, h]; rfl, ?_⟩
  have := (List.getElem?_eq_some_iff.1 h1).1
  omega
theorem drop_nil {α : Type} {l : List α} {i : Nat} (h : l.drop i = []) : l.length ≤ i := List.drop_eq_nil_iff.1 h

theorem bif_or (a b : Bool) (x y : Option R) : (bif a then x else bif b then x else y) = bif a || b then x else y := by cases a <;> rfl
theorem bif_ite (a : Bool) (x y : Option R) : (bif a then x else y) = if a = true then x else y := by cases a <;> rfl
theorem bif_pos {c : Bool} (h : c = true) (x y : R) : (bif c then x else y) = x := by rw [h]; rfl
theorem bif_neg {c : Bool} (h : c = false) (x y : R) : (bif c then x else y) = y := by rw [h]; rfl

theorem bif_flip {B c : Bool} (h : B = !c) (x y : R) : (bif B then x else y) = bif c then y else x := by subst h; cases c <;> rfl
theorem bif_same {B c : Bool} (h : B = c) (x y : R) : (bif B then x else y) = bif c then x else y := by subst h; rfl

/-- Slices of integers. -/
def encI (l : List Int) : List (List D) := l.map fun n => [D.int .i64 n]
theorem encI_length (l : List Int) : (encI l).length = l.length := by simp [encI]
theorem encI_get {l : List Int} {i : Nat} {a : Int} (h : l[i]? = some a) : rowAt (encI l) (i : Int) = some [.int .i64 a] := rowAt_get h

theorem fit_ints {rows : List (List D)} (h : Fit (.sl [.int .i64]) (.sl 1 rows)) : ∃ l : List Int, rows = encI l ∧ (∀ n ∈ l, i64 n) ∧ l.length ≤ maxLen := by
  cases h with
  | sl _ _ hm hl hr =>
    have h1 : ∀ i, i < rows.length → ∃ n : Int, rows[i]? = some [.int .i64 n] ∧ i64 n := by
      intro i hi
      have hri := List.getElem?_eq_getElem hi
      have hlen := hl i _ hri
      obtain ⟨x, hx⟩ : ∃ x, rows[i] = [x] := by
        match hq : rows[i], hlen with
        | [x], _ => exact ⟨x, rfl⟩
      have hf := hr i 0 _ (.int .i64) x hri rfl (by rw [hx]; rfl)
      cases hf with
      | int _ n hw => exact ⟨n, by rw [hri, hx], wf64 hw⟩
    obtain ⟨l, e1, e2⟩ := ex_list rows.length h1
    refine ⟨l, ?_, fun n hn => ?_, by omega⟩
    · refine List.ext_getElem? fun i => ?_
      rcases Nat.lt_or_ge i l.length with hi | hi
      · have := (e2 i _ (List.getElem?_eq_getElem hi)).1
        rw [this]
        simp [encI, hi]
      · rw [List.getElem?_eq_none (by omega), List.getElem?_eq_none (by simpa [encI] using hi)]
    · obtain ⟨i, hi⟩ := List.getElem?_of_mem hn
      exact (e2 i _ hi).2

theorem fit_sl {row : List Sh} {x : D} (h : Fit (.sl row) x) : ∃ rows, x = .sl row.length rows := by
  cases h with
  | sl _ rows _ _ _ => exact ⟨rows, rfl⟩
theorem fit_int {k : IntKind} {x : D} (h : Fit (.int k) x) : ∃ n, x = .int k n ∧ (Lit.int k n).wf = true := by
  cases h with
  | int _ n h => exact ⟨n, rfl, h⟩
theorem fit_bool {x : D} (h : Fit .bool x) : ∃ b, x = .bool b := by
  cases h with
  | bool b => exact ⟨b, rfl⟩
theorem fit_str {x : D} (h : Fit .str x) : ∃ s, x = .str s ∧ s.length ≤ maxLen := by
  cases h with
  | str s h => exact ⟨s, rfl, h⟩

theorem fitL_cons {s : Sh} {ss : List Sh} {ds : List D} (h : FitL (s :: ss) ds) : ∃ x xs, ds = x :: xs ∧ Fit s x ∧ FitL ss xs := by
  obtain ⟨h1, h2⟩ := h
  cases ds with
  | nil => simp at h1
  | cons x xs => exact ⟨x, xs, rfl, h2 0 s x rfl rfl, by simpa using h1, fun j s' x' hs hx => h2 (j + 1) s' x' (by simpa using hs) (by simpa using hx)⟩
theorem fitL_nil {ds : List D} (h : FitL [] ds) : ds = [] := List.eq_nil_of_length_eq_zero (by simpa using h.1)

/-- Slices of structs. -/
theorem fit_structs {α : Type} {enc : α → List D} {Q : α → Prop} {row : List Sh} (hdec : ∀ r : List D, FitL row r → ∃ a, r = enc a ∧ Q a) {k : Nat} {rows : List (List D)} (h : Fit (.sl row) (.sl k rows)) : ∃ l : List α, rows = l.map enc ∧ (∀ a ∈ l, Q a) ∧ l.length ≤ maxLen := by
  cases h with
  | sl _ _ hm hl hr =>
    have h1 : ∀ i, i < rows.length → ∃ a : α, rows[i]? = some (enc a) ∧ Q a := by
      intro i hi
      have hri := List.getElem?_eq_getElem hi
      obtain ⟨a, ha, hq⟩ := hdec rows[i] ⟨hl i _ hri, fun j s x hs hx => hr i j _ s x hri hs hx⟩
      exact ⟨a, by rw [hri, ha], hq⟩
    obtain ⟨l, e1, e2⟩ := ex_list rows.length h1
    refine ⟨l, ?_, fun n hn => ?_, by omega⟩
    · refine List.ext_getElem? fun i => ?_
      rcases Nat.lt_or_ge i l.length with hi | hi
      · rw [(e2 i _ (List.getElem?_eq_getElem hi)).1]; simp [hi]
      · rw [List.getElem?_eq_none (by omega), List.getElem?_eq_none (by simpa using hi)]
    · obtain ⟨i, hi⟩ := List.getElem?_of_mem hn
      exact (e2 i _ hi).2

/-- A law's answer. -/
def lawK : AV → Option Bool
  | .d (.bool b) => some b
  | _ => none
theorem lawK_ok (x : AV) (h : lawK x = some true) : x = .d (.bool true) := by
  unfold lawK at h
  split at h
  · injection h with h; subst h; rfl
  · cases h

end
end Go.Vx
/-
  Plain laws: Mod, the program's and the reference's.
-/
set_option linter.unusedSimpArgs false
set_option linter.unusedVariables false
namespace Go.Vx
section
variable {R : Type}

theorem tmod_emod {x t : Int} (ht : 0 < t) : (if x.tmod t < 0 then x.tmod t + t else x.tmod t) = x % t := by
  have h1 := Int.tmod_def x t
  have h2 := Int.emod_def x t
  rcases Int.le_total 0 x with h | h
  · rw [Int.tmod_eq_emod_of_nonneg h]
    have := Int.emod_nonneg x (by omega : t ≠ 0)
    rw [if_neg (by omega)]
  · obtain ⟨y, rfl⟩ : ∃ y, x = -y := ⟨-x, by omega⟩
    have hy : 0 ≤ y := by omega
    rw [Int.neg_tmod, Int.tmod_eq_emod_of_nonneg hy]
    have e1 := Int.emod_nonneg y (by omega : t ≠ 0)
    have e2 := Int.emod_lt_of_pos y ht
    have e3 : (-y) % t = if y % t = 0 then 0 else t - y % t := by
      by_cases h0 : y % t = 0
      · rw [if_pos h0]; exact Int.emod_eq_zero_of_dvd (by rw [Int.dvd_neg]; exact Int.dvd_of_emod_eq_zero h0)
      · rw [if_neg h0]
        have : -y = (t - y % t) + t * (-(y / t) - 1) := by
          have := Int.mul_ediv_add_emod y t
          rw [Int.mul_sub, Int.mul_neg]; omega
        rw [this, Int.add_mul_emod_self_left, Int.emod_eq_of_lt (by omega) (by omega)]
    rw [e3]
    by_cases h0 : y % t = 0
    · simp [h0]
    · rw [if_neg h0, if_pos (by omega)]; omega

/-- The program's Mod. -/
def mod (x t : Int) : Int := if t < 1 then 0 else x % t

theorem mod_nonneg (x t : Int) : 0 ≤ mod x t := by
  unfold mod; split
  · exact Int.le_refl 0
  · exact Int.emod_nonneg x (by omega)
theorem mod_lt (x : Int) {t : Int} (h : 0 < t) : mod x t < t := by
  unfold mod; rw [if_neg (by omega)]; exact Int.emod_lt_of_pos x h

theorem tmod_abs (x : Int) {t : Int} (ht : 0 < t) : -t < x.tmod t ∧ x.tmod t < t := by
  have h1 := Int.tmod_lt_of_pos x ht
  have h2 := Int.lt_tmod_of_pos x ht
  omega

theorem modA (n : Nat) (x t : Int) (ht : t ≤ 9223372036854775807) (K : Int → Option R) : arith_Mod n x t K = K (mod x t) := by
  unfold arith_Mod arith_Mod_p1
  by_cases h : t < 1
  · rw [bif_pos (by simpa using h)]; simp [mod, h]
  · rw [bif_neg (by simpa using h), nz_ok (by omega)]
    simp -implicitDefEqProofs only [gb_some_eq]
    have := tmod_abs x (t := t) (by omega)
    simp only [mod, h, if_false]
    rw [← tmod_emod (by omega)]
    by_cases h2 : x.tmod t < 0
    · rw [bif_pos (by simpa using h2), if_pos h2, wrap64' (by omega) (by omega)]
    · rw [bif_neg (by simpa using h2), if_neg h2]
theorem modB (n : Nat) (x t : Int) (ht : t ≤ 9223372036854775807) (K : Int → Option R) : ref1_Mod n x t K = K (mod x t) := by
  unfold ref1_Mod ref1_Mod_p1
  by_cases h : t < 1
  · rw [bif_pos (by simpa using h)]; simp [mod, h]
  · rw [bif_neg (by simpa using h), nz_ok (by omega)]
    simp -implicitDefEqProofs only [gb_some_eq]
    have := tmod_abs x (t := t) (by omega)
    simp only [mod, h, if_false]
    rw [← tmod_emod (by omega)]
    by_cases h2 : x.tmod t < 0
    · rw [bif_pos (by simpa using h2), if_pos h2, wrap64' (by omega) (by omega)]
    · rw [bif_neg (by simpa using h2), if_neg h2]

end
end Go.Vx
/-
  Plain laws: Pick, Next.
-/
set_option linter.unusedSimpArgs false
set_option linter.unusedVariables false
namespace Go.Vx
section
variable {R : Type}

theorem wrapU_nonneg (x : Int) : 0 ≤ IntKind.wrap .u64 x := by
  have := Int.emod_nonneg x (show (18446744073709551616 : Int) ≠ 0 by decide)
  simpa [IntKind.wrap, IntKind.bits, IntKind.signed] using this
theorem wrapU_id {x : Int} (h0 : 0 ≤ x) (h1 : x < 18446744073709551616) : IntKind.wrap .u64 x = x := by
  have := Int.emod_eq_of_lt h0 h1
  simpa [IntKind.wrap, IntKind.bits, IntKind.signed] using this

/-- The number that Pick takes. -/
def pick (v m : Int) : Int := (IntKind.wrap .u64 v).tmod m
theorem pick_range (v : Int) {m : Int} (h : 0 < m) : 0 ≤ pick v m ∧ pick v m < m := by
  unfold pick
  rw [Int.tmod_eq_emod_of_nonneg (wrapU_nonneg v)]
  exact ⟨Int.emod_nonneg _ (by omega), Int.emod_lt_of_pos _ h⟩

theorem pickA (n : Nat) (v : Int) {m : Int} (h : 0 < m) (hm : m ≤ 9223372036854775807) (K : Int → Option R) : keep_Pick n v m K = K (pick v m) := by
  unfold keep_Pick keep_Pick_p1
  rw [wrapU_id (x := m) (by omega) (by omega), nz_ok (by omega)]
  simp -implicitDefEqProofs only [gb_some_eq]
  have := pick_range v h
  unfold pick at this ⊢
  rw [wrap64' (by omega) (by omega)]

/-- Next: a number below the bound, and the place moves on. -/
theorem nextA (n : Nat) {l : List Int} (hl : l.length ≤ 9223372036854775807) {i : Nat} (hi : i ≤ l.length) {m : Int} (h : 0 < m) (hm : m ≤ 9223372036854775807) :
    ∃ (v : Int) (j : Nat), 0 ≤ v ∧ v < m ∧ j ≤ l.length ∧ ∀ (R : Type) (K : Int → List (List D) → Int → Option R), keep_Source_Next n (encI l) i m K = K v (encI l) j := by
  by_cases hlt : i < l.length
  · have hg := List.getElem?_eq_getElem hlt
    refine ⟨pick l[i] m, i + 1, (pick_range _ h).1, (pick_range _ h).2, by omega, fun R K => ?_⟩
    unfold keep_Source_Next keep_Source_Next_p1
    rw [bif_neg (by simp [encI_length]; omega), wrap64' (x := (i : Int) + 1) (by omega) (by omega), wrap64' (by omega) (by omega)]
    rw [show (i : Int) + 1 - 1 = (i : Int) by omega, encI_get hg]
    simp -implicitDefEqProofs only [gb_some_eq, List.getElem?_cons_zero, pInt_i64, pickA n _ h hm]
    rfl
  · refine ⟨0, i, by omega, h, hi, fun R K => ?_⟩
    unfold keep_Source_Next keep_Source_Next_p1
    rw [bif_pos (by simp [encI_length]; omega)]

end
end Go.Vx
/-
  Plain laws of platform: visits, Valid, overlap.
-/
set_option linter.unusedSimpArgs false
set_option linter.unusedVariables false
namespace Go.Vx
section
variable {R : Type}

structure Vis where
  frm : Int
  len : Int
  tr : List Int
def Vis.enc (v : Vis) : List D := [.int .i64 v.frm, .int .i64 v.len, .sl 1 (encI v.tr)]

/-- Strictly ascending, and above a bound. -/
def asc : Int → List Int → Bool
  | _, [] => true
  | b, x :: r => decide (b < x) && asc x r

def Vis.ok (t : Int) (v : Vis) : Bool := decide (0 ≤ v.frm ∧ v.frm < t ∧ 1 ≤ v.len ∧ v.len ≤ t ∧ v.tr.length ≤ 8) && asc (-1) v.tr

theorem asc_append : ∀ (l : List Int) (b x : Int), asc b l = true → (∀ y ∈ l, y < x) → b < x → asc b (l ++ [x]) = true
  | [], b, x, _, _, h => by simp [asc, h]
  | a :: r, b, x, h, hy, hb => by
    simp only [asc, Bool.and_eq_true, decide_eq_true_eq, List.cons_append] at h ⊢
    exact ⟨h.1, asc_append r a x h.2 (fun y hm => hy y (by simp [hm])) (hy a (by simp))⟩

/-- What the makers of visits keep. -/
def TrOk (k : Int) (l : List Int) : Prop := asc (-1) l = true ∧ (∀ y ∈ l, 0 ≤ y ∧ y < k) ∧ (l.length : Int) ≤ k

theorem tracks_r10 (n : Nat) {l : List Int} (hl : l.length ≤ 9223372036854775807) (a b c d : Int) (e : List (List D)) : ∀ (q m i : Nat) (tr : List Int), q < m → q ≤ 4 → i ≤ l.length → TrOk (4 - q) tr →
    ∃ (tr' : List Int) (j : Nat), TrOk 4 tr' ∧ j ≤ l.length ∧ ∀ (R : Type) (k0 : Int → Bool → List (List D) → List (List D) → Int → Option R), law20_visits_r10 n a b c d e k0 m (4 - q) (encI tr) (encI l) i = k0 4 false (encI tr') (encI l) j
  | 0, m, i, tr, hm, hq, hi, ht => by
    obtain ⟨m, rfl⟩ : ∃ m', m = m' + 1 := ⟨m - 1, by omega⟩
    refine ⟨tr, i, by simpa using ht, hi, fun R k0 => ?_⟩
    rw [law20_visits_r10]
    unfold law20_visits_p9
    rw [bif_neg (by simp)]
    simp
  | q + 1, m, i, tr, hm, hq, hi, ht => by
    obtain ⟨m, rfl⟩ : ∃ m', m = m' + 1 := ⟨m - 1, by omega⟩
    obtain ⟨v1, j1, a1, b1, c1, e1⟩ := nextA n hl hi (m := 2) (by omega) (by omega)
    obtain ⟨t1, t2, t3⟩ := ht
    by_cases hv : v1 = 0
    · obtain ⟨tr', j, g1, g2, g3⟩ := tracks_r10 n hl a b c d e q m j1 (tr ++ [(4 : Int) - ((q + 1 : Nat) : Int)]) (by omega) (by omega) c1 (by
        refine ⟨asc_append tr (-1) _ t1 (fun y hy => (t2 y hy).2) (by omega), fun y hy => ?_, by simp; omega⟩
        rcases List.mem_append.1 hy with hy | hy
        · have := t2 y hy; omega
        · simp at hy; omega)
      refine ⟨tr', j, g1, g2, fun R k0 => ?_⟩
      rw [law20_visits_r10]
      unfold law20_visits_p9
      rw [bif_pos (by simp; omega)]
      simp -implicitDefEqProofs only [gb_some_eq, e1]
      rw [bif_pos (by simpa using hv), room_ok (by simp [encI_length]; omega)]
      simp -implicitDefEqProofs only [gb_some_eq]
      rw [wrap64' (by omega) (by omega), show (4 : Int) - ((q + 1 : Nat) : Int) + 1 = 4 - (q : Int) by omega, ← g3 R k0]
      congr 1
      simp [encI]
    · obtain ⟨tr', j, g1, g2, g3⟩ := tracks_r10 n hl a b c d e q m j1 tr (by omega) (by omega) c1 ⟨t1, fun y hy => by have := t2 y hy; omega, by omega⟩
      refine ⟨tr', j, g1, g2, fun R k0 => ?_⟩
      rw [law20_visits_r10]
      unfold law20_visits_p9
      rw [bif_pos (by simp; omega)]
      simp -implicitDefEqProofs only [gb_some_eq, e1]
      rw [bif_neg (by simpa using hv), wrap64' (by omega) (by omega), show (4 : Int) - ((q + 1 : Nat) : Int) + 1 = 4 - (q : Int) by omega, ← g3 R k0]

theorem tracks_r17 (n : Nat) {l : List Int} (hl : l.length ≤ 9223372036854775807) (a b c d : Int) (e : List (List D)) : ∀ (q m i : Nat) (tr : List Int), q < m → q ≤ 4 → i ≤ l.length → TrOk (4 - q) tr →
    ∃ (tr' : List Int) (j : Nat), TrOk 4 tr' ∧ j ≤ l.length ∧ ∀ (R : Type) (k0 : Int → Bool → List (List D) → List (List D) → Int → Option R), law20_visits_r17 n a b c d e k0 m (4 - q) (encI tr) (encI l) i = k0 4 false (encI tr') (encI l) j
  | 0, m, i, tr, hm, hq, hi, ht => by
    obtain ⟨m, rfl⟩ : ∃ m', m = m' + 1 := ⟨m - 1, by omega⟩
    refine ⟨tr, i, by simpa using ht, hi, fun R k0 => ?_⟩
    rw [law20_visits_r17]
    unfold law20_visits_p16
    rw [bif_neg (by simp)]
    simp
  | q + 1, m, i, tr, hm, hq, hi, ht => by
    obtain ⟨m, rfl⟩ : ∃ m', m = m' + 1 := ⟨m - 1, by omega⟩
    obtain ⟨v1, j1, a1, b1, c1, e1⟩ := nextA n hl hi (m := 2) (by omega) (by omega)
    obtain ⟨t1, t2, t3⟩ := ht
    by_cases hv : v1 = 0
    · obtain ⟨tr', j, g1, g2, g3⟩ := tracks_r17 n hl a b c d e q m j1 (tr ++ [(4 : Int) - ((q + 1 : Nat) : Int)]) (by omega) (by omega) c1 (by
        refine ⟨asc_append tr (-1) _ t1 (fun y hy => (t2 y hy).2) (by omega), fun y hy => ?_, by simp; omega⟩
        rcases List.mem_append.1 hy with hy | hy
        · have := t2 y hy; omega
        · simp at hy; omega)
      refine ⟨tr', j, g1, g2, fun R k0 => ?_⟩
      rw [law20_visits_r17]
      unfold law20_visits_p16
      rw [bif_pos (by simp; omega)]
      simp -implicitDefEqProofs only [gb_some_eq, e1]
      rw [bif_pos (by simpa using hv), room_ok (by simp [encI_length]; omega)]
      simp -implicitDefEqProofs only [gb_some_eq]
      rw [wrap64' (by omega) (by omega), show (4 : Int) - ((q + 1 : Nat) : Int) + 1 = 4 - (q : Int) by omega, ← g3 R k0]
      congr 1
      simp [encI]
    · obtain ⟨tr', j, g1, g2, g3⟩ := tracks_r17 n hl a b c d e q m j1 tr (by omega) (by omega) c1 ⟨t1, fun y hy => by have := t2 y hy; omega, by omega⟩
      refine ⟨tr', j, g1, g2, fun R k0 => ?_⟩
      rw [law20_visits_r17]
      unfold law20_visits_p16
      rw [bif_pos (by simp; omega)]
      simp -implicitDefEqProofs only [gb_some_eq, e1]
      rw [bif_neg (by simpa using hv), wrap64' (by omega) (by omega), show (4 : Int) - ((q + 1 : Nat) : Int) + 1 = 4 - (q : Int) by omega, ← g3 R k0]

def Vis.made (t : Int) (v : Vis) : Prop := 0 ≤ v.frm ∧ v.frm < t ∧ 1 ≤ v.len ∧ v.len ≤ t ∧ TrOk 4 v.tr

theorem Vis.made_ok {t : Int} {v : Vis} (h : v.made t) : v.ok t = true := by
  obtain ⟨h1, h2, h3, h4, h5, h6, h7⟩ := h
  simp only [Vis.ok, Bool.and_eq_true, decide_eq_true_eq]
  exact ⟨by omega, h5⟩

theorem visits_r28 (n : Nat) (hn : 16 < n) {l : List Int} (hl : l.length ≤ 9223372036854775807) (t : Int) (ht : 2 ≤ t ∧ t ≤ 31) : ∀ (q m i : Nat) (vs : List Vis), q < m → vs.length + q ≤ 7 → i ≤ l.length → (∀ v ∈ vs, v.made t) →
    ∃ (vs' : List Vis) (j : Nat), vs'.length = vs.length + q ∧ (∀ v ∈ vs', v.made t) ∧ ∀ (R : Type) (k0 : Int → Bool → List (List D) → List (List D) → Int → Option R), law20_visits_r28 n t k0 m q (vs.map Vis.enc) (encI l) i = k0 0 false (vs'.map Vis.enc) (encI l) j
  | 0, m, i, vs, hm, hq, hi, hv => by
    obtain ⟨m, rfl⟩ : ∃ m', m = m' + 1 := ⟨m - 1, by omega⟩
    refine ⟨vs, i, by simp, hv, fun R k0 => ?_⟩
    rw [law20_visits_r28]
    unfold law20_visits_p27
    simp -implicitDefEqProofs only [law20_visits_p5]
    rw [bif_neg (by simp)]
    simp
  | q + 1, m, i, vs, hm, hq, hi, hv => by
    obtain ⟨m, rfl⟩ : ∃ m', m = m' + 1 := ⟨m - 1, by omega⟩
    obtain ⟨v1, j1, a1, b1, c1, e1⟩ := nextA n hl hi (m := t) (by omega) (by omega)
    obtain ⟨v2, j2, a2, b2, c2, e2⟩ := nextA n hl c1 (m := t) (by omega) (by omega)
    obtain ⟨v3, j3, a3, b3, c3, e3⟩ := nextA n hl c2 (m := 2) (by omega) (by omega)
    have hd : Int.tdiv t 3 = t / 3 := Int.tdiv_eq_ediv_of_nonneg (by omega)
    by_cases h3 : v3 = 0
    · obtain ⟨v4, j4, a4, b4, c4, e4⟩ := nextA n hl c3 (m := 1 + t / 3) (by omega) (by omega)
      obtain ⟨tr, j5, g1, g2, g3⟩ := tracks_r10 n hl t ((q + 1 : Nat) : Int) v1 (1 + v4) (vs.map Vis.enc) 4 n j4 [] (by omega) (by omega) c4 ⟨rfl, by simp, by simp⟩
      obtain ⟨vs', j, f1, f2, f3⟩ := visits_r28 n hn hl t ht q m j5 (vs ++ [⟨v1, 1 + v4, tr⟩]) (by omega) (by simp; omega) g2 (by
        intro v hm
        rcases List.mem_append.1 hm with hm | hm
        · exact hv v hm
        · simp only [List.mem_singleton] at hm
          subst hm
          exact ⟨by simpa using a1, by simpa using b1, by simp; omega, by simp; omega, g1⟩)
      refine ⟨vs', j, by simp at f1; omega, f2, fun R k0 => ?_⟩
      rw [law20_visits_r28]
      unfold law20_visits_p27
      simp -implicitDefEqProofs only [law20_visits_p5]
      rw [bif_pos (by simp <;> omega)]
      simp -implicitDefEqProofs only [law20_visits_p6, law20_visits_p7, law20_visits_p8, law20_visits_p10, law20_visits_p11, law20_visits_p12, law20_visits_p13, law20_visits_p14, law20_visits_p15, law20_visits_p17, law20_visits_p18, law20_visits_p19, law20_visits_p20, law20_visits_p21, law20_visits_p22, law20_visits_p23, law20_visits_p24, law20_visits_p25, law20_visits_p26, gb_some_eq, e1, e2, e3]
      rw [bif_pos (by simpa using h3), nz_ok (by omega), hd, wrap64' (x := t / 3) (by omega) (by omega), wrap64' (x := 1 + t / 3) (by omega) (by omega)]
      simp -implicitDefEqProofs only [gb_some_eq, e4]
      rw [wrap64' (x := 1 + v4) (by omega) (by omega), show law20_visits_r10 n t ((q + 1 : Nat) : Int) v1 (1 + v4) (vs.map Vis.enc) _ n 0 [] (encI l) j4 = law20_visits_r10 n t ((q + 1 : Nat) : Int) v1 (1 + v4) (vs.map Vis.enc) _ n (4 - ((4 : Nat) : Int)) (encI []) (encI l) j4 from rfl, g3]
      rw [room_ok (by simp; omega)]
      simp -implicitDefEqProofs only [gb_some_eq]
      rw [wrap64' (x := ((q + 1 : Nat) : Int) - 1) (by omega) (by omega), show ((q + 1 : Nat) : Int) - 1 = (q : Int) by omega, ← f3 R k0]
      simp only [List.map_append, List.map_cons, List.map_nil, Vis.enc]
    · obtain ⟨tr, j5, g1, g2, g3⟩ := tracks_r17 n hl t ((q + 1 : Nat) : Int) v1 (1 + v2) (vs.map Vis.enc) 4 n j3 [] (by omega) (by omega) c3 ⟨rfl, by simp, by simp⟩
      obtain ⟨vs', j, f1, f2, f3⟩ := visits_r28 n hn hl t ht q m j5 (vs ++ [⟨v1, 1 + v2, tr⟩]) (by omega) (by simp; omega) g2 (by
        intro v hm
        rcases List.mem_append.1 hm with hm | hm
        · exact hv v hm
        · simp only [List.mem_singleton] at hm
          subst hm
          exact ⟨by simpa using a1, by simpa using b1, by simp; omega, by simp; omega, g1⟩)
      refine ⟨vs', j, by simp at f1; omega, f2, fun R k0 => ?_⟩
      rw [law20_visits_r28]
      unfold law20_visits_p27
      simp -implicitDefEqProofs only [law20_visits_p5]
      rw [bif_pos (by simp <;> omega)]
      simp -implicitDefEqProofs only [law20_visits_p6, law20_visits_p7, law20_visits_p8, law20_visits_p10, law20_visits_p11, law20_visits_p12, law20_visits_p13, law20_visits_p14, law20_visits_p15, law20_visits_p17, law20_visits_p18, law20_visits_p19, law20_visits_p20, law20_visits_p21, law20_visits_p22, law20_visits_p23, law20_visits_p24, law20_visits_p25, law20_visits_p26, gb_some_eq, e1, e2, e3]
      rw [bif_neg (by simpa using h3), wrap64' (x := 1 + v2) (by omega) (by omega), show law20_visits_r17 n t ((q + 1 : Nat) : Int) v1 (1 + v2) (vs.map Vis.enc) _ n 0 [] (encI l) j3 = law20_visits_r17 n t ((q + 1 : Nat) : Int) v1 (1 + v2) (vs.map Vis.enc) _ n (4 - ((4 : Nat) : Int)) (encI []) (encI l) j3 from rfl, g3]
      rw [room_ok (by simp; omega)]
      simp -implicitDefEqProofs only [gb_some_eq]
      rw [wrap64' (x := ((q + 1 : Nat) : Int) - 1) (by omega) (by omega), show ((q + 1 : Nat) : Int) - 1 = (q : Int) by omega, ← f3 R k0]
      simp only [List.map_append, List.map_cons, List.map_nil, Vis.enc]

theorem visitsA (n : Nat) (hn : 16 < n) {l : List Int} (hl : l.length ≤ 9223372036854775807) (t : Int) (ht : 2 ≤ t ∧ t ≤ 31) :
    ∃ vs : List Vis, vs.length ≤ 7 ∧ (∀ v ∈ vs, v.made t) ∧ ∀ (R : Type) (K : List (List D) → Option R), law20_visits n t (encI l) K = K (vs.map Vis.enc) := by
  obtain ⟨v1, j1, a1, b1, c1, e1⟩ := nextA n hl (Nat.zero_le _) (m := 8) (by omega) (by omega)
  obtain ⟨c, hc⟩ : ∃ c : Nat, v1 = c := ⟨v1.toNat, by omega⟩
  subst hc
  obtain ⟨vs, j, h1, h2, h3⟩ := visits_r28 n hn hl t ht c n j1 [] (by omega) (by simp; omega) c1 (by simp)
  refine ⟨vs, by simp at h1; omega, h2, fun R K => ?_⟩
  simp -implicitDefEqProofs only [law20_visits_p1, law20_visits_p2, law20_visits_p3, law20_visits_p4, law20_visits_p28, law20_visits_p29, law20_visits_p30, law20_visits_p31, law20_visits_p32, law20_visits_p33, law20_visits_p34, law20_visits_p35, law20_visits, keep_From, keep_From_p1, gb_some_eq]
  rw [show ((0 : Int)) = ((0 : Nat) : Int) from rfl]
  simp -implicitDefEqProofs only [e1, gb_some_eq]
  exact h3 _ _

/-! Valid -/

theorem valid_r11 (n : Nat) (t : Int) (a : List (List D)) (w h : Int) (tr : List Int) (hl : tr.length ≤ 8) (k0 : Option R) (k1 : Int → Int → Bool → Option R) (kx : Option R) (hk : ∀ x y z, k1 x y z = kx) : ∀ (suf : List Int) (i m : Nat) (last : Int), tr.drop i = suf → suf.length < m →
    platform_Valid_r11 n t a w h (encI tr) tr.length k0 k1 m last i = bif asc last suf then kx else k0
  | [], i, m, last, hd, hm => by
    have hi := drop_nil hd
    obtain ⟨m, rfl⟩ : ∃ m', m = m' + 1 := ⟨m - 1, by omega⟩
    rw [platform_Valid_r11]
    unfold platform_Valid_p10
    rw [bif_neg (by simpa using hi)]
    simp only [hk, asc, cond_true]
  | x :: suf, i, m, last, hd, hm => by
    obtain ⟨h1, h2, h3⟩ := drop_cons hd
    obtain ⟨m, rfl⟩ : ∃ m', m = m' + 1 := ⟨m - 1, by omega⟩
    rw [platform_Valid_r11]
    unfold platform_Valid_p10
    rw [bif_pos (by simpa using h3), encI_get h1]
    simp -implicitDefEqProofs only [gb_some_eq, List.getElem?_cons_zero, pInt_i64]
    rw [wrap64' (by omega) (by omega), show ((i : Int) + 1) = ((i + 1 : Nat) : Int) from rfl, valid_r11 n t a w h tr hl k0 k1 kx hk suf (i + 1) m x h2 (by simp at hm; omega)]
    rw [show asc last (x :: suf) = (decide (last < x) && asc x suf) from rfl]
    by_cases hb : last < x
    · have : ¬ x ≤ last := by omega
      simp [hb, this]
    · have : x ≤ last := by omega
      simp [hb, this]
end
end Go.Vx
/-
  Plain laws of platform: Valid, overlap, Overlap.
-/
set_option linter.unusedSimpArgs false
set_option linter.unusedVariables false
namespace Go.Vx
section
variable {R : Type}

theorem rowAt_get' {α : Type} {f : α → List D} {l : List α} {i : Nat} {a : α} (h : l[i]? = some a) : rowAt (l.map f) (i : Int) = some (f a) := rowAt_get h

theorem valid_r22 (n : Nat) (hn : 16 < n) (t : Int) (vs : List Vis) (hl : vs.length ≤ 16) (k0 : Option R) (k1 : Int → Bool → Option R) (kx : Option R) (hk : ∀ x y, k1 x y = kx) : ∀ (suf : List Vis) (i m : Nat), vs.drop i = suf → suf.length < m →
    platform_Valid_r22 n t (vs.map Vis.enc) vs.length k0 k1 m i = bif suf.all (Vis.ok t) then kx else k0
  | [], i, m, hd, hm => by
    have hi := drop_nil hd
    obtain ⟨m, rfl⟩ : ∃ m', m = m' + 1 := ⟨m - 1, by omega⟩
    rw [platform_Valid_r22]
    unfold platform_Valid_p21
    simp -implicitDefEqProofs only [platform_Valid_p4, platform_Valid_p5, platform_Valid_p6, platform_Valid_p7, platform_Valid_p8, platform_Valid_p9, platform_Valid_p11, platform_Valid_p12, platform_Valid_p13, platform_Valid_p14, platform_Valid_p15, platform_Valid_p16, platform_Valid_p17, platform_Valid_p18, platform_Valid_p19, platform_Valid_p20]
    rw [bif_neg (by simpa using hi)]
    simp only [hk, List.all_nil, cond_true]
  | v :: suf, i, m, hd, hm => by
    obtain ⟨h1, h2, h3⟩ := drop_cons hd
    obtain ⟨m, rfl⟩ : ∃ m', m = m' + 1 := ⟨m - 1, by omega⟩
    have ih := valid_r22 n hn t vs hl k0 k1 kx hk suf (i + 1) m h2 (by simp at hm; omega)
    rw [platform_Valid_r22]
    unfold platform_Valid_p21
    simp -implicitDefEqProofs only [platform_Valid_p4, platform_Valid_p5, platform_Valid_p6, platform_Valid_p7, platform_Valid_p8, platform_Valid_p9, platform_Valid_p11, platform_Valid_p12, platform_Valid_p13, platform_Valid_p14, platform_Valid_p15, platform_Valid_p16, platform_Valid_p17, platform_Valid_p18, platform_Valid_p19, platform_Valid_p20]
    rw [bif_pos (by simpa using h3), rowAt_get h1]
    simp -implicitDefEqProofs only [Vis.enc, gb_some_eq, List.getElem?_cons_zero, List.getElem?_cons_succ, pInt_i64, pSl_s, Bool.cond_true_left, encI_length]
    rw [wrap64' (by omega) (by omega), show ((i : Int) + 1) = ((i + 1 : Nat) : Int) from rfl]
    by_cases hc : 0 ≤ v.frm ∧ v.frm < t ∧ 1 ≤ v.len ∧ v.len ≤ t ∧ v.tr.length ≤ 8
    · rw [bif_neg (by simp only [Bool.or_eq_false_iff, decide_eq_false_iff_not]; omega), show ((0 : Int)) = ((0 : Nat) : Int) from rfl, valid_r11 n t _ _ _ v.tr hc.2.2.2.2 k0 _ _ (fun _ _ _ => ih) v.tr 0 n (-1) rfl (by omega), List.all_cons]
      have : v.ok t = asc (-1) v.tr := by simp [Vis.ok, hc]
      rw [this]
      cases asc (-1) v.tr <;> rfl
    · rw [bif_pos (by simp only [Bool.or_eq_true, decide_eq_true_eq]; omega), List.all_cons]
      have : v.ok t = false := by simp [Vis.ok, hc]
      rw [this]
      rfl

def visValid (t : Int) (vs : List Vis) : Bool := decide (2 ≤ t ∧ t ≤ 7200 ∧ vs.length ≤ 16) && vs.all (Vis.ok t)

theorem validA (n : Nat) (hn : 16 < n) (t : Int) (vs : List Vis) (K : Bool → Option R) : platform_Valid n t (vs.map Vis.enc) K = K (visValid t vs) := by
  simp -implicitDefEqProofs only [platform_Valid_p1, platform_Valid_p2, platform_Valid_p3, platform_Valid_p22, platform_Valid_p23, platform_Valid_p24, platform_Valid_p25, platform_Valid_p26, platform_Valid_p27, platform_Valid_p28, platform_Valid, List.length_map, Bool.cond_true_left]
  by_cases hc : 2 ≤ t ∧ t ≤ 7200 ∧ vs.length ≤ 16
  · rw [bif_neg (by simp only [Bool.or_eq_false_iff, decide_eq_false_iff_not]; omega), show ((0 : Int)) = ((0 : Nat) : Int) from rfl, valid_r22 n hn t vs hc.2.2 _ _ (K true) (fun _ _ => rfl) vs 0 n rfl (by omega)]
    simp only [visValid, hc, and_self, decide_true, Bool.true_and]
    cases vs.all (Vis.ok t) <;> rfl
  · rw [bif_pos (by simp only [Bool.or_eq_true, decide_eq_true_eq]; omega)]
    simp only [visValid, hc, decide_false, Bool.false_and]

def ovl (t : Int) (a b : Vis) : Bool := decide (mod (b.frm - a.frm) t < a.len) || decide (mod (a.frm - b.frm) t < b.len)

theorem overlapA (n : Nat) (t : Int) (ht : t ≤ 7200) (a b : Vis) (ha : a.ok t = true) (hb : b.ok t = true) (K : Bool → Option R) : platform_overlap n t a.frm a.len (encI a.tr) b.frm b.len (encI b.tr) K = K (ovl t a b) := by
  simp only [Vis.ok, Bool.and_eq_true, decide_eq_true_eq] at ha hb
  simp -implicitDefEqProofs only [platform_overlap, platform_overlap_p1]
  rw [wrap64' (x := b.frm - a.frm) (by omega) (by omega), wrap64' (x := a.frm - b.frm) (by omega) (by omega)]
  simp -implicitDefEqProofs only [modA n _ t (by omega), gb_some_eq, Bool.cond_true_left, ovl]

theorem OverlapA (n : Nat) (hn : 16 < n) (t : Int) (a b : Vis) (K : Bool → Option R) : platform_Overlap n t a.frm a.len (encI a.tr) b.frm b.len (encI b.tr) K = K (visValid t [a, b] && ovl t a b) := by
  simp -implicitDefEqProofs only [platform_Overlap, platform_Overlap_p1]
  rw [show [[D.int .i64 a.frm, D.int .i64 a.len, D.sl 1 (encI a.tr)], [D.int .i64 b.frm, D.int .i64 b.len, D.sl 1 (encI b.tr)]] = [a, b].map Vis.enc from rfl, validA n hn]
  simp -implicitDefEqProofs only [gb_some_eq]
  cases hv : visValid t [a, b] with
  | true =>
    have h := hv
    simp only [visValid, Bool.and_eq_true, decide_eq_true_eq, List.all_cons, List.all_nil, Bool.and_true] at h
    rw [overlapA n t h.1.2.1 a b h.2.1 h.2.2]
    simp -implicitDefEqProofs only [gb_some_eq, Bool.cond_false_right, Bool.true_and, cond_true]
  | false =>
    rw [gb_false]
    simp

/-- A residue of both. -/
def bothAt (t : Int) (a b : Vis) (s : Int) : Bool := decide (mod (s - a.frm) t < a.len) && decide (mod (s - b.frm) t < b.len)
def bothIn (t : Int) (a b : Vis) : Nat → Nat → Bool
  | _, 0 => false
  | i, c + 1 => bothAt t a b i || bothIn t a b (i + 1) c

theorem bothIn_iff (t : Int) (a b : Vis) : ∀ (c i : Nat), bothIn t a b i c = true ↔ ∃ s : Nat, i ≤ s ∧ s < i + c ∧ bothAt t a b s = true
  | 0, i => by simp [bothIn]; omega
  | c + 1, i => by
    simp only [bothIn, Bool.or_eq_true, bothIn_iff t a b c (i + 1)]
    constructor
    · rintro (h | ⟨s, h1, h2, h3⟩)
      · exact ⟨i, by omega, by omega, h⟩
      · exact ⟨s, by omega, by omega, h3⟩
    · rintro ⟨s, h1, h2, h3⟩
      by_cases e : s = i
      · subst e; exact .inl h3
      · exact .inr ⟨s, by omega, by omega, h3⟩

theorem mod_self_sub {x t : Int} (ht : 0 < t) : mod (x - x) t = 0 := by
  unfold mod; rw [if_neg (by omega), Int.sub_self]; rfl

theorem mod_diff {t s f g : Int} (ht : 0 < t) (h : mod (s - g) t ≤ mod (s - f) t) : mod (g - f) t = mod (s - f) t - mod (s - g) t := by
  have a1 := mod_nonneg (s - g) t
  have a2 := mod_lt (s - f) ht
  have hm : ∀ x, mod x t = x % t := fun x => by unfold mod; rw [if_neg (by omega)]
  simp only [hm] at *
  have e1 := Int.mul_ediv_add_emod (s - f) t
  have e2 := Int.mul_ediv_add_emod (s - g) t
  have : g - f = ((s - f) % t - (s - g) % t) + t * ((s - f) / t - (s - g) / t) := by rw [Int.mul_sub]; omega
  rw [this, Int.add_mul_emod_self_left, Int.emod_eq_of_lt (by omega) (by omega)]

theorem ovl_common {t : Int} (ht : 0 < t) {a b : Vis} (ha : 0 ≤ a.frm ∧ a.frm < t ∧ 1 ≤ a.len) (hb : 0 ≤ b.frm ∧ b.frm < t ∧ 1 ≤ b.len) : ovl t a b = bothIn t a b 0 t.toNat := by
  rw [Bool.eq_iff_iff, bothIn_iff]
  simp only [ovl, bothAt, Bool.or_eq_true, Bool.and_eq_true, decide_eq_true_eq]
  constructor
  · rintro (h | h)
    · refine ⟨b.frm.toNat, by omega, by omega, ?_⟩
      rw [show ((b.frm.toNat : Nat) : Int) = b.frm by omega, mod_self_sub ht]
      exact ⟨h, by omega⟩
    · refine ⟨a.frm.toNat, by omega, by omega, ?_⟩
      rw [show ((a.frm.toNat : Nat) : Int) = a.frm by omega, mod_self_sub ht]
      exact ⟨by omega, h⟩
  · rintro ⟨s, _, _, h1, h2⟩
    have n1 := mod_nonneg ((s : Int) - a.frm) t
    have n2 := mod_nonneg ((s : Int) - b.frm) t
    rcases Int.le_total (mod ((s : Int) - b.frm) t) (mod ((s : Int) - a.frm) t) with h | h
    · left; rw [mod_diff ht h]; omega
    · right; rw [mod_diff ht h]; omega

theorem ovl_comm (t : Int) (a b : Vis) : ovl t a b = ovl t b a := by unfold ovl; rw [Bool.or_comm]
end
end Go.Vx
/-
  The plain law PlatformOverlapIsCommon.
-/
set_option linter.unusedSimpArgs false
set_option linter.unusedVariables false
namespace Go.Vx
section
variable {R : Type}

theorem awake20 (n : Nat) (hn : 16 < n) (K : Bool → Option R) : law20_awake n K = K true := by
  obtain ⟨m, rfl⟩ : ∃ m, n = m + 9 := ⟨n - 9, by omega⟩
  rfl

theorem common_r8 (n : Nat) (t : Int) (ht : 2 ≤ t ∧ t ≤ 31) (vs : List Vis) {a b : Vis} (ha : a.made t) (hb : b.made t) (h0 : vs[0]? = some a) (h1 : vs[1]? = some b) (k0 : Bool → Int → Bool → Option R) : ∀ (c m i : Nat) (x : Bool), c < m → i + c = t.toNat →
    law20_PlatformOverlapIsCommon_r8 n t (vs.map Vis.enc) k0 m x i = k0 (x || bothIn t a b i c) t false
  | 0, m, i, x, hm, hi => by
    obtain ⟨m, rfl⟩ : ∃ m', m = m' + 1 := ⟨m - 1, by omega⟩
    rw [law20_PlatformOverlapIsCommon_r8]
    unfold law20_PlatformOverlapIsCommon_p7
    have : (i : Int) = t := by omega
    rw [this, bif_neg (by simp)]
    simp [bothIn]
  | c + 1, m, i, x, hm, hi => by
    obtain ⟨m, rfl⟩ : ∃ m', m = m' + 1 := ⟨m - 1, by omega⟩
    obtain ⟨a1, a2, a3, a4, _⟩ := ha
    obtain ⟨b1, b2, b3, b4, _⟩ := hb
    rw [law20_PlatformOverlapIsCommon_r8]
    unfold law20_PlatformOverlapIsCommon_p7
    rw [bif_pos (by simp; omega), show rowAt (vs.map Vis.enc) 0 = some a.enc from rowAt_get (i := 0) h0, show rowAt (vs.map Vis.enc) 1 = some b.enc from rowAt_get (i := 1) h1]
    simp -implicitDefEqProofs only [Vis.enc, gb_some_eq, List.getElem?_cons_zero, List.getElem?_cons_succ, pInt_i64, modB n _ t (by omega), Bool.cond_true_left, Bool.cond_false_right]
    rw [wrap64' (x := (i : Int) - a.frm) (by omega) (by omega), wrap64' (x := (i : Int) - b.frm) (by omega) (by omega), wrap64' (by omega) (by omega), show ((i : Int) + 1) = ((i + 1 : Nat) : Int) from rfl]
    rw [common_r8 n t ht vs ⟨a1, a2, a3, a4, by assumption⟩ ⟨b1, b2, b3, b4, by assumption⟩ h0 h1 k0 c m (i + 1) _ (by omega) (by omega)]
    rw [show bothIn t a b i (c + 1) = (bothAt t a b i || bothIn t a b (i + 1) c) from rfl, ← Bool.or_assoc]
    rfl

theorem overlapIsCommonA (n : Nat) (hn : 64 < n) {l : List Int} (hl : l.length ≤ 9223372036854775807) (t0 : Int) : law20_PlatformOverlapIsCommon n t0 (encI l) some = some true := by
  have hp := pick_range t0 (m := 30) (by omega)
  obtain ⟨vs, h1, h2, h3⟩ := visitsA n (by omega) hl (2 + pick t0 30) (by omega)
  simp -implicitDefEqProofs only [law20_PlatformOverlapIsCommon_p1, law20_PlatformOverlapIsCommon_p2, law20_PlatformOverlapIsCommon_p3, law20_PlatformOverlapIsCommon_p4, law20_PlatformOverlapIsCommon_p5, law20_PlatformOverlapIsCommon_p6, law20_PlatformOverlapIsCommon_p8, law20_PlatformOverlapIsCommon_p9, law20_PlatformOverlapIsCommon_p10, law20_PlatformOverlapIsCommon_p11, law20_PlatformOverlapIsCommon_p12, law20_PlatformOverlapIsCommon_p13, law20_PlatformOverlapIsCommon_p14, law20_PlatformOverlapIsCommon_p15, law20_PlatformOverlapIsCommon_p16, law20_PlatformOverlapIsCommon_p17, law20_PlatformOverlapIsCommon, pickA n _ (show (0 : Int) < 30 by omega) (by omega), gb_some_eq]
  rw [wrap64' (x := 2 + pick t0 30) (by omega) (by omega)]
  generalize ht : 2 + pick t0 30 = t at h2 h3 ⊢
  have htr : 2 ≤ t ∧ t ≤ 31 := by omega
  simp -implicitDefEqProofs only [h3, gb_some_eq, awake20 n (by omega), List.length_map]
  by_cases hlen : vs.length < 2
  · rw [bif_pos (by simp; omega)]
  · rw [bif_neg (by simp; omega)]
    have g0 : vs[0]? = some vs[0] := List.getElem?_eq_getElem (by omega)
    have g1 : vs[1]? = some vs[1] := List.getElem?_eq_getElem (by omega)
    have m0 := h2 _ (List.mem_of_getElem? g0)
    have m1 := h2 _ (List.mem_of_getElem? g1)
    generalize vs[0] = a at g0 m0
    generalize vs[1] = b at g1 m1
    rw [show (0 : Int) = ((0 : Nat) : Int) from rfl, common_r8 n t htr vs m0 m1 g0 g1 _ t.toNat n 0 false (by omega) (by omega), show rowAt (vs.map Vis.enc) ((0 : Nat) : Int) = some a.enc from rowAt_get g0, show rowAt (vs.map Vis.enc) 1 = some b.enc from rowAt_get (i := 1) g1]
    simp -implicitDefEqProofs only [Vis.enc, gb_some_eq, List.getElem?_cons_zero, List.getElem?_cons_succ, pInt_i64, pSl_s, OverlapA n (by omega)]
    have v1 : visValid t [a, b] = true := by simp [visValid, Vis.made_ok m0, Vis.made_ok m1]; omega
    have v2 : visValid t [b, a] = true := by simp [visValid, Vis.made_ok m0, Vis.made_ok m1]; omega
    have hc := ovl_common (t := t) (by omega) (a := a) (b := b) ⟨m0.1, m0.2.1, m0.2.2.1⟩ ⟨m1.1, m1.2.1, m1.2.2.1⟩
    rw [v1, v2, ovl_comm t b a, hc]
    simp
end
end Go.Vx
