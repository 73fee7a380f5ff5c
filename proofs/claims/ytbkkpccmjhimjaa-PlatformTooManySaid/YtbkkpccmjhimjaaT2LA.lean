/- Part of a proof: texts VxPlain PlMod PlKeep PlatA PlatB PlatE PlatF PlatC PlatG PlatH PlatI PlatJ PlatK PlatL PlatM. No conditions of their own. -/
import Derived.Test.YtbkkpccmjhimjaaT2VB
import Derived.IntWalk
import Derived.Test.YtbkkpccmjhimjaaT2FA
/-
  Plain lemmas for pure functions: guards, rows, integers, lists.
-/
namespace Go.Vx
section
variable {R : Type}

def i64 (x : Int) : Prop := -9223372036854775808 ≤ x ∧ x ≤ 9223372036854775807

theorem wrap64 {x : Int} (h : i64 x) : IntKind.wrap .i64 x = x := IntWalk.i64_in x h
theorem wrap64' {x : Int} (h1 : -9223372036854775808 ≤ x) (h2 : x ≤ 9223372036854775807) : IntKind.wrap .i64 x = x := IntWalk.i64_in x ⟨h1, h2⟩
theorem wf64 {n : Int} (h : (Lit.int .i64 n).wf = true) : i64 n := by
  simpa [Lit.wf, IntKind.min, IntKind.max, IntKind.signed, IntKind.bits, i64] using h

theorem pInt_int (k : IntKind) (n : Int) : pInt k (.int k n) = some n := by simp [pInt]
theorem pInt_i64 (n : Int) : pInt .i64 (.int .i64 n) = some n := rfl
theorem pInt_u8 (n : Int) : pInt .u8 (.int .u8 n) = some n := rfl
theorem pBool_b (b : Bool) : pBool (.bool b) = some b := rfl
theorem pStr_s (s : List UInt8) : pStr (.str s) = some s := rfl
theorem pSl_s (k : Nat) (l : List (List D)) : pSl k (.sl k l) = some l := by simp [pSl]

theorem rowAt_map {α : Type} (f : α → List D) (l : List α) (i : Nat) : rowAt (l.map f) (i : Int) = (l[i]?).map f := by
  simp [rowAt]
theorem rowAt_get {α : Type} {f : α → List D} {l : List α} {i : Nat} {a : α} (h : l[i]? = some a) : rowAt (l.map f) (i : Int) = some (f a) := by rw [rowAt_map, h]; rfl
theorem rowAt_int {α : Type} {f : α → List D} {l : List α} {i : Int} (h0 : 0 ≤ i) {a : α} (h : l[i.toNat]? = some a) : rowAt (l.map f) i = some (f a) := by
  have : i = (i.toNat : Int) := by omega
  rw [this, rowAt_get h]

theorem room_ok {n : Nat} (h : n ≤ 140737488355328) : room n = some () := by
  unfold room; rw [Nat.ble_eq_true_of_le h]; rfl
theorem nz_ok {b : Int} (h : b ≠ 0) : nz b = some () := by
  have : (b == 0) = false := by simpa using h
  unfold nz; rw [this]; rfl
theorem inB_ok {len : Nat} {n : Int} (h0 : 0 ≤ n) (h : n < len) : inB len n = some () := by
  unfold inB; simp [h0, h]

theorem drop_cons {α : Type} {l : List α} {i : Nat} {a : α} {r : List α} (h : l.drop i = a :: r) : l[i]? = some a ∧ l.drop (i + 1) = r ∧ i < l.length := by
  have h1 : (l.drop i)[0]? = some a := by rw [h]; rfl
  rw [List.getElem?_drop] at h1
  refine ⟨by simpa using h1, by rw [← List.drop_drop, h]; rfl, ?_⟩
  have := (List.getElem?_eq_some_iff.1 h1).1
  omega
theorem drop_nil {α : Type} {l : List α} {i : Nat} (h : l.drop i = []) : l.length ≤ i := List.drop_eq_nil_iff.1 h

theorem bif_or (a b : Bool) (x y : Option R) : (bif a then x else bif b then x else y) = bif a || b then x else y := by cases a <;> rfl
theorem bif_ite (a : Bool) (x y : Option R) : (bif a then x else y) = if a = true then x else y := by cases a <;> rfl
theorem bif_pos {c : Bool} (h : c = true) (x y : R) : (bif c then x else y) = x := by rw [h]; rfl
theorem bif_neg {c : Bool} (h : c = false) (x y : R) : (bif c then x else y) = y := by rw [h]; rfl

theorem bif_flip {B c : Bool} (h : B = !c) (x y : R) : (bif B then x else y) = bif c then y else x := by subst h; cases c <;> rfl
theorem bif_same {B c : Bool} (h : B = c) (x y : R) : (bif B then x else y) = bif c then x else y := by subst h; rfl

/-- Slices of integers. -/
def encI (l : List Int) : List (List D) := l.map fun n => [D.int .i64 n]
theorem encI_length (l : List Int) : (encI l).length = l.length := by simp [encI]
theorem encI_get {l : List Int} {i : Nat} {a : Int} (h : l[i]? = some a) : rowAt (encI l) (i : Int) = some [.int .i64 a] := rowAt_get h

theorem fit_ints {rows : List (List D)} (h : Fit (.sl [.int .i64]) (.sl 1 rows)) : ∃ l : List Int, rows = encI l ∧ (∀ n ∈ l, i64 n) ∧ l.length ≤ maxLen := by
  cases h with
  | sl _ _ hm hl hr =>
    have h1 : ∀ i, i < rows.length → ∃ n : Int, rows[i]? = some [.int .i64 n] ∧ i64 n := by
      intro i hi
      have hri := List.getElem?_eq_getElem hi
      have hlen := hl i _ hri
      obtain ⟨x, hx⟩ : ∃ x, rows[i] = [x] := by
        match hq : rows[i], hlen with
        | [x], _ => exact ⟨x, rfl⟩
      have hf := hr i 0 _ (.int .i64) x hri rfl (by rw [hx]; rfl)
      cases hf with
      | int _ n hw => exact ⟨n, by rw [hri, hx], wf64 hw⟩
    obtain ⟨l, e1, e2⟩ := ex_list rows.length h1
    refine ⟨l, ?_, fun n hn => ?_, by omega⟩
    · refine List.ext_getElem? fun i => ?_
      rcases Nat.lt_or_ge i l.length with hi | hi
      · have := (e2 i _ (List.getElem?_eq_getElem hi)).1
        rw [this]
        simp [encI, hi]
      · rw [List.getElem?_eq_none (by omega), List.getElem?_eq_none (by simpa [encI] using hi)]
    · obtain ⟨i, hi⟩ := List.getElem?_of_mem hn
      exact (e2 i _ hi).2

theorem fit_sl {row : List Sh} {x : D} (h : Fit (.sl row) x) : ∃ rows, x = .sl row.length rows := by
  cases h with
  | sl _ rows _ _ _ => exact ⟨rows, rfl⟩
theorem fit_int {k : IntKind} {x : D} (h : Fit (.int k) x) : ∃ n, x = .int k n ∧ (Lit.int k n).wf = true := by
  cases h with
  | int _ n h => exact ⟨n, rfl, h⟩
theorem fit_bool {x : D} (h : Fit .bool x) : ∃ b, x = .bool b := by
  cases h with
  | bool b => exact ⟨b, rfl⟩
theorem fit_str {x : D} (h : Fit .str x) : ∃ s, x = .str s ∧ s.length ≤ maxLen := by
  cases h with
  | str s h => exact ⟨s, rfl, h⟩

theorem fitL_cons {s : Sh} {ss : List Sh} {ds : List D} (h : FitL (s :: ss) ds) : ∃ x xs, ds = x :: xs ∧ Fit s x ∧ FitL ss xs := by
  obtain ⟨h1, h2⟩ := h
  cases ds with
  | nil => simp at h1
  | cons x xs => exact ⟨x, xs, rfl, h2 0 s x rfl rfl, by simpa using h1, fun j s' x' hs hx => h2 (j + 1) s' x' (by simpa using hs) (by simpa using hx)⟩
theorem fitL_nil {ds : List D} (h : FitL [] ds) : ds = [] := List.eq_nil_of_length_eq_zero (by simpa using h.1)

/-- Slices of structs. -/
theorem fit_structs {α : Type} {enc : α → List D} {Q : α → Prop} {row : List Sh} (hdec : ∀ r : List D, FitL row r → ∃ a, r = enc a ∧ Q a) {k : Nat} {rows : List (List D)} (h : Fit (.sl row) (.sl k rows)) : ∃ l : List α, rows = l.map enc ∧ (∀ a ∈ l, Q a) ∧ l.length ≤ maxLen := by
  cases h with
  | sl _ _ hm hl hr =>
    have h1 : ∀ i, i < rows.length → ∃ a : α, rows[i]? = some (enc a) ∧ Q a := by
      intro i hi
      have hri := List.getElem?_eq_getElem hi
      obtain ⟨a, ha, hq⟩ := hdec rows[i] ⟨hl i _ hri, fun j s x hs hx => hr i j _ s x hri hs hx⟩
      exact ⟨a, by rw [hri, ha], hq⟩
    obtain ⟨l, e1, e2⟩ := ex_list rows.length h1
    refine ⟨l, ?_, fun n hn => ?_, by omega⟩
    · refine List.ext_getElem? fun i => ?_
      rcases Nat.lt_or_ge i l.length with hi | hi
      · rw [(e2 i _ (List.getElem?_eq_getElem hi)).1]; simp [hi]
      · rw [List.getElem?_eq_none (by omega), List.getElem?_eq_none (by simpa using hi)]
    · obtain ⟨i, hi⟩ := List.getElem?_of_mem hn
      exact (e2 i _ hi).2

/-- A law's answer. -/
def lawK : AV → Option Bool
  | .d (.bool b) => some b
  | _ => none
theorem lawK_ok (x : AV) (h : lawK x = some true) : x = .d (.bool true) := by
  unfold lawK at h
  split at h
  · injection h with h; subst h; rfl
  · cases h

end
end Go.Vx
/-
  Plain laws: Mod, the program's and the reference's.
-/
set_option linter.unusedSimpArgs false
set_option linter.unusedVariables false
namespace Go.Vx
section
variable {R : Type}

theorem tmod_emod {x t : Int} (ht : 0 < t) : (if x.tmod t < 0 then x.tmod t + t else x.tmod t) = x % t := by
  have h1 := Int.tmod_def x t
  have h2 := Int.emod_def x t
  rcases Int.le_total 0 x with h | h
  · rw [Int.tmod_eq_emod_of_nonneg h]
    have := Int.emod_nonneg x (by omega : t ≠ 0)
    rw [if_neg (by omega)]
  · obtain ⟨y, rfl⟩ : ∃ y, x = -y := ⟨-x, by omega⟩
    have hy : 0 ≤ y := by omega
    rw [Int.neg_tmod, Int.tmod_eq_emod_of_nonneg hy]
    have e1 := Int.emod_nonneg y (by omega : t ≠ 0)
    have e2 := Int.emod_lt_of_pos y ht
    have e3 : (-y) % t = if y % t = 0 then 0 else t - y % t := by
      by_cases h0 : y % t = 0
      · rw [if_pos h0]; exact Int.emod_eq_zero_of_dvd (by rw [Int.dvd_neg]; exact Int.dvd_of_emod_eq_zero h0)
      · rw [if_neg h0]
        have : -y = (t - y % t) + t * (-(y / t) - 1) := by
          have := Int.mul_ediv_add_emod y t
          rw [Int.mul_sub, Int.mul_neg]; omega
        rw [this, Int.add_mul_emod_self_left, Int.emod_eq_of_lt (by omega) (by omega)]
    rw [e3]
    by_cases h0 : y % t = 0
    · simp [h0]
    · rw [if_neg h0, if_pos (by omega)]; omega

/-- The program's Mod. -/
def mod (x t : Int) : Int := if t < 1 then 0 else x % t

theorem mod_nonneg (x t : Int) : 0 ≤ mod x t := by
  unfold mod; split
  · exact Int.le_refl 0
  · exact Int.emod_nonneg x (by omega)
theorem mod_lt (x : Int) {t : Int} (h : 0 < t) : mod x t < t := by
  unfold mod; rw [if_neg (by omega)]; exact Int.emod_lt_of_pos x h

theorem tmod_abs (x : Int) {t : Int} (ht : 0 < t) : -t < x.tmod t ∧ x.tmod t < t := by
  have h1 := Int.tmod_lt_of_pos x ht
  have h2 := Int.lt_tmod_of_pos x ht
  omega

theorem modA (n : Nat) (x t : Int) (ht : t ≤ 9223372036854775807) (K : Int → Option R) : arith_Mod n x t K = K (mod x t) := by
  unfold arith_Mod arith_Mod_p1
  by_cases h : t < 1
  · rw [bif_pos (by simpa using h)]; simp [mod, h]
  · rw [bif_neg (by simpa using h), nz_ok (by omega)]
    simp -implicitDefEqProofs only [gb_some_eq]
    have := tmod_abs x (t := t) (by omega)
    simp only [mod, h, if_false]
    rw [← tmod_emod (by omega)]
    by_cases h2 : x.tmod t < 0
    · rw [bif_pos (by simpa using h2), if_pos h2, wrap64' (by omega) (by omega)]
    · rw [bif_neg (by simpa using h2), if_neg h2]
theorem modB (n : Nat) (x t : Int) (ht : t ≤ 9223372036854775807) (K : Int → Option R) : ref1_Mod n x t K = K (mod x t) := by
  unfold ref1_Mod ref1_Mod_p1
  by_cases h : t < 1
  · rw [bif_pos (by simpa using h)]; simp [mod, h]
  · rw [bif_neg (by simpa using h), nz_ok (by omega)]
    simp -implicitDefEqProofs only [gb_some_eq]
    have := tmod_abs x (t := t) (by omega)
    simp only [mod, h, if_false]
    rw [← tmod_emod (by omega)]
    by_cases h2 : x.tmod t < 0
    · rw [bif_pos (by simpa using h2), if_pos h2, wrap64' (by omega) (by omega)]
    · rw [bif_neg (by simpa using h2), if_neg h2]

end
end Go.Vx
/-
  Plain laws: Pick, Next.
-/
set_option linter.unusedSimpArgs false
set_option linter.unusedVariables false
namespace Go.Vx
section
variable {R : Type}

theorem wrapU_nonneg (x : Int) : 0 ≤ IntKind.wrap .u64 x := by
  have := Int.emod_nonneg x (show (18446744073709551616 : Int) ≠ 0 by decide)
  simpa [IntKind.wrap, IntKind.bits, IntKind.signed] using this
theorem wrapU_id {x : Int} (h0 : 0 ≤ x) (h1 : x < 18446744073709551616) : IntKind.wrap .u64 x = x := by
  have := Int.emod_eq_of_lt h0 h1
  simpa [IntKind.wrap, IntKind.bits, IntKind.signed] using this

/-- The number that Pick takes. -/
def pick (v m : Int) : Int := (IntKind.wrap .u64 v).tmod m
theorem pick_range (v : Int) {m : Int} (h : 0 < m) : 0 ≤ pick v m ∧ pick v m < m := by
  unfold pick
  rw [Int.tmod_eq_emod_of_nonneg (wrapU_nonneg v)]
  exact ⟨Int.emod_nonneg _ (by omega), Int.emod_lt_of_pos _ h⟩

theorem pickA (n : Nat) (v : Int) {m : Int} (h : 0 < m) (hm : m ≤ 9223372036854775807) (K : Int → Option R) : keep_Pick n v m K = K (pick v m) := by
  unfold keep_Pick keep_Pick_p1
  rw [wrapU_id (x := m) (by omega) (by omega), nz_ok (by omega)]
  simp -implicitDefEqProofs only [gb_some_eq]
  have := pick_range v h
  unfold pick at this ⊢
  rw [wrap64' (by omega) (by omega)]

/-- Next: a number below the bound, and the place moves on. -/
theorem nextA (n : Nat) {l : List Int} (hl : l.length ≤ 9223372036854775807) {i : Nat} (hi : i ≤ l.length) {m : Int} (h : 0 < m) (hm : m ≤ 9223372036854775807) :
    ∃ (v : Int) (j : Nat), 0 ≤ v ∧ v < m ∧ j ≤ l.length ∧ ∀ (R : Type) (K : Int → List (List D) → Int → Option R), keep_Source_Next n (encI l) i m K = K v (encI l) j := by
  by_cases hlt : i < l.length
  · have hg := List.getElem?_eq_getElem hlt
    refine ⟨pick l[i] m, i + 1, (pick_range _ h).1, (pick_range _ h).2, by omega, fun R K => ?_⟩
    unfold keep_Source_Next keep_Source_Next_p1
    rw [bif_neg (by simp [encI_length]; omega), wrap64' (x := (i : Int) + 1) (by omega) (by omega), wrap64' (by omega) (by omega)]
    rw [show (i : Int) + 1 - 1 = (i : Int) by omega, encI_get hg]
    simp -implicitDefEqProofs only [gb_some_eq, List.getElem?_cons_zero, pInt_i64, pickA n _ h hm]
    rfl
  · refine ⟨0, i, by omega, h, hi, fun R K => ?_⟩
    unfold keep_Source_Next keep_Source_Next_p1
    rw [bif_pos (by simp [encI_length]; omega)]

end
end Go.Vx
/-
  Plain laws of platform: visits, Valid, overlap.
-/
set_option linter.unusedSimpArgs false
set_option linter.unusedVariables false
namespace Go.Vx
section
variable {R : Type}

structure Vis where
  frm : Int
  len : Int
  tr : List Int
def Vis.enc (v : Vis) : List D := [.int .i64 v.frm, .int .i64 v.len, .sl 1 (encI v.tr)]

/-- Strictly ascending, and above a bound. -/
def asc : Int → List Int → Bool
  | _, [] => true
  | b, x :: r => decide (b < x) && asc x r

def Vis.ok (t : Int) (v : Vis) : Bool := decide (0 ≤ v.frm ∧ v.frm < t ∧ 1 ≤ v.len ∧ v.len ≤ t ∧ v.tr.length ≤ 8) && asc (-1) v.tr

theorem asc_append : ∀ (l : List Int) (b x : Int), asc b l = true → (∀ y ∈ l, y < x) → b < x → asc b (l ++ [x]) = true
  | [], b, x, _, _, h => by simp [asc, h]
  | a :: r, b, x, h, hy, hb => by
    simp only [asc, Bool.and_eq_true, decide_eq_true_eq, List.cons_append] at h ⊢
    exact ⟨h.1, asc_append r a x h.2 (fun y hm => hy y (by simp [hm])) (hy a (by simp))⟩

/-- What the makers of visits keep. -/
def TrOk (k : Int) (l : List Int) : Prop := asc (-1) l = true ∧ (∀ y ∈ l, 0 ≤ y ∧ y < k) ∧ (l.length : Int) ≤ k

theorem tracks_r10 (n : Nat) {l : List Int} (hl : l.length ≤ 9223372036854775807) (a b c d : Int) (e : List (List D)) : ∀ (q m i : Nat) (tr : List Int), q < m → q ≤ 4 → i ≤ l.length → TrOk (4 - q) tr →
    ∃ (tr' : List Int) (j : Nat), TrOk 4 tr' ∧ j ≤ l.length ∧ ∀ (R : Type) (k0 : Int → Bool → List (List D) → List (List D) → Int → Option R), law20_visits_r10 n a b c d e k0 m (4 - q) (encI tr) (encI l) i = k0 4 false (encI tr') (encI l) j
  | 0, m, i, tr, hm, hq, hi, ht => by
    obtain ⟨m, rfl⟩ : ∃ m', m = m' + 1 := ⟨m - 1, by omega⟩
    refine ⟨tr, i, by simpa using ht, hi, fun R k0 => ?_⟩
    rw [law20_visits_r10]
    unfold law20_visits_p9
    rw [bif_neg (by simp)]
    simp
  | q + 1, m, i, tr, hm, hq, hi, ht => by
    obtain ⟨m, rfl⟩ : ∃ m', m = m' + 1 := ⟨m - 1, by omega⟩
    obtain ⟨v1, j1, a1, b1, c1, e1⟩ := nextA n hl hi (m := 2) (by omega) (by omega)
    obtain ⟨t1, t2, t3⟩ := ht
    by_cases hv : v1 = 0
    · obtain ⟨tr', j, g1, g2, g3⟩ := tracks_r10 n hl a b c d e q m j1 (tr ++ [(4 : Int) - ((q + 1 : Nat) : Int)]) (by omega) (by omega) c1 (by
        refine ⟨asc_append tr (-1) _ t1 (fun y hy => (t2 y hy).2) (by omega), fun y hy => ?_, by simp; omega⟩
        rcases List.mem_append.1 hy with hy | hy
        · have := t2 y hy; omega
        · simp at hy; omega)
      refine ⟨tr', j, g1, g2, fun R k0 => ?_⟩
      rw [law20_visits_r10]
      unfold law20_visits_p9
      rw [bif_pos (by simp; omega)]
      simp -implicitDefEqProofs only [gb_some_eq, e1]
      rw [bif_pos (by simpa using hv), room_ok (by simp [encI_length]; omega)]
      simp -implicitDefEqProofs only [gb_some_eq]
      rw [wrap64' (by omega) (by omega), show (4 : Int) - ((q + 1 : Nat) : Int) + 1 = 4 - (q : Int) by omega, ← g3 R k0]
      congr 1
      simp [encI]
    · obtain ⟨tr', j, g1, g2, g3⟩ := tracks_r10 n hl a b c d e q m j1 tr (by omega) (by omega) c1 ⟨t1, fun y hy => by have := t2 y hy; omega, by omega⟩
      refine ⟨tr', j, g1, g2, fun R k0 => ?_⟩
      rw [law20_visits_r10]
      unfold law20_visits_p9
      rw [bif_pos (by simp; omega)]
      simp -implicitDefEqProofs only [gb_some_eq, e1]
      rw [bif_neg (by simpa using hv), wrap64' (by omega) (by omega), show (4 : Int) - ((q + 1 : Nat) : Int) + 1 = 4 - (q : Int) by omega, ← g3 R k0]

theorem tracks_r17 (n : Nat) {l : List Int} (hl : l.length ≤ 9223372036854775807) (a b c d : Int) (e : List (List D)) : ∀ (q m i : Nat) (tr : List Int), q < m → q ≤ 4 → i ≤ l.length → TrOk (4 - q) tr →
    ∃ (tr' : List Int) (j : Nat), TrOk 4 tr' ∧ j ≤ l.length ∧ ∀ (R : Type) (k0 : Int → Bool → List (List D) → List (List D) → Int → Option R), law20_visits_r17 n a b c d e k0 m (4 - q) (encI tr) (encI l) i = k0 4 false (encI tr') (encI l) j
  | 0, m, i, tr, hm, hq, hi, ht => by
    obtain ⟨m, rfl⟩ : ∃ m', m = m' + 1 := ⟨m - 1, by omega⟩
    refine ⟨tr, i, by simpa using ht, hi, fun R k0 => ?_⟩
    rw [law20_visits_r17]
    unfold law20_visits_p16
    rw [bif_neg (by simp)]
    simp
  | q + 1, m, i, tr, hm, hq, hi, ht => by
    obtain ⟨m, rfl⟩ : ∃ m', m = m' + 1 := ⟨m - 1, by omega⟩
    obtain ⟨v1, j1, a1, b1, c1, e1⟩ := nextA n hl hi (m := 2) (by omega) (by omega)
    obtain ⟨t1, t2, t3⟩ := ht
    by_cases hv : v1 = 0
    · obtain ⟨tr', j, g1, g2, g3⟩ := tracks_r17 n hl a b c d e q m j1 (tr ++ [(4 : Int) - ((q + 1 : Nat) : Int)]) (by omega) (by omega) c1 (by
        refine ⟨asc_append tr (-1) _ t1 (fun y hy => (t2 y hy).2) (by omega), fun y hy => ?_, by simp; omega⟩
        rcases List.mem_append.1 hy with hy | hy
        · have := t2 y hy; omega
        · simp at hy; omega)
      refine ⟨tr', j, g1, g2, fun R k0 => ?_⟩
      rw [law20_visits_r17]
      unfold law20_visits_p16
      rw [bif_pos (by simp; omega)]
      simp -implicitDefEqProofs only [gb_some_eq, e1]
      rw [bif_pos (by simpa using hv), room_ok (by simp [encI_length]; omega)]
      simp -implicitDefEqProofs only [gb_some_eq]
      rw [wrap64' (by omega) (by omega), show (4 : Int) - ((q + 1 : Nat) : Int) + 1 = 4 - (q : Int) by omega, ← g3 R k0]
      congr 1
      simp [encI]
    · obtain ⟨tr', j, g1, g2, g3⟩ := tracks_r17 n hl a b c d e q m j1 tr (by omega) (by omega) c1 ⟨t1, fun y hy => by have := t2 y hy; omega, by omega⟩
      refine ⟨tr', j, g1, g2, fun R k0 => ?_⟩
      rw [law20_visits_r17]
      unfold law20_visits_p16
      rw [bif_pos (by simp; omega)]
      simp -implicitDefEqProofs only [gb_some_eq, e1]
      rw [bif_neg (by simpa using hv), wrap64' (by omega) (by omega), show (4 : Int) - ((q + 1 : Nat) : Int) + 1 = 4 - (q : Int) by omega, ← g3 R k0]

def Vis.made (t : Int) (v : Vis) : Prop := 0 ≤ v.frm ∧ v.frm < t ∧ 1 ≤ v.len ∧ v.len ≤ t ∧ TrOk 4 v.tr

theorem Vis.made_ok {t : Int} {v : Vis} (h : v.made t) : v.ok t = true := by
  obtain ⟨h1, h2, h3, h4, h5, h6, h7⟩ := h
  simp only [Vis.ok, Bool.and_eq_true, decide_eq_true_eq]
  exact ⟨by omega, h5⟩

theorem visits_r28 (n : Nat) (hn : 16 < n) {l : List Int} (hl : l.length ≤ 9223372036854775807) (t : Int) (ht : 2 ≤ t ∧ t ≤ 31) : ∀ (q m i : Nat) (vs : List Vis), q < m → vs.length + q ≤ 7 → i ≤ l.length → (∀ v ∈ vs, v.made t) →
    ∃ (vs' : List Vis) (j : Nat), vs'.length = vs.length + q ∧ (∀ v ∈ vs', v.made t) ∧ ∀ (R : Type) (k0 : Int → Bool → List (List D) → List (List D) → Int → Option R), law20_visits_r28 n t k0 m q (vs.map Vis.enc) (encI l) i = k0 0 false (vs'.map Vis.enc) (encI l) j
  | 0, m, i, vs, hm, hq, hi, hv => by
    obtain ⟨m, rfl⟩ : ∃ m', m = m' + 1 := ⟨m - 1, by omega⟩
    refine ⟨vs, i, by simp, hv, fun R k0 => ?_⟩
    rw [law20_visits_r28]
    unfold law20_visits_p27
    simp -implicitDefEqProofs only [law20_visits_p5]
    rw [bif_neg (by simp)]
    simp
  | q + 1, m, i, vs, hm, hq, hi, hv => by
    obtain ⟨m, rfl⟩ : ∃ m', m = m' + 1 := ⟨m - 1, by omega⟩
    obtain ⟨v1, j1, a1, b1, c1, e1⟩ := nextA n hl hi (m := t) (by omega) (by omega)
    obtain ⟨v2, j2, a2, b2, c2, e2⟩ := nextA n hl c1 (m := t) (by omega) (by omega)
    obtain ⟨v3, j3, a3, b3, c3, e3⟩ := nextA n hl c2 (m := 2) (by omega) (by omega)
    have hd : Int.tdiv t 3 = t / 3 := Int.tdiv_eq_ediv_of_nonneg (by omega)
    by_cases h3 : v3 = 0
    · obtain ⟨v4, j4, a4, b4, c4, e4⟩ := nextA n hl c3 (m := 1 + t / 3) (by omega) (by omega)
      obtain ⟨tr, j5, g1, g2, g3⟩ := tracks_r10 n hl t ((q + 1 : Nat) : Int) v1 (1 + v4) (vs.map Vis.enc) 4 n j4 [] (by omega) (by omega) c4 ⟨rfl, by simp, by simp⟩
      obtain ⟨vs', j, f1, f2, f3⟩ := visits_r28 n hn hl t ht q m j5 (vs ++ [⟨v1, 1 + v4, tr⟩]) (by omega) (by simp; omega) g2 (by
        intro v hm
        rcases List.mem_append.1 hm with hm | hm
        · exact hv v hm
        · simp only [List.mem_singleton] at hm
          subst hm
          exact ⟨by simpa using a1, by simpa using b1, by simp; omega, by simp; omega, g1⟩)
      refine ⟨vs', j, by simp at f1; omega, f2, fun R k0 => ?_⟩
      rw [law20_visits_r28]
      unfold law20_visits_p27
      simp -implicitDefEqProofs only [law20_visits_p5]
      rw [bif_pos (by simp <;> omega)]
      simp -implicitDefEqProofs only [law20_visits_p6, law20_visits_p7, law20_visits_p8, law20_visits_p10, law20_visits_p11, law20_visits_p12, law20_visits_p13, law20_visits_p14, law20_visits_p15, law20_visits_p17, law20_visits_p18, law20_visits_p19, law20_visits_p20, law20_visits_p21, law20_visits_p22, law20_visits_p23, law20_visits_p24, law20_visits_p25, law20_visits_p26, gb_some_eq, e1, e2, e3]
      rw [bif_pos (by simpa using h3), nz_ok (by omega), hd, wrap64' (x := t / 3) (by omega) (by omega), wrap64' (x := 1 + t / 3) (by omega) (by omega)]
      simp -implicitDefEqProofs only [gb_some_eq, e4]
      rw [wrap64' (x := 1 + v4) (by omega) (by omega), show law20_visits_r10 n t ((q + 1 : Nat) : Int) v1 (1 + v4) (vs.map Vis.enc) _ n 0 [] (encI l) j4 = law20_visits_r10 n t ((q + 1 : Nat) : Int) v1 (1 + v4) (vs.map Vis.enc) _ n (4 - ((4 : Nat) : Int)) (encI []) (encI l) j4 from rfl, g3]
      rw [room_ok (by simp; omega)]
      simp -implicitDefEqProofs only [gb_some_eq]
      rw [wrap64' (x := ((q + 1 : Nat) : Int) - 1) (by omega) (by omega), show ((q + 1 : Nat) : Int) - 1 = (q : Int) by omega, ← f3 R k0]
      simp only [List.map_append, List.map_cons, List.map_nil, Vis.enc]
    · obtain ⟨tr, j5, g1, g2, g3⟩ := tracks_r17 n hl t ((q + 1 : Nat) : Int) v1 (1 + v2) (vs.map Vis.enc) 4 n j3 [] (by omega) (by omega) c3 ⟨rfl, by simp, by simp⟩
      obtain ⟨vs', j, f1, f2, f3⟩ := visits_r28 n hn hl t ht q m j5 (vs ++ [⟨v1, 1 + v2, tr⟩]) (by omega) (by simp; omega) g2 (by
        intro v hm
        rcases List.mem_append.1 hm with hm | hm
        · exact hv v hm
        · simp only [List.mem_singleton] at hm
          subst hm
          exact ⟨by simpa using a1, by simpa using b1, by simp; omega, by simp; omega, g1⟩)
      refine ⟨vs', j, by simp at f1; omega, f2, fun R k0 => ?_⟩
      rw [law20_visits_r28]
      unfold law20_visits_p27
      simp -implicitDefEqProofs only [law20_visits_p5]
      rw [bif_pos (by simp <;> omega)]
      simp -implicitDefEqProofs only [law20_visits_p6, law20_visits_p7, law20_visits_p8, law20_visits_p10, law20_visits_p11, law20_visits_p12, law20_visits_p13, law20_visits_p14, law20_visits_p15, law20_visits_p17, law20_visits_p18, law20_visits_p19, law20_visits_p20, law20_visits_p21, law20_visits_p22, law20_visits_p23, law20_visits_p24, law20_visits_p25, law20_visits_p26, gb_some_eq, e1, e2, e3]
      rw [bif_neg (by simpa using h3), wrap64' (x := 1 + v2) (by omega) (by omega), show law20_visits_r17 n t ((q + 1 : Nat) : Int) v1 (1 + v2) (vs.map Vis.enc) _ n 0 [] (encI l) j3 = law20_visits_r17 n t ((q + 1 : Nat) : Int) v1 (1 + v2) (vs.map Vis.enc) _ n (4 - ((4 : Nat) : Int)) (encI []) (encI l) j3 from rfl, g3]
      rw [room_ok (by simp; omega)]
      simp -implicitDefEqProofs only [gb_some_eq]
      rw [wrap64' (x := ((q + 1 : Nat) : Int) - 1) (by omega) (by omega), show ((q + 1 : Nat) : Int) - 1 = (q : Int) by omega, ← f3 R k0]
      simp only [List.map_append, List.map_cons, List.map_nil, Vis.enc]

theorem visitsA (n : Nat) (hn : 16 < n) {l : List Int} (hl : l.length ≤ 9223372036854775807) (t : Int) (ht : 2 ≤ t ∧ t ≤ 31) :
    ∃ vs : List Vis, vs.length ≤ 7 ∧ (∀ v ∈ vs, v.made t) ∧ ∀ (R : Type) (K : List (List D) → Option R), law20_visits n t (encI l) K = K (vs.map Vis.enc) := by
  obtain ⟨v1, j1, a1, b1, c1, e1⟩ := nextA n hl (Nat.zero_le _) (m := 8) (by omega) (by omega)
  obtain ⟨c, hc⟩ : ∃ c : Nat, v1 = c := ⟨v1.toNat, by omega⟩
  subst hc
  obtain ⟨vs, j, h1, h2, h3⟩ := visits_r28 n hn hl t ht c n j1 [] (by omega) (by simp; omega) c1 (by simp)
  refine ⟨vs, by simp at h1; omega, h2, fun R K => ?_⟩
  simp -implicitDefEqProofs only [law20_visits_p1, law20_visits_p2, law20_visits_p3, law20_visits_p4, law20_visits_p28, law20_visits_p29, law20_visits_p30, law20_visits_p31, law20_visits_p32, law20_visits_p33, law20_visits_p34, law20_visits_p35, law20_visits, keep_From, keep_From_p1, gb_some_eq]
  rw [show ((0 : Int)) = ((0 : Nat) : Int) from rfl]
  simp -implicitDefEqProofs only [e1, gb_some_eq]
  exact h3 _ _

/-! Valid -/

theorem valid_r11 (n : Nat) (t : Int) (a : List (List D)) (w h : Int) (tr : List Int) (hl : tr.length ≤ 8) (k0 : Option R) (k1 : Int → Int → Bool → Option R) (kx : Option R) (hk : ∀ x y z, k1 x y z = kx) : ∀ (suf : List Int) (i m : Nat) (last : Int), tr.drop i = suf → suf.length < m →
    platform_Valid_r11 n t a w h (encI tr) tr.length k0 k1 m last i = bif asc last suf then kx else k0
  | [], i, m, last, hd, hm => by
    have hi := drop_nil hd
    obtain ⟨m, rfl⟩ : ∃ m', m = m' + 1 := ⟨m - 1, by omega⟩
    rw [platform_Valid_r11]
    unfold platform_Valid_p10
    rw [bif_neg (by simpa using hi)]
    simp only [hk, asc, cond_true]
  | x :: suf, i, m, last, hd, hm => by
    obtain ⟨h1, h2, h3⟩ := drop_cons hd
    obtain ⟨m, rfl⟩ : ∃ m', m = m' + 1 := ⟨m - 1, by omega⟩
    rw [platform_Valid_r11]
    unfold platform_Valid_p10
    rw [bif_pos (by simpa using h3), encI_get h1]
    simp -implicitDefEqProofs only [gb_some_eq, List.getElem?_cons_zero, pInt_i64]
    rw [wrap64' (by omega) (by omega), show ((i : Int) + 1) = ((i + 1 : Nat) : Int) from rfl, valid_r11 n t a w h tr hl k0 k1 kx hk suf (i + 1) m x h2 (by simp at hm; omega)]
    rw [show asc last (x :: suf) = (decide (last < x) && asc x suf) from rfl]
    by_cases hb : last < x
    · have : ¬ x ≤ last := by omega
      simp [hb, this]
    · have : x ≤ last := by omega
      simp [hb, this]
end
end Go.Vx
/-
  Plain laws of platform: Valid, overlap, Overlap.
-/
set_option linter.unusedSimpArgs false
set_option linter.unusedVariables false
namespace Go.Vx
section
variable {R : Type}

theorem rowAt_get' {α : Type} {f : α → List D} {l : List α} {i : Nat} {a : α} (h : l[i]? = some a) : rowAt (l.map f) (i : Int) = some (f a) := rowAt_get h

theorem valid_r22 (n : Nat) (hn : 16 < n) (t : Int) (vs : List Vis) (hl : vs.length ≤ 16) (k0 : Option R) (k1 : Int → Bool → Option R) (kx : Option R) (hk : ∀ x y, k1 x y = kx) : ∀ (suf : List Vis) (i m : Nat), vs.drop i = suf → suf.length < m →
    platform_Valid_r22 n t (vs.map Vis.enc) vs.length k0 k1 m i = bif suf.all (Vis.ok t) then kx else k0
  | [], i, m, hd, hm => by
    have hi := drop_nil hd
    obtain ⟨m, rfl⟩ : ∃ m', m = m' + 1 := ⟨m - 1, by omega⟩
    rw [platform_Valid_r22]
    unfold platform_Valid_p21
    simp -implicitDefEqProofs only [platform_Valid_p4, platform_Valid_p5, platform_Valid_p6, platform_Valid_p7, platform_Valid_p8, platform_Valid_p9, platform_Valid_p11, platform_Valid_p12, platform_Valid_p13, platform_Valid_p14, platform_Valid_p15, platform_Valid_p16, platform_Valid_p17, platform_Valid_p18, platform_Valid_p19, platform_Valid_p20]
    rw [bif_neg (by simpa using hi)]
    simp only [hk, List.all_nil, cond_true]
  | v :: suf, i, m, hd, hm => by
    obtain ⟨h1, h2, h3⟩ := drop_cons hd
    obtain ⟨m, rfl⟩ : ∃ m', m = m' + 1 := ⟨m - 1, by omega⟩
    have ih := valid_r22 n hn t vs hl k0 k1 kx hk suf (i + 1) m h2 (by simp at hm; omega)
    rw [platform_Valid_r22]
    unfold platform_Valid_p21
    simp -implicitDefEqProofs only [platform_Valid_p4, platform_Valid_p5, platform_Valid_p6, platform_Valid_p7, platform_Valid_p8, platform_Valid_p9, platform_Valid_p11, platform_Valid_p12, platform_Valid_p13, platform_Valid_p14, platform_Valid_p15, platform_Valid_p16, platform_Valid_p17, platform_Valid_p18, platform_Valid_p19, platform_Valid_p20]
    rw [bif_pos (by simpa using h3), rowAt_get h1]
    simp -implicitDefEqProofs only [Vis.enc, gb_some_eq, List.getElem?_cons_zero, List.getElem?_cons_succ, pInt_i64, pSl_s, Bool.cond_true_left, encI_length]
    rw [wrap64' (by omega) (by omega), show ((i : Int) + 1) = ((i + 1 : Nat) : Int) from rfl]
    by_cases hc : 0 ≤ v.frm ∧ v.frm < t ∧ 1 ≤ v.len ∧ v.len ≤ t ∧ v.tr.length ≤ 8
    · rw [bif_neg (by simp only [Bool.or_eq_false_iff, decide_eq_false_iff_not]; omega), show ((0 : Int)) = ((0 : Nat) : Int) from rfl, valid_r11 n t _ _ _ v.tr hc.2.2.2.2 k0 _ _ (fun _ _ _ => ih) v.tr 0 n (-1) rfl (by omega), List.all_cons]
      have : v.ok t = asc (-1) v.tr := by simp [Vis.ok, hc]
      rw [this]
      cases asc (-1) v.tr <;> rfl
    · rw [bif_pos (by simp only [Bool.or_eq_true, decide_eq_true_eq]; omega), List.all_cons]
      have : v.ok t = false := by simp [Vis.ok, hc]
      rw [this]
      rfl

def visValid (t : Int) (vs : List Vis) : Bool := decide (2 ≤ t ∧ t ≤ 7200 ∧ vs.length ≤ 16) && vs.all (Vis.ok t)

theorem validA (n : Nat) (hn : 16 < n) (t : Int) (vs : List Vis) (K : Bool → Option R) : platform_Valid n t (vs.map Vis.enc) K = K (visValid t vs) := by
  simp -implicitDefEqProofs only [platform_Valid_p1, platform_Valid_p2, platform_Valid_p3, platform_Valid_p22, platform_Valid_p23, platform_Valid_p24, platform_Valid_p25, platform_Valid_p26, platform_Valid_p27, platform_Valid_p28, platform_Valid, List.length_map, Bool.cond_true_left]
  by_cases hc : 2 ≤ t ∧ t ≤ 7200 ∧ vs.length ≤ 16
  · rw [bif_neg (by simp only [Bool.or_eq_false_iff, decide_eq_false_iff_not]; omega), show ((0 : Int)) = ((0 : Nat) : Int) from rfl, valid_r22 n hn t vs hc.2.2 _ _ (K true) (fun _ _ => rfl) vs 0 n rfl (by omega)]
    simp only [visValid, hc, and_self, decide_true, Bool.true_and]
    cases vs.all (Vis.ok t) <;> rfl
  · rw [bif_pos (by simp only [Bool.or_eq_true, decide_eq_true_eq]; omega)]
    simp only [visValid, hc, decide_false, Bool.false_and]

def ovl (t : Int) (a b : Vis) : Bool := decide (mod (b.frm - a.frm) t < a.len) || decide (mod (a.frm - b.frm) t < b.len)

theorem overlapA (n : Nat) (t : Int) (ht : t ≤ 7200) (a b : Vis) (ha : a.ok t = true) (hb : b.ok t = true) (K : Bool → Option R) : platform_overlap n t a.frm a.len (encI a.tr) b.frm b.len (encI b.tr) K = K (ovl t a b) := by
  simp only [Vis.ok, Bool.and_eq_true, decide_eq_true_eq] at ha hb
  simp -implicitDefEqProofs only [platform_overlap, platform_overlap_p1]
  rw [wrap64' (x := b.frm - a.frm) (by omega) (by omega), wrap64' (x := a.frm - b.frm) (by omega) (by omega)]
  simp -implicitDefEqProofs only [modA n _ t (by omega), gb_some_eq, Bool.cond_true_left, ovl]

theorem OverlapA (n : Nat) (hn : 16 < n) (t : Int) (a b : Vis) (K : Bool → Option R) : platform_Overlap n t a.frm a.len (encI a.tr) b.frm b.len (encI b.tr) K = K (visValid t [a, b] && ovl t a b) := by
  simp -implicitDefEqProofs only [platform_Overlap, platform_Overlap_p1]
  rw [show [[D.int .i64 a.frm, D.int .i64 a.len, D.sl 1 (encI a.tr)], [D.int .i64 b.frm, D.int .i64 b.len, D.sl 1 (encI b.tr)]] = [a, b].map Vis.enc from rfl, validA n hn]
  simp -implicitDefEqProofs only [gb_some_eq]
  cases hv : visValid t [a, b] with
  | true =>
    have h := hv
    simp only [visValid, Bool.and_eq_true, decide_eq_true_eq, List.all_cons, List.all_nil, Bool.and_true] at h
    rw [overlapA n t h.1.2.1 a b h.2.1 h.2.2]
    simp -implicitDefEqProofs only [gb_some_eq, Bool.cond_false_right, Bool.true_and, cond_true]
  | false =>
    rw [gb_false]
    simp

/-- A residue of both. -/
def bothAt (t : Int) (a b : Vis) (s : Int) : Bool := decide (mod (s - a.frm) t < a.len) && decide (mod (s - b.frm) t < b.len)
def bothIn (t : Int) (a b : Vis) : Nat → Nat → Bool
  | _, 0 => false
  | i, c + 1 => bothAt t a b i || bothIn t a b (i + 1) c

theorem bothIn_iff (t : Int) (a b : Vis) : ∀ (c i : Nat), bothIn t a b i c = true ↔ ∃ s : Nat, i ≤ s ∧ s < i + c ∧ bothAt t a b s = true
  | 0, i => by simp [bothIn]; omega
  | c + 1, i => by
    simp only [bothIn, Bool.or_eq_true, bothIn_iff t a b c (i + 1)]
    constructor
    · rintro (h | ⟨s, h1, h2, h3⟩)
      · exact ⟨i, by omega, by omega, h⟩
      · exact ⟨s, by omega, by omega, h3⟩
    · rintro ⟨s, h1, h2, h3⟩
      by_cases e : s = i
      · subst e; exact .inl h3
      · exact .inr ⟨s, by omega, by omega, h3⟩

theorem mod_self_sub {x t : Int} (ht : 0 < t) : mod (x - x) t = 0 := by
  unfold mod; rw [if_neg (by omega), Int.sub_self]; rfl

theorem mod_diff {t s f g : Int} (ht : 0 < t) (h : mod (s - g) t ≤ mod (s - f) t) : mod (g - f) t = mod (s - f) t - mod (s - g) t := by
  have a1 := mod_nonneg (s - g) t
  have a2 := mod_lt (s - f) ht
  have hm : ∀ x, mod x t = x % t := fun x => by unfold mod; rw [if_neg (by omega)]
  simp only [hm] at *
  have e1 := Int.mul_ediv_add_emod (s - f) t
  have e2 := Int.mul_ediv_add_emod (s - g) t
  have : g - f = ((s - f) % t - (s - g) % t) + t * ((s - f) / t - (s - g) / t) := by rw [Int.mul_sub]; omega
  rw [this, Int.add_mul_emod_self_left, Int.emod_eq_of_lt (by omega) (by omega)]

theorem ovl_common {t : Int} (ht : 0 < t) {a b : Vis} (ha : 0 ≤ a.frm ∧ a.frm < t ∧ 1 ≤ a.len) (hb : 0 ≤ b.frm ∧ b.frm < t ∧ 1 ≤ b.len) : ovl t a b = bothIn t a b 0 t.toNat := by
  rw [Bool.eq_iff_iff, bothIn_iff]
  simp only [ovl, bothAt, Bool.or_eq_true, Bool.and_eq_true, decide_eq_true_eq]
  constructor
  · rintro (h | h)
    · refine ⟨b.frm.toNat, by omega, by omega, ?_⟩
      rw [show ((b.frm.toNat : Nat) : Int) = b.frm by omega, mod_self_sub ht]
      exact ⟨h, by omega⟩
    · refine ⟨a.frm.toNat, by omega, by omega, ?_⟩
      rw [show ((a.frm.toNat : Nat) : Int) = a.frm by omega, mod_self_sub ht]
      exact ⟨by omega, h⟩
  · rintro ⟨s, _, _, h1, h2⟩
    have n1 := mod_nonneg ((s : Int) - a.frm) t
    have n2 := mod_nonneg ((s : Int) - b.frm) t
    rcases Int.le_total (mod ((s : Int) - b.frm) t) (mod ((s : Int) - a.frm) t) with h | h
    · left; rw [mod_diff ht h]; omega
    · right; rw [mod_diff ht h]; omega

theorem ovl_comm (t : Int) (a b : Vis) : ovl t a b = ovl t b a := by unfold ovl; rw [Bool.or_comm]
end
end Go.Vx
/-
  Plain laws of platform and its reference: ValidVisits, Overlap, member, fits, Proper.
-/
set_option linter.unusedSimpArgs false
set_option linter.unusedVariables false
namespace Go.Vx
section
variable {R : Type}

theorem in19 (n : Nat) (x a b : Int) (K : Bool → Option R) : ref19_in n x a b K = K (decide (a ≤ x) && decide (x ≤ b)) := by
  simp -implicitDefEqProofs only [ref19_in, ref19_in_p1, Bool.cond_false_right]

theorem validB_r10 (n : Nat) (t w : Int) (vs : List Vis) (q : Nat) (v : Vis) (hq : vs[q]? = some v) (hl : v.tr.length ≤ 8) (k0 : Option R) (k1 : Int → Bool → Option R) (kx : Option R) (hk : ∀ x y, k1 x y = kx) : ∀ (suf : List Int) (i m : Nat) (last : Int), v.tr.drop i = suf → suf.length < m → -1 ≤ last → (i = 0 ∧ last = -1 ∨ 0 < i ∧ v.tr[i - 1]? = some last) →
    ref19_ValidVisits_r10 n t (vs.map Vis.enc) q w v.tr.length k0 k1 m i = bif asc last suf then kx else k0
  | [], i, m, last, hd, hm, _, _ => by
    have hi := drop_nil hd
    obtain ⟨m, rfl⟩ : ∃ m', m = m' + 1 := ⟨m - 1, by omega⟩
    rw [ref19_ValidVisits_r10]
    unfold ref19_ValidVisits_p9
    rw [bif_neg (by simpa using hi)]
    simp only [hk, asc, cond_true]
  | x :: suf, i, m, last, hd, hm, h1, hp => by
    obtain ⟨e1, e2, e3⟩ := drop_cons hd
    obtain ⟨m, rfl⟩ : ∃ m', m = m' + 1 := ⟨m - 1, by omega⟩
    rw [ref19_ValidVisits_r10]
    unfold ref19_ValidVisits_p9
    rw [bif_pos (by simpa using e3), rowAt_get hq]
    simp -implicitDefEqProofs only [Vis.enc, gb_some_eq, List.getElem?_cons_zero, List.getElem?_cons_succ, pInt_i64, pSl_s, encI_get e1]
    rw [show asc last (x :: suf) = (decide (last < x) && asc x suf) from rfl, wrap64' (x := (i : Int) + 1) (by omega) (by omega), show ((i : Int) + 1) = ((i + 1 : Nat) : Int) from rfl]
    by_cases hx : x < 0
    · simp -implicitDefEqProofs only [hx, decide_true, Bool.not_true, Bool.false_and, gb_false, cond_true]
      have : ¬ last < x := by omega
      simp [this]
    · have ih := validB_r10 n t w vs q v hq hl k0 k1 kx hk suf (i + 1) m x e2 (by simp at hm; omega) (by omega) (.inr ⟨by omega, by simpa using e1⟩)
      by_cases h0 : i = 0
      · subst h0
        have hlast : last = -1 := by omega
        have hg : decide (((0 : Nat) : Int) > 0) = false := by simp
        simp -implicitDefEqProofs only [hx, hg, decide_false, Bool.not_false, Bool.and_false, gb_false, cond_false]
        rw [ih]
        have : last < x := by omega
        simp [this]
      · have hg : decide ((i : Int) > 0) = true := by simp; omega
        have hpr : v.tr[i - 1]? = some last := by
          rcases hp with hp | hp
          · omega
          · exact hp.2
        rw [wrap64' (x := (i : Int) - 1) (by omega) (by omega), show ((i : Int) - 1) = ((i - 1 : Nat) : Int) by omega]
        simp -implicitDefEqProofs only [hx, hg, decide_false, Bool.not_false, Bool.and_true, gb_some_eq, encI_get hpr, List.getElem?_cons_zero, pInt_i64, cond_false, cond_true]
        rw [ih]
        by_cases hb : last < x
        · have : ¬ x ≤ last := by omega
          simp [hb, this]
        · have : x ≤ last := by omega
          simp [hb, this]

theorem validB_r20 (n : Nat) (hn : 16 < n) (t : Int) (ht : 2 ≤ t ∧ t ≤ 7200) (vs : List Vis) (hl : vs.length ≤ 16) (k0 : Option R) (k1 : Int → Bool → Option R) (kx : Option R) (hk : ∀ x y, k1 x y = kx) : ∀ (suf : List Vis) (i m : Nat), vs.drop i = suf → suf.length < m →
    ref19_ValidVisits_r20 n t (vs.map Vis.enc) vs.length k0 k1 m i = bif suf.all (Vis.ok t) then kx else k0
  | [], i, m, hd, hm => by
    have hi := drop_nil hd
    obtain ⟨m, rfl⟩ : ∃ m', m = m' + 1 := ⟨m - 1, by omega⟩
    rw [ref19_ValidVisits_r20]
    unfold ref19_ValidVisits_p19
    simp -implicitDefEqProofs only [ref19_ValidVisits_p4, ref19_ValidVisits_p5, ref19_ValidVisits_p6, ref19_ValidVisits_p7, ref19_ValidVisits_p8, ref19_ValidVisits_p10, ref19_ValidVisits_p11, ref19_ValidVisits_p12, ref19_ValidVisits_p13, ref19_ValidVisits_p14, ref19_ValidVisits_p15, ref19_ValidVisits_p16, ref19_ValidVisits_p17, ref19_ValidVisits_p18]
    rw [bif_neg (by simpa using hi)]
    simp only [hk, List.all_nil, cond_true]
  | v :: suf, i, m, hd, hm => by
    obtain ⟨h1, h2, h3⟩ := drop_cons hd
    obtain ⟨m, rfl⟩ : ∃ m', m = m' + 1 := ⟨m - 1, by omega⟩
    have ih := validB_r20 n hn t ht vs hl k0 k1 kx hk suf (i + 1) m h2 (by simp at hm; omega)
    rw [ref19_ValidVisits_r20]
    unfold ref19_ValidVisits_p19
    simp -implicitDefEqProofs only [ref19_ValidVisits_p4, ref19_ValidVisits_p5, ref19_ValidVisits_p6, ref19_ValidVisits_p7, ref19_ValidVisits_p8, ref19_ValidVisits_p10, ref19_ValidVisits_p11, ref19_ValidVisits_p12, ref19_ValidVisits_p13, ref19_ValidVisits_p14, ref19_ValidVisits_p15, ref19_ValidVisits_p16, ref19_ValidVisits_p17, ref19_ValidVisits_p18]
    rw [bif_pos (by simpa using h3), rowAt_get h1]
    simp -implicitDefEqProofs only [Vis.enc, gb_some_eq, List.getElem?_cons_zero, List.getElem?_cons_succ, pInt_i64, pSl_s, in19, encI_length, Bool.cond_true_left]
    rw [wrap64' (x := (i : Int) + 1) (by omega) (by omega), wrap64' (x := t - 1) (by omega) (by omega), show ((i : Int) + 1) = ((i + 1 : Nat) : Int) from rfl]
    by_cases hc : 0 ≤ v.frm ∧ v.frm < t ∧ 1 ≤ v.len ∧ v.len ≤ t ∧ v.tr.length ≤ 8
    · rw [bif_neg (by simp; omega), show ((0 : Int)) = ((0 : Nat) : Int) from rfl, validB_r10 n t _ vs i v h1 hc.2.2.2.2 k0 _ _ (fun _ _ => ih) v.tr 0 n (-1) rfl (by omega) (by omega) (.inl ⟨rfl, rfl⟩), List.all_cons]
      have : v.ok t = asc (-1) v.tr := by simp [Vis.ok, hc]
      rw [this]
      cases asc (-1) v.tr <;> rfl
    · rw [bif_pos (by simp; omega), List.all_cons]
      have : v.ok t = false := by simp [Vis.ok, hc]
      rw [this]
      rfl

theorem validB (n : Nat) (hn : 16 < n) (t : Int) (vs : List Vis) (K : Bool → Option R) : ref19_ValidVisits n t (vs.map Vis.enc) K = K (visValid t vs) := by
  simp -implicitDefEqProofs only [ref19_ValidVisits_p1, ref19_ValidVisits_p2, ref19_ValidVisits_p3, ref19_ValidVisits_p20, ref19_ValidVisits_p21, ref19_ValidVisits_p22, ref19_ValidVisits_p23, ref19_ValidVisits_p24, ref19_ValidVisits_p25, ref19_ValidVisits_p26, ref19_ValidVisits, List.length_map, Bool.cond_true_left, in19, gb_some_eq]
  by_cases hc : 2 ≤ t ∧ t ≤ 7200 ∧ vs.length ≤ 16
  · rw [bif_neg (by simp; omega), show ((0 : Int)) = ((0 : Nat) : Int) from rfl, validB_r20 n hn t ⟨hc.1, hc.2.1⟩ vs hc.2.2 _ _ (K true) (fun _ _ => rfl) vs 0 n rfl (by omega)]
    simp only [visValid, hc, and_self, decide_true, Bool.true_and]
    cases vs.all (Vis.ok t) <;> rfl
  · rw [bif_pos (by simp; omega)]
    simp only [visValid, hc, decide_false, Bool.false_and]

theorem OverlapB (n : Nat) (hn : 16 < n) (t : Int) (a b : Vis) (K : Bool → Option R) : ref19_Overlap n t a.frm a.len (encI a.tr) b.frm b.len (encI b.tr) K = K (visValid t [a, b] && ovl t a b) := by
  simp -implicitDefEqProofs only [ref19_Overlap, ref19_Overlap_p1]
  rw [show [[D.int .i64 a.frm, D.int .i64 a.len, D.sl 1 (encI a.tr)], [D.int .i64 b.frm, D.int .i64 b.len, D.sl 1 (encI b.tr)]] = [a, b].map Vis.enc from rfl, validB n hn]
  simp -implicitDefEqProofs only [gb_some_eq]
  cases hv : visValid t [a, b] with
  | true =>
    have h := hv
    simp only [visValid, Bool.and_eq_true, decide_eq_true_eq, List.all_cons, List.all_nil, Bool.and_true, Vis.ok] at h
    rw [wrap64' (x := b.frm - a.frm) (by omega) (by omega), wrap64' (x := a.frm - b.frm) (by omega) (by omega)]
    simp -implicitDefEqProofs only [modB n _ t (by omega), gb_some_eq, Bool.cond_true_left, Bool.not_true, cond_false, Bool.true_and, ovl]
  | false => simp

theorem memberB_r4 (n : Nat) (l : List Int) (hl : l.length ≤ 1000) (x : Int) (k0 : Option R) (k1 : Int → Bool → Option R) (kx : Option R) (hk : ∀ x y, k1 x y = kx) : ∀ (suf : List Int) (i m : Nat), l.drop i = suf → suf.length < m →
    ref19_member_r4 n (encI l) x l.length k0 k1 m i = bif suf.contains x then k0 else kx
  | [], i, m, hd, hm => by
    have hi := drop_nil hd
    obtain ⟨m, rfl⟩ : ∃ m', m = m' + 1 := ⟨m - 1, by omega⟩
    rw [ref19_member_r4]
    unfold ref19_member_p3
    rw [bif_neg (by simpa using hi)]
    simp [hk]
  | y :: suf, i, m, hd, hm => by
    obtain ⟨h1, h2, h3⟩ := drop_cons hd
    obtain ⟨m, rfl⟩ : ∃ m', m = m' + 1 := ⟨m - 1, by omega⟩
    have ih := memberB_r4 n l hl x k0 k1 kx hk suf (i + 1) m h2 (by simp at hm; omega)
    rw [ref19_member_r4]
    unfold ref19_member_p3
    rw [bif_pos (by simpa using h3), encI_get h1]
    simp -implicitDefEqProofs only [gb_some_eq, List.getElem?_cons_zero, pInt_i64]
    rw [wrap64' (by omega) (by omega), show ((i : Int) + 1) = ((i + 1 : Nat) : Int) from rfl, ih, List.contains_cons]
    by_cases he : y = x
    · subst he; simp
    · have : ¬ x = y := fun h => he h.symm
      rw [beq_false_of_ne he, beq_false_of_ne this]
      rfl

theorem memberB (n : Nat) (l : List Int) (hl : l.length ≤ 1000) (hn : l.length < n) (x : Int) (K : Bool → Option R) : ref19_member n (encI l) x K = K (l.contains x) := by
  simp -implicitDefEqProofs only [ref19_member_p1, ref19_member_p2, ref19_member_p4, ref19_member_p5, ref19_member_p6, ref19_member_p7, ref19_member_p8, ref19_member_p9, ref19_member, encI_length]
  rw [show ((0 : Int)) = ((0 : Nat) : Int) from rfl, memberB_r4 n l hl x _ _ (K false) (fun _ _ => rfl) l 0 n rfl hn]
  cases l.contains x <;> rfl

theorem indexA_r4 (n : Nat) (l : List Int) (hl : l.length ≤ 1000) (x : Int) (k0 : Int → Option Int) (k1 : Int → Bool → Option Int) (ha : ∀ i, k0 i = some i) (hk : ∀ x y, k1 x y = some (-1)) : ∀ (suf : List Int) (i m : Nat), l.drop i = suf → suf.length < m →
    ∃ z : Int, slices_Index_int_int_r4 n (encI l) x l.length k0 k1 m i = some z ∧ decide (z ≥ 0) = suf.contains x
  | [], i, m, hd, hm => by
    have hi := drop_nil hd
    obtain ⟨m, rfl⟩ : ∃ m', m = m' + 1 := ⟨m - 1, by omega⟩
    rw [slices_Index_int_int_r4]
    unfold slices_Index_int_int_p3
    rw [bif_neg (by simpa using hi)]
    exact ⟨-1, hk _ _, rfl⟩
  | y :: suf, i, m, hd, hm => by
    obtain ⟨h1, h2, h3⟩ := drop_cons hd
    obtain ⟨m, rfl⟩ : ∃ m', m = m' + 1 := ⟨m - 1, by omega⟩
    obtain ⟨z, g1, g2⟩ := indexA_r4 n l hl x k0 k1 ha hk suf (i + 1) m h2 (by simp at hm; omega)
    rw [slices_Index_int_int_r4]
    unfold slices_Index_int_int_p3
    rw [bif_pos (by simpa using h3), encI_get h1]
    simp -implicitDefEqProofs only [gb_some_eq, List.getElem?_cons_zero, pInt_i64]
    rw [wrap64' (by omega) (by omega), show ((i : Int) + 1) = ((i + 1 : Nat) : Int) from rfl, g1, List.contains_cons, ha]
    by_cases he : x = y
    · subst he; exact ⟨i, by simp, by simp⟩
    · rw [beq_false_of_ne he]
      exact ⟨z, rfl, by simpa using g2⟩

theorem containsA (n : Nat) (l : List Int) (hl : l.length ≤ 1000) (hn : l.length < n) (x : Int) (K : Bool → Option R) : slices_Contains_int_int n (encI l) x K = K (l.contains x) := by
  have h : ∃ z : Int, slices_Index_int_int n (encI l) x some = some z ∧ decide (z ≥ 0) = l.contains x := by
    simp -implicitDefEqProofs only [slices_Index_int_int_p1, slices_Index_int_int_p2, slices_Index_int_int_p4, slices_Index_int_int_p5, slices_Index_int_int_p6, slices_Index_int_int_p7, slices_Index_int_int_p8, slices_Index_int_int_p9, slices_Index_int_int, encI_length]
    rw [show ((0 : Int)) = ((0 : Nat) : Int) from rfl]
    exact indexA_r4 n l hl x _ _ (fun _ => rfl) (fun _ _ => rfl) l 0 n rfl hn
  obtain ⟨z, h1, h2⟩ := h
  simp -implicitDefEqProofs only [slices_Contains_int_int, slices_Contains_int_int_p1, h1, gb_some_eq, h2]

/-! fits, Proper -/

/-- The track is free for a visit behind these choices. -/
def free (t : Int) (pre : List (Vis × Int)) (v : Vis) (x : Int) : Bool := pre.all fun p => !(p.2 == x && ovl t p.1 v)

def prop (t : Int) : List (Vis × Int) → List Vis → List Int → Bool
  | _, [], [] => true
  | pre, v :: vs, c :: cs => v.tr.contains c && (free t pre v c && prop t (pre ++ [(v, c)]) vs cs)
  | _, _, _ => false

theorem zip_at {vs : List Vis} {c : List Int} {i j : Nat} {p : Vis × Int} (h : ((vs.zip c).take i)[j]? = some p) : j < i ∧ vs[j]? = some p.1 ∧ c[j]? = some p.2 := by
  rw [List.getElem?_take] at h
  split at h
  · rename_i hj
    rw [List.getElem?_zip_eq_some] at h
    exact ⟨hj, h⟩
  · cases h

theorem fitsA_r4 (n : Nat) (t : Int) (ht : t ≤ 7200) (vs : List Vis) (hv : ∀ v ∈ vs, v.ok t = true) (hl : vs.length ≤ 16) (c : List Int) (i : Nat) (v : Vis) (hi : vs[i]? = some v) (hic : i ≤ c.length) (x : Int) (k0 : Option R) (k1 : Int → Bool → Option R) (kx : Option R) (hk : ∀ x y, k1 x y = kx) : ∀ (suf : List (Vis × Int)) (j m : Nat), ((vs.zip c).take i).drop j = suf → suf.length < m →
    platform_fits_r4 n t (vs.map Vis.enc) (encI c) i x k0 k1 m j = bif free t suf v x then kx else k0
  | [], j, m, hd, hm => by
    have hj := drop_nil hd
    have hiv : i < vs.length := (List.getElem?_eq_some_iff.1 hi).1
    rw [List.length_take, List.length_zip] at hj
    obtain ⟨m, rfl⟩ : ∃ m', m = m' + 1 := ⟨m - 1, by omega⟩
    rw [platform_fits_r4]
    unfold platform_fits_p3
    rw [bif_neg (by simp; omega)]
    simp [hk, free]
  | p :: suf, j, m, hd, hm => by
    obtain ⟨h1, h2, h3⟩ := drop_cons hd
    obtain ⟨g1, g2, g3⟩ := zip_at h1
    have hiv : i < vs.length := (List.getElem?_eq_some_iff.1 hi).1
    obtain ⟨m, rfl⟩ : ∃ m', m = m' + 1 := ⟨m - 1, by omega⟩
    have ih := fitsA_r4 n t ht vs hv hl c i v hi hic x k0 k1 kx hk suf (j + 1) m h2 (by simp at hm; omega)
    rw [platform_fits_r4]
    unfold platform_fits_p3
    rw [bif_pos (by simpa using g1), encI_get g3]
    simp -implicitDefEqProofs only [gb_some_eq, List.getElem?_cons_zero, pInt_i64]
    rw [wrap64' (by omega) (by omega), show ((j : Int) + 1) = ((j + 1 : Nat) : Int) from rfl, ih]
    rw [show free t (p :: suf) v x = (!(p.2 == x && ovl t p.1 v) && free t suf v x) from rfl]
    by_cases he : p.2 = x
    · rw [rowAt_get g2, rowAt_get hi]
      simp -implicitDefEqProofs only [Vis.enc, gb_some_eq, List.getElem?_cons_zero, List.getElem?_cons_succ, pInt_i64, pSl_s, overlapA n t ht p.1 v (hv _ (List.mem_of_getElem? g2)) (hv _ (List.mem_of_getElem? hi)), Bool.cond_false_right]
      cases (p.2 == x && ovl t p.1 v) <;> rfl
    · rw [beq_false_of_ne he]
      simp -implicitDefEqProofs only [gb_false, cond_false, Bool.false_and, Bool.not_false, Bool.true_and]

theorem fitsA (n : Nat) (hn : 16 < n) (t : Int) (ht : t ≤ 7200) (vs : List Vis) (hv : ∀ v ∈ vs, v.ok t = true) (hl : vs.length ≤ 16) (c : List Int) (i : Nat) (v : Vis) (hi : vs[i]? = some v) (hic : i ≤ c.length) (x : Int) (K : Bool → Option R) :
    platform_fits n t (vs.map Vis.enc) (encI c) i x K = K (free t ((vs.zip c).take i) v x) := by
  have hiv : i < vs.length := (List.getElem?_eq_some_iff.1 hi).1
  simp -implicitDefEqProofs only [platform_fits_p1, platform_fits_p2, platform_fits_p4, platform_fits_p5, platform_fits_p6, platform_fits_p7, platform_fits_p8, platform_fits_p9, platform_fits]
  rw [show ((0 : Int)) = ((0 : Nat) : Int) from rfl, fitsA_r4 n t ht vs hv hl c i v hi hic x _ _ (K true) (fun _ _ => rfl) _ 0 n rfl (by simp; omega)]
  simp only [List.drop_zero]
  cases free t ((vs.zip c).take i) v x <;> rfl

theorem take_zip_succ {vs : List Vis} {c : List Int} {i : Nat} {v : Vis} {x : Int} (h1 : vs[i]? = some v) (h2 : c[i]? = some x) : (vs.zip c).take (i + 1) = (vs.zip c).take i ++ [(v, x)] := by
  rw [List.take_add_one, List.getElem?_zip_eq_some.2 (⟨h1, h2⟩ : vs[i]? = some (v, x).1 ∧ c[i]? = some (v, x).2)]
  rfl

theorem properA_r5 (n : Nat) (hn : 16 < n) (t : Int) (ht : t ≤ 7200) (vs : List Vis) (hv : ∀ v ∈ vs, v.ok t = true) (hl : vs.length ≤ 16) (c : List Int) (hlen : c.length = vs.length) (k0 : Option R) (k1 : Int → Bool → Option R) (kx : Option R) (hk : ∀ x y, k1 x y = kx) : ∀ (sv : List Vis) (sc : List Int) (i m : Nat), vs.drop i = sv → c.drop i = sc → sv.length < m →
    platform_Proper_r5 n t (vs.map Vis.enc) (encI c) c.length k0 k1 m i = bif prop t ((vs.zip c).take i) sv sc then kx else k0
  | [], sc, i, m, hd, hc, hm => by
    have hi := drop_nil hd
    have : sc = [] := by rw [← hc]; exact List.drop_eq_nil_iff.2 (by omega)
    subst this
    obtain ⟨m, rfl⟩ : ∃ m', m = m' + 1 := ⟨m - 1, by omega⟩
    rw [platform_Proper_r5]
    unfold platform_Proper_p4
    rw [bif_neg (by simp; omega)]
    simp [hk, prop]
  | v :: sv, sc, i, m, hd, hc, hm => by
    obtain ⟨h1, h2, h3⟩ := drop_cons hd
    cases sc with
    | nil => have := drop_nil hc; omega
    | cons x sc =>
      obtain ⟨c1, c2, c3⟩ := drop_cons hc
      obtain ⟨m, rfl⟩ : ∃ m', m = m' + 1 := ⟨m - 1, by omega⟩
      have ih := properA_r5 n hn t ht vs hv hl c hlen k0 k1 kx hk sv sc (i + 1) m h2 c2 (by simp at hm; omega)
      have hok := hv v (List.mem_of_getElem? h1)
      have htr : v.tr.length ≤ 8 := by simp only [Vis.ok, Bool.and_eq_true, decide_eq_true_eq] at hok; omega
      rw [platform_Proper_r5]
      unfold platform_Proper_p4
      rw [bif_pos (by simpa using c3), encI_get c1, rowAt_get h1]
      simp -implicitDefEqProofs only [Vis.enc, gb_some_eq, List.getElem?_cons_zero, List.getElem?_cons_succ, pInt_i64, pSl_s, containsA n v.tr (by omega) (by omega), fitsA n hn t ht vs hv hl c i v h1 (by omega)]
      rw [wrap64' (by omega) (by omega), show ((i : Int) + 1) = ((i + 1 : Nat) : Int) from rfl, ih, take_zip_succ h1 c1]
      rw [show prop t ((vs.zip c).take i) (v :: sv) (x :: sc) = (v.tr.contains x && (free t ((vs.zip c).take i) v x && prop t ((vs.zip c).take i ++ [(v, x)]) sv sc)) from rfl]
      cases v.tr.contains x <;> cases free t ((vs.zip c).take i) v x <;> rfl

def proper (t : Int) (vs : List Vis) (c : List Int) : Bool := visValid t vs && prop t [] vs c

theorem prop_len {t : Int} : ∀ {vs : List Vis} {c : List Int} {pre : List (Vis × Int)}, prop t pre vs c = true → c.length = vs.length
  | [], [], _, _ => rfl
  | [], _ :: _, _, h => by simp [prop] at h
  | _ :: _, [], _, h => by simp [prop] at h
  | v :: vs, c :: cs, pre, h => by
    simp only [prop, Bool.and_eq_true] at h
    simp [prop_len h.2.2]

theorem properA (n : Nat) (hn : 16 < n) (t : Int) (vs : List Vis) (c : List Int) (K : Bool → Option R) : platform_Proper n t (vs.map Vis.enc) (encI c) K = K (proper t vs c) := by
  simp -implicitDefEqProofs only [platform_Proper_p1, platform_Proper_p2, platform_Proper_p3, platform_Proper_p5, platform_Proper_p6, platform_Proper_p7, platform_Proper_p8, platform_Proper_p9, platform_Proper_p10, platform_Proper_p11, platform_Proper, validA n hn, gb_some_eq, List.length_map, encI_length, Bool.cond_true_left]
  cases hv : visValid t vs with
  | false => simp [proper, hv]
  | true =>
    have h := hv
    simp only [visValid, Bool.and_eq_true, decide_eq_true_eq, List.all_eq_true] at h
    by_cases hlen : c.length = vs.length
    · rw [bif_neg (by simp; omega), show ((0 : Int)) = ((0 : Nat) : Int) from rfl, properA_r5 n hn t h.1.2.1 vs h.2 h.1.2.2 c hlen _ _ (K true) (fun _ _ => rfl) vs c 0 n rfl rfl (by omega)]
      simp only [proper, hv, Bool.true_and, List.take_zero]
      cases prop t [] vs c <;> rfl
    · rw [bif_pos (by simp; omega)]
      have : prop t [] vs c = false := by
        cases hp : prop t [] vs c with
        | false => rfl
        | true => exact absurd (prop_len hp) hlen
      simp [proper, this]

theorem visValid_two {t : Int} {a b : Vis} (ht : 2 ≤ t ∧ t ≤ 7200) (ha : a.ok t = true) (hb : b.ok t = true) : visValid t [a, b] = true := by
  simp [visValid, ha, hb]; omega

theorem properB_r10 (n : Nat) (hn : 16 < n) (t : Int) (ht : 2 ≤ t ∧ t ≤ 7200) (vs : List Vis) (hv : ∀ v ∈ vs, v.ok t = true) (hl : vs.length ≤ 16) (c : List Int) (i : Nat) (v : Vis) (x : Int) (w : Int) (hi : vs[i]? = some v) (hc : c[i]? = some x) (k0 : Option R) (k1 : Int → Bool → Option R) (kx : Option R) (hk : ∀ x y, k1 x y = kx) : ∀ (suf : List (Vis × Int)) (j m : Nat), ((vs.zip c).take i).drop j = suf → suf.length < m →
    ref19_Proper_r10 n t (vs.map Vis.enc) (encI c) i w k0 k1 m j = bif free t suf v x then kx else k0
  | [], j, m, hd, hm => by
    have hj := drop_nil hd
    have hiv : i < vs.length := (List.getElem?_eq_some_iff.1 hi).1
    have hic : i < c.length := (List.getElem?_eq_some_iff.1 hc).1
    rw [List.length_take, List.length_zip] at hj
    obtain ⟨m, rfl⟩ : ∃ m', m = m' + 1 := ⟨m - 1, by omega⟩
    rw [ref19_Proper_r10]
    unfold ref19_Proper_p9
    rw [bif_neg (by simp; omega)]
    simp [hk, free]
  | p :: suf, j, m, hd, hm => by
    obtain ⟨h1, h2, h3⟩ := drop_cons hd
    obtain ⟨g1, g2, g3⟩ := zip_at h1
    have hiv : i < vs.length := (List.getElem?_eq_some_iff.1 hi).1
    obtain ⟨m, rfl⟩ : ∃ m', m = m' + 1 := ⟨m - 1, by omega⟩
    have ih := properB_r10 n hn t ht vs hv hl c i v x w hi hc k0 k1 kx hk suf (j + 1) m h2 (by simp at hm; omega)
    rw [ref19_Proper_r10]
    unfold ref19_Proper_p9
    rw [bif_pos (by simpa using g1), encI_get g3, encI_get hc]
    simp -implicitDefEqProofs only [gb_some_eq, List.getElem?_cons_zero, pInt_i64]
    rw [wrap64' (by omega) (by omega), show ((j : Int) + 1) = ((j + 1 : Nat) : Int) from rfl, ih]
    rw [show free t (p :: suf) v x = (!(p.2 == x && ovl t p.1 v) && free t suf v x) from rfl]
    by_cases he : p.2 = x
    · rw [rowAt_get g2, rowAt_get hi]
      simp -implicitDefEqProofs only [Vis.enc, gb_some_eq, List.getElem?_cons_zero, List.getElem?_cons_succ, pInt_i64, pSl_s, OverlapB n hn, visValid_two ht (hv _ (List.mem_of_getElem? g2)) (hv _ (List.mem_of_getElem? hi)), Bool.cond_false_right, Bool.true_and]
      cases (p.2 == x && ovl t p.1 v) <;> rfl
    · rw [beq_false_of_ne he]
      simp -implicitDefEqProofs only [gb_false, cond_false, Bool.false_and, Bool.not_false, Bool.true_and]

theorem properB_r20 (n : Nat) (hn : 16 < n) (t : Int) (ht : 2 ≤ t ∧ t ≤ 7200) (vs : List Vis) (hv : ∀ v ∈ vs, v.ok t = true) (hl : vs.length ≤ 16) (c : List Int) (hlen : c.length = vs.length) (k0 : Option R) (k1 : Int → Bool → Option R) (kx : Option R) (hk : ∀ x y, k1 x y = kx) : ∀ (sv : List Vis) (sc : List Int) (i m : Nat), vs.drop i = sv → c.drop i = sc → sv.length < m →
    ref19_Proper_r20 n t (vs.map Vis.enc) (encI c) vs.length k0 k1 m i = bif prop t ((vs.zip c).take i) sv sc then kx else k0
  | [], sc, i, m, hd, hc, hm => by
    have hi := drop_nil hd
    have : sc = [] := by rw [← hc]; exact List.drop_eq_nil_iff.2 (by omega)
    subst this
    obtain ⟨m, rfl⟩ : ∃ m', m = m' + 1 := ⟨m - 1, by omega⟩
    rw [ref19_Proper_r20]
    unfold ref19_Proper_p19
    simp -implicitDefEqProofs only [ref19_Proper_p4, ref19_Proper_p5, ref19_Proper_p6, ref19_Proper_p7, ref19_Proper_p8, ref19_Proper_p10, ref19_Proper_p11, ref19_Proper_p12, ref19_Proper_p13, ref19_Proper_p14, ref19_Proper_p15, ref19_Proper_p16, ref19_Proper_p17, ref19_Proper_p18]
    rw [bif_neg (by simp; omega)]
    simp [hk, prop]
  | v :: sv, sc, i, m, hd, hc, hm => by
    obtain ⟨h1, h2, h3⟩ := drop_cons hd
    cases sc with
    | nil => have := drop_nil hc; omega
    | cons x sc =>
      obtain ⟨c1, c2, c3⟩ := drop_cons hc
      obtain ⟨m, rfl⟩ : ∃ m', m = m' + 1 := ⟨m - 1, by omega⟩
      have ih := properB_r20 n hn t ht vs hv hl c hlen k0 k1 kx hk sv sc (i + 1) m h2 c2 (by simp at hm; omega)
      have hok := hv v (List.mem_of_getElem? h1)
      have htr : v.tr.length ≤ 8 := by simp only [Vis.ok, Bool.and_eq_true, decide_eq_true_eq] at hok; omega
      rw [ref19_Proper_r20]
      unfold ref19_Proper_p19
      simp -implicitDefEqProofs only [ref19_Proper_p4, ref19_Proper_p5, ref19_Proper_p6, ref19_Proper_p7, ref19_Proper_p8, ref19_Proper_p10, ref19_Proper_p11, ref19_Proper_p12, ref19_Proper_p13, ref19_Proper_p14, ref19_Proper_p15, ref19_Proper_p16, ref19_Proper_p17, ref19_Proper_p18]
      rw [bif_pos (by simpa using h3), encI_get c1, rowAt_get h1]
      simp -implicitDefEqProofs only [Vis.enc, gb_some_eq, List.getElem?_cons_zero, List.getElem?_cons_succ, pInt_i64, pSl_s, memberB n v.tr (by omega) (by omega)]
      rw [wrap64' (by omega) (by omega), show ((i : Int) + 1) = ((i + 1 : Nat) : Int) from rfl, show ((0 : Int)) = ((0 : Nat) : Int) from rfl, properB_r10 n hn t ht vs hv hl c i v x _ h1 c1 _ _ _ (fun _ _ => ih) _ 0 n rfl (by simp; omega), take_zip_succ h1 c1, List.drop_zero]
      rw [show prop t ((vs.zip c).take i) (v :: sv) (x :: sc) = (v.tr.contains x && (free t ((vs.zip c).take i) v x && prop t ((vs.zip c).take i ++ [(v, x)]) sv sc)) from rfl]
      cases v.tr.contains x <;> cases free t ((vs.zip c).take i) v x <;> rfl

theorem properB (n : Nat) (hn : 16 < n) (t : Int) (vs : List Vis) (c : List Int) (K : Bool → Option R) : ref19_Proper n t (vs.map Vis.enc) (encI c) K = K (proper t vs c) := by
  simp -implicitDefEqProofs only [ref19_Proper_p1, ref19_Proper_p2, ref19_Proper_p3, ref19_Proper_p20, ref19_Proper_p21, ref19_Proper_p22, ref19_Proper_p23, ref19_Proper_p24, ref19_Proper_p25, ref19_Proper_p26, ref19_Proper, validB n hn, gb_some_eq, List.length_map, encI_length, Bool.cond_true_left]
  cases hv : visValid t vs with
  | false => simp [proper, hv]
  | true =>
    have h := hv
    simp only [visValid, Bool.and_eq_true, decide_eq_true_eq, List.all_eq_true] at h
    by_cases hlen : c.length = vs.length
    · rw [bif_neg (by simp; omega), show ((0 : Int)) = ((0 : Nat) : Int) from rfl, properB_r20 n hn t ⟨h.1.1, h.1.2.1⟩ vs h.2 h.1.2.2 c hlen _ _ (K true) (fun _ _ => rfl) vs c 0 n rfl rfl (by omega)]
      simp only [proper, hv, Bool.true_and, List.take_zero]
      cases prop t [] vs c <;> rfl
    · rw [bif_pos (by simp; omega)]
      have : prop t [] vs c = false := by
        cases hp : prop t [] vs c with
        | false => rfl
        | true => exact absurd (prop_len hp) hlen
      simp [proper, this]
end
end Go.Vx
/-
  Plain laws of platform: Assign as a search.
-/
set_option linter.unusedSimpArgs false
set_option linter.unusedVariables false
namespace Go.Vx
section
variable {R : Type}

def tryT (b : Int) (ok : Int → Bool) (rec : Int → Int → Int × Int × List Int) : List Int → Int → Int × Int × List Int
  | [], u => (14, u, [])
  | x :: xs, u => if u = b then (15, u, []) else if ok x = true then
      (if (rec x (u + 1)).1 = 14 then tryT b ok rec xs (rec x (u + 1)).2.1 else ((rec x (u + 1)).1, (rec x (u + 1)).2.1, x :: (rec x (u + 1)).2.2))
    else tryT b ok rec xs (u + 1)

/-- The search: an error (0: none, 14: no choice, 15: budget), the steps used, the choices. -/
def srch (t b : Int) : List Vis → List (Vis × Int) → Int → Int × Int × List Int
  | [], _, u => (0, u, [])
  | v :: vs, pre, u => tryT b (free t pre v) (fun x u => srch t b vs (pre ++ [(v, x)]) u) v.tr u

theorem zip_take_eq {vs : List Vis} {c c' : List Int} {i : Nat} (h : c.take i = c'.take i) : (vs.zip c).take i = (vs.zip c').take i := by
  rw [List.zip_eq_zipWith, List.zip_eq_zipWith, List.take_zipWith, List.take_zipWith, h]

theorem encI_set (c : List Int) (i : Nat) (x : Int) (row : List D) (h : (encI c)[i]? = some row) : List.set (encI c) i (List.set row 0 (D.int .i64 x)) = encI (c.set i x) := by
  unfold encI at *
  rw [List.getElem?_map, Option.map_eq_some_iff] at h
  obtain ⟨a, h1, h2⟩ := h
  subst h2
  rw [List.map_set]
  rfl

/-- What the closure does from visit i on. -/
def RunsAt (n : Nat) (t b : Int) (vs : List Vis) (Fr : Int → List (List D) → Int → Int → Int → List (List D) → Option (Int × List (List D) × Int × Int × Int × List (List D))) (i : Nat) : Prop :=
  ∀ (c : List Int) (u : Int), c.length = vs.length → 0 ≤ u → u ≤ b → ∃ c' : List Int, c'.length = vs.length ∧ c'.take i = c.take i ∧
    ((srch t b (vs.drop i) ((vs.zip c).take i) u).1 = 0 → c' = c.take i ++ (srch t b (vs.drop i) ((vs.zip c).take i) u).2.2) ∧
    u ≤ (srch t b (vs.drop i) ((vs.zip c).take i) u).2.1 ∧ (srch t b (vs.drop i) ((vs.zip c).take i) u).2.1 ≤ b ∧
    Fr i (vs.map Vis.enc) u b t (encI c) = some ((srch t b (vs.drop i) ((vs.zip c).take i) u).1, vs.map Vis.enc, (srch t b (vs.drop i) ((vs.zip c).take i) u).2.1, b, t, encI c')

theorem assign_r5 (n : Nat) (hn : 16 < n) (t b : Int) (ht : t ≤ 7200) (hb : b ≤ 1048576) (vs : List Vis) (hv : ∀ v ∈ vs, v.ok t = true) (hl : vs.length ≤ 16) (Fr : Int → List (List D) → Int → Int → Int → List (List D) → Option (Int × List (List D) × Int × Int × Int × List (List D))) (i : Nat) (v : Vis) (hi : vs[i]? = some v) (hF : RunsAt n t b vs Fr (i + 1)) (c0 : List Int)
    (k0 : Int → List (List D) → List (List D) → Int → Int → Int → Option R) (k1 : Int → Bool → List (List D) → List (List D) → Int → Int → Int → Option R) : ∀ (suf : List Int) (k m : Nat) (c : List Int) (u : Int), v.tr.drop k = suf → k ≤ v.tr.length → suf.length < m → c.length = vs.length → c.take i = c0.take i → 0 ≤ u → u ≤ b →
    ∃ (r : Int × Int × List Int) (c' : List Int), r = tryT b (free t ((vs.zip c0).take i) v) (fun x u => srch t b (vs.drop (i + 1)) ((vs.zip c0).take i ++ [(v, x)]) u) suf u ∧ c'.length = vs.length ∧ c'.take i = c0.take i ∧ (r.1 = 0 → c' = c0.take i ++ r.2.2) ∧ u ≤ r.2.1 ∧ r.2.1 ≤ b ∧
      railplan_platform_Assign_1_s1_r5 n Fr i (encI v.tr) v.tr.length k0 k1 m k (encI c) (vs.map Vis.enc) u b t = if r.1 = 14 then k1 v.tr.length false (encI c') (vs.map Vis.enc) r.2.1 b t else k0 r.1 (encI c') (vs.map Vis.enc) r.2.1 b t
  | [], k, m, c, u, hd, hkl, hm, hc, hp, h0, hu => by
    have hk := drop_nil hd
    have hke : k = v.tr.length := by omega
    obtain ⟨m, rfl⟩ : ∃ m', m = m' + 1 := ⟨m - 1, by omega⟩
    refine ⟨_, c, rfl, hc, hp, fun h => by simp [tryT] at h, by simp [tryT], by simpa [tryT] using hu, ?_⟩
    rw [railplan_platform_Assign_1_s1_r5]
    unfold railplan_platform_Assign_1_s1_p4
    rw [bif_neg (by simp; omega), hke]
    simp [tryT]
  | x :: suf, k, m, c, u, hd, hkl, hm, hc, hp, h0, hu => by
    obtain ⟨h1, h2, h3⟩ := drop_cons hd
    have hiv : i < vs.length := (List.getElem?_eq_some_iff.1 hi).1
    have hok := hv v (List.mem_of_getElem? hi)
    have htr : v.tr.length ≤ 8 := by simp only [Vis.ok, Bool.and_eq_true, decide_eq_true_eq] at hok; omega
    obtain ⟨m, rfl⟩ : ∃ m', m = m' + 1 := ⟨m - 1, by omega⟩
    rw [railplan_platform_Assign_1_s1_r5]
    unfold railplan_platform_Assign_1_s1_p4
    rw [bif_pos (by simpa using h3), encI_get h1]
    simp -implicitDefEqProofs only [gb_some_eq, List.getElem?_cons_zero, pInt_i64]
    by_cases hub : u = b
    · refine ⟨_, c, rfl, hc, hp, fun h => ?_, ?_, ?_, ?_⟩
      · simp [tryT, hub] at h
      · simp [tryT, hub]
      · simp [tryT, hub]
      · rw [bif_pos (by simpa using hub)]
        simp [tryT, hub]
    · rw [bif_neg (by simpa using hub), fitsA n hn t ht vs hv hl c i v hi (by omega), zip_take_eq hp]
      simp -implicitDefEqProofs only [gb_some_eq]
      rw [wrap64' (x := (k : Int) + 1) (by omega) (by omega), wrap64' (x := u + 1) (by omega) (by omega), wrap64' (x := (i : Int) + 1) (by omega) (by omega), show ((i : Int) + 1) = ((i + 1 : Nat) : Int) from rfl, show ((k : Int) + 1) = ((k + 1 : Nat) : Int) from rfl]
      cases hfr : free t ((vs.zip c0).take i) v x with
      | false =>
        obtain ⟨r, c', g1, g2, g3, g4, g5, g6, g7⟩ := assign_r5 n hn t b ht hb vs hv hl Fr i v hi hF c0 k0 k1 suf (k + 1) m c (u + 1) h2 (by omega) (by simp at hm; omega) hc hp (by omega) (by omega)
        refine ⟨r, c', ?_, g2, g3, g4, by omega, g6, ?_⟩
        · rw [g1]; simp [tryT, hub, hfr]
        · rw [← g7]; rfl
      | true =>
        have hset : (c.set i x).take i = c0.take i := by rw [List.take_set_of_le (Nat.le_refl i)]; exact hp
        have hP : (vs.zip (c.set i x)).take (i + 1) = (vs.zip c0).take i ++ [(v, x)] := by
          rw [take_zip_succ hi (show (c.set i x)[i]? = some x by rw [List.getElem?_set_self (by omega)]), zip_take_eq hset]
        obtain ⟨c1, a1, a2, a3, a4, a5, a6⟩ := hF (c.set i x) (u + 1) (by simpa using hc) (by omega) (by omega)
        rw [hP] at a3 a4 a5 a6
        have hrow : (encI c)[i]? = some [D.int .i64 c[i]] := by
          unfold encI
          rw [List.getElem?_map, List.getElem?_eq_getElem (by omega)]; rfl
        have hct : c1.take i = c0.take i := by
          have := congrArg (List.take i) a2
          rw [List.take_take, List.take_take, Nat.min_eq_left (by omega), hset] at this
          exact this
        rw [inB_ok (by omega) (by simp [encI_length]; omega), Int.toNat_natCast, hrow]
        simp -implicitDefEqProofs only [gb_some_eq]
        rw [encI_set c i x _ hrow, a6]
        simp -implicitDefEqProofs only [gb_some_eq, Bool.not_true, cond_false]
        by_cases h14 : (srch t b (vs.drop (i + 1)) ((vs.zip c0).take i ++ [(v, x)]) (u + 1)).1 = 14
        · obtain ⟨r, c', g1, g2, g3, g4, g5, g6, g7⟩ := assign_r5 n hn t b ht hb vs hv hl Fr i v hi hF c0 k0 k1 suf (k + 1) m c1 _ h2 (by omega) (by simp at hm; omega) a1 hct (Int.le_trans (by omega) a4) a5
          refine ⟨r, c', ?_, g2, g3, g4, by omega, g6, ?_⟩
          · rw [g1]; simp [tryT, hub, hfr, h14]
          · rw [bif_neg (by simpa using h14), ← g7]
        · refine ⟨((srch t b (vs.drop (i + 1)) ((vs.zip c0).take i ++ [(v, x)]) (u + 1)).1, (srch t b (vs.drop (i + 1)) ((vs.zip c0).take i ++ [(v, x)]) (u + 1)).2.1, x :: (srch t b (vs.drop (i + 1)) ((vs.zip c0).take i ++ [(v, x)]) (u + 1)).2.2), c1, ?_, a1, hct, fun h => ?_, by simp only; omega, a5, ?_⟩
          · simp [tryT, hub, hfr, h14]
          · rw [a3 h, List.take_add_one, hset, List.getElem?_set_self (by omega)]
            simp
          · rw [bif_pos (by simpa using h14), if_neg h14]

theorem runsAt (n : Nat) (hn : 16 < n) (t b : Int) (ht : t ≤ 7200) (hb : b ≤ 1048576) (vs : List Vis) (hv : ∀ v ∈ vs, v.ok t = true) (hl : vs.length ≤ 16) : ∀ (d i : Nat), vs.length < i + d → i ≤ vs.length → RunsAt n t b vs (railplan_platform_Assign_1_s1_F n d) i
  | 0, i, hd, hi => by omega
  | d + 1, i, hd, hi => by
    intro c u hc h0 hu
    rw [railplan_platform_Assign_1_s1_F]
    simp -implicitDefEqProofs only [railplan_platform_Assign_1_s1_p1, railplan_platform_Assign_1_s1_p2, railplan_platform_Assign_1_s1_p3, railplan_platform_Assign_1_s1_p5, railplan_platform_Assign_1_s1_p6, railplan_platform_Assign_1_s1_p7, railplan_platform_Assign_1_s1_p8, railplan_platform_Assign_1_s1_p9, railplan_platform_Assign_1_s1_p10, railplan_platform_Assign_1_s1_p11, railplan_platform_Assign_1_s1, List.length_map]
    by_cases he : i = vs.length
    · rw [bif_pos (by simp; omega), he, List.drop_length]
      exact ⟨c, hc, rfl, fun _ => by rw [← hc]; simp [srch], by simp [srch], by simpa [srch] using hu, rfl⟩
    · rw [bif_neg (by simp; omega)]
      have hg : vs[i]? = some vs[i] := List.getElem?_eq_getElem (by omega)
      generalize vs[i] = v at hg
      have hok := hv v (List.mem_of_getElem? hg)
      have htr : v.tr.length ≤ 8 := by simp only [Vis.ok, Bool.and_eq_true, decide_eq_true_eq] at hok; omega
      have hdr : vs.drop i = v :: vs.drop (i + 1) := by
        rw [List.drop_eq_getElem_cons (by omega)]
        congr 1
        have := List.getElem?_eq_getElem (l := vs) (i := i) (by omega)
        rw [hg] at this
        injection this with this
        exact this.symm
      rw [rowAt_get hg]
      simp -implicitDefEqProofs only [Vis.enc, gb_some_eq, List.getElem?_cons_zero, List.getElem?_cons_succ, pSl_s, encI_length]
      rw [hdr]
      obtain ⟨r, c', g1, g2, g3, g4, g5, g6, g7⟩ := assign_r5 n hn t b ht hb vs hv hl (railplan_platform_Assign_1_s1_F n d) i v hg (runsAt n hn t b ht hb vs hv hl d (i + 1) (by omega) (by omega)) c
        (fun w118 w119 w120 w121 w122 w123 => some (w118, w120, w121, w122, w123, w119)) (fun _ _ w107 w108 w109 w110 w111 => some (14, w108, w109, w110, w111, w107)) v.tr 0 n c u rfl (by omega) (by omega) hc rfl h0 hu
      have hr : srch t b (v :: vs.drop (i + 1)) ((vs.zip c).take i) u = r := by rw [g1]; rfl
      rw [hr]
      refine ⟨c', g2, g3, g4, g5, g6, ?_⟩
      refine Eq.trans (Eq.trans ?_ g7) ?_
      · rfl
      · split
        · rename_i h14; rw [h14]
        · rfl

/-- What Assign returns. -/
def assign (t : Int) (vs : List Vis) (b : Int) : List Int × Int × Int :=
  if visValid t vs = false then ([], 0, 1) else if b < 1 ∨ 1048576 < b then ([], 0, 4) else
    if (srch t b vs [] 0).1 = 0 then ((srch t b vs [] 0).2.2, (srch t b vs [] 0).2.1, 0)
    else if (srch t b vs [] 0).1 = 14 then ([], (srch t b vs [] 0).2.1, 14) else ([], 0, (srch t b vs [] 0).1)

theorem assignA (n : Nat) (hn : 16 < n) (t b : Int) (vs : List Vis) (K : List (List D) → Int → Int → Option R) : platform_Assign n t (vs.map Vis.enc) b K = K (encI (assign t vs b).1) (assign t vs b).2.1 (assign t vs b).2.2 := by
  simp -implicitDefEqProofs only [platform_Assign, platform_Assign_p1, validA n hn, gb_some_eq, List.length_map, Bool.cond_true_left]
  cases hv : visValid t vs with
  | false => simp [assign, hv]; rfl
  | true =>
    have h := hv
    simp only [visValid, Bool.and_eq_true, decide_eq_true_eq, List.all_eq_true] at h
    simp -implicitDefEqProofs only [Bool.not_true, cond_false]
    by_cases hb : b < 1 ∨ 1048576 < b
    · rw [bif_pos (by simp; omega)]
      simp [assign, hv, hb]; rfl
    · rw [bif_neg (by simp; omega), bif_pos (by simp), room_ok (by simp; omega)]
      simp -implicitDefEqProofs only [gb_some_eq, Int.toNat_natCast]
      have hrep : List.replicate vs.length [D.int .i64 (0 : Int)] = encI (List.replicate vs.length 0) := by simp [encI]
      obtain ⟨c', g1, g2, g3, g4, g5, g6⟩ := runsAt n hn t b h.1.2.1 (by omega) vs h.2 h.1.2.2 n 0 (by omega) (by omega) (List.replicate vs.length 0) 0 (by simp) (by omega) (by omega)
      rw [hrep, show railplan_platform_Assign_1_s1_F n n 0 (vs.map Vis.enc) 0 b t (encI (List.replicate vs.length 0)) = _ from g6]
      simp -implicitDefEqProofs only [gb_some_eq, List.drop_zero, List.take_zero, List.nil_append] at g3 ⊢
      by_cases h0 : (srch t b vs [] 0).1 = 0
      · rw [bif_pos (by simpa using h0), g3 h0]
        simp [assign, hv, hb, h0]
      · rw [bif_neg (by simpa using h0)]
        by_cases h14 : (srch t b vs [] 0).1 = 14
        · rw [bif_pos (by simpa using h14)]
          simp [assign, hv, hb, h0, h14]; rfl
        · rw [bif_neg (by simpa using h14)]
          simp [assign, hv, hb, h0, h14]; rfl
end
end Go.Vx
/-
  The plain law PlatformOverlapIsCommon.
-/
set_option linter.unusedSimpArgs false
set_option linter.unusedVariables false
namespace Go.Vx
section
variable {R : Type}

theorem awake20 (n : Nat) (hn : 16 < n) (K : Bool → Option R) : law20_awake n K = K true := by
  obtain ⟨m, rfl⟩ : ∃ m, n = m + 9 := ⟨n - 9, by omega⟩
  rfl

theorem common_r8 (n : Nat) (t : Int) (ht : 2 ≤ t ∧ t ≤ 31) (vs : List Vis) {a b : Vis} (ha : a.made t) (hb : b.made t) (h0 : vs[0]? = some a) (h1 : vs[1]? = some b) (k0 : Bool → Int → Bool → Option R) : ∀ (c m i : Nat) (x : Bool), c < m → i + c = t.toNat →
    law20_PlatformOverlapIsCommon_r8 n t (vs.map Vis.enc) k0 m x i = k0 (x || bothIn t a b i c) t false
  | 0, m, i, x, hm, hi => by
    obtain ⟨m, rfl⟩ : ∃ m', m = m' + 1 := ⟨m - 1, by omega⟩
    rw [law20_PlatformOverlapIsCommon_r8]
    unfold law20_PlatformOverlapIsCommon_p7
    have : (i : Int) = t := by omega
    rw [this, bif_neg (by simp)]
    simp [bothIn]
  | c + 1, m, i, x, hm, hi => by
    obtain ⟨m, rfl⟩ : ∃ m', m = m' + 1 := ⟨m - 1, by omega⟩
    obtain ⟨a1, a2, a3, a4, _⟩ := ha
    obtain ⟨b1, b2, b3, b4, _⟩ := hb
    rw [law20_PlatformOverlapIsCommon_r8]
    unfold law20_PlatformOverlapIsCommon_p7
    rw [bif_pos (by simp; omega), show rowAt (vs.map Vis.enc) 0 = some a.enc from rowAt_get (i := 0) h0, show rowAt (vs.map Vis.enc) 1 = some b.enc from rowAt_get (i := 1) h1]
    simp -implicitDefEqProofs only [Vis.enc, gb_some_eq, List.getElem?_cons_zero, List.getElem?_cons_succ, pInt_i64, modB n _ t (by omega), Bool.cond_true_left, Bool.cond_false_right]
    rw [wrap64' (x := (i : Int) - a.frm) (by omega) (by omega), wrap64' (x := (i : Int) - b.frm) (by omega) (by omega), wrap64' (by omega) (by omega), show ((i : Int) + 1) = ((i + 1 : Nat) : Int) from rfl]
    rw [common_r8 n t ht vs ⟨a1, a2, a3, a4, by assumption⟩ ⟨b1, b2, b3, b4, by assumption⟩ h0 h1 k0 c m (i + 1) _ (by omega) (by omega)]
    rw [show bothIn t a b i (c + 1) = (bothAt t a b i || bothIn t a b (i + 1) c) from rfl, ← Bool.or_assoc]
    rfl

theorem overlapIsCommonA (n : Nat) (hn : 64 < n) {l : List Int} (hl : l.length ≤ 9223372036854775807) (t0 : Int) : law20_PlatformOverlapIsCommon n t0 (encI l) some = some true := by
  have hp := pick_range t0 (m := 30) (by omega)
  obtain ⟨vs, h1, h2, h3⟩ := visitsA n (by omega) hl (2 + pick t0 30) (by omega)
  simp -implicitDefEqProofs only [law20_PlatformOverlapIsCommon_p1, law20_PlatformOverlapIsCommon_p2, law20_PlatformOverlapIsCommon_p3, law20_PlatformOverlapIsCommon_p4, law20_PlatformOverlapIsCommon_p5, law20_PlatformOverlapIsCommon_p6, law20_PlatformOverlapIsCommon_p8, law20_PlatformOverlapIsCommon_p9, law20_PlatformOverlapIsCommon_p10, law20_PlatformOverlapIsCommon_p11, law20_PlatformOverlapIsCommon_p12, law20_PlatformOverlapIsCommon_p13, law20_PlatformOverlapIsCommon_p14, law20_PlatformOverlapIsCommon_p15, law20_PlatformOverlapIsCommon_p16, law20_PlatformOverlapIsCommon_p17, law20_PlatformOverlapIsCommon, pickA n _ (show (0 : Int) < 30 by omega) (by omega), gb_some_eq]
  rw [wrap64' (x := 2 + pick t0 30) (by omega) (by omega)]
  generalize ht : 2 + pick t0 30 = t at h2 h3 ⊢
  have htr : 2 ≤ t ∧ t ≤ 31 := by omega
  simp -implicitDefEqProofs only [h3, gb_some_eq, awake20 n (by omega), List.length_map]
  by_cases hlen : vs.length < 2
  · rw [bif_pos (by simp; omega)]
  · rw [bif_neg (by simp; omega)]
    have g0 : vs[0]? = some vs[0] := List.getElem?_eq_getElem (by omega)
    have g1 : vs[1]? = some vs[1] := List.getElem?_eq_getElem (by omega)
    have m0 := h2 _ (List.mem_of_getElem? g0)
    have m1 := h2 _ (List.mem_of_getElem? g1)
    generalize vs[0] = a at g0 m0
    generalize vs[1] = b at g1 m1
    rw [show (0 : Int) = ((0 : Nat) : Int) from rfl, common_r8 n t htr vs m0 m1 g0 g1 _ t.toNat n 0 false (by omega) (by omega), show rowAt (vs.map Vis.enc) ((0 : Nat) : Int) = some a.enc from rowAt_get g0, show rowAt (vs.map Vis.enc) 1 = some b.enc from rowAt_get (i := 1) g1]
    simp -implicitDefEqProofs only [Vis.enc, gb_some_eq, List.getElem?_cons_zero, List.getElem?_cons_succ, pInt_i64, pSl_s, OverlapA n (by omega)]
    have v1 : visValid t [a, b] = true := by simp [visValid, Vis.made_ok m0, Vis.made_ok m1]; omega
    have v2 : visValid t [b, a] = true := by simp [visValid, Vis.made_ok m0, Vis.made_ok m1]; omega
    have hc := ovl_common (t := t) (by omega) (a := a) (b := b) ⟨m0.1, m0.2.1, m0.2.2.1⟩ ⟨m1.1, m1.2.1, m1.2.2.1⟩
    rw [v1, v2, ovl_comm t b a, hc]
    simp
end
end Go.Vx
/-
  The search: its steps, its answers; the plain law PlatformAssigns.
-/
set_option linter.unusedSimpArgs false
set_option linter.unusedVariables false
namespace Go.Vx
section
variable {R : Type}

/-! steps -/

def cost : Nat → Int
  | 0 => 0
  | k + 1 => 4 * (1 + cost k)
theorem cost_nonneg : ∀ k, 0 ≤ cost k
  | 0 => Int.le_refl _
  | k + 1 => by have := cost_nonneg k; simp only [cost]; omega
theorem cost_mono : ∀ k, k ≤ 7 → cost k ≤ 21844
  | 0, _ => by decide
  | 1, _ => by decide
  | 2, _ => by decide
  | 3, _ => by decide
  | 4, _ => by decide
  | 5, _ => by decide
  | 6, _ => by decide
  | 7, _ => by decide
  | k + 8, h => by omega

theorem tryT_steps (b C : Int) (hC : 0 ≤ C) (ok : Int → Bool) (rec : Int → Int → Int × Int × List Int) (hr : ∀ x u, u + C ≤ b → ((rec x u).1 = 0 ∨ (rec x u).1 = 14) ∧ u ≤ (rec x u).2.1 ∧ (rec x u).2.1 ≤ u + C) : ∀ (xs : List Int) (k : Nat) (u : Int), xs.length ≤ k → u + k * (1 + C) ≤ b →
    ((tryT b ok rec xs u).1 = 0 ∨ (tryT b ok rec xs u).1 = 14) ∧ u ≤ (tryT b ok rec xs u).2.1 ∧ (tryT b ok rec xs u).2.1 ≤ u + k * (1 + C)
  | [], k, u, hk, hb => by
    have : 0 ≤ (k : Int) * (1 + C) := Int.mul_nonneg (by omega) (by omega)
    simp only [tryT]
    exact ⟨.inr trivial, by omega, by omega⟩
  | x :: xs, 0, u, hk, hb => by simp at hk
  | x :: xs, k + 1, u, hk, hb => by
    have e : ((k + 1 : Nat) : Int) * (1 + C) = k * (1 + C) + (1 + C) := by rw [Int.natCast_add, Int.add_mul]; simp
    have : 0 ≤ (k : Int) * (1 + C) := Int.mul_nonneg (by omega) (by omega)
    rw [e] at hb ⊢
    have hub : ¬ u = b := by omega
    simp only [tryT, if_neg hub]
    by_cases ho : ok x = true
    · obtain ⟨g1, g2, g3⟩ := hr x (u + 1) (by omega)
      simp only [if_pos ho]
      by_cases h14 : (rec x (u + 1)).1 = 14
      · obtain ⟨f1, f2, f3⟩ := tryT_steps b C hC ok rec hr xs k (rec x (u + 1)).2.1 (by simpa using hk) (by omega)
        simp only [if_pos h14]
        exact ⟨f1, by omega, by omega⟩
      · simp only [if_neg h14]
        exact ⟨g1, by omega, by omega⟩
    · simp only [if_neg ho]
      obtain ⟨f1, f2, f3⟩ := tryT_steps b C hC ok rec hr xs k (u + 1) (by simpa using hk) (by omega)
      exact ⟨f1, by omega, by omega⟩

theorem srch_steps (t b : Int) : ∀ (vs : List Vis) (pre : List (Vis × Int)) (u : Int), (∀ v ∈ vs, v.tr.length ≤ 4) → u + cost vs.length ≤ b →
    ((srch t b vs pre u).1 = 0 ∨ (srch t b vs pre u).1 = 14) ∧ u ≤ (srch t b vs pre u).2.1 ∧ (srch t b vs pre u).2.1 ≤ u + cost vs.length
  | [], pre, u, _, hb => by
    simp only [srch, List.length_nil, cost]
    exact ⟨.inl trivial, by omega, by omega⟩
  | v :: vs, pre, u, hv, hb => by
    have := tryT_steps b (cost vs.length) (cost_nonneg _) (free t pre v) (fun x u => srch t b vs (pre ++ [(v, x)]) u) (fun x u hu => srch_steps t b vs _ u (fun w hw => hv w (List.mem_cons_of_mem _ hw)) hu) v.tr 4 u (hv v (List.mem_cons_self ..)) (by simpa [cost] using hb)
    simpa [srch, cost] using this

/-! answers -/

def lexLe : List Int → List Int → Prop
  | [], [] => True
  | x :: xs, y :: ys => x < y ∨ (x = y ∧ lexLe xs ys)
  | _, _ => False

theorem asc_mem : ∀ {l : List Int} {b : Int}, asc b l = true → ∀ y ∈ l, b < y
  | x :: r, b, h, y, hy => by
    simp only [asc, Bool.and_eq_true, decide_eq_true_eq] at h
    rcases List.mem_cons.1 hy with rfl | hy
    · exact h.1
    · have := asc_mem h.2 y hy; omega

/-- Answers of a search, said of a set of good lists. -/
def Ans (good : List Int → Prop) (r : Int × Int × List Int) : Prop :=
  (r.1 = 0 → good r.2.2 ∧ ∀ ds, good ds → lexLe r.2.2 ds) ∧ (r.1 = 14 → ∀ ds, ¬ good ds)

theorem tryT_ans (b : Int) (ok : Int → Bool) (rec : Int → Int → Int × Int × List Int) (good : Int → List Int → Prop) (hr : ∀ x u, Ans (good x) (rec x u)) : ∀ (xs : List Int) (last u : Int), asc last xs = true →
    Ans (fun l => ∃ x ds, l = x :: ds ∧ x ∈ xs ∧ ok x = true ∧ good x ds) (tryT b ok rec xs u)
  | [], last, u, _ => by
    refine ⟨fun h => by simp [tryT] at h, fun _ ds => ?_⟩
    rintro ⟨x, ds, _, hx, _⟩
    simp at hx
  | x :: xs, last, u, ha => by
    simp only [asc, Bool.and_eq_true, decide_eq_true_eq] at ha
    by_cases hub : u = b
    · refine ⟨fun h => by simp [tryT, hub] at h, fun h => by simp [tryT, hub] at h⟩
    · by_cases ho : ok x = true
      · obtain ⟨g1, g2⟩ := hr x (u + 1)
        by_cases h14 : (rec x (u + 1)).1 = 14
        · have ih := tryT_ans b ok rec good hr xs x (rec x (u + 1)).2.1 ha.2
          have e : tryT b ok rec (x :: xs) u = tryT b ok rec xs (rec x (u + 1)).2.1 := by simp only [tryT, if_neg hub, if_pos ho, if_pos h14]
          rw [e]
          refine ⟨fun h => ?_, fun h ds => ?_⟩
          · obtain ⟨⟨y, ds, q1, q2, q3, q4⟩, q5⟩ := ih.1 h
            refine ⟨⟨y, ds, q1, List.mem_cons_of_mem _ q2, q3, q4⟩, fun l => ?_⟩
            rintro ⟨z, es, p1, p2, p3, p4⟩
            rcases List.mem_cons.1 p2 with rfl | p2
            · exact absurd p4 (g2 h14 es)
            · exact q5 l ⟨z, es, p1, p2, p3, p4⟩
          · rintro ⟨z, es, p1, p2, p3, p4⟩
            rcases List.mem_cons.1 p2 with rfl | p2
            · exact absurd p4 (g2 h14 es)
            · exact ih.2 h ds ⟨z, es, p1, p2, p3, p4⟩
        · have e : tryT b ok rec (x :: xs) u = ((rec x (u + 1)).1, (rec x (u + 1)).2.1, x :: (rec x (u + 1)).2.2) := by simp only [tryT, if_neg hub, if_pos ho, if_neg h14]
          rw [e]
          refine ⟨fun h => ?_, fun h => absurd h h14⟩
          obtain ⟨q1, q2⟩ := g1 h
          refine ⟨⟨x, _, rfl, List.mem_cons_self .., ho, q1⟩, fun l => ?_⟩
          rintro ⟨z, es, p1, p2, p3, p4⟩
          subst p1
          rcases List.mem_cons.1 p2 with rfl | p2
          · exact .inr ⟨rfl, q2 es p4⟩
          · exact .inl (asc_mem ha.2 z p2)
      · have ih := tryT_ans b ok rec good hr xs x (u + 1) ha.2
        have e : tryT b ok rec (x :: xs) u = tryT b ok rec xs (u + 1) := by simp only [tryT, if_neg hub, if_neg ho]
        rw [e]
        refine ⟨fun h => ?_, fun h ds => ?_⟩
        · obtain ⟨⟨y, ds, q1, q2, q3, q4⟩, q5⟩ := ih.1 h
          refine ⟨⟨y, ds, q1, List.mem_cons_of_mem _ q2, q3, q4⟩, fun l => ?_⟩
          rintro ⟨z, es, p1, p2, p3, p4⟩
          rcases List.mem_cons.1 p2 with rfl | p2
          · exact absurd p3 ho
          · exact q5 l ⟨z, es, p1, p2, p3, p4⟩
        · rintro ⟨z, es, p1, p2, p3, p4⟩
          rcases List.mem_cons.1 p2 with rfl | p2
          · exact absurd p3 ho
          · exact ih.2 h ds ⟨z, es, p1, p2, p3, p4⟩

theorem Ans.iff {g g' : List Int → Prop} {r : Int × Int × List Int} (h : ∀ l, g l ↔ g' l) (ha : Ans g r) : Ans g' r :=
  ⟨fun e => ⟨(h _).1 (ha.1 e).1, fun ds hd => (ha.1 e).2 ds ((h _).2 hd)⟩, fun e ds hd => ha.2 e ds ((h _).2 hd)⟩

theorem srch_ans (t b : Int) : ∀ (vs : List Vis) (pre : List (Vis × Int)) (u : Int), (∀ v ∈ vs, asc (-1) v.tr = true) → Ans (fun l => prop t pre vs l = true) (srch t b vs pre u)
  | [], pre, u, _ => by
    refine ⟨fun _ => ⟨rfl, fun ds hd => ?_⟩, fun h => by simp [srch] at h⟩
    cases ds with
    | nil => trivial
    | cons => simp [prop] at hd
  | v :: vs, pre, u, hv => by
    refine Ans.iff ?_ (tryT_ans b (free t pre v) (fun x u => srch t b vs (pre ++ [(v, x)]) u) (fun x l => prop t (pre ++ [(v, x)]) vs l = true) (fun x u => srch_ans t b vs _ u fun w hw => hv w (List.mem_cons_of_mem _ hw)) v.tr (-1) u (hv v (List.mem_cons_self ..)))
    intro l
    constructor
    · rintro ⟨x, ds, rfl, h1, h2, h3⟩
      simp only [prop, Bool.and_eq_true, List.contains_iff_mem]
      exact ⟨h1, h2, h3⟩
    · intro h
      cases l with
      | nil => simp [prop] at h
      | cons x ds =>
        simp only [prop, Bool.and_eq_true, List.contains_iff_mem] at h
        exact ⟨x, ds, rfl, h.1, h.2.1, h.2.2⟩

theorem made_tr {t : Int} {v : Vis} (h : v.made t) : v.tr.length ≤ 4 ∧ asc (-1) v.tr = true := by
  obtain ⟨_, _, _, _, h5, h6, h7⟩ := h
  exact ⟨by omega, h5⟩

theorem made_valid {t : Int} (ht : 2 ≤ t ∧ t ≤ 31) {vs : List Vis} (hl : vs.length ≤ 7) (h : ∀ v ∈ vs, v.made t) : visValid t vs = true := by
  simp only [visValid, Bool.and_eq_true, decide_eq_true_eq, List.all_eq_true]
  exact ⟨by omega, fun v hv => Vis.made_ok (h v hv)⟩

/-- With a great budget Assign has an answer. -/
theorem assign_big {t : Int} (ht : 2 ≤ t ∧ t ≤ 31) {vs : List Vis} (hl : vs.length ≤ 7) (h : ∀ v ∈ vs, v.made t) {b : Int} (hb : 21844 ≤ b ∧ b ≤ 1048576) :
    ((assign t vs b).2.2 = 0 ∧ prop t [] vs (assign t vs b).1 = true ∧ ∀ ds, prop t [] vs ds = true → lexLe (assign t vs b).1 ds) ∨ ((assign t vs b).2.2 = 14 ∧ (assign t vs b).1 = [] ∧ ∀ ds, prop t [] vs ds = false) := by
  obtain ⟨s1, s2, s3⟩ := srch_steps t b vs [] 0 (fun v hv => (made_tr (h v hv)).1) (by have := cost_mono vs.length hl; omega)
  obtain ⟨a1, a2⟩ := srch_ans t b vs [] 0 (fun v hv => (made_tr (h v hv)).2)
  have hv := made_valid ht hl h
  have hbb : ¬ (b < 1 ∨ 1048576 < b) := by omega
  rcases s1 with s1 | s1
  · left
    have e : assign t vs b = ((srch t b vs [] 0).2.2, (srch t b vs [] 0).2.1, 0) := by simp only [assign, hv, hbb, s1, if_true, if_false, Bool.true_eq_false]
    rw [e]
    exact ⟨rfl, (a1 s1).1, (a1 s1).2⟩
  · right
    have h0 : ¬ (14 : Int) = 0 := by omega
    have e : assign t vs b = ([], (srch t b vs [] 0).2.1, 14) := by simp only [assign, hv, hbb, s1, h0, if_true, if_false, Bool.true_eq_false]
    rw [e]
    refine ⟨rfl, rfl, fun ds => ?_⟩
    cases hp : prop t [] vs ds with
    | false => rfl
    | true => exact absurd hp (a2 s1 ds)

/-! the law -/

theorem assigns_r9 (n : Nat) (w3 : Int) (vs : List Vis) (hv : vs.length ≤ 16) (htr : ∀ v ∈ vs, v.tr.length ≤ 8) (w9 : List (List D)) (w10 : Int) {l : List Int} (hl : l.length ≤ 9223372036854775807) : ∀ (suf : List Vis) (i m : Nat) (acc : List Int) (j : Nat), vs.drop i = suf → i ≤ vs.length → suf.length < m → acc.length ≤ i → j ≤ l.length →
    ∃ (acc' : List Int) (j' : Nat), ∀ (R : Type) (k0 : Int → Bool → List (List D) → List (List D) → Int → Option R), law20_PlatformAssigns_r9 n w3 (vs.map Vis.enc) w9 w10 vs.length k0 m i (encI acc) (encI l) j = k0 vs.length false (encI acc') (encI l) j'
  | [], i, m, acc, j, hd, hi, hm, ha, hj => by
    have := drop_nil hd
    have hie : i = vs.length := by omega
    obtain ⟨m, rfl⟩ : ∃ m', m = m' + 1 := ⟨m - 1, by omega⟩
    refine ⟨acc, j, fun R k0 => ?_⟩
    rw [law20_PlatformAssigns_r9]
    unfold law20_PlatformAssigns_p8
    rw [bif_neg (by simp; omega), hie]
    simp
  | v :: suf, i, m, acc, j, hd, hi, hm, ha, hj => by
    obtain ⟨h1, h2, h3⟩ := drop_cons hd
    have ht := htr v (List.mem_of_getElem? h1)
    obtain ⟨m, rfl⟩ : ∃ m', m = m' + 1 := ⟨m - 1, by omega⟩
    by_cases h0 : v.tr.length = 0
    · obtain ⟨acc', j', g⟩ := assigns_r9 n w3 vs hv htr w9 w10 hl suf (i + 1) m acc j h2 (by omega) (by simp at hm; omega) (by omega) hj
      refine ⟨acc', j', fun R k0 => ?_⟩
      rw [law20_PlatformAssigns_r9]
      unfold law20_PlatformAssigns_p8
      rw [bif_pos (by simpa using h3), rowAt_get h1]
      simp -implicitDefEqProofs only [Vis.enc, gb_some_eq, List.getElem?_cons_zero, List.getElem?_cons_succ, pSl_s, encI_length]
      rw [bif_neg (by rw [h0]; rfl), wrap64' (by omega) (by omega), show ((i : Int) + 1) = ((i + 1 : Nat) : Int) from rfl, g]
    · obtain ⟨v1, j1, a1, b1, c1, e1⟩ := nextA n hl hj (m := (v.tr.length : Int)) (by omega) (by omega)
      obtain ⟨q, hq⟩ : ∃ q : Nat, v1 = q := ⟨v1.toNat, by omega⟩
      subst hq
      have hg : v.tr[q]? = some v.tr[q] := List.getElem?_eq_getElem (by omega)
      obtain ⟨acc', j', g⟩ := assigns_r9 n w3 vs hv htr w9 w10 hl suf (i + 1) m (acc ++ [v.tr[q]]) j1 h2 (by omega) (by simp at hm; omega) (by simp; omega) c1
      refine ⟨acc', j', fun R k0 => ?_⟩
      rw [law20_PlatformAssigns_r9]
      unfold law20_PlatformAssigns_p8
      rw [bif_pos (by simpa using h3), rowAt_get h1]
      simp -implicitDefEqProofs only [Vis.enc, gb_some_eq, List.getElem?_cons_zero, List.getElem?_cons_succ, pSl_s, encI_length, e1]
      rw [bif_pos (by rw [decide_eq_true_eq]; omega), encI_get hg]
      simp -implicitDefEqProofs only [gb_some_eq, List.getElem?_cons_zero, pInt_i64]
      rw [room_ok (by simp [encI_length]; omega), wrap64' (by omega) (by omega), show ((i : Int) + 1) = ((i + 1 : Nat) : Int) from rfl, show encI acc ++ [[D.int .i64 v.tr[q]]] = encI (acc ++ [v.tr[q]]) by simp [encI]]
      simp -implicitDefEqProofs only [gb_some_eq]
      rw [g]

theorem encI_get? {l : List Int} {i : Nat} {a : Int} (h : l[i]? = some a) : (encI l)[i]? = some [.int .i64 a] := by unfold encI; rw [List.getElem?_map, h]; rfl

theorem assigns_r17 (n : Nat) (hn : 16 < n) (c x : List Int) (hc : c.length ≤ 16) (k0 : Bool → Option R) (k1 : Int → Bool → Option R) (kx : Option R) (h0 : k0 true = kx) (hk : ∀ x y, k1 x y = kx) : ∀ (sc sx : List Int) (i m : Nat), c.drop i = sc → x.drop i = sx → sc.length < m → lexLe sc sx →
    law20_PlatformAssigns_r17 n (encI c) c.length (encI x) k0 k1 m i = kx
  | [], sx, i, m, hd, hx, hm, hlex => by
    have := drop_nil hd
    obtain ⟨m, rfl⟩ : ∃ m', m = m' + 1 := ⟨m - 1, by omega⟩
    rw [law20_PlatformAssigns_r17]
    unfold law20_PlatformAssigns_p16
    rw [bif_neg (by simp; omega)]
    exact hk _ _
  | a :: sc, sx, i, m, hd, hx, hm, hlex => by
    obtain ⟨h1, h2, h3⟩ := drop_cons hd
    cases sx with
    | nil => exact absurd hlex (by simp [lexLe])
    | cons y sx =>
      obtain ⟨g1, g2, g3⟩ := drop_cons hx
      obtain ⟨m, rfl⟩ : ∃ m', m = m' + 1 := ⟨m - 1, by omega⟩
      rw [law20_PlatformAssigns_r17]
      unfold law20_PlatformAssigns_p16
      rw [bif_pos (by simpa using h3), encI_get h1, inB_ok (by omega) (by simp [encI_length]; omega), Int.toNat_natCast, encI_get? g1]
      simp -implicitDefEqProofs only [gb_some_eq, List.getElem?_cons_zero, pInt_i64, awake20 n hn, cond_true]
      by_cases he : a = y
      · have hl2 : lexLe sc sx := by
          rcases hlex with h | h
          · omega
          · exact h.2
        rw [bif_neg (by simpa using he), wrap64' (by omega) (by omega), show ((i : Int) + 1) = ((i + 1 : Nat) : Int) from rfl]
        exact assigns_r17 n hn c x hc k0 k1 kx h0 hk sc sx (i + 1) m h2 g2 (by simp at hm; omega) hl2
      · have hlt : a < y := by
          rcases hlex with h | h
          · exact h
          · exact absurd h.1 he
        rw [bif_pos (by simpa using he), ← h0]
        simp [hlt]

theorem assignsA (n : Nat) (hn : 64 < n) {l o : List Int} (hl : l.length ≤ 9223372036854775807) (ho : o.length ≤ 9223372036854775807) (t0 : Int) : law20_PlatformAssigns n t0 (encI l) (encI o) some = some true := by
  have hp := pick_range t0 (m := 30) (by omega)
  obtain ⟨vs, h1, h2, h3⟩ := visitsA n (by omega) hl (2 + pick t0 30) (by omega)
  simp -implicitDefEqProofs only [law20_PlatformAssigns_p1, law20_PlatformAssigns_p2, law20_PlatformAssigns_p3, law20_PlatformAssigns_p4, law20_PlatformAssigns_p5, law20_PlatformAssigns_p6, law20_PlatformAssigns_p7, law20_PlatformAssigns_p9, law20_PlatformAssigns_p10, law20_PlatformAssigns_p11, law20_PlatformAssigns_p12, law20_PlatformAssigns_p13, law20_PlatformAssigns_p14, law20_PlatformAssigns_p15, law20_PlatformAssigns_p17, law20_PlatformAssigns_p18, law20_PlatformAssigns_p19, law20_PlatformAssigns_p20, law20_PlatformAssigns_p21, law20_PlatformAssigns_p22, law20_PlatformAssigns_p23, law20_PlatformAssigns_p24, law20_PlatformAssigns_p25, law20_PlatformAssigns_p26, law20_PlatformAssigns_p27, law20_PlatformAssigns_p28, law20_PlatformAssigns_p29, law20_PlatformAssigns_p30, law20_PlatformAssigns_p31, law20_PlatformAssigns, pickA n _ (show (0 : Int) < 30 by omega) (by omega), gb_some_eq, keep_From, keep_From_p1]
  rw [wrap64' (x := 2 + pick t0 30) (by omega) (by omega)]
  generalize ht : 2 + pick t0 30 = t at h2 h3 ⊢
  have htr : 2 ≤ t ∧ t ≤ 31 := by omega
  simp -implicitDefEqProofs only [h3, gb_some_eq, awake20 n (by omega), List.length_map, assignA n (by omega)]
  obtain ⟨x, j, hx⟩ := assigns_r9 n t vs (by omega) (fun v hv => by have := (made_tr (h2 v hv)).1; omega) (encI (assign t vs 262144).1) (assign t vs 262144).2.2 ho vs 0 n [] 0 rfl (by omega) (by omega) (by simp) (by omega)
  have hx' := fun R k0 => hx R k0
  rw [show ((0 : Nat) : Int) = (0 : Int) from rfl, show encI [] = [] from rfl] at hx
  rw [hx]
  have hvv := made_valid htr h1 h2
  rcases assign_big htr h1 h2 (b := 262144) (by omega) with ⟨e1, e2, e3⟩ | ⟨e1, e2, e3⟩
  · generalize assign t vs 262144 = r at e1 e2 e3
    rw [e1]
    simp -implicitDefEqProofs only [properB n (show 16 < n by omega), gb_some_eq, bne_self_eq_false, cond_false, proper, hvv, e2, Bool.true_and, Bool.not_true, encI_length]
    cases hpx : prop t [] vs x with
    | false => simp
    | true =>
      simp -implicitDefEqProofs only [Bool.not_true, cond_false]
      rw [show (0 : Int) = ((0 : Nat) : Int) from rfl]
      have hcl := prop_len e2
      exact assigns_r17 n (by omega) r.1 x (by omega) _ _ (some true) rfl (fun _ _ => rfl) r.1 x 0 n rfl rfl (by omega) (e3 x hpx)
  · generalize assign t vs 262144 = r at e1 e2 e3
    rw [e1]
    simp -implicitDefEqProofs only [properB n (show 16 < n by omega), gb_some_eq, proper, hvv, e3, Bool.and_false]
    rfl
end
end Go.Vx
/-
  Plain laws of the reference: visit, Assign.
-/
set_option linter.unusedSimpArgs false
set_option linter.unusedVariables false
namespace Go.Vx
section
variable {R : Type}

theorem tryT_err (b : Int) (ok : Int → Bool) (rec : Int → Int → Int × Int × List Int) (hr : ∀ x u, (rec x u).1 = 0 ∨ (rec x u).1 = 14 ∨ (rec x u).1 = 15) : ∀ (xs : List Int) (u : Int), (tryT b ok rec xs u).1 = 0 ∨ (tryT b ok rec xs u).1 = 14 ∨ (tryT b ok rec xs u).1 = 15
  | [], u => .inr (.inl rfl)
  | x :: xs, u => by
    simp only [tryT]
    split
    · exact .inr (.inr rfl)
    · split
      · split
        · exact tryT_err b ok rec hr xs _
        · exact hr x _
      · exact tryT_err b ok rec hr xs _

theorem srch_err (t b : Int) : ∀ (vs : List Vis) (pre : List (Vis × Int)) (u : Int), (srch t b vs pre u).1 = 0 ∨ (srch t b vs pre u).1 = 14 ∨ (srch t b vs pre u).1 = 15
  | [], pre, u => .inl rfl
  | v :: vs, pre, u => tryT_err b _ _ (fun x u => srch_err t b vs _ u) v.tr u

theorem prop_snoc {t : Int} : ∀ {vs : List Vis} {c : List Int} {pre : List (Vis × Int)} {v : Vis} {x : Int}, prop t pre vs c = true → prop t pre (vs ++ [v]) (c ++ [x]) = (v.tr.contains x && free t (pre ++ vs.zip c) v x)
  | [], [], pre, v, x, h => by simp [prop]
  | [], _ :: _, _, _, _, h => by simp [prop] at h
  | _ :: _, [], _, _, _, h => by simp [prop] at h
  | w :: vs, y :: c, pre, v, x, h => by
    simp only [prop, Bool.and_eq_true] at h
    have ih := prop_snoc (pre := pre ++ [(w, y)]) (v := v) (x := x) h.2.2
    simp only [List.cons_append, prop, h.1, h.2.1, Bool.true_and, ih, List.zip_cons_cons, List.append_assoc, List.singleton_append, List.cons_append, List.nil_append]

theorem neL_cons {α : Type} (a : α) (l : List α) : neL (a :: l) = some () := rfl

theorem slB3_take {len i : Nat} (h : i ≤ len) : slB3 len none (some (i : Int)) (some (i : Int)) = some (0, i) := by
  simp only [slB3, decide_true, cond_true, slB, Option.getD_none, Option.getD_some]
  rw [bif_pos (by simp; omega)]
  simp
theorem slB_take {len i : Nat} (h : i ≤ len) : slB len none (some (i : Int)) = some (0, i) := by
  simp only [slB, Option.getD_none, Option.getD_some]
  rw [bif_pos (by simp; omega)]
  simp
theorem cut_take {α : Type} (l : List α) (i : Nat) : cut l (0, i) = l.take i := by simp [cut]
theorem encI_take (l : List Int) (i : Nat) : (encI l).take i = encI (l.take i) := by simp [encI, List.map_take]
theorem encI_snoc (l : List Int) (x : Int) : encI l ++ [[D.int .i64 x]] = encI (l ++ [x]) := by simp [encI]

/-- What visit does with the choices c. -/
def VisitsAt (t b : Int) (vs : List Vis) (Fr : Int → List (List D) → Int → Int → Bool → List (List D) → Option (Bool × Int × List (List D) × Int × Int × Bool × List (List D))) (i : Nat) : Prop :=
  ∀ (c : List Int) (u : Int), c.length = i → prop t [] (vs.take i) c = true → 0 ≤ u → u ≤ b →
    ((srch t b (vs.drop i) ((vs.take i).zip c) u).2.1 ≤ b ∧ u ≤ (srch t b (vs.drop i) ((vs.take i).zip c) u).2.1) ∧
    ((srch t b (vs.drop i) ((vs.take i).zip c) u).1 = 0 → Fr t (vs.map Vis.enc) b u false (encI c) = some (true, t, vs.map Vis.enc, b, (srch t b (vs.drop i) ((vs.take i).zip c) u).2.1, false, encI (c ++ (srch t b (vs.drop i) ((vs.take i).zip c) u).2.2))) ∧
    ((srch t b (vs.drop i) ((vs.take i).zip c) u).1 = 14 → Fr t (vs.map Vis.enc) b u false (encI c) = some (false, t, vs.map Vis.enc, b, (srch t b (vs.drop i) ((vs.take i).zip c) u).2.1, false, encI c)) ∧
    ((srch t b (vs.drop i) ((vs.take i).zip c) u).1 = 15 → ∃ u' c', Fr t (vs.map Vis.enc) b u false (encI c) = some (false, t, vs.map Vis.enc, b, u', true, encI c'))

theorem visit_r6 (n : Nat) (hn : 16 < n) (t b : Int) (ht : 2 ≤ t ∧ t ≤ 7200) (hb : b ≤ 1048576) (vs : List Vis) (hv : ∀ v ∈ vs, v.ok t = true) (hl : vs.length ≤ 16) (Fr : Int → List (List D) → Int → Int → Bool → List (List D) → Option (Bool × Int × List (List D) × Int × Int × Bool × List (List D))) (i : Nat) (v : Vis) (hi : vs[i]? = some v) (hF : VisitsAt t b vs Fr (i + 1)) (c : List Int) (hci : c.length = i) (hpc : prop t [] (vs.take i) c = true)
    (k0 : Bool → Int → List (List D) → Int → Int → Bool → List (List D) → Option R) (k1 : Int → Bool → Int → List (List D) → Int → Int → Bool → List (List D) → Option R) : ∀ (suf : List Int) (k m : Nat) (c2 : List Int) (u : Int), v.tr.drop k = suf → k ≤ v.tr.length → suf.length < m → c2.take i = c → 0 ≤ u → u ≤ b →
    ∃ r : Int × Int × List Int, r = tryT b (free t ((vs.take i).zip c) v) (fun x u => srch t b (vs.drop (i + 1)) ((vs.take i).zip c ++ [(v, x)]) u) suf u ∧ (r.2.1 ≤ b ∧ u ≤ r.2.1) ∧
      (r.1 = 0 → ref19_assigner_visit_r6 n Fr i v.tr.length k0 k1 m k t (vs.map Vis.enc) b u false (encI c2) = k0 true t (vs.map Vis.enc) b r.2.1 false (encI (c ++ r.2.2))) ∧
      (r.1 = 14 → ∃ c3 : List Int, c3.take i = c ∧ i ≤ c3.length ∧ ref19_assigner_visit_r6 n Fr i v.tr.length k0 k1 m k t (vs.map Vis.enc) b u false (encI c2) = k1 v.tr.length false t (vs.map Vis.enc) b r.2.1 false (encI c3)) ∧
      (r.1 = 15 → ∃ u' c3, ref19_assigner_visit_r6 n Fr i v.tr.length k0 k1 m k t (vs.map Vis.enc) b u false (encI c2) = k0 false t (vs.map Vis.enc) b u' true (encI c3))
  | [], k, m, c2, u, hd, hkl, hm, h2, h0, hu => by
    have hk := drop_nil hd
    have hke : k = v.tr.length := by omega
    have hlen : i ≤ c2.length := by have := congrArg List.length h2; rw [List.length_take] at this; omega
    obtain ⟨m, rfl⟩ : ∃ m', m = m' + 1 := ⟨m - 1, by omega⟩
    refine ⟨_, rfl, ⟨by simpa [tryT] using hu, by simp [tryT]⟩, fun h => by simp [tryT] at h, fun _ => ⟨c2, h2, hlen, ?_⟩, fun h => by simp [tryT] at h⟩
    rw [ref19_assigner_visit_r6]
    unfold ref19_assigner_visit_p5
    rw [bif_neg (by simp; omega), hke]
    simp [tryT]
  | x :: suf, k, m, c2, u, hd, hkl, hm, h2, h0, hu => by
    obtain ⟨g1, g2, g3⟩ := drop_cons hd
    have hiv : i < vs.length := (List.getElem?_eq_some_iff.1 hi).1
    have hok := hv v (List.mem_of_getElem? hi)
    have htr : v.tr.length ≤ 8 := by simp only [Vis.ok, Bool.and_eq_true, decide_eq_true_eq] at hok; omega
    have hlen : i ≤ c2.length := by have := congrArg List.length h2; rw [List.length_take] at this; omega
    have htk : vs.take (i + 1) = vs.take i ++ [v] := by rw [List.take_add_one, hi]; rfl
    have hpr : proper t (vs.take (i + 1)) (c ++ [x]) = free t ((vs.take i).zip c) v x := by
      have hvv : visValid t (vs.take (i + 1)) = true := by
        simp only [visValid, Bool.and_eq_true, decide_eq_true_eq, List.all_eq_true, List.length_take]
        exact ⟨by omega, fun w hw => hv w (List.mem_of_mem_take hw)⟩
      have hmem : v.tr.contains x = true := by rw [List.contains_iff_mem]; exact List.mem_of_getElem? g1
      rw [proper, hvv, htk, prop_snoc hpc, hmem]
      simp
    obtain ⟨m, rfl⟩ : ∃ m', m = m' + 1 := ⟨m - 1, by omega⟩
    have hrun : ref19_assigner_visit_r6 n Fr i v.tr.length k0 k1 (m + 1) k t (vs.map Vis.enc) b u false (encI c2) =
        bif decide (u + 1 > b) then k0 false t (vs.map Vis.enc) b (u + 1) true (encI c2) else
          gb (free t ((vs.take i).zip c) v x) (Fr t (vs.map Vis.enc) b (u + 1) false (encI (c ++ [x]))) (false, 0, [], 0, 0, false, []) fun r57 =>
            bif (bif free t ((vs.take i).zip c) v x then r57.1 else false) then
              k0 true (bif free t ((vs.take i).zip c) v x then r57.2.1 else t) (bif free t ((vs.take i).zip c) v x then r57.2.2.1 else vs.map Vis.enc) (bif free t ((vs.take i).zip c) v x then r57.2.2.2.1 else b) (bif free t ((vs.take i).zip c) v x then r57.2.2.2.2.1 else u + 1) (bif free t ((vs.take i).zip c) v x then r57.2.2.2.2.2.1 else false) (bif free t ((vs.take i).zip c) v x then r57.2.2.2.2.2.2 else encI (c ++ [x]))
            else bif (bif free t ((vs.take i).zip c) v x then r57.2.2.2.2.2.1 else false) then
              k0 false (bif free t ((vs.take i).zip c) v x then r57.2.1 else t) (bif free t ((vs.take i).zip c) v x then r57.2.2.1 else vs.map Vis.enc) (bif free t ((vs.take i).zip c) v x then r57.2.2.2.1 else b) (bif free t ((vs.take i).zip c) v x then r57.2.2.2.2.1 else u + 1) (bif free t ((vs.take i).zip c) v x then r57.2.2.2.2.2.1 else false) (bif free t ((vs.take i).zip c) v x then r57.2.2.2.2.2.2 else encI (c ++ [x]))
            else ref19_assigner_visit_r6 n Fr i v.tr.length k0 k1 m ((k + 1 : Nat) : Int) (bif free t ((vs.take i).zip c) v x then r57.2.1 else t) (bif free t ((vs.take i).zip c) v x then r57.2.2.1 else vs.map Vis.enc) (bif free t ((vs.take i).zip c) v x then r57.2.2.2.1 else b) (bif free t ((vs.take i).zip c) v x then r57.2.2.2.2.1 else u + 1) (bif free t ((vs.take i).zip c) v x then r57.2.2.2.2.2.1 else false) (bif free t ((vs.take i).zip c) v x then r57.2.2.2.2.2.2 else encI (c ++ [x])) := by
      rw [ref19_assigner_visit_r6]
      unfold ref19_assigner_visit_p5
      rw [bif_pos (by simpa using g3), wrap64' (x := u + 1) (by omega) (by omega), wrap64' (x := (k : Int) + 1) (by omega) (by omega), wrap64' (x := (i : Int) + 1) (by omega) (by omega), encI_length, slB3_take hlen, rowAt_get hi, List.length_map, show ((i : Int) + 1) = ((i + 1 : Nat) : Int) from rfl, slB_take (show i + 1 ≤ vs.length by omega)]
      simp -implicitDefEqProofs only [Vis.enc, gb_some_eq, List.getElem?_cons_zero, List.getElem?_cons_succ, pSl_s, encI_get g1, pInt_i64, neL_cons, cut_take, encI_take, h2, encI_snoc]
      rw [room_ok (by simp [encI_length]; omega)]
      simp -implicitDefEqProofs only [gb_some_eq]
      rw [← List.map_take, properB n hn, hpr]
      rfl
    rw [hrun]
    have hct : (c ++ [x]).take i = c := by rw [List.take_append_of_le_length (by omega), List.take_of_length_le (by omega)]
    by_cases hub : u = b
    · refine ⟨(15, u, []), by simp [tryT, hub], ⟨hu, Int.le_refl _⟩, fun h => by simp at h, fun h => by simp at h, fun _ => ⟨u + 1, c2, ?_⟩⟩
      rw [bif_pos (by simp; omega)]
    · rw [bif_neg (by simp; omega)]
      cases hfr : free t ((vs.take i).zip c) v x with
      | false =>
        obtain ⟨r, e1, e2, e3, e4, e5⟩ := visit_r6 n hn t b ht hb vs hv hl Fr i v hi hF c hci hpc k0 k1 suf (k + 1) m (c ++ [x]) (u + 1) g2 (by omega) (by simp at hm; omega) hct (by omega) (by omega)
        refine ⟨r, by rw [e1]; simp [tryT, hub, hfr], ⟨e2.1, by omega⟩, ?_, ?_, ?_⟩ <;> rw [gb_false] <;> simp -implicitDefEqProofs only [cond_false] <;> assumption
      | true =>
        have hz : (vs.take (i + 1)).zip (c ++ [x]) = (vs.take i).zip c ++ [(v, x)] := by
          rw [htk, List.zip_append (by rw [List.length_take]; omega)]; rfl
        have hpp : prop t [] (vs.take (i + 1)) (c ++ [x]) = true := by
          rw [hfr, proper, Bool.and_eq_true] at hpr
          exact hpr.2
        obtain ⟨q1, q2, q3, q4⟩ := hF (c ++ [x]) (u + 1) (by simp [hci]) hpp (by omega) (by omega)
        rw [hz] at q1 q2 q3 q4
        generalize hr1 : srch t b (vs.drop (i + 1)) ((vs.take i).zip c ++ [(v, x)]) (u + 1) = r1 at q1 q2 q3 q4
        rcases (hr1 ▸ srch_err t b (vs.drop (i + 1)) ((vs.take i).zip c ++ [(v, x)]) (u + 1) : r1.1 = 0 ∨ r1.1 = 14 ∨ r1.1 = 15) with h | h | h
        · refine ⟨(0, r1.2.1, x :: r1.2.2), by simp [tryT, hub, hfr, hr1, h], ⟨q1.1, by simp only; omega⟩, fun _ => ?_, fun h' => by simp at h', fun h' => by simp at h'⟩
          rw [q2 h]
          simp -implicitDefEqProofs only [gb_some_eq, cond_true, List.append_assoc, List.singleton_append]
        · obtain ⟨r, e1, e2, e3, e4, e5⟩ := visit_r6 n hn t b ht hb vs hv hl Fr i v hi hF c hci hpc k0 k1 suf (k + 1) m (c ++ [x]) r1.2.1 g2 (by omega) (by simp at hm; omega) hct (by omega) q1.1
          refine ⟨r, by rw [e1]; simp [tryT, hub, hfr, hr1, h], ⟨e2.1, by omega⟩, ?_, ?_, ?_⟩ <;> rw [q3 h] <;> simp -implicitDefEqProofs only [gb_some_eq, cond_true, cond_false] <;> assumption
        · obtain ⟨u', c', hq⟩ := q4 h
          refine ⟨(15, r1.2.1, x :: r1.2.2), by simp [tryT, hub, hfr, hr1, h], ⟨q1.1, by simp only; omega⟩, fun h' => by simp at h', fun h' => by simp at h', fun _ => ⟨u', c', ?_⟩⟩
          rw [hq]
          simp -implicitDefEqProofs only [gb_some_eq, cond_true, cond_false]

theorem visitsAt (n : Nat) (hn : 16 < n) (t b : Int) (ht : 2 ≤ t ∧ t ≤ 7200) (hb : b ≤ 1048576) (vs : List Vis) (hv : ∀ v ∈ vs, v.ok t = true) (hl : vs.length ≤ 16) : ∀ (d i : Nat), vs.length < i + d → i ≤ vs.length → VisitsAt t b vs (ref19_assigner_visit_F n d) i
  | 0, i, hd, hi => by omega
  | d + 1, i, hd, hi => by
    intro c u hc hpc h0 hu
    rw [ref19_assigner_visit_F]
    simp -implicitDefEqProofs only [ref19_assigner_visit_p1, ref19_assigner_visit_p2, ref19_assigner_visit_p3, ref19_assigner_visit_p4, ref19_assigner_visit_p6, ref19_assigner_visit_p7, ref19_assigner_visit_p8, ref19_assigner_visit_p9, ref19_assigner_visit_p10, ref19_assigner_visit_p11, ref19_assigner_visit_p12, ref19_assigner_visit_p13, ref19_assigner_visit, List.length_map, encI_length, hc]
    by_cases he : i = vs.length
    · rw [bif_pos (by simp; omega), he, List.drop_length]
      refine ⟨⟨by simpa [srch] using hu, by simp [srch]⟩, fun _ => by simp [srch], fun h => by simp [srch] at h, fun h => by simp [srch] at h⟩
    · rw [bif_neg (by simp; omega)]
      have hg : vs[i]? = some vs[i] := List.getElem?_eq_getElem (by omega)
      generalize vs[i] = v at hg
      have hok := hv v (List.mem_of_getElem? hg)
      have htr : v.tr.length ≤ 8 := by simp only [Vis.ok, Bool.and_eq_true, decide_eq_true_eq] at hok; omega
      have hdr : vs.drop i = v :: vs.drop (i + 1) := by
        rw [List.drop_eq_getElem_cons (by omega)]
        congr 1
        have := List.getElem?_eq_getElem (l := vs) (i := i) (by omega)
        rw [hg] at this
        injection this with this
        exact this.symm
      rw [rowAt_get hg]
      simp -implicitDefEqProofs only [Vis.enc, gb_some_eq, List.getElem?_cons_zero, List.getElem?_cons_succ, pSl_s, encI_length]
      rw [hdr]
      obtain ⟨r, e1, e2, e3, e4, e5⟩ := visit_r6 n hn t b ht hb vs hv hl (ref19_assigner_visit_F n d) i v hg (visitsAt n hn t b ht hb vs hv hl d (i + 1) (by omega) (by omega)) c hc hpc
        (fun w0 w1 w2 w3 w4 w5 w6 => some (w0, w1, w2, w3, w4, w5, w6)) (fun _ _ w128 w129 w130 w131 w132 w133 => gb true (slB3 (List.length w133) none (some (i : Int)) (some (i : Int))) (0, 0) fun q134 => some (false, w128, w129, w130, w131, w132, cut w133 q134)) v.tr 0 n c u rfl (by omega) (by omega) (by rw [← hc]; exact List.take_length) h0 hu
      have hr : srch t b (v :: vs.drop (i + 1)) ((vs.take i).zip c) u = r := by rw [e1]; rfl
      rw [hr]
      refine ⟨e2, fun h => e3 h, fun h => ?_, fun h => e5 h⟩
      obtain ⟨c3, f1, f2, f3⟩ := e4 h
      refine Eq.trans f3 ?_
      rw [encI_length, slB3_take f2, gb_some_eq, cut_take, encI_take, f1]

theorem assignB (n : Nat) (hn : 16 < n) (t b : Int) (vs : List Vis) (K : List (List D) → Int → Int → Option R) : ref19_Assign n t (vs.map Vis.enc) b K = K (encI (assign t vs b).1) (assign t vs b).2.1 (assign t vs b).2.2 := by
  simp -implicitDefEqProofs only [ref19_Assign, ref19_Assign_p1, validB n hn, in19, gb_some_eq, List.length_map]
  cases hv : visValid t vs with
  | false => simp [assign, hv]; rfl
  | true =>
    have h := hv
    simp only [visValid, Bool.and_eq_true, decide_eq_true_eq, List.all_eq_true] at h
    simp -implicitDefEqProofs only [Bool.not_true, cond_false]
    by_cases hb : b < 1 ∨ 1048576 < b
    · rw [bif_pos (by simp; omega)]
      simp [assign, hv, hb]; rfl
    · rw [bif_neg (by simp; omega)]
      obtain ⟨g1, g2, g3, g4⟩ := visitsAt n hn t b ⟨h.1.1, h.1.2.1⟩ (by omega) vs h.2 h.1.2.2 n 0 (by omega) (by omega) [] 0 rfl rfl (by omega) (by omega)
      simp only [List.drop_zero, List.take_zero, List.zip_nil_left, List.nil_append] at g1 g2 g3 g4
      rcases srch_err t b vs [] 0 with h0 | h0 | h0
      · rw [show ref19_assigner_visit_F n n t (vs.map Vis.enc) b 0 false [] = _ from g2 h0]
        simp -implicitDefEqProofs only [gb_some_eq, cond_true]
        simp [assign, hv, hb, h0]
      · rw [show ref19_assigner_visit_F n n t (vs.map Vis.enc) b 0 false [] = _ from g3 h0]
        simp -implicitDefEqProofs only [gb_some_eq, cond_false]
        simp [assign, hv, hb, h0]; rfl
      · obtain ⟨u', c', hq⟩ := g4 h0
        rw [show ref19_assigner_visit_F n n t (vs.map Vis.enc) b 0 false [] = _ from hq]
        simp -implicitDefEqProofs only [gb_some_eq, cond_false, cond_true]
        simp [assign, hv, hb, h0]; rfl
end
end Go.Vx
/-
  Plain laws of platform: Explain.
-/
set_option linter.unusedSimpArgs false
set_option linter.unusedVariables false
namespace Go.Vx
section
variable {R : Type}

def encB (l : List Bool) : List (List D) := l.map fun b => [D.bool b]
theorem encB_length (l : List Bool) : (encB l).length = l.length := by simp [encB]
theorem encB_row {l : List Bool} {i : Nat} {b : Bool} (h : l[i]? = some b) : rowAt (encB l) (i : Int) = some [.bool b] := rowAt_get h
theorem encB_get? {l : List Bool} {i : Nat} {b : Bool} (h : l[i]? = some b) : (encB l)[i]? = some [.bool b] := by unfold encB; rw [List.getElem?_map, h]; rfl
theorem encB_set (l : List Bool) (i : Nat) (x y : Bool) : List.set (encB l) i (List.set [D.bool y] 0 (D.bool x)) = encB (l.set i x) := by unfold encB; rw [List.map_set]; rfl

def idx : Nat → List Bool → List Int
  | _, [] => []
  | i, b :: r => (bif b then [(i : Int)] else []) ++ idx (i + 1) r
theorem idx_append : ∀ (a b : List Bool) (i : Nat), idx i (a ++ b) = idx i a ++ idx (i + a.length) b
  | [], b, i => by simp [idx]
  | x :: a, b, i => by
    simp only [List.cons_append, idx, idx_append a b (i + 1), List.append_assoc, List.length_cons]
    rw [show i + 1 + a.length = i + (a.length + 1) by omega]
theorem idx_mem : ∀ {l : List Bool} {i : Nat} {j : Int}, j ∈ idx i l → (i : Int) ≤ j ∧ j < i + l.length
  | x :: l, i, j, h => by
    simp only [idx, List.mem_append] at h
    rcases h with h | h
    · cases x <;> simp at h; subst h; simp; omega
    · have := idx_mem h; simp at this ⊢; omega
theorem idx_len : ∀ (l : List Bool) (i : Nat), (idx i l).length ≤ l.length
  | [], i => by simp [idx]
  | x :: l, i => by have := idx_len l (i + 1); cases x <;> simp [idx] <;> omega

def rangeI (i k : Nat) : List Int := idx i (List.replicate k true)
theorem rangeI_succ (i k : Nat) : rangeI i (k + 1) = (i : Int) :: rangeI (i + 1) k := by simp [rangeI, List.replicate_succ, idx]

theorem flat_encI (l : List Int) : flatRs [encI l] = some () := by
  unfold flatRs
  rw [bif_pos]
  simp only [List.all_cons, List.all_nil, Bool.and_true, flatR, encI, List.all_map, List.all_eq_true]
  intro x _
  rfl

theorem members_r5 (n : Nat) (l : List Bool) (hl : l.length ≤ 1000) (k0 : Int → Bool → List (List D) → Option R) : ∀ (suf : List Bool) (i m : Nat) (acc : List Int), l.drop i = suf → i ≤ l.length → suf.length < m → acc.length ≤ i →
    platform_members_r5 n (encB l) l.length k0 m i (encI acc) = k0 l.length false (encI (acc ++ idx i suf))
  | [], i, m, acc, hd, hi, hm, ha => by
    have := drop_nil hd
    have hie : i = l.length := by omega
    obtain ⟨m, rfl⟩ : ∃ m', m = m' + 1 := ⟨m - 1, by omega⟩
    rw [platform_members_r5]
    unfold platform_members_p4
    rw [bif_neg (by simp; omega), hie]
    simp [idx]
  | b :: suf, i, m, acc, hd, hi, hm, ha => by
    obtain ⟨h1, h2, h3⟩ := drop_cons hd
    obtain ⟨m, rfl⟩ : ∃ m', m = m' + 1 := ⟨m - 1, by omega⟩
    rw [platform_members_r5]
    unfold platform_members_p4
    rw [bif_pos (by simpa using h3), encB_row h1]
    simp -implicitDefEqProofs only [gb_some_eq, List.getElem?_cons_zero, pBool_b]
    rw [wrap64' (by omega) (by omega), show ((i : Int) + 1) = ((i + 1 : Nat) : Int) from rfl]
    cases b with
    | true =>
      rw [room_ok (by simp [encI_length]; omega), encI_snoc]
      simp -implicitDefEqProofs only [gb_some_eq, cond_true]
      rw [members_r5 n l hl k0 suf (i + 1) m (acc ++ [(i : Int)]) h2 (by omega) (by simp at hm; omega) (by simp; omega)]
      simp [idx]
    | false =>
      simp -implicitDefEqProofs only [cond_false]
      rw [members_r5 n l hl k0 suf (i + 1) m acc h2 (by omega) (by simp at hm; omega) (by omega)]
      simp [idx]

theorem membersA (n : Nat) (l : List Bool) (hl : l.length ≤ 1000) (hn : l.length < n) (K : List (List D) → Option R) : platform_members n (encB l) K = K (encI (idx 0 l)) := by
  simp -implicitDefEqProofs only [platform_members_p1, platform_members_p2, platform_members_p3, platform_members_p5, platform_members_p6, platform_members_p7, platform_members_p8, platform_members_p9, platform_members_p10, platform_members_p11, platform_members, encB_length]
  exact members_r5 n l hl _ l 0 n [] rfl (by omega) (by omega) (by simp)

def pickV (vs : List Vis) (l : List Int) : List Vis := l.filterMap fun j => vs[j.toNat]?
theorem pickV_len (vs : List Vis) (l : List Int) : (pickV vs l).length ≤ l.length := List.length_filterMap_le _ _
theorem pickV_mem {vs : List Vis} {l : List Int} {v : Vis} (h : v ∈ pickV vs l) : v ∈ vs := by
  obtain ⟨j, _, hj⟩ := List.mem_filterMap.1 h
  exact List.mem_of_getElem? hj

theorem explain_r20 (n : Nat) (t : Int) (vs : List Vis) (b x1 x2 x3 : Int) (w163 : List (List D)) (l : List Int) (hl : l.length ≤ 1000) (hin : ∀ j ∈ l, 0 ≤ j ∧ j < vs.length) (k0 : Int → Bool → List (List D) → Option R) : ∀ (suf : List Int) (i m : Nat) (acc : List Vis), l.drop i = suf → i ≤ l.length → suf.length < m → acc.length ≤ i →
    platform_Explain_r20 n t (vs.map Vis.enc) b x1 x2 x3 l.length w163 (encI l) k0 m i (acc.map Vis.enc) = k0 l.length false ((acc ++ pickV vs suf).map Vis.enc)
  | [], i, m, acc, hd, hi, hm, ha => by
    have := drop_nil hd
    have hie : i = l.length := by omega
    obtain ⟨m, rfl⟩ : ∃ m', m = m' + 1 := ⟨m - 1, by omega⟩
    rw [platform_Explain_r20]
    unfold platform_Explain_p19
    rw [bif_neg (by simp; omega), hie]
    simp [pickV]
  | j :: suf, i, m, acc, hd, hi, hm, ha => by
    obtain ⟨h1, h2, h3⟩ := drop_cons hd
    obtain ⟨m, rfl⟩ : ∃ m', m = m' + 1 := ⟨m - 1, by omega⟩
    obtain ⟨hj0, hj1⟩ := hin j (List.mem_of_getElem? h1)
    obtain ⟨v, hv⟩ : ∃ v, vs[j.toNat]? = some v := ⟨vs[j.toNat], List.getElem?_eq_getElem (by omega)⟩
    rw [platform_Explain_r20]
    unfold platform_Explain_p19
    rw [bif_pos (by simpa using h3), inB_ok (by omega) (by simp [encI_length]; omega), Int.toNat_natCast, encI_get? h1]
    simp -implicitDefEqProofs only [gb_some_eq, List.getElem?_cons_zero, pInt_i64]
    rw [rowAt_int hj0 hv, wrap64' (by omega) (by omega), show ((i : Int) + 1) = ((i + 1 : Nat) : Int) from rfl]
    simp -implicitDefEqProofs only [Vis.enc, gb_some_eq, List.getElem?_cons_zero, List.getElem?_cons_succ]
    rw [room_ok (by simp; omega)]
    simp -implicitDefEqProofs only [gb_some_eq]
    have ih := explain_r20 n t vs b x1 x2 x3 w163 l hl hin k0 suf (i + 1) m (acc ++ [v]) h2 (by omega) (by simp at hm; omega) (by simp; omega)
    rw [show pickV vs (j :: suf) = v :: pickV vs suf by simp [pickV, hv]]
    rw [List.map_append] at ih
    refine Eq.trans ih ?_
    simp

/-! the search for members -/

def expl (t b : Int) (vs : List Vis) : List Int → List Int → Int → Int × Int × List Int
  | kept, [], u => (0, u, kept)
  | kept, i :: rest, u => if u = b then (15, 0, []) else
      if (assign t (pickV vs (kept ++ rest)) (b - u)).2.2 = 0 then expl t b vs (kept ++ [i]) rest (u + (assign t (pickV vs (kept ++ rest)) (b - u)).2.1)
      else if (assign t (pickV vs (kept ++ rest)) (b - u)).2.2 = 14 then expl t b vs kept rest (u + (assign t (pickV vs (kept ++ rest)) (b - u)).2.1)
      else ((assign t (pickV vs (kept ++ rest)) (b - u)).2.2, 0, [])

theorem assign_err {t b : Int} {vs : List Vis} (hv : visValid t vs = true) (hb : 1 ≤ b ∧ b ≤ 1048576) : ((assign t vs b).2.2 = 0 ∨ (assign t vs b).2.2 = 14 ∨ (assign t vs b).2.2 = 15) ∧ 0 ≤ (assign t vs b).2.1 ∧ (assign t vs b).2.1 ≤ b := by
  have h := hv
  simp only [visValid, Bool.and_eq_true, decide_eq_true_eq, List.all_eq_true] at h
  have hbb : ¬ (b < 1 ∨ 1048576 < b) := by omega
  obtain ⟨g1, _⟩ := visitsAt 17 (by omega) t b ⟨h.1.1, h.1.2.1⟩ (by omega) vs h.2 h.1.2.2 17 0 (by omega) (by omega) [] 0 rfl rfl (by omega) (by omega)
  simp only [List.drop_zero, List.take_zero, List.zip_nil_left] at g1
  rcases srch_err t b vs [] 0 with h0 | h0 | h0 <;> simp [assign, hv, hbb, h0] <;> omega

theorem pickV_valid {t : Int} {vs : List Vis} (hv : visValid t vs = true) {l : List Int} (hl : l.length ≤ 16) : visValid t (pickV vs l) = true := by
  simp only [visValid, Bool.and_eq_true, decide_eq_true_eq, List.all_eq_true] at hv ⊢
  exact ⟨by have := pickV_len vs l; omega, fun v h => hv.2 v (pickV_mem h)⟩

def explain (t : Int) (vs : List Vis) (b : Int) : List Int × Int × Int :=
  if (assign t vs b).2.2 = 0 then ([], 0, 6) else if (assign t vs b).2.2 = 14 then
    ((expl t b vs [] (rangeI 0 vs.length) (assign t vs b).2.1).2.2, (expl t b vs [] (rangeI 0 vs.length) (assign t vs b).2.1).2.1, (expl t b vs [] (rangeI 0 vs.length) (assign t vs b).2.1).1)
  else ([], 0, (assign t vs b).2.2)

theorem explain_r34 (n : Nat) (hn : 16 < n) (t b : Int) (hb : b ≤ 1048576) (vs : List Vis) (hv : visValid t vs = true) (k0 : Int → Option R) (k1 : Int → Int → Bool → List (List D) → Option R) : ∀ (k m : Nat) (A : List Bool) (u : Int), A.length + k = vs.length → k < m → 0 ≤ u → u ≤ b →
    ∃ r : Int × Int × List Int, r = expl t b vs (idx 0 A) (rangeI A.length k) u ∧
      (r.1 = 0 → ∃ A' : List Bool, A'.length = vs.length ∧ idx 0 A' = r.2.2 ∧ platform_Explain_r34 n t (vs.map Vis.enc) b vs.length k0 k1 m u A.length (encB (A ++ List.replicate k true)) = k1 r.2.1 vs.length false (encB A')) ∧
      (r.1 ≠ 0 → platform_Explain_r34 n t (vs.map Vis.enc) b vs.length k0 k1 m u A.length (encB (A ++ List.replicate k true)) = k0 r.1 ∧ r.2 = (0, []))
  | 0, m, A, u, hk, hm, h0, hu => by
    have hvv := hv
    simp only [visValid, Bool.and_eq_true, decide_eq_true_eq, List.all_eq_true] at hvv
    obtain ⟨m, rfl⟩ : ∃ m', m = m' + 1 := ⟨m - 1, by omega⟩
    refine ⟨_, rfl, fun _ => ⟨A, by omega, rfl, ?_⟩, fun h => absurd rfl h⟩
    rw [platform_Explain_r34]
    unfold platform_Explain_p33
    simp -implicitDefEqProofs only [platform_Explain_p12, platform_Explain_p13, platform_Explain_p14, platform_Explain_p15, platform_Explain_p16, platform_Explain_p17, platform_Explain_p18, platform_Explain_p20, platform_Explain_p21, platform_Explain_p22, platform_Explain_p23, platform_Explain_p24, platform_Explain_p25, platform_Explain_p26, platform_Explain_p27, platform_Explain_p28, platform_Explain_p29, platform_Explain_p30, platform_Explain_p31, platform_Explain_p32]
    rw [bif_neg (by simp; omega)]
    have : A.length = vs.length := by omega
    simp [this, expl, rangeI, idx]
  | k + 1, m, A, u, hk, hm, h0, hu => by
    have hvv := hv
    simp only [visValid, Bool.and_eq_true, decide_eq_true_eq, List.all_eq_true] at hvv
    obtain ⟨m, rfl⟩ : ∃ m', m = m' + 1 := ⟨m - 1, by omega⟩
    have hrun : platform_Explain_r34 n t (vs.map Vis.enc) b vs.length k0 k1 (m + 1) u A.length (encB (A ++ List.replicate (k + 1) true)) =
        bif u == b then k0 15 else
          bif (assign t (pickV vs (idx 0 A ++ rangeI (A.length + 1) k)) (b - u)).2.2 == 15 then k0 (assign t (pickV vs (idx 0 A ++ rangeI (A.length + 1) k)) (b - u)).2.2
          else platform_Explain_r34 n t (vs.map Vis.enc) b vs.length k0 k1 m (IntKind.wrap .i64 (u + (assign t (pickV vs (idx 0 A ++ rangeI (A.length + 1) k)) (b - u)).2.1)) ((A.length + 1 : Nat) : Int) (encB (A ++ ((assign t (pickV vs (idx 0 A ++ rangeI (A.length + 1) k)) (b - u)).2.2 == 0) :: List.replicate k true)) := by
      rw [platform_Explain_r34]
      unfold platform_Explain_p33
      simp -implicitDefEqProofs only [platform_Explain_p12, platform_Explain_p13, platform_Explain_p14, platform_Explain_p15, platform_Explain_p16, platform_Explain_p17, platform_Explain_p18, platform_Explain_p20, platform_Explain_p21, platform_Explain_p22, platform_Explain_p23, platform_Explain_p24, platform_Explain_p25, platform_Explain_p26, platform_Explain_p27, platform_Explain_p28, platform_Explain_p29, platform_Explain_p30, platform_Explain_p31, platform_Explain_p32]
      rw [bif_pos (by simp; omega)]
      have hget : (A ++ List.replicate (k + 1) true)[A.length]? = some true := by rw [List.getElem?_append_right (Nat.le_refl _)]; simp
      have hset : ∀ x : Bool, (A ++ List.replicate (k + 1) true).set A.length x = A ++ x :: List.replicate k true := by intro x; rw [List.set_append_right _ _ (Nat.le_refl _)]; simp [List.replicate_succ]
      have hset2 : ∀ x : Bool, (A ++ false :: List.replicate k true).set A.length x = A ++ x :: List.replicate k true := by intro x; rw [List.set_append_right _ _ (Nat.le_refl _)]; simp
      have hget2 : (A ++ false :: List.replicate k true)[A.length]? = some false := by rw [List.getElem?_append_right (Nat.le_refl _)]; simp
      rw [inB_ok (by omega) (by simp [encB_length]; omega), Int.toNat_natCast, encB_get? hget]
      simp -implicitDefEqProofs only [gb_some_eq, encB_set, hset]
      rw [membersA n _ (by simp; omega) (by simp; omega)]
      have hidx : idx 0 (A ++ false :: List.replicate k true) = idx 0 A ++ rangeI (A.length + 1) k := by rw [idx_append]; simp [idx, rangeI]
      simp -implicitDefEqProofs only [gb_some_eq, flat_encI, hidx, encI_length]
      have hin : ∀ j ∈ idx 0 A ++ rangeI (A.length + 1) k, 0 ≤ j ∧ j < vs.length := by
        intro j hj
        rw [← hidx] at hj
        have := idx_mem hj
        simp at this
        omega
      have hle : (idx 0 A ++ rangeI (A.length + 1) k).length ≤ 16 := by
        rw [← hidx]
        have := idx_len (A ++ false :: List.replicate k true) 0
        simp at this
        omega
      have hr20 := fun (k9 : Int → Bool → List (List D) → Option R) w163 => explain_r20 n t vs b u A.length vs.length w163 (idx 0 A ++ rangeI (A.length + 1) k) (by omega) hin k9 (idx 0 A ++ rangeI (A.length + 1) k) 0 n [] rfl (by omega) (by omega) (by simp)
      rw [show (0 : Int) = ((0 : Nat) : Int) from rfl, show ([] : List (List D)) = ([] : List Vis).map Vis.enc from rfl, hr20]
      simp -implicitDefEqProofs only [List.nil_append]
      rw [wrap64' (x := b - u) (by omega) (by omega), assignA n hn]
      simp -implicitDefEqProofs only [gb_some_eq]
      rw [inB_ok (by omega) (by simp [encB_length]; omega), encB_get? hget2, wrap64' (x := (A.length : Int) + 1) (by omega) (by omega)]
      simp -implicitDefEqProofs only [gb_some_eq, encB_set, hset2]
      rfl
    rw [hrun]
    rw [rangeI_succ]
    by_cases hub : u = b
    · refine ⟨(15, 0, []), by simp [expl, hub], fun h => by simp at h, fun _ => ⟨?_, rfl⟩⟩
      rw [bif_pos (by simpa using hub)]
    · rw [bif_neg (by simpa using hub)]
      have hle : (idx 0 A ++ rangeI (A.length + 1) k).length ≤ 16 := by
        have h1 := idx_len A 0
        have h2 := idx_len (List.replicate k true) (A.length + 1)
        simp [rangeI] at h2 ⊢
        omega
      obtain ⟨e1, e2, e3⟩ := assign_err (pickV_valid hv hle) (b := b - u) (by omega)
      generalize ha : assign t (pickV vs (idx 0 A ++ rangeI (A.length + 1) k)) (b - u) = a at e1 e2 e3
      rw [wrap64' (by omega) (by omega)]
      rcases e1 with e | e | e
      · obtain ⟨r, q1, q2, q3⟩ := explain_r34 n hn t b hb vs hv k0 k1 k m (A ++ [true]) (u + a.2.1) (by simp; omega) (by omega) (by omega) (by omega)
        have hi : idx 0 (A ++ [true]) = idx 0 A ++ [(A.length : Int)] := by rw [idx_append]; simp [idx]
        simp only [List.length_append, List.length_cons, List.length_nil, List.append_assoc, List.cons_append, List.nil_append, Nat.zero_add, hi] at q1 q2 q3
        have hb1 : (a.2.2 == 15) = false := by rw [e]; rfl
        have hb2 : (a.2.2 == 0) = true := by rw [e]; rfl
        rw [hb1, hb2]
        exact ⟨r, by rw [q1]; simp [expl, hub, ha, e], q2, q3⟩
      · obtain ⟨r, q1, q2, q3⟩ := explain_r34 n hn t b hb vs hv k0 k1 k m (A ++ [false]) (u + a.2.1) (by simp; omega) (by omega) (by omega) (by omega)
        have hi : idx 0 (A ++ [false]) = idx 0 A := by rw [idx_append]; simp [idx]
        simp only [List.length_append, List.length_cons, List.length_nil, List.append_assoc, List.cons_append, List.nil_append, Nat.zero_add, hi] at q1 q2 q3
        have hb1 : (a.2.2 == 15) = false := by rw [e]; rfl
        have hb2 : (a.2.2 == 0) = false := by rw [e]; rfl
        rw [hb1, hb2]
        exact ⟨r, by rw [q1]; simp [expl, hub, ha, e], q2, q3⟩
      · have hb1 : (a.2.2 == 15) = true := by rw [e]; rfl
        rw [hb1]
        refine ⟨(15, 0, []), by simp [expl, hub, ha, e], fun h => by simp at h, fun _ => ⟨?_, rfl⟩⟩
        rw [e]; rfl
end
end Go.Vx
/-
  Plain laws: Explain on both sides.
-/
set_option linter.unusedSimpArgs false
set_option linter.unusedVariables false
namespace Go.Vx
section
variable {R : Type}

theorem explain_r8 (n : Nat) (t : Int) (V : List (List D)) (b w : Int) (N : Nat) (hN : N ≤ 1000) (k0 : Int → Bool → List (List D) → Option R) : ∀ (k i m : Nat), i + k = N → k < m →
    platform_Explain_r8 n t V b w N k0 m i (encB (List.replicate i true ++ List.replicate k false)) = k0 N false (encB (List.replicate N true))
  | 0, i, m, hi, hm => by
    obtain ⟨m, rfl⟩ : ∃ m', m = m' + 1 := ⟨m - 1, by omega⟩
    have : i = N := by omega
    subst this
    rw [platform_Explain_r8]
    unfold platform_Explain_p7
    rw [bif_neg (by simp)]
    simp
  | k + 1, i, m, hi, hm => by
    obtain ⟨m, rfl⟩ : ∃ m', m = m' + 1 := ⟨m - 1, by omega⟩
    have hget : (List.replicate i true ++ List.replicate (k + 1) false)[i]? = some false := by rw [List.getElem?_append_right (by simp)]; simp
    have hset : (List.replicate i true ++ List.replicate (k + 1) false).set i true = List.replicate (i + 1) true ++ List.replicate k false := by
      rw [List.set_append_right _ _ (by simp)]
      rw [List.replicate_succ' (n := i)]
      simp [List.replicate_succ]
    rw [platform_Explain_r8]
    unfold platform_Explain_p7
    rw [bif_pos (by simp; omega), inB_ok (by omega) (by simp [encB_length]; omega), Int.toNat_natCast, encB_get? hget]
    simp -implicitDefEqProofs only [gb_some_eq, encB_set, hset]
    rw [wrap64' (by omega) (by omega), show ((i : Int) + 1) = ((i + 1 : Nat) : Int) from rfl]
    exact explain_r8 n t V b w N hN k0 k (i + 1) m (by omega) (by omega)

theorem explain_loop (n : Nat) (hn : 16 < n) (t b : Int) (hb : b ≤ 1048576) (vs : List Vis) (hv : visValid t vs = true) (u : Int) (h0 : 0 ≤ u) (hu : u ≤ b) (k0 : Int → Option R) (k1 : Int → Int → Bool → List (List D) → Option R) (kx : Int → List Int → Option R)
    (hk : ∀ u A', A'.length = vs.length → k1 u vs.length false (encB A') = kx u (idx 0 A')) :
    platform_Explain_r34 n t (vs.map Vis.enc) b vs.length k0 k1 n u 0 (encB (List.replicate vs.length true)) =
      if (expl t b vs [] (rangeI 0 vs.length) u).1 = 0 then kx (expl t b vs [] (rangeI 0 vs.length) u).2.1 (expl t b vs [] (rangeI 0 vs.length) u).2.2 else k0 (expl t b vs [] (rangeI 0 vs.length) u).1 := by
  have hvv := hv
  simp only [visValid, Bool.and_eq_true, decide_eq_true_eq, List.all_eq_true] at hvv
  obtain ⟨r, q1, q2, q3⟩ := explain_r34 n hn t b hb vs hv k0 k1 vs.length n [] u (by simp) (by omega) h0 hu
  simp only [List.length_nil, List.nil_append, idx] at q1 q2 q3
  rw [← q1]
  by_cases h : r.1 = 0
  · obtain ⟨A', a1, a2, a3⟩ := q2 h
    rw [if_pos h, ← a2, ← hk _ _ a1]
    exact a3
  · rw [if_neg h]
    exact (q3 h).1

theorem expl_err {t b : Int} {vs : List Vis} : ∀ (rest kept : List Int) (u : Int), (expl t b vs kept rest u).1 ≠ 0 → (expl t b vs kept rest u).2 = (0, [])
  | [], kept, u, h => by simp [expl] at h
  | i :: rest, kept, u, h => by
    simp only [expl] at h ⊢
    split at h
    · rw [if_pos (by assumption)]
    · rw [if_neg (by assumption)]
      split at h
      · rw [if_pos (by assumption)]; exact expl_err rest _ _ h
      · rw [if_neg (by assumption)]
        split at h
        · rw [if_pos (by assumption)]; exact expl_err rest _ _ h
        · rw [if_neg (by assumption)]

theorem assign_14 {t b : Int} {vs : List Vis} (h : (assign t vs b).2.2 = 14) : visValid t vs = true ∧ 1 ≤ b ∧ b ≤ 1048576 := by
  unfold assign at h
  split at h
  · simp at h
  · rename_i hv
    split at h
    · simp at h
    · exact ⟨by simpa using hv, by omega, by omega⟩

theorem explainA (n : Nat) (hn : 16 < n) (t b : Int) (vs : List Vis) (K : List (List D) → Int → Int → Option R) : platform_Explain n t (vs.map Vis.enc) b K = K (encI (explain t vs b).1) (explain t vs b).2.1 (explain t vs b).2.2 := by
  simp -implicitDefEqProofs only [platform_Explain, platform_Explain_p1, platform_Explain_p2, platform_Explain_p3, platform_Explain_p4, platform_Explain_p5, platform_Explain_p6, platform_Explain_p8, platform_Explain_p9, platform_Explain_p10, platform_Explain_p11, platform_Explain_p34, platform_Explain_p35, platform_Explain_p36, platform_Explain_p37, platform_Explain_p38, platform_Explain_p39, platform_Explain_p40, platform_Explain_p41, platform_Explain_p42, platform_Explain_p43, platform_Explain_p44, assignA n hn, gb_some_eq, List.length_map]
  by_cases h0 : (assign t vs b).2.2 = 0
  · rw [bif_pos (by simpa using h0)]
    simp [explain, h0]; rfl
  · rw [bif_neg (by simpa using h0)]
    by_cases h14 : (assign t vs b).2.2 = 14
    · obtain ⟨hv, hb1, hb2⟩ := assign_14 h14
      have hvv := hv
      simp only [visValid, Bool.and_eq_true, decide_eq_true_eq, List.all_eq_true] at hvv
      obtain ⟨_, e2, e3⟩ := assign_err hv ⟨hb1, hb2⟩
      rw [bif_neg (by simp [h14]), bif_pos (by simp), room_ok (by simp; omega)]
      simp -implicitDefEqProofs only [gb_some_eq, Int.toNat_natCast, List.length_replicate]
      have hrep : List.replicate vs.length [D.bool false] = encB (List.replicate 0 true ++ List.replicate vs.length false) := by simp [encB]
      rw [hrep, show (0 : Int) = ((0 : Nat) : Int) from rfl, explain_r8 n t _ b _ vs.length (by omega) _ vs.length 0 n (by omega) (by omega)]
      simp -implicitDefEqProofs only [encB_length, List.length_replicate]
      rw [show ((0 : Nat) : Int) = (0 : Int) from rfl, explain_loop n hn t b hb2 vs hv _ e2 e3 _ _ (fun u l => K (encI l) u 0) (fun u A' h => by rw [membersA n A' (by omega) (by omega), gb_some_eq])]
      by_cases he : (expl t b vs [] (rangeI 0 vs.length) (assign t vs b).2.1).1 = 0
      · rw [if_pos he]
        simp [explain, h14, he]
      · rw [if_neg he]
        have := expl_err _ _ _ he
        simp [explain, h14, this]; rfl
    · rw [bif_pos (by simpa using h14)]
      simp [explain, h0, h14]; rfl

/-! the reference -/

theorem some_r5 (n : Nat) (vs : List Vis) (l : List Int) (hl : l.length ≤ 1000) (hin : ∀ j ∈ l, 0 ≤ j ∧ j < vs.length) (k0 : Int → Bool → List (List D) → Option R) : ∀ (suf : List Int) (i m : Nat) (acc : List Vis), l.drop i = suf → i ≤ l.length → suf.length < m → acc.length ≤ i →
    ref19_some_r5 n (vs.map Vis.enc) (encI l) l.length k0 m i (acc.map Vis.enc) = k0 l.length false ((acc ++ pickV vs suf).map Vis.enc)
  | [], i, m, acc, hd, hi, hm, ha => by
    have := drop_nil hd
    have hie : i = l.length := by omega
    obtain ⟨m, rfl⟩ : ∃ m', m = m' + 1 := ⟨m - 1, by omega⟩
    rw [ref19_some_r5]
    unfold ref19_some_p4
    rw [bif_neg (by simp; omega), hie]
    simp [pickV]
  | j :: suf, i, m, acc, hd, hi, hm, ha => by
    obtain ⟨h1, h2, h3⟩ := drop_cons hd
    obtain ⟨m, rfl⟩ : ∃ m', m = m' + 1 := ⟨m - 1, by omega⟩
    obtain ⟨hj0, hj1⟩ := hin j (List.mem_of_getElem? h1)
    obtain ⟨v, hv⟩ : ∃ v, vs[j.toNat]? = some v := ⟨vs[j.toNat], List.getElem?_eq_getElem (by omega)⟩
    rw [ref19_some_r5]
    unfold ref19_some_p4
    rw [bif_pos (by simpa using h3), encI_get h1]
    simp -implicitDefEqProofs only [gb_some_eq, List.getElem?_cons_zero, pInt_i64]
    rw [rowAt_int hj0 hv, wrap64' (by omega) (by omega), show ((i : Int) + 1) = ((i + 1 : Nat) : Int) from rfl]
    simp -implicitDefEqProofs only [Vis.enc, gb_some_eq, List.getElem?_cons_zero, List.getElem?_cons_succ]
    rw [room_ok (by simp; omega)]
    simp -implicitDefEqProofs only [gb_some_eq]
    have ih := some_r5 n vs l hl hin k0 suf (i + 1) m (acc ++ [v]) h2 (by omega) (by simp at hm; omega) (by simp; omega)
    rw [show pickV vs (j :: suf) = v :: pickV vs suf by simp [pickV, hv]]
    rw [List.map_append] at ih
    refine Eq.trans ih ?_
    simp

theorem someB (n : Nat) (vs : List Vis) (l : List Int) (hl : l.length ≤ 1000) (hn : l.length < n) (hin : ∀ j ∈ l, 0 ≤ j ∧ j < vs.length) (K : List (List D) → Option R) : ref19_some n (vs.map Vis.enc) (encI l) K = K ((pickV vs l).map Vis.enc) := by
  simp -implicitDefEqProofs only [ref19_some_p1, ref19_some_p2, ref19_some_p3, ref19_some_p5, ref19_some_p6, ref19_some_p7, ref19_some_p8, ref19_some_p9, ref19_some_p10, ref19_some_p11, ref19_some, encI_length]
  exact some_r5 n vs l hl hin _ l 0 n [] rfl (by omega) (by omega) (by simp)

theorem slB_drop {len i : Nat} (h : i ≤ len) : slB len (some (i : Int)) none = some (i, len) := by
  simp only [slB, Option.getD_none, Option.getD_some]
  rw [bif_pos (by simp; omega)]
  simp
theorem cut_drop {α : Type} (l : List α) (i : Nat) : cut l (i, l.length) = l.drop i := by
  simp [cut, List.take_of_length_le]

theorem withoutB (n : Nat) (l : List Int) (hl : l.length ≤ 1000) (at_ : Nat) (h : at_ < l.length) (K : List (List D) → Option R) : ref17_Without n (encI l) at_ K = K (encI (l.take at_ ++ l.drop (at_ + 1))) := by
  simp -implicitDefEqProofs only [ref17_Without, ref17_Without_p1, encI_length]
  rw [slB_take (by omega), wrap64' (by omega) (by omega), show ((at_ : Int) + 1) = ((at_ + 1 : Nat) : Int) from rfl, slB_drop (by omega)]
  simp -implicitDefEqProofs only [gb_some_eq, cut_take]
  rw [show (at_ + 1, l.length) = (at_ + 1, (encI l).length) by rw [encI_length], cut_drop, room_ok (by simp [encI_length]; omega), room_ok (by simp [encI_length]; omega)]
  simp -implicitDefEqProofs only [gb_some_eq]
  congr 1
  simp [encI, List.map_take, List.map_drop]

theorem explainB_r8 (n : Nat) (t : Int) (V : List (List D)) (b w : Int) (N : Nat) (hN : N ≤ 1000) (k0 : Int → Bool → List (List D) → Option R) : ∀ (k i m : Nat) (acc : List Int), i + k = N → k < m → acc.length = i →
    ref19_Explain_r8 n t V b w N k0 m i (encI acc) = k0 N false (encI (acc ++ rangeI i k))
  | 0, i, m, acc, hi, hm, ha => by
    obtain ⟨m, rfl⟩ : ∃ m', m = m' + 1 := ⟨m - 1, by omega⟩
    have : i = N := by omega
    rw [ref19_Explain_r8]
    unfold ref19_Explain_p7
    rw [bif_neg (by simp; omega), this]
    simp [rangeI, idx]
  | k + 1, i, m, acc, hi, hm, ha => by
    obtain ⟨m, rfl⟩ : ∃ m', m = m' + 1 := ⟨m - 1, by omega⟩
    rw [ref19_Explain_r8]
    unfold ref19_Explain_p7
    rw [bif_pos (by simp; omega), room_ok (by simp [encI_length]; omega), encI_snoc, wrap64' (by omega) (by omega), show ((i : Int) + 1) = ((i + 1 : Nat) : Int) from rfl]
    simp -implicitDefEqProofs only [gb_some_eq]
    rw [explainB_r8 n t V b w N hN k0 k (i + 1) m (acc ++ [(i : Int)]) (by omega) (by omega) (by simp [ha]), rangeI_succ]
    simp

theorem take_mid {α : Type} (a : List α) (x : α) (b : List α) : (a ++ x :: b).take a.length = a := by simp
theorem drop_mid {α : Type} (a : List α) (x : α) (b : List α) : (a ++ x :: b).drop (a.length + 1) = b := by
  rw [List.drop_append]; simp

theorem explainB_r13 (n : Nat) (hn : 16 < n) (t b : Int) (hb : b ≤ 1048576) (vs : List Vis) (hv : visValid t vs = true) (k0 : Int → Option R) (k1 : Int → List (List D) → Int → Bool → Option R) : ∀ (rest kept : List Int) (m : Nat) (u : Int), rest.length < m → 0 ≤ u → u ≤ b → kept.length + rest.length ≤ 16 → (∀ j ∈ kept ++ rest, 0 ≤ j ∧ j < vs.length) →
    ref19_Explain_r13 n t (vs.map Vis.enc) b k0 k1 m u (encI (kept ++ rest)) kept.length =
      if (expl t b vs kept rest u).1 = 0 then k1 (expl t b vs kept rest u).2.1 (encI (expl t b vs kept rest u).2.2) (expl t b vs kept rest u).2.2.length false else k0 (expl t b vs kept rest u).1
  | [], kept, m, u, hm, h0, hu, hl, hin => by
    obtain ⟨m, rfl⟩ : ∃ m', m = m' + 1 := ⟨m - 1, by omega⟩
    rw [ref19_Explain_r13]
    unfold ref19_Explain_p12
    simp only [List.append_nil, encI_length]
    rw [bif_neg (by simp)]
    simp [expl]
  | i :: rest, kept, m, u, hm, h0, hu, hl, hin => by
    obtain ⟨m, rfl⟩ : ∃ m', m = m' + 1 := ⟨m - 1, by omega⟩
    simp only [List.length_cons] at hm hl
    have hin2 : ∀ j ∈ kept ++ rest, 0 ≤ j ∧ j < vs.length := fun j hj => hin j (by simp at hj ⊢; rcases hj with h | h <;> simp [h])
    rw [ref19_Explain_r13]
    unfold ref19_Explain_p12
    simp only [encI_length]
    rw [bif_pos (by simp; omega), wrap64' (x := b - u) (by omega) (by omega)]
    by_cases hub : u = b
    · rw [bif_pos (by simp; omega)]
      simp [expl, hub]
    · rw [bif_neg (by simp; omega), withoutB n _ (by simp; omega) kept.length (by simp)]
      simp -implicitDefEqProofs only [gb_some_eq, take_mid, drop_mid]
      rw [someB n vs _ (by simp; omega) (by simp; omega) hin2]
      simp -implicitDefEqProofs only [gb_some_eq, assignB n hn]
      obtain ⟨e1, e2, e3⟩ := assign_err (pickV_valid hv (l := kept ++ rest) (by simp; omega)) (b := b - u) (by omega)
      generalize ha : assign t (pickV vs (kept ++ rest)) (b - u) = a at e1 e2 e3
      rw [wrap64' (x := u + a.2.1) (by omega) (by omega), wrap64' (x := (kept.length : Int) + 1) (by omega) (by omega)]
      rcases e1 with e | e | e
      · rw [bif_pos (by rw [e]; rfl)]
        have := explainB_r13 n hn t b hb vs hv k0 k1 rest (kept ++ [i]) m (u + a.2.1) (by omega) (by omega) (by omega) (by simp; omega) (by simpa using hin)
        simp only [List.length_append, List.length_cons, List.length_nil, List.append_assoc, List.cons_append, List.nil_append, Nat.zero_add] at this
        rw [show ((kept.length : Int) + 1) = ((kept.length + 1 : Nat) : Int) from rfl, this]
        simp [expl, hub, ha, e]
      · rw [bif_neg (by rw [e]; rfl), bif_pos (by rw [e]; rfl), explainB_r13 n hn t b hb vs hv k0 k1 rest kept m (u + a.2.1) (by omega) (by omega) (by omega) (by omega) hin2]
        simp [expl, hub, ha, e]
      · rw [bif_neg (by rw [e]; rfl), bif_neg (by rw [e]; rfl)]
        simp [expl, hub, ha, e]

theorem rangeI_len (i k : Nat) : (rangeI i k).length = k := by
  induction k generalizing i with
  | zero => simp [rangeI, idx]
  | succ k ih => rw [rangeI_succ, List.length_cons, ih]
theorem rangeI_mem {i k : Nat} {j : Int} (h : j ∈ rangeI i k) : (i : Int) ≤ j ∧ j < i + k := by
  have := idx_mem h
  simpa using this

theorem explainB (n : Nat) (hn : 16 < n) (t b : Int) (vs : List Vis) (K : List (List D) → Int → Int → Option R) : ref19_Explain n t (vs.map Vis.enc) b K = K (encI (explain t vs b).1) (explain t vs b).2.1 (explain t vs b).2.2 := by
  simp -implicitDefEqProofs only [ref19_Explain, ref19_Explain_p1, ref19_Explain_p2, ref19_Explain_p3, ref19_Explain_p4, ref19_Explain_p5, ref19_Explain_p6, ref19_Explain_p8, ref19_Explain_p9, ref19_Explain_p10, ref19_Explain_p11, ref19_Explain_p13, ref19_Explain_p14, ref19_Explain_p15, ref19_Explain_p16, ref19_Explain_p17, ref19_Explain_p18, ref19_Explain_p19, ref19_Explain_p20, ref19_Explain_p21, ref19_Explain_p22, ref19_Explain_p23, assignB n hn, gb_some_eq, List.length_map]
  by_cases h0 : (assign t vs b).2.2 = 0
  · rw [bif_pos (by simpa using h0)]
    simp [explain, h0]; rfl
  · rw [bif_neg (by simpa using h0)]
    by_cases h14 : (assign t vs b).2.2 = 14
    · obtain ⟨hv, hb1, hb2⟩ := assign_14 h14
      have hvv := hv
      simp only [visValid, Bool.and_eq_true, decide_eq_true_eq, List.all_eq_true] at hvv
      obtain ⟨_, e2, e3⟩ := assign_err hv ⟨hb1, hb2⟩
      rw [bif_neg (by simp [h14]), show (0 : Int) = ((0 : Nat) : Int) from rfl, show ([] : List (List D)) = encI [] from rfl, explainB_r8 n t _ b _ vs.length (by omega) _ vs.length 0 n [] (by omega) (by omega) rfl]
      have := explainB_r13 (R := R) n hn t b hb2 vs hv (fun w => K (encI []) ((0 : Nat) : Int) w) (fun u l _ _ => K l u ((0 : Nat) : Int)) (rangeI 0 vs.length) [] n (assign t vs b).2.1 (by rw [rangeI_len]; omega) e2 e3 (by rw [rangeI_len]; simp; omega) (fun j hj => by have := rangeI_mem (by simpa using hj); omega)
      refine Eq.trans this ?_
      by_cases he : (expl t b vs [] (rangeI 0 vs.length) (assign t vs b).2.1).1 = 0
      · rw [if_pos he]
        simp [explain, h14, he]
      · rw [if_neg he]
        have := expl_err _ _ _ he
        simp [explain, h14, this]
    · rw [bif_pos (by simpa using h14)]
      simp [explain, h0, h14]; rfl
end
end Go.Vx
/-
  The plain laws PlatformRaw, PlatformGenerated.
-/
set_option linter.unusedSimpArgs false
set_option linter.unusedVariables false
namespace Go.Vx
section
variable {R : Type}

theorem sameI_r5 (n : Nat) (l : List Int) (hl : l.length ≤ 1000000) (k0 : Option R) (k1 : Int → Bool → Option R) : ∀ (suf : List Int) (i m : Nat), l.drop i = suf → i ≤ l.length → suf.length < m →
    keep_Same_int_r5 n (encI l) (encI l) l.length k0 k1 m i = k1 l.length false
  | [], i, m, hd, hi, hm => by
    have := drop_nil hd
    have hie : i = l.length := by omega
    obtain ⟨m, rfl⟩ : ∃ m', m = m' + 1 := ⟨m - 1, by omega⟩
    rw [keep_Same_int_r5]
    unfold keep_Same_int_p4
    rw [bif_neg (by simp; omega), hie]
    simp
  | x :: suf, i, m, hd, hi, hm => by
    obtain ⟨h1, h2, h3⟩ := drop_cons hd
    obtain ⟨m, rfl⟩ : ∃ m', m = m' + 1 := ⟨m - 1, by omega⟩
    rw [keep_Same_int_r5]
    unfold keep_Same_int_p4
    rw [bif_pos (by simpa using h3), encI_get h1]
    simp -implicitDefEqProofs only [gb_some_eq, List.getElem?_cons_zero, pInt_i64]
    rw [bif_neg (by simp), wrap64' (by omega) (by omega), show ((i : Int) + 1) = ((i + 1 : Nat) : Int) from rfl]
    exact sameI_r5 n l hl k0 k1 suf (i + 1) m h2 (by omega) (by simp at hm; omega)

theorem sameI (n : Nat) (l : List Int) (hl : l.length ≤ 1000000) (hn : l.length < n) (K : Bool → Option R) : keep_Same_int n (encI l) (encI l) K = K true := by
  simp -implicitDefEqProofs only [keep_Same_int_p1, keep_Same_int_p2, keep_Same_int_p3, keep_Same_int_p5, keep_Same_int_p6, keep_Same_int_p7, keep_Same_int_p8, keep_Same_int_p9, keep_Same_int_p10, keep_Same_int_p11, keep_Same_int, encI_length]
  rw [bif_neg (by simp)]
  exact sameI_r5 n l hl _ _ l 0 n rfl (by omega) (by omega)

theorem tryT_len (b : Int) (ok : Int → Bool) (rec : Int → Int → Int × Int × List Int) (L : Nat) (hr : ∀ x u, (rec x u).2.2.length ≤ L) : ∀ (xs : List Int) (u : Int), (tryT b ok rec xs u).2.2.length ≤ L + 1
  | [], u => by simp [tryT]
  | x :: xs, u => by
    simp only [tryT]
    split
    · simp
    · split
      · split
        · exact tryT_len b ok rec L hr xs _
        · have := hr x (u + 1); simp; omega
      · exact tryT_len b ok rec L hr xs _
theorem srch_len (t b : Int) : ∀ (vs : List Vis) (pre : List (Vis × Int)) (u : Int), (srch t b vs pre u).2.2.length ≤ vs.length
  | [], pre, u => by simp [srch]
  | v :: vs, pre, u => by
    simp only [srch, List.length_cons]
    exact tryT_len b _ _ vs.length (fun x u => srch_len t b vs _ u) v.tr u
theorem assign_len (t b : Int) (vs : List Vis) : (assign t vs b).1.length ≤ 16 := by
  have := srch_len t b vs [] 0
  unfold assign
  split
  · simp
  · rename_i hv
    have hv : visValid t vs = true := by simpa using hv
    simp only [visValid, Bool.and_eq_true, decide_eq_true_eq] at hv
    split
    · simp
    · split
      · simp only; omega
      · split <;> simp
theorem expl_len (t b : Int) (vs : List Vis) : ∀ (rest kept : List Int) (u : Int), (expl t b vs kept rest u).2.2.length ≤ kept.length + rest.length
  | [], kept, u => by simp [expl]
  | i :: rest, kept, u => by
    simp only [expl]
    split
    · simp
    · split
      · have := expl_len t b vs rest (kept ++ [i]) (u + (assign t (pickV vs (kept ++ rest)) (b - u)).2.1); simp at this ⊢; omega
      · split
        · have := expl_len t b vs rest kept (u + (assign t (pickV vs (kept ++ rest)) (b - u)).2.1); simp at this ⊢; omega
        · simp
theorem explain_len (t b : Int) (vs : List Vis) : (explain t vs b).1.length ≤ 16 := by
  unfold explain
  split
  · simp
  · split
    · rename_i h
      obtain ⟨hv, _⟩ := assign_14 h
      simp only [visValid, Bool.and_eq_true, decide_eq_true_eq] at hv
      have := expl_len t b vs (rangeI 0 vs.length) [] (assign t vs b).2.1
      rw [rangeI_len] at this
      simp at this ⊢
      omega
    · simp

theorem dec_vis (r : List D) (h : FitL [.int .i64, .int .i64, .sl [.int .i64]] r) : ∃ v : Vis, r = v.enc ∧ True := by
  obtain ⟨d0, r0, rfl, f0, h⟩ := fitL_cons h
  obtain ⟨d1, r1, rfl, f1, h⟩ := fitL_cons h
  obtain ⟨d2, r2, rfl, f2, h⟩ := fitL_cons h
  have hn := fitL_nil h
  subst hn
  obtain ⟨a, rfl, _⟩ := fit_int f0
  obtain ⟨b, rfl, _⟩ := fit_int f1
  obtain ⟨rows, rfl⟩ := fit_sl f2
  obtain ⟨l, rfl, _, _⟩ := fit_ints f2
  exact ⟨⟨a, b, l⟩, rfl, trivial⟩

theorem agreesA (n : Nat) (hn : 16 < n) (t b : Int) (vs : List Vis) (c : List Int) (K : Bool → Option R) : law20_agrees n t (vs.map Vis.enc) (encI c) b K = K true := by
  have h1 := assign_len t b vs
  have h2 := explain_len t b vs
  simp -implicitDefEqProofs only [law20_agrees, law20_agrees_p1, assignA n hn, assignB n hn, explainA n hn, explainB n hn, validA n hn, validB n hn, properA n hn, properB n hn, gb_some_eq, beq_self_eq_true, cond_true, sameI n _ (show (assign t vs b).1.length ≤ 1000000 by omega) (by omega), sameI n _ (show (explain t vs b).1.length ≤ 1000000 by omega) (by omega)]

theorem rawA (n : Nat) (hn : 64 < n) (t bu : Int) (vs : List Vis) (a b : Vis) (c : List Int) : law20_PlatformRaw n t (vs.map Vis.enc) a.frm a.len (encI a.tr) b.frm b.len (encI b.tr) (encI c) bu some = some true := by
  have htwo : ∀ (R : Type) (K : List (List D) → Option R), law20_two n K = K ([⟨8, 4, [1, 2]⟩, ⟨0, 3, [1]⟩].map Vis.enc) := fun R K => rfl
  simp -implicitDefEqProofs only [law20_PlatformRaw, law20_PlatformRaw_p1, awake20 n (by omega), OverlapA n (by omega), OverlapB n (by omega), gb_some_eq, beq_self_eq_true, cond_true, pickA n _ (show (0 : Int) < 200 by omega) (by omega), agreesA n (by omega), htwo]

theorem gener_r7 (n : Nat) (w3 a3 : Int) (vs : List Vis) (hv : vs.length ≤ 1000) (ch : List Int) : ∀ (k i m : Nat) (acc : List Int), min vs.length ch.length - i = k → i ≤ min vs.length ch.length → k < m → acc.length = i →
    ∃ c : List Int, ∀ (R : Type) (k0 : Int → Bool → List (List D) → Option R), law20_PlatformGenerated_r7 n w3 (encI ch) a3 (vs.map Vis.enc) k0 m i (encI acc) = k0 (min vs.length ch.length : Nat) false (encI c)
  | 0, i, m, acc, hk, hi, hm, ha => by
    obtain ⟨m, rfl⟩ : ∃ m', m = m' + 1 := ⟨m - 1, by omega⟩
    refine ⟨acc, fun R k0 => ?_⟩
    rw [law20_PlatformGenerated_r7]
    unfold law20_PlatformGenerated_p6
    have he : i = min vs.length ch.length := by omega
    have hf : (bif decide ((i : Int) < ((vs.map Vis.enc).length : Nat)) then decide ((i : Int) < ((encI ch).length : Nat)) else false) = false := by
      simp [encI_length]; omega
    rw [hf]
    simp only [cond_false]
    rw [← he]
  | k + 1, i, m, acc, hk, hi, hm, ha => by
    obtain ⟨m, rfl⟩ : ∃ m', m = m' + 1 := ⟨m - 1, by omega⟩
    have hg : ch[i]? = some ch[i] := List.getElem?_eq_getElem (by omega)
    obtain ⟨c, hc⟩ := gener_r7 n w3 a3 vs hv ch k (i + 1) m (acc ++ [pick ch[i] 4]) (by omega) (by omega) (by omega) (by simp [ha])
    refine ⟨c, fun R k0 => ?_⟩
    rw [law20_PlatformGenerated_r7]
    unfold law20_PlatformGenerated_p6
    have ht : (bif decide ((i : Int) < ((vs.map Vis.enc).length : Nat)) then decide ((i : Int) < ((encI ch).length : Nat)) else false) = true := by
      simp [encI_length]; omega
    rw [ht, encI_get hg]
    simp -implicitDefEqProofs only [cond_true, gb_some_eq, List.getElem?_cons_zero, pInt_i64, pickA n _ (show (0 : Int) < 4 by omega) (by omega)]
    rw [room_ok (by simp [encI_length]; omega), wrap64' (by omega) (by omega), encI_snoc, show ((i : Int) + 1) = ((i + 1 : Nat) : Int) from rfl]
    simp -implicitDefEqProofs only [gb_some_eq]
    exact hc R k0

theorem generA (n : Nat) (hn : 64 < n) {l : List Int} (hl : l.length ≤ 9223372036854775807) (ch : List Int) (t0 bu : Int) : law20_PlatformGenerated n t0 (encI l) (encI ch) bu some = some true := by
  have hp := pick_range t0 (m := 30) (by omega)
  have hp2 := pick_range bu (m := 40) (by omega)
  obtain ⟨vs, h1, h2, h3⟩ := visitsA n (by omega) hl (2 + pick t0 30) (by omega)
  simp -implicitDefEqProofs only [law20_PlatformGenerated_p1, law20_PlatformGenerated_p2, law20_PlatformGenerated_p3, law20_PlatformGenerated_p4, law20_PlatformGenerated_p5, law20_PlatformGenerated_p7, law20_PlatformGenerated_p8, law20_PlatformGenerated_p9, law20_PlatformGenerated_p10, law20_PlatformGenerated_p11, law20_PlatformGenerated_p12, law20_PlatformGenerated_p13, law20_PlatformGenerated_p14, law20_PlatformGenerated_p15, law20_PlatformGenerated, pickA n _ (show (0 : Int) < 30 by omega) (by omega), pickA n _ (show (0 : Int) < 40 by omega) (by omega), gb_some_eq]
  rw [wrap64' (x := 2 + pick t0 30) (by omega) (by omega)]
  simp -implicitDefEqProofs only [h3, gb_some_eq]
  obtain ⟨c, hc⟩ := gener_r7 n (2 + pick t0 30) bu vs (by omega) ch (min vs.length ch.length) 0 n [] (by omega) (by omega) (by omega) rfl
  rw [show (0 : Int) = ((0 : Nat) : Int) from rfl, show ([] : List (List D)) = encI [] from rfl, hc]
  simp -implicitDefEqProofs only [awake20 n (by omega), agreesA n (by omega), gb_some_eq, cond_true]
end
end Go.Vx
/-
  The plain law PlatformExplains.
-/
set_option linter.unusedSimpArgs false
set_option linter.unusedVariables false
namespace Go.Vx
section
variable {R : Type}

/-! proper choices as pairs -/

def apart (t : Int) (p q : Vis × Int) : Prop := ¬ (p.2 = q.2 ∧ ovl t p.1 q.1 = true)

theorem free_iff {t : Int} {pre : List (Vis × Int)} {v : Vis} {x : Int} : free t pre v x = true ↔ ∀ p ∈ pre, apart t p (v, x) := by
  simp only [free, List.all_eq_true, apart, Bool.not_eq_true', Bool.and_eq_false_iff, beq_eq_false_iff_ne, ne_eq, not_and]
  constructor
  · intro h p hp he ho
    rcases h p hp with h | h
    · exact h he
    · rw [ho] at h; cases h
  · intro h p hp
    by_cases he : p.2 = x
    · right
      have := h p hp he
      cases ho : ovl t p.1 v with
      | true => exact absurd ho this
      | false => rfl
    · exact .inl he

theorem prop_iff {t : Int} : ∀ {vs : List Vis} {c : List Int} {pre : List (Vis × Int)}, prop t pre vs c = true ↔ c.length = vs.length ∧ (∀ p ∈ vs.zip c, p.1.tr.contains p.2 = true) ∧ (vs.zip c).Pairwise (apart t) ∧ ∀ p ∈ pre, ∀ q ∈ vs.zip c, apart t p q
  | [], [], pre => by simp [prop]
  | [], _ :: _, pre => by simp [prop]
  | _ :: _, [], pre => by simp [prop]
  | v :: vs, x :: c, pre => by
    simp only [prop, Bool.and_eq_true, prop_iff (vs := vs) (c := c), free_iff, List.zip_cons_cons, List.length_cons, List.pairwise_cons, List.mem_cons, List.mem_append, forall_eq_or_imp, List.mem_singleton]
    constructor
    · rintro ⟨h1, h2, h3, h4, h5, h6⟩
      refine ⟨by omega, ⟨h1, h4⟩, ⟨fun q hq => h6 _ (.inr (.inl rfl)) q hq, h5⟩, fun p hp => ⟨h2 p hp, fun q hq => h6 p (.inl hp) q hq⟩⟩
    · rintro ⟨h1, ⟨h2, h3⟩, ⟨h4, h5⟩, h6⟩
      refine ⟨h2, fun p hp => (h6 p hp).1, by omega, h3, h5, fun p hp q hq => ?_⟩
      rcases hp with hp | rfl | hp
      · exact (h6 p hp).2 q hq
      · exact h4 q hq
      · cases hp

def feas (t : Int) (ws : List Vis) : Prop := ∃ c, prop t [] ws c = true

theorem feas_iff {t : Int} {ws : List Vis} : feas t ws ↔ ∃ l : List (Vis × Int), l.map Prod.fst = ws ∧ (∀ p ∈ l, p.1.tr.contains p.2 = true) ∧ l.Pairwise (apart t) := by
  constructor
  · rintro ⟨c, hc⟩
    obtain ⟨h1, h2, h3, _⟩ := prop_iff.1 hc
    exact ⟨ws.zip c, by rw [List.map_fst_zip]; omega, h2, h3⟩
  · rintro ⟨l, rfl, h2, h3⟩
    have hz : (l.map Prod.fst).zip (l.map Prod.snd) = l := by
      clear h2 h3
      induction l with
      | nil => rfl
      | cons a l ih => simp [ih]
    refine ⟨l.map Prod.snd, prop_iff.2 ⟨by simp, ?_, ?_, by simp⟩⟩ <;> rw [hz] <;> assumption

theorem feas_sub {t : Int} {ws ws' : List Vis} (hs : ws'.Sublist ws) (h : feas t ws) : feas t ws' := by
  obtain ⟨l, rfl, h2, h3⟩ := feas_iff.1 h
  obtain ⟨l', hl, rfl⟩ := List.sublist_map_iff.1 hs
  exact feas_iff.2 ⟨l', rfl, fun p hp => h2 p (hl.subset hp), h3.sublist hl⟩

theorem pickV_sub {vs : List Vis} {a b : List Int} (h : a.Sublist b) : (pickV vs a).Sublist (pickV vs b) := h.filterMap _

theorem assign_fe {t : Int} (ht : 2 ≤ t ∧ t ≤ 31) {vs : List Vis} (hl : vs.length ≤ 7) (h : ∀ v ∈ vs, v.made t) {b : Int} (hb : 21844 ≤ b ∧ b ≤ 1048576) :
    ((assign t vs b).2.2 = 0 ∧ feas t vs ∨ (assign t vs b).2.2 = 14 ∧ ¬ feas t vs) ∧ 0 ≤ (assign t vs b).2.1 ∧ (assign t vs b).2.1 ≤ 21844 := by
  refine ⟨?_, ?_⟩
  · rcases assign_big ht hl h hb with ⟨e1, e2, _⟩ | ⟨e1, _, e3⟩
    · exact .inl ⟨e1, _, e2⟩
    · refine .inr ⟨e1, ?_⟩
      rintro ⟨c, hc⟩
      rw [e3 c] at hc
      cases hc
  · obtain ⟨s1, s2, s3⟩ := srch_steps t b vs [] 0 (fun v hv => (made_tr (h v hv)).1) (by have := cost_mono vs.length hl; omega)
    have := cost_mono vs.length hl
    have hv := made_valid ht hl h
    have hbb : ¬ (b < 1 ∨ 1048576 < b) := by omega
    rcases s1 with s1 | s1 <;> simp [assign, hv, hbb, s1] <;> omega

theorem append_split {α : Type} {k a c : List α} {x i : α} (h : k ++ [x] = a ++ i :: c) : (c = [] ∧ a = k ∧ i = x) ∨ ∃ c', c = c' ++ [x] ∧ k = a ++ i :: c' := by
  rcases List.eq_nil_or_concat c with rfl | ⟨c', y, rfl⟩
  · have := List.append_inj' h rfl
    exact .inl ⟨rfl, this.1.symm, by have := this.2; simpa using this.symm⟩
  · right
    rw [List.concat_eq_append] at *
    have h2 : k ++ [x] = (a ++ i :: c') ++ [y] := by rw [h]; simp
    have := List.append_inj' h2 rfl
    have hx : x = y := by simpa using this.2
    subst hx
    exact ⟨c', rfl, this.1⟩

theorem expl_ok {t : Int} (ht : 2 ≤ t ∧ t ≤ 31) {vs : List Vis} (h : ∀ v ∈ vs, v.made t) {b : Int} (hb : b ≤ 1048576) : ∀ (rest kept : List Int) (u : Int), kept.length + rest.length ≤ 7 → 0 ≤ u → u + rest.length * 21844 ≤ b → ¬ feas t (pickV vs (kept ++ rest)) → (∀ a i c, kept = a ++ i :: c → feas t (pickV vs (a ++ c ++ rest))) →
    (expl t b vs kept rest u).1 = 0 ∧ ¬ feas t (pickV vs (expl t b vs kept rest u).2.2) ∧ (∀ a i c, (expl t b vs kept rest u).2.2 = a ++ i :: c → feas t (pickV vs (a ++ c))) ∧ (expl t b vs kept rest u).2.2.Sublist (kept ++ rest)
  | [], kept, u, hl, h0, hu, hn, hk => by
    simp only [expl, List.append_nil] at hn hk ⊢
    exact ⟨trivial, hn, hk, List.Sublist.refl _⟩
  | i :: rest, kept, u, hl, h0, hu, hn, hk => by
    simp only [List.length_cons] at hl hu
    have hu2 : u + (rest.length : Int) * 21844 + 21844 ≤ b := by omega
    have hr0 : (0 : Int) ≤ (rest.length : Int) * 21844 := by omega
    have hub : ¬ u = b := by omega
    obtain ⟨e1, e2, e3⟩ := assign_fe ht (vs := pickV vs (kept ++ rest)) (by have := pickV_len vs (kept ++ rest); simp at this; omega) (fun v hv => h v (pickV_mem hv)) (b := b - u) (by omega)
    rcases e1 with ⟨e, f⟩ | ⟨e, f⟩
    · have ih := expl_ok ht h hb rest (kept ++ [i]) (u + (assign t (pickV vs (kept ++ rest)) (b - u)).2.1) (by simp; omega) (by omega) (by omega) (by simpa using hn) (by
        intro a j c hs
        rcases append_split hs with ⟨rfl, rfl, rfl⟩ | ⟨c', rfl, rfl⟩
        · simpa using f
        · have := hk a j c' rfl
          simpa using this)
      have he : expl t b vs kept (i :: rest) u = expl t b vs (kept ++ [i]) rest (u + (assign t (pickV vs (kept ++ rest)) (b - u)).2.1) := by simp [expl, hub, e]
      rw [he]
      simpa using ih
    · have hsub : (kept ++ rest).Sublist (kept ++ i :: rest) := List.Sublist.append (List.Sublist.refl _) (List.sublist_cons_self ..)
      have ih := expl_ok ht h hb rest kept (u + (assign t (pickV vs (kept ++ rest)) (b - u)).2.1) (by omega) (by omega) (by omega) f (by
        intro a j c hs
        refine feas_sub (pickV_sub ?_) (hk a j c hs)
        exact List.Sublist.append (List.Sublist.refl _) (List.sublist_cons_self ..))
      have he : expl t b vs kept (i :: rest) u = expl t b vs kept rest (u + (assign t (pickV vs (kept ++ rest)) (b - u)).2.1) := by simp [expl, hub, e]
      rw [he]
      exact ⟨ih.1, ih.2.1, ih.2.2.1, ih.2.2.2.trans hsub⟩

theorem asc_mono {a b : Int} (h : a ≤ b) : ∀ {l : List Int}, asc b l = true → asc a l = true
  | [], _ => rfl
  | x :: l, hx => by
    simp only [asc, Bool.and_eq_true, decide_eq_true_eq] at hx ⊢
    exact ⟨by omega, hx.2⟩
theorem asc_range : ∀ (k i : Nat) {l : List Int}, l.Sublist (rangeI i k) → asc ((i : Int) - 1) l = true
  | 0, i, l, h => by
    have : l = [] := by simpa [rangeI, idx] using h
    subst this; rfl
  | k + 1, i, l, h => by
    rw [rangeI_succ] at h
    cases h with
    | cons _ h => 
      have := asc_range k (i + 1) h
      exact asc_mono (by omega) this
    | cons_cons _ h =>
      have := asc_range k (i + 1) h
      simp only [asc, Bool.and_eq_true, decide_eq_true_eq]
      refine ⟨by omega, ?_⟩
      rw [show (((i + 1 : Nat) : Int) - 1) = (i : Int) by omega] at this
      exact this

theorem in17 (n : Nat) (x a b : Int) (K : Bool → Option R) : ref17_in n x a b K = K (decide (a ≤ x) && decide (x ≤ b)) := by
  simp -implicitDefEqProofs only [ref17_in, ref17_in_p1, Bool.cond_false_right]

theorem ascB_r4 (n : Nat) (l : List Int) (hl : l.length ≤ 1000) (hi : Int) (k0 : Option R) (k1 : Int → Bool → Option R) : ∀ (suf : List Int) (i m : Nat) (last : Int), l.drop i = suf → i ≤ l.length → suf.length < m → asc last suf = true → (∀ x ∈ suf, 0 ≤ x ∧ x ≤ hi) → (i = 0 ∨ 0 < i ∧ l[i - 1]? = some last) →
    ref17_Ascending_r4 n (encI l) hi k0 k1 m i = k1 l.length false
  | [], i, m, last, hd, hil, hm, _, _, _ => by
    have := drop_nil hd
    have hie : i = l.length := by omega
    obtain ⟨m, rfl⟩ : ∃ m', m = m' + 1 := ⟨m - 1, by omega⟩
    rw [ref17_Ascending_r4]
    unfold ref17_Ascending_p3
    rw [bif_neg (by simp [encI_length]; omega), hie]
    simp [encI_length]
  | x :: suf, i, m, last, hd, hil, hm, ha, hin, hp => by
    obtain ⟨h1, h2, h3⟩ := drop_cons hd
    obtain ⟨m, rfl⟩ : ∃ m', m = m' + 1 := ⟨m - 1, by omega⟩
    simp only [asc, Bool.and_eq_true, decide_eq_true_eq] at ha
    have hx := hin x (List.mem_cons_self ..)
    have ih := ascB_r4 n l hl hi k0 k1 suf (i + 1) m x h2 (by omega) (by simp at hm; omega) ha.2 (fun y hy => hin y (List.mem_cons_of_mem _ hy)) (.inr ⟨by omega, by simpa using h1⟩)
    rw [ref17_Ascending_r4]
    unfold ref17_Ascending_p3
    have hd1 : (decide ((0 : Int) ≤ x) && decide (x ≤ hi)) = true := by simp; omega
    rw [bif_pos (by simp [encI_length]; omega), encI_get h1]
    simp -implicitDefEqProofs only [gb_some_eq, List.getElem?_cons_zero, pInt_i64, in17, hd1]
    rw [wrap64' (x := (i : Int) + 1) (by omega) (by omega), show ((i : Int) + 1) = ((i + 1 : Nat) : Int) from rfl]
    by_cases h0 : i = 0
    · subst h0
      have hg : decide (((0 : Nat) : Int) > 0) = false := by simp
      simp -implicitDefEqProofs only [hg, Bool.not_true, Bool.not_false, Bool.and_false, gb_false, cond_false]
      exact ih
    · have hg : decide ((i : Int) > 0) = true := by simp; omega
      have hpr : l[i - 1]? = some last := by
        rcases hp with hp | hp
        · omega
        · exact hp.2
      rw [wrap64' (x := (i : Int) - 1) (by omega) (by omega), show ((i : Int) - 1) = ((i - 1 : Nat) : Int) by omega]
      have hlt : decide (x ≤ last) = false := by simp; omega
      simp -implicitDefEqProofs only [hg, Bool.not_true, Bool.not_false, Bool.and_true, Bool.true_and, gb_some_eq, encI_get hpr, List.getElem?_cons_zero, pInt_i64, cond_false, cond_true, hlt]
      exact ih

theorem ascB (n : Nat) (l : List Int) (hl : l.length ≤ 1000) (hn : l.length < n) (hi : Int) (ha : asc (-1) l = true) (hin : ∀ x ∈ l, 0 ≤ x ∧ x ≤ hi) (K : Bool → Option R) : ref17_Ascending n (encI l) hi K = K true := by
  simp -implicitDefEqProofs only [ref17_Ascending_p1, ref17_Ascending_p2, ref17_Ascending_p4, ref17_Ascending_p5, ref17_Ascending_p6, ref17_Ascending_p7, ref17_Ascending_p8, ref17_Ascending_p9, ref17_Ascending]
  exact ascB_r4 n l hl hi _ _ l 0 n (-1) rfl (by omega) (by omega) ha hin (.inl rfl)

theorem pick20_r5 (n : Nat) (vs : List Vis) (l : List Int) (hl : l.length ≤ 1000) (hin : ∀ j ∈ l, 0 ≤ j ∧ j < vs.length) (k0 : Int → Bool → List (List D) → Option R) : ∀ (suf : List Int) (i m : Nat) (acc : List Vis), l.drop i = suf → i ≤ l.length → suf.length < m → acc.length ≤ i →
    law20_pick_r5 n (vs.map Vis.enc) (encI l) l.length k0 m i (acc.map Vis.enc) = k0 l.length false ((acc ++ pickV vs suf).map Vis.enc)
  | [], i, m, acc, hd, hi, hm, ha => by
    have := drop_nil hd
    have hie : i = l.length := by omega
    obtain ⟨m, rfl⟩ : ∃ m', m = m' + 1 := ⟨m - 1, by omega⟩
    rw [law20_pick_r5]
    unfold law20_pick_p4
    rw [bif_neg (by simp; omega), hie]
    simp [pickV]
  | j :: suf, i, m, acc, hd, hi, hm, ha => by
    obtain ⟨h1, h2, h3⟩ := drop_cons hd
    obtain ⟨m, rfl⟩ : ∃ m', m = m' + 1 := ⟨m - 1, by omega⟩
    obtain ⟨hj0, hj1⟩ := hin j (List.mem_of_getElem? h1)
    obtain ⟨v, hv⟩ : ∃ v, vs[j.toNat]? = some v := ⟨vs[j.toNat], List.getElem?_eq_getElem (by omega)⟩
    rw [law20_pick_r5]
    unfold law20_pick_p4
    rw [bif_pos (by simpa using h3), encI_get h1]
    simp -implicitDefEqProofs only [gb_some_eq, List.getElem?_cons_zero, pInt_i64]
    rw [rowAt_int hj0 hv, wrap64' (by omega) (by omega), show ((i : Int) + 1) = ((i + 1 : Nat) : Int) from rfl]
    simp -implicitDefEqProofs only [Vis.enc, gb_some_eq, List.getElem?_cons_zero, List.getElem?_cons_succ]
    rw [room_ok (by simp; omega)]
    simp -implicitDefEqProofs only [gb_some_eq]
    have ih := pick20_r5 n vs l hl hin k0 suf (i + 1) m (acc ++ [v]) h2 (by omega) (by simp at hm; omega) (by simp; omega)
    rw [show pickV vs (j :: suf) = v :: pickV vs suf by simp [pickV, hv]]
    rw [List.map_append] at ih
    refine Eq.trans ih ?_
    simp

theorem pick20 (n : Nat) (vs : List Vis) (l : List Int) (hl : l.length ≤ 1000) (hn : l.length < n) (hin : ∀ j ∈ l, 0 ≤ j ∧ j < vs.length) (K : List (List D) → Option R) : law20_pick n (vs.map Vis.enc) (encI l) K = K ((pickV vs l).map Vis.enc) := by
  simp -implicitDefEqProofs only [law20_pick_p1, law20_pick_p2, law20_pick_p3, law20_pick_p5, law20_pick_p6, law20_pick_p7, law20_pick_p8, law20_pick_p9, law20_pick_p10, law20_pick_p11, law20_pick, encI_length]
  exact pick20_r5 n vs l hl hin _ l 0 n [] rfl (by omega) (by omega) (by simp)

theorem pickV_range (vs : List Vis) : pickV vs (rangeI 0 vs.length) = vs := by
  suffices h : ∀ (k i : Nat), i + k = vs.length → pickV vs (rangeI i k) = vs.drop i by simpa using h vs.length 0 (by omega)
  intro k
  induction k with
  | zero => intro i hi; rw [List.drop_of_length_le (by omega)]; simp [rangeI, idx, pickV]
  | succ k ih =>
    intro i hi
    rw [rangeI_succ, List.drop_eq_getElem_cons (by omega), ← ih (i + 1) (by omega)]
    simp [pickV, List.getElem?_eq_getElem (show i < vs.length by omega)]

theorem explainsA (n : Nat) (hn : 64 < n) {l : List Int} (hl : l.length ≤ 9223372036854775807) (t0 k : Int) : law20_PlatformExplains n t0 (encI l) k some = some true := by
  have hp := pick_range t0 (m := 30) (by omega)
  obtain ⟨vs, h1, h2, h3⟩ := visitsA n (by omega) hl (2 + pick t0 30) (by omega)
  simp -implicitDefEqProofs only [law20_PlatformExplains, law20_PlatformExplains_p1, pickA n _ (show (0 : Int) < 30 by omega) (by omega), gb_some_eq]
  rw [wrap64' (x := 2 + pick t0 30) (by omega) (by omega)]
  generalize ht : 2 + pick t0 30 = t at h2 h3 ⊢
  have htr : 2 ≤ t ∧ t ≤ 31 := by omega
  simp -implicitDefEqProofs only [h3, gb_some_eq, awake20 n (by omega), List.length_map, assignB n (show 16 < n by omega), explainA n (show 16 < n by omega), encI_length]
  obtain ⟨e1, e2, e3⟩ := assign_fe htr h1 h2 (b := 262144) (by omega)
  rcases e1 with ⟨e, f⟩ | ⟨e, f⟩
  · have hx : explain t vs 262144 = ([], 0, 6) := by simp [explain, e]
    rw [hx, e]
    rfl
  · obtain ⟨q1, q2, q3, q4⟩ := expl_ok htr h2 (b := 262144) (by omega) (rangeI 0 vs.length) [] (assign t vs 262144).2.1 (by rw [rangeI_len]; simpa using h1) e2 (by rw [rangeI_len]; omega) (by rw [List.nil_append, pickV_range]; exact f) (by intro a i c hs; simp at hs)
    have hx : explain t vs 262144 = ((expl t 262144 vs [] (rangeI 0 vs.length) (assign t vs 262144).2.1).2.2, (expl t 262144 vs [] (rangeI 0 vs.length) (assign t vs 262144).2.1).2.1, 0) := by simp [explain, e, q1]
    rw [hx, e]
    generalize (expl t 262144 vs [] (rangeI 0 vs.length) (assign t vs 262144).2.1).2.2 = x at q2 q3 q4
    generalize (expl t 262144 vs [] (rangeI 0 vs.length) (assign t vs 262144).2.1).2.1 = ux
    simp only [List.nil_append] at q4
    have hxl : x.length ≤ 7 := by have := q4.length_le; rw [rangeI_len] at this; omega
    have hxin : ∀ j ∈ x, 0 ≤ j ∧ j < vs.length := fun j hj => by have := rangeI_mem (q4.subset hj); omega
    have hasc := asc_range vs.length 0 q4
    have hne : ¬ x.length = 0 := by
      intro h0
      have : x = [] := List.eq_nil_of_length_eq_zero h0
      subst this
      exact q2 ⟨[], rfl⟩
    have hb2 : (((x.length : Nat) : Int) == 0) = false := by rw [beq_eq_false_iff_ne]; omega
    have hb1 : (bif ((14 : Int) != 14) then true else (((x.length : Nat) : Int) == 0)) = false := by rw [hb2]; rfl
    simp -implicitDefEqProofs only [bne_self_eq_false, cond_false, hb1, Bool.not_false]
    rw [wrap64' (x := ((vs.length : Nat) : Int) - 1) (by omega) (by omega), ascB n x (by omega) (by omega) _ (by simpa using hasc) (fun y hy => by have := hxin y hy; omega)]
    have hpk := pick_range k (m := ((x.length : Nat) : Int)) (by omega)
    obtain ⟨q, hq⟩ : ∃ q : Nat, pick k ((x.length : Nat) : Int) = q := ⟨(pick k ((x.length : Nat) : Int)).toNat, by omega⟩
    have hqx : q < x.length := by omega
    have hsplit : x = x.take q ++ x[q] :: x.drop (q + 1) := by rw [← List.drop_eq_getElem_cons hqx, List.take_append_drop]
    have hsub : (x.take q ++ x.drop (q + 1)).Sublist x := by
      conv => rhs; rw [hsplit]
      exact List.Sublist.append (List.Sublist.refl _) (List.sublist_cons_self ..)
    have hlen2 := hsub.length_le
    simp -implicitDefEqProofs only [gb_some_eq, hb2, cond_false, Bool.not_true, pick20 n vs x (by omega) (by omega) hxin, pickA n k (show (0 : Int) < ((x.length : Nat) : Int) by omega) (by omega), hq, withoutB n x (by omega) q hqx, pick20 n vs (x.take q ++ x.drop (q + 1)) (by omega) (by omega) (fun j hj => hxin j (hsub.subset hj)), assignB n (show 16 < n by omega), cond_true]
    obtain ⟨a1, _⟩ := assign_fe htr (vs := pickV vs x) (by have := pickV_len vs x; omega) (fun v hv => h2 v (pickV_mem hv)) (b := 262144) (by omega)
    obtain ⟨a2, _⟩ := assign_fe htr (vs := pickV vs (x.take q ++ x.drop (q + 1))) (by have := pickV_len vs (x.take q ++ x.drop (q + 1)); omega) (fun v hv => h2 v (pickV_mem hv)) (b := 262144) (by omega)
    rcases a1 with ⟨_, a1⟩ | ⟨a1, _⟩
    · exact absurd a1 q2
    · rcases a2 with ⟨a2, _⟩ | ⟨_, a2⟩
      · rw [a1, a2]; rfl
      · exact absurd (q3 _ _ _ hsplit) a2
end
end Go.Vx
/-
  The plain law PlatformTooMany.
-/
set_option linter.unusedSimpArgs false
set_option linter.unusedVariables false
namespace Go.Vx
section
variable {R : Type}

def mark (u : List Bool) : List Int → List Bool
  | [] => u
  | x :: r => mark (u.set x.toNat true) r
theorem mark_length : ∀ (tr : List Int) (u : List Bool), (mark u tr).length = u.length
  | [], u => rfl
  | x :: r, u => by rw [mark, mark_length r]; simp
theorem mark_mono : ∀ (tr : List Int) (u : List Bool) (k : Nat), u[k]? = some true → (mark u tr)[k]? = some true
  | [], u, k, h => h
  | x :: r, u, k, h => by
    rw [mark]
    refine mark_mono r _ k ?_
    rw [List.getElem?_set]
    have hk := (List.getElem?_eq_some_iff.1 h).1
    split
    · rw [if_pos (by omega)]
    · exact h
theorem mark_mem : ∀ (tr : List Int) (u : List Bool) (x : Int), x ∈ tr → (∀ y ∈ tr, y.toNat < u.length) → (mark u tr)[x.toNat]? = some true
  | y :: r, u, x, h, hb => by
    rw [mark]
    rcases List.mem_cons.1 h with rfl | h
    · exact mark_mono r _ _ (List.getElem?_set_self (hb x (List.mem_cons_self ..)))
    · exact mark_mem r _ x h (fun z hz => by simpa using hb z (List.mem_cons_of_mem _ hz))

def held (t s : Int) (v : Vis) : Bool := decide (mod (s - v.frm) t < v.len)
def usedBy (t s : Int) (u : List Bool) : List Vis → List Bool
  | [] => u
  | v :: r => usedBy t s (bif held t s v then mark u v.tr else u) r
theorem usedBy_length (t s : Int) : ∀ (vs : List Vis) (u : List Bool), (usedBy t s u vs).length = u.length
  | [], u => rfl
  | v :: r, u => by
    rw [usedBy, usedBy_length t s r]
    cases held t s v
    · rfl
    · exact mark_length _ _
theorem usedBy_mono (t s : Int) : ∀ (vs : List Vis) (u : List Bool) (k : Nat), u[k]? = some true → (usedBy t s u vs)[k]? = some true
  | [], u, k, h => h
  | v :: r, u, k, h => by
    rw [usedBy]
    refine usedBy_mono t s r _ k ?_
    cases held t s v
    · exact h
    · exact mark_mono _ _ _ h
theorem usedBy_mem (t s : Int) : ∀ (vs : List Vis) (u : List Bool) (v : Vis) (x : Int), v ∈ vs → held t s v = true → x ∈ v.tr → (∀ v ∈ vs, ∀ y ∈ v.tr, y.toNat < u.length) → (usedBy t s u vs)[x.toNat]? = some true
  | w :: r, u, v, x, hv, hh, hx, hb => by
    rw [usedBy]
    rcases List.mem_cons.1 hv with rfl | hv
    · rw [hh]
      exact usedBy_mono t s r _ _ (mark_mem _ _ _ hx (hb v (List.mem_cons_self ..)))
    · refine usedBy_mem t s r _ v x hv hh hx (fun z hz y hy => ?_)
      have := hb z (List.mem_cons_of_mem _ hz) y hy
      cases held t s w
      · exact this
      · simpa [mark_length] using this

theorem idx_get : ∀ (l : List Bool) (i k : Nat), l[k]? = some true → ((i + k : Nat) : Int) ∈ idx i l
  | b :: l, i, 0, h => by simp at h; subst h; simp [idx]
  | b :: l, i, k + 1, h => by
    have := idx_get l (i + 1) k (by simpa using h)
    simp only [idx, List.mem_append]
    right
    rw [show i + (k + 1) = i + 1 + k by omega]
    exact this

theorem nodup_sub {α : Type} [DecidableEq α] : ∀ (l m : List α), l.Nodup → (∀ x ∈ l, x ∈ m) → l.length ≤ m.length
  | [], m, _, _ => by simp
  | a :: l, m, hn, hs => by
    rw [List.nodup_cons] at hn
    have hm := hs a (List.mem_cons_self ..)
    have := nodup_sub l (m.erase a) hn.2 (fun x hx => by
      have hne : x ≠ a := fun e => by subst e; exact hn.1 hx
      exact (List.mem_erase_of_ne hne).2 (hs x (List.mem_cons_of_mem _ hx)))
    rw [List.length_erase_of_mem hm] at this
    have hpos : 0 < m.length := List.length_pos_of_mem hm
    simp
    omega

theorem both_ovl {t : Int} (ht : 0 < t) {a b : Vis} (ha : a.made t) (hb : b.made t) {s : Int} (h0 : 0 ≤ s) (h1 : s < t) (h2 : held t s a = true) (h3 : held t s b = true) : ovl t a b = true := by
  rw [ovl_common ht ⟨ha.1, ha.2.1, ha.2.2.1⟩ ⟨hb.1, hb.2.1, hb.2.2.1⟩, bothIn_iff]
  refine ⟨s.toNat, by omega, by omega, ?_⟩
  rw [show ((s.toNat : Nat) : Int) = s by omega]
  simp only [bothAt, Bool.and_eq_true]
  exact ⟨h2, h3⟩

theorem few {t : Int} (ht : 0 < t) {vs : List Vis} (hv : ∀ v ∈ vs, v.made t) {s : Int} (h0 : 0 ≤ s) (h1 : s < t) (hf : feas t vs) (u : List Bool) (hu : u.length = 4) : (vs.filter (held t s)).length ≤ (idx 0 (usedBy t s u vs)).length := by
  obtain ⟨l, rfl, h2, h3⟩ := feas_iff.1 hf
  have hfl : (l.map Prod.fst).filter (held t s) = (l.filter fun p => held t s p.1).map Prod.fst := by
    rw [List.filter_map]; rfl
  rw [hfl, List.length_map, ← List.length_map (f := Prod.snd)]
  refine nodup_sub _ _ ?_ ?_
  · rw [List.Nodup, List.pairwise_map]
    have h4 : (l.filter fun p => held t s p.1).Pairwise (apart t) := h3.sublist List.filter_sublist
    refine h4.imp_of_mem ?_
    intro p q hp hq hap he
    rw [List.mem_filter] at hp hq
    exact hap ⟨he, both_ovl ht (hv _ (List.mem_map_of_mem hp.1)) (hv _ (List.mem_map_of_mem hq.1)) h0 h1 hp.2 hq.2⟩
  · intro x hx
    obtain ⟨p, hp, rfl⟩ := List.mem_map.1 hx
    rw [List.mem_filter] at hp
    have hmem : p.1 ∈ l.map Prod.fst := List.mem_map_of_mem hp.1
    have hx : p.2 ∈ p.1.tr := by have := h2 p hp.1; rwa [List.contains_iff_mem] at this
    obtain ⟨_, _, _, _, _, hb, _⟩ := hv _ hmem
    have := hb _ hx
    have hg := usedBy_mem t s (l.map Prod.fst) u p.1 p.2 hmem hp.2 hx (fun v hv' y hy => by
      obtain ⟨_, _, _, _, _, hb, _⟩ := hv v hv'
      have := hb y hy
      omega)
    have := idx_get _ 0 _ hg
    rwa [Nat.zero_add, show ((p.2.toNat : Nat) : Int) = p.2 by omega] at this

theorem many_r14 (n : Nat) (w3 w7 w136 w12 : Int) (vs : List Vis) (q : Nat) (v : Vis) (hq : vs[q]? = some v) (hb : ∀ x ∈ v.tr, 0 ≤ x ∧ x < 4) (hl : v.tr.length ≤ 8) (k0 : Int → Bool → List (List D) → Option R) : ∀ (suf : List Int) (i m : Nat) (u : List Bool), v.tr.drop i = suf → i ≤ v.tr.length → suf.length < m → u.length = 4 →
    law20_PlatformTooMany_r14 n w3 (vs.map Vis.enc) w7 w136 q w12 v.tr.length k0 m i (encB u) = k0 v.tr.length false (encB (mark u suf))
  | [], i, m, u, hd, hi, hm, hu => by
    have := drop_nil hd
    have hie : i = v.tr.length := by omega
    obtain ⟨m, rfl⟩ : ∃ m', m = m' + 1 := ⟨m - 1, by omega⟩
    rw [law20_PlatformTooMany_r14]
    unfold law20_PlatformTooMany_p13
    rw [bif_neg (by simp; omega), hie]
    simp [mark]
  | x :: suf, i, m, u, hd, hi, hm, hu => by
    obtain ⟨h1, h2, h3⟩ := drop_cons hd
    obtain ⟨m, rfl⟩ : ∃ m', m = m' + 1 := ⟨m - 1, by omega⟩
    have hx := hb x (List.mem_of_getElem? h1)
    have hg : u[x.toNat]? = some u[x.toNat] := List.getElem?_eq_getElem (by omega)
    rw [law20_PlatformTooMany_r14]
    unfold law20_PlatformTooMany_p13
    rw [bif_pos (by simpa using h3), rowAt_get hq]
    simp -implicitDefEqProofs only [Vis.enc, gb_some_eq, List.getElem?_cons_zero, List.getElem?_cons_succ, pSl_s, encI_get h1, pInt_i64]
    rw [inB_ok (by omega) (by omega), encB_get? hg]
    simp -implicitDefEqProofs only [gb_some_eq, encB_set]
    rw [wrap64' (by omega) (by omega), show ((i : Int) + 1) = ((i + 1 : Nat) : Int) from rfl]
    exact many_r14 n w3 w7 w136 w12 vs q v hq hb hl k0 suf (i + 1) m (u.set x.toNat true) h2 (by omega) (by simp at hm; omega) (by simp [hu])

theorem many_r28 (n : Nat) (hn : 16 < n) (t s : Int) (ht : 2 ≤ t ∧ t ≤ 31) (hs : 0 ≤ s ∧ s < t) (vs : List Vis) (hv : ∀ v ∈ vs, v.made t) (hl : vs.length ≤ 7) (k0 : Int → Int → Bool → List (List D) → Option R) : ∀ (suf : List Vis) (i m : Nat) (c : Nat) (u : List Bool), vs.drop i = suf → i ≤ vs.length → suf.length < m → u.length = 4 → c ≤ i →
    law20_PlatformTooMany_r28 n t (vs.map Vis.enc) s vs.length k0 m c i (encB u) = k0 (c + (suf.filter (held t s)).length : Nat) vs.length false (encB (usedBy t s u suf))
  | [], i, m, c, u, hd, hi, hm, hu, hc => by
    have := drop_nil hd
    have hie : i = vs.length := by omega
    obtain ⟨m, rfl⟩ : ∃ m', m = m' + 1 := ⟨m - 1, by omega⟩
    rw [law20_PlatformTooMany_r28]
    unfold law20_PlatformTooMany_p27
    simp -implicitDefEqProofs only [law20_PlatformTooMany_p7, law20_PlatformTooMany_p8, law20_PlatformTooMany_p26]
    rw [bif_neg (by simp; omega), hie]
    simp [usedBy]
  | v :: suf, i, m, c, u, hd, hi, hm, hu, hc => by
    obtain ⟨h1, h2, h3⟩ := drop_cons hd
    obtain ⟨m, rfl⟩ : ∃ m', m = m' + 1 := ⟨m - 1, by omega⟩
    obtain ⟨a1, a2, a3, a4, a5, a6, a7⟩ := hv v (List.mem_of_getElem? h1)
    rw [law20_PlatformTooMany_r28]
    unfold law20_PlatformTooMany_p27
    simp -implicitDefEqProofs only [law20_PlatformTooMany_p7, law20_PlatformTooMany_p8, law20_PlatformTooMany_p9, law20_PlatformTooMany_p10, law20_PlatformTooMany_p11, law20_PlatformTooMany_p12, law20_PlatformTooMany_p14, law20_PlatformTooMany_p15, law20_PlatformTooMany_p16, law20_PlatformTooMany_p17, law20_PlatformTooMany_p18, law20_PlatformTooMany_p19, law20_PlatformTooMany_p20, law20_PlatformTooMany_p21, law20_PlatformTooMany_p22, law20_PlatformTooMany_p23, law20_PlatformTooMany_p24, law20_PlatformTooMany_p25, law20_PlatformTooMany_p26]
    rw [bif_pos (by simpa using h3), rowAt_get h1]
    simp -implicitDefEqProofs only [Vis.enc, gb_some_eq, List.getElem?_cons_zero, List.getElem?_cons_succ, pInt_i64, pSl_s, encI_length, modB n _ t (by omega)]
    rw [wrap64' (x := s - v.frm) (by omega) (by omega), wrap64' (x := (i : Int) + 1) (by omega) (by omega), wrap64' (x := (c : Int) + 1) (by omega) (by omega), show ((i : Int) + 1) = ((i + 1 : Nat) : Int) from rfl, show ((c : Int) + 1) = ((c + 1 : Nat) : Int) from rfl]
    cases hh : held t s v with
    | true =>
      have hd' : decide (mod (s - v.frm) t < v.len) = true := hh
      rw [hd', show ((0 : Int)) = ((0 : Nat) : Int) from rfl, bif_pos rfl, many_r14 n t s _ _ vs i v h1 a6 (by omega) _ v.tr 0 n u rfl (by omega) (by omega) hu]
      rw [many_r28 n hn t s ht hs vs hv hl k0 suf (i + 1) m (c + 1) (mark u v.tr) h2 (by omega) (by simp at hm; omega) (by rw [mark_length]; exact hu) (by omega)]
      rw [List.filter_cons, hh, if_pos rfl, List.length_cons, usedBy, hh, show c + 1 + (suf.filter (held t s)).length = c + ((suf.filter (held t s)).length + 1) by omega]
      rfl
    | false =>
      have hd' : decide (mod (s - v.frm) t < v.len) = false := hh
      rw [hd', bif_neg rfl, many_r28 n hn t s ht hs vs hv hl k0 suf (i + 1) m c u h2 (by omega) (by simp at hm; omega) hu (by omega)]
      rw [List.filter_cons, hh, usedBy, hh]
      rfl

theorem many_r34 (n : Nat) (w3 w240 : Int) (w5 : List (List D)) (u : List Bool) (hu : u.length = 4) (k0 : Int → Int → Bool → Option R) : ∀ (suf : List Bool) (i m c : Nat), u.drop i = suf → i ≤ u.length → suf.length < m → c ≤ i →
    law20_PlatformTooMany_r34 n w3 w5 w240 (encB u) k0 m c i = k0 (c + (idx i suf).length : Nat) 4 false
  | [], i, m, c, hd, hi, hm, hc => by
    have := drop_nil hd
    have hie : i = 4 := by omega
    obtain ⟨m, rfl⟩ : ∃ m', m = m' + 1 := ⟨m - 1, by omega⟩
    rw [law20_PlatformTooMany_r34]
    unfold law20_PlatformTooMany_p33
    rw [bif_neg (by simp; omega), hie]
    simp [idx]
  | b :: suf, i, m, c, hd, hi, hm, hc => by
    obtain ⟨h1, h2, h3⟩ := drop_cons hd
    obtain ⟨m, rfl⟩ : ∃ m', m = m' + 1 := ⟨m - 1, by omega⟩
    rw [law20_PlatformTooMany_r34]
    unfold law20_PlatformTooMany_p33
    rw [bif_pos (by simp; omega), inB_ok (by omega) (by omega), Int.toNat_natCast, encB_get? h1]
    simp -implicitDefEqProofs only [gb_some_eq, List.getElem?_cons_zero, pBool_b]
    rw [wrap64' (x := (i : Int) + 1) (by omega) (by omega), wrap64' (x := (c : Int) + 1) (by omega) (by omega), show ((i : Int) + 1) = ((i + 1 : Nat) : Int) from rfl, show ((c : Int) + 1) = ((c + 1 : Nat) : Int) from rfl]
    cases b with
    | true =>
      rw [bif_pos rfl, many_r34 n w3 w240 w5 u hu k0 suf (i + 1) m (c + 1) h2 (by omega) (by simp at hm; omega) (by omega)]
      simp [idx]
      congr 1
      omega
    | false =>
      rw [bif_neg rfl, many_r34 n w3 w240 w5 u hu k0 suf (i + 1) m c h2 (by omega) (by simp at hm; omega) (by omega)]
      simp [idx]

theorem tooManyA (n : Nat) (hn : 64 < n) {l : List Int} (hl : l.length ≤ 9223372036854775807) (t0 s0 : Int) : law20_PlatformTooMany n t0 (encI l) s0 some = some true := by
  have hp := pick_range t0 (m := 30) (by omega)
  obtain ⟨vs, h1, h2, h3⟩ := visitsA n (by omega) hl (2 + pick t0 30) (by omega)
  simp -implicitDefEqProofs only [law20_PlatformTooMany_p1, law20_PlatformTooMany_p2, law20_PlatformTooMany_p3, law20_PlatformTooMany_p4, law20_PlatformTooMany_p5, law20_PlatformTooMany_p6, law20_PlatformTooMany_p28, law20_PlatformTooMany_p29, law20_PlatformTooMany_p30, law20_PlatformTooMany_p31, law20_PlatformTooMany_p32, law20_PlatformTooMany_p34, law20_PlatformTooMany_p35, law20_PlatformTooMany_p36, law20_PlatformTooMany_p37, law20_PlatformTooMany_p38, law20_PlatformTooMany_p39, law20_PlatformTooMany_p40, law20_PlatformTooMany_p41, law20_PlatformTooMany_p42, law20_PlatformTooMany_p43, law20_PlatformTooMany_p44, law20_PlatformTooMany_p45, law20_PlatformTooMany, pickA n _ (show (0 : Int) < 30 by omega) (by omega), gb_some_eq]
  rw [wrap64' (x := 2 + pick t0 30) (by omega) (by omega)]
  generalize ht : 2 + pick t0 30 = t at h2 h3 ⊢
  have htr : 2 ≤ t ∧ t ≤ 31 := by omega
  have hps := pick_range s0 (m := t) (by omega)
  simp -implicitDefEqProofs only [h3, gb_some_eq, pickA n s0 (show (0 : Int) < t by omega) (by omega), List.length_map, awake20 n (by omega), assignA n (show 16 < n by omega)]
  generalize pick s0 t = s at hps ⊢
  rw [show lenIs [[D.bool false], [D.bool false], [D.bool false], [D.bool false]] 4 = some () from rfl, gb_some_eq, show [[D.bool false], [D.bool false], [D.bool false], [D.bool false]] = encB [false, false, false, false] from rfl]
  have e28 := fun (k0 : Int → Int → Bool → List (List D) → Option Bool) => many_r28 n (by omega) t s htr hps vs h2 h1 k0 vs 0 n 0 [false, false, false, false] rfl (by omega) (by omega) rfl (by omega)
  rw [show ((0 : Nat) : Int) = (0 : Int) from rfl] at e28
  rw [e28]
  have hul : (usedBy t s [false, false, false, false] vs).length = 4 := by rw [usedBy_length]; rfl
  have e34 := fun (k0 : Int → Int → Bool → Option Bool) w => many_r34 n t w (vs.map Vis.enc) (usedBy t s [false, false, false, false] vs) hul k0 (usedBy t s [false, false, false, false] vs) 0 n 0 rfl (by omega) (by omega) (by omega)
  rw [show ((0 : Nat) : Int) = (0 : Int) from rfl] at e34
  rw [e34]
  simp only [Nat.zero_add, Bool.not_true, cond_true, bif_pos, gb_some_eq]
  rcases (assign_fe htr h1 h2 (b := 262144) (by omega)).1 with ⟨_, f⟩ | ⟨e, _⟩
  · have hfew := few (by omega) h2 hps.1 hps.2 f [false, false, false, false] rfl
    have hd : decide (((vs.filter (held t s)).length : Int) ≤ ((idx 0 (usedBy t s [false, false, false, false] vs)).length : Int)) = true := by simp; omega
    rw [hd]
    rfl
  · rw [e]
    simp
end
end Go.Vx
