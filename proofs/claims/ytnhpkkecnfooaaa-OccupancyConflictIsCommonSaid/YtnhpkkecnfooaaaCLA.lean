/- Part of a proof: texts PlKeep PlMod OccC OccB OccD OccE OccG OccH. No conditions of their own. -/
import Derived.Test.YtnhpkkecnfooaaaCVC
import Derived.Test.YtnhpkkecnfooaaaCFA
/-
  Plain laws: Pick, Next.
-/
set_option linter.unusedSimpArgs false
set_option linter.unusedVariables false
namespace Go.Vx
section
variable {R : Type}

theorem wrapU_nonneg (x : Int) : 0 ≤ IntKind.wrap .u64 x := by
  have := Int.emod_nonneg x (show (18446744073709551616 : Int) ≠ 0 by decide)
  simpa [IntKind.wrap, IntKind.bits, IntKind.signed] using this
theorem wrapU_id {x : Int} (h0 : 0 ≤ x) (h1 : x < 18446744073709551616) : IntKind.wrap .u64 x = x := by
  have := Int.emod_eq_of_lt h0 h1
  simpa [IntKind.wrap, IntKind.bits, IntKind.signed] using this

/-- The number that Pick takes. -/
def pick (v m : Int) : Int := (IntKind.wrap .u64 v).tmod m
theorem pick_range (v : Int) {m : Int} (h : 0 < m) : 0 ≤ pick v m ∧ pick v m < m := by
  unfold pick
  rw [Int.tmod_eq_emod_of_nonneg (wrapU_nonneg v)]
  exact ⟨Int.emod_nonneg _ (by omega), Int.emod_lt_of_pos _ h⟩

theorem pickA (n : Nat) (v : Int) {m : Int} (h : 0 < m) (hm : m ≤ 9223372036854775807) (K : Int → Option R) : keep_Pick n v m K = K (pick v m) := by
  unfold keep_Pick keep_Pick_p1
  rw [wrapU_id (x := m) (by omega) (by omega), nz_ok (by omega)]
  simp -implicitDefEqProofs only [gb_some_eq]
  have := pick_range v h
  unfold pick at this ⊢
  rw [wrap64' (by omega) (by omega)]

/-- Next: a number below the bound, and the place moves on. -/
theorem nextA (n : Nat) {l : List Int} (hl : l.length ≤ 9223372036854775807) {i : Nat} (hi : i ≤ l.length) {m : Int} (h : 0 < m) (hm : m ≤ 9223372036854775807) :
    ∃ (v : Int) (j : Nat), 0 ≤ v ∧ v < m ∧ j ≤ l.length ∧ ∀ (R : Type) (K : Int → List (List D) → Int → Option R), keep_Source_Next n (encI l) i m K = K v (encI l) j := by
  by_cases hlt : i < l.length
  · have hg := List.getElem?_eq_getElem hlt
    refine ⟨pick l[i] m, i + 1, (pick_range _ h).1, (pick_range _ h).2, by omega, fun R K => ?_⟩
    unfold keep_Source_Next keep_Source_Next_p1
    rw [bif_neg (by simp [encI_length]; omega), wrap64' (x := (i : Int) + 1) (by omega) (by omega), wrap64' (by omega) (by omega)]
    rw [show (i : Int) + 1 - 1 = (i : Int) by omega, encI_get hg]
    simp -implicitDefEqProofs only [gb_some_eq, List.getElem?_cons_zero, pInt_i64, pickA n _ h hm]
    rfl
  · refine ⟨0, i, by omega, h, hi, fun R K => ?_⟩
    unfold keep_Source_Next keep_Source_Next_p1
    rw [bif_pos (by simp [encI_length]; omega)]

end
end Go.Vx
/-
  Plain laws: Mod, the program's and the reference's.
-/
set_option linter.unusedSimpArgs false
set_option linter.unusedVariables false
namespace Go.Vx
section
variable {R : Type}

theorem tmod_emod {x t : Int} (ht : 0 < t) : (if x.tmod t < 0 then x.tmod t + t else x.tmod t) = x % t := by
  have h1 := Int.tmod_def x t
  have h2 := Int.emod_def x t
  rcases Int.le_total 0 x with h | h
  · rw [Int.tmod_eq_emod_of_nonneg h]
    have := Int.emod_nonneg x (by omega : t ≠ 0)
    rw [if_neg (by omega)]
  · obtain ⟨y, rfl⟩ : ∃ y, x = -y := ⟨-x, by omega⟩
    have hy : 0 ≤ y := by omega
    rw [Int.neg_tmod, Int.tmod_eq_emod_of_nonneg hy]
    have e1 := Int.emod_nonneg y (by omega : t ≠ 0)
    have e2 := Int.emod_lt_of_pos y ht
    have e3 : (-y) % t = if y % t = 0 then 0 else t - y % t := by
      by_cases h0 : y % t = 0
      · rw [if_pos h0]; exact Int.emod_eq_zero_of_dvd (by rw [Int.dvd_neg]; exact Int.dvd_of_emod_eq_zero h0)
      · rw [if_neg h0]
        have : -y = (t - y % t) + t * (-(y / t) - 1) := by
          have := Int.mul_ediv_add_emod y t
          rw [Int.mul_sub, Int.mul_neg]; omega
        rw [this, Int.add_mul_emod_self_left, Int.emod_eq_of_lt (by omega) (by omega)]
    rw [e3]
    by_cases h0 : y % t = 0
    · simp [h0]
    · rw [if_neg h0, if_pos (by omega)]; omega

/-- The program's Mod. -/
def mod (x t : Int) : Int := if t < 1 then 0 else x % t

theorem mod_nonneg (x t : Int) : 0 ≤ mod x t := by
  unfold mod; split
  · exact Int.le_refl 0
  · exact Int.emod_nonneg x (by omega)
theorem mod_lt (x : Int) {t : Int} (h : 0 < t) : mod x t < t := by
  unfold mod; rw [if_neg (by omega)]; exact Int.emod_lt_of_pos x h

theorem tmod_abs (x : Int) {t : Int} (ht : 0 < t) : -t < x.tmod t ∧ x.tmod t < t := by
  have h1 := Int.tmod_lt_of_pos x ht
  have h2 := Int.lt_tmod_of_pos x ht
  omega

theorem modA (n : Nat) (x t : Int) (ht : t ≤ 9223372036854775807) (K : Int → Option R) : arith_Mod n x t K = K (mod x t) := by
  unfold arith_Mod arith_Mod_p1
  by_cases h : t < 1
  · rw [bif_pos (by simpa using h)]; simp [mod, h]
  · rw [bif_neg (by simpa using h), nz_ok (by omega)]
    simp -implicitDefEqProofs only [gb_some_eq]
    have := tmod_abs x (t := t) (by omega)
    simp only [mod, h, if_false]
    rw [← tmod_emod (by omega)]
    by_cases h2 : x.tmod t < 0
    · rw [bif_pos (by simpa using h2), if_pos h2, wrap64' (by omega) (by omega)]
    · rw [bif_neg (by simpa using h2), if_neg h2]
theorem modB (n : Nat) (x t : Int) (ht : t ≤ 9223372036854775807) (K : Int → Option R) : ref1_Mod n x t K = K (mod x t) := by
  unfold ref1_Mod ref1_Mod_p1
  by_cases h : t < 1
  · rw [bif_pos (by simpa using h)]; simp [mod, h]
  · rw [bif_neg (by simpa using h), nz_ok (by omega)]
    simp -implicitDefEqProofs only [gb_some_eq]
    have := tmod_abs x (t := t) (by omega)
    simp only [mod, h, if_false]
    rw [← tmod_emod (by omega)]
    by_cases h2 : x.tmod t < 0
    · rw [bif_pos (by simpa using h2), if_pos h2, wrap64' (by omega) (by omega)]
    · rw [bif_neg (by simpa using h2), if_neg h2]

end
end Go.Vx
/-
  Plain laws of occupancy: uses, Valid, conflict.
-/
set_option linter.unusedSimpArgs false
set_option linter.unusedVariables false
namespace Go.Vx
section
variable {R : Type}

structure Use where
  res : Int
  train : Int
  frm : Int
  len : Int
  laps : Int
deriving Inhabited
def Use.row (u : Use) : List D := [.int .i64 u.res, .int .i64 u.train, .int .i64 u.frm, .int .i64 u.len, .int .i64 u.laps]
def encU (us : List Use) : List (List D) := us.map Use.row
theorem encU_length (us : List Use) : (encU us).length = us.length := by simp [encU]
theorem encU_get {us : List Use} {i : Nat} {u : Use} (h : us[i]? = some u) : rowAt (encU us) (i : Int) = some u.row := rowAt_get h

def okA (u : Use) : Bool := bif (bif (bif (decide (u.res < (0 : Int))) then true else (decide (u.train < (0 : Int)))) then true else (decide (u.frm < (-1099511627776 : Int)))) then true else (decide (u.frm > (1099511627776 : Int)))
def okC (u : Use) : Bool := bif (bif (bif (decide (u.len < (1 : Int))) then true else (decide (u.len > (1099511627776 : Int)))) then true else (decide (u.laps < (0 : Int)))) then true else (decide (u.laps > (1099511627776 : Int)))
def okB (u : Use) : Bool := !okA u && !okC u
def Use.ok (u : Use) : Prop := 0 ≤ u.res ∧ 0 ≤ u.train ∧ -1099511627776 ≤ u.frm ∧ u.frm ≤ 1099511627776 ∧ 1 ≤ u.len ∧ u.len ≤ 1099511627776 ∧ 0 ≤ u.laps ∧ u.laps ≤ 1099511627776
theorem okB_iff (u : Use) : okB u = true ↔ u.ok := by
  unfold okB okA okC Use.ok
  simp only [Bool.cond_true_left, Bool.and_eq_true, Bool.not_eq_true', Bool.or_eq_false_iff, decide_eq_false_iff_not]
  omega
def validU (t : Int) (us : List Use) : Bool := !(bif (decide (t < (2 : Int))) then true else (decide (t > (7200 : Int)))) && us.all okB
theorem validU_iff (t : Int) (us : List Use) : validU t us = true ↔ (2 ≤ t ∧ t ≤ 7200) ∧ ∀ u ∈ us, u.ok := by
  unfold validU
  simp only [Bool.cond_true_left, Bool.and_eq_true, Bool.not_eq_true', Bool.or_eq_false_iff, decide_eq_false_iff_not, List.all_eq_true, okB_iff]
  refine and_congr ?_ Iff.rfl
  omega

theorem valid_r5 (n : Nat) (us : List Use) (hL : us.length ≤ 9223372036854775806) (k0 : Option R) (k1 : Int → Bool → Option R) : ∀ (suf : List Use) (i m : Nat), us.drop i = suf → i ≤ us.length → suf.length < m → occupancy_Valid_r5 n (encU us) (us.length : Nat) k0 k1 m (i : Int) = bif suf.all okB then k1 (us.length : Nat) false else k0
  | [], i, m, hd, hi, hm => by
    obtain ⟨m, rfl⟩ : ∃ m', m = m' + 1 := ⟨m - 1, by omega⟩
    have := drop_nil hd
    obtain rfl : i = us.length := by omega
    rw [occupancy_Valid_r5]
    unfold occupancy_Valid_p4
    rw [bif_neg (by simp)]
    simp
  | u :: suf, i, m, hd, hi, hm => by
    obtain ⟨m, rfl⟩ : ∃ m', m = m' + 1 := ⟨m - 1, by omega⟩
    obtain ⟨h1, h2, h3⟩ := drop_cons hd
    rw [occupancy_Valid_r5]
    unfold occupancy_Valid_p4
    rw [bif_pos (by simp; omega), encU_get h1]
    simp -implicitDefEqProofs only [Use.row, gb_some_eq, List.getElem?_cons_zero, List.getElem?_cons_succ, pInt_i64]
    rw [wrap64' (by omega) (by omega), show ((i : Int) + 1) = ((i + 1 : Nat) : Int) from rfl, valid_r5 n us hL k0 k1 suf (i + 1) m h2 (by omega) (by simp at hm; omega)]
    show (bif okA u then k0 else bif okC u then k0 else _) = _
    rw [List.all_cons]
    unfold okB
    cases okA u <;> cases okC u <;> rfl

theorem validA (n : Nat) {us : List Use} (hn : us.length < n) (hL : us.length ≤ 9223372036854775806) (t : Int) (K : Bool → Option R) : occupancy_Valid n t (encU us) K = K (validU t us) := by
  simp -implicitDefEqProofs only [occupancy_Valid, occupancy_Valid_p11, occupancy_Valid_p10, occupancy_Valid_p9, occupancy_Valid_p8, occupancy_Valid_p7, occupancy_Valid_p6, occupancy_Valid_p5, occupancy_Valid_p3, occupancy_Valid_p2, occupancy_Valid_p1, encU_length]
  rw [show (0 : Int) = ((0 : Nat) : Int) from rfl, valid_r5 n us hL _ _ us 0 n rfl (by omega) hn]
  unfold validU
  cases (bif (decide (t < (2 : Int))) then true else (decide (t > (7200 : Int)))) with
  | true => rfl
  | false => cases us.all okB <;> rfl

/-! conflict -/

theorem ediv_of {x t q : Int} (ht : 0 < t) (h1 : t * q ≤ x) (h2 : x < t * q + t) : x / t = q := by
  have a1 : q ≤ x / t := (Int.le_ediv_iff_mul_le ht).2 (by rw [Int.mul_comm]; exact h1)
  have a2 : x / t < q + 1 := (Int.ediv_lt_iff_lt_mul ht).2 (by rw [Int.mul_comm, Int.mul_add, Int.mul_one]; exact h2)
  omega

theorem floorA (n : Nat) {x t : Int} (h : -4611686018427387904 ≤ x ∧ x ≤ 4611686018427387904) (ht : 2 ≤ t) (K : Int → Int → Option R) : arith_FloorDiv n x t K = K (x / t) 0 := by
  unfold arith_FloorDiv arith_FloorDiv_p1
  rw [bif_neg (by simp; omega), nz_ok (by omega)]
  simp -implicitDefEqProofs only [gb_some_eq]
  have hd := Int.mul_tdiv_add_tmod x t
  have hb := tmod_abs x (t := t) (by omega)
  have hq : -4611686018427387904 ≤ x.tdiv t ∧ x.tdiv t ≤ 4611686018427387904 := by
    have := Int.natAbs_tdiv_le_natAbs x t
    omega
  rw [wrap64' (x := x.tdiv t) (by omega) (by omega)]
  by_cases h2 : x.tmod t < 0
  · rw [bif_pos (by simpa using h2), wrap64' (by omega) (by omega), ediv_of (q := x.tdiv t - 1) (by omega) (by rw [Int.mul_sub]; omega) (by rw [Int.mul_sub]; omega)]
  · rw [bif_neg (by simpa using h2), ediv_of (q := x.tdiv t) (by omega) (by omega) (by omega)]
theorem ceilA (n : Nat) {x t : Int} (h : -4611686018427387904 ≤ x ∧ x ≤ 4611686018427387904) (ht : 2 ≤ t) (K : Int → Int → Option R) : arith_CeilDiv n x t K = K (-((-x) / t)) 0 := by
  unfold arith_CeilDiv arith_CeilDiv_p1
  rw [bif_neg (by simp; omega), nz_ok (by omega)]
  simp -implicitDefEqProofs only [gb_some_eq]
  have hd := Int.mul_tdiv_add_tmod x t
  have hb := tmod_abs x (t := t) (by omega)
  have hq : -4611686018427387904 ≤ x.tdiv t ∧ x.tdiv t ≤ 4611686018427387904 := by
    have := Int.natAbs_tdiv_le_natAbs x t
    omega
  rw [wrap64' (x := x.tdiv t) (by omega) (by omega)]
  by_cases h2 : x.tmod t > 0
  · rw [bif_pos (by simpa using h2), wrap64' (by omega) (by omega), ediv_of (x := -x) (q := -(x.tdiv t + 1)) (by omega) (by rw [Int.mul_neg, Int.mul_add]; omega) (by rw [Int.mul_neg, Int.mul_add]; omega), Int.neg_neg]
  · rw [bif_neg (by simpa using h2), ediv_of (x := -x) (q := -(x.tdiv t)) (by omega) (by rw [Int.mul_neg]; omega) (by rw [Int.mul_neg]; omega), Int.neg_neg]

def cfLo (t : Int) (a b : Use) : Int := -((-(a.frm - b.frm - b.len + 1)) / t)
def cfHi (t : Int) (a b : Use) : Int := (a.frm + a.len - b.frm - 1) / t
def cfB (t : Int) (a b : Use) : Bool :=
  bif decide (cfLo t a b > cfHi t a b) then false else
  bif a.train != b.train then true else
  bif a.laps == 0 then (bif decide (cfLo t a b < 0) then true else decide (cfHi t a b > 0)) else
  bif a.laps == 1 then false else (bif decide (cfLo t a b < cfHi t a b) then true else (Int.tmod (cfLo t a b) a.laps) != 0)

theorem conflictA (n : Nat) {t : Int} (ht : 2 ≤ t) {a b : Use} (ha : a.ok) (hb : b.ok) (K : Bool → Option R) : occupancy_conflict n t a.res a.train a.frm a.len a.laps b.res b.train b.frm b.len b.laps K = K (cfB t a b) := by
  obtain ⟨a1, a2, a3, a4, a5, a6, a7, a8⟩ := ha
  obtain ⟨b1, b2, b3, b4, b5, b6, b7, b8⟩ := hb
  simp -implicitDefEqProofs only [occupancy_conflict, occupancy_conflict_p10, occupancy_conflict_p9, occupancy_conflict_p8, occupancy_conflict_p7, occupancy_conflict_p6, occupancy_conflict_p5, occupancy_conflict_p4, occupancy_conflict_p3, occupancy_conflict_p2, occupancy_conflict_p1]
  rw [wrap64' (x := a.frm - b.frm) (by omega) (by omega), wrap64' (x := a.frm - b.frm - b.len) (by omega) (by omega), wrap64' (x := a.frm - b.frm - b.len + 1) (by omega) (by omega)]
  rw [wrap64' (x := a.frm + a.len) (by omega) (by omega), wrap64' (x := a.frm + a.len - b.frm) (by omega) (by omega), wrap64' (x := a.frm + a.len - b.frm - 1) (by omega) (by omega)]
  rw [ceilA n (by omega) ht, floorA n (by omega) ht]
  simp -implicitDefEqProofs only [gb_some_eq]
  unfold cfB
  rw [show -((-(a.frm - b.frm - b.len + 1)) / t) = cfLo t a b from rfl, show (a.frm + a.len - b.frm - 1) / t = cfHi t a b from rfl]
  cases decide (cfLo t a b > cfHi t a b) with
  | true => rfl
  | false =>
    cases a.train != b.train with
    | true => rfl
    | false =>
      cases h0 : a.laps == 0 with
      | true => rfl
      | false =>
        have h0' : a.laps ≠ 0 := by simpa using h0
        cases a.laps == 1 with
        | true => rfl
        | false => rw [nz_ok h0']; rfl

/-- Uses of different trains with a common second are in conflict. -/
theorem cf_common {t : Int} (ht : 2 ≤ t) {a b : Use} (s : Int) (htr : a.train ≠ b.train) (ha : (s - a.frm) % t < a.len) (hb : (s - b.frm) % t < b.len) : cfB t a b = true := by
  have p1 := Int.mul_ediv_add_emod (s - a.frm) t
  have p2 := Int.mul_ediv_add_emod (s - b.frm) t
  have q1 := Int.emod_nonneg (s - a.frm) (show t ≠ 0 by omega)
  have q2 := Int.emod_nonneg (s - b.frm) (show t ≠ 0 by omega)
  have hk : t * ((s - b.frm) / t - (s - a.frm) / t) = t * ((s - b.frm) / t) - t * ((s - a.frm) / t) := Int.mul_sub ..
  generalize hkk : (s - b.frm) / t - (s - a.frm) / t = k at hk
  have hlo : cfLo t a b ≤ k := by
    unfold cfLo
    have : -k ≤ (-(a.frm - b.frm - b.len + 1)) / t := (Int.le_ediv_iff_mul_le (by omega)).2 (by rw [Int.mul_comm, Int.mul_neg]; omega)
    omega
  have hhi : k ≤ cfHi t a b := (Int.le_ediv_iff_mul_le (by omega)).2 (by rw [Int.mul_comm]; omega)
  unfold cfB
  rw [bif_neg (by simp; omega), bif_pos (by simpa using htr)]
end
end Go.Vx
/-
  The occupancy laws' awake.
-/
namespace Go.Vx
theorem sortI_sorted {zs : List Int} (h : zs.Pairwise (fun x y => decide (x ≤ y) = true)) : sortI zs = zs := by
  unfold sortI
  exact List.mergeSort_of_pairwise h
theorem occAwake (n : Nat) (hn : 512 < n) : law19_awake n some = some true := by
  obtain ⟨m, rfl⟩ : ∃ m, n = m + 12 := ⟨n - 12, by omega⟩
  have h1 : occupancy_Free (m + 12) (5 : Int) [[D.int .i64 (0 : Int), D.int .i64 (3 : Int), D.int .i64 (1 : Int), D.int .i64 (2 : Int), D.int .i64 (0 : Int)]] some = some true := rfl
  have h2 : occupancy_At (m + 12) (5 : Int) [[D.int .i64 (0 : Int), D.int .i64 (3 : Int), D.int .i64 (1 : Int), D.int .i64 (2 : Int), D.int .i64 (0 : Int)]] (0 : Int) (7 : Int) some =
      gb true (intsX (intRowsS (sortI [3]))) [] fun z60 => gb true (room (List.length z60)) () fun u61 => some (intRowsS (compI z60)) := rfl
  rw [sortI_sorted (by simp)] at h2
  unfold law19_awake law19_awake_p1
  rw [h1, h2]
  rfl
end Go.Vx
/-
  Plain laws of occupancy: some, At, Free.
-/
set_option linter.unusedSimpArgs false
set_option linter.unusedVariables false
namespace Go.Vx
section
variable {R : Type}

/-- The uses that 'some' makes. -/
def Use.made (u : Use) : Prop := 0 ≤ u.res ∧ u.res < 3 ∧ 0 ≤ u.train ∧ u.train < 3 ∧ -20 ≤ u.frm ∧ u.frm < 40 ∧ 1 ≤ u.len ∧ u.len ≤ 14 ∧ 0 ≤ u.laps ∧ u.laps < 4
theorem Use.made_ok {u : Use} (h : u.made) : u.ok := by
  obtain ⟨h1, h2, h3, h4, h5, h6, h7, h8, h9, h10⟩ := h
  unfold Use.ok
  omega

theorem some_r6 (n : Nat) {l : List Int} (hl : l.length ≤ 9223372036854775807) : ∀ (c m : Nat) (us : List Use) (i : Nat), c < m → c + us.length ≤ 7 → i ≤ l.length → (∀ u ∈ us, u.made) →
    ∃ vs : List Use, vs.length ≤ 7 ∧ (∀ u ∈ vs, u.made) ∧ ∃ (j : Nat), ∀ (R : Type) (k0 : Int → Bool → (List (List D)) → (List (List D)) → Int → Option R), law19_some_r6 n k0 m (c : Int) (encU us) (encI l) (i : Int) = k0 0 false (encU vs) (encI l) (j : Int)
  | 0, m, us, i, hm, hc, hi, hu => by
    obtain ⟨m, rfl⟩ : ∃ m', m = m' + 1 := ⟨m - 1, by omega⟩
    refine ⟨us, by omega, hu, i, fun R k0 => ?_⟩
    rw [law19_some_r6]
    unfold law19_some_p5
    rw [bif_neg (by simp)]
    rfl
  | c + 1, m, us, i, hm, hc, hi, hu => by
    obtain ⟨m, rfl⟩ : ∃ m', m = m' + 1 := ⟨m - 1, by omega⟩
    obtain ⟨v1, i1, a1, b1, c1, e1⟩ := nextA n hl hi (m := 3) (by omega) (by omega)
    obtain ⟨v2, i2, a2, b2, c2, e2⟩ := nextA n hl c1 (m := 3) (by omega) (by omega)
    obtain ⟨v3, i3, a3, b3, c3, e3⟩ := nextA n hl c2 (m := 60) (by omega) (by omega)
    obtain ⟨v4, i4, a4, b4, c4, e4⟩ := nextA n hl c3 (m := 14) (by omega) (by omega)
    obtain ⟨v5, i5, a5, b5, c5, e5⟩ := nextA n hl c4 (m := 4) (by omega) (by omega)
    obtain ⟨vs, g1, g2, j, g3⟩ := some_r6 n hl c m (us ++ [⟨v1, v2, v3 - 20, 1 + v4, v5⟩]) i5 (by omega) (by simp; omega) c5 (fun u hu' => by
      rcases List.mem_append.1 hu' with h | h
      · exact hu u h
      · rw [List.mem_singleton] at h; subst h; unfold Use.made; simp only; omega)
    refine ⟨vs, g1, g2, j, fun R k0 => ?_⟩
    rw [law19_some_r6]
    unfold law19_some_p5
    rw [bif_pos (by rw [decide_eq_true_eq]; omega)]
    simp -implicitDefEqProofs only [e1, e2, e3, e4, e5, gb_some_eq]
    rw [room_ok (by simp only [encU_length, List.length_singleton]; omega), gb_some_eq, wrap64' (x := v3 - 20) (by omega) (by omega), wrap64' (x := 1 + v4) (by omega) (by omega), wrap64' (by omega) (by omega), show (((c + 1 : Nat) : Int) - 1) = (c : Int) by omega]
    rw [← g3 R k0]
    congr 1
    simp [encU, Use.row]

theorem someA (n : Nat) (hn : 8 < n) {l : List Int} (hl : l.length ≤ 9223372036854775807) : ∃ us : List Use, us.length ≤ 7 ∧ (∀ u ∈ us, u.made) ∧ ∀ (R : Type) (K : List (List D) → Option R), law19_some n (encI l) K = K (encU us) := by
  obtain ⟨v, i, a, b, c, e⟩ := nextA n hl (i := 0) (by omega) (m := 8) (by omega) (by omega)
  obtain ⟨vs, g1, g2, j, g3⟩ := some_r6 n hl v.toNat n [] i (by omega) (by simp; omega) c (by simp)
  refine ⟨vs, g1, g2, fun R K => ?_⟩
  simp -implicitDefEqProofs only [law19_some, law19_some_p13, law19_some_p12, law19_some_p11, law19_some_p10, law19_some_p9, law19_some_p8, law19_some_p7, law19_some_p6, law19_some_p4, law19_some_p3, law19_some_p2, law19_some_p1, keep_From, keep_From_p1, gb_some_eq]
  rw [show (0 : Int) = ((0 : Nat) : Int) from rfl, e]
  simp -implicitDefEqProofs only [gb_some_eq]
  have hv : v = ((v.toNat : Nat) : Int) := by omega
  rw [hv, show ([] : List (List D)) = encU [] from rfl, g3]

/-! At -/

def holds (t r s : Int) (u : Use) : Bool := bif (u.res == r) then (decide (mod (s - u.frm) t < u.len)) else false
def trainsAt (t r s : Int) (us : List Use) : List Int := (us.filter (holds t r s)).map (·.train)

theorem intRowsS_encI (l : List Int) : intRowsS l = encI l := rfl
theorem intsX_encI (l : List Int) : intsX (encI l) = some l := by
  induction l with
  | nil => rfl
  | cons a l ih => show (match intsX (encI l) with | some l => some (a :: l) | none => none) = _; rw [ih]

theorem at_r7 (n : Nat) {us : List Use} (hL : us.length ≤ 1000000000) (hok : ∀ u ∈ us, u.ok) {t : Int} (ht : 2 ≤ t ∧ t ≤ 7200) (r : Int) {s : Int} (hs : 0 ≤ s ∧ s < 7200) (k0 : Int → Bool → List (List D) → Option R) : ∀ (suf : List Use) (i m : Nat) (out : List Int), us.drop i = suf → i ≤ us.length → out.length ≤ i → suf.length < m →
    occupancy_At_r7 n t r s (encU us) (us.length : Nat) k0 m (i : Int) (encI out) = k0 (us.length : Nat) false (encI (out ++ trainsAt t r s suf))
  | [], i, m, out, hd, hi, ho, hm => by
    obtain ⟨m, rfl⟩ : ∃ m', m = m' + 1 := ⟨m - 1, by omega⟩
    have := drop_nil hd
    obtain rfl : i = us.length := by omega
    rw [occupancy_At_r7]
    unfold occupancy_At_p6
    rw [bif_neg (by simp)]
    simp [trainsAt]
  | u :: suf, i, m, out, hd, hi, ho, hm => by
    obtain ⟨m, rfl⟩ : ∃ m', m = m' + 1 := ⟨m - 1, by omega⟩
    obtain ⟨h1, h2, h3⟩ := drop_cons hd
    have hu := hok u (List.mem_of_getElem? h1)
    obtain ⟨u1, u2, u3, u4, u5, u6, u7, u8⟩ := hu
    rw [occupancy_At_r7]
    unfold occupancy_At_p6
    rw [bif_pos (by simp; omega), encU_get h1]
    simp -implicitDefEqProofs only [Use.row, gb_some_eq, List.getElem?_cons_zero, List.getElem?_cons_succ, pInt_i64]
    rw [wrap64' (x := s - u.frm) (by omega) (by omega), modA n _ t (by omega), gb_some_eq, wrap64' (x := (i : Int) + 1) (by omega) (by omega), show ((i : Int) + 1) = ((i + 1 : Nat) : Int) from rfl]
    show (bif holds t r s u then _ else _) = _
    have htr : trainsAt t r s (u :: suf) = (if holds t r s u = true then [u.train] else []) ++ trainsAt t r s suf := by
      unfold trainsAt
      rw [List.filter_cons]
      split <;> rfl
    rw [htr]
    cases holds t r s u with
    | true =>
      rw [cond_true, room_ok (by simp [encI_length]; omega), gb_some_eq]
      rw [show encI out ++ [[D.int .i64 u.train]] = encI (out ++ [u.train]) by simp [encI], at_r7 n hL hok ht r hs k0 suf (i + 1) m _ h2 (by omega) (by simp; omega) (by simp at hm; omega)]
      simp
    | false =>
      rw [cond_false, at_r7 n hL hok ht r hs k0 suf (i + 1) m _ h2 (by omega) (by omega) (by simp at hm; omega)]
      simp

theorem atA (n : Nat) {us : List Use} (hn : us.length < n) (hL : us.length ≤ 1000000000) {t : Int} (ht : t ≤ 9223372036854775807) (r s : Int) (K : List (List D) → Option R) : occupancy_At n t (encU us) r s K = bif validU t us then K (encI (compI (sortI (trainsAt t r (mod s t) us)))) else K [] := by
  simp -implicitDefEqProofs only [occupancy_At, occupancy_At_p15, occupancy_At_p14, occupancy_At_p13, occupancy_At_p12, occupancy_At_p11, occupancy_At_p10, occupancy_At_p9, occupancy_At_p8, occupancy_At_p7, occupancy_At_p5, occupancy_At_p4, occupancy_At_p3, occupancy_At_p2, occupancy_At_p1, validA n hn (by omega), gb_some_eq, modA n s t ht, encU_length]
  cases hv : validU t us with
  | false => rfl
  | true =>
    obtain ⟨h1, h2⟩ := (validU_iff t us).1 hv
    have hm1 := mod_nonneg s t
    have hm2 := mod_lt s (t := t) (by omega)
    rw [show (0 : Int) = ((0 : Nat) : Int) from rfl, show ([] : List (List D)) = encI [] from rfl, at_r7 n hL h2 h1 r ⟨hm1, by omega⟩ _ us 0 n [] rfl (by omega) (by simp) hn]
    have hlen : (trainsAt t r (mod s t) us).length ≤ us.length := by
      unfold trainsAt
      rw [List.length_map]
      exact List.length_filter_le ..
    rw [List.nil_append, intsX_encI, gb_some_eq, room_ok (by omega), gb_some_eq, intRowsS_encI, intsX_encI, gb_some_eq, room_ok (by unfold sortI; rw [List.length_mergeSort]; omega), gb_some_eq, intRowsS_encI]
    rfl
end
end Go.Vx
/-
  Plain laws of occupancy: visit under Free.
-/
set_option linter.unusedSimpArgs false
set_option linter.unusedVariables false
namespace Go.Vx
section
variable {R : Type}

def rsOf (us : List Use) : List Int := us.map (·.res)
/-- The later uses of the same resource. -/
def jsOf (us : List Use) (i : Nat) : List Nat := (List.range' i (us.length - i)).filter fun j => (rsOf us).getD j 0 == (rsOf us).getD i 0
def useAt (us : List Use) (i : Nat) : Use := us.getD i default
theorem useAt_get {us : List Use} {i : Nat} {u : Use} (h : us[i]? = some u) : useAt us i = u := by simp [useAt, List.getD_eq_getElem?_getD, h]
def encN (l : List Nat) : List (List D) := l.map fun (j : Nat) => [D.int .i64 (j : Int)]

theorem resX_enc {us : List Use} (h : ∀ u ∈ us, 0 ≤ u.res ∧ u.res ≤ 9223372036854775807) : resX (encU us) = some (rsOf us) := by
  induction us with
  | nil => rfl
  | cons u us ih =>
    have h1 := h u (List.mem_cons_self ..)
    have h2 := ih (fun v hv => h v (List.mem_cons_of_mem _ hv))
    show (bif decide (-9223372036854775808 ≤ u.res) && decide (u.res ≤ 9223372036854775807) then match resX (encU us) with
      | some s => some (u.res :: s)
      | none => none
    else none) = _
    rw [h2, decide_eq_true (by omega), decide_eq_true (by omega)]
    rfl

theorem visPreA {us : List Use} (h : ∀ u ∈ us, 0 ≤ u.res ∧ u.res ≤ 9223372036854775807) (hL : us.length ≤ 1000000000) (k : (Int → List (List D)) → List (List D) → Option R) : visPre (encU us) k = k (grpF (rsOf us)) (posL (rsOf us) us.length) := by
  unfold visPre
  rw [resX_enc h]
  have hl : (rsOf us).length = us.length := by simp [rsOf]
  simp only [hl, Nat.ble_eq_true_of_le hL, cond_true]

theorem grp_drop (rs : List Int) {i N : Nat} (hi : i ≤ N) (r : Int) : (grpI rs N r).drop (grpI rs i r).length = ((List.range' i (N - i)).filter fun j => rs.getD j 0 == r).map fun (j : Nat) => (j : Int) := by
  have hr : List.range N = List.range i ++ List.range' i (N - i) := by
    rw [List.range_eq_range', List.range_eq_range']
    have := List.range'_append (s := 0) (m := i) (n := N - i) (step := 1)
    rw [show i + (N - i) = N by omega] at this
    simpa using this.symm
  unfold grpI
  rw [hr, List.filter_append, List.map_append, List.drop_left']
  rfl

theorem cut_all {α : Type} {l : List α} {k : Nat} (h : k ≤ l.length) : cut l (k, l.length) = l.drop k := by
  unfold cut
  exact List.take_of_length_le (by simp)

theorem slB_from {len k : Nat} (h : k ≤ len) : slB len (some (k : Int)) none = some (k, len) := by
  unfold slB
  simp [h]

theorem posL_last (rs : List Int) {i : Nat} (h : i < rs.length) : rowAt (posL rs rs.length) (i : Int) = some [.int .i64 ((grpI rs i (rs.getD i 0)).length : Nat)] := by
  unfold posL
  rw [Nat.sub_self, List.replicate_zero, List.append_nil]
  rw [rowAt_map]
  rw [List.getElem?_range h]
  rfl

/-- The group's end, as the second loop takes it. -/
theorem grp_cut {us : List Use} {i : Nat} (hi : i < us.length) :
    (grpI (rsOf us) i ((rsOf us).getD i 0)).length ≤ (grpF (rsOf us) ((rsOf us).getD i 0)).length ∧ (grpF (rsOf us) ((rsOf us).getD i 0)).drop (grpI (rsOf us) i ((rsOf us).getD i 0)).length = encN (jsOf us i) := by
  have hl : (rsOf us).length = us.length := by simp [rsOf]
  have h2 : (grpF (rsOf us) ((rsOf us).getD i 0)).drop (grpI (rsOf us) i ((rsOf us).getD i 0)).length = encN (jsOf us i) := by
    unfold grpF
    rw [← List.map_drop, hl, grp_drop _ (by omega), List.map_map]
    rfl
  refine ⟨?_, h2⟩
  unfold grpF
  rw [List.length_map, hl]
  have hr : List.range us.length = List.range i ++ List.range' i (us.length - i) := by
    rw [List.range_eq_range', List.range_eq_range']
    have := List.range'_append (s := 0) (m := i) (n := us.length - i) (step := 1)
    rw [show i + (us.length - i) = us.length by omega] at this
    simpa using this.symm
  unfold grpI
  rw [hr, List.filter_append, List.map_append, List.length_append]
  omega

theorem jsOf_mem {us : List Use} {i j : Nat} : j ∈ jsOf us i ↔ i ≤ j ∧ j < us.length ∧ (rsOf us).getD j 0 = (rsOf us).getD i 0 := by
  unfold jsOf
  rw [List.mem_filter, List.mem_range'_1]
  simp only [beq_iff_eq]
  omega

theorem visit_r7 (n : Nat) {us : List Use} (hL : us.length ≤ 1000000000) (hok : ∀ u ∈ us, u.ok) {t : Int} (ht : 2 ≤ t) {G : Int → List (List D)} {p : List (List D)} {h9 w2 : Int} {u : Use} (hu : u.ok) {js : List Nat} (hjs : ∀ j ∈ js, j < us.length) (hjl : js.length ≤ 1000000000)
    {k0 k1 : Int → Bool → Bool → Option R} {kx ky : Option R} (hk0 : ∀ x, k0 x true false = kx) (hk1 : ∀ x b, k1 x b true = ky) : ∀ (suf : List Nat) (i m : Nat), js.drop i = suf → i ≤ js.length → suf.length < m →
    occupancy_visit_s1_r7 n t (encU us) G p h9 w2 (encN js) (js.length : Nat) (.int .i64 u.res) (.int .i64 u.train) (.int .i64 u.frm) (.int .i64 u.len) (.int .i64 u.laps) k0 k1 m (i : Int) true = bif suf.any (fun j => cfB t u (useAt us j)) then kx else ky
  | [], i, m, hd, hi, hm => by
    obtain ⟨m, rfl⟩ : ∃ m', m = m' + 1 := ⟨m - 1, by omega⟩
    have := drop_nil hd
    obtain rfl : i = js.length := by omega
    rw [occupancy_visit_s1_r7]
    unfold occupancy_visit_s1_p6
    rw [bif_neg (by simp)]
    exact hk1 _ _
  | j :: suf, i, m, hd, hi, hm => by
    obtain ⟨m, rfl⟩ : ∃ m', m = m' + 1 := ⟨m - 1, by omega⟩
    obtain ⟨h1, h2, h3⟩ := drop_cons hd
    have hj := hjs j (List.mem_of_getElem? h1)
    have hg := List.getElem?_eq_getElem hj
    have hv := hok _ (List.mem_of_getElem? hg)
    rw [occupancy_visit_s1_r7]
    unfold occupancy_visit_s1_p6
    rw [bif_pos (by simp; omega), show rowAt (encN js) (i : Int) = some [D.int .i64 (j : Int)] from rowAt_get h1]
    simp -implicitDefEqProofs only [gb_some_eq, List.getElem?_cons_zero, pInt_i64]
    rw [encU_get hg]
    simp -implicitDefEqProofs only [Use.row, gb_some_eq, List.getElem?_cons_zero, List.getElem?_cons_succ, pInt_i64]
    rw [conflictA n ht hu hv, gb_some_eq, wrap64' (by omega) (by omega), show ((i : Int) + 1) = ((i + 1 : Nat) : Int) from rfl, visit_r7 n hL hok ht hu hjs hjl hk0 hk1 suf (i + 1) m h2 (by omega) (by simp at hm; omega)]
    rw [List.any_cons, useAt_get hg]
    cases cfB t u us[j] with
    | true => exact hk0 _
    | false => rfl

def freeAt (t : Int) (us : List Use) (i : Nat) : Bool := !(jsOf us i).any fun j => cfB t (useAt us i) (useAt us j)
def freeB (t : Int) (us : List Use) : Bool := (List.range' 0 us.length).all (freeAt t us)

theorem jsOf_len (us : List Use) (i : Nat) : (jsOf us i).length ≤ us.length := by
  unfold jsOf
  refine Nat.le_trans (List.length_filter_le ..) ?_
  simp

theorem visit_r16 (n : Nat) {us : List Use} (hn : us.length < n) (hL : us.length ≤ 1000000000) (hok : ∀ u ∈ us, u.ok) {t : Int} (ht : 2 ≤ t)
    {k0 : Int → List (List D) → Int → Int → Bool → D → D → D → D → D → Bool → Option R} {k1 : Int → Bool → Bool → Option R} {kx ky : Option R} (hk0 : ∀ x1 x2 x3 x4 x5 x6 x7 x8 x9 x10, k0 x1 x2 x3 x4 x5 x6 x7 x8 x9 x10 false = kx) (hk1 : ∀ x b, k1 x b true = ky) : ∀ (c i m : Nat), i + c = us.length → c < m →
    occupancy_visit_s1_r16 n t (encU us) (grpF (rsOf us)) (posL (rsOf us) us.length) (us.length : Nat) k0 k1 m (i : Int) true = bif (List.range' i c).all (freeAt t us) then ky else kx
  | 0, i, m, hi, hm => by
    obtain ⟨m, rfl⟩ : ∃ m', m = m' + 1 := ⟨m - 1, by omega⟩
    rw [occupancy_visit_s1_r16]
    simp -implicitDefEqProofs only [occupancy_visit_s1_p15, occupancy_visit_s1_p14, occupancy_visit_s1_p3, occupancy_visit_s1_p2]
    rw [bif_neg (by rw [decide_eq_false_iff_not]; omega)]
    exact hk1 _ _
  | c + 1, i, m, hi, hm => by
    obtain ⟨m, rfl⟩ : ∃ m', m = m' + 1 := ⟨m - 1, by omega⟩
    have hlt : i < us.length := by omega
    have hg := List.getElem?_eq_getElem hlt
    have hu := hok _ (List.mem_of_getElem? hg)
    have hres : (rsOf us).getD i 0 = us[i].res := by simp [rsOf, List.getD_eq_getElem?_getD, hg]
    have hl : (rsOf us).length = us.length := by simp [rsOf]
    obtain ⟨q1, q2⟩ := grp_cut hlt
    have hp := posL_last (rsOf us) (i := i) (by omega)
    rw [hl] at hp
    rw [hres] at q1 q2 hp
    rw [occupancy_visit_s1_r16]
    simp -implicitDefEqProofs only [occupancy_visit_s1_p15, occupancy_visit_s1_p14, occupancy_visit_s1_p13, occupancy_visit_s1_p12, occupancy_visit_s1_p11, occupancy_visit_s1_p10, occupancy_visit_s1_p9, occupancy_visit_s1_p8, occupancy_visit_s1_p7, occupancy_visit_s1_p5, occupancy_visit_s1_p4, occupancy_visit_s1_p3, occupancy_visit_s1_p2]
    rw [bif_pos (by rw [decide_eq_true_eq]; omega), encU_get hg]
    simp -implicitDefEqProofs only [Use.row, gb_some_eq, List.getElem?_cons_zero, List.getElem?_cons_succ, pInt_i64, hp]
    rw [slB_from q1]
    simp -implicitDefEqProofs only [gb_some_eq]
    rw [cut_all q1, q2, show (encN (jsOf us i)).length = (jsOf us i).length by simp [encN], show (0 : Int) = ((0 : Nat) : Int) from rfl]
    have hjl := jsOf_len us i
    rw [wrap64' (x := (i : Int) + 1) (by omega) (by omega), show ((i : Int) + 1) = ((i + 1 : Nat) : Int) from rfl]
    have hrest := visit_r16 n hn hL hok ht hk0 hk1 c (i + 1) m (by omega) (by omega)
    rw [visit_r7 n hL hok ht hu (fun j hj => (jsOf_mem.1 hj).2.1) (by omega) (kx := kx) (ky := bif (List.range' (i + 1) c).all (freeAt t us) then ky else kx) (fun x => hk0 ..) (fun x b => hrest) (jsOf us i) 0 n rfl (by omega) (by omega)]
    rw [List.range'_succ, List.all_cons]
    unfold freeAt
    rw [useAt_get hg]
    cases (jsOf us i).any (fun j => cfB t us[i] (useAt us j)) <;> rfl

theorem freeA (n : Nat) {us : List Use} (hn : us.length < n) (hL : us.length ≤ 1000000000) (hr : ∀ u ∈ us, u.res ≤ 9223372036854775807) (t : Int) (K : Bool → Option R) : occupancy_Free n t (encU us) K = K (validU t us && freeB t us) := by
  simp -implicitDefEqProofs only [occupancy_Free, occupancy_Free_p1, validA n hn (by omega), gb_some_eq]
  cases hv : validU t us with
  | false => rfl
  | true =>
    obtain ⟨h1, h2⟩ := (validU_iff t us).1 hv
    simp -implicitDefEqProofs only [occupancy_visit_s1, visPreA (fun u hu => ⟨(h2 u hu).1, hr u hu⟩) hL, occupancy_visit_s1_p18, occupancy_visit_s1_p17, occupancy_visit_s1_p16, occupancy_visit_s1_p1, encU_length]
    rw [show (0 : Int) = ((0 : Nat) : Int) from rfl, visit_r16 n hn hL h2 h1.1 (kx := some false) (ky := some true) (fun _ _ _ _ _ _ _ _ _ _ => rfl) (fun _ _ => rfl) us.length 0 n (by omega) hn]
    unfold freeB
    cases (List.range' 0 us.length).all (freeAt t us) <;> rfl

theorem freeB_at {t : Int} {us : List Use} (h : freeB t us = true) {i j : Nat} (hij : i ≤ j) {a b : Use} (ha : us[i]? = some a) (hb : us[j]? = some b) (hr : a.res = b.res) : cfB t a b = false := by
  have hi := (List.getElem?_eq_some_iff.1 ha).1
  have hj := (List.getElem?_eq_some_iff.1 hb).1
  have h1 := List.all_eq_true.1 h i (by rw [List.mem_range'_1]; omega)
  unfold freeAt at h1
  simp only [Bool.not_eq_true', List.any_eq_false, Bool.not_eq_true] at h1
  have h2 := h1 j (jsOf_mem.2 ⟨hij, hj, by simp [rsOf, List.getD_eq_getElem?_getD, ha, hb, hr]⟩)
  rwa [useAt_get ha, useAt_get hb] at h2
end
end Go.Vx
/-
  Plain laws of occupancy: Conflicts.
-/
set_option linter.unusedSimpArgs false
set_option linter.unusedVariables false
namespace Go.Vx
section
variable {R : Type}

def encP (l : List (Nat × Nat)) : List (List D) := l.map fun p => [D.int .i64 (p.1 : Int), D.int .i64 (p.2 : Int)]
theorem encP_length (l : List (Nat × Nat)) : (encP l).length = l.length := by simp [encP]
def pairsJ (t : Int) (us : List Use) (i : Nat) (js : List Nat) : List (Nat × Nat) := (js.filter fun j => cfB t (useAt us i) (useAt us j)).map fun j => (i, j)
def pairsU (t : Int) (us : List Use) (is : List Nat) : List (Nat × Nat) := is.flatMap fun i => pairsJ t us i (jsOf us i)

theorem visit3_r7 (n : Nat) {us : List Use} (hL : us.length ≤ 1000000000) (hok : ∀ u ∈ us, u.ok) {t : Int} (ht : 2 ≤ t) {G : Int → List (List D)} {p : List (List D)} {w2 : Int} {i0 : Nat} (hi0 : i0 < us.length) {js : List Nat} (hjs : ∀ j ∈ js, j < us.length) (hjl : js.length ≤ 1000000000)
    {k0 k1 k2 : Int → Bool → List (List D) → Option R} : ∀ (suf : List Nat) (i m : Nat) (acc : List (Nat × Nat)), js.drop i = suf → i ≤ js.length → suf.length < m → acc.length + suf.length ≤ 8000000000000 →
    occupancy_visit_s3_r7 n t (encU us) G p (i0 : Int) w2 (encN js) (js.length : Nat) (.int .i64 us[i0].res) (.int .i64 us[i0].train) (.int .i64 us[i0].frm) (.int .i64 us[i0].len) (.int .i64 us[i0].laps) k0 k1 k2 m (i : Int) (encP acc) = k2 (js.length : Nat) false (encP (acc ++ pairsJ t us i0 suf))
  | [], i, m, acc, hd, hi, hm, ha => by
    obtain ⟨m, rfl⟩ : ∃ m', m = m' + 1 := ⟨m - 1, by omega⟩
    have := drop_nil hd
    obtain rfl : i = js.length := by omega
    rw [occupancy_visit_s3_r7]
    unfold occupancy_visit_s3_p6
    rw [bif_neg (by simp)]
    simp [pairsJ]
  | j :: suf, i, m, acc, hd, hi, hm, ha => by
    obtain ⟨m, rfl⟩ : ∃ m', m = m' + 1 := ⟨m - 1, by omega⟩
    obtain ⟨h1, h2, h3⟩ := drop_cons hd
    have hj := hjs j (List.mem_of_getElem? h1)
    have hg := List.getElem?_eq_getElem hj
    have hv := hok _ (List.mem_of_getElem? hg)
    have hg0 := List.getElem?_eq_getElem hi0
    have hu := hok _ (List.mem_of_getElem? hg0)
    rw [occupancy_visit_s3_r7]
    unfold occupancy_visit_s3_p6
    rw [bif_pos (by simp; omega), show rowAt (encN js) (i : Int) = some [D.int .i64 (j : Int)] from rowAt_get h1]
    simp -implicitDefEqProofs only [gb_some_eq, List.getElem?_cons_zero, pInt_i64]
    rw [encU_get hg]
    simp -implicitDefEqProofs only [Use.row, gb_some_eq, List.getElem?_cons_zero, List.getElem?_cons_succ, pInt_i64, railplan_occupancy_Conflicts_1_s2, railplan_occupancy_Conflicts_1_s2_p1]
    rw [conflictA n ht hu hv, gb_some_eq, wrap64' (by omega) (by omega), show ((i : Int) + 1) = ((i + 1 : Nat) : Int) from rfl]
    have hpj : pairsJ t us i0 (j :: suf) = (if cfB t us[i0] us[j] = true then [(i0, j)] else []) ++ pairsJ t us i0 suf := by
      unfold pairsJ
      rw [List.filter_cons, useAt_get hg0, useAt_get hg]
      split <;> rfl
    rw [hpj]
    simp only [List.length_cons] at ha hm
    cases cfB t us[i0] us[j] with
    | true =>
      rw [room_ok (by simp only [encP_length, List.length_singleton]; omega)]
      simp -implicitDefEqProofs only [gb_some_eq, cond_true]
      rw [show encP acc ++ [[D.int .i64 (i0 : Int), D.int .i64 (j : Int)]] = encP (acc ++ [(i0, j)]) by simp [encP]]
      show occupancy_visit_s3_r7 n t (encU us) G p (i0 : Int) w2 (encN js) (js.length : Nat) _ _ _ _ _ k0 k1 k2 m ((i + 1 : Nat) : Int) (encP (acc ++ [(i0, j)])) = _
      rw [visit3_r7 n hL hok ht hi0 hjs hjl suf (i + 1) m _ h2 (by omega) (by omega) (by simp; omega)]
      simp
    | false =>
      show occupancy_visit_s3_r7 n t (encU us) G p (i0 : Int) w2 (encN js) (js.length : Nat) _ _ _ _ _ k0 k1 k2 m ((i + 1 : Nat) : Int) (encP acc) = _
      rw [visit3_r7 n hL hok ht hi0 hjs hjl suf (i + 1) m _ h2 (by omega) (by omega) (by omega)]
      simp

theorem pairsJ_len (t : Int) (us : List Use) (i : Nat) (js : List Nat) : (pairsJ t us i js).length ≤ js.length := by
  unfold pairsJ
  rw [List.length_map]
  exact List.length_filter_le ..

theorem visit3_r16 (n : Nat) {us : List Use} (hn : us.length < n) (hL : us.length ≤ 2000000) (hok : ∀ u ∈ us, u.ok) {t : Int} (ht : 2 ≤ t)
    {k0 k1 : Int → List (List D) → Int → Int → Bool → D → D → D → D → D → List (List D) → Option R} {k2 : Int → Bool → List (List D) → Option R} : ∀ (c i m : Nat) (acc : List (Nat × Nat)), i + c = us.length → c < m → acc.length ≤ i * 2000000 →
    occupancy_visit_s3_r16 n t (encU us) (grpF (rsOf us)) (posL (rsOf us) us.length) (us.length : Nat) k0 k1 k2 m (i : Int) (encP acc) = k2 (us.length : Nat) false (encP (acc ++ pairsU t us (List.range' i c)))
  | 0, i, m, acc, hi, hm, ha => by
    obtain ⟨m, rfl⟩ : ∃ m', m = m' + 1 := ⟨m - 1, by omega⟩
    obtain rfl : i = us.length := by omega
    rw [occupancy_visit_s3_r16]
    simp -implicitDefEqProofs only [occupancy_visit_s3_p15, occupancy_visit_s3_p14, occupancy_visit_s3_p3, occupancy_visit_s3_p2]
    rw [bif_neg (by simp)]
    simp [pairsU]
  | c + 1, i, m, acc, hi, hm, ha => by
    obtain ⟨m, rfl⟩ : ∃ m', m = m' + 1 := ⟨m - 1, by omega⟩
    have hlt : i < us.length := by omega
    have hg := List.getElem?_eq_getElem hlt
    have hu := hok _ (List.mem_of_getElem? hg)
    have hres : (rsOf us).getD i 0 = us[i].res := by simp [rsOf, List.getD_eq_getElem?_getD, hg]
    have hl : (rsOf us).length = us.length := by simp [rsOf]
    obtain ⟨q1, q2⟩ := grp_cut hlt
    have hp := posL_last (rsOf us) (i := i) (by omega)
    rw [hl] at hp
    rw [hres] at q1 q2 hp
    rw [occupancy_visit_s3_r16]
    simp -implicitDefEqProofs only [occupancy_visit_s3_p15, occupancy_visit_s3_p14, occupancy_visit_s3_p13, occupancy_visit_s3_p12, occupancy_visit_s3_p11, occupancy_visit_s3_p10, occupancy_visit_s3_p9, occupancy_visit_s3_p8, occupancy_visit_s3_p7, occupancy_visit_s3_p5, occupancy_visit_s3_p4, occupancy_visit_s3_p3, occupancy_visit_s3_p2]
    rw [bif_pos (by rw [decide_eq_true_eq]; omega), encU_get hg]
    simp -implicitDefEqProofs only [Use.row, gb_some_eq, List.getElem?_cons_zero, List.getElem?_cons_succ, pInt_i64, hp]
    rw [slB_from q1]
    simp -implicitDefEqProofs only [gb_some_eq]
    rw [cut_all q1, q2, show (encN (jsOf us i)).length = (jsOf us i).length by simp [encN], show (0 : Int) = ((0 : Nat) : Int) from rfl]
    have hjl := jsOf_len us i
    have hpl := pairsJ_len t us i (jsOf us i)
    rw [wrap64' (x := (i : Int) + 1) (by omega) (by omega), show ((i : Int) + 1) = ((i + 1 : Nat) : Int) from rfl]
    rw [visit3_r7 n (by omega) hok ht hlt (fun j hj => (jsOf_mem.1 hj).2.1) (by omega) (jsOf us i) 0 n acc rfl (by omega) (by omega) (by omega)]
    rw [visit3_r16 n hn hL hok ht c (i + 1) m _ (by omega) (by omega) (by rw [List.length_append]; omega)]
    rw [List.range'_succ]
    simp [pairsU]

theorem conflictsA (n : Nat) {us : List Use} (hn : us.length < n) (hL : us.length ≤ 2000000) (hr : ∀ u ∈ us, u.res ≤ 9223372036854775807) (t : Int) (K : List (List D) → Option R) : occupancy_Conflicts n t (encU us) K = K (if validU t us = true then encP (pairsU t us (List.range' 0 us.length)) else []) := by
  simp -implicitDefEqProofs only [occupancy_Conflicts, occupancy_Conflicts_p1, validA n hn (by omega), gb_some_eq]
  cases hv : validU t us with
  | false => rfl
  | true =>
    obtain ⟨h1, h2⟩ := (validU_iff t us).1 hv
    simp -implicitDefEqProofs only [occupancy_visit_s3, visPreA (fun u hu => ⟨(h2 u hu).1, hr u hu⟩) (show us.length ≤ 1000000000 by omega), occupancy_visit_s3_p18, occupancy_visit_s3_p17, occupancy_visit_s3_p16, occupancy_visit_s3_p1, encU_length]
    rw [show (0 : Int) = ((0 : Nat) : Int) from rfl, show ([] : List (List D)) = encP [] from rfl, visit3_r16 n hn hL h2 h1.1 us.length 0 n [] (by omega) hn (by simp)]
    rfl

theorem pairsU_mem {t : Int} {us : List Use} {is : List Nat} {i j : Nat} : (i, j) ∈ pairsU t us is ↔ i ∈ is ∧ j ∈ jsOf us i ∧ cfB t (useAt us i) (useAt us j) = true := by
  unfold pairsU pairsJ
  simp only [List.mem_flatMap, List.mem_map, List.mem_filter, Prod.mk.injEq]
  constructor
  · rintro ⟨a, ha, b, ⟨hb, hc⟩, rfl, rfl⟩
    exact ⟨ha, hb, hc⟩
  · rintro ⟨ha, hb, hc⟩
    exact ⟨i, ha, j, ⟨hb, hc⟩, rfl, rfl⟩
end
end Go.Vx
/-
  The plain law OccupancyConflictIsCommon.
-/
set_option linter.unusedSimpArgs false
set_option linter.unusedVariables false
namespace Go.Vx
section
variable {R : Type}

theorem flat_encP (ps : List (Nat × Nat)) : flatRs [encP ps] = some () := by
  have : flatR (encP ps) = true := by
    unfold flatR encP
    rw [List.all_eq_true]
    intro r hr
    obtain ⟨p, _, rfl⟩ := List.mem_map.1 hr
    rfl
  unfold flatRs
  simp [this]

def Use.as (u : Use) (i : Nat) : Use := ⟨u.res, (i : Int), u.frm, u.len, u.laps⟩
theorem encU_at {us : List Use} {i : Nat} {u : Use} (h : us[i]? = some u) : (encU us)[Int.toNat (i : Int)]? = some u.row := by
  rw [Int.toNat_natCast]
  simp [encU, h]

theorem common_r6 (n : Nat) (w3 : Int) {us : List Use} (hL : us.length ≤ 1000000000) (k0 : Int → Bool → List (List D) → Option R) : ∀ (c i m : Nat) (ws : List Use), i + c = us.length → c < m → ws.length = us.length → (∀ j, j < i → ws[j]? = (us[j]?).map (Use.as · j)) → (∀ j, i ≤ j → ws[j]? = us[j]?) →
    ∃ vs : List Use, vs.length = us.length ∧ (∀ j, vs[j]? = (us[j]?).map (Use.as · j)) ∧ law19_OccupancyConflictIsCommon_r6 n w3 (us.length : Nat) k0 m (i : Int) (encU ws) = k0 (us.length : Nat) false (encU vs)
  | 0, i, m, ws, hi, hm, hw, h1, h2 => by
    obtain ⟨m, rfl⟩ : ∃ m', m = m' + 1 := ⟨m - 1, by omega⟩
    obtain rfl : i = us.length := by omega
    refine ⟨ws, hw, fun j => ?_, ?_⟩
    · rcases Nat.lt_or_ge j us.length with h | h
      · exact h1 j h
      · rw [h2 j h, List.getElem?_eq_none h]; rfl
    · rw [law19_OccupancyConflictIsCommon_r6]
      unfold law19_OccupancyConflictIsCommon_p5
      rw [bif_neg (by simp)]
      simp
  | c + 1, i, m, ws, hi, hm, hw, h1, h2 => by
    obtain ⟨m, rfl⟩ : ∃ m', m = m' + 1 := ⟨m - 1, by omega⟩
    have hlt : i < us.length := by omega
    have hg := List.getElem?_eq_getElem hlt
    have hgw := h2 i (Nat.le_refl i)
    rw [hg] at hgw
    obtain ⟨vs, e1, e2, e3⟩ := common_r6 n w3 hL k0 c (i + 1) m (ws.set i (us[i].as i)) (by omega) (by omega) (by simp [hw]) (fun j hj => by
      by_cases e : j = i
      · subst e; rw [List.getElem?_set_self (by omega), hg]; rfl
      · rw [List.getElem?_set_ne (fun h => e h.symm)]; exact h1 j (by omega)) (fun j hj => by
      rw [List.getElem?_set_ne (by omega)]; exact h2 j (by omega))
    refine ⟨vs, e1, e2, ?_⟩
    rw [law19_OccupancyConflictIsCommon_r6]
    unfold law19_OccupancyConflictIsCommon_p5
    rw [bif_pos (by rw [decide_eq_true_eq]; omega), inB_ok (by omega) (by rw [encU_length]; omega), gb_some_eq, encU_at hgw, gb_some_eq, wrap64' (by omega) (by omega), show ((i : Int) + 1) = ((i + 1 : Nat) : Int) from rfl]
    rw [← e3]
    congr 1
    rw [Int.toNat_natCast]
    unfold encU
    rw [List.map_set]
    rfl

def bothS (t : Int) (a b : Use) (s : Nat) : Bool := bif (decide (mod ((s : Int) - a.frm) t < a.len)) then (decide (mod ((s : Int) - b.frm) t < b.len)) else false

theorem common_r19 (n : Nat) {t : Int} (ht : 2 ≤ t ∧ t ≤ 31) {vs : List Use} (hL : vs.length ≤ 1000000000) {i k : Nat} {a b : Use} (ha : vs[i]? = some a) (hb : vs[k]? = some b) (oa : a.ok) (ob : b.ok) {w39 : Int} {w37 : List (List D)} (k0 : Bool → Int → Bool → Option R) : ∀ (c s m : Nat) (x : Bool), s + c = t.toNat → c < m →
    law19_OccupancyConflictIsCommon_r19 n t (i : Int) (k : Int) w39 (encU vs) w37 k0 m x (s : Int) = k0 (x || (List.range' s c).any (bothS t a b)) t false
  | 0, s, m, x, hs, hm => by
    obtain ⟨m, rfl⟩ : ∃ m', m = m' + 1 := ⟨m - 1, by omega⟩
    have hst : (s : Int) = t := by omega
    rw [law19_OccupancyConflictIsCommon_r19]
    unfold law19_OccupancyConflictIsCommon_p18
    rw [hst, bif_neg (by simp)]
    simp
  | c + 1, s, m, x, hs, hm => by
    obtain ⟨m, rfl⟩ : ∃ m', m = m' + 1 := ⟨m - 1, by omega⟩
    have hi := (List.getElem?_eq_some_iff.1 ha).1
    have hk := (List.getElem?_eq_some_iff.1 hb).1
    have oa' := oa
    have ob' := ob
    obtain ⟨a1, a2, a3, a4, a5, a6, a7, a8⟩ := oa'
    obtain ⟨b1, b2, b3, b4, b5, b6, b7, b8⟩ := ob'
    rw [law19_OccupancyConflictIsCommon_r19]
    unfold law19_OccupancyConflictIsCommon_p18
    rw [bif_pos (by rw [decide_eq_true_eq]; omega), inB_ok (n := (i : Int)) (by omega) (by rw [encU_length]; omega), inB_ok (n := (k : Int)) (by omega) (by rw [encU_length]; omega), encU_at ha, encU_at hb]
    simp -implicitDefEqProofs only [Use.row, gb_some_eq, List.getElem?_cons_zero, List.getElem?_cons_succ, pInt_i64, modB n _ t (by omega)]
    rw [wrap64' (x := (s : Int) - a.frm) (by omega) (by omega), wrap64' (x := (s : Int) - b.frm) (by omega) (by omega), wrap64' (x := (s : Int) + 1) (by omega) (by omega), show ((s : Int) + 1) = ((s + 1 : Nat) : Int) from rfl]
    rw [common_r19 n ht hL ha hb oa ob k0 c (s + 1) m _ (by omega) (by omega)]
    rw [List.range'_succ, List.any_cons]
    unfold bothS
    congr 1
    cases x <;> rfl

theorem common_r25 (n : Nat) {ps : List (Nat × Nat)} (hL : ps.length ≤ 1000000000) {i k : Nat} {t w39 : Int} {w529 : Bool} {w34 : List (List D)} (k0 : Bool → Int → Bool → Option R) : ∀ (suf : List (Nat × Nat)) (j m : Nat) (x : Bool), ps.drop j = suf → j ≤ ps.length → suf.length < m →
    law19_OccupancyConflictIsCommon_r25 n t (i : Int) (k : Int) w529 w39 (ps.length : Nat) w34 (encP ps) k0 m x (j : Int) = k0 (x || suf.any fun p => ((p.1 : Int) == (k : Int)) && ((p.2 : Int) == (i : Int))) (ps.length : Nat) false
  | [], j, m, x, hd, hj, hm => by
    obtain ⟨m, rfl⟩ : ∃ m', m = m' + 1 := ⟨m - 1, by omega⟩
    have := drop_nil hd
    obtain rfl : j = ps.length := by omega
    rw [law19_OccupancyConflictIsCommon_r25]
    unfold law19_OccupancyConflictIsCommon_p24
    rw [bif_neg (by simp)]
    simp
  | p :: suf, j, m, x, hd, hj, hm => by
    obtain ⟨m, rfl⟩ : ∃ m', m = m' + 1 := ⟨m - 1, by omega⟩
    obtain ⟨h1, h2, h3⟩ := drop_cons hd
    have hrow : (encP ps)[Int.toNat (j : Int)]? = some [D.int .i64 (p.1 : Int), D.int .i64 (p.2 : Int)] := by
      rw [Int.toNat_natCast]; simp [encP, h1]
    rw [law19_OccupancyConflictIsCommon_r25]
    unfold law19_OccupancyConflictIsCommon_p24
    rw [bif_pos (by rw [decide_eq_true_eq]; omega), inB_ok (by omega) (by rw [encP_length]; omega), hrow]
    simp -implicitDefEqProofs only [gb_some_eq, List.getElem?_cons_zero, List.getElem?_cons_succ, pInt_i64]
    rw [wrap64' (by omega) (by omega), show ((j : Int) + 1) = ((j + 1 : Nat) : Int) from rfl, common_r25 n hL k0 suf (j + 1) m _ h2 (by omega) (by simp at hm; omega)]
    rw [List.any_cons]
    congr 1
    cases x <;> rfl

theorem emod_le' {y t : Int} (h : 0 ≤ y) (ht : 0 < t) : y % t ≤ y := by
  have h1 := Int.mul_ediv_add_emod y t
  have h2 := Int.ediv_nonneg h (Int.le_of_lt ht)
  have h3 := Int.mul_nonneg (Int.le_of_lt ht) h2
  omega

/-- Uses of different trains are in conflict exactly if they have a second of the period in common. -/
theorem cf_iff {t : Int} (ht : 2 ≤ t) {a b : Use} (hal : 1 ≤ a.len) (hbl : 1 ≤ b.len) (htr : a.train ≠ b.train) : cfB t a b = (List.range' 0 t.toNat).any (bothS t b a) := by
  have hmod : ∀ x : Int, mod x t = x % t := fun x => by rw [mod, if_neg (by omega : ¬ t < 1)]
  have key : (List.range' 0 t.toNat).any (bothS t b a) = true ↔ ∃ s : Nat, s < t.toNat ∧ ((s : Int) - b.frm) % t < b.len ∧ ((s : Int) - a.frm) % t < a.len := by
    rw [List.any_eq_true]
    constructor
    · rintro ⟨s, h1, h2⟩
      rw [List.mem_range'_1] at h1
      unfold bothS at h2
      rw [hmod, hmod] at h2
      simp only [Bool.cond_false_right, Bool.and_eq_true, decide_eq_true_eq] at h2
      exact ⟨s, by omega, h2⟩
    · rintro ⟨s, h1, h2⟩
      refine ⟨s, by rw [List.mem_range'_1]; omega, ?_⟩
      unfold bothS
      rw [hmod, hmod]
      simp only [Bool.cond_false_right, Bool.and_eq_true, decide_eq_true_eq]
      exact h2
  rw [Bool.eq_iff_iff, key]
  constructor
  · intro h
    have hlh : cfLo t a b ≤ cfHi t a b := by
      unfold cfB at h
      by_cases e : cfLo t a b > cfHi t a b
      · rw [bif_pos (by simpa using e)] at h; cases h
      · omega
    have k1 : a.frm - b.frm - b.len + 1 ≤ t * cfLo t a b := by
      have h1 : (-(a.frm - b.frm - b.len + 1)) / t * t ≤ -(a.frm - b.frm - b.len + 1) := Int.ediv_mul_le _ (by omega)
      have h2 : cfLo t a b = -((-(a.frm - b.frm - b.len + 1)) / t) := rfl
      rw [h2, Int.mul_neg, Int.mul_comm]
      omega
    have k2 : t * cfLo t a b ≤ a.frm + a.len - b.frm - 1 := by
      have h1 : cfHi t a b * t ≤ a.frm + a.len - b.frm - 1 := Int.ediv_mul_le _ (by omega)
      have h2 : t * cfLo t a b ≤ t * cfHi t a b := Int.mul_le_mul_of_nonneg_left hlh (by omega)
      rw [Int.mul_comm t (cfHi t a b)] at h2
      omega
    generalize hkk : cfLo t a b = kk at k1 k2
    obtain ⟨x, x1, x2, x3, x4⟩ : ∃ x : Int, a.frm ≤ x ∧ x < a.frm + a.len ∧ b.frm + t * kk ≤ x ∧ x < b.frm + t * kk + b.len := by
      by_cases hx : a.frm ≤ b.frm + t * kk
      · exact ⟨b.frm + t * kk, by omega, by omega, by omega, by omega⟩
      · exact ⟨a.frm, by omega, by omega, by omega, by omega⟩
    have e0 := Int.emod_nonneg x (show t ≠ 0 by omega)
    have e1 := Int.emod_lt_of_pos x (show 0 < t by omega)
    refine ⟨(x % t).toNat, by omega, ?_, ?_⟩
    · rw [Int.toNat_of_nonneg e0, Int.emod_sub_emod, show x - b.frm = (x - b.frm - t * kk) + t * kk by omega, Int.add_mul_emod_self_left]
      have := emod_le' (y := x - b.frm - t * kk) (by omega) (show 0 < t by omega)
      omega
    · rw [Int.toNat_of_nonneg e0, Int.emod_sub_emod]
      have := emod_le' (y := x - a.frm) (by omega) (show 0 < t by omega)
      omega
  · rintro ⟨s, h1, h2, h3⟩
    exact cf_common ht (s : Int) htr h3 h2

theorem common_r37 (n : Nat) {t : Int} (ht : 2 ≤ t ∧ t ≤ 31) {vs : List Use} (hV : vs.length ≤ 7) (hn : 512 < n) (hok : ∀ u ∈ vs, u.ok) (htr : ∀ (i : Nat) (u : Use), vs[i]? = some u → u.train = (i : Int)) {i : Nat} (hi : i < vs.length) {w39 : Int} {k0 : Option R} {k1 : Int → Bool → Option R} (hps : (pairsU t vs (List.range' 0 vs.length)).length ≤ 49) : ∀ (c k m : Nat), k + c = i → c < m →
    law19_OccupancyConflictIsCommon_r37 n t (i : Int) w39 (encU vs) (encP (pairsU t vs (List.range' 0 vs.length))) k0 k1 m (k : Int) = k1 (i : Int) false
  | 0, k, m, hk, hm => by
    obtain ⟨m, rfl⟩ : ∃ m', m = m' + 1 := ⟨m - 1, by omega⟩
    obtain rfl : k = i := by omega
    rw [law19_OccupancyConflictIsCommon_r37]
    simp -implicitDefEqProofs only [law19_OccupancyConflictIsCommon_p36, law19_OccupancyConflictIsCommon_p15]
    rw [bif_neg (by simp)]
    simp
  | c + 1, k, m, hk, hm => by
    obtain ⟨m, rfl⟩ : ∃ m', m = m' + 1 := ⟨m - 1, by omega⟩
    have hki : k < i := by omega
    have ha := List.getElem?_eq_getElem hi
    have hb := List.getElem?_eq_getElem (show k < vs.length by omega)
    have oa := hok _ (List.mem_of_getElem? ha)
    have ob := hok _ (List.mem_of_getElem? hb)
    have ta := htr i _ ha
    have tb := htr k _ hb
    generalize vs[i] = a at ha oa ta
    generalize vs[k] = b at hb ob tb
    rw [law19_OccupancyConflictIsCommon_r37]
    simp -implicitDefEqProofs only [law19_OccupancyConflictIsCommon_p36, law19_OccupancyConflictIsCommon_p35, law19_OccupancyConflictIsCommon_p34, law19_OccupancyConflictIsCommon_p33, law19_OccupancyConflictIsCommon_p32, law19_OccupancyConflictIsCommon_p31, law19_OccupancyConflictIsCommon_p30, law19_OccupancyConflictIsCommon_p29, law19_OccupancyConflictIsCommon_p28, law19_OccupancyConflictIsCommon_p27, law19_OccupancyConflictIsCommon_p26, law19_OccupancyConflictIsCommon_p25, law19_OccupancyConflictIsCommon_p23, law19_OccupancyConflictIsCommon_p22, law19_OccupancyConflictIsCommon_p21, law19_OccupancyConflictIsCommon_p20, law19_OccupancyConflictIsCommon_p19, law19_OccupancyConflictIsCommon_p17, law19_OccupancyConflictIsCommon_p16, law19_OccupancyConflictIsCommon_p15]
    rw [bif_pos (by rw [decide_eq_true_eq]; omega), show (0 : Int) = ((0 : Nat) : Int) from rfl, common_r19 n ht (by omega) ha hb oa ob _ t.toNat 0 n false (by omega) (by omega)]
    rw [encP_length, common_r25 n (ps := pairsU t vs (List.range' 0 vs.length)) (by omega) _ (pairsU t vs (List.range' 0 vs.length)) 0 n false rfl (by omega) (by omega)]
    rw [inB_ok (n := (i : Int)) (by omega) (by rw [encU_length]; omega), inB_ok (n := (k : Int)) (by omega) (by rw [encU_length]; omega), encU_at ha, encU_at hb]
    simp -implicitDefEqProofs only [Use.row, gb_some_eq, List.getElem?_cons_zero, List.getElem?_cons_succ, pInt_i64, Bool.false_or]
    have hfound : ((pairsU t vs (List.range' 0 vs.length)).any fun p => ((p.1 : Int) == (k : Int)) && ((p.2 : Int) == (i : Int))) = ((a.res == b.res) && cfB t b a) := by
      rw [Bool.eq_iff_iff, List.any_eq_true, Bool.and_eq_true]
      constructor
      · rintro ⟨⟨p1, p2⟩, hp, h2⟩
        simp only [Bool.and_eq_true, beq_iff_eq] at h2
        obtain ⟨e1, e2⟩ := h2
        obtain rfl : p1 = k := by omega
        obtain rfl : p2 = i := by omega
        obtain ⟨_, h4, h5⟩ := pairsU_mem.1 hp
        rw [useAt_get hb, useAt_get ha] at h5
        have := (jsOf_mem.1 h4).2.2
        simp [rsOf, List.getD_eq_getElem?_getD, ha, hb] at this
        exact ⟨by simpa using this, h5⟩
      · rintro ⟨h1, h2⟩
        refine ⟨(k, i), pairsU_mem.2 ⟨by rw [List.mem_range'_1]; omega, jsOf_mem.2 ⟨by omega, hi, ?_⟩, by rw [useAt_get hb, useAt_get ha]; exact h2⟩, by simp⟩
        simp [rsOf, List.getD_eq_getElem?_getD, ha, hb]
        simpa using h1
    have hcf := cf_iff ht.1 (a := b) (b := a) ob.2.2.2.2.1 oa.2.2.2.2.1 (by rw [ta, tb]; omega)
    rw [hfound, ← hcf, wrap64' (by omega) (by omega), show ((k : Int) + 1) = ((k + 1 : Nat) : Int) from rfl, common_r37 n ht hV hn hok htr hi hps c (k + 1) m (by omega) (by omega)]
    cases cfB t b a <;> cases a.res == b.res <;> rfl

theorem common_r46 (n : Nat) {t : Int} (ht : 2 ≤ t ∧ t ≤ 31) {vs : List Use} (hV : vs.length ≤ 7) (hn : 512 < n) (hok : ∀ u ∈ vs, u.ok) (htr : ∀ (i : Nat) (u : Use), vs[i]? = some u → u.train = (i : Int)) {k0 : Option R} {k1 : Int → Bool → Option R} (hps : (pairsU t vs (List.range' 0 vs.length)).length ≤ 49) : ∀ (c i m : Nat), i + c = vs.length → c < m →
    law19_OccupancyConflictIsCommon_r46 n t (vs.length : Nat) (encU vs) (encP (pairsU t vs (List.range' 0 vs.length))) k0 k1 m (i : Int) = k1 (vs.length : Nat) false
  | 0, i, m, hi, hm => by
    obtain ⟨m, rfl⟩ : ∃ m', m = m' + 1 := ⟨m - 1, by omega⟩
    obtain rfl : i = vs.length := by omega
    rw [law19_OccupancyConflictIsCommon_r46]
    simp -implicitDefEqProofs only [law19_OccupancyConflictIsCommon_p45, law19_OccupancyConflictIsCommon_p44, law19_OccupancyConflictIsCommon_p12, law19_OccupancyConflictIsCommon_p11]
    rw [bif_neg (by simp)]
    simp
  | c + 1, i, m, hi, hm => by
    obtain ⟨m, rfl⟩ : ∃ m', m = m' + 1 := ⟨m - 1, by omega⟩
    rw [law19_OccupancyConflictIsCommon_r46]
    simp -implicitDefEqProofs only [law19_OccupancyConflictIsCommon_p45, law19_OccupancyConflictIsCommon_p44, law19_OccupancyConflictIsCommon_p43, law19_OccupancyConflictIsCommon_p42, law19_OccupancyConflictIsCommon_p41, law19_OccupancyConflictIsCommon_p40, law19_OccupancyConflictIsCommon_p39, law19_OccupancyConflictIsCommon_p38, law19_OccupancyConflictIsCommon_p37, law19_OccupancyConflictIsCommon_p14, law19_OccupancyConflictIsCommon_p13, law19_OccupancyConflictIsCommon_p12, law19_OccupancyConflictIsCommon_p11]
    rw [bif_pos (by rw [decide_eq_true_eq]; omega), show (0 : Int) = ((0 : Nat) : Int) from rfl, common_r37 n ht hV hn hok htr (by omega) hps i 0 n (by omega) (by omega), wrap64' (by omega) (by omega), show ((i : Int) + 1) = ((i + 1 : Nat) : Int) from rfl, common_r46 n ht hV hn hok htr hps c (i + 1) m (by omega) (by omega)]

theorem pairsU_len {t : Int} {us : List Use} (h : us.length ≤ 7) : ∀ is : List Nat, (pairsU t us is).length ≤ is.length * 7
  | [] => by simp [pairsU]
  | i :: is => by
    have h1 := pairsJ_len t us i (jsOf us i)
    have h2 := jsOf_len us i
    have h3 := pairsU_len (t := t) h is
    have : pairsU t us (i :: is) = pairsJ t us i (jsOf us i) ++ pairsU t us is := by simp [pairsU]
    rw [this, List.length_append, List.length_cons]
    omega

theorem conflictIsCommonA (n : Nat) (hn : 512 < n) {l : List Int} (hl : l.length ≤ 9223372036854775807) (t0 : Int) : law19_OccupancyConflictIsCommon n t0 (encI l) some = some true := by
  have hp := pick_range t0 (m := 30) (by omega)
  obtain ⟨us, h1, h2, h3⟩ := someA n (by omega) hl
  simp -implicitDefEqProofs only [law19_OccupancyConflictIsCommon, law19_OccupancyConflictIsCommon_p55, law19_OccupancyConflictIsCommon_p54, law19_OccupancyConflictIsCommon_p53, law19_OccupancyConflictIsCommon_p52, law19_OccupancyConflictIsCommon_p51, law19_OccupancyConflictIsCommon_p50, law19_OccupancyConflictIsCommon_p49, law19_OccupancyConflictIsCommon_p48, law19_OccupancyConflictIsCommon_p47, law19_OccupancyConflictIsCommon_p46, law19_OccupancyConflictIsCommon_p10, law19_OccupancyConflictIsCommon_p9, law19_OccupancyConflictIsCommon_p8, law19_OccupancyConflictIsCommon_p7, law19_OccupancyConflictIsCommon_p6, law19_OccupancyConflictIsCommon_p4, law19_OccupancyConflictIsCommon_p3, law19_OccupancyConflictIsCommon_p2, law19_OccupancyConflictIsCommon_p1, pickA n _ (show (0 : Int) < 30 by omega) (by omega), gb_some_eq, h3, occAwake n hn, encU_length]
  rw [wrap64' (x := 2 + pick t0 30) (by omega) (by omega)]
  generalize ht : 2 + pick t0 30 = t
  have htr : 2 ≤ t ∧ t ≤ 31 := by omega
  rw [show (0 : Int) = ((0 : Nat) : Int) from rfl]
  obtain ⟨vs, v1, v2, v3⟩ := common_r6 (R := Bool) n t (us := us) (by omega) (fun w25 w26 w27 =>
        gb true (occupancy_Conflicts n t w27 some) [] fun r35 =>
          gb true (flatRs [r35]) () fun u36 =>
            law19_OccupancyConflictIsCommon_r46 n t (w27.length : Nat) w27 r35 (some false) (fun w613 w614 => some true) n ((0 : Nat) : Int)) us.length 0 n us (by omega) (by omega) rfl (fun j hj => by omega) (fun j _ => rfl)
  rw [v3]
  clear v3
  have hat : ∀ (i : Nat) (u : Use), vs[i]? = some u → u.train = (i : Int) ∧ u.ok ∧ u.res < 3 := by
    intro i u hu
    rw [v2] at hu
    obtain ⟨w, hw, rfl⟩ := Option.map_eq_some_iff.1 hu
    have := h2 w (List.mem_of_getElem? hw)
    unfold Use.made at this
    unfold Use.as Use.ok
    simp only
    refine ⟨trivial, ?_, ?_⟩ <;> omega
  have hok : ∀ u ∈ vs, u.ok ∧ u.res < 3 := by
    intro u hu
    obtain ⟨i, hi⟩ := List.getElem?_of_mem hu
    exact (hat i u hi).2
  have hv : validU t vs = true := (validU_iff t vs).2 ⟨by omega, fun u hu => (hok u hu).1⟩
  have hps : (pairsU t vs (List.range' 0 vs.length)).length ≤ 49 := by
    have := pairsU_len (t := t) (us := vs) (by omega) (List.range' 0 vs.length)
    rw [List.length_range'] at this
    omega
  rw [conflictsA n (by omega) (by omega) (fun u hu => by have := (hok u hu).2; omega), if_pos hv, gb_some_eq, flat_encP, gb_some_eq, encU_length]
  rw [common_r46 n htr (by omega) hn (fun u hu => (hok u hu).1) (fun i u hu => (hat i u hu).1) hps vs.length 0 n (by omega) (by omega)]
end
end Go.Vx
