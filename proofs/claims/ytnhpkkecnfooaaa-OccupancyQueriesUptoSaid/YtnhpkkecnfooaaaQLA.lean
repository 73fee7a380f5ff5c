/- Part of a proof: texts PlKeep PlMod OccC OccB OccD OccE OccG OccF OccI OccJ OccK OccL. No conditions of their own. -/
import Derived.Test.YtnhpkkecnfooaaaQVC
import Derived.Test.YtnhpkkecnfooaaaQFA
/-
  Plain laws: Pick, Next.
-/
set_option linter.unusedSimpArgs false
set_option linter.unusedVariables false
namespace Go.Vx
section
variable {R : Type}

theorem wrapU_nonneg (x : Int) : 0 ≤ IntKind.wrap .u64 x := by
  have := Int.emod_nonneg x (show (18446744073709551616 : Int) ≠ 0 by decide)
  simpa [IntKind.wrap, IntKind.bits, IntKind.signed] using this
theorem wrapU_id {x : Int} (h0 : 0 ≤ x) (h1 : x < 18446744073709551616) : IntKind.wrap .u64 x = x := by
  have := Int.emod_eq_of_lt h0 h1
  simpa [IntKind.wrap, IntKind.bits, IntKind.signed] using this

/-- The number that Pick takes. -/
def pick (v m : Int) : Int := (IntKind.wrap .u64 v).tmod m
theorem pick_range (v : Int) {m : Int} (h : 0 < m) : 0 ≤ pick v m ∧ pick v m < m := by
  unfold pick
  rw [Int.tmod_eq_emod_of_nonneg (wrapU_nonneg v)]
  exact ⟨Int.emod_nonneg _ (by omega), Int.emod_lt_of_pos _ h⟩

theorem pickA (n : Nat) (v : Int) {m : Int} (h : 0 < m) (hm : m ≤ 9223372036854775807) (K : Int → Option R) : keep_Pick n v m K = K (pick v m) := by
  unfold keep_Pick keep_Pick_p1
  rw [wrapU_id (x := m) (by omega) (by omega), nz_ok (by omega)]
  simp -implicitDefEqProofs only [gb_some_eq]
  have := pick_range v h
  unfold pick at this ⊢
  rw [wrap64' (by omega) (by omega)]

/-- Next: a number below the bound, and the place moves on. -/
theorem nextA (n : Nat) {l : List Int} (hl : l.length ≤ 9223372036854775807) {i : Nat} (hi : i ≤ l.length) {m : Int} (h : 0 < m) (hm : m ≤ 9223372036854775807) :
    ∃ (v : Int) (j : Nat), 0 ≤ v ∧ v < m ∧ j ≤ l.length ∧ ∀ (R : Type) (K : Int → List (List D) → Int → Option R), keep_Source_Next n (encI l) i m K = K v (encI l) j := by
  by_cases hlt : i < l.length
  · have hg := List.getElem?_eq_getElem hlt
    refine ⟨pick l[i] m, i + 1, (pick_range _ h).1, (pick_range _ h).2, by omega, fun R K => ?_⟩
    unfold keep_Source_Next keep_Source_Next_p1
    rw [bif_neg (by simp [encI_length]; omega), wrap64' (x := (i : Int) + 1) (by omega) (by omega), wrap64' (by omega) (by omega)]
    rw [show (i : Int) + 1 - 1 = (i : Int) by omega, encI_get hg]
    simp -implicitDefEqProofs only [gb_some_eq, List.getElem?_cons_zero, pInt_i64, pickA n _ h hm]
    rfl
  · refine ⟨0, i, by omega, h, hi, fun R K => ?_⟩
    unfold keep_Source_Next keep_Source_Next_p1
    rw [bif_pos (by simp [encI_length]; omega)]

end
end Go.Vx
/-
  Plain laws: Mod, the program's and the reference's.
-/
set_option linter.unusedSimpArgs false
set_option linter.unusedVariables false
namespace Go.Vx
section
variable {R : Type}

theorem tmod_emod {x t : Int} (ht : 0 < t) : (if x.tmod t < 0 then x.tmod t + t else x.tmod t) = x % t := by
  have h1 := Int.tmod_def x t
  have h2 := Int.emod_def x t
  rcases Int.le_total 0 x with h | h
  · rw [Int.tmod_eq_emod_of_nonneg h]
    have := Int.emod_nonneg x (by omega : t ≠ 0)
    rw [if_neg (by omega)]
  · obtain ⟨y, rfl⟩ : ∃ y, x = -y := ⟨-x, by omega⟩
    have hy : 0 ≤ y := by omega
    rw [Int.neg_tmod, Int.tmod_eq_emod_of_nonneg hy]
    have e1 := Int.emod_nonneg y (by omega : t ≠ 0)
    have e2 := Int.emod_lt_of_pos y ht
    have e3 : (-y) % t = if y % t = 0 then 0 else t - y % t := by
      by_cases h0 : y % t = 0
      · rw [if_pos h0]; exact Int.emod_eq_zero_of_dvd (by rw [Int.dvd_neg]; exact Int.dvd_of_emod_eq_zero h0)
      · rw [if_neg h0]
        have : -y = (t - y % t) + t * (-(y / t) - 1) := by
          have := Int.mul_ediv_add_emod y t
          rw [Int.mul_sub, Int.mul_neg]; omega
        rw [this, Int.add_mul_emod_self_left, Int.emod_eq_of_lt (by omega) (by omega)]
    rw [e3]
    by_cases h0 : y % t = 0
    · simp [h0]
    · rw [if_neg h0, if_pos (by omega)]; omega

/-- The program's Mod. -/
def mod (x t : Int) : Int := if t < 1 then 0 else x % t

theorem mod_nonneg (x t : Int) : 0 ≤ mod x t := by
  unfold mod; split
  · exact Int.le_refl 0
  · exact Int.emod_nonneg x (by omega)
theorem mod_lt (x : Int) {t : Int} (h : 0 < t) : mod x t < t := by
  unfold mod; rw [if_neg (by omega)]; exact Int.emod_lt_of_pos x h

theorem tmod_abs (x : Int) {t : Int} (ht : 0 < t) : -t < x.tmod t ∧ x.tmod t < t := by
  have h1 := Int.tmod_lt_of_pos x ht
  have h2 := Int.lt_tmod_of_pos x ht
  omega

theorem modA (n : Nat) (x t : Int) (ht : t ≤ 9223372036854775807) (K : Int → Option R) : arith_Mod n x t K = K (mod x t) := by
  unfold arith_Mod arith_Mod_p1
  by_cases h : t < 1
  · rw [bif_pos (by simpa using h)]; simp [mod, h]
  · rw [bif_neg (by simpa using h), nz_ok (by omega)]
    simp -implicitDefEqProofs only [gb_some_eq]
    have := tmod_abs x (t := t) (by omega)
    simp only [mod, h, if_false]
    rw [← tmod_emod (by omega)]
    by_cases h2 : x.tmod t < 0
    · rw [bif_pos (by simpa using h2), if_pos h2, wrap64' (by omega) (by omega)]
    · rw [bif_neg (by simpa using h2), if_neg h2]
theorem modB (n : Nat) (x t : Int) (ht : t ≤ 9223372036854775807) (K : Int → Option R) : ref1_Mod n x t K = K (mod x t) := by
  unfold ref1_Mod ref1_Mod_p1
  by_cases h : t < 1
  · rw [bif_pos (by simpa using h)]; simp [mod, h]
  · rw [bif_neg (by simpa using h), nz_ok (by omega)]
    simp -implicitDefEqProofs only [gb_some_eq]
    have := tmod_abs x (t := t) (by omega)
    simp only [mod, h, if_false]
    rw [← tmod_emod (by omega)]
    by_cases h2 : x.tmod t < 0
    · rw [bif_pos (by simpa using h2), if_pos h2, wrap64' (by omega) (by omega)]
    · rw [bif_neg (by simpa using h2), if_neg h2]

end
end Go.Vx
/-
  Plain laws of occupancy: uses, Valid, conflict.
-/
set_option linter.unusedSimpArgs false
set_option linter.unusedVariables false
namespace Go.Vx
section
variable {R : Type}

structure Use where
  res : Int
  train : Int
  frm : Int
  len : Int
  laps : Int
deriving Inhabited
def Use.row (u : Use) : List D := [.int .i64 u.res, .int .i64 u.train, .int .i64 u.frm, .int .i64 u.len, .int .i64 u.laps]
def encU (us : List Use) : List (List D) := us.map Use.row
theorem encU_length (us : List Use) : (encU us).length = us.length := by simp [encU]
theorem encU_get {us : List Use} {i : Nat} {u : Use} (h : us[i]? = some u) : rowAt (encU us) (i : Int) = some u.row := rowAt_get h

def okA (u : Use) : Bool := bif (bif (bif (decide (u.res < (0 : Int))) then true else (decide (u.train < (0 : Int)))) then true else (decide (u.frm < (-1099511627776 : Int)))) then true else (decide (u.frm > (1099511627776 : Int)))
def okC (u : Use) : Bool := bif (bif (bif (decide (u.len < (1 : Int))) then true else (decide (u.len > (1099511627776 : Int)))) then true else (decide (u.laps < (0 : Int)))) then true else (decide (u.laps > (1099511627776 : Int)))
def okB (u : Use) : Bool := !okA u && !okC u
def Use.ok (u : Use) : Prop := 0 ≤ u.res ∧ 0 ≤ u.train ∧ -1099511627776 ≤ u.frm ∧ u.frm ≤ 1099511627776 ∧ 1 ≤ u.len ∧ u.len ≤ 1099511627776 ∧ 0 ≤ u.laps ∧ u.laps ≤ 1099511627776
theorem okB_iff (u : Use) : okB u = true ↔ u.ok := by
  unfold okB okA okC Use.ok
  simp only [Bool.cond_true_left, Bool.and_eq_true, Bool.not_eq_true', Bool.or_eq_false_iff, decide_eq_false_iff_not]
  omega
def validU (t : Int) (us : List Use) : Bool := !(bif (decide (t < (2 : Int))) then true else (decide (t > (7200 : Int)))) && us.all okB
theorem validU_iff (t : Int) (us : List Use) : validU t us = true ↔ (2 ≤ t ∧ t ≤ 7200) ∧ ∀ u ∈ us, u.ok := by
  unfold validU
  simp only [Bool.cond_true_left, Bool.and_eq_true, Bool.not_eq_true', Bool.or_eq_false_iff, decide_eq_false_iff_not, List.all_eq_true, okB_iff]
  refine and_congr ?_ Iff.rfl
  omega

theorem valid_r5 (n : Nat) (us : List Use) (hL : us.length ≤ 9223372036854775806) (k0 : Option R) (k1 : Int → Bool → Option R) : ∀ (suf : List Use) (i m : Nat), us.drop i = suf → i ≤ us.length → suf.length < m → occupancy_Valid_r5 n (encU us) (us.length : Nat) k0 k1 m (i : Int) = bif suf.all okB then k1 (us.length : Nat) false else k0
  | [], i, m, hd, hi, hm => by
    obtain ⟨m, rfl⟩ : ∃ m', m = m' + 1 := ⟨m - 1, by omega⟩
    have := drop_nil hd
    obtain rfl : i = us.length := by omega
    rw [occupancy_Valid_r5]
    unfold occupancy_Valid_p4
    rw [bif_neg (by simp)]
    simp
  | u :: suf, i, m, hd, hi, hm => by
    obtain ⟨m, rfl⟩ : ∃ m', m = m' + 1 := ⟨m - 1, by omega⟩
    obtain ⟨h1, h2, h3⟩ := drop_cons hd
    rw [occupancy_Valid_r5]
    unfold occupancy_Valid_p4
    rw [bif_pos (by simp; omega), encU_get h1]
    simp -implicitDefEqProofs only [Use.row, gb_some_eq, List.getElem?_cons_zero, List.getElem?_cons_succ, pInt_i64]
    rw [wrap64' (by omega) (by omega), show ((i : Int) + 1) = ((i + 1 : Nat) : Int) from rfl, valid_r5 n us hL k0 k1 suf (i + 1) m h2 (by omega) (by simp at hm; omega)]
    show (bif okA u then k0 else bif okC u then k0 else _) = _
    rw [List.all_cons]
    unfold okB
    cases okA u <;> cases okC u <;> rfl

theorem validA (n : Nat) {us : List Use} (hn : us.length < n) (hL : us.length ≤ 9223372036854775806) (t : Int) (K : Bool → Option R) : occupancy_Valid n t (encU us) K = K (validU t us) := by
  simp -implicitDefEqProofs only [occupancy_Valid, occupancy_Valid_p11, occupancy_Valid_p10, occupancy_Valid_p9, occupancy_Valid_p8, occupancy_Valid_p7, occupancy_Valid_p6, occupancy_Valid_p5, occupancy_Valid_p3, occupancy_Valid_p2, occupancy_Valid_p1, encU_length]
  rw [show (0 : Int) = ((0 : Nat) : Int) from rfl, valid_r5 n us hL _ _ us 0 n rfl (by omega) hn]
  unfold validU
  cases (bif (decide (t < (2 : Int))) then true else (decide (t > (7200 : Int)))) with
  | true => rfl
  | false => cases us.all okB <;> rfl

/-! conflict -/

theorem ediv_of {x t q : Int} (ht : 0 < t) (h1 : t * q ≤ x) (h2 : x < t * q + t) : x / t = q := by
  have a1 : q ≤ x / t := (Int.le_ediv_iff_mul_le ht).2 (by rw [Int.mul_comm]; exact h1)
  have a2 : x / t < q + 1 := (Int.ediv_lt_iff_lt_mul ht).2 (by rw [Int.mul_comm, Int.mul_add, Int.mul_one]; exact h2)
  omega

theorem floorA (n : Nat) {x t : Int} (h : -4611686018427387904 ≤ x ∧ x ≤ 4611686018427387904) (ht : 2 ≤ t) (K : Int → Int → Option R) : arith_FloorDiv n x t K = K (x / t) 0 := by
  unfold arith_FloorDiv arith_FloorDiv_p1
  rw [bif_neg (by simp; omega), nz_ok (by omega)]
  simp -implicitDefEqProofs only [gb_some_eq]
  have hd := Int.mul_tdiv_add_tmod x t
  have hb := tmod_abs x (t := t) (by omega)
  have hq : -4611686018427387904 ≤ x.tdiv t ∧ x.tdiv t ≤ 4611686018427387904 := by
    have := Int.natAbs_tdiv_le_natAbs x t
    omega
  rw [wrap64' (x := x.tdiv t) (by omega) (by omega)]
  by_cases h2 : x.tmod t < 0
  · rw [bif_pos (by simpa using h2), wrap64' (by omega) (by omega), ediv_of (q := x.tdiv t - 1) (by omega) (by rw [Int.mul_sub]; omega) (by rw [Int.mul_sub]; omega)]
  · rw [bif_neg (by simpa using h2), ediv_of (q := x.tdiv t) (by omega) (by omega) (by omega)]
theorem ceilA (n : Nat) {x t : Int} (h : -4611686018427387904 ≤ x ∧ x ≤ 4611686018427387904) (ht : 2 ≤ t) (K : Int → Int → Option R) : arith_CeilDiv n x t K = K (-((-x) / t)) 0 := by
  unfold arith_CeilDiv arith_CeilDiv_p1
  rw [bif_neg (by simp; omega), nz_ok (by omega)]
  simp -implicitDefEqProofs only [gb_some_eq]
  have hd := Int.mul_tdiv_add_tmod x t
  have hb := tmod_abs x (t := t) (by omega)
  have hq : -4611686018427387904 ≤ x.tdiv t ∧ x.tdiv t ≤ 4611686018427387904 := by
    have := Int.natAbs_tdiv_le_natAbs x t
    omega
  rw [wrap64' (x := x.tdiv t) (by omega) (by omega)]
  by_cases h2 : x.tmod t > 0
  · rw [bif_pos (by simpa using h2), wrap64' (by omega) (by omega), ediv_of (x := -x) (q := -(x.tdiv t + 1)) (by omega) (by rw [Int.mul_neg, Int.mul_add]; omega) (by rw [Int.mul_neg, Int.mul_add]; omega), Int.neg_neg]
  · rw [bif_neg (by simpa using h2), ediv_of (x := -x) (q := -(x.tdiv t)) (by omega) (by rw [Int.mul_neg]; omega) (by rw [Int.mul_neg]; omega), Int.neg_neg]

def cfLo (t : Int) (a b : Use) : Int := -((-(a.frm - b.frm - b.len + 1)) / t)
def cfHi (t : Int) (a b : Use) : Int := (a.frm + a.len - b.frm - 1) / t
def cfB (t : Int) (a b : Use) : Bool :=
  bif decide (cfLo t a b > cfHi t a b) then false else
  bif a.train != b.train then true else
  bif a.laps == 0 then (bif decide (cfLo t a b < 0) then true else decide (cfHi t a b > 0)) else
  bif a.laps == 1 then false else (bif decide (cfLo t a b < cfHi t a b) then true else (Int.tmod (cfLo t a b) a.laps) != 0)

theorem conflictA (n : Nat) {t : Int} (ht : 2 ≤ t) {a b : Use} (ha : a.ok) (hb : b.ok) (K : Bool → Option R) : occupancy_conflict n t a.res a.train a.frm a.len a.laps b.res b.train b.frm b.len b.laps K = K (cfB t a b) := by
  obtain ⟨a1, a2, a3, a4, a5, a6, a7, a8⟩ := ha
  obtain ⟨b1, b2, b3, b4, b5, b6, b7, b8⟩ := hb
  simp -implicitDefEqProofs only [occupancy_conflict, occupancy_conflict_p10, occupancy_conflict_p9, occupancy_conflict_p8, occupancy_conflict_p7, occupancy_conflict_p6, occupancy_conflict_p5, occupancy_conflict_p4, occupancy_conflict_p3, occupancy_conflict_p2, occupancy_conflict_p1]
  rw [wrap64' (x := a.frm - b.frm) (by omega) (by omega), wrap64' (x := a.frm - b.frm - b.len) (by omega) (by omega), wrap64' (x := a.frm - b.frm - b.len + 1) (by omega) (by omega)]
  rw [wrap64' (x := a.frm + a.len) (by omega) (by omega), wrap64' (x := a.frm + a.len - b.frm) (by omega) (by omega), wrap64' (x := a.frm + a.len - b.frm - 1) (by omega) (by omega)]
  rw [ceilA n (by omega) ht, floorA n (by omega) ht]
  simp -implicitDefEqProofs only [gb_some_eq]
  unfold cfB
  rw [show -((-(a.frm - b.frm - b.len + 1)) / t) = cfLo t a b from rfl, show (a.frm + a.len - b.frm - 1) / t = cfHi t a b from rfl]
  cases decide (cfLo t a b > cfHi t a b) with
  | true => rfl
  | false =>
    cases a.train != b.train with
    | true => rfl
    | false =>
      cases h0 : a.laps == 0 with
      | true => rfl
      | false =>
        have h0' : a.laps ≠ 0 := by simpa using h0
        cases a.laps == 1 with
        | true => rfl
        | false => rw [nz_ok h0']; rfl

/-- Uses of different trains with a common second are in conflict. -/
theorem cf_common {t : Int} (ht : 2 ≤ t) {a b : Use} (s : Int) (htr : a.train ≠ b.train) (ha : (s - a.frm) % t < a.len) (hb : (s - b.frm) % t < b.len) : cfB t a b = true := by
  have p1 := Int.mul_ediv_add_emod (s - a.frm) t
  have p2 := Int.mul_ediv_add_emod (s - b.frm) t
  have q1 := Int.emod_nonneg (s - a.frm) (show t ≠ 0 by omega)
  have q2 := Int.emod_nonneg (s - b.frm) (show t ≠ 0 by omega)
  have hk : t * ((s - b.frm) / t - (s - a.frm) / t) = t * ((s - b.frm) / t) - t * ((s - a.frm) / t) := Int.mul_sub ..
  generalize hkk : (s - b.frm) / t - (s - a.frm) / t = k at hk
  have hlo : cfLo t a b ≤ k := by
    unfold cfLo
    have : -k ≤ (-(a.frm - b.frm - b.len + 1)) / t := (Int.le_ediv_iff_mul_le (by omega)).2 (by rw [Int.mul_comm, Int.mul_neg]; omega)
    omega
  have hhi : k ≤ cfHi t a b := (Int.le_ediv_iff_mul_le (by omega)).2 (by rw [Int.mul_comm]; omega)
  unfold cfB
  rw [bif_neg (by simp; omega), bif_pos (by simpa using htr)]
end
end Go.Vx
/-
  The occupancy laws' awake.
-/
namespace Go.Vx
theorem sortI_sorted {zs : List Int} (h : zs.Pairwise (fun x y => decide (x ≤ y) = true)) : sortI zs = zs := by
  unfold sortI
  exact List.mergeSort_of_pairwise h
theorem occAwake (n : Nat) (hn : 512 < n) : law19_awake n some = some true := by
  obtain ⟨m, rfl⟩ : ∃ m, n = m + 12 := ⟨n - 12, by omega⟩
  have h1 : occupancy_Free (m + 12) (5 : Int) [[D.int .i64 (0 : Int), D.int .i64 (3 : Int), D.int .i64 (1 : Int), D.int .i64 (2 : Int), D.int .i64 (0 : Int)]] some = some true := rfl
  have h2 : occupancy_At (m + 12) (5 : Int) [[D.int .i64 (0 : Int), D.int .i64 (3 : Int), D.int .i64 (1 : Int), D.int .i64 (2 : Int), D.int .i64 (0 : Int)]] (0 : Int) (7 : Int) some =
      gb true (intsX (intRowsS (sortI [3]))) [] fun z60 => gb true (room (List.length z60)) () fun u61 => some (intRowsS (compI z60)) := rfl
  rw [sortI_sorted (by simp)] at h2
  unfold law19_awake law19_awake_p1
  rw [h1, h2]
  rfl
end Go.Vx
/-
  Plain laws of occupancy: some, At, Free.
-/
set_option linter.unusedSimpArgs false
set_option linter.unusedVariables false
namespace Go.Vx
section
variable {R : Type}

/-- The uses that 'some' makes. -/
def Use.made (u : Use) : Prop := 0 ≤ u.res ∧ u.res < 3 ∧ 0 ≤ u.train ∧ u.train < 3 ∧ -20 ≤ u.frm ∧ u.frm < 40 ∧ 1 ≤ u.len ∧ u.len ≤ 14 ∧ 0 ≤ u.laps ∧ u.laps < 4
theorem Use.made_ok {u : Use} (h : u.made) : u.ok := by
  obtain ⟨h1, h2, h3, h4, h5, h6, h7, h8, h9, h10⟩ := h
  unfold Use.ok
  omega

theorem some_r6 (n : Nat) {l : List Int} (hl : l.length ≤ 9223372036854775807) : ∀ (c m : Nat) (us : List Use) (i : Nat), c < m → c + us.length ≤ 7 → i ≤ l.length → (∀ u ∈ us, u.made) →
    ∃ vs : List Use, vs.length ≤ 7 ∧ (∀ u ∈ vs, u.made) ∧ ∃ (j : Nat), ∀ (R : Type) (k0 : Int → Bool → (List (List D)) → (List (List D)) → Int → Option R), law19_some_r6 n k0 m (c : Int) (encU us) (encI l) (i : Int) = k0 0 false (encU vs) (encI l) (j : Int)
  | 0, m, us, i, hm, hc, hi, hu => by
    obtain ⟨m, rfl⟩ : ∃ m', m = m' + 1 := ⟨m - 1, by omega⟩
    refine ⟨us, by omega, hu, i, fun R k0 => ?_⟩
    rw [law19_some_r6]
    unfold law19_some_p5
    rw [bif_neg (by simp)]
    rfl
  | c + 1, m, us, i, hm, hc, hi, hu => by
    obtain ⟨m, rfl⟩ : ∃ m', m = m' + 1 := ⟨m - 1, by omega⟩
    obtain ⟨v1, i1, a1, b1, c1, e1⟩ := nextA n hl hi (m := 3) (by omega) (by omega)
    obtain ⟨v2, i2, a2, b2, c2, e2⟩ := nextA n hl c1 (m := 3) (by omega) (by omega)
    obtain ⟨v3, i3, a3, b3, c3, e3⟩ := nextA n hl c2 (m := 60) (by omega) (by omega)
    obtain ⟨v4, i4, a4, b4, c4, e4⟩ := nextA n hl c3 (m := 14) (by omega) (by omega)
    obtain ⟨v5, i5, a5, b5, c5, e5⟩ := nextA n hl c4 (m := 4) (by omega) (by omega)
    obtain ⟨vs, g1, g2, j, g3⟩ := some_r6 n hl c m (us ++ [⟨v1, v2, v3 - 20, 1 + v4, v5⟩]) i5 (by omega) (by simp; omega) c5 (fun u hu' => by
      rcases List.mem_append.1 hu' with h | h
      · exact hu u h
      · rw [List.mem_singleton] at h; subst h; unfold Use.made; simp only; omega)
    refine ⟨vs, g1, g2, j, fun R k0 => ?_⟩
    rw [law19_some_r6]
    unfold law19_some_p5
    rw [bif_pos (by rw [decide_eq_true_eq]; omega)]
    simp -implicitDefEqProofs only [e1, e2, e3, e4, e5, gb_some_eq]
    rw [room_ok (by simp only [encU_length, List.length_singleton]; omega), gb_some_eq, wrap64' (x := v3 - 20) (by omega) (by omega), wrap64' (x := 1 + v4) (by omega) (by omega), wrap64' (by omega) (by omega), show (((c + 1 : Nat) : Int) - 1) = (c : Int) by omega]
    rw [← g3 R k0]
    congr 1
    simp [encU, Use.row]

theorem someA (n : Nat) (hn : 8 < n) {l : List Int} (hl : l.length ≤ 9223372036854775807) : ∃ us : List Use, us.length ≤ 7 ∧ (∀ u ∈ us, u.made) ∧ ∀ (R : Type) (K : List (List D) → Option R), law19_some n (encI l) K = K (encU us) := by
  obtain ⟨v, i, a, b, c, e⟩ := nextA n hl (i := 0) (by omega) (m := 8) (by omega) (by omega)
  obtain ⟨vs, g1, g2, j, g3⟩ := some_r6 n hl v.toNat n [] i (by omega) (by simp; omega) c (by simp)
  refine ⟨vs, g1, g2, fun R K => ?_⟩
  simp -implicitDefEqProofs only [law19_some, law19_some_p13, law19_some_p12, law19_some_p11, law19_some_p10, law19_some_p9, law19_some_p8, law19_some_p7, law19_some_p6, law19_some_p4, law19_some_p3, law19_some_p2, law19_some_p1, keep_From, keep_From_p1, gb_some_eq]
  rw [show (0 : Int) = ((0 : Nat) : Int) from rfl, e]
  simp -implicitDefEqProofs only [gb_some_eq]
  have hv : v = ((v.toNat : Nat) : Int) := by omega
  rw [hv, show ([] : List (List D)) = encU [] from rfl, g3]

/-! At -/

def holds (t r s : Int) (u : Use) : Bool := bif (u.res == r) then (decide (mod (s - u.frm) t < u.len)) else false
def trainsAt (t r s : Int) (us : List Use) : List Int := (us.filter (holds t r s)).map (·.train)

theorem intRowsS_encI (l : List Int) : intRowsS l = encI l := rfl
theorem intsX_encI (l : List Int) : intsX (encI l) = some l := by
  induction l with
  | nil => rfl
  | cons a l ih => show (match intsX (encI l) with | some l => some (a :: l) | none => none) = _; rw [ih]

theorem at_r7 (n : Nat) {us : List Use} (hL : us.length ≤ 1000000000) (hok : ∀ u ∈ us, u.ok) {t : Int} (ht : 2 ≤ t ∧ t ≤ 7200) (r : Int) {s : Int} (hs : 0 ≤ s ∧ s < 7200) (k0 : Int → Bool → List (List D) → Option R) : ∀ (suf : List Use) (i m : Nat) (out : List Int), us.drop i = suf → i ≤ us.length → out.length ≤ i → suf.length < m →
    occupancy_At_r7 n t r s (encU us) (us.length : Nat) k0 m (i : Int) (encI out) = k0 (us.length : Nat) false (encI (out ++ trainsAt t r s suf))
  | [], i, m, out, hd, hi, ho, hm => by
    obtain ⟨m, rfl⟩ : ∃ m', m = m' + 1 := ⟨m - 1, by omega⟩
    have := drop_nil hd
    obtain rfl : i = us.length := by omega
    rw [occupancy_At_r7]
    unfold occupancy_At_p6
    rw [bif_neg (by simp)]
    simp [trainsAt]
  | u :: suf, i, m, out, hd, hi, ho, hm => by
    obtain ⟨m, rfl⟩ : ∃ m', m = m' + 1 := ⟨m - 1, by omega⟩
    obtain ⟨h1, h2, h3⟩ := drop_cons hd
    have hu := hok u (List.mem_of_getElem? h1)
    obtain ⟨u1, u2, u3, u4, u5, u6, u7, u8⟩ := hu
    rw [occupancy_At_r7]
    unfold occupancy_At_p6
    rw [bif_pos (by simp; omega), encU_get h1]
    simp -implicitDefEqProofs only [Use.row, gb_some_eq, List.getElem?_cons_zero, List.getElem?_cons_succ, pInt_i64]
    rw [wrap64' (x := s - u.frm) (by omega) (by omega), modA n _ t (by omega), gb_some_eq, wrap64' (x := (i : Int) + 1) (by omega) (by omega), show ((i : Int) + 1) = ((i + 1 : Nat) : Int) from rfl]
    show (bif holds t r s u then _ else _) = _
    have htr : trainsAt t r s (u :: suf) = (if holds t r s u = true then [u.train] else []) ++ trainsAt t r s suf := by
      unfold trainsAt
      rw [List.filter_cons]
      split <;> rfl
    rw [htr]
    cases holds t r s u with
    | true =>
      rw [cond_true, room_ok (by simp [encI_length]; omega), gb_some_eq]
      rw [show encI out ++ [[D.int .i64 u.train]] = encI (out ++ [u.train]) by simp [encI], at_r7 n hL hok ht r hs k0 suf (i + 1) m _ h2 (by omega) (by simp; omega) (by simp at hm; omega)]
      simp
    | false =>
      rw [cond_false, at_r7 n hL hok ht r hs k0 suf (i + 1) m _ h2 (by omega) (by omega) (by simp at hm; omega)]
      simp

theorem atA (n : Nat) {us : List Use} (hn : us.length < n) (hL : us.length ≤ 1000000000) {t : Int} (ht : t ≤ 9223372036854775807) (r s : Int) (K : List (List D) → Option R) : occupancy_At n t (encU us) r s K = bif validU t us then K (encI (compI (sortI (trainsAt t r (mod s t) us)))) else K [] := by
  simp -implicitDefEqProofs only [occupancy_At, occupancy_At_p15, occupancy_At_p14, occupancy_At_p13, occupancy_At_p12, occupancy_At_p11, occupancy_At_p10, occupancy_At_p9, occupancy_At_p8, occupancy_At_p7, occupancy_At_p5, occupancy_At_p4, occupancy_At_p3, occupancy_At_p2, occupancy_At_p1, validA n hn (by omega), gb_some_eq, modA n s t ht, encU_length]
  cases hv : validU t us with
  | false => rfl
  | true =>
    obtain ⟨h1, h2⟩ := (validU_iff t us).1 hv
    have hm1 := mod_nonneg s t
    have hm2 := mod_lt s (t := t) (by omega)
    rw [show (0 : Int) = ((0 : Nat) : Int) from rfl, show ([] : List (List D)) = encI [] from rfl, at_r7 n hL h2 h1 r ⟨hm1, by omega⟩ _ us 0 n [] rfl (by omega) (by simp) hn]
    have hlen : (trainsAt t r (mod s t) us).length ≤ us.length := by
      unfold trainsAt
      rw [List.length_map]
      exact List.length_filter_le ..
    rw [List.nil_append, intsX_encI, gb_some_eq, room_ok (by omega), gb_some_eq, intRowsS_encI, intsX_encI, gb_some_eq, room_ok (by unfold sortI; rw [List.length_mergeSort]; omega), gb_some_eq, intRowsS_encI]
    rfl
end
end Go.Vx
/-
  Plain laws of occupancy: visit under Free.
-/
set_option linter.unusedSimpArgs false
set_option linter.unusedVariables false
namespace Go.Vx
section
variable {R : Type}

def rsOf (us : List Use) : List Int := us.map (·.res)
/-- The later uses of the same resource. -/
def jsOf (us : List Use) (i : Nat) : List Nat := (List.range' i (us.length - i)).filter fun j => (rsOf us).getD j 0 == (rsOf us).getD i 0
def useAt (us : List Use) (i : Nat) : Use := us.getD i default
theorem useAt_get {us : List Use} {i : Nat} {u : Use} (h : us[i]? = some u) : useAt us i = u := by simp [useAt, List.getD_eq_getElem?_getD, h]
def encN (l : List Nat) : List (List D) := l.map fun (j : Nat) => [D.int .i64 (j : Int)]

theorem resX_enc {us : List Use} (h : ∀ u ∈ us, 0 ≤ u.res ∧ u.res ≤ 9223372036854775807) : resX (encU us) = some (rsOf us) := by
  induction us with
  | nil => rfl
  | cons u us ih =>
    have h1 := h u (List.mem_cons_self ..)
    have h2 := ih (fun v hv => h v (List.mem_cons_of_mem _ hv))
    show (bif decide (-9223372036854775808 ≤ u.res) && decide (u.res ≤ 9223372036854775807) then match resX (encU us) with
      | some s => some (u.res :: s)
      | none => none
    else none) = _
    rw [h2, decide_eq_true (by omega), decide_eq_true (by omega)]
    rfl

theorem visPreA {us : List Use} (h : ∀ u ∈ us, 0 ≤ u.res ∧ u.res ≤ 9223372036854775807) (hL : us.length ≤ 1000000000) (k : (Int → List (List D)) → List (List D) → Option R) : visPre (encU us) k = k (grpF (rsOf us)) (posL (rsOf us) us.length) := by
  unfold visPre
  rw [resX_enc h]
  have hl : (rsOf us).length = us.length := by simp [rsOf]
  simp only [hl, Nat.ble_eq_true_of_le hL, cond_true]

theorem grp_drop (rs : List Int) {i N : Nat} (hi : i ≤ N) (r : Int) : (grpI rs N r).drop (grpI rs i r).length = ((List.range' i (N - i)).filter fun j => rs.getD j 0 == r).map fun (j : Nat) => (j : Int) := by
  have hr : List.range N = List.range i ++ List.range' i (N - i) := by
    rw [List.range_eq_range', List.range_eq_range']
    have := List.range'_append (s := 0) (m := i) (n := N - i) (step := 1)
    rw [show i + (N - i) = N by omega] at this
    simpa using this.symm
  unfold grpI
  rw [hr, List.filter_append, List.map_append, List.drop_left']
  rfl

theorem cut_all {α : Type} {l : List α} {k : Nat} (h : k ≤ l.length) : cut l (k, l.length) = l.drop k := by
  unfold cut
  exact List.take_of_length_le (by simp)

theorem slB_from {len k : Nat} (h : k ≤ len) : slB len (some (k : Int)) none = some (k, len) := by
  unfold slB
  simp [h]

theorem posL_last (rs : List Int) {i : Nat} (h : i < rs.length) : rowAt (posL rs rs.length) (i : Int) = some [.int .i64 ((grpI rs i (rs.getD i 0)).length : Nat)] := by
  unfold posL
  rw [Nat.sub_self, List.replicate_zero, List.append_nil]
  rw [rowAt_map]
  rw [List.getElem?_range h]
  rfl

/-- The group's end, as the second loop takes it. -/
theorem grp_cut {us : List Use} {i : Nat} (hi : i < us.length) :
    (grpI (rsOf us) i ((rsOf us).getD i 0)).length ≤ (grpF (rsOf us) ((rsOf us).getD i 0)).length ∧ (grpF (rsOf us) ((rsOf us).getD i 0)).drop (grpI (rsOf us) i ((rsOf us).getD i 0)).length = encN (jsOf us i) := by
  have hl : (rsOf us).length = us.length := by simp [rsOf]
  have h2 : (grpF (rsOf us) ((rsOf us).getD i 0)).drop (grpI (rsOf us) i ((rsOf us).getD i 0)).length = encN (jsOf us i) := by
    unfold grpF
    rw [← List.map_drop, hl, grp_drop _ (by omega), List.map_map]
    rfl
  refine ⟨?_, h2⟩
  unfold grpF
  rw [List.length_map, hl]
  have hr : List.range us.length = List.range i ++ List.range' i (us.length - i) := by
    rw [List.range_eq_range', List.range_eq_range']
    have := List.range'_append (s := 0) (m := i) (n := us.length - i) (step := 1)
    rw [show i + (us.length - i) = us.length by omega] at this
    simpa using this.symm
  unfold grpI
  rw [hr, List.filter_append, List.map_append, List.length_append]
  omega

theorem jsOf_mem {us : List Use} {i j : Nat} : j ∈ jsOf us i ↔ i ≤ j ∧ j < us.length ∧ (rsOf us).getD j 0 = (rsOf us).getD i 0 := by
  unfold jsOf
  rw [List.mem_filter, List.mem_range'_1]
  simp only [beq_iff_eq]
  omega

theorem visit_r7 (n : Nat) {us : List Use} (hL : us.length ≤ 1000000000) (hok : ∀ u ∈ us, u.ok) {t : Int} (ht : 2 ≤ t) {G : Int → List (List D)} {p : List (List D)} {h9 w2 : Int} {u : Use} (hu : u.ok) {js : List Nat} (hjs : ∀ j ∈ js, j < us.length) (hjl : js.length ≤ 1000000000)
    {k0 k1 : Int → Bool → Bool → Option R} {kx ky : Option R} (hk0 : ∀ x, k0 x true false = kx) (hk1 : ∀ x b, k1 x b true = ky) : ∀ (suf : List Nat) (i m : Nat), js.drop i = suf → i ≤ js.length → suf.length < m →
    occupancy_visit_s1_r7 n t (encU us) G p h9 w2 (encN js) (js.length : Nat) (.int .i64 u.res) (.int .i64 u.train) (.int .i64 u.frm) (.int .i64 u.len) (.int .i64 u.laps) k0 k1 m (i : Int) true = bif suf.any (fun j => cfB t u (useAt us j)) then kx else ky
  | [], i, m, hd, hi, hm => by
    obtain ⟨m, rfl⟩ : ∃ m', m = m' + 1 := ⟨m - 1, by omega⟩
    have := drop_nil hd
    obtain rfl : i = js.length := by omega
    rw [occupancy_visit_s1_r7]
    unfold occupancy_visit_s1_p6
    rw [bif_neg (by simp)]
    exact hk1 _ _
  | j :: suf, i, m, hd, hi, hm => by
    obtain ⟨m, rfl⟩ : ∃ m', m = m' + 1 := ⟨m - 1, by omega⟩
    obtain ⟨h1, h2, h3⟩ := drop_cons hd
    have hj := hjs j (List.mem_of_getElem? h1)
    have hg := List.getElem?_eq_getElem hj
    have hv := hok _ (List.mem_of_getElem? hg)
    rw [occupancy_visit_s1_r7]
    unfold occupancy_visit_s1_p6
    rw [bif_pos (by simp; omega), show rowAt (encN js) (i : Int) = some [D.int .i64 (j : Int)] from rowAt_get h1]
    simp -implicitDefEqProofs only [gb_some_eq, List.getElem?_cons_zero, pInt_i64]
    rw [encU_get hg]
    simp -implicitDefEqProofs only [Use.row, gb_some_eq, List.getElem?_cons_zero, List.getElem?_cons_succ, pInt_i64]
    rw [conflictA n ht hu hv, gb_some_eq, wrap64' (by omega) (by omega), show ((i : Int) + 1) = ((i + 1 : Nat) : Int) from rfl, visit_r7 n hL hok ht hu hjs hjl hk0 hk1 suf (i + 1) m h2 (by omega) (by simp at hm; omega)]
    rw [List.any_cons, useAt_get hg]
    cases cfB t u us[j] with
    | true => exact hk0 _
    | false => rfl

def freeAt (t : Int) (us : List Use) (i : Nat) : Bool := !(jsOf us i).any fun j => cfB t (useAt us i) (useAt us j)
def freeB (t : Int) (us : List Use) : Bool := (List.range' 0 us.length).all (freeAt t us)

theorem jsOf_len (us : List Use) (i : Nat) : (jsOf us i).length ≤ us.length := by
  unfold jsOf
  refine Nat.le_trans (List.length_filter_le ..) ?_
  simp

theorem visit_r16 (n : Nat) {us : List Use} (hn : us.length < n) (hL : us.length ≤ 1000000000) (hok : ∀ u ∈ us, u.ok) {t : Int} (ht : 2 ≤ t)
    {k0 : Int → List (List D) → Int → Int → Bool → D → D → D → D → D → Bool → Option R} {k1 : Int → Bool → Bool → Option R} {kx ky : Option R} (hk0 : ∀ x1 x2 x3 x4 x5 x6 x7 x8 x9 x10, k0 x1 x2 x3 x4 x5 x6 x7 x8 x9 x10 false = kx) (hk1 : ∀ x b, k1 x b true = ky) : ∀ (c i m : Nat), i + c = us.length → c < m →
    occupancy_visit_s1_r16 n t (encU us) (grpF (rsOf us)) (posL (rsOf us) us.length) (us.length : Nat) k0 k1 m (i : Int) true = bif (List.range' i c).all (freeAt t us) then ky else kx
  | 0, i, m, hi, hm => by
    obtain ⟨m, rfl⟩ : ∃ m', m = m' + 1 := ⟨m - 1, by omega⟩
    rw [occupancy_visit_s1_r16]
    simp -implicitDefEqProofs only [occupancy_visit_s1_p15, occupancy_visit_s1_p14, occupancy_visit_s1_p3, occupancy_visit_s1_p2]
    rw [bif_neg (by rw [decide_eq_false_iff_not]; omega)]
    exact hk1 _ _
  | c + 1, i, m, hi, hm => by
    obtain ⟨m, rfl⟩ : ∃ m', m = m' + 1 := ⟨m - 1, by omega⟩
    have hlt : i < us.length := by omega
    have hg := List.getElem?_eq_getElem hlt
    have hu := hok _ (List.mem_of_getElem? hg)
    have hres : (rsOf us).getD i 0 = us[i].res := by simp [rsOf, List.getD_eq_getElem?_getD, hg]
    have hl : (rsOf us).length = us.length := by simp [rsOf]
    obtain ⟨q1, q2⟩ := grp_cut hlt
    have hp := posL_last (rsOf us) (i := i) (by omega)
    rw [hl] at hp
    rw [hres] at q1 q2 hp
    rw [occupancy_visit_s1_r16]
    simp -implicitDefEqProofs only [occupancy_visit_s1_p15, occupancy_visit_s1_p14, occupancy_visit_s1_p13, occupancy_visit_s1_p12, occupancy_visit_s1_p11, occupancy_visit_s1_p10, occupancy_visit_s1_p9, occupancy_visit_s1_p8, occupancy_visit_s1_p7, occupancy_visit_s1_p5, occupancy_visit_s1_p4, occupancy_visit_s1_p3, occupancy_visit_s1_p2]
    rw [bif_pos (by rw [decide_eq_true_eq]; omega), encU_get hg]
    simp -implicitDefEqProofs only [Use.row, gb_some_eq, List.getElem?_cons_zero, List.getElem?_cons_succ, pInt_i64, hp]
    rw [slB_from q1]
    simp -implicitDefEqProofs only [gb_some_eq]
    rw [cut_all q1, q2, show (encN (jsOf us i)).length = (jsOf us i).length by simp [encN], show (0 : Int) = ((0 : Nat) : Int) from rfl]
    have hjl := jsOf_len us i
    rw [wrap64' (x := (i : Int) + 1) (by omega) (by omega), show ((i : Int) + 1) = ((i + 1 : Nat) : Int) from rfl]
    have hrest := visit_r16 n hn hL hok ht hk0 hk1 c (i + 1) m (by omega) (by omega)
    rw [visit_r7 n hL hok ht hu (fun j hj => (jsOf_mem.1 hj).2.1) (by omega) (kx := kx) (ky := bif (List.range' (i + 1) c).all (freeAt t us) then ky else kx) (fun x => hk0 ..) (fun x b => hrest) (jsOf us i) 0 n rfl (by omega) (by omega)]
    rw [List.range'_succ, List.all_cons]
    unfold freeAt
    rw [useAt_get hg]
    cases (jsOf us i).any (fun j => cfB t us[i] (useAt us j)) <;> rfl

theorem freeA (n : Nat) {us : List Use} (hn : us.length < n) (hL : us.length ≤ 1000000000) (hr : ∀ u ∈ us, u.res ≤ 9223372036854775807) (t : Int) (K : Bool → Option R) : occupancy_Free n t (encU us) K = K (validU t us && freeB t us) := by
  simp -implicitDefEqProofs only [occupancy_Free, occupancy_Free_p1, validA n hn (by omega), gb_some_eq]
  cases hv : validU t us with
  | false => rfl
  | true =>
    obtain ⟨h1, h2⟩ := (validU_iff t us).1 hv
    simp -implicitDefEqProofs only [occupancy_visit_s1, visPreA (fun u hu => ⟨(h2 u hu).1, hr u hu⟩) hL, occupancy_visit_s1_p18, occupancy_visit_s1_p17, occupancy_visit_s1_p16, occupancy_visit_s1_p1, encU_length]
    rw [show (0 : Int) = ((0 : Nat) : Int) from rfl, visit_r16 n hn hL h2 h1.1 (kx := some false) (ky := some true) (fun _ _ _ _ _ _ _ _ _ _ => rfl) (fun _ _ => rfl) us.length 0 n (by omega) hn]
    unfold freeB
    cases (List.range' 0 us.length).all (freeAt t us) <;> rfl

theorem freeB_at {t : Int} {us : List Use} (h : freeB t us = true) {i j : Nat} (hij : i ≤ j) {a b : Use} (ha : us[i]? = some a) (hb : us[j]? = some b) (hr : a.res = b.res) : cfB t a b = false := by
  have hi := (List.getElem?_eq_some_iff.1 ha).1
  have hj := (List.getElem?_eq_some_iff.1 hb).1
  have h1 := List.all_eq_true.1 h i (by rw [List.mem_range'_1]; omega)
  unfold freeAt at h1
  simp only [Bool.not_eq_true', List.any_eq_false, Bool.not_eq_true] at h1
  have h2 := h1 j (jsOf_mem.2 ⟨hij, hj, by simp [rsOf, List.getD_eq_getElem?_getD, ha, hb, hr]⟩)
  rwa [useAt_get ha, useAt_get hb] at h2
end
end Go.Vx
/-
  Plain laws of occupancy: Conflicts.
-/
set_option linter.unusedSimpArgs false
set_option linter.unusedVariables false
namespace Go.Vx
section
variable {R : Type}

def encP (l : List (Nat × Nat)) : List (List D) := l.map fun p => [D.int .i64 (p.1 : Int), D.int .i64 (p.2 : Int)]
theorem encP_length (l : List (Nat × Nat)) : (encP l).length = l.length := by simp [encP]
def pairsJ (t : Int) (us : List Use) (i : Nat) (js : List Nat) : List (Nat × Nat) := (js.filter fun j => cfB t (useAt us i) (useAt us j)).map fun j => (i, j)
def pairsU (t : Int) (us : List Use) (is : List Nat) : List (Nat × Nat) := is.flatMap fun i => pairsJ t us i (jsOf us i)

theorem visit3_r7 (n : Nat) {us : List Use} (hL : us.length ≤ 1000000000) (hok : ∀ u ∈ us, u.ok) {t : Int} (ht : 2 ≤ t) {G : Int → List (List D)} {p : List (List D)} {w2 : Int} {i0 : Nat} (hi0 : i0 < us.length) {js : List Nat} (hjs : ∀ j ∈ js, j < us.length) (hjl : js.length ≤ 1000000000)
    {k0 k1 k2 : Int → Bool → List (List D) → Option R} : ∀ (suf : List Nat) (i m : Nat) (acc : List (Nat × Nat)), js.drop i = suf → i ≤ js.length → suf.length < m → acc.length + suf.length ≤ 8000000000000 →
    occupancy_visit_s3_r7 n t (encU us) G p (i0 : Int) w2 (encN js) (js.length : Nat) (.int .i64 us[i0].res) (.int .i64 us[i0].train) (.int .i64 us[i0].frm) (.int .i64 us[i0].len) (.int .i64 us[i0].laps) k0 k1 k2 m (i : Int) (encP acc) = k2 (js.length : Nat) false (encP (acc ++ pairsJ t us i0 suf))
  | [], i, m, acc, hd, hi, hm, ha => by
    obtain ⟨m, rfl⟩ : ∃ m', m = m' + 1 := ⟨m - 1, by omega⟩
    have := drop_nil hd
    obtain rfl : i = js.length := by omega
    rw [occupancy_visit_s3_r7]
    unfold occupancy_visit_s3_p6
    rw [bif_neg (by simp)]
    simp [pairsJ]
  | j :: suf, i, m, acc, hd, hi, hm, ha => by
    obtain ⟨m, rfl⟩ : ∃ m', m = m' + 1 := ⟨m - 1, by omega⟩
    obtain ⟨h1, h2, h3⟩ := drop_cons hd
    have hj := hjs j (List.mem_of_getElem? h1)
    have hg := List.getElem?_eq_getElem hj
    have hv := hok _ (List.mem_of_getElem? hg)
    have hg0 := List.getElem?_eq_getElem hi0
    have hu := hok _ (List.mem_of_getElem? hg0)
    rw [occupancy_visit_s3_r7]
    unfold occupancy_visit_s3_p6
    rw [bif_pos (by simp; omega), show rowAt (encN js) (i : Int) = some [D.int .i64 (j : Int)] from rowAt_get h1]
    simp -implicitDefEqProofs only [gb_some_eq, List.getElem?_cons_zero, pInt_i64]
    rw [encU_get hg]
    simp -implicitDefEqProofs only [Use.row, gb_some_eq, List.getElem?_cons_zero, List.getElem?_cons_succ, pInt_i64, railplan_occupancy_Conflicts_1_s2, railplan_occupancy_Conflicts_1_s2_p1]
    rw [conflictA n ht hu hv, gb_some_eq, wrap64' (by omega) (by omega), show ((i : Int) + 1) = ((i + 1 : Nat) : Int) from rfl]
    have hpj : pairsJ t us i0 (j :: suf) = (if cfB t us[i0] us[j] = true then [(i0, j)] else []) ++ pairsJ t us i0 suf := by
      unfold pairsJ
      rw [List.filter_cons, useAt_get hg0, useAt_get hg]
      split <;> rfl
    rw [hpj]
    simp only [List.length_cons] at ha hm
    cases cfB t us[i0] us[j] with
    | true =>
      rw [room_ok (by simp only [encP_length, List.length_singleton]; omega)]
      simp -implicitDefEqProofs only [gb_some_eq, cond_true]
      rw [show encP acc ++ [[D.int .i64 (i0 : Int), D.int .i64 (j : Int)]] = encP (acc ++ [(i0, j)]) by simp [encP]]
      show occupancy_visit_s3_r7 n t (encU us) G p (i0 : Int) w2 (encN js) (js.length : Nat) _ _ _ _ _ k0 k1 k2 m ((i + 1 : Nat) : Int) (encP (acc ++ [(i0, j)])) = _
      rw [visit3_r7 n hL hok ht hi0 hjs hjl suf (i + 1) m _ h2 (by omega) (by omega) (by simp; omega)]
      simp
    | false =>
      show occupancy_visit_s3_r7 n t (encU us) G p (i0 : Int) w2 (encN js) (js.length : Nat) _ _ _ _ _ k0 k1 k2 m ((i + 1 : Nat) : Int) (encP acc) = _
      rw [visit3_r7 n hL hok ht hi0 hjs hjl suf (i + 1) m _ h2 (by omega) (by omega) (by omega)]
      simp

theorem pairsJ_len (t : Int) (us : List Use) (i : Nat) (js : List Nat) : (pairsJ t us i js).length ≤ js.length := by
  unfold pairsJ
  rw [List.length_map]
  exact List.length_filter_le ..

theorem visit3_r16 (n : Nat) {us : List Use} (hn : us.length < n) (hL : us.length ≤ 2000000) (hok : ∀ u ∈ us, u.ok) {t : Int} (ht : 2 ≤ t)
    {k0 k1 : Int → List (List D) → Int → Int → Bool → D → D → D → D → D → List (List D) → Option R} {k2 : Int → Bool → List (List D) → Option R} : ∀ (c i m : Nat) (acc : List (Nat × Nat)), i + c = us.length → c < m → acc.length ≤ i * 2000000 →
    occupancy_visit_s3_r16 n t (encU us) (grpF (rsOf us)) (posL (rsOf us) us.length) (us.length : Nat) k0 k1 k2 m (i : Int) (encP acc) = k2 (us.length : Nat) false (encP (acc ++ pairsU t us (List.range' i c)))
  | 0, i, m, acc, hi, hm, ha => by
    obtain ⟨m, rfl⟩ : ∃ m', m = m' + 1 := ⟨m - 1, by omega⟩
    obtain rfl : i = us.length := by omega
    rw [occupancy_visit_s3_r16]
    simp -implicitDefEqProofs only [occupancy_visit_s3_p15, occupancy_visit_s3_p14, occupancy_visit_s3_p3, occupancy_visit_s3_p2]
    rw [bif_neg (by simp)]
    simp [pairsU]
  | c + 1, i, m, acc, hi, hm, ha => by
    obtain ⟨m, rfl⟩ : ∃ m', m = m' + 1 := ⟨m - 1, by omega⟩
    have hlt : i < us.length := by omega
    have hg := List.getElem?_eq_getElem hlt
    have hu := hok _ (List.mem_of_getElem? hg)
    have hres : (rsOf us).getD i 0 = us[i].res := by simp [rsOf, List.getD_eq_getElem?_getD, hg]
    have hl : (rsOf us).length = us.length := by simp [rsOf]
    obtain ⟨q1, q2⟩ := grp_cut hlt
    have hp := posL_last (rsOf us) (i := i) (by omega)
    rw [hl] at hp
    rw [hres] at q1 q2 hp
    rw [occupancy_visit_s3_r16]
    simp -implicitDefEqProofs only [occupancy_visit_s3_p15, occupancy_visit_s3_p14, occupancy_visit_s3_p13, occupancy_visit_s3_p12, occupancy_visit_s3_p11, occupancy_visit_s3_p10, occupancy_visit_s3_p9, occupancy_visit_s3_p8, occupancy_visit_s3_p7, occupancy_visit_s3_p5, occupancy_visit_s3_p4, occupancy_visit_s3_p3, occupancy_visit_s3_p2]
    rw [bif_pos (by rw [decide_eq_true_eq]; omega), encU_get hg]
    simp -implicitDefEqProofs only [Use.row, gb_some_eq, List.getElem?_cons_zero, List.getElem?_cons_succ, pInt_i64, hp]
    rw [slB_from q1]
    simp -implicitDefEqProofs only [gb_some_eq]
    rw [cut_all q1, q2, show (encN (jsOf us i)).length = (jsOf us i).length by simp [encN], show (0 : Int) = ((0 : Nat) : Int) from rfl]
    have hjl := jsOf_len us i
    have hpl := pairsJ_len t us i (jsOf us i)
    rw [wrap64' (x := (i : Int) + 1) (by omega) (by omega), show ((i : Int) + 1) = ((i + 1 : Nat) : Int) from rfl]
    rw [visit3_r7 n (by omega) hok ht hlt (fun j hj => (jsOf_mem.1 hj).2.1) (by omega) (jsOf us i) 0 n acc rfl (by omega) (by omega) (by omega)]
    rw [visit3_r16 n hn hL hok ht c (i + 1) m _ (by omega) (by omega) (by rw [List.length_append]; omega)]
    rw [List.range'_succ]
    simp [pairsU]

theorem conflictsA (n : Nat) {us : List Use} (hn : us.length < n) (hL : us.length ≤ 2000000) (hr : ∀ u ∈ us, u.res ≤ 9223372036854775807) (t : Int) (K : List (List D) → Option R) : occupancy_Conflicts n t (encU us) K = K (if validU t us = true then encP (pairsU t us (List.range' 0 us.length)) else []) := by
  simp -implicitDefEqProofs only [occupancy_Conflicts, occupancy_Conflicts_p1, validA n hn (by omega), gb_some_eq]
  cases hv : validU t us with
  | false => rfl
  | true =>
    obtain ⟨h1, h2⟩ := (validU_iff t us).1 hv
    simp -implicitDefEqProofs only [occupancy_visit_s3, visPreA (fun u hu => ⟨(h2 u hu).1, hr u hu⟩) (show us.length ≤ 1000000000 by omega), occupancy_visit_s3_p18, occupancy_visit_s3_p17, occupancy_visit_s3_p16, occupancy_visit_s3_p1, encU_length]
    rw [show (0 : Int) = ((0 : Nat) : Int) from rfl, show ([] : List (List D)) = encP [] from rfl, visit3_r16 n hn hL h2 h1.1 us.length 0 n [] (by omega) hn (by simp)]
    rfl

theorem pairsU_mem {t : Int} {us : List Use} {is : List Nat} {i j : Nat} : (i, j) ∈ pairsU t us is ↔ i ∈ is ∧ j ∈ jsOf us i ∧ cfB t (useAt us i) (useAt us j) = true := by
  unfold pairsU pairsJ
  simp only [List.mem_flatMap, List.mem_map, List.mem_filter, Prod.mk.injEq]
  constructor
  · rintro ⟨a, ha, b, ⟨hb, hc⟩, rfl, rfl⟩
    exact ⟨ha, hb, hc⟩
  · rintro ⟨ha, hb, hc⟩
    exact ⟨i, ha, j, ⟨hb, hc⟩, rfl, rfl⟩
end
end Go.Vx
/-
  The plain law OccupancyFreeMeansOne.
-/
set_option linter.unusedSimpArgs false
set_option linter.unusedVariables false
namespace Go.Vx
section
variable {R : Type}

/-- Numbers that are all the same leave one. -/
theorem compI_one {zs : List Int} (h : ∀ x ∈ zs, ∀ y ∈ zs, x = y) : (compI zs).length ≤ 1 := by
  unfold compI Lib.compact Lib.compactUpTo
  rw [List.length_map]
  have hk : ∀ j, j < zs.length → 0 < j → Lib.keeps zs.toArray j = false := fun j hj h0 => by
    unfold Lib.keeps
    have e1 : zs.toArray[j]! = zs[j] := by simp [hj]
    have e2 : zs.toArray[j - 1]! = zs[j - 1] := by
      have : j - 1 < zs.length := by omega
      simp [this]
    have := h zs[j] (List.getElem_mem ..) zs[j - 1] (List.getElem_mem ..)
    simp [e1, e2, this]
    omega
  cases hz : zs.length with
  | zero => simp
  | succ N =>
    rw [List.range_succ_eq_map, List.filter_cons]
    have h2 : (List.map Nat.succ (List.range N)).filter (Lib.keeps zs.toArray) = [] := by
      rw [List.filter_eq_nil_iff]
      intro j hj
      obtain ⟨k, hk', rfl⟩ := List.mem_map.1 hj
      have := List.mem_range.1 hk'
      rw [hk (k + 1) (by omega) (by omega)]
      simp
    rw [h2]
    split <;> simp

theorem sortI_mem {zs : List Int} {x : Int} : x ∈ sortI zs ↔ x ∈ zs := by
  unfold sortI
  exact List.mem_mergeSort

theorem freeMeansOneA (n : Nat) (hn : 512 < n) {l : List Int} (hl : l.length ≤ 9223372036854775807) (t0 r0 s0 : Int) : law19_OccupancyFreeMeansOne n t0 (encI l) r0 s0 some = some true := by
  have hp := pick_range t0 (m := 40) (by omega)
  obtain ⟨us, h1, h2, h3⟩ := someA n (by omega) hl
  simp -implicitDefEqProofs only [law19_OccupancyFreeMeansOne, law19_OccupancyFreeMeansOne_p1, pickA n _ (show (0 : Int) < 40 by omega) (by omega), pickA n _ (show (0 : Int) < 3 by omega) (by omega), gb_some_eq, h3, occAwake n hn]
  rw [wrap64' (x := 2 + pick t0 40) (by omega) (by omega)]
  generalize ht : 2 + pick t0 40 = t
  rw [atA n (by omega) (by omega) (by omega), freeA n (by omega) (by omega) (fun u hu => by have := (h2 u hu).2.1; omega)]
  have hv : validU t us = true := (validU_iff t us).2 ⟨by omega, fun u hu => Use.made_ok (h2 u hu)⟩
  rw [hv, cond_true, gb_some_eq, gb_some_eq, Bool.true_and]
  cases hf : freeB t us with
  | false => rfl
  | true =>
    have hlen : (encI (compI (sortI (trainsAt t (pick r0 3) (mod s0 t) us)))).length ≤ 1 := by
      rw [encI_length]
      refine compI_one fun x hx y hy => ?_
      rw [sortI_mem] at hx hy
      unfold trainsAt at hx hy
      obtain ⟨a, ha, rfl⟩ := List.mem_map.1 hx
      obtain ⟨b, hb, rfl⟩ := List.mem_map.1 hy
      obtain ⟨ha, ha'⟩ := List.mem_filter.1 ha
      obtain ⟨hb, hb'⟩ := List.mem_filter.1 hb
      have hold : ∀ u, holds t (pick r0 3) (mod s0 t) u = true → u.res = pick r0 3 ∧ (mod s0 t - u.frm) % t < u.len := fun u hu => by
        unfold holds at hu
        cases hr : u.res == pick r0 3 with
        | false => rw [hr] at hu; cases hu
        | true =>
          rw [hr, cond_true, decide_eq_true_eq] at hu
          rw [show mod (mod s0 t - u.frm) t = (mod s0 t - u.frm) % t by rw [mod, if_neg (by omega : ¬ t < 1)]] at hu
          exact ⟨by simpa using hr, hu⟩
      obtain ⟨ra, la⟩ := hold a ha'
      obtain ⟨rb, lb⟩ := hold b hb'
      by_cases htr : a.train = b.train
      · exact htr
      · exfalso
        obtain ⟨i, hi⟩ := List.getElem?_of_mem ha
        obtain ⟨j, hj⟩ := List.getElem?_of_mem hb
        rcases Nat.le_total i j with h | h
        · have h5 := freeB_at hf h hi hj (by omega)
          rw [cf_common (by omega) (mod s0 t) htr la lb] at h5
          cases h5
        · have h5 := freeB_at hf h hj hi (by omega)
          rw [cf_common (by omega) (mod s0 t) (fun e => htr e.symm) lb la] at h5
          cases h5
    rw [show decide (((encI (compI (sortI (trainsAt t (pick r0 3) (mod s0 t) us)))).length : Int) ≤ 1) = true by rw [decide_eq_true_eq]; omega]
    rfl
end
end Go.Vx
/-
  Plain laws of the reference's queries.
-/
set_option linter.unusedSimpArgs false
set_option linter.unusedVariables false
namespace Go.Vx
section
variable {R : Type}

theorem rin (n : Nat) (a b c : Int) (K : Bool → Option R) : ref19_in n a b c K = K (bif (decide (a ≥ b)) then (decide (a ≤ c)) else false) := rfl

theorem rvalid_r5 (n : Nat) (us : List Use) (hL : us.length ≤ 9223372036854775806) (k0 : Option R) (k1 : Int → Bool → Option R) : ∀ (suf : List Use) (i m : Nat), us.drop i = suf → i ≤ us.length → suf.length < m → ref19_Valid_r5 n (encU us) (us.length : Nat) k0 k1 m (i : Int) = bif suf.all okB then k1 (us.length : Nat) false else k0
  | [], i, m, hd, hi, hm => by
    obtain ⟨m, rfl⟩ : ∃ m', m = m' + 1 := ⟨m - 1, by omega⟩
    have := drop_nil hd
    obtain rfl : i = us.length := by omega
    rw [ref19_Valid_r5]
    unfold ref19_Valid_p4
    rw [bif_neg (by simp)]
    simp
  | u :: suf, i, m, hd, hi, hm => by
    obtain ⟨m, rfl⟩ : ∃ m', m = m' + 1 := ⟨m - 1, by omega⟩
    obtain ⟨h1, h2, h3⟩ := drop_cons hd
    rw [ref19_Valid_r5]
    unfold ref19_Valid_p4
    rw [bif_pos (by simp; omega), encU_get h1]
    simp -implicitDefEqProofs only [Use.row, gb_some_eq, List.getElem?_cons_zero, List.getElem?_cons_succ, pInt_i64, rin]
    rw [wrap64' (by omega) (by omega), show ((i : Int) + 1) = ((i + 1 : Nat) : Int) from rfl, rvalid_r5 n us hL k0 k1 suf (i + 1) m h2 (by omega) (by simp at hm; omega)]
    rw [List.all_cons]
    refine (bif_same (c := !okB u) ?_ _ _).trans ?_
    · rw [Bool.eq_iff_iff, Bool.not_eq_true', ← Bool.not_eq_true, okB_iff]
      unfold Use.ok
      simp only [Bool.cond_true_left, Bool.cond_false_right, Bool.or_eq_true, Bool.not_eq_true', Bool.and_eq_false_iff, decide_eq_true_eq, decide_eq_false_iff_not]
      omega
    · cases okB u <;> rfl

theorem rvalidA (n : Nat) {us : List Use} (hn : us.length < n) (hL : us.length ≤ 9223372036854775806) (t : Int) (K : Bool → Option R) : ref19_Valid n t (encU us) K = K (validU t us) := by
  simp -implicitDefEqProofs only [ref19_Valid, ref19_Valid_p11, ref19_Valid_p10, ref19_Valid_p9, ref19_Valid_p8, ref19_Valid_p7, ref19_Valid_p6, ref19_Valid_p5, ref19_Valid_p3, ref19_Valid_p2, ref19_Valid_p1, encU_length, rin, gb_some_eq]
  rw [show (0 : Int) = ((0 : Nat) : Int) from rfl, rvalid_r5 n us hL _ _ us 0 n rfl (by omega) hn]
  unfold validU
  have e : (bif (decide (t ≥ (2 : Int))) then (decide (t ≤ (7200 : Int))) else false) = !(bif (decide (t < (2 : Int))) then true else (decide (t > (7200 : Int)))) := by
    rw [Bool.eq_iff_iff]
    simp only [Bool.cond_true_left, Bool.cond_false_right, Bool.not_eq_true', Bool.or_eq_false_iff, Bool.and_eq_true, decide_eq_true_eq, decide_eq_false_iff_not]
    omega
  rw [e]
  cases (bif (decide (t < (2 : Int))) then true else (decide (t > (7200 : Int)))) with
  | true => rfl
  | false => cases us.all okB <;> rfl

theorem rfloorA (n : Nat) {x t : Int} (h : -4611686018427387904 ≤ x ∧ x ≤ 4611686018427387904) (ht : 2 ≤ t) (K : Int → Option R) : ref1_Floor n x t K = K (x / t) := by
  unfold ref1_Floor ref1_Floor_p1
  rw [nz_ok (by omega)]
  simp -implicitDefEqProofs only [gb_some_eq]
  have hd := Int.mul_tdiv_add_tmod x t
  have hb := tmod_abs x (t := t) (by omega)
  have hq : -4611686018427387904 ≤ x.tdiv t ∧ x.tdiv t ≤ 4611686018427387904 := by
    have := Int.natAbs_tdiv_le_natAbs x t
    omega
  rw [wrap64' (x := x.tdiv t) (by omega) (by omega)]
  by_cases h2 : x.tmod t < 0
  · rw [bif_pos (by simpa using h2), wrap64' (by omega) (by omega), ediv_of (q := x.tdiv t - 1) (by omega) (by rw [Int.mul_sub]; omega) (by rw [Int.mul_sub]; omega)]
  · rw [bif_neg (by simpa using h2), ediv_of (q := x.tdiv t) (by omega) (by omega) (by omega)]
theorem rceilA (n : Nat) {x t : Int} (h : -4611686018427387904 ≤ x ∧ x ≤ 4611686018427387904) (ht : 2 ≤ t) (K : Int → Option R) : ref1_Ceil n x t K = K (-((-x) / t)) := by
  unfold ref1_Ceil ref1_Ceil_p1
  rw [nz_ok (by omega)]
  simp -implicitDefEqProofs only [gb_some_eq]
  have hd := Int.mul_tdiv_add_tmod x t
  have hb := tmod_abs x (t := t) (by omega)
  have hq : -4611686018427387904 ≤ x.tdiv t ∧ x.tdiv t ≤ 4611686018427387904 := by
    have := Int.natAbs_tdiv_le_natAbs x t
    omega
  rw [wrap64' (x := x.tdiv t) (by omega) (by omega)]
  by_cases h2 : x.tmod t > 0
  · rw [bif_pos (by simpa using h2), wrap64' (by omega) (by omega), ediv_of (x := -x) (q := -(x.tdiv t + 1)) (by omega) (by rw [Int.mul_neg, Int.mul_add]; omega) (by rw [Int.mul_neg, Int.mul_add]; omega), Int.neg_neg]
  · rw [bif_neg (by simpa using h2), ediv_of (x := -x) (q := -(x.tdiv t)) (by omega) (by rw [Int.mul_neg]; omega) (by rw [Int.mul_neg]; omega), Int.neg_neg]

theorem cfLo_alt {t : Int} (ht : 2 ≤ t) (x : Int) : (x - 1) / t + 1 = -((-x) / t) := by
  have p := Int.mul_ediv_add_emod (x - 1) t
  have q1 := Int.emod_nonneg (x - 1) (show t ≠ 0 by omega)
  have q2 := Int.emod_lt_of_pos (x - 1) (show 0 < t by omega)
  rw [ediv_of (x := -x) (q := -((x - 1) / t + 1)) (by omega) (by rw [Int.mul_neg, Int.mul_add]; omega) (by rw [Int.mul_neg, Int.mul_add]; omega), Int.neg_neg]
theorem cfHi_alt {t : Int} (ht : 2 ≤ t) (x : Int) : -((-x) / t) - 1 = (x - 1) / t := by
  have := cfLo_alt ht x
  omega

theorem rconflictA (n : Nat) {t : Int} (ht : 2 ≤ t) {a b : Use} (ha : a.ok) (hb : b.ok) (K : Bool → Option R) : ref19_conflict n t a.res a.train a.frm a.len a.laps b.res b.train b.frm b.len b.laps K = K ((b.res == a.res) && cfB t a b) := by
  obtain ⟨a1, a2, a3, a4, a5, a6, a7, a8⟩ := ha
  obtain ⟨b1, b2, b3, b4, b5, b6, b7, b8⟩ := hb
  simp -implicitDefEqProofs only [ref19_conflict, ref19_conflict_p1]
  by_cases hr : a.res = b.res
  · rw [bif_neg (by simp [hr]), show (b.res == a.res) = true by simp [hr], Bool.true_and]
    rw [wrap64' (x := a.frm - b.frm) (by omega) (by omega), wrap64' (x := a.frm - b.frm - b.len) (by omega) (by omega)]
    rw [wrap64' (x := a.frm + a.len) (by omega) (by omega), wrap64' (x := a.frm + a.len - b.frm) (by omega) (by omega)]
    rw [rfloorA n (by omega) ht, rceilA n (by omega) ht]
    simp -implicitDefEqProofs only [gb_some_eq]
    have e1 : (a.frm - b.frm - b.len) / t + 1 = cfLo t a b := by
      rw [show a.frm - b.frm - b.len = (a.frm - b.frm - b.len + 1) - 1 by omega, cfLo_alt ht]; rfl
    have e2 : -((-(a.frm + a.len - b.frm)) / t) - 1 = cfHi t a b := cfHi_alt ht _
    have w1 : -4611686018427387904 ≤ cfLo t a b ∧ cfLo t a b ≤ 4611686018427387904 := by
      have p := Int.mul_ediv_add_emod (-(a.frm - b.frm - b.len + 1)) t
      have q1 := Int.emod_nonneg (-(a.frm - b.frm - b.len + 1)) (show t ≠ 0 by omega)
      have q2 := Int.emod_lt_of_pos (-(a.frm - b.frm - b.len + 1)) (show 0 < t by omega)
      have r1 : -4611686018427387904 ≤ (-(a.frm - b.frm - b.len + 1)) / t := (Int.le_ediv_iff_mul_le (by omega)).2 (by omega)
      have r2 : (-(a.frm - b.frm - b.len + 1)) / t < 4611686018427387904 := (Int.ediv_lt_iff_lt_mul (by omega)).2 (by omega)
      unfold cfLo
      omega
    have w2 : -4611686018427387904 ≤ cfHi t a b ∧ cfHi t a b ≤ 4611686018427387904 := by
      have r1 : -4611686018427387904 ≤ (a.frm + a.len - b.frm - 1) / t := (Int.le_ediv_iff_mul_le (by omega)).2 (by omega)
      have r2 : (a.frm + a.len - b.frm - 1) / t < 4611686018427387904 := (Int.ediv_lt_iff_lt_mul (by omega)).2 (by omega)
      unfold cfHi
      omega
    rw [e1, e2, wrap64' (x := cfLo t a b) (by omega) (by omega), wrap64' (x := cfHi t a b) (by omega) (by omega)]
    unfold cfB
    cases h0 : decide (cfLo t a b > cfHi t a b) with
    | true => rfl
    | false =>
      have h0 : ¬ cfLo t a b > cfHi t a b := by simpa using h0
      cases a.train != b.train with
      | true => rfl
      | false =>
        cases h0 : a.laps == 0 with
        | true =>
          show K _ = K _
          congr 1
          rw [Bool.eq_iff_iff]
          show (bif (cfLo t a b != 0) then true else (cfHi t a b != 0)) = true ↔ (bif decide (cfLo t a b < 0) then true else decide (cfHi t a b > 0)) = true
          simp only [Bool.cond_true_left, Bool.or_eq_true, bne_iff_ne, ne_eq, decide_eq_true_eq]
          omega
        | false =>
          have h0' : a.laps ≠ 0 := by simpa using h0
          cases a.laps == 1 with
          | true => rfl
          | false => rw [nz_ok h0']; rfl
  · rw [bif_pos (by simpa using hr), show (b.res == a.res) = false by simpa using fun h => hr h.symm]
    rfl
end
end Go.Vx
/-
  Plain laws of the reference's Conflicts and Free.
-/
set_option linter.unusedSimpArgs false
set_option linter.unusedVariables false
namespace Go.Vx
section
variable {R : Type}

def pairsR (t : Int) (us : List Use) (i : Nat) (js : List Nat) : List (Nat × Nat) := (js.filter fun j => ((useAt us j).res == (useAt us i).res) && cfB t (useAt us i) (useAt us j)).map fun j => (i, j)

theorem pairsR_len (t : Int) (us : List Use) (i : Nat) (js : List Nat) : (pairsR t us i js).length ≤ js.length := by
  unfold pairsR
  rw [List.length_map]
  exact List.length_filter_le ..

theorem pairsR_eq {t : Int} {us : List Use} {i : Nat} (hi : i < us.length) : pairsR t us i (List.range' i (us.length - i)) = pairsJ t us i (jsOf us i) := by
  unfold pairsR pairsJ jsOf
  rw [List.filter_filter]
  congr 1
  refine List.filter_congr fun j hj => ?_
  rw [List.mem_range'_1] at hj
  have hg := List.getElem?_eq_getElem (show j < us.length by omega)
  have hg0 := List.getElem?_eq_getElem hi
  rw [useAt_get hg, useAt_get hg0]
  simp [rsOf, List.getD_eq_getElem?_getD, hg, hg0]
  exact Bool.and_comm ..

theorem rconf_r10 (n : Nat) {us : List Use} (hL : us.length ≤ 1000000000) (hok : ∀ u ∈ us, u.ok) {t : Int} (ht : 2 ≤ t) {w5 : Int} {i0 : Nat} (hi0 : i0 < us.length) {k0 : Int → Bool → List (List D) → Option R} : ∀ (c j m : Nat) (acc : List (Nat × Nat)), j + c = us.length → c < m → acc.length + c ≤ 8000000000000 →
    ref19_Conflicts_r10 n t (encU us) (i0 : Int) w5 k0 m (j : Int) (encP acc) = k0 (us.length : Nat) false (encP (acc ++ pairsR t us i0 (List.range' j c)))
  | 0, j, m, acc, hj, hm, ha => by
    obtain ⟨m, rfl⟩ : ∃ m', m = m' + 1 := ⟨m - 1, by omega⟩
    obtain rfl : j = us.length := by omega
    rw [ref19_Conflicts_r10]
    unfold ref19_Conflicts_p9
    rw [encU_length, bif_neg (by simp)]
    simp [pairsR]
  | c + 1, j, m, acc, hj, hm, ha => by
    obtain ⟨m, rfl⟩ : ∃ m', m = m' + 1 := ⟨m - 1, by omega⟩
    have hjl : j < us.length := by omega
    have hg := List.getElem?_eq_getElem hjl
    have hv := hok _ (List.mem_of_getElem? hg)
    have hg0 := List.getElem?_eq_getElem hi0
    have hu := hok _ (List.mem_of_getElem? hg0)
    rw [ref19_Conflicts_r10]
    unfold ref19_Conflicts_p9
    rw [encU_length, bif_pos (by rw [decide_eq_true_eq]; omega), encU_get hg, encU_get hg0]
    simp -implicitDefEqProofs only [Use.row, gb_some_eq, List.getElem?_cons_zero, List.getElem?_cons_succ, pInt_i64]
    rw [rconflictA n ht hu hv, gb_some_eq, wrap64' (by omega) (by omega), show ((j : Int) + 1) = ((j + 1 : Nat) : Int) from rfl]
    have hpj : pairsR t us i0 (List.range' j (c + 1)) = (if (us[j].res == us[i0].res && cfB t us[i0] us[j]) = true then [(i0, j)] else []) ++ pairsR t us i0 (List.range' (j + 1) c) := by
      unfold pairsR
      rw [List.range'_succ, List.filter_cons, useAt_get hg0, useAt_get hg]
      split <;> rfl
    rw [hpj]
    cases us[j].res == us[i0].res && cfB t us[i0] us[j] with
    | true =>
      rw [cond_true, room_ok (by simp only [encP_length, List.length_singleton]; omega), gb_some_eq]
      rw [show encP acc ++ [[D.int .i64 (i0 : Int), D.int .i64 (j : Int)]] = encP (acc ++ [(i0, j)]) by simp [encP]]
      rw [rconf_r10 n hL hok ht hi0 c (j + 1) m _ (by omega) (by omega) (by simp; omega)]
      simp
    | false =>
      rw [cond_false, rconf_r10 n hL hok ht hi0 c (j + 1) m _ (by omega) (by omega) (by omega)]
      simp

theorem rconf_r19 (n : Nat) {us : List Use} (hn : us.length < n) (hL : us.length ≤ 2000000) (hok : ∀ u ∈ us, u.ok) {t : Int} (ht : 2 ≤ t) {k0 : Int → Bool → List (List D) → Option R} : ∀ (c i m : Nat) (acc : List (Nat × Nat)), i + c = us.length → c < m → acc.length ≤ i * 2000000 →
    ref19_Conflicts_r19 n t (encU us) (us.length : Nat) k0 m (i : Int) (encP acc) = k0 (us.length : Nat) false (encP (acc ++ pairsU t us (List.range' i c)))
  | 0, i, m, acc, hi, hm, ha => by
    obtain ⟨m, rfl⟩ : ∃ m', m = m' + 1 := ⟨m - 1, by omega⟩
    obtain rfl : i = us.length := by omega
    rw [ref19_Conflicts_r19]
    simp -implicitDefEqProofs only [ref19_Conflicts_p18, ref19_Conflicts_p17, ref19_Conflicts_p6, ref19_Conflicts_p5]
    rw [bif_neg (by simp)]
    simp [pairsU]
  | c + 1, i, m, acc, hi, hm, ha => by
    obtain ⟨m, rfl⟩ : ∃ m', m = m' + 1 := ⟨m - 1, by omega⟩
    have hlt : i < us.length := by omega
    rw [ref19_Conflicts_r19]
    simp -implicitDefEqProofs only [ref19_Conflicts_p18, ref19_Conflicts_p17, ref19_Conflicts_p16, ref19_Conflicts_p15, ref19_Conflicts_p14, ref19_Conflicts_p13, ref19_Conflicts_p12, ref19_Conflicts_p11, ref19_Conflicts_p10, ref19_Conflicts_p8, ref19_Conflicts_p7, ref19_Conflicts_p6, ref19_Conflicts_p5]
    rw [bif_pos (by rw [decide_eq_true_eq]; omega)]
    rw [rconf_r10 n (by omega) hok ht hlt (us.length - i) i n acc (by omega) (by omega) (by omega)]
    rw [wrap64' (by omega) (by omega), show ((i : Int) + 1) = ((i + 1 : Nat) : Int) from rfl]
    have hl := pairsR_len t us i (List.range' i (us.length - i))
    rw [List.length_range'] at hl
    rw [rconf_r19 n hn hL hok ht c (i + 1) m _ (by omega) (by omega) (by rw [List.length_append]; omega)]
    rw [pairsR_eq hlt, List.range'_succ]
    simp [pairsU]

theorem rconflictsA (n : Nat) {us : List Use} (hn : us.length < n) (hL : us.length ≤ 2000000) (t : Int) (K : List (List D) → Option R) : ref19_Conflicts n t (encU us) K = K (if validU t us = true then encP (pairsU t us (List.range' 0 us.length)) else []) := by
  simp -implicitDefEqProofs only [ref19_Conflicts, ref19_Conflicts_p26, ref19_Conflicts_p25, ref19_Conflicts_p24, ref19_Conflicts_p23, ref19_Conflicts_p22, ref19_Conflicts_p21, ref19_Conflicts_p20, ref19_Conflicts_p19, ref19_Conflicts_p4, ref19_Conflicts_p3, ref19_Conflicts_p2, ref19_Conflicts_p1, rvalidA n hn (by omega), gb_some_eq, encU_length]
  cases hv : validU t us with
  | false => rfl
  | true =>
    obtain ⟨h1, h2⟩ := (validU_iff t us).1 hv
    rw [show (0 : Int) = ((0 : Nat) : Int) from rfl, show ([] : List (List D)) = encP [] from rfl, rconf_r19 n hn hL h2 h1.1 us.length 0 n [] (by omega) hn (by simp)]
    rfl

theorem pairsU_len2 {t : Int} {us : List Use} (h : us.length ≤ 2000000) : ∀ is : List Nat, (pairsU t us is).length ≤ is.length * 2000000
  | [] => by simp [pairsU]
  | i :: is => by
    have h1 := pairsJ_len t us i (jsOf us i)
    have h2 := jsOf_len us i
    have h3 := pairsU_len2 (t := t) h is
    have : pairsU t us (i :: is) = pairsJ t us i (jsOf us i) ++ pairsU t us is := by simp [pairsU]
    rw [this, List.length_append, List.length_cons]
    omega

theorem freeB_iff {t : Int} {us : List Use} : freeB t us = true ↔ pairsU t us (List.range' 0 us.length) = [] := by
  unfold freeB
  rw [List.all_eq_true]
  constructor
  · intro h
    rw [List.eq_nil_iff_forall_not_mem]
    rintro ⟨i, j⟩ hm
    obtain ⟨h1, h2, h3⟩ := pairsU_mem.1 hm
    have := h i h1
    unfold freeAt at this
    rw [Bool.not_eq_true', List.any_eq_false] at this
    exact this j h2 h3
  · intro h i hi
    unfold freeAt
    rw [Bool.not_eq_true', List.any_eq_false]
    intro j hj hc
    have := pairsU_mem.2 ⟨hi, hj, hc⟩
    rw [h] at this
    cases this

theorem rfreeA (n : Nat) {us : List Use} (hn : us.length < n) (hL : us.length ≤ 2000000) (t : Int) (K : Bool → Option R) : ref19_Free n t (encU us) K = K (validU t us && freeB t us) := by
  simp -implicitDefEqProofs only [ref19_Free, ref19_Free_p1, rvalidA n hn (by omega), rconflictsA n hn hL, gb_some_eq]
  cases hv : validU t us with
  | false => rfl
  | true =>
    rw [if_pos rfl, cond_true, Bool.true_and, encP_length]
    congr 1
    rw [Bool.eq_iff_iff, freeB_iff]
    simp
end
end Go.Vx
/-
  Plain laws of the reference's At; numbers sorted and compacted.
-/
set_option linter.unusedSimpArgs false
set_option linter.unusedVariables false
namespace Go.Vx
section
variable {R : Type}

theorem rmember_r4 (n : Nat) {l : List Int} (hL : l.length ≤ 1000000000) (x : Int) (k0 : Option R) (k1 : Int → Bool → Option R) : ∀ (suf : List Int) (i m : Nat), l.drop i = suf → i ≤ l.length → suf.length < m →
    ref19_member_r4 n (encI l) x (l.length : Nat) k0 k1 m (i : Int) = bif suf.contains x then k0 else k1 (l.length : Nat) false
  | [], i, m, hd, hi, hm => by
    obtain ⟨m, rfl⟩ : ∃ m', m = m' + 1 := ⟨m - 1, by omega⟩
    have := drop_nil hd
    obtain rfl : i = l.length := by omega
    rw [ref19_member_r4]
    unfold ref19_member_p3
    rw [bif_neg (by simp)]
    simp
  | a :: suf, i, m, hd, hi, hm => by
    obtain ⟨m, rfl⟩ : ∃ m', m = m' + 1 := ⟨m - 1, by omega⟩
    obtain ⟨h1, h2, h3⟩ := drop_cons hd
    rw [ref19_member_r4]
    unfold ref19_member_p3
    rw [bif_pos (by rw [decide_eq_true_eq]; omega), encI_get h1]
    simp -implicitDefEqProofs only [gb_some_eq, List.getElem?_cons_zero, pInt_i64]
    rw [wrap64' (by omega) (by omega), show ((i : Int) + 1) = ((i + 1 : Nat) : Int) from rfl, rmember_r4 n hL x k0 k1 suf (i + 1) m h2 (by omega) (by simp at hm; omega)]
    rw [List.contains_cons, show (a == x) = (x == a) from Bool.beq_comm]
    cases x == a <;> rfl

theorem rmemberA (n : Nat) {l : List Int} (hn : l.length < n) (hL : l.length ≤ 1000000000) (x : Int) (K : Bool → Option R) : ref19_member n (encI l) x K = K (l.contains x) := by
  simp -implicitDefEqProofs only [ref19_member, ref19_member_p9, ref19_member_p8, ref19_member_p7, ref19_member_p6, ref19_member_p5, ref19_member_p4, ref19_member_p2, ref19_member_p1, encI_length]
  rw [show (0 : Int) = ((0 : Nat) : Int) from rfl, rmember_r4 n hL x _ _ l 0 n rfl (by omega) hn]
  cases l.contains x <;> rfl

/-- The place of a number among ascending ones. -/
def plc (x : Int) : List Int → Nat
  | [] => 0
  | a :: l => bif decide (a < x) then plc x l + 1 else 0
theorem plc_le (x : Int) : ∀ l, plc x l ≤ l.length
  | [] => by simp [plc]
  | a :: l => by
    have := plc_le x l
    unfold plc
    cases decide (a < x) <;> simp <;> omega
def ins (x : Int) (l : List Int) : List Int := l.take (plc x l) ++ x :: l.drop (plc x l)
def insU (l : List Int) (x : Int) : List Int := bif l.contains x then l else ins x l

theorem rat_r13 (n : Nat) {t r s w7 h13 : Int} {a1 : List (List D)} {d0 d2 d3 d4 : D} {x : Int} {l : List Int} (hL : l.length ≤ 1000000000) {k0 : Int → Bool → Option R} : ∀ (suf : List Int) (i m : Nat), l.drop i = suf → i ≤ l.length → suf.length < m →
    ref19_At_r13 n t a1 r s (encI l) w7 h13 d0 (.int .i64 x) d2 d3 d4 k0 m (i : Int) = k0 ((i + plc x suf : Nat) : Int) false
  | [], i, m, hd, hi, hm => by
    obtain ⟨m, rfl⟩ : ∃ m', m = m' + 1 := ⟨m - 1, by omega⟩
    have := drop_nil hd
    obtain rfl : i = l.length := by omega
    rw [ref19_At_r13]
    unfold ref19_At_p12
    rw [encI_length, show decide (((l.length : Nat) : Int) < ((l.length : Nat) : Int)) = false by simp]
    have hz : rowAt (encI l) ((l.length : Nat) : Int) = none := by
      unfold rowAt
      rw [bif_pos (by simp), List.getElem?_eq_none (by simp [encI_length])]
    rw [hz]
    rfl
  | a :: suf, i, m, hd, hi, hm => by
    obtain ⟨m, rfl⟩ : ∃ m', m = m' + 1 := ⟨m - 1, by omega⟩
    obtain ⟨h1, h2, h3⟩ := drop_cons hd
    rw [ref19_At_r13]
    unfold ref19_At_p12
    rw [encI_length, show decide (((i : Nat) : Int) < ((l.length : Nat) : Int)) = true by rw [decide_eq_true_eq]; omega, encI_get h1]
    simp -implicitDefEqProofs only [gb_some_eq, List.getElem?_cons_zero, pInt_i64]
    rw [wrap64' (by omega) (by omega), show ((i : Int) + 1) = ((i + 1 : Nat) : Int) from rfl, rat_r13 n hL suf (i + 1) m h2 (by omega) (by simp at hm; omega)]
    rw [show plc x (a :: suf) = bif decide (a < x) then plc x suf + 1 else 0 from rfl]
    cases decide (a < x) with
    | true =>
      show k0 _ _ = k0 _ _
      rw [cond_true]
      congr 2
      omega
    | false => rfl

theorem slB3_to {len k : Nat} (h : k ≤ len) : slB3 len none (some (k : Int)) (some (k : Int)) = some (0, k) := by
  unfold slB3
  simp only
  rw [bif_pos (by simp)]
  unfold slB
  rw [bif_pos (by simp; omega)]
  simp

theorem insU_len (l : List Int) (x : Int) : (insU l x).length ≤ l.length + 1 := by
  unfold insU
  cases l.contains x with
  | true => simp
  | false =>
    have := plc_le x l
    show (ins x l).length ≤ _
    unfold ins
    rw [List.length_append, List.length_cons, List.length_take, List.length_drop]
    omega

theorem rat_r27 (n : Nat) {us : List Use} (hn : us.length < n) (hL : us.length ≤ 1000000000) (hok : ∀ u ∈ us, u.ok) {t : Int} (ht : 2 ≤ t ∧ t ≤ 7200) (r : Int) {s : Int} (hs : 0 ≤ s ∧ s < 7200) (k0 : Int → Bool → List (List D) → Option R) : ∀ (suf : List Use) (i m : Nat) (out : List Int), us.drop i = suf → i ≤ us.length → out.length ≤ i → suf.length < m →
    ref19_At_r27 n t (encU us) r s (us.length : Nat) k0 m (i : Int) (encI out) = k0 (us.length : Nat) false (encI ((trainsAt t r s suf).foldl insU out))
  | [], i, m, out, hd, hi, ho, hm => by
    obtain ⟨m, rfl⟩ : ∃ m', m = m' + 1 := ⟨m - 1, by omega⟩
    have := drop_nil hd
    obtain rfl : i = us.length := by omega
    rw [ref19_At_r27]
    simp -implicitDefEqProofs only [ref19_At_p26, ref19_At_p25, ref19_At_p7, ref19_At_p6]
    rw [bif_neg (by simp)]
    simp [trainsAt]
  | u :: suf, i, m, out, hd, hi, ho, hm => by
    obtain ⟨m, rfl⟩ : ∃ m', m = m' + 1 := ⟨m - 1, by omega⟩
    obtain ⟨h1, h2, h3⟩ := drop_cons hd
    have hu := hok u (List.mem_of_getElem? h1)
    obtain ⟨u1, u2, u3, u4, u5, u6, u7, u8⟩ := hu
    rw [ref19_At_r27]
    simp -implicitDefEqProofs only [ref19_At_p26, ref19_At_p25, ref19_At_p24, ref19_At_p23, ref19_At_p22, ref19_At_p21, ref19_At_p20, ref19_At_p19, ref19_At_p18, ref19_At_p17, ref19_At_p16, ref19_At_p15, ref19_At_p14, ref19_At_p13, ref19_At_p11, ref19_At_p10, ref19_At_p9, ref19_At_p8, ref19_At_p7, ref19_At_p6]
    rw [bif_pos (by rw [decide_eq_true_eq]; omega), encU_get h1]
    simp -implicitDefEqProofs only [Use.row, gb_some_eq, List.getElem?_cons_zero, List.getElem?_cons_succ, pInt_i64]
    rw [wrap64' (x := s - u.frm) (by omega) (by omega), modB n _ t (by omega), gb_some_eq, rmemberA n (by omega) (by omega), gb_some_eq, wrap64' (x := (i : Int) + 1) (by omega) (by omega), show ((i : Int) + 1) = ((i + 1 : Nat) : Int) from rfl]
    have hh : (bif (u.res != r) then true else (decide (mod (s - u.frm) t ≥ u.len))) = !holds t r s u := by
      unfold holds
      show (bif !(u.res == r) then true else _) = _
      cases u.res == r with
      | false => rfl
      | true =>
        show decide _ = !decide _
        rw [Bool.eq_iff_iff, Bool.not_eq_true', decide_eq_true_eq, decide_eq_false_iff_not]
        omega
    rw [hh]
    have htr : trainsAt t r s (u :: suf) = (if holds t r s u = true then [u.train] else []) ++ trainsAt t r s suf := by
      unfold trainsAt
      rw [List.filter_cons]
      split <;> rfl
    rw [htr, List.foldl_append]
    have hlen := insU_len out u.train
    simp only [List.length_cons] at hm
    have ihA := rat_r27 n hn hL hok ht r hs k0 suf (i + 1) m out h2 (by omega) (by omega) (by omega)
    have ihB := rat_r27 n hn hL hok ht r hs k0 suf (i + 1) m (insU out u.train) h2 (by omega) (by omega) (by omega)
    cases holds t r s u with
    | false =>
      rw [show (bif !false then true else out.contains u.train) = true from rfl, cond_true, ihA]
      rfl
    | true =>
      rw [show (bif !true then true else out.contains u.train) = out.contains u.train from rfl]
      cases hc : out.contains u.train with
      | true =>
        rw [cond_true, ihA, if_pos rfl]
        show _ = k0 _ _ (encI (List.foldl insU (insU out u.train) _))
        rw [show insU out u.train = out by unfold insU; rw [hc]; rfl]
      | false =>
        have hp := plc_le u.train out
        rw [cond_false, show (0 : Int) = ((0 : Nat) : Int) from rfl, rat_r13 n (by omega) out 0 n rfl (by omega) (by omega), Nat.zero_add, encI_length, slB3_to hp, slB_from hp]
        simp -implicitDefEqProofs only [gb_some_eq]
        have c1 : cut (encI out) (0, plc u.train out) = encI (out.take (plc u.train out)) := by
          simp [cut, encI, List.map_take]
        have c2 : cut (encI out) (plc u.train out, out.length) = encI (out.drop (plc u.train out)) := by
          unfold cut
          rw [List.take_of_length_le (by simp [encI_length])]
          simp [encI, List.map_drop]
        rw [c1, c2]
        have c3 : ([[D.int .i64 u.train]] ++ encI (out.drop (plc u.train out))) = encI (u.train :: out.drop (plc u.train out)) := rfl
        rw [room_ok (by rw [encI_length, List.length_drop, List.length_singleton]; omega), gb_some_eq, c3]
        rw [show neL (encI (u.train :: out.drop (plc u.train out))) = some () from rfl, gb_some_eq, room_ok (by rw [encI_length, encI_length, List.length_cons, List.length_drop, List.length_take]; omega), gb_some_eq]
        rw [show encI (out.take (plc u.train out)) ++ encI (u.train :: out.drop (plc u.train out)) = encI (insU out u.train) by
          unfold insU
          rw [hc]
          show _ = encI (ins _ _)
          simp [ins, encI]]
        rw [ihB]
        rfl

theorem ratA (n : Nat) {us : List Use} (hn : us.length < n) (hL : us.length ≤ 1000000000) {t : Int} (ht : t ≤ 9223372036854775807) (r s : Int) (K : List (List D) → Option R) : ref19_At n t (encU us) r s K = bif validU t us then K (encI ((trainsAt t r (mod s t) us).foldl insU [])) else K [] := by
  simp -implicitDefEqProofs only [ref19_At, ref19_At_p35, ref19_At_p34, ref19_At_p33, ref19_At_p32, ref19_At_p31, ref19_At_p30, ref19_At_p29, ref19_At_p28, ref19_At_p27, ref19_At_p5, ref19_At_p4, ref19_At_p3, ref19_At_p2, ref19_At_p1, rvalidA n hn (by omega), gb_some_eq, modB n s t ht, encU_length]
  cases hv : validU t us with
  | false => rfl
  | true =>
    obtain ⟨h1, h2⟩ := (validU_iff t us).1 hv
    have hm1 := mod_nonneg s t
    have hm2 := mod_lt s (t := t) (by omega)
    rw [show (0 : Int) = ((0 : Nat) : Int) from rfl, show ([] : List (List D)) = encI [] from rfl, rat_r27 n hn hL h2 h1 r ⟨hm1, by omega⟩ _ us 0 n [] rfl (by omega) (by simp) hn]
    rfl

theorem ssort_ext : ∀ {l1 l2 : List Int}, l1.Pairwise (· < ·) → l2.Pairwise (· < ·) → (∀ x, x ∈ l1 ↔ x ∈ l2) → l1 = l2
  | [], [], _, _, _ => rfl
  | [], b :: l2, _, _, h => absurd ((h b).2 (by simp)) (by simp)
  | a :: l1, [], _, _, h => absurd ((h a).1 (by simp)) (by simp)
  | a :: l1, b :: l2, h1, h2, h => by
    rw [List.pairwise_cons] at h1 h2
    have hab : a = b := by
      have x1 : a ∈ b :: l2 := (h a).1 (by simp)
      have x2 : b ∈ a :: l1 := (h b).2 (by simp)
      rcases List.mem_cons.1 x1 with e | e
      · exact e
      · rcases List.mem_cons.1 x2 with e' | e'
        · exact e'.symm
        · have := h2.1 a e; have := h1.1 b e'; omega
    subst hab
    rw [ssort_ext h1.2 h2.2 fun x => ?_]
    constructor
    · intro hx
      rcases List.mem_cons.1 ((h x).1 (List.mem_cons_of_mem _ hx)) with e | e
      · subst e; exact absurd (h1.1 _ hx) (by omega)
      · exact e
    · intro hx
      rcases List.mem_cons.1 ((h x).2 (List.mem_cons_of_mem _ hx)) with e | e
      · subst e; exact absurd (h2.1 _ hx) (by omega)
      · exact e

theorem ins_mem (x y : Int) (l : List Int) : y ∈ ins x l ↔ y = x ∨ y ∈ l := by
  unfold ins
  have : y ∈ l ↔ y ∈ l.take (plc x l) ∨ y ∈ l.drop (plc x l) := by rw [← List.mem_append, List.take_append_drop]
  rw [this, List.mem_append, List.mem_cons]
  constructor
  · rintro (h | h | h)
    · exact .inr (.inl h)
    · exact .inl h
    · exact .inr (.inr h)
  · rintro (h | h | h)
    · exact .inr (.inl h)
    · exact .inl h
    · exact .inr (.inr h)
theorem ins_cons (x a : Int) (l : List Int) : ins x (a :: l) = if a < x then a :: ins x l else x :: a :: l := by
  unfold ins
  rw [show plc x (a :: l) = bif decide (a < x) then plc x l + 1 else 0 from rfl]
  by_cases h : a < x
  · rw [if_pos h, show decide (a < x) = true by simpa using h]
    rfl
  · rw [if_neg h, show decide (a < x) = false by simpa using h]
    rfl
theorem ins_sorted (x : Int) : ∀ {l : List Int}, l.Pairwise (· < ·) → x ∉ l → (ins x l).Pairwise (· < ·)
  | [], _, _ => by simp [ins, plc]
  | a :: l, h, hx => by
    have hx' := fun e => hx (List.mem_cons_of_mem a e)
    have hne : a ≠ x := fun e => hx (e ▸ List.mem_cons_self ..)
    rw [List.pairwise_cons] at h
    rw [ins_cons]
    split
    · rename_i hlt
      rw [List.pairwise_cons]
      refine ⟨fun y hy => ?_, ins_sorted x h.2 hx'⟩
      rcases (ins_mem x y l).1 hy with e | e
      · omega
      · exact h.1 y e
    · rename_i hlt
      rw [List.pairwise_cons, List.pairwise_cons]
      refine ⟨fun y hy => ?_, h⟩
      rcases List.mem_cons.1 hy with e | e
      · omega
      · have := h.1 y e; omega

theorem foldU : ∀ (xs l : List Int), l.Pairwise (· < ·) → (xs.foldl insU l).Pairwise (· < ·) ∧ ∀ y, y ∈ xs.foldl insU l ↔ y ∈ l ∨ y ∈ xs
  | [], l, h => ⟨h, fun y => by simp⟩
  | x :: xs, l, h => by
    rw [List.foldl_cons, show insU l x = bif l.contains x then l else ins x l from rfl]
    cases hc : l.contains x with
    | true =>
      have hm : x ∈ l := by simpa using hc
      obtain ⟨h1, h2⟩ := foldU xs l h
      refine ⟨h1, fun y => ?_⟩
      rw [cond_true, h2, List.mem_cons]
      constructor
      · rintro (e | e)
        · exact .inl e
        · exact .inr (.inr e)
      · rintro (e | e | e)
        · exact .inl e
        · exact .inl (e ▸ hm)
        · exact .inr e
    | false =>
      have hm : x ∉ l := by simpa using hc
      obtain ⟨h1, h2⟩ := foldU xs (ins x l) (ins_sorted x h hm)
      refine ⟨h1, fun y => ?_⟩
      rw [cond_false, h2, ins_mem, List.mem_cons]
      constructor
      · rintro ((e | e) | e)
        · exact .inr (.inl e)
        · exact .inl e
        · exact .inr (.inr e)
      · rintro (e | e | e)
        · exact .inl (.inr e)
        · exact .inl (.inl e)
        · exact .inr e

theorem keeps_iff (zs : List Int) {j : Nat} (hj : j < zs.length) : Lib.keeps zs.toArray j = true ↔ j = 0 ∨ zs[j] ≠ zs[j - 1] := by
  unfold Lib.keeps
  have e1 : zs.toArray[j]! = zs[j] := by simp [hj]
  have e2 : zs.toArray[j - 1]! = zs[j - 1] := by
    have : j - 1 < zs.length := by omega
    simp [this]
  simp [e1, e2]

theorem compI_eq (zs : List Int) : compI zs = ((List.range zs.length).filter (Lib.keeps zs.toArray)).map fun j => zs.toArray[j]! := by
  unfold compI Lib.compact Lib.compactUpTo
  simp

theorem compI_mem (zs : List Int) (x : Int) : x ∈ compI zs ↔ x ∈ zs := by
  rw [compI_eq, List.mem_map]
  constructor
  · rintro ⟨j, hj, rfl⟩
    obtain ⟨h1, _⟩ := List.mem_filter.1 hj
    have := List.mem_range.1 h1
    simp [this]
  · intro hx
    obtain ⟨i, hi⟩ := List.getElem?_of_mem hx
    have key : ∀ i : Nat, zs[i]? = some x → ∃ a, a ∈ (List.range zs.length).filter (Lib.keeps zs.toArray) ∧ zs.toArray[a]! = x := by
      intro i
      induction i with
      | zero =>
        intro h0
        obtain ⟨hl, he⟩ := List.getElem?_eq_some_iff.1 h0
        refine ⟨0, List.mem_filter.2 ⟨List.mem_range.2 hl, (keeps_iff zs hl).2 (.inl rfl)⟩, ?_⟩
        simp [hl, he]
      | succ i ih =>
        intro h0
        obtain ⟨hl, he⟩ := List.getElem?_eq_some_iff.1 h0
        by_cases hk : Lib.keeps zs.toArray (i + 1) = true
        · exact ⟨i + 1, List.mem_filter.2 ⟨List.mem_range.2 hl, hk⟩, by simp [hl, he]⟩
        · rw [keeps_iff zs hl] at hk
          have hk : zs[i + 1] = zs[i] := by
            have := fun e => hk (.inr e)
            simpa using this
          exact ih (by rw [List.getElem?_eq_getElem (by omega), ← hk, he])
    exact key i hi

theorem compI_sorted {zs : List Int} (h : zs.Pairwise (· ≤ ·)) : (compI zs).Pairwise (· < ·) := by
  rw [compI_eq, List.pairwise_map]
  have hlt := List.pairwise_lt_range (n := zs.length)
  have h2 := hlt.filter (Lib.keeps zs.toArray)
  refine h2.imp_of_mem fun {i j} hi hj hij => ?_
  obtain ⟨i1, _⟩ := List.mem_filter.1 hi
  obtain ⟨j1, j2⟩ := List.mem_filter.1 hj
  have i1 := List.mem_range.1 i1
  have j1 := List.mem_range.1 j1
  rw [keeps_iff zs j1] at j2
  have e1 : zs.toArray[i]! = zs[i] := by simp [i1]
  have e2 : zs.toArray[j]! = zs[j] := by simp [j1]
  rw [e1, e2]
  rw [List.pairwise_iff_getElem] at h
  have hne : zs[j] ≠ zs[j - 1] := by
    rcases j2 with e | e
    · omega
    · exact e
  have a2 := h (j - 1) j (by omega) j1 (by omega)
  have a1 : zs[i] ≤ zs[j - 1] := by
    by_cases e : i = j - 1
    · subst e; exact Int.le_refl _
    · exact h i (j - 1) i1 (by omega) (by omega)
  omega

theorem sortI_le (zs : List Int) : (sortI zs).Pairwise (· ≤ ·) := by
  unfold sortI
  have := List.pairwise_mergeSort (le := fun x y : Int => decide (x ≤ y)) (fun a b c h1 h2 => by simp at *; omega) (fun a b => by simp; omega) zs
  exact this.imp fun h => by simpa using h

theorem fold_comp (xs : List Int) : xs.foldl insU [] = compI (sortI xs) := by
  obtain ⟨h1, h2⟩ := foldU xs [] List.Pairwise.nil
  refine ssort_ext h1 (compI_sorted (sortI_le xs)) fun x => ?_
  rw [h2, compI_mem, sortI_mem]
  simp
end
end Go.Vx
/-
  The plain law OccupancyQueries.
-/
set_option linter.unusedSimpArgs false
set_option linter.unusedVariables false
namespace Go.Vx
section
variable {R : Type}

theorem sameIq_r5 (n : Nat) (l : List Int) (hl : l.length ≤ 1000000000) (k0 : Option R) (k1 : Int → Bool → Option R) : ∀ (suf : List Int) (i m : Nat), l.drop i = suf → i ≤ l.length → suf.length < m →
    keep_Same_int_r5 n (encI l) (encI l) l.length k0 k1 m i = k1 l.length false
  | [], i, m, hd, hi, hm => by
    have := drop_nil hd
    have hie : i = l.length := by omega
    obtain ⟨m, rfl⟩ : ∃ m', m = m' + 1 := ⟨m - 1, by omega⟩
    rw [keep_Same_int_r5]
    unfold keep_Same_int_p4
    rw [bif_neg (by simp; omega), hie]
    simp
  | x :: suf, i, m, hd, hi, hm => by
    obtain ⟨h1, h2, h3⟩ := drop_cons hd
    obtain ⟨m, rfl⟩ : ∃ m', m = m' + 1 := ⟨m - 1, by omega⟩
    rw [keep_Same_int_r5]
    unfold keep_Same_int_p4
    rw [bif_pos (by simpa using h3), encI_get h1]
    simp -implicitDefEqProofs only [gb_some_eq, List.getElem?_cons_zero, pInt_i64]
    rw [bif_neg (by simp), wrap64' (by omega) (by omega), show ((i : Int) + 1) = ((i + 1 : Nat) : Int) from rfl]
    exact sameIq_r5 n l hl k0 k1 suf (i + 1) m h2 (by omega) (by simp at hm; omega)
theorem sameIq (n : Nat) (l : List Int) (hl : l.length ≤ 1000000000) (hn : l.length < n) (K : Bool → Option R) : keep_Same_int n (encI l) (encI l) K = K true := by
  simp -implicitDefEqProofs only [keep_Same_int_p1, keep_Same_int_p2, keep_Same_int_p3, keep_Same_int_p5, keep_Same_int_p6, keep_Same_int_p7, keep_Same_int_p8, keep_Same_int_p9, keep_Same_int_p10, keep_Same_int_p11, keep_Same_int, encI_length]
  rw [bif_neg (by simp)]
  exact sameIq_r5 n l hl _ _ l 0 n rfl (by omega) (by omega)

theorem sameP_r5 (n : Nat) (l : List (Nat × Nat)) (hl : l.length ≤ 8000000000000) (k0 : Option R) (k1 : Int → Bool → Option R) : ∀ (suf : List (Nat × Nat)) (i m : Nat), l.drop i = suf → i ≤ l.length → suf.length < m →
    keep_Same_2_int_r5 n (encP l) (encP l) l.length k0 k1 m i = k1 l.length false
  | [], i, m, hd, hi, hm => by
    have := drop_nil hd
    have hie : i = l.length := by omega
    obtain ⟨m, rfl⟩ : ∃ m', m = m' + 1 := ⟨m - 1, by omega⟩
    rw [keep_Same_2_int_r5]
    unfold keep_Same_2_int_p4
    rw [bif_neg (by simp; omega), hie]
    simp
  | x :: suf, i, m, hd, hi, hm => by
    obtain ⟨h1, h2, h3⟩ := drop_cons hd
    obtain ⟨m, rfl⟩ : ∃ m', m = m' + 1 := ⟨m - 1, by omega⟩
    rw [keep_Same_2_int_r5]
    unfold keep_Same_2_int_p4
    rw [bif_pos (by simpa using h3), show rowAt (encP l) (i : Int) = some [D.int .i64 (x.1 : Int), D.int .i64 (x.2 : Int)] from rowAt_get h1]
    simp -implicitDefEqProofs only [gb_some_eq, List.getElem?_cons_zero, List.getElem?_cons_succ, pInt_i64]
    rw [bif_neg (by simp), wrap64' (by omega) (by omega), show ((i : Int) + 1) = ((i + 1 : Nat) : Int) from rfl]
    exact sameP_r5 n l hl k0 k1 suf (i + 1) m h2 (by omega) (by simp at hm; omega)
theorem sameP (n : Nat) (l : List (Nat × Nat)) (hl : l.length ≤ 8000000000000) (hn : l.length < n) (K : Bool → Option R) : keep_Same_2_int n (encP l) (encP l) K = K true := by
  simp -implicitDefEqProofs only [keep_Same_2_int_p1, keep_Same_2_int_p2, keep_Same_2_int_p3, keep_Same_2_int_p5, keep_Same_2_int_p6, keep_Same_2_int_p7, keep_Same_2_int_p8, keep_Same_2_int_p9, keep_Same_2_int_p10, keep_Same_2_int_p11, keep_Same_2_int, encP_length]
  rw [bif_neg (by simp)]
  exact sameP_r5 n l hl _ _ l 0 n rfl (by omega) (by omega)

theorem queriesA (n : Nat) (hn : 8000000000000 < n) {us : List Use} (hL : us.length ≤ 2000000) (hr : ∀ u ∈ us, u.res ≤ 9223372036854775807) {t : Int} (ht : t ≤ 9223372036854775807) (r s : Int) (K : Bool → Option R) : law19_queries n t (encU us) r s K = K true := by
  have hpl := pairsU_len2 (t := t) hL (List.range' 0 us.length)
  rw [List.length_range'] at hpl
  have hal : (trainsAt t r (mod s t) us).length ≤ us.length := by
    unfold trainsAt
    rw [List.length_map]
    exact List.length_filter_le ..
  have hcl := compI_len (sortI (trainsAt t r (mod s t) us))
  have hsl : (sortI (trainsAt t r (mod s t) us)).length = (trainsAt t r (mod s t) us).length := by simp [sortI]
  simp -implicitDefEqProofs only [law19_queries, law19_queries_p1, validA n (show us.length < n by omega) (show us.length ≤ 9223372036854775806 by omega), rvalidA n (show us.length < n by omega) (show us.length ≤ 9223372036854775806 by omega), conflictsA n (show us.length < n by omega) hL hr, rconflictsA n (show us.length < n by omega) hL, freeA n (show us.length < n by omega) (show us.length ≤ 1000000000 by omega) hr, rfreeA n (show us.length < n by omega) hL, atA n (show us.length < n by omega) (show us.length ≤ 1000000000 by omega) ht, ratA n (show us.length < n by omega) (show us.length ≤ 1000000000 by omega) ht, gb_some_eq, fold_comp]
  cases hv : validU t us with
  | false =>
    rw [if_neg (by simp), show ([] : List (List D)) = encP [] from rfl, sameP n [] (by simp) (by simp; omega), show encP [] = encI [] from rfl]
    simp -implicitDefEqProofs only [gb_some_eq, cond_false, sameIq n [] (by simp) (show ([] : List Int).length < n by simp; omega)]
    simp
  | true =>
    rw [if_pos rfl, sameP n _ (by omega) (by omega)]
    simp -implicitDefEqProofs only [gb_some_eq, cond_true, sameIq n (compI (sortI (trainsAt t r (mod s t) us))) (by omega) (by omega)]
    simp

theorem dec_use : ∀ r : List D, FitL [.int .i64, .int .i64, .int .i64, .int .i64, .int .i64] r → ∃ u : Use, r = u.row ∧ u.res ≤ 9223372036854775807 := by
  intro r h
  obtain ⟨x0, r1, rfl, f0, h⟩ := fitL_cons h
  obtain ⟨x1, r2, rfl, f1, h⟩ := fitL_cons h
  obtain ⟨x2, r3, rfl, f2, h⟩ := fitL_cons h
  obtain ⟨x3, r4, rfl, f3, h⟩ := fitL_cons h
  obtain ⟨x4, r5, rfl, f4, h⟩ := fitL_cons h
  obtain rfl := fitL_nil h
  obtain ⟨n0, rfl, w0⟩ := fit_int f0
  obtain ⟨n1, rfl, w1⟩ := fit_int f1
  obtain ⟨n2, rfl, w2⟩ := fit_int f2
  obtain ⟨n3, rfl, w3⟩ := fit_int f3
  obtain ⟨n4, rfl, w4⟩ := fit_int f4
  exact ⟨⟨n0, n1, n2, n3, n4⟩, rfl, (wf64 w0).2⟩

theorem occQueriesA (n : Nat) (hn : 8000000000000 < n) {l : List Int} (hl : l.length ≤ 9223372036854775807) {raw : List Use} (hraw : raw.length ≤ 1048576) (hr : ∀ u ∈ raw, u.res ≤ 9223372036854775807) (t0 r0 s0 : Int) : law19_OccupancyQueries n t0 (encI l) r0 s0 (encU raw) some = some true := by
  have hp := pick_range t0 (m := 40) (by omega)
  obtain ⟨us, h1, h2, h3⟩ := someA n (by omega) hl
  have hu : ∀ u ∈ us, u.res ≤ 9223372036854775807 := fun u hu => by
    have := h2 u hu
    unfold Use.made at this
    omega
  simp -implicitDefEqProofs only [law19_OccupancyQueries, law19_OccupancyQueries_p1, pickA n _ (show (0 : Int) < 40 by omega) (by omega), pickA n _ (show (0 : Int) < 4 by omega) (by omega), occAwake n (by omega), h3, gb_some_eq, encU_length]
  rw [wrap64' (x := 1 + pick t0 40) (by omega) (by omega)]
  rw [show encU us ++ encU raw = encU (us ++ raw) by simp [encU], room_ok (by omega)]
  have hm : ∀ u ∈ us ++ raw, u.res ≤ 9223372036854775807 := fun u hu' => by
    rcases List.mem_append.1 hu' with h | h
    · exact hu u h
    · exact hr u h
  simp -implicitDefEqProofs only [gb_some_eq, cond_true, queriesA n hn (us := us) (by omega) hu (t := 1 + pick t0 40) (by omega), queriesA n hn (us := us ++ raw) (by rw [List.length_append]; omega) hm (t := 1 + pick t0 40) (by omega)]
end
end Go.Vx
