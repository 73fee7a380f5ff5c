/- Part of a proof: texts VxPlain PlKeep StA StB StC StD StE StF TryShelf BldSt. No conditions of their own. -/
import Derived.Test.YtopjipognhonaaaLVC
import Derived.IntWalk
import Derived.Test.YtopjipognhonaaaLFA
import Derived.Shelf.Strings.Builder1
import Derived.Shelf.Strings.BuilderF
import Derived.Shelf.Strings.BuilderK
import Derived.Shelf.LaysM
import Derived.Shelf.Strconv.Clone
import Derived.Test.YtopjipognhonaaaProg
/-
  Plain lemmas for pure functions: guards, rows, integers, lists.
-/
namespace Go.Vx
section
variable {R : Type}

def i64 (x : Int) : Prop := -9223372036854775808 ≤ x ∧ x ≤ 9223372036854775807

theorem wrap64 {x : Int} (h : i64 x) : IntKind.wrap .i64 x = x := IntWalk.i64_in x h
theorem wrap64' {x : Int} (h1 : -9223372036854775808 ≤ x) (h2 : x ≤ 9223372036854775807) : IntKind.wrap .i64 x = x := IntWalk.i64_in x ⟨h1, h2⟩
theorem wf64 {n : Int} (h : (Lit.int .i64 n).wf = true) : i64 n := by
  simpa [Lit.wf, IntKind.min, IntKind.max, IntKind.signed, IntKind.bits, i64] using h

theorem pInt_int (k : IntKind) (n : Int) : pInt k (.int k n) = some n := by simp [pInt]
theorem pInt_i64 (n : Int) : pInt .i64 (.int .i64 n) = some n := rfl
theorem pInt_u8 (n : Int) : pInt .u8 (.int .u8 n) = some n := rfl
theorem pBool_b (b : Bool) : pBool (.bool b) = some b := rfl
theorem pStr_s (s : List UInt8) : pStr (.str s) = some s := rfl
theorem pSl_s (k : Nat) (l : List (List D)) : pSl k (.sl k l) = some l := by simp [pSl]

theorem rowAt_map {α : Type} (f : α → List D) (l : List α) (i : Nat) : rowAt (l.map f) (i : Int) = (l[i]?).map f := by
  simp [rowAt]
theorem rowAt_get {α : Type} {f : α → List D} {l : List α} {i : Nat} {a : α} (h : l[i]? = some a) : rowAt (l.map f) (i : Int) = some (f a) := by rw [rowAt_map, h]; rfl
theorem rowAt_int {α : Type} {f : α → List D} {l : List α} {i : Int} (h0 : 0 ≤ i) {a : α} (h : l[i.toNat]? = some a) : rowAt (l.map f) i = some (f a) := by
  have : i = (i.toNat : Int) := by omega
  rw [this, rowAt_get h]

theorem room_ok {n : Nat} (h : n ≤ 140737488355328) : room n = some () := by
  unfold room; rw [Nat.ble_eq_true_of_le h]; rfl
theorem nz_ok {b : Int} (h : b ≠ 0) : nz b = some () := by
  have : (b == 0) = false := by simpa using h
  unfold nz; rw [this]; rfl
theorem inB_ok {len : Nat} {n : Int} (h0 : 0 ≤ n) (h : n < len) : inB len n = some () := by
  unfold inB; simp [h0, h]

theorem drop_cons {α : Type} {l : List α} {i : Nat} {a : α} {r : List α} (h : l.drop i = a :: r) : l[i]? = some a ∧ l.drop (i + 1) = r ∧ i < l.length := by
  have h1 : (l.drop i)[0]? = some a := by rw [h]; rfl
  rw [List.getElem?_drop] at h1
  refine ⟨by simpa using h1, by rw [← List.drop_drop, h]; rfl, ?_⟩
  have := (List.getElem?_eq_some_iff.1 h1).1
  omega
theorem drop_nil {α : Type} {l : List α} {i : Nat} (h : l.drop i = []) : l.length ≤ i := List.drop_eq_nil_iff.1 h

theorem bif_or (a b : Bool) (x y : Option R) : (bif a then x else bif b then x else y) = bif a || b then x else y := by cases a <;> rfl
theorem bif_ite (a : Bool) (x y : Option R) : (bif a then x else y) = if a = true then x else y := by cases a <;> rfl
theorem bif_pos {c : Bool} (h : c = true) (x y : R) : (bif c then x else y) = x := by rw [h]; rfl
theorem bif_neg {c : Bool} (h : c = false) (x y : R) : (bif c then x else y) = y := by rw [h]; rfl

theorem bif_flip {B c : Bool} (h : B = !c) (x y : R) : (bif B then x else y) = bif c then y else x := by subst h; cases c <;> rfl
theorem bif_same {B c : Bool} (h : B = c) (x y : R) : (bif B then x else y) = bif c then x else y := by subst h; rfl

/-- Slices of integers. -/
def encI (l : List Int) : List (List D) := l.map fun n => [D.int .i64 n]
theorem encI_length (l : List Int) : (encI l).length = l.length := by simp [encI]
theorem encI_get {l : List Int} {i : Nat} {a : Int} (h : l[i]? = some a) : rowAt (encI l) (i : Int) = some [.int .i64 a] := rowAt_get h

theorem fit_ints {rows : List (List D)} (h : Fit (.sl [.int .i64]) (.sl 1 rows)) : ∃ l : List Int, rows = encI l ∧ (∀ n ∈ l, i64 n) ∧ l.length ≤ maxLen := by
  cases h with
  | sl _ _ hm hl hr =>
    have h1 : ∀ i, i < rows.length → ∃ n : Int, rows[i]? = some [.int .i64 n] ∧ i64 n := by
      intro i hi
      have hri := List.getElem?_eq_getElem hi
      have hlen := hl i _ hri
      obtain ⟨x, hx⟩ : ∃ x, rows[i] = [x] := by
        match hq : rows[i], hlen with
        | [x], _ => exact ⟨x, rfl⟩
      have hf := hr i 0 _ (.int .i64) x hri rfl (by rw [hx]; rfl)
      cases hf with
      | int _ n hw => exact ⟨n, by rw [hri, hx], wf64 hw⟩
    obtain ⟨l, e1, e2⟩ := ex_list rows.length h1
    refine ⟨l, ?_, fun n hn => ?_, by omega⟩
    · refine List.ext_getElem? fun i => ?_
      rcases Nat.lt_or_ge i l.length with hi | hi
      · have := (e2 i _ (List.getElem?_eq_getElem hi)).1
        rw [this]
        simp [encI, hi]
      · rw [List.getElem?_eq_none (by omega), List.getElem?_eq_none (by simpa [encI] using hi)]
    · obtain ⟨i, hi⟩ := List.getElem?_of_mem hn
      exact (e2 i _ hi).2

theorem fit_sl {row : List Sh} {x : D} (h : Fit (.sl row) x) : ∃ rows, x = .sl row.length rows := by
  cases h with
  | sl _ rows _ _ _ => exact ⟨rows, rfl⟩
theorem fit_int {k : IntKind} {x : D} (h : Fit (.int k) x) : ∃ n, x = .int k n ∧ (Lit.int k n).wf = true := by
  cases h with
  | int _ n h => exact ⟨n, rfl, h⟩
theorem fit_bool {x : D} (h : Fit .bool x) : ∃ b, x = .bool b := by
  cases h with
  | bool b => exact ⟨b, rfl⟩
theorem fit_str {x : D} (h : Fit .str x) : ∃ s, x = .str s ∧ s.length ≤ maxLen := by
  cases h with
  | str s h => exact ⟨s, rfl, h⟩

theorem fitL_cons {s : Sh} {ss : List Sh} {ds : List D} (h : FitL (s :: ss) ds) : ∃ x xs, ds = x :: xs ∧ Fit s x ∧ FitL ss xs := by
  obtain ⟨h1, h2⟩ := h
  cases ds with
  | nil => simp at h1
  | cons x xs => exact ⟨x, xs, rfl, h2 0 s x rfl rfl, by simpa using h1, fun j s' x' hs hx => h2 (j + 1) s' x' (by simpa using hs) (by simpa using hx)⟩
theorem fitL_nil {ds : List D} (h : FitL [] ds) : ds = [] := List.eq_nil_of_length_eq_zero (by simpa using h.1)

/-- Slices of structs. -/
theorem fit_structs {α : Type} {enc : α → List D} {Q : α → Prop} {row : List Sh} (hdec : ∀ r : List D, FitL row r → ∃ a, r = enc a ∧ Q a) {k : Nat} {rows : List (List D)} (h : Fit (.sl row) (.sl k rows)) : ∃ l : List α, rows = l.map enc ∧ (∀ a ∈ l, Q a) ∧ l.length ≤ maxLen := by
  cases h with
  | sl _ _ hm hl hr =>
    have h1 : ∀ i, i < rows.length → ∃ a : α, rows[i]? = some (enc a) ∧ Q a := by
      intro i hi
      have hri := List.getElem?_eq_getElem hi
      obtain ⟨a, ha, hq⟩ := hdec rows[i] ⟨hl i _ hri, fun j s x hs hx => hr i j _ s x hri hs hx⟩
      exact ⟨a, by rw [hri, ha], hq⟩
    obtain ⟨l, e1, e2⟩ := ex_list rows.length h1
    refine ⟨l, ?_, fun n hn => ?_, by omega⟩
    · refine List.ext_getElem? fun i => ?_
      rcases Nat.lt_or_ge i l.length with hi | hi
      · rw [(e2 i _ (List.getElem?_eq_getElem hi)).1]; simp [hi]
      · rw [List.getElem?_eq_none (by omega), List.getElem?_eq_none (by simpa using hi)]
    · obtain ⟨i, hi⟩ := List.getElem?_of_mem hn
      exact (e2 i _ hi).2

/-- A law's answer. -/
def lawK : AV → Option Bool
  | .d (.bool b) => some b
  | _ => none
theorem lawK_ok (x : AV) (h : lawK x = some true) : x = .d (.bool true) := by
  unfold lawK at h
  split at h
  · injection h with h; subst h; rfl
  · cases h

end
end Go.Vx
/-
  Plain laws: Pick, Next.
-/
set_option linter.unusedSimpArgs false
set_option linter.unusedVariables false
namespace Go.Vx
section
variable {R : Type}

theorem wrapU_nonneg (x : Int) : 0 ≤ IntKind.wrap .u64 x := by
  have := Int.emod_nonneg x (show (18446744073709551616 : Int) ≠ 0 by decide)
  simpa [IntKind.wrap, IntKind.bits, IntKind.signed] using this
theorem wrapU_id {x : Int} (h0 : 0 ≤ x) (h1 : x < 18446744073709551616) : IntKind.wrap .u64 x = x := by
  have := Int.emod_eq_of_lt h0 h1
  simpa [IntKind.wrap, IntKind.bits, IntKind.signed] using this

/-- The number that Pick takes. -/
def pick (v m : Int) : Int := (IntKind.wrap .u64 v).tmod m
theorem pick_range (v : Int) {m : Int} (h : 0 < m) : 0 ≤ pick v m ∧ pick v m < m := by
  unfold pick
  rw [Int.tmod_eq_emod_of_nonneg (wrapU_nonneg v)]
  exact ⟨Int.emod_nonneg _ (by omega), Int.emod_lt_of_pos _ h⟩

theorem pickA (n : Nat) (v : Int) {m : Int} (h : 0 < m) (hm : m ≤ 9223372036854775807) (K : Int → Option R) : keep_Pick n v m K = K (pick v m) := by
  unfold keep_Pick keep_Pick_p1
  rw [wrapU_id (x := m) (by omega) (by omega), nz_ok (by omega)]
  simp -implicitDefEqProofs only [gb_some_eq]
  have := pick_range v h
  unfold pick at this ⊢
  rw [wrap64' (by omega) (by omega)]

/-- Next: a number below the bound, and the place moves on. -/
theorem nextA (n : Nat) {l : List Int} (hl : l.length ≤ 9223372036854775807) {i : Nat} (hi : i ≤ l.length) {m : Int} (h : 0 < m) (hm : m ≤ 9223372036854775807) :
    ∃ (v : Int) (j : Nat), 0 ≤ v ∧ v < m ∧ j ≤ l.length ∧ ∀ (R : Type) (K : Int → List (List D) → Int → Option R), keep_Source_Next n (encI l) i m K = K v (encI l) j := by
  by_cases hlt : i < l.length
  · have hg := List.getElem?_eq_getElem hlt
    refine ⟨pick l[i] m, i + 1, (pick_range _ h).1, (pick_range _ h).2, by omega, fun R K => ?_⟩
    unfold keep_Source_Next keep_Source_Next_p1
    rw [bif_neg (by simp [encI_length]; omega), wrap64' (x := (i : Int) + 1) (by omega) (by omega), wrap64' (by omega) (by omega)]
    rw [show (i : Int) + 1 - 1 = (i : Int) by omega, encI_get hg]
    simp -implicitDefEqProofs only [gb_some_eq, List.getElem?_cons_zero, pInt_i64, pickA n _ h hm]
    rfl
  · refine ⟨0, i, by omega, h, hi, fun R K => ?_⟩
    unfold keep_Source_Next keep_Source_Next_p1
    rw [bif_pos (by simp [encI_length]; omega)]

end
end Go.Vx
/-
  Plain laws of the store: numbers as bytes, the sum, records.
-/
set_option linter.unusedSimpArgs false
set_option linter.unusedVariables false
namespace Go.Vx
section
variable {R : Type}

theorem nneg_ok {b : Int} (h : 0 ≤ b) : nneg b = some () := by unfold nneg; simp [h]
theorem sumOk_ok {n : Nat} (h : n ≤ 9223372036854775807) : sumOk n = some () := by unfold sumOk; rw [Nat.ble_eq_true_of_le h]; rfl

theorem wrap32_range (x : Int) : 0 ≤ IntKind.wrap .u32 x ∧ IntKind.wrap .u32 x < 4294967296 := by
  have h1 := Int.emod_nonneg x (show (4294967296 : Int) ≠ 0 by decide)
  have h2 := Int.emod_lt_of_pos x (show (0 : Int) < 4294967296 by decide)
  simpa [IntKind.wrap, IntKind.bits, IntKind.signed] using And.intro h1 h2
theorem wrap32_id {x : Int} (h0 : 0 ≤ x) (h1 : x < 4294967296) : IntKind.wrap .u32 x = x := by
  have := Int.emod_eq_of_lt h0 h1
  simpa [IntKind.wrap, IntKind.bits, IntKind.signed] using this
theorem wrap8_eq (x : Int) : IntKind.wrap .u8 x = x % 256 := by
  simp [IntKind.wrap, IntKind.bits, IntKind.signed]

/-! the sum -/

def crcStep (c : Int) : Int := bif bAnd .u32 c 1 == 1 then bXor .u32 (shR .u32 c 1) 3988292384 else shR .u32 c 1
def crcSteps : Nat → Int → Int
  | 0, c => c
  | k + 1, c => crcSteps k (crcStep c)
def crcF : List UInt8 → Int → Int
  | [], c => c
  | b :: r, c => crcF r (crcSteps 8 (bXor .u32 c (IntKind.wrap .u32 (b.toNat : Int))))
def crc (s : List UInt8) : Int := cmplI .u32 (crcF s 4294967295)
theorem crc_range (s : List UInt8) : 0 ≤ crc s ∧ crc s < 4294967296 := by unfold crc cmplI bXor; exact wrap32_range _

theorem byteAt_get {s : List UInt8} {i : Nat} {b : UInt8} (h : s[i]? = some b) : byteAt s (i : Int) = some (b.toNat : Int) := by
  unfold byteAt; simp [h]

theorem sum_r10 (n : Nat) (a0 : List UInt8) (w2 h6 : Int) (k0 : Int → Int → Bool → Option R) : ∀ (k i m : Nat) (c : Int), i + k = 8 → k < m → layoutbin_Sum_r10 n a0 w2 h6 k0 m c i = k0 (crcSteps k c) 8 false
  | 0, i, m, c, hi, hm => by
    obtain ⟨m, rfl⟩ : ∃ m', m = m' + 1 := ⟨m - 1, by omega⟩
    have : i = 8 := by omega
    subst this
    rfl
  | k + 1, i, m, c, hi, hm => by
    obtain ⟨m, rfl⟩ : ∃ m', m = m' + 1 := ⟨m - 1, by omega⟩
    rw [layoutbin_Sum_r10]
    unfold layoutbin_Sum_p9
    rw [bif_pos (by simp; omega), wrap64' (by omega) (by omega), show ((i : Int) + 1) = ((i + 1 : Nat) : Int) from rfl, nneg_ok (by omega), gb_some_eq]
    simp only [crcSteps]
    rw [← sum_r10 n a0 w2 h6 k0 k (i + 1) m (crcStep c) (by omega) (by omega)]
    unfold crcStep
    cases (bAnd .u32 c 1 == 1) <;> rfl

theorem sum_r20 (n : Nat) (hn : 8 < n) (s : List UInt8) (hs : s.length ≤ 9223372036854775807) (k0 : Int → Int → Bool → Option R) : ∀ (suf : List UInt8) (i m : Nat) (c : Int), s.drop i = suf → i ≤ s.length → suf.length < m →
    layoutbin_Sum_r20 n s s.length k0 m c i = k0 (crcF suf c) s.length false
  | [], i, m, c, hd, hi, hm => by
    have := drop_nil hd
    have hie : i = s.length := by omega
    obtain ⟨m, rfl⟩ : ∃ m', m = m' + 1 := ⟨m - 1, by omega⟩
    rw [layoutbin_Sum_r20]
    unfold layoutbin_Sum_p19
    simp -implicitDefEqProofs only [layoutbin_Sum_p4, layoutbin_Sum_p5, layoutbin_Sum_p18]
    rw [bif_neg (by simp; omega), hie]
    simp [crcF]
  | b :: suf, i, m, c, hd, hi, hm => by
    obtain ⟨h1, h2, h3⟩ := drop_cons hd
    obtain ⟨m, rfl⟩ : ∃ m', m = m' + 1 := ⟨m - 1, by omega⟩
    rw [layoutbin_Sum_r20]
    unfold layoutbin_Sum_p19
    simp -implicitDefEqProofs only [layoutbin_Sum_p4, layoutbin_Sum_p5, layoutbin_Sum_p6, layoutbin_Sum_p7, layoutbin_Sum_p8, layoutbin_Sum_p10, layoutbin_Sum_p11, layoutbin_Sum_p12, layoutbin_Sum_p13, layoutbin_Sum_p14, layoutbin_Sum_p15, layoutbin_Sum_p16, layoutbin_Sum_p17, layoutbin_Sum_p18]
    rw [bif_pos (by simpa using h3), byteAt_get h1, gb_some_eq, show (0 : Int) = ((0 : Nat) : Int) from rfl, sum_r10 n s _ _ _ 8 0 n _ (by omega) (by omega), wrap64' (by omega) (by omega), show ((i : Int) + 1) = ((i + 1 : Nat) : Int) from rfl]
    exact sum_r20 n hn s hs k0 suf (i + 1) m _ h2 (by omega) (by simp at hm; omega)

theorem sumA (n : Nat) (hn : 8 < n) (s : List UInt8) (hs : s.length ≤ 9223372036854775807) (hl : s.length < n) (K : Int → Option R) : layoutbin_Sum n s K = K (crc s) := by
  simp -implicitDefEqProofs only [layoutbin_Sum_p1, layoutbin_Sum_p2, layoutbin_Sum_p3, layoutbin_Sum_p20, layoutbin_Sum_p21, layoutbin_Sum_p22, layoutbin_Sum_p23, layoutbin_Sum_p24, layoutbin_Sum_p25, layoutbin_Sum_p26, layoutbin_Sum]
  exact sum_r20 n hn s hs _ s 0 n _ rfl (by omega) (by omega)

theorem crc_r8 (n : Nat) (a0 : List UInt8) (h6 : Int) (k0 : Int → Int → Bool → Option R) : ∀ (k i m : Nat) (c : Int), i + k = 8 → k < m → ref1_Crc_r8 n a0 h6 k0 m c i = k0 (crcSteps k c) 8 false
  | 0, i, m, c, hi, hm => by
    obtain ⟨m, rfl⟩ : ∃ m', m = m' + 1 := ⟨m - 1, by omega⟩
    have : i = 8 := by omega
    subst this
    rfl
  | k + 1, i, m, c, hi, hm => by
    obtain ⟨m, rfl⟩ : ∃ m', m = m' + 1 := ⟨m - 1, by omega⟩
    rw [ref1_Crc_r8]
    unfold ref1_Crc_p7
    rw [bif_pos (by simp; omega), wrap64' (by omega) (by omega), show ((i : Int) + 1) = ((i + 1 : Nat) : Int) from rfl, nneg_ok (by omega)]
    simp only [crcSteps, gb_some_eq]
    rw [← crc_r8 n a0 h6 k0 k (i + 1) m (crcStep c) (by omega) (by omega)]
    unfold crcStep
    cases (bAnd .u32 c 1 == 1) <;> rfl

theorem crc_r16 (n : Nat) (hn : 8 < n) (s : List UInt8) (hs : s.length ≤ 9223372036854775807) (k0 : Int → Int → Bool → Option R) : ∀ (suf : List UInt8) (i m : Nat) (c : Int), s.drop i = suf → i ≤ s.length → suf.length < m →
    ref1_Crc_r16 n s k0 m c i = k0 (crcF suf c) s.length false
  | [], i, m, c, hd, hi, hm => by
    have := drop_nil hd
    have hie : i = s.length := by omega
    obtain ⟨m, rfl⟩ : ∃ m', m = m' + 1 := ⟨m - 1, by omega⟩
    rw [ref1_Crc_r16]
    unfold ref1_Crc_p15
    simp -implicitDefEqProofs only [ref1_Crc_p4]
    rw [bif_neg (by simp; omega), hie]
    simp [crcF]
  | b :: suf, i, m, c, hd, hi, hm => by
    obtain ⟨h1, h2, h3⟩ := drop_cons hd
    obtain ⟨m, rfl⟩ : ∃ m', m = m' + 1 := ⟨m - 1, by omega⟩
    rw [ref1_Crc_r16]
    unfold ref1_Crc_p15
    simp -implicitDefEqProofs only [ref1_Crc_p4, ref1_Crc_p5, ref1_Crc_p6, ref1_Crc_p8, ref1_Crc_p9, ref1_Crc_p10, ref1_Crc_p11, ref1_Crc_p12, ref1_Crc_p13, ref1_Crc_p14]
    rw [bif_pos (by simpa using h3), byteAt_get h1, gb_some_eq, show (0 : Int) = ((0 : Nat) : Int) from rfl, crc_r8 n s _ _ 8 0 n _ (by omega) (by omega), wrap64' (by omega) (by omega), show ((i : Int) + 1) = ((i + 1 : Nat) : Int) from rfl]
    exact crc_r16 n hn s hs k0 suf (i + 1) m _ h2 (by omega) (by simp at hm; omega)

theorem crcB (n : Nat) (hn : 8 < n) (s : List UInt8) (hs : s.length ≤ 9223372036854775807) (hl : s.length < n) (K : Int → Option R) : ref1_Crc n s K = K (crc s) := by
  simp -implicitDefEqProofs only [ref1_Crc_p1, ref1_Crc_p2, ref1_Crc_p3, ref1_Crc_p16, ref1_Crc_p17, ref1_Crc_p18, ref1_Crc_p19, ref1_Crc_p20, ref1_Crc_p21, ref1_Crc_p22, ref1_Crc]
  exact crc_r16 n hn s hs _ s 0 n _ rfl (by omega) (by omega)

/-! numbers as bytes -/

def u8 (x : Int) : UInt8 := UInt8.ofNat (IntKind.wrap .u8 x).toNat
def be4 (x : Int) : List UInt8 := [u8 (x.fdiv 16777216), u8 (x.fdiv 65536), u8 (x.fdiv 256), u8 x]
theorem be4_length (x : Int) : (be4 x).length = 4 := rfl

theorem numberA (n : Nat) (x : Int) (K : List UInt8 → Option R) : store_number n x K = K (be4 x) := rfl
theorem fourB (n : Nat) (x : Int) (K : List UInt8 → Option R) : ref41_four n x K = K (be4 x) := rfl

theorem u8_toNat (x : Int) : ((u8 x).toNat : Int) = x % 256 := by
  unfold u8
  rw [wrap8_eq]
  have h1 := Int.emod_nonneg x (show (256 : Int) ≠ 0 by decide)
  have h2 := Int.emod_lt_of_pos x (show (0 : Int) < 256 by decide)
  have : (UInt8.ofNat (x % 256).toNat).toNat = (x % 256).toNat := by
    rw [UInt8.toNat_ofNat']
    omega
  rw [this]
  omega

def val4 (a b c d : UInt8) : Int := ((a.toNat * 256 + b.toNat) * 256 + c.toNat) * 256 + d.toNat
theorem val4_range (a b c d : UInt8) : 0 ≤ val4 a b c d ∧ val4 a b c d < 4294967296 := by
  have h1 := UInt8.toNat_lt a
  have h2 := UInt8.toNat_lt b
  have h3 := UInt8.toNat_lt c
  have h4 := UInt8.toNat_lt d
  unfold val4
  omega
theorem val4_be4 {x : Int} (h0 : 0 ≤ x) (h1 : x < 4294967296) : val4 (u8 (x.fdiv 16777216)) (u8 (x.fdiv 65536)) (u8 (x.fdiv 256)) (u8 x) = x := by
  unfold val4
  rw [u8_toNat, u8_toNat, u8_toNat, u8_toNat, Int.fdiv_eq_ediv_of_nonneg _ (by decide), Int.fdiv_eq_ediv_of_nonneg _ (by decide), Int.fdiv_eq_ediv_of_nonneg _ (by decide)]
  omega

theorem bOr_add {a b : Int} {k : Nat} (ha : 0 ≤ a) (hb : 0 ≤ b) (hk : b < 2 ^ k) (hd : (2 ^ k : Int) ∣ a) (hs : a + b < 9223372036854775808) : bOr .i64 a b = a + b := by
  obtain ⟨x, rfl⟩ : ∃ x : Nat, a = x := ⟨a.toNat, by omega⟩
  obtain ⟨y, rfl⟩ : ∃ y : Nat, b = y := ⟨b.toNat, by omega⟩
  unfold bOr
  have hbits : IntKind.bits .i64 = 64 := rfl
  rw [hbits, BitVec.ofInt_natCast, BitVec.ofInt_natCast, BitVec.toNat_or, BitVec.toNat_ofNat, BitVec.toNat_ofNat, Nat.mod_eq_of_lt (by omega), Nat.mod_eq_of_lt (by omega)]
  have hd' : 2 ^ k ∣ x := by
    have : ((2 ^ k : Nat) : Int) ∣ (x : Int) := by simpa using hd
    exact Int.natCast_dvd_natCast.1 this
  obtain ⟨q, rfl⟩ := hd'
  have hy : y < 2 ^ k := by
    have : (y : Int) < ((2 ^ k : Nat) : Int) := by simpa using hk
    omega
  rw [← Nat.two_pow_add_eq_or_of_lt hy, wrap64' (by omega) (by omega)]
  simp

theorem shl_small {a : Int} {k : Nat} (hk : k ≤ 24) (h0 : 0 ≤ a) (h1 : a < 4294967296) : shL .i64 a (k : Int) = a * 2 ^ k := by
  unfold shL
  rw [show min ((k : Int)).toNat (IntKind.bits .i64) = k by show min ((k : Int)).toNat 64 = k; omega]
  have h2 : (2 : Int) ^ k ≤ 2 ^ 24 := by
    have : (2 : Nat) ^ k ≤ 2 ^ 24 := Nat.pow_le_pow_right (by decide) hk
    exact_mod_cast this
  have h3 : (0 : Int) < 2 ^ k := by exact_mod_cast Nat.two_pow_pos k
  have h4 : a * 2 ^ k ≤ a * 2 ^ 24 := Int.mul_le_mul_of_nonneg_left h2 h0
  have h5 : 0 ≤ a * 2 ^ k := Int.mul_nonneg h0 (by omega)
  exact wrap64' (by omega) (by omega)
end
end Go.Vx
/-
  Plain laws of the store: values, records, decoding, scanning, appending.
-/
set_option linter.unusedSimpArgs false
set_option linter.unusedVariables false
namespace Go.Vx
section
variable {R : Type}

theorem wrapB (b : UInt8) : IntKind.wrap .i64 ((b.toNat : Nat) : Int) = (b.toNat : Int) := by
  have := UInt8.toNat_lt b
  exact wrap64' (by omega) (by omega)

theorem value_step {c : Int} (h0 : 0 ≤ c) (h1 : c < 16777216) (b : UInt8) : bOr .i64 (shL .i64 c (8 : Int)) ((b.toNat : Nat) : Int) = c * 256 + b.toNat := by
  have hb := UInt8.toNat_lt b
  have := shl_small (a := c) (k := 8) (by omega) h0 (by omega)
  rw [show ((8 : Nat) : Int) = (8 : Int) from rfl] at this
  rw [this, bOr_add (k := 8) (by omega) (by omega) (by omega) (Int.dvd_mul_left ..) (by omega)]
  omega

theorem rowsB_get {s : List UInt8} {i : Nat} {b : UInt8} (h : s[i]? = some b) : rowAt (rowsB s) (i : Int) = some [.int .u8 (b.toNat : Int)] := rowAt_get h

theorem value_step1 (n : Nat) (s : List UInt8) (w : Int) (k0 : Int → Int → Bool → Option R) (m i : Nat) (c : Int) (b : UInt8) (h : s[i]? = some b) (hi : (i : Int) < w) (h2 : i ≤ 10) :
    store_value_r5 n (rowsB s) w k0 (m + 1) c i = store_value_r5 n (rowsB s) w k0 m (bOr .i64 (shL .i64 c (8 : Int)) (IntKind.wrap .i64 (b.toNat : Int))) ((i + 1 : Nat) : Int) := by
  rw [store_value_r5]
  unfold store_value_p4
  rw [bif_pos (by simpa using hi), rowsB_get h]
  simp -implicitDefEqProofs only [gb_some_eq, List.getElem?_cons_zero, pInt_u8, nneg_ok (show (0 : Int) ≤ 8 by omega)]
  rw [wrap64' (x := (i : Int) + 1) (by omega) (by omega)]
  rfl

theorem valueA (n : Nat) (hn : 8 < n) (a b c d : UInt8) (r : List UInt8) (K : Int → Option R) : store_value n (a :: b :: c :: d :: r) K = K (val4 a b c d) := by
  obtain ⟨m, rfl⟩ : ∃ m', n = m' + 5 := ⟨n - 5, by omega⟩
  have ha := UInt8.toNat_lt a
  have hb := UInt8.toNat_lt b
  have hc := UInt8.toNat_lt c
  have hd := UInt8.toNat_lt d
  simp -implicitDefEqProofs only [store_value_p1, store_value_p2, store_value_p3, store_value_p5, store_value_p6, store_value_p7, store_value_p8, store_value_p9, store_value_p10, store_value_p11, store_value]
  have hsl : slB (a :: b :: c :: d :: r).length none (some 4) = some (0, 4) := by
    simp only [slB, Option.getD_none, Option.getD_some]
    rw [bif_pos (by simp; omega)]
    rfl
  rw [hsl, gb_some_eq, show cut (a :: b :: c :: d :: r) (0, 4) = [a, b, c, d] from rfl]
  have e0 : bOr .i64 (shL .i64 0 (8 : Int)) (IntKind.wrap .i64 (a.toNat : Int)) = a.toNat := by rw [wrapB, value_step (by omega) (by omega)]; omega
  have e1 : bOr .i64 (shL .i64 (a.toNat : Int) (8 : Int)) (IntKind.wrap .i64 (b.toNat : Int)) = a.toNat * 256 + b.toNat := by rw [wrapB, value_step (by omega) (by omega)]
  have e2 : bOr .i64 (shL .i64 ((a.toNat : Int) * 256 + b.toNat) (8 : Int)) (IntKind.wrap .i64 (c.toNat : Int)) = (a.toNat * 256 + b.toNat) * 256 + c.toNat := by rw [wrapB, value_step (by omega) (by omega)]
  have e3 : bOr .i64 (shL .i64 (((a.toNat : Int) * 256 + b.toNat) * 256 + c.toNat) (8 : Int)) (IntKind.wrap .i64 (d.toNat : Int)) = val4 a b c d := by rw [wrapB, value_step (by omega) (by omega)]; rfl
  rw [show (((rowsB [a, b, c, d]).length : Nat) : Int) = 4 from rfl]
  have s0 := value_step1 (m + 5) [a, b, c, d] 4 (fun w27 w28 w29 => K w27) (m + 4) 0 0 a rfl (by omega) (by omega)
  have s1 := value_step1 (m + 5) [a, b, c, d] 4 (fun w27 w28 w29 => K w27) (m + 3) 1 (a.toNat : Int) b rfl (by omega) (by omega)
  have s2 := value_step1 (m + 5) [a, b, c, d] 4 (fun w27 w28 w29 => K w27) (m + 2) 2 ((a.toNat : Int) * 256 + b.toNat) c rfl (by omega) (by omega)
  have s3 := value_step1 (m + 5) [a, b, c, d] 4 (fun w27 w28 w29 => K w27) (m + 1) 3 (((a.toNat : Int) * 256 + b.toNat) * 256 + c.toNat) d rfl (by omega) (by omega)
  rw [e0] at s0
  rw [e1] at s1
  rw [e2] at s2
  rw [e3] at s3
  refine s0.trans (s1.trans (s2.trans (s3.trans ?_)))
  rfl

theorem valueB (n : Nat) (s : List UInt8) (i : Nat) (hi : i ≤ 100) (a b c d : UInt8) (h0 : s[i]? = some a) (h1 : s[i + 1]? = some b) (h2 : s[i + 2]? = some c) (h3 : s[i + 3]? = some d) (K : Int → Option R) : ref41_value n s i K = K (val4 a b c d) := by
  have ha := UInt8.toNat_lt a
  have hb := UInt8.toNat_lt b
  have hc := UInt8.toNat_lt c
  have hd := UInt8.toNat_lt d
  simp -implicitDefEqProofs only [ref41_value, ref41_value_p1]
  rw [wrap64' (x := (i : Int) + 1) (by omega) (by omega), wrap64' (x := (i : Int) + 2) (by omega) (by omega), wrap64' (x := (i : Int) + 3) (by omega) (by omega)]
  rw [byteAt_get h0, show ((i : Int) + 1) = ((i + 1 : Nat) : Int) from rfl, byteAt_get h1, show ((i : Int) + 2) = ((i + 2 : Nat) : Int) from rfl, byteAt_get h2, show ((i : Int) + 3) = ((i + 3 : Nat) : Int) from rfl, byteAt_get h3]
  simp -implicitDefEqProofs only [gb_some_eq, nneg_ok (show (0 : Int) ≤ 8 by omega), nneg_ok (show (0 : Int) ≤ 16 by omega), nneg_ok (show (0 : Int) ≤ 24 by omega), wrapB]
  have q1 := shl_small (a := (a.toNat : Int)) (k := 24) (by omega) (by omega) (by omega)
  have q2 := shl_small (a := (b.toNat : Int)) (k := 16) (by omega) (by omega) (by omega)
  have q3 := shl_small (a := (c.toNat : Int)) (k := 8) (by omega) (by omega) (by omega)
  rw [show ((24 : Nat) : Int) = (24 : Int) from rfl] at q1
  rw [show ((16 : Nat) : Int) = (16 : Int) from rfl] at q2
  rw [show ((8 : Nat) : Int) = (8 : Int) from rfl] at q3
  rw [q1, q2, q3]
  have p1 : bOr .i64 ((a.toNat : Int) * 2 ^ 24) ((b.toNat : Int) * 2 ^ 16) = (a.toNat : Int) * 2 ^ 24 + (b.toNat : Int) * 2 ^ 16 := bOr_add (k := 24) (by omega) (by omega) (by omega) (Int.dvd_mul_left ..) (by omega)
  have p2 : bOr .i64 ((a.toNat : Int) * 2 ^ 24 + (b.toNat : Int) * 2 ^ 16) ((c.toNat : Int) * 2 ^ 8) = (a.toNat : Int) * 2 ^ 24 + (b.toNat : Int) * 2 ^ 16 + (c.toNat : Int) * 2 ^ 8 := bOr_add (k := 16) (by omega) (by omega) (by omega) ⟨(a.toNat : Int) * 256 + b.toNat, by omega⟩ (by omega)
  have p3 : bOr .i64 ((a.toNat : Int) * 2 ^ 24 + (b.toNat : Int) * 2 ^ 16 + (c.toNat : Int) * 2 ^ 8) ((d.toNat : Nat) : Int) = (a.toNat : Int) * 2 ^ 24 + (b.toNat : Int) * 2 ^ 16 + (c.toNat : Int) * 2 ^ 8 + d.toNat := bOr_add (k := 8) (by omega) (by omega) (by omega) ⟨((a.toNat : Int) * 256 + b.toNat) * 256 + c.toNat, by omega⟩ (by omega)
  have p4 : (a.toNat : Int) * 2 ^ 24 + (b.toNat : Int) * 2 ^ 16 + (c.toNat : Int) * 2 ^ 8 + d.toNat = val4 a b c d := by unfold val4; omega
  rw [p1, p2, p3, p4]

/-! records -/

structure Ver where
  num : Int
  txt : List UInt8
  deriving DecidableEq
def Ver.enc (v : Ver) : List D := [.int .i64 v.num, .str v.txt]

def vhead (v : Ver) : List UInt8 := [80, 76, 65, 78] ++ be4 v.num ++ be4 v.txt.length
def record (v : Ver) : List UInt8 := vhead v ++ be4 (crc (vhead v ++ v.txt)) ++ v.txt
theorem vhead_length (v : Ver) : (vhead v).length = 12 := rfl
theorem record_length (v : Ver) : (record v).length = 16 + v.txt.length := by
  simp [record, vhead_length, be4_length]; omega

def vcheck (v : Ver) : Int := if v.num < 1 ∨ 2147483647 < v.num then 4 else if 65536 < v.txt.length then 7 else 0
def encode (v : Ver) : List UInt8 × Int := if vcheck v = 0 then (record v, 0) else ([], vcheck v)

theorem vcheck_zero {v : Ver} : vcheck v = 0 ↔ 1 ≤ v.num ∧ v.num ≤ 2147483647 ∧ v.txt.length ≤ 65536 := by
  unfold vcheck
  split
  · constructor
    · intro h; cases h
    · intro h; omega
  · split
    · constructor
      · intro h; cases h
      · intro h; omega
    · constructor
      · intro _; omega
      · intro _; rfl

theorem checkA (n : Nat) (v : Ver) (K : Int → Option R) : store_check n v.num v.txt K = K (vcheck v) := by
  simp -implicitDefEqProofs only [store_check, store_check_p1, Bool.cond_true_left]
  unfold vcheck
  by_cases h : v.num < 1 ∨ 2147483647 < v.num
  · rw [bif_pos (by simp; omega), if_pos h]
  · rw [bif_neg (by simp; omega), if_neg h]
    by_cases h2 : 65536 < v.txt.length
    · rw [bif_pos (by simp; omega), if_pos h2]
    · rw [bif_neg (by simp; omega), if_neg h2]

theorem encodeA (n : Nat) (hn : 70000 < n) (v : Ver) (K : List UInt8 → Int → Option R) : store_Encode n v.num v.txt K = K (encode v).1 (encode v).2 := by
  simp -implicitDefEqProofs only [store_Encode, store_Encode_p1, checkA, gb_some_eq, numberA]
  by_cases h : vcheck v = 0
  · obtain ⟨h1, h2, h3⟩ := vcheck_zero.1 h
    rw [bif_neg (by rw [h]; rfl), wrap32_id (x := v.num) (by omega) (by omega), wrap32_id (x := ((v.txt.length : Nat) : Int)) (by omega) (by omega)]
    rw [sumOk_ok (by simp [be4_length]), sumOk_ok (by simp [be4_length]), sumOk_ok (by simp [be4_length]; omega)]
    simp -implicitDefEqProofs only [gb_some_eq]
    rw [sumA n (by omega) _ (by simp [be4_length]; omega) (by simp [be4_length]; omega)]
    simp -implicitDefEqProofs only [gb_some_eq]
    rw [sumOk_ok (by simp [be4_length]), sumOk_ok (by simp [be4_length]; omega)]
    simp -implicitDefEqProofs only [gb_some_eq, encode, h, if_true]
    rfl
  · rw [bif_pos (by simpa using h)]
    simp [encode, h]

theorem encodeB (n : Nat) (hn : 70000 < n) (v : Ver) (K : List UInt8 → Int → Option R) : ref41_Encode n v.num v.txt K = K (encode v).1 (encode v).2 := by
  simp -implicitDefEqProofs only [ref41_Encode, ref41_Encode_p1, gb_some_eq, fourB, Bool.cond_true_left]
  by_cases h : v.num < 1 ∨ 2147483647 < v.num
  · have hc : vcheck v = 4 := by unfold vcheck; rw [if_pos h]
    rw [bif_pos (by simp; omega)]
    simp [encode, hc]
  · rw [bif_neg (by simp; omega)]
    by_cases h2 : 65536 < v.txt.length
    · have hc : vcheck v = 7 := by unfold vcheck; rw [if_neg h, if_pos h2]
      rw [bif_pos (by simp; omega)]
      simp [encode, hc]
    · have hc : vcheck v = 0 := by unfold vcheck; rw [if_neg h, if_neg h2]
      rw [bif_neg (by simp; omega)]
      rw [sumOk_ok (by simp [be4_length]), sumOk_ok (by simp [be4_length]), sumOk_ok (by simp [be4_length]; omega)]
      simp -implicitDefEqProofs only [gb_some_eq]
      rw [crcB n (by omega) _ (by simp [be4_length]; omega) (by simp [be4_length]; omega)]
      simp -implicitDefEqProofs only [gb_some_eq]
      have hr := crc_range ((([80, 76, 65, 78] ++ be4 v.num) ++ be4 ((v.txt.length : Nat) : Int)) ++ v.txt)
      rw [wrap64' (by omega) (by omega), sumOk_ok (by simp [be4_length]), sumOk_ok (by simp [be4_length]; omega)]
      simp -implicitDefEqProofs only [gb_some_eq, encode, hc, if_true]
      rfl
/-! decoding -/

def vnum (s : List UInt8) (i : Nat) : Int := val4 (s.getD i 0) (s.getD (i + 1) 0) (s.getD (i + 2) 0) (s.getD (i + 3) 0)

def dec (s : List UInt8) : Option (Ver × Nat) :=
  if s.length < 16 then none else if 65536 < vnum s 8 ∨ (s.length : Int) < 16 + vnum s 8 then none else
    if (encode ⟨vnum s 4, (s.drop 16).take (vnum s 8).toNat⟩).2 = 0 ∧ (encode ⟨vnum s 4, (s.drop 16).take (vnum s 8).toNat⟩).1 = s.take (16 + (vnum s 8).toNat) then
      some (⟨vnum s 4, (s.drop 16).take (vnum s 8).toNat⟩, 16 + (vnum s 8).toNat) else none

def decK (o : Option (Ver × Nat)) (K : Int → List UInt8 → Int → Bool → Option R) : Option R :=
  match o with
  | some (v, k) => K v.num v.txt k true
  | none => K 0 [] 0 false

theorem getD_get? {s : List UInt8} {i : Nat} (h : i < s.length) : s[i]? = some (s.getD i 0) := by
  rw [List.getElem?_eq_getElem h]; simp [List.getD, h]

theorem vnumB (n : Nat) (s : List UInt8) (i : Nat) (hi : i ≤ 100) (h : i + 4 ≤ s.length) (K : Int → Option R) : ref41_value n s i K = K (vnum s i) :=
  valueB n s i hi _ _ _ _ (getD_get? (by omega)) (getD_get? (by omega)) (getD_get? (by omega)) (getD_get? (by omega)) K

theorem drop_four {s : List UInt8} {i : Nat} (h : i + 4 ≤ s.length) : s.drop i = s.getD i 0 :: s.getD (i + 1) 0 :: s.getD (i + 2) 0 :: s.getD (i + 3) 0 :: s.drop (i + 4) := by
  rw [List.drop_eq_getElem_cons (by omega), List.drop_eq_getElem_cons (i := i + 1) (by omega), List.drop_eq_getElem_cons (i := i + 2) (by omega), List.drop_eq_getElem_cons (i := i + 3) (by omega)]
  simp [List.getD, show i < s.length by omega, show i + 1 < s.length by omega, show i + 2 < s.length by omega, show i + 3 < s.length by omega]

theorem vnumA (n : Nat) (hn : 8 < n) (s : List UInt8) (i : Nat) (h : i + 4 ≤ s.length) (K : Int → Option R) : store_value n (s.drop i) K = K (vnum s i) := by
  rw [drop_four h]; exact valueA n hn _ _ _ _ _ K

theorem slB_lo {len i : Nat} (h : i ≤ len) : slB len (some (i : Int)) none = some (i, len) := by
  simp only [slB, Option.getD_none, Option.getD_some]
  rw [bif_pos (by simp; omega)]
  simp
theorem slB_hi {len i : Nat} (h : i ≤ len) : slB len none (some (i : Int)) = some (0, i) := by
  simp only [slB, Option.getD_none, Option.getD_some]
  rw [bif_pos (by simp; omega)]
  simp
theorem slB_lohi {len i j : Nat} (h : i ≤ j) (h2 : j ≤ len) : slB len (some (i : Int)) (some (j : Int)) = some (i, j) := by
  simp only [slB, Option.getD_some]
  rw [bif_pos (by simp; omega)]
  simp
theorem cut_lo {α : Type} (l : List α) (i : Nat) : cut l (i, l.length) = l.drop i := by simp [cut, List.take_of_length_le]
theorem cut_hi {α : Type} (l : List α) (i : Nat) : cut l (0, i) = l.take i := by simp [cut]
theorem cut_lohi {α : Type} (l : List α) (i k : Nat) : cut l (i, i + k) = (l.drop i).take k := by simp [cut]

theorem vnum_range (s : List UInt8) (i : Nat) : 0 ≤ vnum s i ∧ vnum s i < 4294967296 := val4_range _ _ _ _

theorem firstB (n : Nat) (hn : 70000 < n) (s : List UInt8) (hs : s.length ≤ 9223372036854775807) (K : Int → List UInt8 → Int → Bool → Option R) : ref41_first n s K = decK (dec s) K := by
  simp -implicitDefEqProofs only [ref41_first, ref41_first_p1]
  by_cases h : s.length < 16
  · rw [bif_pos (by simp; omega)]
    simp [dec, h, decK]
  · rw [bif_neg (by simp; omega)]
    have hb := vnumB n s 8 (by omega) (by omega) (K := (some : Int → Option Int))
    rw [show ((8 : Nat) : Int) = (8 : Int) from rfl] at hb
    rw [hb, gb_some_eq]
    obtain ⟨q, hq⟩ : ∃ q : Nat, vnum s 8 = q := ⟨(vnum s 8).toNat, by have := vnum_range s 8; omega⟩
    have hqr := vnum_range s 8
    have hqt : (vnum s 8).toNat = q := by omega
    rw [wrap64' (by omega) (by omega)]
    by_cases h2 : 65536 < vnum s 8 ∨ (s.length : Int) < 16 + vnum s 8
    · rw [bif_pos (by simp; omega)]
      simp only [dec, if_neg h, if_pos h2, decK]
    · rw [bif_neg (by simp; omega)]
      have hb4 := vnumB n s 4 (by omega) (by omega) (K := (some : Int → Option Int))
      rw [show ((4 : Nat) : Int) = (4 : Int) from rfl] at hb4
      rw [hb4, gb_some_eq, hq, show ((16 : Int) + (q : Int)) = ((16 + q : Nat) : Int) by omega, show (16 : Int) = ((16 : Nat) : Int) from rfl, slB_lohi (by omega) (by omega), gb_some_eq, cut_lohi]
      have he := encodeB n hn ⟨vnum s 4, (s.drop 16).take q⟩ (fun r0 r1 => some (r0, r1))
      simp only at he
      rw [he, gb_some_eq, slB_hi (by omega)]
      simp only [dec, if_neg h, if_neg h2, hqt]
      by_cases h0 : (encode ⟨vnum s 4, (s.drop 16).take q⟩).2 = 0
      · have hb0 : ((encode ⟨vnum s 4, (s.drop 16).take q⟩).2 != 0) = false := by rw [h0]; rfl
        rw [hb0, Bool.not_false, gb_some_eq, cut_hi]
        by_cases h1 : (encode ⟨vnum s 4, (s.drop 16).take q⟩).1 = s.take (16 + q)
        · rw [if_pos ⟨h0, h1⟩, bif_neg (by simp [h1])]
          rfl
        · rw [if_neg (fun h => h1 h.2), bif_pos (by simp [h1])]
          rfl
      · have hb0 : ((encode ⟨vnum s 4, (s.drop 16).take q⟩).2 != 0) = true := by simpa using h0
        rw [if_neg (fun h => h0 h.1), hb0, Bool.not_true, gb_some_eq, bif_pos rfl]
        rfl

theorem hasPrefixA (n : Nat) (s p : List UInt8) (K : Bool → Option R) : strings_HasPrefix n s p K = K (decide (s.take p.length = p)) := by
  simp -implicitDefEqProofs only [strings_HasPrefix, strings_HasPrefix_p1, internal_stringslite_HasPrefix, internal_stringslite_HasPrefix_p1]
  by_cases h : p.length ≤ s.length
  · have hd : decide (((List.length s : Nat) : Int) ≥ ((List.length p : Nat) : Int)) = true := by simp; omega
    rw [hd, slB_hi h]
    simp only [gb_some_eq, cut_hi, cond_true]
    congr 1
    rw [Bool.eq_iff_iff]
    simp
  · have hd : decide (((List.length s : Nat) : Int) ≥ ((List.length p : Nat) : Int)) = false := by simp; omega
    rw [hd, gb_false]
    simp only [cond_false, gb_some_eq]
    congr 1
    symm
    simp only [decide_eq_false_iff_not]
    intro he
    have := congrArg List.length he
    simp at this
    omega

theorem cloneA (n : Nat) (s : List UInt8) (hs : s.length ≤ 281474976710656) (K : List UInt8 → Option R) : strings_Clone n s K = K s := by
  simp -implicitDefEqProofs only [strings_Clone, strings_Clone_p1, internal_stringslite_Clone]
  rw [Nat.ble_eq_true_of_le hs]
  rfl

theorem decodeA (n : Nat) (hn : 70000 < n) (s : List UInt8) (hs : s.length ≤ 9223372036854775807) (K : Int → List UInt8 → Int → Bool → Option R) : store_decode n s K = decK (dec s) K := by
  simp -implicitDefEqProofs only [store_decode, store_decode_p1, hasPrefixA, gb_some_eq]
  by_cases h : s.length < 16
  · have hd : decide (((List.length s : Nat) : Int) < 16) = true := by simp; omega
    rw [hd]
    simp [dec, h, decK]
  · have hd : decide (((List.length s : Nat) : Int) < 16) = false := by simp; omega
    rw [hd]
    simp only [cond_false]
    by_cases hp : s.take 4 = [80, 76, 65, 78]
    · have hpd : decide (List.take ([80, 76, 65, 78] : List UInt8).length s = [80, 76, 65, 78]) = true := by simpa using hp
      rw [hpd]
      simp only [Bool.not_true, cond_false]
      rw [show (8 : Int) = ((8 : Nat) : Int) from rfl, slB_lo (by omega), gb_some_eq, cut_lo, vnumA n (by omega) s 8 (by omega), gb_some_eq]
      obtain ⟨q, hq⟩ : ∃ q : Nat, vnum s 8 = q := ⟨(vnum s 8).toNat, by have := vnum_range s 8; omega⟩
      have hqr := vnum_range s 8
      have hqt : (vnum s 8).toNat = q := by omega
      rw [wrap64' (x := ((s.length : Nat) : Int) - 16) (by omega) (by omega)]
      by_cases h2 : 65536 < vnum s 8 ∨ (s.length : Int) < 16 + vnum s 8
      · rw [bif_pos (by simp; omega)]
        simp only [dec, if_neg h, if_pos h2, decK]
      · rw [bif_neg (by simp; omega)]
        rw [show (4 : Int) = ((4 : Nat) : Int) from rfl, slB_lo (by omega), gb_some_eq, cut_lo, vnumA n (by omega) s 4 (by omega), gb_some_eq, wrap64' (x := (16 : Int) + vnum s 8) (by omega) (by omega), hq, show ((16 : Int) + (q : Int)) = ((16 + q : Nat) : Int) by omega, show (16 : Int) = ((16 : Nat) : Int) from rfl, slB_lohi (by omega) (by omega), gb_some_eq, cut_lohi, cloneA n _ (by simp; omega), gb_some_eq]
        have he := encodeA n hn ⟨vnum s 4, (s.drop 16).take q⟩ (fun r0 r1 => some (r0, r1))
        simp only at he
        rw [he, gb_some_eq]
        simp only [dec, if_neg h, if_neg h2, hqt, gb_some_eq]
        by_cases h0 : (encode ⟨vnum s 4, (s.drop 16).take q⟩).2 = 0
        · have hb0 : ((encode ⟨vnum s 4, (s.drop 16).take q⟩).2 != 0) = false := by rw [h0]; rfl
          have hck : vcheck ⟨vnum s 4, (s.drop 16).take q⟩ = 0 := by
            unfold encode at h0
            split at h0
            · assumption
            · exact h0
          have hrec : (encode ⟨vnum s 4, (s.drop 16).take q⟩).1 = record ⟨vnum s 4, (s.drop 16).take q⟩ := by simp [encode, hck]
          have hlen : (record ⟨vnum s 4, (s.drop 16).take q⟩).length = 16 + q := by rw [record_length]; simp; omega
          rw [hb0, hrec, hlen]
          simp only [cond_false]
          by_cases h1 : s.take (16 + q) = record ⟨vnum s 4, (s.drop 16).take q⟩
          · rw [if_pos ⟨h0, h1.symm⟩, bif_neg (by simp [h1])]
            rfl
          · rw [if_neg (fun h => h1 h.2.symm), bif_pos (by simp [h1])]
            rfl
        · have hb0 : ((encode ⟨vnum s 4, (s.drop 16).take q⟩).2 != 0) = true := by simpa using h0
          rw [if_neg (fun h => h0 h.1), hb0]
          rfl
    · have hpd : decide (List.take ([80, 76, 65, 78] : List UInt8).length s = [80, 76, 65, 78]) = false := by simpa using hp
      rw [hpd]
      simp only [Bool.not_false, cond_true]
      have hnone : dec s = none := by
        unfold dec
        rw [if_neg h]
        split
        · rfl
        · split
          · rename_i hx
            exfalso
            apply hp
            have hck : vcheck ⟨vnum s 4, (s.drop 16).take (vnum s 8).toNat⟩ = 0 := by
              have := hx.1
              unfold encode at this
              split at this
              · assumption
              · exact this
            have hrec : (encode ⟨vnum s 4, (s.drop 16).take (vnum s 8).toNat⟩).1 = record ⟨vnum s 4, (s.drop 16).take (vnum s 8).toNat⟩ := by simp [encode, hck]
            have h4 := congrArg (List.take 4) hx.2
            rw [hrec, List.take_take] at h4
            rw [show min 4 (16 + (vnum s 8).toNat) = 4 by omega] at h4
            rw [← h4]
            rfl
          · rfl
      rw [hnone]
      rfl

/-! scanning -/

def scanF : Nat → Int → List UInt8 → List Ver × Nat
  | 0, _, _ => ([], 0)
  | k + 1, last, s => match dec s with
    | none => ([], 0)
    | some (v, m) => if v.num ≤ last then ([], 0) else (v :: (scanF k v.num (s.drop m)).1, m + (scanF k v.num (s.drop m)).2)
def scan (s : List UInt8) : List Ver × Nat := scanF 64 0 s

theorem dec_some {s : List UInt8} {v : Ver} {m : Nat} (h : dec s = some (v, m)) : vcheck v = 0 ∧ m = 16 + v.txt.length ∧ s.take m = record v ∧ m ≤ s.length := by
  unfold dec at h
  split at h
  · cases h
  · rename_i h16
    split at h
    · cases h
    · rename_i h2
      split at h
      · rename_i hx
        injection h with h
        injection h with h1 h3
        have hr := vnum_range s 8
        have hck : vcheck v = 0 := by
          have := hx.1
          rw [h1] at this
          unfold encode at this
          split at this
          · assumption
          · exact this
        have hl : v.txt.length = (vnum s 8).toNat := by rw [← h1]; simp; omega
        refine ⟨hck, by omega, ?_, by omega⟩
        have h4 := hx.2
        rw [h1] at h4
        rw [← h3, ← h4]
        simp [encode, hck]
      · cases h

theorem scanF_end : ∀ (k : Nat) (last : Int) (s : List UInt8), (scanF k last s).2 ≤ s.length ∧ (scanF k last s).2 ≤ k * 65552 ∧ (scanF k last s).1.length ≤ k
  | 0, _, _ => by simp [scanF]
  | k + 1, last, s => by
    simp only [scanF]
    split
    · simp
    · rename_i v m hd
      split
      · simp
      · obtain ⟨h1, h2, h3, h4⟩ := dec_some hd
        have := vcheck_zero.1 h1
        have ih := scanF_end k v.num (s.drop m)
        simp at ih ⊢
        omega

def lastNum (vs : List Ver) : Int := (vs.getLast?.map Ver.num).getD 0

theorem lastNum_snoc (vs : List Ver) (v : Ver) : lastNum (vs ++ [v]) = v.num := by simp [lastNum]

theorem encV_len (l : List Ver) : (l.map Ver.enc).length = l.length := List.length_map ..
theorem scanA_r5 (n : Nat) (hn : 70000 < n) (s : List UInt8) (hs : s.length ≤ 9223372036854775807) (k0 : Int → Int → Bool → Int → List UInt8 → List (List D) → Option R) (k1 : Int → Bool → List (List D) → Option R) (kx : Int → List (List D) → Option R)
    (hk0 : ∀ e a b c d l, k0 e a b c d l = kx e l) (hk1 : ∀ e b l, k1 e b l = kx e l) : ∀ (k : Nat) (acc : List Ver) (e m : Nat), acc.length + k = 64 → e ≤ s.length → k < m →
    store_Scan_r5 n s k0 k1 m e (acc.map Ver.enc) = kx ((e + (scanF k (lastNum acc) (s.drop e)).2 : Nat) : Int) ((acc ++ (scanF k (lastNum acc) (s.drop e)).1).map Ver.enc)
  | 0, acc, e, m, ha, he, hm => by
    obtain ⟨m, rfl⟩ : ∃ m', m = m' + 1 := ⟨m - 1, by omega⟩
    rw [store_Scan_r5]
    unfold store_Scan_p4
    rw [bif_neg (by simp; omega)]
    simp [scanF, hk1]
  | k + 1, acc, e, m, ha, he, hm => by
    obtain ⟨m, rfl⟩ : ∃ m', m = m' + 1 := ⟨m - 1, by omega⟩
    rw [store_Scan_r5]
    unfold store_Scan_p4
    rw [bif_pos (by simp; omega), slB_lo he, gb_some_eq, cut_lo, decodeA n hn (s.drop e) (by simp; omega)]
    cases hd : dec (s.drop e) with
    | none =>
      simp -implicitDefEqProofs only [decK, gb_some_eq, Bool.not_false, Bool.not_true, Bool.false_and, gb_false, cond_true, hk0]
      simp [scanF, hd]
    | some x =>
      obtain ⟨v, q⟩ := x
      obtain ⟨d1, d2, d3, d4⟩ := dec_some hd
      obtain ⟨c1, c2, c3⟩ := vcheck_zero.1 d1
      simp only [List.length_drop] at d4
      simp -implicitDefEqProofs only [decK, gb_some_eq, Bool.not_false, Bool.not_true, Bool.true_and, cond_false, encV_len, List.length_cons, List.length_nil]
      have ih : ¬ v.num ≤ lastNum acc → store_Scan_r5 n s k0 k1 m (IntKind.wrap .i64 ((e : Int) + (q : Int))) (acc.map Ver.enc ++ [[D.int .i64 v.num, D.str v.txt]]) = kx ((e + (scanF (k + 1) (lastNum acc) (s.drop e)).2 : Nat) : Int) ((acc ++ (scanF (k + 1) (lastNum acc) (s.drop e)).1).map Ver.enc) := by
        intro hle
        rw [wrap64' (by omega) (by omega), show ((e : Int) + (q : Int)) = ((e + q : Nat) : Int) by omega, show acc.map Ver.enc ++ [[D.int .i64 v.num, D.str v.txt]] = (acc ++ [v]).map Ver.enc by simp [Ver.enc]]
        rw [scanA_r5 n hn s hs k0 k1 kx hk0 hk1 k (acc ++ [v]) (e + q) m (by simp; omega) (by omega) (by omega), lastNum_snoc]
        simp only [scanF, hd, if_neg hle, List.drop_drop]
        simp [Nat.add_assoc]
      by_cases h0 : acc.length = 0
      · have hnil : acc = [] := List.eq_nil_of_length_eq_zero h0
        subst hnil
        have hle : ¬ v.num ≤ lastNum [] := by simp [lastNum]; omega
        simp -implicitDefEqProofs only [List.map_nil, List.length_nil] at ih ⊢
        have hg : decide (((0 : Nat) : Int) > 0) = false := by simp
        rw [hg]
        simp -implicitDefEqProofs only [gb_false, cond_false]
        rw [room_ok (by omega), gb_some_eq]
        exact ih hle
      · have hg : decide (((acc.length : Nat) : Int) > 0) = true := by simp; omega
        have hgl : acc[acc.length - 1]? = some (acc[acc.length - 1]'(by omega)) := List.getElem?_eq_getElem (by omega)
        have hlast : lastNum acc = (acc[acc.length - 1]'(by omega)).num := by
          simp only [lastNum, List.getLast?_eq_getElem?, hgl]
          rfl
        rw [hg, wrap64' (x := ((acc.length : Nat) : Int) - 1) (by omega) (by omega), show ((acc.length : Nat) : Int) - 1 = ((acc.length - 1 : Nat) : Int) by omega, inB_ok (by omega) (by omega), Int.toNat_natCast, List.getElem?_map, hgl]
        simp -implicitDefEqProofs only [gb_some_eq, Option.map_some, Ver.enc, List.getElem?_cons_zero, pInt_i64, cond_true]
        rw [← hlast]
        by_cases hle : v.num ≤ lastNum acc
        · rw [bif_pos (by simpa using hle), hk0]
          simp [scanF, hd, hle]
        · rw [bif_neg (by simpa using hle), room_ok (by omega), gb_some_eq]
          exact ih hle

theorem scanA (n : Nat) (hn : 70000 < n) (s : List UInt8) (hs : s.length ≤ 9223372036854775807) (K : List (List D) → Int → Option R) : store_Scan n s K = K ((scan s).1.map Ver.enc) (scan s).2 := by
  simp -implicitDefEqProofs only [store_Scan_p1, store_Scan_p2, store_Scan_p3, store_Scan_p5, store_Scan_p6, store_Scan_p7, store_Scan_p8, store_Scan_p9, store_Scan_p10, store_Scan_p11, store_Scan_p12, store_Scan]
  have := scanA_r5 n hn s hs (fun e _ _ _ _ l => K l e) (fun e _ l => K l e) (fun e l => K l e) (fun _ _ _ _ _ _ => rfl) (fun _ _ _ => rfl) 64 [] 0 n rfl (by omega) (by omega)
  simp only [List.nil_append, Nat.zero_add, List.drop_zero] at this
  exact this

theorem scanB_r5 (n : Nat) (hn : 70000 < n) (s : List UInt8) (hs : s.length ≤ 9223372036854775807) (k0 : Int → Int → Bool → Int → List UInt8 → List (List D) → Option R) (k1 : Int → Bool → List (List D) → Option R) (kx : Int → List (List D) → Option R)
    (hk0 : ∀ e a b c d l, k0 e a b c d l = kx e l) (hk1 : ∀ e b l, k1 e b l = kx e l) : ∀ (k : Nat) (acc : List Ver) (e m : Nat), acc.length + k = 64 → e ≤ s.length → k < m →
    ref41_Scan_r5 n s k0 k1 m e (acc.map Ver.enc) = kx ((e + (scanF k (lastNum acc) (s.drop e)).2 : Nat) : Int) ((acc ++ (scanF k (lastNum acc) (s.drop e)).1).map Ver.enc)
  | 0, acc, e, m, ha, he, hm => by
    obtain ⟨m, rfl⟩ : ∃ m', m = m' + 1 := ⟨m - 1, by omega⟩
    rw [ref41_Scan_r5]
    unfold ref41_Scan_p4
    rw [bif_neg (by simp; omega)]
    simp [scanF, hk1]
  | k + 1, acc, e, m, ha, he, hm => by
    obtain ⟨m, rfl⟩ : ∃ m', m = m' + 1 := ⟨m - 1, by omega⟩
    rw [ref41_Scan_r5]
    unfold ref41_Scan_p4
    rw [bif_pos (by simp; omega), slB_lo he, gb_some_eq, cut_lo, firstB n hn (s.drop e) (by simp; omega)]
    cases hd : dec (s.drop e) with
    | none =>
      simp -implicitDefEqProofs only [decK, gb_some_eq, Bool.not_false, Bool.not_true, Bool.false_and, gb_false, cond_true, hk0]
      simp [scanF, hd]
    | some x =>
      obtain ⟨v, q⟩ := x
      obtain ⟨d1, d2, d3, d4⟩ := dec_some hd
      obtain ⟨c1, c2, c3⟩ := vcheck_zero.1 d1
      simp only [List.length_drop] at d4
      simp -implicitDefEqProofs only [decK, gb_some_eq, Bool.not_false, Bool.not_true, Bool.true_and, cond_false, encV_len, List.length_cons, List.length_nil]
      have ih : ¬ v.num ≤ lastNum acc → ref41_Scan_r5 n s k0 k1 m (IntKind.wrap .i64 ((e : Int) + (q : Int))) (acc.map Ver.enc ++ [[D.int .i64 v.num, D.str v.txt]]) = kx ((e + (scanF (k + 1) (lastNum acc) (s.drop e)).2 : Nat) : Int) ((acc ++ (scanF (k + 1) (lastNum acc) (s.drop e)).1).map Ver.enc) := by
        intro hle
        rw [wrap64' (by omega) (by omega), show ((e : Int) + (q : Int)) = ((e + q : Nat) : Int) by omega, show acc.map Ver.enc ++ [[D.int .i64 v.num, D.str v.txt]] = (acc ++ [v]).map Ver.enc by simp [Ver.enc]]
        rw [scanB_r5 n hn s hs k0 k1 kx hk0 hk1 k (acc ++ [v]) (e + q) m (by simp; omega) (by omega) (by omega), lastNum_snoc]
        simp only [scanF, hd, if_neg hle, List.drop_drop]
        simp [Nat.add_assoc]
      by_cases h0 : acc.length = 0
      · have hnil : acc = [] := List.eq_nil_of_length_eq_zero h0
        subst hnil
        have hle : ¬ v.num ≤ lastNum [] := by simp [lastNum]; omega
        simp -implicitDefEqProofs only [List.map_nil, List.length_nil] at ih ⊢
        have hg : decide (((0 : Nat) : Int) > 0) = false := by simp
        rw [hg]
        simp -implicitDefEqProofs only [gb_false, cond_false]
        rw [room_ok (by omega), gb_some_eq]
        exact ih hle
      · have hg : decide (((acc.length : Nat) : Int) > 0) = true := by simp; omega
        have hgl : acc[acc.length - 1]? = some (acc[acc.length - 1]'(by omega)) := List.getElem?_eq_getElem (by omega)
        have hlast : lastNum acc = (acc[acc.length - 1]'(by omega)).num := by
          simp only [lastNum, List.getLast?_eq_getElem?, hgl]
          rfl
        rw [hg, wrap64' (x := ((acc.length : Nat) : Int) - 1) (by omega) (by omega), show ((acc.length : Nat) : Int) - 1 = ((acc.length - 1 : Nat) : Int) by omega, inB_ok (by omega) (by omega), Int.toNat_natCast, List.getElem?_map, hgl]
        simp -implicitDefEqProofs only [gb_some_eq, Option.map_some, Ver.enc, List.getElem?_cons_zero, pInt_i64, cond_true]
        rw [← hlast]
        by_cases hle : v.num ≤ lastNum acc
        · rw [bif_pos (by simpa using hle), hk0]
          simp [scanF, hd, hle]
        · rw [bif_neg (by simpa using hle), room_ok (by omega), gb_some_eq]
          exact ih hle

theorem scanB (n : Nat) (hn : 70000 < n) (s : List UInt8) (hs : s.length ≤ 9223372036854775807) (K : List (List D) → Int → Option R) : ref41_Scan n s K = K ((scan s).1.map Ver.enc) (scan s).2 := by
  simp -implicitDefEqProofs only [ref41_Scan_p1, ref41_Scan_p2, ref41_Scan_p3, ref41_Scan_p5, ref41_Scan_p6, ref41_Scan_p7, ref41_Scan_p8, ref41_Scan_p9, ref41_Scan_p10, ref41_Scan_p11, ref41_Scan_p12, ref41_Scan]
  have := scanB_r5 n hn s hs (fun e _ _ _ _ l => K l e) (fun e _ l => K l e) (fun e l => K l e) (fun _ _ _ _ _ _ => rfl) (fun _ _ _ => rfl) 64 [] 0 n rfl (by omega) (by omega)
  simp only [List.nil_append, Nat.zero_add, List.drop_zero] at this
  exact this

/-! appending -/

def appR (s rc : List UInt8) (v : Ver) (r : List Ver × Nat) : List UInt8 × Int :=
  if 0 < r.1.length ∧ v.num ≤ lastNum r.1 then ([], 20) else if r.1.length = 64 ∨ 1048576 < r.2 + rc.length then ([], 7) else (s.take r.2 ++ rc, 0)
def appendV (s : List UInt8) (v : Ver) : List UInt8 × Int :=
  if (encode v).2 ≠ 0 then ([], (encode v).2) else appR s (encode v).1 v (scan s)

theorem appendA (n : Nat) (hn : 70000 < n) (s : List UInt8) (hs : s.length ≤ 9223372036854775807) (v : Ver) (K : List UInt8 → Int → Option R) : store_Append n s v.num v.txt K = K (appendV s v).1 (appendV s v).2 := by
  simp -implicitDefEqProofs only [store_Append, store_Append_p1, encodeA n hn, gb_some_eq, scanA n hn s hs, encV_len]
  unfold appendV
  by_cases h : vcheck v = 0
  · obtain ⟨c1, c2, c3⟩ := vcheck_zero.1 h
    have he : encode v = (record v, 0) := by simp [encode, h]
    have hend := scanF_end 64 0 s
    rw [he, if_neg (by simp), bif_neg (by rfl)]
    rw [show scanF 64 0 s = scan s from rfl] at hend
    generalize hsc : scan s = r at hend
    have hrl := record_length v
    have hwrap : IntKind.wrap .i64 ((r.2 : Int) + ((record v).length : Nat)) = (r.2 : Int) + ((record v).length : Nat) := wrap64' (by omega) (by omega)
    have fin : ¬ (0 < r.1.length ∧ v.num ≤ lastNum r.1) → (bif (bif (((r.1.length : Nat) : Int) == 64) then true else (decide (IntKind.wrap .i64 ((r.2 : Int) + ((record v).length : Nat)) > 1048576))) then K [] 7 else gb true (slB s.length none (some (r.2 : Int))) (0, 0) fun q6 => gb true (sumOk ((cut s q6).length + (record v).length)) () fun u7 => K (cut s q6 ++ record v) 0) =
        K (appR s (record v) v r).1 (appR s (record v) v r).2 := by
      intro hn1
      unfold appR
      rw [if_neg hn1, hwrap]
      by_cases hf : r.1.length = 64 ∨ 1048576 < r.2 + (record v).length
      · rw [if_pos hf, bif_pos (by simp; omega)]
      · have hs1 : (s.take r.2).length + (record v).length ≤ 9223372036854775807 := by rw [List.length_take]; omega
        rw [if_neg hf, bif_neg (by simp; omega), slB_hi (by omega), gb_some_eq, cut_hi, sumOk_ok hs1, gb_some_eq]
    by_cases h0 : r.1.length = 0
    · have hg : decide (((r.1.length : Nat) : Int) > 0) = false := by rw [decide_eq_false_iff_not]; omega
      rw [hg]
      simp -implicitDefEqProofs only [gb_false, cond_false]
      exact fin (by omega)
    · have hg : decide (((r.1.length : Nat) : Int) > 0) = true := by rw [decide_eq_true_eq]; omega
      have hgl : r.1[r.1.length - 1]? = some (r.1[r.1.length - 1]'(by omega)) := List.getElem?_eq_getElem (by omega)
      have hlast : lastNum r.1 = (r.1[r.1.length - 1]'(by omega)).num := by
        simp only [lastNum, List.getLast?_eq_getElem?, hgl]
        rfl
      rw [hg, wrap64' (x := ((r.1.length : Nat) : Int) - 1) (by omega) (by omega), show ((r.1.length : Nat) : Int) - 1 = ((r.1.length - 1 : Nat) : Int) by omega, rowAt_get hgl]
      simp -implicitDefEqProofs only [gb_some_eq, Ver.enc, List.getElem?_cons_zero, pInt_i64, cond_true]
      rw [← hlast]
      by_cases hle : v.num ≤ lastNum r.1
      · rw [bif_pos (by simpa using hle)]
        unfold appR
        rw [if_pos ⟨by omega, hle⟩]
      · rw [bif_neg (by simpa using hle)]
        exact fin (fun h => hle h.2)
  · have he : encode v = ([], vcheck v) := by simp [encode, h]
    rw [he, if_pos h, bif_pos (by simpa using h)]

theorem appendB (n : Nat) (hn : 70000 < n) (s : List UInt8) (hs : s.length ≤ 9223372036854775807) (v : Ver) (K : List UInt8 → Int → Option R) : ref41_Append n s v.num v.txt K = K (appendV s v).1 (appendV s v).2 := by
  simp -implicitDefEqProofs only [ref41_Append, ref41_Append_p1, encodeB n hn, gb_some_eq, scanB n hn s hs, encV_len]
  unfold appendV
  by_cases h : vcheck v = 0
  · obtain ⟨c1, c2, c3⟩ := vcheck_zero.1 h
    have he : encode v = (record v, 0) := by simp [encode, h]
    have hend := scanF_end 64 0 s
    rw [he, if_neg (by simp), bif_neg (by rfl)]
    rw [show scanF 64 0 s = scan s from rfl] at hend
    generalize hsc : scan s = r at hend
    have hrl := record_length v
    have hwrap : IntKind.wrap .i64 ((r.2 : Int) + ((record v).length : Nat)) = (r.2 : Int) + ((record v).length : Nat) := wrap64' (by omega) (by omega)
    have fin : ¬ (0 < r.1.length ∧ v.num ≤ lastNum r.1) → (bif (bif (decide (((r.1.length : Nat) : Int) ≥ 64)) then true else (decide (IntKind.wrap .i64 ((r.2 : Int) + ((record v).length : Nat)) > 1048576))) then K [] 7 else gb true (slB s.length none (some (r.2 : Int))) (0, 0) fun q6 => gb true (sumOk ((cut s q6).length + (record v).length)) () fun u7 => K (cut s q6 ++ record v) 0) =
        K (appR s (record v) v r).1 (appR s (record v) v r).2 := by
      intro hn1
      unfold appR
      rw [if_neg hn1, hwrap]
      by_cases hf : r.1.length = 64 ∨ 1048576 < r.2 + (record v).length
      · rw [if_pos hf, bif_pos (by simp; omega)]
      · have hs1 : (s.take r.2).length + (record v).length ≤ 9223372036854775807 := by rw [List.length_take]; omega
        rw [if_neg hf, bif_neg (by simp; omega), slB_hi (by omega), gb_some_eq, cut_hi, sumOk_ok hs1, gb_some_eq]
    by_cases h0 : r.1.length = 0
    · have hg : decide (((r.1.length : Nat) : Int) > 0) = false := by rw [decide_eq_false_iff_not]; omega
      rw [hg]
      simp -implicitDefEqProofs only [gb_false, cond_false]
      exact fin (by omega)
    · have hg : decide (((r.1.length : Nat) : Int) > 0) = true := by rw [decide_eq_true_eq]; omega
      have hgl : r.1[r.1.length - 1]? = some (r.1[r.1.length - 1]'(by omega)) := List.getElem?_eq_getElem (by omega)
      have hlast : lastNum r.1 = (r.1[r.1.length - 1]'(by omega)).num := by
        simp only [lastNum, List.getLast?_eq_getElem?, hgl]
        rfl
      rw [hg, wrap64' (x := ((r.1.length : Nat) : Int) - 1) (by omega) (by omega), show ((r.1.length : Nat) : Int) - 1 = ((r.1.length - 1 : Nat) : Int) by omega, rowAt_get hgl]
      simp -implicitDefEqProofs only [gb_some_eq, Ver.enc, List.getElem?_cons_zero, pInt_i64, cond_true]
      rw [← hlast]
      by_cases hle : v.num ≤ lastNum r.1
      · rw [bif_pos (by simpa using hle)]
        unfold appR
        rw [if_pos ⟨by omega, hle⟩]
      · rw [bif_neg (by simpa using hle)]
        exact fin (fun h => hle h.2)
  · have he : encode v = ([], vcheck v) := by simp [encode, h]
    rw [he, if_pos h, bif_pos (by simpa using h)]

end
end Go.Vx
/-
  Plain laws of the store: what the laws make; StoreEncode, StoreScan, StoreAppend.
-/
set_option linter.unusedSimpArgs false
set_option linter.unusedVariables false
namespace Go.Vx
section
variable {R : Type}

def rec1 : List UInt8 := [80, 76, 65, 78, 0, 0, 0, 1, 0, 0, 0, 0, 193, 180, 138, 240]
def rec3 : List UInt8 := [80, 76, 65, 78, 0, 0, 0, 3, 0, 0, 0, 1, 101, 115, 192, 95, 120]
theorem ex1 : encode ⟨1, []⟩ = (rec1, 0) := by decide +kernel
theorem ex2 : appendV [] ⟨1, []⟩ = (rec1, 0) := by decide +kernel
theorem ex3 : appendV rec1 ⟨3, [120]⟩ = (rec1 ++ rec3, 0) := by decide +kernel
theorem ex4 : scan (rec1 ++ rec3) = ([⟨1, []⟩, ⟨3, [120]⟩], 33) := by decide +kernel
theorem ex5 : appendV (rec1 ++ rec3) ⟨2, []⟩ = ([], 20) := by decide +kernel

theorem awake41 (n : Nat) (hn : 70000 < n) (K : Bool → Option R) : law41_awake n K = K true := by
  have e1 := fun K => encodeA (R := List UInt8 × Int) n hn ⟨1, []⟩ K
  have e2 := fun K => appendA (R := List UInt8 × Int) n hn [] (by simp) ⟨1, []⟩ K
  have e3 := fun K => appendA (R := List UInt8 × Int) n hn rec1 (by decide) ⟨3, [120]⟩ K
  have e4 := fun K => scanA (R := List (List D) × Int) n hn (rec1 ++ rec3) (by decide) K
  have e5 := fun K => appendA (R := List UInt8 × Int) n hn (rec1 ++ rec3) (by decide) ⟨2, []⟩ K
  simp only [ex1, ex2, ex3, ex4, ex5] at e1 e2 e3 e4 e5
  simp -implicitDefEqProofs only [law41_awake, law41_awake_p1, store_Latest, store_Latest_p1, e1, e2, e3, gb_some_eq, e4, e5]
  rfl

/-! what the laws make -/

theorem versions_r11 (n : Nat) {l : List Int} (hl : l.length ≤ 9223372036854775807) (w32 h21 : Int) (h22 : List (List D)) : ∀ (q m i : Nat) (txt : List UInt8), q < m → txt.length + q ≤ 8 → i ≤ l.length →
    ∃ (txt' : List UInt8) (j : Nat), txt'.length = txt.length + q ∧ j ≤ l.length ∧ ∀ (R : Type) (k0 : Int → Bool → List UInt8 → List (List D) → Int → Option R), law41_versions_r11 n w32 h21 h22 k0 m q txt (encI l) i = k0 0 false txt' (encI l) j
  | 0, m, i, txt, hm, ht, hi => by
    obtain ⟨m, rfl⟩ : ∃ m', m = m' + 1 := ⟨m - 1, by omega⟩
    refine ⟨txt, i, by omega, hi, fun R k0 => ?_⟩
    rw [law41_versions_r11]
    unfold law41_versions_p10
    rw [bif_neg (by simp)]
    simp
  | q + 1, m, i, txt, hm, ht, hi => by
    obtain ⟨m, rfl⟩ : ∃ m', m = m' + 1 := ⟨m - 1, by omega⟩
    obtain ⟨v, j, a1, b1, c1, e1⟩ := nextA n hl hi (m := 256) (by omega) (by omega)
    obtain ⟨txt', j', h1, h2, h3⟩ := versions_r11 n hl w32 h21 h22 q m j (txt ++ [u8 v]) (by omega) (by simp; omega) c1
    refine ⟨txt', j', by simp at h1; omega, h2, fun R k0 => ?_⟩
    rw [law41_versions_r11]
    unfold law41_versions_p10
    rw [bif_pos (by simp), e1, gb_some_eq, show bytesOf [[D.int .u8 (IntKind.wrap .u8 v)]] = some [u8 v] from rfl, gb_some_eq, sumOk_ok (by simp; omega), gb_some_eq, wrap64' (by omega) (by omega), show (((q + 1 : Nat) : Int) - 1) = (q : Int) by omega]
    exact h3 R k0

theorem versions_r22 (n : Nat) (hn : 16 < n) {l : List Int} (hl : l.length ≤ 9223372036854775807) : ∀ (q m i : Nat) (at_ : Int) (vs : List Ver), q < m → vs.length + q ≤ 5 → i ≤ l.length → 0 ≤ at_ → at_ + 3 * q ≤ 100 → (∀ v ∈ vs, 0 ≤ v.num ∧ v.num ≤ 100 ∧ v.txt.length ≤ 8) →
    ∃ (vs' : List Ver) (at' : Int) (j : Nat), vs'.length ≤ 5 ∧ (∀ v ∈ vs', 0 ≤ v.num ∧ v.num ≤ 100 ∧ v.txt.length ≤ 8) ∧ ∀ (R : Type) (k0 : Int → Int → Bool → List (List D) → List (List D) → Int → Option R), law41_versions_r22 n k0 m at_ q (vs.map Ver.enc) (encI l) i = k0 at' 0 false (vs'.map Ver.enc) (encI l) j
  | 0, m, i, at_, vs, hm, hv, hi, h0, h1, hb => by
    obtain ⟨m, rfl⟩ : ∃ m', m = m' + 1 := ⟨m - 1, by omega⟩
    refine ⟨vs, at_, i, by omega, hb, fun R k0 => ?_⟩
    rw [law41_versions_r22]
    unfold law41_versions_p21
    simp -implicitDefEqProofs only [law41_versions_p6]
    rw [bif_neg (by simp)]
    simp
  | q + 1, m, i, at_, vs, hm, hv, hi, h0, h1, hb => by
    obtain ⟨m, rfl⟩ : ∃ m', m = m' + 1 := ⟨m - 1, by omega⟩
    obtain ⟨x, j, a1, b1, c1, e1⟩ := nextA n hl hi (m := 4) (by omega) (by omega)
    obtain ⟨y, j2, a2, b2, c2, e2⟩ := nextA n hl c1 (m := 9) (by omega) (by omega)
    obtain ⟨z, hz⟩ : ∃ z : Nat, y = z := ⟨y.toNat, by omega⟩
    subst hz
    obtain ⟨txt, j3, t1, t2, t3⟩ := versions_r11 n hl (at_ + x) ((q + 1 : Nat) : Int) (vs.map Ver.enc) z n j2 [] (by omega) (by simp; omega) c2
    obtain ⟨vs', at', j4, g1, g2, g3⟩ := versions_r22 n hn hl q m j3 (at_ + x) (vs ++ [⟨at_ + x, txt⟩]) (by omega) (by simp; omega) t2 (by omega) (by omega) (fun v hv' => by
      rcases List.mem_append.1 hv' with h | h
      · exact hb v h
      · simp at h; subst h; simp at t1 ⊢; omega)
    refine ⟨vs', at', j4, g1, g2, fun R k0 => ?_⟩
    rw [law41_versions_r22]
    unfold law41_versions_p21
    simp -implicitDefEqProofs only [law41_versions_p6, law41_versions_p7, law41_versions_p8, law41_versions_p9, law41_versions_p11, law41_versions_p12, law41_versions_p13, law41_versions_p14, law41_versions_p15, law41_versions_p16, law41_versions_p17, law41_versions_p18, law41_versions_p19, law41_versions_p20]
    rw [bif_pos (by simp), e1, gb_some_eq, e2, gb_some_eq, wrap64' (x := at_ + x) (by omega) (by omega), t3, room_ok (by simp; omega), gb_some_eq, wrap64' (by omega) (by omega), show (((q + 1 : Nat) : Int) - 1) = (q : Int) by omega]
    have := g3 R k0
    rw [List.map_append] at this
    exact this

theorem versionsA (n : Nat) (hn : 16 < n) {l : List Int} (hl : l.length ≤ 9223372036854775807) : ∃ vs : List Ver, vs.length ≤ 5 ∧ (∀ v ∈ vs, 0 ≤ v.num ∧ v.num ≤ 100 ∧ v.txt.length ≤ 8) ∧ ∀ (R : Type) (K : List (List D) → Option R), law41_versions n (encI l) K = K (vs.map Ver.enc) := by
  obtain ⟨x, j, a1, b1, c1, e1⟩ := nextA n hl (i := 0) (by omega) (m := 3) (by omega) (by omega)
  obtain ⟨y, j2, a2, b2, c2, e2⟩ := nextA n hl c1 (m := 6) (by omega) (by omega)
  obtain ⟨z, hz⟩ : ∃ z : Nat, y = z := ⟨y.toNat, by omega⟩
  subst hz
  obtain ⟨vs', at', j4, g1, g2, g3⟩ := versions_r22 n hn hl z n j2 x [] (by omega) (by simp; omega) c2 (by omega) (by omega) (by simp)
  refine ⟨vs', g1, g2, fun R K => ?_⟩
  simp -implicitDefEqProofs only [law41_versions_p1, law41_versions_p2, law41_versions_p3, law41_versions_p4, law41_versions_p5, law41_versions_p22, law41_versions_p23, law41_versions_p24, law41_versions_p25, law41_versions_p26, law41_versions_p27, law41_versions_p28, law41_versions_p29, law41_versions_p30, law41_versions, keep_From, keep_From_p1, gb_some_eq]
  rw [show (0 : Int) = ((0 : Nat) : Int) from rfl, e1, gb_some_eq, e2, gb_some_eq]
  exact g3 R _

def fileF : List UInt8 → List Ver → List UInt8
  | f, [] => f
  | f, v :: r => fileF (if (appendV f v).2 = 0 then (appendV f v).1 else f) r

theorem appendV_len {f : List UInt8} {v : Ver} (h : (appendV f v).2 = 0) : (appendV f v).1.length ≤ 1048576 := by
  unfold appendV at h ⊢
  split at h
  · rename_i he
    exact absurd h he
  · rename_i he
    rw [if_neg he]
    unfold appR at h ⊢
    split at h
    · cases h
    · rename_i h1
      rw [if_neg h1]
      split at h
      · cases h
      · rename_i h2
        rw [if_neg h2]
        have := (scanF_end 64 0 f).1
        rw [show scanF 64 0 f = scan f from rfl] at this
        simp
        omega

theorem fileF_len : ∀ (vs : List Ver) (f : List UInt8), f.length ≤ 1048576 → (fileF f vs).length ≤ 1048576
  | [], f, h => h
  | v :: r, f, h => by
    rw [fileF]
    refine fileF_len r _ ?_
    split
    · exact appendV_len (by assumption)
    · exact h

theorem file_r5 (n : Nat) (hn : 70000 < n) (vs : List Ver) (hv : vs.length ≤ 1000) (k0 : List UInt8 → Int → Bool → Option R) : ∀ (suf : List Ver) (i m : Nat) (f : List UInt8), vs.drop i = suf → i ≤ vs.length → suf.length < m → f.length ≤ 1048576 →
    law41_file_r5 n (vs.map Ver.enc) vs.length k0 m f i = k0 (fileF f suf) vs.length false
  | [], i, m, f, hd, hi, hm, hf => by
    have := drop_nil hd
    have hie : i = vs.length := by omega
    obtain ⟨m, rfl⟩ : ∃ m', m = m' + 1 := ⟨m - 1, by omega⟩
    rw [law41_file_r5]
    unfold law41_file_p4
    rw [bif_neg (by simp; omega), hie]
    simp [fileF]
  | v :: suf, i, m, f, hd, hi, hm, hf => by
    obtain ⟨h1, h2, h3⟩ := drop_cons hd
    obtain ⟨m, rfl⟩ : ∃ m', m = m' + 1 := ⟨m - 1, by omega⟩
    rw [law41_file_r5]
    unfold law41_file_p4
    rw [bif_pos (by simpa using h3), rowAt_get h1]
    simp -implicitDefEqProofs only [Ver.enc, gb_some_eq, List.getElem?_cons_zero, List.getElem?_cons_succ, pInt_i64, pStr_s]
    rw [appendB n hn f (by omega), gb_some_eq, wrap64' (by omega) (by omega), show ((i : Int) + 1) = ((i + 1 : Nat) : Int) from rfl, fileF]
    by_cases h0 : (appendV f v).2 = 0
    · rw [bif_pos (by simpa using h0), if_pos h0]
      exact file_r5 n hn vs hv k0 suf (i + 1) m _ h2 (by omega) (by simp at hm; omega) (appendV_len h0)
    · rw [bif_neg (by simpa using h0), if_neg h0]
      exact file_r5 n hn vs hv k0 suf (i + 1) m _ h2 (by omega) (by simp at hm; omega) hf

theorem fileA (n : Nat) (hn : 70000 < n) (vs : List Ver) (hv : vs.length ≤ 1000) (K : List UInt8 → Option R) : law41_file n (vs.map Ver.enc) K = K (fileF [] vs) := by
  simp -implicitDefEqProofs only [law41_file_p1, law41_file_p2, law41_file_p3, law41_file_p5, law41_file_p6, law41_file_p7, law41_file_p8, law41_file_p9, law41_file_p10, law41_file_p11, law41_file, List.length_map]
  exact file_r5 n hn vs hv _ vs 0 n [] rfl (by omega) (by omega) (by simp)

theorem damagedA (n : Nat) (f : List UInt8) (hf : f.length ≤ 1099511627776) (how at_ v : Int) : ∃ g : List UInt8, g.length ≤ f.length + 1 ∧ ∀ (R : Type) (K : List UInt8 → Option R), law41_damaged n f how at_ v K = K g := by
  by_cases h0 : f.length = 0
  · refine ⟨[u8 v], by simp, fun R K => ?_⟩
    simp -implicitDefEqProofs only [law41_damaged, law41_damaged_p1]
    rw [bif_pos (by rw [h0]; rfl)]
    rfl
  · have hb : (((f.length : Nat) : Int) == 0) = false := by rw [beq_eq_false_iff_ne]; omega
    have hp := pick_range at_ (m := ((f.length : Nat) : Int)) (by omega)
    obtain ⟨q, hq⟩ : ∃ q : Nat, pick at_ ((f.length : Nat) : Int) = q := ⟨(pick at_ ((f.length : Nat) : Int)).toNat, by omega⟩
    have hqf : q < f.length := by omega
    have hbs : bytesOf [[D.int .u8 (IntKind.wrap .u8 v)]] = some [u8 v] := rfl
    by_cases h1 : pick how 3 = 0
    · refine ⟨(f.take q ++ [u8 v]) ++ f.drop (q + 1), by simp; omega, fun R K => ?_⟩
      simp -implicitDefEqProofs only [law41_damaged, law41_damaged_p1, hb, cond_false, pickA n at_ (show (0 : Int) < ((f.length : Nat) : Int) by omega) (by omega), pickA n how (show (0 : Int) < 3 by omega) (by omega), gb_some_eq, hq, hbs]
      rw [bif_pos (by rw [h1]; rfl), slB_hi (by omega), gb_some_eq, cut_hi, sumOk_ok (by simp; omega), gb_some_eq, wrap64' (by omega) (by omega), show ((q : Int) + 1) = ((q + 1 : Nat) : Int) from rfl, slB_lo (by omega), gb_some_eq, cut_lo, sumOk_ok (by simp; omega), gb_some_eq]
    · have hh1 : (pick how 3 == 0) = false := by rw [beq_eq_false_iff_ne]; exact h1
      by_cases h2 : pick how 3 = 1
      · refine ⟨f.take q, by simp; omega, fun R K => ?_⟩
        simp -implicitDefEqProofs only [law41_damaged, law41_damaged_p1, hb, cond_false, pickA n at_ (show (0 : Int) < ((f.length : Nat) : Int) by omega) (by omega), pickA n how (show (0 : Int) < 3 by omega) (by omega), gb_some_eq, hq, hbs, hh1]
        rw [bif_pos (by rw [h2]; rfl), slB_hi (by omega), gb_some_eq, cut_hi]
      · have hh2 : (pick how 3 == 1) = false := by rw [beq_eq_false_iff_ne]; exact h2
        refine ⟨(f.take q ++ [u8 v]) ++ f.drop q, by simp; omega, fun R K => ?_⟩
        simp -implicitDefEqProofs only [law41_damaged, law41_damaged_p1, hb, cond_false, pickA n at_ (show (0 : Int) < ((f.length : Nat) : Int) by omega) (by omega), pickA n how (show (0 : Int) < 3 by omega) (by omega), gb_some_eq, hq, hbs, hh1, hh2]
        rw [slB_hi (by omega), gb_some_eq, cut_hi, sumOk_ok (by simp; omega), gb_some_eq, slB_lo (by omega), gb_some_eq, cut_lo, sumOk_ok (by simp; omega), gb_some_eq]

theorem sameV_r5 (n : Nat) (l : List Ver) (hl : l.length ≤ 1000000) (k0 : Option R) (k1 : Int → Bool → Option R) : ∀ (suf : List Ver) (i m : Nat), l.drop i = suf → i ≤ l.length → suf.length < m →
    keep_Same_railplan_api_Version_r5 n (l.map Ver.enc) (l.map Ver.enc) l.length k0 k1 m i = k1 l.length false
  | [], i, m, hd, hi, hm => by
    have := drop_nil hd
    have hie : i = l.length := by omega
    obtain ⟨m, rfl⟩ : ∃ m', m = m' + 1 := ⟨m - 1, by omega⟩
    rw [keep_Same_railplan_api_Version_r5]
    unfold keep_Same_railplan_api_Version_p4
    rw [bif_neg (by simp; omega), hie]
    simp
  | x :: suf, i, m, hd, hi, hm => by
    obtain ⟨h1, h2, h3⟩ := drop_cons hd
    obtain ⟨m, rfl⟩ : ∃ m', m = m' + 1 := ⟨m - 1, by omega⟩
    rw [keep_Same_railplan_api_Version_r5]
    unfold keep_Same_railplan_api_Version_p4
    rw [bif_pos (by simpa using h3), rowAt_get h1]
    simp -implicitDefEqProofs only [Ver.enc, gb_some_eq, List.getElem?_cons_zero, List.getElem?_cons_succ, pInt_i64, pStr_s]
    rw [bif_neg (by simp), wrap64' (by omega) (by omega), show ((i : Int) + 1) = ((i + 1 : Nat) : Int) from rfl]
    exact sameV_r5 n l hl k0 k1 suf (i + 1) m h2 (by omega) (by simp at hm; omega)

theorem sameV (n : Nat) (l : List Ver) (hl : l.length ≤ 1000000) (hn : l.length < n) (K : Bool → Option R) : keep_Same_railplan_api_Version n (l.map Ver.enc) (l.map Ver.enc) K = K true := by
  simp -implicitDefEqProofs only [keep_Same_railplan_api_Version_p1, keep_Same_railplan_api_Version_p2, keep_Same_railplan_api_Version_p3, keep_Same_railplan_api_Version_p5, keep_Same_railplan_api_Version_p6, keep_Same_railplan_api_Version_p7, keep_Same_railplan_api_Version_p8, keep_Same_railplan_api_Version_p9, keep_Same_railplan_api_Version_p10, keep_Same_railplan_api_Version_p11, keep_Same_railplan_api_Version, List.length_map]
  rw [bif_neg (by simp)]
  exact sameV_r5 n l hl _ _ l 0 n rfl (by omega) (by omega)

/-! the laws -/

theorem storeEncodeA (n : Nat) (hn : 70000 < n) (num k : Int) (txt : List UInt8) : law41_StoreEncode n num txt k some = some true := by
  simp -implicitDefEqProofs only [law41_StoreEncode, law41_StoreEncode_p1]
  have e1 := encodeA n hn ⟨num, txt⟩ (fun r0 r1 => some (r0, r1))
  have e2 := encodeB n hn ⟨num, txt⟩ (fun r0 r1 => some (r0, r1))
  simp only at e1 e2
  rw [e1, gb_some_eq, e2, gb_some_eq, pickA n k (by omega) (by omega), gb_some_eq]
  have e3 := encodeA n hn ⟨IntKind.wrap .i64 (pick k 2147483653 - 2), txt⟩ (fun r0 r1 => some (r0, r1))
  have e4 := encodeB n hn ⟨IntKind.wrap .i64 (pick k 2147483653 - 2), txt⟩ (fun r0 r1 => some (r0, r1))
  simp only at e3 e4
  rw [e3, gb_some_eq, e4, gb_some_eq, awake41 n hn, gb_some_eq]
  simp

theorem storeScanA (n : Nat) (hn : 70000 < n) (raw : List UInt8) (hr : raw.length ≤ 9223372036854775807) {l : List Int} (hl : l.length ≤ 9223372036854775807) (how at_ v : Int) : law41_StoreScan n raw (encI l) how at_ v some = some true := by
  obtain ⟨vs, h1, h2, h3⟩ := versionsA n (by omega) hl
  have hfl := fileF_len vs [] (by simp)
  obtain ⟨g, g1, g2⟩ := damagedA n (fileF [] vs) (by omega) how at_ v
  have b1 := (scanF_end 64 0 (fileF [] vs)).2.2
  have b2 := (scanF_end 64 0 g).2.2
  have b3 := (scanF_end 64 0 raw).2.2
  rw [show ∀ s, scanF 64 0 s = scan s from fun _ => rfl] at b1 b2 b3
  simp -implicitDefEqProofs only [law41_StoreScan, law41_StoreScan_p1, h3, gb_some_eq, fileA n hn vs (by omega), g2, scanA n hn (fileF [] vs) (by omega), scanB n hn (fileF [] vs) (by omega), scanA n hn g (by omega), scanB n hn g (by omega), scanA n hn raw hr, scanB n hn raw hr, awake41 n hn, sameV n (scan (fileF [] vs)).1 (by omega) (by omega), sameV n (scan g).1 (by omega) (by omega), sameV n (scan raw).1 (by omega) (by omega), cond_true, beq_self_eq_true]

theorem storeAppendA (n : Nat) (hn : 70000 < n) {l : List Int} (hl : l.length ≤ 9223372036854775807) (num : Int) (txt : List UInt8) (how at_ x : Int) : law41_StoreAppend n (encI l) num txt how at_ x some = some true := by
  obtain ⟨vs, h1, h2, h3⟩ := versionsA n (by omega) hl
  have hfl := fileF_len vs [] (by simp)
  obtain ⟨g, g1, g2⟩ := damagedA n (fileF [] vs) (by omega) how at_ x
  have e1 := appendA n hn g (by omega) ⟨num, txt⟩ (fun r0 r1 => some (r0, r1))
  have e2 := appendB n hn g (by omega) ⟨num, txt⟩ (fun r0 r1 => some (r0, r1))
  have e3 := appendA n hn g (by omega) ⟨pick num 12, txt⟩ (fun r0 r1 => some (r0, r1))
  have e4 := appendB n hn g (by omega) ⟨pick num 12, txt⟩ (fun r0 r1 => some (r0, r1))
  simp only at e1 e2 e3 e4
  simp -implicitDefEqProofs only [law41_StoreAppend, law41_StoreAppend_p1, h3, gb_some_eq, fileA n hn vs (by omega), g2, pickA n num (show (0 : Int) < 12 by omega) (by omega), e1, e2, e3, e4, awake41 n hn, cond_true, beq_self_eq_true]
end
end Go.Vx
/-
  Files of records: what is read of them; StoreCrash, StoreAgain.
-/
set_option linter.unusedSimpArgs false
set_option linter.unusedVariables false
namespace Go.Vx
section
variable {R : Type}

def recs : List Ver → List UInt8
  | [] => []
  | v :: r => record v ++ recs r
theorem recs_append : ∀ (a b : List Ver), recs (a ++ b) = recs a ++ recs b
  | [], b => rfl
  | v :: a, b => by simp [recs, recs_append a b]

def ascV : Int → List Ver → Prop
  | _, [] => True
  | last, v :: r => last < v.num ∧ ascV v.num r
def lastOf : Int → List Ver → Int
  | last, [] => last
  | _, v :: r => lastOf v.num r
theorem lastOf_snoc : ∀ (vs : List Ver) (last : Int) (v : Ver), lastOf last (vs ++ [v]) = v.num
  | [], _, _ => rfl
  | w :: vs, last, v => by simp [lastOf, lastOf_snoc vs]
theorem lastNum_eq (vs : List Ver) : lastNum vs = lastOf 0 vs := by
  rcases List.eq_nil_or_concat vs with rfl | ⟨a, v, rfl⟩
  · rfl
  · rw [List.concat_eq_append, lastNum_snoc, lastOf_snoc]
theorem ascV_snoc : ∀ (vs : List Ver) (last : Int) (v : Ver), ascV last vs → lastOf last vs < v.num → ascV last (vs ++ [v])
  | [], last, v, _, h => ⟨h, trivial⟩
  | w :: vs, last, v, h, h2 => ⟨h.1, ascV_snoc vs w.num v h.2 h2⟩
theorem lastOf_le {b : Int} : ∀ (vs : List Ver) (last : Int), last ≤ b → (∀ v ∈ vs, v.num ≤ b) → lastOf last vs ≤ b
  | [], last, h, _ => h
  | v :: r, last, h, hv => lastOf_le r v.num (hv v (List.mem_cons_self ..)) (fun w hw => hv w (List.mem_cons_of_mem _ hw))
theorem lastOf_ge : ∀ (vs : List Ver) (last : Int), ascV last vs → last ≤ lastOf last vs
  | [], last, _ => Int.le_refl _
  | v :: r, last, h => by have := lastOf_ge r v.num h.2; have := h.1; simp only [lastOf]; omega

theorem record_cons (v : Ver) : ∃ c0 c1 c2 c3, record v = 80 :: 76 :: 65 :: 78 :: u8 (v.num.fdiv 16777216) :: u8 (v.num.fdiv 65536) :: u8 (v.num.fdiv 256) :: u8 v.num :: u8 ((v.txt.length : Int).fdiv 16777216) :: u8 ((v.txt.length : Int).fdiv 65536) :: u8 ((v.txt.length : Int).fdiv 256) :: u8 (v.txt.length : Int) :: c0 :: c1 :: c2 :: c3 :: v.txt :=
  ⟨_, _, _, _, rfl⟩

theorem dec_record {v : Ver} (h : vcheck v = 0) (rest : List UInt8) : dec (record v ++ rest) = some (v, 16 + v.txt.length) := by
  obtain ⟨h1, h2, h3⟩ := vcheck_zero.1 h
  have hl := record_length v
  obtain ⟨c0, c1, c2, c3, hr⟩ := record_cons v
  have n4 : vnum (record v ++ rest) 4 = v.num := by rw [hr]; exact val4_be4 (by omega) (by omega)
  have n8 : vnum (record v ++ rest) 8 = v.txt.length := by rw [hr]; exact val4_be4 (by omega) (by omega)
  have ht : ((record v ++ rest).drop 16).take v.txt.length = v.txt := by
    rw [hr]
    show (v.txt ++ rest).take v.txt.length = v.txt
    simp
  have hx : (record v ++ rest).take (16 + v.txt.length) = record v := by rw [← hl]; simp
  have hv : (⟨v.num, v.txt⟩ : Ver) = v := rfl
  unfold dec
  rw [if_neg (by simp; omega), n4, n8, if_neg (by simp; omega), Int.toNat_natCast, ht, hv, hx, if_pos (by simp [encode, h])]

theorem dec_cut {v : Ver} (h : vcheck v = 0) {k : Nat} (hk : k < 16 + v.txt.length) : dec ((record v).take k) = none := by
  obtain ⟨h1, h2, h3⟩ := vcheck_zero.1 h
  have hl := record_length v
  unfold dec
  by_cases h16 : k < 16
  · rw [if_pos (by simp; omega)]
  · rw [if_neg (by simp; omega)]
    obtain ⟨c0, c1, c2, c3, hr⟩ := record_cons v
    obtain ⟨j, rfl⟩ : ∃ j, k = j + 16 := ⟨k - 16, by omega⟩
    have n8 : vnum ((record v).take (j + 16)) 8 = v.txt.length := by rw [hr]; exact val4_be4 (by omega) (by omega)
    rw [n8, if_pos (by simp; omega)]

theorem dec_nil : dec [] = none := rfl

theorem scanF_recs : ∀ (vs : List Ver) (k : Nat) (last : Int) (rest : List UInt8), (∀ v ∈ vs, vcheck v = 0) → ascV last vs → vs.length ≤ k →
    scanF k last (recs vs ++ rest) = (vs ++ (scanF (k - vs.length) (lastOf last vs) rest).1, (recs vs).length + (scanF (k - vs.length) (lastOf last vs) rest).2)
  | [], k, last, rest, _, _, _ => by simp [recs, lastOf]
  | v :: vs, k, last, rest, hv, ha, hk => by
    obtain ⟨k, rfl⟩ : ∃ k', k = k' + 1 := ⟨k - 1, by simp at hk; omega⟩
    have hg := hv v (List.mem_cons_self ..)
    have hd := dec_record hg (recs vs ++ rest)
    have hdr : (record v ++ (recs vs ++ rest)).drop (16 + v.txt.length) = recs vs ++ rest := by rw [← record_length v]; simp
    rw [recs, List.append_assoc, scanF, hd]
    simp only
    rw [if_neg (by have := ha.1; omega), hdr, scanF_recs vs k v.num rest (fun w hw => hv w (List.mem_cons_of_mem _ hw)) ha.2 (by simpa using hk)]
    simp only [List.length_cons, Nat.add_sub_add_right, lastOf, List.cons_append, List.length_append, record_length, Prod.mk.injEq, true_and]
    omega

theorem scanF_none {k : Nat} {last : Int} {s : List UInt8} (h : dec s = none) : scanF k last s = ([], 0) := by
  cases k with
  | zero => rfl
  | succ k => simp [scanF, h]

/-- A file of records, and what a crash leaves behind it. -/
theorem scan_recs {vs : List Ver} (hv : ∀ v ∈ vs, vcheck v = 0) (ha : ascV 0 vs) (hl : vs.length ≤ 64) {rest : List UInt8} (h : dec rest = none) : scan (recs vs ++ rest) = (vs, (recs vs).length) := by
  unfold scan
  rw [scanF_recs vs 64 0 rest hv ha hl, scanF_none h]
  simp

structure Kept (ks : List Ver) : Prop where
  good : ∀ v ∈ ks, vcheck v = 0
  asc : ascV 0 ks
  len : ks.length ≤ 64

theorem Kept.scan {ks : List Ver} (h : Kept ks) : scan (recs ks) = (ks, (recs ks).length) := by
  have := scan_recs h.good h.asc h.len (rest := []) dec_nil
  simpa using this

theorem append_recs {ks : List Ver} (hk : Kept ks) {rest : List UInt8} (hr : dec rest = none) {v : Ver} (hv : vcheck v = 0) (hn : lastOf 0 ks < v.num) (hl : ks.length < 64) (hs : (recs ks).length + (record v).length ≤ 1048576) :
    appendV (recs ks ++ rest) v = (recs (ks ++ [v]), 0) := by
  have he : encode v = (record v, 0) := by simp [encode, hv]
  unfold appendV
  rw [he, if_neg (by simp), scan_recs hk.good hk.asc hk.len hr]
  unfold appR
  rw [if_neg (by simp only [lastNum_eq]; omega), if_neg (by simp only; omega)]
  simp [recs_append, recs]

theorem Kept.snoc {ks : List Ver} (hk : Kept ks) {v : Ver} (hv : vcheck v = 0) (hn : lastOf 0 ks < v.num) (hl : ks.length < 64) : Kept (ks ++ [v]) :=
  ⟨fun w hw => by
    rcases List.mem_append.1 hw with h | h
    · exact hk.good w h
    · simp at h; subst h; exact hv, ascV_snoc ks 0 v hk.asc hn, by simp; omega⟩

theorem append_ok {ks : List Ver} (hk : Kept ks) {v : Ver} (h : (appendV (recs ks) v).2 = 0) : vcheck v = 0 ∧ lastOf 0 ks < v.num ∧ ks.length < 64 ∧ (appendV (recs ks) v).1 = recs (ks ++ [v]) := by
  unfold appendV at h ⊢
  split at h
  · rename_i he; exact absurd h he
  · rename_i he
    rw [if_neg he]
    have hv : vcheck v = 0 := by
      unfold encode at he
      split at he
      · assumption
      · simp at he; rename_i hc; exact absurd he hc
    have hen : encode v = (record v, 0) := by simp [encode, hv]
    rw [hk.scan, hen] at h ⊢
    unfold appR at h ⊢
    split at h
    · cases h
    · rename_i h1
      rw [if_neg h1]
      split at h
      · cases h
      · rename_i h2
        rw [if_neg h2]
        simp only [lastNum_eq] at h1 h2
        have hkl := hk.len
        have hg := vcheck_zero.1 hv
        refine ⟨hv, ?_, by omega, by simp [recs_append, recs]⟩
        by_cases h0 : ks.length = 0
        · have : ks = [] := List.eq_nil_of_length_eq_zero h0
          subst this
          simp only [lastOf]
          omega
        · omega

theorem file_kept : ∀ (vs ks : List Ver), Kept ks → ∃ ks' : List Ver, Kept ks' ∧ fileF (recs ks) vs = recs ks' ∧ ks'.length ≤ ks.length + vs.length ∧ ∀ v ∈ ks', v ∈ ks ∨ v ∈ vs
  | [], ks, hk => ⟨ks, hk, rfl, by simp, fun v hv => .inl hv⟩
  | v :: vs, ks, hk => by
    rw [fileF]
    by_cases h : (appendV (recs ks) v).2 = 0
    · obtain ⟨h1, h2, h3, h4⟩ := append_ok hk h
      obtain ⟨ks', g1, g2, g3, g4⟩ := file_kept vs (ks ++ [v]) (hk.snoc h1 h2 h3)
      refine ⟨ks', g1, by rw [if_pos h, h4]; exact g2, by simp at g3 ⊢; omega, fun w hw => ?_⟩
      rcases g4 w hw with h | h
      · rcases List.mem_append.1 h with h | h
        · exact .inl h
        · simp at h; subst h; simp
      · simp [h]
    · obtain ⟨ks', g1, g2, g3, g4⟩ := file_kept vs ks hk
      refine ⟨ks', g1, by rw [if_neg h]; exact g2, by simp; omega, fun w hw => ?_⟩
      rcases g4 w hw with h | h
      · exact .inl h
      · simp [h]

theorem recs_len {b : Nat} : ∀ (ks : List Ver), (∀ v ∈ ks, v.txt.length ≤ b) → (recs ks).length ≤ ks.length * (16 + b)
  | [], _ => by simp [recs]
  | v :: r, h => by
    have ih := recs_len r (fun w hw => h w (List.mem_cons_of_mem _ hw))
    have := h v (List.mem_cons_self ..)
    simp only [recs, List.length_append, record_length, List.length_cons, Nat.succ_mul]
    omega

/-- The file that a law makes. -/
theorem made_file (n : Nat) (hn : 70000 < n) {l : List Int} (hl : l.length ≤ 9223372036854775807) : ∃ (vs ks : List Ver), vs.length ≤ 5 ∧ (∀ v ∈ vs, 0 ≤ v.num ∧ v.num ≤ 100 ∧ v.txt.length ≤ 8) ∧ (∀ (R : Type) (K : List (List D) → Option R), law41_versions n (encI l) K = K (vs.map Ver.enc)) ∧ (∀ (R : Type) (K : List UInt8 → Option R), law41_file n (vs.map Ver.enc) K = K (recs ks)) ∧ Kept ks ∧ ks.length ≤ 5 ∧ (∀ v ∈ ks, v.num ≤ 100) ∧ (recs ks).length ≤ 120 := by
  obtain ⟨vs, h1, h2, h3⟩ := versionsA n (by omega) hl
  obtain ⟨ks, g1, g2, g3, g4⟩ := file_kept vs [] ⟨by simp, trivial, by simp⟩
  have hm : ∀ v ∈ ks, v ∈ vs := fun v hv => by
    rcases g4 v hv with h | h
    · simp at h
    · exact h
  have hr := recs_len (b := 8) ks (fun v hv => (h2 v (hm v hv)).2.2)
  simp at g3
  refine ⟨vs, ks, h1, h2, h3, fun R K => ?_, g1, by omega, fun v hv => (h2 v (hm v hv)).2.1, by omega⟩
  rw [fileA n hn vs (by omega), show ([] : List UInt8) = recs [] from rfl, g2]

theorem storeCrashA (n : Nat) (hn : 70000 < n) {l : List Int} (hl : l.length ≤ 9223372036854775807) (num cutx : Int) (txt : List UInt8) (ht : txt.length ≤ 9223372036854775807) : law41_StoreCrash n (encI l) num txt cutx some = some true := by
  obtain ⟨vs, ks, h1, h2, h3, h4, hk, hkl, hkn, hrl⟩ := made_file n hn hl
  have hpn := pick_range num (m := 5) (by omega)
  have hlo := lastOf_le (b := 100) ks 0 (by omega) hkn
  have hge := lastOf_ge ks 0 hk.asc
  generalize hw : lastOf 0 ks + 1 + pick num 5 = wn
  -- behind the last number
  have fin : ∀ last : Int, last = lastOf 0 ks →
      (gb true (keep_Pick n num (5 : Int) some) 0 fun r7 =>
        gb true (store_Append n (recs ks) (IntKind.wrap .i64 ((IntKind.wrap .i64 (last + (1 : Int))) + r7)) txt (fun r0 r1 => some (r0, r1))) ([], 0) fun r8 =>
        bif (decide (((List.length txt : Nat) : Int) > (65536 : Int))) then
          gb true (law41_awake n some) false fun r9 =>
          some (bif r9 then (r8.2 == (7 : Int)) else false)
        else
          bif (bif (r8.2 != (0 : Int)) then true else (((List.length r8.1 : Nat) : Int) != (IntKind.wrap .i64 ((IntKind.wrap .i64 (((recs ks).length : Int) + (16 : Int))) + ((List.length txt : Nat) : Int))))) then
            some false
          else
            gb true (keep_Pick n cutx (IntKind.wrap .i64 (((List.length r8.1 : Nat) : Int) - ((recs ks).length : Int))) some) 0 fun r10 =>
            gb true (slB (List.length r8.1) none (some (IntKind.wrap .i64 (((recs ks).length : Int) + r10)))) (0, 0) fun q11 =>
            gb true (store_Scan n (cut r8.1 q11) (fun r0 r1 => some (r0, r1))) ([], 0) fun r12 =>
            gb true (store_Scan n r8.1 (fun r0 r1 => some (r0, r1))) ([], 0) fun r13 =>
            gb true (law41_awake n some) false fun r14 =>
            gb r14 (keep_Same_railplan_api_Version n r12.1 (ks.map Ver.enc) some) false fun r15 =>
            gb (bif (bif r14 then r15 else false) then (r12.2 == ((recs ks).length : Int)) else false) (room (ks.length * 24)) () fun u16 =>
            gb (bif (bif r14 then r15 else false) then (r12.2 == ((recs ks).length : Int)) else false) (room ((List.length (bif (bif (bif r14 then r15 else false) then (r12.2 == ((recs ks).length : Int)) else false) then ks.map Ver.enc else []) + List.length [[D.int .i64 (IntKind.wrap .i64 ((IntKind.wrap .i64 (last + (1 : Int))) + r7)), D.str txt]]) * 24)) () fun u17 =>
            gb (bif (bif r14 then r15 else false) then (r12.2 == ((recs ks).length : Int)) else false) (keep_Same_railplan_api_Version n r13.1 (bif (bif (bif r14 then r15 else false) then (r12.2 == ((recs ks).length : Int)) else false) then ((bif (bif (bif r14 then r15 else false) then (r12.2 == ((recs ks).length : Int)) else false) then ks.map Ver.enc else []) ++ [[D.int .i64 (IntKind.wrap .i64 ((IntKind.wrap .i64 (last + (1 : Int))) + r7)), D.str txt]]) else []) some) false fun r18 =>
            some (bif (bif (bif (bif r14 then r15 else false) then (r12.2 == ((recs ks).length : Int)) else false) then r18 else false) then (r13.2 == ((List.length r8.1 : Nat) : Int)) else false)) = some true := by
    rintro last rfl
    rw [pickA n num (by omega) (by omega), gb_some_eq, wrap64' (x := lastOf 0 ks + 1) (by omega) (by omega), hw, wrap64' (x := wn) (by omega) (by omega)]
    have ea := appendA n hn (recs ks) (by omega) ⟨wn, txt⟩ (fun r0 r1 => some (r0, r1))
    simp only at ea
    rw [ea, gb_some_eq]
    by_cases hlong : 65536 < txt.length
    · have hck : vcheck ⟨wn, txt⟩ = 7 := by unfold vcheck; rw [if_neg (by simp only; omega), if_pos hlong]
      have hap : appendV (recs ks) ⟨wn, txt⟩ = ([], 7) := by
        have he : encode ⟨wn, txt⟩ = ([], 7) := by simp [encode, hck]
        unfold appendV
        rw [he, if_pos (by simp)]
      rw [bif_pos (by simp; omega), hap, awake41 n hn, gb_some_eq]
      rfl
    · have hgood : vcheck ⟨wn, txt⟩ = 0 := vcheck_zero.2 ⟨by simp only; omega, by simp only; omega, by simp only; omega⟩
      have hrec := record_length ⟨wn, txt⟩
      simp only at hrec
      have hap := append_recs hk (rest := []) dec_nil hgood (by simp only; omega) (by omega) (by omega)
      rw [List.append_nil] at hap
      have hsn := hk.snoc hgood (by simp only; omega) (by omega)
      have hg : recs (ks ++ [⟨wn, txt⟩]) = recs ks ++ record ⟨wn, txt⟩ := by rw [recs_append]; simp [recs]
      rw [bif_neg (by simp; omega), hap]
      simp only
      have hlen : (recs (ks ++ [⟨wn, txt⟩])).length = (recs ks).length + (16 + txt.length) := by rw [hg, List.length_append, hrec]
      rw [hlen, wrap64' (x := ((recs ks).length : Int) + 16) (by omega) (by omega), wrap64' (x := ((recs ks).length : Int) + 16 + ((txt.length : Nat) : Int)) (by omega) (by omega), wrap64' (x := (((recs ks).length + (16 + txt.length) : Nat) : Int) - ((recs ks).length : Int)) (by omega) (by omega)]
      have hm : (((recs ks).length + (16 + txt.length) : Nat) : Int) - ((recs ks).length : Int) = ((16 + txt.length : Nat) : Int) := by omega
      have hne : ((((recs ks).length + (16 + txt.length) : Nat) : Int) != ((recs ks).length : Int) + 16 + ((txt.length : Nat) : Int)) = false := by
        rw [bne_eq_false_iff_eq]; omega
      have hpc := pick_range cutx (m := ((16 + txt.length : Nat) : Int)) (by omega)
      rw [hm, hne, pickA n cutx (by omega) (by omega), gb_some_eq]
      obtain ⟨q, hq⟩ : ∃ q : Nat, pick cutx ((16 + txt.length : Nat) : Int) = q := ⟨(pick cutx ((16 + txt.length : Nat) : Int)).toNat, by omega⟩
      rw [hq, wrap64' (by omega) (by omega), show (((recs ks).length : Int) + (q : Int)) = (((recs ks).length + q : Nat) : Int) by omega, slB_hi (by omega), gb_some_eq, cut_hi]
      have hcut : (recs (ks ++ [⟨wn, txt⟩])).take ((recs ks).length + q) = recs ks ++ (record ⟨wn, txt⟩).take q := by
        rw [hg, List.take_append]
        simp [List.take_of_length_le]
      have hs1 : scan (recs ks ++ (record ⟨wn, txt⟩).take q) = (ks, (recs ks).length) := scan_recs hk.good hk.asc hk.len (dec_cut hgood (by simp only; omega))
      have hb : (bif ((0 : Int) != 0) then true else false) = false := rfl
      rw [hb, hcut, scanA n hn _ (by simp [hrec]; omega), hs1, gb_some_eq, scanA n hn _ (by omega), hsn.scan, gb_some_eq, awake41 n hn, gb_some_eq]
      have hss := sameV n ks (by omega) (by omega) (K := (some : Bool → Option Bool))
      have hss2 := sameV n (ks ++ [⟨wn, txt⟩]) (by simp; omega) (by simp; omega) (K := (some : Bool → Option Bool))
      rw [List.map_append] at hss2
      simp only [cond_false]
      rw [hss]
      simp -implicitDefEqProofs only [gb_some_eq, cond_true, beq_self_eq_true, encV_len]
      rw [room_ok (by omega), room_ok (by simp; omega)]
      simp -implicitDefEqProofs only [gb_some_eq]
      rw [show List.map Ver.enc (ks ++ [⟨wn, txt⟩]) = ks.map Ver.enc ++ [[D.int .i64 wn, D.str txt]] by simp [Ver.enc]]
      have hss3 : keep_Same_railplan_api_Version n (ks.map Ver.enc ++ [[D.int .i64 wn, D.str txt]]) (ks.map Ver.enc ++ [[D.int .i64 wn, D.str txt]]) some = some true := hss2
      rw [hss3, gb_some_eq, hlen]
      simp
  simp -implicitDefEqProofs only [law41_StoreCrash, law41_StoreCrash_p1, h3, gb_some_eq, h4, scanB n hn (recs ks) (by omega), hk.scan, encV_len]
  by_cases h0 : ks.length = 0
  · have hnil : ks = [] := List.eq_nil_of_length_eq_zero h0
    have hg : decide (((ks.length : Nat) : Int) > 0) = false := by rw [decide_eq_false_iff_not]; omega
    rw [hg]
    simp only [cond_false]
    exact fin 0 (by rw [hnil]; rfl)
  · have hg : decide (((ks.length : Nat) : Int) > 0) = true := by rw [decide_eq_true_eq]; omega
    have hgl : ks[ks.length - 1]? = some (ks[ks.length - 1]'(by omega)) := List.getElem?_eq_getElem (by omega)
    have hlast : (ks[ks.length - 1]'(by omega)).num = lastOf 0 ks := by
      rw [← lastNum_eq]
      simp only [lastNum, List.getLast?_eq_getElem?, hgl]
      rfl
    rw [hg, wrap64' (x := ((ks.length : Nat) : Int) - 1) (by omega) (by omega), show ((ks.length : Nat) : Int) - 1 = ((ks.length - 1 : Nat) : Int) by omega, rowAt_get hgl]
    simp -implicitDefEqProofs only [gb_some_eq, Ver.enc, List.getElem?_cons_zero, pInt_i64, cond_true]
    exact fin _ hlast

theorem storeAgainA (n : Nat) (hn : 70000 < n) {l : List Int} (hl : l.length ≤ 9223372036854775807) (num cutx : Int) (txt : List UInt8) (ht : txt.length ≤ 9223372036854775807) : law41_StoreAgain n (encI l) num txt cutx some = some true := by
  obtain ⟨vs, ks, h1, h2, h3, h4, hk, hkl, hkn, hrl⟩ := made_file n hn hl
  have hpn := pick_range num (m := 5) (by omega)
  have hlo := lastOf_le (b := 100) ks 0 (by omega) hkn
  have hge := lastOf_ge ks 0 hk.asc
  generalize hw : lastOf 0 ks + 1 + pick num 5 = wn
  have fin : ∀ last : Int, last = lastOf 0 ks →
      (gb true (keep_Pick n num (5 : Int) some) 0 fun r7 =>
        gb true (store_Append n (recs ks) (IntKind.wrap .i64 ((IntKind.wrap .i64 (last + (1 : Int))) + r7)) txt (fun r0 r1 => some (r0, r1))) ([], 0) fun r8 =>
        bif (bif (bif (decide (((List.length txt : Nat) : Int) > (65536 : Int))) then true else (r8.2 != (0 : Int))) then true else (decide (((List.length r8.1 : Nat) : Int) ≤ ((recs ks).length : Int)))) then
          gb true (law41_awake n some) false fun r9 =>
          some (bif (bif r9 then (r8.2 == (7 : Int)) else false) then (decide (((List.length txt : Nat) : Int) > (65536 : Int))) else false)
        else
          gb true (keep_Pick n cutx (IntKind.wrap .i64 (((List.length r8.1 : Nat) : Int) - ((recs ks).length : Int))) some) 0 fun r10 =>
          gb true (slB (List.length r8.1) none (some (IntKind.wrap .i64 (((recs ks).length : Int) + r10)))) (0, 0) fun q11 =>
          gb true (store_Append n (cut r8.1 q11) (IntKind.wrap .i64 ((IntKind.wrap .i64 (last + (1 : Int))) + r7)) txt (fun r0 r1 => some (r0, r1))) ([], 0) fun r12 =>
          gb true (law41_awake n some) false fun r13 =>
          some (bif (bif r13 then (r12.2 == (0 : Int)) else false) then (r12.1 == r8.1) else false)) = some true := by
    rintro last rfl
    rw [pickA n num (by omega) (by omega), gb_some_eq, wrap64' (x := lastOf 0 ks + 1) (by omega) (by omega), hw, wrap64' (x := wn) (by omega) (by omega)]
    have ea := fun s hs => appendA n hn s hs ⟨wn, txt⟩ (fun r0 r1 => some (r0, r1))
    simp only at ea
    rw [ea (recs ks) (by omega), gb_some_eq]
    by_cases hlong : 65536 < txt.length
    · have hck : vcheck ⟨wn, txt⟩ = 7 := by unfold vcheck; rw [if_neg (by simp only; omega), if_pos hlong]
      have hap : appendV (recs ks) ⟨wn, txt⟩ = ([], 7) := by
        have he : encode ⟨wn, txt⟩ = ([], 7) := by simp [encode, hck]
        unfold appendV
        rw [he, if_pos (by simp)]
      have hd : decide (((List.length txt : Nat) : Int) > (65536 : Int)) = true := by rw [decide_eq_true_eq]; omega
      rw [hd, hap, awake41 n hn]
      rfl
    · have hgood : vcheck ⟨wn, txt⟩ = 0 := vcheck_zero.2 ⟨by simp only; omega, by simp only; omega, by simp only; omega⟩
      have hrec := record_length ⟨wn, txt⟩
      simp only at hrec
      have hap := fun {rest : List UInt8} (hr : dec rest = none) => append_recs hk hr hgood (by simp only; omega) (by omega) (by omega)
      have hap0 := hap (rest := []) dec_nil
      rw [List.append_nil] at hap0
      have hg : recs (ks ++ [⟨wn, txt⟩]) = recs ks ++ record ⟨wn, txt⟩ := by rw [recs_append]; simp [recs]
      have hlen : (recs (ks ++ [⟨wn, txt⟩])).length = (recs ks).length + (16 + txt.length) := by rw [hg, List.length_append, hrec]
      have hd : decide (((List.length txt : Nat) : Int) > (65536 : Int)) = false := by rw [decide_eq_false_iff_not]; omega
      have hd2 : decide (((((recs ks).length + (16 + txt.length) : Nat)) : Int) ≤ ((recs ks).length : Int)) = false := by rw [decide_eq_false_iff_not]; omega
      rw [hd, hap0]
      simp only
      rw [hlen, hd2]
      have hb : (bif (bif false then true else ((0 : Int) != 0)) then true else false) = false := rfl
      have hm : (((recs ks).length + (16 + txt.length) : Nat) : Int) - ((recs ks).length : Int) = ((16 + txt.length : Nat) : Int) := by omega
      have hpc := pick_range cutx (m := ((16 + txt.length : Nat) : Int)) (by omega)
      rw [hb, wrap64' (x := (((recs ks).length + (16 + txt.length) : Nat) : Int) - ((recs ks).length : Int)) (by omega) (by omega), hm, pickA n cutx (by omega) (by omega), gb_some_eq]
      obtain ⟨q, hq⟩ : ∃ q : Nat, pick cutx ((16 + txt.length : Nat) : Int) = q := ⟨(pick cutx ((16 + txt.length : Nat) : Int)).toNat, by omega⟩
      rw [hq, wrap64' (by omega) (by omega), show (((recs ks).length : Int) + (q : Int)) = (((recs ks).length + q : Nat) : Int) by omega, slB_hi (by omega), gb_some_eq, cut_hi]
      have hcut : (recs (ks ++ [⟨wn, txt⟩])).take ((recs ks).length + q) = recs ks ++ (record ⟨wn, txt⟩).take q := by
        rw [hg, List.take_append]
        simp [List.take_of_length_le]
      rw [hcut, ea _ (by simp [hrec]; omega), hap (dec_cut hgood (by simp only; omega)), gb_some_eq, awake41 n hn, gb_some_eq]
      simp
      rfl
  simp -implicitDefEqProofs only [law41_StoreAgain, law41_StoreAgain_p1, h3, gb_some_eq, h4, scanB n hn (recs ks) (by omega), hk.scan, encV_len]
  by_cases h0 : ks.length = 0
  · have hnil : ks = [] := List.eq_nil_of_length_eq_zero h0
    have hg : decide (((ks.length : Nat) : Int) > 0) = false := by rw [decide_eq_false_iff_not]; omega
    rw [hg]
    simp only [cond_false]
    exact fin 0 (by rw [hnil]; rfl)
  · have hg : decide (((ks.length : Nat) : Int) > 0) = true := by rw [decide_eq_true_eq]; omega
    have hgl : ks[ks.length - 1]? = some (ks[ks.length - 1]'(by omega)) := List.getElem?_eq_getElem (by omega)
    have hlast : (ks[ks.length - 1]'(by omega)).num = lastOf 0 ks := by
      rw [← lastNum_eq]
      simp only [lastNum, List.getLast?_eq_getElem?, hgl]
      rfl
    rw [hg, wrap64' (x := ((ks.length : Nat) : Int) - 1) (by omega) (by omega), show ((ks.length : Nat) : Int) - 1 = ((ks.length - 1 : Nat) : Int) by omega, rowAt_get hgl]
    simp -implicitDefEqProofs only [gb_some_eq, Ver.enc, List.getElem?_cons_zero, pInt_i64, cond_true]
    exact fin _ hlast
end
end Go.Vx
/-
  Plain laws of the store: Get; StoreHistory.
-/
set_option linter.unusedSimpArgs false
set_option linter.unusedVariables false
namespace Go.Vx
section
variable {R : Type}

def getK (o : Option Ver) (K : D → D → Int → Option R) : Option R :=
  match o with
  | some v => K (.int .i64 v.num) (.str v.txt) 0
  | none => K (.int .i64 0) (.str []) 6
def getV (vs : List Ver) (num : Int) : Option Ver := vs.find? fun v => v.num == num

theorem getA_r5 (n : Nat) (num : Int) (vs : List Ver) (hv : vs.length ≤ 1000) (k0 : D → D → Option R) (k1 : Int → Bool → Option R) : ∀ (suf : List Ver) (i m : Nat), vs.drop i = suf → i ≤ vs.length → suf.length < m →
    store_Get_r5 n num (vs.map Ver.enc) vs.length k0 k1 m i = match getV suf num with
      | some v => k0 (.int .i64 v.num) (.str v.txt)
      | none => k1 vs.length false
  | [], i, m, hd, hi, hm => by
    have := drop_nil hd
    have hie : i = vs.length := by omega
    obtain ⟨m, rfl⟩ : ∃ m', m = m' + 1 := ⟨m - 1, by omega⟩
    rw [store_Get_r5]
    unfold store_Get_p4
    rw [bif_neg (by simp; omega), hie]
    simp [getV]
  | v :: suf, i, m, hd, hi, hm => by
    obtain ⟨h1, h2, h3⟩ := drop_cons hd
    obtain ⟨m, rfl⟩ : ∃ m', m = m' + 1 := ⟨m - 1, by omega⟩
    rw [store_Get_r5]
    unfold store_Get_p4
    rw [bif_pos (by simpa using h3), rowAt_get h1]
    simp -implicitDefEqProofs only [Ver.enc, gb_some_eq, List.getElem?_cons_zero, List.getElem?_cons_succ, pInt_i64, pStr_s]
    by_cases h : v.num = num
    · rw [bif_pos (by simpa using h)]
      simp [getV, h]
    · rw [bif_neg (by simpa using h), wrap64' (by omega) (by omega), show ((i : Int) + 1) = ((i + 1 : Nat) : Int) from rfl, getA_r5 n num vs hv k0 k1 suf (i + 1) m h2 (by omega) (by simp at hm; omega)]
      have hb : (v.num == num) = false := by simpa using h
      simp only [getV, List.find?_cons, hb]

theorem getA (n : Nat) (hn : 70000 < n) (s : List UInt8) (hs : s.length ≤ 9223372036854775807) (num : Int) (K : D → D → Int → Option R) : store_Get n s num K = getK (getV (scan s).1 num) K := by
  have hl := (scanF_end 64 0 s).2.2
  rw [show scanF 64 0 s = scan s from rfl] at hl
  simp -implicitDefEqProofs only [store_Get_p1, store_Get_p2, store_Get_p3, store_Get_p5, store_Get_p6, store_Get_p7, store_Get_p8, store_Get_p9, store_Get_p10, store_Get_p11, store_Get, scanA n hn s hs, gb_some_eq, List.length_map]
  have := getA_r5 (R := R) n num (scan s).1 (by omega) (fun w43 w44 => K w43 w44 (0 : Int)) (fun _ _ => K (D.int .i64 (0 : Int)) (D.str []) (6 : Int)) (scan s).1 0 n rfl (by omega) (by omega)
  refine Eq.trans this ?_
  cases getV (scan s).1 num <;> rfl

theorem getB_r5 (n : Nat) (num : Int) (vs : List Ver) (hv : vs.length ≤ 1000) (k0 : D → D → Option R) (k1 : Int → Bool → Option R) : ∀ (suf : List Ver) (i m : Nat), vs.drop i = suf → i ≤ vs.length → suf.length < m →
    ref41_Get_r5 n num (vs.map Ver.enc) vs.length k0 k1 m i = match getV suf num with
      | some v => k0 (.int .i64 v.num) (.str v.txt)
      | none => k1 vs.length false
  | [], i, m, hd, hi, hm => by
    have := drop_nil hd
    have hie : i = vs.length := by omega
    obtain ⟨m, rfl⟩ : ∃ m', m = m' + 1 := ⟨m - 1, by omega⟩
    rw [ref41_Get_r5]
    unfold ref41_Get_p4
    rw [bif_neg (by simp; omega), hie]
    simp [getV]
  | v :: suf, i, m, hd, hi, hm => by
    obtain ⟨h1, h2, h3⟩ := drop_cons hd
    obtain ⟨m, rfl⟩ : ∃ m', m = m' + 1 := ⟨m - 1, by omega⟩
    rw [ref41_Get_r5]
    unfold ref41_Get_p4
    rw [bif_pos (by simpa using h3), rowAt_get h1]
    simp -implicitDefEqProofs only [Ver.enc, gb_some_eq, List.getElem?_cons_zero, List.getElem?_cons_succ, pInt_i64, pStr_s]
    by_cases h : v.num = num
    · rw [bif_pos (by simpa using h)]
      simp [getV, h]
    · rw [bif_neg (by simpa using h), wrap64' (by omega) (by omega), show ((i : Int) + 1) = ((i + 1 : Nat) : Int) from rfl, getB_r5 n num vs hv k0 k1 suf (i + 1) m h2 (by omega) (by simp at hm; omega)]
      have hb : (v.num == num) = false := by simpa using h
      simp only [getV, List.find?_cons, hb]

theorem getB (n : Nat) (hn : 70000 < n) (s : List UInt8) (hs : s.length ≤ 9223372036854775807) (num : Int) (K : D → D → Int → Option R) : ref41_Get n s num K = getK (getV (scan s).1 num) K := by
  have hl := (scanF_end 64 0 s).2.2
  rw [show scanF 64 0 s = scan s from rfl] at hl
  simp -implicitDefEqProofs only [ref41_Get_p1, ref41_Get_p2, ref41_Get_p3, ref41_Get_p5, ref41_Get_p6, ref41_Get_p7, ref41_Get_p8, ref41_Get_p9, ref41_Get_p10, ref41_Get_p11, ref41_Get, scanB n hn s hs, gb_some_eq, List.length_map]
  have := getB_r5 (R := R) n num (scan s).1 (by omega) (fun w43 w44 => K w43 w44 (0 : Int)) (fun _ _ => K (D.int .i64 (0 : Int)) (D.str []) (6 : Int)) (scan s).1 0 n rfl (by omega) (by omega)
  refine Eq.trans this ?_
  cases getV (scan s).1 num <;> rfl


theorem asc_mem_gt : ∀ {r : List Ver} {l : Int} {v : Ver}, ascV l r → v ∈ r → l < v.num
  | w :: r, l, v, h, hv => by
    rcases List.mem_cons.1 hv with rfl | hv
    · exact h.1
    · have := asc_mem_gt h.2 hv
      have := h.1
      omega

theorem get_asc : ∀ {ks : List Ver} {l : Int} {v : Ver}, ascV l ks → v ∈ ks → getV ks v.num = some v
  | w :: r, l, v, h, hv => by
    rcases List.mem_cons.1 hv with rfl | hv
    · simp [getV]
    · have := asc_mem_gt h.2 hv
      have hb : (w.num == v.num) = false := by rw [beq_eq_false_iff_ne]; omega
      have ih := get_asc h.2 hv
      unfold getV at ih ⊢
      rw [List.find?_cons, hb]
      exact ih

theorem hist_r25 (n : Nat) (hn : 70000 < n) (vs : List Ver) (hvl : vs.length ≤ 5) (hv : ∀ v ∈ vs, 0 ≤ v.num ∧ v.num ≤ 100 ∧ v.txt.length ≤ 8) (k0 : Option R) (k1 : List UInt8 → Int → Bool → List (List D) → Option R) : ∀ (suf : List Ver) (i m : Nat) (ks : List Ver), vs.drop i = suf → i ≤ vs.length → suf.length < m → Kept ks → ks.length ≤ i → (∀ v ∈ ks, v.txt.length ≤ 8) →
    ∃ ks' : List Ver, Kept ks' ∧ ks'.length ≤ 5 ∧ (∀ v ∈ ks', v.txt.length ≤ 8) ∧ law41_StoreHistory_r25 n (vs.map Ver.enc) vs.length k0 k1 m (recs ks) i (ks.map Ver.enc) = k1 (recs ks') vs.length false (ks'.map Ver.enc)
  | [], i, m, ks, hd, hi, hm, hk, hkl, hkt => by
    have := drop_nil hd
    have hie : i = vs.length := by omega
    obtain ⟨m, rfl⟩ : ∃ m', m = m' + 1 := ⟨m - 1, by omega⟩
    refine ⟨ks, hk, by omega, hkt, ?_⟩
    rw [law41_StoreHistory_r25]
    unfold law41_StoreHistory_p24
    simp -implicitDefEqProofs only [law41_StoreHistory_p6, law41_StoreHistory_p7, law41_StoreHistory_p23]
    rw [bif_neg (by simp; omega), hie]
    simp
  | v :: suf, i, m, ks, hd, hi, hm, hk, hkl, hkt => by
    obtain ⟨h1, h2, h3⟩ := drop_cons hd
    obtain ⟨m, rfl⟩ : ∃ m', m = m' + 1 := ⟨m - 1, by omega⟩
    obtain ⟨n0, n1, n2⟩ := hv v (List.mem_of_getElem? h1)
    have hrl := recs_len (b := 8) ks hkt
    have hrec := record_length v
    have hge := lastOf_ge ks 0 hk.asc
    -- one round
    have hround : ∀ (g : List UInt8) (e : Int), appendV (recs ks) v = (g, e) →
        law41_StoreHistory_r25 n (vs.map Ver.enc) vs.length k0 k1 (m + 1) (recs ks) i (ks.map Ver.enc) =
          (let good := decide (1 ≤ v.num) && (decide (ks.length = 0) || decide (lastOf 0 ks < v.num))
           bif good && e != 0 then k0 else bif !good && decide (v.num < 1) && e != 4 then k0 else bif !good && decide (1 ≤ v.num) && e != 20 then k0 else
           bif good then law41_StoreHistory_r25 n (vs.map Ver.enc) vs.length k0 k1 m g ((i + 1 : Nat) : Int) ((ks ++ [v]).map Ver.enc) else law41_StoreHistory_r25 n (vs.map Ver.enc) vs.length k0 k1 m (recs ks) ((i + 1 : Nat) : Int) (ks.map Ver.enc)) := by
      intro g e hap
      rw [law41_StoreHistory_r25]
      unfold law41_StoreHistory_p24
      simp -implicitDefEqProofs only [law41_StoreHistory_p6, law41_StoreHistory_p7, law41_StoreHistory_p8, law41_StoreHistory_p9, law41_StoreHistory_p10, law41_StoreHistory_p11, law41_StoreHistory_p12, law41_StoreHistory_p13, law41_StoreHistory_p14, law41_StoreHistory_p15, law41_StoreHistory_p16, law41_StoreHistory_p17, law41_StoreHistory_p18, law41_StoreHistory_p19, law41_StoreHistory_p20, law41_StoreHistory_p21, law41_StoreHistory_p22, law41_StoreHistory_p23]
      rw [bif_pos (by simpa using h3), rowAt_get h1]
      simp -implicitDefEqProofs only [Ver.enc, gb_some_eq, List.getElem?_cons_zero, List.getElem?_cons_succ, pInt_i64, pStr_s, encV_len]
      rw [appendA n hn (recs ks) (by omega), hap]
      simp -implicitDefEqProofs only [gb_some_eq]
      rw [wrap64' (x := (i : Int) + 1) (by omega) (by omega), show ((i : Int) + 1) = ((i + 1 : Nat) : Int) from rfl, room_ok (by simp; omega)]
      rw [show ks.map Ver.enc ++ [[D.int .i64 v.num, D.str v.txt]] = (ks ++ [v]).map Ver.enc by simp [Ver.enc]]
      simp -implicitDefEqProofs only [gb_some_eq]
      have hdge : decide (v.num ≥ 1) = decide (1 ≤ v.num) := rfl
      by_cases h0 : ks.length = 0
      · have hnil : ks = [] := List.eq_nil_of_length_eq_zero h0
        subst hnil
        have hb : (((([] : List Ver).length : Nat) : Int) == 0) = true := rfl
        rw [hb]
        simp -implicitDefEqProofs only [Bool.not_true, Bool.and_false, gb_false, cond_true, hdge]
        by_cases hv1 : 1 ≤ v.num
        · have hv2 : ¬ v.num < 1 := by omega
          simp only [hv1, hv2, decide_true, decide_false, cond_true, Bool.not_true, Bool.true_and, Bool.false_and, cond_false, List.length_nil, Bool.true_or, Bool.and_true]
          cases (e != 0) <;> rfl
        · have hv2 : v.num < 1 := by omega
          simp only [hv1, hv2, decide_true, decide_false, cond_true, Bool.not_true, Bool.not_false, Bool.true_and, Bool.false_and, Bool.and_true, Bool.and_false, cond_false]
          cases (e != 4) <;> rfl
      · have hb : (((ks.length : Nat) : Int) == 0) = false := by rw [beq_eq_false_iff_ne]; omega
        have hgl : ks[ks.length - 1]? = some (ks[ks.length - 1]'(by omega)) := List.getElem?_eq_getElem (by omega)
        have hlast : (ks[ks.length - 1]'(by omega)).num = lastOf 0 ks := by
          rw [← lastNum_eq]
          simp only [lastNum, List.getLast?_eq_getElem?, hgl]
          rfl
        rw [hb, wrap64' (x := ((ks.length : Nat) : Int) - 1) (by omega) (by omega), show ((ks.length : Nat) : Int) - 1 = ((ks.length - 1 : Nat) : Int) by omega, inB_ok (by omega) (by omega), Int.toNat_natCast, List.getElem?_map, hgl]
        simp -implicitDefEqProofs only [gb_some_eq, Option.map_some, Ver.enc, List.getElem?_cons_zero, pInt_i64, cond_false, hdge, hlast, h0, decide_false, Bool.false_or]
        have hdg : decide (v.num > lastOf 0 ks) = decide (lastOf 0 ks < v.num) := rfl
        rw [hdg]
        by_cases hv1 : 1 ≤ v.num
        · have hv2 : ¬ v.num < 1 := by omega
          simp only [hv1, hv2, decide_true, decide_false, cond_true, Bool.true_and, Bool.false_and, Bool.and_false, cond_false]
          cases decide (lastOf 0 ks < v.num) <;> cases (e != 0) <;> cases (e != 20) <;> rfl
        · have hv2 : v.num < 1 := by omega
          simp only [hv1, hv2, decide_true, decide_false, cond_true, Bool.not_true, Bool.not_false, Bool.true_and, Bool.false_and, Bool.and_true, Bool.and_false, cond_false]
          cases (e != 4) <;> rfl
    by_cases hv1 : 1 ≤ v.num
    · have hgood : vcheck v = 0 := vcheck_zero.2 ⟨hv1, by omega, by omega⟩
      by_cases hlt : lastOf 0 ks < v.num
      · have hap := append_recs hk (rest := []) dec_nil hgood hlt (by omega) (by omega)
        rw [List.append_nil] at hap
        obtain ⟨ks', g1, g2, g3, g4⟩ := hist_r25 n hn vs hvl hv k0 k1 suf (i + 1) m (ks ++ [v]) h2 (by omega) (by simp at hm; omega) (hk.snoc hgood hlt (by omega)) (by simp; omega) (fun w hw => by
          rcases List.mem_append.1 hw with h | h
          · exact hkt w h
          · simp at h; subst h; exact n2)
        refine ⟨ks', g1, g2, g3, ?_⟩
        rw [hround _ _ hap, ← g4]
        simp [hv1, hlt]
      · have hne : ¬ ks.length = 0 := by
          intro h0
          have hnil : ks = [] := List.eq_nil_of_length_eq_zero h0
          subst hnil
          simp only [lastOf] at hlt
          omega
        have he : encode v = (record v, 0) := by simp [encode, hgood]
        have hap : appendV (recs ks) v = ([], 20) := by
          unfold appendV
          rw [he, if_neg (by simp), hk.scan]
          unfold appR
          rw [if_pos ⟨by simp only; omega, by simp only [lastNum_eq]; omega⟩]
        obtain ⟨ks', g1, g2, g3, g4⟩ := hist_r25 n hn vs hvl hv k0 k1 suf (i + 1) m ks h2 (by omega) (by simp at hm; omega) hk (by omega) hkt
        refine ⟨ks', g1, g2, g3, ?_⟩
        rw [hround _ _ hap, ← g4]
        have hv2 : ¬ v.num < 1 := by omega
        simp [hv1, hlt, hne, hv2]
    · have hck : vcheck v = 4 := by unfold vcheck; rw [if_pos (by omega)]
      have hap : appendV (recs ks) v = ([], 4) := by
        have he : encode v = ([], 4) := by simp [encode, hck]
        unfold appendV
        rw [he, if_pos (by simp)]
      obtain ⟨ks', g1, g2, g3, g4⟩ := hist_r25 n hn vs hvl hv k0 k1 suf (i + 1) m ks h2 (by omega) (by simp at hm; omega) hk (by omega) hkt
      refine ⟨ks', g1, g2, g3, ?_⟩
      rw [hround _ _ hap, ← g4]
      simp [hv1]

theorem hist_r30 (n : Nat) (hn : 70000 < n) (ks : List Ver) (hk : Kept ks) (hl : (recs ks).length ≤ 9223372036854775807) (k0 : Option R) (k1 : Int → Bool → Option R) : ∀ (suf : List Ver) (i m : Nat), ks.drop i = suf → i ≤ ks.length → suf.length < m →
    law41_StoreHistory_r30 n (recs ks) ks.length (ks.map Ver.enc) k0 k1 m i = k1 ks.length false
  | [], i, m, hd, hi, hm => by
    have := drop_nil hd
    have hie : i = ks.length := by omega
    obtain ⟨m, rfl⟩ : ∃ m', m = m' + 1 := ⟨m - 1, by omega⟩
    rw [law41_StoreHistory_r30]
    unfold law41_StoreHistory_p29
    rw [bif_neg (by simp; omega), hie]
    simp
  | v :: suf, i, m, hd, hi, hm => by
    obtain ⟨h1, h2, h3⟩ := drop_cons hd
    obtain ⟨m, rfl⟩ : ∃ m', m = m' + 1 := ⟨m - 1, by omega⟩
    have hkl := hk.len
    rw [law41_StoreHistory_r30]
    unfold law41_StoreHistory_p29
    rw [bif_pos (by simpa using h3), inB_ok (by omega) (by simp; omega), Int.toNat_natCast, List.getElem?_map, h1]
    simp -implicitDefEqProofs only [gb_some_eq, Option.map_some, Ver.enc, List.getElem?_cons_zero, List.getElem?_cons_succ, pInt_i64, pStr_s]
    rw [getA n hn (recs ks) hl, hk.scan]
    simp only
    rw [get_asc hk.asc (List.mem_of_getElem? h1)]
    simp -implicitDefEqProofs only [getK, gb_some_eq, pInt_i64, pStr_s]
    rw [bif_neg (by simp), wrap64' (by omega) (by omega), show ((i : Int) + 1) = ((i + 1 : Nat) : Int) from rfl]
    exact hist_r30 n hn ks hk hl k0 k1 suf (i + 1) m h2 (by omega) (by simp at hm; omega)

theorem storeHistoryA (n : Nat) (hn : 70000 < n) {l : List Int} (hl : l.length ≤ 9223372036854775807) : law41_StoreHistory n (encI l) some = some true := by
  obtain ⟨vs, h1, h2, h3⟩ := versionsA n (by omega) hl
  simp -implicitDefEqProofs only [law41_StoreHistory_p1, law41_StoreHistory_p2, law41_StoreHistory_p3, law41_StoreHistory_p4, law41_StoreHistory_p5, law41_StoreHistory_p25, law41_StoreHistory_p26, law41_StoreHistory_p27, law41_StoreHistory_p28, law41_StoreHistory_p30, law41_StoreHistory_p31, law41_StoreHistory_p32, law41_StoreHistory_p33, law41_StoreHistory_p34, law41_StoreHistory_p35, law41_StoreHistory_p36, law41_StoreHistory_p37, law41_StoreHistory_p38, law41_StoreHistory_p39, law41_StoreHistory, h3, gb_some_eq, encV_len]
  obtain ⟨ks, g1, g2, g3, g4⟩ := hist_r25 (R := Bool) n hn vs h1 h2 (some false) (fun w160 w162 w163 w164 => law41_StoreHistory_r30 n w160 ((List.length w164 : Nat) : Int) w164 (some false) (fun w197 w198 => gb true (store_Scan n w160 (fun r0 r1 => some (r0, r1))) ([], 0) fun r204 => gb true (law41_awake n some) false fun r205 => gb r205 (keep_Same_railplan_api_Version n r204.1 w164 some) false fun r206 => some (bif (bif r205 then r206 else false) then (r204.2 == ((List.length w160 : Nat) : Int)) else false)) n 0) vs 0 n [] rfl (by omega) (by omega) ⟨by simp, trivial, by simp⟩ (by simp) (by simp)
  refine Eq.trans g4 ?_
  have hrl := recs_len (b := 8) ks g3
  have hr := hist_r30 (R := Bool) n hn ks g1 (by omega) (some false) (fun w197 w198 => gb true (store_Scan n (recs ks) (fun r0 r1 => some (r0, r1))) ([], 0) fun r204 => gb true (law41_awake n some) false fun r205 => gb r205 (keep_Same_railplan_api_Version n r204.1 (ks.map Ver.enc) some) false fun r206 => some (bif (bif r205 then r206 else false) then (r204.2 == ((List.length (recs ks) : Nat) : Int)) else false)) ks 0 n rfl (by omega) (by omega)
  rw [encV_len]
  refine Eq.trans hr ?_
  rw [scanA n hn (recs ks) (by omega), g1.scan, gb_some_eq, awake41 n hn, gb_some_eq, sameV n ks (by omega) (by omega), gb_some_eq]
  simp
end
end Go.Vx
/-
  Plain laws of the store: Latest, Compact; StoreRead, StoreCompact, StoreFull.
-/
set_option linter.unusedSimpArgs false
set_option linter.unusedVariables false
namespace Go.Vx
section
variable {R : Type}

theorem scanF_kept : ∀ (k : Nat) (last : Int) (s : List UInt8), (∀ v ∈ (scanF k last s).1, vcheck v = 0) ∧ ascV last (scanF k last s).1
  | 0, _, _ => by simp [scanF, ascV]
  | k + 1, last, s => by
    simp only [scanF]
    split
    · simp [ascV]
    · rename_i v m hd
      split
      · simp [ascV]
      · rename_i hv
        obtain ⟨h1, h2, h3, h4⟩ := dec_some hd
        have ih := scanF_kept k v.num (s.drop m)
        refine ⟨fun w hw => ?_, by simp only [ascV]; exact ⟨by omega, ih.2⟩⟩
        rcases List.mem_cons.1 hw with rfl | hw
        · exact h1
        · exact ih.1 w hw

theorem scan_kept (s : List UInt8) : Kept (scan s).1 := ⟨(scanF_kept 64 0 s).1, (scanF_kept 64 0 s).2, (scanF_end 64 0 s).2.2⟩

theorem asc_weak {a b : Int} (h : a ≤ b) : ∀ {vs : List Ver}, ascV b vs → ascV a vs
  | [], _ => trivial
  | v :: r, hv => ⟨by have := hv.1; omega, hv.2⟩
theorem asc_drop : ∀ (i : Nat) {a : Int} {vs : List Ver}, ascV a vs → ascV a (vs.drop i)
  | 0, a, vs, h => h
  | i + 1, a, [], h => trivial
  | i + 1, a, v :: r, h => asc_drop i (asc_weak (by have := h.1; omega) h.2)
theorem Kept.drop {ks : List Ver} (h : Kept ks) (i : Nat) : Kept (ks.drop i) :=
  ⟨fun v hv => h.good v (List.mem_of_mem_drop hv), asc_drop i h.asc, by have := h.len; simp; omega⟩

theorem kept_len {ks : List Ver} (h : Kept ks) : (recs ks).length ≤ ks.length * 65552 := recs_len (b := 65536) ks fun v hv => (vcheck_zero.1 (h.good v hv)).2.2

/-! Compact -/

theorem compactA_r7 (n : Nat) (hn : 70000 < n) (vs : List Ver) (hk : Kept vs) (k0 : Int → Bool → List (List D) → Option R) : ∀ (suf : List Ver) (i m : Nat) (out : List UInt8), vs.drop i = suf → i ≤ vs.length → suf.length < m → out.length ≤ i * 65552 →
    store_Compact_r7 n (vs.map Ver.enc) vs.length k0 m i (rowsB out) = k0 vs.length false (rowsB (out ++ recs suf))
  | [], i, m, out, hd, hi, hm, ho => by
    have := drop_nil hd
    have hie : i = vs.length := by omega
    obtain ⟨m, rfl⟩ : ∃ m', m = m' + 1 := ⟨m - 1, by omega⟩
    rw [store_Compact_r7]
    unfold store_Compact_p6
    rw [bif_neg (by simp; omega), hie]
    simp [recs]
  | v :: suf, i, m, out, hd, hi, hm, ho => by
    obtain ⟨h1, h2, h3⟩ := drop_cons hd
    obtain ⟨m, rfl⟩ : ∃ m', m = m' + 1 := ⟨m - 1, by omega⟩
    have hl := hk.len
    have hv := hk.good v (List.mem_of_getElem? h1)
    have hvl := (vcheck_zero.1 hv).2.2
    have hrl := record_length v
    rw [store_Compact_r7]
    unfold store_Compact_p6
    rw [bif_pos (by simpa using h3), rowAt_get h1]
    simp -implicitDefEqProofs only [Ver.enc, gb_some_eq, List.getElem?_cons_zero, List.getElem?_cons_succ, pInt_i64, pStr_s]
    rw [encodeA n hn v, show encode v = (record v, 0) by simp [encode, hv]]
    simp -implicitDefEqProofs only [gb_some_eq]
    rw [room_ok (by simp [rowsB]; omega), gb_some_eq, wrap64' (by omega) (by omega), show ((i : Int) + 1) = ((i + 1 : Nat) : Int) from rfl, show rowsB out ++ rowsB (record v) = rowsB (out ++ record v) by simp [rowsB]]
    rw [compactA_r7 n hn vs hk k0 suf (i + 1) m (out ++ record v) h2 (by omega) (by simp at hm; omega) (by simp; omega)]
    simp [recs]

theorem compactB_r7 (n : Nat) (hn : 70000 < n) (vs : List Ver) (hk : Kept vs) (k0 : List UInt8 → Int → Bool → Option R) : ∀ (suf : List Ver) (i m : Nat) (out : List UInt8), vs.drop i = suf → i ≤ vs.length → suf.length < m → out.length ≤ i * 65552 →
    ref41_Compact_r7 n (vs.map Ver.enc) vs.length k0 m out i = k0 (out ++ recs suf) vs.length false
  | [], i, m, out, hd, hi, hm, ho => by
    have := drop_nil hd
    have hie : i = vs.length := by omega
    obtain ⟨m, rfl⟩ : ∃ m', m = m' + 1 := ⟨m - 1, by omega⟩
    rw [ref41_Compact_r7]
    unfold ref41_Compact_p6
    rw [bif_neg (by simp; omega), hie]
    simp [recs]
  | v :: suf, i, m, out, hd, hi, hm, ho => by
    obtain ⟨h1, h2, h3⟩ := drop_cons hd
    obtain ⟨m, rfl⟩ : ∃ m', m = m' + 1 := ⟨m - 1, by omega⟩
    have hl := hk.len
    have hv := hk.good v (List.mem_of_getElem? h1)
    have hvl := (vcheck_zero.1 hv).2.2
    have hrl := record_length v
    rw [ref41_Compact_r7]
    unfold ref41_Compact_p6
    rw [bif_pos (by simpa using h3), rowAt_get h1]
    simp -implicitDefEqProofs only [Ver.enc, gb_some_eq, List.getElem?_cons_zero, List.getElem?_cons_succ, pInt_i64, pStr_s]
    rw [encodeB n hn v, show encode v = (record v, 0) by simp [encode, hv]]
    simp -implicitDefEqProofs only [gb_some_eq]
    rw [sumOk_ok (by omega), gb_some_eq, wrap64' (by omega) (by omega), show ((i : Int) + 1) = ((i + 1 : Nat) : Int) from rfl]
    rw [compactB_r7 n hn vs hk k0 suf (i + 1) m (out ++ record v) h2 (by omega) (by simp at hm; omega) (by simp; omega)]
    simp [recs]

def keepN (vs : List Ver) (k : Int) : List Ver := vs.drop (vs.length - k.toNat)
def compactV (s : List UInt8) (k : Int) : List UInt8 × Int := if k < 1 ∨ 64 < k then ([], 4) else (recs (keepN (scan s).1 k), 0)

theorem slB_keep {len : Nat} (hl : len ≤ 64) {k : Int} (h : ¬ (k < 1 ∨ 64 < k)) :
    slB len (some (if (0 : Int) < (IntKind.wrap .i64 (((len : Nat) : Int) - k)) then (IntKind.wrap .i64 (((len : Nat) : Int) - k)) else (0 : Int))) none = some (len - k.toNat, len) := by
  rw [wrap64' (by omega) (by omega)]
  have : (if (0 : Int) < ((len : Nat) : Int) - k then ((len : Nat) : Int) - k else 0) = ((len - k.toNat : Nat) : Int) := by split <;> omega
  rw [this, slB_lo (by omega)]

theorem compactA (n : Nat) (hn : 70000 < n) (s : List UInt8) (hs : s.length ≤ 9223372036854775807) (k : Int) (K : List UInt8 → Int → Option R) : store_Compact n s k K = K (compactV s k).1 (compactV s k).2 := by
  simp -implicitDefEqProofs only [store_Compact_p1, store_Compact_p2, store_Compact_p3, store_Compact_p4, store_Compact_p5, store_Compact_p7, store_Compact_p8, store_Compact_p9, store_Compact_p10, store_Compact_p11, store_Compact_p12, store_Compact_p13, store_Compact_p14, store_Compact_p15, store_Compact, Bool.cond_true_left, scanA n hn s hs, gb_some_eq, encV_len]
  unfold compactV
  by_cases h : k < 1 ∨ 64 < k
  · rw [bif_pos (by simp; omega), if_pos h]
  · have hk := scan_kept s
    have hkd := hk.drop ((scan s).1.length - k.toNat)
    have hl := hk.len
    rw [bif_neg (by simp; omega), if_neg h, slB_keep hl h, gb_some_eq]
    have hcut : cut ((scan s).1.map Ver.enc) ((scan s).1.length - k.toNat, (scan s).1.length) = (keepN (scan s).1 k).map Ver.enc := by
      have := cut_lo ((scan s).1.map Ver.enc) ((scan s).1.length - k.toNat)
      rw [encV_len] at this
      rw [this, keepN, List.map_drop]
    rw [hcut, encV_len]
    have hkl := hkd.len
    have := compactA_r7 (R := R) n hn (keepN (scan s).1 k) hkd (fun _ _ w48 => gb true (bytesX w48) [] fun s49 => K s49 0) (keepN (scan s).1 k) 0 n [] rfl (by omega) (by unfold keepN; omega) (by simp)
    refine Eq.trans this ?_
    rw [bytesX_rowsB, gb_some_eq]
    simp

theorem compactB (n : Nat) (hn : 70000 < n) (s : List UInt8) (hs : s.length ≤ 9223372036854775807) (k : Int) (K : List UInt8 → Int → Option R) : ref41_Compact n s k K = K (compactV s k).1 (compactV s k).2 := by
  simp -implicitDefEqProofs only [ref41_Compact_p1, ref41_Compact_p2, ref41_Compact_p3, ref41_Compact_p4, ref41_Compact_p5, ref41_Compact_p7, ref41_Compact_p8, ref41_Compact_p9, ref41_Compact_p10, ref41_Compact_p11, ref41_Compact_p12, ref41_Compact_p13, ref41_Compact_p14, ref41_Compact_p15, ref41_Compact, Bool.cond_true_left, scanB n hn s hs, gb_some_eq, encV_len]
  unfold compactV
  by_cases h : k < 1 ∨ 64 < k
  · rw [bif_pos (by simp; omega), if_pos h]
  · have hk := scan_kept s
    have hkd := hk.drop ((scan s).1.length - k.toNat)
    have hl := hk.len
    rw [bif_neg (by simp; omega), if_neg h, slB_keep hl h, gb_some_eq]
    have hcut : cut ((scan s).1.map Ver.enc) ((scan s).1.length - k.toNat, (scan s).1.length) = (keepN (scan s).1 k).map Ver.enc := by
      have := cut_lo ((scan s).1.map Ver.enc) ((scan s).1.length - k.toNat)
      rw [encV_len] at this
      rw [this, keepN, List.map_drop]
    rw [hcut, encV_len]
    have hkl := hkd.len
    have := compactB_r7 (R := R) n hn (keepN (scan s).1 k) hkd (fun w _ _ => K w 0) (keepN (scan s).1 k) 0 n [] rfl (by omega) (by unfold keepN; omega) (by simp)
    refine Eq.trans this ?_
    simp

/-! Latest -/

def latestV (vs : List Ver) : Option Ver := vs.getLast?
theorem latest_at {vs : List Ver} {v : Ver} (h : vs.getLast? = some v) : vs[vs.length - 1]? = some v ∧ vs.length ≠ 0 := by
  rw [List.getLast?_eq_getElem?] at h
  have := (List.getElem?_eq_some_iff.1 h).1
  exact ⟨h, by omega⟩

theorem latestA (n : Nat) (hn : 70000 < n) (s : List UInt8) (hs : s.length ≤ 9223372036854775807) (K : D → D → Int → Option R) : store_Latest n s K = getK (scan s).1.getLast? K := by
  have hl := (scan_kept s).len
  simp -implicitDefEqProofs only [store_Latest, store_Latest_p1, scanA n hn s hs, gb_some_eq, encV_len]
  cases hg : (scan s).1.getLast? with
  | none =>
    have h0 : (scan s).1 = [] := List.getLast?_eq_none_iff.1 hg
    rw [h0]; rfl
  | some v =>
    obtain ⟨h1, h2⟩ := latest_at hg
    rw [bif_neg (by simp; intro e; rw [e] at h2; exact h2 rfl), wrap64' (by omega) (by omega), show (((scan s).1.length : Nat) : Int) - 1 = (((scan s).1.length - 1 : Nat) : Int) by omega, rowAt_get h1]
    rfl

theorem latestB (n : Nat) (hn : 70000 < n) (s : List UInt8) (hs : s.length ≤ 9223372036854775807) (K : D → D → Int → Option R) : ref41_Latest n s K = getK (scan s).1.getLast? K := by
  have hl := (scan_kept s).len
  simp -implicitDefEqProofs only [ref41_Latest, ref41_Latest_p1, scanB n hn s hs, gb_some_eq, encV_len]
  cases hg : (scan s).1.getLast? with
  | none =>
    have h0 : (scan s).1 = [] := List.getLast?_eq_none_iff.1 hg
    rw [h0]; rfl
  | some v =>
    obtain ⟨h1, h2⟩ := latest_at hg
    rw [bif_neg (by simp; intro e; rw [e] at h2; exact h2 rfl), wrap64' (by omega) (by omega), show (((scan s).1.length : Nat) : Int) - 1 = (((scan s).1.length - 1 : Nat) : Int) by omega, rowAt_get h1]
    rfl

/-! the laws -/

theorem getK_mk (o : Option Ver) : getK o (fun r0 r1 r2 => some (r0, r1, r2)) = some (match o with | some v => (D.int .i64 v.num, D.str v.txt, (0 : Int)) | none => (D.int .i64 0, D.str [], 6)) := by
  cases o <;> rfl

theorem read_core (n : Nat) (hn : 70000 < n) (s : List UInt8) (hs : s.length ≤ 9223372036854775807) (a5 a6 : Int) (k0 : Bool → Option R) :
    (gb true (store_Latest n s (fun r0 r1 r2 => some (r0, r1, r2))) ((.bool false), (.bool false), 0) fun r7 =>
      gb true (ref41_Latest n s (fun r0 r1 r2 => some (r0, r1, r2))) ((.bool false), (.bool false), 0) fun r8 =>
      gb true (keep_Pick n a5 (14 : Int) some) 0 fun r9 =>
      gb true (store_Get n s r9 (fun r0 r1 r2 => some (r0, r1, r2))) ((.bool false), (.bool false), 0) fun r10 =>
      gb true (keep_Pick n a5 (14 : Int) some) 0 fun r11 =>
      gb true (ref41_Get n s r11 (fun r0 r1 r2 => some (r0, r1, r2))) ((.bool false), (.bool false), 0) fun r12 =>
      gb true (keep_Pick n a6 (9 : Int) some) 0 fun r13 =>
      gb true (store_Compact n s (IntKind.wrap .i64 (r13 - (1 : Int))) (fun r0 r1 => some (r0, r1))) ([], 0) fun r14 =>
      gb true (keep_Pick n a6 (9 : Int) some) 0 fun r15 =>
      gb true (ref41_Compact n s (IntKind.wrap .i64 (r15 - (1 : Int))) (fun r0 r1 => some (r0, r1))) ([], 0) fun r16 =>
      gb true (store_Compact n s (65 : Int) (fun r0 r1 => some (r0, r1))) ([], 0) fun r17 =>
      gb true (law41_awake n  some) false fun r18 =>
      gb r18 (pInt .i64 r7.1) 0 fun i19 =>
      gb r18 (pInt .i64 r8.1) 0 fun i20 =>
      gb r18 (pStr r7.2.1) [] fun s21 =>
      gb r18 (pStr r8.2.1) [] fun s22 =>
      gb (bif (bif r18 then ((i19 == i20) && (s21 == s22)) else false) then (r7.2.2 == r8.2.2) else false) (pInt .i64 r10.1) 0 fun i23 =>
      gb (bif (bif r18 then ((i19 == i20) && (s21 == s22)) else false) then (r7.2.2 == r8.2.2) else false) (pInt .i64 r12.1) 0 fun i24 =>
      gb (bif (bif r18 then ((i19 == i20) && (s21 == s22)) else false) then (r7.2.2 == r8.2.2) else false) (pStr r10.2.1) [] fun s25 =>
      gb (bif (bif r18 then ((i19 == i20) && (s21 == s22)) else false) then (r7.2.2 == r8.2.2) else false) (pStr r12.2.1) [] fun s26 =>
      k0 (bif (bif (bif (bif (bif (bif (bif r18 then ((i19 == i20) && (s21 == s22)) else false) then (r7.2.2 == r8.2.2) else false) then ((i23 == i24) && (s25 == s26)) else false) then (r10.2.2 == r12.2.2) else false) then (r14.1 == r16.1) else false) then (r14.2 == r16.2) else false) then (r17.2 == (4 : Int)) else false)) = k0 true := by
  rw [latestA n hn s hs, latestB n hn s hs, pickA n a5 (show (0 : Int) < 14 by omega) (by omega), pickA n a6 (show (0 : Int) < 9 by omega) (by omega), compactA n hn s hs 65, show compactV s 65 = ([], 4) from rfl, awake41 n hn]
  simp -implicitDefEqProofs only [gb_some_eq, getK_mk, getA n hn s hs, getB n hn s hs, compactA n hn s hs, compactB n hn s hs]
  cases (scan s).1.getLast? <;> cases getV (scan s).1 (pick a5 14) <;> simp [gb_some_eq, pInt_i64, pStr_s]

theorem storeReadA (n : Nat) (hn : 70000 < n) (raw : List UInt8) (hr : raw.length ≤ 9223372036854775807) {l : List Int} (hl : l.length ≤ 9223372036854775807) (a2 a3 a4 a5 a6 : Int) : law41_StoreRead n raw (encI l) a2 a3 a4 a5 a6 some = some true := by
  obtain ⟨vs, ks, h1, h2, h3, h4, h5, h6, h7, h8⟩ := made_file n hn hl
  obtain ⟨g, g1, g2⟩ := damagedA n (recs ks) (by omega) (IntKind.wrap .i64 (Int.tdiv a2 (3 : Int))) a3 a4
  simp -implicitDefEqProofs only [law41_StoreRead, law41_StoreRead_p1, h3, gb_some_eq, h4, pickA n a2 (show (0 : Int) < 3 by omega) (by omega), pickA n a2 (show (0 : Int) < 7 by omega) (by omega), nz_ok (show (3 : Int) ≠ 0 by omega), g2]
  rw [read_core n hn raw hr, read_core n hn g (by omega), read_core n hn (recs ks) (by omega)]
  simp

theorem storeCompactA (n : Nat) (hn : 70000 < n) {l : List Int} (hl : l.length ≤ 9223372036854775807) (a1 a2 a3 a4 : Int) : law41_StoreCompact n (encI l) a1 a2 a3 a4 some = some true := by
  obtain ⟨vs, ks, h1, h2, h3, h4, h5, h6, h7, h8⟩ := made_file n hn hl
  obtain ⟨g, g1, g2⟩ := damagedA n (recs ks) (by omega) a1 a2 a3
  have hp := pick_range a4 (m := 64) (by omega)
  have hk := scan_kept g
  have hkl := hk.len
  have hc : ¬ ((1 : Int) + pick a4 64 < 1 ∨ 64 < (1 : Int) + pick a4 64) := by omega
  have hkd : Kept (keepN (scan g).1 (1 + pick a4 64)) := hk.drop _
  have hrl := kept_len hkd
  have hkd2 := hkd.len
  have hcv : compactV g (1 + pick a4 64) = (recs (keepN (scan g).1 (1 + pick a4 64)), 0) := by unfold compactV; rw [if_neg hc]
  have hcut : cut ((scan g).1.map Ver.enc) ((scan g).1.length - (1 + pick a4 64).toNat, (scan g).1.length) = (keepN (scan g).1 (1 + pick a4 64)).map Ver.enc := by
    have := cut_lo ((scan g).1.map Ver.enc) ((scan g).1.length - (1 + pick a4 64).toNat)
    rw [encV_len] at this
    rw [this, keepN, List.map_drop]
  simp -implicitDefEqProofs only [law41_StoreCompact, law41_StoreCompact_p1, h3, gb_some_eq, h4, g2, scanB n hn g (by omega), pickA n a4 (show (0 : Int) < 64 by omega) (by omega), wrap64' (x := (1 : Int) + pick a4 64) (by omega) (by omega), compactA n hn g (by omega), hcv, scanA n hn (recs (keepN (scan g).1 (1 + pick a4 64))) (by omega), hkd.scan, awake41 n hn, encV_len, slB_keep hkl hc, hcut]
  simp -implicitDefEqProofs only [cond_true, beq_self_eq_true, gb_some_eq, sameV n (keepN (scan g).1 (1 + pick a4 64)) (by omega) (by omega)]

/-! the full file -/

def ups : Nat → Nat → List Ver
  | _, 0 => []
  | i, k + 1 => ⟨(i : Int), []⟩ :: ups (i + 1) k

theorem full_r6 (n : Nat) (hn : 70000 < n) (N : Nat) (hN : N ≤ 100) (k0 : List UInt8 → Int → Bool → Option R) : ∀ (q i m : Nat) (out : List UInt8), i + q = N + 1 → 1 ≤ i → q < m → out.length ≤ 16 * i →
    law41_StoreFull_r6 n N k0 m out i = k0 (out ++ recs (ups i q)) ((N : Int) + 1) false
  | 0, i, m, out, h, hi, hm, ho => by
    obtain ⟨m, rfl⟩ : ∃ m', m = m' + 1 := ⟨m - 1, by omega⟩
    rw [law41_StoreFull_r6]
    unfold law41_StoreFull_p5
    rw [bif_neg (by simp; omega), show (i : Int) = (N : Int) + 1 by omega]
    have : decide ((N : Int) + 1 ≤ N) = false := by rw [decide_eq_false_iff_not]; omega
    simp [ups, recs, this]
  | q + 1, i, m, out, h, hi, hm, ho => by
    obtain ⟨m, rfl⟩ : ∃ m', m = m' + 1 := ⟨m - 1, by omega⟩
    have hv : vcheck ⟨(i : Int), []⟩ = 0 := vcheck_zero.2 ⟨by simp only; omega, by simp only; omega, by simp⟩
    have hrl := record_length ⟨(i : Int), []⟩
    rw [law41_StoreFull_r6]
    unfold law41_StoreFull_p5
    rw [bif_pos (by simp; omega), encodeB n hn ⟨(i : Int), []⟩, show encode ⟨(i : Int), []⟩ = (record ⟨(i : Int), []⟩, 0) by simp [encode, hv]]
    simp -implicitDefEqProofs only [gb_some_eq]
    rw [sumOk_ok (by simp only [hrl]; simp; omega), gb_some_eq, wrap64' (by omega) (by omega), show ((i : Int) + 1) = ((i + 1 : Nat) : Int) from rfl]
    rw [full_r6 n hn N hN k0 q (i + 1) m (out ++ record ⟨(i : Int), []⟩) (by omega) (by omega) (by omega) (by simp only [List.length_append, hrl]; simp; omega)]
    simp [recs, ups]

theorem ups_len : ∀ (k i : Nat), (ups i k).length = k
  | 0, i => rfl
  | k + 1, i => by simp [ups, ups_len k]
theorem ups_good : ∀ (k i : Nat), 1 ≤ i → i + k ≤ 1000 → ∀ v ∈ ups i k, vcheck v = 0
  | 0, i, _, _, v, hv => by simp [ups] at hv
  | k + 1, i, h1, h2, v, hv => by
    simp only [ups, List.mem_cons] at hv
    rcases hv with rfl | hv
    · exact vcheck_zero.2 ⟨by simp only; omega, by simp only; omega, by simp⟩
    · exact ups_good k (i + 1) (by omega) (by omega) v hv
theorem ups_asc : ∀ (k i : Nat) (l : Int), l < i → ascV l (ups i k)
  | 0, i, l, _ => trivial
  | k + 1, i, l, h => ⟨h, ups_asc k (i + 1) i (by omega)⟩
theorem ups_split : ∀ (a b i : Nat), ups i (a + b) = ups i a ++ ups (i + a) b
  | 0, b, i => by simp [ups]
  | a + 1, b, i => by
    rw [show a + 1 + b = (a + b) + 1 by omega, ups, ups, ups_split a b (i + 1), show i + 1 + a = i + (a + 1) by omega]; rfl
theorem ups_recs : ∀ (k i : Nat), (recs (ups i k)).length = 16 * k
  | 0, i => rfl
  | k + 1, i => by simp only [ups, recs, List.length_append, record_length, ups_recs k (i + 1), List.length_nil]; omega
theorem ups_last : ∀ (k i : Nat), (ups i (k + 1)).getLast? = some ⟨((i + k : Nat) : Int), []⟩
  | 0, i => rfl
  | k + 1, i => by
    have := ups_last k (i + 1)
    rw [ups, List.getLast?_cons, this]
    simp only [Option.getD_some, Option.some.injEq]
    rw [show i + 1 + k = i + (k + 1) by omega]

theorem storeFullA (n : Nat) (hn : 70000 < n) (a0 : Int) : law41_StoreFull n a0 some = some true := by
  have hp := pick_range a0 (m := 3) (by omega)
  obtain ⟨j, hj⟩ : ∃ j : Nat, pick a0 3 = j := ⟨(pick a0 3).toNat, by omega⟩
  have hj3 : j < 3 := by omega
  simp -implicitDefEqProofs only [law41_StoreFull_p1, law41_StoreFull_p2, law41_StoreFull_p3, law41_StoreFull_p4, law41_StoreFull_p6, law41_StoreFull_p7, law41_StoreFull_p8, law41_StoreFull_p9, law41_StoreFull_p10, law41_StoreFull_p11, law41_StoreFull_p12, law41_StoreFull_p13, law41_StoreFull, pickA n a0 (show (0 : Int) < 3 by omega) (by omega), gb_some_eq, hj, awake41 n hn]
  rw [wrap64' (x := (64 : Int) + j) (by omega) (by omega), show (64 : Int) + j = ((64 + j : Nat) : Int) by omega]
  refine Eq.trans (full_r6 n hn (64 + j) (by omega) _ (64 + j) 1 n [] (by omega) (by omega) (by omega) (by simp)) ?_
  have hsz := ups_recs (64 + j) 1
  have hK : Kept (ups 1 64) := ⟨ups_good 64 1 (by omega) (by omega), ups_asc 64 1 0 (by omega), by rw [ups_len]; omega⟩
  have hscan : scan (recs (ups 1 (64 + j))) = (ups 1 64, 1024) := by
    rw [ups_split 64 j 1, recs_append]
    unfold scan
    rw [scanF_recs (ups 1 64) 64 0 _ hK.good hK.asc hK.len, ups_len, ups_recs]
    simp [scanF]
  have hlast : (ups 1 64).getLast? = some ⟨((1 + 63 : Nat) : Int), []⟩ := ups_last 63 1
  have happ : appendV (recs (ups 1 (64 + j))) ⟨((64 + j : Nat) : Int) + 1, []⟩ = ([], 7) := by
    have hv : vcheck ⟨((64 + j : Nat) : Int) + 1, []⟩ = 0 := vcheck_zero.2 ⟨by simp only; omega, by simp only; omega, by simp⟩
    unfold appendV
    rw [show encode ⟨((64 + j : Nat) : Int) + 1, []⟩ = (record ⟨((64 + j : Nat) : Int) + 1, []⟩, 0) by unfold encode; rw [if_pos hv], if_neg (by simp), hscan]
    unfold appR
    rw [if_neg (by simp only [lastNum, hlast, Option.map_some, Option.getD_some]; omega), if_pos (.inl (by simp only [ups_len]))]
  have hcomp : compactV (recs (ups 1 (64 + j))) 1 = (recs (ups 64 1), 0) := by
    unfold compactV
    rw [if_neg (by omega), hscan]
    simp only [keepN, ups_len]
    rw [show 64 - (1 : Int).toNat = 63 from rfl]
    have : ups 1 64 = ups 1 63 ++ ups 64 1 := ups_split 63 1 1
    rw [this, List.drop_left' (ups_len 63 1)]
  have hK1 : Kept (ups 64 1) := ⟨ups_good 1 64 (by omega) (by omega), ups_asc 1 64 0 (by omega), by rw [ups_len]; omega⟩
  have hlat : (scan (recs (ups 64 1))).1.getLast? = some ⟨64, []⟩ := by rw [hK1.scan]; rfl
  have e1 := appendA n hn (recs (ups 1 (64 + j))) (by omega) ⟨((64 + j : Nat) : Int) + 1, []⟩ (fun r0 r1 => some (r0, r1))
  simp only [happ] at e1
  have hsz1 := ups_recs 1 64
  simp -implicitDefEqProofs only [List.nil_append, scanA n hn (recs (ups 1 (64 + j))) (by omega), hscan, gb_some_eq, wrap64' (x := ((64 + j : Nat) : Int) + 1) (by omega) (by omega), e1, compactA n hn (recs (ups 1 (64 + j))) (by omega), hcomp, latestA n hn (recs (ups 64 1)) (by omega), hlat, getK, encV_len, ups_len]
  simp [gb_some_eq, pInt_i64, pStr_s]
end
end Go.Vx
/-
  DERIVED: THE SHELF's CONTRACTS AT THIS DUMP, IN PLAIN WORDS (tools/lay-plain.mjs out of 'TryShelf.lean', which tools/lay-shelf.mjs wrote): THE SAME DECLARATIONS UNDER THE SAME NAMES: 'import', 'namespace', 'open', 'def', 'theorem' AND NOTHING ELSE: no command of the shelf's: FOR A HAND-IN. Each laying: the table of numbers ('.._ren') and one theorem, a field a fact of the dump's own or the kernel's comparison; each contract: ONE APPLICATION.
-/
namespace Go.Proofs
open Go.Shelf
def Try.lays169_ren : Go.Shelf.Ren := ⟨fun | 169 => 40 | n => n, fun | 70 => 62 | 9 => 9 | 0 => 0 | 72 => 64 | 37 => 59 | 127 => 76 | 3 => 3 | 5 => 5 | n => n, fun | n => n⟩
theorem Try.lays169 : Go.Proofs.Lays.n169 Try.prog Try.lays169_ren := {
  mixed := by kernel_rfl
  f169 := Try.func40.trans (congrArg some (by kernel_rfl))
  t0 := Try.underlying0
  a0 := Try.isAgg0
  z0 := Try.sizeOf0
  v0 := Try.zeroValue0
  t3 := Try.underlying3
  a3 := Try.isAgg3
  z3 := Try.sizeOf3
  v3 := Try.zeroValue3
  t9 := Try.underlying9
  a9 := Try.isAgg9
  z9 := Try.sizeOf9
  v9 := Try.zeroValue9
  t37 := Try.underlying59
  a37 := Try.isAgg59
  z37 := Try.sizeOf59
  v37 := Try.zeroValue59
  t70 := Try.underlying62
  a70 := Try.isAgg62
  z70 := Try.sizeOf62
  v70 := Try.zeroValue62
  t72 := Try.underlying64
  a72 := Try.isAgg64
  z72 := Try.sizeOf64
  v72 := Try.zeroValue64
  t127 := Try.underlying76
  a127 := Try.isAgg76
  z127 := Try.sizeOf76
  v127 := Try.zeroValue76 }
theorem Try.Builder_Extra_169 : Builder.Extra Try.prog Try.lays169_ren := {
  sizeBuilder := by kernel_rfl
  liesBuilder := by kernel_rfl
  t5 := Try.underlying5
  a5 := Try.isAgg5
  z5 := Try.sizeOf5
  v5 := Try.zeroValue5
  infoByte := by kernel_rfl
  cellsByte := by kernel_rfl
  sizeByte := by kernel_rfl
  neB5 := by decide }
open Go.RowKit in
/-- (*strings.Builder).String: "String returns the accumulated string.": OF A BUILDER THAT HOLDS AT LEAST ONE BYTE. ✋ THE MODEL FREEZES THOSE BYTES IN THE BUFFER (unsafe.String): a later write INTO them ends the model's run without an answer; a later append BEHIND them goes on. The statement's order of evaluation is drawn: one draw. (LAID: no walk: one application.) -/
theorem Try.Builder_String (B b : Nat) (l : List UInt8) (w : World) (h : Lib.IsBuilder 64 5 B b (Lib.byteCells l) w) (h0 : l ≠ []) :
    Calls Try.prog 40 #[.pointer (some ⟨b, 0, none⟩)] w fun e w' => e = .returned (.string ⟨l.toArray⟩) ∧ Below B w w' := Any.Builder_String Try.lays169 Try.Builder_Extra_169 B b l w h h0
open Go.RowKit in
/-- (*strings.Builder).String OF A BUILDER THAT HOLDS NO BYTE: the empty string. (Its buffer is nil, or a row of which it has taken nothing yet; where that row has NO capacity the model lays one new block for unsafe.SliceData's 'some address'.) One draw. (LAID: no walk: one application.) -/
theorem Try.Builder_String_empty (B b : Nat) (w : World) (h : Lib.IsBuilder 64 5 B b [] w) (hBw : B ≤ w.heap.size) :
    Calls Try.prog 40 #[.pointer (some ⟨b, 0, none⟩)] w fun e w' => e = .returned (.string ⟨#[]⟩) ∧ Below B w w' := Any.Builder_String_empty Try.lays169 Try.Builder_Extra_169 B b w h hBw
open Go.RowKit in
/-- (*strings.Builder).String: "String returns the accumulated string.": WHATEVER THE BUILDER HOLDS. (LAID: no walk: one application.) -/
theorem Try.Builder_String_any (B b : Nat) (l : List UInt8) (w : World) (h : Lib.IsBuilder 64 5 B b (Lib.byteCells l) w) (hBw : B ≤ w.heap.size) :
    Calls Try.prog 40 #[.pointer (some ⟨b, 0, none⟩)] w fun e w' => e = .returned (.string ⟨l.toArray⟩) ∧ Below B w w' := Any.Builder_String_any Try.lays169 Try.Builder_Extra_169 B b l w h hBw
open Go.RowKit in
/-- (*strings.Builder).String: "String returns the accumulated string.": OF A BUILDER THAT HOLDS AT LEAST ONE BYTE. ✋ THE MODEL FREEZES THOSE BYTES IN THE BUFFER (unsafe.String): a later write INTO them ends the model's run without an answer; a later append BEHIND them goes on. The statement's order of evaluation is drawn: one draw. THE FORM '_f': IT SAYS BESIDES THAT THE BUILDER IS A BUILDER STILL ('Lib.IsBuilderF', the same bytes): SO IT CAN BE WRITTEN ON: 'b.WriteString(b.String()[:k])'. (LAID: no walk: one application.) -/
theorem Try.Builder_String_f (B b : Nat) (l : List UInt8) (w : World) (h : Lib.IsBuilderF 64 5 B b (Lib.byteCells l) w) (h0 : l ≠ []) :
    Calls Try.prog 40 #[.pointer (some ⟨b, 0, none⟩)] w fun e w' => e = .returned (.string ⟨l.toArray⟩) ∧ (Lib.IsBuilderF 64 5 B b (Lib.byteCells l) w' ∧ Below B w w') := Any.Builder_String_f Try.lays169 Try.Builder_Extra_169 B b l w h h0
open Go.RowKit in
/-- (*strings.Builder).String OF A BUILDER THAT HOLDS NO BYTE: the empty string; THE FORM '_f': a builder still. (LAID: no walk: one application.) -/
theorem Try.Builder_String_empty_f (B b : Nat) (w : World) (h : Lib.IsBuilderF 64 5 B b [] w) (hBw : B ≤ w.heap.size) :
    Calls Try.prog 40 #[.pointer (some ⟨b, 0, none⟩)] w fun e w' => e = .returned (.string ⟨#[]⟩) ∧ (Lib.IsBuilderF 64 5 B b [] w' ∧ Below B w w') := Any.Builder_String_empty_f Try.lays169 Try.Builder_Extra_169 B b w h hBw
open Go.RowKit in
/-- (*strings.Builder).String: "String returns the accumulated string.": WHATEVER THE BUILDER HOLDS; THE FORM '_f': OF A BUILDER THAT MAY HAVE BEEN READ BEFORE; AND IT IS A BUILDER STILL, holding the same bytes: it can be written on. (LAID: no walk: one application.) -/
theorem Try.Builder_String_any_f (B b : Nat) (l : List UInt8) (w : World) (h : Lib.IsBuilderF 64 5 B b (Lib.byteCells l) w) (hBw : B ≤ w.heap.size) :
    Calls Try.prog 40 #[.pointer (some ⟨b, 0, none⟩)] w fun e w' => e = .returned (.string ⟨l.toArray⟩) ∧ (Lib.IsBuilderF 64 5 B b (Lib.byteCells l) w' ∧ Below B w w') := Any.Builder_String_any_f Try.lays169 Try.Builder_Extra_169 B b l w h hBw
open Go.RowKit in
/-- (*strings.Builder).String: "String returns the accumulated string.": OF A BUILDER THAT HOLDS AT LEAST ONE BYTE. ✋ THE MODEL FREEZES THOSE BYTES IN THE BUFFER (unsafe.String): a later write INTO them ends the model's run without an answer; a later append BEHIND them goes on. The statement's order of evaluation is drawn: one draw. THE FORM '_k': OVER 'Lib.IsBuilderF' (a builder that 'String()' may have read), AND WITH THE FRAME THAT REACHES ABOVE THE BUILDER: 'Lib.OthersKept': every block that is not b and is no row of uint8's stands as it stood: the iterator of a range among them. (LAID: no walk: one application.) -/
theorem Try.Builder_String_k (B b : Nat) (l : List UInt8) (w : World) (h : Lib.IsBuilderF 64 5 B b (Lib.byteCells l) w) (h0 : l ≠ []) :
    Calls Try.prog 40 #[.pointer (some ⟨b, 0, none⟩)] w fun e w' => e = .returned (.string ⟨l.toArray⟩) ∧ (Lib.IsBuilderF 64 5 B b (Lib.byteCells l) w' ∧ Below B w w' ∧ Lib.OthersKept 5 (some b) w w') := Any.Builder_String_k Try.lays169 Try.Builder_Extra_169 B b l w h h0
open Go.RowKit in
/-- (*strings.Builder).String OF A BUILDER THAT HOLDS NO BYTE: the empty string; THE FORM '_k': OVER 'Lib.IsBuilderF' (a builder that 'String()' may have read), AND WITH THE FRAME THAT REACHES ABOVE THE BUILDER: 'Lib.OthersKept': every block that is not b and is no row of uint8's stands as it stood: the iterator of a range among them. (LAID: no walk: one application.) -/
theorem Try.Builder_String_empty_k (B b : Nat) (w : World) (h : Lib.IsBuilderF 64 5 B b [] w) (hBw : B ≤ w.heap.size) :
    Calls Try.prog 40 #[.pointer (some ⟨b, 0, none⟩)] w fun e w' => e = .returned (.string ⟨#[]⟩) ∧ (Lib.IsBuilderF 64 5 B b [] w' ∧ Below B w w' ∧ Lib.OthersKept 5 (some b) w w') := Any.Builder_String_empty_k Try.lays169 Try.Builder_Extra_169 B b w h hBw
open Go.RowKit in
/-- (*strings.Builder).String: "String returns the accumulated string.": WHATEVER THE BUILDER HOLDS; THE FORM '_k': OVER 'Lib.IsBuilderF' (a builder that 'String()' may have read), AND WITH THE FRAME THAT REACHES ABOVE THE BUILDER: 'Lib.OthersKept': every block that is not b and is no row of uint8's stands as it stood: the iterator of a range among them. (LAID: no walk: one application.) -/
theorem Try.Builder_String_any_k (B b : Nat) (l : List UInt8) (w : World) (h : Lib.IsBuilderF 64 5 B b (Lib.byteCells l) w) (hBw : B ≤ w.heap.size) :
    Calls Try.prog 40 #[.pointer (some ⟨b, 0, none⟩)] w fun e w' => e = .returned (.string ⟨l.toArray⟩) ∧ (Lib.IsBuilderF 64 5 B b (Lib.byteCells l) w' ∧ Below B w w' ∧ Lib.OthersKept 5 (some b) w w') := Any.Builder_String_any_k Try.lays169 Try.Builder_Extra_169 B b l w h hBw
def Try.laysM316_ren : Go.Shelf.Ren := ⟨fun | 316 => 47 | n => n, fun | 9 => 9 | 3 => 3 | 4 => 4 | 37 => 59 | 0 => 0 | 127 => 76 | 5 => 5 | n => n, fun | n => n⟩
theorem Try.laysM316 : Go.Proofs.LaysM.n316 Try.prog Try.laysM316_ren := {
  mixed := by kernel_rfl
  f316 := Try.func47.trans (congrArg some (by kernel_rfl))
  t0 := Try.underlying0
  a0 := Try.isAgg0
  z0 := Try.sizeOf0
  v0 := Try.zeroValue0
  t3 := Try.underlying3
  a3 := Try.isAgg3
  z3 := Try.sizeOf3
  v3 := Try.zeroValue3
  t4 := Try.underlying4
  a4 := Try.isAgg4
  z4 := Try.sizeOf4
  v4 := Try.zeroValue4
  t9 := Try.underlying9
  a9 := Try.isAgg9
  z9 := Try.sizeOf9
  v9 := Try.zeroValue9
  t37 := Try.underlying59
  a37 := Try.isAgg59
  z37 := Try.sizeOf59
  v37 := Try.zeroValue59
  t127 := Try.underlying76
  a127 := Try.isAgg76
  z127 := Try.sizeOf76
  v127 := Try.zeroValue76
  t5 := Try.underlying5
  a5 := Try.isAgg5
  z5 := Try.sizeOf5
  v5 := Try.zeroValue5
  i0 := by kernel_rfl
  i3 := by kernel_rfl
  i4 := by kernel_rfl
  i5 := by kernel_rfl
  i9 := by kernel_rfl
  i37 := by kernel_rfl
  i127 := by kernel_rfl }
open Go.RowKit in
/-- internal/stringslite.Clone (what strings.Clone calls): "Clone returns a fresh copy of s.": THE SAME BYTES. Of what was there nothing has turned (a new row is laid, and frozen, where s is not empty). (LAID: no walk: one application.) -/
theorem Try.stringslite_Clone (s : ByteArray) (w : World) (hlim : s.size ≤ 281474976710656) :
    Calls Try.prog 47 #[.string s] w fun e w' => e = .returned (.string s) ∧ Below w.heap.size w w' := Any.stringslite_Clone Try.laysM316 s w hlim
end Go.Proofs
/-
  strings.Builder in this program: what copyCheck, WriteString and String do, with an exact frame.
-/
set_option linter.unusedVariables false
namespace Go.Proofs
open Go.RowKit Go.Vx

set_option maxHeartbeats 1000000 in
set_option maxRecDepth 100000 in
theorem Try.bld_used (b : Nat) (w : World) (h0 : w.cell? ⟨b, 0, none⟩ = some (.pointer (some ⟨b, 0, none⟩))) :
    Calls Try.prog 45 #[.pointer (some ⟨b, 0, none⟩)] w fun e w' => e = .returned (.tuple #[]) ∧ w' = w := by
  obtain ⟨j, hj, _⟩ := Option.map_eq_some_iff.1 (show (Try.prog.info? 64).map (·.size) = some 2 by kernel_rfl)
  go_enter Try.func45, Try.ntmps45
  go_wp2
  rw [Lib.run_neq_ptr_same w _ Try.underlying62 hj]
  go_wp2
  go_end0
  exact ⟨rfl, rfl⟩

set_option maxHeartbeats 1000000 in
set_option maxRecDepth 100000 in
theorem Try.bld_fresh (b : Nat) (w : World) (h0 : w.cell? ⟨b, 0, none⟩ = some (.pointer none)) (hsh : w.shape? b = some (64, 2)) (hfz : w.frozen? ⟨b, 0, none⟩ = false) :
    Calls Try.prog 45 #[.pointer (some ⟨b, 0, none⟩)] w fun e w' => e = .returned (.tuple #[]) ∧ w' = w.setCell ⟨b, 0, none⟩ (.pointer (some ⟨b, 0, none⟩)) := by
  obtain ⟨j, hj, hjs⟩ := Option.map_eq_some_iff.1 (show (Try.prog.info? 64).map (·.size) = some 2 by kernel_rfl)
  go_enter Try.func45, Try.ntmps45
  go_wp2
  rw [Lib.run_to_unsafe w ⟨b, 0, none⟩ Try.underlying62 Try.underlying77 hj (by rw [hjs]; decide) hsh (Nat.zero_lt_succ 1)]
  simp only [Result.andThen]
  rw [Oper.upon_value]
  go_wp2
  rw [run_callFunc_extern Try.func48 (by kernel_rfl) (by kernel_rfl) (by kernel_rfl) (e := Extern.AbiNoEscape.same) (by kernel_rfl)]
  rw [Lib.run_noEscape]
  simp only [Result.andThen]
  rw [Oper.upon_value]
  go_wp2
  rw [Lib.run_from_unsafe w ⟨b, 0, none⟩ Try.underlying77 Try.underlying62 hj hsh (by kernel_rfl)]
  simp only [Result.andThen]
  rw [Oper.upon_value]
  go_wp2
  go_end0
  exact ⟨rfl, rfl⟩

section
variable {P : Program} (w : World)
theorem bld_append (t u ty e : TypeId) (i : TypeInfo) (ht : P.underlying t = some (.slice e)) (hu : P.underlying u = some .string) (hi : P.info? e = some i) (hz : i.zero = some (.int .u8 0))
    (hsize : i.size = 1) (hby : i.bytes = 1) (v : Value) (n : Nat) (xs : List Value) (hown : w.ownsRow 0 e 1 v n xs) (s : ByteArray) (hbytes : n + s.size ≤ 140737488355328) :
    ∃ v' w', (Builtin.append_ #[t, u] ty #[v, .string s]).run P w = .ok v' w' ∧ w'.ownsRow 0 e 1 v' (n + s.size) (xs ++ Lib.strCells s) ∧ w.grownBy w' v.ownBlock ∧
      (v'.ownBlock = v.ownBlock ∨ v'.ownBlock = some w.heap.size) := by
  have h63 : n + s.size ≤ maxLen := by unfold maxLen; omega
  have hsmall : n + s.size ≤ 9223372036854775807 := by omega
  obtain ⟨v', w', hr, h2, h3, h4⟩ := Lib.run_append_own_string (P := P) w 0 t u ty e i ht hu hi hz hsize hby v n xs hown s h63 hbytes (Nat.zero_le _)
  refine ⟨v', w', hr, h2, h3, ?_⟩
  have hxl : xs.length = n := by simpa using hown.1
  rcases hown.2 with ⟨rfl, rfl⟩ | ⟨g, cap, cur, rfl, hbg, hg, hnc, hcm, hcs, htake⟩
  · by_cases hm : s.size = 0
    · rw [h4.2 ⟨rfl, hm⟩]; exact .inl rfl
    · have hq := run_append_nil_string (P := P) w t u ty e i (.int .u8 0) ht hu hi hz s (by omega) (by omega) (by rw [hby]; omega)
      rw [hq] at hr
      injection hr with e1 e2
      subst e1
      exact .inr rfl
  · by_cases hroom : n + s.size ≤ cap
    · have hcs' : cur.size = cap := by simpa using hcs
      have hq := Lib.run_append_room_string (P := P) w t u ty e i ht hu hi hsize g n cap cur hg s hroom (by omega)
      rw [hq] at hr
      injection hr with e1 e2
      subst e1
      exact .inl rfl
    · have holds : ∀ j u, xs[j]? = some u → w.cell? ((⟨g, 0, none⟩ : Addr).add j) = some u := hown.cells (g := g) rfl
      have hq := Lib.run_append_grow_string (P := P) w t u ty e i (.int .u8 0) ht hu hi hz ⟨g, 0, none⟩ n cap xs (by rw [hsize]; simpa using hxl) holds s (by omega) (by omega) (by rw [hby]; exact growslice_fits (by omega) (by omega))
      rw [hq] at hr
      injection hr with e1 e2
      subst e1
      exact .inr rfl

theorem bld_wp {ops : Array Oper} {rest : List Oper} {o : Oper} {a : Act} {Q : Exit → Act → World → Prop} (hgd : o.guard = none) (sl x : Operand) (t u : TypeId)
    (ho : o.op = .call { callee := .builtin .append, args := #[sl, x], argTypes := #[t, u] })
    (e : TypeId) (i : TypeInfo) (ht : P.underlying t = some (.slice e)) (hu : P.underlying u = some .string) (hi : P.info? e = some i) (hz : i.zero = some (.int .u8 0))
    (hsize : i.size = 1) (hby : i.bytes = 1)
    (v : Value) (n : Nat) (xs : List Value) (hs : a.eval sl = v) (hown : w.ownsRow 0 e 1 v n xs) (s : ByteArray) (hx : a.eval x = .string s)
    (hbytes : n + s.size ≤ 140737488355328)
    (h : ∀ v' w', w'.ownsRow 0 e 1 v' (n + s.size) (xs ++ Lib.strCells s) → w.grownBy w' v.ownBlock → (v'.ownBlock = v.ownBlock ∨ v'.ownBlock = some w.heap.size) → wpList P ops Q rest (a.put o.dst v') w') : wpList P ops Q (o :: rest) a w := by
  refine wpList_plain hgd fun K hK => ?_
  obtain ⟨v', w', hr, h2, h3, h4⟩ := bld_append (P := P) w t u o.type e i ht hu hi hz hsize hby v n xs hown s hbytes
  unfold Oper.wp execOp
  simp only [ho, resolve, invoke, builtin, Sem.run_bind, Sem.run_pure, Result.andThen_ok, List.map_toArray, List.map_cons, List.map_nil, hs, hx, hr]
  exact hK _ _ (h v' w' h2 h3 h4)
end

theorem bld_set {w : World} {b i : Nat} {cs : Array Value} {T : TypeId} {fz : Nat × Nat} (hb : w.heap[b]? = some (.cells cs T fz)) (v : Value) : (w.setCell ⟨b, i, none⟩ v).heap[b]? = some (.cells (cs.setIfInBounds i v) T fz) := by
  obtain ⟨hlt, hb'⟩ := Array.getElem?_eq_some_iff.1 hb
  simp [World.setCell, hlt, Array.getElem_modify, hb']

theorem bld_shape {w : World} {b : Nat} {cs : Array Value} {T : TypeId} {fz : Nat × Nat} (hb : w.heap[b]? = some (.cells cs T fz)) : w.shape? b = some (T, cs.size) := by
  simp [World.shape?, hb]

theorem bld_unfz {w : World} {b j : Nat} {cs : Array Value} {T : TypeId} {fz : Nat × Nat} (hb : w.heap[b]? = some (.cells cs T fz)) (h : ¬ (fz.1 ≤ j ∧ j < fz.2)) : w.frozen? ⟨b, j, none⟩ = false := by
  simp [World.frozen?, hb]
  omega

theorem Try.bld_copy (b : Nat) (p v : Value) (fz : Nat × Nat) (w : World) (hbk : w.heap[b]? = some (.cells #[p, v] 64 fz)) (hu : ¬ (fz.1 ≤ 0 ∧ 0 < fz.2)) (hp : p = .pointer none ∨ p = .pointer (some ⟨b, 0, none⟩)) :
    Calls Try.prog 45 #[.pointer (some ⟨b, 0, none⟩)] w fun e w' => e = .returned (.tuple #[]) ∧ w'.heap[b]? = some (.cells #[.pointer (some ⟨b, 0, none⟩), v] 64 fz) ∧ w'.heap.size = w.heap.size ∧ BFr b none w w' := by
  rcases hp with rfl | rfl
  · refine (Try.bld_fresh b w (by rw [Lib.cell_of_heap hbk]; rfl) (bld_shape hbk) (bld_unfz hbk hu)).mono ?_
    rintro e w' ⟨rfl, rfl⟩
    exact ⟨rfl, bld_set hbk _, by simp [World.setCell], ⟨rfl, rfl, rfl, by simp [World.setCell], fun k _ hk _ => Below.heap_setCell _ _ _ k hk⟩⟩
  · refine (Try.bld_used b w (by rw [Lib.cell_of_heap hbk]; rfl)).mono ?_
    rintro e w' ⟨rfl, rfl⟩
    exact ⟨rfl, hbk, rfl, ⟨rfl, rfl, rfl, Nat.le_refl _, fun _ _ _ _ => rfl⟩⟩

theorem bld_ownsRow {w w' : World} {e : TypeId} {v : Value} {n : Nat} {xs : List Value} {b : Nat} (h : w.ownsRow 0 e 1 v n xs) (hne : v.ownBlock ≠ some b) (hf : BFr b none w w') : w'.ownsRow 0 e 1 v n xs := by
  refine ⟨h.1, h.2.imp id fun ⟨g, cap, cur, hv, h0, hg, r⟩ => ⟨g, cap, cur, hv, h0, ?_, r⟩⟩
  have hlt : g < w.heap.size := (Array.getElem?_eq_some_iff.1 hg).1
  rw [hf.block g hlt (fun e1 => hne (by rw [hv, e1]; rfl)) (by simp)]
  exact hg

set_option maxHeartbeats 2000000 in
set_option maxRecDepth 100000 in
theorem Try.bld_write (b : Nat) (p v : Value) (fz : Nat × Nat) (bs : List Value) (s : ByteArray) (w : World) (hbk : w.heap[b]? = some (.cells #[p, v] 64 fz)) (hu : ¬ (fz.1 ≤ 0 ∧ 0 < fz.2)) (hu1 : ¬ (fz.1 ≤ 1 ∧ 1 < fz.2))
    (hp : p = .pointer none ∨ p = .pointer (some ⟨b, 0, none⟩)) (hown : w.ownsRow 0 5 1 v bs.length bs) (hne : v.ownBlock ≠ some b) (hlen : bs.length + s.size ≤ 140737488355328) :
    Calls Try.prog 39 #[.pointer (some ⟨b, 0, none⟩), .string s] w fun e w' => e = .returned (.tuple #[.int .i64 s.size, .nilIface]) ∧
      ∃ v', w'.heap[b]? = some (.cells #[.pointer (some ⟨b, 0, none⟩), v'] 64 fz) ∧ w'.ownsRow 0 5 1 v' (bs.length + s.size) (bs ++ Lib.strCells s) ∧ (v'.ownBlock = v.ownBlock ∨ v'.ownBlock = some w.heap.size) ∧ BFr b v.ownBlock w w' := by
  obtain ⟨i0, hi, hz0, hz1, hz2⟩ := info_parts (show (Try.prog.info? 5).map (fun i => (i.zero, i.size, i.bytes)) = some (some (.int .u8 0), 1, 1) by kernel_rfl)
  go_enter Try.func39, Try.ntmps39
  go_wp2_with (go_at_call 45; refine (Try.bld_copy b p v fz _ hbk hu hp).mono ?_)
  rintro e w1 ⟨rfl, hbk1, hsz, hf1⟩
  have c0 : w1.cell? ⟨b, 0, none⟩ = some (.pointer (some ⟨b, 0, none⟩)) := by rw [Lib.cell_of_heap hbk1]; rfl
  have c1 : w1.cell? ⟨b, 1, none⟩ = some v := by rw [Lib.cell_of_heap hbk1]; rfl
  have hown1 := bld_ownsRow hown hne hf1
  go_wp2_with (at_builtin; refine bld_wp _ rfl _ _ 59 9 rfl 5 i0 Try.underlying59 Try.underlying9 hi hz0 hz1 hz2 _ _ _ rfl hown1 s rfl hlen ?_)
  intro v' w2 hown' hgrow hat
  have hlt : b < w1.heap.size := (Array.getElem?_eq_some_iff.1 hbk1).1
  have hb2 : w2.heap[b]? = some (.cells #[.pointer (some ⟨b, 0, none⟩), v] 64 fz) := by
    rw [hgrow.block b hlt (fun e => hne e.symm)]
    exact hbk1
  have d0 : w2.cell? ⟨b, 0, none⟩ = some (.pointer (some ⟨b, 0, none⟩)) := by rw [Lib.cell_of_heap hb2]; rfl
  have d1 : w2.cell? ⟨b, 1, none⟩ = some v := by rw [Lib.cell_of_heap hb2]; rfl
  have f1 : w2.frozen? ⟨b, 1, none⟩ = false := bld_unfz hb2 hu1
  have hne' : v'.ownBlock ≠ some b := by
    rcases hat with h | h
    · rw [h]; exact hne
    · rw [h]; intro e; injection e with e; omega
  obtain ⟨ao, n', cap, rfl⟩ : ∃ ao n' cap, v' = .slice ao n' cap := by
    rcases hown'.2 with ⟨hv, _⟩ | ⟨g, cap, cur, hv, _⟩
    · exact ⟨_, _, _, hv⟩
    · exact ⟨_, _, _, hv⟩
  go_wp2
  go_ret2
  refine ⟨rfl, _, bld_set hb2 _, ?_, hsz ▸ hat, ?_⟩
  · exact bld_ownsRow hown' hne' ⟨rfl, rfl, rfl, by simp [World.setCell], fun k _ hk _ => Below.heap_setCell _ _ _ k hk⟩
  · refine ⟨hgrow.os.trans hf1.os, hgrow.tape.trans hf1.tape, hgrow.output.trans hf1.output, ?_, fun k hk h1 h2 => ?_⟩
    · have := hgrow.size; simp [World.setCell]; omega
    · rw [Below.heap_setCell _ _ _ k h1, hgrow.block k (by omega) h2, hf1.block k hk h1 (by simp)]

set_option maxHeartbeats 1000000 in
set_option maxRecDepth 100000 in
theorem Try.bld_string (b : Nat) (p v : Value) (fz : Nat × Nat) (l : List UInt8) (w : World) (hbk : w.heap[b]? = some (.cells #[p, v] 64 fz)) (hown : w.ownsRow 0 5 1 v l.length (Lib.byteCells l)) (h0 : l ≠ []) :
    Calls Try.prog 40 #[.pointer (some ⟨b, 0, none⟩)] w fun e w' => e = .returned (.string ⟨l.toArray⟩) ∧ ∃ g, v.ownBlock = some g ∧ w' = w.drew.freeze ⟨g, 0, none⟩ l.length := by
  have hl0 : l.length ≠ 0 := by simpa using h0
  obtain ⟨g, cap, cur, rfl, hbg, hg, hnc, hcm, hcs, htake⟩ : ∃ g cap cur, v = .slice (some ⟨g, 0, none⟩) l.length cap ∧ 0 ≤ g ∧ w.heap[g]? = some (.cells cur 5 (0, 0)) ∧ l.length ≤ cap ∧ cap ≤ maxLen ∧ cur.size = cap * 1 ∧ cur.toList.take (l.length * 1) = Lib.byteCells l := by
    rcases hown.2 with ⟨_, hz⟩ | ⟨g, cap, cur, hv, r⟩
    · exact absurd hz hl0
    · exact ⟨g, cap, cur, hv, r⟩
  have c1 : w.drew.cell? ⟨b, 1, none⟩ = some (.slice (some ⟨g, 0, none⟩) l.length cap) := by
    have : w.drew.heap[b]? = some (.cells #[p, .slice (some ⟨g, 0, none⟩) l.length cap] 64 fz) := hbk
    rw [Lib.cell_of_heap this]; rfl
  have hSD : (Builtin.unsafeSliceData_ #[59] 76 #[.slice (some ⟨g, 0, none⟩) l.length cap]).run Try.prog w.drew = .ok (.pointer (some ⟨g, 0, none⟩)) w.drew :=
    Lib.run_unsafeSliceData_row _ _ _ _ _ _ (by omega)
  have hUS : (Builtin.unsafeString_ #[76, 3] 9 #[.pointer (some ⟨g, 0, none⟩), .int .i64 l.length]).run Try.prog w.drew = .ok (.string ⟨l.toArray⟩) (w.drew.freeze ⟨g, 0, none⟩ l.length) := by
    refine Lib.run_unsafeString_row w.drew 76 3 9 5 Try.underlying76 (by kernel_rfl) g cur.size (by have hg' : w.drew.heap[g]? = some (.cells cur 5 (0, 0)) := hg; simp [World.shape?, hg']) l h0 (by omega) (by unfold maxLen at hcm; omega) ?_
    intro j x hx
    have := hown.cells (g := g) rfl j (.int .u8 x.toNat) (by simp [Lib.byteCells, hx])
    exact this
  have mixed : Try.prog.follows .mixedOrders = true := by kernel_rfl
  go_enter Try.func40, Try.ntmps40
  go_wp2
  go_region_o
  all_goals (go_wp2; go_ret; exact ⟨rfl, g, rfl, rfl⟩)

set_option maxHeartbeats 2000000 in
set_option maxRecDepth 100000 in
theorem Try.bld_string_nil (b : Nat) (p : Value) (fz : Nat × Nat) (w : World) (hbk : w.heap[b]? = some (.cells #[p, .slice none 0 0] 64 fz)) :
    Calls Try.prog 40 #[.pointer (some ⟨b, 0, none⟩)] w fun e w' => e = .returned (.string ⟨#[]⟩) ∧ w' = w.drew := by
  have hUS : ∀ (W : World) (q : Option Addr), (Builtin.unsafeString_ #[76, 3] 9 #[.pointer q, .int .i64 0]).run Try.prog W = .ok (.string .empty) W := fun W q => Lib.run_unsafeString_none W _ _ _ q
  have c1 : w.drew.cell? ⟨b, 1, none⟩ = some (.slice none 0 0) := by
    have : w.drew.heap[b]? = some (.cells #[p, .slice none 0 0] 64 fz) := hbk
    rw [Lib.cell_of_heap this]; rfl
  have hSD : (Builtin.unsafeSliceData_ #[59] 76 #[.slice none 0 0]).run Try.prog w.drew = .ok (.pointer none) w.drew := rfl
  have mixed : Try.prog.follows .mixedOrders = true := by kernel_rfl
  go_enter Try.func40, Try.ntmps40
  go_wp2
  go_region_o
  all_goals (go_wp2; go_ret; exact ⟨rfl, rfl⟩)

set_option maxHeartbeats 2000000 in
set_option maxRecDepth 100000 in
theorem Try.bld_string_noroom (b g : Nat) (p : Value) (fz : Nat × Nat) (cur : Array Value) (w : World) (hbk : w.heap[b]? = some (.cells #[p, .slice (some ⟨g, 0, none⟩) 0 0] 64 fz)) (hg : w.heap[g]? = some (.cells cur 5 (0, 0))) :
    Calls Try.prog 40 #[.pointer (some ⟨b, 0, none⟩)] w fun e w' => e = .returned (.string ⟨#[]⟩) ∧ w' = w.drew.alloc (.view ⟨g, 0, none⟩ 5) := by
  have hUS : ∀ (W : World) (q : Option Addr), (Builtin.unsafeString_ #[76, 3] 9 #[.pointer q, .int .i64 0]).run Try.prog W = .ok (.string .empty) W := fun W q => Lib.run_unsafeString_none W _ _ _ q
  have hlt : b < w.heap.size := (Array.getElem?_eq_some_iff.1 hbk).1
  have c1 : w.drew.cell? ⟨b, 1, none⟩ = some (.slice (some ⟨g, 0, none⟩) 0 0) := by
    have : w.drew.heap[b]? = some (.cells #[p, .slice (some ⟨g, 0, none⟩) 0 0] 64 fz) := hbk
    rw [Lib.cell_of_heap this]; rfl
  have hSD : (Builtin.unsafeSliceData_ #[59] 76 #[.slice (some ⟨g, 0, none⟩) 0 0]).run Try.prog w.drew = .ok (.pointer (some ⟨w.drew.heap.size, 0, none⟩)) (w.drew.alloc (.view ⟨g, 0, none⟩ 5)) :=
    Lib.run_unsafeSliceData_zero w.drew _ _ 5 Try.underlying76 ⟨g, 0, none⟩ 0 (5, cur.size) (by have hg' : w.drew.heap[g]? = some (.cells cur 5 (0, 0)) := hg; simp [World.shape?, hg'])
  have c2 : (w.drew.alloc (.view ⟨g, 0, none⟩ 5)).cell? ⟨b, 1, none⟩ = some (.slice (some ⟨g, 0, none⟩) 0 0) := by
    have : (w.drew.alloc (.view ⟨g, 0, none⟩ 5)).heap[b]? = _ := (Lib.alloc_old w.drew _ b hlt).trans hbk
    rw [Lib.cell_of_heap this]; rfl
  have c3 : (w.alloc (.view ⟨g, 0, none⟩ 5)).drew.cell? ⟨b, 1, none⟩ = some (.slice (some ⟨g, 0, none⟩) 0 0) := c2
  have c0 : w.cell? ⟨b, 1, none⟩ = some (.slice (some ⟨g, 0, none⟩) 0 0) := c1
  have mixed : Try.prog.follows .mixedOrders = true := by kernel_rfl
  go_enter Try.func40, Try.ntmps40
  go_wp2
  go_region_o
  all_goals (go_wp2; go_ret; exact ⟨rfl, rfl⟩)

set_option maxHeartbeats 2000000 in
set_option maxRecDepth 100000 in
theorem Try.bld_string_room (b g cap : Nat) (p : Value) (fz : Nat × Nat) (w : World) (hc0 : cap ≠ 0) (hbk : w.heap[b]? = some (.cells #[p, .slice (some ⟨g, 0, none⟩) 0 cap] 64 fz)) :
    Calls Try.prog 40 #[.pointer (some ⟨b, 0, none⟩)] w fun e w' => e = .returned (.string ⟨#[]⟩) ∧ w' = w.drew := by
  have hUS : ∀ (W : World) (q : Option Addr), (Builtin.unsafeString_ #[76, 3] 9 #[.pointer q, .int .i64 0]).run Try.prog W = .ok (.string .empty) W := fun W q => Lib.run_unsafeString_none W _ _ _ q
  have c1 : w.drew.cell? ⟨b, 1, none⟩ = some (.slice (some ⟨g, 0, none⟩) 0 cap) := by
    have : w.drew.heap[b]? = some (.cells #[p, .slice (some ⟨g, 0, none⟩) 0 cap] 64 fz) := hbk
    rw [Lib.cell_of_heap this]; rfl
  have hSD : (Builtin.unsafeSliceData_ #[59] 76 #[.slice (some ⟨g, 0, none⟩) 0 cap]).run Try.prog w.drew = .ok (.pointer (some ⟨g, 0, none⟩)) w.drew :=
    Lib.run_unsafeSliceData_row _ _ _ _ _ _ hc0
  clear hc0
  have mixed : Try.prog.follows .mixedOrders = true := by kernel_rfl
  go_enter Try.func40, Try.ntmps40
  go_wp2
  go_region_o
  all_goals (go_wp2; go_ret; exact ⟨rfl, rfl⟩)

theorem bld_freeze {w : World} {p : Addr} {n k : Nat} (h : k ≠ p.block) : (w.freeze p n).heap[k]? = w.heap[k]? := by
  unfold World.freeze
  split
  · rfl
  · simp only [Array.getElem?_modify]
    rw [if_neg (fun e => h e.symm)]

theorem Try.bld_write_walk : WalkWrite Try.prog 39 64 := fun b p v fz bs s w hbk hu hp hown hne hlen =>
  Try.bld_write b p v fz bs s w hbk (hu 0 (by omega)) (hu 1 (by omega)) hp hown hne hlen

theorem Try.bld_string_walk : WalkString Try.prog 40 64 := by
  intro b p v fz s w hbk hown hne
  have hlt : b < w.heap.size := (Array.getElem?_eq_some_iff.1 hbk).1
  cases s with
  | nil =>
    rcases hown.2 with ⟨rfl, _⟩ | ⟨g, cap, cur, rfl, _, hg, _, _, _, _⟩
    · refine (Try.bld_string_nil b p fz w hbk).mono ?_
      rintro e w' ⟨rfl, rfl⟩
      exact ⟨rfl, rfl, ⟨rfl, rfl, rfl, Nat.le_refl _, fun _ _ _ _ => rfl⟩⟩
    · by_cases hc0 : cap = 0
      · subst hc0
        refine (Try.bld_string_noroom b g p fz cur w hbk hg).mono ?_
        rintro e w' ⟨rfl, rfl⟩
        exact ⟨rfl, Lib.alloc_old w.drew _ b hlt, ⟨rfl, rfl, rfl, by simp, fun k hk _ _ => Lib.alloc_old w.drew _ k hk⟩⟩
      · refine (Try.bld_string_room b g cap p fz w hc0 hbk).mono ?_
        rintro e w' ⟨rfl, rfl⟩
        exact ⟨rfl, rfl, ⟨rfl, rfl, rfl, Nat.le_refl _, fun _ _ _ _ => rfl⟩⟩
  | cons x r =>
    refine (Try.bld_string b p v fz (x :: r) w hbk hown (by simp)).mono ?_
    rintro e w' ⟨rfl, g, hg, rfl⟩
    have hgb : b ≠ g := fun e => hne (by rw [hg, e])
    exact ⟨rfl, bld_freeze hgb, ⟨rfl, rfl, rfl, by unfold World.freeze; split <;> simp, fun k _ _ h2 => bld_freeze (fun e => h2 (by rw [hg]; exact congrArg some e))⟩⟩
end Go.Proofs
