/- Part of a proof: texts VxPlain NetA PlMod NetB PlKeep NetC NetD NetE. No conditions of their own. -/
import Derived.Test.YtpaalnanfaipjaaGVB
import Derived.IntWalk
import Derived.Test.YtpaalnanfaipjaaGFA
/-
  Plain lemmas for pure functions: guards, rows, integers, lists.
-/
namespace Go.Vx
section
variable {R : Type}

def i64 (x : Int) : Prop := -9223372036854775808 ≤ x ∧ x ≤ 9223372036854775807

theorem wrap64 {x : Int} (h : i64 x) : IntKind.wrap .i64 x = x := IntWalk.i64_in x h
theorem wrap64' {x : Int} (h1 : -9223372036854775808 ≤ x) (h2 : x ≤ 9223372036854775807) : IntKind.wrap .i64 x = x := IntWalk.i64_in x ⟨h1, h2⟩
theorem wf64 {n : Int} (h : (Lit.int .i64 n).wf = true) : i64 n := by
  simpa [Lit.wf, IntKind.min, IntKind.max, IntKind.signed, IntKind.bits, i64] using h

theorem pInt_int (k : IntKind) (n : Int) : pInt k (.int k n) = some n := by simp [pInt]
theorem pInt_i64 (n : Int) : pInt .i64 (.int .i64 n) = some n := rfl
theorem pInt_u8 (n : Int) : pInt .u8 (.int .u8 n) = some n := rfl
theorem pBool_b (b : Bool) : pBool (.bool b) = some b := rfl
theorem pStr_s (s : List UInt8) : pStr (.str s) = some s := rfl
theorem pSl_s (k : Nat) (l : List (List D)) : pSl k (.sl k l) = some l := by simp [pSl]

theorem rowAt_map {α : Type} (f : α → List D) (l : List α) (i : Nat) : rowAt (l.map f) (i : Int) = (l[i]?).map f := by
  simp [rowAt]
theorem rowAt_get {α : Type} {f : α → List D} {l : List α} {i : Nat} {a : α} (h : l[i]? = some a) : rowAt (l.map f) (i : Int) = some (f a) := by rw [rowAt_map, h]; rfl
theorem rowAt_int {α : Type} {f : α → List D} {l : List α} {i : Int} (h0 : 0 ≤ i) {a : α} (h : l[i.toNat]? = some a) : rowAt (l.map f) i = some (f a) := by
  have : i = (i.toNat : Int) := by omega
  rw [this, rowAt_get h]

theorem room_ok {n : Nat} (h : n ≤ 140737488355328) : room n = some () := by
  unfold room; rw [Nat.ble_eq_true_of_le h]; rfl
theorem nz_ok {b : Int} (h : b ≠ 0) : nz b = some () := by
  have : (b == 0) = false := by simpa using h
  unfold nz; rw [this]; rfl
theorem inB_ok {len : Nat} {n : Int} (h0 : 0 ≤ n) (h : n < len) : inB len n = some () := by
  unfold inB; simp [h0, h]

theorem drop_cons {α : Type} {l : List α} {i : Nat} {a : α} {r : List α} (h : l.drop i = a :: r) : l[i]? = some a ∧ l.drop (i + 1) = r ∧ i < l.length := by
  have h1 : (l.drop i)[0]? = some a := by rw [h]; rfl
  rw [List.getElem?_drop] at h1
  refine ⟨by simpa using h1, by rw [← List.drop_drop, h]; rfl, ?_⟩
  have := (List.getElem?_eq_some_iff.1 h1).1
  omega
theorem drop_nil {α : Type} {l : List α} {i : Nat} (h : l.drop i = []) : l.length ≤ i := List.drop_eq_nil_iff.1 h

theorem bif_or (a b : Bool) (x y : Option R) : (bif a then x else bif b then x else y) = bif a || b then x else y := by cases a <;> rfl
theorem bif_ite (a : Bool) (x y : Option R) : (bif a then x else y) = if a = true then x else y := by cases a <;> rfl
theorem bif_pos {c : Bool} (h : c = true) (x y : R) : (bif c then x else y) = x := by rw [h]; rfl
theorem bif_neg {c : Bool} (h : c = false) (x y : R) : (bif c then x else y) = y := by rw [h]; rfl

theorem bif_flip {B c : Bool} (h : B = !c) (x y : R) : (bif B then x else y) = bif c then y else x := by subst h; cases c <;> rfl
theorem bif_same {B c : Bool} (h : B = c) (x y : R) : (bif B then x else y) = bif c then x else y := by subst h; rfl

/-- Slices of integers. -/
def encI (l : List Int) : List (List D) := l.map fun n => [D.int .i64 n]
theorem encI_length (l : List Int) : (encI l).length = l.length := by simp [encI]
theorem encI_get {l : List Int} {i : Nat} {a : Int} (h : l[i]? = some a) : rowAt (encI l) (i : Int) = some [.int .i64 a] := rowAt_get h

theorem fit_ints {rows : List (List D)} (h : Fit (.sl [.int .i64]) (.sl 1 rows)) : ∃ l : List Int, rows = encI l ∧ (∀ n ∈ l, i64 n) ∧ l.length ≤ maxLen := by
  cases h with
  | sl _ _ hm hl hr =>
    have h1 : ∀ i, i < rows.length → ∃ n : Int, rows[i]? = some [.int .i64 n] ∧ i64 n := by
      intro i hi
      have hri := List.getElem?_eq_getElem hi
      have hlen := hl i _ hri
      obtain ⟨x, hx⟩ : ∃ x, rows[i] = [x] := by
        match hq : rows[i], hlen with
        | [x], _ => exact ⟨x, rfl⟩
      have hf := hr i 0 _ (.int .i64) x hri rfl (by rw [hx]; rfl)
      cases hf with
      | int _ n hw => exact ⟨n, by rw [hri, hx], wf64 hw⟩
    obtain ⟨l, e1, e2⟩ := ex_list rows.length h1
    refine ⟨l, ?_, fun n hn => ?_, by omega⟩
    · refine List.ext_getElem? fun i => ?_
      rcases Nat.lt_or_ge i l.length with hi | hi
      · have := (e2 i _ (List.getElem?_eq_getElem hi)).1
        rw [this]
        simp [encI, hi]
      · rw [List.getElem?_eq_none (by omega), List.getElem?_eq_none (by simpa [encI] using hi)]
    · obtain ⟨i, hi⟩ := List.getElem?_of_mem hn
      exact (e2 i _ hi).2

theorem fit_sl {row : List Sh} {x : D} (h : Fit (.sl row) x) : ∃ rows, x = .sl row.length rows := by
  cases h with
  | sl _ rows _ _ _ => exact ⟨rows, rfl⟩
theorem fit_int {k : IntKind} {x : D} (h : Fit (.int k) x) : ∃ n, x = .int k n ∧ (Lit.int k n).wf = true := by
  cases h with
  | int _ n h => exact ⟨n, rfl, h⟩
theorem fit_bool {x : D} (h : Fit .bool x) : ∃ b, x = .bool b := by
  cases h with
  | bool b => exact ⟨b, rfl⟩
theorem fit_str {x : D} (h : Fit .str x) : ∃ s, x = .str s ∧ s.length ≤ maxLen := by
  cases h with
  | str s h => exact ⟨s, rfl, h⟩

theorem fitL_cons {s : Sh} {ss : List Sh} {ds : List D} (h : FitL (s :: ss) ds) : ∃ x xs, ds = x :: xs ∧ Fit s x ∧ FitL ss xs := by
  obtain ⟨h1, h2⟩ := h
  cases ds with
  | nil => simp at h1
  | cons x xs => exact ⟨x, xs, rfl, h2 0 s x rfl rfl, by simpa using h1, fun j s' x' hs hx => h2 (j + 1) s' x' (by simpa using hs) (by simpa using hx)⟩
theorem fitL_nil {ds : List D} (h : FitL [] ds) : ds = [] := List.eq_nil_of_length_eq_zero (by simpa using h.1)

/-- Slices of structs. -/
theorem fit_structs {α : Type} {enc : α → List D} {Q : α → Prop} {row : List Sh} (hdec : ∀ r : List D, FitL row r → ∃ a, r = enc a ∧ Q a) {k : Nat} {rows : List (List D)} (h : Fit (.sl row) (.sl k rows)) : ∃ l : List α, rows = l.map enc ∧ (∀ a ∈ l, Q a) ∧ l.length ≤ maxLen := by
  cases h with
  | sl _ _ hm hl hr =>
    have h1 : ∀ i, i < rows.length → ∃ a : α, rows[i]? = some (enc a) ∧ Q a := by
      intro i hi
      have hri := List.getElem?_eq_getElem hi
      obtain ⟨a, ha, hq⟩ := hdec rows[i] ⟨hl i _ hri, fun j s x hs hx => hr i j _ s x hri hs hx⟩
      exact ⟨a, by rw [hri, ha], hq⟩
    obtain ⟨l, e1, e2⟩ := ex_list rows.length h1
    refine ⟨l, ?_, fun n hn => ?_, by omega⟩
    · refine List.ext_getElem? fun i => ?_
      rcases Nat.lt_or_ge i l.length with hi | hi
      · rw [(e2 i _ (List.getElem?_eq_getElem hi)).1]; simp [hi]
      · rw [List.getElem?_eq_none (by omega), List.getElem?_eq_none (by simpa using hi)]
    · obtain ⟨i, hi⟩ := List.getElem?_of_mem hn
      exact (e2 i _ hi).2

/-- A law's answer. -/
def lawK : AV → Option Bool
  | .d (.bool b) => some b
  | _ => none
theorem lawK_ok (x : AV) (h : lawK x = some true) : x = .d (.bool true) := by
  unfold lawK at h
  split at h
  · injection h with h; subst h; rfl
  · cases h

end
end Go.Vx
/-
  Plain laws of the network's functions: Check, Good.
-/
set_option linter.unusedSimpArgs false
set_option linter.unusedVariables false
namespace Go.Vx
section
variable {R : Type}

structure Act where
  kind : Int
  frm : Int
  to : Int
  mn : Int
  mx : Int
  wt : Int
def Act.enc (a : Act) : List D := [.int .i64 a.kind, .int .i64 a.frm, .int .i64 a.to, .int .i64 a.mn, .int .i64 a.mx, .int .i64 a.wt]
structure Ev where
  kind : Int
  line : Int
  ride : Int
def Ev.enc (a : Ev) : List D := [.int .i64 a.kind, .int .i64 a.line, .int .i64 a.ride]

theorem isEvent_eq (n : Nat) (p : Int) (evs acts : List (List D)) (i : Int) (K : Bool → Option R) : network_isEvent n p evs acts i K = K (decide (0 ≤ i ∧ i < evs.length)) := by
  unfold network_isEvent network_isEvent_p1
  congr 1
  by_cases h : 0 ≤ i <;> simp [h]

theorem in_eq (n : Nat) (a b c : Int) (K : Bool → Option R) : ref11_in n a b c K = K (decide (b ≤ a ∧ a ≤ c)) := by
  unfold ref11_in ref11_in_p1
  congr 1
  by_cases h : b ≤ a <;> simp [h]

def Act.ok (p : Int) (ne : Nat) (a : Act) : Bool :=
  decide ((0 ≤ a.frm ∧ a.frm < ne) ∧ (0 ≤ a.to ∧ a.to < ne) ∧ a.frm ≠ a.to ∧ -65536 ≤ a.mn ∧ a.mn ≤ a.mx ∧ a.mx ≤ 65536 ∧ a.mx - a.mn < p ∧ 0 ≤ a.wt ∧ a.wt ≤ 1048576)

theorem checkA_p4 (n : Nat) (acts : List Act) (evs : List (List D)) (p : Int) (i : Nat) (k0 : Option R) (k1 : Int → Option R) (k2 : Bool → Option R) {a : Act} (h : acts[i]? = some a) :
    network_Check_p4 n (acts.map Act.enc) acts.length i p evs k0 k1 k2 = bif a.ok p evs.length then k1 (IntKind.wrap .i64 (i + 1)) else k0 := by
  have hi : i < acts.length := (List.getElem?_eq_some_iff.1 h).1
  unfold network_Check_p4
  rw [rowAt_get h]
  have hlt : decide ((i : Int) < (acts.length : Int)) = true := by simpa using hi
  simp -implicitDefEqProofs only [hlt, cond_true, Act.enc, gb_some_eq, List.getElem?_cons_zero, List.getElem?_cons_succ, pInt_i64, isEvent_eq, bif_or, Bool.cond_true_left]
  refine bif_flip ?_ _ _
  have hw : ¬ (-65536 ≤ a.mn ∧ a.mn ≤ a.mx ∧ a.mx ≤ 65536) ∨ IntKind.i64.wrap (a.mx - a.mn) = a.mx - a.mn := by
    by_cases hw : -65536 ≤ a.mn ∧ a.mn ≤ a.mx ∧ a.mx ≤ 65536
    · exact .inr (wrap64' (by omega) (by omega))
    · exact .inl hw
  generalize IntKind.i64.wrap (a.mx - a.mn) = q at hw
  rw [Bool.eq_iff_iff]
  simp only [Act.ok, Bool.or_eq_true, Bool.not_eq_true', decide_eq_true_eq, decide_eq_false_iff_not, beq_iff_eq]
  omega

theorem checkA_r5 (n : Nat) (acts : List Act) (evs : List (List D)) (p : Int) (k0 : Option R) (k1 : Int → Bool → Option R) (hl : acts.length ≤ 512) (kx : Option R) (hk : ∀ x y, k1 x y = kx) : ∀ (suf : List Act) (i m : Nat), acts.drop i = suf → suf.length < m →
    network_Check_r5 n (acts.map Act.enc) acts.length p evs k0 k1 m i = bif suf.all (Act.ok p evs.length) then kx else k0
  | [], i, m, hd, hm => by
    have hi := drop_nil hd
    obtain ⟨m, rfl⟩ : ∃ m', m = m' + 1 := ⟨m - 1, by omega⟩
    rw [network_Check_r5]
    unfold network_Check_p4
    have hlt : decide ((i : Int) < (acts.length : Int)) = false := by simpa using hi
    rw [hlt]
    exact hk _ _
  | a :: suf, i, m, hd, hm => by
    obtain ⟨h1, h2, h3⟩ := drop_cons hd
    obtain ⟨m, rfl⟩ : ∃ m', m = m' + 1 := ⟨m - 1, by omega⟩
    rw [network_Check_r5, checkA_p4 n acts evs p i _ _ _ h1, wrap64' (by omega) (by omega)]
    rw [show ((i : Int) + 1) = ((i + 1 : Nat) : Int) from rfl, checkA_r5 n acts evs p k0 k1 hl kx hk suf (i + 1) m h2 (by simp at hm; omega)]
    rw [List.all_cons]
    cases a.ok p evs.length <;> rfl

def netCheck (p : Int) (ne : Nat) (acts : List Act) : Bool := decide (2 ≤ p ∧ p ≤ 7200 ∧ ne ≤ 48 ∧ acts.length ≤ 512) && acts.all (Act.ok p ne)

theorem checkA (n : Nat) (hn : 512 < n) (acts : List Act) (evs : List (List D)) (p : Int) (K : Bool → Option R) : network_Check n p evs (acts.map Act.enc) K = K (netCheck p evs.length acts) := by
  simp -implicitDefEqProofs only [network_Check, network_Check_p11, network_Check_p10, network_Check_p9, network_Check_p8, network_Check_p7, network_Check_p6, network_Check_p5, network_Check_p3, network_Check_p2, network_Check_p1, List.length_map, Bool.cond_true_left]
  by_cases hc : 2 ≤ p ∧ p ≤ 7200 ∧ evs.length ≤ 48 ∧ acts.length ≤ 512
  · have h0 : (decide (p < 2) || decide (p > 7200) || decide ((evs.length : Int) > 48) || decide ((acts.length : Int) > 512)) = false := by
      simp only [Bool.or_eq_false_iff, decide_eq_false_iff_not]; omega
    rw [h0, bif_neg rfl, show ((0 : Int)) = ((0 : Nat) : Int) from rfl, checkA_r5 n acts evs p _ _ hc.2.2.2 (K true) (fun _ _ => rfl) acts 0 n rfl (by omega)]
    simp only [netCheck, hc, and_self, decide_true, Bool.true_and]
    cases acts.all (Act.ok p evs.length) <;> rfl
  · have h0 : (decide (p < 2) || decide (p > 7200) || decide ((evs.length : Int) > 48) || decide ((acts.length : Int) > 512)) = true := by
      simp only [Bool.or_eq_true, decide_eq_true_eq]; omega
    rw [h0, bif_pos rfl]
    simp only [netCheck, hc, decide_false, Bool.false_and]

theorem checkB_p4 (n : Nat) (acts : List Act) (evs : List (List D)) (he : evs.length ≤ 48) (p : Int) (i : Nat) (k0 : Option R) (k1 : Int → Option R) (k2 : Bool → Option R) {a : Act} (h : acts[i]? = some a) :
    ref11_Check_p4 n i p evs (acts.map Act.enc) k0 k1 k2 = bif a.ok p evs.length then k1 (IntKind.wrap .i64 (i + 1)) else k0 := by
  have hi : i < acts.length := (List.getElem?_eq_some_iff.1 h).1
  unfold ref11_Check_p4
  rw [rowAt_get h]
  have hlt : decide ((i : Int) < ((acts.map Act.enc).length : Int)) = true := by simpa using hi
  have hwr : IntKind.wrap .i64 ((evs.length : Int) - 1) = (evs.length : Int) - 1 := wrap64' (by omega) (by omega)
  simp -implicitDefEqProofs only [hlt, cond_true, Act.enc, gb_some_eq, List.getElem?_cons_zero, List.getElem?_cons_succ, pInt_i64, in_eq, bif_or, Bool.cond_true_left, hwr]
  refine bif_flip ?_ _ _
  have hw : ¬ (-65536 ≤ a.mn ∧ a.mn ≤ a.mx ∧ a.mx ≤ 65536) ∨ IntKind.i64.wrap (a.mx - a.mn) = a.mx - a.mn := by
    by_cases hw : -65536 ≤ a.mn ∧ a.mn ≤ a.mx ∧ a.mx ≤ 65536
    · exact .inr (wrap64' (by omega) (by omega))
    · exact .inl hw
  generalize IntKind.i64.wrap (a.mx - a.mn) = q at hw
  rw [Bool.eq_iff_iff]
  simp only [Act.ok, Bool.or_eq_true, Bool.not_eq_true', decide_eq_true_eq, decide_eq_false_iff_not, beq_iff_eq]
  omega

theorem checkB_r5 (n : Nat) (acts : List Act) (evs : List (List D)) (he : evs.length ≤ 48) (p : Int) (k0 : Option R) (k1 : Int → Bool → Option R) (hl : acts.length ≤ 512) (kx : Option R) (hk : ∀ x y, k1 x y = kx) : ∀ (suf : List Act) (i m : Nat), acts.drop i = suf → suf.length < m →
    ref11_Check_r5 n p evs (acts.map Act.enc) k0 k1 m i = bif suf.all (Act.ok p evs.length) then kx else k0
  | [], i, m, hd, hm => by
    have hi := drop_nil hd
    obtain ⟨m, rfl⟩ : ∃ m', m = m' + 1 := ⟨m - 1, by omega⟩
    rw [ref11_Check_r5]
    unfold ref11_Check_p4
    have hlt : decide ((i : Int) < ((acts.map Act.enc).length : Int)) = false := by simpa using hi
    rw [hlt]
    exact hk _ _
  | a :: suf, i, m, hd, hm => by
    obtain ⟨h1, h2, h3⟩ := drop_cons hd
    obtain ⟨m, rfl⟩ : ∃ m', m = m' + 1 := ⟨m - 1, by omega⟩
    rw [ref11_Check_r5, checkB_p4 n acts evs he p i _ _ _ h1, wrap64' (by omega) (by omega)]
    rw [show ((i : Int) + 1) = ((i + 1 : Nat) : Int) from rfl, checkB_r5 n acts evs he p k0 k1 hl kx hk suf (i + 1) m h2 (by simp at hm; omega)]
    rw [List.all_cons]
    cases a.ok p evs.length <;> rfl


theorem checkB (n : Nat) (hn : 512 < n) (acts : List Act) (evs : List (List D)) (p : Int) (K : Bool → Option R) : ref11_Check n p evs (acts.map Act.enc) K = K (netCheck p evs.length acts) := by
  simp -implicitDefEqProofs only [ref11_Check, ref11_Check_p11, ref11_Check_p10, ref11_Check_p9, ref11_Check_p8, ref11_Check_p7, ref11_Check_p6, ref11_Check_p5, ref11_Check_p3, ref11_Check_p2, ref11_Check_p1, List.length_map, Bool.cond_true_left, in_eq, gb_some_eq]
  by_cases hc : 2 ≤ p ∧ p ≤ 7200 ∧ evs.length ≤ 48 ∧ acts.length ≤ 512
  · rw [bif_neg (by simp only [Bool.or_eq_false_iff, decide_eq_false_iff_not, Bool.not_eq_false', decide_eq_true_eq]; omega), show ((0 : Int)) = ((0 : Nat) : Int) from rfl, checkB_r5 n acts evs hc.2.2.1 p _ _ hc.2.2.2 (K true) (fun _ _ => rfl) acts 0 n rfl (by omega)]
    simp only [netCheck, hc, and_self, decide_true, Bool.true_and]
    cases acts.all (Act.ok p evs.length) <;> rfl
  · rw [bif_pos (by simp only [Bool.or_eq_true, decide_eq_true_eq, Bool.not_eq_true', decide_eq_false_iff_not]; omega)]
    simp only [netCheck, hc, decide_false, Bool.false_and]

def timeOk (p t : Int) : Bool := decide (0 ≤ t ∧ t < p)
def netGood (p : Int) (ne : Nat) (acts : List Act) (times : List Int) : Bool := netCheck p ne acts && (decide (times.length = ne) && times.all (timeOk p))

theorem goodA_r5 (n : Nat) (times : List Int) (p : Int) (evs acts : List (List D)) (k0 : Option R) (k1 : Int → Bool → Option R) (hl : times.length ≤ 512) (kx : Option R) (hk : ∀ x y, k1 x y = kx) : ∀ (suf : List Int) (i m : Nat), times.drop i = suf → suf.length < m →
    network_Good_r5 n (encI times) times.length p evs acts k0 k1 m i = bif suf.all (timeOk p) then kx else k0
  | [], i, m, hd, hm => by
    have hi := drop_nil hd
    obtain ⟨m, rfl⟩ : ∃ m', m = m' + 1 := ⟨m - 1, by omega⟩
    rw [network_Good_r5]
    unfold network_Good_p4
    rw [bif_neg (by simpa using hi)]
    exact hk _ _
  | a :: suf, i, m, hd, hm => by
    obtain ⟨h1, h2, h3⟩ := drop_cons hd
    obtain ⟨m, rfl⟩ : ∃ m', m = m' + 1 := ⟨m - 1, by omega⟩
    rw [network_Good_r5]
    unfold network_Good_p4
    rw [bif_pos (by simpa using h3), encI_get h1]
    simp -implicitDefEqProofs only [gb_some_eq, List.getElem?_cons_zero, pInt_i64, Bool.cond_true_left]
    rw [wrap64' (by omega) (by omega), show ((i : Int) + 1) = ((i + 1 : Nat) : Int) from rfl, goodA_r5 n times p evs acts k0 k1 hl kx hk suf (i + 1) m h2 (by simp at hm; omega), List.all_cons]
    rw [bif_flip (c := timeOk p a) (by rw [Bool.eq_iff_iff]; simp only [timeOk, Bool.or_eq_true, Bool.not_eq_true', decide_eq_true_eq, decide_eq_false_iff_not]; omega)]
    cases timeOk p a <;> rfl

theorem goodA (n : Nat) (hn : 512 < n) (acts : List Act) (evs : List (List D)) (p : Int) (times : List Int) (K : Bool → Option R) : network_Good n p evs (acts.map Act.enc) (encI times) K = K (netGood p evs.length acts times) := by
  simp -implicitDefEqProofs only [network_Good, network_Good_p11, network_Good_p10, network_Good_p9, network_Good_p8, network_Good_p7, network_Good_p6, network_Good_p5, network_Good_p3, network_Good_p2, network_Good_p1, encI_length, Bool.cond_true_left, checkA n hn, gb_some_eq]
  by_cases hc : netCheck p evs.length acts = true ∧ times.length = evs.length
  · have he : evs.length ≤ 48 := by
      have := hc.1; simp only [netCheck, Bool.and_eq_true, decide_eq_true_eq] at this; omega
    rw [bif_neg (by simp [hc]), show ((0 : Int)) = ((0 : Nat) : Int) from rfl, goodA_r5 n times p _ _ _ _ (by omega) (K true) (fun _ _ => rfl) times 0 n rfl (by omega)]
    simp only [netGood, hc, decide_true, Bool.true_and]
    cases times.all (timeOk p) <;> rfl
  · rw [bif_pos (by cases hN : netCheck p evs.length acts <;> simp [hN] at hc ⊢; omega)]
    congr 1
    symm
    simp only [netGood, Bool.and_eq_false_iff, decide_eq_false_iff_not]
    by_cases h1 : netCheck p evs.length acts = true
    · exact .inr (.inl fun h2 => hc ⟨h1, h2⟩)
    · exact .inl (by simpa using h1)

theorem goodB_r5 (n : Nat) (times : List Int) (p : Int) (hp : 2 ≤ p ∧ p ≤ 7200) (evs acts : List (List D)) (k0 : Option R) (k1 : Int → Bool → Option R) (hl : times.length ≤ 512) (kx : Option R) (hk : ∀ x y, k1 x y = kx) : ∀ (suf : List Int) (i m : Nat), times.drop i = suf → suf.length < m →
    ref11_Good_r5 n (encI times) p evs acts k0 k1 m i = bif suf.all (timeOk p) then kx else k0
  | [], i, m, hd, hm => by
    have hi := drop_nil hd
    obtain ⟨m, rfl⟩ : ∃ m', m = m' + 1 := ⟨m - 1, by omega⟩
    rw [ref11_Good_r5]
    unfold ref11_Good_p4
    rw [bif_neg (by simpa [encI_length] using hi)]
    exact hk _ _
  | a :: suf, i, m, hd, hm => by
    obtain ⟨h1, h2, h3⟩ := drop_cons hd
    obtain ⟨m, rfl⟩ : ∃ m', m = m' + 1 := ⟨m - 1, by omega⟩
    rw [ref11_Good_r5]
    unfold ref11_Good_p4
    rw [bif_pos (by simpa [encI_length] using h3), encI_get h1]
    simp -implicitDefEqProofs only [gb_some_eq, List.getElem?_cons_zero, pInt_i64, Bool.cond_true_left, in_eq]
    rw [wrap64' (x := p - 1) (by omega) (by omega), wrap64' (by omega) (by omega), show ((i : Int) + 1) = ((i + 1 : Nat) : Int) from rfl, goodB_r5 n times p hp evs acts k0 k1 hl kx hk suf (i + 1) m h2 (by simp at hm; omega), List.all_cons]
    rw [bif_flip (c := timeOk p a) (by rw [Bool.eq_iff_iff]; simp only [timeOk, Bool.or_eq_true, Bool.not_eq_true', decide_eq_true_eq, decide_eq_false_iff_not]; omega)]
    cases timeOk p a <;> rfl

theorem goodB (n : Nat) (hn : 512 < n) (acts : List Act) (evs : List (List D)) (p : Int) (times : List Int) (K : Bool → Option R) : ref11_Good n p evs (acts.map Act.enc) (encI times) K = K (netGood p evs.length acts times) := by
  simp -implicitDefEqProofs only [ref11_Good, ref11_Good_p11, ref11_Good_p10, ref11_Good_p9, ref11_Good_p8, ref11_Good_p7, ref11_Good_p6, ref11_Good_p5, ref11_Good_p3, ref11_Good_p2, ref11_Good_p1, encI_length, Bool.cond_true_left, checkB n hn, gb_some_eq]
  by_cases hc : netCheck p evs.length acts = true ∧ times.length = evs.length
  · have he : (2 ≤ p ∧ p ≤ 7200) ∧ evs.length ≤ 48 := by
      have := hc.1; simp only [netCheck, Bool.and_eq_true, decide_eq_true_eq] at this; omega
    rw [bif_neg (by simp [hc]), show ((0 : Int)) = ((0 : Nat) : Int) from rfl, goodB_r5 n times p he.1 _ _ _ _ (by omega) (K true) (fun _ _ => rfl) times 0 n rfl (by omega)]
    simp only [netGood, hc, decide_true, Bool.true_and]
    cases times.all (timeOk p) <;> rfl
  · rw [bif_pos (by cases hN : netCheck p evs.length acts <;> simp [hN] at hc ⊢; omega)]
    congr 1
    symm
    simp only [netGood, Bool.and_eq_false_iff, decide_eq_false_iff_not]
    by_cases h1 : netCheck p evs.length acts = true
    · exact .inr (.inl fun h2 => hc ⟨h1, h2⟩)
    · exact .inl (by simpa using h1)

end
end Go.Vx
/-
  Plain laws: Mod, the program's and the reference's.
-/
set_option linter.unusedSimpArgs false
set_option linter.unusedVariables false
namespace Go.Vx
section
variable {R : Type}

theorem tmod_emod {x t : Int} (ht : 0 < t) : (if x.tmod t < 0 then x.tmod t + t else x.tmod t) = x % t := by
  have h1 := Int.tmod_def x t
  have h2 := Int.emod_def x t
  rcases Int.le_total 0 x with h | h
  · rw [Int.tmod_eq_emod_of_nonneg h]
    have := Int.emod_nonneg x (by omega : t ≠ 0)
    rw [if_neg (by omega)]
  · obtain ⟨y, rfl⟩ : ∃ y, x = -y := ⟨-x, by omega⟩
    have hy : 0 ≤ y := by omega
    rw [Int.neg_tmod, Int.tmod_eq_emod_of_nonneg hy]
    have e1 := Int.emod_nonneg y (by omega : t ≠ 0)
    have e2 := Int.emod_lt_of_pos y ht
    have e3 : (-y) % t = if y % t = 0 then 0 else t - y % t := by
      by_cases h0 : y % t = 0
      · rw [if_pos h0]; exact Int.emod_eq_zero_of_dvd (by rw [Int.dvd_neg]; exact Int.dvd_of_emod_eq_zero h0)
      · rw [if_neg h0]
        have : -y = (t - y % t) + t * (-(y / t) - 1) := by
          have := Int.mul_ediv_add_emod y t
          rw [Int.mul_sub, Int.mul_neg]; omega
        rw [this, Int.add_mul_emod_self_left, Int.emod_eq_of_lt (by omega) (by omega)]
    rw [e3]
    by_cases h0 : y % t = 0
    · simp [h0]
    · rw [if_neg h0, if_pos (by omega)]; omega

/-- The program's Mod. -/
def mod (x t : Int) : Int := if t < 1 then 0 else x % t

theorem mod_nonneg (x t : Int) : 0 ≤ mod x t := by
  unfold mod; split
  · exact Int.le_refl 0
  · exact Int.emod_nonneg x (by omega)
theorem mod_lt (x : Int) {t : Int} (h : 0 < t) : mod x t < t := by
  unfold mod; rw [if_neg (by omega)]; exact Int.emod_lt_of_pos x h

theorem tmod_abs (x : Int) {t : Int} (ht : 0 < t) : -t < x.tmod t ∧ x.tmod t < t := by
  have h1 := Int.tmod_lt_of_pos x ht
  have h2 := Int.lt_tmod_of_pos x ht
  omega

theorem modA (n : Nat) (x t : Int) (ht : t ≤ 9223372036854775807) (K : Int → Option R) : arith_Mod n x t K = K (mod x t) := by
  unfold arith_Mod arith_Mod_p1
  by_cases h : t < 1
  · rw [bif_pos (by simpa using h)]; simp [mod, h]
  · rw [bif_neg (by simpa using h), nz_ok (by omega)]
    simp -implicitDefEqProofs only [gb_some_eq]
    have := tmod_abs x (t := t) (by omega)
    simp only [mod, h, if_false]
    rw [← tmod_emod (by omega)]
    by_cases h2 : x.tmod t < 0
    · rw [bif_pos (by simpa using h2), if_pos h2, wrap64' (by omega) (by omega)]
    · rw [bif_neg (by simpa using h2), if_neg h2]
theorem modB (n : Nat) (x t : Int) (ht : t ≤ 9223372036854775807) (K : Int → Option R) : ref1_Mod n x t K = K (mod x t) := by
  unfold ref1_Mod ref1_Mod_p1
  by_cases h : t < 1
  · rw [bif_pos (by simpa using h)]; simp [mod, h]
  · rw [bif_neg (by simpa using h), nz_ok (by omega)]
    simp -implicitDefEqProofs only [gb_some_eq]
    have := tmod_abs x (t := t) (by omega)
    simp only [mod, h, if_false]
    rw [← tmod_emod (by omega)]
    by_cases h2 : x.tmod t < 0
    · rw [bif_pos (by simpa using h2), if_pos h2, wrap64' (by omega) (by omega)]
    · rw [bif_neg (by simpa using h2), if_neg h2]

end
end Go.Vx
/-
  Plain laws of the network's functions: Mod, durations, First, Feasible, Cost, Duration.
-/
set_option linter.unusedSimpArgs false
set_option linter.unusedVariables false
namespace Go.Vx
section
variable {R : Type}

/-- A duration, for good times. -/
def dur (p : Int) (times : List Int) (a : Act) : Int := a.mn + mod (times.getD a.to.toNat 0 - times.getD a.frm.toNat 0 - a.mn) p

theorem good_facts {p : Int} {ne : Nat} {acts : List Act} {times : List Int} (h : netGood p ne acts times = true) :
    (2 ≤ p ∧ p ≤ 7200) ∧ ne ≤ 48 ∧ acts.length ≤ 512 ∧ times.length = ne ∧ (∀ t ∈ times, 0 ≤ t ∧ t < p) ∧ ∀ a ∈ acts, a.ok p ne = true := by
  simp only [netGood, netCheck, timeOk, Bool.and_eq_true, decide_eq_true_eq, List.all_eq_true] at h
  exact ⟨⟨h.1.1.1, h.1.1.2.1⟩, h.1.1.2.2.1, h.1.1.2.2.2, h.2.1, h.2.2, h.1.2⟩

theorem dur_ok {p : Int} {ne : Nat} {acts : List Act} {times : List Int} (h : netGood p ne acts times = true) {a : Act} (ha : a ∈ acts) :
    a.mn ≤ dur p times a ∧ dur p times a < a.mn + p ∧ -65536 ≤ a.mn ∧ a.mn ≤ 65536 ∧ 0 ≤ a.wt ∧ a.wt ≤ 1048576 := by
  obtain ⟨h1, h2, h3, h4, h5, h6⟩ := good_facts h
  have := h6 a ha
  simp only [Act.ok, decide_eq_true_eq] at this
  have e1 := mod_nonneg (times.getD a.to.toNat 0 - times.getD a.frm.toNat 0 - a.mn) p
  have e2 := mod_lt (times.getD a.to.toNat 0 - times.getD a.frm.toNat 0 - a.mn) (t := p) (by omega)
  unfold dur
  omega

theorem durA {p : Int} {ne : Nat} {acts : List Act} {times : List Int} (h : netGood p ne acts times = true) {a : Act} (ha : a ∈ acts) (n : Nat) (evs as : List (List D)) (K : Int → Option R) :
    network_duration n p evs as (encI times) a.kind a.frm a.to a.mn a.mx a.wt K = K (dur p times a) := by
  obtain ⟨h1, h2, h3, h4, h5, h6⟩ := good_facts h
  have hok := h6 a ha
  simp only [Act.ok, decide_eq_true_eq] at hok
  have hd := dur_ok h ha
  have l1 : a.to.toNat < times.length := by omega
  have l2 : a.frm.toNat < times.length := by omega
  have g1 : times[a.to.toNat]? = some (times.getD a.to.toNat 0) := by simp [List.getD, List.getElem?_eq_getElem l1]
  have g2 : times[a.frm.toNat]? = some (times.getD a.frm.toNat 0) := by simp [List.getD, List.getElem?_eq_getElem l2]
  have b1 := h5 _ (List.mem_of_getElem? g1)
  have b2 := h5 _ (List.mem_of_getElem? g2)
  unfold network_duration network_duration_p1
  rw [show rowAt (encI times) a.to = _ from rowAt_int (f := fun n => [D.int .i64 n]) (by omega) g1, show rowAt (encI times) a.frm = _ from rowAt_int (f := fun n => [D.int .i64 n]) (by omega) g2]
  simp -implicitDefEqProofs only [gb_some_eq, List.getElem?_cons_zero, pInt_i64]
  rw [modA n _ _ (by omega)]
  simp -implicitDefEqProofs only [gb_some_eq]
  rw [wrap64' (x := times.getD a.to.toNat 0 - times.getD a.frm.toNat 0) (by omega) (by omega), wrap64' (x := times.getD a.to.toNat 0 - times.getD a.frm.toNat 0 - a.mn) (by omega) (by omega)]
  unfold dur at hd ⊢
  rw [wrap64' (by omega) (by omega)]

theorem durB {p : Int} {ne : Nat} {acts : List Act} {times : List Int} (h : netGood p ne acts times = true) {a : Act} (ha : a ∈ acts) (n : Nat) (evs as : List (List D)) (K : Int → Option R) :
    ref11_Lasts n p evs as (encI times) a.kind a.frm a.to a.mn a.mx a.wt K = K (dur p times a) := by
  obtain ⟨h1, h2, h3, h4, h5, h6⟩ := good_facts h
  have hok := h6 a ha
  simp only [Act.ok, decide_eq_true_eq] at hok
  have hd := dur_ok h ha
  have l1 : a.to.toNat < times.length := by omega
  have l2 : a.frm.toNat < times.length := by omega
  have g1 : times[a.to.toNat]? = some (times.getD a.to.toNat 0) := by simp [List.getD, List.getElem?_eq_getElem l1]
  have g2 : times[a.frm.toNat]? = some (times.getD a.frm.toNat 0) := by simp [List.getD, List.getElem?_eq_getElem l2]
  have b1 := h5 _ (List.mem_of_getElem? g1)
  have b2 := h5 _ (List.mem_of_getElem? g2)
  unfold ref11_Lasts ref11_Lasts_p1
  rw [show rowAt (encI times) a.to = _ from rowAt_int (f := fun n => [D.int .i64 n]) (by omega) g1, show rowAt (encI times) a.frm = _ from rowAt_int (f := fun n => [D.int .i64 n]) (by omega) g2]
  simp -implicitDefEqProofs only [gb_some_eq, List.getElem?_cons_zero, pInt_i64]
  rw [modB n _ _ (by omega)]
  simp -implicitDefEqProofs only [gb_some_eq]
  rw [wrap64' (x := times.getD a.to.toNat 0 - times.getD a.frm.toNat 0) (by omega) (by omega), wrap64' (x := times.getD a.to.toNat 0 - times.getD a.frm.toNat 0 - a.mn) (by omega) (by omega)]
  unfold dur at hd ⊢
  rw [wrap64' (by omega) (by omega)]

/-- The first activity that is not satisfied. -/
def firstBad (p : Int) (times : List Int) : List Act → Nat → Option Nat
  | [], _ => none
  | a :: r, i => bif decide (a.mx < dur p times a) then some i else firstBad p times r (i + 1)

theorem firstA_r5 {p : Int} {ne : Nat} {acts : List Act} {times : List Int} (h : netGood p ne acts times = true) (n : Nat) (evs : List (List D)) (k0 : Int → Option R) (k1 : Int → Bool → Option R) (kx : Option R) (hk : ∀ x y, k1 x y = kx) : ∀ (suf : List Act) (i m : Nat), acts.drop i = suf → suf.length < m →
    network_First_r5 n (encI times) (acts.map Act.enc) acts.length p evs k0 k1 m i = match firstBad p times suf i with | some j => k0 j | none => kx
  | [], i, m, hd, hm => by
    have hi := drop_nil hd
    obtain ⟨m, rfl⟩ : ∃ m', m = m' + 1 := ⟨m - 1, by omega⟩
    rw [network_First_r5]
    unfold network_First_p4
    rw [bif_neg (by simpa using hi)]
    exact hk _ _
  | a :: suf, i, m, hd, hm => by
    obtain ⟨h1, h2, h3⟩ := drop_cons hd
    obtain ⟨m, rfl⟩ : ∃ m', m = m' + 1 := ⟨m - 1, by omega⟩
    have hl := (good_facts h).2.2.1
    rw [network_First_r5]
    unfold network_First_p4
    rw [bif_pos (by simpa using h3), rowAt_get h1]
    simp -implicitDefEqProofs only [Act.enc, gb_some_eq, List.getElem?_cons_zero, List.getElem?_cons_succ, pInt_i64, durA h (List.mem_of_getElem? h1)]
    rw [wrap64' (by omega) (by omega), show ((i : Int) + 1) = ((i + 1 : Nat) : Int) from rfl, firstA_r5 h n evs k0 k1 kx hk suf (i + 1) m h2 (by simp at hm; omega)]
    rw [show firstBad p times (a :: suf) i = bif decide (a.mx < dur p times a) then some i else firstBad p times suf (i + 1) from rfl]
    by_cases hb : a.mx < dur p times a
    · simp [hb]
    · simp [hb]

def netFirst (p : Int) (ne : Nat) (acts : List Act) (times : List Int) : Int × Bool :=
  bif netGood p ne acts times then (match firstBad p times acts 0 with | some j => ((j : Int), true) | none => (0, false)) else (0, false)

theorem firstA (n : Nat) (hn : 512 < n) (acts : List Act) (evs : List (List D)) (p : Int) (times : List Int) (K : Int → Bool → Option R) :
    network_First n p evs (acts.map Act.enc) (encI times) K = K (netFirst p evs.length acts times).1 (netFirst p evs.length acts times).2 := by
  simp -implicitDefEqProofs only [network_First, network_First_p11, network_First_p10, network_First_p9, network_First_p8, network_First_p7, network_First_p6, network_First_p5, network_First_p3, network_First_p2, network_First_p1, List.length_map, goodA n hn, gb_some_eq]
  cases hg : netGood p evs.length acts times with
  | false => simp [netFirst, hg]
  | true =>
    have hl := (good_facts hg).2.2.1
    rw [bif_neg (by rfl), show ((0 : Int)) = ((0 : Nat) : Int) from rfl, firstA_r5 hg n evs _ _ (K (0 : Nat) false) (fun _ _ => rfl) acts 0 n rfl (by omega)]
    simp only [netFirst, hg, cond_true]
    split <;> rfl

theorem firstB_r5 {p : Int} {ne : Nat} {acts : List Act} {times : List Int} (h : netGood p ne acts times = true) (n : Nat) (evs : List (List D)) (k0 : Int → Option R) (k1 : Int → Bool → Option R) (kx : Option R) (hk : ∀ x y, k1 x y = kx) : ∀ (suf : List Act) (i m : Nat), acts.drop i = suf → suf.length < m →
    ref11_First_r5 n (encI times) p evs (acts.map Act.enc) k0 k1 m i = match firstBad p times suf i with | some j => k0 j | none => kx
  | [], i, m, hd, hm => by
    have hi := drop_nil hd
    obtain ⟨m, rfl⟩ : ∃ m', m = m' + 1 := ⟨m - 1, by omega⟩
    rw [ref11_First_r5]
    unfold ref11_First_p4
    rw [bif_neg (by simpa using hi)]
    exact hk _ _
  | a :: suf, i, m, hd, hm => by
    obtain ⟨h1, h2, h3⟩ := drop_cons hd
    obtain ⟨m, rfl⟩ : ∃ m', m = m' + 1 := ⟨m - 1, by omega⟩
    have hl := (good_facts h).2.2.1
    rw [ref11_First_r5]
    unfold ref11_First_p4
    rw [bif_pos (by simpa using h3), rowAt_get h1]
    simp -implicitDefEqProofs only [Act.enc, gb_some_eq, List.getElem?_cons_zero, List.getElem?_cons_succ, pInt_i64, durB h (List.mem_of_getElem? h1)]
    rw [wrap64' (by omega) (by omega), show ((i : Int) + 1) = ((i + 1 : Nat) : Int) from rfl, firstB_r5 h n evs k0 k1 kx hk suf (i + 1) m h2 (by simp at hm; omega)]
    rw [show firstBad p times (a :: suf) i = bif decide (a.mx < dur p times a) then some i else firstBad p times suf (i + 1) from rfl]
    by_cases hb : a.mx < dur p times a
    · simp [hb]
    · simp [hb]

theorem firstB (n : Nat) (hn : 512 < n) (acts : List Act) (evs : List (List D)) (p : Int) (times : List Int) (K : Int → Bool → Option R) :
    ref11_First n p evs (acts.map Act.enc) (encI times) K = K (netFirst p evs.length acts times).1 (netFirst p evs.length acts times).2 := by
  simp -implicitDefEqProofs only [ref11_First, ref11_First_p11, ref11_First_p10, ref11_First_p9, ref11_First_p8, ref11_First_p7, ref11_First_p6, ref11_First_p5, ref11_First_p3, ref11_First_p2, ref11_First_p1, List.length_map, goodB n hn, gb_some_eq]
  cases hg : netGood p evs.length acts times with
  | false => simp [netFirst, hg]
  | true =>
    have hl := (good_facts hg).2.2.1
    rw [bif_neg (by rfl), show ((0 : Int)) = ((0 : Nat) : Int) from rfl, firstB_r5 hg n evs _ _ (K (0 : Nat) false) (fun _ _ => rfl) acts 0 n rfl (by omega)]
    simp only [netFirst, hg, cond_true]
    split <;> rfl

def netFeas (p : Int) (ne : Nat) (acts : List Act) (times : List Int) : Bool := netGood p ne acts times && !(netFirst p ne acts times).2

theorem feasA (n : Nat) (hn : 512 < n) (acts : List Act) (evs : List (List D)) (p : Int) (times : List Int) (K : Bool → Option R) : network_Feasible n p evs (acts.map Act.enc) (encI times) K = K (netFeas p evs.length acts times) := by
  simp -implicitDefEqProofs only [network_Feasible, network_Feasible_p1, firstA n hn, goodA n hn, gb_some_eq, netFeas, Bool.cond_false_right]
  rw [Bool.and_comm]
theorem feasB (n : Nat) (hn : 512 < n) (acts : List Act) (evs : List (List D)) (p : Int) (times : List Int) (K : Bool → Option R) : ref11_Feasible n p evs (acts.map Act.enc) (encI times) K = K (netFeas p evs.length acts times) := by
  simp -implicitDefEqProofs only [ref11_Feasible, ref11_Feasible_p1, firstB n hn, goodB n hn, gb_some_eq, netFeas, Bool.cond_false_right]

/-- The cost. -/
def costOf (p : Int) (times : List Int) : List Act → Int
  | [] => 0
  | a :: r => a.wt * dur p times a + costOf p times r

theorem term_le {p : Int} {ne : Nat} {acts : List Act} {times : List Int} (h : netGood p ne acts times = true) {a : Act} (ha : a ∈ acts) : -(1048576 * 73000) ≤ a.wt * dur p times a ∧ a.wt * dur p times a ≤ 1048576 * 73000 := by
  have hd := dur_ok h ha
  have h1 := (good_facts h).1
  have hb : -73000 ≤ dur p times a ∧ dur p times a ≤ 73000 := by omega
  generalize dur p times a = d at hb
  have hw : 0 ≤ a.wt ∧ a.wt ≤ 1048576 := by omega
  generalize a.wt = w at hw
  have e1 : w * d ≤ w * 73000 := Int.mul_le_mul_of_nonneg_left hb.2 hw.1
  have e2 : w * (-73000) ≤ w * d := Int.mul_le_mul_of_nonneg_left hb.1 hw.1
  omega

theorem costA_r6 {p : Int} {ne : Nat} {acts : List Act} {times : List Int} (h : netGood p ne acts times = true) (n : Nat) (evs : List (List D)) (k0 : Int → Int → Bool → Option R) (kx : Int → Option R) (hk : ∀ x y z, k0 x y z = kx x) : ∀ (suf : List Act) (i m : Nat) (c : Int), acts.drop i = suf → suf.length < m → -(1048576 * 73000 * i) ≤ c ∧ c ≤ 1048576 * 73000 * i →
    network_Cost_r6 n (encI times) (acts.map Act.enc) acts.length p evs k0 m c i = kx (c + costOf p times suf)
  | [], i, m, c, hd, hm, hc => by
    have hi := drop_nil hd
    obtain ⟨m, rfl⟩ : ∃ m', m = m' + 1 := ⟨m - 1, by omega⟩
    rw [network_Cost_r6]
    unfold network_Cost_p5
    rw [bif_neg (by simpa using hi)]
    simp only [hk, costOf, Int.add_zero]
  | a :: suf, i, m, c, hd, hm, hc => by
    obtain ⟨h1, h2, h3⟩ := drop_cons hd
    obtain ⟨m, rfl⟩ : ∃ m', m = m' + 1 := ⟨m - 1, by omega⟩
    have hl := (good_facts h).2.2.1
    have ht := term_le h (List.mem_of_getElem? h1)
    rw [network_Cost_r6]
    unfold network_Cost_p5
    rw [bif_pos (by simpa using h3), rowAt_get h1]
    simp -implicitDefEqProofs only [Act.enc, gb_some_eq, List.getElem?_cons_zero, List.getElem?_cons_succ, pInt_i64, durA h (List.mem_of_getElem? h1)]
    rw [show costOf p times (a :: suf) = a.wt * dur p times a + costOf p times suf from rfl]
    generalize a.wt * dur p times a = q at ht
    rw [wrap64' (x := q) (by omega) (by omega), wrap64' (x := c + q) (by omega) (by omega), wrap64' (by omega) (by omega), show ((i : Int) + 1) = ((i + 1 : Nat) : Int) from rfl, costA_r6 h n evs k0 kx hk suf (i + 1) m (c + q) h2 (by simp at hm; omega) (by omega)]
    rw [Int.add_assoc]

def netCost (p : Int) (ne : Nat) (acts : List Act) (times : List Int) : Int × Int := bif netGood p ne acts times then (costOf p times acts, 0) else (0, 1)

theorem costA (n : Nat) (hn : 512 < n) (acts : List Act) (evs : List (List D)) (p : Int) (times : List Int) (K : Int → Int → Option R) :
    network_Cost n p evs (acts.map Act.enc) (encI times) K = K (netCost p evs.length acts times).1 (netCost p evs.length acts times).2 := by
  simp -implicitDefEqProofs only [network_Cost, network_Cost_p13, network_Cost_p12, network_Cost_p11, network_Cost_p10, network_Cost_p9, network_Cost_p8, network_Cost_p7, network_Cost_p6, network_Cost_p4, network_Cost_p3, network_Cost_p2, network_Cost_p1, List.length_map, goodA n hn, gb_some_eq]
  cases hg : netGood p evs.length acts times with
  | false => simp [netCost, hg]
  | true =>
    have hl := (good_facts hg).2.2.1
    rw [bif_neg (by rfl), show network_Cost_r6 n (encI times) (acts.map Act.enc) acts.length p evs _ n 0 0 = network_Cost_r6 n (encI times) (acts.map Act.enc) acts.length p evs _ n 0 ((0 : Nat) : Int) from rfl, costA_r6 hg n evs _ (fun x => K x 0) (fun _ _ _ => rfl) acts 0 n 0 rfl (by omega) (by omega)]
    simp only [netCost, hg, cond_true, Int.zero_add]

theorem costB_r6 {p : Int} {ne : Nat} {acts : List Act} {times : List Int} (h : netGood p ne acts times = true) (n : Nat) (evs : List (List D)) (k0 : Int → Int → Bool → Option R) (kx : Int → Option R) (hk : ∀ x y z, k0 x y z = kx x) : ∀ (suf : List Act) (i m : Nat) (c : Int), acts.drop i = suf → suf.length < m → -(1048576 * 73000 * i) ≤ c ∧ c ≤ 1048576 * 73000 * i →
    ref11_Cost_r6 n (encI times) p evs (acts.map Act.enc) k0 m c i = kx (c + costOf p times suf)
  | [], i, m, c, hd, hm, hc => by
    have hi := drop_nil hd
    obtain ⟨m, rfl⟩ : ∃ m', m = m' + 1 := ⟨m - 1, by omega⟩
    rw [ref11_Cost_r6]
    unfold ref11_Cost_p5
    rw [bif_neg (by simpa using hi)]
    simp only [hk, costOf, Int.add_zero]
  | a :: suf, i, m, c, hd, hm, hc => by
    obtain ⟨h1, h2, h3⟩ := drop_cons hd
    obtain ⟨m, rfl⟩ : ∃ m', m = m' + 1 := ⟨m - 1, by omega⟩
    have hl := (good_facts h).2.2.1
    have ht := term_le h (List.mem_of_getElem? h1)
    rw [ref11_Cost_r6]
    unfold ref11_Cost_p5
    rw [bif_pos (by simpa using h3), rowAt_get h1]
    simp -implicitDefEqProofs only [Act.enc, gb_some_eq, List.getElem?_cons_zero, List.getElem?_cons_succ, pInt_i64, durB h (List.mem_of_getElem? h1)]
    rw [show costOf p times (a :: suf) = a.wt * dur p times a + costOf p times suf from rfl]
    generalize a.wt * dur p times a = q at ht
    rw [wrap64' (x := q) (by omega) (by omega), wrap64' (x := c + q) (by omega) (by omega), wrap64' (by omega) (by omega), show ((i : Int) + 1) = ((i + 1 : Nat) : Int) from rfl, costB_r6 h n evs k0 kx hk suf (i + 1) m (c + q) h2 (by simp at hm; omega) (by omega)]
    rw [Int.add_assoc]

theorem costB (n : Nat) (hn : 512 < n) (acts : List Act) (evs : List (List D)) (p : Int) (times : List Int) (K : Int → Int → Option R) :
    ref11_Cost n p evs (acts.map Act.enc) (encI times) K = K (netCost p evs.length acts times).1 (netCost p evs.length acts times).2 := by
  simp -implicitDefEqProofs only [ref11_Cost, ref11_Cost_p13, ref11_Cost_p12, ref11_Cost_p11, ref11_Cost_p10, ref11_Cost_p9, ref11_Cost_p8, ref11_Cost_p7, ref11_Cost_p6, ref11_Cost_p4, ref11_Cost_p3, ref11_Cost_p2, ref11_Cost_p1, List.length_map, goodB n hn, gb_some_eq]
  cases hg : netGood p evs.length acts times with
  | false => simp [netCost, hg]
  | true =>
    have hl := (good_facts hg).2.2.1
    rw [bif_neg (by rfl), show ref11_Cost_r6 n (encI times) p evs (acts.map Act.enc) _ n 0 0 = ref11_Cost_r6 n (encI times) p evs (acts.map Act.enc) _ n 0 ((0 : Nat) : Int) from rfl, costB_r6 hg n evs _ (fun x => K x 0) (fun _ _ _ => rfl) acts 0 n 0 rfl (by omega) (by omega)]
    simp only [netCost, hg, cond_true, Int.zero_add]

def netDur (p : Int) (ne : Nat) (acts : List Act) (times : List Int) (i : Int) : Int :=
  bif netGood p ne acts times && decide (0 ≤ i) then (match acts[i.toNat]? with | some a => dur p times a | none => 0) else 0

theorem durationA (n : Nat) (hn : 512 < n) (acts : List Act) (evs : List (List D)) (p : Int) (times : List Int) (i : Int) (K : Int → Option R) : network_Duration n p evs (acts.map Act.enc) (encI times) i K = K (netDur p evs.length acts times i) := by
  simp -implicitDefEqProofs only [network_Duration, network_Duration_p1, goodA n hn, gb_some_eq, List.length_map, Bool.cond_true_left]
  by_cases hc : netGood p evs.length acts times = true ∧ 0 ≤ i ∧ i < acts.length
  · obtain ⟨h1, h2, h3⟩ := hc
    have hi : i.toNat < acts.length := by omega
    have hg := List.getElem?_eq_getElem hi
    rw [bif_neg (by simp [h1]; omega), rowAt_int h2 hg]
    simp -implicitDefEqProofs only [Act.enc, gb_some_eq, List.getElem?_cons_zero, List.getElem?_cons_succ, pInt_i64, durA h1 (List.mem_of_getElem? hg)]
    simp [netDur, h1, h2, hg]
  · rw [bif_pos (by cases hN : netGood p evs.length acts times <;> simp [hN] at hc ⊢; omega)]
    congr 1
    symm
    unfold netDur
    cases hN : netGood p evs.length acts times with
    | false => rfl
    | true =>
      simp only [hN, true_and] at hc
      by_cases h0 : 0 ≤ i
      · rw [List.getElem?_eq_none (by omega)]; simp [h0]
      · simp [h0]
theorem durationB (n : Nat) (hn : 512 < n) (acts : List Act) (evs : List (List D)) (p : Int) (times : List Int) (i : Int) (K : Int → Option R) : ref11_Duration n p evs (acts.map Act.enc) (encI times) i K = K (netDur p evs.length acts times i) := by
  simp -implicitDefEqProofs only [ref11_Duration, ref11_Duration_p1, goodB n hn, gb_some_eq, List.length_map, Bool.cond_true_left, in_eq]
  by_cases hc : netGood p evs.length acts times = true ∧ 0 ≤ i ∧ i < acts.length
  · obtain ⟨h1, h2, h3⟩ := hc
    have hi : i.toNat < acts.length := by omega
    have hg := List.getElem?_eq_getElem hi
    have hl := (good_facts h1).2.2.1
    rw [wrap64' (x := (acts.length : Int) - 1) (by omega) (by omega), bif_neg (by simp [h1]; omega), rowAt_int h2 hg]
    simp -implicitDefEqProofs only [Act.enc, gb_some_eq, List.getElem?_cons_zero, List.getElem?_cons_succ, pInt_i64, durB h1 (List.mem_of_getElem? hg)]
    simp [netDur, h1, h2, hg]
  · have hl : netGood p evs.length acts times = true → acts.length ≤ 512 := fun h => (good_facts h).2.2.1
    rw [bif_pos (by
      cases hN : netGood p evs.length acts times
      · simp
      · simp only [hN, true_and] at hc
        rw [wrap64' (x := (acts.length : Int) - 1) (by omega) (by have := hl hN; omega)]
        simp; omega)]
    congr 1
    symm
    unfold netDur
    cases hN : netGood p evs.length acts times with
    | false => rfl
    | true =>
      simp only [hN, true_and] at hc
      by_cases h0 : 0 ≤ i
      · rw [List.getElem?_eq_none (by omega)]; simp [h0]
      · simp [h0]
end
end Go.Vx
/-
  Plain laws: Pick, Next.
-/
set_option linter.unusedSimpArgs false
set_option linter.unusedVariables false
namespace Go.Vx
section
variable {R : Type}

theorem wrapU_nonneg (x : Int) : 0 ≤ IntKind.wrap .u64 x := by
  have := Int.emod_nonneg x (show (18446744073709551616 : Int) ≠ 0 by decide)
  simpa [IntKind.wrap, IntKind.bits, IntKind.signed] using this
theorem wrapU_id {x : Int} (h0 : 0 ≤ x) (h1 : x < 18446744073709551616) : IntKind.wrap .u64 x = x := by
  have := Int.emod_eq_of_lt h0 h1
  simpa [IntKind.wrap, IntKind.bits, IntKind.signed] using this

/-- The number that Pick takes. -/
def pick (v m : Int) : Int := (IntKind.wrap .u64 v).tmod m
theorem pick_range (v : Int) {m : Int} (h : 0 < m) : 0 ≤ pick v m ∧ pick v m < m := by
  unfold pick
  rw [Int.tmod_eq_emod_of_nonneg (wrapU_nonneg v)]
  exact ⟨Int.emod_nonneg _ (by omega), Int.emod_lt_of_pos _ h⟩

theorem pickA (n : Nat) (v : Int) {m : Int} (h : 0 < m) (hm : m ≤ 9223372036854775807) (K : Int → Option R) : keep_Pick n v m K = K (pick v m) := by
  unfold keep_Pick keep_Pick_p1
  rw [wrapU_id (x := m) (by omega) (by omega), nz_ok (by omega)]
  simp -implicitDefEqProofs only [gb_some_eq]
  have := pick_range v h
  unfold pick at this ⊢
  rw [wrap64' (by omega) (by omega)]

/-- Next: a number below the bound, and the place moves on. -/
theorem nextA (n : Nat) {l : List Int} (hl : l.length ≤ 9223372036854775807) {i : Nat} (hi : i ≤ l.length) {m : Int} (h : 0 < m) (hm : m ≤ 9223372036854775807) :
    ∃ (v : Int) (j : Nat), 0 ≤ v ∧ v < m ∧ j ≤ l.length ∧ ∀ (R : Type) (K : Int → List (List D) → Int → Option R), keep_Source_Next n (encI l) i m K = K v (encI l) j := by
  by_cases hlt : i < l.length
  · have hg := List.getElem?_eq_getElem hlt
    refine ⟨pick l[i] m, i + 1, (pick_range _ h).1, (pick_range _ h).2, by omega, fun R K => ?_⟩
    unfold keep_Source_Next keep_Source_Next_p1
    rw [bif_neg (by simp [encI_length]; omega), wrap64' (x := (i : Int) + 1) (by omega) (by omega), wrap64' (by omega) (by omega)]
    rw [show (i : Int) + 1 - 1 = (i : Int) by omega, encI_get hg]
    simp -implicitDefEqProofs only [gb_some_eq, List.getElem?_cons_zero, pInt_i64, pickA n _ h hm]
    rfl
  · refine ⟨0, i, by omega, h, hi, fun R K => ?_⟩
    unfold keep_Source_Next keep_Source_Next_p1
    rw [bif_pos (by simp [encI_length]; omega)]

end
end Go.Vx
/-
  Plain laws of the makers: Pick, Next, Network, Times.
-/
set_option linter.unusedSimpArgs false
set_option linter.unusedVariables false
namespace Go.Vx
section
variable {R : Type}

theorem evs_r6 (n : Nat) {l : List Int} (hl : l.length ≤ 9223372036854775807) (p : Int) : ∀ (c m i : Nat) (evs : List Ev), c < m → i ≤ l.length → evs.length + c ≤ 5 →
    ∃ (evs' : List Ev) (j : Nat), evs'.length = evs.length + c ∧ j ≤ l.length ∧ ∀ (R : Type) (k0 : Int → Bool → List (List D) → List (List D) → Int → Option R), keep_Network_r6 n p k0 m c (evs.map Ev.enc) (encI l) i = k0 0 false (evs'.map Ev.enc) (encI l) j
  | 0, m, i, evs, hm, hi, he => by
    obtain ⟨m, rfl⟩ : ∃ m', m = m' + 1 := ⟨m - 1, by omega⟩
    refine ⟨evs, i, by simp, hi, fun R k0 => ?_⟩
    rw [keep_Network_r6]
    unfold keep_Network_p5
    rw [bif_neg (by simp)]
    rfl
  | c + 1, m, i, evs, hm, hi, he => by
    obtain ⟨m, rfl⟩ : ∃ m', m = m' + 1 := ⟨m - 1, by omega⟩
    obtain ⟨v1, j1, a1, b1, c1, e1⟩ := nextA n hl hi (m := 2) (by omega) (by omega)
    obtain ⟨v2, j2, a2, b2, c2, e2⟩ := nextA n hl c1 (m := 3) (by omega) (by omega)
    obtain ⟨v3, j3, a3, b3, c3, e3⟩ := nextA n hl c2 (m := 3) (by omega) (by omega)
    obtain ⟨evs', j, g1, g2, g3⟩ := evs_r6 n hl p c m j3 (evs ++ [⟨IntKind.wrap .i64 (1 + v1), v2, v3⟩]) (by omega) c3 (by simp; omega)
    refine ⟨evs', j, by simp at g1; omega, g2, fun R k0 => ?_⟩
    rw [keep_Network_r6]
    unfold keep_Network_p5
    rw [bif_pos (by simp <;> omega)]
    simp -implicitDefEqProofs only [gb_some_eq, e1, e2, e3]
    rw [room_ok (by simp; omega)]
    simp -implicitDefEqProofs only [gb_some_eq]
    rw [wrap64' (x := ((c + 1 : Nat) : Int) - 1) (by omega) (by omega), show ((c + 1 : Nat) : Int) - 1 = (c : Int) by omega]
    rw [← g3 R k0]
    simp only [List.map_append, List.map_cons, List.map_nil, Ev.enc]

theorem acts_r12 (n : Nat) {l : List Int} (hl : l.length ≤ 9223372036854775807) (p : Int) (hp : 2 ≤ p ∧ p ≤ 9) (ne : Nat) (hne : 1 ≤ ne ∧ ne ≤ 5) (es : List (List D)) : ∀ (c m i : Nat) (acts : List Act), c < m → i ≤ l.length → acts.length + c ≤ 8 → (∀ a ∈ acts, a.ok p ne = true) →
    ∃ (acts' : List Act) (j : Nat), acts'.length ≤ 8 ∧ (∀ a ∈ acts', a.ok p ne = true) ∧ j ≤ l.length ∧ ∃ x, ∀ (R : Type) (k0 : Int → Bool → List (List D) → List (List D) → Int → Option R), keep_Network_r12 n ne p es k0 m c (acts.map Act.enc) (encI l) i = k0 x false (acts'.map Act.enc) (encI l) j
  | 0, m, i, acts, hm, hi, he, hok => by
    obtain ⟨m, rfl⟩ : ∃ m', m = m' + 1 := ⟨m - 1, by omega⟩
    refine ⟨acts, i, by omega, hok, hi, 0, fun R k0 => ?_⟩
    rw [keep_Network_r12]
    unfold keep_Network_p11
    rw [bif_neg (by simp)]
    rfl
  | c + 1, m, i, acts, hm, hi, he, hok => by
    obtain ⟨m, rfl⟩ : ∃ m', m = m' + 1 := ⟨m - 1, by omega⟩
    by_cases h1 : ne = 1
    · refine ⟨acts, i, by omega, hok, hi, (c + 1 : Nat), fun R k0 => ?_⟩
      rw [keep_Network_r12]
      unfold keep_Network_p11
      rw [bif_neg (by simp; omega)]
      simp [h1]
    · have hw1 : IntKind.wrap .i64 ((ne : Int) - 1) = (ne : Int) - 1 := wrap64' (by omega) (by omega)
      have hw2 : IntKind.wrap .i64 (3 * p) = 3 * p := wrap64' (by omega) (by omega)
      obtain ⟨v1, j1, a1, b1, c1, e1⟩ := nextA n hl hi (m := 6) (by omega) (by omega)
      obtain ⟨v2, j2, a2, b2, c2, e2⟩ := nextA n hl c1 (m := ne) (by omega) (by omega)
      obtain ⟨v3, j3, a3, b3, c3, e3⟩ := nextA n hl c2 (m := 5) (by omega) (by omega)
      obtain ⟨v4, j4, a4, b4, c4, e4⟩ := nextA n hl c3 (m := (ne : Int) - 1) (by omega) (by omega)
      obtain ⟨v5, j5, a5, b5, c5, e5⟩ := nextA n hl c4 (m := 3 * p) (by omega) (by omega)
      obtain ⟨v6, j6, a6, b6, c6, e6⟩ := nextA n hl c5 (m := p) (by omega) (by omega)
      have hto : (v2 + 1 + v4).tmod ne = (v2 + 1 + v4) % ne := Int.tmod_eq_emod_of_nonneg (by omega)
      have ht0 := Int.emod_nonneg (v2 + 1 + v4) (show (ne : Int) ≠ 0 by omega)
      have ht1 := Int.emod_lt_of_pos (v2 + 1 + v4) (show (0 : Int) < ne by omega)
      have ht2 : (v2 + 1 + v4) % ne ≠ v2 := by
        intro hh
        by_cases hb : v2 + 1 + v4 < ne
        · rw [Int.emod_eq_of_lt (by omega) hb] at hh; omega
        · rw [show v2 + 1 + v4 = (v2 + 1 + v4 - ne) + ne * 1 by omega, Int.add_mul_emod_self_left, Int.emod_eq_of_lt (by omega) (by omega)] at hh
          omega
      obtain ⟨acts', j, g1, g2, g3, x, g4⟩ := acts_r12 n hl p hp ne hne es c m j6 (acts ++ [⟨1 + v1, v2, (v2 + 1 + v4) % ne, v5 - p, v5 - p + v6, v3⟩]) (by omega) c6 (by simp; omega) (by
        intro a ha
        rcases List.mem_append.1 ha with ha | ha
        · exact hok a ha
        · simp only [List.mem_singleton] at ha
          subst ha
          simp only [Act.ok, decide_eq_true_eq]
          omega)
      refine ⟨acts', j, g1, g2, g3, x, fun R k0 => ?_⟩
      rw [keep_Network_r12]
      unfold keep_Network_p11
      rw [bif_pos (by simp; omega), hw1, hw2]
      simp -implicitDefEqProofs only [gb_some_eq, e1, e2, e3, e4, e5, e6]
      rw [nz_ok (by omega)]
      simp -implicitDefEqProofs only [gb_some_eq, e1, e2, e3, e4, e5, e6]
      rw [room_ok (by simp; omega)]
      simp -implicitDefEqProofs only [gb_some_eq]
      rw [wrap64' (x := ((c + 1 : Nat) : Int) - 1) (by omega) (by omega), show ((c + 1 : Nat) : Int) - 1 = (c : Int) by omega, wrap64' (x := 1 + v1) (by omega) (by omega), wrap64' (x := v2 + 1) (by omega) (by omega), wrap64' (x := v2 + 1 + v4) (by omega) (by omega), wrap64' (x := v5 - p) (by omega) (by omega), wrap64' (x := v5 - p + v6) (by omega) (by omega), hto]
      rw [← g4 R k0]
      simp only [List.map_append, List.map_cons, List.map_nil, Act.enc]

/-- A network that is made of integers is valid. -/
theorem networkA (n : Nat) (hn : 512 < n) {l : List Int} (hl : l.length ≤ 9223372036854775807) :
    ∃ (p : Int) (evs : List Ev) (acts : List Act), (2 ≤ p ∧ p ≤ 9) ∧ (1 ≤ evs.length ∧ evs.length ≤ 5) ∧ acts.length ≤ 8 ∧ (∀ a ∈ acts, a.ok p evs.length = true) ∧
      ∀ (R : Type) (K : Int → List (List D) → List (List D) → Option R), keep_Network n (encI l) K = K p (evs.map Ev.enc) (acts.map Act.enc) := by
  obtain ⟨v1, j1, a1, b1, c1, e1⟩ := nextA n hl (Nat.zero_le _) (m := 8) (by omega) (by omega)
  obtain ⟨v2, j2, a2, b2, c2, e2⟩ := nextA n hl c1 (m := 5) (by omega) (by omega)
  obtain ⟨c, hc⟩ : ∃ c : Nat, 1 + v2 = c := ⟨(1 + v2).toNat, by omega⟩
  obtain ⟨evs, j3, h1, h2, h3⟩ := evs_r6 n hl (2 + v1) c n j2 [] (by omega) c2 (by simp; omega)
  obtain ⟨v3, j4, a3, b3, c3, e3⟩ := nextA n hl h2 (m := 9) (by omega) (by omega)
  obtain ⟨d, hd⟩ : ∃ d : Nat, v3 = d := ⟨v3.toNat, by omega⟩
  subst hd
  obtain ⟨acts, j5, h4, h5, h6, x, h7⟩ := acts_r12 n hl (2 + v1) (by omega) evs.length (by simp at h1; omega) (evs.map Ev.enc) d n j4 [] (by omega) c3 (by simp; omega) (by simp)
  refine ⟨2 + v1, evs, acts, by omega, by simp at h1; omega, h4, h5, fun R K => ?_⟩
  simp -implicitDefEqProofs only [keep_Network, keep_Network_p21, keep_Network_p20, keep_Network_p19, keep_Network_p18, keep_Network_p17, keep_Network_p16, keep_Network_p15, keep_Network_p14, keep_Network_p13, keep_Network_p12, keep_Network_p10, keep_Network_p9, keep_Network_p8, keep_Network_p7, keep_Network_p6, keep_Network_p4, keep_Network_p3, keep_Network_p2, keep_Network_p1, keep_From, keep_From_p1, gb_some_eq]
  rw [show ((0 : Int)) = ((0 : Nat) : Int) from rfl]
  simp -implicitDefEqProofs only [e1, e2, gb_some_eq]
  rw [wrap64' (x := 2 + v1) (by omega) (by omega), wrap64' (x := 1 + v2) (by omega) (by omega), hc]
  rw [show ([] : List (List D)) = ([] : List Ev).map Ev.enc from rfl, h3]
  simp -implicitDefEqProofs only [e3, gb_some_eq, List.length_map]
  exact h7 _ _


theorem times_r6 (n : Nat) {l : List Int} (hl : l.length ≤ 9223372036854775807) (p : Int) (hp : 2 ≤ p ∧ p ≤ 7200) (evs acts : List (List D)) (ne : Nat) (hne : ne ≤ 512) : ∀ (c m i k : Nat) (out : List Int), c < m → i ≤ l.length → out.length = ne → k + c = ne → (∀ t ∈ out.take k, 0 ≤ t ∧ t < p) →
    ∃ (out' : List Int) (j : Nat), out'.length = ne ∧ (∀ t ∈ out', 0 ≤ t ∧ t < p) ∧ ∀ (R : Type) (k0 : Int → Bool → List (List D) → List (List D) → Int → Option R), keep_Times_r6 n ne p evs acts k0 m k (encI out) (encI l) i = k0 ne false (encI out') (encI l) j
  | 0, m, i, k, out, hm, hi, ho, hk, hr => by
    obtain ⟨m, rfl⟩ : ∃ m', m = m' + 1 := ⟨m - 1, by omega⟩
    refine ⟨out, i, ho, by rwa [List.take_of_length_le (by omega)] at hr, fun R k0 => ?_⟩
    rw [keep_Times_r6]
    unfold keep_Times_p5
    have hkk : k = ne := by omega
    subst hkk
    rw [bif_neg (by simp)]
    simp
  | c + 1, m, i, k, out, hm, hi, ho, hk, hr => by
    obtain ⟨m, rfl⟩ : ∃ m', m = m' + 1 := ⟨m - 1, by omega⟩
    obtain ⟨v1, j1, a1, b1, c1, e1⟩ := nextA n hl hi (m := p) (by omega) (by omega)
    obtain ⟨out', j, g1, g2, g3⟩ := times_r6 n hl p hp evs acts ne hne c m j1 (k + 1) (out.set k v1) (by omega) c1 (by simpa using ho) (by omega) (by
      intro t ht
      rw [List.take_set, List.take_add_one] at ht
      have hkl : k < out.length := by omega
      rw [List.getElem?_eq_getElem hkl] at ht
      rw [List.set_append_right _ _ (by simp; omega)] at ht
      rcases List.mem_append.1 ht with ht | ht
      · exact hr t ht
      · have : k - (List.take k out).length = 0 := by simp; omega
        rw [this] at ht
        simp at ht
        subst ht
        exact ⟨a1, b1⟩)
    refine ⟨out', j, g1, g2, fun R k0 => ?_⟩
    have hkl : k < out.length := by omega
    have hg : (encI out)[((k : Nat) : Int).toNat]? = some [.int .i64 out[k]] := by simp [encI, hkl]
    rw [keep_Times_r6]
    unfold keep_Times_p5
    rw [bif_pos (by simp; omega), inB_ok (by omega) (by rw [encI_length]; omega), hg]
    simp -implicitDefEqProofs only [gb_some_eq, e1]
    rw [wrap64' (by omega) (by omega), show ((k : Int) + 1) = ((k + 1 : Nat) : Int) from rfl]
    rw [← g3 R k0]
    congr 1
    simp [encI, List.map_set]

/-- Times: good times. -/
theorem timesA (n : Nat) (hn : 512 < n) {l : List Int} (hl : l.length ≤ 9223372036854775807) (p : Int) (hp : 2 ≤ p ∧ p ≤ 7200) (evs acts : List (List D)) (hne : evs.length ≤ 48) :
    ∃ (out : List Int), out.length = evs.length ∧ (∀ t ∈ out, 0 ≤ t ∧ t < p) ∧ ∀ (R : Type) (K : List (List D) → Option R), keep_Times n p evs acts (encI l) K = K (encI out) := by
  obtain ⟨out, j, h1, h2, h3⟩ := times_r6 n hl p hp evs acts evs.length (by omega) evs.length n 0 0 (List.replicate evs.length 0) (by omega) (Nat.zero_le _) (by simp) (by omega) (by simp)
  refine ⟨out, h1, h2, fun R K => ?_⟩
  simp -implicitDefEqProofs only [keep_Times, keep_Times_p13, keep_Times_p12, keep_Times_p11, keep_Times_p10, keep_Times_p9, keep_Times_p8, keep_Times_p7, keep_Times_p6, keep_Times_p4, keep_Times_p3, keep_Times_p2, keep_Times_p1, keep_From, keep_From_p1, gb_some_eq]
  rw [room_ok (by simp; omega), bif_pos (by simp)]
  simp -implicitDefEqProofs only [gb_some_eq, Int.toNat_natCast, List.length_replicate]
  have e : List.replicate evs.length [D.int .i64 0] = encI (List.replicate evs.length 0) := by simp [encI]
  rw [e]
  exact h3 _ _

theorem good_of {p : Int} {ne : Nat} {acts : List Act} {times : List Int} (hp : 2 ≤ p ∧ p ≤ 9) (hne : ne ≤ 5) (ha : acts.length ≤ 8) (hok : ∀ a ∈ acts, a.ok p ne = true) (ht : times.length = ne) (hr : ∀ t ∈ times, 0 ≤ t ∧ t < p) : netGood p ne acts times = true := by
  simp only [netGood, netCheck, timeOk, Bool.and_eq_true, decide_eq_true_eq, List.all_eq_true]
  exact ⟨⟨by omega, hok⟩, ht, hr⟩
end
end Go.Vx
/-
  The plain laws: NetworkMutations, NetworkDurations, NetworkShift.
-/
set_option linter.unusedSimpArgs false
set_option linter.unusedVariables false
namespace Go.Vx
section
variable {R : Type}

theorem awakeA (n : Nat) (hn : 512 < n) (K : Bool → Option R) : law11_awake n K = K true := by
  obtain ⟨m, rfl⟩ : ∃ m, n = m + 4 := ⟨n - 4, by omega⟩
  rfl

theorem mutationsA (n : Nat) (hn : 512 < n) {l : List Int} (hl : l.length ≤ 9223372036854775807) (a1 a2 a3 : Int) (a4 : Bool) : law11_NetworkMutations n (encI l) a1 a2 a3 a4 some = some true := by
  obtain ⟨p, evs, acts, hp, hne, ha, hok, hnet⟩ := networkA n hn hl
  simp -implicitDefEqProofs only [law11_NetworkMutations, law11_NetworkMutations_p14, law11_NetworkMutations_p13, law11_NetworkMutations_p12, law11_NetworkMutations_p11, law11_NetworkMutations_p10, law11_NetworkMutations_p9, law11_NetworkMutations_p8, law11_NetworkMutations_p7, law11_NetworkMutations_p6, law11_NetworkMutations_p5, law11_NetworkMutations_p4, law11_NetworkMutations_p3, law11_NetworkMutations_p2, law11_NetworkMutations_p1, hnet, gb_some_eq, awakeA n hn, List.length_map]
  by_cases h0 : acts.length = 0
  · rw [bif_pos (by simp [h0])]
  · rw [bif_neg (by simp; exact fun h => h0 (by simp [h]))]
    have hr := pick_range a1 (m := acts.length) (by omega)
    have hi : (pick a1 acts.length).toNat < acts.length := by omega
    have hg : (acts.map Act.enc)[(pick a1 acts.length).toNat]? = some (acts[(pick a1 acts.length).toNat].enc) := by simp [hi]
    simp -implicitDefEqProofs only [pickA n _ (show (0 : Int) < acts.length by omega) (by omega), pickA n _ (show (0 : Int) < 40 by omega) (by omega), pickA n _ (show (0 : Int) < 6 by omega) (by omega), gb_some_eq]
    rw [inB_ok hr.1 hr.2]
    simp -implicitDefEqProofs only [gb_some_eq, hg, cond_true]
    have key : ∀ (q : Int) (b : Act), (gb true (network_Check n q (evs.map Ev.enc) ((acts.map Act.enc).set (pick a1 acts.length).toNat b.enc) some) false fun r1 => gb true (ref11_Check n q (evs.map Ev.enc) ((acts.map Act.enc).set (pick a1 acts.length).toNat b.enc) some) false fun r2 => some (r1 == r2)) = some true := by
      intro q b
      rw [show (acts.map Act.enc).set (pick a1 acts.length).toNat b.enc = (acts.set (pick a1 acts.length).toNat b).map Act.enc by simp [List.map_set]]
      rw [checkA n hn, checkB n hn]
      simp -implicitDefEqProofs only [gb_some_eq, beq_self_eq_true]
    have key2 : ∀ (q : Int), (gb true (network_Check n q (evs.map Ev.enc) (acts.map Act.enc) some) false fun r1 => gb true (ref11_Check n q (evs.map Ev.enc) (acts.map Act.enc) some) false fun r2 => some (r1 == r2)) = some true := by
      intro q
      rw [checkA n hn, checkB n hn]
      simp -implicitDefEqProofs only [gb_some_eq, beq_self_eq_true]
    generalize acts[(pick a1 acts.length).toNat] = a at hg ⊢
    have all : ∀ w : Int, (bif pick a2 6 == 0 then (gb true (network_Check n p (evs.map Ev.enc) ((acts.map Act.enc).set (pick a1 acts.length).toNat (a.enc.set 1 (.int .i64 w))) some) false fun r1 => gb true (ref11_Check n p (evs.map Ev.enc) ((acts.map Act.enc).set (pick a1 acts.length).toNat (a.enc.set 1 (.int .i64 w))) some) false fun r2 => some (r1 == r2))
      else bif pick a2 6 == 1 then (gb true (network_Check n p (evs.map Ev.enc) ((acts.map Act.enc).set (pick a1 acts.length).toNat (a.enc.set 2 (.int .i64 w))) some) false fun r1 => gb true (ref11_Check n p (evs.map Ev.enc) ((acts.map Act.enc).set (pick a1 acts.length).toNat (a.enc.set 2 (.int .i64 w))) some) false fun r2 => some (r1 == r2))
      else bif pick a2 6 == 2 then (gb true (network_Check n p (evs.map Ev.enc) ((acts.map Act.enc).set (pick a1 acts.length).toNat (a.enc.set 3 (.int .i64 w))) some) false fun r1 => gb true (ref11_Check n p (evs.map Ev.enc) ((acts.map Act.enc).set (pick a1 acts.length).toNat (a.enc.set 3 (.int .i64 w))) some) false fun r2 => some (r1 == r2))
      else bif pick a2 6 == 3 then (gb true (network_Check n p (evs.map Ev.enc) ((acts.map Act.enc).set (pick a1 acts.length).toNat (a.enc.set 4 (.int .i64 w))) some) false fun r1 => gb true (ref11_Check n p (evs.map Ev.enc) ((acts.map Act.enc).set (pick a1 acts.length).toNat (a.enc.set 4 (.int .i64 w))) some) false fun r2 => some (r1 == r2))
      else bif pick a2 6 == 4 then (gb true (network_Check n p (evs.map Ev.enc) ((acts.map Act.enc).set (pick a1 acts.length).toNat (a.enc.set 5 (.int .i64 w))) some) false fun r1 => gb true (ref11_Check n p (evs.map Ev.enc) ((acts.map Act.enc).set (pick a1 acts.length).toNat (a.enc.set 5 (.int .i64 w))) some) false fun r2 => some (r1 == r2))
      else (gb true (network_Check n w (evs.map Ev.enc) (acts.map Act.enc) some) false fun r1 => gb true (ref11_Check n w (evs.map Ev.enc) (acts.map Act.enc) some) false fun r2 => some (r1 == r2))) = some true := by
      intro w
      have s1 : a.enc.set 1 (.int .i64 w) = Act.enc { a with frm := w } := rfl
      have s2 : a.enc.set 2 (.int .i64 w) = Act.enc { a with to := w } := rfl
      have s3 : a.enc.set 3 (.int .i64 w) = Act.enc { a with mn := w } := rfl
      have s4 : a.enc.set 4 (.int .i64 w) = Act.enc { a with mx := w } := rfl
      have s5 : a.enc.set 5 (.int .i64 w) = Act.enc { a with wt := w } := rfl
      simp -implicitDefEqProofs only [s1, s2, s3, s4, s5, key, key2, Bool.cond_self]
    rw [all, all]
    cases a4 <;> rfl

theorem firstBad_none {p : Int} {times : List Int} : ∀ (acts : List Act) (i : Nat), (firstBad p times acts i).isNone = acts.all fun a => decide (dur p times a ≤ a.mx)
  | [], i => rfl
  | a :: r, i => by
    rw [show firstBad p times (a :: r) i = bif decide (a.mx < dur p times a) then some i else firstBad p times r (i + 1) from rfl, List.all_cons, ← firstBad_none r (i + 1)]
    by_cases h : a.mx < dur p times a
    · have h' : ¬ dur p times a ≤ a.mx := by omega
      simp [h, h']
    · have h' : dur p times a ≤ a.mx := by omega
      simp [h, h']

theorem feas_all {p : Int} {ne : Nat} {acts : List Act} {times : List Int} (h : netGood p ne acts times = true) : netFeas p ne acts times = acts.all fun a => decide (dur p times a ≤ a.mx) := by
  rw [← firstBad_none acts 0]
  simp only [netFeas, h, Bool.true_and, netFirst, cond_true]
  cases firstBad p times acts 0 <;> rfl

theorem durations_r7 {p : Int} {acts : List Act} {times : List Int} (evs : List (List D)) (h : netGood p evs.length acts times = true) (n : Nat) (hn : 512 < n) (k0 : Option R) (k1 : Bool → Int → Bool → Option R) (kx : Bool → Option R) (hk : ∀ b x y, k1 b x y = kx b) : ∀ (suf : List Act) (i m : Nat) (ok : Bool), acts.drop i = suf → suf.length < m →
    law11_NetworkDurations_r7 n (encI times) acts.length p evs (acts.map Act.enc) k0 k1 m ok i = kx (ok && suf.all fun a => decide (dur p times a ≤ a.mx))
  | [], i, m, ok, hd, hm => by
    have hi := drop_nil hd
    obtain ⟨m, rfl⟩ : ∃ m', m = m' + 1 := ⟨m - 1, by omega⟩
    rw [law11_NetworkDurations_r7]
    unfold law11_NetworkDurations_p6
    rw [bif_neg (by simpa using hi)]
    simp only [hk, List.all_nil, Bool.and_true]
  | a :: suf, i, m, ok, hd, hm => by
    obtain ⟨h1, h2, h3⟩ := drop_cons hd
    obtain ⟨m, rfl⟩ : ∃ m', m = m' + 1 := ⟨m - 1, by omega⟩
    obtain ⟨f1, f2, f3, f4, f5, f6⟩ := good_facts h
    have ha := List.mem_of_getElem? h1
    have hok := f6 a ha
    simp only [Act.ok, decide_eq_true_eq] at hok
    have hd := dur_ok h ha
    have l1 : a.to.toNat < times.length := by omega
    have l2 : a.frm.toNat < times.length := by omega
    have g1 : times[a.to.toNat]? = some (times.getD a.to.toNat 0) := by simp [List.getD, List.getElem?_eq_getElem l1]
    have g2 : times[a.frm.toNat]? = some (times.getD a.frm.toNat 0) := by simp [List.getD, List.getElem?_eq_getElem l2]
    have b1 := f5 _ (List.mem_of_getElem? g1)
    have b2 := f5 _ (List.mem_of_getElem? g2)
    rw [law11_NetworkDurations_r7]
    unfold law11_NetworkDurations_p6
    rw [bif_pos (by simpa using h3), rowAt_get h1]
    simp -implicitDefEqProofs only [Act.enc, gb_some_eq, List.getElem?_cons_zero, List.getElem?_cons_succ, pInt_i64]
    rw [show (acts.map Act.enc) = acts.map Act.enc from rfl, durationA n hn, show rowAt (encI times) a.to = _ from rowAt_int (f := fun n => [D.int .i64 n]) (by omega) g1, show rowAt (encI times) a.frm = _ from rowAt_int (f := fun n => [D.int .i64 n]) (by omega) g2]
    have hnd : netDur p evs.length acts times i = dur p times a := by simp [netDur, h, h1]
    simp -implicitDefEqProofs only [gb_some_eq, List.getElem?_cons_zero, pInt_i64, hnd, modB n _ p (by omega)]
    have hz : mod (dur p times a - (times.getD a.to.toNat 0 - times.getD a.frm.toNat 0)) p = 0 := by
      unfold dur mod
      rw [if_neg (by omega), if_neg (by omega)]
      generalize times.getD a.to.toNat 0 = x
      generalize times.getD a.frm.toNat 0 = y
      have := Int.mul_ediv_add_emod (x - y - a.mn) p
      rw [show a.mn + (x - y - a.mn) % p - (x - y) = 0 + p * (-((x - y - a.mn) / p)) by rw [Int.mul_neg]; omega, Int.add_mul_emod_self_left]
      rfl
    rw [wrap64' (x := a.mn + p) (by omega) (by omega), wrap64' (x := times.getD a.to.toNat 0 - times.getD a.frm.toNat 0) (by omega) (by omega), wrap64' (x := dur p times a - (times.getD a.to.toNat 0 - times.getD a.frm.toNat 0)) (by omega) (by omega), hz]
    rw [bif_neg (by simp; omega), wrap64' (by omega) (by omega), show ((i : Int) + 1) = ((i + 1 : Nat) : Int) from rfl, durations_r7 evs h n hn k0 k1 kx hk suf (i + 1) m _ h2 (by simp at hm; omega)]
    simp only [List.all_cons, Bool.cond_false_right, Bool.and_assoc]

theorem durationsA (n : Nat) (hn : 512 < n) {l t : List Int} (hl : l.length ≤ 9223372036854775807) (ht : t.length ≤ 9223372036854775807) : law11_NetworkDurations n (encI l) (encI t) some = some true := by
  obtain ⟨p, evs, acts, hp, hne, ha, hok, hnet⟩ := networkA n hn hl
  obtain ⟨times, t1, t2, t3⟩ := timesA n hn ht p (by omega) (evs.map Ev.enc) (acts.map Act.enc) (by simp; omega)
  have hg : netGood p (evs.map Ev.enc).length acts times = true := good_of hp (by simp; omega) ha (by simpa using hok) t1 t2
  simp -implicitDefEqProofs only [law11_NetworkDurations_p1, law11_NetworkDurations_p2, law11_NetworkDurations_p3, law11_NetworkDurations_p4, law11_NetworkDurations_p5, law11_NetworkDurations_p7, law11_NetworkDurations_p8, law11_NetworkDurations_p9, law11_NetworkDurations_p10, law11_NetworkDurations_p11, law11_NetworkDurations_p12, law11_NetworkDurations_p13, law11_NetworkDurations_p14, law11_NetworkDurations_p15, law11_NetworkDurations, hnet, gb_some_eq, t3, awakeA n hn, feasA n hn]
  rw [show (0 : Int) = ((0 : Nat) : Int) from rfl, show ((acts.map Act.enc).length : Int) = (acts.length : Int) by simp]
  rw [durations_r7 (evs.map Ev.enc) hg n hn _ _ (fun b => some (netFeas p (evs.map Ev.enc).length acts times == b)) (fun b x y => by rfl) acts 0 n true rfl (by omega), feas_all hg]
  simp

theorem shift_r8 (n : Nat) (by_ p : Int) (hp : 2 ≤ p ∧ p ≤ 9) (hb : 0 ≤ by_ ∧ by_ < p) (evs acts : List (List D)) {x : List Int} (hx : ∀ t ∈ x, 0 ≤ t ∧ t < p) (hl : x.length ≤ 48) (k0 : Int → Bool → List (List D) → Option R) : ∀ (suf : List Int) (i m : Nat) (y : List Int), x.drop i = suf → suf.length < m → y.length ≤ i → i ≤ x.length →
    law11_NetworkShift_r8 n by_ (encI x) x.length p evs acts k0 m i (encI y) = k0 x.length false (encI (y ++ suf.map fun t => (t + by_) % p))
  | [], i, m, y, hd, hm, hy, hi' => by
    have hi := drop_nil hd
    obtain rfl : i = x.length := by omega
    obtain ⟨m, rfl⟩ : ∃ m', m = m' + 1 := ⟨m - 1, by omega⟩
    rw [law11_NetworkShift_r8]
    unfold law11_NetworkShift_p7
    rw [bif_neg (by simp)]
    simp
  | a :: suf, i, m, y, hd, hm, hy, hi' => by
    obtain ⟨h1, h2, h3⟩ := drop_cons hd
    obtain ⟨m, rfl⟩ : ∃ m', m = m' + 1 := ⟨m - 1, by omega⟩
    have ha := hx a (List.mem_of_getElem? h1)
    rw [law11_NetworkShift_r8]
    unfold law11_NetworkShift_p7
    rw [bif_pos (by simpa using h3), encI_get h1, nz_ok (by omega)]
    simp -implicitDefEqProofs only [gb_some_eq, List.getElem?_cons_zero, pInt_i64]
    rw [room_ok (by simp [encI_length]; omega)]
    simp -implicitDefEqProofs only [gb_some_eq]
    rw [wrap64' (x := a + by_) (by omega) (by omega), Int.tmod_eq_emod_of_nonneg (by omega), wrap64' (by omega) (by omega), show ((i : Int) + 1) = ((i + 1 : Nat) : Int) from rfl]
    rw [show encI y ++ [[D.int .i64 ((a + by_) % p)]] = encI (y ++ [(a + by_) % p]) by simp [encI]]
    rw [shift_r8 n by_ p hp hb evs acts hx hl k0 suf (i + 1) m _ h2 (by simp at hm; omega) (by simp; omega) (by omega)]
    simp

theorem dur_shift {p by_ : Int} (hp : 2 ≤ p) {x : List Int} {a : Act} (h1 : a.to.toNat < x.length) (h2 : a.frm.toNat < x.length) : dur p (x.map fun t => (t + by_) % p) a = dur p x a := by
  unfold dur
  congr 1
  unfold mod
  rw [if_neg (by omega), if_neg (by omega)]
  simp only [List.getD, List.getElem?_map, List.getElem?_eq_getElem h1, List.getElem?_eq_getElem h2, Option.map_some, Option.getD_some]
  generalize x[a.to.toNat] = u
  generalize x[a.frm.toNat] = v
  have e1 := Int.mul_ediv_add_emod (u + by_) p
  have e2 := Int.mul_ediv_add_emod (v + by_) p
  rw [show (u + by_) % p - (v + by_) % p - a.mn = (u - v - a.mn) + p * ((v + by_) / p - (u + by_) / p) by rw [Int.mul_sub]; omega, Int.add_mul_emod_self_left]

theorem shift_r15 {p : Int} {acts : List Act} {x y : List Int} (evs : List (List D)) (hx : netGood p evs.length acts x = true) (hy : netGood p evs.length acts y = true) (he : ∀ a ∈ acts, dur p y a = dur p x a) (n : Nat) (hn : 512 < n) (c1 c2 c3 c4 : Int) (k0 : Option R) (k1 : Int → Bool → Option R) (kx : Option R) (hk : ∀ x y, k1 x y = kx) : ∀ (suf : List Act) (i m : Nat), acts.drop i = suf → suf.length < m →
    law11_NetworkShift_r15 n (encI x) c1 c2 c3 c4 acts.length p evs (acts.map Act.enc) (encI y) k0 k1 m i = kx
  | [], i, m, hd, hm => by
    have hi := drop_nil hd
    obtain ⟨m, rfl⟩ : ∃ m', m = m' + 1 := ⟨m - 1, by omega⟩
    rw [law11_NetworkShift_r15]
    unfold law11_NetworkShift_p14
    rw [bif_neg (by simpa using hi)]
    exact hk _ _
  | a :: suf, i, m, hd, hm => by
    obtain ⟨h1, h2, h3⟩ := drop_cons hd
    obtain ⟨m, rfl⟩ : ∃ m', m = m' + 1 := ⟨m - 1, by omega⟩
    have hl := (good_facts hx).2.2.1
    rw [law11_NetworkShift_r15]
    unfold law11_NetworkShift_p14
    rw [bif_pos (by simpa using h3)]
    simp -implicitDefEqProofs only [durationA n hn, gb_some_eq]
    have e1 : netDur p evs.length acts x i = dur p x a := by simp [netDur, hx, h1]
    have e2 : netDur p evs.length acts y i = dur p x a := by simp [netDur, hy, h1, he a (List.mem_of_getElem? h1)]
    rw [e1, e2, bif_neg (by simp), wrap64' (by omega) (by omega), show ((i : Int) + 1) = ((i + 1 : Nat) : Int) from rfl]
    exact shift_r15 evs hx hy he n hn c1 c2 c3 c4 k0 k1 kx hk suf (i + 1) m h2 (by simp at hm; omega)

theorem costOf_congr {p : Int} {x y : List Int} : ∀ (acts : List Act), (∀ a ∈ acts, dur p y a = dur p x a) → costOf p y acts = costOf p x acts
  | [], _ => rfl
  | a :: r, h => by
    rw [show costOf p y (a :: r) = a.wt * dur p y a + costOf p y r from rfl, show costOf p x (a :: r) = a.wt * dur p x a + costOf p x r from rfl, h a (by simp), costOf_congr r fun b hb => h b (by simp [hb])]

theorem shiftA (n : Nat) (hn : 512 < n) {l t : List Int} (hl : l.length ≤ 9223372036854775807) (ht : t.length ≤ 9223372036854775807) (b : Int) : law11_NetworkShift n (encI l) (encI t) b some = some true := by
  obtain ⟨p, evs, acts, hp, hne, ha, hok, hnet⟩ := networkA n hn hl
  obtain ⟨x, t1, t2, t3⟩ := timesA n hn ht p (by omega) (evs.map Ev.enc) (acts.map Act.enc) (by simp; omega)
  have hgx : netGood p (evs.map Ev.enc).length acts x = true := good_of hp (by simp; omega) ha (by simpa using hok) t1 t2
  have hb := pick_range b (m := p) (by omega)
  have hl48 : x.length ≤ 48 := by rw [t1]; simp; omega
  have hy : ∀ s ∈ (x.map fun t => (t + pick b p) % p), 0 ≤ s ∧ s < p := by
    intro s hs
    obtain ⟨q, _, rfl⟩ := List.mem_map.1 hs
    exact ⟨Int.emod_nonneg _ (by omega), Int.emod_lt_of_pos _ (by omega)⟩
  have hgy : netGood p (evs.map Ev.enc).length acts (x.map fun t => (t + pick b p) % p) = true := good_of hp (by simp; omega) ha (by simpa using hok) (by simpa using t1) hy
  have hdur : ∀ a ∈ acts, dur p (x.map fun t => (t + pick b p) % p) a = dur p x a := by
    intro a haa
    have := hok a haa
    simp only [Act.ok, decide_eq_true_eq] at this
    simp only [List.length_map] at t1
    exact dur_shift (by omega) (by omega) (by omega)
  simp -implicitDefEqProofs only [law11_NetworkShift_p1, law11_NetworkShift_p2, law11_NetworkShift_p3, law11_NetworkShift_p4, law11_NetworkShift_p5, law11_NetworkShift_p6, law11_NetworkShift_p8, law11_NetworkShift_p9, law11_NetworkShift_p10, law11_NetworkShift_p11, law11_NetworkShift_p12, law11_NetworkShift_p13, law11_NetworkShift_p15, law11_NetworkShift_p16, law11_NetworkShift_p17, law11_NetworkShift_p18, law11_NetworkShift_p19, law11_NetworkShift_p20, law11_NetworkShift_p21, law11_NetworkShift_p22, law11_NetworkShift_p23, law11_NetworkShift_p24, law11_NetworkShift_p25, law11_NetworkShift_p26, law11_NetworkShift_p27, law11_NetworkShift, hnet, gb_some_eq, t3, pickA n b (show 0 < p by omega) (by omega), awakeA n hn]
  rw [show (0 : Int) = ((0 : Nat) : Int) from rfl, show ([] : List (List D)) = encI [] from rfl, show ((encI x).length : Int) = (x.length : Int) by rw [encI_length], show ((acts.map Act.enc).length : Int) = (acts.length : Int) by simp]
  rw [shift_r8 n (pick b p) p hp hb _ _ t2 hl48 _ x 0 n [] rfl (by omega) (by simp) (by omega), List.nil_append]
  simp -implicitDefEqProofs only [costA n hn, gb_some_eq]
  rw [shift_r15 (evs.map Ev.enc) hgx hgy hdur n hn _ _ _ _ _ _ _ (fun _ _ => rfl) acts 0 n rfl (by omega)]
  simp -implicitDefEqProofs only [feasA n hn, gb_some_eq]
  have c1 : netCost p (evs.map Ev.enc).length acts x = (costOf p x acts, 0) := by unfold netCost; rw [hgx]; rfl
  have c2 : netCost p (evs.map Ev.enc).length acts (x.map fun t => (t + pick b p) % p) = (costOf p x acts, 0) := by rw [← costOf_congr acts hdur]; unfold netCost; rw [hgy]; rfl
  rw [c1, c2, feas_all hgx, feas_all hgy]
  have : (acts.all fun a => decide (dur p (x.map fun t => (t + pick b p) % p) a ≤ a.mx)) = acts.all fun a => decide (dur p x a ≤ a.mx) := by
    rw [Bool.eq_iff_iff]
    simp only [List.all_eq_true, decide_eq_true_eq]
    constructor
    · intro h a haa; rw [← hdur a haa]; exact h a haa
    · intro h a haa; rw [hdur a haa]; exact h a haa
  rw [this]
  simp
end
end Go.Vx
/-
  The plain laws: NetworkExamples, NetworkRaw, NetworkGenerated.
-/
set_option linter.unusedSimpArgs false
set_option linter.unusedVariables false
namespace Go.Vx
section
variable {R : Type}

theorem dec_act (r : List D) (h : FitL [.int .i64, .int .i64, .int .i64, .int .i64, .int .i64, .int .i64] r) : ∃ a : Act, r = a.enc ∧ True := by
  obtain ⟨x0, r, rfl, f0, h⟩ := fitL_cons h
  obtain ⟨x1, r, rfl, f1, h⟩ := fitL_cons h
  obtain ⟨x2, r, rfl, f2, h⟩ := fitL_cons h
  obtain ⟨x3, r, rfl, f3, h⟩ := fitL_cons h
  obtain ⟨x4, r, rfl, f4, h⟩ := fitL_cons h
  obtain ⟨x5, r, rfl, f5, h⟩ := fitL_cons h
  have := fitL_nil h
  subst this
  obtain ⟨n0, rfl, _⟩ := fit_int f0
  obtain ⟨n1, rfl, _⟩ := fit_int f1
  obtain ⟨n2, rfl, _⟩ := fit_int f2
  obtain ⟨n3, rfl, _⟩ := fit_int f3
  obtain ⟨n4, rfl, _⟩ := fit_int f4
  obtain ⟨n5, rfl, _⟩ := fit_int f5
  exact ⟨⟨n0, n1, n2, n3, n4, n5⟩, rfl, trivial⟩
theorem dec_ev (r : List D) (h : FitL [.int .i64, .int .i64, .int .i64] r) : ∃ a : Ev, r = a.enc ∧ True := by
  obtain ⟨x0, r, rfl, f0, h⟩ := fitL_cons h
  obtain ⟨x1, r, rfl, f1, h⟩ := fitL_cons h
  obtain ⟨x2, r, rfl, f2, h⟩ := fitL_cons h
  have := fitL_nil h
  subst this
  obtain ⟨n0, rfl, _⟩ := fit_int f0
  obtain ⟨n1, rfl, _⟩ := fit_int f1
  obtain ⟨n2, rfl, _⟩ := fit_int f2
  exact ⟨⟨n0, n1, n2⟩, rfl, trivial⟩

/-- The first event that is equal. -/
def evIdx (k l r : Int) : List Ev → Nat → Option Nat
  | [], _ => none
  | e :: es, i => bif (k == e.kind) && ((l == e.line) && (r == e.ride)) then some i else evIdx k l r es (i + 1)

def idxVal : Option Nat → Int
  | some j => j
  | none => -1

theorem idxA_r4 (n : Nat) (evs : List Ev) (k l r : Int) (hl : evs.length ≤ 9223372036854775807) (k0 : Int → Option R) (k1 : Int → Bool → Option R) (kx : Option R) (hk : ∀ x y, k1 x y = kx) : ∀ (suf : List Ev) (i m : Nat), evs.drop i = suf → suf.length < m →
    slices_Index_railplan_api_Event_railplan_api_Event_r4 n (evs.map Ev.enc) evs.length k l r k0 k1 m i = match evIdx k l r suf i with | some j => k0 j | none => kx
  | [], i, m, hd, hm => by
    have hi := drop_nil hd
    obtain ⟨m, rfl⟩ : ∃ m', m = m' + 1 := ⟨m - 1, by omega⟩
    rw [slices_Index_railplan_api_Event_railplan_api_Event_r4]
    unfold slices_Index_railplan_api_Event_railplan_api_Event_p3
    rw [bif_neg (by simpa using hi)]
    exact hk _ _
  | a :: suf, i, m, hd, hm => by
    obtain ⟨h1, h2, h3⟩ := drop_cons hd
    obtain ⟨m, rfl⟩ : ∃ m', m = m' + 1 := ⟨m - 1, by omega⟩
    rw [slices_Index_railplan_api_Event_railplan_api_Event_r4]
    unfold slices_Index_railplan_api_Event_railplan_api_Event_p3
    rw [bif_pos (by simpa using h3), rowAt_get h1]
    simp -implicitDefEqProofs only [Ev.enc, gb_some_eq, List.getElem?_cons_zero, List.getElem?_cons_succ, pInt_i64]
    rw [wrap64' (by omega) (by omega), show ((i : Int) + 1) = ((i + 1 : Nat) : Int) from rfl, idxA_r4 n evs k l r hl k0 k1 kx hk suf (i + 1) m h2 (by simp at hm; omega)]
    rw [show evIdx k l r (a :: suf) i = bif (k == a.kind) && ((l == a.line) && (r == a.ride)) then some i else evIdx k l r suf (i + 1) from rfl]
    cases ((k == a.kind) && ((l == a.line) && (r == a.ride))) <;> rfl

theorem indexA (n : Nat) (evs : List Ev) (hn : evs.length < n) (hl : evs.length ≤ 9223372036854775807) (p : Int) (acts : List (List D)) (k l r : Int) (K : Int → Option R) : network_Index n p (evs.map Ev.enc) acts k l r K = K (idxVal (evIdx k l r evs 0)) := by
  simp -implicitDefEqProofs only [network_Index_p1, network_Index, slices_Index_railplan_api_Event_railplan_api_Event_p1, slices_Index_railplan_api_Event_railplan_api_Event_p2, slices_Index_railplan_api_Event_railplan_api_Event_p4, slices_Index_railplan_api_Event_railplan_api_Event_p5, slices_Index_railplan_api_Event_railplan_api_Event_p6, slices_Index_railplan_api_Event_railplan_api_Event_p7, slices_Index_railplan_api_Event_railplan_api_Event_p8, slices_Index_railplan_api_Event_railplan_api_Event_p9, slices_Index_railplan_api_Event_railplan_api_Event, List.length_map]
  rw [show (0 : Int) = ((0 : Nat) : Int) from rfl, idxA_r4 n evs k l r hl _ _ (some (-1)) (fun _ _ => rfl) evs 0 n rfl hn]
  cases evIdx k l r evs 0 <;> rfl

theorem idxB_r4 (n : Nat) (evs : List Ev) (p : Int) (acts : List (List D)) (k l r : Int) (hl : evs.length ≤ 9223372036854775807) (k0 : Int → Option R) (k1 : Int → Bool → Option R) (kx : Option R) (hk : ∀ x y, k1 x y = kx) : ∀ (suf : List Ev) (i m : Nat), evs.drop i = suf → suf.length < m →
    ref11_Index_r4 n p (evs.map Ev.enc) acts k l r k0 k1 m i = match evIdx k l r suf i with | some j => k0 j | none => kx
  | [], i, m, hd, hm => by
    have hi := drop_nil hd
    obtain ⟨m, rfl⟩ : ∃ m', m = m' + 1 := ⟨m - 1, by omega⟩
    rw [ref11_Index_r4]
    unfold ref11_Index_p3
    rw [bif_neg (by simpa using hi)]
    exact hk _ _
  | a :: suf, i, m, hd, hm => by
    obtain ⟨h1, h2, h3⟩ := drop_cons hd
    obtain ⟨m, rfl⟩ : ∃ m', m = m' + 1 := ⟨m - 1, by omega⟩
    rw [ref11_Index_r4]
    unfold ref11_Index_p3
    rw [bif_pos (by simpa using h3), rowAt_get h1]
    simp -implicitDefEqProofs only [Ev.enc, gb_some_eq, List.getElem?_cons_zero, List.getElem?_cons_succ, pInt_i64]
    rw [wrap64' (by omega) (by omega), show ((i : Int) + 1) = ((i + 1 : Nat) : Int) from rfl, idxB_r4 n evs p acts k l r hl k0 k1 kx hk suf (i + 1) m h2 (by simp at hm; omega)]
    rw [show evIdx k l r (a :: suf) i = bif (k == a.kind) && ((l == a.line) && (r == a.ride)) then some i else evIdx k l r suf (i + 1) from rfl]
    rw [show ((a.kind == k) && ((a.line == l) && (a.ride == r))) = ((k == a.kind) && ((l == a.line) && (r == a.ride))) by rw [Bool.beq_comm, Bool.beq_comm (a := a.line), Bool.beq_comm (a := a.ride)]]
    cases ((k == a.kind) && ((l == a.line) && (r == a.ride))) <;> rfl

theorem indexB (n : Nat) (evs : List Ev) (hn : evs.length < n) (hl : evs.length ≤ 9223372036854775807) (p : Int) (acts : List (List D)) (k l r : Int) (K : Int → Option R) : ref11_Index n p (evs.map Ev.enc) acts k l r K = K (idxVal (evIdx k l r evs 0)) := by
  simp -implicitDefEqProofs only [ref11_Index_p1, ref11_Index_p2, ref11_Index_p4, ref11_Index_p5, ref11_Index_p6, ref11_Index_p7, ref11_Index_p8, ref11_Index_p9, ref11_Index]
  rw [show (0 : Int) = ((0 : Nat) : Int) from rfl, idxB_r4 n evs p acts k l r hl _ _ (K (-1)) (fun _ _ => rfl) evs 0 n rfl hn]
  cases evIdx k l r evs 0 <;> rfl

theorem agreesA (n : Nat) (hn : 512 < n) (evs : List Ev) (hne : evs.length < n) (hl : evs.length ≤ 9223372036854775807) (p : Int) (acts : List Act) (times : List Int) (a k l r : Int) (K : Bool → Option R) : law11_agrees n p (evs.map Ev.enc) (acts.map Act.enc) (encI times) a k l r K = K true := by
  simp -implicitDefEqProofs only [law11_agrees, law11_agrees_p1, firstA n hn, firstB n hn, costA n hn, costB n hn, checkA n hn, checkB n hn, goodA n hn, goodB n hn, durationA n hn, durationB n hn, feasA n hn, feasB n hn, indexA n evs hne hl, indexB n evs hne hl, gb_some_eq, beq_self_eq_true, Bool.cond_false_right, Bool.and_true]

theorem smallA (n : Nat) (K : Int → List (List D) → List (List D) → Option R) : law11_small n K = K 10 ([(⟨1, 0, 0⟩ : Ev), ⟨2, 0, 0⟩].map Ev.enc) ([(⟨1, 0, 1, 3, 5, 2⟩ : Act)].map Act.enc) := rfl

theorem rawA (n : Nat) (hn : 512 < n) (evs : List Ev) (hne : evs.length < n) (hl : evs.length ≤ 9223372036854775807) (p : Int) (acts : List Act) (times : List Int) (a k l r : Int) : law11_NetworkRaw n p (evs.map Ev.enc) (acts.map Act.enc) (encI times) a k l r some = some true := by
  simp -implicitDefEqProofs only [law11_NetworkRaw, law11_NetworkRaw_p1, awakeA n hn, gb_some_eq, agreesA n hn evs hne hl, smallA, agreesA n hn [(⟨1, 0, 0⟩ : Ev), ⟨2, 0, 0⟩] (by simp; omega) (by simp), cond_true]

theorem examplesA (n : Nat) (hn : 512 < n) : law11_NetworkExamples n some = some true := by
  obtain ⟨m, rfl⟩ : ∃ m, n = m + 4 := ⟨n - 4, by omega⟩
  rfl

theorem generatedA (n : Nat) (hn : 512 < n) {l t : List Int} (hl : l.length ≤ 9223372036854775807) (ht : t.length ≤ 9223372036854775807) (a k x y : Int) : law11_NetworkGenerated n (encI l) (encI t) a k x y some = some true := by
  obtain ⟨p, evs, acts, hp, hne, ha, hok, hnet⟩ := networkA n hn hl
  obtain ⟨times, t1, t2, t3⟩ := timesA n hn ht p (by omega) (evs.map Ev.enc) (acts.map Act.enc) (by simp; omega)
  have hg : netGood p (evs.map Ev.enc).length acts times = true := good_of hp (by simp; omega) ha (by simpa using hok) t1 t2
  have hc : netCheck p (evs.map Ev.enc).length acts = true := by
    unfold netGood at hg
    simp only [Bool.and_eq_true] at hg
    exact hg.1
  have hw : IntKind.wrap .i64 (((acts.map Act.enc).length : Int) + 2) = (acts.length : Int) + 2 := by rw [List.length_map, wrap64' (by omega) (by omega)]
  simp -implicitDefEqProofs only [law11_NetworkGenerated, law11_NetworkGenerated_p1, hnet, gb_some_eq, hw, pickA n _ (show (0 : Int) < acts.length + 2 by omega) (by omega), pickA n _ (show (0 : Int) < 2 by omega) (by omega), pickA n _ (show (0 : Int) < 3 by omega) (by omega), awakeA n hn, checkA n hn, hc, t3, agreesA n hn evs (by omega) (by omega), cond_true]
end
end Go.Vx
