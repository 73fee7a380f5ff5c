/- Part of a proof: texts VxGen VxGen2 VxRow VxLaw VxAb VxGen3 VxGen4 VxHand VxBld VxPlain. No conditions of their own. -/
import Derived.Test.YtdjncnnhobmhaaaDoorTB
import Derived.ProofKit
import Derived.ChangeOld
import Derived.Carry
import Derived.ChangeArms
import Derived.WideShapes
import Derived.Lib.AppendStr
import Derived.IntWalk
/-
  What the generated texts lean on: entries of the table of callees, canonical forms of arguments and results, equations of the interpreter.
-/
namespace Go.Vx
section
variable {P : Program} {R : Type}

/-! canonical forms -/

def AVle (av av' : AV) : Prop := ∀ (β : Nat → Option Nat) (S : Nat → Prop) (h : Nat → Option Ob) (w : World) (tm : Nat → Value) (v : Value), RdA β S h w tm v av → RdA β S h w tm v av'

theorem AVle.refl (av : AV) : AVle av av := fun _ _ _ _ _ _ h => h
theorem AVle.of_eq {a b : AV} (h : a = b) : AVle a b := h ▸ AVle.refl a
theorem AVle.nil (s : Nat) : AVle .nil (.d (.sl s [])) := fun _ _ _ _ _ v h => by rw [h.nil_inv]; exact .d _ _ (.sl0 _ _ _)

inductive AVleL : List AV → List AV → Prop
  | nil : AVleL [] []
  | cons {a b : AV} {l r : List AV} (h : AVle a b) (t : AVleL l r) : AVleL (a :: l) (b :: r)

theorem AVleL.length {l r : List AV} (h : AVleL l r) : l.length = r.length := by induction h <;> simp [*]
theorem AVleL.at {l r : List AV} (h : AVleL l r) : ∀ (i : Nat) (x : AV), r[i]? = some x → ∃ y, l[i]? = some y ∧ AVle y x := by
  induction h with
  | nil => intro i x hx; simp at hx
  | cons h0 _ ih =>
    intro i x hx
    cases i with
    | zero => simp at hx; subst hx; exact ⟨_, rfl, h0⟩
    | succ i => obtain ⟨y, h1, h2⟩ := ih i x (by simpa using hx); exact ⟨y, by simpa using h1, h2⟩
theorem AVleL.refl : ∀ l : List AV, AVleL l l
  | [] => .nil
  | a :: r => .cons (AVle.refl a) (AVleL.refl r)

theorem AVle.ag {l r : List AV} (h : AVleL l r) : AVle (.ag l) (.ag r) := fun _ _ _ _ _ v hv => by
  obtain ⟨cs, rfl, hsz, hr⟩ := hv.ag_inv
  refine .ag cs r (hsz.trans h.length) fun i x hx => ?_
  obtain ⟨y, h1, h2⟩ := h.at i x hx
  exact h2 _ _ _ _ _ _ (hr i y h1)
theorem AVle.tup {l r : List AV} (h : AVleL l r) : AVle (.tup l) (.tup r) := fun _ _ _ _ _ v hv => by
  obtain ⟨cs, rfl, hsz, hr⟩ := hv.tup_inv
  refine .tup cs r (hsz.trans h.length) fun i x hx => ?_
  obtain ⟨y, h1, h2⟩ := h.at i x hx
  exact h2 _ _ _ _ _ _ (hr i y h1)

theorem CallOK.conv {f : Nat} {avs avs' : List AV} {hl : Nat → Option Ob} {dl : Dl} (h : AVleL avs avs') (hc : CallOK P f avs' hl dl) : CallOK P f avs hl dl := by
  obtain ⟨h1, h2⟩ := hc
  refine ⟨h1, fun β S hh w args hO hA hl' => h2 β S hh w args hO ⟨hA.1.trans h.length, fun i v av hv hav => ?_⟩ hl'⟩
  obtain ⟨y, g1, g2⟩ := h.at i av hav
  exact g2 _ _ _ _ _ _ (hA.2 i v y hv g1)

/-- The projections of arguments. -/
def prI (g : Bool) (ik : IntKind) (av : AV) (k : Int → Option R) : Option R :=
  match av with
  | .d x => gb g (pInt ik x) 0 k
  | _ => none
def prB (g : Bool) (av : AV) (k : Bool → Option R) : Option R :=
  match av with
  | .d x => gb g (pBool x) false k
  | _ => none
def prT (g : Bool) (av : AV) (k : List UInt8 → Option R) : Option R :=
  match av with
  | .d x => gb g (pStr x) [] k
  | _ => none
def prS (g : Bool) (esz : Nat) (av : AV) (k : List (List D) → Option R) : Option R :=
  match av with
  | .d x => gb g (pSl esz x) [] k
  | .nil => k []
  | _ => none
def prG (av : AV) (k : List AV → Option R) : Option R :=
  match av with
  | .ag l => k l
  | _ => none

theorem prI_some {g : Bool} {ik : IntKind} {av : AV} {k : Int → Option R} {r : R} (h : prI g ik av k = some r) : ∃ n, k n = some r ∧ (g = true → AVle av (.d (.int ik n))) := by
  unfold prI at h
  split at h
  · obtain ⟨n, hn, hp⟩ := gb_some h
    exact ⟨n, hn, fun hg => .of_eq (by rw [pInt_some (hp hg)])⟩
  · cases h
theorem prB_some {g : Bool} {av : AV} {k : Bool → Option R} {r : R} (h : prB g av k = some r) : ∃ n, k n = some r ∧ (g = true → AVle av (.d (.bool n))) := by
  unfold prB at h
  split at h
  · obtain ⟨n, hn, hp⟩ := gb_some h
    exact ⟨n, hn, fun hg => .of_eq (by rw [pBool_some (hp hg)])⟩
  · cases h
theorem prT_some {g : Bool} {av : AV} {k : List UInt8 → Option R} {r : R} (h : prT g av k = some r) : ∃ n, k n = some r ∧ (g = true → AVle av (.d (.str n))) := by
  unfold prT at h
  split at h
  · obtain ⟨n, hn, hp⟩ := gb_some h
    exact ⟨n, hn, fun hg => .of_eq (by rw [pStr_some (hp hg)])⟩
  · cases h
theorem prS_some {g : Bool} {esz : Nat} {av : AV} {k : List (List D) → Option R} {r : R} (h : prS g esz av k = some r) : ∃ n, k n = some r ∧ (g = true → AVle av (.d (.sl esz n))) := by
  unfold prS at h
  split at h
  · obtain ⟨n, hn, hp⟩ := gb_some h
    exact ⟨n, hn, fun hg => .of_eq (by rw [pSl_some (hp hg)])⟩
  · exact ⟨[], h, fun _ => .nil _⟩
  · cases h
theorem prG_some {av : AV} {k : List AV → Option R} {r : R} (h : prG av k = some r) : ∃ l, k l = some r ∧ av = .ag l := by
  unfold prG at h
  split at h
  · exact ⟨_, h, rfl⟩
  · cases h

/-! the table of callees -/

abbrev Entry := (R : Type) → Nat → Bool → List AV → (Nat → Option Ob) → (Dl → Option R) → Option R

def EntryOK (P : Program) (f : Nat) (e : Entry) : Prop :=
  ∀ (R : Type) (site : Nat) (g : Bool) (avs : List AV) (hl : Nat → Option Ob) (k : Dl → Option R) (r : R), e R site g avs hl k = some r → ∃ dl, k dl = some r ∧ (g = true → CallOK P f avs hl dl)

def specOf (l : List (Nat × Entry)) : Spec := fun R f site g avs hl k =>
  match look1 l f with
  | some e => e R site g avs hl k
  | none => none
where
  look1 : List (Nat × Entry) → Nat → Option Entry
    | [], _ => none
    | (k, a) :: r, t => bif Nat.beq k t then some a else look1 r t

def EntsOK (P : Program) : List (Nat × Entry) → Prop
  | [] => True
  | (f, e) :: r => EntryOK P f e ∧ EntsOK P r

theorem look1_ok : ∀ {l : List (Nat × Entry)} {f : Nat} {e : Entry}, EntsOK P l → specOf.look1 l f = some e → EntryOK P f e
  | (k, a) :: r, f, e, h, hl => by
    simp only [specOf.look1] at hl
    cases hk : Nat.beq k f with
    | true =>
      simp only [hk, cond_true, Option.some.injEq] at hl
      subst hl
      have := Nat.eq_of_beq_eq_true hk
      subst this
      exact h.1
    | false => simp only [hk, cond_false] at hl; exact look1_ok h.2 hl

theorem specOf_ok {l : List (Nat × Entry)} (h : EntsOK P l) : SpecOK P (specOf l) := by
  intro R f site g avs hl k r hs
  unfold specOf at hs
  split at hs
  · rename_i e he
    exact look1_ok h he R site g avs hl k r hs
  · cases hs

/-! results -/

def fixC (s : Nat) : AV → AV
  | .nil => .d (.sl s [])
  | av => av
def fixL : List Nat → List AV → List AV
  | s :: ss, a :: r => fixC s a :: fixL ss r
  | [], r => r
  | _ :: _, [] => []
def fix1 (ss : List Nat) : AV → AV
  | .ag l => .ag (fixL ss l)
  | av => fixC (ss.headD 0) av
def fixA : List (List Nat) → List AV → List AV
  | s :: ss, a :: r => fix1 s a :: fixA ss r
  | [], r => r
  | _ :: _, [] => []
def fixT (ss : List (List Nat)) : AV → AV
  | .tup l => .tup (fixA ss l)
  | av => fix1 (ss.headD []) av

theorem fixC_le (s : Nat) (av : AV) : AVle av (fixC s av) := by
  unfold fixC; split
  · exact .nil s
  · exact .refl _
theorem fixL_le : ∀ (ss : List Nat) (l : List AV), AVleL l (fixL ss l)
  | s :: ss, a :: r => .cons (fixC_le s a) (fixL_le ss r)
  | [], r => by unfold fixL; exact .refl r
  | _ :: _, [] => .nil
theorem fix1_le (ss : List Nat) (av : AV) : AVle av (fix1 ss av) := by
  unfold fix1; split
  · exact .ag (fixL_le ss _)
  · exact fixC_le _ _
theorem fixA_le : ∀ (ss : List (List Nat)) (l : List AV), AVleL l (fixA ss l)
  | s :: ss, a :: r => .cons (fix1_le s a) (fixA_le ss r)
  | [], r => by unfold fixA; exact .refl r
  | _ :: _, [] => .nil
theorem fixT_le (ss : List (List Nat)) (av : AV) : AVle av (fixT ss av) := by
  unfold fixT; split
  · exact .tup (fixA_le ss _)
  · exact fix1_le _ _

/-- What a function hands back: its own arrays as data, nil slices as empty ones. -/
def retF {R : Type} (ss : List (List Nat)) (K : AV → Option R) : AV → List (Nat × Ob) → Option R := fun av h => match retAV h av with
  | some av' => bif lf (fixT ss av') then K (fixT ss av') else none
  | none => none


/-- A contract of a function of data, with canonical results. -/
theorem callOK_fix {α : Type} {K : AV → Option α} {res : α} {C : VC} (hC : VCOk P C) {n f : Nat} {fn : Func} (hf : P.funcs[f]? = some fn) (hb : fn.body.isSome = true) (hn : (fn.name == "runtime.NumGoroutine") = false) {ss : List (List Nat)} {avs : List AV} {av : AV} {hl : Nat → Option Ob} {rd : List Nat} (hlf : lfL avs = true)
    (h : vfn C n fn avs [] (retF ss K) = some res) (hK : ∀ x, K x = some res → x = av) : CallOK P f avs hl ⟨av, [], rd⟩ := by
  refine ⟨⟨fn, hf, hb, hn⟩, fun β S h' w args hO hA _ => ?_⟩
  have hO0 : Objs (fun _ => none) S (look ([] : List (Nat × Ob))) w := ⟨fun l o h => by simp [look] at h, fun l l' b h => by simp [look] at h, fun l b h => by simp [look] at h, hO.sb⟩
  have hA0 : ArgsRd (fun _ => none) S (look ([] : List (Nat × Ob))) w args avs := ⟨hA.1, fun i v av' h1 h2 => rdA_lf (lfL_at hlf h2) (fun _ h => h) (fun _ _ => rfl) (hA.2 i v av' h1 h2)⟩
  refine (vfn_calls hC hf h hO0 hA0).mono fun e w' ⟨v, av0, H', β', S', he, hk, hrd, _, hr⟩ => ?_
  unfold retF at hk
  split at hk
  case h_2 => cases hk
  rename_i av' hav
  cases hlf2 : lf (fixT ss av') with
  | false => simp [hlf2] at hk
  | true =>
    simp only [hlf2, cond_true] at hk
    have hk := hK _ hk
    subst hk
    have hO' : Objs β' S' (look H') w' := ⟨hr.ob, hr.inj, hr.apart, hr.sb⟩
    obtain ⟨bs, hbs, hlf', hrd'⟩ := retAV_rd hO' hav hrd
    have hnoM : ∀ {b : Nat}, (S b ∨ (∃ l, (look ([] : List (Nat × Ob)) l).isSome = true ∧ (none : Option Nat) = some b) ∨ w.heap.size ≤ b) → S b ∨ w.heap.size ≤ b := by
      intro b h
      rcases h with h | ⟨l, h, _⟩ | h
      · exact .inl h
      · simp [look] at h
      · exact .inr h
    have hfz : ∀ b, fzS β' S' bs b → S b ∨ w.heap.size ≤ b := by
      intro b hS
      rcases hS with hS | ⟨l, hl', hb'⟩
      · exact hnoM (hr.sfr b hS)
      · obtain ⟨e', s, rows, hh⟩ := hbs l hl'
        exact hnoM (.inr (hr.own l b (by simp [hh]) hb'))
    refine ⟨v, β, fzS β' S' bs, he, ⟨fun b hS => .inl (hr.s0 b hS), fun b hS => ?_, fun b hS => ?_, ?_, fun _ _ => rfl, fun l o hl' => by simp [wrL] at hl', fun l hl' => by simp [wrL] at hl', fun l b hl' => by simp [wrL] at hl', fun l l' b hl' => by simp [wrL] at hl', fun l hl' => by simp [wrL] at hl', ?_, fun t => gds_lf t _ hlf2⟩⟩
    · rcases hfz b hS with h1 | h1
      · exact .inl h1
      · exact .inr (.inl h1)
    · rcases hS with hS | ⟨l, hl', hb'⟩
      · exact hr.sb b hS
      · obtain ⟨e', s, rows, hh⟩ := hbs l hl'
        rcases hr.ob l _ hh with ⟨hn', _⟩ | ⟨b2, cs, hb2, hw2, _⟩
        · rw [hb'] at hn'; cases hn'
        · rw [hb'] at hb2; injection hb2 with hb2; subst hb2
          exact (Array.getElem?_eq_some_iff.1 hw2).1
    · refine hr.fr.mono fun b _ ⟨l, h1, _⟩ => ?_
      simp [look] at h1
    · exact rdA_lf hlf2 (fun _ h => h) (fun _ _ => rfl) (fixT_le ss _ _ _ _ _ _ _ hrd')

/-! equations of the interpreter -/

def seqK (C : VC) (n : Nat) (b : Code) (k : Exit → St → Option R) : Exit → St → Option R := fun e st' => match e with
  | .normal => vexec C n b st' k
  | .exit id => k (.exit id) st'
  | .ret => k .ret st'
  | _ => none
def blockK (id : Nat) (k : Exit → St → Option R) : Exit → St → Option R := fun e st' => match e with
  | .normal => k .normal st'
  | .exit j => bif Nat.beq j id then k .normal st' else k (.exit j) st'
  | .ret => k .ret st'
  | _ => none
def loopK (body : St → (Exit → St → Option R) → Option R) (n : Nat) (k : Exit → St → Option R) : Exit → St → Option R := fun e st' => match e with
  | .normal => loopN body n st' k
  | .exit id => k (.exit id) st'
  | .ret => k .ret st'
  | _ => none
theorem vexec_seq (C : VC) (n : Nat) (a b : Code) (st : St) (k : Exit → St → Option R) : vexec C n (.seq a b) st k = vexec C n a st (seqK C n b k) := rfl
theorem vexec_block (C : VC) (n id : Nat) (c : Code) (st : St) (k : Exit → St → Option R) : vexec C n (.block id c) st k = vexec C n c st (blockK id k) := rfl
theorem vexec_loop (C : VC) (n : Nat) (c : Code) (st : St) (k : Exit → St → Option R) : vexec C n (.loop c) st k = loopN (lB C n c) (fuelOf C n c) st k := rfl
theorem loopN_zero (body : St → (Exit → St → Option R) → Option R) (st : St) (k : Exit → St → Option R) : loopN body 0 st k = none := rfl
theorem loopN_succ (body : St → (Exit → St → Option R) → Option R) (n : Nat) (st : St) (k : Exit → St → Option R) : loopN body (n + 1) st k = body st (loopK body n k) := rfl
theorem seqK_normal (C : VC) (n : Nat) (b : Code) (k : Exit → St → Option R) (st : St) : seqK C n b k .normal st = vexec C n b st k := rfl
theorem seqK_exit (C : VC) (n : Nat) (b : Code) (k : Exit → St → Option R) (id : Nat) (st : St) : seqK C n b k (.exit id) st = k (.exit id) st := rfl
theorem seqK_ret (C : VC) (n : Nat) (b : Code) (k : Exit → St → Option R) (st : St) : seqK C n b k .ret st = k .ret st := rfl
theorem blockK_normal (id : Nat) (k : Exit → St → Option R) (st : St) : blockK id k .normal st = k .normal st := rfl
theorem blockK_ret (id : Nat) (k : Exit → St → Option R) (st : St) : blockK id k .ret st = k .ret st := rfl
theorem blockK_exit (id j : Nat) (k : Exit → St → Option R) (st : St) : blockK id k (.exit j) st = bif Nat.beq j id then k .normal st else k (.exit j) st := rfl
theorem loopK_normal (body : St → (Exit → St → Option R) → Option R) (n : Nat) (k : Exit → St → Option R) (st : St) : loopK body n k .normal st = loopN body n st k := rfl
theorem loopK_exit (body : St → (Exit → St → Option R) → Option R) (n : Nat) (k : Exit → St → Option R) (id : Nat) (st : St) : loopK body n k (.exit id) st = k (.exit id) st := rfl
theorem loopK_ret (body : St → (Exit → St → Option R) → Option R) (n : Nat) (k : Exit → St → Option R) (st : St) : loopK body n k .ret st = k .ret st := rfl

/-! the parts of a code -/
def cL : Code → Code | .seq a _ => a | c => c
def cR : Code → Code | .seq _ b => b | c => c
def cB : Code → Code | .block _ c => c | .loop c => c | c => c
def cT : Code → Code | .cond _ a _ => a | c => c
def cE : Code → Code | .cond _ _ b => b | c => c
def bodyOf (fn : Func) : Code := fn.body.getD .skip

def retX (tt : TT) (rs : List ResultVar) (k : AV → List (Nat × Ob) → Option R) : Exit → St → Option R := fun e st => match e with
  | .ret => match resAV tt st rs with
    | some v => k v st.h
    | none => none
  | .normal => match resAV tt st rs with
    | some v => k v st.h
    | none => none
  | _ => none

theorem vfn_eq (C : VC) (n : Nat) (fn : Func) (args : List AV) (h : List (Nat × Ob)) (k : AV → List (Nat × Ob) → Option R) (hb : fn.body.isSome = true) (hc : (Nat.ble args.length fn.ntmps && gfreeL args) = true) :
    vfn C n fn args h k = vexec C n (bodyOf fn) { n := fn.ntmps, tm := argsT 0 args, h := h } (retX C.tt fn.results.toList k) := by
  unfold vfn bodyOf
  cases hbody : fn.body with
  | none => rw [hbody] at hb; cases hb
  | some c => simp only [hc, cond_true, Option.getD_some]; rfl

theorem vfn_at {C : VC} {n : Nat} {fn : Func} {args : List AV} {h : List (Nat × Ob)} {k : AV → List (Nat × Ob) → Option R} {c : Code} {m : Nat} {tm : List (Nat × AV)} {rs : List ResultVar} {tt : TT}
    (hb : fn.body.isSome = true) (h2 : fn.ntmps = m) (hc : (Nat.ble args.length m && gfreeL args) = true) (h1 : bodyOf fn = c) (h3 : argsT 0 args = tm) (h4 : fn.results.toList = rs) (h5 : C.tt = tt) : vfn C n fn args h k = vexec C n c ⟨m, tm, h⟩ (retX tt rs k) := by
  subst h1 h2 h3 h4 h5
  exact vfn_eq C n fn args h k hb hc

end
end Go.Vx
/-
  Contracts of functions that take pointers to variables and hand out objects of their own.
-/
namespace Go.Vx
section
variable {P : Program} {R : Type}

theorem renA_gen {ρ : List (Nat × Nat)} {β β' : Nat → Option Nat} {S : Nat → Prop} {h h' : Nat → Option Ob} (hb' : ∀ l k, (l, k) ∈ ρ → β' k = β l) (hs' : ∀ l k o, (l, k) ∈ ρ → h l = some o → h' k = some (renO ρ o))
    (hn' : ∀ l k, (l, k) ∈ ρ → h l = none → h' k = none) {w : World} {tm : Nat → Value} {v : Value} {av : AV} (hv : RdA β S h w tm v av) : RdA β' S h' w tm v (renA ρ av) := by
  induction hv with
  | top v => exact .top v
  | d v x hx => exact .d v x hx
  | nil => exact .nil
  | ag cs l hl _ ih =>
    refine .ag cs _ (by rw [renL_length]; exact hl) fun i x hx => ?_
    rw [renL_get, Option.map_eq_some_iff] at hx
    obtain ⟨y, hy, rfl⟩ := hx
    exact ih i y hy
  | tup cs l hl _ ih =>
    refine .tup cs _ (by rw [renL_length]; exact hl) fun i x hx => ?_
    rw [renL_get, Option.map_eq_some_iff] at hx
    obtain ⟨y, hy, rfl⟩ := hx
    exact ih i y hy
  | fn f cs l hl _ ih =>
    refine .fn f cs _ (by rw [renL_length]; exact hl) fun i x hx => ?_
    rw [renL_get, Option.map_eq_some_iff] at hx
    obtain ⟨y, hy, rfl⟩ := hx
    exact ih i y hy
  | ptr l off b hb =>
    unfold renA
    split
    · rename_i l' hl; exact .ptr _ _ _ ((hb' _ _ (look_mem hl)).trans hb)
    · exact .top _
  | sa v l t b hb hv =>
    unfold renA
    split
    · rename_i l' hl; exact .sa _ _ _ b ((hb' _ _ (look_mem hl)).trans hb) hv
    · exact .top _
  | el ad row off c hs hc hr => exact .el ad row off c hs hc hr
  | fs ad s rows hx => exact .fs ad s rows hx
  | mpd v f hm => exact .mpd v f hm
  | ex v => exact .ex v
  | arr0 l e s hb hh =>
    unfold renA
    split
    · rename_i l' hl; exact .arr0 _ e s ((hb' _ _ (look_mem hl)).trans hb) (hs' _ _ _ (look_mem hl) hh)
    · exact .top _
  | arr l b cap e s rows cs ty fz hb hh hw hcs hcap hmax =>
    unfold renA
    split
    · rename_i l' hl; exact .arr _ b cap e s rows cs ty fz ((hb' _ _ (look_mem hl)).trans hb) (hs' _ _ _ (look_mem hl) hh) hw hcs hcap hmax
    · exact .top _
  | ap l i off b e s rows hb hh =>
    unfold renA
    split
    · rename_i l' hl; exact .ap _ i off b e s rows ((hb' _ _ (look_mem hl)).trans hb) (hs' _ _ _ (look_mem hl) hh)
    · exact .top _
  | dang v av l hl hh h1 =>
    cases av <;> simp [locOf] at hl
    · subst hl
      unfold renA
      split
      · rename_i l' hl'; exact .dang _ _ l' rfl (hn' _ _ (look_mem hl') hh) h1
      · exact .top _
    · subst hl
      unfold renA
      split
      · rename_i l' hl'; exact .dang _ _ l' rfl (hn' _ _ (look_mem hl') hh) h1
      · exact .top _
  | gdT => exact .top _
  | gdF => exact .top _

/-- An argument: data, or a pointer to a variable that is handed over. -/
def argOk (ρ : List (Nat × Nat)) (av : AV) : Bool :=
  match av with
  | .ptr j _ => (look ρ j).isSome
  | av => lf av

def argsOk (ρ : List (Nat × Nat)) : List AV → Bool
  | [] => true
  | a :: r => argOk ρ a && argsOk ρ r

theorem argsOk_at {ρ : List (Nat × Nat)} : ∀ {l : List AV} {i : Nat} {x : AV}, argsOk ρ l = true → l[i]? = some x → argOk ρ x = true
  | a :: r, 0, x, h, hx => by
    simp only [argsOk, Bool.and_eq_true] at h
    simp at hx; subst hx; exact h.1
  | a :: r, i + 1, x, h, hx => by
    simp only [argsOk, Bool.and_eq_true] at h
    exact argsOk_at h.2 (by simpa using hx)

/-- What is seen of the callee's end. -/
def outWr (σ : List (Nat × Nat)) (H : List (Nat × Ob)) : List (Nat × Nat) → List (Nat × Option Ob)
  | [] => []
  | (j, l) :: r => (l, (look H j).map (renO σ)) :: outWr σ H r

theorem outWr_map (σ : List (Nat × Nat)) (H : List (Nat × Ob)) : ∀ τ, (outWr σ H τ).map (·.1) = τ.map (·.2)
  | [] => rfl
  | (j, l) :: r => by simp [outWr, outWr_map σ H r]

theorem setF_out_at (σ : List (Nat × Nat)) (H : List (Nat × Ob)) : ∀ (τ : List (Nat × Nat)) (h : Nat → Option Ob), nodupN (τ.map (·.2)) = true → ∀ j l, (j, l) ∈ τ → setF h (outWr σ H τ) l = (look H j).map (renO σ)
  | (a, b) :: r, h, hn, j, l, hm => by
    simp only [List.map_cons, nodupN, Bool.and_eq_true, Bool.not_eq_true'] at hn
    simp only [outWr, setF]
    rcases List.mem_cons.1 hm with hm | hm
    · injection hm with e1 e2
      subst e1 e2
      rw [setF_out]
      · simp
      · rw [outWr_map]
        intro hin
        have : memN l (r.map (·.2)) = true := by
          have : ∀ (L : List Nat), l ∈ L → memN l L = true := by
            intro L
            induction L with
            | nil => intro h; cases h
            | cons x xs ih =>
              intro h
              rcases List.mem_cons.1 h with h | h
              · subst h; simp [memN, Nat.beq_refl]
              · simp [memN, ih h]
          exact this _ hin
        rw [this] at hn
        exact absurd hn.1 (by simp)
    · exact setF_out_at σ H r _ hn.2 j l hm

mutual
theorem gds_renA (ρ : List (Nat × Nat)) (t : Nat) : ∀ av : AV, gds t (renA ρ av) = false
  | .top => rfl
  | .d _ => rfl
  | .nil => rfl
  | .el .. => rfl
  | .fs .. => rfl
  | .mpd _ => rfl
  | .ex _ => rfl
  | .gd .. => rfl
  | .ag l => by simp only [renA, gds]; exact gdsL_renL ρ t l
  | .tup l => by simp only [renA, gds]; exact gdsL_renL ρ t l
  | .fn _ l => by simp only [renA, gds]; exact gdsL_renL ρ t l
  | .ptr l o => by unfold renA; split <;> rfl
  | .arr l => by unfold renA; split <;> rfl
  | .ap l i o => by unfold renA; split <;> rfl
  | .sa l t => by unfold renA; split <;> rfl
theorem gdsL_renL (ρ : List (Nat × Nat)) (t : Nat) : ∀ l : List AV, gdsL t (renL ρ l) = false
  | [] => rfl
  | a :: r => by simp only [renL, gdsL, gds_renA ρ t a, gdsL_renL ρ t r, Bool.or_self]
end

mutual
theorem renA_lf (ρ : List (Nat × Nat)) : ∀ av : AV, lf av = true → renA ρ av = av
  | .top, _ => rfl
  | .d _, _ => rfl
  | .nil, _ => rfl
  | .el .., _ => rfl
  | .fs .., _ => rfl
  | .mpd _, _ => rfl
  | .ex _, _ => rfl
  | .gd .., h => by simp [lf] at h
  | .ag l, h => by simp only [renA]; rw [renL_lf ρ l (by simpa [lf] using h)]
  | .tup l, h => by simp only [renA]; rw [renL_lf ρ l (by simpa [lf] using h)]
  | .fn _ l, h => by simp only [renA]; rw [renL_lf ρ l (by simpa [lf] using h)]
  | .ptr .., h => by simp [lf] at h
  | .arr _, h => by simp [lf] at h
  | .ap .., h => by simp [lf] at h
  | .sa .., h => by simp [lf] at h
theorem renL_lf (ρ : List (Nat × Nat)) : ∀ l : List AV, lfL l = true → renL ρ l = l
  | [], _ => rfl
  | a :: r, h => by
    simp only [lfL, Bool.and_eq_true] at h
    simp only [renL, renA_lf ρ a h.1, renL_lf ρ r h.2]
end

theorem inv_none {σ : List (Nat × Nat)} {l : Nat} (h : l ∉ σ.map (·.2)) : inv σ l = none := by
  cases hi : inv σ l with
  | none => rfl
  | some j => exact absurd (List.mem_map.2 ⟨(j, l), inv_mem hi, rfl⟩) h

theorem look_of_mem {ρ : List (Nat × Nat)} (hn : nodupN (ρ.map (·.1)) = true) {j l : Nat} (hm : (j, l) ∈ ρ) : look ρ j = some l := by
  cases hk : look ρ j with
  | none =>
    exfalso
    have : ∀ (L : List (Nat × Nat)), (j, l) ∈ L → look L j ≠ none := by
      intro L
      induction L with
      | nil => intro h; cases h
      | cons x r ih =>
        intro h hl
        obtain ⟨a, b⟩ := x
        rw [look_cons] at hl
        by_cases e : j = a
        · rw [if_pos e] at hl; cases hl
        · rw [if_neg e] at hl
          rcases List.mem_cons.1 h with h | h
          · injection h with h1 h2; exact e h1
          · exact ih h hl
    exact this ρ hm hk
  | some l' =>
    have := nodup_fst hn (j, l) (j, l') hm (look_mem hk) rfl
    injection this with _ h
    rw [h]

/-- What is asked of the callee's run. -/
structure HeapEnd (σ ρ : List (Nat × Nat)) (H : List (Nat × Ob)) (av : AV) (H' : List (Nat × Ob)) (dl : Dl) : Prop where
  v : renA σ av = dl.v
  wr : outWr σ H' σ = dl.wr
  all : ∀ j l, (j, l) ∈ σ → (look H' j).isSome = true
  box : ∀ j l, (j, l) ∈ ρ → ∃ c c', look H j = some (.box c) ∧ look H' j = some (.box c') ∧ c'.length = c.length

theorem callOK_heap {α : Type} {K : AV → List (Nat × Ob) → Option α} {res : α} {C : VC} (hC : VCOk P C) {n f : Nat} {fn : Func} (hf : P.funcs[f]? = some fn) (hb : fn.body.isSome = true) (hn : (fn.name == "runtime.NumGoroutine") = false)
    {σ ρ : List (Nat × Nat)} {avs avs' : List AV} {H : List (Nat × Ob)} {hl : Nat → Option Ob} {dl : Dl}
    (hav : avs = avs'.map (renA ρ)) (hargs : argsOk ρ avs' = true)
    (hsub : ∀ p, p ∈ ρ → p ∈ σ) (h1 : nodupN (σ.map (·.1)) = true) (h2 : nodupN (σ.map (·.2)) = true) (hρ : nodupN (ρ.map (·.1)) = true)
    (hin : ∀ j l, (j, l) ∈ ρ → 1000000 ≤ j ∧ ∃ cs cs', hl l = some (.box cs) ∧ look H j = some (.box cs') ∧ AVleL cs cs' ∧ lfL cs' = true)
    (hinH : ∀ j, (look H j).isSome = true → ∃ l, (j, l) ∈ ρ)
    (hnew : ∀ j l, (j, l) ∈ σ → (j, l) ∈ ρ ∨ hl l = none)
    (hwl : wrL dl = σ.map (·.2))
    (h : vfn C n fn avs' H K = some res) (hK : ∀ av H', K av H' = some res → HeapEnd σ ρ H av H' dl) : CallOK P f avs hl dl := by
  refine ⟨⟨fn, hf, hb, hn⟩, fun β S h' w args hO hA hag => ?_⟩
  have hag : ∀ {j l : Nat}, (j, l) ∈ σ → h' l = hl l := fun {j l} hm => hag l (.inr (by rw [hwl]; exact List.mem_map.2 ⟨(j, l), hm, rfl⟩))
  have hlook : ∀ {j l : Nat}, (j, l) ∈ ρ → look ρ j = some l := fun hm => look_of_mem hρ hm
  have hβc : ∀ {j l : Nat}, (j, l) ∈ ρ → (look ρ j).bind β = β l := fun hm => by rw [hlook hm]; rfl
  have hlk2 : ∀ {j j' l : Nat}, (j, l) ∈ ρ → (j', l) ∈ ρ → j = j' := fun a b => by
    have := nodup_fst h2 _ _ (hsub _ a) (hsub _ b) rfl
    injection this
  have hsome' : ∀ {j l : Nat}, (j, l) ∈ ρ → (h' l).isSome = true := fun hm => by
    obtain ⟨_, cs, cs', g1, _⟩ := hin _ _ hm
    rw [hag (hsub _ hm), g1]; rfl
  -- the callee's view
  have hO0 : Objs (fun j => (look ρ j).bind β) S (look H) w := by
    refine ⟨fun j o ho => ?_, fun j j' b s1 s2 b1 b2 => ?_, fun j b s1 b1 => ?_, hO.sb⟩
    · obtain ⟨l, hm⟩ := hinH j (by simp [ho])
      obtain ⟨_, cs, cs', g1, g2, g3, g4⟩ := hin j l hm
      rw [ho] at g2
      injection g2 with g2
      subst g2
      obtain ⟨b, ty, c0, fz, e1, e2, e3, e4, e5⟩ := hO.ob l _ ((hag (hsub _ hm)).trans g1)
      refine ⟨b, ty, c0, fz, (hβc hm).trans e1, e2, ⟨e3.1, fun i l' t' hx => by have := lfL_at g4 hx; simp [lf] at this⟩, e4.trans g3.length, fun i x hx => ?_⟩
      obtain ⟨y, y1, y2⟩ := g3.at i x hx
      exact rdA_lf (lfL_at g4 hx) (fun _ h => h) (fun _ _ => rfl) (y2 _ _ _ _ _ _ (e5 i y y1))
    · obtain ⟨l, hm⟩ := hinH j s1
      obtain ⟨l', hm'⟩ := hinH j' s2
      have := hO.inj l l' b (hsome' hm) (hsome' hm') (by rw [← hβc hm]; exact b1) (by rw [← hβc hm']; exact b2)
      subst this
      exact hlk2 hm hm'
    · obtain ⟨l, hm⟩ := hinH j s1
      exact hO.apart l b (hsome' hm) (by rw [← hβc hm]; exact b1)
  have hA0 : ArgsRd (fun j => (look ρ j).bind β) S (look H) w args avs' := by
    refine ⟨by rw [hA.1, hav, List.length_map], fun i v av g1 g2 => ?_⟩
    have hr := hA.2 i v (renA ρ av) g1 (by rw [hav, List.getElem?_map, g2]; rfl)
    have hok := argsOk_at hargs g2
    unfold argOk at hok
    split at hok
    · rename_i j o
      cases hj : look ρ j with
      | none => rw [hj] at hok; cases hok
      | some l =>
        simp only [renA, hj] at hr
        cases hr with
        | ptr _ _ b hb' => exact .ptr j o b (by simp only [hj]; exact hb')
        | dang _ _ _ hl' => simp [locOf] at hl'
    · rw [renA_lf ρ av hok] at hr
      exact rdA_lf hok (fun _ h => h) (fun _ _ => rfl) hr
  refine (vfn_calls hC hf h hO0 hA0).mono fun e w' ⟨v, av, H', β', S', he, hk, hrd, _, hr⟩ => ?_
  obtain ⟨q1, q2, q3, q4⟩ := hK av H' hk
  have hinv : ∀ {j l : Nat}, (j, l) ∈ σ → inv σ l = some j := fun hm => inv_of h2 hm
  let βo : Nat → Option Nat := fun l => match inv σ l with | some j => β' j | none => β l
  have hβo : ∀ j l, (j, l) ∈ σ → βo l = β' j := fun j l hm => by simp only [βo, hinv hm]
  have hset : ∀ j l, (j, l) ∈ σ → setF h' dl.wr l = (look H' j).map (renO σ) := fun j l hm => by rw [← q2]; exact setF_out_at σ H' σ h' h2 j l hm
  have hmem : ∀ {l : Nat}, l ∈ wrL dl → ∃ j, (j, l) ∈ σ := fun hm => by
    rw [hwl] at hm
    obtain ⟨⟨j, l'⟩, m1, m2⟩ := List.mem_map.1 hm
    simp only at m2
    subst m2
    exact ⟨j, m1⟩
  have hpin : ∀ {j l : Nat}, (j, l) ∈ ρ → β' j = β l := fun hm => (hr.pin _ (hin _ _ hm).1).trans (hβc hm)
  have hren : ∀ {v : Value} {x : AV}, RdA β' S' (look H') w' tm0 v x → RdA βo S' (setF h' dl.wr) w' tm0 v (renA σ x) := fun hx =>
    renA_gen hβo (fun j l o hm ho => by rw [hset j l hm, ho]; rfl) (fun j l hm ho => by rw [hset j l hm, ho]; rfl) hx
  have hnotin : ∀ {j l : Nat}, (j, l) ∈ σ → (j, l) ∉ ρ → ∀ b, β' j = some b → w.heap.size ≤ b := by
    intro j l hm hno b hb'
    rcases hr.own j b (q3 j l hm) hb' with ⟨j', s1, s2⟩ | h
    · exfalso
      obtain ⟨l', hm'⟩ := hinH j' s1
      have e1 : β' j' = some b := (hpin hm').trans (by rw [← hβc hm']; exact s2)
      have := hr.inj j j' b (q3 j l hm) (q3 j' l' (hsub _ hm')) hb' e1
      subst this
      have := nodup_fst h1 _ _ hm (hsub _ hm') rfl
      exact hno (this ▸ hm')
    · exact h
  have hMw : ∀ b, (∃ j, (look H j).isSome = true ∧ (look ρ j).bind β = some b) → ∃ l, l ∈ wrL dl ∧ (h' l).isSome = true ∧ β l = some b := by
    intro b ⟨j, s1, s2⟩
    obtain ⟨l, hm⟩ := hinH j s1
    exact ⟨l, by rw [hwl]; exact List.mem_map.2 ⟨(j, l), hsub _ hm, rfl⟩, hsome' hm, by rw [← hβc hm]; exact s2⟩
  refine ⟨v, βo, S', he, ⟨hr.s0, fun b hS => ?_, hr.sb, hr.fr.mono fun b _ hM => hMw b hM, fun l hno => ?_, fun l o hm ho => ?_, fun l hm hs => ?_, fun l b hm hs hb' => ?_, fun l l' b hm hm' hs hs' hb' hb'' => ?_, fun l hm hno hno' => ?_, ?_, fun t => by rw [← q1]; exact gds_renA σ t av⟩⟩
  · rcases hr.sfr b hS with g | g | g
    · exact .inl g
    · exact .inr (.inr (hMw b g))
    · exact .inr (.inl g)
  · have : inv σ l = none := inv_none (by rw [← hwl]; exact hno)
    simp only [βo, this]
  · obtain ⟨j, hj⟩ := hmem hm
    rw [hset j l hj, Option.map_eq_some_iff] at ho
    obtain ⟨o', ho', rfl⟩ := ho
    have hob := hr.ob j o' ho'
    cases o' with
    | box cells =>
      obtain ⟨b, ty, cs, fz, g1, g2, g3, g4, g5⟩ := hob
      refine ⟨b, ty, cs, fz, (hβo j l hj).trans g1, g2, ⟨g3.1, saTy_ren g3.2⟩, by rw [g4, renL_length], fun i x hx => ?_⟩
      rw [renL_get, Option.map_eq_some_iff] at hx
      obtain ⟨y, hy, rfl⟩ := hx
      exact hren (g5 i y hy)
    | arr e s rows =>
      rcases hob with ⟨g1, g2⟩ | ⟨b, cs, g1, g2, g3, g4, g5⟩
      · exact .inl ⟨(hβo j l hj).trans g1, g2⟩
      · exact .inr ⟨b, cs, (hβo j l hj).trans g1, g2, g3, g4, g5⟩
  · obtain ⟨j, hj⟩ := hmem hm
    rcases hnew j l hj with hp | hno
    · obtain ⟨c, c', g1, g2, g3⟩ := q4 j l hp
      obtain ⟨_, cs, cs', e1, e2, e3, _⟩ := hin j l hp
      have hh : h' l = some (.box cs) := (hag hj).trans e1
      refine ⟨(hβo j l hj).trans (hpin hp), fun hx => (by rw [hh] at hx; cases hx), fun e s rows hx => (by rw [hh] at hx; cases hx), fun b c0 ty fz _ hb' hw => ?_⟩
      obtain ⟨b2, ty2, c2, fz2, k1, k2, _, k4, _⟩ := hr.ob j _ g2
      obtain ⟨b3, ty3, c3, fz3, m1, m2, _, m4, _⟩ := hO.ob l _ hh
      rw [hpin hp, hb'] at k1
      injection k1 with k1
      subst k1
      rw [hb'] at m1
      injection m1 with m1
      subst m1
      rw [hw] at m2
      injection m2 with m2
      injection m2 with m2 _ _
      subst m2
      refine ⟨c2, ty2, fz2, k2, ?_⟩
      rw [k4, m4, g3]
      rw [g1] at e2
      injection e2 with e2
      injection e2 with e2
      rw [e2, e3.length]
    · rw [hag hj, hno] at hs; cases hs
  · obtain ⟨j, hj⟩ := hmem hm
    rw [hβo j l hj] at hb'
    refine ⟨?_, hr.apart j b (q3 j l hj) hb'⟩
    by_cases hp : (j, l) ∈ ρ
    · exact .inr ⟨l, hm, hsome' hp, by rw [← hpin hp]; exact hb'⟩
    · exact .inl (hnotin hj hp b hb')
  · obtain ⟨j, hj⟩ := hmem hm
    obtain ⟨j', hj'⟩ := hmem hm'
    rw [hβo j l hj] at hb'
    rw [hβo j' l' hj'] at hb''
    have := hr.inj j j' b (q3 j l hj) (q3 j' l' hj') hb' hb''
    subst this
    have := nodup_fst h1 _ _ hj hj' rfl
    injection this
  · obtain ⟨j, hj⟩ := hmem hm
    have := q3 j l hj
    rw [hset j l hj] at hno'
    cases hx : look H' j with
    | none => rw [hx] at this; cases this
    | some o => rw [hx] at hno'; cases hno'
  · rw [← q1]; exact hren hrd

/-! the same, with conditions that a program prints -/

def HinL (hl : Nat → Option Ob) (H : List (Nat × Ob)) : List (Nat × Nat) → Prop
  | [] => True
  | (j, l) :: r => (1000000 ≤ j ∧ ∃ cs cs', hl l = some (.box cs) ∧ look H j = some (.box cs') ∧ AVleL cs cs' ∧ lfL cs' = true) ∧ HinL hl H r
def AllL (H : List (Nat × Ob)) : List (Nat × Nat) → Prop
  | [] => True
  | (j, _) :: r => (look H j).isSome = true ∧ AllL H r
def BoxL (H H' : List (Nat × Ob)) : List (Nat × Nat) → Prop
  | [] => True
  | (j, _) :: r => (∃ c c', look H j = some (.box c) ∧ look H' j = some (.box c') ∧ c'.length = c.length) ∧ BoxL H H' r
def NewL (hl : Nat → Option Ob) : List (Nat × Nat) → Bool
  | [] => true
  | (_, l) :: r => (hl l).isNone && NewL hl r

theorem HinL_at {hl : Nat → Option Ob} {H : List (Nat × Ob)} : ∀ {ρ : List (Nat × Nat)}, HinL hl H ρ → ∀ j l, (j, l) ∈ ρ → 1000000 ≤ j ∧ ∃ cs cs', hl l = some (.box cs) ∧ look H j = some (.box cs') ∧ AVleL cs cs' ∧ lfL cs' = true
  | (a, b) :: r, h, j, l, hm => by
    rcases List.mem_cons.1 hm with hm | hm
    · injection hm with h1 h2; subst h1 h2; exact h.1
    · exact HinL_at h.2 j l hm
theorem AllL_at {H : List (Nat × Ob)} : ∀ {ρ : List (Nat × Nat)}, AllL H ρ → ∀ j l, (j, l) ∈ ρ → (look H j).isSome = true
  | (a, b) :: r, h, j, l, hm => by
    rcases List.mem_cons.1 hm with hm | hm
    · injection hm with h1 h2; subst h1 h2; exact h.1
    · exact AllL_at h.2 j l hm
theorem BoxL_at {H H' : List (Nat × Ob)} : ∀ {ρ : List (Nat × Nat)}, BoxL H H' ρ → ∀ j l, (j, l) ∈ ρ → ∃ c c', look H j = some (.box c) ∧ look H' j = some (.box c') ∧ c'.length = c.length
  | (a, b) :: r, h, j, l, hm => by
    rcases List.mem_cons.1 hm with hm | hm
    · injection hm with h1 h2; subst h1 h2; exact h.1
    · exact BoxL_at h.2 j l hm
theorem NewL_at {hl : Nat → Option Ob} : ∀ {ρ : List (Nat × Nat)}, NewL hl ρ = true → ∀ j l, (j, l) ∈ ρ → hl l = none
  | (a, b) :: r, h, j, l, hm => by
    simp only [NewL, Bool.and_eq_true] at h
    rcases List.mem_cons.1 hm with hm | hm
    · injection hm with h1 h2; subst h1 h2; simpa using h.1
    · exact NewL_at h.2 j l hm
theorem keys_mem : ∀ {H : List (Nat × Ob)} {ρ : List (Nat × Nat)}, H.map (·.1) = ρ.map (·.1) → ∀ j, (look H j).isSome = true → ∃ l, (j, l) ∈ ρ
  | [], _, _, j, hs => by simp [look] at hs
  | (a, o) :: r, [], h, _, _ => by simp at h
  | (a, o) :: r, (b, l) :: ρ, h, j, hs => by
    simp only [List.map_cons, List.cons.injEq] at h
    rw [look_cons] at hs
    by_cases e : j = a
    · exact ⟨l, by rw [e, h.1]; exact List.mem_cons_self ..⟩
    · rw [if_neg e] at hs
      obtain ⟨l', hm⟩ := keys_mem h.2 j hs
      exact ⟨l', List.mem_cons_of_mem _ hm⟩

/-- The boolean checks of an entry. -/
def newsOk (hl : Nat → Option Ob) (ρ ν : List (Nat × Nat)) : Bool := nodupN ((ρ ++ ν).map (·.2)) && NewL hl ν

theorem callOK_own {α : Type} {K : AV → List (Nat × Ob) → Option α} {res : α} {C : VC} (hC : VCOk P C) {n f : Nat} {fn : Func} (hf : P.funcs[f]? = some fn) (hb : fn.body.isSome = true) (hn : (fn.name == "runtime.NumGoroutine") = false)
    {ρ ν : List (Nat × Nat)} {avs avs' : List AV} {H : List (Nat × Ob)} {hl : Nat → Option Ob} {dl : Dl}
    (hav : avs = avs'.map (renA ρ)) (hargs : argsOk ρ avs' = true) (h1 : nodupN ((ρ ++ ν).map (·.1)) = true) (hρ : nodupN (ρ.map (·.1)) = true)
    (hc : newsOk hl ρ ν = true) (hin : HinL hl H ρ) (hkeys : H.map (·.1) = ρ.map (·.1)) (hwl : wrL dl = (ρ ++ ν).map (·.2))
    (h : vfn C n fn avs' H K = some res)
    (hK : ∀ av H', K av H' = some res → renA (ρ ++ ν) av = dl.v ∧ outWr (ρ ++ ν) H' (ρ ++ ν) = dl.wr ∧ AllL H' (ρ ++ ν) ∧ BoxL H H' ρ) : CallOK P f avs hl dl := by
  simp only [newsOk, Bool.and_eq_true] at hc
  refine callOK_heap hC hf hb hn hav hargs (fun p hp => List.mem_append_left _ hp) h1 hc.1 hρ (HinL_at hin) (keys_mem hkeys) (fun j l hm => ?_) hwl h fun av H' hk => ?_
  · rcases List.mem_append.1 hm with hm | hm
    · exact .inl hm
    · exact .inr (NewL_at hc.2 j l hm)
  · obtain ⟨q1, q2, q3, q4⟩ := hK av H' hk
    exact ⟨q1, q2, AllL_at q3, BoxL_at q4⟩

theorem bif_some {c : Bool} {x : Option R} {r : R} (h : (bif c then x else none) = some r) : c = true ∧ x = some r := by
  cases c with
  | false => cases h
  | true => exact ⟨rfl, h⟩

/-- One contract at some places, another at the others. -/
def altE (l : List Nat) (a b : Entry) : Entry := fun R site g avs hl k => bif memN site l then a R site g avs hl k else b R site g avs hl k
theorem altE_ok (l : List Nat) {f : Nat} {a b : Entry} (ha : EntryOK P f a) (hb : EntryOK P f b) : EntryOK P f (altE l a b) := by
  intro R site g avs hl k r h
  unfold altE at h
  cases hm : memN site l with
  | true => rw [hm] at h; exact ha R site g avs hl k r h
  | false => rw [hm] at h; exact hb R site g avs hl k r h

/-- A pointer among the arguments, and its variable. -/
def prP (hl : Nat → Option Ob) (av : AV) (k : Nat → List AV → Option R) : Option R :=
  match av with
  | .ptr l o => bif Nat.beq o 0 then match hl l with
    | some (.box cs) => k l cs
    | _ => none
    else none
  | _ => none

theorem prP_some {hl : Nat → Option Ob} {av : AV} {k : Nat → List AV → Option R} {r : R} (h : prP hl av k = some r) : ∃ l cs, k l cs = some r ∧ av = .ptr l 0 ∧ hl l = some (.box cs) := by
  unfold prP at h
  split at h
  · rename_i l o
    cases ho : Nat.beq o 0 with
    | false => simp [ho] at h
    | true =>
      simp only [ho, cond_true] at h
      have := Nat.eq_of_beq_eq_true ho
      subst this
      split at h
      · rename_i cs hb; exact ⟨l, cs, h, rfl, hb⟩
      · cases h
  · cases h

end
end Go.Vx
/-
  From a law's pure function to the row.
-/
namespace Go.Vx
section
variable {P : Program} {R : Type}

/-- Every block that is there may be read. -/
def SW (w : World) : Nat → Prop := fun b => b < w.heap.size

theorem law_true {C : VC} (hC : VCOk P C) {n f : Nat} {fn : Func} (hf : P.funcs[f]? = some fn) {ss : List (List Nat)} {K : AV → Option Bool} (hK : ∀ x, K x = some true → x = .d (.bool true))
    {avs : List AV} {args : List Value} {w : World} (hA : ArgsRd (fun _ => none) (SW w) (look ([] : List (Nat × Ob))) w args avs) (h : vfn C n fn avs [] (retF ss K) = some true) :
    Calls P f args.toArray w fun e w' => e = .returned (.bool true) ∧ RowKit.Below w.heap.size w w' := by
  have hO : Objs (fun _ => none) (SW w) (look ([] : List (Nat × Ob))) w := ⟨fun l o h => by simp [look] at h, fun l l' b h => by simp [look] at h, fun l b h => by simp [look] at h, fun b h => h⟩
  refine (vfn_calls hC hf h hO hA).mono fun e w' ⟨v, av, H', β', S', he, hk, hrd, _, hr⟩ => ?_
  refine ⟨?_, Fr.below (hr.fr.mono fun b _ ⟨l, h1, _⟩ => by simp [look] at h1)⟩
  unfold retF at hk
  split at hk
  case h_2 => cases hk
  rename_i av' hav
  cases hlf2 : lf (fixT ss av') with
  | false => simp [hlf2] at hk
  | true =>
    simp only [hlf2, cond_true] at hk
    have hk := hK _ hk
    have hO' : Objs β' S' (look H') w' := ⟨hr.ob, hr.inj, hr.apart, hr.sb⟩
    obtain ⟨bs, _, _, hrd'⟩ := retAV_rd hO' hav hrd
    have := fixT_le ss _ _ _ _ _ _ _ hrd'
    rw [hk] at this
    rw [he, this.bool_inv]

theorem argsRd_nil {β : Nat → Option Nat} {S : Nat → Prop} {h : Nat → Option Ob} {w : World} : ArgsRd β S h w [] [] := ⟨rfl, fun i v av h => by simp at h⟩
theorem argsRd_cons {β : Nat → Option Nat} {S : Nat → Prop} {h : Nat → Option Ob} {w : World} {v : Value} {av : AV} {vs : List Value} {avs : List AV} (h0 : RdA β S h w tm0 v av) (hr : ArgsRd β S h w vs avs) : ArgsRd β S h w (v :: vs) (av :: avs) := by
  refine ⟨by simp [hr.1], fun i v' av' h1 h2 => ?_⟩
  cases i with
  | zero => simp at h1 h2; subst h1 h2; exact h0
  | succ i => exact hr.2 i v' av' (by simpa using h1) (by simpa using h2)

/-- A slice of integers that came in. -/
def IsRow (k : IntKind) (w : World) (a : Option Addr) (len cap : Nat) (zs : List Int) : Prop :=
  (a = none ∧ len = 0 ∧ cap = 0 ∧ zs = []) ∨
  ∃ x, a = some x ∧ len ≤ cap ∧ cap ≤ maxLen ∧ zs.length = cap ∧ (∀ i, i < zs.length → w.cell? (x.add i) = some (.int k (zs.getD i 0))) ∧ ∀ n ∈ zs, (Lit.int k n).wf = true

def intRows (k : IntKind) (l : List Int) : List (List D) := l.map fun n => [.int k n]

theorem cell_lt {w : World} {a : Addr} {v : Value} (h : w.cell? a = some v) : a.block < w.heap.size := by
  rcases Nat.lt_or_ge a.block w.heap.size with h1 | h1
  · exact h1
  · simp [World.cell?, Array.getElem?_eq_none h1] at h

theorem isRow_rd {k : IntKind} {w : World} {a : Option Addr} {len cap : Nat} {zs : List Int} (h : IsRow k w a len cap zs) :
    Rd (SW w) w (.slice a len cap) (.sl 1 (intRows k (zs.take len))) ∧ ∀ n ∈ zs.take len, (Lit.int k n).wf = true := by
  rcases h with ⟨rfl, rfl, rfl, rfl⟩ | ⟨x, rfl, hl, hm, hz, hcell, hwz⟩
  · exact ⟨.sl0 _ _ _, fun n hn => by simp at hn⟩
  · refine ⟨?_, fun n hn => hwz n (List.mem_of_mem_take hn)⟩
    cases len with
    | zero => exact .sl0 _ _ _
    | succ m =>
      have h0 := hcell 0 (by omega)
      have hlen : (intRows k (zs.take (m + 1))).length = m + 1 := by simp [intRows]; omega
      have hat : ∀ (i : Nat) (r : List D), (intRows k (zs.take (m + 1)))[i]? = some r → i < zs.length ∧ r = [.int k (zs.getD i 0)] := by
        intro i r hr
        simp only [intRows, List.getElem?_map, Option.map_eq_some_iff] at hr
        obtain ⟨n, hn, rfl⟩ := hr
        obtain ⟨h1, h2⟩ := List.getElem?_eq_some_iff.1 hn
        simp at h1 h2
        have : i < zs.length := by omega
        refine ⟨this, ?_⟩
        simp [List.getD, List.getElem?_eq_getElem this, h2]
      have := Rd.sl (S := SW w) (w := w) x cap 1 (intRows k (zs.take (m + 1))) (fun i _ => .int k (zs.getD i 0)) (by have := cell_lt h0; rwa [block_add] at this) (by omega)
        (fun i r hr => by rw [(hat i r hr).2]; rfl)
        (fun i j r y hr hy => by
          obtain ⟨h1, rfl⟩ := hat i r hr
          cases j with
          | zero => simpa using hcell i h1
          | succ j => simp at hy)
        (fun i j r y hr hy => by
          obtain ⟨h1, rfl⟩ := hat i r hr
          cases j with
          | zero => simp at hy; subst hy; exact .int _ _
          | succ j => simp at hy)
      rw [hlen] at this
      exact this

/-! pure functions -/

theorem gb_true {α : Type} (p : Option α) (z : α) (k : α → Option R) : gb true p z k = p.bind k := by cases p <;> rfl
theorem gb_some_eq {α : Type} (g : Bool) (a z : α) (k : α → Option R) : gb g (some a) z k = k a := rfl
theorem gb_false {α : Type} (p : Option α) (z : α) (k : α → Option R) : gb false p z k = k (p.getD z) := by cases p <;> rfl

end
end Go.Vx
/-
  Reading the arguments of a law as data of known shape; the row's frame for a law.
-/
namespace Go.Vx

/-- The shape of one cell's data. -/
inductive Sh where
  | int (k : IntKind)
  | bool
  | str
  | sl (row : List Sh)

inductive Fit : Sh → D → Prop
  | int (k : IntKind) (n : Int) (h : (Lit.int k n).wf = true) : Fit (.int k) (.int k n)
  | bool (b : Bool) : Fit .bool (.bool b)
  | str (s : List UInt8) (h : s.length ≤ maxLen) : Fit .str (.str s)
  | sl (row : List Sh) (rows : List (List D)) (h : rows.length ≤ maxLen) (hl : ∀ (i : Nat) (r : List D), rows[i]? = some r → r.length = row.length)
      (hr : ∀ (i j : Nat) (r : List D) (s : Sh) (x : D), rows[i]? = some r → row[j]? = some s → r[j]? = some x → Fit s x) : Fit (.sl row) (.sl row.length rows)

/-- A list of cells has its shapes. -/
def FitL (ss : List Sh) (ds : List D) : Prop := ds.length = ss.length ∧ ∀ (j : Nat) (s : Sh) (x : D), ss[j]? = some s → ds[j]? = some x → Fit s x

def shFs (P : Program) (so : TypeId → Option (List Sh)) : Nat → List Field → Option (List Sh)
  | _, [] => some []
  | off, fd :: r =>
    if fd.offset = off then match so fd.type with
      | some a => if a.length = P.cellsOf fd.type then match shFs P so (off + a.length) r with
        | some l => some (a ++ l)
        | none => none
        else none
      | none => none
    else none

/-- The shapes of a type's cells. -/
def shOf (P : Program) : Nat → TypeId → Option (List Sh)
  | 0, _ => none
  | f + 1, t =>
    match P.underlying t with
    | some .bool => some [.bool]
    | some (.int k) => some [.int k]
    | some .string => some [.str]
    | some (.slice e) => match shOf P f e with
      | some row => if row.length = P.cellsOf e ∧ row.length ≠ 0 then some [.sl row] else none
      | none => none
    | some (.struct fs) => match shFs P (shOf P f) 0 fs.toList with
      | some l => if l.length = P.cellsOf t then some l else none
      | none => none
    | _ => none

section
variable {P : Program} {H : Type} {enc : TypeId × Value → H} {w : World}

def RdL (w : World) (cs : List Value) (ds : List D) : Prop := cs.length = ds.length ∧ ∀ (j : Nat) (v : Value) (x : D), cs[j]? = some v → ds[j]? = some x → Rd (SW w) w v x

theorem ex_list {α : Type} {Q : Nat → α → Prop} : ∀ (n : Nat), (∀ i, i < n → ∃ a, Q i a) → ∃ l : List α, l.length = n ∧ ∀ (i : Nat) (a : α), l[i]? = some a → Q i a
  | 0, _ => ⟨[], rfl, fun i a h => by simp at h⟩
  | n + 1, h => by
    obtain ⟨l, h1, h2⟩ := ex_list n fun i hi => h i (by omega)
    obtain ⟨a, ha⟩ := h n (by omega)
    refine ⟨l ++ [a], by simp [h1], fun i x hx => ?_⟩
    rw [List.getElem?_append] at hx
    split at hx
    · exact h2 i x hx
    · have : i = l.length := by
        rcases Nat.lt_or_ge (i - l.length) 1 with h3 | h3
        · omega
        · rw [List.getElem?_eq_none (by simpa using h3)] at hx; cases hx
      subst this
      simp at hx
      subst hx
      rw [h1]; exact ha

theorem FitL.append {a b : List Sh} {x y : List D} (h1 : FitL a x) (h2 : FitL b y) : FitL (a ++ b) (x ++ y) := by
  refine ⟨by simp [h1.1, h2.1], fun j s d hs hd => ?_⟩
  rw [List.getElem?_append] at hs hd
  rw [h1.1] at hd
  split at hs
  · rename_i h; rw [if_pos h] at hd; exact h1.2 j s d hs hd
  · rename_i h; rw [if_neg h] at hd; exact h2.2 _ s d hs hd

theorem RdL.append {a b : List Value} {x y : List D} (h1 : RdL w a x) (h2 : RdL w b y) : RdL w (a ++ b) (x ++ y) := by
  refine ⟨by simp [h1.1, h2.1], fun j s d hs hd => ?_⟩
  rw [List.getElem?_append] at hs hd
  rw [h1.1] at hs
  split at hd
  · rename_i h; rw [if_pos h] at hs; exact h1.2 j s d hs hd
  · rename_i h; rw [if_neg h] at hs; exact h2.2 _ s d hs hd

theorem rdL_one {v : Value} {x : D} (h : Rd (SW w) w v x) : RdL w [v] [x] := ⟨rfl, fun j v' x' h1 h2 => by
  cases j with
  | zero => simp at h1 h2; subst h1 h2; exact h
  | succ j => simp at h1⟩
theorem fitL_one {s : Sh} {x : D} (h : Fit s x) : FitL [s] [x] := ⟨rfl, fun j v' x' h1 h2 => by
  cases j with
  | zero => simp at h1 h2; subst h1 h2; exact h
  | succ j => simp at h1⟩

theorem cells_some {base : Nat} {a : Addr} {n : Nat} {cs : List Value} (h : w.cells? base a n = some cs) : cs.length = n ∧ ∀ (j : Nat) (v : Value), cs[j]? = some v → w.cell? (a.add j) = some v := by
  unfold World.cells? at h
  split at h
  · refine ⟨by simpa using mapM_some_length h, fun j v hv => ?_⟩
    have hj : j < n := by
      have h1 := mapM_some_length h
      have h2 := (List.getElem?_eq_some_iff.1 hv).1
      simp at h1; omega
    have := mapM_some_get h j j (by simp [hj])
    rw [this, hv]
  · cases h

/-- What was read has a shape, and reads as data. -/
def Got (w : World) (ss : List Sh) (cs : List Value) : Prop := ∃ ds, RdL w cs ds ∧ FitL ss ds

theorem trod_got {base : Nat} {spare : Nat → Bool} {held : Bool} : ∀ (n : Nat) (f : Nat) (t : TypeId) (ss : List Sh) (cs : List Value) (x : DataW H × List MemPlace), shOf P f t = some ss → DataW.trod enc P w base spare held n t cs = some x → Got w ss cs := by
  intro n
  induction n with
  | zero => intro f t ss cs x _ h; simp [DataW.trod] at h
  | succ n ih =>
    intro f t ss cs x hs h
    cases f with
    | zero => simp [shOf] at hs
    | succ f =>
      unfold shOf at hs
      split at hs
      · rename_i ht
        injection hs with hs; subst hs
        obtain ⟨b, rfl, _⟩ := DataW.trod_bool ht h
        exact ⟨[.bool b], rdL_one (.bool b), fitL_one (.bool b)⟩
      · rename_i k ht
        injection hs with hs; subst hs
        obtain ⟨b, rfl, _, hw⟩ := DataW.trod_int ht h
        exact ⟨[.int k b], rdL_one (.int k b), fitL_one (.int k b hw)⟩
      · rename_i ht
        injection hs with hs; subst hs
        obtain ⟨b, rfl, _, hw⟩ := DataW.trod_string ht h
        exact ⟨[.str b.data.toList], rdL_one (.str b), fitL_one (.str _ (by simpa using hw))⟩
      · rename_i e ht
        split at hs
        case h_2 => cases hs
        rename_i row hrow
        split at hs
        case isFalse => cases hs
        rename_i hsz
        obtain ⟨hsz, hz⟩ := hsz
        injection hs with hs; subst hs
        rcases DataW.trod_slice ht h with ⟨rfl, _⟩ | ⟨a, len, cap, elems, rest, n', hn, rfl, _, hb, hl, hm, hel, hat, _, _⟩
        · exact ⟨[.sl row.length []], rdL_one (.sl0 _ _ _), fitL_one (.sl row [] (Nat.zero_le _) (fun i r h => by simp at h) (fun i j r s x h => by simp at h))⟩
        · obtain rfl : n = n' := by omega
          have hget : ∀ i, i < len → ∃ r : List D, ∃ cs, w.cells? base (a.add (i * P.cellsOf e)) (P.cellsOf e) = some cs ∧ RdL w cs r ∧ FitL row r := by
            intro i hi
            have h1 := hat i hi
            have h2 : elems[i]? = some (elems[i]'(by omega)) := List.getElem?_eq_getElem (by omega)
            rw [h2, Option.bind_eq_some_iff] at h1
            obtain ⟨cs, hc, h1⟩ := h1
            obtain ⟨ds, g1, g2⟩ := ih f e row cs _ hrow h1
            exact ⟨ds, cs, hc, g1, g2⟩
          obtain ⟨rows, hrl, hrows⟩ := ex_list len hget
          refine ⟨[.sl row.length rows], rdL_one ?_, fitL_one (.sl row rows (by omega) (fun i r hr => ?_) (fun i j r s x hr hs hx => ?_))⟩
          · cases len with
            | zero =>
              have : rows = [] := List.eq_nil_of_length_eq_zero hrl
              subst this
              exact .sl0 _ _ _
            | succ m =>
              have hcell : ∀ (i j : Nat) (r : List D) (x : D), rows[i]? = some r → r[j]? = some x → ∃ v, w.cell? (a.add (i * row.length + j)) = some v ∧ Rd (SW w) w v x := by
                intro i j r x hr hx
                obtain ⟨cs, hc, g1, g2⟩ := hrows i r hr
                obtain ⟨c1, c2⟩ := cells_some hc
                have hj : j < cs.length := by have := (List.getElem?_eq_some_iff.1 hx).1; have := g1.1; omega
                have hcs : cs[j]? = some (cs[j]'hj) := List.getElem?_eq_getElem hj
                refine ⟨cs[j]'hj, ?_, g1.2 j _ x hcs hx⟩
                have := c2 j _ hcs
                rw [add_add] at this
                rw [hsz]
                exact this
              · have h0 : ∃ r, rows[0]? = some r := ⟨_, List.getElem?_eq_getElem (by omega)⟩
                obtain ⟨r0, hr0⟩ := h0
                obtain ⟨cs0, hc0, g1, g2⟩ := hrows 0 r0 hr0
                have hx0 : ∃ x, r0[0]? = some x := ⟨_, List.getElem?_eq_getElem (by rw [g2.1]; omega)⟩
                obtain ⟨x0, hx0⟩ := hx0
                obtain ⟨v0, hv0, _⟩ := hcell 0 0 r0 x0 hr0 hx0
                have hblk : a.block < w.heap.size := by have := cell_lt hv0; rwa [block_add] at this
                have := Rd.sl (S := SW w) (w := w) a cap row.length rows (fun i j => (w.cell? (a.add (i * row.length + j))).getD undef) hblk (by omega)
                  (fun i r hr => by obtain ⟨_, _, _, g2⟩ := hrows i r hr; exact g2.1)
                  (fun i j r x hr hx => by obtain ⟨v, hv, _⟩ := hcell i j r x hr hx; rw [hv]; rfl)
                  (fun i j r x hr hx => by obtain ⟨v, hv, h2⟩ := hcell i j r x hr hx; rw [hv]; exact h2)
                rw [hrl] at this
                exact this
          · obtain ⟨_, _, _, g2⟩ := hrows i r hr; exact g2.1
          · obtain ⟨_, _, _, g2⟩ := hrows i r hr; exact g2.2 j s x hs hx
      · rename_i fs ht
        split at hs
        case h_2 => cases hs
        rename_i l hl
        split at hs
        case isFalse => cases hs
        rename_i hsz
        injection hs with hs; subst hs
        obtain ⟨xs, n', hn, _, hlen, hxs, hat⟩ := DataW.trod_struct ht h
        obtain rfl : n = n' := by omega
        have key : ∀ (r : List Field) (i off : Nat) (l : List Sh), fs.toList.drop i = r → shFs P (shOf P f) off r = some l → off + l.length ≤ cs.length → Got w l ((cs.drop off).take l.length) := by
          intro r
          induction r with
          | nil =>
            intro i off l _ hl _
            simp [shFs] at hl
            subst hl
            exact ⟨[], ⟨by simp, fun j v x h => by simp at h⟩, ⟨rfl, fun j v x h => by simp at h⟩⟩
          | cons fd r ihr =>
            intro i off l hd hl hle
            unfold shFs at hl
            split at hl
            case isFalse => cases hl
            rename_i hoff
            split at hl
            case h_2 => cases hl
            rename_i a ha
            split at hl
            case isFalse => cases hl
            rename_i hasz
            split at hl
            case h_2 => cases hl
            rename_i l' hl'
            injection hl with hl; subst hl
            have hi : fs[i]? = some fd := by
              have : (fs.toList.drop i)[0]? = some fd := by rw [hd]; rfl
              rw [List.getElem?_drop] at this
              simpa using this
            have h1 := hat i fd hi
            have hi' : i < xs.length := by
              have := (Array.getElem?_eq_some_iff.1 hi).1
              omega
            rw [List.getElem?_eq_getElem hi', hoff, ← hasz] at h1
            have g1 := ih f fd.type a _ _ ha h1
            have g2 := ihr (i + 1) (off + a.length) l' (by rw [← List.drop_drop, hd]; rfl) hl' (by simp at hle; omega)
            obtain ⟨d1, p1, q1⟩ := g1
            obtain ⟨d2, p2, q2⟩ := g2
            refine ⟨d1 ++ d2, ?_, q1.append q2⟩
            have hsplit : (cs.drop off).take (a ++ l').length = (cs.drop off).take a.length ++ (cs.drop (off + a.length)).take l'.length := by
              rw [List.length_append, List.take_add, List.drop_drop]
            rw [hsplit]
            exact p1.append p2
        have := key fs.toList 0 0 l rfl hl (by omega)
        rwa [List.drop_zero, List.take_of_length_le (by omega)] at this
      · cases hs

/-! the arguments -/

inductive ASh where
  | one (s : Sh)
  | ag (ss : List Sh)

def ashOf (P : Program) (t : TypeId) : Option ASh :=
  match P.underlying t with
  | some (.struct _) => match shOf P 9 t with
    | some l => some (.ag l)
    | none => none
  | _ => match shOf P 9 t with
    | some [s] => some (.one s)
    | _ => none

def ashL (P : Program) : List TypeId → Option (List ASh)
  | [] => some []
  | t :: r => match ashOf P t with
    | some a => match ashL P r with
      | some l => some (a :: l)
      | none => none
    | none => none

def AFit : ASh → AV → Prop
  | .one s, av => ∃ x, av = .d x ∧ Fit s x
  | .ag ss, av => ∃ ds : List D, av = .ag (ds.map .d) ∧ FitL ss ds

def AFits : List ASh → List AV → Prop
  | [], [] => True
  | a :: as, v :: vs => AFit a v ∧ AFits as vs
  | _, _ => False

theorem okWide_scalar {r : Reach} {base : Nat} {t : TypeId} {v : Value} {f : Nat} {ss : List Sh} (hs : shOf P f t = some ss) (hn : ∀ fs, P.underlying t ≠ some (.struct fs)) (h : Value.okWide P w r base t v) : v.cells.toList = [v] := by
  cases f with
  | zero => simp [shOf] at hs
  | succ f =>
    unfold shOf at hs
    split at hs
    · rename_i ht; obtain ⟨b, rfl⟩ := WideShapes.okWide_bool ht h; rfl
    · rename_i k ht; obtain ⟨b, rfl⟩ := WideShapes.okWide_int ht h; rfl
    · rename_i ht; obtain ⟨b, rfl⟩ := WideShapes.okWide_string ht h; rfl
    · rename_i e ht; obtain ⟨a, l, c, rfl⟩ := WideShapes.okWide_slice ht h; rfl
    · rename_i fs ht; exact absurd ht (hn fs)
    · cases hs

theorem arg_got {r : Reach} {base base' : Nat} {spare : Nat → Bool} {held : Bool} {t : TypeId} {v : Value} {d : DataW H} {ps : List MemPlace} {a : ASh} (ha : ashOf P t = some a) (hv : Value.okWide P w r base t v) (h : DataW.Trod enc P w base' spare held t v d ps) :
    ∃ av, RdA (fun _ => none) (SW w) (look ([] : List (Nat × Ob))) w tm0 v av ∧ AFit a av := by
  obtain ⟨n, h⟩ := h
  unfold ashOf at ha
  split at ha
  · rename_i fs ht
    split at ha
    case h_2 => cases ha
    rename_i l hl
    injection ha with ha; subst ha
    obtain ⟨ds, h1, h2⟩ := trod_got n 9 t l _ _ hl h
    simp only [Value.okWide, ht] at hv
    obtain ⟨cs, rfl, hsz, _⟩ := hv
    refine ⟨.ag (ds.map .d), .ag cs _ (by simpa [Value.cells] using h1.1) fun i x hx => ?_, ds, rfl, h2⟩
    rw [List.getElem?_map, Option.map_eq_some_iff] at hx
    obtain ⟨y, hy, rfl⟩ := hx
    have hi : i < cs.size := by
      have g1 := (List.getElem?_eq_some_iff.1 hy).1
      have g2 := h1.1
      simp [Value.cells] at g2
      omega
    have hc : cs.getD i undef = cs[i] := by simp [Array.getD, hi]
    rw [hc]
    exact .d _ _ (h1.2 i _ y (by simp [Value.cells, hi]) hy)
  · rename_i hn
    split at ha
    case h_2 => cases ha
    rename_i s hs
    injection ha with ha; subst ha
    have hc := okWide_scalar hs hn hv
    obtain ⟨ds, h1, h2⟩ := trod_got n 9 t _ _ _ hs h
    rw [hc] at h1
    obtain ⟨x, rfl⟩ : ∃ x, ds = [x] := by
      have := h1.1
      match ds, this with
      | [x], _ => exact ⟨x, rfl⟩
    exact ⟨.d x, .d _ _ (h1.2 0 v x rfl rfl), x, rfl, h2.2 0 s x rfl rfl⟩

theorem args_got {r : Reach} {base base' : Nat} {spare : Nat → Bool} {held : Bool} : ∀ (ts : List TypeId) (vs : List Value) (ds : List (DataW H)) (ps : List MemPlace) (as : List ASh), ashL P ts = some as →
    (∀ (j : Nat) t v, ts[j]? = some t → vs[j]? = some v → Value.okWide P w r base t v) → DataW.TrodAll enc P w base' spare held ts vs ds ps →
    ∃ avs, ArgsRd (fun _ => none) (SW w) (look ([] : List (Nat × Ob))) w vs avs ∧ AFits as avs
  | [], vs, ds, ps, as, has, hv, h => by
    simp [ashL] at has
    subst has
    cases vs with
    | nil => exact ⟨[], argsRd_nil, trivial⟩
    | cons v vs => cases ds <;> simp [DataW.TrodAll] at h
  | t :: ts, vs, ds, ps, as, has, hv, h => by
    obtain ⟨v, vs', d, ds', p, q, rfl, rfl, rfl, h1, h2⟩ := ChangeShapes.trodAll_cons h
    unfold ashL at has
    split at has
    case h_2 => cases has
    rename_i a ha
    split at has
    case h_2 => cases has
    rename_i as' has'
    injection has with has
    subst has
    obtain ⟨av, g1, g2⟩ := arg_got ha (hv 0 t v rfl rfl) h1
    obtain ⟨avs, g3, g4⟩ := args_got ts vs' ds' q as' has' (fun j t v h1 h2 => hv (j + 1) t v (by simpa using h1) (by simpa using h2)) h2
    exact ⟨av :: avs, argsRd_cons g1 g3, g2, g4⟩

theorem args_stay {W W' : World} (hl : laidOutB P = true) (hb : RowKit.Below W.heap.size W W') : ∀ (ts : List TypeId) (vs : List Value) (ds : List (DataW H)) (ps : List MemPlace), (ts.all fun t => P.readableRec t && decide (t < P.types.size)) = true →
    DataW.TrodAll enc P W 0 (fun _ => true) true ts vs ds ps → ∃ pa, DataW.TrodAll enc P W' 0 (fun b => decide (b < W.heap.size)) true ts vs ds pa
  | [], vs, ds, ps, _, h => by
    cases vs <;> cases ds <;> simp [DataW.TrodAll] at h
    exact ⟨[], rfl⟩
  | t :: ts, vs, ds, ps, ht, h => by
    obtain ⟨v, vs', d, ds', p, q, rfl, rfl, rfl, h1, h2⟩ := ChangeShapes.trodAll_cons h
    simp only [List.all_cons, Bool.and_eq_true, decide_eq_true_eq] at ht
    obtain ⟨pa, g⟩ := args_stay hl hb ts vs' ds' q ht.2 h2
    have hlt : ∀ x ∈ p, x.block < W.heap.size := by obtain ⟨m, hm⟩ := h1; exact DataW.trod_lt m _ _ _ hm
    exact ⟨p ++ pa, p, pa, RowKit.Below.trod hl ht.1.1 ht.1.2 h1 hb hlt, g, rfl⟩

theorem trodAll_length {base : Nat} {spare : Nat → Bool} {held : Bool} : ∀ (ts : List TypeId) (vs : List Value) (ds : List (DataW H)) (ps : List MemPlace), DataW.TrodAll enc P w base spare held ts vs ds ps → vs.length = ts.length ∧ ds.length = ts.length
  | [], vs, ds, ps, h => by
    cases vs <;> cases ds <;> simp [DataW.TrodAll] at h
    exact ⟨rfl, rfl⟩
  | t :: ts, vs, ds, ps, h => by
    obtain ⟨v, vs', d, ds', p, q, rfl, rfl, rfl, h1, h2⟩ := ChangeShapes.trodAll_cons h
    have := trodAll_length ts vs' ds' q h2
    simp [this.1, this.2]

/-- The contract of a law: the walk, put into the row's words. -/
theorem law_contract {fn : Func} {f : FuncId} {s : ChangeSpec} {as : List ASh} {tb : TypeId} (laid : laidOutB P = true)
    (hvars : s.vars = []) (hpar : (fn.params.toList.all fun t => P.readableRec t && decide (t < P.types.size)) = true) (has : ashL P fn.params.toList = some as)
    (hres : fn.resultTypes = #[tb]) (hb : P.underlying tb = some .bool)
    {W : World} {base : Nat} {args : Array Value} {ds gs : List (DataW H)} {before : List MemPlace}
    (hval : ∀ (j : Nat) t v, fn.params[j]? = some t → args[j]? = some v → Value.okWide P W .any base t v)
    (hW : DataW.Whole enc P fn.params.toList s.vars false W args.toList ds gs before)
    (hspec : ∀ ds : List (DataW H), ds.length = fn.params.size → s.fn H ds = { results := [.lit (.bool true)], args := ds })
    (walk : ∀ avs, AFits as avs → ArgsRd (fun _ => none) (SW W) (look ([] : List (Nat × Ob))) W args.toList avs → Calls P f args W fun e w' => e = .returned (.bool true) ∧ RowKit.Below W.heap.size W w') :
    Calls P f args W fun e W' => ∃ v, e = .returned v ∧ s.post enc P fn false true false false W args v W' := by
  have hW' := hW
  obtain ⟨p, q, hA, hV, rfl, hfz, hnd⟩ := hW
  obtain ⟨avs, g1, g2⟩ := args_got (r := .any) (base := base) _ _ _ _ as has (fun j t v h1 h2 => hval j t v (by simpa using h1) (by simpa using h2)) hA
  refine (walk avs g2 g1).mono fun e W' ⟨he, bel⟩ => ?_
  subst he
  obtain ⟨pa, hpa⟩ := args_stay laid bel _ _ _ _ hpar hA
  rw [hvars] at hV
  obtain ⟨rfl, rfl⟩ := ChangeShapes.trodVars_none hV
  have hlen := (trodAll_length _ _ _ _ hA).2
  have hsp := hspec ds (by simpa using hlen)
  refine ⟨_, rfl, ds, [], _, [], pa, [], hW', ?_, ?_, ?_, bel.frame _, fun h => by cases h⟩
  · rw [List.append_nil, hsp, hres]
    exact ChangeShapes.trodAll_mk1 (RowKit.shut_bool hb _)
  · rw [List.append_nil, hsp]; exact hpa
  · rw [List.append_nil, hsp, hvars]; rfl

end
end Go.Vx
/-
  Short words for the generated texts.
-/
set_option linter.unusedVariables false
namespace Go.Vx
abbrev bs (l : List UInt8) : List UInt8 := l
abbrev LL := List (List D)
abbrev dI (x : Int) : AV := .d (.int .i64 x)
abbrev dB (b : Bool) : AV := .d (.bool b)
abbrev dT (s : List UInt8) : AV := .d (.str s)
abbrev dL (k : Nat) (r : LL) : AV := .d (.sl k r)
def cA : List Nat → Code → Code
  | [], c => c
  | 0 :: r, c => cA r (cL c)
  | 1 :: r, c => cA r (cR c)
  | 2 :: r, c => cA r (cB c)
  | 3 :: r, c => cA r (cT c)
  | _ :: r, c => cA r (cE c)
abbrev cK (r : Nat) (l : List Nat) : Nat × Cfg := (r, ⟨l, [], [], [], []⟩)
abbrev cO (r : Nat) (l o : List Nat) : Nat × Cfg := (r, ⟨l, o.map fun x => (x, x), [], [], []⟩)
section
variable {A B C D E F R : Type}
theorem cg1 (f : A → R) {a a' : A} (h : a = a') : f a = f a' := h ▸ rfl
theorem cg2 (f : A → B → R) {a a' : A} {b b' : B} (h : a = a') (i : b = b') : f a b = f a' b' := h ▸ i ▸ rfl
theorem cg3 (f : A → B → C → R) {a a' : A} {b b' : B} {c c' : C} (h : a = a') (i : b = b') (j : c = c') : f a b c = f a' b' c' := h ▸ i ▸ j ▸ rfl
theorem cg4 (f : A → B → C → D → R) {a a' : A} {b b' : B} {c c' : C} {d d' : D} (h : a = a') (i : b = b') (j : c = c') (k : d = d') : f a b c d = f a' b' c' d' := h ▸ i ▸ j ▸ k ▸ rfl
theorem cg5 (f : A → B → C → D → E → R) {a a' : A} {b b' : B} {c c' : C} {d d' : D} {e e' : E} (h : a = a') (i : b = b') (j : c = c') (k : d = d') (l : e = e') : f a b c d e = f a' b' c' d' e' := h ▸ i ▸ j ▸ k ▸ l ▸ rfl
theorem cg6 (f : A → B → C → D → E → F → R) {a a' : A} {b b' : B} {c c' : C} {d d' : D} {e e' : E} {g g' : F} (h : a = a') (i : b = b') (j : c = c') (k : d = d') (l : e = e') (m : g = g') : f a b c d e g = f a' b' c' d' e' g' := h ▸ i ▸ j ▸ k ▸ l ▸ m ▸ rfl
end
theorem loopN_at {R : Type} {C : VC} {n : Nat} {c : Code} {st st' : St} (h : normAt C (3000000000 + reg1 c) st = normAt C (3000000000 + reg1 c) st') (m : Nat) (k : Exit → St → Option R) : loopN (lB C n c) m st k = loopN (lB C n c) m st' k := by
  cases m with
  | zero => rfl
  | succ m => show vexec C n c (normAt C (3000000000 + reg1 c) st) _ = vexec C n c (normAt C (3000000000 + reg1 c) st') _; rw [h]
theorem lS {R : Type} {C : VC} {n : Nat} {c : Code} {st st' : St} (h : normAt C (3000000000 + reg1 c) st = st') (m : Nat) (k : Exit → St → Option R) : loopN (lB C n c) (m + 1) st k = vexec C n c st' (loopK (lB C n c) m k) := by subst h; rfl
end Go.Vx
/-
  Contracts by shape: the callee sees some of the caller's objects, arrays and function values among them.
-/
namespace Go.Vx
section
variable {P : Program} {R : Type}

mutual
/-- All names lie in the map's domain; no guard. -/
def dm (ρ : List (Nat × Nat)) : AV → Bool
  | .ptr j _ => (look ρ j).isSome
  | .arr j => (look ρ j).isSome
  | .ap j _ _ => (look ρ j).isSome
  | .sa j _ => (look ρ j).isSome
  | .ag l => dmL ρ l
  | .tup l => dmL ρ l
  | .fn _ l => dmL ρ l
  | .gd .. => false
  | _ => true
def dmL (ρ : List (Nat × Nat)) : List AV → Bool
  | [] => true
  | a :: r => dm ρ a && dmL ρ r
end

theorem dmL_at {ρ : List (Nat × Nat)} : ∀ {l : List AV} {i : Nat} {x : AV}, dmL ρ l = true → l[i]? = some x → dm ρ x = true
  | a :: r, 0, x, h, hx => by
    simp only [dmL, Bool.and_eq_true] at h
    simp at hx; subst hx; exact h.1
  | a :: r, i + 1, x, h, hx => by
    simp only [dmL, Bool.and_eq_true] at h
    exact dmL_at h.2 (by simpa using hx)

section
variable {ρ : List (Nat × Nat)} {β β' : Nat → Option Nat} {S : Nat → Prop} {h h' : Nat → Option Ob} {w : World} {tm : Nat → Value}

theorem unren (hβ : ∀ j l, look ρ j = some l → β' j = β l) (hh : ∀ j l, look ρ j = some l → (h l).isSome = true ∧ ∀ e s rows, h l = some (.arr e s rows) → h' j = some (.arr e s rows)) :
    ∀ {v : Value} {y : AV}, RdA β S h w tm v y → ∀ x : AV, dm ρ x = true → y = renA ρ x → RdA β' S h' w tm v x := by
  intro v y hv
  induction hv with
  | top v =>
    intro x hd he
    cases x <;> simp only [renA, reduceCtorEq] at he
    case top => exact .top v
    case ptr j o => simp only [dm] at hd; obtain ⟨l, hl⟩ := Option.isSome_iff_exists.1 hd; rw [hl] at he; cases he
    case arr j => simp only [dm] at hd; obtain ⟨l, hl⟩ := Option.isSome_iff_exists.1 hd; rw [hl] at he; cases he
    case ap j i o => simp only [dm] at hd; obtain ⟨l, hl⟩ := Option.isSome_iff_exists.1 hd; rw [hl] at he; cases he
    case sa j o => simp only [dm] at hd; obtain ⟨l, hl⟩ := Option.isSome_iff_exists.1 hd; rw [hl] at he; cases he
    case gd => simp [dm] at hd
  | d v z hz =>
    intro x hd he
    cases x <;> simp only [renA, reduceCtorEq] at he
    case d => injection he with he; subst he; exact .d v _ hz
    case ptr j o => split at he <;> cases he
    case arr j => split at he <;> cases he
    case sa j t => split at he <;> cases he
    case ap j i o => split at he <;> cases he
  | nil =>
    intro x hd he
    cases x <;> simp only [renA, reduceCtorEq] at he
    case nil => exact .nil
    case ptr j o => split at he <;> cases he
    case arr j => split at he <;> cases he
    case sa j t => split at he <;> cases he
    case ap j i o => split at he <;> cases he
  | ag cs l hl _ ih =>
    intro x hd he
    cases x <;> simp only [renA, reduceCtorEq] at he
    case ag r =>
      injection he with he
      subst he
      rw [renL_length] at hl
      refine .ag cs r hl fun i z hz => ?_
      exact ih i (renA ρ z) (by rw [renL_get, hz]; rfl) z (dmL_at (by simpa [dm] using hd) hz) rfl
    case ptr j o => split at he <;> cases he
    case arr j => split at he <;> cases he
    case sa j t => split at he <;> cases he
    case ap j i o => split at he <;> cases he
  | tup cs l hl _ ih =>
    intro x hd he
    cases x <;> simp only [renA, reduceCtorEq] at he
    case tup r =>
      injection he with he
      subst he
      rw [renL_length] at hl
      refine .tup cs r hl fun i z hz => ?_
      exact ih i (renA ρ z) (by rw [renL_get, hz]; rfl) z (dmL_at (by simpa [dm] using hd) hz) rfl
    case ptr j o => split at he <;> cases he
    case arr j => split at he <;> cases he
    case sa j t => split at he <;> cases he
    case ap j i o => split at he <;> cases he
  | fn f cs l hl _ ih =>
    intro x hd he
    cases x <;> simp only [renA, reduceCtorEq] at he
    case fn g r =>
      injection he with he1 he2
      subst he1
      subst he2
      rw [renL_length] at hl
      refine .fn f cs r hl fun i z hz => ?_
      exact ih i (renA ρ z) (by rw [renL_get, hz]; rfl) z (dmL_at (by simpa [dm] using hd) hz) rfl
    case ptr j o => split at he <;> cases he
    case arr j => split at he <;> cases he
    case sa j t => split at he <;> cases he
    case ap j i o => split at he <;> cases he
  | fs ad s rows hx =>
    intro x hd he
    cases x <;> simp only [renA, reduceCtorEq] at he
    case fs => injection he with e1 e2; subst e1 e2; exact .fs ad _ _ hx
    case ptr j o => split at he <;> cases he
    case arr j => split at he <;> cases he
    case sa j t => split at he <;> cases he
    case ap j i o => split at he <;> cases he
  | ex v =>
    intro x hd he
    cases x <;> simp only [renA, reduceCtorEq] at he
    case ex => injection he with e1; subst e1; exact .ex _
    case ptr j o => split at he <;> cases he
    case arr j => split at he <;> cases he
    case sa j t => split at he <;> cases he
    case ap j i o => split at he <;> cases he
  | mpd v f hm =>
    intro x hd he
    cases x <;> simp only [renA, reduceCtorEq] at he
    case mpd => injection he with e1; subst e1; exact .mpd v _ hm
    case ptr j o => split at he <;> cases he
    case arr j => split at he <;> cases he
    case sa j t => split at he <;> cases he
    case ap j i o => split at he <;> cases he
  | ptr l off b hb =>
    intro x hd he
    cases x <;> simp only [renA, reduceCtorEq] at he
    case ptr j o =>
      split at he
      · rename_i l' hl'
        injection he with e1 e2
        subst e1 e2
        exact .ptr j _ b ((hβ j _ hl').trans hb)
      · cases he
    case arr j => split at he <;> cases he
    case sa j t => split at he <;> cases he
    case ap j i o => split at he <;> cases he
  | sa v l t b hb hv =>
    intro x hd he
    cases x <;> simp only [renA, reduceCtorEq] at he
    case sa j t =>
      split at he
      · rename_i l' hl'
        injection he with e1 e2
        subst e1 e2
        exact .sa v j _ b ((hβ j _ hl').trans hb) hv
      · cases he
    case ptr j o => split at he <;> cases he
    case arr j => split at he <;> cases he
    case ap j i o => split at he <;> cases he
  | el ad row off c hs hc hr =>
    intro x hd he
    cases x <;> simp only [renA, reduceCtorEq] at he
    case el r o => injection he with e1 e2; subst e1 e2; exact .el ad _ _ c hs hc hr
    case ptr j o => split at he <;> cases he
    case arr j => split at he <;> cases he
    case sa j t => split at he <;> cases he
    case ap j i o => split at he <;> cases he
  | arr0 l e s hb hk =>
    intro x hd he
    cases x <;> simp only [renA, reduceCtorEq] at he
    case arr j =>
      split at he
      · rename_i l' hl'
        injection he with e1
        subst e1
        exact .arr0 j e s ((hβ j _ hl').trans hb) ((hh j _ hl').2 _ _ _ hk)
      · cases he
    case ptr j o => split at he <;> cases he
    case sa j t => split at he <;> cases he
    case ap j i o => split at he <;> cases he
  | arr l b cap e s rows cs ty fz hb hk hw hcs hcap hmax =>
    intro x hd he
    cases x <;> simp only [renA, reduceCtorEq] at he
    case arr j =>
      split at he
      · rename_i l' hl'
        injection he with e1
        subst e1
        exact .arr j b cap e s rows cs ty fz ((hβ j _ hl').trans hb) ((hh j _ hl').2 _ _ _ hk) hw hcs hcap hmax
      · cases he
    case ptr j o => split at he <;> cases he
    case sa j t => split at he <;> cases he
    case ap j i o => split at he <;> cases he
  | ap l i off b e s rows hb hk =>
    intro x hd he
    cases x <;> simp only [renA, reduceCtorEq] at he
    case ap j i' o =>
      split at he
      · rename_i l' hl'
        injection he with e1 e2 e3
        subst e1 e2 e3
        exact .ap j _ _ b e s rows ((hβ j _ hl').trans hb) ((hh j _ hl').2 _ _ _ hk)
      · cases he
    case ptr j o => split at he <;> cases he
    case arr j => split at he <;> cases he
    case sa j t => split at he <;> cases he
  | dang v av l hl hk h1 =>
    intro x hd he
    exfalso
    cases x with
    | ptr j o => simp only [renA] at he; split at he <;> (subst he; simp [locOf] at hl)
    | sa j o => simp only [renA] at he; split at he <;> (subst he; simp [locOf] at hl)
    | arr j =>
      simp only [renA] at he
      split at he
      · rename_i l' hl'
        subst he
        simp [locOf] at hl
        subst hl
        have := (hh j _ hl').1
        rw [hk] at this
        cases this
      · subst he; simp [locOf] at hl
    | ap j i o =>
      simp only [renA] at he
      split at he
      · rename_i l' hl'
        subst he
        simp [locOf] at hl
        subst hl
        have := (hh j _ hl').1
        rw [hk] at this
        cases this
      · subst he; simp [locOf] at hl
    | _ => simp only [renA] at he; subst he; simp [locOf] at hl
  | gdT v t b av ht hv ih =>
    intro x hd he
    cases x <;> simp only [renA, reduceCtorEq] at he
    case ptr j o => split at he <;> cases he
    case arr j => split at he <;> cases he
    case sa j t => split at he <;> cases he
    case ap j i o => split at he <;> cases he
  | gdF t b av ht =>
    intro x hd he
    cases x <;> simp only [renA, reduceCtorEq] at he
    case ptr j o => split at he <;> cases he
    case arr j => split at he <;> cases he
    case sa j t => split at he <;> cases he
    case ap j i o => split at he <;> cases he

end

/-- A cell of the caller's, and how the callee sees it. -/
def CLe (ρ : List (Nat × Nat)) (c c' : AV) : Prop := (lf c' = true ∧ AVle c c') ∨ (dm ρ c' = true ∧ c = renA ρ c')

inductive CLeL (ρ : List (Nat × Nat)) : List AV → List AV → Prop
  | nil : CLeL ρ [] []
  | cons {a b : AV} {l r : List AV} (h : CLe ρ a b) (t : CLeL ρ l r) : CLeL ρ (a :: l) (b :: r)

theorem CLeL.length {ρ : List (Nat × Nat)} {l r : List AV} (h : CLeL ρ l r) : l.length = r.length := by induction h <;> simp [*]
theorem CLeL.at {ρ : List (Nat × Nat)} {l r : List AV} (h : CLeL ρ l r) : ∀ (i : Nat) (x : AV), r[i]? = some x → ∃ y, l[i]? = some y ∧ CLe ρ y x := by
  induction h with
  | nil => intro i x hx; simp at hx
  | cons h0 _ ih =>
    intro i x hx
    cases i with
    | zero => simp at hx; subst hx; exact ⟨_, rfl, h0⟩
    | succ i => obtain ⟨y, h1, h2⟩ := ih i x (by simpa using hx); exact ⟨y, by simpa using h1, h2⟩

theorem saTy_cle {ρ : List (Nat × Nat)} {ty : TypeId} {cs cs' : List AV} (hc : CLeL ρ cs cs') (h : SaTy ty cs) : SaTy ty cs' := by
  intro i l t hi
  obtain ⟨y, hy, hcl⟩ := hc.at i _ hi
  rcases hcl with ⟨h1, _⟩ | ⟨h1, rfl⟩
  · simp [lf] at h1
  · simp only [dm] at h1
    obtain ⟨l', hl'⟩ := Option.isSome_iff_exists.1 h1
    simp only [renA, hl'] at hy
    exact h i l' t hy

inductive OLe (ρ : List (Nat × Nat)) : Ob → Ob → Prop
  | box {cs cs' : List AV} (h : CLeL ρ cs cs') : OLe ρ (.box cs) (.box cs')
  | arr (e s : Nat) (rows : List (List D)) : OLe ρ (.arr e s rows) (.arr e s rows)

/-- How an object of the caller's comes back. -/
def EndOk (o o' : Option Ob) : Prop :=
  (∃ c c', o = some (.box c) ∧ o' = some (.box c') ∧ c'.length = c.length) ∨
  (∃ e s rows, o = some (.arr e s rows) ∧ (o' = none ∨ ∃ rows', o' = some (.arr e s rows') ∧ rows'.length = rows.length))

structure ShapeEnd (σ ρ : List (Nat × Nat)) (H : List (Nat × Ob)) (av : AV) (H' : List (Nat × Ob)) (dl : Dl) : Prop where
  v : renA σ av = dl.v
  wr : outWr σ H' σ = dl.wr
  news : ∀ j l, (j, l) ∈ σ → (j, l) ∉ ρ → (look H' j).isSome = true
  old : ∀ j l, (j, l) ∈ ρ → EndOk (look H j) (look H' j)

theorem callOK_shapeX {α : Type} {K : AV → List (Nat × Ob) → Option α} {res : α} {f : Nat} {fn : Func} (hf : P.funcs[f]? = some fn) (hb : fn.body.isSome = true) (hn : (fn.name == "runtime.NumGoroutine") = false)
    {σ ρ : List (Nat × Nat)} {avs avs' : List AV} {H : List (Nat × Ob)} {hl : Nat → Option Ob} {dl : Dl}
    (hav : CLeL ρ avs avs')
    (hsub : ∀ p, p ∈ ρ → p ∈ σ) (h1 : nodupN (σ.map (·.1)) = true) (h2 : nodupN (σ.map (·.2)) = true) (hρ : nodupN (ρ.map (·.1)) = true)
    (hin : ∀ j l, (j, l) ∈ ρ → 1000000 ≤ j ∧ ∃ o o', hl l = some o ∧ look H j = some o' ∧ OLe ρ o o')
    (hinH : ∀ j, (look H j).isSome = true → ∃ l, (j, l) ∈ ρ)
    (hnew : ∀ j l, (j, l) ∈ σ → (j, l) ∈ ρ ∨ hl l = none)
    (hwl : wrL dl = σ.map (·.2))
    (h : ∀ (β : Nat → Option Nat) (S : Nat → Prop) (w : World) (vs : List Value), Objs β S (look H) w → ArgsRd β S (look H) w vs avs' → Calls P f vs.toArray w (FnPost H K res β S w)) (hK : ∀ av H', K av H' = some res → ShapeEnd σ ρ H av H' dl) : CallOK P f avs hl dl := by
  refine ⟨⟨fn, hf, hb, hn⟩, fun β S h' w args hO hA hag => ?_⟩
  have hag : ∀ {j l : Nat}, (j, l) ∈ σ → h' l = hl l := fun {j l} hm => hag l (.inr (by rw [hwl]; exact List.mem_map.2 ⟨(j, l), hm, rfl⟩))
  have hlook : ∀ {j l : Nat}, (j, l) ∈ ρ → look ρ j = some l := fun hm => look_of_mem hρ hm
  have hβc : ∀ {j l : Nat}, (j, l) ∈ ρ → (look ρ j).bind β = β l := fun hm => by rw [hlook hm]; rfl
  have hlk2 : ∀ {j j' l : Nat}, (j, l) ∈ ρ → (j', l) ∈ ρ → j = j' := fun a b => by
    have := nodup_fst h2 _ _ (hsub _ a) (hsub _ b) rfl
    injection this
  have hsome' : ∀ {j l : Nat}, (j, l) ∈ ρ → (h' l).isSome = true := fun hm => by
    obtain ⟨_, o, o', g1, _⟩ := hin _ _ hm
    rw [hag (hsub _ hm), g1]; rfl
  have hun : ∀ {v : Value} {y x : AV}, RdA β S h' w tm0 v y → CLe ρ y x → RdA (fun j => (look ρ j).bind β) S (look H) w tm0 v x := by
    intro v y x hv hc
    rcases hc with ⟨c1, c2⟩ | ⟨c1, rfl⟩
    · exact rdA_lf c1 (fun _ h => h) (fun _ _ => rfl) (c2 _ _ _ _ _ _ hv)
    · refine unren (ρ := ρ) (fun j l hj => by simp only [hj]; rfl) (fun j l hj => ⟨hsome' (look_mem hj), fun e s rows hx => ?_⟩) hv x c1 rfl
      obtain ⟨_, o, o', g1, g2, g3⟩ := hin j l (look_mem hj)
      rw [hag (hsub _ (look_mem hj)), g1] at hx
      injection hx with hx
      subst hx
      cases g3
      exact g2
  -- the callee's view
  have hO0 : Objs (fun j => (look ρ j).bind β) S (look H) w := by
    refine ⟨fun j o ho => ?_, fun j j' b s1 s2 b1 b2 => ?_, fun j b s1 b1 => ?_, hO.sb⟩
    · obtain ⟨l, hm⟩ := hinH j (by simp [ho])
      obtain ⟨_, oo, o', g1, g2, g3⟩ := hin j l hm
      rw [ho] at g2
      injection g2 with g2
      subst g2
      have hob := hO.ob l _ ((hag (hsub _ hm)).trans g1)
      cases g3 with
      | box g3 =>
        obtain ⟨b, ty, c0, fz, e1, e2, e3, e4, e5⟩ := hob
        refine ⟨b, ty, c0, fz, (hβc hm).trans e1, e2, ⟨e3.1, saTy_cle g3 e3.2⟩, e4.trans g3.length, fun i x hx => ?_⟩
        obtain ⟨y, y1, y2⟩ := g3.at i x hx
        exact hun (e5 i y y1) y2
      | arr e s rows =>
        rcases hob with ⟨e1, e2⟩ | ⟨b, cs, e1, e2, e3, e4, e5⟩
        · exact .inl ⟨(hβc hm).trans e1, e2⟩
        · exact .inr ⟨b, cs, (hβc hm).trans e1, e2, e3, e4, e5⟩
    · obtain ⟨l, hm⟩ := hinH j s1
      obtain ⟨l', hm'⟩ := hinH j' s2
      have := hO.inj l l' b (hsome' hm) (hsome' hm') (by rw [← hβc hm]; exact b1) (by rw [← hβc hm']; exact b2)
      subst this
      exact hlk2 hm hm'
    · obtain ⟨l, hm⟩ := hinH j s1
      exact hO.apart l b (hsome' hm) (by rw [← hβc hm]; exact b1)
  have hA0 : ArgsRd (fun j => (look ρ j).bind β) S (look H) w args avs' := by
    refine ⟨by rw [hA.1, hav.length], fun i v av g1 g2 => ?_⟩
    obtain ⟨y, y1, y2⟩ := hav.at i av g2
    exact hun (hA.2 i v y g1 y1) y2
  refine (h _ _ _ _ hO0 hA0).mono fun e w' ⟨v, av, H', β', S', he, hk, hrd, _, hr⟩ => ?_
  obtain ⟨q1, q2, q3, q4⟩ := hK av H' hk
  have hinv : ∀ {j l : Nat}, (j, l) ∈ σ → inv σ l = some j := fun hm => inv_of h2 hm
  let βo : Nat → Option Nat := fun l => match inv σ l with | some j => β' j | none => β l
  have hβo : ∀ j l, (j, l) ∈ σ → βo l = β' j := fun j l hm => by simp only [βo, hinv hm]
  have hset : ∀ j l, (j, l) ∈ σ → setF h' dl.wr l = (look H' j).map (renO σ) := fun j l hm => by rw [← q2]; exact setF_out_at σ H' σ h' h2 j l hm
  have hmem : ∀ {l : Nat}, l ∈ wrL dl → ∃ j, (j, l) ∈ σ := fun hm => by
    rw [hwl] at hm
    obtain ⟨⟨j, l'⟩, m1, m2⟩ := List.mem_map.1 hm
    simp only at m2
    subst m2
    exact ⟨j, m1⟩
  have hpin : ∀ {j l : Nat}, (j, l) ∈ ρ → β' j = β l := fun hm => (hr.pin _ (hin _ _ hm).1).trans (hβc hm)
  have hren : ∀ {v : Value} {x : AV}, RdA β' S' (look H') w' tm0 v x → RdA βo S' (setF h' dl.wr) w' tm0 v (renA σ x) := fun hx =>
    renA_gen hβo (fun j l o hm ho => by rw [hset j l hm, ho]; rfl) (fun j l hm ho => by rw [hset j l hm, ho]; rfl) hx
  have hwmem : ∀ {j l : Nat}, (j, l) ∈ σ → l ∈ wrL dl := fun {j l} hm => by rw [hwl]; exact List.mem_map.2 ⟨(j, l), hm, rfl⟩
  have hMw : ∀ b, (∃ j, (look H j).isSome = true ∧ (look ρ j).bind β = some b) → ∃ l, l ∈ wrL dl ∧ (h' l).isSome = true ∧ β l = some b := by
    intro b ⟨j, s1, s2⟩
    obtain ⟨l, hm⟩ := hinH j s1
    exact ⟨l, hwmem (hsub _ hm), hsome' hm, by rw [← hβc hm]; exact s2⟩
  have hw0 : ∀ {b : Nat}, (∃ j, (look H j).isSome = true ∧ (look ρ j).bind β = some b) ∨ w.heap.size ≤ b → w.heap.size ≤ b ∨ ∃ l0, l0 ∈ wrL dl ∧ (h' l0).isSome = true ∧ β l0 = some b := by
    intro b hx
    rcases hx with hx | hx
    · exact .inr (hMw b hx)
    · exact .inl hx
  refine ⟨v, βo, S', he, ⟨hr.s0, fun b hS => ?_, hr.sb, hr.fr.mono fun b _ hM => hMw b hM, fun l hno => ?_, fun l o hm ho => ?_, fun l hm hs => ?_, fun l b hm hs hb' => ?_, fun l l' b hm hm' hs hs' hb' hb'' => ?_, fun l hm hno hno' => ?_, ?_, fun t => by rw [← q1]; exact gds_renA σ t av⟩⟩
  · rcases hr.sfr b hS with g | g | g
    · exact .inl g
    · exact .inr (.inr (hMw b g))
    · exact .inr (.inl g)
  · have : inv σ l = none := inv_none (by rw [← hwl]; exact hno)
    simp only [βo, this]
  · obtain ⟨j, hj⟩ := hmem hm
    rw [hset j l hj, Option.map_eq_some_iff] at ho
    obtain ⟨o', ho', rfl⟩ := ho
    have hob := hr.ob j o' ho'
    cases o' with
    | box cells =>
      obtain ⟨b, ty, cs, fz, g1, g2, g3, g4, g5⟩ := hob
      refine ⟨b, ty, cs, fz, (hβo j l hj).trans g1, g2, ⟨g3.1, saTy_ren g3.2⟩, by rw [g4, renL_length], fun i x hx => ?_⟩
      rw [renL_get, Option.map_eq_some_iff] at hx
      obtain ⟨y, hy, rfl⟩ := hx
      exact hren (g5 i y hy)
    | arr e s rows =>
      rcases hob with ⟨g1, g2⟩ | ⟨b, cs, g1, g2, g3, g4, g5⟩
      · exact .inl ⟨(hβo j l hj).trans g1, g2⟩
      · exact .inr ⟨b, cs, (hβo j l hj).trans g1, g2, g3, g4, g5⟩
  · obtain ⟨j, hj⟩ := hmem hm
    rcases hnew j l hj with hp | hno
    · obtain ⟨hj6, o, o', e1, e2, e3⟩ := hin j l hp
      have hh : h' l = some o := (hag hj).trans e1
      have hcells : ∀ b cs ty fz, (setF h' dl.wr l).isSome = true → β l = some b → w.heap[b]? = some (.cells cs ty fz) → ∃ cs' ty' fz', w'.heap[b]? = some (.cells cs' ty' fz') ∧ cs'.size = cs.size := by
        intro b cs ty fz hs' hb' hw
        have hs2 : (look H' j).isSome = true := by
          rw [hset j l hj] at hs'
          cases hx : look H' j with
          | none => rw [hx] at hs'; cases hs'
          | some o => rfl
        exact hr.psz j b hj6 hs2 ((hpin hp).trans hb') cs ty fz hw
      rcases q4 j l hp with ⟨c, c', g1, g2, g3⟩ | ⟨e, s, rows, g1, g2⟩
      · rw [g1] at e2
        injection e2 with e2
        subst e2
        cases e3 with
        | box e3 => exact ⟨(hβo j l hj).trans (hpin hp), fun hx => (by rw [hh] at hx; cases hx), fun e s rows hx => (by rw [hh] at hx; cases hx), hcells⟩
      · rw [g1] at e2
        injection e2 with e2
        subst e2
        cases e3 with
        | arr =>
          refine ⟨(hβo j l hj).trans (hpin hp), fun hx => (by rw [hh] at hx; cases hx), fun e' s' rows2 hx => ?_, hcells⟩
          rw [hh] at hx
          injection hx with hx
          injection hx with x1 x2 x3
          subst x1 x2 x3
          rcases g2 with g2 | ⟨rows', g2, g3⟩
          · left; rw [hset j l hj, g2]; rfl
          · right; exact ⟨rows', by rw [hset j l hj, g2]; rfl, g3⟩
    · rw [hag hj, hno] at hs; cases hs
  · obtain ⟨j, hj⟩ := hmem hm
    rw [hβo j l hj] at hb'
    have hs2 : (look H' j).isSome = true := by
      rw [hset j l hj] at hs
      cases hx : look H' j with
      | none => rw [hx] at hs; cases hs
      | some o => rfl
    exact ⟨hw0 (hr.own j b hs2 hb'), hr.apart j b hs2 hb'⟩
  · obtain ⟨j, hj⟩ := hmem hm
    obtain ⟨j', hj'⟩ := hmem hm'
    rw [hβo j l hj] at hb'
    rw [hβo j' l' hj'] at hb''
    have hs2 : ∀ {j l : Nat}, (j, l) ∈ σ → (setF h' dl.wr l).isSome = true → (look H' j).isSome = true := by
      intro j l hj hs
      rw [hset j l hj] at hs
      cases hx : look H' j with
      | none => rw [hx] at hs; cases hs
      | some o => rfl
    have := hr.inj j j' b (hs2 hj hs) (hs2 hj' hs') hb' hb''
    subst this
    have := nodup_fst h1 _ _ hj hj' rfl
    injection this
  · obtain ⟨j, hj⟩ := hmem hm
    by_cases hp : (j, l) ∈ ρ
    · have := hsome' hp
      rw [hno] at this
      cases this
    · have := q3 j l hj hp
      rw [hset j l hj] at hno'
      cases hx : look H' j with
      | none => rw [hx] at this; cases this
      | some o => rw [hx] at hno'; cases hno'
  · rw [← q1]; exact hren hrd
theorem callOK_shape {α : Type} {K : AV → List (Nat × Ob) → Option α} {res : α} {C : VC} (hC : VCOk P C) {n f : Nat} {fn : Func} (hf : P.funcs[f]? = some fn) (hb : fn.body.isSome = true) (hn : (fn.name == "runtime.NumGoroutine") = false)
    {σ ρ : List (Nat × Nat)} {avs avs' : List AV} {H : List (Nat × Ob)} {hl : Nat → Option Ob} {dl : Dl}
    (hav : CLeL ρ avs avs')
    (hsub : ∀ p, p ∈ ρ → p ∈ σ) (h1 : nodupN (σ.map (·.1)) = true) (h2 : nodupN (σ.map (·.2)) = true) (hρ : nodupN (ρ.map (·.1)) = true)
    (hin : ∀ j l, (j, l) ∈ ρ → 1000000 ≤ j ∧ ∃ o o', hl l = some o ∧ look H j = some o' ∧ OLe ρ o o')
    (hinH : ∀ j, (look H j).isSome = true → ∃ l, (j, l) ∈ ρ)
    (hnew : ∀ j l, (j, l) ∈ σ → (j, l) ∈ ρ ∨ hl l = none)
    (hwl : wrL dl = σ.map (·.2))
    (h : vfn C n fn avs' H K = some res) (hK : ∀ av H', K av H' = some res → ShapeEnd σ ρ H av H' dl) : CallOK P f avs hl dl :=
  callOK_shapeX hf hb hn hav hsub h1 h2 hρ hin hinH hnew hwl (fun _ _ _ _ hO hA => vfn_calls hC hf h hO hA) hK

end
end Go.Vx
/-
  What the generated texts lean on, for contracts by shape.
-/
namespace Go.Vx
section
variable {P : Program} {R : Type}

/-- An array of the caller's own. -/
def prR (hl : Nat → Option Ob) (e s : Nat) (av : AV) (k : Nat → List (List D) → Option R) : Option R :=
  match av with
  | .arr l => match hl l with
    | some (.arr e' s' rows) => bif Nat.beq e' e && Nat.beq s' s then k l rows else none
    | _ => none
  | _ => none
theorem prR_some {hl : Nat → Option Ob} {e s : Nat} {av : AV} {k : Nat → List (List D) → Option R} {r : R} (h : prR hl e s av k = some r) : ∃ l rows, k l rows = some r ∧ av = .arr l ∧ hl l = some (.arr e s rows) := by
  unfold prR at h
  split at h
  · rename_i l
    split at h
    · rename_i e' s' rows hh
      obtain ⟨hc, hk⟩ := bif_some h
      simp only [Bool.and_eq_true] at hc
      have h1 := Nat.eq_of_beq_eq_true hc.1
      have h2 := Nat.eq_of_beq_eq_true hc.2
      subst h1 h2
      exact ⟨l, rows, hk, rfl, hh⟩
    · cases h
  · cases h

/-- A pointer that is known already. -/
def prQ (l : Nat) (av : AV) (k : Option R) : Option R :=
  match av with
  | .ptr l' o => bif Nat.beq l' l && Nat.beq o 0 then k else none
  | _ => none
theorem prQ_some {l : Nat} {av : AV} {k : Option R} {r : R} (h : prQ l av k = some r) : k = some r ∧ av = .ptr l 0 := by
  unfold prQ at h
  split at h
  · obtain ⟨hc, hk⟩ := bif_some h
    simp only [Bool.and_eq_true] at hc
    have h1 := Nat.eq_of_beq_eq_true hc.1
    have h2 := Nat.eq_of_beq_eq_true hc.2
    subst h1 h2
    exact ⟨hk, rfl⟩
  · cases h

/-- A function value. -/
def prF (f : Nat) (av : AV) (k : List AV → Option R) : Option R :=
  match av with
  | .fn f' caps => bif Nat.beq f' f then k caps else none
  | _ => none
theorem prF_some {f : Nat} {av : AV} {k : List AV → Option R} {r : R} (h : prF f av k = some r) : ∃ caps, k caps = some r ∧ av = .fn f caps := by
  unfold prF at h
  split at h
  · obtain ⟨hc, hk⟩ := bif_some h
    have h1 := Nat.eq_of_beq_eq_true hc
    subst h1
    exact ⟨_, hk, rfl⟩
  · cases h

theorem CLe.data {ρ : List (Nat × Nat)} {c c' : AV} (hl : lf c' = true) (h : AVle c c') : CLe ρ c c' := .inl ⟨hl, h⟩
theorem CLe.own {ρ : List (Nat × Nat)} {c c' : AV} (hd : dm ρ c' = true) (h : c = renA ρ c') : CLe ρ c c' := .inr ⟨hd, h⟩

def HinS (ρ0 : List (Nat × Nat)) (hl : Nat → Option Ob) (H : List (Nat × Ob)) : List (Nat × Nat) → Prop
  | [] => True
  | (j, l) :: r => (1000000 ≤ j ∧ ∃ o o', hl l = some o ∧ look H j = some o' ∧ OLe ρ0 o o') ∧ HinS ρ0 hl H r
def EndL (H H' : List (Nat × Ob)) : List (Nat × Nat) → Prop
  | [] => True
  | (j, _) :: r => EndOk (look H j) (look H' j) ∧ EndL H H' r

theorem HinS_at {ρ0 : List (Nat × Nat)} {hl : Nat → Option Ob} {H : List (Nat × Ob)} : ∀ {ρ : List (Nat × Nat)}, HinS ρ0 hl H ρ → ∀ j l, (j, l) ∈ ρ → 1000000 ≤ j ∧ ∃ o o', hl l = some o ∧ look H j = some o' ∧ OLe ρ0 o o'
  | (a, b) :: r, h, j, l, hm => by
    rcases List.mem_cons.1 hm with hm | hm
    · injection hm with h1 h2; subst h1 h2; exact h.1
    · exact HinS_at h.2 j l hm
theorem EndL_at {H H' : List (Nat × Ob)} : ∀ {ρ : List (Nat × Nat)}, EndL H H' ρ → ∀ j l, (j, l) ∈ ρ → EndOk (look H j) (look H' j)
  | (a, b) :: r, h, j, l, hm => by
    rcases List.mem_cons.1 hm with hm | hm
    · injection hm with h1 h2; subst h1 h2; exact h.1
    · exact EndL_at h.2 j l hm

theorem endOk_box {o o' : Option Ob} {c c' : List AV} (h1 : o = some (.box c)) (h2 : o' = some (.box c')) (h3 : c'.length = c.length) : EndOk o o' := .inl ⟨c, c', h1, h2, h3⟩
theorem endOk_gone {o o' : Option Ob} {e s : Nat} {rows : List (List D)} (h1 : o = some (.arr e s rows)) (h2 : o' = none) : EndOk o o' := .inr ⟨e, s, rows, h1, .inl h2⟩

theorem endOk_kept {o o' : Option Ob} {e s : Nat} {rows rows' : List (List D)} (h1 : o = some (.arr e s rows)) (h2 : o' = some (.arr e s rows')) (h3 : rows'.length = rows.length) : EndOk o o' := .inr ⟨e, s, rows, h1, .inr ⟨rows', h2, h3⟩⟩
/-- The question whether a contract takes arrays as they are. -/
theorem raw_probe {f : Nat} {avs : List AV} {hl : Nat → Option Ob} {dl : Dl} {g : Bool} {k : Dl → Option R} {r : R} (h : (bif g then none else k dl) = some r) : ∃ dl, k dl = some r ∧ (g = true → CallOK P f avs hl dl) := by
  cases g with
  | true => cases h
  | false => exact ⟨dl, h, fun h => by cases h⟩

theorem callOK_shX {α : Type} {K : AV → List (Nat × Ob) → Option α} {res : α} {f : Nat} {fn : Func} (hf : P.funcs[f]? = some fn) (hb : fn.body.isSome = true) (hn : (fn.name == "runtime.NumGoroutine") = false)
    {ρ ν : List (Nat × Nat)} {avs avs' : List AV} {H : List (Nat × Ob)} {hl : Nat → Option Ob} {dl : Dl}
    (hav : CLeL ρ avs avs') (h1 : nodupN ((ρ ++ ν).map (·.1)) = true) (hρ : nodupN (ρ.map (·.1)) = true)
    (hc : newsOk hl ρ ν = true) (hin : HinS ρ hl H ρ) (hkeys : H.map (·.1) = ρ.map (·.1)) (hwl : wrL dl = (ρ ++ ν).map (·.2))
    (h : ∀ (β : Nat → Option Nat) (S : Nat → Prop) (w : World) (vs : List Value), Objs β S (look H) w → ArgsRd β S (look H) w vs avs' → Calls P f vs.toArray w (FnPost H K res β S w))
    (hK : ∀ av H', K av H' = some res → renA (ρ ++ ν) av = dl.v ∧ outWr (ρ ++ ν) H' (ρ ++ ν) = dl.wr ∧ AllL H' ν ∧ EndL H H' ρ) : CallOK P f avs hl dl := by
  simp only [newsOk, Bool.and_eq_true] at hc
  refine callOK_shapeX hf hb hn hav (fun p hp => List.mem_append_left _ hp) h1 hc.1 hρ (HinS_at hin) (keys_mem hkeys) (fun j l hm => ?_) hwl h fun av H' hk => ?_
  · rcases List.mem_append.1 hm with hm | hm
    · exact .inl hm
    · exact .inr (NewL_at hc.2 j l hm)
  · obtain ⟨q1, q2, q3, q4⟩ := hK av H' hk
    refine ⟨q1, q2, fun j l hm hno => ?_, EndL_at q4⟩
    rcases List.mem_append.1 hm with hm | hm
    · exact absurd hm hno
    · exact AllL_at q3 j l hm

theorem callOK_sh {α : Type} {K : AV → List (Nat × Ob) → Option α} {res : α} {C : VC} (hC : VCOk P C) {n f : Nat} {fn : Func} (hf : P.funcs[f]? = some fn) (hb : fn.body.isSome = true) (hn : (fn.name == "runtime.NumGoroutine") = false)
    {ρ ν : List (Nat × Nat)} {avs avs' : List AV} {H : List (Nat × Ob)} {hl : Nat → Option Ob} {dl : Dl}
    (hav : CLeL ρ avs avs') (h1 : nodupN ((ρ ++ ν).map (·.1)) = true) (hρ : nodupN (ρ.map (·.1)) = true)
    (hc : newsOk hl ρ ν = true) (hin : HinS ρ hl H ρ) (hkeys : H.map (·.1) = ρ.map (·.1)) (hwl : wrL dl = (ρ ++ ν).map (·.2))
    (h : vfn C n fn avs' H K = some res)
    (hK : ∀ av H', K av H' = some res → renA (ρ ++ ν) av = dl.v ∧ outWr (ρ ++ ν) H' (ρ ++ ν) = dl.wr ∧ AllL H' ν ∧ EndL H H' ρ) : CallOK P f avs hl dl :=
  callOK_shX hf hb hn hav h1 hρ hc hin hkeys hwl (fun _ _ _ _ hO hA => vfn_calls hC hf h hO hA) hK

/-- No contract. -/
def noE : Entry := fun _ _ _ _ _ _ => none
theorem noE_ok (f : Nat) : EntryOK P f noE := fun R site g avs hl k r h => by cases h

end
end Go.Vx
/-
  Contracts proved by other means (the library's functions).
-/
namespace Go.Vx
section
variable {P : Program}

theorem fr_of_below {M : Nat → Prop} {w w' : World} (h : RowKit.Below w.heap.size w w') : Fr M w w' := ⟨h.os, h.tape, h.output, h.size, fun b hb _ => h.block b hb⟩

/-- A contract of a function of data, out of one on 'Calls'. -/
theorem callOK_hand {f : Nat} {fn : Func} (hf : P.funcs[f]? = some fn) (hb : fn.body.isSome = true) (hn : (fn.name == "runtime.NumGoroutine") = false) {avs : List AV} {av : AV} {hl : Nat → Option Ob} {rd : List Nat} (hlf : lf av = true) (hA : lfL avs = true)
    (h : ∀ (S : Nat → Prop) (w : World) (args : List Value), ArgsRd (fun _ => none) S (fun _ => none) w args avs → Calls P f args.toArray w fun e w' => ∃ v, e = .returned v ∧ RdA (fun _ => none) S (fun _ => none) w' tm0 v av ∧ RowKit.Below w.heap.size w w') : CallOK P f avs hl ⟨av, [], rd⟩ := by
  refine ⟨⟨fn, hf, hb, hn⟩, fun β S h' w args hO hAr _ => ?_⟩
  refine (h S w args ⟨hAr.1, fun i v av' h1 h2 => rdA_lf (lfL_at hA h2) (fun _ h => h) (fun _ _ => rfl) (hAr.2 i v av' h1 h2)⟩).mono fun e w' ⟨v, he, hr, hbel⟩ => ?_
  refine ⟨v, β, S, he, ⟨fun b hS => hS, fun b hS => .inl hS, fun b hS => Nat.lt_of_lt_of_le (hO.sb b hS) hbel.size, fr_of_below hbel, fun _ _ => rfl, fun l o hl' => by simp [wrL] at hl', fun l hl' => by simp [wrL] at hl', fun l b hl' => by simp [wrL] at hl', fun l l' b hl' => by simp [wrL] at hl', fun l hl' => by simp [wrL] at hl', ?_, fun t => gds_lf t _ hlf⟩⟩
  exact rdA_lf hlf (fun _ h => h) (fun _ _ => rfl) hr

theorem argsRd_one {β : Nat → Option Nat} {S : Nat → Prop} {h : Nat → Option Ob} {w : World} {args : List Value} {a : AV} (hA : ArgsRd β S h w args [a]) : ∃ v, args = [v] ∧ RdA β S h w tm0 v a := by
  obtain ⟨h1, h2⟩ := hA
  match args, h1 with
  | [v], _ => exact ⟨v, rfl, h2 0 v a rfl rfl⟩

/-- A function from a string to the same string. -/
theorem callOK_same {f : Nat} {fn : Func} (hf : P.funcs[f]? = some fn) (hb : fn.body.isSome = true) (hn : (fn.name == "runtime.NumGoroutine") = false) {hl : Nat → Option Ob} {rd : List Nat} {s : List UInt8}
    (h : ∀ (b : ByteArray) (w : World), b.data.toList = s → Calls P f #[.string b] w fun e w' => e = .returned (.string b) ∧ RowKit.Below w.heap.size w w') : CallOK P f [.d (.str s)] hl ⟨.d (.str s), [], rd⟩ := by
  refine callOK_hand hf hb hn rfl rfl fun S w args hA => ?_
  obtain ⟨v, rfl, hv⟩ := argsRd_one hA
  obtain ⟨b, hb2, rfl⟩ := hv.str_inv
  refine (h b w hb2.symm).mono fun e w' ⟨he, hbel⟩ => ⟨_, he, .d _ _ ?_, hbel⟩
  rw [hb2]
  exact .str _
end
end Go.Vx
/-
  strings.Builder: contracts of its methods, out of walks with an exact frame.
-/
namespace Go.Vx
section
variable {P : Program} {R : Type}

/-- The frame of a method on the builder at b, whose bytes lie in 'row'. -/
structure BFr (b : Nat) (row : Option Nat) (w w' : World) : Prop where
  os : w'.os = w.os
  tape : w'.tape = w.tape
  output : w'.output = w.output
  size : w.heap.size ≤ w'.heap.size
  block : ∀ k, k < w.heap.size → k ≠ b → some k ≠ row → w'.heap[k]? = w.heap[k]?

/-- A builder with bytes of its own. -/
def prW (hl : Nat → Option Ob) (T : Nat) (av : AV) (k : Nat → Nat → List (List D) → Option R) : Option R :=
  match av with
  | .ptr l o => match hl l with
    | some (.box [.sa l' t, .arr q]) => match hl q with
      | some (.arr e s rows) => bif Nat.beq o 0 && (Nat.beq l' l && (Nat.beq t T && (Nat.beq e 5 && Nat.beq s 1))) then k l q rows else none
      | _ => none
    | _ => none
  | _ => none

theorem prW_some {hl : Nat → Option Ob} {T : Nat} {av : AV} {k : Nat → Nat → List (List D) → Option R} {r : R} (h : prW hl T av k = some r) :
    ∃ l q rows, k l q rows = some r ∧ av = .ptr l 0 ∧ hl l = some (.box [.sa l T, .arr q]) ∧ hl q = some (.arr 5 1 rows) := by
  unfold prW at h
  split at h
  · rename_i l o
    split at h
    · rename_i l' t q hb
      split at h
      · rename_i e s rows hq
        obtain ⟨hc, hk⟩ := bif_some h
        simp only [Bool.and_eq_true] at hc
        have h1 := Nat.eq_of_beq_eq_true hc.1
        have h2 := Nat.eq_of_beq_eq_true hc.2.1
        have h3 := Nat.eq_of_beq_eq_true hc.2.2.1
        have h4 := Nat.eq_of_beq_eq_true hc.2.2.2.1
        have h5 := Nat.eq_of_beq_eq_true hc.2.2.2.2
        subst h1 h2 h3 h4 h5
        exact ⟨_, q, rows, hk, rfl, hb, hq⟩
      · cases h
    · cases h
  · cases h

/-- The builder in memory. -/
theorem bld_view {β : Nat → Option Nat} {S : Nat → Prop} {h : Nat → Option Ob} {w : World} (hO : Objs β S h w) {l q T : Nat} {rows : List (List D)} (h1 : h l = some (.box [.sa l T, .arr q])) (h2 : h q = some (.arr 5 1 rows)) :
    ∃ b p v fz bs, β l = some b ∧ w.heap[b]? = some (.cells #[p, v] T fz) ∧ unfz 2 fz ∧ (p = .pointer none ∨ p = .pointer (some ⟨b, 0, none⟩)) ∧ w.ownsRow 0 5 1 v rows.length bs ∧ v.ownBlock = β q ∧ v.ownBlock ≠ some b ∧
      (∀ (i : Nat) (r : List D), rows[i]? = some r → r.length = 1) ∧ (∀ (i j : Nat) (r : List D) (y : D), rows[i]? = some r → r[j]? = some y → ∃ u, bs[i * 1 + j]? = some u ∧ Rd S w u y) := by
  obtain ⟨b, ty, cs, fz, hb, hw, ⟨hu, hty⟩, hsz, hrd⟩ := hO.ob l _ h1
  have hT : ty = T := hty 0 l T rfl
  subst hT
  have hsz : cs.size = 2 := hsz
  obtain ⟨p, v, rfl⟩ : ∃ p v, cs = #[p, v] := ⟨cs[0], cs[1], by apply Array.ext <;> simp [hsz]; intro i hi _; match i, hi with | 0, _ => rfl | 1, _ => rfl⟩
  have hp := hrd 0 _ rfl
  have hv := hrd 1 _ rfl
  simp only [Array.getD_eq_getD_getElem?, List.getElem?_toArray, List.getElem?_cons_zero, List.getElem?_cons_succ, Option.getD_some] at hp hv
  have hne : q ≠ l := fun e => by rw [e, h1] at h2; cases h2
  have hq := hO.ob q _ h2
  have hpp : p = .pointer none ∨ p = .pointer (some ⟨b, 0, none⟩) := by
    cases hp with
    | sa _ _ _ b' hb' hv => rw [hb] at hb'; injection hb' with hb'; subst hb'; exact hv
    | dang _ _ _ hl => simp [locOf] at hl
  have hvv : (v = .slice none 0 0 ∧ β q = none ∧ rows = []) ∨ ∃ g cap cs ty fz, v = .slice (some ⟨g, 0, none⟩) rows.length cap ∧ β q = some g ∧ w.heap[g]? = some (.cells cs ty fz) ∧ cs.size = cap * 1 ∧ rows.length ≤ cap ∧ cap ≤ maxLen := by
    cases hv with
    | arr0 _ e s hb' hh =>
      rw [h2] at hh; injection hh with hh; injection hh with _ _ hh
      exact .inl ⟨rfl, hb', hh⟩
    | arr _ g cap e s rows' cs ty fz hb' hh hw' hcs hcap hmax =>
      rw [h2] at hh; injection hh with hh; injection hh with he hs hh
      subst he hs hh
      exact .inr ⟨g, cap, cs, ty, fz, rfl, hb', hw', hcs, hcap, hmax⟩
    | dang _ _ k hl hh =>
      simp only [locOf, Option.some.injEq] at hl
      rw [← hl, h2] at hh; cases hh
  rcases hvv with ⟨rfl, hbq, rfl⟩ | ⟨g, cap, cs, ty', fz', rfl, hbq, hg, hcs, hcap, hmax⟩
  · exact ⟨b, p, _, fz, [], hb, hw, hu, hpp, World.ownsRow_nil _ _ _ _, hbq.symm, by simp [Value.ownBlock], fun i r h => by simp at h, fun i j r y h => by simp at h⟩
  · rcases hq with ⟨hn, _⟩ | ⟨g', cs', hbq', hg', hle, hrow, hcell⟩
    · rw [hbq] at hn; cases hn
    · rw [hbq] at hbq'; injection hbq' with hbq'; subst hbq'
      rw [hg] at hg'; injection hg' with hg'; injection hg' with e1 e2 e3
      subst e1 e2 e3
      refine ⟨b, p, _, fz, cs.toList.take (rows.length * 1), hb, hw, hu, hpp, ⟨?_, .inr ⟨g, cap, cs, rfl, Nat.zero_le _, hg, hcap, hmax, hcs, rfl⟩⟩, hbq.symm, ?_, hrow, fun i j r y h1' h2' => ?_⟩
      · have hz : cs.toList.length = cap * 1 := by rw [Array.length_toList]; exact hcs
        rw [List.length_take, hz]; omega
      · intro e
        simp only [Value.ownBlock, Option.some.injEq] at e
        subst e
        exact hne (hO.inj q l _ (by rw [h2]; rfl) (by rw [h1]; rfl) hbq hb)
      · obtain ⟨u, hu', hr⟩ := hcell i j r y h1' h2'
        refine ⟨u, ?_, hr⟩
        have hi := (List.getElem?_eq_some_iff.1 h1').1
        have hj := (List.getElem?_eq_some_iff.1 h2').1
        rw [hrow i r h1'] at hj
        rw [List.getElem?_take, if_pos (by omega), Array.getElem?_toList]
        exact hu'

def bldWr (T l q N : Nat) (rows : List (List D)) : List (Nat × Option Ob) := [(l, some (.box [.sa l T, .arr N])), (q, none), (N, some (.arr 5 1 rows))]

/-- A method that appends bytes to a builder: what the world's new state says. -/
theorem bld_out {β : Nat → Option Nat} {S : Nat → Prop} {h : Nat → Option Ob} {w w' : World} (hO : Objs β S h w) {l q N T b : Nat} {rows news : List (List D)} (h1 : h l = some (.box [.sa l T, .arr q])) (h2 : h q = some (.arr 5 1 rows)) (h3 : h N = none)
    {v v' : Value} {fz : Nat × Nat} {bs vals : List Value} (hb : β l = some b) (hu : unfz 2 fz) (hvq : v.ownBlock = β q) (hne : v.ownBlock ≠ some b)
    (hrow : ∀ (i : Nat) (r : List D), rows[i]? = some r → r.length = 1) (hcell : ∀ (i j : Nat) (r : List D) (y : D), rows[i]? = some r → r[j]? = some y → ∃ u, bs[i * 1 + j]? = some u ∧ Rd S w u y) (hbl : bs.length = rows.length)
    (hrow' : ∀ (i : Nat) (r : List D), news[i]? = some r → r.length = 1) (hcell' : ∀ (i j : Nat) (r : List D) (y : D), news[i]? = some r → r[j]? = some y → ∃ u, vals[i * 1 + j]? = some u ∧ Rd S w' u y) {n' : Nat} (hn' : n' = (rows ++ news).length)
    (hbk : w'.heap[b]? = some (.cells #[.pointer (some ⟨b, 0, none⟩), v'] T fz)) (hbk0 : ∃ p v, w.heap[b]? = some (.cells #[p, v] T fz)) (hown : w'.ownsRow 0 5 1 v' n' (bs ++ vals)) (hat : v'.ownBlock = v.ownBlock ∨ ∃ z, w.heap.size ≤ z ∧ v'.ownBlock = some z) (hf : BFr b v.ownBlock w w')
    {av : AV} {res : Value} {rd : List Nat} (hlf : lf av = true) (hres : RdA (fun _ => none) S (fun _ => none) w' tm0 res av) :
    CallOut β S h w ⟨av, bldWr T l q N (rows ++ news), rd⟩ (fun k => if k = N then v'.ownBlock else β k) S w' res := by
  have hNl : N ≠ l := fun e => by rw [e, h1] at h3; cases h3
  have hNq : N ≠ q := fun e => by rw [e, h2] at h3; cases h3
  have hql : q ≠ l := fun e => by rw [e, h1] at h2; cases h2
  have hlt : b < w.heap.size := by obtain ⟨p, v0, h0⟩ := hbk0; exact (Array.getElem?_eq_some_iff.1 h0).1
  have hset : ∀ k, setF h (bldWr T l q N (rows ++ news)) k = if k = N then some (.arr 5 1 (rows ++ news)) else if k = q then none else if k = l then some (.box [.sa l T, .arr N]) else h k := fun k => rfl
  have hmem : ∀ k, k ∈ wrL ⟨av, bldWr T l q N (rows ++ news), rd⟩ ↔ k = l ∨ k = q ∨ k = N := fun k => by simp [wrL, bldWr]
  have hSw : ∀ x, S x → w'.heap[x]? = w.heap[x]? := fun x hS => hf.block x (hO.sb x hS) (fun e => by subst e; exact hO.apart l _ (by rw [h1]; rfl) hb hS) (fun e => by rw [hvq] at e; exact hO.apart q x (by rw [h2]; rfl) e.symm hS)
  have hgS : ∀ x, v'.ownBlock = some x → (w.heap.size ≤ x ∨ β q = some x) := fun x hx => by
    rcases hat with h | ⟨z, hz, h⟩
    · right; rw [← hvq, ← h, hx]
    · left; rw [h] at hx; injection hx with hx; omega
  have hgb : v'.ownBlock ≠ some b := by
    rcases hat with h | ⟨z, hz, h⟩
    · rw [h]; exact hne
    · rw [h]; intro e; injection e with e; omega
  have hqS : (h q).isSome = true := by rw [h2]; rfl
  have hlS : (h l).isSome = true := by rw [h1]; rfl
  have hrows : ∀ (i : Nat) (r : List D), (rows ++ news)[i]? = some r → r.length = 1 := by
    intro i r h1
    by_cases hi : i < rows.length
    · rw [List.getElem?_append_left hi] at h1; exact hrow i r h1
    · rw [List.getElem?_append_right (by omega)] at h1; exact hrow' _ r h1
  have hcells : ∀ (i j : Nat) (r : List D) (y : D), (rows ++ news)[i]? = some r → r[j]? = some y → ∃ u, (bs ++ vals)[i * 1 + j]? = some u ∧ Rd S w' u y := by
    intro i j r y h1 h2
    by_cases hi : i < rows.length
    · rw [List.getElem?_append_left hi] at h1
      obtain ⟨u, hu, hr⟩ := hcell i j r y h1 h2
      refine ⟨u, ?_, hr.mono (fun _ h => h) hSw⟩
      rw [List.getElem?_append_left ((List.getElem?_eq_some_iff.1 hu).1)]
      exact hu
    · rw [List.getElem?_append_right (by omega)] at h1
      obtain ⟨u, hu, hr⟩ := hcell' _ j r y h1 h2
      refine ⟨u, ?_, hr⟩
      rw [List.getElem?_append_right (by omega), hbl, show i * 1 + j - rows.length = (i - rows.length) * 1 + j from by omega]
      exact hu
  have hobN : ObR (fun k => if k = N then v'.ownBlock else β k) S (setF h (bldWr T l q N (rows ++ news))) w' N (.arr 5 1 (rows ++ news)) ∧
      RdA (fun k => if k = N then v'.ownBlock else β k) S (setF h (bldWr T l q N (rows ++ news))) w' tm0 v' (.arr N) := by
    rcases hown.2 with ⟨rfl, h0⟩ | ⟨g, cap, cur, rfl, _, hw, hcap, hmax, hcs, htake⟩
    · have hr0 : rows ++ news = [] := List.eq_nil_of_length_eq_zero (by omega)
      exact ⟨.inl ⟨by simp [Value.ownBlock], hr0⟩, .arr0 N 5 1 (by simp [Value.ownBlock]) (by rw [hset, if_pos rfl, hr0])⟩
    · subst hn'
      refine ⟨.inr ⟨g, cur, by simp [Value.ownBlock], hw, by rw [hcs]; omega, hrows, fun i j r y h1 h2 => ?_⟩, .arr N g cap 5 1 _ cur 5 (0, 0) (by simp [Value.ownBlock]) (by rw [hset, if_pos rfl]) hw hcs hcap hmax⟩
      obtain ⟨u, hu, hr⟩ := hcells i j r y h1 h2
      refine ⟨u, ?_, hr⟩
      rw [← htake, List.getElem?_take] at hu
      split at hu
      · rw [Array.getElem?_toList] at hu; exact hu
      · cases hu
  refine ⟨fun _ h => h, fun _ h => .inl h, fun x hS => Nat.lt_of_lt_of_le (hO.sb x hS) hf.size, ?_, ?_, ?_, ?_, ?_, ?_, ?_, ?_, fun t => gds_lf t _ hlf⟩
  · exact ⟨hf.os, hf.tape, hf.output, hf.size, fun k hk hM => hf.block k hk (fun e => hM ⟨l, (hmem l).2 (.inl rfl), hlS, by rw [hb, e]⟩) (fun e => hM ⟨q, (hmem q).2 (.inr (.inl rfl)), hqS, by rw [← hvq]; exact e.symm⟩)⟩
  · intro k hk
    have : k ≠ N := fun e => hk ((hmem k).2 (.inr (.inr e)))
    simp [this]
  · intro k o hk ho
    have hset := hset k
    rw [show setF h (Dl.wr ⟨av, bldWr T l q N (rows ++ news), rd⟩) k = _ from hset] at ho
    by_cases e1 : k = N
    · subst e1
      rw [if_pos rfl] at ho
      injection ho with ho
      subst ho
      exact hobN.1
    · rw [if_neg e1] at ho
      rcases (hmem k).1 hk with rfl | rfl | e
      · rw [if_neg hql.symm, if_pos rfl] at ho
        injection ho with ho
        subst ho
        refine ⟨b, T, _, fz, by simp [e1, hb], hbk, ⟨hu, ?_⟩, rfl, ?_⟩
        · intro i l' t hi
          match i, hi with
          | 0, hi => simp only [List.getElem?_cons_zero, Option.some.injEq, AV.sa.injEq] at hi; exact hi.2
          | 1, hi => simp at hi
        · intro i x hi
          match i, hi with
          | 0, hi =>
            simp only [List.getElem?_cons_zero, Option.some.injEq] at hi
            subst hi
            exact .sa _ _ _ b (by simp [e1, hb]) (.inr rfl)
          | 1, hi =>
            simp only [List.getElem?_cons_succ, List.getElem?_cons_zero, Option.some.injEq] at hi
            subst hi
            exact hobN.2
      · rw [if_pos rfl] at ho; cases ho
      · exact absurd e e1
  · intro k hk hs
    have hkN : k ≠ N := fun e => by rw [e, h3] at hs; cases hs
    refine ⟨by simp [hkN], fun h0 => (by rw [h0] at hs; cases hs), fun e s rs hks => ?_, fun b' cs ty fz' hs' hb' hw' => ?_⟩
    · rcases (hmem k).1 hk with rfl | rfl | e
      · rw [h1] at hks; cases hks
      · left; rw [show setF h (Dl.wr ⟨av, bldWr T l k N (rows ++ news), rd⟩) k = _ from hset k, if_neg hkN, if_pos rfl]
      · exact absurd e hkN
    · rcases (hmem k).1 hk with rfl | rfl | e
      · rw [hb] at hb'; injection hb' with hb'; subst hb'
        obtain ⟨p0, v0, h0⟩ := hbk0
        rw [h0] at hw'; injection hw' with hw'; injection hw' with e1 e2 e3
        subst e1
        exact ⟨_, _, _, hbk, rfl⟩
      · rw [show setF h (Dl.wr ⟨av, bldWr T l k N (rows ++ news), rd⟩) k = _ from hset k, if_neg hkN, if_pos rfl] at hs'; cases hs'
      · exact absurd e hkN
  · intro k x hk hs hx
    by_cases e1 : k = N
    · simp only [e1, if_pos] at hx
      rcases hgS x hx with h | h
      · exact ⟨.inl h, fun hS => by have := hO.sb x hS; omega⟩
      · exact ⟨.inr ⟨q, (hmem q).2 (.inr (.inl rfl)), hqS, h⟩, hO.apart q x hqS h⟩
    · simp only [e1, if_false] at hx
      rcases (hmem k).1 hk with rfl | rfl | e
      · exact ⟨.inr ⟨k, hk, hlS, hx⟩, hO.apart k x hlS hx⟩
      · exact ⟨.inr ⟨k, hk, hqS, hx⟩, hO.apart k x hqS hx⟩
      · exact absurd e e1
  · intro k k' x hk hk' hs hs' hx hx'
    have key : ∀ k, (k = l ∨ k = q ∨ k = N) → (setF h (Dl.wr ⟨av, bldWr T l q N (rows ++ news), rd⟩) k).isSome = true → k = l ∨ k = N := by
      intro k h0 hs
      rcases h0 with h0 | h0 | h0
      · exact .inl h0
      · subst h0
        rw [show setF h (Dl.wr ⟨av, bldWr T l k N (rows ++ news), rd⟩) k = _ from hset k, if_neg hNq.symm, if_pos rfl] at hs; cases hs
      · exact .inr h0
    rcases key k ((hmem k).1 hk) hs with rfl | rfl <;> rcases key k' ((hmem k').1 hk') hs' with rfl | rfl
    · rfl
    · simp only [hNl.symm, if_false, if_pos] at hx hx'
      rw [hb] at hx
      exact absurd (hx'.trans hx.symm) hgb
    · simp only [hNl.symm, if_false, if_pos] at hx hx'
      rw [hb] at hx'
      exact absurd (hx.trans hx'.symm) hgb
    · rfl
  · intro k hk h0 hs
    rcases (hmem k).1 hk with rfl | rfl | rfl
    · rw [h1] at h0; cases h0
    · rw [h2] at h0; cases h0
    · rw [show setF h (Dl.wr ⟨av, bldWr T l q k (rows ++ news), rd⟩) k = _ from hset k, if_pos rfl] at hs; cases hs
  · exact rdA_lf hlf (fun _ h => h) (fun _ _ => rfl) hres

/-- WriteString. -/
def WalkWrite (P : Program) (f T : Nat) : Prop := ∀ (b : Nat) (p v : Value) (fz : Nat × Nat) (bs : List Value) (s : ByteArray) (w : World), w.heap[b]? = some (.cells #[p, v] T fz) → unfz 2 fz →
  (p = .pointer none ∨ p = .pointer (some ⟨b, 0, none⟩)) → w.ownsRow 0 5 1 v bs.length bs → v.ownBlock ≠ some b → bs.length + s.size ≤ 140737488355328 →
  Calls P f #[.pointer (some ⟨b, 0, none⟩), .string s] w fun e w' => e = .returned (.tuple #[.int .i64 s.size, .nilIface]) ∧
    ∃ v', w'.heap[b]? = some (.cells #[.pointer (some ⟨b, 0, none⟩), v'] T fz) ∧ w'.ownsRow 0 5 1 v' (bs.length + s.size) (bs ++ Lib.strCells s) ∧ (v'.ownBlock = v.ownBlock ∨ v'.ownBlock = some w.heap.size) ∧ BFr b v.ownBlock w w'

theorem argsRd_two {β : Nat → Option Nat} {S : Nat → Prop} {h : Nat → Option Ob} {w : World} {args : List Value} {a a' : AV} (hA : ArgsRd β S h w args [a, a']) : ∃ v v', args = [v, v'] ∧ RdA β S h w tm0 v a ∧ RdA β S h w tm0 v' a' := by
  obtain ⟨h1, h2⟩ := hA
  match args, h1 with
  | [v, v'], _ => exact ⟨v, v', rfl, h2 0 v a rfl rfl, h2 1 v' a' rfl rfl⟩

theorem callOK_write {f T : Nat} {fn : Func} (hf : P.funcs[f]? = some fn) (hb : fn.body.isSome = true) (hn : (fn.name == "runtime.NumGoroutine") = false) (hW : WalkWrite P f T) {hl : Nat → Option Ob} {l q N : Nat} {rows : List (List D)} {s : List UInt8}
    (h1 : hl l = some (.box [.sa l T, .arr q])) (h2 : hl q = some (.arr 5 1 rows)) (h3 : hl N = none) (hlen : rows.length + s.length ≤ 140737488355328) :
    CallOK P f [.ptr l 0, .d (.str s)] hl ⟨.tup [.d (.int .i64 (s.length : Nat)), .top], bldWr T l q N (rows ++ rowsB s), [l, q]⟩ := by
  refine ⟨⟨fn, hf, hb, hn⟩, fun β S h w args hO hAr hh => ?_⟩
  have h1' : h l = some (.box [.sa l T, .arr q]) := by rw [hh l (.inl (by simp))]; exact h1
  have h2' : h q = some (.arr 5 1 rows) := by rw [hh q (.inl (by simp))]; exact h2
  have h3' : h N = none := by rw [hh N (.inr (by simp [wrL, bldWr]))]; exact h3
  obtain ⟨v1, v2, rfl, hv1, hv2⟩ := argsRd_two hAr
  obtain ⟨b, p, v, fz, bs, hβ, hw, hu, hp, hown, hvq, hne, hrow, hcell⟩ := bld_view hO h1' h2'
  obtain ⟨b', hb', rfl⟩ := hv1.ptr_inv
  rw [hβ] at hb'; injection hb' with hb'; subst hb'
  obtain ⟨ba, rfl, rfl⟩ := hv2.str_inv
  have hbl : bs.length = rows.length := by simpa using hown.1
  have hsz : ba.data.toList.length = ba.size := Array.length_toList
  refine (hW b p v fz bs ba w hw hu hp (by rw [hbl]; exact hown) hne (by omega)).mono fun e w' ⟨he, v', g1, g2, g3, g4⟩ => ?_
  refine ⟨_, _, S, he, bld_out hO h1' h2' h3' hβ hu hvq hne hrow hcell hbl (vals := Lib.strCells ba) ?_ ?_ (n' := bs.length + ba.size) ?_ g1 ⟨_, _, hw⟩ g2 (g3.imp id fun h => ⟨_, Nat.le_refl _, h⟩) g4 rfl ?_⟩
  · intro i r hi
    simp only [rowsB, List.getElem?_map, Option.map_eq_some_iff] at hi
    obtain ⟨x, _, rfl⟩ := hi
    rfl
  · intro i j r y hi hj
    simp only [rowsB, List.getElem?_map, Option.map_eq_some_iff] at hi
    obtain ⟨x, hx, rfl⟩ := hi
    match j, hj with
    | 0, hj =>
      simp only [List.getElem?_cons_zero, Option.some.injEq] at hj
      subst hj
      refine ⟨.int .u8 x.toNat, ?_, .int _ _⟩
      simp only [Lib.strCells, Nat.mul_one, Nat.add_zero, List.getElem?_map, hx, Option.map_some]
  · simp [rowsB, hbl]
  · refine .tup _ _ rfl fun i x hi => ?_
    match i, hi with
    | 0, hi =>
      simp only [List.getElem?_cons_zero, Option.some.injEq] at hi
      subst hi
      rw [hsz]
      exact .d _ _ (.int _ _)
    | 1, hi =>
      simp only [List.getElem?_cons_succ, List.getElem?_cons_zero, Option.some.injEq] at hi
      subst hi
      exact .top _

def bldWriteE (T : Nat) : Entry := fun _ site g avs hl k => match avs with
  | [c0, c1] => prW hl T c0 fun l q rows => prT g c1 fun s => bif (hl (site + 100000)).isNone then gb g (room (List.length rows + List.length s)) () fun _ => k ⟨.tup [.d (.int .i64 (List.length s : Nat)), .top], bldWr T l q (site + 100000) (rows ++ rowsB s), [l, q]⟩ else none
  | _ => none

theorem bldWriteE_ok {f T : Nat} {fn : Func} (hf : P.funcs[f]? = some fn) (hb : fn.body.isSome = true) (hn : (fn.name == "runtime.NumGoroutine") = false) (hW : WalkWrite P f T) : EntryOK P f (bldWriteE T) := by
  intro R site g avs hl k r h
  unfold bldWriteE at h
  split at h
  · replace h := prW_some h
    obtain ⟨l, q, rows, h, e0, h1, h2⟩ := h
    subst e0
    replace h := prT_some h
    obtain ⟨s, h, hle⟩ := h
    replace h := bif_some h
    obtain ⟨hc, h⟩ := h
    replace h := gb_some h
    obtain ⟨_, h, hr⟩ := h
    refine ⟨_, h, fun hg => CallOK.conv (avs' := [.ptr l 0, .d (.str s)]) (.cons (.refl _) (.cons (hle hg) .nil)) (callOK_write hf hb hn hW h1 h2 (Option.isNone_iff_eq_none.1 hc) (room_some (hr hg)))⟩
  · cases h

/-- WriteByte. -/
def WalkByte (P : Program) (f T : Nat) : Prop := ∀ (b : Nat) (p v : Value) (fz : Nat × Nat) (bs : List Value) (c : Int) (w : World), w.heap[b]? = some (.cells #[p, v] T fz) → unfz 2 fz →
  (p = .pointer none ∨ p = .pointer (some ⟨b, 0, none⟩)) → w.ownsRow 0 5 1 v bs.length bs → v.ownBlock ≠ some b → bs.length + 1 ≤ 140737488355328 →
  Calls P f #[.pointer (some ⟨b, 0, none⟩), .int .u8 c] w fun e w' => e = .returned .nilIface ∧
    ∃ v', w'.heap[b]? = some (.cells #[.pointer (some ⟨b, 0, none⟩), v'] T fz) ∧ w'.ownsRow 0 5 1 v' (bs.length + 1) (bs ++ [.int .u8 c]) ∧ (v'.ownBlock = v.ownBlock ∨ ∃ z, w.heap.size ≤ z ∧ v'.ownBlock = some z) ∧ BFr b v.ownBlock w w'

theorem callOK_byte {f T : Nat} {fn : Func} (hf : P.funcs[f]? = some fn) (hb : fn.body.isSome = true) (hn : (fn.name == "runtime.NumGoroutine") = false) (hW : WalkByte P f T) {hl : Nat → Option Ob} {l q N : Nat} {rows : List (List D)} {c : Int}
    (h1 : hl l = some (.box [.sa l T, .arr q])) (h2 : hl q = some (.arr 5 1 rows)) (h3 : hl N = none) (hlen : rows.length + 1 ≤ 140737488355328) :
    CallOK P f [.ptr l 0, .d (.int .u8 c)] hl ⟨.top, bldWr T l q N (rows ++ [[.int .u8 c]]), [l, q]⟩ := by
  refine ⟨⟨fn, hf, hb, hn⟩, fun β S h w args hO hAr hh => ?_⟩
  have h1' : h l = some (.box [.sa l T, .arr q]) := by rw [hh l (.inl (by simp))]; exact h1
  have h2' : h q = some (.arr 5 1 rows) := by rw [hh q (.inl (by simp))]; exact h2
  have h3' : h N = none := by rw [hh N (.inr (by simp [wrL, bldWr]))]; exact h3
  obtain ⟨v1, v2, rfl, hv1, hv2⟩ := argsRd_two hAr
  obtain ⟨b, p, v, fz, bs, hβ, hw, hu, hp, hown, hvq, hne, hrow, hcell⟩ := bld_view hO h1' h2'
  obtain ⟨b', hb', rfl⟩ := hv1.ptr_inv
  rw [hβ] at hb'; injection hb' with hb'; subst hb'
  obtain rfl := hv2.int_inv
  have hbl : bs.length = rows.length := by simpa using hown.1
  refine (hW b p v fz bs c w hw hu hp (by rw [hbl]; exact hown) hne (by omega)).mono fun e w' ⟨he, v', g1, g2, g3, g4⟩ => ?_
  refine ⟨_, _, S, he, bld_out hO h1' h2' h3' hβ hu hvq hne hrow hcell hbl (vals := [.int .u8 c]) ?_ ?_ (n' := bs.length + 1) ?_ g1 ⟨_, _, hw⟩ g2 g3 g4 rfl (.top _)⟩
  · intro i r hi
    match i, hi with
    | 0, hi => simp only [List.getElem?_cons_zero, Option.some.injEq] at hi; subst hi; rfl
  · intro i j r y hi hj
    match i, hi with
    | 0, hi =>
      simp only [List.getElem?_cons_zero, Option.some.injEq] at hi
      subst hi
      match j, hj with
      | 0, hj =>
        simp only [List.getElem?_cons_zero, Option.some.injEq] at hj
        subst hj
        exact ⟨_, rfl, .int _ _⟩
  · simp [hbl]

def bldByteE (T : Nat) : Entry := fun _ site g avs hl k => match avs with
  | [c0, c1] => prW hl T c0 fun l q rows => prI g .u8 c1 fun c => bif (hl (site + 100000)).isNone then gb g (room (List.length rows + 1)) () fun _ => k ⟨.top, bldWr T l q (site + 100000) (rows ++ [[D.int .u8 c]]), [l, q]⟩ else none
  | _ => none

theorem bldByteE_ok {f T : Nat} {fn : Func} (hf : P.funcs[f]? = some fn) (hb : fn.body.isSome = true) (hn : (fn.name == "runtime.NumGoroutine") = false) (hW : WalkByte P f T) : EntryOK P f (bldByteE T) := by
  intro R site g avs hl k r h
  unfold bldByteE at h
  split at h
  · replace h := prW_some h
    obtain ⟨l, q, rows, h, e0, h1, h2⟩ := h
    subst e0
    replace h := prI_some h
    obtain ⟨c, h, hle⟩ := h
    replace h := bif_some h
    obtain ⟨hc, h⟩ := h
    replace h := gb_some h
    obtain ⟨_, h, hr⟩ := h
    refine ⟨_, h, fun hg => CallOK.conv (avs' := [.ptr l 0, .d (.int .u8 c)]) (.cons (.refl _) (.cons (hle hg) .nil)) (callOK_byte hf hb hn hW h1 h2 (Option.isNone_iff_eq_none.1 hc) (room_some (hr hg)))⟩
  · cases h

/-- The bytes of rows that are bytes. -/
def bytesX : List (List D) → Option (List UInt8)
  | [] => some []
  | [.int .u8 n] :: r => bif n == ((UInt8.ofNat n.toNat).toNat : Int) then match bytesX r with
      | some l => some (UInt8.ofNat n.toNat :: l)
      | none => none
    else none
  | _ => none

theorem bytesX_some : ∀ {rows : List (List D)} {s : List UInt8}, bytesX rows = some s → rows = rowsB s := by
  intro rows
  induction rows with
  | nil => intro s h; simp only [bytesX, Option.some.injEq] at h; subst h; rfl
  | cons x r ih =>
    intro s h
    unfold bytesX at h
    split at h
    · rename_i h0; cases h0
    · rename_i n r' h0
      injection h0 with e1 e2
      subst e1 e2
      obtain ⟨hc, h⟩ := bif_some h
      split at h
      · rename_i l hl
        injection h with h
        subst h
        have hc := eq_of_beq hc
        rw [ih hl]
        simp only [rowsB, List.map_cons]
        rw [← hc]
      · cases h
    · cases h

theorem bytesX_rowsB : ∀ (s : List UInt8), bytesX (rowsB s) = some s
  | [] => rfl
  | x :: r => by
    have ih := bytesX_rowsB r
    simp only [rowsB, List.map_cons] at ih ⊢
    simp [bytesX, ih]

def WalkString (P : Program) (f T : Nat) : Prop := ∀ (b : Nat) (p v : Value) (fz : Nat × Nat) (s : List UInt8) (w : World), w.heap[b]? = some (.cells #[p, v] T fz) →
  w.ownsRow 0 5 1 v s.length (s.map fun b => Value.int .u8 b.toNat) → v.ownBlock ≠ some b →
  Calls P f #[.pointer (some ⟨b, 0, none⟩)] w fun e w' => e = .returned (.string ⟨s.toArray⟩) ∧ w'.heap[b]? = w.heap[b]? ∧ BFr b v.ownBlock w w'

def bldStrWr (T l q : Nat) : List (Nat × Option Ob) := [(l, some (.box [.sa l T, .top])), (q, none)]

theorem callOK_string {f T : Nat} {fn : Func} (hf : P.funcs[f]? = some fn) (hb : fn.body.isSome = true) (hn : (fn.name == "runtime.NumGoroutine") = false) (hW : WalkString P f T) {hl : Nat → Option Ob} {l q : Nat} {s : List UInt8}
    (h1 : hl l = some (.box [.sa l T, .arr q])) (h2 : hl q = some (.arr 5 1 (rowsB s))) :
    CallOK P f [.ptr l 0] hl ⟨.d (.str s), bldStrWr T l q, [l, q]⟩ := by
  refine ⟨⟨fn, hf, hb, hn⟩, fun β S h w args hO hAr hh => ?_⟩
  have h1' : h l = some (.box [.sa l T, .arr q]) := by rw [hh l (.inl (by simp))]; exact h1
  have h2' : h q = some (.arr 5 1 (rowsB s)) := by rw [hh q (.inl (by simp))]; exact h2
  obtain ⟨v1, rfl, hv1⟩ := argsRd_one hAr
  obtain ⟨b, p, v, fz, bs, hβ, hw, hu, hp, hown, hvq, hne, hrow, hcell⟩ := bld_view hO h1' h2'
  obtain ⟨b', hb', rfl⟩ := hv1.ptr_inv
  rw [hβ] at hb'; injection hb' with hb'; subst hb'
  have hrl : (rowsB s).length = s.length := by simp [rowsB]
  have hbs : bs = s.map fun b => Value.int .u8 b.toNat := by
    apply List.ext_getElem?
    intro i
    by_cases hi : i < s.length
    · obtain ⟨u, hu1, hu2⟩ := hcell i 0 [.int .u8 (s[i].toNat : Int)] (.int .u8 (s[i].toNat : Int)) (by simp [rowsB, hi]) rfl
      rw [Nat.mul_one, Nat.add_zero] at hu1
      rw [hu1]
      cases hu2
      simp [hi]
    · have h0 : bs.length = s.length := by rw [← hrl]; simpa using hown.1
      rw [List.getElem?_eq_none (by omega), List.getElem?_eq_none (by simp; omega)]
  subst hbs
  rw [hrl] at hown
  have hlt : b < w.heap.size := (Array.getElem?_eq_some_iff.1 hw).1
  have hql : q ≠ l := fun e => by rw [e, h1'] at h2'; cases h2'
  have hset : ∀ k, setF h (bldStrWr T l q) k = if k = q then none else if k = l then some (.box [.sa l T, .top]) else h k := fun k => rfl
  have hmem : ∀ k, k ∈ wrL ⟨.d (.str s), bldStrWr T l q, [l, q]⟩ ↔ k = l ∨ k = q := fun k => by simp [wrL, bldStrWr]
  have hqS : (h q).isSome = true := by rw [h2']; rfl
  have hlS : (h l).isSome = true := by rw [h1']; rfl
  refine (hW b p v fz s w hw hown hne).mono fun e w' ⟨he, g1, g4⟩ => ?_
  refine ⟨_, β, S, he, fun _ h => h, fun _ h => .inl h, fun x hS => Nat.lt_of_lt_of_le (hO.sb x hS) g4.size, ?_, fun _ _ => rfl, ?_, ?_, ?_, ?_, fun _ _ _ _ => rfl, ?_, fun t => rfl⟩
  · exact ⟨g4.os, g4.tape, g4.output, g4.size, fun k hk hM => g4.block k hk (fun e => hM ⟨l, (hmem l).2 (.inl rfl), hlS, by rw [hβ, e]⟩) (fun e => hM ⟨q, (hmem q).2 (.inr rfl), hqS, by rw [← hvq]; exact e.symm⟩)⟩
  · intro k o hk ho
    rw [show setF h (Dl.wr ⟨.d (.str s), bldStrWr T l q, [l, q]⟩) k = _ from hset k] at ho
    rcases (hmem k).1 hk with rfl | rfl
    · rw [if_neg hql.symm, if_pos rfl] at ho
      injection ho with ho
      subst ho
      refine ⟨b, T, _, fz, hβ, g1.trans hw, ⟨hu, ?_⟩, rfl, ?_⟩
      · intro i l' t hi
        match i, hi with
        | 0, hi => simp only [List.getElem?_cons_zero, Option.some.injEq, AV.sa.injEq] at hi; exact hi.2
        | 1, hi => simp at hi
      · intro i x hi
        match i, hi with
        | 0, hi =>
          simp only [List.getElem?_cons_zero, Option.some.injEq] at hi
          subst hi
          exact .sa _ _ _ b hβ hp
        | 1, hi =>
          simp only [List.getElem?_cons_succ, List.getElem?_cons_zero, Option.some.injEq] at hi
          subst hi
          exact .top _
    · rw [if_pos rfl] at ho; cases ho
  · intro k hk hs
    refine ⟨rfl, fun h0 => (by rw [h0] at hs; cases hs), fun e s' rs hks => ?_, fun b' cs ty fz' hs' hb' hw' => ?_⟩
    · rcases (hmem k).1 hk with rfl | rfl
      · rw [h1'] at hks; cases hks
      · left; rw [show setF h (Dl.wr ⟨.d (.str s), bldStrWr T l k, [l, k]⟩) k = _ from hset k, if_pos rfl]
    · rcases (hmem k).1 hk with rfl | rfl
      · rw [hβ] at hb'; injection hb' with hb'; subst hb'
        exact ⟨_, _, _, g1.trans hw', rfl⟩
      · rw [show setF h (Dl.wr ⟨.d (.str s), bldStrWr T l k, [l, k]⟩) k = _ from hset k, if_pos rfl] at hs'; cases hs'
  · intro k x hk hs hx
    rcases (hmem k).1 hk with rfl | rfl
    · exact ⟨.inr ⟨k, hk, hlS, hx⟩, hO.apart k x hlS hx⟩
    · exact ⟨.inr ⟨k, hk, hqS, hx⟩, hO.apart k x hqS hx⟩
  · intro k k' x hk hk' hs hs' hx hx'
    have key : ∀ k, (k = l ∨ k = q) → (setF h (Dl.wr ⟨.d (.str s), bldStrWr T l q, [l, q]⟩) k).isSome = true → k = l := by
      intro k h0 hs
      rcases h0 with h0 | h0
      · exact h0
      · subst h0
        rw [show setF h (Dl.wr ⟨.d (.str s), bldStrWr T l k, [l, k]⟩) k = _ from hset k, if_pos rfl] at hs; cases hs
    rw [key k ((hmem k).1 hk) hs, key k' ((hmem k').1 hk') hs']
  · exact .d _ _ (by simpa using Rd.str (S := S) (w := w') ⟨s.toArray⟩)

def bldStringE (T : Nat) : Entry := fun _ _ g avs hl k => match avs with
  | [c0] => prW hl T c0 fun l q rows => gb g (bytesX rows) [] fun s => k ⟨.d (.str s), bldStrWr T l q, [l, q]⟩
  | _ => none

theorem bldStringE_ok {f T : Nat} {fn : Func} (hf : P.funcs[f]? = some fn) (hb : fn.body.isSome = true) (hn : (fn.name == "runtime.NumGoroutine") = false) (hW : WalkString P f T) : EntryOK P f (bldStringE T) := by
  intro R site g avs hl k r h
  unfold bldStringE at h
  split at h
  · replace h := prW_some h
    obtain ⟨l, q, rows, h, e0, h1, h2⟩ := h
    subst e0
    replace h := gb_some h
    obtain ⟨s, h, hr⟩ := h
    refine ⟨_, h, fun hg => callOK_string hf hb hn hW h1 ?_⟩
    rw [h2, bytesX_some (hr hg)]
  · cases h
end
end Go.Vx
/-
  Plain lemmas for pure functions: guards, rows, integers, lists.
-/
namespace Go.Vx
section
variable {R : Type}

def i64 (x : Int) : Prop := -9223372036854775808 ≤ x ∧ x ≤ 9223372036854775807

theorem wrap64 {x : Int} (h : i64 x) : IntKind.wrap .i64 x = x := IntWalk.i64_in x h
theorem wrap64' {x : Int} (h1 : -9223372036854775808 ≤ x) (h2 : x ≤ 9223372036854775807) : IntKind.wrap .i64 x = x := IntWalk.i64_in x ⟨h1, h2⟩
theorem wf64 {n : Int} (h : (Lit.int .i64 n).wf = true) : i64 n := by
  simpa [Lit.wf, IntKind.min, IntKind.max, IntKind.signed, IntKind.bits, i64] using h

theorem pInt_int (k : IntKind) (n : Int) : pInt k (.int k n) = some n := by simp [pInt]
theorem pInt_i64 (n : Int) : pInt .i64 (.int .i64 n) = some n := rfl
theorem pInt_u8 (n : Int) : pInt .u8 (.int .u8 n) = some n := rfl
theorem pBool_b (b : Bool) : pBool (.bool b) = some b := rfl
theorem pStr_s (s : List UInt8) : pStr (.str s) = some s := rfl
theorem pSl_s (k : Nat) (l : List (List D)) : pSl k (.sl k l) = some l := by simp [pSl]

theorem rowAt_map {α : Type} (f : α → List D) (l : List α) (i : Nat) : rowAt (l.map f) (i : Int) = (l[i]?).map f := by
  simp [rowAt]
theorem rowAt_get {α : Type} {f : α → List D} {l : List α} {i : Nat} {a : α} (h : l[i]? = some a) : rowAt (l.map f) (i : Int) = some (f a) := by rw [rowAt_map, h]; rfl
theorem rowAt_int {α : Type} {f : α → List D} {l : List α} {i : Int} (h0 : 0 ≤ i) {a : α} (h : l[i.toNat]? = some a) : rowAt (l.map f) i = some (f a) := by
  have : i = (i.toNat : Int) := by omega
  rw [this, rowAt_get h]

theorem room_ok {n : Nat} (h : n ≤ 140737488355328) : room n = some () := by
  unfold room; rw [Nat.ble_eq_true_of_le h]; rfl
theorem nz_ok {b : Int} (h : b ≠ 0) : nz b = some () := by
  have : (b == 0) = false := by simpa using h
  unfold nz; rw [this]; rfl
theorem inB_ok {len : Nat} {n : Int} (h0 : 0 ≤ n) (h : n < len) : inB len n = some () := by
  unfold inB; simp [h0, h]

theorem drop_cons {α : Type} {l : List α} {i : Nat} {a : α} {r : List α} (h : l.drop i = a :: r) : l[i]? = some a ∧ l.drop (i + 1) = r ∧ i < l.length := by
  have h1 : (l.drop i)[0]? = some a := by rw [h]; rfl
  rw [List.getElem?_drop] at h1
  refine ⟨by simpa using h1, by rw [← List.drop_drop, h]; rfl, ?_⟩
  have := (List.getElem?_eq_some_iff.1 h1).1
  omega
theorem drop_nil {α : Type} {l : List α} {i : Nat} (h : l.drop i = []) : l.length ≤ i := List.drop_eq_nil_iff.1 h

theorem bif_or (a b : Bool) (x y : Option R) : (bif a then x else bif b then x else y) = bif a || b then x else y := by cases a <;> rfl
theorem bif_ite (a : Bool) (x y : Option R) : (bif a then x else y) = if a = true then x else y := by cases a <;> rfl
theorem bif_pos {c : Bool} (h : c = true) (x y : R) : (bif c then x else y) = x := by rw [h]; rfl
theorem bif_neg {c : Bool} (h : c = false) (x y : R) : (bif c then x else y) = y := by rw [h]; rfl

theorem bif_flip {B c : Bool} (h : B = !c) (x y : R) : (bif B then x else y) = bif c then y else x := by subst h; cases c <;> rfl
theorem bif_same {B c : Bool} (h : B = c) (x y : R) : (bif B then x else y) = bif c then x else y := by subst h; rfl

/-- Slices of integers. -/
def encI (l : List Int) : List (List D) := l.map fun n => [D.int .i64 n]
theorem encI_length (l : List Int) : (encI l).length = l.length := by simp [encI]
theorem encI_get {l : List Int} {i : Nat} {a : Int} (h : l[i]? = some a) : rowAt (encI l) (i : Int) = some [.int .i64 a] := rowAt_get h

theorem fit_ints {rows : List (List D)} (h : Fit (.sl [.int .i64]) (.sl 1 rows)) : ∃ l : List Int, rows = encI l ∧ (∀ n ∈ l, i64 n) ∧ l.length ≤ maxLen := by
  cases h with
  | sl _ _ hm hl hr =>
    have h1 : ∀ i, i < rows.length → ∃ n : Int, rows[i]? = some [.int .i64 n] ∧ i64 n := by
      intro i hi
      have hri := List.getElem?_eq_getElem hi
      have hlen := hl i _ hri
      obtain ⟨x, hx⟩ : ∃ x, rows[i] = [x] := by
        match hq : rows[i], hlen with
        | [x], _ => exact ⟨x, rfl⟩
      have hf := hr i 0 _ (.int .i64) x hri rfl (by rw [hx]; rfl)
      cases hf with
      | int _ n hw => exact ⟨n, by rw [hri, hx], wf64 hw⟩
    obtain ⟨l, e1, e2⟩ := ex_list rows.length h1
    refine ⟨l, ?_, fun n hn => ?_, by omega⟩
    · refine List.ext_getElem? fun i => ?_
      rcases Nat.lt_or_ge i l.length with hi | hi
      · have := (e2 i _ (List.getElem?_eq_getElem hi)).1
        rw [this]
        simp [encI, hi]
      · rw [List.getElem?_eq_none (by omega), List.getElem?_eq_none (by simpa [encI] using hi)]
    · obtain ⟨i, hi⟩ := List.getElem?_of_mem hn
      exact (e2 i _ hi).2

theorem fit_sl {row : List Sh} {x : D} (h : Fit (.sl row) x) : ∃ rows, x = .sl row.length rows := by
  cases h with
  | sl _ rows _ _ _ => exact ⟨rows, rfl⟩
theorem fit_int {k : IntKind} {x : D} (h : Fit (.int k) x) : ∃ n, x = .int k n ∧ (Lit.int k n).wf = true := by
  cases h with
  | int _ n h => exact ⟨n, rfl, h⟩
theorem fit_bool {x : D} (h : Fit .bool x) : ∃ b, x = .bool b := by
  cases h with
  | bool b => exact ⟨b, rfl⟩
theorem fit_str {x : D} (h : Fit .str x) : ∃ s, x = .str s ∧ s.length ≤ maxLen := by
  cases h with
  | str s h => exact ⟨s, rfl, h⟩

theorem fitL_cons {s : Sh} {ss : List Sh} {ds : List D} (h : FitL (s :: ss) ds) : ∃ x xs, ds = x :: xs ∧ Fit s x ∧ FitL ss xs := by
  obtain ⟨h1, h2⟩ := h
  cases ds with
  | nil => simp at h1
  | cons x xs => exact ⟨x, xs, rfl, h2 0 s x rfl rfl, by simpa using h1, fun j s' x' hs hx => h2 (j + 1) s' x' (by simpa using hs) (by simpa using hx)⟩
theorem fitL_nil {ds : List D} (h : FitL [] ds) : ds = [] := List.eq_nil_of_length_eq_zero (by simpa using h.1)

/-- Slices of structs. -/
theorem fit_structs {α : Type} {enc : α → List D} {Q : α → Prop} {row : List Sh} (hdec : ∀ r : List D, FitL row r → ∃ a, r = enc a ∧ Q a) {k : Nat} {rows : List (List D)} (h : Fit (.sl row) (.sl k rows)) : ∃ l : List α, rows = l.map enc ∧ (∀ a ∈ l, Q a) ∧ l.length ≤ maxLen := by
  cases h with
  | sl _ _ hm hl hr =>
    have h1 : ∀ i, i < rows.length → ∃ a : α, rows[i]? = some (enc a) ∧ Q a := by
      intro i hi
      have hri := List.getElem?_eq_getElem hi
      obtain ⟨a, ha, hq⟩ := hdec rows[i] ⟨hl i _ hri, fun j s x hs hx => hr i j _ s x hri hs hx⟩
      exact ⟨a, by rw [hri, ha], hq⟩
    obtain ⟨l, e1, e2⟩ := ex_list rows.length h1
    refine ⟨l, ?_, fun n hn => ?_, by omega⟩
    · refine List.ext_getElem? fun i => ?_
      rcases Nat.lt_or_ge i l.length with hi | hi
      · rw [(e2 i _ (List.getElem?_eq_getElem hi)).1]; simp [hi]
      · rw [List.getElem?_eq_none (by omega), List.getElem?_eq_none (by simpa using hi)]
    · obtain ⟨i, hi⟩ := List.getElem?_of_mem hn
      exact (e2 i _ hi).2

/-- A law's answer. -/
def lawK : AV → Option Bool
  | .d (.bool b) => some b
  | _ => none
theorem lawK_ok (x : AV) (h : lawK x = some true) : x = .d (.bool true) := by
  unfold lawK at h
  split at h
  · injection h with h; subst h; rfl
  · cases h

end
end Go.Vx
