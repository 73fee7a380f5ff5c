/- Part of a proof. No conditions of their own. -/
import Derived.Test.YtiibkjjkoapefaaGreatTB
set_option linter.unusedVariables false
set_option linter.unusedSimpArgs false
noncomputable section
abbrev QiR:=@Nat.eq_of_beq_eq_true
namespace Go.Vx
inductive UI where
 |r (a b:Nat)
 |f (a:Nat)
 |t (x l:Nat)
 |h (b c l:Nat)
def nmT:TA->Option Nat
 |.ptr l _=>some l
 |.arr l=>some l
 |.ap l _=>some l
 |.ac l _ _=>some l
 |.sa l _=>some l
 |_=>none
def nmV:AV->Option Nat
 |.ptr l _=>some l
 |.arr l=>some l
 |.ap l _ _=>some l
 |.sa l _=>some l
 |_=>none
def QgQ:AV->Bool
 |.nil=>true
 |_=>false
def uN (mk:Nat->UI) (a:AV) (u:List UI):Option Nat->List UI
 |some l=>match nmV a with
  |some l'=>.r l' l::u
  |none=>bif QgQ a then mk l::u else u
 |none=>match nmV a with
  |some l'=>.f l'::u
  |none=>u
mutual
def uA (mk:Nat->UI):TA->AV->List UI->List UI
 |.top,_,u=>u
 |.ag l,.ag l',u=>uL mk l l' u
 |.tup l,.tup l',u=>uL mk l l' u
 |.fn _ l,.fn _ l',u=>uL mk l l' u
 |ta,a,u=>uN mk a u (nmT ta)
def uL (mk:Nat->UI):List TA->List AV->List UI->List UI
 |[],_,u=>u
 |ta::r,l,u=>match l with
  |a::s=>uL mk r s (uA mk ta a u)
  |[]=>u
end
def Qfj:List UI->Nat->Nat
 |[],l=>l
 |.r a b::u,l=>bif Nat.beq b l then a else Qfj u l
 |_::u,l=>Qfj u l
def uB (b:Nat):Nat->List TA->List AV->List UI->List UI
 |_,[],_,u=>u
 |c,ta::r,l,u=>match l with
  |a::s=>uB b (c+1) r s (uA (.h b c) ta a u)
  |[]=>u
def uM (tm:List (Nat × AV)):List (Nat × TA)->List UI->List UI
 |[],u=>u
 |(t,a)::r,u=>uM tm r (uA (.t t) a (lkT tm t) u)
def uH (h:List (Nat × Ob)):List (Nat × TO)->List UI->List UI
 |[],u=>u
 |(l,.box cs)::r,u=>match look h (Qfj u l) with
  |some (.box aj)=>uH h r (uB l 0 cs aj u)
  |_=>uH h r u
 |_::r,u=>uH h r u
def esT:TO->Nat × Nat
 |.arr e s=>(e,s)
 |.arc e s=>(e,s)
 |_=>(0,0)
def es1 (Z:List (Nat × TO)) (l:Nat):Nat × Nat:=match look Z l with
 |some o=>esT o
 |none=>(0,0)
def mtU (Z:Nat->Nat × Nat):List UI->List (Nat × Nat × Nat × Nat)
 |[]=>[]
 |.t x l::u=>(x,l,(Z l).1,(Z l).2)::mtU Z u
 |_::u=>mtU Z u
def mhU (Z:Nat->Nat × Nat):List UI->List (Nat × Nat × Nat × Nat × Nat)
 |[]=>[]
 |.h b c l::u=>(b,c,l,(Z l).1,(Z l).2)::mhU Z u
 |_::u=>mhU Z u
def fzU:List UI->List Nat
 |[]=>[]
 |.f a::u=>a::fzU u
 |_::u=>fzU u
def idN (l:List Nat):List (Nat × Nat):=l.map fun x=>(x,x)
def Qha (ks os:List Nat) (Z:Nat->Nat × Nat) (u:List UI):Cfg:=⟨ks,os.map fun l=>(Qfj u l,l),mtU Z u,mhU Z u,fzU u⟩
def nU (Z:TS) (st:St):St:=Qc3 ⟨Z.tm.map (·.1),idN (Z.h.map (·.1)),[],[],[]⟩ (Qc3 (Qha (Z.tm.map (·.1)) (Z.h.map (·.1)) (es1 Z.h) (uH st.h Z.h (uM st.tm Z.tm []))) st)
section
variable {P:Program} {E:Env}
theorem Qb0 (Z:TS) {st:St} {a:Act} {w:World} (h:Hc E st a w):Hc E (nU Z st) a w:=TN _ (TN _ h)
end
structure XT where
 k:Exit
 Z:TS
 s:List Nat
def Qhk:Exit->Exit->Bool
 |.exit a,.exit b=>Nat.beq a b
 |.ret,.ret=>true
 |_,_=>false
def exN:List XT->Exit->St->St
 |[],_,st=>st
 |x::r,e,st=>bif Qhk x.k e&&(rdS x.Z (nU x.Z st)).isSome then nU x.Z st else exN r e st
theorem Q4W {E:Env}:∀ (X:List XT) (e:Exit) {st:St} {a:Act} {w:World},Hc E st a w->Hc E (exN X e st) a w
 |[],_,_,_,_,h=>h
 |x::r,e,st,a,w,h=>by
  unfold exN;cases Qhk x.k e&&(rdS x.Z (nU x.Z st)).isSome with
  |true=>exact Qb0 _ h
  |false=>exact Q4W r e h
def ltD:TA->List LT->List LT
 |.i _,r=>.I::r
 |.b,r=>.B::r
 |.t,r=>.T::r
 |.l _,r=>.L::r
 |.x,r=>.D::r
 |.el _,r=>.R::r
 |.ap _ _,r=>.N::r
 |.fs _,r=>.L::r
 |.mpd,r=>.M::r
 |_,r=>r
mutual
def ltA:TA->List LT->List LT
 |.ag l,r=>ltL l r
 |.tup l,r=>ltL l r
 |.fn _ l,r=>ltL l r
 |.gd _ _ a,r=>ltA a r
 |a,r=>ltD a r
def ltL:List TA->List LT->List LT
 |[],r=>r
 |a::l,r=>ltA a (ltL l r)
end
def ltO:TO->List LT->List LT
 |.box l,r=>ltL l r
 |.arr _ _,r=>.L::r
 |.mp _,r=>.P::r
 |_,r=>r
def ltM:List (Nat × TA)->List LT->List LT
 |[],r=>r
 |(_,a)::l,r=>ltA a (ltM l r)
def ltH:List (Nat × TO)->List LT
 |[]=>[]
 |(_,o)::l=>ltO o (ltH l)
def ltS (Z:TS):List LT:=ltM Z.tm (ltH Z.h)
def Qfe (d:Nat):List LT->Nat->List LT
 |[],_=>[]
 |t::ts,k=>bif Nat.beq (k % 3) d then t::Qfe d ts (k / 3) else Qfe d ts (k / 3)
def Qf9 {α:Type} (d:Nat):List α->Nat->List α
 |[],_=>[]
 |x::xs,k=>bif Nat.beq (k % 3) d then x::Qf9 d xs (k / 3) else Qf9 d xs (k / 3)
def Qab:List LT->List Nat->List LT
 |t::ts,s=>match s with
  |0::r=>t::Qab ts r
  |_::r=>Qab ts r
  |[]=>[]
 |[],_=>[]
def Q9i (hs as:List Lf):List Nat->List Lf->List Lf
 |[],_=>[]
 |0::r,q=>match q with
  |x::q=>x::Q9i hs as r q
  |[]=>[]
 |(j+1)::r,q=>bif Nat.ble 999 j then as.getD (j-999) (.N 0)::Q9i hs as r q else hs.getD j (.N 0)::Q9i hs as r q
def crL {β:Type}:(ts:List LT)->(List Lf->β)->LF ts β
 |[],f=>f []
 |t::ts,f=>fun x=>crL ts fun l=>f (Q9A t x::l)
def apO {α:Type}:(ts:List LT)->LF ts α->List Lf->Option α
 |[],f,l=>match l with
  |[]=>some f
  |_::_=>none
 |t::ts,f,l=>match l with
  |[]=>none
  |x::r=>match Q7j t x with
   |some v=>apO ts (f v) r
   |none=>none
def kT (R:Type):List XT->Type->Type
 |[],α=>α
 |x::r,α=>LF (Qab (ltS x.Z) x.s) (Option R)->kT R r α
def apK {R α:Type} (hs:List Lf) (k:Exit->St->Option R):(X:List XT)->kT R X α->α
 |[],f=>f
 |x::r,f=>apK hs k r (f (crL _ fun as=>k x.k (fiS x.Z (Q9i hs as x.s as))))
def PT (ts:List LT) (q:Nat) (X:List XT) (R:Type):Type:=LF (Qfe 1 ts q) (kT R X (Nat->LF (Qfe 2 ts q) (Option R)))
def runP {ts:List LT} {q:Nat} {X:List XT} {R:Type} (f:PT ts q X R) (m:Nat) (k:Exit->St->Option R) (ls:List Lf):Option R:=
 match apO _ f (Qf9 1 ls q) with
 |some g=>match apO _ (apK ls k X g m) (Qf9 2 ls q) with
  |some r=>r
  |none=>none
 |none=>none
inductive XD where
 |e (id:Nat) (add:List (Nat × TA)) (drop:List Nat) (o:List (Nat × TO)) (ov:List (Nat × Nat))
 |f (k:Exit) (tm:List (Nat × TA)) (h:List (Nat × TO)) (s:List Nat)
def Qh5 (t:Nat) (a:TA):List (Nat × TA)->List (Nat × TA)
 |[]=>[(t,a)]
 |(k,d)::r=>bif Nat.beq k t then (t,a)::r else bif Nat.ble k t then (k,d)::Qh5 t a r else (t,a)::(k,d)::r
def QcG:List (Nat × TA)->List (Nat × TA)->List (Nat × TA)
 |[],z=>z
 |(t,a)::r,z=>QcG r (Qh5 t a z)
def QbW:List Nat->List (Nat × TA)->List (Nat × TA)
 |[],z=>z
 |t::r,z=>QbW r (rem t z)
def Qgx (h:List (Nat × TO)):List (Nat × TO)->List (Nat × TO)
 |[]=>h
 |(l,o)::r=>Qgx (go l o h) r
where go (l:Nat) (o:TO):List (Nat × TO)->List (Nat × TO)
 |[]=>[(l,o)]
 |(k,b)::r=>bif Nat.beq k l then (l,o)::r else (k,b)::go l o r
def Qg7 (b:Nat):Nat->Nat->List Nat->List Nat
 |_,0,r=>r
 |i,n+1,r=>(b+i)::Qg7 b (i+1) n r
def QfC:List (Nat × TA)->List Nat->List Nat
 |[],r=>r
 |(t,a)::l,r=>Qg7 (2000*t) 0 (ltA a []).length (QfC l r)
def QgS:List (Nat × TO)->List Nat
 |[]=>[]
 |(l,o)::r=>Qg7 (2000*l+1000) 0 (ltO o []).length (QgS r)
def Qh1 (x:Nat):Nat->List Nat->Nat->Nat
 |_,[],_=>0
 |j,k::r,q=>bif Nat.beq k x then bif Nat.beq (q % 3) 2 then 0 else j else Qh1 x (j+1) r (q / 3)
def Qhj (hk:List Nat) (q:Nat) (ov:List (Nat × Nat)):Nat->List Nat->List Nat
 |_,[]=>[]
 |i,x::r=>(look ov i).getD (Qh1 x 1 hk q)::Qhj hk q ov (i+1) r
def xT (n:Nat) (tm:List (Nat × TA)) (h:List (Nat × TO)) (q:Nat):XD->XT
 |.f k tm' h' s=>⟨k,⟨n,tm',h'⟩,s⟩
 |.e id ak aj o ov=>⟨.exit id,⟨n,QcG ak (QbW aj tm),Qgx h o⟩,Qhj (QfC tm (QgS h)) q ov 0 (QfC (QcG ak (QbW aj tm)) (QgS (Qgx h o)))⟩
abbrev xE (id:Nat) (aj:List (Nat × TA)):XD:=.e id aj [] [] []
def lpU {R:Type} (X:List XT) (F:Mg) (k:Exit->St->Option R):Exit->St->Option R:=fun e st=>match e with
 |.normal=>F R st k
 |.exit id=>k (.exit id) (exN X (.exit id) st)
 |.ret=>k .ret (exN X .ret st)
 |_=>none
theorem AJ {P:Program} {c:Code} (X:List XT) (F:Nat->Mg) (h0:∀ (R:Type) st (k:Exit->St->Option R),F 0 R st k=none)
  (hs:∀ (m:Nat) (E:Env) (R:Type) st (k:Exit->St->Option R) r,F (m+1) R st k=some r->∀ a w,Hc E st a w->c.wp P (Ap E (lpU X (F m) k) r) a w) :
  ∀ (m:Nat) (E:Env) (R:Type) (st:St) (k:Exit->St->Option R) (r:R),F m R st k=some r->∀ a w,Hc E st a w->Code.rounds P c (Ap E k r) m a w
 |0,E,R,st,k,r,h=>by rw [h0] at h;cases h
 |m+1,E,R,st,k,r,h=>by
  intro a w hR;rw [rounds_succ];refine wp_mono (hs m E R st k r h a w hR) fun e a' w' ⟨st',aj,hk⟩=>?_
  cases e with
  |normal=>exact AJ X F h0 hs m E R st' k r hk a' w' aj
  |exit id=>exact ⟨_,Q4W X _ aj,hk⟩
  |ret=>exact ⟨_,Q4W X _ aj,hk⟩
  |_=>cases hk
def Q9y (r:Nat):Code->Option Code
 |.seq a b=>match Q9y r a with
  |some c=>some c
  |none=>Q9y r b
 |.cond _ a b=>match Q9y r a with
  |some c=>some c
  |none=>Q9y r b
 |.block _ c=>Q9y r c
 |.loop c=>bif Nat.beq (Q7K c) r then some c else Q9y r c
 |_=>none
def LpU (Z:TS) (f:(R:Type)->(Exit->St->Option R)->List Lf->Option R):Mg:=fun R st k=>
 match rdS Z (nU Z st) with
 |some ls=>f R k ls
 |none=>none
theorem Qem:∀ (ts:List LT) {α:Type} (f:LF ts α) (l:List Lf) (r:α),apO ts f l=some r->∃ v:HL ts,l=toL ts v
 |[],α,f,l,r,h=>by
  cases l with
  |nil=>exact ⟨(),rfl⟩
  |cons x l=>cases h
 |t::ts,α,f,l,r,h=>by
  cases l with
  |nil=>cases h
  |cons x l=>
   replace h:(match Q7j t x with | some v=>apO ts (f v) l | none=>none)=some r:=h
   split at h
   ·rename_i v hv;obtain ⟨u,h2⟩:=Qem ts (f v) l r h;exact ⟨(v,u),by rw [RI hv,h2];rfl⟩
   ·cases h
def Qfc:List LT->List Lf->Bool
 |[],l=>match l with
  |[]=>true
  |_::_=>false
 |t::ts,l=>match l with
  |[]=>false
  |x::r=>(Q7j t x).isSome&&Qfc ts r
theorem Q0s:∀ {ts:List LT} {l:List Lf},Qfc ts l=true->∃ v:HL ts,l=toL ts v
 |[],[],_=>⟨(),rfl⟩
 |[],_::_,h=>by cases h
 |_::_,[],h=>by cases h
 |t::ts,x::l,h=>by
  simp only [Qfc,Bool.and_eq_true] at h;obtain ⟨v,hv⟩:=Option.isSome_iff_exists.1 h.1;obtain ⟨u,hu⟩:=Q0s h.2;exact ⟨(v,u),by rw [RI hv,hu];rfl⟩
def Qff (ts:List LT) {R:Type} (f:List Lf->Option R) (ls:List Lf):Option R:=bif Qfc ts ls then f ls else none
def mkU {P:Program} {C:VC} (hC:VCOk P C) (T:List (LpE P)) (r:Nat) (fn:Func) (tm:List (Nat × TA)) (h:List (Nat × TO)) (q:Nat) (X:List XD) {τ:Type->Type} (f:(R:Type)->Nat->τ R) (n m:Nat)
  (hτ:∀ R,τ R=PT (ltM tm (ltH h)) q (X.map (xT fn.ntmps tm h q)) R:=by intro R;kernel_rfl)
  (hr:(Q9y r (VG fn)).isSome=true:=by kernel_rfl) (hT:Nj T (WH ((Q9y r (VG fn)).getD .skip))=T.map fun e=>(e.r,e.c):=by kernel_rfl) (hn:X3 (T.map (·.r))=true:=by rfl)
  (h0:∀ (R:Type) (k:Exit->St->Option R) (v:HL (ltM tm (ltH h))),runP (cast (hτ R) (f R n)) 0 k (toL _ v)=none:=by intro R k v;kernel_rfl)
  (hs:∀ (m:Nat) (R:Type) (k:Exit->St->Option R) (v:HL (ltM tm (ltH h))),runP (cast (hτ R) (f R n)) (m+1) k (toL _ v)=Q6Q C T ((Q9y r (VG fn)).getD .skip) (fiS ⟨fn.ntmps,tm,h⟩ (toL _ v)) (lpU (X.map (xT fn.ntmps tm h q)) (LpU ⟨fn.ntmps,tm,h⟩ fun R k=>Qff (ltM tm (ltH h)) (runP (cast (hτ R) (f R n)) m k)) k):=by intro m R k v;kernel_rfl):LpE P where
 r:=r
 c:=(Q9y r (VG fn)).getD .skip
 L:=LpU ⟨fn.ntmps,tm,h⟩ fun R k=>Qff (ltM tm (ltH h)) (runP (cast (hτ R) (f R n)) m k)
 t:=fun st=>(rdS ⟨fn.ntmps,tm,h⟩ (nU ⟨fn.ntmps,tm,h⟩ st)).isSome
 ok:=by
  have hT:=Cd hn hT;intro E R st k x h' a w hR;refine wp_loop_rounds m (AJ (X.map (xT fn.ntmps tm h q)) (fun m=>LpU ⟨fn.ntmps,tm,h⟩ fun R k=>Qff (ltM tm (ltH h)) (runP (cast (hτ R) (f R n)) m k)) (fun R st k=>?_) (fun m E R st k x h' a w hR=>?_) m E R st k x h' a w hR)
  ·cases hx:LpU ⟨fn.ntmps,tm,h⟩ (fun R k=>Qff (ltM tm (ltH h)) (runP (cast (hτ R) (f R n)) 0 k)) R st k with
   |none=>rfl
   |some x=>
    unfold LpU at hx;split at hx
    ·obtain ⟨hb,hx⟩:=XB hx;obtain ⟨v,rfl⟩:=Q0s hb;rw [h0] at hx;cases hx
    ·cases hx
  ·unfold LpU at h';split at h'
   ·rename_i ls ao;obtain ⟨hb,h'⟩:=XB h';obtain ⟨v,rfl⟩:=Q0s hb;rw [hs,Q61 ao] at h';exact NK hC _ hT _ _ x h' a w (Qb0 _ hR)
   ·cases h'
structure VB (P:Program) where
 C:VC
 ok:VCOk P C
def Qeh {P:Program} (l:List ((f:Nat) × EnP P f)):List (Nat × TK):=l.map fun e=>(e.1,e.2.E)
theorem Q64 {P:Program}:∀ l:List ((f:Nat) × EnP P f),Q5E P (Qeh l)
 |[]=>trivial
 |e::r=>⟨e.2.ok,Q64 r⟩
def QhR {P:Program} {f:Nat} (l:List Nat) (a b:EnP P f):EnP P f:=⟨QgE l a.E b.E,QbL _ a.ok b.ok⟩
def uR (h:List (Nat × Ob)):List Sp->List (AV × (Nat->Nat->UI))->List UI->List UI
 |[],_,u=>u
 |.tup _::r,st,u=>uR h r st u
 |.gone _::r,st,u=>uR h r st u
 |.pinm _ _::r,st,u=>uR h r st u
 |.pina _ _ _::r,st,u=>uR h r st u
 |.pin p _::r,st,u=>match look h p with
  |some (.box cs)=>uR h r (plC (.h p) 0 cs++st) u
  |_=>u
 |.ptr p _::r,st,u=>match st with
  |(.ptr l _,_)::st=>match look h l with
   |some (.box cs)=>uR h r (plC (.h p) 0 cs++st) (.r l p::u)
   |_=>u
  |_=>u
 |.ag _::r,st,u=>match st with
  |(.ag l,_)::st=>uR h r st (l.foldl (fun u a=>uN (fun _=>.f 0) a u none) u)
  |_::st=>uR h r st u
  |_=>u
 |.agn _::r,st,u=>match st with
  |(.ag l,q)::st=>uR h r (plC q 0 l++st) u
  |_=>u
 |.fn _ _::r,st,u=>match st with
  |(.fn _ l,q)::st=>uR h r (plC q 0 l++st) u
  |_=>u
 |.arr p _ _::r,st,u=>match st with
  |(a,q)::st=>uR h r st (uN (q 0) a u (some p))
  |_=>u
 |.mp p _::r,st,u=>match st with
  |(a,q)::st=>uR h r st (uN (q 0) a u (some p))
  |_=>u
 |.d _::r,st,u=>match st with
  |(a,q)::st=>uR h r st (uN (q 0) a u none)
  |_=>u
 |_::r,st,u=>uR h r st.tail u
where
 plC (q:Nat->Nat->UI):Nat->List AV->List (AV × (Nat->Nat->UI))
  |_,[]=>[]
  |i,a::l=>(a,fun j=>q (i+j))::plC q (i+1) l
def esR:List Sp->Nat->Nat × Nat
 |[],_=>(0,0)
 |.arr p e s::r,l=>bif Nat.beq p l then (e,s) else esR r l
 |_::r,l=>esR r l
def osR:List (Nat × OK)->List Nat
 |[]=>[]
 |(_,.gone)::r=>osR r
 |(p,_)::r=>p::osR r
def rsT:List ResultVar->List Nat
 |[]=>[]
 |.tmp t::r=>t::rsT r
 |.cell a _::r=>a::rsT r
def rsO (st:St):List ResultVar->List Nat
 |[]=>[]
 |.tmp _::r=>rsO st r
 |.cell a _::r=>match lkT st.tm a with
  |.ptr l _=>l::rsO st r
  |_=>rsO st r
def rsV (tt:TT) (st:St):List ResultVar->List (AV × (Nat->Nat->UI))
 |[]=>[]
 |.tmp t::r=>(lkT st.tm t,fun _=>.t t)::rsV tt st r
 |.cell a ty::r=>match Q38 tt st (.cell a ty),lkT st.tm a with
  |some v,.ptr l off=>(v,fun i=>.h l (off+i))::rsV tt st r
  |_,_=>rsV tt st r
def nR (tt:TT) (RS:List Sp) (rs:List ResultVar) (st:St):St:=
 Qc3 (Qha (rsT rs) (rsO st rs++osR (Kg RS)) (esR RS) (uR st.h RS (rsV tt st rs) [])) st
def Qd6 {R:Type} {P:Program} (C:VC) (T:List (LpE P)) (N:St->St) (fn:Func) (args:List AV) (h:List (Nat × Ob)) (k:AV->List (Nat × Ob)->Option R):Option R:=
 bif fn.body.isSome&&(Nat.ble args.length fn.ntmps&&H4 args) then Q6Q C T (VG fn) { n:=fn.ntmps,tm:=Q2L 0 args,h:=h } (fun e st=>fnK C.tt fn k e (N st)) else none
section
variable {P:Program} {R:Type}
theorem ED {C:VC} (hC:VCOk P C) {T:List (LpE P)} {f:Nat} {fn:Func} {N:St->St} (hN:∀ (E:Env) (st:St) (a:Act) (w:World),Hc E st a w->Hc E (N st) a w) (hf:P.funcs[f]? = some fn)
  (hT:Nj T (WH (VG fn))=T.map fun e=>(e.r,e.c)) (hn:X3 (T.map (·.r))=true) {args:List AV} {H:List (Nat × Ob)} {k:AV->List (Nat × Ob)->Option R} {r:R} (h:Qd6 C T N fn args H k=some r)
  (β:Nat->Option Nat) (S:Nat->Prop) (w:World) (vs:List Value) (hO:Objs β S (look H) w) (hA:ArgsRd β S (look H) w vs args):Calls P f vs.toArray w (Rj H k r β S w):=by
 obtain ⟨hb,h⟩:=XB h;simp only [Bool.and_eq_true] at hb;obtain ⟨c,hc⟩:=Option.isSome_iff_exists.1 hb.1;have aj:VG fn=c:=by grind [VG]
 rw [aj] at h hT;exact Q0B hC hf hc (by simp_all) (fun a hR=>wp_mono (NK hC c (Cd hn hT) _ _ r h a w ⟨β,S,hR⟩) fun e a w ⟨st,hR,hk⟩=>⟨_,hN _ _ _ _ hR,hk⟩) hO hA
def dkD:D->DK
 |.int k _=>.i k
 |.bool _=>.b
 |.str _=>.t
 |.sl s _=>.l s
def taD:D->TA
 |.int k _=>.i k
 |.bool _=>.b
 |.str _=>.t
 |.sl s _=>.l s
def zdT (tt:TT) (t:Nat):List D:=match look tt t with
 |some ti=>ti.zd
 |none=>[]
def stT (tt:TT) (t:Nat):Sp:=match look tt t with
 |some ti=>bif V8 ti.kd then .ag (ti.zd.map dkD) else match ti.zd with
  |d::_=>.d (dkD d)
  |[]=>.nil
 |none=>.nil
def sOf (tt:TT) (fn:Func):List Sp:=fn.params.toList.map (stT tt)
def rOf (tt:TT) (fn:Func):List Sp:=match fn.resultTypes.toList with
 |[t]=>[stT tt t]
 |l=>.tup l.length::l.map (stT tt)
def ovr {α:Type} (l:List α):List (Nat × α)->List α
 |[]=>l
 |(i,a)::r=>ovr (l.set i a) r
def btT (tt:TT) (t:Nat) (o:List (Nat × TA)):TO:=.box (ovr ((zdT tt t).map taD) o)
def ptT (tt:TT) (p t:Nat) (o:List (Nat × Sp)) (r:List Sp):List Sp:=.ptr p (zdT tt t).length::(ovr ((zdT tt t).map fun d=>.d (dkD d)) o++r)
def ssK:DK->Nat
 |.l s=>s
 |_=>0
def ssR:List Sp->List (List Nat)
 |[]=>[]
 |.d k::r=>[ssK k]::ssR r
 |.ag l::r=>l.map ssK::ssR r
 |_::r=>ssR r
def rsB:List Sp->List (Nat × Nat × Nat)->List (Nat × List Sp)->List (Nat × List Sp)
 |[],_,a=>a
 |s::r,c,a=>match c.dropWhile fun x=>Nat.beq x.2.1 0 with
  |[]=>match s with
   |.ptr p n=>rsB r [(p,n,0)] (a++[(p,[])])
   |_=>rsB r [] a
  |(q,m,i)::c=>match s with
   |.ptr p n=>rsB r ((p,n,0)::(q,m-1,i+1)::c) (add q (.ps p) a++[(p,[])])
   |.arr _ e z=>rsB r ((q,m-1,i+1)::c) (add q (.arr (98000+(q-1000000)*40+i) e z) a)
   |s=>rsB r ((q,m-1,i+1)::c) (add q s a)
where add (q:Nat) (s:Sp):List (Nat × List Sp)->List (Nat × List Sp)
 |[]=>[]
 |(p,l)::r=>bif Nat.beq p q then (p,l++[s])::r else (p,l)::add q s r
def rsM:List Sp->List Sp
 |[]=>[]
 |.mp p t::r=>.pinm p t::rsM r
 |_::r=>rsM r
def rsG:List Sp->List Sp
 |[]=>[]
 |.arr p _ _::r=>.gone p::rsG r
 |_::r=>rsG r
def Rc (rs S:List Sp) (o:List (Nat × Sp)):List Sp:=ovr (rs++((rsB S [] []).flatMap (fun x=>.pin x.1 x.2.length::x.2)++(rsM S++rsG S))) o
def Q1K:List (Nat × OK)->List Nat
 |[]=>[]
 |(_,.gone)::r=>Q1K r
 |(p,_)::r=>bif Nat.ble 1000000 p then Q1K r else p::Q1K r
def ky1 (k:Nat) (c:List (Nat × Nat × Nat)):Sp->List Nat × List (Nat × Nat × Nat)
 |.ptr p n=>([],(p,n,0)::c)
 |.pin p n=>([],[(p,n,0)])
 |.fn _ n=>([],(0,n,0)::c)
 |.agn n=>([],(0,n,0)::c)
 |.ag ks=>(ks.map fun _=>0,c)
 |.d _=>([k],c)
 |.arr _ _ _=>([k],c)
 |.mp _ _=>([k],c)
 |.pinm _ _=>([0],[])
 |.pina _ _ _=>([0],[])
 |.tup _=>([],[])
 |_=>([],c)
def kyT:List (Nat × Nat × Nat)->Nat × List (Nat × Nat × Nat)
 |[]=>(0,[])
 |(q,m,i)::c=>(q*1000+i,(q,m-1,i+1)::c)
def kyS:List Sp->List (Nat × Nat × Nat)->List Nat
 |[],_=>[]
 |s::r,c=>(ky1 (kyT (c.dropWhile fun x=>Nat.beq x.2.1 0)).1 (kyT (c.dropWhile fun x=>Nat.beq x.2.1 0)).2 s).1++kyS r (ky1 (kyT (c.dropWhile fun x=>Nat.beq x.2.1 0)).1 (kyT (c.dropWhile fun x=>Nat.beq x.2.1 0)).2 s).2
def QgX (x:Nat):Nat->List Nat->Nat
 |_,[]=>0
 |j,k::r=>bif Nat.beq k x then j else QgX x (j+1) r
def QeF (ks:List Nat):List Nat->Nat->List Nat
 |[],_=>[]
 |x::r,q=>(bif Nat.beq (q % 2) 1 then QgX x 1 ks else 0)::QeF ks r (q / 2)
def dlF (RS:List Sp) (σ ρ:List (Nat × Nat)) (ls:List Lf):Dl:=⟨U6 σ ((bdS RS ls).1.headD .top),M2 σ (bdS RS ls).2 σ,ρ.map (·.2)⟩
theorem Cg {f:Nat} {fn:Func} {S RS:List Sp} {ν:List Nat} (hs:Av S RS ν=true) {avs:List AV} {hl:Nat->Option Ob} {ρ:List (Nat × Nat)} {site:Nat} {v:HL (lts S)} (hk:ρ.map (·.1)=(Kg S).map (·.1)) (hnew:Rg hl ρ (nus site 1 ν)=true)
  (hc : ∀ ρF, (∀ p l, (p, l) ∈ [] ++ ρ -> look ρF p = some l) -> SRL ρF avs (bdS S (toL _ v)).1 /\ HinP ρF hl (Kg S) (bdS S (toL _ v)).2 ρ) (hf : P.funcs[f]? = some fn) (hb : fn.body.isSome = true) (hn : (fn.name == "runtime.NumGoroutine") = false)
  {α:Type} {K:AV->List (Nat × Ob)->Option α} {res:α} {full:List Lf} (hK:∀ av H',K av H'=some res->rdR (look H') RS [av]=some full)
  (hlen:∀ (p e s:Nat) (rows':List (List D)) (e0 s0:Nat) (rows:List (List D)),(p,Ob.arr e s rows')∈(bdS RS full).2->look (bdS S (toL _ v)).2 p=some (.arr e0 s0 rows)->rows'.length=rows.length)
  (hcall:∀ (β:Nat->Option Nat) (S':Nat->Prop) (w:World) (vs:List Value),Objs β S' (look (bdS S (toL _ v)).2) w->ArgsRd β S' (look (bdS S (toL _ v)).2) w vs (bdS S (toL _ v)).1->Calls P f vs.toArray w (Rj (bdS S (toL _ v)).2 K res β S' w)) :
  Zi P f avs hl (dlF RS (ρ++nus site 1 ν) ρ full):=by
 simp only [Av,Bool.and_eq_true,List.all_eq_true,Bool.or_eq_true,Bool.not_eq_true'] at hs;obtain ⟨s1,s2,s3,s4,s5,s6⟩:=hs;have hnd:X3 (ρ.map (·.1))=true:=by rw [hk];exact s2
 obtain ⟨c1,c2⟩:=hc ρ (fun p l hm=>MR hnd (by simpa using hm));have hkeys:=c2.map1;have inS:∀ {j l:Nat},(j,l)∈ρ->∃ κ,(j,κ)∈Kg S:=fun hm=>by
  obtain ⟨κ,_,_,g1,_⟩:=c2.at hnd hm;exact ⟨κ,g1⟩
 have inR:∀ {j l:Nat},(j,l)∈ρ++nus site 1 ν->∃ κ,(j,κ)∈Kg RS:=fun {j l} hm=>by
  rcases List.mem_append.1 hm with hm | hm
  ·obtain ⟨κ,g1⟩:=inS hm;exact Lg (s5 _ g1).1
  ·have:j∈ν:=by rw [<- C8 site 1 ν];exact List.mem_map.2 ⟨_,hm,rfl⟩
   exact Lg (s6 _ this).1
 refine Q0m (fn:=fn) (ρ:=ρ) (ν:=nus site 1 ν) (avs':=(bdS S (toL _ v)).1) (H:=(bdS S (toL _ v)).2) (K:=K) (res:=res) hf hb hn c1.cle (by rw [List.map_append,C8,hk];exact s1) hnd hnew (Q7o fun j l hm=>?_) hkeys.1 (by simp only [wrL,dlF];exact Cw _ _ _) hcall (fun av H' hx=>?_)
 ·obtain ⟨κ,o,o0,g1,g2,g3,g4,_⟩:=c2.at hnd hm;exact ⟨Nat.le_of_ble_eq_true (s3 _ g1),o0,o,g3,g2,g4⟩
 ·obtain ⟨i1,i2⟩:=Q5m _ _ _ (hK av H' hx);have hat:∀ j l,(j,l)∈ρ++nus site 1 ν->look (bdS RS full).2 j=look H' j:=fun j l hm=>by
   obtain ⟨κ,g1⟩:=inR hm;exact (i2.at s4 g1).1
  refine ⟨by simp only [dlF];rw [i1];rfl,?_,Q8U fun j l hm=>?_,Q7p fun j l hm=>?_⟩
  ·exact (By hat).symm
  ·have hj:j∈ν:=by rw [<- C8 site 1 ν];exact List.mem_map.2 ⟨_,hm,rfl⟩
   obtain ⟨κ,g1⟩:=Lg (s6 _ hj).1;rcases (i2.at s4 g1).2 with ⟨rfl,_⟩ | ⟨o,ho,_⟩
   ·rcases (s6 _ hj).2 _ g1 with g | g
    ·simp [Nat.beq_refl] at g
    ·cases g
   ·rw [ho];rfl
  ·obtain ⟨κ,o,o0,g1,g2,g3,g4,g5⟩:=c2.at hnd hm;obtain ⟨κ',g6⟩:=Lg (s5 _ g1).1;have he:QgI κ κ'=true:=by
    rcases (s5 _ g1).2 _ g6 with g | g
    ·simp [Nat.beq_refl] at g
    ·exact g
   rw [g2];rcases (i2.at s4 g6).2 with ⟨rfl,hno⟩ | ⟨o',ho',hk'⟩
   ·cases κ <;> try (cases he;done)
    ·cases o <;> try (exact False.elim g5)
     exact Q6N rfl hno
    ·cases o <;> try (exact False.elim g5)
     exact Q42 rfl hno
   ·cases κ <;> cases κ' <;> try (cases he;done)
    ·cases o <;> try (exact False.elim g5)
     cases o' <;> try (exact False.elim hk')
     have he:=QiR he;simp only [KOb] at g5 hk';exact Q93 rfl ho' (by omega)
    ·cases o <;> try (exact False.elim g5)
     cases o' <;> try (exact False.elim hk')
     simp only [QgI,Bool.and_eq_true] at he;have e1:=QiR he.1;have e2:=QiR he.2;obtain ⟨rfl,rfl⟩:=g5;obtain ⟨rfl,rfl⟩:=hk';subst e1 e2;exact Q6A rfl ho' (hlen _ _ _ _ _ _ _ (Yk ((i2.at s4 g6).1.trans ho')) g2)
    ·cases o' <;> exact False.elim hk'
    ·cases o <;> try (exact False.elim g5)
     cases o' <;> try (exact False.elim hk')
     have he:=QiR he;simp only [KOb] at g5 hk';subst g5;subst hk';subst he;exact Q86 rfl ho'
    ·cases o' <;> exact False.elim hk'
def Q7X:List Nat->List Lf->List Lf
 |0::s,x::l=>x::Q7X s l
 |(_+1)::s,_::l=>Q7X s l
 |_,_=>[]
theorem Q1e (hs as:List Lf):∀ (ts:List LT) (s:List Nat) (q:List Lf),s.length=ts.length->q.length=(Qab ts s).length->Q7X s (Q9i hs as s q)=q
 |[],[],q,_,h=>by
  cases q with
  |nil=>rfl
  |cons x q=>cases h
 |t::ts,0::s,q,h1,h2=>by
  cases q with
  |nil=>cases h2
  |cons x q=>exact congrArg (x::·) (Q1e hs as ts s q (Nat.succ.inj h1) (Nat.succ.inj h2))
 |t::ts,(j+1)::s,q,h1,h2=>by
  have:=Q1e hs as ts s q (Nat.succ.inj h1) h2;simp only [Q9i];cases Nat.ble 999 j <;> simpa [Q7X] using this
theorem Q7n:∀ (ts:List LT) (v:HT ts),(toT ts v).length=ts.length
 |[],_=>rfl
 |[t],_=>rfl
 |t::u::ts,v=>congrArg (· + 1) (Q7n (u::ts) v.2)
theorem Q85 (t:LT) (x:t.ty):Q7j t (Q9A t x)=some x:=by cases t <;> rfl
theorem Q7W:∀ (ts:List LT) (v:HT ts),ofT ts (toT ts v)=some v
 |[],_=>rfl
 |[t],v=>Q85 t v
 |t::u::ts,v=>by
  show (match Q7j t (Q9A t v.1),ofT (u::ts) (toT (u::ts) v.2) with | some a,some b=>some (a,b) | _,_=>none)=some v;rw [Q85,Q7W (u::ts)];rfl
theorem Qbj {β:Type}:∀ (ts:List LT) (G:List Lf->β) (k:HT ts->β),(∀ r,G (toT ts r)=k r)->crL ts G=crT ts k
 |[],G,k,h=>h ()
 |[t],G,k,h=>funext fun x=>h x
 |t::u::ts,G,k,h=>funext fun x=>Qbj (u::ts) (fun l=>G (Q9A t x::l)) (fun r=>k (x,r)) fun r=>h (x,r)
def drT:List LT->Nat->List LT
 |[],_=>[]
 |t::ts,a=>bif Nat.beq (a % 2) 1 then drT ts (a / 2) else t::drT ts (a / 2)
def drL:List Lf->Nat->List Lf
 |[],_=>[]
 |x::xs,a=>bif Nat.beq (a % 2) 1 then drL xs (a / 2) else x::drL xs (a / 2)
def FT (S:List Sp) (a:Nat) (rs:List LT) (R:Type):Type:=LF (drT (lts S) a) (LF rs (Option R)->Option R)
def apF {S:List Sp} {a:Nat} {rs:List LT} {R:Type} (F:FT S a rs R) (ls:List Lf) (K:LF rs (Option R)):Option R:=match apO _ F (drL ls a) with
 |some p=>p K
 |none=>none
def pF {S:List Sp} {a:Nat} {rs:List LT} (F:FT S a rs (HT rs)):LF (lts S) (Option (HT rs)):=crL (lts S) fun ls=>apF F ls (crT rs some)
theorem Q8b {β:Type}:∀ (ts:List LT) (G:List Lf->β) (v:HL ts),apH ts (crL ts G) v=G (toL ts v)
 |[],_,_=>rfl
 |t::ts,G,v=>Q8b ts (fun l=>G (Q9A t v.1::l)) v.2
def kW {α:Type} (RS:List Sp) (K:List Lf->Option α):AV->List (Nat × Ob)->Option α:=fun av H=>match rdR (look H) RS [av] with
 |some ls=>K ls
 |none=>none
def Qhz (S RS:List Sp) (s:List Nat) (f:LF (lts S) (Option (HT (Qab (lts RS) s)))):TK:=fun _ aj g ak hl k=>
 rdP g hl S ak [] fun ls ρ=>bif Rg hl ρ (nus aj 1 (Q1K (Kg RS))) then gb g (apL (lts S) f ls) (zT _) fun r=>QaG g (bdS S ls).2 (bdS RS (Q9i ls [] s (toT _ r))).2 (k (dlF RS (ρ++nus aj 1 (Q1K (Kg RS))) ρ (Q9i ls [] s (toT _ r)))) else none
theorem Qcz {C:VC} (hC:VCOk P C) (T:List (LpE P)) {f:Nat} (fn:Func) (S RS:List Sp) (s:List Nat) (a:Nat) (F:(R:Type)->FT S a (Qab (lts RS) s) R)
  (h:∀ (α:Type) (K:List Lf->Option α) (v:HL (lts S)),Qd6 C T (nR C.tt RS fn.results.toList) fn (bdS S (toL _ v)).1 (bdS S (toL _ v)).2 (kW RS K)=apF (F α) (toL _ v) (crL _ fun as=>K (Q9i (toL _ v) [] s as)))
  (hfn : ∀ v : HL (lts S), C0 S (toL _ v) = true) (hl : Nat.beq s.length (lts RS).length = true) (hs : Av S RS (Q1K (Kg RS)) = true) (hf : P.funcs[f]? = some fn) (hb : fn.body.isSome = true) (hn : (fn.name == "runtime.NumGoroutine") = false)
  (hT:Nj T (WH (VG fn))=T.map fun e=>(e.r,e.c)) (hn2:X3 (T.map (·.r))=true):Ve P f (Qhz S RS s (pF (F _))):=by
 intro R site g avs hl' k r h0;obtain ⟨ls,ρ,h1,hk,hc⟩:=Q1j S avs [] _ r h0;rw [List.nil_append] at h1;obtain ⟨hnew,h1⟩:=XB h1;obtain ⟨res,h1,hres⟩:=QM h1;obtain ⟨h1,hlen⟩:=H9 h1;refine ⟨_,h1,fun hg=>?_⟩;obtain ⟨v,hv,rfl⟩:=NI _ _ _ _ (hres hg);rw [pF,Q8b] at hv;let M (q:List Lf):=Q9i (toL _ v) [] s q;let K:List Lf->Option (HT (Qab (lts RS) s)):=fun full=>open Classical in match ofT _ (Q7X s full) with
  |some r=>if full=M (toT _ r) then some r else none
  |none=>none
 have hK:∀ r,K (M (toT _ r))=some r:=fun r=>by
  simp only [K,M,Q1e _ _ (lts RS) s _ (QiR hl) (Q7n _ r),Q7W,if_true]
 refine Cg hs hk hnew (hc hg (hfn v)) hf hb hn (fun av H' hx=>?_) (hlen hg) (ED hC (fun _ _ _ _=>TN _) hf hT hn2 ((h _ K v).trans (by rw [Qbj _ (fun as=>K (M as)) _ hK];exact hv)));unfold kW at hx;split at hx
 ·rename_i ls hls;rw [hls];simp only [K] at hx;split at hx
  ·split at hx
   ·rename_i r' _ he;injection hx with hx
    subst hx;rw [he]
   ·cases hx
  ·cases hx
 ·cases hx
noncomputable def mkW {C:VC} (hC:VCOk P C) (T:List (LpE P)) (f:Nat) (fn:Func) (S rs:List Sp) (o:List (Nat × Sp)) (a q:Nat) {τ:Type->Type} (F:(R:Type)->Nat->τ R) (n:Nat)
  (hτ:∀ R,τ R=FT S a (Qab (lts (Rc rs S o)) (QeF (kyS S []) (kyS (Rc rs S o) []) q)) R:=by intro R;kernel_rfl)
  (h:∀ (α:Type) (K:List Lf->Option α) (v:HL (lts S)),Qd6 C T (nR C.tt (Rc rs S o) fn.results.toList) fn (bdS S (toL _ v)).1 (bdS S (toL _ v)).2 (kW (Rc rs S o) K)=apF (S:=S) (a:=a) (rs:=Qab (lts (Rc rs S o)) (QeF (kyS S []) (kyS (Rc rs S o) []) q)) (cast (hτ α) (F α n)) (toL _ v) (crL _ fun as=>K (Q9i (toL _ v) [] (QeF (kyS S []) (kyS (Rc rs S o) []) q) as)):=by intro α K v;kernel_rfl)
  (hfn : ∀ v : HL (lts S), C0 S (toL _ v) = true := by intro v; kernel_rfl) (hl : Nat.beq (QeF (kyS S []) (kyS (Rc rs S o) []) q).length (lts (Rc rs S o)).length = true := by kernel_rfl) (hs : Av S (Rc rs S o) (Q1K (Kg (Rc rs S o))) = true := by kernel_rfl) (hf : P.funcs[f]? = some fn := by kernel_rfl) (hb : fn.body.isSome = true := by kernel_rfl) (hn : (fn.name == "runtime.NumGoroutine") = false := by kernel_rfl)
  (hT:Nj T (WH (VG fn))=T.map fun e=>(e.r,e.c):=by kernel_rfl) (hn2:X3 (T.map (·.r))=true:=by kernel_rfl):EnP P f:=
 ⟨_,Qcz hC T fn S (Rc rs S o) _ a (fun R=>cast (hτ R) (F R n)) h hfn hl hs hf hb hn hT hn2⟩
noncomputable def mkF {C:VC} (hC:VCOk P C) (T:List (LpE P)) (f:Nat) (fn:Func) (S RS:List Sp) (a:Nat) {τ:Type->Type} (F:(R:Type)->Nat->τ R) (n:Nat) (hτ:∀ R,τ R=FT S a (lts RS) R:=by intro R;kernel_rfl)
  (h : ∀ v, vfnT C T fn (bdS S (toL _ v)).1 [] (retF (ssR RS) (kE RS)) = apH _ (pF (cast (hτ _) (F _ n))) v := by intro v; kernel_rfl) (hd : Sw S = true := by kernel_rfl) (hf : P.funcs[f]? = some fn := by kernel_rfl) (hb : fn.body.isSome = true := by kernel_rfl) (hn : (fn.name == "runtime.NumGoroutine") = false := by kernel_rfl)
  (hT:Nj T (WH (VG fn))=T.map fun e=>(e.r,e.c):=by kernel_rfl) (hn2:X3 (T.map (·.r))=true:=by kernel_rfl):EnP P f:=
 ⟨_,QcQ hC T fn (ssR RS) S RS (pF (cast (hτ _) (F _ n))) h hd hf hb hn hT hn2⟩
def mkD {C:VC} (hC:VCOk P C) (T:List (LpE P)) (f:Nat) (fn:Func) (a:Nat) {τ:Type->Type} (F:(R:Type)->Nat->τ R) (n:Nat) (hτ:∀ R,τ R=FT (sOf C.tt fn) a (lts (rOf C.tt fn)) R:=by intro R;kernel_rfl)
  (h : ∀ v, vfnT C T fn (bdS (sOf C.tt fn) (toL _ v)).1 [] (retF (ssR (rOf C.tt fn)) (kE (rOf C.tt fn))) = apH _ (pF (cast (hτ _) (F _ n))) v := by intro v; kernel_rfl) (hd : Sw (sOf C.tt fn) = true := by kernel_rfl) (hf : P.funcs[f]? = some fn := by kernel_rfl) (hb : fn.body.isSome = true := by kernel_rfl) (hn : (fn.name == "runtime.NumGoroutine") = false := by kernel_rfl)
  (hT:Nj T (WH (VG fn))=T.map fun e=>(e.r,e.c):=by kernel_rfl) (hn2:X3 (T.map (·.r))=true:=by kernel_rfl):EnP P f:=mkF hC T f fn (sOf C.tt fn) (rOf C.tt fn) a F n hτ h hd hf hb hn hT hn2
def FX (S:List Sp) (a:Nat) (ra rb:List LT) (R:Type):Type:=LF (drT (lts S) a) (LF ra (Option R)->LF rb (Option R)->Option R)
def pX {S:List Sp} {a:Nat} {ra rb:List LT} (F:FX S a ra rb (HT ra ⊕ HT rb)):LF (lts S) (Option (HT ra ⊕ HT rb)):=crL (lts S) fun ls=>match apO _ F (drL ls a) with
 |some p=>p (crT ra fun x=>some (.inl x)) (crT rb fun x=>some (.inr x))
 |none=>none
def kX (RA RB:List Sp):AV->List (Nat × Ob)->Option (HT (lts RA) ⊕ HT (lts RB)):=fun av H=>match kG RA av H with
 |some a=>some (.inl a)
 |none=>match kG RB av H with
  |some b=>some (.inr b)
  |none=>none
theorem Q4C {RS:List Sp} {av:AV} {H:List (Nat × Ob)} {r:HT (lts RS)} (h:kG RS av H=some r):rdR (look H) RS [av]=some (toT _ r):=by
 grind [kG,Q0J]
def nX (tt:TT) (RA RB:List Sp) (rs:List ResultVar) (st:St):St:=bif match Q1a tt (nR tt RB rs st) rs with
  |some av=>(rdR (look (nR tt RB rs st).h) RB [av]).isSome
  |none=>false
 then nR tt RB rs st else nR tt RA rs st
def QhM (S RA RB:List Sp) (f:LF (lts S) (Option (HT (lts RA) ⊕ HT (lts RB)))):TK:=fun _ aj g ak hl k=>
 rdP g hl S ak [] fun ls ρ=>bif Rg hl ρ (nus aj 1 (Q1K (Kg RA)))&&Rg hl ρ (nus aj 1 (Q1K (Kg RB))) then gb g (apL (lts S) f ls) (.inl (zT _)) fun r=>
  smX r (fun a=>QaG g (bdS S ls).2 (bdS RA (toT _ a)).2 (k (dlF RA (ρ++nus aj 1 (Q1K (Kg RA))) ρ (toT _ a)))) (fun b=>QaG g (bdS S ls).2 (bdS RB (toT _ b)).2 (k (dlF RB (ρ++nus aj 1 (Q1K (Kg RB))) ρ (toT _ b)))) else none
theorem Qc5 {C:VC} (hC:VCOk P C) (T:List (LpE P)) {f:Nat} (fn:Func) (S RA RB:List Sp) (p:LF (lts S) (Option (HT (lts RA) ⊕ HT (lts RB))))
  (h:∀ v,Qd6 C T (nX C.tt RA RB fn.results.toList) fn (bdS S (toL _ v)).1 (bdS S (toL _ v)).2 (kX RA RB)=apH _ p v)
  (hfn : ∀ v : HL (lts S), C0 S (toL _ v) = true) (hs : (Av S RA (Q1K (Kg RA)) && Av S RB (Q1K (Kg RB))) = true) (hf : P.funcs[f]? = some fn) (hb : fn.body.isSome = true) (hn : (fn.name == "runtime.NumGoroutine") = false)
  (hT:Nj T (WH (VG fn))=T.map fun e=>(e.r,e.c)) (hn2:X3 (T.map (·.r))=true):Ve P f (QhM S RA RB p):=by
 intro R site g avs hl' k r h0;obtain ⟨ls,ρ,h1,hk,hc⟩:=Q1j S avs [] _ r h0;rw [List.nil_append] at h1;obtain ⟨hnew,h1⟩:=XB h1;simp only [Bool.and_eq_true] at hnew hs;obtain ⟨res,h1,hres⟩:=QM h1;have hN:∀ (E:Env) (st:St) (a:Act) (w:World),Hc E st a w->Hc E (nX C.tt RA RB fn.results.toList st) a w:=fun E st a w hR=>by
  grind [nX,Q1a,nR,rdR,look,TN]
 have key:g=true->∃ v,ls=toL (lts S) v/\∀ (β:Nat->Option Nat) (S':Nat->Prop) (w:World) (vs:List Value),Objs β S' (look (bdS S (toL _ v)).2) w->ArgsRd β S' (look (bdS S (toL _ v)).2) w vs (bdS S (toL _ v)).1->Calls P f vs.toArray w (Rj (bdS S (toL _ v)).2 (kX RA RB) res β S' w):=fun hg=>by
  obtain ⟨v,hv,rfl⟩:=NI _ _ _ _ (hres hg);exact ⟨v,rfl,ED hC hN hf hT hn2 ((h v).trans hv)⟩
 cases res with
 |inl a=>
  obtain ⟨h1,hlen⟩:=H9 h1;refine ⟨_,h1,fun hg=>?_⟩;obtain ⟨v,rfl,hcall⟩:=key hg;refine Cg hs.1 hk hnew.1 (hc hg (hfn v)) hf hb hn (fun av H' hx=>?_) (hlen hg) hcall;unfold kX at hx;split at hx
  ·rename_i a' ha;injection hx with hx
   injection hx with hx
   subst hx;exact Q4C ha
  ·split at hx <;> cases hx
 |inr b=>
  obtain ⟨h1,hlen⟩:=H9 h1;refine ⟨_,h1,fun hg=>?_⟩;obtain ⟨v,rfl,hcall⟩:=key hg;refine Cg hs.2 hk hnew.2 (hc hg (hfn v)) hf hb hn (fun av H' hx=>?_) (hlen hg) hcall;unfold kX at hx;split at hx
  ·cases hx
  ·split at hx
   ·rename_i b' hb';injection hx with hx
    injection hx with hx
    subst hx;exact Q4C hb'
   ·cases hx
noncomputable def mkX {C:VC} (hC:VCOk P C) (T:List (LpE P)) (f:Nat) (fn:Func) (S RA RB:List Sp) (a:Nat) {τ:Type->Type} (F:(R:Type)->Nat->τ R) (n:Nat) (hτ:∀ R,τ R=FX S a (lts RA) (lts RB) R:=by intro R;kernel_rfl)
  (h:∀ v,Qd6 C T (nX C.tt RA RB fn.results.toList) fn (bdS S (toL _ v)).1 (bdS S (toL _ v)).2 (kX RA RB)=apH _ (pX (cast (hτ _) (F _ n))) v:=by intro v;kernel_rfl)
  (hfn : ∀ v : HL (lts S), C0 S (toL _ v) = true := by intro v; kernel_rfl) (hs : (Av S RA (Q1K (Kg RA)) && Av S RB (Q1K (Kg RB))) = true := by kernel_rfl) (hf : P.funcs[f]? = some fn := by kernel_rfl) (hb : fn.body.isSome = true := by kernel_rfl) (hn : (fn.name == "runtime.NumGoroutine") = false := by kernel_rfl)
  (hT:Nj T (WH (VG fn))=T.map fun e=>(e.r,e.c):=by kernel_rfl) (hn2:X3 (T.map (·.r))=true:=by kernel_rfl):EnP P f:=
 ⟨_,Qc5 hC T fn S RA RB (pX (cast (hτ _) (F _ n))) h hfn hs hf hb hn hT hn2⟩
end
end Go.Vx
namespace Go.Vx
section
variable {P:Program}
def Qec (S RS:List Sp) (p:LF (lts S) (Option (HT (lts RS)))):TK:=fun _ aj g ak hl k=>
 rdP g hl S ak [] fun ls ρ=>bif Rg hl ρ (nus aj 1 (Q1K (Kg RS))) then gb g (apL (lts S) p ls) (zT _) fun r=>QaG g (bdS S ls).2 (bdS RS (toT _ r)).2 (k (dlF RS (ρ++nus aj 1 (Q1K (Kg RS))) ρ (toT _ r))) else none
theorem Q90 {f:Nat} (fn:Func) (S RS:List Sp) (p:LF (lts S) (Option (HT (lts RS))))
  (h:∀ (v:HL (lts S)) (r:HT (lts RS)),apH _ p v=some r->∀ (β:Nat->Option Nat) (S':Nat->Prop) (w:World) (vs:List Value),Objs β S' (look (bdS S (toL _ v)).2) w->ArgsRd β S' (look (bdS S (toL _ v)).2) w vs (bdS S (toL _ v)).1->Calls P f vs.toArray w (Rj (bdS S (toL _ v)).2 (kG RS) r β S' w))
  (hfn : ∀ v : HL (lts S), C0 S (toL _ v) = true) (hs : Av S RS (Q1K (Kg RS)) = true) (hf : P.funcs[f]? = some fn) (hb : fn.body.isSome = true) (hn : (fn.name == "runtime.NumGoroutine") = false) : Ve P f (Qec S RS p) := by
 intro R site g avs hl' k r h0;obtain ⟨ls,ρ,h1,hk,hc⟩:=Q1j S avs [] _ r h0;rw [List.nil_append] at h1;obtain ⟨hnew,h1⟩:=XB h1;obtain ⟨res,h1,hres⟩:=QM h1;obtain ⟨h1,hlen⟩:=H9 h1;refine ⟨_,h1,fun hg=>?_⟩;obtain ⟨v,hv,rfl⟩:=NI _ _ _ _ (hres hg);exact Cg hs hk hnew (hc hg (hfn v)) hf hb hn (fun av H' hx=>Q4C hx) (hlen hg) (h v res hv)
theorem QcR {C:VC} (hC:VCOk P C) (T:List (LpE P)) {f:Nat} (fn:Func) (S RS:List Sp) (p:LF (lts S) (Option (HT (lts RS))))
  (h:∀ v:HL (lts S),Qd6 C T (nR C.tt RS fn.results.toList) fn (bdS S (toL _ v)).1 (bdS S (toL _ v)).2 (kG RS)=apH _ p v)
  (hfn : ∀ v : HL (lts S), C0 S (toL _ v) = true) (hs : Av S RS (Q1K (Kg RS)) = true) (hf : P.funcs[f]? = some fn) (hb : fn.body.isSome = true) (hn : (fn.name == "runtime.NumGoroutine") = false)
  (hT:Nj T (WH (VG fn))=T.map fun e=>(e.r,e.c)) (hn2:X3 (T.map (·.r))=true):Ve P f (Qec S RS p):=
 Q90 fn S RS p (fun v r hv=>ED hC (fun _ _ _ _=>TN _) hf hT hn2 ((h v).trans hv)) hfn hs hf hb hn
end
end Go.Vx
namespace Go.Vx
section
variable {P:Program}
theorem Q4Q {M:Nat->Prop} {w w':World} (h:RowKit.Below w.heap.size w w'):Fr M w w':=⟨h.os,h.tape,h.output,h.size,fun b hb _=>h.block b hb⟩
theorem Q6S {β:Nat->Option Nat} {S:Nat->Prop} {h:Nat->Option Ob} {w:World} {args:List Value} {a:AV} (hA:ArgsRd β S h w args [a]):∃ v,args=[v]/\RdA β S h w tm0 v a:=by
 obtain ⟨h1,h2⟩:=hA
 match args,h1 with
 |[v],_=>exact ⟨v,rfl,h2 0 v a rfl rfl⟩
end
end Go.Vx
