/- Part of a proof. No conditions of their own. -/
import Derived.Test.YtpamppmacgcedaaGreatTB
set_option linter.unusedVariables false
set_option linter.unusedSimpArgs false
noncomputable section

namespace Go.Vx
inductive UI where
 |r (a b:Nat)
 |f (a:Nat)
 |t (x l:Nat)
 |h (b c l:Nat)
def nmT:TA->Option Nat
 |.ptr l _=>some l
 |.arr l=>some l
 |.ap l _=>some l
 |.ac l _ _=>some l
 |.sa l _=>some l
 |_=>none
def nmV:AV->Option Nat
 |.ptr l _=>some l
 |.arr l=>some l
 |.ap l _ _=>some l
 |.sa l _=>some l
 |_=>none
def Qhi:AV->Bool
 |.nil=>true
 |_=>false
def uN (mk:Nat->UI) (a:AV) (u:List UI):Option Nat->List UI
 |some l=>match nmV a with
  |some l'=>.r l' l::u
  |none=>bif Qhi a then mk l::u else u
 |none=>match nmV a with
  |some l'=>.f l'::u
  |none=>u
mutual
def uA (mk:Nat->UI):TA->AV->List UI->List UI
 |.top,_,u=>u
 |.ag l,.ag l',u=>uL mk l l' u
 |.tup l,.tup l',u=>uL mk l l' u
 |.fn _ l,.fn _ l',u=>uL mk l l' u
 |ta,a,u=>uN mk a u (nmT ta)
def uL (mk:Nat->UI):List TA->List AV->List UI->List UI
 |[],_,u=>u
 |ta::r,l,u=>match l with
  |a::s=>uL mk r s (uA mk ta a u)
  |[]=>u
end
def QfV:List UI->Nat->Nat
 |[],l=>l
 |.r a b::u,l=>bif Nat.beq b l then a else QfV u l
 |_::u,l=>QfV u l
def uB (b:Nat):Nat->List TA->List AV->List UI->List UI
 |_,[],_,u=>u
 |c,ta::r,l,u=>match l with
  |a::s=>uB b (c+1) r s (uA (.h b c) ta a u)
  |[]=>u
def uM (tm:List (Nat × AV)):List (Nat × TA)->List UI->List UI
 |[],u=>u
 |(t,a)::r,u=>uM tm r (uA (.t t) a (lkT tm t) u)
def uH (h:List (Nat × Ob)):List (Nat × TO)->List UI->List UI
 |[],u=>u
 |(l,.box cs)::r,u=>match look h (QfV u l) with
  |some (.box ac)=>uH h r (uB l 0 cs ac u)
  |_=>uH h r u
 |_::r,u=>uH h r u
def esT:TO->Nat × Nat
 |.arr e s=>(e,s)
 |.arc e s=>(e,s)
 |_=>(0,0)
def es1 (Z:List (Nat × TO)) (l:Nat):Nat × Nat:=match look Z l with
 |some o=>esT o
 |none=>(0,0)
def mtU (Z:Nat->Nat × Nat):List UI->List (Nat × Nat × Nat × Nat)
 |[]=>[]
 |.t x l::u=>(x,l,(Z l).1,(Z l).2)::mtU Z u
 |_::u=>mtU Z u
def mhU (Z:Nat->Nat × Nat):List UI->List (Nat × Nat × Nat × Nat × Nat)
 |[]=>[]
 |.h b c l::u=>(b,c,l,(Z l).1,(Z l).2)::mhU Z u
 |_::u=>mhU Z u
def fzU:List UI->List Nat
 |[]=>[]
 |.f a::u=>a::fzU u
 |_::u=>fzU u
def idN (l:List Nat):List (Nat × Nat):=l.map fun x=>(x,x)
def QhA (ks os:List Nat) (Z:Nat->Nat × Nat) (u:List UI):Cfg:=⟨ks,os.map fun l=>(QfV u l,l),mtU Z u,mhU Z u,fzU u⟩
def nU (Z:TS) (st:St):St:=QcH ⟨Z.tm.map (·.1),idN (Z.h.map (·.1)),[],[],[]⟩ (QcH (QhA (Z.tm.map (·.1)) (Z.h.map (·.1)) (es1 Z.h) (uH st.h Z.h (uM st.tm Z.tm []))) st)
section
variable {P:Program} {E:Env}
theorem QbF (Z:TS) {st:St} {a:Act} {w:World} (h:HK E st a w):HK E (nU Z st) a w:=SV _ (SV _ h)
end
structure XT where
 k:Exit
 Z:TS
 s:List Nat
def QhM:Exit->Exit->Bool
 |.exit a,.exit b=>Nat.beq a b
 |.ret,.ret=>true
 |_,_=>false
def exN:List XT->Exit->St->St
 |[],_,st=>st
 |x::r,e,st=>bif QhM x.k e&&(rdS x.Z (nU x.Z st)).isSome then nU x.Z st else exN r e st
theorem Q5L {E:Env}:∀ (X:List XT) (e:Exit) {st:St} {a:Act} {w:World},HK E st a w->HK E (exN X e st) a w
 |[],_,_,_,_,h=>h
 |x::r,e,st,a,w,h=>by
  unfold exN;cases QhM x.k e&&(rdS x.Z (nU x.Z st)).isSome with
  |true=>exact QbF _ h
  |false=>exact Q5L r e h
def ltD:TA->List LT->List LT
 |.i _,r=>.I::r
 |.b,r=>.B::r
 |.t,r=>.T::r
 |.l _,r=>.L::r
 |.x,r=>.D::r
 |.el _,r=>.R::r
 |.ap _ _,r=>.N::r
 |.fs _,r=>.L::r
 |.mpd,r=>.M::r
 |_,r=>r
mutual
def ltA:TA->List LT->List LT
 |.ag l,r=>ltL l r
 |.tup l,r=>ltL l r
 |.fn _ l,r=>ltL l r
 |.gd _ _ a,r=>ltA a r
 |a,r=>ltD a r
def ltL:List TA->List LT->List LT
 |[],r=>r
 |a::l,r=>ltA a (ltL l r)
end
def ltO:TO->List LT->List LT
 |.box l,r=>ltL l r
 |.arr _ _,r=>.L::r
 |.mp _,r=>.P::r
 |_,r=>r
def ltM:List (Nat × TA)->List LT->List LT
 |[],r=>r
 |(_,a)::l,r=>ltA a (ltM l r)
def ltH:List (Nat × TO)->List LT
 |[]=>[]
 |(_,o)::l=>ltO o (ltH l)
def ltS (Z:TS):List LT:=ltM Z.tm (ltH Z.h)
def QfP (d:Nat):List LT->Nat->List LT
 |[],_=>[]
 |t::ts,k=>bif Nat.beq (k % 3) d then t::QfP d ts (k / 3) else QfP d ts (k / 3)
def QfM {α:Type} (d:Nat):List α->Nat->List α
 |[],_=>[]
 |x::xs,k=>bif Nat.beq (k % 3) d then x::QfM d xs (k / 3) else QfM d xs (k / 3)
def QaP:List LT->List Nat->List LT
 |t::ts,s=>match s with
  |0::r=>t::QaP ts r
  |_::r=>QaP ts r
  |[]=>[]
 |[],_=>[]
def Qag (hs as:List Lf):List Nat->List Lf->List Lf
 |[],_=>[]
 |0::r,q=>match q with
  |x::q=>x::Qag hs as r q
  |[]=>[]
 |(j+1)::r,q=>bif Nat.ble 999 j then as.getD (j-999) (.N 0)::Qag hs as r q else hs.getD j (.N 0)::Qag hs as r q
def crL {β:Type}:(ts:List LT)->(List Lf->β)->LF ts β
 |[],f=>f []
 |t::ts,f=>fun x=>crL ts fun l=>f (Qae t x::l)
def apO {α:Type}:(ts:List LT)->LF ts α->List Lf->Option α
 |[],f,l=>match l with
  |[]=>some f
  |_::_=>none
 |t::ts,f,l=>match l with
  |[]=>none
  |x::r=>match Q84 t x with
   |some v=>apO ts (f v) r
   |none=>none
def kT (R:Type):List XT->Type->Type
 |[],α=>α
 |x::r,α=>LF (QaP (ltS x.Z) x.s) (Option R)->kT R r α
def apK {R α:Type} (hs:List Lf) (k:Exit->St->Option R):(X:List XT)->kT R X α->α
 |[],f=>f
 |x::r,f=>apK hs k r (f (crL _ fun as=>k x.k (fiS x.Z (Qag hs as x.s as))))
def PT (ts:List LT) (q:Nat) (X:List XT) (R:Type):Type:=LF (QfP 1 ts q) (kT R X (Nat->LF (QfP 2 ts q) (Option R)))
def runP {ts:List LT} {q:Nat} {X:List XT} {R:Type} (f:PT ts q X R) (m:Nat) (k:Exit->St->Option R) (ls:List Lf):Option R:=
 match apO _ f (QfM 1 ls q) with
 |some g=>match apO _ (apK ls k X g m) (QfM 2 ls q) with
  |some r=>r
  |none=>none
 |none=>none
inductive XD where
 |e (id:Nat) (add:List (Nat × TA)) (drop:List Nat) (o:List (Nat × TO)) (ov:List (Nat × Nat))
 |f (k:Exit) (tm:List (Nat × TA)) (h:List (Nat × TO)) (s:List Nat)
def Qhu (t:Nat) (a:TA):List (Nat × TA)->List (Nat × TA)
 |[]=>[(t,a)]
 |(k,d)::r=>bif Nat.beq k t then (t,a)::r else bif Nat.ble k t then (k,d)::Qhu t a r else (t,a)::(k,d)::r
def Qdg:List (Nat × TA)->List (Nat × TA)->List (Nat × TA)
 |[],z=>z
 |(t,a)::r,z=>Qdg r (Qhu t a z)
def Qcz:List Nat->List (Nat × TA)->List (Nat × TA)
 |[],z=>z
 |t::r,z=>Qcz r (rem t z)
def Qh3 (h:List (Nat × TO)):List (Nat × TO)->List (Nat × TO)
 |[]=>h
 |(l,o)::r=>Qh3 (go l o h) r
where go (l:Nat) (o:TO):List (Nat × TO)->List (Nat × TO)
 |[]=>[(l,o)]
 |(k,b)::r=>bif Nat.beq k l then (l,o)::r else (k,b)::go l o r
def QgE (b:Nat):Nat->Nat->List Nat->List Nat
 |_,0,r=>r
 |i,n+1,r=>(b+i)::QgE b (i+1) n r
def Qgd:List (Nat × TA)->List Nat->List Nat
 |[],r=>r
 |(t,a)::l,r=>QgE (2000*t) 0 (ltA a []).length (Qgd l r)
def Qhk:List (Nat × TO)->List Nat
 |[]=>[]
 |(l,o)::r=>QgE (2000*l+1000) 0 (ltO o []).length (Qhk r)
def Qhr (x:Nat):Nat->List Nat->Nat->Nat
 |_,[],_=>0
 |j,k::r,q=>bif Nat.beq k x then bif Nat.beq (q % 3) 2 then 0 else j else Qhr x (j+1) r (q / 3)
def QhL (hk:List Nat) (q:Nat) (ov:List (Nat × Nat)):Nat->List Nat->List Nat
 |_,[]=>[]
 |i,x::r=>(look ov i).getD (Qhr x 1 hk q)::QhL hk q ov (i+1) r
def xT (n:Nat) (tm:List (Nat × TA)) (h:List (Nat × TO)) (q:Nat):XD->XT
 |.f k tm' h' s=>⟨k,⟨n,tm',h'⟩,s⟩
 |.e id aj ac o ov=>⟨.exit id,⟨n,Qdg aj (Qcz ac tm),Qh3 h o⟩,QhL (Qgd tm (Qhk h)) q ov 0 (Qgd (Qdg aj (Qcz ac tm)) (Qhk (Qh3 h o)))⟩
abbrev xE (id:Nat) (ac:List (Nat × TA)):XD:=.e id ac [] [] []
def lpU {R:Type} (X:List XT) (F:L4) (k:Exit->St->Option R):Exit->St->Option R:=fun e st=>match e with
 |.normal=>F R st k
 |.exit id=>k (.exit id) (exN X (.exit id) st)
 |.ret=>k .ret (exN X .ret st)
 |_=>none
theorem Q0B {P:Program} {c:Code} (X:List XT) (F:Nat->L4) (h0:∀ (R:Type) st (k:Exit->St->Option R),F 0 R st k=none)
  (hs:∀ (m:Nat) (E:Env) (R:Type) st (k:Exit->St->Option R) r,F (m+1) R st k=some r->∀ a w,HK E st a w->c.wp P (Q0k E (lpU X (F m) k) r) a w) :
  ∀ (m:Nat) (E:Env) (R:Type) (st:St) (k:Exit->St->Option R) (r:R),F m R st k=some r->∀ a w,HK E st a w->Code.rounds P c (Q0k E k r) m a w
 |0,E,R,st,k,r,h=>by rw [h0] at h;cases h
 |m+1,E,R,st,k,r,h=>by
  intro a w hR;rw [rounds_succ];refine wp_mono (hs m E R st k r h a w hR) fun e a' w' ⟨st',ac,hk⟩=>?_
  cases e with
  |normal=>exact Q0B X F h0 hs m E R st' k r hk a' w' ac
  |exit id=>exact ⟨_,Q5L X _ ac,hk⟩
  |ret=>exact ⟨_,Q5L X _ ac,hk⟩
  |_=>cases hk
def Qad (r:Nat):Code->Option Code
 |.seq a b=>match Qad r a with
  |some c=>some c
  |none=>Qad r b
 |.cond _ a b=>match Qad r a with
  |some c=>some c
  |none=>Qad r b
 |.block _ c=>Qad r c
 |.loop c=>bif Nat.beq (Q8v c) r then some c else Qad r c
 |_=>none
def LpU (Z:TS) (f:(R:Type)->(Exit->St->Option R)->List Lf->Option R):L4:=fun R st k=>
 match rdS Z (nU Z st) with
 |some ls=>f R k ls
 |none=>none
theorem QeY:∀ (ts:List LT) {α:Type} (f:LF ts α) (l:List Lf) (r:α),apO ts f l=some r->∃ v:HL ts,l=toL ts v
 |[],α,f,l,r,h=>by
  cases l with
  |nil=>exact ⟨(),rfl⟩
  |cons x l=>cases h
 |t::ts,α,f,l,r,h=>by
  cases l with
  |nil=>cases h
  |cons x l=>
   replace h:(match Q84 t x with | some v=>apO ts (f v) l | none=>none)=some r:=h
   split at h
   ·rename_i v hv;obtain ⟨u,h2⟩:=QeY ts (f v) l r h;exact ⟨(v,u),by rw [Ny hv,h2];rfl⟩
   ·cases h
def QfO:List LT->List Lf->Bool
 |[],l=>match l with
  |[]=>true
  |_::_=>false
 |t::ts,l=>match l with
  |[]=>false
  |x::r=>(Q84 t x).isSome&&QfO ts r
theorem Q1l:∀ {ts:List LT} {l:List Lf},QfO ts l=true->∃ v:HL ts,l=toL ts v
 |[],[],_=>⟨(),rfl⟩
 |[],_::_,h=>by cases h
 |_::_,[],h=>by cases h
 |t::ts,x::l,h=>by
  simp only [QfO,Bool.and_eq_true] at h;obtain ⟨v,hv⟩:=Option.isSome_iff_exists.1 h.1;obtain ⟨u,hu⟩:=Q1l h.2;exact ⟨(v,u),by rw [Ny hv,hu];rfl⟩
def QfR (ts:List LT) {R:Type} (f:List Lf->Option R) (ls:List Lf):Option R:=bif QfO ts ls then f ls else none
def mkU {P:Program} {C:VC} (hC:VCOk P C) (T:List (LpE P)) (r:Nat) (fn:Func) (tm:List (Nat × TA)) (h:List (Nat × TO)) (q:Nat) (X:List XD) {τ:Type->Type} (f:(R:Type)->Nat->τ R) (n m:Nat)
  (hτ:∀ R,τ R=PT (ltM tm (ltH h)) q (X.map (xT fn.ntmps tm h q)) R:=by intro R;kernel_rfl)
  (hr:(Qad r (Jc fn)).isSome=true:=by kernel_rfl) (hT:MU T (Ur ((Qad r (Jc fn)).getD .skip))=T.map fun e=>(e.r,e.c):=by kernel_rfl) (hn:Xj (T.map (·.r))=true:=by rfl)
  (h0:∀ (R:Type) (k:Exit->St->Option R) (v:HL (ltM tm (ltH h))),runP (cast (hτ R) (f R n)) 0 k (toL _ v)=none:=by intro R k v;kernel_rfl)
  (hs:∀ (m:Nat) (R:Type) (k:Exit->St->Option R) (v:HL (ltM tm (ltH h))),runP (cast (hτ R) (f R n)) (m+1) k (toL _ v)=Q7B C T ((Qad r (Jc fn)).getD .skip) (fiS ⟨fn.ntmps,tm,h⟩ (toL _ v)) (lpU (X.map (xT fn.ntmps tm h q)) (LpU ⟨fn.ntmps,tm,h⟩ fun R k=>QfR (ltM tm (ltH h)) (runP (cast (hτ R) (f R n)) m k)) k):=by intro m R k v;kernel_rfl):LpE P where
 r:=r
 c:=(Qad r (Jc fn)).getD .skip
 L:=LpU ⟨fn.ntmps,tm,h⟩ fun R k=>QfR (ltM tm (ltH h)) (runP (cast (hτ R) (f R n)) m k)
 t:=fun st=>(rdS ⟨fn.ntmps,tm,h⟩ (nU ⟨fn.ntmps,tm,h⟩ st)).isSome
 ok:=by
  have hT:=CY hn hT;intro E R st k x h' a w hR;refine wp_loop_rounds m (Q0B (X.map (xT fn.ntmps tm h q)) (fun m=>LpU ⟨fn.ntmps,tm,h⟩ fun R k=>QfR (ltM tm (ltH h)) (runP (cast (hτ R) (f R n)) m k)) (fun R st k=>?_) (fun m E R st k x h' a w hR=>?_) m E R st k x h' a w hR)
  ·cases hx:LpU ⟨fn.ntmps,tm,h⟩ (fun R k=>QfR (ltM tm (ltH h)) (runP (cast (hτ R) (f R n)) 0 k)) R st k with
   |none=>rfl
   |some x=>
    unfold LpU at hx;split at hx
    ·obtain ⟨hb,hx⟩:=Qz hx;obtain ⟨v,rfl⟩:=Q1l hb;rw [h0] at hx;cases hx
    ·cases hx
  ·unfold LpU at h';split at h'
   ·rename_i ls al;obtain ⟨hb,h'⟩:=Qz h';obtain ⟨v,rfl⟩:=Q1l hb;rw [hs,Q6P al] at h';exact Mx hC _ hT _ _ x h' a w (QbF _ hR)
   ·cases h'
structure VB (P:Program) where
 C:VC
 ok:VCOk P C
def QeU {P:Program} (l:List ((f:Nat) × EnP P f)):List (Nat × Kf):=l.map fun e=>(e.1,e.2.E)
theorem Q6S {P:Program}:∀ l:List ((f:Nat) × EnP P f),Q6r P (QeU l)
 |[]=>trivial
 |e::r=>⟨e.2.ok,Q6S r⟩
def Qih {P:Program} {f:Nat} (l:List Nat) (a b:EnP P f):EnP P f:=⟨Qhb l a.E b.E,Qcn _ a.ok b.ok⟩
def uR (h:List (Nat × Ob)):List Sp->List (AV × (Nat->Nat->UI))->List UI->List UI
 |[],_,u=>u
 |.tup _::r,st,u=>uR h r st u
 |.gone _::r,st,u=>uR h r st u
 |.pinm _ _::r,st,u=>uR h r st u
 |.pin p _::r,st,u=>match look h p with
  |some (.box cs)=>uR h r (plC (.h p) 0 cs++st) u
  |_=>u
 |.ptr p _::r,st,u=>match st with
  |(.ptr l _,_)::st=>match look h l with
   |some (.box cs)=>uR h r (plC (.h p) 0 cs++st) (.r l p::u)
   |_=>u
  |_=>u
 |.ag _::r,st,u=>match st with
  |(.ag l,_)::st=>uR h r st (l.foldl (fun u a=>uN (fun _=>.f 0) a u none) u)
  |_::st=>uR h r st u
  |_=>u
 |.agn _::r,st,u=>match st with
  |(.ag l,q)::st=>uR h r (plC q 0 l++st) u
  |_=>u
 |.fn _ _::r,st,u=>match st with
  |(.fn _ l,q)::st=>uR h r (plC q 0 l++st) u
  |_=>u
 |.arr p _ _::r,st,u=>match st with
  |(a,q)::st=>uR h r st (uN (q 0) a u (some p))
  |_=>u
 |.mp p _::r,st,u=>match st with
  |(a,q)::st=>uR h r st (uN (q 0) a u (some p))
  |_=>u
 |.d _::r,st,u=>match st with
  |(a,q)::st=>uR h r st (uN (q 0) a u none)
  |_=>u
 |_::r,st,u=>uR h r st.tail u
where
 plC (q:Nat->Nat->UI):Nat->List AV->List (AV × (Nat->Nat->UI))
  |_,[]=>[]
  |i,a::l=>(a,fun j=>q (i+j))::plC q (i+1) l
def esR:List Sp->Nat->Nat × Nat
 |[],_=>(0,0)
 |.arr p e s::r,l=>bif Nat.beq p l then (e,s) else esR r l
 |_::r,l=>esR r l
def osR:List (Nat × OK)->List Nat
 |[]=>[]
 |(_,.gone)::r=>osR r
 |(p,_)::r=>p::osR r
def rsT:List ResultVar->List Nat
 |[]=>[]
 |.tmp t::r=>t::rsT r
 |.cell a _::r=>a::rsT r
def rsO (st:St):List ResultVar->List Nat
 |[]=>[]
 |.tmp _::r=>rsO st r
 |.cell a _::r=>match lkT st.tm a with
  |.ptr l _=>l::rsO st r
  |_=>rsO st r
def rsV (tt:TT) (st:St):List ResultVar->List (AV × (Nat->Nat->UI))
 |[]=>[]
 |.tmp t::r=>(lkT st.tm t,fun _=>.t t)::rsV tt st r
 |.cell a ty::r=>match Q41 tt st (.cell a ty),lkT st.tm a with
  |some v,.ptr l off=>(v,fun i=>.h l (off+i))::rsV tt st r
  |_,_=>rsV tt st r
def nR (tt:TT) (RS:List Sp) (rs:List ResultVar) (st:St):St:=
 QcH (QhA (rsT rs) (rsO st rs++osR (T7 RS)) (esR RS) (uR st.h RS (rsV tt st rs) [])) st
def QdI {R:Type} {P:Program} (C:VC) (T:List (LpE P)) (N:St->St) (fn:Func) (args:List AV) (h:List (Nat × Ob)) (k:AV->List (Nat × Ob)->Option R):Option R:=
 bif fn.body.isSome&&(Nat.ble args.length fn.ntmps&&HF args) then Q7B C T (Jc fn) { n:=fn.ntmps,tm:=Q3G 0 args,h:=h } (fun e st=>fnK C.tt fn k e (N st)) else none
section
variable {P:Program} {R:Type}
theorem Q17 {C:VC} (hC:VCOk P C) {T:List (LpE P)} {f:Nat} {fn:Func} {N:St->St} (hN:∀ (E:Env) (st:St) (a:Act) (w:World),HK E st a w->HK E (N st) a w) (hf:P.funcs[f]? = some fn)
  (hT:MU T (Ur (Jc fn))=T.map fun e=>(e.r,e.c)) (hn:Xj (T.map (·.r))=true) {args:List AV} {H:List (Nat × Ob)} {k:AV->List (Nat × Ob)->Option R} {r:R} (h:QdI C T N fn args H k=some r)
  (β:Nat->Option Nat) (S:Nat->Prop) (w:World) (vs:List Value) (hO:Objs β S (look H) w) (hA:ArgsRd β S (look H) w vs args):Calls P f vs.toArray w (M5 H k r β S w):=by
 unfold QdI at h;obtain ⟨hb,h⟩:=Qz h;simp only [Bool.and_eq_true] at hb;obtain ⟨c,hc⟩:=Option.isSome_iff_exists.1 hb.1;have ac:Jc fn=c:=by simp [Jc,hc]
 rw [ac] at h hT;exact Q1u hC hf hc (by simp only [Bool.and_eq_true];exact hb.2) (fun a hR=>wp_mono (Mx hC c (CY hn hT) _ _ r h a w ⟨β,S,hR⟩) fun e a w ⟨st,hR,hk⟩=>⟨_,hN _ _ _ _ hR,hk⟩) hO hA
def dkD:D->DK
 |.int k _=>.i k
 |.bool _=>.b
 |.str _=>.t
 |.sl s _=>.l s
def taD:D->TA
 |.int k _=>.i k
 |.bool _=>.b
 |.str _=>.t
 |.sl s _=>.l s
def zdT (tt:TT) (t:Nat):List D:=match look tt t with
 |some ti=>ti.zd
 |none=>[]
def stT (tt:TT) (t:Nat):Sp:=match look tt t with
 |some ti=>bif Vv ti.kd then .ag (ti.zd.map dkD) else match ti.zd with
  |d::_=>.d (dkD d)
  |[]=>.nil
 |none=>.nil
def sOf (tt:TT) (fn:Func):List Sp:=fn.params.toList.map (stT tt)
def rOf (tt:TT) (fn:Func):List Sp:=match fn.resultTypes.toList with
 |[t]=>[stT tt t]
 |l=>.tup l.length::l.map (stT tt)
def ovr {α:Type} (l:List α):List (Nat × α)->List α
 |[]=>l
 |(i,a)::r=>ovr (l.set i a) r
def btT (tt:TT) (t:Nat) (o:List (Nat × TA)):TO:=.box (ovr ((zdT tt t).map taD) o)
def ptT (tt:TT) (p t:Nat) (o:List (Nat × Sp)) (r:List Sp):List Sp:=.ptr p (zdT tt t).length::(ovr ((zdT tt t).map fun d=>.d (dkD d)) o++r)
def ssK:DK->Nat
 |.l s=>s
 |_=>0
def ssR:List Sp->List (List Nat)
 |[]=>[]
 |.d k::r=>[ssK k]::ssR r
 |.ag l::r=>l.map ssK::ssR r
 |_::r=>ssR r
def rsB:List Sp->List (Nat × Nat × Nat)->List (Nat × List Sp)->List (Nat × List Sp)
 |[],_,a=>a
 |s::r,c,a=>match c.dropWhile fun x=>Nat.beq x.2.1 0 with
  |[]=>match s with
   |.ptr p n=>rsB r [(p,n,0)] (a++[(p,[])])
   |_=>rsB r [] a
  |(q,m,i)::c=>match s with
   |.ptr p n=>rsB r ((p,n,0)::(q,m-1,i+1)::c) (add q (.ps p) a++[(p,[])])
   |.arr _ e z=>rsB r ((q,m-1,i+1)::c) (add q (.arr (98000+(q-1000000)*40+i) e z) a)
   |s=>rsB r ((q,m-1,i+1)::c) (add q s a)
where add (q:Nat) (s:Sp):List (Nat × List Sp)->List (Nat × List Sp)
 |[]=>[]
 |(p,l)::r=>bif Nat.beq p q then (p,l++[s])::r else (p,l)::add q s r
def rsM:List Sp->List Sp
 |[]=>[]
 |.mp p t::r=>.pinm p t::rsM r
 |_::r=>rsM r
def rsG:List Sp->List Sp
 |[]=>[]
 |.arr p _ _::r=>.gone p::rsG r
 |_::r=>rsG r
def N4 (rs S:List Sp) (o:List (Nat × Sp)):List Sp:=ovr (rs++((rsB S [] []).flatMap (fun x=>.pin x.1 x.2.length::x.2)++(rsM S++rsG S))) o
def Q5W:List (Nat × OK)->List Nat
 |[]=>[]
 |(_,.gone)::r=>Q5W r
 |(p,_)::r=>bif Nat.ble 1000000 p then Q5W r else p::Q5W r
def ky1 (k:Nat) (c:List (Nat × Nat × Nat)):Sp->List Nat × List (Nat × Nat × Nat)
 |.ptr p n=>([],(p,n,0)::c)
 |.pin p n=>([],[(p,n,0)])
 |.fn _ n=>([],(0,n,0)::c)
 |.agn n=>([],(0,n,0)::c)
 |.ag ks=>(ks.map fun _=>0,c)
 |.d _=>([k],c)
 |.arr _ _ _=>([k],c)
 |.mp _ _=>([k],c)
 |.pinm _ _=>([0],[])
 |.tup _=>([],[])
 |_=>([],c)
def kyT:List (Nat × Nat × Nat)->Nat × List (Nat × Nat × Nat)
 |[]=>(0,[])
 |(q,m,i)::c=>(q*1000+i,(q,m-1,i+1)::c)
def kyS:List Sp->List (Nat × Nat × Nat)->List Nat
 |[],_=>[]
 |s::r,c=>(ky1 (kyT (c.dropWhile fun x=>Nat.beq x.2.1 0)).1 (kyT (c.dropWhile fun x=>Nat.beq x.2.1 0)).2 s).1++kyS r (ky1 (kyT (c.dropWhile fun x=>Nat.beq x.2.1 0)).1 (kyT (c.dropWhile fun x=>Nat.beq x.2.1 0)).2 s).2
def Qhn (x:Nat):Nat->List Nat->Nat
 |_,[]=>0
 |j,k::r=>bif Nat.beq k x then j else Qhn x (j+1) r
def Qfh (ks:List Nat):List Nat->Nat->List Nat
 |[],_=>[]
 |x::r,q=>(bif Nat.beq (q % 2) 1 then Qhn x 1 ks else 0)::Qfh ks r (q / 2)
def dlF (RS:List Sp) (σ ρ:List (Nat × Nat)) (ls:List Lf):Dl:=⟨Uy σ ((bdS RS ls).1.headD .top),HN σ (bdS RS ls).2 σ,ρ.map (·.2)⟩
theorem Q25 {f:Nat} {fn:Func} {S RS:List Sp} {ν:List Nat} (hs:Q46 S RS ν=true) {avs:List AV} {hl:Nat->Option Ob} {ρ:List (Nat × Nat)} {site:Nat} {v:HL (lts S)} (hk:ρ.map (·.1)=(T7 S).map (·.1)) (hnew:Gq hl ρ (nus site 1 ν)=true)
  (hc : ∀ ρF, (∀ p l, (p, l) ∈ [] ++ ρ -> look ρF p = some l) -> SRL ρF avs (bdS S (toL _ v)).1 /\ HinP ρF hl (T7 S) (bdS S (toL _ v)).2 ρ) (hf : P.funcs[f]? = some fn) (hb : fn.body.isSome = true) (hn : (fn.name == "runtime.NumGoroutine") = false)
  {α:Type} {K:AV->List (Nat × Ob)->Option α} {res:α} {full:List Lf} (hK:∀ av H',K av H'=some res->rdR (look H') RS [av]=some full)
  (hcall:∀ (β:Nat->Option Nat) (S':Nat->Prop) (w:World) (vs:List Value),Objs β S' (look (bdS S (toL _ v)).2) w->ArgsRd β S' (look (bdS S (toL _ v)).2) w vs (bdS S (toL _ v)).1->Calls P f vs.toArray w (M5 (bdS S (toL _ v)).2 K res β S' w)) :
  Wn P f avs hl (dlF RS (ρ++nus site 1 ν) ρ full):=by
 simp only [Q46,Bool.and_eq_true,List.all_eq_true,Bool.or_eq_true,Bool.not_eq_true'] at hs;obtain ⟨s1,s2,s3,s4,s5,s6⟩:=hs;have hnd:Xj (ρ.map (·.1))=true:=by rw [hk];exact s2
 obtain ⟨c1,c2⟩:=hc ρ (fun p l hm=>LM hnd (by simpa using hm));have hkeys:=c2.map1;have inS:∀ {j l:Nat},(j,l)∈ρ->∃ κ,(j,κ)∈T7 S:=fun hm=>by
  obtain ⟨κ,_,_,g1,_⟩:=c2.at hnd hm;exact ⟨κ,g1⟩
 have inR:∀ {j l:Nat},(j,l)∈ρ++nus site 1 ν->∃ κ,(j,κ)∈T7 RS:=fun {j l} hm=>by
  rcases List.mem_append.1 hm with hm | hm
  ·obtain ⟨κ,g1⟩:=inS hm;exact F7 (s5 _ g1).1
  ·have:j∈ν:=by rw [<- CU site 1 ν];exact List.mem_map.2 ⟨_,hm,rfl⟩
   exact F7 (s6 _ this).1
 refine Q1e (fn:=fn) (ρ:=ρ) (ν:=nus site 1 ν) (avs':=(bdS S (toL _ v)).1) (H:=(bdS S (toL _ v)).2) (K:=K) (res:=res) hf hb hn c1.cle (by rw [List.map_append,CU,hk];exact s1) hnd hnew (Q89 fun j l hm=>?_) hkeys.1 (by simp only [wrL,dlF];exact Bh _ _ _) hcall (fun av H' hx=>?_)
 ·obtain ⟨κ,o,o0,g1,g2,g3,g4,_⟩:=c2.at hnd hm;exact ⟨Nat.le_of_ble_eq_true (s3 _ g1),o0,o,g3,g2,g4⟩
 ·obtain ⟨i1,i2⟩:=Q6a _ _ _ (hK av H' hx);have hat:∀ j l,(j,l)∈ρ++nus site 1 ν->look (bdS RS full).2 j=look H' j:=fun j l hm=>by
   obtain ⟨κ,g1⟩:=inR hm;exact (i2.at s4 g1).1
  refine ⟨by simp only [dlF];rw [i1];rfl,?_,Q9D fun j l hm=>?_,Q8a fun j l hm=>?_⟩
  ·exact (Ar hat).symm
  ·have hj:j∈ν:=by rw [<- CU site 1 ν];exact List.mem_map.2 ⟨_,hm,rfl⟩
   obtain ⟨κ,g1⟩:=F7 (s6 _ hj).1;rcases (i2.at s4 g1).2 with ⟨rfl,_⟩ | ⟨o,ho,_⟩
   ·rcases (s6 _ hj).2 _ g1 with g | g
    ·simp [Nat.beq_refl] at g
    ·cases g
   ·rw [ho];rfl
  ·obtain ⟨κ,o,o0,g1,g2,g3,g4,g5⟩:=c2.at hnd hm;obtain ⟨κ',g6⟩:=F7 (s5 _ g1).1;have he:QhK κ κ'=true:=by
    rcases (s5 _ g1).2 _ g6 with g | g
    ·simp [Nat.beq_refl] at g
    ·exact g
   rw [g2];rcases (i2.at s4 g6).2 with ⟨rfl,hno⟩ | ⟨o',ho',hk'⟩
   ·cases κ <;> try (cases he;done)
    ·cases o <;> try (exact False.elim g5)
     exact Q7y rfl hno
    ·cases o <;> try (exact False.elim g5)
     exact Q4X rfl hno
   ·cases κ <;> cases κ' <;> try (cases he;done)
    ·cases o <;> try (exact False.elim g5)
     cases o' <;> try (exact False.elim hk')
     have he:=Nat.eq_of_beq_eq_true he;simp only [KOb] at g5 hk';exact Q9K rfl ho' (by omega)
    ·cases o' <;> exact False.elim hk'
    ·cases o <;> try (exact False.elim g5)
     cases o' <;> try (exact False.elim hk')
     have he:=Nat.eq_of_beq_eq_true he;simp only [KOb] at g5 hk';subst g5;subst hk';subst he;exact Q8R rfl ho'
    ·cases o' <;> exact False.elim hk'
def Q8H:List Nat->List Lf->List Lf
 |0::s,x::l=>x::Q8H s l
 |(_+1)::s,_::l=>Q8H s l
 |_,_=>[]
theorem Q29 (hs as:List Lf):∀ (ts:List LT) (s:List Nat) (q:List Lf),s.length=ts.length->q.length=(QaP ts s).length->Q8H s (Qag hs as s q)=q
 |[],[],q,_,h=>by
  cases q with
  |nil=>rfl
  |cons x q=>cases h
 |t::ts,0::s,q,h1,h2=>by
  cases q with
  |nil=>cases h2
  |cons x q=>exact congrArg (x::·) (Q29 hs as ts s q (Nat.succ.inj h1) (Nat.succ.inj h2))
 |t::ts,(j+1)::s,q,h1,h2=>by
  have:=Q29 hs as ts s q (Nat.succ.inj h1) h2;simp only [Qag];cases Nat.ble 999 j <;> simpa [Q8H] using this
theorem Q88:∀ (ts:List LT) (v:HT ts),(toT ts v).length=ts.length
 |[],_=>rfl
 |[t],_=>rfl
 |t::u::ts,v=>congrArg (· + 1) (Q88 (u::ts) v.2)
theorem Q8Q (t:LT) (x:t.ty):Q84 t (Qae t x)=some x:=by cases t <;> rfl
theorem Q8G:∀ (ts:List LT) (v:HT ts),ofT ts (toT ts v)=some v
 |[],_=>rfl
 |[t],v=>Q8Q t v
 |t::u::ts,v=>by
  show (match Q84 t (Qae t v.1),ofT (u::ts) (toT (u::ts) v.2) with | some a,some b=>some (a,b) | _,_=>none)=some v;rw [Q8Q,Q8G (u::ts)];rfl
theorem QbV {β:Type}:∀ (ts:List LT) (G:List Lf->β) (k:HT ts->β),(∀ r,G (toT ts r)=k r)->crL ts G=crT ts k
 |[],G,k,h=>h ()
 |[t],G,k,h=>funext fun x=>h x
 |t::u::ts,G,k,h=>funext fun x=>QbV (u::ts) (fun l=>G (Qae t x::l)) (fun r=>k (x,r)) fun r=>h (x,r)
def drT:List LT->Nat->List LT
 |[],_=>[]
 |t::ts,a=>bif Nat.beq (a % 2) 1 then drT ts (a / 2) else t::drT ts (a / 2)
def drL:List Lf->Nat->List Lf
 |[],_=>[]
 |x::xs,a=>bif Nat.beq (a % 2) 1 then drL xs (a / 2) else x::drL xs (a / 2)
def FT (S:List Sp) (a:Nat) (rs:List LT) (R:Type):Type:=LF (drT (lts S) a) (LF rs (Option R)->Option R)
def apF {S:List Sp} {a:Nat} {rs:List LT} {R:Type} (F:FT S a rs R) (ls:List Lf) (K:LF rs (Option R)):Option R:=match apO _ F (drL ls a) with
 |some p=>p K
 |none=>none
def pF {S:List Sp} {a:Nat} {rs:List LT} (F:FT S a rs (HT rs)):LF (lts S) (Option (HT rs)):=crL (lts S) fun ls=>apF F ls (crT rs some)
theorem Q8X {β:Type}:∀ (ts:List LT) (G:List Lf->β) (v:HL ts),apH ts (crL ts G) v=G (toL ts v)
 |[],_,_=>rfl
 |t::ts,G,v=>Q8X ts (fun l=>G (Qae t v.1::l)) v.2
def kW {α:Type} (RS:List Sp) (K:List Lf->Option α):AV->List (Nat × Ob)->Option α:=fun av H=>match rdR (look H) RS [av] with
 |some ls=>K ls
 |none=>none
def QhZ (S RS:List Sp) (s:List Nat) (f:LF (lts S) (Option (HT (QaP (lts RS) s)))):Kf:=fun _ ac g aj hl k=>
 rdP g hl S aj [] fun ls ρ=>bif Gq hl ρ (nus ac 1 (Q5W (T7 RS))) then gb g (apL (lts S) f ls) (zT _) fun r=>k (dlF RS (ρ++nus ac 1 (Q5W (T7 RS))) ρ (Qag ls [] s (toT _ r))) else none
theorem Qdb {C:VC} (hC:VCOk P C) (T:List (LpE P)) {f:Nat} (fn:Func) (S RS:List Sp) (s:List Nat) (a:Nat) (F:(R:Type)->FT S a (QaP (lts RS) s) R)
  (h:∀ (α:Type) (K:List Lf->Option α) (v:HL (lts S)),QdI C T (nR C.tt RS fn.results.toList) fn (bdS S (toL _ v)).1 (bdS S (toL _ v)).2 (kW RS K)=apF (F α) (toL _ v) (crL _ fun as=>K (Qag (toL _ v) [] s as)))
  (hfn : ∀ v : HL (lts S), AO S (toL _ v) = true) (hl : Nat.beq s.length (lts RS).length = true) (hs : Q46 S RS (Q5W (T7 RS)) = true) (hf : P.funcs[f]? = some fn) (hb : fn.body.isSome = true) (hn : (fn.name == "runtime.NumGoroutine") = false)
  (hT:MU T (Ur (Jc fn))=T.map fun e=>(e.r,e.c)) (hn2:Xj (T.map (·.r))=true):Uo P f (QhZ S RS s (pF (F _))):=by
 intro R site g avs hl' k r h0;obtain ⟨ls,ρ,h1,hk,hc⟩:=Q6L S avs [] _ r h0;rw [List.nil_append] at h1;obtain ⟨hnew,h1⟩:=Qz h1;obtain ⟨res,h1,hres⟩:=Qm h1;refine ⟨_,h1,fun hg=>?_⟩;obtain ⟨v,hv,rfl⟩:=Fs _ _ _ _ (hres hg);rw [pF,Q8X] at hv;let M (q:List Lf):=Qag (toL _ v) [] s q;let K:List Lf->Option (HT (QaP (lts RS) s)):=fun full=>open Classical in match ofT _ (Q8H s full) with
  |some r=>if full=M (toT _ r) then some r else none
  |none=>none
 have hK:∀ r,K (M (toT _ r))=some r:=fun r=>by
  simp only [K,M,Q29 _ _ (lts RS) s _ (Nat.eq_of_beq_eq_true hl) (Q88 _ r),Q8G,if_true]
 refine Q25 hs hk hnew (hc hg (hfn v)) hf hb hn (fun av H' hx=>?_) (Q17 hC (fun _ _ _ _=>SV _) hf hT hn2 ((h _ K v).trans (by rw [QbV _ (fun as=>K (M as)) _ hK];exact hv)));unfold kW at hx;split at hx
 ·rename_i ls hls;rw [hls];simp only [K] at hx;split at hx
  ·split at hx
   ·rename_i r' _ he;injection hx with hx
    subst hx;rw [he]
   ·cases hx
  ·cases hx
 ·cases hx
noncomputable def mkW {C:VC} (hC:VCOk P C) (T:List (LpE P)) (f:Nat) (fn:Func) (S rs:List Sp) (o:List (Nat × Sp)) (a q:Nat) {τ:Type->Type} (F:(R:Type)->Nat->τ R) (n:Nat)
  (hτ:∀ R,τ R=FT S a (QaP (lts (N4 rs S o)) (Qfh (kyS S []) (kyS (N4 rs S o) []) q)) R:=by intro R;kernel_rfl)
  (h:∀ (α:Type) (K:List Lf->Option α) (v:HL (lts S)),QdI C T (nR C.tt (N4 rs S o) fn.results.toList) fn (bdS S (toL _ v)).1 (bdS S (toL _ v)).2 (kW (N4 rs S o) K)=apF (S:=S) (a:=a) (rs:=QaP (lts (N4 rs S o)) (Qfh (kyS S []) (kyS (N4 rs S o) []) q)) (cast (hτ α) (F α n)) (toL _ v) (crL _ fun as=>K (Qag (toL _ v) [] (Qfh (kyS S []) (kyS (N4 rs S o) []) q) as)):=by intro α K v;kernel_rfl)
  (hfn : ∀ v : HL (lts S), AO S (toL _ v) = true := by intro v; kernel_rfl) (hl : Nat.beq (Qfh (kyS S []) (kyS (N4 rs S o) []) q).length (lts (N4 rs S o)).length = true := by kernel_rfl) (hs : Q46 S (N4 rs S o) (Q5W (T7 (N4 rs S o))) = true := by kernel_rfl) (hf : P.funcs[f]? = some fn := by kernel_rfl) (hb : fn.body.isSome = true := by kernel_rfl) (hn : (fn.name == "runtime.NumGoroutine") = false := by kernel_rfl)
  (hT:MU T (Ur (Jc fn))=T.map fun e=>(e.r,e.c):=by kernel_rfl) (hn2:Xj (T.map (·.r))=true:=by kernel_rfl):EnP P f:=
 ⟨_,Qdb hC T fn S (N4 rs S o) _ a (fun R=>cast (hτ R) (F R n)) h hfn hl hs hf hb hn hT hn2⟩
noncomputable def mkF {C:VC} (hC:VCOk P C) (T:List (LpE P)) (f:Nat) (fn:Func) (S RS:List Sp) (a:Nat) {τ:Type->Type} (F:(R:Type)->Nat->τ R) (n:Nat) (hτ:∀ R,τ R=FT S a (lts RS) R:=by intro R;kernel_rfl)
  (h : ∀ v, vfnT C T fn (bdS S (toL _ v)).1 [] (retF (ssR RS) (kE RS)) = apH _ (pF (cast (hτ _) (F _ n))) v := by intro v; kernel_rfl) (hd : Rh S = true := by kernel_rfl) (hf : P.funcs[f]? = some fn := by kernel_rfl) (hb : fn.body.isSome = true := by kernel_rfl) (hn : (fn.name == "runtime.NumGoroutine") = false := by kernel_rfl)
  (hT:MU T (Ur (Jc fn))=T.map fun e=>(e.r,e.c):=by kernel_rfl) (hn2:Xj (T.map (·.r))=true:=by kernel_rfl):EnP P f:=
 ⟨_,Qdr hC T fn (ssR RS) S RS (pF (cast (hτ _) (F _ n))) h hd hf hb hn hT hn2⟩
def mkD {C:VC} (hC:VCOk P C) (T:List (LpE P)) (f:Nat) (fn:Func) (a:Nat) {τ:Type->Type} (F:(R:Type)->Nat->τ R) (n:Nat) (hτ:∀ R,τ R=FT (sOf C.tt fn) a (lts (rOf C.tt fn)) R:=by intro R;kernel_rfl)
  (h : ∀ v, vfnT C T fn (bdS (sOf C.tt fn) (toL _ v)).1 [] (retF (ssR (rOf C.tt fn)) (kE (rOf C.tt fn))) = apH _ (pF (cast (hτ _) (F _ n))) v := by intro v; kernel_rfl) (hd : Rh (sOf C.tt fn) = true := by kernel_rfl) (hf : P.funcs[f]? = some fn := by kernel_rfl) (hb : fn.body.isSome = true := by kernel_rfl) (hn : (fn.name == "runtime.NumGoroutine") = false := by kernel_rfl)
  (hT:MU T (Ur (Jc fn))=T.map fun e=>(e.r,e.c):=by kernel_rfl) (hn2:Xj (T.map (·.r))=true:=by kernel_rfl):EnP P f:=mkF hC T f fn (sOf C.tt fn) (rOf C.tt fn) a F n hτ h hd hf hb hn hT hn2
def FX (S:List Sp) (a:Nat) (ra rb:List LT) (R:Type):Type:=LF (drT (lts S) a) (LF ra (Option R)->LF rb (Option R)->Option R)
def pX {S:List Sp} {a:Nat} {ra rb:List LT} (F:FX S a ra rb (HT ra ⊕ HT rb)):LF (lts S) (Option (HT ra ⊕ HT rb)):=crL (lts S) fun ls=>match apO _ F (drL ls a) with
 |some p=>p (crT ra fun x=>some (.inl x)) (crT rb fun x=>some (.inr x))
 |none=>none
def kX (RA RB:List Sp):AV->List (Nat × Ob)->Option (HT (lts RA) ⊕ HT (lts RB)):=fun av H=>match kG RA av H with
 |some a=>some (.inl a)
 |none=>match kG RB av H with
  |some b=>some (.inr b)
  |none=>none
theorem Q9f {RS:List Sp} {av:AV} {H:List (Nat × Ob)} {r:HT (lts RS)} (h:kG RS av H=some r):rdR (look H) RS [av]=some (toT _ r):=by
 unfold kG at h;split at h
 ·rename_i ls ac;rw [ac,Q1D _ h]
 ·cases h
def nX (tt:TT) (RA RB:List Sp) (rs:List ResultVar) (st:St):St:=bif match Q24 tt (nR tt RB rs st) rs with
  |some av=>(rdR (look (nR tt RB rs st).h) RB [av]).isSome
  |none=>false
 then nR tt RB rs st else nR tt RA rs st
def Qic (S RA RB:List Sp) (f:LF (lts S) (Option (HT (lts RA) ⊕ HT (lts RB)))):Kf:=fun _ ac g aj hl k=>
 rdP g hl S aj [] fun ls ρ=>bif Gq hl ρ (nus ac 1 (Q5W (T7 RA)))&&Gq hl ρ (nus ac 1 (Q5W (T7 RB))) then gb g (apL (lts S) f ls) (.inl (zT _)) fun r=>
  smX r (fun a=>k (dlF RA (ρ++nus ac 1 (Q5W (T7 RA))) ρ (toT _ a))) (fun b=>k (dlF RB (ρ++nus ac 1 (Q5W (T7 RB))) ρ (toT _ b))) else none
theorem QcJ {C:VC} (hC:VCOk P C) (T:List (LpE P)) {f:Nat} (fn:Func) (S RA RB:List Sp) (p:LF (lts S) (Option (HT (lts RA) ⊕ HT (lts RB))))
  (h:∀ v,QdI C T (nX C.tt RA RB fn.results.toList) fn (bdS S (toL _ v)).1 (bdS S (toL _ v)).2 (kX RA RB)=apH _ p v)
  (hfn : ∀ v : HL (lts S), AO S (toL _ v) = true) (hs : (Q46 S RA (Q5W (T7 RA)) && Q46 S RB (Q5W (T7 RB))) = true) (hf : P.funcs[f]? = some fn) (hb : fn.body.isSome = true) (hn : (fn.name == "runtime.NumGoroutine") = false)
  (hT:MU T (Ur (Jc fn))=T.map fun e=>(e.r,e.c)) (hn2:Xj (T.map (·.r))=true):Uo P f (Qic S RA RB p):=by
 intro R site g avs hl' k r h0;obtain ⟨ls,ρ,h1,hk,hc⟩:=Q6L S avs [] _ r h0;rw [List.nil_append] at h1;obtain ⟨hnew,h1⟩:=Qz h1;simp only [Bool.and_eq_true] at hnew hs;obtain ⟨res,h1,hres⟩:=Qm h1;have hN:∀ (E:Env) (st:St) (a:Act) (w:World),HK E st a w->HK E (nX C.tt RA RB fn.results.toList st) a w:=fun E st a w hR=>by
  unfold nX;generalize (match Q24 C.tt (nR C.tt RB fn.results.toList st) fn.results.toList with | some av=>(rdR (look (nR C.tt RB fn.results.toList st).h) RB [av]).isSome | none=>false)=b;cases b <;> exact SV _ hR
 have key:g=true->∃ v,ls=toL (lts S) v/\∀ (β:Nat->Option Nat) (S':Nat->Prop) (w:World) (vs:List Value),Objs β S' (look (bdS S (toL _ v)).2) w->ArgsRd β S' (look (bdS S (toL _ v)).2) w vs (bdS S (toL _ v)).1->Calls P f vs.toArray w (M5 (bdS S (toL _ v)).2 (kX RA RB) res β S' w):=fun hg=>by
  obtain ⟨v,hv,rfl⟩:=Fs _ _ _ _ (hres hg);exact ⟨v,rfl,Q17 hC hN hf hT hn2 ((h v).trans hv)⟩
 cases res with
 |inl a=>
  refine ⟨_,h1,fun hg=>?_⟩;obtain ⟨v,rfl,hcall⟩:=key hg;refine Q25 hs.1 hk hnew.1 (hc hg (hfn v)) hf hb hn (fun av H' hx=>?_) hcall;unfold kX at hx;split at hx
  ·rename_i a' ha;injection hx with hx
   injection hx with hx
   subst hx;exact Q9f ha
  ·split at hx <;> cases hx
 |inr b=>
  refine ⟨_,h1,fun hg=>?_⟩;obtain ⟨v,rfl,hcall⟩:=key hg;refine Q25 hs.2 hk hnew.2 (hc hg (hfn v)) hf hb hn (fun av H' hx=>?_) hcall;unfold kX at hx;split at hx
  ·cases hx
  ·split at hx
   ·rename_i b' hb';injection hx with hx
    injection hx with hx
    subst hx;exact Q9f hb'
   ·cases hx
noncomputable def mkX {C:VC} (hC:VCOk P C) (T:List (LpE P)) (f:Nat) (fn:Func) (S RA RB:List Sp) (a:Nat) {τ:Type->Type} (F:(R:Type)->Nat->τ R) (n:Nat) (hτ:∀ R,τ R=FX S a (lts RA) (lts RB) R:=by intro R;kernel_rfl)
  (h:∀ v,QdI C T (nX C.tt RA RB fn.results.toList) fn (bdS S (toL _ v)).1 (bdS S (toL _ v)).2 (kX RA RB)=apH _ (pX (cast (hτ _) (F _ n))) v:=by intro v;kernel_rfl)
  (hfn : ∀ v : HL (lts S), AO S (toL _ v) = true := by intro v; kernel_rfl) (hs : (Q46 S RA (Q5W (T7 RA)) && Q46 S RB (Q5W (T7 RB))) = true := by kernel_rfl) (hf : P.funcs[f]? = some fn := by kernel_rfl) (hb : fn.body.isSome = true := by kernel_rfl) (hn : (fn.name == "runtime.NumGoroutine") = false := by kernel_rfl)
  (hT:MU T (Ur (Jc fn))=T.map fun e=>(e.r,e.c):=by kernel_rfl) (hn2:Xj (T.map (·.r))=true:=by kernel_rfl):EnP P f:=
 ⟨_,QcJ hC T fn S RA RB (pX (cast (hτ _) (F _ n))) h hfn hs hf hb hn hT hn2⟩
end
section
variable {P:Program}
theorem Q5G {M:Nat->Prop} {w w':World} (h:RowKit.Below w.heap.size w w'):Fr M w w':=⟨h.os,h.tape,h.output,h.size,fun b hb _=>h.block b hb⟩
theorem Q7D {β:Nat->Option Nat} {S:Nat->Prop} {h:Nat->Option Ob} {w:World} {args:List Value} {a:AV} (hA:ArgsRd β S h w args [a]):∃ v,args=[v]/\RdA β S h w tm0 v a:=by
 obtain ⟨h1,h2⟩:=hA
 match args,h1 with
 |[v],_=>exact ⟨v,rfl,h2 0 v a rfl rfl⟩
end

end Go.Vx
