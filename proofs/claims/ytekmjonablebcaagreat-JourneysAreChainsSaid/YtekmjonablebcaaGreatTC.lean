/- Part of a proof. No conditions of their own. -/
import Derived.Test.YtekmjonablebcaaGreatTB
set_option linter.unusedVariables false
set_option linter.unusedSimpArgs false
noncomputable section
abbrev Qq1:=@Nat.eq_of_beq_eq_true
abbrev Qq2:=@Bool.and_eq_true
abbrev Qq3:=@List.mem_cons_of_mem
abbrev Qq4:=@List.mem_cons_self
abbrev Qq5:=@Bool.not_eq_true'
namespace Go.Vx
variable{hl:Nat->oP Ob}
inductive DK where
 |i (k:IntKind) | b | t | l (s:Nat) | x
inductive Sp where
 |d (k:DK)
 |ag (ks:List DK)
 |tup (n:Nat)
 |ptr (p n:Nat)
 |pin (p n:Nat)
 |ps (p:Nat)
 |arr (p e s:Nat)
 |mp (p t:Nat)
 |fn (f n:Nat)
 |nil
 |gone (p:Nat)
 |pinm (p t:Nat)
 |pina (p e s:Nat)
 |agn (n:Nat)
 |ah (p:Nat)
 |top
def DK.lt:DK->LT
 |.i _=>.I
 |.b=>.B
 |.t=>.T
 |.l _=>.L
 |.x=>.D
def QjN:Y DK->Y LT->Y LT
 |[],r=>r
 |k::ks,r=>k.lt::QjN ks r
def lts:Y Sp->Y LT
 |[]=>[]
 |.d k::r=>k.lt::lts r
 |.ag ks::r=>QjN ks (lts r)
 |.arr _ _ _::r=>.L::lts r
 |.mp _ _::r=>.P::lts r
 |.tup _::r=>lts r
 |.ptr _ _::r=>lts r
 |.pin _ _::r=>lts r
 |.ps _::r=>lts r
 |.fn _ _::r=>lts r
 |.nil::r=>lts r
 |.gone _::r=>lts r
 |.pinm _ _::r=>.P::lts r
 |.pina _ _ _::r=>.L::lts r
 |.agn _::r=>lts r
 |.ah _::r=>lts r
 |.top::r=>lts r
def HT:Y LT->Type
 |[]=>Unit
 |[t]=>t.ty
 |t::u::ts=>t.ty×HT (u::ts)
def crT{β:Type}:(ts:Y LT)->(HT ts->β)->LF ts β
 |[],k=>k ()
 |[_],k=>λx=>k x
 |_::u::ts,k=>λx=>crT (u::ts) λr=>k (x,r)
def toT:(ts:Y LT)->HT ts->Y Lf
 |[],_=>[]
 |[t],v=>[Qbc t v]
 |t::u::ts,v=>Qbc t v.1::toT (u::ts) v.2
def ofT:(ts:Y LT)->Y Lf->oP (HT ts)
 |[],l=>match l with
  |[]=>some ()
  |_=>none
 |[t],l=>match l with
  |[x]=>Q8F t x
  |_=>none
 |t::u::ts,l=>match l with
  |x::r=>match Q8F t x,ofT (u::ts) r with
   |some a,some b=>some (a,b)
   |_,_=>none
  |_=>none
def zL:(t:LT)->t.ty
 |.I=>(0:Int)
 |.B=>false
 |.T=>([]:Y UInt8)
 |.L=>([]:Y (Y D))
 |.R=>([]:Y D)
 |.D=>D.bool false
 |.N=>(0:Nat)
 |.M=>λ_=>[]
 |.P=>λ_=>false
def zT:(ts:Y LT)->HT ts
 |[]=>()
 |[t]=>zL t
 |t::u::ts=>(zL t,zT (u::ts))
theorem Q1X:∀(ts:Y LT) {l:Y Lf} {v:HT ts},ofT ts l=some v->toT ts v=l
 |[],l,v,h=>by
  cases l with
  |nil=>rfl
  |cons x r=>cases h
 |[t],l,v,h=>by
  match l,h with
  |[x],h=>exact congrArg (·::[]) (NB (t:=t) h).symm
  |[],h=>cases h
  |_::_::_,h=>cases h
 |t::u::ts,l,v,h=>by
  match l,h with
  |[],h=>cases h
  |x::r,h=>
   replace h:(match Q8F t x,ofT (u::ts) r with | some a,some b=>some (a,b) | _,_=>none)=some v:=h
   split at h
   ·rename_i a b ha hb;injection h with h
    subst h;show Qbc t a::toT (u::ts) b=x::r;rw[Q1X (u::ts) hb,NB ha]
   ·cases h
section
variable{P:Program} {R:Type}
def prD(g:Bool)(k:DK)(a:AV)(K:Lf->oP R):oP R:=
 match k with
 |.i k=>prI g k a λx=>K (.I x)
 |.b=>prB g a λx=>K (.B x)
 |.t=>prT g a λx=>K (.T x)
 |.l s=>prS g s a λx=>K (.L x)
 |.x=>none
def Qfa(g:Bool):Y DK->Y AV->(Y Lf->oP R)->oP R
 |[],l,K=>match l with
  |[]=>K []
  |_=>none
 |k::ks,l,K=>match l with
  |a::r=>prD g k a λx=>Qfa g ks r λy=>K (x::y)
  |_=>none
def rdP(g:Bool)(hl:Nat->oP Ob):Y Sp->Y AV->Y (Nat×Nat)->(Y Lf->Y (Nat×Nat)->oP R)->oP R
 |[],st,ρ,K=>match st with
  |[]=>K [] ρ
  |_=>none
 |.d k::r,st,ρ,K=>match st with
  |a::st=>prD g k a λx=>rdP g hl r st ρ λls ρ'=>K (x::ls) ρ'
  |_=>none
 |.ag ks::r,st,ρ,K=>match st with
  |.ag l::st=>Qfa g ks l λxs=>rdP g hl r st ρ λls ρ'=>K (xs++ls) ρ'
  |_=>none
 |.ptr p n::r,st,ρ,K=>match st with
  |.ptr l o::st=>match hl l with
   |some (.box cs)=>bif Nat.beq o 0&&Nat.beq cs.length n then rdP g hl r (cs++st) (ρ++[(p,l)]) K else none
   |_=>none
  |_=>none
 |.ps p::r,st,ρ,K=>match st with
  |.ptr l o::st=>match look ρ p with
   |some l'=>bif Nat.beq o 0&&Nat.beq l l' then rdP g hl r st ρ K else none
   |none=>none
  |_=>none
 |.arr p e s::r,st,ρ,K=>match st with
  |.arr l::st=>match hl l with
   |some (.arr e' s' rows)=>bif Nat.beq e e'&&Nat.beq s s' then rdP g hl r st (ρ++[(p,l)]) λls ρ'=>K (.L rows::ls) ρ' else none
   |_=>none
  |_=>none
 |.mp p t::r,st,ρ,K=>match st with
  |.arr l::st=>match hl l with
   |some (.mp t' f)=>bif Nat.beq t t' then rdP g hl r st (ρ++[(p,l)]) λls ρ'=>K (.P f::ls) ρ' else none
   |_=>none
  |_=>none
 |.fn f n::r,st,ρ,K=>match st with
  |.fn f' l::st=>bif Nat.beq f f'&&Nat.beq l.length n then rdP g hl r (l++st) ρ K else none
  |_=>none
 |.nil::r,st,ρ,K=>match st with
  |.nil::st=>rdP g hl r st ρ K
  |_=>none
 |.tup _::_,_,_,_=>none
 |.pin _ _::_,_,_,_=>none
 |.gone _::_,_,_,_=>none
 |.pinm _ _::_,_,_,_=>none
 |.pina _ _ _::_,_,_,_=>none
 |.agn _::_,_,_,_=>none
 |.ah _::_,_,_,_=>none
 |.top::_,_,_,_=>none
def bdD:DK->Lf->AV
 |.i k,.I x=>.d (.int k x)
 |.b,.B x=>.d (.bool x)
 |.t,.T x=>.d (.str x)
 |.l s,.L x=>.d (.sl s x)
 |.x,.D x=>.d x
 |_,_=>.top
def Q86:Y DK->Y Lf->Y AV×Y Lf
 |[],ls=>([],ls)
 |k::ks,ls=>match ls with
  |x::r=>(bdD k x::(Q86 ks r).1,(Q86 ks r).2)
  |[]=>(.top::(Q86 ks []).1,[])
def bdS:Y Sp->Y Lf->Y AV×Y (Nat×Ob)
 |[],_=>([],[])
 |.d k::r,ls=>match ls with
  |x::ls=>(bdD k x::(bdS r ls).1,(bdS r ls).2)
  |[]=>([],[])
 |.ag ks::r,ls=>(.ag (Q86 ks ls).1::(bdS r (Q86 ks ls).2).1,(bdS r (Q86 ks ls).2).2)
 |.tup n::r,ls=>(.tup ((bdS r ls).1.take n)::(bdS r ls).1.drop n,(bdS r ls).2)
 |.ptr p n::r,ls=>(.ptr p 0::(bdS r ls).1.drop n,(p,.box ((bdS r ls).1.take n))::(bdS r ls).2)
 |.pin p n::r,ls=>((bdS r ls).1.drop n,(p,.box ((bdS r ls).1.take n))::(bdS r ls).2)
 |.ps p::r,ls=>(.ptr p 0::(bdS r ls).1,(bdS r ls).2)
 |.arr p e s::r,ls=>match ls with
  |.L x::ls=>(.arr p::(bdS r ls).1,(p,.arr e s x)::(bdS r ls).2)
  |_=>([],[])
 |.mp p t::r,ls=>match ls with
  |.P x::ls=>(.arr p::(bdS r ls).1,(p,.mp t x)::(bdS r ls).2)
  |_=>([],[])
 |.fn f n::r,ls=>(.fn f ((bdS r ls).1.take n)::(bdS r ls).1.drop n,(bdS r ls).2)
 |.nil::r,ls=>(.nil::(bdS r ls).1,(bdS r ls).2)
 |.gone _::r,ls=>bdS r ls
 |.pinm p t::r,ls=>match ls with
  |.P x::ls=>((bdS r ls).1,(p,.mp t x)::(bdS r ls).2)
  |_=>([],[])
 |.pina p e s::r,ls=>match ls with
  |.L x::ls=>((bdS r ls).1,(p,.arr e s x)::(bdS r ls).2)
  |_=>([],[])
 |.agn n::r,ls=>(.ag ((bdS r ls).1.take n)::(bdS r ls).1.drop n,(bdS r ls).2)
 |.ah p::r,ls=>(.arr p::(bdS r ls).1,(bdS r ls).2)
 |.top::r,ls=>(.top::(bdS r ls).1,(bdS r ls).2)
def isD:AV->Bool
 |.d _=>true
 |.nil=>true
 |.ag _=>true
 |_=>false
structure SR(ρ:List (Nat×Nat))(a b:AV):Prop where
 d:isD b=true->lf b=true/\Cz a b
 o:isD b=false->dm ρ b=true/\a=U7 ρ b
inductive SRL(ρ:List (Nat×Nat)):List AV->List AV->Prop
 |nil:SRL ρ [] []
 |cons {a b:AV} {l r:List AV} (h:SR ρ a b) (t:SRL ρ l r):SRL ρ (a::l) (b::r)
theorem SRL.length{ρ:Y (Nat×Nat)}{l r:Y AV}(h:SRL ρ l r):l.length=r.length:=by induction h<;>simp[*]
theorem SRL.cle{ρ:Y (Nat×Nat)}{l r:Y AV}(h:SRL ρ l r):CLeL ρ l r:=by
 induction h with
 |nil=>exact .nil
 |@cons a b l r h _ ih=>
  refine .cons ?_ ih;cases hd:isD b with
  |true=>exact .data (h.d hd).1 (h.d hd).2
  |false=>exact .own (h.o hd).1 (h.o hd).2
theorem SRL.split{ρ:Y (Nat×Nat)}:∀{a b c:Y AV},SRL ρ (a++b) c->SRL ρ a (c.take a.length)/\SRL ρ b (c.drop a.length)
 |[],b,c,h=>⟨by simpa using SRL.nil,by simpa using h⟩
 |x::a,b,c,h=>by
  cases h with
  |cons h t=>
   obtain⟨h1,h2⟩:=SRL.split t;exact⟨by simpa using SRL.cons h h1,by simpa using h2⟩
theorem SRL.own{ρ:Y (Nat×Nat)}{l r:Y AV}(h:SRL ρ l r)(hd:r.all (λb=>!isD b)=true):dmL ρ r=true/\l=Q3i ρ r:=by
 induction h with
 |nil=>trivial
 |cons h _ ih=>
  simp only[List.all_cons,Qq2,Qq5]at hd;obtain⟨h1,h2⟩:=h.o hd.1
  grind[dmL,Q3i]
theorem Q1I{g:Bool}{k:DK}{a:AV}{K:Lf->oP R}{r:R}(h:prD g k a K=some r):∃x,K x=some r/\isD (bdD k x)=true/\lf (bdD k x)=true/\(g=true->Cz a (bdD k x)):=by
 cases k with
 |i k=>obtain⟨x,h1,h2⟩:=Q2b h;exact⟨_,h1,rfl,rfl,h2⟩
 |b=>obtain⟨x,h1,h2⟩:=Qbr h;exact⟨_,h1,rfl,rfl,h2⟩
 |t=>obtain⟨x,h1,h2⟩:=Qct h;exact⟨_,h1,rfl,rfl,h2⟩
 |l s=>obtain⟨x,h1,h2⟩:=Ul h;exact⟨_,h1,rfl,rfl,h2⟩
 |x=>cases h
theorem BJ{g:Bool}:∀{ks:Y DK} {l:Y AV} {K:Y Lf->oP R} {r:R},Qfa g ks l K=some r->∃xs,K xs=some r/\∀ls,(Q86 ks (xs++ls)).2=ls/\lfL (Q86 ks (xs++ls)).1=true/\(g=true->AVleL l (Q86 ks (xs++ls)).1)
 |[],l,K,r,h=>by
  cases l with
  |nil=>exact⟨[],h,λls=>⟨rfl,rfl,λ_=>.nil⟩⟩
  |cons a l=>cases h
 |k::ks,l,K,r,h=>by
  cases l with
  |nil=>cases h
  |cons a l=>
   replace h:prD g k a (λx=>Qfa g ks l λy=>K (x::y))=some r:=h
   obtain⟨x,h,h1,h2,h3⟩:=Q1I h;obtain⟨xs,h,h4⟩:=BJ h;refine⟨x::xs,h,λls=>?_⟩;obtain⟨h5,h6,h7⟩:=h4 ls;exact⟨h5,by simp[Q86,lfL,h2,h6],λhg=>.cons (h3 hg) (h7 hg)⟩
inductive OK where
 |box (n:Nat)
 |arr (e s:Nat)
 |mp (t:Nat)
 |gone
def Kx:Y Sp->Y (Nat×OK)
 |[]=>[]
 |.ptr p n::r=>(p,.box n)::Kx r
 |.pin p n::r=>(p,.box n)::Kx r
 |.arr p e s::r=>(p,.arr e s)::Kx r
 |.mp p t::r=>(p,.mp t)::Kx r
 |.gone p::r=>(p,.gone)::Kx r
 |.pinm p t::r=>(p,.mp t)::Kx r
 |.pina p e s::r=>(p,.arr e s)::Kx r
 |.agn _::r=>Kx r
 |.ah _::r=>Kx r
 |.top::r=>Kx r
 |.d _::r=>Kx r
 |.ag _::r=>Kx r
 |.tup _::r=>Kx r
 |.ps _::r=>Kx r
 |.fn _ _::r=>Kx r
 |.nil::r=>Kx r
def KOb:OK->Ob->Prop
 |.box n,.box c=>c.length=n
 |.arr e s,.arr e' s' _=>e'=e/\s'=s
 |.mp t,.mp t' _=>t'=t
 |_,_=>False
def B4:Y Sp->Y Lf->Bool
 |[],_=>true
 |.d _::r,ls=>B4 r ls.tail
 |.ag ks::r,ls=>B4 r (Q86 ks ls).2
 |.arr _ _ _::r,ls=>B4 r ls.tail
 |.mp _ _::r,ls=>B4 r ls.tail
 |.fn _ n::r,ls=>((bdS r ls).1.take n).all (λb=>!isD b)&&B4 r ls
 |.ptr _ _::r,ls=>B4 r ls
 |.pin _ _::r,ls=>B4 r ls
 |.ps _::r,ls=>B4 r ls
 |.tup _::r,ls=>B4 r ls
 |.nil::r,ls=>B4 r ls
 |.gone _::r,ls=>B4 r ls
 |.pinm _ _::r,ls=>B4 r ls.tail
 |.pina _ _ _::r,ls=>B4 r ls.tail
 |.agn _::r,ls=>B4 r ls
 |.ah _::r,ls=>B4 r ls
 |.top::r,ls=>B4 r ls
inductive HinP(ρF:List (Nat×Nat))(hl:Nat->oP Ob):List (Nat×OK)->List (Nat×Ob)->List (Nat×Nat)->Prop
 |nil:HinP ρF hl [] [] []
 |cons {p l:Nat} {κ:OK} {o o0:Ob} {K:List (Nat×OK)} {H:List (Nat×Ob)} {ρ:List (Nat×Nat)} (h0:hl l=some o0) (h1:OLe ρF o0 o) (h2:KOb κ o) (t:HinP ρF hl K H ρ):HinP ρF hl ((p,κ)::K) ((p,o)::H) ((p,l)::ρ)
theorem Q2F{g:Bool}:∀(S:Y Sp) (st:Y AV) (ρ:Y (Nat×Nat)) (K:Y Lf->Y (Nat×Nat)->oP R) (r:R),rdP g hl S st ρ K=some r ->
  ∃ls ρ',K ls (ρ++ρ')=some r/\(ρ'.map (·.1)=(Kx S).map (·.1))/\(g=true->B4 S ls=true->∀ρF,(∀p l,(p,l)∈ρ++ρ'->look ρF p=some l)->SRL ρF st (bdS S ls).1/\HinP ρF hl (Kx S) (bdS S ls).2 ρ'):=by
 intro S;induction S with
 |nil=>
  intro st ρ K r h;cases st with
  |nil=>exact⟨[],[],by rw[List.append_nil];exact h,rfl,λ_ _ ρF _=>⟨.nil,.nil⟩⟩
  |cons a st=>cases h
 |cons s S ih=>
  intro st ρ K r h;cases s with
  |d k=>
   cases st with
   |nil=>cases h
   |cons a st=>
    replace h:prD g k a (λx=>rdP g hl S st ρ λls ρ'=>K (x::ls) ρ')=some r:=h
    obtain⟨x,h,h1,h2,h3⟩:=Q1I h;obtain⟨ls,ρ',h,hk,hc⟩:=ih st ρ _ r h;refine⟨x::ls,ρ',h,hk,λhg hf ρF hρ=>?_⟩;obtain⟨c1,c2⟩:=hc hg hf ρF hρ;exact⟨.cons ⟨λ_=>⟨h2,h3 hg⟩,λe=>(by rw[h1]at e;cases e)⟩ c1,c2⟩
  |ag ks=>
   match st,h with
   |.ag l::st,h=>
    replace h:Qfa g ks l (λxs=>rdP g hl S st ρ λls ρ'=>K (xs++ls) ρ')=some r:=h
    obtain⟨xs,h,hx⟩:=BJ h;obtain⟨ls,ρ',h,hk,hc⟩:=ih st ρ _ r h;obtain⟨x1,x2,x3⟩:=hx ls;refine⟨xs++ls,ρ',h,hk,λhg hf ρF hρ=>?_⟩;simp only[B4,x1]at hf;obtain⟨c1,c2⟩:=hc hg hf ρF hρ;simp only[bdS,x1];exact⟨.cons ⟨λ_=>⟨x2,.ag (x3 hg)⟩,λe=>(by cases e)⟩ c1,c2⟩
  |ptr p n=>
   match st,h with
   |.ptr l o::st,h=>
    simp only[rdP]at h;split at h
    ·rename_i cs ax;obtain⟨hb,h'⟩:=Xm h;simp only[Qq2]at hb;have ho:=Qq1 hb.1;have hn:=Qq1 hb.2;subst ho hn;obtain⟨ls,ρ',h,hk,hc⟩:=ih (cs++st) (ρ++[(p,l)]) _ r h';rw[List.append_assoc]at h;refine⟨ls,(p,l)::ρ',h,by simp[Kx,hk],λhg hf ρF hρ=>?_⟩;obtain⟨c1,c2⟩:=hc hg hf ρF (λa b hm=>hρ a b (by simpa using hm));obtain⟨d1,d2⟩:=c1.split;have ac:=hρ p l Q2;refine⟨.cons ⟨λe=>(by cases e),λ_=>⟨by simp[dm,ac],by simp[U7,ac]⟩⟩ d2,.cons ax (.box d1.cle) ?_ c2⟩;exact d1.length.symm
    ·cases h
  |ps p=>
   match st,h with
   |.ptr l o::st,h=>
    simp only[rdP]at h;split at h
    ·rename_i l' ac;obtain⟨hb,h'⟩:=Xm h;simp only[Qq2]at hb;have ho:=Qq1 hb.1;have hn:=Qq1 hb.2;subst ho hn;obtain⟨ls,ρ',h,hk,hc⟩:=ih st ρ _ r h';refine⟨ls,ρ',h,hk,λhg hf ρF hρ=>?_⟩;obtain⟨c1,c2⟩:=hc hg hf ρF hρ;have ar:=hρ p l (List.mem_append_left _ (Y2 ac));exact⟨.cons ⟨λe=>(by cases e),λ_=>⟨by simp[dm,ar],by simp[U7,ar]⟩⟩ c1,c2⟩
    ·cases h
  |arr p e s=>
   match st,h with
   |.arr l::st,h=>
    simp only[rdP]at h;split at h
    ·rename_i e' s' rows ao;obtain⟨hb,h'⟩:=Xm h;simp only[Qq2]at hb;have ho:=Qq1 hb.1;have hn:=Qq1 hb.2;subst ho hn;obtain⟨ls,ρ',h,hk,hc⟩:=ih st (ρ++[(p,l)]) _ r h';rw[List.append_assoc]at h;refine⟨.L rows::ls,(p,l)::ρ',h,by simp[Kx,hk],λhg hf ρF hρ=>?_⟩;obtain⟨c1,c2⟩:=hc hg hf ρF (λa b hm=>hρ a b (by simpa using hm));have ac:=hρ p l Q2;exact⟨.cons ⟨λe=>(by cases e),λ_=>⟨by simp[dm,ac],by simp[U7,ac]⟩⟩ c1,.cons ao (.arr _ _ _) ⟨rfl,rfl⟩ c2⟩
    ·cases h
  |mp p t=>
   match st,h with
   |.arr l::st,h=>
    simp only[rdP]at h;split at h
    ·rename_i t' f aw;obtain⟨hb,h'⟩:=Xm h;have ho:=Qq1 hb;subst ho;obtain⟨ls,ρ',h,hk,hc⟩:=ih st (ρ++[(p,l)]) _ r h';rw[List.append_assoc]at h;refine⟨.P f::ls,(p,l)::ρ',h,by simp[Kx,hk],λhg hf ρF hρ=>?_⟩;obtain⟨c1,c2⟩:=hc hg hf ρF (λa b hm=>hρ a b (by simpa using hm));have ac:=hρ p l Q2;exact⟨.cons ⟨λe=>(by cases e),λ_=>⟨by simp[dm,ac],by simp[U7,ac]⟩⟩ c1,.cons aw (.mp _ _) rfl c2⟩
    ·cases h
  |fn f n=>
   match st,h with
   |.fn f' l::st,h=>
    simp only[rdP]at h;obtain⟨hb,h'⟩:=Xm h;simp only[Qq2]at hb;have ho:=Qq1 hb.1;have hn:=Qq1 hb.2;subst ho hn;obtain⟨ls,ρ',h,hk,hc⟩:=ih (l++st) ρ _ r h';refine⟨ls,ρ',h,hk,λhg hf ρF hρ=>?_⟩;simp only[B4,Qq2]at hf;obtain⟨c1,c2⟩:=hc hg hf.2 ρF hρ;obtain⟨d1,d2⟩:=c1.split;obtain⟨e1,e2⟩:=d1.own hf.1;exact⟨.cons ⟨λe=>(by cases e),λ_=>⟨by simpa[dm]using e1,by simp[U7,<- e2]⟩⟩ d2,c2⟩
  |nil=>
   match st,h with
   |.nil::st,h=>
    obtain⟨ls,ρ',h,hk,hc⟩:=ih st ρ _ r h;refine⟨ls,ρ',h,hk,λhg hf ρF hρ=>?_⟩;obtain⟨c1,c2⟩:=hc hg hf ρF hρ;exact⟨.cons ⟨λ_=>⟨rfl,.refl _⟩,λe=>(by cases e)⟩ c1,c2⟩
  |tup n=>cases h
  |pin p n=>cases h
  |gone p=>cases h
  |pinm p t=>cases h
  |pina p e s=>cases h
  |agn n=>cases h
  |ah p=>cases h
  |top=>cases h
def Rg:Y Sp->Bool
 |[]=>true
 |.d _::r=>Rg r
 |.ag _::r=>Rg r
 |.nil::r=>Rg r
 |_=>false
theorem QdJ{g:Bool}:∀(S:Y Sp) (st:Y AV) (ρ:Y (Nat×Nat)) (K:Y Lf->Y (Nat×Nat)->oP R) (r:R),Rg S=true->rdP g hl S st ρ K=some r ->
  ∃ls,K ls ρ=some r/\(g=true->lfL (bdS S ls).1=true/\AVleL st (bdS S ls).1):=by
 intro S;induction S with
 |nil=>
  intro st ρ K r _ h;cases st with
  |nil=>exact⟨[],h,λ_=>⟨rfl,.nil⟩⟩
  |cons a st=>cases h
 |cons s S ih=>
  intro st ρ K r hd h;cases s with
  |d k=>
   cases st with
   |nil=>cases h
   |cons a st=>
    replace h:prD g k a (λx=>rdP g hl S st ρ λls ρ'=>K (x::ls) ρ')=some r:=h
    obtain⟨x,h,_,h2,h3⟩:=Q1I h;obtain⟨ls,h,hc⟩:=ih st ρ _ r hd h;refine⟨x::ls,h,λhg=>?_⟩;obtain⟨c1,c2⟩:=hc hg;exact⟨by grind[bdS,lfL],.cons (h3 hg) c2⟩
  |ag ks=>
   match st,h with
   |.ag l::st,h=>
    replace h:Qfa g ks l (λxs=>rdP g hl S st ρ λls ρ'=>K (xs++ls) ρ')=some r:=h
    obtain⟨xs,h,hx⟩:=BJ h;obtain⟨ls,h,hc⟩:=ih st ρ _ r hd h;obtain⟨x1,x2,x3⟩:=hx ls;refine⟨xs++ls,h,λhg=>?_⟩;obtain⟨c1,c2⟩:=hc hg;simp only[bdS,x1];exact⟨by grind[lfL,lf],.cons (.ag (x3 hg)) c2⟩
  |nil=>
   match st,h with
   |.nil::st,h=>
    obtain⟨ls,h,hc⟩:=ih st ρ _ r hd h;refine⟨ls,h,λhg=>?_⟩;obtain⟨c1,c2⟩:=hc hg;exact⟨by simp[bdS,lfL,lf,c1],.cons (.refl _) c2⟩
  |_=>cases hd
def exD:DK->AV->oP Lf
 |.i k,.d (.int k' x)=>oB (k == k') (.I x)
 |.b,.d (.bool x)=>some (.B x)
 |.t,.d (.str x)=>some (.T x)
 |.l s,.d (.sl s' x)=>oB (Nat.beq s s') (.L x)
 |.x,.d x=>some (.D x)
 |_,_=>none
def Qfk:Y DK->Y AV->oP (Y Lf)
 |[],l=>match l with
  |[]=>some []
  |_=>none
 |k::ks,l=>match l with
  |a::r=>match exD k a,Qfk ks r with
   |some x,some xs=>some (x::xs)
   |_,_=>none
  |_=>none
theorem Q6Q{k:DK}{a:AV}{x:Lf}(h:exD k a=some x):bdD k x=a:=by
 cases k<;>cases a<;>try (simp only[exD,reduceCtorEq]at h;done)
 case i.d k d=>
  cases d<;>try (simp only[exD,reduceCtorEq]at h;done)
  simp only[exD]at h;obtain⟨h1,rfl⟩:=VJ h;rw[<- eq_of_beq h1];rfl
 case b.d d=>
  cases d<;>try (simp only[exD,reduceCtorEq]at h;done)
  simp only[exD,Option.some.injEq]at h;subst h;rfl
 case t.d d=>
  cases d<;>try (simp only[exD,reduceCtorEq]at h;done)
  simp only[exD,Option.some.injEq]at h;subst h;rfl
 case l.d s d=>
  cases d<;>try (simp only[exD,reduceCtorEq]at h;done)
  simp only[exD]at h;obtain⟨h1,rfl⟩:=VJ h;rw[<- Qq1 h1];rfl
 case x.d d=>simp only[exD,Option.some.injEq]at h;subst h;rfl
theorem Q3J:∀{ks:Y DK} {l:Y AV} {xs:Y Lf},Qfk ks l=some xs->∀ls,Q86 ks (xs++ls)=(l,ls)
 |[],l,xs,h,ls=>by
  cases l with
  |nil=>injection h with h;subst h;rfl
  |cons a l=>cases h
 |k::ks,l,xs,h,ls=>by
  cases l with
  |nil=>cases h
  |cons a l=>
   replace h:(match exD k a,Qfk ks l with | some x,some xs=>some (x::xs) | _,_=>none)=some xs:=h
   split at h
   ·rename_i x ys hx hy;injection h with h
    subst h;simp[Q86,Q6Q hx,Q3J hy ls]
   ·cases h
def Q4v(a:oP Lf)(b:oP (Y Lf)):oP (Y Lf):=match a,b with
 |some x,some r=>some (x::r)
 |_,_=>none
def QhJ(a b:oP (Y Lf)):oP (Y Lf):=match a,b with
 |some x,some r=>some (x++r)
 |_,_=>none
theorem PZ{a:oP Lf}{b:oP (Y Lf)}{l:Y Lf}(h:Q4v a b=some l):∃x r,a=some x/\b=some r/\l=x::r:=by
 cases a<;>cases b<;>simp[Q4v]at h
 simp_all
theorem Q93{a b:oP (Y Lf)}{l:Y Lf}(h:QhJ a b=some l):∃x r,a=some x/\b=some r/\l=x++r:=by
 cases a<;>cases b<;>simp[QhJ]at h
 simp_all
def rdR(H:Nat->oP Ob):Y Sp->Y AV->oP (Y Lf)
 |[],st=>match st with
  |[]=>some []
  |_=>none
 |.d k::r,st=>match st with
  |a::st=>Q4v (exD k a) (rdR H r st)
  |_=>none
 |.ag ks::r,st=>match st with
  |.ag l::st=>QhJ (Qfk ks l) (rdR H r st)
  |_=>none
 |.tup n::r,st=>match st with
  |.tup l::st=>bif Nat.beq l.length n then rdR H r (l++st)else none
  |_=>none
 |.ptr p n::r,st=>match st with
  |.ptr l o::st=>match H p with
   |some (.box cs)=>bif Nat.beq l p&&(Nat.beq o 0&&Nat.beq cs.length n)then rdR H r (cs++st)else none
   |_=>none
  |_=>none
 |.pin p n::r,st=>match H p with
  |some (.box cs)=>bif Nat.beq cs.length n then rdR H r (cs++st)else none
  |_=>none
 |.ps p::r,st=>match st with
  |.ptr l o::st=>bif Nat.beq l p&&Nat.beq o 0 then rdR H r st else none
  |_=>none
 |.arr p e s::r,st=>match st with
  |.arr l::st=>match H p with
   |some (.arr e' s' rows)=>bif Nat.beq l p&&(Nat.beq e e'&&Nat.beq s s')then Q4v (some (.L rows)) (rdR H r st)else none
   |_=>none
  |_=>none
 |.mp p t::r,st=>match st with
  |.arr l::st=>match H p with
   |some (.mp t' f)=>bif Nat.beq l p&&Nat.beq t t' then Q4v (some (.P f)) (rdR H r st)else none
   |_=>none
  |_=>none
 |.fn f n::r,st=>match st with
  |.fn f' l::st=>bif Nat.beq f f'&&Nat.beq l.length n then rdR H r (l++st)else none
  |_=>none
 |.nil::r,st=>match st with
  |.nil::st=>rdR H r st
  |_=>none
 |.gone p::r,st=>match H p with
  |none=>rdR H r st
  |_=>none
 |.pinm p t::r,st=>match H p with
  |some (.mp t' f)=>bif Nat.beq t t' then Q4v (some (.P f)) (rdR H r st)else none
  |_=>none
 |.pina p e s::r,st=>match H p with
  |some (.arr e' s' rows)=>bif Nat.beq e e'&&Nat.beq s s' then Q4v (some (.L rows)) (rdR H r st)else none
  |_=>none
 |.agn n::r,st=>match st with
  |.ag l::st=>bif Nat.beq l.length n then rdR H r (l++st)else none
  |_=>none
 |.ah p::r,st=>match st with
  |.arr l::st=>bif Nat.beq l p then rdR H r st else none
  |_=>none
 |.top::r,st=>match st with
  |.top::st=>rdR H r st
  |_=>none
inductive RPr(Hf:Nat->oP Ob):List (Nat×OK)->List (Nat×Ob)->Prop
 |nil:RPr Hf [] []
 |gone {p:Nat} {K:List (Nat×OK)} {H:List (Nat×Ob)} (h:Hf p=none) (t:RPr Hf K H):RPr Hf ((p,.gone)::K) H
 |cons {p:Nat} {κ:OK} {o:Ob} {K:List (Nat×OK)} {H:List (Nat×Ob)} (h:Hf p=some o) (hk:KOb κ o) (t:RPr Hf K H):RPr Hf ((p,κ)::K) ((p,o)::H)
theorem FM{α:Type}{a b c:Y α}(h:c=a++b){n:Nat}(hn:a.length=n):c.take n=a/\c.drop n=b:=by
 simp_all
theorem Q6L{H:Nat->oP Ob}:∀(S:Y Sp) (st:Y AV) (ls:Y Lf),rdR H S st=some ls->(bdS S ls).1=st/\RPr H (Kx S) (bdS S ls).2:=by
 intro S;induction S with
 |nil=>
  intro st ls h;cases st with
  |nil=>injection h with h;subst h;exact⟨rfl,.nil⟩
  |cons a st=>cases h
 |cons s S ih=>
  intro st ls h;cases s with
  |d k=>
   cases st with
   |nil=>cases h
   |cons a st=>
    obtain⟨x,r,h1,h2,rfl⟩:=PZ (show Q4v (exD k a) (rdR H S st)=some ls from h);obtain⟨i1,i2⟩:=ih st r h2;exact⟨by grind[bdS,Q6Q],i2⟩
  |ag ks=>
   match st,h with
   |.ag l::st,h=>
    obtain⟨x,r,h1,h2,rfl⟩:=Q93 (show QhJ (Qfk ks l) (rdR H S st)=some ls from h);obtain⟨i1,i2⟩:=ih st r h2;have:=Q3J h1 r
    grind[bdS,Kx]
  |tup n=>
   match st,h with
   |.tup l::st,h=>
    obtain⟨hb,h2⟩:=Xm (show(bif Nat.beq l.length n then rdR H S (l++st)else none)=some ls from h);obtain⟨i1,i2⟩:=ih _ _ h2;obtain⟨j1,j2⟩:=FM i1 (Qq1 hb);exact⟨by simp[bdS,j1,j2],i2⟩
  |ptr p n=>
   match st,h with
   |.ptr l o::st,h=>
    simp only[rdR]at h;split at h
    ·rename_i cs ak;obtain⟨hb,h2⟩:=Xm h;simp only[Qq2]at hb;obtain⟨i1,i2⟩:=ih _ _ h2;have hn:=Qq1 hb.2.2;obtain⟨j1,j2⟩:=FM i1 hn;refine⟨by simp[bdS,j2,Qq1 hb.1,Qq1 hb.2.1],?_⟩;simp only[bdS,Kx,j1];exact .cons ak hn i2
    ·cases h
  |pin p n=>
   simp only[rdR]at h;split at h
   ·rename_i cs ak;obtain⟨hb,h2⟩:=Xm h;obtain⟨i1,i2⟩:=ih _ _ h2;have hn:=Qq1 hb;obtain⟨j1,j2⟩:=FM i1 hn;refine⟨by simp[bdS,j2],?_⟩;simp only[bdS,Kx,j1];exact .cons ak hn i2
   ·cases h
  |ps p=>
   match st,h with
   |.ptr l o::st,h=>
    obtain⟨hb,h2⟩:=Xm (show(bif Nat.beq l p&&Nat.beq o 0 then rdR H S st else none)=some ls from h);simp only[Qq2]at hb;obtain⟨i1,i2⟩:=ih _ _ h2;exact⟨by simp[bdS,i1,Qq1 hb.1,Qq1 hb.2],i2⟩
  |arr p e s=>
   match st,h with
   |.arr l::st,h=>
    simp only[rdR]at h;split at h
    ·rename_i e' s' rows aj;obtain⟨hb,h2⟩:=Xm h;simp only[Qq2]at hb;obtain⟨x,r,h1,h3,rfl⟩:=PZ h2;injection h1 with h1
     subst h1;obtain⟨i1,i2⟩:=ih _ _ h3;have e1:=Qq1 hb.2.1;have e2:=Qq1 hb.2.2;subst e1 e2;exact⟨by simp[bdS,i1,Qq1 hb.1],.cons aj ⟨rfl,rfl⟩ i2⟩
    ·cases h
  |mp p t=>
   match st,h with
   |.arr l::st,h=>
    simp only[rdR]at h;split at h
    ·rename_i t' f hf;obtain⟨hb,h2⟩:=Xm h;simp only[Qq2]at hb;obtain⟨x,r,h1,h3,rfl⟩:=PZ h2;injection h1 with h1
     subst h1;obtain⟨i1,i2⟩:=ih _ _ h3;have e1:=Qq1 hb.2;subst e1;exact⟨by simp[bdS,i1,Qq1 hb.1],.cons hf rfl i2⟩
    ·cases h
  |fn f n=>
   match st,h with
   |.fn f' l::st,h=>
    obtain⟨hb,h2⟩:=Xm (show(bif Nat.beq f f'&&Nat.beq l.length n then rdR H S (l++st)else none)=some ls from h);simp only[Qq2]at hb;obtain⟨i1,i2⟩:=ih _ _ h2;obtain⟨j1,j2⟩:=FM i1 (Qq1 hb.2);exact⟨by simp[bdS,j1,j2,Qq1 hb.1],i2⟩
  |nil=>
   match st,h with
   |.nil::st,h=>
    obtain⟨i1,i2⟩:=ih _ _ (show rdR H S st=some ls from h);exact⟨by simp[bdS,i1],i2⟩
  |gone p=>
   simp only[rdR]at h;split at h
   ·rename_i hp;obtain⟨i1,i2⟩:=ih _ _ h;exact⟨i1,.gone hp i2⟩
   ·cases h
  |pinm p t=>
   simp only[rdR]at h;split at h
   ·rename_i t' f hf;obtain⟨hb,h2⟩:=Xm h;obtain⟨x,r,h1,h3,rfl⟩:=PZ h2;injection h1 with h1
    subst h1;obtain⟨i1,i2⟩:=ih _ _ h3;have e1:=Qq1 hb;subst e1;exact⟨i1,.cons hf rfl i2⟩
   ·cases h
  |pina p e s=>
   simp only[rdR]at h;split at h
   ·rename_i e' s' rows hf;obtain⟨hb,h2⟩:=Xm h;simp only[Qq2]at hb;obtain⟨x,r,h1,h3,rfl⟩:=PZ h2;injection h1 with h1
    subst h1;obtain⟨i1,i2⟩:=ih _ _ h3;have e1:=Qq1 hb.1;have e2:=Qq1 hb.2;subst e1 e2;exact⟨i1,.cons hf ⟨rfl,rfl⟩ i2⟩
   ·cases h
  |agn n=>
   match st,h with
   |.ag l::st,h=>
    obtain⟨hb,h2⟩:=Xm (show(bif Nat.beq l.length n then rdR H S (l++st)else none)=some ls from h);obtain⟨i1,i2⟩:=ih _ _ h2;obtain⟨j1,j2⟩:=FM i1 (Qq1 hb);exact⟨by simp[bdS,j1,j2],i2⟩
  |ah p=>
   match st,h with
   |.arr l::st,h=>
    obtain⟨hb,h2⟩:=Xm (show(bif Nat.beq l p then rdR H S st else none)=some ls from h);obtain⟨i1,i2⟩:=ih _ _ h2;exact⟨by simp[bdS,i1,Qq1 hb],i2⟩
  |top=>
   match st,h with
   |.top::st,h=>
    obtain⟨i1,i2⟩:=ih _ _ (show rdR H S st=some ls from h);exact⟨by simp[bdS,i1],i2⟩
theorem RPr.keys{Hf:Nat->oP Ob}{K:Y (Nat×OK)}{H:Y (Nat×Ob)}(h:RPr Hf K H){p:Nat}(hp:PM p (K.map (·.1))=false):look H p=none:=by
 induction h with
 |nil=>rfl
 |gone h _ ih=>simp_all [List.map_cons,PM,Bool.or_eq_false_iff]
 |cons h _ _ ih=>
  simp_all [List.map_cons,PM,Bool.or_eq_false_iff,look]
theorem Q5P{α:Type}{p:Nat}{κ:α}:∀{K:Y (Nat×α)},(p,κ)∈K->PM p (K.map (·.1))=true
 |(q,_)::K,h=>by
  rcases List.mem_cons.1 h with h | h
  ·injection h with h _;simp[PM,h,Nat.beq_refl]
  ·simp[PM,Q5P h]
theorem RPr.at{Hf:Nat->oP Ob}{K:Y (Nat×OK)}{H:Y (Nat×Ob)}(h:RPr Hf K H)(hn:Xn (K.map (·.1))=true){p:Nat}{κ:OK}(hm:(p,κ)∈K) :
  look H p=Hf p/\((κ = .gone/\Hf p=none)\/∃o,Hf p=some o/\KOb κ o):=by
 induction h with
 |nil=>cases hm
 |@gone q K H h t ih=>
  simp only[List.map_cons,Xn,Qq2,Qq5]at hn;rcases List.mem_cons.1 hm with e | hm
  ·injection e with e1 e2
   subst e1 e2;exact⟨(t.keys hn.1).trans h.symm,.inl ⟨rfl,h⟩⟩
  simp_all
 |@cons q κ' o K H h hk t ih=>
  simp only[List.map_cons,Xn,Qq2,Qq5]at hn
  grind[look,Nat.beq_refl,Nat.beq,Qee,Q5P]
theorem HinP.map1{ρF:Y (Nat×Nat)}{K:Y (Nat×OK)}{H:Y (Nat×Ob)}{ρ:Y (Nat×Nat)}(h:HinP ρF hl K H ρ):H.map (·.1)=ρ.map (·.1)/\K.map (·.1)=ρ.map (·.1):=by
 induction h with
 |nil=>simp_all
 |cons _ _ _ _ ih=>simp_all
theorem HinP.at{ρF:Y (Nat×Nat)}{hl:Nat->oP Ob}{K:Y (Nat×OK)}{H:Y (Nat×Ob)}{ρ:Y (Nat×Nat)}(h:HinP ρF hl K H ρ)(hn:Xn (ρ.map (·.1))=true){p l:Nat}(hm:(p,l)∈ρ) :
  ∃κ o o0,(p,κ)∈K/\look H p=some o/\hl l=some o0/\OLe ρF o0 o/\KOb κ o:=by
 induction h with
 |nil=>cases hm
 |@cons q l' κ o o0 K H ρ h0 h1 h2 t ih=>
  simp only[List.map_cons,Xn,Qq2,Qq5]at hn
  grind[List.mem_cons_self,look,Nat.beq_refl,List.mem_cons_of_mem,Nat.beq,Qee,Q5P]
def kE(RS:Y Sp):AV->oP (HT (lts RS)):=λav=>match rdR (λ_=>none) RS [av]with
 |some ls=>ofT _ ls
 |none=>none
def kG(RS:Y Sp):AV->Y (Nat×Ob)->oP (HT (lts RS)):=λav H=>match rdR (look H) RS [av]with
 |some ls=>ofT _ ls
 |none=>none
def Qk7(S RS:Y Sp)(f:LF (lts S) (oP (HT (lts RS)))):PJ:=λ_ _ g aa hl k=>
 rdP g hl S aa [] λls _=>gb g (apL (lts S) f ls) (zT _) λr=>k ⟨(bdS RS (toT _ r)).1.headD .top,[],[]⟩
def nus(aa:Nat):Nat->Y Nat->Y (Nat×Nat)
 |_,[]=>[]
 |i,m::r=>(m,aa+50000*i)::nus aa (i+1) r
structure EnP(P:Program)(f:Nat) where
 E:PJ
 ok:VH P f E
theorem QeS {C:VC} (hC:VCOk P C) (T:Y (LpE P)) {f:Nat} (fn:Func) (ss:Y (Y Nat)) (S RS:Y Sp) (p:LF (lts S) (oP (HT (lts RS))))
  (h : ∀v, vfnT C T fn (bdS S (toL _ v)).1 [] (retF ss (kE RS)) = apH _ p v) (hd : Rg S = true) (hf : P.funcs[f]? = some fn) (hb : fn.body.isSome = true) (hn : (fn.name == "runtime.NumGoroutine") = false)
  (hT:Md T (WN (V6 fn))=T.map λe=>(e.r,e.c)) (hn2:Xn (T.map (·.r))=true):VH P f (Qk7 S RS p):=by
 intro R site g avs hl k r h0;obtain⟨ls,h1,hc⟩:=QdJ S avs [] _ r hd h0;obtain⟨res,h1,hres⟩:=Qy h1;refine⟨_,h1,λhg=>?_⟩;obtain⟨v,hv,rfl⟩:=MA _ _ _ _ (hres hg);obtain⟨c1,c2⟩:=hc hg;refine ZW.conv c2 (QbV (K:=kE RS) hC T (fn:=fn) (ss:=ss) ((h v).trans hv) (λx hx=>?_) hf hb hn c1 hT hn2)
 unfold kE at hx;split at hx
 ·rename_i ls' hls;obtain⟨i1,_⟩:=Q6L _ _ _ hls
  grind[Q1X]
 ·cases hx
theorem Bb(aa:Nat):∀(i:Nat) (ν:Y Nat),(nus aa i ν).map (·.1)=ν
 |_,[]=>rfl
 |i,m::r=>by simp[nus,Bb aa (i+1) r]
theorem Fe{α:Type}{p:Nat}:∀{K:Y (Nat×α)},PM p (K.map (·.1))=true->∃κ,(p,κ)∈K
 |(q,κ)::K,h=>by
  simp only[List.map_cons,PM,Bool.or_eq_true]at h;rcases h with h | h
  ·exact⟨κ,by rw[Qq1 h];exact Qq4 ..⟩
  ·obtain⟨κ',hk⟩:=Fe h;exact⟨κ',Qq3 _ hk⟩
def Qcu{R:Type}(g:Bool)(H:Y (Nat×Ob)):Y (Nat×Ob)->oP R->oP R
 |[],x=>x
 |(p,.arr _ _ aa)::r,x=>match look H p with
  |some (.arr _ _ rows)=>gb g (SY aa (List.length rows)) () λ_=>Qcu g H r x
  |_=>Qcu g H r x
 |_::r,x=>Qcu g H r x
theorem Hs{R:Type}{g:Bool}{H:Y (Nat×Ob)}{x:oP R}{z:R}:∀{H':Y (Nat×Ob)},Qcu g H H' x=some z->x=some z/\(g=true->∀(p e s:Nat) (aa:Y (Y D)) (e0 s0:Nat) (rows:Y (Y D)),(p,Ob.arr e s aa)∈H'->look H p=some (.arr e0 s0 rows)->aa.length=rows.length)
 |[],h=>⟨h,λ_ _ _ _ _ _ _ _ h=>(nomatch h)⟩
 |(q,.arr e1 s1 ak)::r,h=>by
  unfold Qcu at h;split at h
  ·rename_i e2 s2 am hq;obtain⟨_,h,hl⟩:=Qy h;obtain⟨h1,h2⟩:=Hs h;refine⟨h1,λhg p e s aa e0 s0 rows hm hp=>?_⟩;rcases List.mem_cons.1 hm with hm | hm
   ·injection hm with e1 e2
    injection e2 with _ _ e3
    subst e1 e3;rw[hq]at hp;injection hp with hp
    injection hp with _ _ hp
    subst hp;exact Q1b (hl hg)
   ·exact h2 hg p e s aa e0 s0 rows hm hp
  ·rename_i hq;obtain⟨h1,h2⟩:=Hs h;refine⟨h1,λhg p e s aa e0 s0 rows hm hp=>?_⟩;rcases List.mem_cons.1 hm with hm | hm
   ·injection hm with e1 _
    subst e1;exact absurd hp (hq _ _ _)
   ·exact h2 hg p e s aa e0 s0 rows hm hp
 |(q,.box c)::r,h=>by
  obtain⟨h1,h2⟩:=Hs (H':=r) h;refine⟨h1,λhg p e s aa e0 s0 rows hm hp=>?_⟩;rcases List.mem_cons.1 hm with hm | hm
  ·cases hm
  ·exact h2 hg p e s aa e0 s0 rows hm hp
 |(q,.mp _ _)::r,h=>by
  obtain⟨h1,h2⟩:=Hs (H':=r) h;refine⟨h1,λhg p e s aa e0 s0 rows hm hp=>?_⟩;rcases List.mem_cons.1 hm with hm | hm
  ·cases hm
  ·exact h2 hg p e s aa e0 s0 rows hm hp
def QfE:OK->Bool
 |.gone=>true
 |_=>false
def Qja:OK->OK->Bool
 |.box n,.box m=>Nat.beq m n
 |.arr _ _,.gone=>true
 |.arr e s,.arr e' s'=>Nat.beq e e'&&Nat.beq s s'
 |.mp t,.mp t'=>Nat.beq t t'
 |.mp _,.gone=>true
 |_,_=>false
def Q0G(S RS:Y Sp)(ν:Y Nat):Bool:=
 Xn ((Kx S).map (·.1)++ν)&&(Xn ((Kx S).map (·.1))&&((Kx S).all (λx=>Nat.ble 1000000 x.1)&&(Xn ((Kx RS).map (·.1)) &&
  ((Kx S).all (λx=>PM x.1 ((Kx RS).map (·.1))&&(Kx RS).all λy=>!(Nat.beq y.1 x.1)||Qja x.2 y.2)&&ν.all (λm=>PM m ((Kx RS).map (·.1))&&(Kx RS).all λy=>!(Nat.beq y.1 m)||!(QfE y.2))))))
theorem AF{σ:Y (Nat×Nat)}{H H':Y (Nat×Ob)}:∀{τ:Y (Nat×Nat)},(∀j l,(j,l)∈τ->look H j=look H' j)->MQ σ H τ=MQ σ H' τ
 |[],_=>rfl
 |(j,l)::r,h=>by
  simp only[MQ];rw[h j l (Qq4 ..),AF λa b hm=>h a b (Qq3 _ hm)]
theorem Qaw{H:Y (Nat×Ob)}:∀{τ:Y (Nat×Nat)},(∀j l,(j,l)∈τ->(look H j).isSome=true)->QcH H τ
 |[],_=>trivial
 |(j,l)::r,h=>⟨h j l (Qq4 ..),Qaw λa b hm=>h a b (Qq3 _ hm)⟩
theorem Q8M{H H':Y (Nat×Ob)}:∀{τ:Y (Nat×Nat)},(∀j l,(j,l)∈τ->Q2E (look H j) (look H' j))->QgD H H' τ
 |[],_=>trivial
 |(j,l)::r,h=>⟨h j l (Qq4 ..),Q8M λa b hm=>h a b (Qq3 _ hm)⟩
theorem Q8L{ρ0:Y (Nat×Nat)}{hl:Nat->oP Ob}{H:Y (Nat×Ob)}:∀{τ:Y (Nat×Nat)},(∀j l,(j,l)∈τ->1000000<=j/\∃o o',hl l=some o/\look H j=some o'/\OLe ρ0 o o')->Qgp ρ0 hl H τ
 |[],_=>trivial
 |(j,l)::r,h=>⟨h j l (Qq4 ..),Q8L λa b hm=>h a b (Qq3 _ hm)⟩
def QeL{f:Nat}(b:EnP P f):EnP P f where
 E:=λR aa g ac hl k=>match ac with
  |[.gd _ _ .nil]=>bif g then none else k ⟨.nil,[],[]⟩
  |_=>b.E R aa g ac hl k
 ok:=by
  intro R aa g ac hl k r h;dsimp only at h;split at h
  ·exact Q9U h
  ·exact b.ok R aa g ac hl k r h
end
abbrev qI:DK:=.i .i64
abbrev qT:DK:=.t
abbrev qX:DK:=.x
abbrev qL(n:Nat):DK:=.l n
abbrev eA(l:Y DK):Sp:=.ag l
abbrev eP(p n:Nat):Sp:=.ptr p n
abbrev eI(p n:Nat):Sp:=.pin p n
abbrev eS(p:Nat):Sp:=.ps p
abbrev eR(p e s:Nat):Sp:=.arr p e s
abbrev eM(p t:Nat):Sp:=.mp p t
abbrev eF(f n:Nat):Sp:=.fn f n
abbrev eN:Sp:=.nil
abbrev eU:Sp:=.top
abbrev eG(p:Nat):Sp:=.gone p
abbrev eT(n:Nat):Sp:=.tup n
abbrev eH(p:Nat):Sp:=.ah p
abbrev eK(p e s:Nat):Sp:=.pina p e s
abbrev eO(n:Nat):Sp:=.agn n
abbrev sI:Sp:=.d (.i .i64)
abbrev sB:Sp:=.d .b
abbrev sT:Sp:=.d .t
abbrev sL(n:Nat):Sp:=.d (.l n)
end Go.Vx
namespace Go.Vx
inductive UI where
 |r (a b:Nat)
 |f (a:Nat)
 |t (x l:Nat)
 |h (b c l:Nat)
def nmT:TA->oP Nat
 |.ptr l _=>some l
 |.arr l=>some l
 |.ap l _=>some l
 |.ac l _ _=>some l
 |.sa l _=>some l
 |_=>none
def nmV:AV->oP Nat
 |.ptr l _=>some l
 |.arr l=>some l
 |.ap l _ _=>some l
 |.sa l _=>some l
 |_=>none
def Qjh:AV->Bool
 |.nil=>true
 |_=>false
def uN(mk:Nat->UI)(a:AV)(u:Y UI):oP Nat->Y UI
 |some l=>match nmV a with
  |some l'=>.r l' l::u
  |none=>bif Qjh a then mk l::u else u
 |none=>match nmV a with
  |some l'=>.f l'::u
  |none=>u
mutual
def uA(mk:Nat->UI):TA->AV->Y UI->Y UI
 |.top,_,u=>u
 |.ag l,.ag l',u=>uL mk l l' u
 |.tup l,.tup l',u=>uL mk l l' u
 |.fn _ l,.fn _ l',u=>uL mk l l' u
 |ta,a,u=>uN mk a u (nmT ta)
def uL(mk:Nat->UI):Y TA->Y AV->Y UI->Y UI
 |[],_,u=>u
 |ta::r,l,u=>match l with
  |a::s=>uL mk r s (uA mk ta a u)
  |[]=>u
end
def QhH:Y UI->Nat->Nat
 |[],l=>l
 |.r a b::u,l=>bif Nat.beq b l then a else QhH u l
 |_::u,l=>QhH u l
def uB(b:Nat):Nat->Y TA->Y AV->Y UI->Y UI
 |_,[],_,u=>u
 |c,ta::r,l,u=>match l with
  |a::s=>uB b (c+1) r s (uA (.h b c) ta a u)
  |[]=>u
def uM(tm:Y (Nat×AV)):Y (Nat×TA)->Y UI->Y UI
 |[],u=>u
 |(t,a)::r,u=>uM tm r (uA (.t t) a (lkT tm t) u)
def uH(h:Y (Nat×Ob)):Y (Nat×TO)->Y UI->Y UI
 |[],u=>u
 |(l,.box cs)::r,u=>match look h (QhH u l)with
  |some (.box aa)=>uH h r (uB l 0 cs aa u)
  |_=>uH h r u
 |_::r,u=>uH h r u
def esT:TO->Nat×Nat
 |.arr e s=>(e,s)
 |.arc e s=>(e,s)
 |_=>(0,0)
def es1(Z:Y (Nat×TO))(l:Nat):Nat×Nat:=match look Z l with
 |some o=>esT o
 |none=>(0,0)
def mtU(Z:Nat->Nat×Nat):Y UI->Y (Nat×Nat×Nat×Nat)
 |[]=>[]
 |.t x l::u=>(x,l,(Z l).1,(Z l).2)::mtU Z u
 |_::u=>mtU Z u
def mhU(Z:Nat->Nat×Nat):Y UI->Y (Nat×Nat×Nat×Nat×Nat)
 |[]=>[]
 |.h b c l::u=>(b,c,l,(Z l).1,(Z l).2)::mhU Z u
 |_::u=>mhU Z u
def fzU:Y UI->Y Nat
 |[]=>[]
 |.f a::u=>a::fzU u
 |_::u=>fzU u
def idN(l:Y Nat):Y (Nat×Nat):=l.map λx=>(x,x)
def QjH(ks os:Y Nat)(Z:Nat->Nat×Nat)(u:Y UI):Cfg:=⟨ks,os.map λl=>(QhH u l,l),mtU Z u,mhU Z u,fzU u⟩
def nU(Z:TS)(st:St):St:=Qe2 ⟨Z.tm.map (·.1),idN (Z.h.map (·.1)),[],[],[]⟩ (Qe2 (QjH (Z.tm.map (·.1)) (Z.h.map (·.1)) (es1 Z.h) (uH st.h Z.h (uM st.tm Z.tm []))) st)
section
variable{P:Program} {E:Env}
theorem Q17(Z:TS){st:St}{a:Act}{w:World}(h:JB E st a w):JB E (nU Z st) a w:=P4 _ (P4 _ h)
end
structure XT where
 k:Exit
 Z:TS
 s:List Nat
def QjT:Exit->Exit->Bool
 |.exit a,.exit b=>Nat.beq a b
 |.ret,.ret=>true
 |_,_=>false
def exN:Y XT->Exit->St->St
 |[],_,st=>st
 |x::r,e,st=>bif QjT x.k e&&(rdS x.Z (nU x.Z st)).isSome then nU x.Z st else exN r e st
theorem AR{E:Env}:∀(X:Y XT) (e:Exit) {st:St} {a:Act} {w:World},JB E st a w->JB E (exN X e st) a w
 |[],_,_,_,_,h=>h
 |x::r,e,st,a,w,h=>by
  unfold exN;cases QjT x.k e&&(rdS x.Z (nU x.Z st)).isSome with
  |true=>exact Q17 _ h
  |false=>exact AR r e h
def ltD:TA->Y LT->Y LT
 |.i _,r=>.I::r
 |.b,r=>.B::r
 |.t,r=>.T::r
 |.l _,r=>.L::r
 |.x,r=>.D::r
 |.el _,r=>.R::r
 |.ap _ _,r=>.N::r
 |.fs _,r=>.L::r
 |.mpd,r=>.M::r
 |_,r=>r
mutual
def ltA:TA->Y LT->Y LT
 |.ag l,r=>ltL l r
 |.tup l,r=>ltL l r
 |.fn _ l,r=>ltL l r
 |.gd _ _ a,r=>ltA a r
 |a,r=>ltD a r
def ltL:Y TA->Y LT->Y LT
 |[],r=>r
 |a::l,r=>ltA a (ltL l r)
end
def ltO:TO->Y LT->Y LT
 |.box l,r=>ltL l r
 |.arr _ _,r=>.L::r
 |.mp _,r=>.P::r
 |_,r=>r
def ltM:Y (Nat×TA)->Y LT->Y LT
 |[],r=>r
 |(_,a)::l,r=>ltA a (ltM l r)
def ltH:Y (Nat×TO)->Y LT
 |[]=>[]
 |(_,o)::l=>ltO o (ltH l)
def ltS(Z:TS):Y LT:=ltM Z.tm (ltH Z.h)
def QhC(d:Nat):Y LT->Nat->Y LT
 |[],_=>[]
 |t::ts,k=>bif Nat.beq (k % 3) d then t::QhC d ts (k / 3)else QhC d ts (k / 3)
def Qhx{α:Type}(d:Nat):Y α->Nat->Y α
 |[],_=>[]
 |x::xs,k=>bif Nat.beq (k % 3) d then x::Qhx d xs (k / 3)else Qhx d xs (k / 3)
def QbL:Y LT->Y Nat->Y LT
 |t::ts,s=>match s with
  |0::r=>t::QbL ts r
  |_::r=>QbL ts r
  |[]=>[]
 |[],_=>[]
def QaY(hs as:Y Lf):Y Nat->Y Lf->Y Lf
 |[],_=>[]
 |0::r,q=>match q with
  |x::q=>x::QaY hs as r q
  |[]=>[]
 |(j+1)::r,q=>bif Nat.ble 999 j then as.getD (j-999) (.N 0)::QaY hs as r q else hs.getD j (.N 0)::QaY hs as r q
def crL{β:Type}:(ts:Y LT)->(Y Lf->β)->LF ts β
 |[],f=>f []
 |t::ts,f=>λx=>crL ts λl=>f (Qbc t x::l)
def apO{α:Type}:(ts:Y LT)->LF ts α->Y Lf->oP α
 |[],f,l=>match l with
  |[]=>some f
  |_::_=>none
 |t::ts,f,l=>match l with
  |[]=>none
  |x::r=>match Q8F t x with
   |some v=>apO ts (f v) r
   |none=>none
def kT(R:Type):Y XT->Type->Type
 |[],α=>α
 |x::r,α=>LF (QbL (ltS x.Z) x.s) (oP R)->kT R r α
def apK{R α:Type}(hs:Y Lf)(k:Exit->St->oP R):(X:Y XT)->kT R X α->α
 |[],f=>f
 |x::r,f=>apK hs k r (f (crL _ λas=>k x.k (fiS x.Z (QaY hs as x.s as))))
def PT(ts:Y LT)(q:Nat)(X:Y XT)(R:Type):Type:=LF (QhC 1 ts q) (kT R X (Nat->LF (QhC 2 ts q) (oP R)))
def Qd1{ts:Y LT}{q:Nat}{X:Y XT}{R:Type}(f:PT ts q X R)(m:Nat)(k:Exit->St->oP R)(ls:Y Lf):oP R:=
 match apO _ f (Qhx 1 ls q)with
 |some g=>match apO _ (apK ls k X g m) (Qhx 2 ls q)with
  |some r=>r
  |none=>none
 |none=>none
inductive XD where
 |e (id:Nat) (add:List (Nat×TA)) (drop:List Nat) (o:List (Nat×TO)) (ov:List (Nat×Nat))
 |f (k:Exit) (tm:List (Nat×TA)) (h:List (Nat×TO)) (s:List Nat)
def Qjy(t:Nat)(a:TA):Y (Nat×TA)->Y (Nat×TA)
 |[]=>[(t,a)]
 |(k,d)::r=>bif Nat.beq k t then(t,a)::r else bif Nat.ble k t then(k,d)::Qjy t a r else(t,a)::(k,d)::r
def QeI:Y (Nat×TA)->Y (Nat×TA)->Y (Nat×TA)
 |[],z=>z
 |(t,a)::r,z=>QeI r (Qjy t a z)
def QdT:Y Nat->Y (Nat×TA)->Y (Nat×TA)
 |[],z=>z
 |t::r,z=>QdT r (rem t z)
def QiX(h:Y (Nat×TO)):Y (Nat×TO)->Y (Nat×TO)
 |[]=>h
 |(l,o)::r=>QiX (go l o h) r
where go (l:Nat) (o:TO):Y (Nat×TO)->Y (Nat×TO)
 |[]=>[(l,o)]
 |(k,b)::r=>bif Nat.beq k l then(l,o)::r else(k,b)::go l o r
def Qiy(b:Nat):Nat->Nat->Y Nat->Y Nat
 |_,0,r=>r
 |i,n+1,r=>(b+i)::Qiy b (i+1) n r
def Qi4:Y (Nat×TA)->Y Nat->Y Nat
 |[],r=>r
 |(t,a)::l,r=>Qiy (2000*t) 0 (ltA a []).length (Qi4 l r)
def Qjk:Y (Nat×TO)->Y Nat
 |[]=>[]
 |(l,o)::r=>Qiy (2000*l+1000) 0 (ltO o []).length (Qjk r)
def Qju(x:Nat):Nat->Y Nat->Nat->Nat
 |_,[],_=>0
 |j,k::r,q=>bif Nat.beq k x then bif Nat.beq (q % 3) 2 then 0 else j else Qju x (j+1) r (q / 3)
def QjS(hk:Y Nat)(q:Nat)(ov:Y (Nat×Nat)):Nat->Y Nat->Y Nat
 |_,[]=>[]
 |i,x::r=>(look ov i).getD (Qju x 1 hk q)::QjS hk q ov (i+1) r
def xT(n:Nat)(tm:Y (Nat×TA))(h:Y (Nat×TO))(q:Nat):XD->XT
 |.f k tm' h' s=>⟨k,⟨n,tm',h'⟩,s⟩
 |.e id ac aa o ov=>⟨.exit id,⟨n,QeI ac (QdT aa tm),QiX h o⟩,QjS (Qi4 tm (Qjk h)) q ov 0 (Qi4 (QeI ac (QdT aa tm)) (Qjk (QiX h o)))⟩
abbrev xE(id:Nat)(aa:Y (Nat×TA)):XD:=.e id aa [] [] []
def lpU{R:Type}(X:Y XT)(F:N6)(k:Exit->St->oP R):Exit->St->oP R:=λe st=>match e with
 |.normal=>F R st k
 |.exit id=>k (.exit id) (exN X (.exit id) st)
 |.ret=>k .ret (exN X .ret st)
 |_=>none
theorem Q0U{P:Program}{c:Code}(X:Y XT)(F:Nat->N6)(h0:∀(R:Type) st (k:Exit->St->oP R),F 0 R st k=none)(hs:∀(m:Nat) (E:Env) (R:Type) st (k:Exit->St->oP R) r,F (m+1) R st k=some r->∀a w,JB E st a w->c.wp P (E6 E (lpU X (F m) k) r) a w) :
  ∀(m:Nat) (E:Env) (R:Type) (st:St) (k:Exit->St->oP R) (r:R),F m R st k=some r->∀a w,JB E st a w->Code.rounds P c (E6 E k r) m a w
 |0,E,R,st,k,r,h=>by rw[h0]at h;cases h
 |m+1,E,R,st,k,r,h=>by
  intro a w hR;rw[rounds_succ];refine wp_mono (hs m E R st k r h a w hR) λe a' w' ⟨st',aa,hk⟩=>?_
  cases e with
  |normal=>exact Q0U X F h0 hs m E R st' k r hk a' w' aa
  |exit id=>exact⟨_,AR X _ aa,hk⟩
  |ret=>exact⟨_,AR X _ aa,hk⟩
  |_=>cases hk
def Q8D(r:Nat):Code->oP Code
 |.seq a b=>match Q8D r a with
  |some c=>some c
  |none=>Q8D r b
 |.cond _ a b=>match Q8D r a with
  |some c=>some c
  |none=>Q8D r b
 |.block _ c=>Q8D r c
 |.loop c=>bif Nat.beq (Q9i c) r then some c else Q8D r c
 |_=>none
def LpU(Z:TS)(f:(R:Type)->(Exit->St->oP R)->Y Lf->oP R):N6:=λR st k=>
 match rdS Z (nU Z st)with
 |some ls=>f R k ls
 |none=>none
theorem Qgu:∀(ts:Y LT) {α:Type} (f:LF ts α) (l:Y Lf) (r:α),apO ts f l=some r->∃v:HL ts,l=toL ts v
 |[],α,f,l,r,h=>by
  cases l with
  |nil=>exact⟨(),rfl⟩
  |cons x l=>cases h
 |t::ts,α,f,l,r,h=>by
  cases l with
  |nil=>cases h
  |cons x l=>
   replace h:(match Q8F t x with | some v=>apO ts (f v) l | none=>none)=some r:=h
   split at h
   ·rename_i v hv;obtain⟨u,h2⟩:=Qgu ts (f v) l r h;exact⟨(v,u),by rw[NB hv,h2];rfl⟩
   ·cases h
def QhB:Y LT->Y Lf->Bool
 |[],l=>match l with
  |[]=>true
  |_::_=>false
 |t::ts,l=>match l with
  |[]=>false
  |x::r=>(Q8F t x).isSome&&QhB ts r
theorem Fb:∀{ts:Y LT} {l:Y Lf},QhB ts l=true->∃v:HL ts,l=toL ts v
 |[],[],_=>⟨(),rfl⟩
 |[],_::_,h=>by cases h
 |_::_,[],h=>by cases h
 |t::ts,x::l,h=>by
  simp only[QhB,Qq2]at h;obtain⟨v,hv⟩:=Option.isSome_iff_exists.1 h.1;obtain⟨u,hu⟩:=Fb h.2;exact⟨(v,u),by rw[NB hv,hu];rfl⟩
def Qfc(ts:Y LT){R:Type}(f:Y Lf->oP R)(ls:Y Lf):oP R:=bif QhB ts ls then f ls else none
def mkU{P:Program}{C:VC}(hC:VCOk P C)(T:Y (LpE P))(r:Nat)(fn:Func)(tm:Y (Nat×TA))(h:Y (Nat×TO))(q:Nat)(X:Y XD){τ:Type->Type}(f:(R:Type)->Nat->τ R)(n m:Nat)(hτ:∀R,τ R=PT (ltM tm (ltH h)) q (X.map (xT fn.ntmps tm h q)) R:=by intro R;kernel_rfl)(hr:(Q8D r (V6 fn)).isSome=true:=by kernel_rfl)(hT:Md T (WN ((Q8D r (V6 fn)).getD .skip))=T.map λe=>(e.r,e.c):=by kernel_rfl)(hn:Xn (T.map (·.r))=true:=by rfl)(h0:∀(R:Type) (k:Exit->St->oP R) (v:HL (ltM tm (ltH h))),Qd1 (cast (hτ R) (f R n)) 0 k (toL _ v)=none:=by intro R k v;kernel_rfl)(hs:∀(m:Nat) (R:Type) (k:Exit->St->oP R) (v:HL (ltM tm (ltH h))),Qd1 (cast (hτ R) (f R n)) (m+1) k (toL _ v)=Q89 C T ((Q8D r (V6 fn)).getD .skip) (fiS ⟨fn.ntmps,tm,h⟩ (toL _ v)) (lpU (X.map (xT fn.ntmps tm h q)) (LpU ⟨fn.ntmps,tm,h⟩ λR k=>Qfc (ltM tm (ltH h)) (Qd1 (cast (hτ R) (f R n)) m k)) k):=by intro m R k v;kernel_rfl):LpE P where
 r:=r
 c:=(Q8D r (V6 fn)).getD .skip
 L:=LpU ⟨fn.ntmps,tm,h⟩ λR k=>Qfc (ltM tm (ltH h)) (Qd1 (cast (hτ R) (f R n)) m k)
 t:=λst=>(rdS ⟨fn.ntmps,tm,h⟩ (nU ⟨fn.ntmps,tm,h⟩ st)).isSome
 ok:=by
  have hT:=Bf hn hT;intro E R st k x h' a w hR;refine wp_loop_rounds m (Q0U (X.map (xT fn.ntmps tm h q)) (λm=>LpU ⟨fn.ntmps,tm,h⟩ λR k=>Qfc (ltM tm (ltH h)) (Qd1 (cast (hτ R) (f R n)) m k)) (λR st k=>?_) (λm E R st k x h' a w hR=>?_) m E R st k x h' a w hR)
  ·cases hx:LpU ⟨fn.ntmps,tm,h⟩ (λR k=>Qfc (ltM tm (ltH h)) (Qd1 (cast (hτ R) (f R n)) 0 k)) R st k with
   |none=>rfl
   |some x=>
    unfold LpU at hx;split at hx
    ·obtain⟨hb,hx⟩:=Xm hx;obtain⟨v,rfl⟩:=Fb hb;rw[h0]at hx;cases hx
    ·cases hx
  ·unfold LpU at h';split at h'
   ·rename_i ls aj;obtain⟨hb,h'⟩:=Xm h';obtain⟨v,rfl⟩:=Fb hb;rw[hs,Ee aj]at h';exact MC hC _ hT _ _ x h' a w (Q17 _ hR)
   ·cases h'
structure VB(P:Program) where
 C:VC
 ok:VCOk P C
def QbQ{P:Program}(l:Y ((f:Nat)×EnP P f)):Y (Nat×PJ):=l.map λe=>(e.1,e.2.E)
theorem Bm{P:Program}:∀l:Y ((f:Nat)×EnP P f),Q72 P (QbQ l)
 |[]=>trivial
 |e::r=>⟨e.2.ok,Bm r⟩
def Qkn{P:Program}{f:Nat}(l:Y Nat)(a b:EnP P f):EnP P f:=⟨Qj5 l a.E b.E,QdG _ a.ok b.ok⟩
def uR(h:Y (Nat×Ob)):Y Sp->Y (AV×(Nat->Nat->UI))->Y UI->Y UI
 |[],_,u=>u
 |.tup _::r,st,u=>uR h r st u
 |.gone _::r,st,u=>uR h r st u
 |.pinm _ _::r,st,u=>uR h r st u
 |.pina _ _ _::r,st,u=>uR h r st u
 |.pin p _::r,st,u=>match look h p with
  |some (.box cs)=>uR h r (plC (.h p) 0 cs++st) u
  |_=>u
 |.ptr p _::r,st,u=>match st with
  |(.ptr l _,_)::st=>match look h l with
   |some (.box cs)=>uR h r (plC (.h p) 0 cs++st) (.r l p::u)
   |_=>u
  |_=>u
 |.ag _::r,st,u=>match st with
  |(.ag l,_)::st=>uR h r st (l.foldl (λu a=>uN (λ_=>.f 0) a u none) u)
  |_::st=>uR h r st u
  |_=>u
 |.agn _::r,st,u=>match st with
  |(.ag l,q)::st=>uR h r (plC q 0 l++st) u
  |_=>u
 |.fn _ _::r,st,u=>match st with
  |(.fn _ l,q)::st=>uR h r (plC q 0 l++st) u
  |_=>u
 |.arr p _ _::r,st,u=>match st with
  |(a,q)::st=>uR h r st (uN (q 0) a u (some p))
  |_=>u
 |.mp p _::r,st,u=>match st with
  |(a,q)::st=>uR h r st (uN (q 0) a u (some p))
  |_=>u
 |.d _::r,st,u=>match st with
  |(a,q)::st=>uR h r st (uN (q 0) a u none)
  |_=>u
 |_::r,st,u=>uR h r st.tail u
where
 plC (q:Nat->Nat->UI):Nat->Y AV->Y (AV×(Nat->Nat->UI))
  |_,[]=>[]
  |i,a::l=>(a,λj=>q (i+j))::plC q (i+1) l
def esR:Y Sp->Nat->Nat×Nat
 |[],_=>(0,0)
 |.arr p e s::r,l=>bif Nat.beq p l then(e,s)else esR r l
 |_::r,l=>esR r l
def osR:Y (Nat×OK)->Y Nat
 |[]=>[]
 |(_,.gone)::r=>osR r
 |(p,_)::r=>p::osR r
def rsT:Y ResultVar->Y Nat
 |[]=>[]
 |.tmp t::r=>t::rsT r
 |.cell a _::r=>a::rsT r
def rsO(st:St):Y ResultVar->Y Nat
 |[]=>[]
 |.tmp _::r=>rsO st r
 |.cell a _::r=>match lkT st.tm a with
  |.ptr l _=>l::rsO st r
  |_=>rsO st r
def rsV(tt:TT)(st:St):Y ResultVar->Y (AV×(Nat->Nat->UI))
 |[]=>[]
 |.tmp t::r=>(lkT st.tm t,λ_=>.t t)::rsV tt st r
 |.cell a ty::r=>match Q4z tt st (.cell a ty),lkT st.tm a with
  |some v,.ptr l off=>(v,λi=>.h l (off+i))::rsV tt st r
  |_,_=>rsV tt st r
def nR(tt:TT)(RS:Y Sp)(rs:Y ResultVar)(st:St):St:=
 Qe2 (QjH (rsT rs) (rsO st rs++osR (Kx RS)) (esR RS) (uR st.h RS (rsV tt st rs) [])) st
def Qfe{R:Type}{P:Program}(C:VC)(T:Y (LpE P))(N:St->St)(fn:Func)(args:Y AV)(h:Y (Nat×Ob))(k:AV->Y (Nat×Ob)->oP R):oP R:=
 bif fn.body.isSome&&(Nat.ble args.length fn.ntmps&&Ki args)then Q89 C T (V6 fn) { n:=fn.ntmps,tm:=Q2l 0 args,h:=h } (λe st=>fnK C.tt fn k e (N st))else none
section
variable{P:Program} {R:Type}
theorem Dw{C:VC}(hC:VCOk P C){T:Y (LpE P)}{f:Nat}{fn:Func}{N:St->St}(hN:∀(E:Env) (st:St) (a:Act) (w:World),JB E st a w->JB E (N st) a w)(hf:P.funcs[f]? = some fn)(hT:Md T (WN (V6 fn))=T.map λe=>(e.r,e.c))(hn:Xn (T.map (·.r))=true){args:Y AV}{H:Y (Nat×Ob)}{k:AV->Y (Nat×Ob)->oP R}{r:R}(h:Qfe C T N fn args H k=some r)(β:Nat->oP Nat)(S:Nat->Prop)(w:World)(vs:Y Value)(hO:Objs β S (look H) w)(hA:ArgsRd β S (look H) w vs args):Calls P f vs.toArray w (Nd H k r β S w):=by
 obtain⟨hb,h⟩:=Xm h;simp only[Qq2]at hb;obtain⟨c,hc⟩:=Option.isSome_iff_exists.1 hb.1;have aa:V6 fn=c:=by grind[V6]
 rw[aa]at h hT;exact Q1M hC hf hc Q4 (λa hR=>wp_mono (MC hC c (Bf hn hT) _ _ r h a w ⟨β,S,hR⟩) λe a w ⟨st,hR,hk⟩=>⟨_,hN _ _ _ _ hR,hk⟩) hO hA
def dkD:D->DK
 |.int k _=>.i k
 |.bool _=>.b
 |.str _=>.t
 |.sl s _=>.l s
 |.nl=>.l 0
def taD:D->TA
 |.int k _=>.i k
 |.bool _=>.b
 |.str _=>.t
 |.sl s _=>.l s
 |.nl=>.l 0
def zdT(tt:TT)(t:Nat):Y D:=match look tt t with
 |some ti=>ti.zd
 |none=>[]
def stT(tt:TT)(t:Nat):Sp:=match look tt t with
 |some ti=>bif UV ti.kd then .ag (ti.zd.map dkD)else match ti.zd with
  |d::_=>.d (dkD d)
  |[]=>.nil
 |none=>.nil
def sOf(tt:TT)(fn:Func):Y Sp:=fn.params.toList.map (stT tt)
def rOf(tt:TT)(fn:Func):Y Sp:=match fn.resultTypes.toList with
 |[t]=>[stT tt t]
 |l=>.tup l.length::l.map (stT tt)
def ovr{α:Type}(l:Y α):Y (Nat×α)->Y α
 |[]=>l
 |(i,a)::r=>ovr (l.set i a) r
def btT(tt:TT)(t:Nat)(o:Y (Nat×TA)):TO:=.box (ovr ((zdT tt t).map taD) o)
def ptT(tt:TT)(p t:Nat)(o:Y (Nat×Sp))(r:Y Sp):Y Sp:=.ptr p (zdT tt t).length::(ovr ((zdT tt t).map λd=>.d (dkD d)) o++r)
def ssK:DK->Nat
 |.l s=>s
 |_=>0
def ssR:Y Sp->Y (Y Nat)
 |[]=>[]
 |.d k::r=>[ssK k]::ssR r
 |.ag l::r=>l.map ssK::ssR r
 |_::r=>ssR r
def rsB:Y Sp->Y (Nat×Nat×Nat)->Y (Nat×Y Sp)->Y (Nat×Y Sp)
 |[],_,a=>a
 |s::r,c,a=>match c.dropWhile λx=>Nat.beq x.2.1 0 with
  |[]=>match s with
   |.ptr p n=>rsB r [(p,n,0)] (a++[(p,[])])
   |_=>rsB r [] a
  |(q,m,i)::c=>match s with
   |.ptr p n=>rsB r ((p,n,0)::(q,m-1,i+1)::c) (add q (.ps p) a++[(p,[])])
   |.arr _ e z=>rsB r ((q,m-1,i+1)::c) (add q (.arr (98000+(q-1000000)*40+i) e z) a)
   |s=>rsB r ((q,m-1,i+1)::c) (add q s a)
where add (q:Nat) (s:Sp):Y (Nat×Y Sp)->Y (Nat×Y Sp)
 |[]=>[]
 |(p,l)::r=>bif Nat.beq p q then(p,l++[s])::r else(p,l)::add q s r
def rsM:Y Sp->Y Sp
 |[]=>[]
 |.mp p t::r=>.pinm p t::rsM r
 |_::r=>rsM r
def rsG:Y Sp->Y Sp
 |[]=>[]
 |.arr p _ _::r=>.gone p::rsG r
 |_::r=>rsG r
def N7(rs S:Y Sp)(o:Y (Nat×Sp)):Y Sp:=ovr (rs++((rsB S [] []).flatMap (λx=>.pin x.1 x.2.length::x.2)++(rsM S++rsG S))) o
def Q37:Y (Nat×OK)->Y Nat
 |[]=>[]
 |(_,.gone)::r=>Q37 r
 |(p,_)::r=>bif Nat.ble 1000000 p then Q37 r else p::Q37 r
def ky1(k:Nat)(c:Y (Nat×Nat×Nat)):Sp->Y Nat×Y (Nat×Nat×Nat)
 |.ptr p n=>([],(p,n,0)::c)
 |.pin p n=>([],[(p,n,0)])
 |.fn _ n=>([],(0,n,0)::c)
 |.agn n=>([],(0,n,0)::c)
 |.ag ks=>(ks.map λ_=>0,c)
 |.d _=>([k],c)
 |.arr _ _ _=>([k],c)
 |.mp _ _=>([k],c)
 |.pinm _ _=>([0],[])
 |.pina _ _ _=>([0],[])
 |.tup _=>([],[])
 |_=>([],c)
def kyT:Y (Nat×Nat×Nat)->Nat×Y (Nat×Nat×Nat)
 |[]=>(0,[])
 |(q,m,i)::c=>(q*1000+i,(q,m-1,i+1)::c)
def kyS:Y Sp->Y (Nat×Nat×Nat)->Y Nat
 |[],_=>[]
 |s::r,c=>(ky1 (kyT (c.dropWhile λx=>Nat.beq x.2.1 0)).1 (kyT (c.dropWhile λx=>Nat.beq x.2.1 0)).2 s).1++kyS r (ky1 (kyT (c.dropWhile λx=>Nat.beq x.2.1 0)).1 (kyT (c.dropWhile λx=>Nat.beq x.2.1 0)).2 s).2
def Qjp(x:Nat):Nat->Y Nat->Nat
 |_,[]=>0
 |j,k::r=>bif Nat.beq k x then j else Qjp x (j+1) r
def QgU(ks:Y Nat):Y Nat->Nat->Y Nat
 |[],_=>[]
 |x::r,q=>(bif Nat.beq (q % 2) 1 then Qjp x 1 ks else 0)::QgU ks r (q / 2)
def dlF(RS:Y Sp)(σ ρ:Y (Nat×Nat))(ls:Y Lf):Dl:=⟨U7 σ ((bdS RS ls).1.headD .top),MQ σ (bdS RS ls).2 σ,ρ.map (·.2)⟩
theorem Bi {f:Nat} {fn:Func} {S RS:Y Sp} {ν:Y Nat} (hs:Q0G S RS ν=true) {avs:Y AV} {hl:Nat->oP Ob} {ρ:Y (Nat×Nat)} {site:Nat} {v:HL (lts S)} (hk:ρ.map (·.1)=(Kx S).map (·.1)) (hnew:Na hl ρ (nus site 1 ν)=true)
  (hc : ∀ρF, (∀p l, (p, l) ∈ [] ++ ρ -> look ρF p = some l) -> SRL ρF avs (bdS S (toL _ v)).1 /\ HinP ρF hl (Kx S) (bdS S (toL _ v)).2 ρ) (hf : P.funcs[f]? = some fn) (hb : fn.body.isSome = true) (hn : (fn.name == "runtime.NumGoroutine") = false)
  {α:Type} {K:AV->Y (Nat×Ob)->oP α} {res:α} {full:Y Lf} (hK:∀av H',K av H'=some res->rdR (look H') RS [av]=some full)
  (hlen:∀(p e s:Nat) (rows':Y (Y D)) (e0 s0:Nat) (rows:Y (Y D)),(p,Ob.arr e s rows')∈(bdS RS full).2->look (bdS S (toL _ v)).2 p=some (.arr e0 s0 rows)->rows'.length=rows.length)
  (hcall:∀(β:Nat->oP Nat) (S':Nat->Prop) (w:World) (vs:Y Value),Objs β S' (look (bdS S (toL _ v)).2) w->ArgsRd β S' (look (bdS S (toL _ v)).2) w vs (bdS S (toL _ v)).1->Calls P f vs.toArray w (Nd (bdS S (toL _ v)).2 K res β S' w)) :
  ZW P f avs hl (dlF RS (ρ++nus site 1 ν) ρ full):=by
 simp only[Q0G,Qq2,List.all_eq_true,Bool.or_eq_true,Qq5]at hs;obtain⟨s1,s2,s3,s4,s5,s6⟩:=hs;have hnd:Xn (ρ.map (·.1))=true:=by rw[hk];exact s2
 obtain⟨c1,c2⟩:=hc ρ (λp l hm=>LU hnd (by simpa using hm));have hkeys:=c2.map1;have inS:∀{j l:Nat},(j,l)∈ρ->∃κ,(j,κ)∈Kx S:=λhm=>by
  obtain⟨κ,_,_,g1,_⟩:=c2.at hnd hm;exact⟨κ,g1⟩
 have inR:∀{j l:Nat},(j,l)∈ρ++nus site 1 ν->∃κ,(j,κ)∈Kx RS:=λ{j l} hm=>by
  rcases List.mem_append.1 hm with hm | hm
  ·obtain⟨κ,g1⟩:=inS hm;exact Fe (s5 _ g1).1
  ·have:j∈ν:=by rw[<- Bb site 1 ν];exact List.mem_map.2 ⟨_,hm,rfl⟩
   exact Fe (s6 _ this).1
 refine Q1v (fn:=fn) (ρ:=ρ) (ν:=nus site 1 ν) (avs':=(bdS S (toL _ v)).1) (H:=(bdS S (toL _ v)).2) (K:=K) (res:=res) hf hb hn c1.cle (by rw[List.map_append,Bb,hk];exact s1) hnd hnew (Q8L λj l hm=>?_) hkeys.1 (by simp only[wrL,dlF];exact Bw _ _ _) hcall (λav H' hx=>?_)
 ·obtain⟨κ,o,o0,g1,g2,g3,g4,_⟩:=c2.at hnd hm;exact⟨Nat.le_of_ble_eq_true (s3 _ g1),o0,o,g3,g2,g4⟩
 ·obtain⟨i1,i2⟩:=Q6L _ _ _ (hK av H' hx);have hat:∀j l,(j,l)∈ρ++nus site 1 ν->look (bdS RS full).2 j=look H' j:=λj l hm=>by
   obtain⟨κ,g1⟩:=inR hm;exact(i2.at s4 g1).1
  refine⟨by simp only[dlF];rw[i1];rfl,?_,Qaw λj l hm=>?_,Q8M λj l hm=>?_⟩
  ·exact(AF hat).symm
  ·have hj:j∈ν:=by rw[<- Bb site 1 ν];exact List.mem_map.2 ⟨_,hm,rfl⟩
   obtain⟨κ,g1⟩:=Fe (s6 _ hj).1;rcases (i2.at s4 g1).2 with⟨rfl,_⟩|⟨o,ho,_⟩
   ·rcases (s6 _ hj).2 _ g1 with g | g
    ·simp[Nat.beq_refl]at g
    ·cases g
   ·rw[ho];rfl
  ·obtain⟨κ,o,o0,g1,g2,g3,g4,g5⟩:=c2.at hnd hm;obtain⟨κ',g6⟩:=Fe (s5 _ g1).1;have he:Qja κ κ'=true:=by
    rcases (s5 _ g1).2 _ g6 with g | g
    ·simp[Nat.beq_refl]at g
    ·exact g
   rw[g2];rcases (i2.at s4 g6).2 with⟨rfl,hno⟩|⟨o',ho',hk'⟩
   ·cases κ<;>try (cases he;done)
    ·cases o<;>try (exact False.elim g5)
     exact Q85 rfl hno
    ·cases o<;>try (exact False.elim g5)
     exact Q5t rfl hno
   ·cases κ<;>cases κ'<;>try (cases he;done)
    ·cases o<;>try (exact False.elim g5)
     cases o'<;>try (exact False.elim hk')
     have he:=Qq1 he;simp only[KOb]at g5 hk';exact QaF rfl ho' I
    ·cases o<;>try (exact False.elim g5)
     cases o'<;>try (exact False.elim hk')
     simp only[Qja,Qq2]at he;have e1:=Qq1 he.1;have e2:=Qq1 he.2;obtain⟨rfl,rfl⟩:=g5;obtain⟨rfl,rfl⟩:=hk';subst e1 e2;exact Q7T rfl ho' (hlen _ _ _ _ _ _ _ (Y2 ((i2.at s4 g6).1.trans ho')) g2)
    ·cases o'<;>exact False.elim hk'
    ·cases o<;>try (exact False.elim g5)
     cases o'<;>try (exact False.elim hk')
     have he:=Qq1 he;simp only[KOb]at g5 hk';subst g5;subst hk';subst he;exact Q9G rfl ho'
    ·cases o'<;>exact False.elim hk'
def Q9v:Y Nat->Y Lf->Y Lf
 |0::s,x::l=>x::Q9v s l
 |(_+1)::s,_::l=>Q9v s l
 |_,_=>[]
theorem Q2A(hs as:Y Lf):∀(ts:Y LT) (s:Y Nat) (q:Y Lf),s.length=ts.length->q.length=(QbL ts s).length->Q9v s (QaY hs as s q)=q
 |[],[],q,_,h=>by
  cases q with
  |nil=>rfl
  |cons x q=>cases h
 |t::ts,0::s,q,h1,h2=>by
  cases q with
  |nil=>cases h2
  |cons x q=>exact congrArg (x::·) (Q2A hs as ts s q (Nat.succ.inj h1) (Nat.succ.inj h2))
 |t::ts,(j+1)::s,q,h1,h2=>by
  have:=Q2A hs as ts s q (Nat.succ.inj h1) h2;simp only[QaY];cases Nat.ble 999 j<;>simpa[Q9v]using this
theorem Q8J:∀(ts:Y LT) (v:HT ts),(toT ts v).length=ts.length
 |[],_=>rfl
 |[t],_=>rfl
 |t::u::ts,v=>congrArg (· + 1) (Q8J (u::ts) v.2)
theorem Q9F(t:LT)(x:t.ty):Q8F t (Qbc t x)=some x:=by cases t<;>rfl
theorem Q9u:∀(ts:Y LT) (v:HT ts),ofT ts (toT ts v)=some v
 |[],_=>rfl
 |[t],v=>Q9F t v
 |t::u::ts,v=>by
  show(match Q8F t (Qbc t v.1),ofT (u::ts) (toT (u::ts) v.2)with | some a,some b=>some (a,b) | _,_=>none)=some v;rw[Q9F,Q9u (u::ts)];rfl
theorem Qdc{β:Type}:∀(ts:Y LT) (G:Y Lf->β) (k:HT ts->β),(∀r,G (toT ts r)=k r)->crL ts G=crT ts k
 |[],G,k,h=>h ()
 |[t],G,k,h=>funext λx=>h x
 |t::u::ts,G,k,h=>funext λx=>Qdc (u::ts) (λl=>G (Qbc t x::l)) (λr=>k (x,r)) λr=>h (x,r)
def drT:Y LT->Nat->Y LT
 |[],_=>[]
 |t::ts,a=>bif Nat.beq (a % 2) 1 then drT ts (a / 2)else t::drT ts (a / 2)
def drL:Y Lf->Nat->Y Lf
 |[],_=>[]
 |x::xs,a=>bif Nat.beq (a % 2) 1 then drL xs (a / 2)else x::drL xs (a / 2)
def FT(S:Y Sp)(a:Nat)(rs:Y LT)(R:Type):Type:=LF (drT (lts S) a) (LF rs (oP R)->oP R)
def apF{S:Y Sp}{a:Nat}{rs:Y LT}{R:Type}(F:FT S a rs R)(ls:Y Lf)(K:LF rs (oP R)):oP R:=match apO _ F (drL ls a)with
 |some p=>p K
 |none=>none
def pF{S:Y Sp}{a:Nat}{rs:Y LT}(F:FT S a rs (HT rs)):LF (lts S) (oP (HT rs)):=crL (lts S) λls=>apF F ls (crT rs some)
theorem Q9M{β:Type}:∀(ts:Y LT) (G:Y Lf->β) (v:HL ts),apH ts (crL ts G) v=G (toL ts v)
 |[],_,_=>rfl
 |t::ts,G,v=>Q9M ts (λl=>G (Qbc t v.1::l)) v.2
def kW{α:Type}(RS:Y Sp)(K:Y Lf->oP α):AV->Y (Nat×Ob)->oP α:=λav H=>match rdR (look H) RS [av]with
 |some ls=>K ls
 |none=>none
def Qk6(S RS:Y Sp)(s:Y Nat)(f:LF (lts S) (oP (HT (QbL (lts RS) s)))):PJ:=λ_ aa g ac hl k=>
 rdP g hl S ac [] λls ρ=>bif Na hl ρ (nus aa 1 (Q37 (Kx RS)))then gb g (apL (lts S) f ls) (zT _) λr=>Qcu g (bdS S ls).2 (bdS RS (QaY ls [] s (toT _ r))).2 (k (dlF RS (ρ++nus aa 1 (Q37 (Kx RS))) ρ (QaY ls [] s (toT _ r))))else none
theorem QeA {C:VC} (hC:VCOk P C) (T:Y (LpE P)) {f:Nat} (fn:Func) (S RS:Y Sp) (s:Y Nat) (a:Nat) (F:(R:Type)->FT S a (QbL (lts RS) s) R)
  (h:∀(α:Type) (K:Y Lf->oP α) (v:HL (lts S)),Qfe C T (nR C.tt RS fn.results.toList) fn (bdS S (toL _ v)).1 (bdS S (toL _ v)).2 (kW RS K)=apF (F α) (toL _ v) (crL _ λas=>K (QaY (toL _ v) [] s as)))
  (hfn : ∀v : HL (lts S), B4 S (toL _ v) = true) (hl : Nat.beq s.length (lts RS).length = true) (hs : Q0G S RS (Q37 (Kx RS)) = true) (hf : P.funcs[f]? = some fn) (hb : fn.body.isSome = true) (hn : (fn.name == "runtime.NumGoroutine") = false)
  (hT:Md T (WN (V6 fn))=T.map λe=>(e.r,e.c)) (hn2:Xn (T.map (·.r))=true):VH P f (Qk6 S RS s (pF (F _))):=by
 intro R site g avs hl' k r h0;obtain⟨ls,ρ,h1,hk,hc⟩:=Q2F S avs [] _ r h0;rw[List.nil_append]at h1;obtain⟨hnew,h1⟩:=Xm h1;obtain⟨res,h1,hres⟩:=Qy h1;obtain⟨h1,hlen⟩:=Hs h1;refine⟨_,h1,λhg=>?_⟩;obtain⟨v,hv,rfl⟩:=MA _ _ _ _ (hres hg);rw[pF,Q9M]at hv;let M (q:Y Lf):=QaY (toL _ v) [] s q;let K:Y Lf->oP (HT (QbL (lts RS) s)):=λfull=>open Classical in match ofT _ (Q9v s full)with
  |some r=>if full=M (toT _ r)then some r else none
  |none=>none
 have hK:∀r,K (M (toT _ r))=some r:=λr=>by
  simp only[K,M,Q2A _ _ (lts RS) s _ (Qq1 hl) (Q8J _ r),Q9u,if_true]
 refine Bi hs hk hnew (hc hg (hfn v)) hf hb hn (λav H' hx=>?_) (hlen hg) (Dw hC (λ_ _ _ _=>P4 _) hf hT hn2 ((h _ K v).trans (by rw[Qdc _ (λas=>K (M as)) _ hK];exact hv)));unfold kW at hx;split at hx
 ·rename_i ls hls;rw[hls];simp only[K]at hx;split at hx
  ·split at hx
   ·rename_i r' _ he;injection hx with hx
    subst hx;rw[he]
   ·cases hx
  ·cases hx
 ·cases hx
noncomputable def mkW {C:VC} (hC:VCOk P C) (T:Y (LpE P)) (f:Nat) (fn:Func) (S rs:Y Sp) (o:Y (Nat×Sp)) (a q:Nat) {τ:Type->Type} (F:(R:Type)->Nat->τ R) (n:Nat)
  (hτ:∀R,τ R=FT S a (QbL (lts (N7 rs S o)) (QgU (kyS S []) (kyS (N7 rs S o) []) q)) R:=by intro R;kernel_rfl)
  (h:∀(α:Type) (K:Y Lf->oP α) (v:HL (lts S)),Qfe C T (nR C.tt (N7 rs S o) fn.results.toList) fn (bdS S (toL _ v)).1 (bdS S (toL _ v)).2 (kW (N7 rs S o) K)=apF (S:=S) (a:=a) (rs:=QbL (lts (N7 rs S o)) (QgU (kyS S []) (kyS (N7 rs S o) []) q)) (cast (hτ α) (F α n)) (toL _ v) (crL _ λas=>K (QaY (toL _ v) [] (QgU (kyS S []) (kyS (N7 rs S o) []) q) as)):=by intro α K v;kernel_rfl)
  (hfn : ∀v : HL (lts S), B4 S (toL _ v) = true := by intro v; kernel_rfl) (hl : Nat.beq (QgU (kyS S []) (kyS (N7 rs S o) []) q).length (lts (N7 rs S o)).length = true := by kernel_rfl) (hs : Q0G S (N7 rs S o) (Q37 (Kx (N7 rs S o))) = true := by kernel_rfl) (hf : P.funcs[f]? = some fn := by kernel_rfl) (hb : fn.body.isSome = true := by kernel_rfl) (hn : (fn.name == "runtime.NumGoroutine") = false := by kernel_rfl)
  (hT:Md T (WN (V6 fn))=T.map λe=>(e.r,e.c):=by kernel_rfl) (hn2:Xn (T.map (·.r))=true:=by kernel_rfl):EnP P f:=
 ⟨_,QeA hC T fn S (N7 rs S o) _ a (λR=>cast (hτ R) (F R n)) h hfn hl hs hf hb hn hT hn2⟩
noncomputable def mkF {C:VC} (hC:VCOk P C) (T:Y (LpE P)) (f:Nat) (fn:Func) (S RS:Y Sp) (a:Nat) {τ:Type->Type} (F:(R:Type)->Nat->τ R) (n:Nat) (hτ:∀R,τ R=FT S a (lts RS) R:=by intro R;kernel_rfl)
  (h : ∀v, vfnT C T fn (bdS S (toL _ v)).1 [] (retF (ssR RS) (kE RS)) = apH _ (pF (cast (hτ _) (F _ n))) v := by intro v; kernel_rfl) (hd : Rg S = true := by kernel_rfl) (hf : P.funcs[f]? = some fn := by kernel_rfl) (hb : fn.body.isSome = true := by kernel_rfl) (hn : (fn.name == "runtime.NumGoroutine") = false := by kernel_rfl)
  (hT:Md T (WN (V6 fn))=T.map λe=>(e.r,e.c):=by kernel_rfl) (hn2:Xn (T.map (·.r))=true:=by kernel_rfl):EnP P f:=
 ⟨_,QeS hC T fn (ssR RS) S RS (pF (cast (hτ _) (F _ n))) h hd hf hb hn hT hn2⟩
noncomputable def mkD {C:VC} (hC:VCOk P C) (T:Y (LpE P)) (f:Nat) (fn:Func) (a:Nat) {τ:Type->Type} (F:(R:Type)->Nat->τ R) (n:Nat) (hτ:∀R,τ R=FT (sOf C.tt fn) a (lts (rOf C.tt fn)) R:=by intro R;kernel_rfl)
  (h : ∀v, vfnT C T fn (bdS (sOf C.tt fn) (toL _ v)).1 [] (retF (ssR (rOf C.tt fn)) (kE (rOf C.tt fn))) = apH _ (pF (cast (hτ _) (F _ n))) v := by intro v; kernel_rfl) (hd : Rg (sOf C.tt fn) = true := by kernel_rfl) (hf : P.funcs[f]? = some fn := by kernel_rfl) (hb : fn.body.isSome = true := by kernel_rfl) (hn : (fn.name == "runtime.NumGoroutine") = false := by kernel_rfl)
  (hT:Md T (WN (V6 fn))=T.map λe=>(e.r,e.c):=by kernel_rfl) (hn2:Xn (T.map (·.r))=true:=by kernel_rfl):EnP P f:=mkF hC T f fn (sOf C.tt fn) (rOf C.tt fn) a F n hτ h hd hf hb hn hT hn2
def FX(S:Y Sp)(a:Nat)(ra rb:Y LT)(R:Type):Type:=LF (drT (lts S) a) (LF ra (oP R)->LF rb (oP R)->oP R)
def pX{S:Y Sp}{a:Nat}{ra rb:Y LT}(F:FX S a ra rb (HT ra ⊕ HT rb)):LF (lts S) (oP (HT ra ⊕ HT rb)):=crL (lts S) λls=>match apO _ F (drL ls a)with
 |some p=>p (crT ra λx=>some (.inl x)) (crT rb λx=>some (.inr x))
 |none=>none
def kX(RA RB:Y Sp):AV->Y (Nat×Ob)->oP (HT (lts RA) ⊕ HT (lts RB)):=λav H=>match kG RA av H with
 |some a=>some (.inl a)
 |none=>match kG RB av H with
  |some b=>some (.inr b)
  |none=>none
theorem Q61{RS:Y Sp}{av:AV}{H:Y (Nat×Ob)}{r:HT (lts RS)}(h:kG RS av H=some r):rdR (look H) RS [av]=some (toT _ r):=by
 grind[kG,Q1X]
def nX(tt:TT)(RA RB:Y Sp)(rs:Y ResultVar)(st:St):St:=bif match Q0x tt (nR tt RB rs st) rs with
  |some av=>(rdR (look (nR tt RB rs st).h) RB [av]).isSome
  |none=>false
 then nR tt RB rs st else nR tt RA rs st
def Qki(S RA RB:Y Sp)(f:LF (lts S) (oP (HT (lts RA) ⊕ HT (lts RB)))):PJ:=λ_ aa g ac hl k=>
 rdP g hl S ac [] λls ρ=>bif Na hl ρ (nus aa 1 (Q37 (Kx RA)))&&Na hl ρ (nus aa 1 (Q37 (Kx RB)))then gb g (apL (lts S) f ls) (.inl (zT _)) λr=>
  smX r (λa=>Qcu g (bdS S ls).2 (bdS RA (toT _ a)).2 (k (dlF RA (ρ++nus aa 1 (Q37 (Kx RA))) ρ (toT _ a)))) (λb=>Qcu g (bdS S ls).2 (bdS RB (toT _ b)).2 (k (dlF RB (ρ++nus aa 1 (Q37 (Kx RB))) ρ (toT _ b))))else none
theorem Qe4 {C:VC} (hC:VCOk P C) (T:Y (LpE P)) {f:Nat} (fn:Func) (S RA RB:Y Sp) (p:LF (lts S) (oP (HT (lts RA) ⊕ HT (lts RB))))
  (h:∀v,Qfe C T (nX C.tt RA RB fn.results.toList) fn (bdS S (toL _ v)).1 (bdS S (toL _ v)).2 (kX RA RB)=apH _ p v)
  (hfn : ∀v : HL (lts S), B4 S (toL _ v) = true) (hs : (Q0G S RA (Q37 (Kx RA)) && Q0G S RB (Q37 (Kx RB))) = true) (hf : P.funcs[f]? = some fn) (hb : fn.body.isSome = true) (hn : (fn.name == "runtime.NumGoroutine") = false)
  (hT:Md T (WN (V6 fn))=T.map λe=>(e.r,e.c)) (hn2:Xn (T.map (·.r))=true):VH P f (Qki S RA RB p):=by
 intro R site g avs hl' k r h0;obtain⟨ls,ρ,h1,hk,hc⟩:=Q2F S avs [] _ r h0;rw[List.nil_append]at h1;obtain⟨hnew,h1⟩:=Xm h1;simp only[Qq2]at hnew hs;obtain⟨res,h1,hres⟩:=Qy h1;have hN:∀(E:Env) (st:St) (a:Act) (w:World),JB E st a w->JB E (nX C.tt RA RB fn.results.toList st) a w:=λE st a w hR=>by
  grind[nX,Q0x,nR,rdR,look,P4]
 have key:g=true->∃v,ls=toL (lts S) v/\∀(β:Nat->oP Nat) (S':Nat->Prop) (w:World) (vs:Y Value),Objs β S' (look (bdS S (toL _ v)).2) w->ArgsRd β S' (look (bdS S (toL _ v)).2) w vs (bdS S (toL _ v)).1->Calls P f vs.toArray w (Nd (bdS S (toL _ v)).2 (kX RA RB) res β S' w):=λhg=>by
  obtain⟨v,hv,rfl⟩:=MA _ _ _ _ (hres hg);exact⟨v,rfl,Dw hC hN hf hT hn2 ((h v).trans hv)⟩
 cases res with
 |inl a=>
  obtain⟨h1,hlen⟩:=Hs h1;refine⟨_,h1,λhg=>?_⟩;obtain⟨v,rfl,hcall⟩:=key hg;refine Bi hs.1 hk hnew.1 (hc hg (hfn v)) hf hb hn (λav H' hx=>?_) (hlen hg) hcall;unfold kX at hx;split at hx
  ·rename_i a' ha;injection hx with hx
   injection hx with hx
   subst hx;exact Q61 ha
  ·split at hx<;>cases hx
 |inr b=>
  obtain⟨h1,hlen⟩:=Hs h1;refine⟨_,h1,λhg=>?_⟩;obtain⟨v,rfl,hcall⟩:=key hg;refine Bi hs.2 hk hnew.2 (hc hg (hfn v)) hf hb hn (λav H' hx=>?_) (hlen hg) hcall;unfold kX at hx;split at hx
  ·cases hx
  ·split at hx
   ·rename_i b' hb';injection hx with hx
    injection hx with hx
    subst hx;exact Q61 hb'
   ·cases hx
noncomputable def mkX {C:VC} (hC:VCOk P C) (T:Y (LpE P)) (f:Nat) (fn:Func) (S RA RB:Y Sp) (a:Nat) {τ:Type->Type} (F:(R:Type)->Nat->τ R) (n:Nat) (hτ:∀R,τ R=FX S a (lts RA) (lts RB) R:=by intro R;kernel_rfl)
  (h:∀v,Qfe C T (nX C.tt RA RB fn.results.toList) fn (bdS S (toL _ v)).1 (bdS S (toL _ v)).2 (kX RA RB)=apH _ (pX (cast (hτ _) (F _ n))) v:=by intro v;kernel_rfl)
  (hfn : ∀v : HL (lts S), B4 S (toL _ v) = true := by intro v; kernel_rfl) (hs : (Q0G S RA (Q37 (Kx RA)) && Q0G S RB (Q37 (Kx RB))) = true := by kernel_rfl) (hf : P.funcs[f]? = some fn := by kernel_rfl) (hb : fn.body.isSome = true := by kernel_rfl) (hn : (fn.name == "runtime.NumGoroutine") = false := by kernel_rfl)
  (hT:Md T (WN (V6 fn))=T.map λe=>(e.r,e.c):=by kernel_rfl) (hn2:Xn (T.map (·.r))=true:=by kernel_rfl):EnP P f:=
 ⟨_,Qe4 hC T fn S RA RB (pX (cast (hτ _) (F _ n))) h hfn hs hf hb hn hT hn2⟩
end
section
variable{P:Program}
def Qgn(S RS:Y Sp)(p:LF (lts S) (oP (HT (lts RS)))):PJ:=λ_ aa g ac hl k=>
 rdP g hl S ac [] λls ρ=>bif Na hl ρ (nus aa 1 (Q37 (Kx RS)))then gb g (apL (lts S) p ls) (zT _) λr=>Qcu g (bdS S ls).2 (bdS RS (toT _ r)).2 (k (dlF RS (ρ++nus aa 1 (Q37 (Kx RS))) ρ (toT _ r)))else none
theorem QaC {f:Nat} (fn:Func) (S RS:Y Sp) (p:LF (lts S) (oP (HT (lts RS))))
  (h:∀(v:HL (lts S)) (r:HT (lts RS)),apH _ p v=some r->∀(β:Nat->oP Nat) (S':Nat->Prop) (w:World) (vs:Y Value),Objs β S' (look (bdS S (toL _ v)).2) w->ArgsRd β S' (look (bdS S (toL _ v)).2) w vs (bdS S (toL _ v)).1->Calls P f vs.toArray w (Nd (bdS S (toL _ v)).2 (kG RS) r β S' w))
  (hfn : ∀v : HL (lts S), B4 S (toL _ v) = true) (hs : Q0G S RS (Q37 (Kx RS)) = true) (hf : P.funcs[f]? = some fn) (hb : fn.body.isSome = true) (hn : (fn.name == "runtime.NumGoroutine") = false) : VH P f (Qgn S RS p) := by
 intro R site g avs hl' k r h0;obtain⟨ls,ρ,h1,hk,hc⟩:=Q2F S avs [] _ r h0;rw[List.nil_append]at h1;obtain⟨hnew,h1⟩:=Xm h1;obtain⟨res,h1,hres⟩:=Qy h1;obtain⟨h1,hlen⟩:=Hs h1;refine⟨_,h1,λhg=>?_⟩;obtain⟨v,hv,rfl⟩:=MA _ _ _ _ (hres hg);exact Bi hs hk hnew (hc hg (hfn v)) hf hb hn (λav H' hx=>Q61 hx) (hlen hg) (h v res hv)
theorem QeT {C:VC} (hC:VCOk P C) (T:Y (LpE P)) {f:Nat} (fn:Func) (S RS:Y Sp) (p:LF (lts S) (oP (HT (lts RS))))
  (h:∀v:HL (lts S),Qfe C T (nR C.tt RS fn.results.toList) fn (bdS S (toL _ v)).1 (bdS S (toL _ v)).2 (kG RS)=apH _ p v)
  (hfn : ∀v : HL (lts S), B4 S (toL _ v) = true) (hs : Q0G S RS (Q37 (Kx RS)) = true) (hf : P.funcs[f]? = some fn) (hb : fn.body.isSome = true) (hn : (fn.name == "runtime.NumGoroutine") = false)
  (hT:Md T (WN (V6 fn))=T.map λe=>(e.r,e.c)) (hn2:Xn (T.map (·.r))=true):VH P f (Qgn S RS p):=
 QaC fn S RS p (λv r hv=>Dw hC (λ_ _ _ _=>P4 _) hf hT hn2 ((h v).trans hv)) hfn hs hf hb hn
end
section
variable{P:Program}
theorem Q6g{M:Nat->Prop}{w w':World}(h:RowKit.Below w.heap.size w w'):Fr M w w':=⟨h.os,h.tape,h.output,h.size,λb hb _=>h.block b hb⟩
theorem Q8c{β:Nat->oP Nat}{S:Nat->Prop}{h:Nat->oP Ob}{w:World}{args:Y Value}{a:AV}(hA:ArgsRd β S h w args [a]):∃v,args=[v]/\RdA β S h w tm0 v a:=by
 obtain⟨h1,h2⟩:=hA
 match args,h1 with
 |[v],_=>exact⟨v,rfl,h2 0 v a rfl rfl⟩
end
end Go.Vx
namespace Go.Vx
variable{β:Nat->oP Nat} {S:Nat->Prop}
section
variable{P:Program} {E:Env} {R:Type}
structure Off(β:Nat->oP Nat)(S:Nat->Prop)(h:Nat->oP Ob)(w:World)(Hd:Nat->Prop):Prop where
 lt:∀b,Hd b->b<w.heap.size
 nS:∀b,Hd b->¬ S b
 nO:∀b,Hd b->∀l,(h l).isSome=true->β l≠some b
def QbS(β:Nat->oP Nat)(S:Nat->Prop)(h:Nat->oP Ob)(w:World):Env:=⟨w,λb=>∃l,(h l).isSome=true/\β l=some b,S,β⟩
theorem Rel.anew{st:St}{a:Act}{w:World}(hR:Rel E β S st a w):Rel (QbS β S (look st.h) w) β S st a w:=
 ⟨hR.n,hR.dfr,hR.tm,⟨hR.hr.ob,hR.hr.inj,hR.hr.apart,λl b h1 h2=>.inl ⟨l,h1,h2⟩,hR.hr.sb,λb h=>.inl h,λb h=>h,Fr.refl _ _,λ_ _=>rfl,λ_ _ _ _ _ cs ty fz hw=>⟨cs,ty,fz,hw,rfl⟩⟩⟩
theorem Rel.back{β β':Nat->oP Nat}{S S':Nat->Prop}{st st':St}{a a':Act}{w w':World}(hR:Rel E β S st a w)(h:Rel (QbS β S (look st.h) w) β' S' st' a' w')(hp:∀l,1000000<=l->(look st'.h l).isSome=true->(look st.h l).isSome=true):Rel E β' S' st' a' w':=by
 have aa:∀b,(∃l,(look st.h l).isSome=true/\β l=some b)->E.M b\/E.w0.heap.size<=b:=λb ⟨l,h1,h2⟩=>hR.hr.own l b h1 h2
 have ai:=hR.hr.fr.size;refine⟨h.n,h.dfr,h.tm,⟨h.hr.ob,h.hr.inj,h.hr.apart,λl b h1 h2=>?_,h.hr.sb,λb hb=>?_,λb hb=>h.hr.s0 b (hR.hr.s0 b hb),?_,λl hl=>(h.hr.pin l hl).trans (hR.hr.pin l hl),λl b hl hs hb cs ty fz hw=>?_⟩⟩
 ·rcases h.hr.own l b h1 h2 with h3 | h3
  ·exact aa b h3
  ·exact .inr (Nat.le_trans ai h3)
 ·rcases h.hr.sfr b hb with h3 | h3 | h3
  ·exact hR.hr.sfr b h3
  ·exact .inr (aa b h3)
  ·exact .inr (.inr (Nat.le_trans ai h3))
 ·have f1:=hR.hr.fr;have f2:=h.hr.fr;refine⟨f2.os.trans f1.os,f2.tape.trans f1.tape,f2.output.trans f1.output,Nat.le_trans f1.size f2.size,λb hb hM=>(f2.block b (Nat.lt_of_lt_of_le hb f1.size) (λhm=>?_)).trans (f1.block b hb hM)⟩;rcases aa b hm with h3 | h3
  ·exact hM h3
  ·omega
 ·have am:β l=some b:=(h.hr.pin l hl).symm.trans hb;obtain⟨an,ao,fz1,g1,g2⟩:=hR.hr.psz l b hl (hp l hl hs) am cs ty fz hw;obtain⟨ak,ar,au,g3,g4⟩:=h.hr.psz l b hl hs hb an ao fz1 g1;exact⟨ak,ar,au,g3,g4.trans g2⟩
theorem Off.keep{β β':Nat->oP Nat}{S S':Nat->Prop}{st st':St}{a':Act}{w w':World}{Hd:Nat->Prop}(hO:Off β S (look st.h) w Hd)(h:Rel (QbS β S (look st.h) w) β' S' st' a' w') :
  Off β' S' (look st'.h) w' Hd/\∀b,Hd b->w'.heap[b]? = w.heap[b]?:=by
 have hn:∀b,Hd b->¬ ∃l,(look st.h l).isSome=true/\β l=some b:=λb hb ⟨l,h1,h2⟩=>hO.nO b hb l h1 h2
 refine⟨⟨λb hb=>Nat.lt_of_lt_of_le (hO.lt b hb) h.hr.fr.size,λb hb hS=>?_,λb hb l h1 h2=>?_⟩,λb hb=>h.hr.fr.block b (hO.lt b hb) (hn b hb)⟩
 ·rcases h.hr.sfr b hS with h3 | h3 | h3
  ·exact hO.nS b hb h3
  ·exact hn b hb h3
  ·have:=hO.lt b hb;have h3:w.heap.size<=b:=h3;omega
 ·rcases h.hr.own l b h1 h2 with h3 | h3
  ·exact hn b hb h3
  ·have:=hO.lt b hb;have h3:w.heap.size<=b:=h3;omega
theorem Qaa{st:St}{a a':Act}{w w':World}{Hd:Nat->Prop}(hR:Rel E β S st a w)(hO:Off β S (look st.h) w Hd)(ai:∀b,Hd b->E.M b\/E.w0.heap.size<=b)(hn:a'.tmps.size=a.tmps.size)(hd:a'.defers=a.defers)(ht:∀t av,look st.tm t=some av->tmv a' t=tmv a t/\∀t',gds t' av=true->tmv a' t'=tmv a t')(ao:w'.os=w.os)(ac:w'.tape=w.tape)(ak:w'.output=w.output)(aj:w.heap.size<=w'.heap.size)(aa:∀k,k<w.heap.size->¬ Hd k->w'.heap[k]? = w.heap[k]?):Rel E β S st a' w':=by
 have ar:∀b,S b->w'.heap[b]? = w.heap[b]?:=λb hS=>aa b (hR.hr.sb b hS) (λh=>hO.nS b h hS)
 have an:∀l b,(look st.h l).isSome=true->β l=some b->w'.heap[b]? = w.heap[b]?:=λl b hs hb=>aa b (Ky hR hs hb) (λh=>hO.nO b h l hs hb)
 have h1:=hR.upd (w':=w') (β':=β) (S':=S) (H':=st.h) (λ_ h=>h) ar (λ_=>False) (λl _=>⟨rfl,rfl,λb hs hb=>an l b hs hb⟩) (λl h=>h.elim) (λl o h=>h.elim) hR.hr.inj hR.hr.apart hR.hr.own (λb hS=>Nat.lt_of_lt_of_le (hR.hr.sb b hS) aj) hR.hr.sfr (by
  have fr:=hR.hr.fr;refine⟨ao.trans fr.os,ac.trans fr.tape,ak.trans fr.output,Nat.le_trans fr.size aj,λb hb hM=>(aa b (Nat.lt_of_lt_of_le hb fr.size) (λh=>?_)).trans (fr.block b hb hM)⟩;rcases ai b h with h2 | h2
  ·exact hM h2
  ·omega)
 refine⟨hn.trans h1.n,hd.trans h1.dfr,λt av hl=>?_,h1.hr⟩;obtain⟨g1,g2⟩:=ht t av hl;rw[g1];exact(h1.tm t av hl).mono (λ_ h=>h) (λ_ _=>rfl) (λl _=>Keep.rfl_ ..) g2
theorem Qbh{ops:Array Oper}(ai:Ku ops.toList 0=true){Q:Exit->Act->World->Prop}{J:Array Bool->Act->World->Prop}(ak:∀(listed:Array Bool) (a:Act) (w:World) (i:Nat) (o:Oper),listed.size=ops.size->Lh ops.toList listed->J listed a w->ops[i]? = some o->¬ Lst listed i->Q2d listed o.after.toList->wpOp P ops Q i (λa' w'=>J (listed.setIfInBounds i true) a' w') a w)(aj:∀(listed:Array Bool) (a:Act) (w:World),J listed a w->(∀i,i<ops.size->Lst listed i)->Q .normal a w) :
  ∀(fuel:Nat) (listed:Array Bool) (a:Act) (w:World),listed.size=ops.size->Lh ops.toList listed->(List.range ops.size).countP (λi=>!listed.getD i false)<=fuel->J listed a w->wpAny P .any ops Q fuel listed a w:=by
 have ax:∀listed:Array Bool,listed.size=ops.size->Region.ready .any ops listed=[]->∀i,i<ops.size->Lst listed i:=by
  intro listed aa hr i;induction i using Nat.strongRecOn with
  |ind i ih=>
   intro hi;by_cases hl:Lst listed i
   ·exact hl
   ·exfalso;have ho:=Array.getElem?_eq_getElem hi;have:i∈Region.ready .any ops listed:=(SK aa).2 ⟨_,ho,hl,λe he hb=>ih e.on (by
     have:=T6 i _ e he hb 0 ai (by rw[Array.getElem?_toList];exact ho);omega) (by
     have:=T6 i _ e he hb 0 ai (by rw[Array.getElem?_toList];exact ho);omega)⟩
    rw[hr]at this;simp at this
 intro fuel;induction fuel with
 |zero=>
  intro listed a w aa am an hJ;have hl:∀i,i<ops.size->Lst listed i:=by
   intro i hi;have h0:(List.range ops.size).countP (λi=>!listed.getD i false)=0:=I
   rw[List.countP_eq_zero]at h0;have:=h0 i (by simpa using hi);simpa[Lst]using this
  refine⟨?_,aj listed a w hJ hl⟩;cases hr:Region.ready .any ops listed with
  |nil=>rfl
  |cons x xs=>
   exfalso;obtain⟨o,ho,hn,_⟩:=(SK aa).1 (by rw[hr];simp:x∈Region.ready .any ops listed);exact hn (hl x (Array.getElem?_eq_some_iff.1 ho).1)
 |succ fuel ih=>
  intro listed a w aa am an hJ;refine⟨λhr=>aj listed a w hJ (ax listed aa hr),λi hi=>?_⟩;obtain⟨o,ho,aw,ao⟩:=(SK aa).1 hi;have au:=(Array.getElem?_eq_some_iff.1 ho).1;have ac:i<listed.size:=I
  refine wpOp_mono (λa' w' az=>ih _ a' w' (by simpa using aa) ?_ ?_ az) (ak listed a w i o aa am hJ ho aw ao)
  ·intro j oj ar hl e he hb;rw[SQ ac]at hl ⊢;rcases hl with rfl | hl
   ·have:oj=o:=by
     have:ops[j]? = some oj:=by simpa using ar
     rw[ho]at this;injection this with this;exact this.symm
    subst this;exact .inr (ao e he hb)
   ·exact .inr (am j oj ar hl e he hb)
  ·have:(List.range ops.size).countP (λj=>!(listed.setIfInBounds i true).getD j false)<(List.range ops.size).countP (λj=>!listed.getD j false):=by
    refine SJ (i:=i) (by simpa using au) (λx _ hx=>?_) ?_ ?_
    ·cases hl:listed.getD x false with
     |false=>rfl
     |true=>
      have:Lst (listed.setIfInBounds i true) x:=(SQ ac).2 (.inr hl);simp only[Lst]at this;rw[this]at hx;cases hx
    ·cases hl:listed.getD i false with
     |false=>rfl
     |true=>exact absurd hl aw
    ·have:Lst (listed.setIfInBounds i true) i:=(SQ ac).2 (.inl rfl);simp only[Lst]at this;rw[this];rfl
   omega
theorem Q87{ops:Array Oper}{id:Nat}(hm:P.follows .mixedOrders=true)(aa:Ku ops.toList 0=true){Q:Exit->Act->World->Prop}{J:Array Bool->Act->World->Prop}(ac:∀(listed:Array Bool) (a:Act) (w:World) (i:Nat) (o:Oper),listed.size=ops.size->Lh ops.toList listed->J listed a w->ops[i]? = some o->¬ Lst listed i->Q2d listed o.after.toList->wpOp P ops Q i (λa' w'=>J (listed.setIfInBounds i true) a' w') a w)(ai:∀(listed:Array Bool) (a:Act) (w:World),J listed a w->(∀i,i<ops.size->Lst listed i)->Q .normal a w){a:Act}{w:World}(h0:J (Array.replicate ops.size false) a { w with drawn:=w.drawn+1 }):(Code.region id ops true).wp P Q a w:=by
 refine wp_region_any hm (Qbh aa ac ai ops.size _ a _ Q2 ?_ ?_ h0)
 ·intro j o _ hl;exfalso;unfold Lst at hl;simp[Array.getD]at hl
 ·refine Nat.le_trans List.countP_le_length ?_;simp
def QfF(l:Nat):Ob->Bool
 |.box cells=>G8 l cells
 |.arr ..=>false
 |.mp ..=>false
theorem Rel.sub{st aa:St}{a:Act}{w:World}(hR:Rel E β S st a w)(hn:aa.n=st.n)(ht:∀t av,look aa.tm t=some av->look st.tm t=some av/\∀l,Yq l av=true->look aa.h l=look st.h l)(hh:∀l o,look aa.h l=some o->look st.h l=some o/\∀m,QfF m o=true->look aa.h m=look st.h m):Rel E β S aa a w:=by
 have hk:∀l,look aa.h l=look st.h l->Keep β (look st.h) w β (look aa.h) w l:=λl h=>⟨rfl,λh0=>h.trans h0,λe s rows h0=>.inr ⟨rows,h.trans h0,rfl⟩,λb cs ty fz _ _ hw=>⟨cs,ty,fz,hw,rfl⟩,λ_ f hh=>.inr ⟨f,h.trans hh⟩⟩
 have hs:∀l,(look aa.h l).isSome=true->(look st.h l).isSome=true:=λl h=>by
  obtain⟨o,ho⟩:=Option.isSome_iff_exists.1 h;rw[(hh l o ho).1];rfl
 refine⟨hR.n.trans hn.symm,hR.dfr,λt av hl=>?_,⟨λl o ho=>?_,λl l' b h1 h2=>hR.hr.inj l l' b (hs l h1) (hs l' h2),λl b h1=>hR.hr.apart l b (hs l h1),λl b h1=>hR.hr.own l b (hs l h1),hR.hr.sb,hR.hr.sfr,hR.hr.s0,hR.hr.fr,hR.hr.pin,λl b hl h1=>hR.hr.psz l b hl (hs l h1)⟩⟩
 ·obtain⟨g1,g2⟩:=ht t av hl;exact(hR.tm t av g1).mono (λ_ h=>h) (λ_ _=>rfl) (λl ak=>hk l (g2 l ak)) (λ_ _=>rfl)
 ·obtain⟨g1,g2⟩:=hh l o ho;have ac:=hR.hr.ob l o g1;cases o with
  |arr e s rows=>exact ac
  |mp t f=>exact ac
  |box cells=>
   obtain⟨b,ty,cs,fz,h1,h2,h3,h4,h5⟩:=ac;exact⟨b,ty,cs,fz,h1,h2,h3,h4,λi x hx=>(h5 i x hx).mono (λ_ h=>h) (λ_ _=>rfl) (λm hm=>hk m (g2 m (Sq hx hm))) (λ_ _=>rfl)⟩
end
end Go.Vx
