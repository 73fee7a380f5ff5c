/- Part of a proof. No conditions of their own. -/
import Derived.Test.YtnfomkijfeokoaaGreatTB
set_option linter.unusedVariables false
set_option linter.unusedSimpArgs false
noncomputable section
abbrev Qp1:=@Nat.eq_of_beq_eq_true
abbrev Qp2:=@Bool.and_eq_true
abbrev Qp3:=@List.mem_cons_of_mem
abbrev Qp4:=@List.mem_cons_self
abbrev Qp5:=@Bool.not_eq_true'
namespace Go.Vx
variable {hl:Nat->oP Ob}
inductive DK where
 |i (k:IntKind) | b | t | l (s:Nat) | x
inductive Sp where
 |d (k:DK)
 |ag (ks:List DK)
 |tup (n:Nat)
 |ptr (p n:Nat)
 |pin (p n:Nat)
 |ps (p:Nat)
 |arr (p e s:Nat)
 |mp (p t:Nat)
 |fn (f n:Nat)
 |nil
 |gone (p:Nat)
 |pinm (p t:Nat)
 |pina (p e s:Nat)
 |agn (n:Nat)
 |ah (p:Nat)
 |top
def DK.lt:DK->LT
 |.i _=>.I
 |.b=>.B
 |.t=>.T
 |.l _=>.L
 |.x=>.D
def QiU:List DK->List LT->List LT
 |[],r=>r
 |k::ks,r=>k.lt::QiU ks r
def lts:List Sp->List LT
 |[]=>[]
 |.d k::r=>k.lt::lts r
 |.ag ks::r=>QiU ks (lts r)
 |.arr _ _ _::r=>.L::lts r
 |.mp _ _::r=>.P::lts r
 |.tup _::r=>lts r
 |.ptr _ _::r=>lts r
 |.pin _ _::r=>lts r
 |.ps _::r=>lts r
 |.fn _ _::r=>lts r
 |.nil::r=>lts r
 |.gone _::r=>lts r
 |.pinm _ _::r=>.P::lts r
 |.pina _ _ _::r=>.L::lts r
 |.agn _::r=>lts r
 |.ah _::r=>lts r
 |.top::r=>lts r
def HT:List LT->Type
 |[]=>Unit
 |[t]=>t.ty
 |t::u::ts=>t.ty×HT (u::ts)
def crT {β:Type}:(ts:List LT)->(HT ts->β)->LF ts β
 |[],k=>k ()
 |[_],k=>fun x=>k x
 |_::u::ts,k=>fun x=>crT (u::ts) fun r=>k (x,r)
def toT:(ts:List LT)->HT ts->List Lf
 |[],_=>[]
 |[t],v=>[Qb4 t v]
 |t::u::ts,v=>Qb4 t v.1::toT (u::ts) v.2
def ofT:(ts:List LT)->List Lf->oP (HT ts)
 |[],l=>match l with
  |[]=>some ()
  |_=>none
 |[t],l=>match l with
  |[x]=>Q8G t x
  |_=>none
 |t::u::ts,l=>match l with
  |x::r=>match Q8G t x,ofT (u::ts) r with
   |some a,some b=>some (a,b)
   |_,_=>none
  |_=>none
def zL:(t:LT)->t.ty
 |.I=>(0:Int)
 |.B=>false
 |.T=>([]:List UInt8)
 |.L=>([]:List (List D))
 |.R=>([]:List D)
 |.D=>D.bool false
 |.N=>(0:Nat)
 |.M=>fun _=>[]
 |.P=>fun _=>false
def zT:(ts:List LT)->HT ts
 |[]=>()
 |[t]=>zL t
 |t::u::ts=>(zL t,zT (u::ts))
theorem Q21:∀ (ts:List LT) {l:List Lf} {v:HT ts},ofT ts l=some v->toT ts v=l
 |[],l,v,h=>by
  cases l with
  |nil=>rfl
  |cons x r=>cases h
 |[t],l,v,h=>by
  match l,h with
  |[x],h=>exact congrArg (·::[]) (NR (t:=t) h).symm
  |[],h=>cases h
  |_::_::_,h=>cases h
 |t::u::ts,l,v,h=>by
  match l,h with
  |[],h=>cases h
  |x::r,h=>
   replace h:(match Q8G t x,ofT (u::ts) r with | some a,some b=>some (a,b) | _,_=>none)=some v:=h
   split at h
   ·rename_i a b ha hb;injection h with h
    subst h;show Qb4 t a::toT (u::ts) b=x::r;rw [Q21 (u::ts) hb,NR ha]
   ·cases h
section
variable {P:Program} {R:Type}
def prD (g:Bool) (k:DK) (a:AV) (K:Lf->oP R):oP R:=
 match k with
 |.i k=>prI g k a fun x=>K (.I x)
 |.b=>prB g a fun x=>K (.B x)
 |.t=>prT g a fun x=>K (.T x)
 |.l s=>prS g s a fun x=>K (.L x)
 |.x=>none
def QeF (g:Bool):List DK->List AV->(List Lf->oP R)->oP R
 |[],l,K=>match l with
  |[]=>K []
  |_=>none
 |k::ks,l,K=>match l with
  |a::r=>prD g k a fun x=>QeF g ks r fun y=>K (x::y)
  |_=>none
def rdP (g:Bool) (hl:Nat->oP Ob):List Sp->List AV->List (Nat×Nat)->(List Lf->List (Nat×Nat)->oP R)->oP R
 |[],st,ρ,K=>match st with
  |[]=>K [] ρ
  |_=>none
 |.d k::r,st,ρ,K=>match st with
  |a::st=>prD g k a fun x=>rdP g hl r st ρ fun ls ρ'=>K (x::ls) ρ'
  |_=>none
 |.ag ks::r,st,ρ,K=>match st with
  |.ag l::st=>QeF g ks l fun xs=>rdP g hl r st ρ fun ls ρ'=>K (xs++ls) ρ'
  |_=>none
 |.ptr p n::r,st,ρ,K=>match st with
  |.ptr l o::st=>match hl l with
   |some (.box cs)=>bif Nat.beq o 0&&Nat.beq cs.length n then rdP g hl r (cs++st) (ρ++[(p,l)]) K else none
   |_=>none
  |_=>none
 |.ps p::r,st,ρ,K=>match st with
  |.ptr l o::st=>match look ρ p with
   |some l'=>bif Nat.beq o 0&&Nat.beq l l' then rdP g hl r st ρ K else none
   |none=>none
  |_=>none
 |.arr p e s::r,st,ρ,K=>match st with
  |.arr l::st=>match hl l with
   |some (.arr e' s' rows)=>bif Nat.beq e e'&&Nat.beq s s' then rdP g hl r st (ρ++[(p,l)]) fun ls ρ'=>K (.L rows::ls) ρ' else none
   |_=>none
  |_=>none
 |.mp p t::r,st,ρ,K=>match st with
  |.arr l::st=>match hl l with
   |some (.mp t' f)=>bif Nat.beq t t' then rdP g hl r st (ρ++[(p,l)]) fun ls ρ'=>K (.P f::ls) ρ' else none
   |_=>none
  |_=>none
 |.fn f n::r,st,ρ,K=>match st with
  |.fn f' l::st=>bif Nat.beq f f'&&Nat.beq l.length n then rdP g hl r (l++st) ρ K else none
  |_=>none
 |.nil::r,st,ρ,K=>match st with
  |.nil::st=>rdP g hl r st ρ K
  |_=>none
 |.tup _::_,_,_,_=>none
 |.pin _ _::_,_,_,_=>none
 |.gone _::_,_,_,_=>none
 |.pinm _ _::_,_,_,_=>none
 |.pina _ _ _::_,_,_,_=>none
 |.agn _::_,_,_,_=>none
 |.ah _::_,_,_,_=>none
 |.top::_,_,_,_=>none
def bdD:DK->Lf->AV
 |.i k,.I x=>.d (.int k x)
 |.b,.B x=>.d (.bool x)
 |.t,.T x=>.d (.str x)
 |.l s,.L x=>.d (.sl s x)
 |.x,.D x=>.d x
 |_,_=>.top
def Q8d:List DK->List Lf->List AV×List Lf
 |[],ls=>([],ls)
 |k::ks,ls=>match ls with
  |x::r=>(bdD k x::(Q8d ks r).1,(Q8d ks r).2)
  |[]=>(.top::(Q8d ks []).1,[])
def bdS:List Sp->List Lf->List AV×List (Nat×Ob)
 |[],_=>([],[])
 |.d k::r,ls=>match ls with
  |x::ls=>(bdD k x::(bdS r ls).1,(bdS r ls).2)
  |[]=>([],[])
 |.ag ks::r,ls=>(.ag (Q8d ks ls).1::(bdS r (Q8d ks ls).2).1,(bdS r (Q8d ks ls).2).2)
 |.tup n::r,ls=>(.tup ((bdS r ls).1.take n)::(bdS r ls).1.drop n,(bdS r ls).2)
 |.ptr p n::r,ls=>(.ptr p 0::(bdS r ls).1.drop n,(p,.box ((bdS r ls).1.take n))::(bdS r ls).2)
 |.pin p n::r,ls=>((bdS r ls).1.drop n,(p,.box ((bdS r ls).1.take n))::(bdS r ls).2)
 |.ps p::r,ls=>(.ptr p 0::(bdS r ls).1,(bdS r ls).2)
 |.arr p e s::r,ls=>match ls with
  |.L x::ls=>(.arr p::(bdS r ls).1,(p,.arr e s x)::(bdS r ls).2)
  |_=>([],[])
 |.mp p t::r,ls=>match ls with
  |.P x::ls=>(.arr p::(bdS r ls).1,(p,.mp t x)::(bdS r ls).2)
  |_=>([],[])
 |.fn f n::r,ls=>(.fn f ((bdS r ls).1.take n)::(bdS r ls).1.drop n,(bdS r ls).2)
 |.nil::r,ls=>(.nil::(bdS r ls).1,(bdS r ls).2)
 |.gone _::r,ls=>bdS r ls
 |.pinm p t::r,ls=>match ls with
  |.P x::ls=>((bdS r ls).1,(p,.mp t x)::(bdS r ls).2)
  |_=>([],[])
 |.pina p e s::r,ls=>match ls with
  |.L x::ls=>((bdS r ls).1,(p,.arr e s x)::(bdS r ls).2)
  |_=>([],[])
 |.agn n::r,ls=>(.ag ((bdS r ls).1.take n)::(bdS r ls).1.drop n,(bdS r ls).2)
 |.ah p::r,ls=>(.arr p::(bdS r ls).1,(bdS r ls).2)
 |.top::r,ls=>(.top::(bdS r ls).1,(bdS r ls).2)
def isD:AV->Bool
 |.d _=>true
 |.nil=>true
 |.ag _=>true
 |_=>false
structure SR (ρ:List (Nat×Nat)) (a b:AV):Prop where
 d:isD b=true->lf b=true/\CJ a b
 o:isD b=false->dm ρ b=true/\a=UB ρ b
inductive SRL (ρ:List (Nat×Nat)):List AV->List AV->Prop
 |nil:SRL ρ [] []
 |cons {a b:AV} {l r:List AV} (h:SR ρ a b) (t:SRL ρ l r):SRL ρ (a::l) (b::r)
theorem SRL.length {ρ:List (Nat×Nat)} {l r:List AV} (h:SRL ρ l r):l.length=r.length:=by induction h <;> simp [*]
theorem SRL.cle {ρ:List (Nat×Nat)} {l r:List AV} (h:SRL ρ l r):CLeL ρ l r:=by
 induction h with
 |nil=>exact .nil
 |@cons a b l r h _ ih=>
  refine .cons ?_ ih;cases hd:isD b with
  |true=>exact .data (h.d hd).1 (h.d hd).2
  |false=>exact .own (h.o hd).1 (h.o hd).2
theorem SRL.split {ρ:List (Nat×Nat)}:∀ {a b c:List AV},SRL ρ (a++b) c->SRL ρ a (c.take a.length)/\SRL ρ b (c.drop a.length)
 |[],b,c,h=>⟨by simpa using SRL.nil,by simpa using h⟩
 |x::a,b,c,h=>by
  cases h with
  |cons h t=>
   obtain ⟨h1,h2⟩:=SRL.split t;exact ⟨by simpa using SRL.cons h h1,by simpa using h2⟩
theorem SRL.own {ρ:List (Nat×Nat)} {l r:List AV} (h:SRL ρ l r) (hd:r.all (fun b=>!isD b)=true):dmL ρ r=true/\l=Q3i ρ r:=by
 induction h with
 |nil=>trivial
 |cons h _ ih=>
  simp only [List.all_cons,Qp2,Qp5] at hd;obtain ⟨h1,h2⟩:=h.o hd.1
  grind [dmL,Q3i]
theorem Q1Q {g:Bool} {k:DK} {a:AV} {K:Lf->oP R} {r:R} (h:prD g k a K=some r):∃ x,K x=some r/\isD (bdD k x)=true/\lf (bdD k x)=true/\(g=true->CJ a (bdD k x)):=by
 cases k with
 |i k=>obtain ⟨x,h1,h2⟩:=Q2c h;exact ⟨_,h1,rfl,rfl,h2⟩
 |b=>obtain ⟨x,h1,h2⟩:=Qbj h;exact ⟨_,h1,rfl,rfl,h2⟩
 |t=>obtain ⟨x,h1,h2⟩:=Qce h;exact ⟨_,h1,rfl,rfl,h2⟩
 |l s=>obtain ⟨x,h1,h2⟩:=UO h;exact ⟨_,h1,rfl,rfl,h2⟩
 |x=>cases h
theorem BV {g:Bool}:∀ {ks:List DK} {l:List AV} {K:List Lf->oP R} {r:R},QeF g ks l K=some r->∃ xs,K xs=some r/\∀ ls,(Q8d ks (xs++ls)).2=ls/\lfL (Q8d ks (xs++ls)).1=true/\(g=true->AVleL l (Q8d ks (xs++ls)).1)
 |[],l,K,r,h=>by
  cases l with
  |nil=>exact ⟨[],h,fun ls=>⟨rfl,rfl,fun _=>.nil⟩⟩
  |cons a l=>cases h
 |k::ks,l,K,r,h=>by
  cases l with
  |nil=>cases h
  |cons a l=>
   replace h:prD g k a (fun x=>QeF g ks l fun y=>K (x::y))=some r:=h
   obtain ⟨x,h,h1,h2,h3⟩:=Q1Q h;obtain ⟨xs,h,h4⟩:=BV h;refine ⟨x::xs,h,fun ls=>?_⟩;obtain ⟨h5,h6,h7⟩:=h4 ls;exact ⟨h5,by simp [Q8d,lfL,h2,h6],fun hg=>.cons (h3 hg) (h7 hg)⟩
inductive OK where
 |box (n:Nat)
 |arr (e s:Nat)
 |mp (t:Nat)
 |gone
def KY:List Sp->List (Nat×OK)
 |[]=>[]
 |.ptr p n::r=>(p,.box n)::KY r
 |.pin p n::r=>(p,.box n)::KY r
 |.arr p e s::r=>(p,.arr e s)::KY r
 |.mp p t::r=>(p,.mp t)::KY r
 |.gone p::r=>(p,.gone)::KY r
 |.pinm p t::r=>(p,.mp t)::KY r
 |.pina p e s::r=>(p,.arr e s)::KY r
 |.agn _::r=>KY r
 |.ah _::r=>KY r
 |.top::r=>KY r
 |.d _::r=>KY r
 |.ag _::r=>KY r
 |.tup _::r=>KY r
 |.ps _::r=>KY r
 |.fn _ _::r=>KY r
 |.nil::r=>KY r
def KOb:OK->Ob->Prop
 |.box n,.box c=>c.length=n
 |.arr e s,.arr e' s' _=>e'=e/\s'=s
 |.mp t,.mp t' _=>t'=t
 |_,_=>False
def Bc:List Sp->List Lf->Bool
 |[],_=>true
 |.d _::r,ls=>Bc r ls.tail
 |.ag ks::r,ls=>Bc r (Q8d ks ls).2
 |.arr _ _ _::r,ls=>Bc r ls.tail
 |.mp _ _::r,ls=>Bc r ls.tail
 |.fn _ n::r,ls=>((bdS r ls).1.take n).all (fun b=>!isD b)&&Bc r ls
 |.ptr _ _::r,ls=>Bc r ls
 |.pin _ _::r,ls=>Bc r ls
 |.ps _::r,ls=>Bc r ls
 |.tup _::r,ls=>Bc r ls
 |.nil::r,ls=>Bc r ls
 |.gone _::r,ls=>Bc r ls
 |.pinm _ _::r,ls=>Bc r ls.tail
 |.pina _ _ _::r,ls=>Bc r ls.tail
 |.agn _::r,ls=>Bc r ls
 |.ah _::r,ls=>Bc r ls
 |.top::r,ls=>Bc r ls
inductive HinP (ρF:List (Nat×Nat)) (hl:Nat->oP Ob):List (Nat×OK)->List (Nat×Ob)->List (Nat×Nat)->Prop
 |nil:HinP ρF hl [] [] []
 |cons {p l:Nat} {κ:OK} {o o0:Ob} {K:List (Nat×OK)} {H:List (Nat×Ob)} {ρ:List (Nat×Nat)} (h0:hl l=some o0) (h1:OLe ρF o0 o) (h2:KOb κ o) (t:HinP ρF hl K H ρ):HinP ρF hl ((p,κ)::K) ((p,o)::H) ((p,l)::ρ)
theorem Q2E {g:Bool}:∀ (S:List Sp) (st:List AV) (ρ:List (Nat×Nat)) (K:List Lf->List (Nat×Nat)->oP R) (r:R),rdP g hl S st ρ K=some r ->
  ∃ ls ρ',K ls (ρ++ρ')=some r/\(ρ'.map (·.1)=(KY S).map (·.1))/\(g=true->Bc S ls=true->∀ ρF,(∀ p l,(p,l)∈ρ++ρ'->look ρF p=some l)->SRL ρF st (bdS S ls).1/\HinP ρF hl (KY S) (bdS S ls).2 ρ'):=by
 intro S;induction S with
 |nil=>
  intro st ρ K r h;cases st with
  |nil=>exact ⟨[],[],by rw [List.append_nil];exact h,rfl,fun _ _ ρF _=>⟨.nil,.nil⟩⟩
  |cons a st=>cases h
 |cons s S ih=>
  intro st ρ K r h;cases s with
  |d k=>
   cases st with
   |nil=>cases h
   |cons a st=>
    replace h:prD g k a (fun x=>rdP g hl S st ρ fun ls ρ'=>K (x::ls) ρ')=some r:=h
    obtain ⟨x,h,h1,h2,h3⟩:=Q1Q h;obtain ⟨ls,ρ',h,hk,hc⟩:=ih st ρ _ r h;refine ⟨x::ls,ρ',h,hk,fun hg hf ρF hρ=>?_⟩;obtain ⟨c1,c2⟩:=hc hg hf ρF hρ;exact ⟨.cons ⟨fun _=>⟨h2,h3 hg⟩,fun e=>(by rw [h1] at e;cases e)⟩ c1,c2⟩
  |ag ks=>
   match st,h with
   |.ag l::st,h=>
    replace h:QeF g ks l (fun xs=>rdP g hl S st ρ fun ls ρ'=>K (xs++ls) ρ')=some r:=h
    obtain ⟨xs,h,hx⟩:=BV h;obtain ⟨ls,ρ',h,hk,hc⟩:=ih st ρ _ r h;obtain ⟨x1,x2,x3⟩:=hx ls;refine ⟨xs++ls,ρ',h,hk,fun hg hf ρF hρ=>?_⟩;simp only [Bc,x1] at hf;obtain ⟨c1,c2⟩:=hc hg hf ρF hρ;simp only [bdS,x1];exact ⟨.cons ⟨fun _=>⟨x2,.ag (x3 hg)⟩,fun e=>(by cases e)⟩ c1,c2⟩
  |ptr p n=>
   match st,h with
   |.ptr l o::st,h=>
    simp only [rdP] at h;split at h
    ·rename_i cs az;obtain ⟨hb,h'⟩:=Y3 h;simp only [Qp2] at hb;have ho:=Qp1 hb.1;have hn:=Qp1 hb.2;subst ho hn;obtain ⟨ls,ρ',h,hk,hc⟩:=ih (cs++st) (ρ++[(p,l)]) _ r h';rw [List.append_assoc] at h;refine ⟨ls,(p,l)::ρ',h,by simp [KY,hk],fun hg hf ρF hρ=>?_⟩;obtain ⟨c1,c2⟩:=hc hg hf ρF (fun a b hm=>hρ a b (by simpa using hm));obtain ⟨d1,d2⟩:=c1.split;have aj:=hρ p l Q2;refine ⟨.cons ⟨fun e=>(by cases e),fun _=>⟨by simp [dm,aj],by simp [UB,aj]⟩⟩ d2,.cons az (.box d1.cle) ?_ c2⟩;exact d1.length.symm
    ·cases h
  |ps p=>
   match st,h with
   |.ptr l o::st,h=>
    simp only [rdP] at h;split at h
    ·rename_i l' aj;obtain ⟨hb,h'⟩:=Y3 h;simp only [Qp2] at hb;have ho:=Qp1 hb.1;have hn:=Qp1 hb.2;subst ho hn;obtain ⟨ls,ρ',h,hk,hc⟩:=ih st ρ _ r h';refine ⟨ls,ρ',h,hk,fun hg hf ρF hρ=>?_⟩;obtain ⟨c1,c2⟩:=hc hg hf ρF hρ;have aw:=hρ p l (List.mem_append_left _ (YH aj));exact ⟨.cons ⟨fun e=>(by cases e),fun _=>⟨by simp [dm,aw],by simp [UB,aw]⟩⟩ c1,c2⟩
    ·cases h
  |arr p e s=>
   match st,h with
   |.arr l::st,h=>
    simp only [rdP] at h;split at h
    ·rename_i e' s' rows au;obtain ⟨hb,h'⟩:=Y3 h;simp only [Qp2] at hb;have ho:=Qp1 hb.1;have hn:=Qp1 hb.2;subst ho hn;obtain ⟨ls,ρ',h,hk,hc⟩:=ih st (ρ++[(p,l)]) _ r h';rw [List.append_assoc] at h;refine ⟨.L rows::ls,(p,l)::ρ',h,by simp [KY,hk],fun hg hf ρF hρ=>?_⟩;obtain ⟨c1,c2⟩:=hc hg hf ρF (fun a b hm=>hρ a b (by simpa using hm));have aj:=hρ p l Q2;exact ⟨.cons ⟨fun e=>(by cases e),fun _=>⟨by simp [dm,aj],by simp [UB,aj]⟩⟩ c1,.cons au (.arr _ _ _) ⟨rfl,rfl⟩ c2⟩
    ·cases h
  |mp p t=>
   match st,h with
   |.arr l::st,h=>
    simp only [rdP] at h;split at h
    ·rename_i t' f ay;obtain ⟨hb,h'⟩:=Y3 h;have ho:=Qp1 hb;subst ho;obtain ⟨ls,ρ',h,hk,hc⟩:=ih st (ρ++[(p,l)]) _ r h';rw [List.append_assoc] at h;refine ⟨.P f::ls,(p,l)::ρ',h,by simp [KY,hk],fun hg hf ρF hρ=>?_⟩;obtain ⟨c1,c2⟩:=hc hg hf ρF (fun a b hm=>hρ a b (by simpa using hm));have aj:=hρ p l Q2;exact ⟨.cons ⟨fun e=>(by cases e),fun _=>⟨by simp [dm,aj],by simp [UB,aj]⟩⟩ c1,.cons ay (.mp _ _) rfl c2⟩
    ·cases h
  |fn f n=>
   match st,h with
   |.fn f' l::st,h=>
    simp only [rdP] at h;obtain ⟨hb,h'⟩:=Y3 h;simp only [Qp2] at hb;have ho:=Qp1 hb.1;have hn:=Qp1 hb.2;subst ho hn;obtain ⟨ls,ρ',h,hk,hc⟩:=ih (l++st) ρ _ r h';refine ⟨ls,ρ',h,hk,fun hg hf ρF hρ=>?_⟩;simp only [Bc,Qp2] at hf;obtain ⟨c1,c2⟩:=hc hg hf.2 ρF hρ;obtain ⟨d1,d2⟩:=c1.split;obtain ⟨e1,e2⟩:=d1.own hf.1;exact ⟨.cons ⟨fun e=>(by cases e),fun _=>⟨by simpa [dm] using e1,by simp [UB,<- e2]⟩⟩ d2,c2⟩
  |nil=>
   match st,h with
   |.nil::st,h=>
    obtain ⟨ls,ρ',h,hk,hc⟩:=ih st ρ _ r h;refine ⟨ls,ρ',h,hk,fun hg hf ρF hρ=>?_⟩;obtain ⟨c1,c2⟩:=hc hg hf ρF hρ;exact ⟨.cons ⟨fun _=>⟨rfl,.refl _⟩,fun e=>(by cases e)⟩ c1,c2⟩
  |tup n=>cases h
  |pin p n=>cases h
  |gone p=>cases h
  |pinm p t=>cases h
  |pina p e s=>cases h
  |agn n=>cases h
  |ah p=>cases h
  |top=>cases h
def Rx:List Sp->Bool
 |[]=>true
 |.d _::r=>Rx r
 |.ag _::r=>Rx r
 |.nil::r=>Rx r
 |_=>false
theorem Qds {g:Bool}:∀ (S:List Sp) (st:List AV) (ρ:List (Nat×Nat)) (K:List Lf->List (Nat×Nat)->oP R) (r:R),Rx S=true->rdP g hl S st ρ K=some r ->
  ∃ ls,K ls ρ=some r/\(g=true->lfL (bdS S ls).1=true/\AVleL st (bdS S ls).1):=by
 intro S;induction S with
 |nil=>
  intro st ρ K r _ h;cases st with
  |nil=>exact ⟨[],h,fun _=>⟨rfl,.nil⟩⟩
  |cons a st=>cases h
 |cons s S ih=>
  intro st ρ K r hd h;cases s with
  |d k=>
   cases st with
   |nil=>cases h
   |cons a st=>
    replace h:prD g k a (fun x=>rdP g hl S st ρ fun ls ρ'=>K (x::ls) ρ')=some r:=h
    obtain ⟨x,h,_,h2,h3⟩:=Q1Q h;obtain ⟨ls,h,hc⟩:=ih st ρ _ r hd h;refine ⟨x::ls,h,fun hg=>?_⟩;obtain ⟨c1,c2⟩:=hc hg;exact ⟨by grind [bdS,lfL],.cons (h3 hg) c2⟩
  |ag ks=>
   match st,h with
   |.ag l::st,h=>
    replace h:QeF g ks l (fun xs=>rdP g hl S st ρ fun ls ρ'=>K (xs++ls) ρ')=some r:=h
    obtain ⟨xs,h,hx⟩:=BV h;obtain ⟨ls,h,hc⟩:=ih st ρ _ r hd h;obtain ⟨x1,x2,x3⟩:=hx ls;refine ⟨xs++ls,h,fun hg=>?_⟩;obtain ⟨c1,c2⟩:=hc hg;simp only [bdS,x1];exact ⟨by grind [lfL,lf],.cons (.ag (x3 hg)) c2⟩
  |nil=>
   match st,h with
   |.nil::st,h=>
    obtain ⟨ls,h,hc⟩:=ih st ρ _ r hd h;refine ⟨ls,h,fun hg=>?_⟩;obtain ⟨c1,c2⟩:=hc hg;exact ⟨by simp [bdS,lfL,lf,c1],.cons (.refl _) c2⟩
  |_=>cases hd
def exD:DK->AV->oP Lf
 |.i k,.d (.int k' x)=>oB (k == k') (.I x)
 |.b,.d (.bool x)=>some (.B x)
 |.t,.d (.str x)=>some (.T x)
 |.l s,.d (.sl s' x)=>oB (Nat.beq s s') (.L x)
 |.x,.d x=>some (.D x)
 |_,_=>none
def QeP:List DK->List AV->oP (List Lf)
 |[],l=>match l with
  |[]=>some []
  |_=>none
 |k::ks,l=>match l with
  |a::r=>match exD k a,QeP ks r with
   |some x,some xs=>some (x::xs)
   |_,_=>none
  |_=>none
theorem Q6P {k:DK} {a:AV} {x:Lf} (h:exD k a=some x):bdD k x=a:=by
 cases k <;> cases a <;> try (simp only [exD,reduceCtorEq] at h;done)
 case i.d k d=>
  cases d <;> try (simp only [exD,reduceCtorEq] at h;done)
  simp only [exD] at h;obtain ⟨h1,rfl⟩:=Jb h;rw [<- eq_of_beq h1];rfl
 case b.d d=>
  cases d <;> try (simp only [exD,reduceCtorEq] at h;done)
  simp only [exD,Option.some.injEq] at h;subst h;rfl
 case t.d d=>
  cases d <;> try (simp only [exD,reduceCtorEq] at h;done)
  simp only [exD,Option.some.injEq] at h;subst h;rfl
 case l.d s d=>
  cases d <;> try (simp only [exD,reduceCtorEq] at h;done)
  simp only [exD] at h;obtain ⟨h1,rfl⟩:=Jb h;rw [<- Qp1 h1];rfl
 case x.d d=>simp only [exD,Option.some.injEq] at h;subst h;rfl
theorem Q3H:∀ {ks:List DK} {l:List AV} {xs:List Lf},QeP ks l=some xs->∀ ls,Q8d ks (xs++ls)=(l,ls)
 |[],l,xs,h,ls=>by
  cases l with
  |nil=>injection h with h;subst h;rfl
  |cons a l=>cases h
 |k::ks,l,xs,h,ls=>by
  cases l with
  |nil=>cases h
  |cons a l=>
   replace h:(match exD k a,QeP ks l with | some x,some xs=>some (x::xs) | _,_=>none)=some xs:=h
   split at h
   ·rename_i x ys hx hy;injection h with h
    subst h;simp [Q8d,Q6P hx,Q3H hy ls]
   ·cases h
def Q4q (a:oP Lf) (b:oP (List Lf)):oP (List Lf):=match a,b with
 |some x,some r=>some (x::r)
 |_,_=>none
def Qh4 (a b:oP (List Lf)):oP (List Lf):=match a,b with
 |some x,some r=>some (x++r)
 |_,_=>none
theorem Sw {a:oP Lf} {b:oP (List Lf)} {l:List Lf} (h:Q4q a b=some l):∃ x r,a=some x/\b=some r/\l=x::r:=by
 cases a <;> cases b <;> simp [Q4q] at h
 simp_all
theorem Q8W {a b:oP (List Lf)} {l:List Lf} (h:Qh4 a b=some l):∃ x r,a=some x/\b=some r/\l=x++r:=by
 cases a <;> cases b <;> simp [Qh4] at h
 simp_all
def rdR (H:Nat->oP Ob):List Sp->List AV->oP (List Lf)
 |[],st=>match st with
  |[]=>some []
  |_=>none
 |.d k::r,st=>match st with
  |a::st=>Q4q (exD k a) (rdR H r st)
  |_=>none
 |.ag ks::r,st=>match st with
  |.ag l::st=>Qh4 (QeP ks l) (rdR H r st)
  |_=>none
 |.tup n::r,st=>match st with
  |.tup l::st=>bif Nat.beq l.length n then rdR H r (l++st) else none
  |_=>none
 |.ptr p n::r,st=>match st with
  |.ptr l o::st=>match H p with
   |some (.box cs)=>bif Nat.beq l p&&(Nat.beq o 0&&Nat.beq cs.length n) then rdR H r (cs++st) else none
   |_=>none
  |_=>none
 |.pin p n::r,st=>match H p with
  |some (.box cs)=>bif Nat.beq cs.length n then rdR H r (cs++st) else none
  |_=>none
 |.ps p::r,st=>match st with
  |.ptr l o::st=>bif Nat.beq l p&&Nat.beq o 0 then rdR H r st else none
  |_=>none
 |.arr p e s::r,st=>match st with
  |.arr l::st=>match H p with
   |some (.arr e' s' rows)=>bif Nat.beq l p&&(Nat.beq e e'&&Nat.beq s s') then Q4q (some (.L rows)) (rdR H r st) else none
   |_=>none
  |_=>none
 |.mp p t::r,st=>match st with
  |.arr l::st=>match H p with
   |some (.mp t' f)=>bif Nat.beq l p&&Nat.beq t t' then Q4q (some (.P f)) (rdR H r st) else none
   |_=>none
  |_=>none
 |.fn f n::r,st=>match st with
  |.fn f' l::st=>bif Nat.beq f f'&&Nat.beq l.length n then rdR H r (l++st) else none
  |_=>none
 |.nil::r,st=>match st with
  |.nil::st=>rdR H r st
  |_=>none
 |.gone p::r,st=>match H p with
  |none=>rdR H r st
  |_=>none
 |.pinm p t::r,st=>match H p with
  |some (.mp t' f)=>bif Nat.beq t t' then Q4q (some (.P f)) (rdR H r st) else none
  |_=>none
 |.pina p e s::r,st=>match H p with
  |some (.arr e' s' rows)=>bif Nat.beq e e'&&Nat.beq s s' then Q4q (some (.L rows)) (rdR H r st) else none
  |_=>none
 |.agn n::r,st=>match st with
  |.ag l::st=>bif Nat.beq l.length n then rdR H r (l++st) else none
  |_=>none
 |.ah p::r,st=>match st with
  |.arr l::st=>bif Nat.beq l p then rdR H r st else none
  |_=>none
 |.top::r,st=>match st with
  |.top::st=>rdR H r st
  |_=>none
inductive RPr (Hf:Nat->oP Ob):List (Nat×OK)->List (Nat×Ob)->Prop
 |nil:RPr Hf [] []
 |gone {p:Nat} {K:List (Nat×OK)} {H:List (Nat×Ob)} (h:Hf p=none) (t:RPr Hf K H):RPr Hf ((p,.gone)::K) H
 |cons {p:Nat} {κ:OK} {o:Ob} {K:List (Nat×OK)} {H:List (Nat×Ob)} (h:Hf p=some o) (hk:KOb κ o) (t:RPr Hf K H):RPr Hf ((p,κ)::K) ((p,o)::H)
theorem FW {α:Type} {a b c:List α} (h:c=a++b) {n:Nat} (hn:a.length=n):c.take n=a/\c.drop n=b:=by
 simp_all
theorem Q6J {H:Nat->oP Ob}:∀ (S:List Sp) (st:List AV) (ls:List Lf),rdR H S st=some ls->(bdS S ls).1=st/\RPr H (KY S) (bdS S ls).2:=by
 intro S;induction S with
 |nil=>
  intro st ls h;cases st with
  |nil=>injection h with h;subst h;exact ⟨rfl,.nil⟩
  |cons a st=>cases h
 |cons s S ih=>
  intro st ls h;cases s with
  |d k=>
   cases st with
   |nil=>cases h
   |cons a st=>
    obtain ⟨x,r,h1,h2,rfl⟩:=Sw (show Q4q (exD k a) (rdR H S st)=some ls from h);obtain ⟨i1,i2⟩:=ih st r h2;exact ⟨by grind [bdS,Q6P],i2⟩
  |ag ks=>
   match st,h with
   |.ag l::st,h=>
    obtain ⟨x,r,h1,h2,rfl⟩:=Q8W (show Qh4 (QeP ks l) (rdR H S st)=some ls from h);obtain ⟨i1,i2⟩:=ih st r h2;have:=Q3H h1 r
    grind [bdS,KY]
  |tup n=>
   match st,h with
   |.tup l::st,h=>
    obtain ⟨hb,h2⟩:=Y3 (show (bif Nat.beq l.length n then rdR H S (l++st) else none)=some ls from h);obtain ⟨i1,i2⟩:=ih _ _ h2;obtain ⟨j1,j2⟩:=FW i1 (Qp1 hb);exact ⟨by simp [bdS,j1,j2],i2⟩
  |ptr p n=>
   match st,h with
   |.ptr l o::st,h=>
    simp only [rdR] at h;split at h
    ·rename_i cs ao;obtain ⟨hb,h2⟩:=Y3 h;simp only [Qp2] at hb;obtain ⟨i1,i2⟩:=ih _ _ h2;have hn:=Qp1 hb.2.2;obtain ⟨j1,j2⟩:=FW i1 hn;refine ⟨by simp [bdS,j2,Qp1 hb.1,Qp1 hb.2.1],?_⟩;simp only [bdS,KY,j1];exact .cons ao hn i2
    ·cases h
  |pin p n=>
   simp only [rdR] at h;split at h
   ·rename_i cs ao;obtain ⟨hb,h2⟩:=Y3 h;obtain ⟨i1,i2⟩:=ih _ _ h2;have hn:=Qp1 hb;obtain ⟨j1,j2⟩:=FW i1 hn;refine ⟨by simp [bdS,j2],?_⟩;simp only [bdS,KY,j1];exact .cons ao hn i2
   ·cases h
  |ps p=>
   match st,h with
   |.ptr l o::st,h=>
    obtain ⟨hb,h2⟩:=Y3 (show (bif Nat.beq l p&&Nat.beq o 0 then rdR H S st else none)=some ls from h);simp only [Qp2] at hb;obtain ⟨i1,i2⟩:=ih _ _ h2;exact ⟨by simp [bdS,i1,Qp1 hb.1,Qp1 hb.2],i2⟩
  |arr p e s=>
   match st,h with
   |.arr l::st,h=>
    simp only [rdR] at h;split at h
    ·rename_i e' s' rows an;obtain ⟨hb,h2⟩:=Y3 h;simp only [Qp2] at hb;obtain ⟨x,r,h1,h3,rfl⟩:=Sw h2;injection h1 with h1
     subst h1;obtain ⟨i1,i2⟩:=ih _ _ h3;have e1:=Qp1 hb.2.1;have e2:=Qp1 hb.2.2;subst e1 e2;exact ⟨by simp [bdS,i1,Qp1 hb.1],.cons an ⟨rfl,rfl⟩ i2⟩
    ·cases h
  |mp p t=>
   match st,h with
   |.arr l::st,h=>
    simp only [rdR] at h;split at h
    ·rename_i t' f hf;obtain ⟨hb,h2⟩:=Y3 h;simp only [Qp2] at hb;obtain ⟨x,r,h1,h3,rfl⟩:=Sw h2;injection h1 with h1
     subst h1;obtain ⟨i1,i2⟩:=ih _ _ h3;have e1:=Qp1 hb.2;subst e1;exact ⟨by simp [bdS,i1,Qp1 hb.1],.cons hf rfl i2⟩
    ·cases h
  |fn f n=>
   match st,h with
   |.fn f' l::st,h=>
    obtain ⟨hb,h2⟩:=Y3 (show (bif Nat.beq f f'&&Nat.beq l.length n then rdR H S (l++st) else none)=some ls from h);simp only [Qp2] at hb;obtain ⟨i1,i2⟩:=ih _ _ h2;obtain ⟨j1,j2⟩:=FW i1 (Qp1 hb.2);exact ⟨by simp [bdS,j1,j2,Qp1 hb.1],i2⟩
  |nil=>
   match st,h with
   |.nil::st,h=>
    obtain ⟨i1,i2⟩:=ih _ _ (show rdR H S st=some ls from h);exact ⟨by simp [bdS,i1],i2⟩
  |gone p=>
   simp only [rdR] at h;split at h
   ·rename_i hp;obtain ⟨i1,i2⟩:=ih _ _ h;exact ⟨i1,.gone hp i2⟩
   ·cases h
  |pinm p t=>
   simp only [rdR] at h;split at h
   ·rename_i t' f hf;obtain ⟨hb,h2⟩:=Y3 h;obtain ⟨x,r,h1,h3,rfl⟩:=Sw h2;injection h1 with h1
    subst h1;obtain ⟨i1,i2⟩:=ih _ _ h3;have e1:=Qp1 hb;subst e1;exact ⟨i1,.cons hf rfl i2⟩
   ·cases h
  |pina p e s=>
   simp only [rdR] at h;split at h
   ·rename_i e' s' rows hf;obtain ⟨hb,h2⟩:=Y3 h;simp only [Qp2] at hb;obtain ⟨x,r,h1,h3,rfl⟩:=Sw h2;injection h1 with h1
    subst h1;obtain ⟨i1,i2⟩:=ih _ _ h3;have e1:=Qp1 hb.1;have e2:=Qp1 hb.2;subst e1 e2;exact ⟨i1,.cons hf ⟨rfl,rfl⟩ i2⟩
   ·cases h
  |agn n=>
   match st,h with
   |.ag l::st,h=>
    obtain ⟨hb,h2⟩:=Y3 (show (bif Nat.beq l.length n then rdR H S (l++st) else none)=some ls from h);obtain ⟨i1,i2⟩:=ih _ _ h2;obtain ⟨j1,j2⟩:=FW i1 (Qp1 hb);exact ⟨by simp [bdS,j1,j2],i2⟩
  |ah p=>
   match st,h with
   |.arr l::st,h=>
    obtain ⟨hb,h2⟩:=Y3 (show (bif Nat.beq l p then rdR H S st else none)=some ls from h);obtain ⟨i1,i2⟩:=ih _ _ h2;exact ⟨by simp [bdS,i1,Qp1 hb],i2⟩
  |top=>
   match st,h with
   |.top::st,h=>
    obtain ⟨i1,i2⟩:=ih _ _ (show rdR H S st=some ls from h);exact ⟨by simp [bdS,i1],i2⟩
theorem RPr.keys {Hf:Nat->oP Ob} {K:List (Nat×OK)} {H:List (Nat×Ob)} (h:RPr Hf K H) {p:Nat} (hp:Si p (K.map (·.1))=false):look H p=none:=by
 induction h with
 |nil=>rfl
 |gone h _ ih=>simp_all [List.map_cons,Si,Bool.or_eq_false_iff]
 |cons h _ _ ih=>
  simp_all [List.map_cons,Si,Bool.or_eq_false_iff,look]
theorem Q5J {α:Type} {p:Nat} {κ:α}:∀ {K:List (Nat×α)},(p,κ)∈K->Si p (K.map (·.1))=true
 |(q,_)::K,h=>by
  rcases List.mem_cons.1 h with h | h
  ·injection h with h _;simp [Si,h,Nat.beq_refl]
  ·simp [Si,Q5J h]
theorem RPr.at {Hf:Nat->oP Ob} {K:List (Nat×OK)} {H:List (Nat×Ob)} (h:RPr Hf K H) (hn:Xm (K.map (·.1))=true) {p:Nat} {κ:OK} (hm:(p,κ)∈K) :
  look H p=Hf p/\((κ = .gone/\Hf p=none)\/∃ o,Hf p=some o/\KOb κ o):=by
 induction h with
 |nil=>cases hm
 |@gone q K H h t ih=>
  simp only [List.map_cons,Xm,Qp2,Qp5] at hn;rcases List.mem_cons.1 hm with e | hm
  ·injection e with e1 e2
   subst e1 e2;exact ⟨(t.keys hn.1).trans h.symm,.inl ⟨rfl,h⟩⟩
  simp_all
 |@cons q κ' o K H h hk t ih=>
  simp only [List.map_cons,Xm,Qp2,Qp5] at hn
  grind [look,Nat.beq_refl,Nat.beq,QdU,Q5J]
theorem HinP.map1 {ρF:List (Nat×Nat)} {K:List (Nat×OK)} {H:List (Nat×Ob)} {ρ:List (Nat×Nat)} (h:HinP ρF hl K H ρ):H.map (·.1)=ρ.map (·.1)/\K.map (·.1)=ρ.map (·.1):=by
 induction h with
 |nil=>simp_all
 |cons _ _ _ _ ih=>simp_all
theorem HinP.at {ρF:List (Nat×Nat)} {hl:Nat->oP Ob} {K:List (Nat×OK)} {H:List (Nat×Ob)} {ρ:List (Nat×Nat)} (h:HinP ρF hl K H ρ) (hn:Xm (ρ.map (·.1))=true) {p l:Nat} (hm:(p,l)∈ρ) :
  ∃ κ o o0,(p,κ)∈K/\look H p=some o/\hl l=some o0/\OLe ρF o0 o/\KOb κ o:=by
 induction h with
 |nil=>cases hm
 |@cons q l' κ o o0 K H ρ h0 h1 h2 t ih=>
  simp only [List.map_cons,Xm,Qp2,Qp5] at hn
  grind [List.mem_cons_self,look,Nat.beq_refl,List.mem_cons_of_mem,Nat.beq,QdU,Q5J]
def kE (RS:List Sp):AV->oP (HT (lts RS)):=fun av=>match rdR (fun _=>none) RS [av] with
 |some ls=>ofT _ ls
 |none=>none
def kG (RS:List Sp):AV->List (Nat×Ob)->oP (HT (lts RS)):=fun av H=>match rdR (look H) RS [av] with
 |some ls=>ofT _ ls
 |none=>none
def Qje (S RS:List Sp) (f:LF (lts S) (oP (HT (lts RS)))):Sf:=fun _ _ g ac hl k=>
 rdP g hl S ac [] fun ls _=>gb g (apL (lts S) f ls) (zT _) fun r=>k ⟨(bdS RS (toT _ r)).1.headD .top,[],[]⟩
def nus (ac:Nat):Nat->List Nat->List (Nat×Nat)
 |_,[]=>[]
 |i,m::r=>(m,ac+50000*i)::nus ac (i+1) r
structure EnP (P:Program) (f:Nat) where
 E:Sf
 ok:J9 P f E
theorem Qer {C:VC} (hC:VCOk P C) (T:List (LpE P)) {f:Nat} (fn:Func) (ss:List (List Nat)) (S RS:List Sp) (p:LF (lts S) (oP (HT (lts RS))))
  (h : ∀ v, vfnT C T fn (bdS S (toL _ v)).1 [] (retF ss (kE RS)) = apH _ p v) (hd : Rx S = true) (hf : P.funcs[f]? = some fn) (hb : fn.body.isSome = true) (hn : (fn.name == "runtime.NumGoroutine") = false)
  (hT:Mn T (Ug (Jf fn))=T.map fun e=>(e.r,e.c)) (hn2:Xm (T.map (·.r))=true):J9 P f (Qje S RS p):=by
 intro R site g avs hl k r h0;obtain ⟨ls,h1,hc⟩:=Qds S avs [] _ r hd h0;obtain ⟨res,h1,hres⟩:=X6 h1;refine ⟨_,h1,fun hg=>?_⟩;obtain ⟨v,hv,rfl⟩:=ML _ _ _ _ (hres hg);obtain ⟨c1,c2⟩:=hc hg;refine Wp.conv c2 (QbO (K:=kE RS) hC T (fn:=fn) (ss:=ss) ((h v).trans hv) (fun x hx=>?_) hf hb hn c1 hT hn2)
 unfold kE at hx;split at hx
 ·rename_i ls' hls;obtain ⟨i1,_⟩:=Q6J _ _ _ hls
  grind [Q21]
 ·cases hx
theorem Bl (ac:Nat):∀ (i:Nat) (ν:List Nat),(nus ac i ν).map (·.1)=ν
 |_,[]=>rfl
 |i,m::r=>by simp [nus,Bl ac (i+1) r]
theorem Fp {α:Type} {p:Nat}:∀ {K:List (Nat×α)},Si p (K.map (·.1))=true->∃ κ,(p,κ)∈K
 |(q,κ)::K,h=>by
  simp only [List.map_cons,Si,Bool.or_eq_true] at h;rcases h with h | h
  ·exact ⟨κ,by rw [Qp1 h];exact Qp4 ..⟩
  ·obtain ⟨κ',hk⟩:=Fp h;exact ⟨κ',Qp3 _ hk⟩
def Qcf {R:Type} (g:Bool) (H:List (Nat×Ob)):List (Nat×Ob)->oP R->oP R
 |[],x=>x
 |(p,.arr _ _ ac)::r,x=>match look H p with
  |some (.arr _ _ rows)=>gb g (Tv ac (List.length rows)) () fun _=>Qcf g H r x
  |_=>Qcf g H r x
 |_::r,x=>Qcf g H r x
theorem HW {R:Type} {g:Bool} {H:List (Nat×Ob)} {x:oP R} {z:R}:∀ {H':List (Nat×Ob)},Qcf g H H' x=some z->x=some z/\(g=true->∀ (p e s:Nat) (ac:List (List D)) (e0 s0:Nat) (rows:List (List D)),(p,Ob.arr e s ac)∈H'->look H p=some (.arr e0 s0 rows)->ac.length=rows.length)
 |[],h=>⟨h,fun _ _ _ _ _ _ _ _ h=>(nomatch h)⟩
 |(q,.arr e1 s1 ao)::r,h=>by
  unfold Qcf at h;split at h
  ·rename_i e2 s2 aq hq;obtain ⟨_,h,hl⟩:=X6 h;obtain ⟨h1,h2⟩:=HW h;refine ⟨h1,fun hg p e s ac e0 s0 rows hm hp=>?_⟩;rcases List.mem_cons.1 hm with hm | hm
   ·injection hm with e1 e2
    injection e2 with _ _ e3
    subst e1 e3;rw [hq] at hp;injection hp with hp
    injection hp with _ _ hp
    subst hp;exact Q1i (hl hg)
   ·exact h2 hg p e s ac e0 s0 rows hm hp
  ·rename_i hq;obtain ⟨h1,h2⟩:=HW h;refine ⟨h1,fun hg p e s ac e0 s0 rows hm hp=>?_⟩;rcases List.mem_cons.1 hm with hm | hm
   ·injection hm with e1 _
    subst e1;exact absurd hp (hq _ _ _)
   ·exact h2 hg p e s ac e0 s0 rows hm hp
 |(q,.box c)::r,h=>by
  obtain ⟨h1,h2⟩:=HW (H':=r) h;refine ⟨h1,fun hg p e s ac e0 s0 rows hm hp=>?_⟩;rcases List.mem_cons.1 hm with hm | hm
  ·cases hm
  ·exact h2 hg p e s ac e0 s0 rows hm hp
 |(q,.mp _ _)::r,h=>by
  obtain ⟨h1,h2⟩:=HW (H':=r) h;refine ⟨h1,fun hg p e s ac e0 s0 rows hm hp=>?_⟩;rcases List.mem_cons.1 hm with hm | hm
  ·cases hm
  ·exact h2 hg p e s ac e0 s0 rows hm hp
def Qf7:OK->Bool
 |.gone=>true
 |_=>false
def Qil:OK->OK->Bool
 |.box n,.box m=>Nat.beq m n
 |.arr _ _,.gone=>true
 |.arr e s,.arr e' s'=>Nat.beq e e'&&Nat.beq s s'
 |.mp t,.mp t'=>Nat.beq t t'
 |.mp _,.gone=>true
 |_,_=>false
def Q0N (S RS:List Sp) (ν:List Nat):Bool:=
 Xm ((KY S).map (·.1)++ν)&&(Xm ((KY S).map (·.1))&&((KY S).all (fun x=>Nat.ble 1000000 x.1)&&(Xm ((KY RS).map (·.1)) &&
  ((KY S).all (fun x=>Si x.1 ((KY RS).map (·.1))&&(KY RS).all fun y=>!(Nat.beq y.1 x.1)||Qil x.2 y.2)&&ν.all (fun m=>Si m ((KY RS).map (·.1))&&(KY RS).all fun y=>!(Nat.beq y.1 m)||!(Qf7 y.2))))))
theorem AR {σ:List (Nat×Nat)} {H H':List (Nat×Ob)}:∀ {τ:List (Nat×Nat)},(∀ j l,(j,l)∈τ->look H j=look H' j)->L8 σ H τ=L8 σ H' τ
 |[],_=>rfl
 |(j,l)::r,h=>by
  simp only [L8];rw [h j l (Qp4 ..),AR fun a b hm=>h a b (Qp3 _ hm)]
theorem Qam {H:List (Nat×Ob)}:∀ {τ:List (Nat×Nat)},(∀ j l,(j,l)∈τ->(look H j).isSome=true)->Qcr H τ
 |[],_=>trivial
 |(j,l)::r,h=>⟨h j l (Qp4 ..),Qam fun a b hm=>h a b (Qp3 _ hm)⟩
theorem Q8M {H H':List (Nat×Ob)}:∀ {τ:List (Nat×Nat)},(∀ j l,(j,l)∈τ->Q2D (look H j) (look H' j))->Qg8 H H' τ
 |[],_=>trivial
 |(j,l)::r,h=>⟨h j l (Qp4 ..),Q8M fun a b hm=>h a b (Qp3 _ hm)⟩
theorem Q8L {ρ0:List (Nat×Nat)} {hl:Nat->oP Ob} {H:List (Nat×Ob)}:∀ {τ:List (Nat×Nat)},(∀ j l,(j,l)∈τ->1000000<=j/\∃ o o',hl l=some o/\look H j=some o'/\OLe ρ0 o o')->QfS ρ0 hl H τ
 |[],_=>trivial
 |(j,l)::r,h=>⟨h j l (Qp4 ..),Q8L fun a b hm=>h a b (Qp3 _ hm)⟩
def Qax {f:Nat} (b:EnP P f):EnP P f where
 E:=fun R ac g aj hl k=>match aj with
  |[.gd _ _ .nil]=>bif g then none else k ⟨.nil,[],[]⟩
  |_=>b.E R ac g aj hl k
 ok:=by
  intro R ac g aj hl k r h;dsimp only at h;split at h
  ·exact Q9K h
  ·exact b.ok R ac g aj hl k r h
end
abbrev qI:DK:=.i .i64
abbrev qB:DK:=.b
abbrev qT:DK:=.t
abbrev qX:DK:=.x
abbrev qL (n:Nat):DK:=.l n
abbrev eA (l:List DK):Sp:=.ag l
abbrev eP (p n:Nat):Sp:=.ptr p n
abbrev eI (p n:Nat):Sp:=.pin p n
abbrev eS (p:Nat):Sp:=.ps p
abbrev eR (p e s:Nat):Sp:=.arr p e s
abbrev eM (p t:Nat):Sp:=.mp p t
abbrev eF (f n:Nat):Sp:=.fn f n
abbrev eN:Sp:=.nil
abbrev eU:Sp:=.top
abbrev eG (p:Nat):Sp:=.gone p
abbrev eT (n:Nat):Sp:=.tup n
abbrev eH (p:Nat):Sp:=.ah p
abbrev eK (p e s:Nat):Sp:=.pina p e s
abbrev eO (n:Nat):Sp:=.agn n
abbrev sI:Sp:=.d (.i .i64)
abbrev sB:Sp:=.d .b
abbrev sT:Sp:=.d .t
abbrev sL (n:Nat):Sp:=.d (.l n)
end Go.Vx
namespace Go.Vx
inductive UI where
 |r (a b:Nat)
 |f (a:Nat)
 |t (x l:Nat)
 |h (b c l:Nat)
def nmT:TA->oP Nat
 |.ptr l _=>some l
 |.arr l=>some l
 |.ap l _=>some l
 |.ac l _ _=>some l
 |.sa l _=>some l
 |_=>none
def nmV:AV->oP Nat
 |.ptr l _=>some l
 |.arr l=>some l
 |.ap l _ _=>some l
 |.sa l _=>some l
 |_=>none
def Qit:AV->Bool
 |.nil=>true
 |_=>false
def uN (mk:Nat->UI) (a:AV) (u:List UI):oP Nat->List UI
 |some l=>match nmV a with
  |some l'=>.r l' l::u
  |none=>bif Qit a then mk l::u else u
 |none=>match nmV a with
  |some l'=>.f l'::u
  |none=>u
mutual
def uA (mk:Nat->UI):TA->AV->List UI->List UI
 |.top,_,u=>u
 |.ag l,.ag l',u=>uL mk l l' u
 |.tup l,.tup l',u=>uL mk l l' u
 |.fn _ l,.fn _ l',u=>uL mk l l' u
 |ta,a,u=>uN mk a u (nmT ta)
def uL (mk:Nat->UI):List TA->List AV->List UI->List UI
 |[],_,u=>u
 |ta::r,l,u=>match l with
  |a::s=>uL mk r s (uA mk ta a u)
  |[]=>u
end
def Qh2:List UI->Nat->Nat
 |[],l=>l
 |.r a b::u,l=>bif Nat.beq b l then a else Qh2 u l
 |_::u,l=>Qh2 u l
def uB (b:Nat):Nat->List TA->List AV->List UI->List UI
 |_,[],_,u=>u
 |c,ta::r,l,u=>match l with
  |a::s=>uB b (c+1) r s (uA (.h b c) ta a u)
  |[]=>u
def uM (tm:List (Nat×AV)):List (Nat×TA)->List UI->List UI
 |[],u=>u
 |(t,a)::r,u=>uM tm r (uA (.t t) a (lkT tm t) u)
def uH (h:List (Nat×Ob)):List (Nat×TO)->List UI->List UI
 |[],u=>u
 |(l,.box cs)::r,u=>match look h (Qh2 u l) with
  |some (.box ac)=>uH h r (uB l 0 cs ac u)
  |_=>uH h r u
 |_::r,u=>uH h r u
def esT:TO->Nat×Nat
 |.arr e s=>(e,s)
 |.arc e s=>(e,s)
 |_=>(0,0)
def es1 (Z:List (Nat×TO)) (l:Nat):Nat×Nat:=match look Z l with
 |some o=>esT o
 |none=>(0,0)
def mtU (Z:Nat->Nat×Nat):List UI->List (Nat×Nat×Nat×Nat)
 |[]=>[]
 |.t x l::u=>(x,l,(Z l).1,(Z l).2)::mtU Z u
 |_::u=>mtU Z u
def mhU (Z:Nat->Nat×Nat):List UI->List (Nat×Nat×Nat×Nat×Nat)
 |[]=>[]
 |.h b c l::u=>(b,c,l,(Z l).1,(Z l).2)::mhU Z u
 |_::u=>mhU Z u
def fzU:List UI->List Nat
 |[]=>[]
 |.f a::u=>a::fzU u
 |_::u=>fzU u
def idN (l:List Nat):List (Nat×Nat):=l.map fun x=>(x,x)
def QiN (ks os:List Nat) (Z:Nat->Nat×Nat) (u:List UI):Cfg:=⟨ks,os.map fun l=>(Qh2 u l,l),mtU Z u,mhU Z u,fzU u⟩
def nU (Z:TS) (st:St):St:=QdJ ⟨Z.tm.map (·.1),idN (Z.h.map (·.1)),[],[],[]⟩ (QdJ (QiN (Z.tm.map (·.1)) (Z.h.map (·.1)) (es1 Z.h) (uH st.h Z.h (uM st.tm Z.tm []))) st)
section
variable {P:Program} {E:Env}
theorem QcC (Z:TS) {st:St} {a:Act} {w:World} (h:HZ E st a w):HZ E (nU Z st) a w:=PC _ (PC _ h)
end
structure XT where
 k:Exit
 Z:TS
 s:List Nat
def QiY:Exit->Exit->Bool
 |.exit a,.exit b=>Nat.beq a b
 |.ret,.ret=>true
 |_,_=>false
def exN:List XT->Exit->St->St
 |[],_,st=>st
 |x::r,e,st=>bif QiY x.k e&&(rdS x.Z (nU x.Z st)).isSome then nU x.Z st else exN r e st
theorem Q6h {E:Env}:∀ (X:List XT) (e:Exit) {st:St} {a:Act} {w:World},HZ E st a w->HZ E (exN X e st) a w
 |[],_,_,_,_,h=>h
 |x::r,e,st,a,w,h=>by
  unfold exN;cases QiY x.k e&&(rdS x.Z (nU x.Z st)).isSome with
  |true=>exact QcC _ h
  |false=>exact Q6h r e h
def ltD:TA->List LT->List LT
 |.i _,r=>.I::r
 |.b,r=>.B::r
 |.t,r=>.T::r
 |.l _,r=>.L::r
 |.x,r=>.D::r
 |.el _,r=>.R::r
 |.ap _ _,r=>.N::r
 |.fs _,r=>.L::r
 |.mpd,r=>.M::r
 |_,r=>r
mutual
def ltA:TA->List LT->List LT
 |.ag l,r=>ltL l r
 |.tup l,r=>ltL l r
 |.fn _ l,r=>ltL l r
 |.gd _ _ a,r=>ltA a r
 |a,r=>ltD a r
def ltL:List TA->List LT->List LT
 |[],r=>r
 |a::l,r=>ltA a (ltL l r)
end
def ltO:TO->List LT->List LT
 |.box l,r=>ltL l r
 |.arr _ _,r=>.L::r
 |.mp _,r=>.P::r
 |_,r=>r
def ltM:List (Nat×TA)->List LT->List LT
 |[],r=>r
 |(_,a)::l,r=>ltA a (ltM l r)
def ltH:List (Nat×TO)->List LT
 |[]=>[]
 |(_,o)::l=>ltO o (ltH l)
def ltS (Z:TS):List LT:=ltM Z.tm (ltH Z.h)
def QgX (d:Nat):List LT->Nat->List LT
 |[],_=>[]
 |t::ts,k=>bif Nat.beq (k % 3) d then t::QgX d ts (k / 3) else QgX d ts (k / 3)
def QgT {α:Type} (d:Nat):List α->Nat->List α
 |[],_=>[]
 |x::xs,k=>bif Nat.beq (k % 3) d then x::QgT d xs (k / 3) else QgT d xs (k / 3)
def QbG:List LT->List Nat->List LT
 |t::ts,s=>match s with
  |0::r=>t::QbG ts r
  |_::r=>QbG ts r
  |[]=>[]
 |[],_=>[]
def QaM (hs as:List Lf):List Nat->List Lf->List Lf
 |[],_=>[]
 |0::r,q=>match q with
  |x::q=>x::QaM hs as r q
  |[]=>[]
 |(j+1)::r,q=>bif Nat.ble 999 j then as.getD (j-999) (.N 0)::QaM hs as r q else hs.getD j (.N 0)::QaM hs as r q
def crL {β:Type}:(ts:List LT)->(List Lf->β)->LF ts β
 |[],f=>f []
 |t::ts,f=>fun x=>crL ts fun l=>f (Qb4 t x::l)
def apO {α:Type}:(ts:List LT)->LF ts α->List Lf->oP α
 |[],f,l=>match l with
  |[]=>some f
  |_::_=>none
 |t::ts,f,l=>match l with
  |[]=>none
  |x::r=>match Q8G t x with
   |some v=>apO ts (f v) r
   |none=>none
def kT (R:Type):List XT->Type->Type
 |[],α=>α
 |x::r,α=>LF (QbG (ltS x.Z) x.s) (oP R)->kT R r α
def apK {R α:Type} (hs:List Lf) (k:Exit->St->oP R):(X:List XT)->kT R X α->α
 |[],f=>f
 |x::r,f=>apK hs k r (f (crL _ fun as=>k x.k (fiS x.Z (QaM hs as x.s as))))
def PT (ts:List LT) (q:Nat) (X:List XT) (R:Type):Type:=LF (QgX 1 ts q) (kT R X (Nat->LF (QgX 2 ts q) (oP R)))
def runP {ts:List LT} {q:Nat} {X:List XT} {R:Type} (f:PT ts q X R) (m:Nat) (k:Exit->St->oP R) (ls:List Lf):oP R:=
 match apO _ f (QgT 1 ls q) with
 |some g=>match apO _ (apK ls k X g m) (QgT 2 ls q) with
  |some r=>r
  |none=>none
 |none=>none
inductive XD where
 |e (id:Nat) (add:List (Nat×TA)) (drop:List Nat) (o:List (Nat×TO)) (ov:List (Nat×Nat))
 |f (k:Exit) (tm:List (Nat×TA)) (h:List (Nat×TO)) (s:List Nat)
def QiI (t:Nat) (a:TA):List (Nat×TA)->List (Nat×TA)
 |[]=>[(t,a)]
 |(k,d)::r=>bif Nat.beq k t then (t,a)::r else bif Nat.ble k t then (k,d)::QiI t a r else (t,a)::(k,d)::r
def Qej:List (Nat×TA)->List (Nat×TA)->List (Nat×TA)
 |[],z=>z
 |(t,a)::r,z=>Qej r (QiI t a z)
def QdC:List Nat->List (Nat×TA)->List (Nat×TA)
 |[],z=>z
 |t::r,z=>QdC r (rem t z)
def Qid (h:List (Nat×TO)):List (Nat×TO)->List (Nat×TO)
 |[]=>h
 |(l,o)::r=>Qid (go l o h) r
where go (l:Nat) (o:TO):List (Nat×TO)->List (Nat×TO)
 |[]=>[(l,o)]
 |(k,b)::r=>bif Nat.beq k l then (l,o)::r else (k,b)::go l o r
def QhO (b:Nat):Nat->Nat->List Nat->List Nat
 |_,0,r=>r
 |i,n+1,r=>(b+i)::QhO b (i+1) n r
def Qhl:List (Nat×TA)->List Nat->List Nat
 |[],r=>r
 |(t,a)::l,r=>QhO (2000*t) 0 (ltA a []).length (Qhl l r)
def Qiv:List (Nat×TO)->List Nat
 |[]=>[]
 |(l,o)::r=>QhO (2000*l+1000) 0 (ltO o []).length (Qiv r)
def QiF (x:Nat):Nat->List Nat->Nat->Nat
 |_,[],_=>0
 |j,k::r,q=>bif Nat.beq k x then bif Nat.beq (q % 3) 2 then 0 else j else QiF x (j+1) r (q / 3)
def QiX (hk:List Nat) (q:Nat) (ov:List (Nat×Nat)):Nat->List Nat->List Nat
 |_,[]=>[]
 |i,x::r=>(look ov i).getD (QiF x 1 hk q)::QiX hk q ov (i+1) r
def xT (n:Nat) (tm:List (Nat×TA)) (h:List (Nat×TO)) (q:Nat):XD->XT
 |.f k tm' h' s=>⟨k,⟨n,tm',h'⟩,s⟩
 |.e id aj ac o ov=>⟨.exit id,⟨n,Qej aj (QdC ac tm),Qid h o⟩,QiX (Qhl tm (Qiv h)) q ov 0 (Qhl (Qej aj (QdC ac tm)) (Qiv (Qid h o)))⟩
abbrev xE (id:Nat) (ac:List (Nat×TA)):XD:=.e id ac [] [] []
def lpU {R:Type} (X:List XT) (F:Ln) (k:Exit->St->oP R):Exit->St->oP R:=fun e st=>match e with
 |.normal=>F R st k
 |.exit id=>k (.exit id) (exN X (.exit id) st)
 |.ret=>k .ret (exN X .ret st)
 |_=>none
theorem Q11 {P:Program} {c:Code} (X:List XT) (F:Nat->Ln) (h0:∀ (R:Type) st (k:Exit->St->oP R),F 0 R st k=none)
  (hs:∀ (m:Nat) (E:Env) (R:Type) st (k:Exit->St->oP R) r,F (m+1) R st k=some r->∀ a w,HZ E st a w->c.wp P (Q0H E (lpU X (F m) k) r) a w) :
  ∀ (m:Nat) (E:Env) (R:Type) (st:St) (k:Exit->St->oP R) (r:R),F m R st k=some r->∀ a w,HZ E st a w->Code.rounds P c (Q0H E k r) m a w
 |0,E,R,st,k,r,h=>by rw [h0] at h;cases h
 |m+1,E,R,st,k,r,h=>by
  intro a w hR;rw [rounds_succ];refine wp_mono (hs m E R st k r h a w hR) fun e a' w' ⟨st',ac,hk⟩=>?_
  cases e with
  |normal=>exact Q11 X F h0 hs m E R st' k r hk a' w' ac
  |exit id=>exact ⟨_,Q6h X _ ac,hk⟩
  |ret=>exact ⟨_,Q6h X _ ac,hk⟩
  |_=>cases hk
def Qb2 (r:Nat):Code->oP Code
 |.seq a b=>match Qb2 r a with
  |some c=>some c
  |none=>Qb2 r b
 |.cond _ a b=>match Qb2 r a with
  |some c=>some c
  |none=>Qb2 r b
 |.block _ c=>Qb2 r c
 |.loop c=>bif Nat.beq (Q98 c) r then some c else Qb2 r c
 |_=>none
def LpU (Z:TS) (f:(R:Type)->(Exit->St->oP R)->List Lf->oP R):Ln:=fun R st k=>
 match rdS Z (nU Z st) with
 |some ls=>f R k ls
 |none=>none
theorem Qg0:∀ (ts:List LT) {α:Type} (f:LF ts α) (l:List Lf) (r:α),apO ts f l=some r->∃ v:HL ts,l=toL ts v
 |[],α,f,l,r,h=>by
  cases l with
  |nil=>exact ⟨(),rfl⟩
  |cons x l=>cases h
 |t::ts,α,f,l,r,h=>by
  cases l with
  |nil=>cases h
  |cons x l=>
   replace h:(match Q8G t x with | some v=>apO ts (f v) l | none=>none)=some r:=h
   split at h
   ·rename_i v hv;obtain ⟨u,h2⟩:=Qg0 ts (f v) l r h;exact ⟨(v,u),by rw [NR hv,h2];rfl⟩
   ·cases h
def QgW:List LT->List Lf->Bool
 |[],l=>match l with
  |[]=>true
  |_::_=>false
 |t::ts,l=>match l with
  |[]=>false
  |x::r=>(Q8G t x).isSome&&QgW ts r
theorem Q1K:∀ {ts:List LT} {l:List Lf},QgW ts l=true->∃ v:HL ts,l=toL ts v
 |[],[],_=>⟨(),rfl⟩
 |[],_::_,h=>by cases h
 |_::_,[],h=>by cases h
 |t::ts,x::l,h=>by
  simp only [QgW,Qp2] at h;obtain ⟨v,hv⟩:=Option.isSome_iff_exists.1 h.1;obtain ⟨u,hu⟩:=Q1K h.2;exact ⟨(v,u),by rw [NR hv,hu];rfl⟩
def QgY (ts:List LT) {R:Type} (f:List Lf->oP R) (ls:List Lf):oP R:=bif QgW ts ls then f ls else none
def mkU {P:Program} {C:VC} (hC:VCOk P C) (T:List (LpE P)) (r:Nat) (fn:Func) (tm:List (Nat×TA)) (h:List (Nat×TO)) (q:Nat) (X:List XD) {τ:Type->Type} (f:(R:Type)->Nat->τ R) (n m:Nat)
  (hτ:∀ R,τ R=PT (ltM tm (ltH h)) q (X.map (xT fn.ntmps tm h q)) R:=by intro R;kernel_rfl)
  (hr:(Qb2 r (Jf fn)).isSome=true:=by kernel_rfl) (hT:Mn T (Ug ((Qb2 r (Jf fn)).getD .skip))=T.map fun e=>(e.r,e.c):=by kernel_rfl) (hn:Xm (T.map (·.r))=true:=by rfl)
  (h0:∀ (R:Type) (k:Exit->St->oP R) (v:HL (ltM tm (ltH h))),runP (cast (hτ R) (f R n)) 0 k (toL _ v)=none:=by intro R k v;kernel_rfl)
  (hs:∀ (m:Nat) (R:Type) (k:Exit->St->oP R) (v:HL (ltM tm (ltH h))),runP (cast (hτ R) (f R n)) (m+1) k (toL _ v)=Q8f C T ((Qb2 r (Jf fn)).getD .skip) (fiS ⟨fn.ntmps,tm,h⟩ (toL _ v)) (lpU (X.map (xT fn.ntmps tm h q)) (LpU ⟨fn.ntmps,tm,h⟩ fun R k=>QgY (ltM tm (ltH h)) (runP (cast (hτ R) (f R n)) m k)) k):=by intro m R k v;kernel_rfl):LpE P where
 r:=r
 c:=(Qb2 r (Jf fn)).getD .skip
 L:=LpU ⟨fn.ntmps,tm,h⟩ fun R k=>QgY (ltM tm (ltH h)) (runP (cast (hτ R) (f R n)) m k)
 t:=fun st=>(rdS ⟨fn.ntmps,tm,h⟩ (nU ⟨fn.ntmps,tm,h⟩ st)).isSome
 ok:=by
  have hT:=Bp hn hT;intro E R st k x h' a w hR;refine wp_loop_rounds m (Q11 (X.map (xT fn.ntmps tm h q)) (fun m=>LpU ⟨fn.ntmps,tm,h⟩ fun R k=>QgY (ltM tm (ltH h)) (runP (cast (hτ R) (f R n)) m k)) (fun R st k=>?_) (fun m E R st k x h' a w hR=>?_) m E R st k x h' a w hR)
  ·cases hx:LpU ⟨fn.ntmps,tm,h⟩ (fun R k=>QgY (ltM tm (ltH h)) (runP (cast (hτ R) (f R n)) 0 k)) R st k with
   |none=>rfl
   |some x=>
    unfold LpU at hx;split at hx
    ·obtain ⟨hb,hx⟩:=Y3 hx;obtain ⟨v,rfl⟩:=Q1K hb;rw [h0] at hx;cases hx
    ·cases hx
  ·unfold LpU at h';split at h'
   ·rename_i ls an;obtain ⟨hb,h'⟩:=Y3 h';obtain ⟨v,rfl⟩:=Q1K hb;rw [hs,Q7q an] at h';exact MN hC _ hT _ _ x h' a w (QcC _ hR)
   ·cases h'
structure VB (P:Program) where
 C:VC
 ok:VCOk P C
def QfV {P:Program} (l:List ((f:Nat)×EnP P f)):List (Nat×Sf):=l.map fun e=>(e.1,e.2.E)
theorem Q7t {P:Program}:∀ l:List ((f:Nat)×EnP P f),Q71 P (QfV l)
 |[]=>trivial
 |e::r=>⟨e.2.ok,Q7t r⟩
def Qjw {P:Program} {f:Nat} (l:List Nat) (a b:EnP P f):EnP P f:=⟨Qii l a.E b.E,Qdq _ a.ok b.ok⟩
def uR (h:List (Nat×Ob)):List Sp->List (AV×(Nat->Nat->UI))->List UI->List UI
 |[],_,u=>u
 |.tup _::r,st,u=>uR h r st u
 |.gone _::r,st,u=>uR h r st u
 |.pinm _ _::r,st,u=>uR h r st u
 |.pina _ _ _::r,st,u=>uR h r st u
 |.pin p _::r,st,u=>match look h p with
  |some (.box cs)=>uR h r (plC (.h p) 0 cs++st) u
  |_=>u
 |.ptr p _::r,st,u=>match st with
  |(.ptr l _,_)::st=>match look h l with
   |some (.box cs)=>uR h r (plC (.h p) 0 cs++st) (.r l p::u)
   |_=>u
  |_=>u
 |.ag _::r,st,u=>match st with
  |(.ag l,_)::st=>uR h r st (l.foldl (fun u a=>uN (fun _=>.f 0) a u none) u)
  |_::st=>uR h r st u
  |_=>u
 |.agn _::r,st,u=>match st with
  |(.ag l,q)::st=>uR h r (plC q 0 l++st) u
  |_=>u
 |.fn _ _::r,st,u=>match st with
  |(.fn _ l,q)::st=>uR h r (plC q 0 l++st) u
  |_=>u
 |.arr p _ _::r,st,u=>match st with
  |(a,q)::st=>uR h r st (uN (q 0) a u (some p))
  |_=>u
 |.mp p _::r,st,u=>match st with
  |(a,q)::st=>uR h r st (uN (q 0) a u (some p))
  |_=>u
 |.d _::r,st,u=>match st with
  |(a,q)::st=>uR h r st (uN (q 0) a u none)
  |_=>u
 |_::r,st,u=>uR h r st.tail u
where
 plC (q:Nat->Nat->UI):Nat->List AV->List (AV×(Nat->Nat->UI))
  |_,[]=>[]
  |i,a::l=>(a,fun j=>q (i+j))::plC q (i+1) l
def esR:List Sp->Nat->Nat×Nat
 |[],_=>(0,0)
 |.arr p e s::r,l=>bif Nat.beq p l then (e,s) else esR r l
 |_::r,l=>esR r l
def osR:List (Nat×OK)->List Nat
 |[]=>[]
 |(_,.gone)::r=>osR r
 |(p,_)::r=>p::osR r
def rsT:List ResultVar->List Nat
 |[]=>[]
 |.tmp t::r=>t::rsT r
 |.cell a _::r=>a::rsT r
def rsO (st:St):List ResultVar->List Nat
 |[]=>[]
 |.tmp _::r=>rsO st r
 |.cell a _::r=>match lkT st.tm a with
  |.ptr l _=>l::rsO st r
  |_=>rsO st r
def rsV (tt:TT) (st:St):List ResultVar->List (AV×(Nat->Nat->UI))
 |[]=>[]
 |.tmp t::r=>(lkT st.tm t,fun _=>.t t)::rsV tt st r
 |.cell a ty::r=>match Q4u tt st (.cell a ty),lkT st.tm a with
  |some v,.ptr l off=>(v,fun i=>.h l (off+i))::rsV tt st r
  |_,_=>rsV tt st r
def nR (tt:TT) (RS:List Sp) (rs:List ResultVar) (st:St):St:=
 QdJ (QiN (rsT rs) (rsO st rs++osR (KY RS)) (esR RS) (uR st.h RS (rsV tt st rs) [])) st
def QeI {R:Type} {P:Program} (C:VC) (T:List (LpE P)) (N:St->St) (fn:Func) (args:List AV) (h:List (Nat×Ob)) (k:AV->List (Nat×Ob)->oP R):oP R:=
 bif fn.body.isSome&&(Nat.ble args.length fn.ntmps&&HS args) then Q8f C T (Jf fn) { n:=fn.ntmps,tm:=Q4a 0 args,h:=h } (fun e st=>fnK C.tt fn k e (N st)) else none
section
variable {P:Program} {R:Type}
theorem DL {C:VC} (hC:VCOk P C) {T:List (LpE P)} {f:Nat} {fn:Func} {N:St->St} (hN:∀ (E:Env) (st:St) (a:Act) (w:World),HZ E st a w->HZ E (N st) a w) (hf:P.funcs[f]? = some fn)
  (hT:Mn T (Ug (Jf fn))=T.map fun e=>(e.r,e.c)) (hn:Xm (T.map (·.r))=true) {args:List AV} {H:List (Nat×Ob)} {k:AV->List (Nat×Ob)->oP R} {r:R} (h:QeI C T N fn args H k=some r)
  (β:Nat->oP Nat) (S:Nat->Prop) (w:World) (vs:List Value) (hO:Objs β S (look H) w) (hA:ArgsRd β S (look H) w vs args):Calls P f vs.toArray w (Nr H k r β S w):=by
 obtain ⟨hb,h⟩:=Y3 h;simp only [Qp2] at hb;obtain ⟨c,hc⟩:=Option.isSome_iff_exists.1 hb.1;have ac:Jf fn=c:=by grind [Jf]
 rw [ac] at h hT;exact Q1T hC hf hc Q4 (fun a hR=>wp_mono (MN hC c (Bp hn hT) _ _ r h a w ⟨β,S,hR⟩) fun e a w ⟨st,hR,hk⟩=>⟨_,hN _ _ _ _ hR,hk⟩) hO hA
def dkD:D->DK
 |.int k _=>.i k
 |.bool _=>.b
 |.str _=>.t
 |.sl s _=>.l s
def taD:D->TA
 |.int k _=>.i k
 |.bool _=>.b
 |.str _=>.t
 |.sl s _=>.l s
def zdT (tt:TT) (t:Nat):List D:=match look tt t with
 |some ti=>ti.zd
 |none=>[]
def stT (tt:TT) (t:Nat):Sp:=match look tt t with
 |some ti=>bif VH ti.kd then .ag (ti.zd.map dkD) else match ti.zd with
  |d::_=>.d (dkD d)
  |[]=>.nil
 |none=>.nil
def sOf (tt:TT) (fn:Func):List Sp:=fn.params.toList.map (stT tt)
def rOf (tt:TT) (fn:Func):List Sp:=match fn.resultTypes.toList with
 |[t]=>[stT tt t]
 |l=>.tup l.length::l.map (stT tt)
def ovr {α:Type} (l:List α):List (Nat×α)->List α
 |[]=>l
 |(i,a)::r=>ovr (l.set i a) r
def btT (tt:TT) (t:Nat) (o:List (Nat×TA)):TO:=.box (ovr ((zdT tt t).map taD) o)
def ptT (tt:TT) (p t:Nat) (o:List (Nat×Sp)) (r:List Sp):List Sp:=.ptr p (zdT tt t).length::(ovr ((zdT tt t).map fun d=>.d (dkD d)) o++r)
def ssK:DK->Nat
 |.l s=>s
 |_=>0
def ssR:List Sp->List (List Nat)
 |[]=>[]
 |.d k::r=>[ssK k]::ssR r
 |.ag l::r=>l.map ssK::ssR r
 |_::r=>ssR r
def rsB:List Sp->List (Nat×Nat×Nat)->List (Nat×List Sp)->List (Nat×List Sp)
 |[],_,a=>a
 |s::r,c,a=>match c.dropWhile fun x=>Nat.beq x.2.1 0 with
  |[]=>match s with
   |.ptr p n=>rsB r [(p,n,0)] (a++[(p,[])])
   |_=>rsB r [] a
  |(q,m,i)::c=>match s with
   |.ptr p n=>rsB r ((p,n,0)::(q,m-1,i+1)::c) (add q (.ps p) a++[(p,[])])
   |.arr _ e z=>rsB r ((q,m-1,i+1)::c) (add q (.arr (98000+(q-1000000)*40+i) e z) a)
   |s=>rsB r ((q,m-1,i+1)::c) (add q s a)
where add (q:Nat) (s:Sp):List (Nat×List Sp)->List (Nat×List Sp)
 |[]=>[]
 |(p,l)::r=>bif Nat.beq p q then (p,l++[s])::r else (p,l)::add q s r
def rsM:List Sp->List Sp
 |[]=>[]
 |.mp p t::r=>.pinm p t::rsM r
 |_::r=>rsM r
def rsG:List Sp->List Sp
 |[]=>[]
 |.arr p _ _::r=>.gone p::rsG r
 |_::r=>rsG r
def Nm (rs S:List Sp) (o:List (Nat×Sp)):List Sp:=ovr (rs++((rsB S [] []).flatMap (fun x=>.pin x.1 x.2.length::x.2)++(rsM S++rsG S))) o
def Q37:List (Nat×OK)->List Nat
 |[]=>[]
 |(_,.gone)::r=>Q37 r
 |(p,_)::r=>bif Nat.ble 1000000 p then Q37 r else p::Q37 r
def ky1 (k:Nat) (c:List (Nat×Nat×Nat)):Sp->List Nat×List (Nat×Nat×Nat)
 |.ptr p n=>([],(p,n,0)::c)
 |.pin p n=>([],[(p,n,0)])
 |.fn _ n=>([],(0,n,0)::c)
 |.agn n=>([],(0,n,0)::c)
 |.ag ks=>(ks.map fun _=>0,c)
 |.d _=>([k],c)
 |.arr _ _ _=>([k],c)
 |.mp _ _=>([k],c)
 |.pinm _ _=>([0],[])
 |.pina _ _ _=>([0],[])
 |.tup _=>([],[])
 |_=>([],c)
def kyT:List (Nat×Nat×Nat)->Nat×List (Nat×Nat×Nat)
 |[]=>(0,[])
 |(q,m,i)::c=>(q*1000+i,(q,m-1,i+1)::c)
def kyS:List Sp->List (Nat×Nat×Nat)->List Nat
 |[],_=>[]
 |s::r,c=>(ky1 (kyT (c.dropWhile fun x=>Nat.beq x.2.1 0)).1 (kyT (c.dropWhile fun x=>Nat.beq x.2.1 0)).2 s).1++kyS r (ky1 (kyT (c.dropWhile fun x=>Nat.beq x.2.1 0)).1 (kyT (c.dropWhile fun x=>Nat.beq x.2.1 0)).2 s).2
def QiB (x:Nat):Nat->List Nat->Nat
 |_,[]=>0
 |j,k::r=>bif Nat.beq k x then j else QiB x (j+1) r
def Qgm (ks:List Nat):List Nat->Nat->List Nat
 |[],_=>[]
 |x::r,q=>(bif Nat.beq (q % 2) 1 then QiB x 1 ks else 0)::Qgm ks r (q / 2)
def dlF (RS:List Sp) (σ ρ:List (Nat×Nat)) (ls:List Lf):Dl:=⟨UB σ ((bdS RS ls).1.headD .top),L8 σ (bdS RS ls).2 σ,ρ.map (·.2)⟩
theorem Bs {f:Nat} {fn:Func} {S RS:List Sp} {ν:List Nat} (hs:Q0N S RS ν=true) {avs:List AV} {hl:Nat->oP Ob} {ρ:List (Nat×Nat)} {site:Nat} {v:HL (lts S)} (hk:ρ.map (·.1)=(KY S).map (·.1)) (hnew:Np hl ρ (nus site 1 ν)=true)
  (hc : ∀ ρF, (∀ p l, (p, l) ∈ [] ++ ρ -> look ρF p = some l) -> SRL ρF avs (bdS S (toL _ v)).1 /\ HinP ρF hl (KY S) (bdS S (toL _ v)).2 ρ) (hf : P.funcs[f]? = some fn) (hb : fn.body.isSome = true) (hn : (fn.name == "runtime.NumGoroutine") = false)
  {α:Type} {K:AV->List (Nat×Ob)->oP α} {res:α} {full:List Lf} (hK:∀ av H',K av H'=some res->rdR (look H') RS [av]=some full)
  (hlen:∀ (p e s:Nat) (rows':List (List D)) (e0 s0:Nat) (rows:List (List D)),(p,Ob.arr e s rows')∈(bdS RS full).2->look (bdS S (toL _ v)).2 p=some (.arr e0 s0 rows)->rows'.length=rows.length)
  (hcall:∀ (β:Nat->oP Nat) (S':Nat->Prop) (w:World) (vs:List Value),Objs β S' (look (bdS S (toL _ v)).2) w->ArgsRd β S' (look (bdS S (toL _ v)).2) w vs (bdS S (toL _ v)).1->Calls P f vs.toArray w (Nr (bdS S (toL _ v)).2 K res β S' w)) :
  Wp P f avs hl (dlF RS (ρ++nus site 1 ν) ρ full):=by
 simp only [Q0N,Qp2,List.all_eq_true,Bool.or_eq_true,Qp5] at hs;obtain ⟨s1,s2,s3,s4,s5,s6⟩:=hs;have hnd:Xm (ρ.map (·.1))=true:=by rw [hk];exact s2
 obtain ⟨c1,c2⟩:=hc ρ (fun p l hm=>F4 hnd (by simpa using hm));have hkeys:=c2.map1;have inS:∀ {j l:Nat},(j,l)∈ρ->∃ κ,(j,κ)∈KY S:=fun hm=>by
  obtain ⟨κ,_,_,g1,_⟩:=c2.at hnd hm;exact ⟨κ,g1⟩
 have inR:∀ {j l:Nat},(j,l)∈ρ++nus site 1 ν->∃ κ,(j,κ)∈KY RS:=fun {j l} hm=>by
  rcases List.mem_append.1 hm with hm | hm
  ·obtain ⟨κ,g1⟩:=inS hm;exact Fp (s5 _ g1).1
  ·have:j∈ν:=by rw [<- Bl site 1 ν];exact List.mem_map.2 ⟨_,hm,rfl⟩
   exact Fp (s6 _ this).1
 refine Q1D (fn:=fn) (ρ:=ρ) (ν:=nus site 1 ν) (avs':=(bdS S (toL _ v)).1) (H:=(bdS S (toL _ v)).2) (K:=K) (res:=res) hf hb hn c1.cle (by rw [List.map_append,Bl,hk];exact s1) hnd hnew (Q8L fun j l hm=>?_) hkeys.1 (by simp only [wrL,dlF];exact BH _ _ _) hcall (fun av H' hx=>?_)
 ·obtain ⟨κ,o,o0,g1,g2,g3,g4,_⟩:=c2.at hnd hm;exact ⟨Nat.le_of_ble_eq_true (s3 _ g1),o0,o,g3,g2,g4⟩
 ·obtain ⟨i1,i2⟩:=Q6J _ _ _ (hK av H' hx);have hat:∀ j l,(j,l)∈ρ++nus site 1 ν->look (bdS RS full).2 j=look H' j:=fun j l hm=>by
   obtain ⟨κ,g1⟩:=inR hm;exact (i2.at s4 g1).1
  refine ⟨by simp only [dlF];rw [i1];rfl,?_,Qam fun j l hm=>?_,Q8M fun j l hm=>?_⟩
  ·exact (AR hat).symm
  ·have hj:j∈ν:=by rw [<- Bl site 1 ν];exact List.mem_map.2 ⟨_,hm,rfl⟩
   obtain ⟨κ,g1⟩:=Fp (s6 _ hj).1;rcases (i2.at s4 g1).2 with ⟨rfl,_⟩ | ⟨o,ho,_⟩
   ·rcases (s6 _ hj).2 _ g1 with g | g
    ·simp [Nat.beq_refl] at g
    ·cases g
   ·rw [ho];rfl
  ·obtain ⟨κ,o,o0,g1,g2,g3,g4,g5⟩:=c2.at hnd hm;obtain ⟨κ',g6⟩:=Fp (s5 _ g1).1;have he:Qil κ κ'=true:=by
    rcases (s5 _ g1).2 _ g6 with g | g
    ·simp [Nat.beq_refl] at g
    ·exact g
   rw [g2];rcases (i2.at s4 g6).2 with ⟨rfl,hno⟩ | ⟨o',ho',hk'⟩
   ·cases κ <;> try (cases he;done)
    ·cases o <;> try (exact False.elim g5)
     exact Q8c rfl hno
    ·cases o <;> try (exact False.elim g5)
     exact Q5n rfl hno
   ·cases κ <;> cases κ' <;> try (cases he;done)
    ·cases o <;> try (exact False.elim g5)
     cases o' <;> try (exact False.elim hk')
     have he:=Qp1 he;simp only [KOb] at g5 hk';exact Qaw rfl ho' Q0
    ·cases o <;> try (exact False.elim g5)
     cases o' <;> try (exact False.elim hk')
     simp only [Qil,Qp2] at he;have e1:=Qp1 he.1;have e2:=Qp1 he.2;obtain ⟨rfl,rfl⟩:=g5;obtain ⟨rfl,rfl⟩:=hk';subst e1 e2;exact Q80 rfl ho' (hlen _ _ _ _ _ _ _ (YH ((i2.at s4 g6).1.trans ho')) g2)
    ·cases o' <;> exact False.elim hk'
    ·cases o <;> try (exact False.elim g5)
     cases o' <;> try (exact False.elim hk')
     have he:=Qp1 he;simp only [KOb] at g5 hk';subst g5;subst hk';subst he;exact Q9x rfl ho'
    ·cases o' <;> exact False.elim hk'
def Q9n:List Nat->List Lf->List Lf
 |0::s,x::l=>x::Q9n s l
 |(_+1)::s,_::l=>Q9n s l
 |_,_=>[]
theorem Q2A (hs as:List Lf):∀ (ts:List LT) (s:List Nat) (q:List Lf),s.length=ts.length->q.length=(QbG ts s).length->Q9n s (QaM hs as s q)=q
 |[],[],q,_,h=>by
  cases q with
  |nil=>rfl
  |cons x q=>cases h
 |t::ts,0::s,q,h1,h2=>by
  cases q with
  |nil=>cases h2
  |cons x q=>exact congrArg (x::·) (Q2A hs as ts s q (Nat.succ.inj h1) (Nat.succ.inj h2))
 |t::ts,(j+1)::s,q,h1,h2=>by
  have:=Q2A hs as ts s q (Nat.succ.inj h1) h2;simp only [QaM];cases Nat.ble 999 j <;> simpa [Q9n] using this
theorem Q8K:∀ (ts:List LT) (v:HT ts),(toT ts v).length=ts.length
 |[],_=>rfl
 |[t],_=>rfl
 |t::u::ts,v=>congrArg (· + 1) (Q8K (u::ts) v.2)
theorem Q9w (t:LT) (x:t.ty):Q8G t (Qb4 t x)=some x:=by cases t <;> rfl
theorem Q9l:∀ (ts:List LT) (v:HT ts),ofT ts (toT ts v)=some v
 |[],_=>rfl
 |[t],v=>Q9w t v
 |t::u::ts,v=>by
  show (match Q8G t (Qb4 t v.1),ofT (u::ts) (toT (u::ts) v.2) with | some a,some b=>some (a,b) | _,_=>none)=some v;rw [Q9w,Q9l (u::ts)];rfl
theorem QcX {β:Type}:∀ (ts:List LT) (G:List Lf->β) (k:HT ts->β),(∀ r,G (toT ts r)=k r)->crL ts G=crT ts k
 |[],G,k,h=>h ()
 |[t],G,k,h=>funext fun x=>h x
 |t::u::ts,G,k,h=>funext fun x=>QcX (u::ts) (fun l=>G (Qb4 t x::l)) (fun r=>k (x,r)) fun r=>h (x,r)
def drT:List LT->Nat->List LT
 |[],_=>[]
 |t::ts,a=>bif Nat.beq (a % 2) 1 then drT ts (a / 2) else t::drT ts (a / 2)
def drL:List Lf->Nat->List Lf
 |[],_=>[]
 |x::xs,a=>bif Nat.beq (a % 2) 1 then drL xs (a / 2) else x::drL xs (a / 2)
def FT (S:List Sp) (a:Nat) (rs:List LT) (R:Type):Type:=LF (drT (lts S) a) (LF rs (oP R)->oP R)
def apF {S:List Sp} {a:Nat} {rs:List LT} {R:Type} (F:FT S a rs R) (ls:List Lf) (K:LF rs (oP R)):oP R:=match apO _ F (drL ls a) with
 |some p=>p K
 |none=>none
def pF {S:List Sp} {a:Nat} {rs:List LT} (F:FT S a rs (HT rs)):LF (lts S) (oP (HT rs)):=crL (lts S) fun ls=>apF F ls (crT rs some)
theorem Q9C {β:Type}:∀ (ts:List LT) (G:List Lf->β) (v:HL ts),apH ts (crL ts G) v=G (toL ts v)
 |[],_,_=>rfl
 |t::ts,G,v=>Q9C ts (fun l=>G (Qb4 t v.1::l)) v.2
def kW {α:Type} (RS:List Sp) (K:List Lf->oP α):AV->List (Nat×Ob)->oP α:=fun av H=>match rdR (look H) RS [av] with
 |some ls=>K ls
 |none=>none
def Qjd (S RS:List Sp) (s:List Nat) (f:LF (lts S) (oP (HT (QbG (lts RS) s)))):Sf:=fun _ ac g aj hl k=>
 rdP g hl S aj [] fun ls ρ=>bif Np hl ρ (nus ac 1 (Q37 (KY RS))) then gb g (apL (lts S) f ls) (zT _) fun r=>Qcf g (bdS S ls).2 (bdS RS (QaM ls [] s (toT _ r))).2 (k (dlF RS (ρ++nus ac 1 (Q37 (KY RS))) ρ (QaM ls [] s (toT _ r)))) else none
theorem Qed {C:VC} (hC:VCOk P C) (T:List (LpE P)) {f:Nat} (fn:Func) (S RS:List Sp) (s:List Nat) (a:Nat) (F:(R:Type)->FT S a (QbG (lts RS) s) R)
  (h:∀ (α:Type) (K:List Lf->oP α) (v:HL (lts S)),QeI C T (nR C.tt RS fn.results.toList) fn (bdS S (toL _ v)).1 (bdS S (toL _ v)).2 (kW RS K)=apF (F α) (toL _ v) (crL _ fun as=>K (QaM (toL _ v) [] s as)))
  (hfn : ∀ v : HL (lts S), Bc S (toL _ v) = true) (hl : Nat.beq s.length (lts RS).length = true) (hs : Q0N S RS (Q37 (KY RS)) = true) (hf : P.funcs[f]? = some fn) (hb : fn.body.isSome = true) (hn : (fn.name == "runtime.NumGoroutine") = false)
  (hT:Mn T (Ug (Jf fn))=T.map fun e=>(e.r,e.c)) (hn2:Xm (T.map (·.r))=true):J9 P f (Qjd S RS s (pF (F _))):=by
 intro R site g avs hl' k r h0;obtain ⟨ls,ρ,h1,hk,hc⟩:=Q2E S avs [] _ r h0;rw [List.nil_append] at h1;obtain ⟨hnew,h1⟩:=Y3 h1;obtain ⟨res,h1,hres⟩:=X6 h1;obtain ⟨h1,hlen⟩:=HW h1;refine ⟨_,h1,fun hg=>?_⟩;obtain ⟨v,hv,rfl⟩:=ML _ _ _ _ (hres hg);rw [pF,Q9C] at hv;let M (q:List Lf):=QaM (toL _ v) [] s q;let K:List Lf->oP (HT (QbG (lts RS) s)):=fun full=>open Classical in match ofT _ (Q9n s full) with
  |some r=>if full=M (toT _ r) then some r else none
  |none=>none
 have hK:∀ r,K (M (toT _ r))=some r:=fun r=>by
  simp only [K,M,Q2A _ _ (lts RS) s _ (Qp1 hl) (Q8K _ r),Q9l,if_true]
 refine Bs hs hk hnew (hc hg (hfn v)) hf hb hn (fun av H' hx=>?_) (hlen hg) (DL hC (fun _ _ _ _=>PC _) hf hT hn2 ((h _ K v).trans (by rw [QcX _ (fun as=>K (M as)) _ hK];exact hv)));unfold kW at hx;split at hx
 ·rename_i ls hls;rw [hls];simp only [K] at hx;split at hx
  ·split at hx
   ·rename_i r' _ he;injection hx with hx
    subst hx;rw [he]
   ·cases hx
  ·cases hx
 ·cases hx
noncomputable def mkW {C:VC} (hC:VCOk P C) (T:List (LpE P)) (f:Nat) (fn:Func) (S rs:List Sp) (o:List (Nat×Sp)) (a q:Nat) {τ:Type->Type} (F:(R:Type)->Nat->τ R) (n:Nat)
  (hτ:∀ R,τ R=FT S a (QbG (lts (Nm rs S o)) (Qgm (kyS S []) (kyS (Nm rs S o) []) q)) R:=by intro R;kernel_rfl)
  (h:∀ (α:Type) (K:List Lf->oP α) (v:HL (lts S)),QeI C T (nR C.tt (Nm rs S o) fn.results.toList) fn (bdS S (toL _ v)).1 (bdS S (toL _ v)).2 (kW (Nm rs S o) K)=apF (S:=S) (a:=a) (rs:=QbG (lts (Nm rs S o)) (Qgm (kyS S []) (kyS (Nm rs S o) []) q)) (cast (hτ α) (F α n)) (toL _ v) (crL _ fun as=>K (QaM (toL _ v) [] (Qgm (kyS S []) (kyS (Nm rs S o) []) q) as)):=by intro α K v;kernel_rfl)
  (hfn : ∀ v : HL (lts S), Bc S (toL _ v) = true := by intro v; kernel_rfl) (hl : Nat.beq (Qgm (kyS S []) (kyS (Nm rs S o) []) q).length (lts (Nm rs S o)).length = true := by kernel_rfl) (hs : Q0N S (Nm rs S o) (Q37 (KY (Nm rs S o))) = true := by kernel_rfl) (hf : P.funcs[f]? = some fn := by kernel_rfl) (hb : fn.body.isSome = true := by kernel_rfl) (hn : (fn.name == "runtime.NumGoroutine") = false := by kernel_rfl)
  (hT:Mn T (Ug (Jf fn))=T.map fun e=>(e.r,e.c):=by kernel_rfl) (hn2:Xm (T.map (·.r))=true:=by kernel_rfl):EnP P f:=
 ⟨_,Qed hC T fn S (Nm rs S o) _ a (fun R=>cast (hτ R) (F R n)) h hfn hl hs hf hb hn hT hn2⟩
noncomputable def mkF {C:VC} (hC:VCOk P C) (T:List (LpE P)) (f:Nat) (fn:Func) (S RS:List Sp) (a:Nat) {τ:Type->Type} (F:(R:Type)->Nat->τ R) (n:Nat) (hτ:∀ R,τ R=FT S a (lts RS) R:=by intro R;kernel_rfl)
  (h : ∀ v, vfnT C T fn (bdS S (toL _ v)).1 [] (retF (ssR RS) (kE RS)) = apH _ (pF (cast (hτ _) (F _ n))) v := by intro v; kernel_rfl) (hd : Rx S = true := by kernel_rfl) (hf : P.funcs[f]? = some fn := by kernel_rfl) (hb : fn.body.isSome = true := by kernel_rfl) (hn : (fn.name == "runtime.NumGoroutine") = false := by kernel_rfl)
  (hT:Mn T (Ug (Jf fn))=T.map fun e=>(e.r,e.c):=by kernel_rfl) (hn2:Xm (T.map (·.r))=true:=by kernel_rfl):EnP P f:=
 ⟨_,Qer hC T fn (ssR RS) S RS (pF (cast (hτ _) (F _ n))) h hd hf hb hn hT hn2⟩
noncomputable def mkD {C:VC} (hC:VCOk P C) (T:List (LpE P)) (f:Nat) (fn:Func) (a:Nat) {τ:Type->Type} (F:(R:Type)->Nat->τ R) (n:Nat) (hτ:∀ R,τ R=FT (sOf C.tt fn) a (lts (rOf C.tt fn)) R:=by intro R;kernel_rfl)
  (h : ∀ v, vfnT C T fn (bdS (sOf C.tt fn) (toL _ v)).1 [] (retF (ssR (rOf C.tt fn)) (kE (rOf C.tt fn))) = apH _ (pF (cast (hτ _) (F _ n))) v := by intro v; kernel_rfl) (hd : Rx (sOf C.tt fn) = true := by kernel_rfl) (hf : P.funcs[f]? = some fn := by kernel_rfl) (hb : fn.body.isSome = true := by kernel_rfl) (hn : (fn.name == "runtime.NumGoroutine") = false := by kernel_rfl)
  (hT:Mn T (Ug (Jf fn))=T.map fun e=>(e.r,e.c):=by kernel_rfl) (hn2:Xm (T.map (·.r))=true:=by kernel_rfl):EnP P f:=mkF hC T f fn (sOf C.tt fn) (rOf C.tt fn) a F n hτ h hd hf hb hn hT hn2
def FX (S:List Sp) (a:Nat) (ra rb:List LT) (R:Type):Type:=LF (drT (lts S) a) (LF ra (oP R)->LF rb (oP R)->oP R)
def pX {S:List Sp} {a:Nat} {ra rb:List LT} (F:FX S a ra rb (HT ra ⊕ HT rb)):LF (lts S) (oP (HT ra ⊕ HT rb)):=crL (lts S) fun ls=>match apO _ F (drL ls a) with
 |some p=>p (crT ra fun x=>some (.inl x)) (crT rb fun x=>some (.inr x))
 |none=>none
def kX (RA RB:List Sp):AV->List (Nat×Ob)->oP (HT (lts RA) ⊕ HT (lts RB)):=fun av H=>match kG RA av H with
 |some a=>some (.inl a)
 |none=>match kG RB av H with
  |some b=>some (.inr b)
  |none=>none
theorem Q5W {RS:List Sp} {av:AV} {H:List (Nat×Ob)} {r:HT (lts RS)} (h:kG RS av H=some r):rdR (look H) RS [av]=some (toT _ r):=by
 grind [kG,Q21]
def nX (tt:TT) (RA RB:List Sp) (rs:List ResultVar) (st:St):St:=bif match Q2v tt (nR tt RB rs st) rs with
  |some av=>(rdR (look (nR tt RB rs st).h) RB [av]).isSome
  |none=>false
 then nR tt RB rs st else nR tt RA rs st
def Qjr (S RA RB:List Sp) (f:LF (lts S) (oP (HT (lts RA) ⊕ HT (lts RB)))):Sf:=fun _ ac g aj hl k=>
 rdP g hl S aj [] fun ls ρ=>bif Np hl ρ (nus ac 1 (Q37 (KY RA)))&&Np hl ρ (nus ac 1 (Q37 (KY RB))) then gb g (apL (lts S) f ls) (.inl (zT _)) fun r=>
  smX r (fun a=>Qcf g (bdS S ls).2 (bdS RA (toT _ a)).2 (k (dlF RA (ρ++nus ac 1 (Q37 (KY RA))) ρ (toT _ a)))) (fun b=>Qcf g (bdS S ls).2 (bdS RB (toT _ b)).2 (k (dlF RB (ρ++nus ac 1 (Q37 (KY RB))) ρ (toT _ b)))) else none
theorem QdM {C:VC} (hC:VCOk P C) (T:List (LpE P)) {f:Nat} (fn:Func) (S RA RB:List Sp) (p:LF (lts S) (oP (HT (lts RA) ⊕ HT (lts RB))))
  (h:∀ v,QeI C T (nX C.tt RA RB fn.results.toList) fn (bdS S (toL _ v)).1 (bdS S (toL _ v)).2 (kX RA RB)=apH _ p v)
  (hfn : ∀ v : HL (lts S), Bc S (toL _ v) = true) (hs : (Q0N S RA (Q37 (KY RA)) && Q0N S RB (Q37 (KY RB))) = true) (hf : P.funcs[f]? = some fn) (hb : fn.body.isSome = true) (hn : (fn.name == "runtime.NumGoroutine") = false)
  (hT:Mn T (Ug (Jf fn))=T.map fun e=>(e.r,e.c)) (hn2:Xm (T.map (·.r))=true):J9 P f (Qjr S RA RB p):=by
 intro R site g avs hl' k r h0;obtain ⟨ls,ρ,h1,hk,hc⟩:=Q2E S avs [] _ r h0;rw [List.nil_append] at h1;obtain ⟨hnew,h1⟩:=Y3 h1;simp only [Qp2] at hnew hs;obtain ⟨res,h1,hres⟩:=X6 h1;have hN:∀ (E:Env) (st:St) (a:Act) (w:World),HZ E st a w->HZ E (nX C.tt RA RB fn.results.toList st) a w:=fun E st a w hR=>by
  grind [nX,Q2v,nR,rdR,look,PC]
 have key:g=true->∃ v,ls=toL (lts S) v/\∀ (β:Nat->oP Nat) (S':Nat->Prop) (w:World) (vs:List Value),Objs β S' (look (bdS S (toL _ v)).2) w->ArgsRd β S' (look (bdS S (toL _ v)).2) w vs (bdS S (toL _ v)).1->Calls P f vs.toArray w (Nr (bdS S (toL _ v)).2 (kX RA RB) res β S' w):=fun hg=>by
  obtain ⟨v,hv,rfl⟩:=ML _ _ _ _ (hres hg);exact ⟨v,rfl,DL hC hN hf hT hn2 ((h v).trans hv)⟩
 cases res with
 |inl a=>
  obtain ⟨h1,hlen⟩:=HW h1;refine ⟨_,h1,fun hg=>?_⟩;obtain ⟨v,rfl,hcall⟩:=key hg;refine Bs hs.1 hk hnew.1 (hc hg (hfn v)) hf hb hn (fun av H' hx=>?_) (hlen hg) hcall;unfold kX at hx;split at hx
  ·rename_i a' ha;injection hx with hx
   injection hx with hx
   subst hx;exact Q5W ha
  ·split at hx <;> cases hx
 |inr b=>
  obtain ⟨h1,hlen⟩:=HW h1;refine ⟨_,h1,fun hg=>?_⟩;obtain ⟨v,rfl,hcall⟩:=key hg;refine Bs hs.2 hk hnew.2 (hc hg (hfn v)) hf hb hn (fun av H' hx=>?_) (hlen hg) hcall;unfold kX at hx;split at hx
  ·cases hx
  ·split at hx
   ·rename_i b' hb';injection hx with hx
    injection hx with hx
    subst hx;exact Q5W hb'
   ·cases hx
noncomputable def mkX {C:VC} (hC:VCOk P C) (T:List (LpE P)) (f:Nat) (fn:Func) (S RA RB:List Sp) (a:Nat) {τ:Type->Type} (F:(R:Type)->Nat->τ R) (n:Nat) (hτ:∀ R,τ R=FX S a (lts RA) (lts RB) R:=by intro R;kernel_rfl)
  (h:∀ v,QeI C T (nX C.tt RA RB fn.results.toList) fn (bdS S (toL _ v)).1 (bdS S (toL _ v)).2 (kX RA RB)=apH _ (pX (cast (hτ _) (F _ n))) v:=by intro v;kernel_rfl)
  (hfn : ∀ v : HL (lts S), Bc S (toL _ v) = true := by intro v; kernel_rfl) (hs : (Q0N S RA (Q37 (KY RA)) && Q0N S RB (Q37 (KY RB))) = true := by kernel_rfl) (hf : P.funcs[f]? = some fn := by kernel_rfl) (hb : fn.body.isSome = true := by kernel_rfl) (hn : (fn.name == "runtime.NumGoroutine") = false := by kernel_rfl)
  (hT:Mn T (Ug (Jf fn))=T.map fun e=>(e.r,e.c):=by kernel_rfl) (hn2:Xm (T.map (·.r))=true:=by kernel_rfl):EnP P f:=
 ⟨_,QdM hC T fn S RA RB (pX (cast (hτ _) (F _ n))) h hfn hs hf hb hn hT hn2⟩
end
section
variable {P:Program}
def QfQ (S RS:List Sp) (p:LF (lts S) (oP (HT (lts RS)))):Sf:=fun _ ac g aj hl k=>
 rdP g hl S aj [] fun ls ρ=>bif Np hl ρ (nus ac 1 (Q37 (KY RS))) then gb g (apL (lts S) p ls) (zT _) fun r=>Qcf g (bdS S ls).2 (bdS RS (toT _ r)).2 (k (dlF RS (ρ++nus ac 1 (Q37 (KY RS))) ρ (toT _ r))) else none
theorem Qat {f:Nat} (fn:Func) (S RS:List Sp) (p:LF (lts S) (oP (HT (lts RS))))
  (h:∀ (v:HL (lts S)) (r:HT (lts RS)),apH _ p v=some r->∀ (β:Nat->oP Nat) (S':Nat->Prop) (w:World) (vs:List Value),Objs β S' (look (bdS S (toL _ v)).2) w->ArgsRd β S' (look (bdS S (toL _ v)).2) w vs (bdS S (toL _ v)).1->Calls P f vs.toArray w (Nr (bdS S (toL _ v)).2 (kG RS) r β S' w))
  (hfn : ∀ v : HL (lts S), Bc S (toL _ v) = true) (hs : Q0N S RS (Q37 (KY RS)) = true) (hf : P.funcs[f]? = some fn) (hb : fn.body.isSome = true) (hn : (fn.name == "runtime.NumGoroutine") = false) : J9 P f (QfQ S RS p) := by
 intro R site g avs hl' k r h0;obtain ⟨ls,ρ,h1,hk,hc⟩:=Q2E S avs [] _ r h0;rw [List.nil_append] at h1;obtain ⟨hnew,h1⟩:=Y3 h1;obtain ⟨res,h1,hres⟩:=X6 h1;obtain ⟨h1,hlen⟩:=HW h1;refine ⟨_,h1,fun hg=>?_⟩;obtain ⟨v,hv,rfl⟩:=ML _ _ _ _ (hres hg);exact Bs hs hk hnew (hc hg (hfn v)) hf hb hn (fun av H' hx=>Q5W hx) (hlen hg) (h v res hv)
theorem Qes {C:VC} (hC:VCOk P C) (T:List (LpE P)) {f:Nat} (fn:Func) (S RS:List Sp) (p:LF (lts S) (oP (HT (lts RS))))
  (h:∀ v:HL (lts S),QeI C T (nR C.tt RS fn.results.toList) fn (bdS S (toL _ v)).1 (bdS S (toL _ v)).2 (kG RS)=apH _ p v)
  (hfn : ∀ v : HL (lts S), Bc S (toL _ v) = true) (hs : Q0N S RS (Q37 (KY RS)) = true) (hf : P.funcs[f]? = some fn) (hb : fn.body.isSome = true) (hn : (fn.name == "runtime.NumGoroutine") = false)
  (hT:Mn T (Ug (Jf fn))=T.map fun e=>(e.r,e.c)) (hn2:Xm (T.map (·.r))=true):J9 P f (QfQ S RS p):=
 Qat fn S RS p (fun v r hv=>DL hC (fun _ _ _ _=>PC _) hf hT hn2 ((h v).trans hv)) hfn hs hf hb hn
end
section
variable {P:Program}
theorem Q6c {M:Nat->Prop} {w w':World} (h:RowKit.Below w.heap.size w w'):Fr M w w':=⟨h.os,h.tape,h.output,h.size,fun b hb _=>h.block b hb⟩
theorem Q8h {β:Nat->oP Nat} {S:Nat->Prop} {h:Nat->oP Ob} {w:World} {args:List Value} {a:AV} (hA:ArgsRd β S h w args [a]):∃ v,args=[v]/\RdA β S h w tm0 v a:=by
 obtain ⟨h1,h2⟩:=hA
 match args,h1 with
 |[v],_=>exact ⟨v,rfl,h2 0 v a rfl rfl⟩
end
end Go.Vx
