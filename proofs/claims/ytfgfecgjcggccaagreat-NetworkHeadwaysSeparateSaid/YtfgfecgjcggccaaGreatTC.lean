/- Part of a proof. No conditions of their own. -/
import Derived.Test.YtfgfecgjcggccaaGreatTB
set_option linter.unusedVariables false
set_option linter.unusedSimpArgs false
abbrev QdN:=@Nat.eq_of_beq_eq_true
abbrev QdO:=@Bool.and_eq_true
abbrev QdP:=@List.mem_cons_of_mem
abbrev QdQ:=@List.mem_cons_self
abbrev QdR:=@Bool.not_eq_true'
namespace Go.Vx
inductive DK where
 |i (k:IntKind) | b | t | l (s:Nat) | x
inductive Sp where
 |d (k:DK)
 |ag (ks:List DK)
 |tup (n:Nat)
 |ptr (p n:Nat)
 |pin (p n:Nat)
 |ps (p:Nat)
 |arr (p e s:Nat)
 |mp (p t:Nat)
 |fn (f n:Nat)
 |nil
 |gone (p:Nat)
 |pinm (p t:Nat)
 |agn (n:Nat)
 |ah (p:Nat)
def DK.lt:DK->LT
 |.i _=>.I
 |.b=>.B
 |.t=>.T
 |.l _=>.L
 |.x=>.D
def Qcl:List DK->List LT->List LT
 |[],r=>r
 |k::ks,r=>k.lt::Qcl ks r
def lts:List Sp->List LT
 |[]=>[]
 |.d k::r=>k.lt::lts r
 |.ag ks::r=>Qcl ks (lts r)
 |.arr _ _ _::r=>.L::lts r
 |.mp _ _::r=>.P::lts r
 |.tup _::r=>lts r
 |.ptr _ _::r=>lts r
 |.pin _ _::r=>lts r
 |.ps _::r=>lts r
 |.fn _ _::r=>lts r
 |.nil::r=>lts r
 |.gone _::r=>lts r
 |.pinm _ _::r=>.P::lts r
 |.agn _::r=>lts r
 |.ah _::r=>lts r
def HT:List LT->Type
 |[]=>Unit
 |[t]=>t.ty
 |t::u::ts=>t.ty × HT (u::ts)
def crT {β:Type}:(ts:List LT)->(HT ts->β)->LF ts β
 |[],k=>k ()
 |[_],k=>fun x=>k x
 |_::u::ts,k=>fun x=>crT (u::ts) fun r=>k (x,r)
def toT:(ts:List LT)->HT ts->List Lf
 |[],_=>[]
 |[t],v=>[Qaj t v]
 |t::u::ts,v=>Qaj t v.1::toT (u::ts) v.2
def ofT:(ts:List LT)->List Lf->Option (HT ts)
 |[],l=>match l with
  |[]=>some ()
  |_=>none
 |[t],l=>match l with
  |[x]=>Q9b t x
  |_=>none
 |t::u::ts,l=>match l with
  |x::r=>match Q9b t x,ofT (u::ts) r with
   |some a,some b=>some (a,b)
   |_,_=>none
  |_=>none
def zL:(t:LT)->t.ty
 |.I=>(0:Int)
 |.B=>false
 |.T=>([]:List UInt8)
 |.L=>([]:List (List D))
 |.R=>([]:List D)
 |.D=>D.bool false
 |.N=>(0:Nat)
 |.M=>fun _=>[]
 |.P=>fun _=>false
def zT:(ts:List LT)->HT ts
 |[]=>()
 |[t]=>zL t
 |t::u::ts=>(zL t,zT (u::ts))
theorem Bf:∀ (ts:List LT) {l:List Lf} {v:HT ts},ofT ts l=some v->toT ts v=l
 |[],l,v,h=>by
  cases l with
  |nil=>rfl
  |cons x r=>cases h
 |[t],l,v,h=>by
  match l,h with
  |[x],h=>exact congrArg (·::[]) (Eg (t:=t) h).symm
  |[],h=>cases h
  |_::_::_,h=>cases h
 |t::u::ts,l,v,h=>by
  match l,h with
  |[],h=>cases h
  |x::r,h=>
   replace h:(match Q9b t x,ofT (u::ts) r with | some a,some b=>some (a,b) | _,_=>none)=some v:=h
   split at h
   ·rename_i a b ha hb;injection h with h
    subst h;show Qaj t a::toT (u::ts) b=x::r;rw [Bf (u::ts) hb,Eg ha]
   ·cases h
def mkK {α β:Type}:(ts:List LT)->LF ts (α->β)->α->LF ts β
 |[],f,k=>f k
 |_::ts,f,k=>fun x=>mkK ts (f x) k
section
variable {P:Program} {R:Type}
def prD (g:Bool) (k:DK) (a:AV) (K:Lf->Option R):Option R:=
 match k with
 |.i k=>prI g k a fun x=>K (.I x)
 |.b=>prB g a fun x=>K (.B x)
 |.t=>prT g a fun x=>K (.T x)
 |.l s=>prS g s a fun x=>K (.L x)
 |.x=>none
def Q9c (g:Bool):List DK->List AV->(List Lf->Option R)->Option R
 |[],l,K=>match l with
  |[]=>K []
  |_=>none
 |k::ks,l,K=>match l with
  |a::r=>prD g k a fun x=>Q9c g ks r fun y=>K (x::y)
  |_=>none
def rdP (g:Bool) (hl:Nat->Option Ob):List Sp->List AV->List (Nat × Nat)->(List Lf->List (Nat × Nat)->Option R)->Option R
 |[],st,ρ,K=>match st with
  |[]=>K [] ρ
  |_=>none
 |.d k::r,st,ρ,K=>match st with
  |a::st=>prD g k a fun x=>rdP g hl r st ρ fun ls ρ'=>K (x::ls) ρ'
  |_=>none
 |.ag ks::r,st,ρ,K=>match st with
  |.ag l::st=>Q9c g ks l fun xs=>rdP g hl r st ρ fun ls ρ'=>K (xs++ls) ρ'
  |_=>none
 |.ptr p n::r,st,ρ,K=>match st with
  |.ptr l o::st=>match hl l with
   |some (.box cs)=>bif Nat.beq o 0&&Nat.beq cs.length n then rdP g hl r (cs++st) (ρ++[(p,l)]) K else none
   |_=>none
  |_=>none
 |.ps p::r,st,ρ,K=>match st with
  |.ptr l o::st=>match look ρ p with
   |some l'=>bif Nat.beq o 0&&Nat.beq l l' then rdP g hl r st ρ K else none
   |none=>none
  |_=>none
 |.arr p e s::r,st,ρ,K=>match st with
  |.arr l::st=>match hl l with
   |some (.arr e' s' rows)=>bif Nat.beq e e'&&Nat.beq s s' then rdP g hl r st (ρ++[(p,l)]) fun ls ρ'=>K (.L rows::ls) ρ' else none
   |_=>none
  |_=>none
 |.mp p t::r,st,ρ,K=>match st with
  |.arr l::st=>match hl l with
   |some (.mp t' f)=>bif Nat.beq t t' then rdP g hl r st (ρ++[(p,l)]) fun ls ρ'=>K (.P f::ls) ρ' else none
   |_=>none
  |_=>none
 |.fn f n::r,st,ρ,K=>match st with
  |.fn f' l::st=>bif Nat.beq f f'&&Nat.beq l.length n then rdP g hl r (l++st) ρ K else none
  |_=>none
 |.nil::r,st,ρ,K=>match st with
  |.nil::st=>rdP g hl r st ρ K
  |_=>none
 |.tup _::_,_,_,_=>none
 |.pin _ _::_,_,_,_=>none
 |.gone _::_,_,_,_=>none
 |.pinm _ _::_,_,_,_=>none
 |.agn _::_,_,_,_=>none
 |.ah _::_,_,_,_=>none
def bdD:DK->Lf->AV
 |.i k,.I x=>.d (.int k x)
 |.b,.B x=>.d (.bool x)
 |.t,.T x=>.d (.str x)
 |.l s,.L x=>.d (.sl s x)
 |.x,.D x=>.d x
 |_,_=>.top
def Q41:List DK->List Lf->List AV × List Lf
 |[],ls=>([],ls)
 |k::ks,ls=>match ls with
  |x::r=>(bdD k x::(Q41 ks r).1,(Q41 ks r).2)
  |[]=>(.top::(Q41 ks []).1,[])
def bdS:List Sp->List Lf->List AV × List (Nat × Ob)
 |[],_=>([],[])
 |.d k::r,ls=>match ls with
  |x::ls=>(bdD k x::(bdS r ls).1,(bdS r ls).2)
  |[]=>([],[])
 |.ag ks::r,ls=>(.ag (Q41 ks ls).1::(bdS r (Q41 ks ls).2).1,(bdS r (Q41 ks ls).2).2)
 |.tup n::r,ls=>(.tup ((bdS r ls).1.take n)::(bdS r ls).1.drop n,(bdS r ls).2)
 |.ptr p n::r,ls=>(.ptr p 0::(bdS r ls).1.drop n,(p,.box ((bdS r ls).1.take n))::(bdS r ls).2)
 |.pin p n::r,ls=>((bdS r ls).1.drop n,(p,.box ((bdS r ls).1.take n))::(bdS r ls).2)
 |.ps p::r,ls=>(.ptr p 0::(bdS r ls).1,(bdS r ls).2)
 |.arr p e s::r,ls=>match ls with
  |.L x::ls=>(.arr p::(bdS r ls).1,(p,.arr e s x)::(bdS r ls).2)
  |_=>([],[])
 |.mp p t::r,ls=>match ls with
  |.P x::ls=>(.arr p::(bdS r ls).1,(p,.mp t x)::(bdS r ls).2)
  |_=>([],[])
 |.fn f n::r,ls=>(.fn f ((bdS r ls).1.take n)::(bdS r ls).1.drop n,(bdS r ls).2)
 |.nil::r,ls=>(.nil::(bdS r ls).1,(bdS r ls).2)
 |.gone _::r,ls=>bdS r ls
 |.pinm p t::r,ls=>match ls with
  |.P x::ls=>((bdS r ls).1,(p,.mp t x)::(bdS r ls).2)
  |_=>([],[])
 |.agn n::r,ls=>(.ag ((bdS r ls).1.take n)::(bdS r ls).1.drop n,(bdS r ls).2)
 |.ah p::r,ls=>(.arr p::(bdS r ls).1,(bdS r ls).2)
def isD:AV->Bool
 |.d _=>true
 |.nil=>true
 |.ag _=>true
 |_=>false
structure SR (ρ:List (Nat × Nat)) (a b:AV):Prop where
 d:isD b=true->lf b=true/\F9 a b
 o:isD b=false->dm ρ b=true/\a=ZQ ρ b
inductive SRL (ρ:List (Nat × Nat)):List AV->List AV->Prop
 |nil:SRL ρ [] []
 |cons {a b:AV} {l r:List AV} (h:SR ρ a b) (t:SRL ρ l r):SRL ρ (a::l) (b::r)
theorem SRL.length {ρ:List (Nat × Nat)} {l r:List AV} (h:SRL ρ l r):l.length=r.length:=by induction h <;> simp [*]
theorem SRL.cle {ρ:List (Nat × Nat)} {l r:List AV} (h:SRL ρ l r):CLeL ρ l r:=by
 induction h with
 |nil=>exact .nil
 |@cons a b l r h _ ih=>
  refine .cons ?_ ih;cases hd:isD b with
  |true=>exact .data (h.d hd).1 (h.d hd).2
  |false=>exact .own (h.o hd).1 (h.o hd).2
theorem SRL.split {ρ:List (Nat × Nat)}:∀ {a b c:List AV},SRL ρ (a++b) c->SRL ρ a (c.take a.length)/\SRL ρ b (c.drop a.length)
 |[],b,c,h=>⟨by simpa using SRL.nil,by simpa using h⟩
 |x::a,b,c,h=>by
  cases h with
  |cons h t=>
   obtain ⟨h1,h2⟩:=SRL.split t;exact ⟨by simpa using SRL.cons h h1,by simpa using h2⟩
theorem SRL.own {ρ:List (Nat × Nat)} {l r:List AV} (h:SRL ρ l r) (hd:r.all (fun b=>!isD b)=true):dmL ρ r=true/\l=An ρ r:=by
 induction h with
 |nil=>exact ⟨rfl,rfl⟩
 |cons h _ ih=>
  simp only [List.all_cons,QdO,QdR] at hd;obtain ⟨h1,h2⟩:=h.o hd.1;obtain ⟨h3,h4⟩:=ih hd.2;exact ⟨by simp [dmL,h1,h3],by simp [An,<- h2,<- h4]⟩
theorem B5 {g:Bool} {k:DK} {a:AV} {K:Lf->Option R} {r:R} (h:prD g k a K=some r):∃ x,K x=some r/\isD (bdD k x)=true/\lf (bdD k x)=true/\(g=true->F9 a (bdD k x)):=by
 cases k with
 |i k=>obtain ⟨x,h1,h2⟩:=VU h;exact ⟨_,h1,rfl,rfl,h2⟩
 |b=>obtain ⟨x,h1,h2⟩:=Q6t h;exact ⟨_,h1,rfl,rfl,h2⟩
 |t=>obtain ⟨x,h1,h2⟩:=Q7c h;exact ⟨_,h1,rfl,rfl,h2⟩
 |l s=>obtain ⟨x,h1,h2⟩:=Wg h;exact ⟨_,h1,rfl,rfl,h2⟩
 |x=>cases h
theorem Eo {g:Bool}:∀ {ks:List DK} {l:List AV} {K:List Lf->Option R} {r:R},Q9c g ks l K=some r->∃ xs,K xs=some r/\∀ ls,(Q41 ks (xs++ls)).2=ls/\lfL (Q41 ks (xs++ls)).1=true/\(g=true->AVleL l (Q41 ks (xs++ls)).1)
 |[],l,K,r,h=>by
  cases l with
  |nil=>exact ⟨[],h,fun ls=>⟨rfl,rfl,fun _=>.nil⟩⟩
  |cons a l=>cases h
 |k::ks,l,K,r,h=>by
  cases l with
  |nil=>cases h
  |cons a l=>
   replace h:prD g k a (fun x=>Q9c g ks l fun y=>K (x::y))=some r:=h
   obtain ⟨x,h,h1,h2,h3⟩:=B5 h;obtain ⟨xs,h,h4⟩:=Eo h;refine ⟨x::xs,h,fun ls=>?_⟩;obtain ⟨h5,h6,h7⟩:=h4 ls;exact ⟨h5,by simp [Q41,lfL,h2,h6],fun hg=>.cons (h3 hg) (h7 hg)⟩
inductive OK where
 |box (n:Nat)
 |arr (e s:Nat)
 |mp (t:Nat)
 |gone
def Ss:List Sp->List (Nat × OK)
 |[]=>[]
 |.ptr p n::r=>(p,.box n)::Ss r
 |.pin p n::r=>(p,.box n)::Ss r
 |.arr p e s::r=>(p,.arr e s)::Ss r
 |.mp p t::r=>(p,.mp t)::Ss r
 |.gone p::r=>(p,.gone)::Ss r
 |.pinm p t::r=>(p,.mp t)::Ss r
 |.agn _::r=>Ss r
 |.ah _::r=>Ss r
 |.d _::r=>Ss r
 |.ag _::r=>Ss r
 |.tup _::r=>Ss r
 |.ps _::r=>Ss r
 |.fn _ _::r=>Ss r
 |.nil::r=>Ss r
def KOb:OK->Ob->Prop
 |.box n,.box c=>c.length=n
 |.arr e s,.arr e' s' _=>e'=e/\s'=s
 |.mp t,.mp t' _=>t'=t
 |_,_=>False
def Ai:List Sp->List Lf->Bool
 |[],_=>true
 |.d _::r,ls=>Ai r ls.tail
 |.ag ks::r,ls=>Ai r (Q41 ks ls).2
 |.arr _ _ _::r,ls=>Ai r ls.tail
 |.mp _ _::r,ls=>Ai r ls.tail
 |.fn _ n::r,ls=>((bdS r ls).1.take n).all (fun b=>!isD b)&&Ai r ls
 |.ptr _ _::r,ls=>Ai r ls
 |.pin _ _::r,ls=>Ai r ls
 |.ps _::r,ls=>Ai r ls
 |.tup _::r,ls=>Ai r ls
 |.nil::r,ls=>Ai r ls
 |.gone _::r,ls=>Ai r ls
 |.pinm _ _::r,ls=>Ai r ls.tail
 |.agn _::r,ls=>Ai r ls
 |.ah _::r,ls=>Ai r ls
inductive HinP (ρF:List (Nat × Nat)) (hl:Nat->Option Ob):List (Nat × OK)->List (Nat × Ob)->List (Nat × Nat)->Prop
 |nil:HinP ρF hl [] [] []
 |cons {p l:Nat} {κ:OK} {o o0:Ob} {K:List (Nat × OK)} {H:List (Nat × Ob)} {ρ:List (Nat × Nat)} (h0:hl l=some o0) (h1:OLe ρF o0 o) (h2:KOb κ o) (t:HinP ρF hl K H ρ):HinP ρF hl ((p,κ)::K) ((p,o)::H) ((p,l)::ρ)
theorem Q6T {g:Bool} {hl:Nat->Option Ob}:∀ (S:List Sp) (st:List AV) (ρ:List (Nat × Nat)) (K:List Lf->List (Nat × Nat)->Option R) (r:R),rdP g hl S st ρ K=some r ->
  ∃ ls ρ',K ls (ρ++ρ')=some r/\(ρ'.map (·.1)=(Ss S).map (·.1))/\(g=true->Ai S ls=true->∀ ρF,(∀ p l,(p,l)∈ρ++ρ'->look ρF p=some l)->SRL ρF st (bdS S ls).1/\HinP ρF hl (Ss S) (bdS S ls).2 ρ'):=by
 intro S;induction S with
 |nil=>
  intro st ρ K r h;cases st with
  |nil=>exact ⟨[],[],by rw [List.append_nil];exact h,rfl,fun _ _ ρF _=>⟨.nil,.nil⟩⟩
  |cons a st=>cases h
 |cons s S ih=>
  intro st ρ K r h;cases s with
  |d k=>
   cases st with
   |nil=>cases h
   |cons a st=>
    replace h:prD g k a (fun x=>rdP g hl S st ρ fun ls ρ'=>K (x::ls) ρ')=some r:=h
    obtain ⟨x,h,h1,h2,h3⟩:=B5 h;obtain ⟨ls,ρ',h,hk,hc⟩:=ih st ρ _ r h;refine ⟨x::ls,ρ',h,hk,fun hg hf ρF hρ=>?_⟩;obtain ⟨c1,c2⟩:=hc hg hf ρF hρ;exact ⟨.cons ⟨fun _=>⟨h2,h3 hg⟩,fun e=>(by rw [h1] at e;cases e)⟩ c1,c2⟩
  |ag ks=>
   match st,h with
   |.ag l::st,h=>
    replace h:Q9c g ks l (fun xs=>rdP g hl S st ρ fun ls ρ'=>K (xs++ls) ρ')=some r:=h
    obtain ⟨xs,h,hx⟩:=Eo h;obtain ⟨ls,ρ',h,hk,hc⟩:=ih st ρ _ r h;obtain ⟨x1,x2,x3⟩:=hx ls;refine ⟨xs++ls,ρ',h,hk,fun hg hf ρF hρ=>?_⟩;simp only [Ai,x1] at hf;obtain ⟨c1,c2⟩:=hc hg hf ρF hρ;simp only [bdS,x1];exact ⟨.cons ⟨fun _=>⟨x2,.ag (x3 hg)⟩,fun e=>(by cases e)⟩ c1,c2⟩
  |ptr p n=>
   match st,h with
   |.ptr l o::st,h=>
    simp only [rdP] at h;split at h
    ·rename_i cs a7;obtain ⟨hb,h'⟩:=QX h;simp only [QdO] at hb;have ho:=QdN hb.1;have hn:=QdN hb.2;subst ho hn;obtain ⟨ls,ρ',h,hk,hc⟩:=ih (cs++st) (ρ++[(p,l)]) _ r h';rw [List.append_assoc] at h;refine ⟨ls,(p,l)::ρ',h,by simp [Ss,hk],fun hg hf ρF hρ=>?_⟩;obtain ⟨c1,c2⟩:=hc hg hf ρF (fun a b hm=>hρ a b (by simpa using hm));obtain ⟨d1,d2⟩:=c1.split;have am:=hρ p l (by simp);refine ⟨.cons ⟨fun e=>(by cases e),fun _=>⟨by simp [dm,am],by simp [ZQ,am]⟩⟩ d2,.cons a7 (.box d1.cle) ?_ c2⟩;exact d1.length.symm
    ·cases h
  |ps p=>
   match st,h with
   |.ptr l o::st,h=>
    simp only [rdP] at h;split at h
    ·rename_i l' am;obtain ⟨hb,h'⟩:=QX h;simp only [QdO] at hb;have ho:=QdN hb.1;have hn:=QdN hb.2;subst ho hn;obtain ⟨ls,ρ',h,hk,hc⟩:=ih st ρ _ r h';refine ⟨ls,ρ',h,hk,fun hg hf ρF hρ=>?_⟩;obtain ⟨c1,c2⟩:=hc hg hf ρF hρ;have ax:=hρ p l (List.mem_append_left _ (Y3 am));exact ⟨.cons ⟨fun e=>(by cases e),fun _=>⟨by simp [dm,ax],by simp [ZQ,ax]⟩⟩ c1,c2⟩
    ·cases h
  |arr p e s=>
   match st,h with
   |.arr l::st,h=>
    simp only [rdP] at h;split at h
    ·rename_i e' s' rows aw;obtain ⟨hb,h'⟩:=QX h;simp only [QdO] at hb;have ho:=QdN hb.1;have hn:=QdN hb.2;subst ho hn;obtain ⟨ls,ρ',h,hk,hc⟩:=ih st (ρ++[(p,l)]) _ r h';rw [List.append_assoc] at h;refine ⟨.L rows::ls,(p,l)::ρ',h,by simp [Ss,hk],fun hg hf ρF hρ=>?_⟩;obtain ⟨c1,c2⟩:=hc hg hf ρF (fun a b hm=>hρ a b (by simpa using hm));have am:=hρ p l (by simp);exact ⟨.cons ⟨fun e=>(by cases e),fun _=>⟨by simp [dm,am],by simp [ZQ,am]⟩⟩ c1,.cons aw (.arr _ _ _) ⟨rfl,rfl⟩ c2⟩
    ·cases h
  |mp p t=>
   match st,h with
   |.arr l::st,h=>
    simp only [rdP] at h;split at h
    ·rename_i t' f a6;obtain ⟨hb,h'⟩:=QX h;have ho:=QdN hb;subst ho;obtain ⟨ls,ρ',h,hk,hc⟩:=ih st (ρ++[(p,l)]) _ r h';rw [List.append_assoc] at h;refine ⟨.P f::ls,(p,l)::ρ',h,by simp [Ss,hk],fun hg hf ρF hρ=>?_⟩;obtain ⟨c1,c2⟩:=hc hg hf ρF (fun a b hm=>hρ a b (by simpa using hm));have am:=hρ p l (by simp);exact ⟨.cons ⟨fun e=>(by cases e),fun _=>⟨by simp [dm,am],by simp [ZQ,am]⟩⟩ c1,.cons a6 (.mp _ _) rfl c2⟩
    ·cases h
  |fn f n=>
   match st,h with
   |.fn f' l::st,h=>
    simp only [rdP] at h;obtain ⟨hb,h'⟩:=QX h;simp only [QdO] at hb;have ho:=QdN hb.1;have hn:=QdN hb.2;subst ho hn;obtain ⟨ls,ρ',h,hk,hc⟩:=ih (l++st) ρ _ r h';refine ⟨ls,ρ',h,hk,fun hg hf ρF hρ=>?_⟩;simp only [Ai,QdO] at hf;obtain ⟨c1,c2⟩:=hc hg hf.2 ρF hρ;obtain ⟨d1,d2⟩:=c1.split;obtain ⟨e1,e2⟩:=d1.own hf.1;exact ⟨.cons ⟨fun e=>(by cases e),fun _=>⟨by simpa [dm] using e1,by simp [ZQ,<- e2]⟩⟩ d2,c2⟩
  |nil=>
   match st,h with
   |.nil::st,h=>
    obtain ⟨ls,ρ',h,hk,hc⟩:=ih st ρ _ r h;refine ⟨ls,ρ',h,hk,fun hg hf ρF hρ=>?_⟩;obtain ⟨c1,c2⟩:=hc hg hf ρF hρ;exact ⟨.cons ⟨fun _=>⟨rfl,.refl _⟩,fun e=>(by cases e)⟩ c1,c2⟩
  |tup n=>cases h
  |pin p n=>cases h
  |gone p=>cases h
  |pinm p t=>cases h
  |agn n=>cases h
  |ah p=>cases h
def Sq:List Sp->Bool
 |[]=>true
 |.d _::r=>Sq r
 |.ag _::r=>Sq r
 |.nil::r=>Sq r
 |_=>false
theorem Q8a {g:Bool} {hl:Nat->Option Ob}:∀ (S:List Sp) (st:List AV) (ρ:List (Nat × Nat)) (K:List Lf->List (Nat × Nat)->Option R) (r:R),Sq S=true->rdP g hl S st ρ K=some r ->
  ∃ ls,K ls ρ=some r/\(g=true->lfL (bdS S ls).1=true/\AVleL st (bdS S ls).1):=by
 intro S;induction S with
 |nil=>
  intro st ρ K r _ h;cases st with
  |nil=>exact ⟨[],h,fun _=>⟨rfl,.nil⟩⟩
  |cons a st=>cases h
 |cons s S ih=>
  intro st ρ K r hd h;cases s with
  |d k=>
   cases st with
   |nil=>cases h
   |cons a st=>
    replace h:prD g k a (fun x=>rdP g hl S st ρ fun ls ρ'=>K (x::ls) ρ')=some r:=h
    obtain ⟨x,h,_,h2,h3⟩:=B5 h;obtain ⟨ls,h,hc⟩:=ih st ρ _ r hd h;refine ⟨x::ls,h,fun hg=>?_⟩;obtain ⟨c1,c2⟩:=hc hg;exact ⟨by simp [bdS,lfL,h2,c1],.cons (h3 hg) c2⟩
  |ag ks=>
   match st,h with
   |.ag l::st,h=>
    replace h:Q9c g ks l (fun xs=>rdP g hl S st ρ fun ls ρ'=>K (xs++ls) ρ')=some r:=h
    obtain ⟨xs,h,hx⟩:=Eo h;obtain ⟨ls,h,hc⟩:=ih st ρ _ r hd h;obtain ⟨x1,x2,x3⟩:=hx ls;refine ⟨xs++ls,h,fun hg=>?_⟩;obtain ⟨c1,c2⟩:=hc hg;simp only [bdS,x1];exact ⟨by simp [lfL,lf,x2,c1],.cons (.ag (x3 hg)) c2⟩
  |nil=>
   match st,h with
   |.nil::st,h=>
    obtain ⟨ls,h,hc⟩:=ih st ρ _ r hd h;refine ⟨ls,h,fun hg=>?_⟩;obtain ⟨c1,c2⟩:=hc hg;exact ⟨by simp [bdS,lfL,lf,c1],.cons (.refl _) c2⟩
  |_=>cases hd
def exD:DK->AV->Option Lf
 |.i k,.d (.int k' x)=>oB (k == k') (.I x)
 |.b,.d (.bool x)=>some (.B x)
 |.t,.d (.str x)=>some (.T x)
 |.l s,.d (.sl s' x)=>oB (Nat.beq s s') (.L x)
 |.x,.d x=>some (.D x)
 |_,_=>none
def Q9m:List DK->List AV->Option (List Lf)
 |[],l=>match l with
  |[]=>some []
  |_=>none
 |k::ks,l=>match l with
  |a::r=>match exD k a,Q9m ks r with
   |some x,some xs=>some (x::xs)
   |_,_=>none
  |_=>none
theorem Q2P {k:DK} {a:AV} {x:Lf} (h:exD k a=some x):bdD k x=a:=by
 cases k <;> cases a <;> try (simp only [exD,reduceCtorEq] at h;done)
 case i.d k d=>
  cases d <;> try (simp only [exD,reduceCtorEq] at h;done)
  simp only [exD] at h;obtain ⟨h1,rfl⟩:=Un h;rw [<- eq_of_beq h1];rfl
 case b.d d=>
  cases d <;> try (simp only [exD,reduceCtorEq] at h;done)
  simp only [exD,Option.some.injEq] at h;subst h;rfl
 case t.d d=>
  cases d <;> try (simp only [exD,reduceCtorEq] at h;done)
  simp only [exD,Option.some.injEq] at h;subst h;rfl
 case l.d s d=>
  cases d <;> try (simp only [exD,reduceCtorEq] at h;done)
  simp only [exD] at h;obtain ⟨h1,rfl⟩:=Un h;rw [<- QdN h1];rfl
 case x.d d=>simp only [exD,Option.some.injEq] at h;subst h;rfl
theorem AQ:∀ {ks:List DK} {l:List AV} {xs:List Lf},Q9m ks l=some xs->∀ ls,Q41 ks (xs++ls)=(l,ls)
 |[],l,xs,h,ls=>by
  cases l with
  |nil=>injection h with h;subst h;rfl
  |cons a l=>cases h
 |k::ks,l,xs,h,ls=>by
  cases l with
  |nil=>cases h
  |cons a l=>
   replace h:(match exD k a,Q9m ks l with | some x,some xs=>some (x::xs) | _,_=>none)=some xs:=h
   split at h
   ·rename_i x ys hx hy;injection h with h
    subst h;simp [Q41,Q2P hx,AQ hy ls]
   ·cases h
def Q2a (a:Option Lf) (b:Option (List Lf)):Option (List Lf):=match a,b with
 |some x,some r=>some (x::r)
 |_,_=>none
def QaU (a b:Option (List Lf)):Option (List Lf):=match a,b with
 |some x,some r=>some (x++r)
 |_,_=>none
theorem Sj {a:Option Lf} {b:Option (List Lf)} {l:List Lf} (h:Q2a a b=some l):∃ x r,a=some x/\b=some r/\l=x::r:=by
 cases a <;> cases b <;> simp [Q2a] at h;exact ⟨_,_,rfl,rfl,h.symm⟩
theorem Q4G {a b:Option (List Lf)} {l:List Lf} (h:QaU a b=some l):∃ x r,a=some x/\b=some r/\l=x++r:=by
 cases a <;> cases b <;> simp [QaU] at h;exact ⟨_,_,rfl,rfl,h.symm⟩
def rdR (H:Nat->Option Ob):List Sp->List AV->Option (List Lf)
 |[],st=>match st with
  |[]=>some []
  |_=>none
 |.d k::r,st=>match st with
  |a::st=>Q2a (exD k a) (rdR H r st)
  |_=>none
 |.ag ks::r,st=>match st with
  |.ag l::st=>QaU (Q9m ks l) (rdR H r st)
  |_=>none
 |.tup n::r,st=>match st with
  |.tup l::st=>bif Nat.beq l.length n then rdR H r (l++st) else none
  |_=>none
 |.ptr p n::r,st=>match st with
  |.ptr l o::st=>match H p with
   |some (.box cs)=>bif Nat.beq l p&&(Nat.beq o 0&&Nat.beq cs.length n) then rdR H r (cs++st) else none
   |_=>none
  |_=>none
 |.pin p n::r,st=>match H p with
  |some (.box cs)=>bif Nat.beq cs.length n then rdR H r (cs++st) else none
  |_=>none
 |.ps p::r,st=>match st with
  |.ptr l o::st=>bif Nat.beq l p&&Nat.beq o 0 then rdR H r st else none
  |_=>none
 |.arr p e s::r,st=>match st with
  |.arr l::st=>match H p with
   |some (.arr e' s' rows)=>bif Nat.beq l p&&(Nat.beq e e'&&Nat.beq s s') then Q2a (some (.L rows)) (rdR H r st) else none
   |_=>none
  |_=>none
 |.mp p t::r,st=>match st with
  |.arr l::st=>match H p with
   |some (.mp t' f)=>bif Nat.beq l p&&Nat.beq t t' then Q2a (some (.P f)) (rdR H r st) else none
   |_=>none
  |_=>none
 |.fn f n::r,st=>match st with
  |.fn f' l::st=>bif Nat.beq f f'&&Nat.beq l.length n then rdR H r (l++st) else none
  |_=>none
 |.nil::r,st=>match st with
  |.nil::st=>rdR H r st
  |_=>none
 |.gone p::r,st=>match H p with
  |none=>rdR H r st
  |_=>none
 |.pinm p t::r,st=>match H p with
  |some (.mp t' f)=>bif Nat.beq t t' then Q2a (some (.P f)) (rdR H r st) else none
  |_=>none
 |.agn n::r,st=>match st with
  |.ag l::st=>bif Nat.beq l.length n then rdR H r (l++st) else none
  |_=>none
 |.ah p::r,st=>match st with
  |.arr l::st=>bif Nat.beq l p then rdR H r st else none
  |_=>none
inductive RPr (Hf:Nat->Option Ob):List (Nat × OK)->List (Nat × Ob)->Prop
 |nil:RPr Hf [] []
 |gone {p:Nat} {K:List (Nat × OK)} {H:List (Nat × Ob)} (h:Hf p=none) (t:RPr Hf K H):RPr Hf ((p,.gone)::K) H
 |cons {p:Nat} {κ:OK} {o:Ob} {K:List (Nat × OK)} {H:List (Nat × Ob)} (h:Hf p=some o) (hk:KOb κ o) (t:RPr Hf K H):RPr Hf ((p,κ)::K) ((p,o)::H)
theorem Np {α:Type} {a b c:List α} (h:c=a++b) {n:Nat} (hn:a.length=n):c.take n=a/\c.drop n=b:=by
 subst h hn;simp
theorem Q2J {H:Nat->Option Ob}:∀ (S:List Sp) (st:List AV) (ls:List Lf),rdR H S st=some ls->(bdS S ls).1=st/\RPr H (Ss S) (bdS S ls).2:=by
 intro S;induction S with
 |nil=>
  intro st ls h;cases st with
  |nil=>injection h with h;subst h;exact ⟨rfl,.nil⟩
  |cons a st=>cases h
 |cons s S ih=>
  intro st ls h;cases s with
  |d k=>
   cases st with
   |nil=>cases h
   |cons a st=>
    obtain ⟨x,r,h1,h2,rfl⟩:=Sj (show Q2a (exD k a) (rdR H S st)=some ls from h);obtain ⟨i1,i2⟩:=ih st r h2;exact ⟨by simp [bdS,Q2P h1,i1],i2⟩
  |ag ks=>
   match st,h with
   |.ag l::st,h=>
    obtain ⟨x,r,h1,h2,rfl⟩:=Q4G (show QaU (Q9m ks l) (rdR H S st)=some ls from h);obtain ⟨i1,i2⟩:=ih st r h2;have:=AQ h1 r;exact ⟨by simp [bdS,this,i1],by simpa [bdS,Ss,this] using i2⟩
  |tup n=>
   match st,h with
   |.tup l::st,h=>
    obtain ⟨hb,h2⟩:=QX (show (bif Nat.beq l.length n then rdR H S (l++st) else none)=some ls from h);obtain ⟨i1,i2⟩:=ih _ _ h2;obtain ⟨j1,j2⟩:=Np i1 (QdN hb);exact ⟨by simp [bdS,j1,j2],i2⟩
  |ptr p n=>
   match st,h with
   |.ptr l o::st,h=>
    simp only [rdR] at h;split at h
    ·rename_i cs aq;obtain ⟨hb,h2⟩:=QX h;simp only [QdO] at hb;obtain ⟨i1,i2⟩:=ih _ _ h2;have hn:=QdN hb.2.2;obtain ⟨j1,j2⟩:=Np i1 hn;refine ⟨by simp [bdS,j2,QdN hb.1,QdN hb.2.1],?_⟩;simp only [bdS,Ss,j1];exact .cons aq hn i2
    ·cases h
  |pin p n=>
   simp only [rdR] at h;split at h
   ·rename_i cs aq;obtain ⟨hb,h2⟩:=QX h;obtain ⟨i1,i2⟩:=ih _ _ h2;have hn:=QdN hb;obtain ⟨j1,j2⟩:=Np i1 hn;refine ⟨by simp [bdS,j2],?_⟩;simp only [bdS,Ss,j1];exact .cons aq hn i2
   ·cases h
  |ps p=>
   match st,h with
   |.ptr l o::st,h=>
    obtain ⟨hb,h2⟩:=QX (show (bif Nat.beq l p&&Nat.beq o 0 then rdR H S st else none)=some ls from h);simp only [QdO] at hb;obtain ⟨i1,i2⟩:=ih _ _ h2;exact ⟨by simp [bdS,i1,QdN hb.1,QdN hb.2],i2⟩
  |arr p e s=>
   match st,h with
   |.arr l::st,h=>
    simp only [rdR] at h;split at h
    ·rename_i e' s' rows ao;obtain ⟨hb,h2⟩:=QX h;simp only [QdO] at hb;obtain ⟨x,r,h1,h3,rfl⟩:=Sj h2;injection h1 with h1
     subst h1;obtain ⟨i1,i2⟩:=ih _ _ h3;have e1:=QdN hb.2.1;have e2:=QdN hb.2.2;subst e1 e2;exact ⟨by simp [bdS,i1,QdN hb.1],.cons ao ⟨rfl,rfl⟩ i2⟩
    ·cases h
  |mp p t=>
   match st,h with
   |.arr l::st,h=>
    simp only [rdR] at h;split at h
    ·rename_i t' f hf;obtain ⟨hb,h2⟩:=QX h;simp only [QdO] at hb;obtain ⟨x,r,h1,h3,rfl⟩:=Sj h2;injection h1 with h1
     subst h1;obtain ⟨i1,i2⟩:=ih _ _ h3;have e1:=QdN hb.2;subst e1;exact ⟨by simp [bdS,i1,QdN hb.1],.cons hf rfl i2⟩
    ·cases h
  |fn f n=>
   match st,h with
   |.fn f' l::st,h=>
    obtain ⟨hb,h2⟩:=QX (show (bif Nat.beq f f'&&Nat.beq l.length n then rdR H S (l++st) else none)=some ls from h);simp only [QdO] at hb;obtain ⟨i1,i2⟩:=ih _ _ h2;obtain ⟨j1,j2⟩:=Np i1 (QdN hb.2);exact ⟨by simp [bdS,j1,j2,QdN hb.1],i2⟩
  |nil=>
   match st,h with
   |.nil::st,h=>
    obtain ⟨i1,i2⟩:=ih _ _ (show rdR H S st=some ls from h);exact ⟨by simp [bdS,i1],i2⟩
  |gone p=>
   simp only [rdR] at h;split at h
   ·rename_i hp;obtain ⟨i1,i2⟩:=ih _ _ h;exact ⟨i1,.gone hp i2⟩
   ·cases h
  |pinm p t=>
   simp only [rdR] at h;split at h
   ·rename_i t' f hf;obtain ⟨hb,h2⟩:=QX h;obtain ⟨x,r,h1,h3,rfl⟩:=Sj h2;injection h1 with h1
    subst h1;obtain ⟨i1,i2⟩:=ih _ _ h3;have e1:=QdN hb;subst e1;exact ⟨i1,.cons hf rfl i2⟩
   ·cases h
  |agn n=>
   match st,h with
   |.ag l::st,h=>
    obtain ⟨hb,h2⟩:=QX (show (bif Nat.beq l.length n then rdR H S (l++st) else none)=some ls from h);obtain ⟨i1,i2⟩:=ih _ _ h2;obtain ⟨j1,j2⟩:=Np i1 (QdN hb);exact ⟨by simp [bdS,j1,j2],i2⟩
  |ah p=>
   match st,h with
   |.arr l::st,h=>
    obtain ⟨hb,h2⟩:=QX (show (bif Nat.beq l p then rdR H S st else none)=some ls from h);obtain ⟨i1,i2⟩:=ih _ _ h2;exact ⟨by simp [bdS,i1,QdN hb],i2⟩
theorem RPr.keys {Hf:Nat->Option Ob} {K:List (Nat × OK)} {H:List (Nat × Ob)} (h:RPr Hf K H) {p:Nat} (hp:Kp p (K.map (·.1))=false):look H p=none:=by
 induction h with
 |nil=>rfl
 |gone h _ ih=>simp only [List.map_cons,Kp,Bool.or_eq_false_iff] at hp;exact ih hp.2
 |cons h _ _ ih=>
  simp only [List.map_cons,Kp,Bool.or_eq_false_iff] at hp;simp [look,hp.1,ih hp.2]
theorem Q1T {α:Type} {p:Nat} {κ:α}:∀ {K:List (Nat × α)},(p,κ)∈K->Kp p (K.map (·.1))=true
 |(q,_)::K,h=>by
  rcases List.mem_cons.1 h with h | h
  ·injection h with h _;simp [Kp,h,Nat.beq_refl]
  ·simp [Kp,Q1T h]
theorem RPr.at {Hf:Nat->Option Ob} {K:List (Nat × OK)} {H:List (Nat × Ob)} (h:RPr Hf K H) (hn:Xd (K.map (·.1))=true) {p:Nat} {κ:OK} (hm:(p,κ)∈K) :
  look H p=Hf p/\((κ = .gone/\Hf p=none)\/∃ o,Hf p=some o/\KOb κ o):=by
 induction h with
 |nil=>cases hm
 |@gone q K H h t ih=>
  simp only [List.map_cons,Xd,QdO,QdR] at hn;rcases List.mem_cons.1 hm with e | hm
  ·injection e with e1 e2
   subst e1 e2;exact ⟨(t.keys hn.1).trans h.symm,.inl ⟨rfl,h⟩⟩
  ·exact ih hn.2 hm
 |@cons q κ' o K H h hk t ih=>
  simp only [List.map_cons,Xd,QdO,QdR] at hn;rcases List.mem_cons.1 hm with e | hm
  ·injection e with e1 e2
   subst e1 e2;exact ⟨by simp [look,Nat.beq_refl,h],.inr ⟨o,h,hk⟩⟩
  ·obtain ⟨i1,i2⟩:=ih hn.2 hm;refine ⟨?_,i2⟩;have:Nat.beq q p=false:=Q7C fun e=>by
    subst e;rw [Q1T hm] at hn;cases hn.1
   simp [look,this,i1]
theorem HinP.map1 {ρF:List (Nat × Nat)} {hl:Nat->Option Ob} {K:List (Nat × OK)} {H:List (Nat × Ob)} {ρ:List (Nat × Nat)} (h:HinP ρF hl K H ρ):H.map (·.1)=ρ.map (·.1)/\K.map (·.1)=ρ.map (·.1):=by
 induction h with
 |nil=>exact ⟨rfl,rfl⟩
 |cons _ _ _ _ ih=>simp [ih.1,ih.2]
theorem HinP.at {ρF:List (Nat × Nat)} {hl:Nat->Option Ob} {K:List (Nat × OK)} {H:List (Nat × Ob)} {ρ:List (Nat × Nat)} (h:HinP ρF hl K H ρ) (hn:Xd (ρ.map (·.1))=true) {p l:Nat} (hm:(p,l)∈ρ) :
  ∃ κ o o0,(p,κ)∈K/\look H p=some o/\hl l=some o0/\OLe ρF o0 o/\KOb κ o:=by
 induction h with
 |nil=>cases hm
 |@cons q l' κ o o0 K H ρ h0 h1 h2 t ih=>
  simp only [List.map_cons,Xd,QdO,QdR] at hn;rcases List.mem_cons.1 hm with e | hm
  ·injection e with e1 e2
   subst e1 e2;exact ⟨κ,o,o0,QdQ ..,by simp [look,Nat.beq_refl],h0,h1,h2⟩
  ·obtain ⟨κ',o',am,g1,g2,g3⟩:=ih hn.2 hm;refine ⟨κ',o',am,QdP _ g1,?_,g3⟩;have:Nat.beq q p=false:=Q7C fun e=>by
    subst e;rw [Q1T hm] at hn;cases hn.1
   simp [look,this,g2]
def kE (RS:List Sp):AV->Option (HT (lts RS)):=fun av=>match rdR (fun _=>none) RS [av] with
 |some ls=>ofT _ ls
 |none=>none
def kG (RS:List Sp):AV->List (Nat × Ob)->Option (HT (lts RS)):=fun av H=>match rdR (look H) RS [av] with
 |some ls=>ofT _ ls
 |none=>none
def pK {ts rs:List LT} (p:LF ts (LF rs (Option (HT rs))->Option (HT rs))):LF ts (Option (HT rs)):=mkK ts p (crT rs some)
def Qca (S RS:List Sp) (f:LF (lts S) (Option (HT (lts RS)))):GV:=fun _ _ g ak hl k=>
 rdP g hl S ak [] fun ls _=>gb g (apL (lts S) f ls) (zT _) fun r=>k ⟨(bdS RS (toT _ r)).1.headD .top,[],[]⟩
def nus (ak:Nat):Nat->List Nat->List (Nat × Nat)
 |_,[]=>[]
 |i,m::r=>(m,ak+50000*i)::nus ak (i+1) r
def dlG (RS:List Sp) (σ ρ:List (Nat × Nat)) (r:HT (lts RS)):Dl:=⟨ZQ σ ((bdS RS (toT _ r)).1.headD .top),KV σ (bdS RS (toT _ r)).2 σ,ρ.map (·.2)⟩
def Qcq (S RS:List Sp) (ν:List Nat) (f:LF (lts S) (Option (HT (lts RS)))):GV:=fun _ ak g am hl k=>
 rdP g hl S am [] fun ls ρ=>bif HK hl ρ (nus ak 1 ν) then gb g (apL (lts S) f ls) (zT _) fun r=>k (dlG RS (ρ++nus ak 1 ν) ρ r) else none
structure EnP (P:Program) (f:Nat) where
 E:GV
 ok:Uu P f E
theorem Q8Z {C:VC} (hC:VCOk P C) (T:List (LpE P)) {f:Nat} (fn:Func) (ss:List (List Nat)) (S RS:List Sp) (p:LF (lts S) (Option (HT (lts RS))))
  (h : ∀ v, vfnT C T fn (bdS S (toL _ v)).1 [] (retF ss (kE RS)) = apH _ p v) (hd : Sq S = true) (hf : P.funcs[f]? = some fn) (hb : fn.body.isSome = true) (hn : (fn.name == "runtime.NumGoroutine") = false)
  (hT:D5 T (UD (Q6 fn))=T.map fun e=>(e.r,e.c)) (hn2:Xd (T.map (·.r))=true):Uu P f (Qca S RS p):=by
 intro R site g avs hl k r h0;obtain ⟨ls,h1,hc⟩:=Q8a S avs [] _ r hd h0;obtain ⟨res,h1,hres⟩:=Qt h1;refine ⟨_,h1,fun hg=>?_⟩;obtain ⟨v,hv,rfl⟩:=FS _ _ _ _ (hres hg);obtain ⟨c1,c2⟩:=hc hg;refine Ze.conv c2 (Q6Q (K:=kE RS) hC T (fn:=fn) (ss:=ss) ((h v).trans hv) (fun x hx=>?_) hf hb hn c1 hT hn2)
 unfold kE at hx;split at hx
 ·rename_i ls' hls;obtain ⟨i1,_⟩:=Q2J _ _ _ hls;rw [Bf _ hx,i1];rfl
 ·cases hx
theorem FR (ak:Nat):∀ (i:Nat) (ν:List Nat),(nus ak i ν).map (·.1)=ν
 |_,[]=>rfl
 |i,m::r=>by simp [nus,FR ak (i+1) r]
theorem RV {α:Type} {p:Nat}:∀ {K:List (Nat × α)},Kp p (K.map (·.1))=true->∃ κ,(p,κ)∈K
 |(q,κ)::K,h=>by
  simp only [List.map_cons,Kp,Bool.or_eq_true] at h;rcases h with h | h
  ·exact ⟨κ,by rw [QdN h];exact QdQ ..⟩
  ·obtain ⟨κ',hk⟩:=RV h;exact ⟨κ',QdP _ hk⟩
def Q9D:OK->Bool
 |.gone=>true
 |_=>false
def Qcp:OK->OK->Bool
 |.box n,.box m=>Nat.beq m n
 |.arr _ _,.gone=>true
 |.mp t,.mp t'=>Nat.beq t t'
 |.mp _,.gone=>true
 |_,_=>false
def Q8M (S RS:List Sp) (ν:List Nat):Bool:=
 Xd ((Ss S).map (·.1)++ν)&&(Xd ((Ss S).map (·.1))&&((Ss S).all (fun x=>Nat.ble 1000000 x.1)&&(Xd ((Ss RS).map (·.1)) &&
  ((Ss S).all (fun x=>Kp x.1 ((Ss RS).map (·.1))&&(Ss RS).all fun y=>!(Nat.beq y.1 x.1)||Qcp x.2 y.2)&&ν.all (fun m=>Kp m ((Ss RS).map (·.1))&&(Ss RS).all fun y=>!(Nat.beq y.1 m)||!(Q9D y.2))))))
theorem Dc {σ:List (Nat × Nat)} {H H':List (Nat × Ob)}:∀ {τ:List (Nat × Nat)},(∀ j l,(j,l)∈τ->look H j=look H' j)->KV σ H τ=KV σ H' τ
 |[],_=>rfl
 |(j,l)::r,h=>by
  simp only [KV];rw [h j l (QdQ ..),Dc fun a b hm=>h a b (QdP _ hm)]
theorem Q5L {H:List (Nat × Ob)}:∀ {τ:List (Nat × Nat)},(∀ j l,(j,l)∈τ->(look H j).isSome=true)->Q7o H τ
 |[],_=>trivial
 |(j,l)::r,h=>⟨h j l (QdQ ..),Q5L fun a b hm=>h a b (QdP _ hm)⟩
theorem Q4y {H H':List (Nat × Ob)}:∀ {τ:List (Nat × Nat)},(∀ j l,(j,l)∈τ->BO (look H j) (look H' j))->Qae H H' τ
 |[],_=>trivial
 |(j,l)::r,h=>⟨h j l (QdQ ..),Q4y fun a b hm=>h a b (QdP _ hm)⟩
theorem Q4x {ρ0:List (Nat × Nat)} {hl:Nat->Option Ob} {H:List (Nat × Ob)}:∀ {τ:List (Nat × Nat)},(∀ j l,(j,l)∈τ->1000000<=j/\∃ o o',hl l=some o/\look H j=some o'/\OLe ρ0 o o')->Qa5 ρ0 hl H τ
 |[],_=>trivial
 |(j,l)::r,h=>⟨h j l (QdQ ..),Q4x fun a b hm=>h a b (QdP _ hm)⟩
theorem Q8D {C:VC} (hC:VCOk P C) (T:List (LpE P)) {f:Nat} (fn:Func) (S RS:List Sp) (ν:List Nat) (p:LF (lts S) (Option (HT (lts RS))))
  (h : ∀ v, vfnT C T fn (bdS S (toL _ v)).1 (bdS S (toL _ v)).2 (kG RS) = apH _ p v) (hfn : ∀ v : HL (lts S), Ai S (toL _ v) = true) (hs : Q8M S RS ν = true) (hf : P.funcs[f]? = some fn) (hb : fn.body.isSome = true) (hn : (fn.name == "runtime.NumGoroutine") = false)
  (hT:D5 T (UD (Q6 fn))=T.map fun e=>(e.r,e.c)) (hn2:Xd (T.map (·.r))=true):Uu P f (Qcq S RS ν p):=by
 intro R site g avs hl k r h0;obtain ⟨ls,ρ,h1,hk,hc⟩:=Q6T S avs [] _ r h0;rw [List.nil_append] at h1;obtain ⟨hnew,h1⟩:=QX h1;obtain ⟨res,h1,hres⟩:=Qt h1;refine ⟨_,h1,fun hg=>?_⟩;obtain ⟨v,hv,rfl⟩:=FS _ _ _ _ (hres hg);simp only [Q8M,QdO,List.all_eq_true,Bool.or_eq_true,QdR] at hs;obtain ⟨s1,s2,s3,s4,s5,s6⟩:=hs;have hnd:Xd (ρ.map (·.1))=true:=by rw [hk];exact s2
 obtain ⟨c1,c2⟩:=hc hg (hfn v) ρ (fun p l hm=>RF hnd (by simpa using hm));have hkeys:=c2.map1;have inS:∀ {j l:Nat},(j,l)∈ρ->∃ κ,(j,κ)∈Ss S:=fun hm=>by
  obtain ⟨κ,_,_,g1,_⟩:=c2.at hnd hm;exact ⟨κ,g1⟩
 have inR:∀ {j l:Nat},(j,l)∈ρ++nus site 1 ν->∃ κ,(j,κ)∈Ss RS:=fun {j l} hm=>by
  rcases List.mem_append.1 hm with hm | hm
  ·obtain ⟨κ,g1⟩:=inS hm;exact RV (s5 _ g1).1
  ·have:j∈ν:=by rw [<- FR site 1 ν];exact List.mem_map.2 ⟨_,hm,rfl⟩
   exact RV (s6 _ this).1
 refine L9 hC T (fn:=fn) (ρ:=ρ) (ν:=nus site 1 ν) (avs':=(bdS S (toL _ v)).1) (H:=(bdS S (toL _ v)).2) (K:=kG RS) (res:=res) c1.cle hnew (Q4x fun j l hm=>?_) ((h v).trans hv) (fun av H' hx=>?_) hf hb hn ?_ hnd hkeys.1 ?_ hT hn2
 ·obtain ⟨κ,o,o0,g1,g2,g3,g4,_⟩:=c2.at hnd hm;exact ⟨Nat.le_of_ble_eq_true (s3 _ g1),o0,o,g3,g2,g4⟩
 ·unfold kG at hx;split at hx
  case h_2=>cases hx
  rename_i ls' hls;obtain ⟨i1,i2⟩:=Q2J _ _ _ hls;have e1:=Bf _ hx;have hat:∀ j l,(j,l)∈ρ++nus site 1 ν->look (bdS RS ls').2 j=look H' j:=fun j l hm=>by
   obtain ⟨κ,g1⟩:=inR hm;exact (i2.at s4 g1).1
  refine ⟨by simp only [dlG];rw [e1,i1];rfl,?_,Q5L fun j l hm=>?_,Q4y fun j l hm=>?_⟩
  ·simp only [dlG];rw [e1];exact (Dc hat).symm
  ·have hj:j∈ν:=by rw [<- FR site 1 ν];exact List.mem_map.2 ⟨_,hm,rfl⟩
   obtain ⟨κ,g1⟩:=RV (s6 _ hj).1;rcases (i2.at s4 g1).2 with ⟨rfl,_⟩ | ⟨o,ho,_⟩
   ·rcases (s6 _ hj).2 _ g1 with g | g
    ·simp [Nat.beq_refl] at g
    ·cases g
   ·rw [ho];rfl
  ·obtain ⟨κ,o,o0,g1,g2,g3,g4,g5⟩:=c2.at hnd hm;obtain ⟨κ',g6⟩:=RV (s5 _ g1).1;have he:Qcp κ κ'=true:=by
    rcases (s5 _ g1).2 _ g6 with g | g
    ·simp [Nat.beq_refl] at g
    ·exact g
   rw [g2];rcases (i2.at s4 g6).2 with ⟨rfl,hno⟩ | ⟨o',ho',hk'⟩
   ·cases κ <;> try (cases he;done)
    ·cases o <;> try (exact False.elim g5)
     exact Q40 rfl hno
    ·cases o <;> try (exact False.elim g5)
     exact Q1y rfl hno
   ·cases κ <;> cases κ' <;> try (cases he;done)
    ·cases o <;> try (exact False.elim g5)
     cases o' <;> try (exact False.elim hk')
     have he:=QdN he;simp only [KOb] at g5 hk';exact Q5R rfl ho' (by omega)
    ·cases o' <;> exact False.elim hk'
    ·cases o <;> try (exact False.elim g5)
     cases o' <;> try (exact False.elim hk')
     have he:=QdN he;simp only [KOb] at g5 hk';subst g5;subst hk';subst he;exact Q5b rfl ho'
    ·cases o' <;> exact False.elim hk'
 ·rw [List.map_append,FR,hk];exact s1
 ·simp only [wrL,dlG];exact Eb _ _ _
noncomputable def mkE {C:VC} (hC:VCOk P C) (T:List (LpE P)) (f:Nat) (fn:Func) (ss:List (List Nat)) (S RS:List Sp) (p:LF (lts S) (Option (HT (lts RS))))
  (h : ∀ v, vfnT C T fn (bdS S (toL _ v)).1 [] (retF ss (kE RS)) = apH _ p v := by intro v; kernel_rfl) (hd : Sq S = true := by rfl) (hf : P.funcs[f]? = some fn := by kernel_rfl) (hb : fn.body.isSome = true := by kernel_rfl) (hn : (fn.name == "runtime.NumGoroutine") = false := by kernel_rfl)
  (hT:D5 T (UD (Q6 fn))=T.map fun e=>(e.r,e.c):=by kernel_rfl) (hn2:Xd (T.map (·.r))=true:=by rfl):EnP P f:=
 ⟨Qca S RS p,Q8Z hC T fn ss S RS p h hd hf hb hn hT hn2⟩
noncomputable def mkG {C:VC} (hC:VCOk P C) (T:List (LpE P)) (f:Nat) (fn:Func) (S RS:List Sp) (ν:List Nat) (p:LF (lts S) (Option (HT (lts RS))))
  (h : ∀ v, vfnT C T fn (bdS S (toL _ v)).1 (bdS S (toL _ v)).2 (kG RS) = apH _ p v := by intro v; kernel_rfl) (hfn : ∀ v : HL (lts S), Ai S (toL _ v) = true := by intro v; rfl) (hs : Q8M S RS ν = true := by rfl) (hf : P.funcs[f]? = some fn := by kernel_rfl) (hb : fn.body.isSome = true := by kernel_rfl) (hn : (fn.name == "runtime.NumGoroutine") = false := by kernel_rfl)
  (hT:D5 T (UD (Q6 fn))=T.map fun e=>(e.r,e.c):=by kernel_rfl) (hn2:Xd (T.map (·.r))=true:=by rfl):EnP P f:=
 ⟨Qcq S RS ν p,Q8D hC T fn S RS ν p h hfn hs hf hb hn hT hn2⟩
def QcK {f:Nat} (b:EnP P f):EnP P f where
 E:=fun R ak g am hl k=>match am with
  |[.gd _ _ .nil]=>bif g then none else k ⟨.nil,[],[]⟩
  |_=>b.E R ak g am hl k
 ok:=by
  intro R ak g am hl k r h;dsimp only at h;split at h
  ·exact HI h
  ·exact b.ok R ak g am hl k r h
end
abbrev qI:DK:=.i .i64
abbrev qT:DK:=.t
abbrev qX:DK:=.x
abbrev qL (n:Nat):DK:=.l n
abbrev eA (l:List DK):Sp:=.ag l
abbrev eP (p n:Nat):Sp:=.ptr p n
abbrev eI (p n:Nat):Sp:=.pin p n
abbrev eS (p:Nat):Sp:=.ps p
abbrev eR (p e s:Nat):Sp:=.arr p e s
abbrev eM (p t:Nat):Sp:=.mp p t
abbrev eF (f n:Nat):Sp:=.fn f n
abbrev eN:Sp:=.nil
abbrev eG (p:Nat):Sp:=.gone p
abbrev eT (n:Nat):Sp:=.tup n
abbrev eH (p:Nat):Sp:=.ah p
abbrev eQ (p t:Nat):Sp:=.pinm p t
abbrev eO (n:Nat):Sp:=.agn n
abbrev eD (k:DK):Sp:=.d k
abbrev sI:Sp:=.d (.i .i64)
abbrev sB:Sp:=.d .b
abbrev sT:Sp:=.d .t
abbrev sL (n:Nat):Sp:=.d (.l n)
section
variable {P:Program}
theorem Q2h {M:Nat->Prop} {w w':World} (h:RowKit.Below w.heap.size w w'):Fr M w w':=⟨h.os,h.tape,h.output,h.size,fun b hb _=>h.block b hb⟩
theorem Q46 {β:Nat->Option Nat} {S:Nat->Prop} {h:Nat->Option Ob} {w:World} {args:List Value} {a:AV} (hA:ArgsRd β S h w args [a]):∃ v,args=[v]/\RdA β S h w tm0 v a:=by
 obtain ⟨h1,h2⟩:=hA
 match args,h1 with
 |[v],_=>exact ⟨v,rfl,h2 0 v a rfl rfl⟩
end

end Go.Vx
