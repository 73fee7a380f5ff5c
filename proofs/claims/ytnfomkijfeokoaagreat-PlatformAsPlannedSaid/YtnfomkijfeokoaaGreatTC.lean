/- Part of a proof. No conditions of their own. -/
import Derived.Test.YtnfomkijfeokoaaGreatTB
set_option linter.unusedVariables false
set_option linter.unusedSimpArgs false
noncomputable section
abbrev Ql7:=@Nat.eq_of_beq_eq_true
abbrev Ql8:=@Bool.and_eq_true
abbrev Ql9:=@List.mem_cons_of_mem
abbrev Qla:=@List.mem_cons_self
abbrev Qlb:=@Bool.not_eq_true'
namespace Go.Vx
variable {hl:Nat->Option Ob}
inductive DK where
 |i (k:IntKind) | b | t | l (s:Nat) | x
inductive Sp where
 |d (k:DK)
 |ag (ks:List DK)
 |tup (n:Nat)
 |ptr (p n:Nat)
 |pin (p n:Nat)
 |ps (p:Nat)
 |arr (p e s:Nat)
 |mp (p t:Nat)
 |fn (f n:Nat)
 |nil
 |gone (p:Nat)
 |pinm (p t:Nat)
 |pina (p e s:Nat)
 |agn (n:Nat)
 |ah (p:Nat)
 |top
def DK.lt:DK->LT
 |.i _=>.I
 |.b=>.B
 |.t=>.T
 |.l _=>.L
 |.x=>.D
def QiD:List DK->List LT->List LT
 |[],r=>r
 |k::ks,r=>k.lt::QiD ks r
def lts:List Sp->List LT
 |[]=>[]
 |.d k::r=>k.lt::lts r
 |.ag ks::r=>QiD ks (lts r)
 |.arr _ _ _::r=>.L::lts r
 |.mp _ _::r=>.P::lts r
 |.tup _::r=>lts r
 |.ptr _ _::r=>lts r
 |.pin _ _::r=>lts r
 |.ps _::r=>lts r
 |.fn _ _::r=>lts r
 |.nil::r=>lts r
 |.gone _::r=>lts r
 |.pinm _ _::r=>.P::lts r
 |.pina _ _ _::r=>.L::lts r
 |.agn _::r=>lts r
 |.ah _::r=>lts r
 |.top::r=>lts r
def HT:List LT->Type
 |[]=>Unit
 |[t]=>t.ty
 |t::u::ts=>t.ty × HT (u::ts)
def crT {β:Type}:(ts:List LT)->(HT ts->β)->LF ts β
 |[],k=>k ()
 |[_],k=>fun x=>k x
 |_::u::ts,k=>fun x=>crT (u::ts) fun r=>k (x,r)
def toT:(ts:List LT)->HT ts->List Lf
 |[],_=>[]
 |[t],v=>[QaN t v]
 |t::u::ts,v=>QaN t v.1::toT (u::ts) v.2
def ofT:(ts:List LT)->List Lf->Option (HT ts)
 |[],l=>match l with
  |[]=>some ()
  |_=>none
 |[t],l=>match l with
  |[x]=>Q8p t x
  |_=>none
 |t::u::ts,l=>match l with
  |x::r=>match Q8p t x,ofT (u::ts) r with
   |some a,some b=>some (a,b)
   |_,_=>none
  |_=>none
def zL:(t:LT)->t.ty
 |.I=>(0:Int)
 |.B=>false
 |.T=>([]:List UInt8)
 |.L=>([]:List (List D))
 |.R=>([]:List D)
 |.D=>D.bool false
 |.N=>(0:Nat)
 |.M=>fun _=>[]
 |.P=>fun _=>false
def zT:(ts:List LT)->HT ts
 |[]=>()
 |[t]=>zL t
 |t::u::ts=>(zL t,zT (u::ts))
theorem Q1K:∀ (ts:List LT) {l:List Lf} {v:HT ts},ofT ts l=some v->toT ts v=l
 |[],l,v,h=>by
  cases l with
  |nil=>rfl
  |cons x r=>cases h
 |[t],l,v,h=>by
  match l,h with
  |[x],h=>exact congrArg (·::[]) (Nz (t:=t) h).symm
  |[],h=>cases h
  |_::_::_,h=>cases h
 |t::u::ts,l,v,h=>by
  match l,h with
  |[],h=>cases h
  |x::r,h=>
   replace h:(match Q8p t x,ofT (u::ts) r with | some a,some b=>some (a,b) | _,_=>none)=some v:=h
   split at h
   ·rename_i a b ha hb;injection h with h
    subst h;show QaN t a::toT (u::ts) b=x::r;rw [Q1K (u::ts) hb,Nz ha]
   ·cases h
section
variable {P:Program} {R:Type}
def prD (g:Bool) (k:DK) (a:AV) (K:Lf->Option R):Option R:=
 match k with
 |.i k=>prI g k a fun x=>K (.I x)
 |.b=>prB g a fun x=>K (.B x)
 |.t=>prT g a fun x=>K (.T x)
 |.l s=>prS g s a fun x=>K (.L x)
 |.x=>none
def Qeo (g:Bool):List DK->List AV->(List Lf->Option R)->Option R
 |[],l,K=>match l with
  |[]=>K []
  |_=>none
 |k::ks,l,K=>match l with
  |a::r=>prD g k a fun x=>Qeo g ks r fun y=>K (x::y)
  |_=>none
def rdP (g:Bool) (hl:Nat->Option Ob):List Sp->List AV->List (Nat × Nat)->(List Lf->List (Nat × Nat)->Option R)->Option R
 |[],st,ρ,K=>match st with
  |[]=>K [] ρ
  |_=>none
 |.d k::r,st,ρ,K=>match st with
  |a::st=>prD g k a fun x=>rdP g hl r st ρ fun ls ρ'=>K (x::ls) ρ'
  |_=>none
 |.ag ks::r,st,ρ,K=>match st with
  |.ag l::st=>Qeo g ks l fun xs=>rdP g hl r st ρ fun ls ρ'=>K (xs++ls) ρ'
  |_=>none
 |.ptr p n::r,st,ρ,K=>match st with
  |.ptr l o::st=>match hl l with
   |some (.box cs)=>bif Nat.beq o 0&&Nat.beq cs.length n then rdP g hl r (cs++st) (ρ++[(p,l)]) K else none
   |_=>none
  |_=>none
 |.ps p::r,st,ρ,K=>match st with
  |.ptr l o::st=>match look ρ p with
   |some l'=>bif Nat.beq o 0&&Nat.beq l l' then rdP g hl r st ρ K else none
   |none=>none
  |_=>none
 |.arr p e s::r,st,ρ,K=>match st with
  |.arr l::st=>match hl l with
   |some (.arr e' s' rows)=>bif Nat.beq e e'&&Nat.beq s s' then rdP g hl r st (ρ++[(p,l)]) fun ls ρ'=>K (.L rows::ls) ρ' else none
   |_=>none
  |_=>none
 |.mp p t::r,st,ρ,K=>match st with
  |.arr l::st=>match hl l with
   |some (.mp t' f)=>bif Nat.beq t t' then rdP g hl r st (ρ++[(p,l)]) fun ls ρ'=>K (.P f::ls) ρ' else none
   |_=>none
  |_=>none
 |.fn f n::r,st,ρ,K=>match st with
  |.fn f' l::st=>bif Nat.beq f f'&&Nat.beq l.length n then rdP g hl r (l++st) ρ K else none
  |_=>none
 |.nil::r,st,ρ,K=>match st with
  |.nil::st=>rdP g hl r st ρ K
  |_=>none
 |.tup _::_,_,_,_=>none
 |.pin _ _::_,_,_,_=>none
 |.gone _::_,_,_,_=>none
 |.pinm _ _::_,_,_,_=>none
 |.pina _ _ _::_,_,_,_=>none
 |.agn _::_,_,_,_=>none
 |.ah _::_,_,_,_=>none
 |.top::_,_,_,_=>none
def bdD:DK->Lf->AV
 |.i k,.I x=>.d (.int k x)
 |.b,.B x=>.d (.bool x)
 |.t,.T x=>.d (.str x)
 |.l s,.L x=>.d (.sl s x)
 |.x,.D x=>.d x
 |_,_=>.top
def Q7W:List DK->List Lf->List AV × List Lf
 |[],ls=>([],ls)
 |k::ks,ls=>match ls with
  |x::r=>(bdD k x::(Q7W ks r).1,(Q7W ks r).2)
  |[]=>(.top::(Q7W ks []).1,[])
def bdS:List Sp->List Lf->List AV × List (Nat × Ob)
 |[],_=>([],[])
 |.d k::r,ls=>match ls with
  |x::ls=>(bdD k x::(bdS r ls).1,(bdS r ls).2)
  |[]=>([],[])
 |.ag ks::r,ls=>(.ag (Q7W ks ls).1::(bdS r (Q7W ks ls).2).1,(bdS r (Q7W ks ls).2).2)
 |.tup n::r,ls=>(.tup ((bdS r ls).1.take n)::(bdS r ls).1.drop n,(bdS r ls).2)
 |.ptr p n::r,ls=>(.ptr p 0::(bdS r ls).1.drop n,(p,.box ((bdS r ls).1.take n))::(bdS r ls).2)
 |.pin p n::r,ls=>((bdS r ls).1.drop n,(p,.box ((bdS r ls).1.take n))::(bdS r ls).2)
 |.ps p::r,ls=>(.ptr p 0::(bdS r ls).1,(bdS r ls).2)
 |.arr p e s::r,ls=>match ls with
  |.L x::ls=>(.arr p::(bdS r ls).1,(p,.arr e s x)::(bdS r ls).2)
  |_=>([],[])
 |.mp p t::r,ls=>match ls with
  |.P x::ls=>(.arr p::(bdS r ls).1,(p,.mp t x)::(bdS r ls).2)
  |_=>([],[])
 |.fn f n::r,ls=>(.fn f ((bdS r ls).1.take n)::(bdS r ls).1.drop n,(bdS r ls).2)
 |.nil::r,ls=>(.nil::(bdS r ls).1,(bdS r ls).2)
 |.gone _::r,ls=>bdS r ls
 |.pinm p t::r,ls=>match ls with
  |.P x::ls=>((bdS r ls).1,(p,.mp t x)::(bdS r ls).2)
  |_=>([],[])
 |.pina p e s::r,ls=>match ls with
  |.L x::ls=>((bdS r ls).1,(p,.arr e s x)::(bdS r ls).2)
  |_=>([],[])
 |.agn n::r,ls=>(.ag ((bdS r ls).1.take n)::(bdS r ls).1.drop n,(bdS r ls).2)
 |.ah p::r,ls=>(.arr p::(bdS r ls).1,(bdS r ls).2)
 |.top::r,ls=>(.top::(bdS r ls).1,(bdS r ls).2)
def isD:AV->Bool
 |.d _=>true
 |.nil=>true
 |.ag _=>true
 |_=>false
structure SR (ρ:List (Nat × Nat)) (a b:AV):Prop where
 d:isD b=true->lf b=true/\Cq a b
 o:isD b=false->dm ρ b=true/\a=Uk ρ b
inductive SRL (ρ:List (Nat × Nat)):List AV->List AV->Prop
 |nil:SRL ρ [] []
 |cons {a b:AV} {l r:List AV} (h:SR ρ a b) (t:SRL ρ l r):SRL ρ (a::l) (b::r)
theorem SRL.length {ρ:List (Nat × Nat)} {l r:List AV} (h:SRL ρ l r):l.length=r.length:=by induction h <;> simp [*]
theorem SRL.cle {ρ:List (Nat × Nat)} {l r:List AV} (h:SRL ρ l r):CLeL ρ l r:=by
 induction h with
 |nil=>exact .nil
 |@cons a b l r h _ ih=>
  refine .cons ?_ ih;cases hd:isD b with
  |true=>exact .data (h.d hd).1 (h.d hd).2
  |false=>exact .own (h.o hd).1 (h.o hd).2
theorem SRL.split {ρ:List (Nat × Nat)}:∀ {a b c:List AV},SRL ρ (a++b) c->SRL ρ a (c.take a.length)/\SRL ρ b (c.drop a.length)
 |[],b,c,h=>⟨by simpa using SRL.nil,by simpa using h⟩
 |x::a,b,c,h=>by
  cases h with
  |cons h t=>
   obtain ⟨h1,h2⟩:=SRL.split t;exact ⟨by simpa using SRL.cons h h1,by simpa using h2⟩
theorem SRL.own {ρ:List (Nat × Nat)} {l r:List AV} (h:SRL ρ l r) (hd:r.all (fun b=>!isD b)=true):dmL ρ r=true/\l=Q31 ρ r:=by
 induction h with
 |nil=>trivial
 |cons h _ ih=>
  simp only [List.all_cons,Ql8,Qlb] at hd;obtain ⟨h1,h2⟩:=h.o hd.1
  grind [dmL,Q31]
theorem Q1z {g:Bool} {k:DK} {a:AV} {K:Lf->Option R} {r:R} (h:prD g k a K=some r):∃ x,K x=some r/\isD (bdD k x)=true/\lf (bdD k x)=true/\(g=true->Cq a (bdD k x)):=by
 cases k with
 |i k=>obtain ⟨x,h1,h2⟩:=Q1V h;exact ⟨_,h1,rfl,rfl,h2⟩
 |b=>obtain ⟨x,h1,h2⟩:=Qb2 h;exact ⟨_,h1,rfl,rfl,h2⟩
 |t=>obtain ⟨x,h1,h2⟩:=QbX h;exact ⟨_,h1,rfl,rfl,h2⟩
 |l s=>obtain ⟨x,h1,h2⟩:=Uw h;exact ⟨_,h1,rfl,rfl,h2⟩
 |x=>cases h
theorem BE {g:Bool}:∀ {ks:List DK} {l:List AV} {K:List Lf->Option R} {r:R},Qeo g ks l K=some r->∃ xs,K xs=some r/\∀ ls,(Q7W ks (xs++ls)).2=ls/\lfL (Q7W ks (xs++ls)).1=true/\(g=true->AVleL l (Q7W ks (xs++ls)).1)
 |[],l,K,r,h=>by
  cases l with
  |nil=>exact ⟨[],h,fun ls=>⟨rfl,rfl,fun _=>.nil⟩⟩
  |cons a l=>cases h
 |k::ks,l,K,r,h=>by
  cases l with
  |nil=>cases h
  |cons a l=>
   replace h:prD g k a (fun x=>Qeo g ks l fun y=>K (x::y))=some r:=h
   obtain ⟨x,h,h1,h2,h3⟩:=Q1z h;obtain ⟨xs,h,h4⟩:=BE h;refine ⟨x::xs,h,fun ls=>?_⟩;obtain ⟨h5,h6,h7⟩:=h4 ls;exact ⟨h5,by simp [Q7W,lfL,h2,h6],fun hg=>.cons (h3 hg) (h7 hg)⟩
inductive OK where
 |box (n:Nat)
 |arr (e s:Nat)
 |mp (t:Nat)
 |gone
def KH:List Sp->List (Nat × OK)
 |[]=>[]
 |.ptr p n::r=>(p,.box n)::KH r
 |.pin p n::r=>(p,.box n)::KH r
 |.arr p e s::r=>(p,.arr e s)::KH r
 |.mp p t::r=>(p,.mp t)::KH r
 |.gone p::r=>(p,.gone)::KH r
 |.pinm p t::r=>(p,.mp t)::KH r
 |.pina p e s::r=>(p,.arr e s)::KH r
 |.agn _::r=>KH r
 |.ah _::r=>KH r
 |.top::r=>KH r
 |.d _::r=>KH r
 |.ag _::r=>KH r
 |.tup _::r=>KH r
 |.ps _::r=>KH r
 |.fn _ _::r=>KH r
 |.nil::r=>KH r
def KOb:OK->Ob->Prop
 |.box n,.box c=>c.length=n
 |.arr e s,.arr e' s' _=>e'=e/\s'=s
 |.mp t,.mp t' _=>t'=t
 |_,_=>False
def CV:List Sp->List Lf->Bool
 |[],_=>true
 |.d _::r,ls=>CV r ls.tail
 |.ag ks::r,ls=>CV r (Q7W ks ls).2
 |.arr _ _ _::r,ls=>CV r ls.tail
 |.mp _ _::r,ls=>CV r ls.tail
 |.fn _ n::r,ls=>((bdS r ls).1.take n).all (fun b=>!isD b)&&CV r ls
 |.ptr _ _::r,ls=>CV r ls
 |.pin _ _::r,ls=>CV r ls
 |.ps _::r,ls=>CV r ls
 |.tup _::r,ls=>CV r ls
 |.nil::r,ls=>CV r ls
 |.gone _::r,ls=>CV r ls
 |.pinm _ _::r,ls=>CV r ls.tail
 |.pina _ _ _::r,ls=>CV r ls.tail
 |.agn _::r,ls=>CV r ls
 |.ah _::r,ls=>CV r ls
 |.top::r,ls=>CV r ls
inductive HinP (ρF:List (Nat × Nat)) (hl:Nat->Option Ob):List (Nat × OK)->List (Nat × Ob)->List (Nat × Nat)->Prop
 |nil:HinP ρF hl [] [] []
 |cons {p l:Nat} {κ:OK} {o o0:Ob} {K:List (Nat × OK)} {H:List (Nat × Ob)} {ρ:List (Nat × Nat)} (h0:hl l=some o0) (h1:OLe ρF o0 o) (h2:KOb κ o) (t:HinP ρF hl K H ρ):HinP ρF hl ((p,κ)::K) ((p,o)::H) ((p,l)::ρ)
theorem Q2n {g:Bool}:∀ (S:List Sp) (st:List AV) (ρ:List (Nat × Nat)) (K:List Lf->List (Nat × Nat)->Option R) (r:R),rdP g hl S st ρ K=some r ->
  ∃ ls ρ',K ls (ρ++ρ')=some r/\(ρ'.map (·.1)=(KH S).map (·.1))/\(g=true->CV S ls=true->∀ ρF,(∀ p l,(p,l)∈ρ++ρ'->look ρF p=some l)->SRL ρF st (bdS S ls).1/\HinP ρF hl (KH S) (bdS S ls).2 ρ'):=by
 intro S;induction S with
 |nil=>
  intro st ρ K r h;cases st with
  |nil=>exact ⟨[],[],by rw [List.append_nil];exact h,rfl,fun _ _ ρF _=>⟨.nil,.nil⟩⟩
  |cons a st=>cases h
 |cons s S ih=>
  intro st ρ K r h;cases s with
  |d k=>
   cases st with
   |nil=>cases h
   |cons a st=>
    replace h:prD g k a (fun x=>rdP g hl S st ρ fun ls ρ'=>K (x::ls) ρ')=some r:=h
    obtain ⟨x,h,h1,h2,h3⟩:=Q1z h;obtain ⟨ls,ρ',h,hk,hc⟩:=ih st ρ _ r h;refine ⟨x::ls,ρ',h,hk,fun hg hf ρF hρ=>?_⟩;obtain ⟨c1,c2⟩:=hc hg hf ρF hρ;exact ⟨.cons ⟨fun _=>⟨h2,h3 hg⟩,fun e=>(by rw [h1] at e;cases e)⟩ c1,c2⟩
  |ag ks=>
   match st,h with
   |.ag l::st,h=>
    replace h:Qeo g ks l (fun xs=>rdP g hl S st ρ fun ls ρ'=>K (xs++ls) ρ')=some r:=h
    obtain ⟨xs,h,hx⟩:=BE h;obtain ⟨ls,ρ',h,hk,hc⟩:=ih st ρ _ r h;obtain ⟨x1,x2,x3⟩:=hx ls;refine ⟨xs++ls,ρ',h,hk,fun hg hf ρF hρ=>?_⟩;simp only [CV,x1] at hf;obtain ⟨c1,c2⟩:=hc hg hf ρF hρ;simp only [bdS,x1];exact ⟨.cons ⟨fun _=>⟨x2,.ag (x3 hg)⟩,fun e=>(by cases e)⟩ c1,c2⟩
  |ptr p n=>
   match st,h with
   |.ptr l o::st,h=>
    simp only [rdP] at h;split at h
    ·rename_i cs az;obtain ⟨hb,h'⟩:=XL h;simp only [Ql8] at hb;have ho:=Ql7 hb.1;have hn:=Ql7 hb.2;subst ho hn;obtain ⟨ls,ρ',h,hk,hc⟩:=ih (cs++st) (ρ++[(p,l)]) _ r h';rw [List.append_assoc] at h;refine ⟨ls,(p,l)::ρ',h,by simp [KH,hk],fun hg hf ρF hρ=>?_⟩;obtain ⟨c1,c2⟩:=hc hg hf ρF (fun a b hm=>hρ a b (by simpa using hm));obtain ⟨d1,d2⟩:=c1.split;have aj:=hρ p l (by simp);refine ⟨.cons ⟨fun e=>(by cases e),fun _=>⟨by simp [dm,aj],by simp [Uk,aj]⟩⟩ d2,.cons az (.box d1.cle) ?_ c2⟩;exact d1.length.symm
    ·cases h
  |ps p=>
   match st,h with
   |.ptr l o::st,h=>
    simp only [rdP] at h;split at h
    ·rename_i l' aj;obtain ⟨hb,h'⟩:=XL h;simp only [Ql8] at hb;have ho:=Ql7 hb.1;have hn:=Ql7 hb.2;subst ho hn;obtain ⟨ls,ρ',h,hk,hc⟩:=ih st ρ _ r h';refine ⟨ls,ρ',h,hk,fun hg hf ρF hρ=>?_⟩;obtain ⟨c1,c2⟩:=hc hg hf ρF hρ;have aw:=hρ p l (List.mem_append_left _ (Yq aj));exact ⟨.cons ⟨fun e=>(by cases e),fun _=>⟨by simp [dm,aw],by simp [Uk,aw]⟩⟩ c1,c2⟩
    ·cases h
  |arr p e s=>
   match st,h with
   |.arr l::st,h=>
    simp only [rdP] at h;split at h
    ·rename_i e' s' rows au;obtain ⟨hb,h'⟩:=XL h;simp only [Ql8] at hb;have ho:=Ql7 hb.1;have hn:=Ql7 hb.2;subst ho hn;obtain ⟨ls,ρ',h,hk,hc⟩:=ih st (ρ++[(p,l)]) _ r h';rw [List.append_assoc] at h;refine ⟨.L rows::ls,(p,l)::ρ',h,by simp [KH,hk],fun hg hf ρF hρ=>?_⟩;obtain ⟨c1,c2⟩:=hc hg hf ρF (fun a b hm=>hρ a b (by simpa using hm));have aj:=hρ p l (by simp);exact ⟨.cons ⟨fun e=>(by cases e),fun _=>⟨by simp [dm,aj],by simp [Uk,aj]⟩⟩ c1,.cons au (.arr _ _ _) ⟨rfl,rfl⟩ c2⟩
    ·cases h
  |mp p t=>
   match st,h with
   |.arr l::st,h=>
    simp only [rdP] at h;split at h
    ·rename_i t' f ay;obtain ⟨hb,h'⟩:=XL h;have ho:=Ql7 hb;subst ho;obtain ⟨ls,ρ',h,hk,hc⟩:=ih st (ρ++[(p,l)]) _ r h';rw [List.append_assoc] at h;refine ⟨.P f::ls,(p,l)::ρ',h,by simp [KH,hk],fun hg hf ρF hρ=>?_⟩;obtain ⟨c1,c2⟩:=hc hg hf ρF (fun a b hm=>hρ a b (by simpa using hm));have aj:=hρ p l (by simp);exact ⟨.cons ⟨fun e=>(by cases e),fun _=>⟨by simp [dm,aj],by simp [Uk,aj]⟩⟩ c1,.cons ay (.mp _ _) rfl c2⟩
    ·cases h
  |fn f n=>
   match st,h with
   |.fn f' l::st,h=>
    simp only [rdP] at h;obtain ⟨hb,h'⟩:=XL h;simp only [Ql8] at hb;have ho:=Ql7 hb.1;have hn:=Ql7 hb.2;subst ho hn;obtain ⟨ls,ρ',h,hk,hc⟩:=ih (l++st) ρ _ r h';refine ⟨ls,ρ',h,hk,fun hg hf ρF hρ=>?_⟩;simp only [CV,Ql8] at hf;obtain ⟨c1,c2⟩:=hc hg hf.2 ρF hρ;obtain ⟨d1,d2⟩:=c1.split;obtain ⟨e1,e2⟩:=d1.own hf.1;exact ⟨.cons ⟨fun e=>(by cases e),fun _=>⟨by simpa [dm] using e1,by simp [Uk,<- e2]⟩⟩ d2,c2⟩
  |nil=>
   match st,h with
   |.nil::st,h=>
    obtain ⟨ls,ρ',h,hk,hc⟩:=ih st ρ _ r h;refine ⟨ls,ρ',h,hk,fun hg hf ρF hρ=>?_⟩;obtain ⟨c1,c2⟩:=hc hg hf ρF hρ;exact ⟨.cons ⟨fun _=>⟨rfl,.refl _⟩,fun e=>(by cases e)⟩ c1,c2⟩
  |tup n=>cases h
  |pin p n=>cases h
  |gone p=>cases h
  |pinm p t=>cases h
  |pina p e s=>cases h
  |agn n=>cases h
  |ah p=>cases h
  |top=>cases h
def Rf:List Sp->Bool
 |[]=>true
 |.d _::r=>Rf r
 |.ag _::r=>Rf r
 |.nil::r=>Rf r
 |_=>false
theorem Qdb {g:Bool}:∀ (S:List Sp) (st:List AV) (ρ:List (Nat × Nat)) (K:List Lf->List (Nat × Nat)->Option R) (r:R),Rf S=true->rdP g hl S st ρ K=some r ->
  ∃ ls,K ls ρ=some r/\(g=true->lfL (bdS S ls).1=true/\AVleL st (bdS S ls).1):=by
 intro S;induction S with
 |nil=>
  intro st ρ K r _ h;cases st with
  |nil=>exact ⟨[],h,fun _=>⟨rfl,.nil⟩⟩
  |cons a st=>cases h
 |cons s S ih=>
  intro st ρ K r hd h;cases s with
  |d k=>
   cases st with
   |nil=>cases h
   |cons a st=>
    replace h:prD g k a (fun x=>rdP g hl S st ρ fun ls ρ'=>K (x::ls) ρ')=some r:=h
    obtain ⟨x,h,_,h2,h3⟩:=Q1z h;obtain ⟨ls,h,hc⟩:=ih st ρ _ r hd h;refine ⟨x::ls,h,fun hg=>?_⟩;obtain ⟨c1,c2⟩:=hc hg;exact ⟨by grind [bdS,lfL],.cons (h3 hg) c2⟩
  |ag ks=>
   match st,h with
   |.ag l::st,h=>
    replace h:Qeo g ks l (fun xs=>rdP g hl S st ρ fun ls ρ'=>K (xs++ls) ρ')=some r:=h
    obtain ⟨xs,h,hx⟩:=BE h;obtain ⟨ls,h,hc⟩:=ih st ρ _ r hd h;obtain ⟨x1,x2,x3⟩:=hx ls;refine ⟨xs++ls,h,fun hg=>?_⟩;obtain ⟨c1,c2⟩:=hc hg;simp only [bdS,x1];exact ⟨by grind [lfL,lf],.cons (.ag (x3 hg)) c2⟩
  |nil=>
   match st,h with
   |.nil::st,h=>
    obtain ⟨ls,h,hc⟩:=ih st ρ _ r hd h;refine ⟨ls,h,fun hg=>?_⟩;obtain ⟨c1,c2⟩:=hc hg;exact ⟨by simp [bdS,lfL,lf,c1],.cons (.refl _) c2⟩
  |_=>cases hd
def exD:DK->AV->Option Lf
 |.i k,.d (.int k' x)=>oB (k == k') (.I x)
 |.b,.d (.bool x)=>some (.B x)
 |.t,.d (.str x)=>some (.T x)
 |.l s,.d (.sl s' x)=>oB (Nat.beq s s') (.L x)
 |.x,.d x=>some (.D x)
 |_,_=>none
def Qey:List DK->List AV->Option (List Lf)
 |[],l=>match l with
  |[]=>some []
  |_=>none
 |k::ks,l=>match l with
  |a::r=>match exD k a,Qey ks r with
   |some x,some xs=>some (x::xs)
   |_,_=>none
  |_=>none
theorem Q6y {k:DK} {a:AV} {x:Lf} (h:exD k a=some x):bdD k x=a:=by
 cases k <;> cases a <;> try (simp only [exD,reduceCtorEq] at h;done)
 case i.d k d=>
  cases d <;> try (simp only [exD,reduceCtorEq] at h;done)
  simp only [exD] at h;obtain ⟨h1,rfl⟩:=VU h;rw [<- eq_of_beq h1];rfl
 case b.d d=>
  cases d <;> try (simp only [exD,reduceCtorEq] at h;done)
  simp only [exD,Option.some.injEq] at h;subst h;rfl
 case t.d d=>
  cases d <;> try (simp only [exD,reduceCtorEq] at h;done)
  simp only [exD,Option.some.injEq] at h;subst h;rfl
 case l.d s d=>
  cases d <;> try (simp only [exD,reduceCtorEq] at h;done)
  simp only [exD] at h;obtain ⟨h1,rfl⟩:=VU h;rw [<- Ql7 h1];rfl
 case x.d d=>simp only [exD,Option.some.injEq] at h;subst h;rfl
theorem Q3q:∀ {ks:List DK} {l:List AV} {xs:List Lf},Qey ks l=some xs->∀ ls,Q7W ks (xs++ls)=(l,ls)
 |[],l,xs,h,ls=>by
  cases l with
  |nil=>injection h with h;subst h;rfl
  |cons a l=>cases h
 |k::ks,l,xs,h,ls=>by
  cases l with
  |nil=>cases h
  |cons a l=>
   replace h:(match exD k a,Qey ks l with | some x,some xs=>some (x::xs) | _,_=>none)=some xs:=h
   split at h
   ·rename_i x ys hx hy;injection h with h
    subst h;simp [Q7W,Q6y hx,Q3q hy ls]
   ·cases h
def Q49 (a:Option Lf) (b:Option (List Lf)):Option (List Lf):=match a,b with
 |some x,some r=>some (x::r)
 |_,_=>none
def QgN (a b:Option (List Lf)):Option (List Lf):=match a,b with
 |some x,some r=>some (x++r)
 |_,_=>none
theorem Sa {a:Option Lf} {b:Option (List Lf)} {l:List Lf} (h:Q49 a b=some l):∃ x r,a=some x/\b=some r/\l=x::r:=by
 cases a <;> cases b <;> simp [Q49] at h
 simp_all
theorem Q8F {a b:Option (List Lf)} {l:List Lf} (h:QgN a b=some l):∃ x r,a=some x/\b=some r/\l=x++r:=by
 cases a <;> cases b <;> simp [QgN] at h
 simp_all
def rdR (H:Nat->Option Ob):List Sp->List AV->Option (List Lf)
 |[],st=>match st with
  |[]=>some []
  |_=>none
 |.d k::r,st=>match st with
  |a::st=>Q49 (exD k a) (rdR H r st)
  |_=>none
 |.ag ks::r,st=>match st with
  |.ag l::st=>QgN (Qey ks l) (rdR H r st)
  |_=>none
 |.tup n::r,st=>match st with
  |.tup l::st=>bif Nat.beq l.length n then rdR H r (l++st) else none
  |_=>none
 |.ptr p n::r,st=>match st with
  |.ptr l o::st=>match H p with
   |some (.box cs)=>bif Nat.beq l p&&(Nat.beq o 0&&Nat.beq cs.length n) then rdR H r (cs++st) else none
   |_=>none
  |_=>none
 |.pin p n::r,st=>match H p with
  |some (.box cs)=>bif Nat.beq cs.length n then rdR H r (cs++st) else none
  |_=>none
 |.ps p::r,st=>match st with
  |.ptr l o::st=>bif Nat.beq l p&&Nat.beq o 0 then rdR H r st else none
  |_=>none
 |.arr p e s::r,st=>match st with
  |.arr l::st=>match H p with
   |some (.arr e' s' rows)=>bif Nat.beq l p&&(Nat.beq e e'&&Nat.beq s s') then Q49 (some (.L rows)) (rdR H r st) else none
   |_=>none
  |_=>none
 |.mp p t::r,st=>match st with
  |.arr l::st=>match H p with
   |some (.mp t' f)=>bif Nat.beq l p&&Nat.beq t t' then Q49 (some (.P f)) (rdR H r st) else none
   |_=>none
  |_=>none
 |.fn f n::r,st=>match st with
  |.fn f' l::st=>bif Nat.beq f f'&&Nat.beq l.length n then rdR H r (l++st) else none
  |_=>none
 |.nil::r,st=>match st with
  |.nil::st=>rdR H r st
  |_=>none
 |.gone p::r,st=>match H p with
  |none=>rdR H r st
  |_=>none
 |.pinm p t::r,st=>match H p with
  |some (.mp t' f)=>bif Nat.beq t t' then Q49 (some (.P f)) (rdR H r st) else none
  |_=>none
 |.pina p e s::r,st=>match H p with
  |some (.arr e' s' rows)=>bif Nat.beq e e'&&Nat.beq s s' then Q49 (some (.L rows)) (rdR H r st) else none
  |_=>none
 |.agn n::r,st=>match st with
  |.ag l::st=>bif Nat.beq l.length n then rdR H r (l++st) else none
  |_=>none
 |.ah p::r,st=>match st with
  |.arr l::st=>bif Nat.beq l p then rdR H r st else none
  |_=>none
 |.top::r,st=>match st with
  |.top::st=>rdR H r st
  |_=>none
inductive RPr (Hf:Nat->Option Ob):List (Nat × OK)->List (Nat × Ob)->Prop
 |nil:RPr Hf [] []
 |gone {p:Nat} {K:List (Nat × OK)} {H:List (Nat × Ob)} (h:Hf p=none) (t:RPr Hf K H):RPr Hf ((p,.gone)::K) H
 |cons {p:Nat} {κ:OK} {o:Ob} {K:List (Nat × OK)} {H:List (Nat × Ob)} (h:Hf p=some o) (hk:KOb κ o) (t:RPr Hf K H):RPr Hf ((p,κ)::K) ((p,o)::H)
theorem FE {α:Type} {a b c:List α} (h:c=a++b) {n:Nat} (hn:a.length=n):c.take n=a/\c.drop n=b:=by
 simp_all
theorem Q6s {H:Nat->Option Ob}:∀ (S:List Sp) (st:List AV) (ls:List Lf),rdR H S st=some ls->(bdS S ls).1=st/\RPr H (KH S) (bdS S ls).2:=by
 intro S;induction S with
 |nil=>
  intro st ls h;cases st with
  |nil=>injection h with h;subst h;exact ⟨rfl,.nil⟩
  |cons a st=>cases h
 |cons s S ih=>
  intro st ls h;cases s with
  |d k=>
   cases st with
   |nil=>cases h
   |cons a st=>
    obtain ⟨x,r,h1,h2,rfl⟩:=Sa (show Q49 (exD k a) (rdR H S st)=some ls from h);obtain ⟨i1,i2⟩:=ih st r h2;exact ⟨by grind [bdS,Q6y],i2⟩
  |ag ks=>
   match st,h with
   |.ag l::st,h=>
    obtain ⟨x,r,h1,h2,rfl⟩:=Q8F (show QgN (Qey ks l) (rdR H S st)=some ls from h);obtain ⟨i1,i2⟩:=ih st r h2;have:=Q3q h1 r
    grind [bdS,KH]
  |tup n=>
   match st,h with
   |.tup l::st,h=>
    obtain ⟨hb,h2⟩:=XL (show (bif Nat.beq l.length n then rdR H S (l++st) else none)=some ls from h);obtain ⟨i1,i2⟩:=ih _ _ h2;obtain ⟨j1,j2⟩:=FE i1 (Ql7 hb);exact ⟨by simp [bdS,j1,j2],i2⟩
  |ptr p n=>
   match st,h with
   |.ptr l o::st,h=>
    simp only [rdR] at h;split at h
    ·rename_i cs ao;obtain ⟨hb,h2⟩:=XL h;simp only [Ql8] at hb;obtain ⟨i1,i2⟩:=ih _ _ h2;have hn:=Ql7 hb.2.2;obtain ⟨j1,j2⟩:=FE i1 hn;refine ⟨by simp [bdS,j2,Ql7 hb.1,Ql7 hb.2.1],?_⟩;simp only [bdS,KH,j1];exact .cons ao hn i2
    ·cases h
  |pin p n=>
   simp only [rdR] at h;split at h
   ·rename_i cs ao;obtain ⟨hb,h2⟩:=XL h;obtain ⟨i1,i2⟩:=ih _ _ h2;have hn:=Ql7 hb;obtain ⟨j1,j2⟩:=FE i1 hn;refine ⟨by simp [bdS,j2],?_⟩;simp only [bdS,KH,j1];exact .cons ao hn i2
   ·cases h
  |ps p=>
   match st,h with
   |.ptr l o::st,h=>
    obtain ⟨hb,h2⟩:=XL (show (bif Nat.beq l p&&Nat.beq o 0 then rdR H S st else none)=some ls from h);simp only [Ql8] at hb;obtain ⟨i1,i2⟩:=ih _ _ h2;exact ⟨by simp [bdS,i1,Ql7 hb.1,Ql7 hb.2],i2⟩
  |arr p e s=>
   match st,h with
   |.arr l::st,h=>
    simp only [rdR] at h;split at h
    ·rename_i e' s' rows an;obtain ⟨hb,h2⟩:=XL h;simp only [Ql8] at hb;obtain ⟨x,r,h1,h3,rfl⟩:=Sa h2;injection h1 with h1
     subst h1;obtain ⟨i1,i2⟩:=ih _ _ h3;have e1:=Ql7 hb.2.1;have e2:=Ql7 hb.2.2;subst e1 e2;exact ⟨by simp [bdS,i1,Ql7 hb.1],.cons an ⟨rfl,rfl⟩ i2⟩
    ·cases h
  |mp p t=>
   match st,h with
   |.arr l::st,h=>
    simp only [rdR] at h;split at h
    ·rename_i t' f hf;obtain ⟨hb,h2⟩:=XL h;simp only [Ql8] at hb;obtain ⟨x,r,h1,h3,rfl⟩:=Sa h2;injection h1 with h1
     subst h1;obtain ⟨i1,i2⟩:=ih _ _ h3;have e1:=Ql7 hb.2;subst e1;exact ⟨by simp [bdS,i1,Ql7 hb.1],.cons hf rfl i2⟩
    ·cases h
  |fn f n=>
   match st,h with
   |.fn f' l::st,h=>
    obtain ⟨hb,h2⟩:=XL (show (bif Nat.beq f f'&&Nat.beq l.length n then rdR H S (l++st) else none)=some ls from h);simp only [Ql8] at hb;obtain ⟨i1,i2⟩:=ih _ _ h2;obtain ⟨j1,j2⟩:=FE i1 (Ql7 hb.2);exact ⟨by simp [bdS,j1,j2,Ql7 hb.1],i2⟩
  |nil=>
   match st,h with
   |.nil::st,h=>
    obtain ⟨i1,i2⟩:=ih _ _ (show rdR H S st=some ls from h);exact ⟨by simp [bdS,i1],i2⟩
  |gone p=>
   simp only [rdR] at h;split at h
   ·rename_i hp;obtain ⟨i1,i2⟩:=ih _ _ h;exact ⟨i1,.gone hp i2⟩
   ·cases h
  |pinm p t=>
   simp only [rdR] at h;split at h
   ·rename_i t' f hf;obtain ⟨hb,h2⟩:=XL h;obtain ⟨x,r,h1,h3,rfl⟩:=Sa h2;injection h1 with h1
    subst h1;obtain ⟨i1,i2⟩:=ih _ _ h3;have e1:=Ql7 hb;subst e1;exact ⟨i1,.cons hf rfl i2⟩
   ·cases h
  |pina p e s=>
   simp only [rdR] at h;split at h
   ·rename_i e' s' rows hf;obtain ⟨hb,h2⟩:=XL h;simp only [Ql8] at hb;obtain ⟨x,r,h1,h3,rfl⟩:=Sa h2;injection h1 with h1
    subst h1;obtain ⟨i1,i2⟩:=ih _ _ h3;have e1:=Ql7 hb.1;have e2:=Ql7 hb.2;subst e1 e2;exact ⟨i1,.cons hf ⟨rfl,rfl⟩ i2⟩
   ·cases h
  |agn n=>
   match st,h with
   |.ag l::st,h=>
    obtain ⟨hb,h2⟩:=XL (show (bif Nat.beq l.length n then rdR H S (l++st) else none)=some ls from h);obtain ⟨i1,i2⟩:=ih _ _ h2;obtain ⟨j1,j2⟩:=FE i1 (Ql7 hb);exact ⟨by simp [bdS,j1,j2],i2⟩
  |ah p=>
   match st,h with
   |.arr l::st,h=>
    obtain ⟨hb,h2⟩:=XL (show (bif Nat.beq l p then rdR H S st else none)=some ls from h);obtain ⟨i1,i2⟩:=ih _ _ h2;exact ⟨by simp [bdS,i1,Ql7 hb],i2⟩
  |top=>
   match st,h with
   |.top::st,h=>
    obtain ⟨i1,i2⟩:=ih _ _ (show rdR H S st=some ls from h);exact ⟨by simp [bdS,i1],i2⟩
theorem RPr.keys {Hf:Nat->Option Ob} {K:List (Nat × OK)} {H:List (Nat × Ob)} (h:RPr Hf K H) {p:Nat} (hp:PX p (K.map (·.1))=false):look H p=none:=by
 induction h with
 |nil=>rfl
 |gone h _ ih=>simp_all [List.map_cons,PX,Bool.or_eq_false_iff]
 |cons h _ _ ih=>
  simp_all [List.map_cons,PX,Bool.or_eq_false_iff,look]
theorem Q5s {α:Type} {p:Nat} {κ:α}:∀ {K:List (Nat × α)},(p,κ)∈K->PX p (K.map (·.1))=true
 |(q,_)::K,h=>by
  rcases List.mem_cons.1 h with h | h
  ·injection h with h _;simp [PX,h,Nat.beq_refl]
  ·simp [PX,Q5s h]
theorem RPr.at {Hf:Nat->Option Ob} {K:List (Nat × OK)} {H:List (Nat × Ob)} (h:RPr Hf K H) (hn:X4 (K.map (·.1))=true) {p:Nat} {κ:OK} (hm:(p,κ)∈K) :
  look H p=Hf p/\((κ = .gone/\Hf p=none)\/∃ o,Hf p=some o/\KOb κ o):=by
 induction h with
 |nil=>cases hm
 |@gone q K H h t ih=>
  simp only [List.map_cons,X4,Ql8,Qlb] at hn;rcases List.mem_cons.1 hm with e | hm
  ·injection e with e1 e2
   subst e1 e2;exact ⟨(t.keys hn.1).trans h.symm,.inl ⟨rfl,h⟩⟩
  simp_all
 |@cons q κ' o K H h hk t ih=>
  simp only [List.map_cons,X4,Ql8,Qlb] at hn
  grind [look,Nat.beq_refl,Nat.beq,QdD,Q5s]
theorem HinP.map1 {ρF:List (Nat × Nat)} {K:List (Nat × OK)} {H:List (Nat × Ob)} {ρ:List (Nat × Nat)} (h:HinP ρF hl K H ρ):H.map (·.1)=ρ.map (·.1)/\K.map (·.1)=ρ.map (·.1):=by
 induction h with
 |nil=>simp_all
 |cons _ _ _ _ ih=>simp_all
theorem HinP.at {ρF:List (Nat × Nat)} {hl:Nat->Option Ob} {K:List (Nat × OK)} {H:List (Nat × Ob)} {ρ:List (Nat × Nat)} (h:HinP ρF hl K H ρ) (hn:X4 (ρ.map (·.1))=true) {p l:Nat} (hm:(p,l)∈ρ) :
  ∃ κ o o0,(p,κ)∈K/\look H p=some o/\hl l=some o0/\OLe ρF o0 o/\KOb κ o:=by
 induction h with
 |nil=>cases hm
 |@cons q l' κ o o0 K H ρ h0 h1 h2 t ih=>
  simp only [List.map_cons,X4,Ql8,Qlb] at hn
  grind [List.mem_cons_self,look,Nat.beq_refl,List.mem_cons_of_mem,Nat.beq,QdD,Q5s]
def kE (RS:List Sp):AV->Option (HT (lts RS)):=fun av=>match rdR (fun _=>none) RS [av] with
 |some ls=>ofT _ ls
 |none=>none
def kG (RS:List Sp):AV->List (Nat × Ob)->Option (HT (lts RS)):=fun av H=>match rdR (look H) RS [av] with
 |some ls=>ofT _ ls
 |none=>none
def QiX (S RS:List Sp) (f:LF (lts S) (Option (HT (lts RS)))):PV:=fun _ _ g ac hl k=>
 rdP g hl S ac [] fun ls _=>gb g (apL (lts S) f ls) (zT _) fun r=>k ⟨(bdS RS (toT _ r)).1.headD .top,[],[]⟩
def nus (ac:Nat):Nat->List Nat->List (Nat × Nat)
 |_,[]=>[]
 |i,m::r=>(m,ac+50000*i)::nus ac (i+1) r
structure EnP (P:Program) (f:Nat) where
 E:PV
 ok:VR P f E
theorem Qea {C:VC} (hC:VCOk P C) (T:List (LpE P)) {f:Nat} (fn:Func) (ss:List (List Nat)) (S RS:List Sp) (p:LF (lts S) (Option (HT (lts RS))))
  (h : ∀ v, vfnT C T fn (bdS S (toL _ v)).1 [] (retF ss (kE RS)) = apH _ p v) (hd : Rf S = true) (hf : P.funcs[f]? = some fn) (hb : fn.body.isSome = true) (hn : (fn.name == "runtime.NumGoroutine") = false)
  (hT:M6 T (WZ (VY fn))=T.map fun e=>(e.r,e.c)) (hn2:X4 (T.map (·.r))=true):VR P f (QiX S RS p):=by
 intro R site g avs hl k r h0;obtain ⟨ls,h1,hc⟩:=Qdb S avs [] _ r hd h0;obtain ⟨res,h1,hres⟩:=QP h1;refine ⟨_,h1,fun hg=>?_⟩;obtain ⟨v,hv,rfl⟩:=Mu _ _ _ _ (hres hg);obtain ⟨c1,c2⟩:=hc hg;refine ZZ.conv c2 (Qbx (K:=kE RS) hC T (fn:=fn) (ss:=ss) ((h v).trans hv) (fun x hx=>?_) hf hb hn c1 hT hn2)
 unfold kE at hx;split at hx
 ·rename_i ls' hls;obtain ⟨i1,_⟩:=Q6s _ _ _ hls
  grind [Q1K]
 ·cases hx
theorem B3 (ac:Nat):∀ (i:Nat) (ν:List Nat),(nus ac i ν).map (·.1)=ν
 |_,[]=>rfl
 |i,m::r=>by simp [nus,B3 ac (i+1) r]
theorem F7 {α:Type} {p:Nat}:∀ {K:List (Nat × α)},PX p (K.map (·.1))=true->∃ κ,(p,κ)∈K
 |(q,κ)::K,h=>by
  simp only [List.map_cons,PX,Bool.or_eq_true] at h;rcases h with h | h
  ·exact ⟨κ,by rw [Ql7 h];exact Qla ..⟩
  ·obtain ⟨κ',hk⟩:=F7 h;exact ⟨κ',Ql9 _ hk⟩
def QbY {R:Type} (g:Bool) (H:List (Nat × Ob)):List (Nat × Ob)->Option R->Option R
 |[],x=>x
 |(p,.arr _ _ ac)::r,x=>match look H p with
  |some (.arr _ _ rows)=>gb g (Tc ac (List.length rows)) () fun _=>QbY g H r x
  |_=>QbY g H r x
 |_::r,x=>QbY g H r x
theorem HD {R:Type} {g:Bool} {H:List (Nat × Ob)} {x:Option R} {z:R}:∀ {H':List (Nat × Ob)},QbY g H H' x=some z->x=some z/\(g=true->∀ (p e s:Nat) (ac:List (List D)) (e0 s0:Nat) (rows:List (List D)),(p,Ob.arr e s ac)∈H'->look H p=some (.arr e0 s0 rows)->ac.length=rows.length)
 |[],h=>⟨h,fun _ _ _ _ _ _ _ _ h=>(nomatch h)⟩
 |(q,.arr e1 s1 ao)::r,h=>by
  unfold QbY at h;split at h
  ·rename_i e2 s2 aq hq;obtain ⟨_,h,hl⟩:=QP h;obtain ⟨h1,h2⟩:=HD h;refine ⟨h1,fun hg p e s ac e0 s0 rows hm hp=>?_⟩;rcases List.mem_cons.1 hm with hm | hm
   ·injection hm with e1 e2
    injection e2 with _ _ e3
    subst e1 e3;rw [hq] at hp;injection hp with hp
    injection hp with _ _ hp
    subst hp;exact Q11 (hl hg)
   ·exact h2 hg p e s ac e0 s0 rows hm hp
  ·rename_i hq;obtain ⟨h1,h2⟩:=HD h;refine ⟨h1,fun hg p e s ac e0 s0 rows hm hp=>?_⟩;rcases List.mem_cons.1 hm with hm | hm
   ·injection hm with e1 _
    subst e1;exact absurd hp (hq _ _ _)
   ·exact h2 hg p e s ac e0 s0 rows hm hp
 |(q,.box c)::r,h=>by
  obtain ⟨h1,h2⟩:=HD (H':=r) h;refine ⟨h1,fun hg p e s ac e0 s0 rows hm hp=>?_⟩;rcases List.mem_cons.1 hm with hm | hm
  ·cases hm
  ·exact h2 hg p e s ac e0 s0 rows hm hp
 |(q,.mp _ _)::r,h=>by
  obtain ⟨h1,h2⟩:=HD (H':=r) h;refine ⟨h1,fun hg p e s ac e0 s0 rows hm hp=>?_⟩;rcases List.mem_cons.1 hm with hm | hm
  ·cases hm
  ·exact h2 hg p e s ac e0 s0 rows hm hp
def QeQ:OK->Bool
 |.gone=>true
 |_=>false
def Qi4:OK->OK->Bool
 |.box n,.box m=>Nat.beq m n
 |.arr _ _,.gone=>true
 |.arr e s,.arr e' s'=>Nat.beq e e'&&Nat.beq s s'
 |.mp t,.mp t'=>Nat.beq t t'
 |.mp _,.gone=>true
 |_,_=>false
def Q0w (S RS:List Sp) (ν:List Nat):Bool:=
 X4 ((KH S).map (·.1)++ν)&&(X4 ((KH S).map (·.1))&&((KH S).all (fun x=>Nat.ble 1000000 x.1)&&(X4 ((KH RS).map (·.1)) &&
  ((KH S).all (fun x=>PX x.1 ((KH RS).map (·.1))&&(KH RS).all fun y=>!(Nat.beq y.1 x.1)||Qi4 x.2 y.2)&&ν.all (fun m=>PX m ((KH RS).map (·.1))&&(KH RS).all fun y=>!(Nat.beq y.1 m)||!(QeQ y.2))))))
theorem AA {σ:List (Nat × Nat)} {H H':List (Nat × Ob)}:∀ {τ:List (Nat × Nat)},(∀ j l,(j,l)∈τ->look H j=look H' j)->MP σ H τ=MP σ H' τ
 |[],_=>rfl
 |(j,l)::r,h=>by
  simp only [MP];rw [h j l (Qla ..),AA fun a b hm=>h a b (Ql9 _ hm)]
theorem Qa5 {H:List (Nat × Ob)}:∀ {τ:List (Nat × Nat)},(∀ j l,(j,l)∈τ->(look H j).isSome=true)->Qca H τ
 |[],_=>trivial
 |(j,l)::r,h=>⟨h j l (Qla ..),Qa5 fun a b hm=>h a b (Ql9 _ hm)⟩
theorem Q8v {H H':List (Nat × Ob)}:∀ {τ:List (Nat × Nat)},(∀ j l,(j,l)∈τ->Q2m (look H j) (look H' j))->QfR H H' τ
 |[],_=>trivial
 |(j,l)::r,h=>⟨h j l (Qla ..),Q8v fun a b hm=>h a b (Ql9 _ hm)⟩
theorem Q8u {ρ0:List (Nat × Nat)} {hl:Nat->Option Ob} {H:List (Nat × Ob)}:∀ {τ:List (Nat × Nat)},(∀ j l,(j,l)∈τ->1000000<=j/\∃ o o',hl l=some o/\look H j=some o'/\OLe ρ0 o o')->QfB ρ0 hl H τ
 |[],_=>trivial
 |(j,l)::r,h=>⟨h j l (Qla ..),Q8u fun a b hm=>h a b (Ql9 _ hm)⟩
def Qag {f:Nat} (b:EnP P f):EnP P f where
 E:=fun R ac g aj hl k=>match aj with
  |[.gd _ _ .nil]=>bif g then none else k ⟨.nil,[],[]⟩
  |_=>b.E R ac g aj hl k
 ok:=by
  intro R ac g aj hl k r h;dsimp only at h;split at h
  ·exact Q9t h
  ·exact b.ok R ac g aj hl k r h
end
abbrev qI:DK:=.i .i64
abbrev qB:DK:=.b
abbrev qT:DK:=.t
abbrev qX:DK:=.x
abbrev qL (n:Nat):DK:=.l n
abbrev eA (l:List DK):Sp:=.ag l
abbrev eP (p n:Nat):Sp:=.ptr p n
abbrev eI (p n:Nat):Sp:=.pin p n
abbrev eS (p:Nat):Sp:=.ps p
abbrev eR (p e s:Nat):Sp:=.arr p e s
abbrev eM (p t:Nat):Sp:=.mp p t
abbrev eF (f n:Nat):Sp:=.fn f n
abbrev eN:Sp:=.nil
abbrev eU:Sp:=.top
abbrev eG (p:Nat):Sp:=.gone p
abbrev eT (n:Nat):Sp:=.tup n
abbrev eH (p:Nat):Sp:=.ah p
abbrev eK (p e s:Nat):Sp:=.pina p e s
abbrev eO (n:Nat):Sp:=.agn n
abbrev sI:Sp:=.d (.i .i64)
abbrev sB:Sp:=.d .b
abbrev sT:Sp:=.d .t
abbrev sL (n:Nat):Sp:=.d (.l n)
end Go.Vx
namespace Go.Vx
inductive UI where
 |r (a b:Nat)
 |f (a:Nat)
 |t (x l:Nat)
 |h (b c l:Nat)
def nmT:TA->Option Nat
 |.ptr l _=>some l
 |.arr l=>some l
 |.ap l _=>some l
 |.ac l _ _=>some l
 |.sa l _=>some l
 |_=>none
def nmV:AV->Option Nat
 |.ptr l _=>some l
 |.arr l=>some l
 |.ap l _ _=>some l
 |.sa l _=>some l
 |_=>none
def Qic:AV->Bool
 |.nil=>true
 |_=>false
def uN (mk:Nat->UI) (a:AV) (u:List UI):Option Nat->List UI
 |some l=>match nmV a with
  |some l'=>.r l' l::u
  |none=>bif Qic a then mk l::u else u
 |none=>match nmV a with
  |some l'=>.f l'::u
  |none=>u
mutual
def uA (mk:Nat->UI):TA->AV->List UI->List UI
 |.top,_,u=>u
 |.ag l,.ag l',u=>uL mk l l' u
 |.tup l,.tup l',u=>uL mk l l' u
 |.fn _ l,.fn _ l',u=>uL mk l l' u
 |ta,a,u=>uN mk a u (nmT ta)
def uL (mk:Nat->UI):List TA->List AV->List UI->List UI
 |[],_,u=>u
 |ta::r,l,u=>match l with
  |a::s=>uL mk r s (uA mk ta a u)
  |[]=>u
end
def QgL:List UI->Nat->Nat
 |[],l=>l
 |.r a b::u,l=>bif Nat.beq b l then a else QgL u l
 |_::u,l=>QgL u l
def uB (b:Nat):Nat->List TA->List AV->List UI->List UI
 |_,[],_,u=>u
 |c,ta::r,l,u=>match l with
  |a::s=>uB b (c+1) r s (uA (.h b c) ta a u)
  |[]=>u
def uM (tm:List (Nat × AV)):List (Nat × TA)->List UI->List UI
 |[],u=>u
 |(t,a)::r,u=>uM tm r (uA (.t t) a (lkT tm t) u)
def uH (h:List (Nat × Ob)):List (Nat × TO)->List UI->List UI
 |[],u=>u
 |(l,.box cs)::r,u=>match look h (QgL u l) with
  |some (.box ac)=>uH h r (uB l 0 cs ac u)
  |_=>uH h r u
 |_::r,u=>uH h r u
def esT:TO->Nat × Nat
 |.arr e s=>(e,s)
 |.arc e s=>(e,s)
 |_=>(0,0)
def es1 (Z:List (Nat × TO)) (l:Nat):Nat × Nat:=match look Z l with
 |some o=>esT o
 |none=>(0,0)
def mtU (Z:Nat->Nat × Nat):List UI->List (Nat × Nat × Nat × Nat)
 |[]=>[]
 |.t x l::u=>(x,l,(Z l).1,(Z l).2)::mtU Z u
 |_::u=>mtU Z u
def mhU (Z:Nat->Nat × Nat):List UI->List (Nat × Nat × Nat × Nat × Nat)
 |[]=>[]
 |.h b c l::u=>(b,c,l,(Z l).1,(Z l).2)::mhU Z u
 |_::u=>mhU Z u
def fzU:List UI->List Nat
 |[]=>[]
 |.f a::u=>a::fzU u
 |_::u=>fzU u
def idN (l:List Nat):List (Nat × Nat):=l.map fun x=>(x,x)
def Qiw (ks os:List Nat) (Z:Nat->Nat × Nat) (u:List UI):Cfg:=⟨ks,os.map fun l=>(QgL u l,l),mtU Z u,mhU Z u,fzU u⟩
def nU (Z:TS) (st:St):St:=Qds ⟨Z.tm.map (·.1),idN (Z.h.map (·.1)),[],[],[]⟩ (Qds (Qiw (Z.tm.map (·.1)) (Z.h.map (·.1)) (es1 Z.h) (uH st.h Z.h (uM st.tm Z.tm []))) st)
section
variable {P:Program} {E:Env}
theorem Qcl (Z:TS) {st:St} {a:Act} {w:World} (h:HG E st a w):HG E (nU Z st) a w:=Pk _ (Pk _ h)
end
structure XT where
 k:Exit
 Z:TS
 s:List Nat
def QiH:Exit->Exit->Bool
 |.exit a,.exit b=>Nat.beq a b
 |.ret,.ret=>true
 |_,_=>false
def exN:List XT->Exit->St->St
 |[],_,st=>st
 |x::r,e,st=>bif QiH x.k e&&(rdS x.Z (nU x.Z st)).isSome then nU x.Z st else exN r e st
theorem Q60 {E:Env}:∀ (X:List XT) (e:Exit) {st:St} {a:Act} {w:World},HG E st a w->HG E (exN X e st) a w
 |[],_,_,_,_,h=>h
 |x::r,e,st,a,w,h=>by
  unfold exN;cases QiH x.k e&&(rdS x.Z (nU x.Z st)).isSome with
  |true=>exact Qcl _ h
  |false=>exact Q60 r e h
def ltD:TA->List LT->List LT
 |.i _,r=>.I::r
 |.b,r=>.B::r
 |.t,r=>.T::r
 |.l _,r=>.L::r
 |.x,r=>.D::r
 |.el _,r=>.R::r
 |.ap _ _,r=>.N::r
 |.fs _,r=>.L::r
 |.mpd,r=>.M::r
 |_,r=>r
mutual
def ltA:TA->List LT->List LT
 |.ag l,r=>ltL l r
 |.tup l,r=>ltL l r
 |.fn _ l,r=>ltL l r
 |.gd _ _ a,r=>ltA a r
 |a,r=>ltD a r
def ltL:List TA->List LT->List LT
 |[],r=>r
 |a::l,r=>ltA a (ltL l r)
end
def ltO:TO->List LT->List LT
 |.box l,r=>ltL l r
 |.arr _ _,r=>.L::r
 |.mp _,r=>.P::r
 |_,r=>r
def ltM:List (Nat × TA)->List LT->List LT
 |[],r=>r
 |(_,a)::l,r=>ltA a (ltM l r)
def ltH:List (Nat × TO)->List LT
 |[]=>[]
 |(_,o)::l=>ltO o (ltH l)
def ltS (Z:TS):List LT:=ltM Z.tm (ltH Z.h)
def QgG (d:Nat):List LT->Nat->List LT
 |[],_=>[]
 |t::ts,k=>bif Nat.beq (k % 3) d then t::QgG d ts (k / 3) else QgG d ts (k / 3)
def QgC {α:Type} (d:Nat):List α->Nat->List α
 |[],_=>[]
 |x::xs,k=>bif Nat.beq (k % 3) d then x::QgC d xs (k / 3) else QgC d xs (k / 3)
def Qbp:List LT->List Nat->List LT
 |t::ts,s=>match s with
  |0::r=>t::Qbp ts r
  |_::r=>Qbp ts r
  |[]=>[]
 |[],_=>[]
def Qav (hs as:List Lf):List Nat->List Lf->List Lf
 |[],_=>[]
 |0::r,q=>match q with
  |x::q=>x::Qav hs as r q
  |[]=>[]
 |(j+1)::r,q=>bif Nat.ble 999 j then as.getD (j-999) (.N 0)::Qav hs as r q else hs.getD j (.N 0)::Qav hs as r q
def crL {β:Type}:(ts:List LT)->(List Lf->β)->LF ts β
 |[],f=>f []
 |t::ts,f=>fun x=>crL ts fun l=>f (QaN t x::l)
def apO {α:Type}:(ts:List LT)->LF ts α->List Lf->Option α
 |[],f,l=>match l with
  |[]=>some f
  |_::_=>none
 |t::ts,f,l=>match l with
  |[]=>none
  |x::r=>match Q8p t x with
   |some v=>apO ts (f v) r
   |none=>none
def kT (R:Type):List XT->Type->Type
 |[],α=>α
 |x::r,α=>LF (Qbp (ltS x.Z) x.s) (Option R)->kT R r α
def apK {R α:Type} (hs:List Lf) (k:Exit->St->Option R):(X:List XT)->kT R X α->α
 |[],f=>f
 |x::r,f=>apK hs k r (f (crL _ fun as=>k x.k (fiS x.Z (Qav hs as x.s as))))
def PT (ts:List LT) (q:Nat) (X:List XT) (R:Type):Type:=LF (QgG 1 ts q) (kT R X (Nat->LF (QgG 2 ts q) (Option R)))
def runP {ts:List LT} {q:Nat} {X:List XT} {R:Type} (f:PT ts q X R) (m:Nat) (k:Exit->St->Option R) (ls:List Lf):Option R:=
 match apO _ f (QgC 1 ls q) with
 |some g=>match apO _ (apK ls k X g m) (QgC 2 ls q) with
  |some r=>r
  |none=>none
 |none=>none
inductive XD where
 |e (id:Nat) (add:List (Nat × TA)) (drop:List Nat) (o:List (Nat × TO)) (ov:List (Nat × Nat))
 |f (k:Exit) (tm:List (Nat × TA)) (h:List (Nat × TO)) (s:List Nat)
def Qir (t:Nat) (a:TA):List (Nat × TA)->List (Nat × TA)
 |[]=>[(t,a)]
 |(k,d)::r=>bif Nat.beq k t then (t,a)::r else bif Nat.ble k t then (k,d)::Qir t a r else (t,a)::(k,d)::r
def Qe2:List (Nat × TA)->List (Nat × TA)->List (Nat × TA)
 |[],z=>z
 |(t,a)::r,z=>Qe2 r (Qir t a z)
def Qdl:List Nat->List (Nat × TA)->List (Nat × TA)
 |[],z=>z
 |t::r,z=>Qdl r (rem t z)
def QhW (h:List (Nat × TO)):List (Nat × TO)->List (Nat × TO)
 |[]=>h
 |(l,o)::r=>QhW (go l o h) r
where go (l:Nat) (o:TO):List (Nat × TO)->List (Nat × TO)
 |[]=>[(l,o)]
 |(k,b)::r=>bif Nat.beq k l then (l,o)::r else (k,b)::go l o r
def Qhx (b:Nat):Nat->Nat->List Nat->List Nat
 |_,0,r=>r
 |i,n+1,r=>(b+i)::Qhx b (i+1) n r
def Qh4:List (Nat × TA)->List Nat->List Nat
 |[],r=>r
 |(t,a)::l,r=>Qhx (2000*t) 0 (ltA a []).length (Qh4 l r)
def Qie:List (Nat × TO)->List Nat
 |[]=>[]
 |(l,o)::r=>Qhx (2000*l+1000) 0 (ltO o []).length (Qie r)
def Qio (x:Nat):Nat->List Nat->Nat->Nat
 |_,[],_=>0
 |j,k::r,q=>bif Nat.beq k x then bif Nat.beq (q % 3) 2 then 0 else j else Qio x (j+1) r (q / 3)
def QiG (hk:List Nat) (q:Nat) (ov:List (Nat × Nat)):Nat->List Nat->List Nat
 |_,[]=>[]
 |i,x::r=>(look ov i).getD (Qio x 1 hk q)::QiG hk q ov (i+1) r
def xT (n:Nat) (tm:List (Nat × TA)) (h:List (Nat × TO)) (q:Nat):XD->XT
 |.f k tm' h' s=>⟨k,⟨n,tm',h'⟩,s⟩
 |.e id aj ac o ov=>⟨.exit id,⟨n,Qe2 aj (Qdl ac tm),QhW h o⟩,QiG (Qh4 tm (Qie h)) q ov 0 (Qh4 (Qe2 aj (Qdl ac tm)) (Qie (QhW h o)))⟩
abbrev xE (id:Nat) (ac:List (Nat × TA)):XD:=.e id ac [] [] []
def lpU {R:Type} (X:List XT) (F:L4) (k:Exit->St->Option R):Exit->St->Option R:=fun e st=>match e with
 |.normal=>F R st k
 |.exit id=>k (.exit id) (exN X (.exit id) st)
 |.ret=>k .ret (exN X .ret st)
 |_=>none
theorem Q0K {P:Program} {c:Code} (X:List XT) (F:Nat->L4) (h0:∀ (R:Type) st (k:Exit->St->Option R),F 0 R st k=none)
  (hs:∀ (m:Nat) (E:Env) (R:Type) st (k:Exit->St->Option R) r,F (m+1) R st k=some r->∀ a w,HG E st a w->c.wp P (Q0q E (lpU X (F m) k) r) a w) :
  ∀ (m:Nat) (E:Env) (R:Type) (st:St) (k:Exit->St->Option R) (r:R),F m R st k=some r->∀ a w,HG E st a w->Code.rounds P c (Q0q E k r) m a w
 |0,E,R,st,k,r,h=>by rw [h0] at h;cases h
 |m+1,E,R,st,k,r,h=>by
  intro a w hR;rw [rounds_succ];refine wp_mono (hs m E R st k r h a w hR) fun e a' w' ⟨st',ac,hk⟩=>?_
  cases e with
  |normal=>exact Q0K X F h0 hs m E R st' k r hk a' w' ac
  |exit id=>exact ⟨_,Q60 X _ ac,hk⟩
  |ret=>exact ⟨_,Q60 X _ ac,hk⟩
  |_=>cases hk
def QaL (r:Nat):Code->Option Code
 |.seq a b=>match QaL r a with
  |some c=>some c
  |none=>QaL r b
 |.cond _ a b=>match QaL r a with
  |some c=>some c
  |none=>QaL r b
 |.block _ c=>QaL r c
 |.loop c=>bif Nat.beq (Q8R c) r then some c else QaL r c
 |_=>none
def LpU (Z:TS) (f:(R:Type)->(Exit->St->Option R)->List Lf->Option R):L4:=fun R st k=>
 match rdS Z (nU Z st) with
 |some ls=>f R k ls
 |none=>none
theorem QfJ:∀ (ts:List LT) {α:Type} (f:LF ts α) (l:List Lf) (r:α),apO ts f l=some r->∃ v:HL ts,l=toL ts v
 |[],α,f,l,r,h=>by
  cases l with
  |nil=>exact ⟨(),rfl⟩
  |cons x l=>cases h
 |t::ts,α,f,l,r,h=>by
  cases l with
  |nil=>cases h
  |cons x l=>
   replace h:(match Q8p t x with | some v=>apO ts (f v) l | none=>none)=some r:=h
   split at h
   ·rename_i v hv;obtain ⟨u,h2⟩:=QfJ ts (f v) l r h;exact ⟨(v,u),by rw [Nz hv,h2];rfl⟩
   ·cases h
def QgF:List LT->List Lf->Bool
 |[],l=>match l with
  |[]=>true
  |_::_=>false
 |t::ts,l=>match l with
  |[]=>false
  |x::r=>(Q8p t x).isSome&&QgF ts r
theorem Q1t:∀ {ts:List LT} {l:List Lf},QgF ts l=true->∃ v:HL ts,l=toL ts v
 |[],[],_=>⟨(),rfl⟩
 |[],_::_,h=>by cases h
 |_::_,[],h=>by cases h
 |t::ts,x::l,h=>by
  simp only [QgF,Ql8] at h;obtain ⟨v,hv⟩:=Option.isSome_iff_exists.1 h.1;obtain ⟨u,hu⟩:=Q1t h.2;exact ⟨(v,u),by rw [Nz hv,hu];rfl⟩
def QgH (ts:List LT) {R:Type} (f:List Lf->Option R) (ls:List Lf):Option R:=bif QgF ts ls then f ls else none
def mkU {P:Program} {C:VC} (hC:VCOk P C) (T:List (LpE P)) (r:Nat) (fn:Func) (tm:List (Nat × TA)) (h:List (Nat × TO)) (q:Nat) (X:List XD) {τ:Type->Type} (f:(R:Type)->Nat->τ R) (n m:Nat)
  (hτ:∀ R,τ R=PT (ltM tm (ltH h)) q (X.map (xT fn.ntmps tm h q)) R:=by intro R;kernel_rfl)
  (hr:(QaL r (VY fn)).isSome=true:=by kernel_rfl) (hT:M6 T (WZ ((QaL r (VY fn)).getD .skip))=T.map fun e=>(e.r,e.c):=by kernel_rfl) (hn:X4 (T.map (·.r))=true:=by rfl)
  (h0:∀ (R:Type) (k:Exit->St->Option R) (v:HL (ltM tm (ltH h))),runP (cast (hτ R) (f R n)) 0 k (toL _ v)=none:=by intro R k v;kernel_rfl)
  (hs:∀ (m:Nat) (R:Type) (k:Exit->St->Option R) (v:HL (ltM tm (ltH h))),runP (cast (hτ R) (f R n)) (m+1) k (toL _ v)=Q7Y C T ((QaL r (VY fn)).getD .skip) (fiS ⟨fn.ntmps,tm,h⟩ (toL _ v)) (lpU (X.map (xT fn.ntmps tm h q)) (LpU ⟨fn.ntmps,tm,h⟩ fun R k=>QgH (ltM tm (ltH h)) (runP (cast (hτ R) (f R n)) m k)) k):=by intro m R k v;kernel_rfl):LpE P where
 r:=r
 c:=(QaL r (VY fn)).getD .skip
 L:=LpU ⟨fn.ntmps,tm,h⟩ fun R k=>QgH (ltM tm (ltH h)) (runP (cast (hτ R) (f R n)) m k)
 t:=fun st=>(rdS ⟨fn.ntmps,tm,h⟩ (nU ⟨fn.ntmps,tm,h⟩ st)).isSome
 ok:=by
  have hT:=B7 hn hT;intro E R st k x h' a w hR;refine wp_loop_rounds m (Q0K (X.map (xT fn.ntmps tm h q)) (fun m=>LpU ⟨fn.ntmps,tm,h⟩ fun R k=>QgH (ltM tm (ltH h)) (runP (cast (hτ R) (f R n)) m k)) (fun R st k=>?_) (fun m E R st k x h' a w hR=>?_) m E R st k x h' a w hR)
  ·cases hx:LpU ⟨fn.ntmps,tm,h⟩ (fun R k=>QgH (ltM tm (ltH h)) (runP (cast (hτ R) (f R n)) 0 k)) R st k with
   |none=>rfl
   |some x=>
    unfold LpU at hx;split at hx
    ·obtain ⟨hb,hx⟩:=XL hx;obtain ⟨v,rfl⟩:=Q1t hb;rw [h0] at hx;cases hx
    ·cases hx
  ·unfold LpU at h';split at h'
   ·rename_i ls an;obtain ⟨hb,h'⟩:=XL h';obtain ⟨v,rfl⟩:=Q1t hb;rw [hs,Q79 an] at h';exact Mw hC _ hT _ _ x h' a w (Qcl _ hR)
   ·cases h'
structure VB (P:Program) where
 C:VC
 ok:VCOk P C
def QfE {P:Program} (l:List ((f:Nat) × EnP P f)):List (Nat × PV):=l.map fun e=>(e.1,e.2.E)
theorem Q7c {P:Program}:∀ l:List ((f:Nat) × EnP P f),Q6K P (QfE l)
 |[]=>trivial
 |e::r=>⟨e.2.ok,Q7c r⟩
def Qjf {P:Program} {f:Nat} (l:List Nat) (a b:EnP P f):EnP P f:=⟨Qi1 l a.E b.E,Qd9 _ a.ok b.ok⟩
def uR (h:List (Nat × Ob)):List Sp->List (AV × (Nat->Nat->UI))->List UI->List UI
 |[],_,u=>u
 |.tup _::r,st,u=>uR h r st u
 |.gone _::r,st,u=>uR h r st u
 |.pinm _ _::r,st,u=>uR h r st u
 |.pina _ _ _::r,st,u=>uR h r st u
 |.pin p _::r,st,u=>match look h p with
  |some (.box cs)=>uR h r (plC (.h p) 0 cs++st) u
  |_=>u
 |.ptr p _::r,st,u=>match st with
  |(.ptr l _,_)::st=>match look h l with
   |some (.box cs)=>uR h r (plC (.h p) 0 cs++st) (.r l p::u)
   |_=>u
  |_=>u
 |.ag _::r,st,u=>match st with
  |(.ag l,_)::st=>uR h r st (l.foldl (fun u a=>uN (fun _=>.f 0) a u none) u)
  |_::st=>uR h r st u
  |_=>u
 |.agn _::r,st,u=>match st with
  |(.ag l,q)::st=>uR h r (plC q 0 l++st) u
  |_=>u
 |.fn _ _::r,st,u=>match st with
  |(.fn _ l,q)::st=>uR h r (plC q 0 l++st) u
  |_=>u
 |.arr p _ _::r,st,u=>match st with
  |(a,q)::st=>uR h r st (uN (q 0) a u (some p))
  |_=>u
 |.mp p _::r,st,u=>match st with
  |(a,q)::st=>uR h r st (uN (q 0) a u (some p))
  |_=>u
 |.d _::r,st,u=>match st with
  |(a,q)::st=>uR h r st (uN (q 0) a u none)
  |_=>u
 |_::r,st,u=>uR h r st.tail u
where
 plC (q:Nat->Nat->UI):Nat->List AV->List (AV × (Nat->Nat->UI))
  |_,[]=>[]
  |i,a::l=>(a,fun j=>q (i+j))::plC q (i+1) l
def esR:List Sp->Nat->Nat × Nat
 |[],_=>(0,0)
 |.arr p e s::r,l=>bif Nat.beq p l then (e,s) else esR r l
 |_::r,l=>esR r l
def osR:List (Nat × OK)->List Nat
 |[]=>[]
 |(_,.gone)::r=>osR r
 |(p,_)::r=>p::osR r
def rsT:List ResultVar->List Nat
 |[]=>[]
 |.tmp t::r=>t::rsT r
 |.cell a _::r=>a::rsT r
def rsO (st:St):List ResultVar->List Nat
 |[]=>[]
 |.tmp _::r=>rsO st r
 |.cell a _::r=>match lkT st.tm a with
  |.ptr l _=>l::rsO st r
  |_=>rsO st r
def rsV (tt:TT) (st:St):List ResultVar->List (AV × (Nat->Nat->UI))
 |[]=>[]
 |.tmp t::r=>(lkT st.tm t,fun _=>.t t)::rsV tt st r
 |.cell a ty::r=>match Q4d tt st (.cell a ty),lkT st.tm a with
  |some v,.ptr l off=>(v,fun i=>.h l (off+i))::rsV tt st r
  |_,_=>rsV tt st r
def nR (tt:TT) (RS:List Sp) (rs:List ResultVar) (st:St):St:=
 Qds (Qiw (rsT rs) (rsO st rs++osR (KH RS)) (esR RS) (uR st.h RS (rsV tt st rs) [])) st
def Qer {R:Type} {P:Program} (C:VC) (T:List (LpE P)) (N:St->St) (fn:Func) (args:List AV) (h:List (Nat × Ob)) (k:AV->List (Nat × Ob)->Option R):Option R:=
 bif fn.body.isSome&&(Nat.ble args.length fn.ntmps&&HA args) then Q7Y C T (VY fn) { n:=fn.ntmps,tm:=Q3T 0 args,h:=h } (fun e st=>fnK C.tt fn k e (N st)) else none
section
variable {P:Program} {R:Type}
theorem Dt {C:VC} (hC:VCOk P C) {T:List (LpE P)} {f:Nat} {fn:Func} {N:St->St} (hN:∀ (E:Env) (st:St) (a:Act) (w:World),HG E st a w->HG E (N st) a w) (hf:P.funcs[f]? = some fn)
  (hT:M6 T (WZ (VY fn))=T.map fun e=>(e.r,e.c)) (hn:X4 (T.map (·.r))=true) {args:List AV} {H:List (Nat × Ob)} {k:AV->List (Nat × Ob)->Option R} {r:R} (h:Qer C T N fn args H k=some r)
  (β:Nat->Option Nat) (S:Nat->Prop) (w:World) (vs:List Value) (hO:Objs β S (look H) w) (hA:ArgsRd β S (look H) w vs args):Calls P f vs.toArray w (N9 H k r β S w):=by
 obtain ⟨hb,h⟩:=XL h;simp only [Ql8] at hb;obtain ⟨c,hc⟩:=Option.isSome_iff_exists.1 hb.1;have ac:VY fn=c:=by grind [VY]
 rw [ac] at h hT;exact Q1C hC hf hc (by simp_all) (fun a hR=>wp_mono (Mw hC c (B7 hn hT) _ _ r h a w ⟨β,S,hR⟩) fun e a w ⟨st,hR,hk⟩=>⟨_,hN _ _ _ _ hR,hk⟩) hO hA
def dkD:D->DK
 |.int k _=>.i k
 |.bool _=>.b
 |.str _=>.t
 |.sl s _=>.l s
def taD:D->TA
 |.int k _=>.i k
 |.bool _=>.b
 |.str _=>.t
 |.sl s _=>.l s
def zdT (tt:TT) (t:Nat):List D:=match look tt t with
 |some ti=>ti.zd
 |none=>[]
def stT (tt:TT) (t:Nat):Sp:=match look tt t with
 |some ti=>bif Vn ti.kd then .ag (ti.zd.map dkD) else match ti.zd with
  |d::_=>.d (dkD d)
  |[]=>.nil
 |none=>.nil
def sOf (tt:TT) (fn:Func):List Sp:=fn.params.toList.map (stT tt)
def rOf (tt:TT) (fn:Func):List Sp:=match fn.resultTypes.toList with
 |[t]=>[stT tt t]
 |l=>.tup l.length::l.map (stT tt)
def ovr {α:Type} (l:List α):List (Nat × α)->List α
 |[]=>l
 |(i,a)::r=>ovr (l.set i a) r
def btT (tt:TT) (t:Nat) (o:List (Nat × TA)):TO:=.box (ovr ((zdT tt t).map taD) o)
def ptT (tt:TT) (p t:Nat) (o:List (Nat × Sp)) (r:List Sp):List Sp:=.ptr p (zdT tt t).length::(ovr ((zdT tt t).map fun d=>.d (dkD d)) o++r)
def ssK:DK->Nat
 |.l s=>s
 |_=>0
def ssR:List Sp->List (List Nat)
 |[]=>[]
 |.d k::r=>[ssK k]::ssR r
 |.ag l::r=>l.map ssK::ssR r
 |_::r=>ssR r
def rsB:List Sp->List (Nat × Nat × Nat)->List (Nat × List Sp)->List (Nat × List Sp)
 |[],_,a=>a
 |s::r,c,a=>match c.dropWhile fun x=>Nat.beq x.2.1 0 with
  |[]=>match s with
   |.ptr p n=>rsB r [(p,n,0)] (a++[(p,[])])
   |_=>rsB r [] a
  |(q,m,i)::c=>match s with
   |.ptr p n=>rsB r ((p,n,0)::(q,m-1,i+1)::c) (add q (.ps p) a++[(p,[])])
   |.arr _ e z=>rsB r ((q,m-1,i+1)::c) (add q (.arr (98000+(q-1000000)*40+i) e z) a)
   |s=>rsB r ((q,m-1,i+1)::c) (add q s a)
where add (q:Nat) (s:Sp):List (Nat × List Sp)->List (Nat × List Sp)
 |[]=>[]
 |(p,l)::r=>bif Nat.beq p q then (p,l++[s])::r else (p,l)::add q s r
def rsM:List Sp->List Sp
 |[]=>[]
 |.mp p t::r=>.pinm p t::rsM r
 |_::r=>rsM r
def rsG:List Sp->List Sp
 |[]=>[]
 |.arr p _ _::r=>.gone p::rsG r
 |_::r=>rsG r
def N4 (rs S:List Sp) (o:List (Nat × Sp)):List Sp:=ovr (rs++((rsB S [] []).flatMap (fun x=>.pin x.1 x.2.length::x.2)++(rsM S++rsG S))) o
def Q2Q:List (Nat × OK)->List Nat
 |[]=>[]
 |(_,.gone)::r=>Q2Q r
 |(p,_)::r=>bif Nat.ble 1000000 p then Q2Q r else p::Q2Q r
def ky1 (k:Nat) (c:List (Nat × Nat × Nat)):Sp->List Nat × List (Nat × Nat × Nat)
 |.ptr p n=>([],(p,n,0)::c)
 |.pin p n=>([],[(p,n,0)])
 |.fn _ n=>([],(0,n,0)::c)
 |.agn n=>([],(0,n,0)::c)
 |.ag ks=>(ks.map fun _=>0,c)
 |.d _=>([k],c)
 |.arr _ _ _=>([k],c)
 |.mp _ _=>([k],c)
 |.pinm _ _=>([0],[])
 |.pina _ _ _=>([0],[])
 |.tup _=>([],[])
 |_=>([],c)
def kyT:List (Nat × Nat × Nat)->Nat × List (Nat × Nat × Nat)
 |[]=>(0,[])
 |(q,m,i)::c=>(q*1000+i,(q,m-1,i+1)::c)
def kyS:List Sp->List (Nat × Nat × Nat)->List Nat
 |[],_=>[]
 |s::r,c=>(ky1 (kyT (c.dropWhile fun x=>Nat.beq x.2.1 0)).1 (kyT (c.dropWhile fun x=>Nat.beq x.2.1 0)).2 s).1++kyS r (ky1 (kyT (c.dropWhile fun x=>Nat.beq x.2.1 0)).1 (kyT (c.dropWhile fun x=>Nat.beq x.2.1 0)).2 s).2
def Qik (x:Nat):Nat->List Nat->Nat
 |_,[]=>0
 |j,k::r=>bif Nat.beq k x then j else Qik x (j+1) r
def Qg5 (ks:List Nat):List Nat->Nat->List Nat
 |[],_=>[]
 |x::r,q=>(bif Nat.beq (q % 2) 1 then Qik x 1 ks else 0)::Qg5 ks r (q / 2)
def dlF (RS:List Sp) (σ ρ:List (Nat × Nat)) (ls:List Lf):Dl:=⟨Uk σ ((bdS RS ls).1.headD .top),MP σ (bdS RS ls).2 σ,ρ.map (·.2)⟩
theorem Ba {f:Nat} {fn:Func} {S RS:List Sp} {ν:List Nat} (hs:Q0w S RS ν=true) {avs:List AV} {hl:Nat->Option Ob} {ρ:List (Nat × Nat)} {site:Nat} {v:HL (lts S)} (hk:ρ.map (·.1)=(KH S).map (·.1)) (hnew:N7 hl ρ (nus site 1 ν)=true)
  (hc : ∀ ρF, (∀ p l, (p, l) ∈ [] ++ ρ -> look ρF p = some l) -> SRL ρF avs (bdS S (toL _ v)).1 /\ HinP ρF hl (KH S) (bdS S (toL _ v)).2 ρ) (hf : P.funcs[f]? = some fn) (hb : fn.body.isSome = true) (hn : (fn.name == "runtime.NumGoroutine") = false)
  {α:Type} {K:AV->List (Nat × Ob)->Option α} {res:α} {full:List Lf} (hK:∀ av H',K av H'=some res->rdR (look H') RS [av]=some full)
  (hlen:∀ (p e s:Nat) (rows':List (List D)) (e0 s0:Nat) (rows:List (List D)),(p,Ob.arr e s rows')∈(bdS RS full).2->look (bdS S (toL _ v)).2 p=some (.arr e0 s0 rows)->rows'.length=rows.length)
  (hcall:∀ (β:Nat->Option Nat) (S':Nat->Prop) (w:World) (vs:List Value),Objs β S' (look (bdS S (toL _ v)).2) w->ArgsRd β S' (look (bdS S (toL _ v)).2) w vs (bdS S (toL _ v)).1->Calls P f vs.toArray w (N9 (bdS S (toL _ v)).2 K res β S' w)) :
  ZZ P f avs hl (dlF RS (ρ++nus site 1 ν) ρ full):=by
 simp only [Q0w,Ql8,List.all_eq_true,Bool.or_eq_true,Qlb] at hs;obtain ⟨s1,s2,s3,s4,s5,s6⟩:=hs;have hnd:X4 (ρ.map (·.1))=true:=by rw [hk];exact s2
 obtain ⟨c1,c2⟩:=hc ρ (fun p l hm=>LM hnd (by simpa using hm));have hkeys:=c2.map1;have inS:∀ {j l:Nat},(j,l)∈ρ->∃ κ,(j,κ)∈KH S:=fun hm=>by
  obtain ⟨κ,_,_,g1,_⟩:=c2.at hnd hm;exact ⟨κ,g1⟩
 have inR:∀ {j l:Nat},(j,l)∈ρ++nus site 1 ν->∃ κ,(j,κ)∈KH RS:=fun {j l} hm=>by
  rcases List.mem_append.1 hm with hm | hm
  ·obtain ⟨κ,g1⟩:=inS hm;exact F7 (s5 _ g1).1
  ·have:j∈ν:=by rw [<- B3 site 1 ν];exact List.mem_map.2 ⟨_,hm,rfl⟩
   exact F7 (s6 _ this).1
 refine Q1m (fn:=fn) (ρ:=ρ) (ν:=nus site 1 ν) (avs':=(bdS S (toL _ v)).1) (H:=(bdS S (toL _ v)).2) (K:=K) (res:=res) hf hb hn c1.cle (by rw [List.map_append,B3,hk];exact s1) hnd hnew (Q8u fun j l hm=>?_) hkeys.1 (by simp only [wrL,dlF];exact Bp _ _ _) hcall (fun av H' hx=>?_)
 ·obtain ⟨κ,o,o0,g1,g2,g3,g4,_⟩:=c2.at hnd hm;exact ⟨Nat.le_of_ble_eq_true (s3 _ g1),o0,o,g3,g2,g4⟩
 ·obtain ⟨i1,i2⟩:=Q6s _ _ _ (hK av H' hx);have hat:∀ j l,(j,l)∈ρ++nus site 1 ν->look (bdS RS full).2 j=look H' j:=fun j l hm=>by
   obtain ⟨κ,g1⟩:=inR hm;exact (i2.at s4 g1).1
  refine ⟨by simp only [dlF];rw [i1];rfl,?_,Qa5 fun j l hm=>?_,Q8v fun j l hm=>?_⟩
  ·exact (AA hat).symm
  ·have hj:j∈ν:=by rw [<- B3 site 1 ν];exact List.mem_map.2 ⟨_,hm,rfl⟩
   obtain ⟨κ,g1⟩:=F7 (s6 _ hj).1;rcases (i2.at s4 g1).2 with ⟨rfl,_⟩ | ⟨o,ho,_⟩
   ·rcases (s6 _ hj).2 _ g1 with g | g
    ·simp [Nat.beq_refl] at g
    ·cases g
   ·rw [ho];rfl
  ·obtain ⟨κ,o,o0,g1,g2,g3,g4,g5⟩:=c2.at hnd hm;obtain ⟨κ',g6⟩:=F7 (s5 _ g1).1;have he:Qi4 κ κ'=true:=by
    rcases (s5 _ g1).2 _ g6 with g | g
    ·simp [Nat.beq_refl] at g
    ·exact g
   rw [g2];rcases (i2.at s4 g6).2 with ⟨rfl,hno⟩ | ⟨o',ho',hk'⟩
   ·cases κ <;> try (cases he;done)
    ·cases o <;> try (exact False.elim g5)
     exact Q7V rfl hno
    ·cases o <;> try (exact False.elim g5)
     exact Q56 rfl hno
   ·cases κ <;> cases κ' <;> try (cases he;done)
    ·cases o <;> try (exact False.elim g5)
     cases o' <;> try (exact False.elim hk')
     have he:=Ql7 he;simp only [KOb] at g5 hk';exact Qaf rfl ho' (by omega)
    ·cases o <;> try (exact False.elim g5)
     cases o' <;> try (exact False.elim hk')
     simp only [Qi4,Ql8] at he;have e1:=Ql7 he.1;have e2:=Ql7 he.2;obtain ⟨rfl,rfl⟩:=g5;obtain ⟨rfl,rfl⟩:=hk';subst e1 e2;exact Q7J rfl ho' (hlen _ _ _ _ _ _ _ (Yq ((i2.at s4 g6).1.trans ho')) g2)
    ·cases o' <;> exact False.elim hk'
    ·cases o <;> try (exact False.elim g5)
     cases o' <;> try (exact False.elim hk')
     have he:=Ql7 he;simp only [KOb] at g5 hk';subst g5;subst hk';subst he;exact Q9g rfl ho'
    ·cases o' <;> exact False.elim hk'
def Q96:List Nat->List Lf->List Lf
 |0::s,x::l=>x::Q96 s l
 |(_+1)::s,_::l=>Q96 s l
 |_,_=>[]
theorem Q2j (hs as:List Lf):∀ (ts:List LT) (s:List Nat) (q:List Lf),s.length=ts.length->q.length=(Qbp ts s).length->Q96 s (Qav hs as s q)=q
 |[],[],q,_,h=>by
  cases q with
  |nil=>rfl
  |cons x q=>cases h
 |t::ts,0::s,q,h1,h2=>by
  cases q with
  |nil=>cases h2
  |cons x q=>exact congrArg (x::·) (Q2j hs as ts s q (Nat.succ.inj h1) (Nat.succ.inj h2))
 |t::ts,(j+1)::s,q,h1,h2=>by
  have:=Q2j hs as ts s q (Nat.succ.inj h1) h2;simp only [Qav];cases Nat.ble 999 j <;> simpa [Q96] using this
theorem Q8t:∀ (ts:List LT) (v:HT ts),(toT ts v).length=ts.length
 |[],_=>rfl
 |[t],_=>rfl
 |t::u::ts,v=>congrArg (· + 1) (Q8t (u::ts) v.2)
theorem Q9f (t:LT) (x:t.ty):Q8p t (QaN t x)=some x:=by cases t <;> rfl
theorem Q94:∀ (ts:List LT) (v:HT ts),ofT ts (toT ts v)=some v
 |[],_=>rfl
 |[t],v=>Q9f t v
 |t::u::ts,v=>by
  show (match Q8p t (QaN t v.1),ofT (u::ts) (toT (u::ts) v.2) with | some a,some b=>some (a,b) | _,_=>none)=some v;rw [Q9f,Q94 (u::ts)];rfl
theorem QcG {β:Type}:∀ (ts:List LT) (G:List Lf->β) (k:HT ts->β),(∀ r,G (toT ts r)=k r)->crL ts G=crT ts k
 |[],G,k,h=>h ()
 |[t],G,k,h=>funext fun x=>h x
 |t::u::ts,G,k,h=>funext fun x=>QcG (u::ts) (fun l=>G (QaN t x::l)) (fun r=>k (x,r)) fun r=>h (x,r)
def drT:List LT->Nat->List LT
 |[],_=>[]
 |t::ts,a=>bif Nat.beq (a % 2) 1 then drT ts (a / 2) else t::drT ts (a / 2)
def drL:List Lf->Nat->List Lf
 |[],_=>[]
 |x::xs,a=>bif Nat.beq (a % 2) 1 then drL xs (a / 2) else x::drL xs (a / 2)
def FT (S:List Sp) (a:Nat) (rs:List LT) (R:Type):Type:=LF (drT (lts S) a) (LF rs (Option R)->Option R)
def apF {S:List Sp} {a:Nat} {rs:List LT} {R:Type} (F:FT S a rs R) (ls:List Lf) (K:LF rs (Option R)):Option R:=match apO _ F (drL ls a) with
 |some p=>p K
 |none=>none
def pF {S:List Sp} {a:Nat} {rs:List LT} (F:FT S a rs (HT rs)):LF (lts S) (Option (HT rs)):=crL (lts S) fun ls=>apF F ls (crT rs some)
theorem Q9l {β:Type}:∀ (ts:List LT) (G:List Lf->β) (v:HL ts),apH ts (crL ts G) v=G (toL ts v)
 |[],_,_=>rfl
 |t::ts,G,v=>Q9l ts (fun l=>G (QaN t v.1::l)) v.2
def kW {α:Type} (RS:List Sp) (K:List Lf->Option α):AV->List (Nat × Ob)->Option α:=fun av H=>match rdR (look H) RS [av] with
 |some ls=>K ls
 |none=>none
def QiW (S RS:List Sp) (s:List Nat) (f:LF (lts S) (Option (HT (Qbp (lts RS) s)))):PV:=fun _ ac g aj hl k=>
 rdP g hl S aj [] fun ls ρ=>bif N7 hl ρ (nus ac 1 (Q2Q (KH RS))) then gb g (apL (lts S) f ls) (zT _) fun r=>QbY g (bdS S ls).2 (bdS RS (Qav ls [] s (toT _ r))).2 (k (dlF RS (ρ++nus ac 1 (Q2Q (KH RS))) ρ (Qav ls [] s (toT _ r)))) else none
theorem QdW {C:VC} (hC:VCOk P C) (T:List (LpE P)) {f:Nat} (fn:Func) (S RS:List Sp) (s:List Nat) (a:Nat) (F:(R:Type)->FT S a (Qbp (lts RS) s) R)
  (h:∀ (α:Type) (K:List Lf->Option α) (v:HL (lts S)),Qer C T (nR C.tt RS fn.results.toList) fn (bdS S (toL _ v)).1 (bdS S (toL _ v)).2 (kW RS K)=apF (F α) (toL _ v) (crL _ fun as=>K (Qav (toL _ v) [] s as)))
  (hfn : ∀ v : HL (lts S), CV S (toL _ v) = true) (hl : Nat.beq s.length (lts RS).length = true) (hs : Q0w S RS (Q2Q (KH RS)) = true) (hf : P.funcs[f]? = some fn) (hb : fn.body.isSome = true) (hn : (fn.name == "runtime.NumGoroutine") = false)
  (hT:M6 T (WZ (VY fn))=T.map fun e=>(e.r,e.c)) (hn2:X4 (T.map (·.r))=true):VR P f (QiW S RS s (pF (F _))):=by
 intro R site g avs hl' k r h0;obtain ⟨ls,ρ,h1,hk,hc⟩:=Q2n S avs [] _ r h0;rw [List.nil_append] at h1;obtain ⟨hnew,h1⟩:=XL h1;obtain ⟨res,h1,hres⟩:=QP h1;obtain ⟨h1,hlen⟩:=HD h1;refine ⟨_,h1,fun hg=>?_⟩;obtain ⟨v,hv,rfl⟩:=Mu _ _ _ _ (hres hg);rw [pF,Q9l] at hv;let M (q:List Lf):=Qav (toL _ v) [] s q;let K:List Lf->Option (HT (Qbp (lts RS) s)):=fun full=>open Classical in match ofT _ (Q96 s full) with
  |some r=>if full=M (toT _ r) then some r else none
  |none=>none
 have hK:∀ r,K (M (toT _ r))=some r:=fun r=>by
  simp only [K,M,Q2j _ _ (lts RS) s _ (Ql7 hl) (Q8t _ r),Q94,if_true]
 refine Ba hs hk hnew (hc hg (hfn v)) hf hb hn (fun av H' hx=>?_) (hlen hg) (Dt hC (fun _ _ _ _=>Pk _) hf hT hn2 ((h _ K v).trans (by rw [QcG _ (fun as=>K (M as)) _ hK];exact hv)));unfold kW at hx;split at hx
 ·rename_i ls hls;rw [hls];simp only [K] at hx;split at hx
  ·split at hx
   ·rename_i r' _ he;injection hx with hx
    subst hx;rw [he]
   ·cases hx
  ·cases hx
 ·cases hx
def mkW {C:VC} (hC:VCOk P C) (T:List (LpE P)) (f:Nat) (fn:Func) (S rs:List Sp) (o:List (Nat × Sp)) (a q:Nat) {τ:Type->Type} (F:(R:Type)->Nat->τ R) (n:Nat)
  (hτ:∀ R,τ R=FT S a (Qbp (lts (N4 rs S o)) (Qg5 (kyS S []) (kyS (N4 rs S o) []) q)) R:=by intro R;kernel_rfl)
  (h:∀ (α:Type) (K:List Lf->Option α) (v:HL (lts S)),Qer C T (nR C.tt (N4 rs S o) fn.results.toList) fn (bdS S (toL _ v)).1 (bdS S (toL _ v)).2 (kW (N4 rs S o) K)=apF (S:=S) (a:=a) (rs:=Qbp (lts (N4 rs S o)) (Qg5 (kyS S []) (kyS (N4 rs S o) []) q)) (cast (hτ α) (F α n)) (toL _ v) (crL _ fun as=>K (Qav (toL _ v) [] (Qg5 (kyS S []) (kyS (N4 rs S o) []) q) as)):=by intro α K v;kernel_rfl)
  (hfn : ∀ v : HL (lts S), CV S (toL _ v) = true := by intro v; kernel_rfl) (hl : Nat.beq (Qg5 (kyS S []) (kyS (N4 rs S o) []) q).length (lts (N4 rs S o)).length = true := by kernel_rfl) (hs : Q0w S (N4 rs S o) (Q2Q (KH (N4 rs S o))) = true := by kernel_rfl) (hf : P.funcs[f]? = some fn := by kernel_rfl) (hb : fn.body.isSome = true := by kernel_rfl) (hn : (fn.name == "runtime.NumGoroutine") = false := by kernel_rfl)
  (hT:M6 T (WZ (VY fn))=T.map fun e=>(e.r,e.c):=by kernel_rfl) (hn2:X4 (T.map (·.r))=true:=by kernel_rfl):EnP P f:=
 ⟨_,QdW hC T fn S (N4 rs S o) _ a (fun R=>cast (hτ R) (F R n)) h hfn hl hs hf hb hn hT hn2⟩
def mkF {C:VC} (hC:VCOk P C) (T:List (LpE P)) (f:Nat) (fn:Func) (S RS:List Sp) (a:Nat) {τ:Type->Type} (F:(R:Type)->Nat->τ R) (n:Nat) (hτ:∀ R,τ R=FT S a (lts RS) R:=by intro R;kernel_rfl)
  (h : ∀ v, vfnT C T fn (bdS S (toL _ v)).1 [] (retF (ssR RS) (kE RS)) = apH _ (pF (cast (hτ _) (F _ n))) v := by intro v; kernel_rfl) (hd : Rf S = true := by kernel_rfl) (hf : P.funcs[f]? = some fn := by kernel_rfl) (hb : fn.body.isSome = true := by kernel_rfl) (hn : (fn.name == "runtime.NumGoroutine") = false := by kernel_rfl)
  (hT:M6 T (WZ (VY fn))=T.map fun e=>(e.r,e.c):=by kernel_rfl) (hn2:X4 (T.map (·.r))=true:=by kernel_rfl):EnP P f:=
 ⟨_,Qea hC T fn (ssR RS) S RS (pF (cast (hτ _) (F _ n))) h hd hf hb hn hT hn2⟩
def mkD {C:VC} (hC:VCOk P C) (T:List (LpE P)) (f:Nat) (fn:Func) (a:Nat) {τ:Type->Type} (F:(R:Type)->Nat->τ R) (n:Nat) (hτ:∀ R,τ R=FT (sOf C.tt fn) a (lts (rOf C.tt fn)) R:=by intro R;kernel_rfl)
  (h : ∀ v, vfnT C T fn (bdS (sOf C.tt fn) (toL _ v)).1 [] (retF (ssR (rOf C.tt fn)) (kE (rOf C.tt fn))) = apH _ (pF (cast (hτ _) (F _ n))) v := by intro v; kernel_rfl) (hd : Rf (sOf C.tt fn) = true := by kernel_rfl) (hf : P.funcs[f]? = some fn := by kernel_rfl) (hb : fn.body.isSome = true := by kernel_rfl) (hn : (fn.name == "runtime.NumGoroutine") = false := by kernel_rfl)
  (hT:M6 T (WZ (VY fn))=T.map fun e=>(e.r,e.c):=by kernel_rfl) (hn2:X4 (T.map (·.r))=true:=by kernel_rfl):EnP P f:=mkF hC T f fn (sOf C.tt fn) (rOf C.tt fn) a F n hτ h hd hf hb hn hT hn2
def FX (S:List Sp) (a:Nat) (ra rb:List LT) (R:Type):Type:=LF (drT (lts S) a) (LF ra (Option R)->LF rb (Option R)->Option R)
def pX {S:List Sp} {a:Nat} {ra rb:List LT} (F:FX S a ra rb (HT ra ⊕ HT rb)):LF (lts S) (Option (HT ra ⊕ HT rb)):=crL (lts S) fun ls=>match apO _ F (drL ls a) with
 |some p=>p (crT ra fun x=>some (.inl x)) (crT rb fun x=>some (.inr x))
 |none=>none
def kX (RA RB:List Sp):AV->List (Nat × Ob)->Option (HT (lts RA) ⊕ HT (lts RB)):=fun av H=>match kG RA av H with
 |some a=>some (.inl a)
 |none=>match kG RB av H with
  |some b=>some (.inr b)
  |none=>none
theorem Q5F {RS:List Sp} {av:AV} {H:List (Nat × Ob)} {r:HT (lts RS)} (h:kG RS av H=some r):rdR (look H) RS [av]=some (toT _ r):=by
 grind [kG,Q1K]
def nX (tt:TT) (RA RB:List Sp) (rs:List ResultVar) (st:St):St:=bif match Q2e tt (nR tt RB rs st) rs with
  |some av=>(rdR (look (nR tt RB rs st).h) RB [av]).isSome
  |none=>false
 then nR tt RB rs st else nR tt RA rs st
def Qja (S RA RB:List Sp) (f:LF (lts S) (Option (HT (lts RA) ⊕ HT (lts RB)))):PV:=fun _ ac g aj hl k=>
 rdP g hl S aj [] fun ls ρ=>bif N7 hl ρ (nus ac 1 (Q2Q (KH RA)))&&N7 hl ρ (nus ac 1 (Q2Q (KH RB))) then gb g (apL (lts S) f ls) (.inl (zT _)) fun r=>
  smX r (fun a=>QbY g (bdS S ls).2 (bdS RA (toT _ a)).2 (k (dlF RA (ρ++nus ac 1 (Q2Q (KH RA))) ρ (toT _ a)))) (fun b=>QbY g (bdS S ls).2 (bdS RB (toT _ b)).2 (k (dlF RB (ρ++nus ac 1 (Q2Q (KH RB))) ρ (toT _ b)))) else none
theorem Qdv {C:VC} (hC:VCOk P C) (T:List (LpE P)) {f:Nat} (fn:Func) (S RA RB:List Sp) (p:LF (lts S) (Option (HT (lts RA) ⊕ HT (lts RB))))
  (h:∀ v,Qer C T (nX C.tt RA RB fn.results.toList) fn (bdS S (toL _ v)).1 (bdS S (toL _ v)).2 (kX RA RB)=apH _ p v)
  (hfn : ∀ v : HL (lts S), CV S (toL _ v) = true) (hs : (Q0w S RA (Q2Q (KH RA)) && Q0w S RB (Q2Q (KH RB))) = true) (hf : P.funcs[f]? = some fn) (hb : fn.body.isSome = true) (hn : (fn.name == "runtime.NumGoroutine") = false)
  (hT:M6 T (WZ (VY fn))=T.map fun e=>(e.r,e.c)) (hn2:X4 (T.map (·.r))=true):VR P f (Qja S RA RB p):=by
 intro R site g avs hl' k r h0;obtain ⟨ls,ρ,h1,hk,hc⟩:=Q2n S avs [] _ r h0;rw [List.nil_append] at h1;obtain ⟨hnew,h1⟩:=XL h1;simp only [Ql8] at hnew hs;obtain ⟨res,h1,hres⟩:=QP h1;have hN:∀ (E:Env) (st:St) (a:Act) (w:World),HG E st a w->HG E (nX C.tt RA RB fn.results.toList st) a w:=fun E st a w hR=>by
  grind [nX,Q2e,nR,rdR,look,Pk]
 have key:g=true->∃ v,ls=toL (lts S) v/\∀ (β:Nat->Option Nat) (S':Nat->Prop) (w:World) (vs:List Value),Objs β S' (look (bdS S (toL _ v)).2) w->ArgsRd β S' (look (bdS S (toL _ v)).2) w vs (bdS S (toL _ v)).1->Calls P f vs.toArray w (N9 (bdS S (toL _ v)).2 (kX RA RB) res β S' w):=fun hg=>by
  obtain ⟨v,hv,rfl⟩:=Mu _ _ _ _ (hres hg);exact ⟨v,rfl,Dt hC hN hf hT hn2 ((h v).trans hv)⟩
 cases res with
 |inl a=>
  obtain ⟨h1,hlen⟩:=HD h1;refine ⟨_,h1,fun hg=>?_⟩;obtain ⟨v,rfl,hcall⟩:=key hg;refine Ba hs.1 hk hnew.1 (hc hg (hfn v)) hf hb hn (fun av H' hx=>?_) (hlen hg) hcall;unfold kX at hx;split at hx
  ·rename_i a' ha;injection hx with hx
   injection hx with hx
   subst hx;exact Q5F ha
  ·split at hx <;> cases hx
 |inr b=>
  obtain ⟨h1,hlen⟩:=HD h1;refine ⟨_,h1,fun hg=>?_⟩;obtain ⟨v,rfl,hcall⟩:=key hg;refine Ba hs.2 hk hnew.2 (hc hg (hfn v)) hf hb hn (fun av H' hx=>?_) (hlen hg) hcall;unfold kX at hx;split at hx
  ·cases hx
  ·split at hx
   ·rename_i b' hb';injection hx with hx
    injection hx with hx
    subst hx;exact Q5F hb'
   ·cases hx
def mkX {C:VC} (hC:VCOk P C) (T:List (LpE P)) (f:Nat) (fn:Func) (S RA RB:List Sp) (a:Nat) {τ:Type->Type} (F:(R:Type)->Nat->τ R) (n:Nat) (hτ:∀ R,τ R=FX S a (lts RA) (lts RB) R:=by intro R;kernel_rfl)
  (h:∀ v,Qer C T (nX C.tt RA RB fn.results.toList) fn (bdS S (toL _ v)).1 (bdS S (toL _ v)).2 (kX RA RB)=apH _ (pX (cast (hτ _) (F _ n))) v:=by intro v;kernel_rfl)
  (hfn : ∀ v : HL (lts S), CV S (toL _ v) = true := by intro v; kernel_rfl) (hs : (Q0w S RA (Q2Q (KH RA)) && Q0w S RB (Q2Q (KH RB))) = true := by kernel_rfl) (hf : P.funcs[f]? = some fn := by kernel_rfl) (hb : fn.body.isSome = true := by kernel_rfl) (hn : (fn.name == "runtime.NumGoroutine") = false := by kernel_rfl)
  (hT:M6 T (WZ (VY fn))=T.map fun e=>(e.r,e.c):=by kernel_rfl) (hn2:X4 (T.map (·.r))=true:=by kernel_rfl):EnP P f:=
 ⟨_,Qdv hC T fn S RA RB (pX (cast (hτ _) (F _ n))) h hfn hs hf hb hn hT hn2⟩
end
section
variable {P:Program}
def Qfz (S RS:List Sp) (p:LF (lts S) (Option (HT (lts RS)))):PV:=fun _ ac g aj hl k=>
 rdP g hl S aj [] fun ls ρ=>bif N7 hl ρ (nus ac 1 (Q2Q (KH RS))) then gb g (apL (lts S) p ls) (zT _) fun r=>QbY g (bdS S ls).2 (bdS RS (toT _ r)).2 (k (dlF RS (ρ++nus ac 1 (Q2Q (KH RS))) ρ (toT _ r))) else none
theorem Qac {f:Nat} (fn:Func) (S RS:List Sp) (p:LF (lts S) (Option (HT (lts RS))))
  (h:∀ (v:HL (lts S)) (r:HT (lts RS)),apH _ p v=some r->∀ (β:Nat->Option Nat) (S':Nat->Prop) (w:World) (vs:List Value),Objs β S' (look (bdS S (toL _ v)).2) w->ArgsRd β S' (look (bdS S (toL _ v)).2) w vs (bdS S (toL _ v)).1->Calls P f vs.toArray w (N9 (bdS S (toL _ v)).2 (kG RS) r β S' w))
  (hfn : ∀ v : HL (lts S), CV S (toL _ v) = true) (hs : Q0w S RS (Q2Q (KH RS)) = true) (hf : P.funcs[f]? = some fn) (hb : fn.body.isSome = true) (hn : (fn.name == "runtime.NumGoroutine") = false) : VR P f (Qfz S RS p) := by
 intro R site g avs hl' k r h0;obtain ⟨ls,ρ,h1,hk,hc⟩:=Q2n S avs [] _ r h0;rw [List.nil_append] at h1;obtain ⟨hnew,h1⟩:=XL h1;obtain ⟨res,h1,hres⟩:=QP h1;obtain ⟨h1,hlen⟩:=HD h1;refine ⟨_,h1,fun hg=>?_⟩;obtain ⟨v,hv,rfl⟩:=Mu _ _ _ _ (hres hg);exact Ba hs hk hnew (hc hg (hfn v)) hf hb hn (fun av H' hx=>Q5F hx) (hlen hg) (h v res hv)
theorem Qeb {C:VC} (hC:VCOk P C) (T:List (LpE P)) {f:Nat} (fn:Func) (S RS:List Sp) (p:LF (lts S) (Option (HT (lts RS))))
  (h:∀ v:HL (lts S),Qer C T (nR C.tt RS fn.results.toList) fn (bdS S (toL _ v)).1 (bdS S (toL _ v)).2 (kG RS)=apH _ p v)
  (hfn : ∀ v : HL (lts S), CV S (toL _ v) = true) (hs : Q0w S RS (Q2Q (KH RS)) = true) (hf : P.funcs[f]? = some fn) (hb : fn.body.isSome = true) (hn : (fn.name == "runtime.NumGoroutine") = false)
  (hT:M6 T (WZ (VY fn))=T.map fun e=>(e.r,e.c)) (hn2:X4 (T.map (·.r))=true):VR P f (Qfz S RS p):=
 Qac fn S RS p (fun v r hv=>Dt hC (fun _ _ _ _=>Pk _) hf hT hn2 ((h v).trans hv)) hfn hs hf hb hn
end
section
variable {P:Program}
theorem Q5V {M:Nat->Prop} {w w':World} (h:RowKit.Below w.heap.size w w'):Fr M w w':=⟨h.os,h.tape,h.output,h.size,fun b hb _=>h.block b hb⟩
theorem Q80 {β:Nat->Option Nat} {S:Nat->Prop} {h:Nat->Option Ob} {w:World} {args:List Value} {a:AV} (hA:ArgsRd β S h w args [a]):∃ v,args=[v]/\RdA β S h w tm0 v a:=by
 obtain ⟨h1,h2⟩:=hA
 match args,h1 with
 |[v],_=>exact ⟨v,rfl,h2 0 v a rfl rfl⟩
end
end Go.Vx
