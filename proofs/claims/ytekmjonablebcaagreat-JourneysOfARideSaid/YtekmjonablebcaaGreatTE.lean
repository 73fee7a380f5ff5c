/- Part of a proof. No conditions of their own. -/
import Derived.Test.YtekmjonablebcaaGreatTD
import Derived.Test.YtekmjonablebcaaGreatTB
set_option linter.unusedVariables false
set_option linter.unusedSimpArgs false
noncomputable section
abbrev QqA:=@List.getElem?_cons_zero
abbrev QqB:=@List.getElem?_cons_succ
abbrev QqC:=@Int.toNat_natCast
abbrev QqD:=@cond_false
abbrev QqE:=@cond_true
abbrev QqF:=@List.getElem?_eq_getElem
abbrev QqG:=@Bool.not_false
abbrev QqH:=@Bool.not_true
abbrev QqI:=@List.getElem?_eq_some_iff
abbrev QqJ:=@if_pos
abbrev QqK:=@List.getD_eq_getElem?_getD
abbrev QqL:=@if_neg
abbrev QqM:=@decide_eq_false
abbrev QqN:=@decide_eq_true
abbrev QqO:=@List.getElem_mem
abbrev QqP:=@List.length_map
abbrev QqQ:=@Nat.le_refl
abbrev QqR:=@Nat.add_sub_cancel
abbrev QqS:=@List.getElem?_append_right
abbrev QqT:=@Int.eq_ofNat_of_zero_le
abbrev QqU:=@List.getElem?_append_left
abbrev QqV:=@List.getElem?_map
abbrev QqW:=@Int.tmod_eq_emod_of_nonneg
abbrev QqX:=@List.mem_append
abbrev QqY:=@List.length_cons
abbrev QqZ:=@Option.getD_some
abbrev Qr0:=@Int.tdiv_eq_ediv_of_nonneg
abbrev Qr1:=@List.length_nil
abbrev Qr2:=@List.map_append
abbrev Qr3:=@Bool.and_eq_true
abbrev Qr4:=@List.take_length
abbrev Qr5:=@List.filter_cons
abbrev Qr6:=@List.length_append
abbrev Qr7:=@List.getElem?_eq_none
abbrev Qr8:=@Nat.le_of_ble_eq_true
namespace Go.Vx
def nmS(k:Nat):Y D:=[D.str (bs [83]++[UInt8.ofNat (48+k)])]
theorem Xz{f:Nat->NL->Y D}:∀{c:Nat} {x:Y NL},x.length=c->(YN f c x).length=c
 |0,[],_=>rfl
 |c+1,a::x,h=>by simp[YN];exact Xz (by simpa using h)
section
variable{R:Type} {m:Nat} {l:Y Int} (hl:l.length<=9223372036854775807) {P:R->Prop}
include hl
theorem FP{a:Int}{i k j:Nat}{b d e:LL}{k0:Int->Bool->LL->LL->LL->Int->oP R}{n:Nat}(hi:i<10)(hw:(i:Int)<a)(hk:d.length=k)(g:k<=400)(f:b.length<=400)(h2:e.length<=400)(hj:j<=l.length)(H:∀(c:Nat) (x:Y NL) (j:Nat),(c=1\/c=2)->Hp x->x.length=c->j<=l.length ->
   UL (m+3) a (encI l) k0 n ((i+1:Nat):Int) (b++[nmS i]) (d++YN (secT i) c x) (e++[[D.sl 1 (Wg (ups k c))]]) (j:Int)∈P) :
  UL (m+3) a (encI l) k0 (n+1) (i:Int) b d e (j:Int)∈P:=by
 unfold UL;rw[Xi Q3,BO _ _ i hi Q1,Qh,XM Q3,Qh];refine VI hl hj Q1 Q1 λv j h f hj=>?_
 obtain⟨c,hc,hv⟩:∃c:Nat,(c=1\/c=2)/\wJ (1+v)=(c:Int):=by
  rcases two h f with rfl | rfl
  ·exact⟨1,.inl rfl,rfl⟩
  ·exact⟨2,.inr rfl,rfl⟩
 dsimp only;rw[hv];refine Qfd hl hi hc hk g hj λx j hx aa hj=>?_
 rw[XM Q3,Qh,Qo (x:=(i:Int)+1) I I];exact H c x j hc hx aa hj
omit hl in
theorem r7e{n m:Nat}{b a:Int}{g c d e:LL}{f:Int}{k0:Int->Bool->LL->LL->LL->Int->oP R}(h:¬ a<b) :
  UL n b g k0 (m+1) a c d e f=k0 a false c d e f:=by
 rw[UL,Qq Q3];simp[h]
omit hl in
theorem Qk3{n m:Nat}{b a:Int}{i j c d e f:LL}{g:Int}{k0:Int->Bool->LL->LL->LL->LL->Int->oP R}(h:¬ wJ (a+1)<b) :
  Uw n b i j k0 (m+1) a c d e f g=k0 a false c d e f g:=by
 rw[Uw,Qq Q3];simp[h]
theorem QiR{i:Nat}(hi:i<=l.length){k0:LL->LL->LL->LL->LL->LL->Int->oP R}(H:∀(c0 c1 a:Nat) (b d e:Y NL) (j:Nat),(c0=1\/c0=2)->(c1=1\/c1=2)->(a=1\/a=2)->Hp b->Hp d->Hp e->b.length=c0->d.length=c1->e.length=a->j<=l.length ->
   k0 [nmS 0,nmS 1] (Q3F 0 c0++Q3F (pc c0) c1) ((YN (secT 0) c0 b++YN (secT 1) c1 d)++YN (secL 0) a e)
    ((inL (c0+c1) a++Q4p (c0+c1) false 0 0 c0)++Q4p (c0+c1+a-1) true (pc c0) c0 c1)
    [[D.sl 1 (Wg (ups 0 c0))],[D.sl 1 (Wg (ups c0 c1))]] [[D.sl 1 (Wg (ups (c0+c1) a))]] (j:Int)∈P) :
  UL (m+3) 2 (encI l) (λ_ _ r t h u=>
   Uw (m+3) 2 h (encI l) (λ_ _ v x y z aa=>k0 r v x y h z aa) (m+3) (0:Int) [] t [] [] u)
   (m+3) (0:Int) [] [] [] (i:Int)∈P:=by
 refine FP hl (i:=0) Q1 Q1 rfl Q1 Q1 Q1 hi λc0 b j n ab f hj=>?_
 refine FP hl (i:=1) (k:=c0) Q1 Q1 (by simp[Xz f]) I Q2 Q2 hj λc1 d j o ac q hj=>?_
 rw[r7e Q1];refine QiN hl (g:=0) (s:=c0+c1) (p:=0) (k:=0) (c:=c0) (k':=c0) (c':=c1) Q1 Q1 (by simp[Xz f,Xz q]) I rfl Q1 Q1 Q1 rfl rfl n o hj λa e j ad ae ai hj=>?_
 rw[Qk3 Q1];have:=H c0 c1 a b d e j n o ad ab ac ae f q ai hj;simpa[Nat.add_assoc]using this
theorem QiU{i:Nat}(hi:i<=l.length){k0:LL->LL->LL->LL->LL->LL->Int->oP R}(H:∀(c0 c1 a b d:Nat) (e f h n o:Y NL) (j:Nat),(c0=1\/c0=2)->(c1=1\/c1=2)->(a=1\/a=2)->(b=1\/b=2)->(d=1\/d=2)->Hp e->Hp f->Hp h->Hp n->Hp o->e.length=c0->f.length=c1->h.length=a->n.length=b->o.length=d->j<=l.length ->
   k0 [nmS 0,nmS 1,nmS 2] ((Q3F 0 c0++Q3F (pc c0) c1)++Q3F (pc c0+pc c1) c1++Q3F (pc c0+pc c1+pc c1) a)
    ((((YN (secT 0) c0 e++YN (secT 1) c1 f)++YN (secT 2) a h)++YN (secL 0) b n)++YN (secL 1) d o)
    (((inL (c0+c1+a) b++Q4p (c0+c1+a) false 0 0 c0)++Q4p (c0+c1+a+b-1) true (pc c0) c0 c1)++inL (c0+c1+a+b) d++Q4p (c0+c1+a+b) false (pc c0+pc c1) c0 c1++Q4p (c0+c1+a+b+d-1) true (pc c0+pc c1+pc c1) (c0+c1) a)
    [[D.sl 1 (Wg (ups 0 c0))],[D.sl 1 (Wg (ups c0 c1))],[D.sl 1 (Wg (ups (c0+c1) a))]] [[D.sl 1 (Wg (ups (c0+c1+a) b))],[D.sl 1 (Wg (ups (c0+c1+a+b) d))]] (j:Int)∈P) :
  UL (m+4) 3 (encI l) (λ_ _ aa ab v ac=>
   Uw (m+4) 3 v (encI l) (λ_ _ ad ae ag ah ai=>k0 aa ad ae ag v ah ai) (m+4) (0:Int) [] ab [] [] ac)
   (m+4) (0:Int) [] [] [] (i:Int)∈P:=by
 refine FP hl (m:=m+1) (i:=0) Q1 Q1 rfl Q1 Q1 Q1 hi λc0 e j x aj q hj=>?_
 refine FP hl (m:=m+1) (i:=1) (k:=c0) Q1 Q1 (by simp[Xz q]) I Q2 Q2 hj λc1 f j t ak r hj=>?_
 refine FP hl (m:=m+1) (i:=2) (k:=c0+c1) Q1 Q1 (by simp[Xz q,Xz r]) I Q2 Q2 hj λa h j y al u hj=>?_
 rw[r7e Q1];refine QiN hl (m:=m+1) (g:=0) (s:=c0+c1+a) (p:=0) (k:=0) (c:=c0) (k':=c0) (c':=c1) Q1 Q1 (by simp[Xz q,Xz r,Xz u,Nat.add_assoc]) I rfl Q1 Q1 Q1 rfl rfl x t hj λb n j am an z hj=>?_
 have b0:=@Qeo c0;have b1:=@Qeo c1;have f0:=@Q68 (c0+c1+a) b;have f1:=@Q3t (c0+c1+a) 0 0 c0 false;have f2:=@Q3t (c0+c1+a+b-1) (pc c0) c0 c1 true;refine QiN hl (m:=m+1) (g:=1) (s:=c0+c1+a+b) (p:=pc c0+pc c1) (k:=c0) (c:=c1) (k':=c0+c1) (c':=a) Q1 Q1 (by simp[Xz q,Xz r,Xz u,Xz z,Nat.add_assoc]) I (by simp[Q7i]) I Q3 Q2 rfl rfl t y hj λd o j ao ap aq hj=>?_
 rw[Qk3 Q1];have:=H c0 c1 a b d e f h n o j x t y am ao aj ak al an ap q r u z aq hj;simpa[Nat.add_assoc]using this
end
def QdA:oP Bool->Bool
 |some true=>true
 |_=>false
def Qk4:oP Bool->Bool
 |some false=>true
 |_=>false
def Q91:oP Int->Bool
 |some n=>n == 0
 |none=>false
theorem Mq{o:oP Bool}(h:QdA o=true):o=some true:=by
 match o,h with
 |some true,_=>rfl
theorem Qax{o:oP Bool}(h:Qk4 o=true):o=some false:=by
 match o,h with
 |some false,_=>rfl
theorem J4{o:oP Int}(h:Q91 o=true):o=some 0:=by
 match o,h with
 |some n,h=>simp only[Q91,beq_iff_eq]at h;rw[h]
end Go.Vx
namespace Go.Vx
variable{R:Type} (n:Nat)
def Qdl(aa:Y (Y UInt8))(s:Y UInt8):Bool:=Nat.ble s.length 12&&QdA (KW n s some)&&!(aa.contains s)
def Po :Y (Y UInt8)->LL->Bool
|_,[]=>true
|aa,row::r=>match row with
|[D.str s]=>Qdl n aa s&&Po (s::aa) r
|_=>false
def PO(l0 l1 l2 e:LL):Y (Y UInt8)->LL->Bool
|_,[]=>true
|aa,row::r=>match row with
|[D.str s,D.int .i64 a,D.int .i64 b,D.int .i64 c,D.int .i64 d]=>Qdl n aa s&&QdA (XE n l0 l1 l2 e s a b c d some)&&PO l0 l1 l2 e (s::aa) r
|_=>false
def Hm(l0 l1 l2 c:LL):Y LL->LL->Bool
|_,[]=>true
|st,row::r=>match row with
|[D.int .i64 a,D.int .i64 ae,D.int .i64 b,D.int .i64 be,D.int .i64 p,D.int .i64 q]=>(decide (0<=a)&&decide (a<l2.length)&&decide (0<=ae)&&decide (ae<=1)&&decide (0<=b)&&decide (b<l2.length)&&decide (0<=be)&&decide (be<=1))&&QdA (Yr n l0 l1 l2 c a ae b be p q some) && !(Nat.beq (2*a+ae).toNat (2*b+be).toNat) && (match st[(2*a+ae).toNat]?,st[(2*b+be).toNat]? with
|some x,some y=>Qk4 (GX n x a ae b be some)&&QdA (Ge n a ae b be p q x some)&&QdA (Ge n a ae b be p q y some)&&Nat.ble x.length 1&&Nat.ble y.length 1&&Hm l0 l1 l2 c ((st.set (2*a+ae).toNat (x++[row])).set (2*b+be).toNat (y++[row])) r
|_,_=>false)
|_=>false
def PR(l0 l1 l2 a:LL):Bool:=Nat.ble l0.length 24&&Nat.ble l1.length 48&&Nat.ble l2.length 96&&Nat.ble a.length 192&&!(Nat.beq l2.length 0)&&Po n [] l0&&Po n [] l1&&PO n l0 l1 l2 a [] l2&&Hm n l0 l1 l2 a (List.replicate (2*l2.length) []) a
def ZF(l0 l1 l2 a:LL)(K:QlI R):oP R:=bif PR n l0 l1 l2 a then K 0 else none
end Go.Vx
namespace Go.Vx
def hat(c:Nat):Y NL:=List.replicate c (2,5000,0)
def pt2(c0 c1:Nat):LL:=Q3F 0 c0++Q3F (pc c0) c1
def se2(c0 c1 a:Nat)(b c d:Y NL):LL:=(YN (secT 0) c0 b++YN (secT 1) c1 c)++YN (secL 0) a d
def li2(c0 c1 a:Nat):LL:=(inL (c0+c1) a++Q4p (c0+c1) false 0 0 c0)++Q4p (c0+c1+a-1) true (pc c0) c0 c1
def pt3(c0 c1 a:Nat):LL:=(Q3F 0 c0++Q3F (pc c0) c1)++Q3F (pc c0+pc c1) c1++Q3F (pc c0+pc c1+pc c1) a
def se3(c0 c1 a b c:Nat)(d e f g h:Y NL):LL:=(((YN (secT 0) c0 d++YN (secT 1) c1 e)++YN (secT 2) a f)++YN (secL 0) b g)++YN (secL 1) c h
def li3(c0 c1 a b c:Nat):LL:=((inL (c0+c1+a) b++Q4p (c0+c1+a) false 0 0 c0)++Q4p (c0+c1+a+b-1) true (pc c0) c0 c1)++inL (c0+c1+a+b) c++Q4p (c0+c1+a+b) false (pc c0+pc c1) c0 c1++Q4p (c0+c1+a+b+c-1) true (pc c0+pc c1+pc c1) (c0+c1) a
theorem ok2{c0 c1 a:Nat}(b:c0=1\/c0=2)(c:c1=1\/c1=2)(h2:a=1\/a=2):PR 400 [nmS 0,nmS 1] (pt2 c0 c1) (se2 c0 c1 a (hat c0) (hat c1) (hat a)) (li2 c0 c1 a)=true:=by
 rcases b with rfl | rfl<;>rcases c with rfl | rfl<;>rcases h2 with rfl | rfl<;>kernel_rfl
theorem ok3{c0 c1 a b c:Nat}(d:c0=1\/c0=2)(e:c1=1\/c1=2)(h2:a=1\/a=2)(f:b=1\/b=2)(g:c=1\/c=2):PR 400 [nmS 0,nmS 1,nmS 2] (pt3 c0 c1 a) (se3 c0 c1 a b c (hat c0) (hat c1) (hat a) (hat b) (hat c)) (li3 c0 c1 a b c)=true:=by
 rcases d with rfl | rfl<;>rcases e with rfl | rfl<;>rcases h2 with rfl | rfl<;>rcases f with rfl | rfl<;>rcases g with rfl | rfl<;>kernel_rfl
structure NumOk(a b c d:Int)(k:Nat):Prop where
 a0:1<=a
 a1:a<=400
 b0:1000<=b
 b1:b<=100000
 c0 : -40<=c
 c1:c<=40
 d0 : -1<=d
 d1:d<k
theorem Q7U{n:Nat}{l0 l1 l2 e:LL}{s:Y UInt8}{a b c d:Int}(h:NumOk a b c d l0.length):XE n l0 l1 l2 e s a b c d some=some true:=by
 obtain⟨f,g,h2,i,j,h5,h6,h7⟩:=h;unfold XE;simp[f,g,h2,i,j,h5,h6,h7]
def Cb(k:Nat):LL->LL->Prop
 |[],[]=>True
 |r::s,r'::s'=>(∃nm a b c a' b' c' d,r=[D.str nm,Ql a,Ql b,Ql c,Ql d]/\r'=[D.str nm,Ql a',Ql b',Ql c',Ql d]/\NumOk a b c d k/\NumOk a' b' c' d k)/\Cb k s s'
 |_,_=>False
theorem Cb.len{k:Nat}:∀{s s':LL},Cb k s s'->s.length=s'.length
 |[],[],_=>rfl
 |r::s,r'::s',h=>by simp[Cb.len h.2]
theorem Cb.app{k:Nat}:∀{s s' t t':LL},Cb k s s'->Cb k t t'->Cb k (s++t) (s'++t')
 |[],[],t,t',_,h=>h
 |r::s,r'::s',t,t',h,h2=>⟨h.1,Cb.app h.2 h2⟩
theorem Cb.secT{k i:Nat}(hi:i<k):∀{c:Nat} {x x':Y NL},Hp x->Hp x'->x.length=c->x'.length=c->Cb k (YN (secT i) c x) (YN (secT i) c x')
 |0,[],[],_,_,_,_=>trivial
 |c+1,a::x,a'::x',h,h',e,e'=>⟨⟨Qkc i (c+1),a.1+2,a.2.1,a.2.2,a'.1+2,a'.2.1,a'.2.2,i,rfl,rfl,
   ⟨by have:=h.1.a0;omega,by have:=h.1.a1;omega,by have:=h.1.b0;omega,by have:=h.1.b1;omega,by have:=h.1.c0;omega,by have:=h.1.c1;omega,I,I⟩,
   ⟨by have:=h'.1.a0;omega,by have:=h'.1.a1;omega,by have:=h'.1.b0;omega,by have:=h'.1.b1;omega,by have:=h'.1.c0;omega,by have:=h'.1.c1;omega,I,I⟩⟩,Cb.secT hi h.2 h'.2 (by simpa using e) (by simpa using e')⟩
theorem Cb.secL{k i:Nat}:∀{c:Nat} {x x':Y NL},Hp x->Hp x'->x.length=c->x'.length=c->Cb k (YN (secL i) c x) (YN (secL i) c x')
 |0,[],[],_,_,_,_=>trivial
 |c+1,a::x,a'::x',h,h',e,e'=>⟨⟨nmL i (c+1),a.1,a.2.1,a.2.2,a'.1,a'.2.1,a'.2.2,-1,rfl,rfl,
   ⟨by have:=h.1.a0;omega,by have:=h.1.a1;omega,by have:=h.1.b0;omega,by have:=h.1.b1;omega,by have:=h.1.c0;omega,by have:=h.1.c1;omega,I,I⟩,
   ⟨by have:=h'.1.a0;omega,by have:=h'.1.a1;omega,by have:=h'.1.b0;omega,by have:=h'.1.b1;omega,by have:=h'.1.c0;omega,by have:=h'.1.c1;omega,I,I⟩⟩,Cb.secL h.2 h'.2 (by simpa using e) (by simpa using e')⟩
theorem Th:∀c,Hp (hat c)
 |0=>trivial
 |c+1=>⟨⟨by decide,by decide,by decide,by decide,by decide,by decide⟩,Th c⟩
theorem MD(c:Nat):(hat c).length=c:=by simp[hat]
theorem C5{n:Nat}{l0 l1 L L' e:LL}:∀{s s':LL} {aa:Y (Y UInt8)},Cb l0.length s s'->PO n l0 l1 L e aa s=PO n l0 l1 L' e aa s'
 |[],[],aa,_=>rfl
 |r::s,r'::s',aa,h=>by
  obtain⟨⟨nm,a,b,c,a',b',c',d,rfl,rfl,f,h2⟩,g⟩:=h;show(Qdl n aa nm&&QdA (XE n l0 l1 L e nm a b c d some)&&PO n l0 l1 L e (nm::aa) s)=(Qdl n aa nm&&QdA (XE n l0 l1 L' e nm a' b' c' d some)&&PO n l0 l1 L' e (nm::aa) s');rw[Q7U f,Q7U h2,C5 g]
theorem Fm{n:Nat}{l0 l1 L L' c:LL}(h:L.length=L'.length):∀{t:LL} {st:Y LL},Hm n l0 l1 L c st t=Hm n l0 l1 L' c st t
 |[],st=>rfl
 |r::t,st=>by
  unfold Hm;split
  ·rename_i a ae b be p q;have e:Yr n l0 l1 L c a ae b be p q some=Yr n l0 l1 L' c a ae b be p q some:=by unfold Yr;rw[h]
   rw[e,h];split
   ·rw[Fm h]
   ·rfl
  ·rfl
theorem Q1G{n:Nat}{l0 l1 L L' a:LL}(h:Cb l0.length L L'):PR n l0 l1 L a=PR n l0 l1 L' a:=by
 unfold PR;rw[h.len,C5 h,Fm h.len]
theorem sr2{c0 c1 a:Nat}{b c d:Y NL}(n0:Hp b)(n1:Hp c)(n2:Hp d)(e:b.length=c0)(e1:c.length=c1)(e2:d.length=a):Cb 2 (se2 c0 c1 a b c d) (se2 c0 c1 a (hat c0) (hat c1) (hat a)):=
 .app (.app (.secT Q1 n0 (Th _) e (MD _)) (.secT Q1 n1 (Th _) e1 (MD _))) (.secL n2 (Th _) e2 (MD _))
theorem sr3{c0 c1 a b c:Nat}{d e f g h:Y NL}(n0:Hp d)(n1:Hp e)(n2:Hp f)(i:Hp g)(j:Hp h)(k:d.length=c0)(e1:e.length=c1)(e2:f.length=a)(l:g.length=b)(m:h.length=c):Cb 3 (se3 c0 c1 a b c d e f g h) (se3 c0 c1 a b c (hat c0) (hat c1) (hat a) (hat b) (hat c)):=
 .app (.app (.app (.app (.secT Q1 n0 (Th _) k (MD _)) (.secT Q1 n1 (Th _) e1 (MD _))) (.secT Q1 n2 (Th _) e2 (MD _))) (.secL i (Th _) l (MD _))) (.secL j (Th _) m (MD _))
theorem Qko{c0 c1 a:Nat}{b c d:Y NL}(e:c0=1\/c0=2)(f:c1=1\/c1=2)(h2:a=1\/a=2)(n0:Hp b)(n1:Hp c)(n2:Hp d)(g:b.length=c0)(e1:c.length=c1)(e2:d.length=a) :
  PR 400 [nmS 0,nmS 1] (pt2 c0 c1) (se2 c0 c1 a b c d) (li2 c0 c1 a)=true:=by
 rw[<- ok2 e f h2];exact Q1G (sr2 n0 n1 n2 g e1 e2)
theorem QkM{c0 c1 a b c:Nat}{d e f g h:Y NL}(i:c0=1\/c0=2)(j:c1=1\/c1=2)(h2:a=1\/a=2)(k:b=1\/b=2)(l:c=1\/c=2)(n0:Hp d)(n1:Hp e)(n2:Hp f)(m:Hp g)(n:Hp h)(o:d.length=c0)(e1:e.length=c1)(e2:f.length=a)(p:g.length=b)(q:h.length=c) :
  PR 400 [nmS 0,nmS 1,nmS 2] (pt3 c0 c1 a) (se3 c0 c1 a b c d e f g h) (li3 c0 c1 a b c)=true:=by
 rw[<- ok3 i j h2 k l];exact Q1G (sr3 n0 n1 n2 m n o e1 e2 p q)
end Go.Vx
namespace Go.Vx
variable{R:Type} (n:Nat)
def WZ(h6:LL)(h7:Int)(b c d e:LL)(k0:oP R)(k1:QlJ R):QlK R
|0,_=>none
|m+1,a=>bif decide (a<h7)then Qld R h6 a λg h=>QkZ R g h λi j=>Qc R (NR n b c d e i j some) λk=>bif !k then k0 else WZ h6 h7 b c d e k0 k1 m (wJ (a+1))else k1 a (decide (a<h7))
def GH(n:Nat)(e:LL)(c:Int)(k0:oP R)(k1:QlL R):QlM R
|0,_,_=>none
|m+1,b,a=>bif decide (b<c)then Ql4 R e b λf g=>Qc R f[1]? λo=>Qc R (pIw g) λh=>QlD R a.length h a h.toNat λk=>bif k then k0 else Qc R (pIw g) λd=>Ql2 R a.length d a d.toNat λl=>GH n e c k0 k1 m (wJ (b+1)) (List.set a d.toNat (List.set l 0 (D.bool true)))else k1 b (decide (b<c)) a
def WN(e:LL)(b:Int)(f g h i j:LL)(k0:oP R)(k1:QlL R):QlM R
|0,_,_=>none
|m+1,a,c=>bif decide (a<b)then Qld R e a λo p=>Qld R j a λq r=>Qlr R q r o p λs t u v=>Qc R (G0 n f g h i s t u v Tu2) λd=>bif !d.2 then k0 else Qc R (Y9 ((c.length+[[Ql d.1]].length)*8)) λz=>WN e b f g h i j k0 k1 m (wJ (a+1)) (c++[[Ql d.1]])else k1 a (decide (a<b)) c
def HF(d e b f a:LL)(c:Int)(K:QlR R):oP R:=Qc R (ZF n d e b f some) λj=>bif j !=0 then K [] 1 else Qb R (a.length:Int) λaa=>jn (λ(k:Bool)=>bif k then K [] 7 else jn (λ(l:Bool)=>bif l then K [] 4 else WZ n a aa d e b f (K [] 4) (λo p=>Qb R (b.length:Int) λz=>gb true (bif decide (0<=z)&&decide (z<=z)then some ()else none) () λq=>Qc R (Y9 (Int.toNat z*1)) λr=>GH n a aa (K [] 5) (λs t u=>Qc R (slB a.length (some 1) none) λg=>WN n (cut a g) ((List.length (cut a g):Nat):Int) d e b f a (K [] 11) (λv x m=>K m 0) n 0 []) n 0 (List.replicate (Int.toNat z) [D.bool false])) n 0) λh=>bif decide (c<0)then h (decide (c<0))else h (decide (wJ (aa-c)<2))) λi=>Qa R (decide (aa>24)) λy=>bif y then i y else i (decide (c>2))
def P8(b c d e f:LL)(g:Int)(K:QlI R):oP R:=Qc R (HF n b c d e f g Tu2) λa=>K a.2
end Go.Vx
namespace Go.Vx
def K5(s u x y:Nat)(up:Bool):LL:=
 bif up then[Ql x,Ql 0]::((ups s u).map λk=>[Ql (k:Nat),Ql 0])++[[Ql y,Ql 0]]else[Ql y,Ql 1]::((ups s u).reverse.map λk=>[Ql (k:Nat),Ql 1])++[[Ql x,Ql 1]]
theorem QZ{α:Type}{r:Nat->Int->α}{N:Nat}{e:α}(hs:∀m h,h<N->r (m+1) (h:Int)=r m ((h+1:Nat):Int))(he:∀m,r (m+1) (N:Int)=e):∀(k m h:Nat),h+k=N->k<m->r m (h:Int)=e
 |0,m+1,h,hh,_=>by rw[show h=N by omega];exact he m
 |k+1,m+1,h,hh,hm=>by rw[hs m h I];exact QZ hs he k m (h+1) I I
section
variable{R:Type} {n:Nat} {a b a' b' L L' d:LL} (h:L.length=L'.length)
include h
theorem QfU{s:LL}{w:Int}{k0:oP R}{k1:Int->Bool->oP R}:∀(m:Nat) (i:Int),WZ n s w a b L d k0 k1 m i=WZ n s w a' b' L' d k0 k1 m i
 |0,_=>rfl
 |m+1,i=>by
  unfold WZ;simp only[NR,h,QfU m]
omit h in
theorem QiX{x y z t:Int}{K:Int->Bool->oP R}:G0 n a b L d x y z t K=G0 n a' b' L' d x y z t K:=rfl
omit h in
theorem QhR{q s:LL}{w:Int}{k0:oP R}{k1:Int->Bool->LL->oP R}:∀(m:Nat) (i:Int) (p:LL),WN n q w a b L d s k0 k1 m i p=WN n q w a' b' L' d s k0 k1 m i p
 |0,_,_=>rfl
 |m+1,i,p=>by
  unfold WN;simp only[QiX (a:=a) (b:=b) (L:=L) (a':=a') (b':=b') (L':=L'),QhR m]
end
def Qao(St Pt L d s:LL):oP (LL×Int):=
 WZ 400 s ((List.length s:Nat):Int) St Pt L d (some ([],4))
  (λ_ _=>
  gb true (bif decide (0<=((List.length L:Nat):Int))&&decide (((List.length L:Nat):Int)<=((List.length L:Nat):Int))then some ()else none) () λc=>
  gb true (Y9 (Int.toNat ((List.length L:Nat):Int)*1)) () λe=>
  GH 400 s ((List.length s:Nat):Int) (some ([],5))
   (λ_ _ _=>
   gb true (slB (List.length s) (some (1:Int)) none) (0,0) λa=>
   WN 400 (cut s a) ((List.length (cut s a):Nat):Int) St Pt L d s (some ([],11)) (λ_ _ b=>some (b,0)) 400 (0:Int) [])
   400 (0:Int) (List.replicate (Int.toNat ((List.length L:Nat):Int)) [D.bool false]))
  400 (0:Int)
def rtB(N:Nat)(Li s:LL):Bool:=match Qao [] [] (List.replicate N []) Li s with
 |some (_,e)=>e == 0
 |none=>false
theorem QaD{St Pt Se Li s:LL}{N:Nat}(aa:PR 400 St Pt Se Li=true)(hN:Se.length=N)(h2:2<=s.length)(g:s.length<=24)(hr:rtB N Li s=true) :
  ∃ac,HF 400 St Pt Se Li s 0 Tu2=some (ac,0):=by
 have hc:ZF 400 St Pt Se Li (some:Int->oP Int)=some 0:=by unfold ZF;rw[aa];rfl
 have hL:Se.length=(List.replicate N ([]:Y D)).length:=by simp[hN]
 have e:HF 400 St Pt Se Li s 0 Tu2=Qao [] [] (List.replicate N []) Li s:=by
  unfold HF;rw[hc,Qh,Qq Q1];dsimp only[jn];rw[Qq (c:=decide (((List.length s:Nat):Int)>24)) Q3,Qq (c:=decide ((0:Int)>2)) Q1,Qq (c:=decide ((0:Int)<0)) Q1,Qq (c:=decide (wJ (((List.length s:Nat):Int)-0)<2)) (by rw[Qo I I];simp;omega)];unfold Qao;simp only[QhR (a:=St) (b:=Pt) (L:=Se) (a':=[]) (b':=[]) (L':=List.replicate N []),QfU (a:=St) (b:=Pt) (L:=Se) (a':=[]) (b':=[]) (L':=List.replicate N []) hL,hL]
 rw[e];unfold rtB at hr;split at hr
 ·rename_i p e' hh;simp only[beq_iff_eq]at hr;subst hr;exact⟨p,hh⟩
 ·cases hr
theorem Q72{R:Type}{St Pt Se Li s:LL}{N:Nat}(aa:PR 400 St Pt Se Li=true)(hN:Se.length=N)(h2:2<=s.length)(a:s.length<=24)(hr:rtB N Li s=true)(K:Int->oP R):P8 400 St Pt Se Li s 0 K=K 0:=by
 obtain⟨p,e⟩:=QaD aa hN h2 a hr;unfold P8;rw[e,Qh]
def Qdq(N:Nat)(Li:LL)(s u k c k' c':Nat):Bool:=
 (ups k c).all λx=>(ups k' c').all λy=>rtB N Li (K5 s u x y true)&&rtB N Li (K5 s u x y false)
theorem Qky{c0 c1 a:Nat}(b:c0=1\/c0=2)(c:c1=1\/c1=2)(h2:a=1\/a=2):Qdq (c0+c1+a) (li2 c0 c1 a) (c0+c1) a 0 c0 c0 c1=true:=by
 rcases b with rfl | rfl<;>rcases c with rfl | rfl<;>rcases h2 with rfl | rfl<;>kernel_rfl
theorem QkE{c0 c1 a b c:Nat}(d:c0=1\/c0=2)(e:c1=1\/c1=2)(h2:a=1\/a=2)(f:b=1\/b=2)(g:c=1\/c=2) :
  (Qdq (c0+c1+a+b+c) (li3 c0 c1 a b c) (c0+c1+a) b 0 c0 c0 c1&&Qdq (c0+c1+a+b+c) (li3 c0 c1 a b c) (c0+c1+a+b) c c0 c1 (c0+c1) a)=true:=by
 rcases d with rfl | rfl<;>rcases e with rfl | rfl<;>rcases h2 with rfl | rfl<;>rcases f with rfl | rfl<;>rcases g with rfl | rfl<;>kernel_rfl
end Go.Vx
namespace Go.Vx
variable{R:Type} (n:Nat)
def Wp(d:LL)(c:Int)(e:LL)(k0:QlL R):QlM R
|0,_,_=>none
|m+1,h5,a=>bif decide (h5<c)then Qld R d h5 λl o=>Qc R (pIw l) λp=>Ql9 R e p λb g=>Qlx R b λq r=>Qc R b[4]? λx=>Qlt R q r o λh i s=>bif s==1 then Qc R (pIw g) λt=>Qc R (Qu n [[Ql h,Ql (wJ (0-i))]] t some) λj=>Qc R (Y9 ((a.length+j.length)*16)) λy=>Wp d c e k0 m (wJ (h5+1)) (a++j)else Qc R (pIw g) λu=>Qc R (Qu n [[Ql h,Ql i]] u some) λk=>Qc R (Y9 ((a.length+k.length)*16)) λz=>Wp d c e k0 m (wJ (h5+1)) (a++k)else k0 h5 (decide (h5<c)) a
def Rg(g h b i a:LL)(c:Int)(K:QlV R):oP R:=Qc R (P8 n g h b i a c some) λd=>bif d !=0 then K [] 0 d else Qc R (slB a.length none (some (wJ ((a.length:Int)-c)))) λe=>Wp n (cut a e) ((List.length (cut a e):Nat):Int) b (λp q f=>bif decide ((f.length:Int)>4000)then K [] 0 7 else Ql3 R a 0 λl=>Qlb R b l λi64=>K f i64 0) n 0 []
def WP(n:Nat)(h6:LL)(h7:Int)(c:LL)(b:Int)(k0:oP R)(k1:QlJ R):QlK R
|0,_=>none
|m+1,a=>bif decide (a<h7)then Ql4 R h6 a λd e=>Qc R d[1]? λj=>Qc R (pIw e) λf=>Qlb R c f λi=>bif decide (i<(if 2<b then b else 2))then k0 else WP n h6 h7 c b k0 k1 m (wJ (a+1))else k1 a (decide (a<h7))
def HE(h i c j d:LL)(e:Int)(k:Y UInt8)(f l m o:Int)(K:QlV R):oP R:=Qc R (Rg n h i c j d e Tu3) λa=>bif a.2.2 !=0 then K [] 0 a.2.2 else Qc R (UC n k f l m o some) λb=>bif !b then K [] 0 1 else Qc R (Uo n d e some) λg=>WP n g (g.length:Int) c f (K [] 0 12) (λq r=>K a.1 a.2.1 0) n 0
def GD(b c d e f:LL)(g:Int)(h:Y UInt8)(i j k l:Int)(K:QlI R):oP R:=Qc R (HE n b c d e f g h i j k l Tu3) λa=>K a.2.2
end Go.Vx
namespace Go.Vx
structure SecN(a b c:Int):Prop where
 a0:2<=a
 a1:a<=12
 b0:5000<=b
 b1:b<=35000
 c0 : -10<=c
 c1:c<=10
def Dv(Se:LL)(row:Y D):Prop:=∃(x d:Int) (nm:Y UInt8) (a b c st:Int),row=[Ql x,Ql d]/\Qi Se x=some [D.str nm,Ql a,Ql b,Ql c,Ql st]/\SecN a b c/\(d=0\/d=1)
def SG(Se:LL):Y D->LL
 |[.int _ x,.int _ d]=>match Qi Se x with
  |some [_,.int _ a,.int _ b,.int _ c,_]=>List.replicate a.toNat [Ql b,Ql (bif d == 1 then -c else c)]
  |_=>[]
 |_=>[]
def Yz(Se s:LL):LL:=s.flatMap (SG Se)
theorem HG{Se:LL}{x d a b c st:Int}{nm:Y UInt8}(h:Qi Se x=some [D.str nm,Ql a,Ql b,Ql c,Ql st]):SG Se [Ql x,Ql d]=List.replicate a.toNat [Ql b,Ql (bif d == 1 then -c else c)]:=by
 grind[SG]
theorem ZA{α:Type}{l:Y α}{h:Nat}{a:α}(e:l[h]? = some a):l.take (h+1)=l.take h++[a]:=by grind[List.take_add_one]
theorem MS{Se s:LL}{h:Nat}{row:Y D}(e:s[h]? = some row):Yz Se (s.take (h+1))=Yz Se (s.take h)++SG Se row:=by
 rw[ZA e];simp[Yz]
theorem Sc{Se:LL}:∀{s:LL},(∀row∈s,Dv Se row)->(Yz Se s).length<=12*s.length/\2*s.length<=(Yz Se s).length
 |[],_=>by simp[Yz]
 |row::s,h=>by
  obtain⟨x,d,nm,a,b,c,st,rfl,hs,hn,_⟩:=h _ (List.mem_cons_self ..);have e:=Sc λr hr=>h r (List.mem_cons_of_mem _ hr)
  have h2:=hn.a0;have f:=hn.a1;simp only[Yz,List.flatMap_cons,HG hs,Qr6,List.length_replicate,QqY]at e ⊢;omega
section
variable{R:Type} {n:Nat}
theorem Qkp{a:Int}{x y:D}(b:0<=a)(c:a<=100000)(K:LL->oP R):Qu n [[x,y]] a K=K (List.replicate a.toNat [x,y]):=by
 simp_all [Qu,Xi]
theorem Qct{Se s:LL}{k0:Int->Bool->LL->oP R}(hs:∀row∈s,Dv Se row)(hl:s.length<=30):∀{m:Nat},s.length<m->Wp n s (s.length:Int) Se k0 m 0 []=k0 (s.length:Int) false (Yz Se s):=by
 intro m hm;have hc:=λh:Nat=>(Sc (s:=s.take h) λr hr=>hs r (List.mem_of_mem_take hr)).1
 refine QZ (r:=λm h=>Wp n s (s.length:Int) Se k0 m h (Yz Se (s.take h.toNat))) (N:=s.length) (λm h hh=>?_) (λm=>?_) s.length m 0 I hm
 ·have e:=QqF hh;obtain⟨x,d,nm,a,b,c,st,hx,ac,hn,hd⟩:=hs _ (QqO hh);rw[hx]at e;have a0:=hn.a0;have a1:=hn.a1;have aj:=hc h;simp only[QqC,MS e,HG ac];simp only[List.length_take]at aj;rw[Wp,Xi (by simpa using hh),show Qi s (h:Int)=some [Ql x,Ql d] by simp[Qi,e],Qh];dsimp only[List.getElem?_cons_zero,List.getElem?_cons_succ];rw[Qh,Qh,Qj,Qh,ac,Qh];dsimp only[List.getElem?_cons_zero,List.getElem?_cons_succ];have aa:∀r:Y D,Y9 (((Yz Se (s.take h)).length+(List.replicate a.toNat r).length)*16)=some ():=λr=>XM (by simp only[List.length_replicate];omega)
  simp -implicitDefEqProofs only[Qh,Qj,Qkp (show(0:Int)<=a by omega) (show a<=100000 by omega),aa];rw[Qo (x:=(h:Int)+1) I I,show(h:Int)+1=((h+1:Nat):Int) by omega,Qo (x:=0-c) (by have:=hn.c1;omega) (by have:=hn.c0;omega),Int.zero_sub];cases f:d == (1:Int)<;>rfl
 simp[QqC,Wp,Qq,Qr4]
theorem Qbr{s:LL}(h:s.length<=1000):slB s.length none (some (wJ ((s.length:Int)-(0:Int))))=some (0,s.length)/\cut s (0,s.length)=s:=by
 grind[Qo,slB,cut]
def Tv(Se s:LL):Int:=match s with
 |[.int _ x,_]::_=>match Qi Se x with
  |some [_,.int _ a,_,_,_]=>a
  |_=>0
 |_=>0
theorem QgP{St Pt Se Li s:LL}{N:Nat}(aa:PR 400 St Pt Se Li=true)(hN:Se.length=N)(h2:2<=s.length)(e:s.length<=24)(hr:rtB N Li s=true)(ho:∀row∈s,Dv Se row)(K:LL->Int->Int->oP R) :
  Rg 400 St Pt Se Li s 0 K=K (Yz Se s) (Tv Se s) 0:=by
 have hl:=(Sc ho).1;obtain⟨row,rest,rfl⟩:∃row rest,s=row::rest:=by
  cases s with
  |nil=>simp at h2
  |cons a b=>simp_all
 obtain⟨x,d,nm,a,b,c,st,rfl,hs,_,_⟩:=ho row Q2;have hf:Tv Se ([Ql x,Ql d]::rest)=a:=by grind[Tv]
 generalize hS:[Ql x,Ql d]::rest=s at *
 obtain⟨e1,e2⟩:=Qbr (s:=s) I;unfold Rg;rw[Q72 aa hN h2 e hr,Qh,Qq Q1,e1,Qh,e2,Qct ho I I,Qq Q3,show Qi s (0:Int)=some [Ql x,Ql d] by rw[<- hS];rfl,Qh]
 grind[List.getElem?_cons_zero,List.getElem?_cons_succ,Qh,Qj]
theorem QhJ{Se s:LL}{tl:Int}{k0:oP R}{k1:Int->Bool->oP R}(ht:tl<=2)(hb:s.length<=30)(hs:∀row∈s,Dv Se row){m:Nat}(hm:s.length<m) :
  WP n s (s.length:Int) Se tl k0 k1 m 0=k1 (s.length:Int) false:=by
 refine QZ (r:=λm h=>WP n s (s.length:Int) Se tl k0 k1 m h) (N:=s.length) (λm h hh=>?_) (λm=>?_) s.length m 0 I hm
 ·obtain⟨x,d,ai,a,b,c,st,hx,aa,hn,_⟩:=hs _ (QqO hh);have a0:=hn.a0;rw[WP,Xi Q4,show Qi s (h:Int)=some [Ql x,Ql d] by grind[Qi,List.getElem?_eq_getElem],Qh];dsimp only[List.getElem?_cons_zero,List.getElem?_cons_succ];rw[Qh,Qh,Qj,Qh,aa,Qh];dsimp only[List.getElem?_cons_zero,List.getElem?_cons_succ];rw[Qh,Qj,Qh,Qq (by grind),Qo (x:=(h:Int)+1) I I,show(h:Int)+1=((h+1:Nat):Int) by omega]
 simp[WP,Qq]
structure StkN(tl sp ac br:Int):Prop where
 t1:1<=tl
 t2:tl<=2
 s1:10000<=sp
 s2:sp<=25000
 a1:400<=ac
 a2:ac<=800
 b1:400<=br
 b2:br<=800
theorem Av{nm:Y UInt8}{tl sp ac br:Int}(h:StkN tl sp ac br)(K:Bool->oP R):UC n nm tl sp ac br K=K true:=by
 obtain⟨t1,t2,s1,s2,a1,a2,b1,b2⟩:=h
 grind[UC]
theorem Q1s{s:LL}(a:s.length<=24)(K:LL->oP R):Uo 400 s 0 K=K s:=by
 grind[Qbr,Uo,Qh]
theorem Qke{St Pt Se Li s:LL}{N:Nat}{nm:Y UInt8}{tl sp ac br:Int}(aa:PR 400 St Pt Se Li=true)(hN:Se.length=N)(h2:2<=s.length)(a:s.length<=24)(hr:rtB N Li s=true)(ho:∀row∈s,Dv Se row)(hk:StkN tl sp ac br)(K:LL->Int->Int->oP R):HE 400 St Pt Se Li s 0 nm tl sp ac br K=K (Yz Se s) (Tv Se s) 0:=by
 unfold HE;rw[QgP aa hN h2 a hr ho,Qh,Qq (by rfl),Av hk,Qh,Qq Q1,Q1s a,Qh,QhJ hk.t2 I ho I]
theorem Qhw{St Pt Se Li s:LL}{N:Nat}{nm:Y UInt8}{tl sp ac br:Int}(aa:PR 400 St Pt Se Li=true)(hN:Se.length=N)(h2:2<=s.length)(a:s.length<=24)(hr:rtB N Li s=true)(ho:∀row∈s,Dv Se row)(hk:StkN tl sp ac br)(K:Int->oP R):GD 400 St Pt Se Li s 0 nm tl sp ac br K=K 0:=by
 grind[GD,Qke,Qh]
end
end Go.Vx
namespace Go.Vx
variable{R:Type} (n:Nat)
def MK(d e c f:LL)(a b:Int)(K:QlN R):oP R:=Qa R (Q9 (Q9 (decide (a>=0)) (decide (a<(c.length:Int)))) (Q8 (b==0) (b==1))) λh=>Qd R h (ZF n d e c f some) λg=>K (Q9 h (g==0))
def Wu(g:LL)(d h6 h7:Int)(k0:QlL R):QlM R
|0,_,_=>none
|m+1,h5,b=>bif decide (h5<d)then Ql1 R g h5 λc r ac s=>Qla R c λt j k=>Qlr R r ac s t λu v x y=>QkZ R j k λz aa=>gb true (Fh n u v x y z aa Tu4) (0,0,0,0) λa=>Qb R (wJ (h5+1)) λab=>bif h6==a.1&&h7==a.2.1 then Qc R (Mj n a.2.2.1 a.2.2.2 Tu2) λh=>QkZ R j k λl o=>Qb R [[Ql h.1,Ql h.2,Ql l,Ql o]] λf=>Qc R (Y9 ((b.length+f.length)*32)) λad=>Wu g d h6 h7 k0 m ab (b++f)else bif h6==a.2.2.1&&h7==a.2.2.2 then Qc R (Mj n a.1 a.2.1 Tu2) λi=>QkZ R j k λp q=>Qb R [[Ql i.1,Ql i.2,Ql p,Ql q]] λe=>Qc R (Y9 ((b.length+e.length)*32)) λae=>Wu g d h6 h7 k0 m ab (b++e)else Wu g d h6 h7 k0 m ab b else k0 h5 (decide (h5<d)) b
def F3(d e f a:LL)(b c:Int)(K:QlO R):oP R:=Qc R (MK n d e f a b c some) λg=>bif !g then K []else bif c==1 then Wu n a (a.length:Int) b 0 (λj k h=>K h) n 0 []else Wu n a (a.length:Int) b 1 (λl m i=>K i) n 0 []
def ZK(n:Nat)(h2:LL)(c h5 h6:Int)(k0:QlI R)(k1:QlJ R):QlK R
|0,_=>none
|m+1,a=>bif decide (a<c)then Ql1 R h2 a λb d e f=>Qc R b[3]? λj=>QkZ R d e λg h=>bif g==h5&&h==h6 then Qc R (pIw f) λi=>k0 i else ZK n h2 c h5 h6 k0 k1 m (wJ (a+1))else k1 a (decide (a<c))
def ZB(b c d e:LL)(f g h i:Int)(K:QlI R):oP R:=Qc R (F3 n b c d e f g some) λa=>ZK n a (a.length:Int) h i (λj=>K j) (λk l=>K (-1:Int)) n 0
end Go.Vx
namespace Go.Vx
theorem Cb.at{k:Nat}:∀{s s':LL},Cb k s s'->∀i:Nat,(s[i]? = none/\s'[i]? = none)\/∃nm a b c a' b' c' d,s[i]? = some [D.str nm,Ql a,Ql b,Ql c,Ql d]/\s'[i]? = some [D.str nm,Ql a',Ql b',Ql c',Ql d]/\NumOk a b c d k/\NumOk a' b' c' d k
 |[],[],_,i=>.inl ⟨by simp,by simp⟩
 |r::s,r'::s',h,0=>by
  obtain⟨⟨nm,a,b,c,a',b',c',d,e,h2,f,g⟩,_⟩:=h;exact .inr ⟨nm,a,b,c,a',b',c',d,by simp[e],by simp[h2],f,g⟩
 |r::s,r'::s',h,i+1=>by
  have:=Cb.at h.2 i;simpa using this
theorem Cb.row{k:Nat}{s s':LL}(h:Cb k s s')(i:Int):(Qi s i=none/\Qi s' i=none)\/∃nm a b c a' b' c' d,Qi s i=some [D.str nm,Ql a,Ql b,Ql c,Ql d]/\Qi s' i=some [D.str nm,Ql a',Ql b',Ql c',Ql d]/\NumOk a b c d k/\NumOk a' b' c' d k:=by
 unfold Qi;cases decide ((0:Int)<=i)
 ·simp_all
 ·exact h.at i.toNat
theorem gbN{α R:Type}{z:α}{k:α->oP R}:gb true none z k=none:=rfl
theorem inT{R:Type}{n:Nat}{x lo hi:Int}(a:lo<=x)(b:x<=hi)(K:Bool->oP R):KK n x lo hi K=K true:=by
 grind[KK,decide]
section
variable{R:Type} {n k:Nat} {s s' St Pt Li:LL} (h:Cb k s s')
include h
theorem Q7n{k0:Int->Bool->LL->oP R}:∀(m:Nat) (i:Int) (acc:LL),YX n s k0 m i acc=YX n s' k0 m i acc
 |0,_,_=>rfl
 |m+1,i,acc=>by
  unfold YX;rcases h.row i with⟨e,e'⟩|⟨nm,a,b,c,a',b',c',d,e,e',_,_⟩
  ·simp only[e,e',h.len,gbN]
  ·rw[e,e',h.len];simp only[Q7n m];rfl
theorem Qes{aa:LL}(hk:St.length=k)(f:k<=100){k0:Int->oP R}{k1:Int->Bool->oP R}:∀(m:Nat) (i:Int),Jp n aa St s k0 k1 m i=Jp n aa St s' k0 k1 m i
 |0,_=>rfl
 |m+1,i=>by
  unfold Jp;rcases h.row i with⟨e,e'⟩|⟨nm,a,b,c,a',b',c',d,e,e',g,g'⟩
  ·simp only[e,e',h.len,gbN,Qes hk f m]
  ·rw[e,e',h.len];obtain⟨j,l,h2,o,p,h5,h6,h7⟩:=g;obtain⟨g0,g1,q,r,t,u,v,x⟩:=g';simp -implicitDefEqProofs only[Qh,QqA,QqB,Qj,inT j l,inT h2 o,inT p h5,inT g0 g1,inT q r,inT t u,Qes hk f m]
theorem Qgc{k0:Int->oP R}{k1:Int->Bool->oP R}:∀(m:Nat) (i:Int),Jg n St Pt s Li k0 k1 m i=Jg n St Pt s' Li k0 k1 m i
 |0,_=>rfl
 |m+1,i=>by
  unfold Jg;have e:∀j,JW n St Pt s Li j (some:Int->oP Int)=JW n St Pt s' Li j some:=by
   intro j;unfold JW;rw[h.len];rfl
  simp only[e,Qgc m]
theorem QdW(hk:St.length=k)(a:k<=100)(K:Int->oP R):VJ n St Pt s Li K=VJ n St Pt s' Li K:=by
 unfold VJ Vb;rw[h.len]
 grind[Q7n,Qes,Qgc]
end
def QbB(St Pt Se Li:LL):Bool:=Q91 (VJ 400 St Pt Se Li some)
theorem ro2{c0 c1 a:Nat}(b:c0=1\/c0=2)(c:c1=1\/c1=2)(h2:a=1\/a=2):QbB [nmS 0,nmS 1] (pt2 c0 c1) (se2 c0 c1 a (hat c0) (hat c1) (hat a)) (li2 c0 c1 a)=true:=by
 rcases b with rfl | rfl<;>rcases c with rfl | rfl<;>rcases h2 with rfl | rfl<;>kernel_rfl
theorem ro3{c0 c1 a b c:Nat}(d:c0=1\/c0=2)(e:c1=1\/c1=2)(h2:a=1\/a=2)(f:b=1\/b=2)(g:c=1\/c=2):QbB [nmS 0,nmS 1,nmS 2] (pt3 c0 c1 a) (se3 c0 c1 a b c (hat c0) (hat c1) (hat a) (hat b) (hat c)) (li3 c0 c1 a b c)=true:=by
 rcases d with rfl | rfl<;>rcases e with rfl | rfl<;>rcases h2 with rfl | rfl<;>rcases f with rfl | rfl<;>rcases g with rfl | rfl<;>kernel_rfl
theorem Q5l{St Pt L L' Li:LL}(h:Cb St.length L L')(h2:St.length<=100):QbB St Pt L Li=QbB St Pt L' Li:=by
 unfold QbB;rw[QdW h rfl h2]
theorem QkP{c0 c1 a:Nat}{b c d:Y NL}(e:c0=1\/c0=2)(f:c1=1\/c1=2)(h2:a=1\/a=2)(n0:Hp b)(n1:Hp c)(n2:Hp d)(g:b.length=c0)(e1:c.length=c1)(e2:d.length=a) :
  QbB [nmS 0,nmS 1] (pt2 c0 c1) (se2 c0 c1 a b c d) (li2 c0 c1 a)=true:=by
 grind[ro2,Q5l,sr2]
theorem QkF{c0 c1 a b c:Nat}{d e f g h:Y NL}(i:c0=1\/c0=2)(j:c1=1\/c1=2)(h2:a=1\/a=2)(k:b=1\/b=2)(l:c=1\/c=2)(n0:Hp d)(n1:Hp e)(n2:Hp f)(m:Hp g)(n:Hp h)(o:d.length=c0)(e1:e.length=c1)(e2:f.length=a)(p:g.length=b)(q:h.length=c) :
  QbB [nmS 0,nmS 1,nmS 2] (pt3 c0 c1 a) (se3 c0 c1 a b c d e f g h) (li3 c0 c1 a b c)=true:=by
 grind[ro3,Q5l,sr3]
def QeN(St Pt L d s:LL):oP Int:=
 YT 400 L s (some 4) (λ_ _=>VZ 400 s (some 5) (λ_ _=>YQ 400 St Pt L d s (some 11) (λ_ _=>some 0) 400 (1:Int)) 400 (0:Int)) 400 (0:Int)
def QhY(N:Nat)(Li s:LL):Bool:=Q91 (QeN [] [] (List.replicate N []) Li s)
section
variable{R:Type} {n:Nat} {a b a' b' L L' d s:LL} (h:L.length=L'.length)
include h
theorem Qgx{k0:oP R}{k1:Int->Bool->oP R}:∀(m:Nat) (i:Int),YT n L s k0 k1 m i=YT n L' s k0 k1 m i
 |0,_=>rfl
 |m+1,i=>by
  unfold YT;simp only[h,Qgx m]
omit h in
theorem Qkg{x y z t:Int}{K:D->D->D->D->Bool->oP R}:G7 n a b L d x y z t K=G7 n a' b' L' d x y z t K:=rfl
omit h in
theorem Qhy{k0:oP R}{k1:Int->Bool->oP R}:∀(m:Nat) (i:Int),YQ n a b L d s k0 k1 m i=YQ n a' b' L' d s k0 k1 m i
 |0,_=>rfl
 |m+1,i=>by
  unfold YQ;simp only[Qkg (a:=a) (b:=b) (L:=L) (a':=a') (b':=b') (L':=L'),Qhy m]
end
theorem Q5m{St Pt Se Li s:LL}{N:Nat}(aa:QbB St Pt Se Li=true)(hN:Se.length=N)(h2:2<=s.length)(c:s.length<=24)(hr:QhY N Li s=true):J9 400 St Pt Se Li s 0 (some:Int->oP Int)=some 0:=by
 have hL:Se.length=(List.replicate N ([]:Y D)).length:=by simp[hN]
 unfold J9;rw[J4 aa,Qh,Qq Q1,Qq (by grind),Qq (by grind[Qo,decide,List.length])];simp only[Qgx hL,Qhy (a:=St) (b:=Pt) (L:=Se) (a':=[]) (b':=[]) (L':=List.replicate N [])];exact J4 hr
def QfI(Li:LL)(r r':Y D):oP Int:=match r,r' with
 |[.int _ x,.int _ d],[.int _ y,.int _ e]=>gb true (bif (d == (1:Int))then Wu 400 Li ((List.length Li:Nat):Int) x (0:Int) (λ_ _ w=>some w) 400 (0:Int) []else Wu 400 Li ((List.length Li:Nat):Int) x (1:Int) (λ_ _ w=>some w) 400 (0:Int) []) [] λa=>
  ZK 400 a ((List.length a:Nat):Int) y e some (λ_ _=>some (-1)) 400 (0:Int)
 |_,_=>none
def ptR(St Pt Se Li:LL)(r r':Y D):oP Int:=match r,r' with
 |[.int _ x,.int _ d],[.int _ y,.int _ e]=>match G7 400 St Pt Se Li x d y e Tu5 with
  |some (_,_,.int .i64 q,_,true)=>some q
  |_=>none
 |_,_=>none
def pv:oP Int->Int
 |some p=>p
 |none => -1
def Q0N(N NP:Nat)(Li:LL):Nat->LL->Bool
 |k,r::r'::t=>match QfI Li r r',ptR [] [] (List.replicate N []) Li r r' with
  |some p,some q=>(p == q)&&(decide (-1<=p)&&(decide (p<NP)&&Q0N N NP Li (bif decide (p<0)then k+1 else k+2) (r'::t)))
  |_,_=>false
 |k,_=>Nat.ble k 5
def Qeg(N NP:Nat)(Li s:LL):Bool:=QhY N Li s&&Q0N N NP Li 0 s
def Q5u(N NP:Nat)(Li:LL)(s u k c k' c':Nat):Bool:=
 (ups k c).all λx=>(ups k' c').all λy=>Qeg N NP Li (K5 s u x y true)&&Qeg N NP Li (K5 s u x y false)
theorem QiY{c0 c1 a:Nat}(b:c0=1\/c0=2)(c:c1=1\/c1=2)(h2:a=1\/a=2):Q5u (c0+c1+a) (pt2 c0 c1).length (li2 c0 c1 a) (c0+c1) a 0 c0 c0 c1=true:=by
 rcases b with rfl | rfl<;>rcases c with rfl | rfl<;>rcases h2 with rfl | rfl<;>kernel_rfl
theorem Qiz{c0 c1 a b c:Nat}(d:c0=1\/c0=2)(e:c1=1\/c1=2)(h2:a=1\/a=2)(f:b=1\/b=2)(g:c=1\/c=2) :
  (Q5u (c0+c1+a+b+c) (pt3 c0 c1 a).length (li3 c0 c1 a b c) (c0+c1+a) b 0 c0 c0 c1&&Q5u (c0+c1+a+b+c) (pt3 c0 c1 a).length (li3 c0 c1 a b c) (c0+c1+a+b) c c0 c1 (c0+c1) a)=true:=by
 rcases d with rfl | rfl<;>rcases e with rfl | rfl<;>rcases h2 with rfl | rfl<;>rcases f with rfl | rfl<;>rcases g with rfl | rfl<;>kernel_rfl
theorem QdV{St Pt Se Li:LL}(aa:PR 400 St Pt Se Li=true){x d y e:Int}(a:0<=x)(b:x<Se.length)(hd:d=0\/d=1):ZB 400 St Pt Se Li x d y e (some:Int->oP Int)=QfI Li [Ql x,Ql d] [Ql y,Ql e]:=by
 have hc:ZF 400 St Pt Se Li (some:Int->oP Int)=some 0:=by grind[ZF]
 have hh:MK 400 St Pt Se Li x d (some:Bool->oP Bool)=some true:=by
  grind[MK,Qh,decide]
 simp_all [ZB,F3,QfI,Qh]
structure Geo where
 N:Nat
 St:LL
 Pt:LL
 Se:LL
 Li:LL
 Tr:LL
 Bt:LL
 k:Nat->Nat
 c:Nat->Nat
 s:Nat->Nat
 u:Nat->Nat
structure Geo.OK(G:Geo):Prop where
 hN:G.N=2\/G.N=3
 st:G.St.length=G.N
 lay:PR 400 G.St G.Pt G.Se G.Li=true
 ref:QbB G.St G.Pt G.Se G.Li=true
 trl:G.Tr.length=G.N
 tr:∀i,i<G.N->G.Tr[i]? = some [D.sl 1 (Wg (ups (G.k i) (G.c i)))]
 ct:∀i,i<G.N->G.c i=1\/G.c i=2
 k6:∀i,i<G.N->G.k i+G.c i<=6
 btl:G.Bt.length+1=G.N
 bt:∀g,g+1<G.N->G.Bt[g]? = some [D.sl 1 (Wg (ups (G.s g) (G.u g)))]
 ut:∀g,g+1<G.N->G.u g=1\/G.u g=2
 sec:∀i,i<G.N->∀x,x<G.c i->∃nm a b d,Qi G.Se ((G.k i+x:Nat):Int)=some [D.str nm,Ql a,Ql b,Ql d,Ql i]/\SecN a b d
 gap:∀g,g+1<G.N->∀x,x<G.u g->∃nm a b d e,Qi G.Se ((G.s g+x:Nat):Int)=some [D.str nm,Ql a,Ql b,Ql d,Ql e]/\SecN a b d
 rts:∀g,g+1<G.N->Qdq G.Se.length G.Li (G.s g) (G.u g) (G.k g) (G.c g) (G.k (g+1)) (G.c (g+1))=true
 rt6:∀g,g+1<G.N->Q5u G.Se.length G.Pt.length G.Li (G.s g) (G.u g) (G.k g) (G.c g) (G.k (g+1)) (G.c (g+1))=true
theorem Q7d{f:Nat->NL->Y D}:∀{c:Nat} {x:Y NL} {i:Nat},Hp x->x.length=c->i<c->∃j y,(YN f c x)[i]? = some (f j y)/\Num y.1 y.2.1 y.2.2
 |c+1,a::x,0,h,_,_=>⟨c+1,a,rfl,h.1⟩
 |c+1,a::x,i+1,h,e,hi=>by
  obtain⟨j,y,b,h2⟩:=Q7d (f:=f) h.2 (by simpa using e) (show i<c by omega);exact⟨j,y,by simpa[YN]using b,h2⟩
theorem Qdb{f:Nat->NL->Y D}{A B:LL}{c k i:Nat}{x:Y NL}(hA:A.length=k)(h:Hp x)(e:x.length=c)(hi:i<c):∃j y,Qi ((A++YN f c x)++B) ((k+i:Nat):Int)=some (f j y)/\Num y.1 y.2.1 y.2.2:=by
 obtain⟨j,y,a,h2⟩:=Q7d (f:=f) h e hi
 grind[Qi]
theorem QhS{A B L:LL}{c k i x:Nat}{X:Y NL}(hL:L=(A++YN (secT i) c X)++B)(hA:A.length=k)(h:Hp X)(e:X.length=c)(hi:x<c) :
  ∃nm a b d,Qi L ((k+x:Nat):Int)=some [D.str nm,Ql a,Ql b,Ql d,Ql i]/\SecN a b d:=by
 subst hL;obtain⟨j,y,g,h2⟩:=Qdb (f:=secT i) (B:=B) hA h e hi;exact⟨_,_,_,_,g,by have:=h2.a0;omega,by have:=h2.a1;omega,h2.b0,h2.b1,h2.c0,h2.c1⟩
theorem Qj3{A B L:LL}{c k i x:Nat}{X:Y NL}(hL:L=(A++YN (secL i) c X)++B)(hA:A.length=k)(h:Hp X)(e:X.length=c)(hi:x<c) :
  ∃nm a b d e,Qi L ((k+x:Nat):Int)=some [D.str nm,Ql a,Ql b,Ql d,Ql e]/\SecN a b d:=by
 subst hL;obtain⟨j,y,g,h2⟩:=Qdb (f:=secL i) (B:=B) hA h e hi;exact⟨_,_,_,_,_,g,h2.a0,by have:=h2.a1;omega,h2.b0,h2.b1,h2.c0,h2.c1⟩
def Qg8(c0 c1 a:Nat)(b d e:Y NL):Geo where
 N:=2
 St:=[nmS 0,nmS 1]
 Pt:=pt2 c0 c1
 Se:=se2 c0 c1 a b d e
 Li:=li2 c0 c1 a
 Tr:=[[D.sl 1 (Wg (ups 0 c0))],[D.sl 1 (Wg (ups c0 c1))]]
 Bt:=[[D.sl 1 (Wg (ups (c0+c1) a))]]
 k:=λ| 0=>0 | _=>c0
 c:=λ| 0=>c0 | _=>c1
 s:=λ_=>c0+c1
 u:=λ_=>a
theorem QeB{c0 c1 a:Nat}{b c d:Y NL}(f:c0=1\/c0=2)(h:c1=1\/c1=2)(h2:a=1\/a=2)(n0:Hp b)(n1:Hp c)(n2:Hp d)(e:b.length=c0)(e1:c.length=c1)(e2:d.length=a):(Qg8 c0 c1 a b c d).OK where
 hN:=.inl rfl
 st:=rfl
 lay:=Qko f h h2 n0 n1 n2 e e1 e2
 ref:=QkP f h h2 n0 n1 n2 e e1 e2
 trl:=rfl
 tr:=λi hi=>match i,hi with
  |0,_=>rfl
  |1,_=>rfl
 ct:=λi hi=>match i,hi with
  |0,_=>f
  |1,_=>h
 k6:=λi hi=>match i,hi with
  |0,_=>by show 0+c0<=6;omega
  |1,_=>by show c0+c1<=6;omega
 btl:=rfl
 bt:=λg hg=>match g,hg with
  |0,_=>rfl
 ut:=λg _=>h2
 sec:=λi hi=>match i,hi with
  |0,_=>λx hx=>QhS (A:=[]) (i:=0) (B:=YN (secT 1) c1 c++YN (secL 0) a d) (by simp[Qg8,se2]) rfl n0 e hx
  |1,_=>λx hx=>QhS (A:=YN (secT 0) c0 b) (i:=1) (B:=YN (secL 0) a d) rfl (Xz e) n1 e1 hx
 gap:=λg hg x hx=>Qj3 (A:=YN (secT 0) c0 b++YN (secT 1) c1 c) (i:=0) (B:=[]) (by simp[Qg8,se2]) (by grind[Qg8,Xz]) n2 e2 hx
 rts:=λg hg=>match g,hg with
  |0,_=>by
   have hl:(se2 c0 c1 a b c d).length=c0+c1+a:=by grind[se2,Xz]
   show Qdq (se2 c0 c1 a b c d).length (li2 c0 c1 a) (c0+c1) a 0 c0 c0 c1=true
   grind[Qky]
 rt6:=λg hg=>match g,hg with
  |0,_=>by
   have hl:(se2 c0 c1 a b c d).length=c0+c1+a:=by simp[se2,Xz e,Xz e1,Xz e2];omega
   show Q5u (se2 c0 c1 a b c d).length (pt2 c0 c1).length (li2 c0 c1 a) (c0+c1) a 0 c0 c0 c1=true
   grind[QiY]
def QbC(c0 c1 a b d:Nat)(e f g h i:Y NL):Geo where
 N:=3
 St:=[nmS 0,nmS 1,nmS 2]
 Pt:=pt3 c0 c1 a
 Se:=se3 c0 c1 a b d e f g h i
 Li:=li3 c0 c1 a b d
 Tr:=[[D.sl 1 (Wg (ups 0 c0))],[D.sl 1 (Wg (ups c0 c1))],[D.sl 1 (Wg (ups (c0+c1) a))]]
 Bt:=[[D.sl 1 (Wg (ups (c0+c1+a) b))],[D.sl 1 (Wg (ups (c0+c1+a+b) d))]]
 k:=λ| 0=>0 | 1=>c0 | _=>c0+c1
 c:=λ| 0=>c0 | 1=>c1 | _=>a
 s:=λ| 0=>c0+c1+a | _=>c0+c1+a+b
 u:=λ| 0=>b | _=>d
theorem Qfy{c0 c1 a b c:Nat}{d e f h j:Y NL}(l:c0=1\/c0=2)(m:c1=1\/c1=2)(h2:a=1\/a=2)(n:b=1\/b=2)(o:c=1\/c=2)(n0:Hp d)(n1:Hp e)(n2:Hp f)(s:Hp h)(t:Hp j)(p:d.length=c0)(e1:e.length=c1)(e2:f.length=a)(q:h.length=b)(r:j.length=c):(QbC c0 c1 a b c d e f h j).OK where
 hN:=.inr rfl
 st:=rfl
 lay:=QkM l m h2 n o n0 n1 n2 s t p e1 e2 q r
 ref:=QkF l m h2 n o n0 n1 n2 s t p e1 e2 q r
 trl:=rfl
 tr:=λi hi=>match i,hi with
  |0,_=>rfl
  |1,_=>rfl
  |2,_=>rfl
 ct:=λi hi=>match i,hi with
  |0,_=>l
  |1,_=>m
  |2,_=>h2
 k6:=λi hi=>match i,hi with
  |0,_=>by show 0+c0<=6;omega
  |1,_=>by show c0+c1<=6;omega
  |2,_=>by show c0+c1+a<=6;omega
 btl:=rfl
 bt:=λg hg=>match g,hg with
  |0,_=>rfl
  |1,_=>rfl
 ut:=λg hg=>match g,hg with
  |0,_=>n
  |1,_=>o
 sec:=λi hi=>match i,hi with
  |0,_=>λx hx=>QhS (A:=[]) (i:=0) (B:=YN (secT 1) c1 e++(YN (secT 2) a f++(YN (secL 0) b h++YN (secL 1) c j))) (by simp[QbC,se3]) rfl n0 p hx
  |1,_=>λx hx=>QhS (A:=YN (secT 0) c0 d) (i:=1) (B:=YN (secT 2) a f++(YN (secL 0) b h++YN (secL 1) c j)) (by simp[QbC,se3]) (Xz p) n1 e1 hx
  |2,_=>λx hx=>QhS (A:=YN (secT 0) c0 d++YN (secT 1) c1 e) (i:=2) (B:=YN (secL 0) b h++YN (secL 1) c j) (by simp[QbC,se3]) (by grind[QbC,Xz]) n2 e2 hx
 gap:=λg hg=>match g,hg with
  |0,_=>λx hx=>Qj3 (A:=YN (secT 0) c0 d++YN (secT 1) c1 e++YN (secT 2) a f) (i:=0) (B:=YN (secL 1) c j) (by simp[QbC,se3]) (by grind[QbC,Xz]) s q hx
  |1,_=>λx hx=>Qj3 (A:=YN (secT 0) c0 d++YN (secT 1) c1 e++YN (secT 2) a f++YN (secL 0) b h) (i:=1) (B:=[]) (by simp[QbC,se3]) (by grind[QbC,Xz]) t r hx
 rts:=λg hg=>by
  have hl:(se3 c0 c1 a b c d e f h j).length=c0+c1+a+b+c:=by grind[se3,Xz]
  have k:=QkE l m h2 n o;simp only[Qr3]at k
  match g,hg with
  |0,_=>
   show Qdq (se3 c0 c1 a b c d e f h j).length (li3 c0 c1 a b c) (c0+c1+a) b 0 c0 c0 c1=true
   simp_all
  |1,_=>
   show Qdq (se3 c0 c1 a b c d e f h j).length (li3 c0 c1 a b c) (c0+c1+a+b) c c0 c1 (c0+c1) a=true;rw[hl];exact k.2
 rt6:=λg hg=>by
  have hl:(se3 c0 c1 a b c d e f h j).length=c0+c1+a+b+c:=by simp[se3,Xz p,Xz e1,Xz e2,Xz q,Xz r];omega
  have k:=Qiz l m h2 n o;simp only[Qr3]at k
  match g,hg with
  |0,_=>
   show Q5u (se3 c0 c1 a b c d e f h j).length (pt3 c0 c1 a).length (li3 c0 c1 a b c) (c0+c1+a) b 0 c0 c0 c1=true;rw[hl];exact k.1
  |1,_=>
   show Q5u (se3 c0 c1 a b c d e f h j).length (pt3 c0 c1 a).length (li3 c0 c1 a b c) (c0+c1+a+b) c c0 c1 (c0+c1) a=true;rw[hl];exact k.2
theorem Qks{R:Type}{l:Y Int}(hl:l.length<=9223372036854775807){P:R->Prop}{i:Nat}(hi:i<=l.length){K:LL->LL->LL->LL->LL->LL->LL->Int->oP R}(H:∀(G:Geo) (j:Nat),G.OK->j<=l.length->K G.St G.Pt G.Se G.Li G.Tr G.Bt [] (j:Int)∈P):Q3i 400 (encI l) (i:Int) K∈P:=by
 refine VI hl hi Q1 Q1 λv j f g hj=>?_
 rcases two f g with rfl | rfl
 ·exact QiR hl (m:=397) hj λc0 c1 a b c d j a0 a1 a2 n0 n1 n2 e e1 e2 hj=>H (Qg8 c0 c1 a b c d) j (QeB a0 a1 a2 n0 n1 n2 e e1 e2) hj
 ·exact QiU hl (m:=396) hj λc0 c1 h a k b c n d o j a0 a1 a2 p q n0 n1 n2 r s e e1 e2 t u hj=>H (QbC c0 c1 h a k b c n d o) j (Qfy a0 a1 a2 p q n0 n1 n2 r s e e1 e2 t u) hj
section
variable{R:Type}
theorem Q2c{T:LL}{g:Nat}{l:LL}(h:T[g]? = some [D.sl 1 l])(K:LL->oP R) :
  gb true (inB (List.length T) (g:Int)) () (λ_=>gb true (T[(Int.toNat (g:Int))]?) [] λa=>gb true (a[0]?) oF λc3=>gb true (pSl 1 c3) [] λb=>K b)=K l:=by
 have aa:g<T.length:=(QqI.1 h).1;rw[XR I I,Qh,QqC,h];rfl
theorem Qim{k c a:Nat}(hc:c=1\/c=2)(ha:a<2)(K:Int->oP R) :
  gb true (nz ((List.length (Wg (ups k c)):Nat):Int)) () (λ_=>gb true (Qi (Wg (ups k c)) (Int.tmod (a:Int) ((List.length (Wg (ups k c)):Nat):Int))) [] λb=>gb true (b[0]?) oF λd=>gb true (pIw d) 0 λe=>K e)=K ((k+a % c:Nat):Int):=by
 obtain rfl | rfl:a=0\/a=1:=I
 ·rcases hc with rfl | rfl<;>rfl
 ·rcases hc with rfl | rfl
  ·rw[show k+1 % 1=k from rfl,show List.length (Wg (ups k 1))=1 from rfl,show Int.tmod ((1:Nat):Int) ((1:Nat):Int)=0 by decide];rfl
  ·rfl
theorem Qcy{s u:Nat}{x:Int}(hu:u=1\/u=2){k0:Int->Bool->LL->oP R} :
  ZN 400 (Wg (ups s u)) ((List.length (Wg (ups s u)):Nat):Int) k0 400 (0:Int) [[D.int .i64 x,D.int .i64 (0:Int)]]
   = k0 (u:Int) false ([Ql x,Ql 0]::((ups s u).map λk=>[Ql (k:Nat),Ql 0])):=by
 rcases hu with rfl | rfl<;>rfl
theorem QcA{s u:Nat}{x:Int}(hu:u=1\/u=2){k0:Int->Bool->LL->oP R} :
  ZT 400 (Wg (ups s u)) k0 400 (wJ (((List.length (Wg (ups s u)):Nat):Int)-(1:Int))) [[D.int .i64 x,D.int .i64 (1:Int)]]
   = k0 (-1) false ([Ql x,Ql 1]::((ups s u).reverse.map λk=>[Ql (k:Nat),Ql 1])):=by
 rcases hu with rfl | rfl<;>rfl
theorem Qai{Tr Bt:LL}{g k c k' c' s u a b:Nat}{up:Bool}(hg:g<8)(hT:Tr[g]? = some [D.sl 1 (Wg (ups k c))])(aa:Tr[g+1]? = some [D.sl 1 (Wg (ups k' c'))])(hB:Bt[g]? = some [D.sl 1 (Wg (ups s u))])(hc:c=1\/c=2)(ac:c'=1\/c'=2)(hu:u=1\/u=2)(ha:a<2)(hb:b<2)(K:LL->Int->oP R) :
  YL 400 Tr Bt (g:Int) (a:Int) (b:Int) up K=K (K5 s u (k+a % c) (k'+b % c') up) 0:=by
 have ai:wJ ((g:Int)+1)=((g+1:Nat):Int):=by grind[Qo]
 have hl:(ups s u).length=u:=by rcases hu with rfl | rfl<;>rfl
 have d:u<=2:=I
 unfold YL;rw[Q2c hB];cases up
 ·rw[Qq rfl];rw[ai,Q2c aa,Q2c aa,Qim ac hb,XM Q2,Qh];rw[QcA hu,Q2c hT,Q2c hT,Qim hc ha,XM (by simp[hl];omega),Qh];rfl
 ·rw[Xi rfl,Q2c hT,Q2c hT,Qim hc ha,XM Q2,Qh];rw[Qcy hu,ai,Q2c aa,Q2c aa,Qim ac hb,XM (by simp[hl];omega),Qh];rfl
end
def Sta(G:Geo)(x:Int):Prop:=∃nm a b d i,Qi G.Se x=some [D.str nm,Ql a,Ql b,Ql d,Ql i]/\0<=i/\x<6/\2<=a
structure RtOK(G:Geo)(s:LL)(x y:Int):Prop where
 l2:2<=s.length
 l24:s.length<=24
 rt:rtB G.Se.length G.Li s=true
 rt6:QhY G.Se.length G.Li s=true
 hops:Q0N G.Se.length G.Pt.length G.Li 0 s=true
 shp:∃g x y up,g+1<G.N/\s=K5 (G.s g) (G.u g) x y up/\x∈ups (G.k g) (G.c g)/\y∈ups (G.k (g+1)) (G.c (g+1))
 st:∀r∈s,Dv G.Se r
 sx:Sta G x
 sy:Sta G y
 fst:∃d,Qi s 0=some [Ql x,Ql d]
 lst:∃d,Qi s ((s.length:Int)-1)=some [Ql y,Ql d]
def Geo.tk(G:Geo)(i a:Nat):Int:=((G.k i+a % G.c i:Nat):Int)
theorem AE{x:Nat}:∀{s u:Nat},x∈ups s u->∃j,j<u/\x=s+j
 |s,0,h=>by simp[ups]at h
 |s,u+1,h=>by
  simp only[ups,List.mem_cons]at h;rcases h with rfl | h
  ·exact⟨0,I,rfl⟩
  ·obtain⟨j,a,h2⟩:=AE h;exact⟨j+1,I,I⟩
theorem EV{c a k:Nat}(hc:c=1\/c=2):(k+a % c)∈ups k c:=by
 rcases hc with rfl | rfl
 ·simp[ups,Nat.mod_one]
 grind[Nat.mod_lt,ups]
theorem Geo.OK.trk{G:Geo}(hG:G.OK){i a:Nat}(hi:i<G.N):(∃nm x b d,Qi G.Se (G.tk i a)=some [D.str nm,Ql x,Ql b,Ql d,Ql i]/\SecN x b d):=
 hG.sec i hi (a % G.c i) (Nat.mod_lt _ (by rcases hG.ct i hi with h | h<;>omega))
theorem Q5V{P:Y D->Prop}{s u x y:Nat}{up:Bool}(hx:∀d,(d=0\/d=1)->P [Ql x,Ql d])(hy:∀d,(d=0\/d=1)->P [Ql y,Ql d])(hs:∀j,j<u->∀d,(d=0\/d=1)->P [Ql ((s+j:Nat):Int),Ql d]):∀r∈K5 s u x y up,P r:=by
 intro r hr;unfold K5 at hr;cases up
 ·simp only[QqD,List.cons_append,List.mem_cons,QqX,List.mem_map,List.mem_reverse,List.not_mem_nil,or_false]at hr;rcases hr with rfl | ⟨k,hk,rfl⟩ | rfl
  ·simp_all
  ·obtain⟨j,a,rfl⟩:=AE hk
   simp_all
  simp_all
 ·simp only[QqE,List.cons_append,List.mem_cons,QqX,List.mem_map,List.not_mem_nil,or_false]at hr;rcases hr with rfl | ⟨k,hk,rfl⟩ | rfl
  ·simp_all
  ·obtain⟨j,a,rfl⟩:=AE hk
   simp_all
  simp_all
theorem Qhr{R:Type}{G:Geo}(hG:G.OK){g a b:Nat}{up:Bool}(hg:g+1<G.N)(ha:a<2)(hb:b<2) :
  ∃s,RtOK G s (bif up then G.tk g a else G.tk (g+1) b) (bif up then G.tk (g+1) b else G.tk g a)/\∀K:LL->Int->oP R,YL 400 G.Tr G.Bt (g:Int) (a:Int) (b:Int) up K=K s 0:=by
 have hN:=hG.hN;have hc:=hG.ct g I;have an:=hG.ct (g+1) hg;have hu:=hG.ut g hg;obtain⟨n1,h,i,k,e1,c⟩:=hG.trk (a:=a) (show g<G.N by omega);obtain⟨n2,l,m,n,e2,e⟩:=hG.trk (a:=b) hg;have ac:=hG.rts g hg;unfold Qdq at ac;have ac:=List.all_eq_true.1 (List.all_eq_true.1 ac _ (EV hc (a:=a))) _ (EV an (a:=b));simp only[Qr3]at ac;have aa:=hG.rt6 g hg;unfold Q5u at aa;have aa:=List.all_eq_true.1 (List.all_eq_true.1 aa _ (EV hc (a:=a))) _ (EV an (a:=b));simp only[Qeg,Qr3]at aa;refine⟨K5 (G.s g) (G.u g) (G.k g+a % G.c g) (G.k (g+1)+b % G.c (g+1)) up,?_,λK=>Qai I (hG.tr g I) (hG.tr (g+1) hg) (hG.bt g hg) hc an hu ha hb K⟩;have am:∀r∈K5 (G.s g) (G.u g) (G.k g+a % G.c g) (G.k (g+1)+b % G.c (g+1)) up,Dv G.Se r:=by
  refine Q5V (λd hd=>⟨_,_,_,_,_,_,_,rfl,e1,c,hd⟩) (λd hd=>⟨_,_,_,_,_,_,_,rfl,e2,e,hd⟩) λj hj d hd=>?_
  obtain⟨o,p,q,t,w3,f,g1⟩:=hG.gap g hg j hj;exact⟨_,_,_,_,_,_,_,rfl,f,g1,hd⟩
 have aj:∃g' x y ao,g'+1<G.N/\K5 (G.s g) (G.u g) (G.k g+a % G.c g) (G.k (g+1)+b % G.c (g+1)) up=K5 (G.s g') (G.u g') x y ao/\x∈ups (G.k g') (G.c g')/\y∈ups (G.k (g'+1)) (G.c (g'+1)):=
  ⟨g,_,_,up,hg,rfl,EV hc,EV an⟩
 have v:=hG.k6 g I;have z:=hG.k6 (g+1) hg;have r1:=Nat.mod_lt a (show 0<G.c g by omega);have r2:=Nat.mod_lt b (show 0<G.c (g+1) by omega);have s1:Sta G (G.tk g a):=⟨_,_,_,_,_,e1,I,by unfold Geo.tk;omega,c.a0⟩;have s2:Sta G (G.tk (g+1) b):=⟨_,_,_,_,_,e2,I,by unfold Geo.tk;omega,e.a0⟩;revert am ac aa aj;generalize G.s g=s;generalize G.u g=u at hu;intro ac aa am aj;have hl:(K5 s u (G.k g+a % G.c g) (G.k (g+1)+b % G.c (g+1)) up).length=u+2:=by
  rcases hu with rfl | rfl<;>cases up<;>rfl
 cases up
 ·exact⟨I,I,ac.2,aa.2.1,aa.2.2,aj,am,s2,s1,by rcases hu with rfl | rfl<;>exact⟨1,rfl⟩,by rw[hl];rcases hu with rfl | rfl<;>exact⟨1,rfl⟩⟩
 ·exact⟨I,I,ac.1,aa.1.1,aa.1.2,aj,am,s1,s2,by rcases hu with rfl | rfl<;>exact⟨0,rfl⟩,by rw[hl];rcases hu with rfl | rfl<;>exact⟨0,rfl⟩⟩
def PU(G:Geo)(Ro:LL)(row:Y D)(x y:Int)(last:Bool):Prop:=
 ∃(rt:Nat) (ex mn mx:Int) (s:LL),row=[Ql rt,Ql ex,Ql mn,Ql mx]/\Ro[rt]? = some [D.sl 2 s,Ql 0]/\RtOK G s x y/\(0<=ex/\ex<3)/\(0<=mn/\mn<=mx/\mx<=mn+3/\mn<=10)/\(last=true->mn=0/\mx=0)
def nmN(k:Nat):Y UInt8:=bs [78]++[UInt8.ofNat (48+k)]
def Q4l(G:Geo)(Ro:LL)(rides:LL):Prop:=
 (∃r x y,rides=[r]/\PU G Ro r x y true)\/(∃r r' x y z,rides=[r,r']/\PU G Ro r x y false/\PU G Ro r' y z true)
def QbK(G:Geo)(Ro:LL)(k:Nat)(row:Y D):Prop:=∃(w:Int) (rides:LL),row=[D.str (nmN k),Ql 0,Ql w,D.sl 4 rides]/\0<=w/\w<4/\Q4l G Ro rides
structure GoodP(G:Geo)(Ro Ls:LL):Prop where
 ro:∀row∈Ro,∃s x y,row=[D.sl 2 s,Ql 0]/\RtOK G s x y
 ls:∀k row,Ls[k]? = some row->QbK G Ro k row
theorem PU.mono{G:Geo}{Ro t:LL}{row:Y D}{x y:Int}{b:Bool}(h:PU G Ro row x y b):PU G (Ro++t) row x y b:=by
 obtain⟨rt,ex,mn,mx,s,a,h2,c⟩:=h;refine⟨rt,ex,mn,mx,s,a,?_,c⟩
 grind
theorem Q4l.mono{G:Geo}{Ro t rides:LL}(h:Q4l G Ro rides):Q4l G (Ro++t) rides:=by
 rcases h with⟨r,x,y,e,h⟩|⟨r,r',x,y,z,e,h,h'⟩
 ·exact .inl ⟨r,x,y,e,h.mono⟩
 ·exact .inr ⟨r,r',x,y,z,e,h.mono,h'.mono⟩
theorem QbK.mono{G:Geo}{Ro t:LL}{k:Nat}{row:Y D}(h:QbK G Ro k row):QbK G (Ro++t) k row:=by
 obtain⟨w,rides,a,h2,b,c⟩:=h;exact⟨w,rides,a,h2,b,c.mono⟩
section
variable{R:Type} {l:Y Int} (hl:l.length<=9223372036854775807) {P:R->Prop}
include hl
def atL(At:Nat->Nat):LL:=[[Ql (At 0)],[Ql (At 1)],[Ql (At 2)]]
theorem Qkv{i:Nat}(hi:i<=l.length){k0:Int->Bool->LL->Int->oP R}(H:∀(At:Nat->Nat) (j:Nat),(∀i,At i<2)->j<=l.length->k0 3 false (atL At) (j:Int)∈P) :
  Wj 400 (encI l) k0 400 (0:Int) [[D.int .i64 (0:Int)],[D.int .i64 (0:Int)],[D.int .i64 (0:Int)]] (i:Int)∈P:=by
 refine VI hl hi Q1 Q1 λa j a0 b0 hj=>?_
 refine VI hl hj Q1 Q1 λb j a1 b1 hj=>?_
 refine VI hl hj Q1 Q1 λc j a2 b2 hj=>?_
 obtain⟨n0,rfl⟩:=QqT a0;obtain⟨n1,rfl⟩:=QqT a1;obtain⟨n2,rfl⟩:=QqT a2;exact H (λ| 0=>n0 | 1=>n1 | _=>n2) j (λ| 0=>by grind | 1=>by grind | _+2=>by grind) hj
end
theorem atA{R:Type}{At:Nat->Nat}{g:Nat}(hg:g<3)(K:Int->oP R) :
  gb true (inB 3 (g:Int)) () (λ_=>gb true ((atL At)[(Int.toNat (g:Int))]?) [] λr=>gb true (r[0]?) oF λc=>gb true (pIw c) 0 λi=>K i)=K (At g):=by
 obtain rfl | rfl | rfl:g=0\/g=1\/g=2:=I
 all_goals rfl
section
variable{R:Type} {l:Y Int} (hl:l.length<=9223372036854775807) {P:R->Prop} {G:Geo} (hG:G.OK)
include hl hG
theorem QdU{up:Bool}{aa h g m:Nat}{acc Ro:LL}{At:Nat->Nat}(ai:∀i,At i<2)(hm:aa<=2)(hh:h<aa)(hg:g=bif up then h else aa-1-h)(hN:aa<G.N)(hR:Ro.length<=100)(ha:acc.length<=10){i:Nat}(hi:i<=l.length){k0:Int->Bool->LL->LL->Int->oP R}(H:∀(s:LL) (ex mn mx:Int) (j:Nat),RtOK G s (bif up then G.tk g (At g)else G.tk (g+1) (At (g+1))) (bif up then G.tk (g+1) (At (g+1))else G.tk g (At g))->0<=ex/\ex<3->(0<=mn/\mn<=mx/\mx<=mn+3/\mn<=10)->(h+1=aa->mn=0/\mx=0)->j<=l.length ->
   QT 400 up (aa:Int) (atL At) G.Tr G.Bt (encI l) k0 m ((h+1:Nat):Int) (acc++[[Ql (Ro.length:Nat),Ql ex,Ql mn,Ql mx]]) (Ro++[[D.sl 2 s,Ql 0]]) (j:Int)∈P) :
  QT 400 up (aa:Int) (atL At) G.Tr G.Bt (encI l) k0 (m+1) (h:Int) acc Ro (i:Int)∈P:=by
 have an:=hG.hN;have ar:g<aa:=by
  rw[hg];cases up
  ·show aa-1-h<aa;omega
  ·exact hh
 have ak:g+1<G.N:=I
 obtain⟨s,hs,e⟩:=Qhr (R:=LL×Int) hG (up:=up) ak (ai g) (ai (g+1));have d:wJ ((h:Int)+1)=((h+1:Nat):Int):=by rw[Qo I I];omega
 have f:wJ ((g:Int)+1)=((g+1:Nat):Int):=by rw[Qo I I];omega
 have k:up=false->wJ (wJ ((aa:Int)-1)-(h:Int))=(g:Int):=by
  intro hu;rw[Qo (x:=(aa:Int)-1) I I,Qo I I];simp[hu]at hg;omega
 have ac:wJ ((((Ro++[[D.sl 2 s,Ql 0]]).length:Nat):Int)-1)=(Ro.length:Int):=by
  rw[show(Ro++[[D.sl 2 s,Ql 0]]).length=Ro.length+1 by simp,Qo I I];omega
 rw[QT,Xi Q3,d];cases up
 ·rw[Xi (c:=!false) rfl,k rfl,f,atA I,atA I,e,Qh,XM Q3,Qh];refine VI hl hi Q1 Q1 λex j a b hj=>?_
  dsimp only;rw[ac];by_cases hlast:h+1<aa
  ·rw[Xi Q3];refine VI hl hj Q1 Q1 λmn j n o hj=>?_
   refine VI hl hj Q1 Q1 λmx j p q hj=>?_
   rw[XM Q3,Qh];dsimp only;rw[Qo (x:=5+mn) I I,Qo (x:=5+mn+mx) I I];exact H s ex (5+mn) (5+mn+mx) j hs ⟨a,b⟩ ⟨I,I,I,I⟩ (λhx=>absurd hx I) hj
  ·rw[Qq Q3,XM Q3,Qh];exact H s ex 0 0 j hs ⟨a,b⟩ ⟨I,I,I,I⟩ (λhx=>⟨rfl,rfl⟩) hj
 ·have am:g=h:=by simpa using hg
  subst am;rw[Qq (c:=!true) rfl,atA I,atA I,e,Qh,XM Q3,Qh];refine VI hl hi Q1 Q1 λex j a b hj=>?_
  dsimp only;rw[ac];by_cases hlast:g+1<aa
  ·rw[Xi Q3];refine VI hl hj Q1 Q1 λmn j n o hj=>?_
   refine VI hl hj Q1 Q1 λmx j p q hj=>?_
   rw[XM Q3,Qh];dsimp only;rw[Qo (x:=5+mn) I I,Qo (x:=5+mn+mx) I I];exact H s ex (5+mn) (5+mn+mx) j hs ⟨a,b⟩ ⟨I,I,I,I⟩ (λhx=>absurd hx I) hj
  ·rw[Qq Q3,XM Q3,Qh];exact H s ex 0 0 j hs ⟨a,b⟩ ⟨I,I,I,I⟩ (λhx=>⟨rfl,rfl⟩) hj
omit hl hG in
theorem Q7P{n m:Nat}{f:Bool}{b a:Int}{g i j k c d:LL}{e:Int}{k0:Int->Bool->LL->LL->Int->oP R}(h:¬ a<b) :
  QT n f b g i j k k0 (m+1) a c d e=k0 a false c d e:=by
 rw[QT,Qq (by simpa using h)];simp[h]
theorem QiZ{up:Bool}{ai:Nat}{Ro Ls:LL}(hm:ai=1\/ai=2)(hN:ai<G.N)(aa:GoodP G Ro Ls)(hR:Ro.length<=20)(hL:Ls.length<6){i:Nat}(hi:i<=l.length){K:Int->LL->LL->oP R}(H:∀(Ro' Ls':LL) (j:Nat),GoodP G Ro' Ls'->Ls'.length=Ls.length+1->Ro'.length<=Ro.length+2->j<=l.length->K (j:Int) Ro' Ls'∈P) :
  UU 400 G.Tr G.Bt (encI l) (i:Int) Ro Ls up (ai:Int) K∈P:=by
 unfold UU;rw[BO _ _ Ls.length I Q1,Qh];refine VI hl hi Q1 Q1 λw j w0 c hj=>?_
 dsimp only;refine Qkv hl hj λAt j am hj=>?_
 rcases hm with rfl | rfl
 ·refine QdU hl hG (h:=0) (g:=0) am Q1 Q1 Q4 hN I Q1 hj λs ex mn mx j hs hex ak hlast hj=>?_
  rw[Q7P Q1];rw[XM Q3,Qh];refine H _ _ j ⟨λrow hr=>?_,λk row hk=>?_⟩ Q2 Q2 hj
  ·rcases QqX.1 hr with hr | hr
   ·exact aa.ro row hr
   grind
  ·rcases Nat.lt_or_ge k Ls.length with ac | ac
   ·rw[QqU ac]at hk;exact(aa.ls k row hk).mono
   ·rw[QqS ac]at hk;obtain⟨a,rfl⟩:=QqI.1 hk;simp at a;have b:k=Ls.length:=I
    subst b;refine⟨w,_,by simp[nmN],w0,c,.inl ⟨_,_,_,rfl,Ro.length,ex,mn,mx,s,rfl,by simp,hs,hex,ak,λ_=>hlast rfl⟩⟩
 ·obtain⟨g0,d⟩:∃g0,g0=bif up then 0 else 1:=⟨_,rfl⟩
  obtain⟨g1,e⟩:∃g1,g1=bif up then 1 else 0:=⟨_,rfl⟩
  refine QdU hl hG (h:=0) (g:=g0) am Q1 Q1 (by cases up<;>simpa using d) hN I Q1 hj λs ex mn mx j hs hex ak hlast hj=>?_
  refine QdU hl hG (h:=1) (g:=g1) am Q1 Q1 (by cases up<;>simpa using e) hN Q3 Q2 hj λs' aw ax ay j ao ar an aj hj=>?_
  have au:(bif up then G.tk (g0+1) (At (g0+1))else G.tk g0 (At g0))=(bif up then G.tk g1 (At g1)else G.tk (g1+1) (At (g1+1))):=by
   subst d e;cases up<;>rfl
  rw[au]at hs;rw[Q7P Q1];rw[XM Q3,Qh];refine H _ _ j ⟨λrow hr=>?_,λk row hk=>?_⟩ Q2 Q2 hj
  ·rcases QqX.1 hr with hr | hr
   ·rcases QqX.1 hr with hr | hr
    ·exact aa.ro row hr
    ·rw[List.mem_singleton.1 hr];exact⟨s,_,_,rfl,hs⟩
   ·rw[List.mem_singleton.1 hr];exact⟨s',_,_,rfl,ao⟩
  ·rcases Nat.lt_or_ge k Ls.length with ac | ac
   ·rw[QqU ac]at hk;exact(aa.ls k row hk).mono.mono
   ·rw[QqS ac]at hk;obtain⟨a,rfl⟩:=QqI.1 hk;simp at a;have b:k=Ls.length:=I
    subst b;refine⟨w,_,by simp[nmN],w0,c,.inr ⟨_,_,_,_,_,rfl,PU.mono ⟨Ro.length,ex,mn,mx,s,rfl,by simp,hs,hex,ak,λh=>by cases h⟩,(Ro++[[D.sl 2 s,Ql 0]]).length,aw,ax,ay,s',rfl,by simp,ao,ar,an,λ_=>aj rfl⟩⟩
end
def TH(Ls:LL)(k i:Nat)(r:Y D):Prop:=∃nm w rides,Ls[k]? = some [D.str nm,Ql 0,Ql w,D.sl 4 rides]/\rides[i]? = some r
theorem Qp(w:LL)(i:Nat):Qi w (i:Int)=w[i]?:=by simp[Qi]
section
variable{R:Type} {n:Nat}
theorem Qdf{G:Geo}{Ro Ls:LL}{k i:Nat}{r:Y D}{x y:Int}{b:Bool}(h:TH Ls k i r)(hr:PU G Ro r x y b){p:Int}{a1 a c e f:LL}(K:Int->oP R):Ss n p a1 Ro Ls a c e f (k:Int) (i:Int) K=K x:=by
 obtain⟨nm,w,rides,j,h2⟩:=h;obtain⟨rt,ex,mn,mx,s,rfl,l,g,_⟩:=hr;obtain⟨d,h5⟩:=g.fst
 simp_all [Ss,Qp,Qh,QqA,QqB,X2,Qj]
theorem Qgi{G:Geo}{Ro Ls:LL}{k i:Nat}{r:Y D}{x y:Int}{b:Bool}(h:TH Ls k i r)(hr:PU G Ro r x y b){p:Int}{a1 c e f g:LL}(K:Int->oP R):Ms n p a1 Ro Ls c e f g (k:Int) (i:Int) K=K y:=by
 obtain⟨nm,w,rides,j,h2⟩:=h;obtain⟨rt,ex,mn,mx,s,rfl,l,a,_⟩:=hr;obtain⟨d,h5⟩:=a.lst;have l2:=a.l2;have l24:=a.l24;unfold Ms;rw[Qp,j,Qh];dsimp only[List.getElem?_cons_zero,List.getElem?_cons_succ];rw[Qh,X2,Qh,Qp,h2,Qh];dsimp only[List.getElem?_cons_zero,List.getElem?_cons_succ];rw[Qh,Qj,Qh,Qp,l,Qh];dsimp only[List.getElem?_cons_zero,List.getElem?_cons_succ];rw[Qh,Qh,X2,Qh,Qh,Qo I I,h5];rfl
end
theorem Q7h{G:Geo}{Ro Ls:LL}(hg:GoodP G Ro Ls){k:Nat}(hk:k<Ls.length) :
  ∃(w:Int) (rides:LL) (r r':Y D) (x x' y y':Int) (b:Bool),Ls[k]? = some [D.str (nmN k),Ql 0,Ql w,D.sl 4 rides]/\(rides.length=1\/rides.length=2)/\rides[0]? = some r/\rides[rides.length-1]? = some r'/\PU G Ro r x y b/\PU G Ro r' x' y' true:=by
 obtain⟨w,rides,c,h2,d,a⟩:=hg.ls k _ (QqF hk);refine⟨w,rides,?_⟩;rcases a with⟨r,x,y,rfl,h⟩|⟨r,r',x,y,z,rfl,h,h'⟩
 all_goals grind
abbrev Tup:=Nat×Nat×Int×Int
def tuR(t:Tup):Y D:=[Ql t.1,Ql t.2.1,Ql t.2.2.1,Ql t.2.2.2]
def QaM(G:Geo)(Ro Ls:LL)(t:Tup):Prop:=
 t.1<Ls.length/\t.2.1<Ls.length/\10<=t.2.2.1/\t.2.2.1<=19/\t.2.2.1<=t.2.2.2/\t.2.2.2<=t.2.2.1+29 /\
 ∃(nm:Y UInt8) (w:Int) (rides:LL) (r r':Y D) (x y z:Int) (b b':Bool),Ls[t.1]? = some [D.str nm,Ql 0,Ql w,D.sl 4 rides]/\rides[rides.length-1]? = some r/\1<=rides.length/\rides.length<=2/\TH Ls t.2.1 0 r'/\PU G Ro r x y b/\PU G Ro r' y z b'
structure TInv(G:Geo)(Ro Ls:LL)(T:List Tup)(FA TA:LL):Prop where
 ok:∀t∈T,QaM G Ro Ls t
 fd:(T.map (·.1)).Nodup
 td:(T.map (·.2.1)).Nodup
 fl:∀i,i<4->∃b,FA[i]? = some [D.bool b]/\(b=false->i ∉ T.map (·.1))
 tl:∀i,i<4->∃b,TA[i]? = some [D.bool b]/\(b=false->i ∉ T.map (·.2.1))
theorem gbF{α R:Type}(p:oP α)(z:α)(k:α->oP R):gb false p z k=k (p.getD z):=by cases p<;>rfl
theorem TInv.add{G:Geo}{Ro Ls:LL}{T:Y Tup}{FA TA:LL}(h:TInv G Ro Ls T FA TA){t:Tup}(ht:QaM G Ro Ls t)(d:t.1 ∉ T.map (·.1))(h2:t.2.1 ∉ T.map (·.2.1)):TInv G Ro Ls (T++[t]) (FA.set t.1 [D.bool true]) (TA.set t.2.1 [D.bool true]) where
 ok:=λu hu=>by
  rcases QqX.1 hu with hu | hu
  ·exact h.ok u hu
  simp_all
 fd:=by
  rw[Qr2,List.nodup_append];refine⟨h.fd,by simp,λa ha b hb=>?_⟩
  grind
 td:=by
  rw[Qr2,List.nodup_append];refine⟨h.td,by simp,λa ha b hb=>?_⟩;simp at hb;subst hb;intro e;subst e;exact h2 ha
 fl:=λi hi=>by
  obtain⟨b,e,hb⟩:=h.fl i hi;by_cases aa:t.1=i
  ·subst aa;refine⟨true,?_,λh=>by cases h⟩;rw[List.getElem?_set_self (QqI.1 e).1]
  ·refine⟨b,by rw[List.getElem?_set_ne aa];exact e,λc hm=>?_⟩;rw[Qr2]at hm;rcases QqX.1 hm with hm | hm
   ·exact hb c hm
   ·simp at hm;exact aa hm.symm
 tl:=λi hi=>by
  obtain⟨b,e,hb⟩:=h.tl i hi;by_cases aa:t.2.1=i
  ·subst aa;refine⟨true,?_,λh=>by cases h⟩;rw[List.getElem?_set_self (QqI.1 e).1]
  ·refine⟨b,by rw[List.getElem?_set_ne aa];exact e,λc hm=>?_⟩;rw[Qr2]at hm;rcases QqX.1 hm with hm | hm
   ·exact hb c hm
   ·simp at hm;exact aa hm.symm
section
variable{R:Type} {l:Y Int} (hl:l.length<=9223372036854775807) {P:R->Prop} {G:Geo} {Ro Ls:LL} (hg:GoodP G Ro Ls) (hL:Ls.length<=3)
include hl hg hL
theorem QhT{a b m:Nat}{b1:Int}{FA TA c q5 q7 d:LL}{T:Y Tup}(ha:a<Ls.length)(hb:b<Ls.length)(hT:TInv G Ro Ls T FA TA)(a3:T.length<=100){i:Nat}(hi:i<=l.length){k0:Int->Bool->LL->LL->LL->Int->oP R}(H:∀(FA TA:LL) (T':Y Tup) (j:Nat),TInv G Ro Ls T' FA TA->T'.length<=T.length+1->j<=l.length->YE 400 (a:Int) (Ls.length:Int) c Ro Ls q5 q7 d (encI l) b1 k0 m ((b+1:Nat):Int) FA TA (T'.map tuR) (j:Int)∈P) :
  YE 400 (a:Int) (Ls.length:Int) c Ro Ls q5 q7 d (encI l) b1 k0 (m+1) (b:Int) FA TA (T.map tuR) (i:Int)∈P:=by
 have au:wJ ((b:Int)+1)=((b+1:Nat):Int):=by rw[Qo I I];omega
 rw[YE,Xi Q3,au];refine VI hl hi Q1 Q1 λv j p q hj=>?_
 dsimp only;have aa:=H FA TA T j hT I hj;by_cases hv:v=0
 ·subst hv;rw[show decide ((0:Int)>0)=false from rfl];simp only[gbF,QqD];exact aa
 rw[show decide (v>0)=true by simp;omega];obtain⟨fb,ef,hf⟩:=hT.fl a I;obtain⟨tb,et,ht⟩:=hT.tl b I;rw[XR I I,Qh,QqC,ef,Qh];show gb true (some (D.bool fb)) _ (λh=>gb true (PV h) _ _)∈P;rw[Qh,show PV (D.bool fb)=some fb from rfl,Qh];cases fb
 case true=>
  simp only[gbF,QqH,QqD,QqE];exact aa
 rw[show(bif true then !false else false)=true from rfl,XR I I,Qh,QqC,et,Qh];show gb true (some (D.bool tb)) _ (λk=>gb true (PV k) _ _)∈P;rw[Qh,show PV (D.bool tb)=some tb from rfl,Qh];cases tb
 case true=>
  simp only[gbF,QqH,QqD,QqE];exact aa
 obtain⟨w,rides,s,r,u,x,z,y,b0,e1,e2,e3,e,e5,f⟩:=Q7h hg ha;obtain⟨w',ak,r',r1,x',x1,y',y1,a5,g1,g2,n,g4,g,g6⟩:=Q7h hg hb;have ar:TH Ls a (rides.length-1) r:=⟨_,_,_,e1,e⟩;have aj:TH Ls b 0 r':=⟨_,_,_,g1,n⟩;have ax:wJ ((rides.length:Int)-1)=((rides.length-1:Nat):Int):=by rw[Qo I I];omega
 rw[show(bif true then !false else false)=true from rfl,XR I I,Qh,e1,Qh];show gb true (some (D.sl 4 rides)) _ (λo=>gb true (pSl 4 o) _ _)∈P;rw[Qh,X2,Qh,ax,Qgi ar f,Qh,show(0:Int)=((0:Nat):Int)from rfl,Qdf aj g,Qh];by_cases ai:y=x'
 case neg=>
  rw[Qq (by simpa using ai)];exact aa
 subst ai;rw[Xi Q2,Qh,Qh,Qh,Qh];refine VI hl hj Q1 Q1 λlo j l0 l1 hj=>?_
 refine VI hl hj Q1 Q1 λac j h0 h1 hj=>?_
 dsimp only;rw[XM Q3,Qh,Qo (x:=10+lo) I I,Qo (x:=10+lo+ac) I I];have:=H _ _ (T++[(a,b,10+lo,10+lo+ac)]) j (hT.add (t:=(a,b,10+lo,10+lo+ac)) ⟨ha,hb,by simp;omega,by simp;omega,by simp;omega,by simp;omega,_,_,_,_,_,_,_,_,_,_,e1,e,I,I,aj,f,g⟩ (hf rfl) (ht rfl)) Q2 hj;rw[Qr2]at this;exact this
theorem Qdh{a:Nat}{b1:Int}{c q5 q7 d:LL}(ha:a<Ls.length){k0:Int->Bool->LL->LL->LL->Int->oP R}:∀(k m b:Nat) (FA TA:LL) (T:Y Tup) (i:Nat),b+k=Ls.length->k<m->TInv G Ro Ls T FA TA->T.length+k<=60->i<=l.length ->
  (∀(FA TA:LL) (T':Y Tup) (j:Nat),TInv G Ro Ls T' FA TA->T'.length<=T.length+k->j<=l.length->k0 (Ls.length:Int) false FA TA (T'.map tuR) (j:Int)∈P) ->
  YE 400 (a:Int) (Ls.length:Int) c Ro Ls q5 q7 d (encI l) b1 k0 m (b:Int) FA TA (T.map tuR) (i:Int)∈P
 |0,m+1,b,FA,TA,T,i,hb,_,hT,ai,hi,H=>by
  subst hb;rw[YE,Qq Q2,show decide ((Ls.length:Int)<(Ls.length:Int))=false by simp]
  simp_all
 |k+1,m+1,b,FA,TA,T,i,hb,hm,hT,ai,hi,H=>by
  refine QhT hl hg hL ha I hT I hi λFA TA T' j aj am hj=>?_
  exact Qdh ha k m (b+1) FA TA T' j I I aj I hj λFA TA T'' j aa ac hj=>H FA TA T'' j aa I hj
theorem Qd0{b1:Int}{b q5 q7 c:LL}{k0:Int->Bool->LL->LL->LL->Int->oP R}:∀(k m a:Nat) (FA TA:LL) (T:Y Tup) (i:Nat),a+k=Ls.length->k<m->TInv G Ro Ls T FA TA->T.length+3*k<=50->i<=l.length ->
  (∀(FA TA:LL) (T':Y Tup) (j:Nat),TInv G Ro Ls T' FA TA->T'.length<=T.length+3*k->j<=l.length->k0 (Ls.length:Int) false FA TA (T'.map tuR) (j:Int)∈P) ->
  U5 400 (Ls.length:Int) b Ro Ls q5 q7 c (encI l) b1 k0 m (a:Int) FA TA (T.map tuR) (i:Int)∈P
 |0,m+1,a,FA,TA,T,i,hb,_,hT,ai,hi,H=>by
  subst hb;rw[U5,Qq Q2,show decide ((Ls.length:Int)<(Ls.length:Int))=false by simp]
  simp_all
 |k+1,m+1,a,FA,TA,T,i,hb,hm,hT,ai,hi,H=>by
  rw[U5,Xi Q3];refine Qdh hl hg hL I Ls.length 400 0 FA TA T i I I hT I hi λFA TA T' j aj am hj=>?_
  rw[show wJ ((a:Int)+1)=((a+1:Nat):Int) by grind[Qo]];exact Qd0 k m (a+1) FA TA T' j I I aj I hj λFA TA T'' j aa ac hj=>H FA TA T'' j aa I hj
theorem QhK{b1:Int}{a q5 q7 b:LL}{i:Nat}(hi:i<=l.length){K:Int->LL->oP R}(H:∀(T:Y Tup) (j:Nat),(∀t∈T,QaM G Ro Ls t)->(T.map (·.1)).Nodup->(T.map (·.2.1)).Nodup->T.length<=20->j<=l.length->K (j:Int) (T.map tuR)∈P) :
  RZ 400 (encI l) (i:Int) b1 a Ro Ls q5 [] q7 b K∈P:=by
 refine Qd0 hl hg hL (T:=[]) Ls.length 400 0 _ _ i I I ⟨by simp,by simp,by simp,?_,?_⟩ Q3 hi λFA TA T j hT ac hj=>?_
 ·intro i hi;obtain rfl | rfl | rfl | rfl:i=0\/i=1\/i=2\/i=3:=I
  all_goals simp
 ·intro i hi;obtain rfl | rfl | rfl | rfl:i=0\/i=1\/i=2\/i=3:=I
  all_goals simp_all
 ·exact H T j hT.ok hT.fd hT.td (by grind) hj
end
theorem RI{w:LL}{x:Int}{r:Y D}(h:Qi w x=some r):inB w.length x=some ()/\w[x.toNat]? = some r:=by
 grind[Qi,List.getElem?_eq_some_iff,XR]
def Q6U(G:Geo)(per:Int)(Ro Ls:LL)(row:Y D):Prop:=
 ∃(f fr t tr:Nat) (mn mx w:Int) (r r':Y D) (x y x' y':Int) (b b':Bool) (i:Int),row=[Ql f,Ql fr,Ql t,Ql tr,Ql mn,Ql mx,Ql w]/\TH Ls f fr r/\TH Ls t tr r'/\PU G Ro r x y b/\PU G Ro r' x' y' b'/\f≠t/\(0<=mn/\mn<20/\mn<=mx/\mx<mn+per)/\(0<=w/\w<3) /\
  (∃nm a c d,Qi G.Se y=some [D.str nm,Ql a,Ql c,Ql d,Ql i])/\(∃nm a c d,Qi G.Se x'=some [D.str nm,Ql a,Ql c,Ql d,Ql i])/\0<=i
def Qj7(per:Int)(Ls:LL)(row:Y D):Prop:=∃o:Int,row=[Ql 0,Ql 0,Ql 1,Ql 0,Ql o]/\0<=o/\o<per/\2<=Ls.length
def Qh0(N:Nat)(row:Y D):Prop:=∃f t w:Int,row=[Ql f,Ql t,Ql w]/\(0<=f/\f<N)/\(0<=t/\t<N)/\f≠t/\1<=w/\w<=9
def Q1N(Sk:LL):Prop:=∃a b c d:Int,Sk=[[D.str (bs [88]),Ql a,Ql b,Ql c,Ql d]]/\StkN a b c d
structure PlanR(G:Geo)(per:Int)(Sk Ro Ls Ch Tu Sy De:LL):Prop where
 ok:G.OK
 p0:90<=per
 p1:per<=300
 sk:Q1N Sk
 good:GoodP G Ro Ls
 l0:1<=Ls.length
 l1:Ls.length<=3
 rl:Ro.length<=6
 ch:∀row∈Ch,Q6U G per Ro Ls row
 chl:Ch.length<=2
 tu:∃T:List Tup,Tu=T.map tuR/\(∀t∈T,QaM G Ro Ls t)/\(T.map (·.1)).Nodup/\(T.map (·.2.1)).Nodup/\T.length<=20
 sy:∀row∈Sy,Qj7 per Ls row
 syl:Sy.length<=1
 de:∀row∈De,Qh0 G.N row
 del:De.length<=2
theorem QkI{pl:LL}(hp:pl=[[D.int .i64 (150:Int)],[D.int .i64 (120:Int)],[D.int .i64 (180:Int)],[D.int .i64 (240:Int)],[D.int .i64 (300:Int)],[D.int .i64 (90:Int)]]){v:Int}(a:0<=v)(b:v<6) :
  ∃per:Int,90<=per/\per<=300/\∀{R:Type} (K:Int->oP R),gb true (inB (List.length pl) v) () (λ_=>gb true (pl[(Int.toNat v)]?) [] λr=>gb true (r[0]?) oF λc=>gb true (pIw c) 0 λi=>K i)=K per:=by
 subst hp;obtain rfl | rfl | rfl | rfl | rfl | rfl:v=0\/v=1\/v=2\/v=3\/v=4\/v=5:=I
 ·exact⟨150,I,I,λK=>rfl⟩
 ·exact⟨120,I,I,λK=>rfl⟩
 ·exact⟨180,I,I,λK=>rfl⟩
 ·exact⟨240,I,I,λK=>rfl⟩
 ·exact⟨300,I,I,λK=>rfl⟩
 ·exact⟨90,I,I,λK=>rfl⟩
theorem Cp{G:Geo}{Ro Ls:LL}(hg:GoodP G Ro Ls){k:Nat}(hk:k<Ls.length):∃(w:Int) (rides:LL),Ls[k]? = some [D.str (nmN k),Ql 0,Ql w,D.sl 4 rides]/\(rides.length=1\/rides.length=2)/\∀i,i<rides.length->∃r x y b,TH Ls k i r/\PU G Ro r x y b:=by
 obtain⟨w,rides,c,h2,d,a⟩:=hg.ls k _ (QqF hk);have he:Ls[k]? = some [D.str (nmN k),Ql 0,Ql w,D.sl 4 rides]:=by simp_all
 refine⟨w,rides,he,?_⟩;rcases a with⟨r,x,y,rfl,h⟩|⟨r,r',x,y,z,rfl,h,h'⟩
 ·refine⟨.inl rfl,λi hi=>?_⟩;have hi:i=0:=by simp_all
  subst hi;exact⟨r,x,y,true,⟨_,_,_,he,rfl⟩,h⟩
 ·refine⟨.inr rfl,λi hi=>?_⟩;obtain rfl | rfl:i=0\/i=1:=by grind
  ·exact⟨r,x,y,false,⟨_,_,_,he,rfl⟩,h⟩
  ·exact⟨r',y,z,true,⟨_,_,_,he,rfl⟩,h'⟩
section
variable{R:Type} {l:Y Int} (hl:l.length<=9223372036854775807) {P:R->Prop} {G:Geo} (hG:G.OK)
include hl hG
theorem Q49{k0:Int->Bool->Int->LL->LL->oP R}:∀(c m:Nat) (Ro Ls:LL) (i:Nat),c<m->Ls.length+c<=3->Ro.length<=2*Ls.length->GoodP G Ro Ls->i<=l.length ->
  (∀(Ro' Ls':LL) (j:Nat),GoodP G Ro' Ls'->Ls'.length=Ls.length+c->Ro'.length<=2*Ls'.length->j<=l.length->k0 0 false (j:Int) Ro' Ls'∈P) ->
  Gj 400 (encI l) G.Tr G.Bt k0 m (c:Int) (i:Int) Ro Ls∈P
 |0,m+1,Ro,Ls,i,_,_,hR,hg,hi,H=>by
  rw[Gj];rw[Qq Q2,show decide (((0:Nat):Int)>0)=false by simp];exact H Ro Ls i hg rfl hR hi
 |c+1,m+1,Ro,Ls,i,hm,hL,hR,hg,hi,H=>by
  have hN:=hG.hN;have hb:=hG.btl;rw[Gj];rw[Xi Q2];refine VI hl hi Q1 Q1 λv j a b hj=>?_
  dsimp only;refine VI hl hj I I λd j g0 g1 hj=>?_
  dsimp only;obtain⟨nv,rfl⟩:=QqT g0;rw[Qo (x:=1+(nv:Int)) I I,show(1:Int)+(nv:Int)=((1+nv:Nat):Int) by omega];refine okB (QiZ hl hG I I hg I I hj λRo' Ls' j aj ao an hj=>okI ?_);dsimp only;rw[show wJ (((c+1:Nat):Int)-1)=(c:Int) by rw[Qo I I];omega];exact Q49 c m Ro' Ls' j I I I aj hj λRo'' Ls'' j aa am ac hj=>H Ro'' Ls'' j aa I ac hj
omit hG in
theorem LV{per:Int}{Ro Ls k n:LL}(d:90<=per)(e:per<=300)(hg:GoodP G Ro Ls)(hL:Ls.length<=3){k0:Int->Bool->Int->LL->oP R}:∀(c m:Nat) (Ch:LL) (i:Nat),c<m->Ch.length+c<=2->(∀row∈Ch,Q6U G per Ro Ls row)->i<=l.length ->
  (∀(h:Int) (b:Bool) (Ch:LL) (j:Nat),(∀row∈Ch,Q6U G per Ro Ls row)->Ch.length<=2->j<=l.length->k0 h b (j:Int) Ch∈P) ->
  Ja 400 per (encI l) k Ro Ls G.Se n k0 m (c:Int) (i:Int) Ch∈P
 |0,m+1,Ch,i,_,ay,hC,hi,H=>by
  grind[Ja]
 |c+1,m+1,Ch,i,hm,ay,hC,hi,H=>by
  rw[Ja];rw[show decide (((c+1:Nat):Int)>0)=true by simp,QqE];by_cases o:Ls.length<=1
  ·rw[show decide ((Ls.length:Int)>1)=false by simp;omega,QqD];exact H _ _ Ch i hC I hi
  rw[show decide ((Ls.length:Int)>1)=true by simp;omega,QqE];refine VI hl hi I I λv j p o hj=>?_
  refine VI hl hj Q1 Q1 λw j w0 q hj=>?_
  dsimp only;obtain⟨f,rfl⟩:=QqT p;have hf:f<Ls.length:=I
  obtain⟨t,et,ht,az⟩:∃t:Nat,Int.tmod (wJ ((f:Int)+1)) (Ls.length:Int)=(t:Int)/\t<Ls.length/\f≠t:=by
   rw[Qo I I,QqW I];refine⟨(f+1) % Ls.length,by simp,Nat.mod_lt _ I,?_⟩;by_cases h:f+1<Ls.length
   ·rw[Nat.mod_eq_of_lt h];omega
   ·rw[show f+1=Ls.length by omega,Nat.mod_self];omega
  rw[et];obtain⟨w2,rides,e1,e2,s⟩:=Cp hg hf;obtain⟨bb,ar,a3,a5,au⟩:=Cp hg ht;rw[DO I,Qh,XR I I,Qh,QqC,e1,Qh];dsimp only[List.getElem?_cons_zero,List.getElem?_cons_succ];rw[Qh,X2,Qh];refine VI hl hj I I λfr j a0 a1 hj=>?_
  dsimp only;rw[XR I I,Qh,QqC,a3,Qh];dsimp only[List.getElem?_cons_zero,List.getElem?_cons_succ];rw[Qh,X2,Qh];refine VI hl hj I I λtr j b0 b1 hj=>?_
  refine VI hl hj Q1 Q1 λmn j c0 c1 hj=>?_
  dsimp only;refine VI hl hj I I λmx j d0 d1 hj=>?_
  dsimp only;obtain⟨fr,rfl⟩:=QqT a0;obtain⟨tr,rfl⟩:=QqT b0;obtain⟨r,x,y,b,hr,hR⟩:=s fr I;obtain⟨r',x',y',b',ai,aj⟩:=au tr I;have ak:=hR;have ac:=aj;obtain⟨_,_,_,_,_,_,_,hS,_⟩:=hR;obtain⟨_,_,_,_,_,_,_,ax,_⟩:=aj;obtain⟨aa,a1,c1,d1,g,g1,u⟩:=hS.sy;obtain⟨ab,a2,c2,d2,z,a,g4⟩:=ax.sx;rw[Qgi hr ak,Qh,(RI g1).1,Qh,(RI g1).2,Qh];dsimp only[List.getElem?_cons_zero,List.getElem?_cons_succ];rw[Qh,Qj,Qh,Qdf ai ac,Qh,(RI a).1,Qh,(RI a).2,Qh];dsimp only[List.getElem?_cons_zero,List.getElem?_cons_succ];rw[Qh,Qj,Qh];have aw:wJ (((c+1:Nat):Int)-1)=(c:Int):=by rw[Qo I I];omega
  rw[aw];by_cases an:g=z
  ·subst an;rw[Xi Q2,XM Q3,Qh,Qo (x:=mn+mx) I I];refine LV d e hg hL c m _ j I Q3 (λrow am=>?_) hj H;rcases QqX.1 am with h | h
   ·exact hC row h
   ·rw[List.mem_singleton.1 h];exact⟨f,fr,t,tr,mn,mn+mx,w,r,r',x,y,x',y',b,b',g,rfl,hr,ai,ak,ac,az,⟨I,I,I,I⟩,⟨w0,q⟩,⟨_,_,_,_,g1⟩,⟨_,_,_,_,a⟩,u.1⟩
  ·rw[Qq (by simpa using an)];exact LV d e hg hL c m _ j I I hC hj H
omit hl hG in
theorem QkO{N:Nat}(hN:N=2\/N=3){f v:Int}(a:0<=f)(b:f<N)(g0:0<=v)(g1:v<N-1):∃t:Int,Int.tmod (wJ ((wJ (f+1))+v)) (N:Int)=t/\(0<=t/\t<N)/\f≠t:=by
 rw[Qo (x:=f+1) I I,Qo I I,QqW I]
 grind
theorem Q2K{k0:Int->Bool->Int->LL->oP R}:∀(c m:Nat) (De:LL) (i:Nat),c<m->De.length+c<=2->(∀row∈De,Qh0 G.N row)->i<=l.length ->
  (∀(h:Int) (b:Bool) (De:LL) (j:Nat),(∀row∈De,Qh0 G.N row)->De.length<=2->j<=l.length->k0 h b (j:Int) De∈P) ->
  Vf 400 (encI l) G.St k0 m (c:Int) (i:Int) De∈P
 |0,m+1,De,i,_,ai,hD,hi,H=>by
  rw[Vf];rw[show decide (((0:Nat):Int)>0)=false by simp,QqD];exact H _ _ De i hD I hi
 |c+1,m+1,De,i,hm,ai,hD,hi,H=>by
  have hN:=hG.hN;rw[Vf];rw[show decide (((c+1:Nat):Int)>0)=true by simp,QqE,hG.st,Qo (x:=(G.N:Int)-1) I I];refine VI hl hi I I λf j a d hj=>?_
  dsimp only;refine VI hl hj I I λv j g0 g1 hj=>?_
  dsimp only;rw[DO I,Qh];refine VI hl hj Q1 Q1 λw j w0 e hj=>?_
  dsimp only;obtain⟨t,et,ht,aj⟩:=QkO hN a d g0 g1;rw[XM Q3,Qh,et,Qo (x:=1+w) I I,show wJ (((c+1:Nat):Int)-1)=(c:Int) by rw[Qo I I];omega];refine Q2K c m _ j I Q3 (λrow aa=>?_) hj H;rcases QqX.1 aa with h | h
  ·exact hD row h
  ·rw[List.mem_singleton.1 h];exact⟨f,t,1+w,rfl,⟨a,d⟩,ht,aj,I,I⟩
omit hl hG in
theorem QfP{n:Nat}{l s:LL}{k0:Int->Bool->Int->LL->oP R}:∀(m:Nat) (a:Int) (c:Int) (d:LL),Hu n l s k0 m a c d=Vf n l s k0 m a c d
 |0,_,_,_=>rfl
 |m+1,a,c,d=>by
  rw[Hu,Vf];simp only[QfP m]
end
theorem Q75{v:Int}(h:0<=v):∃n:Nat,v=(n:Int):=QqT h
theorem Qjj{R:Type}{l:Y Int}(hl:l.length<=9223372036854775807){P:R->Prop}{K:LL->LL->LL->LL->Int->LL->LL->LL->LL->LL->LL->LL->oP R}(H:∀(G:Geo) (per:Int) (Sk Ro Ls Ch Tu Sy De:LL),PlanR G per Sk Ro Ls Ch Tu Sy De->K G.St G.Pt G.Se G.Li per Sk Ro Ls Ch Tu Sy De∈P):SK 400 (encI l) K∈P:=by
 unfold SK Q0l;rw[Qh];dsimp only;refine okB (Qks (i:=0) hl (Nat.zero_le _) λG j hG hj=>okI ?_);dsimp only;refine VI hl hj Q1 Q1 λv j f g hj=>?_
 dsimp only;obtain⟨per,p0,p1,e⟩:=QkI rfl f g;rw[e];refine VI hl hj Q1 Q1 λa j a0 a1 hj=>?_
 refine VI hl hj Q1 Q1 λb j b0 b1 hj=>?_
 refine VI hl hj Q1 Q1 λc j c0 c1 hj=>?_
 refine VI hl hj Q1 Q1 λd j d0 d1 hj=>?_
 refine VI hl hj Q1 Q1 λk j k0 k1 hj=>?_
 dsimp only;obtain⟨k,rfl⟩:=Q75 k0;rw[Qo (x:=1+(k:Int)) I I,show(1:Int)+(k:Int)=((k+1:Nat):Int) by omega,Qo (x:=1+a) I I,Qo (x:=5000*b) I I,Qo (x:=10000+5000*b) I I,Qo (x:=200*c) I I,Qo (x:=400+200*c) I I,Qo (x:=200*d) I I,Qo (x:=400+200*d) I I];have aa:Q1N [[D.str (bs [88]),D.int .i64 (1+a),D.int .i64 (10000+5000*b),D.int .i64 (400+200*c),D.int .i64 (400+200*d)]]:=⟨_,_,_,_,rfl,I,I,I,I,I,I,I,I⟩;revert aa;generalize [[D.str (bs [88]),D.int .i64 (1+a),D.int .i64 (10000+5000*b),D.int .i64 (400+200*c),D.int .i64 (400+200*d)]]=Sk;intro aa;refine Q49 hl hG (k+1) 400 [] [] j I Q3 Q2 ⟨(λrow h=>nomatch h),(λk row h=>nomatch h)⟩ hj λRo Ls j hg hL hR hj=>?_
 simp at hL;refine okB (QhK hl hg I hj λT j aj ai an ak hj=>okI ?_);dsimp only;refine VI hl hj Q1 Q1 λk j k0 k1 hj=>?_
 dsimp only;obtain⟨k,rfl⟩:=Q75 k0;refine LV hl p0 p1 hg I k 400 [] j I Q3 (λrow h=>nomatch h) hj λf b0 Ch j hC am hj=>?_
 refine VI hl hj Q1 Q1 λv j f g hj=>?_
 dsimp only;by_cases hv:v=3/\1<Ls.length
 ·obtain⟨rfl,h2⟩:=hv;rw[show((3:Int) == 3)=true from rfl,show decide ((Ls.length:Int)>1)=true by simp;omega,QqE,QqE];refine VI hl hj I I λo j n p hj=>?_
  dsimp only;rw[XM Q2,Qh];refine VI hl hj Q1 Q1 λk j k0 k1 hj=>?_
  dsimp only;obtain⟨k,rfl⟩:=Q75 k0;refine Q2K hl hG k 400 [] j I Q3 (λrow h=>nomatch h) hj λf b0 De j hD ac hj=>?_
  refine H G per Sk Ro Ls Ch _ _ De ⟨hG,p0,p1,aa,hg,I,I,I,hC,am,⟨T,rfl,aj,ai,an,ak⟩,λrow h=>?_,by simp,hD,ac⟩;simp at h;exact⟨o,h,n,p,h2⟩
 ·rw[show(bif (v == (3:Int))then(decide (((List.length Ls:Nat):Int)>(1:Int)))else false)=false by
   by_cases m:v=3
   ·rw[show(v == (3:Int))=true by simp[m],QqE];simp;omega
   ·rw[show(v == (3:Int))=false by simpa using m,QqD]]
  rw[QqD];refine VI hl hj Q1 Q1 λk j k0 k1 hj=>?_
  dsimp only;obtain⟨k,rfl⟩:=Q75 k0;rw[QfP];refine Q2K hl hG k 400 [] j I Q3 (λrow h=>nomatch h) hj λf b0 De j hD ac hj=>?_
  exact H G per Sk Ro Ls Ch _ _ De ⟨hG,p0,p1,aa,hg,I,I,I,hC,am,⟨T,rfl,aj,ai,an,ak⟩,(λrow h=>nomatch h),by simp,hD,ac⟩
end Go.Vx
namespace Go.Vx
variable{R:Type} (n:Nat)
def ZQ(n:Nat)(b:LL)(h5:Int)(k0:oP R)(k1:QlJ R):QlK R
|0,_=>none
|m+1,h6=>bif decide (h6<h5)then Qlp R b h6 λa=>Qlm R a λc=>Qc R (pSl 4 c) λd=>bif decide ((d.length:Int)>12)then k0 else ZQ n b h5 k0 k1 m (wJ (h6+1))else k1 h6 (decide (h6<h5))
def UX(i j k l:LL)(c:Int)(d e b f g h m:LL)(K:QlI R):oP R:=Qc R (ZF n i j k l some) λo=>bif o !=0 then K 1 else jn (λ(p:Bool)=>bif p then K 7 else ZQ n b (b.length:Int) (K 7) (λq r=>bif Q8 (decide (c<2)) (decide (c>7200))then K 4 else K 0) n 0) λa=>Qa R (decide ((d.length:Int)>8)) λy=>bif y then a y else Qa R (decide ((e.length:Int)>48)) λv=>bif v then a v else Qa R (decide ((b.length:Int)>16)) λx=>bif x then a x else Qa R (decide ((f.length:Int)>32)) λu=>bif u then a u else Qa R (decide ((g.length:Int)>32)) λt=>bif t then a t else Qa R (decide ((h.length:Int)>32)) λs=>bif s then a s else a (decide ((m.length:Int)>32))
def Za(b:LL)(h2:Int)(c h5 h6 h7:LL)(k0:QlI R)(k1:QlJ R):QlK R
|0,_=>none
|m+1,a=>bif decide (a<h2)then Qld R b a λf g=>Qlo R f g λh i=>Qc R (P8 n c h5 h6 h7 h i some) λe=>bif e !=0 then k0 e else Za b h2 c h5 h6 h7 k0 k1 m (wJ (a+1))else k1 a (decide (a<h2))
def U9(b c d e:LL)(g:Int)(h a i j k l m:LL)(K:QlI R):oP R:=Za n a (a.length:Int) b c d e (λf=>K f) (λo p=>K 0) n 0
def JS(aa ab ac ad:LL)(d:Int)(g b k l m o p:LL)(bq:Y UInt8)(ae br:Int)(e:LL)(a:Int)(K:QlI R):oP R:=Qll R e a λi c3 q c5=>jn (λ(ag:Bool)=>(bif ag then K 4 else QlF R i b λai aj=>Qlu R g ae λak al am an ao=>Qlo R ai aj λap aq=>Qc R (VA ak) λar=>Qlr R al am an ao λau av aw ax=>Qc R (GD n aa ab ac ad ap aq ar au av aw ax some) λs=>bif s !=0 then K s else Qa R (decide (a>0)) λbt=>Ql7 R i bt c3 λay az=>Ql7 R q bt c5 λba bb=>Qd R bt (TE n d g b k l m o p ay az ba bb some) λbc=>Qd R bt (Qi e (wJ (a-1))) λj=>QlE R j bt λbd be=>Qd R bt j[2]? λbg=>Qd R bt j[3]? λbh=>Ql7 R bd bt be λbi bj=>Ql7 R bg bt bh λbk bl=>Qd R bt (SC n d g b k l m o p bi bj bk bl some) λbm=>bif Q9 bt (bc !=bm)then K 11 else K 0:oP R)) λc=>Qc R (pIw i) λt=>bif decide (t<0)then c (decide (t<0))else Qc R (pIw i) λu=>Qa R (decide (u>=(b.length:Int))) λbv=>bif bv then c bv else Qc R (pIw c3) λv=>bif decide (v<0)then c (decide (v<0))else Qc R (pIw c3) λx=>bif decide (x>=d)then c (decide (x>=d))else QkZ R q c5 λbn bo=>Qc R (KQ n d g b k l m o p bn bo some) λy=>bif !y then c (!y)else Qa R (a==wJ ((e.length:Int)-1)) λbu=>Qd R bu (pIw q) λz=>Qd R (bu&&!(z !=0)) (pIw c5) λbp=>c (Q9 bu (Q8 (z !=0) (bp !=0)))
def ZP(b:Int)(c d e f:LL)(g:Int)(h i j k l o p:LL)(q:Y UInt8)(r s:Int)(t:LL)(k0:QlI R)(k1:QlJ R):QlK R
|0,_=>none
|m+1,a=>bif decide (a<b)then Qc R (JS n c d e f g h i j k l o p q r s t a some) λu=>bif u !=0 then k0 u else ZP b c d e f g h i j k l o p q r s t k0 k1 m (wJ (a+1))else k1 a (decide (a<b))
def ZO(h:LL)(h2:Int)(i h5 h6 h7:LL)(j:Int)(c k d l o p q:LL)(k0:QlI R)(k1:QlJ R):QlK R
|0,_=>none
|m+1,a=>bif decide (a<h2)then Qll R h a λr u v x=>Qc R (VA r) λy=>Qc R (KW n y some) λz=>bif !z then k0 3 else Qc R (slB d.length none (some a)) λaa=>Qc R (VA r) λs=>QkZ R u v λb t=>Qc R (pSl 4 x) λf=>Qc R (QF n (cut d aa) s some) λab=>bif ab then k0 5 else jn (λ(ac:Bool)=>bif ac then k0 4 else bif (f.length:Int)==0 then k0 1 else ZP n (f.length:Int) i h5 h6 h7 j c k d l o p q s b t f (λad=>k0 ad) (λag ah=>ZO h h2 i h5 h6 h7 j c k d l o p q k0 k1 m (wJ (a+1))) n 0) λg=>bif decide (b<0)then g (decide (b<0))else Qa R (decide (b>=(c.length:Int))) λai=>bif ai then g ai else Qc R (TL n t some) λae=>g (!ae)else k1 a (decide (a<h2))
def Va(b c d e:LL)(f:Int)(g h a i j k l:LL)(K:QlI R):oP R:=ZO n a (a.length:Int) b c d e f g h a i j k l (λm=>K m) (λo p=>K 0) n 0
def QaF(a b c d:LL)(e:Int)(f g h i j k l:LL):Bool:=Q91 (UX n a b c d e f g h i j k l some)&&Q91 (Uc n a b c d e f g h i j k l some)&&Q91 (U9 n a b c d e f g h i j k l some)&&Q91 (Va n a b c d e f g h i j k l some)&&Q91 (WD n a b c d e f g h i j k l some)&&Q91 (V9 n a b c d e f g h i j k l some)&&Q91 (V0 n a b c d e f g h i j k l some)&&Q91 (Ww n a b c d e f g h i j k l some)
def Js(a b c d:LL)(e:Int)(f g h i j k l:LL)(K:QlI R):oP R:=bif QaF n a b c d e f g h i j k l then K 0 else none
end Go.Vx
namespace Go.Vx
theorem QJ{h:Nat}(hh:h<=1000):wJ ((h:Int)+1)=((h+1:Nat):Int):=by rw[Qo I I];omega
theorem Qt{h k:Nat}(hh:h<k):decide ((h:Int)<(k:Int))=true:=by simpa using hh
theorem Qy(k:Nat):decide ((k:Int)<(k:Int))=false:=by simp
section
variable{R:Type} {St Pt Se Li Sk Ro Ls Ch Tu Sy De:LL} {per:Int} {n:Nat}
theorem Q5R{mn mx:Int}(a:0<=mn)(b:mn<=mx)(h2:mx<mn+per)(c:mn<=1000)(p1:per<=300)(K:Bool->oP R):KQ n per Sk Ro Ls Ch Tu Sy De mn mx K=K true:=by
 unfold KQ;rw[show decide ((0:Int)<=mn)=true by simpa using a,show decide (mn<=mx)=true by simpa using b,show decide (mx<=(7200:Int))=true by simp;omega,Qo I I,show decide (mx<mn+per)=true by simpa using h2];rfl
theorem Q3o{k:Nat}(h:k<Ls.length)(K:Bool->oP R):Gi n per Sk Ro Ls Ch Tu Sy De (k:Int) K=K true:=by
 unfold Gi;rw[show decide ((k:Int)>=0)=true by simp,Qt h];rfl
theorem Bu{k i:Nat}{r:Y D}(h:TH Ls k i r)(K:Bool->oP R):Ul n per Sk Ro Ls Ch Tu Sy De (k:Int) (i:Int) K=K true:=by
 obtain⟨nm,w,rides,a,h2⟩:=h;unfold Ul;rw[Q3o (QqI.1 a).1,Qh,show decide ((i:Int)>=0)=true by simp,Qp,a];simp -implicitDefEqProofs only[Qh,QqA,QqB,Qj,XW,X2,QqE,QqD,QqH,QqG,Qt (QqI.1 h2).1]
theorem Q9p{w:Int}(a:0<=w)(b:w<=1000)(K:Bool->oP R):TL n w K=K true:=by
 unfold TL;rw[show decide (w>=0)=true by simpa using a,show decide (w<=(1048576:Int))=true by simp;omega];rfl
theorem Q61{G:Geo}{rt:Nat}{ex mn mx x y:Int}{s:LL}(a:Ro[rt]? = some [D.sl 2 s,Ql 0])(b:RtOK G s x y)(K:Int->oP R):TE n per Sk Ro Ls Ch Tu Sy De (rt:Int) ex mn mx K=K x:=by
 obtain⟨d,h5⟩:=b.fst;unfold TE;simp -implicitDefEqProofs only[Qh,QqA,QqB,Qj,XW,X2,QqE,QqD,QqH,QqG,Qp,a,h5]
theorem QaU{G:Geo}{rt:Nat}{ex mn mx x y:Int}{s:LL}(b:Ro[rt]? = some [D.sl 2 s,Ql 0])(a:RtOK G s x y)(K:Int->oP R):SC n per Sk Ro Ls Ch Tu Sy De (rt:Int) ex mn mx K=K y:=by
 obtain⟨d,h5⟩:=a.lst;have l2:=a.l2;have l24:=a.l24;unfold SC;simp -implicitDefEqProofs only[Qh,QqA,QqB,Qj,XW,X2,QqE,QqD,QqH,QqG,Qp,b];rw[Qo (x:=(s.length:Int)-0) I I,Qo I I,Int.sub_zero,h5];rfl
theorem Qf0(hs:Q1N Sk)(K:Int->oP R):Uc 400 St Pt Se Li per Sk Ro Ls Ch Tu Sy De K=K 0:=by
 obtain⟨a,b,c,d,rfl,hk⟩:=hs;have h:Uc 400 St Pt Se Li per [[D.str (bs [88]),Ql a,Ql b,Ql c,Ql d]] Ro Ls Ch Tu Sy De K=gb true (UC 400 (bs [88]) a b c d some) false (λr=>bif !r then K 4 else K 0):=by kernel_rfl
 rw[h,Av hk];rfl
end
section
variable{R:Type} {G:Geo} {Sk Ro Ls Ch Tu Sy De:LL} {per:Int} (h:PlanR G per Sk Ro Ls Ch Tu Sy De)
include h
theorem Q7o{k:Nat}(hk:k<Ls.length):∃r,TH Ls k 0 r:=by
 obtain⟨w,rides,e,hr,a⟩:=Cp h.good hk;obtain⟨r,_,_,_,b,_⟩:=a 0 I;exact⟨r,b⟩
theorem Qho(K:Int->oP R):UX 400 G.St G.Pt G.Se G.Li per Sk Ro Ls Ch Tu Sy De K=K 0:=by
 have hc:ZF 400 G.St G.Pt G.Se G.Li (some:Int->oP Int)=some 0:=by unfold ZF;rw[h.ok.lay];rfl
 obtain⟨_,_,_,_,ac,_⟩:=h.sk;obtain⟨T,hT,_,_,_,ai⟩:=h.tu;have l1:=h.l1;have l2:=h.rl;have a:=h.chl;have c:=h.syl;have d:=h.del;have p0:=h.p0;have p1:=h.p1;have lk:Sk.length=1:=by rw[ac];rfl
 have lt:Tu.length<=20:=by rw[hT];simpa using ai
 have aa:∀{k:Nat} {b:Int},(k:Int)<=b->decide ((k:Int)>b)=false:=λh=>by simpa using h
 unfold UX;rw[hc,Qh,Qq (by rfl)];simp -implicitDefEqProofs only[jn,aa (show(Sk.length:Int)<=8 by omega),aa (show(Ro.length:Int)<=48 by omega),aa (show(Ls.length:Int)<=16 by omega),aa (show(Ch.length:Int)<=32 by omega),aa (show(Tu.length:Int)<=32 by omega),aa (show(Sy.length:Int)<=32 by omega),aa (show(De.length:Int)<=32 by omega),QqD];refine QZ (r:=λm h=>ZQ 400 Ls (Ls.length:Int) _ _ m h) (N:=Ls.length) (λm k hk=>?_) (λm=>?_) Ls.length 400 0 I I
 ·obtain⟨w,rides,e,hr,_⟩:=Cp h.good hk;rw[ZQ,Qt hk,Qp,e];simp -implicitDefEqProofs only[Qh,QqA,QqB,Qj,XW,X2,QqE,QqD,QqH,QqG,aa (show(rides.length:Int)<=12 by omega),QJ (show k<=1000 by omega)]
 ·rw[ZQ,Qy,QqD,show decide (per<2)=false by simp;omega,show decide (per>7200)=false by simp;omega];rfl
theorem QdR(K:Int->oP R):U9 400 G.St G.Pt G.Se G.Li per Sk Ro Ls Ch Tu Sy De K=K 0:=by
 have l2:=h.rl;unfold U9;refine QZ (r:=λm h=>Za 400 Ro (Ro.length:Int) G.St G.Pt G.Se G.Li _ _ m h) (N:=Ro.length) (λm k hk=>?_) (λm=>?_) Ro.length 400 0 I I
 ·obtain⟨s,x,y,e,hs⟩:=h.good.ro _ (QqO hk);rw[Za,Qt hk,Qp,QqF hk,e];simp -implicitDefEqProofs only[Qh,QqA,QqB,Qj,XW,X2,QqE,QqD,QqH,QqG,Q72 h.ok.lay rfl hs.l2 hs.l24 hs.rt,QJ (show k<=1000 by omega)];rfl
 ·rw[Za,Qy,QqD]
theorem Qc2(K:Int->oP R):Ww 400 G.St G.Pt G.Se G.Li per Sk Ro Ls Ch Tu Sy De K=K 0:=by
 have l2:=h.del;have hN:=h.ok.hN;unfold Ww;refine QZ (r:=λm h=>YY 400 De (De.length:Int) G.St _ _ m h) (N:=De.length) (λm k hk=>?_) (λm=>?_) De.length 400 0 I I
 ·obtain⟨f,t,w,e,⟨a,b⟩,⟨t0,t1⟩,aa,w0,c⟩:=h.de _ (QqO hk);rw[YY,Qt hk,Qp,QqF hk,e];simp -implicitDefEqProofs only[Qh,QqA,QqB,Qj,XW,X2,QqE,QqD,QqH,QqG,h.ok.st,show decide (f<0)=false by simpa using a,show decide (f>=(G.N:Int))=false by simpa using b,show decide (t<0)=false by simpa using t0,show decide (t>=(G.N:Int))=false by simpa using t1,show(f == t)=false by simpa using aa,show decide (w<1)=false by simp;omega,show decide (w>1048576)=false by simp;omega,QJ (show k<=1000 by omega)]
 ·rw[YY,Qy,QqD]
theorem Qhh(K:Int->oP R):V0 400 G.St G.Pt G.Se G.Li per Sk Ro Ls Ch Tu Sy De K=K 0:=by
 have l2:=h.syl;have l0:=h.l0;unfold V0;refine QZ (r:=λm h=>ZJ 400 Sy (Sy.length:Int) per Sk Ro Ls Ch Tu Sy De _ _ m h) (N:=Sy.length) (λm k hk=>?_) (λm=>?_) Sy.length 400 0 I I
 ·obtain⟨o,e,a,b,h2⟩:=h.sy _ (QqO hk);obtain⟨r,hr⟩:=Q7o h (k:=0) I;obtain⟨r',aa⟩:=Q7o h (k:=1) I;have e1:=Bu (R:=Bool) (per:=per) (Sk:=Sk) (Ro:=Ro) (Ch:=Ch) (Tu:=Tu) (Sy:=Sy) (De:=De) (n:=400) hr some;have e2:=Bu (R:=Bool) (per:=per) (Sk:=Sk) (Ro:=Ro) (Ch:=Ch) (Tu:=Tu) (Sy:=Sy) (De:=De) (n:=400) aa some;rw[ZJ,Qt hk,Qp,QqF hk,e];simp -implicitDefEqProofs only[Qh,QqA,QqB,Qj,XW,X2,QqE,QqD,QqH,QqG,show Ul 400 per Sk Ro Ls Ch Tu Sy De 0 0 (some:Bool->oP Bool)=some true from e1,show Ul 400 per Sk Ro Ls Ch Tu Sy De 1 0 (some:Bool->oP Bool)=some true from e2,show((0:Int) == 1)=false from rfl,show decide (o<0)=false by simp;omega,show decide (o>=per)=false by simp;omega,QJ (show k<=1000 by omega)]
 ·rw[ZJ,Qy,QqD]
end
theorem Q2V{n h:Nat}(hh:h<=n):slB n none (some (h:Int))=some (0,h):=by
 unfold slB;rw[show(decide ((0:Int)<=(none:oP Int).getD 0)&&(decide ((none:oP Int).getD 0<=(some (h:Int)).getD (n:Int))&&decide ((some (h:Int)).getD (n:Int)<=(n:Int))))=true by simp;omega];rfl
theorem Fi{α:Type}{l:Y α}{h:Nat}:cut l (0,h)=l.take h:=by simp[cut]
theorem QgT{i j:Nat}(hi:i<8)(hj:j<8)(h:i≠j):(nmN i == nmN j)=false:=by
 have:∀i j:Fin 8,i≠j->(nmN i.val == nmN j.val)=false:=by decide
 exact this ⟨i,hi⟩ ⟨j,hj⟩ (by intro e;exact h (by simpa using e))
theorem Qj1{i:Nat}(hi:i<8):KW 400 (nmN i) (some:Bool->oP Bool)=some true:=by
 obtain rfl | rfl | rfl | rfl | rfl | rfl | rfl | rfl:i=0\/i=1\/i=2\/i=3\/i=4\/i=5\/i=6\/i=7:=I
 all_goals kernel_rfl
section
variable{Sk Ch Tu Sy De:LL} {per:Int}
theorem Q4a{G:Geo}{Ro Ls:LL}{c:Nat}(hg:GoodP G Ro Ls)(hc:c<8)(hl:c<Ls.length):QF 400 (cut Ls (0,c)) (nmN c) some=some false:=by
 have ac:(cut Ls (0,c)).length=c:=by rw[Fi];simp;omega
 unfold QF X9;rw[ac];refine(congrArg (λE=>gb true E 0 λa=>some (decide (a>=(0:Int)))) (a₂:=some (-1)) (QZ (r:=λm h=>Qr 400 (cut Ls (0,c)) (c:Int) (nmN c) _ _ m h) (N:=c) (λm h hh=>?_) (λm=>?_) c 400 0 I I)).trans rfl
 ·obtain⟨w,aa,e,_,_⟩:=Cp hg (show h<Ls.length by omega);have e':(cut Ls (0,c))[h]? = some [D.str (nmN h),Ql 0,Ql w,D.sl 4 aa]:=by rw[Fi,List.getElem?_take_of_lt hh,e]
  rw[Qr,Qt hh,Qp,e'];simp -implicitDefEqProofs only[Qh,QqA,QqB,Qj,XW,X2,QqE,QqD,QqH,QqG,W0,QgT (show h<8 by omega) hc I,QJ (show h<=1000 by omega)]
 ·rw[Qr,Qy,QqD]
theorem Q6y{G:Geo}(hG:G.OK){Ro Ls rides:LL}{nm:Y UInt8}{w:Int}{i:Nat}{r:Y D}{x y:Int}{b:Bool}(p0:90<=per)(p1:per<=300)(ak:Q1N Sk)(hr:rides[i]? = some r)(hR:PU G Ro r x y b)(hb:i+1=rides.length->b=true)(hl:rides.length<=2)(ac:∀j,j+1=i->∃r' x' b',rides[j]? = some r'/\PU G Ro r' x' x b'):JS 400 G.St G.Pt G.Se G.Li per Sk Ro Ls Ch Tu Sy De nm 0 w rides (i:Int) (some:Int->oP Int)=some 0:=by
 obtain⟨rt,ex,mn,mx,s,rfl,aa,hs,⟨h,k⟩,⟨e,f,l,m⟩,hlast⟩:=hR;obtain⟨a,v,c,d,rfl,hk⟩:=ak;have az:rt<Ro.length:=(QqI.1 aa).1;have hi:i<rides.length:=(QqI.1 hr).1;have ai:(bif ((i:Int) == (wJ (((List.length rides:Nat):Int)-(1:Int))))then(bif (mn != (0:Int))then true else(mx != (0:Int)))else false)=false:=by
  by_cases g:i+1=rides.length
  ·obtain⟨rfl,rfl⟩:=hlast (hb g);rw[show((0:Int) != 0)=false from rfl];cases ((i:Int) == (wJ (((List.length rides:Nat):Int)-(1:Int))))<;>rfl
  ·rw[Qo I I,show((i:Int) == (rides.length:Int)-1)=false by simp;omega];rfl
 unfold JS;rw[Qp,hr];simp -implicitDefEqProofs only[Qh,QqA,QqB,Qj,XW,X2,QqE,QqD,QqH,QqG,jn,show decide ((rt:Int)<0)=false by simp,show decide ((rt:Int)>=(Ro.length:Int))=false by simp;omega,show decide (ex<0)=false by simp;omega,show decide (ex>=per)=false by simp;omega,Q5R e f (show mx<mn+per by omega) I p1,ai,Qp,aa,show Qi [[D.str (bs [88]),Ql a,Ql v,Ql c,Ql d]] (0:Int)=some [D.str (bs [88]),Ql a,Ql v,Ql c,Ql d]from rfl,Qhw hG.lay rfl hs.l2 hs.l24 hs.rt hs.st hk,show((0:Int) != 0)=false from rfl];cases i with
 |zero=>
  rw[show decide (((0:Nat):Int)>0)=false from rfl];simp only[gbF,QqD]
 |succ j=>
  obtain⟨r',x',b',ao,ar⟩:=ac j rfl;obtain⟨ax,au,aw,a2,s',rfl,aj,an,_⟩:=ar;simp -implicitDefEqProofs only[Qh,QqA,QqB,Qj,XW,X2,QqE,QqD,QqH,QqG,show decide (((j+1:Nat):Int)>0)=true by simp,Q61 aa hs,show wJ (((j+1:Nat):Int)-1)=(j:Int) by rw[Qo I I];omega,Qp,ao,QaU aj an,show(x != x)=false by simp]
theorem Qcu{G:Geo}(hG:G.OK){Ro Ls rides:LL}{nm:Y UInt8}{w:Int}(p0:90<=per)(p1:per<=300)(aa:Q1N Sk)(h:Q4l G Ro rides):(rides.length=1\/rides.length=2)/\∀i,i<rides.length->JS 400 G.St G.Pt G.Se G.Li per Sk Ro Ls Ch Tu Sy De nm 0 w rides (i:Int) (some:Int->oP Int)=some 0:=by
 rcases h with⟨r,x,y,rfl,h⟩|⟨r,r',x,y,z,rfl,h,h'⟩
 ·refine⟨.inl rfl,λi hi=>?_⟩;have hi:i=0:=by simpa using hi
  subst hi;exact Q6y hG p0 p1 aa rfl h (λ_=>rfl) Q2 λj hj=>by omega
 ·refine⟨.inr rfl,λi hi=>?_⟩;obtain rfl | rfl:i=0\/i=1:=by simp at hi;omega
  ·exact Q6y hG p0 p1 aa rfl h (λh=>by simp at h) Q2 λj hj=>by omega
  ·refine Q6y hG p0 p1 aa rfl h' (λ_=>rfl) Q2 λj hj=>?_
   have hj:j=0:=I
   subst hj;exact⟨r,x,false,rfl,h⟩
end
theorem QfN{R:Type}{G:Geo}{Sk Ro Ls Ch Tu Sy De:LL}{per:Int}(h:PlanR G per Sk Ro Ls Ch Tu Sy De)(K:Int->oP R):Va 400 G.St G.Pt G.Se G.Li per Sk Ro Ls Ch Tu Sy De K=K 0:=by
 have l1:=h.l1;obtain⟨_,_,_,_,ak,_⟩:=h.sk;have ai:Sk.length=1:=by rw[ak];rfl
 unfold Va;refine QZ (r:=λm h=>ZO 400 Ls (Ls.length:Int) G.St G.Pt G.Se G.Li per Sk Ro Ls Ch Tu Sy De _ _ m h) (N:=Ls.length) (λm k hk=>?_) (λm=>?_) Ls.length 400 0 I I
 ·obtain⟨w,rides,e,w0,a,aa⟩:=h.good.ls k _ (QqF hk);obtain⟨aj,ac⟩:=Qcu (Ls:=Ls) (Ch:=Ch) (Tu:=Tu) (Sy:=Sy) (De:=De) (nm:=nmN k) (w:=w) h.ok h.p0 h.p1 h.sk aa;rw[ZO,Qt hk,Qp,QqF hk,e];simp -implicitDefEqProofs only[Qh,QqA,QqB,Qj,XW,X2,QqE,QqD,QqH,QqG,Qj1 (show k<8 by omega),Q2V (Nat.le_of_lt hk),Q4a h.good (show k<8 by omega) hk,jn,show decide ((0:Int)<0)=false from rfl,ai,show decide ((0:Int)>=((1:Nat):Int))=false from rfl,Q9p w0 (show w<=1000 by omega),show((rides.length:Int) == 0)=false by simp;intro hx;simp[hx]at aj];refine(QZ (r:=λm h=>ZP 400 (rides.length:Int) G.St G.Pt G.Se G.Li per Sk Ro Ls Ch Tu Sy De (nmN k) 0 w rides _ _ m h) (N:=rides.length) (λm i hi=>?_) (λm=>?_) rides.length 400 0 I I)
  ·rw[ZP,Qt hi];simp -implicitDefEqProofs only[Qh,QqA,QqB,Qj,XW,X2,QqE,QqD,QqH,QqG,ac i hi,show((0:Int) != 0)=false from rfl,QJ (show i<=1000 by omega)]
  ·rw[ZP,Qy,QqD,QJ I]
 ·rw[ZO,Qy,QqD]
theorem MM{α:Type}{l:Y α}(h:l.Nodup){i:Nat}(hi:i<l.length):∀x∈l.take i,x≠l[i]:=by
 intro x hx e;subst e;obtain⟨j,hj,e⟩:=List.getElem_of_mem hx;simp at hj;rw[List.getElem_take]at e;have:=(List.nodup_iff_pairwise_ne.1 h);have:=List.pairwise_iff_getElem.1 this j i I hi I;exact this e
theorem Q5h{a b:Int}{T:Y Tup}(ht:∀t∈T,(t.1:Int)≠a/\(t.2.1:Int)≠b)(hl:T.length<=30):QE 400 (T.map tuR) a b some=some false:=by
 have aa:(T.map tuR).length=T.length:=by simp
 unfold QE Xc;rw[aa];refine(congrArg (λE=>gb true E 0 λc=>some (decide (c>=(0:Int)))) (a₂:=some (-1)) (QZ (r:=λm h=>Qs 400 (T.map tuR) (T.length:Int) a b _ _ m h) (N:=T.length) (λm h hh=>?_) (λm=>?_) T.length 400 0 I I)).trans rfl
 ·have e:(T.map tuR)[h]? = some (tuR T[h]):=by rw[QqV,QqF hh];rfl
  obtain⟨n1,n2⟩:=ht _ (QqO hh);rw[Qs,Qt hh,Qp,e];simp -implicitDefEqProofs only[Qh,QqA,QqB,Qj,XW,X2,QqE,QqD,QqH,QqG,tuR,ZY,show((T[h].1:Int) == a)=false by simpa using n1,show((T[h].2.1:Int) == b)=false by simpa using n2,QJ (show h<=1000 by omega)]
 ·rw[Qs,Qy,QqD]
section
variable{R:Type} {G:Geo} {Sk Ro Ls Ch Tu Sy De:LL} {per:Int} (h:PlanR G per Sk Ro Ls Ch Tu Sy De)
include h
theorem Qcd(K:Int->oP R):WD 400 G.St G.Pt G.Se G.Li per Sk Ro Ls Ch Tu Sy De K=K 0:=by
 have l2:=h.chl;have p1:=h.p1;unfold WD;refine QZ (r:=λm h=>YZ 400 Ch (Ch.length:Int) G.Se per Sk Ro Ls Ch Tu Sy De _ _ m h) (N:=Ch.length) (λm k hk=>?_) (λm=>?_) Ch.length 400 0 I I
 ·obtain⟨f,fr,t,tr,mn,mx,w,r,r',x,y,x',y',b,b',i,e,hr,aa,hR,an,a3,⟨a,j,c,d⟩,⟨w0,l⟩,⟨o,a1,c1,d1,g1⟩,⟨p,a2,q,u,g⟩,hi⟩:=h.ch _ (QqO hk);have hb:=Bu (R:=Bool) (per:=per) (Sk:=Sk) (Ro:=Ro) (Ch:=Ch) (Tu:=Tu) (Sy:=Sy) (De:=De) (n:=400) hr;have ao:=Bu (R:=Bool) (per:=per) (Sk:=Sk) (Ro:=Ro) (Ch:=Ch) (Tu:=Tu) (Sy:=Sy) (De:=De) (n:=400) aa;obtain⟨nm,v,rides,e1,e2⟩:=hr;obtain⟨a5,v',ai,ar,aj⟩:=aa;obtain⟨rt,ex,rn,rx,s,rfl,am,hs,_⟩:=hR;obtain⟨ax,au,a4,ay,s',rfl,ac,ak,_⟩:=an;rw[YZ,Qt hk,Qp,QqF hk,e];simp -implicitDefEqProofs only[Qh,QqA,QqB,Qj,XW,X2,QqE,QqD,QqH,QqG,hb,ao,Q5R a c d (show mn<=1000 by omega) p1,Q9p w0 (show w<=1000 by omega),show((f:Int) == (t:Int))=false by simp;omega,Qp,e1,e2,ar,aj,QaU am hs,Q61 ac ak,g1,g,show(i == (-1:Int))=false by simp;omega,show(i != i)=false by simp,QJ (show k<=1000 by omega)]
 ·rw[YZ,Qy,QqD]
theorem Qgo(K:Int->oP R):V9 400 G.St G.Pt G.Se G.Li per Sk Ro Ls Ch Tu Sy De K=K 0:=by
 obtain⟨T,hT,t1,t2,a,p⟩:=h.tu;have hl:Tu.length=T.length:=by rw[hT];simp
 have p0:=h.p0;have p1:=h.p1;unfold V9;rw[hl];refine QZ (r:=λm h=>ZU 400 Tu (T.length:Int) per Sk Ro Ls Ch Tu Sy De _ _ m h) (N:=T.length) (λm k hk=>?_) (λm=>?_) T.length 400 0 I I
 ·have e:Tu[k]? = some (tuR T[k]):=by rw[hT,QqV,QqF hk];rfl
  obtain⟨c,d,q,u,f,v,nm,w,rides,r,r',x,y,z,b,b',e1,e2,e3,e4,⟨a3,w',aa,g,j⟩,hR,ar⟩:=t1 _ (QqO hk);obtain⟨rt,ex,rn,rx,s,rfl,an,hs,_⟩:=hR;obtain⟨au,am,ax,aw,s',rfl,aj,ak,_⟩:=ar;have ac:cut Tu (0,k)=(T.take k).map tuR:=by rw[Fi,hT,List.map_take]
  have ai:∀t∈T.take k,(t.1:Int)≠(T[k].1:Int)/\(t.2.1:Int)≠(T[k].2.1:Int):=by
   intro t ht;have l:=MM t2 (i:=k) (by simpa using hk) t.1 (by rw[<- List.map_take];exact List.mem_map_of_mem ht);have h2:=MM a (i:=k) (by simpa using hk) t.2.1 (by rw[<- List.map_take];exact List.mem_map_of_mem ht);rw[List.getElem_map]at l h2;exact⟨I,I⟩
  rw[ZU,Qt hk,Qp,e];simp -implicitDefEqProofs only[Qh,QqA,QqB,Qj,XW,X2,QqE,QqD,QqH,QqG,tuR,Q3o c,Q3o d,Q5R (Sk:=Sk) (Ro:=Ro) (Ls:=Ls) (Ch:=Ch) (Tu:=Tu) (Sy:=Sy) (De:=De) (n:=400) (show 0<=T[k].2.2.1 by omega) f (show T[k].2.2.2<T[k].2.2.1+per by omega) I p1];rw[hl,Q2V I,Qh,ac,Q5h ai Q3];have hw:wJ ((rides.length:Int)-1)=((rides.length-1:Nat):Int):=by rw[Qo I I];omega
  have o:Qi aa (0:Int)=some [Ql au,Ql am,Ql ax,Ql aw]:=(Qp aa 0).trans j;simp -implicitDefEqProofs only[Qh,QqA,QqB,Qj,XW,X2,QqE,QqD,QqH,QqG,Qp,e1,g,hw,e2,o,QaU an hs,Q61 aj ak,show(y != y)=false by simp,show((0:Int) != 0)=false from rfl,QJ (show k<=1000 by omega)]
 ·rw[ZU,Qy,QqD]
theorem Qei(K:Int->oP R):Js 400 G.St G.Pt G.Se G.Li per Sk Ro Ls Ch Tu Sy De K=K 0:=by
 unfold Js QaF;rw[Qho h,Qf0 h.sk,QdR h,QfN h,Qcd h,Qgo h,Qhh h,Qc2 h];rfl
end
section
variable{R:Type} {n:Nat}
theorem Q5A{x lo hi:Int}(a:lo<=x)(b:x<=hi)(K:Bool->oP R):HR n x lo hi K=K true:=inT (n:=n) a b K
theorem Q5B{x lo hi:Int}(a:lo<=x)(b:x<=hi)(K:Bool->oP R):VR n x lo hi K=K true:=inT (n:=n) a b K
theorem Qgg{a b g:Int}{acc:LL}(c:0<=a)(d:a<=12)(hc:acc.length<=1000){k0:Int->Bool->LL->oP R}{m:Nat}(hm:12<m):Uj n g (Ql a) (Ql b) k0 m 0 acc=k0 a false (acc++List.replicate a.toNat [Ql b,Ql g]):=by
 have hl:∀h:Nat,(acc++List.replicate h [Ql b,Ql g]).length=acc.length+h:=λh=>by simp
 have:=QZ (r:=λm h=>Uj n g (Ql a) (Ql b) k0 m h (acc++List.replicate h.toNat [Ql b,Ql g])) (N:=a.toNat) (e:=k0 a false (acc++List.replicate a.toNat [Ql b,Ql g])) (λm h hh=>?_) (λm=>?_) a.toNat m 0 I I
 ·simpa using this
 ·simp only[QqC];rw[Uj,Qj,Qh,Xi Q3,Qj,Qh,hl,XM (by simp only[QqY,Qr1];omega),Qh,QJ I,List.append_assoc,<- List.replicate_succ']
 ·rw[Uj,Qj,Qh,Qq Q3];simp only[QqC];rw[show(a.toNat:Int)=a by omega];simp
theorem Qhs{Se s:LL}{k0:Int->Bool->LL->oP R}(hs:∀row∈s,Dv Se row)(hl:s.length<=30){m:Nat}(hm:s.length<m)(hn:12<n):Ut n Se s 0 k0 m 0 []=k0 (s.length:Int) false (Yz Se s):=by
 have hc:=λh:Nat=>(Sc (s:=s.take h) λr hr=>hs r (List.mem_of_mem_take hr)).1
 have hw:wJ ((s.length:Int)-0)=(s.length:Int):=by rw[Qo I I];omega
 refine QZ (r:=λm h=>Ut n Se s 0 k0 m h (Yz Se (s.take h.toNat))) (N:=s.length) (λm h hh=>?_) (λm=>?_) s.length m 0 I hm
 ·have e:=QqF hh;obtain⟨x,d,nm,a,b,c,st,hx,aa,f,hd⟩:=hs _ (QqO hh);rw[hx]at e;have a0:=f.a0;have a1:=f.a1;have ai:=hc h;simp only[List.length_take]at ai;simp only[QqC,MS e,HG aa];rw[Ut,hw,Qt hh];simp -implicitDefEqProofs only[Qh,QqA,QqB,Qj,XW,X2,QqE,QqD,QqH,QqG,Qp,e,aa,Qgg (n:=n) (b:=b) (acc:=Yz Se (s.take h)) (show 0<=a by omega) a1 I hn,QJ (show h<=1000 by omega)];rw[Qo (x:=0-c) (by have:=f.c1;omega) (by have:=f.c0;omega),Int.zero_sub];cases g:d == (1:Int)<;>rfl
 ·simp only[QqC];rw[Ut,hw,Qy,QqD,Qr4]
end
structure RtF(St Pt Se Li s:LL):Prop where
 lay:PR 400 St Pt Se Li=true
 ref:QbB St Pt Se Li=true
 l2:2<=s.length
 l24:s.length<=24
 rt:rtB Se.length Li s=true
 rt6:QhY Se.length Li s=true
 hops:Q0N Se.length Pt.length Li 0 s=true
 st:∀r∈s,Dv Se r
theorem RtOK.f{G:Geo}(hG:G.OK){s:LL}{x y:Int}(h:RtOK G s x y):RtF G.St G.Pt G.Se G.Li s:=⟨hG.lay,hG.ref,h.l2,h.l24,h.rt,h.rt6,h.hops,h.st⟩
section
variable{St Pt Se Li s:LL} (h:RtF St Pt Se Li s)
include h
theorem Qar:Sw 400 St Pt Se Li s 0 Tu3=some (Yz Se s,Tv Se s,0):=by
 have l2:=h.l2;have l24:=h.l24;have hl:=(Sc h.st).1;obtain⟨row,rest,rfl⟩:∃row rest,s=row::rest:=by
  cases s with
  |nil=>simp at l2
  |cons a b=>exact⟨a,b,rfl⟩
 obtain⟨x,d,nm,a,b,c,st,rfl,hs,_,_⟩:=h.st row Q2;have hf:Tv Se ([Ql x,Ql d]::rest)=a:=by simp only[Tv,hs]
 generalize hS:[Ql x,Ql d]::rest=s at *
 unfold Sw;rw[Q5m h.ref rfl h.l2 h.l24 h.rt6,Qh,Qq Q1,Qhs h.st I I Q1,Qq Q3,show Qi s (0:Int)=some [Ql x,Ql d] by rw[<- hS];rfl];simp -implicitDefEqProofs only[Qh,QqA,QqB,Qj,XW,X2,QqE,QqD,QqH,QqG,hs,hf]
theorem QaN{nm:Y UInt8}{tl sp ac br:Int}(hk:StkN tl sp ac br):ST 400 St Pt Se Li s 0 nm tl sp ac br (some:Int->oP Int)=some 0:=by
 have l24:=h.l24;have hw:wJ ((s.length:Int)-0)=(s.length:Int):=by rw[Qo I I];omega
 have ai:Ye 400 nm tl sp ac br (some:Bool->oP Bool)=some true:=by
  obtain⟨t1,t2,s1,s2,a1,a2,b1,b2⟩:=hk;unfold Ye;simp -implicitDefEqProofs only[Qh,QqA,QqB,Qj,XW,X2,QqE,QqD,QqH,QqG,Q5A t1 (show tl<=40 by omega),Q5A (show 1000<=sp by omega) (show sp<=100000 by omega),Q5A (show 100<=ac by omega) (show ac<=2000 by omega),Q5A (show 100<=br by omega) (show br<=2000 by omega)]
 unfold ST;rw[Qar h,Qh,Qq (by rfl),ai,Qh,Qq Q1];refine QZ (r:=λm h=>Gs 400 Se s 0 tl _ _ m h) (N:=s.length) (λm k e=>?_) (λm=>?_) s.length 400 0 I I
 ·obtain⟨x,d,aj,a,b,c,st,hx,aa,hn,_⟩:=h.st _ (QqO e);have a0:=hn.a0;have t2:=hk.t2;rw[Gs,hw,Qt e,Qp,QqF e,hx];simp -implicitDefEqProofs only[Qh,QqA,QqB,Qj,XW,X2,QqE,QqD,QqH,QqG,aa,show decide (a<if 2<tl then tl else 2)=false by simp;split<;>omega,QJ (show k<=1000 by omega)]
 ·rw[Gs,hw,Qy,QqD]
end
def Qcg(x r:Int):Prop:=0<=r/\r*r<=x/\x<(r+1)*(r+1)
theorem Q5Y{a b:Int}(c:0<=a)(h:a<=b):a*a<=b*b:=Int.mul_le_mul h h c I
theorem Q4F{x r s:Int}(h:Qcg x r)(g:Qcg x s):r=s:=by
 obtain⟨a0,a1,a2⟩:=h;obtain⟨b0,b1,b2⟩:=g;rcases Int.lt_trichotomy r s with h | h | h
 ·have:=Q5Y (show 0<=r+1 by omega) (show r+1<=s by omega);omega
 ·exact h
 ·have:=Q5Y (show 0<=s+1 by omega) (show s+1<=r by omega);omega
theorem Qa5{x r b:Int}(c:0<=r)(hb:0<=b)(h:r*r<=x)(hx:x<(b+1)*(b+1)):r<=b:=by
 by_cases a:r<=b
 ·exact a
 ·have:=Q5Y (show 0<=b+1 by omega) (show b+1<=r by omega);omega
theorem QkD{a:Int}(b:0<=a)(c:a<=9223372036854775807):shR .i64 a 1=a / 2:=by
 show a.fdiv 2=a / 2;exact Int.fdiv_eq_ediv_of_nonneg a Q1
theorem QhG{R:Type}{n:Nat}{x:Int}(a:0<=x)(hx:x<=1000000000){k0:Int->Int->Bool->oP R}:∀(k m:Nat) (aa:Int),k<=31->k+1<m->0<=aa->aa*aa<=x->x<(aa+2 ^ (k+1))*(aa+2 ^ (k+1)) ->
  ∃r,Qcg x r/\Vs n x k0 m aa (2 ^ k)=k0 r 0 false
 |k,m+1,aa,hk,hm,b,c,d=>by
  have hr:aa<=40000:=Qa5 b Q1 c I;have hp:∀j:Nat,(1:Int)<=2 ^ j:=λj=>by
   have:=Int.ofNat_le.2 (Nat.two_pow_pos j);rw[Int.natCast_pow]at this;exact this
  have f:(2:Int) ^ k<=2147483648:=by
   have:=Int.ofNat_le.2 (Nat.le_trans (Nat.pow_le_pow_right (show 0<2 by decide) hk) (show 2 ^ 31<=2147483648 by decide));rw[Int.natCast_pow]at this;exact this
  have g:=hp k;have hw:wJ (aa+2 ^ k)=aa+2 ^ k:=Qo I I;have hs:(2:Int) ^ (k+1)=2 ^ k+2 ^ k:=by rw[Int.pow_succ];omega
  have ai:Int.tdiv x (aa+2 ^ k)=x / (aa+2 ^ k):=Qr0 a;have i:0<=x / (aa+2 ^ k):=Int.ediv_nonneg a I;have l:x / (aa+2 ^ k)<=x:=Int.ediv_le_self _ a;have e:wJ (Int.tdiv x (aa+2 ^ k))=x / (aa+2 ^ k):=by rw[ai,Qo I I]
  have ac:(aa+2 ^ k<=x / (aa+2 ^ k))↔(aa+2 ^ k)*(aa+2 ^ k)<=x:=Int.le_ediv_iff_mul_le I;have step:∀r:Int,0<=r->r*r<=x->x<(r+2 ^ k)*(r+2 ^ k)->∃r',Qcg x r'/\Vs n x k0 m r (shR .i64 (2 ^ k) 1)=k0 r' 0 false:=by
   intro r a0 a1 a2;rw[QkD I I];cases k with
   |zero=>
    refine⟨r,⟨a0,a1,by simpa using a2⟩,?_⟩;obtain⟨m,rfl⟩:∃m',m=m'+1:=⟨m-1,I⟩;rfl
   |succ k=>
    rw[show(2:Int) ^ (k+1) / 2=2 ^ k by rw[Int.pow_succ,Int.mul_ediv_cancel _ Q1]];exact QhG a hx k m r I I a0 a1 a2
  rw[Vs,Xi Q3,hw,DO I,Qh,e];by_cases h:(aa+2 ^ k)*(aa+2 ^ k)<=x
  ·rw[Xi (by simpa using ac.2 h)];exact step _ I h (by rw[Int.add_assoc,<- hs];exact d)
  ·rw[Qq (by simpa using λh'=>h (ac.1 h'))];exact step aa b c I
theorem Qje{x:Int}(a:0<=x)(hx:x<=1000000000):∃r,Qcg x r/\SB 400 x (some:Int->oP Int)=some r:=
 QhG a hx 31 400 0 Q1 Q1 Q1 (by simpa using a) I
theorem QeF{R:Type}{n:Nat}{x:Int}(a:0<=x)(hx:x<=1000000000){k0:Int->Int->Bool->oP R}:∀(k m:Nat) (lo hi:Int),k<m->0<=lo->lo<=hi->hi<=3037000499->hi-lo<2 ^ k->lo*lo<=x->x<(hi+1)*(hi+1) ->
  ∃r,Qcg x r/\J3 n x k0 m lo hi=k0 r r false
 |k,m+1,lo,hi,hm,l0,l1,l2,hk,b,q1=>by
  by_cases h:lo<hi
  ·obtain⟨k,rfl⟩:∃k',k=k'+1:=by
    cases k with
    |zero=>simp at hk;omega
    |succ k=>exact⟨k,rfl⟩
   have hs:(2:Int) ^ (k+1)=2 ^ k+2 ^ k:=by rw[Int.pow_succ];omega
   have e:wJ (Int.tdiv (wJ ((wJ (lo+hi))+(1:Int))) (2:Int))=(lo+hi+1) / 2:=by
    rw[Qo (x:=lo+hi) I I,Qo (x:=lo+hi+1) I I,Qr0 I,Qo I I]
   rw[J3,Xi (by simpa using h),DO Q1,Qh,e];have aa:lo<(lo+hi+1) / 2/\(lo+hi+1) / 2<=hi:=I
   generalize hM:(lo+hi+1) / 2=mid at *
   have ac:=Q5Y (show 0<=mid by omega) (show mid<=3037000499 by omega);have c:=Int.mul_nonneg (show 0<=mid by omega) (show 0<=mid by omega);rw[Qo (x:=mid*mid) I I];by_cases hq:mid*mid<=x
   ·rw[Xi (by simpa using hq)];exact QeF a hx k m mid hi I I I l2 I hq q1
   ·rw[Qq (by simpa using hq),Qo I I];exact QeF a hx k m lo (mid-1) I l0 I I I b (by rw[Int.sub_add_cancel];omega)
  ·obtain rfl:lo=hi:=I
   rw[J3,Qq Q2];exact⟨lo,⟨l0,b,q1⟩,by simp⟩
theorem QiF{x r:Int}(a:0<=x)(hx:x<=1000000000)(hr:Qcg x r):MB 400 x (some:Int->oP Int)=some r:=by
 unfold MB;by_cases h:x<=0
 ·rw[Xi (by simpa using h)];have:Qcg x 0:=⟨by decide,I,I⟩;rw[Q4F hr this]
 ·rw[Qq (by simpa using h)];obtain⟨r',b,h2⟩:=QeF (R:=Int) (n:=400) (k0:=λw _ _=>some w) a hx 32 400 0 3037000499 Q1 Q1 Q1 Q1 Q1 I I;rw[Q4F hr b];exact h2
def cl(C:LL)(k:Nat):Int×Int:=match C[k]? with
 |some [.int _ b,.int _ g]=>(b,g)
 |_=>(0,0)
structure CellsOK(C:LL):Prop where
 row:∀k,k<C.length->C[k]? = some [Ql (cl C k).1,Ql (cl C k).2]
 b0:∀k,k<C.length->5000<=(cl C k).1
 b1:∀k,k<C.length->(cl C k).1<=35000
 g0:∀k,k<C.length -> -10<=(cl C k).2
 g1:∀k,k<C.length->(cl C k).2<=10
 len:C.length<=300
theorem Q9z{Se:LL}:∀{s:LL},(∀row∈s,Dv Se row)->s.length<=24->CellsOK (Yz Se s):=by
 intro s h hl;have hm:∀r∈Yz Se s,∃b g:Int,r=[Ql b,Ql g]/\5000<=b/\b<=35000 /\ -10<=g/\g<=10:=by
  intro r hr;obtain⟨row,f,h2⟩:=List.mem_flatMap.1 hr;obtain⟨x,d,nm,a,b,c,st,rfl,hs,hn,_⟩:=h _ f;rw[HG hs]at h2;have i:=List.eq_of_mem_replicate h2;have c0:=hn.c0;have c1:=hn.c1;refine⟨_,_,i,hn.b0,hn.b1,?_⟩;cases (d == (1:Int))
  ·exact⟨c0,c1⟩
  ·show -10 <= -c /\ -c<=10;omega
 have hat:∀k,k<(Yz Se s).length->(Yz Se s)[k]? = some [Ql (cl (Yz Se s) k).1,Ql (cl (Yz Se s) k).2]/\5000<=(cl (Yz Se s) k).1/\(cl (Yz Se s) k).1<=35000 /\ -10<=(cl (Yz Se s) k).2/\(cl (Yz Se s) k).2<=10:=by
  intro k hk;obtain⟨b,g,e,f⟩:=hm _ (QqO hk);have e2:(Yz Se s)[k]? = some [Ql b,Ql g]:=by rw[QqF hk,e]
  simp only[cl,e2];exact⟨trivial,f⟩
 have:=(Sc h).1;exact⟨λk hk=>(hat k hk).1,λk hk=>(hat k hk).2.1,λk hk=>(hat k hk).2.2.1,λk hk=>(hat k hk).2.2.2.1,λk hk=>(hat k hk).2.2.2.2,I⟩
def QaT(v:Int)(r:Y D):Int:=match r with
 |.int _ b::_=>if b<v then b else v
 |_=>v
def win(C:LL)(k t:Nat):LL:=(C.drop (k-t)).take (k+1-(k-t))
def Q8q(C:LL)(sp:Int)(k t:Nat):Int:=(win C k t).foldl QaT sp
theorem Qbc{C:LL}(hC:CellsOK C){k t i:Nat}(hk:k<C.length)(hi:i<k+1-(k-t)):(win C k t)[i]? = some [Ql (cl C (k-t+i)).1,Ql (cl C (k-t+i)).2]:=by
 unfold win;rw[List.getElem?_take_of_lt hi,List.getElem?_drop,hC.row _ I]
theorem Q6B{C:LL}{k t:Nat}(hk:k<C.length):(win C k t).length=k+1-(k-t):=by
 unfold win;simp;omega
theorem QbQ{C:LL}(hC:CellsOK C){sp:Int}{k t:Nat}(hk:k<C.length)(d:10000<=sp)(c:sp<=25000):5000<=Q8q C sp k t/\Q8q C sp k t<=25000:=by
 have hm:∀r∈win C k t,∃b g:Int,r=[Ql b,Ql g]/\5000<=b:=by
  intro r hr;obtain⟨i,hi,rfl⟩:=List.getElem_of_mem hr;have aa:=hi;rw[Q6B hk]at aa;have e:=Qbc hC hk aa;rw[QqF hi]at e;injection e with e
  exact⟨_,_,e,hC.b0 _ I⟩
 unfold Q8q;revert hm;generalize win C k t=L;intro hm;have:∀(L:LL) (v:Int),(∀r∈L,∃b g:Int,r=[Ql b,Ql g]/\5000<=b)->5000<=v->v<=25000->5000<=L.foldl QaT v/\L.foldl QaT v<=25000:=by
  intro L;induction L with
  |nil=>exact λv _ a b=>⟨a,b⟩
  |cons r L ih=>
   intro v h a b;obtain⟨x,g,rfl,hx⟩:=h _ (List.mem_cons_self ..);refine ih _ (λr hr=>h r (List.mem_cons_of_mem _ hr)) ?_ ?_
   ·show 5000<=if x<v then x else v
    split<;>omega
   ·show(if x<v then x else v)<=25000;split<;>omega
 exact this L sp hm I c
section
variable{C:LL} (hC:CellsOK C) {nm:Y UInt8} {sp ac br:Int} {t k:Nat} (ht:t<=40)
include hC ht
omit hC in
theorem Qga(hk:k<=1000):(if (0:Int)<(wJ ((k:Int)-(t:Int)))then(wJ ((k:Int)-(t:Int)))else(0:Int))=((k-t:Nat):Int):=by
 rw[Qo I I];split<;>omega
theorem Qkm(hk:k<C.length):JV 400 C (k:Int) nm (t:Int) sp ac br (some:Int->oP Int)=some (Q8q C sp k t):=by
 have hl:=hC.len;unfold JV;rw[Qga ht I,QJ I];have hs:slB C.length (some ((k-t:Nat):Int)) (some ((k+1:Nat):Int))=some (k-t,k+1):=by
  unfold slB;rw[show(decide ((0:Int)<=(some ((k-t:Nat):Int)).getD 0)&&(decide ((some ((k-t:Nat):Int)).getD 0<=(some ((k+1:Nat):Int)).getD (C.length:Int))&&decide ((some ((k+1:Nat):Int)).getD (C.length:Int)<=(C.length:Int))))=true by simp;omega];rfl
 rw[hs,Qh,show cut C (k-t,k+1)=win C k t from rfl];have hw:=Q6B (t:=t) hk;refine(QZ (r:=λm h=>WF 400 (win C k t) (((win C k t).length:Nat):Int) _ m (((win C k t).take h.toNat).foldl QaT sp) h) (N:=(win C k t).length) (λm h hh=>?_) (λm=>?_) (win C k t).length 400 0 I I)
 ·have e:=Qbc hC hk (show h<k+1-(k-t) by omega);simp only[QqC];rw[WF,Qt hh,Qp,e,ZA e,List.foldl_append];simp -implicitDefEqProofs only[Qh,QqA,QqB,Qj,XW,X2,QqE,QqD,QqH,QqG,QJ (show h<=1000 by omega)];rfl
 ·simp only[QqC];rw[WF,Qy,QqD,Qr4];rfl
theorem Qk8(hk:k<C.length):Sm 400 C (k:Int) nm (t:Int) sp ac br (some:Int->oP Int)=some (Q8q C sp k t):=by
 have hl:=hC.len;have hw:=Q6B (t:=t) hk;unfold Sm;rw[Qga ht I];have:=QZ (r:=λm h=>Jf 400 C (k:Int) (λa b c=>some a) m (((win C k t).take h.toNat).foldl QaT sp) (((k-t:Nat):Int)+h)) (N:=(win C k t).length) (e:=some (Q8q C sp k t)) (λm h hh=>?_) (λm=>?_) (win C k t).length 400 0 I I
 ·rw[show((k-t:Nat):Int)+((0:Nat):Int)=((k-t:Nat):Int) by omega]at this;exact this
 ·have e:=Qbc hC hk (show h<k+1-(k-t) by omega);have e2:=hC.row (k-t+h) I;simp only[QqC];rw[Jf,Xi Q3,show((k-t:Nat):Int)+(h:Int)=((k-t+h:Nat):Int) by omega,Qp,e2,ZA e,List.foldl_append,QJ I,show((k-t:Nat):Int)+((h+1:Nat):Int)=((k-t+h+1:Nat):Int) by omega];simp -implicitDefEqProofs only[Qh,QqA,QqB,Qj,XW,X2,QqE,QqD,QqH,QqG];rfl
 ·simp only[QqC];rw[Jf,Qq Q3,Qr4];rfl
end
def arr(f:Nat->Int)(n:Nat):LL:=(List.range n).map λi=>[Ql (f i)]
theorem Z3{f:Nat->Int}{n:Nat}:(arr f n).length=n:=by simp[arr]
theorem Gm{f:Nat->Int}{n i:Nat}(h:i<n):(arr f n)[i]? = some [Ql (f i)]:=by simp[arr,h]
theorem Y4{f g:Nat->Int}{n:Nat}(h:∀i,i<n->f i=g i):arr f n=arr g n:=by
 refine List.map_congr_left λi hi=>?_
 rw[h i (by simpa using hi)]
theorem QeY{f:Nat->Int}{n i:Nat}{v:Int}:(arr f n).set i [Ql v]=arr (λj=>if j=i then v else f j) n:=by
 refine List.ext_getElem? λj=>?_
 by_cases hj:j<n
 ·rw[Gm hj];by_cases h:i=j
  ·subst h;rw[List.getElem?_set_self (by rw[Z3];exact hj),QqJ rfl]
  ·rw[List.getElem?_set_ne h,Gm hj,QqL (λe=>h e.symm)]
 ·rw[Qr7 (by simp[Z3];omega),Qr7 (by simp[Z3];omega)]
theorem Bs{n:Nat}:List.replicate n [Ql 0]=arr (λ_=>0) n:=by
 refine List.ext_getElem? λj=>?_
 by_cases hj:j<n
 ·rw[Gm hj];simp[hj]
 ·rw[Qr7 Q3,Qr7 (by simp[Z3];omega)]
def acc(ac g:Int):Int:=if 0<g then(if 50<ac-10*g then ac-10*g else 50)else ac
def brk(br g:Int):Int:=if g<0 then(if 50<br+10*g then br+10*g else 50)else br
theorem Q6b{ac g:Int}(a1:400<=ac)(a2:ac<=800)(g0 : -10<=g)(g1:g<=10):300<=acc ac g/\acc ac g<=800:=by
 unfold acc;split
 ·split<;>omega
 ·omega
theorem Q6h{br g:Int}(a1:400<=br)(a2:br<=800)(g0 : -10<=g)(g1:g<=10):300<=brk br g/\brk br g<=800:=by
 unfold brk;split
 ·split<;>omega
 ·omega
section
variable{nm:Y UInt8} {b t sp ac br g:Int} {n:Nat}
theorem QfO(a1:400<=ac)(a2:ac<=800)(g0 : -10<=g)(g1:g<=10):MZ n b g nm t sp ac br (some:Int->oP Int)=some (acc ac g):=by
 unfold MZ acc;rw[Qo (x:=10*g) I I,Qo (x:=ac-10*g) I I];by_cases h:0<g
 ·rw[Xi (by simpa using h),QqJ h]
 ·rw[Qq (by simpa using h),QqL h]
theorem Qhq(a1:400<=br)(a2:br<=800)(g0 : -10<=g)(g1:g<=10):MW n b g nm t sp ac br (some:Int->oP Int)=some (brk br g):=by
 unfold MW brk;rw[Qo (x:=10*g) I I,Qo (x:=br+10*g) I I];by_cases h:g<0
 ·rw[Xi (by simpa using h),QqJ h]
 ·rw[Qq (by simpa using h),QqL h]
theorem Qiv(a1:400<=ac)(a2:ac<=800)(g0 : -10<=g)(g1:g<=10):Tq n b g nm t sp ac br (some:Int->oP Int)=some (20000*acc ac g):=by
 have hr:=Q6b a1 a2 g0 g1;unfold Tq;rw[Qo (x:=10*g) I I,Qo (x:=ac-10*g) I I];unfold acc at hr ⊢;by_cases h:0<g
 ·rw[QqJ h]at hr ⊢;rw[Xi (by simpa using h),Qo I I]
 ·rw[QqL h]at hr ⊢;rw[Qq (by simpa using h),Qo I I]
theorem QiP(a1:400<=br)(a2:br<=800)(g0 : -10<=g)(g1:g<=10):Te n b g nm t sp ac br (some:Int->oP Int)=some (20000*brk br g):=by
 have hr:=Q6h a1 a2 g0 g1;unfold Te;rw[Qo (x:=10*g) I I,Qo (x:=br+10*g) I I];unfold brk at hr ⊢;by_cases h:g<0
 ·rw[QqJ h]at hr ⊢;rw[Xi (by simpa using h),Qo I I]
 ·rw[QqL h]at hr ⊢;rw[Qq (by simpa using h),Qo I I]
end
structure Run where
 C:LL
 nm:List UInt8
 sp:Int
 ac:Int
 br:Int
 t:Nat
 st:Nat
 N:Nat
structure Run.OK(X:Run):Prop where
 hC:CellsOK X.C
 hk:StkN X.t X.sp X.ac X.br
 hN:X.C.length=X.st+X.N
 h2:2<=X.N
namespace Run
variable(X:Run)
def lm(b:Nat):Int:=Q8q X.C X.sp (X.st+b) X.t
def lo(b:Nat):Int:=if X.lm b<X.lm (b-1)then X.lm b else X.lm (b-1)
def V(b:Nat):Int:=X.lo b*X.lo b
def G(b:Nat):Int:=20000*acc X.ac (cl X.C (X.st+b)).2
def L(b:Nat):Int:=20000*brk X.br (cl X.C (X.st+b)).2
def F:Nat->Int
 |0=>0
 |b+1=>if F b+X.G b<X.V (b+1)then F b+X.G b else X.V (b+1)
def K:Nat->Int
 |0=>0
 |d+1=>if K d+X.L (X.N-(d+1))<X.F (X.N-(d+1))then K d+X.L (X.N-(d+1))else X.F (X.N-(d+1))
variable{X} (h:X.OK)
include h
theorem Qdz{b:Nat}(hb:b<X.N):5000<=X.lm b/\X.lm b<=25000:=QbQ h.hC (by have:=h.hN;omega) h.hk.s1 h.hk.s2
theorem Qbv{b:Nat}(hb:b<X.N):5000<=X.lo b/\X.lo b<=25000:=by
 have a:=Qdz h hb;have h2:=Qdz h (b:=b-1) I;unfold lo;split<;>omega
theorem QeR{b:Nat}(hb:b<X.N):25000000<=X.V b/\X.V b<=625000000:=by
 obtain⟨a,h2⟩:=Qbv h hb;have:=Q5Y Q1 a;have:=Q5Y I h2;unfold V;omega
theorem Qe2{b:Nat}(hb:b<X.N):6000000<=X.G b/\X.G b<=16000000:=by
 have hN:=h.hN;have:=Q6b h.hk.a1 h.hk.a2 (h.hC.g0 (X.st+b) I) (h.hC.g1 (X.st+b) I);unfold G;omega
theorem QcV{b:Nat}(hb:b<X.N):6000000<=X.L b/\X.L b<=16000000:=by
 have hN:=h.hN;have:=Q6h h.hk.b1 h.hk.b2 (h.hC.g0 (X.st+b) I) (h.hC.g1 (X.st+b) I);unfold L;omega
theorem Qc5:∀b,b<X.N->0<=X.F b/\X.F b<=625000000/\(1<=b->6000000<=X.F b)
 |0,_=>by rw[F];omega
 |b+1,hb=>by
  have a:=Qc5 b I;have h2:=QeR h hb;have c:=Qe2 h (b:=b) I;rw[F];split<;>omega
theorem Q5O:∀d,d<=X.N->0<=X.K d/\X.K d<=625000000/\(1<=d->d<X.N->6000000<=X.K d)
 |0,_=>by rw[K];omega
 |d+1,hd=>by
  have a:=Q5O d I;have h2:=Qc5 h (X.N-(d+1)) I;have c:=QcV h (b:=X.N-(d+1)) I;rw[K];split<;>omega
theorem Qiu:X.K X.N=0:=by
 have h2:=h.h2;obtain⟨d,hd⟩:∃d,X.N=d+1:=⟨X.N-1,I⟩;have a:=Q5O h d I;have c:=QcV h (b:=0) I;rw[hd,K,show X.N-(d+1)=0 by omega,F,QqL I]
theorem row{b:Nat}(hb:b<X.N):X.C[X.st+b]? = some [Ql (cl X.C (X.st+b)).1,Ql (cl X.C (X.st+b)).2]:=h.hC.row _ (by have:=h.hN;omega)
end Run
theorem QbH{f:Nat->Int}{n i:Nat}{v:Int}(h:i<n){R:Type}(K:LL->oP R):gb true (inB n (i:Int)) () (λ_=>gb true ((arr f n)[(Int.toNat (i:Int))]?) [] λr=>K ((arr f n).set (Int.toNat (i:Int)) (List.set r 0 (D.int .i64 v))))=K (arr (λj=>if j=i then v else f j) n):=by
 rw[XR I I,Qh,QqC,Gm h,Qh];show K ((arr f n).set i [Ql v])=_;rw[QeY]
theorem Q97{f:Nat->Int}{n i:Nat}(h:i<n){R:Type}(K:Int->oP R):gb true (inB n (i:Int)) () (λ_=>gb true ((arr f n)[(Int.toNat (i:Int))]?) [] λr=>gb true (r[0]?) oF λc=>gb true (pIw c) 0 λx=>K x)=K (f i):=by
 rw[XR I I,Qh,QqC,Gm h];rfl
theorem wI{a b:Int}(h:a=b)(c : -1000000<=b)(d:b<=1000000000):wJ a=b:=by rw[h,Qo I I]
namespace Run
variable{X:Run} (h:X.OK)
include h
def W(X:Run):LL:=arr (λj=>X.K (X.N-j)) (X.N+1)
theorem sqA:G4 400 X.C (X.st:Int) X.nm (X.t:Int) X.sp X.ac X.br (some:LL->oP LL)=some X.W:=by
 have hN:=h.hN;have h2:=h.h2;have hl:=h.hC.len;have t2:=h.hk.t2;have aj:wJ (wJ ((X.C.length:Int)-(X.st:Int))+1)=((X.N+1:Nat):Int):=by
  rw[Qo (x:=(X.C.length:Int)-(X.st:Int)) I I,Qo I I];omega
 unfold G4;rw[aj,show(bif decide ((0:Int)<=((X.N+1:Nat):Int))&&decide (((X.N+1:Nat):Int)<=((X.N+1:Nat):Int))then some ()else none)=some () by rw[Xi Q3],Qh,QqC,XM I,Qh,Qkm h.hC I I,Qh,Bs,QJ I];have k:∀k0:Int->Int->Bool->LL->oP LL,YF 400 X.C (X.st:Int) (X.C.length:Int) X.nm (X.t:Int) X.sp X.ac X.br k0 400 (Q8q X.C X.sp X.st X.t) ((X.st+1:Nat):Int) (arr (λ_=>0) (X.N+1))=k0 (X.lm (X.N-1)) (X.C.length:Int) false (arr (λj=>if j<=X.N-1 then X.F j else 0) (X.N+1)):=by
  intro k0;have:=QZ (r:=λm i=>YF 400 X.C (X.st:Int) (X.C.length:Int) X.nm (X.t:Int) X.sp X.ac X.br k0 m (X.lm i.toNat) ((X.st+1+i.toNat:Nat):Int) (arr (λj=>if j<=i.toNat then X.F j else 0) (X.N+1))) (N:=X.N-1) (e:=k0 (X.lm (X.N-1)) (X.C.length:Int) false (arr (λj=>if j<=X.N-1 then X.F j else 0) (X.N+1))) (λm i hi=>?_) (λm=>?_) (X.N-1) 400 0 I I
  ·have e:arr (λj=>if j<=(((0:Nat):Int)).toNat then X.F j else 0) (X.N+1)=arr (λ_=>0) (X.N+1):=Y4 λj hj=>by
    split
    ·rename_i d;have d:j=0:=by simpa using d
     subst d;rw[F]
    ·rfl
   rw[e]at this;exact this
  ·simp only[QqC];have f:=h.hC.g0 (X.st+i) I;have g:=h.hC.g1 (X.st+i) I;have hr:=row h (b:=i) I;have am:=Qbv h (b:=i+1) I;have hV:=QeR h (b:=i+1) I;have hF:=Qc5 h i I;have hG:=Qe2 h (b:=i) I;rw[YF,Qt (show X.st+1+i<X.C.length by omega),QqE,Qkm h.hC I I,Qh,wI (show((X.st+1+i:Nat):Int)-1=((X.st+i:Nat):Int) by omega) I I,wI (show((X.st+i:Nat):Int)-(X.st:Int)=(i:Int) by omega) I I,Z3,Q97 I,Qp,hr,wI (show((X.st+1+i:Nat):Int)-(X.st:Int)=((i+1:Nat):Int) by omega) I I];simp -implicitDefEqProofs only[Qh,QqA,QqB,Qj,XW,X2,QqE,QqD,QqH,QqG,Qiv h.hk.a1 h.hk.a2 f g];rw[QbH I];rw[QJ I,show Q8q X.C X.sp (X.st+1+i) X.t=X.lm (i+1) by unfold lm;rw[Nat.add_assoc,Nat.add_comm 1 i],show X.st+1+i+1=X.st+1+(i+1) by omega];refine congrArg _ (Y4 λj hj=>?_);by_cases ai:j=i+1
   ·subst ai;have e1:(if X.lm (i+1)<X.lm i then X.lm (i+1)else X.lm i)=X.lo (i+1):=rfl;rw[QqJ rfl,QqJ (QqQ i),e1,wI (a:=X.lo (i+1)*X.lo (i+1)) (b:=X.V (i+1)) rfl I I,wI (a:=X.F i+20000*acc X.ac (cl X.C (X.st+i)).2) (b:=X.F i+X.G i) rfl I I,QqJ (QqQ (i+1)),F]
   ·rw[QqL ai];by_cases c:j<=i
    ·rw[QqJ c,QqJ I]
    ·rw[QqL c,QqL I]
  ·simp only[QqC];rw[show X.st+1+(X.N-1)=X.C.length by omega,YF,Qy,QqD]
 rw[k,wI (show(X.C.length:Int)-1=((X.st+X.N-1:Nat):Int) by omega) I I];have:=QZ (r:=λm i=>Ze 400 X.C (X.st:Int) X.nm (X.t:Int) X.sp X.ac X.br (λ_ _ l=>some l) m ((X.st+X.N-1-i.toNat:Nat):Int) (arr (λj=>if X.N-j<=i.toNat then X.K (X.N-j)else X.F j) (X.N+1))) (N:=X.N-1) (e:=some X.W) (λm i hi=>?_) (λm=>?_) (X.N-1) 400 0 I I
 ·have e:arr (λj=>if X.N-j<=(((0:Nat):Int)).toNat then X.K (X.N-j)else X.F j) (X.N+1)=arr (λj=>if j<=X.N-1 then X.F j else 0) (X.N+1):=Y4 λj hj=>by
   by_cases ak:j=X.N
   ·subst ak;rw[QqJ Q2,QqL I,Nat.sub_self,K]
   ·rw[QqL Q3,QqJ I]
  rw[e]at this;exact this
 ·simp only[QqC];obtain⟨b,hb⟩:∃b,b+1=X.N-i:=⟨X.N-i-1,I⟩;have o:1<=b:=I
  have f:=h.hC.g0 (X.st+b) I;have g:=h.hC.g1 (X.st+b) I;have hr:=row h (b:=b) I;have hK:=Q5O h i I;have hL:=QcV h (b:=b) I;rw[Ze,show X.st+X.N-1-i=X.st+b by omega,Xi Q3,wI (show((X.st+b:Nat):Int)-(X.st:Int)=(b:Int) by omega) I I,Z3,Q97 I,QJ I,wI (show((X.st+b+1:Nat):Int)-(X.st:Int)=((b+1:Nat):Int) by omega) I I,Q97 I,Qp,hr];simp -implicitDefEqProofs only[Qh,QqA,QqB,Qj,XW,X2,QqE,QqD,QqH,QqG,QiP h.hk.b1 h.hk.b2 f g];rw[QbH I,wI (show((X.st+b:Nat):Int)-1=((X.st+X.N-1-(i+1):Nat):Int) by omega) I I];refine congrArg _ (Y4 λj hj=>?_);by_cases aa:j=b
  ·subst aa;rw[QqJ rfl,QqL (show ¬ X.N-j<=i by omega),QqJ (show X.N-(j+1)<=i by omega),QqJ (show X.N-j<=i+1 by omega),show X.N-j=i+1 by omega,K,show X.N-(j+1)=i by omega,show X.N-(i+1)=j by omega,wI (a:=X.K i+20000*brk X.br (cl X.C (X.st+j)).2) (b:=X.K i+X.L j) rfl I I]
  ·rw[QqL aa];by_cases c:X.N-j<=i
   ·rw[QqJ c,QqJ I]
   ·rw[QqL c,QqL I]
 ·simp only[QqC];rw[Ze,show X.st+X.N-1-(X.N-1)=X.st by omega,Qq Q2];refine congrArg some (Y4 λj hj=>?_);by_cases n:j=0
  ·subst n;rw[QqL I,F,Nat.sub_zero,Qiu h]
  ·rw[QqJ I]
end Run
theorem G8{k:Nat}(a:k<=1000)(b:1<=k):wJ ((k:Int)-1)=((k-1:Nat):Int):=by grind[Qo]
section
variable{R:Type} {Sk Ro Ls Ch Tu Sy De:LL} {per:Int} {n:Nat}
theorem Q6H{mn mx:Int}(a:0<=mn)(b:mn<=mx)(h2:mx<mn+per)(c:mn<=1000)(p1:per<=300)(K:Bool->oP R):KH n per Sk Ro Ls Ch Tu Sy De mn mx K=K true:=by
 grind[KH,decide,Qo]
theorem QiL{k i:Nat}{r:Y D}(h:TH Ls k i r)(hl:Ls.length<=1000)(hr:∀nm w rides,Ls[k]? = some [D.str nm,Ql 0,Ql w,D.sl 4 rides]->rides.length<=1000)(K:Bool->oP R):JO n per Sk Ro Ls Ch Tu Sy De (k:Int) (i:Int) K=K true:=by
 obtain⟨nm,w,rides,a,h2⟩:=h;have hk:=(QqI.1 a).1;have hi:=(QqI.1 h2).1;have hr:=hr _ _ _ a;unfold JO;rw[G8 hl I,Q5B I I,Qh,Qp,a];simp -implicitDefEqProofs only[Qh,QqA,QqB,Qj,XW,X2,QqE,QqD,QqH,QqG,G8 hr I,Q5B (show(0:Int)<=(i:Int) by omega) (show(i:Int)<=((rides.length-1:Nat):Int) by omega)]
theorem Qbm{G:Geo}{x y:Int}{s:LL}(a:RtOK G s x y)(K:Int->oP R):VO n s 0 K=K x:=by
 obtain⟨d,h5⟩:=a.fst
 simp_all [VO,Qh,QqA,QqB,Qj,XW,X2,QqE,QqD,QqH,QqG]
theorem QdX{G:Geo}{x y:Int}{s:LL}(a:RtOK G s x y)(K:Int->oP R):JI n s 0 K=K y:=by
 obtain⟨d,h5⟩:=a.lst;have l24:=a.l24;unfold JI;rw[Qo (x:=(s.length:Int)-0) I I,Qo I I,Int.sub_zero,h5];rfl
theorem Bx{k i:Nat}{rt:Nat}{ex mn mx:Int}{s:LL}(h:TH Ls k i [Ql rt,Ql ex,Ql mn,Ql mx])(a:Ro[rt]? = some [D.sl 2 s,Ql 0])(K:D->D->oP R):XG n per Sk Ro Ls Ch Tu Sy De (k:Int) (i:Int) K=K (D.sl 2 s) (Ql 0):=by
 obtain⟨nm,w,rides,b,h2⟩:=h
 simp_all [XG,Qh,QqA,QqB,Qj,XW,X2,QqE,QqD,QqH,QqG,Qp]
theorem QjL{i:Nat}(hi:i<8):Ml 400 (nmN i) (some:Bool->oP Bool)=some true:=by
 obtain rfl | rfl | rfl | rfl | rfl | rfl | rfl | rfl:i=0\/i=1\/i=2\/i=3\/i=4\/i=5\/i=6\/i=7:=I
 all_goals rfl
theorem Qhk(hs:Q1N Sk):GN 400 per Sk Ro Ls Ch Tu Sy De 0 (some:Int->oP Int)=some 0:=by
 obtain⟨a,b,c,d,rfl,t1,t2,s1,s2,a1,a2,b1,b2⟩:=hs;have h:GN 400 per [[D.str (bs [88]),Ql a,Ql b,Ql c,Ql d]] Ro Ls Ch Tu Sy De 0 (some:Int->oP Int)=gb true (Ye 400 (bs [88]) a b c d some) false (λr=>bif !r then some 4 else some 0):=by kernel_rfl
 have aa:Ye 400 (bs [88]) a b c d (some:Bool->oP Bool)=some true:=by
  unfold Ye;simp -implicitDefEqProofs only[Qh,QqA,QqB,Qj,XW,X2,QqE,QqD,QqH,QqG,Q5A t1 (show a<=40 by omega),Q5A (show 1000<=b by omega) (show b<=100000 by omega),Q5A (show 100<=c by omega) (show c<=2000 by omega),Q5A (show 100<=d by omega) (show d<=2000 by omega)]
 rw[h,aa];rfl
end
section
variable{R:Type} {G:Geo} {Sk Ro Ls Ch Tu Sy De:LL} {per:Int} (h:PlanR G per Sk Ro Ls Ch Tu Sy De)
include h
theorem Qh2{k:Nat}:∀nm w rides,Ls[k]? = some [D.str nm,Ql 0,Ql w,D.sl 4 rides]->rides.length<=1000:=by
 intro nm w rides e;obtain⟨w',aa,e',hr,_⟩:=Cp h.good (QqI.1 e).1
 grind
theorem Q87{k i:Nat}{r:Y D}(hr:TH Ls k i r)(K:Bool->oP R):JO 400 per Sk Ro Ls Ch Tu Sy De (k:Int) (i:Int) K=K true:=by
 have:=h.l1
 grind[QiL,Qh2]
theorem Qj5:Fy 400 per Sk Ro Ls Ch Tu Sy De (some:Bool->oP Bool)=some false:=by
 obtain⟨_,_,_,_,ac,_⟩:=h.sk;obtain⟨T,hT,_,_,_,ai⟩:=h.tu;have l1:=h.l1;have l2:=h.rl;have a:=h.chl;have c:=h.syl;have d:=h.del;have lk:Sk.length=1:=by rw[ac];rfl
 have lt:Tu.length<=20:=by rw[hT];simpa using ai
 have aa:∀{k:Nat} {b:Int},(k:Int)<=b->decide ((k:Int)>b)=false:=λh=>by simpa using h
 unfold Fy;simp -implicitDefEqProofs only[aa (show(Sk.length:Int)<=8 by omega),aa (show(Ro.length:Int)<=48 by omega),aa (show(Ls.length:Int)<=16 by omega),aa (show(Ch.length:Int)<=32 by omega),aa (show(Tu.length:Int)<=32 by omega),aa (show(Sy.length:Int)<=32 by omega),aa (show(De.length:Int)<=32 by omega),QqD];refine QZ (r:=λm h=>Gn 400 Ls _ _ m h) (N:=Ls.length) (λm k hk=>?_) (λm=>?_) Ls.length 400 0 I I
 ·obtain⟨w,rides,e,hr,_⟩:=Cp h.good hk;rw[Gn,Qt hk,Qp,e];simp -implicitDefEqProofs only[Qh,QqA,QqB,Qj,XW,X2,QqE,QqD,QqH,QqG,aa (show(rides.length:Int)<=12 by omega),QJ (show k<=1000 by omega)]
 ·rw[Gn,Qy,QqD]
theorem Qiq{k:Nat}(hk:k<Ls.length):Hb 400 G.St G.Pt G.Se G.Li per Sk Ro Ls Ch Tu Sy De (k:Int) (some:Int->oP Int)=some 0:=by
 have l1:=h.l1;have p1:=h.p1;have p0:=h.p0;obtain⟨a,v,c,d,an,am⟩:=h.sk;obtain⟨w,rides,e,w0,t,aa⟩:=h.good.ls k _ (QqF hk);have e:=(QqF hk).trans (congrArg some e);have ay:rides.length=1\/rides.length=2:=by rcases aa with⟨_,_,_,rfl,_⟩|⟨_,_,_,_,_,rfl,_⟩;exact .inl rfl;exact .inr rfl
 have f:Qi Sk (0:Int)=some [D.str (bs [88]),Ql a,Ql v,Ql c,Ql d]:=by rw[an];rfl
 have ar:Sk.length=1:=by rw[an];rfl
 unfold Hb;rw[Qp,e];simp -implicitDefEqProofs only[Qh,QqA,QqB,Qj,XW,X2,QqE,QqD,QqH,QqG,QjL (show k<8 by omega)];refine(QZ (r:=λm h=>WG 400 (k:Int) Ls (D.str (nmN k)) _ _ m h) (N:=k) (λm i hi=>?_) (λm=>?_) k 400 0 I I)
 ·obtain⟨w',ao,e',_⟩:=Cp h.good (show i<Ls.length by omega);rw[WG,Qt hi,Qp,e'];simp -implicitDefEqProofs only[Qh,QqA,QqB,Qj,XW,X2,QqE,QqD,QqH,QqG,QgT (show i<8 by omega) (show k<8 by omega) (show i≠k by omega),QJ (show i<=1000 by omega)]
 ·rw[WG,Qy,QqD,ar,G8 Q1 Q1];simp -implicitDefEqProofs only[Qh,QqA,QqB,Qj,XW,X2,QqE,QqD,QqH,QqG,Q5B (show(0:Int)<=0 by omega) (show(0:Int)<=((1-1:Nat):Int) by decide),Q5B w0 (show w<=1048576 by omega),show((rides.length:Int) == 0)=false by simp;intro hx;simp[hx]at ay];refine(QZ (r:=λm h=>Wy 400 G.St G.Pt G.Se G.Li per Sk Ro Ls Ch Tu Sy De (Ql 0) (D.sl 4 rides) _ _ m h) (N:=rides.length) (λm i hi=>?_) (λm=>?_) rides.length 400 0 I I)
  ·obtain⟨r,x,y,b,hr,hR,hb,ac⟩:∃r x y b,rides[i]? = some r/\PU G Ro r x y b/\(i+1=rides.length->b=true)/\(∀j,j+1=i->∃r' x' b',rides[j]? = some r'/\PU G Ro r' x' x b'):=by
    rcases aa with⟨r,x,y,rfl,h⟩|⟨r,r',x,y,z,rfl,h,h'⟩
    ·have hi:i=0:=by simpa using hi
     subst hi;exact⟨r,x,y,true,rfl,h,λ_=>rfl,λj hj=>by omega⟩
    ·obtain rfl | rfl:i=0\/i=1:=by simp at hi;omega
     ·exact⟨r,x,y,false,rfl,h,λh=>by simp at h,λj hj=>by omega⟩
     ·refine⟨r',y,z,true,rfl,h',λ_=>rfl,λj hj=>?_⟩;have hj:j=0:=I
      subst hj;exact⟨r,x,false,rfl,h⟩
   obtain⟨rt,ex,mn,mx,s,rfl,aj,hs,⟨l,u⟩,⟨o,p,m2,m3⟩,hlast⟩:=hR;have a6:rt<Ro.length:=(QqI.1 aj).1;have l2:=h.rl;have hq:∀z:Bool,(bif ((i:Int) == ((rides.length-1:Nat):Int))then(bif (mn != (0:Int))then true else(mx != (0:Int)))else false)=false:=by
    intro z;by_cases q:i+1=rides.length
    ·obtain⟨rfl,rfl⟩:=hlast (hb q);rw[show((0:Int) != 0)=false from rfl];cases ((i:Int) == ((rides.length-1:Nat):Int))<;>rfl
    ·rw[show((i:Int) == ((rides.length-1:Nat):Int))=false by simp;omega];rfl
   have az:∀{g:Bool} {β:Type} {a z:β} {k:β->oP Int},gb g (some a) z k=k a:=λ{g β a z k}=>rfl
   rw[Wy,X2,Qh,Qt hi];simp -implicitDefEqProofs only[Qh,QqA,QqB,Qj,XW,X2,QqE,QqD,QqH,QqG,Qp,hr,G8 (show rides.length<=1000 by omega) (show 1<=rides.length by omega),G8 (show Ro.length<=1000 by omega) (show 1<=Ro.length by omega),Qo (x:=per-1) I I,Q5B (show(0:Int)<=(rt:Int) by omega) (show(rt:Int)<=((Ro.length-1:Nat):Int) by omega),Q5B l (show ex<=per-1 by omega),Q6H (Sk:=Sk) (Ro:=Ro) (Ls:=Ls) (Ch:=Ch) (Tu:=Tu) (Sy:=Sy) (De:=De) (n:=400) o p (show mx<mn+per by omega) I p1,hq true,aj,f,QaN (hs.f h.ok) am,show((0:Int) != 0)=false from rfl];cases i with
   |zero=>
    rw[show decide (((0:Nat):Int)>0)=false from rfl];simp only[gbF,QqD];rfl
   |succ j=>
    obtain⟨r',x',b',aw,ax⟩:=ac j rfl;obtain⟨a5,a2,a4,a7,s',rfl,ak,au,_⟩:=ax;simp -implicitDefEqProofs only[Qh,QqA,QqB,Qj,XW,X2,QqE,QqD,QqH,QqG,show decide (((j+1:Nat):Int)>0)=true by simp,Qbm hs,show wJ (((j+1:Nat):Int)-1)=(j:Int) by rw[Qo I I];omega,Qp,aw,ak,QdX au,show(x != x)=false by simp,QJ (show j+1<=1000 by omega)]
  ·rw[Wy,X2,Qh,Qy,QqD]
end
section
variable{R:Type} {G:Geo} {Sk Ro Ls Ch Tu Sy De:LL} {per:Int} (h:PlanR G per Sk Ro Ls Ch Tu Sy De)
include h
theorem QcQ{k0:Int->oP R}{k1:Int->Bool->oP R}:Zl 400 G.St G.Pt G.Se G.Li per Sk Ro Ls Ch Tu Sy De k0 k1 400 0=k1 (Ch.length:Int) false:=by
 have l2:=h.chl;have p1:=h.p1;refine QZ (r:=λm h=>Zl 400 G.St G.Pt G.Se G.Li per Sk Ro Ls Ch Tu Sy De _ _ m h) (N:=Ch.length) (λm k hk=>?_) (λm=>?_) Ch.length 400 0 I I
 ·obtain⟨f,fr,t,tr,mn,mx,w,r,r',x,y,x',y',b,b',i,e,hr,aa,hR,ak,au,⟨a,j,c,d⟩,⟨w0,l⟩,⟨n,a1,c1,d1,g1⟩,⟨o,a2,p,q,g⟩,hi⟩:=h.ch _ (QqO hk);have hb:=Q87 (R:=Bool) h hr;have am:=Q87 (R:=Bool) h aa;obtain⟨rt,ex,rn,rx,s,rfl,aj,hs,_⟩:=hR;obtain⟨ao,an,aw,ar,s',rfl,ac,ai,_⟩:=ak;rw[Zl,Qt hk,Qp,QqF hk,e];simp -implicitDefEqProofs only[Qh,QqA,QqB,Qj,XW,X2,QqE,QqD,QqH,QqG,HX,hb,am,Q6H a c d (show mn<=1000 by omega) p1,Q5B w0 (show w<=1048576 by omega),show((f:Int) == (t:Int))=false by simp;omega,Bx hr aj,Bx aa ac,QdX hs,Qbm ai,g1,g,show decide (i<0)=false by simp;omega,show(i != i)=false by simp,show((0:Int) != 0)=false from rfl,QJ (show k<=1000 by omega)]
 ·rw[Zl,Qy,QqD]
theorem Qh5{k0:Int->oP R}{k1:Int->Bool->oP R}:Zf 400 per Sk Ro Ls Ch Tu Sy De k0 k1 400 0=k1 (Tu.length:Int) false:=by
 obtain⟨T,hT,t1,t2,d,q⟩:=h.tu;have hl:Tu.length=T.length:=by rw[hT];simp
 have p0:=h.p0;have p1:=h.p1;have l1:=h.l1;refine QZ (r:=λm h=>Zf 400 per Sk Ro Ls Ch Tu Sy De _ _ m h) (N:=Tu.length) (λm k hk=>?_) (λm=>?_) Tu.length 400 0 I I
 ·have aa:k<T.length:=I
  have at':∀j (hj:j<T.length),Tu[j]? = some (tuR T[j]):=λj hj=>by rw[hT,QqV,QqF hj];rfl
  obtain⟨u,v,u3,u4,e,u6,nm,w,rides,r,r',x,y,z,b,b',e1,e2,f,e4,c,hR,ao⟩:=t1 _ (QqO aa);obtain⟨rt,ex,rn,rx,s,rfl,an,hs,_⟩:=hR;obtain⟨a3,ay,a6,a4,s',rfl,ai,ak,_⟩:=ao;have q1:=Bx (R:=D×D) (n:=400) (per:=per) (Sk:=Sk) (Ch:=Ch) (Tu:=Tu) (Sy:=Sy) (De:=De) (Ro:=Ro) ⟨nm,w,rides,e1,e2⟩ an;have a:=Bx (R:=D×D) (n:=400) (per:=per) (Sk:=Sk) (Ch:=Ch) (Tu:=Tu) (Sy:=Sy) (De:=De) (Ro:=Ro) c ai;obtain⟨a7,w',aj,g,e6⟩:=c;have a:XG 400 per Sk Ro Ls Ch Tu Sy De (T[k].2.1:Int) 0 Tu2=some (D.sl 2 s',Ql 0):=a _;have ac:∀t∈T.take k,(t.1:Int)≠(T[k].1:Int)/\(t.2.1:Int)≠(T[k].2.1:Int):=by
   intro t ht;have p:=MM t2 (i:=k) (by simpa using aa) t.1 (by rw[<- List.map_take];exact List.mem_map_of_mem ht);have h2:=MM d (i:=k) (by simpa using aa) t.2.1 (by rw[<- List.map_take];exact List.mem_map_of_mem ht);rw[List.getElem_map]at p h2;exact⟨I,I⟩
  have am:Hi 400 per Sk Ro Ls Ch Tu Sy De (k:Int) (some:Int->oP Int)=some 0:=by
   unfold Hi;rw[Qp,at' k aa];simp -implicitDefEqProofs only[Qh,QqA,QqB,Qj,XW,X2,QqE,QqD,QqH,QqG,tuR,G8 (show Ls.length<=1000 by omega) (show 1<=Ls.length by omega),Q5B (show(0:Int)<=(T[k].1:Int) by omega) (show(T[k].1:Int)<=((Ls.length-1:Nat):Int) by omega),Q5B (show(0:Int)<=(T[k].2.1:Int) by omega) (show(T[k].2.1:Int)<=((Ls.length-1:Nat):Int) by omega),Q6H (Sk:=Sk) (Ro:=Ro) (Ls:=Ls) (Ch:=Ch) (Tu:=Tu) (Sy:=Sy) (De:=De) (n:=400) (show 0<=T[k].2.2.1 by omega) e (show T[k].2.2.2<T[k].2.2.1+per by omega) I p1];refine(QZ (r:=λm h=>WH 400 (k:Int) Tu (Ql (T[k].1:Nat)) (Ql (T[k].2.1:Nat)) _ _ m h) (N:=k) (λm i hi=>?_) (λm=>?_) k 400 0 I I)
   ·obtain⟨n1,n2⟩:=ac T[i] (by rw[List.mem_take_iff_getElem];exact⟨i,I,rfl⟩);rw[WH,Qt hi,Qp,at' i I];simp -implicitDefEqProofs only[Qh,QqA,QqB,Qj,XW,X2,QqE,QqD,QqH,QqG,tuR,show((T[i].1:Int) == (T[k].1:Int))=false by simpa using n1,show((T[i].2.1:Int) == (T[k].2.1:Int))=false by simpa using n2,QJ (show i<=1000 by omega)]
   ·rw[WH,Qy,QqD,Qp,e1];simp -implicitDefEqProofs only[Qh,QqA,QqB,Qj,XW,X2,QqE,QqD,QqH,QqG,Qp,g,G8 (show rides.length<=1000 by omega) f,q1,a,QdX hs,Qbm ak,show(y != y)=false by simp,show((0:Int) != 0)=false from rfl]
  rw[Zf,Qt hk,QqE,am,Qh,Qq (by rfl),QJ I]
 ·rw[Zf,Qy,QqD]
theorem Qh8{k0:oP R}{k1:Int->Bool->oP R}:Zb 400 per Sk Ro Ls Ch Tu Sy De k0 k1 400 0=k1 (Sy.length:Int) false:=by
 have l2:=h.syl;have l0:=h.l0;have p1:=h.p1;refine QZ (r:=λm h=>Zb 400 per Sk Ro Ls Ch Tu Sy De _ _ m h) (N:=Sy.length) (λm k hk=>?_) (λm=>?_) Sy.length 400 0 I I
 ·obtain⟨o,e,a,b,h2⟩:=h.sy _ (QqO hk);obtain⟨r,hr⟩:=Q7o h (k:=0) I;obtain⟨r',aa⟩:=Q7o h (k:=1) I;have e1:=Q87 (R:=Bool) h hr some;have e2:=Q87 (R:=Bool) h aa some;rw[Zb,Qt hk,Qp,QqF hk,e];simp -implicitDefEqProofs only[Qh,QqA,QqB,Qj,XW,X2,QqE,QqD,QqH,QqG,show JO 400 per Sk Ro Ls Ch Tu Sy De 0 0 (some:Bool->oP Bool)=some true from e1,show JO 400 per Sk Ro Ls Ch Tu Sy De 1 0 (some:Bool->oP Bool)=some true from e2,show((0:Int) == 1)=false from rfl,Qo (x:=per-1) I I,Q5B a (show o<=per-1 by omega),QJ (show k<=1000 by omega)]
 ·rw[Zb,Qy,QqD]
theorem QbO{k0:oP R}{k1:Int->Bool->oP R}:Zh 400 G.St De k0 k1 400 0=k1 (De.length:Int) false:=by
 have l2:=h.del;have hN:=h.ok.hN;refine QZ (r:=λm h=>Zh 400 G.St De _ _ m h) (N:=De.length) (λm k hk=>?_) (λm=>?_) De.length 400 0 I I
 ·obtain⟨f,t,w,e,⟨a,b⟩,⟨t0,t1⟩,aa,w0,c⟩:=h.de _ (QqO hk);rw[Zh,Qt hk,Qp,QqF hk,e];simp -implicitDefEqProofs only[Qh,QqA,QqB,Qj,XW,X2,QqE,QqD,QqH,QqG,h.ok.st,Qo (x:=(G.N:Int)-1) I I,Q5B a (show f<=(G.N:Int)-1 by omega),Q5B t0 (show t<=(G.N:Int)-1 by omega),Q5B w0 (show w<=1048576 by omega),show(f == t)=false by simpa using aa,QJ (show k<=1000 by omega)]
 ·rw[Zh,Qy,QqD]
theorem Qj2:Wl 400 G.St G.Pt G.Se G.Li per Sk Ro Ls Ch Tu Sy De (some:Int->oP Int)=some 0:=by
 have p0:=h.p0;have p1:=h.p1;have l1:=h.l1;have l2:=h.rl;obtain⟨_,_,_,_,aa,_⟩:=h.sk;have ac:Sk.length=1:=by rw[aa];rfl
 have e1:VJ 400 G.St G.Pt G.Se G.Li (some:Int->oP Int)=some 0:=J4 h.ok.ref;unfold Wl;simp -implicitDefEqProofs only[Qh,QqA,QqB,Qj,XW,X2,QqE,QqD,QqH,QqG,e1,Qj5 h,Q5B (show 2<=per by omega) (show per<=7200 by omega),show((0:Int) != 0)=false from rfl];refine QZ (r:=λm h=>WC 400 per Sk Ro Ls Ch Tu Sy De _ _ m h) (N:=Sk.length) (λm k hk=>?_) (λm=>?_) Sk.length 400 0 I I
 ·obtain rfl:k=0:=I
  rw[WC,Qt hk,QqE,show((0:Nat):Int)=0 from rfl,Qhk h.sk,Qh,Qq (by rfl)];rfl
 rw[WC,Qy,QqD];refine QZ (r:=λm h=>Wx 400 G.St G.Pt G.Se G.Li Ro _ _ m h) (N:=Ro.length) (λm k hk=>?_) (λm=>?_) Ro.length 400 0 I I
 ·obtain⟨s,x,y,e,hs⟩:=h.good.ro _ (QqO hk);rw[Wx,Qt hk,Qp,QqF hk,e];simp -implicitDefEqProofs only[Qh,QqA,QqB,Qj,XW,X2,QqE,QqD,QqH,QqG,Q5m h.ok.ref rfl hs.l2 hs.l24 hs.rt6,show((0:Int) != 0)=false from rfl,QJ (show k<=1000 by omega)]
 rw[Wx,Qy,QqD];refine QZ (r:=λm h=>WB 400 G.St G.Pt G.Se G.Li per Sk Ro Ls Ch Tu Sy De _ _ m h) (N:=Ls.length) (λm k hk=>?_) (λm=>?_) Ls.length 400 0 I I
 ·rw[WB,Qt hk,QqE,Qiq h hk,Qh,Qq (by rfl),QJ I]
 rw[WB,Qy,QqD,QcQ h,Qh5 h,Qh8 h,QbO h]
end
end Go.Vx
namespace Go.Vx
variable{R:Type} (n:Nat)
def Y7(n:Nat)(b h5 h7:LL)(d:Int)(g:LL)(e:Int)(k0:Qm5 R):QlY R
|0,_,_,_,_=>none
|m+1,h6,a,f,c=>bif decide (a<d)then Ql4 R h7 a λj o=>Qc R j[1]? λz=>Ql3 R b h6 λh=>Qc R (Y9 ((f.length+[[Ql h]].length)*8)) λaa=>Qa R (decide (a<wJ ((h5.length:Int)-1))) λad=>Qb R (f++[[Ql h]]) λae=>Qb R (wJ (a+1)) λag=>bif decide (a>0)then Qc R (pIw o) λr=>Qlb R g r λi=>bif ad then Ql3 R b (wJ (wJ (h6+i)+e)) λk=>Qc R (Y9 ((c.length+[[Ql k]].length)*8)) λab=>Y7 n b h5 h7 d g e k0 m (wJ (h6+i)) ag ae (c++[[Ql k]])else Y7 n b h5 h7 d g e k0 m (wJ (h6+i)) ag ae c else bif ad then Ql3 R b (wJ (h6+e)) λl=>Qc R (Y9 ((c.length+[[Ql l]].length)*8)) λac=>Y7 n b h5 h7 d g e k0 m h6 ag ae (c++[[Ql l]])else Y7 n b h5 h7 d g e k0 m h6 ag ae c else k0 h6 a (decide (a<d)) f c
def Ho(q r f s g:LL)(h:Int)(i:Y UInt8)(c j k l:Int)(K:LL->LL->Int->Int->oP R):oP R:=Qc R (HE n q r f s g h i c j k l Tu3) λa=>bif a.2.2 !=0 then K [] [] 0 a.2.2 else Qc R (JH n a.1 a.2.1 i c j k l Tu2) λb=>Qc R (Uo n g h some) λe=>Y7 n b.1 e e (e.length:Int) f c (λm ab ac t o=>Ql3 R b.1 m λp=>Qc R (Y9 ((o.length+[[Ql p]].length)*8)) λad=>Ql3 R b.1 m λz=>Qc R (G6 n z some) λaa=>K t (o++[[Ql p]]) aa 0) n 0 0 [] []
def Y0(h7 d:LL)(b:Int)(k0:QlL R):QlM R
|0,_,_=>none
|m+1,a,c=>bif decide (a<b)then Ql3 R h7 (wJ (a-1)) λi=>Qc R (Vq n i some) λe=>Ql3 R d a λl=>Qc R (G6 n l some) λf=>Qb R [[Ql 0,Ql (wJ (e-16)),Ql (wJ (f+4))]] λp=>Qc R (Y9 ((c.length+p.length)*24)) λo=>Y0 h7 d b k0 m (wJ (a+1)) (c++p)else k0 a (decide (a<b)) c
def QA(f:Int)(l:LL)(g:Int)(h i e j k:LL)(c d:Int)(k0:QlU R):QlW R
|0,_,_,_=>none
|m+1,a,b,q=>bif decide (a<g)then Qld R l a λr v=>Qb R (wJ (a+1)) λcp=>Qb R (wJ (a-1)) λcq=>Qb R (e.length:Int) λcr=>bif decide (a>f)then Qc R (Y9 ((b.length+[[Ql 0,Ql c,Ql d]].length)*24)) λbu=>Qc R (pIw r) λad=>Qb R (b++[[Ql 0,Ql c,Ql d]]) λco=>Qln R (List.length co) a co a.toNat λah=>Ql2 R (List.length co) a co a.toNat λai=>Qlk R ai λak=>Qc R (XI n q ad ah ak some) λo=>Qc R (Rf o q.length) λca=>bif a==0 then QA f l g h i e j k c d k0 m cp co o else Qld R k cq λal am=>Qlr R al am r v λan ao ap aq=>Qc R (ZB n h i e j an ao ap aq some) λs=>bif decide (s<0)then QA f l g h i e j k c d k0 m cp co o else bif decide (a<=f)then Qln R (List.length co) a co a.toNat λav=>Ql2 R (List.length co) cq co (Int.toNat cq) λaw=>Qlk R aw λay=>Qc R (XI n o (wJ (cr+s)) av ay some) λy=>Qc R (Rf y o.length) λce=>QA f l g h i e j k c d k0 m cp co y else Qc R (XI n o (wJ (cr+s)) c d some) λz=>Qc R (Rf z o.length) λcf=>QA f l g h i e j k c d k0 m cp co z else Qc R (pIw r) λaz=>Qln R b.length a b a.toNat λbc=>Ql2 R b.length a b a.toNat λbd=>Qlk R bd λbg=>Qc R (XI n q az bc bg some) λp=>Qc R (Rf p q.length) λci=>bif a==0 then QA f l g h i e j k c d k0 m cp b p else Qld R k cq λbh bi=>Qlr R bh bi r v λbj bk bl bm=>Qc R (ZB n h i e j bj bk bl bm some) λt=>bif decide (t<0)then QA f l g h i e j k c d k0 m cp b p else bif decide (a<=f)then Qln R b.length a b a.toNat λbp=>Ql2 R b.length cq b (Int.toNat cq) λbq=>Qlk R bq λbt=>Qc R (XI n p (wJ (cr+t)) bp bt some) λab=>Qc R (Rf ab p.length) λcm=>QA f l g h i e j k c d k0 m cp b ab else Qc R (XI n p (wJ (cr+t)) c d some) λac=>Qc R (Rf ac p.length) λcn=>QA f l g h i e j k c d k0 m cp b ac else k0 a (decide (a<g)) b q
def Jz(c d e f b:LL)(l:Int)(m:Y UInt8)(o p q r s h:Int)(K:QlV R):oP R:=gb true (Ho n c d e f b l m o p q r Tu4) ([],[],0,0) λa=>bif a.2.2.2 !=0 then K [] 0 a.2.2.2 else Ql3 R a.2.1 0 λv=>Qc R (G6 n v some) λx=>Qb R (wJ ((a.1.length:Int)-1)) λt=>Y0 n a.1 a.2.1 t (λai aj i=>Ql3 R a.1 (wJ (t-1)) λaa=>Qc R (Vq n aa some) λj=>Qb R [[Ql 0,Ql (wJ (j-16)),Ql (wJ (a.2.2.1+h))]] λu=>Qc R (Y9 ((i.length+u.length)*24)) λak=>Ql3 R a.1 t λad=>Qc R (Vq n ad some) λae=>Qc R (Jl n c d e f some) λag=>QA n t b (b.length:Int) c d e f b (wJ (ae-16)) (wJ (a.2.2.1+20)) (λal am an ah=>Qc R (Vu n ah some) λk=>Qc R (Lt [k]) λao=>K k a.2.2.1 0) n 0 (i++u) ag) n 1 [[Ql 0,Ql (wJ (0-s)),Ql (wJ (x+4))]]
def Uv(e f g h i:LL)(j:Int)(k:Y UInt8)(l m o p c d:Int)(K:QlV R):oP R:=Qc R (GD n e f g h i j k l m o p some) λb=>bif b !=0 then K [] 0 b else bif Q8 (Q8 (Q8 (decide (c<0)) (decide (c>65536))) (decide (d<0))) (decide (d>65536))then K [] 0 4 else Qc R (Jz n e f g h i j k l m o p c d Tu3) λa=>K a.1 a.2.1 a.2.2
end Go.Vx
namespace Go.Vx
def cd(a b:Int):Int:=if 0<a % b then a / b+1 else a / b
theorem AU{a b:Int}(h0:0<=a)(h1:1<=b):a<=cd a b*b/\0<=cd a b/\cd a b<=a / b+1:=by
 have h2:=Int.emod_nonneg a (show b≠0 by omega);have c:=Int.emod_lt_of_pos a (show 0<b by omega);have d:=Int.mul_ediv_add_emod a b;have h5:0<=a / b:=Int.ediv_nonneg h0 I;have h6:b*(a / b)=a / b*b:=Int.mul_comm ..;have h7:(a / b+1)*b=a / b*b+b:=by rw[Int.add_mul,Int.one_mul]
 unfold cd;split<;>refine⟨?_,?_,?_⟩<;>omega
theorem QgI{a b:Int}(h0:0<=a)(h1:1<=b)(ha:a<=1000000000):nz b=some ()/\(Int.tmod a b=a % b)/\wJ (Int.tdiv a b)=a / b/\wJ (a / b+1)=a / b+1:=by
 have h5:0<=a / b:=Int.ediv_nonneg h0 I;have h6:a / b<=a:=Int.ediv_le_self _ h0;exact⟨DO I,QqW h0,by rw[Qr0 h0,Qo I I],Qo I I⟩
section
variable{n:Nat} {a b:Int} (h0:0<=a) (h1:1<=b) (ha:a<=1000000000)
include h0 h1 ha
theorem QdD:K9 n a b Tu2=some (cd a b,0):=by
 obtain⟨e1,e2,e,f⟩:=QgI h0 h1 ha;unfold K9 cd;rw[Qq (by simpa using h1),e1,Qh,Qh,e2,e,f];by_cases h:0<a % b
 ·rw[Xi (by simpa using h),QqJ h]
 ·rw[Qq (by simpa using h),QqL h]
theorem Qe5:JE n a b (some:Int->oP Int)=some (cd a b):=by
 obtain⟨e1,e2,c,d⟩:=QgI h0 h1 ha;unfold JE cd;rw[e1,Qh,Qh,e2,c,d];by_cases h:0<a % b
 ·rw[Xi (by simpa using h),QqJ h]
 ·rw[Qq (by simpa using h),QqL h]
end
theorem upA{n:Nat}{a:Int}(h0:0<=a)(ha:a<=1000000000):G6 n a (some:Int->oP Int)=some (cd a 1000):=by
 unfold G6;rw[QdD h0 Q1 ha,Qh]
theorem Qdv{a:Int}(h0:0<=a)(ha:a<=1000000000):decide (Int.tmod a 1000<0)=false/\wJ (Int.tdiv a 1000)=a / 1000:=by
 rw[QqW h0,Qr0 h0];exact⟨by simp;omega,Qo I I⟩
theorem QiC{n:Nat}{a:Int}(h0:0<=a)(ha:a<=1000000000):Vq n a (some:Int->oP Int)=some (a / 1000):=by
 obtain⟨e1,e2⟩:=Qdv h0 ha;unfold Vq PG;rw[Qq Q1,DO Q1,Qh,Qh,e1,QqD,e2,Qh]
theorem QhA{n:Nat}{a:Int}(h0:0<=a)(ha:a<=1000000000):VP n a 1000 (some:Int->oP Int)=some (a / 1000):=by
 obtain⟨e1,e2⟩:=Qdv h0 ha;unfold VP;rw[DO Q1,Qh,Qh,e1,QqD,e2]
def sq(x:Int):Int:=(SB 400 x (some:Int->oP Int)).getD 0
theorem Q6R{x:Int}(h0:0<=x)(hx:x<=1000000000):Qcg x (sq x)/\SB 400 x (some:Int->oP Int)=some (sq x)/\MB 400 x (some:Int->oP Int)=some (sq x):=by
 obtain⟨r,h1,h2⟩:=Qje h0 hx;have e:sq x=r:=by unfold sq;rw[h2];rfl
 rw[e];exact⟨h1,h2,QiF h0 hx h1⟩
namespace Run
variable(X:Run)
def S(j:Nat):Int:=sq (X.K (X.N-j))
def T:Nat->Int
 |0=>0
 |b+1=>T b+cd 20000000 (X.S b+X.S (b+1))
variable{X} (h:X.OK)
include h
theorem QfT{j:Nat}(hj:j<=X.N):0<=X.S j/\X.S j<=25000/\(1<=j->j<X.N->1000<=X.S j):=by
 have h1:=Q5O h (X.N-j) I;obtain⟨⟨c,e,f⟩,_,_⟩:=Q6R (x:=X.K (X.N-j)) I I;refine⟨c,Qa5 c Q1 e I,λa b=>?_⟩;have h2:=h1.2.2 I I;by_cases d:1000<=X.S j
 ·exact d
 ·have:=Q5Y (show 0<=sq (X.K (X.N-j))+1 by omega) (show sq (X.K (X.N-j))+1<=1000 by unfold S at d;omega);omega
theorem inc_rng{b:Nat}(hb:b<X.N):1000<=X.S b+X.S (b+1)/\X.S b+X.S (b+1)<=50000/\0<=cd 20000000 (X.S b+X.S (b+1))/\cd 20000000 (X.S b+X.S (b+1))<=20001:=by
 have h2:=h.h2;have a:=QfT h (j:=b) I;have c:=QfT h (j:=b+1) I;have hs:1000<=X.S b+X.S (b+1):=by
  by_cases f:b=0
  ·have:=c.2.2 I I;omega
  ·have:=a.2.2 I I;omega
 have d:=AU (show(0:Int)<=20000000 by decide) (show 1<=X.S b+X.S (b+1) by omega);have e:20000000 / (X.S b+X.S (b+1))<=20000:=Int.ediv_le_of_le_mul I I;omega
theorem T_rng:∀b:Nat,b<=X.N->0<=X.T b/\X.T b<=20001*b
 |0,_=>by rw[T];omega
 |b+1,hb=>by
  have:=T_rng b I;have:=inc_rng h (b:=b) I;rw[T];omega
theorem T_mono{a:Nat}:∀{b:Nat},a<=b->b<=X.N->X.T a<=X.T b
 |0,h1,_=>by rw[show a=0 by omega];omega
 |b+1,h1,h2=>by
  by_cases e:a=b+1
  ·subst e;omega
  ·have:=T_mono (a:=a) (b:=b) I I;have:=inc_rng h (b:=b) I;rw[T];omega
def TT(X:Run):LL:=arr X.T (X.N+1)
theorem QkG:GG 400 X.C (X.st:Int) X.nm (X.t:Int) X.sp X.ac X.br Tu2=some (arr X.S (X.N+1),0):=by
 have hN:=h.hN;have h2:=h.h2;have hl:=h.hC.len;have ai:Jq 400 X.C (X.st:Int) X.nm (X.t:Int) X.sp X.ac X.br (some:Int->oP Int)=some 0:=by
  unfold Jq;rw[Av h.hk,Qh,Qq Q1,Qq Q3];refine QZ (r:=λm i=>YW 400 X.C (X.C.length:Int) _ _ m i) (N:=X.C.length) (λm k hk=>?_) (λm=>?_) X.C.length 400 0 I I
  ·have b0:=h.hC.b0 k hk;have b1:=h.hC.b1 k hk;have g0:=h.hC.g0 k hk;have g1:=h.hC.g1 k hk;rw[YW,Qt hk,Qp,h.hC.row k hk];simp -implicitDefEqProofs only[Qh,QqA,QqB,Qj,XW,X2,QqE,QqD,QqH,QqG,show decide ((cl X.C k).1<1000)=false by simp;omega,show decide ((cl X.C k).1>100000)=false by simp;omega,show decide ((cl X.C k).2 < -40)=false by simp;omega,show decide ((cl X.C k).2>40)=false by simp;omega,QJ (show k<=1000 by omega)]
  ·rw[YW,Qy,QqD,Qo I I,show decide ((X.st:Int)<0)=false by simp,show decide ((X.st:Int)>(X.C.length:Int)-2)=false by simp;omega];rfl
 unfold GG;rw[ai,Qh,Qq (by rfl),sqA h,Qh];have hW:X.W.length=X.N+1:=Z3;rw[hW];have:=QZ (r:=λm i=>ZR 400 ((X.N+1:Nat):Int) (λ_ _ d=>some (d,(0:Int))) m i (arr (λj=>if j<i.toNat then X.S j else X.K (X.N-j)) (X.N+1))) (N:=X.N+1) (e:=some (arr X.S (X.N+1),0)) (λm k hk=>?_) (λm=>?_) (X.N+1) 400 0 I I
 ·rw[show arr (λj=>if j<(((0:Nat):Int)).toNat then X.S j else X.K (X.N-j)) (X.N+1)=X.W from Y4 λj hj=>QqL Q2]at this;exact this
 ·simp only[QqC];have hK:=Q5O h (X.N-k) I;rw[ZR,Qt hk,QqE,Z3,Q97 hk,QqL (Nat.lt_irrefl k),(Q6R I I).2.1,Qh,QbH hk,QJ I];refine congrArg _ (Y4 λj hj=>?_);by_cases aa:j=k
  ·subst aa;rw[QqJ rfl,QqJ I];rfl
  ·rw[QqL aa];by_cases a:j<k
   ·rw[QqJ a,QqJ I]
   ·rw[QqL a,QqL I]
 ·simp only[QqC];rw[ZR,Qy,QqD];exact congrArg (λl=>some (l,(0:Int))) (Y4 λj hj=>QqJ hj)
theorem timA:JH 400 X.C (X.st:Int) X.nm (X.t:Int) X.sp X.ac X.br Tu2=some (X.TT,0):=by
 have hN:=h.hN;have hl:=h.hC.len;unfold JH;rw[QkG h,Qh,Qq (by rfl),Z3,show(bif decide ((0:Int)<=((X.N+1:Nat):Int))&&decide (((X.N+1:Nat):Int)<=((X.N+1:Nat):Int))then some ()else none)=some () by rw[Xi Q3],Qh,QqC,XM I,Qh,Bs];have:=QZ (r:=λm i=>WI 400 (arr X.S (X.N+1)) (λ_ _ g=>some (g,(0:Int))) m ((i.toNat+1:Nat):Int) (arr (λj=>if j<=i.toNat then X.T j else 0) (X.N+1))) (N:=X.N) (e:=some (X.TT,0)) (λm k hk=>?_) (λm=>?_) X.N 400 0 I I
 ·rw[show arr (λj=>if j<=(((0:Nat):Int)).toNat then X.T j else 0) (X.N+1)=arr (λ_=>0) (X.N+1)from Y4 λj hj=>by
   split
   ·rename_i h0;have h0:j=0:=by simpa using h0
    rw[h0,T]
   ·rfl]at this
  exact this
 ·simp only[QqC];have hi:=inc_rng h hk;have hT:=T_rng h k I;rw[WI,Z3,Qt (show k+1<X.N+1 by omega),QqE,G8 (show k+1<=1000 by omega) I,show k+1-1=k by omega,Qp,Qp,Gm (show k<X.N+1 by omega),Gm (show k+1<X.N+1 by omega)];simp -implicitDefEqProofs only[Qh,QqA,Qj,wI (a:=X.S k+X.S (k+1)) rfl (show -1000000<=X.S k+X.S (k+1) by omega) (show X.S k+X.S (k+1)<=1000000000 by omega),QdD (n:=400) (show(0:Int)<=20000000 by decide) (show 1<=X.S k+X.S (k+1) by omega) Q1];rw[Z3,Q97 (show k<X.N+1 by omega),QqJ (QqQ k),QbH (show k+1<X.N+1 by omega),QJ I,wI (a:=X.T k+cd 20000000 (X.S k+X.S (k+1))) (b:=X.T (k+1)) rfl (by rw[T];omega) (by rw[T];omega)];refine congrArg _ (Y4 λj hj=>?_);by_cases aa:j=k+1
  ·subst aa;rw[QqJ rfl,QqJ I]
  ·rw[QqL aa];by_cases c:j<=k
   ·rw[QqJ c,QqJ I]
   ·rw[QqL c,QqL I]
 ·simp only[QqC];rw[WI,Z3,Qy,QqD];exact congrArg (λl=>some (l,(0:Int))) (Y4 λj hj=>QqJ I)
end Run
namespace Run
variable{X:Run} (h:X.OK)
include h
theorem Qku:Bo 400 X.C (X.st:Int) X.nm (X.t:Int) X.sp X.ac X.br (some:Int->oP Int)=some 0:=by
 have hN:=h.hN;have h2:=h.h2;have hl:=h.hC.len;obtain⟨t1,t2,s1,s2,a1,a2,b1,b2⟩:=h.hk;have aa:Ye 400 X.nm (X.t:Int) X.sp X.ac X.br (some:Bool->oP Bool)=some true:=by
  unfold Ye;simp -implicitDefEqProofs only[Qh,QqA,QqB,Qj,XW,X2,QqE,QqD,QqH,QqG,Q5A t1 (show(X.t:Int)<=40 by omega),Q5A (show 1000<=X.sp by omega) (show X.sp<=100000 by omega),Q5A (show 100<=X.ac by omega) (show X.ac<=2000 by omega),Q5A (show 100<=X.br by omega) (show X.br<=2000 by omega)]
 unfold Bo;rw[aa,Qh,Qq Q1,Qq Q3];refine QZ (r:=λm i=>KI 400 X.C _ _ m i) (N:=X.C.length) (λm k hk=>?_) (λm=>?_) X.C.length 400 0 I I
 ·have b0:=h.hC.b0 k hk;have b1:=h.hC.b1 k hk;have g0:=h.hC.g0 k hk;have g1:=h.hC.g1 k hk;rw[KI,Qt hk,Qp,h.hC.row k hk];simp -implicitDefEqProofs only[Qh,QqA,QqB,Qj,XW,X2,QqE,QqD,QqH,QqG,Q5A (show 1000<=(cl X.C k).1 by omega) (show(cl X.C k).1<=100000 by omega),Q5A (show -40<=(cl X.C k).2 by omega) (show(cl X.C k).2<=40 by omega),QJ (show k<=1000 by omega)]
 ·rw[KI,Qy,QqD,Qo I I,show decide ((X.st:Int)<0)=false by simp,show decide ((X.st:Int)>(X.C.length:Int)-2)=false by simp;omega];rfl
theorem QkK:RG 400 X.C (X.st:Int) X.nm (X.t:Int) X.sp X.ac X.br Tu2=some (arr X.S (X.N+1),0):=by
 have hN:=h.hN;have h2:=h.h2;have hl:=h.hC.len;have t2:=h.hk.t2;have hw:wJ ((X.C.length:Int)-(X.st:Int))=(X.N:Int):=by rw[Qo I I];omega
 unfold RG;rw[Qku h,Qh,Qq (by rfl),hw,QJ I,show(bif decide ((0:Int)<=((X.N+1:Nat):Int))&&decide (((X.N+1:Nat):Int)<=((X.N+1:Nat):Int))then some ()else none)=some () by rw[Xi Q3],Qh,QqC,XM I,Qh,Bs];have e1:∀k0:Int->Bool->LL->oP (LL×Int),UK 400 X.C (X.st:Int) (X.N:Int) X.nm (X.t:Int) X.sp X.ac X.br k0 400 (1:Int) (arr (λ_=>0) (X.N+1))=k0 (X.N:Int) false (arr (λj=>if 1<=j/\j<=X.N-1 then X.V j else 0) (X.N+1)):=by
  intro k0;have:=QZ (r:=λm i=>UK 400 X.C (X.st:Int) (X.N:Int) X.nm (X.t:Int) X.sp X.ac X.br k0 m ((i.toNat+1:Nat):Int) (arr (λj=>if 1<=j/\j<=i.toNat then X.V j else 0) (X.N+1))) (N:=X.N-1) (e:=k0 (X.N:Int) false (arr (λj=>if 1<=j/\j<=X.N-1 then X.V j else 0) (X.N+1))) (λm i hi=>?_) (λm=>?_) (X.N-1) 400 0 I I
  ·rw[show arr (λj=>if 1<=j/\j<=(((0:Nat):Int)).toNat then X.V j else 0) (X.N+1)=arr (λ_=>0) (X.N+1)from Y4 λj hj=>QqL Q3]at this;exact this
  ·simp only[QqC];have au:=Qbv h (b:=i+1) I;have hV:=QeR h (b:=i+1) I;rw[UK,Qt (show i+1<X.N by omega),QqE,wI (show(X.st:Int)+((i+1:Nat):Int)=((X.st+(i+1):Nat):Int) by omega) I I,wI (show((X.st+(i+1):Nat):Int)-1=((X.st+i:Nat):Int) by omega) I I,Qk8 h.hC I I,Qh,Qk8 h.hC I I,Qh,Z3,QbH I,QJ I];refine congrArg _ (Y4 λj hj=>?_);have e1:(if Q8q X.C X.sp (X.st+(i+1)) X.t<Q8q X.C X.sp (X.st+i) X.t then Q8q X.C X.sp (X.st+(i+1)) X.t else Q8q X.C X.sp (X.st+i) X.t)=X.lo (i+1):=rfl;by_cases aa:j=i+1
   ·subst aa;rw[QqJ rfl,e1,wI (a:=X.lo (i+1)*X.lo (i+1)) (b:=X.V (i+1)) rfl I I,QqJ I]
   ·rw[QqL aa];by_cases d:1<=j/\j<=i
    ·rw[QqJ d,QqJ I]
    ·rw[QqL d,QqL I]
  ·simp only[QqC];rw[show X.N-1+1=X.N by omega,UK,Qy,QqD]
 rw[e1];have e2:∀k0:Int->Bool->LL->oP (LL×Int),UP 400 X.C (X.st:Int) (X.N:Int) X.nm (X.t:Int) X.sp X.ac X.br k0 400 (0:Int) (arr (λj=>if 1<=j/\j<=X.N-1 then X.V j else 0) (X.N+1))=k0 (X.N:Int) false (arr (λj=>if j<=X.N-1 then X.F j else 0) (X.N+1)):=by
  intro k0;have:=QZ (r:=λm i=>UP 400 X.C (X.st:Int) (X.N:Int) X.nm (X.t:Int) X.sp X.ac X.br k0 m i (arr (λj=>if j<=X.N-1 then(if j<=i.toNat then X.F j else X.V j)else 0) (X.N+1))) (N:=X.N) (e:=k0 (X.N:Int) false (arr (λj=>if j<=X.N-1 then X.F j else 0) (X.N+1))) (λm i hi=>?_) (λm=>?_) X.N 400 0 I I
  ·rw[show arr (λj=>if j<=X.N-1 then(if j<=(((0:Nat):Int)).toNat then X.F j else X.V j)else 0) (X.N+1)=arr (λj=>if 1<=j/\j<=X.N-1 then X.V j else 0) (X.N+1)from Y4 λj hj=>by
    by_cases q:j=0
    ·subst q;rw[QqJ I,QqJ Q2,QqL I,F]
    ·by_cases c:j<=X.N-1
     ·rw[QqJ c,QqL Q3,QqJ I]
     ·rw[QqL c,QqL I]]at this
   exact this
  ·simp only[QqC];have f:=h.hC.g0 (X.st+i) I;have g:=h.hC.g1 (X.st+i) I;have hr:=row h (b:=i) I;have hF:=Qc5 h i I;have hG:=Qe2 h (b:=i) I;have ha:=Q6b h.hk.a1 h.hk.a2 f g;rw[UP,Qt hi,QqE,QJ I,Z3,Q97 (show i+1<X.N+1 by omega),Q97 (show i<X.N+1 by omega),wI (show(X.st:Int)+(i:Int)=((X.st+i:Nat):Int) by omega) I I,Qp,hr];simp -implicitDefEqProofs only[Qh,QqA,QqB,Qj,XW,X2,QqE,QqD,QqH,QqG,QfO h.hk.a1 h.hk.a2 f g];rw[QbH (show i+1<X.N+1 by omega),QqJ (show i<=X.N-1 by omega),QqJ (QqQ i),QqL (show ¬ i+1<=i by omega),wI (a:=20000*acc X.ac (cl X.C (X.st+i)).2) (b:=X.G i) rfl I I,wI (a:=X.F i+X.G i) (b:=X.F i+X.G i) rfl I I];refine congrArg _ (Y4 λj hj=>?_);by_cases aa:j=i+1
   ·subst aa;rw[QqJ rfl];by_cases n:i+1<=X.N-1
    ·rw[QqJ n,QqJ n,QqJ (QqQ (i+1)),F]
    ·rw[QqL n,QqL (show ¬ X.F i+X.G i<0 by omega),QqL n]
   ·rw[QqL aa];by_cases c:j<=X.N-1
    ·rw[QqJ c,QqJ c];by_cases d:j<=i
     ·rw[QqJ d,QqJ I]
     ·rw[QqL d,QqL I]
    ·rw[QqL c,QqL c]
  ·simp only[QqC];rw[UP,Qy,QqD];refine congrArg _ (Y4 λj hj=>?_);by_cases c:j<=X.N-1
   ·rw[QqJ c,QqJ c,QqJ I]
   ·rw[QqL c,QqL c]
 rw[e2];have s:∀k0:Int->Bool->LL->oP (LL×Int),US 400 X.C (X.st:Int) X.nm (X.t:Int) X.sp X.ac X.br k0 400 (X.N:Int) (arr (λj=>if j<=X.N-1 then X.F j else 0) (X.N+1))=k0 0 false X.W:=by
  intro k0;have:=QZ (r:=λm i=>US 400 X.C (X.st:Int) X.nm (X.t:Int) X.sp X.ac X.br k0 m ((X.N-i.toNat:Nat):Int) (arr (λj=>if X.N-j<=i.toNat then X.K (X.N-j)else X.F j) (X.N+1))) (N:=X.N) (e:=k0 0 false X.W) (λm i hi=>?_) (λm=>?_) X.N 400 0 I I
  ·rw[show arr (λj=>if X.N-j<=(((0:Nat):Int)).toNat then X.K (X.N-j)else X.F j) (X.N+1)=arr (λj=>if j<=X.N-1 then X.F j else 0) (X.N+1)from Y4 λj hj=>by
    by_cases am:j=X.N
    ·subst am;rw[QqJ Q2,QqL I,Nat.sub_self,K]
    ·rw[QqL Q3,QqJ I]]at this
   exact this
  ·simp only[QqC];obtain⟨b,hb⟩:∃b,b+1=X.N-i:=⟨X.N-i-1,I⟩;have f:=h.hC.g0 (X.st+b) I;have g:=h.hC.g1 (X.st+b) I;have hr:=row h (b:=b) I;have hK:=Q5O h i I;have hL:=QcV h (b:=b) I;have ar:=Q6h h.hk.b1 h.hk.b2 f g;rw[<- hb,US,Xi Q2,G8 (show b+1<=1000 by omega) I,QqR,Z3,Q97 (show b<X.N+1 by omega),Q97 (show b+1<X.N+1 by omega),wI (show(X.st:Int)+((b+1:Nat):Int)=((X.st+b+1:Nat):Int) by omega) I I,G8 (show X.st+b+1<=1000 by omega) I,QqR,Qp,hr];simp -implicitDefEqProofs only[Qh,QqA,QqB,Qj,XW,X2,QqE,QqD,QqH,QqG,Qhq h.hk.b1 h.hk.b2 f g];rw[QbH (show b<X.N+1 by omega),show X.N-(i+1)=b by omega,QqL (show ¬ X.N-b<=i by omega),QqJ (show X.N-(b+1)<=i by omega),show X.N-(b+1)=i by omega,wI (a:=20000*brk X.br (cl X.C (X.st+b)).2) (b:=X.L b) rfl I I,wI (a:=X.K i+X.L b) (b:=X.K i+X.L b) rfl I I];refine congrArg _ (Y4 λj hj=>?_);by_cases ai:j=b
   ·subst ai;rw[QqJ rfl,QqJ (show X.N-j<=i+1 by omega),show X.N-j=i+1 by omega,K,show X.N-(i+1)=j by omega]
   ·rw[QqL ai];by_cases d:X.N-j<=i
    ·rw[QqJ d,QqJ I]
    ·rw[QqL d,QqL I]
  ·simp only[QqC];rw[Nat.sub_self,US,Qq Q1];refine congrArg _ (Y4 λj hj=>QqJ I)
 rw[s];have:=QZ (r:=λm i=>VK 400 (X.N:Int) (λ_ _ t=>some (t,(0:Int))) m i (arr (λj=>if j<i.toNat then X.S j else X.K (X.N-j)) (X.N+1))) (N:=X.N+1) (e:=some (arr X.S (X.N+1),0)) (λm k hk=>?_) (λm=>?_) (X.N+1) 400 0 I I
 ·rw[show arr (λj=>if j<(((0:Nat):Int)).toNat then X.S j else X.K (X.N-j)) (X.N+1)=X.W from Y4 λj hj=>QqL Q2]at this;exact this
 ·simp only[QqC];have hK:=Q5O h (X.N-k) I;rw[VK,Xi Q3,Z3,Q97 hk,QqL (Nat.lt_irrefl k),(Q6R I I).2.2,Qh,QbH hk,QJ I];refine congrArg _ (Y4 λj hj=>?_);by_cases aj:j=k
  ·subst aj;rw[QqJ rfl,QqJ I];rfl
  ·rw[QqL aj];by_cases d:j<k
   ·rw[QqJ d,QqJ I]
   ·rw[QqL d,QqL I]
 ·simp only[QqC];rw[VK,Qq Q3];exact congrArg (λl=>some (l,(0:Int))) (Y4 λj hj=>QqJ hj)
theorem timB:Sb 400 X.C (X.st:Int) X.nm (X.t:Int) X.sp X.ac X.br Tu2=some (X.TT,0):=by
 have hN:=h.hN;have hl:=h.hC.len;unfold Sb;rw[QkK h,Qh,Qq (by rfl),Z3,show(bif decide ((0:Int)<=((X.N+1:Nat):Int))&&decide (((X.N+1:Nat):Int)<=((X.N+1:Nat):Int))then some ()else none)=some () by rw[Xi Q3],Qh,QqC,XM I,Qh,Bs];have:=QZ (r:=λm i=>Jm 400 (arr X.S (X.N+1)) (λ_ _ o=>some (o,(0:Int))) m ((i.toNat+1:Nat):Int) (arr (λj=>if j<=i.toNat then X.T j else 0) (X.N+1))) (N:=X.N) (e:=some (X.TT,0)) (λm k hk=>?_) (λm=>?_) X.N 400 0 I I
 ·rw[show arr (λj=>if j<=(((0:Nat):Int)).toNat then X.T j else 0) (X.N+1)=arr (λ_=>0) (X.N+1)from Y4 λj hj=>by
   split
   ·rename_i c;have c:j=0:=by simpa using c
    rw[c,T]
   ·rfl]at this
  exact this
 ·simp only[QqC];have hi:=inc_rng h hk;have hT:=T_rng h k I;rw[Jm,Z3,Qt (show k+1<X.N+1 by omega),QqE,G8 (show k+1<=1000 by omega) I,show k+1-1=k by omega,Z3,Q97 (show k<X.N+1 by omega),QqJ (QqQ k),Qp,Qp,Gm (show k<X.N+1 by omega),Gm (show k+1<X.N+1 by omega)];simp -implicitDefEqProofs only[Qh,QqA,Qj,wI (a:=X.S k+X.S (k+1)) rfl (show -1000000<=X.S k+X.S (k+1) by omega) (show X.S k+X.S (k+1)<=1000000000 by omega),Qe5 (n:=400) (show(0:Int)<=20000000 by decide) (show 1<=X.S k+X.S (k+1) by omega) Q1];rw[QbH (show k+1<X.N+1 by omega),QJ I,wI (a:=X.T k+cd 20000000 (X.S k+X.S (k+1))) (b:=X.T (k+1)) rfl (by rw[T];omega) (by rw[T];omega)];refine congrArg _ (Y4 λj hj=>?_);by_cases aa:j=k+1
  ·subst aa;rw[QqJ rfl,QqJ I]
  ·rw[QqL aa];by_cases d:j<=k
   ·rw[QqJ d,QqJ I]
   ·rw[QqL d,QqL I]
 ·simp only[QqC];rw[Jm,Z3,Qy,QqD];exact congrArg (λl=>some (l,(0:Int))) (Y4 λj hj=>QqJ I)
end Run
def sl(Se s:LL)(j:Nat):Nat:=(SG Se (s.getD j [])).length
def pos(Se s:LL):Nat->Nat
 |0=>0
 |j+1=>pos Se s j+sl Se s (j+1)
theorem N3{f:Nat->Int}{n:Nat}:arr f n++[[Ql (f n)]]=arr f (n+1):=by simp[arr,List.range_succ]
section
variable{Se s:LL} (hs:∀r∈s,Dv Se r)
include hs
theorem Co{j:Nat}(hj:j<s.length):∃(x d:Int) (nm:Y UInt8) (b c st:Int),s[j]? = some [Ql x,Ql d]/\Qi Se x=some [D.str nm,Ql (sl Se s j),Ql b,Ql c,Ql st]/\2<=sl Se s j/\sl Se s j<=12/\(d=0\/d=1):=by
 obtain⟨x,d,nm,a,b,c,st,e,f,h2,g⟩:=hs _ (QqO hj);have a0:=h2.a0;have a1:=h2.a1;have e2:s[j]? = some [Ql x,Ql d]:=by rw[QqF hj,e]
 have h:sl Se s j=a.toNat:=by
  unfold sl;rw[QqK,e2];show(SG Se [Ql x,Ql d]).length=_;rw[HG f,List.length_replicate]
 refine⟨x,d,nm,b,c,st,e2,?_,I,I,g⟩;rw[f,h,show(a.toNat:Int)=a by omega]
omit hs in
theorem Q4j:∀{j:Nat},j<s.length->(Yz Se (s.take (j+1))).length=sl Se s 0+pos Se s j
 |0,hj=>by
  rw[MS (QqF hj)];simp only[List.take_zero,Yz,List.flatMap_nil,List.nil_append,pos,sl,QqK,QqF hj,QqZ];omega
 |j+1,hj=>by
  have:=Q4j (j:=j) I;rw[MS (QqF hj),Qr6,this,pos];simp only[sl,QqK,QqF hj,QqZ];omega
omit hs in
theorem Qab{i j:Nat}(a:i<=j):pos Se s i<=pos Se s j:=by
 induction j with
 |zero=>rw[show i=0 by omega];omega
 |succ j ih=>
  by_cases e:i=j+1
  ·subst e;omega
  ·have:=ih I;rw[pos];omega
theorem Q7f{i j:Nat}(a:i<j)(h2:j<s.length):pos Se s i+2<=pos Se s j:=by
 obtain⟨_,_,_,_,_,_,_,_,b,_⟩:=Co hs (j:=i+1) I;have:=Qab (Se:=Se) (s:=s) (i:=i+1) (j:=j) I;rw[pos]at this;omega
end
def ZE(Se s:LL)(nm:Y UInt8)(tl sp ac br:Int):Run:=⟨Yz Se s,nm,sp,ac,br,tl.toNat,sl Se s 0,pos Se s (s.length-1)⟩
section
variable{St Pt Se Li s:LL} (h:RtF St Pt Se Li s) {nm:Y UInt8} {tl sp ac br:Int} (hk:StkN tl sp ac br)
include h
theorem Af:Tv Se s=(sl Se s 0:Int):=by
 have l2:=h.l2;obtain⟨x,d,_,b,c,st,e,a,_⟩:=Co h.st (j:=0) I;cases s with
 |nil=>cases e
 |cons r t=>
  injection e with e
  subst e;simp only[Tv,a]
include hk
theorem RF:(ZE Se s nm tl sp ac br).OK where
 hC:=Q9z h.st h.l24
 hk:=by
  have:=hk.t1;show StkN (tl.toNat:Int) sp ac br;rw[show(tl.toNat:Int)=tl by omega];exact hk
 hN:=by
  have l2:=h.l2;have:=Q4j (Se:=Se) (s:=s) (j:=s.length-1) I;rw[show s.length-1+1=s.length by omega,Qr4]at this;exact this
 h2:=by
  have l2:=h.l2;have:=Q7f h.st (i:=0) (j:=s.length-1) I I;show 2<=pos Se s (s.length-1);omega
end
section
variable{St Pt Se Li s:LL} (h:RtF St Pt Se Li s) {nm:Y UInt8} {tl sp ac br:Int} (hk:StkN tl sp ac br)
def fEN(Se s:LL)(X:Run)(j:Nat):Int:=X.T (pos Se s (j-1))
def fLV(Se s:LL)(X:Run)(j:Nat):Int:=if j<s.length-1 then X.T (pos Se s j+X.t)else X.T X.N
def Q3I(X:Run):Int:=cd (X.T X.N) 1000
include h hk
theorem tEq:(((ZE Se s nm tl sp ac br).t:Nat):Int)=tl:=by
 have _:=h.l2;have:=hk.t1;show(tl.toNat:Int)=tl;omega
theorem QeQ:JH 400 (Yz Se s) (sl Se s 0:Int) nm tl sp ac br Tu2=some ((ZE Se s nm tl sp ac br).TT,0):=by
 have:=Run.timA (RF h (nm:=nm) hk);rw[tEq h hk]at this;exact this
theorem Qee:Sb 400 (Yz Se s) (sl Se s 0:Int) nm tl sp ac br Tu2=some ((ZE Se s nm tl sp ac br).TT,0):=by
 have:=Run.timB (RF h (nm:=nm) hk);rw[tEq h hk]at this;exact this
theorem Q1v{b:Nat}(hb:b<=(ZE Se s nm tl sp ac br).N):0<=(ZE Se s nm tl sp ac br).T b/\(ZE Se s nm tl sp ac br).T b<=7000000:=by
 have hX:=RF h (nm:=nm) hk;have a:=Run.T_rng hX b hb;have:=hX.hN;have:=hX.hC.len;omega
theorem FN:0<=Q3I (ZE Se s nm tl sp ac br)/\Q3I (ZE Se s nm tl sp ac br)<=7001:=by
 have a:=Q1v h (nm:=nm) hk (QqQ _);have:=AU a.1 (show(1:Int)<=1000 by decide);unfold Q3I;omega
theorem Qf6{j:Nat}(hj:j<s.length):pos Se s j<=(ZE Se s nm tl sp ac br).N/\(j<s.length-1->pos Se s j+(ZE Se s nm tl sp ac br).t<=(ZE Se s nm tl sp ac br).N):=by
 have a:=Qab (Se:=Se) (s:=s) (i:=j) (j:=s.length-1) I;have h2:=tEq h (nm:=nm) hk;have:=hk.t2;refine⟨a,λb=>?_⟩;have:=Q7f h.st (i:=j) (j:=s.length-1) b I;show pos Se s j+_<=pos Se s (s.length-1);omega
theorem Qg5:Ho 400 St Pt Se Li s 0 nm tl sp ac br Tu4=some (arr (fEN Se s (ZE Se s nm tl sp ac br)) s.length,arr (fLV Se s (ZE Se s nm tl sp ac br)) s.length,Q3I (ZE Se s nm tl sp ac br),0):=by
 have l2:=h.l2;have l24:=h.l24;have ht:=tEq h (nm:=nm) hk;have hX:=RF h (nm:=nm) hk;have ao:=hX.hN;have an:=hX.hC.len;have ak:=QeQ h (nm:=nm) hk;have ai:=λ(j:Nat) (hj:j<s.length)=>Qf6 h (nm:=nm) hk hj
 have aj:=Q1v h (nm:=nm) hk (QqQ _);have hN:(ZE Se s nm tl sp ac br).N=pos Se s (s.length-1):=rfl;unfold Ho;rw[Qke h.lay rfl h.l2 h.l24 h.rt h.st hk,Qh,Qq (by rfl),Af h,ak,Qh,Q1s h.l24,Qh];revert hX ao an ai aj hN ht;generalize ZE Se s nm tl sp ac br=X;intro ht hX ao an ai aj hN;have p:∀k0:Int->Int->Bool->LL->LL->oP (LL×LL×Int×Int),Y7 400 X.TT s s (s.length:Int) Se tl k0 400 0 0 [] []=k0 ((pos Se s (s.length-1):Nat):Int) (s.length:Int) false (arr (fEN Se s X) s.length) (arr (fLV Se s X) (s.length-1)):=by
  intro k0;refine QZ (r:=λm i=>Y7 400 X.TT s s (s.length:Int) Se tl k0 m ((pos Se s (i.toNat-1):Nat):Int) i (arr (fEN Se s X) i.toNat) (arr (fLV Se s X) (min i.toNat (s.length-1)))) (N:=s.length) (λm i hi=>?_) (λm=>?_) s.length 400 0 I I
  ·simp only[QqC];obtain⟨x,d,az,b,c,st,e,q,a0,a1,hd⟩:=Co h.st hi;have hp:=ai (i-1) I;have f:=ai i hi;rw[Y7,Qt hi,QqE,Qp,e];have hT:Qi X.TT ((pos Se s (i-1):Nat):Int)=some [Ql (fEN Se s X i)]:=by rw[Qp];exact Gm I
   have hr:Y9 (((arr (fEN Se s X) i).length+List.length [[D.int .i64 (fEN Se s X i)]])*8)=some ():=XM (by simp only[Z3,QqY,Qr1];omega);simp -implicitDefEqProofs only[Qh,QqA,QqB,Qj,hT,hr,N3,wI (show(i:Int)+1=((i+1:Nat):Int) by omega) I I,wI (show(s.length:Int)-1=((s.length-1:Nat):Int) by omega) I I];have ar:i<s.length-1->Qi X.TT ((pos Se s i+X.t:Nat):Int)=some [Ql (fLV Se s X i)]:=λaa=>by
    have:=f.2 aa;rw[Qp];show(arr X.T (X.N+1))[pos Se s i+X.t]? = _;rw[Gm I];unfold fLV;rw[QqJ aa]
   have a:∀k,k<=30->Y9 (((arr (fLV Se s X) k).length+List.length [[D.int .i64 (fLV Se s X k)]])*8)=some ():=λk hk=>XM (by simp only[Z3,QqY,Qr1];omega)
   by_cases t:i=0
   ·subst t;have am:0<s.length-1:=I
    have:=ar am;rw[show decide (((0:Nat):Int)>0)=false from rfl,QqD,Qt am,QqE,wI (show((pos Se s (0-1):Nat):Int)+tl=((pos Se s 0+X.t:Nat):Int) by rw[<- ht,show 0-1=0 from rfl];omega) I I,this,Nat.min_eq_left I,Nat.min_eq_left I];simp -implicitDefEqProofs only[Qh,QqA,Qj,a 0 I,N3]
   ·have ay:pos Se s i=pos Se s (i-1)+sl Se s i:=by
     obtain⟨k,rfl⟩:∃k,i=k+1:=⟨i-1,I⟩;rfl
    rw[show decide ((i:Int)>0)=true by simp;omega,QqE,q];simp -implicitDefEqProofs only[Qh,QqA,QqB,Qj,wI (show((pos Se s (i-1):Nat):Int)+((sl Se s i:Nat):Int)=((pos Se s i:Nat):Int) by omega) I I,QqR];by_cases aa:i<s.length-1
    ·rw[Qt aa,QqE,wI (show((pos Se s i:Nat):Int)+tl=((pos Se s i+X.t:Nat):Int) by omega) (by have:=f.2 aa;omega) (by have:=f.2 aa;omega),ar aa,Nat.min_eq_left I,Nat.min_eq_left I];simp -implicitDefEqProofs only[Qh,QqA,Qj,a i I,N3]
    ·rw[show decide ((i:Int)<((s.length-1:Nat):Int))=false by simp;omega,QqD,Nat.min_eq_right I,Nat.min_eq_right I]
  ·simp only[QqC];rw[Y7,Qy,QqD,Nat.min_eq_right I]
 rw[p];have hT:Qi X.TT ((pos Se s (s.length-1):Nat):Int)=some [Ql (fLV Se s X (s.length-1))]:=by
  rw[Qp];show(arr X.T (X.N+1))[pos Se s (s.length-1)]? = _;rw[Gm I];unfold fLV;rw[QqL I,hN]
 have hl:fLV Se s X (s.length-1)=X.T X.N:=by unfold fLV;rw[QqL I]
 have a:Y9 (((arr (fLV Se s X) (s.length-1)).length+List.length [[D.int .i64 (fLV Se s X (s.length-1))]])*8)=some ():=XM (by simp only[Z3,QqY,Qr1];omega);simp -implicitDefEqProofs only[hT,Qh,QqA,Qj,a,N3];rw[hl,upA aj.1 I,Qh,show s.length-1+1=s.length by omega];rfl
theorem QiS:PE 400 St Pt Se Li s 0 nm tl sp ac br Tu4=some (arr (fEN Se s (ZE Se s nm tl sp ac br)) s.length,arr (fLV Se s (ZE Se s nm tl sp ac br)) s.length,Q3I (ZE Se s nm tl sp ac br),0):=by
 have l2:=h.l2;have l24:=h.l24;have ht:=tEq h (nm:=nm) hk;have t1:=hk.t1;have hX:=RF h (nm:=nm) hk;have ao:=hX.hN;have an:=hX.hC.len;have am:=Qee h (nm:=nm) hk;have aa:=λ(j:Nat) (hj:j<s.length)=>Qf6 h (nm:=nm) hk hj
 have aj:=Q1v h (nm:=nm) hk (QqQ _);have hN:(ZE Se s nm tl sp ac br).N=pos Se s (s.length-1):=rfl;unfold PE;rw[QaN h hk,Qh,Qq (by rfl),Qar h,Qh,Af h,am,Qh];revert hX ao an aa aj hN ht;generalize ZE Se s nm tl sp ac br=X;intro ht hX ao an aa aj hN;have ai:X.TT.length=X.N+1:=Z3;have hw:wJ ((s.length:Int)-0)=(s.length:Int):=by rw[Qo I I];omega
 have p:∀k0:Int->Int->Bool->LL->LL->oP (LL×LL×Int×Int),ZC 400 X.TT Se s 0 tl k0 400 0 0 [] []=k0 ((pos Se s (s.length-1):Nat):Int) (s.length:Int) false (arr (fEN Se s X) s.length) (arr (fLV Se s X) s.length):=by
  intro k0;refine QZ (r:=λm i=>ZC 400 X.TT Se s 0 tl k0 m ((pos Se s (i.toNat-1):Nat):Int) i (arr (fEN Se s X) i.toNat) (arr (fLV Se s X) i.toNat)) (N:=s.length) (λm i hi=>?_) (λm=>?_) s.length 400 0 I I
  ·simp only[QqC];obtain⟨x,d,az,b,c,st,e,q,a0,a1,hd⟩:=Co h.st hi;have hp:=aa (i-1) I;have t:=aa i hi;have hT:Qi X.TT ((pos Se s (i-1):Nat):Int)=some [Ql (fEN Se s X i)]:=by rw[Qp];exact Gm I
   have hr:Y9 (((arr (fEN Se s X) i).length+List.length [[D.int .i64 (fEN Se s X i)]])*8)=some ():=XM (by simp only[Z3,QqY,Qr1];omega);have a:Y9 (((arr (fLV Se s X) i).length+List.length [[D.int .i64 (fLV Se s X i)]])*8)=some ():=XM (by simp only[Z3,QqY,Qr1];omega);have ar:Qi X.TT (if (X.N:Int)<((pos Se s i+X.t:Nat):Int)then(X.N:Int)else((pos Se s i+X.t:Nat):Int))=some [Ql (fLV Se s X i)]:=by
    unfold fLV;by_cases ak:i<s.length-1
    ·have:=t.2 ak;rw[QqL I,QqJ ak,Qp];exact Gm I
    ·have e:i=s.length-1:=I
     rw[QqJ (by rw[hN,e];omega),QqL ak,Qp];exact Gm I
   rw[ZC,hw,Qt hi,QqE,ai,wI (show((X.N+1:Nat):Int)-1=(X.N:Int) by omega) I I];simp -implicitDefEqProofs only[Qh,QqA,QqB,Qj,hT,hr,N3,wI (show(i:Int)+1=((i+1:Nat):Int) by omega) I I];by_cases u:i=0
   ·subst u;rw[show decide (((0:Nat):Int)>0)=false from rfl,QqD,wI (show((pos Se s (0-1):Nat):Int)+tl=((pos Se s 0+X.t:Nat):Int) by rw[<- ht,show 0-1=0 from rfl];omega) I I,ar];simp -implicitDefEqProofs only[Qh,QqA,Qj,a,N3]
   ·have ay:pos Se s i=pos Se s (i-1)+sl Se s i:=by
     obtain⟨k,rfl⟩:∃k,i=k+1:=⟨i-1,I⟩;rfl
    rw[show decide ((i:Int)>0)=true by simp;omega,QqE,Qp,e];simp -implicitDefEqProofs only[Qh,QqA,QqB,Qj,q,wI (show((pos Se s (i-1):Nat):Int)+((sl Se s i:Nat):Int)=((pos Se s i:Nat):Int) by omega) I I,wI (show((pos Se s i:Nat):Int)+tl=((pos Se s i+X.t:Nat):Int) by omega) I I,ar,a,N3,QqR]
  ·simp only[QqC];rw[ZC,hw,Qy,QqD]
 have hT:Qi X.TT (X.N:Int)=some [Ql (X.T X.N)]:=by rw[Qp];exact Gm I
 rw[p,ai,wI (show((X.N+1:Nat):Int)-1=(X.N:Int) by omega) I I];simp -implicitDefEqProofs only[hT,Qh,QqA,Qj,Qe5 (n:=400) aj.1 (show(1:Int)<=1000 by decide) I];rfl
end
abbrev Occ:=Int×Int×Int
def enc(q:Occ):Y D:=[Ql q.1,Ql q.2.1,Ql q.2.2]
def SD(q:Occ):Bool:=decide (q.2.1<q.2.2)
def Cu(T:Y Occ)(r:Nat)(f t:Int):Y Occ:=match T[r]? with
 |some (_,a,b)=>if a<b then T.set r ((r:Int),(if a<f then a else f),(if t<b then b else t))else T.set r ((r:Int),f,t)
 |none=>T
theorem MV{T:Y Occ}{r:Nat}{f t:Int}:(Cu T r f t).length=T.length:=by
 unfold Cu;split
 ·split<;>simp
 ·rfl
theorem Qhe{n:Nat}{T:Y Occ}{r:Nat}{f t:Int}(h:r<T.length):XI n (T.map enc) (r:Int) f t (some:LL->oP LL)=some ((Cu T r f t).map enc):=by
 obtain⟨⟨x,a,b⟩,e⟩:∃q,T[r]? = some q:=⟨T[r],QqF h⟩;have e2:(T.map enc)[r]? = some [Ql x,Ql a,Ql b]:=by rw[QqV,e];rfl
 unfold XI;rw[QqP,XR I I];simp -implicitDefEqProofs only[Qh,QqA,QqB,Qj,XW,X2,QqE,QqD,QqH,QqG,QqC,e2,List.set_cons_zero,List.set_cons_succ];unfold Cu;simp only[e];by_cases aa:a<b
 ·rw[show decide (a<b)=true by simpa using aa,QqE,QqJ aa,List.map_set];rfl
 ·rw[show decide (a<b)=false by simpa using aa,QqD,QqL aa,List.map_set];rfl
theorem QjQ{n:Nat}{T:Y Occ}{r:Nat}{f t:Int}(h:r<T.length)(ac:f<t):Z1 n (T.map λq=>[D.bool (SD q)]) (T.map enc) (r:Int) f t Tu2=some ((Cu T r f t).map (λq=>[D.bool (SD q)]),(Cu T r f t).map enc):=by
 obtain⟨⟨x,a,b⟩,e⟩:∃q,T[r]? = some q:=⟨T[r],QqF h⟩;have e2:(T.map enc)[r]? = some [Ql x,Ql a,Ql b]:=by rw[QqV,e];rfl
 have g:(T.map λq=>[D.bool (SD q)])[r]? = some [D.bool (decide (a<b))]:=by rw[QqV,e];rfl
 unfold Z1;rw[QqP,QqP,XR I I];simp -implicitDefEqProofs only[Qh,QqA,QqB,Qj,XW,X2,QqE,QqD,QqH,QqG,QqC,e2,g,LQ,List.set_cons_zero,List.set_cons_succ];unfold Cu;simp only[e];by_cases aa:a<b
 ·rw[show decide (a<b)=true by simpa using aa,QqE,QqJ aa,List.map_set,List.map_set,show SD ((r:Int),(if a<f then a else f),(if t<b then b else t))=true by simp only[SD,decide_eq_true_eq];split<;>split<;>omega];rfl
 ·rw[show decide (a<b)=false by simpa using aa,QqD,QqL aa,List.map_set,List.map_set,show SD ((r:Int),f,t)=true by simpa[SD]using ac];rfl
theorem Q4U:∀{l:Y Occ} {i:Nat} {a:Occ},((l.set i a).filter SD).length<=(l.filter SD).length+1
 |[],i,a=>by simp
 |x::l,0,a=>by
  rw[List.set_cons_zero,Qr5,Qr5];split<;>split<;>simp<;>omega
 |x::l,i+1,a=>by
  have:=Q4U (l:=l) (i:=i) (a:=a);rw[List.set_cons_succ,Qr5,Qr5];split<;>simp<;>omega
theorem Q3B{T:Y Occ}{r:Nat}{f t:Int}:((Cu T r f t).filter SD).length<=(T.filter SD).length+1:=by
 unfold Cu;split
 ·split<;>exact Q4U
 ·omega
theorem QjE{T:Y Occ}(hl:T.length<=300):Vu 400 (T.map enc) (some:LL->oP LL)=some ((T.filter SD).map enc):=by
 unfold Vu;rw[QqP];refine QZ (r:=λm i=>Ya 400 (T.map enc) (T.length:Int) (λ_ _ w=>some w) m i (((T.take i.toNat).filter SD).map enc)) (N:=T.length) (λm k hk=>?_) (λm=>?_) T.length 400 0 I I
 ·simp only[QqC];obtain⟨⟨x,a,b⟩,e⟩:∃q,T[k]? = some q:=⟨T[k],QqF hk⟩;have ac:((((T.take k).filter SD).map enc).length)<=300:=by
   rw[QqP];have:=List.length_filter_le SD (T.take k);rw[List.length_take]at this;omega
  rw[Ya,Qt hk,Qp,QqV,e,ZA e,List.filter_append,Qr2];simp -implicitDefEqProofs only[Qh,QqA,QqB,Qj,XW,X2,QqE,QqD,QqH,QqG,Option.map_some,enc,QJ (show k<=1000 by omega)];by_cases aa:a<b
  ·rw[show decide (a<b)=true by simpa using aa,QqE,show[(x,a,b)].filter SD=[(x,a,b)] by simp[SD,aa],XM (by simp only[QqY,Qr1];omega)];rfl
  ·rw[show decide (a<b)=false by simpa using aa,QqD,show[(x,a,b)].filter SD=[] by simp[SD,aa],List.map_nil,List.append_nil]
 ·simp only[QqC];rw[Ya,Qy,QqD,Qr4]
theorem QiO{R:Type}{T:Y Occ}(hl:T.length<=300)(K:LL->oP R):Vg 400 (T.length:Int) (T.map λq=>[D.bool (SD q)]) (T.map enc) (λ_ _ w=>K w) 400 0 []=K ((T.filter SD).map enc):=by
 refine QZ (r:=λm i=>Vg 400 (T.length:Int) (T.map λq=>[D.bool (SD q)]) (T.map enc) (λ_ _ w=>K w) m i (((T.take i.toNat).filter SD).map enc)) (N:=T.length) (λm k hk=>?_) (λm=>?_) T.length 400 0 I I
 ·simp only[QqC];obtain⟨⟨x,a,b⟩,e⟩:∃q,T[k]? = some q:=⟨T[k],QqF hk⟩;have ac:((((T.take k).filter SD).map enc).length)<=300:=by
   rw[QqP];have:=List.length_filter_le SD (T.take k);rw[List.length_take]at this;omega
  rw[Vg,Qt hk,QqP,QqP,XR I I,QqC,QqV,QqV,e,ZA e,List.filter_append,Qr2];simp -implicitDefEqProofs only[Qh,QqA,QqB,Qj,XW,X2,QqE,QqD,QqH,QqG,Option.map_some,enc,show SD (x,a,b)=decide (a<b)from rfl,LQ,QJ (show k<=1000 by omega)];by_cases aa:a<b
  ·rw[show decide (a<b)=true by simpa using aa,QqE,show[(x,a,b)].filter SD=[(x,a,b)] by simp[SD,aa],XM (by simp only[QqY,Qr1];omega)];rfl
  ·rw[show decide (a<b)=false by simpa using aa,QqD,show[(x,a,b)].filter SD=[] by simp[SD,aa],List.map_nil,List.append_nil]
 ·simp only[QqC];rw[Vg,Qy,QqD,Qr4]
def pt(Li s:LL)(i:Nat):Int:=pv (QfI Li (s.getD (i-1) []) (s.getD i []))
def sec(s:LL)(i:Nat):Nat:=match s.getD i []with
 |.int _ x::_=>x.toNat
 |_=>0
def fr(Se s:LL)(X:Run)(bf:Int)(i:Nat):Int:=if i=0 then -bf else fEN Se s X (i-1) / 1000-16
def tu(Se s:LL)(X:Run)(af:Int)(i:Nat):Int:=if i<s.length-1 then cd (fLV Se s X i) 1000+4 else Q3I X+af
def Lb(N NP:Nat)(Li s:LL)(f g:Nat->Int):Nat->Y Occ
 |0=>List.replicate (N+NP) (0,0,0)
 |i+1=>if i=0 then Cu (Lb N NP Li s f g i) (sec s i) (f i) (g i)else if pt Li s i<0 then Cu (Lb N NP Li s f g i) (sec s i) (f i) (g i)else Cu (Cu (Lb N NP Li s f g i) (sec s i) (f i) (g i)) (N+(pt Li s i).toNat) (f i) (g (i-1))
theorem Pk{N NP:Nat}{Li s:LL}{f g:Nat->Int}:∀{i:Nat},(Lb N NP Li s f g i).length=N+NP
 |0=>by simp[Lb]
 |i+1=>by
  rw[Lb];split
  ·rw[MV,Pk]
  ·split<;>simp only[MV,Pk]
theorem Q2F{N NP:Nat}{Li s:LL}{f g:Nat->Int}{j:Nat}:Lb N NP Li s f g (j+1+1)=if pt Li s (j+1)<0 then Cu (Lb N NP Li s f g (j+1)) (sec s (j+1)) (f (j+1)) (g (j+1))else Cu (Cu (Lb N NP Li s f g (j+1)) (sec s (j+1)) (f (j+1)) (g (j+1))) (N+(pt Li s (j+1)).toNat) (f (j+1)) (g j):=by
 show(if j+1=0 then _ else _)=_;rw[QqL I];rfl
def Q8A(St Pt Se Li s:LL)(X:Run)(bf af:Int):Y Occ:=(Lb Se.length Pt.length Li s (fr Se s X bf) (tu Se s X af) s.length).filter SD
section
variable{N NP:Nat} {Li:LL}
theorem Q6m:∀{s:LL} {k:Nat},Q0N N NP Li k s=true->∀i,i+1<s.length->∃p,QfI Li (s.getD i []) (s.getD (i+1) [])=some p/\ptR [] [] (List.replicate N []) Li (s.getD i []) (s.getD (i+1) [])=some p /\ -1<=p/\p<NP
 |[],_,_,i,hi=>by simp at hi
 |[_],_,_,i,hi=>by simp at hi
 |r::r'::t,k,h,i,hi=>by
  rw[Q0N]at h;split at h
  ·rename_i p q e1 e2;simp only[Qr3,beq_iff_eq,decide_eq_true_eq]at h;obtain⟨rfl,a,h2,b⟩:=h;cases i with
   |zero=>exact⟨p,e1,e2,a,h2⟩
   |succ i=>exact Q6m b i (by simpa using hi)
  ·cases h
theorem Q82:∀{s:LL} {k:Nat},Q0N N NP Li k s=true->∀(c:Nat->Nat),(∀i,c (i+1)<=c i+(if pt Li s (i+1)<0 then 1 else 2))->c 0<=k->∀i,i<s.length->c i<=5
 |[],_,_,_,_,_,i,hi=>by simp at hi
 |[r],k,h,c,hc,f,i,hi=>by
  have:i=0:=by simpa using hi
  subst this;have:k<=5:=Qr8 h;omega
 |r::r'::t,k,h,c,hc,f,i,hi=>by
  rw[Q0N]at h;split at h
  ·rename_i p q e1 e2;simp only[Qr3,beq_iff_eq,decide_eq_true_eq]at h;obtain⟨rfl,j,h2,e⟩:=h;have hp:pt Li (r::r'::t) 1=p:=by show pv (QfI Li r r')=p;rw[e1];rfl
   have d:c 1<=c 0+(if pt Li (r::r'::t) 1<0 then 1 else 2):=hc 0;rw[hp]at d;have g:c 1<=(bif decide (p<0)then k+1 else k+2):=by
    by_cases hq:p<0
    ·rw[QqJ hq]at d;rw[show decide (p<0)=true by simpa using hq,QqE];omega
    ·rw[QqL hq]at d;rw[show decide (p<0)=false by simpa using hq,QqD];omega
   have ih:=Q82 e (λi=>c (i+1)) (λi=>hc (i+1)) g;cases i with
   |zero=>
    have:=ih 0 Q2;have hq:c 0<=5:=by
     have aa:∀{s:LL} {k:Nat},Q0N N NP Li k s=true->k<=5:=by
      intro s;induction s with
      |nil=>exact λh=>Qr8 h
      |cons a s ih=>
       intro k h;cases s with
       |nil=>exact Qr8 h
       |cons b s=>
        rw[Q0N]at h;split at h
        ·simp only[Qr3]at h;have:=ih h.2.2.2;revert this;cases decide (_<(0:Int))<;>simp<;>omega
        ·cases h
     have:=aa e;revert this;cases decide (p<0)<;>simp<;>omega
    exact hq
   |succ i=>exact ih i (by simpa using hi)
  ·cases h
end
theorem MT{α:Type}{l:Y α}{n:Nat}(h:l.length=n):Rf l n=some ():=by
 grind[Rf,Nat.beq,Nat.beq_refl]
def spn(f g:Nat->Int)(n:Nat):LL:=(List.range n).map λi=>[Ql 0,Ql (f i),Ql (g i)]
theorem Q9L{f g:Nat->Int}{n:Nat}:(spn f g n).length=n:=by simp[spn]
theorem QhD{f g:Nat->Int}{n i:Nat}(h:i<n):(spn f g n)[i]? = some [Ql 0,Ql (f i),Ql (g i)]:=by simp[spn,h]
theorem Q7p{f g:Nat->Int}{n:Nat}:spn f g n++[[Ql 0,Ql (f n),Ql (g n)]]=spn f g (n+1):=by simp[spn,List.range_succ]
theorem Q2Y{St Pt Se Li:LL}(h:PR 400 St Pt Se Li=true):Pt.length<=48/\Se.length<=96:=by
 simp_all [PR,Qr3,Qr8]
theorem QbJ{l:Y Occ}:Lt [l.map enc]=some ():=by
 unfold Lt;rw[show([l.map enc].all Aq)=true by simp[Aq,enc,Q6t]];rfl
section
variable{St Pt Se Li s:LL} (h:RtF St Pt Se Li s) {nm:Y UInt8} {tl sp ac br bf af:Int} (hk:StkN tl sp ac br) (hb0:0<=bf) (hb1:bf<=65536) (ha0:0<=af) (ha1:af<=65536)
include h hk
theorem Q8h{i j:Nat}(ai:i<=j)(hj:j<s.length):0<=fEN Se s (ZE Se s nm tl sp ac br) i/\fEN Se s (ZE Se s nm tl sp ac br) i<=fLV Se s (ZE Se s nm tl sp ac br) j/\fLV Se s (ZE Se s nm tl sp ac br) j<=7000000:=by
 have hX:=RF h (nm:=nm) hk;have a:=Qf6 h (nm:=nm) hk hj;have h2:=Qab (Se:=Se) (s:=s) (i:=i-1) (j:=j) I;have c:=Q1v h (nm:=nm) hk (b:=pos Se s (i-1)) I;unfold fEN fLV;by_cases hm:j<s.length-1
 ·rw[QqJ hm];exact⟨c.1,Run.T_mono hX I (a.2 hm),(Q1v h (nm:=nm) hk (a.2 hm)).2⟩
 ·rw[QqL hm];exact⟨c.1,Run.T_mono hX I (QqQ _),(Q1v h (nm:=nm) hk (QqQ _)).2⟩
include hb0 hb1 ha0 ha1
theorem Qki{i:Nat}(hi:i<s.length) : -70000<=fr Se s (ZE Se s nm tl sp ac br) bf i/\fr Se s (ZE Se s nm tl sp ac br) bf i<tu Se s (ZE Se s nm tl sp ac br) af i/\tu Se s (ZE Se s nm tl sp ac br) af i<=80000/\(1<=i->fr Se s (ZE Se s nm tl sp ac br) bf i<tu Se s (ZE Se s nm tl sp ac br) af (i-1)):=by
 have l2:=h.l2;have hr:=FN h (nm:=nm) hk;have hN:=Q8h h (nm:=nm) hk (i:=i-1) (j:=s.length-1) I I;have b:=Q8h h (nm:=nm) hk (i:=i-1) (j:=i) I hi;have c:=Q8h h (nm:=nm) hk (i:=i-1) (j:=i-1) I I;have c1:=AU (a:=fLV Se s (ZE Se s nm tl sp ac br) i) I (show(1:Int)<=1000 by decide);have c0:=AU (a:=fLV Se s (ZE Se s nm tl sp ac br) (i-1)) I (show(1:Int)<=1000 by decide);have hl:fLV Se s (ZE Se s nm tl sp ac br) (s.length-1)=(ZE Se s nm tl sp ac br).T (ZE Se s nm tl sp ac br).N:=by unfold fLV;rw[QqL I]
 have cN:=AU (a:=fLV Se s (ZE Se s nm tl sp ac br) (s.length-1)) I (show(1:Int)<=1000 by decide);have aa:Q3I (ZE Se s nm tl sp ac br)=cd (fLV Se s (ZE Se s nm tl sp ac br) (s.length-1)) 1000:=by rw[hl];rfl
 unfold fr tu;omega
theorem Qjg:Uv 400 St Pt Se Li s 0 nm tl sp ac br bf af Tu3=some ((Q8A St Pt Se Li s (ZE Se s nm tl sp ac br) bf af).map enc,Q3I (ZE Se s nm tl sp ac br),0):=by
 have l2:=h.l2;have l24:=h.l24;have a4:=FN h (nm:=nm) hk;have ai:=λi j (a7:i<=j) (hj:j<s.length)=>Q8h h (nm:=nm) hk (i:=i) (j:=j) a7 hj
 have ao:=λi (hi:i<s.length)=>Qki h (nm:=nm) hk hb0 hb1 ha0 ha1 hi
 have bb:=Qg5 h (nm:=nm) hk;have bk:=Q2Y h.lay;unfold Uv;rw[Qhw h.lay rfl h.l2 h.l24 h.rt h.st hk,Qh,Qq (by rfl),show decide (bf<0)=false by simpa using hb0,show decide (bf>65536)=false by simpa using hb1,show decide (af<0)=false by simpa using ha0,show decide (af>65536)=false by simpa using ha1];simp -implicitDefEqProofs only[QqD];unfold Jz;rw[bb];revert a4 ai ao;generalize ZE Se s nm tl sp ac br=X;intro a4 ai ao;have z:wJ ((s.length:Int)-1)=((s.length-1:Nat):Int):=G8 I I;have aa:wJ (((s.length-1:Nat):Int)-1)=((s.length-1-1:Nat):Int):=G8 I I;have ax:∀i,i<s.length->Qi (arr (fEN Se s X) s.length) (i:Int)=some [Ql (fEN Se s X i)]:=λi hi=>by rw[Qp];exact Gm hi
 have az:∀i,i<s.length->Qi (arr (fLV Se s X) s.length) (i:Int)=some [Ql (fLV Se s X i)]:=λi hi=>by rw[Qp];exact Gm hi
 have aw:∀i,i<s.length->Vq 400 (fEN Se s X i) (some:Int->oP Int)=some (fEN Se s X i / 1000):=λi hi=>QiC (ai i i (QqQ i) hi).1 (by have:=ai i i (QqQ i) hi;omega)
 have a3:∀i,i<s.length->G6 400 (fLV Se s X i) (some:Int->oP Int)=some (cd (fLV Se s X i) 1000):=λi hi=>upA (by have:=ai i i (QqQ i) hi;omega) (by have:=ai i i (QqQ i) hi;omega)
 have aj:∀(k:Nat) (r:Y D),k<=30->Y9 (((spn (fr Se s X bf) (tu Se s X af) k).length+[r].length)*24)=some ():=λk r hk=>XM (by simp only[Q9L,QqY,Qr1];omega)
 have f0:fr Se s X bf 0 = -bf:=rfl;have t0:tu Se s X af 0=cd (fLV Se s X 0) 1000+4:=by unfold tu;rw[QqJ I]
 have q0:=ao 0 I;rw[Qh,Qq (by rfl)];dsimp only;rw[show(0:Int)=((0:Nat):Int)from rfl,az 0 I];simp -implicitDefEqProofs only[Qh,QqA,Qj,a3 0 I,Z3,z];have ab:∀k0:Int->Bool->LL->oP (LL×Int×Int),Y0 400 (arr (fEN Se s X) s.length) (arr (fLV Se s X) s.length) ((s.length-1:Nat):Int) k0 400 1 (spn (fr Se s X bf) (tu Se s X af) 1)=k0 ((s.length-1:Nat):Int) false (spn (fr Se s X bf) (tu Se s X af) (s.length-1)):=by
  intro k0;refine QZ (r:=λm i=>Y0 400 (arr (fEN Se s X) s.length) (arr (fLV Se s X) s.length) ((s.length-1:Nat):Int) k0 m ((i.toNat+1:Nat):Int) (spn (fr Se s X bf) (tu Se s X af) (i.toNat+1))) (N:=s.length-1-1) (λm i hi=>?_) (λm=>?_) (s.length-1-1) 400 0 I I
  ·simp only[QqC];have hf:fr Se s X bf (i+1)=fEN Se s X i / 1000-16:=by unfold fr;rw[QqL I];rfl
   have ht:tu Se s X af (i+1)=cd (fLV Se s X (i+1)) 1000+4:=by unfold tu;rw[QqJ I]
   have q:=ao (i+1) I;rw[Y0,Qt (show i+1<s.length-1 by omega),QqE,G8 (show i+1<=1000 by omega) I,QqR,ax i I];simp -implicitDefEqProofs only[Qh,QqA,Qj,aw i I,az (i+1) I,a3 (i+1) I,wI hf.symm I I,wI ht.symm I I,aj (i+1) _ I,Q7p,QJ (show i+1<=1000 by omega)]
  ·simp only[QqC];rw[show s.length-1-1+1=s.length-1 by omega,Y0,Qy,QqD]
 rw[show([[D.int .i64 ((0:Nat):Int),D.int .i64 (wJ (((0:Nat):Int)-bf)),D.int .i64 (wJ (cd (fLV Se s X 0) 1000+4))]]:LL)=spn (fr Se s X bf) (tu Se s X af) 1 by
  rw[wI (show((0:Nat):Int)-bf=fr Se s X bf 0 by omega) I I,wI t0.symm I I];rfl,ab]
 have a9:fr Se s X bf (s.length-1)=fEN Se s X (s.length-1-1) / 1000-16:=by unfold fr;rw[QqL I]
 have bc:tu Se s X af (s.length-1)=Q3I X+af:=by unfold tu;rw[QqL I]
 have qm:=ao (s.length-1) I;have a5:Jl 400 St Pt Se Li (some:LL->oP LL)=some ((Lb Se.length Pt.length Li s (fr Se s X bf) (tu Se s X af) 0).map enc):=by
  unfold Jl;rw[wI (show(Se.length:Int)+(Pt.length:Int)=((Se.length+Pt.length:Nat):Int) by omega) I I,show(bif decide ((0:Int)<=((Se.length+Pt.length:Nat):Int))&&decide (((Se.length+Pt.length:Nat):Int)<=((Se.length+Pt.length:Nat):Int))then some ()else none)=some () by rw[Xi Q3],Qh,QqC,XM I,Qh,Lb,List.map_replicate];rfl
 rw[aa,ax (s.length-1-1) I];simp -implicitDefEqProofs only[Qh,QqA,Qj,aw (s.length-1-1) I,aw (s.length-1) I,ax (s.length-1) I,a5,show((0:Nat):Int)=0 from rfl,wI a9.symm I I,wI bc.symm I I,aj (s.length-1) _ I,Q7p];rw[show s.length-1+1=s.length by omega];have ad:∀k0:Int->Bool->LL->LL->oP (LL×Int×Int),QA 400 ((s.length-1:Nat):Int) s (s.length:Int) St Pt Se Li s (wJ (fEN Se s X (s.length-1) / 1000-16)) (wJ (Q3I X+20)) k0 400 0 (spn (fr Se s X bf) (tu Se s X af) s.length) ((Lb Se.length Pt.length Li s (fr Se s X bf) (tu Se s X af) 0).map enc)=k0 (s.length:Int) false (spn (fr Se s X bf) (tu Se s X af) s.length) ((Lb Se.length Pt.length Li s (fr Se s X bf) (tu Se s X af) s.length).map enc):=by
  intro k0;refine QZ (r:=λm i=>QA 400 ((s.length-1:Nat):Int) s (s.length:Int) St Pt Se Li s (wJ (fEN Se s X (s.length-1) / 1000-16)) (wJ (Q3I X+20)) k0 m i (spn (fr Se s X bf) (tu Se s X af) s.length) ((Lb Se.length Pt.length Li s (fr Se s X bf) (tu Se s X af) i.toNat).map enc)) (N:=s.length) (λm i hi=>?_) (λm=>?_) s.length 400 0 I I
  ·simp only[QqC];obtain⟨x,d,bj,b,c,st,e,h1,a0,a1,hd⟩:=Co h.st hi;have hx:=RI h1;have ak:0<=x/\x<Se.length:=by
    have h2:=hx.1;unfold inB at h2;by_cases hc:0<=x/\x<Se.length
    ·exact hc
    ·rw[show(decide (0<=x)&&decide (x<(Se.length:Int)))=false by simp;omega]at h2;cases h2
   have au:x=((sec s i:Nat):Int):=by
    unfold sec;rw[QqK,e];show x=(x.toNat:Int);omega
   have hT:=Pk (N:=Se.length) (NP:=Pt.length) (Li:=Li) (s:=s) (f:=fr Se s X bf) (g:=tu Se s X af) (i:=i);have ha:=Qhe (n:=400) (T:=Lb Se.length Pt.length Li s (fr Se s X bf) (tu Se s X af) i) (r:=sec s i) (f:=fr Se s X bf i) (t:=tu Se s X af i) I;have a2:∀j,j<s.length->(spn (fr Se s X bf) (tu Se s X af) s.length)[j]? = some [Ql 0,Ql (fr Se s X bf j),Ql (tu Se s X af j)]:=λj hj=>QhD hj
   rw[QA,Qt hi,Qp,e];simp -implicitDefEqProofs only[QqE,Qh,QqA,QqB,show decide ((i:Int)>((s.length-1:Nat):Int))=false by simp;omega,QqD,Qj,Q9L,XR (len:=s.length) (show(0:Int)<=(i:Int) by omega) (show(i:Int)<(s.length:Int) by omega),QqC,a2 i hi,au,ha,QJ (show i<=1000 by omega),MT (l:=(Cu (Lb Se.length Pt.length Li s (fr Se s X bf) (tu Se s X af) i) (sec s i) (fr Se s X bf i) (tu Se s X af i)).map enc) (n:=((Lb Se.length Pt.length Li s (fr Se s X bf) (tu Se s X af) i).map enc).length) (by simp only[QqP,MV])];by_cases ag:i=0
   ·subst ag;rw[show(((0:Nat):Int) == 0)=true from rfl,QqE];rfl
   ·obtain⟨j,rfl⟩:∃j,i=j+1:=⟨i-1,I⟩;obtain⟨x',d',bh,b',c',st',e',bg,_,_,a6⟩:=Co h.st (j:=j) I;obtain⟨p,a,al,am,an⟩:=Q6m h.hops j hi;rw[QqK,QqK,e,e',QqZ,QqZ]at a;have ba:=RI bg;have ar:0<=x'/\x'<Se.length:=by
     have h2:=ba.1;unfold inB at h2;by_cases hc:0<=x'/\x'<Se.length
     ·exact hc
     ·rw[show(decide (0<=x')&&decide (x'<(Se.length:Int)))=false by simp;omega]at h2;cases h2
    have a8:pt Li s (j+1)=p:=by
     unfold pt;rw[QqK,QqK,e,QqR,e',QqZ,QqZ,a];rfl
    have ay:=(QdV h.lay ar.1 ar.2 a6 (y:=x) (e:=d)).trans a;rw[au]at ay;rw[show(((j+1:Nat):Int) == 0)=false by simp;omega,QqD,G8 (show j+1<=1000 by omega) I,QqR,Qp,e'];simp -implicitDefEqProofs only[Qh,QqA,QqB,Qj,ay];rw[Q2F,a8];by_cases hp:p<0
    ·rw[show decide (p<0)=true by simpa using hp,QqE,QqJ hp]
    ·have ah:=Qhe (n:=400) (T:=Cu (Lb Se.length Pt.length Li s (fr Se s X bf) (tu Se s X af) (j+1)) (sec s (j+1)) (fr Se s X bf (j+1)) (tu Se s X af (j+1))) (r:=Se.length+p.toNat) (f:=fr Se s X bf (j+1)) (t:=tu Se s X af j) (by rw[MV];omega);rw[show decide (p<0)=false by simpa using hp,QqD,QqL hp,show decide (((j+1:Nat):Int)<=((s.length-1:Nat):Int))=true by simp;omega,QqE];simp -implicitDefEqProofs only[XR (len:=s.length) (show(0:Int)<=(j:Int) by omega) (show(j:Int)<(s.length:Int) by omega),Qh,QqA,QqB,Qj,a2 j I,wI (show(Se.length:Int)+p=((Se.length+p.toNat:Nat):Int) by omega) I I,QqC,ah,QqR];rw[MT (by simp only[QqP,MV]),Qh]
  ·simp only[QqC];rw[QA,Qy,QqD]
 rw[ad,QjE (by rw[Pk];omega),Qh,QbJ,Qh];rfl
end
theorem QhH{St Pt Se Li L:LL}{x d y e p:Int}(h:ptR [] [] L Li [Ql x,Ql d] [Ql y,Ql e]=some p):∃a b c,G7 400 St Pt Se Li x d y e Tu5=some (a,b,Ql p,c,true):=by
 rw[Qkg (a':=[]) (b':=[]) (L':=L)];unfold ptR at h;dsimp only at h;split at h
 ·rename_i he;cases h;exact⟨_,_,_,he⟩
 ·cases h
def QdG(T:Y Occ):LL:=T.map λq=>[D.bool (SD q)]
section
variable{St Pt Se Li s:LL} (h:RtF St Pt Se Li s) {nm:Y UInt8} {tl sp ac br bf af:Int} (hk:StkN tl sp ac br) (hb0:0<=bf) (hb1:bf<=65536) (ha0:0<=af) (ha1:af<=65536)
include h hk hb0 hb1 ha0 ha1
theorem QiM:HI 400 St Pt Se Li s 0 nm tl sp ac br bf af Tu3=some ((Q8A St Pt Se Li s (ZE Se s nm tl sp ac br) bf af).map enc,Q3I (ZE Se s nm tl sp ac br),0):=by
 have l2:=h.l2;have l24:=h.l24;have a9:=FN h (nm:=nm) hk;have ay:=λi j (bh:i<=j) (hj:j<s.length)=>Q8h h (nm:=nm) hk (i:=i) (j:=j) bh hj
 have a3:=λi (hi:i<s.length)=>Qki h (nm:=nm) hk hb0 hb1 ha0 ha1 hi
 have bk:=QiS h (nm:=nm) hk;have b7:=Q2Y h.lay;unfold HI;rw[QaN h hk,Qh,Qq (by rfl),Q5A hb0 hb1,Qh,Q5A ha0 ha1];simp -implicitDefEqProofs only[Qh,QqH,QqD,QqG];rw[bk];revert a9 ay a3;generalize ZE Se s nm tl sp ac br=X;intro a9 ay a3;have t:wJ ((s.length:Int)-1)=((s.length-1:Nat):Int):=G8 I I;have bb:∀i,i<s.length->Qi (arr (fEN Se s X) s.length) (i:Int)=some [Ql (fEN Se s X i)]:=λi hi=>by rw[Qp];exact Gm hi
 have a4:∀i,i<s.length->Qi (arr (fLV Se s X) s.length) (i:Int)=some [Ql (fLV Se s X i)]:=λi hi=>by rw[Qp];exact Gm hi
 have a5:∀i,i<s.length->VP 400 (fEN Se s X i) 1000 (some:Int->oP Int)=some (fEN Se s X i / 1000):=λi hi=>QhA (ay i i (QqQ i) hi).1 (by have:=ay i i (QqQ i) hi;omega)
 have a8:∀i,i<s.length->JE 400 (fLV Se s X i) 1000 (some:Int->oP Int)=some (cd (fLV Se s X i) 1000):=λi hi=>Qe5 (by have:=ay i i (QqQ i) hi;omega) Q1 (by have:=ay i i (QqQ i) hi;omega)
 have bg:wJ ((Se.length:Int)+(Pt.length:Int))=((Se.length+Pt.length:Nat):Int):=wI I I I;have hg:(bif decide ((0:Int)<=((Se.length+Pt.length:Nat):Int))&&decide (((Se.length+Pt.length:Nat):Int)<=((Se.length+Pt.length:Nat):Int))then some ()else none)=some ():=by rw[Xi Q3]
 rw[Qh];dsimp only;simp -implicitDefEqProofs only[bg,hg,Qh,QqC,XM (show(Se.length+Pt.length)*1<=100000 by omega),XM (show(Se.length+Pt.length)*24<=100000 by omega),Z3,t];let T:Nat->Y Occ:=λi=>Lb Se.length Pt.length Li s (fr Se s X bf) (tu Se s X af) i
 have u:∀k0:Int->Int->Bool->LL->LL->oP (LL×Int×Int),Wr 400 bf af (arr (fEN Se s X) s.length) (arr (fLV Se s X) s.length) (Q3I X) ((s.length-1:Nat):Int) St Pt Se Li s k0 400 0 0 (QdG (T 0)) ((T 0).map enc)=k0 (tu Se s X af (s.length-1)) (s.length:Int) false (QdG (T s.length)) ((T s.length).map enc):=by
  intro k0;refine QZ (r:=λm i=>Wr 400 bf af (arr (fEN Se s X) s.length) (arr (fLV Se s X) s.length) (Q3I X) ((s.length-1:Nat):Int) St Pt Se Li s k0 m (if i.toNat=0 then 0 else tu Se s X af (i.toNat-1)) i (QdG (T i.toNat)) ((T i.toNat).map enc)) (N:=s.length) (λm i hi=>?_) (λm=>?_) s.length 400 0 I I
  ·simp only[QqC];obtain⟨x,d,bz,b,c,st,e,v,a0,a1,hd⟩:=Co h.st hi;have hx:=RI v;have ax:0<=x/\x<Se.length:=by
    have h2:=hx.1;unfold inB at h2;by_cases hc:0<=x/\x<Se.length
    ·exact hc
    ·rw[show(decide (0<=x)&&decide (x<(Se.length:Int)))=false by simp;omega]at h2;cases h2
   have a2:x=((sec s i:Nat):Int):=by
    unfold sec;rw[QqK,e];show x=(x.toNat:Int);omega
   have hT:(T i).length=Se.length+Pt.length:=Pk;have q:=a3 i hi;have ha:Z1 400 (QdG (T i)) ((T i).map enc) ((sec s i:Nat):Int) (fr Se s X bf i) (tu Se s X af i) Tu2=_:=QjQ I q.2.1;rw[Wr,Qt hi,QqE];have hz:∀(J:Int->Int->oP (LL×Int×Int)),jn J (λj=>bif ((i:Int) == (0:Int))then
      gb true (Qi (arr (fLV Se s X) s.length) (0:Int)) [] λy=>gb true (y[0]?) oF λz=>gb true (pIw z) 0 λaa=>gb true (JE 400 aa (1000:Int) some) 0 λab=>j (wJ (0-bf)) (wJ (ab+(4:Int)))
     else bif (decide ((i:Int)<((s.length-1:Nat):Int)))then
      gb true (Qi (arr (fEN Se s X) s.length) (wJ ((i:Int)-(1:Int)))) [] λad=>gb true (ad[0]?) oF λae=>gb true (pIw ae) 0 λag=>gb true (VP 400 ag (1000:Int) some) 0 λah=>
      gb true (Qi (arr (fLV Se s X) s.length) (i:Int)) [] λai=>gb true (ai[0]?) oF λaj=>gb true (pIw aj) 0 λak=>gb true (JE 400 ak (1000:Int) some) 0 λal=>j (wJ (ah-(16:Int))) (wJ (al+(4:Int)))
     else bif ((i:Int) == ((s.length-1:Nat):Int))then
      gb true (Qi (arr (fEN Se s X) s.length) (wJ (((s.length-1:Nat):Int)-(1:Int)))) [] λam=>gb true (am[0]?) oF λan=>gb true (pIw an) 0 λao=>gb true (VP 400 ao (1000:Int) some) 0 λap=>j (wJ (ap-(16:Int))) (wJ (Q3I X+af))
     else
      gb true (Qi (arr (fEN Se s X) s.length) ((s.length-1:Nat):Int)) [] λaq=>gb true (aq[0]?) oF λar=>gb true (pIw ar) 0 λau=>gb true (VP 400 au (1000:Int) some) 0 λav=>j (wJ (av-(16:Int))) (wJ (Q3I X+(20:Int))))=J (fr Se s X bf i) (tu Se s X af i):=by
    intro J;dsimp only[jn];by_cases g:i=0
    ·subst g;have t0:tu Se s X af 0=cd (fLV Se s X 0) 1000+4:=by unfold tu;rw[QqJ I]
     have f0:fr Se s X bf 0 = -bf:=rfl;rw[show(((0:Nat):Int) == 0)=true from rfl,QqE,show(0:Int)=((0:Nat):Int)from rfl,a4 0 hi];simp -implicitDefEqProofs only[Qh,QqA,Qj,a8 0 hi,wI (show((0:Nat):Int)-bf=fr Se s X bf 0 by omega) I I,wI t0.symm I I]
    ·have hp:fr Se s X bf i=fEN Se s X (i-1) / 1000-16:=by unfold fr;rw[QqL g]
     rw[show((i:Int) == 0)=false by simp;omega,QqD];by_cases a7:i<s.length-1
     ·have ht:tu Se s X af i=cd (fLV Se s X i) 1000+4:=by unfold tu;rw[QqJ a7]
      rw[Qt a7,QqE,G8 I I,bb (i-1) I];simp -implicitDefEqProofs only[Qh,QqA,Qj,a5 (i-1) I,a4 i hi,a8 i hi,wI hp.symm I I,wI ht.symm I I]
     ·obtain rfl:i=s.length-1:=I
      have ht:tu Se s X af (s.length-1)=Q3I X+af:=by unfold tu;rw[QqL I]
      rw[Qy,QqD,show(((s.length-1:Nat):Int) == ((s.length-1:Nat):Int))=true by simp,QqE,G8 I I,bb (s.length-1-1) I];simp -implicitDefEqProofs only[Qh,QqA,Qj,a5 (s.length-1-1) I,wI hp.symm I I,wI ht.symm I I]
   rw[hz,Qp,e];simp -implicitDefEqProofs only[Qh,QqA,QqB,Qj,a2,ha,QJ (show i<=1000 by omega),QqR,Nat.succ_ne_zero,if_false];by_cases g:i=0
   ·subst g;rw[show decide (((0:Nat):Int)>0)=false from rfl,QqD];rfl
   ·obtain⟨j,rfl⟩:∃j,i=j+1:=⟨i-1,I⟩;obtain⟨x',d',bl,b',c',st',e',b8,_,_,bq⟩:=Co h.st (j:=j) I;obtain⟨p,l,k,az,ba⟩:=Q6m h.hops j hi;rw[QqK,QqK,e,e',QqZ,QqZ]at l k;have bi:pt Li s (j+1)=p:=by
     unfold pt;rw[QqK,QqK,e,QqR,e',QqZ,QqZ,l];rfl
    rw[a2]at k;obtain⟨u1,u2,u3,hj⟩:=QhH (St:=St) (Pt:=Pt) (Se:=Se) k;rw[Q6 (((j+1:Nat):Int)>0),QqE,G8 (show j+1<=1000 by omega) I,QqR,Qp,e'];simp -implicitDefEqProofs only[Qh,QqA,QqB,Qj,hj];have bj:T (j+1+1)=if p<0 then Cu (T (j+1)) (sec s (j+1)) (fr Se s X bf (j+1)) (tu Se s X af (j+1))else Cu (Cu (T (j+1)) (sec s (j+1)) (fr Se s X bf (j+1)) (tu Se s X af (j+1))) (Se.length+p.toNat) (fr Se s X bf (j+1)) (tu Se s X af j):=by
     show Lb _ _ _ _ _ _ (j+1+1)=_;rw[Q2F,bi]
    rw[bj];by_cases hp:p<0
    ·rw[show decide (p>=0)=false by simp;omega,QqD,QqJ hp];rfl
    ·have aw:Z1 400 (QdG (Cu (T (j+1)) (sec s (j+1)) (fr Se s X bf (j+1)) (tu Se s X af (j+1)))) ((Cu (T (j+1)) (sec s (j+1)) (fr Se s X bf (j+1)) (tu Se s X af (j+1))).map enc) ((Se.length+p.toNat:Nat):Int) (fr Se s X bf (j+1)) (tu Se s X af j) Tu2=_:=QjQ (by rw[MV];omega) (q.2.2.2 I);rw[show decide (p>=0)=true by simp;omega,QqE,QqL hp,show decide (((j+1:Nat):Int)>((s.length-1:Nat):Int))=false by simp;omega,QqD];have n:=aw;unfold QdG at n;simp -implicitDefEqProofs only[Qh,wI (show(Se.length:Int)+p=((Se.length+p.toNat:Nat):Int) by omega) I I,n,QqR,QqL (Nat.succ_ne_zero _)];rfl
  ·simp only[QqC];rw[Wr,Qy,QqD,QqL I]
 have a6:T 0=List.replicate (Se.length+Pt.length) (0,0,0):=rfl;have e1:List.replicate (Se.length+Pt.length) [D.bool false]=QdG (T 0):=by rw[a6];unfold QdG;rw[List.map_replicate];rfl
 have e2:List.replicate (Se.length+Pt.length) [D.int .i64 (0:Int),D.int .i64 (0:Int),D.int .i64 (0:Int)]=(T 0).map enc:=by rw[a6,List.map_replicate];rfl
 rw[e1,e2,u];have hl:((Se.length+Pt.length:Nat):Int)=(((T s.length).length:Nat):Int):=by rw[show(T s.length).length=Se.length+Pt.length from Pk]
 rw[hl];exact QiO (by rw[show(T s.length).length=Se.length+Pt.length from Pk];omega) _
end
def OL:Int->Y Occ->Prop
 |_,[]=>True
 |l,(x,a,b)::r=>l<x /\ -1000<=a/\a<b/\b<=20000/\x<=1000/\OL x r
theorem OL.mono:∀{l l':Int} {O:Y Occ},l'<=l->OL l O->OL l' O
 |_,_,[],_,_=>trivial
 |_,_,(x,a,b)::r,h,⟨c,h2⟩=>⟨I,h2⟩
theorem OL.filter{p:Occ->Bool}:∀{l:Int} {O:Y Occ},OL l O->OL l (O.filter p)
 |_,[],_=>trivial
 |l,(x,a,b)::r,⟨c,h2,d,e,h5,h6⟩=>by
  rw[Qr5];split
  ·exact⟨c,h2,d,e,h5,h6.filter⟩
  ·exact(h6.filter).mono I
theorem OL.mem:∀{l:Int} {O:Y Occ},OL l O->∀q∈O,l<q.1 /\ -1000<=q.2.1/\q.2.1<q.2.2/\q.2.2<=20000/\q.1<=1000
 |_,[],_,_,h=>nomatch h
 |l,(x,a,b)::r,⟨c,h2,d,e,h5,h6⟩,q,h=>by
  cases h with
  |head=>exact⟨c,h2,d,e,h5⟩
  |tail _ h=>have:=h6.mem q h;exact⟨I,this.2⟩
def TI(T:Y Occ):Prop:=∀(r:Nat) (x a b:Int),T[r]? = some (x,a,b)->a<b->x=(r:Int) /\ -1000<=a/\b<=20000
theorem TI.add{T:Y Occ}(h:TI T){r:Nat}{f t:Int}(hf : -1000<=f)(ht:t<=20000):TI (Cu T r f t):=by
 unfold Cu;cases e:T[r]? with
 |none=>exact h
 |some q=>
  obtain⟨x,a,b⟩:=q;dsimp only;have hr:=(QqI.1 e).1;by_cases aj:a<b
  ·have c:=h r x a b e aj;rw[QqJ aj];intro r' x' a' b' e' aa;rw[List.getElem?_set]at e';by_cases ai:r=r'
   ·subst ai;rw[QqJ rfl,QqJ hr]at e';cases e';refine⟨rfl,?_,?_⟩<;>split<;>omega
   ·rw[QqL ai]at e';exact h r' x' a' b' e' aa
  ·rw[QqL aj];intro r' x' a' b' e' aa;rw[List.getElem?_set]at e';by_cases ai:r=r'
   ·subst ai;rw[QqJ rfl,QqJ hr]at e';cases e';exact⟨rfl,hf,ht⟩
   ·rw[QqL ai]at e';exact h r' x' a' b' e' aa
theorem TI.ol:∀{T:Y Occ} {k:Nat},T.length+k<=1000->(∀(r:Nat) (x a b:Int),T[r]? = some (x,a,b)->a<b->x=((r+k:Nat):Int) /\ -1000<=a/\b<=20000)->OL ((k:Int)-1) (T.filter SD)
 |[],_,_,_=>trivial
 |(x,a,b)::T,k,hk,h=>by
  have ih:=TI.ol (T:=T) (k:=k+1) (by simp at hk;omega) λr x a b e aa=>by
   have:=h (r+1) x a b e aa;rw[show r+1+k=r+(k+1) by omega]at this;exact this
  rw[show((k+1:Nat):Int)-1=(k:Int) by omega]at ih;have c:=h 0 x a b rfl;rw[Qr5];by_cases aa:a<b
  ·have c:=c aa;rw[show SD (x,a,b)=true by simpa[SD]using aa,QqJ rfl];have hx:x=(k:Int):=by simpa using c.1
   refine⟨I,c.2.1,aa,c.2.2,by simp at hk;omega,?_⟩;rw[hx];exact ih
  ·rw[show SD (x,a,b)=false by simpa[SD]using aa,QqL Q2];exact ih.mono I
section
variable{St Pt Se Li s:LL} (h:RtF St Pt Se Li s) {nm:Y UInt8} {tl sp ac br bf af:Int} (hk:StkN tl sp ac br) (hb0:0<=bf) (hb1:bf<=60) (ha0:0<=af) (ha1:af<=5000)
include h hk hb0 hb1 ha0 ha1
theorem Qir{i:Nat}(hi:i<s.length) : -1000<=fr Se s (ZE Se s nm tl sp ac br) bf i/\tu Se s (ZE Se s nm tl sp ac br) af i<=20000:=by
 have l2:=h.l2;have hr:=FN h (nm:=nm) hk;have b:=Q8h h (nm:=nm) hk (i:=i-1) (j:=i) I hi;have c1:=AU (a:=fLV Se s (ZE Se s nm tl sp ac br) i) I (show(1:Int)<=1000 by decide);unfold fr tu;constructor
 ·split<;>omega
 ·split<;>omega
theorem Qfp:OL (-1) (Q8A St Pt Se Li s (ZE Se s nm tl sp ac br) bf af)/\(Q8A St Pt Se Li s (ZE Se s nm tl sp ac br) bf af).length<=6:=by
 have aj:=Q2Y h.lay;have aa:=λi (hi:i<s.length)=>Qir h (nm:=nm) hk hb0 hb1 ha0 ha1 hi
 have l2:=h.l2;unfold Q8A;generalize ZE Se s nm tl sp ac br=X at aa;have hT:∀i,i<=s.length->TI (Lb Se.length Pt.length Li s (fr Se s X bf) (tu Se s X af) i):=by
  intro i;induction i with
  |zero=>
   intro _ r x a b e ai;have:=QqI.1 e;obtain⟨c,h2⟩:=this;simp only[Lb,List.getElem_replicate]at h2;cases h2;omega
  |succ i ih=>
   intro hi;have ih:=ih I;have q:=aa i I;rw[Lb];split
   ·exact ih.add q.1 q.2
   ·have q1:=aa (i-1) I;split
    ·exact ih.add q.1 q.2
    ·exact(ih.add q.1 q.2).add q.1 q1.2
 constructor
 ·have:=TI.ol (T:=Lb Se.length Pt.length Li s (fr Se s X bf) (tu Se s X af) s.length) (k:=0) (by rw[Pk];omega) (λr x a b e ai=>hT _ (QqQ _) r x a b e ai);exact this
 ·have hc:=Q82 h.hops (λi=>((Lb Se.length Pt.length Li s (fr Se s X bf) (tu Se s X af) (i+1)).filter SD).length-1) (λi=>?_) ?_ (s.length-1) I
  ·rw[show s.length-1+1=s.length by omega]at hc;omega
  ·rw[Q2F];have c1:=Q3B (T:=Lb Se.length Pt.length Li s (fr Se s X bf) (tu Se s X af) (i+1)) (r:=sec s (i+1)) (f:=fr Se s X bf (i+1)) (t:=tu Se s X af (i+1));split
   ·omega
   ·have d:=Q3B (T:=Cu (Lb Se.length Pt.length Li s (fr Se s X bf) (tu Se s X af) (i+1)) (sec s (i+1)) (fr Se s X bf (i+1)) (tu Se s X af (i+1))) (r:=Se.length+(pt Li s (i+1)).toNat) (f:=fr Se s X bf (i+1)) (t:=tu Se s X af i);omega
  ·have c1:=Q3B (T:=Lb Se.length Pt.length Li s (fr Se s X bf) (tu Se s X af) 0) (r:=sec s 0) (f:=fr Se s X bf 0) (t:=tu Se s X af 0);have c0:((Lb Se.length Pt.length Li s (fr Se s X bf) (tu Se s X af) 0).filter SD).length=0:=by
    rw[Lb];simp[SD]
   show((Lb Se.length Pt.length Li s (fr Se s X bf) (tu Se s X af) 1).filter SD).length-1<=0;rw[Lb,QqJ rfl];omega
end
end Go.Vx
namespace Go.Vx
variable{R:Type} (n:Nat)
def Yh(p:Int)(ad:LL)(q:Int)(f g h i:LL)(r:Int)(b c s t u v x:LL)(j y:D)(k0:QlI R)(k1:QlU R):QlW R
|0,_,_,_=>none
|m+1,a,d,e=>bif decide (a<q)then Ql4 R ad a λaj ak=>Qc R aj[1]? λal=>Qlm R aj λau=>QkZ R al au λam an=>Qb R (wJ (a+1)) λk=>bif a==0 then Qc R (pSl 4 y) λav=>bif a==wJ ((av.length:Int)-1)then Qc R (pIw al) λaw=>Qc R (Hs n r b c s t u v x p some) λax=>QlF R ak c λaz ba=>Ql6 R j b az ba λbi bj bk bl bm bn bo=>Qc R (Uv n f g h i bi bj bk bl bm bn bo 60 (wJ (aw+ax)) Tu3) λz=>bif z.2.2 !=0 then k0 z.2.2 else Qlq R ((d.length+[[D.sl 3 z.1]].length)*24) ((e.length+[[Ql z.2.1]].length)*8) (Yh p ad q f g h i r b c s t u v x j y k0 k1 m k (d++[[D.sl 3 z.1]]) (e++[[Ql z.2.1]]))else QlF R ak c λbq br=>Ql6 R j b bq br λcc ce cf cg ch ci cj=>Qc R (Uv n f g h i cc ce cf cg ch ci cj 60 (wJ (am+an)) Tu3) λaa=>bif aa.2.2 !=0 then k0 aa.2.2 else Qlq R ((d.length+[[D.sl 3 aa.1]].length)*24) ((e.length+[[Ql aa.2.1]].length)*8) (Yh p ad q f g h i r b c s t u v x j y k0 k1 m k (d++[[D.sl 3 aa.1]]) (e++[[Ql aa.2.1]]))else Qc R (pSl 4 y) λck=>bif a==wJ ((ck.length:Int)-1)then Qc R (pIw al) λcm=>Qc R (Hs n r b c s t u v x p some) λcn=>QlF R ak c λcp cq=>Ql6 R j b cp cq λcx cy cz da db dc dd=>Qc R (Uv n f g h i cx cy cz da db dc dd 0 (wJ (cm+cn)) Tu3) λab=>bif ab.2.2 !=0 then k0 ab.2.2 else Qlq R ((d.length+[[D.sl 3 ab.1]].length)*24) ((e.length+[[Ql ab.2.1]].length)*8) (Yh p ad q f g h i r b c s t u v x j y k0 k1 m k (d++[[D.sl 3 ab.1]]) (e++[[Ql ab.2.1]]))else QlF R ak c λdf dg=>Ql6 R j b df dg λdp dq dr ds dt du dw=>Qc R (Uv n f g h i dp dq dr ds dt du dw 0 (wJ (am+an)) Tu3) λac=>bif ac.2.2 !=0 then k0 ac.2.2 else Qlq R ((d.length+[[D.sl 3 ac.1]].length)*24) ((e.length+[[Ql ac.2.1]].length)*8) (Yh p ad q f g h i r b c s t u v x j y k0 k1 m k (d++[[D.sl 3 ac.1]]) (e++[[Ql ac.2.1]]))else k1 a (decide (a<q)) d e
def ZV(h2:LL)(c:Int)(h5 h6 h7 d:LL)(e:Int)(f g h i j k l:LL)(k0:QlI R)(k1:QlU R):QlW R
|0,_,_,_=>none
|m+1,a,o,p=>bif decide (a<c)then Ql9 R h2 a λb s=>Qlm R b λq=>Qc R (pSl 4 q) λr=>Yh n a r (r.length:Int) h5 h6 h7 d e f g h i j k l s q (λt=>k0 t) (λz aa u v=>ZV h2 c h5 h6 h7 d e f g h i j k l k0 k1 m (wJ (a+1)) u v) n 0 o p else k1 a (decide (a<c)) o p
def Tn(b c d e:LL)(f:Int)(g h a i j k l:LL)(K:LL->LL->Int->oP R):oP R:=Qc R (Js n b c d e f g h a i j k l some) λm=>bif m !=0 then K [] [] 1 else ZV n a (a.length:Int) b c d e f g h a i j k l (λo=>K [] [] o) (λr s p q=>K p q 0) n 0 [] []
end Go.Vx
namespace Go.Vx
def flat{α:Type}(nr:Nat->Nat)(f:Nat->Nat->α):Nat->Y α
 |0=>[]
 |i+1=>flat nr f i++(List.range (nr i)).map (f i)
def base(nr:Nat->Nat):Nat->Nat
 |0=>0
 |i+1=>base nr i+nr i
theorem ZL{α:Type}{nr:Nat->Nat}{f:Nat->Nat->α}:∀{i:Nat},(flat nr f i).length=base nr i
 |0=>rfl
 |i+1=>by rw[flat,Qr6,ZL,base,QqP,List.length_range]
theorem TR{nr:Nat->Nat}{i:Nat}:∀{j:Nat},i<j->base nr i+nr i<=base nr j
 |0,h=>by omega
 |j+1,h=>by
  rw[base];by_cases aa:i=j
  ·subst aa;omega
  ·have:=TR (nr:=nr) (i:=i) (j:=j) I;omega
theorem Q2n{α:Type}{nr:Nat->Nat}{f:Nat->Nat->α}{i k:Nat}(hk:k<nr i):∀{L:Nat},i<L->(flat nr f L)[base nr i+k]? = some (f i k)
 |0,h=>by omega
 |L+1,h=>by
  rw[flat];by_cases aa:i=L
  ·subst aa;rw[QqS (by rw[ZL];omega),ZL,Nat.add_sub_cancel_left,QqV,List.getElem?_range hk];rfl
  ·have:=TR (nr:=nr) (i:=i) (j:=L) I;rw[QqU (by rw[ZL];omega)];exact Q2n hk I
theorem Bz{nr:Nat->Nat}{a:Nat}:∀{L:Nat},a<base nr L->∃i k,i<L/\k<nr i/\a=base nr i+k
 |0,h=>by simp[base]at h
 |L+1,h=>by
  rw[base]at h;by_cases ha:a<base nr L
  ·obtain⟨i,k,c,h2,b⟩:=Bz ha;exact⟨i,k,I,h2,b⟩
  ·exact⟨L,a-base nr L,I,I,I⟩
def Hl(Ls:LL)(i:Nat):LL:=match Ls[i]? with
 |some [_,_,_,.sl _ r]=>r
 |_=>[]
def wOf(Ls:LL)(i:Nat):Int:=match Ls[i]? with
 |some [_,_,.int _ w,_]=>w
 |_=>0
def rF(Ls:LL)(i k j:Nat):Int:=match ((Hl Ls i).getD k [])[j]? with
 |some (.int _ x)=>x
 |_=>0
def Qk5(Ro:LL)(r:Int):LL:=match Ro[r.toNat]? with
 |some [.sl _ s,_]=>s
 |_=>[]
structure Cx where
 G:Geo
 Ro:LL
 Ls:LL
 T:List Tup
 nm:List UInt8
 tl:Int
 sp:Int
 ac:Int
 br:Int
namespace Cx
variable(X:Cx)
def nr(i:Nat):Nat:=(Hl X.Ls i).length
def w(i:Nat):Int:=wOf X.Ls i
def ex(i k:Nat):Int:=rF X.Ls i k 1
def mn(i k:Nat):Int:=rF X.Ls i k 2
def mx(i k:Nat):Int:=rF X.Ls i k 3
def st(i k:Nat):LL:=Qk5 X.Ro (rF X.Ls i k 0)
def rn(i k:Nat):Run:=ZE X.G.Se (X.st i k) X.nm X.tl X.sp X.ac X.br
def tn(i:Nat):oP Tup:=X.T.find? λt=>t.1 == i
def rest(i:Nat):Int:=match X.tn i with
 |some t=>if 60<t.2.2.2 then t.2.2.2 else 60
 |none=>60
def bf(k:Nat):Int:=if k=0 then 60 else 0
def af(i k:Nat):Int:=if k=X.nr i-1 then X.ex i k+X.rest i else X.ex i k+X.mx i k
def occ(i k:Nat):Y Occ:=Q8A X.G.St X.G.Pt X.G.Se X.G.Li (X.st i k) (X.rn i k) (bf k) (X.af i k)
def run(i k:Nat):Int:=Q3I (X.rn i k)
def L:Nat:=X.Ls.length
structure OK:Prop where
 g:X.G.OK
 sk:StkN X.tl X.sp X.ac X.br
 gd:GoodP X.G X.Ro X.Ls
 l0:1<=X.Ls.length
 l1:X.Ls.length<=3
 tr:∀t∈X.T,QaM X.G X.Ro X.Ls t
 fd:(X.T.map (·.1)).Nodup
 td:(X.T.map (·.2.1)).Nodup
 tl:X.T.length<=20
structure RdOK(i k:Nat):Prop where
 row:(Hl X.Ls i)[k]? = some [Ql (rF X.Ls i k 0),Ql (X.ex i k),Ql (X.mn i k),Ql (X.mx i k)]
 ro:Qi X.Ro (rF X.Ls i k 0)=some [D.sl 2 (X.st i k),Ql 0]
 rt:RtF X.G.St X.G.Pt X.G.Se X.G.Li (X.st i k)
 ex0:0<=X.ex i k
 ex1:X.ex i k<3
 mn0:0<=X.mn i k
 mn1:X.mn i k<=X.mx i k
 mn2:X.mx i k<=X.mn i k+3
 mn3:X.mn i k<=10
variable{X} (h:X.OK)
include h
theorem line{i:Nat}(hi:i<X.Ls.length):X.Ls[i]? = some [D.str (nmN i),Ql 0,Ql (X.w i),D.sl 4 (Hl X.Ls i)]/\(X.nr i=1\/X.nr i=2)/\(0<=X.w i/\X.w i<4):=by
 obtain⟨w,rides,b,h2,c,a⟩:=h.gd.ls i _ (QqF hi);have er:Hl X.Ls i=rides:=by grind[Hl]
 have ew:X.w i=w:=by grind[Cx.w,wOf]
 refine⟨by simp_all,?_,I⟩;unfold nr;rw[er];rcases a with⟨r,x,y,rfl,_⟩|⟨r,r',x,y,z,rfl,_,_⟩
 all_goals simp
theorem rd{i k:Nat}(hi:i<X.Ls.length)(hk:k<X.nr i):X.RdOK i k:=by
 obtain⟨w,rides,g,h2,j,c⟩:=h.gd.ls i _ (QqF hi);have e:X.Ls[i]? = some [D.str (nmN i),Ql 0,Ql w,D.sl 4 rides]:=by simp_all
 have er:Hl X.Ls i=rides:=by grind[Hl]
 have hr:∃r x y b,rides[k]? = some r/\PU X.G X.Ro r x y b:=by
  unfold nr at hk;rw[er]at hk;rcases c with⟨r,x,y,rfl,h⟩|⟨r,r',x,y,z,rfl,h,h'⟩
  all_goals grind
 obtain⟨r,x,y,b,hr,rt,ex,mn,mx,s,rfl,q1,d,l,q4,q5⟩:=hr;have eg:(Hl X.Ls i).getD k []=[Ql rt,Ql ex,Ql mn,Ql mx]:=by simp_all
 have a:rF X.Ls i k 0=rt:=by grind[rF]
 have e1:X.ex i k=ex:=by grind[Cx.ex,rF]
 have e2:X.mn i k=mn:=by unfold Cx.mn rF;rw[eg];rfl
 have f:X.mx i k=mx:=by unfold Cx.mx rF;rw[eg];rfl
 have es:X.st i k=s:=by unfold st Qk5;rw[a,QqC,q1]
 exact⟨by rw[a,e1,e2,f,er,hr],by rw[a,es,Qp,q1],by rw[es];exact d.f h.g,I,I,I,I,I,I⟩
theorem Q2h{i:Nat}:60<=X.rest i/\X.rest i<=60:=by
 unfold rest;cases e:X.tn i with
 |none=>simp_all
 |some t=>
  have:=h.tr t (List.mem_of_find?_eq_some e);have a:=this.2.2.2.1;have h2:=this.2.2.2.2.2.1
  grind
theorem Qjs{i k:Nat}(hi:i<X.Ls.length)(hk:k<X.nr i):(0<=bf k/\bf k<=60)/\0<=X.af i k/\X.af i k<=5000:=by
 have r:=rd h hi hk;have:=Q2h h (i:=i);have:=r.ex0;have:=r.ex1;have:=r.mn0;have:=r.mn1;have:=r.mn2;have:=r.mn3
 grind[bf,af]
theorem Qjm{i k:Nat}(hi:i<X.Ls.length)(hk:k<X.nr i):Uv 400 X.G.St X.G.Pt X.G.Se X.G.Li (X.st i k) 0 X.nm X.tl X.sp X.ac X.br (bf k) (X.af i k) Tu3=some ((X.occ i k).map enc,X.run i k,0):=by
 have b:=Qjs h hi hk;exact Qjg (rd h hi hk).rt h.sk b.1.1 I b.2.1 I
theorem QiQ{i k:Nat}(hi:i<X.Ls.length)(hk:k<X.nr i):HI 400 X.G.St X.G.Pt X.G.Se X.G.Li (X.st i k) 0 X.nm X.tl X.sp X.ac X.br (bf k) (X.af i k) Tu3=some ((X.occ i k).map enc,X.run i k,0):=by
 have b:=Qjs h hi hk;exact QiM (rd h hi hk).rt h.sk b.1.1 I b.2.1 I
theorem QgN{i k:Nat}(hi:i<X.Ls.length)(hk:k<X.nr i):OL (-1) (X.occ i k)/\(X.occ i k).length<=6:=by
 have b:=Qjs h hi hk;exact Qfp (rd h hi hk).rt h.sk b.1.1 b.1.2 b.2.1 b.2.2
theorem Df{i k:Nat}(hi:i<X.Ls.length)(hk:k<X.nr i):0<=X.run i k/\X.run i k<=7001:=FN (rd h hi hk).rt h.sk
theorem base_le:base X.nr X.L<=6:=by
 have a:=h.l1;have hb:∀i,i<=X.Ls.length->base X.nr i<=2*i:=by
  intro i;induction i with
  |zero=>intro _;exact QqQ _
  |succ i ih=>
   intro hi;have:=(line h (i:=i) I).2.1
   grind[base]
 grind[L]
end Cx
theorem PlanR.cx{G:Geo}{per:Int}{Sk Ro Ls Ch Tu Sy De:LL}(h:PlanR G per Sk Ro Ls Ch Tu Sy De):∃X:Cx,X.OK/\X.G=G/\X.Ro=Ro/\X.Ls=Ls/\Tu=X.T.map tuR/\Sk=[[D.str X.nm,Ql X.tl,Ql X.sp,Ql X.ac,Ql X.br]]:=by
 obtain⟨T,hT,t1,t2,e,f⟩:=h.tu;obtain⟨a,b,c,d,hS,hs⟩:=h.sk;exact⟨⟨G,Ro,Ls,T,bs [88],a,b,c,d⟩,⟨h.ok,hs,h.good,h.l0,h.l1,t1,t2,e,f⟩,rfl,rfl,rfl,hT,hS⟩
def Kh(L:Y (Y Occ)):LL:=L.map λo=>[D.sl 3 (o.map enc)]
theorem VD{L:Y (Y Occ)}{o:Y Occ}:Kh L++[[D.sl 3 (o.map enc)]]=Kh (L++[o]):=by simp[Kh]
theorem VF{L:Y Int}{x:Int}:encI L++[[D.int .i64 x]]=encI (L++[x]):=by simp[encI]
theorem Jo{L:Y (Y Occ)}:(Kh L).length=L.length:=by simp[Kh]
theorem ZH{α:Type}{A:Y α}{f:Nat->α}{k:Nat}:A++(List.range k).map f++[f k]=A++(List.range (k+1)).map f:=by simp[List.range_succ]
namespace Cx
variable{R:Type} {n:Nat} {X:Cx} (h:X.OK)
theorem Qb5{T:Y Tup}(hT:T.length<=1000){i:Nat}{k0:Int->oP R}{k1:Int->Bool->oP R}{E:oP R}(hk:∀a b,k1 a b=E):∀(aa:Y Tup) (j m:Nat),T.drop j=aa->aa.length<m->V7 n (i:Int) (T.map tuR) (T.length:Int) k0 k1 m (j:Int)=(match aa.find? (λt=>t.1 == i)with | some t=>k0 (if 60<t.2.2.2 then t.2.2.2 else 60) | none=>E)
 |[],j,m+1,hd,_=>by
  have:=Wc hd;rw[V7,show decide ((j:Int)<(T.length:Int))=false by simpa using this,QqD,hk];rfl
 |(a,b,lo,hi)::aa,j,m+1,hd,hm=>by
  obtain⟨e,ac,hj⟩:=Yf hd;rw[V7,Qt hj,QqE,X6 e];simp -implicitDefEqProofs only[Qh,tuR,QqA,QqB,Qj,QJ (show j<=1000 by omega)];rw[List.find?_cons];by_cases ha:a=i
  ·subst ha;rw[show((a:Int) == (a:Int))=true by simp,QqE,show((a,b,lo,hi).1 == a)=true by simp]
  ·rw[show((a:Int) == (i:Int))=false by simp;omega,QqD,show((a,b,lo,hi).1 == i)=false by simpa using ha];exact Qb5 hT hk aa (j+1) m ac (by simpa using hm)
theorem Qbn{T:Y Tup}(hT:T.length<=1000){i:Nat}{k0:D->D->D->D->oP R}{k1:Int->Bool->oP R}{E:oP R}(hk:∀a b,k1 a b=E):∀(aa:Y Tup) (j m:Nat),T.drop j=aa->aa.length<m->Ji n (i:Int) (T.map tuR) k0 k1 m (j:Int)=(match aa.find? (λt=>t.1 == i)with | some t=>k0 (Ql t.1) (Ql t.2.1) (Ql t.2.2.1) (Ql t.2.2.2) | none=>E)
 |[],j,m+1,hd,_=>by
  have:=Wc hd;rw[Ji,QqP,show decide ((j:Int)<(T.length:Int))=false by simpa using this,QqD,hk];rfl
 |(a,b,lo,hi)::aa,j,m+1,hd,hm=>by
  obtain⟨e,ac,hj⟩:=Yf hd;rw[Ji,QqP,Qt hj,QqE,X6 e];simp -implicitDefEqProofs only[Qh,tuR,QqA,QqB,Qj,QJ (show j<=1000 by omega)];rw[List.find?_cons];by_cases ha:a=i
  ·subst ha;rw[show((a:Int) == (a:Int))=true by simp,QqE,show((a,b,lo,hi).1 == a)=true by simp]
  ·rw[show((a:Int) == (i:Int))=false by simp;omega,QqD,show((a,b,lo,hi).1 == i)=false by simpa using ha];exact Qbn hT hk aa (j+1) m ac (by simpa using hm)
def skR(X:Cx):LL:=[[D.str X.nm,Ql X.tl,Ql X.sp,Ql X.ac,Ql X.br]]
include h
theorem QjH{per:Int}{Sk Ro Ls Ch Sy De:LL}{i:Nat}:Hs 400 per Sk Ro Ls Ch (X.T.map tuR) Sy De (i:Int) (some:Int->oP Int)=some (X.rest i):=by
 unfold Hs;rw[QqP];have:=Qb5 (n:=400) (T:=X.T) (i:=i) (k0:=(some:Int->oP Int)) (k1:=λ_ _=>some 60) (by have:=h.tl;omega) (λ_ _=>rfl) X.T 0 400 rfl (by have:=h.tl;omega);refine this.trans ?_;unfold rest tn;cases X.T.find? λt=>t.1 == i<;>rfl
theorem Qet{i:Nat}(K:D->D->D->D->Bool->oP R):SO 400 (X.T.map tuR) (i:Int) K=(match X.tn i with | some t=>K (Ql t.1) (Ql t.2.1) (Ql t.2.2.1) (Ql t.2.2.2) true | none=>K (Ql 0) (Ql 0) (Ql 0) (Ql 0) false):=
 Qbn (n:=400) (T:=X.T) (i:=i) (k0:=λa b c d=>K a b c d true) (k1:=λ_ _=>K (Ql 0) (Ql 0) (Ql 0) (Ql 0) false) (by have:=h.tl;omega) (λ_ _=>rfl) X.T 0 400 rfl (by have:=h.tl;omega)
theorem Qe4{per:Int}{Ch Sy De:LL}{i:Nat}(hi:i<X.Ls.length){A:Y (Y Occ)}{B:Y Int}(hA:A.length<=100)(hB:B.length<=100){k0:Int->oP R}{K:LL->LL->oP R}{k1:Int->Bool->LL->LL->oP R}(hk:∀a b u v,k1 a b u v=K u v) :
  Yh 400 (i:Int) (Hl X.Ls i) ((X.nr i:Nat):Int) X.G.St X.G.Pt X.G.Se X.G.Li per X.skR X.Ro X.Ls Ch (X.T.map tuR) Sy De (Ql 0) (D.sl 4 (Hl X.Ls i)) k0 k1 400 0 (Kh A) (encI B)=K (Kh (A++(List.range (X.nr i)).map (X.occ i))) (encI (B++(List.range (X.nr i)).map (X.run i))):=by
 have hl:=(line h hi).2.1;refine QZ (r:=λm k=>Yh 400 (i:Int) (Hl X.Ls i) ((X.nr i:Nat):Int) X.G.St X.G.Pt X.G.Se X.G.Li per X.skR X.Ro X.Ls Ch (X.T.map tuR) Sy De (Ql 0) (D.sl 4 (Hl X.Ls i)) k0 k1 m k (Kh (A++(List.range k.toNat).map (X.occ i))) (encI (B++(List.range k.toNat).map (X.run i)))) (N:=X.nr i) (λm k hk=>?_) (λm=>?_) (X.nr i) 400 0 I I |> Eq.trans Q2
 ·simp only[QqC];have r:=rd h hi hk;have rr:=Q2h h (i:=i);have j:=r.ex0;have e1:=r.ex1;have e2:=r.mn0;have l:=r.mn1;have n:=r.mn2;have o:=r.mn3;have hh:=Qjm h hi hk;have aj:Qi (Hl X.Ls i) (k:Int)=some [Ql (rF X.Ls i k 0),Ql (X.ex i k),Ql (X.mn i k),Ql (X.mx i k)]:=by rw[Qp,r.row]
  have ak:Qi X.skR 0=some [D.str X.nm,Ql X.tl,Ql X.sp,Ql X.ac,Ql X.br]:=rfl;have an:=r.ro;have hw:wJ (((List.length (Hl X.Ls i):Nat):Int)-1)=((X.nr i-1:Nat):Int):=G8 (k:=X.nr i) I I;have d:Y9 (((Kh (A++(List.range k).map (X.occ i))).length+List.length [[D.sl 3 ((X.occ i k).map enc)]])*24)=some ():=XM (by simp[Jo];omega);have e:Y9 (((encI (B++(List.range k).map (X.run i))).length+List.length [[D.int .i64 (X.run i k)]])*8)=some ():=XM (by simp[QS];omega);have ai:=QjH h (per:=per) (Sk:=X.skR) (Ro:=X.Ro) (Ls:=X.Ls) (Ch:=Ch) (Sy:=Sy) (De:=De) (i:=i);have am:((k:Int) == ((X.nr i-1:Nat):Int))=decide (k=X.nr i-1):=by
   by_cases hc:k=X.nr i-1
   ·rw[QqN hc];simp;omega
   ·rw[QqM hc];simp;omega
  have f:((k:Int) == 0)=decide (k=0):=by
   by_cases hc:k=0
   ·rw[QqN hc];simp;omega
   ·rw[QqM hc];simp;omega
  have g:wJ (X.ex i k+X.rest i)=X.ex i k+X.rest i:=Qo I I;have w2:wJ (X.ex i k+X.mx i k)=X.ex i k+X.mx i k:=Qo I I;rw[Yh,Qt hk,QqE,aj];simp -implicitDefEqProofs only[Qh,QqA,QqB,Qj,X2,XW,hw,am,f,ai,an,ak,g,w2,QJ (show k<=1000 by omega)];unfold bf af at hh;by_cases c1:k=0<;>by_cases c:k=X.nr i-1
  ·simp -implicitDefEqProofs only[QqJ c1,QqJ c]at hh;simp -implicitDefEqProofs only[QqN c1,QqN c,QqE,hh,Qh,show((0:Int) != 0)=false from rfl,QqD,d,e,VD,VF,ZH]
  ·simp -implicitDefEqProofs only[QqJ c1,QqL c]at hh;simp -implicitDefEqProofs only[QqN c1,QqM c,QqE,hh,Qh,show((0:Int) != 0)=false from rfl,QqD,d,e,VD,VF,ZH]
  ·simp -implicitDefEqProofs only[QqL c1,QqJ c]at hh;simp -implicitDefEqProofs only[QqM c1,QqN c,QqE,hh,Qh,show((0:Int) != 0)=false from rfl,QqD,d,e,VD,VF,ZH]
  ·simp -implicitDefEqProofs only[QqL c1,QqL c]at hh;simp -implicitDefEqProofs only[QqM c1,QqM c,QqE,hh,Qh,show((0:Int) != 0)=false from rfl,QqD,d,e,VD,VF,ZH]
 ·simp only[QqC];rw[Yh,Qy,QqD,hk]
end Cx
namespace Cx
variable{R:Type} {n:Nat} {X:Cx} (h:X.OK)
include h
theorem Qdr{per:Int}{Sk Ch Tu Sy De:LL}{i k:Nat}(hi:i<X.Ls.length)(hk:k<X.nr i)(K:D->D->oP R):XG n per Sk X.Ro X.Ls Ch Tu Sy De (i:Int) (k:Int) K=K (D.sl 2 (X.st i k)) (Ql 0):=by
 have r:=rd h hi hk;unfold XG;rw[Qp,(line h hi).1];simp -implicitDefEqProofs only[Qh,QqA,QqB,Qj,X2,Qp,r.row,r.ro]
theorem Qfx{per:Int}{Ch Sy De:LL}{i:Nat}(hi:i<X.Ls.length){A:Y (Y Occ)}{B:Y Int}(hA:A.length<=100)(hB:B.length<=100){K:LL->LL->oP R}{k1:Int->Bool->LL->LL->oP R}(hk:∀a b u v,k1 a b u v=K u v) :
  YO 400 (i:Int) X.G.St X.G.Pt X.G.Se X.G.Li per X.skR X.Ro X.Ls Ch (X.T.map tuR) Sy De (Ql 0) (D.sl 4 (Hl X.Ls i)) k1 400 0 (Kh A) (encI B)=K (Kh (A++(List.range (X.nr i)).map (X.occ i))) (encI (B++(List.range (X.nr i)).map (X.run i))):=by
 have hl:=(line h hi).2.1;refine QZ (r:=λm k=>YO 400 (i:Int) X.G.St X.G.Pt X.G.Se X.G.Li per X.skR X.Ro X.Ls Ch (X.T.map tuR) Sy De (Ql 0) (D.sl 4 (Hl X.Ls i)) k1 m k (Kh (A++(List.range k.toNat).map (X.occ i))) (encI (B++(List.range k.toNat).map (X.run i)))) (N:=X.nr i) (λm k hk=>?_) (λm=>?_) (X.nr i) 400 0 I I |> Eq.trans Q2
 ·simp only[QqC];have r:=rd h hi hk;have rr:=Q2h h (i:=i);have s:=r.ex0;have e1:=r.ex1;have e2:=r.mn0;have x:=r.mn1;have y:=r.mn2;have z:=r.mn3;have hh:=QiQ h hi hk;have ak:Qi (Hl X.Ls i) (k:Int)=some [Ql (rF X.Ls i k 0),Ql (X.ex i k),Ql (X.mn i k),Ql (X.mx i k)]:=by rw[Qp,r.row]
  have am:Qi X.skR 0=some [D.str X.nm,Ql X.tl,Ql X.sp,Ql X.ac,Ql X.br]:=rfl;have hw:wJ (((List.length (Hl X.Ls i):Nat):Int)-1)=((X.nr i-1:Nat):Int):=G8 (k:=X.nr i) I I;have d:Y9 (((Kh (A++(List.range k).map (X.occ i))).length+List.length [[D.sl 3 ((X.occ i k).map enc)]])*24)=some ():=XM (by simp[Jo];omega);have f:Y9 (((encI (B++(List.range k).map (X.run i))).length+List.length [[D.int .i64 (X.run i k)]])*8)=some ():=XM (by simp[QS];omega);have g:((k:Int) == 0)=decide (k=0):=by
   by_cases hc:k=0
   ·rw[QqN hc];simp;omega
   ·rw[QqM hc];simp;omega
  have j:decide ((k:Int)<((X.nr i-1:Nat):Int)) = !decide (k=X.nr i-1):=by
   by_cases hc:k=X.nr i-1
   ·rw[QqN hc];exact QqM I
   ·rw[QqM hc];exact QqN I
  have l:wJ (X.ex i k+60)=X.ex i k+60:=Qo I I;have w2:wJ (X.ex i k+X.mx i k)=X.ex i k+X.mx i k:=Qo I I;have w3:∀t,X.tn i=some t->wJ (X.ex i k+(if 60<t.2.2.2 then t.2.2.2 else 60))=X.ex i k+X.rest i:=λt ht=>by
   have e:X.rest i=if 60<t.2.2.2 then t.2.2.2 else 60:=by unfold rest;rw[ht]
   rw[<- e];exact Qo I I
  have o:X.tn i=none->wJ (X.ex i k+60)=X.ex i k+X.rest i:=λht=>by rw[l];unfold rest;rw[ht]
  have ao:∀K':D->D->oP R,XG 400 per X.skR X.Ro X.Ls Ch (X.T.map tuR) Sy De (i:Int) (k:Int) K'=K' (D.sl 2 (X.st i k)) (Ql 0):=λK'=>Qdr h hi hk K'
  have aj:=Qdr (n:=400) h (per:=per) (Sk:=X.skR) (Ch:=Ch) (Tu:=X.T.map tuR) (Sy:=Sy) (De:=De) hi hk Tu2;rw[YO,X2,Qh,show((Hl X.Ls i).length:Int)=((X.nr i:Nat):Int)from rfl,Qt hk,QqE];unfold bf af at hh;cases ht:X.tn i with
  |some t=>
   simp -implicitDefEqProofs only[jn,Qh,QqA,QqB,Qj,X2,XW,ak,hw,g,j,Qet h,ht,w2,w3 t ht,am,aj,QqE,QJ (show k<=1000 by omega)];by_cases c1:k=0<;>by_cases c:k=X.nr i-1
   ·simp -implicitDefEqProofs only[QqJ c1,QqJ c]at hh;simp -implicitDefEqProofs only[QqN c1,QqN c,QqH,QqD,QqE,hh,Qh,d,f,VD,VF,ZH]
   ·simp -implicitDefEqProofs only[QqJ c1,QqL c]at hh;simp -implicitDefEqProofs only[QqN c1,QqM c,QqG,QqD,QqE,hh,Qh,d,f,VD,VF,ZH]
   ·simp -implicitDefEqProofs only[QqL c1,QqJ c]at hh;simp -implicitDefEqProofs only[QqM c1,QqN c,QqH,QqD,QqE,hh,Qh,d,f,VD,VF,ZH]
   ·simp -implicitDefEqProofs only[QqL c1,QqL c]at hh;simp -implicitDefEqProofs only[QqM c1,QqM c,QqG,QqD,QqE,hh,Qh,d,f,VD,VF,ZH]
  |none=>
   simp -implicitDefEqProofs only[jn,Qh,QqA,QqB,Qj,X2,XW,ak,hw,g,j,Qet h,ht,w2,o ht,am,aj,QqD,QJ (show k<=1000 by omega)];by_cases c1:k=0<;>by_cases c:k=X.nr i-1
   ·simp -implicitDefEqProofs only[QqJ c1,QqJ c]at hh;simp -implicitDefEqProofs only[QqN c1,QqN c,QqH,QqD,QqE,hh,Qh,d,f,VD,VF,ZH]
   ·simp -implicitDefEqProofs only[QqJ c1,QqL c]at hh;simp -implicitDefEqProofs only[QqN c1,QqM c,QqG,QqD,QqE,hh,Qh,d,f,VD,VF,ZH]
   ·simp -implicitDefEqProofs only[QqL c1,QqJ c]at hh;simp -implicitDefEqProofs only[QqM c1,QqN c,QqH,QqD,QqE,hh,Qh,d,f,VD,VF,ZH]
   ·simp -implicitDefEqProofs only[QqL c1,QqL c]at hh;simp -implicitDefEqProofs only[QqM c1,QqM c,QqG,QqD,QqE,hh,Qh,d,f,VD,VF,ZH]
 ·simp only[QqC];rw[YO,X2,Qh,show((Hl X.Ls i).length:Int)=((X.nr i:Nat):Int)from rfl,Qy,QqD,hk]
omit h in
def occs(X:Cx)(i:Nat):Y (Y Occ):=flat X.nr X.occ i
omit h in
def runs(X:Cx)(i:Nat):Y Int:=flat X.nr X.run i
theorem Zv{i:Nat}(hi:i<=X.Ls.length):base X.nr i<=6:=by
 have a:=base_le h;by_cases hc:i=X.Ls.length
 ·rw[hc];exact a
 ·have:=TR (nr:=X.nr) (i:=i) (j:=X.Ls.length) I;unfold L at a;omega
theorem Qh9{per:Int}{Ch Sy De:LL}(hc:Js 400 X.G.St X.G.Pt X.G.Se X.G.Li per X.skR X.Ro X.Ls Ch (X.T.map tuR) Sy De (some:Int->oP Int)=some 0):Tn 400 X.G.St X.G.Pt X.G.Se X.G.Li per X.skR X.Ro X.Ls Ch (X.T.map tuR) Sy De Tu3=some (Kh (X.occs X.L),encI (X.runs X.L),(0:Int)):=by
 have l1:=h.l1;unfold Tn;rw[hc,Qh,Qq (by rfl)];refine QZ (r:=λm i=>ZV 400 X.Ls (X.Ls.length:Int) X.G.St X.G.Pt X.G.Se X.G.Li per X.skR X.Ro X.Ls Ch (X.T.map tuR) Sy De (λa=>some ([],[],a)) (λg j b c=>some (b,c,(0:Int))) m i (Kh (X.occs i.toNat)) (encI (X.runs i.toNat))) (N:=X.Ls.length) (λm i hi=>?_) (λm=>?_) X.Ls.length 400 0 I I
 ·simp only[QqC];have hb:=Zv h (i:=i) I;rw[ZV,Qt hi,QqE,Qp,(line h hi).1];simp -implicitDefEqProofs only[Qh,QqA,QqB,X2,QJ (show i<=1000 by omega)];exact Qe4 h hi (A:=X.occs i) (B:=X.runs i) (by unfold occs;rw[ZL];omega) (by unfold runs;rw[ZL];omega) (K:=λu v=>ZV 400 X.Ls (X.Ls.length:Int) X.G.St X.G.Pt X.G.Se X.G.Li per X.skR X.Ro X.Ls Ch (X.T.map tuR) Sy De (λa=>some ([],[],a)) (λg j b c=>some (b,c,(0:Int))) m ((i+1:Nat):Int) u v) (λ_ _ _ _=>rfl)
 ·simp only[QqC];rw[ZV,Qy,QqD];rfl
theorem QgY{per:Int}{Ch Sy De:LL}(hc:Wl 400 X.G.St X.G.Pt X.G.Se X.G.Li per X.skR X.Ro X.Ls Ch (X.T.map tuR) Sy De (some:Int->oP Int)=some 0):RJ 400 X.G.St X.G.Pt X.G.Se X.G.Li per X.skR X.Ro X.Ls Ch (X.T.map tuR) Sy De Tu3=some (Kh (X.occs X.L),encI (X.runs X.L),(0:Int)):=by
 have l1:=h.l1;unfold RJ;rw[hc,Qh,Qq (by rfl)];refine QZ (r:=λm i=>UO 400 X.G.St X.G.Pt X.G.Se X.G.Li per X.skR X.Ro X.Ls Ch (X.T.map tuR) Sy De (λf g a b=>some (a,b,(0:Int))) m i (Kh (X.occs i.toNat)) (encI (X.runs i.toNat))) (N:=X.Ls.length) (λm i hi=>?_) (λm=>?_) X.Ls.length 400 0 I I
 ·simp only[QqC];have hb:=Zv h (i:=i) I;rw[UO,Qt hi,QqE,Qp,(line h hi).1];simp -implicitDefEqProofs only[Qh,QqA,QqB,X2,QJ (show i<=1000 by omega)];exact Qfx h hi (A:=X.occs i) (B:=X.runs i) (by unfold occs;rw[ZL];omega) (by unfold runs;rw[ZL];omega) (K:=λu v=>UO 400 X.G.St X.G.Pt X.G.Se X.G.Li per X.skR X.Ro X.Ls Ch (X.T.map tuR) Sy De (λf g a b=>some (a,b,(0:Int))) m ((i+1:Nat):Int) u v) (λ_ _ _ _=>rfl)
 ·simp only[QqC];rw[UO,Qy,QqD];rfl
end Cx
end Go.Vx
namespace Go.Vx
variable{R:Type} (n:Nat)
def Zw(k l m o:LL)(d:Int)(p q e i g j r:LL)(K:Int->LL->LL->Int->oP R):oP R:=Qc R (Js n k l m o d p q e i g j r some) λa=>bif a !=0 then K 0 [] [] 1 else gb true (YM n e [] [] Tu2) ([],[]) λb=>bif decide ((b.2.length:Int)>48)then K 0 [] [] 7 else gb true (Tn n k l m o d p q e i g j r Tu3) ([],[],0) λc=>bif c.2.2 !=0 then K 0 [] [] c.2.2 else Qc R (YP n e g b.1 c.2.1 [] some) λs=>Qc R (ZS n d c.1 s some) λt=>bif !t then K 0 [] [] 13 else Qc R (YD n e i g j b.1 c.2.1 [] some) λr6=>gb true (Ys n d c.1 s r6 Tu2) (0,[]) λh=>bif h.1 !=0 then K 0 [] [] h.1 else bif decide ((h.2.length:Int)>512)then K 0 [] [] 7 else K d b.2 h.2 0
end Go.Vx
namespace Go.Vx
namespace Cx
variable(X:Cx)
def evl(i:Nat):Nat->LL
 |0=>[]
 |k+1=>evl i k++[[Ql 1,Ql i,Ql k],[Ql 2,Ql i,Ql k]]
def evs:Nat->LL
 |0=>[]
 |i+1=>evs i++evl i (X.nr i)
theorem RY{i:Nat}:∀{k:Nat},(evl i k).length=2*k
 |0=>rfl
 |k+1=>by rw[evl,Qr6,RY];simp;omega
variable{X}
theorem evs_len:∀{i:Nat},(X.evs i).length=2*base X.nr i
 |0=>rfl
 |i+1=>by rw[evs,Qr6,evs_len,RY,base];omega
theorem Qdp{i k:Nat}:∀{K:Nat},k<K->(evl i K)[2*k]? = some [Ql 1,Ql i,Ql k]/\(evl i K)[2*k+1]? = some [Ql 2,Ql i,Ql k]
 |0,h=>by omega
 |K+1,h=>by
  rw[evl];by_cases hk:k=K
  ·subst hk;rw[QqS (by rw[RY];omega),QqS (by rw[RY];omega),RY,Nat.sub_self,Nat.add_sub_cancel_left];exact⟨rfl,rfl⟩
  ·rw[QqU (by rw[RY];omega),QqU (by rw[RY];omega)];exact Qdp I
theorem evs_at{i k:Nat}(hk:k<X.nr i):∀{L:Nat},i<L->(X.evs L)[2*(base X.nr i+k)]? = some [Ql 1,Ql i,Ql k]/\(X.evs L)[2*(base X.nr i+k)+1]? = some [Ql 2,Ql i,Ql k]
 |0,h=>by omega
 |L+1,h=>by
  rw[evs];by_cases hi:i=L
  ·subst hi;rw[QqS (by rw[evs_len];omega),QqS (by rw[evs_len];omega),evs_len,show 2*(base X.nr i+k)-2*base X.nr i=2*k by omega,show 2*(base X.nr i+k)+1-2*base X.nr i=2*k+1 by omega];exact Qdp hk
  ·have:=TR (nr:=X.nr) (i:=i) (j:=L) I;rw[QqU (by rw[evs_len];omega),QqU (by rw[evs_len];omega)];exact evs_at hk I
def fst(X:Cx)(i:Nat):LL:=encI ((List.range i).map λj=>(base X.nr j:Int))
theorem QhC{i L:Nat}(h:i<L):Qi (X.fst L) (i:Int)=some [Ql (base X.nr i)]:=Hg (by simp[h])
variable{R:Type} {n:Nat} (h:X.OK)
include h
theorem Qej(K:LL->LL->oP R):YM 400 X.Ls [] [] K=K (X.fst X.L) (X.evs X.L):=by
 have l1:=h.l1;unfold YM;refine QZ (r:=λm i=>X5 400 X.Ls (X.Ls.length:Int) (λ_ _ u v=>K u v) m i (X.fst i.toNat) (X.evs i.toNat)) (N:=X.Ls.length) (λm i hi=>?_) (λm=>?_) X.Ls.length 400 0 I I
 ·simp only[QqC];have hb:=Zv h (i:=i) I;have hl:=(line h hi).2.1;have e1:wJ (Int.tdiv ((2*base X.nr i:Nat):Int) 2)=(base X.nr i:Int):=by
   rw[Qr0 I,Qo I I];omega
  have e2:X.fst i++[[D.int .i64 (base X.nr i:Int)]]=X.fst (i+1):=by simp[fst,encI,List.range_succ]
  have a:(X.fst i).length=i:=by simp[fst,encI]
  rw[X5,Qt hi,QqE,Qp,(line h hi).1];simp -implicitDefEqProofs only[Qh,QqA,QqB,X2,QJ (show i<=1000 by omega),DO (b:=2) Q1,evs_len,e1,e2,XM (show((X.fst i).length+[[D.int .i64 (base X.nr i:Int)]].length)*8<=100000 by rw[a];simp;omega)];refine QZ (r:=λm' k=>Xm 400 (i:Int) ((X.nr i:Nat):Int) (λ_ _ w=>X5 400 X.Ls (X.Ls.length:Int) (λ_ _ u v=>K u v) m ((i+1:Nat):Int) (X.fst (i+1)) w) m' k (X.evs i++evl i k.toNat)) (N:=X.nr i) (λm' k hk=>?_) (λm'=>?_) (X.nr i) 400 0 I I |> Eq.trans (by simp[evl];rfl)
  ·simp only[QqC];rw[Xm,Qt hk,QqE,XM (by simp[evs_len,RY];omega),Qh,QJ I,List.append_assoc];rfl
  ·simp only[QqC];rw[Xm,Qy,QqD];rfl
 ·simp only[QqC];rw[X5,Qy,QqD];rfl
omit h in
theorem QdC{a:Nat}(ha:a<=1000)(K:Int->oP R):YA n (a:Int) K=K ((2*a:Nat):Int):=by
 grind[YA,Qo]
omit h in
theorem QiD{a:Nat}(ha:a<=1000)(K:Int->oP R):UF n (a:Int) K=K ((2*a+1:Nat):Int):=by
 grind[UF,Qo]
theorem Q4x{i k:Nat}(hi:i<X.Ls.length)(hk:k<=10)(K:Int->oP R):Y1 n (X.fst X.L) (i:Int) (k:Int) K=K ((base X.nr i+k:Nat):Int):=by
 have hb:=Zv h (i:=i) I;unfold Y1
 grind[QhC,L,Qp,fst,encI,XR,Qh,Int.toNat_natCast,List.getElem?_cons_zero,Qj,Qo]
theorem Q1y{i k:Nat}(hi:i<X.Ls.length)(hk:k<=10)(K:Int->oP R):Xh n (X.fst X.L) (i:Int) (k:Int) K=K ((base X.nr i+k:Nat):Int):=Q4x (n:=n) h hi hk K
theorem QdN{i:Nat}(hi:i<X.Ls.length)(K:Int->oP R):Wk n X.Ls (X.fst X.L) (i:Int) K=K ((base X.nr i+(X.nr i-1):Nat):Int):=by
 have hl:=(line h hi).2.1;have hw:wJ (((List.length (Hl X.Ls i):Nat):Int)-1)=((X.nr i-1:Nat):Int):=G8 (k:=X.nr i) I I
 grind[Wk,Qp,line,Qh,List.getElem?_cons_zero,List.getElem?_cons_succ,X2,Q4x]
theorem Qgl{i:Nat}(hi:i<X.Ls.length)(K:Int->oP R):Vj n X.Ls (X.fst X.L) (i:Int) K=K ((base X.nr i+(X.nr i-1):Nat):Int):=QdN (n:=n) h hi K
omit h in
def j1(X:Cx)(i k:Nat):Tup:=(base X.nr i+k,base X.nr i+(k+1),X.run i k+X.mn i k,X.run i k+X.ex i k+X.mx i k)
omit h in
def jT(X:Cx)(t:Tup):Tup:=(base X.nr t.1+(X.nr t.1-1),base X.nr t.2.1+0,X.run t.1 (X.nr t.1-1)+t.2.2.1,X.run t.1 (X.nr t.1-1)+X.ex t.1 (X.nr t.1-1)+t.2.2.2)
omit h in
def jL(X:Cx)(i:Nat):Y Tup:=flat (λi=>X.nr i-1) X.j1 i
omit h in
def jns(X:Cx):Y Tup:=X.jL X.L++X.T.map X.jT
omit h in
theorem Q7e{i k:Nat}(hi:i<X.Ls.length)(hk:k<X.nr i):Qi (encI (X.runs X.L)) ((base X.nr i+k:Nat):Int)=some [Ql (X.run i k)]:=Hg (Q2n hk hi)
omit h in
theorem QgO{i k:Nat}(hi:i<X.Ls.length)(hk:k<X.nr i):Qi (Kh (X.occs X.L)) ((base X.nr i+k:Nat):Int)=some [D.sl 3 ((X.occ i k).map enc)]:=X6 (Q2n hk hi)
theorem Qgn{i k b:Nat}(hi:i<X.Ls.length)(hk:k<X.nr i){ex lo aa:Int}(a:0<=ex)(e1:ex<=1000)(l0:0<=lo)(l1:lo<=1000)(c:0<=aa)(d:aa<=1000){J:Y Tup}(hJ:J.length<=100)(K:LL->oP R) :
  Ym n (encI (X.runs X.L)) (J.map tuR) ((base X.nr i+k:Nat):Int) (b:Int) ex lo aa K=K ((J++[(base X.nr i+k,b,X.run i k+lo,X.run i k+ex+aa)]).map tuR):=by
 have hr:=Df h hi hk;unfold Ym;rw[Q7e hi hk,Qh];simp -implicitDefEqProofs only[Qh,QqA,Qj,Qo (x:=X.run i k+lo) I I,Qo (x:=X.run i k+ex) I I,Qo (x:=X.run i k+ex+aa) I I];rw[XM Q3,Qh,Qr2];rfl
omit h in
theorem Qgf{i:Nat}:(X.jL i).length=base (λi=>X.nr i-1) i:=ZL
theorem Qfg{i:Nat}(hi:i<=X.Ls.length):(X.jL i).length<=6:=by
 rw[Qgf];have:∀i,base (λi=>X.nr i-1) i<=base X.nr i:=by
  intro i;induction i with
  |zero=>exact QqQ _
  |succ i ih=>grind[base]
 grind[Nat.le_trans,Zv]
theorem QfR(K:LL->oP R):YP 400 X.Ls (X.T.map tuR) (X.fst X.L) (encI (X.runs X.L)) [] K=K (X.jns.map tuR):=by
 have l1:=h.l1;have tl:=h.tl;unfold YP;have s2:∀k0:Int->Bool->LL->oP R,QQ 400 X.Ls (X.Ls.length:Int) (X.fst X.L) (encI (X.runs X.L)) k0 400 0 []=k0 (X.Ls.length:Int) false ((X.jL X.L).map tuR):=by
  intro k0;refine QZ (r:=λm i=>QQ 400 X.Ls (X.Ls.length:Int) (X.fst X.L) (encI (X.runs X.L)) k0 m i ((X.jL i.toNat).map tuR)) (N:=X.Ls.length) (λm i hi=>?_) (λm=>?_) X.Ls.length 400 0 I I
  ·simp only[QqC];have hl:=(line h hi).2.1;have hJ:=Qfg h (i:=i) I;have hw:wJ (((List.length (Hl X.Ls i):Nat):Int)-1)=((X.nr i-1:Nat):Int):=G8 (k:=X.nr i) I I;have ak:(cut (Hl X.Ls i) (0,X.nr i-1)).length=X.nr i-1:=by rw[Fi,List.length_take];unfold nr;omega
   rw[QQ,Qt hi,QqE,Qp,(line h hi).1];simp -implicitDefEqProofs only[Qh,QqA,QqB,X2,QJ (show i<=1000 by omega),hw,Q2V (n:=(Hl X.Ls i).length) (h:=X.nr i-1) (Nat.sub_le ..),ak];refine QZ (r:=λm' k=>Xy 400 (i:Int) (cut (Hl X.Ls i) (0,X.nr i-1)) ((X.nr i-1:Nat):Int) (X.fst X.L) (encI (X.runs X.L)) (λ_ _ w=>QQ 400 X.Ls (X.Ls.length:Int) (X.fst X.L) (encI (X.runs X.L)) k0 m ((i+1:Nat):Int) w) m' k ((X.jL i++(List.range k.toNat).map (X.j1 i)).map tuR)) (N:=X.nr i-1) (λm' k hk=>?_) (λm'=>?_) (X.nr i-1) 400 0 I I |> Eq.trans Q2
   ·simp only[QqC];have r:=rd h hi (show k<X.nr i by omega);have ai:Qi (cut (Hl X.Ls i) (0,X.nr i-1)) (k:Int)=some [Ql (rF X.Ls i k 0),Ql (X.ex i k),Ql (X.mn i k),Ql (X.mx i k)]:=by rw[Fi,Qp,List.getElem?_take_of_lt hk,r.row]
    have c:=r.ex0;have e1:=r.ex1;have e2:=r.mn0;have o:=r.mn1;have p:=r.mn2;have s:=r.mn3;rw[Xy,Qt hk,QqE,ai];simp -implicitDefEqProofs only[Qh,QqA,QqB,Qj,Q4x (n:=400) h hi (show k<=10 by omega),QJ (show k<=1000 by omega),Q4x (n:=400) h hi (show k+1<=10 by omega),Qgn (n:=400) (b:=base X.nr i+(k+1)) h hi (show k<X.nr i by omega) c (show X.ex i k<=1000 by omega) e2 (show X.mn i k<=1000 by omega) (show 0<=X.mx i k by omega) (show X.mx i k<=1000 by omega) (J:=X.jL i++(List.range k).map (X.j1 i)) Q3];rw[show(base X.nr i+k,base X.nr i+(k+1),X.run i k+X.mn i k,X.run i k+X.ex i k+X.mx i k)=X.j1 i k from rfl,ZH]
   ·simp only[QqC];rw[Xy,Qy,QqD];rfl
  ·simp only[QqC];rw[QQ,Qy,QqD];rfl
 rw[s2];rw[QqP];refine QZ (r:=λm j=>Xw 400 (X.T.map tuR) (X.T.length:Int) (X.fst X.L) X.Ls (encI (X.runs X.L)) (λ_ _ w=>K w) m j ((X.jL X.L++(X.T.take j.toNat).map X.jT).map tuR)) (N:=X.T.length) (λm j hj=>?_) (λm=>?_) X.T.length 400 0 I I |> Eq.trans Q2
 ·simp only[QqC];obtain⟨⟨a,b,lo,aa⟩,e⟩:∃q,X.T[j]? = some q:=⟨X.T[j],QqF hj⟩;have ht:=h.tr _ (List.mem_of_getElem? e);have ha:a<X.Ls.length:=ht.1;have hb:b<X.Ls.length:=ht.2.1;have t1:=ht.2.2.1;have t2:=ht.2.2.2.1;have f:=ht.2.2.2.2.1;have g:=ht.2.2.2.2.2.1;dsimp only at t1 t2 f g;have hl:=(line h ha).2.1;have hJ:=Qfg h (i:=X.L) (QqQ _);have hw:wJ (((List.length (Hl X.Ls a):Nat):Int)-1)=((X.nr a-1:Nat):Int):=G8 (k:=X.nr a) I I;have r:=rd h ha (show X.nr a-1<X.nr a by omega);have c:=r.ex0;have e1:=r.ex1;rw[Xw,Qt hj,QqE,X6 e];simp -implicitDefEqProofs only[Qh,tuR,QqA,QqB,Qj,X2,Qp,(line h ha).1,hw,r.row,QdN (n:=400) h ha,QJ (show j<=1000 by omega)];have d:=Q4x (R:=Int) (n:=400) h hb (Nat.zero_le 10) some;rw[show((0:Nat):Int)=0 from rfl]at d;rw[d,Qh];have l:X.jL X.L++(X.T.take (j+1)).map X.jT=X.jL X.L++(X.T.take j).map X.jT++[X.jT (a,b,lo,aa)]:=by rw[ZA e,Qr2,List.append_assoc];rfl
  rw[Qgn (n:=400) (b:=base X.nr b+0) h ha (show X.nr a-1<X.nr a by omega) c (show X.ex a (X.nr a-1)<=1000 by omega) (show 0<=lo by omega) (show lo<=1000 by omega) (show 0<=aa by omega) (show aa<=1000 by omega) (J:=X.jL X.L++(X.T.take j).map X.jT) Q3,Qh,l];rfl
 ·simp only[QqC];rw[Xw,Qy,QqD,Qr4];rfl
end Cx
abbrev Sp2:=Int×Int
def Yn(q:Sp2):Y D:=[Ql q.1,Ql q.2]
def VS(t:Int):Int->Y Sp2->Prop
 |_,[]=>True
 |l,(a,b)::r=>l<a/\a<b/\b<=t/\VS t b r
def InS(y:Int)(l:Y Sp2):Prop:=∃q∈l,q.1<=y/\y<q.2
def cnt:Y Sp2->Int
 |[]=>0
 |(a,b)::r=>(b-a)+cnt r
theorem Ff{y:Int}:¬ InS y []:=λ⟨_,h,_⟩=>nomatch h
theorem TD{y:Int}{q:Sp2}{l:Y Sp2}:InS y (q::l)↔(q.1<=y/\y<q.2)\/InS y l:=by
 constructor
 ·rintro⟨p,hp,h⟩;cases hp with
  |head=>exact .inl h
  |tail _ hp=>exact .inr ⟨p,hp,h⟩
 ·rintro (h | ⟨p,hp,h⟩)
  ·exact⟨q,.head _,h⟩
  ·exact⟨p,.tail _ hp,h⟩
theorem QaR{y:Int}{a b:Y Sp2}:InS y (a++b)↔InS y a\/InS y b:=by
 constructor
 ·rintro⟨p,hp,h⟩;rcases QqX.1 hp with hp | hp
  ·exact .inl ⟨p,hp,h⟩
  ·exact .inr ⟨p,hp,h⟩
 ·rintro (⟨p,hp,h⟩|⟨p,hp,h⟩)
  ·exact⟨p,List.mem_append_left _ hp,h⟩
  ·exact⟨p,List.mem_append_right _ hp,h⟩
theorem Q7x{y:Int}{a b:Y Sp2}(h:a.Perm b):InS y a↔InS y b:=⟨λ⟨p,hp,q⟩=>⟨p,h.mem_iff.1 hp,q⟩,λ⟨p,hp,q⟩=>⟨p,h.mem_iff.2 hp,q⟩⟩
theorem VS.rng{t:Int}:∀{l:Int} {s:Y Sp2},VS t l s->∀q∈s,l<q.1/\q.1<q.2/\q.2<=t
 |_,[],_,_,h=>nomatch h
 |l,(a,b)::r,⟨c,h2,d,e⟩,q,h=>by
  cases h with
  |head=>exact⟨c,h2,d⟩
  |tail _ h=>have:=e.rng q h;exact⟨I,this.2⟩
theorem VS.cnt{t:Int}:∀{l:Int} {s:Y Sp2},l<=t->VS t l s->0<=cnt s/\cnt s<=t-l/\(0<s.length->cnt s<=t-l-1)
 |l,[],h,_=>⟨Int.le_refl _,by simp only[Vx.cnt];omega,λh=>nomatch h⟩
 |l,(a,b)::r,h,⟨e,h2,c,d⟩=>by
  have:=d.cnt c;simp only[Vx.cnt];omega
theorem Qbq{t:Int}:∀{l:Int} {s:Y Sp2},VS t l s->l<=t->∀q∈s,q.2-q.1<=cnt s
 |_,[],_,_,_,h=>nomatch h
 |l,(a,b)::r,⟨e,h2,c,d⟩,hl,q,h=>by
  have h5:=d.cnt c;cases h with
  |head=>simp only[Vx.cnt];omega
  |tail _ h=>have:=Qbq d c q h;simp only[Vx.cnt];omega
section
variable{R:Type} {n:Nat} {t:Int}
theorem Q2W(a:1<=t)(b:t<=7200)(K:Bool->oP R):UY n t K=K true:=by
 unfold UY;simp only[show decide (t>=1)=true from QqN a,show decide (t<=7200)=true from QqN b,QqE]
theorem Q7t{l:Y Sp2}(hl:l.length<=1000){k0:oP R}{k1:Int->Int->Bool->oP R}{E:oP R}(hk:∀a b c,k1 a b c=E):∀(aa:Y Sp2) (i m:Nat) (last:Int),l.drop i=aa->aa.length<m->VS t last aa->Ug n t (l.map Yn) (l.length:Int) k0 k1 m last (i:Int)=E
 |[],i,m+1,last,hd,_,_=>by
  have:=Wc hd;rw[Ug,show decide ((i:Int)<(l.length:Int))=false by simpa using this,QqD,hk]
 |(a,b)::aa,i,m+1,last,hd,hm,⟨f,h2,g,d⟩=>by
  obtain⟨e,ac,hi⟩:=Yf hd;rw[Ug,Qt hi,QqE,X6 e];simp -implicitDefEqProofs only[Qh,Yn,QqA,QqB,Qj,Q5 (a<=last),Q5 (a>=b),Q5 (b>t),QqD,QJ (show i<=1000 by omega)];exact Q7t hl hk aa (i+1) m b ac (by simpa using hm) d
theorem Q0m{l:Y Sp2}(a:1<=t)(b:t<=7200)(hl:l.length<=300)(h:VS t (-1) l):GK 400 t (l.map Yn) (some:Bool->oP Bool)=some true:=by
 unfold GK;rw[Q2W a b,Qh,Qq (by rfl),QqP];exact Q7t I (λ_ _ _=>rfl) l 0 400 (-1) rfl I h
theorem Q7c{l:Y Sp2}(hl:l.length<=1000){k0:Int->Int->Bool->oP R}:∀(aa:Y Sp2) (i m:Nat) (acc:Int),l.drop i=aa->aa.length<m->(∃u,VS t u aa /\ -1<=u/\u<=t)->t<=7200->0<=acc->acc<=100000-cnt aa->∃j b,ZZ n (l.map Yn) (l.length:Int) k0 m acc (i:Int)=k0 (acc+cnt aa) j b
 |[],i,m+1,acc,hd,_,_,_,_,_=>by
  have:=Wc hd;rw[ZZ,show decide ((i:Int)<(l.length:Int))=false by simpa using this,QqD];exact⟨_,_,by rw[cnt,Int.add_zero]⟩
 |(a,b)::aa,i,m+1,acc,hd,hm,⟨u,⟨k,h2,d,f⟩,h5,h6⟩,ht,h7,g=>by
  obtain⟨e,ac,hi⟩:=Yf hd;have hc:=f.cnt d;rw[cnt]at g ⊢;rw[ZZ,Qt hi,QqE,X6 e];simp -implicitDefEqProofs only[Qh,Yn,QqA,QqB,Qj,PX,Qo (x:=b-a) I I,Qo (x:=acc+(b-a)) I I,QJ (show i<=1000 by omega)];obtain⟨j,c,h⟩:=Q7c hl aa (i+1) m (acc+(b-a)) ac (by simpa using hm) ⟨b,f,I,d⟩ ht I I;exact⟨j,c,by rw[h,Int.add_assoc]⟩
theorem QhN{l:Y Sp2}(c:1<=t)(a:t<=7200)(hl:l.length<=300)(h:VS t (-1) l):Ty 400 t (l.map Yn) (some:Int->oP Int)=some (cnt l):=by
 have hc:=h.cnt I;obtain⟨j,b,e⟩:=Q7c (n:=400) (k0:=λw _ _=>(some w:oP Int)) (l:=l) I l 0 400 0 rfl I ⟨-1,h,I,I⟩ a I I;unfold Ty;rw[Q0m c a hl h,Qh,Qq (by rfl)];unfold Rs;rw[QqP,show ZZ 400 (l.map Yn) (l.length:Int) (λw _ _=>(some w:oP Int)) 400 0 0=_ from e,Qh,Int.zero_add]
theorem Qi5{x:Int}(b:1<=t)(c:t<=7200)(h2 : -1000000000<=x)(d:x<=1000000000)(K:Int->oP R):Hy n x t K=K (x % t):=by
 unfold Hy;rw[Qq (QqM I),DO I,Qh];have f:=Int.emod_nonneg x (show t≠0 by omega);have h5:=Int.emod_lt_of_pos x (show 0<t by omega);by_cases hx:0<=x
 ·rw[QqW hx,Qq (QqM I)]
 ·have e:Int.tmod x t = -((-x) % t):=by
   rw[show x = -(-x) by omega,Int.neg_tmod,QqW I,Int.neg_neg]
  have e1:x % t=if (-x) % t=0 then 0 else t-(-x) % t:=by
   have h6:=Int.emod_nonneg (-x) (show t≠0 by omega);have h7:=Int.emod_lt_of_pos (-x) (show 0<t by omega);have g:=Int.mul_ediv_add_emod (-x) t;split
   ·rename_i a;rw[show x=t*(-((-x) / t)) by rw[Int.mul_neg];omega];exact Int.mul_emod_right _ _
   ·rename_i a;rw[show x=(t-(-x) % t)+t*(-((-x) / t)-1) by rw[Int.mul_sub,Int.mul_neg];omega,Int.add_mul_emod_self_left];rw[show(t-(-x) % t+t*(-((-x) / t)-1))=x by rw[Int.mul_sub,Int.mul_neg];omega];exact Int.emod_eq_of_lt I I
  rw[e];by_cases hz:(-x) % t=0
  ·rw[hz,Qq (by rfl),e1,QqJ hz];rfl
  ·have h6:=Int.emod_nonneg (-x) (show t≠0 by omega);rw[Xi (QqN I),Qo I I,e1,QqL hz];congr 1;omega
theorem QhX{x:Int}(a:1<=t)(b:t<=7200)(h2 : -1000000000<=x)(c:x<=1000000000)(K:Int->oP R):Ew n x t K=K (x % t):=Qi5 (n:=n) a b h2 c K
def Q5a(t x k:Int):Y Sp2:=if k<1 then[]else if t<=k then[(0,t)]else if x+k<=t then[(x,x+k)]else[(0,x+k-t),(x,t)]
theorem Qag{x k:Int}:(Q5a t x k).length<=2:=by
 unfold Q5a;split
 ·simp
 split
 ·simp
 split<;>simp
theorem Qc8{x k:Int}(a:1<=t)(hx:0<=x)(aa:x<t):VS t (-1) (Q5a t x k):=by
 unfold Q5a;split
 ·trivial
 split
 ·exact⟨I,I,I,trivial⟩
 split
 ·exact⟨I,I,I,trivial⟩
 ·exact⟨I,I,I,I,I,I,trivial⟩
theorem Qkw{x y:Int}(hx:0<=x)(aa:x<t)(hy:0<=y)(ac:y<t):(y-x) % t=if x<=y then y-x else y-x+t:=by
 split
 ·exact Int.emod_eq_of_lt I I
 ·rw[show y-x=(y-x+t)+t*(-1) by omega,Int.add_mul_emod_self_left];rw[show y-x+t+t*(-1)+t=y-x+t by omega];exact Int.emod_eq_of_lt I I
theorem QcK{x k y:Int}(hx:0<=x)(ai:x<t)(hy:0<=y)(aa:y<t):InS y (Q5a t x k)↔(y-x) % t<k:=by
 rw[Qkw hx ai hy aa];unfold Q5a;split
 ·refine⟨λh=>absurd h Ff,λh=>?_⟩;split at h<;>omega
 split
 ·rw[TD];constructor
  ·intro _;split<;>omega
  ·intro _;exact .inl ⟨hy,aa⟩
 split
 ·rw[TD];constructor
  ·rintro (h | h)
   ·dsimp only at h;rw[QqJ h.1];omega
   ·exact absurd h Ff
  ·intro h;left;dsimp only;split at h<;>omega
 ·rw[TD,TD];constructor
  ·rintro (h | h | h)
   ·dsimp only at h;split<;>omega
   ·dsimp only at h;rw[QqJ h.1];omega
   ·exact absurd h Ff
  ·intro h;dsimp only;by_cases ac:x<=y
   ·exact .inr (.inl ⟨ac,aa⟩)
   ·rw[QqL ac]at h;exact .inl ⟨hy,I⟩
theorem Qio{f k:Int}(b:1<=t)(c:t<=7200)(h2 : -1000000<=f)(g:f<=1000000)(h : -1000000<=k)(h5:k<=1000000):Ph 400 t f k Tu2=some ((Q5a t (f % t) k).map Yn,(0:Int)):=by
 have h6:=Int.emod_nonneg f (show t≠0 by omega);have h7:=Int.emod_lt_of_pos f (show 0<t by omega);unfold Ph;rw[Q2W b c,Qh,Qq (by rfl),Qi5 b c I I,Qh];revert h6 h7;generalize f % t=x;intro h6 h7;unfold JC Q5a;by_cases c1:k<1
 ·rw[show decide (k<1)=true from QqN c1,QqE,QqJ c1];rfl
 rw[show decide (k<1)=false from QqM c1,QqD,QqL c1];by_cases a:t<=k
 ·rw[show decide (k>=t)=true from QqN a,QqE,QqJ a];rfl
 rw[show decide (k>=t)=false from QqM a,QqD,QqL a,Qo (x:=x+k) I I];by_cases c3:x+k<=t
 ·rw[show decide (x+k<=t)=true from QqN c3,QqE,QqJ c3];rfl
 ·rw[show decide (x+k<=t)=false from QqM c3,QqD,QqL c3,Qo (x:=x+k-t) I I];rfl
end
end Go.Vx
