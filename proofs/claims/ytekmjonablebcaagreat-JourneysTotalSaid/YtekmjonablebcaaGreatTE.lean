/- Part of a proof. No conditions of their own. -/
import Derived.Test.YtekmjonablebcaaGreatTD
import Derived.Test.YtekmjonablebcaaGreatTB
set_option linter.unusedVariables false
set_option linter.unusedSimpArgs false
noncomputable section
abbrev Qq5:=@List.getElem?_cons_zero
abbrev Qq6:=@List.getElem?_cons_succ
abbrev Qq7:=@Int.toNat_natCast
abbrev Qq8:=@cond_false
abbrev Qq9:=@cond_true
abbrev Qqa:=@List.getElem?_eq_getElem
abbrev Qqb:=@Bool.not_false
abbrev Qqc:=@Bool.not_true
abbrev Qqd:=@List.getElem?_eq_some_iff
abbrev Qqe:=@if_pos
abbrev Qqf:=@List.getD_eq_getElem?_getD
abbrev Qqg:=@if_neg
abbrev Qqh:=@decide_eq_false
abbrev Qqi:=@decide_eq_true
abbrev Qqj:=@List.getElem_mem
abbrev Qqk:=@List.length_map
abbrev Qql:=@Nat.le_refl
abbrev Qqm:=@Nat.add_sub_cancel
abbrev Qqn:=@List.getElem?_append_right
abbrev Qqo:=@Int.eq_ofNat_of_zero_le
abbrev Qqp:=@List.getElem?_append_left
abbrev Qqq:=@List.getElem?_map
abbrev Qqr:=@Int.tmod_eq_emod_of_nonneg
abbrev Qqs:=@List.mem_append
abbrev Qqt:=@List.length_cons
abbrev Qqu:=@Option.getD_some
abbrev Qqv:=@Int.tdiv_eq_ediv_of_nonneg
abbrev Qqw:=@List.length_nil
abbrev Qqx:=@List.map_append
abbrev Qqy:=@Bool.and_eq_true
abbrev Qqz:=@List.take_length
abbrev QqA:=@List.filter_cons
abbrev QqB:=@List.length_append
abbrev QqC:=@List.getElem?_eq_none
abbrev QqD:=@Nat.le_of_ble_eq_true
namespace Go.Vx
variable{R:Type} (n:Nat)
def QcY(aa:List (List UInt8))(s:List UInt8):Bool:=Nat.ble s.length 12&&Qdc (KC n s some)&&!(aa.contains s)
def P8 :List (List UInt8)->LL->Bool
|_,[]=>true
|aa,row::r=>match row with
|[D.str s]=>QcY n aa s&&P8 (s::aa) r
|_=>false
def Pw(l0 l1 l2 e:LL):List (List UInt8)->LL->Bool
|_,[]=>true
|aa,row::r=>match row with
|[D.str s,D.int .i64 a,D.int .i64 b,D.int .i64 c,D.int .i64 d]=>QcY n aa s&&Qdc (XA n l0 l1 l2 e s a b c d some)&&Pw l0 l1 l2 e (s::aa) r
|_=>false
def KX(l0 l1 l2 c:LL):List LL->LL->Bool
|_,[]=>true
|st,row::r=>match row with
|[D.int .i64 a,D.int .i64 ae,D.int .i64 b,D.int .i64 be,D.int .i64 p,D.int .i64 q]=>(decide (0<=a)&&decide (a<l2.length)&&decide (0<=ae)&&decide (ae<=1)&&decide (0<=b)&&decide (b<l2.length)&&decide (0<=be)&&decide (be<=1))&&Qdc (Yp n l0 l1 l2 c a ae b be p q some) && !(Nat.beq (2*a+ae).toNat (2*b+be).toNat) && (match st[(2*a+ae).toNat]?,st[(2*b+be).toNat]? with
|some x,some y=>QjI (GE n x a ae b be some)&&Qdc (JX n a ae b be p q x some)&&Qdc (JX n a ae b be p q y some)&&Nat.ble x.length 1&&Nat.ble y.length 1&&KX l0 l1 l2 c ((st.set (2*a+ae).toNat (x++[row])).set (2*b+be).toNat (y++[row])) r
|_,_=>false)
|_=>false
def Py(l0 l1 l2 a:LL):Bool:=Nat.ble l0.length 24&&Nat.ble l1.length 48&&Nat.ble l2.length 96&&Nat.ble a.length 192&&!(Nat.beq l2.length 0)&&P8 n [] l0&&P8 n [] l1&&Pw n l0 l1 l2 a [] l2&&KX n l0 l1 l2 a (List.replicate (2*l2.length) []) a
def ZA(l0 l1 l2 a:LL)(K:Qlj R):oP R:=bif Py n l0 l1 l2 a then K 0 else none
end Go.Vx
namespace Go.Vx
def hat(c:Nat):List Nu:=List.replicate c (2,5000,0)
def pt2(c0 c1:Nat):LL:=Q3h 0 c0++Q3h (pc c0) c1
def se2(c0 c1 a:Nat)(b c d:List Nu):LL:=(YI (secT 0) c0 b++YI (secT 1) c1 c)++YI (secL 0) a d
def li2(c0 c1 a:Nat):LL:=(inL (c0+c1) a++Q42 (c0+c1) false 0 0 c0)++Q42 (c0+c1+a-1) true (pc c0) c0 c1
def pt3(c0 c1 a:Nat):LL:=(Q3h 0 c0++Q3h (pc c0) c1)++Q3h (pc c0+pc c1) c1++Q3h (pc c0+pc c1+pc c1) a
def se3(c0 c1 a b c:Nat)(d e f g h:List Nu):LL:=(((YI (secT 0) c0 d++YI (secT 1) c1 e)++YI (secT 2) a f)++YI (secL 0) b g)++YI (secL 1) c h
def li3(c0 c1 a b c:Nat):LL:=((inL (c0+c1+a) b++Q42 (c0+c1+a) false 0 0 c0)++Q42 (c0+c1+a+b-1) true (pc c0) c0 c1)++inL (c0+c1+a+b) c++Q42 (c0+c1+a+b) false (pc c0+pc c1) c0 c1++Q42 (c0+c1+a+b+c-1) true (pc c0+pc c1+pc c1) (c0+c1) a
theorem ok2{c0 c1 a:Nat}(b:c0=1\/c0=2)(c:c1=1\/c1=2)(h2:a=1\/a=2):Py 400 [nmS 0,nmS 1] (pt2 c0 c1) (se2 c0 c1 a (hat c0) (hat c1) (hat a)) (li2 c0 c1 a)=true:=by
 rcases b with rfl | rfl<;>rcases c with rfl | rfl<;>rcases h2 with rfl | rfl<;>kernel_rfl
theorem ok3{c0 c1 a b c:Nat}(d:c0=1\/c0=2)(e:c1=1\/c1=2)(h2:a=1\/a=2)(f:b=1\/b=2)(g:c=1\/c=2):Py 400 [nmS 0,nmS 1,nmS 2] (pt3 c0 c1 a) (se3 c0 c1 a b c (hat c0) (hat c1) (hat a) (hat b) (hat c)) (li3 c0 c1 a b c)=true:=by
 rcases d with rfl | rfl<;>rcases e with rfl | rfl<;>rcases h2 with rfl | rfl<;>rcases f with rfl | rfl<;>rcases g with rfl | rfl<;>kernel_rfl
structure NumOk(a b c d:Int)(k:Nat):Prop where
 a0:1<=a
 a1:a<=400
 b0:1000<=b
 b1:b<=100000
 c0 : -40<=c
 c1:c<=40
 d0 : -1<=d
 d1:d<k
theorem Q7y{n:Nat}{l0 l1 l2 e:LL}{s:List UInt8}{a b c d:Int}(h:NumOk a b c d l0.length):XA n l0 l1 l2 e s a b c d some=some true:=by
 obtain⟨f,g,h2,i,j,h5,h6,h7⟩:=h;unfold XA;simp[f,g,h2,i,j,h5,h6,h7]
def DW(k:Nat):LL->LL->Prop
 |[],[]=>True
 |r::s,r'::s'=>(∃nm a b c a' b' c' d,r=[D.str nm,Ql a,Ql b,Ql c,Ql d]/\r'=[D.str nm,Ql a',Ql b',Ql c',Ql d]/\NumOk a b c d k/\NumOk a' b' c' d k)/\DW k s s'
 |_,_=>False
theorem DW.len{k:Nat}:∀{s s':LL},DW k s s'->s.length=s'.length
 |[],[],_=>rfl
 |r::s,r'::s',h=>by simp[DW.len h.2]
theorem DW.app{k:Nat}:∀{s s' t t':LL},DW k s s'->DW k t t'->DW k (s++t) (s'++t')
 |[],[],t,t',_,h=>h
 |r::s,r'::s',t,t',h,h2=>⟨h.1,DW.app h.2 h2⟩
theorem DW.secT{k i:Nat}(hi:i<k):∀{c:Nat} {x x':List Nu},KZ x->KZ x'->x.length=c->x'.length=c->DW k (YI (secT i) c x) (YI (secT i) c x')
 |0,[],[],_,_,_,_=>trivial
 |c+1,a::x,a'::x',h,h',e,e'=>⟨⟨QjQ i (c+1),a.1+2,a.2.1,a.2.2,a'.1+2,a'.2.1,a'.2.2,i,rfl,rfl,
   ⟨by have:=h.1.a0;omega,by have:=h.1.a1;omega,by have:=h.1.b0;omega,by have:=h.1.b1;omega,by have:=h.1.c0;omega,by have:=h.1.c1;omega,Q0,Q0⟩,
   ⟨by have:=h'.1.a0;omega,by have:=h'.1.a1;omega,by have:=h'.1.b0;omega,by have:=h'.1.b1;omega,by have:=h'.1.c0;omega,by have:=h'.1.c1;omega,Q0,Q0⟩⟩,DW.secT hi h.2 h'.2 (by simpa using e) (by simpa using e')⟩
theorem DW.secL{k i:Nat}:∀{c:Nat} {x x':List Nu},KZ x->KZ x'->x.length=c->x'.length=c->DW k (YI (secL i) c x) (YI (secL i) c x')
 |0,[],[],_,_,_,_=>trivial
 |c+1,a::x,a'::x',h,h',e,e'=>⟨⟨nmL i (c+1),a.1,a.2.1,a.2.2,a'.1,a'.2.1,a'.2.2,-1,rfl,rfl,
   ⟨by have:=h.1.a0;omega,by have:=h.1.a1;omega,by have:=h.1.b0;omega,by have:=h.1.b1;omega,by have:=h.1.c0;omega,by have:=h.1.c1;omega,Q0,Q0⟩,
   ⟨by have:=h'.1.a0;omega,by have:=h'.1.a1;omega,by have:=h'.1.b0;omega,by have:=h'.1.b1;omega,by have:=h'.1.c0;omega,by have:=h'.1.c1;omega,Q0,Q0⟩⟩,DW.secL h.2 h'.2 (by simpa using e) (by simpa using e')⟩
theorem HW:∀c,KZ (hat c)
 |0=>trivial
 |c+1=>⟨⟨by decide,by decide,by decide,by decide,by decide,by decide⟩,HW c⟩
theorem Mp(c:Nat):(hat c).length=c:=by simp[hat]
theorem DQ{n:Nat}{l0 l1 L L' e:LL}:∀{s s':LL} {aa:List (List UInt8)},DW l0.length s s'->Pw n l0 l1 L e aa s=Pw n l0 l1 L' e aa s'
 |[],[],aa,_=>rfl
 |r::s,r'::s',aa,h=>by
  obtain⟨⟨nm,a,b,c,a',b',c',d,rfl,rfl,f,h2⟩,g⟩:=h;show(QcY n aa nm&&Qdc (XA n l0 l1 L e nm a b c d some)&&Pw n l0 l1 L e (nm::aa) s)=(QcY n aa nm&&Qdc (XA n l0 l1 L' e nm a' b' c' d some)&&Pw n l0 l1 L' e (nm::aa) s');rw[Q7y f,Q7y h2,DQ g]
theorem F6{n:Nat}{l0 l1 L L' c:LL}(h:L.length=L'.length):∀{t:LL} {st:List LL},KX n l0 l1 L c st t=KX n l0 l1 L' c st t
 |[],st=>rfl
 |r::t,st=>by
  unfold KX;split
  ·rename_i a ae b be p q;have e:Yp n l0 l1 L c a ae b be p q some=Yp n l0 l1 L' c a ae b be p q some:=by unfold Yp;rw[h]
   rw[e,h];split
   ·rw[F6 h]
   ·rfl
  ·rfl
theorem Q1l{n:Nat}{l0 l1 L L' a:LL}(h:DW l0.length L L'):Py n l0 l1 L a=Py n l0 l1 L' a:=by
 unfold Py;rw[h.len,DQ h,F6 h.len]
theorem sr2{c0 c1 a:Nat}{b c d:List Nu}(n0:KZ b)(n1:KZ c)(n2:KZ d)(e:b.length=c0)(e1:c.length=c1)(e2:d.length=a):DW 2 (se2 c0 c1 a b c d) (se2 c0 c1 a (hat c0) (hat c1) (hat a)):=
 .app (.app (.secT Q1 n0 (HW _) e (Mp _)) (.secT Q1 n1 (HW _) e1 (Mp _))) (.secL n2 (HW _) e2 (Mp _))
theorem sr3{c0 c1 a b c:Nat}{d e f g h:List Nu}(n0:KZ d)(n1:KZ e)(n2:KZ f)(i:KZ g)(j:KZ h)(k:d.length=c0)(e1:e.length=c1)(e2:f.length=a)(l:g.length=b)(m:h.length=c):DW 3 (se3 c0 c1 a b c d e f g h) (se3 c0 c1 a b c (hat c0) (hat c1) (hat a) (hat b) (hat c)):=
 .app (.app (.app (.app (.secT Q1 n0 (HW _) k (Mp _)) (.secT Q1 n1 (HW _) e1 (Mp _))) (.secT Q1 n2 (HW _) e2 (Mp _))) (.secL i (HW _) l (Mp _))) (.secL j (HW _) m (Mp _))
theorem Qk2{c0 c1 a:Nat}{b c d:List Nu}(e:c0=1\/c0=2)(f:c1=1\/c1=2)(h2:a=1\/a=2)(n0:KZ b)(n1:KZ c)(n2:KZ d)(g:b.length=c0)(e1:c.length=c1)(e2:d.length=a) :
  Py 400 [nmS 0,nmS 1] (pt2 c0 c1) (se2 c0 c1 a b c d) (li2 c0 c1 a)=true:=by
 rw[<- ok2 e f h2];exact Q1l (sr2 n0 n1 n2 g e1 e2)
theorem Qkp{c0 c1 a b c:Nat}{d e f g h:List Nu}(i:c0=1\/c0=2)(j:c1=1\/c1=2)(h2:a=1\/a=2)(k:b=1\/b=2)(l:c=1\/c=2)(n0:KZ d)(n1:KZ e)(n2:KZ f)(m:KZ g)(n:KZ h)(o:d.length=c0)(e1:e.length=c1)(e2:f.length=a)(p:g.length=b)(q:h.length=c) :
  Py 400 [nmS 0,nmS 1,nmS 2] (pt3 c0 c1 a) (se3 c0 c1 a b c d e f g h) (li3 c0 c1 a b c)=true:=by
 rw[<- ok3 i j h2 k l];exact Q1l (sr3 n0 n1 n2 m n o e1 e2 p q)
end Go.Vx
namespace Go.Vx
variable{R:Type} (n:Nat)
def WT(h6:LL)(h7:Int)(b c d e:LL)(k0:oP R)(k1:Qlk R):Qll R
|0,_=>none
|m+1,a=>bif decide (a<h7)then QkQ R h6 a λg h=>QkC R g h λi j=>Qc R (Nz n b c d e i j some) λk=>bif !k then k0 else WT h6 h7 b c d e k0 k1 m (wJ (a+1))else k1 a (decide (a<h7))
def Gn(n:Nat)(e:LL)(c:Int)(k0:oP R)(k1:Qlm R):Qln R
|0,_,_=>none
|m+1,b,a=>bif decide (b<c)then QkH R e b λf g=>Qc R f[1]? λo=>Qc R (pIw g) λh=>Qlf R a.length h a h.toNat λk=>bif k then k0 else Qc R (pIw g) λd=>QkF R a.length d a d.toNat λl=>Gn n e c k0 k1 m (wJ (b+1)) (List.set a d.toNat (List.set l 0 (D.bool true)))else k1 b (decide (b<c)) a
def WI(e:LL)(b:Int)(f g h i j:LL)(k0:oP R)(k1:Qlm R):Qln R
|0,_,_=>none
|m+1,a,c=>bif decide (a<b)then QkQ R e a λo p=>QkQ R j a λq r=>Ql2 R q r o p λs t u v=>Qc R (JL n f g h i s t u v Tu2) λd=>bif !d.2 then k0 else Qc R (Y5 ((c.length+[[Ql d.1]].length)*8)) λz=>WI e b f g h i j k0 k1 m (wJ (a+1)) (c++[[Ql d.1]])else k1 a (decide (a<b)) c
def Hj(d e b f a:LL)(c:Int)(K:Qlt R):oP R:=Qc R (ZA n d e b f some) λj=>bif j !=0 then K [] 1 else Qb R (a.length:Int) λaa=>jn (λ(k:Bool)=>bif k then K [] 7 else jn (λ(l:Bool)=>bif l then K [] 4 else WT n a aa d e b f (K [] 4) (λo p=>Qb R (b.length:Int) λz=>gb true (bif decide (0<=z)&&decide (z<=z)then some ()else none) () λq=>Qc R (Y5 (Int.toNat z*1)) λr=>Gn n a aa (K [] 5) (λs t u=>Qc R (slB a.length (some 1) none) λg=>WI n (cut a g) ((List.length (cut a g):Nat):Int) d e b f a (K [] 11) (λv x m=>K m 0) n 0 []) n 0 (List.replicate (Int.toNat z) [D.bool false])) n 0) λh=>bif decide (c<0)then h (decide (c<0))else h (decide (wJ (aa-c)<2))) λi=>Qa R (decide (aa>24)) λy=>bif y then i y else i (decide (c>2))
def TN(b c d e f:LL)(g:Int)(K:Qlj R):oP R:=Qc R (Hj n b c d e f g Tu2) λa=>K a.2
end Go.Vx
namespace Go.Vx
def KH(s u x y:Nat)(up:Bool):LL:=
 bif up then[Ql x,Ql 0]::((ups s u).map λk=>[Ql (k:Nat),Ql 0])++[[Ql y,Ql 0]]else[Ql y,Ql 1]::((ups s u).reverse.map λk=>[Ql (k:Nat),Ql 1])++[[Ql x,Ql 1]]
theorem QY{α:Type}{r:Nat->Int->α}{N:Nat}{e:α}(hs:∀m h,h<N->r (m+1) (h:Int)=r m ((h+1:Nat):Int))(he:∀m,r (m+1) (N:Int)=e):∀(k m h:Nat),h+k=N->k<m->r m (h:Int)=e
 |0,m+1,h,hh,_=>by rw[show h=N by omega];exact he m
 |k+1,m+1,h,hh,hm=>by rw[hs m h Q0];exact QY hs he k m (h+1) Q0 Q0
section
variable{R:Type} {n:Nat} {a b a' b' L L' d:LL} (h:L.length=L'.length)
include h
theorem Qfw{s:LL}{w:Int}{k0:oP R}{k1:Int->Bool->oP R}:∀(m:Nat) (i:Int),WT n s w a b L d k0 k1 m i=WT n s w a' b' L' d k0 k1 m i
 |0,_=>rfl
 |m+1,i=>by
  unfold WT;simp only[Nz,h,Qfw m]
omit h in
theorem Qiz{x y z t:Int}{K:Int->Bool->oP R}:JL n a b L d x y z t K=JL n a' b' L' d x y z t K:=rfl
omit h in
theorem Qht{q s:LL}{w:Int}{k0:oP R}{k1:Int->Bool->LL->oP R}:∀(m:Nat) (i:Int) (p:LL),WI n q w a b L d s k0 k1 m i p=WI n q w a' b' L' d s k0 k1 m i p
 |0,_,_=>rfl
 |m+1,i,p=>by
  unfold WI;simp only[Qiz (a:=a) (b:=b) (L:=L) (a':=a') (b':=b') (L':=L'),Qht m]
end
def Qa0(St Pt L d s:LL):oP (LL×Int):=
 WT 400 s ((List.length s:Nat):Int) St Pt L d (some ([],4))
  (λ_ _=>
  gb true (bif decide (0<=((List.length L:Nat):Int))&&decide (((List.length L:Nat):Int)<=((List.length L:Nat):Int))then some ()else none) () λc=>
  gb true (Y5 (Int.toNat ((List.length L:Nat):Int)*1)) () λe=>
  Gn 400 s ((List.length s:Nat):Int) (some ([],5))
   (λ_ _ _=>
   gb true (slB (List.length s) (some (1:Int)) none) (0,0) λa=>
   WI 400 (cut s a) ((List.length (cut s a):Nat):Int) St Pt L d s (some ([],11)) (λ_ _ b=>some (b,0)) 400 (0:Int) [])
   400 (0:Int) (List.replicate (Int.toNat ((List.length L:Nat):Int)) [D.bool false]))
  400 (0:Int)
def rtB(N:Nat)(Li s:LL):Bool:=match Qa0 [] [] (List.replicate N []) Li s with
 |some (_,e)=>e == 0
 |none=>false
theorem Qaf{St Pt Se Li s:LL}{N:Nat}(aa:Py 400 St Pt Se Li=true)(hN:Se.length=N)(h2:2<=s.length)(g:s.length<=24)(hr:rtB N Li s=true) :
  ∃ac,Hj 400 St Pt Se Li s 0 Tu2=some (ac,0):=by
 have hc:ZA 400 St Pt Se Li (some:Int->oP Int)=some 0:=by unfold ZA;rw[aa];rfl
 have hL:Se.length=(List.replicate N ([]:List D)).length:=by simp[hN]
 have e:Hj 400 St Pt Se Li s 0 Tu2=Qa0 [] [] (List.replicate N []) Li s:=by
  unfold Hj;rw[hc,Qh,Qp Q1];dsimp only[jn];rw[Qp (c:=decide (((List.length s:Nat):Int)>24)) Q3,Qp (c:=decide ((0:Int)>2)) Q1,Qp (c:=decide ((0:Int)<0)) Q1,Qp (c:=decide (wJ (((List.length s:Nat):Int)-0)<2)) (by rw[Qo Q0 Q0];simp;omega)];unfold Qa0;simp only[Qht (a:=St) (b:=Pt) (L:=Se) (a':=[]) (b':=[]) (L':=List.replicate N []),Qfw (a:=St) (b:=Pt) (L:=Se) (a':=[]) (b':=[]) (L':=List.replicate N []) hL,hL]
 rw[e];unfold rtB at hr;split at hr
 ·rename_i p e' hh;simp only[beq_iff_eq]at hr;subst hr;exact⟨p,hh⟩
 ·cases hr
theorem Q6G{R:Type}{St Pt Se Li s:LL}{N:Nat}(aa:Py 400 St Pt Se Li=true)(hN:Se.length=N)(h2:2<=s.length)(a:s.length<=24)(hr:rtB N Li s=true)(K:Int->oP R):TN 400 St Pt Se Li s 0 K=K 0:=by
 obtain⟨p,e⟩:=Qaf aa hN h2 a hr;unfold TN;rw[e,Qh]
def Qd2(N:Nat)(Li:LL)(s u k c k' c':Nat):Bool:=
 (ups k c).all λx=>(ups k' c').all λy=>rtB N Li (KH s u x y true)&&rtB N Li (KH s u x y false)
theorem Qkb{c0 c1 a:Nat}(b:c0=1\/c0=2)(c:c1=1\/c1=2)(h2:a=1\/a=2):Qd2 (c0+c1+a) (li2 c0 c1 a) (c0+c1) a 0 c0 c0 c1=true:=by
 rcases b with rfl | rfl<;>rcases c with rfl | rfl<;>rcases h2 with rfl | rfl<;>kernel_rfl
theorem Qkh{c0 c1 a b c:Nat}(d:c0=1\/c0=2)(e:c1=1\/c1=2)(h2:a=1\/a=2)(f:b=1\/b=2)(g:c=1\/c=2) :
  (Qd2 (c0+c1+a+b+c) (li3 c0 c1 a b c) (c0+c1+a) b 0 c0 c0 c1&&Qd2 (c0+c1+a+b+c) (li3 c0 c1 a b c) (c0+c1+a+b) c c0 c1 (c0+c1) a)=true:=by
 rcases d with rfl | rfl<;>rcases e with rfl | rfl<;>rcases h2 with rfl | rfl<;>rcases f with rfl | rfl<;>rcases g with rfl | rfl<;>kernel_rfl
end Go.Vx
namespace Go.Vx
variable{R:Type} (n:Nat)
def Wk(d:LL)(c:Int)(e:LL)(k0:Qlm R):Qln R
|0,_,_=>none
|m+1,h5,a=>bif decide (h5<c)then QkQ R d h5 λl o=>Qc R (pIw l) λp=>QkN R e p λb g=>Ql9 R b λq r=>Qc R b[4]? λx=>Ql7 R q r o λh i s=>bif s==1 then Qc R (pIw g) λt=>Qc R (Qu n [[Ql h,Ql (wJ (0-i))]] t some) λj=>Qc R (Y5 ((a.length+j.length)*16)) λy=>Wk d c e k0 m (wJ (h5+1)) (a++j)else Qc R (pIw g) λu=>Qc R (Qu n [[Ql h,Ql i]] u some) λk=>Qc R (Y5 ((a.length+k.length)*16)) λz=>Wk d c e k0 m (wJ (h5+1)) (a++k)else k0 h5 (decide (h5<c)) a
def SZ(g h b i a:LL)(c:Int)(K:Qlw R):oP R:=Qc R (TN n g h b i a c some) λd=>bif d !=0 then K [] 0 d else Qc R (slB a.length none (some (wJ ((a.length:Int)-c)))) λe=>Wk n (cut a e) ((List.length (cut a e):Nat):Int) b (λp q f=>bif decide ((f.length:Int)>4000)then K [] 0 7 else QkG R a 0 λl=>QkL R b l λi64=>K f i64 0) n 0 []
def WK(n:Nat)(h6:LL)(h7:Int)(c:LL)(b:Int)(k0:oP R)(k1:Qlk R):Qll R
|0,_=>none
|m+1,a=>bif decide (a<h7)then QkH R h6 a λd e=>Qc R d[1]? λj=>Qc R (pIw e) λf=>QkL R c f λi=>bif decide (i<(if 2<b then b else 2))then k0 else WK n h6 h7 c b k0 k1 m (wJ (a+1))else k1 a (decide (a<h7))
def Hi(h i c j d:LL)(e:Int)(k:List UInt8)(f l m o:Int)(K:Qlw R):oP R:=Qc R (SZ n h i c j d e Tu3) λa=>bif a.2.2 !=0 then K [] 0 a.2.2 else Qc R (Uv n k f l m o some) λb=>bif !b then K [] 0 1 else Qc R (Uj n d e some) λg=>WK n g (g.length:Int) c f (K [] 0 12) (λq r=>K a.1 a.2.1 0) n 0
def Gj(b c d e f:LL)(g:Int)(h:List UInt8)(i j k l:Int)(K:Qlj R):oP R:=Qc R (Hi n b c d e f g h i j k l Tu3) λa=>K a.2.2
end Go.Vx
namespace Go.Vx
structure SecN(a b c:Int):Prop where
 a0:2<=a
 a1:a<=12
 b0:5000<=b
 b1:b<=35000
 c0 : -10<=c
 c1:c<=10
def Dc(Se:LL)(row:List D):Prop:=∃(x d:Int) (nm:List UInt8) (a b c st:Int),row=[Ql x,Ql d]/\Qi Se x=some [D.str nm,Ql a,Ql b,Ql c,Ql st]/\SecN a b c/\(d=0\/d=1)
def Sn(Se:LL):List D->LL
 |[.int _ x,.int _ d]=>match Qi Se x with
  |some [_,.int _ a,.int _ b,.int _ c,_]=>List.replicate a.toNat [Ql b,Ql (bif d == 1 then -c else c)]
  |_=>[]
 |_=>[]
def Yw(Se s:LL):LL:=s.flatMap (Sn Se)
theorem Hk{Se:LL}{x d a b c st:Int}{nm:List UInt8}(h:Qi Se x=some [D.str nm,Ql a,Ql b,Ql c,Ql st]):Sn Se [Ql x,Ql d]=List.replicate a.toNat [Ql b,Ql (bif d == 1 then -c else c)]:=by
 grind[Sn]
theorem Zv{α:Type}{l:List α}{h:Nat}{a:α}(e:l[h]? = some a):l.take (h+1)=l.take h++[a]:=by grind[List.take_add_one]
theorem MC{Se s:LL}{h:Nat}{row:List D}(e:s[h]? = some row):Yw Se (s.take (h+1))=Yw Se (s.take h)++Sn Se row:=by
 rw[Zv e];simp[Yw]
theorem PN{Se:LL}:∀{s:LL},(∀row∈s,Dc Se row)->(Yw Se s).length<=12*s.length/\2*s.length<=(Yw Se s).length
 |[],_=>by simp[Yw]
 |row::s,h=>by
  obtain⟨x,d,nm,a,b,c,st,rfl,hs,hn,_⟩:=h _ (List.mem_cons_self ..);have e:=PN λr hr=>h r (List.mem_cons_of_mem _ hr)
  have h2:=hn.a0;have f:=hn.a1;simp only[Yw,List.flatMap_cons,Hk hs,QqB,List.length_replicate,Qqt]at e ⊢;omega
section
variable{R:Type} {n:Nat}
theorem Qk3{a:Int}{x y:D}(b:0<=a)(c:a<=100000)(K:LL->oP R):Qu n [[x,y]] a K=K (List.replicate a.toNat [x,y]):=by
 simp_all [Qu,Xh]
theorem Qc5{Se s:LL}{k0:Int->Bool->LL->oP R}(hs:∀row∈s,Dc Se row)(hl:s.length<=30):∀{m:Nat},s.length<m->Wk n s (s.length:Int) Se k0 m 0 []=k0 (s.length:Int) false (Yw Se s):=by
 intro m hm;have hc:=λh:Nat=>(PN (s:=s.take h) λr hr=>hs r (List.mem_of_mem_take hr)).1
 refine QY (r:=λm h=>Wk n s (s.length:Int) Se k0 m h (Yw Se (s.take h.toNat))) (N:=s.length) (λm h hh=>?_) (λm=>?_) s.length m 0 Q0 hm
 ·have e:=Qqa hh;obtain⟨x,d,nm,a,b,c,st,hx,ac,hn,hd⟩:=hs _ (Qqj hh);rw[hx]at e;have a0:=hn.a0;have a1:=hn.a1;have ak:=hc h;simp only[Qq7,MC e,Hk ac];simp only[List.length_take]at ak;rw[Wk,Xh (by simpa using hh),show Qi s (h:Int)=some [Ql x,Ql d] by simp[Qi,e],Qh];dsimp only[List.getElem?_cons_zero,List.getElem?_cons_succ];rw[Qh,Qh,Qj,Qh,ac,Qh];dsimp only[List.getElem?_cons_zero,List.getElem?_cons_succ];have aa:∀r:List D,Y5 (((Yw Se (s.take h)).length+(List.replicate a.toNat r).length)*16)=some ():=λr=>XI (by simp only[List.length_replicate];omega)
  simp -implicitDefEqProofs only[Qh,Qj,Qk3 (show(0:Int)<=a by omega) (show a<=100000 by omega),aa];rw[Qo (x:=(h:Int)+1) Q0 Q0,show(h:Int)+1=((h+1:Nat):Int) by omega,Qo (x:=0-c) (by have:=hn.c1;omega) (by have:=hn.c0;omega),Int.zero_sub];cases f:d == (1:Int)<;>rfl
 simp[Qq7,Wk,Qp,Qqz]
theorem Qb3{s:LL}(h:s.length<=1000):slB s.length none (some (wJ ((s.length:Int)-(0:Int))))=some (0,s.length)/\cut s (0,s.length)=s:=by
 grind[Qo,slB,cut]
def T8(Se s:LL):Int:=match s with
 |[.int _ x,_]::_=>match Qi Se x with
  |some [_,.int _ a,_,_,_]=>a
  |_=>0
 |_=>0
theorem Qgr{St Pt Se Li s:LL}{N:Nat}(aa:Py 400 St Pt Se Li=true)(hN:Se.length=N)(h2:2<=s.length)(e:s.length<=24)(hr:rtB N Li s=true)(ho:∀row∈s,Dc Se row)(K:LL->Int->Int->oP R) :
  SZ 400 St Pt Se Li s 0 K=K (Yw Se s) (T8 Se s) 0:=by
 have hl:=(PN ho).1;obtain⟨row,rest,rfl⟩:∃row rest,s=row::rest:=by
  cases s with
  |nil=>simp at h2
  |cons a b=>simp_all
 obtain⟨x,d,nm,a,b,c,st,rfl,hs,_,_⟩:=ho row Q2;have hf:T8 Se ([Ql x,Ql d]::rest)=a:=by grind[T8]
 generalize hS:[Ql x,Ql d]::rest=s at *
 obtain⟨e1,e2⟩:=Qb3 (s:=s) Q0;unfold SZ;rw[Q6G aa hN h2 e hr,Qh,Qp Q1,e1,Qh,e2,Qc5 ho Q0 Q0,Qp Q3,show Qi s (0:Int)=some [Ql x,Ql d] by rw[<- hS];rfl,Qh]
 grind[List.getElem?_cons_zero,List.getElem?_cons_succ,Qh,Qj]
theorem Qhm{Se s:LL}{tl:Int}{k0:oP R}{k1:Int->Bool->oP R}(ht:tl<=2)(hb:s.length<=30)(hs:∀row∈s,Dc Se row){m:Nat}(hm:s.length<m) :
  WK n s (s.length:Int) Se tl k0 k1 m 0=k1 (s.length:Int) false:=by
 refine QY (r:=λm h=>WK n s (s.length:Int) Se tl k0 k1 m h) (N:=s.length) (λm h hh=>?_) (λm=>?_) s.length m 0 Q0 hm
 ·obtain⟨x,d,ai,a,b,c,st,hx,aa,hn,_⟩:=hs _ (Qqj hh);have a0:=hn.a0;rw[WK,Xh Q4,show Qi s (h:Int)=some [Ql x,Ql d] by grind[Qi,List.getElem?_eq_getElem],Qh];dsimp only[List.getElem?_cons_zero,List.getElem?_cons_succ];rw[Qh,Qh,Qj,Qh,aa,Qh];dsimp only[List.getElem?_cons_zero,List.getElem?_cons_succ];rw[Qh,Qj,Qh,Qp (by grind),Qo (x:=(h:Int)+1) Q0 Q0,show(h:Int)+1=((h+1:Nat):Int) by omega]
 simp[WK,Qp]
structure StkN(tl sp ac br:Int):Prop where
 t1:1<=tl
 t2:tl<=2
 s1:10000<=sp
 s2:sp<=25000
 a1:400<=ac
 a2:ac<=800
 b1:400<=br
 b2:br<=800
theorem Aa{nm:List UInt8}{tl sp ac br:Int}(h:StkN tl sp ac br)(K:Bool->oP R):Uv n nm tl sp ac br K=K true:=by
 obtain⟨t1,t2,s1,s2,a1,a2,b1,b2⟩:=h
 grind[Uv]
theorem Q16{s:LL}(a:s.length<=24)(K:LL->oP R):Uj 400 s 0 K=K s:=by
 grind[Qb3,Uj,Qh]
theorem QjS{St Pt Se Li s:LL}{N:Nat}{nm:List UInt8}{tl sp ac br:Int}(aa:Py 400 St Pt Se Li=true)(hN:Se.length=N)(h2:2<=s.length)(a:s.length<=24)(hr:rtB N Li s=true)(ho:∀row∈s,Dc Se row)(hk:StkN tl sp ac br)(K:LL->Int->Int->oP R):Hi 400 St Pt Se Li s 0 nm tl sp ac br K=K (Yw Se s) (T8 Se s) 0:=by
 unfold Hi;rw[Qgr aa hN h2 a hr ho,Qh,Qp (by rfl),Aa hk,Qh,Qp Q1,Q16 a,Qh,Qhm hk.t2 Q0 ho Q0]
theorem Qh9{St Pt Se Li s:LL}{N:Nat}{nm:List UInt8}{tl sp ac br:Int}(aa:Py 400 St Pt Se Li=true)(hN:Se.length=N)(h2:2<=s.length)(a:s.length<=24)(hr:rtB N Li s=true)(ho:∀row∈s,Dc Se row)(hk:StkN tl sp ac br)(K:Int->oP R):Gj 400 St Pt Se Li s 0 nm tl sp ac br K=K 0:=by
 grind[Gj,QjS,Qh]
end
end Go.Vx
namespace Go.Vx
variable{R:Type} (n:Nat)
def Mu(d e c f:LL)(a b:Int)(K:Qlo R):oP R:=Qa R (Q9 (Q9 (decide (a>=0)) (decide (a<(c.length:Int)))) (Q8 (b==0) (b==1))) λh=>Qd R h (ZA n d e c f some) λg=>K (Q9 h (g==0))
def Wp(g:LL)(d h6 h7:Int)(k0:Qlm R):Qln R
|0,_,_=>none
|m+1,h5,b=>bif decide (h5<d)then QkE R g h5 λc r ac s=>QkO R c λt j k=>Ql2 R r ac s t λu v x y=>QkC R j k λz aa=>gb true (F1 n u v x y z aa Tu4) (0,0,0,0) λa=>Qb R (wJ (h5+1)) λab=>bif h6==a.1&&h7==a.2.1 then Qc R (M4 n a.2.2.1 a.2.2.2 Tu2) λh=>QkC R j k λl o=>Qb R [[Ql h.1,Ql h.2,Ql l,Ql o]] λf=>Qc R (Y5 ((b.length+f.length)*32)) λad=>Wp g d h6 h7 k0 m ab (b++f)else bif h6==a.2.2.1&&h7==a.2.2.2 then Qc R (M4 n a.1 a.2.1 Tu2) λi=>QkC R j k λp q=>Qb R [[Ql i.1,Ql i.2,Ql p,Ql q]] λe=>Qc R (Y5 ((b.length+e.length)*32)) λae=>Wp g d h6 h7 k0 m ab (b++e)else Wp g d h6 h7 k0 m ab b else k0 h5 (decide (h5<d)) b
def LM(d e f a:LL)(b c:Int)(K:Qlp R):oP R:=Qc R (Mu n d e f a b c some) λg=>bif !g then K []else bif c==1 then Wp n a (a.length:Int) b 0 (λj k h=>K h) n 0 []else Wp n a (a.length:Int) b 1 (λl m i=>K i) n 0 []
def ZF(n:Nat)(h2:LL)(c h5 h6:Int)(k0:Qlj R)(k1:Qlk R):Qll R
|0,_=>none
|m+1,a=>bif decide (a<c)then QkE R h2 a λb d e f=>Qc R b[3]? λj=>QkC R d e λg h=>bif g==h5&&h==h6 then Qc R (pIw f) λi=>k0 i else ZF n h2 c h5 h6 k0 k1 m (wJ (a+1))else k1 a (decide (a<c))
def Zw(b c d e:LL)(f g h i:Int)(K:Qlj R):oP R:=Qc R (LM n b c d e f g some) λa=>ZF n a (a.length:Int) h i (λj=>K j) (λk l=>K (-1:Int)) n 0
end Go.Vx
namespace Go.Vx
theorem DW.at{k:Nat}:∀{s s':LL},DW k s s'->∀i:Nat,(s[i]? = none/\s'[i]? = none)\/∃nm a b c a' b' c' d,s[i]? = some [D.str nm,Ql a,Ql b,Ql c,Ql d]/\s'[i]? = some [D.str nm,Ql a',Ql b',Ql c',Ql d]/\NumOk a b c d k/\NumOk a' b' c' d k
 |[],[],_,i=>.inl ⟨by simp,by simp⟩
 |r::s,r'::s',h,0=>by
  obtain⟨⟨nm,a,b,c,a',b',c',d,e,h2,f,g⟩,_⟩:=h;exact .inr ⟨nm,a,b,c,a',b',c',d,by simp[e],by simp[h2],f,g⟩
 |r::s,r'::s',h,i+1=>by
  have:=DW.at h.2 i;simpa using this
theorem DW.row{k:Nat}{s s':LL}(h:DW k s s')(i:Int):(Qi s i=none/\Qi s' i=none)\/∃nm a b c a' b' c' d,Qi s i=some [D.str nm,Ql a,Ql b,Ql c,Ql d]/\Qi s' i=some [D.str nm,Ql a',Ql b',Ql c',Ql d]/\NumOk a b c d k/\NumOk a' b' c' d k:=by
 unfold Qi;cases decide ((0:Int)<=i)
 ·simp_all
 ·exact h.at i.toNat
theorem gbN{α R:Type}{z:α}{k:α->oP R}:gb true none z k=none:=rfl
theorem inT{R:Type}{n:Nat}{x lo hi:Int}(a:lo<=x)(b:x<=hi)(K:Bool->oP R):Kn n x lo hi K=K true:=by
 grind[Kn,decide]
section
variable{R:Type} {n k:Nat} {s s' St Pt Li:LL} (h:DW k s s')
include h
theorem Q71{k0:Int->Bool->LL->oP R}:∀(m:Nat) (i:Int) (acc:LL),YS n s k0 m i acc=YS n s' k0 m i acc
 |0,_,_=>rfl
 |m+1,i,acc=>by
  unfold YS;rcases h.row i with⟨e,e'⟩|⟨nm,a,b,c,a',b',c',d,e,e',_,_⟩
  ·simp only[e,e',h.len,gbN]
  ·rw[e,e',h.len];simp only[Q71 m];rfl
theorem Qe3{aa:LL}(hk:St.length=k)(f:k<=100){k0:Int->oP R}{k1:Int->Bool->oP R}:∀(m:Nat) (i:Int),Jd n aa St s k0 k1 m i=Jd n aa St s' k0 k1 m i
 |0,_=>rfl
 |m+1,i=>by
  unfold Jd;rcases h.row i with⟨e,e'⟩|⟨nm,a,b,c,a',b',c',d,e,e',g,g'⟩
  ·simp only[e,e',h.len,gbN,Qe3 hk f m]
  ·rw[e,e',h.len];obtain⟨j,l,h2,o,p,h5,h6,h7⟩:=g;obtain⟨g0,g1,q,r,t,u,v,x⟩:=g';simp -implicitDefEqProofs only[Qh,Qq5,Qq6,Qj,inT j l,inT h2 o,inT p h5,inT g0 g1,inT q r,inT t u,Qe3 hk f m]
theorem QfO{k0:Int->oP R}{k1:Int->Bool->oP R}:∀(m:Nat) (i:Int),J4 n St Pt s Li k0 k1 m i=J4 n St Pt s' Li k0 k1 m i
 |0,_=>rfl
 |m+1,i=>by
  unfold J4;have e:∀j,JH n St Pt s Li j (some:Int->oP Int)=JH n St Pt s' Li j some:=by
   intro j;unfold JH;rw[h.len];rfl
  simp only[e,QfO m]
theorem Qdx(hk:St.length=k)(a:k<=100)(K:Int->oP R):Vy n St Pt s Li K=Vy n St Pt s' Li K:=by
 unfold Vy V4;rw[h.len]
 grind[Q71,Qe3,QfO]
end
def Qbd(St Pt Se Li:LL):Bool:=Q8F (Vy 400 St Pt Se Li some)
theorem ro2{c0 c1 a:Nat}(b:c0=1\/c0=2)(c:c1=1\/c1=2)(h2:a=1\/a=2):Qbd [nmS 0,nmS 1] (pt2 c0 c1) (se2 c0 c1 a (hat c0) (hat c1) (hat a)) (li2 c0 c1 a)=true:=by
 rcases b with rfl | rfl<;>rcases c with rfl | rfl<;>rcases h2 with rfl | rfl<;>kernel_rfl
theorem ro3{c0 c1 a b c:Nat}(d:c0=1\/c0=2)(e:c1=1\/c1=2)(h2:a=1\/a=2)(f:b=1\/b=2)(g:c=1\/c=2):Qbd [nmS 0,nmS 1,nmS 2] (pt3 c0 c1 a) (se3 c0 c1 a b c (hat c0) (hat c1) (hat a) (hat b) (hat c)) (li3 c0 c1 a b c)=true:=by
 rcases d with rfl | rfl<;>rcases e with rfl | rfl<;>rcases h2 with rfl | rfl<;>rcases f with rfl | rfl<;>rcases g with rfl | rfl<;>kernel_rfl
theorem Q50{St Pt L L' Li:LL}(h:DW St.length L L')(h2:St.length<=100):Qbd St Pt L Li=Qbd St Pt L' Li:=by
 unfold Qbd;rw[Qdx h rfl h2]
theorem Qks{c0 c1 a:Nat}{b c d:List Nu}(e:c0=1\/c0=2)(f:c1=1\/c1=2)(h2:a=1\/a=2)(n0:KZ b)(n1:KZ c)(n2:KZ d)(g:b.length=c0)(e1:c.length=c1)(e2:d.length=a) :
  Qbd [nmS 0,nmS 1] (pt2 c0 c1) (se2 c0 c1 a b c d) (li2 c0 c1 a)=true:=by
 grind[ro2,Q50,sr2]
theorem Qki{c0 c1 a b c:Nat}{d e f g h:List Nu}(i:c0=1\/c0=2)(j:c1=1\/c1=2)(h2:a=1\/a=2)(k:b=1\/b=2)(l:c=1\/c=2)(n0:KZ d)(n1:KZ e)(n2:KZ f)(m:KZ g)(n:KZ h)(o:d.length=c0)(e1:e.length=c1)(e2:f.length=a)(p:g.length=b)(q:h.length=c) :
  Qbd [nmS 0,nmS 1,nmS 2] (pt3 c0 c1 a) (se3 c0 c1 a b c d e f g h) (li3 c0 c1 a b c)=true:=by
 grind[ro3,Q50,sr3]
def Qen(St Pt L d s:LL):oP Int:=
 YO 400 L s (some 4) (λ_ _=>VP 400 s (some 5) (λ_ _=>YL 400 St Pt L d s (some 11) (λ_ _=>some 0) 400 (1:Int)) 400 (0:Int)) 400 (0:Int)
def Qhz(N:Nat)(Li s:LL):Bool:=Q8F (Qen [] [] (List.replicate N []) Li s)
section
variable{R:Type} {n:Nat} {a b a' b' L L' d s:LL} (h:L.length=L'.length)
include h
theorem Qg9{k0:oP R}{k1:Int->Bool->oP R}:∀(m:Nat) (i:Int),YO n L s k0 k1 m i=YO n L' s k0 k1 m i
 |0,_=>rfl
 |m+1,i=>by
  unfold YO;simp only[h,Qg9 m]
omit h in
theorem QjU{x y z t:Int}{K:D->D->D->D->Bool->oP R}:JR n a b L d x y z t K=JR n a' b' L' d x y z t K:=rfl
omit h in
theorem Qhb{k0:oP R}{k1:Int->Bool->oP R}:∀(m:Nat) (i:Int),YL n a b L d s k0 k1 m i=YL n a' b' L' d s k0 k1 m i
 |0,_=>rfl
 |m+1,i=>by
  unfold YL;simp only[QjU (a:=a) (b:=b) (L:=L) (a':=a') (b':=b') (L':=L'),Qhb m]
end
theorem Q51{St Pt Se Li s:LL}{N:Nat}(aa:Qbd St Pt Se Li=true)(hN:Se.length=N)(h2:2<=s.length)(c:s.length<=24)(hr:Qhz N Li s=true):VZ 400 St Pt Se Li s 0 (some:Int->oP Int)=some 0:=by
 have hL:Se.length=(List.replicate N ([]:List D)).length:=by simp[hN]
 unfold VZ;rw[VW aa,Qh,Qp Q1,Qp (by grind),Qp (by grind[Qo,decide,List.length])];simp only[Qg9 hL,Qhb (a:=St) (b:=Pt) (L:=Se) (a':=[]) (b':=[]) (L':=List.replicate N [])];exact VW hr
def Qfk(Li:LL)(r r':List D):oP Int:=match r,r' with
 |[.int _ x,.int _ d],[.int _ y,.int _ e]=>gb true (bif (d == (1:Int))then Wp 400 Li ((List.length Li:Nat):Int) x (0:Int) (λ_ _ w=>some w) 400 (0:Int) []else Wp 400 Li ((List.length Li:Nat):Int) x (1:Int) (λ_ _ w=>some w) 400 (0:Int) []) [] λa=>
  ZF 400 a ((List.length a:Nat):Int) y e some (λ_ _=>some (-1)) 400 (0:Int)
 |_,_=>none
def ptR(St Pt Se Li:LL)(r r':List D):oP Int:=match r,r' with
 |[.int _ x,.int _ d],[.int _ y,.int _ e]=>match JR 400 St Pt Se Li x d y e Tu5 with
  |some (_,_,.int .i64 q,_,true)=>some q
  |_=>none
 |_,_=>none
def pv:oP Int->Int
 |some p=>p
 |none => -1
def Q0q(N NP:Nat)(Li:LL):Nat->LL->Bool
 |k,r::r'::t=>match Qfk Li r r',ptR [] [] (List.replicate N []) Li r r' with
  |some p,some q=>(p == q)&&(decide (-1<=p)&&(decide (p<NP)&&Q0q N NP Li (bif decide (p<0)then k+1 else k+2) (r'::t)))
  |_,_=>false
 |k,_=>Nat.ble k 5
def QdR(N NP:Nat)(Li s:LL):Bool:=Qhz N Li s&&Q0q N NP Li 0 s
def Q58(N NP:Nat)(Li:LL)(s u k c k' c':Nat):Bool:=
 (ups k c).all λx=>(ups k' c').all λy=>QdR N NP Li (KH s u x y true)&&QdR N NP Li (KH s u x y false)
theorem QiA{c0 c1 a:Nat}(b:c0=1\/c0=2)(c:c1=1\/c1=2)(h2:a=1\/a=2):Q58 (c0+c1+a) (pt2 c0 c1).length (li2 c0 c1 a) (c0+c1) a 0 c0 c0 c1=true:=by
 rcases b with rfl | rfl<;>rcases c with rfl | rfl<;>rcases h2 with rfl | rfl<;>kernel_rfl
theorem Qib{c0 c1 a b c:Nat}(d:c0=1\/c0=2)(e:c1=1\/c1=2)(h2:a=1\/a=2)(f:b=1\/b=2)(g:c=1\/c=2) :
  (Q58 (c0+c1+a+b+c) (pt3 c0 c1 a).length (li3 c0 c1 a b c) (c0+c1+a) b 0 c0 c0 c1&&Q58 (c0+c1+a+b+c) (pt3 c0 c1 a).length (li3 c0 c1 a b c) (c0+c1+a+b) c c0 c1 (c0+c1) a)=true:=by
 rcases d with rfl | rfl<;>rcases e with rfl | rfl<;>rcases h2 with rfl | rfl<;>rcases f with rfl | rfl<;>rcases g with rfl | rfl<;>kernel_rfl
theorem Qdw{St Pt Se Li:LL}(aa:Py 400 St Pt Se Li=true){x d y e:Int}(a:0<=x)(b:x<Se.length)(hd:d=0\/d=1):Zw 400 St Pt Se Li x d y e (some:Int->oP Int)=Qfk Li [Ql x,Ql d] [Ql y,Ql e]:=by
 have hc:ZA 400 St Pt Se Li (some:Int->oP Int)=some 0:=by grind[ZA]
 have hh:Mu 400 St Pt Se Li x d (some:Bool->oP Bool)=some true:=by
  grind[Mu,Qh,decide]
 simp_all [Zw,LM,Qfk,Qh]
structure Geo where
 N:Nat
 St:LL
 Pt:LL
 Se:LL
 Li:LL
 Tr:LL
 Bt:LL
 k:Nat->Nat
 c:Nat->Nat
 s:Nat->Nat
 u:Nat->Nat
structure Geo.OK(G:Geo):Prop where
 hN:G.N=2\/G.N=3
 st:G.St.length=G.N
 lay:Py 400 G.St G.Pt G.Se G.Li=true
 ref:Qbd G.St G.Pt G.Se G.Li=true
 trl:G.Tr.length=G.N
 tr:∀i,i<G.N->G.Tr[i]? = some [D.sl 1 (Wa (ups (G.k i) (G.c i)))]
 ct:∀i,i<G.N->G.c i=1\/G.c i=2
 k6:∀i,i<G.N->G.k i+G.c i<=6
 btl:G.Bt.length+1=G.N
 bt:∀g,g+1<G.N->G.Bt[g]? = some [D.sl 1 (Wa (ups (G.s g) (G.u g)))]
 ut:∀g,g+1<G.N->G.u g=1\/G.u g=2
 sec:∀i,i<G.N->∀x,x<G.c i->∃nm a b d,Qi G.Se ((G.k i+x:Nat):Int)=some [D.str nm,Ql a,Ql b,Ql d,Ql i]/\SecN a b d
 gap:∀g,g+1<G.N->∀x,x<G.u g->∃nm a b d e,Qi G.Se ((G.s g+x:Nat):Int)=some [D.str nm,Ql a,Ql b,Ql d,Ql e]/\SecN a b d
 rts:∀g,g+1<G.N->Qd2 G.Se.length G.Li (G.s g) (G.u g) (G.k g) (G.c g) (G.k (g+1)) (G.c (g+1))=true
 rt6:∀g,g+1<G.N->Q58 G.Se.length G.Pt.length G.Li (G.s g) (G.u g) (G.k g) (G.c g) (G.k (g+1)) (G.c (g+1))=true
theorem Q6R{f:Nat->Nu->List D}:∀{c:Nat} {x:List Nu} {i:Nat},KZ x->x.length=c->i<c->∃j y,(YI f c x)[i]? = some (f j y)/\Num y.1 y.2.1 y.2.2
 |c+1,a::x,0,h,_,_=>⟨c+1,a,rfl,h.1⟩
 |c+1,a::x,i+1,h,e,hi=>by
  obtain⟨j,y,b,h2⟩:=Q6R (f:=f) h.2 (by simpa using e) (show i<c by omega);exact⟨j,y,by simpa[YI]using b,h2⟩
theorem QcM{f:Nat->Nu->List D}{A B:LL}{c k i:Nat}{x:List Nu}(hA:A.length=k)(h:KZ x)(e:x.length=c)(hi:i<c):∃j y,Qi ((A++YI f c x)++B) ((k+i:Nat):Int)=some (f j y)/\Num y.1 y.2.1 y.2.2:=by
 obtain⟨j,y,a,h2⟩:=Q6R (f:=f) h e hi
 grind[Qi]
theorem Qhu{A B L:LL}{c k i x:Nat}{X:List Nu}(hL:L=(A++YI (secT i) c X)++B)(hA:A.length=k)(h:KZ X)(e:X.length=c)(hi:x<c) :
  ∃nm a b d,Qi L ((k+x:Nat):Int)=some [D.str nm,Ql a,Ql b,Ql d,Ql i]/\SecN a b d:=by
 subst hL;obtain⟨j,y,g,h2⟩:=QcM (f:=secT i) (B:=B) hA h e hi;exact⟨_,_,_,_,g,by have:=h2.a0;omega,by have:=h2.a1;omega,h2.b0,h2.b1,h2.c0,h2.c1⟩
theorem QiF{A B L:LL}{c k i x:Nat}{X:List Nu}(hL:L=(A++YI (secL i) c X)++B)(hA:A.length=k)(h:KZ X)(e:X.length=c)(hi:x<c) :
  ∃nm a b d e,Qi L ((k+x:Nat):Int)=some [D.str nm,Ql a,Ql b,Ql d,Ql e]/\SecN a b d:=by
 subst hL;obtain⟨j,y,g,h2⟩:=QcM (f:=secL i) (B:=B) hA h e hi;exact⟨_,_,_,_,_,g,h2.a0,by have:=h2.a1;omega,h2.b0,h2.b1,h2.c0,h2.c1⟩
def QfK(c0 c1 a:Nat)(b d e:List Nu):Geo where
 N:=2
 St:=[nmS 0,nmS 1]
 Pt:=pt2 c0 c1
 Se:=se2 c0 c1 a b d e
 Li:=li2 c0 c1 a
 Tr:=[[D.sl 1 (Wa (ups 0 c0))],[D.sl 1 (Wa (ups c0 c1))]]
 Bt:=[[D.sl 1 (Wa (ups (c0+c1) a))]]
 k:=λ| 0=>0 | _=>c0
 c:=λ| 0=>c0 | _=>c1
 s:=λ_=>c0+c1
 u:=λ_=>a
theorem Qeb{c0 c1 a:Nat}{b c d:List Nu}(f:c0=1\/c0=2)(h:c1=1\/c1=2)(h2:a=1\/a=2)(n0:KZ b)(n1:KZ c)(n2:KZ d)(e:b.length=c0)(e1:c.length=c1)(e2:d.length=a):(QfK c0 c1 a b c d).OK where
 hN:=.inl rfl
 st:=rfl
 lay:=Qk2 f h h2 n0 n1 n2 e e1 e2
 ref:=Qks f h h2 n0 n1 n2 e e1 e2
 trl:=rfl
 tr:=λi hi=>match i,hi with
  |0,_=>rfl
  |1,_=>rfl
 ct:=λi hi=>match i,hi with
  |0,_=>f
  |1,_=>h
 k6:=λi hi=>match i,hi with
  |0,_=>by show 0+c0<=6;omega
  |1,_=>by show c0+c1<=6;omega
 btl:=rfl
 bt:=λg hg=>match g,hg with
  |0,_=>rfl
 ut:=λg _=>h2
 sec:=λi hi=>match i,hi with
  |0,_=>λx hx=>Qhu (A:=[]) (i:=0) (B:=YI (secT 1) c1 c++YI (secL 0) a d) (by simp[QfK,se2]) rfl n0 e hx
  |1,_=>λx hx=>Qhu (A:=YI (secT 0) c0 b) (i:=1) (B:=YI (secL 0) a d) rfl (Xw e) n1 e1 hx
 gap:=λg hg x hx=>QiF (A:=YI (secT 0) c0 b++YI (secT 1) c1 c) (i:=0) (B:=[]) (by simp[QfK,se2]) (by grind[QfK,Xw]) n2 e2 hx
 rts:=λg hg=>match g,hg with
  |0,_=>by
   have hl:(se2 c0 c1 a b c d).length=c0+c1+a:=by grind[se2,Xw]
   show Qd2 (se2 c0 c1 a b c d).length (li2 c0 c1 a) (c0+c1) a 0 c0 c0 c1=true
   grind[Qkb]
 rt6:=λg hg=>match g,hg with
  |0,_=>by
   have hl:(se2 c0 c1 a b c d).length=c0+c1+a:=by simp[se2,Xw e,Xw e1,Xw e2];omega
   show Q58 (se2 c0 c1 a b c d).length (pt2 c0 c1).length (li2 c0 c1 a) (c0+c1) a 0 c0 c0 c1=true
   grind[QiA]
def Qbe(c0 c1 a b d:Nat)(e f g h i:List Nu):Geo where
 N:=3
 St:=[nmS 0,nmS 1,nmS 2]
 Pt:=pt3 c0 c1 a
 Se:=se3 c0 c1 a b d e f g h i
 Li:=li3 c0 c1 a b d
 Tr:=[[D.sl 1 (Wa (ups 0 c0))],[D.sl 1 (Wa (ups c0 c1))],[D.sl 1 (Wa (ups (c0+c1) a))]]
 Bt:=[[D.sl 1 (Wa (ups (c0+c1+a) b))],[D.sl 1 (Wa (ups (c0+c1+a+b) d))]]
 k:=λ| 0=>0 | 1=>c0 | _=>c0+c1
 c:=λ| 0=>c0 | 1=>c1 | _=>a
 s:=λ| 0=>c0+c1+a | _=>c0+c1+a+b
 u:=λ| 0=>b | _=>d
theorem Qfa{c0 c1 a b c:Nat}{d e f h j:List Nu}(l:c0=1\/c0=2)(m:c1=1\/c1=2)(h2:a=1\/a=2)(n:b=1\/b=2)(o:c=1\/c=2)(n0:KZ d)(n1:KZ e)(n2:KZ f)(s:KZ h)(t:KZ j)(p:d.length=c0)(e1:e.length=c1)(e2:f.length=a)(q:h.length=b)(r:j.length=c):(Qbe c0 c1 a b c d e f h j).OK where
 hN:=.inr rfl
 st:=rfl
 lay:=Qkp l m h2 n o n0 n1 n2 s t p e1 e2 q r
 ref:=Qki l m h2 n o n0 n1 n2 s t p e1 e2 q r
 trl:=rfl
 tr:=λi hi=>match i,hi with
  |0,_=>rfl
  |1,_=>rfl
  |2,_=>rfl
 ct:=λi hi=>match i,hi with
  |0,_=>l
  |1,_=>m
  |2,_=>h2
 k6:=λi hi=>match i,hi with
  |0,_=>by show 0+c0<=6;omega
  |1,_=>by show c0+c1<=6;omega
  |2,_=>by show c0+c1+a<=6;omega
 btl:=rfl
 bt:=λg hg=>match g,hg with
  |0,_=>rfl
  |1,_=>rfl
 ut:=λg hg=>match g,hg with
  |0,_=>n
  |1,_=>o
 sec:=λi hi=>match i,hi with
  |0,_=>λx hx=>Qhu (A:=[]) (i:=0) (B:=YI (secT 1) c1 e++(YI (secT 2) a f++(YI (secL 0) b h++YI (secL 1) c j))) (by simp[Qbe,se3]) rfl n0 p hx
  |1,_=>λx hx=>Qhu (A:=YI (secT 0) c0 d) (i:=1) (B:=YI (secT 2) a f++(YI (secL 0) b h++YI (secL 1) c j)) (by simp[Qbe,se3]) (Xw p) n1 e1 hx
  |2,_=>λx hx=>Qhu (A:=YI (secT 0) c0 d++YI (secT 1) c1 e) (i:=2) (B:=YI (secL 0) b h++YI (secL 1) c j) (by simp[Qbe,se3]) (by grind[Qbe,Xw]) n2 e2 hx
 gap:=λg hg=>match g,hg with
  |0,_=>λx hx=>QiF (A:=YI (secT 0) c0 d++YI (secT 1) c1 e++YI (secT 2) a f) (i:=0) (B:=YI (secL 1) c j) (by simp[Qbe,se3]) (by grind[Qbe,Xw]) s q hx
  |1,_=>λx hx=>QiF (A:=YI (secT 0) c0 d++YI (secT 1) c1 e++YI (secT 2) a f++YI (secL 0) b h) (i:=1) (B:=[]) (by simp[Qbe,se3]) (by grind[Qbe,Xw]) t r hx
 rts:=λg hg=>by
  have hl:(se3 c0 c1 a b c d e f h j).length=c0+c1+a+b+c:=by grind[se3,Xw]
  have k:=Qkh l m h2 n o;simp only[Qqy]at k
  match g,hg with
  |0,_=>
   show Qd2 (se3 c0 c1 a b c d e f h j).length (li3 c0 c1 a b c) (c0+c1+a) b 0 c0 c0 c1=true
   simp_all
  |1,_=>
   show Qd2 (se3 c0 c1 a b c d e f h j).length (li3 c0 c1 a b c) (c0+c1+a+b) c c0 c1 (c0+c1) a=true;rw[hl];exact k.2
 rt6:=λg hg=>by
  have hl:(se3 c0 c1 a b c d e f h j).length=c0+c1+a+b+c:=by simp[se3,Xw p,Xw e1,Xw e2,Xw q,Xw r];omega
  have k:=Qib l m h2 n o;simp only[Qqy]at k
  match g,hg with
  |0,_=>
   show Q58 (se3 c0 c1 a b c d e f h j).length (pt3 c0 c1 a).length (li3 c0 c1 a b c) (c0+c1+a) b 0 c0 c0 c1=true;rw[hl];exact k.1
  |1,_=>
   show Q58 (se3 c0 c1 a b c d e f h j).length (pt3 c0 c1 a).length (li3 c0 c1 a b c) (c0+c1+a+b) c c0 c1 (c0+c1) a=true;rw[hl];exact k.2
theorem Qk6{R:Type}{l:List Int}(hl:l.length<=9223372036854775807){P:R->Prop}{i:Nat}(hi:i<=l.length){K:LL->LL->LL->LL->LL->LL->LL->Int->oP R}(H:∀(G:Geo) (j:Nat),G.OK->j<=l.length->K G.St G.Pt G.Se G.Li G.Tr G.Bt [] (j:Int)∈P):Q2W 400 (encI l) (i:Int) K∈P:=by
 refine Vw hl hi Q1 Q1 λv j f g hj=>?_
 rcases two f g with rfl | rfl
 ·exact Qit hl (m:=397) hj λc0 c1 a b c d j a0 a1 a2 n0 n1 n2 e e1 e2 hj=>H (QfK c0 c1 a b c d) j (Qeb a0 a1 a2 n0 n1 n2 e e1 e2) hj
 ·exact Qiw hl (m:=396) hj λc0 c1 h a k b c n d o j a0 a1 a2 p q n0 n1 n2 r s e e1 e2 t u hj=>H (Qbe c0 c1 h a k b c n d o) j (Qfa a0 a1 a2 p q n0 n1 n2 r s e e1 e2 t u) hj
section
variable{R:Type}
theorem Q1R{T:LL}{g:Nat}{l:LL}(h:T[g]? = some [D.sl 1 l])(K:LL->oP R) :
  gb true (inB (List.length T) (g:Int)) () (λ_=>gb true (T[(Int.toNat (g:Int))]?) [] λa=>gb true (a[0]?) oF λc3=>gb true (pSl 1 c3) [] λb=>K b)=K l:=by
 have aa:g<T.length:=(Qqd.1 h).1;rw[XP Q0 Q0,Qh,Qq7,h];rfl
theorem QhX{k c a:Nat}(hc:c=1\/c=2)(ha:a<2)(K:Int->oP R) :
  gb true (nz ((List.length (Wa (ups k c)):Nat):Int)) () (λ_=>gb true (Qi (Wa (ups k c)) (Int.tmod (a:Int) ((List.length (Wa (ups k c)):Nat):Int))) [] λb=>gb true (b[0]?) oF λd=>gb true (pIw d) 0 λe=>K e)=K ((k+a % c:Nat):Int):=by
 obtain rfl | rfl:a=0\/a=1:=Q0
 ·rcases hc with rfl | rfl<;>rfl
 ·rcases hc with rfl | rfl
  ·rw[show k+1 % 1=k from rfl,show List.length (Wa (ups k 1))=1 from rfl,show Int.tmod ((1:Nat):Int) ((1:Nat):Int)=0 by decide];rfl
  ·rfl
theorem Qca{s u:Nat}{x:Int}(hu:u=1\/u=2){k0:Int->Bool->LL->oP R} :
  ZJ 400 (Wa (ups s u)) ((List.length (Wa (ups s u)):Nat):Int) k0 400 (0:Int) [[D.int .i64 x,D.int .i64 (0:Int)]]
   = k0 (u:Int) false ([Ql x,Ql 0]::((ups s u).map λk=>[Ql (k:Nat),Ql 0])):=by
 rcases hu with rfl | rfl<;>rfl
theorem Qcc{s u:Nat}{x:Int}(hu:u=1\/u=2){k0:Int->Bool->LL->oP R} :
  ZQ 400 (Wa (ups s u)) k0 400 (wJ (((List.length (Wa (ups s u)):Nat):Int)-(1:Int))) [[D.int .i64 x,D.int .i64 (1:Int)]]
   = k0 (-1) false ([Ql x,Ql 1]::((ups s u).reverse.map λk=>[Ql (k:Nat),Ql 1])):=by
 rcases hu with rfl | rfl<;>rfl
theorem Q9U{Tr Bt:LL}{g k c k' c' s u a b:Nat}{up:Bool}(hg:g<8)(hT:Tr[g]? = some [D.sl 1 (Wa (ups k c))])(aa:Tr[g+1]? = some [D.sl 1 (Wa (ups k' c'))])(hB:Bt[g]? = some [D.sl 1 (Wa (ups s u))])(hc:c=1\/c=2)(ac:c'=1\/c'=2)(hu:u=1\/u=2)(ha:a<2)(hb:b<2)(K:LL->Int->oP R) :
  YG 400 Tr Bt (g:Int) (a:Int) (b:Int) up K=K (KH s u (k+a % c) (k'+b % c') up) 0:=by
 have ai:wJ ((g:Int)+1)=((g+1:Nat):Int):=by grind[Qo]
 have hl:(ups s u).length=u:=by rcases hu with rfl | rfl<;>rfl
 have d:u<=2:=Q0
 unfold YG;rw[Q1R hB];cases up
 ·rw[Qp rfl];rw[ai,Q1R aa,Q1R aa,QhX ac hb,XI Q2,Qh];rw[Qcc hu,Q1R hT,Q1R hT,QhX hc ha,XI (by simp[hl];omega),Qh];rfl
 ·rw[Xh rfl,Q1R hT,Q1R hT,QhX hc ha,XI Q2,Qh];rw[Qca hu,ai,Q1R aa,Q1R aa,QhX ac hb,XI (by simp[hl];omega),Qh];rfl
end
def Sta(G:Geo)(x:Int):Prop:=∃nm a b d i,Qi G.Se x=some [D.str nm,Ql a,Ql b,Ql d,Ql i]/\0<=i/\x<6/\2<=a
structure RtOK(G:Geo)(s:LL)(x y:Int):Prop where
 l2:2<=s.length
 l24:s.length<=24
 rt:rtB G.Se.length G.Li s=true
 rt6:Qhz G.Se.length G.Li s=true
 hops:Q0q G.Se.length G.Pt.length G.Li 0 s=true
 shp:∃g x y up,g+1<G.N/\s=KH (G.s g) (G.u g) x y up/\x∈ups (G.k g) (G.c g)/\y∈ups (G.k (g+1)) (G.c (g+1))
 st:∀r∈s,Dc G.Se r
 sx:Sta G x
 sy:Sta G y
 fst:∃d,Qi s 0=some [Ql x,Ql d]
 lst:∃d,Qi s ((s.length:Int)-1)=some [Ql y,Ql d]
def Geo.tk(G:Geo)(i a:Nat):Int:=((G.k i+a % G.c i:Nat):Int)
theorem Q5Z{x:Nat}:∀{s u:Nat},x∈ups s u->∃j,j<u/\x=s+j
 |s,0,h=>by simp[ups]at h
 |s,u+1,h=>by
  simp only[ups,List.mem_cons]at h;rcases h with rfl | h
  ·exact⟨0,Q0,rfl⟩
  ·obtain⟨j,a,h2⟩:=Q5Z h;exact⟨j+1,Q0,Q0⟩
theorem EF{c a k:Nat}(hc:c=1\/c=2):(k+a % c)∈ups k c:=by
 rcases hc with rfl | rfl
 ·simp[ups,Nat.mod_one]
 grind[Nat.mod_lt,ups]
theorem Geo.OK.trk{G:Geo}(hG:G.OK){i a:Nat}(hi:i<G.N):(∃nm x b d,Qi G.Se (G.tk i a)=some [D.str nm,Ql x,Ql b,Ql d,Ql i]/\SecN x b d):=
 hG.sec i hi (a % G.c i) (Nat.mod_lt _ (by rcases hG.ct i hi with h | h<;>omega))
theorem Q5y{P:List D->Prop}{s u x y:Nat}{up:Bool}(hx:∀d,(d=0\/d=1)->P [Ql x,Ql d])(hy:∀d,(d=0\/d=1)->P [Ql y,Ql d])(hs:∀j,j<u->∀d,(d=0\/d=1)->P [Ql ((s+j:Nat):Int),Ql d]):∀r∈KH s u x y up,P r:=by
 intro r hr;unfold KH at hr;cases up
 ·simp only[Qq8,List.cons_append,List.mem_cons,Qqs,List.mem_map,List.mem_reverse,List.not_mem_nil,or_false]at hr;rcases hr with rfl | ⟨k,hk,rfl⟩ | rfl
  ·simp_all
  ·obtain⟨j,a,rfl⟩:=Q5Z hk
   simp_all
  simp_all
 ·simp only[Qq9,List.cons_append,List.mem_cons,Qqs,List.mem_map,List.not_mem_nil,or_false]at hr;rcases hr with rfl | ⟨k,hk,rfl⟩ | rfl
  ·simp_all
  ·obtain⟨j,a,rfl⟩:=Q5Z hk
   simp_all
  simp_all
theorem Qh4{R:Type}{G:Geo}(hG:G.OK){g a b:Nat}{up:Bool}(hg:g+1<G.N)(ha:a<2)(hb:b<2) :
  ∃s,RtOK G s (bif up then G.tk g a else G.tk (g+1) b) (bif up then G.tk (g+1) b else G.tk g a)/\∀K:LL->Int->oP R,YG 400 G.Tr G.Bt (g:Int) (a:Int) (b:Int) up K=K s 0:=by
 have hN:=hG.hN;have hc:=hG.ct g Q0;have ao:=hG.ct (g+1) hg;have hu:=hG.ut g hg;obtain⟨n1,h,i,k,e1,c⟩:=hG.trk (a:=a) (show g<G.N by omega);obtain⟨n2,l,m,n,e2,e⟩:=hG.trk (a:=b) hg;have ac:=hG.rts g hg;unfold Qd2 at ac;have ac:=List.all_eq_true.1 (List.all_eq_true.1 ac _ (EF hc (a:=a))) _ (EF ao (a:=b));simp only[Qqy]at ac;have aa:=hG.rt6 g hg;unfold Q58 at aa;have aa:=List.all_eq_true.1 (List.all_eq_true.1 aa _ (EF hc (a:=a))) _ (EF ao (a:=b));simp only[QdR,Qqy]at aa;refine⟨KH (G.s g) (G.u g) (G.k g+a % G.c g) (G.k (g+1)+b % G.c (g+1)) up,?_,λK=>Q9U Q0 (hG.tr g Q0) (hG.tr (g+1) hg) (hG.bt g hg) hc ao hu ha hb K⟩;have an:∀r∈KH (G.s g) (G.u g) (G.k g+a % G.c g) (G.k (g+1)+b % G.c (g+1)) up,Dc G.Se r:=by
  refine Q5y (λd hd=>⟨_,_,_,_,_,_,_,rfl,e1,c,hd⟩) (λd hd=>⟨_,_,_,_,_,_,_,rfl,e2,e,hd⟩) λj hj d hd=>?_
  obtain⟨o,p,q,t,w3,f,g1⟩:=hG.gap g hg j hj;exact⟨_,_,_,_,_,_,_,rfl,f,g1,hd⟩
 have ak:∃g' x y aq,g'+1<G.N/\KH (G.s g) (G.u g) (G.k g+a % G.c g) (G.k (g+1)+b % G.c (g+1)) up=KH (G.s g') (G.u g') x y aq/\x∈ups (G.k g') (G.c g')/\y∈ups (G.k (g'+1)) (G.c (g'+1)):=
  ⟨g,_,_,up,hg,rfl,EF hc,EF ao⟩
 have v:=hG.k6 g Q0;have z:=hG.k6 (g+1) hg;have r1:=Nat.mod_lt a (show 0<G.c g by omega);have r2:=Nat.mod_lt b (show 0<G.c (g+1) by omega);have s1:Sta G (G.tk g a):=⟨_,_,_,_,_,e1,Q0,by unfold Geo.tk;omega,c.a0⟩;have s2:Sta G (G.tk (g+1) b):=⟨_,_,_,_,_,e2,Q0,by unfold Geo.tk;omega,e.a0⟩;revert an ac aa ak;generalize G.s g=s;generalize G.u g=u at hu;intro ac aa an ak;have hl:(KH s u (G.k g+a % G.c g) (G.k (g+1)+b % G.c (g+1)) up).length=u+2:=by
  rcases hu with rfl | rfl<;>cases up<;>rfl
 cases up
 ·exact⟨Q0,Q0,ac.2,aa.2.1,aa.2.2,ak,an,s2,s1,by rcases hu with rfl | rfl<;>exact⟨1,rfl⟩,by rw[hl];rcases hu with rfl | rfl<;>exact⟨1,rfl⟩⟩
 ·exact⟨Q0,Q0,ac.1,aa.1.1,aa.1.2,ak,an,s1,s2,by rcases hu with rfl | rfl<;>exact⟨0,rfl⟩,by rw[hl];rcases hu with rfl | rfl<;>exact⟨0,rfl⟩⟩
def PA(G:Geo)(Ro:LL)(row:List D)(x y:Int)(last:Bool):Prop:=
 ∃(rt:Nat) (ex mn mx:Int) (s:LL),row=[Ql rt,Ql ex,Ql mn,Ql mx]/\Ro[rt]? = some [D.sl 2 s,Ql 0]/\RtOK G s x y/\(0<=ex/\ex<3)/\(0<=mn/\mn<=mx/\mx<=mn+3/\mn<=10)/\(last=true->mn=0/\mx=0)
def nmN(k:Nat):List UInt8:=bs [78]++[UInt8.ofNat (48+k)]
def Q3Y(G:Geo)(Ro:LL)(rides:LL):Prop:=
 (∃r x y,rides=[r]/\PA G Ro r x y true)\/(∃r r' x y z,rides=[r,r']/\PA G Ro r x y false/\PA G Ro r' y z true)
def Qbm(G:Geo)(Ro:LL)(k:Nat)(row:List D):Prop:=∃(w:Int) (rides:LL),row=[D.str (nmN k),Ql 0,Ql w,D.sl 4 rides]/\0<=w/\w<4/\Q3Y G Ro rides
structure GoodP(G:Geo)(Ro Ls:LL):Prop where
 ro:∀row∈Ro,∃s x y,row=[D.sl 2 s,Ql 0]/\RtOK G s x y
 ls:∀k row,Ls[k]? = some row->Qbm G Ro k row
theorem PA.mono{G:Geo}{Ro t:LL}{row:List D}{x y:Int}{b:Bool}(h:PA G Ro row x y b):PA G (Ro++t) row x y b:=by
 obtain⟨rt,ex,mn,mx,s,a,h2,c⟩:=h;refine⟨rt,ex,mn,mx,s,a,?_,c⟩
 grind
theorem Q3Y.mono{G:Geo}{Ro t rides:LL}(h:Q3Y G Ro rides):Q3Y G (Ro++t) rides:=by
 rcases h with⟨r,x,y,e,h⟩|⟨r,r',x,y,z,e,h,h'⟩
 ·exact .inl ⟨r,x,y,e,h.mono⟩
 ·exact .inr ⟨r,r',x,y,z,e,h.mono,h'.mono⟩
theorem Qbm.mono{G:Geo}{Ro t:LL}{k:Nat}{row:List D}(h:Qbm G Ro k row):Qbm G (Ro++t) k row:=by
 obtain⟨w,rides,a,h2,b,c⟩:=h;exact⟨w,rides,a,h2,b,c.mono⟩
section
variable{R:Type} {l:List Int} (hl:l.length<=9223372036854775807) {P:R->Prop}
include hl
def atL(At:Nat->Nat):LL:=[[Ql (At 0)],[Ql (At 1)],[Ql (At 2)]]
theorem Qk8{i:Nat}(hi:i<=l.length){k0:Int->Bool->LL->Int->oP R}(H:∀(At:Nat->Nat) (j:Nat),(∀i,At i<2)->j<=l.length->k0 3 false (atL At) (j:Int)∈P) :
  Wd 400 (encI l) k0 400 (0:Int) [[D.int .i64 (0:Int)],[D.int .i64 (0:Int)],[D.int .i64 (0:Int)]] (i:Int)∈P:=by
 refine Vw hl hi Q1 Q1 λa j a0 b0 hj=>?_
 refine Vw hl hj Q1 Q1 λb j a1 b1 hj=>?_
 refine Vw hl hj Q1 Q1 λc j a2 b2 hj=>?_
 obtain⟨n0,rfl⟩:=Qqo a0;obtain⟨n1,rfl⟩:=Qqo a1;obtain⟨n2,rfl⟩:=Qqo a2;exact H (λ| 0=>n0 | 1=>n1 | _=>n2) j (λ| 0=>by grind | 1=>by grind | _+2=>by grind) hj
end
theorem atA{R:Type}{At:Nat->Nat}{g:Nat}(hg:g<3)(K:Int->oP R) :
  gb true (inB 3 (g:Int)) () (λ_=>gb true ((atL At)[(Int.toNat (g:Int))]?) [] λr=>gb true (r[0]?) oF λc=>gb true (pIw c) 0 λi=>K i)=K (At g):=by
 obtain rfl | rfl | rfl:g=0\/g=1\/g=2:=Q0
 all_goals rfl
section
variable{R:Type} {l:List Int} (hl:l.length<=9223372036854775807) {P:R->Prop} {G:Geo} (hG:G.OK)
include hl hG
theorem Qdv{up:Bool}{aa h g m:Nat}{acc Ro:LL}{At:Nat->Nat}(ai:∀i,At i<2)(hm:aa<=2)(hh:h<aa)(hg:g=bif up then h else aa-1-h)(hN:aa<G.N)(hR:Ro.length<=100)(ha:acc.length<=10){i:Nat}(hi:i<=l.length){k0:Int->Bool->LL->LL->Int->oP R}(H:∀(s:LL) (ex mn mx:Int) (j:Nat),RtOK G s (bif up then G.tk g (At g)else G.tk (g+1) (At (g+1))) (bif up then G.tk (g+1) (At (g+1))else G.tk g (At g))->0<=ex/\ex<3->(0<=mn/\mn<=mx/\mx<=mn+3/\mn<=10)->(h+1=aa->mn=0/\mx=0)->j<=l.length ->
   QS 400 up (aa:Int) (atL At) G.Tr G.Bt (encI l) k0 m ((h+1:Nat):Int) (acc++[[Ql (Ro.length:Nat),Ql ex,Ql mn,Ql mx]]) (Ro++[[D.sl 2 s,Ql 0]]) (j:Int)∈P) :
  QS 400 up (aa:Int) (atL At) G.Tr G.Bt (encI l) k0 (m+1) (h:Int) acc Ro (i:Int)∈P:=by
 have ao:=hG.hN;have ar:g<aa:=by
  rw[hg];cases up
  ·show aa-1-h<aa;omega
  ·exact hh
 have am:g+1<G.N:=Q0
 obtain⟨s,hs,e⟩:=Qh4 (R:=LL×Int) hG (up:=up) am (ai g) (ai (g+1));have d:wJ ((h:Int)+1)=((h+1:Nat):Int):=by rw[Qo Q0 Q0];omega
 have f:wJ ((g:Int)+1)=((g+1:Nat):Int):=by rw[Qo Q0 Q0];omega
 have k:up=false->wJ (wJ ((aa:Int)-1)-(h:Int))=(g:Int):=by
  intro hu;rw[Qo (x:=(aa:Int)-1) Q0 Q0,Qo Q0 Q0];simp[hu]at hg;omega
 have ac:wJ ((((Ro++[[D.sl 2 s,Ql 0]]).length:Nat):Int)-1)=(Ro.length:Int):=by
  rw[show(Ro++[[D.sl 2 s,Ql 0]]).length=Ro.length+1 by simp,Qo Q0 Q0];omega
 rw[QS,Xh Q3,d];cases up
 ·rw[Xh (c:=!false) rfl,k rfl,f,atA Q0,atA Q0,e,Qh,XI Q3,Qh];refine Vw hl hi Q1 Q1 λex j a b hj=>?_
  dsimp only;rw[ac];by_cases hlast:h+1<aa
  ·rw[Xh Q3];refine Vw hl hj Q1 Q1 λmn j n o hj=>?_
   refine Vw hl hj Q1 Q1 λmx j p q hj=>?_
   rw[XI Q3,Qh];dsimp only;rw[Qo (x:=5+mn) Q0 Q0,Qo (x:=5+mn+mx) Q0 Q0];exact H s ex (5+mn) (5+mn+mx) j hs ⟨a,b⟩ ⟨Q0,Q0,Q0,Q0⟩ (λhx=>absurd hx Q0) hj
  ·rw[Qp Q3,XI Q3,Qh];exact H s ex 0 0 j hs ⟨a,b⟩ ⟨Q0,Q0,Q0,Q0⟩ (λhx=>⟨rfl,rfl⟩) hj
 ·have an:g=h:=by simpa using hg
  subst an;rw[Qp (c:=!true) rfl,atA Q0,atA Q0,e,Qh,XI Q3,Qh];refine Vw hl hi Q1 Q1 λex j a b hj=>?_
  dsimp only;rw[ac];by_cases hlast:g+1<aa
  ·rw[Xh Q3];refine Vw hl hj Q1 Q1 λmn j n o hj=>?_
   refine Vw hl hj Q1 Q1 λmx j p q hj=>?_
   rw[XI Q3,Qh];dsimp only;rw[Qo (x:=5+mn) Q0 Q0,Qo (x:=5+mn+mx) Q0 Q0];exact H s ex (5+mn) (5+mn+mx) j hs ⟨a,b⟩ ⟨Q0,Q0,Q0,Q0⟩ (λhx=>absurd hx Q0) hj
  ·rw[Qp Q3,XI Q3,Qh];exact H s ex 0 0 j hs ⟨a,b⟩ ⟨Q0,Q0,Q0,Q0⟩ (λhx=>⟨rfl,rfl⟩) hj
omit hl hG in
theorem Q7t{n m:Nat}{f:Bool}{b a:Int}{g i j k c d:LL}{e:Int}{k0:Int->Bool->LL->LL->Int->oP R}(h:¬ a<b) :
  QS n f b g i j k k0 (m+1) a c d e=k0 a false c d e:=by
 rw[QS,Qp (by simpa using h)];simp[h]
theorem QiB{up:Bool}{ai:Nat}{Ro Ls:LL}(hm:ai=1\/ai=2)(hN:ai<G.N)(aa:GoodP G Ro Ls)(hR:Ro.length<=20)(hL:Ls.length<6){i:Nat}(hi:i<=l.length){K:Int->LL->LL->oP R}(H:∀(Ro' Ls':LL) (j:Nat),GoodP G Ro' Ls'->Ls'.length=Ls.length+1->Ro'.length<=Ro.length+2->j<=l.length->K (j:Int) Ro' Ls'∈P) :
  UN 400 G.Tr G.Bt (encI l) (i:Int) Ro Ls up (ai:Int) K∈P:=by
 unfold UN;rw[Bx _ _ Ls.length Q0 Q1,Qh];refine Vw hl hi Q1 Q1 λw j w0 c hj=>?_
 dsimp only;refine Qk8 hl hj λAt j ao hj=>?_
 rcases hm with rfl | rfl
 ·refine Qdv hl hG (h:=0) (g:=0) ao Q1 Q1 Q4 hN Q0 Q1 hj λs ex mn mx j hs an am hlast hj=>?_
  rw[Q7t Q1];rw[XI Q3,Qh];refine H _ _ j ⟨λrow hr=>?_,λk row hk=>?_⟩ Q2 Q2 hj
  ·rcases Qqs.1 hr with hr | hr
   ·exact aa.ro row hr
   grind
  ·rcases Nat.lt_or_ge k Ls.length with ac | ac
   ·rw[Qqp ac]at hk;exact(aa.ls k row hk).mono
   ·rw[Qqn ac]at hk;obtain⟨a,rfl⟩:=Qqd.1 hk;simp at a;have b:k=Ls.length:=Q0
    subst b;refine⟨w,_,by simp[nmN],w0,c,.inl ⟨_,_,_,rfl,Ro.length,ex,mn,mx,s,rfl,by simp,hs,an,am,λ_=>hlast rfl⟩⟩
 ·obtain⟨g0,d⟩:∃g0,g0=bif up then 0 else 1:=⟨_,rfl⟩
  obtain⟨g1,e⟩:∃g1,g1=bif up then 1 else 0:=⟨_,rfl⟩
  refine Qdv hl hG (h:=0) (g:=g0) ao Q1 Q1 (by cases up<;>simpa using d) hN Q0 Q1 hj λs ex mn mx j hs an am hlast hj=>?_
  refine Qdv hl hG (h:=1) (g:=g1) ao Q1 Q1 (by cases up<;>simpa using e) hN Q3 Q2 hj λs' ay az a2 j ar aw aq ak hj=>?_
  have ax:(bif up then G.tk (g0+1) (At (g0+1))else G.tk g0 (At g0))=(bif up then G.tk g1 (At g1)else G.tk (g1+1) (At (g1+1))):=by
   subst d e;cases up<;>rfl
  rw[ax]at hs;rw[Q7t Q1];rw[XI Q3,Qh];refine H _ _ j ⟨λrow hr=>?_,λk row hk=>?_⟩ Q2 Q2 hj
  ·rcases Qqs.1 hr with hr | hr
   ·rcases Qqs.1 hr with hr | hr
    ·exact aa.ro row hr
    ·rw[List.mem_singleton.1 hr];exact⟨s,_,_,rfl,hs⟩
   ·rw[List.mem_singleton.1 hr];exact⟨s',_,_,rfl,ar⟩
  ·rcases Nat.lt_or_ge k Ls.length with ac | ac
   ·rw[Qqp ac]at hk;exact(aa.ls k row hk).mono.mono
   ·rw[Qqn ac]at hk;obtain⟨a,rfl⟩:=Qqd.1 hk;simp at a;have b:k=Ls.length:=Q0
    subst b;refine⟨w,_,by simp[nmN],w0,c,.inr ⟨_,_,_,_,_,rfl,PA.mono ⟨Ro.length,ex,mn,mx,s,rfl,by simp,hs,an,am,λh=>by cases h⟩,(Ro++[[D.sl 2 s,Ql 0]]).length,ay,az,a2,s',rfl,by simp,ar,aw,aq,λ_=>ak rfl⟩⟩
end
def Ti(Ls:LL)(k i:Nat)(r:List D):Prop:=∃nm w rides,Ls[k]? = some [D.str nm,Ql 0,Ql w,D.sl 4 rides]/\rides[i]? = some r
theorem Qt(w:LL)(i:Nat):Qi w (i:Int)=w[i]?:=by simp[Qi]
section
variable{R:Type} {n:Nat}
theorem QcR{G:Geo}{Ro Ls:LL}{k i:Nat}{r:List D}{x y:Int}{b:Bool}(h:Ti Ls k i r)(hr:PA G Ro r x y b){p:Int}{a1 a c e f:LL}(K:Int->oP R):S7 n p a1 Ro Ls a c e f (k:Int) (i:Int) K=K x:=by
 obtain⟨nm,w,rides,j,h2⟩:=h;obtain⟨rt,ex,mn,mx,s,rfl,l,g,_⟩:=hr;obtain⟨d,h5⟩:=g.fst
 simp_all [S7,Qt,Qh,Qq5,Qq6,X4,Qj]
theorem QfU{G:Geo}{Ro Ls:LL}{k i:Nat}{r:List D}{x y:Int}{b:Bool}(h:Ti Ls k i r)(hr:PA G Ro r x y b){p:Int}{a1 c e f g:LL}(K:Int->oP R):Me n p a1 Ro Ls c e f g (k:Int) (i:Int) K=K y:=by
 obtain⟨nm,w,rides,j,h2⟩:=h;obtain⟨rt,ex,mn,mx,s,rfl,l,a,_⟩:=hr;obtain⟨d,h5⟩:=a.lst;have l2:=a.l2;have l24:=a.l24;unfold Me;rw[Qt,j,Qh];dsimp only[List.getElem?_cons_zero,List.getElem?_cons_succ];rw[Qh,X4,Qh,Qt,h2,Qh];dsimp only[List.getElem?_cons_zero,List.getElem?_cons_succ];rw[Qh,Qj,Qh,Qt,l,Qh];dsimp only[List.getElem?_cons_zero,List.getElem?_cons_succ];rw[Qh,Qh,X4,Qh,Qh,Qo Q0 Q0,h5];rfl
end
theorem Q6V{G:Geo}{Ro Ls:LL}(hg:GoodP G Ro Ls){k:Nat}(hk:k<Ls.length) :
  ∃(w:Int) (rides:LL) (r r':List D) (x x' y y':Int) (b:Bool),Ls[k]? = some [D.str (nmN k),Ql 0,Ql w,D.sl 4 rides]/\(rides.length=1\/rides.length=2)/\rides[0]? = some r/\rides[rides.length-1]? = some r'/\PA G Ro r x y b/\PA G Ro r' x' y' true:=by
 obtain⟨w,rides,c,h2,d,a⟩:=hg.ls k _ (Qqa hk);refine⟨w,rides,?_⟩;rcases a with⟨r,x,y,rfl,h⟩|⟨r,r',x,y,z,rfl,h,h'⟩
 all_goals grind
abbrev Tup:=Nat×Nat×Int×Int
def tuR(t:Tup):List D:=[Ql t.1,Ql t.2.1,Ql t.2.2.1,Ql t.2.2.2]
def Qao(G:Geo)(Ro Ls:LL)(t:Tup):Prop:=
 t.1<Ls.length/\t.2.1<Ls.length/\10<=t.2.2.1/\t.2.2.1<=19/\t.2.2.1<=t.2.2.2/\t.2.2.2<=t.2.2.1+29 /\
 ∃(nm:List UInt8) (w:Int) (rides:LL) (r r':List D) (x y z:Int) (b b':Bool),Ls[t.1]? = some [D.str nm,Ql 0,Ql w,D.sl 4 rides]/\rides[rides.length-1]? = some r/\1<=rides.length/\rides.length<=2/\Ti Ls t.2.1 0 r'/\PA G Ro r x y b/\PA G Ro r' y z b'
structure TInv(G:Geo)(Ro Ls:LL)(T:List Tup)(FA TA:LL):Prop where
 ok:∀t∈T,Qao G Ro Ls t
 fd:(T.map (·.1)).Nodup
 td:(T.map (·.2.1)).Nodup
 fl:∀i,i<4->∃b,FA[i]? = some [D.bool b]/\(b=false->i ∉ T.map (·.1))
 tl:∀i,i<4->∃b,TA[i]? = some [D.bool b]/\(b=false->i ∉ T.map (·.2.1))
theorem gbF{α R:Type}(p:oP α)(z:α)(k:α->oP R):gb false p z k=k (p.getD z):=by cases p<;>rfl
theorem TInv.add{G:Geo}{Ro Ls:LL}{T:List Tup}{FA TA:LL}(h:TInv G Ro Ls T FA TA){t:Tup}(ht:Qao G Ro Ls t)(d:t.1 ∉ T.map (·.1))(h2:t.2.1 ∉ T.map (·.2.1)):TInv G Ro Ls (T++[t]) (FA.set t.1 [D.bool true]) (TA.set t.2.1 [D.bool true]) where
 ok:=λu hu=>by
  rcases Qqs.1 hu with hu | hu
  ·exact h.ok u hu
  simp_all
 fd:=by
  rw[Qqx,List.nodup_append];refine⟨h.fd,by simp,λa ha b hb=>?_⟩
  grind
 td:=by
  rw[Qqx,List.nodup_append];refine⟨h.td,by simp,λa ha b hb=>?_⟩;simp at hb;subst hb;intro e;subst e;exact h2 ha
 fl:=λi hi=>by
  obtain⟨b,e,hb⟩:=h.fl i hi;by_cases aa:t.1=i
  ·subst aa;refine⟨true,?_,λh=>by cases h⟩;rw[List.getElem?_set_self (Qqd.1 e).1]
  ·refine⟨b,by rw[List.getElem?_set_ne aa];exact e,λc hm=>?_⟩;rw[Qqx]at hm;rcases Qqs.1 hm with hm | hm
   ·exact hb c hm
   ·simp at hm;exact aa hm.symm
 tl:=λi hi=>by
  obtain⟨b,e,hb⟩:=h.tl i hi;by_cases aa:t.2.1=i
  ·subst aa;refine⟨true,?_,λh=>by cases h⟩;rw[List.getElem?_set_self (Qqd.1 e).1]
  ·refine⟨b,by rw[List.getElem?_set_ne aa];exact e,λc hm=>?_⟩;rw[Qqx]at hm;rcases Qqs.1 hm with hm | hm
   ·exact hb c hm
   ·simp at hm;exact aa hm.symm
section
variable{R:Type} {l:List Int} (hl:l.length<=9223372036854775807) {P:R->Prop} {G:Geo} {Ro Ls:LL} (hg:GoodP G Ro Ls) (hL:Ls.length<=3)
include hl hg hL
theorem Qhv{a b m:Nat}{b1:Int}{FA TA c d e f:LL}{T:List Tup}(ha:a<Ls.length)(hb:b<Ls.length)(hT:TInv G Ro Ls T FA TA)(a4:T.length<=100){i:Nat}(hi:i<=l.length){k0:Int->Bool->LL->LL->LL->Int->oP R}(H:∀(FA TA:LL) (T':List Tup) (j:Nat),TInv G Ro Ls T' FA TA->T'.length<=T.length+1->j<=l.length->YA 400 (a:Int) (Ls.length:Int) c Ro Ls d e f (encI l) b1 k0 m ((b+1:Nat):Int) FA TA (T'.map tuR) (j:Int)∈P) :
  YA 400 (a:Int) (Ls.length:Int) c Ro Ls d e f (encI l) b1 k0 (m+1) (b:Int) FA TA (T.map tuR) (i:Int)∈P:=by
 have aw:wJ ((b:Int)+1)=((b+1:Nat):Int):=by rw[Qo Q0 Q0];omega
 rw[YA,Xh Q3,aw];refine Vw hl hi Q1 Q1 λv j s u hj=>?_
 dsimp only;have aa:=H FA TA T j hT Q0 hj;by_cases hv:v=0
 ·subst hv;rw[show decide ((0:Int)>0)=false from rfl];simp only[gbF,Qq8];exact aa
 rw[show decide (v>0)=true by simp;omega];obtain⟨fb,ef,hf⟩:=hT.fl a Q0;obtain⟨tb,et,ht⟩:=hT.tl b Q0;rw[XP Q0 Q0,Qh,Qq7,ef,Qh];show gb true (some (D.bool fb)) _ (λn=>gb true (PB n) _ _)∈P;rw[Qh,show PB (D.bool fb)=some fb from rfl,Qh];cases fb
 case true=>
  simp only[gbF,Qqc,Qq8,Qq9];exact aa
 rw[show(bif true then !false else false)=true from rfl,XP Q0 Q0,Qh,Qq7,et,Qh];show gb true (some (D.bool tb)) _ (λo=>gb true (PB o) _ _)∈P;rw[Qh,show PB (D.bool tb)=some tb from rfl,Qh];cases tb
 case true=>
  simp only[gbF,Qqc,Qq8,Qq9];exact aa
 obtain⟨w,rides,z,r,x0,x,y0,y,b0,e1,e2,e3,g,e5,h⟩:=Q6V hg ha;obtain⟨w',am,r',r1,x',x1,y',y1,a6,g1,g2,p,g4,k,g6⟩:=Q6V hg hb;have ar:Ti Ls a (rides.length-1) r:=⟨_,_,_,e1,g⟩;have ak:Ti Ls b 0 r':=⟨_,_,_,g1,p⟩;have ay:wJ ((rides.length:Int)-1)=((rides.length-1:Nat):Int):=by rw[Qo Q0 Q0];omega
 rw[show(bif true then !false else false)=true from rfl,XP Q0 Q0,Qh,e1,Qh];show gb true (some (D.sl 4 rides)) _ (λq=>gb true (pSl 4 q) _ _)∈P;rw[Qh,X4,Qh,ay,QfU ar h,Qh,show(0:Int)=((0:Nat):Int)from rfl,QcR ak k,Qh];by_cases ai:y=x'
 case neg=>
  rw[Qp (by simpa using ai)];exact aa
 subst ai;rw[Xh Q2,Qh,Qh,Qh,Qh];refine Vw hl hj Q1 Q1 λlo j l0 l1 hj=>?_
 refine Vw hl hj Q1 Q1 λac j h0 h1 hj=>?_
 dsimp only;rw[XI Q3,Qh,Qo (x:=10+lo) Q0 Q0,Qo (x:=10+lo+ac) Q0 Q0];have:=H _ _ (T++[(a,b,10+lo,10+lo+ac)]) j (hT.add (t:=(a,b,10+lo,10+lo+ac)) ⟨ha,hb,by simp;omega,by simp;omega,by simp;omega,by simp;omega,_,_,_,_,_,_,_,_,_,_,e1,g,Q0,Q0,ak,h,k⟩ (hf rfl) (ht rfl)) Q2 hj;rw[Qqx]at this;exact this
theorem QcT{a:Nat}{b1:Int}{c d e f:LL}(ha:a<Ls.length){k0:Int->Bool->LL->LL->LL->Int->oP R}:∀(k m b:Nat) (FA TA:LL) (T:List Tup) (i:Nat),b+k=Ls.length->k<m->TInv G Ro Ls T FA TA->T.length+k<=60->i<=l.length ->
  (∀(FA TA:LL) (T':List Tup) (j:Nat),TInv G Ro Ls T' FA TA->T'.length<=T.length+k->j<=l.length->k0 (Ls.length:Int) false FA TA (T'.map tuR) (j:Int)∈P) ->
  YA 400 (a:Int) (Ls.length:Int) c Ro Ls d e f (encI l) b1 k0 m (b:Int) FA TA (T.map tuR) (i:Int)∈P
 |0,m+1,b,FA,TA,T,i,hb,_,hT,ai,hi,H=>by
  subst hb;rw[YA,Qp Q2,show decide ((Ls.length:Int)<(Ls.length:Int))=false by simp]
  simp_all
 |k+1,m+1,b,FA,TA,T,i,hb,hm,hT,ai,hi,H=>by
  refine Qhv hl hg hL ha Q0 hT Q0 hi λFA TA T' j ak an hj=>?_
  exact QcT ha k m (b+1) FA TA T' j Q0 Q0 ak Q0 hj λFA TA T'' j aa ac hj=>H FA TA T'' j aa Q0 hj
theorem QcD{b1:Int}{b c d e:LL}{k0:Int->Bool->LL->LL->LL->Int->oP R}:∀(k m a:Nat) (FA TA:LL) (T:List Tup) (i:Nat),a+k=Ls.length->k<m->TInv G Ro Ls T FA TA->T.length+3*k<=50->i<=l.length ->
  (∀(FA TA:LL) (T':List Tup) (j:Nat),TInv G Ro Ls T' FA TA->T'.length<=T.length+3*k->j<=l.length->k0 (Ls.length:Int) false FA TA (T'.map tuR) (j:Int)∈P) ->
  U1 400 (Ls.length:Int) b Ro Ls c d e (encI l) b1 k0 m (a:Int) FA TA (T.map tuR) (i:Int)∈P
 |0,m+1,a,FA,TA,T,i,hb,_,hT,ai,hi,H=>by
  subst hb;rw[U1,Qp Q2,show decide ((Ls.length:Int)<(Ls.length:Int))=false by simp]
  simp_all
 |k+1,m+1,a,FA,TA,T,i,hb,hm,hT,ai,hi,H=>by
  rw[U1,Xh Q3];refine QcT hl hg hL Q0 Ls.length 400 0 FA TA T i Q0 Q0 hT Q0 hi λFA TA T' j ak an hj=>?_
  rw[show wJ ((a:Int)+1)=((a+1:Nat):Int) by grind[Qo]];exact QcD k m (a+1) FA TA T' j Q0 Q0 ak Q0 hj λFA TA T'' j aa ac hj=>H FA TA T'' j aa Q0 hj
theorem Qhn{b1:Int}{a b c d:LL}{i:Nat}(hi:i<=l.length){K:Int->LL->oP R}(H:∀(T:List Tup) (j:Nat),(∀t∈T,Qao G Ro Ls t)->(T.map (·.1)).Nodup->(T.map (·.2.1)).Nodup->T.length<=20->j<=l.length->K (j:Int) (T.map tuR)∈P) :
  RJ 400 (encI l) (i:Int) b1 a Ro Ls b [] c d K∈P:=by
 refine QcD hl hg hL (T:=[]) Ls.length 400 0 _ _ i Q0 Q0 ⟨by simp,by simp,by simp,?_,?_⟩ Q3 hi λFA TA T j hT ac hj=>?_
 ·intro i hi;obtain rfl | rfl | rfl | rfl:i=0\/i=1\/i=2\/i=3:=Q0
  all_goals simp
 ·intro i hi;obtain rfl | rfl | rfl | rfl:i=0\/i=1\/i=2\/i=3:=Q0
  all_goals simp_all
 ·exact H T j hT.ok hT.fd hT.td (by grind) hj
end
theorem Rr{w:LL}{x:Int}{r:List D}(h:Qi w x=some r):inB w.length x=some ()/\w[x.toNat]? = some r:=by
 grind[Qi,List.getElem?_eq_some_iff,XP]
def Q6x(G:Geo)(per:Int)(Ro Ls:LL)(row:List D):Prop:=
 ∃(f fr t tr:Nat) (mn mx w:Int) (r r':List D) (x y x' y':Int) (b b':Bool) (i:Int),row=[Ql f,Ql fr,Ql t,Ql tr,Ql mn,Ql mx,Ql w]/\Ti Ls f fr r/\Ti Ls t tr r'/\PA G Ro r x y b/\PA G Ro r' x' y' b'/\f≠t/\(0<=mn/\mn<20/\mn<=mx/\mx<mn+per)/\(0<=w/\w<3) /\
  (∃nm a c d,Qi G.Se y=some [D.str nm,Ql a,Ql c,Ql d,Ql i])/\(∃nm a c d,Qi G.Se x'=some [D.str nm,Ql a,Ql c,Ql d,Ql i])/\0<=i
def QiJ(per:Int)(Ls:LL)(row:List D):Prop:=∃o:Int,row=[Ql 0,Ql 0,Ql 1,Ql 0,Ql o]/\0<=o/\o<per/\2<=Ls.length
def QgC(N:Nat)(row:List D):Prop:=∃f t w:Int,row=[Ql f,Ql t,Ql w]/\(0<=f/\f<N)/\(0<=t/\t<N)/\f≠t/\1<=w/\w<=9
def Q1s(Sk:LL):Prop:=∃a b c d:Int,Sk=[[D.str (bs [88]),Ql a,Ql b,Ql c,Ql d]]/\StkN a b c d
structure PlanR(G:Geo)(per:Int)(Sk Ro Ls Ch Tu Sy De:LL):Prop where
 ok:G.OK
 p0:90<=per
 p1:per<=300
 sk:Q1s Sk
 good:GoodP G Ro Ls
 l0:1<=Ls.length
 l1:Ls.length<=3
 rl:Ro.length<=6
 ch:∀row∈Ch,Q6x G per Ro Ls row
 chl:Ch.length<=2
 tu:∃T:List Tup,Tu=T.map tuR/\(∀t∈T,Qao G Ro Ls t)/\(T.map (·.1)).Nodup/\(T.map (·.2.1)).Nodup/\T.length<=20
 sy:∀row∈Sy,QiJ per Ls row
 syl:Sy.length<=1
 de:∀row∈De,QgC G.N row
 del:De.length<=2
theorem Qkl{pl:LL}(hp:pl=[[D.int .i64 (150:Int)],[D.int .i64 (120:Int)],[D.int .i64 (180:Int)],[D.int .i64 (240:Int)],[D.int .i64 (300:Int)],[D.int .i64 (90:Int)]]){v:Int}(a:0<=v)(b:v<6) :
  ∃per:Int,90<=per/\per<=300/\∀{R:Type} (K:Int->oP R),gb true (inB (List.length pl) v) () (λ_=>gb true (pl[(Int.toNat v)]?) [] λr=>gb true (r[0]?) oF λc=>gb true (pIw c) 0 λi=>K i)=K per:=by
 subst hp;obtain rfl | rfl | rfl | rfl | rfl | rfl:v=0\/v=1\/v=2\/v=3\/v=4\/v=5:=Q0
 ·exact⟨150,Q0,Q0,λK=>rfl⟩
 ·exact⟨120,Q0,Q0,λK=>rfl⟩
 ·exact⟨180,Q0,Q0,λK=>rfl⟩
 ·exact⟨240,Q0,Q0,λK=>rfl⟩
 ·exact⟨300,Q0,Q0,λK=>rfl⟩
 ·exact⟨90,Q0,Q0,λK=>rfl⟩
theorem C7{G:Geo}{Ro Ls:LL}(hg:GoodP G Ro Ls){k:Nat}(hk:k<Ls.length):∃(w:Int) (rides:LL),Ls[k]? = some [D.str (nmN k),Ql 0,Ql w,D.sl 4 rides]/\(rides.length=1\/rides.length=2)/\∀i,i<rides.length->∃r x y b,Ti Ls k i r/\PA G Ro r x y b:=by
 obtain⟨w,rides,c,h2,d,a⟩:=hg.ls k _ (Qqa hk);have he:Ls[k]? = some [D.str (nmN k),Ql 0,Ql w,D.sl 4 rides]:=by simp_all
 refine⟨w,rides,he,?_⟩;rcases a with⟨r,x,y,rfl,h⟩|⟨r,r',x,y,z,rfl,h,h'⟩
 ·refine⟨.inl rfl,λi hi=>?_⟩;have hi:i=0:=by simp_all
  subst hi;exact⟨r,x,y,true,⟨_,_,_,he,rfl⟩,h⟩
 ·refine⟨.inr rfl,λi hi=>?_⟩;obtain rfl | rfl:i=0\/i=1:=by grind
  ·exact⟨r,x,y,false,⟨_,_,_,he,rfl⟩,h⟩
  ·exact⟨r',y,z,true,⟨_,_,_,he,rfl⟩,h'⟩
section
variable{R:Type} {l:List Int} (hl:l.length<=9223372036854775807) {P:R->Prop} {G:Geo} (hG:G.OK)
include hl hG
theorem Q3M{k0:Int->Bool->Int->LL->LL->oP R}:∀(c m:Nat) (Ro Ls:LL) (i:Nat),c<m->Ls.length+c<=3->Ro.length<=2*Ls.length->GoodP G Ro Ls->i<=l.length ->
  (∀(Ro' Ls':LL) (j:Nat),GoodP G Ro' Ls'->Ls'.length=Ls.length+c->Ro'.length<=2*Ls'.length->j<=l.length->k0 0 false (j:Int) Ro' Ls'∈P) ->
  G2 400 (encI l) G.Tr G.Bt k0 m (c:Int) (i:Int) Ro Ls∈P
 |0,m+1,Ro,Ls,i,_,_,hR,hg,hi,H=>by
  rw[G2];rw[Qp Q2,show decide (((0:Nat):Int)>0)=false by simp];exact H Ro Ls i hg rfl hR hi
 |c+1,m+1,Ro,Ls,i,hm,hL,hR,hg,hi,H=>by
  have hN:=hG.hN;have hb:=hG.btl;rw[G2];rw[Xh Q2];refine Vw hl hi Q1 Q1 λv j a b hj=>?_
  dsimp only;refine Vw hl hj Q0 Q0 λd j g0 g1 hj=>?_
  dsimp only;obtain⟨nv,rfl⟩:=Qqo g0;rw[Qo (x:=1+(nv:Int)) Q0 Q0,show(1:Int)+(nv:Int)=((1+nv:Nat):Int) by omega];refine okB (QiB hl hG Q0 Q0 hg Q0 Q0 hj λRo' Ls' j ak aq ao hj=>okI ?_);dsimp only;rw[show wJ (((c+1:Nat):Int)-1)=(c:Int) by rw[Qo Q0 Q0];omega];exact Q3M c m Ro' Ls' j Q0 Q0 Q0 ak hj λRo'' Ls'' j aa an ac hj=>H Ro'' Ls'' j aa Q0 ac hj
omit hG in
theorem LB{per:Int}{Ro Ls k n:LL}(d:90<=per)(e:per<=300)(hg:GoodP G Ro Ls)(hL:Ls.length<=3){k0:Int->Bool->Int->LL->oP R}:∀(c m:Nat) (Ch:LL) (i:Nat),c<m->Ch.length+c<=2->(∀row∈Ch,Q6x G per Ro Ls row)->i<=l.length ->
  (∀(h:Int) (b:Bool) (Ch:LL) (j:Nat),(∀row∈Ch,Q6x G per Ro Ls row)->Ch.length<=2->j<=l.length->k0 h b (j:Int) Ch∈P) ->
  J0 400 per (encI l) k Ro Ls G.Se n k0 m (c:Int) (i:Int) Ch∈P
 |0,m+1,Ch,i,_,az,hC,hi,H=>by
  grind[J0]
 |c+1,m+1,Ch,i,hm,az,hC,hi,H=>by
  rw[J0];rw[show decide (((c+1:Nat):Int)>0)=true by simp,Qq9];by_cases o:Ls.length<=1
  ·rw[show decide ((Ls.length:Int)>1)=false by simp;omega,Qq8];exact H _ _ Ch i hC Q0 hi
  rw[show decide ((Ls.length:Int)>1)=true by simp;omega,Qq9];refine Vw hl hi Q0 Q0 λv j p o hj=>?_
  refine Vw hl hj Q1 Q1 λw j w0 q hj=>?_
  dsimp only;obtain⟨f,rfl⟩:=Qqo p;have hf:f<Ls.length:=Q0
  obtain⟨t,et,ht,a3⟩:∃t:Nat,Int.tmod (wJ ((f:Int)+1)) (Ls.length:Int)=(t:Int)/\t<Ls.length/\f≠t:=by
   rw[Qo Q0 Q0,Qqr Q0];refine⟨(f+1) % Ls.length,by simp,Nat.mod_lt _ Q0,?_⟩;by_cases h:f+1<Ls.length
   ·rw[Nat.mod_eq_of_lt h];omega
   ·rw[show f+1=Ls.length by omega,Nat.mod_self];omega
  rw[et];obtain⟨w2,rides,e1,e2,s⟩:=C7 hg hf;obtain⟨bc,ar,a4,a6,aw⟩:=C7 hg ht;rw[CR Q0,Qh,XP Q0 Q0,Qh,Qq7,e1,Qh];dsimp only[List.getElem?_cons_zero,List.getElem?_cons_succ];rw[Qh,X4,Qh];refine Vw hl hj Q0 Q0 λfr j a0 a1 hj=>?_
  dsimp only;rw[XP Q0 Q0,Qh,Qq7,a4,Qh];dsimp only[List.getElem?_cons_zero,List.getElem?_cons_succ];rw[Qh,X4,Qh];refine Vw hl hj Q0 Q0 λtr j b0 b1 hj=>?_
  refine Vw hl hj Q1 Q1 λmn j c0 c1 hj=>?_
  dsimp only;refine Vw hl hj Q0 Q0 λmx j d0 d1 hj=>?_
  dsimp only;obtain⟨fr,rfl⟩:=Qqo a0;obtain⟨tr,rfl⟩:=Qqo b0;obtain⟨r,x,y,b,hr,hR⟩:=s fr Q0;obtain⟨r',x',y',b',ai,ak⟩:=aw tr Q0;have am:=hR;have ac:=ak;obtain⟨_,_,_,_,_,_,_,hS,_⟩:=hR;obtain⟨_,_,_,_,_,_,_,ay,_⟩:=ak;obtain⟨aa,a1,c1,d1,g,g1,u⟩:=hS.sy;obtain⟨ab,a2,c2,d2,z,a,g4⟩:=ay.sx;rw[QfU hr am,Qh,(Rr g1).1,Qh,(Rr g1).2,Qh];dsimp only[List.getElem?_cons_zero,List.getElem?_cons_succ];rw[Qh,Qj,Qh,QcR ai ac,Qh,(Rr a).1,Qh,(Rr a).2,Qh];dsimp only[List.getElem?_cons_zero,List.getElem?_cons_succ];rw[Qh,Qj,Qh];have ax:wJ (((c+1:Nat):Int)-1)=(c:Int):=by rw[Qo Q0 Q0];omega
  rw[ax];by_cases ao:g=z
  ·subst ao;rw[Xh Q2,XI Q3,Qh,Qo (x:=mn+mx) Q0 Q0];refine LB d e hg hL c m _ j Q0 Q3 (λrow an=>?_) hj H;rcases Qqs.1 an with h | h
   ·exact hC row h
   ·rw[List.mem_singleton.1 h];exact⟨f,fr,t,tr,mn,mn+mx,w,r,r',x,y,x',y',b,b',g,rfl,hr,ai,am,ac,a3,⟨Q0,Q0,Q0,Q0⟩,⟨w0,q⟩,⟨_,_,_,_,g1⟩,⟨_,_,_,_,a⟩,u.1⟩
  ·rw[Qp (by simpa using ao)];exact LB d e hg hL c m _ j Q0 Q0 hC hj H
omit hl hG in
theorem Qkr{N:Nat}(hN:N=2\/N=3){f v:Int}(a:0<=f)(b:f<N)(g0:0<=v)(g1:v<N-1):∃t:Int,Int.tmod (wJ ((wJ (f+1))+v)) (N:Int)=t/\(0<=t/\t<N)/\f≠t:=by
 rw[Qo (x:=f+1) Q0 Q0,Qo Q0 Q0,Qqr Q0]
 grind
theorem Q2n{k0:Int->Bool->Int->LL->oP R}:∀(c m:Nat) (De:LL) (i:Nat),c<m->De.length+c<=2->(∀row∈De,QgC G.N row)->i<=l.length ->
  (∀(h:Int) (b:Bool) (De:LL) (j:Nat),(∀row∈De,QgC G.N row)->De.length<=2->j<=l.length->k0 h b (j:Int) De∈P) ->
  V8 400 (encI l) G.St k0 m (c:Int) (i:Int) De∈P
 |0,m+1,De,i,_,ai,hD,hi,H=>by
  rw[V8];rw[show decide (((0:Nat):Int)>0)=false by simp,Qq8];exact H _ _ De i hD Q0 hi
 |c+1,m+1,De,i,hm,ai,hD,hi,H=>by
  have hN:=hG.hN;rw[V8];rw[show decide (((c+1:Nat):Int)>0)=true by simp,Qq9,hG.st,Qo (x:=(G.N:Int)-1) Q0 Q0];refine Vw hl hi Q0 Q0 λf j a d hj=>?_
  dsimp only;refine Vw hl hj Q0 Q0 λv j g0 g1 hj=>?_
  dsimp only;rw[CR Q0,Qh];refine Vw hl hj Q1 Q1 λw j w0 e hj=>?_
  dsimp only;obtain⟨t,et,ht,ak⟩:=Qkr hN a d g0 g1;rw[XI Q3,Qh,et,Qo (x:=1+w) Q0 Q0,show wJ (((c+1:Nat):Int)-1)=(c:Int) by rw[Qo Q0 Q0];omega];refine Q2n c m _ j Q0 Q3 (λrow aa=>?_) hj H;rcases Qqs.1 aa with h | h
  ·exact hD row h
  ·rw[List.mem_singleton.1 h];exact⟨f,t,1+w,rfl,⟨a,d⟩,ht,ak,Q0,Q0⟩
omit hl hG in
theorem Qfr{n:Nat}{l s:LL}{k0:Int->Bool->Int->LL->oP R}:∀(m:Nat) (a:Int) (c:Int) (d:LL),H6 n l s k0 m a c d=V8 n l s k0 m a c d
 |0,_,_,_=>rfl
 |m+1,a,c,d=>by
  rw[H6,V8];simp only[Qfr m]
end
theorem Q6J{v:Int}(h:0<=v):∃n:Nat,v=(n:Int):=Qqo h
theorem QiW{R:Type}{l:List Int}(hl:l.length<=9223372036854775807){P:R->Prop}{K:LL->LL->LL->LL->Int->LL->LL->LL->LL->LL->LL->LL->oP R}(H:∀(G:Geo) (per:Int) (Sk Ro Ls Ch Tu Sy De:LL),PlanR G per Sk Ro Ls Ch Tu Sy De->K G.St G.Pt G.Se G.Li per Sk Ro Ls Ch Tu Sy De∈P):Su 400 (encI l) K∈P:=by
 unfold Su AY;rw[Qh];dsimp only;refine okB (Qk6 (i:=0) hl (Nat.zero_le _) λG j hG hj=>okI ?_);dsimp only;refine Vw hl hj Q1 Q1 λv j f g hj=>?_
 dsimp only;obtain⟨per,p0,p1,e⟩:=Qkl rfl f g;rw[e];refine Vw hl hj Q1 Q1 λa j a0 a1 hj=>?_
 refine Vw hl hj Q1 Q1 λb j b0 b1 hj=>?_
 refine Vw hl hj Q1 Q1 λc j c0 c1 hj=>?_
 refine Vw hl hj Q1 Q1 λd j d0 d1 hj=>?_
 refine Vw hl hj Q1 Q1 λk j k0 k1 hj=>?_
 dsimp only;obtain⟨k,rfl⟩:=Q6J k0;rw[Qo (x:=1+(k:Int)) Q0 Q0,show(1:Int)+(k:Int)=((k+1:Nat):Int) by omega,Qo (x:=1+a) Q0 Q0,Qo (x:=5000*b) Q0 Q0,Qo (x:=10000+5000*b) Q0 Q0,Qo (x:=200*c) Q0 Q0,Qo (x:=400+200*c) Q0 Q0,Qo (x:=200*d) Q0 Q0,Qo (x:=400+200*d) Q0 Q0];have aa:Q1s [[D.str (bs [88]),D.int .i64 (1+a),D.int .i64 (10000+5000*b),D.int .i64 (400+200*c),D.int .i64 (400+200*d)]]:=⟨_,_,_,_,rfl,Q0,Q0,Q0,Q0,Q0,Q0,Q0,Q0⟩;revert aa;generalize [[D.str (bs [88]),D.int .i64 (1+a),D.int .i64 (10000+5000*b),D.int .i64 (400+200*c),D.int .i64 (400+200*d)]]=Sk;intro aa;refine Q3M hl hG (k+1) 400 [] [] j Q0 Q3 Q2 ⟨(λrow h=>nomatch h),(λk row h=>nomatch h)⟩ hj λRo Ls j hg hL hR hj=>?_
 simp at hL;refine okB (Qhn hl hg Q0 hj λT j ak ai ao am hj=>okI ?_);dsimp only;refine Vw hl hj Q1 Q1 λk j k0 k1 hj=>?_
 dsimp only;obtain⟨k,rfl⟩:=Q6J k0;refine LB hl p0 p1 hg Q0 k 400 [] j Q0 Q3 (λrow h=>nomatch h) hj λf b0 Ch j hC an hj=>?_
 refine Vw hl hj Q1 Q1 λv j f g hj=>?_
 dsimp only;by_cases hv:v=3/\1<Ls.length
 ·obtain⟨rfl,h2⟩:=hv;rw[show((3:Int) == 3)=true from rfl,show decide ((Ls.length:Int)>1)=true by simp;omega,Qq9,Qq9];refine Vw hl hj Q0 Q0 λo j n p hj=>?_
  dsimp only;rw[XI Q2,Qh];refine Vw hl hj Q1 Q1 λk j k0 k1 hj=>?_
  dsimp only;obtain⟨k,rfl⟩:=Q6J k0;refine Q2n hl hG k 400 [] j Q0 Q3 (λrow h=>nomatch h) hj λf b0 De j hD ac hj=>?_
  refine H G per Sk Ro Ls Ch _ _ De ⟨hG,p0,p1,aa,hg,Q0,Q0,Q0,hC,an,⟨T,rfl,ak,ai,ao,am⟩,λrow h=>?_,by simp,hD,ac⟩;simp at h;exact⟨o,h,n,p,h2⟩
 ·rw[show(bif (v == (3:Int))then(decide (((List.length Ls:Nat):Int)>(1:Int)))else false)=false by
   by_cases m:v=3
   ·rw[show(v == (3:Int))=true by simp[m],Qq9];simp;omega
   ·rw[show(v == (3:Int))=false by simpa using m,Qq8]]
  rw[Qq8];refine Vw hl hj Q1 Q1 λk j k0 k1 hj=>?_
  dsimp only;obtain⟨k,rfl⟩:=Q6J k0;rw[Qfr];refine Q2n hl hG k 400 [] j Q0 Q3 (λrow h=>nomatch h) hj λf b0 De j hD ac hj=>?_
  exact H G per Sk Ro Ls Ch _ _ De ⟨hG,p0,p1,aa,hg,Q0,Q0,Q0,hC,an,⟨T,rfl,ak,ai,ao,am⟩,(λrow h=>nomatch h),by simp,hD,ac⟩
end Go.Vx
namespace Go.Vx
variable{R:Type} (n:Nat)
def ZN(n:Nat)(b:LL)(h5:Int)(k0:oP R)(k1:Qlk R):Qll R
|0,_=>none
|m+1,h6=>bif decide (h6<h5)then Ql0 R b h6 λa=>QkY R a λc=>Qc R (pSl 4 c) λd=>bif decide ((d.length:Int)>12)then k0 else ZN n b h5 k0 k1 m (wJ (h6+1))else k1 h6 (decide (h6<h5))
def UP(i j k l:LL)(c:Int)(d e b f g h m:LL)(K:Qlj R):oP R:=Qc R (ZA n i j k l some) λo=>bif o !=0 then K 1 else jn (λ(p:Bool)=>bif p then K 7 else ZN n b (b.length:Int) (K 7) (λq r=>bif Q8 (decide (c<2)) (decide (c>7200))then K 4 else K 0) n 0) λa=>Qa R (decide ((d.length:Int)>8)) λy=>bif y then a y else Qa R (decide ((e.length:Int)>48)) λv=>bif v then a v else Qa R (decide ((b.length:Int)>16)) λx=>bif x then a x else Qa R (decide ((f.length:Int)>32)) λu=>bif u then a u else Qa R (decide ((g.length:Int)>32)) λt=>bif t then a t else Qa R (decide ((h.length:Int)>32)) λs=>bif s then a s else a (decide ((m.length:Int)>32))
def Z5(b:LL)(h2:Int)(c h5 h6 h7:LL)(k0:Qlj R)(k1:Qlk R):Qll R
|0,_=>none
|m+1,a=>bif decide (a<h2)then QkQ R b a λf g=>Qla R f g λh i=>Qc R (TN n c h5 h6 h7 h i some) λe=>bif e !=0 then k0 e else Z5 b h2 c h5 h6 h7 k0 k1 m (wJ (a+1))else k1 a (decide (a<h2))
def U4(b c d e:LL)(g:Int)(h a i j k l m:LL)(K:Qlj R):oP R:=Z5 n a (a.length:Int) b c d e (λf=>K f) (λo p=>K 0) n 0
def JD(aa ab ac ad:LL)(d:Int)(g b k l m o p:LL)(bq:List UInt8)(ae br:Int)(e:LL)(a:Int)(K:Qlj R):oP R:=QkX R e a λi c3 q c5=>jn (λ(ag:Bool)=>(bif ag then K 4 else Qlg R i b λai aj=>Ql4 R g ae λak al am an ao=>Qla R ai aj λap aq=>Qc R (Vq ak) λar=>Ql2 R al am an ao λau av aw ax=>Qc R (Gj n aa ab ac ad ap aq ar au av aw ax some) λs=>bif s !=0 then K s else Qa R (decide (a>0)) λbt=>QkK R i bt c3 λay az=>QkK R q bt c5 λba bb=>Qd R bt (Tg n d g b k l m o p ay az ba bb some) λbc=>Qd R bt (Qi e (wJ (a-1))) λj=>Qd R bt j[0]? λbd=>Qd R bt j[1]? λbe=>Qd R bt j[2]? λbg=>Qd R bt j[3]? λbh=>QkK R bd bt be λbi bj=>QkK R bg bt bh λbk bl=>Qd R bt (Si n d g b k l m o p bi bj bk bl some) λbm=>bif Q9 bt (bc !=bm)then K 11 else K 0:oP R)) λc=>Qc R (pIw i) λt=>bif decide (t<0)then c (decide (t<0))else Qc R (pIw i) λu=>Qa R (decide (u>=(b.length:Int))) λbv=>bif bv then c bv else Qc R (pIw c3) λv=>bif decide (v<0)then c (decide (v<0))else Qc R (pIw c3) λx=>bif decide (x>=d)then c (decide (x>=d))else QkC R q c5 λbn bo=>Qc R (Kt n d g b k l m o p bn bo some) λy=>bif !y then c (!y)else Qa R (a==wJ ((e.length:Int)-1)) λbu=>Qd R bu (pIw q) λz=>Qd R (bu&&!(z !=0)) (pIw c5) λbp=>c (Q9 bu (Q8 (z !=0) (bp !=0)))
def ZM(b:Int)(c d e f:LL)(g:Int)(h i j k l o p:LL)(q:List UInt8)(r s:Int)(t:LL)(k0:Qlj R)(k1:Qlk R):Qll R
|0,_=>none
|m+1,a=>bif decide (a<b)then Qc R (JD n c d e f g h i j k l o p q r s t a some) λu=>bif u !=0 then k0 u else ZM b c d e f g h i j k l o p q r s t k0 k1 m (wJ (a+1))else k1 a (decide (a<b))
def ZK(h:LL)(h2:Int)(i h5 h6 h7:LL)(j:Int)(c k d l o p q:LL)(k0:Qlj R)(k1:Qlk R):Qll R
|0,_=>none
|m+1,a=>bif decide (a<h2)then QkX R h a λr u v x=>Qc R (Vq r) λy=>Qc R (KC n y some) λz=>bif !z then k0 3 else Qc R (slB d.length none (some a)) λaa=>Qc R (Vq r) λs=>QkC R u v λb t=>Qc R (pSl 4 x) λf=>Qc R (QG n (cut d aa) s some) λab=>bif ab then k0 5 else jn (λ(ac:Bool)=>bif ac then k0 4 else bif (f.length:Int)==0 then k0 1 else ZM n (f.length:Int) i h5 h6 h7 j c k d l o p q s b t f (λad=>k0 ad) (λag ah=>ZK h h2 i h5 h6 h7 j c k d l o p q k0 k1 m (wJ (a+1))) n 0) λg=>bif decide (b<0)then g (decide (b<0))else Qa R (decide (b>=(c.length:Int))) λai=>bif ai then g ai else Qc R (Tl n t some) λae=>g (!ae)else k1 a (decide (a<h2))
def V3(b c d e:LL)(f:Int)(g h a i j k l:LL)(K:Qlj R):oP R:=ZK n a (a.length:Int) b c d e f g h a i j k l (λm=>K m) (λo p=>K 0) n 0
def Qah(a b c d:LL)(e:Int)(f g h i j k l:LL):Bool:=Q8F (UP n a b c d e f g h i j k l some)&&Q8F (U6 n a b c d e f g h i j k l some)&&Q8F (U4 n a b c d e f g h i j k l some)&&Q8F (V3 n a b c d e f g h i j k l some)&&Q8F (Wy n a b c d e f g h i j k l some)&&Q8F (V2 n a b c d e f g h i j k l some)&&Q8F (UT n a b c d e f g h i j k l some)&&Q8F (Wr n a b c d e f g h i j k l some)
def Jg(a b c d:LL)(e:Int)(f g h i j k l:LL)(K:Qlj R):oP R:=bif Qah n a b c d e f g h i j k l then K 0 else none
end Go.Vx
namespace Go.Vx
theorem QJ{h:Nat}(hh:h<=1000):wJ ((h:Int)+1)=((h+1:Nat):Int):=by rw[Qo Q0 Q0];omega
theorem Qs{h k:Nat}(hh:h<k):decide ((h:Int)<(k:Int))=true:=by simpa using hh
theorem Qy(k:Nat):decide ((k:Int)<(k:Int))=false:=by simp
section
variable{R:Type} {St Pt Se Li Sk Ro Ls Ch Tu Sy De:LL} {per:Int} {n:Nat}
theorem Q5u{mn mx:Int}(a:0<=mn)(b:mn<=mx)(h2:mx<mn+per)(c:mn<=1000)(p1:per<=300)(K:Bool->oP R):Kt n per Sk Ro Ls Ch Tu Sy De mn mx K=K true:=by
 unfold Kt;rw[show decide ((0:Int)<=mn)=true by simpa using a,show decide (mn<=mx)=true by simpa using b,show decide (mx<=(7200:Int))=true by simp;omega,Qo Q0 Q0,show decide (mx<mn+per)=true by simpa using h2];rfl
theorem Q32{k:Nat}(h:k<Ls.length)(K:Bool->oP R):G1 n per Sk Ro Ls Ch Tu Sy De (k:Int) K=K true:=by
 unfold G1;rw[show decide ((k:Int)>=0)=true by simp,Qs h];rfl
theorem Bd{k i:Nat}{r:List D}(h:Ti Ls k i r)(K:Bool->oP R):Ug n per Sk Ro Ls Ch Tu Sy De (k:Int) (i:Int) K=K true:=by
 obtain⟨nm,w,rides,a,h2⟩:=h;unfold Ug;rw[Q32 (Qqd.1 a).1,Qh,show decide ((i:Int)>=0)=true by simp,Qt,a];simp -implicitDefEqProofs only[Qh,Qq5,Qq6,Qj,XQ,X4,Qq9,Qq8,Qqc,Qqb,Qs (Qqd.1 h2).1]
theorem Q92{w:Int}(a:0<=w)(b:w<=1000)(K:Bool->oP R):Tl n w K=K true:=by
 unfold Tl;rw[show decide (w>=0)=true by simpa using a,show decide (w<=(1048576:Int))=true by simp;omega];rfl
theorem Q5E{G:Geo}{rt:Nat}{ex mn mx x y:Int}{s:LL}(a:Ro[rt]? = some [D.sl 2 s,Ql 0])(b:RtOK G s x y)(K:Int->oP R):Tg n per Sk Ro Ls Ch Tu Sy De (rt:Int) ex mn mx K=K x:=by
 obtain⟨d,h5⟩:=b.fst;unfold Tg;simp -implicitDefEqProofs only[Qh,Qq5,Qq6,Qj,XQ,X4,Qq9,Qq8,Qqc,Qqb,Qt,a,h5]
theorem Qaw{G:Geo}{rt:Nat}{ex mn mx x y:Int}{s:LL}(b:Ro[rt]? = some [D.sl 2 s,Ql 0])(a:RtOK G s x y)(K:Int->oP R):Si n per Sk Ro Ls Ch Tu Sy De (rt:Int) ex mn mx K=K y:=by
 obtain⟨d,h5⟩:=a.lst;have l2:=a.l2;have l24:=a.l24;unfold Si;simp -implicitDefEqProofs only[Qh,Qq5,Qq6,Qj,XQ,X4,Qq9,Qq8,Qqc,Qqb,Qt,b];rw[Qo (x:=(s.length:Int)-0) Q0 Q0,Qo Q0 Q0,Int.sub_zero,h5];rfl
theorem QeA(hs:Q1s Sk)(K:Int->oP R):U6 400 St Pt Se Li per Sk Ro Ls Ch Tu Sy De K=K 0:=by
 obtain⟨a,b,c,d,rfl,hk⟩:=hs;have h:U6 400 St Pt Se Li per [[D.str (bs [88]),Ql a,Ql b,Ql c,Ql d]] Ro Ls Ch Tu Sy De K=gb true (Uv 400 (bs [88]) a b c d some) false (λr=>bif !r then K 4 else K 0):=by kernel_rfl
 rw[h,Aa hk];rfl
end
section
variable{R:Type} {G:Geo} {Sk Ro Ls Ch Tu Sy De:LL} {per:Int} (h:PlanR G per Sk Ro Ls Ch Tu Sy De)
include h
theorem Q72{k:Nat}(hk:k<Ls.length):∃r,Ti Ls k 0 r:=by
 obtain⟨w,rides,e,hr,a⟩:=C7 h.good hk;obtain⟨r,_,_,_,b,_⟩:=a 0 Q0;exact⟨r,b⟩
theorem Qh1(K:Int->oP R):UP 400 G.St G.Pt G.Se G.Li per Sk Ro Ls Ch Tu Sy De K=K 0:=by
 have hc:ZA 400 G.St G.Pt G.Se G.Li (some:Int->oP Int)=some 0:=by unfold ZA;rw[h.ok.lay];rfl
 obtain⟨_,_,_,_,ac,_⟩:=h.sk;obtain⟨T,hT,_,_,_,ai⟩:=h.tu;have l1:=h.l1;have l2:=h.rl;have a:=h.chl;have c:=h.syl;have d:=h.del;have p0:=h.p0;have p1:=h.p1;have lk:Sk.length=1:=by rw[ac];rfl
 have lt:Tu.length<=20:=by rw[hT];simpa using ai
 have aa:∀{k:Nat} {b:Int},(k:Int)<=b->decide ((k:Int)>b)=false:=λh=>by simpa using h
 unfold UP;rw[hc,Qh,Qp (by rfl)];simp -implicitDefEqProofs only[jn,aa (show(Sk.length:Int)<=8 by omega),aa (show(Ro.length:Int)<=48 by omega),aa (show(Ls.length:Int)<=16 by omega),aa (show(Ch.length:Int)<=32 by omega),aa (show(Tu.length:Int)<=32 by omega),aa (show(Sy.length:Int)<=32 by omega),aa (show(De.length:Int)<=32 by omega),Qq8];refine QY (r:=λm h=>ZN 400 Ls (Ls.length:Int) _ _ m h) (N:=Ls.length) (λm k hk=>?_) (λm=>?_) Ls.length 400 0 Q0 Q0
 ·obtain⟨w,rides,e,hr,_⟩:=C7 h.good hk;rw[ZN,Qs hk,Qt,e];simp -implicitDefEqProofs only[Qh,Qq5,Qq6,Qj,XQ,X4,Qq9,Qq8,Qqc,Qqb,aa (show(rides.length:Int)<=12 by omega),QJ (show k<=1000 by omega)]
 ·rw[ZN,Qy,Qq8,show decide (per<2)=false by simp;omega,show decide (per>7200)=false by simp;omega];rfl
theorem Qdt(K:Int->oP R):U4 400 G.St G.Pt G.Se G.Li per Sk Ro Ls Ch Tu Sy De K=K 0:=by
 have l2:=h.rl;unfold U4;refine QY (r:=λm h=>Z5 400 Ro (Ro.length:Int) G.St G.Pt G.Se G.Li _ _ m h) (N:=Ro.length) (λm k hk=>?_) (λm=>?_) Ro.length 400 0 Q0 Q0
 ·obtain⟨s,x,y,e,hs⟩:=h.good.ro _ (Qqj hk);rw[Z5,Qs hk,Qt,Qqa hk,e];simp -implicitDefEqProofs only[Qh,Qq5,Qq6,Qj,XQ,X4,Qq9,Qq8,Qqc,Qqb,Q6G h.ok.lay rfl hs.l2 hs.l24 hs.rt,QJ (show k<=1000 by omega)];rfl
 ·rw[Z5,Qy,Qq8]
theorem QbE(K:Int->oP R):Wr 400 G.St G.Pt G.Se G.Li per Sk Ro Ls Ch Tu Sy De K=K 0:=by
 have l2:=h.del;have hN:=h.ok.hN;unfold Wr;refine QY (r:=λm h=>YT 400 De (De.length:Int) G.St _ _ m h) (N:=De.length) (λm k hk=>?_) (λm=>?_) De.length 400 0 Q0 Q0
 ·obtain⟨f,t,w,e,⟨a,b⟩,⟨t0,t1⟩,aa,w0,c⟩:=h.de _ (Qqj hk);rw[YT,Qs hk,Qt,Qqa hk,e];simp -implicitDefEqProofs only[Qh,Qq5,Qq6,Qj,XQ,X4,Qq9,Qq8,Qqc,Qqb,h.ok.st,show decide (f<0)=false by simpa using a,show decide (f>=(G.N:Int))=false by simpa using b,show decide (t<0)=false by simpa using t0,show decide (t>=(G.N:Int))=false by simpa using t1,show(f == t)=false by simpa using aa,show decide (w<1)=false by simp;omega,show decide (w>1048576)=false by simp;omega,QJ (show k<=1000 by omega)]
 ·rw[YT,Qy,Qq8]
theorem QgU(K:Int->oP R):UT 400 G.St G.Pt G.Se G.Li per Sk Ro Ls Ch Tu Sy De K=K 0:=by
 have l2:=h.syl;have l0:=h.l0;unfold UT;refine QY (r:=λm h=>ZE 400 Sy (Sy.length:Int) per Sk Ro Ls Ch Tu Sy De _ _ m h) (N:=Sy.length) (λm k hk=>?_) (λm=>?_) Sy.length 400 0 Q0 Q0
 ·obtain⟨o,e,a,b,h2⟩:=h.sy _ (Qqj hk);obtain⟨r,hr⟩:=Q72 h (k:=0) Q0;obtain⟨r',aa⟩:=Q72 h (k:=1) Q0;have e1:=Bd (R:=Bool) (per:=per) (Sk:=Sk) (Ro:=Ro) (Ch:=Ch) (Tu:=Tu) (Sy:=Sy) (De:=De) (n:=400) hr some;have e2:=Bd (R:=Bool) (per:=per) (Sk:=Sk) (Ro:=Ro) (Ch:=Ch) (Tu:=Tu) (Sy:=Sy) (De:=De) (n:=400) aa some;rw[ZE,Qs hk,Qt,Qqa hk,e];simp -implicitDefEqProofs only[Qh,Qq5,Qq6,Qj,XQ,X4,Qq9,Qq8,Qqc,Qqb,show Ug 400 per Sk Ro Ls Ch Tu Sy De 0 0 (some:Bool->oP Bool)=some true from e1,show Ug 400 per Sk Ro Ls Ch Tu Sy De 1 0 (some:Bool->oP Bool)=some true from e2,show((0:Int) == 1)=false from rfl,show decide (o<0)=false by simp;omega,show decide (o>=per)=false by simp;omega,QJ (show k<=1000 by omega)]
 ·rw[ZE,Qy,Qq8]
end
theorem Q2y{n h:Nat}(hh:h<=n):slB n none (some (h:Int))=some (0,h):=by
 unfold slB;rw[show(decide ((0:Int)<=(none:oP Int).getD 0)&&(decide ((none:oP Int).getD 0<=(some (h:Int)).getD (n:Int))&&decide ((some (h:Int)).getD (n:Int)<=(n:Int))))=true by simp;omega];rfl
theorem F2{α:Type}{l:List α}{h:Nat}:cut l (0,h)=l.take h:=by simp[cut]
theorem Qgw{i j:Nat}(hi:i<8)(hj:j<8)(h:i≠j):(nmN i == nmN j)=false:=by
 have:∀i j:Fin 8,i≠j->(nmN i.val == nmN j.val)=false:=by decide
 exact this ⟨i,hi⟩ ⟨j,hj⟩ (by intro e;exact h (by simpa using e))
theorem QiD{i:Nat}(hi:i<8):KC 400 (nmN i) (some:Bool->oP Bool)=some true:=by
 obtain rfl | rfl | rfl | rfl | rfl | rfl | rfl | rfl:i=0\/i=1\/i=2\/i=3\/i=4\/i=5\/i=6\/i=7:=Q0
 all_goals kernel_rfl
section
variable{Sk Ch Tu Sy De:LL} {per:Int}
theorem Q3N{G:Geo}{Ro Ls:LL}{c:Nat}(hg:GoodP G Ro Ls)(hc:c<8)(hl:c<Ls.length):QG 400 (cut Ls (0,c)) (nmN c) some=some false:=by
 have ac:(cut Ls (0,c)).length=c:=by rw[F2];simp;omega
 unfold QG X8;rw[ac];refine(congrArg (λE=>gb true E 0 λa=>some (decide (a>=(0:Int)))) (a₂:=some (-1)) (QY (r:=λm h=>Qq 400 (cut Ls (0,c)) (c:Int) (nmN c) _ _ m h) (N:=c) (λm h hh=>?_) (λm=>?_) c 400 0 Q0 Q0)).trans rfl
 ·obtain⟨w,aa,e,_,_⟩:=C7 hg (show h<Ls.length by omega);have e':(cut Ls (0,c))[h]? = some [D.str (nmN h),Ql 0,Ql w,D.sl 4 aa]:=by rw[F2,List.getElem?_take_of_lt hh,e]
  rw[Qq,Qs hh,Qt,e'];simp -implicitDefEqProofs only[Qh,Qq5,Qq6,Qj,XQ,X4,Qq9,Qq8,Qqc,Qqb,ZW,Qgw (show h<8 by omega) hc Q0,QJ (show h<=1000 by omega)]
 ·rw[Qq,Qy,Qq8]
theorem Q6b{G:Geo}(hG:G.OK){Ro Ls rides:LL}{nm:List UInt8}{w:Int}{i:Nat}{r:List D}{x y:Int}{b:Bool}(p0:90<=per)(p1:per<=300)(am:Q1s Sk)(hr:rides[i]? = some r)(hR:PA G Ro r x y b)(hb:i+1=rides.length->b=true)(hl:rides.length<=2)(ac:∀j,j+1=i->∃r' x' b',rides[j]? = some r'/\PA G Ro r' x' x b'):JD 400 G.St G.Pt G.Se G.Li per Sk Ro Ls Ch Tu Sy De nm 0 w rides (i:Int) (some:Int->oP Int)=some 0:=by
 obtain⟨rt,ex,mn,mx,s,rfl,aa,hs,⟨h,k⟩,⟨e,f,l,m⟩,hlast⟩:=hR;obtain⟨a,v,c,d,rfl,hk⟩:=am;have a2:rt<Ro.length:=(Qqd.1 aa).1;have hi:i<rides.length:=(Qqd.1 hr).1;have ai:(bif ((i:Int) == (wJ (((List.length rides:Nat):Int)-(1:Int))))then(bif (mn != (0:Int))then true else(mx != (0:Int)))else false)=false:=by
  by_cases g:i+1=rides.length
  ·obtain⟨rfl,rfl⟩:=hlast (hb g);rw[show((0:Int) != 0)=false from rfl];cases ((i:Int) == (wJ (((List.length rides:Nat):Int)-(1:Int))))<;>rfl
  ·rw[Qo Q0 Q0,show((i:Int) == (rides.length:Int)-1)=false by simp;omega];rfl
 unfold JD;rw[Qt,hr];simp -implicitDefEqProofs only[Qh,Qq5,Qq6,Qj,XQ,X4,Qq9,Qq8,Qqc,Qqb,jn,show decide ((rt:Int)<0)=false by simp,show decide ((rt:Int)>=(Ro.length:Int))=false by simp;omega,show decide (ex<0)=false by simp;omega,show decide (ex>=per)=false by simp;omega,Q5u e f (show mx<mn+per by omega) Q0 p1,ai,Qt,aa,show Qi [[D.str (bs [88]),Ql a,Ql v,Ql c,Ql d]] (0:Int)=some [D.str (bs [88]),Ql a,Ql v,Ql c,Ql d]from rfl,Qh9 hG.lay rfl hs.l2 hs.l24 hs.rt hs.st hk,show((0:Int) != 0)=false from rfl];cases i with
 |zero=>
  rw[show decide (((0:Nat):Int)>0)=false from rfl];simp only[gbF,Qq8]
 |succ j=>
  obtain⟨r',x',b',aq,ar⟩:=ac j rfl;obtain⟨ay,aw,ax,a3,s',rfl,ak,ao,_⟩:=ar;simp -implicitDefEqProofs only[Qh,Qq5,Qq6,Qj,XQ,X4,Qq9,Qq8,Qqc,Qqb,show decide (((j+1:Nat):Int)>0)=true by simp,Q5E aa hs,show wJ (((j+1:Nat):Int)-1)=(j:Int) by rw[Qo Q0 Q0];omega,Qt,aq,Qaw ak ao,show(x != x)=false by simp]
theorem Qc6{G:Geo}(hG:G.OK){Ro Ls rides:LL}{nm:List UInt8}{w:Int}(p0:90<=per)(p1:per<=300)(aa:Q1s Sk)(h:Q3Y G Ro rides):(rides.length=1\/rides.length=2)/\∀i,i<rides.length->JD 400 G.St G.Pt G.Se G.Li per Sk Ro Ls Ch Tu Sy De nm 0 w rides (i:Int) (some:Int->oP Int)=some 0:=by
 rcases h with⟨r,x,y,rfl,h⟩|⟨r,r',x,y,z,rfl,h,h'⟩
 ·refine⟨.inl rfl,λi hi=>?_⟩;have hi:i=0:=by simpa using hi
  subst hi;exact Q6b hG p0 p1 aa rfl h (λ_=>rfl) Q2 λj hj=>by omega
 ·refine⟨.inr rfl,λi hi=>?_⟩;obtain rfl | rfl:i=0\/i=1:=by simp at hi;omega
  ·exact Q6b hG p0 p1 aa rfl h (λh=>by simp at h) Q2 λj hj=>by omega
  ·refine Q6b hG p0 p1 aa rfl h' (λ_=>rfl) Q2 λj hj=>?_
   have hj:j=0:=Q0
   subst hj;exact⟨r,x,false,rfl,h⟩
end
theorem Qfp{R:Type}{G:Geo}{Sk Ro Ls Ch Tu Sy De:LL}{per:Int}(h:PlanR G per Sk Ro Ls Ch Tu Sy De)(K:Int->oP R):V3 400 G.St G.Pt G.Se G.Li per Sk Ro Ls Ch Tu Sy De K=K 0:=by
 have l1:=h.l1;obtain⟨_,_,_,_,am,_⟩:=h.sk;have ai:Sk.length=1:=by rw[am];rfl
 unfold V3;refine QY (r:=λm h=>ZK 400 Ls (Ls.length:Int) G.St G.Pt G.Se G.Li per Sk Ro Ls Ch Tu Sy De _ _ m h) (N:=Ls.length) (λm k hk=>?_) (λm=>?_) Ls.length 400 0 Q0 Q0
 ·obtain⟨w,rides,e,w0,a,aa⟩:=h.good.ls k _ (Qqa hk);obtain⟨ak,ac⟩:=Qc6 (Ls:=Ls) (Ch:=Ch) (Tu:=Tu) (Sy:=Sy) (De:=De) (nm:=nmN k) (w:=w) h.ok h.p0 h.p1 h.sk aa;rw[ZK,Qs hk,Qt,Qqa hk,e];simp -implicitDefEqProofs only[Qh,Qq5,Qq6,Qj,XQ,X4,Qq9,Qq8,Qqc,Qqb,QiD (show k<8 by omega),Q2y (Nat.le_of_lt hk),Q3N h.good (show k<8 by omega) hk,jn,show decide ((0:Int)<0)=false from rfl,ai,show decide ((0:Int)>=((1:Nat):Int))=false from rfl,Q92 w0 (show w<=1000 by omega),show((rides.length:Int) == 0)=false by simp;intro hx;simp[hx]at ak];refine(QY (r:=λm h=>ZM 400 (rides.length:Int) G.St G.Pt G.Se G.Li per Sk Ro Ls Ch Tu Sy De (nmN k) 0 w rides _ _ m h) (N:=rides.length) (λm i hi=>?_) (λm=>?_) rides.length 400 0 Q0 Q0)
  ·rw[ZM,Qs hi];simp -implicitDefEqProofs only[Qh,Qq5,Qq6,Qj,XQ,X4,Qq9,Qq8,Qqc,Qqb,ac i hi,show((0:Int) != 0)=false from rfl,QJ (show i<=1000 by omega)]
  ·rw[ZM,Qy,Qq8,QJ Q0]
 ·rw[ZK,Qy,Qq8]
theorem Mw{α:Type}{l:List α}(h:l.Nodup){i:Nat}(hi:i<l.length):∀x∈l.take i,x≠l[i]:=by
 intro x hx e;subst e;obtain⟨j,hj,e⟩:=List.getElem_of_mem hx;simp at hj;rw[List.getElem_take]at e;have:=(List.nodup_iff_pairwise_ne.1 h);have:=List.pairwise_iff_getElem.1 this j i Q0 hi Q0;exact this e
theorem Q4W{a b:Int}{T:List Tup}(ht:∀t∈T,(t.1:Int)≠a/\(t.2.1:Int)≠b)(hl:T.length<=30):QF 400 (T.map tuR) a b some=some false:=by
 have aa:(T.map tuR).length=T.length:=by simp
 unfold QF Xb;rw[aa];refine(congrArg (λE=>gb true E 0 λc=>some (decide (c>=(0:Int)))) (a₂:=some (-1)) (QY (r:=λm h=>Qr 400 (T.map tuR) (T.length:Int) a b _ _ m h) (N:=T.length) (λm h hh=>?_) (λm=>?_) T.length 400 0 Q0 Q0)).trans rfl
 ·have e:(T.map tuR)[h]? = some (tuR T[h]):=by rw[Qqq,Qqa hh];rfl
  obtain⟨n1,n2⟩:=ht _ (Qqj hh);rw[Qr,Qs hh,Qt,e];simp -implicitDefEqProofs only[Qh,Qq5,Qq6,Qj,XQ,X4,Qq9,Qq8,Qqc,Qqb,tuR,ZU,show((T[h].1:Int) == a)=false by simpa using n1,show((T[h].2.1:Int) == b)=false by simpa using n2,QJ (show h<=1000 by omega)]
 ·rw[Qr,Qy,Qq8]
section
variable{R:Type} {G:Geo} {Sk Ro Ls Ch Tu Sy De:LL} {per:Int} (h:PlanR G per Sk Ro Ls Ch Tu Sy De)
include h
theorem QbP(K:Int->oP R):Wy 400 G.St G.Pt G.Se G.Li per Sk Ro Ls Ch Tu Sy De K=K 0:=by
 have l2:=h.chl;have p1:=h.p1;unfold Wy;refine QY (r:=λm h=>YU 400 Ch (Ch.length:Int) G.Se per Sk Ro Ls Ch Tu Sy De _ _ m h) (N:=Ch.length) (λm k hk=>?_) (λm=>?_) Ch.length 400 0 Q0 Q0
 ·obtain⟨f,fr,t,tr,mn,mx,w,r,r',x,y,x',y',b,b',i,e,hr,aa,hR,ao,a4,⟨a,j,c,d⟩,⟨w0,l⟩,⟨o,a1,c1,d1,g1⟩,⟨p,a2,q,u,g⟩,hi⟩:=h.ch _ (Qqj hk);have hb:=Bd (R:=Bool) (per:=per) (Sk:=Sk) (Ro:=Ro) (Ch:=Ch) (Tu:=Tu) (Sy:=Sy) (De:=De) (n:=400) hr;have aq:=Bd (R:=Bool) (per:=per) (Sk:=Sk) (Ro:=Ro) (Ch:=Ch) (Tu:=Tu) (Sy:=Sy) (De:=De) (n:=400) aa;obtain⟨nm,v,rides,e1,e2⟩:=hr;obtain⟨a6,v',ai,ar,ak⟩:=aa;obtain⟨rt,ex,rn,rx,s,rfl,an,hs,_⟩:=hR;obtain⟨ay,aw,a5,az,s',rfl,ac,am,_⟩:=ao;rw[YU,Qs hk,Qt,Qqa hk,e];simp -implicitDefEqProofs only[Qh,Qq5,Qq6,Qj,XQ,X4,Qq9,Qq8,Qqc,Qqb,hb,aq,Q5u a c d (show mn<=1000 by omega) p1,Q92 w0 (show w<=1000 by omega),show((f:Int) == (t:Int))=false by simp;omega,Qt,e1,e2,ar,ak,Qaw an hs,Q5E ac am,g1,g,show(i == (-1:Int))=false by simp;omega,show(i != i)=false by simp,QJ (show k<=1000 by omega)]
 ·rw[YU,Qy,Qq8]
theorem Qg0(K:Int->oP R):V2 400 G.St G.Pt G.Se G.Li per Sk Ro Ls Ch Tu Sy De K=K 0:=by
 obtain⟨T,hT,t1,t2,a,p⟩:=h.tu;have hl:Tu.length=T.length:=by rw[hT];simp
 have p0:=h.p0;have p1:=h.p1;unfold V2;rw[hl];refine QY (r:=λm h=>ZR 400 Tu (T.length:Int) per Sk Ro Ls Ch Tu Sy De _ _ m h) (N:=T.length) (λm k hk=>?_) (λm=>?_) T.length 400 0 Q0 Q0
 ·have e:Tu[k]? = some (tuR T[k]):=by rw[hT,Qqq,Qqa hk];rfl
  obtain⟨c,d,q,u,f,v,nm,w,rides,r,r',x,y,z,b,b',e1,e2,e3,e4,⟨a4,w',aa,g,j⟩,hR,ar⟩:=t1 _ (Qqj hk);obtain⟨rt,ex,rn,rx,s,rfl,ao,hs,_⟩:=hR;obtain⟨aw,an,ay,ax,s',rfl,ak,am,_⟩:=ar;have ac:cut Tu (0,k)=(T.take k).map tuR:=by rw[F2,hT,List.map_take]
  have ai:∀t∈T.take k,(t.1:Int)≠(T[k].1:Int)/\(t.2.1:Int)≠(T[k].2.1:Int):=by
   intro t ht;have l:=Mw t2 (i:=k) (by simpa using hk) t.1 (by rw[<- List.map_take];exact List.mem_map_of_mem ht);have h2:=Mw a (i:=k) (by simpa using hk) t.2.1 (by rw[<- List.map_take];exact List.mem_map_of_mem ht);rw[List.getElem_map]at l h2;exact⟨Q0,Q0⟩
  rw[ZR,Qs hk,Qt,e];simp -implicitDefEqProofs only[Qh,Qq5,Qq6,Qj,XQ,X4,Qq9,Qq8,Qqc,Qqb,tuR,Q32 c,Q32 d,Q5u (Sk:=Sk) (Ro:=Ro) (Ls:=Ls) (Ch:=Ch) (Tu:=Tu) (Sy:=Sy) (De:=De) (n:=400) (show 0<=T[k].2.2.1 by omega) f (show T[k].2.2.2<T[k].2.2.1+per by omega) Q0 p1];rw[hl,Q2y Q0,Qh,ac,Q4W ai Q3];have hw:wJ ((rides.length:Int)-1)=((rides.length-1:Nat):Int):=by rw[Qo Q0 Q0];omega
  have o:Qi aa (0:Int)=some [Ql aw,Ql an,Ql ay,Ql ax]:=(Qt aa 0).trans j;simp -implicitDefEqProofs only[Qh,Qq5,Qq6,Qj,XQ,X4,Qq9,Qq8,Qqc,Qqb,Qt,e1,g,hw,e2,o,Qaw ao hs,Q5E ak am,show(y != y)=false by simp,show((0:Int) != 0)=false from rfl,QJ (show k<=1000 by omega)]
 ·rw[ZR,Qy,Qq8]
theorem QdT(K:Int->oP R):Jg 400 G.St G.Pt G.Se G.Li per Sk Ro Ls Ch Tu Sy De K=K 0:=by
 unfold Jg Qah;rw[Qh1 h,QeA h.sk,Qdt h,Qfp h,QbP h,Qg0 h,QgU h,QbE h];rfl
end
section
variable{R:Type} {n:Nat}
theorem Q5e{x lo hi:Int}(a:lo<=x)(b:x<=hi)(K:Bool->oP R):Hw n x lo hi K=K true:=inT (n:=n) a b K
theorem Q5f{x lo hi:Int}(a:lo<=x)(b:x<=hi)(K:Bool->oP R):VI n x lo hi K=K true:=inT (n:=n) a b K
theorem QfS{a b g:Int}{acc:LL}(c:0<=a)(d:a<=12)(hc:acc.length<=1000){k0:Int->Bool->LL->oP R}{m:Nat}(hm:12<m):Ue n g (Ql a) (Ql b) k0 m 0 acc=k0 a false (acc++List.replicate a.toNat [Ql b,Ql g]):=by
 have hl:∀h:Nat,(acc++List.replicate h [Ql b,Ql g]).length=acc.length+h:=λh=>by simp
 have:=QY (r:=λm h=>Ue n g (Ql a) (Ql b) k0 m h (acc++List.replicate h.toNat [Ql b,Ql g])) (N:=a.toNat) (e:=k0 a false (acc++List.replicate a.toNat [Ql b,Ql g])) (λm h hh=>?_) (λm=>?_) a.toNat m 0 Q0 Q0
 ·simpa using this
 ·simp only[Qq7];rw[Ue,Qj,Qh,Xh Q3,Qj,Qh,hl,XI (by simp only[Qqt,Qqw];omega),Qh,QJ Q0,List.append_assoc,<- List.replicate_succ']
 ·rw[Ue,Qj,Qh,Qp Q3];simp only[Qq7];rw[show(a.toNat:Int)=a by omega];simp
theorem Qh5{Se s:LL}{k0:Int->Bool->LL->oP R}(hs:∀row∈s,Dc Se row)(hl:s.length<=30){m:Nat}(hm:s.length<m)(hn:12<n):Uo n Se s 0 k0 m 0 []=k0 (s.length:Int) false (Yw Se s):=by
 have hc:=λh:Nat=>(PN (s:=s.take h) λr hr=>hs r (List.mem_of_mem_take hr)).1
 have hw:wJ ((s.length:Int)-0)=(s.length:Int):=by rw[Qo Q0 Q0];omega
 refine QY (r:=λm h=>Uo n Se s 0 k0 m h (Yw Se (s.take h.toNat))) (N:=s.length) (λm h hh=>?_) (λm=>?_) s.length m 0 Q0 hm
 ·have e:=Qqa hh;obtain⟨x,d,nm,a,b,c,st,hx,aa,f,hd⟩:=hs _ (Qqj hh);rw[hx]at e;have a0:=f.a0;have a1:=f.a1;have ai:=hc h;simp only[List.length_take]at ai;simp only[Qq7,MC e,Hk aa];rw[Uo,hw,Qs hh];simp -implicitDefEqProofs only[Qh,Qq5,Qq6,Qj,XQ,X4,Qq9,Qq8,Qqc,Qqb,Qt,e,aa,QfS (n:=n) (b:=b) (acc:=Yw Se (s.take h)) (show 0<=a by omega) a1 Q0 hn,QJ (show h<=1000 by omega)];rw[Qo (x:=0-c) (by have:=f.c1;omega) (by have:=f.c0;omega),Int.zero_sub];cases g:d == (1:Int)<;>rfl
 ·simp only[Qq7];rw[Uo,hw,Qy,Qq8,Qqz]
end
structure RtF(St Pt Se Li s:LL):Prop where
 lay:Py 400 St Pt Se Li=true
 ref:Qbd St Pt Se Li=true
 l2:2<=s.length
 l24:s.length<=24
 rt:rtB Se.length Li s=true
 rt6:Qhz Se.length Li s=true
 hops:Q0q Se.length Pt.length Li 0 s=true
 st:∀r∈s,Dc Se r
theorem RtOK.f{G:Geo}(hG:G.OK){s:LL}{x y:Int}(h:RtOK G s x y):RtF G.St G.Pt G.Se G.Li s:=⟨hG.lay,hG.ref,h.l2,h.l24,h.rt,h.rt6,h.hops,h.st⟩
section
variable{St Pt Se Li s:LL} (h:RtF St Pt Se Li s)
include h
theorem Qa3:Sa 400 St Pt Se Li s 0 Tu3=some (Yw Se s,T8 Se s,0):=by
 have l2:=h.l2;have l24:=h.l24;have hl:=(PN h.st).1;obtain⟨row,rest,rfl⟩:∃row rest,s=row::rest:=by
  cases s with
  |nil=>simp at l2
  |cons a b=>exact⟨a,b,rfl⟩
 obtain⟨x,d,nm,a,b,c,st,rfl,hs,_,_⟩:=h.st row Q2;have hf:T8 Se ([Ql x,Ql d]::rest)=a:=by simp only[T8,hs]
 generalize hS:[Ql x,Ql d]::rest=s at *
 unfold Sa;rw[Q51 h.ref rfl h.l2 h.l24 h.rt6,Qh,Qp Q1,Qh5 h.st Q0 Q0 Q1,Qp Q3,show Qi s (0:Int)=some [Ql x,Ql d] by rw[<- hS];rfl];simp -implicitDefEqProofs only[Qh,Qq5,Qq6,Qj,XQ,X4,Qq9,Qq8,Qqc,Qqb,hs,hf]
theorem Qap{nm:List UInt8}{tl sp ac br:Int}(hk:StkN tl sp ac br):SE 400 St Pt Se Li s 0 nm tl sp ac br (some:Int->oP Int)=some 0:=by
 have l24:=h.l24;have hw:wJ ((s.length:Int)-0)=(s.length:Int):=by rw[Qo Q0 Q0];omega
 have ai:Yb 400 nm tl sp ac br (some:Bool->oP Bool)=some true:=by
  obtain⟨t1,t2,s1,s2,a1,a2,b1,b2⟩:=hk;unfold Yb;simp -implicitDefEqProofs only[Qh,Qq5,Qq6,Qj,XQ,X4,Qq9,Qq8,Qqc,Qqb,Q5e t1 (show tl<=40 by omega),Q5e (show 1000<=sp by omega) (show sp<=100000 by omega),Q5e (show 100<=ac by omega) (show ac<=2000 by omega),Q5e (show 100<=br by omega) (show br<=2000 by omega)]
 unfold SE;rw[Qa3 h,Qh,Qp (by rfl),ai,Qh,Qp Q1];refine QY (r:=λm h=>G8 400 Se s 0 tl _ _ m h) (N:=s.length) (λm k e=>?_) (λm=>?_) s.length 400 0 Q0 Q0
 ·obtain⟨x,d,ak,a,b,c,st,hx,aa,hn,_⟩:=h.st _ (Qqj e);have a0:=hn.a0;have t2:=hk.t2;rw[G8,hw,Qs e,Qt,Qqa e,hx];simp -implicitDefEqProofs only[Qh,Qq5,Qq6,Qj,XQ,X4,Qq9,Qq8,Qqc,Qqb,aa,show decide (a<if 2<tl then tl else 2)=false by simp;split<;>omega,QJ (show k<=1000 by omega)]
 ·rw[G8,hw,Qy,Qq8]
end
def QbS(x r:Int):Prop:=0<=r/\r*r<=x/\x<(r+1)*(r+1)
theorem Q5C{a b:Int}(c:0<=a)(h:a<=b):a*a<=b*b:=Int.mul_le_mul h h c Q0
theorem Q4i{x r s:Int}(h:QbS x r)(g:QbS x s):r=s:=by
 obtain⟨a0,a1,a2⟩:=h;obtain⟨b0,b1,b2⟩:=g;rcases Int.lt_trichotomy r s with h | h | h
 ·have:=Q5C (show 0<=r+1 by omega) (show r+1<=s by omega);omega
 ·exact h
 ·have:=Q5C (show 0<=s+1 by omega) (show s+1<=r by omega);omega
theorem Q9H{x r b:Int}(c:0<=r)(hb:0<=b)(h:r*r<=x)(hx:x<(b+1)*(b+1)):r<=b:=by
 by_cases a:r<=b
 ·exact a
 ·have:=Q5C (show 0<=b+1 by omega) (show b+1<=r by omega);omega
theorem Qkg{a:Int}(b:0<=a)(c:a<=9223372036854775807):shR .i64 a 1=a / 2:=by
 show a.fdiv 2=a / 2;exact Int.fdiv_eq_ediv_of_nonneg a Q1
theorem Qhj{R:Type}{n:Nat}{x:Int}(a:0<=x)(hx:x<=1000000000){k0:Int->Int->Bool->oP R}:∀(k m:Nat) (aa:Int),k<=31->k+1<m->0<=aa->aa*aa<=x->x<(aa+2 ^ (k+1))*(aa+2 ^ (k+1)) ->
  ∃r,QbS x r/\Vk n x k0 m aa (2 ^ k)=k0 r 0 false
 |k,m+1,aa,hk,hm,b,c,d=>by
  have hr:aa<=40000:=Q9H b Q1 c Q0;have hp:∀j:Nat,(1:Int)<=2 ^ j:=λj=>by
   have:=Int.ofNat_le.2 (Nat.two_pow_pos j);rw[Int.natCast_pow]at this;exact this
  have f:(2:Int) ^ k<=2147483648:=by
   have:=Int.ofNat_le.2 (Nat.le_trans (Nat.pow_le_pow_right (show 0<2 by decide) hk) (show 2 ^ 31<=2147483648 by decide));rw[Int.natCast_pow]at this;exact this
  have g:=hp k;have hw:wJ (aa+2 ^ k)=aa+2 ^ k:=Qo Q0 Q0;have hs:(2:Int) ^ (k+1)=2 ^ k+2 ^ k:=by rw[Int.pow_succ];omega
  have ai:Int.tdiv x (aa+2 ^ k)=x / (aa+2 ^ k):=Qqv a;have i:0<=x / (aa+2 ^ k):=Int.ediv_nonneg a Q0;have l:x / (aa+2 ^ k)<=x:=Int.ediv_le_self _ a;have e:wJ (Int.tdiv x (aa+2 ^ k))=x / (aa+2 ^ k):=by rw[ai,Qo Q0 Q0]
  have ac:(aa+2 ^ k<=x / (aa+2 ^ k))↔(aa+2 ^ k)*(aa+2 ^ k)<=x:=Int.le_ediv_iff_mul_le Q0;have step:∀r:Int,0<=r->r*r<=x->x<(r+2 ^ k)*(r+2 ^ k)->∃r',QbS x r'/\Vk n x k0 m r (shR .i64 (2 ^ k) 1)=k0 r' 0 false:=by
   intro r a0 a1 a2;rw[Qkg Q0 Q0];cases k with
   |zero=>
    refine⟨r,⟨a0,a1,by simpa using a2⟩,?_⟩;obtain⟨m,rfl⟩:∃m',m=m'+1:=⟨m-1,Q0⟩;rfl
   |succ k=>
    rw[show(2:Int) ^ (k+1) / 2=2 ^ k by rw[Int.pow_succ,Int.mul_ediv_cancel _ Q1]];exact Qhj a hx k m r Q0 Q0 a0 a1 a2
  rw[Vk,Xh Q3,hw,CR Q0,Qh,e];by_cases h:(aa+2 ^ k)*(aa+2 ^ k)<=x
  ·rw[Xh (by simpa using ac.2 h)];exact step _ Q0 h (by rw[Int.add_assoc,<- hs];exact d)
  ·rw[Qp (by simpa using λh'=>h (ac.1 h'))];exact step aa b c Q0
theorem QiQ{x:Int}(a:0<=x)(hx:x<=1000000000):∃r,QbS x r/\Sg 400 x (some:Int->oP Int)=some r:=
 Qhj a hx 31 400 0 Q1 Q1 Q1 (by simpa using a) Q0
theorem Qef{R:Type}{n:Nat}{x:Int}(a:0<=x)(hx:x<=1000000000){k0:Int->Int->Bool->oP R}:∀(k m:Nat) (lo hi:Int),k<m->0<=lo->lo<=hi->hi<=3037000499->hi-lo<2 ^ k->lo*lo<=x->x<(hi+1)*(hi+1) ->
  ∃r,QbS x r/\VV n x k0 m lo hi=k0 r r false
 |k,m+1,lo,hi,hm,l0,l1,l2,hk,b,c=>by
  by_cases h:lo<hi
  ·obtain⟨k,rfl⟩:∃k',k=k'+1:=by
    cases k with
    |zero=>simp at hk;omega
    |succ k=>exact⟨k,rfl⟩
   have hs:(2:Int) ^ (k+1)=2 ^ k+2 ^ k:=by rw[Int.pow_succ];omega
   have e:wJ (Int.tdiv (wJ ((wJ (lo+hi))+(1:Int))) (2:Int))=(lo+hi+1) / 2:=by
    rw[Qo (x:=lo+hi) Q0 Q0,Qo (x:=lo+hi+1) Q0 Q0,Qqv Q0,Qo Q0 Q0]
   rw[VV,Xh (by simpa using h),CR Q1,Qh,e];have aa:lo<(lo+hi+1) / 2/\(lo+hi+1) / 2<=hi:=Q0
   generalize hM:(lo+hi+1) / 2=mid at *
   have ac:=Q5C (show 0<=mid by omega) (show mid<=3037000499 by omega);have d:=Int.mul_nonneg (show 0<=mid by omega) (show 0<=mid by omega);rw[Qo (x:=mid*mid) Q0 Q0];by_cases hq:mid*mid<=x
   ·rw[Xh (by simpa using hq)];exact Qef a hx k m mid hi Q0 Q0 Q0 l2 Q0 hq c
   ·rw[Qp (by simpa using hq),Qo Q0 Q0];exact Qef a hx k m lo (mid-1) Q0 l0 Q0 Q0 Q0 b (by rw[Int.sub_add_cancel];omega)
  ·obtain rfl:lo=hi:=Q0
   rw[VV,Qp Q2];exact⟨lo,⟨l0,b,c⟩,by simp⟩
theorem Qih{x r:Int}(a:0<=x)(hx:x<=1000000000)(hr:QbS x r):Mn 400 x (some:Int->oP Int)=some r:=by
 unfold Mn;by_cases h:x<=0
 ·rw[Xh (by simpa using h)];have:QbS x 0:=⟨by decide,Q0,Q0⟩;rw[Q4i hr this]
 ·rw[Qp (by simpa using h)];obtain⟨r',b,h2⟩:=Qef (R:=Int) (n:=400) (k0:=λw _ _=>some w) a hx 32 400 0 3037000499 Q1 Q1 Q1 Q1 Q1 Q0 Q0;rw[Q4i hr b];exact h2
def cl(C:LL)(k:Nat):Int×Int:=match C[k]? with
 |some [.int _ b,.int _ g]=>(b,g)
 |_=>(0,0)
structure CellsOK(C:LL):Prop where
 row:∀k,k<C.length->C[k]? = some [Ql (cl C k).1,Ql (cl C k).2]
 b0:∀k,k<C.length->5000<=(cl C k).1
 b1:∀k,k<C.length->(cl C k).1<=35000
 g0:∀k,k<C.length -> -10<=(cl C k).2
 g1:∀k,k<C.length->(cl C k).2<=10
 len:C.length<=300
theorem Q9c{Se:LL}:∀{s:LL},(∀row∈s,Dc Se row)->s.length<=24->CellsOK (Yw Se s):=by
 intro s h hl;have hm:∀r∈Yw Se s,∃b g:Int,r=[Ql b,Ql g]/\5000<=b/\b<=35000 /\ -10<=g/\g<=10:=by
  intro r hr;obtain⟨row,f,h2⟩:=List.mem_flatMap.1 hr;obtain⟨x,d,nm,a,b,c,st,rfl,hs,hn,_⟩:=h _ f;rw[Hk hs]at h2;have i:=List.eq_of_mem_replicate h2;have c0:=hn.c0;have c1:=hn.c1;refine⟨_,_,i,hn.b0,hn.b1,?_⟩;cases (d == (1:Int))
  ·exact⟨c0,c1⟩
  ·show -10 <= -c /\ -c<=10;omega
 have hat:∀k,k<(Yw Se s).length->(Yw Se s)[k]? = some [Ql (cl (Yw Se s) k).1,Ql (cl (Yw Se s) k).2]/\5000<=(cl (Yw Se s) k).1/\(cl (Yw Se s) k).1<=35000 /\ -10<=(cl (Yw Se s) k).2/\(cl (Yw Se s) k).2<=10:=by
  intro k hk;obtain⟨b,g,e,f⟩:=hm _ (Qqj hk);have e2:(Yw Se s)[k]? = some [Ql b,Ql g]:=by rw[Qqa hk,e]
  simp only[cl,e2];exact⟨trivial,f⟩
 have:=(PN h).1;exact⟨λk hk=>(hat k hk).1,λk hk=>(hat k hk).2.1,λk hk=>(hat k hk).2.2.1,λk hk=>(hat k hk).2.2.2.1,λk hk=>(hat k hk).2.2.2.2,Q0⟩
def Qav(v:Int)(r:List D):Int:=match r with
 |.int _ b::_=>if b<v then b else v
 |_=>v
def win(C:LL)(k t:Nat):LL:=(C.drop (k-t)).take (k+1-(k-t))
def Q84(C:LL)(sp:Int)(k t:Nat):Int:=(win C k t).foldl Qav sp
theorem QaQ{C:LL}(hC:CellsOK C){k t i:Nat}(hk:k<C.length)(hi:i<k+1-(k-t)):(win C k t)[i]? = some [Ql (cl C (k-t+i)).1,Ql (cl C (k-t+i)).2]:=by
 unfold win;rw[List.getElem?_take_of_lt hi,List.getElem?_drop,hC.row _ Q0]
theorem Q6e{C:LL}{k t:Nat}(hk:k<C.length):(win C k t).length=k+1-(k-t):=by
 unfold win;simp;omega
theorem Qbs{C:LL}(hC:CellsOK C){sp:Int}{k t:Nat}(hk:k<C.length)(d:10000<=sp)(c:sp<=25000):5000<=Q84 C sp k t/\Q84 C sp k t<=25000:=by
 have hm:∀r∈win C k t,∃b g:Int,r=[Ql b,Ql g]/\5000<=b:=by
  intro r hr;obtain⟨i,hi,rfl⟩:=List.getElem_of_mem hr;have aa:=hi;rw[Q6e hk]at aa;have e:=QaQ hC hk aa;rw[Qqa hi]at e;injection e with e
  exact⟨_,_,e,hC.b0 _ Q0⟩
 unfold Q84;revert hm;generalize win C k t=L;intro hm;have:∀(L:LL) (v:Int),(∀r∈L,∃b g:Int,r=[Ql b,Ql g]/\5000<=b)->5000<=v->v<=25000->5000<=L.foldl Qav v/\L.foldl Qav v<=25000:=by
  intro L;induction L with
  |nil=>exact λv _ a b=>⟨a,b⟩
  |cons r L ih=>
   intro v h a b;obtain⟨x,g,rfl,hx⟩:=h _ (List.mem_cons_self ..);refine ih _ (λr hr=>h r (List.mem_cons_of_mem _ hr)) ?_ ?_
   ·show 5000<=if x<v then x else v
    split<;>omega
   ·show(if x<v then x else v)<=25000;split<;>omega
 exact this L sp hm Q0 c
section
variable{C:LL} (hC:CellsOK C) {nm:List UInt8} {sp ac br:Int} {t k:Nat} (ht:t<=40)
include hC ht
omit hC in
theorem QfM(hk:k<=1000):(if (0:Int)<(wJ ((k:Int)-(t:Int)))then(wJ ((k:Int)-(t:Int)))else(0:Int))=((k-t:Nat):Int):=by
 rw[Qo Q0 Q0];split<;>omega
theorem Qk0(hk:k<C.length):JG 400 C (k:Int) nm (t:Int) sp ac br (some:Int->oP Int)=some (Q84 C sp k t):=by
 have hl:=hC.len;unfold JG;rw[QfM ht Q0,QJ Q0];have hs:slB C.length (some ((k-t:Nat):Int)) (some ((k+1:Nat):Int))=some (k-t,k+1):=by
  unfold slB;rw[show(decide ((0:Int)<=(some ((k-t:Nat):Int)).getD 0)&&(decide ((some ((k-t:Nat):Int)).getD 0<=(some ((k+1:Nat):Int)).getD (C.length:Int))&&decide ((some ((k+1:Nat):Int)).getD (C.length:Int)<=(C.length:Int))))=true by simp;omega];rfl
 rw[hs,Qh,show cut C (k-t,k+1)=win C k t from rfl];have hw:=Q6e (t:=t) hk;refine(QY (r:=λm h=>WA 400 (win C k t) (((win C k t).length:Nat):Int) _ m (((win C k t).take h.toNat).foldl Qav sp) h) (N:=(win C k t).length) (λm h hh=>?_) (λm=>?_) (win C k t).length 400 0 Q0 Q0)
 ·have e:=QaQ hC hk (show h<k+1-(k-t) by omega);simp only[Qq7];rw[WA,Qs hh,Qt,e,Zv e,List.foldl_append];simp -implicitDefEqProofs only[Qh,Qq5,Qq6,Qj,XQ,X4,Qq9,Qq8,Qqc,Qqb,QJ (show h<=1000 by omega)];rfl
 ·simp only[Qq7];rw[WA,Qy,Qq8,Qqz];rfl
theorem QjM(hk:k<C.length):PV 400 C (k:Int) nm (t:Int) sp ac br (some:Int->oP Int)=some (Q84 C sp k t):=by
 have hl:=hC.len;have hw:=Q6e (t:=t) hk;unfold PV;rw[QfM ht Q0];have:=QY (r:=λm h=>J3 400 C (k:Int) (λa b c=>some a) m (((win C k t).take h.toNat).foldl Qav sp) (((k-t:Nat):Int)+h)) (N:=(win C k t).length) (e:=some (Q84 C sp k t)) (λm h hh=>?_) (λm=>?_) (win C k t).length 400 0 Q0 Q0
 ·rw[show((k-t:Nat):Int)+((0:Nat):Int)=((k-t:Nat):Int) by omega]at this;exact this
 ·have e:=QaQ hC hk (show h<k+1-(k-t) by omega);have e2:=hC.row (k-t+h) Q0;simp only[Qq7];rw[J3,Xh Q3,show((k-t:Nat):Int)+(h:Int)=((k-t+h:Nat):Int) by omega,Qt,e2,Zv e,List.foldl_append,QJ Q0,show((k-t:Nat):Int)+((h+1:Nat):Int)=((k-t+h+1:Nat):Int) by omega];simp -implicitDefEqProofs only[Qh,Qq5,Qq6,Qj,XQ,X4,Qq9,Qq8,Qqc,Qqb];rfl
 ·simp only[Qq7];rw[J3,Qp Q3,Qqz];rfl
end
def arr(f:Nat->Int)(n:Nat):LL:=(List.range n).map λi=>[Ql (f i)]
theorem YY{f:Nat->Int}{n:Nat}:(arr f n).length=n:=by simp[arr]
theorem G4{f:Nat->Int}{n i:Nat}(h:i<n):(arr f n)[i]? = some [Ql (f i)]:=by simp[arr,h]
theorem XZ{f g:Nat->Int}{n:Nat}(h:∀i,i<n->f i=g i):arr f n=arr g n:=by
 refine List.map_congr_left λi hi=>?_
 rw[h i (by simpa using hi)]
theorem Qey{f:Nat->Int}{n i:Nat}{v:Int}:(arr f n).set i [Ql v]=arr (λj=>if j=i then v else f j) n:=by
 refine List.ext_getElem? λj=>?_
 by_cases hj:j<n
 ·rw[G4 hj];by_cases h:i=j
  ·subst h;rw[List.getElem?_set_self (by rw[YY];exact hj),Qqe rfl]
  ·rw[List.getElem?_set_ne h,G4 hj,Qqg (λe=>h e.symm)]
 ·rw[QqC (by simp[YY];omega),QqC (by simp[YY];omega)]
theorem Bc{n:Nat}:List.replicate n [Ql 0]=arr (λ_=>0) n:=by
 refine List.ext_getElem? λj=>?_
 by_cases hj:j<n
 ·rw[G4 hj];simp[hj]
 ·rw[QqC Q3,QqC (by simp[YY];omega)]
def acc(ac g:Int):Int:=if 0<g then(if 50<ac-10*g then ac-10*g else 50)else ac
def brk(br g:Int):Int:=if g<0 then(if 50<br+10*g then br+10*g else 50)else br
theorem Q5O{ac g:Int}(a1:400<=ac)(a2:ac<=800)(g0 : -10<=g)(g1:g<=10):300<=acc ac g/\acc ac g<=800:=by
 unfold acc;split
 ·split<;>omega
 ·omega
theorem Q5U{br g:Int}(a1:400<=br)(a2:br<=800)(g0 : -10<=g)(g1:g<=10):300<=brk br g/\brk br g<=800:=by
 unfold brk;split
 ·split<;>omega
 ·omega
section
variable{nm:List UInt8} {b t sp ac br g:Int} {n:Nat}
theorem Qfq(a1:400<=ac)(a2:ac<=800)(g0 : -10<=g)(g1:g<=10):MJ n b g nm t sp ac br (some:Int->oP Int)=some (acc ac g):=by
 unfold MJ acc;rw[Qo (x:=10*g) Q0 Q0,Qo (x:=ac-10*g) Q0 Q0];by_cases h:0<g
 ·rw[Xh (by simpa using h),Qqe h]
 ·rw[Qp (by simpa using h),Qqg h]
theorem Qh3(a1:400<=br)(a2:br<=800)(g0 : -10<=g)(g1:g<=10):MG n b g nm t sp ac br (some:Int->oP Int)=some (brk br g):=by
 unfold MG brk;rw[Qo (x:=10*g) Q0 Q0,Qo (x:=br+10*g) Q0 Q0];by_cases h:g<0
 ·rw[Xh (by simpa using h),Qqe h]
 ·rw[Qp (by simpa using h),Qqg h]
theorem Qi7(a1:400<=ac)(a2:ac<=800)(g0 : -10<=g)(g1:g<=10):T5 n b g nm t sp ac br (some:Int->oP Int)=some (20000*acc ac g):=by
 have hr:=Q5O a1 a2 g0 g1;unfold T5;rw[Qo (x:=10*g) Q0 Q0,Qo (x:=ac-10*g) Q0 Q0];unfold acc at hr ⊢;by_cases h:0<g
 ·rw[Qqe h]at hr ⊢;rw[Xh (by simpa using h),Qo Q0 Q0]
 ·rw[Qqg h]at hr ⊢;rw[Qp (by simpa using h),Qo Q0 Q0]
theorem Qir(a1:400<=br)(a2:br<=800)(g0 : -10<=g)(g1:g<=10):HR n b g nm t sp ac br (some:Int->oP Int)=some (20000*brk br g):=by
 have hr:=Q5U a1 a2 g0 g1;unfold HR;rw[Qo (x:=10*g) Q0 Q0,Qo (x:=br+10*g) Q0 Q0];unfold brk at hr ⊢;by_cases h:g<0
 ·rw[Qqe h]at hr ⊢;rw[Xh (by simpa using h),Qo Q0 Q0]
 ·rw[Qqg h]at hr ⊢;rw[Qp (by simpa using h),Qo Q0 Q0]
end
structure Run where
 C:LL
 nm:List UInt8
 sp:Int
 ac:Int
 br:Int
 t:Nat
 st:Nat
 N:Nat
structure Run.OK(X:Run):Prop where
 hC:CellsOK X.C
 hk:StkN X.t X.sp X.ac X.br
 hN:X.C.length=X.st+X.N
 h2:2<=X.N
namespace Run
variable(X:Run)
def lm(b:Nat):Int:=Q84 X.C X.sp (X.st+b) X.t
def lo(b:Nat):Int:=if X.lm b<X.lm (b-1)then X.lm b else X.lm (b-1)
def V(b:Nat):Int:=X.lo b*X.lo b
def G(b:Nat):Int:=20000*acc X.ac (cl X.C (X.st+b)).2
def L(b:Nat):Int:=20000*brk X.br (cl X.C (X.st+b)).2
def F:Nat->Int
 |0=>0
 |b+1=>if F b+X.G b<X.V (b+1)then F b+X.G b else X.V (b+1)
def K:Nat->Int
 |0=>0
 |d+1=>if K d+X.L (X.N-(d+1))<X.F (X.N-(d+1))then K d+X.L (X.N-(d+1))else X.F (X.N-(d+1))
variable{X} (h:X.OK)
include h
theorem Qdb{b:Nat}(hb:b<X.N):5000<=X.lm b/\X.lm b<=25000:=Qbs h.hC (by have:=h.hN;omega) h.hk.s1 h.hk.s2
theorem Qb7{b:Nat}(hb:b<X.N):5000<=X.lo b/\X.lo b<=25000:=by
 have a:=Qdb h hb;have h2:=Qdb h (b:=b-1) Q0;unfold lo;split<;>omega
theorem Qer{b:Nat}(hb:b<X.N):25000000<=X.V b/\X.V b<=625000000:=by
 obtain⟨a,h2⟩:=Qb7 h hb;have:=Q5C Q1 a;have:=Q5C Q0 h2;unfold V;omega
theorem QdD{b:Nat}(hb:b<X.N):6000000<=X.G b/\X.G b<=16000000:=by
 have hN:=h.hN;have:=Q5O h.hk.a1 h.hk.a2 (h.hC.g0 (X.st+b) Q0) (h.hC.g1 (X.st+b) Q0);unfold G;omega
theorem Qcy{b:Nat}(hb:b<X.N):6000000<=X.L b/\X.L b<=16000000:=by
 have hN:=h.hN;have:=Q5U h.hk.b1 h.hk.b2 (h.hC.g0 (X.st+b) Q0) (h.hC.g1 (X.st+b) Q0);unfold L;omega
theorem QbH:∀b,b<X.N->0<=X.F b/\X.F b<=625000000/\(1<=b->6000000<=X.F b)
 |0,_=>by rw[F];omega
 |b+1,hb=>by
  have a:=QbH b Q0;have h2:=Qer h hb;have c:=QdD h (b:=b) Q0;rw[F];split<;>omega
theorem Q5r:∀d,d<=X.N->0<=X.K d/\X.K d<=625000000/\(1<=d->d<X.N->6000000<=X.K d)
 |0,_=>by rw[K];omega
 |d+1,hd=>by
  have a:=Q5r d Q0;have h2:=QbH h (X.N-(d+1)) Q0;have c:=Qcy h (b:=X.N-(d+1)) Q0;rw[K];split<;>omega
theorem Qi6:X.K X.N=0:=by
 have h2:=h.h2;obtain⟨d,hd⟩:∃d,X.N=d+1:=⟨X.N-1,Q0⟩;have a:=Q5r h d Q0;have c:=Qcy h (b:=0) Q0;rw[hd,K,show X.N-(d+1)=0 by omega,F,Qqg Q0]
theorem row{b:Nat}(hb:b<X.N):X.C[X.st+b]? = some [Ql (cl X.C (X.st+b)).1,Ql (cl X.C (X.st+b)).2]:=h.hC.row _ (by have:=h.hN;omega)
end Run
theorem Qbj{f:Nat->Int}{n i:Nat}{v:Int}(h:i<n){R:Type}(K:LL->oP R):gb true (inB n (i:Int)) () (λ_=>gb true ((arr f n)[(Int.toNat (i:Int))]?) [] λr=>K ((arr f n).set (Int.toNat (i:Int)) (List.set r 0 (D.int .i64 v))))=K (arr (λj=>if j=i then v else f j) n):=by
 rw[XP Q0 Q0,Qh,Qq7,G4 h,Qh];show K ((arr f n).set i [Ql v])=_;rw[Qey]
theorem Q8L{f:Nat->Int}{n i:Nat}(h:i<n){R:Type}(K:Int->oP R):gb true (inB n (i:Int)) () (λ_=>gb true ((arr f n)[(Int.toNat (i:Int))]?) [] λr=>gb true (r[0]?) oF λc=>gb true (pIw c) 0 λx=>K x)=K (f i):=by
 rw[XP Q0 Q0,Qh,Qq7,G4 h];rfl
theorem wI{a b:Int}(h:a=b)(c : -1000000<=b)(d:b<=1000000000):wJ a=b:=by rw[h,Qo Q0 Q0]
namespace Run
variable{X:Run} (h:X.OK)
include h
def W(X:Run):LL:=arr (λj=>X.K (X.N-j)) (X.N+1)
theorem sqA:JO 400 X.C (X.st:Int) X.nm (X.t:Int) X.sp X.ac X.br (some:LL->oP LL)=some X.W:=by
 have hN:=h.hN;have h2:=h.h2;have hl:=h.hC.len;have t2:=h.hk.t2;have ak:wJ (wJ ((X.C.length:Int)-(X.st:Int))+1)=((X.N+1:Nat):Int):=by
  rw[Qo (x:=(X.C.length:Int)-(X.st:Int)) Q0 Q0,Qo Q0 Q0];omega
 unfold JO;rw[ak,show(bif decide ((0:Int)<=((X.N+1:Nat):Int))&&decide (((X.N+1:Nat):Int)<=((X.N+1:Nat):Int))then some ()else none)=some () by rw[Xh Q3],Qh,Qq7,XI Q0,Qh,Qk0 h.hC Q0 Q0,Qh,Bc,QJ Q0];have k:∀k0:Int->Int->Bool->LL->oP LL,YB 400 X.C (X.st:Int) (X.C.length:Int) X.nm (X.t:Int) X.sp X.ac X.br k0 400 (Q84 X.C X.sp X.st X.t) ((X.st+1:Nat):Int) (arr (λ_=>0) (X.N+1))=k0 (X.lm (X.N-1)) (X.C.length:Int) false (arr (λj=>if j<=X.N-1 then X.F j else 0) (X.N+1)):=by
  intro k0;have:=QY (r:=λm i=>YB 400 X.C (X.st:Int) (X.C.length:Int) X.nm (X.t:Int) X.sp X.ac X.br k0 m (X.lm i.toNat) ((X.st+1+i.toNat:Nat):Int) (arr (λj=>if j<=i.toNat then X.F j else 0) (X.N+1))) (N:=X.N-1) (e:=k0 (X.lm (X.N-1)) (X.C.length:Int) false (arr (λj=>if j<=X.N-1 then X.F j else 0) (X.N+1))) (λm i hi=>?_) (λm=>?_) (X.N-1) 400 0 Q0 Q0
  ·have e:arr (λj=>if j<=(((0:Nat):Int)).toNat then X.F j else 0) (X.N+1)=arr (λ_=>0) (X.N+1):=XZ λj hj=>by
    split
    ·rename_i d;have d:j=0:=by simpa using d
     subst d;rw[F]
    ·rfl
   rw[e]at this;exact this
  ·simp only[Qq7];have f:=h.hC.g0 (X.st+i) Q0;have g:=h.hC.g1 (X.st+i) Q0;have hr:=row h (b:=i) Q0;have an:=Qb7 h (b:=i+1) Q0;have hV:=Qer h (b:=i+1) Q0;have hF:=QbH h i Q0;have hG:=QdD h (b:=i) Q0;rw[YB,Qs (show X.st+1+i<X.C.length by omega),Qq9,Qk0 h.hC Q0 Q0,Qh,wI (show((X.st+1+i:Nat):Int)-1=((X.st+i:Nat):Int) by omega) Q0 Q0,wI (show((X.st+i:Nat):Int)-(X.st:Int)=(i:Int) by omega) Q0 Q0,YY,Q8L Q0,Qt,hr,wI (show((X.st+1+i:Nat):Int)-(X.st:Int)=((i+1:Nat):Int) by omega) Q0 Q0];simp -implicitDefEqProofs only[Qh,Qq5,Qq6,Qj,XQ,X4,Qq9,Qq8,Qqc,Qqb,Qi7 h.hk.a1 h.hk.a2 f g];rw[Qbj Q0];rw[QJ Q0,show Q84 X.C X.sp (X.st+1+i) X.t=X.lm (i+1) by unfold lm;rw[Nat.add_assoc,Nat.add_comm 1 i],show X.st+1+i+1=X.st+1+(i+1) by omega];refine congrArg _ (XZ λj hj=>?_);by_cases ai:j=i+1
   ·subst ai;have e1:(if X.lm (i+1)<X.lm i then X.lm (i+1)else X.lm i)=X.lo (i+1):=rfl;rw[Qqe rfl,Qqe (Qql i),e1,wI (a:=X.lo (i+1)*X.lo (i+1)) (b:=X.V (i+1)) rfl Q0 Q0,wI (a:=X.F i+20000*acc X.ac (cl X.C (X.st+i)).2) (b:=X.F i+X.G i) rfl Q0 Q0,Qqe (Qql (i+1)),F]
   ·rw[Qqg ai];by_cases c:j<=i
    ·rw[Qqe c,Qqe Q0]
    ·rw[Qqg c,Qqg Q0]
  ·simp only[Qq7];rw[show X.st+1+(X.N-1)=X.C.length by omega,YB,Qy,Qq8]
 rw[k,wI (show(X.C.length:Int)-1=((X.st+X.N-1:Nat):Int) by omega) Q0 Q0];have:=QY (r:=λm i=>Z9 400 X.C (X.st:Int) X.nm (X.t:Int) X.sp X.ac X.br (λ_ _ l=>some l) m ((X.st+X.N-1-i.toNat:Nat):Int) (arr (λj=>if X.N-j<=i.toNat then X.K (X.N-j)else X.F j) (X.N+1))) (N:=X.N-1) (e:=some X.W) (λm i hi=>?_) (λm=>?_) (X.N-1) 400 0 Q0 Q0
 ·have e:arr (λj=>if X.N-j<=(((0:Nat):Int)).toNat then X.K (X.N-j)else X.F j) (X.N+1)=arr (λj=>if j<=X.N-1 then X.F j else 0) (X.N+1):=XZ λj hj=>by
   by_cases am:j=X.N
   ·subst am;rw[Qqe Q2,Qqg Q0,Nat.sub_self,K]
   ·rw[Qqg Q3,Qqe Q0]
  rw[e]at this;exact this
 ·simp only[Qq7];obtain⟨b,hb⟩:∃b,b+1=X.N-i:=⟨X.N-i-1,Q0⟩;have o:1<=b:=Q0
  have f:=h.hC.g0 (X.st+b) Q0;have g:=h.hC.g1 (X.st+b) Q0;have hr:=row h (b:=b) Q0;have hK:=Q5r h i Q0;have hL:=Qcy h (b:=b) Q0;rw[Z9,show X.st+X.N-1-i=X.st+b by omega,Xh Q3,wI (show((X.st+b:Nat):Int)-(X.st:Int)=(b:Int) by omega) Q0 Q0,YY,Q8L Q0,QJ Q0,wI (show((X.st+b+1:Nat):Int)-(X.st:Int)=((b+1:Nat):Int) by omega) Q0 Q0,Q8L Q0,Qt,hr];simp -implicitDefEqProofs only[Qh,Qq5,Qq6,Qj,XQ,X4,Qq9,Qq8,Qqc,Qqb,Qir h.hk.b1 h.hk.b2 f g];rw[Qbj Q0,wI (show((X.st+b:Nat):Int)-1=((X.st+X.N-1-(i+1):Nat):Int) by omega) Q0 Q0];refine congrArg _ (XZ λj hj=>?_);by_cases aa:j=b
  ·subst aa;rw[Qqe rfl,Qqg (show ¬ X.N-j<=i by omega),Qqe (show X.N-(j+1)<=i by omega),Qqe (show X.N-j<=i+1 by omega),show X.N-j=i+1 by omega,K,show X.N-(j+1)=i by omega,show X.N-(i+1)=j by omega,wI (a:=X.K i+20000*brk X.br (cl X.C (X.st+j)).2) (b:=X.K i+X.L j) rfl Q0 Q0]
  ·rw[Qqg aa];by_cases c:X.N-j<=i
   ·rw[Qqe c,Qqe Q0]
   ·rw[Qqg c,Qqg Q0]
 ·simp only[Qq7];rw[Z9,show X.st+X.N-1-(X.N-1)=X.st by omega,Qp Q2];refine congrArg some (XZ λj hj=>?_);by_cases n:j=0
  ·subst n;rw[Qqg Q0,F,Nat.sub_zero,Qi6 h]
  ·rw[Qqe Q0]
end Run
theorem JS{k:Nat}(a:k<=1000)(b:1<=k):wJ ((k:Int)-1)=((k-1:Nat):Int):=by grind[Qo]
section
variable{R:Type} {Sk Ro Ls Ch Tu Sy De:LL} {per:Int} {n:Nat}
theorem Q6k{mn mx:Int}(a:0<=mn)(b:mn<=mx)(h2:mx<mn+per)(c:mn<=1000)(p1:per<=300)(K:Bool->oP R):Kk n per Sk Ro Ls Ch Tu Sy De mn mx K=K true:=by
 grind[Kk,decide,Qo]
theorem Qin{k i:Nat}{r:List D}(h:Ti Ls k i r)(hl:Ls.length<=1000)(hr:∀nm w rides,Ls[k]? = some [D.str nm,Ql 0,Ql w,D.sl 4 rides]->rides.length<=1000)(K:Bool->oP R):Jz n per Sk Ro Ls Ch Tu Sy De (k:Int) (i:Int) K=K true:=by
 obtain⟨nm,w,rides,a,h2⟩:=h;have hk:=(Qqd.1 a).1;have hi:=(Qqd.1 h2).1;have hr:=hr _ _ _ a;unfold Jz;rw[JS hl Q0,Q5f Q0 Q0,Qh,Qt,a];simp -implicitDefEqProofs only[Qh,Qq5,Qq6,Qj,XQ,X4,Qq9,Qq8,Qqc,Qqb,JS hr Q0,Q5f (show(0:Int)<=(i:Int) by omega) (show(i:Int)<=((rides.length-1:Nat):Int) by omega)]
theorem QaY{G:Geo}{x y:Int}{s:LL}(a:RtOK G s x y)(K:Int->oP R):Th n s 0 K=K x:=by
 obtain⟨d,h5⟩:=a.fst
 simp_all [Th,Qh,Qq5,Qq6,Qj,XQ,X4,Qq9,Qq8,Qqc,Qqb]
theorem Qdy{G:Geo}{x y:Int}{s:LL}(a:RtOK G s x y)(K:Int->oP R):S8 n s 0 K=K y:=by
 obtain⟨d,h5⟩:=a.lst;have l24:=a.l24;unfold S8;rw[Qo (x:=(s.length:Int)-0) Q0 Q0,Qo Q0 Q0,Int.sub_zero,h5];rfl
theorem Bg{k i:Nat}{rt:Nat}{ex mn mx:Int}{s:LL}(h:Ti Ls k i [Ql rt,Ql ex,Ql mn,Ql mx])(a:Ro[rt]? = some [D.sl 2 s,Ql 0])(K:D->D->oP R):Yd n per Sk Ro Ls Ch Tu Sy De (k:Int) (i:Int) K=K (D.sl 2 s) (Ql 0):=by
 obtain⟨nm,w,rides,b,h2⟩:=h
 simp_all [Yd,Qh,Qq5,Qq6,Qj,XQ,X4,Qq9,Qq8,Qqc,Qqb,Qt]
theorem Qjo{i:Nat}(hi:i<8):M6 400 (nmN i) (some:Bool->oP Bool)=some true:=by
 obtain rfl | rfl | rfl | rfl | rfl | rfl | rfl | rfl:i=0\/i=1\/i=2\/i=3\/i=4\/i=5\/i=6\/i=7:=Q0
 all_goals rfl
theorem QgX(hs:Q1s Sk):Gv 400 per Sk Ro Ls Ch Tu Sy De 0 (some:Int->oP Int)=some 0:=by
 obtain⟨a,b,c,d,rfl,t1,t2,s1,s2,a1,a2,b1,b2⟩:=hs;have h:Gv 400 per [[D.str (bs [88]),Ql a,Ql b,Ql c,Ql d]] Ro Ls Ch Tu Sy De 0 (some:Int->oP Int)=gb true (Yb 400 (bs [88]) a b c d some) false (λr=>bif !r then some 4 else some 0):=by kernel_rfl
 have aa:Yb 400 (bs [88]) a b c d (some:Bool->oP Bool)=some true:=by
  unfold Yb;simp -implicitDefEqProofs only[Qh,Qq5,Qq6,Qj,XQ,X4,Qq9,Qq8,Qqc,Qqb,Q5e t1 (show a<=40 by omega),Q5e (show 1000<=b by omega) (show b<=100000 by omega),Q5e (show 100<=c by omega) (show c<=2000 by omega),Q5e (show 100<=d by omega) (show d<=2000 by omega)]
 rw[h,aa];rfl
end
section
variable{R:Type} {G:Geo} {Sk Ro Ls Ch Tu Sy De:LL} {per:Int} (h:PlanR G per Sk Ro Ls Ch Tu Sy De)
include h
theorem QgE{k:Nat}:∀nm w rides,Ls[k]? = some [D.str nm,Ql 0,Ql w,D.sl 4 rides]->rides.length<=1000:=by
 intro nm w rides e;obtain⟨w',aa,e',hr,_⟩:=C7 h.good (Qqd.1 e).1
 grind
theorem Q7L{k i:Nat}{r:List D}(hr:Ti Ls k i r)(K:Bool->oP R):Jz 400 per Sk Ro Ls Ch Tu Sy De (k:Int) (i:Int) K=K true:=by
 have:=h.l1
 grind[Qin,QgE]
theorem QiH:Fh 400 per Sk Ro Ls Ch Tu Sy De (some:Bool->oP Bool)=some false:=by
 obtain⟨_,_,_,_,ac,_⟩:=h.sk;obtain⟨T,hT,_,_,_,ai⟩:=h.tu;have l1:=h.l1;have l2:=h.rl;have a:=h.chl;have c:=h.syl;have d:=h.del;have lk:Sk.length=1:=by rw[ac];rfl
 have lt:Tu.length<=20:=by rw[hT];simpa using ai
 have aa:∀{k:Nat} {b:Int},(k:Int)<=b->decide ((k:Int)>b)=false:=λh=>by simpa using h
 unfold Fh;simp -implicitDefEqProofs only[aa (show(Sk.length:Int)<=8 by omega),aa (show(Ro.length:Int)<=48 by omega),aa (show(Ls.length:Int)<=16 by omega),aa (show(Ch.length:Int)<=32 by omega),aa (show(Tu.length:Int)<=32 by omega),aa (show(Sy.length:Int)<=32 by omega),aa (show(De.length:Int)<=32 by omega),Qq8];refine QY (r:=λm h=>G5 400 Ls _ _ m h) (N:=Ls.length) (λm k hk=>?_) (λm=>?_) Ls.length 400 0 Q0 Q0
 ·obtain⟨w,rides,e,hr,_⟩:=C7 h.good hk;rw[G5,Qs hk,Qt,e];simp -implicitDefEqProofs only[Qh,Qq5,Qq6,Qj,XQ,X4,Qq9,Qq8,Qqc,Qqb,aa (show(rides.length:Int)<=12 by omega),QJ (show k<=1000 by omega)]
 ·rw[G5,Qy,Qq8]
theorem Qi2{k:Nat}(hk:k<Ls.length):KP 400 G.St G.Pt G.Se G.Li per Sk Ro Ls Ch Tu Sy De (k:Int) (some:Int->oP Int)=some 0:=by
 have l1:=h.l1;have p1:=h.p1;have p0:=h.p0;obtain⟨a,v,c,d,ao,an⟩:=h.sk;obtain⟨w,rides,e,w0,t,aa⟩:=h.good.ls k _ (Qqa hk);have e:=(Qqa hk).trans (congrArg some e);have az:rides.length=1\/rides.length=2:=by rcases aa with⟨_,_,_,rfl,_⟩|⟨_,_,_,_,_,rfl,_⟩;exact .inl rfl;exact .inr rfl
 have f:Qi Sk (0:Int)=some [D.str (bs [88]),Ql a,Ql v,Ql c,Ql d]:=by rw[ao];rfl
 have ar:Sk.length=1:=by rw[ao];rfl
 unfold KP;rw[Qt,e];simp -implicitDefEqProofs only[Qh,Qq5,Qq6,Qj,XQ,X4,Qq9,Qq8,Qqc,Qqb,Qjo (show k<8 by omega)];refine(QY (r:=λm h=>WB 400 (k:Int) Ls (D.str (nmN k)) _ _ m h) (N:=k) (λm i hi=>?_) (λm=>?_) k 400 0 Q0 Q0)
 ·obtain⟨w',aq,e',_⟩:=C7 h.good (show i<Ls.length by omega);rw[WB,Qs hi,Qt,e'];simp -implicitDefEqProofs only[Qh,Qq5,Qq6,Qj,XQ,X4,Qq9,Qq8,Qqc,Qqb,Qgw (show i<8 by omega) (show k<8 by omega) (show i≠k by omega),QJ (show i<=1000 by omega)]
 ·rw[WB,Qy,Qq8,ar,JS Q1 Q1];simp -implicitDefEqProofs only[Qh,Qq5,Qq6,Qj,XQ,X4,Qq9,Qq8,Qqc,Qqb,Q5f (show(0:Int)<=0 by omega) (show(0:Int)<=((1-1:Nat):Int) by decide),Q5f w0 (show w<=1048576 by omega),show((rides.length:Int) == 0)=false by simp;intro hx;simp[hx]at az];refine(QY (r:=λm h=>Wt 400 G.St G.Pt G.Se G.Li per Sk Ro Ls Ch Tu Sy De (Ql 0) (D.sl 4 rides) _ _ m h) (N:=rides.length) (λm i hi=>?_) (λm=>?_) rides.length 400 0 Q0 Q0)
  ·obtain⟨r,x,y,b,hr,hR,hb,ac⟩:∃r x y b,rides[i]? = some r/\PA G Ro r x y b/\(i+1=rides.length->b=true)/\(∀j,j+1=i->∃r' x' b',rides[j]? = some r'/\PA G Ro r' x' x b'):=by
    rcases aa with⟨r,x,y,rfl,h⟩|⟨r,r',x,y,z,rfl,h,h'⟩
    ·have hi:i=0:=by simpa using hi
     subst hi;exact⟨r,x,y,true,rfl,h,λ_=>rfl,λj hj=>by omega⟩
    ·obtain rfl | rfl:i=0\/i=1:=by simp at hi;omega
     ·exact⟨r,x,y,false,rfl,h,λh=>by simp at h,λj hj=>by omega⟩
     ·refine⟨r',y,z,true,rfl,h',λ_=>rfl,λj hj=>?_⟩;have hj:j=0:=Q0
      subst hj;exact⟨r,x,false,rfl,h⟩
   obtain⟨rt,ex,mn,mx,s,rfl,ak,hs,⟨l,u⟩,⟨o,p,m2,m3⟩,hlast⟩:=hR;have a7:rt<Ro.length:=(Qqd.1 ak).1;have l2:=h.rl;have hq:∀z:Bool,(bif ((i:Int) == ((rides.length-1:Nat):Int))then(bif (mn != (0:Int))then true else(mx != (0:Int)))else false)=false:=by
    intro z;by_cases q:i+1=rides.length
    ·obtain⟨rfl,rfl⟩:=hlast (hb q);rw[show((0:Int) != 0)=false from rfl];cases ((i:Int) == ((rides.length-1:Nat):Int))<;>rfl
    ·rw[show((i:Int) == ((rides.length-1:Nat):Int))=false by simp;omega];rfl
   have a2:∀{g:Bool} {β:Type} {a z:β} {k:β->oP Int},gb g (some a) z k=k a:=λ{g β a z k}=>rfl
   rw[Wt,X4,Qh,Qs hi];simp -implicitDefEqProofs only[Qh,Qq5,Qq6,Qj,XQ,X4,Qq9,Qq8,Qqc,Qqb,Qt,hr,JS (show rides.length<=1000 by omega) (show 1<=rides.length by omega),JS (show Ro.length<=1000 by omega) (show 1<=Ro.length by omega),Qo (x:=per-1) Q0 Q0,Q5f (show(0:Int)<=(rt:Int) by omega) (show(rt:Int)<=((Ro.length-1:Nat):Int) by omega),Q5f l (show ex<=per-1 by omega),Q6k (Sk:=Sk) (Ro:=Ro) (Ls:=Ls) (Ch:=Ch) (Tu:=Tu) (Sy:=Sy) (De:=De) (n:=400) o p (show mx<mn+per by omega) Q0 p1,hq true,ak,f,Qap (hs.f h.ok) an,show((0:Int) != 0)=false from rfl];cases i with
   |zero=>
    rw[show decide (((0:Nat):Int)>0)=false from rfl];simp only[gbF,Qq8];rfl
   |succ j=>
    obtain⟨r',x',b',ax,ay⟩:=ac j rfl;obtain⟨a6,a3,a5,a8,s',rfl,am,aw,_⟩:=ay;simp -implicitDefEqProofs only[Qh,Qq5,Qq6,Qj,XQ,X4,Qq9,Qq8,Qqc,Qqb,show decide (((j+1:Nat):Int)>0)=true by simp,QaY hs,show wJ (((j+1:Nat):Int)-1)=(j:Int) by rw[Qo Q0 Q0];omega,Qt,ax,am,Qdy aw,show(x != x)=false by simp,QJ (show j+1<=1000 by omega)]
  ·rw[Wt,X4,Qh,Qy,Qq8]
end
section
variable{R:Type} {G:Geo} {Sk Ro Ls Ch Tu Sy De:LL} {per:Int} (h:PlanR G per Sk Ro Ls Ch Tu Sy De)
include h
theorem Qct{k0:Int->oP R}{k1:Int->Bool->oP R}:Zg 400 G.St G.Pt G.Se G.Li per Sk Ro Ls Ch Tu Sy De k0 k1 400 0=k1 (Ch.length:Int) false:=by
 have l2:=h.chl;have p1:=h.p1;refine QY (r:=λm h=>Zg 400 G.St G.Pt G.Se G.Li per Sk Ro Ls Ch Tu Sy De _ _ m h) (N:=Ch.length) (λm k hk=>?_) (λm=>?_) Ch.length 400 0 Q0 Q0
 ·obtain⟨f,fr,t,tr,mn,mx,w,r,r',x,y,x',y',b,b',i,e,hr,aa,hR,am,aw,⟨a,j,c,d⟩,⟨w0,l⟩,⟨n,a1,c1,d1,g1⟩,⟨o,a2,p,q,g⟩,hi⟩:=h.ch _ (Qqj hk);have hb:=Q7L (R:=Bool) h hr;have an:=Q7L (R:=Bool) h aa;obtain⟨rt,ex,rn,rx,s,rfl,ak,hs,_⟩:=hR;obtain⟨aq,ao,ax,ar,s',rfl,ac,ai,_⟩:=am;rw[Zg,Qs hk,Qt,Qqa hk,e];simp -implicitDefEqProofs only[Qh,Qq5,Qq6,Qj,XQ,X4,Qq9,Qq8,Qqc,Qqb,HB,hb,an,Q6k a c d (show mn<=1000 by omega) p1,Q5f w0 (show w<=1048576 by omega),show((f:Int) == (t:Int))=false by simp;omega,Bg hr ak,Bg aa ac,Qdy hs,QaY ai,g1,g,show decide (i<0)=false by simp;omega,show(i != i)=false by simp,show((0:Int) != 0)=false from rfl,QJ (show k<=1000 by omega)]
 ·rw[Zg,Qy,Qq8]
theorem QgH{k0:Int->oP R}{k1:Int->Bool->oP R}:Za 400 per Sk Ro Ls Ch Tu Sy De k0 k1 400 0=k1 (Tu.length:Int) false:=by
 obtain⟨T,hT,t1,t2,d,u⟩:=h.tu;have hl:Tu.length=T.length:=by rw[hT];simp
 have p0:=h.p0;have p1:=h.p1;have l1:=h.l1;refine QY (r:=λm h=>Za 400 per Sk Ro Ls Ch Tu Sy De _ _ m h) (N:=Tu.length) (λm k hk=>?_) (λm=>?_) Tu.length 400 0 Q0 Q0
 ·have aa:k<T.length:=Q0
  have at':∀j (hj:j<T.length),Tu[j]? = some (tuR T[j]):=λj hj=>by rw[hT,Qqq,Qqa hj];rfl
  obtain⟨v,u2,u3,u4,e,u6,nm,w,rides,r,r',x,y,z,b,b',e1,e2,f,e4,c,hR,aq⟩:=t1 _ (Qqj aa);obtain⟨rt,ex,rn,rx,s,rfl,ao,hs,_⟩:=hR;obtain⟨a4,az,a7,a5,s',rfl,ai,am,_⟩:=aq;have g:=Bg (R:=D×D) (n:=400) (per:=per) (Sk:=Sk) (Ch:=Ch) (Tu:=Tu) (Sy:=Sy) (De:=De) (Ro:=Ro) ⟨nm,w,rides,e1,e2⟩ ao;have a:=Bg (R:=D×D) (n:=400) (per:=per) (Sk:=Sk) (Ch:=Ch) (Tu:=Tu) (Sy:=Sy) (De:=De) (Ro:=Ro) c ai;obtain⟨a8,w',ak,l,e6⟩:=c;have a:Yd 400 per Sk Ro Ls Ch Tu Sy De (T[k].2.1:Int) 0 Tu2=some (D.sl 2 s',Ql 0):=a _;have ac:∀t∈T.take k,(t.1:Int)≠(T[k].1:Int)/\(t.2.1:Int)≠(T[k].2.1:Int):=by
   intro t ht;have q:=Mw t2 (i:=k) (by simpa using aa) t.1 (by rw[<- List.map_take];exact List.mem_map_of_mem ht);have h2:=Mw d (i:=k) (by simpa using aa) t.2.1 (by rw[<- List.map_take];exact List.mem_map_of_mem ht);rw[List.getElem_map]at q h2;exact⟨Q0,Q0⟩
  have an:KU 400 per Sk Ro Ls Ch Tu Sy De (k:Int) (some:Int->oP Int)=some 0:=by
   unfold KU;rw[Qt,at' k aa];simp -implicitDefEqProofs only[Qh,Qq5,Qq6,Qj,XQ,X4,Qq9,Qq8,Qqc,Qqb,tuR,JS (show Ls.length<=1000 by omega) (show 1<=Ls.length by omega),Q5f (show(0:Int)<=(T[k].1:Int) by omega) (show(T[k].1:Int)<=((Ls.length-1:Nat):Int) by omega),Q5f (show(0:Int)<=(T[k].2.1:Int) by omega) (show(T[k].2.1:Int)<=((Ls.length-1:Nat):Int) by omega),Q6k (Sk:=Sk) (Ro:=Ro) (Ls:=Ls) (Ch:=Ch) (Tu:=Tu) (Sy:=Sy) (De:=De) (n:=400) (show 0<=T[k].2.2.1 by omega) e (show T[k].2.2.2<T[k].2.2.1+per by omega) Q0 p1];refine(QY (r:=λm h=>WC 400 (k:Int) Tu (Ql (T[k].1:Nat)) (Ql (T[k].2.1:Nat)) _ _ m h) (N:=k) (λm i hi=>?_) (λm=>?_) k 400 0 Q0 Q0)
   ·obtain⟨n1,n2⟩:=ac T[i] (by rw[List.mem_take_iff_getElem];exact⟨i,Q0,rfl⟩);rw[WC,Qs hi,Qt,at' i Q0];simp -implicitDefEqProofs only[Qh,Qq5,Qq6,Qj,XQ,X4,Qq9,Qq8,Qqc,Qqb,tuR,show((T[i].1:Int) == (T[k].1:Int))=false by simpa using n1,show((T[i].2.1:Int) == (T[k].2.1:Int))=false by simpa using n2,QJ (show i<=1000 by omega)]
   ·rw[WC,Qy,Qq8,Qt,e1];simp -implicitDefEqProofs only[Qh,Qq5,Qq6,Qj,XQ,X4,Qq9,Qq8,Qqc,Qqb,Qt,l,JS (show rides.length<=1000 by omega) f,g,a,Qdy hs,QaY am,show(y != y)=false by simp,show((0:Int) != 0)=false from rfl]
  rw[Za,Qs hk,Qq9,an,Qh,Qp (by rfl),QJ Q0]
 ·rw[Za,Qy,Qq8]
theorem QgK{k0:oP R}{k1:Int->Bool->oP R}:Z6 400 per Sk Ro Ls Ch Tu Sy De k0 k1 400 0=k1 (Sy.length:Int) false:=by
 have l2:=h.syl;have l0:=h.l0;have p1:=h.p1;refine QY (r:=λm h=>Z6 400 per Sk Ro Ls Ch Tu Sy De _ _ m h) (N:=Sy.length) (λm k hk=>?_) (λm=>?_) Sy.length 400 0 Q0 Q0
 ·obtain⟨o,e,a,b,h2⟩:=h.sy _ (Qqj hk);obtain⟨r,hr⟩:=Q72 h (k:=0) Q0;obtain⟨r',aa⟩:=Q72 h (k:=1) Q0;have e1:=Q7L (R:=Bool) h hr some;have e2:=Q7L (R:=Bool) h aa some;rw[Z6,Qs hk,Qt,Qqa hk,e];simp -implicitDefEqProofs only[Qh,Qq5,Qq6,Qj,XQ,X4,Qq9,Qq8,Qqc,Qqb,show Jz 400 per Sk Ro Ls Ch Tu Sy De 0 0 (some:Bool->oP Bool)=some true from e1,show Jz 400 per Sk Ro Ls Ch Tu Sy De 1 0 (some:Bool->oP Bool)=some true from e2,show((0:Int) == 1)=false from rfl,Qo (x:=per-1) Q0 Q0,Q5f a (show o<=per-1 by omega),QJ (show k<=1000 by omega)]
 ·rw[Z6,Qy,Qq8]
theorem Qbq{k0:oP R}{k1:Int->Bool->oP R}:Zc 400 G.St De k0 k1 400 0=k1 (De.length:Int) false:=by
 have l2:=h.del;have hN:=h.ok.hN;refine QY (r:=λm h=>Zc 400 G.St De _ _ m h) (N:=De.length) (λm k hk=>?_) (λm=>?_) De.length 400 0 Q0 Q0
 ·obtain⟨f,t,w,e,⟨a,b⟩,⟨t0,t1⟩,aa,w0,c⟩:=h.de _ (Qqj hk);rw[Zc,Qs hk,Qt,Qqa hk,e];simp -implicitDefEqProofs only[Qh,Qq5,Qq6,Qj,XQ,X4,Qq9,Qq8,Qqc,Qqb,h.ok.st,Qo (x:=(G.N:Int)-1) Q0 Q0,Q5f a (show f<=(G.N:Int)-1 by omega),Q5f t0 (show t<=(G.N:Int)-1 by omega),Q5f w0 (show w<=1048576 by omega),show(f == t)=false by simpa using aa,QJ (show k<=1000 by omega)]
 ·rw[Zc,Qy,Qq8]
theorem QiE:Wg 400 G.St G.Pt G.Se G.Li per Sk Ro Ls Ch Tu Sy De (some:Int->oP Int)=some 0:=by
 have p0:=h.p0;have p1:=h.p1;have l1:=h.l1;have l2:=h.rl;obtain⟨_,_,_,_,aa,_⟩:=h.sk;have ac:Sk.length=1:=by rw[aa];rfl
 have e1:Vy 400 G.St G.Pt G.Se G.Li (some:Int->oP Int)=some 0:=VW h.ok.ref;unfold Wg;simp -implicitDefEqProofs only[Qh,Qq5,Qq6,Qj,XQ,X4,Qq9,Qq8,Qqc,Qqb,e1,QiH h,Q5f (show 2<=per by omega) (show per<=7200 by omega),show((0:Int) != 0)=false from rfl];refine QY (r:=λm h=>Wx 400 per Sk Ro Ls Ch Tu Sy De _ _ m h) (N:=Sk.length) (λm k hk=>?_) (λm=>?_) Sk.length 400 0 Q0 Q0
 ·obtain rfl:k=0:=Q0
  rw[Wx,Qs hk,Qq9,show((0:Nat):Int)=0 from rfl,QgX h.sk,Qh,Qp (by rfl)];rfl
 rw[Wx,Qy,Qq8];refine QY (r:=λm h=>Ws 400 G.St G.Pt G.Se G.Li Ro _ _ m h) (N:=Ro.length) (λm k hk=>?_) (λm=>?_) Ro.length 400 0 Q0 Q0
 ·obtain⟨s,x,y,e,hs⟩:=h.good.ro _ (Qqj hk);rw[Ws,Qs hk,Qt,Qqa hk,e];simp -implicitDefEqProofs only[Qh,Qq5,Qq6,Qj,XQ,X4,Qq9,Qq8,Qqc,Qqb,Q51 h.ok.ref rfl hs.l2 hs.l24 hs.rt6,show((0:Int) != 0)=false from rfl,QJ (show k<=1000 by omega)]
 rw[Ws,Qy,Qq8];refine QY (r:=λm h=>Ww 400 G.St G.Pt G.Se G.Li per Sk Ro Ls Ch Tu Sy De _ _ m h) (N:=Ls.length) (λm k hk=>?_) (λm=>?_) Ls.length 400 0 Q0 Q0
 ·rw[Ww,Qs hk,Qq9,Qi2 h hk,Qh,Qp (by rfl),QJ Q0]
 rw[Ww,Qy,Qq8,Qct h,QgH h,QgK h,Qbq h]
end
end Go.Vx
namespace Go.Vx
variable{R:Type} (n:Nat)
def Y3(n:Nat)(b h5 h7:LL)(d:Int)(g:LL)(e:Int)(k0:QlG R):Qlz R
|0,_,_,_,_=>none
|m+1,h6,a,f,c=>bif decide (a<d)then QkH R h7 a λj o=>Qc R j[1]? λz=>QkG R b h6 λh=>Qc R (Y5 ((f.length+[[Ql h]].length)*8)) λaa=>Qa R (decide (a<wJ ((h5.length:Int)-1))) λad=>Qb R (f++[[Ql h]]) λae=>Qb R (wJ (a+1)) λag=>bif decide (a>0)then Qc R (pIw o) λr=>QkL R g r λi=>bif ad then QkG R b (wJ (wJ (h6+i)+e)) λk=>Qc R (Y5 ((c.length+[[Ql k]].length)*8)) λab=>Y3 n b h5 h7 d g e k0 m (wJ (h6+i)) ag ae (c++[[Ql k]])else Y3 n b h5 h7 d g e k0 m (wJ (h6+i)) ag ae c else bif ad then QkG R b (wJ (h6+e)) λl=>Qc R (Y5 ((c.length+[[Ql l]].length)*8)) λac=>Y3 n b h5 h7 d g e k0 m h6 ag ae (c++[[Ql l]])else Y3 n b h5 h7 d g e k0 m h6 ag ae c else k0 h6 a (decide (a<d)) f c
def KY(q r f s g:LL)(h:Int)(i:List UInt8)(c j k l:Int)(K:LL->LL->Int->Int->oP R):oP R:=Qc R (Hi n q r f s g h i c j k l Tu3) λa=>bif a.2.2 !=0 then K [] [] 0 a.2.2 else Qc R (Jt n a.1 a.2.1 i c j k l Tu2) λb=>Qc R (Uj n g h some) λe=>Y3 n b.1 e e (e.length:Int) f c (λm ab ac t o=>QkG R b.1 m λp=>Qc R (Y5 ((o.length+[[Ql p]].length)*8)) λad=>QkG R b.1 m λz=>Qc R (JQ n z some) λaa=>K t (o++[[Ql p]]) aa 0) n 0 0 [] []
def XV(h7 d:LL)(b:Int)(k0:Qlm R):Qln R
|0,_,_=>none
|m+1,a,c=>bif decide (a<b)then QkG R h7 (wJ (a-1)) λi=>Qc R (Vi n i some) λe=>QkG R d a λl=>Qc R (JQ n l some) λf=>Qb R [[Ql 0,Ql (wJ (e-16)),Ql (wJ (f+4))]] λp=>Qc R (Y5 ((c.length+p.length)*24)) λo=>XV h7 d b k0 m (wJ (a+1)) (c++p)else k0 a (decide (a<b)) c
def QB(f:Int)(l:LL)(g:Int)(h i e j k:LL)(c d:Int)(k0:Qlv R):Qlx R
|0,_,_,_=>none
|m+1,a,b,q=>bif decide (a<g)then QkQ R l a λr v=>Qb R (wJ (a+1)) λcp=>Qb R (wJ (a-1)) λcq=>Qb R (e.length:Int) λcr=>bif decide (a>f)then Qc R (Y5 ((b.length+[[Ql 0,Ql c,Ql d]].length)*24)) λbu=>Qc R (pIw r) λad=>Qb R (b++[[Ql 0,Ql c,Ql d]]) λco=>QkZ R (List.length co) a co a.toNat λah=>QkF R (List.length co) a co a.toNat λai=>QkU R ai λak=>Qc R (XF n q ad ah ak some) λo=>Qc R (SY o q.length) λca=>bif a==0 then QB f l g h i e j k c d k0 m cp co o else QkQ R k cq λal am=>Ql2 R al am r v λan ao ap aq=>Qc R (Zw n h i e j an ao ap aq some) λs=>bif decide (s<0)then QB f l g h i e j k c d k0 m cp co o else bif decide (a<=f)then QkZ R (List.length co) a co a.toNat λav=>QkF R (List.length co) cq co (Int.toNat cq) λaw=>QkU R aw λay=>Qc R (XF n o (wJ (cr+s)) av ay some) λy=>Qc R (SY y o.length) λce=>QB f l g h i e j k c d k0 m cp co y else Qc R (XF n o (wJ (cr+s)) c d some) λz=>Qc R (SY z o.length) λcf=>QB f l g h i e j k c d k0 m cp co z else Qc R (pIw r) λaz=>QkZ R b.length a b a.toNat λbc=>QkF R b.length a b a.toNat λbd=>QkU R bd λbg=>Qc R (XF n q az bc bg some) λp=>Qc R (SY p q.length) λci=>bif a==0 then QB f l g h i e j k c d k0 m cp b p else QkQ R k cq λbh bi=>Ql2 R bh bi r v λbj bk bl bm=>Qc R (Zw n h i e j bj bk bl bm some) λt=>bif decide (t<0)then QB f l g h i e j k c d k0 m cp b p else bif decide (a<=f)then QkZ R b.length a b a.toNat λbp=>QkF R b.length cq b (Int.toNat cq) λbq=>QkU R bq λbt=>Qc R (XF n p (wJ (cr+t)) bp bt some) λab=>Qc R (SY ab p.length) λcm=>QB f l g h i e j k c d k0 m cp b ab else Qc R (XF n p (wJ (cr+t)) c d some) λac=>Qc R (SY ac p.length) λcn=>QB f l g h i e j k c d k0 m cp b ac else k0 a (decide (a<g)) b q
def Jm(c d e f b:LL)(l:Int)(m:List UInt8)(o p q r s h:Int)(K:Qlw R):oP R:=gb true (KY n c d e f b l m o p q r Tu4) ([],[],0,0) λa=>bif a.2.2.2 !=0 then K [] 0 a.2.2.2 else QkG R a.2.1 0 λv=>Qc R (JQ n v some) λx=>Qb R (wJ ((a.1.length:Int)-1)) λt=>XV n a.1 a.2.1 t (λai aj i=>QkG R a.1 (wJ (t-1)) λaa=>Qc R (Vi n aa some) λj=>Qb R [[Ql 0,Ql (wJ (j-16)),Ql (wJ (a.2.2.1+h))]] λu=>Qc R (Y5 ((i.length+u.length)*24)) λak=>QkG R a.1 t λad=>Qc R (Vi n ad some) λae=>Qc R (J9 n c d e f some) λag=>QB n t b (b.length:Int) c d e f b (wJ (ae-16)) (wJ (a.2.2.1+20)) (λal am an ah=>Qc R (Vm n ah some) λk=>Qc R (L8 [k]) λao=>K k a.2.2.1 0) n 0 (i++u) ag) n 1 [[Ql 0,Ql (wJ (0-s)),Ql (wJ (x+4))]]
def Uq(e f g h i:LL)(j:Int)(k:List UInt8)(l m o p c d:Int)(K:Qlw R):oP R:=Qc R (Gj n e f g h i j k l m o p some) λb=>bif b !=0 then K [] 0 b else bif Q8 (Q8 (Q8 (decide (c<0)) (decide (c>65536))) (decide (d<0))) (decide (d>65536))then K [] 0 4 else Qc R (Jm n e f g h i j k l m o p c d Tu3) λa=>K a.1 a.2.1 a.2.2
end Go.Vx
namespace Go.Vx
def cd(a b:Int):Int:=if 0<a % b then a / b+1 else a / b
theorem Ay{a b:Int}(h0:0<=a)(h1:1<=b):a<=cd a b*b/\0<=cd a b/\cd a b<=a / b+1:=by
 have h2:=Int.emod_nonneg a (show b≠0 by omega);have c:=Int.emod_lt_of_pos a (show 0<b by omega);have d:=Int.mul_ediv_add_emod a b;have h5:0<=a / b:=Int.ediv_nonneg h0 Q0;have h6:b*(a / b)=a / b*b:=Int.mul_comm ..;have h7:(a / b+1)*b=a / b*b+b:=by rw[Int.add_mul,Int.one_mul]
 unfold cd;split<;>refine⟨?_,?_,?_⟩<;>omega
theorem Qgk{a b:Int}(h0:0<=a)(h1:1<=b)(ha:a<=1000000000):nz b=some ()/\(Int.tmod a b=a % b)/\wJ (Int.tdiv a b)=a / b/\wJ (a / b+1)=a / b+1:=by
 have h5:0<=a / b:=Int.ediv_nonneg h0 Q0;have h6:a / b<=a:=Int.ediv_le_self _ h0;exact⟨CR Q0,Qqr h0,by rw[Qqv h0,Qo Q0 Q0],Qo Q0 Q0⟩
section
variable{n:Nat} {a b:Int} (h0:0<=a) (h1:1<=b) (ha:a<=1000000000)
include h0 h1 ha
theorem Qdf:GM n a b Tu2=some (cd a b,0):=by
 obtain⟨e1,e2,e,f⟩:=Qgk h0 h1 ha;unfold GM cd;rw[Qp (by simpa using h1),e1,Qh,Qh,e2,e,f];by_cases h:0<a % b
 ·rw[Xh (by simpa using h),Qqe h]
 ·rw[Qp (by simpa using h),Qqg h]
theorem QdG:Jr n a b (some:Int->oP Int)=some (cd a b):=by
 obtain⟨e1,e2,c,d⟩:=Qgk h0 h1 ha;unfold Jr cd;rw[e1,Qh,Qh,e2,c,d];by_cases h:0<a % b
 ·rw[Xh (by simpa using h),Qqe h]
 ·rw[Qp (by simpa using h),Qqg h]
end
theorem upA{n:Nat}{a:Int}(h0:0<=a)(ha:a<=1000000000):JQ n a (some:Int->oP Int)=some (cd a 1000):=by
 unfold JQ;rw[Qdf h0 Q1 ha,Qh]
theorem Qd7{a:Int}(h0:0<=a)(ha:a<=1000000000):decide (Int.tmod a 1000<0)=false/\wJ (Int.tdiv a 1000)=a / 1000:=by
 rw[Qqr h0,Qqv h0];exact⟨by simp;omega,Qo Q0 Q0⟩
theorem Qie{n:Nat}{a:Int}(h0:0<=a)(ha:a<=1000000000):Vi n a (some:Int->oP Int)=some (a / 1000):=by
 obtain⟨e1,e2⟩:=Qd7 h0 ha;unfold Vi Po;rw[Qp Q1,CR Q1,Qh,Qh,e1,Qq8,e2,Qh]
theorem Qhd{n:Nat}{a:Int}(h0:0<=a)(ha:a<=1000000000):VF n a 1000 (some:Int->oP Int)=some (a / 1000):=by
 obtain⟨e1,e2⟩:=Qd7 h0 ha;unfold VF;rw[CR Q1,Qh,Qh,e1,Qq8,e2]
def sq(x:Int):Int:=(Sg 400 x (some:Int->oP Int)).getD 0
theorem Q6u{x:Int}(h0:0<=x)(hx:x<=1000000000):QbS x (sq x)/\Sg 400 x (some:Int->oP Int)=some (sq x)/\Mn 400 x (some:Int->oP Int)=some (sq x):=by
 obtain⟨r,h1,h2⟩:=QiQ h0 hx;have e:sq x=r:=by unfold sq;rw[h2];rfl
 rw[e];exact⟨h1,h2,Qih h0 hx h1⟩
namespace Run
variable(X:Run)
def S(j:Nat):Int:=sq (X.K (X.N-j))
def T:Nat->Int
 |0=>0
 |b+1=>T b+cd 20000000 (X.S b+X.S (b+1))
variable{X} (h:X.OK)
include h
theorem Qfv{j:Nat}(hj:j<=X.N):0<=X.S j/\X.S j<=25000/\(1<=j->j<X.N->1000<=X.S j):=by
 have h1:=Q5r h (X.N-j) Q0;obtain⟨⟨c,e,f⟩,_,_⟩:=Q6u (x:=X.K (X.N-j)) Q0 Q0;refine⟨c,Q9H c Q1 e Q0,λa b=>?_⟩;have h2:=h1.2.2 Q0 Q0;by_cases d:1000<=X.S j
 ·exact d
 ·have:=Q5C (show 0<=sq (X.K (X.N-j))+1 by omega) (show sq (X.K (X.N-j))+1<=1000 by unfold S at d;omega);omega
theorem inc_rng{b:Nat}(hb:b<X.N):1000<=X.S b+X.S (b+1)/\X.S b+X.S (b+1)<=50000/\0<=cd 20000000 (X.S b+X.S (b+1))/\cd 20000000 (X.S b+X.S (b+1))<=20001:=by
 have h2:=h.h2;have a:=Qfv h (j:=b) Q0;have c:=Qfv h (j:=b+1) Q0;have hs:1000<=X.S b+X.S (b+1):=by
  by_cases f:b=0
  ·have:=c.2.2 Q0 Q0;omega
  ·have:=a.2.2 Q0 Q0;omega
 have d:=Ay (show(0:Int)<=20000000 by decide) (show 1<=X.S b+X.S (b+1) by omega);have e:20000000 / (X.S b+X.S (b+1))<=20000:=Int.ediv_le_of_le_mul Q0 Q0;omega
theorem T_rng:∀b:Nat,b<=X.N->0<=X.T b/\X.T b<=20001*b
 |0,_=>by rw[T];omega
 |b+1,hb=>by
  have:=T_rng b Q0;have:=inc_rng h (b:=b) Q0;rw[T];omega
theorem T_mono{a:Nat}:∀{b:Nat},a<=b->b<=X.N->X.T a<=X.T b
 |0,h1,_=>by rw[show a=0 by omega];omega
 |b+1,h1,h2=>by
  by_cases e:a=b+1
  ·subst e;omega
  ·have:=T_mono (a:=a) (b:=b) Q0 Q0;have:=inc_rng h (b:=b) Q0;rw[T];omega
def TT(X:Run):LL:=arr X.T (X.N+1)
theorem Qkj:Gm 400 X.C (X.st:Int) X.nm (X.t:Int) X.sp X.ac X.br Tu2=some (arr X.S (X.N+1),0):=by
 have hN:=h.hN;have h2:=h.h2;have hl:=h.hC.len;have ai:Je 400 X.C (X.st:Int) X.nm (X.t:Int) X.sp X.ac X.br (some:Int->oP Int)=some 0:=by
  unfold Je;rw[Aa h.hk,Qh,Qp Q1,Qp Q3];refine QY (r:=λm i=>YR 400 X.C (X.C.length:Int) _ _ m i) (N:=X.C.length) (λm k hk=>?_) (λm=>?_) X.C.length 400 0 Q0 Q0
  ·have b0:=h.hC.b0 k hk;have b1:=h.hC.b1 k hk;have g0:=h.hC.g0 k hk;have g1:=h.hC.g1 k hk;rw[YR,Qs hk,Qt,h.hC.row k hk];simp -implicitDefEqProofs only[Qh,Qq5,Qq6,Qj,XQ,X4,Qq9,Qq8,Qqc,Qqb,show decide ((cl X.C k).1<1000)=false by simp;omega,show decide ((cl X.C k).1>100000)=false by simp;omega,show decide ((cl X.C k).2 < -40)=false by simp;omega,show decide ((cl X.C k).2>40)=false by simp;omega,QJ (show k<=1000 by omega)]
  ·rw[YR,Qy,Qq8,Qo Q0 Q0,show decide ((X.st:Int)<0)=false by simp,show decide ((X.st:Int)>(X.C.length:Int)-2)=false by simp;omega];rfl
 unfold Gm;rw[ai,Qh,Qp (by rfl),sqA h,Qh];have hW:X.W.length=X.N+1:=YY;rw[hW];have:=QY (r:=λm i=>ZO 400 ((X.N+1:Nat):Int) (λ_ _ d=>some (d,(0:Int))) m i (arr (λj=>if j<i.toNat then X.S j else X.K (X.N-j)) (X.N+1))) (N:=X.N+1) (e:=some (arr X.S (X.N+1),0)) (λm k hk=>?_) (λm=>?_) (X.N+1) 400 0 Q0 Q0
 ·rw[show arr (λj=>if j<(((0:Nat):Int)).toNat then X.S j else X.K (X.N-j)) (X.N+1)=X.W from XZ λj hj=>Qqg Q2]at this;exact this
 ·simp only[Qq7];have hK:=Q5r h (X.N-k) Q0;rw[ZO,Qs hk,Qq9,YY,Q8L hk,Qqg (Nat.lt_irrefl k),(Q6u Q0 Q0).2.1,Qh,Qbj hk,QJ Q0];refine congrArg _ (XZ λj hj=>?_);by_cases aa:j=k
  ·subst aa;rw[Qqe rfl,Qqe Q0];rfl
  ·rw[Qqg aa];by_cases a:j<k
   ·rw[Qqe a,Qqe Q0]
   ·rw[Qqg a,Qqg Q0]
 ·simp only[Qq7];rw[ZO,Qy,Qq8];exact congrArg (λl=>some (l,(0:Int))) (XZ λj hj=>Qqe hj)
theorem timA:Jt 400 X.C (X.st:Int) X.nm (X.t:Int) X.sp X.ac X.br Tu2=some (X.TT,0):=by
 have hN:=h.hN;have hl:=h.hC.len;unfold Jt;rw[Qkj h,Qh,Qp (by rfl),YY,show(bif decide ((0:Int)<=((X.N+1:Nat):Int))&&decide (((X.N+1:Nat):Int)<=((X.N+1:Nat):Int))then some ()else none)=some () by rw[Xh Q3],Qh,Qq7,XI Q0,Qh,Bc];have:=QY (r:=λm i=>WD 400 (arr X.S (X.N+1)) (λ_ _ g=>some (g,(0:Int))) m ((i.toNat+1:Nat):Int) (arr (λj=>if j<=i.toNat then X.T j else 0) (X.N+1))) (N:=X.N) (e:=some (X.TT,0)) (λm k hk=>?_) (λm=>?_) X.N 400 0 Q0 Q0
 ·rw[show arr (λj=>if j<=(((0:Nat):Int)).toNat then X.T j else 0) (X.N+1)=arr (λ_=>0) (X.N+1)from XZ λj hj=>by
   split
   ·rename_i h0;have h0:j=0:=by simpa using h0
    rw[h0,T]
   ·rfl]at this
  exact this
 ·simp only[Qq7];have hi:=inc_rng h hk;have hT:=T_rng h k Q0;rw[WD,YY,Qs (show k+1<X.N+1 by omega),Qq9,JS (show k+1<=1000 by omega) Q0,show k+1-1=k by omega,Qt,Qt,G4 (show k<X.N+1 by omega),G4 (show k+1<X.N+1 by omega)];simp -implicitDefEqProofs only[Qh,Qq5,Qj,wI (a:=X.S k+X.S (k+1)) rfl (show -1000000<=X.S k+X.S (k+1) by omega) (show X.S k+X.S (k+1)<=1000000000 by omega),Qdf (n:=400) (show(0:Int)<=20000000 by decide) (show 1<=X.S k+X.S (k+1) by omega) Q1];rw[YY,Q8L (show k<X.N+1 by omega),Qqe (Qql k),Qbj (show k+1<X.N+1 by omega),QJ Q0,wI (a:=X.T k+cd 20000000 (X.S k+X.S (k+1))) (b:=X.T (k+1)) rfl (by rw[T];omega) (by rw[T];omega)];refine congrArg _ (XZ λj hj=>?_);by_cases aa:j=k+1
  ·subst aa;rw[Qqe rfl,Qqe Q0]
  ·rw[Qqg aa];by_cases c:j<=k
   ·rw[Qqe c,Qqe Q0]
   ·rw[Qqg c,Qqg Q0]
 ·simp only[Qq7];rw[WD,YY,Qy,Qq8];exact congrArg (λl=>some (l,(0:Int))) (XZ λj hj=>Qqe Q0)
end Run
namespace Run
variable{X:Run} (h:X.OK)
include h
theorem Qk7:B8 400 X.C (X.st:Int) X.nm (X.t:Int) X.sp X.ac X.br (some:Int->oP Int)=some 0:=by
 have hN:=h.hN;have h2:=h.h2;have hl:=h.hC.len;obtain⟨t1,t2,s1,s2,a1,a2,b1,b2⟩:=h.hk;have aa:Yb 400 X.nm (X.t:Int) X.sp X.ac X.br (some:Bool->oP Bool)=some true:=by
  unfold Yb;simp -implicitDefEqProofs only[Qh,Qq5,Qq6,Qj,XQ,X4,Qq9,Qq8,Qqc,Qqb,Q5e t1 (show(X.t:Int)<=40 by omega),Q5e (show 1000<=X.sp by omega) (show X.sp<=100000 by omega),Q5e (show 100<=X.ac by omega) (show X.ac<=2000 by omega),Q5e (show 100<=X.br by omega) (show X.br<=2000 by omega)]
 unfold B8;rw[aa,Qh,Qp Q1,Qp Q3];refine QY (r:=λm i=>Kl 400 X.C _ _ m i) (N:=X.C.length) (λm k hk=>?_) (λm=>?_) X.C.length 400 0 Q0 Q0
 ·have b0:=h.hC.b0 k hk;have b1:=h.hC.b1 k hk;have g0:=h.hC.g0 k hk;have g1:=h.hC.g1 k hk;rw[Kl,Qs hk,Qt,h.hC.row k hk];simp -implicitDefEqProofs only[Qh,Qq5,Qq6,Qj,XQ,X4,Qq9,Qq8,Qqc,Qqb,Q5e (show 1000<=(cl X.C k).1 by omega) (show(cl X.C k).1<=100000 by omega),Q5e (show -40<=(cl X.C k).2 by omega) (show(cl X.C k).2<=40 by omega),QJ (show k<=1000 by omega)]
 ·rw[Kl,Qy,Qq8,Qo Q0 Q0,show decide ((X.st:Int)<0)=false by simp,show decide ((X.st:Int)>(X.C.length:Int)-2)=false by simp;omega];rfl
theorem Qkn:Rp 400 X.C (X.st:Int) X.nm (X.t:Int) X.sp X.ac X.br Tu2=some (arr X.S (X.N+1),0):=by
 have hN:=h.hN;have h2:=h.h2;have hl:=h.hC.len;have t2:=h.hk.t2;have hw:wJ ((X.C.length:Int)-(X.st:Int))=(X.N:Int):=by rw[Qo Q0 Q0];omega
 unfold Rp;rw[Qk7 h,Qh,Qp (by rfl),hw,QJ Q0,show(bif decide ((0:Int)<=((X.N+1:Nat):Int))&&decide (((X.N+1:Nat):Int)<=((X.N+1:Nat):Int))then some ()else none)=some () by rw[Xh Q3],Qh,Qq7,XI Q0,Qh,Bc];have e1:∀k0:Int->Bool->LL->oP (LL×Int),UC 400 X.C (X.st:Int) (X.N:Int) X.nm (X.t:Int) X.sp X.ac X.br k0 400 (1:Int) (arr (λ_=>0) (X.N+1))=k0 (X.N:Int) false (arr (λj=>if 1<=j/\j<=X.N-1 then X.V j else 0) (X.N+1)):=by
  intro k0;have:=QY (r:=λm i=>UC 400 X.C (X.st:Int) (X.N:Int) X.nm (X.t:Int) X.sp X.ac X.br k0 m ((i.toNat+1:Nat):Int) (arr (λj=>if 1<=j/\j<=i.toNat then X.V j else 0) (X.N+1))) (N:=X.N-1) (e:=k0 (X.N:Int) false (arr (λj=>if 1<=j/\j<=X.N-1 then X.V j else 0) (X.N+1))) (λm i hi=>?_) (λm=>?_) (X.N-1) 400 0 Q0 Q0
  ·rw[show arr (λj=>if 1<=j/\j<=(((0:Nat):Int)).toNat then X.V j else 0) (X.N+1)=arr (λ_=>0) (X.N+1)from XZ λj hj=>Qqg Q3]at this;exact this
  ·simp only[Qq7];have aw:=Qb7 h (b:=i+1) Q0;have hV:=Qer h (b:=i+1) Q0;rw[UC,Qs (show i+1<X.N by omega),Qq9,wI (show(X.st:Int)+((i+1:Nat):Int)=((X.st+(i+1):Nat):Int) by omega) Q0 Q0,wI (show((X.st+(i+1):Nat):Int)-1=((X.st+i:Nat):Int) by omega) Q0 Q0,QjM h.hC Q0 Q0,Qh,QjM h.hC Q0 Q0,Qh,YY,Qbj Q0,QJ Q0];refine congrArg _ (XZ λj hj=>?_);have e1:(if Q84 X.C X.sp (X.st+(i+1)) X.t<Q84 X.C X.sp (X.st+i) X.t then Q84 X.C X.sp (X.st+(i+1)) X.t else Q84 X.C X.sp (X.st+i) X.t)=X.lo (i+1):=rfl;by_cases aa:j=i+1
   ·subst aa;rw[Qqe rfl,e1,wI (a:=X.lo (i+1)*X.lo (i+1)) (b:=X.V (i+1)) rfl Q0 Q0,Qqe Q0]
   ·rw[Qqg aa];by_cases d:1<=j/\j<=i
    ·rw[Qqe d,Qqe Q0]
    ·rw[Qqg d,Qqg Q0]
  ·simp only[Qq7];rw[show X.N-1+1=X.N by omega,UC,Qy,Qq8]
 rw[e1];have e2:∀k0:Int->Bool->LL->oP (LL×Int),UH 400 X.C (X.st:Int) (X.N:Int) X.nm (X.t:Int) X.sp X.ac X.br k0 400 (0:Int) (arr (λj=>if 1<=j/\j<=X.N-1 then X.V j else 0) (X.N+1))=k0 (X.N:Int) false (arr (λj=>if j<=X.N-1 then X.F j else 0) (X.N+1)):=by
  intro k0;have:=QY (r:=λm i=>UH 400 X.C (X.st:Int) (X.N:Int) X.nm (X.t:Int) X.sp X.ac X.br k0 m i (arr (λj=>if j<=X.N-1 then(if j<=i.toNat then X.F j else X.V j)else 0) (X.N+1))) (N:=X.N) (e:=k0 (X.N:Int) false (arr (λj=>if j<=X.N-1 then X.F j else 0) (X.N+1))) (λm i hi=>?_) (λm=>?_) X.N 400 0 Q0 Q0
  ·rw[show arr (λj=>if j<=X.N-1 then(if j<=(((0:Nat):Int)).toNat then X.F j else X.V j)else 0) (X.N+1)=arr (λj=>if 1<=j/\j<=X.N-1 then X.V j else 0) (X.N+1)from XZ λj hj=>by
    by_cases q:j=0
    ·subst q;rw[Qqe Q0,Qqe Q2,Qqg Q0,F]
    ·by_cases c:j<=X.N-1
     ·rw[Qqe c,Qqg Q3,Qqe Q0]
     ·rw[Qqg c,Qqg Q0]]at this
   exact this
  ·simp only[Qq7];have f:=h.hC.g0 (X.st+i) Q0;have g:=h.hC.g1 (X.st+i) Q0;have hr:=row h (b:=i) Q0;have hF:=QbH h i Q0;have hG:=QdD h (b:=i) Q0;have ha:=Q5O h.hk.a1 h.hk.a2 f g;rw[UH,Qs hi,Qq9,QJ Q0,YY,Q8L (show i+1<X.N+1 by omega),Q8L (show i<X.N+1 by omega),wI (show(X.st:Int)+(i:Int)=((X.st+i:Nat):Int) by omega) Q0 Q0,Qt,hr];simp -implicitDefEqProofs only[Qh,Qq5,Qq6,Qj,XQ,X4,Qq9,Qq8,Qqc,Qqb,Qfq h.hk.a1 h.hk.a2 f g];rw[Qbj (show i+1<X.N+1 by omega),Qqe (show i<=X.N-1 by omega),Qqe (Qql i),Qqg (show ¬ i+1<=i by omega),wI (a:=20000*acc X.ac (cl X.C (X.st+i)).2) (b:=X.G i) rfl Q0 Q0,wI (a:=X.F i+X.G i) (b:=X.F i+X.G i) rfl Q0 Q0];refine congrArg _ (XZ λj hj=>?_);by_cases aa:j=i+1
   ·subst aa;rw[Qqe rfl];by_cases n:i+1<=X.N-1
    ·rw[Qqe n,Qqe n,Qqe (Qql (i+1)),F]
    ·rw[Qqg n,Qqg (show ¬ X.F i+X.G i<0 by omega),Qqg n]
   ·rw[Qqg aa];by_cases c:j<=X.N-1
    ·rw[Qqe c,Qqe c];by_cases d:j<=i
     ·rw[Qqe d,Qqe Q0]
     ·rw[Qqg d,Qqg Q0]
    ·rw[Qqg c,Qqg c]
  ·simp only[Qq7];rw[UH,Qy,Qq8];refine congrArg _ (XZ λj hj=>?_);by_cases c:j<=X.N-1
   ·rw[Qqe c,Qqe c,Qqe Q0]
   ·rw[Qqg c,Qqg c]
 rw[e2];have s:∀k0:Int->Bool->LL->oP (LL×Int),UL 400 X.C (X.st:Int) X.nm (X.t:Int) X.sp X.ac X.br k0 400 (X.N:Int) (arr (λj=>if j<=X.N-1 then X.F j else 0) (X.N+1))=k0 0 false X.W:=by
  intro k0;have:=QY (r:=λm i=>UL 400 X.C (X.st:Int) X.nm (X.t:Int) X.sp X.ac X.br k0 m ((X.N-i.toNat:Nat):Int) (arr (λj=>if X.N-j<=i.toNat then X.K (X.N-j)else X.F j) (X.N+1))) (N:=X.N) (e:=k0 0 false X.W) (λm i hi=>?_) (λm=>?_) X.N 400 0 Q0 Q0
  ·rw[show arr (λj=>if X.N-j<=(((0:Nat):Int)).toNat then X.K (X.N-j)else X.F j) (X.N+1)=arr (λj=>if j<=X.N-1 then X.F j else 0) (X.N+1)from XZ λj hj=>by
    by_cases an:j=X.N
    ·subst an;rw[Qqe Q2,Qqg Q0,Nat.sub_self,K]
    ·rw[Qqg Q3,Qqe Q0]]at this
   exact this
  ·simp only[Qq7];obtain⟨b,hb⟩:∃b,b+1=X.N-i:=⟨X.N-i-1,Q0⟩;have f:=h.hC.g0 (X.st+b) Q0;have g:=h.hC.g1 (X.st+b) Q0;have hr:=row h (b:=b) Q0;have hK:=Q5r h i Q0;have hL:=Qcy h (b:=b) Q0;have ar:=Q5U h.hk.b1 h.hk.b2 f g;rw[<- hb,UL,Xh Q2,JS (show b+1<=1000 by omega) Q0,Qqm,YY,Q8L (show b<X.N+1 by omega),Q8L (show b+1<X.N+1 by omega),wI (show(X.st:Int)+((b+1:Nat):Int)=((X.st+b+1:Nat):Int) by omega) Q0 Q0,JS (show X.st+b+1<=1000 by omega) Q0,Qqm,Qt,hr];simp -implicitDefEqProofs only[Qh,Qq5,Qq6,Qj,XQ,X4,Qq9,Qq8,Qqc,Qqb,Qh3 h.hk.b1 h.hk.b2 f g];rw[Qbj (show b<X.N+1 by omega),show X.N-(i+1)=b by omega,Qqg (show ¬ X.N-b<=i by omega),Qqe (show X.N-(b+1)<=i by omega),show X.N-(b+1)=i by omega,wI (a:=20000*brk X.br (cl X.C (X.st+b)).2) (b:=X.L b) rfl Q0 Q0,wI (a:=X.K i+X.L b) (b:=X.K i+X.L b) rfl Q0 Q0];refine congrArg _ (XZ λj hj=>?_);by_cases ai:j=b
   ·subst ai;rw[Qqe rfl,Qqe (show X.N-j<=i+1 by omega),show X.N-j=i+1 by omega,K,show X.N-(i+1)=j by omega]
   ·rw[Qqg ai];by_cases d:X.N-j<=i
    ·rw[Qqe d,Qqe Q0]
    ·rw[Qqg d,Qqg Q0]
  ·simp only[Qq7];rw[Nat.sub_self,UL,Qp Q1];refine congrArg _ (XZ λj hj=>Qqe Q0)
 rw[s];have:=QY (r:=λm i=>Vz 400 (X.N:Int) (λ_ _ t=>some (t,(0:Int))) m i (arr (λj=>if j<i.toNat then X.S j else X.K (X.N-j)) (X.N+1))) (N:=X.N+1) (e:=some (arr X.S (X.N+1),0)) (λm k hk=>?_) (λm=>?_) (X.N+1) 400 0 Q0 Q0
 ·rw[show arr (λj=>if j<(((0:Nat):Int)).toNat then X.S j else X.K (X.N-j)) (X.N+1)=X.W from XZ λj hj=>Qqg Q2]at this;exact this
 ·simp only[Qq7];have hK:=Q5r h (X.N-k) Q0;rw[Vz,Xh Q3,YY,Q8L hk,Qqg (Nat.lt_irrefl k),(Q6u Q0 Q0).2.2,Qh,Qbj hk,QJ Q0];refine congrArg _ (XZ λj hj=>?_);by_cases ak:j=k
  ·subst ak;rw[Qqe rfl,Qqe Q0];rfl
  ·rw[Qqg ak];by_cases d:j<k
   ·rw[Qqe d,Qqe Q0]
   ·rw[Qqg d,Qqg Q0]
 ·simp only[Qq7];rw[Vz,Qp Q3];exact congrArg (λl=>some (l,(0:Int))) (XZ λj hj=>Qqe hj)
theorem timB:PM 400 X.C (X.st:Int) X.nm (X.t:Int) X.sp X.ac X.br Tu2=some (X.TT,0):=by
 have hN:=h.hN;have hl:=h.hC.len;unfold PM;rw[Qkn h,Qh,Qp (by rfl),YY,show(bif decide ((0:Int)<=((X.N+1:Nat):Int))&&decide (((X.N+1:Nat):Int)<=((X.N+1:Nat):Int))then some ()else none)=some () by rw[Xh Q3],Qh,Qq7,XI Q0,Qh,Bc];have:=QY (r:=λm i=>Ja 400 (arr X.S (X.N+1)) (λ_ _ o=>some (o,(0:Int))) m ((i.toNat+1:Nat):Int) (arr (λj=>if j<=i.toNat then X.T j else 0) (X.N+1))) (N:=X.N) (e:=some (X.TT,0)) (λm k hk=>?_) (λm=>?_) X.N 400 0 Q0 Q0
 ·rw[show arr (λj=>if j<=(((0:Nat):Int)).toNat then X.T j else 0) (X.N+1)=arr (λ_=>0) (X.N+1)from XZ λj hj=>by
   split
   ·rename_i c;have c:j=0:=by simpa using c
    rw[c,T]
   ·rfl]at this
  exact this
 ·simp only[Qq7];have hi:=inc_rng h hk;have hT:=T_rng h k Q0;rw[Ja,YY,Qs (show k+1<X.N+1 by omega),Qq9,JS (show k+1<=1000 by omega) Q0,show k+1-1=k by omega,YY,Q8L (show k<X.N+1 by omega),Qqe (Qql k),Qt,Qt,G4 (show k<X.N+1 by omega),G4 (show k+1<X.N+1 by omega)];simp -implicitDefEqProofs only[Qh,Qq5,Qj,wI (a:=X.S k+X.S (k+1)) rfl (show -1000000<=X.S k+X.S (k+1) by omega) (show X.S k+X.S (k+1)<=1000000000 by omega),QdG (n:=400) (show(0:Int)<=20000000 by decide) (show 1<=X.S k+X.S (k+1) by omega) Q1];rw[Qbj (show k+1<X.N+1 by omega),QJ Q0,wI (a:=X.T k+cd 20000000 (X.S k+X.S (k+1))) (b:=X.T (k+1)) rfl (by rw[T];omega) (by rw[T];omega)];refine congrArg _ (XZ λj hj=>?_);by_cases aa:j=k+1
  ·subst aa;rw[Qqe rfl,Qqe Q0]
  ·rw[Qqg aa];by_cases d:j<=k
   ·rw[Qqe d,Qqe Q0]
   ·rw[Qqg d,Qqg Q0]
 ·simp only[Qq7];rw[Ja,YY,Qy,Qq8];exact congrArg (λl=>some (l,(0:Int))) (XZ λj hj=>Qqe Q0)
end Run
def sl(Se s:LL)(j:Nat):Nat:=(Sn Se (s.getD j [])).length
def pos(Se s:LL):Nat->Nat
 |0=>0
 |j+1=>pos Se s j+sl Se s (j+1)
theorem RM{f:Nat->Int}{n:Nat}:arr f n++[[Ql (f n)]]=arr f (n+1):=by simp[arr,List.range_succ]
section
variable{Se s:LL} (hs:∀r∈s,Dc Se r)
include hs
theorem C6{j:Nat}(hj:j<s.length):∃(x d:Int) (nm:List UInt8) (b c st:Int),s[j]? = some [Ql x,Ql d]/\Qi Se x=some [D.str nm,Ql (sl Se s j),Ql b,Ql c,Ql st]/\2<=sl Se s j/\sl Se s j<=12/\(d=0\/d=1):=by
 obtain⟨x,d,nm,a,b,c,st,e,f,h2,g⟩:=hs _ (Qqj hj);have a0:=h2.a0;have a1:=h2.a1;have e2:s[j]? = some [Ql x,Ql d]:=by rw[Qqa hj,e]
 have h:sl Se s j=a.toNat:=by
  unfold sl;rw[Qqf,e2];show(Sn Se [Ql x,Ql d]).length=_;rw[Hk f,List.length_replicate]
 refine⟨x,d,nm,b,c,st,e2,?_,Q0,Q0,g⟩;rw[f,h,show(a.toNat:Int)=a by omega]
omit hs in
theorem Q3W:∀{j:Nat},j<s.length->(Yw Se (s.take (j+1))).length=sl Se s 0+pos Se s j
 |0,hj=>by
  rw[MC (Qqa hj)];simp only[List.take_zero,Yw,List.flatMap_nil,List.nil_append,pos,sl,Qqf,Qqa hj,Qqu];omega
 |j+1,hj=>by
  have:=Q3W (j:=j) Q0;rw[MC (Qqa hj),QqB,this,pos];simp only[sl,Qqf,Qqa hj,Qqu];omega
omit hs in
theorem Q9N{i j:Nat}(a:i<=j):pos Se s i<=pos Se s j:=by
 induction j with
 |zero=>rw[show i=0 by omega];omega
 |succ j ih=>
  by_cases e:i=j+1
  ·subst e;omega
  ·have:=ih Q0;rw[pos];omega
theorem Q6T{i j:Nat}(a:i<j)(h2:j<s.length):pos Se s i+2<=pos Se s j:=by
 obtain⟨_,_,_,_,_,_,_,_,b,_⟩:=C6 hs (j:=i+1) Q0;have:=Q9N (Se:=Se) (s:=s) (i:=i+1) (j:=j) Q0;rw[pos]at this;omega
end
def Zz(Se s:LL)(nm:List UInt8)(tl sp ac br:Int):Run:=⟨Yw Se s,nm,sp,ac,br,tl.toNat,sl Se s 0,pos Se s (s.length-1)⟩
section
variable{St Pt Se Li s:LL} (h:RtF St Pt Se Li s) {nm:List UInt8} {tl sp ac br:Int} (hk:StkN tl sp ac br)
include h
theorem BU:T8 Se s=(sl Se s 0:Int):=by
 have l2:=h.l2;obtain⟨x,d,_,b,c,st,e,a,_⟩:=C6 h.st (j:=0) Q0;cases s with
 |nil=>cases e
 |cons r t=>
  injection e with e
  subst e;simp only[T8,a]
include hk
theorem Rn:(Zz Se s nm tl sp ac br).OK where
 hC:=Q9c h.st h.l24
 hk:=by
  have:=hk.t1;show StkN (tl.toNat:Int) sp ac br;rw[show(tl.toNat:Int)=tl by omega];exact hk
 hN:=by
  have l2:=h.l2;have:=Q3W (Se:=Se) (s:=s) (j:=s.length-1) Q0;rw[show s.length-1+1=s.length by omega,Qqz]at this;exact this
 h2:=by
  have l2:=h.l2;have:=Q6T h.st (i:=0) (j:=s.length-1) Q0 Q0;show 2<=pos Se s (s.length-1);omega
end
section
variable{St Pt Se Li s:LL} (h:RtF St Pt Se Li s) {nm:List UInt8} {tl sp ac br:Int} (hk:StkN tl sp ac br)
def fEN(Se s:LL)(X:Run)(j:Nat):Int:=X.T (pos Se s (j-1))
def fLV(Se s:LL)(X:Run)(j:Nat):Int:=if j<s.length-1 then X.T (pos Se s j+X.t)else X.T X.N
def Q3k(X:Run):Int:=cd (X.T X.N) 1000
include h hk
theorem tEq:(((Zz Se s nm tl sp ac br).t:Nat):Int)=tl:=by
 have _:=h.l2;have:=hk.t1;show(tl.toNat:Int)=tl;omega
theorem Qeq:Jt 400 (Yw Se s) (sl Se s 0:Int) nm tl sp ac br Tu2=some ((Zz Se s nm tl sp ac br).TT,0):=by
 have:=Run.timA (Rn h (nm:=nm) hk);rw[tEq h hk]at this;exact this
theorem QdP:PM 400 (Yw Se s) (sl Se s 0:Int) nm tl sp ac br Tu2=some ((Zz Se s nm tl sp ac br).TT,0):=by
 have:=Run.timB (Rn h (nm:=nm) hk);rw[tEq h hk]at this;exact this
theorem Q1a{b:Nat}(hb:b<=(Zz Se s nm tl sp ac br).N):0<=(Zz Se s nm tl sp ac br).T b/\(Zz Se s nm tl sp ac br).T b<=7000000:=by
 have hX:=Rn h (nm:=nm) hk;have a:=Run.T_rng hX b hb;have:=hX.hN;have:=hX.hC.len;omega
theorem Fw:0<=Q3k (Zz Se s nm tl sp ac br)/\Q3k (Zz Se s nm tl sp ac br)<=7001:=by
 have a:=Q1a h (nm:=nm) hk (Qql _);have:=Ay a.1 (show(1:Int)<=1000 by decide);unfold Q3k;omega
theorem QeG{j:Nat}(hj:j<s.length):pos Se s j<=(Zz Se s nm tl sp ac br).N/\(j<s.length-1->pos Se s j+(Zz Se s nm tl sp ac br).t<=(Zz Se s nm tl sp ac br).N):=by
 have a:=Q9N (Se:=Se) (s:=s) (i:=j) (j:=s.length-1) Q0;have h2:=tEq h (nm:=nm) hk;have:=hk.t2;refine⟨a,λb=>?_⟩;have:=Q6T h.st (i:=j) (j:=s.length-1) b Q0;show pos Se s j+_<=pos Se s (s.length-1);omega
theorem QfH:KY 400 St Pt Se Li s 0 nm tl sp ac br Tu4=some (arr (fEN Se s (Zz Se s nm tl sp ac br)) s.length,arr (fLV Se s (Zz Se s nm tl sp ac br)) s.length,Q3k (Zz Se s nm tl sp ac br),0):=by
 have l2:=h.l2;have l24:=h.l24;have ht:=tEq h (nm:=nm) hk;have hX:=Rn h (nm:=nm) hk;have aq:=hX.hN;have ao:=hX.hC.len;have am:=Qeq h (nm:=nm) hk;have ai:=λ(j:Nat) (hj:j<s.length)=>QeG h (nm:=nm) hk hj
 have ak:=Q1a h (nm:=nm) hk (Qql _);have hN:(Zz Se s nm tl sp ac br).N=pos Se s (s.length-1):=rfl;unfold KY;rw[QjS h.lay rfl h.l2 h.l24 h.rt h.st hk,Qh,Qp (by rfl),BU h,am,Qh,Q16 h.l24,Qh];revert hX aq ao ai ak hN ht;generalize Zz Se s nm tl sp ac br=X;intro ht hX aq ao ai ak hN;have p:∀k0:Int->Int->Bool->LL->LL->oP (LL×LL×Int×Int),Y3 400 X.TT s s (s.length:Int) Se tl k0 400 0 0 [] []=k0 ((pos Se s (s.length-1):Nat):Int) (s.length:Int) false (arr (fEN Se s X) s.length) (arr (fLV Se s X) (s.length-1)):=by
  intro k0;refine QY (r:=λm i=>Y3 400 X.TT s s (s.length:Int) Se tl k0 m ((pos Se s (i.toNat-1):Nat):Int) i (arr (fEN Se s X) i.toNat) (arr (fLV Se s X) (min i.toNat (s.length-1)))) (N:=s.length) (λm i hi=>?_) (λm=>?_) s.length 400 0 Q0 Q0
  ·simp only[Qq7];obtain⟨x,d,a2,b,c,st,e,q,a0,a1,hd⟩:=C6 h.st hi;have hp:=ai (i-1) Q0;have f:=ai i hi;rw[Y3,Qs hi,Qq9,Qt,e];have hT:Qi X.TT ((pos Se s (i-1):Nat):Int)=some [Ql (fEN Se s X i)]:=by rw[Qt];exact G4 Q0
   have hr:Y5 (((arr (fEN Se s X) i).length+List.length [[D.int .i64 (fEN Se s X i)]])*8)=some ():=XI (by simp only[YY,Qqt,Qqw];omega);simp -implicitDefEqProofs only[Qh,Qq5,Qq6,Qj,hT,hr,RM,wI (show(i:Int)+1=((i+1:Nat):Int) by omega) Q0 Q0,wI (show(s.length:Int)-1=((s.length-1:Nat):Int) by omega) Q0 Q0];have ar:i<s.length-1->Qi X.TT ((pos Se s i+X.t:Nat):Int)=some [Ql (fLV Se s X i)]:=λaa=>by
    have:=f.2 aa;rw[Qt];show(arr X.T (X.N+1))[pos Se s i+X.t]? = _;rw[G4 Q0];unfold fLV;rw[Qqe aa]
   have a:∀k,k<=30->Y5 (((arr (fLV Se s X) k).length+List.length [[D.int .i64 (fLV Se s X k)]])*8)=some ():=λk hk=>XI (by simp only[YY,Qqt,Qqw];omega)
   by_cases t:i=0
   ·subst t;have an:0<s.length-1:=Q0
    have:=ar an;rw[show decide (((0:Nat):Int)>0)=false from rfl,Qq8,Qs an,Qq9,wI (show((pos Se s (0-1):Nat):Int)+tl=((pos Se s 0+X.t:Nat):Int) by rw[<- ht,show 0-1=0 from rfl];omega) Q0 Q0,this,Nat.min_eq_left Q0,Nat.min_eq_left Q0];simp -implicitDefEqProofs only[Qh,Qq5,Qj,a 0 Q0,RM]
   ·have az:pos Se s i=pos Se s (i-1)+sl Se s i:=by
     obtain⟨k,rfl⟩:∃k,i=k+1:=⟨i-1,Q0⟩;rfl
    rw[show decide ((i:Int)>0)=true by simp;omega,Qq9,q];simp -implicitDefEqProofs only[Qh,Qq5,Qq6,Qj,wI (show((pos Se s (i-1):Nat):Int)+((sl Se s i:Nat):Int)=((pos Se s i:Nat):Int) by omega) Q0 Q0,Qqm];by_cases aa:i<s.length-1
    ·rw[Qs aa,Qq9,wI (show((pos Se s i:Nat):Int)+tl=((pos Se s i+X.t:Nat):Int) by omega) (by have:=f.2 aa;omega) (by have:=f.2 aa;omega),ar aa,Nat.min_eq_left Q0,Nat.min_eq_left Q0];simp -implicitDefEqProofs only[Qh,Qq5,Qj,a i Q0,RM]
    ·rw[show decide ((i:Int)<((s.length-1:Nat):Int))=false by simp;omega,Qq8,Nat.min_eq_right Q0,Nat.min_eq_right Q0]
  ·simp only[Qq7];rw[Y3,Qy,Qq8,Nat.min_eq_right Q0]
 rw[p];have hT:Qi X.TT ((pos Se s (s.length-1):Nat):Int)=some [Ql (fLV Se s X (s.length-1))]:=by
  rw[Qt];show(arr X.T (X.N+1))[pos Se s (s.length-1)]? = _;rw[G4 Q0];unfold fLV;rw[Qqg Q0,hN]
 have hl:fLV Se s X (s.length-1)=X.T X.N:=by unfold fLV;rw[Qqg Q0]
 have a:Y5 (((arr (fLV Se s X) (s.length-1)).length+List.length [[D.int .i64 (fLV Se s X (s.length-1))]])*8)=some ():=XI (by simp only[YY,Qqt,Qqw];omega);simp -implicitDefEqProofs only[hT,Qh,Qq5,Qj,a,RM];rw[hl,upA ak.1 Q0,Qh,show s.length-1+1=s.length by omega];rfl
theorem Qiu:Pm 400 St Pt Se Li s 0 nm tl sp ac br Tu4=some (arr (fEN Se s (Zz Se s nm tl sp ac br)) s.length,arr (fLV Se s (Zz Se s nm tl sp ac br)) s.length,Q3k (Zz Se s nm tl sp ac br),0):=by
 have l2:=h.l2;have l24:=h.l24;have ht:=tEq h (nm:=nm) hk;have t1:=hk.t1;have hX:=Rn h (nm:=nm) hk;have aq:=hX.hN;have ao:=hX.hC.len;have an:=QdP h (nm:=nm) hk;have aa:=λ(j:Nat) (hj:j<s.length)=>QeG h (nm:=nm) hk hj
 have ak:=Q1a h (nm:=nm) hk (Qql _);have hN:(Zz Se s nm tl sp ac br).N=pos Se s (s.length-1):=rfl;unfold Pm;rw[Qap h hk,Qh,Qp (by rfl),Qa3 h,Qh,BU h,an,Qh];revert hX aq ao aa ak hN ht;generalize Zz Se s nm tl sp ac br=X;intro ht hX aq ao aa ak hN;have ai:X.TT.length=X.N+1:=YY;have hw:wJ ((s.length:Int)-0)=(s.length:Int):=by rw[Qo Q0 Q0];omega
 have p:∀k0:Int->Int->Bool->LL->LL->oP (LL×LL×Int×Int),Zx 400 X.TT Se s 0 tl k0 400 0 0 [] []=k0 ((pos Se s (s.length-1):Nat):Int) (s.length:Int) false (arr (fEN Se s X) s.length) (arr (fLV Se s X) s.length):=by
  intro k0;refine QY (r:=λm i=>Zx 400 X.TT Se s 0 tl k0 m ((pos Se s (i.toNat-1):Nat):Int) i (arr (fEN Se s X) i.toNat) (arr (fLV Se s X) i.toNat)) (N:=s.length) (λm i hi=>?_) (λm=>?_) s.length 400 0 Q0 Q0
  ·simp only[Qq7];obtain⟨x,d,a2,b,c,st,e,q,a0,a1,hd⟩:=C6 h.st hi;have hp:=aa (i-1) Q0;have t:=aa i hi;have hT:Qi X.TT ((pos Se s (i-1):Nat):Int)=some [Ql (fEN Se s X i)]:=by rw[Qt];exact G4 Q0
   have hr:Y5 (((arr (fEN Se s X) i).length+List.length [[D.int .i64 (fEN Se s X i)]])*8)=some ():=XI (by simp only[YY,Qqt,Qqw];omega);have a:Y5 (((arr (fLV Se s X) i).length+List.length [[D.int .i64 (fLV Se s X i)]])*8)=some ():=XI (by simp only[YY,Qqt,Qqw];omega);have ar:Qi X.TT (if (X.N:Int)<((pos Se s i+X.t:Nat):Int)then(X.N:Int)else((pos Se s i+X.t:Nat):Int))=some [Ql (fLV Se s X i)]:=by
    unfold fLV;by_cases am:i<s.length-1
    ·have:=t.2 am;rw[Qqg Q0,Qqe am,Qt];exact G4 Q0
    ·have e:i=s.length-1:=Q0
     rw[Qqe (by rw[hN,e];omega),Qqg am,Qt];exact G4 Q0
   rw[Zx,hw,Qs hi,Qq9,ai,wI (show((X.N+1:Nat):Int)-1=(X.N:Int) by omega) Q0 Q0];simp -implicitDefEqProofs only[Qh,Qq5,Qq6,Qj,hT,hr,RM,wI (show(i:Int)+1=((i+1:Nat):Int) by omega) Q0 Q0];by_cases u:i=0
   ·subst u;rw[show decide (((0:Nat):Int)>0)=false from rfl,Qq8,wI (show((pos Se s (0-1):Nat):Int)+tl=((pos Se s 0+X.t:Nat):Int) by rw[<- ht,show 0-1=0 from rfl];omega) Q0 Q0,ar];simp -implicitDefEqProofs only[Qh,Qq5,Qj,a,RM]
   ·have az:pos Se s i=pos Se s (i-1)+sl Se s i:=by
     obtain⟨k,rfl⟩:∃k,i=k+1:=⟨i-1,Q0⟩;rfl
    rw[show decide ((i:Int)>0)=true by simp;omega,Qq9,Qt,e];simp -implicitDefEqProofs only[Qh,Qq5,Qq6,Qj,q,wI (show((pos Se s (i-1):Nat):Int)+((sl Se s i:Nat):Int)=((pos Se s i:Nat):Int) by omega) Q0 Q0,wI (show((pos Se s i:Nat):Int)+tl=((pos Se s i+X.t:Nat):Int) by omega) Q0 Q0,ar,a,RM,Qqm]
  ·simp only[Qq7];rw[Zx,hw,Qy,Qq8]
 have hT:Qi X.TT (X.N:Int)=some [Ql (X.T X.N)]:=by rw[Qt];exact G4 Q0
 rw[p,ai,wI (show((X.N+1:Nat):Int)-1=(X.N:Int) by omega) Q0 Q0];simp -implicitDefEqProofs only[hT,Qh,Qq5,Qj,QdG (n:=400) ak.1 (show(1:Int)<=1000 by decide) Q0];rfl
end
abbrev Occ:=Int×Int×Int
def enc(q:Occ):List D:=[Ql q.1,Ql q.2.1,Ql q.2.2]
def Sj(q:Occ):Bool:=decide (q.2.1<q.2.2)
def Cc(T:List Occ)(r:Nat)(f t:Int):List Occ:=match T[r]? with
 |some (_,a,b)=>if a<b then T.set r ((r:Int),(if a<f then a else f),(if t<b then b else t))else T.set r ((r:Int),f,t)
 |none=>T
theorem MF{T:List Occ}{r:Nat}{f t:Int}:(Cc T r f t).length=T.length:=by
 unfold Cc;split
 ·split<;>simp
 ·rfl
theorem QgR{n:Nat}{T:List Occ}{r:Nat}{f t:Int}(h:r<T.length):XF n (T.map enc) (r:Int) f t (some:LL->oP LL)=some ((Cc T r f t).map enc):=by
 obtain⟨⟨x,a,b⟩,e⟩:∃q,T[r]? = some q:=⟨T[r],Qqa h⟩;have e2:(T.map enc)[r]? = some [Ql x,Ql a,Ql b]:=by rw[Qqq,e];rfl
 unfold XF;rw[Qqk,XP Q0 Q0];simp -implicitDefEqProofs only[Qh,Qq5,Qq6,Qj,XQ,X4,Qq9,Qq8,Qqc,Qqb,Qq7,e2,List.set_cons_zero,List.set_cons_succ];unfold Cc;simp only[e];by_cases aa:a<b
 ·rw[show decide (a<b)=true by simpa using aa,Qq9,Qqe aa,List.map_set];rfl
 ·rw[show decide (a<b)=false by simpa using aa,Qq8,Qqg aa,List.map_set];rfl
theorem Qju{n:Nat}{T:List Occ}{r:Nat}{f t:Int}(h:r<T.length)(ac:f<t):YW n (T.map λq=>[D.bool (Sj q)]) (T.map enc) (r:Int) f t Tu2=some ((Cc T r f t).map (λq=>[D.bool (Sj q)]),(Cc T r f t).map enc):=by
 obtain⟨⟨x,a,b⟩,e⟩:∃q,T[r]? = some q:=⟨T[r],Qqa h⟩;have e2:(T.map enc)[r]? = some [Ql x,Ql a,Ql b]:=by rw[Qqq,e];rfl
 have g:(T.map λq=>[D.bool (Sj q)])[r]? = some [D.bool (decide (a<b))]:=by rw[Qqq,e];rfl
 unfold YW;rw[Qqk,Qqk,XP Q0 Q0];simp -implicitDefEqProofs only[Qh,Qq5,Qq6,Qj,XQ,X4,Qq9,Qq8,Qqc,Qqb,Qq7,e2,g,Lx,List.set_cons_zero,List.set_cons_succ];unfold Cc;simp only[e];by_cases aa:a<b
 ·rw[show decide (a<b)=true by simpa using aa,Qq9,Qqe aa,List.map_set,List.map_set,show Sj ((r:Int),(if a<f then a else f),(if t<b then b else t))=true by simp only[Sj,decide_eq_true_eq];split<;>split<;>omega];rfl
 ·rw[show decide (a<b)=false by simpa using aa,Qq8,Qqg aa,List.map_set,List.map_set,show Sj ((r:Int),f,t)=true by simpa[Sj]using ac];rfl
theorem Q4y:∀{l:List Occ} {i:Nat} {a:Occ},((l.set i a).filter Sj).length<=(l.filter Sj).length+1
 |[],i,a=>by simp
 |x::l,0,a=>by
  rw[List.set_cons_zero,QqA,QqA];split<;>split<;>simp<;>omega
 |x::l,i+1,a=>by
  have:=Q4y (l:=l) (i:=i) (a:=a);rw[List.set_cons_succ,QqA,QqA];split<;>simp<;>omega
theorem Q3d{T:List Occ}{r:Nat}{f t:Int}:((Cc T r f t).filter Sj).length<=(T.filter Sj).length+1:=by
 unfold Cc;split
 ·split<;>exact Q4y
 ·omega
theorem Qjh{T:List Occ}(hl:T.length<=300):Vm 400 (T.map enc) (some:LL->oP LL)=some ((T.filter Sj).map enc):=by
 unfold Vm;rw[Qqk];refine QY (r:=λm i=>Y6 400 (T.map enc) (T.length:Int) (λ_ _ w=>some w) m i (((T.take i.toNat).filter Sj).map enc)) (N:=T.length) (λm k hk=>?_) (λm=>?_) T.length 400 0 Q0 Q0
 ·simp only[Qq7];obtain⟨⟨x,a,b⟩,e⟩:∃q,T[k]? = some q:=⟨T[k],Qqa hk⟩;have ac:((((T.take k).filter Sj).map enc).length)<=300:=by
   rw[Qqk];have:=List.length_filter_le Sj (T.take k);rw[List.length_take]at this;omega
  rw[Y6,Qs hk,Qt,Qqq,e,Zv e,List.filter_append,Qqx];simp -implicitDefEqProofs only[Qh,Qq5,Qq6,Qj,XQ,X4,Qq9,Qq8,Qqc,Qqb,Option.map_some,enc,QJ (show k<=1000 by omega)];by_cases aa:a<b
  ·rw[show decide (a<b)=true by simpa using aa,Qq9,show[(x,a,b)].filter Sj=[(x,a,b)] by simp[Sj,aa],XI (by simp only[Qqt,Qqw];omega)];rfl
  ·rw[show decide (a<b)=false by simpa using aa,Qq8,show[(x,a,b)].filter Sj=[] by simp[Sj,aa],List.map_nil,List.append_nil]
 ·simp only[Qq7];rw[Y6,Qy,Qq8,Qqz]
theorem Qiq{R:Type}{T:List Occ}(hl:T.length<=300)(K:LL->oP R):V9 400 (T.length:Int) (T.map λq=>[D.bool (Sj q)]) (T.map enc) (λ_ _ w=>K w) 400 0 []=K ((T.filter Sj).map enc):=by
 refine QY (r:=λm i=>V9 400 (T.length:Int) (T.map λq=>[D.bool (Sj q)]) (T.map enc) (λ_ _ w=>K w) m i (((T.take i.toNat).filter Sj).map enc)) (N:=T.length) (λm k hk=>?_) (λm=>?_) T.length 400 0 Q0 Q0
 ·simp only[Qq7];obtain⟨⟨x,a,b⟩,e⟩:∃q,T[k]? = some q:=⟨T[k],Qqa hk⟩;have ac:((((T.take k).filter Sj).map enc).length)<=300:=by
   rw[Qqk];have:=List.length_filter_le Sj (T.take k);rw[List.length_take]at this;omega
  rw[V9,Qs hk,Qqk,Qqk,XP Q0 Q0,Qq7,Qqq,Qqq,e,Zv e,List.filter_append,Qqx];simp -implicitDefEqProofs only[Qh,Qq5,Qq6,Qj,XQ,X4,Qq9,Qq8,Qqc,Qqb,Option.map_some,enc,show Sj (x,a,b)=decide (a<b)from rfl,Lx,QJ (show k<=1000 by omega)];by_cases aa:a<b
  ·rw[show decide (a<b)=true by simpa using aa,Qq9,show[(x,a,b)].filter Sj=[(x,a,b)] by simp[Sj,aa],XI (by simp only[Qqt,Qqw];omega)];rfl
  ·rw[show decide (a<b)=false by simpa using aa,Qq8,show[(x,a,b)].filter Sj=[] by simp[Sj,aa],List.map_nil,List.append_nil]
 ·simp only[Qq7];rw[V9,Qy,Qq8,Qqz]
def pt(Li s:LL)(i:Nat):Int:=pv (Qfk Li (s.getD (i-1) []) (s.getD i []))
def sec(s:LL)(i:Nat):Nat:=match s.getD i []with
 |.int _ x::_=>x.toNat
 |_=>0
def fr(Se s:LL)(X:Run)(bf:Int)(i:Nat):Int:=if i=0 then -bf else fEN Se s X (i-1) / 1000-16
def tu(Se s:LL)(X:Run)(af:Int)(i:Nat):Int:=if i<s.length-1 then cd (fLV Se s X i) 1000+4 else Q3k X+af
def MS(N NP:Nat)(Li s:LL)(f g:Nat->Int):Nat->List Occ
 |0=>List.replicate (N+NP) (0,0,0)
 |i+1=>if i=0 then Cc (MS N NP Li s f g i) (sec s i) (f i) (g i)else if pt Li s i<0 then Cc (MS N NP Li s f g i) (sec s i) (f i) (g i)else Cc (Cc (MS N NP Li s f g i) (sec s i) (f i) (g i)) (N+(pt Li s i).toNat) (f i) (g (i-1))
theorem P4{N NP:Nat}{Li s:LL}{f g:Nat->Int}:∀{i:Nat},(MS N NP Li s f g i).length=N+NP
 |0=>by simp[MS]
 |i+1=>by
  rw[MS];split
  ·rw[MF,P4]
  ·split<;>simp only[MF,P4]
theorem Q2i{N NP:Nat}{Li s:LL}{f g:Nat->Int}{j:Nat}:MS N NP Li s f g (j+1+1)=if pt Li s (j+1)<0 then Cc (MS N NP Li s f g (j+1)) (sec s (j+1)) (f (j+1)) (g (j+1))else Cc (Cc (MS N NP Li s f g (j+1)) (sec s (j+1)) (f (j+1)) (g (j+1))) (N+(pt Li s (j+1)).toNat) (f (j+1)) (g j):=by
 show(if j+1=0 then _ else _)=_;rw[Qqg Q0];rfl
def Q8e(St Pt Se Li s:LL)(X:Run)(bf af:Int):List Occ:=(MS Se.length Pt.length Li s (fr Se s X bf) (tu Se s X af) s.length).filter Sj
section
variable{N NP:Nat} {Li:LL}
theorem Q60:∀{s:LL} {k:Nat},Q0q N NP Li k s=true->∀i,i+1<s.length->∃p,Qfk Li (s.getD i []) (s.getD (i+1) [])=some p/\ptR [] [] (List.replicate N []) Li (s.getD i []) (s.getD (i+1) [])=some p /\ -1<=p/\p<NP
 |[],_,_,i,hi=>by simp at hi
 |[_],_,_,i,hi=>by simp at hi
 |r::r'::t,k,h,i,hi=>by
  rw[Q0q]at h;split at h
  ·rename_i p q e1 e2;simp only[Qqy,beq_iff_eq,decide_eq_true_eq]at h;obtain⟨rfl,a,h2,b⟩:=h;cases i with
   |zero=>exact⟨p,e1,e2,a,h2⟩
   |succ i=>exact Q60 b i (by simpa using hi)
  ·cases h
theorem Q7G:∀{s:LL} {k:Nat},Q0q N NP Li k s=true->∀(c:Nat->Nat),(∀i,c (i+1)<=c i+(if pt Li s (i+1)<0 then 1 else 2))->c 0<=k->∀i,i<s.length->c i<=5
 |[],_,_,_,_,_,i,hi=>by simp at hi
 |[r],k,h,c,hc,f,i,hi=>by
  have:i=0:=by simpa using hi
  subst this;have:k<=5:=QqD h;omega
 |r::r'::t,k,h,c,hc,f,i,hi=>by
  rw[Q0q]at h;split at h
  ·rename_i p q e1 e2;simp only[Qqy,beq_iff_eq,decide_eq_true_eq]at h;obtain⟨rfl,j,h2,e⟩:=h;have hp:pt Li (r::r'::t) 1=p:=by show pv (Qfk Li r r')=p;rw[e1];rfl
   have d:c 1<=c 0+(if pt Li (r::r'::t) 1<0 then 1 else 2):=hc 0;rw[hp]at d;have g:c 1<=(bif decide (p<0)then k+1 else k+2):=by
    by_cases hq:p<0
    ·rw[Qqe hq]at d;rw[show decide (p<0)=true by simpa using hq,Qq9];omega
    ·rw[Qqg hq]at d;rw[show decide (p<0)=false by simpa using hq,Qq8];omega
   have ih:=Q7G e (λi=>c (i+1)) (λi=>hc (i+1)) g;cases i with
   |zero=>
    have:=ih 0 Q2;have hq:c 0<=5:=by
     have aa:∀{s:LL} {k:Nat},Q0q N NP Li k s=true->k<=5:=by
      intro s;induction s with
      |nil=>exact λh=>QqD h
      |cons a s ih=>
       intro k h;cases s with
       |nil=>exact QqD h
       |cons b s=>
        rw[Q0q]at h;split at h
        ·simp only[Qqy]at h;have:=ih h.2.2.2;revert this;cases decide (_<(0:Int))<;>simp<;>omega
        ·cases h
     have:=aa e;revert this;cases decide (p<0)<;>simp<;>omega
    exact hq
   |succ i=>exact ih i (by simpa using hi)
  ·cases h
end
theorem MD{α:Type}{l:List α}{n:Nat}(h:l.length=n):SY l n=some ():=by
 grind[SY,Nat.beq,Nat.beq_refl]
def spn(f g:Nat->Int)(n:Nat):LL:=(List.range n).map λi=>[Ql 0,Ql (f i),Ql (g i)]
theorem Q9o{f g:Nat->Int}{n:Nat}:(spn f g n).length=n:=by simp[spn]
theorem Qhg{f g:Nat->Int}{n i:Nat}(h:i<n):(spn f g n)[i]? = some [Ql 0,Ql (f i),Ql (g i)]:=by simp[spn,h]
theorem Q73{f g:Nat->Int}{n:Nat}:spn f g n++[[Ql 0,Ql (f n),Ql (g n)]]=spn f g (n+1):=by simp[spn,List.range_succ]
theorem Q2C{St Pt Se Li:LL}(h:Py 400 St Pt Se Li=true):Pt.length<=48/\Se.length<=96:=by
 simp_all [Py,Qqy,QqD]
theorem Qbl{l:List Occ}:L8 [l.map enc]=some ():=by
 unfold L8;rw[show([l.map enc].all A7)=true by simp[A7,enc,Q66]];rfl
section
variable{St Pt Se Li s:LL} (h:RtF St Pt Se Li s) {nm:List UInt8} {tl sp ac br bf af:Int} (hk:StkN tl sp ac br) (hb0:0<=bf) (hb1:bf<=65536) (ha0:0<=af) (ha1:af<=65536)
include h hk
theorem Q7V{i j:Nat}(ai:i<=j)(hj:j<s.length):0<=fEN Se s (Zz Se s nm tl sp ac br) i/\fEN Se s (Zz Se s nm tl sp ac br) i<=fLV Se s (Zz Se s nm tl sp ac br) j/\fLV Se s (Zz Se s nm tl sp ac br) j<=7000000:=by
 have hX:=Rn h (nm:=nm) hk;have a:=QeG h (nm:=nm) hk hj;have h2:=Q9N (Se:=Se) (s:=s) (i:=i-1) (j:=j) Q0;have c:=Q1a h (nm:=nm) hk (b:=pos Se s (i-1)) Q0;unfold fEN fLV;by_cases hm:j<s.length-1
 ·rw[Qqe hm];exact⟨c.1,Run.T_mono hX Q0 (a.2 hm),(Q1a h (nm:=nm) hk (a.2 hm)).2⟩
 ·rw[Qqg hm];exact⟨c.1,Run.T_mono hX Q0 (Qql _),(Q1a h (nm:=nm) hk (Qql _)).2⟩
include hb0 hb1 ha0 ha1
theorem QjW{i:Nat}(hi:i<s.length) : -70000<=fr Se s (Zz Se s nm tl sp ac br) bf i/\fr Se s (Zz Se s nm tl sp ac br) bf i<tu Se s (Zz Se s nm tl sp ac br) af i/\tu Se s (Zz Se s nm tl sp ac br) af i<=80000/\(1<=i->fr Se s (Zz Se s nm tl sp ac br) bf i<tu Se s (Zz Se s nm tl sp ac br) af (i-1)):=by
 have l2:=h.l2;have hr:=Fw h (nm:=nm) hk;have hN:=Q7V h (nm:=nm) hk (i:=i-1) (j:=s.length-1) Q0 Q0;have b:=Q7V h (nm:=nm) hk (i:=i-1) (j:=i) Q0 hi;have c:=Q7V h (nm:=nm) hk (i:=i-1) (j:=i-1) Q0 Q0;have c1:=Ay (a:=fLV Se s (Zz Se s nm tl sp ac br) i) Q0 (show(1:Int)<=1000 by decide);have c0:=Ay (a:=fLV Se s (Zz Se s nm tl sp ac br) (i-1)) Q0 (show(1:Int)<=1000 by decide);have hl:fLV Se s (Zz Se s nm tl sp ac br) (s.length-1)=(Zz Se s nm tl sp ac br).T (Zz Se s nm tl sp ac br).N:=by unfold fLV;rw[Qqg Q0]
 have cN:=Ay (a:=fLV Se s (Zz Se s nm tl sp ac br) (s.length-1)) Q0 (show(1:Int)<=1000 by decide);have aa:Q3k (Zz Se s nm tl sp ac br)=cd (fLV Se s (Zz Se s nm tl sp ac br) (s.length-1)) 1000:=by rw[hl];rfl
 unfold fr tu;omega
theorem QiS:Uq 400 St Pt Se Li s 0 nm tl sp ac br bf af Tu3=some ((Q8e St Pt Se Li s (Zz Se s nm tl sp ac br) bf af).map enc,Q3k (Zz Se s nm tl sp ac br),0):=by
 have l2:=h.l2;have l24:=h.l24;have a5:=Fw h (nm:=nm) hk;have ai:=λi j (a8:i<=j) (hj:j<s.length)=>Q7V h (nm:=nm) hk (i:=i) (j:=j) a8 hj
 have aq:=λi (hi:i<s.length)=>QjW h (nm:=nm) hk hb0 hb1 ha0 ha1 hi
 have bc:=QfH h (nm:=nm) hk;have bl:=Q2C h.lay;unfold Uq;rw[Qh9 h.lay rfl h.l2 h.l24 h.rt h.st hk,Qh,Qp (by rfl),show decide (bf<0)=false by simpa using hb0,show decide (bf>65536)=false by simpa using hb1,show decide (af<0)=false by simpa using ha0,show decide (af>65536)=false by simpa using ha1];simp -implicitDefEqProofs only[Qq8];unfold Jm;rw[bc];revert a5 ai aq;generalize Zz Se s nm tl sp ac br=X;intro a5 ai aq;have z:wJ ((s.length:Int)-1)=((s.length-1:Nat):Int):=JS Q0 Q0;have aa:wJ (((s.length-1:Nat):Int)-1)=((s.length-1-1:Nat):Int):=JS Q0 Q0;have ay:∀i,i<s.length->Qi (arr (fEN Se s X) s.length) (i:Int)=some [Ql (fEN Se s X i)]:=λi hi=>by rw[Qt];exact G4 hi
 have a2:∀i,i<s.length->Qi (arr (fLV Se s X) s.length) (i:Int)=some [Ql (fLV Se s X i)]:=λi hi=>by rw[Qt];exact G4 hi
 have ax:∀i,i<s.length->Vi 400 (fEN Se s X i) (some:Int->oP Int)=some (fEN Se s X i / 1000):=λi hi=>Qie (ai i i (Qql i) hi).1 (by have:=ai i i (Qql i) hi;omega)
 have a4:∀i,i<s.length->JQ 400 (fLV Se s X i) (some:Int->oP Int)=some (cd (fLV Se s X i) 1000):=λi hi=>upA (by have:=ai i i (Qql i) hi;omega) (by have:=ai i i (Qql i) hi;omega)
 have ao:∀(k:Nat) (r:List D),k<=30->Y5 (((spn (fr Se s X bf) (tu Se s X af) k).length+[r].length)*24)=some ():=λk r hk=>XI (by simp only[Q9o,Qqt,Qqw];omega)
 have f0:fr Se s X bf 0 = -bf:=rfl;have t0:tu Se s X af 0=cd (fLV Se s X 0) 1000+4:=by unfold tu;rw[Qqe Q0]
 have q0:=aq 0 Q0;rw[Qh,Qp (by rfl)];dsimp only;rw[show(0:Int)=((0:Nat):Int)from rfl,a2 0 Q0];simp -implicitDefEqProofs only[Qh,Qq5,Qj,a4 0 Q0,YY,z];have ab:∀k0:Int->Bool->LL->oP (LL×Int×Int),XV 400 (arr (fEN Se s X) s.length) (arr (fLV Se s X) s.length) ((s.length-1:Nat):Int) k0 400 1 (spn (fr Se s X bf) (tu Se s X af) 1)=k0 ((s.length-1:Nat):Int) false (spn (fr Se s X bf) (tu Se s X af) (s.length-1)):=by
  intro k0;refine QY (r:=λm i=>XV 400 (arr (fEN Se s X) s.length) (arr (fLV Se s X) s.length) ((s.length-1:Nat):Int) k0 m ((i.toNat+1:Nat):Int) (spn (fr Se s X bf) (tu Se s X af) (i.toNat+1))) (N:=s.length-1-1) (λm i hi=>?_) (λm=>?_) (s.length-1-1) 400 0 Q0 Q0
  ·simp only[Qq7];have hf:fr Se s X bf (i+1)=fEN Se s X i / 1000-16:=by unfold fr;rw[Qqg Q0];rfl
   have ht:tu Se s X af (i+1)=cd (fLV Se s X (i+1)) 1000+4:=by unfold tu;rw[Qqe Q0]
   have q:=aq (i+1) Q0;rw[XV,Qs (show i+1<s.length-1 by omega),Qq9,JS (show i+1<=1000 by omega) Q0,Qqm,ay i Q0];simp -implicitDefEqProofs only[Qh,Qq5,Qj,ax i Q0,a2 (i+1) Q0,a4 (i+1) Q0,wI hf.symm Q0 Q0,wI ht.symm Q0 Q0,ao (i+1) _ Q0,Q73,QJ (show i+1<=1000 by omega)]
  ·simp only[Qq7];rw[show s.length-1-1+1=s.length-1 by omega,XV,Qy,Qq8]
 rw[show([[D.int .i64 ((0:Nat):Int),D.int .i64 (wJ (((0:Nat):Int)-bf)),D.int .i64 (wJ (cd (fLV Se s X 0) 1000+4))]]:LL)=spn (fr Se s X bf) (tu Se s X af) 1 by
  rw[wI (show((0:Nat):Int)-bf=fr Se s X bf 0 by omega) Q0 Q0,wI t0.symm Q0 Q0];rfl,ab]
 have ba:fr Se s X bf (s.length-1)=fEN Se s X (s.length-1-1) / 1000-16:=by unfold fr;rw[Qqg Q0]
 have bd:tu Se s X af (s.length-1)=Q3k X+af:=by unfold tu;rw[Qqg Q0]
 have qm:=aq (s.length-1) Q0;have a6:J9 400 St Pt Se Li (some:LL->oP LL)=some ((MS Se.length Pt.length Li s (fr Se s X bf) (tu Se s X af) 0).map enc):=by
  unfold J9;rw[wI (show(Se.length:Int)+(Pt.length:Int)=((Se.length+Pt.length:Nat):Int) by omega) Q0 Q0,show(bif decide ((0:Int)<=((Se.length+Pt.length:Nat):Int))&&decide (((Se.length+Pt.length:Nat):Int)<=((Se.length+Pt.length:Nat):Int))then some ()else none)=some () by rw[Xh Q3],Qh,Qq7,XI Q0,Qh,MS,List.map_replicate];rfl
 rw[aa,ay (s.length-1-1) Q0];simp -implicitDefEqProofs only[Qh,Qq5,Qj,ax (s.length-1-1) Q0,ax (s.length-1) Q0,ay (s.length-1) Q0,a6,show((0:Nat):Int)=0 from rfl,wI ba.symm Q0 Q0,wI bd.symm Q0 Q0,ao (s.length-1) _ Q0,Q73];rw[show s.length-1+1=s.length by omega];have ad:∀k0:Int->Bool->LL->LL->oP (LL×Int×Int),QB 400 ((s.length-1:Nat):Int) s (s.length:Int) St Pt Se Li s (wJ (fEN Se s X (s.length-1) / 1000-16)) (wJ (Q3k X+20)) k0 400 0 (spn (fr Se s X bf) (tu Se s X af) s.length) ((MS Se.length Pt.length Li s (fr Se s X bf) (tu Se s X af) 0).map enc)=k0 (s.length:Int) false (spn (fr Se s X bf) (tu Se s X af) s.length) ((MS Se.length Pt.length Li s (fr Se s X bf) (tu Se s X af) s.length).map enc):=by
  intro k0;refine QY (r:=λm i=>QB 400 ((s.length-1:Nat):Int) s (s.length:Int) St Pt Se Li s (wJ (fEN Se s X (s.length-1) / 1000-16)) (wJ (Q3k X+20)) k0 m i (spn (fr Se s X bf) (tu Se s X af) s.length) ((MS Se.length Pt.length Li s (fr Se s X bf) (tu Se s X af) i.toNat).map enc)) (N:=s.length) (λm i hi=>?_) (λm=>?_) s.length 400 0 Q0 Q0
  ·simp only[Qq7];obtain⟨x,d,bk,b,c,st,e,h1,a0,a1,hd⟩:=C6 h.st hi;have hx:=Rr h1;have ak:0<=x/\x<Se.length:=by
    have h2:=hx.1;unfold inB at h2;by_cases hc:0<=x/\x<Se.length
    ·exact hc
    ·rw[show(decide (0<=x)&&decide (x<(Se.length:Int)))=false by simp;omega]at h2;cases h2
   have aw:x=((sec s i:Nat):Int):=by
    unfold sec;rw[Qqf,e];show x=(x.toNat:Int);omega
   have hT:=P4 (N:=Se.length) (NP:=Pt.length) (Li:=Li) (s:=s) (f:=fr Se s X bf) (g:=tu Se s X af) (i:=i);have ha:=QgR (n:=400) (T:=MS Se.length Pt.length Li s (fr Se s X bf) (tu Se s X af) i) (r:=sec s i) (f:=fr Se s X bf i) (t:=tu Se s X af i) Q0;have a3:∀j,j<s.length->(spn (fr Se s X bf) (tu Se s X af) s.length)[j]? = some [Ql 0,Ql (fr Se s X bf j),Ql (tu Se s X af j)]:=λj hj=>Qhg hj
   rw[QB,Qs hi,Qt,e];simp -implicitDefEqProofs only[Qq9,Qh,Qq5,Qq6,show decide ((i:Int)>((s.length-1:Nat):Int))=false by simp;omega,Qq8,Qj,Q9o,XP (len:=s.length) (show(0:Int)<=(i:Int) by omega) (show(i:Int)<(s.length:Int) by omega),Qq7,a3 i hi,aw,ha,QJ (show i<=1000 by omega),MD (l:=(Cc (MS Se.length Pt.length Li s (fr Se s X bf) (tu Se s X af) i) (sec s i) (fr Se s X bf i) (tu Se s X af i)).map enc) (n:=((MS Se.length Pt.length Li s (fr Se s X bf) (tu Se s X af) i).map enc).length) (by simp only[Qqk,MF])];by_cases ag:i=0
   ·subst ag;rw[show(((0:Nat):Int) == 0)=true from rfl,Qq9];rfl
   ·obtain⟨j,rfl⟩:∃j,i=j+1:=⟨i-1,Q0⟩;obtain⟨x',d',bi,b',c',st',e',bh,_,_,a7⟩:=C6 h.st (j:=j) Q0;obtain⟨p,a,al,am,an⟩:=Q60 h.hops j hi;rw[Qqf,Qqf,e,e',Qqu,Qqu]at a;have bb:=Rr bh;have ar:0<=x'/\x'<Se.length:=by
     have h2:=bb.1;unfold inB at h2;by_cases hc:0<=x'/\x'<Se.length
     ·exact hc
     ·rw[show(decide (0<=x')&&decide (x'<(Se.length:Int)))=false by simp;omega]at h2;cases h2
    have a9:pt Li s (j+1)=p:=by
     unfold pt;rw[Qqf,Qqf,e,Qqm,e',Qqu,Qqu,a];rfl
    have az:=(Qdw h.lay ar.1 ar.2 a7 (y:=x) (e:=d)).trans a;rw[aw]at az;rw[show(((j+1:Nat):Int) == 0)=false by simp;omega,Qq8,JS (show j+1<=1000 by omega) Q0,Qqm,Qt,e'];simp -implicitDefEqProofs only[Qh,Qq5,Qq6,Qj,az];rw[Q2i,a9];by_cases hp:p<0
    ·rw[show decide (p<0)=true by simpa using hp,Qq9,Qqe hp]
    ·have ah:=QgR (n:=400) (T:=Cc (MS Se.length Pt.length Li s (fr Se s X bf) (tu Se s X af) (j+1)) (sec s (j+1)) (fr Se s X bf (j+1)) (tu Se s X af (j+1))) (r:=Se.length+p.toNat) (f:=fr Se s X bf (j+1)) (t:=tu Se s X af j) (by rw[MF];omega);rw[show decide (p<0)=false by simpa using hp,Qq8,Qqg hp,show decide (((j+1:Nat):Int)<=((s.length-1:Nat):Int))=true by simp;omega,Qq9];simp -implicitDefEqProofs only[XP (len:=s.length) (show(0:Int)<=(j:Int) by omega) (show(j:Int)<(s.length:Int) by omega),Qh,Qq5,Qq6,Qj,a3 j Q0,wI (show(Se.length:Int)+p=((Se.length+p.toNat:Nat):Int) by omega) Q0 Q0,Qq7,ah,Qqm];rw[MD (by simp only[Qqk,MF]),Qh]
  ·simp only[Qq7];rw[QB,Qy,Qq8]
 rw[ad,Qjh (by rw[P4];omega),Qh,Qbl,Qh];rfl
end
theorem Qhk{St Pt Se Li L:LL}{x d y e p:Int}(h:ptR [] [] L Li [Ql x,Ql d] [Ql y,Ql e]=some p):∃a b c,JR 400 St Pt Se Li x d y e Tu5=some (a,b,Ql p,c,true):=by
 rw[QjU (a':=[]) (b':=[]) (L':=L)];unfold ptR at h;dsimp only at h;split at h
 ·rename_i he;cases h;exact⟨_,_,_,he⟩
 ·cases h
def Qdi(T:List Occ):LL:=T.map λq=>[D.bool (Sj q)]
section
variable{St Pt Se Li s:LL} (h:RtF St Pt Se Li s) {nm:List UInt8} {tl sp ac br bf af:Int} (hk:StkN tl sp ac br) (hb0:0<=bf) (hb1:bf<=65536) (ha0:0<=af) (ha1:af<=65536)
include h hk hb0 hb1 ha0 ha1
theorem Qio:Hm 400 St Pt Se Li s 0 nm tl sp ac br bf af Tu3=some ((Q8e St Pt Se Li s (Zz Se s nm tl sp ac br) bf af).map enc,Q3k (Zz Se s nm tl sp ac br),0):=by
 have l2:=h.l2;have l24:=h.l24;have a9:=Fw h (nm:=nm) hk;have ay:=λi j (bh:i<=j) (hj:j<s.length)=>Q7V h (nm:=nm) hk (i:=i) (j:=j) bh hj
 have a3:=λi (hi:i<s.length)=>QjW h (nm:=nm) hk hb0 hb1 ha0 ha1 hi
 have bk:=Qiu h (nm:=nm) hk;have b6:=Q2C h.lay;unfold Hm;rw[Qap h hk,Qh,Qp (by rfl),Q5e hb0 hb1,Qh,Q5e ha0 ha1];simp -implicitDefEqProofs only[Qh,Qqc,Qq8,Qqb];rw[bk];revert a9 ay a3;generalize Zz Se s nm tl sp ac br=X;intro a9 ay a3;have t:wJ ((s.length:Int)-1)=((s.length-1:Nat):Int):=JS Q0 Q0;have bb:∀i,i<s.length->Qi (arr (fEN Se s X) s.length) (i:Int)=some [Ql (fEN Se s X i)]:=λi hi=>by rw[Qt];exact G4 hi
 have a4:∀i,i<s.length->Qi (arr (fLV Se s X) s.length) (i:Int)=some [Ql (fLV Se s X i)]:=λi hi=>by rw[Qt];exact G4 hi
 have a5:∀i,i<s.length->VF 400 (fEN Se s X i) 1000 (some:Int->oP Int)=some (fEN Se s X i / 1000):=λi hi=>Qhd (ay i i (Qql i) hi).1 (by have:=ay i i (Qql i) hi;omega)
 have a8:∀i,i<s.length->Jr 400 (fLV Se s X i) 1000 (some:Int->oP Int)=some (cd (fLV Se s X i) 1000):=λi hi=>QdG (by have:=ay i i (Qql i) hi;omega) Q1 (by have:=ay i i (Qql i) hi;omega)
 have bd:wJ ((Se.length:Int)+(Pt.length:Int))=((Se.length+Pt.length:Nat):Int):=wI Q0 Q0 Q0;have hg:(bif decide ((0:Int)<=((Se.length+Pt.length:Nat):Int))&&decide (((Se.length+Pt.length:Nat):Int)<=((Se.length+Pt.length:Nat):Int))then some ()else none)=some ():=by rw[Xh Q3]
 rw[Qh];dsimp only;simp -implicitDefEqProofs only[bd,hg,Qh,Qq7,XI (show(Se.length+Pt.length)*1<=100000 by omega),XI (show(Se.length+Pt.length)*24<=100000 by omega),YY,t];let T:Nat->List Occ:=λi=>MS Se.length Pt.length Li s (fr Se s X bf) (tu Se s X af) i
 have u:∀k0:Int->Int->Bool->LL->LL->oP (LL×Int×Int),Wm 400 bf af (arr (fEN Se s X) s.length) (arr (fLV Se s X) s.length) (Q3k X) ((s.length-1:Nat):Int) St Pt Se Li s k0 400 0 0 (Qdi (T 0)) ((T 0).map enc)=k0 (tu Se s X af (s.length-1)) (s.length:Int) false (Qdi (T s.length)) ((T s.length).map enc):=by
  intro k0;refine QY (r:=λm i=>Wm 400 bf af (arr (fEN Se s X) s.length) (arr (fLV Se s X) s.length) (Q3k X) ((s.length-1:Nat):Int) St Pt Se Li s k0 m (if i.toNat=0 then 0 else tu Se s X af (i.toNat-1)) i (Qdi (T i.toNat)) ((T i.toNat).map enc)) (N:=s.length) (λm i hi=>?_) (λm=>?_) s.length 400 0 Q0 Q0
  ·simp only[Qq7];obtain⟨x,d,b0,b,c,st,e,v,a0,a1,hd⟩:=C6 h.st hi;have hx:=Rr v;have ax:0<=x/\x<Se.length:=by
    have h2:=hx.1;unfold inB at h2;by_cases hc:0<=x/\x<Se.length
    ·exact hc
    ·rw[show(decide (0<=x)&&decide (x<(Se.length:Int)))=false by simp;omega]at h2;cases h2
   have a2:x=((sec s i:Nat):Int):=by
    unfold sec;rw[Qqf,e];show x=(x.toNat:Int);omega
   have hT:(T i).length=Se.length+Pt.length:=P4;have q:=a3 i hi;have ha:YW 400 (Qdi (T i)) ((T i).map enc) ((sec s i:Nat):Int) (fr Se s X bf i) (tu Se s X af i) Tu2=_:=Qju Q0 q.2.1;rw[Wm,Qs hi,Qq9];have hz:∀(J:Int->Int->oP (LL×Int×Int)),jn J (λj=>bif ((i:Int) == (0:Int))then
      gb true (Qi (arr (fLV Se s X) s.length) (0:Int)) [] λy=>gb true (y[0]?) oF λz=>gb true (pIw z) 0 λaa=>gb true (Jr 400 aa (1000:Int) some) 0 λab=>j (wJ (0-bf)) (wJ (ab+(4:Int)))
     else bif (decide ((i:Int)<((s.length-1:Nat):Int)))then
      gb true (Qi (arr (fEN Se s X) s.length) (wJ ((i:Int)-(1:Int)))) [] λad=>gb true (ad[0]?) oF λae=>gb true (pIw ae) 0 λag=>gb true (VF 400 ag (1000:Int) some) 0 λah=>
      gb true (Qi (arr (fLV Se s X) s.length) (i:Int)) [] λai=>gb true (ai[0]?) oF λaj=>gb true (pIw aj) 0 λak=>gb true (Jr 400 ak (1000:Int) some) 0 λal=>j (wJ (ah-(16:Int))) (wJ (al+(4:Int)))
     else bif ((i:Int) == ((s.length-1:Nat):Int))then
      gb true (Qi (arr (fEN Se s X) s.length) (wJ (((s.length-1:Nat):Int)-(1:Int)))) [] λam=>gb true (am[0]?) oF λan=>gb true (pIw an) 0 λao=>gb true (VF 400 ao (1000:Int) some) 0 λap=>j (wJ (ap-(16:Int))) (wJ (Q3k X+af))
     else
      gb true (Qi (arr (fEN Se s X) s.length) ((s.length-1:Nat):Int)) [] λaq=>gb true (aq[0]?) oF λar=>gb true (pIw ar) 0 λau=>gb true (VF 400 au (1000:Int) some) 0 λav=>j (wJ (av-(16:Int))) (wJ (Q3k X+(20:Int))))=J (fr Se s X bf i) (tu Se s X af i):=by
    intro J;dsimp only[jn];by_cases g:i=0
    ·subst g;have t0:tu Se s X af 0=cd (fLV Se s X 0) 1000+4:=by unfold tu;rw[Qqe Q0]
     have f0:fr Se s X bf 0 = -bf:=rfl;rw[show(((0:Nat):Int) == 0)=true from rfl,Qq9,show(0:Int)=((0:Nat):Int)from rfl,a4 0 hi];simp -implicitDefEqProofs only[Qh,Qq5,Qj,a8 0 hi,wI (show((0:Nat):Int)-bf=fr Se s X bf 0 by omega) Q0 Q0,wI t0.symm Q0 Q0]
    ·have hp:fr Se s X bf i=fEN Se s X (i-1) / 1000-16:=by unfold fr;rw[Qqg g]
     rw[show((i:Int) == 0)=false by simp;omega,Qq8];by_cases a7:i<s.length-1
     ·have ht:tu Se s X af i=cd (fLV Se s X i) 1000+4:=by unfold tu;rw[Qqe a7]
      rw[Qs a7,Qq9,JS Q0 Q0,bb (i-1) Q0];simp -implicitDefEqProofs only[Qh,Qq5,Qj,a5 (i-1) Q0,a4 i hi,a8 i hi,wI hp.symm Q0 Q0,wI ht.symm Q0 Q0]
     ·obtain rfl:i=s.length-1:=Q0
      have ht:tu Se s X af (s.length-1)=Q3k X+af:=by unfold tu;rw[Qqg Q0]
      rw[Qy,Qq8,show(((s.length-1:Nat):Int) == ((s.length-1:Nat):Int))=true by simp,Qq9,JS Q0 Q0,bb (s.length-1-1) Q0];simp -implicitDefEqProofs only[Qh,Qq5,Qj,a5 (s.length-1-1) Q0,wI hp.symm Q0 Q0,wI ht.symm Q0 Q0]
   rw[hz,Qt,e];simp -implicitDefEqProofs only[Qh,Qq5,Qq6,Qj,a2,ha,QJ (show i<=1000 by omega),Qqm,Nat.succ_ne_zero,if_false];by_cases g:i=0
   ·subst g;rw[show decide (((0:Nat):Int)>0)=false from rfl,Qq8];rfl
   ·obtain⟨j,rfl⟩:∃j,i=j+1:=⟨i-1,Q0⟩;obtain⟨x',d',bl,b',c',st',e',b7,_,_,bv⟩:=C6 h.st (j:=j) Q0;obtain⟨p,l,k,az,ba⟩:=Q60 h.hops j hi;rw[Qqf,Qqf,e,e',Qqu,Qqu]at l k;have bi:pt Li s (j+1)=p:=by
     unfold pt;rw[Qqf,Qqf,e,Qqm,e',Qqu,Qqu,l];rfl
    rw[a2]at k;obtain⟨u1,u2,u3,hj⟩:=Qhk (St:=St) (Pt:=Pt) (Se:=Se) k;rw[Q6 (((j+1:Nat):Int)>0),Qq9,JS (show j+1<=1000 by omega) Q0,Qqm,Qt,e'];simp -implicitDefEqProofs only[Qh,Qq5,Qq6,Qj,hj];have bj:T (j+1+1)=if p<0 then Cc (T (j+1)) (sec s (j+1)) (fr Se s X bf (j+1)) (tu Se s X af (j+1))else Cc (Cc (T (j+1)) (sec s (j+1)) (fr Se s X bf (j+1)) (tu Se s X af (j+1))) (Se.length+p.toNat) (fr Se s X bf (j+1)) (tu Se s X af j):=by
     show MS _ _ _ _ _ _ (j+1+1)=_;rw[Q2i,bi]
    rw[bj];by_cases hp:p<0
    ·rw[show decide (p>=0)=false by simp;omega,Qq8,Qqe hp];rfl
    ·have aw:YW 400 (Qdi (Cc (T (j+1)) (sec s (j+1)) (fr Se s X bf (j+1)) (tu Se s X af (j+1)))) ((Cc (T (j+1)) (sec s (j+1)) (fr Se s X bf (j+1)) (tu Se s X af (j+1))).map enc) ((Se.length+p.toNat:Nat):Int) (fr Se s X bf (j+1)) (tu Se s X af j) Tu2=_:=Qju (by rw[MF];omega) (q.2.2.2 Q0);rw[show decide (p>=0)=true by simp;omega,Qq9,Qqg hp,show decide (((j+1:Nat):Int)>((s.length-1:Nat):Int))=false by simp;omega,Qq8];have n:=aw;unfold Qdi at n;simp -implicitDefEqProofs only[Qh,wI (show(Se.length:Int)+p=((Se.length+p.toNat:Nat):Int) by omega) Q0 Q0,n,Qqm,Qqg (Nat.succ_ne_zero _)];rfl
  ·simp only[Qq7];rw[Wm,Qy,Qq8,Qqg Q0]
 have a6:T 0=List.replicate (Se.length+Pt.length) (0,0,0):=rfl;have e1:List.replicate (Se.length+Pt.length) [D.bool false]=Qdi (T 0):=by rw[a6];unfold Qdi;rw[List.map_replicate];rfl
 have e2:List.replicate (Se.length+Pt.length) [D.int .i64 (0:Int),D.int .i64 (0:Int),D.int .i64 (0:Int)]=(T 0).map enc:=by rw[a6,List.map_replicate];rfl
 rw[e1,e2,u];have hl:((Se.length+Pt.length:Nat):Int)=(((T s.length).length:Nat):Int):=by rw[show(T s.length).length=Se.length+Pt.length from P4]
 rw[hl];exact Qiq (by rw[show(T s.length).length=Se.length+Pt.length from P4];omega) _
end
def OL:Int->List Occ->Prop
 |_,[]=>True
 |l,(x,a,b)::r=>l<x /\ -1000<=a/\a<b/\b<=20000/\x<=1000/\OL x r
theorem OL.mono:∀{l l':Int} {O:List Occ},l'<=l->OL l O->OL l' O
 |_,_,[],_,_=>trivial
 |_,_,(x,a,b)::r,h,⟨c,h2⟩=>⟨Q0,h2⟩
theorem OL.filter{p:Occ->Bool}:∀{l:Int} {O:List Occ},OL l O->OL l (O.filter p)
 |_,[],_=>trivial
 |l,(x,a,b)::r,⟨c,h2,d,e,h5,h6⟩=>by
  rw[QqA];split
  ·exact⟨c,h2,d,e,h5,h6.filter⟩
  ·exact(h6.filter).mono Q0
theorem OL.mem:∀{l:Int} {O:List Occ},OL l O->∀q∈O,l<q.1 /\ -1000<=q.2.1/\q.2.1<q.2.2/\q.2.2<=20000/\q.1<=1000
 |_,[],_,_,h=>nomatch h
 |l,(x,a,b)::r,⟨c,h2,d,e,h5,h6⟩,q,h=>by
  cases h with
  |head=>exact⟨c,h2,d,e,h5⟩
  |tail _ h=>have:=h6.mem q h;exact⟨Q0,this.2⟩
def TI(T:List Occ):Prop:=∀(r:Nat) (x a b:Int),T[r]? = some (x,a,b)->a<b->x=(r:Int) /\ -1000<=a/\b<=20000
theorem TI.add{T:List Occ}(h:TI T){r:Nat}{f t:Int}(hf : -1000<=f)(ht:t<=20000):TI (Cc T r f t):=by
 unfold Cc;cases e:T[r]? with
 |none=>exact h
 |some q=>
  obtain⟨x,a,b⟩:=q;dsimp only;have hr:=(Qqd.1 e).1;by_cases ak:a<b
  ·have c:=h r x a b e ak;rw[Qqe ak];intro r' x' a' b' e' aa;rw[List.getElem?_set]at e';by_cases ai:r=r'
   ·subst ai;rw[Qqe rfl,Qqe hr]at e';cases e';refine⟨rfl,?_,?_⟩<;>split<;>omega
   ·rw[Qqg ai]at e';exact h r' x' a' b' e' aa
  ·rw[Qqg ak];intro r' x' a' b' e' aa;rw[List.getElem?_set]at e';by_cases ai:r=r'
   ·subst ai;rw[Qqe rfl,Qqe hr]at e';cases e';exact⟨rfl,hf,ht⟩
   ·rw[Qqg ai]at e';exact h r' x' a' b' e' aa
theorem TI.ol:∀{T:List Occ} {k:Nat},T.length+k<=1000->(∀(r:Nat) (x a b:Int),T[r]? = some (x,a,b)->a<b->x=((r+k:Nat):Int) /\ -1000<=a/\b<=20000)->OL ((k:Int)-1) (T.filter Sj)
 |[],_,_,_=>trivial
 |(x,a,b)::T,k,hk,h=>by
  have ih:=TI.ol (T:=T) (k:=k+1) (by simp at hk;omega) λr x a b e aa=>by
   have:=h (r+1) x a b e aa;rw[show r+1+k=r+(k+1) by omega]at this;exact this
  rw[show((k+1:Nat):Int)-1=(k:Int) by omega]at ih;have c:=h 0 x a b rfl;rw[QqA];by_cases aa:a<b
  ·have c:=c aa;rw[show Sj (x,a,b)=true by simpa[Sj]using aa,Qqe rfl];have hx:x=(k:Int):=by simpa using c.1
   refine⟨Q0,c.2.1,aa,c.2.2,by simp at hk;omega,?_⟩;rw[hx];exact ih
  ·rw[show Sj (x,a,b)=false by simpa[Sj]using aa,Qqg Q2];exact ih.mono Q0
section
variable{St Pt Se Li s:LL} (h:RtF St Pt Se Li s) {nm:List UInt8} {tl sp ac br bf af:Int} (hk:StkN tl sp ac br) (hb0:0<=bf) (hb1:bf<=60) (ha0:0<=af) (ha1:af<=5000)
include h hk hb0 hb1 ha0 ha1
theorem Qi3{i:Nat}(hi:i<s.length) : -1000<=fr Se s (Zz Se s nm tl sp ac br) bf i/\tu Se s (Zz Se s nm tl sp ac br) af i<=20000:=by
 have l2:=h.l2;have hr:=Fw h (nm:=nm) hk;have b:=Q7V h (nm:=nm) hk (i:=i-1) (j:=i) Q0 hi;have c1:=Ay (a:=fLV Se s (Zz Se s nm tl sp ac br) i) Q0 (show(1:Int)<=1000 by decide);unfold fr tu;constructor
 ·split<;>omega
 ·split<;>omega
theorem Qf1:OL (-1) (Q8e St Pt Se Li s (Zz Se s nm tl sp ac br) bf af)/\(Q8e St Pt Se Li s (Zz Se s nm tl sp ac br) bf af).length<=6:=by
 have ak:=Q2C h.lay;have aa:=λi (hi:i<s.length)=>Qi3 h (nm:=nm) hk hb0 hb1 ha0 ha1 hi
 have l2:=h.l2;unfold Q8e;generalize Zz Se s nm tl sp ac br=X at aa;have hT:∀i,i<=s.length->TI (MS Se.length Pt.length Li s (fr Se s X bf) (tu Se s X af) i):=by
  intro i;induction i with
  |zero=>
   intro _ r x a b e ai;have:=Qqd.1 e;obtain⟨d,h2⟩:=this;simp only[MS,List.getElem_replicate]at h2;cases h2;omega
  |succ i ih=>
   intro hi;have ih:=ih Q0;have q:=aa i Q0;rw[MS];split
   ·exact ih.add q.1 q.2
   ·have c:=aa (i-1) Q0;split
    ·exact ih.add q.1 q.2
    ·exact(ih.add q.1 q.2).add q.1 c.2
 constructor
 ·have:=TI.ol (T:=MS Se.length Pt.length Li s (fr Se s X bf) (tu Se s X af) s.length) (k:=0) (by rw[P4];omega) (λr x a b e ai=>hT _ (Qql _) r x a b e ai);exact this
 ·have hc:=Q7G h.hops (λi=>((MS Se.length Pt.length Li s (fr Se s X bf) (tu Se s X af) (i+1)).filter Sj).length-1) (λi=>?_) ?_ (s.length-1) Q0
  ·rw[show s.length-1+1=s.length by omega]at hc;omega
  ·rw[Q2i];have c1:=Q3d (T:=MS Se.length Pt.length Li s (fr Se s X bf) (tu Se s X af) (i+1)) (r:=sec s (i+1)) (f:=fr Se s X bf (i+1)) (t:=tu Se s X af (i+1));split
   ·omega
   ·have g:=Q3d (T:=Cc (MS Se.length Pt.length Li s (fr Se s X bf) (tu Se s X af) (i+1)) (sec s (i+1)) (fr Se s X bf (i+1)) (tu Se s X af (i+1))) (r:=Se.length+(pt Li s (i+1)).toNat) (f:=fr Se s X bf (i+1)) (t:=tu Se s X af i);omega
  ·have c1:=Q3d (T:=MS Se.length Pt.length Li s (fr Se s X bf) (tu Se s X af) 0) (r:=sec s 0) (f:=fr Se s X bf 0) (t:=tu Se s X af 0);have c0:((MS Se.length Pt.length Li s (fr Se s X bf) (tu Se s X af) 0).filter Sj).length=0:=by
    rw[MS];simp[Sj]
   show((MS Se.length Pt.length Li s (fr Se s X bf) (tu Se s X af) 1).filter Sj).length-1<=0;rw[MS,Qqe rfl];omega
end
end Go.Vx
namespace Go.Vx
variable{R:Type} (n:Nat)
def Ye(p:Int)(ad:LL)(q:Int)(f g h i:LL)(r:Int)(b c s t u v x:LL)(j y:D)(k0:Qlj R)(k1:Qlv R):Qlx R
|0,_,_,_=>none
|m+1,a,d,e=>bif decide (a<q)then QkH R ad a λaj ak=>Qc R aj[1]? λal=>QkY R aj λau=>QkC R al au λam an=>Qb R (wJ (a+1)) λk=>bif a==0 then Qc R (pSl 4 y) λav=>bif a==wJ ((av.length:Int)-1)then Qc R (pIw al) λaw=>Qc R (H4 n r b c s t u v x p some) λax=>Qlg R ak c λaz ba=>QkJ R j b az ba λbi bj bk bl bm bn bo=>Qc R (Uq n f g h i bi bj bk bl bm bn bo 60 (wJ (aw+ax)) Tu3) λz=>bif z.2.2 !=0 then k0 z.2.2 else Ql1 R ((d.length+[[D.sl 3 z.1]].length)*24) ((e.length+[[Ql z.2.1]].length)*8) (Ye p ad q f g h i r b c s t u v x j y k0 k1 m k (d++[[D.sl 3 z.1]]) (e++[[Ql z.2.1]]))else Qlg R ak c λbq br=>QkJ R j b bq br λcc ce cf cg ch ci cj=>Qc R (Uq n f g h i cc ce cf cg ch ci cj 60 (wJ (am+an)) Tu3) λaa=>bif aa.2.2 !=0 then k0 aa.2.2 else Ql1 R ((d.length+[[D.sl 3 aa.1]].length)*24) ((e.length+[[Ql aa.2.1]].length)*8) (Ye p ad q f g h i r b c s t u v x j y k0 k1 m k (d++[[D.sl 3 aa.1]]) (e++[[Ql aa.2.1]]))else Qc R (pSl 4 y) λck=>bif a==wJ ((ck.length:Int)-1)then Qc R (pIw al) λcm=>Qc R (H4 n r b c s t u v x p some) λcn=>Qlg R ak c λcp cq=>QkJ R j b cp cq λcx cy cz da db dc dd=>Qc R (Uq n f g h i cx cy cz da db dc dd 0 (wJ (cm+cn)) Tu3) λab=>bif ab.2.2 !=0 then k0 ab.2.2 else Ql1 R ((d.length+[[D.sl 3 ab.1]].length)*24) ((e.length+[[Ql ab.2.1]].length)*8) (Ye p ad q f g h i r b c s t u v x j y k0 k1 m k (d++[[D.sl 3 ab.1]]) (e++[[Ql ab.2.1]]))else Qlg R ak c λdf dg=>QkJ R j b df dg λdp dq dr ds dt du dw=>Qc R (Uq n f g h i dp dq dr ds dt du dw 0 (wJ (am+an)) Tu3) λac=>bif ac.2.2 !=0 then k0 ac.2.2 else Ql1 R ((d.length+[[D.sl 3 ac.1]].length)*24) ((e.length+[[Ql ac.2.1]].length)*8) (Ye p ad q f g h i r b c s t u v x j y k0 k1 m k (d++[[D.sl 3 ac.1]]) (e++[[Ql ac.2.1]]))else k1 a (decide (a<q)) d e
def ZS(h2:LL)(c:Int)(h5 h6 h7 d:LL)(e:Int)(f g h i j k l:LL)(k0:Qlj R)(k1:Qlv R):Qlx R
|0,_,_,_=>none
|m+1,a,o,p=>bif decide (a<c)then QkN R h2 a λb s=>QkY R b λq=>Qc R (pSl 4 q) λr=>Ye n a r (r.length:Int) h5 h6 h7 d e f g h i j k l s q (λt=>k0 t) (λz aa u v=>ZS h2 c h5 h6 h7 d e f g h i j k l k0 k1 m (wJ (a+1)) u v) n 0 o p else k1 a (decide (a<c)) o p
def T1(b c d e:LL)(f:Int)(g h a i j k l:LL)(K:LL->LL->Int->oP R):oP R:=Qc R (Jg n b c d e f g h a i j k l some) λm=>bif m !=0 then K [] [] 1 else ZS n a (a.length:Int) b c d e f g h a i j k l (λo=>K [] [] o) (λr s p q=>K p q 0) n 0 [] []
end Go.Vx
namespace Go.Vx
def flat{α:Type}(nr:Nat->Nat)(f:Nat->Nat->α):Nat->List α
 |0=>[]
 |i+1=>flat nr f i++(List.range (nr i)).map (f i)
def base(nr:Nat->Nat):Nat->Nat
 |0=>0
 |i+1=>base nr i+nr i
theorem ZG{α:Type}{nr:Nat->Nat}{f:Nat->Nat->α}:∀{i:Nat},(flat nr f i).length=base nr i
 |0=>rfl
 |i+1=>by rw[flat,QqB,ZG,base,Qqk,List.length_range]
theorem Sq{nr:Nat->Nat}{i:Nat}:∀{j:Nat},i<j->base nr i+nr i<=base nr j
 |0,h=>by omega
 |j+1,h=>by
  rw[base];by_cases aa:i=j
  ·subst aa;omega
  ·have:=Sq (nr:=nr) (i:=i) (j:=j) Q0;omega
theorem Q21{α:Type}{nr:Nat->Nat}{f:Nat->Nat->α}{i k:Nat}(hk:k<nr i):∀{L:Nat},i<L->(flat nr f L)[base nr i+k]? = some (f i k)
 |0,h=>by omega
 |L+1,h=>by
  rw[flat];by_cases aa:i=L
  ·subst aa;rw[Qqn (by rw[ZG];omega),ZG,Nat.add_sub_cancel_left,Qqq,List.getElem?_range hk];rfl
  ·have:=Sq (nr:=nr) (i:=i) (j:=L) Q0;rw[Qqp (by rw[ZG];omega)];exact Q21 hk Q0
theorem Q2z{nr:Nat->Nat}{a:Nat}:∀{L:Nat},a<base nr L->∃i k,i<L/\k<nr i/\a=base nr i+k
 |0,h=>by simp[base]at h
 |L+1,h=>by
  rw[base]at h;by_cases ha:a<base nr L
  ·obtain⟨i,k,c,h2,b⟩:=Q2z ha;exact⟨i,k,Q0,h2,b⟩
  ·exact⟨L,a-base nr L,Q0,Q0,Q0⟩
def Hr(Ls:LL)(i:Nat):LL:=match Ls[i]? with
 |some [_,_,_,.sl _ r]=>r
 |_=>[]
def wOf(Ls:LL)(i:Nat):Int:=match Ls[i]? with
 |some [_,_,.int _ w,_]=>w
 |_=>0
def rF(Ls:LL)(i k j:Nat):Int:=match ((Hr Ls i).getD k [])[j]? with
 |some (.int _ x)=>x
 |_=>0
def QjJ(Ro:LL)(r:Int):LL:=match Ro[r.toNat]? with
 |some [.sl _ s,_]=>s
 |_=>[]
structure Cx where
 G:Geo
 Ro:LL
 Ls:LL
 T:List Tup
 nm:List UInt8
 tl:Int
 sp:Int
 ac:Int
 br:Int
namespace Cx
variable(X:Cx)
def nr(i:Nat):Nat:=(Hr X.Ls i).length
def w(i:Nat):Int:=wOf X.Ls i
def ex(i k:Nat):Int:=rF X.Ls i k 1
def mn(i k:Nat):Int:=rF X.Ls i k 2
def mx(i k:Nat):Int:=rF X.Ls i k 3
def st(i k:Nat):LL:=QjJ X.Ro (rF X.Ls i k 0)
def rn(i k:Nat):Run:=Zz X.G.Se (X.st i k) X.nm X.tl X.sp X.ac X.br
def tn(i:Nat):oP Tup:=X.T.find? λt=>t.1 == i
def rest(i:Nat):Int:=match X.tn i with
 |some t=>if 60<t.2.2.2 then t.2.2.2 else 60
 |none=>60
def bf(k:Nat):Int:=if k=0 then 60 else 0
def af(i k:Nat):Int:=if k=X.nr i-1 then X.ex i k+X.rest i else X.ex i k+X.mx i k
def occ(i k:Nat):List Occ:=Q8e X.G.St X.G.Pt X.G.Se X.G.Li (X.st i k) (X.rn i k) (bf k) (X.af i k)
def run(i k:Nat):Int:=Q3k (X.rn i k)
def L:Nat:=X.Ls.length
structure OK:Prop where
 g:X.G.OK
 sk:StkN X.tl X.sp X.ac X.br
 gd:GoodP X.G X.Ro X.Ls
 l0:1<=X.Ls.length
 l1:X.Ls.length<=3
 tr:∀t∈X.T,Qao X.G X.Ro X.Ls t
 fd:(X.T.map (·.1)).Nodup
 td:(X.T.map (·.2.1)).Nodup
 tl:X.T.length<=20
structure RdOK(i k:Nat):Prop where
 row:(Hr X.Ls i)[k]? = some [Ql (rF X.Ls i k 0),Ql (X.ex i k),Ql (X.mn i k),Ql (X.mx i k)]
 ro:Qi X.Ro (rF X.Ls i k 0)=some [D.sl 2 (X.st i k),Ql 0]
 rt:RtF X.G.St X.G.Pt X.G.Se X.G.Li (X.st i k)
 ex0:0<=X.ex i k
 ex1:X.ex i k<3
 mn0:0<=X.mn i k
 mn1:X.mn i k<=X.mx i k
 mn2:X.mx i k<=X.mn i k+3
 mn3:X.mn i k<=10
variable{X} (h:X.OK)
include h
theorem line{i:Nat}(hi:i<X.Ls.length):X.Ls[i]? = some [D.str (nmN i),Ql 0,Ql (X.w i),D.sl 4 (Hr X.Ls i)]/\(X.nr i=1\/X.nr i=2)/\(0<=X.w i/\X.w i<4):=by
 obtain⟨w,rides,b,h2,c,a⟩:=h.gd.ls i _ (Qqa hi);have er:Hr X.Ls i=rides:=by grind[Hr]
 have ew:X.w i=w:=by grind[Cx.w,wOf]
 refine⟨by simp_all,?_,Q0⟩;unfold nr;rw[er];rcases a with⟨r,x,y,rfl,_⟩|⟨r,r',x,y,z,rfl,_,_⟩
 all_goals simp
theorem rd{i k:Nat}(hi:i<X.Ls.length)(hk:k<X.nr i):X.RdOK i k:=by
 obtain⟨w,rides,j,h2,l,d⟩:=h.gd.ls i _ (Qqa hi);have e:X.Ls[i]? = some [D.str (nmN i),Ql 0,Ql w,D.sl 4 rides]:=by simp_all
 have er:Hr X.Ls i=rides:=by grind[Hr]
 have hr:∃r x y b,rides[k]? = some r/\PA X.G X.Ro r x y b:=by
  unfold nr at hk;rw[er]at hk;rcases d with⟨r,x,y,rfl,h⟩|⟨r,r',x,y,z,rfl,h,h'⟩
  all_goals grind
 obtain⟨r,x,y,b,hr,rt,ex,mn,mx,s,rfl,c,f,m,n,o⟩:=hr;have eg:(Hr X.Ls i).getD k []=[Ql rt,Ql ex,Ql mn,Ql mx]:=by simp_all
 have a:rF X.Ls i k 0=rt:=by grind[rF]
 have e1:X.ex i k=ex:=by grind[Cx.ex,rF]
 have e2:X.mn i k=mn:=by unfold Cx.mn rF;rw[eg];rfl
 have g:X.mx i k=mx:=by unfold Cx.mx rF;rw[eg];rfl
 have es:X.st i k=s:=by unfold st QjJ;rw[a,Qq7,c]
 exact⟨by rw[a,e1,e2,g,er,hr],by rw[a,es,Qt,c],by rw[es];exact f.f h.g,Q0,Q0,Q0,Q0,Q0,Q0⟩
theorem Q1V{i:Nat}:60<=X.rest i/\X.rest i<=60:=by
 unfold rest;cases e:X.tn i with
 |none=>simp_all
 |some t=>
  have:=h.tr t (List.mem_of_find?_eq_some e);have a:=this.2.2.2.1;have h2:=this.2.2.2.2.2.1
  grind
theorem Qj5{i k:Nat}(hi:i<X.Ls.length)(hk:k<X.nr i):(0<=bf k/\bf k<=60)/\0<=X.af i k/\X.af i k<=5000:=by
 have r:=rd h hi hk;have:=Q1V h (i:=i);have:=r.ex0;have:=r.ex1;have:=r.mn0;have:=r.mn1;have:=r.mn2;have:=r.mn3
 grind[bf,af]
theorem QiZ{i k:Nat}(hi:i<X.Ls.length)(hk:k<X.nr i):Uq 400 X.G.St X.G.Pt X.G.Se X.G.Li (X.st i k) 0 X.nm X.tl X.sp X.ac X.br (bf k) (X.af i k) Tu3=some ((X.occ i k).map enc,X.run i k,0):=by
 have b:=Qj5 h hi hk;exact QiS (rd h hi hk).rt h.sk b.1.1 Q0 b.2.1 Q0
theorem Qis{i k:Nat}(hi:i<X.Ls.length)(hk:k<X.nr i):Hm 400 X.G.St X.G.Pt X.G.Se X.G.Li (X.st i k) 0 X.nm X.tl X.sp X.ac X.br (bf k) (X.af i k) Tu3=some ((X.occ i k).map enc,X.run i k,0):=by
 have b:=Qj5 h hi hk;exact Qio (rd h hi hk).rt h.sk b.1.1 Q0 b.2.1 Q0
theorem Qgp{i k:Nat}(hi:i<X.Ls.length)(hk:k<X.nr i):OL (-1) (X.occ i k)/\(X.occ i k).length<=6:=by
 have b:=Qj5 h hi hk;exact Qf1 (rd h hi hk).rt h.sk b.1.1 b.1.2 b.2.1 b.2.2
theorem EX{i k:Nat}(hi:i<X.Ls.length)(hk:k<X.nr i):0<=X.run i k/\X.run i k<=7001:=Fw (rd h hi hk).rt h.sk
theorem base_le:base X.nr X.L<=6:=by
 have a:=h.l1;have hb:∀i,i<=X.Ls.length->base X.nr i<=2*i:=by
  intro i;induction i with
  |zero=>intro _;exact Qql _
  |succ i ih=>
   intro hi;have:=(line h (i:=i) Q0).2.1
   grind[base]
 grind[L]
end Cx
theorem PlanR.cx{G:Geo}{per:Int}{Sk Ro Ls Ch Tu Sy De:LL}(h:PlanR G per Sk Ro Ls Ch Tu Sy De):∃X:Cx,X.OK/\X.G=G/\X.Ro=Ro/\X.Ls=Ls/\Tu=X.T.map tuR/\Sk=[[D.str X.nm,Ql X.tl,Ql X.sp,Ql X.ac,Ql X.br]]:=by
 obtain⟨T,hT,t1,t2,e,f⟩:=h.tu;obtain⟨a,b,c,d,hS,hs⟩:=h.sk;exact⟨⟨G,Ro,Ls,T,bs [88],a,b,c,d⟩,⟨h.ok,hs,h.good,h.l0,h.l1,t1,t2,e,f⟩,rfl,rfl,rfl,hT,hS⟩
def GS(L:List (List Occ)):LL:=L.map λo=>[D.sl 3 (o.map enc)]
theorem Vr{L:List (List Occ)}{o:List Occ}:GS L++[[D.sl 3 (o.map enc)]]=GS (L++[o]):=by simp[GS]
theorem Vt{L:List Int}{x:Int}:encI L++[[D.int .i64 x]]=encI (L++[x]):=by simp[encI]
theorem Jc{L:List (List Occ)}:(GS L).length=L.length:=by simp[GS]
theorem ZC{α:Type}{A:List α}{f:Nat->α}{k:Nat}:A++(List.range k).map f++[f k]=A++(List.range (k+1)).map f:=by simp[List.range_succ]
namespace Cx
variable{R:Type} {n:Nat} {X:Cx} (h:X.OK)
theorem QaI{T:List Tup}(hT:T.length<=1000){i:Nat}{k0:Int->oP R}{k1:Int->Bool->oP R}{E:oP R}(hk:∀a b,k1 a b=E):∀(aa:List Tup) (j m:Nat),T.drop j=aa->aa.length<m->V0 n (i:Int) (T.map tuR) (T.length:Int) k0 k1 m (j:Int)=(match aa.find? (λt=>t.1 == i)with | some t=>k0 (if 60<t.2.2.2 then t.2.2.2 else 60) | none=>E)
 |[],j,m+1,hd,_=>by
  have:=ZI hd;rw[V0,show decide ((j:Int)<(T.length:Int))=false by simpa using this,Qq8,hk];rfl
 |(a,b,lo,hi)::aa,j,m+1,hd,hm=>by
  obtain⟨e,ac,hj⟩:=Y8 hd;rw[V0,Qs hj,Qq9,X5 e];simp -implicitDefEqProofs only[Qh,tuR,Qq5,Qq6,Qj,QJ (show j<=1000 by omega)];rw[List.find?_cons];by_cases ha:a=i
  ·subst ha;rw[show((a:Int) == (a:Int))=true by simp,Qq9,show((a,b,lo,hi).1 == a)=true by simp]
  ·rw[show((a:Int) == (i:Int))=false by simp;omega,Qq8,show((a,b,lo,hi).1 == i)=false by simpa using ha];exact QaI hT hk aa (j+1) m ac (by simpa using hm)
theorem QaZ{T:List Tup}(hT:T.length<=1000){i:Nat}{k0:D->D->D->D->oP R}{k1:Int->Bool->oP R}{E:oP R}(hk:∀a b,k1 a b=E):∀(aa:List Tup) (j m:Nat),T.drop j=aa->aa.length<m->J6 n (i:Int) (T.map tuR) k0 k1 m (j:Int)=(match aa.find? (λt=>t.1 == i)with | some t=>k0 (Ql t.1) (Ql t.2.1) (Ql t.2.2.1) (Ql t.2.2.2) | none=>E)
 |[],j,m+1,hd,_=>by
  have:=ZI hd;rw[J6,Qqk,show decide ((j:Int)<(T.length:Int))=false by simpa using this,Qq8,hk];rfl
 |(a,b,lo,hi)::aa,j,m+1,hd,hm=>by
  obtain⟨e,ac,hj⟩:=Y8 hd;rw[J6,Qqk,Qs hj,Qq9,X5 e];simp -implicitDefEqProofs only[Qh,tuR,Qq5,Qq6,Qj,QJ (show j<=1000 by omega)];rw[List.find?_cons];by_cases ha:a=i
  ·subst ha;rw[show((a:Int) == (a:Int))=true by simp,Qq9,show((a,b,lo,hi).1 == a)=true by simp]
  ·rw[show((a:Int) == (i:Int))=false by simp;omega,Qq8,show((a,b,lo,hi).1 == i)=false by simpa using ha];exact QaZ hT hk aa (j+1) m ac (by simpa using hm)
def skR(X:Cx):LL:=[[D.str X.nm,Ql X.tl,Ql X.sp,Ql X.ac,Ql X.br]]
include h
theorem Qjk{per:Int}{Sk Ro Ls Ch Sy De:LL}{i:Nat}:H4 400 per Sk Ro Ls Ch (X.T.map tuR) Sy De (i:Int) (some:Int->oP Int)=some (X.rest i):=by
 unfold H4;rw[Qqk];have:=QaI (n:=400) (T:=X.T) (i:=i) (k0:=(some:Int->oP Int)) (k1:=λ_ _=>some 60) (by have:=h.tl;omega) (λ_ _=>rfl) X.T 0 400 rfl (by have:=h.tl;omega);refine this.trans ?_;unfold rest tn;cases X.T.find? λt=>t.1 == i<;>rfl
theorem Qe4{i:Nat}(K:D->D->D->D->Bool->oP R):SB 400 (X.T.map tuR) (i:Int) K=(match X.tn i with | some t=>K (Ql t.1) (Ql t.2.1) (Ql t.2.2.1) (Ql t.2.2.2) true | none=>K (Ql 0) (Ql 0) (Ql 0) (Ql 0) false):=
 QaZ (n:=400) (T:=X.T) (i:=i) (k0:=λa b c d=>K a b c d true) (k1:=λ_ _=>K (Ql 0) (Ql 0) (Ql 0) (Ql 0) false) (by have:=h.tl;omega) (λ_ _=>rfl) X.T 0 400 rfl (by have:=h.tl;omega)
theorem QdF{per:Int}{Ch Sy De:LL}{i:Nat}(hi:i<X.Ls.length){A:List (List Occ)}{B:List Int}(hA:A.length<=100)(hB:B.length<=100){k0:Int->oP R}{K:LL->LL->oP R}{k1:Int->Bool->LL->LL->oP R}(hk:∀a b u v,k1 a b u v=K u v) :
  Ye 400 (i:Int) (Hr X.Ls i) ((X.nr i:Nat):Int) X.G.St X.G.Pt X.G.Se X.G.Li per X.skR X.Ro X.Ls Ch (X.T.map tuR) Sy De (Ql 0) (D.sl 4 (Hr X.Ls i)) k0 k1 400 0 (GS A) (encI B)=K (GS (A++(List.range (X.nr i)).map (X.occ i))) (encI (B++(List.range (X.nr i)).map (X.run i))):=by
 have hl:=(line h hi).2.1;refine QY (r:=λm k=>Ye 400 (i:Int) (Hr X.Ls i) ((X.nr i:Nat):Int) X.G.St X.G.Pt X.G.Se X.G.Li per X.skR X.Ro X.Ls Ch (X.T.map tuR) Sy De (Ql 0) (D.sl 4 (Hr X.Ls i)) k0 k1 m k (GS (A++(List.range k.toNat).map (X.occ i))) (encI (B++(List.range k.toNat).map (X.run i)))) (N:=X.nr i) (λm k hk=>?_) (λm=>?_) (X.nr i) 400 0 Q0 Q0 |> Eq.trans Q2
 ·simp only[Qq7];have r:=rd h hi hk;have rr:=Q1V h (i:=i);have j:=r.ex0;have e1:=r.ex1;have e2:=r.mn0;have l:=r.mn1;have n:=r.mn2;have o:=r.mn3;have hh:=QiZ h hi hk;have ak:Qi (Hr X.Ls i) (k:Int)=some [Ql (rF X.Ls i k 0),Ql (X.ex i k),Ql (X.mn i k),Ql (X.mx i k)]:=by rw[Qt,r.row]
  have am:Qi X.skR 0=some [D.str X.nm,Ql X.tl,Ql X.sp,Ql X.ac,Ql X.br]:=rfl;have ao:=r.ro;have hw:wJ (((List.length (Hr X.Ls i):Nat):Int)-1)=((X.nr i-1:Nat):Int):=JS (k:=X.nr i) Q0 Q0;have d:Y5 (((GS (A++(List.range k).map (X.occ i))).length+List.length [[D.sl 3 ((X.occ i k).map enc)]])*24)=some ():=XI (by simp[Jc];omega);have e:Y5 (((encI (B++(List.range k).map (X.run i))).length+List.length [[D.int .i64 (X.run i k)]])*8)=some ():=XI (by simp[QR];omega);have ai:=Qjk h (per:=per) (Sk:=X.skR) (Ro:=X.Ro) (Ls:=X.Ls) (Ch:=Ch) (Sy:=Sy) (De:=De) (i:=i);have an:((k:Int) == ((X.nr i-1:Nat):Int))=decide (k=X.nr i-1):=by
   by_cases hc:k=X.nr i-1
   ·rw[Qqi hc];simp;omega
   ·rw[Qqh hc];simp;omega
  have f:((k:Int) == 0)=decide (k=0):=by
   by_cases hc:k=0
   ·rw[Qqi hc];simp;omega
   ·rw[Qqh hc];simp;omega
  have g:wJ (X.ex i k+X.rest i)=X.ex i k+X.rest i:=Qo Q0 Q0;have w2:wJ (X.ex i k+X.mx i k)=X.ex i k+X.mx i k:=Qo Q0 Q0;rw[Ye,Qs hk,Qq9,ak];simp -implicitDefEqProofs only[Qh,Qq5,Qq6,Qj,X4,XQ,hw,an,f,ai,ao,am,g,w2,QJ (show k<=1000 by omega)];unfold bf af at hh;by_cases c1:k=0<;>by_cases c:k=X.nr i-1
  ·simp -implicitDefEqProofs only[Qqe c1,Qqe c]at hh;simp -implicitDefEqProofs only[Qqi c1,Qqi c,Qq9,hh,Qh,show((0:Int) != 0)=false from rfl,Qq8,d,e,Vr,Vt,ZC]
  ·simp -implicitDefEqProofs only[Qqe c1,Qqg c]at hh;simp -implicitDefEqProofs only[Qqi c1,Qqh c,Qq9,hh,Qh,show((0:Int) != 0)=false from rfl,Qq8,d,e,Vr,Vt,ZC]
  ·simp -implicitDefEqProofs only[Qqg c1,Qqe c]at hh;simp -implicitDefEqProofs only[Qqh c1,Qqi c,Qq9,hh,Qh,show((0:Int) != 0)=false from rfl,Qq8,d,e,Vr,Vt,ZC]
  ·simp -implicitDefEqProofs only[Qqg c1,Qqg c]at hh;simp -implicitDefEqProofs only[Qqh c1,Qqh c,Qq9,hh,Qh,show((0:Int) != 0)=false from rfl,Qq8,d,e,Vr,Vt,ZC]
 ·simp only[Qq7];rw[Ye,Qy,Qq8,hk]
end Cx
namespace Cx
variable{R:Type} {n:Nat} {X:Cx} (h:X.OK)
include h
theorem Qd3{per:Int}{Sk Ch Tu Sy De:LL}{i k:Nat}(hi:i<X.Ls.length)(hk:k<X.nr i)(K:D->D->oP R):Yd n per Sk X.Ro X.Ls Ch Tu Sy De (i:Int) (k:Int) K=K (D.sl 2 (X.st i k)) (Ql 0):=by
 have r:=rd h hi hk;unfold Yd;rw[Qt,(line h hi).1];simp -implicitDefEqProofs only[Qh,Qq5,Qq6,Qj,X4,Qt,r.row,r.ro]
theorem Qf9{per:Int}{Ch Sy De:LL}{i:Nat}(hi:i<X.Ls.length){A:List (List Occ)}{B:List Int}(hA:A.length<=100)(hB:B.length<=100){K:LL->LL->oP R}{k1:Int->Bool->LL->LL->oP R}(hk:∀a b u v,k1 a b u v=K u v) :
  YJ 400 (i:Int) X.G.St X.G.Pt X.G.Se X.G.Li per X.skR X.Ro X.Ls Ch (X.T.map tuR) Sy De (Ql 0) (D.sl 4 (Hr X.Ls i)) k1 400 0 (GS A) (encI B)=K (GS (A++(List.range (X.nr i)).map (X.occ i))) (encI (B++(List.range (X.nr i)).map (X.run i))):=by
 have hl:=(line h hi).2.1;refine QY (r:=λm k=>YJ 400 (i:Int) X.G.St X.G.Pt X.G.Se X.G.Li per X.skR X.Ro X.Ls Ch (X.T.map tuR) Sy De (Ql 0) (D.sl 4 (Hr X.Ls i)) k1 m k (GS (A++(List.range k.toNat).map (X.occ i))) (encI (B++(List.range k.toNat).map (X.run i)))) (N:=X.nr i) (λm k hk=>?_) (λm=>?_) (X.nr i) 400 0 Q0 Q0 |> Eq.trans Q2
 ·simp only[Qq7];have r:=rd h hi hk;have rr:=Q1V h (i:=i);have s:=r.ex0;have e1:=r.ex1;have e2:=r.mn0;have x:=r.mn1;have y:=r.mn2;have z:=r.mn3;have hh:=Qis h hi hk;have am:Qi (Hr X.Ls i) (k:Int)=some [Ql (rF X.Ls i k 0),Ql (X.ex i k),Ql (X.mn i k),Ql (X.mx i k)]:=by rw[Qt,r.row]
  have an:Qi X.skR 0=some [D.str X.nm,Ql X.tl,Ql X.sp,Ql X.ac,Ql X.br]:=rfl;have hw:wJ (((List.length (Hr X.Ls i):Nat):Int)-1)=((X.nr i-1:Nat):Int):=JS (k:=X.nr i) Q0 Q0;have d:Y5 (((GS (A++(List.range k).map (X.occ i))).length+List.length [[D.sl 3 ((X.occ i k).map enc)]])*24)=some ():=XI (by simp[Jc];omega);have f:Y5 (((encI (B++(List.range k).map (X.run i))).length+List.length [[D.int .i64 (X.run i k)]])*8)=some ():=XI (by simp[QR];omega);have g:((k:Int) == 0)=decide (k=0):=by
   by_cases hc:k=0
   ·rw[Qqi hc];simp;omega
   ·rw[Qqh hc];simp;omega
  have j:decide ((k:Int)<((X.nr i-1:Nat):Int)) = !decide (k=X.nr i-1):=by
   by_cases hc:k=X.nr i-1
   ·rw[Qqi hc];exact Qqh Q0
   ·rw[Qqh hc];exact Qqi Q0
  have l:wJ (X.ex i k+60)=X.ex i k+60:=Qo Q0 Q0;have w2:wJ (X.ex i k+X.mx i k)=X.ex i k+X.mx i k:=Qo Q0 Q0;have w3:∀t,X.tn i=some t->wJ (X.ex i k+(if 60<t.2.2.2 then t.2.2.2 else 60))=X.ex i k+X.rest i:=λt ht=>by
   have e:X.rest i=if 60<t.2.2.2 then t.2.2.2 else 60:=by unfold rest;rw[ht]
   rw[<- e];exact Qo Q0 Q0
  have o:X.tn i=none->wJ (X.ex i k+60)=X.ex i k+X.rest i:=λht=>by rw[l];unfold rest;rw[ht]
  have aq:∀K':D->D->oP R,Yd 400 per X.skR X.Ro X.Ls Ch (X.T.map tuR) Sy De (i:Int) (k:Int) K'=K' (D.sl 2 (X.st i k)) (Ql 0):=λK'=>Qd3 h hi hk K'
  have ak:=Qd3 (n:=400) h (per:=per) (Sk:=X.skR) (Ch:=Ch) (Tu:=X.T.map tuR) (Sy:=Sy) (De:=De) hi hk Tu2;rw[YJ,X4,Qh,show((Hr X.Ls i).length:Int)=((X.nr i:Nat):Int)from rfl,Qs hk,Qq9];unfold bf af at hh;cases ht:X.tn i with
  |some t=>
   simp -implicitDefEqProofs only[jn,Qh,Qq5,Qq6,Qj,X4,XQ,am,hw,g,j,Qe4 h,ht,w2,w3 t ht,an,ak,Qq9,QJ (show k<=1000 by omega)];by_cases c1:k=0<;>by_cases c:k=X.nr i-1
   ·simp -implicitDefEqProofs only[Qqe c1,Qqe c]at hh;simp -implicitDefEqProofs only[Qqi c1,Qqi c,Qqc,Qq8,Qq9,hh,Qh,d,f,Vr,Vt,ZC]
   ·simp -implicitDefEqProofs only[Qqe c1,Qqg c]at hh;simp -implicitDefEqProofs only[Qqi c1,Qqh c,Qqb,Qq8,Qq9,hh,Qh,d,f,Vr,Vt,ZC]
   ·simp -implicitDefEqProofs only[Qqg c1,Qqe c]at hh;simp -implicitDefEqProofs only[Qqh c1,Qqi c,Qqc,Qq8,Qq9,hh,Qh,d,f,Vr,Vt,ZC]
   ·simp -implicitDefEqProofs only[Qqg c1,Qqg c]at hh;simp -implicitDefEqProofs only[Qqh c1,Qqh c,Qqb,Qq8,Qq9,hh,Qh,d,f,Vr,Vt,ZC]
  |none=>
   simp -implicitDefEqProofs only[jn,Qh,Qq5,Qq6,Qj,X4,XQ,am,hw,g,j,Qe4 h,ht,w2,o ht,an,ak,Qq8,QJ (show k<=1000 by omega)];by_cases c1:k=0<;>by_cases c:k=X.nr i-1
   ·simp -implicitDefEqProofs only[Qqe c1,Qqe c]at hh;simp -implicitDefEqProofs only[Qqi c1,Qqi c,Qqc,Qq8,Qq9,hh,Qh,d,f,Vr,Vt,ZC]
   ·simp -implicitDefEqProofs only[Qqe c1,Qqg c]at hh;simp -implicitDefEqProofs only[Qqi c1,Qqh c,Qqb,Qq8,Qq9,hh,Qh,d,f,Vr,Vt,ZC]
   ·simp -implicitDefEqProofs only[Qqg c1,Qqe c]at hh;simp -implicitDefEqProofs only[Qqh c1,Qqi c,Qqc,Qq8,Qq9,hh,Qh,d,f,Vr,Vt,ZC]
   ·simp -implicitDefEqProofs only[Qqg c1,Qqg c]at hh;simp -implicitDefEqProofs only[Qqh c1,Qqh c,Qqb,Qq8,Qq9,hh,Qh,d,f,Vr,Vt,ZC]
 ·simp only[Qq7];rw[YJ,X4,Qh,show((Hr X.Ls i).length:Int)=((X.nr i:Nat):Int)from rfl,Qy,Qq8,hk]
omit h in
def occs(X:Cx)(i:Nat):List (List Occ):=flat X.nr X.occ i
omit h in
def runs(X:Cx)(i:Nat):List Int:=flat X.nr X.run i
theorem Zs{i:Nat}(hi:i<=X.Ls.length):base X.nr i<=6:=by
 have a:=base_le h;by_cases hc:i=X.Ls.length
 ·rw[hc];exact a
 ·have:=Sq (nr:=X.nr) (i:=i) (j:=X.Ls.length) Q0;unfold L at a;omega
theorem QgL{per:Int}{Ch Sy De:LL}(hc:Jg 400 X.G.St X.G.Pt X.G.Se X.G.Li per X.skR X.Ro X.Ls Ch (X.T.map tuR) Sy De (some:Int->oP Int)=some 0):T1 400 X.G.St X.G.Pt X.G.Se X.G.Li per X.skR X.Ro X.Ls Ch (X.T.map tuR) Sy De Tu3=some (GS (X.occs X.L),encI (X.runs X.L),(0:Int)):=by
 have l1:=h.l1;unfold T1;rw[hc,Qh,Qp (by rfl)];refine QY (r:=λm i=>ZS 400 X.Ls (X.Ls.length:Int) X.G.St X.G.Pt X.G.Se X.G.Li per X.skR X.Ro X.Ls Ch (X.T.map tuR) Sy De (λa=>some ([],[],a)) (λg j b c=>some (b,c,(0:Int))) m i (GS (X.occs i.toNat)) (encI (X.runs i.toNat))) (N:=X.Ls.length) (λm i hi=>?_) (λm=>?_) X.Ls.length 400 0 Q0 Q0
 ·simp only[Qq7];have hb:=Zs h (i:=i) Q0;rw[ZS,Qs hi,Qq9,Qt,(line h hi).1];simp -implicitDefEqProofs only[Qh,Qq5,Qq6,X4,QJ (show i<=1000 by omega)];exact QdF h hi (A:=X.occs i) (B:=X.runs i) (by unfold occs;rw[ZG];omega) (by unfold runs;rw[ZG];omega) (K:=λu v=>ZS 400 X.Ls (X.Ls.length:Int) X.G.St X.G.Pt X.G.Se X.G.Li per X.skR X.Ro X.Ls Ch (X.T.map tuR) Sy De (λa=>some ([],[],a)) (λg j b c=>some (b,c,(0:Int))) m ((i+1:Nat):Int) u v) (λ_ _ _ _=>rfl)
 ·simp only[Qq7];rw[ZS,Qy,Qq8];rfl
theorem QgA{per:Int}{Ch Sy De:LL}(hc:Wg 400 X.G.St X.G.Pt X.G.Se X.G.Li per X.skR X.Ro X.Ls Ch (X.T.map tuR) Sy De (some:Int->oP Int)=some 0):Rs 400 X.G.St X.G.Pt X.G.Se X.G.Li per X.skR X.Ro X.Ls Ch (X.T.map tuR) Sy De Tu3=some (GS (X.occs X.L),encI (X.runs X.L),(0:Int)):=by
 have l1:=h.l1;unfold Rs;rw[hc,Qh,Qp (by rfl)];refine QY (r:=λm i=>UG 400 X.G.St X.G.Pt X.G.Se X.G.Li per X.skR X.Ro X.Ls Ch (X.T.map tuR) Sy De (λf g a b=>some (a,b,(0:Int))) m i (GS (X.occs i.toNat)) (encI (X.runs i.toNat))) (N:=X.Ls.length) (λm i hi=>?_) (λm=>?_) X.Ls.length 400 0 Q0 Q0
 ·simp only[Qq7];have hb:=Zs h (i:=i) Q0;rw[UG,Qs hi,Qq9,Qt,(line h hi).1];simp -implicitDefEqProofs only[Qh,Qq5,Qq6,X4,QJ (show i<=1000 by omega)];exact Qf9 h hi (A:=X.occs i) (B:=X.runs i) (by unfold occs;rw[ZG];omega) (by unfold runs;rw[ZG];omega) (K:=λu v=>UG 400 X.G.St X.G.Pt X.G.Se X.G.Li per X.skR X.Ro X.Ls Ch (X.T.map tuR) Sy De (λf g a b=>some (a,b,(0:Int))) m ((i+1:Nat):Int) u v) (λ_ _ _ _=>rfl)
 ·simp only[Qq7];rw[UG,Qy,Qq8];rfl
end Cx
end Go.Vx
namespace Go.Vx
variable{R:Type} (n:Nat)
def Wf(k l m o:LL)(d:Int)(p q e i g j r:LL)(K:Int->LL->LL->Int->oP R):oP R:=Qc R (Jg n k l m o d p q e i g j r some) λa=>bif a !=0 then K 0 [] [] 1 else gb true (YH n e [] [] Tu2) ([],[]) λb=>bif decide ((b.2.length:Int)>48)then K 0 [] [] 7 else gb true (T1 n k l m o d p q e i g j r Tu3) ([],[],0) λc=>bif c.2.2 !=0 then K 0 [] [] c.2.2 else Qc R (YK n e g b.1 c.2.1 [] some) λs=>Qc R (ZP n d c.1 s some) λt=>bif !t then K 0 [] [] 13 else Qc R (Yz n e i g j b.1 c.2.1 [] some) λr6=>gb true (Yq n d c.1 s r6 Tu2) (0,[]) λh=>bif h.1 !=0 then K 0 [] [] h.1 else bif decide ((h.2.length:Int)>512)then K 0 [] [] 7 else K d b.2 h.2 0
end Go.Vx
namespace Go.Vx
namespace Cx
variable(X:Cx)
def evl(i:Nat):Nat->LL
 |0=>[]
 |k+1=>evl i k++[[Ql 1,Ql i,Ql k],[Ql 2,Ql i,Ql k]]
def evs:Nat->LL
 |0=>[]
 |i+1=>evs i++evl i (X.nr i)
theorem RI{i:Nat}:∀{k:Nat},(evl i k).length=2*k
 |0=>rfl
 |k+1=>by rw[evl,QqB,RI];simp;omega
variable{X}
theorem evs_len:∀{i:Nat},(X.evs i).length=2*base X.nr i
 |0=>rfl
 |i+1=>by rw[evs,QqB,evs_len,RI,base];omega
theorem Qd1{i k:Nat}:∀{K:Nat},k<K->(evl i K)[2*k]? = some [Ql 1,Ql i,Ql k]/\(evl i K)[2*k+1]? = some [Ql 2,Ql i,Ql k]
 |0,h=>by omega
 |K+1,h=>by
  rw[evl];by_cases hk:k=K
  ·subst hk;rw[Qqn (by rw[RI];omega),Qqn (by rw[RI];omega),RI,Nat.sub_self,Nat.add_sub_cancel_left];exact⟨rfl,rfl⟩
  ·rw[Qqp (by rw[RI];omega),Qqp (by rw[RI];omega)];exact Qd1 Q0
theorem QcX{i k:Nat}(hk:k<X.nr i):∀{L:Nat},i<L->(X.evs L)[2*(base X.nr i+k)]? = some [Ql 1,Ql i,Ql k]/\(X.evs L)[2*(base X.nr i+k)+1]? = some [Ql 2,Ql i,Ql k]
 |0,h=>by omega
 |L+1,h=>by
  rw[evs];by_cases hi:i=L
  ·subst hi;rw[Qqn (by rw[evs_len];omega),Qqn (by rw[evs_len];omega),evs_len,show 2*(base X.nr i+k)-2*base X.nr i=2*k by omega,show 2*(base X.nr i+k)+1-2*base X.nr i=2*k+1 by omega];exact Qd1 hk
  ·have:=Sq (nr:=X.nr) (i:=i) (j:=L) Q0;rw[Qqp (by rw[evs_len];omega),Qqp (by rw[evs_len];omega)];exact QcX hk Q0
def fst(X:Cx)(i:Nat):LL:=encI ((List.range i).map λj=>(base X.nr j:Int))
theorem Qhf{i L:Nat}(h:i<L):Qi (X.fst L) (i:Int)=some [Ql (base X.nr i)]:=KS (by simp[h])
variable{R:Type} {n:Nat} (h:X.OK)
include h
theorem QdU(K:LL->LL->oP R):YH 400 X.Ls [] [] K=K (X.fst X.L) (X.evs X.L):=by
 have l1:=h.l1;unfold YH;refine QY (r:=λm i=>X3 400 X.Ls (X.Ls.length:Int) (λ_ _ u v=>K u v) m i (X.fst i.toNat) (X.evs i.toNat)) (N:=X.Ls.length) (λm i hi=>?_) (λm=>?_) X.Ls.length 400 0 Q0 Q0
 ·simp only[Qq7];have hb:=Zs h (i:=i) Q0;have hl:=(line h hi).2.1;have e1:wJ (Int.tdiv ((2*base X.nr i:Nat):Int) 2)=(base X.nr i:Int):=by
   rw[Qqv Q0,Qo Q0 Q0];omega
  have e2:X.fst i++[[D.int .i64 (base X.nr i:Int)]]=X.fst (i+1):=by simp[fst,encI,List.range_succ]
  have a:(X.fst i).length=i:=by simp[fst,encI]
  rw[X3,Qs hi,Qq9,Qt,(line h hi).1];simp -implicitDefEqProofs only[Qh,Qq5,Qq6,X4,QJ (show i<=1000 by omega),CR (b:=2) Q1,evs_len,e1,e2,XI (show((X.fst i).length+[[D.int .i64 (base X.nr i:Int)]].length)*8<=100000 by rw[a];simp;omega)];refine QY (r:=λm' k=>Xk 400 (i:Int) ((X.nr i:Nat):Int) (λ_ _ w=>X3 400 X.Ls (X.Ls.length:Int) (λ_ _ u v=>K u v) m ((i+1:Nat):Int) (X.fst (i+1)) w) m' k (X.evs i++evl i k.toNat)) (N:=X.nr i) (λm' k hk=>?_) (λm'=>?_) (X.nr i) 400 0 Q0 Q0 |> Eq.trans (by simp[evl];rfl)
  ·simp only[Qq7];rw[Xk,Qs hk,Qq9,XI (by simp[evs_len,RI];omega),Qh,QJ Q0,List.append_assoc];rfl
  ·simp only[Qq7];rw[Xk,Qy,Qq8];rfl
 ·simp only[Qq7];rw[X3,Qy,Qq8];rfl
omit h in
theorem Qde{a:Nat}(ha:a<=1000)(K:Int->oP R):Yx n (a:Int) K=K ((2*a:Nat):Int):=by
 grind[Yx,Qo]
omit h in
theorem Qif{a:Nat}(ha:a<=1000)(K:Int->oP R):Uy n (a:Int) K=K ((2*a+1:Nat):Int):=by
 grind[Uy,Qo]
theorem Q4a{i k:Nat}(hi:i<X.Ls.length)(hk:k<=10)(K:Int->oP R):XW n (X.fst X.L) (i:Int) (k:Int) K=K ((base X.nr i+k:Nat):Int):=by
 have hb:=Zs h (i:=i) Q0;unfold XW
 grind[Qhf,L,Qt,fst,encI,XP,Qh,Int.toNat_natCast,List.getElem?_cons_zero,Qj,Qo]
theorem Q1d{i k:Nat}(hi:i<X.Ls.length)(hk:k<=10)(K:Int->oP R):Xg n (X.fst X.L) (i:Int) (k:Int) K=K ((base X.nr i+k:Nat):Int):=Q4a (n:=n) h hi hk K
theorem Qdp{i:Nat}(hi:i<X.Ls.length)(K:Int->oP R):We n X.Ls (X.fst X.L) (i:Int) K=K ((base X.nr i+(X.nr i-1):Nat):Int):=by
 have hl:=(line h hi).2.1;have hw:wJ (((List.length (Hr X.Ls i):Nat):Int)-1)=((X.nr i-1:Nat):Int):=JS (k:=X.nr i) Q0 Q0
 grind[We,Qt,line,Qh,List.getElem?_cons_zero,List.getElem?_cons_succ,X4,Q4a]
theorem QfX{i:Nat}(hi:i<X.Ls.length)(K:Int->oP R):Vb n X.Ls (X.fst X.L) (i:Int) K=K ((base X.nr i+(X.nr i-1):Nat):Int):=Qdp (n:=n) h hi K
omit h in
def j1(X:Cx)(i k:Nat):Tup:=(base X.nr i+k,base X.nr i+(k+1),X.run i k+X.mn i k,X.run i k+X.ex i k+X.mx i k)
omit h in
def jT(X:Cx)(t:Tup):Tup:=(base X.nr t.1+(X.nr t.1-1),base X.nr t.2.1+0,X.run t.1 (X.nr t.1-1)+t.2.2.1,X.run t.1 (X.nr t.1-1)+X.ex t.1 (X.nr t.1-1)+t.2.2.2)
omit h in
def jL(X:Cx)(i:Nat):List Tup:=flat (λi=>X.nr i-1) X.j1 i
omit h in
def jns(X:Cx):List Tup:=X.jL X.L++X.T.map X.jT
omit h in
theorem Q6S{i k:Nat}(hi:i<X.Ls.length)(hk:k<X.nr i):Qi (encI (X.runs X.L)) ((base X.nr i+k:Nat):Int)=some [Ql (X.run i k)]:=KS (Q21 hk hi)
omit h in
theorem Qgq{i k:Nat}(hi:i<X.Ls.length)(hk:k<X.nr i):Qi (GS (X.occs X.L)) ((base X.nr i+k:Nat):Int)=some [D.sl 3 ((X.occ i k).map enc)]:=X5 (Q21 hk hi)
theorem QfZ{i k b:Nat}(hi:i<X.Ls.length)(hk:k<X.nr i){ex lo aa:Int}(a:0<=ex)(e1:ex<=1000)(l0:0<=lo)(l1:lo<=1000)(c:0<=aa)(d:aa<=1000){J:List Tup}(hJ:J.length<=100)(K:LL->oP R) :
  Yk n (encI (X.runs X.L)) (J.map tuR) ((base X.nr i+k:Nat):Int) (b:Int) ex lo aa K=K ((J++[(base X.nr i+k,b,X.run i k+lo,X.run i k+ex+aa)]).map tuR):=by
 have hr:=EX h hi hk;unfold Yk;rw[Q6S hi hk,Qh];simp -implicitDefEqProofs only[Qh,Qq5,Qj,Qo (x:=X.run i k+lo) Q0 Q0,Qo (x:=X.run i k+ex) Q0 Q0,Qo (x:=X.run i k+ex+aa) Q0 Q0];rw[XI Q3,Qh,Qqx];rfl
omit h in
theorem QfR{i:Nat}:(X.jL i).length=base (λi=>X.nr i-1) i:=ZG
theorem QeQ{i:Nat}(hi:i<=X.Ls.length):(X.jL i).length<=6:=by
 rw[QfR];have:∀i,base (λi=>X.nr i-1) i<=base X.nr i:=by
  intro i;induction i with
  |zero=>exact Qql _
  |succ i ih=>grind[base]
 grind[Nat.le_trans,Zs]
theorem Qft(K:LL->oP R):YK 400 X.Ls (X.T.map tuR) (X.fst X.L) (encI (X.runs X.L)) [] K=K (X.jns.map tuR):=by
 have l1:=h.l1;have tl:=h.tl;unfold YK;have s2:∀k0:Int->Bool->LL->oP R,QP 400 X.Ls (X.Ls.length:Int) (X.fst X.L) (encI (X.runs X.L)) k0 400 0 []=k0 (X.Ls.length:Int) false ((X.jL X.L).map tuR):=by
  intro k0;refine QY (r:=λm i=>QP 400 X.Ls (X.Ls.length:Int) (X.fst X.L) (encI (X.runs X.L)) k0 m i ((X.jL i.toNat).map tuR)) (N:=X.Ls.length) (λm i hi=>?_) (λm=>?_) X.Ls.length 400 0 Q0 Q0
  ·simp only[Qq7];have hl:=(line h hi).2.1;have hJ:=QeQ h (i:=i) Q0;have hw:wJ (((List.length (Hr X.Ls i):Nat):Int)-1)=((X.nr i-1:Nat):Int):=JS (k:=X.nr i) Q0 Q0;have am:(cut (Hr X.Ls i) (0,X.nr i-1)).length=X.nr i-1:=by rw[F2,List.length_take];unfold nr;omega
   rw[QP,Qs hi,Qq9,Qt,(line h hi).1];simp -implicitDefEqProofs only[Qh,Qq5,Qq6,X4,QJ (show i<=1000 by omega),hw,Q2y (n:=(Hr X.Ls i).length) (h:=X.nr i-1) (Nat.sub_le ..),am];refine QY (r:=λm' k=>Xv 400 (i:Int) (cut (Hr X.Ls i) (0,X.nr i-1)) ((X.nr i-1:Nat):Int) (X.fst X.L) (encI (X.runs X.L)) (λ_ _ w=>QP 400 X.Ls (X.Ls.length:Int) (X.fst X.L) (encI (X.runs X.L)) k0 m ((i+1:Nat):Int) w) m' k ((X.jL i++(List.range k.toNat).map (X.j1 i)).map tuR)) (N:=X.nr i-1) (λm' k hk=>?_) (λm'=>?_) (X.nr i-1) 400 0 Q0 Q0 |> Eq.trans Q2
   ·simp only[Qq7];have r:=rd h hi (show k<X.nr i by omega);have ai:Qi (cut (Hr X.Ls i) (0,X.nr i-1)) (k:Int)=some [Ql (rF X.Ls i k 0),Ql (X.ex i k),Ql (X.mn i k),Ql (X.mx i k)]:=by rw[F2,Qt,List.getElem?_take_of_lt hk,r.row]
    have c:=r.ex0;have e1:=r.ex1;have e2:=r.mn0;have o:=r.mn1;have p:=r.mn2;have s:=r.mn3;rw[Xv,Qs hk,Qq9,ai];simp -implicitDefEqProofs only[Qh,Qq5,Qq6,Qj,Q4a (n:=400) h hi (show k<=10 by omega),QJ (show k<=1000 by omega),Q4a (n:=400) h hi (show k+1<=10 by omega),QfZ (n:=400) (b:=base X.nr i+(k+1)) h hi (show k<X.nr i by omega) c (show X.ex i k<=1000 by omega) e2 (show X.mn i k<=1000 by omega) (show 0<=X.mx i k by omega) (show X.mx i k<=1000 by omega) (J:=X.jL i++(List.range k).map (X.j1 i)) Q3];rw[show(base X.nr i+k,base X.nr i+(k+1),X.run i k+X.mn i k,X.run i k+X.ex i k+X.mx i k)=X.j1 i k from rfl,ZC]
   ·simp only[Qq7];rw[Xv,Qy,Qq8];rfl
  ·simp only[Qq7];rw[QP,Qy,Qq8];rfl
 rw[s2];rw[Qqk];refine QY (r:=λm j=>Xt 400 (X.T.map tuR) (X.T.length:Int) (X.fst X.L) X.Ls (encI (X.runs X.L)) (λ_ _ w=>K w) m j ((X.jL X.L++(X.T.take j.toNat).map X.jT).map tuR)) (N:=X.T.length) (λm j hj=>?_) (λm=>?_) X.T.length 400 0 Q0 Q0 |> Eq.trans Q2
 ·simp only[Qq7];obtain⟨⟨a,b,lo,aa⟩,e⟩:∃q,X.T[j]? = some q:=⟨X.T[j],Qqa hj⟩;have ht:=h.tr _ (List.mem_of_getElem? e);have ha:a<X.Ls.length:=ht.1;have hb:b<X.Ls.length:=ht.2.1;have t1:=ht.2.2.1;have t2:=ht.2.2.2.1;have f:=ht.2.2.2.2.1;have g:=ht.2.2.2.2.2.1;dsimp only at t1 t2 f g;have hl:=(line h ha).2.1;have hJ:=QeQ h (i:=X.L) (Qql _);have hw:wJ (((List.length (Hr X.Ls a):Nat):Int)-1)=((X.nr a-1:Nat):Int):=JS (k:=X.nr a) Q0 Q0;have r:=rd h ha (show X.nr a-1<X.nr a by omega);have c:=r.ex0;have e1:=r.ex1;rw[Xt,Qs hj,Qq9,X5 e];simp -implicitDefEqProofs only[Qh,tuR,Qq5,Qq6,Qj,X4,Qt,(line h ha).1,hw,r.row,Qdp (n:=400) h ha,QJ (show j<=1000 by omega)];have d:=Q4a (R:=Int) (n:=400) h hb (Nat.zero_le 10) some;rw[show((0:Nat):Int)=0 from rfl]at d;rw[d,Qh];have l:X.jL X.L++(X.T.take (j+1)).map X.jT=X.jL X.L++(X.T.take j).map X.jT++[X.jT (a,b,lo,aa)]:=by rw[Zv e,Qqx,List.append_assoc];rfl
  rw[QfZ (n:=400) (b:=base X.nr b+0) h ha (show X.nr a-1<X.nr a by omega) c (show X.ex a (X.nr a-1)<=1000 by omega) (show 0<=lo by omega) (show lo<=1000 by omega) (show 0<=aa by omega) (show aa<=1000 by omega) (J:=X.jL X.L++(X.T.take j).map X.jT) Q3,Qh,l];rfl
 ·simp only[Qq7];rw[Xt,Qy,Qq8,Qqz];rfl
end Cx
abbrev Sp2:=Int×Int
def Yl(q:Sp2):List D:=[Ql q.1,Ql q.2]
def VS(t:Int):Int->List Sp2->Prop
 |_,[]=>True
 |l,(a,b)::r=>l<a/\a<b/\b<=t/\VS t b r
def InS(y:Int)(l:List Sp2):Prop:=∃q∈l,q.1<=y/\y<q.2
def cnt:List Sp2->Int
 |[]=>0
 |(a,b)::r=>(b-a)+cnt r
theorem LZ{y:Int}:¬ InS y []:=λ⟨_,h,_⟩=>nomatch h
theorem Tf{y:Int}{q:Sp2}{l:List Sp2}:InS y (q::l)↔(q.1<=y/\y<q.2)\/InS y l:=by
 constructor
 ·rintro⟨p,hp,h⟩;cases hp with
  |head=>exact .inl h
  |tail _ hp=>exact .inr ⟨p,hp,h⟩
 ·rintro (h | ⟨p,hp,h⟩)
  ·exact⟨q,.head _,h⟩
  ·exact⟨p,.tail _ hp,h⟩
theorem Qat{y:Int}{a b:List Sp2}:InS y (a++b)↔InS y a\/InS y b:=by
 constructor
 ·rintro⟨p,hp,h⟩;rcases Qqs.1 hp with hp | hp
  ·exact .inl ⟨p,hp,h⟩
  ·exact .inr ⟨p,hp,h⟩
 ·rintro (⟨p,hp,h⟩|⟨p,hp,h⟩)
  ·exact⟨p,List.mem_append_left _ hp,h⟩
  ·exact⟨p,List.mem_append_right _ hp,h⟩
theorem Q7c{y:Int}{a b:List Sp2}(h:a.Perm b):InS y a↔InS y b:=⟨λ⟨p,hp,q⟩=>⟨p,h.mem_iff.1 hp,q⟩,λ⟨p,hp,q⟩=>⟨p,h.mem_iff.2 hp,q⟩⟩
theorem VS.rng{t:Int}:∀{l:Int} {s:List Sp2},VS t l s->∀q∈s,l<q.1/\q.1<q.2/\q.2<=t
 |_,[],_,_,h=>nomatch h
 |l,(a,b)::r,⟨c,h2,d,e⟩,q,h=>by
  cases h with
  |head=>exact⟨c,h2,d⟩
  |tail _ h=>have:=e.rng q h;exact⟨Q0,this.2⟩
theorem VS.cnt{t:Int}:∀{l:Int} {s:List Sp2},l<=t->VS t l s->0<=cnt s/\cnt s<=t-l/\(0<s.length->cnt s<=t-l-1)
 |l,[],h,_=>⟨Int.le_refl _,by simp only[Vx.cnt];omega,λh=>nomatch h⟩
 |l,(a,b)::r,h,⟨e,h2,c,d⟩=>by
  have:=d.cnt c;simp only[Vx.cnt];omega
theorem Qb2{t:Int}:∀{l:Int} {s:List Sp2},VS t l s->l<=t->∀q∈s,q.2-q.1<=cnt s
 |_,[],_,_,_,h=>nomatch h
 |l,(a,b)::r,⟨e,h2,c,d⟩,hl,q,h=>by
  have h5:=d.cnt c;cases h with
  |head=>simp only[Vx.cnt];omega
  |tail _ h=>have:=Qb2 d c q h;simp only[Vx.cnt];omega
section
variable{R:Type} {n:Nat} {t:Int}
theorem Q2A(a:1<=t)(b:t<=7200)(K:Bool->oP R):UQ n t K=K true:=by
 unfold UQ;simp only[show decide (t>=1)=true from Qqi a,show decide (t<=7200)=true from Qqi b,Qq9]
theorem Q78{l:List Sp2}(hl:l.length<=1000){k0:oP R}{k1:Int->Int->Bool->oP R}{E:oP R}(hk:∀a b c,k1 a b c=E):∀(aa:List Sp2) (i m:Nat) (last:Int),l.drop i=aa->aa.length<m->VS t last aa->Ua n t (l.map Yl) (l.length:Int) k0 k1 m last (i:Int)=E
 |[],i,m+1,last,hd,_,_=>by
  have:=ZI hd;rw[Ua,show decide ((i:Int)<(l.length:Int))=false by simpa using this,Qq8,hk]
 |(a,b)::aa,i,m+1,last,hd,hm,⟨f,h2,g,d⟩=>by
  obtain⟨e,ac,hi⟩:=Y8 hd;rw[Ua,Qs hi,Qq9,X5 e];simp -implicitDefEqProofs only[Qh,Yl,Qq5,Qq6,Qj,Q5 (a<=last),Q5 (a>=b),Q5 (b>t),Qq8,QJ (show i<=1000 by omega)];exact Q78 hl hk aa (i+1) m b ac (by simpa using hm) d
theorem AZ{l:List Sp2}(a:1<=t)(b:t<=7200)(hl:l.length<=300)(h:VS t (-1) l):Gs 400 t (l.map Yl) (some:Bool->oP Bool)=some true:=by
 unfold Gs;rw[Q2A a b,Qh,Qp (by rfl),Qqk];exact Q78 Q0 (λ_ _ _=>rfl) l 0 400 (-1) rfl Q0 h
theorem Q6Q{l:List Sp2}(hl:l.length<=1000){k0:Int->Int->Bool->oP R}:∀(aa:List Sp2) (i m:Nat) (acc:Int),l.drop i=aa->aa.length<m->(∃u,VS t u aa /\ -1<=u/\u<=t)->t<=7200->0<=acc->acc<=100000-cnt aa->∃j b,ZV n (l.map Yl) (l.length:Int) k0 m acc (i:Int)=k0 (acc+cnt aa) j b
 |[],i,m+1,acc,hd,_,_,_,_,_=>by
  have:=ZI hd;rw[ZV,show decide ((i:Int)<(l.length:Int))=false by simpa using this,Qq8];exact⟨_,_,by rw[cnt,Int.add_zero]⟩
 |(a,b)::aa,i,m+1,acc,hd,hm,⟨u,⟨k,h2,d,f⟩,h5,h6⟩,ht,h7,g=>by
  obtain⟨e,ac,hi⟩:=Y8 hd;have hc:=f.cnt d;rw[cnt]at g ⊢;rw[ZV,Qs hi,Qq9,X5 e];simp -implicitDefEqProofs only[Qh,Yl,Qq5,Qq6,Qj,PD,Qo (x:=b-a) Q0 Q0,Qo (x:=acc+(b-a)) Q0 Q0,QJ (show i<=1000 by omega)];obtain⟨j,c,h⟩:=Q6Q hl aa (i+1) m (acc+(b-a)) ac (by simpa using hm) ⟨b,f,Q0,d⟩ ht Q0 Q0;exact⟨j,c,by rw[h,Int.add_assoc]⟩
theorem Qhq{l:List Sp2}(c:1<=t)(a:t<=7200)(hl:l.length<=300)(h:VS t (-1) l):Tb 400 t (l.map Yl) (some:Int->oP Int)=some (cnt l):=by
 have hc:=h.cnt Q0;obtain⟨j,b,e⟩:=Q6Q (n:=400) (k0:=λw _ _=>(some w:oP Int)) (l:=l) Q0 l 0 400 0 rfl Q0 ⟨-1,h,Q0,Q0⟩ a Q0 Q0;unfold Tb;rw[AZ c a hl h,Qh,Qp (by rfl)];unfold Rb;rw[Qqk,show ZV 400 (l.map Yl) (l.length:Int) (λw _ _=>(some w:oP Int)) 400 0 0=_ from e,Qh,Int.zero_add]
theorem QhG{x:Int}(b:1<=t)(c:t<=7200)(h2 : -1000000000<=x)(d:x<=1000000000)(K:Int->oP R):Ha n x t K=K (x % t):=by
 unfold Ha;rw[Qp (Qqh Q0),CR Q0,Qh];have f:=Int.emod_nonneg x (show t≠0 by omega);have h5:=Int.emod_lt_of_pos x (show 0<t by omega);by_cases hx:0<=x
 ·rw[Qqr hx,Qp (Qqh Q0)]
 ·have e:Int.tmod x t = -((-x) % t):=by
   rw[show x = -(-x) by omega,Int.neg_tmod,Qqr Q0,Int.neg_neg]
  have e1:x % t=if (-x) % t=0 then 0 else t-(-x) % t:=by
   have h6:=Int.emod_nonneg (-x) (show t≠0 by omega);have h7:=Int.emod_lt_of_pos (-x) (show 0<t by omega);have g:=Int.mul_ediv_add_emod (-x) t;split
   ·rename_i a;rw[show x=t*(-((-x) / t)) by rw[Int.mul_neg];omega];exact Int.mul_emod_right _ _
   ·rename_i a;rw[show x=(t-(-x) % t)+t*(-((-x) / t)-1) by rw[Int.mul_sub,Int.mul_neg];omega,Int.add_mul_emod_self_left];rw[show(t-(-x) % t+t*(-((-x) / t)-1))=x by rw[Int.mul_sub,Int.mul_neg];omega];exact Int.emod_eq_of_lt Q0 Q0
  rw[e];by_cases hz:(-x) % t=0
  ·rw[hz,Qp (by rfl),e1,Qqe hz];rfl
  ·have h6:=Int.emod_nonneg (-x) (show t≠0 by omega);rw[Xh (Qqi Q0),Qo Q0 Q0,e1,Qqg hz];congr 1;omega
theorem QhY{x:Int}(a:1<=t)(b:t<=7200)(h2 : -1000000000<=x)(c:x<=1000000000)(K:Int->oP R):Eg n x t K=K (x % t):=QhG (n:=n) a b h2 c K
def Q4P(t x k:Int):List Sp2:=if k<1 then[]else if t<=k then[(0,t)]else if x+k<=t then[(x,x+k)]else[(0,x+k-t),(x,t)]
theorem Q9S{x k:Int}:(Q4P t x k).length<=2:=by
 unfold Q4P;split
 ·simp
 split
 ·simp
 split<;>simp
theorem QbK{x k:Int}(a:1<=t)(hx:0<=x)(aa:x<t):VS t (-1) (Q4P t x k):=by
 unfold Q4P;split
 ·trivial
 split
 ·exact⟨Q0,Q0,Q0,trivial⟩
 split
 ·exact⟨Q0,Q0,Q0,trivial⟩
 ·exact⟨Q0,Q0,Q0,Q0,Q0,Q0,trivial⟩
theorem Qk9{x y:Int}(hx:0<=x)(aa:x<t)(hy:0<=y)(ac:y<t):(y-x) % t=if x<=y then y-x else y-x+t:=by
 split
 ·exact Int.emod_eq_of_lt Q0 Q0
 ·rw[show y-x=(y-x+t)+t*(-1) by omega,Int.add_mul_emod_self_left];rw[show y-x+t+t*(-1)+t=y-x+t by omega];exact Int.emod_eq_of_lt Q0 Q0
theorem Qcm{x k y:Int}(hx:0<=x)(ai:x<t)(hy:0<=y)(aa:y<t):InS y (Q4P t x k)↔(y-x) % t<k:=by
 rw[Qk9 hx ai hy aa];unfold Q4P;split
 ·refine⟨λh=>absurd h LZ,λh=>?_⟩;split at h<;>omega
 split
 ·rw[Tf];constructor
  ·intro _;split<;>omega
  ·intro _;exact .inl ⟨hy,aa⟩
 split
 ·rw[Tf];constructor
  ·rintro (h | h)
   ·dsimp only at h;rw[Qqe h.1];omega
   ·exact absurd h LZ
  ·intro h;left;dsimp only;split at h<;>omega
 ·rw[Tf,Tf];constructor
  ·rintro (h | h | h)
   ·dsimp only at h;split<;>omega
   ·dsimp only at h;rw[Qqe h.1];omega
   ·exact absurd h LZ
  ·intro h;dsimp only;by_cases ac:x<=y
   ·exact .inr (.inl ⟨ac,aa⟩)
   ·rw[Qqg ac]at h;exact .inl ⟨hy,Q0⟩
theorem Qi0{f k:Int}(b:1<=t)(c:t<=7200)(h2 : -1000000<=f)(g:f<=1000000)(h : -1000000<=k)(h5:k<=1000000):P1 400 t f k Tu2=some ((Q4P t (f % t) k).map Yl,(0:Int)):=by
 have h6:=Int.emod_nonneg f (show t≠0 by omega);have h7:=Int.emod_lt_of_pos f (show 0<t by omega);unfold P1;rw[Q2A b c,Qh,Qp (by rfl),QhG b c Q0 Q0,Qh];revert h6 h7;generalize f % t=x;intro h6 h7;unfold Jp Q4P;by_cases c1:k<1
 ·rw[show decide (k<1)=true from Qqi c1,Qq9,Qqe c1];rfl
 rw[show decide (k<1)=false from Qqh c1,Qq8,Qqg c1];by_cases a:t<=k
 ·rw[show decide (k>=t)=true from Qqi a,Qq9,Qqe a];rfl
 rw[show decide (k>=t)=false from Qqh a,Qq8,Qqg a,Qo (x:=x+k) Q0 Q0];by_cases c3:x+k<=t
 ·rw[show decide (x+k<=t)=true from Qqi c3,Qq9,Qqe c3];rfl
 ·rw[show decide (x+k<=t)=false from Qqh c3,Qq8,Qqg c3,Qo (x:=x+k-t) Q0 Q0];rfl
end
end Go.Vx
