/- Part of a proof. No conditions of their own. -/
import Derived.Test.YtekmjonablebcaaGreatTD
import Derived.Test.YtekmjonablebcaaGreatTB
set_option linter.unusedVariables false
set_option linter.unusedSimpArgs false
noncomputable section
abbrev Qq6:=@List.getElem?_cons_zero
abbrev Qq7:=@List.getElem?_cons_succ
abbrev Qq8:=@Int.toNat_natCast
abbrev Qq9:=@cond_false
abbrev Qqa:=@cond_true
abbrev Qqb:=@List.getElem?_eq_getElem
abbrev Qqc:=@Bool.not_false
abbrev Qqd:=@Bool.not_true
abbrev Qqe:=@List.getElem?_eq_some_iff
abbrev Qqf:=@if_pos
abbrev Qqg:=@List.getD_eq_getElem?_getD
abbrev Qqh:=@if_neg
abbrev Qqi:=@decide_eq_false
abbrev Qqj:=@decide_eq_true
abbrev Qqk:=@List.getElem_mem
abbrev Qql:=@List.length_map
abbrev Qqm:=@Nat.le_refl
abbrev Qqn:=@Nat.add_sub_cancel
abbrev Qqo:=@List.getElem?_append_right
abbrev Qqp:=@Int.eq_ofNat_of_zero_le
abbrev Qqq:=@List.getElem?_append_left
abbrev Qqr:=@List.getElem?_map
abbrev Qqs:=@Int.tmod_eq_emod_of_nonneg
abbrev Qqt:=@List.mem_append
abbrev Qqu:=@List.length_cons
abbrev Qqv:=@Option.getD_some
abbrev Qqw:=@Int.tdiv_eq_ediv_of_nonneg
abbrev Qqx:=@List.length_nil
abbrev Qqy:=@List.map_append
abbrev Qqz:=@Bool.and_eq_true
abbrev QqA:=@List.take_length
abbrev QqB:=@List.filter_cons
abbrev QqC:=@List.length_append
abbrev QqD:=@List.getElem?_eq_none
abbrev QqE:=@Nat.le_of_ble_eq_true
namespace Go.Vx
variable{R:Type} (n:Nat)
def QcU(aa:Y (Y UInt8))(s:Y UInt8):Bool:=Nat.ble s.length 12&&Qd8 (KF n s some)&&!(aa.contains s)
def P9 :Y (Y UInt8)->LL->Bool
|_,[]=>true
|aa,row::r=>match row with
|[D.str s]=>QcU n aa s&&P9 (s::aa) r
|_=>false
def Py(l0 l1 l2 e:LL):Y (Y UInt8)->LL->Bool
|_,[]=>true
|aa,row::r=>match row with
|[D.str s,D.int .i64 a,D.int .i64 b,D.int .i64 c,D.int .i64 d]=>QcU n aa s&&Qd8 (XA n l0 l1 l2 e s a b c d some)&&Py l0 l1 l2 e (s::aa) r
|_=>false
def H3(l0 l1 l2 c:LL):Y LL->LL->Bool
|_,[]=>true
|st,row::r=>match row with
|[D.int .i64 a,D.int .i64 ae,D.int .i64 b,D.int .i64 be,D.int .i64 p,D.int .i64 q]=>(decide (0<=a)&&decide (a<l2.length)&&decide (0<=ae)&&decide (ae<=1)&&decide (0<=b)&&decide (b<l2.length)&&decide (0<=be)&&decide (be<=1))&&Qd8 (Yo n l0 l1 l2 c a ae b be p q some) && !(Nat.beq (2*a+ae).toNat (2*b+be).toNat) && (match st[(2*a+ae).toNat]?,st[(2*b+be).toNat]? with
|some x,some y=>QjC (GG n x a ae b be some)&&Qd8 (JY n a ae b be p q x some)&&Qd8 (JY n a ae b be p q y some)&&Nat.ble x.length 1&&Nat.ble y.length 1&&H3 l0 l1 l2 c ((st.set (2*a+ae).toNat (x++[row])).set (2*b+be).toNat (y++[row])) r
|_,_=>false)
|_=>false
def PA(l0 l1 l2 a:LL):Bool:=Nat.ble l0.length 24&&Nat.ble l1.length 48&&Nat.ble l2.length 96&&Nat.ble a.length 192&&!(Nat.beq l2.length 0)&&P9 n [] l0&&P9 n [] l1&&Py n l0 l1 l2 a [] l2&&H3 n l0 l1 l2 a (List.replicate (2*l2.length) []) a
def ZA(l0 l1 l2 a:LL)(K:Qlg R):oP R:=bif PA n l0 l1 l2 a then K 0 else none
end Go.Vx
namespace Go.Vx
def hat(c:Nat):Y Nv:=List.replicate c (2,5000,0)
def pt2(c0 c1:Nat):LL:=Q3g 0 c0++Q3g (pc c0) c1
def se2(c0 c1 a:Nat)(b c d:Y Nv):LL:=(YH (secT 0) c0 b++YH (secT 1) c1 c)++YH (secL 0) a d
def li2(c0 c1 a:Nat):LL:=(inL (c0+c1) a++Q41 (c0+c1) false 0 0 c0)++Q41 (c0+c1+a-1) true (pc c0) c0 c1
def pt3(c0 c1 a:Nat):LL:=(Q3g 0 c0++Q3g (pc c0) c1)++Q3g (pc c0+pc c1) c1++Q3g (pc c0+pc c1+pc c1) a
def se3(c0 c1 a b c:Nat)(d e f g h:Y Nv):LL:=(((YH (secT 0) c0 d++YH (secT 1) c1 e)++YH (secT 2) a f)++YH (secL 0) b g)++YH (secL 1) c h
def li3(c0 c1 a b c:Nat):LL:=((inL (c0+c1+a) b++Q41 (c0+c1+a) false 0 0 c0)++Q41 (c0+c1+a+b-1) true (pc c0) c0 c1)++inL (c0+c1+a+b) c++Q41 (c0+c1+a+b) false (pc c0+pc c1) c0 c1++Q41 (c0+c1+a+b+c-1) true (pc c0+pc c1+pc c1) (c0+c1) a
theorem ok2{c0 c1 a:Nat}(b:c0=1\/c0=2)(c:c1=1\/c1=2)(h2:a=1\/a=2):PA 400 [nmS 0,nmS 1] (pt2 c0 c1) (se2 c0 c1 a (hat c0) (hat c1) (hat a)) (li2 c0 c1 a)=true:=by
 rcases b with rfl | rfl<;>rcases c with rfl | rfl<;>rcases h2 with rfl | rfl<;>kernel_rfl
theorem ok3{c0 c1 a b c:Nat}(d:c0=1\/c0=2)(e:c1=1\/c1=2)(h2:a=1\/a=2)(f:b=1\/b=2)(g:c=1\/c=2):PA 400 [nmS 0,nmS 1,nmS 2] (pt3 c0 c1 a) (se3 c0 c1 a b c (hat c0) (hat c1) (hat a) (hat b) (hat c)) (li3 c0 c1 a b c)=true:=by
 rcases d with rfl | rfl<;>rcases e with rfl | rfl<;>rcases h2 with rfl | rfl<;>rcases f with rfl | rfl<;>rcases g with rfl | rfl<;>kernel_rfl
structure NumOk(a b c d:Int)(k:Nat):Prop where
 a0:1<=a
 a1:a<=400
 b0:1000<=b
 b1:b<=100000
 c0 : -40<=c
 c1:c<=40
 d0 : -1<=d
 d1:d<k
theorem Q7v{n:Nat}{l0 l1 l2 e:LL}{s:Y UInt8}{a b c d:Int}(h:NumOk a b c d l0.length):XA n l0 l1 l2 e s a b c d some=some true:=by
 obtain⟨f,g,h2,i,j,h5,h6,h7⟩:=h;unfold XA;simp[f,g,h2,i,j,h5,h6,h7]
def DW(k:Nat):LL->LL->Prop
 |[],[]=>True
 |r::s,r'::s'=>(∃nm a b c a' b' c' d,r=[D.str nm,Ql a,Ql b,Ql c,Ql d]/\r'=[D.str nm,Ql a',Ql b',Ql c',Ql d]/\NumOk a b c d k/\NumOk a' b' c' d k)/\DW k s s'
 |_,_=>False
theorem DW.len{k:Nat}:∀{s s':LL},DW k s s'->s.length=s'.length
 |[],[],_=>rfl
 |r::s,r'::s',h=>by simp[DW.len h.2]
theorem DW.app{k:Nat}:∀{s s' t t':LL},DW k s s'->DW k t t'->DW k (s++t) (s'++t')
 |[],[],t,t',_,h=>h
 |r::s,r'::s',t,t',h,h2=>⟨h.1,DW.app h.2 h2⟩
theorem DW.secT{k i:Nat}(hi:i<k):∀{c:Nat} {x x':Y Nv},H6 x->H6 x'->x.length=c->x'.length=c->DW k (YH (secT i) c x) (YH (secT i) c x')
 |0,[],[],_,_,_,_=>trivial
 |c+1,a::x,a'::x',h,h',e,e'=>⟨⟨QjK i (c+1),a.1+2,a.2.1,a.2.2,a'.1+2,a'.2.1,a'.2.2,i,rfl,rfl,
   ⟨by have:=h.1.a0;omega,by have:=h.1.a1;omega,by have:=h.1.b0;omega,by have:=h.1.b1;omega,by have:=h.1.c0;omega,by have:=h.1.c1;omega,I,I⟩,
   ⟨by have:=h'.1.a0;omega,by have:=h'.1.a1;omega,by have:=h'.1.b0;omega,by have:=h'.1.b1;omega,by have:=h'.1.c0;omega,by have:=h'.1.c1;omega,I,I⟩⟩,DW.secT hi h.2 h'.2 (by simpa using e) (by simpa using e')⟩
theorem DW.secL{k i:Nat}:∀{c:Nat} {x x':Y Nv},H6 x->H6 x'->x.length=c->x'.length=c->DW k (YH (secL i) c x) (YH (secL i) c x')
 |0,[],[],_,_,_,_=>trivial
 |c+1,a::x,a'::x',h,h',e,e'=>⟨⟨nmL i (c+1),a.1,a.2.1,a.2.2,a'.1,a'.2.1,a'.2.2,-1,rfl,rfl,
   ⟨by have:=h.1.a0;omega,by have:=h.1.a1;omega,by have:=h.1.b0;omega,by have:=h.1.b1;omega,by have:=h.1.c0;omega,by have:=h.1.c1;omega,I,I⟩,
   ⟨by have:=h'.1.a0;omega,by have:=h'.1.a1;omega,by have:=h'.1.b0;omega,by have:=h'.1.b1;omega,by have:=h'.1.c0;omega,by have:=h'.1.c1;omega,I,I⟩⟩,DW.secL h.2 h'.2 (by simpa using e) (by simpa using e')⟩
theorem HY:∀c,H6 (hat c)
 |0=>trivial
 |c+1=>⟨⟨by decide,by decide,by decide,by decide,by decide,by decide⟩,HY c⟩
theorem Mq(c:Nat):(hat c).length=c:=by simp[hat]
theorem DQ{n:Nat}{l0 l1 L L' e:LL}:∀{s s':LL} {aa:Y (Y UInt8)},DW l0.length s s'->Py n l0 l1 L e aa s=Py n l0 l1 L' e aa s'
 |[],[],aa,_=>rfl
 |r::s,r'::s',aa,h=>by
  obtain⟨⟨nm,a,b,c,a',b',c',d,rfl,rfl,f,h2⟩,g⟩:=h;show(QcU n aa nm&&Qd8 (XA n l0 l1 L e nm a b c d some)&&Py n l0 l1 L e (nm::aa) s)=(QcU n aa nm&&Qd8 (XA n l0 l1 L' e nm a' b' c' d some)&&Py n l0 l1 L' e (nm::aa) s');rw[Q7v f,Q7v h2,DQ g]
theorem F8{n:Nat}{l0 l1 L L' c:LL}(h:L.length=L'.length):∀{t:LL} {st:Y LL},H3 n l0 l1 L c st t=H3 n l0 l1 L' c st t
 |[],st=>rfl
 |r::t,st=>by
  unfold H3;split
  ·rename_i a ae b be p q;have e:Yo n l0 l1 L c a ae b be p q some=Yo n l0 l1 L' c a ae b be p q some:=by unfold Yo;rw[h]
   rw[e,h];split
   ·rw[F8 h]
   ·rfl
  ·rfl
theorem Q1k{n:Nat}{l0 l1 L L' a:LL}(h:DW l0.length L L'):PA n l0 l1 L a=PA n l0 l1 L' a:=by
 unfold PA;rw[h.len,DQ h,F8 h.len]
theorem sr2{c0 c1 a:Nat}{b c d:Y Nv}(n0:H6 b)(n1:H6 c)(n2:H6 d)(e:b.length=c0)(e1:c.length=c1)(e2:d.length=a):DW 2 (se2 c0 c1 a b c d) (se2 c0 c1 a (hat c0) (hat c1) (hat a)):=
 .app (.app (.secT Q1 n0 (HY _) e (Mq _)) (.secT Q1 n1 (HY _) e1 (Mq _))) (.secL n2 (HY _) e2 (Mq _))
theorem sr3{c0 c1 a b c:Nat}{d e f g h:Y Nv}(n0:H6 d)(n1:H6 e)(n2:H6 f)(i:H6 g)(j:H6 h)(k:d.length=c0)(e1:e.length=c1)(e2:f.length=a)(l:g.length=b)(m:h.length=c):DW 3 (se3 c0 c1 a b c d e f g h) (se3 c0 c1 a b c (hat c0) (hat c1) (hat a) (hat b) (hat c)):=
 .app (.app (.app (.app (.secT Q1 n0 (HY _) k (Mq _)) (.secT Q1 n1 (HY _) e1 (Mq _))) (.secT Q1 n2 (HY _) e2 (Mq _))) (.secL i (HY _) l (Mq _))) (.secL j (HY _) m (Mq _))
theorem QjW{c0 c1 a:Nat}{b c d:Y Nv}(e:c0=1\/c0=2)(f:c1=1\/c1=2)(h2:a=1\/a=2)(n0:H6 b)(n1:H6 c)(n2:H6 d)(g:b.length=c0)(e1:c.length=c1)(e2:d.length=a) :
  PA 400 [nmS 0,nmS 1] (pt2 c0 c1) (se2 c0 c1 a b c d) (li2 c0 c1 a)=true:=by
 rw[<- ok2 e f h2];exact Q1k (sr2 n0 n1 n2 g e1 e2)
theorem Qkj{c0 c1 a b c:Nat}{d e f g h:Y Nv}(i:c0=1\/c0=2)(j:c1=1\/c1=2)(h2:a=1\/a=2)(k:b=1\/b=2)(l:c=1\/c=2)(n0:H6 d)(n1:H6 e)(n2:H6 f)(m:H6 g)(n:H6 h)(o:d.length=c0)(e1:e.length=c1)(e2:f.length=a)(p:g.length=b)(q:h.length=c) :
  PA 400 [nmS 0,nmS 1,nmS 2] (pt3 c0 c1 a) (se3 c0 c1 a b c d e f g h) (li3 c0 c1 a b c)=true:=by
 rw[<- ok3 i j h2 k l];exact Q1k (sr3 n0 n1 n2 m n o e1 e2 p q)
end Go.Vx
namespace Go.Vx
variable{R:Type} (n:Nat)
def WQ(h6:LL)(h7:Int)(b c d e:LL)(k0:oP R)(k1:Qlh R):Qli R
|0,_=>none
|m+1,a=>bif decide (a<h7)then QkB R h6 a λg h=>Qkw R g h λi j=>Qc R (NA n b c d e i j some) λk=>bif !k then k0 else WQ h6 h7 b c d e k0 k1 m (wJ (a+1))else k1 a (decide (a<h7))
def Gq(n:Nat)(e:LL)(c:Int)(k0:oP R)(k1:Qlj R):Qlk R
|0,_,_=>none
|m+1,b,a=>bif decide (b<c)then Ql4 R e b λg=>Qc R (pIw g) λh=>Qlc R a.length h a h.toNat λk=>bif k then k0 else Qc R (pIw g) λd=>Qkz R a.length d a d.toNat λl=>Gq n e c k0 k1 m (wJ (b+1)) (List.set a d.toNat (List.set l 0 (D.bool true)))else k1 b (decide (b<c)) a
def WG(e:LL)(b:Int)(f g h i j:LL)(k0:oP R)(k1:Qlj R):Qlk R
|0,_,_=>none
|m+1,a,c=>bif decide (a<b)then QkB R e a λo p=>QkB R j a λq r=>QkW R q r o p λs t u v=>Qc R (JL n f g h i s t u v Tu2) λd=>bif !d.2 then k0 else Qc R (Y5 ((c.length+[[Ql d.1]].length)*8)) λz=>WG e b f g h i j k0 k1 m (wJ (a+1)) (c++[[Ql d.1]])else k1 a (decide (a<b)) c
def Hn(d e b f a:LL)(c:Int)(K:Qlp R):oP R:=Qc R (ZA n d e b f some) λj=>bif j !=0 then K [] 1 else Qb R (a.length:Int) λaa=>jn (λ(k:Bool)=>bif k then K [] 7 else jn (λ(l:Bool)=>bif l then K [] 4 else WQ n a aa d e b f (K [] 4) (λo p=>Qb R (b.length:Int) λz=>gb true (bif decide (0<=z)&&decide (z<=z)then some ()else none) () λq=>Qc R (Y5 (Int.toNat z*1)) λr=>Gq n a aa (K [] 5) (λs t u=>Qc R (slB a.length (some 1) none) λg=>WG n (cut a g) ((List.length (cut a g):Nat):Int) d e b f a (K [] 11) (λv x m=>K m 0) n 0 []) n 0 (List.replicate (Int.toNat z) [D.bool false])) n 0) λh=>bif decide (c<0)then h (decide (c<0))else h (decide (wJ (aa-c)<2))) λi=>Qa R (decide (aa>24)) λy=>bif y then i y else i (decide (c>2))
def TP(b c d e f:LL)(g:Int)(K:Qlg R):oP R:=Qc R (Hn n b c d e f g Tu2) λa=>K a.2
end Go.Vx
namespace Go.Vx
def KK(s u x y:Nat)(up:Bool):LL:=
 bif up then[Ql x,Ql 0]::((ups s u).map λk=>[Ql (k:Nat),Ql 0])++[[Ql y,Ql 0]]else[Ql y,Ql 1]::((ups s u).reverse.map λk=>[Ql (k:Nat),Ql 1])++[[Ql x,Ql 1]]
theorem QY{α:Type}{r:Nat->Int->α}{N:Nat}{e:α}(hs:∀m h,h<N->r (m+1) (h:Int)=r m ((h+1:Nat):Int))(he:∀m,r (m+1) (N:Int)=e):∀(k m h:Nat),h+k=N->k<m->r m (h:Int)=e
 |0,m+1,h,hh,_=>by rw[show h=N by omega];exact he m
 |k+1,m+1,h,hh,hm=>by rw[hs m h I];exact QY hs he k m (h+1) I I
section
variable{R:Type} {n:Nat} {a b a' b' L L' d:LL} (h:L.length=L'.length)
include h
theorem Qfs{s:LL}{w:Int}{k0:oP R}{k1:Int->Bool->oP R}:∀(m:Nat) (i:Int),WQ n s w a b L d k0 k1 m i=WQ n s w a' b' L' d k0 k1 m i
 |0,_=>rfl
 |m+1,i=>by
  unfold WQ;simp only[NA,h,Qfs m]
omit h in
theorem Qiv{x y z t:Int}{K:Int->Bool->oP R}:JL n a b L d x y z t K=JL n a' b' L' d x y z t K:=rfl
omit h in
theorem Qhp{q s:LL}{w:Int}{k0:oP R}{k1:Int->Bool->LL->oP R}:∀(m:Nat) (i:Int) (p:LL),WG n q w a b L d s k0 k1 m i p=WG n q w a' b' L' d s k0 k1 m i p
 |0,_,_=>rfl
 |m+1,i,p=>by
  unfold WG;simp only[Qiv (a:=a) (b:=b) (L:=L) (a':=a') (b':=b') (L':=L'),Qhp m]
end
def Q9Y(St Pt L d s:LL):oP (LL×Int):=
 WQ 400 s ((List.length s:Nat):Int) St Pt L d (some ([],4))
  (λ_ _=>
  gb true (bif decide (0<=((List.length L:Nat):Int))&&decide (((List.length L:Nat):Int)<=((List.length L:Nat):Int))then some ()else none) () λc=>
  gb true (Y5 (Int.toNat ((List.length L:Nat):Int)*1)) () λe=>
  Gq 400 s ((List.length s:Nat):Int) (some ([],5))
   (λ_ _ _=>
   gb true (slB (List.length s) (some (1:Int)) none) (0,0) λa=>
   WG 400 (cut s a) ((List.length (cut s a):Nat):Int) St Pt L d s (some ([],11)) (λ_ _ b=>some (b,0)) 400 (0:Int) [])
   400 (0:Int) (List.replicate (Int.toNat ((List.length L:Nat):Int)) [D.bool false]))
  400 (0:Int)
def rtB(N:Nat)(Li s:LL):Bool:=match Q9Y [] [] (List.replicate N []) Li s with
 |some (_,e)=>e == 0
 |none=>false
theorem Qad{St Pt Se Li s:LL}{N:Nat}(aa:PA 400 St Pt Se Li=true)(hN:Se.length=N)(h2:2<=s.length)(g:s.length<=24)(hr:rtB N Li s=true) :
  ∃ac,Hn 400 St Pt Se Li s 0 Tu2=some (ac,0):=by
 have hc:ZA 400 St Pt Se Li (some:Int->oP Int)=some 0:=by unfold ZA;rw[aa];rfl
 have hL:Se.length=(List.replicate N ([]:Y D)).length:=by simp[hN]
 have e:Hn 400 St Pt Se Li s 0 Tu2=Q9Y [] [] (List.replicate N []) Li s:=by
  unfold Hn;rw[hc,Qh,Qq Q1];dsimp only[jn];rw[Qq (c:=decide (((List.length s:Nat):Int)>24)) Q3,Qq (c:=decide ((0:Int)>2)) Q1,Qq (c:=decide ((0:Int)<0)) Q1,Qq (c:=decide (wJ (((List.length s:Nat):Int)-0)<2)) (by rw[Qo I I];simp;omega)];unfold Q9Y;simp only[Qhp (a:=St) (b:=Pt) (L:=Se) (a':=[]) (b':=[]) (L':=List.replicate N []),Qfs (a:=St) (b:=Pt) (L:=Se) (a':=[]) (b':=[]) (L':=List.replicate N []) hL,hL]
 rw[e];unfold rtB at hr;split at hr
 ·rename_i p e' hh;simp only[beq_iff_eq]at hr;subst hr;exact⟨p,hh⟩
 ·cases hr
theorem Q6C{R:Type}{St Pt Se Li s:LL}{N:Nat}(aa:PA 400 St Pt Se Li=true)(hN:Se.length=N)(h2:2<=s.length)(a:s.length<=24)(hr:rtB N Li s=true)(K:Int->oP R):TP 400 St Pt Se Li s 0 K=K 0:=by
 obtain⟨p,e⟩:=Qad aa hN h2 a hr;unfold TP;rw[e,Qh]
def QcY(N:Nat)(Li:LL)(s u k c k' c':Nat):Bool:=
 (ups k c).all λx=>(ups k' c').all λy=>rtB N Li (KK s u x y true)&&rtB N Li (KK s u x y false)
theorem Qk5{c0 c1 a:Nat}(b:c0=1\/c0=2)(c:c1=1\/c1=2)(h2:a=1\/a=2):QcY (c0+c1+a) (li2 c0 c1 a) (c0+c1) a 0 c0 c0 c1=true:=by
 rcases b with rfl | rfl<;>rcases c with rfl | rfl<;>rcases h2 with rfl | rfl<;>kernel_rfl
theorem Qkb{c0 c1 a b c:Nat}(d:c0=1\/c0=2)(e:c1=1\/c1=2)(h2:a=1\/a=2)(f:b=1\/b=2)(g:c=1\/c=2) :
  (QcY (c0+c1+a+b+c) (li3 c0 c1 a b c) (c0+c1+a) b 0 c0 c0 c1&&QcY (c0+c1+a+b+c) (li3 c0 c1 a b c) (c0+c1+a+b) c c0 c1 (c0+c1) a)=true:=by
 rcases d with rfl | rfl<;>rcases e with rfl | rfl<;>rcases h2 with rfl | rfl<;>rcases f with rfl | rfl<;>rcases g with rfl | rfl<;>kernel_rfl
end Go.Vx
namespace Go.Vx
variable{R:Type} (n:Nat)
def Wi(d:LL)(c:Int)(e:LL)(k0:Qlj R):Qlk R
|0,_,_=>none
|m+1,h5,a=>bif decide (h5<c)then QkB R d h5 λl o=>Qc R (pIw l) λp=>QkF R e p λb g=>Ql3 R b λq r=>Qc R b[4]? λx=>QkY R q r o λh i s=>bif s==1 then Qc R (pIw g) λt=>Qc R (Qu n [[Ql h,Ql (wJ (0-i))]] t some) λj=>Qc R (Y5 ((a.length+j.length)*16)) λy=>Wi d c e k0 m (wJ (h5+1)) (a++j)else Qc R (pIw g) λu=>Qc R (Qu n [[Ql h,Ql i]] u some) λk=>Qc R (Y5 ((a.length+k.length)*16)) λz=>Wi d c e k0 m (wJ (h5+1)) (a++k)else k0 h5 (decide (h5<c)) a
def SZ(g h b i a:LL)(c:Int)(K:Qlt R):oP R:=Qc R (TP n g h b i a c some) λd=>bif d !=0 then K [] 0 d else Qc R (slB a.length none (some (wJ ((a.length:Int)-c)))) λe=>Wi n (cut a e) ((List.length (cut a e):Nat):Int) b (λp q f=>bif decide ((f.length:Int)>4000)then K [] 0 7 else QkA R a 0 λl=>QkG R b l λi64=>K f i64 0) n 0 []
def WI(n:Nat)(h6:LL)(h7:Int)(c:LL)(b:Int)(k0:oP R)(k1:Qlh R):Qli R
|0,_=>none
|m+1,a=>bif decide (a<h7)then Ql4 R h6 a λe=>Qc R (pIw e) λf=>QkG R c f λi=>bif decide (i<(if 2<b then b else 2))then k0 else WI n h6 h7 c b k0 k1 m (wJ (a+1))else k1 a (decide (a<h7))
def Hm(h i c j d:LL)(e:Int)(k:Y UInt8)(f l m o:Int)(K:Qlt R):oP R:=Qc R (SZ n h i c j d e Tu3) λa=>bif a.2.2 !=0 then K [] 0 a.2.2 else Qc R (Uv n k f l m o some) λb=>bif !b then K [] 0 1 else Qc R (Ui n d e some) λg=>WI n g (g.length:Int) c f (K [] 0 12) (λq r=>K a.1 a.2.1 0) n 0
def Gl(b c d e f:LL)(g:Int)(h:Y UInt8)(i j k l:Int)(K:Qlg R):oP R:=Qc R (Hm n b c d e f g h i j k l Tu3) λa=>K a.2.2
end Go.Vx
namespace Go.Vx
structure SecN(a b c:Int):Prop where
 a0:2<=a
 a1:a<=12
 b0:5000<=b
 b1:b<=35000
 c0 : -10<=c
 c1:c<=10
def Dd(Se:LL)(row:Y D):Prop:=∃(x d:Int) (nm:Y UInt8) (a b c st:Int),row=[Ql x,Ql d]/\Qi Se x=some [D.str nm,Ql a,Ql b,Ql c,Ql st]/\SecN a b c/\(d=0\/d=1)
def Sm(Se:LL):Y D->LL
 |[.int _ x,.int _ d]=>match Qi Se x with
  |some [_,.int _ a,.int _ b,.int _ c,_]=>List.replicate a.toNat [Ql b,Ql (bif d == 1 then -c else c)]
  |_=>[]
 |_=>[]
def Yu(Se s:LL):LL:=s.flatMap (Sm Se)
theorem Ho{Se:LL}{x d a b c st:Int}{nm:Y UInt8}(h:Qi Se x=some [D.str nm,Ql a,Ql b,Ql c,Ql st]):Sm Se [Ql x,Ql d]=List.replicate a.toNat [Ql b,Ql (bif d == 1 then -c else c)]:=by
 grind[Sm]
theorem Zv{α:Type}{l:Y α}{h:Nat}{a:α}(e:l[h]? = some a):l.take (h+1)=l.take h++[a]:=by grind[List.take_add_one]
theorem MF{Se s:LL}{h:Nat}{row:Y D}(e:s[h]? = some row):Yu Se (s.take (h+1))=Yu Se (s.take h)++Sm Se row:=by
 rw[Zv e];simp[Yu]
theorem PO{Se:LL}:∀{s:LL},(∀row∈s,Dd Se row)->(Yu Se s).length<=12*s.length/\2*s.length<=(Yu Se s).length
 |[],_=>by simp[Yu]
 |row::s,h=>by
  obtain⟨x,d,nm,a,b,c,st,rfl,hs,hn,_⟩:=h _ (List.mem_cons_self ..);have e:=PO λr hr=>h r (List.mem_cons_of_mem _ hr)
  have h2:=hn.a0;have f:=hn.a1;simp only[Yu,List.flatMap_cons,Ho hs,QqC,List.length_replicate,Qqu]at e ⊢;omega
section
variable{R:Type} {n:Nat}
theorem QjX{a:Int}{x y:D}(b:0<=a)(c:a<=100000)(K:LL->oP R):Qu n [[x,y]] a K=K (List.replicate a.toNat [x,y]):=by
 simp_all [Qu,Xh]
theorem Qc2{Se s:LL}{k0:Int->Bool->LL->oP R}(hs:∀row∈s,Dd Se row)(hl:s.length<=30):∀{m:Nat},s.length<m->Wi n s (s.length:Int) Se k0 m 0 []=k0 (s.length:Int) false (Yu Se s):=by
 intro m hm;have hc:=λh:Nat=>(PO (s:=s.take h) λr hr=>hs r (List.mem_of_mem_take hr)).1
 refine QY (r:=λm h=>Wi n s (s.length:Int) Se k0 m h (Yu Se (s.take h.toNat))) (N:=s.length) (λm h hh=>?_) (λm=>?_) s.length m 0 I hm
 ·have e:=Qqb hh;obtain⟨x,d,nm,a,b,c,st,hx,ac,hn,hd⟩:=hs _ (Qqk hh);rw[hx]at e;have a0:=hn.a0;have a1:=hn.a1;have aj:=hc h;simp only[Qq8,MF e,Ho ac];simp only[List.length_take]at aj;rw[Wi,Xh (by simpa using hh),show Qi s (h:Int)=some [Ql x,Ql d] by simp[Qi,e],Qh];dsimp only[List.getElem?_cons_zero,List.getElem?_cons_succ];rw[Qh,Qh,Qj,Qh,ac,Qh];dsimp only[List.getElem?_cons_zero,List.getElem?_cons_succ];have aa:∀r:Y D,Y5 (((Yu Se (s.take h)).length+(List.replicate a.toNat r).length)*16)=some ():=λr=>XI (by simp only[List.length_replicate];omega)
  simp -implicitDefEqProofs only[Qh,Qj,QjX (show(0:Int)<=a by omega) (show a<=100000 by omega),aa];rw[Qo (x:=(h:Int)+1) I I,show(h:Int)+1=((h+1:Nat):Int) by omega,Qo (x:=0-c) (by have:=hn.c1;omega) (by have:=hn.c0;omega),Int.zero_sub];cases f:d == (1:Int)<;>rfl
 simp[Qq8,Wi,Qq,QqA]
theorem Qb0{s:LL}(h:s.length<=1000):slB s.length none (some (wJ ((s.length:Int)-(0:Int))))=some (0,s.length)/\cut s (0,s.length)=s:=by
 grind[Qo,slB,cut]
def Ta(Se s:LL):Int:=match s with
 |[.int _ x,_]::_=>match Qi Se x with
  |some [_,.int _ a,_,_,_]=>a
  |_=>0
 |_=>0
theorem Qgm{St Pt Se Li s:LL}{N:Nat}(aa:PA 400 St Pt Se Li=true)(hN:Se.length=N)(h2:2<=s.length)(e:s.length<=24)(hr:rtB N Li s=true)(ho:∀row∈s,Dd Se row)(K:LL->Int->Int->oP R) :
  SZ 400 St Pt Se Li s 0 K=K (Yu Se s) (Ta Se s) 0:=by
 have hl:=(PO ho).1;obtain⟨row,rest,rfl⟩:∃row rest,s=row::rest:=by
  cases s with
  |nil=>simp at h2
  |cons a b=>simp_all
 obtain⟨x,d,nm,a,b,c,st,rfl,hs,_,_⟩:=ho row Q2;have hf:Ta Se ([Ql x,Ql d]::rest)=a:=by grind[Ta]
 generalize hS:[Ql x,Ql d]::rest=s at *
 obtain⟨e1,e2⟩:=Qb0 (s:=s) I;unfold SZ;rw[Q6C aa hN h2 e hr,Qh,Qq Q1,e1,Qh,e2,Qc2 ho I I,Qq Q3,show Qi s (0:Int)=some [Ql x,Ql d] by rw[<- hS];rfl,Qh]
 grind[List.getElem?_cons_zero,List.getElem?_cons_succ,Qh,Qj]
theorem Qhh{Se s:LL}{tl:Int}{k0:oP R}{k1:Int->Bool->oP R}(ht:tl<=2)(hb:s.length<=30)(hs:∀row∈s,Dd Se row){m:Nat}(hm:s.length<m) :
  WI n s (s.length:Int) Se tl k0 k1 m 0=k1 (s.length:Int) false:=by
 refine QY (r:=λm h=>WI n s (s.length:Int) Se tl k0 k1 m h) (N:=s.length) (λm h hh=>?_) (λm=>?_) s.length m 0 I hm
 ·obtain⟨x,d,ai,a,b,c,st,hx,aa,hn,_⟩:=hs _ (Qqk hh);have a0:=hn.a0;rw[WI,Xh Q4,show Qi s (h:Int)=some [Ql x,Ql d] by grind[Qi,List.getElem?_eq_getElem],Qh];dsimp only[List.getElem?_cons_zero,List.getElem?_cons_succ];rw[Qh,Qh,Qj,Qh,aa,Qh];dsimp only[List.getElem?_cons_zero,List.getElem?_cons_succ];rw[Qh,Qj,Qh,Qq (by grind),Qo (x:=(h:Int)+1) I I,show(h:Int)+1=((h+1:Nat):Int) by omega]
 simp[WI,Qq]
structure StkN(tl sp ac br:Int):Prop where
 t1:1<=tl
 t2:tl<=2
 s1:10000<=sp
 s2:sp<=25000
 a1:400<=ac
 a2:ac<=800
 b1:400<=br
 b2:br<=800
theorem Ab{nm:Y UInt8}{tl sp ac br:Int}(h:StkN tl sp ac br)(K:Bool->oP R):Uv n nm tl sp ac br K=K true:=by
 obtain⟨t1,t2,s1,s2,a1,a2,b1,b2⟩:=h
 grind[Uv]
theorem Q16{s:LL}(a:s.length<=24)(K:LL->oP R):Ui 400 s 0 K=K s:=by
 grind[Qb0,Ui,Qh]
theorem QjM{St Pt Se Li s:LL}{N:Nat}{nm:Y UInt8}{tl sp ac br:Int}(aa:PA 400 St Pt Se Li=true)(hN:Se.length=N)(h2:2<=s.length)(a:s.length<=24)(hr:rtB N Li s=true)(ho:∀row∈s,Dd Se row)(hk:StkN tl sp ac br)(K:LL->Int->Int->oP R):Hm 400 St Pt Se Li s 0 nm tl sp ac br K=K (Yu Se s) (Ta Se s) 0:=by
 unfold Hm;rw[Qgm aa hN h2 a hr ho,Qh,Qq (by rfl),Ab hk,Qh,Qq Q1,Q16 a,Qh,Qhh hk.t2 I ho I]
theorem Qh4{St Pt Se Li s:LL}{N:Nat}{nm:Y UInt8}{tl sp ac br:Int}(aa:PA 400 St Pt Se Li=true)(hN:Se.length=N)(h2:2<=s.length)(a:s.length<=24)(hr:rtB N Li s=true)(ho:∀row∈s,Dd Se row)(hk:StkN tl sp ac br)(K:Int->oP R):Gl 400 St Pt Se Li s 0 nm tl sp ac br K=K 0:=by
 grind[Gl,QjM,Qh]
end
end Go.Vx
namespace Go.Vx
variable{R:Type} (n:Nat)
def Mx(d e c f:LL)(a b:Int)(K:Qll R):oP R:=Qa R (Q9 (Q9 (decide (a>=0)) (decide (a<(c.length:Int)))) (Q8 (b==0) (b==1))) λh=>Qd R h (ZA n d e c f some) λg=>K (Q9 h (g==0))
def Wn(g:LL)(d h6 h7:Int)(k0:Qlj R):Qlk R
|0,_,_=>none
|m+1,h5,b=>bif decide (h5<d)then Qky R g h5 λc r ac s=>QkJ R c λt j k=>QkW R r ac s t λu v x y=>Qkw R j k λz aa=>gb true (F3 n u v x y z aa Tu4) (0,0,0,0) λa=>Qb R (wJ (h5+1)) λab=>bif h6==a.1&&h7==a.2.1 then Qc R (M5 n a.2.2.1 a.2.2.2 Tu2) λh=>Qkw R j k λl o=>Qb R [[Ql h.1,Ql h.2,Ql l,Ql o]] λf=>Qc R (Y5 ((b.length+f.length)*32)) λad=>Wn g d h6 h7 k0 m ab (b++f)else bif h6==a.2.2.1&&h7==a.2.2.2 then Qc R (M5 n a.1 a.2.1 Tu2) λi=>Qkw R j k λp q=>Qb R [[Ql i.1,Ql i.2,Ql p,Ql q]] λe=>Qc R (Y5 ((b.length+e.length)*32)) λae=>Wn g d h6 h7 k0 m ab (b++e)else Wn g d h6 h7 k0 m ab b else k0 h5 (decide (h5<d)) b
def LO(d e f a:LL)(b c:Int)(K:Qlm R):oP R:=Qc R (Mx n d e f a b c some) λg=>bif !g then K []else bif c==1 then Wn n a (a.length:Int) b 0 (λj k h=>K h) n 0 []else Wn n a (a.length:Int) b 1 (λl m i=>K i) n 0 []
def ZF(n:Nat)(h2:LL)(c h5 h6:Int)(k0:Qlg R)(k1:Qlh R):Qli R
|0,_=>none
|m+1,a=>bif decide (a<c)then Qky R h2 a λb d e f=>Qc R b[3]? λj=>Qkw R d e λg h=>bif g==h5&&h==h6 then Qc R (pIw f) λi=>k0 i else ZF n h2 c h5 h6 k0 k1 m (wJ (a+1))else k1 a (decide (a<c))
def Zw(b c d e:LL)(f g h i:Int)(K:Qlg R):oP R:=Qc R (LO n b c d e f g some) λa=>ZF n a (a.length:Int) h i (λj=>K j) (λk l=>K (-1:Int)) n 0
end Go.Vx
namespace Go.Vx
theorem DW.at{k:Nat}:∀{s s':LL},DW k s s'->∀i:Nat,(s[i]? = none/\s'[i]? = none)\/∃nm a b c a' b' c' d,s[i]? = some [D.str nm,Ql a,Ql b,Ql c,Ql d]/\s'[i]? = some [D.str nm,Ql a',Ql b',Ql c',Ql d]/\NumOk a b c d k/\NumOk a' b' c' d k
 |[],[],_,i=>.inl ⟨by simp,by simp⟩
 |r::s,r'::s',h,0=>by
  obtain⟨⟨nm,a,b,c,a',b',c',d,e,h2,f,g⟩,_⟩:=h;exact .inr ⟨nm,a,b,c,a',b',c',d,by simp[e],by simp[h2],f,g⟩
 |r::s,r'::s',h,i+1=>by
  have:=DW.at h.2 i;simpa using this
theorem DW.row{k:Nat}{s s':LL}(h:DW k s s')(i:Int):(Qi s i=none/\Qi s' i=none)\/∃nm a b c a' b' c' d,Qi s i=some [D.str nm,Ql a,Ql b,Ql c,Ql d]/\Qi s' i=some [D.str nm,Ql a',Ql b',Ql c',Ql d]/\NumOk a b c d k/\NumOk a' b' c' d k:=by
 unfold Qi;cases decide ((0:Int)<=i)
 ·simp_all
 ·exact h.at i.toNat
theorem gbN{α R:Type}{z:α}{k:α->oP R}:gb true none z k=none:=rfl
theorem inT{R:Type}{n:Nat}{x lo hi:Int}(a:lo<=x)(b:x<=hi)(K:Bool->oP R):Kq n x lo hi K=K true:=by
 grind[Kq,decide]
section
variable{R:Type} {n k:Nat} {s s' St Pt Li:LL} (h:DW k s s')
include h
theorem Q6X{k0:Int->Bool->LL->oP R}:∀(m:Nat) (i:Int) (acc:LL),YR n s k0 m i acc=YR n s' k0 m i acc
 |0,_,_=>rfl
 |m+1,i,acc=>by
  unfold YR;rcases h.row i with⟨e,e'⟩|⟨nm,a,b,c,a',b',c',d,e,e',_,_⟩
  ·simp only[e,e',h.len,gbN]
  ·rw[e,e',h.len];simp only[Q6X m];rfl
theorem QdZ{aa:LL}(hk:St.length=k)(f:k<=100){k0:Int->oP R}{k1:Int->Bool->oP R}:∀(m:Nat) (i:Int),Jb n aa St s k0 k1 m i=Jb n aa St s' k0 k1 m i
 |0,_=>rfl
 |m+1,i=>by
  unfold Jb;rcases h.row i with⟨e,e'⟩|⟨nm,a,b,c,a',b',c',d,e,e',g,g'⟩
  ·simp only[e,e',h.len,gbN,QdZ hk f m]
  ·rw[e,e',h.len];obtain⟨j,l,h2,o,p,h5,h6,h7⟩:=g;obtain⟨g0,g1,q,r,t,u,v,x⟩:=g';simp -implicitDefEqProofs only[Qh,Qq6,Qq7,Qj,inT j l,inT h2 o,inT p h5,inT g0 g1,inT q r,inT t u,QdZ hk f m]
theorem QfK{k0:Int->oP R}{k1:Int->Bool->oP R}:∀(m:Nat) (i:Int),J2 n St Pt s Li k0 k1 m i=J2 n St Pt s' Li k0 k1 m i
 |0,_=>rfl
 |m+1,i=>by
  unfold J2;have e:∀j,JH n St Pt s Li j (some:Int->oP Int)=JH n St Pt s' Li j some:=by
   intro j;unfold JH;rw[h.len];rfl
  simp only[e,QfK m]
theorem Qdt(hk:St.length=k)(a:k<=100)(K:Int->oP R):Vw n St Pt s Li K=Vw n St Pt s' Li K:=by
 unfold Vw V3;rw[h.len]
 grind[Q6X,QdZ,QfK]
end
def Qba(St Pt Se Li:LL):Bool:=Q8C (Vw 400 St Pt Se Li some)
theorem ro2{c0 c1 a:Nat}(b:c0=1\/c0=2)(c:c1=1\/c1=2)(h2:a=1\/a=2):Qba [nmS 0,nmS 1] (pt2 c0 c1) (se2 c0 c1 a (hat c0) (hat c1) (hat a)) (li2 c0 c1 a)=true:=by
 rcases b with rfl | rfl<;>rcases c with rfl | rfl<;>rcases h2 with rfl | rfl<;>kernel_rfl
theorem ro3{c0 c1 a b c:Nat}(d:c0=1\/c0=2)(e:c1=1\/c1=2)(h2:a=1\/a=2)(f:b=1\/b=2)(g:c=1\/c=2):Qba [nmS 0,nmS 1,nmS 2] (pt3 c0 c1 a) (se3 c0 c1 a b c (hat c0) (hat c1) (hat a) (hat b) (hat c)) (li3 c0 c1 a b c)=true:=by
 rcases d with rfl | rfl<;>rcases e with rfl | rfl<;>rcases h2 with rfl | rfl<;>rcases f with rfl | rfl<;>rcases g with rfl | rfl<;>kernel_rfl
theorem Q4Y{St Pt L L' Li:LL}(h:DW St.length L L')(h2:St.length<=100):Qba St Pt L Li=Qba St Pt L' Li:=by
 unfold Qba;rw[Qdt h rfl h2]
theorem Qkm{c0 c1 a:Nat}{b c d:Y Nv}(e:c0=1\/c0=2)(f:c1=1\/c1=2)(h2:a=1\/a=2)(n0:H6 b)(n1:H6 c)(n2:H6 d)(g:b.length=c0)(e1:c.length=c1)(e2:d.length=a) :
  Qba [nmS 0,nmS 1] (pt2 c0 c1) (se2 c0 c1 a b c d) (li2 c0 c1 a)=true:=by
 grind[ro2,Q4Y,sr2]
theorem Qkc{c0 c1 a b c:Nat}{d e f g h:Y Nv}(i:c0=1\/c0=2)(j:c1=1\/c1=2)(h2:a=1\/a=2)(k:b=1\/b=2)(l:c=1\/c=2)(n0:H6 d)(n1:H6 e)(n2:H6 f)(m:H6 g)(n:H6 h)(o:d.length=c0)(e1:e.length=c1)(e2:f.length=a)(p:g.length=b)(q:h.length=c) :
  Qba [nmS 0,nmS 1,nmS 2] (pt3 c0 c1 a) (se3 c0 c1 a b c d e f g h) (li3 c0 c1 a b c)=true:=by
 grind[ro3,Q4Y,sr3]
def Qej(St Pt L d s:LL):oP Int:=
 YN 400 L s (some 4) (λ_ _=>VO 400 s (some 5) (λ_ _=>YK 400 St Pt L d s (some 11) (λ_ _=>some 0) 400 (1:Int)) 400 (0:Int)) 400 (0:Int)
def Qhw(N:Nat)(Li s:LL):Bool:=Q8C (Qej [] [] (List.replicate N []) Li s)
section
variable{R:Type} {n:Nat} {a b a' b' L L' d s:LL} (h:L.length=L'.length)
include h
theorem Qg4{k0:oP R}{k1:Int->Bool->oP R}:∀(m:Nat) (i:Int),YN n L s k0 k1 m i=YN n L' s k0 k1 m i
 |0,_=>rfl
 |m+1,i=>by
  unfold YN;simp only[h,Qg4 m]
omit h in
theorem QjO{x y z t:Int}{K:D->D->D->D->Bool->oP R}:JS n a b L d x y z t K=JS n a' b' L' d x y z t K:=rfl
omit h in
theorem Qh6{k0:oP R}{k1:Int->Bool->oP R}:∀(m:Nat) (i:Int),YK n a b L d s k0 k1 m i=YK n a' b' L' d s k0 k1 m i
 |0,_=>rfl
 |m+1,i=>by
  unfold YK;simp only[QjO (a:=a) (b:=b) (L:=L) (a':=a') (b':=b') (L':=L'),Qh6 m]
end
theorem Q4Z{St Pt Se Li s:LL}{N:Nat}(aa:Qba St Pt Se Li=true)(hN:Se.length=N)(h2:2<=s.length)(c:s.length<=24)(hr:Qhw N Li s=true):VW 400 St Pt Se Li s 0 (some:Int->oP Int)=some 0:=by
 have hL:Se.length=(List.replicate N ([]:Y D)).length:=by simp[hN]
 unfold VW;rw[VT aa,Qh,Qq Q1,Qq (by grind),Qq (by grind[Qo,decide,List.length])];simp only[Qg4 hL,Qh6 (a:=St) (b:=Pt) (L:=Se) (a':=[]) (b':=[]) (L':=List.replicate N [])];exact VT hr
def Qfg(Li:LL)(r r':Y D):oP Int:=match r,r' with
 |[.int _ x,.int _ d],[.int _ y,.int _ e]=>gb true (bif (d == (1:Int))then Wn 400 Li ((List.length Li:Nat):Int) x (0:Int) (λ_ _ w=>some w) 400 (0:Int) []else Wn 400 Li ((List.length Li:Nat):Int) x (1:Int) (λ_ _ w=>some w) 400 (0:Int) []) [] λa=>
  ZF 400 a ((List.length a:Nat):Int) y e some (λ_ _=>some (-1)) 400 (0:Int)
 |_,_=>none
def ptR(St Pt Se Li:LL)(r r':Y D):oP Int:=match r,r' with
 |[.int _ x,.int _ d],[.int _ y,.int _ e]=>match JS 400 St Pt Se Li x d y e Tu5 with
  |some (_,_,.int .i64 q,_,true)=>some q
  |_=>none
 |_,_=>none
def pv:oP Int->Int
 |some p=>p
 |none => -1
def Q0s(N NP:Nat)(Li:LL):Nat->LL->Bool
 |k,r::r'::t=>match Qfg Li r r',ptR [] [] (List.replicate N []) Li r r' with
  |some p,some q=>(p == q)&&(decide (-1<=p)&&(decide (p<NP)&&Q0s N NP Li (bif decide (p<0)then k+1 else k+2) (r'::t)))
  |_,_=>false
 |k,_=>Nat.ble k 5
def QdN(N NP:Nat)(Li s:LL):Bool:=Qhw N Li s&&Q0s N NP Li 0 s
def Q56(N NP:Nat)(Li:LL)(s u k c k' c':Nat):Bool:=
 (ups k c).all λx=>(ups k' c').all λy=>QdN N NP Li (KK s u x y true)&&QdN N NP Li (KK s u x y false)
theorem Qiw{c0 c1 a:Nat}(b:c0=1\/c0=2)(c:c1=1\/c1=2)(h2:a=1\/a=2):Q56 (c0+c1+a) (pt2 c0 c1).length (li2 c0 c1 a) (c0+c1) a 0 c0 c0 c1=true:=by
 rcases b with rfl | rfl<;>rcases c with rfl | rfl<;>rcases h2 with rfl | rfl<;>kernel_rfl
theorem Qi7{c0 c1 a b c:Nat}(d:c0=1\/c0=2)(e:c1=1\/c1=2)(h2:a=1\/a=2)(f:b=1\/b=2)(g:c=1\/c=2) :
  (Q56 (c0+c1+a+b+c) (pt3 c0 c1 a).length (li3 c0 c1 a b c) (c0+c1+a) b 0 c0 c0 c1&&Q56 (c0+c1+a+b+c) (pt3 c0 c1 a).length (li3 c0 c1 a b c) (c0+c1+a+b) c c0 c1 (c0+c1) a)=true:=by
 rcases d with rfl | rfl<;>rcases e with rfl | rfl<;>rcases h2 with rfl | rfl<;>rcases f with rfl | rfl<;>rcases g with rfl | rfl<;>kernel_rfl
theorem Qds{St Pt Se Li:LL}(aa:PA 400 St Pt Se Li=true){x d y e:Int}(a:0<=x)(b:x<Se.length)(hd:d=0\/d=1):Zw 400 St Pt Se Li x d y e (some:Int->oP Int)=Qfg Li [Ql x,Ql d] [Ql y,Ql e]:=by
 have hc:ZA 400 St Pt Se Li (some:Int->oP Int)=some 0:=by grind[ZA]
 have hh:Mx 400 St Pt Se Li x d (some:Bool->oP Bool)=some true:=by
  grind[Mx,Qh,decide]
 simp_all [Zw,LO,Qfg,Qh]
structure Geo where
 N:Nat
 St:LL
 Pt:LL
 Se:LL
 Li:LL
 Tr:LL
 Bt:LL
 k:Nat->Nat
 c:Nat->Nat
 s:Nat->Nat
 u:Nat->Nat
structure Geo.OK(G:Geo):Prop where
 hN:G.N=2\/G.N=3
 st:G.St.length=G.N
 lay:PA 400 G.St G.Pt G.Se G.Li=true
 ref:Qba G.St G.Pt G.Se G.Li=true
 trl:G.Tr.length=G.N
 tr:∀i,i<G.N->G.Tr[i]? = some [D.sl 1 (W0 (ups (G.k i) (G.c i)))]
 ct:∀i,i<G.N->G.c i=1\/G.c i=2
 k6:∀i,i<G.N->G.k i+G.c i<=6
 btl:G.Bt.length+1=G.N
 bt:∀g,g+1<G.N->G.Bt[g]? = some [D.sl 1 (W0 (ups (G.s g) (G.u g)))]
 ut:∀g,g+1<G.N->G.u g=1\/G.u g=2
 sec:∀i,i<G.N->∀x,x<G.c i->∃nm a b d,Qi G.Se ((G.k i+x:Nat):Int)=some [D.str nm,Ql a,Ql b,Ql d,Ql i]/\SecN a b d
 gap:∀g,g+1<G.N->∀x,x<G.u g->∃nm a b d e,Qi G.Se ((G.s g+x:Nat):Int)=some [D.str nm,Ql a,Ql b,Ql d,Ql e]/\SecN a b d
 rts:∀g,g+1<G.N->QcY G.Se.length G.Li (G.s g) (G.u g) (G.k g) (G.c g) (G.k (g+1)) (G.c (g+1))=true
 rt6:∀g,g+1<G.N->Q56 G.Se.length G.Pt.length G.Li (G.s g) (G.u g) (G.k g) (G.c g) (G.k (g+1)) (G.c (g+1))=true
theorem Q6N{f:Nat->Nv->Y D}:∀{c:Nat} {x:Y Nv} {i:Nat},H6 x->x.length=c->i<c->∃j y,(YH f c x)[i]? = some (f j y)/\Num y.1 y.2.1 y.2.2
 |c+1,a::x,0,h,_,_=>⟨c+1,a,rfl,h.1⟩
 |c+1,a::x,i+1,h,e,hi=>by
  obtain⟨j,y,b,h2⟩:=Q6N (f:=f) h.2 (by simpa using e) (show i<c by omega);exact⟨j,y,by simpa[YH]using b,h2⟩
theorem QcJ{f:Nat->Nv->Y D}{A B:LL}{c k i:Nat}{x:Y Nv}(hA:A.length=k)(h:H6 x)(e:x.length=c)(hi:i<c):∃j y,Qi ((A++YH f c x)++B) ((k+i:Nat):Int)=some (f j y)/\Num y.1 y.2.1 y.2.2:=by
 obtain⟨j,y,a,h2⟩:=Q6N (f:=f) h e hi
 grind[Qi]
theorem Qhq{A B L:LL}{c k i x:Nat}{X:Y Nv}(hL:L=(A++YH (secT i) c X)++B)(hA:A.length=k)(h:H6 X)(e:X.length=c)(hi:x<c) :
  ∃nm a b d,Qi L ((k+x:Nat):Int)=some [D.str nm,Ql a,Ql b,Ql d,Ql i]/\SecN a b d:=by
 subst hL;obtain⟨j,y,g,h2⟩:=QcJ (f:=secT i) (B:=B) hA h e hi;exact⟨_,_,_,_,g,by have:=h2.a0;omega,by have:=h2.a1;omega,h2.b0,h2.b1,h2.c0,h2.c1⟩
theorem QiB{A B L:LL}{c k i x:Nat}{X:Y Nv}(hL:L=(A++YH (secL i) c X)++B)(hA:A.length=k)(h:H6 X)(e:X.length=c)(hi:x<c) :
  ∃nm a b d e,Qi L ((k+x:Nat):Int)=some [D.str nm,Ql a,Ql b,Ql d,Ql e]/\SecN a b d:=by
 subst hL;obtain⟨j,y,g,h2⟩:=QcJ (f:=secL i) (B:=B) hA h e hi;exact⟨_,_,_,_,_,g,h2.a0,by have:=h2.a1;omega,h2.b0,h2.b1,h2.c0,h2.c1⟩
def QfG(c0 c1 a:Nat)(b d e:Y Nv):Geo where
 N:=2
 St:=[nmS 0,nmS 1]
 Pt:=pt2 c0 c1
 Se:=se2 c0 c1 a b d e
 Li:=li2 c0 c1 a
 Tr:=[[D.sl 1 (W0 (ups 0 c0))],[D.sl 1 (W0 (ups c0 c1))]]
 Bt:=[[D.sl 1 (W0 (ups (c0+c1) a))]]
 k:=λ| 0=>0 | _=>c0
 c:=λ| 0=>c0 | _=>c1
 s:=λ_=>c0+c1
 u:=λ_=>a
theorem Qe7{c0 c1 a:Nat}{b c d:Y Nv}(f:c0=1\/c0=2)(h:c1=1\/c1=2)(h2:a=1\/a=2)(n0:H6 b)(n1:H6 c)(n2:H6 d)(e:b.length=c0)(e1:c.length=c1)(e2:d.length=a):(QfG c0 c1 a b c d).OK where
 hN:=.inl rfl
 st:=rfl
 lay:=QjW f h h2 n0 n1 n2 e e1 e2
 ref:=Qkm f h h2 n0 n1 n2 e e1 e2
 trl:=rfl
 tr:=λi hi=>match i,hi with
  |0,_=>rfl
  |1,_=>rfl
 ct:=λi hi=>match i,hi with
  |0,_=>f
  |1,_=>h
 k6:=λi hi=>match i,hi with
  |0,_=>by show 0+c0<=6;omega
  |1,_=>by show c0+c1<=6;omega
 btl:=rfl
 bt:=λg hg=>match g,hg with
  |0,_=>rfl
 ut:=λg _=>h2
 sec:=λi hi=>match i,hi with
  |0,_=>λx hx=>Qhq (A:=[]) (i:=0) (B:=YH (secT 1) c1 c++YH (secL 0) a d) (by simp[QfG,se2]) rfl n0 e hx
  |1,_=>λx hx=>Qhq (A:=YH (secT 0) c0 b) (i:=1) (B:=YH (secL 0) a d) rfl (Xx e) n1 e1 hx
 gap:=λg hg x hx=>QiB (A:=YH (secT 0) c0 b++YH (secT 1) c1 c) (i:=0) (B:=[]) (by simp[QfG,se2]) (by grind[QfG,Xx]) n2 e2 hx
 rts:=λg hg=>match g,hg with
  |0,_=>by
   have hl:(se2 c0 c1 a b c d).length=c0+c1+a:=by grind[se2,Xx]
   show QcY (se2 c0 c1 a b c d).length (li2 c0 c1 a) (c0+c1) a 0 c0 c0 c1=true
   grind[Qk5]
 rt6:=λg hg=>match g,hg with
  |0,_=>by
   have hl:(se2 c0 c1 a b c d).length=c0+c1+a:=by simp[se2,Xx e,Xx e1,Xx e2];omega
   show Q56 (se2 c0 c1 a b c d).length (pt2 c0 c1).length (li2 c0 c1 a) (c0+c1) a 0 c0 c0 c1=true
   grind[Qiw]
def Qbb(c0 c1 a b d:Nat)(e f g h i:Y Nv):Geo where
 N:=3
 St:=[nmS 0,nmS 1,nmS 2]
 Pt:=pt3 c0 c1 a
 Se:=se3 c0 c1 a b d e f g h i
 Li:=li3 c0 c1 a b d
 Tr:=[[D.sl 1 (W0 (ups 0 c0))],[D.sl 1 (W0 (ups c0 c1))],[D.sl 1 (W0 (ups (c0+c1) a))]]
 Bt:=[[D.sl 1 (W0 (ups (c0+c1+a) b))],[D.sl 1 (W0 (ups (c0+c1+a+b) d))]]
 k:=λ| 0=>0 | 1=>c0 | _=>c0+c1
 c:=λ| 0=>c0 | 1=>c1 | _=>a
 s:=λ| 0=>c0+c1+a | _=>c0+c1+a+b
 u:=λ| 0=>b | _=>d
theorem Qf6{c0 c1 a b c:Nat}{d e f h j:Y Nv}(l:c0=1\/c0=2)(m:c1=1\/c1=2)(h2:a=1\/a=2)(n:b=1\/b=2)(o:c=1\/c=2)(n0:H6 d)(n1:H6 e)(n2:H6 f)(s:H6 h)(t:H6 j)(p:d.length=c0)(e1:e.length=c1)(e2:f.length=a)(q:h.length=b)(r:j.length=c):(Qbb c0 c1 a b c d e f h j).OK where
 hN:=.inr rfl
 st:=rfl
 lay:=Qkj l m h2 n o n0 n1 n2 s t p e1 e2 q r
 ref:=Qkc l m h2 n o n0 n1 n2 s t p e1 e2 q r
 trl:=rfl
 tr:=λi hi=>match i,hi with
  |0,_=>rfl
  |1,_=>rfl
  |2,_=>rfl
 ct:=λi hi=>match i,hi with
  |0,_=>l
  |1,_=>m
  |2,_=>h2
 k6:=λi hi=>match i,hi with
  |0,_=>by show 0+c0<=6;omega
  |1,_=>by show c0+c1<=6;omega
  |2,_=>by show c0+c1+a<=6;omega
 btl:=rfl
 bt:=λg hg=>match g,hg with
  |0,_=>rfl
  |1,_=>rfl
 ut:=λg hg=>match g,hg with
  |0,_=>n
  |1,_=>o
 sec:=λi hi=>match i,hi with
  |0,_=>λx hx=>Qhq (A:=[]) (i:=0) (B:=YH (secT 1) c1 e++(YH (secT 2) a f++(YH (secL 0) b h++YH (secL 1) c j))) (by simp[Qbb,se3]) rfl n0 p hx
  |1,_=>λx hx=>Qhq (A:=YH (secT 0) c0 d) (i:=1) (B:=YH (secT 2) a f++(YH (secL 0) b h++YH (secL 1) c j)) (by simp[Qbb,se3]) (Xx p) n1 e1 hx
  |2,_=>λx hx=>Qhq (A:=YH (secT 0) c0 d++YH (secT 1) c1 e) (i:=2) (B:=YH (secL 0) b h++YH (secL 1) c j) (by simp[Qbb,se3]) (by grind[Qbb,Xx]) n2 e2 hx
 gap:=λg hg=>match g,hg with
  |0,_=>λx hx=>QiB (A:=YH (secT 0) c0 d++YH (secT 1) c1 e++YH (secT 2) a f) (i:=0) (B:=YH (secL 1) c j) (by simp[Qbb,se3]) (by grind[Qbb,Xx]) s q hx
  |1,_=>λx hx=>QiB (A:=YH (secT 0) c0 d++YH (secT 1) c1 e++YH (secT 2) a f++YH (secL 0) b h) (i:=1) (B:=[]) (by simp[Qbb,se3]) (by grind[Qbb,Xx]) t r hx
 rts:=λg hg=>by
  have hl:(se3 c0 c1 a b c d e f h j).length=c0+c1+a+b+c:=by grind[se3,Xx]
  have k:=Qkb l m h2 n o;simp only[Qqz]at k
  match g,hg with
  |0,_=>
   show QcY (se3 c0 c1 a b c d e f h j).length (li3 c0 c1 a b c) (c0+c1+a) b 0 c0 c0 c1=true
   simp_all
  |1,_=>
   show QcY (se3 c0 c1 a b c d e f h j).length (li3 c0 c1 a b c) (c0+c1+a+b) c c0 c1 (c0+c1) a=true;rw[hl];exact k.2
 rt6:=λg hg=>by
  have hl:(se3 c0 c1 a b c d e f h j).length=c0+c1+a+b+c:=by simp[se3,Xx p,Xx e1,Xx e2,Xx q,Xx r];omega
  have k:=Qi7 l m h2 n o;simp only[Qqz]at k
  match g,hg with
  |0,_=>
   show Q56 (se3 c0 c1 a b c d e f h j).length (pt3 c0 c1 a).length (li3 c0 c1 a b c) (c0+c1+a) b 0 c0 c0 c1=true;rw[hl];exact k.1
  |1,_=>
   show Q56 (se3 c0 c1 a b c d e f h j).length (pt3 c0 c1 a).length (li3 c0 c1 a b c) (c0+c1+a+b) c c0 c1 (c0+c1) a=true;rw[hl];exact k.2
theorem Qk0{R:Type}{l:Y Int}(hl:l.length<=9223372036854775807){P:R->Prop}{i:Nat}(hi:i<=l.length){K:LL->LL->LL->LL->LL->LL->LL->Int->oP R}(H:∀(G:Geo) (j:Nat),G.OK->j<=l.length->K G.St G.Pt G.Se G.Li G.Tr G.Bt [] (j:Int)∈P):Q2V 400 (encI l) (i:Int) K∈P:=by
 refine Vv hl hi Q1 Q1 λv j f g hj=>?_
 rcases two f g with rfl | rfl
 ·exact Qip hl (m:=397) hj λc0 c1 a b c d j a0 a1 a2 n0 n1 n2 e e1 e2 hj=>H (QfG c0 c1 a b c d) j (Qe7 a0 a1 a2 n0 n1 n2 e e1 e2) hj
 ·exact Qis hl (m:=396) hj λc0 c1 h a k b c n d o j a0 a1 a2 p q n0 n1 n2 r s e e1 e2 t u hj=>H (Qbb c0 c1 h a k b c n d o) j (Qf6 a0 a1 a2 p q n0 n1 n2 r s e e1 e2 t u) hj
section
variable{R:Type}
theorem Q1Q{T:LL}{g:Nat}{l:LL}(h:T[g]? = some [D.sl 1 l])(K:LL->oP R) :
  gb true (inB (List.length T) (g:Int)) () (λ_=>gb true (T[(Int.toNat (g:Int))]?) [] λa=>gb true (a[0]?) oF λc3=>gb true (pSl 1 c3) [] λb=>K b)=K l:=by
 have aa:g<T.length:=(Qqe.1 h).1;rw[XQ I I,Qh,Qq8,h];rfl
theorem QhU{k c a:Nat}(hc:c=1\/c=2)(ha:a<2)(K:Int->oP R) :
  gb true (nz ((List.length (W0 (ups k c)):Nat):Int)) () (λ_=>gb true (Qi (W0 (ups k c)) (Int.tmod (a:Int) ((List.length (W0 (ups k c)):Nat):Int))) [] λb=>gb true (b[0]?) oF λd=>gb true (pIw d) 0 λe=>K e)=K ((k+a % c:Nat):Int):=by
 obtain rfl | rfl:a=0\/a=1:=I
 ·rcases hc with rfl | rfl<;>rfl
 ·rcases hc with rfl | rfl
  ·rw[show k+1 % 1=k from rfl,show List.length (W0 (ups k 1))=1 from rfl,show Int.tmod ((1:Nat):Int) ((1:Nat):Int)=0 by decide];rfl
  ·rfl
theorem Qc7{s u:Nat}{x:Int}(hu:u=1\/u=2){k0:Int->Bool->LL->oP R} :
  ZI 400 (W0 (ups s u)) ((List.length (W0 (ups s u)):Nat):Int) k0 400 (0:Int) [[D.int .i64 x,D.int .i64 (0:Int)]]
   = k0 (u:Int) false ([Ql x,Ql 0]::((ups s u).map λk=>[Ql (k:Nat),Ql 0])):=by
 rcases hu with rfl | rfl<;>rfl
theorem Qc9{s u:Nat}{x:Int}(hu:u=1\/u=2){k0:Int->Bool->LL->oP R} :
  ZP 400 (W0 (ups s u)) k0 400 (wJ (((List.length (W0 (ups s u)):Nat):Int)-(1:Int))) [[D.int .i64 x,D.int .i64 (1:Int)]]
   = k0 (-1) false ([Ql x,Ql 1]::((ups s u).reverse.map λk=>[Ql (k:Nat),Ql 1])):=by
 rcases hu with rfl | rfl<;>rfl
theorem Q9R{Tr Bt:LL}{g k c k' c' s u a b:Nat}{up:Bool}(hg:g<8)(hT:Tr[g]? = some [D.sl 1 (W0 (ups k c))])(aa:Tr[g+1]? = some [D.sl 1 (W0 (ups k' c'))])(hB:Bt[g]? = some [D.sl 1 (W0 (ups s u))])(hc:c=1\/c=2)(ac:c'=1\/c'=2)(hu:u=1\/u=2)(ha:a<2)(hb:b<2)(K:LL->Int->oP R) :
  YF 400 Tr Bt (g:Int) (a:Int) (b:Int) up K=K (KK s u (k+a % c) (k'+b % c') up) 0:=by
 have ai:wJ ((g:Int)+1)=((g+1:Nat):Int):=by grind[Qo]
 have hl:(ups s u).length=u:=by rcases hu with rfl | rfl<;>rfl
 have d:u<=2:=I
 unfold YF;rw[Q1Q hB];cases up
 ·rw[Qq rfl];rw[ai,Q1Q aa,Q1Q aa,QhU ac hb,XI Q2,Qh];rw[Qc9 hu,Q1Q hT,Q1Q hT,QhU hc ha,XI (by simp[hl];omega),Qh];rfl
 ·rw[Xh rfl,Q1Q hT,Q1Q hT,QhU hc ha,XI Q2,Qh];rw[Qc7 hu,ai,Q1Q aa,Q1Q aa,QhU ac hb,XI (by simp[hl];omega),Qh];rfl
end
def Sta(G:Geo)(x:Int):Prop:=∃nm a b d i,Qi G.Se x=some [D.str nm,Ql a,Ql b,Ql d,Ql i]/\0<=i/\x<6/\2<=a
structure RtOK(G:Geo)(s:LL)(x y:Int):Prop where
 l2:2<=s.length
 l24:s.length<=24
 rt:rtB G.Se.length G.Li s=true
 rt6:Qhw G.Se.length G.Li s=true
 hops:Q0s G.Se.length G.Pt.length G.Li 0 s=true
 shp:∃g x y up,g+1<G.N/\s=KK (G.s g) (G.u g) x y up/\x∈ups (G.k g) (G.c g)/\y∈ups (G.k (g+1)) (G.c (g+1))
 st:∀r∈s,Dd G.Se r
 sx:Sta G x
 sy:Sta G y
 fst:∃d,Qi s 0=some [Ql x,Ql d]
 lst:∃d,Qi s ((s.length:Int)-1)=some [Ql y,Ql d]
def Geo.tk(G:Geo)(i a:Nat):Int:=((G.k i+a % G.c i:Nat):Int)
theorem Q5X{x:Nat}:∀{s u:Nat},x∈ups s u->∃j,j<u/\x=s+j
 |s,0,h=>by simp[ups]at h
 |s,u+1,h=>by
  simp only[ups,List.mem_cons]at h;rcases h with rfl | h
  ·exact⟨0,I,rfl⟩
  ·obtain⟨j,a,h2⟩:=Q5X h;exact⟨j+1,I,I⟩
theorem EF{c a k:Nat}(hc:c=1\/c=2):(k+a % c)∈ups k c:=by
 rcases hc with rfl | rfl
 ·simp[ups,Nat.mod_one]
 grind[Nat.mod_lt,ups]
theorem Geo.OK.trk{G:Geo}(hG:G.OK){i a:Nat}(hi:i<G.N):(∃nm x b d,Qi G.Se (G.tk i a)=some [D.str nm,Ql x,Ql b,Ql d,Ql i]/\SecN x b d):=
 hG.sec i hi (a % G.c i) (Nat.mod_lt _ (by rcases hG.ct i hi with h | h<;>omega))
theorem Q5w{P:Y D->Prop}{s u x y:Nat}{up:Bool}(hx:∀d,(d=0\/d=1)->P [Ql x,Ql d])(hy:∀d,(d=0\/d=1)->P [Ql y,Ql d])(hs:∀j,j<u->∀d,(d=0\/d=1)->P [Ql ((s+j:Nat):Int),Ql d]):∀r∈KK s u x y up,P r:=by
 intro r hr;unfold KK at hr;cases up
 ·simp only[Qq9,List.cons_append,List.mem_cons,Qqt,List.mem_map,List.mem_reverse,List.not_mem_nil,or_false]at hr;rcases hr with rfl | ⟨k,hk,rfl⟩ | rfl
  ·simp_all
  ·obtain⟨j,a,rfl⟩:=Q5X hk
   simp_all
  simp_all
 ·simp only[Qqa,List.cons_append,List.mem_cons,Qqt,List.mem_map,List.not_mem_nil,or_false]at hr;rcases hr with rfl | ⟨k,hk,rfl⟩ | rfl
  ·simp_all
  ·obtain⟨j,a,rfl⟩:=Q5X hk
   simp_all
  simp_all
theorem QgZ{R:Type}{G:Geo}(hG:G.OK){g a b:Nat}{up:Bool}(hg:g+1<G.N)(ha:a<2)(hb:b<2) :
  ∃s,RtOK G s (bif up then G.tk g a else G.tk (g+1) b) (bif up then G.tk (g+1) b else G.tk g a)/\∀K:LL->Int->oP R,YF 400 G.Tr G.Bt (g:Int) (a:Int) (b:Int) up K=K s 0:=by
 have hN:=hG.hN;have hc:=hG.ct g I;have am:=hG.ct (g+1) hg;have hu:=hG.ut g hg;obtain⟨n1,h,i,k,e1,c⟩:=hG.trk (a:=a) (show g<G.N by omega);obtain⟨n2,l,m,n,e2,e⟩:=hG.trk (a:=b) hg;have ac:=hG.rts g hg;unfold QcY at ac;have ac:=List.all_eq_true.1 (List.all_eq_true.1 ac _ (EF hc (a:=a))) _ (EF am (a:=b));simp only[Qqz]at ac;have aa:=hG.rt6 g hg;unfold Q56 at aa;have aa:=List.all_eq_true.1 (List.all_eq_true.1 aa _ (EF hc (a:=a))) _ (EF am (a:=b));simp only[QdN,Qqz]at aa;refine⟨KK (G.s g) (G.u g) (G.k g+a % G.c g) (G.k (g+1)+b % G.c (g+1)) up,?_,λK=>Q9R I (hG.tr g I) (hG.tr (g+1) hg) (hG.bt g hg) hc am hu ha hb K⟩;have hst:∀r∈KK (G.s g) (G.u g) (G.k g+a % G.c g) (G.k (g+1)+b % G.c (g+1)) up,Dd G.Se r:=by
  refine Q5w (λd hd=>⟨_,_,_,_,_,_,_,rfl,e1,c,hd⟩) (λd hd=>⟨_,_,_,_,_,_,_,rfl,e2,e,hd⟩) λj hj d hd=>?_
  obtain⟨o,p,q,t,w3,f,g1⟩:=hG.gap g hg j hj;exact⟨_,_,_,_,_,_,_,rfl,f,g1,hd⟩
 have aj:∃g' x y an,g'+1<G.N/\KK (G.s g) (G.u g) (G.k g+a % G.c g) (G.k (g+1)+b % G.c (g+1)) up=KK (G.s g') (G.u g') x y an/\x∈ups (G.k g') (G.c g')/\y∈ups (G.k (g'+1)) (G.c (g'+1)):=
  ⟨g,_,_,up,hg,rfl,EF hc,EF am⟩
 have v:=hG.k6 g I;have z:=hG.k6 (g+1) hg;have r1:=Nat.mod_lt a (show 0<G.c g by omega);have r2:=Nat.mod_lt b (show 0<G.c (g+1) by omega);have s1:Sta G (G.tk g a):=⟨_,_,_,_,_,e1,I,by unfold Geo.tk;omega,c.a0⟩;have s2:Sta G (G.tk (g+1) b):=⟨_,_,_,_,_,e2,I,by unfold Geo.tk;omega,e.a0⟩;revert hst ac aa aj;generalize G.s g=s;generalize G.u g=u at hu;intro ac aa hst aj;have hl:(KK s u (G.k g+a % G.c g) (G.k (g+1)+b % G.c (g+1)) up).length=u+2:=by
  rcases hu with rfl | rfl<;>cases up<;>rfl
 cases up
 ·exact⟨I,I,ac.2,aa.2.1,aa.2.2,aj,hst,s2,s1,by rcases hu with rfl | rfl<;>exact⟨1,rfl⟩,by rw[hl];rcases hu with rfl | rfl<;>exact⟨1,rfl⟩⟩
 ·exact⟨I,I,ac.1,aa.1.1,aa.1.2,aj,hst,s1,s2,by rcases hu with rfl | rfl<;>exact⟨0,rfl⟩,by rw[hl];rcases hu with rfl | rfl<;>exact⟨0,rfl⟩⟩
def PC(G:Geo)(Ro:LL)(row:Y D)(x y:Int)(last:Bool):Prop:=
 ∃(rt:Nat) (ex mn mx:Int) (s:LL),row=[Ql rt,Ql ex,Ql mn,Ql mx]/\Ro[rt]? = some [D.sl 2 s,Ql 0]/\RtOK G s x y/\(0<=ex/\ex<3)/\(0<=mn/\mn<=mx/\mx<=mn+3/\mn<=10)/\(last=true->mn=0/\mx=0)
def nmN(k:Nat):Y UInt8:=bs [78]++[UInt8.ofNat (48+k)]
def Q3X(G:Geo)(Ro:LL)(rides:LL):Prop:=
 (∃r x y,rides=[r]/\PC G Ro r x y true)\/(∃r r' x y z,rides=[r,r']/\PC G Ro r x y false/\PC G Ro r' y z true)
def Qbj(G:Geo)(Ro:LL)(k:Nat)(row:Y D):Prop:=∃(w:Int) (rides:LL),row=[D.str (nmN k),Ql 0,Ql w,D.sl 4 rides]/\0<=w/\w<4/\Q3X G Ro rides
structure GoodP(G:Geo)(Ro Ls:LL):Prop where
 ro:∀row∈Ro,∃s x y,row=[D.sl 2 s,Ql 0]/\RtOK G s x y
 ls:∀k row,Ls[k]? = some row->Qbj G Ro k row
theorem PC.mono{G:Geo}{Ro t:LL}{row:Y D}{x y:Int}{b:Bool}(h:PC G Ro row x y b):PC G (Ro++t) row x y b:=by
 obtain⟨rt,ex,mn,mx,s,a,h2,c⟩:=h;refine⟨rt,ex,mn,mx,s,a,?_,c⟩
 grind
theorem Q3X.mono{G:Geo}{Ro t rides:LL}(h:Q3X G Ro rides):Q3X G (Ro++t) rides:=by
 rcases h with⟨r,x,y,e,h⟩|⟨r,r',x,y,z,e,h,h'⟩
 ·exact .inl ⟨r,x,y,e,h.mono⟩
 ·exact .inr ⟨r,r',x,y,z,e,h.mono,h'.mono⟩
theorem Qbj.mono{G:Geo}{Ro t:LL}{k:Nat}{row:Y D}(h:Qbj G Ro k row):Qbj G (Ro++t) k row:=by
 obtain⟨w,rides,a,h2,b,c⟩:=h;exact⟨w,rides,a,h2,b,c.mono⟩
section
variable{R:Type} {l:Y Int} (hl:l.length<=9223372036854775807) {P:R->Prop}
include hl
def atL(At:Nat->Nat):LL:=[[Ql (At 0)],[Ql (At 1)],[Ql (At 2)]]
theorem Qk2{i:Nat}(hi:i<=l.length){k0:Int->Bool->LL->Int->oP R}(H:∀(At:Nat->Nat) (j:Nat),(∀i,At i<2)->j<=l.length->k0 3 false (atL At) (j:Int)∈P) :
  Wc 400 (encI l) k0 400 (0:Int) [[D.int .i64 (0:Int)],[D.int .i64 (0:Int)],[D.int .i64 (0:Int)]] (i:Int)∈P:=by
 refine Vv hl hi Q1 Q1 λa j a0 b0 hj=>?_
 refine Vv hl hj Q1 Q1 λb j a1 b1 hj=>?_
 refine Vv hl hj Q1 Q1 λc j a2 b2 hj=>?_
 obtain⟨n0,rfl⟩:=Qqp a0;obtain⟨n1,rfl⟩:=Qqp a1;obtain⟨n2,rfl⟩:=Qqp a2;exact H (λ| 0=>n0 | 1=>n1 | _=>n2) j (λ| 0=>by grind | 1=>by grind | _+2=>by grind) hj
end
theorem atA{R:Type}{At:Nat->Nat}{g:Nat}(hg:g<3)(K:Int->oP R) :
  gb true (inB 3 (g:Int)) () (λ_=>gb true ((atL At)[(Int.toNat (g:Int))]?) [] λr=>gb true (r[0]?) oF λc=>gb true (pIw c) 0 λi=>K i)=K (At g):=by
 obtain rfl | rfl | rfl:g=0\/g=1\/g=2:=I
 all_goals rfl
section
variable{R:Type} {l:Y Int} (hl:l.length<=9223372036854775807) {P:R->Prop} {G:Geo} (hG:G.OK)
include hl hG
theorem Qdr{up:Bool}{aa h g m:Nat}{acc Ro:LL}{At:Nat->Nat}(ai:∀i,At i<2)(hm:aa<=2)(hh:h<aa)(hg:g=bif up then h else aa-1-h)(hN:aa<G.N)(hR:Ro.length<=100)(ha:acc.length<=10){i:Nat}(hi:i<=l.length){k0:Int->Bool->LL->LL->Int->oP R}(H:∀(s:LL) (ex mn mx:Int) (j:Nat),RtOK G s (bif up then G.tk g (At g)else G.tk (g+1) (At (g+1))) (bif up then G.tk (g+1) (At (g+1))else G.tk g (At g))->0<=ex/\ex<3->(0<=mn/\mn<=mx/\mx<=mn+3/\mn<=10)->(h+1=aa->mn=0/\mx=0)->j<=l.length ->
   QS 400 up (aa:Int) (atL At) G.Tr G.Bt (encI l) k0 m ((h+1:Nat):Int) (acc++[[Ql (Ro.length:Nat),Ql ex,Ql mn,Ql mx]]) (Ro++[[D.sl 2 s,Ql 0]]) (j:Int)∈P) :
  QS 400 up (aa:Int) (atL At) G.Tr G.Bt (encI l) k0 (m+1) (h:Int) acc Ro (i:Int)∈P:=by
 have an:=hG.hN;have ar:g<aa:=by
  rw[hg];cases up
  ·show aa-1-h<aa;omega
  ·exact hh
 have ak:g+1<G.N:=I
 obtain⟨s,hs,e⟩:=QgZ (R:=LL×Int) hG (up:=up) ak (ai g) (ai (g+1));have d:wJ ((h:Int)+1)=((h+1:Nat):Int):=by rw[Qo I I];omega
 have f:wJ ((g:Int)+1)=((g+1:Nat):Int):=by rw[Qo I I];omega
 have k:up=false->wJ (wJ ((aa:Int)-1)-(h:Int))=(g:Int):=by
  intro hu;rw[Qo (x:=(aa:Int)-1) I I,Qo I I];simp[hu]at hg;omega
 have ac:wJ ((((Ro++[[D.sl 2 s,Ql 0]]).length:Nat):Int)-1)=(Ro.length:Int):=by
  rw[show(Ro++[[D.sl 2 s,Ql 0]]).length=Ro.length+1 by simp,Qo I I];omega
 rw[QS,Xh Q3,d];cases up
 ·rw[Xh (c:=!false) rfl,k rfl,f,atA I,atA I,e,Qh,XI Q3,Qh];refine Vv hl hi Q1 Q1 λex j a b hj=>?_
  dsimp only;rw[ac];by_cases hlast:h+1<aa
  ·rw[Xh Q3];refine Vv hl hj Q1 Q1 λmn j n o hj=>?_
   refine Vv hl hj Q1 Q1 λmx j p q hj=>?_
   rw[XI Q3,Qh];dsimp only;rw[Qo (x:=5+mn) I I,Qo (x:=5+mn+mx) I I];exact H s ex (5+mn) (5+mn+mx) j hs ⟨a,b⟩ ⟨I,I,I,I⟩ (λhx=>absurd hx I) hj
  ·rw[Qq Q3,XI Q3,Qh];exact H s ex 0 0 j hs ⟨a,b⟩ ⟨I,I,I,I⟩ (λhx=>⟨rfl,rfl⟩) hj
 ·have am:g=h:=by simpa using hg
  subst am;rw[Qq (c:=!true) rfl,atA I,atA I,e,Qh,XI Q3,Qh];refine Vv hl hi Q1 Q1 λex j a b hj=>?_
  dsimp only;rw[ac];by_cases hlast:g+1<aa
  ·rw[Xh Q3];refine Vv hl hj Q1 Q1 λmn j n o hj=>?_
   refine Vv hl hj Q1 Q1 λmx j p q hj=>?_
   rw[XI Q3,Qh];dsimp only;rw[Qo (x:=5+mn) I I,Qo (x:=5+mn+mx) I I];exact H s ex (5+mn) (5+mn+mx) j hs ⟨a,b⟩ ⟨I,I,I,I⟩ (λhx=>absurd hx I) hj
  ·rw[Qq Q3,XI Q3,Qh];exact H s ex 0 0 j hs ⟨a,b⟩ ⟨I,I,I,I⟩ (λhx=>⟨rfl,rfl⟩) hj
omit hl hG in
theorem Q7q{n m:Nat}{f:Bool}{b a:Int}{g i j k c d:LL}{e:Int}{k0:Int->Bool->LL->LL->Int->oP R}(h:¬ a<b) :
  QS n f b g i j k k0 (m+1) a c d e=k0 a false c d e:=by
 rw[QS,Qq (by simpa using h)];simp[h]
theorem Qix{up:Bool}{ai:Nat}{Ro Ls:LL}(hm:ai=1\/ai=2)(hN:ai<G.N)(aa:GoodP G Ro Ls)(hR:Ro.length<=20)(hL:Ls.length<6){i:Nat}(hi:i<=l.length){K:Int->LL->LL->oP R}(H:∀(Ro' Ls':LL) (j:Nat),GoodP G Ro' Ls'->Ls'.length=Ls.length+1->Ro'.length<=Ro.length+2->j<=l.length->K (j:Int) Ro' Ls'∈P) :
  UN 400 G.Tr G.Bt (encI l) (i:Int) Ro Ls up (ai:Int) K∈P:=by
 unfold UN;rw[By _ _ Ls.length I Q1,Qh];refine Vv hl hi Q1 Q1 λw j w0 c hj=>?_
 dsimp only;refine Qk2 hl hj λAt j an hj=>?_
 rcases hm with rfl | rfl
 ·refine Qdr hl hG (h:=0) (g:=0) an Q1 Q1 Q4 hN I Q1 hj λs ex mn mx j hs am ak hlast hj=>?_
  rw[Q7q Q1];rw[XI Q3,Qh];refine H _ _ j ⟨λrow hr=>?_,λk row hk=>?_⟩ Q2 Q2 hj
  ·rcases Qqt.1 hr with hr | hr
   ·exact aa.ro row hr
   grind
  ·rcases Nat.lt_or_ge k Ls.length with ac | ac
   ·rw[Qqq ac]at hk;exact(aa.ls k row hk).mono
   ·rw[Qqo ac]at hk;obtain⟨a,rfl⟩:=Qqe.1 hk;simp at a;have b:k=Ls.length:=I
    subst b;refine⟨w,_,by simp[nmN],w0,c,.inl ⟨_,_,_,rfl,Ro.length,ex,mn,mx,s,rfl,by simp,hs,am,ak,λ_=>hlast rfl⟩⟩
 ·obtain⟨g0,d⟩:∃g0,g0=bif up then 0 else 1:=⟨_,rfl⟩
  obtain⟨g1,e⟩:∃g1,g1=bif up then 1 else 0:=⟨_,rfl⟩
  refine Qdr hl hG (h:=0) (g:=g0) an Q1 Q1 (by cases up<;>simpa using d) hN I Q1 hj λs ex mn mx j hs am ak hlast hj=>?_
  refine Qdr hl hG (h:=1) (g:=g1) an Q1 Q1 (by cases up<;>simpa using e) hN Q3 Q2 hj λs' ax ay az j ar au ao aj hj=>?_
  have aw:(bif up then G.tk (g0+1) (At (g0+1))else G.tk g0 (At g0))=(bif up then G.tk g1 (At g1)else G.tk (g1+1) (At (g1+1))):=by
   subst d e;cases up<;>rfl
  rw[aw]at hs;rw[Q7q Q1];rw[XI Q3,Qh];refine H _ _ j ⟨λrow hr=>?_,λk row hk=>?_⟩ Q2 Q2 hj
  ·rcases Qqt.1 hr with hr | hr
   ·rcases Qqt.1 hr with hr | hr
    ·exact aa.ro row hr
    ·rw[List.mem_singleton.1 hr];exact⟨s,_,_,rfl,hs⟩
   ·rw[List.mem_singleton.1 hr];exact⟨s',_,_,rfl,ar⟩
  ·rcases Nat.lt_or_ge k Ls.length with ac | ac
   ·rw[Qqq ac]at hk;exact(aa.ls k row hk).mono.mono
   ·rw[Qqo ac]at hk;obtain⟨a,rfl⟩:=Qqe.1 hk;simp at a;have b:k=Ls.length:=I
    subst b;refine⟨w,_,by simp[nmN],w0,c,.inr ⟨_,_,_,_,_,rfl,PC.mono ⟨Ro.length,ex,mn,mx,s,rfl,by simp,hs,am,ak,λh=>by cases h⟩,(Ro++[[D.sl 2 s,Ql 0]]).length,ax,ay,az,s',rfl,by simp,ar,au,ao,λ_=>aj rfl⟩⟩
end
def Tj(Ls:LL)(k i:Nat)(r:Y D):Prop:=∃nm w rides,Ls[k]? = some [D.str nm,Ql 0,Ql w,D.sl 4 rides]/\rides[i]? = some r
theorem Qp(w:LL)(i:Nat):Qi w (i:Int)=w[i]?:=by simp[Qi]
section
variable{R:Type} {n:Nat}
theorem QcO{G:Geo}{Ro Ls:LL}{k i:Nat}{r:Y D}{x y:Int}{b:Bool}(h:Tj Ls k i r)(hr:PC G Ro r x y b){p:Int}{a1 a c e f:LL}(K:Int->oP R):S7 n p a1 Ro Ls a c e f (k:Int) (i:Int) K=K x:=by
 obtain⟨nm,w,rides,j,h2⟩:=h;obtain⟨rt,ex,mn,mx,s,rfl,l,g,_⟩:=hr;obtain⟨d,h5⟩:=g.fst
 simp_all [S7,Qp,Qh,Qq6,Qq7,X2,Qj]
theorem QfQ{G:Geo}{Ro Ls:LL}{k i:Nat}{r:Y D}{x y:Int}{b:Bool}(h:Tj Ls k i r)(hr:PC G Ro r x y b){p:Int}{a1 c e f g:LL}(K:Int->oP R):Me n p a1 Ro Ls c e f g (k:Int) (i:Int) K=K y:=by
 obtain⟨nm,w,rides,j,h2⟩:=h;obtain⟨rt,ex,mn,mx,s,rfl,l,a,_⟩:=hr;obtain⟨d,h5⟩:=a.lst;have l2:=a.l2;have l24:=a.l24;unfold Me;rw[Qp,j,Qh];dsimp only[List.getElem?_cons_zero,List.getElem?_cons_succ];rw[Qh,X2,Qh,Qp,h2,Qh];dsimp only[List.getElem?_cons_zero,List.getElem?_cons_succ];rw[Qh,Qj,Qh,Qp,l,Qh];dsimp only[List.getElem?_cons_zero,List.getElem?_cons_succ];rw[Qh,Qh,X2,Qh,Qh,Qo I I,h5];rfl
end
theorem Q6R{G:Geo}{Ro Ls:LL}(hg:GoodP G Ro Ls){k:Nat}(hk:k<Ls.length) :
  ∃(w:Int) (rides:LL) (r r':Y D) (x x' y y':Int) (b:Bool),Ls[k]? = some [D.str (nmN k),Ql 0,Ql w,D.sl 4 rides]/\(rides.length=1\/rides.length=2)/\rides[0]? = some r/\rides[rides.length-1]? = some r'/\PC G Ro r x y b/\PC G Ro r' x' y' true:=by
 obtain⟨w,rides,c,h2,d,a⟩:=hg.ls k _ (Qqb hk);refine⟨w,rides,?_⟩;rcases a with⟨r,x,y,rfl,h⟩|⟨r,r',x,y,z,rfl,h,h'⟩
 all_goals grind
abbrev Tup:=Nat×Nat×Int×Int
def tuR(t:Tup):Y D:=[Ql t.1,Ql t.2.1,Ql t.2.2.1,Ql t.2.2.2]
def Qam(G:Geo)(Ro Ls:LL)(t:Tup):Prop:=
 t.1<Ls.length/\t.2.1<Ls.length/\10<=t.2.2.1/\t.2.2.1<=19/\t.2.2.1<=t.2.2.2/\t.2.2.2<=t.2.2.1+29 /\
 ∃(nm:Y UInt8) (w:Int) (rides:LL) (r r':Y D) (x y z:Int) (b b':Bool),Ls[t.1]? = some [D.str nm,Ql 0,Ql w,D.sl 4 rides]/\rides[rides.length-1]? = some r/\1<=rides.length/\rides.length<=2/\Tj Ls t.2.1 0 r'/\PC G Ro r x y b/\PC G Ro r' y z b'
structure TInv(G:Geo)(Ro Ls:LL)(T:List Tup)(FA TA:LL):Prop where
 ok:∀t∈T,Qam G Ro Ls t
 fd:(T.map (·.1)).Nodup
 td:(T.map (·.2.1)).Nodup
 fl:∀i,i<4->∃b,FA[i]? = some [D.bool b]/\(b=false->i ∉ T.map (·.1))
 tl:∀i,i<4->∃b,TA[i]? = some [D.bool b]/\(b=false->i ∉ T.map (·.2.1))
theorem gbF{α R:Type}(p:oP α)(z:α)(k:α->oP R):gb false p z k=k (p.getD z):=by cases p<;>rfl
theorem TInv.add{G:Geo}{Ro Ls:LL}{T:Y Tup}{FA TA:LL}(h:TInv G Ro Ls T FA TA){t:Tup}(ht:Qam G Ro Ls t)(d:t.1 ∉ T.map (·.1))(h2:t.2.1 ∉ T.map (·.2.1)):TInv G Ro Ls (T++[t]) (FA.set t.1 [D.bool true]) (TA.set t.2.1 [D.bool true]) where
 ok:=λu hu=>by
  rcases Qqt.1 hu with hu | hu
  ·exact h.ok u hu
  simp_all
 fd:=by
  rw[Qqy,List.nodup_append];refine⟨h.fd,by simp,λa ha b hb=>?_⟩
  grind
 td:=by
  rw[Qqy,List.nodup_append];refine⟨h.td,by simp,λa ha b hb=>?_⟩;simp at hb;subst hb;intro e;subst e;exact h2 ha
 fl:=λi hi=>by
  obtain⟨b,e,hb⟩:=h.fl i hi;by_cases aa:t.1=i
  ·subst aa;refine⟨true,?_,λh=>by cases h⟩;rw[List.getElem?_set_self (Qqe.1 e).1]
  ·refine⟨b,by rw[List.getElem?_set_ne aa];exact e,λc hm=>?_⟩;rw[Qqy]at hm;rcases Qqt.1 hm with hm | hm
   ·exact hb c hm
   ·simp at hm;exact aa hm.symm
 tl:=λi hi=>by
  obtain⟨b,e,hb⟩:=h.tl i hi;by_cases aa:t.2.1=i
  ·subst aa;refine⟨true,?_,λh=>by cases h⟩;rw[List.getElem?_set_self (Qqe.1 e).1]
  ·refine⟨b,by rw[List.getElem?_set_ne aa];exact e,λc hm=>?_⟩;rw[Qqy]at hm;rcases Qqt.1 hm with hm | hm
   ·exact hb c hm
   ·simp at hm;exact aa hm.symm
section
variable{R:Type} {l:Y Int} (hl:l.length<=9223372036854775807) {P:R->Prop} {G:Geo} {Ro Ls:LL} (hg:GoodP G Ro Ls) (hL:Ls.length<=3)
include hl hg hL
theorem Qhr{a b m:Nat}{b1:Int}{FA TA c q5 q7 d:LL}{T:Y Tup}(ha:a<Ls.length)(hb:b<Ls.length)(hT:TInv G Ro Ls T FA TA)(a3:T.length<=100){i:Nat}(hi:i<=l.length){k0:Int->Bool->LL->LL->LL->Int->oP R}(H:∀(FA TA:LL) (T':Y Tup) (j:Nat),TInv G Ro Ls T' FA TA->T'.length<=T.length+1->j<=l.length->Yz 400 (a:Int) (Ls.length:Int) c Ro Ls q5 q7 d (encI l) b1 k0 m ((b+1:Nat):Int) FA TA (T'.map tuR) (j:Int)∈P) :
  Yz 400 (a:Int) (Ls.length:Int) c Ro Ls q5 q7 d (encI l) b1 k0 (m+1) (b:Int) FA TA (T.map tuR) (i:Int)∈P:=by
 have au:wJ ((b:Int)+1)=((b+1:Nat):Int):=by rw[Qo I I];omega
 rw[Yz,Xh Q3,au];refine Vv hl hi Q1 Q1 λv j p q hj=>?_
 dsimp only;have aa:=H FA TA T j hT I hj;by_cases hv:v=0
 ·subst hv;rw[show decide ((0:Int)>0)=false from rfl];simp only[gbF,Qq9];exact aa
 rw[show decide (v>0)=true by simp;omega];obtain⟨fb,ef,hf⟩:=hT.fl a I;obtain⟨tb,et,ht⟩:=hT.tl b I;rw[XQ I I,Qh,Qq8,ef,Qh];show gb true (some (D.bool fb)) _ (λh=>gb true (PD h) _ _)∈P;rw[Qh,show PD (D.bool fb)=some fb from rfl,Qh];cases fb
 case true=>
  simp only[gbF,Qqd,Qq9,Qqa];exact aa
 rw[show(bif true then !false else false)=true from rfl,XQ I I,Qh,Qq8,et,Qh];show gb true (some (D.bool tb)) _ (λk=>gb true (PD k) _ _)∈P;rw[Qh,show PD (D.bool tb)=some tb from rfl,Qh];cases tb
 case true=>
  simp only[gbF,Qqd,Qq9,Qqa];exact aa
 obtain⟨w,rides,s,r,u,x,z,y,b0,e1,e2,e3,e,e5,f⟩:=Q6R hg ha;obtain⟨w',ak,r',r1,x',x1,y',y1,a5,g1,g2,n,g4,g,g6⟩:=Q6R hg hb;have ar:Tj Ls a (rides.length-1) r:=⟨_,_,_,e1,e⟩;have aj:Tj Ls b 0 r':=⟨_,_,_,g1,n⟩;have ax:wJ ((rides.length:Int)-1)=((rides.length-1:Nat):Int):=by rw[Qo I I];omega
 rw[show(bif true then !false else false)=true from rfl,XQ I I,Qh,e1,Qh];show gb true (some (D.sl 4 rides)) _ (λo=>gb true (pSl 4 o) _ _)∈P;rw[Qh,X2,Qh,ax,QfQ ar f,Qh,show(0:Int)=((0:Nat):Int)from rfl,QcO aj g,Qh];by_cases ai:y=x'
 case neg=>
  rw[Qq (by simpa using ai)];exact aa
 subst ai;rw[Xh Q2,Qh,Qh,Qh,Qh];refine Vv hl hj Q1 Q1 λlo j l0 l1 hj=>?_
 refine Vv hl hj Q1 Q1 λac j h0 h1 hj=>?_
 dsimp only;rw[XI Q3,Qh,Qo (x:=10+lo) I I,Qo (x:=10+lo+ac) I I];have:=H _ _ (T++[(a,b,10+lo,10+lo+ac)]) j (hT.add (t:=(a,b,10+lo,10+lo+ac)) ⟨ha,hb,by simp;omega,by simp;omega,by simp;omega,by simp;omega,_,_,_,_,_,_,_,_,_,_,e1,e,I,I,aj,f,g⟩ (hf rfl) (ht rfl)) Q2 hj;rw[Qqy]at this;exact this
theorem QcQ{a:Nat}{b1:Int}{c q5 q7 d:LL}(ha:a<Ls.length){k0:Int->Bool->LL->LL->LL->Int->oP R}:∀(k m b:Nat) (FA TA:LL) (T:Y Tup) (i:Nat),b+k=Ls.length->k<m->TInv G Ro Ls T FA TA->T.length+k<=60->i<=l.length ->
  (∀(FA TA:LL) (T':Y Tup) (j:Nat),TInv G Ro Ls T' FA TA->T'.length<=T.length+k->j<=l.length->k0 (Ls.length:Int) false FA TA (T'.map tuR) (j:Int)∈P) ->
  Yz 400 (a:Int) (Ls.length:Int) c Ro Ls q5 q7 d (encI l) b1 k0 m (b:Int) FA TA (T.map tuR) (i:Int)∈P
 |0,m+1,b,FA,TA,T,i,hb,_,hT,ai,hi,H=>by
  subst hb;rw[Yz,Qq Q2,show decide ((Ls.length:Int)<(Ls.length:Int))=false by simp]
  simp_all
 |k+1,m+1,b,FA,TA,T,i,hb,hm,hT,ai,hi,H=>by
  refine Qhr hl hg hL ha I hT I hi λFA TA T' j aj am hj=>?_
  exact QcQ ha k m (b+1) FA TA T' j I I aj I hj λFA TA T'' j aa ac hj=>H FA TA T'' j aa I hj
theorem QcA{b1:Int}{b q5 q7 c:LL}{k0:Int->Bool->LL->LL->LL->Int->oP R}:∀(k m a:Nat) (FA TA:LL) (T:Y Tup) (i:Nat),a+k=Ls.length->k<m->TInv G Ro Ls T FA TA->T.length+3*k<=50->i<=l.length ->
  (∀(FA TA:LL) (T':Y Tup) (j:Nat),TInv G Ro Ls T' FA TA->T'.length<=T.length+3*k->j<=l.length->k0 (Ls.length:Int) false FA TA (T'.map tuR) (j:Int)∈P) ->
  U0 400 (Ls.length:Int) b Ro Ls q5 q7 c (encI l) b1 k0 m (a:Int) FA TA (T.map tuR) (i:Int)∈P
 |0,m+1,a,FA,TA,T,i,hb,_,hT,ai,hi,H=>by
  subst hb;rw[U0,Qq Q2,show decide ((Ls.length:Int)<(Ls.length:Int))=false by simp]
  simp_all
 |k+1,m+1,a,FA,TA,T,i,hb,hm,hT,ai,hi,H=>by
  rw[U0,Xh Q3];refine QcQ hl hg hL I Ls.length 400 0 FA TA T i I I hT I hi λFA TA T' j aj am hj=>?_
  rw[show wJ ((a:Int)+1)=((a+1:Nat):Int) by grind[Qo]];exact QcA k m (a+1) FA TA T' j I I aj I hj λFA TA T'' j aa ac hj=>H FA TA T'' j aa I hj
theorem Qhi{b1:Int}{a q5 q7 b:LL}{i:Nat}(hi:i<=l.length){K:Int->LL->oP R}(H:∀(T:Y Tup) (j:Nat),(∀t∈T,Qam G Ro Ls t)->(T.map (·.1)).Nodup->(T.map (·.2.1)).Nodup->T.length<=20->j<=l.length->K (j:Int) (T.map tuR)∈P) :
  RK 400 (encI l) (i:Int) b1 a Ro Ls q5 [] q7 b K∈P:=by
 refine QcA hl hg hL (T:=[]) Ls.length 400 0 _ _ i I I ⟨by simp,by simp,by simp,?_,?_⟩ Q3 hi λFA TA T j hT ac hj=>?_
 ·intro i hi;obtain rfl | rfl | rfl | rfl:i=0\/i=1\/i=2\/i=3:=I
  all_goals simp
 ·intro i hi;obtain rfl | rfl | rfl | rfl:i=0\/i=1\/i=2\/i=3:=I
  all_goals simp_all
 ·exact H T j hT.ok hT.fd hT.td (by grind) hj
end
theorem Rr{w:LL}{x:Int}{r:Y D}(h:Qi w x=some r):inB w.length x=some ()/\w[x.toNat]? = some r:=by
 grind[Qi,List.getElem?_eq_some_iff,XQ]
def Q6t(G:Geo)(per:Int)(Ro Ls:LL)(row:Y D):Prop:=
 ∃(f fr t tr:Nat) (mn mx w:Int) (r r':Y D) (x y x' y':Int) (b b':Bool) (i:Int),row=[Ql f,Ql fr,Ql t,Ql tr,Ql mn,Ql mx,Ql w]/\Tj Ls f fr r/\Tj Ls t tr r'/\PC G Ro r x y b/\PC G Ro r' x' y' b'/\f≠t/\(0<=mn/\mn<20/\mn<=mx/\mx<mn+per)/\(0<=w/\w<3) /\
  (∃nm a c d,Qi G.Se y=some [D.str nm,Ql a,Ql c,Ql d,Ql i])/\(∃nm a c d,Qi G.Se x'=some [D.str nm,Ql a,Ql c,Ql d,Ql i])/\0<=i
def QiF(per:Int)(Ls:LL)(row:Y D):Prop:=∃o:Int,row=[Ql 0,Ql 0,Ql 1,Ql 0,Ql o]/\0<=o/\o<per/\2<=Ls.length
def Qgx(N:Nat)(row:Y D):Prop:=∃f t w:Int,row=[Ql f,Ql t,Ql w]/\(0<=f/\f<N)/\(0<=t/\t<N)/\f≠t/\1<=w/\w<=9
def Q1r(Sk:LL):Prop:=∃a b c d:Int,Sk=[[D.str (bs [88]),Ql a,Ql b,Ql c,Ql d]]/\StkN a b c d
structure PlanR(G:Geo)(per:Int)(Sk Ro Ls Ch Tu Sy De:LL):Prop where
 ok:G.OK
 p0:90<=per
 p1:per<=300
 sk:Q1r Sk
 good:GoodP G Ro Ls
 l0:1<=Ls.length
 l1:Ls.length<=3
 rl:Ro.length<=6
 ch:∀row∈Ch,Q6t G per Ro Ls row
 chl:Ch.length<=2
 tu:∃T:List Tup,Tu=T.map tuR/\(∀t∈T,Qam G Ro Ls t)/\(T.map (·.1)).Nodup/\(T.map (·.2.1)).Nodup/\T.length<=20
 sy:∀row∈Sy,QiF per Ls row
 syl:Sy.length<=1
 de:∀row∈De,Qgx G.N row
 del:De.length<=2
theorem Qkf{pl:LL}(hp:pl=[[D.int .i64 (150:Int)],[D.int .i64 (120:Int)],[D.int .i64 (180:Int)],[D.int .i64 (240:Int)],[D.int .i64 (300:Int)],[D.int .i64 (90:Int)]]){v:Int}(a:0<=v)(b:v<6) :
  ∃per:Int,90<=per/\per<=300/\∀{R:Type} (K:Int->oP R),gb true (inB (List.length pl) v) () (λ_=>gb true (pl[(Int.toNat v)]?) [] λr=>gb true (r[0]?) oF λc=>gb true (pIw c) 0 λi=>K i)=K per:=by
 subst hp;obtain rfl | rfl | rfl | rfl | rfl | rfl:v=0\/v=1\/v=2\/v=3\/v=4\/v=5:=I
 ·exact⟨150,I,I,λK=>rfl⟩
 ·exact⟨120,I,I,λK=>rfl⟩
 ·exact⟨180,I,I,λK=>rfl⟩
 ·exact⟨240,I,I,λK=>rfl⟩
 ·exact⟨300,I,I,λK=>rfl⟩
 ·exact⟨90,I,I,λK=>rfl⟩
theorem C8{G:Geo}{Ro Ls:LL}(hg:GoodP G Ro Ls){k:Nat}(hk:k<Ls.length):∃(w:Int) (rides:LL),Ls[k]? = some [D.str (nmN k),Ql 0,Ql w,D.sl 4 rides]/\(rides.length=1\/rides.length=2)/\∀i,i<rides.length->∃r x y b,Tj Ls k i r/\PC G Ro r x y b:=by
 obtain⟨w,rides,c,h2,d,a⟩:=hg.ls k _ (Qqb hk);have he:Ls[k]? = some [D.str (nmN k),Ql 0,Ql w,D.sl 4 rides]:=by simp_all
 refine⟨w,rides,he,?_⟩;rcases a with⟨r,x,y,rfl,h⟩|⟨r,r',x,y,z,rfl,h,h'⟩
 ·refine⟨.inl rfl,λi hi=>?_⟩;have hi:i=0:=by simp_all
  subst hi;exact⟨r,x,y,true,⟨_,_,_,he,rfl⟩,h⟩
 ·refine⟨.inr rfl,λi hi=>?_⟩;obtain rfl | rfl:i=0\/i=1:=by grind
  ·exact⟨r,x,y,false,⟨_,_,_,he,rfl⟩,h⟩
  ·exact⟨r',y,z,true,⟨_,_,_,he,rfl⟩,h'⟩
section
variable{R:Type} {l:Y Int} (hl:l.length<=9223372036854775807) {P:R->Prop} {G:Geo} (hG:G.OK)
include hl hG
theorem Q3L{k0:Int->Bool->Int->LL->LL->oP R}:∀(c m:Nat) (Ro Ls:LL) (i:Nat),c<m->Ls.length+c<=3->Ro.length<=2*Ls.length->GoodP G Ro Ls->i<=l.length ->
  (∀(Ro' Ls':LL) (j:Nat),GoodP G Ro' Ls'->Ls'.length=Ls.length+c->Ro'.length<=2*Ls'.length->j<=l.length->k0 0 false (j:Int) Ro' Ls'∈P) ->
  G3 400 (encI l) G.Tr G.Bt k0 m (c:Int) (i:Int) Ro Ls∈P
 |0,m+1,Ro,Ls,i,_,_,hR,hg,hi,H=>by
  rw[G3];rw[Qq Q2,show decide (((0:Nat):Int)>0)=false by simp];exact H Ro Ls i hg rfl hR hi
 |c+1,m+1,Ro,Ls,i,hm,hL,hR,hg,hi,H=>by
  have hN:=hG.hN;have hb:=hG.btl;rw[G3];rw[Xh Q2];refine Vv hl hi Q1 Q1 λv j a b hj=>?_
  dsimp only;refine Vv hl hj I I λd j g0 g1 hj=>?_
  dsimp only;obtain⟨nv,rfl⟩:=Qqp g0;rw[Qo (x:=1+(nv:Int)) I I,show(1:Int)+(nv:Int)=((1+nv:Nat):Int) by omega];refine okB (Qix hl hG I I hg I I hj λRo' Ls' j aj ao an hj=>okI ?_);dsimp only;rw[show wJ (((c+1:Nat):Int)-1)=(c:Int) by rw[Qo I I];omega];exact Q3L c m Ro' Ls' j I I I aj hj λRo'' Ls'' j aa am ac hj=>H Ro'' Ls'' j aa I ac hj
omit hG in
theorem LE{per:Int}{Ro Ls k n:LL}(d:90<=per)(e:per<=300)(hg:GoodP G Ro Ls)(hL:Ls.length<=3){k0:Int->Bool->Int->LL->oP R}:∀(c m:Nat) (Ch:LL) (i:Nat),c<m->Ch.length+c<=2->(∀row∈Ch,Q6t G per Ro Ls row)->i<=l.length ->
  (∀(h:Int) (b:Bool) (Ch:LL) (j:Nat),(∀row∈Ch,Q6t G per Ro Ls row)->Ch.length<=2->j<=l.length->k0 h b (j:Int) Ch∈P) ->
  VX 400 per (encI l) k Ro Ls G.Se n k0 m (c:Int) (i:Int) Ch∈P
 |0,m+1,Ch,i,_,ay,hC,hi,H=>by
  grind[VX]
 |c+1,m+1,Ch,i,hm,ay,hC,hi,H=>by
  rw[VX];rw[show decide (((c+1:Nat):Int)>0)=true by simp,Qqa];by_cases o:Ls.length<=1
  ·rw[show decide ((Ls.length:Int)>1)=false by simp;omega,Qq9];exact H _ _ Ch i hC I hi
  rw[show decide ((Ls.length:Int)>1)=true by simp;omega,Qqa];refine Vv hl hi I I λv j p o hj=>?_
  refine Vv hl hj Q1 Q1 λw j w0 q hj=>?_
  dsimp only;obtain⟨f,rfl⟩:=Qqp p;have hf:f<Ls.length:=I
  obtain⟨t,et,ht,az⟩:∃t:Nat,Int.tmod (wJ ((f:Int)+1)) (Ls.length:Int)=(t:Int)/\t<Ls.length/\f≠t:=by
   rw[Qo I I,Qqs I];refine⟨(f+1) % Ls.length,by simp,Nat.mod_lt _ I,?_⟩;by_cases h:f+1<Ls.length
   ·rw[Nat.mod_eq_of_lt h];omega
   ·rw[show f+1=Ls.length by omega,Nat.mod_self];omega
  rw[et];obtain⟨w2,rides,e1,e2,s⟩:=C8 hg hf;obtain⟨bb,ar,a3,a5,au⟩:=C8 hg ht;rw[CS I,Qh,XQ I I,Qh,Qq8,e1,Qh];dsimp only[List.getElem?_cons_zero,List.getElem?_cons_succ];rw[Qh,X2,Qh];refine Vv hl hj I I λfr j a0 a1 hj=>?_
  dsimp only;rw[XQ I I,Qh,Qq8,a3,Qh];dsimp only[List.getElem?_cons_zero,List.getElem?_cons_succ];rw[Qh,X2,Qh];refine Vv hl hj I I λtr j b0 b1 hj=>?_
  refine Vv hl hj Q1 Q1 λmn j c0 c1 hj=>?_
  dsimp only;refine Vv hl hj I I λmx j d0 d1 hj=>?_
  dsimp only;obtain⟨fr,rfl⟩:=Qqp a0;obtain⟨tr,rfl⟩:=Qqp b0;obtain⟨r,x,y,b,hr,hR⟩:=s fr I;obtain⟨r',x',y',b',ai,aj⟩:=au tr I;have ak:=hR;have ac:=aj;obtain⟨_,_,_,_,_,_,_,hS,_⟩:=hR;obtain⟨_,_,_,_,_,_,_,ax,_⟩:=aj;obtain⟨aa,a1,c1,d1,g,g1,u⟩:=hS.sy;obtain⟨ab,a2,c2,d2,z,a,g4⟩:=ax.sx;rw[QfQ hr ak,Qh,(Rr g1).1,Qh,(Rr g1).2,Qh];dsimp only[List.getElem?_cons_zero,List.getElem?_cons_succ];rw[Qh,Qj,Qh,QcO ai ac,Qh,(Rr a).1,Qh,(Rr a).2,Qh];dsimp only[List.getElem?_cons_zero,List.getElem?_cons_succ];rw[Qh,Qj,Qh];have aw:wJ (((c+1:Nat):Int)-1)=(c:Int):=by rw[Qo I I];omega
  rw[aw];by_cases an:g=z
  ·subst an;rw[Xh Q2,XI Q3,Qh,Qo (x:=mn+mx) I I];refine LE d e hg hL c m _ j I Q3 (λrow am=>?_) hj H;rcases Qqt.1 am with h | h
   ·exact hC row h
   ·rw[List.mem_singleton.1 h];exact⟨f,fr,t,tr,mn,mn+mx,w,r,r',x,y,x',y',b,b',g,rfl,hr,ai,ak,ac,az,⟨I,I,I,I⟩,⟨w0,q⟩,⟨_,_,_,_,g1⟩,⟨_,_,_,_,a⟩,u.1⟩
  ·rw[Qq (by simpa using an)];exact LE d e hg hL c m _ j I I hC hj H
omit hl hG in
theorem Qkl{N:Nat}(hN:N=2\/N=3){f v:Int}(a:0<=f)(b:f<N)(g0:0<=v)(g1:v<N-1):∃t:Int,Int.tmod (wJ ((wJ (f+1))+v)) (N:Int)=t/\(0<=t/\t<N)/\f≠t:=by
 rw[Qo (x:=f+1) I I,Qo I I,Qqs I]
 grind
theorem Q2m{k0:Int->Bool->Int->LL->oP R}:∀(c m:Nat) (De:LL) (i:Nat),c<m->De.length+c<=2->(∀row∈De,Qgx G.N row)->i<=l.length ->
  (∀(h:Int) (b:Bool) (De:LL) (j:Nat),(∀row∈De,Qgx G.N row)->De.length<=2->j<=l.length->k0 h b (j:Int) De∈P) ->
  V7 400 (encI l) G.St k0 m (c:Int) (i:Int) De∈P
 |0,m+1,De,i,_,ai,hD,hi,H=>by
  rw[V7];rw[show decide (((0:Nat):Int)>0)=false by simp,Qq9];exact H _ _ De i hD I hi
 |c+1,m+1,De,i,hm,ai,hD,hi,H=>by
  have hN:=hG.hN;rw[V7];rw[show decide (((c+1:Nat):Int)>0)=true by simp,Qqa,hG.st,Qo (x:=(G.N:Int)-1) I I];refine Vv hl hi I I λf j a d hj=>?_
  dsimp only;refine Vv hl hj I I λv j g0 g1 hj=>?_
  dsimp only;rw[CS I,Qh];refine Vv hl hj Q1 Q1 λw j w0 e hj=>?_
  dsimp only;obtain⟨t,et,ht,aj⟩:=Qkl hN a d g0 g1;rw[XI Q3,Qh,et,Qo (x:=1+w) I I,show wJ (((c+1:Nat):Int)-1)=(c:Int) by rw[Qo I I];omega];refine Q2m c m _ j I Q3 (λrow aa=>?_) hj H;rcases Qqt.1 aa with h | h
  ·exact hD row h
  ·rw[List.mem_singleton.1 h];exact⟨f,t,1+w,rfl,⟨a,d⟩,ht,aj,I,I⟩
omit hl hG in
theorem Qfn{n:Nat}{l s:LL}{k0:Int->Bool->Int->LL->oP R}:∀(m:Nat) (a:Int) (c:Int) (d:LL),Ha n l s k0 m a c d=V7 n l s k0 m a c d
 |0,_,_,_=>rfl
 |m+1,a,c,d=>by
  rw[Ha,V7];simp only[Qfn m]
end
theorem Q6F{v:Int}(h:0<=v):∃n:Nat,v=(n:Int):=Qqp h
theorem QiR{R:Type}{l:Y Int}(hl:l.length<=9223372036854775807){P:R->Prop}{K:LL->LL->LL->LL->Int->LL->LL->LL->LL->LL->LL->LL->oP R}(H:∀(G:Geo) (per:Int) (Sk Ro Ls Ch Tu Sy De:LL),PlanR G per Sk Ro Ls Ch Tu Sy De->K G.St G.Pt G.Se G.Li per Sk Ro Ls Ch Tu Sy De∈P):Ss 400 (encI l) K∈P:=by
 unfold Ss Q00;rw[Qh];dsimp only;refine okB (Qk0 (i:=0) hl (Nat.zero_le _) λG j hG hj=>okI ?_);dsimp only;refine Vv hl hj Q1 Q1 λv j f g hj=>?_
 dsimp only;obtain⟨per,p0,p1,e⟩:=Qkf rfl f g;rw[e];refine Vv hl hj Q1 Q1 λa j a0 a1 hj=>?_
 refine Vv hl hj Q1 Q1 λb j b0 b1 hj=>?_
 refine Vv hl hj Q1 Q1 λc j c0 c1 hj=>?_
 refine Vv hl hj Q1 Q1 λd j d0 d1 hj=>?_
 refine Vv hl hj Q1 Q1 λk j k0 k1 hj=>?_
 dsimp only;obtain⟨k,rfl⟩:=Q6F k0;rw[Qo (x:=1+(k:Int)) I I,show(1:Int)+(k:Int)=((k+1:Nat):Int) by omega,Qo (x:=1+a) I I,Qo (x:=5000*b) I I,Qo (x:=10000+5000*b) I I,Qo (x:=200*c) I I,Qo (x:=400+200*c) I I,Qo (x:=200*d) I I,Qo (x:=400+200*d) I I];have aa:Q1r [[D.str (bs [88]),D.int .i64 (1+a),D.int .i64 (10000+5000*b),D.int .i64 (400+200*c),D.int .i64 (400+200*d)]]:=⟨_,_,_,_,rfl,I,I,I,I,I,I,I,I⟩;revert aa;generalize [[D.str (bs [88]),D.int .i64 (1+a),D.int .i64 (10000+5000*b),D.int .i64 (400+200*c),D.int .i64 (400+200*d)]]=Sk;intro aa;refine Q3L hl hG (k+1) 400 [] [] j I Q3 Q2 ⟨(λrow h=>nomatch h),(λk row h=>nomatch h)⟩ hj λRo Ls j hg hL hR hj=>?_
 simp at hL;refine okB (Qhi hl hg I hj λT j aj ai an ak hj=>okI ?_);dsimp only;refine Vv hl hj Q1 Q1 λk j k0 k1 hj=>?_
 dsimp only;obtain⟨k,rfl⟩:=Q6F k0;refine LE hl p0 p1 hg I k 400 [] j I Q3 (λrow h=>nomatch h) hj λf b0 Ch j hC am hj=>?_
 refine Vv hl hj Q1 Q1 λv j f g hj=>?_
 dsimp only;by_cases hv:v=3/\1<Ls.length
 ·obtain⟨rfl,h2⟩:=hv;rw[show((3:Int) == 3)=true from rfl,show decide ((Ls.length:Int)>1)=true by simp;omega,Qqa,Qqa];refine Vv hl hj I I λo j n p hj=>?_
  dsimp only;rw[XI Q2,Qh];refine Vv hl hj Q1 Q1 λk j k0 k1 hj=>?_
  dsimp only;obtain⟨k,rfl⟩:=Q6F k0;refine Q2m hl hG k 400 [] j I Q3 (λrow h=>nomatch h) hj λf b0 De j hD ac hj=>?_
  refine H G per Sk Ro Ls Ch _ _ De ⟨hG,p0,p1,aa,hg,I,I,I,hC,am,⟨T,rfl,aj,ai,an,ak⟩,λrow h=>?_,by simp,hD,ac⟩;simp at h;exact⟨o,h,n,p,h2⟩
 ·rw[show(bif (v == (3:Int))then(decide (((List.length Ls:Nat):Int)>(1:Int)))else false)=false by
   by_cases m:v=3
   ·rw[show(v == (3:Int))=true by simp[m],Qqa];simp;omega
   ·rw[show(v == (3:Int))=false by simpa using m,Qq9]]
  rw[Qq9];refine Vv hl hj Q1 Q1 λk j k0 k1 hj=>?_
  dsimp only;obtain⟨k,rfl⟩:=Q6F k0;rw[Qfn];refine Q2m hl hG k 400 [] j I Q3 (λrow h=>nomatch h) hj λf b0 De j hD ac hj=>?_
  exact H G per Sk Ro Ls Ch _ _ De ⟨hG,p0,p1,aa,hg,I,I,I,hC,am,⟨T,rfl,aj,ai,an,ak⟩,(λrow h=>nomatch h),by simp,hD,ac⟩
end Go.Vx
namespace Go.Vx
variable{R:Type} (n:Nat)
def ZM(n:Nat)(b:LL)(h5:Int)(k0:oP R)(k1:Qlh R):Qli R
|0,_=>none
|m+1,h6=>bif decide (h6<h5)then QkT R b h6 λa=>QkR R a λc=>Qc R (pSl 4 c) λd=>bif decide ((d.length:Int)>12)then k0 else ZM n b h5 k0 k1 m (wJ (h6+1))else k1 h6 (decide (h6<h5))
def UP(i j k l:LL)(c:Int)(d e b f g h m:LL)(K:Qlg R):oP R:=Qc R (ZA n i j k l some) λo=>bif o !=0 then K 1 else jn (λ(p:Bool)=>bif p then K 7 else ZM n b (b.length:Int) (K 7) (λq r=>bif Q8 (decide (c<2)) (decide (c>7200))then K 4 else K 0) n 0) λa=>Qa R (decide ((d.length:Int)>8)) λy=>bif y then a y else Qa R (decide ((e.length:Int)>48)) λv=>bif v then a v else Qa R (decide ((b.length:Int)>16)) λx=>bif x then a x else Qa R (decide ((f.length:Int)>32)) λu=>bif u then a u else Qa R (decide ((g.length:Int)>32)) λt=>bif t then a t else Qa R (decide ((h.length:Int)>32)) λs=>bif s then a s else a (decide ((m.length:Int)>32))
def Z5(b:LL)(h2:Int)(c h5 h6 h7:LL)(k0:Qlg R)(k1:Qlh R):Qli R
|0,_=>none
|m+1,a=>bif decide (a<h2)then QkB R b a λf g=>Ql6 R f g λh i=>Qc R (TP n c h5 h6 h7 h i some) λe=>bif e !=0 then k0 e else Z5 b h2 c h5 h6 h7 k0 k1 m (wJ (a+1))else k1 a (decide (a<h2))
def U3(b c d e:LL)(g:Int)(h a i j k l m:LL)(K:Qlg R):oP R:=Z5 n a (a.length:Int) b c d e (λf=>K f) (λo p=>K 0) n 0
def JD(aa ab ac ad:LL)(d:Int)(g b k l m o p:LL)(bq:Y UInt8)(ae br:Int)(e:LL)(a:Int)(K:Qlg R):oP R:=QkP R e a λi c3 q c5=>jn (λ(ag:Bool)=>(bif ag then K 4 else Qld R i b λai aj=>QkZ R g ae λak al am an ao=>Ql6 R ai aj λap aq=>Qc R (Vp ak) λar=>QkW R al am an ao λau av aw ax=>Qc R (Gl n aa ab ac ad ap aq ar au av aw ax some) λs=>bif s !=0 then K s else Qa R (decide (a>0)) λbt=>QkE R i bt c3 λay az=>QkE R q bt c5 λba bb=>Qd R bt (Ti n d g b k l m o p ay az ba bb some) λbc=>Qd R bt (Qi e (wJ (a-1))) λj=>Qd R bt j[0]? λbd=>Qd R bt j[1]? λbe=>Qd R bt j[2]? λbg=>Qd R bt j[3]? λbh=>QkE R bd bt be λbi bj=>QkE R bg bt bh λbk bl=>Qd R bt (Sg n d g b k l m o p bi bj bk bl some) λbm=>bif Q9 bt (bc !=bm)then K 11 else K 0:oP R)) λc=>Qc R (pIw i) λt=>bif decide (t<0)then c (decide (t<0))else Qc R (pIw i) λu=>Qa R (decide (u>=(b.length:Int))) λbv=>bif bv then c bv else Qc R (pIw c3) λv=>bif decide (v<0)then c (decide (v<0))else Qc R (pIw c3) λx=>bif decide (x>=d)then c (decide (x>=d))else Qkw R q c5 λbn bo=>Qc R (Kw n d g b k l m o p bn bo some) λy=>bif !y then c (!y)else Qa R (a==wJ ((e.length:Int)-1)) λbu=>Qd R bu (pIw q) λz=>Qd R (bu&&!(z !=0)) (pIw c5) λbp=>c (Q9 bu (Q8 (z !=0) (bp !=0)))
def ZL(b:Int)(c d e f:LL)(g:Int)(h i j k l o p:LL)(q:Y UInt8)(r s:Int)(t:LL)(k0:Qlg R)(k1:Qlh R):Qli R
|0,_=>none
|m+1,a=>bif decide (a<b)then Qc R (JD n c d e f g h i j k l o p q r s t a some) λu=>bif u !=0 then k0 u else ZL b c d e f g h i j k l o p q r s t k0 k1 m (wJ (a+1))else k1 a (decide (a<b))
def ZJ(h:LL)(h2:Int)(i h5 h6 h7:LL)(j:Int)(c k d l o p q:LL)(k0:Qlg R)(k1:Qlh R):Qli R
|0,_=>none
|m+1,a=>bif decide (a<h2)then QkP R h a λr u v x=>Qc R (Vp r) λy=>Qc R (KF n y some) λz=>bif !z then k0 3 else Qc R (slB d.length none (some a)) λaa=>Qc R (Vp r) λs=>Qkw R u v λb t=>Qc R (pSl 4 x) λf=>Qc R (QF n (cut d aa) s some) λab=>bif ab then k0 5 else jn (λ(ac:Bool)=>bif ac then k0 4 else bif (f.length:Int)==0 then k0 1 else ZL n (f.length:Int) i h5 h6 h7 j c k d l o p q s b t f (λad=>k0 ad) (λag ah=>ZJ h h2 i h5 h6 h7 j c k d l o p q k0 k1 m (wJ (a+1))) n 0) λg=>bif decide (b<0)then g (decide (b<0))else Qa R (decide (b>=(c.length:Int))) λai=>bif ai then g ai else Qc R (Tn n t some) λae=>g (!ae)else k1 a (decide (a<h2))
def V2(b c d e:LL)(f:Int)(g h a i j k l:LL)(K:Qlg R):oP R:=ZJ n a (a.length:Int) b c d e f g h a i j k l (λm=>K m) (λo p=>K 0) n 0
def Qaf(a b c d:LL)(e:Int)(f g h i j k l:LL):Bool:=Q8C (UP n a b c d e f g h i j k l some)&&Q8C (U5 n a b c d e f g h i j k l some)&&Q8C (U3 n a b c d e f g h i j k l some)&&Q8C (V2 n a b c d e f g h i j k l some)&&Q8C (Ww n a b c d e f g h i j k l some)&&Q8C (V1 n a b c d e f g h i j k l some)&&Q8C (UT n a b c d e f g h i j k l some)&&Q8C (Wp n a b c d e f g h i j k l some)
def Je(a b c d:LL)(e:Int)(f g h i j k l:LL)(K:Qlg R):oP R:=bif Qaf n a b c d e f g h i j k l then K 0 else none
end Go.Vx
namespace Go.Vx
theorem QI{h:Nat}(hh:h<=1000):wJ ((h:Int)+1)=((h+1:Nat):Int):=by rw[Qo I I];omega
theorem Qt{h k:Nat}(hh:h<k):decide ((h:Int)<(k:Int))=true:=by simpa using hh
theorem Qz(k:Nat):decide ((k:Int)<(k:Int))=false:=by simp
section
variable{R:Type} {St Pt Se Li Sk Ro Ls Ch Tu Sy De:LL} {per:Int} {n:Nat}
theorem Q5s{mn mx:Int}(a:0<=mn)(b:mn<=mx)(h2:mx<mn+per)(c:mn<=1000)(p1:per<=300)(K:Bool->oP R):Kw n per Sk Ro Ls Ch Tu Sy De mn mx K=K true:=by
 unfold Kw;rw[show decide ((0:Int)<=mn)=true by simpa using a,show decide (mn<=mx)=true by simpa using b,show decide (mx<=(7200:Int))=true by simp;omega,Qo I I,show decide (mx<mn+per)=true by simpa using h2];rfl
theorem Q31{k:Nat}(h:k<Ls.length)(K:Bool->oP R):G2 n per Sk Ro Ls Ch Tu Sy De (k:Int) K=K true:=by
 unfold G2;rw[show decide ((k:Int)>=0)=true by simp,Qt h];rfl
theorem Be{k i:Nat}{r:Y D}(h:Tj Ls k i r)(K:Bool->oP R):Uf n per Sk Ro Ls Ch Tu Sy De (k:Int) (i:Int) K=K true:=by
 obtain⟨nm,w,rides,a,h2⟩:=h;unfold Uf;rw[Q31 (Qqe.1 a).1,Qh,show decide ((i:Int)>=0)=true by simp,Qp,a];simp -implicitDefEqProofs only[Qh,Qq6,Qq7,Qj,XR,X2,Qqa,Qq9,Qqd,Qqc,Qt (Qqe.1 h2).1]
theorem Q8Z{w:Int}(a:0<=w)(b:w<=1000)(K:Bool->oP R):Tn n w K=K true:=by
 unfold Tn;rw[show decide (w>=0)=true by simpa using a,show decide (w<=(1048576:Int))=true by simp;omega];rfl
theorem Q5C{G:Geo}{rt:Nat}{ex mn mx x y:Int}{s:LL}(a:Ro[rt]? = some [D.sl 2 s,Ql 0])(b:RtOK G s x y)(K:Int->oP R):Ti n per Sk Ro Ls Ch Tu Sy De (rt:Int) ex mn mx K=K x:=by
 obtain⟨d,h5⟩:=b.fst;unfold Ti;simp -implicitDefEqProofs only[Qh,Qq6,Qq7,Qj,XR,X2,Qqa,Qq9,Qqd,Qqc,Qp,a,h5]
theorem Qau{G:Geo}{rt:Nat}{ex mn mx x y:Int}{s:LL}(b:Ro[rt]? = some [D.sl 2 s,Ql 0])(a:RtOK G s x y)(K:Int->oP R):Sg n per Sk Ro Ls Ch Tu Sy De (rt:Int) ex mn mx K=K y:=by
 obtain⟨d,h5⟩:=a.lst;have l2:=a.l2;have l24:=a.l24;unfold Sg;simp -implicitDefEqProofs only[Qh,Qq6,Qq7,Qj,XR,X2,Qqa,Qq9,Qqd,Qqc,Qp,b];rw[Qo (x:=(s.length:Int)-0) I I,Qo I I,Int.sub_zero,h5];rfl
theorem Qew(hs:Q1r Sk)(K:Int->oP R):U5 400 St Pt Se Li per Sk Ro Ls Ch Tu Sy De K=K 0:=by
 obtain⟨a,b,c,d,rfl,hk⟩:=hs;have h:U5 400 St Pt Se Li per [[D.str (bs [88]),Ql a,Ql b,Ql c,Ql d]] Ro Ls Ch Tu Sy De K=gb true (Uv 400 (bs [88]) a b c d some) false (λr=>bif !r then K 4 else K 0):=by kernel_rfl
 rw[h,Ab hk];rfl
end
section
variable{R:Type} {G:Geo} {Sk Ro Ls Ch Tu Sy De:LL} {per:Int} (h:PlanR G per Sk Ro Ls Ch Tu Sy De)
include h
theorem Q6Y{k:Nat}(hk:k<Ls.length):∃r,Tj Ls k 0 r:=by
 obtain⟨w,rides,e,hr,a⟩:=C8 h.good hk;obtain⟨r,_,_,_,b,_⟩:=a 0 I;exact⟨r,b⟩
theorem QgW(K:Int->oP R):UP 400 G.St G.Pt G.Se G.Li per Sk Ro Ls Ch Tu Sy De K=K 0:=by
 have hc:ZA 400 G.St G.Pt G.Se G.Li (some:Int->oP Int)=some 0:=by unfold ZA;rw[h.ok.lay];rfl
 obtain⟨_,_,_,_,ac,_⟩:=h.sk;obtain⟨T,hT,_,_,_,ai⟩:=h.tu;have l1:=h.l1;have l2:=h.rl;have a:=h.chl;have c:=h.syl;have d:=h.del;have p0:=h.p0;have p1:=h.p1;have lk:Sk.length=1:=by rw[ac];rfl
 have lt:Tu.length<=20:=by rw[hT];simpa using ai
 have aa:∀{k:Nat} {b:Int},(k:Int)<=b->decide ((k:Int)>b)=false:=λh=>by simpa using h
 unfold UP;rw[hc,Qh,Qq (by rfl)];simp -implicitDefEqProofs only[jn,aa (show(Sk.length:Int)<=8 by omega),aa (show(Ro.length:Int)<=48 by omega),aa (show(Ls.length:Int)<=16 by omega),aa (show(Ch.length:Int)<=32 by omega),aa (show(Tu.length:Int)<=32 by omega),aa (show(Sy.length:Int)<=32 by omega),aa (show(De.length:Int)<=32 by omega),Qq9];refine QY (r:=λm h=>ZM 400 Ls (Ls.length:Int) _ _ m h) (N:=Ls.length) (λm k hk=>?_) (λm=>?_) Ls.length 400 0 I I
 ·obtain⟨w,rides,e,hr,_⟩:=C8 h.good hk;rw[ZM,Qt hk,Qp,e];simp -implicitDefEqProofs only[Qh,Qq6,Qq7,Qj,XR,X2,Qqa,Qq9,Qqd,Qqc,aa (show(rides.length:Int)<=12 by omega),QI (show k<=1000 by omega)]
 ·rw[ZM,Qz,Qq9,show decide (per<2)=false by simp;omega,show decide (per>7200)=false by simp;omega];rfl
theorem Qdp(K:Int->oP R):U3 400 G.St G.Pt G.Se G.Li per Sk Ro Ls Ch Tu Sy De K=K 0:=by
 have l2:=h.rl;unfold U3;refine QY (r:=λm h=>Z5 400 Ro (Ro.length:Int) G.St G.Pt G.Se G.Li _ _ m h) (N:=Ro.length) (λm k hk=>?_) (λm=>?_) Ro.length 400 0 I I
 ·obtain⟨s,x,y,e,hs⟩:=h.good.ro _ (Qqk hk);rw[Z5,Qt hk,Qp,Qqb hk,e];simp -implicitDefEqProofs only[Qh,Qq6,Qq7,Qj,XR,X2,Qqa,Qq9,Qqd,Qqc,Q6C h.ok.lay rfl hs.l2 hs.l24 hs.rt,QI (show k<=1000 by omega)];rfl
 ·rw[Z5,Qz,Qq9]
theorem QbB(K:Int->oP R):Wp 400 G.St G.Pt G.Se G.Li per Sk Ro Ls Ch Tu Sy De K=K 0:=by
 have l2:=h.del;have hN:=h.ok.hN;unfold Wp;refine QY (r:=λm h=>YS 400 De (De.length:Int) G.St _ _ m h) (N:=De.length) (λm k hk=>?_) (λm=>?_) De.length 400 0 I I
 ·obtain⟨f,t,w,e,⟨a,b⟩,⟨t0,t1⟩,aa,w0,c⟩:=h.de _ (Qqk hk);rw[YS,Qt hk,Qp,Qqb hk,e];simp -implicitDefEqProofs only[Qh,Qq6,Qq7,Qj,XR,X2,Qqa,Qq9,Qqd,Qqc,h.ok.st,show decide (f<0)=false by simpa using a,show decide (f>=(G.N:Int))=false by simpa using b,show decide (t<0)=false by simpa using t0,show decide (t>=(G.N:Int))=false by simpa using t1,show(f == t)=false by simpa using aa,show decide (w<1)=false by simp;omega,show decide (w>1048576)=false by simp;omega,QI (show k<=1000 by omega)]
 ·rw[YS,Qz,Qq9]
theorem QgP(K:Int->oP R):UT 400 G.St G.Pt G.Se G.Li per Sk Ro Ls Ch Tu Sy De K=K 0:=by
 have l2:=h.syl;have l0:=h.l0;unfold UT;refine QY (r:=λm h=>ZE 400 Sy (Sy.length:Int) per Sk Ro Ls Ch Tu Sy De _ _ m h) (N:=Sy.length) (λm k hk=>?_) (λm=>?_) Sy.length 400 0 I I
 ·obtain⟨o,e,a,b,h2⟩:=h.sy _ (Qqk hk);obtain⟨r,hr⟩:=Q6Y h (k:=0) I;obtain⟨r',aa⟩:=Q6Y h (k:=1) I;have e1:=Be (R:=Bool) (per:=per) (Sk:=Sk) (Ro:=Ro) (Ch:=Ch) (Tu:=Tu) (Sy:=Sy) (De:=De) (n:=400) hr some;have e2:=Be (R:=Bool) (per:=per) (Sk:=Sk) (Ro:=Ro) (Ch:=Ch) (Tu:=Tu) (Sy:=Sy) (De:=De) (n:=400) aa some;rw[ZE,Qt hk,Qp,Qqb hk,e];simp -implicitDefEqProofs only[Qh,Qq6,Qq7,Qj,XR,X2,Qqa,Qq9,Qqd,Qqc,show Uf 400 per Sk Ro Ls Ch Tu Sy De 0 0 (some:Bool->oP Bool)=some true from e1,show Uf 400 per Sk Ro Ls Ch Tu Sy De 1 0 (some:Bool->oP Bool)=some true from e2,show((0:Int) == 1)=false from rfl,show decide (o<0)=false by simp;omega,show decide (o>=per)=false by simp;omega,QI (show k<=1000 by omega)]
 ·rw[ZE,Qz,Qq9]
end
theorem Q2x{n h:Nat}(hh:h<=n):slB n none (some (h:Int))=some (0,h):=by
 unfold slB;rw[show(decide ((0:Int)<=(none:oP Int).getD 0)&&(decide ((none:oP Int).getD 0<=(some (h:Int)).getD (n:Int))&&decide ((some (h:Int)).getD (n:Int)<=(n:Int))))=true by simp;omega];rfl
theorem F4{α:Type}{l:Y α}{h:Nat}:cut l (0,h)=l.take h:=by simp[cut]
theorem Qgr{i j:Nat}(hi:i<8)(hj:j<8)(h:i≠j):(nmN i == nmN j)=false:=by
 have:∀i j:Fin 8,i≠j->(nmN i.val == nmN j.val)=false:=by decide
 exact this ⟨i,hi⟩ ⟨j,hj⟩ (by intro e;exact h (by simpa using e))
theorem Qiz{i:Nat}(hi:i<8):KF 400 (nmN i) (some:Bool->oP Bool)=some true:=by
 obtain rfl | rfl | rfl | rfl | rfl | rfl | rfl | rfl:i=0\/i=1\/i=2\/i=3\/i=4\/i=5\/i=6\/i=7:=I
 all_goals kernel_rfl
section
variable{Sk Ch Tu Sy De:LL} {per:Int}
theorem Q3M{G:Geo}{Ro Ls:LL}{c:Nat}(hg:GoodP G Ro Ls)(hc:c<8)(hl:c<Ls.length):QF 400 (cut Ls (0,c)) (nmN c) some=some false:=by
 have ac:(cut Ls (0,c)).length=c:=by rw[F4];simp;omega
 unfold QF X8;rw[ac];refine(congrArg (λE=>gb true E 0 λa=>some (decide (a>=(0:Int)))) (a₂:=some (-1)) (QY (r:=λm h=>Qr 400 (cut Ls (0,c)) (c:Int) (nmN c) _ _ m h) (N:=c) (λm h hh=>?_) (λm=>?_) c 400 0 I I)).trans rfl
 ·obtain⟨w,aa,e,_,_⟩:=C8 hg (show h<Ls.length by omega);have e':(cut Ls (0,c))[h]? = some [D.str (nmN h),Ql 0,Ql w,D.sl 4 aa]:=by rw[F4,List.getElem?_take_of_lt hh,e]
  rw[Qr,Qt hh,Qp,e'];simp -implicitDefEqProofs only[Qh,Qq6,Qq7,Qj,XR,X2,Qqa,Qq9,Qqd,Qqc,ZV,Qgr (show h<8 by omega) hc I,QI (show h<=1000 by omega)]
 ·rw[Qr,Qz,Qq9]
theorem Q69{G:Geo}(hG:G.OK){Ro Ls rides:LL}{nm:Y UInt8}{w:Int}{i:Nat}{r:Y D}{x y:Int}{b:Bool}(p0:90<=per)(p1:per<=300)(ak:Q1r Sk)(hr:rides[i]? = some r)(hR:PC G Ro r x y b)(hb:i+1=rides.length->b=true)(hl:rides.length<=2)(ac:∀j,j+1=i->∃r' x' b',rides[j]? = some r'/\PC G Ro r' x' x b'):JD 400 G.St G.Pt G.Se G.Li per Sk Ro Ls Ch Tu Sy De nm 0 w rides (i:Int) (some:Int->oP Int)=some 0:=by
 obtain⟨rt,ex,mn,mx,s,rfl,aa,hs,⟨h,k⟩,⟨e,f,l,m⟩,hlast⟩:=hR;obtain⟨a,v,c,d,rfl,hk⟩:=ak;have az:rt<Ro.length:=(Qqe.1 aa).1;have hi:i<rides.length:=(Qqe.1 hr).1;have ai:(bif ((i:Int) == (wJ (((List.length rides:Nat):Int)-(1:Int))))then(bif (mn != (0:Int))then true else(mx != (0:Int)))else false)=false:=by
  by_cases g:i+1=rides.length
  ·obtain⟨rfl,rfl⟩:=hlast (hb g);rw[show((0:Int) != 0)=false from rfl];cases ((i:Int) == (wJ (((List.length rides:Nat):Int)-(1:Int))))<;>rfl
  ·rw[Qo I I,show((i:Int) == (rides.length:Int)-1)=false by simp;omega];rfl
 unfold JD;rw[Qp,hr];simp -implicitDefEqProofs only[Qh,Qq6,Qq7,Qj,XR,X2,Qqa,Qq9,Qqd,Qqc,jn,show decide ((rt:Int)<0)=false by simp,show decide ((rt:Int)>=(Ro.length:Int))=false by simp;omega,show decide (ex<0)=false by simp;omega,show decide (ex>=per)=false by simp;omega,Q5s e f (show mx<mn+per by omega) I p1,ai,Qp,aa,show Qi [[D.str (bs [88]),Ql a,Ql v,Ql c,Ql d]] (0:Int)=some [D.str (bs [88]),Ql a,Ql v,Ql c,Ql d]from rfl,Qh4 hG.lay rfl hs.l2 hs.l24 hs.rt hs.st hk,show((0:Int) != 0)=false from rfl];cases i with
 |zero=>
  rw[show decide (((0:Nat):Int)>0)=false from rfl];simp only[gbF,Qq9]
 |succ j=>
  obtain⟨r',x',b',ao,ar⟩:=ac j rfl;obtain⟨ax,au,aw,a2,s',rfl,aj,an,_⟩:=ar;simp -implicitDefEqProofs only[Qh,Qq6,Qq7,Qj,XR,X2,Qqa,Qq9,Qqd,Qqc,show decide (((j+1:Nat):Int)>0)=true by simp,Q5C aa hs,show wJ (((j+1:Nat):Int)-1)=(j:Int) by rw[Qo I I];omega,Qp,ao,Qau aj an,show(x != x)=false by simp]
theorem Qc3{G:Geo}(hG:G.OK){Ro Ls rides:LL}{nm:Y UInt8}{w:Int}(p0:90<=per)(p1:per<=300)(aa:Q1r Sk)(h:Q3X G Ro rides):(rides.length=1\/rides.length=2)/\∀i,i<rides.length->JD 400 G.St G.Pt G.Se G.Li per Sk Ro Ls Ch Tu Sy De nm 0 w rides (i:Int) (some:Int->oP Int)=some 0:=by
 rcases h with⟨r,x,y,rfl,h⟩|⟨r,r',x,y,z,rfl,h,h'⟩
 ·refine⟨.inl rfl,λi hi=>?_⟩;have hi:i=0:=by simpa using hi
  subst hi;exact Q69 hG p0 p1 aa rfl h (λ_=>rfl) Q2 λj hj=>by omega
 ·refine⟨.inr rfl,λi hi=>?_⟩;obtain rfl | rfl:i=0\/i=1:=by simp at hi;omega
  ·exact Q69 hG p0 p1 aa rfl h (λh=>by simp at h) Q2 λj hj=>by omega
  ·refine Q69 hG p0 p1 aa rfl h' (λ_=>rfl) Q2 λj hj=>?_
   have hj:j=0:=I
   subst hj;exact⟨r,x,false,rfl,h⟩
end
theorem Qfl{R:Type}{G:Geo}{Sk Ro Ls Ch Tu Sy De:LL}{per:Int}(h:PlanR G per Sk Ro Ls Ch Tu Sy De)(K:Int->oP R):V2 400 G.St G.Pt G.Se G.Li per Sk Ro Ls Ch Tu Sy De K=K 0:=by
 have l1:=h.l1;obtain⟨_,_,_,_,ak,_⟩:=h.sk;have ai:Sk.length=1:=by rw[ak];rfl
 unfold V2;refine QY (r:=λm h=>ZJ 400 Ls (Ls.length:Int) G.St G.Pt G.Se G.Li per Sk Ro Ls Ch Tu Sy De _ _ m h) (N:=Ls.length) (λm k hk=>?_) (λm=>?_) Ls.length 400 0 I I
 ·obtain⟨w,rides,e,w0,a,aa⟩:=h.good.ls k _ (Qqb hk);obtain⟨aj,ac⟩:=Qc3 (Ls:=Ls) (Ch:=Ch) (Tu:=Tu) (Sy:=Sy) (De:=De) (nm:=nmN k) (w:=w) h.ok h.p0 h.p1 h.sk aa;rw[ZJ,Qt hk,Qp,Qqb hk,e];simp -implicitDefEqProofs only[Qh,Qq6,Qq7,Qj,XR,X2,Qqa,Qq9,Qqd,Qqc,Qiz (show k<8 by omega),Q2x (Nat.le_of_lt hk),Q3M h.good (show k<8 by omega) hk,jn,show decide ((0:Int)<0)=false from rfl,ai,show decide ((0:Int)>=((1:Nat):Int))=false from rfl,Q8Z w0 (show w<=1000 by omega),show((rides.length:Int) == 0)=false by simp;intro hx;simp[hx]at aj];refine(QY (r:=λm h=>ZL 400 (rides.length:Int) G.St G.Pt G.Se G.Li per Sk Ro Ls Ch Tu Sy De (nmN k) 0 w rides _ _ m h) (N:=rides.length) (λm i hi=>?_) (λm=>?_) rides.length 400 0 I I)
  ·rw[ZL,Qt hi];simp -implicitDefEqProofs only[Qh,Qq6,Qq7,Qj,XR,X2,Qqa,Qq9,Qqd,Qqc,ac i hi,show((0:Int) != 0)=false from rfl,QI (show i<=1000 by omega)]
  ·rw[ZL,Qz,Qq9,QI I]
 ·rw[ZJ,Qz,Qq9]
theorem Mz{α:Type}{l:Y α}(h:l.Nodup){i:Nat}(hi:i<l.length):∀x∈l.take i,x≠l[i]:=by
 intro x hx e;subst e;obtain⟨j,hj,e⟩:=List.getElem_of_mem hx;simp at hj;rw[List.getElem_take]at e;have:=(List.nodup_iff_pairwise_ne.1 h);have:=List.pairwise_iff_getElem.1 this j i I hi I;exact this e
theorem Q4U{a b:Int}{T:Y Tup}(ht:∀t∈T,(t.1:Int)≠a/\(t.2.1:Int)≠b)(hl:T.length<=30):QE 400 (T.map tuR) a b some=some false:=by
 have aa:(T.map tuR).length=T.length:=by simp
 unfold QE Xb;rw[aa];refine(congrArg (λE=>gb true E 0 λc=>some (decide (c>=(0:Int)))) (a₂:=some (-1)) (QY (r:=λm h=>Qs 400 (T.map tuR) (T.length:Int) a b _ _ m h) (N:=T.length) (λm h hh=>?_) (λm=>?_) T.length 400 0 I I)).trans rfl
 ·have e:(T.map tuR)[h]? = some (tuR T[h]):=by rw[Qqr,Qqb hh];rfl
  obtain⟨n1,n2⟩:=ht _ (Qqk hh);rw[Qs,Qt hh,Qp,e];simp -implicitDefEqProofs only[Qh,Qq6,Qq7,Qj,XR,X2,Qqa,Qq9,Qqd,Qqc,tuR,ZT,show((T[h].1:Int) == a)=false by simpa using n1,show((T[h].2.1:Int) == b)=false by simpa using n2,QI (show h<=1000 by omega)]
 ·rw[Qs,Qz,Qq9]
section
variable{R:Type} {G:Geo} {Sk Ro Ls Ch Tu Sy De:LL} {per:Int} (h:PlanR G per Sk Ro Ls Ch Tu Sy De)
include h
theorem QbM(K:Int->oP R):Ww 400 G.St G.Pt G.Se G.Li per Sk Ro Ls Ch Tu Sy De K=K 0:=by
 have l2:=h.chl;have p1:=h.p1;unfold Ww;refine QY (r:=λm h=>YT 400 Ch (Ch.length:Int) G.Se per Sk Ro Ls Ch Tu Sy De _ _ m h) (N:=Ch.length) (λm k hk=>?_) (λm=>?_) Ch.length 400 0 I I
 ·obtain⟨f,fr,t,tr,mn,mx,w,r,r',x,y,x',y',b,b',i,e,hr,aa,hR,an,a3,⟨a,j,c,d⟩,⟨w0,l⟩,⟨o,a1,c1,d1,g1⟩,⟨p,a2,q,u,g⟩,hi⟩:=h.ch _ (Qqk hk);have hb:=Be (R:=Bool) (per:=per) (Sk:=Sk) (Ro:=Ro) (Ch:=Ch) (Tu:=Tu) (Sy:=Sy) (De:=De) (n:=400) hr;have ao:=Be (R:=Bool) (per:=per) (Sk:=Sk) (Ro:=Ro) (Ch:=Ch) (Tu:=Tu) (Sy:=Sy) (De:=De) (n:=400) aa;obtain⟨nm,v,rides,e1,e2⟩:=hr;obtain⟨a5,v',ai,ar,aj⟩:=aa;obtain⟨rt,ex,rn,rx,s,rfl,am,hs,_⟩:=hR;obtain⟨ax,au,a4,ay,s',rfl,ac,ak,_⟩:=an;rw[YT,Qt hk,Qp,Qqb hk,e];simp -implicitDefEqProofs only[Qh,Qq6,Qq7,Qj,XR,X2,Qqa,Qq9,Qqd,Qqc,hb,ao,Q5s a c d (show mn<=1000 by omega) p1,Q8Z w0 (show w<=1000 by omega),show((f:Int) == (t:Int))=false by simp;omega,Qp,e1,e2,ar,aj,Qau am hs,Q5C ac ak,g1,g,show(i == (-1:Int))=false by simp;omega,show(i != i)=false by simp,QI (show k<=1000 by omega)]
 ·rw[YT,Qz,Qq9]
theorem QfW(K:Int->oP R):V1 400 G.St G.Pt G.Se G.Li per Sk Ro Ls Ch Tu Sy De K=K 0:=by
 obtain⟨T,hT,t1,t2,a,p⟩:=h.tu;have hl:Tu.length=T.length:=by rw[hT];simp
 have p0:=h.p0;have p1:=h.p1;unfold V1;rw[hl];refine QY (r:=λm h=>ZQ 400 Tu (T.length:Int) per Sk Ro Ls Ch Tu Sy De _ _ m h) (N:=T.length) (λm k hk=>?_) (λm=>?_) T.length 400 0 I I
 ·have e:Tu[k]? = some (tuR T[k]):=by rw[hT,Qqr,Qqb hk];rfl
  obtain⟨c,d,q,u,f,v,nm,w,rides,r,r',x,y,z,b,b',e1,e2,e3,e4,⟨a3,w',aa,g,j⟩,hR,ar⟩:=t1 _ (Qqk hk);obtain⟨rt,ex,rn,rx,s,rfl,an,hs,_⟩:=hR;obtain⟨au,am,ax,aw,s',rfl,aj,ak,_⟩:=ar;have ac:cut Tu (0,k)=(T.take k).map tuR:=by rw[F4,hT,List.map_take]
  have ai:∀t∈T.take k,(t.1:Int)≠(T[k].1:Int)/\(t.2.1:Int)≠(T[k].2.1:Int):=by
   intro t ht;have l:=Mz t2 (i:=k) (by simpa using hk) t.1 (by rw[<- List.map_take];exact List.mem_map_of_mem ht);have h2:=Mz a (i:=k) (by simpa using hk) t.2.1 (by rw[<- List.map_take];exact List.mem_map_of_mem ht);rw[List.getElem_map]at l h2;exact⟨I,I⟩
  rw[ZQ,Qt hk,Qp,e];simp -implicitDefEqProofs only[Qh,Qq6,Qq7,Qj,XR,X2,Qqa,Qq9,Qqd,Qqc,tuR,Q31 c,Q31 d,Q5s (Sk:=Sk) (Ro:=Ro) (Ls:=Ls) (Ch:=Ch) (Tu:=Tu) (Sy:=Sy) (De:=De) (n:=400) (show 0<=T[k].2.2.1 by omega) f (show T[k].2.2.2<T[k].2.2.1+per by omega) I p1];rw[hl,Q2x I,Qh,ac,Q4U ai Q3];have hw:wJ ((rides.length:Int)-1)=((rides.length-1:Nat):Int):=by rw[Qo I I];omega
  have o:Qi aa (0:Int)=some [Ql au,Ql am,Ql ax,Ql aw]:=(Qp aa 0).trans j;simp -implicitDefEqProofs only[Qh,Qq6,Qq7,Qj,XR,X2,Qqa,Qq9,Qqd,Qqc,Qp,e1,g,hw,e2,o,Qau an hs,Q5C aj ak,show(y != y)=false by simp,show((0:Int) != 0)=false from rfl,QI (show k<=1000 by omega)]
 ·rw[ZQ,Qz,Qq9]
theorem QdP(K:Int->oP R):Je 400 G.St G.Pt G.Se G.Li per Sk Ro Ls Ch Tu Sy De K=K 0:=by
 unfold Je Qaf;rw[QgW h,Qew h.sk,Qdp h,Qfl h,QbM h,QfW h,QgP h,QbB h];rfl
end
section
variable{R:Type} {n:Nat}
theorem Q5c{x lo hi:Int}(a:lo<=x)(b:x<=hi)(K:Bool->oP R):Hy n x lo hi K=K true:=inT (n:=n) a b K
theorem Q5d{x lo hi:Int}(a:lo<=x)(b:x<=hi)(K:Bool->oP R):VI n x lo hi K=K true:=inT (n:=n) a b K
theorem QfO{a b g:Int}{acc:LL}(c:0<=a)(d:a<=12)(hc:acc.length<=1000){k0:Int->Bool->LL->oP R}{m:Nat}(hm:12<m):Ud n g (Ql a) (Ql b) k0 m 0 acc=k0 a false (acc++List.replicate a.toNat [Ql b,Ql g]):=by
 have hl:∀h:Nat,(acc++List.replicate h [Ql b,Ql g]).length=acc.length+h:=λh=>by simp
 have:=QY (r:=λm h=>Ud n g (Ql a) (Ql b) k0 m h (acc++List.replicate h.toNat [Ql b,Ql g])) (N:=a.toNat) (e:=k0 a false (acc++List.replicate a.toNat [Ql b,Ql g])) (λm h hh=>?_) (λm=>?_) a.toNat m 0 I I
 ·simpa using this
 ·simp only[Qq8];rw[Ud,Qj,Qh,Xh Q3,Qj,Qh,hl,XI (by simp only[Qqu,Qqx];omega),Qh,QI I,List.append_assoc,<- List.replicate_succ']
 ·rw[Ud,Qj,Qh,Qq Q3];simp only[Qq8];rw[show(a.toNat:Int)=a by omega];simp
theorem Qh0{Se s:LL}{k0:Int->Bool->LL->oP R}(hs:∀row∈s,Dd Se row)(hl:s.length<=30){m:Nat}(hm:s.length<m)(hn:12<n):Un n Se s 0 k0 m 0 []=k0 (s.length:Int) false (Yu Se s):=by
 have hc:=λh:Nat=>(PO (s:=s.take h) λr hr=>hs r (List.mem_of_mem_take hr)).1
 have hw:wJ ((s.length:Int)-0)=(s.length:Int):=by rw[Qo I I];omega
 refine QY (r:=λm h=>Un n Se s 0 k0 m h (Yu Se (s.take h.toNat))) (N:=s.length) (λm h hh=>?_) (λm=>?_) s.length m 0 I hm
 ·have e:=Qqb hh;obtain⟨x,d,nm,a,b,c,st,hx,aa,f,hd⟩:=hs _ (Qqk hh);rw[hx]at e;have a0:=f.a0;have a1:=f.a1;have ai:=hc h;simp only[List.length_take]at ai;simp only[Qq8,MF e,Ho aa];rw[Un,hw,Qt hh];simp -implicitDefEqProofs only[Qh,Qq6,Qq7,Qj,XR,X2,Qqa,Qq9,Qqd,Qqc,Qp,e,aa,QfO (n:=n) (b:=b) (acc:=Yu Se (s.take h)) (show 0<=a by omega) a1 I hn,QI (show h<=1000 by omega)];rw[Qo (x:=0-c) (by have:=f.c1;omega) (by have:=f.c0;omega),Int.zero_sub];cases g:d == (1:Int)<;>rfl
 ·simp only[Qq8];rw[Un,hw,Qz,Qq9,QqA]
end
structure RtF(St Pt Se Li s:LL):Prop where
 lay:PA 400 St Pt Se Li=true
 ref:Qba St Pt Se Li=true
 l2:2<=s.length
 l24:s.length<=24
 rt:rtB Se.length Li s=true
 rt6:Qhw Se.length Li s=true
 hops:Q0s Se.length Pt.length Li 0 s=true
 st:∀r∈s,Dd Se r
theorem RtOK.f{G:Geo}(hG:G.OK){s:LL}{x y:Int}(h:RtOK G s x y):RtF G.St G.Pt G.Se G.Li s:=⟨hG.lay,hG.ref,h.l2,h.l24,h.rt,h.rt6,h.hops,h.st⟩
section
variable{St Pt Se Li s:LL} (h:RtF St Pt Se Li s)
include h
theorem Qa1:S9 400 St Pt Se Li s 0 Tu3=some (Yu Se s,Ta Se s,0):=by
 have l2:=h.l2;have l24:=h.l24;have hl:=(PO h.st).1;obtain⟨row,rest,rfl⟩:∃row rest,s=row::rest:=by
  cases s with
  |nil=>simp at l2
  |cons a b=>exact⟨a,b,rfl⟩
 obtain⟨x,d,nm,a,b,c,st,rfl,hs,_,_⟩:=h.st row Q2;have hf:Ta Se ([Ql x,Ql d]::rest)=a:=by simp only[Ta,hs]
 generalize hS:[Ql x,Ql d]::rest=s at *
 unfold S9;rw[Q4Z h.ref rfl h.l2 h.l24 h.rt6,Qh,Qq Q1,Qh0 h.st I I Q1,Qq Q3,show Qi s (0:Int)=some [Ql x,Ql d] by rw[<- hS];rfl];simp -implicitDefEqProofs only[Qh,Qq6,Qq7,Qj,XR,X2,Qqa,Qq9,Qqd,Qqc,hs,hf]
theorem Qan{nm:Y UInt8}{tl sp ac br:Int}(hk:StkN tl sp ac br):SC 400 St Pt Se Li s 0 nm tl sp ac br (some:Int->oP Int)=some 0:=by
 have l24:=h.l24;have hw:wJ ((s.length:Int)-0)=(s.length:Int):=by rw[Qo I I];omega
 have hst:Ya 400 nm tl sp ac br (some:Bool->oP Bool)=some true:=by
  obtain⟨t1,t2,s1,s2,a1,a2,b1,b2⟩:=hk;unfold Ya;simp -implicitDefEqProofs only[Qh,Qq6,Qq7,Qj,XR,X2,Qqa,Qq9,Qqd,Qqc,Q5c t1 (show tl<=40 by omega),Q5c (show 1000<=sp by omega) (show sp<=100000 by omega),Q5c (show 100<=ac by omega) (show ac<=2000 by omega),Q5c (show 100<=br by omega) (show br<=2000 by omega)]
 unfold SC;rw[Qa1 h,Qh,Qq (by rfl),hst,Qh,Qq Q1];refine QY (r:=λm h=>Ga 400 Se s 0 tl _ _ m h) (N:=s.length) (λm k e=>?_) (λm=>?_) s.length 400 0 I I
 ·obtain⟨x,d,ai,a,b,c,st,hx,aa,hn,_⟩:=h.st _ (Qqk e);have a0:=hn.a0;have t2:=hk.t2;rw[Ga,hw,Qt e,Qp,Qqb e,hx];simp -implicitDefEqProofs only[Qh,Qq6,Qq7,Qj,XR,X2,Qqa,Qq9,Qqd,Qqc,aa,show decide (a<if 2<tl then tl else 2)=false by simp;split<;>omega,QI (show k<=1000 by omega)]
 ·rw[Ga,hw,Qz,Qq9]
end
def QbP(x r:Int):Prop:=0<=r/\r*r<=x/\x<(r+1)*(r+1)
theorem Q5A{a b:Int}(c:0<=a)(h:a<=b):a*a<=b*b:=Int.mul_le_mul h h c I
theorem Q4h{x r s:Int}(h:QbP x r)(g:QbP x s):r=s:=by
 obtain⟨a0,a1,a2⟩:=h;obtain⟨b0,b1,b2⟩:=g;rcases Int.lt_trichotomy r s with h | h | h
 ·have:=Q5A (show 0<=r+1 by omega) (show r+1<=s by omega);omega
 ·exact h
 ·have:=Q5A (show 0<=s+1 by omega) (show s+1<=r by omega);omega
theorem Q9E{x r b:Int}(c:0<=r)(hb:0<=b)(h:r*r<=x)(hx:x<(b+1)*(b+1)):r<=b:=by
 by_cases a:r<=b
 ·exact a
 ·have:=Q5A (show 0<=b+1 by omega) (show b+1<=r by omega);omega
theorem Qka{a:Int}(b:0<=a)(c:a<=9223372036854775807):shR .i64 a 1=a / 2:=by
 show a.fdiv 2=a / 2;exact Int.fdiv_eq_ediv_of_nonneg a Q1
theorem Qhe{R:Type}{n:Nat}{x:Int}(a:0<=x)(hx:x<=1000000000){k0:Int->Int->Bool->oP R}:∀(k m:Nat) (aa:Int),k<=31->k+1<m->0<=aa->aa*aa<=x->x<(aa+2 ^ (k+1))*(aa+2 ^ (k+1)) ->
  ∃r,QbP x r/\Vj n x k0 m aa (2 ^ k)=k0 r 0 false
 |k,m+1,aa,hk,hm,b,c,d=>by
  have hr:aa<=40000:=Q9E b Q1 c I;have hp:∀j:Nat,(1:Int)<=2 ^ j:=λj=>by
   have:=Int.ofNat_le.2 (Nat.two_pow_pos j);rw[Int.natCast_pow]at this;exact this
  have f:(2:Int) ^ k<=2147483648:=by
   have:=Int.ofNat_le.2 (Nat.le_trans (Nat.pow_le_pow_right (show 0<2 by decide) hk) (show 2 ^ 31<=2147483648 by decide));rw[Int.natCast_pow]at this;exact this
  have g:=hp k;have hw:wJ (aa+2 ^ k)=aa+2 ^ k:=Qo I I;have hs:(2:Int) ^ (k+1)=2 ^ k+2 ^ k:=by rw[Int.pow_succ];omega
  have ai:Int.tdiv x (aa+2 ^ k)=x / (aa+2 ^ k):=Qqw a;have i:0<=x / (aa+2 ^ k):=Int.ediv_nonneg a I;have l:x / (aa+2 ^ k)<=x:=Int.ediv_le_self _ a;have e:wJ (Int.tdiv x (aa+2 ^ k))=x / (aa+2 ^ k):=by rw[ai,Qo I I]
  have ac:(aa+2 ^ k<=x / (aa+2 ^ k))↔(aa+2 ^ k)*(aa+2 ^ k)<=x:=Int.le_ediv_iff_mul_le I;have step:∀r:Int,0<=r->r*r<=x->x<(r+2 ^ k)*(r+2 ^ k)->∃r',QbP x r'/\Vj n x k0 m r (shR .i64 (2 ^ k) 1)=k0 r' 0 false:=by
   intro r a0 a1 a2;rw[Qka I I];cases k with
   |zero=>
    refine⟨r,⟨a0,a1,by simpa using a2⟩,?_⟩;obtain⟨m,rfl⟩:∃m',m=m'+1:=⟨m-1,I⟩;rfl
   |succ k=>
    rw[show(2:Int) ^ (k+1) / 2=2 ^ k by rw[Int.pow_succ,Int.mul_ediv_cancel _ Q1]];exact Qhe a hx k m r I I a0 a1 a2
  rw[Vj,Xh Q3,hw,CS I,Qh,e];by_cases h:(aa+2 ^ k)*(aa+2 ^ k)<=x
  ·rw[Xh (by simpa using ac.2 h)];exact step _ I h (by rw[Int.add_assoc,<- hs];exact d)
  ·rw[Qq (by simpa using λh'=>h (ac.1 h'))];exact step aa b c I
theorem QiM{x:Int}(a:0<=x)(hx:x<=1000000000):∃r,QbP x r/\Sd 400 x (some:Int->oP Int)=some r:=
 Qhe a hx 31 400 0 Q1 Q1 Q1 (by simpa using a) I
theorem Qeb{R:Type}{n:Nat}{x:Int}(a:0<=x)(hx:x<=1000000000){k0:Int->Int->Bool->oP R}:∀(k m:Nat) (lo hi:Int),k<m->0<=lo->lo<=hi->hi<=3037000499->hi-lo<2 ^ k->lo*lo<=x->x<(hi+1)*(hi+1) ->
  ∃r,QbP x r/\VR n x k0 m lo hi=k0 r r false
 |k,m+1,lo,hi,hm,l0,l1,l2,hk,b,q1=>by
  by_cases h:lo<hi
  ·obtain⟨k,rfl⟩:∃k',k=k'+1:=by
    cases k with
    |zero=>simp at hk;omega
    |succ k=>exact⟨k,rfl⟩
   have hs:(2:Int) ^ (k+1)=2 ^ k+2 ^ k:=by rw[Int.pow_succ];omega
   have e:wJ (Int.tdiv (wJ ((wJ (lo+hi))+(1:Int))) (2:Int))=(lo+hi+1) / 2:=by
    rw[Qo (x:=lo+hi) I I,Qo (x:=lo+hi+1) I I,Qqw I,Qo I I]
   rw[VR,Xh (by simpa using h),CS Q1,Qh,e];have aa:lo<(lo+hi+1) / 2/\(lo+hi+1) / 2<=hi:=I
   generalize hM:(lo+hi+1) / 2=mid at *
   have ac:=Q5A (show 0<=mid by omega) (show mid<=3037000499 by omega);have c:=Int.mul_nonneg (show 0<=mid by omega) (show 0<=mid by omega);rw[Qo (x:=mid*mid) I I];by_cases hq:mid*mid<=x
   ·rw[Xh (by simpa using hq)];exact Qeb a hx k m mid hi I I I l2 I hq q1
   ·rw[Qq (by simpa using hq),Qo I I];exact Qeb a hx k m lo (mid-1) I l0 I I I b (by rw[Int.sub_add_cancel];omega)
  ·obtain rfl:lo=hi:=I
   rw[VR,Qq Q2];exact⟨lo,⟨l0,b,q1⟩,by simp⟩
theorem Qid{x r:Int}(a:0<=x)(hx:x<=1000000000)(hr:QbP x r):Mn 400 x (some:Int->oP Int)=some r:=by
 unfold Mn;by_cases h:x<=0
 ·rw[Xh (by simpa using h)];have:QbP x 0:=⟨by decide,I,I⟩;rw[Q4h hr this]
 ·rw[Qq (by simpa using h)];obtain⟨r',b,h2⟩:=Qeb (R:=Int) (n:=400) (k0:=λw _ _=>some w) a hx 32 400 0 3037000499 Q1 Q1 Q1 Q1 Q1 I I;rw[Q4h hr b];exact h2
def cl(C:LL)(k:Nat):Int×Int:=match C[k]? with
 |some [.int _ b,.int _ g]=>(b,g)
 |_=>(0,0)
structure CellsOK(C:LL):Prop where
 row:∀k,k<C.length->C[k]? = some [Ql (cl C k).1,Ql (cl C k).2]
 b0:∀k,k<C.length->5000<=(cl C k).1
 b1:∀k,k<C.length->(cl C k).1<=35000
 g0:∀k,k<C.length -> -10<=(cl C k).2
 g1:∀k,k<C.length->(cl C k).2<=10
 len:C.length<=300
theorem Q99{Se:LL}:∀{s:LL},(∀row∈s,Dd Se row)->s.length<=24->CellsOK (Yu Se s):=by
 intro s h hl;have hm:∀r∈Yu Se s,∃b g:Int,r=[Ql b,Ql g]/\5000<=b/\b<=35000 /\ -10<=g/\g<=10:=by
  intro r hr;obtain⟨row,f,h2⟩:=List.mem_flatMap.1 hr;obtain⟨x,d,nm,a,b,c,st,rfl,hs,hn,_⟩:=h _ f;rw[Ho hs]at h2;have i:=List.eq_of_mem_replicate h2;have c0:=hn.c0;have c1:=hn.c1;refine⟨_,_,i,hn.b0,hn.b1,?_⟩;cases (d == (1:Int))
  ·exact⟨c0,c1⟩
  ·show -10 <= -c /\ -c<=10;omega
 have hat:∀k,k<(Yu Se s).length->(Yu Se s)[k]? = some [Ql (cl (Yu Se s) k).1,Ql (cl (Yu Se s) k).2]/\5000<=(cl (Yu Se s) k).1/\(cl (Yu Se s) k).1<=35000 /\ -10<=(cl (Yu Se s) k).2/\(cl (Yu Se s) k).2<=10:=by
  intro k hk;obtain⟨b,g,e,f⟩:=hm _ (Qqk hk);have e2:(Yu Se s)[k]? = some [Ql b,Ql g]:=by rw[Qqb hk,e]
  simp only[cl,e2];exact⟨trivial,f⟩
 have:=(PO h).1;exact⟨λk hk=>(hat k hk).1,λk hk=>(hat k hk).2.1,λk hk=>(hat k hk).2.2.1,λk hk=>(hat k hk).2.2.2.1,λk hk=>(hat k hk).2.2.2.2,I⟩
def Qat(v:Int)(r:Y D):Int:=match r with
 |.int _ b::_=>if b<v then b else v
 |_=>v
def win(C:LL)(k t:Nat):LL:=(C.drop (k-t)).take (k+1-(k-t))
def Q81(C:LL)(sp:Int)(k t:Nat):Int:=(win C k t).foldl Qat sp
theorem QaN{C:LL}(hC:CellsOK C){k t i:Nat}(hk:k<C.length)(hi:i<k+1-(k-t)):(win C k t)[i]? = some [Ql (cl C (k-t+i)).1,Ql (cl C (k-t+i)).2]:=by
 unfold win;rw[List.getElem?_take_of_lt hi,List.getElem?_drop,hC.row _ I]
theorem Q6c{C:LL}{k t:Nat}(hk:k<C.length):(win C k t).length=k+1-(k-t):=by
 unfold win;simp;omega
theorem Qbp{C:LL}(hC:CellsOK C){sp:Int}{k t:Nat}(hk:k<C.length)(d:10000<=sp)(c:sp<=25000):5000<=Q81 C sp k t/\Q81 C sp k t<=25000:=by
 have hm:∀r∈win C k t,∃b g:Int,r=[Ql b,Ql g]/\5000<=b:=by
  intro r hr;obtain⟨i,hi,rfl⟩:=List.getElem_of_mem hr;have aa:=hi;rw[Q6c hk]at aa;have e:=QaN hC hk aa;rw[Qqb hi]at e;injection e with e
  exact⟨_,_,e,hC.b0 _ I⟩
 unfold Q81;revert hm;generalize win C k t=L;intro hm;have:∀(L:LL) (v:Int),(∀r∈L,∃b g:Int,r=[Ql b,Ql g]/\5000<=b)->5000<=v->v<=25000->5000<=L.foldl Qat v/\L.foldl Qat v<=25000:=by
  intro L;induction L with
  |nil=>exact λv _ a b=>⟨a,b⟩
  |cons r L ih=>
   intro v h a b;obtain⟨x,g,rfl,hx⟩:=h _ (List.mem_cons_self ..);refine ih _ (λr hr=>h r (List.mem_cons_of_mem _ hr)) ?_ ?_
   ·show 5000<=if x<v then x else v
    split<;>omega
   ·show(if x<v then x else v)<=25000;split<;>omega
 exact this L sp hm I c
section
variable{C:LL} (hC:CellsOK C) {nm:Y UInt8} {sp ac br:Int} {t k:Nat} (ht:t<=40)
include hC ht
omit hC in
theorem QfI(hk:k<=1000):(if (0:Int)<(wJ ((k:Int)-(t:Int)))then(wJ ((k:Int)-(t:Int)))else(0:Int))=((k-t:Nat):Int):=by
 rw[Qo I I];split<;>omega
theorem QjU(hk:k<C.length):JG 400 C (k:Int) nm (t:Int) sp ac br (some:Int->oP Int)=some (Q81 C sp k t):=by
 have hl:=hC.len;unfold JG;rw[QfI ht I,QI I];have hs:slB C.length (some ((k-t:Nat):Int)) (some ((k+1:Nat):Int))=some (k-t,k+1):=by
  unfold slB;rw[show(decide ((0:Int)<=(some ((k-t:Nat):Int)).getD 0)&&(decide ((some ((k-t:Nat):Int)).getD 0<=(some ((k+1:Nat):Int)).getD (C.length:Int))&&decide ((some ((k+1:Nat):Int)).getD (C.length:Int)<=(C.length:Int))))=true by simp;omega];rfl
 rw[hs,Qh,show cut C (k-t,k+1)=win C k t from rfl];have hw:=Q6c (t:=t) hk;refine(QY (r:=λm h=>Wy 400 (win C k t) (((win C k t).length:Nat):Int) _ m (((win C k t).take h.toNat).foldl Qat sp) h) (N:=(win C k t).length) (λm h hh=>?_) (λm=>?_) (win C k t).length 400 0 I I)
 ·have e:=QaN hC hk (show h<k+1-(k-t) by omega);simp only[Qq8];rw[Wy,Qt hh,Qp,e,Zv e,List.foldl_append];simp -implicitDefEqProofs only[Qh,Qq6,Qq7,Qj,XR,X2,Qqa,Qq9,Qqd,Qqc,QI (show h<=1000 by omega)];rfl
 ·simp only[Qq8];rw[Wy,Qz,Qq9,QqA];rfl
theorem QjG(hk:k<C.length):PW 400 C (k:Int) nm (t:Int) sp ac br (some:Int->oP Int)=some (Q81 C sp k t):=by
 have hl:=hC.len;have hw:=Q6c (t:=t) hk;unfold PW;rw[QfI ht I];have:=QY (r:=λm h=>J1 400 C (k:Int) (λa b c=>some a) m (((win C k t).take h.toNat).foldl Qat sp) (((k-t:Nat):Int)+h)) (N:=(win C k t).length) (e:=some (Q81 C sp k t)) (λm h hh=>?_) (λm=>?_) (win C k t).length 400 0 I I
 ·rw[show((k-t:Nat):Int)+((0:Nat):Int)=((k-t:Nat):Int) by omega]at this;exact this
 ·have e:=QaN hC hk (show h<k+1-(k-t) by omega);have e2:=hC.row (k-t+h) I;simp only[Qq8];rw[J1,Xh Q3,show((k-t:Nat):Int)+(h:Int)=((k-t+h:Nat):Int) by omega,Qp,e2,Zv e,List.foldl_append,QI I,show((k-t:Nat):Int)+((h+1:Nat):Int)=((k-t+h+1:Nat):Int) by omega];simp -implicitDefEqProofs only[Qh,Qq6,Qq7,Qj,XR,X2,Qqa,Qq9,Qqd,Qqc];rfl
 ·simp only[Qq8];rw[J1,Qq Q3,QqA];rfl
end
def arr(f:Nat->Int)(n:Nat):LL:=(List.range n).map λi=>[Ql (f i)]
theorem YX{f:Nat->Int}{n:Nat}:(arr f n).length=n:=by simp[arr]
theorem G6{f:Nat->Int}{n i:Nat}(h:i<n):(arr f n)[i]? = some [Ql (f i)]:=by simp[arr,h]
theorem Y0{f g:Nat->Int}{n:Nat}(h:∀i,i<n->f i=g i):arr f n=arr g n:=by
 refine List.map_congr_left λi hi=>?_
 rw[h i (by simpa using hi)]
theorem Qeu{f:Nat->Int}{n i:Nat}{v:Int}:(arr f n).set i [Ql v]=arr (λj=>if j=i then v else f j) n:=by
 refine List.ext_getElem? λj=>?_
 by_cases hj:j<n
 ·rw[G6 hj];by_cases h:i=j
  ·subst h;rw[List.getElem?_set_self (by rw[YX];exact hj),Qqf rfl]
  ·rw[List.getElem?_set_ne h,G6 hj,Qqh (λe=>h e.symm)]
 ·rw[QqD (by simp[YX];omega),QqD (by simp[YX];omega)]
theorem Bd{n:Nat}:List.replicate n [Ql 0]=arr (λ_=>0) n:=by
 refine List.ext_getElem? λj=>?_
 by_cases hj:j<n
 ·rw[G6 hj];simp[hj]
 ·rw[QqD Q3,QqD (by simp[YX];omega)]
def acc(ac g:Int):Int:=if 0<g then(if 50<ac-10*g then ac-10*g else 50)else ac
def brk(br g:Int):Int:=if g<0 then(if 50<br+10*g then br+10*g else 50)else br
theorem Q5M{ac g:Int}(a1:400<=ac)(a2:ac<=800)(g0 : -10<=g)(g1:g<=10):300<=acc ac g/\acc ac g<=800:=by
 unfold acc;split
 ·split<;>omega
 ·omega
theorem Q5S{br g:Int}(a1:400<=br)(a2:br<=800)(g0 : -10<=g)(g1:g<=10):300<=brk br g/\brk br g<=800:=by
 unfold brk;split
 ·split<;>omega
 ·omega
section
variable{nm:Y UInt8} {b t sp ac br g:Int} {n:Nat}
theorem Qfm(a1:400<=ac)(a2:ac<=800)(g0 : -10<=g)(g1:g<=10):MM n b g nm t sp ac br (some:Int->oP Int)=some (acc ac g):=by
 unfold MM acc;rw[Qo (x:=10*g) I I,Qo (x:=ac-10*g) I I];by_cases h:0<g
 ·rw[Xh (by simpa using h),Qqf h]
 ·rw[Qq (by simpa using h),Qqh h]
theorem QgY(a1:400<=br)(a2:br<=800)(g0 : -10<=g)(g1:g<=10):MJ n b g nm t sp ac br (some:Int->oP Int)=some (brk br g):=by
 unfold MJ brk;rw[Qo (x:=10*g) I I,Qo (x:=br+10*g) I I];by_cases h:g<0
 ·rw[Xh (by simpa using h),Qqf h]
 ·rw[Qq (by simpa using h),Qqh h]
theorem Qi3(a1:400<=ac)(a2:ac<=800)(g0 : -10<=g)(g1:g<=10):T7 n b g nm t sp ac br (some:Int->oP Int)=some (20000*acc ac g):=by
 have hr:=Q5M a1 a2 g0 g1;unfold T7;rw[Qo (x:=10*g) I I,Qo (x:=ac-10*g) I I];unfold acc at hr ⊢;by_cases h:0<g
 ·rw[Qqf h]at hr ⊢;rw[Xh (by simpa using h),Qo I I]
 ·rw[Qqh h]at hr ⊢;rw[Qq (by simpa using h),Qo I I]
theorem Qin(a1:400<=br)(a2:br<=800)(g0 : -10<=g)(g1:g<=10):HU n b g nm t sp ac br (some:Int->oP Int)=some (20000*brk br g):=by
 have hr:=Q5S a1 a2 g0 g1;unfold HU;rw[Qo (x:=10*g) I I,Qo (x:=br+10*g) I I];unfold brk at hr ⊢;by_cases h:g<0
 ·rw[Qqf h]at hr ⊢;rw[Xh (by simpa using h),Qo I I]
 ·rw[Qqh h]at hr ⊢;rw[Qq (by simpa using h),Qo I I]
end
structure Run where
 C:LL
 nm:List UInt8
 sp:Int
 ac:Int
 br:Int
 t:Nat
 st:Nat
 N:Nat
structure Run.OK(X:Run):Prop where
 hC:CellsOK X.C
 hk:StkN X.t X.sp X.ac X.br
 hN:X.C.length=X.st+X.N
 h2:2<=X.N
namespace Run
variable(X:Run)
def lm(b:Nat):Int:=Q81 X.C X.sp (X.st+b) X.t
def lo(b:Nat):Int:=if X.lm b<X.lm (b-1)then X.lm b else X.lm (b-1)
def V(b:Nat):Int:=X.lo b*X.lo b
def G(b:Nat):Int:=20000*acc X.ac (cl X.C (X.st+b)).2
def L(b:Nat):Int:=20000*brk X.br (cl X.C (X.st+b)).2
def F:Nat->Int
 |0=>0
 |b+1=>if F b+X.G b<X.V (b+1)then F b+X.G b else X.V (b+1)
def K:Nat->Int
 |0=>0
 |d+1=>if K d+X.L (X.N-(d+1))<X.F (X.N-(d+1))then K d+X.L (X.N-(d+1))else X.F (X.N-(d+1))
variable{X} (h:X.OK)
include h
theorem Qd7{b:Nat}(hb:b<X.N):5000<=X.lm b/\X.lm b<=25000:=Qbp h.hC (by have:=h.hN;omega) h.hk.s1 h.hk.s2
theorem Qb4{b:Nat}(hb:b<X.N):5000<=X.lo b/\X.lo b<=25000:=by
 have a:=Qd7 h hb;have h2:=Qd7 h (b:=b-1) I;unfold lo;split<;>omega
theorem Qen{b:Nat}(hb:b<X.N):25000000<=X.V b/\X.V b<=625000000:=by
 obtain⟨a,h2⟩:=Qb4 h hb;have:=Q5A Q1 a;have:=Q5A I h2;unfold V;omega
theorem Qdz{b:Nat}(hb:b<X.N):6000000<=X.G b/\X.G b<=16000000:=by
 have hN:=h.hN;have:=Q5M h.hk.a1 h.hk.a2 (h.hC.g0 (X.st+b) I) (h.hC.g1 (X.st+b) I);unfold G;omega
theorem Qcv{b:Nat}(hb:b<X.N):6000000<=X.L b/\X.L b<=16000000:=by
 have hN:=h.hN;have:=Q5S h.hk.b1 h.hk.b2 (h.hC.g0 (X.st+b) I) (h.hC.g1 (X.st+b) I);unfold L;omega
theorem QbE:∀b,b<X.N->0<=X.F b/\X.F b<=625000000/\(1<=b->6000000<=X.F b)
 |0,_=>by rw[F];omega
 |b+1,hb=>by
  have a:=QbE b I;have h2:=Qen h hb;have c:=Qdz h (b:=b) I;rw[F];split<;>omega
theorem Q5p:∀d,d<=X.N->0<=X.K d/\X.K d<=625000000/\(1<=d->d<X.N->6000000<=X.K d)
 |0,_=>by rw[K];omega
 |d+1,hd=>by
  have a:=Q5p d I;have h2:=QbE h (X.N-(d+1)) I;have c:=Qcv h (b:=X.N-(d+1)) I;rw[K];split<;>omega
theorem Qi2:X.K X.N=0:=by
 have h2:=h.h2;obtain⟨d,hd⟩:∃d,X.N=d+1:=⟨X.N-1,I⟩;have a:=Q5p h d I;have c:=Qcv h (b:=0) I;rw[hd,K,show X.N-(d+1)=0 by omega,F,Qqh I]
theorem row{b:Nat}(hb:b<X.N):X.C[X.st+b]? = some [Ql (cl X.C (X.st+b)).1,Ql (cl X.C (X.st+b)).2]:=h.hC.row _ (by have:=h.hN;omega)
end Run
theorem Qbg{f:Nat->Int}{n i:Nat}{v:Int}(h:i<n){R:Type}(K:LL->oP R):gb true (inB n (i:Int)) () (λ_=>gb true ((arr f n)[(Int.toNat (i:Int))]?) [] λr=>K ((arr f n).set (Int.toNat (i:Int)) (List.set r 0 (D.int .i64 v))))=K (arr (λj=>if j=i then v else f j) n):=by
 rw[XQ I I,Qh,Qq8,G6 h,Qh];show K ((arr f n).set i [Ql v])=_;rw[Qeu]
theorem Q8I{f:Nat->Int}{n i:Nat}(h:i<n){R:Type}(K:Int->oP R):gb true (inB n (i:Int)) () (λ_=>gb true ((arr f n)[(Int.toNat (i:Int))]?) [] λr=>gb true (r[0]?) oF λc=>gb true (pIw c) 0 λx=>K x)=K (f i):=by
 rw[XQ I I,Qh,Qq8,G6 h];rfl
theorem wI{a b:Int}(h:a=b)(c : -1000000<=b)(d:b<=1000000000):wJ a=b:=by rw[h,Qo I I]
namespace Run
variable{X:Run} (h:X.OK)
include h
def W(X:Run):LL:=arr (λj=>X.K (X.N-j)) (X.N+1)
theorem sqA:JP 400 X.C (X.st:Int) X.nm (X.t:Int) X.sp X.ac X.br (some:LL->oP LL)=some X.W:=by
 have hN:=h.hN;have h2:=h.h2;have hl:=h.hC.len;have t2:=h.hk.t2;have aj:wJ (wJ ((X.C.length:Int)-(X.st:Int))+1)=((X.N+1:Nat):Int):=by
  rw[Qo (x:=(X.C.length:Int)-(X.st:Int)) I I,Qo I I];omega
 unfold JP;rw[aj,show(bif decide ((0:Int)<=((X.N+1:Nat):Int))&&decide (((X.N+1:Nat):Int)<=((X.N+1:Nat):Int))then some ()else none)=some () by rw[Xh Q3],Qh,Qq8,XI I,Qh,QjU h.hC I I,Qh,Bd,QI I];have k:∀k0:Int->Int->Bool->LL->oP LL,YA 400 X.C (X.st:Int) (X.C.length:Int) X.nm (X.t:Int) X.sp X.ac X.br k0 400 (Q81 X.C X.sp X.st X.t) ((X.st+1:Nat):Int) (arr (λ_=>0) (X.N+1))=k0 (X.lm (X.N-1)) (X.C.length:Int) false (arr (λj=>if j<=X.N-1 then X.F j else 0) (X.N+1)):=by
  intro k0;have:=QY (r:=λm i=>YA 400 X.C (X.st:Int) (X.C.length:Int) X.nm (X.t:Int) X.sp X.ac X.br k0 m (X.lm i.toNat) ((X.st+1+i.toNat:Nat):Int) (arr (λj=>if j<=i.toNat then X.F j else 0) (X.N+1))) (N:=X.N-1) (e:=k0 (X.lm (X.N-1)) (X.C.length:Int) false (arr (λj=>if j<=X.N-1 then X.F j else 0) (X.N+1))) (λm i hi=>?_) (λm=>?_) (X.N-1) 400 0 I I
  ·have e:arr (λj=>if j<=(((0:Nat):Int)).toNat then X.F j else 0) (X.N+1)=arr (λ_=>0) (X.N+1):=Y0 λj hj=>by
    split
    ·rename_i d;have d:j=0:=by simpa using d
     subst d;rw[F]
    ·rfl
   rw[e]at this;exact this
  ·simp only[Qq8];have f:=h.hC.g0 (X.st+i) I;have g:=h.hC.g1 (X.st+i) I;have hr:=row h (b:=i) I;have am:=Qb4 h (b:=i+1) I;have hV:=Qen h (b:=i+1) I;have hF:=QbE h i I;have hG:=Qdz h (b:=i) I;rw[YA,Qt (show X.st+1+i<X.C.length by omega),Qqa,QjU h.hC I I,Qh,wI (show((X.st+1+i:Nat):Int)-1=((X.st+i:Nat):Int) by omega) I I,wI (show((X.st+i:Nat):Int)-(X.st:Int)=(i:Int) by omega) I I,YX,Q8I I,Qp,hr,wI (show((X.st+1+i:Nat):Int)-(X.st:Int)=((i+1:Nat):Int) by omega) I I];simp -implicitDefEqProofs only[Qh,Qq6,Qq7,Qj,XR,X2,Qqa,Qq9,Qqd,Qqc,Qi3 h.hk.a1 h.hk.a2 f g];rw[Qbg I];rw[QI I,show Q81 X.C X.sp (X.st+1+i) X.t=X.lm (i+1) by unfold lm;rw[Nat.add_assoc,Nat.add_comm 1 i],show X.st+1+i+1=X.st+1+(i+1) by omega];refine congrArg _ (Y0 λj hj=>?_);by_cases ai:j=i+1
   ·subst ai;have e1:(if X.lm (i+1)<X.lm i then X.lm (i+1)else X.lm i)=X.lo (i+1):=rfl;rw[Qqf rfl,Qqf (Qqm i),e1,wI (a:=X.lo (i+1)*X.lo (i+1)) (b:=X.V (i+1)) rfl I I,wI (a:=X.F i+20000*acc X.ac (cl X.C (X.st+i)).2) (b:=X.F i+X.G i) rfl I I,Qqf (Qqm (i+1)),F]
   ·rw[Qqh ai];by_cases c:j<=i
    ·rw[Qqf c,Qqf I]
    ·rw[Qqh c,Qqh I]
  ·simp only[Qq8];rw[show X.st+1+(X.N-1)=X.C.length by omega,YA,Qz,Qq9]
 rw[k,wI (show(X.C.length:Int)-1=((X.st+X.N-1:Nat):Int) by omega) I I];have:=QY (r:=λm i=>Z9 400 X.C (X.st:Int) X.nm (X.t:Int) X.sp X.ac X.br (λ_ _ l=>some l) m ((X.st+X.N-1-i.toNat:Nat):Int) (arr (λj=>if X.N-j<=i.toNat then X.K (X.N-j)else X.F j) (X.N+1))) (N:=X.N-1) (e:=some X.W) (λm i hi=>?_) (λm=>?_) (X.N-1) 400 0 I I
 ·have e:arr (λj=>if X.N-j<=(((0:Nat):Int)).toNat then X.K (X.N-j)else X.F j) (X.N+1)=arr (λj=>if j<=X.N-1 then X.F j else 0) (X.N+1):=Y0 λj hj=>by
   by_cases ak:j=X.N
   ·subst ak;rw[Qqf Q2,Qqh I,Nat.sub_self,K]
   ·rw[Qqh Q3,Qqf I]
  rw[e]at this;exact this
 ·simp only[Qq8];obtain⟨b,hb⟩:∃b,b+1=X.N-i:=⟨X.N-i-1,I⟩;have o:1<=b:=I
  have f:=h.hC.g0 (X.st+b) I;have g:=h.hC.g1 (X.st+b) I;have hr:=row h (b:=b) I;have hK:=Q5p h i I;have hL:=Qcv h (b:=b) I;rw[Z9,show X.st+X.N-1-i=X.st+b by omega,Xh Q3,wI (show((X.st+b:Nat):Int)-(X.st:Int)=(b:Int) by omega) I I,YX,Q8I I,QI I,wI (show((X.st+b+1:Nat):Int)-(X.st:Int)=((b+1:Nat):Int) by omega) I I,Q8I I,Qp,hr];simp -implicitDefEqProofs only[Qh,Qq6,Qq7,Qj,XR,X2,Qqa,Qq9,Qqd,Qqc,Qin h.hk.b1 h.hk.b2 f g];rw[Qbg I,wI (show((X.st+b:Nat):Int)-1=((X.st+X.N-1-(i+1):Nat):Int) by omega) I I];refine congrArg _ (Y0 λj hj=>?_);by_cases aa:j=b
  ·subst aa;rw[Qqf rfl,Qqh (show ¬ X.N-j<=i by omega),Qqf (show X.N-(j+1)<=i by omega),Qqf (show X.N-j<=i+1 by omega),show X.N-j=i+1 by omega,K,show X.N-(j+1)=i by omega,show X.N-(i+1)=j by omega,wI (a:=X.K i+20000*brk X.br (cl X.C (X.st+j)).2) (b:=X.K i+X.L j) rfl I I]
  ·rw[Qqh aa];by_cases c:X.N-j<=i
   ·rw[Qqf c,Qqf I]
   ·rw[Qqh c,Qqh I]
 ·simp only[Qq8];rw[Z9,show X.st+X.N-1-(X.N-1)=X.st by omega,Qq Q2];refine congrArg some (Y0 λj hj=>?_);by_cases n:j=0
  ·subst n;rw[Qqh I,F,Nat.sub_zero,Qi2 h]
  ·rw[Qqf I]
end Run
theorem JT{k:Nat}(a:k<=1000)(b:1<=k):wJ ((k:Int)-1)=((k-1:Nat):Int):=by grind[Qo]
section
variable{R:Type} {Sk Ro Ls Ch Tu Sy De:LL} {per:Int} {n:Nat}
theorem Q6h{mn mx:Int}(a:0<=mn)(b:mn<=mx)(h2:mx<mn+per)(c:mn<=1000)(p1:per<=300)(K:Bool->oP R):Kn n per Sk Ro Ls Ch Tu Sy De mn mx K=K true:=by
 grind[Kn,decide,Qo]
theorem Qij{k i:Nat}{r:Y D}(h:Tj Ls k i r)(hl:Ls.length<=1000)(hr:∀nm w rides,Ls[k]? = some [D.str nm,Ql 0,Ql w,D.sl 4 rides]->rides.length<=1000)(K:Bool->oP R):Jz n per Sk Ro Ls Ch Tu Sy De (k:Int) (i:Int) K=K true:=by
 obtain⟨nm,w,rides,a,h2⟩:=h;have hk:=(Qqe.1 a).1;have hi:=(Qqe.1 h2).1;have hr:=hr _ _ _ a;unfold Jz;rw[JT hl I,Q5d I I,Qh,Qp,a];simp -implicitDefEqProofs only[Qh,Qq6,Qq7,Qj,XR,X2,Qqa,Qq9,Qqd,Qqc,JT hr I,Q5d (show(0:Int)<=(i:Int) by omega) (show(i:Int)<=((rides.length-1:Nat):Int) by omega)]
theorem QaV{G:Geo}{x y:Int}{s:LL}(a:RtOK G s x y)(K:Int->oP R):VE n s 0 K=K x:=by
 obtain⟨d,h5⟩:=a.fst
 simp_all [VE,Qh,Qq6,Qq7,Qj,XR,X2,Qqa,Qq9,Qqd,Qqc]
theorem Qdu{G:Geo}{x y:Int}{s:LL}(a:RtOK G s x y)(K:Int->oP R):Jt n s 0 K=K y:=by
 obtain⟨d,h5⟩:=a.lst;have l24:=a.l24;unfold Jt;rw[Qo (x:=(s.length:Int)-0) I I,Qo I I,Int.sub_zero,h5];rfl
theorem Bh{k i:Nat}{rt:Nat}{ex mn mx:Int}{s:LL}(h:Tj Ls k i [Ql rt,Ql ex,Ql mn,Ql mx])(a:Ro[rt]? = some [D.sl 2 s,Ql 0])(K:D->D->oP R):Xj n per Sk Ro Ls Ch Tu Sy De (k:Int) (i:Int) K=K (D.sl 2 s) (Ql 0):=by
 obtain⟨nm,w,rides,b,h2⟩:=h
 simp_all [Xj,Qh,Qq6,Qq7,Qj,XR,X2,Qqa,Qq9,Qqd,Qqc,Qp]
theorem Qjj{i:Nat}(hi:i<8):M7 400 (nmN i) (some:Bool->oP Bool)=some true:=by
 obtain rfl | rfl | rfl | rfl | rfl | rfl | rfl | rfl:i=0\/i=1\/i=2\/i=3\/i=4\/i=5\/i=6\/i=7:=I
 all_goals rfl
theorem QgS(hs:Q1r Sk):Gx 400 per Sk Ro Ls Ch Tu Sy De 0 (some:Int->oP Int)=some 0:=by
 obtain⟨a,b,c,d,rfl,t1,t2,s1,s2,a1,a2,b1,b2⟩:=hs;have h:Gx 400 per [[D.str (bs [88]),Ql a,Ql b,Ql c,Ql d]] Ro Ls Ch Tu Sy De 0 (some:Int->oP Int)=gb true (Ya 400 (bs [88]) a b c d some) false (λr=>bif !r then some 4 else some 0):=by kernel_rfl
 have hst:Ya 400 (bs [88]) a b c d (some:Bool->oP Bool)=some true:=by
  unfold Ya;simp -implicitDefEqProofs only[Qh,Qq6,Qq7,Qj,XR,X2,Qqa,Qq9,Qqd,Qqc,Q5c t1 (show a<=40 by omega),Q5c (show 1000<=b by omega) (show b<=100000 by omega),Q5c (show 100<=c by omega) (show c<=2000 by omega),Q5c (show 100<=d by omega) (show d<=2000 by omega)]
 rw[h,hst];rfl
end
section
variable{R:Type} {G:Geo} {Sk Ro Ls Ch Tu Sy De:LL} {per:Int} (h:PlanR G per Sk Ro Ls Ch Tu Sy De)
include h
theorem Qgz{k:Nat}:∀nm w rides,Ls[k]? = some [D.str nm,Ql 0,Ql w,D.sl 4 rides]->rides.length<=1000:=by
 intro nm w rides e;obtain⟨w',aa,e',hr,_⟩:=C8 h.good (Qqe.1 e).1
 grind
theorem Q7I{k i:Nat}{r:Y D}(hr:Tj Ls k i r)(K:Bool->oP R):Jz 400 per Sk Ro Ls Ch Tu Sy De (k:Int) (i:Int) K=K true:=by
 have:=h.l1
 grind[Qij,Qgz]
theorem QiD:Fh 400 per Sk Ro Ls Ch Tu Sy De (some:Bool->oP Bool)=some false:=by
 obtain⟨_,_,_,_,ac,_⟩:=h.sk;obtain⟨T,hT,_,_,_,ai⟩:=h.tu;have l1:=h.l1;have l2:=h.rl;have a:=h.chl;have c:=h.syl;have d:=h.del;have lk:Sk.length=1:=by rw[ac];rfl
 have lt:Tu.length<=20:=by rw[hT];simpa using ai
 have aa:∀{k:Nat} {b:Int},(k:Int)<=b->decide ((k:Int)>b)=false:=λh=>by simpa using h
 unfold Fh;simp -implicitDefEqProofs only[aa (show(Sk.length:Int)<=8 by omega),aa (show(Ro.length:Int)<=48 by omega),aa (show(Ls.length:Int)<=16 by omega),aa (show(Ch.length:Int)<=32 by omega),aa (show(Tu.length:Int)<=32 by omega),aa (show(Sy.length:Int)<=32 by omega),aa (show(De.length:Int)<=32 by omega),Qq9];refine QY (r:=λm h=>G7 400 Ls _ _ m h) (N:=Ls.length) (λm k hk=>?_) (λm=>?_) Ls.length 400 0 I I
 ·obtain⟨w,rides,e,hr,_⟩:=C8 h.good hk;rw[G7,Qt hk,Qp,e];simp -implicitDefEqProofs only[Qh,Qq6,Qq7,Qj,XR,X2,Qqa,Qq9,Qqd,Qqc,aa (show(rides.length:Int)<=12 by omega),QI (show k<=1000 by omega)]
 ·rw[G7,Qz,Qq9]
theorem QhY{k:Nat}(hk:k<Ls.length):KR 400 G.St G.Pt G.Se G.Li per Sk Ro Ls Ch Tu Sy De (k:Int) (some:Int->oP Int)=some 0:=by
 have l1:=h.l1;have p1:=h.p1;have p0:=h.p0;obtain⟨a,v,c,d,an,am⟩:=h.sk;obtain⟨w,rides,e,w0,t,aa⟩:=h.good.ls k _ (Qqb hk);have e:=(Qqb hk).trans (congrArg some e);have ay:rides.length=1\/rides.length=2:=by rcases aa with⟨_,_,_,rfl,_⟩|⟨_,_,_,_,_,rfl,_⟩;exact .inl rfl;exact .inr rfl
 have f:Qi Sk (0:Int)=some [D.str (bs [88]),Ql a,Ql v,Ql c,Ql d]:=by rw[an];rfl
 have ar:Sk.length=1:=by rw[an];rfl
 unfold KR;rw[Qp,e];simp -implicitDefEqProofs only[Qh,Qq6,Qq7,Qj,XR,X2,Qqa,Qq9,Qqd,Qqc,Qjj (show k<8 by omega)];refine(QY (r:=λm h=>Wz 400 (k:Int) Ls (D.str (nmN k)) _ _ m h) (N:=k) (λm i hi=>?_) (λm=>?_) k 400 0 I I)
 ·obtain⟨w',ao,e',_⟩:=C8 h.good (show i<Ls.length by omega);rw[Wz,Qt hi,Qp,e'];simp -implicitDefEqProofs only[Qh,Qq6,Qq7,Qj,XR,X2,Qqa,Qq9,Qqd,Qqc,Qgr (show i<8 by omega) (show k<8 by omega) (show i≠k by omega),QI (show i<=1000 by omega)]
 ·rw[Wz,Qz,Qq9,ar,JT Q1 Q1];simp -implicitDefEqProofs only[Qh,Qq6,Qq7,Qj,XR,X2,Qqa,Qq9,Qqd,Qqc,Q5d (show(0:Int)<=0 by omega) (show(0:Int)<=((1-1:Nat):Int) by decide),Q5d w0 (show w<=1048576 by omega),show((rides.length:Int) == 0)=false by simp;intro hx;simp[hx]at ay];refine(QY (r:=λm h=>Wr 400 G.St G.Pt G.Se G.Li per Sk Ro Ls Ch Tu Sy De (Ql 0) (D.sl 4 rides) _ _ m h) (N:=rides.length) (λm i hi=>?_) (λm=>?_) rides.length 400 0 I I)
  ·obtain⟨r,x,y,b,hr,hR,hb,ac⟩:∃r x y b,rides[i]? = some r/\PC G Ro r x y b/\(i+1=rides.length->b=true)/\(∀j,j+1=i->∃r' x' b',rides[j]? = some r'/\PC G Ro r' x' x b'):=by
    rcases aa with⟨r,x,y,rfl,h⟩|⟨r,r',x,y,z,rfl,h,h'⟩
    ·have hi:i=0:=by simpa using hi
     subst hi;exact⟨r,x,y,true,rfl,h,λ_=>rfl,λj hj=>by omega⟩
    ·obtain rfl | rfl:i=0\/i=1:=by simp at hi;omega
     ·exact⟨r,x,y,false,rfl,h,λh=>by simp at h,λj hj=>by omega⟩
     ·refine⟨r',y,z,true,rfl,h',λ_=>rfl,λj hj=>?_⟩;have hj:j=0:=I
      subst hj;exact⟨r,x,false,rfl,h⟩
   obtain⟨rt,ex,mn,mx,s,rfl,aj,hs,⟨l,u⟩,⟨o,p,m2,m3⟩,hlast⟩:=hR;have a6:rt<Ro.length:=(Qqe.1 aj).1;have l2:=h.rl;have hq:∀z:Bool,(bif ((i:Int) == ((rides.length-1:Nat):Int))then(bif (mn != (0:Int))then true else(mx != (0:Int)))else false)=false:=by
    intro z;by_cases q:i+1=rides.length
    ·obtain⟨rfl,rfl⟩:=hlast (hb q);rw[show((0:Int) != 0)=false from rfl];cases ((i:Int) == ((rides.length-1:Nat):Int))<;>rfl
    ·rw[show((i:Int) == ((rides.length-1:Nat):Int))=false by simp;omega];rfl
   have az:∀{g:Bool} {β:Type} {a z:β} {k:β->oP Int},gb g (some a) z k=k a:=λ{g β a z k}=>rfl
   rw[Wr,X2,Qh,Qt hi];simp -implicitDefEqProofs only[Qh,Qq6,Qq7,Qj,XR,X2,Qqa,Qq9,Qqd,Qqc,Qp,hr,JT (show rides.length<=1000 by omega) (show 1<=rides.length by omega),JT (show Ro.length<=1000 by omega) (show 1<=Ro.length by omega),Qo (x:=per-1) I I,Q5d (show(0:Int)<=(rt:Int) by omega) (show(rt:Int)<=((Ro.length-1:Nat):Int) by omega),Q5d l (show ex<=per-1 by omega),Q6h (Sk:=Sk) (Ro:=Ro) (Ls:=Ls) (Ch:=Ch) (Tu:=Tu) (Sy:=Sy) (De:=De) (n:=400) o p (show mx<mn+per by omega) I p1,hq true,aj,f,Qan (hs.f h.ok) am,show((0:Int) != 0)=false from rfl];cases i with
   |zero=>
    rw[show decide (((0:Nat):Int)>0)=false from rfl];simp only[gbF,Qq9];rfl
   |succ j=>
    obtain⟨r',x',b',aw,ax⟩:=ac j rfl;obtain⟨a5,a2,a4,a7,s',rfl,ak,au,_⟩:=ax;simp -implicitDefEqProofs only[Qh,Qq6,Qq7,Qj,XR,X2,Qqa,Qq9,Qqd,Qqc,show decide (((j+1:Nat):Int)>0)=true by simp,QaV hs,show wJ (((j+1:Nat):Int)-1)=(j:Int) by rw[Qo I I];omega,Qp,aw,ak,Qdu au,show(x != x)=false by simp,QI (show j+1<=1000 by omega)]
  ·rw[Wr,X2,Qh,Qz,Qq9]
end
section
variable{R:Type} {G:Geo} {Sk Ro Ls Ch Tu Sy De:LL} {per:Int} (h:PlanR G per Sk Ro Ls Ch Tu Sy De)
include h
theorem Qcq{k0:Int->oP R}{k1:Int->Bool->oP R}:Zg 400 G.St G.Pt G.Se G.Li per Sk Ro Ls Ch Tu Sy De k0 k1 400 0=k1 (Ch.length:Int) false:=by
 have l2:=h.chl;have p1:=h.p1;refine QY (r:=λm h=>Zg 400 G.St G.Pt G.Se G.Li per Sk Ro Ls Ch Tu Sy De _ _ m h) (N:=Ch.length) (λm k hk=>?_) (λm=>?_) Ch.length 400 0 I I
 ·obtain⟨f,fr,t,tr,mn,mx,w,r,r',x,y,x',y',b,b',i,e,hr,aa,hR,ak,au,⟨a,j,c,d⟩,⟨w0,l⟩,⟨n,a1,c1,d1,g1⟩,⟨o,a2,p,q,g⟩,hi⟩:=h.ch _ (Qqk hk);have hb:=Q7I (R:=Bool) h hr;have am:=Q7I (R:=Bool) h aa;obtain⟨rt,ex,rn,rx,s,rfl,aj,hs,_⟩:=hR;obtain⟨ao,an,aw,ar,s',rfl,ac,ai,_⟩:=ak;rw[Zg,Qt hk,Qp,Qqb hk,e];simp -implicitDefEqProofs only[Qh,Qq6,Qq7,Qj,XR,X2,Qqa,Qq9,Qqd,Qqc,HD,hb,am,Q6h a c d (show mn<=1000 by omega) p1,Q5d w0 (show w<=1048576 by omega),show((f:Int) == (t:Int))=false by simp;omega,Bh hr aj,Bh aa ac,Qdu hs,QaV ai,g1,g,show decide (i<0)=false by simp;omega,show(i != i)=false by simp,show((0:Int) != 0)=false from rfl,QI (show k<=1000 by omega)]
 ·rw[Zg,Qz,Qq9]
theorem QgC{k0:Int->oP R}{k1:Int->Bool->oP R}:Za 400 per Sk Ro Ls Ch Tu Sy De k0 k1 400 0=k1 (Tu.length:Int) false:=by
 obtain⟨T,hT,t1,t2,d,q⟩:=h.tu;have hl:Tu.length=T.length:=by rw[hT];simp
 have p0:=h.p0;have p1:=h.p1;have l1:=h.l1;refine QY (r:=λm h=>Za 400 per Sk Ro Ls Ch Tu Sy De _ _ m h) (N:=Tu.length) (λm k hk=>?_) (λm=>?_) Tu.length 400 0 I I
 ·have aa:k<T.length:=I
  have at':∀j (hj:j<T.length),Tu[j]? = some (tuR T[j]):=λj hj=>by rw[hT,Qqr,Qqb hj];rfl
  obtain⟨u,v,u3,u4,e,u6,nm,w,rides,r,r',x,y,z,b,b',e1,e2,f,e4,c,hR,ao⟩:=t1 _ (Qqk aa);obtain⟨rt,ex,rn,rx,s,rfl,an,hs,_⟩:=hR;obtain⟨a3,ay,a6,a4,s',rfl,ai,ak,_⟩:=ao;have q1:=Bh (R:=D×D) (n:=400) (per:=per) (Sk:=Sk) (Ch:=Ch) (Tu:=Tu) (Sy:=Sy) (De:=De) (Ro:=Ro) ⟨nm,w,rides,e1,e2⟩ an;have a:=Bh (R:=D×D) (n:=400) (per:=per) (Sk:=Sk) (Ch:=Ch) (Tu:=Tu) (Sy:=Sy) (De:=De) (Ro:=Ro) c ai;obtain⟨a7,w',aj,g,e6⟩:=c;have a:Xj 400 per Sk Ro Ls Ch Tu Sy De (T[k].2.1:Int) 0 Tu2=some (D.sl 2 s',Ql 0):=a _;have ac:∀t∈T.take k,(t.1:Int)≠(T[k].1:Int)/\(t.2.1:Int)≠(T[k].2.1:Int):=by
   intro t ht;have p:=Mz t2 (i:=k) (by simpa using aa) t.1 (by rw[<- List.map_take];exact List.mem_map_of_mem ht);have h2:=Mz d (i:=k) (by simpa using aa) t.2.1 (by rw[<- List.map_take];exact List.mem_map_of_mem ht);rw[List.getElem_map]at p h2;exact⟨I,I⟩
  have am:KW 400 per Sk Ro Ls Ch Tu Sy De (k:Int) (some:Int->oP Int)=some 0:=by
   unfold KW;rw[Qp,at' k aa];simp -implicitDefEqProofs only[Qh,Qq6,Qq7,Qj,XR,X2,Qqa,Qq9,Qqd,Qqc,tuR,JT (show Ls.length<=1000 by omega) (show 1<=Ls.length by omega),Q5d (show(0:Int)<=(T[k].1:Int) by omega) (show(T[k].1:Int)<=((Ls.length-1:Nat):Int) by omega),Q5d (show(0:Int)<=(T[k].2.1:Int) by omega) (show(T[k].2.1:Int)<=((Ls.length-1:Nat):Int) by omega),Q6h (Sk:=Sk) (Ro:=Ro) (Ls:=Ls) (Ch:=Ch) (Tu:=Tu) (Sy:=Sy) (De:=De) (n:=400) (show 0<=T[k].2.2.1 by omega) e (show T[k].2.2.2<T[k].2.2.1+per by omega) I p1];refine(QY (r:=λm h=>WA 400 (k:Int) Tu (Ql (T[k].1:Nat)) (Ql (T[k].2.1:Nat)) _ _ m h) (N:=k) (λm i hi=>?_) (λm=>?_) k 400 0 I I)
   ·obtain⟨n1,n2⟩:=ac T[i] (by rw[List.mem_take_iff_getElem];exact⟨i,I,rfl⟩);rw[WA,Qt hi,Qp,at' i I];simp -implicitDefEqProofs only[Qh,Qq6,Qq7,Qj,XR,X2,Qqa,Qq9,Qqd,Qqc,tuR,show((T[i].1:Int) == (T[k].1:Int))=false by simpa using n1,show((T[i].2.1:Int) == (T[k].2.1:Int))=false by simpa using n2,QI (show i<=1000 by omega)]
   ·rw[WA,Qz,Qq9,Qp,e1];simp -implicitDefEqProofs only[Qh,Qq6,Qq7,Qj,XR,X2,Qqa,Qq9,Qqd,Qqc,Qp,g,JT (show rides.length<=1000 by omega) f,q1,a,Qdu hs,QaV ak,show(y != y)=false by simp,show((0:Int) != 0)=false from rfl]
  rw[Za,Qt hk,Qqa,am,Qh,Qq (by rfl),QI I]
 ·rw[Za,Qz,Qq9]
theorem QgF{k0:oP R}{k1:Int->Bool->oP R}:Z6 400 per Sk Ro Ls Ch Tu Sy De k0 k1 400 0=k1 (Sy.length:Int) false:=by
 have l2:=h.syl;have l0:=h.l0;have p1:=h.p1;refine QY (r:=λm h=>Z6 400 per Sk Ro Ls Ch Tu Sy De _ _ m h) (N:=Sy.length) (λm k hk=>?_) (λm=>?_) Sy.length 400 0 I I
 ·obtain⟨o,e,a,b,h2⟩:=h.sy _ (Qqk hk);obtain⟨r,hr⟩:=Q6Y h (k:=0) I;obtain⟨r',aa⟩:=Q6Y h (k:=1) I;have e1:=Q7I (R:=Bool) h hr some;have e2:=Q7I (R:=Bool) h aa some;rw[Z6,Qt hk,Qp,Qqb hk,e];simp -implicitDefEqProofs only[Qh,Qq6,Qq7,Qj,XR,X2,Qqa,Qq9,Qqd,Qqc,show Jz 400 per Sk Ro Ls Ch Tu Sy De 0 0 (some:Bool->oP Bool)=some true from e1,show Jz 400 per Sk Ro Ls Ch Tu Sy De 1 0 (some:Bool->oP Bool)=some true from e2,show((0:Int) == 1)=false from rfl,Qo (x:=per-1) I I,Q5d a (show o<=per-1 by omega),QI (show k<=1000 by omega)]
 ·rw[Z6,Qz,Qq9]
theorem Qbn{k0:oP R}{k1:Int->Bool->oP R}:Zc 400 G.St De k0 k1 400 0=k1 (De.length:Int) false:=by
 have l2:=h.del;have hN:=h.ok.hN;refine QY (r:=λm h=>Zc 400 G.St De _ _ m h) (N:=De.length) (λm k hk=>?_) (λm=>?_) De.length 400 0 I I
 ·obtain⟨f,t,w,e,⟨a,b⟩,⟨t0,t1⟩,aa,w0,c⟩:=h.de _ (Qqk hk);rw[Zc,Qt hk,Qp,Qqb hk,e];simp -implicitDefEqProofs only[Qh,Qq6,Qq7,Qj,XR,X2,Qqa,Qq9,Qqd,Qqc,h.ok.st,Qo (x:=(G.N:Int)-1) I I,Q5d a (show f<=(G.N:Int)-1 by omega),Q5d t0 (show t<=(G.N:Int)-1 by omega),Q5d w0 (show w<=1048576 by omega),show(f == t)=false by simpa using aa,QI (show k<=1000 by omega)]
 ·rw[Zc,Qz,Qq9]
theorem QiA:We 400 G.St G.Pt G.Se G.Li per Sk Ro Ls Ch Tu Sy De (some:Int->oP Int)=some 0:=by
 have p0:=h.p0;have p1:=h.p1;have l1:=h.l1;have l2:=h.rl;obtain⟨_,_,_,_,aa,_⟩:=h.sk;have ac:Sk.length=1:=by rw[aa];rfl
 have e1:Vw 400 G.St G.Pt G.Se G.Li (some:Int->oP Int)=some 0:=VT h.ok.ref;unfold We;simp -implicitDefEqProofs only[Qh,Qq6,Qq7,Qj,XR,X2,Qqa,Qq9,Qqd,Qqc,e1,QiD h,Q5d (show 2<=per by omega) (show per<=7200 by omega),show((0:Int) != 0)=false from rfl];refine QY (r:=λm h=>Wv 400 per Sk Ro Ls Ch Tu Sy De _ _ m h) (N:=Sk.length) (λm k hk=>?_) (λm=>?_) Sk.length 400 0 I I
 ·obtain rfl:k=0:=I
  rw[Wv,Qt hk,Qqa,show((0:Nat):Int)=0 from rfl,QgS h.sk,Qh,Qq (by rfl)];rfl
 rw[Wv,Qz,Qq9];refine QY (r:=λm h=>Wq 400 G.St G.Pt G.Se G.Li Ro _ _ m h) (N:=Ro.length) (λm k hk=>?_) (λm=>?_) Ro.length 400 0 I I
 ·obtain⟨s,x,y,e,hs⟩:=h.good.ro _ (Qqk hk);rw[Wq,Qt hk,Qp,Qqb hk,e];simp -implicitDefEqProofs only[Qh,Qq6,Qq7,Qj,XR,X2,Qqa,Qq9,Qqd,Qqc,Q4Z h.ok.ref rfl hs.l2 hs.l24 hs.rt6,show((0:Int) != 0)=false from rfl,QI (show k<=1000 by omega)]
 rw[Wq,Qz,Qq9];refine QY (r:=λm h=>Wu 400 G.St G.Pt G.Se G.Li per Sk Ro Ls Ch Tu Sy De _ _ m h) (N:=Ls.length) (λm k hk=>?_) (λm=>?_) Ls.length 400 0 I I
 ·rw[Wu,Qt hk,Qqa,QhY h hk,Qh,Qq (by rfl),QI I]
 rw[Wu,Qz,Qq9,Qcq h,QgC h,QgF h,Qbn h]
end
end Go.Vx
namespace Go.Vx
variable{R:Type} (n:Nat)
def Y4(n:Nat)(b h5 h7:LL)(d:Int)(g:LL)(e:Int)(k0:QlD R):Qlw R
|0,_,_,_,_=>none
|m+1,h6,a,f,c=>bif decide (a<d)then Ql4 R h7 a λo=>QkA R b h6 λh=>Qc R (Y5 ((f.length+[[Ql h]].length)*8)) λaa=>Qa R (decide (a<wJ ((h5.length:Int)-1))) λad=>Qb R (f++[[Ql h]]) λae=>Qb R (wJ (a+1)) λag=>bif decide (a>0)then Qc R (pIw o) λr=>QkG R g r λi=>bif ad then QkA R b (wJ (wJ (h6+i)+e)) λk=>Qc R (Y5 ((c.length+[[Ql k]].length)*8)) λab=>Y4 n b h5 h7 d g e k0 m (wJ (h6+i)) ag ae (c++[[Ql k]])else Y4 n b h5 h7 d g e k0 m (wJ (h6+i)) ag ae c else bif ad then QkA R b (wJ (h6+e)) λl=>Qc R (Y5 ((c.length+[[Ql l]].length)*8)) λac=>Y4 n b h5 h7 d g e k0 m h6 ag ae (c++[[Ql l]])else Y4 n b h5 h7 d g e k0 m h6 ag ae c else k0 h6 a (decide (a<d)) f c
def H5(q r f s g:LL)(h:Int)(i:Y UInt8)(c j k l:Int)(K:LL->LL->Int->Int->oP R):oP R:=Qc R (Hm n q r f s g h i c j k l Tu3) λa=>bif a.2.2 !=0 then K [] [] 0 a.2.2 else Qc R (Js n a.1 a.2.1 i c j k l Tu2) λb=>Qc R (Ui n g h some) λe=>Y4 n b.1 e e (e.length:Int) f c (λm ab ac t o=>QkA R b.1 m λp=>Qc R (Y5 ((o.length+[[Ql p]].length)*8)) λad=>QkA R b.1 m λz=>Qc R (JR n z some) λaa=>K t (o++[[Ql p]]) aa 0) n 0 0 [] []
def XV(h7 d:LL)(b:Int)(k0:Qlj R):Qlk R
|0,_,_=>none
|m+1,a,c=>bif decide (a<b)then QkA R h7 (wJ (a-1)) λi=>Qc R (Vh n i some) λe=>QkA R d a λl=>Qc R (JR n l some) λf=>Qb R [[Ql 0,Ql (wJ (e-16)),Ql (wJ (f+4))]] λp=>Qc R (Y5 ((c.length+p.length)*24)) λo=>XV h7 d b k0 m (wJ (a+1)) (c++p)else k0 a (decide (a<b)) c
def QA(f:Int)(l:LL)(g:Int)(h i e j k:LL)(c d:Int)(k0:Qls R):Qlu R
|0,_,_,_=>none
|m+1,a,b,q=>bif decide (a<g)then QkB R l a λr v=>Qb R (wJ (a+1)) λcp=>Qb R (wJ (a-1)) λcq=>Qb R (e.length:Int) λcr=>bif decide (a>f)then Qc R (Y5 ((b.length+[[Ql 0,Ql c,Ql d]].length)*24)) λbu=>Qc R (pIw r) λad=>Qb R (b++[[Ql 0,Ql c,Ql d]]) λco=>QkS R (List.length co) a co a.toNat λah=>Qkz R (List.length co) a co a.toNat λai=>QkQ R ai λak=>Qc R (XF n q ad ah ak some) λo=>Qc R (SY o q.length) λca=>bif a==0 then QA f l g h i e j k c d k0 m cp co o else QkB R k cq λal am=>QkW R al am r v λan ao ap aq=>Qc R (Zw n h i e j an ao ap aq some) λs=>bif decide (s<0)then QA f l g h i e j k c d k0 m cp co o else bif decide (a<=f)then QkS R (List.length co) a co a.toNat λav=>Qkz R (List.length co) cq co (Int.toNat cq) λaw=>QkQ R aw λay=>Qc R (XF n o (wJ (cr+s)) av ay some) λy=>Qc R (SY y o.length) λce=>QA f l g h i e j k c d k0 m cp co y else Qc R (XF n o (wJ (cr+s)) c d some) λz=>Qc R (SY z o.length) λcf=>QA f l g h i e j k c d k0 m cp co z else Qc R (pIw r) λaz=>QkS R b.length a b a.toNat λbc=>Qkz R b.length a b a.toNat λbd=>QkQ R bd λbg=>Qc R (XF n q az bc bg some) λp=>Qc R (SY p q.length) λci=>bif a==0 then QA f l g h i e j k c d k0 m cp b p else QkB R k cq λbh bi=>QkW R bh bi r v λbj bk bl bm=>Qc R (Zw n h i e j bj bk bl bm some) λt=>bif decide (t<0)then QA f l g h i e j k c d k0 m cp b p else bif decide (a<=f)then QkS R b.length a b a.toNat λbp=>Qkz R b.length cq b (Int.toNat cq) λbq=>QkQ R bq λbt=>Qc R (XF n p (wJ (cr+t)) bp bt some) λab=>Qc R (SY ab p.length) λcm=>QA f l g h i e j k c d k0 m cp b ab else Qc R (XF n p (wJ (cr+t)) c d some) λac=>Qc R (SY ac p.length) λcn=>QA f l g h i e j k c d k0 m cp b ac else k0 a (decide (a<g)) b q
def Jk(c d e f b:LL)(l:Int)(m:Y UInt8)(o p q r s h:Int)(K:Qlt R):oP R:=gb true (H5 n c d e f b l m o p q r Tu4) ([],[],0,0) λa=>bif a.2.2.2 !=0 then K [] 0 a.2.2.2 else QkA R a.2.1 0 λv=>Qc R (JR n v some) λx=>Qb R (wJ ((a.1.length:Int)-1)) λt=>XV n a.1 a.2.1 t (λai aj i=>QkA R a.1 (wJ (t-1)) λaa=>Qc R (Vh n aa some) λj=>Qb R [[Ql 0,Ql (wJ (j-16)),Ql (wJ (a.2.2.1+h))]] λu=>Qc R (Y5 ((i.length+u.length)*24)) λak=>QkA R a.1 t λad=>Qc R (Vh n ad some) λae=>Qc R (J7 n c d e f some) λag=>QA n t b (b.length:Int) c d e f b (wJ (ae-16)) (wJ (a.2.2.1+20)) (λal am an ah=>Qc R (Vl n ah some) λk=>Qc R (Lb [k]) λao=>K k a.2.2.1 0) n 0 (i++u) ag) n 1 [[Ql 0,Ql (wJ (0-s)),Ql (wJ (x+4))]]
def Up(e f g h i:LL)(j:Int)(k:Y UInt8)(l m o p c d:Int)(K:Qlt R):oP R:=Qc R (Gl n e f g h i j k l m o p some) λb=>bif b !=0 then K [] 0 b else bif Q8 (Q8 (Q8 (decide (c<0)) (decide (c>65536))) (decide (d<0))) (decide (d>65536))then K [] 0 4 else Qc R (Jk n e f g h i j k l m o p c d Tu3) λa=>K a.1 a.2.1 a.2.2
end Go.Vx
namespace Go.Vx
def cd(a b:Int):Int:=if 0<a % b then a / b+1 else a / b
theorem Az{a b:Int}(h0:0<=a)(h1:1<=b):a<=cd a b*b/\0<=cd a b/\cd a b<=a / b+1:=by
 have h2:=Int.emod_nonneg a (show b≠0 by omega);have c:=Int.emod_lt_of_pos a (show 0<b by omega);have d:=Int.mul_ediv_add_emod a b;have h5:0<=a / b:=Int.ediv_nonneg h0 I;have h6:b*(a / b)=a / b*b:=Int.mul_comm ..;have h7:(a / b+1)*b=a / b*b+b:=by rw[Int.add_mul,Int.one_mul]
 unfold cd;split<;>refine⟨?_,?_,?_⟩<;>omega
theorem Qgf{a b:Int}(h0:0<=a)(h1:1<=b)(ha:a<=1000000000):nz b=some ()/\(Int.tmod a b=a % b)/\wJ (Int.tdiv a b)=a / b/\wJ (a / b+1)=a / b+1:=by
 have h5:0<=a / b:=Int.ediv_nonneg h0 I;have h6:a / b<=a:=Int.ediv_le_self _ h0;exact⟨CS I,Qqs h0,by rw[Qqw h0,Qo I I],Qo I I⟩
section
variable{n:Nat} {a b:Int} (h0:0<=a) (h1:1<=b) (ha:a<=1000000000)
include h0 h1 ha
theorem Qdb:GO n a b Tu2=some (cd a b,0):=by
 obtain⟨e1,e2,e,f⟩:=Qgf h0 h1 ha;unfold GO cd;rw[Qq (by simpa using h1),e1,Qh,Qh,e2,e,f];by_cases h:0<a % b
 ·rw[Xh (by simpa using h),Qqf h]
 ·rw[Qq (by simpa using h),Qqh h]
theorem QdC:Jp n a b (some:Int->oP Int)=some (cd a b):=by
 obtain⟨e1,e2,c,d⟩:=Qgf h0 h1 ha;unfold Jp cd;rw[e1,Qh,Qh,e2,c,d];by_cases h:0<a % b
 ·rw[Xh (by simpa using h),Qqf h]
 ·rw[Qq (by simpa using h),Qqh h]
end
theorem upA{n:Nat}{a:Int}(h0:0<=a)(ha:a<=1000000000):JR n a (some:Int->oP Int)=some (cd a 1000):=by
 unfold JR;rw[Qdb h0 Q1 ha,Qh]
theorem Qd3{a:Int}(h0:0<=a)(ha:a<=1000000000):decide (Int.tmod a 1000<0)=false/\wJ (Int.tdiv a 1000)=a / 1000:=by
 rw[Qqs h0,Qqw h0];exact⟨by simp;omega,Qo I I⟩
theorem Qia{n:Nat}{a:Int}(h0:0<=a)(ha:a<=1000000000):Vh n a (some:Int->oP Int)=some (a / 1000):=by
 obtain⟨e1,e2⟩:=Qd3 h0 ha;unfold Vh Pq;rw[Qq Q1,CS Q1,Qh,Qh,e1,Qq9,e2,Qh]
theorem Qh8{n:Nat}{a:Int}(h0:0<=a)(ha:a<=1000000000):VF n a 1000 (some:Int->oP Int)=some (a / 1000):=by
 obtain⟨e1,e2⟩:=Qd3 h0 ha;unfold VF;rw[CS Q1,Qh,Qh,e1,Qq9,e2]
def sq(x:Int):Int:=(Sd 400 x (some:Int->oP Int)).getD 0
theorem Q6q{x:Int}(h0:0<=x)(hx:x<=1000000000):QbP x (sq x)/\Sd 400 x (some:Int->oP Int)=some (sq x)/\Mn 400 x (some:Int->oP Int)=some (sq x):=by
 obtain⟨r,h1,h2⟩:=QiM h0 hx;have e:sq x=r:=by unfold sq;rw[h2];rfl
 rw[e];exact⟨h1,h2,Qid h0 hx h1⟩
namespace Run
variable(X:Run)
def S(j:Nat):Int:=sq (X.K (X.N-j))
def T:Nat->Int
 |0=>0
 |b+1=>T b+cd 20000000 (X.S b+X.S (b+1))
variable{X} (h:X.OK)
include h
theorem Qfr{j:Nat}(hj:j<=X.N):0<=X.S j/\X.S j<=25000/\(1<=j->j<X.N->1000<=X.S j):=by
 have h1:=Q5p h (X.N-j) I;obtain⟨⟨c,e,f⟩,_,_⟩:=Q6q (x:=X.K (X.N-j)) I I;refine⟨c,Q9E c Q1 e I,λa b=>?_⟩;have h2:=h1.2.2 I I;by_cases d:1000<=X.S j
 ·exact d
 ·have:=Q5A (show 0<=sq (X.K (X.N-j))+1 by omega) (show sq (X.K (X.N-j))+1<=1000 by unfold S at d;omega);omega
theorem inc_rng{b:Nat}(hb:b<X.N):1000<=X.S b+X.S (b+1)/\X.S b+X.S (b+1)<=50000/\0<=cd 20000000 (X.S b+X.S (b+1))/\cd 20000000 (X.S b+X.S (b+1))<=20001:=by
 have h2:=h.h2;have a:=Qfr h (j:=b) I;have c:=Qfr h (j:=b+1) I;have hs:1000<=X.S b+X.S (b+1):=by
  by_cases f:b=0
  ·have:=c.2.2 I I;omega
  ·have:=a.2.2 I I;omega
 have d:=Az (show(0:Int)<=20000000 by decide) (show 1<=X.S b+X.S (b+1) by omega);have e:20000000 / (X.S b+X.S (b+1))<=20000:=Int.ediv_le_of_le_mul I I;omega
theorem T_rng:∀b:Nat,b<=X.N->0<=X.T b/\X.T b<=20001*b
 |0,_=>by rw[T];omega
 |b+1,hb=>by
  have:=T_rng b I;have:=inc_rng h (b:=b) I;rw[T];omega
theorem T_mono{a:Nat}:∀{b:Nat},a<=b->b<=X.N->X.T a<=X.T b
 |0,h1,_=>by rw[show a=0 by omega];omega
 |b+1,h1,h2=>by
  by_cases e:a=b+1
  ·subst e;omega
  ·have:=T_mono (a:=a) (b:=b) I I;have:=inc_rng h (b:=b) I;rw[T];omega
def TT(X:Run):LL:=arr X.T (X.N+1)
theorem Qkd:Gp 400 X.C (X.st:Int) X.nm (X.t:Int) X.sp X.ac X.br Tu2=some (arr X.S (X.N+1),0):=by
 have hN:=h.hN;have h2:=h.h2;have hl:=h.hC.len;have ai:Jc 400 X.C (X.st:Int) X.nm (X.t:Int) X.sp X.ac X.br (some:Int->oP Int)=some 0:=by
  unfold Jc;rw[Ab h.hk,Qh,Qq Q1,Qq Q3];refine QY (r:=λm i=>YQ 400 X.C (X.C.length:Int) _ _ m i) (N:=X.C.length) (λm k hk=>?_) (λm=>?_) X.C.length 400 0 I I
  ·have b0:=h.hC.b0 k hk;have b1:=h.hC.b1 k hk;have g0:=h.hC.g0 k hk;have g1:=h.hC.g1 k hk;rw[YQ,Qt hk,Qp,h.hC.row k hk];simp -implicitDefEqProofs only[Qh,Qq6,Qq7,Qj,XR,X2,Qqa,Qq9,Qqd,Qqc,show decide ((cl X.C k).1<1000)=false by simp;omega,show decide ((cl X.C k).1>100000)=false by simp;omega,show decide ((cl X.C k).2 < -40)=false by simp;omega,show decide ((cl X.C k).2>40)=false by simp;omega,QI (show k<=1000 by omega)]
  ·rw[YQ,Qz,Qq9,Qo I I,show decide ((X.st:Int)<0)=false by simp,show decide ((X.st:Int)>(X.C.length:Int)-2)=false by simp;omega];rfl
 unfold Gp;rw[ai,Qh,Qq (by rfl),sqA h,Qh];have hW:X.W.length=X.N+1:=YX;rw[hW];have:=QY (r:=λm i=>ZN 400 ((X.N+1:Nat):Int) (λ_ _ d=>some (d,(0:Int))) m i (arr (λj=>if j<i.toNat then X.S j else X.K (X.N-j)) (X.N+1))) (N:=X.N+1) (e:=some (arr X.S (X.N+1),0)) (λm k hk=>?_) (λm=>?_) (X.N+1) 400 0 I I
 ·rw[show arr (λj=>if j<(((0:Nat):Int)).toNat then X.S j else X.K (X.N-j)) (X.N+1)=X.W from Y0 λj hj=>Qqh Q2]at this;exact this
 ·simp only[Qq8];have hK:=Q5p h (X.N-k) I;rw[ZN,Qt hk,Qqa,YX,Q8I hk,Qqh (Nat.lt_irrefl k),(Q6q I I).2.1,Qh,Qbg hk,QI I];refine congrArg _ (Y0 λj hj=>?_);by_cases aa:j=k
  ·subst aa;rw[Qqf rfl,Qqf I];rfl
  ·rw[Qqh aa];by_cases a:j<k
   ·rw[Qqf a,Qqf I]
   ·rw[Qqh a,Qqh I]
 ·simp only[Qq8];rw[ZN,Qz,Qq9];exact congrArg (λl=>some (l,(0:Int))) (Y0 λj hj=>Qqf hj)
theorem timA:Js 400 X.C (X.st:Int) X.nm (X.t:Int) X.sp X.ac X.br Tu2=some (X.TT,0):=by
 have hN:=h.hN;have hl:=h.hC.len;unfold Js;rw[Qkd h,Qh,Qq (by rfl),YX,show(bif decide ((0:Int)<=((X.N+1:Nat):Int))&&decide (((X.N+1:Nat):Int)<=((X.N+1:Nat):Int))then some ()else none)=some () by rw[Xh Q3],Qh,Qq8,XI I,Qh,Bd];have:=QY (r:=λm i=>WB 400 (arr X.S (X.N+1)) (λ_ _ g=>some (g,(0:Int))) m ((i.toNat+1:Nat):Int) (arr (λj=>if j<=i.toNat then X.T j else 0) (X.N+1))) (N:=X.N) (e:=some (X.TT,0)) (λm k hk=>?_) (λm=>?_) X.N 400 0 I I
 ·rw[show arr (λj=>if j<=(((0:Nat):Int)).toNat then X.T j else 0) (X.N+1)=arr (λ_=>0) (X.N+1)from Y0 λj hj=>by
   split
   ·rename_i h0;have h0:j=0:=by simpa using h0
    rw[h0,T]
   ·rfl]at this
  exact this
 ·simp only[Qq8];have hi:=inc_rng h hk;have hT:=T_rng h k I;rw[WB,YX,Qt (show k+1<X.N+1 by omega),Qqa,JT (show k+1<=1000 by omega) I,show k+1-1=k by omega,Qp,Qp,G6 (show k<X.N+1 by omega),G6 (show k+1<X.N+1 by omega)];simp -implicitDefEqProofs only[Qh,Qq6,Qj,wI (a:=X.S k+X.S (k+1)) rfl (show -1000000<=X.S k+X.S (k+1) by omega) (show X.S k+X.S (k+1)<=1000000000 by omega),Qdb (n:=400) (show(0:Int)<=20000000 by decide) (show 1<=X.S k+X.S (k+1) by omega) Q1];rw[YX,Q8I (show k<X.N+1 by omega),Qqf (Qqm k),Qbg (show k+1<X.N+1 by omega),QI I,wI (a:=X.T k+cd 20000000 (X.S k+X.S (k+1))) (b:=X.T (k+1)) rfl (by rw[T];omega) (by rw[T];omega)];refine congrArg _ (Y0 λj hj=>?_);by_cases aa:j=k+1
  ·subst aa;rw[Qqf rfl,Qqf I]
  ·rw[Qqh aa];by_cases c:j<=k
   ·rw[Qqf c,Qqf I]
   ·rw[Qqh c,Qqh I]
 ·simp only[Qq8];rw[WB,YX,Qz,Qq9];exact congrArg (λl=>some (l,(0:Int))) (Y0 λj hj=>Qqf I)
end Run
namespace Run
variable{X:Run} (h:X.OK)
include h
theorem Qk1:B9 400 X.C (X.st:Int) X.nm (X.t:Int) X.sp X.ac X.br (some:Int->oP Int)=some 0:=by
 have hN:=h.hN;have h2:=h.h2;have hl:=h.hC.len;obtain⟨t1,t2,s1,s2,a1,a2,b1,b2⟩:=h.hk;have hst:Ya 400 X.nm (X.t:Int) X.sp X.ac X.br (some:Bool->oP Bool)=some true:=by
  unfold Ya;simp -implicitDefEqProofs only[Qh,Qq6,Qq7,Qj,XR,X2,Qqa,Qq9,Qqd,Qqc,Q5c t1 (show(X.t:Int)<=40 by omega),Q5c (show 1000<=X.sp by omega) (show X.sp<=100000 by omega),Q5c (show 100<=X.ac by omega) (show X.ac<=2000 by omega),Q5c (show 100<=X.br by omega) (show X.br<=2000 by omega)]
 unfold B9;rw[hst,Qh,Qq Q1,Qq Q3];refine QY (r:=λm i=>Ko 400 X.C _ _ m i) (N:=X.C.length) (λm k hk=>?_) (λm=>?_) X.C.length 400 0 I I
 ·have b0:=h.hC.b0 k hk;have b1:=h.hC.b1 k hk;have g0:=h.hC.g0 k hk;have g1:=h.hC.g1 k hk;rw[Ko,Qt hk,Qp,h.hC.row k hk];simp -implicitDefEqProofs only[Qh,Qq6,Qq7,Qj,XR,X2,Qqa,Qq9,Qqd,Qqc,Q5c (show 1000<=(cl X.C k).1 by omega) (show(cl X.C k).1<=100000 by omega),Q5c (show -40<=(cl X.C k).2 by omega) (show(cl X.C k).2<=40 by omega),QI (show k<=1000 by omega)]
 ·rw[Ko,Qz,Qq9,Qo I I,show decide ((X.st:Int)<0)=false by simp,show decide ((X.st:Int)>(X.C.length:Int)-2)=false by simp;omega];rfl
theorem Qkh:Rp 400 X.C (X.st:Int) X.nm (X.t:Int) X.sp X.ac X.br Tu2=some (arr X.S (X.N+1),0):=by
 have hN:=h.hN;have h2:=h.h2;have hl:=h.hC.len;have t2:=h.hk.t2;have hw:wJ ((X.C.length:Int)-(X.st:Int))=(X.N:Int):=by rw[Qo I I];omega
 unfold Rp;rw[Qk1 h,Qh,Qq (by rfl),hw,QI I,show(bif decide ((0:Int)<=((X.N+1:Nat):Int))&&decide (((X.N+1:Nat):Int)<=((X.N+1:Nat):Int))then some ()else none)=some () by rw[Xh Q3],Qh,Qq8,XI I,Qh,Bd];have e1:∀k0:Int->Bool->LL->oP (LL×Int),UC 400 X.C (X.st:Int) (X.N:Int) X.nm (X.t:Int) X.sp X.ac X.br k0 400 (1:Int) (arr (λ_=>0) (X.N+1))=k0 (X.N:Int) false (arr (λj=>if 1<=j/\j<=X.N-1 then X.V j else 0) (X.N+1)):=by
  intro k0;have:=QY (r:=λm i=>UC 400 X.C (X.st:Int) (X.N:Int) X.nm (X.t:Int) X.sp X.ac X.br k0 m ((i.toNat+1:Nat):Int) (arr (λj=>if 1<=j/\j<=i.toNat then X.V j else 0) (X.N+1))) (N:=X.N-1) (e:=k0 (X.N:Int) false (arr (λj=>if 1<=j/\j<=X.N-1 then X.V j else 0) (X.N+1))) (λm i hi=>?_) (λm=>?_) (X.N-1) 400 0 I I
  ·rw[show arr (λj=>if 1<=j/\j<=(((0:Nat):Int)).toNat then X.V j else 0) (X.N+1)=arr (λ_=>0) (X.N+1)from Y0 λj hj=>Qqh Q3]at this;exact this
  ·simp only[Qq8];have au:=Qb4 h (b:=i+1) I;have hV:=Qen h (b:=i+1) I;rw[UC,Qt (show i+1<X.N by omega),Qqa,wI (show(X.st:Int)+((i+1:Nat):Int)=((X.st+(i+1):Nat):Int) by omega) I I,wI (show((X.st+(i+1):Nat):Int)-1=((X.st+i:Nat):Int) by omega) I I,QjG h.hC I I,Qh,QjG h.hC I I,Qh,YX,Qbg I,QI I];refine congrArg _ (Y0 λj hj=>?_);have e1:(if Q81 X.C X.sp (X.st+(i+1)) X.t<Q81 X.C X.sp (X.st+i) X.t then Q81 X.C X.sp (X.st+(i+1)) X.t else Q81 X.C X.sp (X.st+i) X.t)=X.lo (i+1):=rfl;by_cases aa:j=i+1
   ·subst aa;rw[Qqf rfl,e1,wI (a:=X.lo (i+1)*X.lo (i+1)) (b:=X.V (i+1)) rfl I I,Qqf I]
   ·rw[Qqh aa];by_cases d:1<=j/\j<=i
    ·rw[Qqf d,Qqf I]
    ·rw[Qqh d,Qqh I]
  ·simp only[Qq8];rw[show X.N-1+1=X.N by omega,UC,Qz,Qq9]
 rw[e1];have e2:∀k0:Int->Bool->LL->oP (LL×Int),UH 400 X.C (X.st:Int) (X.N:Int) X.nm (X.t:Int) X.sp X.ac X.br k0 400 (0:Int) (arr (λj=>if 1<=j/\j<=X.N-1 then X.V j else 0) (X.N+1))=k0 (X.N:Int) false (arr (λj=>if j<=X.N-1 then X.F j else 0) (X.N+1)):=by
  intro k0;have:=QY (r:=λm i=>UH 400 X.C (X.st:Int) (X.N:Int) X.nm (X.t:Int) X.sp X.ac X.br k0 m i (arr (λj=>if j<=X.N-1 then(if j<=i.toNat then X.F j else X.V j)else 0) (X.N+1))) (N:=X.N) (e:=k0 (X.N:Int) false (arr (λj=>if j<=X.N-1 then X.F j else 0) (X.N+1))) (λm i hi=>?_) (λm=>?_) X.N 400 0 I I
  ·rw[show arr (λj=>if j<=X.N-1 then(if j<=(((0:Nat):Int)).toNat then X.F j else X.V j)else 0) (X.N+1)=arr (λj=>if 1<=j/\j<=X.N-1 then X.V j else 0) (X.N+1)from Y0 λj hj=>by
    by_cases q:j=0
    ·subst q;rw[Qqf I,Qqf Q2,Qqh I,F]
    ·by_cases c:j<=X.N-1
     ·rw[Qqf c,Qqh Q3,Qqf I]
     ·rw[Qqh c,Qqh I]]at this
   exact this
  ·simp only[Qq8];have f:=h.hC.g0 (X.st+i) I;have g:=h.hC.g1 (X.st+i) I;have hr:=row h (b:=i) I;have hF:=QbE h i I;have hG:=Qdz h (b:=i) I;have ha:=Q5M h.hk.a1 h.hk.a2 f g;rw[UH,Qt hi,Qqa,QI I,YX,Q8I (show i+1<X.N+1 by omega),Q8I (show i<X.N+1 by omega),wI (show(X.st:Int)+(i:Int)=((X.st+i:Nat):Int) by omega) I I,Qp,hr];simp -implicitDefEqProofs only[Qh,Qq6,Qq7,Qj,XR,X2,Qqa,Qq9,Qqd,Qqc,Qfm h.hk.a1 h.hk.a2 f g];rw[Qbg (show i+1<X.N+1 by omega),Qqf (show i<=X.N-1 by omega),Qqf (Qqm i),Qqh (show ¬ i+1<=i by omega),wI (a:=20000*acc X.ac (cl X.C (X.st+i)).2) (b:=X.G i) rfl I I,wI (a:=X.F i+X.G i) (b:=X.F i+X.G i) rfl I I];refine congrArg _ (Y0 λj hj=>?_);by_cases aa:j=i+1
   ·subst aa;rw[Qqf rfl];by_cases n:i+1<=X.N-1
    ·rw[Qqf n,Qqf n,Qqf (Qqm (i+1)),F]
    ·rw[Qqh n,Qqh (show ¬ X.F i+X.G i<0 by omega),Qqh n]
   ·rw[Qqh aa];by_cases c:j<=X.N-1
    ·rw[Qqf c,Qqf c];by_cases d:j<=i
     ·rw[Qqf d,Qqf I]
     ·rw[Qqh d,Qqh I]
    ·rw[Qqh c,Qqh c]
  ·simp only[Qq8];rw[UH,Qz,Qq9];refine congrArg _ (Y0 λj hj=>?_);by_cases c:j<=X.N-1
   ·rw[Qqf c,Qqf c,Qqf I]
   ·rw[Qqh c,Qqh c]
 rw[e2];have s:∀k0:Int->Bool->LL->oP (LL×Int),UL 400 X.C (X.st:Int) X.nm (X.t:Int) X.sp X.ac X.br k0 400 (X.N:Int) (arr (λj=>if j<=X.N-1 then X.F j else 0) (X.N+1))=k0 0 false X.W:=by
  intro k0;have:=QY (r:=λm i=>UL 400 X.C (X.st:Int) X.nm (X.t:Int) X.sp X.ac X.br k0 m ((X.N-i.toNat:Nat):Int) (arr (λj=>if X.N-j<=i.toNat then X.K (X.N-j)else X.F j) (X.N+1))) (N:=X.N) (e:=k0 0 false X.W) (λm i hi=>?_) (λm=>?_) X.N 400 0 I I
  ·rw[show arr (λj=>if X.N-j<=(((0:Nat):Int)).toNat then X.K (X.N-j)else X.F j) (X.N+1)=arr (λj=>if j<=X.N-1 then X.F j else 0) (X.N+1)from Y0 λj hj=>by
    by_cases am:j=X.N
    ·subst am;rw[Qqf Q2,Qqh I,Nat.sub_self,K]
    ·rw[Qqh Q3,Qqf I]]at this
   exact this
  ·simp only[Qq8];obtain⟨b,hb⟩:∃b,b+1=X.N-i:=⟨X.N-i-1,I⟩;have f:=h.hC.g0 (X.st+b) I;have g:=h.hC.g1 (X.st+b) I;have hr:=row h (b:=b) I;have hK:=Q5p h i I;have hL:=Qcv h (b:=b) I;have ar:=Q5S h.hk.b1 h.hk.b2 f g;rw[<- hb,UL,Xh Q2,JT (show b+1<=1000 by omega) I,Qqn,YX,Q8I (show b<X.N+1 by omega),Q8I (show b+1<X.N+1 by omega),wI (show(X.st:Int)+((b+1:Nat):Int)=((X.st+b+1:Nat):Int) by omega) I I,JT (show X.st+b+1<=1000 by omega) I,Qqn,Qp,hr];simp -implicitDefEqProofs only[Qh,Qq6,Qq7,Qj,XR,X2,Qqa,Qq9,Qqd,Qqc,QgY h.hk.b1 h.hk.b2 f g];rw[Qbg (show b<X.N+1 by omega),show X.N-(i+1)=b by omega,Qqh (show ¬ X.N-b<=i by omega),Qqf (show X.N-(b+1)<=i by omega),show X.N-(b+1)=i by omega,wI (a:=20000*brk X.br (cl X.C (X.st+b)).2) (b:=X.L b) rfl I I,wI (a:=X.K i+X.L b) (b:=X.K i+X.L b) rfl I I];refine congrArg _ (Y0 λj hj=>?_);by_cases ai:j=b
   ·subst ai;rw[Qqf rfl,Qqf (show X.N-j<=i+1 by omega),show X.N-j=i+1 by omega,K,show X.N-(i+1)=j by omega]
   ·rw[Qqh ai];by_cases d:X.N-j<=i
    ·rw[Qqf d,Qqf I]
    ·rw[Qqh d,Qqh I]
  ·simp only[Qq8];rw[Nat.sub_self,UL,Qq Q1];refine congrArg _ (Y0 λj hj=>Qqf I)
 rw[s];have:=QY (r:=λm i=>Vy 400 (X.N:Int) (λ_ _ t=>some (t,(0:Int))) m i (arr (λj=>if j<i.toNat then X.S j else X.K (X.N-j)) (X.N+1))) (N:=X.N+1) (e:=some (arr X.S (X.N+1),0)) (λm k hk=>?_) (λm=>?_) (X.N+1) 400 0 I I
 ·rw[show arr (λj=>if j<(((0:Nat):Int)).toNat then X.S j else X.K (X.N-j)) (X.N+1)=X.W from Y0 λj hj=>Qqh Q2]at this;exact this
 ·simp only[Qq8];have hK:=Q5p h (X.N-k) I;rw[Vy,Xh Q3,YX,Q8I hk,Qqh (Nat.lt_irrefl k),(Q6q I I).2.2,Qh,Qbg hk,QI I];refine congrArg _ (Y0 λj hj=>?_);by_cases aj:j=k
  ·subst aj;rw[Qqf rfl,Qqf I];rfl
  ·rw[Qqh aj];by_cases d:j<k
   ·rw[Qqf d,Qqf I]
   ·rw[Qqh d,Qqh I]
 ·simp only[Qq8];rw[Vy,Qq Q3];exact congrArg (λl=>some (l,(0:Int))) (Y0 λj hj=>Qqf hj)
theorem timB:PN 400 X.C (X.st:Int) X.nm (X.t:Int) X.sp X.ac X.br Tu2=some (X.TT,0):=by
 have hN:=h.hN;have hl:=h.hC.len;unfold PN;rw[Qkh h,Qh,Qq (by rfl),YX,show(bif decide ((0:Int)<=((X.N+1:Nat):Int))&&decide (((X.N+1:Nat):Int)<=((X.N+1:Nat):Int))then some ()else none)=some () by rw[Xh Q3],Qh,Qq8,XI I,Qh,Bd];have:=QY (r:=λm i=>J8 400 (arr X.S (X.N+1)) (λ_ _ o=>some (o,(0:Int))) m ((i.toNat+1:Nat):Int) (arr (λj=>if j<=i.toNat then X.T j else 0) (X.N+1))) (N:=X.N) (e:=some (X.TT,0)) (λm k hk=>?_) (λm=>?_) X.N 400 0 I I
 ·rw[show arr (λj=>if j<=(((0:Nat):Int)).toNat then X.T j else 0) (X.N+1)=arr (λ_=>0) (X.N+1)from Y0 λj hj=>by
   split
   ·rename_i c;have c:j=0:=by simpa using c
    rw[c,T]
   ·rfl]at this
  exact this
 ·simp only[Qq8];have hi:=inc_rng h hk;have hT:=T_rng h k I;rw[J8,YX,Qt (show k+1<X.N+1 by omega),Qqa,JT (show k+1<=1000 by omega) I,show k+1-1=k by omega,YX,Q8I (show k<X.N+1 by omega),Qqf (Qqm k),Qp,Qp,G6 (show k<X.N+1 by omega),G6 (show k+1<X.N+1 by omega)];simp -implicitDefEqProofs only[Qh,Qq6,Qj,wI (a:=X.S k+X.S (k+1)) rfl (show -1000000<=X.S k+X.S (k+1) by omega) (show X.S k+X.S (k+1)<=1000000000 by omega),QdC (n:=400) (show(0:Int)<=20000000 by decide) (show 1<=X.S k+X.S (k+1) by omega) Q1];rw[Qbg (show k+1<X.N+1 by omega),QI I,wI (a:=X.T k+cd 20000000 (X.S k+X.S (k+1))) (b:=X.T (k+1)) rfl (by rw[T];omega) (by rw[T];omega)];refine congrArg _ (Y0 λj hj=>?_);by_cases aa:j=k+1
  ·subst aa;rw[Qqf rfl,Qqf I]
  ·rw[Qqh aa];by_cases d:j<=k
   ·rw[Qqf d,Qqf I]
   ·rw[Qqh d,Qqh I]
 ·simp only[Qq8];rw[J8,YX,Qz,Qq9];exact congrArg (λl=>some (l,(0:Int))) (Y0 λj hj=>Qqf I)
end Run
def sl(Se s:LL)(j:Nat):Nat:=(Sm Se (s.getD j [])).length
def pos(Se s:LL):Nat->Nat
 |0=>0
 |j+1=>pos Se s j+sl Se s (j+1)
theorem RN{f:Nat->Int}{n:Nat}:arr f n++[[Ql (f n)]]=arr f (n+1):=by simp[arr,List.range_succ]
section
variable{Se s:LL} (hs:∀r∈s,Dd Se r)
include hs
theorem C7{j:Nat}(hj:j<s.length):∃(x d:Int) (nm:Y UInt8) (b c st:Int),s[j]? = some [Ql x,Ql d]/\Qi Se x=some [D.str nm,Ql (sl Se s j),Ql b,Ql c,Ql st]/\2<=sl Se s j/\sl Se s j<=12/\(d=0\/d=1):=by
 obtain⟨x,d,nm,a,b,c,st,e,f,h2,g⟩:=hs _ (Qqk hj);have a0:=h2.a0;have a1:=h2.a1;have e2:s[j]? = some [Ql x,Ql d]:=by rw[Qqb hj,e]
 have h:sl Se s j=a.toNat:=by
  unfold sl;rw[Qqg,e2];show(Sm Se [Ql x,Ql d]).length=_;rw[Ho f,List.length_replicate]
 refine⟨x,d,nm,b,c,st,e2,?_,I,I,g⟩;rw[f,h,show(a.toNat:Int)=a by omega]
omit hs in
theorem Q3V:∀{j:Nat},j<s.length->(Yu Se (s.take (j+1))).length=sl Se s 0+pos Se s j
 |0,hj=>by
  rw[MF (Qqb hj)];simp only[List.take_zero,Yu,List.flatMap_nil,List.nil_append,pos,sl,Qqg,Qqb hj,Qqv];omega
 |j+1,hj=>by
  have:=Q3V (j:=j) I;rw[MF (Qqb hj),QqC,this,pos];simp only[sl,Qqg,Qqb hj,Qqv];omega
omit hs in
theorem Q9K{i j:Nat}(a:i<=j):pos Se s i<=pos Se s j:=by
 induction j with
 |zero=>rw[show i=0 by omega];omega
 |succ j ih=>
  by_cases e:i=j+1
  ·subst e;omega
  ·have:=ih I;rw[pos];omega
theorem Q6P{i j:Nat}(a:i<j)(h2:j<s.length):pos Se s i+2<=pos Se s j:=by
 obtain⟨_,_,_,_,_,_,_,_,b,_⟩:=C7 hs (j:=i+1) I;have:=Q9K (Se:=Se) (s:=s) (i:=i+1) (j:=j) I;rw[pos]at this;omega
end
def Zz(Se s:LL)(nm:Y UInt8)(tl sp ac br:Int):Run:=⟨Yu Se s,nm,sp,ac,br,tl.toNat,sl Se s 0,pos Se s (s.length-1)⟩
section
variable{St Pt Se Li s:LL} (h:RtF St Pt Se Li s) {nm:Y UInt8} {tl sp ac br:Int} (hk:StkN tl sp ac br)
include h
theorem BV:Ta Se s=(sl Se s 0:Int):=by
 have l2:=h.l2;obtain⟨x,d,_,b,c,st,e,a,_⟩:=C7 h.st (j:=0) I;cases s with
 |nil=>cases e
 |cons r t=>
  injection e with e
  subst e;simp only[Ta,a]
include hk
theorem Rn:(Zz Se s nm tl sp ac br).OK where
 hC:=Q99 h.st h.l24
 hk:=by
  have:=hk.t1;show StkN (tl.toNat:Int) sp ac br;rw[show(tl.toNat:Int)=tl by omega];exact hk
 hN:=by
  have l2:=h.l2;have:=Q3V (Se:=Se) (s:=s) (j:=s.length-1) I;rw[show s.length-1+1=s.length by omega,QqA]at this;exact this
 h2:=by
  have l2:=h.l2;have:=Q6P h.st (i:=0) (j:=s.length-1) I I;show 2<=pos Se s (s.length-1);omega
end
section
variable{St Pt Se Li s:LL} (h:RtF St Pt Se Li s) {nm:Y UInt8} {tl sp ac br:Int} (hk:StkN tl sp ac br)
def fEN(Se s:LL)(X:Run)(j:Nat):Int:=X.T (pos Se s (j-1))
def fLV(Se s:LL)(X:Run)(j:Nat):Int:=if j<s.length-1 then X.T (pos Se s j+X.t)else X.T X.N
def Q3j(X:Run):Int:=cd (X.T X.N) 1000
include h hk
theorem tEq:(((Zz Se s nm tl sp ac br).t:Nat):Int)=tl:=by
 have _:=h.l2;have:=hk.t1;show(tl.toNat:Int)=tl;omega
theorem Qem:Js 400 (Yu Se s) (sl Se s 0:Int) nm tl sp ac br Tu2=some ((Zz Se s nm tl sp ac br).TT,0):=by
 have:=Run.timA (Rn h (nm:=nm) hk);rw[tEq h hk]at this;exact this
theorem QdL:PN 400 (Yu Se s) (sl Se s 0:Int) nm tl sp ac br Tu2=some ((Zz Se s nm tl sp ac br).TT,0):=by
 have:=Run.timB (Rn h (nm:=nm) hk);rw[tEq h hk]at this;exact this
theorem Q19{b:Nat}(hb:b<=(Zz Se s nm tl sp ac br).N):0<=(Zz Se s nm tl sp ac br).T b/\(Zz Se s nm tl sp ac br).T b<=7000000:=by
 have hX:=Rn h (nm:=nm) hk;have a:=Run.T_rng hX b hb;have:=hX.hN;have:=hX.hC.len;omega
theorem Fw:0<=Q3j (Zz Se s nm tl sp ac br)/\Q3j (Zz Se s nm tl sp ac br)<=7001:=by
 have a:=Q19 h (nm:=nm) hk (Qqm _);have:=Az a.1 (show(1:Int)<=1000 by decide);unfold Q3j;omega
theorem QeC{j:Nat}(hj:j<s.length):pos Se s j<=(Zz Se s nm tl sp ac br).N/\(j<s.length-1->pos Se s j+(Zz Se s nm tl sp ac br).t<=(Zz Se s nm tl sp ac br).N):=by
 have a:=Q9K (Se:=Se) (s:=s) (i:=j) (j:=s.length-1) I;have h2:=tEq h (nm:=nm) hk;have:=hk.t2;refine⟨a,λb=>?_⟩;have:=Q6P h.st (i:=j) (j:=s.length-1) b I;show pos Se s j+_<=pos Se s (s.length-1);omega
theorem QfD:H5 400 St Pt Se Li s 0 nm tl sp ac br Tu4=some (arr (fEN Se s (Zz Se s nm tl sp ac br)) s.length,arr (fLV Se s (Zz Se s nm tl sp ac br)) s.length,Q3j (Zz Se s nm tl sp ac br),0):=by
 have l2:=h.l2;have l24:=h.l24;have ht:=tEq h (nm:=nm) hk;have hX:=Rn h (nm:=nm) hk;have ao:=hX.hN;have an:=hX.hC.len;have ak:=Qem h (nm:=nm) hk;have ai:=λ(j:Nat) (hj:j<s.length)=>QeC h (nm:=nm) hk hj
 have aj:=Q19 h (nm:=nm) hk (Qqm _);have hN:(Zz Se s nm tl sp ac br).N=pos Se s (s.length-1):=rfl;unfold H5;rw[QjM h.lay rfl h.l2 h.l24 h.rt h.st hk,Qh,Qq (by rfl),BV h,ak,Qh,Q16 h.l24,Qh];revert hX ao an ai aj hN ht;generalize Zz Se s nm tl sp ac br=X;intro ht hX ao an ai aj hN;have p:∀k0:Int->Int->Bool->LL->LL->oP (LL×LL×Int×Int),Y4 400 X.TT s s (s.length:Int) Se tl k0 400 0 0 [] []=k0 ((pos Se s (s.length-1):Nat):Int) (s.length:Int) false (arr (fEN Se s X) s.length) (arr (fLV Se s X) (s.length-1)):=by
  intro k0;refine QY (r:=λm i=>Y4 400 X.TT s s (s.length:Int) Se tl k0 m ((pos Se s (i.toNat-1):Nat):Int) i (arr (fEN Se s X) i.toNat) (arr (fLV Se s X) (min i.toNat (s.length-1)))) (N:=s.length) (λm i hi=>?_) (λm=>?_) s.length 400 0 I I
  ·simp only[Qq8];obtain⟨x,d,az,b,c,st,e,q,a0,a1,hd⟩:=C7 h.st hi;have hp:=ai (i-1) I;have f:=ai i hi;rw[Y4,Qt hi,Qqa,Qp,e];have hT:Qi X.TT ((pos Se s (i-1):Nat):Int)=some [Ql (fEN Se s X i)]:=by rw[Qp];exact G6 I
   have hr:Y5 (((arr (fEN Se s X) i).length+List.length [[D.int .i64 (fEN Se s X i)]])*8)=some ():=XI (by simp only[YX,Qqu,Qqx];omega);simp -implicitDefEqProofs only[Qh,Qq6,Qq7,Qj,hT,hr,RN,wI (show(i:Int)+1=((i+1:Nat):Int) by omega) I I,wI (show(s.length:Int)-1=((s.length-1:Nat):Int) by omega) I I];have ar:i<s.length-1->Qi X.TT ((pos Se s i+X.t:Nat):Int)=some [Ql (fLV Se s X i)]:=λaa=>by
    have:=f.2 aa;rw[Qp];show(arr X.T (X.N+1))[pos Se s i+X.t]? = _;rw[G6 I];unfold fLV;rw[Qqf aa]
   have a:∀k,k<=30->Y5 (((arr (fLV Se s X) k).length+List.length [[D.int .i64 (fLV Se s X k)]])*8)=some ():=λk hk=>XI (by simp only[YX,Qqu,Qqx];omega)
   by_cases t:i=0
   ·subst t;have am:0<s.length-1:=I
    have:=ar am;rw[show decide (((0:Nat):Int)>0)=false from rfl,Qq9,Qt am,Qqa,wI (show((pos Se s (0-1):Nat):Int)+tl=((pos Se s 0+X.t:Nat):Int) by rw[<- ht,show 0-1=0 from rfl];omega) I I,this,Nat.min_eq_left I,Nat.min_eq_left I];simp -implicitDefEqProofs only[Qh,Qq6,Qj,a 0 I,RN]
   ·have ay:pos Se s i=pos Se s (i-1)+sl Se s i:=by
     obtain⟨k,rfl⟩:∃k,i=k+1:=⟨i-1,I⟩;rfl
    rw[show decide ((i:Int)>0)=true by simp;omega,Qqa,q];simp -implicitDefEqProofs only[Qh,Qq6,Qq7,Qj,wI (show((pos Se s (i-1):Nat):Int)+((sl Se s i:Nat):Int)=((pos Se s i:Nat):Int) by omega) I I,Qqn];by_cases aa:i<s.length-1
    ·rw[Qt aa,Qqa,wI (show((pos Se s i:Nat):Int)+tl=((pos Se s i+X.t:Nat):Int) by omega) (by have:=f.2 aa;omega) (by have:=f.2 aa;omega),ar aa,Nat.min_eq_left I,Nat.min_eq_left I];simp -implicitDefEqProofs only[Qh,Qq6,Qj,a i I,RN]
    ·rw[show decide ((i:Int)<((s.length-1:Nat):Int))=false by simp;omega,Qq9,Nat.min_eq_right I,Nat.min_eq_right I]
  ·simp only[Qq8];rw[Y4,Qz,Qq9,Nat.min_eq_right I]
 rw[p];have hT:Qi X.TT ((pos Se s (s.length-1):Nat):Int)=some [Ql (fLV Se s X (s.length-1))]:=by
  rw[Qp];show(arr X.T (X.N+1))[pos Se s (s.length-1)]? = _;rw[G6 I];unfold fLV;rw[Qqh I,hN]
 have hl:fLV Se s X (s.length-1)=X.T X.N:=by unfold fLV;rw[Qqh I]
 have a:Y5 (((arr (fLV Se s X) (s.length-1)).length+List.length [[D.int .i64 (fLV Se s X (s.length-1))]])*8)=some ():=XI (by simp only[YX,Qqu,Qqx];omega);simp -implicitDefEqProofs only[hT,Qh,Qq6,Qj,a,RN];rw[hl,upA aj.1 I,Qh,show s.length-1+1=s.length by omega];rfl
theorem Qiq:Po 400 St Pt Se Li s 0 nm tl sp ac br Tu4=some (arr (fEN Se s (Zz Se s nm tl sp ac br)) s.length,arr (fLV Se s (Zz Se s nm tl sp ac br)) s.length,Q3j (Zz Se s nm tl sp ac br),0):=by
 have l2:=h.l2;have l24:=h.l24;have ht:=tEq h (nm:=nm) hk;have t1:=hk.t1;have hX:=Rn h (nm:=nm) hk;have ao:=hX.hN;have an:=hX.hC.len;have am:=QdL h (nm:=nm) hk;have aa:=λ(j:Nat) (hj:j<s.length)=>QeC h (nm:=nm) hk hj
 have aj:=Q19 h (nm:=nm) hk (Qqm _);have hN:(Zz Se s nm tl sp ac br).N=pos Se s (s.length-1):=rfl;unfold Po;rw[Qan h hk,Qh,Qq (by rfl),Qa1 h,Qh,BV h,am,Qh];revert hX ao an aa aj hN ht;generalize Zz Se s nm tl sp ac br=X;intro ht hX ao an aa aj hN;have ai:X.TT.length=X.N+1:=YX;have hw:wJ ((s.length:Int)-0)=(s.length:Int):=by rw[Qo I I];omega
 have p:∀k0:Int->Int->Bool->LL->LL->oP (LL×LL×Int×Int),Zx 400 X.TT Se s 0 tl k0 400 0 0 [] []=k0 ((pos Se s (s.length-1):Nat):Int) (s.length:Int) false (arr (fEN Se s X) s.length) (arr (fLV Se s X) s.length):=by
  intro k0;refine QY (r:=λm i=>Zx 400 X.TT Se s 0 tl k0 m ((pos Se s (i.toNat-1):Nat):Int) i (arr (fEN Se s X) i.toNat) (arr (fLV Se s X) i.toNat)) (N:=s.length) (λm i hi=>?_) (λm=>?_) s.length 400 0 I I
  ·simp only[Qq8];obtain⟨x,d,az,b,c,st,e,q,a0,a1,hd⟩:=C7 h.st hi;have hp:=aa (i-1) I;have t:=aa i hi;have hT:Qi X.TT ((pos Se s (i-1):Nat):Int)=some [Ql (fEN Se s X i)]:=by rw[Qp];exact G6 I
   have hr:Y5 (((arr (fEN Se s X) i).length+List.length [[D.int .i64 (fEN Se s X i)]])*8)=some ():=XI (by simp only[YX,Qqu,Qqx];omega);have a:Y5 (((arr (fLV Se s X) i).length+List.length [[D.int .i64 (fLV Se s X i)]])*8)=some ():=XI (by simp only[YX,Qqu,Qqx];omega);have ar:Qi X.TT (if (X.N:Int)<((pos Se s i+X.t:Nat):Int)then(X.N:Int)else((pos Se s i+X.t:Nat):Int))=some [Ql (fLV Se s X i)]:=by
    unfold fLV;by_cases ak:i<s.length-1
    ·have:=t.2 ak;rw[Qqh I,Qqf ak,Qp];exact G6 I
    ·have e:i=s.length-1:=I
     rw[Qqf (by rw[hN,e];omega),Qqh ak,Qp];exact G6 I
   rw[Zx,hw,Qt hi,Qqa,ai,wI (show((X.N+1:Nat):Int)-1=(X.N:Int) by omega) I I];simp -implicitDefEqProofs only[Qh,Qq6,Qq7,Qj,hT,hr,RN,wI (show(i:Int)+1=((i+1:Nat):Int) by omega) I I];by_cases u:i=0
   ·subst u;rw[show decide (((0:Nat):Int)>0)=false from rfl,Qq9,wI (show((pos Se s (0-1):Nat):Int)+tl=((pos Se s 0+X.t:Nat):Int) by rw[<- ht,show 0-1=0 from rfl];omega) I I,ar];simp -implicitDefEqProofs only[Qh,Qq6,Qj,a,RN]
   ·have ay:pos Se s i=pos Se s (i-1)+sl Se s i:=by
     obtain⟨k,rfl⟩:∃k,i=k+1:=⟨i-1,I⟩;rfl
    rw[show decide ((i:Int)>0)=true by simp;omega,Qqa,Qp,e];simp -implicitDefEqProofs only[Qh,Qq6,Qq7,Qj,q,wI (show((pos Se s (i-1):Nat):Int)+((sl Se s i:Nat):Int)=((pos Se s i:Nat):Int) by omega) I I,wI (show((pos Se s i:Nat):Int)+tl=((pos Se s i+X.t:Nat):Int) by omega) I I,ar,a,RN,Qqn]
  ·simp only[Qq8];rw[Zx,hw,Qz,Qq9]
 have hT:Qi X.TT (X.N:Int)=some [Ql (X.T X.N)]:=by rw[Qp];exact G6 I
 rw[p,ai,wI (show((X.N+1:Nat):Int)-1=(X.N:Int) by omega) I I];simp -implicitDefEqProofs only[hT,Qh,Qq6,Qj,QdC (n:=400) aj.1 (show(1:Int)<=1000 by decide) I];rfl
end
abbrev Occ:=Int×Int×Int
def enc(q:Occ):Y D:=[Ql q.1,Ql q.2.1,Ql q.2.2]
def Si(q:Occ):Bool:=decide (q.2.1<q.2.2)
def Cd(T:Y Occ)(r:Nat)(f t:Int):Y Occ:=match T[r]? with
 |some (_,a,b)=>if a<b then T.set r ((r:Int),(if a<f then a else f),(if t<b then b else t))else T.set r ((r:Int),f,t)
 |none=>T
theorem MI{T:Y Occ}{r:Nat}{f t:Int}:(Cd T r f t).length=T.length:=by
 unfold Cd;split
 ·split<;>simp
 ·rfl
theorem QgM{n:Nat}{T:Y Occ}{r:Nat}{f t:Int}(h:r<T.length):XF n (T.map enc) (r:Int) f t (some:LL->oP LL)=some ((Cd T r f t).map enc):=by
 obtain⟨⟨x,a,b⟩,e⟩:∃q,T[r]? = some q:=⟨T[r],Qqb h⟩;have e2:(T.map enc)[r]? = some [Ql x,Ql a,Ql b]:=by rw[Qqr,e];rfl
 unfold XF;rw[Qql,XQ I I];simp -implicitDefEqProofs only[Qh,Qq6,Qq7,Qj,XR,X2,Qqa,Qq9,Qqd,Qqc,Qq8,e2,List.set_cons_zero,List.set_cons_succ];unfold Cd;simp only[e];by_cases aa:a<b
 ·rw[show decide (a<b)=true by simpa using aa,Qqa,Qqf aa,List.map_set];rfl
 ·rw[show decide (a<b)=false by simpa using aa,Qq9,Qqh aa,List.map_set];rfl
theorem Qjo{n:Nat}{T:Y Occ}{r:Nat}{f t:Int}(h:r<T.length)(ac:f<t):YV n (T.map λq=>[D.bool (Si q)]) (T.map enc) (r:Int) f t Tu2=some ((Cd T r f t).map (λq=>[D.bool (Si q)]),(Cd T r f t).map enc):=by
 obtain⟨⟨x,a,b⟩,e⟩:∃q,T[r]? = some q:=⟨T[r],Qqb h⟩;have e2:(T.map enc)[r]? = some [Ql x,Ql a,Ql b]:=by rw[Qqr,e];rfl
 have g:(T.map λq=>[D.bool (Si q)])[r]? = some [D.bool (decide (a<b))]:=by rw[Qqr,e];rfl
 unfold YV;rw[Qql,Qql,XQ I I];simp -implicitDefEqProofs only[Qh,Qq6,Qq7,Qj,XR,X2,Qqa,Qq9,Qqd,Qqc,Qq8,e2,g,LA,List.set_cons_zero,List.set_cons_succ];unfold Cd;simp only[e];by_cases aa:a<b
 ·rw[show decide (a<b)=true by simpa using aa,Qqa,Qqf aa,List.map_set,List.map_set,show Si ((r:Int),(if a<f then a else f),(if t<b then b else t))=true by simp only[Si,decide_eq_true_eq];split<;>split<;>omega];rfl
 ·rw[show decide (a<b)=false by simpa using aa,Qq9,Qqh aa,List.map_set,List.map_set,show Si ((r:Int),f,t)=true by simpa[Si]using ac];rfl
theorem Q4w:∀{l:Y Occ} {i:Nat} {a:Occ},((l.set i a).filter Si).length<=(l.filter Si).length+1
 |[],i,a=>by simp
 |x::l,0,a=>by
  rw[List.set_cons_zero,QqB,QqB];split<;>split<;>simp<;>omega
 |x::l,i+1,a=>by
  have:=Q4w (l:=l) (i:=i) (a:=a);rw[List.set_cons_succ,QqB,QqB];split<;>simp<;>omega
theorem Q3c{T:Y Occ}{r:Nat}{f t:Int}:((Cd T r f t).filter Si).length<=(T.filter Si).length+1:=by
 unfold Cd;split
 ·split<;>exact Q4w
 ·omega
theorem Qjc{T:Y Occ}(hl:T.length<=300):Vl 400 (T.map enc) (some:LL->oP LL)=some ((T.filter Si).map enc):=by
 unfold Vl;rw[Qql];refine QY (r:=λm i=>Y6 400 (T.map enc) (T.length:Int) (λ_ _ w=>some w) m i (((T.take i.toNat).filter Si).map enc)) (N:=T.length) (λm k hk=>?_) (λm=>?_) T.length 400 0 I I
 ·simp only[Qq8];obtain⟨⟨x,a,b⟩,e⟩:∃q,T[k]? = some q:=⟨T[k],Qqb hk⟩;have ac:((((T.take k).filter Si).map enc).length)<=300:=by
   rw[Qql];have:=List.length_filter_le Si (T.take k);rw[List.length_take]at this;omega
  rw[Y6,Qt hk,Qp,Qqr,e,Zv e,List.filter_append,Qqy];simp -implicitDefEqProofs only[Qh,Qq6,Qq7,Qj,XR,X2,Qqa,Qq9,Qqd,Qqc,Option.map_some,enc,QI (show k<=1000 by omega)];by_cases aa:a<b
  ·rw[show decide (a<b)=true by simpa using aa,Qqa,show[(x,a,b)].filter Si=[(x,a,b)] by simp[Si,aa],XI (by simp only[Qqu,Qqx];omega)];rfl
  ·rw[show decide (a<b)=false by simpa using aa,Qq9,show[(x,a,b)].filter Si=[] by simp[Si,aa],List.map_nil,List.append_nil]
 ·simp only[Qq8];rw[Y6,Qz,Qq9,QqA]
theorem Qim{R:Type}{T:Y Occ}(hl:T.length<=300)(K:LL->oP R):V8 400 (T.length:Int) (T.map λq=>[D.bool (Si q)]) (T.map enc) (λ_ _ w=>K w) 400 0 []=K ((T.filter Si).map enc):=by
 refine QY (r:=λm i=>V8 400 (T.length:Int) (T.map λq=>[D.bool (Si q)]) (T.map enc) (λ_ _ w=>K w) m i (((T.take i.toNat).filter Si).map enc)) (N:=T.length) (λm k hk=>?_) (λm=>?_) T.length 400 0 I I
 ·simp only[Qq8];obtain⟨⟨x,a,b⟩,e⟩:∃q,T[k]? = some q:=⟨T[k],Qqb hk⟩;have ac:((((T.take k).filter Si).map enc).length)<=300:=by
   rw[Qql];have:=List.length_filter_le Si (T.take k);rw[List.length_take]at this;omega
  rw[V8,Qt hk,Qql,Qql,XQ I I,Qq8,Qqr,Qqr,e,Zv e,List.filter_append,Qqy];simp -implicitDefEqProofs only[Qh,Qq6,Qq7,Qj,XR,X2,Qqa,Qq9,Qqd,Qqc,Option.map_some,enc,show Si (x,a,b)=decide (a<b)from rfl,LA,QI (show k<=1000 by omega)];by_cases aa:a<b
  ·rw[show decide (a<b)=true by simpa using aa,Qqa,show[(x,a,b)].filter Si=[(x,a,b)] by simp[Si,aa],XI (by simp only[Qqu,Qqx];omega)];rfl
  ·rw[show decide (a<b)=false by simpa using aa,Qq9,show[(x,a,b)].filter Si=[] by simp[Si,aa],List.map_nil,List.append_nil]
 ·simp only[Qq8];rw[V8,Qz,Qq9,QqA]
def pt(Li s:LL)(i:Nat):Int:=pv (Qfg Li (s.getD (i-1) []) (s.getD i []))
def sec(s:LL)(i:Nat):Nat:=match s.getD i []with
 |.int _ x::_=>x.toNat
 |_=>0
def fr(Se s:LL)(X:Run)(bf:Int)(i:Nat):Int:=if i=0 then -bf else fEN Se s X (i-1) / 1000-16
def tu(Se s:LL)(X:Run)(af:Int)(i:Nat):Int:=if i<s.length-1 then cd (fLV Se s X i) 1000+4 else Q3j X+af
def MV(N NP:Nat)(Li s:LL)(f g:Nat->Int):Nat->Y Occ
 |0=>List.replicate (N+NP) (0,0,0)
 |i+1=>if i=0 then Cd (MV N NP Li s f g i) (sec s i) (f i) (g i)else if pt Li s i<0 then Cd (MV N NP Li s f g i) (sec s i) (f i) (g i)else Cd (Cd (MV N NP Li s f g i) (sec s i) (f i) (g i)) (N+(pt Li s i).toNat) (f i) (g (i-1))
theorem P5{N NP:Nat}{Li s:LL}{f g:Nat->Int}:∀{i:Nat},(MV N NP Li s f g i).length=N+NP
 |0=>by simp[MV]
 |i+1=>by
  rw[MV];split
  ·rw[MI,P5]
  ·split<;>simp only[MI,P5]
theorem Q2h{N NP:Nat}{Li s:LL}{f g:Nat->Int}{j:Nat}:MV N NP Li s f g (j+1+1)=if pt Li s (j+1)<0 then Cd (MV N NP Li s f g (j+1)) (sec s (j+1)) (f (j+1)) (g (j+1))else Cd (Cd (MV N NP Li s f g (j+1)) (sec s (j+1)) (f (j+1)) (g (j+1))) (N+(pt Li s (j+1)).toNat) (f (j+1)) (g j):=by
 show(if j+1=0 then _ else _)=_;rw[Qqh I];rfl
def Q8b(St Pt Se Li s:LL)(X:Run)(bf af:Int):Y Occ:=(MV Se.length Pt.length Li s (fr Se s X bf) (tu Se s X af) s.length).filter Si
section
variable{N NP:Nat} {Li:LL}
theorem Q5Y:∀{s:LL} {k:Nat},Q0s N NP Li k s=true->∀i,i+1<s.length->∃p,Qfg Li (s.getD i []) (s.getD (i+1) [])=some p/\ptR [] [] (List.replicate N []) Li (s.getD i []) (s.getD (i+1) [])=some p /\ -1<=p/\p<NP
 |[],_,_,i,hi=>by simp at hi
 |[_],_,_,i,hi=>by simp at hi
 |r::r'::t,k,h,i,hi=>by
  rw[Q0s]at h;split at h
  ·rename_i p q e1 e2;simp only[Qqz,beq_iff_eq,decide_eq_true_eq]at h;obtain⟨rfl,a,h2,b⟩:=h;cases i with
   |zero=>exact⟨p,e1,e2,a,h2⟩
   |succ i=>exact Q5Y b i (by simpa using hi)
  ·cases h
theorem Q7D:∀{s:LL} {k:Nat},Q0s N NP Li k s=true->∀(c:Nat->Nat),(∀i,c (i+1)<=c i+(if pt Li s (i+1)<0 then 1 else 2))->c 0<=k->∀i,i<s.length->c i<=5
 |[],_,_,_,_,_,i,hi=>by simp at hi
 |[r],k,h,c,hc,f,i,hi=>by
  have:i=0:=by simpa using hi
  subst this;have:k<=5:=QqE h;omega
 |r::r'::t,k,h,c,hc,f,i,hi=>by
  rw[Q0s]at h;split at h
  ·rename_i p q e1 e2;simp only[Qqz,beq_iff_eq,decide_eq_true_eq]at h;obtain⟨rfl,j,h2,e⟩:=h;have hp:pt Li (r::r'::t) 1=p:=by show pv (Qfg Li r r')=p;rw[e1];rfl
   have d:c 1<=c 0+(if pt Li (r::r'::t) 1<0 then 1 else 2):=hc 0;rw[hp]at d;have g:c 1<=(bif decide (p<0)then k+1 else k+2):=by
    by_cases hq:p<0
    ·rw[Qqf hq]at d;rw[show decide (p<0)=true by simpa using hq,Qqa];omega
    ·rw[Qqh hq]at d;rw[show decide (p<0)=false by simpa using hq,Qq9];omega
   have ih:=Q7D e (λi=>c (i+1)) (λi=>hc (i+1)) g;cases i with
   |zero=>
    have:=ih 0 Q2;have hq:c 0<=5:=by
     have aa:∀{s:LL} {k:Nat},Q0s N NP Li k s=true->k<=5:=by
      intro s;induction s with
      |nil=>exact λh=>QqE h
      |cons a s ih=>
       intro k h;cases s with
       |nil=>exact QqE h
       |cons b s=>
        rw[Q0s]at h;split at h
        ·simp only[Qqz]at h;have:=ih h.2.2.2;revert this;cases decide (_<(0:Int))<;>simp<;>omega
        ·cases h
     have:=aa e;revert this;cases decide (p<0)<;>simp<;>omega
    exact hq
   |succ i=>exact ih i (by simpa using hi)
  ·cases h
end
theorem MG{α:Type}{l:Y α}{n:Nat}(h:l.length=n):SY l n=some ():=by
 grind[SY,Nat.beq,Nat.beq_refl]
def spn(f g:Nat->Int)(n:Nat):LL:=(List.range n).map λi=>[Ql 0,Ql (f i),Ql (g i)]
theorem Q9l{f g:Nat->Int}{n:Nat}:(spn f g n).length=n:=by simp[spn]
theorem Qhb{f g:Nat->Int}{n i:Nat}(h:i<n):(spn f g n)[i]? = some [Ql 0,Ql (f i),Ql (g i)]:=by simp[spn,h]
theorem Q70{f g:Nat->Int}{n:Nat}:spn f g n++[[Ql 0,Ql (f n),Ql (g n)]]=spn f g (n+1):=by simp[spn,List.range_succ]
theorem Q2B{St Pt Se Li:LL}(h:PA 400 St Pt Se Li=true):Pt.length<=48/\Se.length<=96:=by
 simp_all [PA,Qqz,QqE]
theorem Qbi{l:Y Occ}:Lb [l.map enc]=some ():=by
 unfold Lb;rw[show([l.map enc].all A8)=true by simp[A8,enc,Q64]];rfl
section
variable{St Pt Se Li s:LL} (h:RtF St Pt Se Li s) {nm:Y UInt8} {tl sp ac br bf af:Int} (hk:StkN tl sp ac br) (hb0:0<=bf) (hb1:bf<=65536) (ha0:0<=af) (ha1:af<=65536)
include h hk
theorem Q7S{i j:Nat}(ai:i<=j)(hj:j<s.length):0<=fEN Se s (Zz Se s nm tl sp ac br) i/\fEN Se s (Zz Se s nm tl sp ac br) i<=fLV Se s (Zz Se s nm tl sp ac br) j/\fLV Se s (Zz Se s nm tl sp ac br) j<=7000000:=by
 have hX:=Rn h (nm:=nm) hk;have a:=QeC h (nm:=nm) hk hj;have h2:=Q9K (Se:=Se) (s:=s) (i:=i-1) (j:=j) I;have c:=Q19 h (nm:=nm) hk (b:=pos Se s (i-1)) I;unfold fEN fLV;by_cases hm:j<s.length-1
 ·rw[Qqf hm];exact⟨c.1,Run.T_mono hX I (a.2 hm),(Q19 h (nm:=nm) hk (a.2 hm)).2⟩
 ·rw[Qqh hm];exact⟨c.1,Run.T_mono hX I (Qqm _),(Q19 h (nm:=nm) hk (Qqm _)).2⟩
include hb0 hb1 ha0 ha1
theorem QjQ{i:Nat}(hi:i<s.length) : -70000<=fr Se s (Zz Se s nm tl sp ac br) bf i/\fr Se s (Zz Se s nm tl sp ac br) bf i<tu Se s (Zz Se s nm tl sp ac br) af i/\tu Se s (Zz Se s nm tl sp ac br) af i<=80000/\(1<=i->fr Se s (Zz Se s nm tl sp ac br) bf i<tu Se s (Zz Se s nm tl sp ac br) af (i-1)):=by
 have l2:=h.l2;have hr:=Fw h (nm:=nm) hk;have hN:=Q7S h (nm:=nm) hk (i:=i-1) (j:=s.length-1) I I;have b:=Q7S h (nm:=nm) hk (i:=i-1) (j:=i) I hi;have c:=Q7S h (nm:=nm) hk (i:=i-1) (j:=i-1) I I;have c1:=Az (a:=fLV Se s (Zz Se s nm tl sp ac br) i) I (show(1:Int)<=1000 by decide);have c0:=Az (a:=fLV Se s (Zz Se s nm tl sp ac br) (i-1)) I (show(1:Int)<=1000 by decide);have hl:fLV Se s (Zz Se s nm tl sp ac br) (s.length-1)=(Zz Se s nm tl sp ac br).T (Zz Se s nm tl sp ac br).N:=by unfold fLV;rw[Qqh I]
 have cN:=Az (a:=fLV Se s (Zz Se s nm tl sp ac br) (s.length-1)) I (show(1:Int)<=1000 by decide);have aa:Q3j (Zz Se s nm tl sp ac br)=cd (fLV Se s (Zz Se s nm tl sp ac br) (s.length-1)) 1000:=by rw[hl];rfl
 unfold fr tu;omega
theorem QiO:Up 400 St Pt Se Li s 0 nm tl sp ac br bf af Tu3=some ((Q8b St Pt Se Li s (Zz Se s nm tl sp ac br) bf af).map enc,Q3j (Zz Se s nm tl sp ac br),0):=by
 have l2:=h.l2;have l24:=h.l24;have a4:=Fw h (nm:=nm) hk;have ai:=λi j (a7:i<=j) (hj:j<s.length)=>Q7S h (nm:=nm) hk (i:=i) (j:=j) a7 hj
 have ao:=λi (hi:i<s.length)=>QjQ h (nm:=nm) hk hb0 hb1 ha0 ha1 hi
 have bb:=QfD h (nm:=nm) hk;have bk:=Q2B h.lay;unfold Up;rw[Qh4 h.lay rfl h.l2 h.l24 h.rt h.st hk,Qh,Qq (by rfl),show decide (bf<0)=false by simpa using hb0,show decide (bf>65536)=false by simpa using hb1,show decide (af<0)=false by simpa using ha0,show decide (af>65536)=false by simpa using ha1];simp -implicitDefEqProofs only[Qq9];unfold Jk;rw[bb];revert a4 ai ao;generalize Zz Se s nm tl sp ac br=X;intro a4 ai ao;have z:wJ ((s.length:Int)-1)=((s.length-1:Nat):Int):=JT I I;have aa:wJ (((s.length-1:Nat):Int)-1)=((s.length-1-1:Nat):Int):=JT I I;have ax:∀i,i<s.length->Qi (arr (fEN Se s X) s.length) (i:Int)=some [Ql (fEN Se s X i)]:=λi hi=>by rw[Qp];exact G6 hi
 have az:∀i,i<s.length->Qi (arr (fLV Se s X) s.length) (i:Int)=some [Ql (fLV Se s X i)]:=λi hi=>by rw[Qp];exact G6 hi
 have aw:∀i,i<s.length->Vh 400 (fEN Se s X i) (some:Int->oP Int)=some (fEN Se s X i / 1000):=λi hi=>Qia (ai i i (Qqm i) hi).1 (by have:=ai i i (Qqm i) hi;omega)
 have a3:∀i,i<s.length->JR 400 (fLV Se s X i) (some:Int->oP Int)=some (cd (fLV Se s X i) 1000):=λi hi=>upA (by have:=ai i i (Qqm i) hi;omega) (by have:=ai i i (Qqm i) hi;omega)
 have aj:∀(k:Nat) (r:Y D),k<=30->Y5 (((spn (fr Se s X bf) (tu Se s X af) k).length+[r].length)*24)=some ():=λk r hk=>XI (by simp only[Q9l,Qqu,Qqx];omega)
 have f0:fr Se s X bf 0 = -bf:=rfl;have t0:tu Se s X af 0=cd (fLV Se s X 0) 1000+4:=by unfold tu;rw[Qqf I]
 have q0:=ao 0 I;rw[Qh,Qq (by rfl)];dsimp only;rw[show(0:Int)=((0:Nat):Int)from rfl,az 0 I];simp -implicitDefEqProofs only[Qh,Qq6,Qj,a3 0 I,YX,z];have ab:∀k0:Int->Bool->LL->oP (LL×Int×Int),XV 400 (arr (fEN Se s X) s.length) (arr (fLV Se s X) s.length) ((s.length-1:Nat):Int) k0 400 1 (spn (fr Se s X bf) (tu Se s X af) 1)=k0 ((s.length-1:Nat):Int) false (spn (fr Se s X bf) (tu Se s X af) (s.length-1)):=by
  intro k0;refine QY (r:=λm i=>XV 400 (arr (fEN Se s X) s.length) (arr (fLV Se s X) s.length) ((s.length-1:Nat):Int) k0 m ((i.toNat+1:Nat):Int) (spn (fr Se s X bf) (tu Se s X af) (i.toNat+1))) (N:=s.length-1-1) (λm i hi=>?_) (λm=>?_) (s.length-1-1) 400 0 I I
  ·simp only[Qq8];have hf:fr Se s X bf (i+1)=fEN Se s X i / 1000-16:=by unfold fr;rw[Qqh I];rfl
   have ht:tu Se s X af (i+1)=cd (fLV Se s X (i+1)) 1000+4:=by unfold tu;rw[Qqf I]
   have q:=ao (i+1) I;rw[XV,Qt (show i+1<s.length-1 by omega),Qqa,JT (show i+1<=1000 by omega) I,Qqn,ax i I];simp -implicitDefEqProofs only[Qh,Qq6,Qj,aw i I,az (i+1) I,a3 (i+1) I,wI hf.symm I I,wI ht.symm I I,aj (i+1) _ I,Q70,QI (show i+1<=1000 by omega)]
  ·simp only[Qq8];rw[show s.length-1-1+1=s.length-1 by omega,XV,Qz,Qq9]
 rw[show([[D.int .i64 ((0:Nat):Int),D.int .i64 (wJ (((0:Nat):Int)-bf)),D.int .i64 (wJ (cd (fLV Se s X 0) 1000+4))]]:LL)=spn (fr Se s X bf) (tu Se s X af) 1 by
  rw[wI (show((0:Nat):Int)-bf=fr Se s X bf 0 by omega) I I,wI t0.symm I I];rfl,ab]
 have a9:fr Se s X bf (s.length-1)=fEN Se s X (s.length-1-1) / 1000-16:=by unfold fr;rw[Qqh I]
 have bc:tu Se s X af (s.length-1)=Q3j X+af:=by unfold tu;rw[Qqh I]
 have qm:=ao (s.length-1) I;have a5:J7 400 St Pt Se Li (some:LL->oP LL)=some ((MV Se.length Pt.length Li s (fr Se s X bf) (tu Se s X af) 0).map enc):=by
  unfold J7;rw[wI (show(Se.length:Int)+(Pt.length:Int)=((Se.length+Pt.length:Nat):Int) by omega) I I,show(bif decide ((0:Int)<=((Se.length+Pt.length:Nat):Int))&&decide (((Se.length+Pt.length:Nat):Int)<=((Se.length+Pt.length:Nat):Int))then some ()else none)=some () by rw[Xh Q3],Qh,Qq8,XI I,Qh,MV,List.map_replicate];rfl
 rw[aa,ax (s.length-1-1) I];simp -implicitDefEqProofs only[Qh,Qq6,Qj,aw (s.length-1-1) I,aw (s.length-1) I,ax (s.length-1) I,a5,show((0:Nat):Int)=0 from rfl,wI a9.symm I I,wI bc.symm I I,aj (s.length-1) _ I,Q70];rw[show s.length-1+1=s.length by omega];have ad:∀k0:Int->Bool->LL->LL->oP (LL×Int×Int),QA 400 ((s.length-1:Nat):Int) s (s.length:Int) St Pt Se Li s (wJ (fEN Se s X (s.length-1) / 1000-16)) (wJ (Q3j X+20)) k0 400 0 (spn (fr Se s X bf) (tu Se s X af) s.length) ((MV Se.length Pt.length Li s (fr Se s X bf) (tu Se s X af) 0).map enc)=k0 (s.length:Int) false (spn (fr Se s X bf) (tu Se s X af) s.length) ((MV Se.length Pt.length Li s (fr Se s X bf) (tu Se s X af) s.length).map enc):=by
  intro k0;refine QY (r:=λm i=>QA 400 ((s.length-1:Nat):Int) s (s.length:Int) St Pt Se Li s (wJ (fEN Se s X (s.length-1) / 1000-16)) (wJ (Q3j X+20)) k0 m i (spn (fr Se s X bf) (tu Se s X af) s.length) ((MV Se.length Pt.length Li s (fr Se s X bf) (tu Se s X af) i.toNat).map enc)) (N:=s.length) (λm i hi=>?_) (λm=>?_) s.length 400 0 I I
  ·simp only[Qq8];obtain⟨x,d,bj,b,c,st,e,h1,a0,a1,hd⟩:=C7 h.st hi;have hx:=Rr h1;have ak:0<=x/\x<Se.length:=by
    have h2:=hx.1;unfold inB at h2;by_cases hc:0<=x/\x<Se.length
    ·exact hc
    ·rw[show(decide (0<=x)&&decide (x<(Se.length:Int)))=false by simp;omega]at h2;cases h2
   have au:x=((sec s i:Nat):Int):=by
    unfold sec;rw[Qqg,e];show x=(x.toNat:Int);omega
   have hT:=P5 (N:=Se.length) (NP:=Pt.length) (Li:=Li) (s:=s) (f:=fr Se s X bf) (g:=tu Se s X af) (i:=i);have ha:=QgM (n:=400) (T:=MV Se.length Pt.length Li s (fr Se s X bf) (tu Se s X af) i) (r:=sec s i) (f:=fr Se s X bf i) (t:=tu Se s X af i) I;have a2:∀j,j<s.length->(spn (fr Se s X bf) (tu Se s X af) s.length)[j]? = some [Ql 0,Ql (fr Se s X bf j),Ql (tu Se s X af j)]:=λj hj=>Qhb hj
   rw[QA,Qt hi,Qp,e];simp -implicitDefEqProofs only[Qqa,Qh,Qq6,Qq7,show decide ((i:Int)>((s.length-1:Nat):Int))=false by simp;omega,Qq9,Qj,Q9l,XQ (len:=s.length) (show(0:Int)<=(i:Int) by omega) (show(i:Int)<(s.length:Int) by omega),Qq8,a2 i hi,au,ha,QI (show i<=1000 by omega),MG (l:=(Cd (MV Se.length Pt.length Li s (fr Se s X bf) (tu Se s X af) i) (sec s i) (fr Se s X bf i) (tu Se s X af i)).map enc) (n:=((MV Se.length Pt.length Li s (fr Se s X bf) (tu Se s X af) i).map enc).length) (by simp only[Qql,MI])];by_cases ag:i=0
   ·subst ag;rw[show(((0:Nat):Int) == 0)=true from rfl,Qqa];rfl
   ·obtain⟨j,rfl⟩:∃j,i=j+1:=⟨i-1,I⟩;obtain⟨x',d',bh,b',c',st',e',bg,_,_,a6⟩:=C7 h.st (j:=j) I;obtain⟨p,a,al,am,an⟩:=Q5Y h.hops j hi;rw[Qqg,Qqg,e,e',Qqv,Qqv]at a;have ba:=Rr bg;have ar:0<=x'/\x'<Se.length:=by
     have h2:=ba.1;unfold inB at h2;by_cases hc:0<=x'/\x'<Se.length
     ·exact hc
     ·rw[show(decide (0<=x')&&decide (x'<(Se.length:Int)))=false by simp;omega]at h2;cases h2
    have a8:pt Li s (j+1)=p:=by
     unfold pt;rw[Qqg,Qqg,e,Qqn,e',Qqv,Qqv,a];rfl
    have ay:=(Qds h.lay ar.1 ar.2 a6 (y:=x) (e:=d)).trans a;rw[au]at ay;rw[show(((j+1:Nat):Int) == 0)=false by simp;omega,Qq9,JT (show j+1<=1000 by omega) I,Qqn,Qp,e'];simp -implicitDefEqProofs only[Qh,Qq6,Qq7,Qj,ay];rw[Q2h,a8];by_cases hp:p<0
    ·rw[show decide (p<0)=true by simpa using hp,Qqa,Qqf hp]
    ·have ah:=QgM (n:=400) (T:=Cd (MV Se.length Pt.length Li s (fr Se s X bf) (tu Se s X af) (j+1)) (sec s (j+1)) (fr Se s X bf (j+1)) (tu Se s X af (j+1))) (r:=Se.length+p.toNat) (f:=fr Se s X bf (j+1)) (t:=tu Se s X af j) (by rw[MI];omega);rw[show decide (p<0)=false by simpa using hp,Qq9,Qqh hp,show decide (((j+1:Nat):Int)<=((s.length-1:Nat):Int))=true by simp;omega,Qqa];simp -implicitDefEqProofs only[XQ (len:=s.length) (show(0:Int)<=(j:Int) by omega) (show(j:Int)<(s.length:Int) by omega),Qh,Qq6,Qq7,Qj,a2 j I,wI (show(Se.length:Int)+p=((Se.length+p.toNat:Nat):Int) by omega) I I,Qq8,ah,Qqn];rw[MG (by simp only[Qql,MI]),Qh]
  ·simp only[Qq8];rw[QA,Qz,Qq9]
 rw[ad,Qjc (by rw[P5];omega),Qh,Qbi,Qh];rfl
end
theorem Qhf{St Pt Se Li L:LL}{x d y e p:Int}(h:ptR [] [] L Li [Ql x,Ql d] [Ql y,Ql e]=some p):∃a b c,JS 400 St Pt Se Li x d y e Tu5=some (a,b,Ql p,c,true):=by
 rw[QjO (a':=[]) (b':=[]) (L':=L)];unfold ptR at h;dsimp only at h;split at h
 ·rename_i he;cases h;exact⟨_,_,_,he⟩
 ·cases h
def Qde(T:Y Occ):LL:=T.map λq=>[D.bool (Si q)]
section
variable{St Pt Se Li s:LL} (h:RtF St Pt Se Li s) {nm:Y UInt8} {tl sp ac br bf af:Int} (hk:StkN tl sp ac br) (hb0:0<=bf) (hb1:bf<=65536) (ha0:0<=af) (ha1:af<=65536)
include h hk hb0 hb1 ha0 ha1
theorem Qik:Hr 400 St Pt Se Li s 0 nm tl sp ac br bf af Tu3=some ((Q8b St Pt Se Li s (Zz Se s nm tl sp ac br) bf af).map enc,Q3j (Zz Se s nm tl sp ac br),0):=by
 have l2:=h.l2;have l24:=h.l24;have a9:=Fw h (nm:=nm) hk;have ay:=λi j (bh:i<=j) (hj:j<s.length)=>Q7S h (nm:=nm) hk (i:=i) (j:=j) bh hj
 have a3:=λi (hi:i<s.length)=>QjQ h (nm:=nm) hk hb0 hb1 ha0 ha1 hi
 have bk:=Qiq h (nm:=nm) hk;have b8:=Q2B h.lay;unfold Hr;rw[Qan h hk,Qh,Qq (by rfl),Q5c hb0 hb1,Qh,Q5c ha0 ha1];simp -implicitDefEqProofs only[Qh,Qqd,Qq9,Qqc];rw[bk];revert a9 ay a3;generalize Zz Se s nm tl sp ac br=X;intro a9 ay a3;have t:wJ ((s.length:Int)-1)=((s.length-1:Nat):Int):=JT I I;have bb:∀i,i<s.length->Qi (arr (fEN Se s X) s.length) (i:Int)=some [Ql (fEN Se s X i)]:=λi hi=>by rw[Qp];exact G6 hi
 have a4:∀i,i<s.length->Qi (arr (fLV Se s X) s.length) (i:Int)=some [Ql (fLV Se s X i)]:=λi hi=>by rw[Qp];exact G6 hi
 have a5:∀i,i<s.length->VF 400 (fEN Se s X i) 1000 (some:Int->oP Int)=some (fEN Se s X i / 1000):=λi hi=>Qh8 (ay i i (Qqm i) hi).1 (by have:=ay i i (Qqm i) hi;omega)
 have a8:∀i,i<s.length->Jp 400 (fLV Se s X i) 1000 (some:Int->oP Int)=some (cd (fLV Se s X i) 1000):=λi hi=>QdC (by have:=ay i i (Qqm i) hi;omega) Q1 (by have:=ay i i (Qqm i) hi;omega)
 have bg:wJ ((Se.length:Int)+(Pt.length:Int))=((Se.length+Pt.length:Nat):Int):=wI I I I;have hg:(bif decide ((0:Int)<=((Se.length+Pt.length:Nat):Int))&&decide (((Se.length+Pt.length:Nat):Int)<=((Se.length+Pt.length:Nat):Int))then some ()else none)=some ():=by rw[Xh Q3]
 rw[Qh];dsimp only;simp -implicitDefEqProofs only[bg,hg,Qh,Qq8,XI (show(Se.length+Pt.length)*1<=100000 by omega),XI (show(Se.length+Pt.length)*24<=100000 by omega),YX,t];let T:Nat->Y Occ:=λi=>MV Se.length Pt.length Li s (fr Se s X bf) (tu Se s X af) i
 have u:∀k0:Int->Int->Bool->LL->LL->oP (LL×Int×Int),Wk 400 bf af (arr (fEN Se s X) s.length) (arr (fLV Se s X) s.length) (Q3j X) ((s.length-1:Nat):Int) St Pt Se Li s k0 400 0 0 (Qde (T 0)) ((T 0).map enc)=k0 (tu Se s X af (s.length-1)) (s.length:Int) false (Qde (T s.length)) ((T s.length).map enc):=by
  intro k0;refine QY (r:=λm i=>Wk 400 bf af (arr (fEN Se s X) s.length) (arr (fLV Se s X) s.length) (Q3j X) ((s.length-1:Nat):Int) St Pt Se Li s k0 m (if i.toNat=0 then 0 else tu Se s X af (i.toNat-1)) i (Qde (T i.toNat)) ((T i.toNat).map enc)) (N:=s.length) (λm i hi=>?_) (λm=>?_) s.length 400 0 I I
  ·simp only[Qq8];obtain⟨x,d,b0,b,c,st,e,v,a0,a1,hd⟩:=C7 h.st hi;have hx:=Rr v;have ax:0<=x/\x<Se.length:=by
    have h2:=hx.1;unfold inB at h2;by_cases hc:0<=x/\x<Se.length
    ·exact hc
    ·rw[show(decide (0<=x)&&decide (x<(Se.length:Int)))=false by simp;omega]at h2;cases h2
   have a2:x=((sec s i:Nat):Int):=by
    unfold sec;rw[Qqg,e];show x=(x.toNat:Int);omega
   have hT:(T i).length=Se.length+Pt.length:=P5;have q:=a3 i hi;have ha:YV 400 (Qde (T i)) ((T i).map enc) ((sec s i:Nat):Int) (fr Se s X bf i) (tu Se s X af i) Tu2=_:=Qjo I q.2.1;rw[Wk,Qt hi,Qqa];have hz:∀(J:Int->Int->oP (LL×Int×Int)),jn J (λj=>bif ((i:Int) == (0:Int))then
      gb true (Qi (arr (fLV Se s X) s.length) (0:Int)) [] λy=>gb true (y[0]?) oF λz=>gb true (pIw z) 0 λaa=>gb true (Jp 400 aa (1000:Int) some) 0 λab=>j (wJ (0-bf)) (wJ (ab+(4:Int)))
     else bif (decide ((i:Int)<((s.length-1:Nat):Int)))then
      gb true (Qi (arr (fEN Se s X) s.length) (wJ ((i:Int)-(1:Int)))) [] λad=>gb true (ad[0]?) oF λae=>gb true (pIw ae) 0 λag=>gb true (VF 400 ag (1000:Int) some) 0 λah=>
      gb true (Qi (arr (fLV Se s X) s.length) (i:Int)) [] λai=>gb true (ai[0]?) oF λaj=>gb true (pIw aj) 0 λak=>gb true (Jp 400 ak (1000:Int) some) 0 λal=>j (wJ (ah-(16:Int))) (wJ (al+(4:Int)))
     else bif ((i:Int) == ((s.length-1:Nat):Int))then
      gb true (Qi (arr (fEN Se s X) s.length) (wJ (((s.length-1:Nat):Int)-(1:Int)))) [] λam=>gb true (am[0]?) oF λan=>gb true (pIw an) 0 λao=>gb true (VF 400 ao (1000:Int) some) 0 λap=>j (wJ (ap-(16:Int))) (wJ (Q3j X+af))
     else
      gb true (Qi (arr (fEN Se s X) s.length) ((s.length-1:Nat):Int)) [] λaq=>gb true (aq[0]?) oF λar=>gb true (pIw ar) 0 λau=>gb true (VF 400 au (1000:Int) some) 0 λav=>j (wJ (av-(16:Int))) (wJ (Q3j X+(20:Int))))=J (fr Se s X bf i) (tu Se s X af i):=by
    intro J;dsimp only[jn];by_cases g:i=0
    ·subst g;have t0:tu Se s X af 0=cd (fLV Se s X 0) 1000+4:=by unfold tu;rw[Qqf I]
     have f0:fr Se s X bf 0 = -bf:=rfl;rw[show(((0:Nat):Int) == 0)=true from rfl,Qqa,show(0:Int)=((0:Nat):Int)from rfl,a4 0 hi];simp -implicitDefEqProofs only[Qh,Qq6,Qj,a8 0 hi,wI (show((0:Nat):Int)-bf=fr Se s X bf 0 by omega) I I,wI t0.symm I I]
    ·have hp:fr Se s X bf i=fEN Se s X (i-1) / 1000-16:=by unfold fr;rw[Qqh g]
     rw[show((i:Int) == 0)=false by simp;omega,Qq9];by_cases a7:i<s.length-1
     ·have ht:tu Se s X af i=cd (fLV Se s X i) 1000+4:=by unfold tu;rw[Qqf a7]
      rw[Qt a7,Qqa,JT I I,bb (i-1) I];simp -implicitDefEqProofs only[Qh,Qq6,Qj,a5 (i-1) I,a4 i hi,a8 i hi,wI hp.symm I I,wI ht.symm I I]
     ·obtain rfl:i=s.length-1:=I
      have ht:tu Se s X af (s.length-1)=Q3j X+af:=by unfold tu;rw[Qqh I]
      rw[Qz,Qq9,show(((s.length-1:Nat):Int) == ((s.length-1:Nat):Int))=true by simp,Qqa,JT I I,bb (s.length-1-1) I];simp -implicitDefEqProofs only[Qh,Qq6,Qj,a5 (s.length-1-1) I,wI hp.symm I I,wI ht.symm I I]
   rw[hz,Qp,e];simp -implicitDefEqProofs only[Qh,Qq6,Qq7,Qj,a2,ha,QI (show i<=1000 by omega),Qqn,Nat.succ_ne_zero,if_false];by_cases g:i=0
   ·subst g;rw[show decide (((0:Nat):Int)>0)=false from rfl,Qq9];rfl
   ·obtain⟨j,rfl⟩:∃j,i=j+1:=⟨i-1,I⟩;obtain⟨x',d',bl,b',c',st',e',b9,_,_,bv⟩:=C7 h.st (j:=j) I;obtain⟨p,l,k,az,ba⟩:=Q5Y h.hops j hi;rw[Qqg,Qqg,e,e',Qqv,Qqv]at l k;have bi:pt Li s (j+1)=p:=by
     unfold pt;rw[Qqg,Qqg,e,Qqn,e',Qqv,Qqv,l];rfl
    rw[a2]at k;obtain⟨u1,u2,u3,hj⟩:=Qhf (St:=St) (Pt:=Pt) (Se:=Se) k;rw[Q6 (((j+1:Nat):Int)>0),Qqa,JT (show j+1<=1000 by omega) I,Qqn,Qp,e'];simp -implicitDefEqProofs only[Qh,Qq6,Qq7,Qj,hj];have bj:T (j+1+1)=if p<0 then Cd (T (j+1)) (sec s (j+1)) (fr Se s X bf (j+1)) (tu Se s X af (j+1))else Cd (Cd (T (j+1)) (sec s (j+1)) (fr Se s X bf (j+1)) (tu Se s X af (j+1))) (Se.length+p.toNat) (fr Se s X bf (j+1)) (tu Se s X af j):=by
     show MV _ _ _ _ _ _ (j+1+1)=_;rw[Q2h,bi]
    rw[bj];by_cases hp:p<0
    ·rw[show decide (p>=0)=false by simp;omega,Qq9,Qqf hp];rfl
    ·have aw:YV 400 (Qde (Cd (T (j+1)) (sec s (j+1)) (fr Se s X bf (j+1)) (tu Se s X af (j+1)))) ((Cd (T (j+1)) (sec s (j+1)) (fr Se s X bf (j+1)) (tu Se s X af (j+1))).map enc) ((Se.length+p.toNat:Nat):Int) (fr Se s X bf (j+1)) (tu Se s X af j) Tu2=_:=Qjo (by rw[MI];omega) (q.2.2.2 I);rw[show decide (p>=0)=true by simp;omega,Qqa,Qqh hp,show decide (((j+1:Nat):Int)>((s.length-1:Nat):Int))=false by simp;omega,Qq9];have n:=aw;unfold Qde at n;simp -implicitDefEqProofs only[Qh,wI (show(Se.length:Int)+p=((Se.length+p.toNat:Nat):Int) by omega) I I,n,Qqn,Qqh (Nat.succ_ne_zero _)];rfl
  ·simp only[Qq8];rw[Wk,Qz,Qq9,Qqh I]
 have a6:T 0=List.replicate (Se.length+Pt.length) (0,0,0):=rfl;have e1:List.replicate (Se.length+Pt.length) [D.bool false]=Qde (T 0):=by rw[a6];unfold Qde;rw[List.map_replicate];rfl
 have e2:List.replicate (Se.length+Pt.length) [D.int .i64 (0:Int),D.int .i64 (0:Int),D.int .i64 (0:Int)]=(T 0).map enc:=by rw[a6,List.map_replicate];rfl
 rw[e1,e2,u];have hl:((Se.length+Pt.length:Nat):Int)=(((T s.length).length:Nat):Int):=by rw[show(T s.length).length=Se.length+Pt.length from P5]
 rw[hl];exact Qim (by rw[show(T s.length).length=Se.length+Pt.length from P5];omega) _
end
def OL:Int->Y Occ->Prop
 |_,[]=>True
 |l,(x,a,b)::r=>l<x /\ -1000<=a/\a<b/\b<=20000/\x<=1000/\OL x r
theorem OL.mono:∀{l l':Int} {O:Y Occ},l'<=l->OL l O->OL l' O
 |_,_,[],_,_=>trivial
 |_,_,(x,a,b)::r,h,⟨c,h2⟩=>⟨I,h2⟩
theorem OL.filter{p:Occ->Bool}:∀{l:Int} {O:Y Occ},OL l O->OL l (O.filter p)
 |_,[],_=>trivial
 |l,(x,a,b)::r,⟨c,h2,d,e,h5,h6⟩=>by
  rw[QqB];split
  ·exact⟨c,h2,d,e,h5,h6.filter⟩
  ·exact(h6.filter).mono I
theorem OL.mem:∀{l:Int} {O:Y Occ},OL l O->∀q∈O,l<q.1 /\ -1000<=q.2.1/\q.2.1<q.2.2/\q.2.2<=20000/\q.1<=1000
 |_,[],_,_,h=>nomatch h
 |l,(x,a,b)::r,⟨c,h2,d,e,h5,h6⟩,q,h=>by
  cases h with
  |head=>exact⟨c,h2,d,e,h5⟩
  |tail _ h=>have:=h6.mem q h;exact⟨I,this.2⟩
def TI(T:Y Occ):Prop:=∀(r:Nat) (x a b:Int),T[r]? = some (x,a,b)->a<b->x=(r:Int) /\ -1000<=a/\b<=20000
theorem TI.add{T:Y Occ}(h:TI T){r:Nat}{f t:Int}(hf : -1000<=f)(ht:t<=20000):TI (Cd T r f t):=by
 unfold Cd;cases e:T[r]? with
 |none=>exact h
 |some q=>
  obtain⟨x,a,b⟩:=q;dsimp only;have hr:=(Qqe.1 e).1;by_cases aj:a<b
  ·have c:=h r x a b e aj;rw[Qqf aj];intro r' x' a' b' e' aa;rw[List.getElem?_set]at e';by_cases ai:r=r'
   ·subst ai;rw[Qqf rfl,Qqf hr]at e';cases e';refine⟨rfl,?_,?_⟩<;>split<;>omega
   ·rw[Qqh ai]at e';exact h r' x' a' b' e' aa
  ·rw[Qqh aj];intro r' x' a' b' e' aa;rw[List.getElem?_set]at e';by_cases ai:r=r'
   ·subst ai;rw[Qqf rfl,Qqf hr]at e';cases e';exact⟨rfl,hf,ht⟩
   ·rw[Qqh ai]at e';exact h r' x' a' b' e' aa
theorem TI.ol:∀{T:Y Occ} {k:Nat},T.length+k<=1000->(∀(r:Nat) (x a b:Int),T[r]? = some (x,a,b)->a<b->x=((r+k:Nat):Int) /\ -1000<=a/\b<=20000)->OL ((k:Int)-1) (T.filter Si)
 |[],_,_,_=>trivial
 |(x,a,b)::T,k,hk,h=>by
  have ih:=TI.ol (T:=T) (k:=k+1) (by simp at hk;omega) λr x a b e aa=>by
   have:=h (r+1) x a b e aa;rw[show r+1+k=r+(k+1) by omega]at this;exact this
  rw[show((k+1:Nat):Int)-1=(k:Int) by omega]at ih;have c:=h 0 x a b rfl;rw[QqB];by_cases aa:a<b
  ·have c:=c aa;rw[show Si (x,a,b)=true by simpa[Si]using aa,Qqf rfl];have hx:x=(k:Int):=by simpa using c.1
   refine⟨I,c.2.1,aa,c.2.2,by simp at hk;omega,?_⟩;rw[hx];exact ih
  ·rw[show Si (x,a,b)=false by simpa[Si]using aa,Qqh Q2];exact ih.mono I
section
variable{St Pt Se Li s:LL} (h:RtF St Pt Se Li s) {nm:Y UInt8} {tl sp ac br bf af:Int} (hk:StkN tl sp ac br) (hb0:0<=bf) (hb1:bf<=60) (ha0:0<=af) (ha1:af<=5000)
include h hk hb0 hb1 ha0 ha1
theorem QhZ{i:Nat}(hi:i<s.length) : -1000<=fr Se s (Zz Se s nm tl sp ac br) bf i/\tu Se s (Zz Se s nm tl sp ac br) af i<=20000:=by
 have l2:=h.l2;have hr:=Fw h (nm:=nm) hk;have b:=Q7S h (nm:=nm) hk (i:=i-1) (j:=i) I hi;have c1:=Az (a:=fLV Se s (Zz Se s nm tl sp ac br) i) I (show(1:Int)<=1000 by decide);unfold fr tu;constructor
 ·split<;>omega
 ·split<;>omega
theorem QeX:OL (-1) (Q8b St Pt Se Li s (Zz Se s nm tl sp ac br) bf af)/\(Q8b St Pt Se Li s (Zz Se s nm tl sp ac br) bf af).length<=6:=by
 have aj:=Q2B h.lay;have aa:=λi (hi:i<s.length)=>QhZ h (nm:=nm) hk hb0 hb1 ha0 ha1 hi
 have l2:=h.l2;unfold Q8b;generalize Zz Se s nm tl sp ac br=X at aa;have hT:∀i,i<=s.length->TI (MV Se.length Pt.length Li s (fr Se s X bf) (tu Se s X af) i):=by
  intro i;induction i with
  |zero=>
   intro _ r x a b e ai;have:=Qqe.1 e;obtain⟨c,h2⟩:=this;simp only[MV,List.getElem_replicate]at h2;cases h2;omega
  |succ i ih=>
   intro hi;have ih:=ih I;have q:=aa i I;rw[MV];split
   ·exact ih.add q.1 q.2
   ·have q1:=aa (i-1) I;split
    ·exact ih.add q.1 q.2
    ·exact(ih.add q.1 q.2).add q.1 q1.2
 constructor
 ·have:=TI.ol (T:=MV Se.length Pt.length Li s (fr Se s X bf) (tu Se s X af) s.length) (k:=0) (by rw[P5];omega) (λr x a b e ai=>hT _ (Qqm _) r x a b e ai);exact this
 ·have hc:=Q7D h.hops (λi=>((MV Se.length Pt.length Li s (fr Se s X bf) (tu Se s X af) (i+1)).filter Si).length-1) (λi=>?_) ?_ (s.length-1) I
  ·rw[show s.length-1+1=s.length by omega]at hc;omega
  ·rw[Q2h];have c1:=Q3c (T:=MV Se.length Pt.length Li s (fr Se s X bf) (tu Se s X af) (i+1)) (r:=sec s (i+1)) (f:=fr Se s X bf (i+1)) (t:=tu Se s X af (i+1));split
   ·omega
   ·have d:=Q3c (T:=Cd (MV Se.length Pt.length Li s (fr Se s X bf) (tu Se s X af) (i+1)) (sec s (i+1)) (fr Se s X bf (i+1)) (tu Se s X af (i+1))) (r:=Se.length+(pt Li s (i+1)).toNat) (f:=fr Se s X bf (i+1)) (t:=tu Se s X af i);omega
  ·have c1:=Q3c (T:=MV Se.length Pt.length Li s (fr Se s X bf) (tu Se s X af) 0) (r:=sec s 0) (f:=fr Se s X bf 0) (t:=tu Se s X af 0);have c0:((MV Se.length Pt.length Li s (fr Se s X bf) (tu Se s X af) 0).filter Si).length=0:=by
    rw[MV];simp[Si]
   show((MV Se.length Pt.length Li s (fr Se s X bf) (tu Se s X af) 1).filter Si).length-1<=0;rw[MV,Qqf rfl];omega
end
end Go.Vx
namespace Go.Vx
variable{R:Type} (n:Nat)
def Ye(p:Int)(ad:LL)(q:Int)(f g h i:LL)(r:Int)(b c s t u v x:LL)(j y:D)(k0:Qlg R)(k1:Qls R):Qlu R
|0,_,_,_=>none
|m+1,a,d,e=>bif decide (a<q)then Qc R (Qi ad a) λaj=>Ql8 R aj λak al=>QkR R aj λau=>Qkw R al au λam an=>Qb R (wJ (a+1)) λk=>bif a==0 then Qc R (pSl 4 y) λav=>bif a==wJ ((av.length:Int)-1)then Qc R (pIw al) λaw=>Qc R (H8 n r b c s t u v x p some) λax=>Qld R ak c λaz ba=>QkD R j b az ba λbi bj bk bl bm bn bo=>Qc R (Up n f g h i bi bj bk bl bm bn bo 60 (wJ (aw+ax)) Tu3) λz=>bif z.2.2 !=0 then k0 z.2.2 else QkV R ((d.length+[[D.sl 3 z.1]].length)*24) ((e.length+[[Ql z.2.1]].length)*8) (Ye p ad q f g h i r b c s t u v x j y k0 k1 m k (d++[[D.sl 3 z.1]]) (e++[[Ql z.2.1]]))else Qld R ak c λbq br=>QkD R j b bq br λcc ce cf cg ch ci cj=>Qc R (Up n f g h i cc ce cf cg ch ci cj 60 (wJ (am+an)) Tu3) λaa=>bif aa.2.2 !=0 then k0 aa.2.2 else QkV R ((d.length+[[D.sl 3 aa.1]].length)*24) ((e.length+[[Ql aa.2.1]].length)*8) (Ye p ad q f g h i r b c s t u v x j y k0 k1 m k (d++[[D.sl 3 aa.1]]) (e++[[Ql aa.2.1]]))else Qc R (pSl 4 y) λck=>bif a==wJ ((ck.length:Int)-1)then Qc R (pIw al) λcm=>Qc R (H8 n r b c s t u v x p some) λcn=>Qld R ak c λcp cq=>QkD R j b cp cq λcx cy cz da db dc dd=>Qc R (Up n f g h i cx cy cz da db dc dd 0 (wJ (cm+cn)) Tu3) λab=>bif ab.2.2 !=0 then k0 ab.2.2 else QkV R ((d.length+[[D.sl 3 ab.1]].length)*24) ((e.length+[[Ql ab.2.1]].length)*8) (Ye p ad q f g h i r b c s t u v x j y k0 k1 m k (d++[[D.sl 3 ab.1]]) (e++[[Ql ab.2.1]]))else Qld R ak c λdf dg=>QkD R j b df dg λdp dq dr ds dt du dw=>Qc R (Up n f g h i dp dq dr ds dt du dw 0 (wJ (am+an)) Tu3) λac=>bif ac.2.2 !=0 then k0 ac.2.2 else QkV R ((d.length+[[D.sl 3 ac.1]].length)*24) ((e.length+[[Ql ac.2.1]].length)*8) (Ye p ad q f g h i r b c s t u v x j y k0 k1 m k (d++[[D.sl 3 ac.1]]) (e++[[Ql ac.2.1]]))else k1 a (decide (a<q)) d e
def ZR(h2:LL)(c:Int)(h5 h6 h7 d:LL)(e:Int)(f g h i j k l:LL)(k0:Qlg R)(k1:Qls R):Qlu R
|0,_,_,_=>none
|m+1,a,o,p=>bif decide (a<c)then QkF R h2 a λb s=>QkR R b λq=>Qc R (pSl 4 q) λr=>Ye n a r (r.length:Int) h5 h6 h7 d e f g h i j k l s q (λt=>k0 t) (λz aa u v=>ZR h2 c h5 h6 h7 d e f g h i j k l k0 k1 m (wJ (a+1)) u v) n 0 o p else k1 a (decide (a<c)) o p
def T4(b c d e:LL)(f:Int)(g h a i j k l:LL)(K:LL->LL->Int->oP R):oP R:=Qc R (Je n b c d e f g h a i j k l some) λm=>bif m !=0 then K [] [] 1 else ZR n a (a.length:Int) b c d e f g h a i j k l (λo=>K [] [] o) (λr s p q=>K p q 0) n 0 [] []
end Go.Vx
namespace Go.Vx
def flat{α:Type}(nr:Nat->Nat)(f:Nat->Nat->α):Nat->Y α
 |0=>[]
 |i+1=>flat nr f i++(List.range (nr i)).map (f i)
def base(nr:Nat->Nat):Nat->Nat
 |0=>0
 |i+1=>base nr i+nr i
theorem ZG{α:Type}{nr:Nat->Nat}{f:Nat->Nat->α}:∀{i:Nat},(flat nr f i).length=base nr i
 |0=>rfl
 |i+1=>by rw[flat,QqC,ZG,base,Qql,List.length_range]
theorem So{nr:Nat->Nat}{i:Nat}:∀{j:Nat},i<j->base nr i+nr i<=base nr j
 |0,h=>by omega
 |j+1,h=>by
  rw[base];by_cases aa:i=j
  ·subst aa;omega
  ·have:=So (nr:=nr) (i:=i) (j:=j) I;omega
theorem Q20{α:Type}{nr:Nat->Nat}{f:Nat->Nat->α}{i k:Nat}(hk:k<nr i):∀{L:Nat},i<L->(flat nr f L)[base nr i+k]? = some (f i k)
 |0,h=>by omega
 |L+1,h=>by
  rw[flat];by_cases aa:i=L
  ·subst aa;rw[Qqo (by rw[ZG];omega),ZG,Nat.add_sub_cancel_left,Qqr,List.getElem?_range hk];rfl
  ·have:=So (nr:=nr) (i:=i) (j:=L) I;rw[Qqq (by rw[ZG];omega)];exact Q20 hk I
theorem Q2y{nr:Nat->Nat}{a:Nat}:∀{L:Nat},a<base nr L->∃i k,i<L/\k<nr i/\a=base nr i+k
 |0,h=>by simp[base]at h
 |L+1,h=>by
  rw[base]at h;by_cases ha:a<base nr L
  ·obtain⟨i,k,c,h2,b⟩:=Q2y ha;exact⟨i,k,I,h2,b⟩
  ·exact⟨L,a-base nr L,I,I,I⟩
def KZ(Ls:LL)(i:Nat):LL:=match Ls[i]? with
 |some [_,_,_,.sl _ r]=>r
 |_=>[]
def wOf(Ls:LL)(i:Nat):Int:=match Ls[i]? with
 |some [_,_,.int _ w,_]=>w
 |_=>0
def rF(Ls:LL)(i k j:Nat):Int:=match ((KZ Ls i).getD k [])[j]? with
 |some (.int _ x)=>x
 |_=>0
def QjD(Ro:LL)(r:Int):LL:=match Ro[r.toNat]? with
 |some [.sl _ s,_]=>s
 |_=>[]
structure Cx where
 G:Geo
 Ro:LL
 Ls:LL
 T:List Tup
 nm:List UInt8
 tl:Int
 sp:Int
 ac:Int
 br:Int
namespace Cx
variable(X:Cx)
def nr(i:Nat):Nat:=(KZ X.Ls i).length
def w(i:Nat):Int:=wOf X.Ls i
def ex(i k:Nat):Int:=rF X.Ls i k 1
def mn(i k:Nat):Int:=rF X.Ls i k 2
def mx(i k:Nat):Int:=rF X.Ls i k 3
def st(i k:Nat):LL:=QjD X.Ro (rF X.Ls i k 0)
def rn(i k:Nat):Run:=Zz X.G.Se (X.st i k) X.nm X.tl X.sp X.ac X.br
def tn(i:Nat):oP Tup:=X.T.find? λt=>t.1 == i
def rest(i:Nat):Int:=match X.tn i with
 |some t=>if 60<t.2.2.2 then t.2.2.2 else 60
 |none=>60
def bf(k:Nat):Int:=if k=0 then 60 else 0
def af(i k:Nat):Int:=if k=X.nr i-1 then X.ex i k+X.rest i else X.ex i k+X.mx i k
def occ(i k:Nat):Y Occ:=Q8b X.G.St X.G.Pt X.G.Se X.G.Li (X.st i k) (X.rn i k) (bf k) (X.af i k)
def run(i k:Nat):Int:=Q3j (X.rn i k)
def L:Nat:=X.Ls.length
structure OK:Prop where
 g:X.G.OK
 sk:StkN X.tl X.sp X.ac X.br
 gd:GoodP X.G X.Ro X.Ls
 l0:1<=X.Ls.length
 l1:X.Ls.length<=3
 tr:∀t∈X.T,Qam X.G X.Ro X.Ls t
 fd:(X.T.map (·.1)).Nodup
 td:(X.T.map (·.2.1)).Nodup
 tl:X.T.length<=20
structure RdOK(i k:Nat):Prop where
 row:(KZ X.Ls i)[k]? = some [Ql (rF X.Ls i k 0),Ql (X.ex i k),Ql (X.mn i k),Ql (X.mx i k)]
 ro:Qi X.Ro (rF X.Ls i k 0)=some [D.sl 2 (X.st i k),Ql 0]
 rt:RtF X.G.St X.G.Pt X.G.Se X.G.Li (X.st i k)
 ex0:0<=X.ex i k
 ex1:X.ex i k<3
 mn0:0<=X.mn i k
 mn1:X.mn i k<=X.mx i k
 mn2:X.mx i k<=X.mn i k+3
 mn3:X.mn i k<=10
variable{X} (h:X.OK)
include h
theorem line{i:Nat}(hi:i<X.Ls.length):X.Ls[i]? = some [D.str (nmN i),Ql 0,Ql (X.w i),D.sl 4 (KZ X.Ls i)]/\(X.nr i=1\/X.nr i=2)/\(0<=X.w i/\X.w i<4):=by
 obtain⟨w,rides,b,h2,c,a⟩:=h.gd.ls i _ (Qqb hi);have er:KZ X.Ls i=rides:=by grind[KZ]
 have ew:X.w i=w:=by grind[Cx.w,wOf]
 refine⟨by simp_all,?_,I⟩;unfold nr;rw[er];rcases a with⟨r,x,y,rfl,_⟩|⟨r,r',x,y,z,rfl,_,_⟩
 all_goals simp
theorem rd{i k:Nat}(hi:i<X.Ls.length)(hk:k<X.nr i):X.RdOK i k:=by
 obtain⟨w,rides,g,h2,j,c⟩:=h.gd.ls i _ (Qqb hi);have e:X.Ls[i]? = some [D.str (nmN i),Ql 0,Ql w,D.sl 4 rides]:=by simp_all
 have er:KZ X.Ls i=rides:=by grind[KZ]
 have hr:∃r x y b,rides[k]? = some r/\PC X.G X.Ro r x y b:=by
  unfold nr at hk;rw[er]at hk;rcases c with⟨r,x,y,rfl,h⟩|⟨r,r',x,y,z,rfl,h,h'⟩
  all_goals grind
 obtain⟨r,x,y,b,hr,rt,ex,mn,mx,s,rfl,q1,d,l,q4,q5⟩:=hr;have eg:(KZ X.Ls i).getD k []=[Ql rt,Ql ex,Ql mn,Ql mx]:=by simp_all
 have a:rF X.Ls i k 0=rt:=by grind[rF]
 have e1:X.ex i k=ex:=by grind[Cx.ex,rF]
 have e2:X.mn i k=mn:=by unfold Cx.mn rF;rw[eg];rfl
 have f:X.mx i k=mx:=by unfold Cx.mx rF;rw[eg];rfl
 have es:X.st i k=s:=by unfold st QjD;rw[a,Qq8,q1]
 exact⟨by rw[a,e1,e2,f,er,hr],by rw[a,es,Qp,q1],by rw[es];exact d.f h.g,I,I,I,I,I,I⟩
theorem Q1U{i:Nat}:60<=X.rest i/\X.rest i<=60:=by
 unfold rest;cases e:X.tn i with
 |none=>simp_all
 |some t=>
  have:=h.tr t (List.mem_of_find?_eq_some e);have a:=this.2.2.2.1;have h2:=this.2.2.2.2.2.1
  grind
theorem Qj0{i k:Nat}(hi:i<X.Ls.length)(hk:k<X.nr i):(0<=bf k/\bf k<=60)/\0<=X.af i k/\X.af i k<=5000:=by
 have r:=rd h hi hk;have:=Q1U h (i:=i);have:=r.ex0;have:=r.ex1;have:=r.mn0;have:=r.mn1;have:=r.mn2;have:=r.mn3
 grind[bf,af]
theorem QiU{i k:Nat}(hi:i<X.Ls.length)(hk:k<X.nr i):Up 400 X.G.St X.G.Pt X.G.Se X.G.Li (X.st i k) 0 X.nm X.tl X.sp X.ac X.br (bf k) (X.af i k) Tu3=some ((X.occ i k).map enc,X.run i k,0):=by
 have b:=Qj0 h hi hk;exact QiO (rd h hi hk).rt h.sk b.1.1 I b.2.1 I
theorem Qio{i k:Nat}(hi:i<X.Ls.length)(hk:k<X.nr i):Hr 400 X.G.St X.G.Pt X.G.Se X.G.Li (X.st i k) 0 X.nm X.tl X.sp X.ac X.br (bf k) (X.af i k) Tu3=some ((X.occ i k).map enc,X.run i k,0):=by
 have b:=Qj0 h hi hk;exact Qik (rd h hi hk).rt h.sk b.1.1 I b.2.1 I
theorem Qgk{i k:Nat}(hi:i<X.Ls.length)(hk:k<X.nr i):OL (-1) (X.occ i k)/\(X.occ i k).length<=6:=by
 have b:=Qj0 h hi hk;exact QeX (rd h hi hk).rt h.sk b.1.1 b.1.2 b.2.1 b.2.2
theorem EY{i k:Nat}(hi:i<X.Ls.length)(hk:k<X.nr i):0<=X.run i k/\X.run i k<=7001:=Fw (rd h hi hk).rt h.sk
theorem base_le:base X.nr X.L<=6:=by
 have a:=h.l1;have hb:∀i,i<=X.Ls.length->base X.nr i<=2*i:=by
  intro i;induction i with
  |zero=>intro _;exact Qqm _
  |succ i ih=>
   intro hi;have:=(line h (i:=i) I).2.1
   grind[base]
 grind[L]
end Cx
theorem PlanR.cx{G:Geo}{per:Int}{Sk Ro Ls Ch Tu Sy De:LL}(h:PlanR G per Sk Ro Ls Ch Tu Sy De):∃X:Cx,X.OK/\X.G=G/\X.Ro=Ro/\X.Ls=Ls/\Tu=X.T.map tuR/\Sk=[[D.str X.nm,Ql X.tl,Ql X.sp,Ql X.ac,Ql X.br]]:=by
 obtain⟨T,hT,t1,t2,e,f⟩:=h.tu;obtain⟨a,b,c,d,hS,hs⟩:=h.sk;exact⟨⟨G,Ro,Ls,T,bs [88],a,b,c,d⟩,⟨h.ok,hs,h.good,h.l0,h.l1,t1,t2,e,f⟩,rfl,rfl,rfl,hT,hS⟩
def GU(L:Y (Y Occ)):LL:=L.map λo=>[D.sl 3 (o.map enc)]
theorem Vq{L:Y (Y Occ)}{o:Y Occ}:GU L++[[D.sl 3 (o.map enc)]]=GU (L++[o]):=by simp[GU]
theorem Vs{L:Y Int}{x:Int}:encI L++[[D.int .i64 x]]=encI (L++[x]):=by simp[encI]
theorem Ja{L:Y (Y Occ)}:(GU L).length=L.length:=by simp[GU]
theorem ZC{α:Type}{A:Y α}{f:Nat->α}{k:Nat}:A++(List.range k).map f++[f k]=A++(List.range (k+1)).map f:=by simp[List.range_succ]
namespace Cx
variable{R:Type} {n:Nat} {X:Cx} (h:X.OK)
theorem QaG{T:Y Tup}(hT:T.length<=1000){i:Nat}{k0:Int->oP R}{k1:Int->Bool->oP R}{E:oP R}(hk:∀a b,k1 a b=E):∀(aa:Y Tup) (j m:Nat),T.drop j=aa->aa.length<m->UZ n (i:Int) (T.map tuR) (T.length:Int) k0 k1 m (j:Int)=(match aa.find? (λt=>t.1 == i)with | some t=>k0 (if 60<t.2.2.2 then t.2.2.2 else 60) | none=>E)
 |[],j,m+1,hd,_=>by
  have:=ZX hd;rw[UZ,show decide ((j:Int)<(T.length:Int))=false by simpa using this,Qq9,hk];rfl
 |(a,b,lo,hi)::aa,j,m+1,hd,hm=>by
  obtain⟨e,ac,hj⟩:=Yc hd;rw[UZ,Qt hj,Qqa,X5 e];simp -implicitDefEqProofs only[Qh,tuR,Qq6,Qq7,Qj,QI (show j<=1000 by omega)];rw[List.find?_cons];by_cases ha:a=i
  ·subst ha;rw[show((a:Int) == (a:Int))=true by simp,Qqa,show((a,b,lo,hi).1 == a)=true by simp]
  ·rw[show((a:Int) == (i:Int))=false by simp;omega,Qq9,show((a,b,lo,hi).1 == i)=false by simpa using ha];exact QaG hT hk aa (j+1) m ac (by simpa using hm)
theorem QaW{T:Y Tup}(hT:T.length<=1000){i:Nat}{k0:D->D->D->D->oP R}{k1:Int->Bool->oP R}{E:oP R}(hk:∀a b,k1 a b=E):∀(aa:Y Tup) (j m:Nat),T.drop j=aa->aa.length<m->J4 n (i:Int) (T.map tuR) k0 k1 m (j:Int)=(match aa.find? (λt=>t.1 == i)with | some t=>k0 (Ql t.1) (Ql t.2.1) (Ql t.2.2.1) (Ql t.2.2.2) | none=>E)
 |[],j,m+1,hd,_=>by
  have:=ZX hd;rw[J4,Qql,show decide ((j:Int)<(T.length:Int))=false by simpa using this,Qq9,hk];rfl
 |(a,b,lo,hi)::aa,j,m+1,hd,hm=>by
  obtain⟨e,ac,hj⟩:=Yc hd;rw[J4,Qql,Qt hj,Qqa,X5 e];simp -implicitDefEqProofs only[Qh,tuR,Qq6,Qq7,Qj,QI (show j<=1000 by omega)];rw[List.find?_cons];by_cases ha:a=i
  ·subst ha;rw[show((a:Int) == (a:Int))=true by simp,Qqa,show((a,b,lo,hi).1 == a)=true by simp]
  ·rw[show((a:Int) == (i:Int))=false by simp;omega,Qq9,show((a,b,lo,hi).1 == i)=false by simpa using ha];exact QaW hT hk aa (j+1) m ac (by simpa using hm)
def skR(X:Cx):LL:=[[D.str X.nm,Ql X.tl,Ql X.sp,Ql X.ac,Ql X.br]]
include h
theorem Qjf{per:Int}{Sk Ro Ls Ch Sy De:LL}{i:Nat}:H8 400 per Sk Ro Ls Ch (X.T.map tuR) Sy De (i:Int) (some:Int->oP Int)=some (X.rest i):=by
 unfold H8;rw[Qql];have:=QaG (n:=400) (T:=X.T) (i:=i) (k0:=(some:Int->oP Int)) (k1:=λ_ _=>some 60) (by have:=h.tl;omega) (λ_ _=>rfl) X.T 0 400 rfl (by have:=h.tl;omega);refine this.trans ?_;unfold rest tn;cases X.T.find? λt=>t.1 == i<;>rfl
theorem Qe0{i:Nat}(K:D->D->D->D->Bool->oP R):Sz 400 (X.T.map tuR) (i:Int) K=(match X.tn i with | some t=>K (Ql t.1) (Ql t.2.1) (Ql t.2.2.1) (Ql t.2.2.2) true | none=>K (Ql 0) (Ql 0) (Ql 0) (Ql 0) false):=
 QaW (n:=400) (T:=X.T) (i:=i) (k0:=λa b c d=>K a b c d true) (k1:=λ_ _=>K (Ql 0) (Ql 0) (Ql 0) (Ql 0) false) (by have:=h.tl;omega) (λ_ _=>rfl) X.T 0 400 rfl (by have:=h.tl;omega)
theorem QdB{per:Int}{Ch Sy De:LL}{i:Nat}(hi:i<X.Ls.length){A:Y (Y Occ)}{B:Y Int}(hA:A.length<=100)(hB:B.length<=100){k0:Int->oP R}{K:LL->LL->oP R}{k1:Int->Bool->LL->LL->oP R}(hk:∀a b u v,k1 a b u v=K u v) :
  Ye 400 (i:Int) (KZ X.Ls i) ((X.nr i:Nat):Int) X.G.St X.G.Pt X.G.Se X.G.Li per X.skR X.Ro X.Ls Ch (X.T.map tuR) Sy De (Ql 0) (D.sl 4 (KZ X.Ls i)) k0 k1 400 0 (GU A) (encI B)=K (GU (A++(List.range (X.nr i)).map (X.occ i))) (encI (B++(List.range (X.nr i)).map (X.run i))):=by
 have hl:=(line h hi).2.1;refine QY (r:=λm k=>Ye 400 (i:Int) (KZ X.Ls i) ((X.nr i:Nat):Int) X.G.St X.G.Pt X.G.Se X.G.Li per X.skR X.Ro X.Ls Ch (X.T.map tuR) Sy De (Ql 0) (D.sl 4 (KZ X.Ls i)) k0 k1 m k (GU (A++(List.range k.toNat).map (X.occ i))) (encI (B++(List.range k.toNat).map (X.run i)))) (N:=X.nr i) (λm k hk=>?_) (λm=>?_) (X.nr i) 400 0 I I |> Eq.trans Q2
 ·simp only[Qq8];have r:=rd h hi hk;have rr:=Q1U h (i:=i);have j:=r.ex0;have e1:=r.ex1;have e2:=r.mn0;have l:=r.mn1;have n:=r.mn2;have o:=r.mn3;have hh:=QiU h hi hk;have aj:Qi (KZ X.Ls i) (k:Int)=some [Ql (rF X.Ls i k 0),Ql (X.ex i k),Ql (X.mn i k),Ql (X.mx i k)]:=by rw[Qp,r.row]
  have ak:Qi X.skR 0=some [D.str X.nm,Ql X.tl,Ql X.sp,Ql X.ac,Ql X.br]:=rfl;have an:=r.ro;have hw:wJ (((List.length (KZ X.Ls i):Nat):Int)-1)=((X.nr i-1:Nat):Int):=JT (k:=X.nr i) I I;have d:Y5 (((GU (A++(List.range k).map (X.occ i))).length+List.length [[D.sl 3 ((X.occ i k).map enc)]])*24)=some ():=XI (by simp[Ja];omega);have e:Y5 (((encI (B++(List.range k).map (X.run i))).length+List.length [[D.int .i64 (X.run i k)]])*8)=some ():=XI (by simp[QR];omega);have ai:=Qjf h (per:=per) (Sk:=X.skR) (Ro:=X.Ro) (Ls:=X.Ls) (Ch:=Ch) (Sy:=Sy) (De:=De) (i:=i);have am:((k:Int) == ((X.nr i-1:Nat):Int))=decide (k=X.nr i-1):=by
   by_cases hc:k=X.nr i-1
   ·rw[Qqj hc];simp;omega
   ·rw[Qqi hc];simp;omega
  have f:((k:Int) == 0)=decide (k=0):=by
   by_cases hc:k=0
   ·rw[Qqj hc];simp;omega
   ·rw[Qqi hc];simp;omega
  have g:wJ (X.ex i k+X.rest i)=X.ex i k+X.rest i:=Qo I I;have w2:wJ (X.ex i k+X.mx i k)=X.ex i k+X.mx i k:=Qo I I;rw[Ye,Qt hk,Qqa,aj];simp -implicitDefEqProofs only[Qh,Qq6,Qq7,Qj,X2,XR,hw,am,f,ai,an,ak,g,w2,QI (show k<=1000 by omega)];unfold bf af at hh;by_cases c1:k=0<;>by_cases c:k=X.nr i-1
  ·simp -implicitDefEqProofs only[Qqf c1,Qqf c]at hh;simp -implicitDefEqProofs only[Qqj c1,Qqj c,Qqa,hh,Qh,show((0:Int) != 0)=false from rfl,Qq9,d,e,Vq,Vs,ZC]
  ·simp -implicitDefEqProofs only[Qqf c1,Qqh c]at hh;simp -implicitDefEqProofs only[Qqj c1,Qqi c,Qqa,hh,Qh,show((0:Int) != 0)=false from rfl,Qq9,d,e,Vq,Vs,ZC]
  ·simp -implicitDefEqProofs only[Qqh c1,Qqf c]at hh;simp -implicitDefEqProofs only[Qqi c1,Qqj c,Qqa,hh,Qh,show((0:Int) != 0)=false from rfl,Qq9,d,e,Vq,Vs,ZC]
  ·simp -implicitDefEqProofs only[Qqh c1,Qqh c]at hh;simp -implicitDefEqProofs only[Qqi c1,Qqi c,Qqa,hh,Qh,show((0:Int) != 0)=false from rfl,Qq9,d,e,Vq,Vs,ZC]
 ·simp only[Qq8];rw[Ye,Qz,Qq9,hk]
end Cx
namespace Cx
variable{R:Type} {n:Nat} {X:Cx} (h:X.OK)
include h
theorem QcZ{per:Int}{Sk Ch Tu Sy De:LL}{i k:Nat}(hi:i<X.Ls.length)(hk:k<X.nr i)(K:D->D->oP R):Xj n per Sk X.Ro X.Ls Ch Tu Sy De (i:Int) (k:Int) K=K (D.sl 2 (X.st i k)) (Ql 0):=by
 have r:=rd h hi hk;unfold Xj;rw[Qp,(line h hi).1];simp -implicitDefEqProofs only[Qh,Qq6,Qq7,Qj,X2,Qp,r.row,r.ro]
theorem Qf5{per:Int}{Ch Sy De:LL}{i:Nat}(hi:i<X.Ls.length){A:Y (Y Occ)}{B:Y Int}(hA:A.length<=100)(hB:B.length<=100){K:LL->LL->oP R}{k1:Int->Bool->LL->LL->oP R}(hk:∀a b u v,k1 a b u v=K u v) :
  YI 400 (i:Int) X.G.St X.G.Pt X.G.Se X.G.Li per X.skR X.Ro X.Ls Ch (X.T.map tuR) Sy De (Ql 0) (D.sl 4 (KZ X.Ls i)) k1 400 0 (GU A) (encI B)=K (GU (A++(List.range (X.nr i)).map (X.occ i))) (encI (B++(List.range (X.nr i)).map (X.run i))):=by
 have hl:=(line h hi).2.1;refine QY (r:=λm k=>YI 400 (i:Int) X.G.St X.G.Pt X.G.Se X.G.Li per X.skR X.Ro X.Ls Ch (X.T.map tuR) Sy De (Ql 0) (D.sl 4 (KZ X.Ls i)) k1 m k (GU (A++(List.range k.toNat).map (X.occ i))) (encI (B++(List.range k.toNat).map (X.run i)))) (N:=X.nr i) (λm k hk=>?_) (λm=>?_) (X.nr i) 400 0 I I |> Eq.trans Q2
 ·simp only[Qq8];have r:=rd h hi hk;have rr:=Q1U h (i:=i);have s:=r.ex0;have e1:=r.ex1;have e2:=r.mn0;have x:=r.mn1;have y:=r.mn2;have z:=r.mn3;have hh:=Qio h hi hk;have ak:Qi (KZ X.Ls i) (k:Int)=some [Ql (rF X.Ls i k 0),Ql (X.ex i k),Ql (X.mn i k),Ql (X.mx i k)]:=by rw[Qp,r.row]
  have am:Qi X.skR 0=some [D.str X.nm,Ql X.tl,Ql X.sp,Ql X.ac,Ql X.br]:=rfl;have hw:wJ (((List.length (KZ X.Ls i):Nat):Int)-1)=((X.nr i-1:Nat):Int):=JT (k:=X.nr i) I I;have d:Y5 (((GU (A++(List.range k).map (X.occ i))).length+List.length [[D.sl 3 ((X.occ i k).map enc)]])*24)=some ():=XI (by simp[Ja];omega);have f:Y5 (((encI (B++(List.range k).map (X.run i))).length+List.length [[D.int .i64 (X.run i k)]])*8)=some ():=XI (by simp[QR];omega);have g:((k:Int) == 0)=decide (k=0):=by
   by_cases hc:k=0
   ·rw[Qqj hc];simp;omega
   ·rw[Qqi hc];simp;omega
  have j:decide ((k:Int)<((X.nr i-1:Nat):Int)) = !decide (k=X.nr i-1):=by
   by_cases hc:k=X.nr i-1
   ·rw[Qqj hc];exact Qqi I
   ·rw[Qqi hc];exact Qqj I
  have l:wJ (X.ex i k+60)=X.ex i k+60:=Qo I I;have w2:wJ (X.ex i k+X.mx i k)=X.ex i k+X.mx i k:=Qo I I;have w3:∀t,X.tn i=some t->wJ (X.ex i k+(if 60<t.2.2.2 then t.2.2.2 else 60))=X.ex i k+X.rest i:=λt ht=>by
   have e:X.rest i=if 60<t.2.2.2 then t.2.2.2 else 60:=by unfold rest;rw[ht]
   rw[<- e];exact Qo I I
  have o:X.tn i=none->wJ (X.ex i k+60)=X.ex i k+X.rest i:=λht=>by rw[l];unfold rest;rw[ht]
  have ao:∀K':D->D->oP R,Xj 400 per X.skR X.Ro X.Ls Ch (X.T.map tuR) Sy De (i:Int) (k:Int) K'=K' (D.sl 2 (X.st i k)) (Ql 0):=λK'=>QcZ h hi hk K'
  have aj:=QcZ (n:=400) h (per:=per) (Sk:=X.skR) (Ch:=Ch) (Tu:=X.T.map tuR) (Sy:=Sy) (De:=De) hi hk Tu2;rw[YI,X2,Qh,show((KZ X.Ls i).length:Int)=((X.nr i:Nat):Int)from rfl,Qt hk,Qqa];unfold bf af at hh;cases ht:X.tn i with
  |some t=>
   simp -implicitDefEqProofs only[jn,Qh,Qq6,Qq7,Qj,X2,XR,ak,hw,g,j,Qe0 h,ht,w2,w3 t ht,am,aj,Qqa,QI (show k<=1000 by omega)];by_cases c1:k=0<;>by_cases c:k=X.nr i-1
   ·simp -implicitDefEqProofs only[Qqf c1,Qqf c]at hh;simp -implicitDefEqProofs only[Qqj c1,Qqj c,Qqd,Qq9,Qqa,hh,Qh,d,f,Vq,Vs,ZC]
   ·simp -implicitDefEqProofs only[Qqf c1,Qqh c]at hh;simp -implicitDefEqProofs only[Qqj c1,Qqi c,Qqc,Qq9,Qqa,hh,Qh,d,f,Vq,Vs,ZC]
   ·simp -implicitDefEqProofs only[Qqh c1,Qqf c]at hh;simp -implicitDefEqProofs only[Qqi c1,Qqj c,Qqd,Qq9,Qqa,hh,Qh,d,f,Vq,Vs,ZC]
   ·simp -implicitDefEqProofs only[Qqh c1,Qqh c]at hh;simp -implicitDefEqProofs only[Qqi c1,Qqi c,Qqc,Qq9,Qqa,hh,Qh,d,f,Vq,Vs,ZC]
  |none=>
   simp -implicitDefEqProofs only[jn,Qh,Qq6,Qq7,Qj,X2,XR,ak,hw,g,j,Qe0 h,ht,w2,o ht,am,aj,Qq9,QI (show k<=1000 by omega)];by_cases c1:k=0<;>by_cases c:k=X.nr i-1
   ·simp -implicitDefEqProofs only[Qqf c1,Qqf c]at hh;simp -implicitDefEqProofs only[Qqj c1,Qqj c,Qqd,Qq9,Qqa,hh,Qh,d,f,Vq,Vs,ZC]
   ·simp -implicitDefEqProofs only[Qqf c1,Qqh c]at hh;simp -implicitDefEqProofs only[Qqj c1,Qqi c,Qqc,Qq9,Qqa,hh,Qh,d,f,Vq,Vs,ZC]
   ·simp -implicitDefEqProofs only[Qqh c1,Qqf c]at hh;simp -implicitDefEqProofs only[Qqi c1,Qqj c,Qqd,Qq9,Qqa,hh,Qh,d,f,Vq,Vs,ZC]
   ·simp -implicitDefEqProofs only[Qqh c1,Qqh c]at hh;simp -implicitDefEqProofs only[Qqi c1,Qqi c,Qqc,Qq9,Qqa,hh,Qh,d,f,Vq,Vs,ZC]
 ·simp only[Qq8];rw[YI,X2,Qh,show((KZ X.Ls i).length:Int)=((X.nr i:Nat):Int)from rfl,Qz,Qq9,hk]
omit h in
def occs(X:Cx)(i:Nat):Y (Y Occ):=flat X.nr X.occ i
omit h in
def runs(X:Cx)(i:Nat):Y Int:=flat X.nr X.run i
theorem Zr{i:Nat}(hi:i<=X.Ls.length):base X.nr i<=6:=by
 have a:=base_le h;by_cases hc:i=X.Ls.length
 ·rw[hc];exact a
 ·have:=So (nr:=X.nr) (i:=i) (j:=X.Ls.length) I;unfold L at a;omega
theorem QgG{per:Int}{Ch Sy De:LL}(hc:Je 400 X.G.St X.G.Pt X.G.Se X.G.Li per X.skR X.Ro X.Ls Ch (X.T.map tuR) Sy De (some:Int->oP Int)=some 0):T4 400 X.G.St X.G.Pt X.G.Se X.G.Li per X.skR X.Ro X.Ls Ch (X.T.map tuR) Sy De Tu3=some (GU (X.occs X.L),encI (X.runs X.L),(0:Int)):=by
 have l1:=h.l1;unfold T4;rw[hc,Qh,Qq (by rfl)];refine QY (r:=λm i=>ZR 400 X.Ls (X.Ls.length:Int) X.G.St X.G.Pt X.G.Se X.G.Li per X.skR X.Ro X.Ls Ch (X.T.map tuR) Sy De (λa=>some ([],[],a)) (λg j b c=>some (b,c,(0:Int))) m i (GU (X.occs i.toNat)) (encI (X.runs i.toNat))) (N:=X.Ls.length) (λm i hi=>?_) (λm=>?_) X.Ls.length 400 0 I I
 ·simp only[Qq8];have hb:=Zr h (i:=i) I;rw[ZR,Qt hi,Qqa,Qp,(line h hi).1];simp -implicitDefEqProofs only[Qh,Qq6,Qq7,X2,QI (show i<=1000 by omega)];exact QdB h hi (A:=X.occs i) (B:=X.runs i) (by unfold occs;rw[ZG];omega) (by unfold runs;rw[ZG];omega) (K:=λu v=>ZR 400 X.Ls (X.Ls.length:Int) X.G.St X.G.Pt X.G.Se X.G.Li per X.skR X.Ro X.Ls Ch (X.T.map tuR) Sy De (λa=>some ([],[],a)) (λg j b c=>some (b,c,(0:Int))) m ((i+1:Nat):Int) u v) (λ_ _ _ _=>rfl)
 ·simp only[Qq8];rw[ZR,Qz,Qq9];rfl
theorem Qgv{per:Int}{Ch Sy De:LL}(hc:We 400 X.G.St X.G.Pt X.G.Se X.G.Li per X.skR X.Ro X.Ls Ch (X.T.map tuR) Sy De (some:Int->oP Int)=some 0):Rs 400 X.G.St X.G.Pt X.G.Se X.G.Li per X.skR X.Ro X.Ls Ch (X.T.map tuR) Sy De Tu3=some (GU (X.occs X.L),encI (X.runs X.L),(0:Int)):=by
 have l1:=h.l1;unfold Rs;rw[hc,Qh,Qq (by rfl)];refine QY (r:=λm i=>UG 400 X.G.St X.G.Pt X.G.Se X.G.Li per X.skR X.Ro X.Ls Ch (X.T.map tuR) Sy De (λf g a b=>some (a,b,(0:Int))) m i (GU (X.occs i.toNat)) (encI (X.runs i.toNat))) (N:=X.Ls.length) (λm i hi=>?_) (λm=>?_) X.Ls.length 400 0 I I
 ·simp only[Qq8];have hb:=Zr h (i:=i) I;rw[UG,Qt hi,Qqa,Qp,(line h hi).1];simp -implicitDefEqProofs only[Qh,Qq6,Qq7,X2,QI (show i<=1000 by omega)];exact Qf5 h hi (A:=X.occs i) (B:=X.runs i) (by unfold occs;rw[ZG];omega) (by unfold runs;rw[ZG];omega) (K:=λu v=>UG 400 X.G.St X.G.Pt X.G.Se X.G.Li per X.skR X.Ro X.Ls Ch (X.T.map tuR) Sy De (λf g a b=>some (a,b,(0:Int))) m ((i+1:Nat):Int) u v) (λ_ _ _ _=>rfl)
 ·simp only[Qq8];rw[UG,Qz,Qq9];rfl
end Cx
end Go.Vx
namespace Go.Vx
variable{R:Type} (n:Nat)
def Zs(k l m o:LL)(d:Int)(p q e i g j r:LL)(K:Int->LL->LL->Int->oP R):oP R:=Qc R (Je n k l m o d p q e i g j r some) λa=>bif a !=0 then K 0 [] [] 1 else gb true (YG n e [] [] Tu2) ([],[]) λb=>bif decide ((b.2.length:Int)>48)then K 0 [] [] 7 else gb true (T4 n k l m o d p q e i g j r Tu3) ([],[],0) λc=>bif c.2.2 !=0 then K 0 [] [] c.2.2 else Qc R (YJ n e g b.1 c.2.1 [] some) λs=>Qc R (ZO n d c.1 s some) λt=>bif !t then K 0 [] [] 13 else Qc R (Yy n e i g j b.1 c.2.1 [] some) λr6=>gb true (Yp n d c.1 s r6 Tu2) (0,[]) λh=>bif h.1 !=0 then K 0 [] [] h.1 else bif decide ((h.2.length:Int)>512)then K 0 [] [] 7 else K d b.2 h.2 0
end Go.Vx
namespace Go.Vx
namespace Cx
variable(X:Cx)
def evl(i:Nat):Nat->LL
 |0=>[]
 |k+1=>evl i k++[[Ql 1,Ql i,Ql k],[Ql 2,Ql i,Ql k]]
def evs:Nat->LL
 |0=>[]
 |i+1=>evs i++evl i (X.nr i)
theorem RJ{i:Nat}:∀{k:Nat},(evl i k).length=2*k
 |0=>rfl
 |k+1=>by rw[evl,QqC,RJ];simp;omega
variable{X}
theorem evs_len:∀{i:Nat},(X.evs i).length=2*base X.nr i
 |0=>rfl
 |i+1=>by rw[evs,QqC,evs_len,RJ,base];omega
theorem QcX{i k:Nat}:∀{K:Nat},k<K->(evl i K)[2*k]? = some [Ql 1,Ql i,Ql k]/\(evl i K)[2*k+1]? = some [Ql 2,Ql i,Ql k]
 |0,h=>by omega
 |K+1,h=>by
  rw[evl];by_cases hk:k=K
  ·subst hk;rw[Qqo (by rw[RJ];omega),Qqo (by rw[RJ];omega),RJ,Nat.sub_self,Nat.add_sub_cancel_left];exact⟨rfl,rfl⟩
  ·rw[Qqq (by rw[RJ];omega),Qqq (by rw[RJ];omega)];exact QcX I
theorem QcT{i k:Nat}(hk:k<X.nr i):∀{L:Nat},i<L->(X.evs L)[2*(base X.nr i+k)]? = some [Ql 1,Ql i,Ql k]/\(X.evs L)[2*(base X.nr i+k)+1]? = some [Ql 2,Ql i,Ql k]
 |0,h=>by omega
 |L+1,h=>by
  rw[evs];by_cases hi:i=L
  ·subst hi;rw[Qqo (by rw[evs_len];omega),Qqo (by rw[evs_len];omega),evs_len,show 2*(base X.nr i+k)-2*base X.nr i=2*k by omega,show 2*(base X.nr i+k)+1-2*base X.nr i=2*k+1 by omega];exact QcX hk
  ·have:=So (nr:=X.nr) (i:=i) (j:=L) I;rw[Qqq (by rw[evs_len];omega),Qqq (by rw[evs_len];omega)];exact QcT hk I
def fst(X:Cx)(i:Nat):LL:=encI ((List.range i).map λj=>(base X.nr j:Int))
theorem Qha{i L:Nat}(h:i<L):Qi (X.fst L) (i:Int)=some [Ql (base X.nr i)]:=KU (by simp[h])
variable{R:Type} {n:Nat} (h:X.OK)
include h
theorem QdQ(K:LL->LL->oP R):YG 400 X.Ls [] [] K=K (X.fst X.L) (X.evs X.L):=by
 have l1:=h.l1;unfold YG;refine QY (r:=λm i=>X4 400 X.Ls (X.Ls.length:Int) (λ_ _ u v=>K u v) m i (X.fst i.toNat) (X.evs i.toNat)) (N:=X.Ls.length) (λm i hi=>?_) (λm=>?_) X.Ls.length 400 0 I I
 ·simp only[Qq8];have hb:=Zr h (i:=i) I;have hl:=(line h hi).2.1;have e1:wJ (Int.tdiv ((2*base X.nr i:Nat):Int) 2)=(base X.nr i:Int):=by
   rw[Qqw I,Qo I I];omega
  have e2:X.fst i++[[D.int .i64 (base X.nr i:Int)]]=X.fst (i+1):=by simp[fst,encI,List.range_succ]
  have a:(X.fst i).length=i:=by simp[fst,encI]
  rw[X4,Qt hi,Qqa,Qp,(line h hi).1];simp -implicitDefEqProofs only[Qh,Qq6,Qq7,X2,QI (show i<=1000 by omega),CS (b:=2) Q1,evs_len,e1,e2,XI (show((X.fst i).length+[[D.int .i64 (base X.nr i:Int)]].length)*8<=100000 by rw[a];simp;omega)];refine QY (r:=λm' k=>Xl 400 (i:Int) ((X.nr i:Nat):Int) (λ_ _ w=>X4 400 X.Ls (X.Ls.length:Int) (λ_ _ u v=>K u v) m ((i+1:Nat):Int) (X.fst (i+1)) w) m' k (X.evs i++evl i k.toNat)) (N:=X.nr i) (λm' k hk=>?_) (λm'=>?_) (X.nr i) 400 0 I I |> Eq.trans (by simp[evl];rfl)
  ·simp only[Qq8];rw[Xl,Qt hk,Qqa,XI (by simp[evs_len,RJ];omega),Qh,QI I,List.append_assoc];rfl
  ·simp only[Qq8];rw[Xl,Qz,Qq9];rfl
 ·simp only[Qq8];rw[X4,Qz,Qq9];rfl
omit h in
theorem Qda{a:Nat}(ha:a<=1000)(K:Int->oP R):Yw n (a:Int) K=K ((2*a:Nat):Int):=by
 grind[Yw,Qo]
omit h in
theorem Qib{a:Nat}(ha:a<=1000)(K:Int->oP R):Uy n (a:Int) K=K ((2*a+1:Nat):Int):=by
 grind[Uy,Qo]
theorem Q49{i k:Nat}(hi:i<X.Ls.length)(hk:k<=10)(K:Int->oP R):XW n (X.fst X.L) (i:Int) (k:Int) K=K ((base X.nr i+k:Nat):Int):=by
 have hb:=Zr h (i:=i) I;unfold XW
 grind[Qha,L,Qp,fst,encI,XQ,Qh,Int.toNat_natCast,List.getElem?_cons_zero,Qj,Qo]
theorem Q1c{i k:Nat}(hi:i<X.Ls.length)(hk:k<=10)(K:Int->oP R):Xg n (X.fst X.L) (i:Int) (k:Int) K=K ((base X.nr i+k:Nat):Int):=Q49 (n:=n) h hi hk K
theorem Qdl{i:Nat}(hi:i<X.Ls.length)(K:Int->oP R):Wd n X.Ls (X.fst X.L) (i:Int) K=K ((base X.nr i+(X.nr i-1):Nat):Int):=by
 have hl:=(line h hi).2.1;have hw:wJ (((List.length (KZ X.Ls i):Nat):Int)-1)=((X.nr i-1:Nat):Int):=JT (k:=X.nr i) I I
 grind[Wd,Qp,line,Qh,List.getElem?_cons_zero,List.getElem?_cons_succ,X2,Q49]
theorem QfT{i:Nat}(hi:i<X.Ls.length)(K:Int->oP R):Va n X.Ls (X.fst X.L) (i:Int) K=K ((base X.nr i+(X.nr i-1):Nat):Int):=Qdl (n:=n) h hi K
omit h in
def j1(X:Cx)(i k:Nat):Tup:=(base X.nr i+k,base X.nr i+(k+1),X.run i k+X.mn i k,X.run i k+X.ex i k+X.mx i k)
omit h in
def jT(X:Cx)(t:Tup):Tup:=(base X.nr t.1+(X.nr t.1-1),base X.nr t.2.1+0,X.run t.1 (X.nr t.1-1)+t.2.2.1,X.run t.1 (X.nr t.1-1)+X.ex t.1 (X.nr t.1-1)+t.2.2.2)
omit h in
def jL(X:Cx)(i:Nat):Y Tup:=flat (λi=>X.nr i-1) X.j1 i
omit h in
def jns(X:Cx):Y Tup:=X.jL X.L++X.T.map X.jT
omit h in
theorem Q6O{i k:Nat}(hi:i<X.Ls.length)(hk:k<X.nr i):Qi (encI (X.runs X.L)) ((base X.nr i+k:Nat):Int)=some [Ql (X.run i k)]:=KU (Q20 hk hi)
omit h in
theorem Qgl{i k:Nat}(hi:i<X.Ls.length)(hk:k<X.nr i):Qi (GU (X.occs X.L)) ((base X.nr i+k:Nat):Int)=some [D.sl 3 ((X.occ i k).map enc)]:=X5 (Q20 hk hi)
theorem QfV{i k b:Nat}(hi:i<X.Ls.length)(hk:k<X.nr i){ex lo aa:Int}(a:0<=ex)(e1:ex<=1000)(l0:0<=lo)(l1:lo<=1000)(c:0<=aa)(d:aa<=1000){J:Y Tup}(hJ:J.length<=100)(K:LL->oP R) :
  Yj n (encI (X.runs X.L)) (J.map tuR) ((base X.nr i+k:Nat):Int) (b:Int) ex lo aa K=K ((J++[(base X.nr i+k,b,X.run i k+lo,X.run i k+ex+aa)]).map tuR):=by
 have hr:=EY h hi hk;unfold Yj;rw[Q6O hi hk,Qh];simp -implicitDefEqProofs only[Qh,Qq6,Qj,Qo (x:=X.run i k+lo) I I,Qo (x:=X.run i k+ex) I I,Qo (x:=X.run i k+ex+aa) I I];rw[XI Q3,Qh,Qqy];rfl
omit h in
theorem QfN{i:Nat}:(X.jL i).length=base (λi=>X.nr i-1) i:=ZG
theorem QeM{i:Nat}(hi:i<=X.Ls.length):(X.jL i).length<=6:=by
 rw[QfN];have:∀i,base (λi=>X.nr i-1) i<=base X.nr i:=by
  intro i;induction i with
  |zero=>exact Qqm _
  |succ i ih=>grind[base]
 grind[Nat.le_trans,Zr]
theorem Qfp(K:LL->oP R):YJ 400 X.Ls (X.T.map tuR) (X.fst X.L) (encI (X.runs X.L)) [] K=K (X.jns.map tuR):=by
 have l1:=h.l1;have tl:=h.tl;unfold YJ;have s2:∀k0:Int->Bool->LL->oP R,QP 400 X.Ls (X.Ls.length:Int) (X.fst X.L) (encI (X.runs X.L)) k0 400 0 []=k0 (X.Ls.length:Int) false ((X.jL X.L).map tuR):=by
  intro k0;refine QY (r:=λm i=>QP 400 X.Ls (X.Ls.length:Int) (X.fst X.L) (encI (X.runs X.L)) k0 m i ((X.jL i.toNat).map tuR)) (N:=X.Ls.length) (λm i hi=>?_) (λm=>?_) X.Ls.length 400 0 I I
  ·simp only[Qq8];have hl:=(line h hi).2.1;have hJ:=QeM h (i:=i) I;have hw:wJ (((List.length (KZ X.Ls i):Nat):Int)-1)=((X.nr i-1:Nat):Int):=JT (k:=X.nr i) I I;have ak:(cut (KZ X.Ls i) (0,X.nr i-1)).length=X.nr i-1:=by rw[F4,List.length_take];unfold nr;omega
   rw[QP,Qt hi,Qqa,Qp,(line h hi).1];simp -implicitDefEqProofs only[Qh,Qq6,Qq7,X2,QI (show i<=1000 by omega),hw,Q2x (n:=(KZ X.Ls i).length) (h:=X.nr i-1) (Nat.sub_le ..),ak];refine QY (r:=λm' k=>Xw 400 (i:Int) (cut (KZ X.Ls i) (0,X.nr i-1)) ((X.nr i-1:Nat):Int) (X.fst X.L) (encI (X.runs X.L)) (λ_ _ w=>QP 400 X.Ls (X.Ls.length:Int) (X.fst X.L) (encI (X.runs X.L)) k0 m ((i+1:Nat):Int) w) m' k ((X.jL i++(List.range k.toNat).map (X.j1 i)).map tuR)) (N:=X.nr i-1) (λm' k hk=>?_) (λm'=>?_) (X.nr i-1) 400 0 I I |> Eq.trans Q2
   ·simp only[Qq8];have r:=rd h hi (show k<X.nr i by omega);have ai:Qi (cut (KZ X.Ls i) (0,X.nr i-1)) (k:Int)=some [Ql (rF X.Ls i k 0),Ql (X.ex i k),Ql (X.mn i k),Ql (X.mx i k)]:=by rw[F4,Qp,List.getElem?_take_of_lt hk,r.row]
    have c:=r.ex0;have e1:=r.ex1;have e2:=r.mn0;have o:=r.mn1;have p:=r.mn2;have s:=r.mn3;rw[Xw,Qt hk,Qqa,ai];simp -implicitDefEqProofs only[Qh,Qq6,Qq7,Qj,Q49 (n:=400) h hi (show k<=10 by omega),QI (show k<=1000 by omega),Q49 (n:=400) h hi (show k+1<=10 by omega),QfV (n:=400) (b:=base X.nr i+(k+1)) h hi (show k<X.nr i by omega) c (show X.ex i k<=1000 by omega) e2 (show X.mn i k<=1000 by omega) (show 0<=X.mx i k by omega) (show X.mx i k<=1000 by omega) (J:=X.jL i++(List.range k).map (X.j1 i)) Q3];rw[show(base X.nr i+k,base X.nr i+(k+1),X.run i k+X.mn i k,X.run i k+X.ex i k+X.mx i k)=X.j1 i k from rfl,ZC]
   ·simp only[Qq8];rw[Xw,Qz,Qq9];rfl
  ·simp only[Qq8];rw[QP,Qz,Qq9];rfl
 rw[s2];rw[Qql];refine QY (r:=λm j=>Xu 400 (X.T.map tuR) (X.T.length:Int) (X.fst X.L) X.Ls (encI (X.runs X.L)) (λ_ _ w=>K w) m j ((X.jL X.L++(X.T.take j.toNat).map X.jT).map tuR)) (N:=X.T.length) (λm j hj=>?_) (λm=>?_) X.T.length 400 0 I I |> Eq.trans Q2
 ·simp only[Qq8];obtain⟨⟨a,b,lo,aa⟩,e⟩:∃q,X.T[j]? = some q:=⟨X.T[j],Qqb hj⟩;have ht:=h.tr _ (List.mem_of_getElem? e);have ha:a<X.Ls.length:=ht.1;have hb:b<X.Ls.length:=ht.2.1;have t1:=ht.2.2.1;have t2:=ht.2.2.2.1;have f:=ht.2.2.2.2.1;have g:=ht.2.2.2.2.2.1;dsimp only at t1 t2 f g;have hl:=(line h ha).2.1;have hJ:=QeM h (i:=X.L) (Qqm _);have hw:wJ (((List.length (KZ X.Ls a):Nat):Int)-1)=((X.nr a-1:Nat):Int):=JT (k:=X.nr a) I I;have r:=rd h ha (show X.nr a-1<X.nr a by omega);have c:=r.ex0;have e1:=r.ex1;rw[Xu,Qt hj,Qqa,X5 e];simp -implicitDefEqProofs only[Qh,tuR,Qq6,Qq7,Qj,X2,Qp,(line h ha).1,hw,r.row,Qdl (n:=400) h ha,QI (show j<=1000 by omega)];have d:=Q49 (R:=Int) (n:=400) h hb (Nat.zero_le 10) some;rw[show((0:Nat):Int)=0 from rfl]at d;rw[d,Qh];have l:X.jL X.L++(X.T.take (j+1)).map X.jT=X.jL X.L++(X.T.take j).map X.jT++[X.jT (a,b,lo,aa)]:=by rw[Zv e,Qqy,List.append_assoc];rfl
  rw[QfV (n:=400) (b:=base X.nr b+0) h ha (show X.nr a-1<X.nr a by omega) c (show X.ex a (X.nr a-1)<=1000 by omega) (show 0<=lo by omega) (show lo<=1000 by omega) (show 0<=aa by omega) (show aa<=1000 by omega) (J:=X.jL X.L++(X.T.take j).map X.jT) Q3,Qh,l];rfl
 ·simp only[Qq8];rw[Xu,Qz,Qq9,QqA];rfl
end Cx
abbrev Sp2:=Int×Int
def Yk(q:Sp2):Y D:=[Ql q.1,Ql q.2]
def VS(t:Int):Int->Y Sp2->Prop
 |_,[]=>True
 |l,(a,b)::r=>l<a/\a<b/\b<=t/\VS t b r
def InS(y:Int)(l:Y Sp2):Prop:=∃q∈l,q.1<=y/\y<q.2
def cnt:Y Sp2->Int
 |[]=>0
 |(a,b)::r=>(b-a)+cnt r
theorem F1{y:Int}:¬ InS y []:=λ⟨_,h,_⟩=>nomatch h
theorem Th{y:Int}{q:Sp2}{l:Y Sp2}:InS y (q::l)↔(q.1<=y/\y<q.2)\/InS y l:=by
 constructor
 ·rintro⟨p,hp,h⟩;cases hp with
  |head=>exact .inl h
  |tail _ hp=>exact .inr ⟨p,hp,h⟩
 ·rintro (h | ⟨p,hp,h⟩)
  ·exact⟨q,.head _,h⟩
  ·exact⟨p,.tail _ hp,h⟩
theorem Qar{y:Int}{a b:Y Sp2}:InS y (a++b)↔InS y a\/InS y b:=by
 constructor
 ·rintro⟨p,hp,h⟩;rcases Qqt.1 hp with hp | hp
  ·exact .inl ⟨p,hp,h⟩
  ·exact .inr ⟨p,hp,h⟩
 ·rintro (⟨p,hp,h⟩|⟨p,hp,h⟩)
  ·exact⟨p,List.mem_append_left _ hp,h⟩
  ·exact⟨p,List.mem_append_right _ hp,h⟩
theorem Q79{y:Int}{a b:Y Sp2}(h:a.Perm b):InS y a↔InS y b:=⟨λ⟨p,hp,q⟩=>⟨p,h.mem_iff.1 hp,q⟩,λ⟨p,hp,q⟩=>⟨p,h.mem_iff.2 hp,q⟩⟩
theorem VS.rng{t:Int}:∀{l:Int} {s:Y Sp2},VS t l s->∀q∈s,l<q.1/\q.1<q.2/\q.2<=t
 |_,[],_,_,h=>nomatch h
 |l,(a,b)::r,⟨c,h2,d,e⟩,q,h=>by
  cases h with
  |head=>exact⟨c,h2,d⟩
  |tail _ h=>have:=e.rng q h;exact⟨I,this.2⟩
theorem VS.cnt{t:Int}:∀{l:Int} {s:Y Sp2},l<=t->VS t l s->0<=cnt s/\cnt s<=t-l/\(0<s.length->cnt s<=t-l-1)
 |l,[],h,_=>⟨Int.le_refl _,by simp only[Vx.cnt];omega,λh=>nomatch h⟩
 |l,(a,b)::r,h,⟨e,h2,c,d⟩=>by
  have:=d.cnt c;simp only[Vx.cnt];omega
theorem QaZ{t:Int}:∀{l:Int} {s:Y Sp2},VS t l s->l<=t->∀q∈s,q.2-q.1<=cnt s
 |_,[],_,_,_,h=>nomatch h
 |l,(a,b)::r,⟨e,h2,c,d⟩,hl,q,h=>by
  have h5:=d.cnt c;cases h with
  |head=>simp only[Vx.cnt];omega
  |tail _ h=>have:=QaZ d c q h;simp only[Vx.cnt];omega
section
variable{R:Type} {n:Nat} {t:Int}
theorem Q2z(a:1<=t)(b:t<=7200)(K:Bool->oP R):UQ n t K=K true:=by
 unfold UQ;simp only[show decide (t>=1)=true from Qqj a,show decide (t<=7200)=true from Qqj b,Qqa]
theorem Q75{l:Y Sp2}(hl:l.length<=1000){k0:oP R}{k1:Int->Int->Bool->oP R}{E:oP R}(hk:∀a b c,k1 a b c=E):∀(aa:Y Sp2) (i m:Nat) (last:Int),l.drop i=aa->aa.length<m->VS t last aa->U9 n t (l.map Yk) (l.length:Int) k0 k1 m last (i:Int)=E
 |[],i,m+1,last,hd,_,_=>by
  have:=ZX hd;rw[U9,show decide ((i:Int)<(l.length:Int))=false by simpa using this,Qq9,hk]
 |(a,b)::aa,i,m+1,last,hd,hm,⟨f,h2,g,d⟩=>by
  obtain⟨e,ac,hi⟩:=Yc hd;rw[U9,Qt hi,Qqa,X5 e];simp -implicitDefEqProofs only[Qh,Yk,Qq6,Qq7,Qj,Q5 (a<=last),Q5 (a>=b),Q5 (b>t),Qq9,QI (show i<=1000 by omega)];exact Q75 hl hk aa (i+1) m b ac (by simpa using hm) d
theorem Q01{l:Y Sp2}(a:1<=t)(b:t<=7200)(hl:l.length<=300)(h:VS t (-1) l):Gu 400 t (l.map Yk) (some:Bool->oP Bool)=some true:=by
 unfold Gu;rw[Q2z a b,Qh,Qq (by rfl),Qql];exact Q75 I (λ_ _ _=>rfl) l 0 400 (-1) rfl I h
theorem Q6M{l:Y Sp2}(hl:l.length<=1000){k0:Int->Int->Bool->oP R}:∀(aa:Y Sp2) (i m:Nat) (acc:Int),l.drop i=aa->aa.length<m->(∃u,VS t u aa /\ -1<=u/\u<=t)->t<=7200->0<=acc->acc<=100000-cnt aa->∃j b,ZU n (l.map Yk) (l.length:Int) k0 m acc (i:Int)=k0 (acc+cnt aa) j b
 |[],i,m+1,acc,hd,_,_,_,_,_=>by
  have:=ZX hd;rw[ZU,show decide ((i:Int)<(l.length:Int))=false by simpa using this,Qq9];exact⟨_,_,by rw[cnt,Int.add_zero]⟩
 |(a,b)::aa,i,m+1,acc,hd,hm,⟨u,⟨k,h2,d,f⟩,h5,h6⟩,ht,h7,g=>by
  obtain⟨e,ac,hi⟩:=Yc hd;have hc:=f.cnt d;rw[cnt]at g ⊢;rw[ZU,Qt hi,Qqa,X5 e];simp -implicitDefEqProofs only[Qh,Yk,Qq6,Qq7,Qj,PF,Qo (x:=b-a) I I,Qo (x:=acc+(b-a)) I I,QI (show i<=1000 by omega)];obtain⟨j,c,h⟩:=Q6M hl aa (i+1) m (acc+(b-a)) ac (by simpa using hm) ⟨b,f,I,d⟩ ht I I;exact⟨j,c,by rw[h,Int.add_assoc]⟩
theorem Qhl{l:Y Sp2}(c:1<=t)(a:t<=7200)(hl:l.length<=300)(h:VS t (-1) l):Td 400 t (l.map Yk) (some:Int->oP Int)=some (cnt l):=by
 have hc:=h.cnt I;obtain⟨j,b,e⟩:=Q6M (n:=400) (k0:=λw _ _=>(some w:oP Int)) (l:=l) I l 0 400 0 rfl I ⟨-1,h,I,I⟩ a I I;unfold Td;rw[Q01 c a hl h,Qh,Qq (by rfl)];unfold Rb;rw[Qql,show ZU 400 (l.map Yk) (l.length:Int) (λw _ _=>(some w:oP Int)) 400 0 0=_ from e,Qh,Int.zero_add]
theorem QhD{x:Int}(b:1<=t)(c:t<=7200)(h2 : -1000000000<=x)(d:x<=1000000000)(K:Int->oP R):Hg n x t K=K (x % t):=by
 unfold Hg;rw[Qq (Qqi I),CS I,Qh];have f:=Int.emod_nonneg x (show t≠0 by omega);have h5:=Int.emod_lt_of_pos x (show 0<t by omega);by_cases hx:0<=x
 ·rw[Qqs hx,Qq (Qqi I)]
 ·have e:Int.tmod x t = -((-x) % t):=by
   rw[show x = -(-x) by omega,Int.neg_tmod,Qqs I,Int.neg_neg]
  have e1:x % t=if (-x) % t=0 then 0 else t-(-x) % t:=by
   have h6:=Int.emod_nonneg (-x) (show t≠0 by omega);have h7:=Int.emod_lt_of_pos (-x) (show 0<t by omega);have g:=Int.mul_ediv_add_emod (-x) t;split
   ·rename_i a;rw[show x=t*(-((-x) / t)) by rw[Int.mul_neg];omega];exact Int.mul_emod_right _ _
   ·rename_i a;rw[show x=(t-(-x) % t)+t*(-((-x) / t)-1) by rw[Int.mul_sub,Int.mul_neg];omega,Int.add_mul_emod_self_left];rw[show(t-(-x) % t+t*(-((-x) / t)-1))=x by rw[Int.mul_sub,Int.mul_neg];omega];exact Int.emod_eq_of_lt I I
  rw[e];by_cases hz:(-x) % t=0
  ·rw[hz,Qq (by rfl),e1,Qqf hz];rfl
  ·have h6:=Int.emod_nonneg (-x) (show t≠0 by omega);rw[Xh (Qqj I),Qo I I,e1,Qqh hz];congr 1;omega
theorem Qhv{x:Int}(a:1<=t)(b:t<=7200)(h2 : -1000000000<=x)(c:x<=1000000000)(K:Int->oP R):Ef n x t K=K (x % t):=QhD (n:=n) a b h2 c K
def Q4N(t x k:Int):Y Sp2:=if k<1 then[]else if t<=k then[(0,t)]else if x+k<=t then[(x,x+k)]else[(0,x+k-t),(x,t)]
theorem Q9P{x k:Int}:(Q4N t x k).length<=2:=by
 unfold Q4N;split
 ·simp
 split
 ·simp
 split<;>simp
theorem QbH{x k:Int}(a:1<=t)(hx:0<=x)(aa:x<t):VS t (-1) (Q4N t x k):=by
 unfold Q4N;split
 ·trivial
 split
 ·exact⟨I,I,I,trivial⟩
 split
 ·exact⟨I,I,I,trivial⟩
 ·exact⟨I,I,I,I,I,I,trivial⟩
theorem Qk3{x y:Int}(hx:0<=x)(aa:x<t)(hy:0<=y)(ac:y<t):(y-x) % t=if x<=y then y-x else y-x+t:=by
 split
 ·exact Int.emod_eq_of_lt I I
 ·rw[show y-x=(y-x+t)+t*(-1) by omega,Int.add_mul_emod_self_left];rw[show y-x+t+t*(-1)+t=y-x+t by omega];exact Int.emod_eq_of_lt I I
theorem Qcj{x k y:Int}(hx:0<=x)(ai:x<t)(hy:0<=y)(aa:y<t):InS y (Q4N t x k)↔(y-x) % t<k:=by
 rw[Qk3 hx ai hy aa];unfold Q4N;split
 ·refine⟨λh=>absurd h F1,λh=>?_⟩;split at h<;>omega
 split
 ·rw[Th];constructor
  ·intro _;split<;>omega
  ·intro _;exact .inl ⟨hy,aa⟩
 split
 ·rw[Th];constructor
  ·rintro (h | h)
   ·dsimp only at h;rw[Qqf h.1];omega
   ·exact absurd h F1
  ·intro h;left;dsimp only;split at h<;>omega
 ·rw[Th,Th];constructor
  ·rintro (h | h | h)
   ·dsimp only at h;split<;>omega
   ·dsimp only at h;rw[Qqf h.1];omega
   ·exact absurd h F1
  ·intro h;dsimp only;by_cases ac:x<=y
   ·exact .inr (.inl ⟨ac,aa⟩)
   ·rw[Qqh ac]at h;exact .inl ⟨hy,I⟩
theorem QhW{f k:Int}(b:1<=t)(c:t<=7200)(h2 : -1000000<=f)(g:f<=1000000)(h : -1000000<=k)(h5:k<=1000000):P2 400 t f k Tu2=some ((Q4N t (f % t) k).map Yk,(0:Int)):=by
 have h6:=Int.emod_nonneg f (show t≠0 by omega);have h7:=Int.emod_lt_of_pos f (show 0<t by omega);unfold P2;rw[Q2z b c,Qh,Qq (by rfl),QhD b c I I,Qh];revert h6 h7;generalize f % t=x;intro h6 h7;unfold Jn Q4N;by_cases c1:k<1
 ·rw[show decide (k<1)=true from Qqj c1,Qqa,Qqf c1];rfl
 rw[show decide (k<1)=false from Qqi c1,Qq9,Qqh c1];by_cases a:t<=k
 ·rw[show decide (k>=t)=true from Qqj a,Qqa,Qqf a];rfl
 rw[show decide (k>=t)=false from Qqi a,Qq9,Qqh a,Qo (x:=x+k) I I];by_cases c3:x+k<=t
 ·rw[show decide (x+k<=t)=true from Qqj c3,Qqa,Qqf c3];rfl
 ·rw[show decide (x+k<=t)=false from Qqi c3,Qq9,Qqh c3,Qo (x:=x+k-t) I I];rfl
end
end Go.Vx
