/- Part of a proof. No conditions of their own. -/
import Derived.Test.YtekmjonablebcaaGreatTB
import Derived.Test.YtekmjonablebcaaGreatProg
import Derived.Test.YtekmjonablebcaaGreatTC
set_option linter.unusedVariables false
set_option linter.unusedSimpArgs false
noncomputable section

namespace Go.Vx
variable{R:Type} (n:Nat)
def SQ(n:Nat)(a0 a1:Int)(K:QlI R):oP R:=Qc R (nz (IntKind.wrap .u64 a1)) λa=>K (wJ (Int.tmod (IntKind.wrap .u64 a0) (IntKind.wrap .u64 a1)))
def Qm(b:LL)(a a1:Int)(K:QlP R):oP R:=bif decide (a>=(b.length:Int))then K 0 a else Ql3 R b (wJ (wJ (a+1)-1)) λe=>Qc R (SQ n e a1 some) λf=>K f (wJ (a+1))
def WL(c:LL)(f:Int)(a1:Y UInt8)(a2:Int)(K:(Y UInt8)->Int->Int->Int->Int->Int->oP R):oP R:=Qc R (Qm n c f 9 Tu2) λa=>Qc R (Qm n c a.2 7 Tu2) λd=>Qc R (Qm n c d.2 21 Tu2) λe=>K a1 (wJ (2+a.1)) (wJ (5000+wJ (5000*d.1))) (wJ (e.1-10)) a2 e.2
def VL(n:Nat)(a0:Y UInt8)(a1:Int)(K:(Y UInt8)->oP R):oP R:=Qly R 10 (Qb R [48,49,50,51,52,53,54,55,56,57] λe=>Qc R (slB (List.length (bs e)) (some (Int.tmod a1 10)) (some (wJ (Int.tmod a1 10+1)))) λa=>Qc R (Q8H (a0.length+List.length (cut (bs e) a))) λd=>K (a0++cut (bs e) a))
def Zn(n:Nat)(a:LL)(b:Y UInt8)(c d e f:Int)(K:QlT R):oP R:=Qb R [[D.str b,Ql c,Ql d,Ql e,Ql f]] λh=>Qc R (Y9 ((a.length+h.length)*48)) λg=>K (wJ (((List.length (a++h):Nat):Int)-1)) (a++h)
def Yo(n:Nat)(q4:LL)(a1 a2 a b:Int)(K:QlO R):oP R:=Qb R [[Ql a1,Ql 1,Ql a2,Ql 0,Ql a,Ql b]] λd=>Qc R (Y9 ((q4.length+d.length)*48)) λc=>K (q4++d)
def ZD(a:LL)(K:QlT R):oP R:=Qc R (VL n (bs [80]) (a.length:Int) some) λb=>Qb R [[D.str b]] λd=>Qc R (Y9 ((a.length+d.length)*16)) λc=>K (wJ (((List.length (a++d):Nat):Int)-1)) (a++d)
def QP(h5:Int)(h6:LL)(h7:Bool)(b c:Int)(k0:QlL R):QlM R
|0,_,_=>none
|m+1,a,d=>bif decide (a<c)then bif h7 then Ql3 R h6 a λg=>Qc R (Yo n d h5 g b a some) λh=>QP h5 h6 h7 b c k0 m (wJ (a+1)) h else Ql3 R h6 a λk=>Qc R (Yo n d k h5 b a some) λl=>QP h5 h6 h7 b c k0 m (wJ (a+1)) l else k0 a (decide (a<c)) d
def Vn(b q4:LL)(a1:Int)(a2:LL)(c:Bool)(K:LL->LL->oP R):oP R:=Qb R (a2.length:Int) λd=>bif decide (d>1)then gb true (ZD n b Tu2) (0,[]) λa=>QP n a1 a2 c a.1 d (λg h e=>K a.2 e) n 0 q4 else QP n a1 a2 c (-1:Int) d (λi j f=>K b f) n 0 q4
def Gc(c:Int)(h:LL)(k0:QlZ R):Qm0 R
|0,_,_,_,_=>none
|m+1,b,d,i,j=>bif decide (b>0)then Qc R (VL n (bs [84]) c some) λk=>Qc R (VL n k b some) λl=>gb true (WL n h j l c Tu6) ([],0,0,0,0,0) λa=>gb true (Zn n i a.1 (wJ (a.2.1+2)) a.2.2.1 a.2.2.2.1 a.2.2.2.2.1 Tu2) (0,[]) λg=>Qc R (Y9 ((d.length+[[Ql g.1]].length)*8)) λs=>Gc c h k0 m (wJ (b-1)) (d++[[Ql g.1]]) g.2 a.2.2.2.2.2 else k0 b (decide (b>0)) d i j
def UL(h2:Int)(b:LL)(k0:Qm1 R):Qm2 R
|0,_,_,_,_,_=>none
|m+1,a,c,h6,d,e=>bif decide (a<h2)then Qc R (VL n (bs [83]) a some) λf=>Qc R (Y9 ((c.length+[[D.str f]].length)*16)) λo=>Qc R (Qm n b e 2 Tu2) λg=>Gc n a b (λp q h k l=>Qc R (Y9 ((d.length+[[D.sl 1 h]].length)*24)) λr=>UL h2 b k0 m (wJ (a+1)) (c++[[D.str f]]) k (d++[[D.sl 1 h]]) l) n (wJ (1+g.1)) [] h6 g.2 else k0 a (decide (a<h2)) c h6 d e
def Ga(g:Int)(h:LL)(k0:QlZ R):Qm0 R
|0,_,_,_,_=>none
|m+1,b,c,i,j=>bif decide (b>0)then Qc R (VL n (bs [76]) g some) λk=>Qc R (VL n k b some) λl=>gb true (WL n h j l (-1:Int) Tu6) ([],0,0,0,0,0) λa=>gb true (Zn n i a.1 a.2.1 a.2.2.1 a.2.2.2.1 a.2.2.2.2.1 Tu2) (0,[]) λf=>Qc R (Y9 ((c.length+[[Ql f.1]].length)*8)) λs=>Ga g h k0 m (wJ (b-1)) (c++[[Ql f.1]]) f.2 a.2.2.2.2.2 else k0 b (decide (b>0)) c i j
def R4(b:LL)(k0:QlL R):QlM R
|0,_,_=>none
|m+1,a,c=>Qb R (wJ (a+1)) λp=>Qa R (decide (p<(b.length:Int))) λo=>bif o then Ql5 R b.length a b a.toNat λf=>Ql5 R b.length p b (Int.toNat p) λi=>Qc R (Yo n c f i (-1:Int) 0 some) λj=>R4 b k0 m p j else k0 a o c
def Uw(f:Int)(c g:LL)(k0:Int->Bool->LL->LL->LL->LL->Int->oP R):Nat->Int->LL->LL->LL->LL->Int->oP R
|0,_,_,_,_,_,_=>none
|m+1,a,i,j,k,h,l=>Qb R (wJ (a+1)) λe=>Qa R (decide (e<f)) λd=>bif d then Qc R (Qm n g l 2 Tu2) λo=>Ga n a g (λai aj b r s=>R4 n b (λak al t=>Ql5 R b.length 0 b (Int.toNat 0) λx=>Qle R c.length a c a.toNat λaa=>gb true (Vn n i t x aa false Tu2) ([],[]) λp=>Qb R (wJ ((b.length:Int)-1)) λar=>Ql5 R b.length ar b (Int.toNat ar) λad=>Qle R c.length e c (Int.toNat e) λah=>gb true (Vn n p.1 p.2 ad ah true Tu2) ([],[]) λq=>Qc R (Y9 ((h.length+[[D.sl 1 b]].length)*24)) λaq=>Uw f c g k0 m e q.1 r q.2 (h++[[D.sl 1 b]]) s) n 0 k) n (wJ (1+o.1)) [] j o.2 else k0 a d i j k h l
def Q3i(b:LL)(d:Int)(K:LL->LL->LL->LL->LL->LL->LL->Int->oP R):oP R:=Qc R (Qm n b d 2 Tu2) λa=>UL n (wJ (2+a.1)) b (λo p f g c h=>Uw n (wJ (2+a.1)) c b (λq r i j k l m=>K f i j k c l [] m) n 0 [] g [] [] h) n 0 [] [] [] a.2
def PW(n:Nat)(a0:Int)(K:QlN R):oP R:=K (Q8 (Q9 (decide (a0>=65)) (decide (a0<=90))) (Q9 (decide (a0>=97)) (decide (a0<=122))))
def E9(n:Nat)(a0:Int)(K:QlN R):oP R:=K (Q9 (decide (a0>=48)) (decide (a0<=57)))
def Re(a:Y UInt8)(c:Int)(k0:oP R)(k1:QlJ R):QlK R
|0,_=>none
|m+1,h5=>bif decide (h5<c)then Qc R (Zo a h5) λe=>Qc R (PW n e some) λb=>Qd R (!b) (Zo a h5) λf=>Qd R (!b) (E9 n f some) λd=>Qd R (Q9 (!b) (!d)) (Zo a h5) λg=>bif Q9 (Q9 (!b) (!d)) (g !=95)then k0 else Re a c k0 k1 m (wJ (h5+1))else k1 h5 (decide (h5<c))
def KW(a0:Y UInt8)(K:QlN R):oP R:=Qb R (a0.length:Int) λf=>Qa R (Q8 (decide (f<1)) (decide (f>12))) λe=>Qd R (!e) (Zo a0 0) λa=>Qd R (!e) (PW n a some) λb=>bif Q8 e (!b)then K false else Re n a0 f (K false) (λc d=>K true) n 0
def XE(n:Nat)(e f g h:LL)(i:Y UInt8)(a b c d:Int)(K:QlN R):oP R:=K (Q9 (Q9 (Q9 (Q9 (Q9 (Q9 (Q9 (decide (a>=1)) (decide (a<=400))) (decide (b>=1000))) (decide (b<=100000))) (decide (c>=(-40:Int)))) (decide (c<=40))) (decide (d>=(-1:Int)))) (decide (d<(e.length:Int))))
def Yr(n:Nat)(i h b j:LL)(c d e f a g:Int)(K:QlN R):oP R:=K (Q9 (Q9 (Q9 (Q9 (Q9 (Q9 (Q9 (Q9 (decide (c>=0)) (decide (c<(b.length:Int)))) (decide (e>=0))) (decide (e<(b.length:Int)))) (Q8 (d==0) (d==1))) (Q8 (f==0) (f==1))) (decide (a>=(-1:Int)))) (decide (a<(h.length:Int)))) (Q8 (g==0) (Q9 (g==1) (a !=(-1:Int)))))
def Fh(n:Nat)(a b c d e f:Int)(K:Int->Int->Int->Int->oP R):oP R:=K a b c d
def HP(e:LL)(h2 d h5 h6 h7:Int)(k0:oP R)(k1:QlJ R):QlK R
|0,_=>none
|m+1,c=>bif decide (c<h2)then Ql1 R e c λb f g h=>Qla R b λi j k=>Qlr R f g h i λl o p q=>QkZ R j k λr s=>gb true (Fh n l o p q r s Tu4) (0,0,0,0) λa=>bif Q8 (Q9 (d==a.1&&h5==a.2.1) (h6==a.2.2.1&&h7==a.2.2.2)) (Q9 (d==a.2.2.1&&h5==a.2.2.2) (h6==a.1&&h7==a.2.1))then k0 else HP e h2 d h5 h6 h7 k0 k1 m (wJ (c+1))else k1 c (decide (c<h2))
def GX(a0:LL)(a b c d:Int)(K:QlN R):oP R:=HP n a0 (a0.length:Int) a b c d (K true) (λe f=>K false) n 0
def Ge(n:Nat)(h i j k a c:Int)(a1:LL)(K:QlN R):oP R:=bif (a1.length:Int)==0 then K true else Qa R (Q9 ((a1.length:Int)==1) (a !=(-1:Int))) λl=>Qd R l (Qi a1 0) λd=>Qd R l d[4]? λe=>Qd R l (pIw e) λb=>Qa R (Q9 l (a==b)) λo=>Qd R o (Qi a1 0) λf=>Qd R o f[5]? λc5=>Qd R o (pIw c5) λg=>K (Q9 o (c !=g))
def NR(n:Nat)(d e c f:LL)(a b:Int)(K:QlN R):oP R:=K (Q9 (Q9 (decide (a>=0)) (decide (a<(c.length:Int)))) (Q8 (b==0) (b==1)))
def RR(n:Nat)(a b:Int)(K:QlP R):oP R:=bif b==0 then K a 1 else K a 0
def Lq(n:Nat)(a b:Int)(K:QlP R):oP R:=bif b==0 then K a 1 else K a 0
def Gf(n:Nat)(e:LL)(h5 h7 b c d:Int)(k0:QlI R)(k1:QlJ R):QlK R
|0,_=>none
|m+1,h6=>bif decide (h6<h5)then Ql1 R e h6 λa j k l=>Qc R a[3]? λo=>Qc R a[4]? λp=>Qc R a[5]? λr=>Qlr R j k l o λf g h i=>bif Q8 (Q9 (f==h7&&g==b) (h==c&&i==d)) (Q9 (f==c&&g==d) (h==h7&&i==b))then Qc R (pIw p) λq=>k0 q else Gf n e h5 h7 b c d k0 k1 m (wJ (h6+1))else k1 h6 (decide (h6<h5))
def G0(k l m c:LL)(f g h i:Int)(K:QlJ R):oP R:=Qc R (RR n f g Tu2) λa=>Qc R (Lq n h i Tu2) λd=>Qc R (RR n d.1 d.2 Tu2) λe=>Gf n c (c.length:Int) a.1 a.2 e.1 e.2 (λj=>K j true) (λo p=>K 0 false) n 0
def Qu(n:Nat)(a0:LL)(a1:Int)(K:QlO R):oP R:=bif Nat.beq a0.length 1&&decide (0<=a1)&&decide (a1<=100000)then K (List.replicate a1.toNat (a0.headD []))else none
def UC(n:Nat)(e:Y UInt8)(a b c d:Int)(K:QlN R):oP R:=K (Q9 (Q9 (Q9 (Q9 (Q9 (Q9 (Q9 (decide (a>=1)) (decide (a<=40))) (decide (b>=1000))) (decide (b<=100000))) (decide (c>=100))) (decide (c<=2000))) (decide (d>=100))) (decide (d<=2000)))
def Uo(n:Nat)(a:LL)(b:Int)(K:QlO R):oP R:=Qc R (slB a.length none (some (wJ ((a.length:Int)-b)))) λq1=>K (cut a q1)
def LZ(n:Nat)(a0:Int)(K:QlN R):oP R:=K (Q8 (Q9 (decide (a0>=97)) (decide (a0<=122))) (Q9 (decide (a0>=65)) (decide (a0<=90))))
def DF(n:Nat)(a0:Int)(K:QlN R):oP R:=K (Q9 (decide (a0>=48)) (decide (a0<=57)))
def M7(b:Y UInt8)(k0:oP R)(k1:QlJ R):QlK R
|0,_=>none
|m+1,a=>Qa R (decide (a<(b.length:Int))) λh=>bif h then Qc R (Zo b a) λe=>Qc R (LZ n e some) λc=>Qd R (!c) (Zo b a) λf=>Qd R (!c) (DF n f some) λd=>Qd R (Q9 (!c) (!d)) (Zo b a) λg=>bif Q9 (Q9 (!c) (!d)) (g !=95)then k0 else M7 b k0 k1 m (wJ (a+1))else k1 a h
def Ml(a0:Y UInt8)(K:QlN R):oP R:=Qa R (Q8 (decide ((a0.length:Int)<1)) (decide ((a0.length:Int)>12))) λe=>Qd R (!e) (Zo a0 0) λa=>Qd R (!e) (LZ n a some) λb=>bif Q8 e (!b)then K false else M7 n a0 (K false) (λc d=>K true) n 1
def Ru(n:Nat)(h5:LL)(h6:Int)(k0:oP R)(k1:QlJ R):QlK R
|0,_=>none
|m+1,h7=>bif decide (h7<h6)then Ql8 R h5 h7 λc=>Ql8 R h5 h6 λf=>bif c==f then k0 else Ru n h5 h6 k0 k1 m (wJ (h7+1))else k1 h7 (decide (h7<h6))
def MI(a0:LL)(a1:Int)(K:QlI R):oP R:=Ql8 R a0 a1 λc=>Qc R (Ml n c some) λd=>bif !d then K 3 else Ru n a0 a1 (K 5) (λe f=>K 0) n 0
def YX(n:Nat)(b:LL)(k0:QlL R):QlM R
|0,_,_=>none
|m+1,a,h6=>Qa R (decide (a<(b.length:Int))) λg=>bif g then Ql8 R b a λc=>Qc R (Y9 ((h6.length+[[D.str c]].length)*16)) λf=>YX n b k0 m (wJ (a+1)) (h6++[[D.str c]])else k0 a g h6
def Vb(c d a e:LL)(K:QlO R):oP R:=YX n a (λf g b=>K b) n 0 []
def KK(n:Nat)(a0 a1 a2:Int)(K:QlN R):oP R:=K (Q9 (decide (a0>=a1)) (decide (a0<=a2)))
def Bp(n:Nat)(c d e f g h a b:Int)(K:QlN R):oP R:=K (Q8 (Q9 (c==a) (d==b)) (Q9 (e==a) (f==b)))
def Py(d:Int)(e:LL)(f g:Int)(k0:Int->Int->Bool->D->D->D->D->D->D->oP R):Nat->Int->Int->D->D->D->D->D->D->oP R
|0,_,_,_,_,_,_,_,_=>none
|m+1,h,a,i,j,k,l,o,p=>bif decide (a<d)then Ql1 R e a λb q r s=>Qla R b λt u v=>Qlr R q r s t λx y z aa=>QkZ R u v λab ac=>Qc R (Bp n x y z aa ab ac f g some) λad=>bif ad then Ql1 R e a λc ae ag ah=>Qla R c λai aj ak=>Py d e f g k0 m (wJ (h+1)) (wJ (a+1)) ae ag ah ai aj ak else Py d e f g k0 m h (wJ (a+1)) i j k l o p else k0 h a (decide (a<d)) i j k l o p
def BZ(o p q f:LL)(a1 g h:Int)(K:QlN R):oP R:=Qlp R f a1 λb=>Qc R b[2]? λs=>Qc R b[3]? λc5=>Qc R b[4]? λc6=>Qc R b[5]? λi=>Qb R (Ql 0) λad=>Py n a1 f g h (λa t u v x y z j k=>Qa R (a==0) λac=>Qd R (!ac&&a==1) (pIw c6) λc=>Qa R (Q9 (a==1) (decide (c>=0))) λaa=>Ql7 R j (!ac&&aa) c6 λd e=>Qa R (Q9 aa (d==e)) λab=>Ql7 R k (!ac&&ab) i λl m=>K (Q8 ac (Q9 ab (l !=m)))) n 0 0 ad ad ad ad ad ad
def H6(e:Int)(f:LL)(g h i j:Int)(k0:oP R)(k1:QlJ R):QlK R
|0,_=>none
|m+1,b=>bif decide (b<e)then Ql1 R f b λc k l o=>Qla R c λp q r=>Qlr R k l o p λs t u v=>QkZ R q r λx y=>Qc R (Bp n s t u v x y g h some) λa=>Qd R a (Qi f b) λd=>QlE R d a λz aa=>Qd R a d[2]? λab=>Qd R a d[3]? λac=>Qd R a d[4]? λad=>Qd R a d[5]? λae=>Ql7 R z a aa λag ah=>Ql7 R ab a ac λai aj=>Ql7 R ad a ae λak al=>Qd R a (Bp n ag ah ai aj ak al i j some) λam=>bif Q9 a am then k0 else H6 e f g h i j k0 k1 m (wJ (b+1))else k1 b (decide (b<e))
def JW(p i g h:LL)(a1:Int)(K:QlI R):oP R:=Ql1 R h a1 λe q c3 r=>Qla R e λc5 c6 s=>Qc R (pIw q) λv=>Qb R (wJ ((g.length:Int)-1)) λam=>Qc R (KK n v 0 am some) λa=>Qd R (!(!a)) (pIw r) λx=>Qd R (!(!a)) (KK n x 0 am some) λb=>Qa R (Q8 (!a) (!b)) λai=>Qd R (!ai) (pIw c3) λy=>Qd R (!ai) (KK n y 0 1 some) λc=>Qa R (Q8 ai (!c)) λal=>Qd R (!al) (pIw c5) λz=>Qd R (!al) (KK n z 0 1 some) λd=>Qa R (Q8 al (!d)) λah=>Qd R (!ah) (pIw c6) λaa=>Qd R (!ah) (KK n aa (-1:Int) (wJ ((i.length:Int)-1)) some) λf=>Qa R (Q8 ah (!f)) λaj=>Qd R (!aj) (pIw s) λab=>Qd R (!aj) (KK n ab 0 1 some) λj=>Qa R (Q8 aj (!j)) λak=>Qd R (!ak) (pIw c6) λt=>Qd R (!ak&&decide (t<0)) (pIw s) λac=>bif Q8 ak (Q9 (decide (t<0)) (ac !=0))then K 4 else Qlr R q c3 r c5 λk l m o=>bif k==m&&l==o then K 1 else H6 n a1 h k l m o (K 5) (λae ag=>Qc R (BZ n p i g h a1 k l some) λu=>Qd R (!(!u)) (BZ n p i g h a1 m o some) λad=>bif Q8 (!u) (!ad)then K 11 else K 0) n 0
def Rn(h2:LL)(k0:QlI R)(k1:QlJ R):QlK R
|0,_=>none
|m+1,a=>Qa R (decide (a<(h2.length:Int))) λc=>bif c then Qc R (MI n h2 a some) λb=>bif b !=0 then k0 b else Rn h2 k0 k1 m (wJ (a+1))else k1 a c
def Rx(b:LL)(k0:QlI R)(k1:QlJ R):QlK R
|0,_=>none
|m+1,a=>Qa R (decide (a<(b.length:Int))) λd=>bif d then Qc R (MI n b a some) λc=>bif c !=0 then k0 c else Rx b k0 k1 m (wJ (a+1))else k1 a d
def Jp(g h e:LL)(k0:QlI R)(k1:QlJ R):QlK R
|0,_=>none
|m+1,b=>Qa R (decide (b<(e.length:Int))) λx=>bif x then Qc R (MI n g b some) λi=>bif i !=0 then k0 i else Ql9 R e b λc j=>Qlx R c λk l=>Qc R c[4]? λo=>Qc R (pIw j) λp=>Qc R (KK n p 1 400 some) λa=>Qd R (!(!a)) (pIw k) λq=>Qd R (!(!a)) (KK n q 1000 100000 some) λd=>Qa R (Q8 (!a) (!d)) λv=>Qd R (!v) (pIw l) λr=>Qd R (!v) (KK n r (-40:Int) 40 some) λf=>Qa R (Q8 v (!f)) λy=>Qd R (!y) (pIw o) λs=>Qd R (!y) (KK n s (-1:Int) (wJ ((h.length:Int)-1)) some) λt=>bif Q8 y (!t)then k0 4 else Jp g h e k0 k1 m (wJ (b+1))else k1 b x
def Jg(c d e b:LL)(k0:QlI R)(k1:QlJ R):QlK R
|0,_=>none
|m+1,a=>Qa R (decide (a<(b.length:Int))) λg=>bif g then Qc R (JW n c d e b a some) λf=>bif f !=0 then k0 f else Jg c d e b k0 k1 m (wJ (a+1))else k1 a g
def VJ(a c b d:LL)(K:QlI R):oP R:=bif Q8 (Q8 (Q8 (decide ((a.length:Int)>24)) (decide ((c.length:Int)>48))) (decide ((b.length:Int)>96))) (decide ((d.length:Int)>192))then K 7 else bif (b.length:Int)==0 then K 1 else Rn n a (λe=>K e) (λj k=>Rx n c (λf=>K f) (λl m=>Qc R (Vb n a c b d some) λg=>Jp n g a b (λh=>K h) (λo p=>Jg n a c b d (λi=>K i) (λq r=>K 0) n 0) n 0) n 0) n 0
def HR(n:Nat)(a0 a1 a2:Int)(K:QlN R):oP R:=K (Q9 (decide (a0>=a1)) (decide (a0<=a2)))
def Zr(n:Nat)(h6:LL)(h7 b:Int)(k0:QlL R):QlM R
|0,_,_=>none
|m+1,h2,a=>Qa R (decide (h2<(h6.length:Int))) λak=>bif ak then Ql1 R h6 h2 λc aj g h=>Qla R c λi e f=>Qb R (wJ (h2+1)) λal=>jn (λ(d x:Int)=>(bif decide (d>=0)then bif x==1 then QkZ R e f λj k=>Qb R [[Ql d,Ql 1,Ql j,Ql k]] λan=>Qc R (Y9 ((a.length+an.length)*32)) λae=>Zr n h6 h7 b k0 m al (a++an)else QkZ R e f λl o=>Qb R [[Ql d,Ql 0,Ql l,Ql o]] λao=>Qc R (Y9 ((a.length+ao.length)*32)) λag=>Zr n h6 h7 b k0 m al (a++ao)else Zr n h6 h7 b k0 m al a:oP R)) λp=>Qc R (pIw aj) λq=>Qd R (q==h7) (pIw g) λy=>bif Q9 (q==h7) (y==b)then QkZ R h i λz aa=>p z aa else Qc R (pIw h) λr=>Qd R (r==h7) (pIw i) λab=>bif Q9 (r==h7) (ab==b)then QkZ R aj g λac ad=>p ac ad else bif decide ((-1:Int)>=0)then Qb R (Ql (-1:Int)) λam=>bif 0==1 then QkZ R e f λs t=>Qb R [[am,Ql 1,Ql s,Ql t]] λap=>Qc R (Y9 ((a.length+ap.length)*32)) λah=>Zr n h6 h7 b k0 m al (a++ap)else QkZ R e f λu v=>Qb R [[am,Ql 0,Ql u,Ql v]] λaq=>Qc R (Y9 ((a.length+aq.length)*32)) λai=>Zr n h6 h7 b k0 m al (a++aq)else Zr n h6 h7 b k0 m al a else k0 h2 ak a
def Al(f g h a:LL)(b c:Int)(K:QlO R):oP R:=bif c==1 then Zr n a b 0 (λi j d=>K d) n 0 []else Zr n a b 1 (λk l e=>K e) n 0 []
def PY(n:Nat)(h2:LL)(c h5:Int)(k0:D->D->D->D->oP R)(k1:QlJ R):QlK R
|0,_=>none
|m+1,a=>Qa R (decide (a<(h2.length:Int))) λo=>bif o then Qld R h2 a λe f=>QkZ R e f λg h=>bif g==c&&h==h5 then Qll R h2 a λi j k l=>k0 i j k l else PY n h2 c h5 k0 k1 m (wJ (a+1))else k1 a o
def G7(a b c d:LL)(e f g h:Int)(K:D->D->D->D->Bool->oP R):oP R:=Qc R (Al n a b c d e f some) λi=>PY n i g h (λj k l m=>K j k l m true) (λo p=>Qb R (Ql 0) λq=>K q q q q false) n 0
def YT(h5 h7:LL)(k0:oP R)(k1:QlJ R):QlK R
|0,_=>none
|m+1,h2=>Qa R (decide (h2<(h7.length:Int))) λi=>bif i then Ql3 R h7 h2 λd=>Qc R (HR n d 0 (wJ ((h5.length:Int)-1)) some) λa=>Qls R h7 h2 (!(!a)) λg=>Qd R (!(!a)) (HR n g 0 1 some) λh=>bif Q8 (!a) (!h)then k0 else YT h5 h7 k0 k1 m (wJ (h2+1))else k1 h2 i
def K7(n:Nat)(b:Int)(c:LL)(k0:oP R)(k1:QlJ R):QlK R
|0,_=>none
|m+1,a=>bif decide (a<b)then Ql3 R c a λf=>Ql3 R c b λi=>bif f==i then k0 else K7 n b c k0 k1 m (wJ (a+1))else k1 a (decide (a<b))
def VZ(b:LL)(k0:oP R)(k1:QlJ R):QlK R
|0,_=>none
|m+1,a=>Qa R (decide (a<(b.length:Int))) λe=>bif e then K7 n a b k0 (λc d=>VZ b k0 k1 m (wJ (a+1))) n 0 else k1 a e
def YQ(c d e f b:LL)(k0:oP R)(k1:QlJ R):QlK R
|0,_=>none
|m+1,a=>Qa R (decide (a<(b.length:Int))) λs=>bif s then Qld R b (wJ (a-1)) λi j=>Qld R b a λk l=>Qlr R i j k l λo p q r=>Qc R (G7 n c d e f o p q r Tu5) λy=>bif !y.2.2.2.2 then k0 else YQ c d e f b k0 k1 m (wJ (a+1))else k1 a s
def J9(d e b f a:LL)(c:Int)(K:QlI R):oP R:=Qc R (VJ n d e b f some) λg=>bif g !=0 then K 1 else bif Q8 (decide ((a.length:Int)>24)) (decide (c>2))then K 7 else bif Q8 (decide (c<0)) (decide (wJ ((a.length:Int)-c)<2))then K 4 else YT n b a (K 4) (λh i=>VZ n a (K 5) (λj k=>YQ n d e b f a (K 11) (λl m=>K 0) n 1) n 0) n 0
def Mj(n:Nat)(a b:Int)(K:QlP R):oP R:=bif b==0 then K a 0 else K a 1
def ZN(n:Nat)(d:LL)(b:Int)(k0:QlL R):QlM R
|0,_,_=>none
|m+1,a,c=>bif decide (a<b)then Ql3 R d a λe=>Qc R (Y9 ((c.length+[[Ql e,Ql 0]].length)*16)) λh=>ZN n d b k0 m (wJ (a+1)) (c++[[Ql e,Ql 0]])else k0 a (decide (a<b)) c
def ZT(n:Nat)(c:LL)(k0:QlL R):QlM R
|0,_,_=>none
|m+1,a,b=>bif decide (a>=0)then Ql3 R c a λd=>Qc R (Y9 ((b.length+[[Ql d,Ql 1]].length)*16)) λg=>ZT n c k0 m (wJ (a-1)) (b++[[Ql d,Ql 1]])else k0 a (decide (a>=0)) b
def YL(q5 q6:LL)(a1 a2 b:Int)(m:Bool)(K:QlR R):oP R:=Qle R q6.length a1 q6 a1.toNat λa=>Qb R (wJ (a1+1)) λau=>Qb R (Int.toNat au) λav=>bif m then Qle R q5.length a1 q5 a1.toNat λq=>Qle R q5.length a1 q5 a1.toNat λc=>Qc R (nz (c.length:Int)) λaw=>Ql3 R q (Int.tmod a2 (c.length:Int)) λd=>Qc R (Y9 ([[Ql d,Ql 0]].length*16)) λax=>ZN n a (a.length:Int) (λay az e=>Qle R q5.length au q5 av λx=>Qle R q5.length au q5 av λf=>Qc R (nz (f.length:Int)) λbc=>Ql3 R x (Int.tmod b (f.length:Int)) λg=>Qc R (Y9 ((e.length+[[Ql g,Ql 0]].length)*16)) λbd=>K (e++[[Ql g,Ql 0]]) 0) n 0 [[Ql d,Ql 0]]else Qle R q5.length au q5 av λae=>Qle R q5.length au q5 av λh=>Qc R (nz (h.length:Int)) λbh=>Ql3 R ae (Int.tmod b (h.length:Int)) λi=>Qc R (Y9 ([[Ql i,Ql 1]].length*16)) λbi=>ZT n a (λbj bk j=>Qle R q5.length a1 q5 a1.toNat λam=>Qle R q5.length a1 q5 a1.toNat λk=>Qc R (nz (k.length:Int)) λbn=>Ql3 R am (Int.tmod a2 (k.length:Int)) λl=>Qc R (Y9 ((j.length+[[Ql l,Ql 1]].length)*16)) λbo=>K (j++[[Ql l,Ql 1]]) 0) n (wJ ((a.length:Int)-1)) [[Ql i,Ql 1]]
def Wj(b:LL)(k0:Int->Bool->LL->Int->oP R):Nat->Int->LL->Int->oP R
|0,_,_,_=>none
|m+1,h5,a,c=>bif decide (h5<3)then Qc R (Qm n b c 2 Tu2) λd=>Ql2 R 3 h5 a h5.toNat λg=>Wj b k0 m (wJ (h5+1)) (List.set a h5.toNat (List.set g 0 (Ql d.1))) d.2 else k0 h5 (decide (h5<3)) a c
def QT(k:Bool)(g:Int)(j l o h:LL)(k0:QlZ R):Qm0 R
|0,_,_,_,_=>none
|m+1,a,i,b,t=>bif decide (a<g)then Qb R (wJ (a+1)) λba=>Qa R (decide (ba<g)) λc=>bif !k then Qb R (wJ (wJ (g-1)-a)) λax=>Ql5 R 3 ax j (Int.toNat ax) λz=>Ql5 R 3 (wJ (ax+1)) j (Int.toNat (wJ (ax+1))) λac=>Qc R (YL n l o ax z ac k Tu2) λe=>Qb R [[D.sl 2 e.1,Ql e.2]] λaz=>Qc R (Y9 ((b.length+az.length)*32)) λam=>Qc R (Qm n h t 3 Tu2) λp=>Qb R (Ql (wJ (((List.length (b++az):Nat):Int)-1))) λaw=>bif c then Qc R (Qm n h p.2 6 Tu2) λr=>Qc R (Qm n h r.2 4 Tu2) λu=>Qb R [[aw,Ql p.1,Ql (wJ (5+r.1)),Ql (wJ (wJ (5+r.1)+u.1))]] λbb=>Qc R (Y9 ((i.length+List.length bb)*32)) λan=>QT k g j l o h k0 m ba (i++bb) (b++az) u.2 else Qb R [[aw,Ql p.1,Ql 0,Ql 0]] λbe=>Qc R (Y9 ((i.length+List.length be)*32)) λao=>QT k g j l o h k0 m ba (i++be) (b++az) p.2 else Ql5 R 3 a j a.toNat λag=>Ql5 R 3 ba j (Int.toNat ba) λaj=>Qc R (YL n l o a ag aj k Tu2) λf=>Qb R [[D.sl 2 f.1,Ql f.2]] λay=>Qc R (Y9 ((b.length+ay.length)*32)) λar=>Qc R (Qm n h t 3 Tu2) λq=>Qb R (Ql (wJ (((List.length (b++ay):Nat):Int)-1))) λd=>bif c then Qc R (Qm n h q.2 6 Tu2) λs=>Qc R (Qm n h s.2 4 Tu2) λv=>Qb R [[d,Ql q.1,Ql (wJ (5+s.1)),Ql (wJ (wJ (5+s.1)+v.1))]] λbc=>Qc R (Y9 ((i.length+List.length bc)*32)) λau=>QT k g j l o h k0 m ba (i++bc) (b++ay) v.2 else Qb R [[d,Ql q.1,Ql 0,Ql 0]] λbh=>Qc R (Y9 ((i.length+List.length bh)*32)) λav=>QT k g j l o h k0 m ba (i++bh) (b++ay) q.2 else k0 a (decide (a<g)) i b t
def UU(q5 q6 b:LL)(f:Int)(g c:LL)(h:Bool)(i:Int)(K:Int->LL->LL->oP R):oP R:=Qc R (VL n (bs [78]) (c.length:Int) some) λa=>Qc R (Qm n b f 4 Tu2) λd=>Wj n b (λp q k l=>QT n h i k q5 q6 b (λr s e m o=>Qb R [[D.str a,Ql 0,Ql d.1,D.sl 4 e]] λj=>Qc R (Y9 ((c.length+j.length)*56)) λt=>K o m (c++j)) n 0 [] g l) n 0 [[Ql 0],[Ql 0],[Ql 0]] d.2
def Ms(n:Nat)(p:Int)(q c d r s t u:LL)(a1 a2:Int)(K:QlI R):oP R:=Qlc R d a1 λg=>Ql3 R g a2 λi=>Ql4 R c i λa b=>Qc R a[1]? λv=>Qc R (pSl 2 b) λj=>Qc R (pSl 2 b) λk=>Ql3 R j (wJ ((k.length:Int)-1)) λo=>K o
def Ss(n:Nat)(m:Int)(o a b p q r s:LL)(a1 a2:Int)(K:QlI R):oP R:=Qlc R b a1 λe=>Ql3 R e a2 λg=>QlB R a g λj=>Ql3 R j 0 λl=>K l
def YE(c p:Int)(q r f s t u h:LL)(v:Int)(k0:Qm1 R):Qm2 R
|0,_,_,_,_,_=>none
|m+1,b,i,j,g,y=>bif decide (b<p)then Qc R (Qm n h y 3 Tu2) λa=>Qa R (decide (a.1>0)) λl=>Qlw R 4 c l i c.toNat λaa=>Qd R l (PV aa) λd=>Qa R (Q9 l (!d)) λk=>Qlw R 4 b k j b.toNat λac=>Qd R k (PV ac) λe=>Qa R (Q9 k (!e)) λar=>Qd R ar (inB f.length c) λan=>Qd R ar f[c.toNat]? λad=>Qd R ar ad[3]? λae=>Qd R ar (pSl 4 ae) λag=>Qd R ar (Ms n v q r f s g t u c (wJ ((ag.length:Int)-1)) some) λah=>Qd R ar (Ss n v q r f s g t u b 0 some) λai=>bif Q9 ar (ah==ai)then Ql2 R 4 c i c.toNat λaj=>Ql2 R 4 b j b.toNat λak=>Qc R (Qm n h a.2 10 Tu2) λo=>Qc R (Qm n h o.2 30 Tu2) λx=>Qb R [[Ql c,Ql b,Ql (wJ (10+o.1)),Ql (wJ (wJ (10+o.1)+x.1))]] λau=>Qc R (Y9 ((g.length+au.length)*32)) λaq=>YE c p q r f s t u h v k0 m (wJ (b+1)) (List.set i c.toNat (List.set aj 0 (D.bool true))) (List.set j b.toNat (List.set ak 0 (D.bool true))) (g++au) x.2 else YE c p q r f s t u h v k0 m (wJ (b+1)) i j g a.2 else k0 b (decide (b<p)) i j g y
def U5(a:Int)(h5 h6 h7 b c d e:LL)(f:Int)(k0:Qm1 R):Qm2 R
|0,_,_,_,_,_=>none
|m+1,h2,g,h,i,j=>bif decide (h2<a)then YE n h2 (h7.length:Int) h5 h6 h7 b c d e f (λq r k l o p=>U5 a h5 h6 h7 b c d e f k0 m (wJ (h2+1)) k l o p) n 0 g h i j else k0 h2 (decide (h2<a)) g h i j
def RZ(a:LL)(b c:Int)(d e q4 q5 q6 q7 f:LL)(K:QlT R):oP R:=Qb R [D.bool false] λo=>U5 n (q4.length:Int) d e q4 q5 q7 f a c (λi j k l g h=>K h g) n 0 [o,o,o,o] [o,o,o,o] q6 b
def Q0l(n:Nat)(a0:LL)(K:QlR R):oP R:=K a0 0
def Gj(c g e:LL)(k0:Int->Bool->Int->LL->LL->oP R):QlY R
|0,_,_,_,_=>none
|m+1,d,h,i,j=>bif decide (d>0)then Qc R (Qm n c h 2 Tu2) λk=>Qc R (Qm n c k.2 (e.length:Int) Tu2) λl=>gb true (UU n g e c l.2 i j (k.1==0) (wJ (1+l.1)) Tu3) (0,[],[]) λf=>Gj c g e k0 m (wJ (d-1)) f.1 f.2.1 f.2.2 else k0 d (decide (d>0)) h i j
def Ja(h:Int)(e k l a f o:LL)(k0:Qm3 R):QlX R
|0,_,_,_=>none
|m+1,i,t,g=>Qb R (a.length:Int) λar=>Qa R (Q9 (decide (i>0)) (decide (ar>1))) λb=>bif b then Qc R (Qm n e t ar Tu2) λd=>Qc R (Qm n e d.2 3 Tu2) λs=>Qc R (nz ar) λak=>Ql2 R a.length d.1 a (Int.toNat d.1) λx=>Qc R x[3]? λy=>Qc R (pSl 4 y) λz=>Qc R (Qm n e s.2 (z.length:Int) Tu2) λp=>Qb R (Int.tmod (wJ (d.1+1)) ar) λc=>Ql2 R a.length c a (Int.toNat c) λaa=>Qc R aa[3]? λab=>Qc R (pSl 4 ab) λac=>Qc R (Qm n e p.2 (ac.length:Int) Tu2) λq=>Qc R (Qm n e q.2 20 Tu2) λj=>Qc R (Qm n e j.2 h Tu2) λr=>Qc R (Ms n h k l a g o [] [] d.1 p.1 some) λu=>Ql2 R f.length u f u.toNat λad=>Qc R ad[4]? λae=>Qc R (pIw ae) λag=>Qc R (Ss n h k l a g o [] [] c q.1 some) λv=>Ql2 R f.length v f v.toNat λah=>Qc R ah[4]? λai=>Qc R (pIw ai) λaj=>bif ag==aj then Qb R [[Ql d.1,Ql p.1,Ql c,Ql q.1,Ql j.1,Ql (wJ (j.1+r.1)),Ql s.1]] λaq=>Qc R (Y9 ((g.length+aq.length)*56)) λap=>Ja h e k l a f o k0 m (wJ (i-1)) r.2 (g++aq)else Ja h e k l a f o k0 m (wJ (i-1)) r.2 g else k0 i b t g
def Vf(e a:LL)(k0:Qm3 R):QlX R
|0,_,_,_=>none
|m+1,f,j,g=>bif decide (f>0)then Qb R (a.length:Int) λc=>Qc R (Qm n e j c Tu2) λd=>Qc R (Qm n e d.2 (wJ (c-1)) Tu2) λh=>Qc R (nz c) λk=>Qc R (Qm n e h.2 9 Tu2) λi=>Qb R [[Ql d.1,Ql (Int.tmod (wJ (wJ (d.1+1)+h.1)) c),Ql (wJ (1+i.1))]] λb=>Qc R (Y9 ((g.length+b.length)*24)) λl=>Vf e a k0 m (wJ (f-1)) i.2 (g++b)else k0 f (decide (f>0)) j g
def Hu(e a:LL)(k0:Qm3 R):QlX R
|0,_,_,_=>none
|m+1,f,j,g=>bif decide (f>0)then Qb R (a.length:Int) λc=>Qc R (Qm n e j c Tu2) λd=>Qc R (Qm n e d.2 (wJ (c-1)) Tu2) λh=>Qc R (nz c) λk=>Qc R (Qm n e h.2 9 Tu2) λi=>Qb R [[Ql d.1,Ql (Int.tmod (wJ (wJ (d.1+1)+h.1)) c),Ql (wJ (1+i.1))]] λb=>Qc R (Y9 ((g.length+b.length)*24)) λl=>Hu e a k0 m (wJ (f-1)) i.2 (g++b)else k0 f (decide (f>0)) j g
def SK(a0:LL)(K:Qm9 R):oP R:=Qc R (Q0l n a0 Tu2) λa=>gb true (Q3i n a.1 a.2 Tu8) ([],[],[],[],[],[],[],0) λc=>Qc R (Qm n a.1 c.2.2.2.2.2.2.2 6 Tu2) λd=>Qb R [[Ql 150],[Ql 120],[Ql 180],[Ql 240],[Ql 300],[Ql 90]] λv=>Ql5 R (List.length v) d.1 v (Int.toNat d.1) λe=>Qc R (Qm n a.1 d.2 2 Tu2) λf=>Qc R (Qm n a.1 f.2 4 Tu2) λg=>Qc R (Qm n a.1 g.2 3 Tu2) λh=>Qc R (Qm n a.1 h.2 3 Tu2) λi=>Qc R (Qm n a.1 i.2 3 Tu2) λq=>Gj n a.1 c.2.2.2.2.1 c.2.2.2.2.2.1 (λad ae y k j=>Qb R [[D.str (bs [88]),Ql (wJ (1+f.1)),Ql (wJ (10000+wJ (5000*g.1))),Ql (wJ (400+wJ (200*h.1))),Ql (wJ (400+wJ (200*i.1)))]] λb=>gb true (RZ n a.1 y e b k j [] [] [] [] Tu2) (0,[]) λl=>Qc R (Qm n a.1 l.1 3 Tu2) λr=>Ja n e a.1 b k j c.2.2.1 l.2 (λag ah z s=>Qc R (Qm n a.1 z 4 Tu2) λo=>bif Q9 (o.1==3) (decide ((j.length:Int)>1))then Qc R (Qm n a.1 o.2 e Tu2) λp=>Qb R [[Ql 0,Ql 0,Ql 1,Ql 0,Ql p.1]] λx=>Qc R (Y9 ((List.length ([]:LL)+x.length)*40)) λai=>Qc R (Qm n a.1 p.2 3 Tu2) λt=>Vf n a.1 c.1 (λaj ak al aa=>K c.1 c.2.1 c.2.2.1 c.2.2.2.1 e b k j s l.2 ([]++x) aa) n t.1 t.2 []else Qc R (Qm n a.1 o.2 3 Tu2) λu=>Hu n a.1 c.1 (λam an ao ab=>K c.1 c.2.1 c.2.2.1 c.2.2.2.1 e b k j s l.2 [] ab) n u.1 u.2 []) n r.1 r.2 []) n (wJ (1+q.1)) q.2 [] []
def Vi(n:Nat)(a b:Y UInt8)(K:QlN R):oP R:=K (a==b)
def X3(c:LL)(h2:Int)(d:Y UInt8)(k0:QlI R)(k1:QlJ R):QlK R
|0,_=>none
|m+1,a=>bif decide (a<h2)then Qlu R c a λe f g h i=>Qc R (VA e) λj=>Qlh R f g (Qlh R h i (Qc R (Vi n j d some) λk=>bif k then k0 a else X3 c h2 d k0 k1 m (wJ (a+1))))else k1 a (decide (a<h2))
def XY(a0:LL)(a:Y UInt8)(K:QlI R):oP R:=X3 n a0 (a0.length:Int) a (λb=>K b) (λc d=>K (-1:Int)) n 0
def XN(a0:LL)(a:Y UInt8)(K:QlN R):oP R:=Qc R (XY n a0 a some) λb=>K (decide (b>=0))
def G5(c:LL)(h2:Int)(h5:LL)(k0:QlI R)(k1:QlJ R):QlK R
|0,_=>none
|m+1,a=>bif decide (a<h2)then Qlu R c a λd f g h i=>Qc R (VA d) λj=>Qc R (KW n j some) λk=>bif !k then k0 3 else Qc R (slB h5.length none (some a)) λl=>Qc R (VA d) λe=>Qlr R f g h i λo p q r=>Qc R (XN n (cut h5 l) e some) λs=>bif s then k0 5 else Qc R (UC n e o p q r some) λt=>bif !t then k0 4 else G5 c h2 h5 k0 k1 m (wJ (a+1))else k1 a (decide (a<h2))
def Uc(c d e f:LL)(g:Int)(a h i j k l m:LL)(K:QlI R):oP R:=G5 n a (a.length:Int) a (λb=>K b) (λo p=>K 0) n 0
def W0(n:Nat)(a b:Y UInt8)(K:QlN R):oP R:=K (a==b)
def Qr(c:LL)(h2:Int)(d:Y UInt8)(k0:QlI R)(k1:QlJ R):QlK R
|0,_=>none
|m+1,a=>bif decide (a<h2)then Qll R c a λe f g h=>Qc R (VA e) λi=>Qlh R f g (Qc R (pSl 4 h) λo=>Qc R (W0 n i d some) λj=>bif j then k0 a else Qr c h2 d k0 k1 m (wJ (a+1)))else k1 a (decide (a<h2))
def X9(a0:LL)(a:Y UInt8)(K:QlI R):oP R:=Qr n a0 (a0.length:Int) a (λb=>K b) (λc d=>K (-1:Int)) n 0
def QF(a0:LL)(a:Y UInt8)(K:QlN R):oP R:=Qc R (X9 n a0 a some) λb=>K (decide (b>=0))
def TL(n:Nat)(a0:Int)(K:QlN R):oP R:=K (Q9 (decide (a0>=0)) (decide (a0<=1048576)))
def KQ(n:Nat)(a:Int)(b c d e f g h:LL)(a1 a2:Int)(K:QlN R):oP R:=K (Q9 (Q9 (Q9 (decide (0<=a1)) (decide (a1<=a2))) (decide (a2<=7200))) (decide (a2<wJ (a1+a))))
def TE(n:Nat)(h:Int)(i a j k l m o:LL)(b p q r:Int)(K:QlI R):oP R:=QlB R a b λe=>Ql3 R e 0 λg=>K g
def SC(n:Nat)(k:Int)(l a m o p q r:LL)(b s t u:Int)(K:QlI R):oP R:=QlB R a b λc=>Qlb R a b λg=>Ql3 R c (wJ (wJ ((c.length:Int)-g)-1)) λj=>K j
def Gi(n:Nat)(b:Int)(c d a e f g h:LL)(a1:Int)(K:QlN R):oP R:=K (Q9 (decide (a1>=0)) (decide (a1<(a.length:Int))))
def Ul(c:Int)(d e b f g h i:LL)(a1 a2:Int)(K:QlN R):oP R:=Qc R (Gi n c d e b f g h i a1 some) λa=>Qa R (Q9 a (decide (a2>=0))) λl=>Qd R l (Qi b a1) λj=>Qd R l j[3]? λc3=>Qd R l (pSl 4 c3) λk=>K (Q9 l (decide (a2<(k.length:Int))))
def YZ(v:LL)(h2:Int)(h6:LL)(e:Int)(f g b h i j k:LL)(k0:QlI R)(k1:QlJ R):QlK R
|0,_=>none
|m+1,p=>bif decide (p<h2)then Ql1 R v p λd s x t=>Qla R d λy aa ab=>Qc R d[6]? λac=>QkZ R s x λad ae=>Qc R (Ul n e f g b h i j k ad ae some) λa=>Ql7 R t (!(!a)) y λag ah=>Qd R (!(!a)) (Ul n e f g b h i j k ag ah some) λc=>Qa R (Q8 (!a) (!c)) λcb=>Ql7 R s (!cb) t λl o=>Qa R (Q8 cb (l==o)) λca=>Ql7 R aa (!ca) ab λai aj=>Qd R (!ca) (KQ n e f g b h i j k ai aj some) λu=>Qa R (Q8 ca (!u)) λcc=>Qd R (!cc) (pIw ac) λak=>Qd R (!cc) (TL n ak some) λal=>bif Q8 cc (!al)then k0 4 else Qc R (pIw s) λam=>Qlc R b am λap=>Qc R (pIw x) λaq=>Qll R ap aq λar au av aw=>Qlr R ar au av aw λax ay az ba=>Qc R (SC n e f g b h i j k ax ay az ba some) λbb=>Qc R (Qi h6 bb) λbc=>Qc R bc[4]? λbd=>QkZ R bd t λz be=>Qlc R b be λbi=>Qc R (pIw y) λbj=>Qll R bi bj λbk bl bm bn=>Qlr R bk bl bm bn λbo bp bq br=>Qc R (TE n e f g b h i j k bo bp bq br some) λbt=>Qlj R h6 bt λbz=>bif Q8 (z==(-1:Int)) (z !=bz)then k0 11 else YZ v h2 h6 e f g b h i j k k0 k1 m (wJ (p+1))else k1 p (decide (p<h2))
def WD(k l b m:LL)(c:Int)(d e f a g h i:LL)(K:QlI R):oP R:=YZ n a (a.length:Int) b c d e f a g h i (λj=>K j) (λo p=>K 0) n 0
def ZY(n:Nat)(a b c d:Int)(K:QlN R):oP R:=K (Q8 (a==c) (b==d))
def Qs(c:LL)(h2 d h5:Int)(k0:QlI R)(k1:QlJ R):QlK R
|0,_=>none
|m+1,a=>bif decide (a<h2)then Qll R c a λe f g h=>QkZ R e f λi j=>Qlh R g h (Qc R (ZY n i j d h5 some) λk=>bif k then k0 a else Qs c h2 d h5 k0 k1 m (wJ (a+1)))else k1 a (decide (a<h2))
def Xc(a0:LL)(a b:Int)(K:QlI R):oP R:=Qs n a0 (a0.length:Int) a b (λc=>K c) (λd e=>K (-1:Int)) n 0
def QE(a0:LL)(a b:Int)(K:QlN R):oP R:=Qc R (Xc n a0 a b some) λc=>K (decide (c>=0))
def ZU(r:LL)(h2 b:Int)(h5 h6 h7 c a d e:LL)(k0:QlI R)(k1:QlJ R):QlK R
|0,_=>none
|m+1,f=>bif decide (f<h2)then Qll R r f λs t u v=>Qc R (pIw s) λaa=>Qc R (Gi n b h5 h6 h7 c a d e aa some) λg=>Qd R (!(!g)) (pIw t) λab=>Qd R (!(!g)) (Gi n b h5 h6 h7 c a d e ab some) λi=>Qa R (Q8 (!g) (!i)) λbp=>Ql7 R u (!bp) v λac ad=>Qd R (!bp) (KQ n b h5 h6 h7 c a d e ac ad some) λae=>bif Q8 bp (!ae)then k0 4 else Qc R (slB a.length none (some f)) λag=>QkZ R s t λx y=>Qlh R u v (Qc R (QE n (cut a ag) x y some) λah=>bif ah then k0 5 else Ql9 R h7 x λj ai=>Qlm R j λz=>Ql9 R h7 y λk aj=>Qlm R k λak=>Qc R (pSl 4 z) λal=>Qc R (pSl 4 z) λam=>Qll R al (wJ ((am.length:Int)-1)) λan ao ap aq=>Qlr R an ao ap aq λar au av aw=>Qc R (SC n b h5 h6 h7 c a d e ar au av aw some) λp=>Qc R (pSl 4 ak) λax=>Qll R ax 0 λay az ba bb=>Qlr R ay az ba bb λbc bd be bg=>Qc R (TE n b h5 h6 h7 c a d e bc bd be bg some) λq=>Ql7 R ai (!(p !=q)) aj λbh bi=>bif Q8 (p !=q) (bh !=bi)then k0 11 else ZU r h2 b h5 h6 h7 c a d e k0 k1 m (wJ (f+1)))else k1 f (decide (f<h2))
def V9(j k l m:LL)(b:Int)(c d e f a g h:LL)(K:QlI R):oP R:=ZU n a (a.length:Int) b c d e f a g h (λi=>K i) (λo p=>K 0) n 0
def ZJ(p:LL)(h2 g:Int)(h5 h6 h7 h i j k:LL)(k0:oP R)(k1:QlJ R):QlK R
|0,_=>none
|m+1,c=>bif decide (c<h2)then Qlu R p c λq r s t u=>QkZ R q r λx y=>Qc R (Ul n g h5 h6 h7 h i j k x y some) λa=>Ql7 R s (!(!a)) t λz aa=>Qd R (!(!a)) (Ul n g h5 h6 h7 h i j k z aa some) λb=>Qa R (Q8 (!a) (!b)) λac=>Ql7 R q (!ac) s λe f=>Ql7 R r (!ac&&e==f) t λl o=>Qa R (Q8 ac (Q9 (e==f) (l==o))) λad=>Qd R (!ad) (pIw u) λv=>Qa R (Q8 ad (decide (v<0))) λae=>Qd R (!ae) (pIw u) λab=>bif Q8 ae (decide (ab>=g))then k0 else ZJ p h2 g h5 h6 h7 h i j k k0 k1 m (wJ (c+1))else k1 c (decide (c<h2))
def V0(i j k l:LL)(b:Int)(c d e f g a h:LL)(K:QlI R):oP R:=ZJ n a (a.length:Int) b c d e f g a h (K 4) (λm o=>K 0) n 0
def YY(n:Nat)(l:LL)(h2:Int)(a:LL)(k0:oP R)(k1:QlJ R):QlK R
|0,_=>none
|m+1,e=>bif decide (e<h2)then Qlf R l e λh i o=>Qc R (pIw h) λb=>Qd R (!(decide (b<0))) (pIw h) λc=>Qa R (Q8 (decide (b<0)) (decide (c>=(a.length:Int)))) λs=>Qd R (!s) (pIw i) λd=>Qa R (Q8 s (decide (d<0))) λu=>Qd R (!u) (pIw i) λf=>Qa R (Q8 u (decide (f>=(a.length:Int)))) λr=>Ql7 R h (!r) i λj k=>Qd R (!(Q8 r (j==k))) (pIw o) λp=>Qa R (Q8 (Q8 r (j==k)) (decide (p<1))) λt=>Qd R (!t) (pIw o) λq=>bif Q8 t (decide (q>1048576))then k0 else YY n l h2 a k0 k1 m (wJ (e+1))else k1 e (decide (e<h2))
def Ww(b c d e:LL)(f:Int)(g h i j k l a:LL)(K:QlI R):oP R:=YY n a (a.length:Int) b (K 4) (λm o=>K 0) n 0
def Uj(n:Nat)(b:Int)(d e:D)(k0:QlL R):QlM R
|0,_,_=>none
|m+1,a,c=>Qc R (pIw d) λf=>bif decide (a<f)then Qc R (pIw e) λg=>Qc R (Y9 ((c.length+[[Ql g,Ql b]].length)*16)) λh=>Uj n b d e k0 m (wJ (a+1)) (c++[[Ql g,Ql b]])else k0 a (decide (a<f)) c
def Ut(h5 h7:LL)(b:Int)(k0:QlL R):QlM R
|0,_,_=>none
|m+1,h2,c=>Qa R (decide (h2<wJ ((h7.length:Int)-b))) λy=>bif y then Ql3 R h7 h2 λi=>Ql9 R h5 i λa d=>Qlx R a λe j=>Qc R a[4]? λs=>Qc R (pIw j) λf=>Qlb R h7 h2 λo=>bif o==1 then Uj n (wJ (0-f)) d e (λt u p=>Ut h5 h7 b k0 m (wJ (h2+1)) p) n 0 c else Uj n f d e (λv x q=>Ut h5 h7 b k0 m (wJ (h2+1)) q) n 0 c else k0 h2 y c
def Sw(f g a h b:LL)(c:Int)(K:QlV R):oP R:=Qc R (J9 n f g a h b c some) λd=>bif d !=0 then K [] 0 d else Ut n a b c (λp q e=>bif decide ((e.length:Int)>4000)then K [] 0 7 else Ql3 R b 0 λk=>Qlb R a k λo=>K e o 0) n 0 []
def Ye(i:Y UInt8)(d e f g:Int)(K:QlN R):oP R:=Qc R (HR n d 1 40 some) λa=>Qd R a (HR n e 1000 100000 some) λb=>Qd R (Q9 a b) (HR n f 100 2000 some) λc=>Qd R (Q9 (Q9 a b) c) (HR n g 100 2000 some) λh=>K (Q9 (Q9 (Q9 a b) c) h)
def Gs(n:Nat)(h6 b:LL)(c d:Int)(k0:oP R)(k1:QlJ R):QlK R
|0,_=>none
|m+1,a=>Qa R (decide (a<wJ ((b.length:Int)-c))) λk=>bif k then Ql3 R b a λg=>Qlb R h6 g λj=>bif decide (j<(if 2<d then d else 2))then k0 else Gs n h6 b c d k0 k1 m (wJ (a+1))else k1 a k
def ST(g h c i d:LL)(e:Int)(j:Y UInt8)(f k l m:Int)(K:QlI R):oP R:=Qc R (Sw n g h c i d e Tu3) λa=>bif a.2.2 !=0 then K a.2.2 else Qc R (Ye n j f k l m some) λb=>bif !b then K 1 else Gs n c d e f (K 12) (λp q=>K 0) n 0
def Gn(n:Nat)(h5:LL)(k0:oP R)(k1:QlJ R):QlK R
|0,_=>none
|m+1,a=>Qa R (decide (a<(h5.length:Int))) λe=>bif e then Qlc R h5 a λd=>bif decide ((d.length:Int)>12)then k0 else Gn n h5 k0 k1 m (wJ (a+1))else k1 a e
def Fy(h:Int)(b c a d e f g:LL)(K:QlN R):oP R:=bif Q8 (Q8 (Q8 (Q8 (Q8 (Q8 (decide ((b.length:Int)>8)) (decide ((c.length:Int)>48))) (decide ((a.length:Int)>16))) (decide ((d.length:Int)>32))) (decide ((e.length:Int)>32))) (decide ((f.length:Int)>32))) (decide ((g.length:Int)>32))then K true else Gn n a (K true) (λi j=>K false) n 0
def VR(n:Nat)(a0 a1 a2:Int)(K:QlN R):oP R:=K (Q9 (decide (a0>=a1)) (decide (a0<=a2)))
def Ka(n:Nat)(h5:Int)(a:LL)(k0:oP R)(k1:QlJ R):QlK R
|0,_=>none
|m+1,h6=>bif decide (h6<h5)then Ql8 R a h6 λd=>Ql8 R a h5 λg=>bif d==g then k0 else Ka n h5 a k0 k1 m (wJ (h6+1))else k1 h6 (decide (h6<h5))
def GN(s:Int)(b t u v x y z:LL)(a1:Int)(K:QlI R):oP R:=Ql8 R b a1 λe=>Qc R (Ml n e some) λf=>bif !f then K 3 else Ka n a1 b (K 5) (λaa ab=>Qlu R b a1 λg h i j k=>Qc R (VA g) λl=>Qlr R h i j k λm o p q=>Qc R (Ye n l m o p q some) λr=>bif !r then K 4 else K 0) n 0
def KH(n:Nat)(a:Int)(b c d e f g h:LL)(a1 a2:Int)(K:QlN R):oP R:=K (Q9 (Q9 (Q9 (decide (a1>=0)) (decide (a1<=a2))) (decide (a2<wJ (a1+a)))) (decide (a2<=7200)))
def VO(n:Nat)(a:LL)(e:Int)(K:QlI R):oP R:=Ql3 R a 0 λd=>K d
def JI(n:Nat)(a:LL)(b:Int)(K:QlI R):oP R:=Ql3 R a (wJ (wJ ((a.length:Int)-b)-1)) λe=>K e
def WG(n:Nat)(b:Int)(c:LL)(d:D)(k0:oP R)(k1:QlJ R):QlK R
|0,_=>none
|m+1,a=>bif decide (a<b)then Ql8 R c a λg=>Qc R (VA d) λh=>bif g==h then k0 else WG n b c d k0 k1 m (wJ (a+1))else k1 a (decide (a<b))
def Wy(o p q r:LL)(h:Int)(i c s t u v x:LL)(y e:D)(k0:QlI R)(k1:QlJ R):QlK R
|0,_=>none
|m+1,a=>Qc R (pSl 4 e) λz=>Qa R (decide (a<(z.length:Int))) λcf=>bif cf then Qc R (pSl 4 e) λai=>Qll R ai a λj aj aa ab=>Qc R (pSl 4 e) λk=>Qc R (pIw j) λak=>Qc R (VR n ak 0 (wJ ((c.length:Int)-1)) some) λb=>Qd R (!(!b)) (pIw aj) λal=>Qd R (!(!b)) (VR n al 0 (wJ (h-1)) some) λd=>Qa R (Q8 (!b) (!d)) λcc=>Ql7 R aa (!cc) ab λam an=>Qd R (!cc) (KH n h i c s t u v x am an some) λl=>Qa R (a==wJ ((k.length:Int)-1)) λce=>Qa R (Q8 cc (!l)) λcg=>Qd R (!cg&&ce) (pIw aa) λac=>Qd R (!cg&&ce&&!(ac !=0)) (pIw ab) λao=>bif Q8 cg (Q9 ce (Q8 (ac !=0) (ao !=0)))then k0 4 else QlF R j c λaq ar=>Ql6 R y i aq ar λba bb bc bd be bg bh=>Qc R (ST n o p q r ba bb bc bd be bg bh some) λae=>bif ae !=0 then k0 ae else Qa R (decide (a>0)) λcb=>Qd R cb (pIw j) λbi=>Qd R cb (Qi c bi) λag=>QlE R ag cb λbj bk=>Qd R cb (pSl 2 bj) λbl=>Qd R cb (pIw bk) λbm=>Qd R cb (VO n bl bm some) λbn=>Qd R cb (pSl 4 e) λbo=>QlA R bo (wJ (a-1)) cb λbr=>Qd R cb (Qi c br) λah=>QlE R ah cb λbt bu=>Qd R cb (pSl 2 bt) λbv=>Qd R cb (pIw bu) λbz=>Qd R cb (JI n bv bz some) λca=>bif Q9 cb (bn !=ca)then k0 11 else Wy o p q r h i c s t u v x y e k0 k1 m (wJ (a+1))else k1 a cf
def Hb(f g h i:LL)(j:Int)(d k b l m o p:LL)(a2:Int)(K:QlI R):oP R:=Qll R b a2 λe c3 q c5=>Qc R (VA e) λr=>Qc R (Ml n r some) λs=>bif !s then K 3 else WG n a2 b e (K 5) (λz aa=>Qc R (pIw c3) λt=>Qc R (VR n t 0 (wJ ((d.length:Int)-1)) some) λc=>Qd R (!(!c)) (pIw q) λu=>Qd R (!(!c)) (VR n u 0 1048576 some) λv=>bif Q8 (!c) (!v)then K 4 else Qc R (pSl 4 c5) λx=>bif (x.length:Int)==0 then K 1 else Wy n f g h i j d k b l m o p c3 c5 (λy=>K y) (λab ac=>K 0) n 0) n 0
def JO(f:Int)(g h b i j k l:LL)(a1 a2:Int)(K:QlN R):oP R:=Qc R (VR n a1 0 (wJ ((b.length:Int)-1)) some) λa=>Qd R a (Qi b a1) λc=>Qd R a c[3]? λc3=>Qd R a (pSl 4 c3) λd=>Qd R a (VR n a2 0 (wJ ((d.length:Int)-1)) some) λe=>K (Q9 a e)
def XG(n:Nat)(k:Int)(l b c m o p q:LL)(a1 a2:Int)(K:D->D->oP R):oP R:=Qlc R c a1 λf=>Ql3 R f a2 λh=>Qld R b h λi j=>K i j
def HX(am an o ao:LL)(b:Int)(c d e f g h i:LL)(j p k q v x y:Int)(K:QlI R):oP R:=Qc R (JO n b c d e f g h i j p some) λa=>Qd R (!(!a)) (JO n b c d e f g h i k q some) λl=>Qa R (Q8 (Q8 (!a) (!l)) (j==k)) λaa=>Qd R (!aa) (KH n b c d e f g h i v x some) λr=>Qd R (!(Q8 aa (!r))) (VR n y 0 1048576 some) λz=>bif Q8 (Q8 aa (!r)) (!z)then K 4 else Qc R (XG n b c d e f g h i j p Tu2) λs=>Qlo R s.1 s.2 λl6 i7=>Qc R (JI n l6 i7 some) λr8=>Qlj R o r8 λt=>Qc R (XG n b c d e f g h i k q Tu2) λu=>Qlo R u.1 u.2 λag ah=>Qc R (VO n ag ah some) λai=>Qlj R o ai λal=>bif Q8 (decide (t<0)) (t !=al)then K 11 else K 0
def WH(n:Nat)(d:Int)(e:LL)(f g:D)(k0:oP R)(k1:QlJ R):QlK R
|0,_=>none
|m+1,a=>bif decide (a<d)then Ql0 R e a λi=>QkZ R i f λb c=>Qa R (b==c) λp=>Qd R (!p) (Qi e a) λj=>Qd R (!p) j[1]? λk=>Ql7 R k (!p) g λl o=>bif Q8 p (l==o)then k0 else WH n d e f g k0 k1 m (wJ (a+1))else k1 a (decide (a<d))
def Hi(i:Int)(j k b l d m o:LL)(a1:Int)(K:QlI R):oP R:=Qll R d a1 λe c3 u c5=>Qc R (pIw e) λv=>Qb R (wJ ((b.length:Int)-1)) λay=>Qc R (VR n v 0 ay some) λc=>Qd R (!(!c)) (pIw c3) λx=>Qd R (!(!c)) (VR n x 0 ay some) λf=>Qa R (Q8 (!c) (!f)) λp=>Ql7 R u (!p) c5 λy z=>Qd R (!p) (KH n i j k b l d m o y z some) λaa=>bif Q8 p (!aa)then K 4 else WH n a1 d e c3 (K 5) (λap aq=>Qc R (pIw e) λab=>Ql9 R b ab λg ac=>Qlm R g λad=>Qc R (pIw c3) λae=>Ql9 R b ae λh ag=>Qc R h[2]? λaw=>Qc R h[3]? λax=>Qc R (pIw e) λah=>Qc R (pSl 4 ad) λai=>Qc R (XG n i j k b l d m o ah (wJ ((ai.length:Int)-1)) Tu2) λs=>Qlo R s.1 s.2 λaj ak=>Qc R (JI n aj ak some) λq=>Qc R (pIw c3) λi64=>Qc R (XG n i j k b l d m o i64 0 Tu2) λt=>Qlo R t.1 t.2 λal am=>Qc R (VO n al am some) λr=>Ql7 R ac (!(q !=r)) ag λan ao=>bif Q8 (q !=r) (an !=ao)then K 11 else K 0) n 0
def WC(c:Int)(b d e f g h i:LL)(k0:QlI R)(k1:QlJ R):QlK R
|0,_=>none
|m+1,a=>Qa R (decide (a<(b.length:Int))) λk=>bif k then Qc R (GN n c b d e f g h i a some) λj=>bif j !=0 then k0 j else WC c b d e f g h i k0 k1 m (wJ (a+1))else k1 a k
def Wx(c d e f b:LL)(k0:QlI R)(k1:QlJ R):QlK R
|0,_=>none
|m+1,a=>Qa R (decide (a<(b.length:Int))) λo=>bif o then Qld R b a λi j=>Qlo R i j λk l=>Qc R (J9 n c d e f k l some) λh=>bif h !=0 then k0 h else Wx c d e f b k0 k1 m (wJ (a+1))else k1 a o
def WB(c d e f:LL)(g:Int)(h i b j k l o:LL)(k0:QlI R)(k1:QlJ R):QlK R
|0,_=>none
|m+1,a=>Qa R (decide (a<(b.length:Int))) λq=>bif q then Qc R (Hb n c d e f g h i b j k l o a some) λp=>bif p !=0 then k0 p else WB c d e f g h i b j k l o k0 k1 m (wJ (a+1))else k1 a q
def Zl(d e f g:LL)(h:Int)(i j k b l o p:LL)(k0:QlI R)(k1:QlJ R):QlK R
|0,_=>none
|m+1,c=>Qa R (decide (c<(b.length:Int))) λah=>bif ah then Ql1 R b c λa r s t=>Qla R a λu v x=>Qc R a[6]? λy=>Qlr R r s t u λz aa ab ac=>Qlt R v x y λad ae ag=>Qc R (HX n d e f g h i j k b l o p z aa ab ac ad ae ag some) λq=>bif q !=0 then k0 q else Zl d e f g h i j k b l o p k0 k1 m (wJ (c+1))else k1 c ah
def Zf(c:Int)(d e f g b h i:LL)(k0:QlI R)(k1:QlJ R):QlK R
|0,_=>none
|m+1,a=>Qa R (decide (a<(b.length:Int))) λk=>bif k then Qc R (Hi n c d e f g b h i a some) λj=>bif j !=0 then k0 j else Zf c d e f g b h i k0 k1 m (wJ (a+1))else k1 a k
def Zb(h:Int)(i j k l o c p:LL)(k0:oP R)(k1:QlJ R):QlK R
|0,_=>none
|m+1,d=>Qa R (decide (d<(c.length:Int))) λah=>bif ah then Qlu R c d λs t u v x=>QkZ R s t λy z=>Qc R (JO n h i j k l o c p y z some) λa=>Ql7 R u (!(!a)) v λaa ab=>Qd R (!(!a)) (JO n h i j k l o c p aa ab some) λb=>Qa R (Q8 (!a) (!b)) λae=>Ql7 R s (!ae) u λf g=>Ql7 R t (!ae&&f==g) v λq r=>Qa R (Q8 ae (Q9 (f==g) (q==r))) λag=>Qd R (!ag) (pIw x) λac=>Qd R (!ag) (VR n ac 0 (wJ (h-1)) some) λad=>bif Q8 ag (!ad)then k0 else Zb h i j k l o c p k0 k1 m (wJ (d+1))else k1 d ah
def Zh(e d:LL)(k0:oP R)(k1:QlJ R):QlK R
|0,_=>none
|m+1,b=>Qa R (decide (b<(d.length:Int))) λs=>bif s then Qlf R d b λi j k=>Qc R (pIw i) λl=>Qb R (wJ ((e.length:Int)-1)) λu=>Qc R (VR n l 0 u some) λa=>Qd R (!(!a)) (pIw j) λo=>Qd R (!(!a)) (VR n o 0 u some) λc=>Qa R (Q8 (!a) (!c)) λr=>Ql7 R i (!r) j λg h=>Qa R (Q8 r (g==h)) λt=>Qd R (!t) (pIw k) λp=>Qd R (!t) (VR n p 1 1048576 some) λq=>bif Q8 t (!q)then k0 else Zh e d k0 k1 m (wJ (b+1))else k1 b s
def Wl(i j k l:LL)(a:Int)(d b e f g h c:LL)(K:QlI R):oP R:=Qc R (VJ n i j k l some) λm=>bif m !=0 then K 1 else Qc R (Fy n a d b e f g h c some) λo=>bif o then K 7 else Qc R (VR n a 2 7200 some) λp=>bif !p then K 4 else WC n a d b e f g h c (λq=>K q) (λv x=>Wx n i j k l b (λr=>K r) (λy z=>WB n i j k l a d b e f g h c (λs=>K s) (λaa ab=>Zl n i j k l a d b e f g h c (λt=>K t) (λac ad=>Zf n a d b e f g h c (λu=>K u) (λae ag=>Zb n a d b e f g h c (K 4) (λah ai=>Zh n i c (K 4) (λaj ak=>K 0) n 0) n 0) n 0) n 0) n 0) n 0) n 0
def Vs(n:Nat)(b:Int)(k0:QlQ R):QlS R
|0,_,_=>none
|m+1,h2,a=>bif decide (a>0)then Qb R (wJ (h2+a)) λf=>Qc R (nz f) λc=>bif decide (f<=wJ (Int.tdiv b f))then Qc R (Aw 1) λd=>Vs n b k0 m f (shR .i64 a 1)else Qc R (Aw 1) λe=>Vs n b k0 m h2 (shR .i64 a 1)else k0 h2 a (decide (a>0))
def SB(a0:Int)(K:QlI R):oP R:=Vs n a0 (λa b c=>K a) n 0 2147483648
def J3(n:Nat)(b:Int)(k0:QlQ R):QlS R
|0,_,_=>none
|m+1,h2,a=>bif decide (h2<a)then Qc R (nz 2) λc=>Qb R (wJ (Int.tdiv (wJ (wJ (h2+a)+1)) 2)) λd=>bif decide (wJ (d*d)<=b)then J3 n b k0 m d a else J3 n b k0 m h2 (wJ (d-1))else k0 h2 a (decide (h2<a))
def MB(a0:Int)(K:QlI R):oP R:=bif decide (a0<=0)then K 0 else J3 n a0 (λa b c=>K a) n 0 3037000499
def YW(n:Nat)(c:LL)(h5:Int)(k0:oP R)(k1:QlJ R):QlK R
|0,_=>none
|m+1,h6=>bif decide (h6<h5)then Qld R c h6 λe f=>Qc R (pIw e) λa=>Qa R (decide (a<1000)) λk=>Qd R (!k) (pIw e) λb=>Qa R (Q8 k (decide (b>100000))) λi=>Qd R (!i) (pIw f) λg=>Qa R (Q8 i (decide (g<(-40:Int)))) λj=>Qd R (!j) (pIw f) λh=>bif Q8 j (decide (h>40))then k0 else YW n c h5 k0 k1 m (wJ (h6+1))else k1 h6 (decide (h6<h5))
def Jq(a0:LL)(a1:Int)(a:Y UInt8)(b c d e:Int)(K:QlI R):oP R:=Qc R (UC n a b c d e some) λf=>bif !f then K 1 else Qb R (a0.length:Int) λi=>bif decide (i>4000)then K 7 else YW n a0 i (K 4) (λg h=>bif Q8 (decide (a1<0)) (decide (a1>wJ (i-2)))then K 4 else K 0) n 0
def WF(n:Nat)(b:LL)(a:Int)(k0:QlQ R):QlS R
|0,_,_=>none
|m+1,h2,h5=>bif decide (h5<a)then Ql4 R b h5 λc aa=>Qc R c[1]? λe=>Qc R (pIw aa) λd=>WF n b a k0 m (if d<h2 then d else h2) (wJ (h5+1))else k0 h2 h5 (decide (h5<a))
def JV(a0:LL)(a1:Int)(d:Y UInt8)(a b e f:Int)(K:QlI R):oP R:=Qc R (slB a0.length (some (if 0<wJ (a1-a)then wJ (a1-a)else 0)) (some (wJ (a1+1)))) λq1=>WF n (cut a0 q1) ((List.length (cut a0 q1):Nat):Int) (λc g h=>K c) n b 0
def Tq(n:Nat)(c a:Int)(d:Y UInt8)(e f b g:Int)(K:QlI R):oP R:=bif decide (a>0)then K (wJ (20000*(if 50<wJ (b-wJ (10*a))then wJ (b-wJ (10*a))else 50)))else K (wJ (20000*b))
def Te(n:Nat)(c a:Int)(d:Y UInt8)(e f g b:Int)(K:QlI R):oP R:=bif decide (a<0)then K (wJ (20000*(if 50<wJ (b+wJ (10*a))then wJ (b+wJ (10*a))else 50)))else K (wJ (20000*b))
def YF(d:LL)(h5 h6:Int)(e:Y UInt8)(f g h i:Int)(k0:Qm4 R):QlX R
|0,_,_,_=>none
|m+1,h7,a,c=>bif decide (a<h6)then Qc R (JV n d a e f g h i some) λb=>Ql5 R c.length (wJ (wJ (a-1)-h5)) c (Int.toNat (wJ (wJ (a-1)-h5))) λj=>Qld R d (wJ (a-1)) λq r=>QkZ R q r λs t=>Qc R (Tq n s t e f g h i some) λl=>Qc R (inB c.length (wJ (a-h5))) λx=>Qb R (Int.toNat (wJ (a-h5))) λz=>Qc R c[z]? λu=>Qb R (wJ ((if b<h7 then b else h7)*(if b<h7 then b else h7))) λy=>YF d h5 h6 e f g h i k0 m b (wJ (a+1)) (List.set c z (List.set u 0 (Ql (if wJ (j+l)<y then wJ (j+l)else y))))else k0 h7 a (decide (a<h6)) c
def Ze(d:LL)(b:Int)(e:Y UInt8)(f g h i:Int)(k0:QlL R):QlM R
|0,_,_=>none
|m+1,a,c=>bif decide (a>b)then Qc R (inB c.length (wJ (a-b))) λz=>Qb R (Int.toNat (wJ (a-b))) λac=>Qc R c[ac]? λp=>Qc R p[0]? λq=>Qc R (pIw q) λj=>Ql5 R c.length (wJ (wJ (a+1)-b)) c (Int.toNat (wJ (wJ (a+1)-b))) λk=>Qld R d a λt u=>QkZ R t u λv x=>Qc R (Te n v x e f g h i some) λo=>Ql2 R c.length (wJ (a-b)) c ac λy=>Ze d b e f g h i k0 m (wJ (a-1)) (List.set c ac (List.set y 0 (Ql (if wJ (k+o)<j then wJ (k+o)else j))))else k0 a (decide (a>b)) c
def G4(a0:LL)(a1:Int)(a:Y UInt8)(b c d e:Int)(K:QlO R):oP R:=Qb R (a0.length:Int) λr=>Qb R (wJ (wJ (r-a1)+1)) λq=>gb true (bif decide (0<=q)&&decide (q<=q)then some ()else none) () λi=>Qc R (Y9 (Int.toNat q*8)) λj=>Qc R (JV n a0 a1 a b c d e some) λf=>YF n a0 a1 r a b c d e (λk l m g=>Ze n a0 a1 a b c d e (λo p h=>K h) n (wJ (r-1)) g) n f (wJ (a1+1)) (List.replicate (Int.toNat q) [Ql 0])
def ZR(b:Int)(k0:QlL R):QlM R
|0,_,_=>none
|m+1,a,h5=>bif decide (a<b)then Ql5 R h5.length a h5 a.toNat λe=>Qc R (SB n e some) λf=>Ql2 R h5.length a h5 a.toNat λg=>ZR b k0 m (wJ (a+1)) (List.set h5 a.toNat (List.set g 0 (Ql f)))else k0 a (decide (a<b)) h5
def GG(a0:LL)(a1:Int)(a:Y UInt8)(b c d e:Int)(K:QlR R):oP R:=Qc R (Jq n a0 a1 a b c d e some) λf=>bif f !=0 then K [] f else Qc R (G4 n a0 a1 a b c d e some) λg=>ZR n (g.length:Int) (λi j h=>K h 0) n 0 g
def K9(n:Nat)(a0 a1:Int)(K:QlP R):oP R:=bif decide (a1<1)then K 0 1 else Qly R a1 (Qb R (wJ (Int.tdiv a0 a1)) λc=>bif decide (Int.tmod a0 a1>0)then K (wJ (c+1)) 0 else K c 0)
def WI(a:LL)(k0:QlL R):QlM R
|0,_,_=>none
|m+1,h5,h6=>Qa R (decide (h5<(a.length:Int))) λh=>bif h then Qb R (wJ (h5-1)) λi=>Ql3 R a i λd=>Ql3 R a h5 λg=>Qc R (K9 n 20000000 (wJ (d+g)) Tu2) λj=>Ql5 R h6.length i h6 (Int.toNat i) λo=>Ql2 R h6.length h5 h6 h5.toNat λp=>WI a k0 m (wJ (h5+1)) (List.set h6 h5.toNat (List.set p 0 (Ql (wJ (o+j.1)))))else k0 h5 h h6
def JH(a0:LL)(a1:Int)(b:Y UInt8)(c d e f:Int)(K:QlR R):oP R:=Qc R (GG n a0 a1 b c d e f Tu2) λa=>bif a.2 !=0 then K [] a.2 else Qb R (a.1.length:Int) λg=>gb true (bif decide (0<=g)&&decide (g<=g)then some ()else none) () λi=>Qc R (Y9 (Int.toNat g*8)) λj=>WI n a.1 (λk l h=>K h 0) n 1 (List.replicate (Int.toNat g) [Ql 0])
def KI(h2:LL)(k0:oP R)(k1:QlJ R):QlK R
|0,_=>none
|m+1,a=>Qa R (decide (a<(h2.length:Int))) λj=>bif j then Ql3 R h2 a λe=>Qc R (HR n e 1000 100000 some) λb=>Qls R h2 a (!(!b)) λh=>Qd R (!(!b)) (HR n h (-40:Int) 40 some) λi=>bif Q8 (!b) (!i)then k0 else KI h2 k0 k1 m (wJ (a+1))else k1 a j
def Bo(a0:LL)(a1:Int)(a:Y UInt8)(b c d e:Int)(K:QlI R):oP R:=Qc R (Ye n a b c d e some) λf=>bif !f then K 1 else bif decide ((a0.length:Int)>4000)then K 7 else KI n a0 (K 4) (λg h=>bif Q8 (decide (a1<0)) (decide (a1>wJ ((a0.length:Int)-2)))then K 4 else K 0) n 0
def Jf(n:Nat)(c:LL)(h2:Int)(k0:QlQ R):QlS R
|0,_,_=>none
|m+1,b,a=>bif decide (a<=h2)then Ql3 R c a λd=>Jf n c h2 k0 m (if d<b then d else b) (wJ (a+1))else k0 b a (decide (a<=h2))
def Sm(a0:LL)(a1:Int)(d:Y UInt8)(a b e f:Int)(K:QlI R):oP R:=Jf n a0 a1 (λc g h=>K c) n b (if 0<wJ (a1-a)then wJ (a1-a)else 0)
def MZ(n:Nat)(c a:Int)(d:Y UInt8)(e f b g:Int)(K:QlI R):oP R:=bif decide (a>0)then K (if 50<wJ (b-wJ (10*a))then wJ (b-wJ (10*a))else 50)else K b
def MW(n:Nat)(c a:Int)(d:Y UInt8)(e f g b:Int)(K:QlI R):oP R:=bif decide (a<0)then K (if 50<wJ (b+wJ (10*a))then wJ (b+wJ (10*a))else 50)else K b
def UK(d:LL)(h5 h6:Int)(e:Y UInt8)(f g h i:Int)(k0:QlL R):QlM R
|0,_,_=>none
|m+1,h7,a=>bif decide (h7<h6)then Qc R (Sm n d (wJ (wJ (h5+h7)-1)) e f g h i some) λb=>Qc R (Sm n d (wJ (h5+h7)) e f g h i some) λc=>Ql2 R a.length h7 a h7.toNat λj=>UK d h5 h6 e f g h i k0 m (wJ (h7+1)) (List.set a h7.toNat (List.set j 0 (Ql (wJ ((if c<b then c else b)*(if c<b then c else b))))))else k0 h7 (decide (h7<h6)) a
def UP(d:LL)(e c:Int)(f:Y UInt8)(g h i j:Int)(k0:QlL R):QlM R
|0,_,_=>none
|m+1,a,b=>bif decide (a<c)then Qb R (wJ (a+1)) λac=>Qc R (inB b.length ac) λz=>Qb R (Int.toNat ac) λad=>Qc R b[ad]? λq=>Qc R q[0]? λr=>Qc R (pIw r) λk=>Ql5 R b.length a b a.toNat λl=>Qld R d (wJ (e+a)) λu v=>QkZ R u v λx i64=>Qc R (MZ n x i64 f g h i j some) λp=>Ql2 R b.length ac b ad λy=>UP d e c f g h i j k0 m ac (List.set b ad (List.set y 0 (Ql (if wJ (l+wJ (20000*p))<k then wJ (l+wJ (20000*p))else k))))else k0 a (decide (a<c)) b
def US(c:LL)(d:Int)(e:Y UInt8)(f g h i:Int)(k0:QlL R):QlM R
|0,_,_=>none
|m+1,a,b=>bif decide (a>0)then Qb R (wJ (a-1)) λac=>Qc R (inB b.length ac) λz=>Qb R (Int.toNat ac) λad=>Qc R b[ad]? λp=>Qc R p[0]? λq=>Qc R (pIw q) λj=>Ql5 R b.length a b a.toNat λk=>Qld R c (wJ (wJ (d+a)-1)) λt u=>QkZ R t u λv x=>Qc R (MW n v x e f g h i some) λo=>Ql2 R b.length ac b ad λy=>US c d e f g h i k0 m ac (List.set b ad (List.set y 0 (Ql (if wJ (k+wJ (20000*o))<j then wJ (k+wJ (20000*o))else j))))else k0 a (decide (a>0)) b
def VK(c:Int)(k0:QlL R):QlM R
|0,_,_=>none
|m+1,a,b=>bif decide (a<=c)then Ql5 R b.length a b a.toNat λf=>Qc R (MB n f some) λg=>Ql2 R b.length a b a.toNat λh=>VK c k0 m (wJ (a+1)) (List.set b a.toNat (List.set h 0 (Ql g)))else k0 a (decide (a<=c)) b
def RG(a0:LL)(a1:Int)(a:Y UInt8)(b c d e:Int)(K:QlR R):oP R:=Qc R (Bo n a0 a1 a b c d e some) λf=>bif f !=0 then K [] f else Qb R (wJ ((a0.length:Int)-a1)) λv=>Qb R (wJ (v+1)) λx=>gb true (bif decide (0<=x)&&decide (x<=x)then some ()else none) () λk=>Qc R (Y9 (Int.toNat x*8)) λl=>UK n a0 a1 v a b c d e (λm o g=>UP n a0 a1 v a b c d e (λp q h=>US n a0 a1 a b c d e (λr s i=>VK n v (λt u j=>K j 0) n 0 i) n v h) n 0 g) n 1 (List.replicate (Int.toNat x) [Ql 0])
def JE(n:Nat)(a0 a1:Int)(K:QlI R):oP R:=Qly R a1 (Qb R (wJ (Int.tdiv a0 a1)) λc=>bif decide (Int.tmod a0 a1>0)then K (wJ (c+1))else K c)
def Jm(a:LL)(k0:QlL R):QlM R
|0,_,_=>none
|m+1,h5,h6=>Qa R (decide (h5<(a.length:Int))) λq=>bif q then Qb R (wJ (h5-1)) λr=>Ql5 R h6.length r h6 (Int.toNat r) λd=>Ql3 R a r λg=>Ql3 R a h5 λj=>Qc R (JE n 20000000 (wJ (g+j)) some) λk=>Ql2 R h6.length h5 h6 h5.toNat λl=>Jm a k0 m (wJ (h5+1)) (List.set h6 h5.toNat (List.set l 0 (Ql (wJ (d+k)))))else k0 h5 q h6
def Sb(a0:LL)(a1:Int)(b:Y UInt8)(c d e f:Int)(K:QlR R):oP R:=Qc R (RG n a0 a1 b c d e f Tu2) λa=>bif a.2 !=0 then K [] a.2 else Qb R (a.1.length:Int) λg=>gb true (bif decide (0<=g)&&decide (g<=g)then some ()else none) () λi=>Qc R (Y9 (Int.toNat g*8)) λj=>Jm n a.1 (λk l h=>K h 0) n 1 (List.replicate (Int.toNat g) [Ql 0])
def G6(a0:Int)(K:QlI R):oP R:=Qc R (K9 n a0 1000 Tu2) λa=>K a.1
def PG(n:Nat)(a0 a1:Int)(K:QlP R):oP R:=bif decide (a1<1)then K 0 1 else Qly R a1 (Qb R (wJ (Int.tdiv a0 a1)) λc=>bif decide (Int.tmod a0 a1<0)then K (wJ (c-1)) 0 else K c 0)
def Vq(a0:Int)(K:QlI R):oP R:=Qc R (PG n a0 1000 Tu2) λa=>K a.1
def Jl(n:Nat)(c a b d:LL)(K:QlO R):oP R:=Qb R (wJ ((b.length:Int)+(a.length:Int))) λg=>gb true (bif decide (0<=g)&&decide (g<=g)then some ()else none) () λe=>Qc R (Y9 (Int.toNat g*24)) λf=>K (List.replicate (Int.toNat g) [Ql 0,Ql 0,Ql 0])
def XI(n:Nat)(a:LL)(a1 a2 b:Int)(K:QlO R):oP R:=Qln R a.length a1 a a1.toNat λf=>Qc R a[a1.toNat]? λg=>Qlk R g λh=>bif decide (f<h)then Qc R a[a1.toNat]? λi=>Qc R i[1]? λj=>Qc R (pIw j) λc=>Qc R a[a1.toNat]? λk=>Qlk R k λd=>Qc R a[a1.toNat]? λm=>K (List.set a a1.toNat (List.set (List.set (List.set m 0 (Ql a1)) 1 (Ql (if c<a2 then c else a2))) 2 (Ql (if b<d then d else b))))else Qc R a[a1.toNat]? λo=>K (List.set a a1.toNat (List.set (List.set (List.set o 0 (Ql a1)) 1 (Ql a2)) 2 (Ql b)))
def Ya(n:Nat)(c:LL)(h2:Int)(k0:QlL R):QlM R
|0,_,_=>none
|m+1,a,b=>bif decide (a<h2)then Qlf R c a λg e f=>QkZ R e f λh i=>bif decide (h<i)then Qc R (Y9 ((b.length+[[g,e,f]].length)*24)) λj=>Ya n c h2 k0 m (wJ (a+1)) (b++[[g,e,f]])else Ya n c h2 k0 m (wJ (a+1)) b else k0 a (decide (a<h2)) b
def Vu(a0:LL)(K:QlO R):oP R:=Ya n a0 (a0.length:Int) (λb c a=>K a) n 0 []
def ZC(n:Nat)(a g c:LL)(e b:Int)(k0:Qm5 R):QlY R
|0,_,_,_,_=>none
|m+1,h5,h6,f,d=>Qa R (decide (h6<wJ ((c.length:Int)-e))) λac=>bif ac then Ql3 R a h5 λh=>Qc R (Y9 ((f.length+[[Ql h]].length)*8)) λz=>Qb R (wJ ((a.length:Int)-1)) λad=>bif decide (h6>0)then Ql3 R c h6 λr=>Qlb R g r λi=>Ql3 R a (if ad<wJ (wJ (h5+i)+b)then ad else wJ (wJ (h5+i)+b)) λj=>Qc R (Y9 ((d.length+[[Ql j]].length)*8)) λaa=>ZC n a g c e b k0 m (wJ (h5+i)) (wJ (h6+1)) (f++[[Ql h]]) (d++[[Ql j]])else Ql3 R a (if ad<wJ (h5+b)then ad else wJ (h5+b)) λk=>Qc R (Y9 ((d.length+[[Ql k]].length)*8)) λab=>ZC n a g c e b k0 m h5 (wJ (h6+1)) (f++[[Ql h]]) (d++[[Ql k]])else k0 h5 h6 ac f d
def PE(i j c k d:LL)(e:Int)(l:Y UInt8)(f m o p:Int)(K:LL->LL->Int->Int->oP R):oP R:=Qc R (ST n i j c k d e l f m o p some) λa=>bif a !=0 then K [] [] 0 a else Qc R (Sw n i j c k d e Tu3) λb=>Qc R (Sb n b.1 b.2.1 l f m o p Tu2) λh=>ZC n h.1 c d e f (λx y z q r=>Ql3 R h.1 (wJ ((h.1.length:Int)-1)) λu=>Qc R (JE n u 1000 some) λv=>K q r v 0) n 0 0 [] []
def VP(n:Nat)(a0 a1:Int)(K:QlI R):oP R:=Qly R a1 (Qb R (wJ (Int.tdiv a0 a1)) λc=>bif decide (Int.tmod a0 a1<0)then K (wJ (c-1))else K c)
def Z1(n:Nat)(q1 a:LL)(a1 a2 b:Int)(K:LL->LL->oP R):oP R:=QlD R q1.length a1 q1 a1.toNat λf=>bif f then Qln R a.length a1 a a1.toNat λc=>Ql2 R a.length a1 a a1.toNat λh=>Qlk R h λd=>Ql2 R q1.length a1 q1 a1.toNat λi=>Ql2 R a.length a1 a a1.toNat λj=>K (List.set q1 a1.toNat (List.set i 0 (D.bool true))) (List.set a a1.toNat (List.set (List.set (List.set j 0 (Ql a1)) 1 (Ql (if c<a2 then c else a2))) 2 (Ql (if b<d then d else b))))else Ql2 R q1.length a1 q1 a1.toNat λk=>Ql2 R a.length a1 a a1.toNat λl=>K (List.set q1 a1.toNat (List.set k 0 (D.bool true))) (List.set a a1.toNat (List.set (List.set (List.set l 0 (Ql a1)) 1 (Ql a2)) 2 (Ql b)))
def Wr(l o:Int)(e i:LL)(j b:Int)(p q f r c:LL)(k0:Qm5 R):QlY R
|0,_,_,_,_=>none
|m+1,v,a,x,y=>Qa R (decide (a<(c.length:Int))) λg=>bif g then jn (λ(t k:Int)=>(Ql3 R c a λag=>gb true (Z1 n x y ag t k Tu2) ([],[]) λd=>Qb R (wJ (a+1)) λh=>bif decide (a>0)then Qld R c (wJ (a-1)) λah ai=>Qld R c a λaj ak=>Qlr R ah ai aj ak λal am an ao=>Qc R (G7 n p q f r al am an ao Tu5) λu=>Qc R (pIw u.2.2.1) λau=>bif decide (au>=0)then bif decide (a>b)then Qc R (pIw u.2.2.1) λav=>gb true (Z1 n d.1 d.2 (wJ ((f.length:Int)+av)) t k Tu2) ([],[]) λab=>Wr l o e i j b p q f r c k0 m k h ab.1 ab.2 else Qc R (pIw u.2.2.1) λaw=>gb true (Z1 n d.1 d.2 (wJ ((f.length:Int)+aw)) t v Tu2) ([],[]) λac=>Wr l o e i j b p q f r c k0 m k h ac.1 ac.2 else Wr l o e i j b p q f r c k0 m k h d.1 d.2 else Wr l o e i j b p q f r c k0 m k h d.1 d.2:oP R)) λs=>bif a==0 then Ql3 R i 0 λaz=>Qc R (JE n az 1000 some) λba=>s (wJ (0-l)) (wJ (ba+4))else bif decide (a<b)then Ql3 R e (wJ (a-1)) λbd=>Qc R (VP n bd 1000 some) λbe=>Ql3 R i a λbi=>Qc R (JE n bi 1000 some) λbj=>s (wJ (be-16)) (wJ (bj+4))else bif a==b then Ql3 R e (wJ (b-1)) λbm=>Qc R (VP n bm 1000 some) λbn=>s (wJ (bn-16)) (wJ (j+o))else Ql3 R e b λbq=>Qc R (VP n bq 1000 some) λbr=>s (wJ (br-16)) (wJ (j+20))else k0 v a g x y
def Vg(n:Nat)(b:Int)(c d:LL)(k0:QlL R):QlM R
|0,_,_=>none
|m+1,a,e=>bif decide (a<b)then QlD R c.length a c a.toNat λl=>bif l then Ql2 R d.length a d a.toNat λf=>Qc R f[0]? λg=>Qc R f[1]? λh=>Qc R f[2]? λi=>Qc R (Y9 ((e.length+[[g,h,i]].length)*24)) λq=>Vg n b c d k0 m (wJ (a+1)) (e++[[g,h,i]])else Vg n b c d k0 m (wJ (a+1)) e else k0 a (decide (a<b)) e
def HI(f a b g h:LL)(j:Int)(k:Y UInt8)(l m o p q r:Int)(K:QlV R):oP R:=Qc R (ST n f a b g h j k l m o p some) λd=>bif d !=0 then K [] 0 d else Qc R (HR n q 0 65536 some) λe=>Qd R (!(!e)) (HR n r 0 65536 some) λi=>bif Q8 (!e) (!i)then K [] 0 4 else gb true (PE n f a b g h j k l m o p Tu4) ([],[],0,0) λc=>Qb R (wJ ((b.length:Int)+(a.length:Int))) λaa=>Qa R (decide (0<=aa)&&decide (aa<=aa)) λs=>gb true (bif s then some ()else none) () λx=>Qb R (Int.toNat aa) λah=>Qc R (Y9 (ah*1)) λy=>gb true (bif s then some ()else none) () λz=>Qc R (Y9 (ah*24)) λu8=>Wr n q r c.1 c.2.1 c.2.2.1 (wJ ((c.1.length:Int)-1)) f a b g h (λab ac ad t u=>Vg n aa t u (λae ag v=>K v c.2.2.1 0) n 0 []) n 0 0 (List.replicate ah [D.bool false]) (List.replicate ah [Ql 0,Ql 0,Ql 0])
def V7(n:Nat)(d:Int)(h2:LL)(c:Int)(k0:QlI R)(k1:QlJ R):QlK R
|0,_=>none
|m+1,a=>bif decide (a<c)then Ql4 R h2 a λb f=>Qc R b[1]? λi=>Qlm R b λg=>Qc R (pIw f) λh=>bif h==d then Qc R (pIw g) λe=>k0 (if 60<e then e else 60)else V7 n d h2 c k0 k1 m (wJ (a+1))else k1 a (decide (a<c))
def Hs(c:Int)(d e f g a h i:LL)(a1:Int)(K:QlI R):oP R:=V7 n a1 a (a.length:Int) (λb=>K b) (λj k=>K 60) n 0
def Ji(n:Nat)(c:Int)(a:LL)(k0:D->D->D->D->oP R)(k1:QlJ R):QlK R
|0,_=>none
|m+1,h2=>Qa R (decide (h2<(a.length:Int))) λk=>bif k then Ql3 R a h2 λf=>bif f==c then Qll R a h2 λg h i j=>k0 g h i j else Ji n c a k0 k1 m (wJ (h2+1))else k1 h2 k
def SO(a:LL)(a1:Int)(K:D->D->D->D->Bool->oP R):oP R:=Ji n a1 a (λb c d e=>K b c d e true) (λf g=>Qb R (Ql 0) λh=>K h h h h false) n 0
def YO(g:Int)(k l o p:LL)(q:Int)(e r s t h u v:LL)(x d:D)(k0:QlU R):QlW R
|0,_,_,_=>none
|m+1,a,i,j=>Qc R (pSl 4 d) λaj=>Qa R (decide (a<(aj.length:Int))) λb=>bif b then Qc R (pSl 4 d) λaw=>Qlb R aw a λak=>Qb R (wJ (a+1)) λc=>bif a==0 then jn (λ(az:Int)=>(Qc R (XG n q e r s t h u v g a Tu2) λal=>Ql6 R x e al.1 al.2 λbh bi bj bk bl bm bn=>Qc R (HI n k l o p bh bi bj bk bl bm bn 60 az Tu3) λac=>Qlq R ((i.length+[[D.sl 3 ac.1]].length)*24) ((j.length+[[Ql ac.2.1]].length)*8) (YO g k l o p q e r s t h u v x d k0 m c (i++[[D.sl 3 ac.1]]) (j++[[Ql ac.2.1]])):oP R)) λam=>Qc R (SO n h g Tu5) λan=>Qc R (pSl 4 d) λbo=>bif decide (a<wJ ((bo.length:Int)-1))then Qc R (pSl 4 d) λbp=>Qlb R bp a λbt=>Qc R (pSl 4 d) λbu=>Qc R (Qi bu a) λbv=>Qc R bv[3]? λbz=>Qc R (pIw bz) λca=>am (wJ (bt+ca))else bif an.2.2.2.2 then Qc R (pSl 4 d) λcb=>QlC R cb a λce=>QkZ R ce an.2.2.2.1 λcf i64=>am (wJ (cf+(if 60<i64 then i64 else 60)))else Qc R (XG n q e r s t h u v g a Tu2) λao=>Ql6 R x e ao.1 ao.2 λcn co cp cq cr cs ct=>Qc R (HI n k l o p cn co cp cq cr cs ct 60 (wJ (ak+60)) Tu3) λad=>Qlq R ((i.length+[[D.sl 3 ad.1]].length)*24) ((j.length+[[Ql ad.2.1]].length)*8) (YO g k l o p q e r s t h u v x d k0 m c (i++[[D.sl 3 ad.1]]) (j++[[Ql ad.2.1]]))else jn (λ(cu:Int)=>(Qc R (XG n q e r s t h u v g a Tu2) λap=>Ql6 R x e ap.1 ap.2 λdb dc dd de df dg dh=>Qc R (HI n k l o p db dc dd de df dg dh 0 cu Tu3) λae=>Qlq R ((i.length+[[D.sl 3 ae.1]].length)*24) ((j.length+[[Ql ae.2.1]].length)*8) (YO g k l o p q e r s t h u v x d k0 m c (i++[[D.sl 3 ae.1]]) (j++[[Ql ae.2.1]])):oP R)) λaq=>Qc R (SO n h g Tu5) λar=>Qc R (pSl 4 d) λdi=>bif decide (a<wJ ((di.length:Int)-1))then Qc R (pSl 4 d) λdj=>Qlb R dj a λdn=>Qc R (pSl 4 d) λdp=>Qc R (Qi dp a) λdq=>Qc R dq[3]? λdr=>Qc R (pIw dr) λds=>aq (wJ (dn+ds))else bif ar.2.2.2.2 then Qc R (pSl 4 d) λdt=>QlC R dt a λdw=>QkZ R dw ar.2.2.2.1 λdx au=>aq (wJ (dx+(if 60<au then au else 60)))else Qc R (XG n q e r s t h u v g a Tu2) λav=>Ql6 R x e av.1 av.2 λee ef eg eh ei ej ek=>Qc R (HI n k l o p ee ef eg eh ei ej ek 0 (wJ (ak+60)) Tu3) λag=>Qlq R ((i.length+[[D.sl 3 ag.1]].length)*24) ((j.length+[[Ql ag.2.1]].length)*8) (YO g k l o p q e r s t h u v x d k0 m c (i++[[D.sl 3 ag.1]]) (j++[[Ql ag.2.1]]))else k0 a b i j
def UO(c d h5 h6:LL)(h7:Int)(e f a g h i j:LL)(k0:QlU R):QlW R
|0,_,_,_=>none
|m+1,h2,k,l=>Qa R (decide (h2<(a.length:Int))) λx=>bif x then Ql9 R a h2 λb o=>Qlm R b λp=>YO n h2 c d h5 h6 h7 e f a g h i j o p (λu v q r=>UO c d h5 h6 h7 e f a g h i j k0 m (wJ (h2+1)) q r) n 0 k l else k0 h2 x k l
def RJ(a b c d:LL)(e:Int)(f g h i j k l:LL)(K:LL->LL->Int->oP R):oP R:=Qc R (Wl n a b c d e f g h i j k l some) λm=>bif m !=0 then K [] [] 1 else UO n a b c d e f g h i j k l (λq r o p=>K o p 0) n 0 [] []
def Xm(n:Nat)(b c:Int)(k0:QlL R):QlM R
|0,_,_=>none
|m+1,a,d=>bif decide (a<c)then Qb R [[Ql 1,Ql b,Ql a],[Ql 2,Ql b,Ql a]] λf=>Qc R (Y9 ((d.length+List.length f)*24)) λe=>Xm n b c k0 m (wJ (a+1)) (d++f)else k0 a (decide (a<c)) d
def X5(e:LL)(h2:Int)(k0:QlU R):QlW R
|0,_,_,_=>none
|m+1,a,d,b=>bif decide (a<h2)then Qlp R e a λc=>Qlm R c λf=>Qc R (nz 2) λl=>Qb R [[Ql (wJ (Int.tdiv (b.length:Int) 2))]] λr=>Qc R (Y9 ((d.length+r.length)*8)) λo=>Qc R (pSl 4 f) λg=>Xm n a (g.length:Int) (λp q h=>X5 e h2 k0 m (wJ (a+1)) (d++r) h) n 0 b else k0 a (decide (a<h2)) d b
def YM(a q1 q5:LL)(K:LL->LL->oP R):oP R:=X5 n a (a.length:Int) (λd e b c=>K b c) n 0 q1 q5
def Y1(n:Nat)(q1:LL)(a1 a2:Int)(K:QlI R):oP R:=Ql5 R q1.length a1 q1 a1.toNat λb=>K (wJ (b+a2))
def Ym(n:Nat)(f b:LL)(a1 a2 c d e:Int)(K:QlO R):oP R:=Ql3 R f a1 λa=>Qb R [[Ql a1,Ql a2,Ql (wJ (a+d)),Ql (wJ (wJ (a+c)+e))]] λj=>Qc R (Y9 ((b.length+j.length)*32)) λi=>K (b++j)
def Wk(a q1:LL)(a1:Int)(K:QlI R):oP R:=Qlc R a a1 λd=>Qc R (Y1 n q1 a1 (wJ ((d.length:Int)-1)) some) λe=>K e
def Xy(c:Int)(f:LL)(d:Int)(e g:LL)(k0:QlL R):QlM R
|0,_,_=>none
|m+1,a,h=>bif decide (a<d)then Ql9 R f a λb i=>Qlx R b λj k=>Qc R (Y1 n e c a some) λl=>Qc R (Y1 n e c (wJ (a+1)) some) λo=>Qlt R i j k λi64 p q=>Qc R (Ym n g h l o i64 p q some) λr=>Xy c f d e g k0 m (wJ (a+1)) r else k0 a (decide (a<d)) h
def QQ(d:LL)(h2:Int)(e f:LL)(k0:QlL R):QlM R
|0,_,_=>none
|m+1,a,h5=>bif decide (a<h2)then Qlp R d a λb=>Qlm R b λg=>Qc R (pSl 4 g) λc=>Qc R (pSl 4 g) λi=>Qc R (slB c.length none (some (wJ ((i.length:Int)-1)))) λh=>Xy n a (cut c h) ((List.length (cut c h):Nat):Int) e f (λp q j=>QQ d h2 e f k0 m (wJ (a+1)) j) n 0 h5 else k0 a (decide (a<h2)) h5
def Xw(f:LL)(c:Int)(d e g:LL)(k0:QlL R):QlM R
|0,_,_=>none
|m+1,a,h=>bif decide (a<c)then Qll R f a λi k l o=>Qc R (pIw i) λp=>Qlc R e p λj=>Qc R (pIw i) λs=>Qc R (Wk n e d s some) λt=>Qc R (pIw k) λu=>Qc R (Y1 n d u 0 some) λv=>QlC R j (wJ ((j.length:Int)-1)) λy=>Qlt R y l o λz aa ab=>Qc R (Ym n g h t v z aa ab some) λac=>Xw f c d e g k0 m (wJ (a+1)) ac else k0 a (decide (a<c)) h
def YP(a b q1 c d:LL)(K:QlO R):oP R:=QQ n a (a.length:Int) q1 c (λg h e=>Xw n b (b.length:Int) q1 a c (λi j f=>K f) n 0 e) n 0 d
def Ud(n:Nat)(h2:LL)(e:Int)(k0:oP R)(k1:QlQ R):QlS R
|0,_,_=>none
|m+1,a,b=>bif decide (b<e)then Qlf R h2 b λg h i=>Qc R (pIw g) λc=>Qd R (!(decide (c<=a))) (pIw h) λd=>Qa R (Q8 (decide (c<=a)) (decide (d<(-65536:Int)))) λp=>Ql7 R h (!p) i λj k=>Qa R (Q8 p (decide (j>=k))) λq=>Qd R (!q) (pIw i) λl=>bif Q8 q (decide (l>65536))then k0 else Qc R (pIw g) λo=>Ud n h2 e k0 k1 m o (wJ (b+1))else k1 a b (decide (b<e))
def Jv(a0:LL)(K:QlN R):oP R:=Ud n a0 (a0.length:Int) (K false) (λa b c=>K true) n (-1:Int) 0
def Ui(n:Nat)(h2:Int)(c:LL)(a:Int)(k0:oP R)(k1:QlJ R):QlK R
|0,_=>none
|m+1,h5=>bif decide (h5<a)then Ql9 R c h5 λb d=>Qc R b[2]? λe=>QkZ R e d λf g=>bif decide (wJ (f-g)>h2)then k0 else Ui n h2 c a k0 k1 m (wJ (h5+1))else k1 h5 (decide (h5<a))
def Tg(a0:Int)(a1:LL)(K:QlN R):oP R:=Qa R (Q8 (decide (a0<1)) (decide (a0>7200))) λd=>Qd R (!d) (Jv n a1 some) λa=>bif Q8 d (!a)then K false else Ui n a0 a1 (a1.length:Int) (K false) (λb c=>K true) n 0
def Yk(n:Nat)(a b c d e f:Int)(g:Bool)(h:Int)(K:QlN R):oP R:=K (Q8 g (decide (wJ ((if b<wJ (f+d)then wJ (f+d)else b)-(if wJ (e+c)<a then wJ (e+c)else a))>h)))
def X0(e:LL)(b f:Int)(c g d:D)(h i j:Int)(k0:Int->Bool->Bool->oP R):Nat->Int->Bool->oP R
|0,_,_=>none
|m+1,a,k=>bif decide (a<b)then Qlf R e a λq r s=>QkZ R c q λo p=>Ql7 R r (o==p) d λt u=>bif Q9 (o==p) (decide (wJ (f+t)<=u))then Qc R (pIw c) λab=>QkZ R g d λv x=>Qc R (pIw q) λac=>QkZ R r s λy z=>Qc R (Yk n v x y z i j k h some) λaa=>X0 e b f c g d h i j k0 m (wJ (a+1)) aa else X0 e b f c g d h i j k0 m (wJ (a+1)) k else k0 a (decide (a<b)) k
def XA(b:LL)(h5 c d e:Int)(f:LL)(g h:Int)(k0:Int->Bool->Bool->oP R):Nat->Int->Bool->oP R
|0,_,_=>none
|m+1,h6,i=>bif decide (h6<h5)then Qlf R b h6 λk l o=>Qli R f c λj=>X0 n j (j.length:Int) d k l o e g h (λs t r=>XA b h5 c d e f g h k0 m (wJ (h6+1)) r) n 0 i else k0 h6 (decide (h6<h5)) i
def Wd(c:Int)(a:LL)(d e f g h:Int)(i:Bool)(K:QlN R):oP R:=Qli R a d λb=>XA n b (b.length:Int) e f c a g h (λm o l=>K l) n 0 i
def XS(b:LL)(h2 c:Int)(k0:oP R)(k1:QlJ R):QlK R
|0,_=>none
|m+1,a=>bif decide (a<h2)then Qli R b a λf=>Qc R (Tg n c f some) λg=>bif !g then k0 else XS b h2 c k0 k1 m (wJ (a+1))else k1 a (decide (a<h2))
def Xr(d:LL)(c e:Int)(f:LL)(k0:oP R)(k1:QlJ R):QlK R
|0,_=>none
|m+1,a=>bif decide (a<c)then Qll R d a λg h i j=>Qlt R g h i λk l o=>Qlh R j g (Qc R (pIw h) λu=>QkZ R i j λp q=>Qc R (Wd n e f k l o p q false some) λr=>bif r then k0 else Xr d c e f k0 k1 m (wJ (a+1)))else k1 a (decide (a<c))
def ZS(b:Int)(a c:LL)(K:QlN R):oP R:=XS n a (a.length:Int) b (K false) (λd e=>Xr n c (c.length:Int) b a (K false) (λf g=>K true) n 0) n 0
def Xh(n:Nat)(q1:LL)(a1 a2:Int)(K:QlI R):oP R:=Ql5 R q1.length a1 q1 a1.toNat λb=>K (wJ (b+a2))
def YA(n:Nat)(a0:Int)(K:QlI R):oP R:=K (wJ (2*a0))
def UF(n:Nat)(a0:Int)(K:QlI R):oP R:=K (wJ (wJ (2*a0)+1))
def Xt(n:Nat)(a:LL)(a1 a2 b c d e:Int)(K:QlO R):oP R:=Qb R [[Ql a1,Ql a2,Ql b,Ql c,Ql d,Ql e]] λg=>Qc R (Y9 ((a.length+g.length)*48)) λf=>K (a++g)
def Vj(a q1:LL)(a1:Int)(K:QlI R):oP R:=Qlc R a a1 λd=>Qc R (Xh n q1 a1 (wJ ((d.length:Int)-1)) some) λe=>K e
def QK(f:Int)(g:LL)(c:Int)(d h:D)(i j:LL)(k0:QlL R):QlM R
|0,_,_=>none
|m+1,a,k=>bif decide (a<c)then Ql9 R g a λe p=>Qlx R e λq r=>Qc R (Xh n i f a some) λb=>Ql3 R j b λl=>Qc R (YA n b some) λu=>Qc R (UF n b some) λv=>QkZ R p d λx y=>Qc R (Xt n k 1 u v l (wJ (l+x)) y some) λo=>Qc R (pSl 4 h) λz=>bif decide (a<wJ ((z.length:Int)-1))then Qc R (UF n b some) λaa=>Qc R (YA n (wJ (b+1)) some) λab=>Qlt R q r d λac ad ae=>Qc R (Xt n o 2 aa ab ac ad ae some) λag=>QK f g c d h i j k0 m (wJ (a+1)) ag else QK f g c d h i j k0 m (wJ (a+1)) o else k0 a (decide (a<c)) k
def QV(c:LL)(h2:Int)(d e:LL)(k0:QlL R):QlM R
|0,_,_=>none
|m+1,a,h6=>bif decide (a<h2)then Qlp R c a λb=>Qlx R b λh f=>Qc R (pSl 4 f) λg=>QK n a g (g.length:Int) h f d e (λl o i=>QV c h2 d e k0 m (wJ (a+1)) i) n 0 h6 else k0 a (decide (a<h2)) h6
def QX(e:LL)(c:Int)(d:LL)(k0:QlL R):QlM R
|0,_,_=>none
|m+1,b,f=>bif decide (b<c)then Ql1 R e b λa g h i=>Qla R a λj k l=>Qc R a[6]? λo=>QkZ R g h λp q=>Qc R (Xh n d p q some) λr=>QkZ R i j λs t=>Qc R (Xh n d s t some) λu=>Qc R (UF n r some) λv=>Qc R (YA n u some) λx=>Qlt R k l o λy z aa=>Qc R (Xt n f 3 v x y z aa some) λab=>QX e c d k0 m (wJ (b+1)) ab else k0 b (decide (b<c)) f
def QW(e:LL)(c:Int)(d f:LL)(k0:QlL R):QlM R
|0,_,_=>none
|m+1,a,g=>bif decide (a<c)then Qll R e a λh i j k=>Qc R (pIw h) λl=>Qc R (Vj n f d l some) λo=>Qc R (UF n o some) λp=>Qc R (pIw i) λq=>Qc R (Xh n d q 0 some) λr=>Qc R (YA n r some) λs=>QkZ R j k λt u=>Qc R (Xt n g 4 p s t u 1 some) λv=>QW e c d f k0 m (wJ (a+1)) v else k0 a (decide (a<c)) g
def QY(e:LL)(c:Int)(d:LL)(k0:QlL R):QlM R
|0,_,_=>none
|m+1,a,f=>bif decide (a<c)then Qlu R e a λh i j k g=>QkZ R h i λl o=>Qc R (Xh n d l o some) λp=>Qc R (YA n p some) λq=>QkZ R j k λr s=>Qc R (Xh n d r s some) λt=>Qc R (YA n t some) λu=>Qc R (pIw g) λv=>Qc R (pIw g) λx=>Qc R (Xt n f 5 q u v x 0 some) λy=>QY e c d k0 m (wJ (a+1)) y else k0 a (decide (a<c)) f
def YD(a b c d q1 e f:LL)(K:QlO R):oP R:=QV n a (a.length:Int) q1 e (λk l g=>QX n b (b.length:Int) q1 (λm o h=>QW n c (c.length:Int) q1 a (λp q i=>QY n d (d.length:Int) q1 (λr s j=>K j) n 0 i) n 0 h) n 0 g) n 0 f
def XL(n:Nat)(a:Int)(q1:Int->Bool)(K:(Int->Bool)->oP R):oP R:=K (Q89 q1 a true)
def Xd(e:LL)(b f:Int)(c g d:D)(k0:Qm6 R):Qm7 R
|0,_,_=>none
|m+1,a,h=>bif decide (a<b)then Qlf R e a λl o p=>QkZ R c l λj k=>Ql7 R o (j==k) d λq r=>bif Q9 (j==k) (decide (wJ (f+q)<=r))then Qc R (pIw c) λs=>Qlh R g d (Qlh R l o (Qc R (pIw p) λz=>gb true (XL n s h some) (λ_=>false) λt=>Xd e b f c g d k0 m (wJ (a+1)) t))else Xd e b f c g d k0 m (wJ (a+1)) h else k0 a (decide (a<b)) h
def XB(b:LL)(h5 c d:Int)(e:LL)(k0:Qm6 R):Qm7 R
|0,_,_=>none
|m+1,h6,f=>bif decide (h6<h5)then Qlf R b h6 λh i j=>Qli R e c λg=>Xd n g (g.length:Int) d h i j (λp q o=>XB b h5 c d e k0 m (wJ (h6+1)) o) n 0 f else k0 h6 (decide (h6<h5)) f
def Wf(a:LL)(c d e:Int)(q5:Int->Bool)(K:(Int->Bool)->oP R):oP R:=Qli R a c λb=>XB n b (b.length:Int) d e a (λi j h=>K h) n 0 q5
def QN(a h2:Int)(e:LL)(b:Int)(f:LL)(k0:Qm6 R):Qm7 R
|0,_,_=>none
|m+1,h5,h6=>bif decide (h5<b)then Qll R e h5 λg h k l=>Qc R (pIw g) λd=>Qd R (d==a) (pIw h) λi=>Qa R (Q9 (d==a) (i==h2)) λu=>Qd R (!u) (pIw g) λj=>Qd R (!u&&j==h2) (pIw h) λo=>bif Q8 u (Q9 (j==h2) (o==a))then Qlt R g h k λp q r=>Qc R (pIw l) λt=>gb true (Wf n f p q r h6 some) (λ_=>false) λs=>QN a h2 e b f k0 m (wJ (h5+1)) s else QN a h2 e b f k0 m (wJ (h5+1)) h6 else k0 h5 (decide (h5<b)) h6
def Yd(b a:LL)(a1 a2:Int)(K:(Int->Bool)->oP R):oP R:=QN n a1 a2 a (a.length:Int) b (λd e c=>K c) n 0 λ_=>false
def Yg(n:Nat)(c:LL)(h2:Int)(h5:Int->Bool)(k0:QlL R):QlM R
|0,_,_=>none
|m+1,a,b=>bif decide (a<h2)then Qlf R c a λe f g=>Qc R (pIw e) λh=>bif !(h5 h)then Qc R (Y9 ((b.length+[[e,f,g]].length)*24)) λi=>Yg n c h2 h5 k0 m (wJ (a+1)) (b++[[e,f,g]])else Yg n c h2 h5 k0 m (wJ (a+1)) b else k0 a (decide (a<h2)) b
def Us(a0:LL)(a:Int->Bool)(K:LL->(Int->Bool)->oP R):oP R:=Yg n a0 (a0.length:Int) a (λc d b=>K b a) n 0 []
def UY(n:Nat)(a0:Int)(K:QlN R):oP R:=K (Q9 (decide (a0>=1)) (decide (a0<=7200)))
def Hy(n:Nat)(a0 a1:Int)(K:QlI R):oP R:=bif decide (a1<1)then K 0 else Qc R (nz a1) λa=>Qb R (Int.tmod a0 a1) λb=>bif decide (b<0)then K (wJ (b+a1))else K b
def JC(n:Nat)(a1 a2 a:Int)(K:QlO R):oP R:=bif decide (a<1)then K []else bif decide (a>=a1)then Qc R (Y9 ([[Ql 0,Ql a1]].length*16)) λb=>K [[Ql 0,Ql a1]]else Qb R (wJ (a2+a)) λf=>bif decide (f<=a1)then Qc R (Y9 ([[Ql a2,Ql f]].length*16)) λc=>K [[Ql a2,Ql f]]else Qb R [[Ql 0,Ql (wJ (f-a1))],[Ql a2,Ql a1]] λe=>Qc R (Y9 (List.length e*16)) λd=>K e
def Ph(a0 a1 a2:Int)(K:QlR R):oP R:=Qc R (UY n a0 some) λa=>bif !a then K [] 4 else Qc R (Hy n a1 a0 some) λb=>Qc R (JC n a0 b a2 some) λc=>K c 0
def Ug(n:Nat)(h2:Int)(d:LL)(h5:Int)(k0:oP R)(k1:QlQ R):QlS R
|0,_,_=>none
|m+1,a,h6=>bif decide (h6<h5)then Qld R d h6 λf c=>Qc R (pIw f) λb=>Qa R (decide (b<=a)) λk=>Ql7 R f (!k) c λg h=>Qa R (Q8 k (decide (g>=h))) λl=>Qd R (!l) (pIw c) λi=>bif Q8 l (decide (i>h2))then k0 else Qc R (pIw c) λj=>Ug n h2 d h5 k0 k1 m j (wJ (h6+1))else k1 a h6 (decide (h6<h5))
def GK(a0:Int)(a1:LL)(K:QlN R):oP R:=Qc R (UY n a0 some) λa=>bif !a then K false else Ug n a0 a1 (a1.length:Int) (K false) (λb c d=>K true) n (-1:Int) 0
def U8(h2:Int)(b:LL)(a:Int)(k0:oP R)(k1:QlJ R):QlK R
|0,_=>none
|m+1,h5=>bif decide (h5<a)then QlB R b h5 λd=>Qc R (GK n h2 d some) λe=>bif !e then k0 else U8 h2 b a k0 k1 m (wJ (h5+1))else k1 h5 (decide (h5<a))
def Tk(a0:Int)(a1:LL)(K:QlI R):oP R:=Qc R (UY n a0 some) λa=>bif !a then K 4 else U8 n a0 a1 (a1.length:Int) (K 1) (λb c=>K 0) n 0
def QU(n:Nat)(a1:Int)(K:QlO R):oP R:=bif decide (a1<0)then none else Qb R (wJ (a1-wJ (0-0))) λd=>bif decide (d>0)then Qc R (slB 0 none (some 0)) λa=>gb true (bif decide (0<d)then some ()else none) () λb=>Qc R (Y9 (Int.toNat d*16)) λc=>K []else K []
def Qv(n:Nat)(b:LL)(a:Int)(k0:QlQ R):QlS R
|0,_,_=>none
|m+1,h2,h5=>bif decide (h5<a)then QlB R b h5 λc=>Qb R (wJ (h2+(c.length:Int))) λf=>bif decide (f<0)then none else Qv n b a k0 m f (wJ (h5+1))else k0 h2 h5 (decide (h5<a))
def Qw(n:Nat)(d:LL)(b:Int)(k0:QlL R):QlM R
|0,_,_=>none
|m+1,a,c=>bif decide (a<b)then QlB R d a λe=>Qc R (Y9 ((c.length+e.length)*16)) λh=>Qw n d b k0 m (wJ (a+1)) (c++e)else k0 a (decide (a<b)) c
def X1(a0:LL)(K:QlO R):oP R:=Qv n a0 (a0.length:Int) (λa d e=>Qc R (QU n a some) λb=>Qw n a0 (a0.length:Int) (λf g c=>K c) n 0 b) n 0 0
def MC(n:Nat)(a0:Int)(K:QlI R):oP R:=bif decide (a0>=65536)then Qc R (Aw 16) λe=>bif decide (shR .u32 a0 16>=256)then Qc R (Aw 8) λf=>Qc R (Zo QkR (IntKind.wrap .u8 (shR .u32 (shR .u32 a0 16) 8))) λa=>K (wJ (wJ (16+8)+wJ a))else Qc R (Zo QkR (IntKind.wrap .u8 (shR .u32 a0 16))) λb=>K (wJ (16+wJ b))else bif decide (a0>=256)then Qc R (Aw 8) λg=>Qc R (Zo QkR (IntKind.wrap .u8 (shR .u32 a0 8))) λc=>K (wJ (wJ (0+8)+wJ c))else Qc R (Zo QkR (IntKind.wrap .u8 a0)) λd=>K (wJ (0+wJ d))
def M1(n:Nat)(a0:Int)(K:QlI R):oP R:=bif decide (a0>=4294967296)then Qc R (Aw 32) λi=>bif decide (shR .u64 a0 32>=65536)then Qc R (Aw 16) λj=>bif decide (shR .u64 (shR .u64 a0 32) 16>=256)then Qc R (Aw 8) λk=>Qc R (Zo QkR (IntKind.wrap .u8 (shR .u64 (shR .u64 (shR .u64 a0 32) 16) 8))) λa=>K (wJ (wJ (wJ (32+16)+8)+wJ a))else Qc R (Zo QkR (IntKind.wrap .u8 (shR .u64 (shR .u64 a0 32) 16))) λb=>K (wJ (wJ (32+16)+wJ b))else bif decide (shR .u64 a0 32>=256)then Qc R (Aw 8) λl=>Qc R (Zo QkR (IntKind.wrap .u8 (shR .u64 (shR .u64 a0 32) 8))) λc=>K (wJ (wJ (32+8)+wJ c))else Qc R (Zo QkR (IntKind.wrap .u8 (shR .u64 a0 32))) λd=>K (wJ (32+wJ d))else bif decide (a0>=65536)then Qc R (Aw 16) λm=>bif decide (shR .u64 a0 16>=256)then Qc R (Aw 8) λo=>Qc R (Zo QkR (IntKind.wrap .u8 (shR .u64 (shR .u64 a0 16) 8))) λe=>K (wJ (wJ (wJ (0+16)+8)+wJ e))else Qc R (Zo QkR (IntKind.wrap .u8 (shR .u64 a0 16))) λf=>K (wJ (wJ (0+16)+wJ f))else bif decide (a0>=256)then Qc R (Aw 8) λp=>Qc R (Zo QkR (IntKind.wrap .u8 (shR .u64 a0 8))) λg=>K (wJ (wJ (0+8)+wJ g))else Qc R (Zo QkR (IntKind.wrap .u8 a0)) λh=>K (wJ (0+wJ h))
def R7(a0:Int)(K:QlI R):oP R:=bif false then Qc R (MC n (IntKind.wrap .u32 a0) some) λa=>K a else Qc R (M1 n a0 some) λb=>K b
def GV(n:Nat)(a0:Int)(K:QlN R):oP R:=K (a0 !=a0)
def Kf(a0 a1:Int)(K:QlI R):oP R:=Qc R (GV n a0 some) λb=>Qc R (GV n a1 some) λa=>bif b then bif a then K 0 else K (-1:Int)else bif a then K 1 else bif decide (a0<a1)then K (-1:Int)else bif decide (a0>a1)then K 1 else K 0
def UZ(a d b e:Int)(K:QlI R):oP R:=Qc R (Kf n a b some) λc=>K c
def Qx(h5:Int)(k0:QlL R):QlM R
|0,_,_=>none
|m+1,a,b=>Qa R (decide (a>h5)) λae=>Qd R ae (inB b.length a) λy=>Qd R ae b[a.toNat]? λf=>QlE R f ae λk l=>Qb R (wJ (a-1)) λai=>Qd R ae (inB b.length ai) λz=>Qb R (Int.toNat ai) λaj=>Qd R ae b[aj]? λg=>QlE R g ae λo p=>Ql7 R k ae l λq r=>Ql7 R o ae p λs t=>Qd R ae (UZ n q r s t some) λh=>Qa R (Q9 ae (decide (h<0))) λag=>bif ag then Ql2 R b.length ai b aj λi=>Qc R i[0]? λc=>Qc R i[1]? λd=>Ql2 R b.length a b a.toNat λj=>Qc R j[0]? λu=>Qc R j[1]? λv=>Ql2 R b.length a b a.toNat λe=>Qb R (List.set b a.toNat (List.set (List.set e 0 c) 1 d)) λah=>Ql2 R (List.length ah) ai ah aj λx=>Qx h5 k0 m ai (List.set ah aj (List.set (List.set x 0 u) 1 v))else k0 a ag b
def Qn(b h2:Int)(k0:QlL R):QlM R
|0,_,_=>none
|m+1,a,c=>bif decide (a<h2)then Qx n b (λe f d=>Qn b h2 k0 m (wJ (a+1)) d) n a c else k0 a (decide (a<h2)) c
def XF(a:LL)(a1 a2:Int)(K:QlO R):oP R:=Qn n a1 a2 (λc d b=>K b) n (wJ (a1+1)) a
def XU(a h2 c:Int)(h6:LL)(k0:QlO R):Nat->oP R
|0=>none
|m+1=>bif decide (wJ (h2-a)<=12)then Qc R (XF n h6 a h2 some) λb=>Qc R (Rf b h6.length) λd=>k0 b else bif c==0 then none else bif !true then none else none
def Y3(a:LL)(a1 a2 b:Int)(K:QlO R):oP R:=XU n a1 a2 b a (λc=>K c) n
def QO(a:LL)(K:QlO R):oP R:=Qc R (R7 n (IntKind.wrap .u64 (a.length:Int)) some) λc=>Qc R (Y3 n a 0 (a.length:Int) c some) λb=>Qc R (Rf b a.length) λd=>K b
def Xq(n:Nat)(b:Int)(h6:LL)(k0:QlL R):QlM R
|0,_,_=>none
|m+1,a,h5=>bif decide (a<b)then Ql2 R h6.length a h6 a.toNat λe=>Qc R e[0]? λc=>Qc R e[1]? λd=>Qb R (wJ ((h5.length:Int)-1)) λx=>Qa R (decide (x>=0)) λv=>Qd R v (pIw c) λh=>Qd R v (inB h5.length x) λr=>Qb R (Int.toNat x) λy=>Qd R v h5[y]? λi=>Qd R v i[1]? λj=>Qd R v (pIw j) λk=>bif Q9 v (decide (h<=k))then Ql2 R h5.length x h5 y λl=>Qc R l[1]? λo=>QkZ R o d λf g=>Ql2 R h5.length x h5 y λp=>Xq n b h6 k0 m (wJ (a+1)) (List.set h5 y (List.set p 1 (Ql (if f<g then g else f))))else Qc R (Y9 ((h5.length+[[c,d]].length)*16)) λu=>Xq n b h6 k0 m (wJ (a+1)) (h5++[[c,d]])else k0 a (decide (a<b)) h5
def HZ(b:LL)(K:LL->LL->oP R):oP R:=Qc R (QO n b some) λa=>Qc R (Rf a b.length) λd=>Xq n (a.length:Int) a (λe f c=>K c a) n 0 []
def Ts(a0:Int)(a1 a2:LL)(K:QlR R):oP R:=Qb R [[D.sl 2 a1],[D.sl 2 a2]] λd=>Qc R (Tk n a0 d some) λa=>bif a !=0 then K [] a else Qc R (X1 n d some) λb=>Qc R (Lt [b]) λe=>gb true (HZ n b Tu2) ([],[]) λc=>Qc R (Rf c.2 b.length) λf=>K c.1 0
def Zg(c g h d e:Int)(i:LL)(K:QlO R):oP R:=Qc R (Ph n e (wJ (wJ (c-d)+1)) (wJ (wJ (wJ (wJ (g-h)-1)-wJ (wJ (c-d)+1))+1)) Tu2) λa=>Qc R (Ts n e i a.1 Tu2) λf=>Qc R (Lt [f.1]) λj=>K f.1
def QG(b:Int)(k0:LL->LL->Bool->LL->oP R):Nat->LL->LL->LL->oP R
|0,_,_,_=>none
|m+1,a,h2,d=>Qa R (Q9 (decide ((a.length:Int)>0)) (decide ((h2.length:Int)>0))) λao=>bif ao then Qlf R a 0 λc6 j k=>Qlf R h2 0 λc ar l=>QkZ R c6 c λo p=>bif o==p then Qc R (pIw c6) λam=>QkZ R j k λq r=>Qc R (pIw c) λan=>QkZ R ar l λs t=>Qc R (Zg n q r s t b d some) λe=>QkZ R c6 c λu v=>bif decide (u<=v)then Qc R (slB a.length (some 1) none) λh=>QkZ R c6 c λx y=>bif decide (x>=y)then Qc R (slB h2.length (some 1) none) λz=>QG b k0 m (cut a h) (cut h2 z) e else QG b k0 m (cut a h) h2 e else QkZ R c6 c λaa ab=>bif decide (aa>=ab)then Qc R (slB h2.length (some 1) none) λac=>QG b k0 m a (cut h2 ac) e else QG b k0 m a h2 e else QkZ R c6 c λad ae=>bif decide (ad<=ae)then Qc R (slB a.length (some 1) none) λi=>QkZ R c6 c λag ah=>bif decide (ag>=ah)then Qc R (slB h2.length (some 1) none) λai=>QG b k0 m (cut a i) (cut h2 ai) d else QG b k0 m (cut a i) h2 d else QkZ R c6 c λaj ak=>bif decide (aj>=ak)then Qc R (slB h2.length (some 1) none) λal=>QG b k0 m a (cut h2 al) d else QG b k0 m a h2 d else k0 a h2 ao d
def H7(a0 a1:LL)(a:Int)(b:LL)(K:QlO R):oP R:=QG n a (λd e f c=>K c) n a0 a1 b
def Jt(a0:Int)(a1 a2:LL)(K:QlR R):oP R:=jn (λ(d:Bool)=>(bif d then K [] 4 else jn (λ(e:Bool)=>(bif e then K [] 1 else Qc R (H7 n a1 a2 a0 [] some) λf=>K f 0:oP R)) λa=>Qc R (Jv n a1 some) λb=>bif !b then a (!b)else Qc R (Jv n a2 some) λg=>a (!g):oP R)) λc=>bif decide (a0<1)then c (decide (a0<1))else c (decide (a0>7200))
def PX(n:Nat)(a b:Int)(K:QlI R):oP R:=K (wJ (b-a))
def ZZ(h2:LL)(b:Int)(k0:QlQ R):QlS R
|0,_,_=>none
|m+1,c,a=>bif decide (a<b)then Qld R h2 a λe f=>QkZ R e f λg h=>Qc R (PX n g h some) λi=>ZZ h2 b k0 m (wJ (c+i)) (wJ (a+1))else k0 c a (decide (a<b))
def Rs(a0:LL)(K:QlI R):oP R:=ZZ n a0 (a0.length:Int) (λa b c=>K a) n 0 0
def Ty(a0:Int)(a1:LL)(K:QlI R):oP R:=Qc R (GK n a0 a1 some) λa=>bif !a then K 0 else Qc R (Rs n a1 some) λb=>K b
def ZI(n:Nat)(b:Int)(e:LL)(c:Int)(k0:QlL R):QlM R
|0,_,_=>none
|m+1,a,d=>bif decide (a<c)then Qld R e a λi j=>QkZ R j i λg h=>Qb R [[Ql g,Ql (wJ (wJ (h+b)-1))]] λl=>Qc R (Y9 ((d.length+l.length)*16)) λk=>ZI n b e c k0 m (wJ (a+1)) (d++l)else k0 a (decide (a<c)) d
def YR(n:Nat)(b c:Int)(d:LL)(k0:QlL R):QlM R
|0,_,_=>none
|m+1,a,e=>bif decide (a<c)then Ql2 R d.length a d a.toNat λf=>Qc R f[0]? λi=>Qc R f[1]? λj=>QkZ R j i λg h=>Qb R [[Ql g,Ql (wJ (wJ (h+b)-1))]] λo=>Qc R (Y9 ((e.length+o.length)*16)) λl=>YR n b c d k0 m (wJ (a+1)) (e++o)else k0 a (decide (a<c)) e
def WQ(a0:Int)(a1 a2:LL)(K:QlR R):oP R:=Qc R (Jt n a0 a1 a2 Tu2) λa=>bif a.2 !=0 then K [] a.2 else Qc R (Ty n a0 a.1 some) λh=>bif h==a0 then K [] 13 else Qb R (a.1.length:Int) λai=>Qa R (decide (ai>1)) λg=>Qlw R a.1.length 0 g a.1 (Int.toNat 0) λc5=>Qd R g (pIw c5) λb=>Qa R (Q9 g (b==0)) λad=>Qb R (wJ (ai-1)) λae=>Qd R ad (inB a.1.length ae) λu=>Qb R (Int.toNat ae) λah=>Qd R ad a.1[ah]? λj=>Qd R ad j[1]? λk=>Qd R ad (pIw k) λl=>bif Q9 ad (l==a0)then Qln R a.1.length ae a.1 ah λc=>Qln R a.1.length 0 a.1 (Int.toNat 0) λd=>Ql2 R a.1.length ae a.1 ah λe=>Qb R (List.set a.1 ah (List.set e 1 (Ql (wJ (c+d))))) λag=>Qc R (slB (List.length ag) (some 1) none) λf=>ZI n a0 (cut ag f) ((List.length (cut ag f):Nat):Int) (λz aa r=>K r 0) n 0 []else YR n a0 ai a.1 (λab ac s=>K s 0) n 0 []
def QR(c d:Int)(e:LL)(b:Int)(k0:QlL R):QlM R
|0,_,_=>none
|m+1,a,f=>bif decide (a<b)then Qld R e a λh i=>Qc R (YA n c some) λj=>Qc R (YA n d some) λk=>QkZ R h i λl o=>Qc R (Xt n f 6 j k l o 0 some) λp=>QR c d e b k0 m (wJ (a+1)) p else k0 a (decide (a<b)) f
def X7(e h:Int)(b i:LL)(k0:QlT R)(k1:QlL R):QlM R
|0,_,_=>none
|m+1,a,g=>Qa R (decide (a<(b.length:Int))) λc=>bif c then gb true (Yd n b i e a some) (λ_=>false) λk=>Qli R b e λp=>gb true (Us n p k Tu2) ([],λ_=>false) λj=>Qli R b a λs=>gb true (Us n s j.2 Tu2) ([],λ_=>false) λt=>Qc R (WQ n h j.1 t.1 Tu2) λf=>bif f.2 !=0 then k0 f.2 g else QR n e a f.1 (f.1.length:Int) (λv x u=>X7 e h b i k0 k1 m (wJ (a+1)) u) n 0 g else k1 a c g
def QH(a b:Int)(c d:LL)(k0:QlT R)(k1:QlL R):QlM R
|0,_,_=>none
|m+1,h2,h5=>bif decide (h2<a)then X7 n h2 b c d (λe f=>k0 e f) (λh i g=>QH a b c d k0 k1 m (wJ (h2+1)) g) n (wJ (h2+1)) h5 else k1 h2 (decide (h2<a)) h5
def Ys(b:Int)(a c d:LL)(K:QlT R):oP R:=QH n (a.length:Int) b a c (λe f=>K e f) (λh i g=>K 0 g) n 0 d
def Ew(n:Nat)(a0 a1:Int)(K:QlI R):oP R:=bif decide (a1<1)then K 0 else Qc R (nz a1) λa=>Qb R (Int.tmod a0 a1) λb=>bif decide (b<0)then K (wJ (b+a1))else K b
def Z8(n:Nat)(d:LL)(k0:oP R)(k1:QlJ R):QlK R
|0,_=>none
|m+1,h2=>Qa R (decide (h2<(d.length:Int))) λad=>bif ad then Ql3 R d h2 λa=>Qa R (!(decide (a<0))&&decide (h2>0)) λab=>QlA R d h2 ab λb=>QlA R d (wJ (h2-1)) ab λc=>Qa R (Q8 (decide (a<0)) (Q9 (decide (h2>0)) (decide (b<=c)))) λaa=>Qls R d h2 (!aa) λe=>Qa R (Q8 aa (decide (e<(-65536:Int)))) λz=>Qd R (!z) (Qi d h2) λq=>Qd R (!z) q[2]? λr=>Qd R (!z) (pIw r) λf=>Qa R (Q8 z (decide (f>65536))) λac=>Qls R d h2 (!ac) λu=>Qd R (!ac) (Qi d h2) λv=>Qd R (!ac) v[2]? λx=>Qd R (!ac) (pIw x) λy=>bif Q8 ac (decide (u>=y))then k0 else Z8 n d k0 k1 m (wJ (h2+1))else k1 h2 ad
def JU(a0:LL)(K:QlN R):oP R:=Z8 n a0 (K false) (λa b=>K true) n 0
def Uu(n:Nat)(b:LL)(h2:Int)(k0:D->D->D->oP R)(k1:QlJ R):QlK R
|0,_=>none
|m+1,a=>Qa R (decide (a<(b.length:Int))) λj=>bif j then Ql3 R b a λf=>bif f==h2 then Qlf R b a λg h i=>k0 g h i else Uu n b h2 k0 k1 m (wJ (a+1))else k1 a j
def AL(a0:LL)(a1:Int)(K:D->D->D->Bool->oP R):oP R:=Uu n a0 a1 (λa b c=>K a b c true) (λd e=>K (Ql 0) (Ql 0) (Ql 0) false) n 0
def Zi(b:Int)(f:LL)(g d:Int)(h:D)(k0:QlL R):QlM R
|0,_,_=>none
|m+1,a,c=>Qa R (Q9 (decide (a<d)) (decide (a<b))) λq=>bif q then QlC R f g λj=>QkZ R j h λk l=>Qc R (Ew n (wJ (wJ (wJ (k-l)+1)+a)) b some) λe=>Ql2 R c.length e c e.toNat λo=>Zi b f g d h k0 m (wJ (a+1)) (List.set c e.toNat (List.set o 0 (D.bool true)))else k0 a q c
def Yj(h6:Int)(h7 c:LL)(k0:QlL R):QlM R
|0,_,_=>none
|m+1,a,d=>Qa R (decide (a<(h7.length:Int))) λh=>bif h then Ql3 R h7 a λg=>gb true (AL n c g Tu4) (.bool false,.bool false,.bool false,false) λb=>bif !b.2.2.2 then Yj h6 h7 c k0 m (wJ (a+1)) d else Qlz R h7 a λp=>QlC R h7 a λr=>Qlt R r b.2.2.1 b.2.1 λs t u=>Zi n h6 h7 a (wJ (wJ (wJ (wJ (p-s)+t)-u)-1)) b.2.2.1 (λx y v=>Yj h6 h7 c k0 m (wJ (a+1)) v) n 0 d else k0 a h d
def Hh(a0:Int)(a1 a2:LL)(K:QlR R):oP R:=Qc R (VR n a0 1 7200 some) λb=>bif !b then K [] 4 else Qc R (JU n a1 some) λa=>Qd R (!(!a)) (JU n a2 some) λc=>bif Q8 (!a) (!c)then K [] 1 else gb true (bif decide (0<=a0)&&decide (a0<=a0)then some ()else none) () λe=>Qc R (Y9 (Int.toNat a0*1)) λf=>Yj n a0 a1 a2 (λg h d=>K d 0) n 0 (List.replicate a0.toNat [D.bool false])
def WJ(n:Nat)(h2:Int)(a:LL)(k0:QlQ R):QlS R
|0,_,_=>none
|m+1,b,h5=>bif decide (h5<h2)then Ql0 R a h5 λd=>Qc R (PV d) λe=>bif e then WJ n h2 a k0 m (wJ (b+1)) (wJ (h5+1))else WJ n h2 a k0 m b (wJ (h5+1))else k0 b h5 (decide (h5<h2))
def WT(n:Nat)(a:Int)(c:LL)(d:Int)(k0:QlJ R):QlK R
|0,_=>none
|m+1,b=>Qc R (nz a) λh=>Ql0 R c (Int.tmod (wJ (d+b)) a) λg=>Qc R (PV g) λe=>bif e then WT n a c d k0 m (wJ (b+1))else k0 b e
def Yy(b:Int)(c:LL)(k0:QlL R):QlM R
|0,_,_=>none
|m+1,a,e=>bif decide (a<b)then Ql0 R c a λh=>Qc R (PV h) λd=>Qd R (!(!d)) (Ew n (wJ (a-1)) b some) λi=>Qd R (!(!d)) (Qi c i) λj=>Qd R (!(!d)) j[0]? λk=>Qd R (!(!d)) (PV k) λl=>bif Q8 (!d) l then Yy b c k0 m (wJ (a+1)) e else WT n b c a (λf o=>Qb R [[Ql (wJ (a+f)),Ql (wJ (wJ (a+b)-1))]] λq=>Qc R (Y9 ((e.length+q.length)*16)) λp=>Yy b c k0 m (wJ (a+1)) (e++q)) n 0 else k0 a (decide (a<b)) e
def Hv(a0:Int)(a1 a2:LL)(K:QlR R):oP R:=Qc R (Hh n a0 a1 a2 Tu2) λa=>bif a.2 !=0 then K [] a.2 else WJ n a0 a.1 (λc e f=>bif c==a0 then K [] 13 else Yy n a0 a.1 (λg h d=>K d 0) n 0 []) n 0 0
def Ju(n:Nat)(b:Int)(a:LL)(k0:oP R)(k1:QlJ R):QlK R
|0,_=>none
|m+1,h5=>Qa R (decide (h5<(a.length:Int))) λi=>bif i then Qlz R a h5 λe=>Qlb R a h5 λh=>bif decide (wJ (e-h)>b)then k0 else Ju n b a k0 k1 m (wJ (h5+1))else k1 h5 i
def L4(a0:Int)(a1:LL)(K:QlN R):oP R:=Qc R (VR n a0 1 7200 some) λa=>Qd R (!(!a)) (JU n a1 some) λb=>bif Q8 (!a) (!b)then K false else Ju n a0 a1 (K false) (λc d=>K true) n 0
def Jw(n:Nat)(b:Int)(h7:LL)(k0:QlQ R):QlS R
|0,_,_=>none
|m+1,h2,a=>bif decide (a<b)then Qlc R h7 a λe=>Jw n b h7 k0 m (wJ (h2+(e.length:Int))) (wJ (a+1))else k0 h2 a (decide (a<b))
def U7(a:LL)(a1:Int)(K:QlI R):oP R:=Jw n a1 a (λb c d=>K b) n 0 0
def Wo(c:LL)(f:Int)(g h:LL)(d:D)(k0:QlL R):QlM R
|0,_,_=>none
|m+1,a,e=>Qc R (pSl 4 d) λk=>Qa R (decide (a<(k.length:Int))) λaj=>bif aj then Qc R (U7 n g f some) λb=>Qc R (pSl 4 d) λaa=>Ql9 R aa a λi l=>Qlx R i λab ac=>Qc R (pSl 4 d) λad=>Qb R (wJ (b+a)) λak=>bif decide (a<wJ ((ad.length:Int)-1))then Ql0 R c ak λag=>QkZ R ag ab λo p=>Ql0 R c ak λai=>Qlt R ai l ac λq r s=>Qb R [[Ql ak,Ql (wJ (ak+1)),Ql (wJ (o+p)),Ql (wJ (wJ (q+r)+s))]] λal=>Qc R (Y9 ((e.length+al.length)*32)) λaw=>Wo c f g h d k0 m (wJ (a+1)) (e++al)else Qc R (SO n h f Tu5) λj=>bif j.2.2.2.2 then Qc R (pIw j.2.1) λao=>Qc R (U7 n g ao some) λt=>Ql0 R c ak λaq=>QkZ R aq j.2.2.1 λu v=>Ql0 R c ak λau=>Qlt R au l j.2.2.2.1 λx y z=>Qb R [[Ql ak,Ql t,Ql (wJ (u+v)),Ql (wJ (wJ (x+y)+z))]] λam=>Qc R (Y9 ((e.length+am.length)*32)) λa4=>Wo c f g h d k0 m (wJ (a+1)) (e++am)else Wo c f g h d k0 m (wJ (a+1)) e else k0 a aj e
def Ux(b h6 c:LL)(k0:QlL R):QlM R
|0,_,_=>none
|m+1,h2,d=>Qa R (decide (h2<(h6.length:Int))) λl=>bif l then Qlp R h6 h2 λa=>Qlm R a λe=>Wo n b h2 h6 c e (λj k f=>Ux b h6 c k0 m (wJ (h2+1)) f) n 0 d else k0 h2 l d
def Rh(a b a1:LL)(K:QlO R):oP R:=Ux n a1 a b (λd e c=>K c) n 0 []
def Z7(n:Nat)(b:LL)(h2:Int)(k0:D->D->D->oP R)(k1:QlJ R):QlK R
|0,_=>none
|m+1,a=>Qa R (decide (a<(b.length:Int))) λj=>bif j then Ql3 R b a λf=>bif f==h2 then Qlf R b a λg h i=>k0 g h i else Z7 n b h2 k0 k1 m (wJ (a+1))else k1 a j
def VE(a0:LL)(a1:Int)(K:D->D->D->Bool->oP R):oP R:=Z7 n a0 a1 (λa b c=>K a b c true) (λd e=>K (Ql 0) (Ql 0) (Ql 0) false) n 0
def Sj(a0:LL)(g h i a2:Int)(K:D->D->D->D->D->D->Bool->oP R):oP R:=Qli R a0 g λk=>gb true (VE n k a2 Tu4) (.bool false,.bool false,.bool false,false) λa=>Qli R a0 h λm=>gb true (VE n m a2 Tu4) (.bool false,.bool false,.bool false,false) λb=>Qa R (Q9 a.2.2.2 b.2.2.2) λd=>Ql7 R b.2.1 d a.2.2.1 λo p=>K a.1 a.2.1 a.2.2.1 b.1 b.2.1 b.2.2.1 (Q9 d (decide (wJ (i+o)<=p)))
def UM(b:LL)(h2 c h5 h6 h7:Int)(k0:oP R)(k1:QlJ R):QlK R
|0,_=>none
|m+1,a=>Qli R b c λl24=>Qa R (decide (a<(l24.length:Int))) λs=>bif s then Qli R b c λo=>Ql3 R o a λr=>Qc R (Sj n b c h5 h6 r Tu7) λd=>bif d.2.2.2.2.2.2 then Qlr R d.2.2.1 d.2.2.2.2.2.1 d.2.1 d.2.2.2.2.1 λe f g h=>bif decide (wJ ((if e<wJ (h7+f)then wJ (h7+f)else e)-(if wJ (h6+h)<g then wJ (h6+h)else g))>h2)then k0 else UM b h2 c h5 h6 h7 k0 k1 m (wJ (a+1))else UM b h2 c h5 h6 h7 k0 k1 m (wJ (a+1))else k1 a s
def RX(a0:LL)(a b c d a2:Int)(K:QlN R):oP R:=UM n a0 a2 a b c d (K false) (λe f=>K true) n 0
def UG(e:LL)(l:Int)(o:LL)(f c:D)(k0:QlL R):QlM R
|0,_,_=>none
|m+1,a,d=>Qc R (pSl 4 c) λp=>Qa R (decide (a<(p.length:Int))) λah=>bif ah then Qc R (U7 n o l some) λb=>Qc R (pSl 4 c) λt=>Ql9 R t a λg u=>Qlx R g λv x=>Ql3 R e (wJ (b+a)) λh=>Ql0 R e (wJ (b+a)) λab=>Qlt R ab u f λi j k=>Qb R (wJ (2*wJ (b+a))) λaj=>Qb R [[Ql 1,Ql aj,Ql (wJ (aj+1)),Ql h,Ql (wJ (i+j)),Ql k]] λai=>Qc R (Y9 ((d.length+ai.length)*48)) λae=>Qc R (pSl 4 c) λac=>bif decide (a<wJ ((ac.length:Int)-1))then Qlt R v x f λq r s=>Qb R [[Ql 2,Ql (wJ (aj+1)),Ql (wJ (aj+2)),Ql q,Ql r,Ql s]] λak=>Qc R (Y9 ((List.length (d++ai)+ak.length)*48)) λag=>UG e l o f c k0 m (wJ (a+1)) (d++ai++ak)else UG e l o f c k0 m (wJ (a+1)) (d++ai)else k0 a ah d
def UD(b h6:LL)(k0:QlL R):QlM R
|0,_,_=>none
|m+1,h2,c=>Qa R (decide (h2<(h6.length:Int))) λk=>bif k then Qlp R h6 h2 λa=>Qlx R a λd e=>UG n b h2 h6 d e (λi j f=>UD b h6 k0 m (wJ (h2+1)) f) n 0 c else k0 h2 k c
def Rc(a a1:LL)(K:QlO R):oP R:=UD n a1 a (λc d b=>K b) n 0 []
def UE(h5 h6:LL)(k0:QlL R):QlM R
|0,_,_=>none
|m+1,b,c=>Qa R (decide (b<(h6.length:Int))) λx=>bif x then Ql1 R h6 b λa k l o=>Qla R a λp q r=>Qc R a[6]? λs=>Qc R (pIw k) λt=>Qc R (U7 n h5 t some) λd=>QkZ R l o λe u=>Qc R (U7 n h5 u some) λf=>Qlr R p q r s λg h i j=>Qb R [[Ql 3,Ql (wJ (wJ (2*wJ (d+e))+1)),Ql (wJ (2*wJ (f+g))),Ql h,Ql i,Ql j]] λy=>Qc R (Y9 ((c.length+y.length)*48)) λv=>UE h5 h6 k0 m (wJ (b+1)) (c++y)else k0 b x c
def Wm(b c:LL)(k0:QlL R):QlM R
|0,_,_=>none
|m+1,a,e=>Qa R (decide (a<(c.length:Int))) λx=>bif x then Qll R c a λf l o p=>Qc R (pIw f) λq=>Qc R (U7 n b q some) λg=>Qc R (pIw f) λr=>Qlc R b r λh=>Qc R (pIw l) λu=>Qc R (U7 n b u some) λi=>QkZ R o p λj k=>Qb R [[Ql 4,Ql (wJ (wJ (2*wJ (g+(h.length:Int)))-1)),Ql (wJ (2*i)),Ql j,Ql k,Ql 1]] λy=>Qc R (Y9 ((e.length+y.length)*48)) λv=>Wm b c k0 m (wJ (a+1)) (e++y)else k0 a x e
def Zp(d c:LL)(k0:QlL R):QlM R
|0,_,_=>none
|m+1,a,e=>Qa R (decide (a<(c.length:Int))) λv=>bif v then Qlu R c a λo p q r f=>Qc R (pIw o) λs=>Qc R (U7 n d s some) λg=>QkZ R p q λh t=>Qc R (U7 n d t some) λi=>QkZ R r f λj k=>Qc R (pIw f) λl=>Qb R [[Ql 5,Ql (wJ (2*wJ (g+h))),Ql (wJ (2*wJ (i+j))),Ql k,Ql l,Ql 0]] λx=>Qc R (Y9 ((e.length+x.length)*48)) λu=>Zp d c k0 m (wJ (a+1)) (e++x)else k0 a v e
def RW(a b c d:LL)(K:QlO R):oP R:=UE n a b (λh i e=>Wm n a c (λj k f=>Zp n a d (λl m g=>K g) n 0 f) n 0 e) n 0 []
def Z2(g e:LL)(a b j:Int)(k0:Bool->Int->Bool->oP R):Nat->Bool->Int->oP R
|0,_,_=>none
|m+1,k,c=>Qa R (decide (c<(e.length:Int))) λam=>bif am then Ql3 R e c λd=>Qls R e c (d==a) λf=>Qa R (Q9 (d==a) (f==b)) λal=>QlA R e c (!al) λh=>Qa R (!al&&h==b) λan=>Qls R e c an λv=>bif Q8 al (Q9 (h==b) (v==a))then Qll R e c λx y z aa=>Qli R g a λad=>Ql0 R ad j λag=>Qlr R ag x y z λah ai aj ak=>Qc R (pIw aa) λau=>Qc R (Sj n g ai aj ak ah Tu7) λar=>Z2 g e a b j k0 m (Q8 k ar.2.2.2.2.2.2) (wJ (c+1))else Z2 g e a b j k0 m k (wJ (c+1))else k0 k c am
def ZW(a h2:LL)(b c:Int)(k0:QlL R):QlM R
|0,_,_=>none
|m+1,h5,h6=>Qli R a b λe=>Qa R (decide (h5<(e.length:Int))) λt=>bif t then Z2 n a h2 b c h5 (λk q r=>bif !k then Qli R a b λp=>Qlf R p h5 λf g h=>Qc R (Y9 ((h6.length+[[f,g,h]].length)*24)) λs=>ZW a h2 b c k0 m (wJ (h5+1)) (h6++[[f,g,h]])else ZW a h2 b c k0 m (wJ (h5+1)) h6) n false 0 else k0 h5 t h6
def GS(a0 a1:LL)(a2 a:Int)(K:QlO R):oP R:=ZW n a0 a1 a2 a (λc d b=>K b) n 0 []
def UQ(h2:LL)(h5:Int)(k0:oP R)(k1:QlJ R):QlK R
|0,_=>none
|m+1,a=>Qa R (decide (a<(h2.length:Int))) λf=>bif f then Qli R h2 a λd=>Qc R (L4 n h5 d some) λe=>bif !e then k0 else UQ h2 h5 k0 k1 m (wJ (a+1))else k1 a f
def UR(d b:LL)(e:Int)(k0:oP R)(k1:QlJ R):QlK R
|0,_=>none
|m+1,a=>Qa R (decide (a<(b.length:Int))) λq=>bif q then Qll R b a λf g h i=>Qlr R f g h i λj k l o=>Qc R (RX n d j k l o e some) λp=>bif !p then k0 else UR d b e k0 k1 m (wJ (a+1))else k1 a q
def VQ(n:Nat)(b:Int)(d:LL)(k0:QlL R):QlM R
|0,_,_=>none
|m+1,a,c=>Qlc R d b λe=>Qa R (decide (a<(e.length:Int))) λi=>bif i then Qb R [[Ql 1,Ql b,Ql a],[Ql 2,Ql b,Ql a]] λj=>Qc R (Y9 ((c.length+List.length j)*24)) λh=>VQ n b d k0 m (wJ (a+1)) (c++j)else k0 a i c
def Wq(b:LL)(k0:QlL R):QlM R
|0,_,_=>none
|m+1,a,c=>Qa R (decide (a<(b.length:Int))) λg=>bif g then VQ n a b (λe f d=>Wq b k0 m (wJ (a+1)) d) n 0 c else k0 a g c
def UN(n:Nat)(c d:Int)(b:LL)(k0:QlL R):QlM R
|0,_,_=>none
|m+1,a,e=>Qa R (decide (a<(b.length:Int))) λo=>bif o then Ql3 R b a λf=>Qlb R b a λg=>Qb R [[Ql 6,Ql (wJ (2*c)),Ql (wJ (2*d)),Ql f,Ql g,Ql 0]] λp=>Qc R (Y9 ((e.length+p.length)*48)) λl=>UN n c d b k0 m (wJ (a+1)) (e++p)else k0 a o e
def VM(b d:LL)(c e:Int)(k0:oP R)(k1:QlL R):QlM R
|0,_,_=>none
|m+1,a,f=>Qa R (decide (a<(b.length:Int))) λj=>bif j then Qc R (GS n b d c a some) λh=>Qc R (GS n b d a c some) λi=>Qc R (Hv n e h i Tu2) λg=>bif g.2 !=0 then k0 else UN n c a g.1 (λo p l=>VM b d c e k0 k1 m (wJ (a+1)) l) n 0 f else k1 a j f
def UJ(b c:LL)(d:Int)(k0:oP R)(k1:QlL R):QlM R
|0,_,_=>none
|m+1,a,e=>Qa R (decide (a<(b.length:Int))) λi=>bif i then VM n b c a d k0 (λg h f=>UJ b c d k0 k1 m (wJ (a+1)) f) n (wJ (a+1)) e else k1 a i e
def UA(k l m o:LL)(b:Int)(p q c e d f r:LL)(K:Int->LL->LL->Int->oP R):oP R:=gb true (RJ n k l m o b p q c e d f r Tu3) ([],[],0) λa=>bif a.2.2 !=0 then K 0 [] [] a.2.2 else bif decide (wJ (2*(a.1.length:Int))>48)then K 0 [] [] 7 else UQ n a.1 b (K 0 [] [] 13) (λv x=>Qc R (Rh n c d a.2.1 some) λg=>UR n a.1 g b (K 0 [] [] 13) (λy z=>Wq n c (λaa ab u=>Qc R (Rc n c a.2.1 some) λh=>Qc R (RW n c e d f some) λi=>Qc R (Y9 ((h.length+i.length)*48)) λac=>UJ n a.1 g b (K 0 [] [] 13) (λad ae j=>bif decide ((j.length:Int)>512)then K 0 [] [] 7 else K b u j 0) n 0 (h++i)) n 0 []) n 0) n 0
def GE(n:Nat)(b:Int)(a c:LL)(a1:Int)(K:QlN R):oP R:=K (Q9 (decide (a1>=0)) (decide (a1<(a.length:Int))))
def Uf(l:LL)(h2 e:Int)(h5 h6:LL)(k0:oP R)(k1:QlJ R):QlK R
|0,_=>none
|m+1,c=>bif decide (c<h2)then Ql9 R l c λa o=>Qc R a[2]? λp=>Qla R a λh i q=>Qc R (pIw o) λs=>Qc R (GE n e h5 h6 s some) λd=>Qd R (!(!d)) (pIw p) λt=>Qd R (!(!d)) (GE n e h5 h6 t some) λj=>Qa R (Q8 (!d) (!j)) λad=>Ql7 R o (!ad) p λu v=>bif Q8 ad (u==v)then k0 else Qc R (pIw h) λb=>Qa R (decide (b<(-65536:Int))) λac=>Ql7 R h (!ac) i λf g=>Qa R (Q8 ac (decide (f>g))) λae=>Qd R (!ae) (pIw i) λk=>Qa R (Q8 ae (decide (k>65536))) λab=>Ql7 R i (!ab) h λx y=>bif Q8 ab (decide (wJ (x-y)>=e))then k0 else Qc R (pIw q) λr=>Qd R (!(decide (r<0))) (pIw q) λz=>bif Q8 (decide (r<0)) (decide (z>1048576))then k0 else Uf l h2 e h5 h6 k0 k1 m (wJ (c+1))else k1 c (decide (c<h2))
def TC(b:Int)(c a:LL)(K:QlN R):oP R:=bif Q8 (Q8 (Q8 (decide (b<2)) (decide (b>7200))) (decide ((c.length:Int)>48))) (decide ((a.length:Int)>512))then K false else Uf n a (a.length:Int) b c a (K false) (λd e=>K true) n 0
def Vc(n:Nat)(h2:LL)(b h5:Int)(k0:oP R)(k1:QlJ R):QlK R
|0,_=>none
|m+1,a=>bif decide (a<b)then Ql3 R h2 a λc=>bif Q8 (decide (c<0)) (decide (c>=h5))then k0 else Vc n h2 b h5 k0 k1 m (wJ (a+1))else k1 a (decide (a<b))
def Gl(a:Int)(b c a1:LL)(K:QlN R):oP R:=Qc R (TC n a b c some) λd=>bif Q8 (!d) ((a1.length:Int) !=(b.length:Int))then K false else Vc n a1 (a1.length:Int) a (K false) (λe f=>K true) n 0
def G2(n:Nat)(a0 a1 a2:Int)(K:QlN R):oP R:=K (Q9 (decide (a0>=a1)) (decide (a0<=a2)))
def VN(j:Int)(k h5:LL)(k0:oP R)(k1:QlJ R):QlK R
|0,_=>none
|m+1,h2=>Qa R (decide (h2<(h5.length:Int))) λag=>bif ag then Ql9 R h5 h2 λg r=>Qc R g[2]? λs=>Qla R g λl o t=>Qc R (pIw r) λu=>Qb R (wJ ((k.length:Int)-1)) λah=>Qc R (G2 n u 0 ah some) λa=>Qd R (!(!a)) (pIw s) λv=>Qd R (!(!a)) (G2 n v 0 ah some) λb=>Qa R (Q8 (!a) (!b)) λae=>Ql7 R r (!ae) s λc d=>Qd R (!(Q8 ae (c==d))) (pIw l) λe=>Qa R (Q8 (Q8 ae (c==d)) (decide (e<(-65536:Int)))) λac=>Qd R (!ac) (pIw o) λf=>Qa R (Q8 ac (decide (f>65536))) λaa=>Ql7 R l (!aa) o λh i=>Qa R (Q8 aa (decide (h>i))) λad=>Ql7 R o (!ad) l λp q=>Qa R (Q8 ad (decide (wJ (p-q)>=j))) λab=>Qd R (!ab) (pIw t) λx=>Qd R (!ab) (G2 n x 0 1048576 some) λy=>bif Q8 ab (!y)then k0 else VN j k h5 k0 k1 m (wJ (h2+1))else k1 h2 ag
def Uy(a:Int)(b c:LL)(K:QlN R):oP R:=Qc R (G2 n a 2 7200 some) λd=>bif Q8 (Q8 (!d) (decide ((b.length:Int)>48))) (decide ((c.length:Int)>512))then K false else VN n a b c (K false) (λe f=>K true) n 0
def Jr(h2:LL)(b:Int)(k0:oP R)(k1:QlJ R):QlK R
|0,_=>none
|m+1,a=>Qa R (decide (a<(h2.length:Int))) λg=>bif g then Ql3 R h2 a λe=>Qc R (G2 n e 0 (wJ (b-1)) some) λf=>bif !f then k0 else Jr h2 b k0 k1 m (wJ (a+1))else k1 a g
def Gk(a:Int)(b c a1:LL)(K:QlN R):oP R:=Qc R (Uy n a b c some) λd=>bif Q8 (!d) ((a1.length:Int) !=(b.length:Int))then K false else Jr n a1 a (K false) (λe f=>K true) n 0
def Q2G(n:Nat)(a0 a1 a2:Int)(K:QlN R):oP R:=K (Q9 (decide (a0>=a1)) (decide (a0<=a2)))
def Zk(n:Nat)(d e c:Int)(k0:QlL R):QlM R
|0,_,_=>none
|m+1,a,b=>bif decide (a<c)then Ql5 R b.length a b a.toNat λh=>bif h==e then Ql2 R b.length a b a.toNat λi=>Zk n d e c k0 m (wJ (a+1)) (List.set b a.toNat (List.set i 0 (Ql d)))else Zk n d e c k0 m (wJ (a+1)) b else k0 a (decide (a<c)) b
def JT(a:LL)(i b c j k l:Int)(K:Bool->LL->oP R):oP R:=Ql5 R a.length b a b.toNat λd=>Ql5 R a.length c a c.toNat λe=>bif d==e then K false a else Zk n d e (a.length:Int) (λp q h=>K true h) n 0 a
def Zm(n:Nat)(b:Int)(k0:QlL R):QlM R
|0,_,_=>none
|m+1,h5,a=>bif decide (h5<b)then Ql2 R a.length h5 a h5.toNat λc=>Zm n b k0 m (wJ (h5+1)) (List.set a h5.toNat (List.set c 0 (Ql h5)))else k0 h5 (decide (h5<b)) a
def Zj(c:LL)(k0:QlL R):QlM R
|0,_,_=>none
|m+1,b,d=>Qa R (decide (b<(c.length:Int))) λt=>bif t then Ql1 R c b λa f g h=>Qla R a λi j k=>Qlr R f g h i λl o p q=>QkZ R j k λr s=>gb true (JT n d l o p q r s Tu2) (false,[]) λe=>Qc R (Rf e.2 d.length) λv=>Zj c k0 m (wJ (b+1)) e.2 else k0 b t d
def YG(n:Nat)(a:Int)(d:LL)(k0:QlL R):QlM R
|0,_,_=>none
|m+1,b,c=>bif decide (b<a)then Ql5 R d.length b d b.toNat λg=>Ql5 R d.length a d a.toNat λj=>bif g==j then Ql5 R c.length b c b.toNat λo=>Ql2 R c.length a c a.toNat λp=>YG n a d k0 m (wJ (b+1)) (List.set c a.toNat (List.set p 0 (Ql o)))else YG n a d k0 m (wJ (b+1)) c else k0 b (decide (b<a)) c
def YH(c:Int)(f:LL)(k0:Qm4 R):QlX R
|0,_,_,_=>none
|m+1,d,a,e=>bif decide (a<c)then Ql2 R e.length a e a.toNat λg=>YG n a f (λo p b=>Ql5 R b.length a b a.toNat λj=>bif decide (j<0)then Ql2 R b.length a b a.toNat λk=>YH c f k0 m (wJ (d+1)) (wJ (a+1)) (List.set b a.toNat (List.set k 0 (Ql d)))else YH c f k0 m d (wJ (a+1)) b) n 0 (List.set e a.toNat (List.set g 0 (Ql (-1:Int))))else k0 d a (decide (a<c)) e
def G1(d:Int)(a c:LL)(K:QlO R):oP R:=Qc R (Uy n d a c some) λe=>bif !e then K []else Qb R (a.length:Int) λu=>gb true (bif decide (0<=u)&&decide (u<=u)then some ()else none) () λh=>Qb R (Int.toNat u) λv=>Qc R (Y9 (v*8)) λi=>Zm n ((List.length (List.replicate v [Ql 0]):Nat):Int) (λj k f=>Zj n c (λl m b=>Qb R (b.length:Int) λt=>gb true (bif decide (0<=t)&&decide (t<=t)then some ()else none) () λo=>Qc R (Y9 (Int.toNat t*8)) λp=>YH n t b (λq r s g=>K g) n 0 0 (List.replicate (Int.toNat t) [Ql 0])) n 0 f) n 0 (List.replicate v [Ql 0])
def YV(n:Nat)(d:LL)(a:Int)(k0:QlL R):QlM R
|0,_,_=>none
|m+1,b,c=>bif decide (b<a)then Ql3 R d b λg=>Ql3 R d a λj=>bif g==j then Ql2 R c.length a c a.toNat λk=>YV n d a k0 m (wJ (b+1)) (List.set c a.toNat (List.set k 0 (D.bool false)))else YV n d a k0 m (wJ (b+1)) c else k0 b (decide (b<a)) c
def ZM(h6:LL)(h7:Int)(k0:QlL R):QlM R
|0,_,_=>none
|m+1,a,b=>bif decide (a<h7)then Ql2 R b.length a b a.toNat λc=>YV n h6 a (λf g d=>ZM h6 h7 k0 m (wJ (a+1)) d) n 0 (List.set b a.toNat (List.set c 0 (D.bool true)))else k0 a (decide (a<h7)) b
def K6(b:Int)(a c:LL)(a1:Int)(a2:Bool)(K:Int->LL->LL->LL->Int->Int->Bool->Bool->Bool->Int->LL->oP R):oP R:=Qc R (G1 n b a c some) λd=>Qb R (a.length:Int) λo=>Qa R (decide (0<=o)&&decide (o<=o)) λl=>gb true (bif l then some ()else none) () λf=>Qb R (Int.toNat o) λp=>Qc R (Y9 (p*8)) λg=>gb true (bif l then some ()else none) () λh=>Qc R (Y9 (p*1)) λi=>ZM n d (d.length:Int) (λj k e=>K b a c e a1 0 false a2 false 0 (List.replicate p [Ql 0])) n 0 (List.replicate p [D.bool false])
def Jc(b:Int)(a1:LL)(c d a:Int)(K:QlI R):oP R:=Ql3 R a1 d λg=>Ql3 R a1 c λi=>Qc R (Ew n (wJ (wJ (g-i)-a)) b some) λj=>K (wJ (a+j))
def Jk(h2:LL)(h5:Int)(h7:LL)(k0:QlQ R):QlS R
|0,_,_=>none
|m+1,c,a=>Qa R (decide (a<(h7.length:Int))) λv=>bif v then Qc R (Qi h7 a) λd=>Qc R d[5]? λe=>Qc R (pIw e) λf=>Ql1 R h7 a λb g h i=>Qla R b λj k l=>Qc R (pIw g) λs=>Qlt R h i j λo p q=>Qlh R k l (Qc R (Jc n h5 h2 o p q some) λr=>Jk h2 h5 h7 k0 m (wJ (c+wJ (f*r))) (wJ (a+1)))else k0 c a v
def L3(a:Int)(c b a1:LL)(K:QlP R):oP R:=Qc R (Gk n a c b a1 some) λd=>bif !d then K 0 1 else Jk n a1 a b (λe f g=>K e 0) n 0 0
def Xj(c:Int)(h5:LL)(h6:Int)(d:LL)(k0:oP R)(k1:QlQ R):QlS R
|0,_,_=>none
|m+1,h2,a=>Qa R (decide (a<(d.length:Int))) λaa=>bif aa then Ql1 R d a λb l f g=>Qla R b λh i e=>Qc R (pIw f) λj=>Qd R (!(decide (j>c))) (pIw g) λo=>bif Q8 (decide (j>c)) (decide (o>c))then QkZ R e h λp q=>Xj c h5 h6 d k0 k1 m (wJ (h2+wJ (p*q))) (wJ (a+1))else Qc R (pIw l) λx=>Qlt R f g h λr s t=>Qlh R i e (Qc R (Jc n h6 h5 r s t some) λk=>Qc R (pIw i) λu=>bif decide (k>u)then k0 else Qc R (pIw e) λv=>Xj c h5 h6 d k0 k1 m (wJ (h2+wJ (v*k))) (wJ (a+1)))else k1 h2 a aa
def Zu(a:Int)(b:LL)(c d:Bool)(e:Int)(f:LL)(a1:Int)(K:QlN R):oP R:=Xj n a1 f a b (K true) (λg h i=>K (Q9 (Q9 c d) (decide (g>=e)))) n 0 0
def Xx(Fr:Int->LL->LL->LL->Int->Int->Bool->Bool->Bool->Int->LL->LL->Int->oP (Bool×Int×LL×LL×LL×Int×Int×Bool×Bool×Bool×Int×LL×LL))(h7 p:Int)(k0:LL->LL->Int->LL->LL->Int->Int->Bool->Bool->Bool->Int->LL->oP R)(k1:Int->Bool->LL->LL->Int->LL->LL->Int->Int->Bool->Bool->Bool->Int->LL->oP R):Nat->Int->LL->LL->Int->LL->LL->Int->Int->Bool->Bool->Bool->Int->LL->oP R
|0,_,_,_,_,_,_,_,_,_,_,_,_,_=>none
|m+1,b,k,c,d,l,e,f,g,q,h,i,j,o=>bif decide (b<p)then Qb R (wJ (g+1)) λv=>bif decide (v>f)then k0 k c d l e f v true h i j o else Ql2 R c.length h7 c h7.toNat λr=>Qb R (List.set c h7.toNat (List.set r 0 (Ql b))) λu=>Qc R (Zu n d e h i j u h7 some) λs=>bif !s then gb true (Fr d l e k f v q h i j o u (wJ (h7+1))) (false,0,[],[],[],0,0,false,false,false,0,[],[]) λa=>Qb R a.2.2.2.2.2.2.2.2.2.2.2.2 λx=>Qb R a.2.2.2.2.2.2.2.2.2.2.2.1 λy=>Qb R a.2.2.2.2.2.2.2.2.2.2.1 λz=>Qb R a.2.2.2.2.2.2.2.2.2.1 λaa=>Qb R a.2.2.2.2.2.2.2.2.1 λab=>bif Q9 true (!a.1)then k0 a.2.2.2.2.1 x a.2.1 a.2.2.1 a.2.2.2.1 a.2.2.2.2.2.1 a.2.2.2.2.2.2.1 a.2.2.2.2.2.2.2.1 ab aa z y else Xx Fr h7 p k0 k1 m (wJ (b+1)) a.2.2.2.2.1 x a.2.1 a.2.2.1 a.2.2.2.1 a.2.2.2.2.2.1 a.2.2.2.2.2.2.1 a.2.2.2.2.2.2.2.1 ab aa z y else bif Q9 false false then k0 k u d l e f v q h i j o else Xx Fr h7 p k0 k1 m (wJ (b+1)) k u d l e f v q h i j o else k1 b (decide (b<p)) k c d l e f g q h i j o
def J8(Fr:Int->LL->LL->LL->Int->Int->Bool->Bool->Bool->Int->LL->LL->Int->oP (Bool×Int×LL×LL×LL×Int×Int×Bool×Bool×Bool×Int×LL×LL))(b:Int)(c d q1:LL)(f g:Int)(h e i:Bool)(j:Int)(k a:LL)(a1:Int)(K:Bool->Int->LL->LL->LL->Int->Int->Bool->Bool->Bool->Int->LL->LL->oP R):oP R:=bif a1==(c.length:Int)then Qc R (Y9 (a.length*8)) λu1=>Qc R (L3 n b c d a Tu2) λo=>K e b c d q1 f g h e true o.1 a a else QlD R q1.length a1 q1 a1.toNat λq=>bif q then Xx n Fr a1 1 (λr s t u v x y z aa ab ac ad=>K false t u v r x y z aa ab ac ad s) (λbv bz ae ag ah ai aj ak al am an ao ap aq=>K true ah ai aj ae ak al am an ao ap aq ag) n 0 q1 a b c d f g h e i j k else Xx n Fr a1 b (λar au av aw ax ay az ba bb bc bd be=>K false av aw ax ar ay az ba bb bc bd be au) (λca cb bg bh bi bj bk bl bm bn bo bp bq br=>K true bi bj bk bg bl bm bn bo bp bq br bh) n 0 q1 a b c d f g h e i j k
def XH :Nat->Int->LL->LL->LL->Int->Int->Bool->Bool->Bool->Int->LL->LL->Int->oP (Bool×Int×LL×LL×LL×Int×Int×Bool×Bool×Bool×Int×LL×LL)
|0,_,_,_,_,_,_,_,_,_,_,_,_,_=>none
|d+1,a,b,c,q1,e,f,g,h,i,j,k,l,a1=>J8 n (XH d) a b c q1 e f g h i j k l a1 Tu13
def Ft(e:Int)(f g:LL)(a1:Int)(a2:Bool)(KA:QlI R)(KB:Int->LL->LL->LL->Int->Int->Bool->Bool->Bool->Int->LL->LL->Int->oP R):oP R:=Qc R (Uy n e f g some) λc=>bif !c then KA 1 else Qc R (Q2G n a1 1 1048576 some) λd=>bif !d then KA 4 else gb true (K6 n e f g a1 a2 Tu11) (0,[],[],[],0,0,false,false,false,0,[]) λb=>gb true (XH n n b.1 b.2.1 b.2.2.1 b.2.2.2.1 b.2.2.2.2.1 b.2.2.2.2.2.1 b.2.2.2.2.2.2.1 b.2.2.2.2.2.2.2.1 b.2.2.2.2.2.2.2.2.1 b.2.2.2.2.2.2.2.2.2.1 [] b.2.2.2.2.2.2.2.2.2.2 0) (false,0,[],[],[],0,0,false,false,false,0,[],[]) λa=>Qb R a.2.2.2.2.2.2.2.1 λi=>bif i then KA 15 else Qb R a.2.2.2.2.2.2.2.2.2.1 λh=>Qb R a.2.2.2.2.2.2.2.2.2.2.2.2 λj=>Qb R a.2.2.2.2.2.2.2.2.2.2.2.1 λk=>Qb R a.2.2.2.2.2.2.2.2.2.2.1 λl=>Qb R a.2.2.2.2.2.2.2.2.1 λo=>bif !h then KB a.2.1 a.2.2.1 a.2.2.2.1 a.2.2.2.2.1 a.2.2.2.2.2.1 a.2.2.2.2.2.2.1 i o h l k j 14 else KB a.2.1 a.2.2.1 a.2.2.2.1 a.2.2.2.2.1 a.2.2.2.2.2.1 a.2.2.2.2.2.2.1 i o h l k j 0
def Zt(e:Int)(f g:LL)(a1:Int)(KA:QlP R)(KB:QlV R):oP R:=gb true (Ft n e f g a1 false (λc=>some (.inl c)) λc d b a h i r6 j k l m o p=>some (.inr (c,d,b,a,h,i,r6,j,k,l,m,o,p))) (.inl 0) λd=>smX d (λb=>bif b==0 then none else bif b==14 then none else KA 0 b) λa=>Qb R a.2.2.2.2.2.2.2.2.2.2.2.2 λq=>bif q==0 then KB a.2.2.2.2.2.2.2.2.2.2.1 a.2.2.2.2.2.1 0 else bif q==14 then KA a.2.2.2.2.2.1 q else KA 0 q
def JX(b:Int)(k l a1:LL)(m c d a o p:Int)(K:QlI R):oP R:=Ql3 R a1 d λg=>Ql3 R a1 c λi=>Qc R (Hy n (wJ (wJ (g-i)-a)) b some) λj=>K (wJ (a+j))
def Uh(h2 c:LL)(b h6:Int)(h7 d:LL)(k0:QlI R)(k1:QlJ R):QlK R
|0,_=>none
|m+1,h5=>bif decide (h5<b)then Ql1 R c h5 λa f g h=>Qla R a λi e j=>Qlr R f g h i λk l o p=>QkZ R e j λq r=>Qc R (JX n h6 h7 d h2 k l o p q r some) λs=>Qc R (pIw e) λt=>bif decide (s>t)then k0 h5 else Uh h2 c b h6 h7 d k0 k1 m (wJ (h5+1))else k1 h5 (decide (h5<b))
def GB(b:Int)(c a a1:LL)(K:QlJ R):oP R:=Qc R (Gl n b c a a1 some) λd=>bif !d then K 0 false else Uh n a1 a (a.length:Int) b c a (λe=>K e true) (λf g=>K 0 false) n 0
def XQ(b:Int)(c d a1:LL)(K:QlN R):oP R:=Qc R (GB n b c d a1 Tu2) λa=>Qd R (!a.2) (Gl n b c d a1 some) λf=>K (Q9 (!a.2) f)
def YK(n:Nat)(b q4:LL)(a1 a2:Int)(K:QlN R):oP R:=Ql3 R b a1 λa=>Qa R (a==2) λh=>Qlw R q4.length a1 h q4 a1.toNat λc6=>Qd R h (pIw c6) λf=>K (Q9 h (f==a2))
def QL(b a:Int)(c d:LL)(k0:QlL R):QlM R
|0,_,_=>none
|m+1,h5,h6=>bif decide (h5<a)then Qc R (YK n d c h5 b some) λe=>bif !e then Ql2 R h6.length h5 h6 h5.toNat λf=>QL b a c d k0 m (wJ (h5+1)) (List.set h6 h5.toNat (List.set f 0 (Ql (-1:Int))))else QL b a c d k0 m (wJ (h5+1)) h6 else k0 h5 (decide (h5<a)) h6
def QC(n:Nat)(b:Int)(g:LL)(d:Int)(e h:LL)(k0:Bool->Int->Bool->LL->oP R):Nat->Bool->Int->LL->oP R
|0,_,_,_=>none
|m+1,i,c,a=>bif decide (c<d)then Ql3 R g c λj=>Qlz R h j λl=>Ql5 R a.length l a l.toNat λk=>bif k==(-1:Int)then QC n b g d e h k0 m i (wJ (c+1)) a else Ql5 R e.length j e j.toNat λo=>Ql5 R a.length b a b.toNat λf=>Qa R (f==(-1:Int)) λak=>Qlw R a.length b (!ak) a b.toNat λab=>Qd R (!ak) (pIw ab) λac=>bif Q8 ak (decide (wJ (o+k)<ac))then Ql2 R a.length b a b.toNat λad=>QC n b g d e h k0 m true (wJ (c+1)) (List.set a b.toNat (List.set ad 0 (Ql (wJ (o+k)))))else QC n b g d e h k0 m i (wJ (c+1)) a else k0 i c (decide (c<d)) a
def Xg(b:Int)(c d e:LL)(k0:Bool->Int->Bool->LL->oP R):Nat->Bool->Int->LL->oP R
|0,_,_,_=>none
|m+1,f,a,g=>bif decide (a<b)then Qle R c.length a c a.toNat λh=>QC n a h (h.length:Int) d e (λk p q l=>Xg b c d e k0 m k (wJ (a+1)) l) n f 0 g else k0 f a (decide (a<b)) g
def QD(b c d:LL)(k0:Bool->LL->oP R):Nat->Bool->LL->oP R
|0,_,_=>none
|m+1,e,a=>bif e then Xg n (a.length:Int) b c d (λf h i g=>QD b c d k0 m f g) n false 0 a else k0 e a
def XC(a b q1 c q4:LL)(a1:Int)(K:QlO R):oP R:=Qb R (a.length:Int) λk=>gb true (bif decide (0<=k)&&decide (k<=k)then some ()else none) () λf=>Qb R (Int.toNat k) λl=>Qc R (Y9 (l*8)) λg=>QL n a1 ((List.length (List.replicate l [Ql 0]):Nat):Int) q4 a (λh i d=>QD n q1 c b (λj e=>K e) n true d) n 0 (List.replicate l [Ql 0])
def Xk(n:Nat)(a a1 a2:Int)(K:QlI R):oP R:=bif Q8 (Q8 (Q8 (Q8 (decide (a1<0)) (decide (a1>=a))) (decide (a2<0))) (decide (a2>=a))) (a1==a2)then K 4 else K 0
def Xb(n:Nat)(f:Int)(h2:LL)(d:Int)(e:LL)(k0:QlL R):QlM R
|0,_,_=>none
|m+1,a,h5=>bif decide (a<d)then Qlv R h2 a λi c=>Qa R (c==1) λu=>Qd R u (pIw i) λg=>Qlw R e.length g u e g.toNat λk=>Qd R u (pIw k) λl=>bif Q9 u (l==f)then Qc R (Y9 ((h5.length+[[Ql a]].length)*8)) λt=>Xb n f h2 d e k0 m (wJ (a+1)) (h5++[[Ql a]])else Xb n f h2 d e k0 m (wJ (a+1)) h5 else k0 a (decide (a<d)) h5
def Yl(a b:LL)(a1:Int)(K:QlO R):oP R:=Xb n a1 a (a.length:Int) b (λd e c=>K c) n 0 []
def X4(n:Nat)(b c:LL)(a:Int)(h7 d:LL)(k0:QlQ R):QlS R
|0,_,_=>none
|m+1,h2,h5=>bif decide (h5<a)then Ql3 R c h5 λe=>Qlz R d e λl=>Ql3 R b l λf=>Qb R (wJ (h5+1)) λt=>bif f==(-1:Int)then X4 n b c a h7 d k0 m h2 t else Ql5 R h7.length e h7 e.toNat λg=>bif Q8 (h2==(-1:Int)) (decide (wJ (g+f)<h2))then X4 n b c a h7 d k0 m (wJ (g+f)) t else X4 n b c a h7 d k0 m h2 t else k0 h2 h5 (decide (h5<a))
def Y8(a b a1 a2:LL)(K:QlI R):oP R:=X4 n a1 a2 (a2.length:Int) b a (λc d e=>K c) n (-1:Int) 0
def Yx(n:Nat)(c b a1:LL)(a2 d:Int)(K:QlN R):oP R:=Qlz R c a2 λg=>Ql3 R a1 g λa=>Qa R (a !=(-1:Int)) λo=>Qlw R b.length a2 o b a2.toNat λj=>Qd R o (pIw j) λk=>K (Q9 o (wJ (k+a)==d))
def Vm(e f g h:LL)(i:Int)(j k l m o p q:LL)(KA:oP R)(KB:QlO R):oP R:=gb true (UA n e f g h i j k l m o p q Tu4) (0,[],[],0) λa=>bif a.2.2.2 !=0 then KA else gb true (Zt n a.1 a.2.1 a.2.2.1 4000 (λb a=>some (.inl (b,a))) λb a c=>some (.inr (b,a,c))) (.inl (0,0)) λc=>smX c (λd=>KA) λr=>KB r.1
def DM(n:Nat)(a0:Int)(K:QlN R):oP R:=K (Q9 (Q9 (decide (a0>=33)) (decide (a0<=126))) (a0 !=35))
def TW(b:Y UInt8)(h2:Int)(k0:oP R)(k1:QlL R):QlM R
|0,_,_=>none
|m+1,a,c=>Qa R (decide (a<(b.length:Int))) λx=>Qd R x (Zo b a) λd=>bif Q9 x (d !=35)then Qc R (Zo b a) λe=>Qd R (!(e==32)) (Zo b a) λi=>Qb R (wJ (a+1)) λaa=>bif Q8 (e==32) (i==9)then TW b h2 k0 k1 m aa c else Qc R (Zo b a) λj=>Qc R (DM n j some) λk=>bif !k then k0 else Qa R (decide (a>0)) λy=>Qd R y (Zo b (wJ (a-1))) λl=>Qd R y (DM n l some) λo=>bif Q9 y o then Qb R (wJ ((c.length:Int)-1)) λz=>Qc R (inB c.length z) λs=>Qb R (Int.toNat z) λac=>Qc R c[ac]? λp=>Qc R p[0]? λq=>Qc R (VA q) λf=>Qc R (slB b.length (some a) (some aa)) λg=>Qc R (Q8H (f.length+List.length (cut b g))) λt=>Ql2 R c.length z c ac λr=>TW b h2 k0 k1 m aa (List.set c ac (List.set r 0 (D.str (f++cut b g))))else Qc R (slB b.length (some a) (some aa)) λh=>Qb R [[D.str (cut b h),Ql h2,Ql aa]] λab=>Qc R (Y9 ((c.length+ab.length)*32)) λv=>TW b h2 k0 k1 m aa (c++ab)else k1 a (Q9 x (d !=35)) c
def Q70(a0:Y UInt8)(a1:Int)(K:QlR R):oP R:=TW n a0 a1 (K [] 2) (λb c a=>bif decide ((a.length:Int)>64)then K [] 7 else K a 0) n 0 []
def Rk(n:Nat)(h5:Y UInt8)(k0:QlJ R):QlK R
|0,_=>none
|m+1,a=>Qa R (decide (a<(h5.length:Int))) λc=>Qd R c (Zo h5 a) λb=>bif Q9 c (b !=10)then Rk n h5 k0 m (wJ (a+1))else k0 a (Q9 c (b !=10))
def Ti(a:Y UInt8)(k0:QlP R)(k1:Qm4 R):QlX R
|0,_,_,_=>none
|m+1,h2,b,d=>Qa R (decide (b<(a.length:Int))) λg=>bif g then Rk n a (λe i=>Qc R (slB a.length (some b) (some e)) λf=>Qc R (Q70 n (cut a f) h2 Tu2) λc=>bif c.2 !=0 then k0 h2 c.2 else bif decide ((c.1.length:Int)>0)then Qc R (Y9 ((d.length+[[D.sl 3 c.1]].length)*24)) λj=>Ti a k0 k1 m (wJ (h2+1)) (wJ (e+1)) (d++[[D.sl 3 c.1]])else Ti a k0 k1 m (wJ (h2+1)) (wJ (e+1)) d) n b else k1 h2 b g d
def DQ(a0:Y UInt8)(K:QlV R):oP R:=bif decide ((a0.length:Int)>65536)then K [] 0 7 else Ti n a0 (λa b=>K [] a b) (λd e f c=>K c 0 0) n 1 0 []
def Hj(h6:Y UInt8)(k0:oP R)(k1:QlQ R):QlS R
|0,_,_=>none
|m+1,b,a=>Qa R (decide (a<(h6.length:Int))) λf=>bif f then Qc R (Zo h6 a) λc=>Qc R (DF n c some) λd=>bif !d then k0 else Qc R (Zo h6 a) λe=>Hj h6 k0 k1 m (wJ (wJ (10*b)+wJ (IntKind.wrap .u8 (e-48)))) (wJ (a+1))else k1 b a f
def U0(a0:Y UInt8)(K:QlJ R):oP R:=Qb R (a0.length:Int) λq=>Qa R (decide (q>0)) λo=>Qd R o (Zo a0 0) λd=>bif Q9 o (d==45)then Qc R (slB a0.length (some 1) none) λa=>Qb R (cut a0 a) λr=>Qb R ((List.length r:Nat):Int) λp=>Qa R (Q8 (decide (p<1)) (decide (p>13))) λk=>Qd R (!k) (Zo r 0) λe=>bif Q8 k (Q9 (e==48) (Q8 (decide (p>1)) (decide ((-1:Int)<0))))then K 0 false else Hj n r (K 0 false) (λb g h=>bif decide (b>1099511627776)then K 0 false else K (wJ ((-1:Int)*b)) true) n 0 0 else Qa R (Q8 (decide (q<1)) (decide (q>13))) λl=>Qd R (!l) (Zo a0 0) λf=>bif Q8 l (Q9 (f==48) (Q8 (decide (q>1)) (decide (1<0))))then K 0 false else Hj n a0 (K 0 false) (λc i j=>bif decide (c>1099511627776)then K 0 false else K (wJ (1*c)) true) n 0 0
def Rq(n:Nat)(b:LL)(h2:Y UInt8)(k0:QlI R)(k1:QlJ R):QlK R
|0,_=>none
|m+1,a=>Qa R (decide (a<(b.length:Int))) λf=>bif f then Ql8 R b a λe=>bif e==h2 then k0 a else Rq n b h2 k0 k1 m (wJ (a+1))else k1 a f
def KL(a0:LL)(a1:Y UInt8)(K:QlI R):oP R:=Rq n a0 a1 (λa=>K a) (λb c=>K (-1:Int)) n 0
def Kw(q1 e a1:LL)(K:QlT R):oP R:=Ql8 R a1 2 λj=>Qc R (U0 n j Tu2) λa=>Ql8 R a1 3 λl=>Qc R (U0 n l Tu2) λb=>Ql8 R a1 4 λp=>Qc R (U0 n p Tu2) λc=>Qa R ((a1.length:Int)==7) λab=>Qa R (Q8 (Q8 (!a.2) (!b.2)) (!c.2)) λac=>Qa R (!ac&&ab) λf=>Qlg R a1 5 f λs=>bif Q8 ac (Q9 ab (!(s==bs [97,116])))then K 2 e else Ql8 R a1 1 λg=>bif ab then Ql8 R a1 6 λy=>Qc R (KL n q1 y some) λh=>bif decide (h<0)then K 3 e else Qb R [[D.str g,Ql a.1,Ql b.1,Ql c.1,Ql h]] λae=>Qc R (Y9 ((e.length+ae.length)*48)) λz=>K 0 (e++ae)else Qb R [[D.str g,Ql a.1,Ql b.1,Ql c.1,Ql (-1:Int)]] λad=>Qc R (Y9 ((e.length+ad.length)*48)) λaa=>K 0 (e++ad)
def S5(n:Nat)(a0:Y UInt8)(K:QlI R):oP R:=bif a0==bs [65]then K 0 else bif a0==bs [66]then K 1 else K (-1:Int)
def P3(q1 h i q4 a1:LL)(K:QlT R):oP R:=Ql8 R a1 2 λl=>Qc R (S5 n l some) λa=>Ql8 R a1 4 λo=>Qc R (S5 n o some) λb=>Qa R (Q8 (decide (a<0)) (decide (b<0))) λam=>Qa R ((a1.length:Int)==7) λan=>Qlg R a1 6 (!am&&an) λf=>Qa R (Q9 an (!(f==bs [48]))) λao=>Qlg R a1 6 (!am&&ao) λt=>bif Q8 am (Q9 ao (!(t==bs [49])))then K 2 q4 else Qc R (Vb n q1 h i q4 some) λg=>Qc R (Lt [g]) λai=>Ql8 R a1 1 λx=>Qc R (KL n g x some) λc=>Ql8 R a1 3 λaa=>Qc R (KL n g aa some) λd=>bif Q8 (decide (c<0)) (decide (d<0))then K 3 q4 else bif an then Ql8 R a1 5 λad=>Qc R (KL n h ad some) λe=>bif decide (e<0)then K 3 q4 else Ql8 R a1 6 λah=>bif ah==bs [49]then Qb R [[Ql c,Ql a,Ql d,Ql b,Ql e,Ql 1]] λau=>Qc R (Y9 ((q4.length+au.length)*48)) λaj=>K 0 (q4++au)else Qb R [[Ql c,Ql a,Ql d,Ql b,Ql e,Ql 0]] λav=>Qc R (Y9 ((q4.length+av.length)*48)) λak=>K 0 (q4++av)else Qb R [[Ql c,Ql a,Ql d,Ql b,Ql (-1:Int),Ql 0]] λar=>Qc R (Y9 ((q4.length+ar.length)*48)) λal=>K 0 (q4++ar)
def M0(q1 a b q4 a1:LL)(K:Int->LL->LL->LL->LL->oP R):oP R:=Qb R (a1.length:Int) λab=>Qa R (ab==2) λaa=>Qlg R a1 0 aa λj=>bif Q9 aa (j==bs [115,116,97,116,105,111,110])then Ql8 R a1 1 λe=>Qc R (Y9 ((q1.length+[[D.str e]].length)*16)) λy=>K 0 (q1++[[D.str e]]) a b q4 else Qlg R a1 0 aa λo=>bif Q9 aa (o==bs [112,111,105,110,116])then Ql8 R a1 1 λf=>Qc R (Y9 ((a.length+[[D.str f]].length)*16)) λz=>K 0 q1 (a++[[D.str f]]) b q4 else Qa R (Q8 (ab==5) (ab==7)) λd=>Qlg R a1 0 d λt=>bif Q9 d (t==bs [115,101,99,116,105,111,110])then gb true (Kw n q1 b a1 Tu2) (0,[]) λg=>K g.1 q1 a g.2 q4 else Qlg R a1 0 d λx=>bif Q9 d (x==bs [108,105,110,107])then gb true (P3 n q1 a b q4 a1 Tu2) (0,[]) λh=>K h.1 q1 a b h.2 else K 2 q1 a b q4
def Rp(h2:LL)(k0:QlP R)(k1:Int->Bool->LL->LL->LL->LL->oP R):Nat->Int->LL->LL->LL->LL->oP R
|0,_,_,_,_,_=>none
|m+1,a,c,h5,h6,h7=>Qa R (decide (a<(h2.length:Int))) λg=>bif g then Qli R h2 a λf=>gb true (M0 n c h5 h6 h7 f Tu5) (0,[],[],[],[]) λb=>bif b.1 !=0 then Qli R h2 a λl24=>Qlb R l24 0 λr=>k0 r b.1 else Rp h2 k0 k1 m (wJ (a+1)) b.2.1 b.2.2.1 b.2.2.2.1 b.2.2.2.2 else k1 a g c h5 h6 h7
def Q1m(a0:Y UInt8)(K:LL->LL->LL->LL->Int->Int->oP R):oP R:=Qc R (DQ n a0 Tu3) λa=>bif a.2.2 !=0 then K [] [] [] [] a.2.1 a.2.2 else Rp n a.1 (λi j=>K [] [] [] [] i j) (λk l b c d e=>Qc R (VJ n b c d e some) λf=>bif f !=0 then K [] [] [] [] 0 f else K b c d e 0 0) n 0 [] [] [] []
def UH(n:Nat)(b:Y UInt8)(a:LL)(k0:QlI R)(k1:QlJ R):QlK R
|0,_=>none
|m+1,h2=>Qa R (decide (h2<(a.length:Int))) λf=>bif f then Ql8 R a h2 λe=>bif e==b then k0 h2 else UH n b a k0 k1 m (wJ (h2+1))else k1 h2 f
def KD(a:LL)(a1:Y UInt8)(K:QlI R):oP R:=UH n a1 a (λb=>K b) (λc d=>K (-1:Int)) n 0
def YS(n:Nat)(c:LL)(d:Int)(k0:oP R)(k1:QlJ R):QlK R
|0,_=>none
|m+1,a=>bif decide (a<d)then Ql8 R c (wJ (a+1)) λb=>Qa R (b==bs [117,112]) λj=>Qlg R c (wJ (a+1)) (!j) λi=>bif Q9 (!j) (!(i==bs [100,111,119,110]))then k0 else YS n c d k0 k1 m (wJ (a+2))else k1 a (decide (a<d))
def Yi(d:LL)(e:Int)(f:LL)(k0:oP R)(k1:QlL R):QlM R
|0,_,_=>none
|m+1,a,b=>bif decide (a<e)then Ql8 R d a λi=>Qc R (KD n f i some) λc=>bif decide (c<0)then k0 else Ql8 R d (wJ (a+1)) λl=>bif l==bs [100,111,119,110]then Qc R (Y9 ((b.length+[[Ql c,Ql 1]].length)*16)) λo=>Yi d e f k0 k1 m (wJ (a+2)) (b++[[Ql c,Ql 1]])else Qc R (Y9 ((b.length+[[Ql c,Ql 0]].length)*16)) λp=>Yi d e f k0 k1 m (wJ (a+2)) (b++[[Ql c,Ql 0]])else k1 a (decide (a<e)) b
def Ta(b a a1:LL)(K:QlT R):oP R:=Qc R (nz 2) λm=>Qb R (a1.length:Int) λak=>Qa R (Q9 (Int.tmod ak 2==1) (decide (ak>=5))) λk=>Qb R (wJ (ak-2)) λal=>Qlg R a1 al k λh=>Qa R (decide (ak<3)) λl=>Qa R (Q8 l (Int.tmod ak 2==0)) λai=>bif Q9 k (h==bs [111,118,101,114,108,97,112])then Ql8 R a1 (wJ (ak-1)) λj=>Qc R (U0 n j Tu2) λc=>bif c.2 then Qa R (decide (al<3)) λaj=>Qd R (!aj) (nz 2) λo=>bif Q8 aj (Int.tmod al 2==0)then K 2 a else YS n a1 al (K 2 a) (λp q=>Yi n a1 al b (K 3 a) (λr s d=>Qb R [[D.sl 2 d,Ql c.1]] λam=>Qc R (Y9 ((a.length+am.length)*32)) λt=>K 0 (a++am)) n 1 []) n 1 else Qd R (!l) (nz 2) λu=>bif ai then K 2 a else YS n a1 ak (K 2 a) (λv x=>Yi n a1 ak b (K 3 a) (λy z e=>Qc R (Y9 ((a.length+[[D.sl 2 e,Ql 0]].length)*32)) λaa=>K 0 (a++[[D.sl 2 e,Ql 0]])) n 1 []) n 1 else Qd R (!l) (nz 2) λab=>bif ai then K 2 a else YS n a1 ak (K 2 a) (λac ad=>Yi n a1 ak b (K 3 a) (λae ag f=>Qc R (Y9 ((a.length+[[D.sl 2 f,Ql 0]].length)*32)) λah=>K 0 (a++[[D.sl 2 f,Ql 0]])) n 1 []) n 1
def TQ(a:LL)(k0:oP R)(k1:QlL R):QlM R
|0,_,_=>none
|m+1,h2,b=>Qa R (decide (h2<(a.length:Int))) λg=>bif g then Ql8 R a h2 λf=>Qc R (U0 n f Tu2) λc=>bif !c.2 then k0 else Qc R (Y9 ((b.length+[[Ql c.1]].length)*8)) λi=>TQ a k0 k1 m (wJ (h2+1)) (b++[[Ql c.1]])else k1 h2 g b
def C8(a0:LL)(K:LL->Bool->oP R):oP R:=TQ n a0 (K [] false) (λb c a=>K a true) n 0 []
def Vo(n:Nat)(b:Y UInt8)(a:LL)(k0:QlI R)(k1:QlJ R):QlK R
|0,_=>none
|m+1,h2=>Qa R (decide (h2<(a.length:Int))) λg=>bif g then Ql2 R a.length h2 a h2.toNat λc=>Qc R c[0]? λd=>Qc R (VA d) λe=>bif e==b then k0 h2 else Vo n b a k0 k1 m (wJ (h2+1))else k1 h2 g
def Tc(q1:LL)(a1:Y UInt8)(K:QlI R):oP R:=Vo n a1 q1 (λa=>K a) (λb c=>K (-1:Int)) n 0
def TM(l:LL)(c:Int)(q1 a q7:LL)(b:Int)(a1:LL)(K:Int->Int->LL->LL->LL->Int->oP R):oP R:=Qb R (a1.length:Int) λbu=>Qa R (bu==2) λbr=>Qlg R a1 0 br λv=>bif Q9 br (v==bs [112,101,114,105,111,100])then Ql8 R a1 1 λy=>Qc R (U0 n y Tu2) λm=>bif !m.2 then K 2 c q1 a q7 b else bif decide (wJ (b+1)>1)then K 5 c q1 a q7 (wJ (b+1))else K 0 m.1 q1 a q7 (wJ (b+1))else Qa R (bu==6) λaa=>Qlg R a1 0 aa λab=>bif Q9 aa (ab==bs [115,116,111,99,107])then Qc R (slB a1.length (some 2) none) λac=>gb true (C8 n (cut a1 ac) Tu2) ([],false) λf=>bif !f.2 then K 2 c q1 a q7 b else Ql8 R a1 1 λo=>Ql3 R f.1 0 λp=>Ql3 R f.1 1 λq=>Ql3 R f.1 2 λr=>Ql3 R f.1 3 λs=>Qb R [[D.str o,Ql p,Ql q,Ql r,Ql s]] λbt=>Qc R (Y9 ((q1.length+bt.length)*48)) λbo=>K 0 c (q1++bt) a q7 b else Qa R (bu==4) λe=>Qlg R a1 0 e λaq=>bif Q9 e (aq==bs [108,105,110,101])then Ql8 R a1 3 λav=>Qc R (U0 n av Tu2) λg=>bif !g.2 then K 2 c q1 a q7 b else Ql8 R a1 2 λay=>Qc R (Tc n q1 ay some) λh=>bif decide (h<0)then K 3 c q1 a q7 b else Ql8 R a1 1 λt=>Qb R [[D.str t,Ql h,Ql g.1,D.nl]] λbv=>Qc R (Y9 ((a.length+bv.length)*56)) λbp=>K 0 c q1 (a++bv) q7 b else Qlg R a1 0 e λbd=>bif Q9 e (bd==bs [100,101,109,97,110,100])then Ql8 R a1 3 λbh=>Qc R (U0 n bh Tu2) λi=>bif !i.2 then K 2 c q1 a q7 b else Ql8 R a1 1 λbk=>Qc R (KL n l bk some) λj=>Ql8 R a1 2 λbn=>Qc R (KL n l bn some) λk=>bif Q8 (decide (j<0)) (decide (k<0))then K 3 c q1 a q7 b else Qb R [[Ql j,Ql k,Ql i.1]] λbz=>Qc R (Y9 ((q7.length+bz.length)*24)) λbq=>K 0 c q1 a (q7++bz) b else K 2 c q1 a q7 b
def KE(j k:LL)(f:Int)(q1 g h q7:LL)(i:Int)(a1:LL)(K:Int->Int->LL->LL->LL->LL->Int->oP R):oP R:=Ql8 R a1 0 λc=>bif c==bs [114,111,117,116,101]then gb true (Ta n k g a1 Tu2) (0,[]) λd=>K d.1 f q1 d.2 h q7 i else bif c==bs [114,105,100,101]then none else bif c==bs [99,104,97,110,103,101]then none else bif c==bs [116,117,114,110]then none else bif c==bs [115,121,110,99]then none else gb true (TM n j f q1 h q7 i a1 Tu6) (0,0,[],[],[],0) λa=>K a.1 a.2.1 a.2.2.1 g a.2.2.2.1 a.2.2.2.2.1 a.2.2.2.2.2
def JZ(c k l:LL)(k0:QlP R)(k1:Qm8 R)(g:Int->Int->Int->LL->LL->LL->LL->oP R)(b d e:Int)(f h i j:LL):oP R:=Qa R (decide (b<(c.length:Int))) λq=>bif q then Qli R c b λp=>gb true (KE n k l d f h i j e p Tu7) (0,0,[],[],[],[],0) λa=>bif a.1 !=0 then Qli R c b λz=>Qlb R z 0 λac=>k0 ac a.1 else g (wJ (b+1)) a.2.1 a.2.2.2.2.2.2 a.2.2.1 a.2.2.2.1 a.2.2.2.2.1 a.2.2.2.2.2.1 else k1 b q d e f h i j
def Q3f:Y UInt8:=[114,105,100,101]
def Q5U:LL->oP (Y D)
|[[.str a,_,_],[.str b,_,_],[.str c,_,_],[.str d,_,_]]=>bif H8 a Q3f&&(H8 b [48]&&(H8 c [48]&&H8 d [51,48,46,46,51,48]))then some [.int .i64 0,.int .i64 0,.int .i64 30,.int .i64 30]else none
|[[.str a,_,_],[.str b,_,_],[.str c,_,_]]=>bif H8 a Q3f&&(H8 b [49]&&H8 c [48])then some [.int .i64 1,.int .i64 0,.int .i64 0,.int .i64 0]else none
|_=>none
def Q4O(aa:Bool)(r:Y D):LL->oP LL
|[[.str a,.int k b,.int k' c,.nl]]=>bif aa then none else some [[.str a,.int k b,.int k' c,.sl 4 [r]]]
|[[.str a,.int k b,.int k' c,.sl e l]]=>bif aa&&(Nat.beq e 4&&Nat.ble l.length 900)then some [[.str a,.int k b,.int k' c,.sl 4 (l++[r])]]else none
|_=>none
def Q5C(a:LL)(b:Int):oP LL:=(Qi a b).bind λr=>r[0]?.bind (pSl 3)
def QaC(a:LL)(b:Int):oP (Y D):=(Q5C a b).bind Q5U
def Y2(a b c:LL)(k0:QlP R)(k1:Qm8 R):Nat->Bool->Int->Int->Int->LL->LL->LL->LL->oP R
|0,_,_,_,_,_,_,_,_=>none
|m+1,aa,d,e,f,g,h,i,j=>match QaC a d with
|some r=>(match Q4O aa r i with | some l=>Y2 a b c k0 k1 m true (wJ (d+1)) e f g h l j | none=>none)
|none=>JZ n a b c k0 k1 (Y2 a b c k0 k1 m false) d e f g h i j
def SH(a b c:LL)(k0:QlP R)(k1:Qm8 R)(m:Nat)(d e f:Int)(g h i j:LL):oP R:=Y2 n a b c k0 k1 m false d e f g h i j
def Lg(b e c f:LL)(a1:Y UInt8)(K:Int->LL->LL->LL->LL->LL->LL->LL->Int->Int->oP R):oP R:=Qc R (VJ n b e c f some) λd=>bif d !=0 then K 0 [] [] [] [] [] [] [] 0 1 else Qc R (DQ n a1 Tu3) λa=>bif a.2.2 !=0 then K 0 [] [] [] [] [] [] [] a.2.1 a.2.2 else SH n a.1 b c (λo p=>K 0 [] [] [] [] [] [] [] o p) (λq r g s h i j k=>Qc R (Wl n b e c f g h i j [] [] [] k some) λl=>bif l !=0 then K 0 [] [] [] [] [] [] [] 0 l else K g h i j [] [] [] k 0 0) n 0 0 0 [] [] [] []
def FW(K:Qm9 R):oP R:=gb true (Q1m n (bs [115,116,97,116,105,111,110,32,88,10,115,116,97,116,105,111,110,32,89,10,115,116,97,116,105,111,110,32,90,10,115,101,99,116,105,111,110,32,120,32,49,48,32,50,48,48,48,48,32,48,32,97,116,32,88,10,115,101,99,116,105,111,110,32,97,32,49,48,32,50,48,48,48,48,32,48,10,115,101,99,116,105,111,110,32,121,32,49,48,32,50,48,48,48,48,32,48,32,97,116,32,89,10,115,101,99,116,105,111,110,32,98,32,49,48,32,50,48,48,48,48,32,48,10,115,101,99,116,105,111,110,32,122,32,49,48,32,50,48,48,48,48,32,48,32,97,116,32,90,10,108,105,110,107,32,120,32,66,32,97,32,65,10,108,105,110,107,32,97,32,66,32,121,32,65,10,108,105,110,107,32,121,32,66,32,98,32,65,10,108,105,110,107,32,98,32,66,32,122,32,65,10]) Tu6) ([],[],[],[],0,0) λa=>gb true (Lg n a.1 a.2.1 a.2.2.1 a.2.2.2.1 (bs [112,101,114,105,111,100,32,52,48,48,10,115,116,111,99,107,32,83,32,53,32,50,48,48,48,48,32,53,48,48,32,53,48,48,10,114,111,117,116,101,32,120,32,117,112,32,97,32,117,112,32,121,32,117,112,10,114,111,117,116,101,32,121,32,117,112,32,98,32,117,112,32,122,32,117,112,10,108,105,110,101,32,65,32,83,32,50,10,114,105,100,101,32,48,32,48,32,51,48,46,46,51,48,10,114,105,100,101,32,49,32,48,10,100,101,109,97,110,100,32,88,32,90,32,55,10]) Tu10) (0,[],[],[],[],[],[],[],0,0) λb=>K a.1 a.2.1 a.2.2.1 a.2.2.2.1 b.1 b.2.1 b.2.2.1 b.2.2.2.1 b.2.2.2.2.1 b.2.2.2.2.2.1 b.2.2.2.2.2.2.1 b.2.2.2.2.2.2.2.1
def QI(Fr:LL->Int->Int->LL->LL->LL->LL->LL->LL->Int->LL->(Int->Bool)->Int->oP (Int×Int×LL×LL×LL×LL×LL×LL×Int×LL×Int×(Int->Bool)))(o:Int)(p:LL)(i:Int)(k0:Int->Int->Bool->LL->LL->LL->LL->Int->LL->LL->Int->LL->(Int->Bool)->Int->oP R):Nat->Int->Int->LL->LL->LL->LL->Int->LL->LL->Int->LL->(Int->Bool)->Int->oP R
|0,_,_,_,_,_,_,_,_,_,_,_,_,_=>none
|m+1,h2,h5,h6,h7,j,f,k,g,d,l,e,c,h=>bif decide (h5<i)then Ql3 R p h5 λq=>Qc R (Yx n d h7 e q o some) λv=>Qb R (wJ (h5+1)) λaw=>bif !v then QI Fr o p i k0 m h2 aw h6 h7 j f k g d l e c h else Qlz R d q λb=>jn (λ(r:Int) (z aa ab ac:LL) (ad:Int) (ae ag:LL) (ah:Int) (ai:LL) (aj:Int -> Bool) (ak:Int)=>QI Fr o p i k0 m (if 1048576<wJ (h2+r)then 1048576 else wJ (h2+r)) aw z aa ab ac ad ae ag ah ai aj ak) λs=>bif !(Option.isSome (PM c b))then Qc R (YK n g f b h some) λal=>bif !al then Qle R h6.length b h6 b.toNat λao=>Ql3 R e b λar=>gb true (Fr ao ar k g d h6 h7 j f l e c h) (0,0,[],[],[],[],[],[],0,[],0,λ_=>false) λa=>s a.1 a.2.2.2.2.1 a.2.2.2.2.2.1 a.2.2.2.2.2.2.1 a.2.2.2.2.2.2.2.1 a.2.1 a.2.2.1 a.2.2.2.1 a.2.2.2.2.2.2.2.2.1 a.2.2.2.2.2.2.2.2.2.1 (Da a.2.2.2.2.2.2.2.2.2.2.2 b a.1) a.2.2.2.2.2.2.2.2.2.2.1 else s 1 h6 h7 j f k g d l e (Da c b 1) h else Qb R (wJ (h2+Option.getD (PM c b) 0)) λav=>QI Fr o p i k0 m (if 1048576<av then 1048576 else av) aw h6 h7 j f k g d l e c h else k0 h2 h5 (decide (h5<i)) h6 h7 j f k g d l e c h
def J7(Fr:LL->Int->Int->LL->LL->LL->LL->LL->LL->Int->LL->(Int->Bool)->Int->oP (Int×Int×LL×LL×LL×LL×LL×LL×Int×LL×Int×(Int->Bool)))(a0:LL)(a1 a:Int)(b c d e q4 q5:LL)(f:Int)(g:LL)(h:Int->Bool)(i:Int)(K:Int->Int->LL->LL->LL->LL->LL->LL->Int->LL->Int->(Int->Bool)->oP R):oP R:=QI n Fr a1 a0 (a0.length:Int) (λj x y k l m o p q r s t u v=>K j p q r k l m o s t v u) n 0 0 d e q4 q5 a b c f g h i
def X8 :Nat->LL->Int->Int->LL->LL->LL->LL->LL->LL->Int->LL->(Int->Bool)->Int->oP (Int×Int×LL×LL×LL×LL×LL×LL×Int×LL×Int×(Int->Bool))
|0,_,_,_,_,_,_,_,_,_,_,_,_,_=>none
|d+1,a0,a1,a,b,c,e,f,q4,q5,g,h,i,j=>J7 n (X8 d) a0 a1 a b c e f q4 q5 g h i j Tu12
def JF(c:Int)(e b a1:LL)(a2:Int)(K:QlI R):oP R:=Qc R (Gk n c e b a1 some) λd=>Qd R (!(!d)) (G2 n a2 0 (wJ ((b.length:Int)-1)) some) λf=>bif Q8 (!d) (!f)then K 0 else Ql1 R b a2 λa g c5 c6=>Qla R a λh i j=>Qc R (pIw g) λp=>Qlt R c5 c6 h λk l m=>Qlh R i j (Qc R (Jc n c a1 k l m some) λo=>K o)
end Go.Vx
namespace Go.Vx
open Go.Proofs
abbrev nT:Y (LpE Tryz.prog):=[]
abbrev tyS(e s:Nat):TyI:=⟨.sl e s,1,24,[.slice none 0 0],[.sl s []],[],none⟩
abbrev tyN(n:Nat):TyI:=⟨.struct,n,8*n,List.replicate n (.int .i64 0),List.replicate n (.int .i64 0),(List.range n).map λi=>(i,3),some (List.replicate n (.int .i64))⟩
abbrev vS9:Value:=.slice none 0 0
abbrev vI9:Value:=.int .i64 0
abbrev vT9:Value:=.string ⟨#[]⟩
abbrev dI9:D:=.int .i64 0
abbrev kI9:Kd:=.int .i64
def gtt:TT:=[(3,⟨.int .i64,1,8,[.int .i64 0],[.int .i64 0],[],none⟩),(4,⟨.bool,1,1,[.bool false],[.bool false],[],none⟩),(5,⟨.int .u8,1,1,[.int .u8 0],[.int .u8 0],[],none⟩),(9,⟨.str,1,16,[.string ⟨#[]⟩],[.str []],[],none⟩),(22,tyS 3 1),(23,tyS 9 1),(24,tyS 62 5),(25,tyS 172 6),(27,⟨.struct,4,96,[vS9,vS9,vS9,vS9],[.sl 1 [],.sl 1 [],.sl 5 [],.sl 6 []],[(0,23),(1,23),(2,24),(3,25)],none⟩),(28,tyS 79 5),(29,tyS 66 2),(30,tyS 90 4),(31,tyS 87 7),(32,tyS 146 4),(33,tyS 93 5),(34,tyS 45 3),(36,⟨.struct,8,176,[vI9,vS9,vS9,vS9,vS9,vS9,vS9,vS9],[dI9,.sl 5 [],.sl 2 [],.sl 4 [],.sl 7 [],.sl 4 [],.sl 5 [],.sl 3 []],[(0,3),(1,28),(2,29),(3,30),(4,31),(5,32),(6,33),(7,34)],none⟩),(41,⟨.int .i64,1,8,[.int .i64 0],[.int .i64 0],[],none⟩),(45,tyN 3),(50,tyS 60 3),(51,tyS 57 6),(53,⟨.struct,3,56,[vI9,vS9,vS9],[dI9,.sl 3 [],.sl 6 []],[(0,3),(1,50),(2,51)],none⟩),(57,tyN 6),(60,tyN 3),(62,⟨.struct,5,48,[vT9,vI9,vI9,vI9,vI9],[.str [],dI9,dI9,dI9,dI9],[(0,9),(1,3),(2,3),(3,3),(4,3)],some [.str,kI9,kI9,kI9,kI9]⟩),(64,tyS 128 2),(66,⟨.struct,2,32,[vS9,vI9],[.sl 2 [],dI9],[(0,64),(1,3)],none⟩),(79,⟨.struct,5,48,[vT9,vI9,vI9,vI9,vI9],[.str [],dI9,dI9,dI9,dI9],[(0,9),(1,3),(2,3),(3,3),(4,3)],some [.str,kI9,kI9,kI9,kI9]⟩),(82,tyS 22 1),(84,⟨.struct,7,168,[vS9,vS9,vS9,vS9,vS9,vS9,vS9],[.sl 1 [],.sl 1 [],.sl 5 [],.sl 6 [],.sl 1 [],.sl 1 [],.sl 1 []],[(0,27),(4,82),(5,82),(6,82)],none⟩),(87,tyN 7),(88,tyS 130 4),(90,⟨.struct,4,56,[vT9,vI9,vI9,vS9],[.str [],dI9,dI9,.sl 4 []],[(0,9),(1,3),(2,3),(3,88)],none⟩),(93,tyN 5),(97,⟨.ptr,1,8,[.pointer none],[],[],none⟩),(104,⟨.struct,8,160,[vI9,vS9,vS9,vS9,vS9,vS9,vS9,vI9],[dI9,.sl 3 [],.sl 6 [],.sl 1 [],.sl 1 [],.sl 1 [],.sl 1 [],dI9],[(0,53),(3,82),(4,22),(5,22),(6,22),(7,3)],none⟩),(105,⟨.int .u64,1,8,[.int .u64 0],[.int .u64 0],[],none⟩),(106,tyS 110 1),(110,tyS 164 3),(111,tyS 115 4),(115,tyN 4),(118,tyS 123 2),(123,tyN 2),(128,tyN 2),(130,tyN 4),(131,⟨.mpi,1,8,[.map none],[],[],none⟩),(132,⟨.other,1,8,[.nilFunc],[],[],none⟩),(136,⟨.struct,2,32,[vS9,vI9],[.sl 1 [],dI9],[(0,22),(1,3)],none⟩),(142,⟨.array 3 1 3,3,24,[.int .i64 0,.int .i64 0,.int .i64 0],[.int .i64 0,.int .i64 0,.int .i64 0],[(0,3),(1,3),(2,3)],none⟩),(144,⟨.array 4 1 4,4,4,[.bool false,.bool false,.bool false,.bool false],[.bool false,.bool false,.bool false,.bool false],[(0,4),(1,4),(2,4),(3,4)],none⟩),(146,tyN 4),(150,tyS 4 1),(152,⟨.struct,12,160,[vI9,vS9,vS9,vS9,vI9,vI9,.bool false,.bool false,.bool false,vI9,vS9,vS9],[dI9,.sl 3 [],.sl 6 [],.sl 1 [],dI9,dI9,.bool false,.bool false,.bool false,dI9,.sl 1 [],.sl 1 []],[(0,53),(3,150),(4,3),(5,3),(6,4),(7,4),(8,4),(9,3),(10,22),(11,22)],none⟩),(164,tyN 3),(172,tyN 6),(176,tyS 181 1),(181,tyS 183 3),(183,⟨.struct,3,32,[vT9,vI9,vI9],[.str [],dI9,dI9],[(0,9),(1,3),(2,3)],some [.str,kI9,kI9]⟩),(187,⟨.struct,13,280,[vS9,vS9,vS9,vS9,vI9,vS9,vS9,vS9,vS9,vS9,vS9,vS9,vI9],[.sl 1 [],.sl 1 [],.sl 5 [],.sl 6 [],dI9,.sl 5 [],.sl 2 [],.sl 4 [],.sl 7 [],.sl 4 [],.sl 5 [],.sl 3 [],dI9],[(0,27),(4,36),(12,3)],none⟩),(189,⟨.ptr,1,8,[.pointer none],[],[],none⟩),(190,tyS 224 4),(192,⟨.struct,19,424,[vS9,vS9,vS9,vS9,vI9,vS9,vS9,vS9,vS9,vS9,vS9,vS9,vS9,vS9,vS9,vS9,vI9,vS9,vS9],[.sl 1 [],.sl 1 [],.sl 5 [],.sl 6 [],dI9,.sl 5 [],.sl 2 [],.sl 4 [],.sl 7 [],.sl 4 [],.sl 5 [],.sl 3 [],.sl 1 [],.sl 1 [],.sl 1 [],.sl 4 [],dI9,.sl 3 [],.sl 6 []],[(0,27),(4,36),(12,22),(13,106),(14,22),(15,190),(16,53)],none⟩),(206,⟨.struct,2,48,[vS9,vS9],[.sl 1 [],.sl 3 []],[(0,150),(1,110)],none⟩),(209,⟨.struct,4,32,[vI9,vI9,vI9,vI9],[dI9,dI9,dI9,dI9],[(0,128),(2,3),(3,3)],some [kI9,kI9,kI9,kI9]⟩),(224,tyN 4),(228,⟨.mpb,1,8,[.map none],[],[],none⟩),(233,tyS 269 2),(238,tyS 209 4),(246,tyN 2),(261,tyS 266 2),(266,tyN 2),(269,tyN 2),(279,⟨.struct,2,32,[vS9,vI9],[.sl 2 [],dI9],[(0,233),(1,3)],none⟩),(282,tyS 164 3),(297,tyN 2),(314,tyN 2),(319,tyS 261 1),(328,⟨.int .u32,1,4,[.int .u32 0],[.int .u32 0],[],none⟩),(331,⟨.int .u64,1,8,[.int .u64 0],[.int .u64 0],[],none⟩),(343,⟨.int .u64,1,8,[.int .u64 0],[.int .u64 0],[],none⟩)]
theorem Ca:TOk Tryz.prog gtt:=(show QhP Tryz.prog [3,4,5,9,22,23,24,25,27,28,29,30,31,32,33,34,36,41,45,50,51,53,57,60,62,64,66,79,82,84,87,88,90,93,97,104,105,106,110,111,115,118,123,128,130,131,132,136,142,144,146,150,152,164,172,176,181,183,187,189,190,192,206,209,224,228,233,238,246,261,266,269,279,282,297,314,319,328,331,343]=gtt by kernel_rfl)▸Qeu _
noncomputable def bT:Nat->Y (Nat×TA)->TO:=btT gtt
noncomputable def pT:Nat->Nat->Y (Nat×Sp)->Y Sp->Y Sp:=ptT gtt
noncomputable def Xa(l:Y ((f:Nat)×EnP Tryz.prog f))(cfg:Y (Nat×Cfg)):VB Tryz.prog:=⟨⟨Ao (Qch l),gtt,cfg⟩,AW (BD l),Ca,by kernel_rfl⟩
abbrev LZ9:=Nat->LpE Tryz.prog
abbrev EZ9:=EnP Tryz.prog
abbrev BZ9:=VB Tryz.prog
abbrev Qma:Y TA:=[.arr 98000,.arr 98001,.arr 98002,.arr 98003,.arr 98004,.arr 98005,.arr 98006]
abbrev Qmb:Nat×TA:=(0,.ptr 1000000 0)
abbrev Qmc:Nat×TA:=(1,tI)
abbrev Qmd:Nat×TA:=(8,tI)
abbrev Qme:Nat×TA:=(16,tI)
abbrev Qmf:Nat×TO:=(98000,.arr 9 1)
abbrev Qmg:Nat×TO:=(98001,.arr 9 1)
abbrev Qmh:Nat×TO:=(98002,.arr 62 5)
abbrev Qmi:Nat×TO:=(98003,.arr 172 6)
abbrev Qmj:Nat×TO:=(98004,.arr 22 1)
abbrev Qmk:Nat×TO:=(98005,.arr 22 1)
abbrev Qml:Nat×TO:=(98006,.arr 22 1)
abbrev Qmm:Nat×TO:=(1000000,.box [.arr 98000,.arr 98001,.arr 98002,.arr 98003,.arr 98004,.arr 98005,.arr 98006])
abbrev Qmn:Y TA:=[.l 1,tI]
abbrev Qmo:Nat×TA:=(3,.ptr 14 0)
abbrev Qmp:Nat×TA:=(4,tI)
abbrev Qmq:Nat×TA:=(5,tI)
abbrev Qmr:Nat×TA:=(6,.arr 1006)
abbrev Qms:Nat×TA:=(7,tI)
abbrev Qmt:Nat×TO:=(501401,.arr 9 1)
abbrev Qmu:Nat×TO:=(501402,.arr 62 5)
abbrev Qmv:Nat×TO:=(501403,.arr 172 6)
abbrev Qmw:Nat×TO:=(501404,.arr 22 1)
abbrev Qmx:Nat×TO:=(501405,.arr 22 1)
abbrev Qmy:Nat×TO:=(501406,.arr 22 1)
abbrev Qmz:Nat×TO:=(1000000,.box [.l 1,tI])
abbrev QmA:Y TA:=[.arr 501400,.arr 501401,.arr 501402,.arr 501403,.arr 501404,.arr 501405,.arr 501406]
abbrev QmB:Nat×TO:=(14,.box [.arr 501400,.arr 501401,.arr 501402,.arr 501403,.arr 501404,.arr 501405,.arr 501406])
abbrev QmC:Nat×TO:=(501400,.arr 9 1)
abbrev QmD:Nat×TA:=(9,tI)
abbrev QmE:Nat×TA:=(11,tI)
abbrev QmF:Y (Nat×TO):=[(14,.box [.arr 501400,.arr 501401,.arr 501402,.arr 501403,.arr 501404,.arr 501405,.arr 501406]),(1010,.arr 3 1),(501400,.arr 9 1),(501401,.arr 9 1),(501402,.arr 62 5),(501403,.arr 172 6),(501404,.arr 22 1),(501405,.arr 22 1),(501406,.arr 22 1),(1000000,.box [.l 1,tI])]
abbrev QmG:Nat×TA:=(12,tI)
abbrev QmH:Y TA:=[.nil,.ci .i64 0]
abbrev QmI:Nat×TA:=(3,tI)
abbrev QmJ:Nat×TA:=(10,.ptr 10 0)
abbrev QmK:Nat×TA:=(2,tI)
abbrev QmL:Nat×TA:=(15,tI)
abbrev QmM:Y TA:=[tI,.arr 98361,.arr 98362,.arr 98363,.arr 98364,.arr 98365,.arr 98366,.arr 98367]
abbrev QmN:Nat×TO:=(1000009,.box [tI,.arr 98361,.arr 98362,.arr 98363,.arr 98364,.arr 98365,.arr 98366,.arr 98367])
abbrev QmO:Nat×TA:=(13,tI)
abbrev QmP:Y TA:=[tI,.arr 98041,.arr 98042,.arr 98043,.arr 98044,.arr 98045,.arr 98046,.arr 98047]
abbrev QmQ:Nat×TA:=(6,tI)
abbrev QmR:Nat×TA:=(14,tI)
abbrev QmS:Y (Nat×TO):=[(4,.arr 144 1),(5,.arr 144 1),(98041,.arr 79 5),(98042,.arr 66 2),(98043,.arr 90 4),(98044,.arr 87 7),(98045,.arr 146 4),(98046,.arr 93 5),(98047,.arr 45 3),(1000000,.box [.l 1,tI]),(1000001,.box [tI,.arr 98041,.arr 98042,.arr 98043,.arr 98044,.arr 98045,.arr 98046,.arr 98047])]
abbrev QmT:Nat×TO:=(1000001,.box [tI,.arr 98041,.arr 98042,.arr 98043,.arr 98044,.arr 98045,.arr 98046,.arr 98047])
abbrev QmU:Y TA:=[.nil,.nil,.nil,.nil]
abbrev QmV:Y TA:=[.ci .i64 0,.nil,.nil,.nil,.nil,.nil,.nil,.nil]
abbrev QmW:Y TA:=[.arr 100015,.arr 150015,.arr 200015,.arr 250015,.arr 300015,.arr 350015,.arr 400015]
abbrev QmX:Nat×TA:=(2,.ptr 2 0)
abbrev QmY:Nat×TA:=(3,.ptr 3 0)
abbrev QmZ:Nat×TA:=(4,.ptr 50013 0)
abbrev Qn0:Nat×TA:=(5,.ptr 50015 0)
abbrev Qn1:Nat×TA:=(6,.ptr 6 0)
abbrev Qn2:Nat×TO:=(2,.box [.nil,.nil,.nil,.nil])
abbrev Qn3:Nat×TO:=(3,.box [.ci .i64 0,.nil,.nil,.nil,.nil,.nil,.nil,.nil])
abbrev Qn4:Nat×TO:=(50013,.box [.l 1,tI])
abbrev Qn5:Nat×TO:=(50015,.box [.arr 100015,.arr 150015,.arr 200015,.arr 250015,.arr 300015,.arr 350015,.arr 400015])
abbrev Qn6:Nat×TO:=(100015,.arr 9 1)
abbrev Qn7:Nat×TO:=(150015,.arr 9 1)
abbrev Qn8:Nat×TO:=(200015,.arr 62 5)
abbrev Qn9:Nat×TO:=(250015,.arr 172 6)
abbrev Qna:Nat×TO:=(300015,.arr 22 1)
abbrev Qnb:Nat×TO:=(350015,.arr 22 1)
abbrev Qnc:Nat×TO:=(400015,.arr 22 1)
abbrev Qnd:Y TA:=[tI,.arr 50061,.arr 100061,.arr 150061,.arr 200061,.arr 250061,.arr 300061,.arr 350061]
abbrev Qne:Nat×TO:=(6,.box [tI,.arr 50061,.arr 100061,.arr 150061,.arr 200061,.arr 250061,.arr 300061,.arr 350061])
abbrev Qnf:Nat×TO:=(100061,.arr 66 2)
abbrev Qng:Nat×TO:=(150061,.arr 90 4)
abbrev Qnh:Nat×TO:=(200061,.arr 87 7)
abbrev Qni:Nat×TO:=(250061,.arr 146 4)
abbrev Qnj:Y TA:=[tI,.nil,.nil,.nil,.nil,.nil,.nil,.nil]
abbrev Qnk:Y (Nat×TA):=[(2,.ptr 2 0),(3,.ptr 3 0),(4,.ptr 50013 0),(5,.ptr 50015 0),(6,.ptr 6 0),(10,tI)]
abbrev Qnl:Nat×TA:=(10,tI)
abbrev Qnm:Nat×TO:=(3,.box [tI,.nil,.nil,.nil,.nil,.nil,.nil,.nil])
abbrev Qnn:Nat×TA:=(1,.ptr 1 0)
abbrev Qno:Nat×TA:=(3,.arr 1003)
abbrev Qnp:Nat×TO:=(1,bT 27 [])
abbrev Qnq:Y TA:=[tI,tI]
abbrev Qnr:Nat×TA:=(5,.ptr 5 0)
abbrev Qns:Nat×TA:=(7,.ptr 7 0)
abbrev Qnt:Nat×TO:=(3,bT 27 [])
abbrev Qnu:Nat×TO:=(5,.box [tI,tI])
abbrev Qnv:Nat×TA:=(8,.ptr 8 0)
abbrev Qnw:Nat×TO:=(2,bT 27 [])
abbrev Qnx:Nat×TA:=(7,.l 1)
abbrev Qny:Nat×TO:=(2,bT 36 [])
abbrev Qnz:Y TA:=[.ci .i64 0,.ci .i64 0,.ci .i64 0,.ci .i64 0]
abbrev QnA:Y TA:=[.x,.x,.x,.x]
abbrev QnB:Y TA:=[.l 2,tI]
abbrev QnC:Y (Nat×TO):=[(2,bT 27 []),(3,.box [.l 2,tI])]
abbrev QnD:Nat×TO:=(3,.box [.l 2,tI])
abbrev QnE:Nat×TA:=(8,.arr 1008)
abbrev QnF:Y (Nat×TO):=[(2,bT 27 []),(3,.box [.l 2,tI]),(1008,.arr 269 2)]
abbrev QnG:Nat×TA:=(4,.ptr 4 0)
abbrev QnH:Nat×TO:=(5,bT 79 [])
abbrev QnI:Y (Nat×TO):=[(3,bT 27 []),(4,bT 36 []),(7,.box [.x,.x,.x,.x])]
abbrev QnJ:Nat×TO:=(7,.box [.x,.x,.x,.x])
abbrev QnK:Y (Nat×TO):=[(2,bT 27 []),(3,bT 36 [])]
abbrev QnL:Nat×TO:=(3,bT 36 [])
abbrev QnM:Nat×TA:=(0,.l 2)
abbrev QnN:Nat×TA:=(0,tI)
abbrev QnO:Y (Nat×TO):=[(5,bT 79 []),(29,.arr 3 1)]
abbrev QnP:Nat×TO:=(29,.arr 3 1)
abbrev QnQ:Nat×TA:=(7,.arr 1007)
abbrev QnR:Nat×TA:=(18,tI)
abbrev QnS:Nat×TO:=(6,.box [.l 2,tI])
abbrev QnT:Y (Nat×TO):=[(2,bT 27 []),(3,bT 36 []),(10,.box [.x,.x,.x,.x]),(1007,.arr 110 1),(1008,.arr 3 1)]
abbrev QnU:Nat×TO:=(1007,.arr 110 1)
abbrev QnV:Nat×TO:=(1008,.arr 3 1)
abbrev QnW:Y (Nat×TO):=[(2,bT 27 []),(3,bT 36 []),(1007,.arr 110 1),(1008,.arr 3 1)]
abbrev QnX:Y (Nat×TA):=[(1,.l 1),(2,.ptr 2 0),(5,.arr 1005),(6,tI),(7,.ptr 7 0),(8,tI)]
abbrev QnY:Nat×TA:=(1,.l 1)
abbrev QnZ:Nat×TA:=(5,.arr 1005)
abbrev Qo0:Y (Nat×TA):=[(1,.l 1),(2,.ptr 2 0),(5,.arr 1005),(6,tI)]
abbrev Qo1:Y TA:=[.ci .i64 0,.ci .i64 0,.ci .i64 0]
abbrev Qo2:Y TA:=[.x,.x,.x]
abbrev Qo3:Y (Nat×TO):=[(4,.box [.ci .i64 0,.ci .i64 0,.ci .i64 0])]
abbrev Qo4:Nat×TO:=(4,.box [.ci .i64 0,.ci .i64 0,.ci .i64 0])
abbrev Qo5:Y (Nat×TO):=[(1,bT 36 []),(1003,.arr 57 6)]
abbrev Qo6:Nat×TO:=(10,.box [.x,.x,.x])
abbrev Qo7:Y TA:=[.ci .i64 0,.nil,.nil]
abbrev Qo8:Nat×TA:=(6,.l 1)
abbrev Qo9:Y (Nat×TO):=[(3,bT 36 []),(4,.box [.ci .i64 0,.nil,.nil])]
abbrev Qoa:Nat×TO:=(4,.box [.ci .i64 0,.nil,.nil])
abbrev Qob:Nat×TA:=(10,.l 4)
abbrev Qoc:Nat×TA:=(12,.ptr 12 0)
abbrev Qod:Nat×TO:=(4,.box [tI,.nil,.nil])
abbrev Qoe:Nat×TO:=(1121,.arr 60 3)
abbrev Qof:Y TA:=[tI,.arr 1121,.arr 107]
abbrev Qog:Nat×TA:=(19,tI)
abbrev Qoh:Y (Nat×TO):=[(3,bT 36 []),(4,.box [tI,.nil,.nil]),(12,.box [tI,.arr 1121,.arr 107]),(107,.arr 57 6),(1121,.arr 60 3)]
abbrev Qoi:Nat×TO:=(12,.box [tI,.arr 1121,.arr 107])
abbrev Qoj:Y TA:=[tI,.l 3,.l 6]
abbrev Qok:Nat×TO:=(1,.box [tI,.l 3,.l 6])
abbrev Qol:Nat×TA:=(0,.arr 1000000)
abbrev Qom:Nat×TO:=(16,.arr 3 1)
abbrev Qon:Nat×TO:=(19,.arr 3 1)
abbrev Qoo:Y (Nat×TO):=[(2,.box [tI,.l 3,.l 6])]
abbrev Qop:Nat×TO:=(2,.box [tI,.l 3,.l 6])
abbrev Qoq:Y (Nat×TA):=[(3,.arr 98003),(11,.arr 98011)]
abbrev Qor:Y (Nat×TA):=[(0,.ptr 1000000 0),(1,tI),(5,tI),(6,tI)]
abbrev Qos:Y (Nat×TO):=[(98003,.arr 4 1),(98011,.arr 3 1),(1000000,bT 152 [(3,.arr 98003),(11,.arr 98011)])]
abbrev Qot:Nat×TO:=(1000000,bT 152 [(3,.arr 98003),(11,.arr 98011)])
abbrev Qou:Y (Nat×Sp):=[(3,eR 1000001 4 1),(11,eR 1000002 3 1)]
abbrev Qov:Y TA:=[.l 1,.l 1,.l 5,.l 6,tI,.arr 98005,.arr 98006,.arr 98007,.arr 98008,.arr 98009,.arr 98010,.arr 98011,tI]
abbrev Qow:Y (Nat×TO):=[(98005,.arr 79 5),(98006,.arr 66 2),(98007,.arr 90 4),(98008,.arr 87 7),(98009,.arr 146 4),(98010,.arr 93 5),(98011,.arr 45 3),(1000000,.box [.l 1,.l 1,.l 5,.l 6,tI,.arr 98005,.arr 98006,.arr 98007,.arr 98008,.arr 98009,.arr 98010,.arr 98011,tI])]
abbrev Qox:Nat×TO:=(98005,.arr 79 5)
abbrev Qoy:Nat×TO:=(98006,.arr 66 2)
abbrev Qoz:Nat×TO:=(98007,.arr 90 4)
abbrev QoA:Nat×TO:=(98008,.arr 87 7)
abbrev QoB:Nat×TO:=(98009,.arr 146 4)
abbrev QoC:Nat×TO:=(98010,.arr 93 5)
abbrev QoD:Nat×TO:=(98011,.arr 45 3)
abbrev QoE:Nat×TO:=(1000000,.box [.l 1,.l 1,.l 5,.l 6,tI,.arr 98005,.arr 98006,.arr 98007,.arr 98008,.arr 98009,.arr 98010,.arr 98011,tI])
abbrev QoF:Y (Nat×TA):=[(12,.arr 98012),(13,.arr 98013),(14,.arr 98014),(15,.arr 98015),(17,.arr 98017),(18,.arr 98018)]
abbrev QoG:Y (Nat×TO):=[(98012,.arr 3 1),(98013,.arr 110 1),(98014,.arr 3 1),(98015,.arr 224 4),(98017,.arr 60 3),(98018,.arr 57 6),(1000000,bT 192 [(12,.arr 98012),(13,.arr 98013),(14,.arr 98014),(15,.arr 98015),(17,.arr 98017),(18,.arr 98018)])]
abbrev QoH:Nat×TO:=(98012,.arr 3 1)
abbrev QoI:Nat×TO:=(98015,.arr 224 4)
abbrev QoJ:Nat×TO:=(98017,.arr 60 3)
abbrev QoK:Nat×TO:=(98018,.arr 57 6)
abbrev QoL:Nat×TO:=(1000000,bT 192 [(12,.arr 98012),(13,.arr 98013),(14,.arr 98014),(15,.arr 98015),(17,.arr 98017),(18,.arr 98018)])
abbrev QoM:Y (Nat×Sp):=[(12,eR 1000001 3 1),(15,eR 1000002 224 4),(17,eR 1000003 60 3),(18,eR 1000004 57 6)]
abbrev QoN:Y (Nat×TA):=[(12,.arr 98012),(15,.arr 98015),(17,.arr 98017),(18,.arr 98018)]
abbrev QoO:Y (Nat×TO):=[(98012,.arr 3 1),(98015,.arr 224 4),(98017,.arr 60 3),(98018,.arr 57 6),(1000000,bT 192 [(12,.arr 98012),(15,.arr 98015),(17,.arr 98017),(18,.arr 98018)])]
abbrev QoP:Nat×TO:=(1000000,bT 192 [(12,.arr 98012),(15,.arr 98015),(17,.arr 98017),(18,.arr 98018)])
abbrev QoQ:Y (Nat×TA):=[(12,.arr 98012),(17,.arr 98017),(18,.arr 98018)]
abbrev QoR:Y TA:=[.ptr 1000000 0]
abbrev QoS:Nat×TA:=(2,.fn 134 [.ptr 1000004 0,.ptr 1000005 0,.ptr 1000006 0])
abbrev QoT:Nat×TO:=(4,bT 224 [])
abbrev QoU:Nat×TO:=(1000000,bT 192 [(12,.arr 98012),(17,.arr 98017),(18,.arr 98018)])
abbrev QoV:Y (Nat×Sp):=[(12,eR 1000001 3 1),(17,eR 1000002 60 3),(18,eR 1000003 57 6)]
abbrev QoW:Y (Nat×TO):=[(98012,.arr 3 1),(98017,.arr 60 3),(98018,.arr 57 6),(1000000,bT 192 [(12,.arr 98012),(17,.arr 98017),(18,.arr 98018)])]
abbrev QoX:Y (Nat×TO):=[(1000000,.arr 266 2)]
abbrev QoY:Nat×TO:=(1000000,.arr 266 2)
abbrev QoZ:Y (Nat×Sp):=[(3,eR 1000001 22 1),(4,eR 1000002 3 1),(5,eR 1000003 3 1),(6,eR 1000004 3 1)]
abbrev Qp0:Y TA:=[tI,.l 3,.l 6,.arr 98003,.arr 98004,.arr 98005,.arr 98006,tI]
abbrev Qp1:Y (Nat×TO):=[(19,.arr 3 1),(98003,.arr 22 1),(98004,.arr 3 1),(98005,.arr 3 1),(98006,.arr 3 1),(1000000,.box [tI,.l 3,.l 6,.arr 98003,.arr 98004,.arr 98005,.arr 98006,tI])]
abbrev Qp2:Nat×TO:=(98003,.arr 22 1)
abbrev Qp3:Nat×TO:=(98004,.arr 3 1)
abbrev Qp4:Nat×TO:=(98005,.arr 3 1)
abbrev Qp5:Nat×TO:=(98006,.arr 3 1)
abbrev Qp6:Nat×TO:=(1000000,.box [tI,.l 3,.l 6,.arr 98003,.arr 98004,.arr 98005,.arr 98006,tI])
abbrev Qp7:Y TA:=[tI,.l 3,.l 6,.arr 50049,.arr 100049,.arr 150049,.arr 200049,tI]
abbrev Qp8:Y (Nat×TO):=[(1019,.arr 3 1),(50027,.box [tI,.l 3,.l 6,.arr 50049,.arr 100049,.arr 150049,.arr 200049,tI]),(50049,.arr 22 1),(100049,.arr 3 1),(150049,.arr 3 1),(200049,.arr 3 1)]
abbrev Qp9:Nat×TO:=(50027,.box [tI,.l 3,.l 6,.arr 50049,.arr 100049,.arr 150049,.arr 200049,tI])
abbrev Qpa:Y (Nat×TO):=[(8,.box [tI,.l 3,.l 6]),(10,.box [.x,.x,.x])]
abbrev Qpb:Nat×TO:=(1000000,.box Qma)
abbrev Qpc:Nat×TO:=(1000000,.box Qmn)
abbrev Qpd:Nat×TO:=(14,.box QmA)
abbrev Qpe:Y (Nat×TO):=[(14,.box QmA),(1010,.arr 3 1),QmC,Qmt,Qmu,Qmv,Qmw,Qmx,Qmy,(1000000,.box Qmn)]
abbrev Qpf:Y (Nat×TO):=[(4,.arr 144 1),(5,.arr 144 1),(98041,.arr 79 5),(98042,.arr 66 2),(98043,.arr 90 4),(98044,.arr 87 7),(98045,.arr 146 4),(98046,.arr 93 5),(98047,.arr 45 3),(1000000,.box Qmn),(1000001,.box QmP)]
abbrev Qpg:Nat×TO:=(2,.box QmU)
abbrev Qph:Nat×TO:=(50013,.box Qmn)
abbrev Qpi:Nat×TO:=(50015,.box QmW)
abbrev Qpj:Nat×TO:=(5,.box Qnq)
abbrev Qpk:Y (Nat×TO):=[Qnw,(3,.box QnB)]
abbrev Qpl:Nat×TO:=(3,.box QnB)
abbrev Qpm:Y (Nat×TO):=[QnL,Qod,(12,.box Qof),(107,.arr 57 6),Qoe]
abbrev Qpn:Y (Nat×TO):=[(98003,.arr 4 1),(98011,.arr 3 1),(1000000,bT 152 Qoq)]
abbrev Qpo:Y (Nat×TO):=[Qox,Qoy,Qoz,QoA,QoB,QoC,QoD,(1000000,.box Qov)]
abbrev Qpp:Nat×TO:=(1000000,.box Qov)
abbrev Qpq:Y (Nat×TO):=[QoH,(98013,.arr 110 1),(98014,.arr 3 1),QoI,QoJ,QoK,(1000000,bT 192 QoF)]
abbrev Qpr:Y (Nat×TO):=[QoH,QoI,QoJ,QoK,(1000000,bT 192 QoN)]
abbrev Qps:Nat×TO:=(1000000,bT 192 QoN)
abbrev Qpt:Nat×TO:=(1000000,bT 192 QoQ)
abbrev Qpu:Y (Nat×TO):=[QoH,QoJ,QoK,(1000000,bT 192 QoQ)]
abbrev Qpv:Y (Nat×TO):=[Qon,Qp2,Qp3,Qp4,Qp5,(1000000,.box Qp0)]
abbrev Qpw:Nat×TO:=(1000000,.box Qp0)
abbrev Qpx:Y (Nat×TO):=[(1019,.arr 3 1),(50027,.box Qp7),(50049,.arr 22 1),(100049,.arr 3 1),(150049,.arr 3 1),(200049,.arr 3 1)]
end Go.Vx
namespace Go.Vx
variable{R:Type} (n:Nat)
def Na(a:Y UInt8)(k0:QlQ R)(k1:QlJ R):QlK R
|0,_=>none
|m+1,h2=>Qb R (wJ (h2+1)) λc=>Qa R (decide (c<(a.length:Int))) λb=>bif b then Qc R (Zo a h2) λf=>Qd R (f==46) (Zo a c) λg=>bif Q9 (f==46) (g==46)then Qc R (slB a.length none (some h2)) λh=>Qc R (U0 n (cut a h) Tu2) λd=>Qc R (slB a.length (some (wJ (h2+2))) none) λi=>Qc R (U0 n (cut a i) Tu2) λe=>bif Q8 (Q8 (!d.2) (!e.2)) (decide (d.1>e.1))then k0 0 0 false else k0 d.1 e.1 true else Na a k0 k1 m c else k1 h2 b
def Q8R(a0:Y UInt8)(K:QlQ R):oP R:=Na n a0 (λa b c=>K a b c) (λd e=>K 0 0 false) n 0
def HW(n:Nat)(a b:Int)(K:QlI R):oP R:=K (wJ (wJ (2*a)+b))
def Me(n:Nat)(a0 a1:Int)(K:QlP R):oP R:=Qc R (Aw 32) λa=>K (IntKind.wrap .u32 (shR .u64 (IntKind.wrap .u64 (IntKind.wrap .u64 a0*IntKind.wrap .u64 a1)) 32)) (IntKind.wrap .u32 (IntKind.wrap .u64 (IntKind.wrap .u64 a0*IntKind.wrap .u64 a1)))
def TZ(n:Nat)(a0 a1:Int)(K:QlP R):oP R:=Qc R (Aw 32) λa=>Qc R (Aw 32) λb=>Qc R (Aw 32) λc=>Qc R (Aw 32) λd=>Qc R (Aw 32) λe=>K (IntKind.wrap .u64 (IntKind.wrap .u64 (IntKind.wrap .u64 (shR .u64 a0 32*shR .u64 a1 32)+shR .u64 (IntKind.wrap .u64 (IntKind.wrap .u64 (shR .u64 a0 32*Q7D .u64 a1 4294967295)+shR .u64 (IntKind.wrap .u64 (Q7D .u64 a0 4294967295*Q7D .u64 a1 4294967295)) 32)) 32)+shR .u64 (IntKind.wrap .u64 (Q7D .u64 (IntKind.wrap .u64 (IntKind.wrap .u64 (shR .u64 a0 32*Q7D .u64 a1 4294967295)+shR .u64 (IntKind.wrap .u64 (Q7D .u64 a0 4294967295*Q7D .u64 a1 4294967295)) 32)) 4294967295+IntKind.wrap .u64 (Q7D .u64 a0 4294967295*shR .u64 a1 32))) 32)) (IntKind.wrap .u64 (a0*a1))
def Tz(a0 a1:Int)(K:QlP R):oP R:=bif false then Qc R (Me n (IntKind.wrap .u32 a0) (IntKind.wrap .u32 a1) Tu2) λa=>K (IntKind.wrap .u64 a.1) (IntKind.wrap .u64 a.2)else Qc R (TZ n a0 a1 Tu2) λc=>K c.1 c.2
end Go.Vx
set_option maxRecDepth 100000
namespace Go.Vx
open Go.Proofs
variable(n:Nat)
def Q6S:EZ9 20:=mkW (Xa [] []).ok nT 20 Tryz.f20 [sL 1] [eP 5 2,sL 1,sI] [] 0 0 @Q0l n
def Q07:EZ9 12:=mkD (Xa [] []).ok nT 12 Tryz.f12 0 @SQ n
def Um:EZ9 22:=mkW (Xa [⟨12,Q07 n⟩] []).ok nT 22 Tryz.f22 [eP 1000000 2,sL 1,sI,sI] [sI] [] 0 2 @Qm n
def Mw:EZ9 48:=mkD (Xa [] []).ok nT 48 Tryz.f48 0 @VL n
def MA:EZ9 49:=mkW (Xa [⟨22,Um n⟩] []).ok nT 49 Tryz.f49 [eP 1000000 2,sL 1,sI,sT,sI] [eA [qT,qI,qI,qI,qI]] [] 0 32 @WL n
def Mh:EZ9 50:=mkW (Xa [] []).ok nT 50 Tryz.f50 [eP 1000000 7,eR 1000001 9 1,eR 1000002 9 1,eR 1000003 62 5,eR 1000004 172 6,eR 1000005 22 1,eR 1000006 22 1,eR 1000007 22 1,eA [qT,qI,qI,qI,qI]] [sI] [] 123 246 @Zn n
def Ky:EZ9 51:=mkW (Xa [] []).ok nT 51 Tryz.f51 [eP 1000000 7,eR 1000001 9 1,eR 1000002 9 1,eR 1000003 62 5,eR 1000004 172 6,eR 1000005 22 1,eR 1000006 22 1,eR 1000007 22 1,sI,sI,sI,sI] [eT 0] [] 119 119 @Yo n
def RD:EZ9 70:=mkW (Xa [⟨48,Mw n⟩] []).ok nT 70 Tryz.f70 [eP 1000000 7,eR 1000001 9 1,eR 1000002 9 1,eR 1000003 62 5,eR 1000004 172 6,eR 1000005 22 1,eR 1000006 22 1,eR 1000007 22 1] [sI] [] 125 250 @ZD n
def Ku:BZ9:=Xa [⟨70,RD n⟩,⟨51,Ky n⟩] []
def NK:LZ9:=mkU (Ku n).ok nT 4 Tryz.f52 [Qmb,Qmc,(2,.l 1),(3,.b),Qmd,Qme,(17,tI)] [Qmf,Qmg,Qmh,Qmi,Qmj,Qmk,Qml,Qpb] 39973 [xE 0 [(18,.b)]] @QP n
def M8:EZ9 52:=mkW (Ku n).ok [NK n n] 52 Tryz.f52 [eP 1000000 7,eR 1000001 9 1,eR 1000002 9 1,eR 1000003 62 5,eR 1000004 172 6,eR 1000005 22 1,eR 1000006 22 1,eR 1000007 22 1,sI,sL 1,sB] [eT 0] [] 117 117 @Vn n
def KM:BZ9:=Xa [⟨22,Um n⟩,⟨48,Mw n⟩,⟨49,MA n⟩,⟨50,Mh n⟩,⟨51,Ky n⟩,⟨52,M8 n⟩] [(3,⟨[],[],[],[(14,0,501400,9,1),(14,1,501401,9,1),(14,2,501402,62,5),(14,3,501403,172,6),(14,4,501404,22,1),(14,5,501405,22,1),(14,6,501406,22,1)],[]⟩),(8,⟨[],[],[(6,1006,3,1)],[],[]⟩),(19,⟨[],[],[(10,1010,3,1)],[],[]⟩)]
def Q6V:LZ9:=mkU (KM n).ok nT 9 Tryz.f21 [Qmb,Qmo,Qmp,Qmq,Qmr,Qms] [(14,.box [.arr 32,.arr 501401,.arr 501402,.arr 501403,.arr 501404,.arr 501405,.arr 501406]),(32,.arr 9 1),(1006,.arr 3 1),Qmt,Qmu,Qmv,Qmw,Qmx,Qmy,Qpc] 1241670 [xE 2 [(40,.b)]] @Gc n
def Q6J:LZ9:=mkU (KM n).ok [Q6V n n] 4 Tryz.f21 [Qmb,Qmo,Qmp,Qmq] [Qpd,QmC,(501401,.arc 9 1),Qmu,(501403,.arc 172 6),Qmw,(501405,.arc 22 1),(501406,.arc 22 1),Qpc] 1942 [xE 0 [(20,.b)]] @UL n
def Q6C:LZ9:=mkU (KM n).ok nT 20 Tryz.f21 [Qmb,Qmo,Qmp,QmD,(10,.arr 1010),QmE] Qpe 1241562 [xE 6 [(80,.b)]] @Ga n
def Q5H:LZ9:=mkU (KM n).ok nT 24 Tryz.f21 [Qmb,Qmo,Qmp,QmD,(10,.arr 1010),QmG] Qpe 4419 [xE 8 [(98,.b)]] @R4 n
def Q66:LZ9:=mkU (KM n).ok [Q6C n n,Q5H n n] 16 Tryz.f21 [Qmb,Qmo,Qmp,QmD] [Qpd,QmC,Qmt,Qmu,Qmv,Qmw,Qmx,(501406,.arc 22 1),Qpc] 51739 [xE 4 [(73,.b)]] @Uw n
def Q8o:EZ9 21:=mkW (KM n).ok [Q6J n n,Q66 n n] 21 Tryz.f21 [eP 1000000 2,sL 1,sI] [eP 14 7,eR 501400 9 1,eR 501401 9 1,eR 501402 62 5,eR 501403 172 6,eR 501404 22 1,eR 501405 22 1,eR 501406 22 1] [] 0 128 @Q3i n
def V6(n:Nat):BZ9:=Xa [] []
def SS:LZ9:=mkU (V6 n).ok nT 6 Tryz.f53 [Qmc,QmI,QmJ,(11,.l 1),(12,.arr 98004),(13,.ptr 13 0),(48,tI),(49,tI)] [(10,.box QmH),(13,.box [.arr 45,.ci .i64 0]),(45,.arr 128 2),Qmf,Qmg,Qmh,Qmi,Qmj,Qmk,Qml,Qpb] 684 [xE 0 [(50,.b)]] @ZN n
def Sr:LZ9:=mkU (V6 n).ok nT 14 Tryz.f53 [Qmc,QmK,QmJ,(11,.l 1),(12,.arr 98004),(13,.ptr 13 0),QmL] [(10,.box QmH),(13,.box [.arr 104,.ci .i64 0]),(104,.arr 128 2),Qmf,Qmg,Qmh,Qmi,Qmj,Qmk,Qml,Qpb] 225 [xE 2 [(110,.b)]] @ZT n
def N5:EZ9 53:=mkW (V6 n).ok [SS n n,Sr n n] 53 Tryz.f53 [eP 1000000 7,eR 1000001 9 1,eR 1000002 9 1,eR 1000003 62 5,eR 1000004 172 6,eR 1000005 22 1,eR 1000006 22 1,eR 1000007 22 1,sI,sI,sI,sB] [eO 2,eR 96001 128 2,sI] [] 79 508 @YL n
def Vt:BZ9:=Xa [⟨48,Mw n⟩,⟨22,Um n⟩,⟨53,N5 n⟩] [(7,⟨[],[],[],[(10,3,1103,130,4)],[]⟩)]
def Rt:LZ9:=mkU (Vt n).ok nT 3 Tryz.f23 [Qmb,(1,.ptr 1000008 0),(2,.ptr 1000009 0),(3,.b),Qmp,QmJ,(11,.ac 11 0 0),(25,tI)] [(10,.box [.t,.ci .i64 0,tI,.nil]),(11,.arr 142 1),Qmf,Qmg,Qmh,Qmi,Qmj,Qmk,Qml,(98361,.arr 79 5),(98362,.arr 66 2),(98363,.arr 90 4),(98364,.arr 87 7),(98365,.arr 146 4),(98366,.arr 93 5),(98367,.arr 45 3),Qpb,(1000008,.box Qmn),(1000009,.box QmM)] 24407491311 [xE 0 [(26,.b)]] @Wj n
def N2:LZ9:=mkU (Vt n).ok nT 8 Tryz.f23 [Qmb,(1,.ptr 1000008 0),(2,.ptr 1000009 0),(3,.b),Qmp,QmJ,(11,.ac 11 0 0),QmO] [(10,.box [.t,.ci .i64 0,tI,.arr 1103]),(11,.arr 142 1),(1103,.arr 130 4),Qmf,Qmg,Qmh,Qmi,Qmj,Qmk,Qml,(98361,.arr 79 5),(98362,.arr 66 2),(98363,.arr 90 4),(98364,.arr 87 7),(98365,.arr 146 4),(98366,.arr 93 5),(98367,.arr 45 3),Qpb,(1000008,.box Qmn),(1000009,.box QmM)] 73251880546 [xE 2 [(35,.b)]] @QT n
def ND:EZ9 23:=mkW (Vt n).ok [Rt n n,N2 n n] 23 Tryz.f23 [eP 1000000 7,eR 1000001 9 1,eR 1000002 9 1,eR 1000003 62 5,eR 1000004 172 6,eR 1000005 22 1,eR 1000006 22 1,eR 1000007 22 1,eP 1000008 2,sL 1,sI,eP 1000009 8,sI,eR 1000010 79 5,eR 1000011 66 2,eR 1000012 90 4,eR 1000013 87 7,eR 1000014 146 4,eR 1000015 93 5,eR 1000016 45 3,sB,sI] [eT 0] [] 124495 124671 @UU n
def AR:EZ9 25:=mkD (Xa [] []).ok nT 25 Tryz.f25 0 @Ms n
def Cw:EZ9 26:=mkD (Xa [] []).ok nT 26 Tryz.f26 0 @Ss n
def HV:BZ9:=Xa [⟨22,Um n⟩,⟨25,AR n⟩,⟨26,Cw n⟩] []
def Be:LZ9:=mkU (HV n).ok nT 5 Tryz.f24 [Qmb,(1,.ptr 1000001 0),(4,.ac 4 0 0),(5,.ac 5 0 0),QmQ,QmO,QmR,(21,tI),(22,tI)] Qpf 79097176 [xE 2 [(23,.b)]] @YE n
def Bg:LZ9:=mkU (HV n).ok [Be n n] 2 Tryz.f24 [Qmb,(1,.ptr 1000001 0),(4,.ac 4 0 0),(5,.ac 5 0 0),QmO,QmR] Qpf 2929525 [xE 0 [(15,.b)]] @U5 n
def BV:EZ9 24:=mkW (HV n).ok [Bg n n] 24 Tryz.f24 [eP 1000000 2,sL 1,sI,eP 1000001 8,sI,eR 1000002 79 5,eR 1000003 66 2,eR 1000004 90 4,eR 1000005 87 7,eR 1000006 146 4,eR 1000007 93 5,eR 1000008 45 3] [eT 0] [] 0 893 @RZ n
def Hw:BZ9:=Xa [⟨20,Q6S n⟩,⟨21,Q8o n⟩,⟨22,Um n⟩,⟨23,ND n⟩,⟨24,BV n⟩,⟨25,AR n⟩,⟨26,Cw n⟩] [(4,⟨[],[],[],[(6,2,500602,66,2),(6,3,500603,90,4),(6,4,500604,87,7),(6,5,500605,146,4),(6,6,500606,93,5),(6,7,500607,45,3)],[]⟩)]
def Q4m:LZ9:=mkU (Hw n).ok nT 5 Tryz.f7 [QmX,QmY,QmZ,Qn0,Qn1,Qms] [Qpg,(3,.box QmV),(6,.box [tI,.arr 37,.arr 500602,.arr 500603,.arr 500604,.arr 500605,.arr 500606,.arr 500607]),(37,.arr 79 5),Qph,Qpi,Qn6,Qn7,Qn8,Qn9,Qna,Qnb,Qnc,(500602,.arr 66 2),(500603,.arr 90 4),(500604,.arc 87 7),(500605,.arc 146 4),(500606,.arc 93 5),(500607,.arc 45 3)] 4330451 [xE 0 [(43,.b)]] @Gj n
def Q3W:LZ9:=mkU (Hw n).ok nT 10 Tryz.f7 [QmX,QmY,QmZ,Qn0,Qn1,Qmd] [Qpg,(3,.box QmV),(6,.box Qnd),Qph,Qpi,(50061,.arr 79 5),Qn6,Qnf,Qn7,Qng,Qn8,Qnh,Qn9,Qni,Qna,(300061,.arc 93 5),Qnb,(350061,.arc 45 3),Qnc] 676661 [xE 2 [(71,.b)]] @Ja n
def Q4P:LZ9:=mkU (Hw n).ok nT 22 Tryz.f7 Qnk [Qpg,(3,.box Qnj),(6,.box [tI,.arr 50061,.arr 100061,.arr 150061,.arr 200061,.arr 250061,.arr 175,.arr 350061]),(175,.arr 93 5),Qph,Qpi,(50061,.arr 79 5),Qn6,Qnf,Qn7,Qng,Qn8,Qnh,Qn9,Qni,Qna,Qnb,(350061,.arr 45 3),Qnc] 258283082 [xE 4 [(180,.b)]] @Vf n
def Q5j:LZ9:=mkU (Hw n).ok nT 22 Tryz.f7 Qnk [Qpg,(3,.box Qnj),(6,.box Qnd),Qph,Qpi,(50061,.arr 79 5),Qn6,Qnf,Qn7,Qng,Qn8,Qnh,Qn9,Qni,Qna,(300061,.arr 93 5),Qnb,(350061,.arr 45 3),Qnc] 258281246 [.f (.exit 4) [(2,.ptr 2 0),(3,.ptr 3 0),(4,.ptr 50013 0),(5,.ptr 50015 0),(6,.ptr 6 0),(10,tI),(180,.b)] [(2,.box QmU),(3,.box Qnj),(6,.box Qnd),(50013,.box Qmn),(50015,.box QmW),(50061,.arr 79 5),(100015,.arr 9 1),(100061,.arr 66 2),(150015,.arr 9 1),(150061,.arr 90 4),(200015,.arr 62 5),(200061,.arr 87 7),(250015,.arr 172 6),(250061,.arr 146 4),(300015,.arr 22 1),(350015,.arr 22 1),(350061,.arr 45 3),(400015,.arr 22 1),(300061,.arr 93 5)] [0,0,2,3,4,0,6,7,8,9,10,11,12,13,14,15,17,0,19,16]] @Hu n
def Q5G:EZ9 7:=mkD (Hw n).ok [Q4m n n,Q3W n n,orL (Q4P n n) (Q5j n n)] 7 Tryz.f7 0 @SK n
def Q2I:EZ9 185:=mkD (Xa [] []).ok nT 185 Tryz.f185 0 @LZ n
def Cq:EZ9 186:=mkD (Xa [] []).ok nT 186 Tryz.f186 0 @DF n
def Ci:BZ9:=Xa [⟨185,Q2I n⟩,⟨186,Cq n⟩] []
def Q58:LZ9:=mkU (Ci n).ok nT 4 Tryz.f143 [(0,.t),QmI] [] 7 [.f .ret [(2,.cb false)] [] [],xE 0 [(21,.b)]] @M7 n
def F9:EZ9 143:=mkD (Ci n).ok [Q58 n n] 143 Tryz.f143 0 @Ml n
def EJ:BZ9:=Xa [⟨143,F9 n⟩] []
def Q2t:LZ9:=mkU (EJ n).ok nT 4 Tryz.f109 [(0,.l 1),Qmc,Qmq] [] 22 [.f .ret [(4,.ci .i64 5)] [] [],xE 0 [(14,.b)]] @Ru n
def Q3K:EZ9 109:=mkD (EJ n).ok [Q2t n n] 109 Tryz.f109 0 @MI n
def JA(n:Nat):BZ9:=Xa [] [(2,⟨[],[],[(3,1003,9,1)],[],[]⟩)]
def T5:LZ9:=mkU (JA n).ok nT 3 Tryz.f110 [Qnn,Qno,Qmp] [Qnp,(1003,.arr 9 1)] 515 [xE 0 [(9,.b)]] @YX n
def LE:EZ9 110:=mkD (JA n).ok [T5 n n] 110 Tryz.f110 0 @Vb n
def LI:EZ9 110:=mkW (JA n).ok [T5 n n] 110 Tryz.f110 [eA [qL 1,qL 1,qL 5,qL 6]] [eR 1003 9 1] [] 0 0 @Vb n
def Q4f:EZ9 111:=mkD (Xa [] []).ok nT 111 Tryz.f111 0 @KK n
def Q1B:EZ9 154:=mkD (Xa [] []).ok nT 154 Tryz.f154 0 @Bp n
def Cf:BZ9:=Xa [⟨154,Q1B n⟩] []
def Q4V:LZ9:=mkU (Cf n).ok nT 4 Tryz.f155 [Qmc,QmY,Qnr,Qns,Qmd,(9,.ptr 9 0),Qnl] [Qnt,Qpj,(7,.box [.x,.x,.x,.x,.x,.x]),(9,.box [.x,.x,.x,.x,.x,.x])] 10446013798 [xE 0 [(19,.b)]] @Py n
def Q6c:EZ9 155:=mkD (Cf n).ok [Q4V n n] 155 Tryz.f155 0 @BZ n
def Sx:BZ9:=Xa [⟨111,Q4f n⟩,⟨154,Q1B n⟩,⟨155,Q6c n⟩] []
def EY:LZ9:=mkU (Sx n).ok nT 9 Tryz.f112 [Qmc,QmX,Qns,Qnv,QmD] [Qnw,(7,.box Qnq),(8,.box Qnq)] 29410 [.f .ret [(4,.ci .i64 5)] [] [],xE 0 [(85,.b)]] @H6 n
def CD:EZ9 112:=mkD (Sx n).ok [EY n n] 112 Tryz.f112 0 @JW n
def GR:BZ9:=Xa [⟨109,Q3K n⟩,⟨110,LE n⟩,⟨111,Q4f n⟩,⟨112,CD n⟩] []
def Q3a:LZ9:=mkU (GR n).ok nT 6 Tryz.f76 [Qnn,QmI] [Qnp] 5 [.f .ret [(2,tI)] [] [0],xE 0 [(43,.b)]] @Rn n
def Q2R:LZ9:=mkU (GR n).ok nT 12 Tryz.f76 [Qnn,Qmq] [Qnp] 11 [.f .ret [(2,tI)] [] [0],xE 2 [(57,.b)]] @Rx n
def Q2N:LZ9:=mkU (GR n).ok nT 19 Tryz.f76 [Qnn,Qnx,Qmd] [Qnp] 97 [.f .ret [(2,tI)] [] [0],xE 4 [(73,.b)]] @Jp n
def Q3q:LZ9:=mkU (GR n).ok nT 28 Tryz.f76 [Qnn,QmE] [Qnp] 122 [.f .ret [(2,tI)] [] [0],xE 6 [(117,.b)]] @Jg n
def Ps:EZ9 76:=mkD (GR n).ok [Q3a n n,Q2R n n,Q2N n n,Q3q n n] 76 Tryz.f76 0 @VJ n
def Cc(n:Nat):BZ9:=Xa [] []
def Q53:LZ9:=mkU (Cc n).ok nT 4 Tryz.f87 [Qnn,QmI] [(1,bT 36 [])] 83 [.f .ret [(2,.cb true)] [] [],xE 0 [(48,.b)]] @Gn n
def Q6l:EZ9 87:=mkD (Cc n).ok [Q53 n n] 87 Tryz.f87 0 @Fy n
def TN:EZ9 63:=mkD (Xa [] []).ok nT 63 Tryz.f63 0 @VR n
def EQ:EZ9 95:=mkD (Xa [] []).ok nT 95 Tryz.f95 0 @HR n
def KY:EZ9 144:=mkD (Xa [⟨95,EQ n⟩] []).ok nT 144 Tryz.f144 0 @Ye n
def PD:BZ9:=Xa [⟨143,F9 n⟩,⟨144,KY n⟩] []
def E4:LZ9:=mkU (PD n).ok nT 4 Tryz.f88 [Qmc,QmX,Qmq] [Qny] 34 [.f .ret [(4,.ci .i64 5)] [] [],xE 0 [(16,.b)]] @Ka n
def EZ:EZ9 88:=mkD (PD n).ok [E4 n n] 88 Tryz.f88 0 @GN n
def Lx(n:Nat):BZ9:=Xa [] [(5,⟨[],[],[(6,1006,209,4)],[],[]⟩)]
def Q0E:LZ9:=mkU (Lx n).ok nT 6 Tryz.f148 [QmX,Qnr,Qmr,Qms] [Qnw,Qpj,(1006,.arr 209 4)] 5429 [xE 0 [(22,.b)]] @Zr n
def Q36:EZ9 148:=mkD (Lx n).ok [Q0E n n] 148 Tryz.f148 0 @Al n
def Lw:BZ9:=Xa [⟨148,Q36 n⟩] []
def Q0H:LZ9:=mkU (Lw n).ok nT 3 Tryz.f100 [Qnr,Qn1,(8,.l 4),QmD] [Qpj,(6,.box Qnz)] 43 [.f .ret [(6,.ptr 6 0),(7,.cb true)] [(6,.box QnA)] [0,0,0,0],xE 0 [(16,.b)]] @PY n
def Ea:EZ9 100:=mkF (Lw n).ok [Q0H n n] 100 Tryz.f100 [eA [qL 1,qL 1,qL 5,qL 6],eA [qI,qI],eA [qI,qI]] [eT 2,eA [qX,qX,qX,qX],sB] 0 @G7 n
def Un:BZ9:=Xa [⟨76,Ps n⟩,⟨95,EQ n⟩,⟨100,Ea n⟩] []
def Fo:LZ9:=mkU (Un n).ok nT 8 Tryz.f89 [QmX,QmY,Qmq] Qpk 272 [.f .ret [(4,.ci .i64 4)] [] [],xE 0 [(39,.b)]] @YT n
def Fk:LZ9:=mkU (Un n).ok nT 16 Tryz.f89 [QmX,QmY,QmQ,Qms] Qpk 736 [.f .ret [(4,.ci .i64 5)] [] [],xE 4 [(73,.b)]] @K7 n
def FL:LZ9:=mkU (Un n).ok [Fk n n] 13 Tryz.f89 [QmX,QmY,QmQ] Qpk 245 [.f .ret [(4,.ci .i64 5)] [] [],xE 2 [(68,.b)]] @VZ n
def E7:LZ9:=mkU (Un n).ok nT 21 Tryz.f89 [QmX,QmY,Qmd] Qpk 365 [.f .ret [(4,.ci .i64 11)] [] [],xE 6 [(93,.b)]] @YQ n
def Sd:EZ9 89:=mkD (Un n).ok [Fo n n,FL n n,E7 n n] 89 Tryz.f89 0 @J9 n
def Rl:EZ9 145:=mkD (Xa [] []).ok nT 145 Tryz.f145 0 @KH n
def RC:BZ9:=Xa [⟨89,Sd n⟩] [(5,⟨[],[],[(8,1008,269,2)],[],[]⟩)]
def Q2O:LZ9:=mkU (RC n).ok nT 13 Tryz.f146 [QmX,QmY,QnE,QmD,QmJ,QmE,QmG] [Qnw,Qpl,(10,.box [.x,.x,.x,.x,.x]),(1008,.arr 269 2)] 9802155 [xE 2 [(53,.b)]] @Uj n
def Q2L:LZ9:=mkU (RC n).ok [Q2O n n] 6 Tryz.f146 [QmX,QmY,QnE,QmD] [Qnw,Qpl,(1008,.arr 269 2)] 5375 [xE 0 [(26,.b)]] @Ut n
def C3:EZ9 146:=mkD (RC n).ok [Q2L n n] 146 Tryz.f146 0 @Sw n
def DZ:BZ9:=Xa [⟨146,C3 n⟩,⟨144,KY n⟩] []
def Q4k:LZ9:=mkU (DZ n).ok nT 7 Tryz.f94 [QmY,QnG,Qnr,Qnl] [Qnt,(4,.box QnB),QnH] 7562 [.f .ret [(6,.ci .i64 12)] [] [],xE 0 [(31,.b)]] @Gs n
def LU:EZ9 94:=mkD (DZ n).ok [Q4k n n] 94 Tryz.f94 0 @ST n
def Pz:EZ9 15:=mkD (Xa [] []).ok nT 15 Tryz.f15 0 @VO n
def RN:EZ9 17:=mkD (Xa [] []).ok nT 17 Tryz.f17 0 @JI n
def KG:BZ9:=Xa [⟨143,F9 n⟩,⟨63,TN n⟩,⟨145,Rl n⟩,⟨94,LU n⟩,⟨15,Pz n⟩,⟨17,RN n⟩] []
def Dw:LZ9:=mkU (KG n).ok nT 5 Tryz.f90 [QmK,QmY,QnG,Qns,Qmd] [Qnt,(4,bT 36 []),(7,.box QnA)] 4802659 [.f .ret [(6,.ci .i64 5)] [] [],xE 0 [(24,.b)]] @WG n
def DR:LZ9:=mkU (KG n).ok nT 14 Tryz.f90 [QmY,QnG,Qns,QmD] [Qnt,(4,bT 36 []),(7,.box QnA)] 48626852 [.f .ret [(6,tI)] [] [0],xE 2 [(58,.b)]] @Wy n
def Bi:EZ9 90:=mkD (KG n).ok [Dw n n,DR n n] 90 Tryz.f90 0 @Hb n
def Q02:EZ9 93:=mkD (Xa [⟨63,TN n⟩] []).ok nT 93 Tryz.f93 0 @JO n
def Hn:EZ9 16:=mkF (Xa [] []).ok nT 16 Tryz.f16 [eA [qI,qL 5,qL 2,qL 4,qL 7,qL 4,qL 5,qL 3],sI,sI] [eA [qX,qX]] 0 @XG n
def Eo:EZ9 91:=mkD (Xa [⟨93,Q02 n⟩,⟨145,Rl n⟩,⟨63,TN n⟩,⟨16,Hn n⟩,⟨17,RN n⟩,⟨15,Pz n⟩] []).ok nT 91 Tryz.f91 0 @HX n
def Sn:BZ9:=Xa [⟨63,TN n⟩,⟨145,Rl n⟩,⟨16,Hn n⟩,⟨17,RN n⟩,⟨15,Pz n⟩] []
def Dm:LZ9:=mkU (Sn n).ok nT 5 Tryz.f92 [Qmc,QmX,Qnr,QmQ] [Qny,(5,.box QnA)] 238390 [.f .ret [(4,.ci .i64 5)] [] [],xE 0 [(43,.b)]] @WH n
def Cz:EZ9 92:=mkD (Sn n).ok [Dm n n] 92 Tryz.f92 0 @Hi n
def YJ:BZ9:=Xa [⟨76,Ps n⟩,⟨87,Q6l n⟩,⟨63,TN n⟩,⟨88,EZ n⟩,⟨89,Sd n⟩,⟨90,Bi n⟩,⟨91,Eo n⟩,⟨92,Cz n⟩,⟨93,Q02 n⟩] []
def DG:LZ9:=mkU (YJ n).ok nT 8 Tryz.f60 [QmX,QmY,Qmq] QnK 797042 [.f .ret [(4,tI)] [] [0],xE 0 [(32,.b)]] @WC n
def EX:LZ9:=mkU (YJ n).ok nT 14 Tryz.f60 [QmX,QmY,Qms] QnK 2309 [.f .ret [(4,tI)] [] [0],xE 2 [(45,.b)]] @Wx n
def D0:LZ9:=mkU (YJ n).ok nT 20 Tryz.f60 [QmX,QmY,QmD] QnK 797162 [.f .ret [(4,tI)] [] [0],xE 4 [(62,.b)]] @WB n
def DW:LZ9:=mkU (YJ n).ok nT 26 Tryz.f60 [QmX,QmY,QmE] QnK 797162 [.f .ret [(4,tI)] [] [0],xE 6 [(76,.b)]] @Zl n
def D9:LZ9:=mkU (YJ n).ok nT 32 Tryz.f60 [QmX,QmY,QmO] QnK 797042 [.f .ret [(4,tI)] [] [0],xE 8 [(94,.b)]] @Zf n
def Dd:LZ9:=mkU (YJ n).ok nT 38 Tryz.f60 [QmX,QmY,QmL] QnK 797042 [.f .ret [(4,.ci .i64 4)] [] [],xE 10 [(107,.b)]] @Zb n
def Dg:LZ9:=mkU (YJ n).ok nT 44 Tryz.f60 [QmX,QmY,(17,tI)] QnK 531446 [.f .ret [(4,.ci .i64 4)] [] [],xE 12 [(158,.b)]] @Zh n
def Nx:EZ9 60:=mkD (YJ n).ok [DG n n,EX n n,D0 n n,DW n n,D9 n n,Dd n n,Dg n n] 60 Tryz.f60 0 @Wl n
def E8(n:Nat):BZ9:=Xa [] []
def Q2i:LZ9:=mkU (E8 n).ok nT 2 Tryz.f61 [Qmc,QmX,QnG,QmQ] [Qny,(4,.box Qnz)] 2194 [.f .ret [(4,.ptr 4 0),(5,.cb true)] [(4,.box QnA)] [0,0,0,0],xE 0 [(11,.b)]] @Ji n
def C7:EZ9 61:=mkF (E8 n).ok [Q2i n n] 61 Tryz.f61 [eA [qI,qL 5,qL 2,qL 4,qL 7,qL 4,qL 5,qL 3],sI] [eT 2,eA [qX,qX,qX,qX],sB] 223 @SO n
def Q0q:BZ9:=Xa [⟨144,KY n⟩,⟨95,EQ n⟩] []
def Q5L:LZ9:=mkU (Q0q n).ok nT 6 Tryz.f211 [QnM,Qmc,Qms] [] 19 [.f .ret [(6,.ci .i64 4)] [] [],xE 0 [(17,.b)]] @KI n
def Q8r:EZ9 211:=mkD (Q0q n).ok [Q5L n n] 211 Tryz.f211 0 @Bo n
def ET(n:Nat):BZ9:=Xa [] []
def Q23:LZ9:=mkU (ET n).ok nT 3 Tryz.f212 [QnM,Qmc,Qms,Qmd] [] 76 [xE 0 [(18,.b)]] @Jf n
def Q41:EZ9 212:=mkD (ET n).ok [Q23 n n] 212 Tryz.f212 0 @Sm n
def Q48:EZ9 213:=mkD (Xa [] []).ok nT 213 Tryz.f213 0 @MZ n
def Q4B:EZ9 214:=mkD (Xa [] []).ok nT 214 Tryz.f214 0 @MW n
def C6(n:Nat):BZ9:=Xa [] []
def Q5q:LZ9:=mkU (C6 n).ok nT 4 Tryz.f215 [QnN,QmI,Qmp] [] 25 [xE 0 [(10,.b)]] @J3 n
def Q5I:EZ9 215:=mkD (C6 n).ok [Q5q n n] 215 Tryz.f215 0 @MB n
def JG:BZ9:=Xa [⟨211,Q8r n⟩,⟨212,Q41 n⟩,⟨213,Q48 n⟩,⟨214,Q4B n⟩,⟨215,Q5I n⟩] []
def Q18:LZ9:=mkU (JG n).ok nT 7 Tryz.f187 [QnM,Qmc,Qnr,QmD,(10,.arr 29),QmE] QnO 49234 [xE 0 [(32,.b)]] @UK n
def Q0C:LZ9:=mkU (JG n).ok nT 12 Tryz.f187 [QnM,Qmc,Qnr,QmD,(10,.arr 29),QmO] QnO 49234 [xE 2 [(57,.b)]] @UP n
def Q0T:LZ9:=mkU (JG n).ok nT 16 Tryz.f187 [QnM,Qmc,Qnr,QmD,(10,.arr 29),QmR] QnO 49225 [xE 4 [(86,.b)]] @US n
def Q0K:LZ9:=mkU (JG n).ok nT 20 Tryz.f187 [QmD,(10,.arr 29),QmL] [QnP] 25 [xE 6 [(116,.b)]] @VK n
def Q33:EZ9 187:=mkD (JG n).ok [Q18 n n,Q0C n n,Q0T n n,Q0K n n] 187 Tryz.f187 0 @RG n
def LS:EZ9 97:=mkD (Xa [] []).ok nT 97 Tryz.f97 0 @JE n
def EM:BZ9:=Xa [⟨187,Q33 n⟩,⟨97,LS n⟩] []
def Q2l:LZ9:=mkU (EM n).ok nT 6 Tryz.f147 [(8,.l 1),(10,.arr 24),QmE] [(24,.arr 3 1)] 25 [xE 0 [(28,.b)]] @Jm n
def Q4R:EZ9 147:=mkD (EM n).ok [Q2l n n] 147 Tryz.f147 0 @Sb n
def Mx:BZ9:=Xa [⟨94,LU n⟩,⟨146,C3 n⟩,⟨147,Q4R n⟩,⟨97,LS n⟩] [(7,⟨[],[],[(6,1006,3,1),(7,1007,3,1)],[],[]⟩)]
def BE:LZ9:=mkU (Mx n).ok nT 8 Tryz.f96 [QmY,QnG,Qnr,Qmr,QnQ,(14,.l 1),Qme,(17,tI)] [Qnt,(4,.box QnB),QnH,(1006,.arr 3 1),(1007,.arr 3 1)] 38331817 [xE 0 [(46,.b)]] @ZC n
def Q0v:EZ9 96:=mkD (Mx n).ok [BE n n] 96 Tryz.f96 0 @PE n
def Q5s:EZ9 98:=mkD (Xa [] []).ok nT 98 Tryz.f98 0 @VP n
def FH:EZ9 99:=mkW (Xa [] []).ok nT 99 Tryz.f99 [eP 1000000 2,eR 1000001 4 1,eR 1000002 164 3,sI,sI,sI] [eT 0] [] 0 0 @Z1 n
def Mg:BZ9:=Xa [⟨94,LU n⟩,⟨95,EQ n⟩,⟨96,Q0v n⟩,⟨97,LS n⟩,⟨98,Q5s n⟩,⟨99,FH n⟩,⟨100,Ea n⟩] [(31,⟨[],[],[(27,1027,164,3)],[],[]⟩)]
def Q4t:LZ9:=mkU (Mg n).ok nT 12 Tryz.f62 [QmI,Qmp,Qnr,Qn1,(14,.l 1),(15,.l 1),Qme,QnR,(19,.ptr 65 0),(20,tI),(21,tI),(22,tI)] [(5,bT 27 []),(6,.box QnB),(61,.arr 4 1),(63,.arr 164 3),(65,.box [.arr 61,.arr 63])] 117191245 [xE 0 [(73,.b)]] @Wr n
def Q4I:LZ9:=mkU (Mg n).ok nT 32 Tryz.f62 [Qme,QnR,(19,.ptr 65 0),(27,.arr 1027),(28,tI)] [(61,.arr 4 1),(63,.arr 164 3),(65,.box [.arr 61,.arr 63]),(1027,.arr 164 3)] 615 [xE 3 [(173,.b)]] @Vg n
def Q6K:EZ9 62:=mkD (Mg n).ok [Q4t n n,Q4I n n] 62 Tryz.f62 0 @HI n
def S8:BZ9:=Xa [⟨60,Nx n⟩,⟨61,C7 n⟩,⟨16,Hn n⟩,⟨62,Q6K n⟩] [(5,⟨[],[],[(7,1007,110,1),(8,1008,3,1)],[],[]⟩)]
def Q0P:LZ9:=mkU (S8 n).ok nT 10 Tryz.f35 [QmX,QmY,QnQ,QnE,QmD,QmJ,QmE] [Qnw,QnL,(10,.box QnA),QnU,QnV] 3245244469 [xE 2 [(39,.b)]] @YO n
def Q0M:LZ9:=mkU (S8 n).ok [Q0P n n] 6 Tryz.f35 [QmX,QmY,QnQ,QnE,QmD] QnW 13551746 [xE 0 [(27,.b)]] @UO n
def Q3l:EZ9 35:=mkD (S8 n).ok [Q0M n n] 35 Tryz.f35 0 @RJ n
def SA(n:Nat):BZ9:=Xa [] []
def Dp:LZ9:=mkU (SA n).ok nT 2 Tryz.f64 [(0,.l 3),QmI] [] 7 [.f .ret [(2,.cb false)] [] [],xE 0 [(7,.b)]] @Z8 n
def Nr:EZ9 64:=mkD (SA n).ok [Dp n n] 64 Tryz.f64 0 @JU n
def FK:BZ9:=Xa [⟨63,TN n⟩,⟨64,Nr n⟩] []
def Q25:LZ9:=mkU (FK n).ok nT 4 Tryz.f36 [QnN,(1,.l 3),Qmq] [] 22 [.f .ret [(4,.cb false)] [] [],xE 0 [(17,.b)]] @Ju n
def Q5g:EZ9 36:=mkD (FK n).ok [Q25 n n] 36 Tryz.f36 0 @L4 n
def FD(n:Nat):BZ9:=Xa [] []
def Q3z:LZ9:=mkU (FD n).ok nT 3 Tryz.f65 [Qmc,QmX,Qmq,QmQ] [Qny] 754 [xE 0 [(9,.b)]] @Jw n
def NX:EZ9 65:=mkD (FD n).ok [Q3z n n] 65 Tryz.f65 247 @U7 n
def PS:BZ9:=Xa [⟨65,NX n⟩,⟨61,C7 n⟩] [(2,⟨[],[],[(5,1005,115,4)],[],[]⟩)]
def Q17:LZ9:=mkU (PS n).ok nT 7 Tryz.f37 QnX [Qny,(7,.box QnA),(1005,.arr 115 4)] 33488095 [xE 2 [(29,.b)]] @Wo n
def Q0F:LZ9:=mkU (PS n).ok [Q17 n n] 3 Tryz.f37 Qo0 [Qny,(1005,.arr 115 4)] 120535 [xE 0 [(17,.b)]] @Ux n
def Q3s:EZ9 37:=mkD (PS n).ok [Q0F n n] 37 Tryz.f37 215 @Rh n
def TJ(n:Nat):BZ9:=Xa [] []
def F2:LZ9:=mkU (TJ n).ok nT 2 Tryz.f101 [(0,.l 3),Qmc,QnG,QmQ] [(4,.box Qo1)] 22 [.f .ret [(4,.ptr 4 0),(5,.cb true)] [(4,.box Qo2)] [0,0,0],xE 0 [(10,.b)]] @Z7 n
def Es:EZ9 101:=mkF (TJ n).ok [F2 n n] 101 Tryz.f101 [sL 3,sI] [eT 2,eA [qX,qX,qX],sB] 0 @VE n
def Cy:EZ9 66:=mkF (Xa [⟨101,Es n⟩] []).ok nT 66 Tryz.f66 [sL 1,eA [qI,qI,qI,qI],sI] [eT 3,eA [qX,qX,qX],eA [qX,qX,qX],sB] 16 @Sj n
def Lj:BZ9:=Xa [⟨66,Cy n⟩] []
def Q0B:LZ9:=mkU (Lj n).ok nT 2 Tryz.f38 [(0,.l 1),QmK,QnG,Qms] [(4,bT 115 [])] 1102 [.f .ret [(6,.cb false)] [] [],xE 0 [(18,.b)]] @UM n
def Q35:EZ9 38:=mkD (Lj n).ok [Q0B n n] 38 Tryz.f38 0 @RX n
def PL:BZ9:=Xa [⟨65,NX n⟩] [(2,⟨[],[],[(5,1005,57,6)],[],[]⟩)]
def Q1a:LZ9:=mkU (PL n).ok nT 7 Tryz.f39 QnX [Qny,(7,.box QnA),(1005,.arr 57 6)] 35075857 [xE 2 [(27,.b)]] @UG n
def Q0z:LZ9:=mkU (PL n).ok [Q1a n n] 3 Tryz.f39 Qo0 [Qny,(1005,.arr 57 6)] 118348 [xE 0 [(15,.b)]] @UD n
def Q3j:EZ9 39:=mkW (PL n).ok [Q0z n n] 39 Tryz.f39 [eA [qI,qL 5,qL 2,qL 4,qL 7,qL 4,qL 5,qL 3],sL 1] [eR 1005 57 6] [] 247 0 @Rc n
def He:BZ9:=Xa [⟨65,NX n⟩] [(2,⟨[],[],[(3,1003,57,6)],[],[]⟩)]
def Q14:LZ9:=mkU (He n).ok nT 3 Tryz.f40 [Qnn,Qno,Qmp] Qo5 39692 [xE 0 [(14,.b)]] @UE n
def Q15:LZ9:=mkU (He n).ok nT 8 Tryz.f40 [Qnn,Qno,QmQ] Qo5 40178 [xE 2 [(53,.b)]] @Wm n
def Q0w:LZ9:=mkU (He n).ok nT 13 Tryz.f40 [Qnn,Qno,Qmd] Qo5 41636 [xE 4 [(93,.b)]] @Zp n
def Q34:EZ9 40:=mkD (He n).ok [Q14 n n,Q15 n n,Q0w n n] 40 Tryz.f40 135 @RW n
def T1:BZ9:=Xa [⟨66,Cy n⟩] [(2,⟨[],[],[(9,1009,164,3)],[],[]⟩)]
def CJ:LZ9:=mkU (T1 n).ok nT 7 Tryz.f42 [(0,.l 1),(1,.l 4),QmK,QmI,(9,.arr 1009),Qnl,(11,.b),QmG] [(1009,.arr 164 3)] 2065 [xE 2 [(28,.b)]] @Z2 n
def CI:LZ9:=mkU (T1 n).ok [CJ n n] 3 Tryz.f42 [(0,.l 1),(1,.l 4),QmK,QmI,(9,.arr 1009),Qnl] [(1009,.arr 164 3)] 688 [xE 0 [(22,.b)]] @ZW n
def BT:EZ9 42:=mkD (T1 n).ok [CI n n] 42 Tryz.f42 0 @GS n
def Cl(n:Nat):BZ9:=Xa [] []
def Q4K:LZ9:=mkU (Cl n).ok nT 2 Tryz.f102 [(0,.l 3),Qmc,QnG,QmQ] [(4,.box Qo1)] 22 [.f .ret [(4,.ptr 4 0),(5,.cb true)] [(4,.box Qo2)] [0,0,0],xE 0 [(10,.b)]] @Uu n
def Q6O:EZ9 102:=mkF (Cl n).ok [Q4K n n] 102 Tryz.f102 [sL 3,sI] [eT 2,eA [qX,qX,qX],sB] 0 @AL n
def DX:EZ9 68:=mkD (Xa [] []).ok nT 68 Tryz.f68 0 @Ew n
def KP:BZ9:=Xa [⟨63,TN n⟩,⟨64,Nr n⟩,⟨102,Q6O n⟩,⟨68,DX n⟩] []
def DA:LZ9:=mkU (KP n).ok nT 13 Tryz.f67 [QnN,(1,.l 3),(2,.l 3),(8,.arr 26),QmD,QmJ,QmG,QmO] [(10,.box Qo2),(26,.arr 4 1)] 46525 [xE 2 [(70,.b)]] @Zi n
def D8:LZ9:=mkU (KP n).ok [DA n n] 7 Tryz.f67 [QnN,(1,.l 3),(2,.l 3),(8,.arr 26),QmD] [(26,.arr 4 1)] 229 [xE 0 [(30,.b)]] @Yj n
def CX:EZ9 67:=mkD (KP n).ok [D8 n n] 67 Tryz.f67 0 @Hh n
def GC:BZ9:=Xa [⟨67,CX n⟩,⟨68,DX n⟩] [(13,⟨[],[],[(12,1012,123,2)],[],[]⟩)]
def Ai:LZ9:=mkU (GC n).ok nT 6 Tryz.f41 [QnN,(8,.l 1),Qnl,QmE] [] 76 [xE 0 [(27,.b)]] @WJ n
def AG:LZ9:=mkU (GC n).ok nT 18 Tryz.f41 [QnN,(8,.l 1),(12,.arr 1012),QmO,QmR] [(1012,.arr 123 2)] 67 [xE 4 [(65,.b)]] @WT n
def A6:LZ9:=mkU (GC n).ok [AG n n] 14 Tryz.f41 [QnN,(8,.l 1),(12,.arr 1012),QmO] [(1012,.arr 123 2)] 76 [xE 2 [(41,.b)]] @Yy n
def Q0V:EZ9 41:=mkD (GC n).ok [Ai n n,A6 n n] 41 Tryz.f41 0 @Hv n
def Wn:BZ9:=Xa [⟨35,Q3l n⟩,⟨36,Q5g n⟩,⟨37,Q3s n⟩,⟨38,Q35 n⟩,⟨39,Q3j n⟩,⟨40,Q34 n⟩,⟨42,BT n⟩,⟨41,Q0V n⟩] [(18,⟨[],[],[],[(12,1,1121,60,3)],[]⟩),(21,⟨[],[],[],[(12,1,1121,60,3)],[]⟩)]
def Q1c:LZ9:=mkU (Wn n).ok nT 7 Tryz.f13 [QmY,QnG,Qo8,Qnx,QmD] [QnL,(4,.box Qo7)] 46 [.f .ret [(4,.ptr 4 0),(5,.ci .i64 13)] [(4,.box Qo7)] [],xE 0 [(39,.b)]] @UQ n
def Q12:LZ9:=mkU (Wn n).ok nT 13 Tryz.f13 [QmY,QnG,Qo8,Qnx,Qob,QmE] [QnL,(4,.box Qo7)] 145 [.f .ret [(4,.ptr 4 0),(5,.ci .i64 13)] [(4,.box Qo7)] [],xE 2 [(57,.b)]] @UR n
def Q0y:LZ9:=mkU (Wn n).ok nT 22 Tryz.f13 [QmY,QnG,Qo8,Qnx,Qob,Qoc,QmO,QmR] [QnL,Qod,(12,.box [tI,.arr 1121,.nil]),Qoe] 28704564 [xE 6 [(88,.b)]] @VQ n
def Q19:LZ9:=mkU (Wn n).ok [Q0y n n] 19 Tryz.f13 [QmY,QnG,Qo8,Qnx,Qob,Qoc,QmO] [QnL,(4,.box Qo7),(12,.box [tI,.arr 1121,.nil]),Qoe] 3190887 [xE 4 [(77,.b)]] @Wq n
def Q0Y:LZ9:=mkU (Wn n).ok nT 36 Tryz.f13 [QmY,QnG,Qo8,Qob,Qoc,QmL,Qme,(17,.l 2),Qog] Qpm 86094045 [xE 12 [(145,.b)]] @UN n
def Q1b:LZ9:=mkU (Wn n).ok [Q0Y n n] 30 Tryz.f13 [QmY,QnG,Qo8,Qob,Qoc,QmL,Qme] Qpm 9566086 [.f .ret [(4,.ptr 4 0),(5,.ci .i64 13)] [(4,.box Qo7)] [],xE 10 [(120,.b)]] @VM n
def Q0G:LZ9:=mkU (Wn n).ok [Q1b n n] 27 Tryz.f13 [QmY,QnG,Qo8,Qob,Qoc,QmL] [QnL,(4,.box Qo7),(12,.box Qof),(107,.arr 57 6),Qoe] 1062931 [.f .ret [(4,.ptr 4 0),(5,.ci .i64 13)] [(4,.box Qo7)] [],xE 8 [(112,.b)]] @UJ n
def EH:EZ9 13:=mkD (Wn n).ok [Q1c n n,Q12 n n,Q19 n n,Q0G n n] 13 Tryz.f13 0 @UA n
def D7:EZ9 44:=mkD (Xa [] []).ok nT 44 Tryz.f44 0 @G2 n
def Lo:BZ9:=Xa [⟨44,D7 n⟩] []
def Q0W:LZ9:=mkU (Lo n).ok nT 4 Tryz.f69 [Qnn,QmI] [(1,.box Qoj)] 41 [.f .ret [(2,.cb false)] [] [],xE 0 [(25,.b)]] @VN n
def Rm:EZ9 69:=mkD (Lo n).ok [Q0W n n] 69 Tryz.f69 0 @Uy n
def Q8Y:EZ9 71:=mkD (Xa [] []).ok nT 71 Tryz.f71 0 @Q2G n
def SL(n:Nat):BZ9:=Xa [] []
def DI:LZ9:=mkU (SL n).ok nT 5 Tryz.f149 [Qol,Qmq,QmQ,(22,tI),(23,tI)] [(1000000,.arr 3 1)] 229 [xE 0 [(24,.b)]] @Zk n
def Bc:EZ9 149:=Qff (mkW (SL n).ok [DI n n] 149 Tryz.f149 [eR 1000000 3 1,eA [qI,qI,qI,qI,qI,qI]] [sB] [(1,eK 1000000 3 1)] 0 0 @JT n)
def WK:BZ9:=Xa [⟨69,Rm n⟩,⟨149,Bc n⟩] []
def Fb:LZ9:=mkU (WK n).ok nT 5 Tryz.f103 [Qnn,(3,.arr 16),QnR,Qog] [(1,.box Qoj),Qom] 493 [xE 0 [(20,.b)]] @Zm n
def LM:LZ9:=mkU (WK n).ok nT 10 Tryz.f103 [Qnn,(3,.arr 16),Qmq] [(1,.box Qoj),Qom] 191 [xE 2 [(31,.b)]] @Zj n
def LB:LZ9:=mkU (WK n).ok nT 20 Tryz.f103 [(3,.arr 16),(6,.arr 43),Qms,Qmd,QmD,(45,tI),(46,tI)] [Qom,(43,.arr 3 1)] 1722 [xE 6 [(54,.b)]] @YG n
def LA:LZ9:=mkU (WK n).ok [LB n n] 16 Tryz.f103 [(3,.arr 16),(6,.arr 43),Qms,(45,tI),(46,tI)] [Qom,(43,.arr 3 1)] 212 [xE 4 [(47,.b)]] @YH n
def FJ:EZ9 103:=mkD (WK n).ok [Fb n n,LM n n,LA n n] 103 Tryz.f103 0 @G1 n
def GZ:BZ9:=Xa [⟨103,FJ n⟩] []
def Et:LZ9:=mkU (GZ n).ok nT 8 Tryz.f72 [Qnx,(8,.ptr 25 0),QmD,Qnl,(27,tI),(28,tI)] [Qon,(23,.arr 4 1),(25,bT 152 [(3,.arr 23),(10,.nil),(11,.arr 19)])] 1480 [xE 2 [(39,.b)]] @YV n
def Ej:LZ9:=mkU (GZ n).ok [Et n n] 4 Tryz.f72 [Qnx,(8,.ptr 25 0),(27,tI),(28,tI)] [Qon,(23,.arr 4 1),(25,.box [tI,.l 3,.l 6,.arr 23,tI,.ci .i64 0,.cb false,.b,.cb false,.ci .i64 0,.nil,.arr 19])] 184 [xE 0 [(29,.b)]] @ZM n
def D6:EZ9 72:=mkW (GZ n).ok [Ej n n] 72 Tryz.f72 [eA [qI,qL 3,qL 6],sI,sB] [eP 25 12,sI,sL 3,sL 6,eR 23 4 1,sI,sI,sB,sB,sB,sI,eN,eR 19 3 1] [] 0 0 @K6 n
def E2:BZ9:=Xa [⟨69,Rm n⟩,⟨44,D7 n⟩] []
def Q2p:LZ9:=mkU (E2 n).ok nT 4 Tryz.f43 [QnY,QmX,Qmq] [(2,.box Qoj)] 16 [.f .ret [(4,.cb false)] [] [],xE 0 [(20,.b)]] @Jr n
def Cd:EZ9 43:=mkD (E2 n).ok [Q2p n n] 43 Tryz.f43 0 @Gk n
def R5:EZ9 45:=mkD (Xa [⟨68,DX n⟩] []).ok nT 45 Tryz.f45 790 @Jc n
def Fw:BZ9:=Xa [⟨43,Cd n⟩,⟨45,R5 n⟩] []
def Q3A:LZ9:=mkU (Fw n).ok nT 5 Tryz.f104 [QnY,QmX,QmQ,Qms] [(2,.box Qoj)] 295 [xE 0 [(16,.b)]] @Jk n
def Q5n:EZ9 104:=mkD (Fw n).ok [Q3A n n] 104 Tryz.f104 0 @L3 n
def VY:BZ9:=Xa [⟨45,R5 n⟩] []
def Tf:LZ9:=mkU (VY n).ok nT 3 Tryz.f105 Qor Qpn 2536 [.f .ret [(4,.cb true)] [(98003,.arr 4 1),(98011,.arr 3 1),(1000000,bT 152 Qoq)] [4,5,6,7,8,9,10,11,12,13,14,15],xE 0 [(16,.b)]] @Xj n
def TY:EZ9 105:=mkW (VY n).ok [Tf n n] 105 Tryz.f105 (pT 1000000 152 Qou [sI]) [sB] [] 1146 8190 @Zu n
noncomputable abbrev Wi:Y Sp:=(pT 1000000 152 Qou [sI])
abbrev Wh:Y Sp:=[sB,eI 1000000 12,sI,sL 3,sL 6,eR 98003 4 1,sI,sI,sB,sB,sB,sI,sL 1,eR 98011 3 1,eG 1000001,eG 1000002]
noncomputable abbrev Vv(n d:Nat):LF (lts Wi) (oP (HT (lts Wh))):=XH n d
def Gu(n d:Nat)(ih:UB Tryz.prog 73 (Qdn Wi Wh (Vv n d))):BZ9:=Xa [⟨104,Q5n n⟩,⟨105,TY n⟩,⟨73,⟨_,ih⟩⟩] [(5,⟨[],[],[],[],[98010]⟩),(1000000017,⟨[],[],[],[],[]⟩)]
def Si(n d:Nat)(ih:UB Tryz.prog 73 (Qdn Wi Wh (Vv n d))):LZ9:=mkU (Gu n d ih).ok nT 10 Tryz.f73 Qor Qpn 14348902 [.f .ret [(4,.cb false)] [(98003,.arr 4 1),(98011,.arr 3 1),(1000000,bT 152 Qoq)] [0,0,0,0,0,0,0,0,0,0,0,0],xE 0 [(59,.b)]] (λR n=>@Xx R n (XH n d)) n
theorem V5(n:Nat):∀d,UB Tryz.prog 73 (Qdn Wi Wh (Vv n d))
|0=>Q6G Tryz.f73 _ _ _ (λv r h=>nomatch (show none=some r from h)) (by intro v;kernel_rfl) (by kernel_rfl) (by kernel_rfl) (by kernel_rfl) (by kernel_rfl)
|d+1=>Qbh (Gu n d (V5 n d)).ok [Si n d (V5 n d) n] Tryz.f73 _ _ _ (by intro v;kernel_rfl) (by intro v;kernel_rfl) (by kernel_rfl) (by kernel_rfl) (by kernel_rfl) (by kernel_rfl) (by kernel_rfl) (by kernel_rfl)
def Ry:EZ9 73:=⟨_,V5 n n⟩
def Q6s:EZ9 54:=mkX (Xa [⟨69,Rm n⟩,⟨71,Q8Y n⟩,⟨72,D6 n⟩,⟨73,Ry n⟩] []).ok nT 54 Tryz.f54 [eA [qI,qL 3,qL 6],sI,sB] [eT 2,eU,sI] [eT 2,eP 50018 12,sI,sL 3,sL 6,eR 50020 4 1,sI,sI,sB,sB,sB,sI,sL 1,eR 100020 3 1,sI] 0 @Ft n
def CZ:EZ9 27:=mkX (Xa [⟨54,Q6s n⟩] []).ok nT 27 Tryz.f27 [eA [qI,qL 3,qL 6],sI] [eT 3,eN,sI,sI] [eT 3,sL 1,sI,sI] 0 @Zt n
def EL:EZ9 8:=mkX (Xa [⟨13,EH n⟩,⟨27,CZ n⟩] []).ok nT 8 Tryz.f8 [eA [qL 1,qL 1,qL 5,qL 6],eA [qI,qL 5,qL 2,qL 4,qL 7,qL 4,qL 5,qL 3]] [eN] [sL 1] 0 @Vm n
def Q5y:EZ9 150:=mkD (Xa [] []).ok nT 150 Tryz.f150 0 @DM n
def Q0n:BZ9:=Xa [⟨150,Q5y n⟩] [(2,⟨[],[],[(6,1006,183,3)],[],[]⟩)]
def Q6P:LZ9:=mkU (Q0n n).ok nT 3 Tryz.f106 [(0,.t),Qmc,Qmr,Qms] [(1006,.arr 183 3)] 76 [.f .ret [(4,.nil),(5,.ci .i64 2)] [] [],xE 0 [(18,.b)]] @TW n
def Q8Z:EZ9 106:=mkD (Q0n n).ok [Q6P n n] 106 Tryz.f106 0 @Q70 n
def Rv:BZ9:=Xa [⟨106,Q8Z n⟩] [(5,⟨[],[],[(5,1005,181,1)],[],[]⟩)]
def Q38:LZ9:=mkU (Rv n).ok nT 9 Tryz.f74 [(0,.t),QnZ,QmQ,Qms,Qmd] [(1005,.arr 181 1)] 55 [xE 2 [(30,.b)]] @Rk n
def Q2z:LZ9:=mkU (Rv n).ok [Q38 n n] 6 Tryz.f74 [(0,.t),QnZ,QmQ,Qms] [(1005,.arr 181 1)] 79 [.f .ret [(2,.nil),(3,tI),(4,tI)] [] [0,0],xE 0 [(17,.b)]] @Ti n
def Cs:EZ9 74:=mkD (Rv n).ok [Q2z n n] 74 Tryz.f74 0 @DQ n
def Lh:BZ9:=Xa [⟨186,Cq n⟩] []
def Q0D:LZ9:=mkU (Lh n).ok nT 8 Tryz.f151 [(4,.t),Qmq,QmQ,Qms] [] 73 [.f .ret [(2,.ci .i64 0),(3,.cb false)] [] [],xE 0 [(44,.b)]] @Hj n
def GI:EZ9 151:=mkD (Lh n).ok [Q0D n n] 151 Tryz.f151 0 @U0 n
def Fl(n:Nat):BZ9:=Xa [] []
def Q29:LZ9:=mkU (Fl n).ok nT 2 Tryz.f152 [(0,.l 1),(1,.t),Qmq] [] 22 [.f .ret [(4,tI)] [] [0],xE 0 [(9,.b)]] @Rq n
def Mo:EZ9 152:=mkD (Fl n).ok [Q29 n n] 152 Tryz.f152 0 @KL n
def Sz:EZ9 107:=mkW (Xa [⟨151,GI n⟩,⟨152,Mo n⟩] []).ok nT 107 Tryz.f107 [eP 1000000 4,eR 1000001 9 1,eR 1000002 9 1,eR 1000003 62 5,eR 1000004 172 6,sL 3] [sI] [] 10 22 @Kw n
def CL:EZ9 153:=mkD (Xa [] []).ok nT 153 Tryz.f153 0 @S5 n
def NQ:EZ9 108:=mkW (Xa [⟨153,CL n⟩,⟨110,LI n⟩,⟨152,Mo n⟩] []).ok nT 108 Tryz.f108 [eP 1000000 4,eR 1000001 9 1,eR 1000002 9 1,eR 1000003 62 5,eR 1000004 172 6,sL 3] [sI] [] 0 14 @P3 n
def Dc:EZ9 75:=mkW (Xa [⟨107,Sz n⟩,⟨108,NQ n⟩] []).ok nT 75 Tryz.f75 [eP 1000000 4,eR 1000001 9 1,eR 1000002 9 1,eR 1000003 62 5,eR 1000004 172 6,sL 3] [sI] [] 0 0 @M0 n
def FG:BZ9:=Xa [⟨74,Cs n⟩,⟨75,Dc n⟩,⟨76,Ps n⟩] [(5,⟨[],[],[],[(8,0,500800,9,1),(8,1,500801,9,1),(8,2,500802,62,5),(8,3,500803,172,6)],[]⟩)]
def Q27:LZ9:=mkU (FG n).ok nT 6 Tryz.f55 [QmX,(5,.l 1),Qnv,QmD] [Qpg,(8,.box [.arr 500800,.arr 500801,.arr 500802,.arr 500803]),(500800,.arr 9 1),(500801,.arr 9 1),(500802,.arr 62 5),(500803,.arr 172 6)] 727 [.f .ret [(2,.ptr 2 0),(3,tI),(4,tI)] [(2,.box QmU)] [0,0],xE 0 [(26,.b)]] @Rp n
def Q4s:EZ9 55:=mkD (FG n).ok [Q27 n n] 55 Tryz.f55 0 @Q1m n
def N9:EZ9 59:=mkD (Xa [] []).ok nT 59 Tryz.f59 0 @Hy n
def M2:BZ9:=Xa [⟨151,GI n⟩] [(2,⟨[],[],[(4,1004,3,1)],[],[]⟩)]
def Q0o:LZ9:=mkU (M2 n).ok nT 3 Tryz.f157 [(0,.l 3),(4,.arr 1004),Qmq] [(1004,.arr 3 1)] 25 [.f .ret [(2,.nil),(3,.cb false)] [] [],xE 0 [(11,.b)]] @TQ n
def Lr:EZ9 157:=mkD (M2 n).ok [Q0o n n] 157 Tryz.f157 0 @C8 n
def Ef:BZ9:=Xa [⟨151,GI n⟩] []
def Q3c:LZ9:=mkU (Ef n).ok nT 2 Tryz.f158 [(0,.t),Qmq] [] 7 [.f .ret [(2,tI),(3,tI),(4,.b)] [] [0,0,0],xE 0 [(14,.b)]] @Na n
def Q4r:EZ9 158:=mkD (Ef n).ok [Q3c n n] 158 Tryz.f158 0 @Q8R n
def JM(n:Nat):BZ9:=Xa [] []
def PQ:LZ9:=mkU (JM n).ok nT 2 Tryz.f156 [Qmb,(1,.t),Qmq] Qpo 177154 [.f .ret [(4,tI)] [(98005,.arr 79 5),(98006,.arr 66 2),(98007,.arr 90 4),(98008,.arr 87 7),(98009,.arr 146 4),(98010,.arr 93 5),(98011,.arr 45 3),(1000000,.box Qov)] [0,3,4,5,6,7,8,9,10,11,12,13,14,15],xE 0 [(13,.b)]] @UH n
def Sg:EZ9 156:=mkW (JM n).ok [PQ n n] 156 Tryz.f156 [eP 1000000 13,sL 1,sL 1,sL 5,sL 6,sI,eR 1000001 79 5,eR 1000002 66 2,eR 1000003 90 4,eR 1000004 87 7,eR 1000005 146 4,eR 1000006 93 5,eR 1000007 45 3,sI,sT] [sI] [] 8187 16382 @KD n
def Vk:BZ9:=Xa [⟨151,GI n⟩,⟨156,Sg n⟩] [(15,⟨[],[],[],[(6,0,1060,128,2)],[]⟩)]
def Rb:LZ9:=mkU (Vk n).ok nT 11 Tryz.f113 [Qmb,(1,.l 3),Qmq,Qn1,QmD] [(6,.box [.nil,tI]),Qox,Qoy,Qoz,QoA,QoB,QoC,QoD,Qpp] 22 [.f .ret [(4,.ci .i64 2)] [(98005,.arr 79 5),(98006,.arr 66 2),(98007,.arr 90 4),(98008,.arr 87 7),(98009,.arr 146 4),(98010,.arr 93 5),(98011,.arr 45 3),(1000000,.box Qov)] [5,6,7,8,9,10,11,12,13,14,15,16,17],xE 0 [(55,.b)]] @YS n
def N0:LZ9:=mkU (Vk n).ok nT 16 Tryz.f113 [Qmb,(1,.l 3),Qmq,Qn1,Qnl] [(6,.box [.arr 1060,tI]),(1060,.arr 128 2),Qox,Qoy,Qoz,QoA,QoB,QoC,QoD,Qpp] 4783153 [.f .ret [(4,.ci .i64 3)] [(98005,.arr 79 5),(98006,.arr 66 2),(98007,.arr 90 4),(98008,.arr 87 7),(98009,.arr 146 4),(98010,.arr 93 5),(98011,.arr 45 3),(1000000,.box Qov)] [6,7,8,9,10,11,12,13,14,15,16,17,18],xE 2 [(76,.b)]] @Yi n
def NG:EZ9 113:=mkW (Vk n).ok [Rb n n,N0 n n] 113 Tryz.f113 [eP 1000000 13,sL 1,sL 1,sL 5,sL 6,sI,eR 1000001 79 5,eR 1000002 66 2,eR 1000003 90 4,eR 1000004 87 7,eR 1000005 146 4,eR 1000006 93 5,eR 1000007 45 3,sI,sL 3] [sI] [] 8123 16254 @Ta n
def Gy(n:Nat):BZ9:=Xa [] []
def RP:LZ9:=mkU (Gy n).ok nT 2 Tryz.f160 [Qmb,(1,.t),Qmq] Qpo 16 [.f .ret [(4,tI)] [(98005,.arr 79 5),(98006,.arr 66 2),(98007,.arr 90 4),(98008,.arr 87 7),(98009,.arr 146 4),(98010,.arr 93 5),(98011,.arr 45 3),(1000000,.box Qov)] [0,3,4,5,6,7,8,9,10,11,12,13,14,15],xE 0 [(13,.b)]] @Vo n
def NE:EZ9 160:=mkW (Gy n).ok [RP n n] 160 Tryz.f160 [eP 1000000 13,sL 1,sL 1,sL 5,sL 6,sI,eR 1000001 79 5,eR 1000002 66 2,eR 1000003 90 4,eR 1000004 87 7,eR 1000005 146 4,eR 1000006 93 5,eR 1000007 45 3,sI,sT] [sI] [] 8159 16382 @Tc n
def Qja:TT:=(90,⟨.struct,4,56,[.string ⟨#[]⟩,.int .i64 0,.int .i64 0,.slice none 0 0],[.str [],.int .i64 0,.int .i64 0,.nl],[(0,9),(1,3),(2,3),(3,88)],none⟩)::gtt
theorem QeO:TOk Tryz.prog Qja:=λt ti h=>by
  unfold Qja at h
  rw[Xe]at h
  split at h
  · rename_i e
    subst e
    injection h with h
    subst h
    have h:=Ca 90 _ (show look gtt 90=some _ from rfl)
    exact⟨h.inf,h.one,h.kint,h.kbool,h.kstr,h.ksl,h.kstruct,h.karr,h.keq,h.zlen,λ_ j x hj=>by
      rcases j with _ | _ | _ | _ | j
      · cases hj;exact⟨_,rfl,λ_ _=>.str ⟨#[]⟩⟩
      · cases hj;exact⟨_,rfl,λ_ _=>.int _ _⟩
      · cases hj;exact⟨_,rfl,λ_ _=>.int _ _⟩
      · cases hj;exact⟨_,rfl,λ_ _=>.nl⟩
      · (cases hj),h.kmpb,h.kmap,h.kmpi⟩
  · exact Ca t ti h
def NA:BZ9:=⟨⟨Ao (Qch [⟨151,GI n⟩,⟨157,Lr n⟩,⟨160,NE n⟩,⟨152,Mo n⟩]),Qja,[]⟩,AW (BD _),QeO,by kernel_rfl⟩
def NO:EZ9 118:=mkW (NA n).ok nT 118 Tryz.f118 [eP 1000000 13,sL 1,sL 1,sL 5,sL 6,sI,eR 1000001 79 5,eR 1000002 66 2,eR 1000003 90 4,eR 1000004 87 7,eR 1000005 146 4,eR 1000006 93 5,eR 1000007 45 3,sI,sL 3] [sI] [] 1870 3742 @TM n
def Gh:EZ9 77:=mkW (Xa [⟨113,NG n⟩,⟨118,NO n⟩] []).ok nT 77 Tryz.f77 [eP 1000000 13,sL 1,sL 1,sL 5,sL 6,sI,eR 1000001 79 5,eR 1000002 66 2,eR 1000003 90 4,eR 1000004 87 7,eR 1000005 146 4,eR 1000006 93 5,eR 1000007 45 3,sI,sL 3] [sI] [] 1802 3614 @KE n
def GL:EZ9 189:=mkD (Xa [] []).ok nT 189 Tryz.f189 0 @XE n
def Bb:EZ9 191:=mkD (Xa [] []).ok nT 191 Tryz.f191 0 @PW n
def Q09:EZ9 192:=mkD (Xa [] []).ok nT 192 Tryz.f192 0 @E9 n
def EI:BZ9:=Xa [⟨191,Bb n⟩,⟨192,Q09 n⟩] []
def Q3p:LZ9:=mkU (EI n).ok nT 4 Tryz.f162 [(0,.t),Qog,(20,tI)] [] 22 [.f .ret [(2,.cb false)] [] [],xE 0 [(21,.b)]] @Re n
def Pn:EZ9 162:=mkD (EI n).ok [Q3p n n] 162 Tryz.f162 0 @KW n
def Tw:EZ9 217:=mkD (Xa [] []).ok nT 217 Tryz.f217 0 @Fh n
def Nf:BZ9:=Xa [⟨217,Tw n⟩] []
def CR:LZ9:=mkU (Nf n).ok nT 2 Tryz.f219 [QnG,Qnr,(11,.l 6),QmG,QmO] [(4,.box Qnq),Qpj] 1102 [.f .ret [(6,.cb true)] [] [],xE 0 [(14,.b)]] @HP n
def M3:EZ9 219:=mkD (Nf n).ok [CR n n] 219 Tryz.f219 0 @GX n
def EF:EZ9 220:=mkD (Xa [] []).ok nT 220 Tryz.f220 0 @Ge n
def T9:EZ9 216:=mkD (Xa [] []).ok nT 216 Tryz.f216 0 @Yr n
def Pm:EZ9 218:=mkD (Xa [] []).ok nT 218 Tryz.f218 0 @HW n
def Kj:EZ9 164:=mkW (Xa [] []).ok nT 164 Tryz.f164 (eA [qT,qI,qI,qI,qI]::pT 1000000 79 [] []) [sB] [] 990 62 @Vi n
def XO:BZ9:=Xa [⟨164,Kj n⟩] []
def Z5:LZ9:=mkU (XO n).ok nT 2 Tryz.f193 [(0,.l 5),(1,.fn 164 [.ptr 1000000 0]),Qms,Qmd] [(1000000,bT 79 [])] 49 [.f .ret [(4,tI)] [(1000000,bT 79 [])] [0,4,5,6,7,8],xE 0 [(9,.b)]] @X3 n
def Z9:EZ9 193:=mkW (XO n).ok [Z5 n n] 193 Tryz.f193 (sL 5::eF 164 1::pT 1000000 79 [] []) [sI] [] 60 62 @XY n
def Z0:EZ9 163:=mkW (Xa [⟨193,Z9 n⟩] []).ok nT 163 Tryz.f163 (sL 5::eF 164 1::pT 1000000 79 [] []) [sB] [] 60 62 @XN n
def HO:EZ9 165:=mkD (Xa [] []).ok nT 165 Tryz.f165 0 @UC n
def P0:BZ9:=Xa [⟨162,Pn n⟩,⟨163,Z0 n⟩,⟨165,HO n⟩] []
def LD:LZ9:=mkU (P0 n).ok nT 2 Tryz.f120 [QmY,(8,.l 5),QmD,Qnl] [QnL] 103 [.f .ret [(4,tI)] [] [0],xE 0 [(11,.b)]] @G5 n
def Pp:EZ9 120:=mkD (P0 n).ok [LD n n] 120 Tryz.f120 0 @Uc n
def Q10:EZ9 221:=mkD (Xa [] []).ok nT 221 Tryz.f221 0 @NR n
def Q04:EZ9 235:=mkD (Xa [] []).ok nT 235 Tryz.f235 0 @RR n
def B4:EZ9 236:=mkD (Xa [] []).ok nT 236 Tryz.f236 0 @Lq n
def P9:BZ9:=Xa [⟨235,Q04 n⟩,⟨236,B4 n⟩] []
def LX:LZ9:=mkU (P9 n).ok nT 3 Tryz.f222 [Qnv,(9,.ptr 9 0),(20,.l 6),(21,tI),(22,tI)] [(8,.box Qnq),(9,.box Qnq)] 1102 [.f .ret [(6,tI),(7,.cb true)] [] [0],xE 0 [(23,.b)]] @Gf n
def Ex:EZ9 222:=mkD (P9 n).ok [LX n n] 222 Tryz.f222 0 @G0 n
def KN:EZ9 168:=mkW (Xa [] []).ok nT 168 Tryz.f168 (eA [qT,qI,qI,qL 4]::pT 1000000 90 [] []) [sB] [] 238 30 @W0 n
def XV:BZ9:=Xa [⟨168,KN n⟩] []
def Zq:LZ9:=mkU (XV n).ok nT 2 Tryz.f195 [(0,.l 4),(1,.fn 168 [.ptr 1000000 0]),Qms,Qmd] [(1000000,bT 90 [])] 49 [.f .ret [(4,tI)] [(1000000,bT 90 [])] [0,4,5,6,7],xE 0 [(9,.b)]] @Qr n
def Zx:EZ9 195:=mkW (XV n).ok [Zq n n] 195 Tryz.f195 (sL 4::eF 168 1::pT 1000000 90 [] []) [sI] [] 28 30 @X9 n
def Z4:EZ9 167:=mkW (Xa [⟨195,Zx n⟩] []).ok nT 167 Tryz.f167 (sL 4::eF 168 1::pT 1000000 90 [] []) [sB] [] 28 30 @QF n
def EA:EZ9 169:=mkD (Xa [] []).ok nT 169 Tryz.f169 0 @TL n
def N7:EZ9 172:=mkD (Xa [] []).ok nT 172 Tryz.f172 0 @KQ n
def DP:EZ9 252:=mkD (Xa [] []).ok nT 252 Tryz.f252 0 @Me n
def Dn:EZ9 253:=mkD (Xa [] []).ok nT 253 Tryz.f253 0 @TZ n
def NZ:EZ9 245:=mkD (Xa [⟨252,DP n⟩,⟨253,Dn n⟩] []).ok nT 245 Tryz.f245 0 @Tz n
def Tb:EZ9 224:=mkD (Xa [] []).ok nT 224 Tryz.f224 0 @Uo n
def NY:EZ9 174:=mkD (Xa [] []).ok nT 174 Tryz.f174 0 @TE n
def F5:EZ9 173:=mkD (Xa [] []).ok nT 173 Tryz.f173 0 @SC n
def Ln:EZ9 175:=mkD (Xa [] []).ok nT 175 Tryz.f175 0 @Gi n
def Le:EZ9 171:=mkD (Xa [⟨175,Ln n⟩] []).ok nT 171 Tryz.f171 0 @Ul n
def T8:BZ9:=Xa [⟨171,Le n⟩,⟨172,N7 n⟩,⟨169,EA n⟩,⟨173,F5 n⟩,⟨174,NY n⟩] []
def L7:LZ9:=mkU (T8 n).ok nT 2 Tryz.f123 [QmX,QmY,(10,.l 7),QmE,QmG] QnK 7173625 [.f .ret [(4,tI)] [] [0],xE 0 [(13,.b)]] @YZ n
def P5:EZ9 123:=mkD (T8 n).ok [L7 n n] 123 Tryz.f123 0 @WD n
def KT:EZ9 177:=mkW (Xa [] []).ok nT 177 Tryz.f177 (eA [qI,qI,qI,qI]::pT 1000000 146 [] []) [sB] [] 204 30 @ZY n
def XX:BZ9:=Xa [⟨177,KT n⟩] []
def Zs:LZ9:=mkU (XX n).ok nT 2 Tryz.f196 [(0,.l 4),(1,.fn 177 [.ptr 1000000 0]),Qms,Qmd] [(1000000,bT 146 [])] 130 [.f .ret [(4,tI)] [(1000000,bT 146 [])] [0,4,5,6,7],xE 0 [(9,.b)]] @Qs n
def Zy:EZ9 196:=mkW (XX n).ok [Zs n n] 196 Tryz.f196 (sL 4::eF 177 1::pT 1000000 146 [] []) [sI] [] 24 30 @Xc n
def Z6:EZ9 176:=mkW (Xa [⟨196,Zy n⟩] []).ok nT 176 Tryz.f176 (sL 4::eF 177 1::pT 1000000 146 [] []) [sB] [] 24 30 @QE n
def Pi:BZ9:=Xa [⟨175,Ln n⟩,⟨172,N7 n⟩,⟨176,Z6 n⟩,⟨173,F5 n⟩,⟨174,NY n⟩] []
def Ed:LZ9:=mkU (Pi n).ok nT 2 Tryz.f124 [QmY,Qob,QmE,QmG] [QnL] 88582 [.f .ret [(4,tI)] [] [0],xE 0 [(13,.b)]] @ZU n
def SE:EZ9 124:=mkD (Pi n).ok [Ed n n] 124 Tryz.f124 0 @V9 n
def Px:BZ9:=Xa [⟨171,Le n⟩] []
def Ee:LZ9:=mkU (Px n).ok nT 2 Tryz.f125 [QmY,(8,.l 5),QmD,Qnl] [QnL] 88582 [.f .ret [(4,.ci .i64 4)] [] [],xE 0 [(11,.b)]] @ZJ n
def SN:EZ9 125:=mkD (Px n).ok [Ee n n] 125 Tryz.f125 0 @V0 n
def T4(n:Nat):BZ9:=Xa [] []
def Lc:LZ9:=mkU (T4 n).ok nT 2 Tryz.f126 [QmX,(8,.l 3),QmD,Qnl] [Qnw] 49 [.f .ret [(4,.ci .i64 4)] [] [],xE 0 [(11,.b)]] @YY n
def TK:EZ9 126:=mkD (T4 n).ok [Lc n n] 126 Tryz.f126 0 @Ww n
def Zd(n:Nat):BZ9:=Xa [] []
def KF:LZ9:=mkU (Zd n).ok nT 5 Tryz.f79 [Qmb,QmK,(9,.l 4),Qnl,QmE,(34,tI),(35,tI)] Qpq 118666 [xE 2 [(36,.b)]] @Xm n
def KV:LZ9:=mkU (Zd n).ok [KF n n] 1 Tryz.f79 [Qmb,(9,.l 4),Qnl,QmE] Qpq 4450 [xE 0 [(12,.b)]] @X5 n
def HB:EZ9 79:=mkW (Zd n).ok [KV n n] 79 Tryz.f79 (pT 1000000 192 [(12,eR 1000001 3 1),(13,eR 1000002 110 1),(14,eR 1000003 3 1),(15,eR 1000004 224 4),(17,eR 1000005 60 3),(18,eR 1000006 57 6)] []) [eT 0] [] 388991 389119 @YM n
def Mn(n:Nat):BZ9:=Xa [] []
def AK:LZ9:=mkU (Mn n).ok nT 2 Tryz.f127 [Qmc,(8,.l 4),QmD,Qnl] [] 67 [.f .ret [(4,tI)] [] [0],xE 0 [(11,.b)]] @V7 n
def Q0x:EZ9 127:=mkD (Mn n).ok [AK n n] 127 Tryz.f127 0 @Hs n
def Td:BZ9:=Xa [⟨165,HO n⟩] []
def L9:LZ9:=mkU (Td n).ok nT 6 Tryz.f246 [QnM,Qmc,(17,.l 2),QnR,Qog] [] 198 [.f .ret [(6,.ci .i64 4)] [] [],xE 1 [(20,.b)]] @YW n
def Fd:EZ9 246:=mkD (Td n).ok [L9 n n] 246 Tryz.f246 0 @Jq n
def SZ(n:Nat):BZ9:=Xa [] []
def DB:LZ9:=mkU (SZ n).ok nT 3 Tryz.f254 [Qms,(20,.l 2),(21,tI),(22,tI)] [] 68 [xE 0 [(23,.b)]] @WF n
def CF:EZ9 254:=mkD (SZ n).ok [DB n n] 254 Tryz.f254 0 @JV n
def AS:EZ9 255:=mkD (Xa [] []).ok nT 255 Tryz.f255 0 @Tq n
def AM:EZ9 256:=mkD (Xa [] []).ok nT 256 Tryz.f256 0 @Te n
def G9:BZ9:=Xa [⟨254,CF n⟩,⟨255,AS n⟩,⟨256,AM n⟩] []
def LW:LZ9:=mkU (G9 n).ok nT 5 Tryz.f247 [QnM,Qmc,Qnr,Qms,(8,.arr 20),QmD,Qnl] [QnH,(20,.arr 3 1)] 147730 [xE 0 [(29,.b)]] @YF n
def Fe:LZ9:=mkU (G9 n).ok nT 12 Tryz.f247 [QnM,Qmc,Qnr,(8,.arr 20),QmO] [QnH,(20,.arr 3 1)] 16411 [xE 2 [(68,.b)]] @Ze n
def Ec:EZ9 247:=mkW (G9 n).ok [LW n n,Fe n n] 247 Tryz.f247 [sL 2,sI,eA [qT,qI,qI,qI,qI]] [eR 20 3 1] [] 0 0 @G4 n
def Eh(n:Nat):BZ9:=Xa [] []
def Q2Q:LZ9:=mkU (Eh n).ok nT 3 Tryz.f248 [QnN,QmI,Qmp] [] 25 [xE 0 [(7,.b)]] @Vs n
def Q4E:EZ9 248:=mkD (Eh n).ok [Q2Q n n] 248 Tryz.f248 0 @SB n
def Pv:BZ9:=Xa [⟨246,Fd n⟩,⟨247,Ec n⟩,⟨248,Q4E n⟩] []
def Er:LZ9:=mkU (Pv n).ok nT 6 Tryz.f238 [(9,.arr 50022),(23,.arr 50022),(24,tI),(25,tI)] [(50022,.arr 3 1)] 25 [xE 0 [(26,.b)]] @ZR n
def DY:EZ9 238:=mkD (Pv n).ok [Er n n] 238 Tryz.f238 0 @GG n
def ME:EZ9 226:=mkD (Xa [] []).ok nT 226 Tryz.f226 0 @K9 n
def SJ:BZ9:=Xa [⟨238,DY n⟩,⟨226,ME n⟩] []
def D1:LZ9:=mkU (SJ n).ok nT 6 Tryz.f225 [(8,.l 1),(10,.arr 26),QmE] [(26,.arr 3 1)] 25 [xE 0 [(30,.b)]] @WI n
def Ba:EZ9 225:=mkD (SJ n).ok [D1 n n] 225 Tryz.f225 0 @JH n
def EN:EZ9 199:=mkD (Xa [⟨226,ME n⟩] []).ok nT 199 Tryz.f199 0 @G6 n
def CS:EZ9 227:=mkD (Xa [] []).ok nT 227 Tryz.f227 0 @PG n
def Q0e:EZ9 200:=mkD (Xa [⟨227,CS n⟩] []).ok nT 200 Tryz.f200 0 @Vq n
def Fc:EZ9 201:=mkW (Xa [] []).ok nT 201 Tryz.f201 [eA [qL 1,qL 1,qL 5,qL 6]] [eR 10 164 3] [] 0 0 @Jl n
def Rz:EZ9 202:=Qff (mkW (Xa [] []).ok nT 202 Tryz.f202 [eR 1000000 164 3,sI,sI,sI] [eT 0] [(1,eK 1000000 164 3)] 0 0 @XI n)
def Q0O:EZ9 240:=mkD (Xa [] []).ok nT 240 Tryz.f240 0 @Mj n
def Kz(n:Nat):BZ9:=Xa [] [(2,⟨[],[],[(3,1003,164,3)],[],[]⟩)]
def NB:LZ9:=mkU (Kz n).ok nT 3 Tryz.f204 [Qno,(6,.l 3),Qms,Qmd] [(1003,.arr 164 3)] 76 [xE 0 [(9,.b)]] @Ya n
def Mc:EZ9 204:=mkW (Kz n).ok [NB n n] 204 Tryz.f204 [sL 3] [eR 1003 164 3] [] 0 0 @Vu n
def JR:EZ9 130:=mkW (Xa [] []).ok nT 130 Tryz.f130 (pT 1000000 192 QoM [sI,sI]) [sI] [] 520191 1048574 @Y1 n
def Tt:EZ9 129:=mkW (Xa [] []).ok nT 129 Tryz.f129 (pT 1000000 192 QoM [sI,sI,sI,sI,sI]) [eT 0] [] 475135 491519 @Ym n
def PH:EZ9 131:=mkW (Xa [⟨130,JR n⟩] []).ok nT 131 Tryz.f131 (pT 1000000 192 QoM [sI]) [sI] [] 520063 1048574 @Wk n
def Yq:BZ9:=Xa [⟨130,JR n⟩,⟨129,Tt n⟩,⟨131,PH n⟩] []
def Hq:LZ9:=mkU (Yq n).ok nT 4 Tryz.f81 [Qmb,QmK,(13,.l 4),QmR,QmL,(26,.l 4),(27,tI),(28,tI)] Qpr 282429553573 [xE 2 [(29,.b)]] @Xy n
def Hz:LZ9:=mkU (Yq n).ok [Hq n n] 1 Tryz.f81 [Qmb,(13,.l 4),QmR,QmL] Qpr 3486784612 [xE 0 [(16,.b)]] @QQ n
def HH:LZ9:=mkU (Yq n).ok nT 10 Tryz.f81 [Qmb,(56,.l 4),(57,tI),(58,tI)] Qpr 3491567581 [xE 4 [(59,.b)]] @Xw n
def HU:EZ9 81:=mkW (Yq n).ok [Hz n n,HH n n] 81 Tryz.f81 (pT 1000000 192 QoM []) [eT 0] [] 470399 491519 @YP n
def Nv(n:Nat):BZ9:=Xa [] []
def CK:LZ9:=mkU (Nv n).ok nT 3 Tryz.f180 [QmI,(6,.l 3),Qms,Qmd] [] 68 [.f .ret [(2,.cb false)] [] [],xE 0 [(9,.b)]] @Ud n
def NM:EZ9 180:=mkD (Nv n).ok [CK n n] 180 Tryz.f180 0 @Jv n
def Np:BZ9:=Xa [⟨180,NM n⟩] []
def CT:LZ9:=mkU (Np n).ok nT 4 Tryz.f132 [QnN,(18,.l 3),Qog,(20,tI)] [] 67 [.f .ret [(4,.cb false)] [] [],xE 0 [(21,.b)]] @Ui n
def AI:EZ9 132:=mkD (Np n).ok [CT n n] 132 Tryz.f132 0 @Tg n
def J0:EZ9 134:=mkW (Xa [] []).ok nT 134 Tryz.f134 (eA [qI,qI,qI]::eA [qI,qI,qI]::pT 1000000 224 [] (eP 1000001 1::sB::eP 1000002 1::pT 1000003 192 [(12,eR 1000004 3 1),(17,eR 1000005 60 3),(18,eR 1000006 57 6)] [])) [eT 0] [] 1073707209 16777199 @Yk n
def U3:BZ9:=Xa [⟨134,J0 n⟩] []
def Pe:LZ9:=mkU (U3 n).ok nT 5 Tryz.f133 [Qmb,QoS,QnG,Qns,(17,.l 3),QnR,Qog,(30,.l 3),(31,tI),(32,tI)] [QoT,(7,.box Qo2),QoH,QoJ,QoK,Qpt,(1000004,bT 224 []),(1000005,.box [.b]),(1000006,.box QoR)] 366898000880223711 [xE 2 [(33,.b)]] @X0 n
def Pa:LZ9:=mkU (U3 n).ok [Pe n n] 2 Tryz.f133 [Qmb,QoS,QnG,(17,.l 3),QnR,Qog] [QoT,QoH,QoJ,QoK,Qpt,(1000004,bT 224 []),(1000005,.box [.b]),(1000006,.box QoR)] 503320819852066 [xE 0 [(20,.b)]] @XA n
def PZ:EZ9 133:=mkW (U3 n).ok [Pa n n] 133 Tryz.f133 (pT 1000000 192 QoV (eA [qI,qI,qI,qI]::eF 134 3::pT 1000004 224 [] [eP 1000005 1,sB,eP 1000006 1,eS 1000000])) [eT 0] [] 29876207 8388607 @Wd n
def WX:BZ9:=Xa [⟨132,AI n⟩,⟨133,PZ n⟩] [(5,⟨[],[],[],[],[98015]⟩),(7,⟨[],[],[],[],[98015]⟩)]
def P2:LZ9:=mkU (WX n).ok nT 2 Tryz.f82 [Qnn,(11,.l 1),QmG,QmO] [(1,.box QoR),QoH,QoI,QoJ,QoK,Qps] 177169 [.f .ret [(2,.cb false)] [(98012,.arr 3 1),(98017,.arr 60 3),(98018,.arr 57 6),(1000000,bT 192 QoQ)] [4,6,7,8,9,10,11,12,13,14,15,16,17,18,19,20,21,5,22],xE 0 [(14,.b)]] @XS n
def P6:LZ9:=mkU (WX n).ok nT 8 Tryz.f82 [Qnn,(29,.l 4),(30,tI),(31,tI)] [(1,.box QoR),QoH,QoJ,QoK,Qpt] 387479560 [.f .ret [(2,.cb false)] [(98012,.arr 3 1),(98017,.arr 60 3),(98018,.arr 57 6),(1000000,bT 192 QoQ)] [4,5,6,7,8,9,10,11,12,13,14,15,16,17,18,19,20,21,22],xE 2 [(32,.b)]] @Xr n
def Pb:EZ9 82:=mkW (WX n).ok [P2 n n,P6 n n] 82 Tryz.f82 (pT 1000000 192 QoM []) [sB] [(17,sL 4)] 483311 1048574 @ZS n
def JP:EZ9 130:=mkW (Xa [] []).ok nT 130 Tryz.f130 (pT 1000000 192 QoV [sI,sI]) [sI] [] 520191 1048574 @Xh n
def Nl:EZ9 136:=mkD (Xa [] []).ok nT 136 Tryz.f136 0 @YA n
def CH:EZ9 137:=mkD (Xa [] []).ok nT 137 Tryz.f137 0 @UF n
def Gq:EZ9 135:=mkW (Xa [] []).ok nT 135 Tryz.f135 (pT 1000000 192 QoV [sI,sI,sI,sI,sI,sI]) [eT 0] [] 262143 262143 @Xt n
def PN:EZ9 131:=mkW (Xa [⟨130,JP n⟩] []).ok nT 131 Tryz.f131 (pT 1000000 192 QoV [sI]) [sI] [] 520063 1048574 @Vj n
def Xf:BZ9:=Xa [⟨130,JP n⟩,⟨136,Nl n⟩,⟨137,CH n⟩,⟨135,Gq n⟩,⟨131,PN n⟩] []
def Ki:LZ9:=mkU (Xf n).ok nT 4 Tryz.f83 [Qmb,QmK,QmY,(20,.l 4),(21,tI),(22,tI),(28,.l 4),(29,tI),(30,tI)] [(3,.box QnA),QoH,QoJ,QoK,Qpt] 7625600931295 [xE 2 [(31,.b)]] @QK n
def Km:LZ9:=mkU (Xf n).ok [Ki n n] 1 Tryz.f83 [Qmb,(20,.l 4),(21,tI),(22,tI)] Qpu 1162262002 [xE 0 [(23,.b)]] @QV n
def Kl:LZ9:=mkU (Xf n).ok nT 14 Tryz.f83 [Qmb,(84,.l 7),(85,tI),(86,tI)] Qpu 535 [xE 4 [(87,.b)]] @QX n
def Kr:LZ9:=mkU (Xf n).ok nT 20 Tryz.f83 [Qmb,(119,.l 4),(120,tI),(121,tI)] Qpu 1594858 [xE 6 [(122,.b)]] @QW n
def Kt:LZ9:=mkU (Xf n).ok nT 25 Tryz.f83 [Qmb,(146,.l 5),(147,tI),(148,tI)] Qpu 535 [xE 8 [(149,.b)]] @QY n
def KU:EZ9 83:=mkW (Xf n).ok [Km n n,Kl n n,Kr n n,Kt n n] 83 Tryz.f83 (pT 1000000 192 QoV []) [eT 0] [] 239743 262143 @YD n
def Uq:EZ9 181:=mkW (Xa [] []).ok nT 181 Tryz.f181 [eA [qI,qI,qI],eA [qI,qI,qI],eP 1000000 1,eM 1000001 228] [eT 0] [(2,eH 1000001)] 62 0 @XL n
def U4:BZ9:=Xa [⟨181,Uq n⟩] []
def Pc:LZ9:=mkU (U4 n).ok nT 5 Tryz.f133 [Qmb,(2,.fn 181 [.ptr 1000004 0]),QnG,Qns,(17,.l 3),QnR,Qog,(30,.l 3),(31,tI),(32,tI)] [QoT,(7,.box Qo2),QoH,QoJ,QoK,Qpt,(1000004,.box [.arr 1000005]),(1000005,.mp 228)] 3706040378478474 [xE 2 [(33,.b)]] @Xd n
def Pf:LZ9:=mkU (U4 n).ok [Pc n n] 2 Tryz.f133 [Qmb,(2,.fn 181 [.ptr 1000004 0]),QnG,(17,.l 3),QnR,Qog] [QoT,QoH,QoJ,QoK,Qpt,(1000004,.box [.arr 1000005]),(1000005,.mp 228)] 5115112716613 [xE 0 [(20,.b)]] @XB n
def PK:EZ9 133:=mkW (U4 n).ok [Pf n n] 133 Tryz.f133 (pT 1000000 192 QoV [eA [qI,qI,qI,qI],eF 181 1,eP 1000004 1,eM 1000005 228]) [eT 0] [(22,eH 1000005)] 4710399 524287 @Wf n
def WO:BZ9:=Xa [⟨133,PK n⟩] []
def Gg:LZ9:=mkU (WO n).ok nT 3 Tryz.f138 [Qmb,Qmc,QmK,Qns,(14,.l 4),QmL,Qme] [(7,.box [.arr 10]),(10,.mp 228),QoH,QoJ,QoK,Qpt] 10460353891 [xE 0 [(17,.b)]] @QN n
def Gx:EZ9 138:=mkW (WO n).ok [Gg n n] 138 Tryz.f138 (pT 1000000 192 QoV [sI,sI]) [eM 10 228] [] 483327 1048574 @Yd n
def HD(n:Nat):BZ9:=Xa [] [(2,⟨[],[],[(5,1005,164,3)],[],[]⟩)]
def M6:LZ9:=mkU (HD n).ok nT 3 Tryz.f140 [(1,.arr 1000000),QnZ,(8,.l 3),QmD,Qnl] [(1005,.arr 164 3),(1000000,.mp 228)] 157 [xE 0 [(11,.b)]] @Yg n
def La:EZ9 140:=Qff (mkW (HD n).ok [M6 n n] 140 Tryz.f140 [sL 3,eM 1000000 228] [eR 1005 164 3] [] 0 0 @Us n)
def H9:EZ9 229:=mkD (Xa [] []).ok nT 229 Tryz.f229 0 @UY n
def NC:EZ9 230:=mkW (Xa [] [(2,⟨[],[],[(8,96001,266,2)],[],[]⟩)]).ok nT 230 Tryz.f230 [eN,sI,sI,sI] [eR 96001 266 2] [] 0 0 @JC n
def Q0X:EZ9 207:=mkW (Xa [⟨229,H9 n⟩,⟨59,N9 n⟩,⟨230,NC n⟩] [(2,⟨[],[],[(6,50016,266,2)],[],[]⟩)]).ok nT 207 Tryz.f207 [sI,sI,sI] [eT 2,eR 50016 266 2,sI] [] 0 0 @Ph n
def Ng:BZ9:=Xa [⟨229,H9 n⟩] []
def CC:LZ9:=mkU (Ng n).ok nT 5 Tryz.f209 [QnN,Qmq,(11,.l 2),QmG,QmO] [] 205 [.f .ret [(4,.cb false)] [] [],xE 0 [(14,.b)]] @Ug n
def My:EZ9 209:=mkD (Ng n).ok [CC n n] 209 Tryz.f209 0 @GK n
def Nd:BZ9:=Xa [⟨229,H9 n⟩,⟨209,My n⟩] []
def B2:LZ9:=mkU (Nd n).ok nT 4 Tryz.f231 [QnN,(10,.l 1),QmE,QmG] [] 67 [.f .ret [(4,.ci .i64 1)] [] [],xE 0 [(13,.b)]] @U8 n
def Q00:EZ9 231:=mkD (Nd n).ok [B2 n n] 231 Tryz.f231 0 @Tk n
def WE:EZ9 244:=mkW (Xa [] [(6,⟨[],[],[(4,96001,266,2)],[],[]⟩)]).ok nT 244 Tryz.f244 [eN,sI] [eR 96001 266 2] [] 0 0 @QU n
def Xl:BZ9:=Xa [⟨244,WE n⟩] []
def Wz:LZ9:=mkU (Xl n).ok nT 3 Tryz.f233 [(0,.l 1),QmI,(9,.l 1),Qnl,QmE] [] 204 [xE 0 [(12,.b)]] @Qv n
def WA:LZ9:=mkU (Xl n).ok nT 11 Tryz.f233 [(6,.arr 50024),(25,.l 1),(26,tI),(27,tI)] [(50024,.arr 266 2)] 76 [xE 2 [(28,.b)]] @Qw n
def WY:EZ9 233:=mkW (Xl n).ok [Wz n n,WA n n] 233 Tryz.f233 [sL 1] [eR 50024 266 2] [] 0 0 @X1 n
def D5:EZ9 265:=mkD (Xa [] []).ok nT 265 Tryz.f265 0 @MC n
def DV:EZ9 266:=mkD (Xa [] []).ok nT 266 Tryz.f266 0 @M1 n
def BQ:EZ9 250:=mkD (Xa [⟨265,D5 n⟩,⟨266,DV n⟩] []).ok nT 250 Tryz.f250 0 @R7 n
def BU:EZ9 251:=mkD (Xa [] []).ok nT 251 Tryz.f251 0 @GV n
def Dr:EZ9 243:=mkD (Xa [⟨251,BU n⟩] []).ok nT 243 Tryz.f243 0 @Kf n
def Pd:EZ9 242:=mkD (Xa [⟨243,Dr n⟩] []).ok nT 242 Tryz.f242 0 @UZ n
def Xp:BZ9:=Xa [⟨242,Pd n⟩] []
def WS:LZ9:=mkU (Xp n).ok nT 4 Tryz.f257 [Qol,Qmc,QmK,(3,.fn 242 []),Qmd,QmD] QoX 217 [xE 2 [(34,.b)]] @Qx n
def WM:LZ9:=mkU (Xp n).ok [WS n n] 1 Tryz.f257 [Qol,Qmc,QmK,(3,.fn 242 []),Qmd] QoX 76 [xE 0 [(14,.b)]] @Qn n
def U2:EZ9 257:=Qff (mkW (Xp n).ok [WM n n] 257 Tryz.f257 [eR 1000000 266 2,sI,sI,eF 242 0] [eT 0] [(1,eK 1000000 266 2)] 0 0 @XF n)
def YI:BZ9:=Xa [⟨257,U2 n⟩] []
def V1:LZ9:=mkU (YI n).ok nT 2 Tryz.f249 [Qol,Qmc,QmK,QmI,(4,.fn 242 []),(10,.cb true),(11,.cb true)] QoX 40 [.f .ret [] [(1000000,.arr 266 2)] [0]] @XU n
def Vd:EZ9 249:=Qff (mkW (YI n).ok [V1 n n] 249 Tryz.f249 [eR 1000000 266 2,sI,sI,sI,eF 242 0] [eT 0] [(1,eK 1000000 266 2)] 0 0 @Y3 n)
def ZG:EZ9 241:=Qff (mkW (Xa [⟨250,BQ n⟩,⟨249,Vd n⟩] []).ok nT 241 Tryz.f241 [eR 1000000 266 2,eF 242 0] [eT 0] [(1,eK 1000000 266 2)] 0 0 @QO n)
def TV:BZ9:=Xa [⟨241,ZG n⟩] [(3,⟨[],[],[(3,1003,266,2)],[],[]⟩)]
def LN:LZ9:=mkU (TV n).ok nT 4 Tryz.f232 [Qno,(9,.arr 1000000),Qnl,QmE] [(1003,.arr 266 2),QoY] 52 [xE 0 [(12,.b)]] @Xq n
def EB:EZ9 232:=Qff (mkW (TV n).ok [LN n n] 232 Tryz.f232 [eR 1000000 266 2] [eR 1003 266 2] [(1,eK 1000000 266 2)] 0 0 @HZ n)
def Aj:EZ9 208:=mkW (Xa [⟨231,Q00 n⟩,⟨233,WY n⟩,⟨232,EB n⟩] [(3,⟨[],[],[(6,50021,266,2)],[],[]⟩)]).ok nT 208 Tryz.f208 [sI,sL 2,sL 2] [eT 2,eR 50021 266 2,sI] [] 0 0 @Ts n
def GA:EZ9 206:=mkW (Xa [⟨207,Q0X n⟩,⟨208,Aj n⟩] []).ok nT 206 Tryz.f206 [eA [qI,qI,qI],eA [qI,qI,qI],eP 1000000 1,sI,eP 1000001 1,eR 1000002 266 2] [eT 0] [] 9 1 @Zg n
def T7:BZ9:=Xa [⟨206,GA n⟩] []
def L8:LZ9:=mkU (T7 n).ok nT 0 Tryz.f205 [(0,.l 3),(1,.l 3),(2,.fn 206 [.ptr 1000000 0,.ptr 1000001 0])] [(98040,.arr 266 2),(1000000,.box [tI]),(1000001,.box [.arr 98040])] 53 [xE 0 [(15,.b)]] @QG n
def LK:EZ9 205:=mkW (T7 n).ok [L8 n n] 205 Tryz.f205 [sL 3,sL 3,eF 206 2,eP 1000000 1,sI,eP 1000001 1,eR 1000002 266 2] [eT 0] [] 0 1 @H7 n
def LY:EZ9 182:=mkW (Xa [⟨180,NM n⟩,⟨205,LK n⟩] [(3,⟨[],[],[(6,50024,266,2)],[],[]⟩),(6,⟨[],[],[(6,50024,266,2)],[],[]⟩),(7,⟨[],[],[],[(8,0,2320,266,2)],[]⟩)]).ok nT 182 Tryz.f182 [sI,sL 3,sL 3] [eT 2,eR 50024 266 2,sI] [] 0 0 @Jt n
def Bd:EZ9 234:=mkD (Xa [] []).ok nT 234 Tryz.f234 0 @PX n
def No:BZ9:=Xa [⟨234,Bd n⟩] []
def CG:LZ9:=mkU (No n).ok nT 3 Tryz.f210 [QmI,(6,.l 2),Qms,Qmd] [] 68 [xE 0 [(9,.b)]] @ZZ n
def Q05:EZ9 210:=mkD (No n).ok [CG n n] 210 Tryz.f210 0 @Rs n
def Ab:EZ9 183:=mkD (Xa [⟨209,My n⟩,⟨210,Q05 n⟩] []).ok nT 183 Tryz.f183 0 @Ty n
def K8:BZ9:=Xa [⟨182,LY n⟩,⟨183,Ab n⟩] [(8,⟨[],[],[],[],[50018]⟩),(11,⟨[],[],[(11,1011,123,2)],[],[]⟩)]
def Eg:LZ9:=mkU (K8 n).ok nT 12 Tryz.f139 [QnN,(11,.arr 1011),(65,.l 2),(66,tI),(67,tI)] [(1011,.arr 123 2)] 229 [xE 0 [(68,.b)]] @ZI n
def FE:LZ9:=mkU (K8 n).ok nT 12 Tryz.f139 [QnN,(11,.arr 1011),(65,.arr 50018),(66,tI),(67,tI)] [(1011,.arr 123 2),(50018,.arr 266 2)] 157 [xE 0 [(68,.b)]] @YR n
def Dt:EZ9 139:=mkD (K8 n).ok [orL (FE n n) (Eg n n)] 139 Tryz.f139 0 @WQ n
def Yb:BZ9:=Xa [⟨138,Gx n⟩,⟨140,La n⟩,⟨139,Dt n⟩,⟨136,Nl n⟩,⟨135,Gq n⟩] []
def Kg:LZ9:=mkU (Yb n).ok nT 12 Tryz.f84 [Qmb,QmI,Qmp,QmR,QmL,(63,.l 2),(64,tI),(65,tI)] Qpu 41152 [xE 4 [(66,.b)]] @QR n
def GY:LZ9:=mkU (Yb n).ok [Kg n n] 5 Tryz.f84 [Qmb,QmI,Qmp,QmR,QmL] Qpu 11622793282 [.f .ret [(2,tI)] [(98012,.arr 3 1),(98017,.arr 60 3),(98018,.arr 57 6),(1000000,bT 192 QoQ)] [0,5,6,0,8,9,10,11,12,13,14,15,16,17,18,19,20,21,22,23],xE 2 [(26,.b)]] @X7 n
def GT:LZ9:=mkU (Yb n).ok [GY n n] 2 Tryz.f84 [Qmb,QmR,QmL] Qpu 1291421482 [.f .ret [(2,tI)] [(98012,.arr 3 1),(98017,.arr 60 3),(98018,.arr 57 6),(1000000,bT 192 QoQ)] [0,3,4,0,6,7,8,9,10,11,12,13,14,15,16,17,18,19,20,21],xE 0 [(16,.b)]] @QH n
def Ks:EZ9 84:=mkW (Yb n).ok [GT n n] 84 Tryz.f84 (pT 1000000 192 QoV []) [sI] [] 221167 524286 @Ys n
def Dj:EZ9 184:=mkD (Xa [] []).ok nT 184 Tryz.f184 0 @GE n
def Nt:BZ9:=Xa [⟨184,Dj n⟩] []
def B9:LZ9:=mkU (Nt n).ok nT 4 Tryz.f142 [Qnn,(26,.l 6),(27,tI),(28,tI)] [(1,.box Qoj)] 373 [.f .ret [(2,.cb false)] [] [],xE 0 [(29,.b)]] @Uf n
def A3:EZ9 142:=mkD (Nt n).ok [B9 n n] 142 Tryz.f142 0 @TC n
def Mz:BZ9:=Xa [⟨142,A3 n⟩] []
def An:LZ9:=mkU (Mz n).ok nT 4 Tryz.f86 [QmX,(18,.l 1),Qog,(20,tI)] [(2,.box Qoj)] 49 [.f .ret [(4,.cb false)] [] [],xE 0 [(21,.b)]] @Vc n
def Lk:EZ9 86:=mkD (Mz n).ok [An n n] 86 Tryz.f86 0 @Gl n
def Ei:EZ9 141:=mkD (Xa [⟨59,N9 n⟩] []).ok nT 141 Tryz.f141 0 @JX n
def Ni:BZ9:=Xa [⟨86,Lk n⟩,⟨141,Ei n⟩] []
def CO:LZ9:=mkU (Ni n).ok nT 4 Tryz.f85 [QnY,QmX,(13,.l 6),QmR,QmL] [(2,.box Qoj)] 1120 [.f .ret [(4,tI),(5,.cb true)] [] [0],xE 0 [(16,.b)]] @Uh n
def Q06:EZ9 85:=mkD (Ni n).ok [CO n n] 85 Tryz.f85 0 @GB n
def EC:EZ9 58:=mkD (Xa [⟨85,Q06 n⟩,⟨86,Lk n⟩] []).ok nT 58 Tryz.f58 0 @XQ n
def Je:EZ9 30:=mkW (Xa [] []).ok nT 30 Tryz.f30 (pT 1000000 104 QoZ [sI,sI]) [sI] [] 127 510 @Xk n
def Jy:EZ9 47:=mkW (Xa [] []).ok nT 47 Tryz.f47 (pT 1000000 104 QoZ [sI,sI]) [sB] [] 189 510 @YK n
def XK:BZ9:=Xa [⟨47,Jy n⟩] []
def Kp:LZ9:=mkU (XK n).ok nT 3 Tryz.f31 [Qmb,Qmc,(5,.arr 19),(21,tI),(22,tI)] Qpv 21946 [xE 0 [(23,.b)]] @QL n
def Kq:LZ9:=mkU (XK n).ok nT 15 Tryz.f31 [Qmb,(5,.arr 19),(7,.b),Qmd,(36,tI),(37,tI),(46,.l 1),(47,tI),(48,tI)] Qpv 4808813 [xE 6 [(49,.b)]] @QC n
def Ko:LZ9:=mkU (XK n).ok [Kq n n] 12 Tryz.f31 [Qmb,(5,.arr 19),(7,.b),(36,tI),(37,tI)] Qpv 59450 [xE 4 [(38,.b)]] @Xg n
def Kk:LZ9:=mkU (XK n).ok [Ko n n] 9 Tryz.f31 [Qmb,(5,.arr 19),(7,.b)] Qpv 6605 [.e 2 [(34,.b)] [7] [] []] @QD n
def V4:EZ9 31:=mkW (XK n).ok [Kp n n,Kk n n] 31 Tryz.f31 (pT 1000000 104 QoZ [sI]) [eR 19 3 1] [] 161 510 @XC n
def VH(n:Nat):BZ9:=Xa [] [(2,⟨[],[],[(5,1005,3,1)],[],[]⟩)]
def T0:LZ9:=mkU (VH n).ok nT 3 Tryz.f32 [Qmb,Qmc,QnZ,(12,.l 6),QmO,QmR] [(1005,.arr 3 1),Qp2,Qp3,Qp4,Qp5,Qpw] 2416 [xE 0 [(15,.b)]] @Xb n
def VW:EZ9 32:=mkW (VH n).ok [T0 n n] 32 Tryz.f32 (pT 1000000 104 QoZ [sI]) [eR 1005 3 1] [] 219 510 @Yl n
def VX(n:Nat):BZ9:=Xa [] []
def Tx:LZ9:=mkU (VX n).ok nT 3 Tryz.f33 [Qmb,QnY,Qms,(12,.l 1),QmO,QmR] [Qp2,Qp3,Qp4,Qp5,Qpw] 178081 [xE 0 [(15,.b)]] @X4 n
def J2:EZ9 33:=mkW (VX n).ok [Tx n n] 33 Tryz.f33 (pT 1000000 104 QoZ [sL 1,sL 1]) [sI] [] 235 510 @Y8 n
def J6:EZ9 34:=mkW (Xa [] []).ok nT 34 Tryz.f34 (pT 1000000 104 QoZ [sL 1,sI,sI]) [sB] [] 235 510 @Yx n
noncomputable abbrev YB:Y Sp:=(sL 1::sI::eP 1000000 1::pT 1000001 104 [(3,eR 1000002 22 1),(4,eR 1000003 3 1),(5,eR 1000004 3 1),(6,eR 1000005 3 1)] [eP 1000006 1,sL 1,eP 1000007 1,eM 1000008 1048707,eP 1000009 1,sI,eP 1000010 1,eF 46 5,eS 1000000,eS 1000006,eS 1000007,eS 1000009,eS 1000010])
abbrev YC:Y Sp:=[sI,eI 1000000 1,eS 1000001,eI 1000001 8,sI,sL 3,sL 6,eR 98043 22 1,eR 98044 3 1,eR 98045 3 1,eR 98046 3 1,sI,eI 1000006 1,sL 1,eI 1000007 1,eH 1000008,eI 1000009 1,sI,eI 1000010 1,eF 46 5,eS 1000000,eS 1000006,eS 1000007,eS 1000009,eS 1000010,eQ 1000008 1048707,eG 1000002,eG 1000003,eG 1000004,eG 1000005]
noncomputable abbrev ZX(n d:Nat):LF (lts YB) (oP (HT (lts YC))):=X8 n d
def Vh(n d:Nat)(ih:UB Tryz.prog 46 (Qdn YB YC (ZX n d))):BZ9:=Xa [⟨34,J6 n⟩,⟨47,Jy n⟩,⟨46,⟨_,ih⟩⟩] []
def Hr(n d:Nat)(ih:UB Tryz.prog 46 (Qdn YB YC (ZX n d))):LZ9:=mkU (Vh n d ih).ok nT 3 Tryz.f46 [Qmc,(2,.ptr 1000000 0),(3,.ptr 1000006 0),(4,.ptr 1000007 0),(5,.ptr 1000009 0),(6,.ptr 1000010 0),Qnl,(16,.l 1),(17,tI),QnR] [(98043,.arr 22 1),(98044,.arr 3 1),(98045,.arr 3 1),(98046,.arr 3 1),(1000000,.box [.ptr 1000001 0]),(1000001,.box [tI,.l 3,.l 6,.arr 98043,.arr 98044,.arr 98045,.arr 98046,tI]),(1000006,.box [.l 1]),(1000007,.box [.arr 1000008]),(1000008,.mp 1048707),(1000009,.box [tI]),(1000010,.box [.fn 46 [.ptr 1000000 0,.ptr 1000006 0,.ptr 1000007 0,.ptr 1000009 0,.ptr 1000010 0]])] 43046683 [xE 0 [(19,.b)]] (λR n=>@QI R n (X8 n d)) n
theorem Zz(n:Nat):∀d,UB Tryz.prog 46 (Qdn YB YC (ZX n d))
|0=>Q6G Tryz.f46 _ _ _ (λv r h=>nomatch (show none=some r from h)) (by intro v;kernel_rfl) (by kernel_rfl) (by kernel_rfl) (by kernel_rfl) (by kernel_rfl)
|d+1=>Qbh (Vh n d (Zz n d)).ok [Hr n d (Zz n d) n] Tryz.f46 _ _ _ (by intro v;kernel_rfl) (by intro v;kernel_rfl) (by kernel_rfl) (by kernel_rfl) (by kernel_rfl) (by kernel_rfl) (by kernel_rfl) (by kernel_rfl)
def T3:EZ9 46:=⟨_,Zz n n⟩
def CU:EZ9 14:=mkD (Xa [⟨43,Cd n⟩,⟨44,D7 n⟩,⟨45,R5 n⟩] []).ok nT 14 Tryz.f14 0 @JF n
end Go.Vx
namespace Go.Vx
section
variable{R:Type}
theorem Q55(x:Int):0<=IntKind.wrap .u64 x:=by
 have:=Int.emod_nonneg x (show(18446744073709551616:Int)≠0 by decide);simpa[IntKind.wrap,IntKind.bits,IntKind.signed]using this
theorem QcH{x:Int}(a:0<=x)(b:x<18446744073709551616):IntKind.wrap .u64 x=x:=by
 have:=Int.emod_eq_of_lt a b;simpa[IntKind.wrap,IntKind.bits,IntKind.signed]using this
def pick(v m:Int):Int:=(IntKind.wrap .u64 v).tmod m
theorem L0(v:Int){m:Int}(h:0<m):0<=pick v m/\pick v m<m:=by
 unfold pick;rw[Int.tmod_eq_emod_of_nonneg (Q55 v)];exact⟨Int.emod_nonneg _ I,Int.emod_lt_of_pos _ h⟩
theorem QgX(n:Nat)(v:Int){m:Int}(h:0<m)(hm:m<=9223372036854775807)(K:Int->oP R):SQ n v m K=K (pick v m):=by
 unfold SQ;rw[QcH (x:=m) I I,DO I];simp -implicitDefEqProofs only[Qh];have:=L0 v h;unfold pick at this ⊢;rw[Q60 I I]
theorem Qcw(n:Nat){l:Y Int}(hl:l.length<=9223372036854775807){i:Nat}(hi:i<=l.length){m:Int}(h:0<m)(hm:m<=9223372036854775807) :
  ∃(v:Int) (j:Nat),0<=v/\v<m/\j<=l.length/\∀(R:Type) (K:Int->Int->oP R),Qm n (encI l) i m K=K v j:=by
 by_cases aa:i<l.length
 ·have hg:=List.getElem?_eq_getElem aa;refine⟨pick l[i] m,i+1,(L0 _ h).1,(L0 _ h).2,I,λR K=>?_⟩;unfold Qm;rw[Qq (by simp[QS];omega),Q60 (x:=(i:Int)+1) I I,Q60 I I];rw[show(i:Int)+1-1=(i:Int) by omega,Hg hg];simp -implicitDefEqProofs only[Qh,List.getElem?_cons_zero,Qj,QgX n _ h hm];rfl
 ·refine⟨0,i,I,h,hi,λR K=>?_⟩;unfold Qm;rw[Xi (by simp[QS];omega)]
end
def OkP{R:Type}(P:R->Prop)(E:oP R):Prop:=∃v,E=some v/\P v
instance {R:Type}:Membership (oP R) (R->Prop):=⟨λP E=>OkP P E⟩
theorem okI{R:Type}{P:R->Prop}{v:R}(h:P v):some v∈P:=⟨v,rfl,h⟩
theorem okB{R S:Type}{P:S->Prop}{E:oP R}{z:R}{f:R->oP S}(h:E∈(λv=>f v∈P:R->Prop)):gb true E z f∈P:=by
 obtain⟨v,e,h⟩:=h;rw[e];exact h
theorem VI{R:Type}{n:Nat}{l:Y Int}(hl:l.length<=9223372036854775807){i:Nat}(hi:i<=l.length){m:Int}(h:0<m)(hm:m<=9223372036854775807){z:Int×Int}{f:Int×Int->oP R}{P:R->Prop}(H:∀(v:Int) (j:Nat),0<=v->v<m->j<=l.length->f (v,(j:Int))∈P) :
  gb true (Qm n (encI l) (i:Int) m Tu2) z f∈P:=by
 obtain⟨v,j,c,d,hj,e⟩:=Qcw n hl hi h hm;rw[e];exact H v j c d hj
structure Num(a b c:Int):Prop where
 a0:2<=a
 a1:a<=10
 b0:5000<=b
 b1:b<=35000
 c0 : -10<=c
 c1:c<=10
theorem Qo{x:Int}(a : -9223372036854775808<=x)(b:x<=9223372036854775807):wJ x=x:=by
 simp only[IntKind.wrap_i64];omega
theorem Qg9{R:Type}{n:Nat}{l:Y Int}(hl:l.length<=9223372036854775807){i:Nat}(hi:i<=l.length){nm:Y UInt8}{st:Int}{z:Y UInt8×Int×Int×Int×Int×Int}{f:Y UInt8×Int×Int×Int×Int×Int->oP R}{P:R->Prop}(H:∀(a b c:Int) (j:Nat),Num a b c->j<=l.length->f (nm,a,b,c,st,(j:Int))∈P) :
  gb true (WL n (encI l) (i:Int) nm st Tu6) z f∈P:=by
 obtain⟨v,j,u,y,hj,e⟩:=Qcw n hl hi (show(0:Int)<9 by decide) Q1;obtain⟨d,j2,g0,g1,q,e2⟩:=Qcw n hl hj (show(0:Int)<7 by decide) Q1;obtain⟨r,j3,k0,k1,s,t⟩:=Qcw n hl q (show(0:Int)<21 by decide) Q1;unfold WL;rw[e,Qh,e2,Qh,t,Qh,Qh];rw[Qo (x:=2+v) I I,Qo (x:=5000*d) I I,Qo (x:=5000+5000*d) I I,Qo (x:=r-10) I I];exact H _ _ _ _ ⟨I,I,I,I,I,I⟩ s
theorem two{v:Int}(a:0<=v)(b:v<2):v=0\/v=1:=I
theorem BO{R:Type}(n:Nat)(a:Y UInt8)(d:Nat)(hd:d<10)(ha:a.length<=100)(K:Y UInt8->oP R):VL n a (d:Int) K=K (a++[UInt8.ofNat (48+d)]):=by
 have:∀d:Fin 10,∃q,slB (List.length (bs [48,49,50,51,52,53,54,55,56,57])) (some (Int.tmod (d.val:Int) (10:Int))) (some (wJ ((Int.tmod (d.val:Int) (10:Int))+(1:Int))))=some q/\cut (bs [48,49,50,51,52,53,54,55,56,57]) q=[UInt8.ofNat (48+d.val)]:=by
  intro d
  match d with
  |0=>exact⟨_,rfl,rfl⟩
  |1=>exact⟨_,rfl,rfl⟩
  |2=>exact⟨_,rfl,rfl⟩
  |3=>exact⟨_,rfl,rfl⟩
  |4=>exact⟨_,rfl,rfl⟩
  |5=>exact⟨_,rfl,rfl⟩
  |6=>exact⟨_,rfl,rfl⟩
  |7=>exact⟨_,rfl,rfl⟩
  |8=>exact⟨_,rfl,rfl⟩
  |9=>exact⟨_,rfl,rfl⟩
 obtain⟨q,b,h2⟩:=this ⟨d,hd⟩;unfold VL;simp only at b h2;rw[b];have hz:nz (10:Int)=some ():=rfl;rw[hz,Qh,Qh,Qh,h2];have hs:Q8H (a.length+([UInt8.ofNat (48+d)]:Y UInt8).length)=some ():=by
  unfold Q8H;rw[show Nat.ble (a.length+([UInt8.ofNat (48+d)]:Y UInt8).length) 9223372036854775807=true from Nat.ble_eq_true_of_le Q3];rfl
 rw[hs,Qh]
theorem XM{k:Nat}(h:k<=100000):Y9 k=some ():=by
 unfold Y9;rw[show Nat.ble k 140737488355328=true from Nat.ble_eq_true_of_le I];rfl
theorem Qkb{R:Type}{n:Nat}{e:LL}{s:Y UInt8}{a b c d:Int}{z:Int×LL}{f:Int×LL->oP R}{P:R->Prop}(k:Nat)(hk:e.length=k)(h:k<=1000)(H:f ((k:Int),e++[[D.str s,D.int .i64 a,D.int .i64 b,D.int .i64 c,D.int .i64 d]])∈P) :
  gb true (Zn n e s a b c d Tu2) z f∈P:=by
 unfold Zn;rw[XM Q3,Qh,Qh];have hl:(e++[[D.str s,D.int .i64 a,D.int .i64 b,D.int .i64 c,D.int .i64 d]]).length=k+1:=by simp[hk]
 rw[hl,Qo (x:=((k+1:Nat):Int)-1) I I,show((k+1:Nat):Int)-1=(k:Int) by omega];exact H
theorem QkH{R:Type}{n:Nat}{e:LL}{s:Y UInt8}{a b c d:Int}{z:Int×LL}{f:Int×LL->oP R}{P:R->Prop}(k:Nat)(hk:e.length=k)(h:k<=1000)(hn:Num a b c)(H:f ((k:Int),e++[[D.str s,D.int .i64 (a+2),D.int .i64 b,D.int .i64 c,D.int .i64 d]])∈P) :
  gb true (Zn n e s (wJ (a+2)) b c d Tu2) z f∈P:=by
 have j:=hn.a0;have l:=hn.a1;rw[Qo (x:=a+2) I I];exact Qkb k hk h H
def Qkc(i k:Nat):Y UInt8:=bs [84]++[UInt8.ofNat (48+i)]++[UInt8.ofNat (48+k)]
def nmL(i k:Nat):Y UInt8:=bs [76]++[UInt8.ofNat (48+i)]++[UInt8.ofNat (48+k)]
abbrev NL:=Int×Int×Int
def secT(i k:Nat)(x:NL):Y D:=[D.str (Qkc i k),Ql (x.1+2),Ql x.2.1,Ql x.2.2,Ql i]
def secL(i k:Nat)(x:NL):Y D:=[D.str (nmL i k),Ql x.1,Ql x.2.1,Ql x.2.2,Ql (-1)]
def YN(f:Nat->NL->Y D):Nat->Y NL->LL
 |k+1,x::y=>f (k+1) x::YN f k y
 |_,_=>[]
def ups(k:Nat):Nat->Y Nat
 |0=>[]
 |c+1=>k::ups (k+1) c
def Wg(l:Y Nat):LL:=l.map λk=>[Ql (k:Nat)]
def Hp:Y NL->Prop
 |[]=>True
 |x::r=>Num x.1 x.2.1 x.2.2/\Hp r
section
variable{R:Type} {n:Nat} {l:Y Int} (hl:l.length<=9223372036854775807) {P:R->Prop}
include hl
theorem QiV{i c k j m:Nat}{tl S:LL}{k0:Int->Bool->LL->LL->Int->oP R}(hi:i<10)(hc:c+1<10)(hk:S.length=k)(e:k<=500)(ht:tl.length<=500)(hj:j<=l.length)(H:∀(x:NL) (j:Nat),Num x.1 x.2.1 x.2.2->j<=l.length->Gc n i (encI l) k0 m (c:Int) (tl++[[Ql k]]) (S++[secT i (c+1) x]) (j:Int)∈P) :
  Gc n (i:Int) (encI l) k0 (m+1) ((c+1:Nat):Int) tl S (j:Int)∈P:=by
 unfold Gc;rw[Xi Q2,BO n _ i hi Q1,Qh,BO n _ (c+1) hc Q2,Qh];refine Qg9 hl hj λa b d j hn hj=>?_
 dsimp only;refine QkH k hk I hn ?_;dsimp only;rw[XM Q3,Qh,Qo (x:=((c+1:Nat):Int)-1) I I,show((c+1:Nat):Int)-1=(c:Int) by omega];exact H (a,b,d) j hn hj
theorem Qfd{i c k j m:Nat}{S:LL}{k0:Int->Bool->LL->LL->Int->oP R}(hi:i<10)(hc:c=1\/c=2)(hk:S.length=k)(a:k<=400)(hj:j<=l.length)(H:∀(x:Y NL) (j:Nat),Hp x->x.length=c->j<=l.length->k0 0 false (Wg (ups k c)) (S++YN (secT i) c x) (j:Int)∈P) :
  Gc n (i:Int) (encI l) k0 (m+3) (c:Int) [] S (j:Int)∈P:=by
 rcases hc with rfl | rfl
 ·refine QiV hl (c:=0) hi I hk I Q2 hj λx j hx hj=>?_
  exact H [x] j ⟨hx,trivial⟩ rfl hj
 ·refine QiV hl (c:=1) hi I hk I Q2 hj λx j hx hj=>?_
  refine QiV hl (c:=0) (k:=k+1) hi I (by simp[hk]) I Q2 hj λy j hy hj=>?_
  have:=H [x,y] j ⟨hx,hy,trivial⟩ rfl hj;simp only[YN,ups,Wg,List.map_cons,List.map_nil]at this;show k0 0 false _ (S++[secT i 2 x]++[secT i 1 y]) (j:Int)∈P;rw[List.append_assoc S];exact this
end
def Q7N(a b:Int)(p q:Int):Y D:=[Ql a,Ql 1,Ql b,Ql 0,Ql p,Ql q]
def lk(aa:Bool)(x t:Int)(p q:Int):Y D:=bif aa then Q7N x t p q else Q7N t x p q
def nmP(k:Nat):Y D:=[D.str (bs [80]++[UInt8.ofNat (48+k)])]
def Q4p(x:Nat)(aa:Bool)(ac k c:Nat):LL:=bif Nat.beq c 2 then[lk aa x k ac 0,lk aa x ((k+1:Nat):Int) ac 1]else[lk aa x k (-1) 0]
def Q3F(aa c:Nat):LL:=bif Nat.beq c 2 then[nmP aa]else[]
section
variable{R:Type} {n:Nat} {q2 q4:LL}
theorem Qft{a b c d:Int}(h:q4.length<=1000)(K:LL->oP R):Yo n q4 a b c d K=K (q4++[Q7N a b c d]):=by
 unfold Yo;rw[XM Q3,Qh];rfl
theorem Qg0{k:Nat}(hk:q2.length=k)(h:k<10)(K:Int->LL->oP R):ZD n q2 K=K (k:Int) (q2++[nmP k]):=by
 unfold ZD;rw[hk,BO n _ k h Q1,Qh,XM Q3,Qh];have hl:(q2++[[D.str (bs [80]++[UInt8.ofNat (48+k)])]]).length=k+1:=by simp[hk]
 rw[hl,Qo (x:=((k+1:Nat):Int)-1) I I,show((k+1:Nat):Int)-1=(k:Int) by omega];rfl
theorem Qjw{a1 a:Int}{T:Y Nat}{aa:Bool}{w:Int}{h t m:Nat}(hh:(h:Int)<a)(b:h<=1000)(ht:T[h]? = some t)(hq:q4.length<=1000){k0:Int->Bool->LL->oP R} :
  QP n a1 (Wg T) aa w a k0 (m+1) (h:Int) q4=QP n a1 (Wg T) aa w a k0 m ((h+1:Nat):Int) (q4++[lk aa a1 t w h]):=by
 rw[QP];rw[Xi Q3,Qo (x:=(h:Int)+1) I I];have hr:Qi (Wg T) (h:Int)=some [Ql t]:=X6 ht;cases aa
 ·rw[Qq rfl,hr,Qh];show gb true (some (D.int .i64 (t:Int))) _ _=_;rw[Qh,Qj,Qh,Qft hq,Qh];rfl
 ·rw[Xi rfl,hr,Qh];show gb true (some (D.int .i64 (t:Int))) _ _=_;rw[Qh,Qj,Qh,Qft hq,Qh];rfl
theorem Qgh{a1 a:Int}{T:LL}{aa:Bool}{w:Int}{h m:Nat}(hh:¬ (h:Int)<a){k0:Int->Bool->LL->oP R} :
  QP n a1 T aa w a k0 (m+1) (h:Int) q4=k0 h false q4:=by
 rw[QP,Qq Q3];simp[hh]
theorem QjT{m x k c p:Nat}{aa:Bool}(hc:c=1\/c=2)(hp:q2.length=p)(a:p<10)(hq:q4.length<=900)(K:LL->LL->oP R) :
  Vn (m+3) q2 q4 (x:Int) (Wg (ups k c)) aa K=K (q2++Q3F p c) (q4++Q4p x aa p k c):=by
 rcases hc with rfl | rfl
 ·show QP (m+3) (x:Int) (Wg [k]) aa (-1) (1:Int) _ (m+2+1) ((0:Nat):Int) q4=_;rw[Qjw Q1 Q1 rfl I,Qgh Q1];rw[show Q3F p 1=[]from rfl,List.append_nil];rfl
 ·show gb true (ZD (m+3) q2 _) _ _=_;rw[Qg0 hp a,Qh];show QP (m+3) (x:Int) (Wg [k,k+1]) aa (p:Int) (2:Int) _ (m+2+1) ((0:Nat):Int) q4=_;rw[Qjw Q1 Q1 rfl I,Qjw Q1 Q1 rfl Q3,Qgh Q1,List.append_assoc];rfl
end
def inL(s u:Nat):LL:=bif Nat.beq u 2 then[Q7N s ((s+1:Nat):Int) (-1) 0]else[]
def pc(c:Nat):Nat:=bif Nat.beq c 2 then 1 else 0
theorem Q7i(p c:Nat):(Q3F p c).length=pc c:=by unfold Q3F pc;cases Nat.beq c 2<;>rfl
theorem Qeo{c:Nat}:pc c<=1:=by unfold pc;cases Nat.beq c 2<;>simp
theorem Q3t{x p k c:Nat}{e:Bool}:(Q4p x e p k c).length<=2:=by unfold Q4p;cases Nat.beq c 2<;>simp
theorem Q68{s u:Nat}:(inL s u).length<=1:=by unfold inL;cases Nat.beq u 2<;>simp
section
variable{R:Type} {n:Nat} {l:Y Int} (hl:l.length<=9223372036854775807) {P:R->Prop}
include hl
theorem Qf5{i c k j m:Nat}{tl S:LL}{k0:Int->Bool->LL->LL->Int->oP R}(hi:i<10)(hc:c+1<10)(hk:S.length=k)(e:k<=500)(ht:tl.length<=500)(hj:j<=l.length)(H:∀(x:NL) (j:Nat),Num x.1 x.2.1 x.2.2->j<=l.length->Ga n i (encI l) k0 m (c:Int) (tl++[[Ql k]]) (S++[secL i (c+1) x]) (j:Int)∈P) :
  Ga n (i:Int) (encI l) k0 (m+1) ((c+1:Nat):Int) tl S (j:Int)∈P:=by
 unfold Ga;rw[Xi Q2,BO n _ i hi Q1,Qh,BO n _ (c+1) hc Q2,Qh];refine Qg9 hl hj λa b d j hn hj=>?_
 dsimp only;refine Qkb k hk I ?_;dsimp only;rw[XM Q3,Qh,Qo (x:=((c+1:Nat):Int)-1) I I,show((c+1:Nat):Int)-1=(c:Int) by omega];exact H (a,b,d) j hn hj
theorem QcZ{i c k j m:Nat}{S:LL}{k0:Int->Bool->LL->LL->Int->oP R}(hi:i<10)(hc:c=1\/c=2)(hk:S.length=k)(a:k<=400)(hj:j<=l.length)(H:∀(x:Y NL) (j:Nat),Hp x->x.length=c->j<=l.length->k0 0 false (Wg (ups k c)) (S++YN (secL i) c x) (j:Int)∈P) :
  Ga n (i:Int) (encI l) k0 (m+3) (c:Int) [] S (j:Int)∈P:=by
 rcases hc with rfl | rfl
 ·refine Qf5 hl (c:=0) hi I hk I Q2 hj λx j hx hj=>?_
  exact H [x] j ⟨hx,trivial⟩ rfl hj
 ·refine Qf5 hl (c:=1) hi I hk I Q2 hj λx j hx hj=>?_
  refine Qf5 hl (c:=0) (k:=k+1) hi I (by simp[hk]) I Q2 hj λy j hy hj=>?_
  have:=H [x,y] j ⟨hx,hy,trivial⟩ rfl hj;simp only[YN,ups,Wg,List.map_cons,List.map_nil]at this;show k0 0 false _ (S++[secL i 2 x]++[secL i 1 y]) (j:Int)∈P;rw[List.append_assoc S];exact this
end
section
variable{R:Type} {n:Nat}
theorem inA{s u m:Nat}{q4:LL}(hu:u=1\/u=2)(hq:q4.length<=900){k0:Int->Bool->LL->oP R} :
  R4 n (Wg (ups s u)) k0 (m+3) 0 q4=k0 ((u-1:Nat):Int) false (q4++inL s u):=by
 rcases hu with rfl | rfl
 ·rw[show inL s 1=[]from rfl,List.append_nil];rfl
 ·show gb true (Yo n q4 (s:Int) ((s+1:Nat):Int) (-1) 0 _) _ _=_;rw[Qft I,Qh];rfl
end
theorem QiN{R:Type}{m:Nat}{l:Y Int}(hl:l.length<=9223372036854775807){P:R->Prop}{a:Int}{g s p k c k' c' j:Nat}{Pt Se Li Tr Bt:LL}{k0:Int->Bool->LL->LL->LL->LL->Int->oP R}{n:Nat}(hg:g<8)(hw:(g:Int)+1<a)(hs:Se.length=s)(i:s<=300)(hp:Pt.length=p)(o:p<8)(hL:Li.length<=300)(hB:Bt.length<=300)(hT:Tr[g]? = some [D.sl 1 (Wg (ups k c))])(aa:Tr[g+1]? = some [D.sl 1 (Wg (ups k' c'))])(hc:c=1\/c=2)(aj:c'=1\/c'=2)(hj:j<=l.length)(H:∀(u:Nat) (x:Y NL) (j:Nat),(u=1\/u=2)->Hp x->x.length=u->j<=l.length ->
   Uw (m+3) a Tr (encI l) k0 n ((g+1:Nat):Int) ((Pt++Q3F p c)++Q3F (p+pc c) c') (Se++YN (secL g) u x) (((Li++inL s u)++Q4p s false p k c)++Q4p (s+u-1) true (p+pc c) k' c') (Bt++[[D.sl 1 (Wg (ups s u))]]) (j:Int)∈P) :
  Uw (m+3) a Tr (encI l) k0 (n+1) (g:Int) Pt Se Li Bt (j:Int)∈P:=by
 unfold Uw;have ak:wJ ((g:Int)+1)=((g+1:Nat):Int):=by rw[Qo I I];omega
 rw[ak,Xi Q3];refine VI hl hj Q1 Q1 λv j b d hj=>?_
 obtain⟨u,hu,hv⟩:∃u:Nat,(u=1\/u=2)/\wJ (1+v)=(u:Int):=by
  rcases two b d with rfl | rfl
  ·exact⟨1,.inl rfl,rfl⟩
  ·exact⟨2,.inr rfl,rfl⟩
 dsimp only;rw[hv];refine QcZ hl I hu hs I hj λx j hx ac hj=>?_
 rw[inA hu I];have e:(0:Int).toNat=0:=rfl;have ai:(Wg (ups s u)).length=u:=by rcases hu with rfl | rfl<;>rfl
 have f:(Wg (ups s u))[0]? = some [Ql s]:=by rcases hu with rfl | rfl<;>rfl
 have e1:(Wg (ups s u))[u-1]? = some [Ql ((s+u-1:Nat):Int)]:=by rcases hu with rfl | rfl<;>rfl
 have ar:g<Tr.length:=(List.getElem?_eq_some_iff.1 hT).1;have an:g+1<Tr.length:=(List.getElem?_eq_some_iff.1 aa).1;have h:wJ ((u:Int)-1)=((u-1:Nat):Int):=by rcases hu with rfl | rfl<;>rfl
 rw[ai,XR I I,Qh,e,f,Qh];show gb true (some (Ql s)) _ _∈P;rw[Qh,Qj,Qh,XR I I,Qh,Int.toNat_natCast,hT,Qh];show gb true (some (D.sl 1 (Wg (ups k c)))) _ _∈P;rw[Qh,X2,Qh,QjT hc hp I (by have:=@Q68 s u;simp;omega),Qh];dsimp only;rw[h,XR I I,Qh,Int.toNat_natCast,e1,Qh];show gb true (some (Ql ((s+u-1:Nat):Int))) _ _∈P;rw[Qh,Qj,Qh,XR I I,Qh,Int.toNat_natCast,aa,Qh];show gb true (some (D.sl 1 (Wg (ups k' c')))) _ _∈P;rw[Qh,X2,Qh,QjT (p:=p+pc c) aj (by simp[hp,Q7i]) (by have:=@Qeo c;omega) (by have:=@Q68 s u;have:=@Q3t s p k c false;simp;omega),Qh];dsimp only;rw[XM Q3,Qh];exact H u x j hu hx ac hj
end Go.Vx
