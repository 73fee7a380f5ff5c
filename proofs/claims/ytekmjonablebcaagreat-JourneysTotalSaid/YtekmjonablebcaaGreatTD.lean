/- Part of a proof. No conditions of their own. -/
import Derived.Test.YtekmjonablebcaaGreatTB
import Derived.Test.YtekmjonablebcaaGreatProg
import Derived.Test.YtekmjonablebcaaGreatTC
set_option linter.unusedVariables false
set_option linter.unusedSimpArgs false
noncomputable section

namespace Go.Vx
variable{R:Type} (n:Nat)
def Ea(n:Nat)(a0 a1:Int)(K:Qlj R):oP R:=Qc R (nz (IntKind.wrap .u64 a1)) λa=>K (wJ (Int.tmod (IntKind.wrap .u64 a0) (IntKind.wrap .u64 a1)))
def Qm(b:LL)(a a1:Int)(K:Qlq R):oP R:=bif decide (a>=(b.length:Int))then K 0 a else QkG R b (wJ (wJ (a+1)-1)) λe=>Qc R (Ea n e a1 some) λf=>K f (wJ (a+1))
def WG(c:LL)(f:Int)(a1:List UInt8)(a2:Int)(K:(List UInt8)->Int->Int->Int->Int->Int->oP R):oP R:=Qc R (Qm n c f 9 Tu2) λa=>Qc R (Qm n c a.2 7 Tu2) λd=>Qc R (Qm n c d.2 21 Tu2) λe=>K a1 (wJ (2+a.1)) (wJ (5000+wJ (5000*d.1))) (wJ (e.1-10)) a2 e.2
def VA(n:Nat)(a0:List UInt8)(a1:Int)(K:(List UInt8)->oP R):oP R:=Qlb R 10 (Qb R [48,49,50,51,52,53,54,55,56,57] λe=>Qc R (slB (List.length (bs e)) (some (Int.tmod a1 10)) (some (wJ (Int.tmod a1 10+1)))) λa=>Qc R (Q8l (a0.length+List.length (cut (bs e) a))) λd=>K (a0++cut (bs e) a))
def Zi(n:Nat)(a:LL)(b:List UInt8)(c d e f:Int)(K:Qlu R):oP R:=Qb R [[D.str b,Ql c,Ql d,Ql e,Ql f]] λh=>Qc R (Y5 ((a.length+h.length)*48)) λg=>K (wJ (((List.length (a++h):Nat):Int)-1)) (a++h)
def Ym(n:Nat)(a:LL)(a1 a2 b c:Int)(K:Qlp R):oP R:=Qb R [[Ql a1,Ql 1,Ql a2,Ql 0,Ql b,Ql c]] λe=>Qc R (Y5 ((a.length+e.length)*48)) λd=>K (a++e)
def Zy(a:LL)(K:Qlu R):oP R:=Qc R (VA n (bs [80]) (a.length:Int) some) λb=>Qb R [[D.str b]] λd=>Qc R (Y5 ((a.length+d.length)*16)) λc=>K (wJ (((List.length (a++d):Nat):Int)-1)) (a++d)
def QO(h5:Int)(h6:LL)(h7:Bool)(b c:Int)(k0:Qlm R):Qln R
|0,_,_=>none
|m+1,a,d=>bif decide (a<c)then bif h7 then QkG R h6 a λg=>Qc R (Ym n d h5 g b a some) λh=>QO h5 h6 h7 b c k0 m (wJ (a+1)) h else QkG R h6 a λk=>Qc R (Ym n d k h5 b a some) λl=>QO h5 h6 h7 b c k0 m (wJ (a+1)) l else k0 a (decide (a<c)) d
def Vf(b c:LL)(a1:Int)(a2:LL)(d:Bool)(K:LL->LL->oP R):oP R:=Qb R (a2.length:Int) λe=>bif decide (e>1)then gb true (Zy n b Tu2) (0,[]) λa=>QO n a1 a2 d a.1 e (λh i f=>K a.2 f) n 0 c else QO n a1 a2 d (-1:Int) e (λj k g=>K b g) n 0 c
def JW(c:Int)(h:LL)(k0:QlA R):QlB R
|0,_,_,_,_=>none
|m+1,b,d,i,j=>bif decide (b>0)then Qc R (VA n (bs [84]) c some) λk=>Qc R (VA n k b some) λl=>gb true (WG n h j l c Tu6) ([],0,0,0,0,0) λa=>gb true (Zi n i a.1 (wJ (a.2.1+2)) a.2.2.1 a.2.2.2.1 a.2.2.2.2.1 Tu2) (0,[]) λg=>Qc R (Y5 ((d.length+[[Ql g.1]].length)*8)) λs=>JW c h k0 m (wJ (b-1)) (d++[[Ql g.1]]) g.2 a.2.2.2.2.2 else k0 b (decide (b>0)) d i j
def UD(h2:Int)(b:LL)(k0:QlC R):QlD R
|0,_,_,_,_,_=>none
|m+1,a,c,h6,d,e=>bif decide (a<h2)then Qc R (VA n (bs [83]) a some) λf=>Qc R (Y5 ((c.length+[[D.str f]].length)*16)) λo=>Qc R (Qm n b e 2 Tu2) λg=>JW n a b (λp q h k l=>Qc R (Y5 ((d.length+[[D.sl 1 h]].length)*24)) λr=>UD h2 b k0 m (wJ (a+1)) (c++[[D.str f]]) k (d++[[D.sl 1 h]]) l) n (wJ (1+g.1)) [] h6 g.2 else k0 a (decide (a<h2)) c h6 d e
def JU(g:Int)(h:LL)(k0:QlA R):QlB R
|0,_,_,_,_=>none
|m+1,b,c,i,j=>bif decide (b>0)then Qc R (VA n (bs [76]) g some) λk=>Qc R (VA n k b some) λl=>gb true (WG n h j l (-1:Int) Tu6) ([],0,0,0,0,0) λa=>gb true (Zi n i a.1 a.2.1 a.2.2.1 a.2.2.2.1 a.2.2.2.2.1 Tu2) (0,[]) λf=>Qc R (Y5 ((c.length+[[Ql f.1]].length)*8)) λs=>JU g h k0 m (wJ (b-1)) (c++[[Ql f.1]]) f.2 a.2.2.2.2.2 else k0 b (decide (b>0)) c i j
def SO(b:LL)(k0:Qlm R):Qln R
|0,_,_=>none
|m+1,a,c=>Qb R (wJ (a+1)) λp=>Qa R (decide (p<(b.length:Int))) λo=>bif o then QkI R b.length a b a.toNat λf=>QkI R b.length p b (Int.toNat p) λi=>Qc R (Ym n c f i (-1:Int) 0 some) λj=>SO b k0 m p j else k0 a o c
def Ur(f:Int)(c g:LL)(k0:Int->Bool->LL->LL->LL->LL->Int->oP R):Nat->Int->LL->LL->LL->LL->Int->oP R
|0,_,_,_,_,_,_=>none
|m+1,a,i,j,k,h,l=>Qb R (wJ (a+1)) λe=>Qa R (decide (e<f)) λd=>bif d then Qc R (Qm n g l 2 Tu2) λo=>JU n a g (λai aj b r s=>SO n b (λak al t=>QkI R b.length 0 b (Int.toNat 0) λx=>QkR R c.length a c a.toNat λaa=>gb true (Vf n i t x aa false Tu2) ([],[]) λp=>Qb R (wJ ((b.length:Int)-1)) λar=>QkI R b.length ar b (Int.toNat ar) λad=>QkR R c.length e c (Int.toNat e) λah=>gb true (Vf n p.1 p.2 ad ah true Tu2) ([],[]) λq=>Qc R (Y5 ((h.length+[[D.sl 1 b]].length)*24)) λaq=>Ur f c g k0 m e q.1 r q.2 (h++[[D.sl 1 b]]) s) n 0 k) n (wJ (1+o.1)) [] j o.2 else k0 a d i j k h l
def Q2W(b:LL)(d:Int)(K:LL->LL->LL->LL->LL->LL->LL->Int->oP R):oP R:=Qc R (Qm n b d 2 Tu2) λa=>UD n (wJ (2+a.1)) b (λo p f g c h=>Ur n (wJ (2+a.1)) c b (λq r i j k l m=>K f i j k c l [] m) n 0 [] g [] [] h) n 0 [] [] [] a.2
def PC(n:Nat)(a0:Int)(K:Qlo R):oP R:=K (Q8 (Q9 (decide (a0>=65)) (decide (a0<=90))) (Q9 (decide (a0>=97)) (decide (a0<=122))))
def FP(n:Nat)(a0:Int)(K:Qlo R):oP R:=K (Q9 (decide (a0>=48)) (decide (a0<=57)))
def SX(a:List UInt8)(c:Int)(k0:oP R)(k1:Qlk R):Qll R
|0,_=>none
|m+1,h5=>bif decide (h5<c)then Qc R (Zj a h5) λe=>Qc R (PC n e some) λb=>Qd R (!b) (Zj a h5) λf=>Qd R (!b) (FP n f some) λd=>Qd R (Q9 (!b) (!d)) (Zj a h5) λg=>bif Q9 (Q9 (!b) (!d)) (g !=95)then k0 else SX a c k0 k1 m (wJ (h5+1))else k1 h5 (decide (h5<c))
def KC(a0:List UInt8)(K:Qlo R):oP R:=Qb R (a0.length:Int) λf=>Qa R (Q8 (decide (f<1)) (decide (f>12))) λe=>Qd R (!e) (Zj a0 0) λa=>Qd R (!e) (PC n a some) λb=>bif Q8 e (!b)then K false else SX n a0 f (K false) (λc d=>K true) n 0
def XA(n:Nat)(e f g h:LL)(i:List UInt8)(a b c d:Int)(K:Qlo R):oP R:=K (Q9 (Q9 (Q9 (Q9 (Q9 (Q9 (Q9 (decide (a>=1)) (decide (a<=400))) (decide (b>=1000))) (decide (b<=100000))) (decide (c>=(-40:Int)))) (decide (c<=40))) (decide (d>=(-1:Int)))) (decide (d<(e.length:Int))))
def Yp(n:Nat)(i h b j:LL)(c d e f a g:Int)(K:Qlo R):oP R:=K (Q9 (Q9 (Q9 (Q9 (Q9 (Q9 (Q9 (Q9 (decide (c>=0)) (decide (c<(b.length:Int)))) (decide (e>=0))) (decide (e<(b.length:Int)))) (Q8 (d==0) (d==1))) (Q8 (f==0) (f==1))) (decide (a>=(-1:Int)))) (decide (a<(h.length:Int)))) (Q8 (g==0) (Q9 (g==1) (a !=(-1:Int)))))
def F1(n:Nat)(a b c d e f:Int)(K:Int->Int->Int->Int->oP R):oP R:=K a b c d
def Ht(e:LL)(h2 d h5 h6 h7:Int)(k0:oP R)(k1:Qlk R):Qll R
|0,_=>none
|m+1,c=>bif decide (c<h2)then QkE R e c λb f g h=>QkO R b λi j k=>Ql2 R f g h i λl o p q=>QkC R j k λr s=>gb true (F1 n l o p q r s Tu4) (0,0,0,0) λa=>bif Q8 (Q9 (d==a.1&&h5==a.2.1) (h6==a.2.2.1&&h7==a.2.2.2)) (Q9 (d==a.2.2.1&&h5==a.2.2.2) (h6==a.1&&h7==a.2.1))then k0 else Ht e h2 d h5 h6 h7 k0 k1 m (wJ (c+1))else k1 c (decide (c<h2))
def GE(a0:LL)(a b c d:Int)(K:Qlo R):oP R:=Ht n a0 (a0.length:Int) a b c d (K true) (λe f=>K false) n 0
def JX(n:Nat)(h i j k a c:Int)(a1:LL)(K:Qlo R):oP R:=bif (a1.length:Int)==0 then K true else Qa R (Q9 ((a1.length:Int)==1) (a !=(-1:Int))) λl=>Qd R l (Qi a1 0) λd=>Qd R l d[4]? λe=>Qd R l (pIw e) λb=>Qa R (Q9 l (a==b)) λo=>Qd R o (Qi a1 0) λf=>Qd R o f[5]? λc5=>Qd R o (pIw c5) λg=>K (Q9 o (c !=g))
def Nz(n:Nat)(d e c f:LL)(a b:Int)(K:Qlo R):oP R:=K (Q9 (Q9 (decide (a>=0)) (decide (a<(c.length:Int)))) (Q8 (b==0) (b==1)))
def Rz(n:Nat)(a b:Int)(K:Qlq R):oP R:=bif b==0 then K a 1 else K a 0
def L6(n:Nat)(a b:Int)(K:Qlq R):oP R:=bif b==0 then K a 1 else K a 0
def JY(n:Nat)(e:LL)(h5 h7 b c d:Int)(k0:Qlj R)(k1:Qlk R):Qll R
|0,_=>none
|m+1,h6=>bif decide (h6<h5)then QkE R e h6 λa j k l=>Qc R a[3]? λo=>Qc R a[4]? λp=>Qc R a[5]? λr=>Ql2 R j k l o λf g h i=>bif Q8 (Q9 (f==h7&&g==b) (h==c&&i==d)) (Q9 (f==c&&g==d) (h==h7&&i==b))then Qc R (pIw p) λq=>k0 q else JY n e h5 h7 b c d k0 k1 m (wJ (h6+1))else k1 h6 (decide (h6<h5))
def JL(k l m c:LL)(f g h i:Int)(K:Qlk R):oP R:=Qc R (Rz n f g Tu2) λa=>Qc R (L6 n h i Tu2) λd=>Qc R (Rz n d.1 d.2 Tu2) λe=>JY n c (c.length:Int) a.1 a.2 e.1 e.2 (λj=>K j true) (λo p=>K 0 false) n 0
def Qu(n:Nat)(a0:LL)(a1:Int)(K:Qlp R):oP R:=bif Nat.beq a0.length 1&&decide (0<=a1)&&decide (a1<=100000)then K (List.replicate a1.toNat (a0.headD []))else none
def Uv(n:Nat)(e:List UInt8)(a b c d:Int)(K:Qlo R):oP R:=K (Q9 (Q9 (Q9 (Q9 (Q9 (Q9 (Q9 (decide (a>=1)) (decide (a<=40))) (decide (b>=1000))) (decide (b<=100000))) (decide (c>=100))) (decide (c<=2000))) (decide (d>=100))) (decide (d<=2000)))
def Uj(n:Nat)(a:LL)(b:Int)(K:Qlp R):oP R:=Qc R (slB a.length none (some (wJ ((a.length:Int)-b)))) λc=>K (cut a c)
def LH(n:Nat)(a0:Int)(K:Qlo R):oP R:=K (Q8 (Q9 (decide (a0>=97)) (decide (a0<=122))) (Q9 (decide (a0>=65)) (decide (a0<=90))))
def Dq(n:Nat)(a0:Int)(K:Qlo R):oP R:=K (Q9 (decide (a0>=48)) (decide (a0<=57)))
def NR(b:List UInt8)(k0:oP R)(k1:Qlk R):Qll R
|0,_=>none
|m+1,a=>Qa R (decide (a<(b.length:Int))) λh=>bif h then Qc R (Zj b a) λe=>Qc R (LH n e some) λc=>Qd R (!c) (Zj b a) λf=>Qd R (!c) (Dq n f some) λd=>Qd R (Q9 (!c) (!d)) (Zj b a) λg=>bif Q9 (Q9 (!c) (!d)) (g !=95)then k0 else NR b k0 k1 m (wJ (a+1))else k1 a h
def M6(a0:List UInt8)(K:Qlo R):oP R:=Qa R (Q8 (decide ((a0.length:Int)<1)) (decide ((a0.length:Int)>12))) λe=>Qd R (!e) (Zj a0 0) λa=>Qd R (!e) (LH n a some) λb=>bif Q8 e (!b)then K false else NR n a0 (K false) (λc d=>K true) n 1
def Re(n:Nat)(h5:LL)(h6:Int)(k0:oP R)(k1:Qlk R):Qll R
|0,_=>none
|m+1,h7=>bif decide (h7<h6)then QkM R h5 h7 λc=>QkM R h5 h6 λf=>bif c==f then k0 else Re n h5 h6 k0 k1 m (wJ (h7+1))else k1 h7 (decide (h7<h6))
def Ms(a0:LL)(a1:Int)(K:Qlj R):oP R:=QkM R a0 a1 λc=>Qc R (M6 n c some) λd=>bif !d then K 3 else Re n a0 a1 (K 5) (λe f=>K 0) n 0
def YS(n:Nat)(b:LL)(k0:Qlm R):Qln R
|0,_,_=>none
|m+1,a,h6=>Qa R (decide (a<(b.length:Int))) λg=>bif g then QkM R b a λc=>Qc R (Y5 ((h6.length+[[D.str c]].length)*16)) λf=>YS n b k0 m (wJ (a+1)) (h6++[[D.str c]])else k0 a g h6
def V4(c d a e:LL)(K:Qlp R):oP R:=YS n a (λf g b=>K b) n 0 []
def Kn(n:Nat)(a0 a1 a2:Int)(K:Qlo R):oP R:=K (Q9 (decide (a0>=a1)) (decide (a0<=a2)))
def B9(n:Nat)(c d e f g h a b:Int)(K:Qlo R):oP R:=K (Q8 (Q9 (c==a) (d==b)) (Q9 (e==a) (f==b)))
def Ph(d:Int)(e:LL)(f g:Int)(k0:Int->Int->Bool->D->D->D->D->D->D->oP R):Nat->Int->Int->D->D->D->D->D->D->oP R
|0,_,_,_,_,_,_,_,_=>none
|m+1,h,a,i,j,k,l,o,p=>bif decide (a<d)then QkE R e a λb q r s=>QkO R b λt u v=>Ql2 R q r s t λx y z aa=>QkC R u v λab ac=>Qc R (B9 n x y z aa ab ac f g some) λad=>bif ad then QkE R e a λc ae ag ah=>QkO R c λai aj ak=>Ph d e f g k0 m (wJ (h+1)) (wJ (a+1)) ae ag ah ai aj ak else Ph d e f g k0 m h (wJ (a+1)) i j k l o p else k0 h a (decide (a<d)) i j k l o p
def BH(o p q f:LL)(a1 g h:Int)(K:Qlo R):oP R:=Ql0 R f a1 λb=>Qc R b[2]? λs=>Qc R b[3]? λc5=>Qc R b[4]? λc6=>Qc R b[5]? λi=>Qb R (Ql 0) λad=>Ph n a1 f g h (λa t u v x y z j k=>Qa R (a==0) λac=>Qd R (!ac&&a==1) (pIw c6) λc=>Qa R (Q9 (a==1) (decide (c>=0))) λaa=>QkK R j (!ac&&aa) c6 λd e=>Qa R (Q9 aa (d==e)) λab=>QkK R k (!ac&&ab) i λl m=>K (Q8 ac (Q9 ab (l !=m)))) n 0 0 ad ad ad ad ad ad
def KJ(e:Int)(f:LL)(g h i j:Int)(k0:oP R)(k1:Qlk R):Qll R
|0,_=>none
|m+1,b=>bif decide (b<e)then QkE R f b λc k l o=>QkO R c λp q r=>Ql2 R k l o p λs t u v=>QkC R q r λx y=>Qc R (B9 n s t u v x y g h some) λa=>Qd R a (Qi f b) λd=>Qd R a d[0]? λz=>Qd R a d[1]? λaa=>Qd R a d[2]? λab=>Qd R a d[3]? λac=>Qd R a d[4]? λad=>Qd R a d[5]? λae=>QkK R z a aa λag ah=>QkK R ab a ac λai aj=>QkK R ad a ae λak al=>Qd R a (B9 n ag ah ai aj ak al i j some) λam=>bif Q9 a am then k0 else KJ e f g h i j k0 k1 m (wJ (b+1))else k1 b (decide (b<e))
def JH(p i g h:LL)(a1:Int)(K:Qlj R):oP R:=QkE R h a1 λe q c3 r=>QkO R e λc5 c6 s=>Qc R (pIw q) λv=>Qb R (wJ ((g.length:Int)-1)) λam=>Qc R (Kn n v 0 am some) λa=>Qd R (!(!a)) (pIw r) λx=>Qd R (!(!a)) (Kn n x 0 am some) λb=>Qa R (Q8 (!a) (!b)) λai=>Qd R (!ai) (pIw c3) λy=>Qd R (!ai) (Kn n y 0 1 some) λc=>Qa R (Q8 ai (!c)) λal=>Qd R (!al) (pIw c5) λz=>Qd R (!al) (Kn n z 0 1 some) λd=>Qa R (Q8 al (!d)) λah=>Qd R (!ah) (pIw c6) λaa=>Qd R (!ah) (Kn n aa (-1:Int) (wJ ((i.length:Int)-1)) some) λf=>Qa R (Q8 ah (!f)) λaj=>Qd R (!aj) (pIw s) λab=>Qd R (!aj) (Kn n ab 0 1 some) λj=>Qa R (Q8 aj (!j)) λak=>Qd R (!ak) (pIw c6) λt=>Qd R (!ak&&decide (t<0)) (pIw s) λac=>bif Q8 ak (Q9 (decide (t<0)) (ac !=0))then K 4 else Ql2 R q c3 r c5 λk l m o=>bif k==m&&l==o then K 1 else KJ n a1 h k l m o (K 5) (λae ag=>Qc R (BH n p i g h a1 k l some) λu=>Qd R (!(!u)) (BH n p i g h a1 m o some) λad=>bif Q8 (!u) (!ad)then K 11 else K 0) n 0
def R7(h2:LL)(k0:Qlj R)(k1:Qlk R):Qll R
|0,_=>none
|m+1,a=>Qa R (decide (a<(h2.length:Int))) λc=>bif c then Qc R (Ms n h2 a some) λb=>bif b !=0 then k0 b else R7 h2 k0 k1 m (wJ (a+1))else k1 a c
def Rh(b:LL)(k0:Qlj R)(k1:Qlk R):Qll R
|0,_=>none
|m+1,a=>Qa R (decide (a<(b.length:Int))) λd=>bif d then Qc R (Ms n b a some) λc=>bif c !=0 then k0 c else Rh b k0 k1 m (wJ (a+1))else k1 a d
def Jd(g h e:LL)(k0:Qlj R)(k1:Qlk R):Qll R
|0,_=>none
|m+1,b=>Qa R (decide (b<(e.length:Int))) λx=>bif x then Qc R (Ms n g b some) λi=>bif i !=0 then k0 i else QkN R e b λc j=>Ql9 R c λk l=>Qc R c[4]? λo=>Qc R (pIw j) λp=>Qc R (Kn n p 1 400 some) λa=>Qd R (!(!a)) (pIw k) λq=>Qd R (!(!a)) (Kn n q 1000 100000 some) λd=>Qa R (Q8 (!a) (!d)) λv=>Qd R (!v) (pIw l) λr=>Qd R (!v) (Kn n r (-40:Int) 40 some) λf=>Qa R (Q8 v (!f)) λy=>Qd R (!y) (pIw o) λs=>Qd R (!y) (Kn n s (-1:Int) (wJ ((h.length:Int)-1)) some) λt=>bif Q8 y (!t)then k0 4 else Jd g h e k0 k1 m (wJ (b+1))else k1 b x
def J4(c d e b:LL)(k0:Qlj R)(k1:Qlk R):Qll R
|0,_=>none
|m+1,a=>Qa R (decide (a<(b.length:Int))) λg=>bif g then Qc R (JH n c d e b a some) λf=>bif f !=0 then k0 f else J4 c d e b k0 k1 m (wJ (a+1))else k1 a g
def Vy(a c b d:LL)(K:Qlj R):oP R:=bif Q8 (Q8 (Q8 (decide ((a.length:Int)>24)) (decide ((c.length:Int)>48))) (decide ((b.length:Int)>96))) (decide ((d.length:Int)>192))then K 7 else bif (b.length:Int)==0 then K 1 else R7 n a (λe=>K e) (λj k=>Rh n c (λf=>K f) (λl m=>Qc R (V4 n a c b d some) λg=>Jd n g a b (λh=>K h) (λo p=>J4 n a c b d (λi=>K i) (λq r=>K 0) n 0) n 0) n 0) n 0
def Hw(n:Nat)(a0 a1 a2:Int)(K:Qlo R):oP R:=K (Q9 (decide (a0>=a1)) (decide (a0<=a2)))
def Zo(n:Nat)(h6:LL)(h7 b:Int)(k0:Qlm R):Qln R
|0,_,_=>none
|m+1,h2,a=>Qa R (decide (h2<(h6.length:Int))) λaj=>bif aj then QkE R h6 h2 λc ak g h=>QkO R c λi e f=>Qb R (wJ (h2+1)) λal=>jn (λ(d x:Int)=>(bif decide (d>=0)then bif x==1 then QkC R e f λj k=>Qb R [[Ql d,Ql 1,Ql j,Ql k]] λan=>Qc R (Y5 ((a.length+an.length)*32)) λae=>Zo n h6 h7 b k0 m al (a++an)else QkC R e f λl o=>Qb R [[Ql d,Ql 0,Ql l,Ql o]] λao=>Qc R (Y5 ((a.length+ao.length)*32)) λag=>Zo n h6 h7 b k0 m al (a++ao)else Zo n h6 h7 b k0 m al a:oP R)) λp=>Qc R (pIw ak) λq=>Qd R (q==h7) (pIw g) λy=>bif Q9 (q==h7) (y==b)then QkC R h i λz aa=>p z aa else Qc R (pIw h) λr=>Qd R (r==h7) (pIw i) λab=>bif Q9 (r==h7) (ab==b)then QkC R ak g λac ad=>p ac ad else bif decide ((-1:Int)>=0)then Qb R (Ql (-1:Int)) λam=>bif 0==1 then QkC R e f λs t=>Qb R [[am,Ql 1,Ql s,Ql t]] λap=>Qc R (Y5 ((a.length+ap.length)*32)) λah=>Zo n h6 h7 b k0 m al (a++ap)else QkC R e f λu v=>Qb R [[am,Ql 0,Ql u,Ql v]] λaq=>Qc R (Y5 ((a.length+aq.length)*32)) λai=>Zo n h6 h7 b k0 m al (a++aq)else Zo n h6 h7 b k0 m al a else k0 h2 aj a
def A0(f g h a:LL)(b c:Int)(K:Qlp R):oP R:=bif c==1 then Zo n a b 0 (λi j d=>K d) n 0 []else Zo n a b 1 (λk l e=>K e) n 0 []
def PE(n:Nat)(h2:LL)(c h5:Int)(k0:D->D->D->D->oP R)(k1:Qlk R):Qll R
|0,_=>none
|m+1,a=>Qa R (decide (a<(h2.length:Int))) λo=>bif o then QkQ R h2 a λe f=>QkC R e f λg h=>bif g==c&&h==h5 then QkX R h2 a λi j k l=>k0 i j k l else PE n h2 c h5 k0 k1 m (wJ (a+1))else k1 a o
def JR(a b c d:LL)(e f g h:Int)(K:D->D->D->D->Bool->oP R):oP R:=Qc R (A0 n a b c d e f some) λi=>PE n i g h (λj k l m=>K j k l m true) (λo p=>Qb R (Ql 0) λq=>K q q q q false) n 0
def YO(h5 h7:LL)(k0:oP R)(k1:Qlk R):Qll R
|0,_=>none
|m+1,h2=>Qa R (decide (h2<(h7.length:Int))) λi=>bif i then QkG R h7 h2 λd=>Qc R (Hw n d 0 (wJ ((h5.length:Int)-1)) some) λa=>Ql3 R h7 h2 (!(!a)) λg=>Qd R (!(!a)) (Hw n g 0 1 some) λh=>bif Q8 (!a) (!h)then k0 else YO h5 h7 k0 k1 m (wJ (h2+1))else k1 h2 i
def GK(n:Nat)(b:Int)(c:LL)(k0:oP R)(k1:Qlk R):Qll R
|0,_=>none
|m+1,a=>bif decide (a<b)then QkG R c a λf=>QkG R c b λi=>bif f==i then k0 else GK n b c k0 k1 m (wJ (a+1))else k1 a (decide (a<b))
def VP(b:LL)(k0:oP R)(k1:Qlk R):Qll R
|0,_=>none
|m+1,a=>Qa R (decide (a<(b.length:Int))) λe=>bif e then GK n a b k0 (λc d=>VP b k0 k1 m (wJ (a+1))) n 0 else k1 a e
def YL(c d e f b:LL)(k0:oP R)(k1:Qlk R):Qll R
|0,_=>none
|m+1,a=>Qa R (decide (a<(b.length:Int))) λs=>bif s then QkQ R b (wJ (a-1)) λi j=>QkQ R b a λk l=>Ql2 R i j k l λo p q r=>Qc R (JR n c d e f o p q r Tu5) λy=>bif !y.2.2.2.2 then k0 else YL c d e f b k0 k1 m (wJ (a+1))else k1 a s
def VZ(d e b f a:LL)(c:Int)(K:Qlj R):oP R:=Qc R (Vy n d e b f some) λg=>bif g !=0 then K 1 else bif Q8 (decide ((a.length:Int)>24)) (decide (c>2))then K 7 else bif Q8 (decide (c<0)) (decide (wJ ((a.length:Int)-c)<2))then K 4 else YO n b a (K 4) (λh i=>VP n a (K 5) (λj k=>YL n d e b f a (K 11) (λl m=>K 0) n 1) n 0) n 0
def M4(n:Nat)(a b:Int)(K:Qlq R):oP R:=bif b==0 then K a 0 else K a 1
def ZJ(n:Nat)(d:LL)(b:Int)(k0:Qlm R):Qln R
|0,_,_=>none
|m+1,a,c=>bif decide (a<b)then QkG R d a λe=>Qc R (Y5 ((c.length+[[Ql e,Ql 0]].length)*16)) λh=>ZJ n d b k0 m (wJ (a+1)) (c++[[Ql e,Ql 0]])else k0 a (decide (a<b)) c
def ZQ(n:Nat)(c:LL)(k0:Qlm R):Qln R
|0,_,_=>none
|m+1,a,b=>bif decide (a>=0)then QkG R c a λd=>Qc R (Y5 ((b.length+[[Ql d,Ql 1]].length)*16)) λg=>ZQ n c k0 m (wJ (a-1)) (b++[[Ql d,Ql 1]])else k0 a (decide (a>=0)) b
def YG(a c:LL)(a1 a2 d:Int)(p:Bool)(K:Qlt R):oP R:=QkR R c.length a1 c a1.toNat λb=>Qb R (wJ (a1+1)) λav=>Qb R (Int.toNat av) λax=>bif p then QkR R a.length a1 a a1.toNat λs=>QkR R a.length a1 a a1.toNat λe=>Qc R (nz (e.length:Int)) λay=>QkG R s (Int.tmod a2 (e.length:Int)) λf=>Qc R (Y5 ([[Ql f,Ql 0]].length*16)) λaz=>ZJ n b (b.length:Int) (λba bb g=>QkR R a.length av a ax λz=>QkR R a.length av a ax λh=>Qc R (nz (h.length:Int)) λbe=>QkG R z (Int.tmod d (h.length:Int)) λi=>Qc R (Y5 ((g.length+[[Ql i,Ql 0]].length)*16)) λbg=>K (g++[[Ql i,Ql 0]]) 0) n 0 [[Ql f,Ql 0]]else QkR R a.length av a ax λah=>QkR R a.length av a ax λj=>Qc R (nz (j.length:Int)) λbj=>QkG R ah (Int.tmod d (j.length:Int)) λk=>Qc R (Y5 ([[Ql k,Ql 1]].length*16)) λbk=>ZQ n b (λbl bm l=>QkR R a.length a1 a a1.toNat λao=>QkR R a.length a1 a a1.toNat λm=>Qc R (nz (m.length:Int)) λbp=>QkG R ao (Int.tmod a2 (m.length:Int)) λo=>Qc R (Y5 ((l.length+[[Ql o,Ql 1]].length)*16)) λbq=>K (l++[[Ql o,Ql 1]]) 0) n (wJ ((b.length:Int)-1)) [[Ql k,Ql 1]]
def Wd(b:LL)(k0:Int->Bool->LL->Int->oP R):Nat->Int->LL->Int->oP R
|0,_,_,_=>none
|m+1,h5,a,c=>bif decide (h5<3)then Qc R (Qm n b c 2 Tu2) λd=>QkF R 3 h5 a h5.toNat λg=>Wd b k0 m (wJ (h5+1)) (List.set a h5.toNat (List.set g 0 (Ql d.1))) d.2 else k0 h5 (decide (h5<3)) a c
def QS(k:Bool)(g:Int)(j l o h:LL)(k0:QlA R):QlB R
|0,_,_,_,_=>none
|m+1,a,i,b,t=>bif decide (a<g)then Qb R (wJ (a+1)) λba=>Qa R (decide (ba<g)) λc=>bif !k then Qb R (wJ (wJ (g-1)-a)) λax=>QkI R 3 ax j (Int.toNat ax) λz=>QkI R 3 (wJ (ax+1)) j (Int.toNat (wJ (ax+1))) λac=>Qc R (YG n l o ax z ac k Tu2) λe=>Qb R [[D.sl 2 e.1,Ql e.2]] λaz=>Qc R (Y5 ((b.length+az.length)*32)) λam=>Qc R (Qm n h t 3 Tu2) λp=>Qb R (Ql (wJ (((List.length (b++az):Nat):Int)-1))) λaw=>bif c then Qc R (Qm n h p.2 6 Tu2) λr=>Qc R (Qm n h r.2 4 Tu2) λu=>Qb R [[aw,Ql p.1,Ql (wJ (5+r.1)),Ql (wJ (wJ (5+r.1)+u.1))]] λbb=>Qc R (Y5 ((i.length+List.length bb)*32)) λan=>QS k g j l o h k0 m ba (i++bb) (b++az) u.2 else Qb R [[aw,Ql p.1,Ql 0,Ql 0]] λbe=>Qc R (Y5 ((i.length+List.length be)*32)) λao=>QS k g j l o h k0 m ba (i++be) (b++az) p.2 else QkI R 3 a j a.toNat λag=>QkI R 3 ba j (Int.toNat ba) λaj=>Qc R (YG n l o a ag aj k Tu2) λf=>Qb R [[D.sl 2 f.1,Ql f.2]] λay=>Qc R (Y5 ((b.length+ay.length)*32)) λar=>Qc R (Qm n h t 3 Tu2) λq=>Qb R (Ql (wJ (((List.length (b++ay):Nat):Int)-1))) λd=>bif c then Qc R (Qm n h q.2 6 Tu2) λs=>Qc R (Qm n h s.2 4 Tu2) λv=>Qb R [[d,Ql q.1,Ql (wJ (5+s.1)),Ql (wJ (wJ (5+s.1)+v.1))]] λbc=>Qc R (Y5 ((i.length+List.length bc)*32)) λau=>QS k g j l o h k0 m ba (i++bc) (b++ay) v.2 else Qb R [[d,Ql q.1,Ql 0,Ql 0]] λbh=>Qc R (Y5 ((i.length+List.length bh)*32)) λav=>QS k g j l o h k0 m ba (i++bh) (b++ay) q.2 else k0 a (decide (a<g)) i b t
def UN(f g b:LL)(h:Int)(i c:LL)(j:Bool)(k:Int)(K:Int->LL->LL->oP R):oP R:=Qc R (VA n (bs [78]) (c.length:Int) some) λa=>Qc R (Qm n b h 4 Tu2) λd=>Wd n b (λr s m o=>QS n j k m f g b (λt u e p q=>Qb R [[D.str a,Ql 0,Ql d.1,D.sl 4 e]] λl=>Qc R (Y5 ((c.length+l.length)*56)) λv=>K q p (c++l)) n 0 [] i o) n 0 [[Ql 0],[Ql 0],[Ql 0]] d.2
def Me(n:Nat)(p:Int)(q c d r s t u:LL)(a1 a2:Int)(K:Qlj R):oP R:=QkP R d a1 λg=>QkG R g a2 λi=>QkH R c i λa b=>Qc R a[1]? λv=>Qc R (pSl 2 b) λj=>Qc R (pSl 2 b) λk=>QkG R j (wJ ((k.length:Int)-1)) λo=>K o
def S7(n:Nat)(m:Int)(o a b p q r s:LL)(a1 a2:Int)(K:Qlj R):oP R:=QkP R b a1 λe=>QkG R e a2 λg=>Qld R a g λj=>QkG R j 0 λl=>K l
def YA(c p:Int)(q r f s t u h:LL)(v:Int)(k0:QlC R):QlD R
|0,_,_,_,_,_=>none
|m+1,b,i,j,g,y=>bif decide (b<p)then Qc R (Qm n h y 3 Tu2) λa=>Qa R (decide (a.1>0)) λl=>Ql6 R 4 c l i c.toNat λaa=>Qd R l (PB aa) λd=>Qa R (Q9 l (!d)) λk=>Ql6 R 4 b k j b.toNat λac=>Qd R k (PB ac) λe=>Qa R (Q9 k (!e)) λar=>Qd R ar (inB f.length c) λan=>Qd R ar f[c.toNat]? λad=>Qd R ar ad[3]? λae=>Qd R ar (pSl 4 ae) λag=>Qd R ar (Me n v q r f s g t u c (wJ ((ag.length:Int)-1)) some) λah=>Qd R ar (S7 n v q r f s g t u b 0 some) λai=>bif Q9 ar (ah==ai)then QkF R 4 c i c.toNat λaj=>QkF R 4 b j b.toNat λak=>Qc R (Qm n h a.2 10 Tu2) λo=>Qc R (Qm n h o.2 30 Tu2) λx=>Qb R [[Ql c,Ql b,Ql (wJ (10+o.1)),Ql (wJ (wJ (10+o.1)+x.1))]] λau=>Qc R (Y5 ((g.length+au.length)*32)) λaq=>YA c p q r f s t u h v k0 m (wJ (b+1)) (List.set i c.toNat (List.set aj 0 (D.bool true))) (List.set j b.toNat (List.set ak 0 (D.bool true))) (g++au) x.2 else YA c p q r f s t u h v k0 m (wJ (b+1)) i j g a.2 else k0 b (decide (b<p)) i j g y
def U1(a:Int)(h5 h6 h7 b c d e:LL)(f:Int)(k0:QlC R):QlD R
|0,_,_,_,_,_=>none
|m+1,h2,g,h,i,j=>bif decide (h2<a)then YA n h2 (h7.length:Int) h5 h6 h7 b c d e f (λq r k l o p=>U1 a h5 h6 h7 b c d e f k0 m (wJ (h2+1)) k l o p) n 0 g h i j else k0 h2 (decide (h2<a)) g h i j
def RJ(b:LL)(c d:Int)(e f a g h i j:LL)(K:Qlu R):oP R:=Qb R [D.bool false] λr=>U1 n (a.length:Int) e f a g i j b d (λm o p q k l=>K l k) n 0 [r,r,r,r] [r,r,r,r] h c
def AY(n:Nat)(a0:LL)(K:Qlt R):oP R:=K a0 0
def G2(c g e:LL)(k0:Int->Bool->Int->LL->LL->oP R):Qlz R
|0,_,_,_,_=>none
|m+1,d,h,i,j=>bif decide (d>0)then Qc R (Qm n c h 2 Tu2) λk=>Qc R (Qm n c k.2 (e.length:Int) Tu2) λl=>gb true (UN n g e c l.2 i j (k.1==0) (wJ (1+l.1)) Tu3) (0,[],[]) λf=>G2 c g e k0 m (wJ (d-1)) f.1 f.2.1 f.2.2 else k0 d (decide (d>0)) h i j
def J0(h:Int)(e k l a f o:LL)(k0:QlE R):Qly R
|0,_,_,_=>none
|m+1,i,t,g=>Qb R (a.length:Int) λar=>Qa R (Q9 (decide (i>0)) (decide (ar>1))) λb=>bif b then Qc R (Qm n e t ar Tu2) λd=>Qc R (Qm n e d.2 3 Tu2) λs=>Qc R (nz ar) λak=>QkF R a.length d.1 a (Int.toNat d.1) λx=>Qc R x[3]? λy=>Qc R (pSl 4 y) λz=>Qc R (Qm n e s.2 (z.length:Int) Tu2) λp=>Qb R (Int.tmod (wJ (d.1+1)) ar) λc=>QkF R a.length c a (Int.toNat c) λaa=>Qc R aa[3]? λab=>Qc R (pSl 4 ab) λac=>Qc R (Qm n e p.2 (ac.length:Int) Tu2) λq=>Qc R (Qm n e q.2 20 Tu2) λj=>Qc R (Qm n e j.2 h Tu2) λr=>Qc R (Me n h k l a g o [] [] d.1 p.1 some) λu=>QkF R f.length u f u.toNat λad=>Qc R ad[4]? λae=>Qc R (pIw ae) λag=>Qc R (S7 n h k l a g o [] [] c q.1 some) λv=>QkF R f.length v f v.toNat λah=>Qc R ah[4]? λai=>Qc R (pIw ai) λaj=>bif ag==aj then Qb R [[Ql d.1,Ql p.1,Ql c,Ql q.1,Ql j.1,Ql (wJ (j.1+r.1)),Ql s.1]] λaq=>Qc R (Y5 ((g.length+aq.length)*56)) λap=>J0 h e k l a f o k0 m (wJ (i-1)) r.2 (g++aq)else J0 h e k l a f o k0 m (wJ (i-1)) r.2 g else k0 i b t g
def V8(e a:LL)(k0:QlE R):Qly R
|0,_,_,_=>none
|m+1,f,j,g=>bif decide (f>0)then Qb R (a.length:Int) λc=>Qc R (Qm n e j c Tu2) λd=>Qc R (Qm n e d.2 (wJ (c-1)) Tu2) λh=>Qc R (nz c) λk=>Qc R (Qm n e h.2 9 Tu2) λi=>Qb R [[Ql d.1,Ql (Int.tmod (wJ (wJ (d.1+1)+h.1)) c),Ql (wJ (1+i.1))]] λb=>Qc R (Y5 ((g.length+b.length)*24)) λl=>V8 e a k0 m (wJ (f-1)) i.2 (g++b)else k0 f (decide (f>0)) j g
def H6(e a:LL)(k0:QlE R):Qly R
|0,_,_,_=>none
|m+1,f,j,g=>bif decide (f>0)then Qb R (a.length:Int) λc=>Qc R (Qm n e j c Tu2) λd=>Qc R (Qm n e d.2 (wJ (c-1)) Tu2) λh=>Qc R (nz c) λk=>Qc R (Qm n e h.2 9 Tu2) λi=>Qb R [[Ql d.1,Ql (Int.tmod (wJ (wJ (d.1+1)+h.1)) c),Ql (wJ (1+i.1))]] λb=>Qc R (Y5 ((g.length+b.length)*24)) λl=>H6 e a k0 m (wJ (f-1)) i.2 (g++b)else k0 f (decide (f>0)) j g
def Su(a0:LL)(K:QlK R):oP R:=Qc R (AY n a0 Tu2) λa=>gb true (Q2W n a.1 a.2 Tu8) ([],[],[],[],[],[],[],0) λc=>Qc R (Qm n a.1 c.2.2.2.2.2.2.2 6 Tu2) λd=>Qb R [[Ql 150],[Ql 120],[Ql 180],[Ql 240],[Ql 300],[Ql 90]] λv=>QkI R (List.length v) d.1 v (Int.toNat d.1) λe=>Qc R (Qm n a.1 d.2 2 Tu2) λf=>Qc R (Qm n a.1 f.2 4 Tu2) λg=>Qc R (Qm n a.1 g.2 3 Tu2) λh=>Qc R (Qm n a.1 h.2 3 Tu2) λi=>Qc R (Qm n a.1 i.2 3 Tu2) λq=>G2 n a.1 c.2.2.2.2.1 c.2.2.2.2.2.1 (λad ae y k j=>Qb R [[D.str (bs [88]),Ql (wJ (1+f.1)),Ql (wJ (10000+wJ (5000*g.1))),Ql (wJ (400+wJ (200*h.1))),Ql (wJ (400+wJ (200*i.1)))]] λb=>gb true (RJ n a.1 y e b k j [] [] [] [] Tu2) (0,[]) λl=>Qc R (Qm n a.1 l.1 3 Tu2) λr=>J0 n e a.1 b k j c.2.2.1 l.2 (λag ah z s=>Qc R (Qm n a.1 z 4 Tu2) λo=>bif Q9 (o.1==3) (decide ((j.length:Int)>1))then Qc R (Qm n a.1 o.2 e Tu2) λp=>Qb R [[Ql 0,Ql 0,Ql 1,Ql 0,Ql p.1]] λx=>Qc R (Y5 ((List.length ([]:LL)+x.length)*40)) λai=>Qc R (Qm n a.1 p.2 3 Tu2) λt=>V8 n a.1 c.1 (λaj ak al aa=>K c.1 c.2.1 c.2.2.1 c.2.2.2.1 e b k j s l.2 ([]++x) aa) n t.1 t.2 []else Qc R (Qm n a.1 o.2 3 Tu2) λu=>H6 n a.1 c.1 (λam an ao ab=>K c.1 c.2.1 c.2.2.1 c.2.2.2.1 e b k j s l.2 [] ab) n u.1 u.2 []) n r.1 r.2 []) n (wJ (1+q.1)) q.2 [] []
def Va(n:Nat)(a b:List UInt8)(K:Qlo R):oP R:=K (a==b)
def X1(c:LL)(h2:Int)(d:List UInt8)(k0:Qlj R)(k1:Qlk R):Qll R
|0,_=>none
|m+1,a=>bif decide (a<h2)then Ql4 R c a λe f g h i=>Qc R (Vq e) λj=>QkW R f g (QkW R h i (Qc R (Va n j d some) λk=>bif k then k0 a else X1 c h2 d k0 k1 m (wJ (a+1))))else k1 a (decide (a<h2))
def XS(a0:LL)(a:List UInt8)(K:Qlj R):oP R:=X1 n a0 (a0.length:Int) a (λb=>K b) (λc d=>K (-1:Int)) n 0
def XJ(a0:LL)(a:List UInt8)(K:Qlo R):oP R:=Qc R (XS n a0 a some) λb=>K (decide (b>=0))
def JP(c:LL)(h2:Int)(h5:LL)(k0:Qlj R)(k1:Qlk R):Qll R
|0,_=>none
|m+1,a=>bif decide (a<h2)then Ql4 R c a λd f g h i=>Qc R (Vq d) λj=>Qc R (KC n j some) λk=>bif !k then k0 3 else Qc R (slB h5.length none (some a)) λl=>Qc R (Vq d) λe=>Ql2 R f g h i λo p q r=>Qc R (XJ n (cut h5 l) e some) λs=>bif s then k0 5 else Qc R (Uv n e o p q r some) λt=>bif !t then k0 4 else JP c h2 h5 k0 k1 m (wJ (a+1))else k1 a (decide (a<h2))
def U6(c d e f:LL)(g:Int)(a h i j k l m:LL)(K:Qlj R):oP R:=JP n a (a.length:Int) a (λb=>K b) (λo p=>K 0) n 0
def ZW(n:Nat)(a b:List UInt8)(K:Qlo R):oP R:=K (a==b)
def Qq(c:LL)(h2:Int)(d:List UInt8)(k0:Qlj R)(k1:Qlk R):Qll R
|0,_=>none
|m+1,a=>bif decide (a<h2)then QkX R c a λe f g h=>Qc R (Vq e) λi=>QkW R f g (Qc R (pSl 4 h) λo=>Qc R (ZW n i d some) λj=>bif j then k0 a else Qq c h2 d k0 k1 m (wJ (a+1)))else k1 a (decide (a<h2))
def X8(a0:LL)(a:List UInt8)(K:Qlj R):oP R:=Qq n a0 (a0.length:Int) a (λb=>K b) (λc d=>K (-1:Int)) n 0
def QG(a0:LL)(a:List UInt8)(K:Qlo R):oP R:=Qc R (X8 n a0 a some) λb=>K (decide (b>=0))
def Tl(n:Nat)(a0:Int)(K:Qlo R):oP R:=K (Q9 (decide (a0>=0)) (decide (a0<=1048576)))
def Kt(n:Nat)(a:Int)(b c d e f g h:LL)(a1 a2:Int)(K:Qlo R):oP R:=K (Q9 (Q9 (Q9 (decide (0<=a1)) (decide (a1<=a2))) (decide (a2<=7200))) (decide (a2<wJ (a1+a))))
def Tg(n:Nat)(h:Int)(i a j k l m o:LL)(b p q r:Int)(K:Qlj R):oP R:=Qld R a b λe=>QkG R e 0 λg=>K g
def Si(n:Nat)(k:Int)(l a m o p q r:LL)(b s t u:Int)(K:Qlj R):oP R:=Qld R a b λc=>QkL R a b λg=>QkG R c (wJ (wJ ((c.length:Int)-g)-1)) λj=>K j
def G1(n:Nat)(b:Int)(c d a e f g h:LL)(a1:Int)(K:Qlo R):oP R:=K (Q9 (decide (a1>=0)) (decide (a1<(a.length:Int))))
def Ug(c:Int)(d e b f g h i:LL)(a1 a2:Int)(K:Qlo R):oP R:=Qc R (G1 n c d e b f g h i a1 some) λa=>Qa R (Q9 a (decide (a2>=0))) λl=>Qd R l (Qi b a1) λj=>Qd R l j[3]? λc3=>Qd R l (pSl 4 c3) λk=>K (Q9 l (decide (a2<(k.length:Int))))
def YU(v:LL)(h2:Int)(h6:LL)(e:Int)(f g b h i j k:LL)(k0:Qlj R)(k1:Qlk R):Qll R
|0,_=>none
|m+1,p=>bif decide (p<h2)then QkE R v p λd s x t=>QkO R d λy aa ab=>Qc R d[6]? λac=>QkC R s x λad ae=>Qc R (Ug n e f g b h i j k ad ae some) λa=>QkK R t (!(!a)) y λag ah=>Qd R (!(!a)) (Ug n e f g b h i j k ag ah some) λc=>Qa R (Q8 (!a) (!c)) λcb=>QkK R s (!cb) t λl o=>Qa R (Q8 cb (l==o)) λca=>QkK R aa (!ca) ab λai aj=>Qd R (!ca) (Kt n e f g b h i j k ai aj some) λu=>Qa R (Q8 ca (!u)) λcc=>Qd R (!cc) (pIw ac) λak=>Qd R (!cc) (Tl n ak some) λal=>bif Q8 cc (!al)then k0 4 else Qc R (pIw s) λam=>QkP R b am λap=>Qc R (pIw x) λaq=>QkX R ap aq λar au av aw=>Ql2 R ar au av aw λax ay az ba=>Qc R (Si n e f g b h i j k ax ay az ba some) λbb=>Qc R (Qi h6 bb) λbc=>Qc R bc[4]? λbd=>QkC R bd t λz be=>QkP R b be λbi=>Qc R (pIw y) λbj=>QkX R bi bj λbk bl bm bn=>Ql2 R bk bl bm bn λbo bp bq br=>Qc R (Tg n e f g b h i j k bo bp bq br some) λbt=>Ql5 R h6 bt λbz=>bif Q8 (z==(-1:Int)) (z !=bz)then k0 11 else YU v h2 h6 e f g b h i j k k0 k1 m (wJ (p+1))else k1 p (decide (p<h2))
def Wy(k l b m:LL)(c:Int)(d e f a g h i:LL)(K:Qlj R):oP R:=YU n a (a.length:Int) b c d e f a g h i (λj=>K j) (λo p=>K 0) n 0
def ZU(n:Nat)(a b c d:Int)(K:Qlo R):oP R:=K (Q8 (a==c) (b==d))
def Qr(c:LL)(h2 d h5:Int)(k0:Qlj R)(k1:Qlk R):Qll R
|0,_=>none
|m+1,a=>bif decide (a<h2)then QkX R c a λe f g h=>QkC R e f λi j=>QkW R g h (Qc R (ZU n i j d h5 some) λk=>bif k then k0 a else Qr c h2 d h5 k0 k1 m (wJ (a+1)))else k1 a (decide (a<h2))
def Xb(a0:LL)(a b:Int)(K:Qlj R):oP R:=Qr n a0 (a0.length:Int) a b (λc=>K c) (λd e=>K (-1:Int)) n 0
def QF(a0:LL)(a b:Int)(K:Qlo R):oP R:=Qc R (Xb n a0 a b some) λc=>K (decide (c>=0))
def ZR(r:LL)(h2 b:Int)(h5 h6 h7 c a d e:LL)(k0:Qlj R)(k1:Qlk R):Qll R
|0,_=>none
|m+1,f=>bif decide (f<h2)then QkX R r f λs t u v=>Qc R (pIw s) λaa=>Qc R (G1 n b h5 h6 h7 c a d e aa some) λg=>Qd R (!(!g)) (pIw t) λab=>Qd R (!(!g)) (G1 n b h5 h6 h7 c a d e ab some) λi=>Qa R (Q8 (!g) (!i)) λbp=>QkK R u (!bp) v λac ad=>Qd R (!bp) (Kt n b h5 h6 h7 c a d e ac ad some) λae=>bif Q8 bp (!ae)then k0 4 else Qc R (slB a.length none (some f)) λag=>QkC R s t λx y=>QkW R u v (Qc R (QF n (cut a ag) x y some) λah=>bif ah then k0 5 else QkN R h7 x λj ai=>QkY R j λz=>QkN R h7 y λk aj=>QkY R k λak=>Qc R (pSl 4 z) λal=>Qc R (pSl 4 z) λam=>QkX R al (wJ ((am.length:Int)-1)) λan ao ap aq=>Ql2 R an ao ap aq λar au av aw=>Qc R (Si n b h5 h6 h7 c a d e ar au av aw some) λp=>Qc R (pSl 4 ak) λax=>QkX R ax 0 λay az ba bb=>Ql2 R ay az ba bb λbc bd be bg=>Qc R (Tg n b h5 h6 h7 c a d e bc bd be bg some) λq=>QkK R ai (!(p !=q)) aj λbh bi=>bif Q8 (p !=q) (bh !=bi)then k0 11 else ZR r h2 b h5 h6 h7 c a d e k0 k1 m (wJ (f+1)))else k1 f (decide (f<h2))
def V2(j k l m:LL)(b:Int)(c d e f a g h:LL)(K:Qlj R):oP R:=ZR n a (a.length:Int) b c d e f a g h (λi=>K i) (λo p=>K 0) n 0
def ZE(p:LL)(h2 g:Int)(h5 h6 h7 h i j k:LL)(k0:oP R)(k1:Qlk R):Qll R
|0,_=>none
|m+1,c=>bif decide (c<h2)then Ql4 R p c λq r s t u=>QkC R q r λx y=>Qc R (Ug n g h5 h6 h7 h i j k x y some) λa=>QkK R s (!(!a)) t λz aa=>Qd R (!(!a)) (Ug n g h5 h6 h7 h i j k z aa some) λb=>Qa R (Q8 (!a) (!b)) λac=>QkK R q (!ac) s λe f=>QkK R r (!ac&&e==f) t λl o=>Qa R (Q8 ac (Q9 (e==f) (l==o))) λad=>Qd R (!ad) (pIw u) λv=>Qa R (Q8 ad (decide (v<0))) λae=>Qd R (!ae) (pIw u) λab=>bif Q8 ae (decide (ab>=g))then k0 else ZE p h2 g h5 h6 h7 h i j k k0 k1 m (wJ (c+1))else k1 c (decide (c<h2))
def UT(i j k l:LL)(b:Int)(c d e f g a h:LL)(K:Qlj R):oP R:=ZE n a (a.length:Int) b c d e f g a h (K 4) (λm o=>K 0) n 0
def YT(n:Nat)(l:LL)(h2:Int)(a:LL)(k0:oP R)(k1:Qlk R):Qll R
|0,_=>none
|m+1,e=>bif decide (e<h2)then QkT R l e λh i o=>Qc R (pIw h) λb=>Qd R (!(decide (b<0))) (pIw h) λc=>Qa R (Q8 (decide (b<0)) (decide (c>=(a.length:Int)))) λs=>Qd R (!s) (pIw i) λd=>Qa R (Q8 s (decide (d<0))) λu=>Qd R (!u) (pIw i) λf=>Qa R (Q8 u (decide (f>=(a.length:Int)))) λr=>QkK R h (!r) i λj k=>Qd R (!(Q8 r (j==k))) (pIw o) λp=>Qa R (Q8 (Q8 r (j==k)) (decide (p<1))) λt=>Qd R (!t) (pIw o) λq=>bif Q8 t (decide (q>1048576))then k0 else YT n l h2 a k0 k1 m (wJ (e+1))else k1 e (decide (e<h2))
def Wr(b c d e:LL)(f:Int)(g h i j k l a:LL)(K:Qlj R):oP R:=YT n a (a.length:Int) b (K 4) (λm o=>K 0) n 0
def Ue(n:Nat)(b:Int)(d e:D)(k0:Qlm R):Qln R
|0,_,_=>none
|m+1,a,c=>Qc R (pIw d) λf=>bif decide (a<f)then Qc R (pIw e) λg=>Qc R (Y5 ((c.length+[[Ql g,Ql b]].length)*16)) λh=>Ue n b d e k0 m (wJ (a+1)) (c++[[Ql g,Ql b]])else k0 a (decide (a<f)) c
def Uo(h5 h7:LL)(b:Int)(k0:Qlm R):Qln R
|0,_,_=>none
|m+1,h2,c=>Qa R (decide (h2<wJ ((h7.length:Int)-b))) λy=>bif y then QkG R h7 h2 λi=>QkN R h5 i λa d=>Ql9 R a λe j=>Qc R a[4]? λs=>Qc R (pIw j) λf=>QkL R h7 h2 λo=>bif o==1 then Ue n (wJ (0-f)) d e (λt u p=>Uo h5 h7 b k0 m (wJ (h2+1)) p) n 0 c else Ue n f d e (λv x q=>Uo h5 h7 b k0 m (wJ (h2+1)) q) n 0 c else k0 h2 y c
def Sa(f g a h b:LL)(c:Int)(K:Qlw R):oP R:=Qc R (VZ n f g a h b c some) λd=>bif d !=0 then K [] 0 d else Uo n a b c (λp q e=>bif decide ((e.length:Int)>4000)then K [] 0 7 else QkG R b 0 λk=>QkL R a k λo=>K e o 0) n 0 []
def Yb(i:List UInt8)(d e f g:Int)(K:Qlo R):oP R:=Qc R (Hw n d 1 40 some) λa=>Qd R a (Hw n e 1000 100000 some) λb=>Qd R (Q9 a b) (Hw n f 100 2000 some) λc=>Qd R (Q9 (Q9 a b) c) (Hw n g 100 2000 some) λh=>K (Q9 (Q9 (Q9 a b) c) h)
def G8(n:Nat)(h6 b:LL)(c d:Int)(k0:oP R)(k1:Qlk R):Qll R
|0,_=>none
|m+1,a=>Qa R (decide (a<wJ ((b.length:Int)-c))) λk=>bif k then QkG R b a λg=>QkL R h6 g λj=>bif decide (j<(if 2<d then d else 2))then k0 else G8 n h6 b c d k0 k1 m (wJ (a+1))else k1 a k
def SE(g h c i d:LL)(e:Int)(j:List UInt8)(f k l m:Int)(K:Qlj R):oP R:=Qc R (Sa n g h c i d e Tu3) λa=>bif a.2.2 !=0 then K a.2.2 else Qc R (Yb n j f k l m some) λb=>bif !b then K 1 else G8 n c d e f (K 12) (λp q=>K 0) n 0
def G5(n:Nat)(h5:LL)(k0:oP R)(k1:Qlk R):Qll R
|0,_=>none
|m+1,a=>Qa R (decide (a<(h5.length:Int))) λe=>bif e then QkP R h5 a λd=>bif decide ((d.length:Int)>12)then k0 else G5 n h5 k0 k1 m (wJ (a+1))else k1 a e
def Fh(h:Int)(b c a d e f g:LL)(K:Qlo R):oP R:=bif Q8 (Q8 (Q8 (Q8 (Q8 (Q8 (decide ((b.length:Int)>8)) (decide ((c.length:Int)>48))) (decide ((a.length:Int)>16))) (decide ((d.length:Int)>32))) (decide ((e.length:Int)>32))) (decide ((f.length:Int)>32))) (decide ((g.length:Int)>32))then K true else G5 n a (K true) (λi j=>K false) n 0
def VI(n:Nat)(a0 a1 a2:Int)(K:Qlo R):oP R:=K (Q9 (decide (a0>=a1)) (decide (a0<=a2)))
def GN(n:Nat)(h5:Int)(a:LL)(k0:oP R)(k1:Qlk R):Qll R
|0,_=>none
|m+1,h6=>bif decide (h6<h5)then QkM R a h6 λd=>QkM R a h5 λg=>bif d==g then k0 else GN n h5 a k0 k1 m (wJ (h6+1))else k1 h6 (decide (h6<h5))
def Gv(s:Int)(b t u v x y z:LL)(a1:Int)(K:Qlj R):oP R:=QkM R b a1 λe=>Qc R (M6 n e some) λf=>bif !f then K 3 else GN n a1 b (K 5) (λaa ab=>Ql4 R b a1 λg h i j k=>Qc R (Vq g) λl=>Ql2 R h i j k λm o p q=>Qc R (Yb n l m o p q some) λr=>bif !r then K 4 else K 0) n 0
def Kk(n:Nat)(a:Int)(b c d e f g h:LL)(a1 a2:Int)(K:Qlo R):oP R:=K (Q9 (Q9 (Q9 (decide (a1>=0)) (decide (a1<=a2))) (decide (a2<wJ (a1+a)))) (decide (a2<=7200)))
def Th(n:Nat)(a:LL)(e:Int)(K:Qlj R):oP R:=QkG R a 0 λd=>K d
def S8(n:Nat)(a:LL)(b:Int)(K:Qlj R):oP R:=QkG R a (wJ (wJ ((a.length:Int)-b)-1)) λe=>K e
def WB(n:Nat)(b:Int)(c:LL)(d:D)(k0:oP R)(k1:Qlk R):Qll R
|0,_=>none
|m+1,a=>bif decide (a<b)then QkM R c a λg=>Qc R (Vq d) λh=>bif g==h then k0 else WB n b c d k0 k1 m (wJ (a+1))else k1 a (decide (a<b))
def Wt(o p q r:LL)(h:Int)(i c s t u v x:LL)(y e:D)(k0:Qlj R)(k1:Qlk R):Qll R
|0,_=>none
|m+1,a=>Qc R (pSl 4 e) λz=>Qa R (decide (a<(z.length:Int))) λcf=>bif cf then Qc R (pSl 4 e) λai=>QkX R ai a λj aj aa ab=>Qc R (pSl 4 e) λk=>Qc R (pIw j) λak=>Qc R (VI n ak 0 (wJ ((c.length:Int)-1)) some) λb=>Qd R (!(!b)) (pIw aj) λal=>Qd R (!(!b)) (VI n al 0 (wJ (h-1)) some) λd=>Qa R (Q8 (!b) (!d)) λcc=>QkK R aa (!cc) ab λam an=>Qd R (!cc) (Kk n h i c s t u v x am an some) λl=>Qa R (a==wJ ((k.length:Int)-1)) λce=>Qa R (Q8 cc (!l)) λcg=>Qd R (!cg&&ce) (pIw aa) λac=>Qd R (!cg&&ce&&!(ac !=0)) (pIw ab) λao=>bif Q8 cg (Q9 ce (Q8 (ac !=0) (ao !=0)))then k0 4 else Qlg R j c λaq ar=>QkJ R y i aq ar λba bb bc bd be bg bh=>Qc R (SE n o p q r ba bb bc bd be bg bh some) λae=>bif ae !=0 then k0 ae else Qa R (decide (a>0)) λcb=>Qd R cb (pIw j) λbi=>Qd R cb (Qi c bi) λag=>Qd R cb ag[0]? λbj=>Qd R cb ag[1]? λbk=>Qd R cb (pSl 2 bj) λbl=>Qd R cb (pIw bk) λbm=>Qd R cb (Th n bl bm some) λbn=>Qd R cb (pSl 4 e) λbo=>Qlc R bo (wJ (a-1)) cb λbr=>Qd R cb (Qi c br) λah=>Qd R cb ah[0]? λbt=>Qd R cb ah[1]? λbu=>Qd R cb (pSl 2 bt) λbv=>Qd R cb (pIw bu) λbz=>Qd R cb (S8 n bv bz some) λca=>bif Q9 cb (bn !=ca)then k0 11 else Wt o p q r h i c s t u v x y e k0 k1 m (wJ (a+1))else k1 a cf
def KP(f g h i:LL)(j:Int)(d k b l m o p:LL)(a2:Int)(K:Qlj R):oP R:=QkX R b a2 λe c3 q c5=>Qc R (Vq e) λr=>Qc R (M6 n r some) λs=>bif !s then K 3 else WB n a2 b e (K 5) (λz aa=>Qc R (pIw c3) λt=>Qc R (VI n t 0 (wJ ((d.length:Int)-1)) some) λc=>Qd R (!(!c)) (pIw q) λu=>Qd R (!(!c)) (VI n u 0 1048576 some) λv=>bif Q8 (!c) (!v)then K 4 else Qc R (pSl 4 c5) λx=>bif (x.length:Int)==0 then K 1 else Wt n f g h i j d k b l m o p c3 c5 (λy=>K y) (λab ac=>K 0) n 0) n 0
def Jz(f:Int)(g h b i j k l:LL)(a1 a2:Int)(K:Qlo R):oP R:=Qc R (VI n a1 0 (wJ ((b.length:Int)-1)) some) λa=>Qd R a (Qi b a1) λc=>Qd R a c[3]? λc3=>Qd R a (pSl 4 c3) λd=>Qd R a (VI n a2 0 (wJ ((d.length:Int)-1)) some) λe=>K (Q9 a e)
def Yd(n:Nat)(k:Int)(l b c m o p q:LL)(a1 a2:Int)(K:D->D->oP R):oP R:=QkP R c a1 λf=>QkG R f a2 λh=>QkQ R b h λi j=>K i j
def HB(am an o ao:LL)(b:Int)(c d e f g h i:LL)(j p k q v x y:Int)(K:Qlj R):oP R:=Qc R (Jz n b c d e f g h i j p some) λa=>Qd R (!(!a)) (Jz n b c d e f g h i k q some) λl=>Qa R (Q8 (Q8 (!a) (!l)) (j==k)) λaa=>Qd R (!aa) (Kk n b c d e f g h i v x some) λr=>Qd R (!(Q8 aa (!r))) (VI n y 0 1048576 some) λz=>bif Q8 (Q8 aa (!r)) (!z)then K 4 else Qc R (Yd n b c d e f g h i j p Tu2) λs=>Qla R s.1 s.2 λl6 i7=>Qc R (S8 n l6 i7 some) λr8=>Ql5 R o r8 λt=>Qc R (Yd n b c d e f g h i k q Tu2) λu=>Qla R u.1 u.2 λag ah=>Qc R (Th n ag ah some) λai=>Ql5 R o ai λal=>bif Q8 (decide (t<0)) (t !=al)then K 11 else K 0
def WC(n:Nat)(d:Int)(e:LL)(f g:D)(k0:oP R)(k1:Qlk R):Qll R
|0,_=>none
|m+1,a=>bif decide (a<d)then QkD R e a λi=>QkC R i f λb c=>Qa R (b==c) λp=>Qd R (!p) (Qi e a) λj=>Qd R (!p) j[1]? λk=>QkK R k (!p) g λl o=>bif Q8 p (l==o)then k0 else WC n d e f g k0 k1 m (wJ (a+1))else k1 a (decide (a<d))
def KU(i:Int)(j k b l d m o:LL)(a1:Int)(K:Qlj R):oP R:=QkX R d a1 λe c3 u c5=>Qc R (pIw e) λv=>Qb R (wJ ((b.length:Int)-1)) λay=>Qc R (VI n v 0 ay some) λc=>Qd R (!(!c)) (pIw c3) λx=>Qd R (!(!c)) (VI n x 0 ay some) λf=>Qa R (Q8 (!c) (!f)) λp=>QkK R u (!p) c5 λy z=>Qd R (!p) (Kk n i j k b l d m o y z some) λaa=>bif Q8 p (!aa)then K 4 else WC n a1 d e c3 (K 5) (λap aq=>Qc R (pIw e) λab=>QkN R b ab λg ac=>QkY R g λad=>Qc R (pIw c3) λae=>QkN R b ae λh ag=>Qc R h[2]? λaw=>Qc R h[3]? λax=>Qc R (pIw e) λah=>Qc R (pSl 4 ad) λai=>Qc R (Yd n i j k b l d m o ah (wJ ((ai.length:Int)-1)) Tu2) λs=>Qla R s.1 s.2 λaj ak=>Qc R (S8 n aj ak some) λq=>Qc R (pIw c3) λi64=>Qc R (Yd n i j k b l d m o i64 0 Tu2) λt=>Qla R t.1 t.2 λal am=>Qc R (Th n al am some) λr=>QkK R ac (!(q !=r)) ag λan ao=>bif Q8 (q !=r) (an !=ao)then K 11 else K 0) n 0
def Wx(c:Int)(b d e f g h i:LL)(k0:Qlj R)(k1:Qlk R):Qll R
|0,_=>none
|m+1,a=>Qa R (decide (a<(b.length:Int))) λk=>bif k then Qc R (Gv n c b d e f g h i a some) λj=>bif j !=0 then k0 j else Wx c b d e f g h i k0 k1 m (wJ (a+1))else k1 a k
def Ws(c d e f b:LL)(k0:Qlj R)(k1:Qlk R):Qll R
|0,_=>none
|m+1,a=>Qa R (decide (a<(b.length:Int))) λo=>bif o then QkQ R b a λi j=>Qla R i j λk l=>Qc R (VZ n c d e f k l some) λh=>bif h !=0 then k0 h else Ws c d e f b k0 k1 m (wJ (a+1))else k1 a o
def Ww(c d e f:LL)(g:Int)(h i b j k l o:LL)(k0:Qlj R)(k1:Qlk R):Qll R
|0,_=>none
|m+1,a=>Qa R (decide (a<(b.length:Int))) λq=>bif q then Qc R (KP n c d e f g h i b j k l o a some) λp=>bif p !=0 then k0 p else Ww c d e f g h i b j k l o k0 k1 m (wJ (a+1))else k1 a q
def Zg(d e f g:LL)(h:Int)(i j k b l o p:LL)(k0:Qlj R)(k1:Qlk R):Qll R
|0,_=>none
|m+1,c=>Qa R (decide (c<(b.length:Int))) λah=>bif ah then QkE R b c λa r s t=>QkO R a λu v x=>Qc R a[6]? λy=>Ql2 R r s t u λz aa ab ac=>Ql7 R v x y λad ae ag=>Qc R (HB n d e f g h i j k b l o p z aa ab ac ad ae ag some) λq=>bif q !=0 then k0 q else Zg d e f g h i j k b l o p k0 k1 m (wJ (c+1))else k1 c ah
def Za(c:Int)(d e f g b h i:LL)(k0:Qlj R)(k1:Qlk R):Qll R
|0,_=>none
|m+1,a=>Qa R (decide (a<(b.length:Int))) λk=>bif k then Qc R (KU n c d e f g b h i a some) λj=>bif j !=0 then k0 j else Za c d e f g b h i k0 k1 m (wJ (a+1))else k1 a k
def Z6(h:Int)(i j k l o c p:LL)(k0:oP R)(k1:Qlk R):Qll R
|0,_=>none
|m+1,d=>Qa R (decide (d<(c.length:Int))) λah=>bif ah then Ql4 R c d λs t u v x=>QkC R s t λy z=>Qc R (Jz n h i j k l o c p y z some) λa=>QkK R u (!(!a)) v λaa ab=>Qd R (!(!a)) (Jz n h i j k l o c p aa ab some) λb=>Qa R (Q8 (!a) (!b)) λae=>QkK R s (!ae) u λf g=>QkK R t (!ae&&f==g) v λq r=>Qa R (Q8 ae (Q9 (f==g) (q==r))) λag=>Qd R (!ag) (pIw x) λac=>Qd R (!ag) (VI n ac 0 (wJ (h-1)) some) λad=>bif Q8 ag (!ad)then k0 else Z6 h i j k l o c p k0 k1 m (wJ (d+1))else k1 d ah
def Zc(e d:LL)(k0:oP R)(k1:Qlk R):Qll R
|0,_=>none
|m+1,b=>Qa R (decide (b<(d.length:Int))) λs=>bif s then QkT R d b λi j k=>Qc R (pIw i) λl=>Qb R (wJ ((e.length:Int)-1)) λu=>Qc R (VI n l 0 u some) λa=>Qd R (!(!a)) (pIw j) λo=>Qd R (!(!a)) (VI n o 0 u some) λc=>Qa R (Q8 (!a) (!c)) λr=>QkK R i (!r) j λg h=>Qa R (Q8 r (g==h)) λt=>Qd R (!t) (pIw k) λp=>Qd R (!t) (VI n p 1 1048576 some) λq=>bif Q8 t (!q)then k0 else Zc e d k0 k1 m (wJ (b+1))else k1 b s
def Wg(i j k l:LL)(a:Int)(d b e f g h c:LL)(K:Qlj R):oP R:=Qc R (Vy n i j k l some) λm=>bif m !=0 then K 1 else Qc R (Fh n a d b e f g h c some) λo=>bif o then K 7 else Qc R (VI n a 2 7200 some) λp=>bif !p then K 4 else Wx n a d b e f g h c (λq=>K q) (λv x=>Ws n i j k l b (λr=>K r) (λy z=>Ww n i j k l a d b e f g h c (λs=>K s) (λaa ab=>Zg n i j k l a d b e f g h c (λt=>K t) (λac ad=>Za n a d b e f g h c (λu=>K u) (λae ag=>Z6 n a d b e f g h c (K 4) (λah ai=>Zc n i c (K 4) (λaj ak=>K 0) n 0) n 0) n 0) n 0) n 0) n 0) n 0
def Vk(n:Nat)(b:Int)(k0:Qlr R):Qls R
|0,_,_=>none
|m+1,h2,a=>bif decide (a>0)then Qb R (wJ (h2+a)) λf=>Qc R (nz f) λc=>bif decide (f<=wJ (Int.tdiv b f))then Qc R (Ab 1) λd=>Vk n b k0 m f (shR .i64 a 1)else Qc R (Ab 1) λe=>Vk n b k0 m h2 (shR .i64 a 1)else k0 h2 a (decide (a>0))
def Sg(a0:Int)(K:Qlj R):oP R:=Vk n a0 (λa b c=>K a) n 0 2147483648
def VV(n:Nat)(b:Int)(k0:Qlr R):Qls R
|0,_,_=>none
|m+1,h2,a=>bif decide (h2<a)then Qc R (nz 2) λc=>Qb R (wJ (Int.tdiv (wJ (wJ (h2+a)+1)) 2)) λd=>bif decide (wJ (d*d)<=b)then VV n b k0 m d a else VV n b k0 m h2 (wJ (d-1))else k0 h2 a (decide (h2<a))
def Mn(a0:Int)(K:Qlj R):oP R:=bif decide (a0<=0)then K 0 else VV n a0 (λa b c=>K a) n 0 3037000499
def YR(n:Nat)(c:LL)(h5:Int)(k0:oP R)(k1:Qlk R):Qll R
|0,_=>none
|m+1,h6=>bif decide (h6<h5)then QkQ R c h6 λe f=>Qc R (pIw e) λa=>Qa R (decide (a<1000)) λk=>Qd R (!k) (pIw e) λb=>Qa R (Q8 k (decide (b>100000))) λi=>Qd R (!i) (pIw f) λg=>Qa R (Q8 i (decide (g<(-40:Int)))) λj=>Qd R (!j) (pIw f) λh=>bif Q8 j (decide (h>40))then k0 else YR n c h5 k0 k1 m (wJ (h6+1))else k1 h6 (decide (h6<h5))
def Je(a0:LL)(a1:Int)(a:List UInt8)(b c d e:Int)(K:Qlj R):oP R:=Qc R (Uv n a b c d e some) λf=>bif !f then K 1 else Qb R (a0.length:Int) λi=>bif decide (i>4000)then K 7 else YR n a0 i (K 4) (λg h=>bif Q8 (decide (a1<0)) (decide (a1>wJ (i-2)))then K 4 else K 0) n 0
def WA(n:Nat)(b:LL)(a:Int)(k0:Qlr R):Qls R
|0,_,_=>none
|m+1,h2,h5=>bif decide (h5<a)then QkH R b h5 λc aa=>Qc R c[1]? λe=>Qc R (pIw aa) λd=>WA n b a k0 m (if d<h2 then d else h2) (wJ (h5+1))else k0 h2 h5 (decide (h5<a))
def JG(a0:LL)(a1:Int)(e:List UInt8)(a c f g:Int)(K:Qlj R):oP R:=Qc R (slB a0.length (some (if 0<wJ (a1-a)then wJ (a1-a)else 0)) (some (wJ (a1+1)))) λb=>WA n (cut a0 b) ((List.length (cut a0 b):Nat):Int) (λd h i=>K d) n c 0
def T5(n:Nat)(c a:Int)(d:List UInt8)(e f b g:Int)(K:Qlj R):oP R:=bif decide (a>0)then K (wJ (20000*(if 50<wJ (b-wJ (10*a))then wJ (b-wJ (10*a))else 50)))else K (wJ (20000*b))
def HR(n:Nat)(c a:Int)(d:List UInt8)(e f g b:Int)(K:Qlj R):oP R:=bif decide (a<0)then K (wJ (20000*(if 50<wJ (b+wJ (10*a))then wJ (b+wJ (10*a))else 50)))else K (wJ (20000*b))
def YB(d:LL)(h5 h6:Int)(e:List UInt8)(f g h i:Int)(k0:QlF R):Qly R
|0,_,_,_=>none
|m+1,h7,a,c=>bif decide (a<h6)then Qc R (JG n d a e f g h i some) λb=>QkI R c.length (wJ (wJ (a-1)-h5)) c (Int.toNat (wJ (wJ (a-1)-h5))) λj=>QkQ R d (wJ (a-1)) λq r=>QkC R q r λs t=>Qc R (T5 n s t e f g h i some) λl=>Qc R (inB c.length (wJ (a-h5))) λx=>Qb R (Int.toNat (wJ (a-h5))) λz=>Qc R c[z]? λu=>Qb R (wJ ((if b<h7 then b else h7)*(if b<h7 then b else h7))) λy=>YB d h5 h6 e f g h i k0 m b (wJ (a+1)) (List.set c z (List.set u 0 (Ql (if wJ (j+l)<y then wJ (j+l)else y))))else k0 h7 a (decide (a<h6)) c
def Z9(d:LL)(b:Int)(e:List UInt8)(f g h i:Int)(k0:Qlm R):Qln R
|0,_,_=>none
|m+1,a,c=>bif decide (a>b)then Qc R (inB c.length (wJ (a-b))) λz=>Qb R (Int.toNat (wJ (a-b))) λac=>Qc R c[ac]? λp=>Qc R p[0]? λq=>Qc R (pIw q) λj=>QkI R c.length (wJ (wJ (a+1)-b)) c (Int.toNat (wJ (wJ (a+1)-b))) λk=>QkQ R d a λt u=>QkC R t u λv x=>Qc R (HR n v x e f g h i some) λo=>QkF R c.length (wJ (a-b)) c ac λy=>Z9 d b e f g h i k0 m (wJ (a-1)) (List.set c ac (List.set y 0 (Ql (if wJ (k+o)<j then wJ (k+o)else j))))else k0 a (decide (a>b)) c
def JO(a0:LL)(a1:Int)(a:List UInt8)(b c d e:Int)(K:Qlp R):oP R:=Qb R (a0.length:Int) λr=>Qb R (wJ (wJ (r-a1)+1)) λq=>gb true (bif decide (0<=q)&&decide (q<=q)then some ()else none) () λi=>Qc R (Y5 (Int.toNat q*8)) λj=>Qc R (JG n a0 a1 a b c d e some) λf=>YB n a0 a1 r a b c d e (λk l m g=>Z9 n a0 a1 a b c d e (λo p h=>K h) n (wJ (r-1)) g) n f (wJ (a1+1)) (List.replicate (Int.toNat q) [Ql 0])
def ZO(b:Int)(k0:Qlm R):Qln R
|0,_,_=>none
|m+1,a,h5=>bif decide (a<b)then QkI R h5.length a h5 a.toNat λe=>Qc R (Sg n e some) λf=>QkF R h5.length a h5 a.toNat λg=>ZO b k0 m (wJ (a+1)) (List.set h5 a.toNat (List.set g 0 (Ql f)))else k0 a (decide (a<b)) h5
def Gm(a0:LL)(a1:Int)(a:List UInt8)(b c d e:Int)(K:Qlt R):oP R:=Qc R (Je n a0 a1 a b c d e some) λf=>bif f !=0 then K [] f else Qc R (JO n a0 a1 a b c d e some) λg=>ZO n (g.length:Int) (λi j h=>K h 0) n 0 g
def GM(n:Nat)(a0 a1:Int)(K:Qlq R):oP R:=bif decide (a1<1)then K 0 1 else Qlb R a1 (Qb R (wJ (Int.tdiv a0 a1)) λc=>bif decide (Int.tmod a0 a1>0)then K (wJ (c+1)) 0 else K c 0)
def WD(a:LL)(k0:Qlm R):Qln R
|0,_,_=>none
|m+1,h5,h6=>Qa R (decide (h5<(a.length:Int))) λh=>bif h then Qb R (wJ (h5-1)) λi=>QkG R a i λd=>QkG R a h5 λg=>Qc R (GM n 20000000 (wJ (d+g)) Tu2) λj=>QkI R h6.length i h6 (Int.toNat i) λo=>QkF R h6.length h5 h6 h5.toNat λp=>WD a k0 m (wJ (h5+1)) (List.set h6 h5.toNat (List.set p 0 (Ql (wJ (o+j.1)))))else k0 h5 h h6
def Jt(a0:LL)(a1:Int)(b:List UInt8)(c d e f:Int)(K:Qlt R):oP R:=Qc R (Gm n a0 a1 b c d e f Tu2) λa=>bif a.2 !=0 then K [] a.2 else Qb R (a.1.length:Int) λg=>gb true (bif decide (0<=g)&&decide (g<=g)then some ()else none) () λi=>Qc R (Y5 (Int.toNat g*8)) λj=>WD n a.1 (λk l h=>K h 0) n 1 (List.replicate (Int.toNat g) [Ql 0])
def Kl(h2:LL)(k0:oP R)(k1:Qlk R):Qll R
|0,_=>none
|m+1,a=>Qa R (decide (a<(h2.length:Int))) λj=>bif j then QkG R h2 a λe=>Qc R (Hw n e 1000 100000 some) λb=>Ql3 R h2 a (!(!b)) λh=>Qd R (!(!b)) (Hw n h (-40:Int) 40 some) λi=>bif Q8 (!b) (!i)then k0 else Kl h2 k0 k1 m (wJ (a+1))else k1 a j
def B8(a0:LL)(a1:Int)(a:List UInt8)(b c d e:Int)(K:Qlj R):oP R:=Qc R (Yb n a b c d e some) λf=>bif !f then K 1 else bif decide ((a0.length:Int)>4000)then K 7 else Kl n a0 (K 4) (λg h=>bif Q8 (decide (a1<0)) (decide (a1>wJ ((a0.length:Int)-2)))then K 4 else K 0) n 0
def J3(n:Nat)(c:LL)(h2:Int)(k0:Qlr R):Qls R
|0,_,_=>none
|m+1,b,a=>bif decide (a<=h2)then QkG R c a λd=>J3 n c h2 k0 m (if d<b then d else b) (wJ (a+1))else k0 b a (decide (a<=h2))
def PV(a0:LL)(a1:Int)(d:List UInt8)(a b e f:Int)(K:Qlj R):oP R:=J3 n a0 a1 (λc g h=>K c) n b (if 0<wJ (a1-a)then wJ (a1-a)else 0)
def MJ(n:Nat)(c a:Int)(d:List UInt8)(e f b g:Int)(K:Qlj R):oP R:=bif decide (a>0)then K (if 50<wJ (b-wJ (10*a))then wJ (b-wJ (10*a))else 50)else K b
def MG(n:Nat)(c a:Int)(d:List UInt8)(e f g b:Int)(K:Qlj R):oP R:=bif decide (a<0)then K (if 50<wJ (b+wJ (10*a))then wJ (b+wJ (10*a))else 50)else K b
def UC(d:LL)(h5 h6:Int)(e:List UInt8)(f g h i:Int)(k0:Qlm R):Qln R
|0,_,_=>none
|m+1,h7,a=>bif decide (h7<h6)then Qc R (PV n d (wJ (wJ (h5+h7)-1)) e f g h i some) λb=>Qc R (PV n d (wJ (h5+h7)) e f g h i some) λc=>QkF R a.length h7 a h7.toNat λj=>UC d h5 h6 e f g h i k0 m (wJ (h7+1)) (List.set a h7.toNat (List.set j 0 (Ql (wJ ((if c<b then c else b)*(if c<b then c else b))))))else k0 h7 (decide (h7<h6)) a
def UH(d:LL)(e c:Int)(f:List UInt8)(g h i j:Int)(k0:Qlm R):Qln R
|0,_,_=>none
|m+1,a,b=>bif decide (a<c)then Qb R (wJ (a+1)) λac=>Qc R (inB b.length ac) λz=>Qb R (Int.toNat ac) λad=>Qc R b[ad]? λq=>Qc R q[0]? λr=>Qc R (pIw r) λk=>QkI R b.length a b a.toNat λl=>QkQ R d (wJ (e+a)) λu v=>QkC R u v λx i64=>Qc R (MJ n x i64 f g h i j some) λp=>QkF R b.length ac b ad λy=>UH d e c f g h i j k0 m ac (List.set b ad (List.set y 0 (Ql (if wJ (l+wJ (20000*p))<k then wJ (l+wJ (20000*p))else k))))else k0 a (decide (a<c)) b
def UL(c:LL)(d:Int)(e:List UInt8)(f g h i:Int)(k0:Qlm R):Qln R
|0,_,_=>none
|m+1,a,b=>bif decide (a>0)then Qb R (wJ (a-1)) λac=>Qc R (inB b.length ac) λz=>Qb R (Int.toNat ac) λad=>Qc R b[ad]? λp=>Qc R p[0]? λq=>Qc R (pIw q) λj=>QkI R b.length a b a.toNat λk=>QkQ R c (wJ (wJ (d+a)-1)) λt u=>QkC R t u λv x=>Qc R (MG n v x e f g h i some) λo=>QkF R b.length ac b ad λy=>UL c d e f g h i k0 m ac (List.set b ad (List.set y 0 (Ql (if wJ (k+wJ (20000*o))<j then wJ (k+wJ (20000*o))else j))))else k0 a (decide (a>0)) b
def Vz(c:Int)(k0:Qlm R):Qln R
|0,_,_=>none
|m+1,a,b=>bif decide (a<=c)then QkI R b.length a b a.toNat λf=>Qc R (Mn n f some) λg=>QkF R b.length a b a.toNat λh=>Vz c k0 m (wJ (a+1)) (List.set b a.toNat (List.set h 0 (Ql g)))else k0 a (decide (a<=c)) b
def Rp(a0:LL)(a1:Int)(a:List UInt8)(b c d e:Int)(K:Qlt R):oP R:=Qc R (B8 n a0 a1 a b c d e some) λf=>bif f !=0 then K [] f else Qb R (wJ ((a0.length:Int)-a1)) λv=>Qb R (wJ (v+1)) λx=>gb true (bif decide (0<=x)&&decide (x<=x)then some ()else none) () λk=>Qc R (Y5 (Int.toNat x*8)) λl=>UC n a0 a1 v a b c d e (λm o g=>UH n a0 a1 v a b c d e (λp q h=>UL n a0 a1 a b c d e (λr s i=>Vz n v (λt u j=>K j 0) n 0 i) n v h) n 0 g) n 1 (List.replicate (Int.toNat x) [Ql 0])
def Jr(n:Nat)(a0 a1:Int)(K:Qlj R):oP R:=Qlb R a1 (Qb R (wJ (Int.tdiv a0 a1)) λc=>bif decide (Int.tmod a0 a1>0)then K (wJ (c+1))else K c)
def Ja(a:LL)(k0:Qlm R):Qln R
|0,_,_=>none
|m+1,h5,h6=>Qa R (decide (h5<(a.length:Int))) λq=>bif q then Qb R (wJ (h5-1)) λr=>QkI R h6.length r h6 (Int.toNat r) λd=>QkG R a r λg=>QkG R a h5 λj=>Qc R (Jr n 20000000 (wJ (g+j)) some) λk=>QkF R h6.length h5 h6 h5.toNat λl=>Ja a k0 m (wJ (h5+1)) (List.set h6 h5.toNat (List.set l 0 (Ql (wJ (d+k)))))else k0 h5 q h6
def PM(a0:LL)(a1:Int)(b:List UInt8)(c d e f:Int)(K:Qlt R):oP R:=Qc R (Rp n a0 a1 b c d e f Tu2) λa=>bif a.2 !=0 then K [] a.2 else Qb R (a.1.length:Int) λg=>gb true (bif decide (0<=g)&&decide (g<=g)then some ()else none) () λi=>Qc R (Y5 (Int.toNat g*8)) λj=>Ja n a.1 (λk l h=>K h 0) n 1 (List.replicate (Int.toNat g) [Ql 0])
def JQ(a0:Int)(K:Qlj R):oP R:=Qc R (GM n a0 1000 Tu2) λa=>K a.1
def Po(n:Nat)(a0 a1:Int)(K:Qlq R):oP R:=bif decide (a1<1)then K 0 1 else Qlb R a1 (Qb R (wJ (Int.tdiv a0 a1)) λc=>bif decide (Int.tmod a0 a1<0)then K (wJ (c-1)) 0 else K c 0)
def Vi(a0:Int)(K:Qlj R):oP R:=Qc R (Po n a0 1000 Tu2) λa=>K a.1
def J9(n:Nat)(c a b d:LL)(K:Qlp R):oP R:=Qb R (wJ ((b.length:Int)+(a.length:Int))) λg=>gb true (bif decide (0<=g)&&decide (g<=g)then some ()else none) () λe=>Qc R (Y5 (Int.toNat g*24)) λf=>K (List.replicate (Int.toNat g) [Ql 0,Ql 0,Ql 0])
def XF(n:Nat)(a:LL)(a1 a2 b:Int)(K:Qlp R):oP R:=QkZ R a.length a1 a a1.toNat λf=>Qc R a[a1.toNat]? λg=>QkU R g λh=>bif decide (f<h)then Qc R a[a1.toNat]? λi=>Qc R i[1]? λj=>Qc R (pIw j) λc=>Qc R a[a1.toNat]? λk=>QkU R k λd=>Qc R a[a1.toNat]? λm=>K (List.set a a1.toNat (List.set (List.set (List.set m 0 (Ql a1)) 1 (Ql (if c<a2 then c else a2))) 2 (Ql (if b<d then d else b))))else Qc R a[a1.toNat]? λo=>K (List.set a a1.toNat (List.set (List.set (List.set o 0 (Ql a1)) 1 (Ql a2)) 2 (Ql b)))
def Y6(n:Nat)(c:LL)(h2:Int)(k0:Qlm R):Qln R
|0,_,_=>none
|m+1,a,b=>bif decide (a<h2)then QkT R c a λg e f=>QkC R e f λh i=>bif decide (h<i)then Qc R (Y5 ((b.length+[[g,e,f]].length)*24)) λj=>Y6 n c h2 k0 m (wJ (a+1)) (b++[[g,e,f]])else Y6 n c h2 k0 m (wJ (a+1)) b else k0 a (decide (a<h2)) b
def Vm(a0:LL)(K:Qlp R):oP R:=Y6 n a0 (a0.length:Int) (λb c a=>K a) n 0 []
def Zx(n:Nat)(a g c:LL)(e b:Int)(k0:QlG R):Qlz R
|0,_,_,_,_=>none
|m+1,h5,h6,f,d=>Qa R (decide (h6<wJ ((c.length:Int)-e))) λac=>bif ac then QkG R a h5 λh=>Qc R (Y5 ((f.length+[[Ql h]].length)*8)) λz=>Qb R (wJ ((a.length:Int)-1)) λad=>bif decide (h6>0)then QkG R c h6 λr=>QkL R g r λi=>QkG R a (if ad<wJ (wJ (h5+i)+b)then ad else wJ (wJ (h5+i)+b)) λj=>Qc R (Y5 ((d.length+[[Ql j]].length)*8)) λaa=>Zx n a g c e b k0 m (wJ (h5+i)) (wJ (h6+1)) (f++[[Ql h]]) (d++[[Ql j]])else QkG R a (if ad<wJ (h5+b)then ad else wJ (h5+b)) λk=>Qc R (Y5 ((d.length+[[Ql k]].length)*8)) λab=>Zx n a g c e b k0 m h5 (wJ (h6+1)) (f++[[Ql h]]) (d++[[Ql k]])else k0 h5 h6 ac f d
def Pm(i j c k d:LL)(e:Int)(l:List UInt8)(f m o p:Int)(K:LL->LL->Int->Int->oP R):oP R:=Qc R (SE n i j c k d e l f m o p some) λa=>bif a !=0 then K [] [] 0 a else Qc R (Sa n i j c k d e Tu3) λb=>Qc R (PM n b.1 b.2.1 l f m o p Tu2) λh=>Zx n h.1 c d e f (λx y z q r=>QkG R h.1 (wJ ((h.1.length:Int)-1)) λu=>Qc R (Jr n u 1000 some) λv=>K q r v 0) n 0 0 [] []
def VF(n:Nat)(a0 a1:Int)(K:Qlj R):oP R:=Qlb R a1 (Qb R (wJ (Int.tdiv a0 a1)) λc=>bif decide (Int.tmod a0 a1<0)then K (wJ (c-1))else K c)
def YW(n:Nat)(b a:LL)(a1 a2 c:Int)(K:LL->LL->oP R):oP R:=Qlf R b.length a1 b a1.toNat λg=>bif g then QkZ R a.length a1 a a1.toNat λd=>QkF R a.length a1 a a1.toNat λi=>QkU R i λe=>QkF R b.length a1 b a1.toNat λj=>QkF R a.length a1 a a1.toNat λk=>K (List.set b a1.toNat (List.set j 0 (D.bool true))) (List.set a a1.toNat (List.set (List.set (List.set k 0 (Ql a1)) 1 (Ql (if d<a2 then d else a2))) 2 (Ql (if c<e then e else c))))else QkF R b.length a1 b a1.toNat λl=>QkF R a.length a1 a a1.toNat λm=>K (List.set b a1.toNat (List.set l 0 (D.bool true))) (List.set a a1.toNat (List.set (List.set (List.set m 0 (Ql a1)) 1 (Ql a2)) 2 (Ql c)))
def Wm(l o:Int)(e i:LL)(j b:Int)(p q f r c:LL)(k0:QlG R):Qlz R
|0,_,_,_,_=>none
|m+1,v,a,x,y=>Qa R (decide (a<(c.length:Int))) λg=>bif g then jn (λ(t k:Int)=>(QkG R c a λag=>gb true (YW n x y ag t k Tu2) ([],[]) λd=>Qb R (wJ (a+1)) λh=>bif decide (a>0)then QkQ R c (wJ (a-1)) λah ai=>QkQ R c a λaj ak=>Ql2 R ah ai aj ak λal am an ao=>Qc R (JR n p q f r al am an ao Tu5) λu=>Qc R (pIw u.2.2.1) λau=>bif decide (au>=0)then bif decide (a>b)then Qc R (pIw u.2.2.1) λav=>gb true (YW n d.1 d.2 (wJ ((f.length:Int)+av)) t k Tu2) ([],[]) λab=>Wm l o e i j b p q f r c k0 m k h ab.1 ab.2 else Qc R (pIw u.2.2.1) λaw=>gb true (YW n d.1 d.2 (wJ ((f.length:Int)+aw)) t v Tu2) ([],[]) λac=>Wm l o e i j b p q f r c k0 m k h ac.1 ac.2 else Wm l o e i j b p q f r c k0 m k h d.1 d.2 else Wm l o e i j b p q f r c k0 m k h d.1 d.2:oP R)) λs=>bif a==0 then QkG R i 0 λaz=>Qc R (Jr n az 1000 some) λba=>s (wJ (0-l)) (wJ (ba+4))else bif decide (a<b)then QkG R e (wJ (a-1)) λbd=>Qc R (VF n bd 1000 some) λbe=>QkG R i a λbi=>Qc R (Jr n bi 1000 some) λbj=>s (wJ (be-16)) (wJ (bj+4))else bif a==b then QkG R e (wJ (b-1)) λbm=>Qc R (VF n bm 1000 some) λbn=>s (wJ (bn-16)) (wJ (j+o))else QkG R e b λbq=>Qc R (VF n bq 1000 some) λbr=>s (wJ (br-16)) (wJ (j+20))else k0 v a g x y
def V9(n:Nat)(b:Int)(c d:LL)(k0:Qlm R):Qln R
|0,_,_=>none
|m+1,a,e=>bif decide (a<b)then Qlf R c.length a c a.toNat λl=>bif l then QkF R d.length a d a.toNat λf=>Qc R f[0]? λg=>Qc R f[1]? λh=>Qc R f[2]? λi=>Qc R (Y5 ((e.length+[[g,h,i]].length)*24)) λq=>V9 n b c d k0 m (wJ (a+1)) (e++[[g,h,i]])else V9 n b c d k0 m (wJ (a+1)) e else k0 a (decide (a<b)) e
def Hm(f a b g h:LL)(j:Int)(k:List UInt8)(l m o p q r:Int)(K:Qlw R):oP R:=Qc R (SE n f a b g h j k l m o p some) λd=>bif d !=0 then K [] 0 d else Qc R (Hw n q 0 65536 some) λe=>Qd R (!(!e)) (Hw n r 0 65536 some) λi=>bif Q8 (!e) (!i)then K [] 0 4 else gb true (Pm n f a b g h j k l m o p Tu4) ([],[],0,0) λc=>Qb R (wJ ((b.length:Int)+(a.length:Int))) λaa=>Qa R (decide (0<=aa)&&decide (aa<=aa)) λs=>gb true (bif s then some ()else none) () λx=>Qb R (Int.toNat aa) λah=>Qc R (Y5 (ah*1)) λy=>gb true (bif s then some ()else none) () λz=>Qc R (Y5 (ah*24)) λu8=>Wm n q r c.1 c.2.1 c.2.2.1 (wJ ((c.1.length:Int)-1)) f a b g h (λab ac ad t u=>V9 n aa t u (λae ag v=>K v c.2.2.1 0) n 0 []) n 0 0 (List.replicate ah [D.bool false]) (List.replicate ah [Ql 0,Ql 0,Ql 0])
def V0(n:Nat)(d:Int)(h2:LL)(c:Int)(k0:Qlj R)(k1:Qlk R):Qll R
|0,_=>none
|m+1,a=>bif decide (a<c)then QkH R h2 a λb f=>Qc R b[1]? λi=>QkY R b λg=>Qc R (pIw f) λh=>bif h==d then Qc R (pIw g) λe=>k0 (if 60<e then e else 60)else V0 n d h2 c k0 k1 m (wJ (a+1))else k1 a (decide (a<c))
def H4(c:Int)(d e f g a h i:LL)(a1:Int)(K:Qlj R):oP R:=V0 n a1 a (a.length:Int) (λb=>K b) (λj k=>K 60) n 0
def J6(n:Nat)(c:Int)(a:LL)(k0:D->D->D->D->oP R)(k1:Qlk R):Qll R
|0,_=>none
|m+1,h2=>Qa R (decide (h2<(a.length:Int))) λk=>bif k then QkG R a h2 λf=>bif f==c then QkX R a h2 λg h i j=>k0 g h i j else J6 n c a k0 k1 m (wJ (h2+1))else k1 h2 k
def SB(a:LL)(a1:Int)(K:D->D->D->D->Bool->oP R):oP R:=J6 n a1 a (λb c d e=>K b c d e true) (λf g=>Qb R (Ql 0) λh=>K h h h h false) n 0
def YJ(g:Int)(k l o p:LL)(q:Int)(e r s t h u v:LL)(x d:D)(k0:Qlv R):Qlx R
|0,_,_,_=>none
|m+1,a,i,j=>Qc R (pSl 4 d) λaj=>Qa R (decide (a<(aj.length:Int))) λb=>bif b then Qc R (pSl 4 d) λaw=>QkL R aw a λak=>Qb R (wJ (a+1)) λc=>bif a==0 then jn (λ(az:Int)=>(Qc R (Yd n q e r s t h u v g a Tu2) λal=>QkJ R x e al.1 al.2 λbh bi bj bk bl bm bn=>Qc R (Hm n k l o p bh bi bj bk bl bm bn 60 az Tu3) λac=>Ql1 R ((i.length+[[D.sl 3 ac.1]].length)*24) ((j.length+[[Ql ac.2.1]].length)*8) (YJ g k l o p q e r s t h u v x d k0 m c (i++[[D.sl 3 ac.1]]) (j++[[Ql ac.2.1]])):oP R)) λam=>Qc R (SB n h g Tu5) λan=>Qc R (pSl 4 d) λbo=>bif decide (a<wJ ((bo.length:Int)-1))then Qc R (pSl 4 d) λbp=>QkL R bp a λbt=>Qc R (pSl 4 d) λbu=>Qc R (Qi bu a) λbv=>Qc R bv[3]? λbz=>Qc R (pIw bz) λca=>am (wJ (bt+ca))else bif an.2.2.2.2 then Qc R (pSl 4 d) λcb=>Qle R cb a λce=>QkC R ce an.2.2.2.1 λcf i64=>am (wJ (cf+(if 60<i64 then i64 else 60)))else Qc R (Yd n q e r s t h u v g a Tu2) λao=>QkJ R x e ao.1 ao.2 λcn co cp cq cr cs ct=>Qc R (Hm n k l o p cn co cp cq cr cs ct 60 (wJ (ak+60)) Tu3) λad=>Ql1 R ((i.length+[[D.sl 3 ad.1]].length)*24) ((j.length+[[Ql ad.2.1]].length)*8) (YJ g k l o p q e r s t h u v x d k0 m c (i++[[D.sl 3 ad.1]]) (j++[[Ql ad.2.1]]))else jn (λ(cu:Int)=>(Qc R (Yd n q e r s t h u v g a Tu2) λap=>QkJ R x e ap.1 ap.2 λdb dc dd de df dg dh=>Qc R (Hm n k l o p db dc dd de df dg dh 0 cu Tu3) λae=>Ql1 R ((i.length+[[D.sl 3 ae.1]].length)*24) ((j.length+[[Ql ae.2.1]].length)*8) (YJ g k l o p q e r s t h u v x d k0 m c (i++[[D.sl 3 ae.1]]) (j++[[Ql ae.2.1]])):oP R)) λaq=>Qc R (SB n h g Tu5) λar=>Qc R (pSl 4 d) λdi=>bif decide (a<wJ ((di.length:Int)-1))then Qc R (pSl 4 d) λdj=>QkL R dj a λdn=>Qc R (pSl 4 d) λdp=>Qc R (Qi dp a) λdq=>Qc R dq[3]? λdr=>Qc R (pIw dr) λds=>aq (wJ (dn+ds))else bif ar.2.2.2.2 then Qc R (pSl 4 d) λdt=>Qle R dt a λdw=>QkC R dw ar.2.2.2.1 λdx au=>aq (wJ (dx+(if 60<au then au else 60)))else Qc R (Yd n q e r s t h u v g a Tu2) λav=>QkJ R x e av.1 av.2 λee ef eg eh ei ej ek=>Qc R (Hm n k l o p ee ef eg eh ei ej ek 0 (wJ (ak+60)) Tu3) λag=>Ql1 R ((i.length+[[D.sl 3 ag.1]].length)*24) ((j.length+[[Ql ag.2.1]].length)*8) (YJ g k l o p q e r s t h u v x d k0 m c (i++[[D.sl 3 ag.1]]) (j++[[Ql ag.2.1]]))else k0 a b i j
def UG(c d h5 h6:LL)(h7:Int)(e f a g h i j:LL)(k0:Qlv R):Qlx R
|0,_,_,_=>none
|m+1,h2,k,l=>Qa R (decide (h2<(a.length:Int))) λx=>bif x then QkN R a h2 λb o=>QkY R b λp=>YJ n h2 c d h5 h6 h7 e f a g h i j o p (λu v q r=>UG c d h5 h6 h7 e f a g h i j k0 m (wJ (h2+1)) q r) n 0 k l else k0 h2 x k l
def Rs(a b c d:LL)(e:Int)(f g h i j k l:LL)(K:LL->LL->Int->oP R):oP R:=Qc R (Wg n a b c d e f g h i j k l some) λm=>bif m !=0 then K [] [] 1 else UG n a b c d e f g h i j k l (λq r o p=>K o p 0) n 0 [] []
def Xk(n:Nat)(b c:Int)(k0:Qlm R):Qln R
|0,_,_=>none
|m+1,a,d=>bif decide (a<c)then Qb R [[Ql 1,Ql b,Ql a],[Ql 2,Ql b,Ql a]] λf=>Qc R (Y5 ((d.length+List.length f)*24)) λe=>Xk n b c k0 m (wJ (a+1)) (d++f)else k0 a (decide (a<c)) d
def X3(e:LL)(h2:Int)(k0:Qlv R):Qlx R
|0,_,_,_=>none
|m+1,a,d,b=>bif decide (a<h2)then Ql0 R e a λc=>QkY R c λf=>Qc R (nz 2) λl=>Qb R [[Ql (wJ (Int.tdiv (b.length:Int) 2))]] λr=>Qc R (Y5 ((d.length+r.length)*8)) λo=>Qc R (pSl 4 f) λg=>Xk n a (g.length:Int) (λp q h=>X3 e h2 k0 m (wJ (a+1)) (d++r) h) n 0 b else k0 a (decide (a<h2)) d b
def YH(a b c:LL)(K:LL->LL->oP R):oP R:=X3 n a (a.length:Int) (λf g d e=>K d e) n 0 b c
def XW(n:Nat)(a:LL)(a1 a2:Int)(K:Qlj R):oP R:=QkI R a.length a1 a a1.toNat λc=>K (wJ (c+a2))
def Yk(n:Nat)(f b:LL)(a1 a2 c d e:Int)(K:Qlp R):oP R:=QkG R f a1 λa=>Qb R [[Ql a1,Ql a2,Ql (wJ (a+d)),Ql (wJ (wJ (a+c)+e))]] λj=>Qc R (Y5 ((b.length+j.length)*32)) λi=>K (b++j)
def We(a b:LL)(a1:Int)(K:Qlj R):oP R:=QkP R a a1 λe=>Qc R (XW n b a1 (wJ ((e.length:Int)-1)) some) λf=>K f
def Xv(c:Int)(f:LL)(d:Int)(e g:LL)(k0:Qlm R):Qln R
|0,_,_=>none
|m+1,a,h=>bif decide (a<d)then QkN R f a λb i=>Ql9 R b λj k=>Qc R (XW n e c a some) λl=>Qc R (XW n e c (wJ (a+1)) some) λo=>Ql7 R i j k λi64 p q=>Qc R (Yk n g h l o i64 p q some) λr=>Xv c f d e g k0 m (wJ (a+1)) r else k0 a (decide (a<d)) h
def QP(d:LL)(h2:Int)(e f:LL)(k0:Qlm R):Qln R
|0,_,_=>none
|m+1,a,h5=>bif decide (a<h2)then Ql0 R d a λb=>QkY R b λg=>Qc R (pSl 4 g) λc=>Qc R (pSl 4 g) λi=>Qc R (slB c.length none (some (wJ ((i.length:Int)-1)))) λh=>Xv n a (cut c h) ((List.length (cut c h):Nat):Int) e f (λp q j=>QP d h2 e f k0 m (wJ (a+1)) j) n 0 h5 else k0 a (decide (a<h2)) h5
def Xt(f:LL)(c:Int)(d e g:LL)(k0:Qlm R):Qln R
|0,_,_=>none
|m+1,a,h=>bif decide (a<c)then QkX R f a λi k l o=>Qc R (pIw i) λp=>QkP R e p λj=>Qc R (pIw i) λs=>Qc R (We n e d s some) λt=>Qc R (pIw k) λu=>Qc R (XW n d u 0 some) λv=>Qle R j (wJ ((j.length:Int)-1)) λy=>Ql7 R y l o λz aa ab=>Qc R (Yk n g h t v z aa ab some) λac=>Xt f c d e g k0 m (wJ (a+1)) ac else k0 a (decide (a<c)) h
def YK(a b c d e:LL)(K:Qlp R):oP R:=QP n a (a.length:Int) c d (λh i f=>Xt n b (b.length:Int) c a d (λj k g=>K g) n 0 f) n 0 e
def U7(n:Nat)(h2:LL)(e:Int)(k0:oP R)(k1:Qlr R):Qls R
|0,_,_=>none
|m+1,a,b=>bif decide (b<e)then QkT R h2 b λg h i=>Qc R (pIw g) λc=>Qd R (!(decide (c<=a))) (pIw h) λd=>Qa R (Q8 (decide (c<=a)) (decide (d<(-65536:Int)))) λp=>QkK R h (!p) i λj k=>Qa R (Q8 p (decide (j>=k))) λq=>Qd R (!q) (pIw i) λl=>bif Q8 q (decide (l>65536))then k0 else Qc R (pIw g) λo=>U7 n h2 e k0 k1 m o (wJ (b+1))else k1 a b (decide (b<e))
def Jj(a0:LL)(K:Qlo R):oP R:=U7 n a0 (a0.length:Int) (K false) (λa b c=>K true) n (-1:Int) 0
def Ud(n:Nat)(h2:Int)(c:LL)(a:Int)(k0:oP R)(k1:Qlk R):Qll R
|0,_=>none
|m+1,h5=>bif decide (h5<a)then QkN R c h5 λb d=>Qc R b[2]? λe=>QkC R e d λf g=>bif decide (wJ (f-g)>h2)then k0 else Ud n h2 c a k0 k1 m (wJ (h5+1))else k1 h5 (decide (h5<a))
def HV(a0:Int)(a1:LL)(K:Qlo R):oP R:=Qa R (Q8 (decide (a0<1)) (decide (a0>7200))) λd=>Qd R (!d) (Jj n a1 some) λa=>bif Q8 d (!a)then K false else Ud n a0 a1 (a1.length:Int) (K false) (λb c=>K true) n 0
def Yi(n:Nat)(a b c d e f:Int)(g:Bool)(h:Int)(K:Qlo R):oP R:=K (Q8 g (decide (wJ ((if b<wJ (f+d)then wJ (f+d)else b)-(if wJ (e+c)<a then wJ (e+c)else a))>h)))
def QZ(e:LL)(b f:Int)(c g d:D)(h i j:Int)(k0:Int->Bool->Bool->oP R):Nat->Int->Bool->oP R
|0,_,_=>none
|m+1,a,k=>bif decide (a<b)then QkT R e a λq r s=>QkC R c q λo p=>QkK R r (o==p) d λt u=>bif Q9 (o==p) (decide (wJ (f+t)<=u))then Qc R (pIw c) λab=>QkC R g d λv x=>Qc R (pIw q) λac=>QkC R r s λy z=>Qc R (Yi n v x y z i j k h some) λaa=>QZ e b f c g d h i j k0 m (wJ (a+1)) aa else QZ e b f c g d h i j k0 m (wJ (a+1)) k else k0 a (decide (a<b)) k
def Xx(b:LL)(h5 c d e:Int)(f:LL)(g h:Int)(k0:Int->Bool->Bool->oP R):Nat->Int->Bool->oP R
|0,_,_=>none
|m+1,h6,i=>bif decide (h6<h5)then QkT R b h6 λk l o=>QkV R f c λj=>QZ n j (j.length:Int) d k l o e g h (λs t r=>Xx b h5 c d e f g h k0 m (wJ (h6+1)) r) n 0 i else k0 h6 (decide (h6<h5)) i
def ZY(c:Int)(a:LL)(d e f g h:Int)(i:Bool)(K:Qlo R):oP R:=QkV R a d λb=>Xx n b (b.length:Int) e f c a g h (λm o l=>K l) n 0 i
def XM(b:LL)(h2 c:Int)(k0:oP R)(k1:Qlk R):Qll R
|0,_=>none
|m+1,a=>bif decide (a<h2)then QkV R b a λf=>Qc R (HV n c f some) λg=>bif !g then k0 else XM b h2 c k0 k1 m (wJ (a+1))else k1 a (decide (a<h2))
def Xp(d:LL)(c e:Int)(f:LL)(k0:oP R)(k1:Qlk R):Qll R
|0,_=>none
|m+1,a=>bif decide (a<c)then QkX R d a λg h i j=>Ql7 R g h i λk l o=>QkW R j g (Qc R (pIw h) λu=>QkC R i j λp q=>Qc R (ZY n e f k l o p q false some) λr=>bif r then k0 else Xp d c e f k0 k1 m (wJ (a+1)))else k1 a (decide (a<c))
def ZP(b:Int)(a c:LL)(K:Qlo R):oP R:=XM n a (a.length:Int) b (K false) (λd e=>Xp n c (c.length:Int) b a (K false) (λf g=>K true) n 0) n 0
def Xg(n:Nat)(a:LL)(a1 a2:Int)(K:Qlj R):oP R:=QkI R a.length a1 a a1.toNat λc=>K (wJ (c+a2))
def Yx(n:Nat)(a0:Int)(K:Qlj R):oP R:=K (wJ (2*a0))
def Uy(n:Nat)(a0:Int)(K:Qlj R):oP R:=K (wJ (wJ (2*a0)+1))
def Xr(n:Nat)(a:LL)(a1 a2 b c d e:Int)(K:Qlp R):oP R:=Qb R [[Ql a1,Ql a2,Ql b,Ql c,Ql d,Ql e]] λg=>Qc R (Y5 ((a.length+g.length)*48)) λf=>K (a++g)
def Vb(a b:LL)(a1:Int)(K:Qlj R):oP R:=QkP R a a1 λe=>Qc R (Xg n b a1 (wJ ((e.length:Int)-1)) some) λf=>K f
def QK(f:Int)(g:LL)(c:Int)(d h:D)(i j:LL)(k0:Qlm R):Qln R
|0,_,_=>none
|m+1,a,k=>bif decide (a<c)then QkN R g a λe p=>Ql9 R e λq r=>Qc R (Xg n i f a some) λb=>QkG R j b λl=>Qc R (Yx n b some) λu=>Qc R (Uy n b some) λv=>QkC R p d λx y=>Qc R (Xr n k 1 u v l (wJ (l+x)) y some) λo=>Qc R (pSl 4 h) λz=>bif decide (a<wJ ((z.length:Int)-1))then Qc R (Uy n b some) λaa=>Qc R (Yx n (wJ (b+1)) some) λab=>Ql7 R q r d λac ad ae=>Qc R (Xr n o 2 aa ab ac ad ae some) λag=>QK f g c d h i j k0 m (wJ (a+1)) ag else QK f g c d h i j k0 m (wJ (a+1)) o else k0 a (decide (a<c)) k
def QU(c:LL)(h2:Int)(d e:LL)(k0:Qlm R):Qln R
|0,_,_=>none
|m+1,a,h6=>bif decide (a<h2)then Ql0 R c a λb=>Ql9 R b λh f=>Qc R (pSl 4 f) λg=>QK n a g (g.length:Int) h f d e (λl o i=>QU c h2 d e k0 m (wJ (a+1)) i) n 0 h6 else k0 a (decide (a<h2)) h6
def QW(e:LL)(c:Int)(d:LL)(k0:Qlm R):Qln R
|0,_,_=>none
|m+1,b,f=>bif decide (b<c)then QkE R e b λa g h i=>QkO R a λj k l=>Qc R a[6]? λo=>QkC R g h λp q=>Qc R (Xg n d p q some) λr=>QkC R i j λs t=>Qc R (Xg n d s t some) λu=>Qc R (Uy n r some) λv=>Qc R (Yx n u some) λx=>Ql7 R k l o λy z aa=>Qc R (Xr n f 3 v x y z aa some) λab=>QW e c d k0 m (wJ (b+1)) ab else k0 b (decide (b<c)) f
def QV(e:LL)(c:Int)(d f:LL)(k0:Qlm R):Qln R
|0,_,_=>none
|m+1,a,g=>bif decide (a<c)then QkX R e a λh i j k=>Qc R (pIw h) λl=>Qc R (Vb n f d l some) λo=>Qc R (Uy n o some) λp=>Qc R (pIw i) λq=>Qc R (Xg n d q 0 some) λr=>Qc R (Yx n r some) λs=>QkC R j k λt u=>Qc R (Xr n g 4 p s t u 1 some) λv=>QV e c d f k0 m (wJ (a+1)) v else k0 a (decide (a<c)) g
def QX(e:LL)(c:Int)(d:LL)(k0:Qlm R):Qln R
|0,_,_=>none
|m+1,a,f=>bif decide (a<c)then Ql4 R e a λh i j k g=>QkC R h i λl o=>Qc R (Xg n d l o some) λp=>Qc R (Yx n p some) λq=>QkC R j k λr s=>Qc R (Xg n d r s some) λt=>Qc R (Yx n t some) λu=>Qc R (pIw g) λv=>Qc R (pIw g) λx=>Qc R (Xr n f 5 q u v x 0 some) λy=>QX e c d k0 m (wJ (a+1)) y else k0 a (decide (a<c)) f
def Yz(b c d e a f g:LL)(K:Qlp R):oP R:=QU n b (b.length:Int) a f (λl m h=>QW n c (c.length:Int) a (λo p i=>QV n d (d.length:Int) a b (λq r j=>QX n e (e.length:Int) a (λs t k=>K k) n 0 j) n 0 i) n 0 h) n 0 g
def XH(n:Nat)(a:Int)(b:Int->Bool)(K:(Int->Bool)->oP R):oP R:=K (Q7N b a true)
def Xc(e:LL)(b f:Int)(c g d:D)(k0:QlH R):QlI R
|0,_,_=>none
|m+1,a,h=>bif decide (a<b)then QkT R e a λl o p=>QkC R c l λj k=>QkK R o (j==k) d λq r=>bif Q9 (j==k) (decide (wJ (f+q)<=r))then Qc R (pIw c) λs=>QkW R g d (QkW R l o (Qc R (pIw p) λz=>gb true (XH n s h some) (λ_=>false) λt=>Xc e b f c g d k0 m (wJ (a+1)) t))else Xc e b f c g d k0 m (wJ (a+1)) h else k0 a (decide (a<b)) h
def Xy(b:LL)(h5 c d:Int)(e:LL)(k0:QlH R):QlI R
|0,_,_=>none
|m+1,h6,f=>bif decide (h6<h5)then QkT R b h6 λh i j=>QkV R e c λg=>Xc n g (g.length:Int) d h i j (λp q o=>Xy b h5 c d e k0 m (wJ (h6+1)) o) n 0 f else k0 h6 (decide (h6<h5)) f
def W0(a:LL)(c d e:Int)(f:Int->Bool)(K:(Int->Bool)->oP R):oP R:=QkV R a c λb=>Xy n b (b.length:Int) d e a (λj k i=>K i) n 0 f
def QM(a h2:Int)(e:LL)(b:Int)(f:LL)(k0:QlH R):QlI R
|0,_,_=>none
|m+1,h5,h6=>bif decide (h5<b)then QkX R e h5 λg h k l=>Qc R (pIw g) λd=>Qd R (d==a) (pIw h) λi=>Qa R (Q9 (d==a) (i==h2)) λu=>Qd R (!u) (pIw g) λj=>Qd R (!u&&j==h2) (pIw h) λo=>bif Q8 u (Q9 (j==h2) (o==a))then Ql7 R g h k λp q r=>Qc R (pIw l) λt=>gb true (W0 n f p q r h6 some) (λ_=>false) λs=>QM a h2 e b f k0 m (wJ (h5+1)) s else QM a h2 e b f k0 m (wJ (h5+1)) h6 else k0 h5 (decide (h5<b)) h6
def Ya(b a:LL)(a1 a2:Int)(K:(Int->Bool)->oP R):oP R:=QM n a1 a2 a (a.length:Int) b (λd e c=>K c) n 0 λ_=>false
def Yc(n:Nat)(c:LL)(h2:Int)(h5:Int->Bool)(k0:Qlm R):Qln R
|0,_,_=>none
|m+1,a,b=>bif decide (a<h2)then QkT R c a λe f g=>Qc R (pIw e) λh=>bif !(h5 h)then Qc R (Y5 ((b.length+[[e,f,g]].length)*24)) λi=>Yc n c h2 h5 k0 m (wJ (a+1)) (b++[[e,f,g]])else Yc n c h2 h5 k0 m (wJ (a+1)) b else k0 a (decide (a<h2)) b
def Un(a0:LL)(a:Int->Bool)(K:LL->(Int->Bool)->oP R):oP R:=Yc n a0 (a0.length:Int) a (λc d b=>K b a) n 0 []
def UQ(n:Nat)(a0:Int)(K:Qlo R):oP R:=K (Q9 (decide (a0>=1)) (decide (a0<=7200)))
def Ha(n:Nat)(a0 a1:Int)(K:Qlj R):oP R:=bif decide (a1<1)then K 0 else Qc R (nz a1) λa=>Qb R (Int.tmod a0 a1) λb=>bif decide (b<0)then K (wJ (b+a1))else K b
def Jp(n:Nat)(a1 a2 a:Int)(K:Qlp R):oP R:=bif decide (a<1)then K []else bif decide (a>=a1)then Qc R (Y5 ([[Ql 0,Ql a1]].length*16)) λb=>K [[Ql 0,Ql a1]]else Qb R (wJ (a2+a)) λf=>bif decide (f<=a1)then Qc R (Y5 ([[Ql a2,Ql f]].length*16)) λc=>K [[Ql a2,Ql f]]else Qb R [[Ql 0,Ql (wJ (f-a1))],[Ql a2,Ql a1]] λe=>Qc R (Y5 (List.length e*16)) λd=>K e
def P1(a0 a1 a2:Int)(K:Qlt R):oP R:=Qc R (UQ n a0 some) λa=>bif !a then K [] 4 else Qc R (Ha n a1 a0 some) λb=>Qc R (Jp n a0 b a2 some) λc=>K c 0
def Ua(n:Nat)(h2:Int)(d:LL)(h5:Int)(k0:oP R)(k1:Qlr R):Qls R
|0,_,_=>none
|m+1,a,h6=>bif decide (h6<h5)then QkQ R d h6 λf c=>Qc R (pIw f) λb=>Qa R (decide (b<=a)) λk=>QkK R f (!k) c λg h=>Qa R (Q8 k (decide (g>=h))) λl=>Qd R (!l) (pIw c) λi=>bif Q8 l (decide (i>h2))then k0 else Qc R (pIw c) λj=>Ua n h2 d h5 k0 k1 m j (wJ (h6+1))else k1 a h6 (decide (h6<h5))
def Gs(a0:Int)(a1:LL)(K:Qlo R):oP R:=Qc R (UQ n a0 some) λa=>bif !a then K false else Ua n a0 a1 (a1.length:Int) (K false) (λb c d=>K true) n (-1:Int) 0
def U3(h2:Int)(b:LL)(a:Int)(k0:oP R)(k1:Qlk R):Qll R
|0,_=>none
|m+1,h5=>bif decide (h5<a)then Qld R b h5 λd=>Qc R (Gs n h2 d some) λe=>bif !e then k0 else U3 h2 b a k0 k1 m (wJ (h5+1))else k1 h5 (decide (h5<a))
def HZ(a0:Int)(a1:LL)(K:Qlj R):oP R:=Qc R (UQ n a0 some) λa=>bif !a then K 4 else U3 n a0 a1 (a1.length:Int) (K 1) (λb c=>K 0) n 0
def QT(n:Nat)(a1:Int)(K:Qlp R):oP R:=bif decide (a1<0)then none else Qb R (wJ (a1-wJ (0-0))) λd=>bif decide (d>0)then Qc R (slB 0 none (some 0)) λa=>gb true (bif decide (0<d)then some ()else none) () λb=>Qc R (Y5 (Int.toNat d*16)) λc=>K []else K []
def Qv(n:Nat)(b:LL)(a:Int)(k0:Qlr R):Qls R
|0,_,_=>none
|m+1,h2,h5=>bif decide (h5<a)then Qld R b h5 λc=>Qb R (wJ (h2+(c.length:Int))) λf=>bif decide (f<0)then none else Qv n b a k0 m f (wJ (h5+1))else k0 h2 h5 (decide (h5<a))
def Qw(n:Nat)(d:LL)(b:Int)(k0:Qlm R):Qln R
|0,_,_=>none
|m+1,a,c=>bif decide (a<b)then Qld R d a λe=>Qc R (Y5 ((c.length+e.length)*16)) λh=>Qw n d b k0 m (wJ (a+1)) (c++e)else k0 a (decide (a<b)) c
def X0(a0:LL)(K:Qlp R):oP R:=Qv n a0 (a0.length:Int) (λa d e=>Qc R (QT n a some) λb=>Qw n a0 (a0.length:Int) (λf g c=>K c) n 0 b) n 0 0
def Mo(n:Nat)(a0:Int)(K:Qlj R):oP R:=bif decide (a0>=65536)then Qc R (Ab 16) λe=>bif decide (shR .u32 a0 16>=256)then Qc R (Ab 8) λf=>Qc R (Zj Qku (IntKind.wrap .u8 (shR .u32 (shR .u32 a0 16) 8))) λa=>K (wJ (wJ (16+8)+wJ a))else Qc R (Zj Qku (IntKind.wrap .u8 (shR .u32 a0 16))) λb=>K (wJ (16+wJ b))else bif decide (a0>=256)then Qc R (Ab 8) λg=>Qc R (Zj Qku (IntKind.wrap .u8 (shR .u32 a0 8))) λc=>K (wJ (wJ (0+8)+wJ c))else Qc R (Zj Qku (IntKind.wrap .u8 a0)) λd=>K (wJ (0+wJ d))
def NK(n:Nat)(a0:Int)(K:Qlj R):oP R:=bif decide (a0>=4294967296)then Qc R (Ab 32) λi=>bif decide (shR .u64 a0 32>=65536)then Qc R (Ab 16) λj=>bif decide (shR .u64 (shR .u64 a0 32) 16>=256)then Qc R (Ab 8) λk=>Qc R (Zj Qku (IntKind.wrap .u8 (shR .u64 (shR .u64 (shR .u64 a0 32) 16) 8))) λa=>K (wJ (wJ (wJ (32+16)+8)+wJ a))else Qc R (Zj Qku (IntKind.wrap .u8 (shR .u64 (shR .u64 a0 32) 16))) λb=>K (wJ (wJ (32+16)+wJ b))else bif decide (shR .u64 a0 32>=256)then Qc R (Ab 8) λl=>Qc R (Zj Qku (IntKind.wrap .u8 (shR .u64 (shR .u64 a0 32) 8))) λc=>K (wJ (wJ (32+8)+wJ c))else Qc R (Zj Qku (IntKind.wrap .u8 (shR .u64 a0 32))) λd=>K (wJ (32+wJ d))else bif decide (a0>=65536)then Qc R (Ab 16) λm=>bif decide (shR .u64 a0 16>=256)then Qc R (Ab 8) λo=>Qc R (Zj Qku (IntKind.wrap .u8 (shR .u64 (shR .u64 a0 16) 8))) λe=>K (wJ (wJ (wJ (0+16)+8)+wJ e))else Qc R (Zj Qku (IntKind.wrap .u8 (shR .u64 a0 16))) λf=>K (wJ (wJ (0+16)+wJ f))else bif decide (a0>=256)then Qc R (Ab 8) λp=>Qc R (Zj Qku (IntKind.wrap .u8 (shR .u64 a0 8))) λg=>K (wJ (wJ (0+8)+wJ g))else Qc R (Zj Qku (IntKind.wrap .u8 a0)) λh=>K (wJ (0+wJ h))
def SP(a0:Int)(K:Qlj R):oP R:=bif false then Qc R (Mo n (IntKind.wrap .u32 a0) some) λa=>K a else Qc R (NK n a0 some) λb=>K b
def GC(n:Nat)(a0:Int)(K:Qlo R):oP R:=K (a0 !=a0)
def GQ(a0 a1:Int)(K:Qlj R):oP R:=Qc R (GC n a0 some) λb=>Qc R (GC n a1 some) λa=>bif b then bif a then K 0 else K (-1:Int)else bif a then K 1 else bif decide (a0<a1)then K (-1:Int)else bif decide (a0>a1)then K 1 else K 0
def UR(a d b e:Int)(K:Qlj R):oP R:=Qc R (GQ n a b some) λc=>K c
def Qx(h5:Int)(k0:Qlm R):Qln R
|0,_,_=>none
|m+1,a,b=>Qa R (decide (a>h5)) λae=>Qd R ae (inB b.length a) λy=>Qd R ae b[a.toNat]? λf=>Qd R ae f[0]? λk=>Qd R ae f[1]? λl=>Qb R (wJ (a-1)) λai=>Qd R ae (inB b.length ai) λz=>Qb R (Int.toNat ai) λaj=>Qd R ae b[aj]? λg=>Qd R ae g[0]? λo=>Qd R ae g[1]? λp=>QkK R k ae l λq r=>QkK R o ae p λs t=>Qd R ae (UR n q r s t some) λh=>Qa R (Q9 ae (decide (h<0))) λag=>bif ag then QkF R b.length ai b aj λi=>Qc R i[0]? λc=>Qc R i[1]? λd=>QkF R b.length a b a.toNat λj=>Qc R j[0]? λu=>Qc R j[1]? λv=>QkF R b.length a b a.toNat λe=>Qb R (List.set b a.toNat (List.set (List.set e 0 c) 1 d)) λah=>QkF R (List.length ah) ai ah aj λx=>Qx h5 k0 m ai (List.set ah aj (List.set (List.set x 0 u) 1 v))else k0 a ag b
def Qn(b h2:Int)(k0:Qlm R):Qln R
|0,_,_=>none
|m+1,a,c=>bif decide (a<h2)then Qx n b (λe f d=>Qn b h2 k0 m (wJ (a+1)) d) n a c else k0 a (decide (a<h2)) c
def XB(a:LL)(a1 a2:Int)(K:Qlp R):oP R:=Qn n a1 a2 (λc d b=>K b) n (wJ (a1+1)) a
def XN(a h2 c:Int)(h6:LL)(k0:Qlp R):Nat->oP R
|0=>none
|m+1=>bif decide (wJ (h2-a)<=12)then Qc R (XB n h6 a h2 some) λb=>Qc R (SY b h6.length) λd=>k0 b else bif c==0 then none else bif !true then none else none
def XY(a:LL)(a1 a2 b:Int)(K:Qlp R):oP R:=XN n a1 a2 b a (λc=>K c) n
def QN(a:LL)(K:Qlp R):oP R:=Qc R (SP n (IntKind.wrap .u64 (a.length:Int)) some) λc=>Qc R (XY n a 0 (a.length:Int) c some) λb=>Qc R (SY b a.length) λd=>K b
def Xo(n:Nat)(b:Int)(h6:LL)(k0:Qlm R):Qln R
|0,_,_=>none
|m+1,a,h5=>bif decide (a<b)then QkF R h6.length a h6 a.toNat λe=>Qc R e[0]? λc=>Qc R e[1]? λd=>Qb R (wJ ((h5.length:Int)-1)) λx=>Qa R (decide (x>=0)) λv=>Qd R v (pIw c) λh=>Qd R v (inB h5.length x) λr=>Qb R (Int.toNat x) λy=>Qd R v h5[y]? λi=>Qd R v i[1]? λj=>Qd R v (pIw j) λk=>bif Q9 v (decide (h<=k))then QkF R h5.length x h5 y λl=>Qc R l[1]? λo=>QkC R o d λf g=>QkF R h5.length x h5 y λp=>Xo n b h6 k0 m (wJ (a+1)) (List.set h5 y (List.set p 1 (Ql (if f<g then g else f))))else Qc R (Y5 ((h5.length+[[c,d]].length)*16)) λu=>Xo n b h6 k0 m (wJ (a+1)) (h5++[[c,d]])else k0 a (decide (a<b)) h5
def HD(b:LL)(K:LL->LL->oP R):oP R:=Qc R (QN n b some) λa=>Qc R (SY a b.length) λd=>Xo n (a.length:Int) a (λe f c=>K c a) n 0 []
def T6(a0:Int)(a1 a2:LL)(K:Qlt R):oP R:=Qb R [[D.sl 2 a1],[D.sl 2 a2]] λd=>Qc R (HZ n a0 d some) λa=>bif a !=0 then K [] a else Qc R (X0 n d some) λb=>Qc R (L8 [b]) λe=>gb true (HD n b Tu2) ([],[]) λc=>Qc R (SY c.2 b.length) λf=>K c.1 0
def Zb(c g h d e:Int)(i:LL)(K:Qlp R):oP R:=Qc R (P1 n e (wJ (wJ (c-d)+1)) (wJ (wJ (wJ (wJ (g-h)-1)-wJ (wJ (c-d)+1))+1)) Tu2) λa=>Qc R (T6 n e i a.1 Tu2) λf=>Qc R (L8 [f.1]) λj=>K f.1
def QH(b:Int)(k0:LL->LL->Bool->LL->oP R):Nat->LL->LL->LL->oP R
|0,_,_,_=>none
|m+1,a,h2,d=>Qa R (Q9 (decide ((a.length:Int)>0)) (decide ((h2.length:Int)>0))) λao=>bif ao then QkT R a 0 λc6 j k=>QkT R h2 0 λc aq l=>QkC R c6 c λo p=>bif o==p then Qc R (pIw c6) λam=>QkC R j k λq r=>Qc R (pIw c) λan=>QkC R aq l λs t=>Qc R (Zb n q r s t b d some) λe=>QkC R c6 c λu v=>bif decide (u<=v)then Qc R (slB a.length (some 1) none) λh=>QkC R c6 c λx y=>bif decide (x>=y)then Qc R (slB h2.length (some 1) none) λz=>QH b k0 m (cut a h) (cut h2 z) e else QH b k0 m (cut a h) h2 e else QkC R c6 c λaa ab=>bif decide (aa>=ab)then Qc R (slB h2.length (some 1) none) λac=>QH b k0 m a (cut h2 ac) e else QH b k0 m a h2 e else QkC R c6 c λad ae=>bif decide (ad<=ae)then Qc R (slB a.length (some 1) none) λi=>QkC R c6 c λag ah=>bif decide (ag>=ah)then Qc R (slB h2.length (some 1) none) λai=>QH b k0 m (cut a i) (cut h2 ai) d else QH b k0 m (cut a i) h2 d else QkC R c6 c λaj ak=>bif decide (aj>=ak)then Qc R (slB h2.length (some 1) none) λal=>QH b k0 m a (cut h2 al) d else QH b k0 m a h2 d else k0 a h2 ao d
def KK(a0 a1:LL)(a:Int)(b:LL)(K:Qlp R):oP R:=QH n a (λd e f c=>K c) n a0 a1 b
def Jh(a0:Int)(a1 a2:LL)(K:Qlt R):oP R:=jn (λ(d:Bool)=>(bif d then K [] 4 else jn (λ(e:Bool)=>(bif e then K [] 1 else Qc R (KK n a1 a2 a0 [] some) λf=>K f 0:oP R)) λa=>Qc R (Jj n a1 some) λb=>bif !b then a (!b)else Qc R (Jj n a2 some) λg=>a (!g):oP R)) λc=>bif decide (a0<1)then c (decide (a0<1))else c (decide (a0>7200))
def PD(n:Nat)(a b:Int)(K:Qlj R):oP R:=K (wJ (b-a))
def ZV(h2:LL)(b:Int)(k0:Qlr R):Qls R
|0,_,_=>none
|m+1,c,a=>bif decide (a<b)then QkQ R h2 a λe f=>QkC R e f λg h=>Qc R (PD n g h some) λi=>ZV h2 b k0 m (wJ (c+i)) (wJ (a+1))else k0 c a (decide (a<b))
def Rb(a0:LL)(K:Qlj R):oP R:=ZV n a0 (a0.length:Int) (λa b c=>K a) n 0 0
def Tb(a0:Int)(a1:LL)(K:Qlj R):oP R:=Qc R (Gs n a0 a1 some) λa=>bif !a then K 0 else Qc R (Rb n a1 some) λb=>K b
def ZD(n:Nat)(b:Int)(e:LL)(c:Int)(k0:Qlm R):Qln R
|0,_,_=>none
|m+1,a,d=>bif decide (a<c)then QkQ R e a λi j=>QkC R j i λg h=>Qb R [[Ql g,Ql (wJ (wJ (h+b)-1))]] λl=>Qc R (Y5 ((d.length+l.length)*16)) λk=>ZD n b e c k0 m (wJ (a+1)) (d++l)else k0 a (decide (a<c)) d
def YM(n:Nat)(b c:Int)(d:LL)(k0:Qlm R):Qln R
|0,_,_=>none
|m+1,a,e=>bif decide (a<c)then QkF R d.length a d a.toNat λf=>Qc R f[0]? λi=>Qc R f[1]? λj=>QkC R j i λg h=>Qb R [[Ql g,Ql (wJ (wJ (h+b)-1))]] λo=>Qc R (Y5 ((e.length+o.length)*16)) λl=>YM n b c d k0 m (wJ (a+1)) (e++o)else k0 a (decide (a<c)) e
def WL(a0:Int)(a1 a2:LL)(K:Qlt R):oP R:=Qc R (Jh n a0 a1 a2 Tu2) λa=>bif a.2 !=0 then K [] a.2 else Qc R (Tb n a0 a.1 some) λh=>bif h==a0 then K [] 13 else Qb R (a.1.length:Int) λai=>Qa R (decide (ai>1)) λg=>Ql6 R a.1.length 0 g a.1 (Int.toNat 0) λc5=>Qd R g (pIw c5) λb=>Qa R (Q9 g (b==0)) λad=>Qb R (wJ (ai-1)) λae=>Qd R ad (inB a.1.length ae) λu=>Qb R (Int.toNat ae) λah=>Qd R ad a.1[ah]? λj=>Qd R ad j[1]? λk=>Qd R ad (pIw k) λl=>bif Q9 ad (l==a0)then QkZ R a.1.length ae a.1 ah λc=>QkZ R a.1.length 0 a.1 (Int.toNat 0) λd=>QkF R a.1.length ae a.1 ah λe=>Qb R (List.set a.1 ah (List.set e 1 (Ql (wJ (c+d))))) λag=>Qc R (slB (List.length ag) (some 1) none) λf=>ZD n a0 (cut ag f) ((List.length (cut ag f):Nat):Int) (λz aa r=>K r 0) n 0 []else YM n a0 ai a.1 (λab ac s=>K s 0) n 0 []
def QQ(c d:Int)(e:LL)(b:Int)(k0:Qlm R):Qln R
|0,_,_=>none
|m+1,a,f=>bif decide (a<b)then QkQ R e a λh i=>Qc R (Yx n c some) λj=>Qc R (Yx n d some) λk=>QkC R h i λl o=>Qc R (Xr n f 6 j k l o 0 some) λp=>QQ c d e b k0 m (wJ (a+1)) p else k0 a (decide (a<b)) f
def X7(e h:Int)(b i:LL)(k0:Qlu R)(k1:Qlm R):Qln R
|0,_,_=>none
|m+1,a,g=>Qa R (decide (a<(b.length:Int))) λc=>bif c then gb true (Ya n b i e a some) (λ_=>false) λk=>QkV R b e λp=>gb true (Un n p k Tu2) ([],λ_=>false) λj=>QkV R b a λs=>gb true (Un n s j.2 Tu2) ([],λ_=>false) λt=>Qc R (WL n h j.1 t.1 Tu2) λf=>bif f.2 !=0 then k0 f.2 g else QQ n e a f.1 (f.1.length:Int) (λv x u=>X7 e h b i k0 k1 m (wJ (a+1)) u) n 0 g else k1 a c g
def QI(a b:Int)(c d:LL)(k0:Qlu R)(k1:Qlm R):Qln R
|0,_,_=>none
|m+1,h2,h5=>bif decide (h2<a)then X7 n h2 b c d (λe f=>k0 e f) (λh i g=>QI a b c d k0 k1 m (wJ (h2+1)) g) n (wJ (h2+1)) h5 else k1 h2 (decide (h2<a)) h5
def Yq(b:Int)(a c d:LL)(K:Qlu R):oP R:=QI n (a.length:Int) b a c (λe f=>K e f) (λh i g=>K 0 g) n 0 d
def Eg(n:Nat)(a0 a1:Int)(K:Qlj R):oP R:=bif decide (a1<1)then K 0 else Qc R (nz a1) λa=>Qb R (Int.tmod a0 a1) λb=>bif decide (b<0)then K (wJ (b+a1))else K b
def Z3(n:Nat)(d:LL)(k0:oP R)(k1:Qlk R):Qll R
|0,_=>none
|m+1,h2=>Qa R (decide (h2<(d.length:Int))) λad=>bif ad then QkG R d h2 λa=>Qa R (!(decide (a<0))&&decide (h2>0)) λab=>Qlc R d h2 ab λb=>Qlc R d (wJ (h2-1)) ab λc=>Qa R (Q8 (decide (a<0)) (Q9 (decide (h2>0)) (decide (b<=c)))) λaa=>Ql3 R d h2 (!aa) λe=>Qa R (Q8 aa (decide (e<(-65536:Int)))) λz=>Qd R (!z) (Qi d h2) λq=>Qd R (!z) q[2]? λr=>Qd R (!z) (pIw r) λf=>Qa R (Q8 z (decide (f>65536))) λac=>Ql3 R d h2 (!ac) λu=>Qd R (!ac) (Qi d h2) λv=>Qd R (!ac) v[2]? λx=>Qd R (!ac) (pIw x) λy=>bif Q8 ac (decide (u>=y))then k0 else Z3 n d k0 k1 m (wJ (h2+1))else k1 h2 ad
def JF(a0:LL)(K:Qlo R):oP R:=Z3 n a0 (K false) (λa b=>K true) n 0
def Up(n:Nat)(b:LL)(h2:Int)(k0:D->D->D->oP R)(k1:Qlk R):Qll R
|0,_=>none
|m+1,a=>Qa R (decide (a<(b.length:Int))) λj=>bif j then QkG R b a λf=>bif f==h2 then QkT R b a λg h i=>k0 g h i else Up n b h2 k0 k1 m (wJ (a+1))else k1 a j
def Ap(a0:LL)(a1:Int)(K:D->D->D->Bool->oP R):oP R:=Up n a0 a1 (λa b c=>K a b c true) (λd e=>K (Ql 0) (Ql 0) (Ql 0) false) n 0
def Zd(b:Int)(f:LL)(g d:Int)(h:D)(k0:Qlm R):Qln R
|0,_,_=>none
|m+1,a,c=>Qa R (Q9 (decide (a<d)) (decide (a<b))) λq=>bif q then Qle R f g λj=>QkC R j h λk l=>Qc R (Eg n (wJ (wJ (wJ (k-l)+1)+a)) b some) λe=>QkF R c.length e c e.toNat λo=>Zd b f g d h k0 m (wJ (a+1)) (List.set c e.toNat (List.set o 0 (D.bool true)))else k0 a q c
def Yg(h6:Int)(h7 c:LL)(k0:Qlm R):Qln R
|0,_,_=>none
|m+1,a,d=>Qa R (decide (a<(h7.length:Int))) λh=>bif h then QkG R h7 a λg=>gb true (Ap n c g Tu4) (.bool false,.bool false,.bool false,false) λb=>bif !b.2.2.2 then Yg h6 h7 c k0 m (wJ (a+1)) d else Ql8 R h7 a λp=>Qle R h7 a λr=>Ql7 R r b.2.2.1 b.2.1 λs t u=>Zd n h6 h7 a (wJ (wJ (wJ (wJ (p-s)+t)-u)-1)) b.2.2.1 (λx y v=>Yg h6 h7 c k0 m (wJ (a+1)) v) n 0 d else k0 a h d
def KT(a0:Int)(a1 a2:LL)(K:Qlt R):oP R:=Qc R (VI n a0 1 7200 some) λb=>bif !b then K [] 4 else Qc R (JF n a1 some) λa=>Qd R (!(!a)) (JF n a2 some) λc=>bif Q8 (!a) (!c)then K [] 1 else gb true (bif decide (0<=a0)&&decide (a0<=a0)then some ()else none) () λe=>Qc R (Y5 (Int.toNat a0*1)) λf=>Yg n a0 a1 a2 (λg h d=>K d 0) n 0 (List.replicate a0.toNat [D.bool false])
def WE(n:Nat)(h2:Int)(a:LL)(k0:Qlr R):Qls R
|0,_,_=>none
|m+1,b,h5=>bif decide (h5<h2)then QkD R a h5 λd=>Qc R (PB d) λe=>bif e then WE n h2 a k0 m (wJ (b+1)) (wJ (h5+1))else WE n h2 a k0 m b (wJ (h5+1))else k0 b h5 (decide (h5<h2))
def WN(n:Nat)(a:Int)(c:LL)(d:Int)(k0:Qlk R):Qll R
|0,_=>none
|m+1,b=>Qc R (nz a) λh=>QkD R c (Int.tmod (wJ (d+b)) a) λg=>Qc R (PB g) λe=>bif e then WN n a c d k0 m (wJ (b+1))else k0 b e
def Yv(b:Int)(c:LL)(k0:Qlm R):Qln R
|0,_,_=>none
|m+1,a,e=>bif decide (a<b)then QkD R c a λh=>Qc R (PB h) λd=>Qd R (!(!d)) (Eg n (wJ (a-1)) b some) λi=>Qd R (!(!d)) (Qi c i) λj=>Qd R (!(!d)) j[0]? λk=>Qd R (!(!d)) (PB k) λl=>bif Q8 (!d) l then Yv b c k0 m (wJ (a+1)) e else WN n b c a (λf o=>Qb R [[Ql (wJ (a+f)),Ql (wJ (wJ (a+b)-1))]] λq=>Qc R (Y5 ((e.length+q.length)*16)) λp=>Yv b c k0 m (wJ (a+1)) (e++q)) n 0 else k0 a (decide (a<b)) e
def H7(a0:Int)(a1 a2:LL)(K:Qlt R):oP R:=Qc R (KT n a0 a1 a2 Tu2) λa=>bif a.2 !=0 then K [] a.2 else WE n a0 a.1 (λc e f=>bif c==a0 then K [] 13 else Yv n a0 a.1 (λg h d=>K d 0) n 0 []) n 0 0
def Ji(n:Nat)(b:Int)(a:LL)(k0:oP R)(k1:Qlk R):Qll R
|0,_=>none
|m+1,h5=>Qa R (decide (h5<(a.length:Int))) λi=>bif i then Ql8 R a h5 λe=>QkL R a h5 λh=>bif decide (wJ (e-h)>b)then k0 else Ji n b a k0 k1 m (wJ (h5+1))else k1 h5 i
def ML(a0:Int)(a1:LL)(K:Qlo R):oP R:=Qc R (VI n a0 1 7200 some) λa=>Qd R (!(!a)) (JF n a1 some) λb=>bif Q8 (!a) (!b)then K false else Ji n a0 a1 (K false) (λc d=>K true) n 0
def Jk(n:Nat)(b:Int)(h7:LL)(k0:Qlr R):Qls R
|0,_,_=>none
|m+1,h2,a=>bif decide (a<b)then QkP R h7 a λe=>Jk n b h7 k0 m (wJ (h2+(e.length:Int))) (wJ (a+1))else k0 h2 a (decide (a<b))
def U2(a:LL)(a1:Int)(K:Qlj R):oP R:=Jk n a1 a (λb c d=>K b) n 0 0
def Wj(c:LL)(f:Int)(g h:LL)(d:D)(k0:Qlm R):Qln R
|0,_,_=>none
|m+1,a,e=>Qc R (pSl 4 d) λk=>Qa R (decide (a<(k.length:Int))) λaj=>bif aj then Qc R (U2 n g f some) λb=>Qc R (pSl 4 d) λaa=>QkN R aa a λi l=>Ql9 R i λab ac=>Qc R (pSl 4 d) λad=>Qb R (wJ (b+a)) λak=>bif decide (a<wJ ((ad.length:Int)-1))then QkD R c ak λag=>QkC R ag ab λo p=>QkD R c ak λai=>Ql7 R ai l ac λq r s=>Qb R [[Ql ak,Ql (wJ (ak+1)),Ql (wJ (o+p)),Ql (wJ (wJ (q+r)+s))]] λal=>Qc R (Y5 ((e.length+al.length)*32)) λaw=>Wj c f g h d k0 m (wJ (a+1)) (e++al)else Qc R (SB n h f Tu5) λj=>bif j.2.2.2.2 then Qc R (pIw j.2.1) λao=>Qc R (U2 n g ao some) λt=>QkD R c ak λaq=>QkC R aq j.2.2.1 λu v=>QkD R c ak λau=>Ql7 R au l j.2.2.2.1 λx y z=>Qb R [[Ql ak,Ql t,Ql (wJ (u+v)),Ql (wJ (wJ (x+y)+z))]] λam=>Qc R (Y5 ((e.length+am.length)*32)) λa6=>Wj c f g h d k0 m (wJ (a+1)) (e++am)else Wj c f g h d k0 m (wJ (a+1)) e else k0 a aj e
def Us(b h6 c:LL)(k0:Qlm R):Qln R
|0,_,_=>none
|m+1,h2,d=>Qa R (decide (h2<(h6.length:Int))) λl=>bif l then Ql0 R h6 h2 λa=>QkY R a λe=>Wj n b h2 h6 c e (λj k f=>Us b h6 c k0 m (wJ (h2+1)) f) n 0 d else k0 h2 l d
def R0(a b a1:LL)(K:Qlp R):oP R:=Us n a1 a b (λd e c=>K c) n 0 []
def Z2(n:Nat)(b:LL)(h2:Int)(k0:D->D->D->oP R)(k1:Qlk R):Qll R
|0,_=>none
|m+1,a=>Qa R (decide (a<(b.length:Int))) λj=>bif j then QkG R b a λf=>bif f==h2 then QkT R b a λg h i=>k0 g h i else Z2 n b h2 k0 k1 m (wJ (a+1))else k1 a j
def Vs(a0:LL)(a1:Int)(K:D->D->D->Bool->oP R):oP R:=Z2 n a0 a1 (λa b c=>K a b c true) (λd e=>K (Ql 0) (Ql 0) (Ql 0) false) n 0
def PS(a0:LL)(g h i a2:Int)(K:D->D->D->D->D->D->Bool->oP R):oP R:=QkV R a0 g λk=>gb true (Vs n k a2 Tu4) (.bool false,.bool false,.bool false,false) λa=>QkV R a0 h λm=>gb true (Vs n m a2 Tu4) (.bool false,.bool false,.bool false,false) λb=>Qa R (Q9 a.2.2.2 b.2.2.2) λd=>QkK R b.2.1 d a.2.2.1 λo p=>K a.1 a.2.1 a.2.2.1 b.1 b.2.1 b.2.2.1 (Q9 d (decide (wJ (i+o)<=p)))
def UE(b:LL)(h2 c h5 h6 h7:Int)(k0:oP R)(k1:Qlk R):Qll R
|0,_=>none
|m+1,a=>QkV R b c λl24=>Qa R (decide (a<(l24.length:Int))) λs=>bif s then QkV R b c λo=>QkG R o a λr=>Qc R (PS n b c h5 h6 r Tu7) λd=>bif d.2.2.2.2.2.2 then Ql2 R d.2.2.1 d.2.2.2.2.2.1 d.2.1 d.2.2.2.2.1 λe f g h=>bif decide (wJ ((if e<wJ (h7+f)then wJ (h7+f)else e)-(if wJ (h6+h)<g then wJ (h6+h)else g))>h2)then k0 else UE b h2 c h5 h6 h7 k0 k1 m (wJ (a+1))else UE b h2 c h5 h6 h7 k0 k1 m (wJ (a+1))else k1 a s
def RH(a0:LL)(a b c d a2:Int)(K:Qlo R):oP R:=UE n a0 a2 a b c d (K false) (λe f=>K true) n 0
def Uz(e:LL)(l:Int)(o:LL)(f c:D)(k0:Qlm R):Qln R
|0,_,_=>none
|m+1,a,d=>Qc R (pSl 4 c) λp=>Qa R (decide (a<(p.length:Int))) λah=>bif ah then Qc R (U2 n o l some) λb=>Qc R (pSl 4 c) λt=>QkN R t a λg u=>Ql9 R g λv x=>QkG R e (wJ (b+a)) λh=>QkD R e (wJ (b+a)) λab=>Ql7 R ab u f λi j k=>Qb R (wJ (2*wJ (b+a))) λaj=>Qb R [[Ql 1,Ql aj,Ql (wJ (aj+1)),Ql h,Ql (wJ (i+j)),Ql k]] λai=>Qc R (Y5 ((d.length+ai.length)*48)) λae=>Qc R (pSl 4 c) λac=>bif decide (a<wJ ((ac.length:Int)-1))then Ql7 R v x f λq r s=>Qb R [[Ql 2,Ql (wJ (aj+1)),Ql (wJ (aj+2)),Ql q,Ql r,Ql s]] λak=>Qc R (Y5 ((List.length (d++ai)+ak.length)*48)) λag=>Uz e l o f c k0 m (wJ (a+1)) (d++ai++ak)else Uz e l o f c k0 m (wJ (a+1)) (d++ai)else k0 a ah d
def Uw(b h6:LL)(k0:Qlm R):Qln R
|0,_,_=>none
|m+1,h2,c=>Qa R (decide (h2<(h6.length:Int))) λk=>bif k then Ql0 R h6 h2 λa=>Ql9 R a λd e=>Uz n b h2 h6 d e (λi j f=>Uw b h6 k0 m (wJ (h2+1)) f) n 0 c else k0 h2 k c
def SV(a a1:LL)(K:Qlp R):oP R:=Uw n a1 a (λc d b=>K b) n 0 []
def Ux(h5 h6:LL)(k0:Qlm R):Qln R
|0,_,_=>none
|m+1,b,c=>Qa R (decide (b<(h6.length:Int))) λx=>bif x then QkE R h6 b λa k l o=>QkO R a λp q r=>Qc R a[6]? λs=>Qc R (pIw k) λt=>Qc R (U2 n h5 t some) λd=>QkC R l o λe u=>Qc R (U2 n h5 u some) λf=>Ql2 R p q r s λg h i j=>Qb R [[Ql 3,Ql (wJ (wJ (2*wJ (d+e))+1)),Ql (wJ (2*wJ (f+g))),Ql h,Ql i,Ql j]] λy=>Qc R (Y5 ((c.length+y.length)*48)) λv=>Ux h5 h6 k0 m (wJ (b+1)) (c++y)else k0 b x c
def Wh(b c:LL)(k0:Qlm R):Qln R
|0,_,_=>none
|m+1,a,e=>Qa R (decide (a<(c.length:Int))) λx=>bif x then QkX R c a λf l o p=>Qc R (pIw f) λq=>Qc R (U2 n b q some) λg=>Qc R (pIw f) λr=>QkP R b r λh=>Qc R (pIw l) λu=>Qc R (U2 n b u some) λi=>QkC R o p λj k=>Qb R [[Ql 4,Ql (wJ (wJ (2*wJ (g+(h.length:Int)))-1)),Ql (wJ (2*i)),Ql j,Ql k,Ql 1]] λy=>Qc R (Y5 ((e.length+y.length)*48)) λv=>Wh b c k0 m (wJ (a+1)) (e++y)else k0 a x e
def Zm(d c:LL)(k0:Qlm R):Qln R
|0,_,_=>none
|m+1,a,e=>Qa R (decide (a<(c.length:Int))) λv=>bif v then Ql4 R c a λo p q r f=>Qc R (pIw o) λs=>Qc R (U2 n d s some) λg=>QkC R p q λh t=>Qc R (U2 n d t some) λi=>QkC R r f λj k=>Qc R (pIw f) λl=>Qb R [[Ql 5,Ql (wJ (2*wJ (g+h))),Ql (wJ (2*wJ (i+j))),Ql k,Ql l,Ql 0]] λx=>Qc R (Y5 ((e.length+x.length)*48)) λu=>Zm d c k0 m (wJ (a+1)) (e++x)else k0 a v e
def RG(a b c d:LL)(K:Qlp R):oP R:=Ux n a b (λh i e=>Wh n a c (λj k f=>Zm n a d (λl m g=>K g) n 0 f) n 0 e) n 0 []
def YX(g e:LL)(a b j:Int)(k0:Bool->Int->Bool->oP R):Nat->Bool->Int->oP R
|0,_,_=>none
|m+1,k,c=>Qa R (decide (c<(e.length:Int))) λam=>bif am then QkG R e c λd=>Ql3 R e c (d==a) λf=>Qa R (Q9 (d==a) (f==b)) λal=>Qlc R e c (!al) λh=>Qa R (!al&&h==b) λan=>Ql3 R e c an λv=>bif Q8 al (Q9 (h==b) (v==a))then QkX R e c λx y z aa=>QkV R g a λad=>QkD R ad j λag=>Ql2 R ag x y z λah ai aj ak=>Qc R (pIw aa) λau=>Qc R (PS n g ai aj ak ah Tu7) λar=>YX g e a b j k0 m (Q8 k ar.2.2.2.2.2.2) (wJ (c+1))else YX g e a b j k0 m k (wJ (c+1))else k0 k c am
def ZT(a h2:LL)(b c:Int)(k0:Qlm R):Qln R
|0,_,_=>none
|m+1,h5,h6=>QkV R a b λe=>Qa R (decide (h5<(e.length:Int))) λt=>bif t then YX n a h2 b c h5 (λk q r=>bif !k then QkV R a b λp=>QkT R p h5 λf g h=>Qc R (Y5 ((h6.length+[[f,g,h]].length)*24)) λs=>ZT a h2 b c k0 m (wJ (h5+1)) (h6++[[f,g,h]])else ZT a h2 b c k0 m (wJ (h5+1)) h6) n false 0 else k0 h5 t h6
def Gz(a0 a1:LL)(a2 a:Int)(K:Qlp R):oP R:=ZT n a0 a1 a2 a (λc d b=>K b) n 0 []
def UJ(h2:LL)(h5:Int)(k0:oP R)(k1:Qlk R):Qll R
|0,_=>none
|m+1,a=>Qa R (decide (a<(h2.length:Int))) λf=>bif f then QkV R h2 a λd=>Qc R (ML n h5 d some) λe=>bif !e then k0 else UJ h2 h5 k0 k1 m (wJ (a+1))else k1 a f
def UK(d b:LL)(e:Int)(k0:oP R)(k1:Qlk R):Qll R
|0,_=>none
|m+1,a=>Qa R (decide (a<(b.length:Int))) λq=>bif q then QkX R b a λf g h i=>Ql2 R f g h i λj k l o=>Qc R (RH n d j k l o e some) λp=>bif !p then k0 else UK d b e k0 k1 m (wJ (a+1))else k1 a q
def VG(n:Nat)(b:Int)(d:LL)(k0:Qlm R):Qln R
|0,_,_=>none
|m+1,a,c=>QkP R d b λe=>Qa R (decide (a<(e.length:Int))) λi=>bif i then Qb R [[Ql 1,Ql b,Ql a],[Ql 2,Ql b,Ql a]] λj=>Qc R (Y5 ((c.length+List.length j)*24)) λh=>VG n b d k0 m (wJ (a+1)) (c++j)else k0 a i c
def Wl(b:LL)(k0:Qlm R):Qln R
|0,_,_=>none
|m+1,a,c=>Qa R (decide (a<(b.length:Int))) λg=>bif g then VG n a b (λe f d=>Wl b k0 m (wJ (a+1)) d) n 0 c else k0 a g c
def UF(n:Nat)(c d:Int)(b:LL)(k0:Qlm R):Qln R
|0,_,_=>none
|m+1,a,e=>Qa R (decide (a<(b.length:Int))) λo=>bif o then QkG R b a λf=>QkL R b a λg=>Qb R [[Ql 6,Ql (wJ (2*c)),Ql (wJ (2*d)),Ql f,Ql g,Ql 0]] λp=>Qc R (Y5 ((e.length+p.length)*48)) λl=>UF n c d b k0 m (wJ (a+1)) (e++p)else k0 a o e
def VD(b d:LL)(c e:Int)(k0:oP R)(k1:Qlm R):Qln R
|0,_,_=>none
|m+1,a,f=>Qa R (decide (a<(b.length:Int))) λj=>bif j then Qc R (Gz n b d c a some) λh=>Qc R (Gz n b d a c some) λi=>Qc R (H7 n e h i Tu2) λg=>bif g.2 !=0 then k0 else UF n c a g.1 (λo p l=>VD b d c e k0 k1 m (wJ (a+1)) l) n 0 f else k1 a j f
def UB(b c:LL)(d:Int)(k0:oP R)(k1:Qlm R):Qln R
|0,_,_=>none
|m+1,a,e=>Qa R (decide (a<(b.length:Int))) λi=>bif i then VD n b c a d k0 (λg h f=>UB b c d k0 k1 m (wJ (a+1)) f) n (wJ (a+1)) e else k1 a i e
def VT(k l m o:LL)(b:Int)(p q c e d f r:LL)(K:Int->LL->LL->Int->oP R):oP R:=gb true (Rs n k l m o b p q c e d f r Tu3) ([],[],0) λa=>bif a.2.2 !=0 then K 0 [] [] a.2.2 else bif decide (wJ (2*(a.1.length:Int))>48)then K 0 [] [] 7 else UJ n a.1 b (K 0 [] [] 13) (λv x=>Qc R (R0 n c d a.2.1 some) λg=>UK n a.1 g b (K 0 [] [] 13) (λy z=>Wl n c (λaa ab u=>Qc R (SV n c a.2.1 some) λh=>Qc R (RG n c e d f some) λi=>Qc R (Y5 ((h.length+i.length)*48)) λac=>UB n a.1 g b (K 0 [] [] 13) (λad ae j=>bif decide ((j.length:Int)>512)then K 0 [] [] 7 else K b u j 0) n 0 (h++i)) n 0 []) n 0) n 0
def Gk(n:Nat)(b:Int)(a c:LL)(a1:Int)(K:Qlo R):oP R:=K (Q9 (decide (a1>=0)) (decide (a1<(a.length:Int))))
def U9(l:LL)(h2 e:Int)(h5 h6:LL)(k0:oP R)(k1:Qlk R):Qll R
|0,_=>none
|m+1,c=>bif decide (c<h2)then QkN R l c λa o=>Qc R a[2]? λp=>QkO R a λh i q=>Qc R (pIw o) λs=>Qc R (Gk n e h5 h6 s some) λd=>Qd R (!(!d)) (pIw p) λt=>Qd R (!(!d)) (Gk n e h5 h6 t some) λj=>Qa R (Q8 (!d) (!j)) λad=>QkK R o (!ad) p λu v=>bif Q8 ad (u==v)then k0 else Qc R (pIw h) λb=>Qa R (decide (b<(-65536:Int))) λac=>QkK R h (!ac) i λf g=>Qa R (Q8 ac (decide (f>g))) λae=>Qd R (!ae) (pIw i) λk=>Qa R (Q8 ae (decide (k>65536))) λab=>QkK R i (!ab) h λx y=>bif Q8 ab (decide (wJ (x-y)>=e))then k0 else Qc R (pIw q) λr=>Qd R (!(decide (r<0))) (pIw q) λz=>bif Q8 (decide (r<0)) (decide (z>1048576))then k0 else U9 l h2 e h5 h6 k0 k1 m (wJ (c+1))else k1 c (decide (c<h2))
def Te(b:Int)(c a:LL)(K:Qlo R):oP R:=bif Q8 (Q8 (Q8 (decide (b<2)) (decide (b>7200))) (decide ((c.length:Int)>48))) (decide ((a.length:Int)>512))then K false else U9 n a (a.length:Int) b c a (K false) (λd e=>K true) n 0
def V5(n:Nat)(h2:LL)(b h5:Int)(k0:oP R)(k1:Qlk R):Qll R
|0,_=>none
|m+1,a=>bif decide (a<b)then QkG R h2 a λc=>bif Q8 (decide (c<0)) (decide (c>=h5))then k0 else V5 n h2 b h5 k0 k1 m (wJ (a+1))else k1 a (decide (a<b))
def G3(a:Int)(b c a1:LL)(K:Qlo R):oP R:=Qc R (Te n a b c some) λd=>bif Q8 (!d) ((a1.length:Int) !=(b.length:Int))then K false else V5 n a1 (a1.length:Int) a (K false) (λe f=>K true) n 0
def T4(n:Nat)(a0 a1 a2:Int)(K:Qlo R):oP R:=K (Q9 (decide (a0>=a1)) (decide (a0<=a2)))
def VE(j:Int)(k h5:LL)(k0:oP R)(k1:Qlk R):Qll R
|0,_=>none
|m+1,h2=>Qa R (decide (h2<(h5.length:Int))) λag=>bif ag then QkN R h5 h2 λg r=>Qc R g[2]? λs=>QkO R g λl o t=>Qc R (pIw r) λu=>Qb R (wJ ((k.length:Int)-1)) λah=>Qc R (T4 n u 0 ah some) λa=>Qd R (!(!a)) (pIw s) λv=>Qd R (!(!a)) (T4 n v 0 ah some) λb=>Qa R (Q8 (!a) (!b)) λae=>QkK R r (!ae) s λc d=>Qd R (!(Q8 ae (c==d))) (pIw l) λe=>Qa R (Q8 (Q8 ae (c==d)) (decide (e<(-65536:Int)))) λac=>Qd R (!ac) (pIw o) λf=>Qa R (Q8 ac (decide (f>65536))) λaa=>QkK R l (!aa) o λh i=>Qa R (Q8 aa (decide (h>i))) λad=>QkK R o (!ad) l λp q=>Qa R (Q8 ad (decide (wJ (p-q)>=j))) λab=>Qd R (!ab) (pIw t) λx=>Qd R (!ab) (T4 n x 0 1048576 some) λy=>bif Q8 ab (!y)then k0 else VE j k h5 k0 k1 m (wJ (h2+1))else k1 h2 ag
def Ut(a:Int)(b c:LL)(K:Qlo R):oP R:=Qc R (T4 n a 2 7200 some) λd=>bif Q8 (Q8 (!d) (decide ((b.length:Int)>48))) (decide ((c.length:Int)>512))then K false else VE n a b c (K false) (λe f=>K true) n 0
def Jf(h2:LL)(b:Int)(k0:oP R)(k1:Qlk R):Qll R
|0,_=>none
|m+1,a=>Qa R (decide (a<(h2.length:Int))) λg=>bif g then QkG R h2 a λe=>Qc R (T4 n e 0 (wJ (b-1)) some) λf=>bif !f then k0 else Jf h2 b k0 k1 m (wJ (a+1))else k1 a g
def PY(a:Int)(b c a1:LL)(K:Qlo R):oP R:=Qc R (Ut n a b c some) λd=>bif Q8 (!d) ((a1.length:Int) !=(b.length:Int))then K false else Jf n a1 a (K false) (λe f=>K true) n 0
def Q2j(n:Nat)(a0 a1 a2:Int)(K:Qlo R):oP R:=K (Q9 (decide (a0>=a1)) (decide (a0<=a2)))
def Zf(n:Nat)(d e c:Int)(k0:Qlm R):Qln R
|0,_,_=>none
|m+1,a,b=>bif decide (a<c)then QkI R b.length a b a.toNat λh=>bif h==e then QkF R b.length a b a.toNat λi=>Zf n d e c k0 m (wJ (a+1)) (List.set b a.toNat (List.set i 0 (Ql d)))else Zf n d e c k0 m (wJ (a+1)) b else k0 a (decide (a<c)) b
def JE(a:LL)(i b c j k l:Int)(K:Bool->LL->oP R):oP R:=QkI R a.length b a b.toNat λd=>QkI R a.length c a c.toNat λe=>bif d==e then K false a else Zf n d e (a.length:Int) (λp q h=>K true h) n 0 a
def Zh(n:Nat)(b:Int)(k0:Qlm R):Qln R
|0,_,_=>none
|m+1,h5,a=>bif decide (h5<b)then QkF R a.length h5 a h5.toNat λc=>Zh n b k0 m (wJ (h5+1)) (List.set a h5.toNat (List.set c 0 (Ql h5)))else k0 h5 (decide (h5<b)) a
def Ze(c:LL)(k0:Qlm R):Qln R
|0,_,_=>none
|m+1,b,d=>Qa R (decide (b<(c.length:Int))) λt=>bif t then QkE R c b λa f g h=>QkO R a λi j k=>Ql2 R f g h i λl o p q=>QkC R j k λr s=>gb true (JE n d l o p q r s Tu2) (false,[]) λe=>Qc R (SY e.2 d.length) λv=>Ze c k0 m (wJ (b+1)) e.2 else k0 b t d
def YC(n:Nat)(a:Int)(d:LL)(k0:Qlm R):Qln R
|0,_,_=>none
|m+1,b,c=>bif decide (b<a)then QkI R d.length b d b.toNat λg=>QkI R d.length a d a.toNat λj=>bif g==j then QkI R c.length b c b.toNat λo=>QkF R c.length a c a.toNat λp=>YC n a d k0 m (wJ (b+1)) (List.set c a.toNat (List.set p 0 (Ql o)))else YC n a d k0 m (wJ (b+1)) c else k0 b (decide (b<a)) c
def YD(c:Int)(f:LL)(k0:QlF R):Qly R
|0,_,_,_=>none
|m+1,d,a,e=>bif decide (a<c)then QkF R e.length a e a.toNat λg=>YC n a f (λo p b=>QkI R b.length a b a.toNat λj=>bif decide (j<0)then QkF R b.length a b a.toNat λk=>YD c f k0 m (wJ (d+1)) (wJ (a+1)) (List.set b a.toNat (List.set k 0 (Ql d)))else YD c f k0 m d (wJ (a+1)) b) n 0 (List.set e a.toNat (List.set g 0 (Ql (-1:Int))))else k0 d a (decide (a<c)) e
def JM(d:Int)(a c:LL)(K:Qlp R):oP R:=Qc R (Ut n d a c some) λe=>bif !e then K []else Qb R (a.length:Int) λu=>gb true (bif decide (0<=u)&&decide (u<=u)then some ()else none) () λh=>Qb R (Int.toNat u) λv=>Qc R (Y5 (v*8)) λi=>Zh n ((List.length (List.replicate v [Ql 0]):Nat):Int) (λj k f=>Ze n c (λl m b=>Qb R (b.length:Int) λt=>gb true (bif decide (0<=t)&&decide (t<=t)then some ()else none) () λo=>Qc R (Y5 (Int.toNat t*8)) λp=>YD n t b (λq r s g=>K g) n 0 0 (List.replicate (Int.toNat t) [Ql 0])) n 0 f) n 0 (List.replicate v [Ql 0])
def YQ(n:Nat)(d:LL)(a:Int)(k0:Qlm R):Qln R
|0,_,_=>none
|m+1,b,c=>bif decide (b<a)then QkG R d b λg=>QkG R d a λj=>bif g==j then QkF R c.length a c a.toNat λk=>YQ n d a k0 m (wJ (b+1)) (List.set c a.toNat (List.set k 0 (D.bool false)))else YQ n d a k0 m (wJ (b+1)) c else k0 b (decide (b<a)) c
def ZH(h6:LL)(h7:Int)(k0:Qlm R):Qln R
|0,_,_=>none
|m+1,a,b=>bif decide (a<h7)then QkF R b.length a b a.toNat λc=>YQ n h6 a (λf g d=>ZH h6 h7 k0 m (wJ (a+1)) d) n 0 (List.set b a.toNat (List.set c 0 (D.bool true)))else k0 a (decide (a<h7)) b
def GJ(b:Int)(a c:LL)(a1:Int)(a2:Bool)(K:Int->LL->LL->LL->Int->Int->Bool->Bool->Bool->Int->LL->oP R):oP R:=Qc R (JM n b a c some) λd=>Qb R (a.length:Int) λo=>Qa R (decide (0<=o)&&decide (o<=o)) λl=>gb true (bif l then some ()else none) () λf=>Qb R (Int.toNat o) λp=>Qc R (Y5 (p*8)) λg=>gb true (bif l then some ()else none) () λh=>Qc R (Y5 (p*1)) λi=>ZH n d (d.length:Int) (λj k e=>K b a c e a1 0 false a2 false 0 (List.replicate p [Ql 0])) n 0 (List.replicate p [D.bool false])
def TH(b:Int)(a1:LL)(c d a:Int)(K:Qlj R):oP R:=QkG R a1 d λg=>QkG R a1 c λi=>Qc R (Eg n (wJ (wJ (g-i)-a)) b some) λj=>K (wJ (a+j))
def J8(h2:LL)(h5:Int)(h7:LL)(k0:Qlr R):Qls R
|0,_,_=>none
|m+1,c,a=>Qa R (decide (a<(h7.length:Int))) λv=>bif v then Qc R (Qi h7 a) λd=>Qc R d[5]? λe=>Qc R (pIw e) λf=>QkE R h7 a λb g h i=>QkO R b λj k l=>Qc R (pIw g) λs=>Ql7 R h i j λo p q=>QkW R k l (Qc R (TH n h5 h2 o p q some) λr=>J8 h2 h5 h7 k0 m (wJ (c+wJ (f*r))) (wJ (a+1)))else k0 c a v
def MK(a:Int)(c b a1:LL)(K:Qlq R):oP R:=Qc R (PY n a c b a1 some) λd=>bif !d then K 0 1 else J8 n a1 a b (λe f g=>K e 0) n 0 0
def Xi(c:Int)(h5:LL)(h6:Int)(d:LL)(k0:oP R)(k1:Qlr R):Qls R
|0,_,_=>none
|m+1,h2,a=>Qa R (decide (a<(d.length:Int))) λaa=>bif aa then QkE R d a λb l f g=>QkO R b λh i e=>Qc R (pIw f) λj=>Qd R (!(decide (j>c))) (pIw g) λo=>bif Q8 (decide (j>c)) (decide (o>c))then QkC R e h λp q=>Xi c h5 h6 d k0 k1 m (wJ (h2+wJ (p*q))) (wJ (a+1))else Qc R (pIw l) λx=>Ql7 R f g h λr s t=>QkW R i e (Qc R (TH n h6 h5 r s t some) λk=>Qc R (pIw i) λu=>bif decide (k>u)then k0 else Qc R (pIw e) λv=>Xi c h5 h6 d k0 k1 m (wJ (h2+wJ (v*k))) (wJ (a+1)))else k1 h2 a aa
def Zr(a:Int)(b:LL)(c d:Bool)(e:Int)(f:LL)(a1:Int)(K:Qlo R):oP R:=Xi n a1 f a b (K true) (λg h i=>K (Q9 (Q9 c d) (decide (g>=e)))) n 0 0
def Xu(Fr:Int->LL->LL->LL->Int->Int->Bool->Bool->Bool->Int->LL->LL->Int->oP (Bool×Int×LL×LL×LL×Int×Int×Bool×Bool×Bool×Int×LL×LL))(h7 p:Int)(k0:LL->LL->Int->LL->LL->Int->Int->Bool->Bool->Bool->Int->LL->oP R)(k1:Int->Bool->LL->LL->Int->LL->LL->Int->Int->Bool->Bool->Bool->Int->LL->oP R):Nat->Int->LL->LL->Int->LL->LL->Int->Int->Bool->Bool->Bool->Int->LL->oP R
|0,_,_,_,_,_,_,_,_,_,_,_,_,_=>none
|m+1,b,k,c,d,l,e,f,g,q,h,i,j,o=>bif decide (b<p)then Qb R (wJ (g+1)) λv=>bif decide (v>f)then k0 k c d l e f v true h i j o else QkF R c.length h7 c h7.toNat λr=>Qb R (List.set c h7.toNat (List.set r 0 (Ql b))) λu=>Qc R (Zr n d e h i j u h7 some) λs=>bif !s then gb true (Fr d l e k f v q h i j o u (wJ (h7+1))) (false,0,[],[],[],0,0,false,false,false,0,[],[]) λa=>Qb R a.2.2.2.2.2.2.2.2.2.2.2.2 λx=>Qb R a.2.2.2.2.2.2.2.2.2.2.2.1 λy=>Qb R a.2.2.2.2.2.2.2.2.2.2.1 λz=>Qb R a.2.2.2.2.2.2.2.2.2.1 λaa=>Qb R a.2.2.2.2.2.2.2.2.1 λab=>bif Q9 true (!a.1)then k0 a.2.2.2.2.1 x a.2.1 a.2.2.1 a.2.2.2.1 a.2.2.2.2.2.1 a.2.2.2.2.2.2.1 a.2.2.2.2.2.2.2.1 ab aa z y else Xu Fr h7 p k0 k1 m (wJ (b+1)) a.2.2.2.2.1 x a.2.1 a.2.2.1 a.2.2.2.1 a.2.2.2.2.2.1 a.2.2.2.2.2.2.1 a.2.2.2.2.2.2.2.1 ab aa z y else bif Q9 false false then k0 k u d l e f v q h i j o else Xu Fr h7 p k0 k1 m (wJ (b+1)) k u d l e f v q h i j o else k1 b (decide (b<p)) k c d l e f g q h i j o
def VY(Fr:Int->LL->LL->LL->Int->Int->Bool->Bool->Bool->Int->LL->LL->Int->oP (Bool×Int×LL×LL×LL×Int×Int×Bool×Bool×Bool×Int×LL×LL))(b:Int)(c e d:LL)(g h:Int)(i f j:Bool)(k:Int)(l a:LL)(a1:Int)(K:Bool->Int->LL->LL->LL->Int->Int->Bool->Bool->Bool->Int->LL->LL->oP R):oP R:=bif a1==(c.length:Int)then Qc R (Y5 (a.length*8)) λu1=>Qc R (MK n b c e a Tu2) λp=>K f b c e d g h i f true p.1 a a else Qlf R d.length a1 d a1.toNat λr=>bif r then Xu n Fr a1 1 (λs t u v x y z aa ab ac ad ae=>K false u v x s y z aa ab ac ad ae t) (λbz ca ag ah ai aj ak al am an ao ap aq ar=>K true ai aj ak ag al am an ao ap aq ar ah) n 0 d a b c e g h i f j k l else Xu n Fr a1 b (λau av aw ax ay az ba bb bc bd be bg=>K false aw ax ay au az ba bb bc bd be bg av) (λcb cc bh bi bj bk bl bm bn bo bp bq br bt=>K true bj bk bl bh bm bn bo bp bq br bt bi) n 0 d a b c e g h i f j k l
def XE :Nat->Int->LL->LL->LL->Int->Int->Bool->Bool->Bool->Int->LL->LL->Int->oP (Bool×Int×LL×LL×LL×Int×Int×Bool×Bool×Bool×Int×LL×LL)
|0,_,_,_,_,_,_,_,_,_,_,_,_,_=>none
|d+1,a,b,c,e,f,g,h,i,j,k,l,m,a1=>VY n (XE d) a b c e f g h i j k l m a1 Tu13
def Fb(e:Int)(f g:LL)(a1:Int)(a2:Bool)(KA:Qlj R)(KB:Int->LL->LL->LL->Int->Int->Bool->Bool->Bool->Int->LL->LL->Int->oP R):oP R:=Qc R (Ut n e f g some) λc=>bif !c then KA 1 else Qc R (Q2j n a1 1 1048576 some) λd=>bif !d then KA 4 else gb true (GJ n e f g a1 a2 Tu11) (0,[],[],[],0,0,false,false,false,0,[]) λb=>gb true (XE n n b.1 b.2.1 b.2.2.1 b.2.2.2.1 b.2.2.2.2.1 b.2.2.2.2.2.1 b.2.2.2.2.2.2.1 b.2.2.2.2.2.2.2.1 b.2.2.2.2.2.2.2.2.1 b.2.2.2.2.2.2.2.2.2.1 [] b.2.2.2.2.2.2.2.2.2.2 0) (false,0,[],[],[],0,0,false,false,false,0,[],[]) λa=>Qb R a.2.2.2.2.2.2.2.1 λi=>bif i then KA 15 else Qb R a.2.2.2.2.2.2.2.2.2.1 λh=>Qb R a.2.2.2.2.2.2.2.2.2.2.2.2 λj=>Qb R a.2.2.2.2.2.2.2.2.2.2.2.1 λk=>Qb R a.2.2.2.2.2.2.2.2.2.2.1 λl=>Qb R a.2.2.2.2.2.2.2.2.1 λo=>bif !h then KB a.2.1 a.2.2.1 a.2.2.2.1 a.2.2.2.2.1 a.2.2.2.2.2.1 a.2.2.2.2.2.2.1 i o h l k j 14 else KB a.2.1 a.2.2.1 a.2.2.2.1 a.2.2.2.2.1 a.2.2.2.2.2.1 a.2.2.2.2.2.2.1 i o h l k j 0
def Zq(e:Int)(f g:LL)(a1:Int)(KA:Qlq R)(KB:Qlw R):oP R:=gb true (Fb n e f g a1 false (λc=>some (.inl c)) λc d b a h i r6 j k l m o p=>some (.inr (c,d,b,a,h,i,r6,j,k,l,m,o,p))) (.inl 0) λd=>smX d (λb=>bif b==0 then none else bif b==14 then none else KA 0 b) λa=>Qb R a.2.2.2.2.2.2.2.2.2.2.2.2 λq=>bif q==0 then KB a.2.2.2.2.2.2.2.2.2.2.1 a.2.2.2.2.2.1 0 else bif q==14 then KA a.2.2.2.2.2.1 q else KA 0 q
def JI(b:Int)(k l a1:LL)(m c d a o p:Int)(K:Qlj R):oP R:=QkG R a1 d λg=>QkG R a1 c λi=>Qc R (Ha n (wJ (wJ (g-i)-a)) b some) λj=>K (wJ (a+j))
def Uc(h2 c:LL)(b h6:Int)(h7 d:LL)(k0:Qlj R)(k1:Qlk R):Qll R
|0,_=>none
|m+1,h5=>bif decide (h5<b)then QkE R c h5 λa f g h=>QkO R a λi e j=>Ql2 R f g h i λk l o p=>QkC R e j λq r=>Qc R (JI n h6 h7 d h2 k l o p q r some) λs=>Qc R (pIw e) λt=>bif decide (s>t)then k0 h5 else Uc h2 c b h6 h7 d k0 k1 m (wJ (h5+1))else k1 h5 (decide (h5<b))
def Gh(b:Int)(c a a1:LL)(K:Qlk R):oP R:=Qc R (G3 n b c a a1 some) λd=>bif !d then K 0 false else Uc n a1 a (a.length:Int) b c a (λe=>K e true) (λf g=>K 0 false) n 0
def Y1(b:Int)(c d a1:LL)(K:Qlo R):oP R:=Qc R (Gh n b c d a1 Tu2) λa=>Qd R (!a.2) (G3 n b c d a1 some) λf=>K (Q9 (!a.2) f)
def ZL(n:Nat)(c b:LL)(a1 a2:Int)(K:Qlo R):oP R:=QkG R c a1 λa=>Qa R (a==2) λi=>Ql6 R b.length a1 i b a1.toNat λc6=>Qd R i (pIw c6) λg=>K (Q9 i (g==a2))
def QL(b a:Int)(c d:LL)(k0:Qlm R):Qln R
|0,_,_=>none
|m+1,h5,h6=>bif decide (h5<a)then Qc R (ZL n d c h5 b some) λe=>bif !e then QkF R h6.length h5 h6 h5.toNat λf=>QL b a c d k0 m (wJ (h5+1)) (List.set h6 h5.toNat (List.set f 0 (Ql (-1:Int))))else QL b a c d k0 m (wJ (h5+1)) h6 else k0 h5 (decide (h5<a)) h6
def QC(n:Nat)(b:Int)(g:LL)(d:Int)(e h:LL)(k0:Bool->Int->Bool->LL->oP R):Nat->Bool->Int->LL->oP R
|0,_,_,_=>none
|m+1,i,c,a=>bif decide (c<d)then QkG R g c λj=>Ql8 R h j λl=>QkI R a.length l a l.toNat λk=>bif k==(-1:Int)then QC n b g d e h k0 m i (wJ (c+1)) a else QkI R e.length j e j.toNat λo=>QkI R a.length b a b.toNat λf=>Qa R (f==(-1:Int)) λak=>Ql6 R a.length b (!ak) a b.toNat λab=>Qd R (!ak) (pIw ab) λac=>bif Q8 ak (decide (wJ (o+k)<ac))then QkF R a.length b a b.toNat λad=>QC n b g d e h k0 m true (wJ (c+1)) (List.set a b.toNat (List.set ad 0 (Ql (wJ (o+k)))))else QC n b g d e h k0 m i (wJ (c+1)) a else k0 i c (decide (c<d)) a
def Xf(b:Int)(c d e:LL)(k0:Bool->Int->Bool->LL->oP R):Nat->Bool->Int->LL->oP R
|0,_,_,_=>none
|m+1,f,a,g=>bif decide (a<b)then QkR R c.length a c a.toNat λh=>QC n a h (h.length:Int) d e (λk p q l=>Xf b c d e k0 m k (wJ (a+1)) l) n f 0 g else k0 f a (decide (a<b)) g
def QD(b c d:LL)(k0:Bool->LL->oP R):Nat->Bool->LL->oP R
|0,_,_=>none
|m+1,e,a=>bif e then Xf n (a.length:Int) b c d (λf h i g=>QD b c d k0 m f g) n false 0 a else k0 e a
def Xz(a b c d e:LL)(a1:Int)(K:Qlp R):oP R:=Qb R (a.length:Int) λo=>gb true (bif decide (0<=o)&&decide (o<=o)then some ()else none) () λh=>Qb R (Int.toNat o) λp=>Qc R (Y5 (p*8)) λi=>QL n a1 ((List.length (List.replicate p [Ql 0]):Nat):Int) e a (λj k f=>QD n c d b (λl g=>K g) n true f) n 0 (List.replicate p [Ql 0])
def Zk(n:Nat)(a a1 a2:Int)(K:Qlj R):oP R:=bif Q8 (Q8 (Q8 (Q8 (decide (a1<0)) (decide (a1>=a))) (decide (a2<0))) (decide (a2>=a))) (a1==a2)then K 4 else K 0
def X9(n:Nat)(f:Int)(h2:LL)(d:Int)(e:LL)(k0:Qlm R):Qln R
|0,_,_=>none
|m+1,a,h5=>bif decide (a<d)then QkH R h2 a λb h=>Qc R b[1]? λi=>Qc R b[2]? λo=>Qc R b[3]? λp=>Qc R b[4]? λq=>Qc R b[5]? λr=>Qc R (pIw h) λc=>Qa R (c==1) λu=>Qd R u (pIw i) λg=>Ql6 R e.length g u e g.toNat λk=>Qd R u (pIw k) λl=>bif Q9 u (l==f)then Qc R (Y5 ((h5.length+[[Ql a]].length)*8)) λt=>X9 n f h2 d e k0 m (wJ (a+1)) (h5++[[Ql a]])else X9 n f h2 d e k0 m (wJ (a+1)) h5 else k0 a (decide (a<d)) h5
def Yj(a b:LL)(a1:Int)(K:Qlp R):oP R:=X9 n a1 a (a.length:Int) b (λd e c=>K c) n 0 []
def X2(n:Nat)(b c:LL)(a:Int)(h7 d:LL)(k0:Qlr R):Qls R
|0,_,_=>none
|m+1,h2,h5=>bif decide (h5<a)then QkG R c h5 λe=>Ql8 R d e λl=>QkG R b l λf=>Qb R (wJ (h5+1)) λt=>bif f==(-1:Int)then X2 n b c a h7 d k0 m h2 t else QkI R h7.length e h7 e.toNat λg=>bif Q8 (h2==(-1:Int)) (decide (wJ (g+f)<h2))then X2 n b c a h7 d k0 m (wJ (g+f)) t else X2 n b c a h7 d k0 m h2 t else k0 h2 h5 (decide (h5<a))
def Y4(a b a1 a2:LL)(K:Qlj R):oP R:=X2 n a1 a2 (a2.length:Int) b a (λc d e=>K c) n (-1:Int) 0
def Zl(n:Nat)(c b a1:LL)(a2 d:Int)(K:Qlo R):oP R:=Ql8 R c a2 λg=>QkG R a1 g λa=>Qa R (a !=(-1:Int)) λo=>Ql6 R b.length a2 o b a2.toNat λj=>Qd R o (pIw j) λk=>K (Q9 o (wJ (k+a)==d))
def Ve(e f g h:LL)(i:Int)(j k l m o p q:LL)(KA:oP R)(KB:Qlp R):oP R:=gb true (VT n e f g h i j k l m o p q Tu4) (0,[],[],0) λa=>bif a.2.2.2 !=0 then KA else gb true (Zq n a.1 a.2.1 a.2.2.1 4000 (λb a=>some (.inl (b,a))) λb a c=>some (.inr (b,a,c))) (.inl (0,0)) λc=>smX c (λd=>KA) λr=>KB r.1
def Dx(n:Nat)(a0:Int)(K:Qlo R):oP R:=K (Q9 (Q9 (decide (a0>=33)) (decide (a0<=126))) (a0 !=35))
def Tv(b:List UInt8)(h2:Int)(k0:oP R)(k1:Qlm R):Qln R
|0,_,_=>none
|m+1,a,c=>Qa R (decide (a<(b.length:Int))) λx=>Qd R x (Zj b a) λd=>bif Q9 x (d !=35)then Qc R (Zj b a) λe=>Qd R (!(e==32)) (Zj b a) λi=>Qb R (wJ (a+1)) λaa=>bif Q8 (e==32) (i==9)then Tv b h2 k0 k1 m aa c else Qc R (Zj b a) λj=>Qc R (Dx n j some) λk=>bif !k then k0 else Qa R (decide (a>0)) λy=>Qd R y (Zj b (wJ (a-1))) λl=>Qd R y (Dx n l some) λo=>bif Q9 y o then Qb R (wJ ((c.length:Int)-1)) λz=>Qc R (inB c.length z) λs=>Qb R (Int.toNat z) λac=>Qc R c[ac]? λp=>Qc R p[0]? λq=>Qc R (Vq q) λf=>Qc R (slB b.length (some a) (some aa)) λg=>Qc R (Q8l (f.length+List.length (cut b g))) λt=>QkF R c.length z c ac λr=>Tv b h2 k0 k1 m aa (List.set c ac (List.set r 0 (D.str (f++cut b g))))else Qc R (slB b.length (some a) (some aa)) λh=>Qb R [[D.str (cut b h),Ql h2,Ql aa]] λab=>Qc R (Y5 ((c.length+ab.length)*32)) λv=>Tv b h2 k0 k1 m aa (c++ab)else k1 a (Q9 x (d !=35)) c
def Q6E(a0:List UInt8)(a1:Int)(K:Qlt R):oP R:=Tv n a0 a1 (K [] 2) (λb c a=>bif decide ((a.length:Int)>64)then K [] 7 else K a 0) n 0 []
def R3(n:Nat)(h5:List UInt8)(k0:Qlk R):Qll R
|0,_=>none
|m+1,a=>Qa R (decide (a<(h5.length:Int))) λc=>Qd R c (Zj h5 a) λb=>bif Q9 c (b !=10)then R3 n h5 k0 m (wJ (a+1))else k0 a (Q9 c (b !=10))
def HX(a:List UInt8)(k0:Qlq R)(k1:QlF R):Qly R
|0,_,_,_=>none
|m+1,h2,b,d=>Qa R (decide (b<(a.length:Int))) λg=>bif g then R3 n a (λe i=>Qc R (slB a.length (some b) (some e)) λf=>Qc R (Q6E n (cut a f) h2 Tu2) λc=>bif c.2 !=0 then k0 h2 c.2 else bif decide ((c.1.length:Int)>0)then Qc R (Y5 ((d.length+[[D.sl 3 c.1]].length)*24)) λj=>HX a k0 k1 m (wJ (h2+1)) (wJ (e+1)) (d++[[D.sl 3 c.1]])else HX a k0 k1 m (wJ (h2+1)) (wJ (e+1)) d) n b else k1 h2 b g d
def DA(a0:List UInt8)(K:Qlw R):oP R:=bif decide ((a0.length:Int)>65536)then K [] 0 7 else HX n a0 (λa b=>K [] a b) (λd e f c=>K c 0 0) n 1 0 []
def KV(h6:List UInt8)(k0:oP R)(k1:Qlr R):Qls R
|0,_,_=>none
|m+1,b,a=>Qa R (decide (a<(h6.length:Int))) λf=>bif f then Qc R (Zj h6 a) λc=>Qc R (Dq n c some) λd=>bif !d then k0 else Qc R (Zj h6 a) λe=>KV h6 k0 k1 m (wJ (wJ (10*b)+wJ (IntKind.wrap .u8 (e-48)))) (wJ (a+1))else k1 b a f
def WU(a0:List UInt8)(K:Qlk R):oP R:=Qb R (a0.length:Int) λq=>Qa R (decide (q>0)) λo=>Qd R o (Zj a0 0) λd=>bif Q9 o (d==45)then Qc R (slB a0.length (some 1) none) λa=>Qb R (cut a0 a) λr=>Qb R ((List.length r:Nat):Int) λp=>Qa R (Q8 (decide (p<1)) (decide (p>13))) λk=>Qd R (!k) (Zj r 0) λe=>bif Q8 k (Q9 (e==48) (Q8 (decide (p>1)) (decide ((-1:Int)<0))))then K 0 false else KV n r (K 0 false) (λb g h=>bif decide (b>1099511627776)then K 0 false else K (wJ ((-1:Int)*b)) true) n 0 0 else Qa R (Q8 (decide (q<1)) (decide (q>13))) λl=>Qd R (!l) (Zj a0 0) λf=>bif Q8 l (Q9 (f==48) (Q8 (decide (q>1)) (decide (1<0))))then K 0 false else KV n a0 (K 0 false) (λc i j=>bif decide (c>1099511627776)then K 0 false else K (wJ (1*c)) true) n 0 0
def R9(n:Nat)(b:LL)(h2:List UInt8)(k0:Qlj R)(k1:Qlk R):Qll R
|0,_=>none
|m+1,a=>Qa R (decide (a<(b.length:Int))) λf=>bif f then QkM R b a λe=>bif e==h2 then k0 a else R9 n b h2 k0 k1 m (wJ (a+1))else k1 a f
def Ko(a0:LL)(a1:List UInt8)(K:Qlj R):oP R:=R9 n a0 a1 (λa=>K a) (λb c=>K (-1:Int)) n 0
def K8(i e a1:LL)(K:Qlu R):oP R:=QkM R a1 2 λk=>Qc R (WU n k Tu2) λa=>QkM R a1 3 λm=>Qc R (WU n m Tu2) λb=>QkM R a1 4 λq=>Qc R (WU n q Tu2) λc=>Qa R ((a1.length:Int)==7) λac=>Qa R (Q8 (Q8 (!a.2) (!b.2)) (!c.2)) λad=>Qa R (!ad&&ac) λf=>QkS R a1 5 f λt=>bif Q8 ad (Q9 ac (!(t==bs [97,116])))then K 2 e else QkM R a1 1 λg=>bif ac then QkM R a1 6 λz=>Qc R (Ko n i z some) λh=>bif decide (h<0)then K 3 e else Qb R [[D.str g,Ql a.1,Ql b.1,Ql c.1,Ql h]] λag=>Qc R (Y5 ((e.length+ag.length)*48)) λaa=>K 0 (e++ag)else Qb R [[D.str g,Ql a.1,Ql b.1,Ql c.1,Ql (-1:Int)]] λae=>Qc R (Y5 ((e.length+ae.length)*48)) λab=>K 0 (e++ae)
def PH(n:Nat)(a0:List UInt8)(K:Qlj R):oP R:=bif a0==bs [65]then K 0 else bif a0==bs [66]then K 1 else K (-1:Int)
def TD(j i k c a1:LL)(K:Qlu R):oP R:=QkM R a1 2 λo=>Qc R (PH n o some) λa=>QkM R a1 4 λq=>Qc R (PH n q some) λb=>Qa R (Q8 (decide (a<0)) (decide (b<0))) λao=>Qa R ((a1.length:Int)==7) λap=>QkS R a1 6 (!ao&&ap) λg=>Qa R (Q9 ap (!(g==bs [48]))) λaq=>QkS R a1 6 (!ao&&aq) λv=>bif Q8 ao (Q9 aq (!(v==bs [49])))then K 2 c else Qc R (V4 n j i k c some) λh=>Qc R (L8 [h]) λak=>QkM R a1 1 λz=>Qc R (Ko n h z some) λd=>QkM R a1 3 λac=>Qc R (Ko n h ac some) λe=>bif Q8 (decide (d<0)) (decide (e<0))then K 3 c else bif ap then QkM R a1 5 λag=>Qc R (Ko n i ag some) λf=>bif decide (f<0)then K 3 c else QkM R a1 6 λaj=>bif aj==bs [49]then Qb R [[Ql d,Ql a,Ql e,Ql b,Ql f,Ql 1]] λaw=>Qc R (Y5 ((c.length+aw.length)*48)) λal=>K 0 (c++aw)else Qb R [[Ql d,Ql a,Ql e,Ql b,Ql f,Ql 0]] λax=>Qc R (Y5 ((c.length+ax.length)*48)) λam=>K 0 (c++ax)else Qb R [[Ql d,Ql a,Ql e,Ql b,Ql (-1:Int),Ql 0]] λav=>Qc R (Y5 ((c.length+av.length)*48)) λan=>K 0 (c++av)
def NI(a b c d a1:LL)(K:Int->LL->LL->LL->LL->oP R):oP R:=Qb R (a1.length:Int) λac=>Qa R (ac==2) λaa=>QkS R a1 0 aa λl=>bif Q9 aa (l==bs [115,116,97,116,105,111,110])then QkM R a1 1 λg=>Qc R (Y5 ((a.length+[[D.str g]].length)*16)) λu7=>K 0 (a++[[D.str g]]) b c d else QkS R a1 0 aa λq=>bif Q9 aa (q==bs [112,111,105,110,116])then QkM R a1 1 λh=>Qc R (Y5 ((b.length+[[D.str h]].length)*16)) λab=>K 0 a (b++[[D.str h]]) c d else Qa R (Q8 (ac==5) (ac==7)) λf=>QkS R a1 0 f λv=>bif Q9 f (v==bs [115,101,99,116,105,111,110])then gb true (K8 n a c a1 Tu2) (0,[]) λi=>K i.1 a b i.2 d else QkS R a1 0 f λz=>bif Q9 f (z==bs [108,105,110,107])then gb true (TD n a b c d a1 Tu2) (0,[]) λj=>K j.1 a b c j.2 else K 2 a b c d
def R8(h2:LL)(k0:Qlq R)(k1:Int->Bool->LL->LL->LL->LL->oP R):Nat->Int->LL->LL->LL->LL->oP R
|0,_,_,_,_,_=>none
|m+1,a,c,h5,h6,h7=>Qa R (decide (a<(h2.length:Int))) λg=>bif g then QkV R h2 a λf=>gb true (NI n c h5 h6 h7 f Tu5) (0,[],[],[],[]) λb=>bif b.1 !=0 then QkV R h2 a λl24=>QkL R l24 0 λr=>k0 r b.1 else R8 h2 k0 k1 m (wJ (a+1)) b.2.1 b.2.2.1 b.2.2.2.1 b.2.2.2.2 else k1 a g c h5 h6 h7
def Q0Z(a0:List UInt8)(K:LL->LL->LL->LL->Int->Int->oP R):oP R:=Qc R (DA n a0 Tu3) λa=>bif a.2.2 !=0 then K [] [] [] [] a.2.1 a.2.2 else R8 n a.1 (λi j=>K [] [] [] [] i j) (λk l b c d e=>Qc R (Vy n b c d e some) λf=>bif f !=0 then K [] [] [] [] 0 f else K b c d e 0 0) n 0 [] [] [] []
def UA(n:Nat)(b:List UInt8)(a:LL)(k0:Qlj R)(k1:Qlk R):Qll R
|0,_=>none
|m+1,h2=>Qa R (decide (h2<(a.length:Int))) λf=>bif f then QkM R a h2 λe=>bif e==b then k0 h2 else UA n b a k0 k1 m (wJ (h2+1))else k1 h2 f
def Kg(a:LL)(a1:List UInt8)(K:Qlj R):oP R:=UA n a1 a (λb=>K b) (λc d=>K (-1:Int)) n 0
def YN(n:Nat)(c:LL)(d:Int)(k0:oP R)(k1:Qlk R):Qll R
|0,_=>none
|m+1,a=>bif decide (a<d)then QkM R c (wJ (a+1)) λb=>Qa R (b==bs [117,112]) λj=>QkS R c (wJ (a+1)) (!j) λi=>bif Q9 (!j) (!(i==bs [100,111,119,110]))then k0 else YN n c d k0 k1 m (wJ (a+2))else k1 a (decide (a<d))
def Yf(d:LL)(e:Int)(f:LL)(k0:oP R)(k1:Qlm R):Qln R
|0,_,_=>none
|m+1,a,b=>bif decide (a<e)then QkM R d a λi=>Qc R (Kg n f i some) λc=>bif decide (c<0)then k0 else QkM R d (wJ (a+1)) λl=>bif l==bs [100,111,119,110]then Qc R (Y5 ((b.length+[[Ql c,Ql 1]].length)*16)) λo=>Yf d e f k0 k1 m (wJ (a+2)) (b++[[Ql c,Ql 1]])else Qc R (Y5 ((b.length+[[Ql c,Ql 0]].length)*16)) λp=>Yf d e f k0 k1 m (wJ (a+2)) (b++[[Ql c,Ql 0]])else k1 a (decide (a<e)) b
def HN(b a a1:LL)(K:Qlu R):oP R:=Qc R (nz 2) λm=>Qb R (a1.length:Int) λak=>Qa R (Q9 (Int.tmod ak 2==1) (decide (ak>=5))) λk=>Qb R (wJ (ak-2)) λal=>QkS R a1 al k λh=>Qa R (decide (ak<3)) λl=>Qa R (Q8 l (Int.tmod ak 2==0)) λai=>bif Q9 k (h==bs [111,118,101,114,108,97,112])then QkM R a1 (wJ (ak-1)) λj=>Qc R (WU n j Tu2) λc=>bif c.2 then Qa R (decide (al<3)) λaj=>Qd R (!aj) (nz 2) λo=>bif Q8 aj (Int.tmod al 2==0)then K 2 a else YN n a1 al (K 2 a) (λp q=>Yf n a1 al b (K 3 a) (λr s d=>Qb R [[D.sl 2 d,Ql c.1]] λam=>Qc R (Y5 ((a.length+am.length)*32)) λt=>K 0 (a++am)) n 1 []) n 1 else Qd R (!l) (nz 2) λu=>bif ai then K 2 a else YN n a1 ak (K 2 a) (λv x=>Yf n a1 ak b (K 3 a) (λy z e=>Qc R (Y5 ((a.length+[[D.sl 2 e,Ql 0]].length)*32)) λaa=>K 0 (a++[[D.sl 2 e,Ql 0]])) n 1 []) n 1 else Qd R (!l) (nz 2) λab=>bif ai then K 2 a else YN n a1 ak (K 2 a) (λac ad=>Yf n a1 ak b (K 3 a) (λae ag f=>Qc R (Y5 ((a.length+[[D.sl 2 f,Ql 0]].length)*32)) λah=>K 0 (a++[[D.sl 2 f,Ql 0]])) n 1 []) n 1
def Tp(a:LL)(k0:oP R)(k1:Qlm R):Qln R
|0,_,_=>none
|m+1,h2,b=>Qa R (decide (h2<(a.length:Int))) λg=>bif g then QkM R a h2 λf=>Qc R (WU n f Tu2) λc=>bif !c.2 then k0 else Qc R (Y5 ((b.length+[[Ql c.1]].length)*8)) λi=>Tp a k0 k1 m (wJ (h2+1)) (b++[[Ql c.1]])else k1 h2 g b
def DT(a0:LL)(K:LL->Bool->oP R):oP R:=Tp n a0 (K [] false) (λb c a=>K a true) n 0 []
def Vg(n:Nat)(b:List UInt8)(a:LL)(k0:Qlj R)(k1:Qlk R):Qll R
|0,_=>none
|m+1,h2=>Qa R (decide (h2<(a.length:Int))) λg=>bif g then QkF R a.length h2 a h2.toNat λc=>Qc R c[0]? λd=>Qc R (Vq d) λe=>bif e==b then k0 h2 else Vg n b a k0 k1 m (wJ (h2+1))else k1 h2 g
def HP(a:LL)(a1:List UInt8)(K:Qlj R):oP R:=Vg n a1 a (λb=>K b) (λc d=>K (-1:Int)) n 0
def Tm(o:LL)(e:Int)(a b c:LL)(d:Int)(a1:LL)(K:Int->Int->LL->LL->LL->Int->oP R):oP R:=Qb R (a1.length:Int) λbu=>Qa R (bu==2) λab=>QkS R a1 0 ab λy=>bif Q9 ab (y==bs [112,101,114,105,111,100])then QkM R a1 1 λs6=>Qc R (WU n s6 Tu2) λp=>bif !p.2 then K 2 e a b c d else bif decide (wJ (d+1)>1)then K 5 e a b c (wJ (d+1))else K 0 p.1 a b c (wJ (d+1))else Qa R (bu==6) λaa=>QkS R a1 0 aa λad=>bif Q9 aa (ad==bs [115,116,111,99,107])then Qc R (slB a1.length (some 2) none) λae=>gb true (DT n (cut a1 ae) Tu2) ([],false) λh=>bif !h.2 then K 2 e a b c d else QkM R a1 1 λq=>QkG R h.1 0 λr=>QkG R h.1 1 λs=>QkG R h.1 2 λt=>QkG R h.1 3 λu=>Qb R [[D.str q,Ql r,Ql s,Ql t,Ql u]] λac=>Qc R (Y5 ((a.length+ac.length)*48)) λbq=>K 0 e (a++ac) b c d else Qa R (bu==4) λg=>QkS R a1 0 g λau=>bif Q9 g (au==bs [108,105,110,101])then QkM R a1 3 λax=>Qc R (WU n ax Tu2) λi=>bif !i.2 then K 2 e a b c d else QkM R a1 2 λba=>Qc R (HP n a ba some) λj=>bif decide (j<0)then K 3 e a b c d else QkM R a1 1 λv=>Qb R [[D.str v,Ql j,Ql i.1,D.nl]] λbv=>Qc R (Y5 ((b.length+bv.length)*56)) λbr=>K 0 e a (b++bv) c d else QkS R a1 0 g λbg=>bif Q9 g (bg==bs [100,101,109,97,110,100])then QkM R a1 3 λbj=>Qc R (WU n bj Tu2) λk=>bif !k.2 then K 2 e a b c d else QkM R a1 1 λbm=>Qc R (Ko n o bm some) λl=>QkM R a1 2 λbp=>Qc R (Ko n o bp some) λm=>bif Q8 (decide (l<0)) (decide (m<0))then K 3 e a b c d else Qb R [[Ql l,Ql m,Ql k.1]] λbz=>Qc R (Y5 ((c.length+bz.length)*24)) λbt=>K 0 e a b (c++bz) d else K 2 e a b c d
def Kh(l m:LL)(f:Int)(g h i j:LL)(k:Int)(a1:LL)(K:Int->Int->LL->LL->LL->LL->Int->oP R):oP R:=QkM R a1 0 λc=>bif c==bs [114,111,117,116,101]then gb true (HN n m h a1 Tu2) (0,[]) λd=>K d.1 f g d.2 i j k else bif c==bs [114,105,100,101]then none else bif c==bs [99,104,97,110,103,101]then none else bif c==bs [116,117,114,110]then none else bif c==bs [115,121,110,99]then none else gb true (Tm n l f g i j k a1 Tu6) (0,0,[],[],[],0) λa=>K a.1 a.2.1 a.2.2.1 h a.2.2.2.1 a.2.2.2.2.1 a.2.2.2.2.2
def JK(c k l:LL)(k0:Qlq R)(k1:QlJ R)(g:Int->Int->Int->LL->LL->LL->LL->oP R)(b d e:Int)(f h i j:LL):oP R:=Qa R (decide (b<(c.length:Int))) λq=>bif q then QkV R c b λp=>gb true (Kh n k l d f h i j e p Tu7) (0,0,[],[],[],[],0) λa=>bif a.1 !=0 then QkV R c b λz=>QkL R z 0 λac=>k0 ac a.1 else g (wJ (b+1)) a.2.1 a.2.2.2.2.2.2 a.2.2.1 a.2.2.2.1 a.2.2.2.2.1 a.2.2.2.2.2.1 else k1 b q d e f h i j
def Q2T:List UInt8:=[114,105,100,101]
def Q5x:LL->oP (List D)
|[[.str a,_,_],[.str b,_,_],[.str c,_,_],[.str d,_,_]]=>bif KL a Q2T&&(KL b [48]&&(KL c [48]&&KL d [51,48,46,46,51,48]))then some [.int .i64 0,.int .i64 0,.int .i64 30,.int .i64 30]else none
|[[.str a,_,_],[.str b,_,_],[.str c,_,_]]=>bif KL a Q2T&&(KL b [49]&&KL c [48])then some [.int .i64 1,.int .i64 0,.int .i64 0,.int .i64 0]else none
|_=>none
def Q4s(aa:Bool)(r:List D):LL->oP LL
|[[.str a,.int k b,.int k' c,.nl]]=>bif aa then none else some [[.str a,.int k b,.int k' c,.sl 4 [r]]]
|[[.str a,.int k b,.int k' c,.sl e l]]=>bif aa&&(Nat.beq e 4&&Nat.ble l.length 900)then some [[.str a,.int k b,.int k' c,.sl 4 (l++[r])]]else none
|_=>none
def Q5g(a:LL)(b:Int):oP LL:=(Qi a b).bind λr=>r[0]?.bind (pSl 3)
def Qae(a:LL)(b:Int):oP (List D):=(Q5g a b).bind Q5x
def XX(a b c:LL)(k0:Qlq R)(k1:QlJ R):Nat->Bool->Int->Int->Int->LL->LL->LL->LL->oP R
|0,_,_,_,_,_,_,_,_=>none
|m+1,aa,d,e,f,g,h,i,j=>match Qae a d with
|some r=>(match Q4s aa r i with | some l=>XX a b c k0 k1 m true (wJ (d+1)) e f g h l j | none=>none)
|none=>JK n a b c k0 k1 (XX a b c k0 k1 m false) d e f g h i j
def So(a b c:LL)(k0:Qlq R)(k1:QlJ R)(m:Nat)(d e f:Int)(g h i j:LL):oP R:=XX n a b c k0 k1 m false d e f g h i j
def MW(b e c f:LL)(a1:List UInt8)(K:Int->LL->LL->LL->LL->LL->LL->LL->Int->Int->oP R):oP R:=Qc R (Vy n b e c f some) λd=>bif d !=0 then K 0 [] [] [] [] [] [] [] 0 1 else Qc R (DA n a1 Tu3) λa=>bif a.2.2 !=0 then K 0 [] [] [] [] [] [] [] a.2.1 a.2.2 else So n a.1 b c (λo p=>K 0 [] [] [] [] [] [] [] o p) (λq r g s h i j k=>Qc R (Wg n b e c f g h i j [] [] [] k some) λl=>bif l !=0 then K 0 [] [] [] [] [] [] [] 0 l else K g h i j [] [] [] k 0 0) n 0 0 0 [] [] [] []
def FG(K:QlK R):oP R:=gb true (Q0Z n (bs [115,116,97,116,105,111,110,32,88,10,115,116,97,116,105,111,110,32,89,10,115,116,97,116,105,111,110,32,90,10,115,101,99,116,105,111,110,32,120,32,49,48,32,50,48,48,48,48,32,48,32,97,116,32,88,10,115,101,99,116,105,111,110,32,97,32,49,48,32,50,48,48,48,48,32,48,10,115,101,99,116,105,111,110,32,121,32,49,48,32,50,48,48,48,48,32,48,32,97,116,32,89,10,115,101,99,116,105,111,110,32,98,32,49,48,32,50,48,48,48,48,32,48,10,115,101,99,116,105,111,110,32,122,32,49,48,32,50,48,48,48,48,32,48,32,97,116,32,90,10,108,105,110,107,32,120,32,66,32,97,32,65,10,108,105,110,107,32,97,32,66,32,121,32,65,10,108,105,110,107,32,121,32,66,32,98,32,65,10,108,105,110,107,32,98,32,66,32,122,32,65,10]) Tu6) ([],[],[],[],0,0) λa=>gb true (MW n a.1 a.2.1 a.2.2.1 a.2.2.2.1 (bs [112,101,114,105,111,100,32,52,48,48,10,115,116,111,99,107,32,83,32,53,32,50,48,48,48,48,32,53,48,48,32,53,48,48,10,114,111,117,116,101,32,120,32,117,112,32,97,32,117,112,32,121,32,117,112,10,114,111,117,116,101,32,121,32,117,112,32,98,32,117,112,32,122,32,117,112,10,108,105,110,101,32,65,32,83,32,50,10,114,105,100,101,32,48,32,48,32,51,48,46,46,51,48,10,114,105,100,101,32,49,32,48,10,100,101,109,97,110,100,32,88,32,90,32,55,10]) Tu10) (0,[],[],[],[],[],[],[],0,0) λb=>K a.1 a.2.1 a.2.2.1 a.2.2.2.1 b.1 b.2.1 b.2.2.1 b.2.2.2.1 b.2.2.2.2.1 b.2.2.2.2.2.1 b.2.2.2.2.2.2.1 b.2.2.2.2.2.2.2.1
end Go.Vx
namespace Go.Vx
open Go.Proofs
abbrev nT:List (LpE Tryz.prog):=[]
abbrev tyS(e s:Nat):TyI:=⟨.sl e s,1,24,[.slice none 0 0],[.sl s []],[],none⟩
abbrev tyN(n:Nat):TyI:=⟨.struct,n,8*n,List.replicate n (.int .i64 0),List.replicate n (.int .i64 0),(List.range n).map λi=>(i,3),some (List.replicate n (.int .i64))⟩
def gtt:TT:=[(3,⟨.int .i64,1,8,[.int .i64 0],[.int .i64 0],[],none⟩),(4,⟨.bool,1,1,[.bool false],[.bool false],[],none⟩),(5,⟨.int .u8,1,1,[.int .u8 0],[.int .u8 0],[],none⟩),(9,⟨.str,1,16,[.string ⟨#[]⟩],[.str []],[],none⟩),(22,tyS 3 1),(23,tyS 9 1),(24,tyS 62 5),(25,tyS 172 6),(27,⟨.struct,4,96,[.slice none 0 0,.slice none 0 0,.slice none 0 0,.slice none 0 0],[.sl 1 [],.sl 1 [],.sl 5 [],.sl 6 []],[(0,23),(1,23),(2,24),(3,25)],none⟩),(28,tyS 79 5),(29,tyS 66 2),(30,tyS 90 4),(31,tyS 87 7),(32,tyS 146 4),(33,tyS 93 5),(34,tyS 45 3),(36,⟨.struct,8,176,[.int .i64 0,.slice none 0 0,.slice none 0 0,.slice none 0 0,.slice none 0 0,.slice none 0 0,.slice none 0 0,.slice none 0 0],[.int .i64 0,.sl 5 [],.sl 2 [],.sl 4 [],.sl 7 [],.sl 4 [],.sl 5 [],.sl 3 []],[(0,3),(1,28),(2,29),(3,30),(4,31),(5,32),(6,33),(7,34)],none⟩),(41,⟨.int .i64,1,8,[.int .i64 0],[.int .i64 0],[],none⟩),(45,tyN 3),(50,tyS 60 3),(51,tyS 57 6),(53,⟨.struct,3,56,[.int .i64 0,.slice none 0 0,.slice none 0 0],[.int .i64 0,.sl 3 [],.sl 6 []],[(0,3),(1,50),(2,51)],none⟩),(57,tyN 6),(60,tyN 3),(62,⟨.struct,5,48,[.string ⟨#[]⟩,.int .i64 0,.int .i64 0,.int .i64 0,.int .i64 0],[.str [],.int .i64 0,.int .i64 0,.int .i64 0,.int .i64 0],[(0,9),(1,3),(2,3),(3,3),(4,3)],some [.str,.int .i64,.int .i64,.int .i64,.int .i64]⟩),(64,tyS 128 2),(66,⟨.struct,2,32,[.slice none 0 0,.int .i64 0],[.sl 2 [],.int .i64 0],[(0,64),(1,3)],none⟩),(79,⟨.struct,5,48,[.string ⟨#[]⟩,.int .i64 0,.int .i64 0,.int .i64 0,.int .i64 0],[.str [],.int .i64 0,.int .i64 0,.int .i64 0,.int .i64 0],[(0,9),(1,3),(2,3),(3,3),(4,3)],some [.str,.int .i64,.int .i64,.int .i64,.int .i64]⟩),(82,tyS 22 1),(84,⟨.struct,7,168,[.slice none 0 0,.slice none 0 0,.slice none 0 0,.slice none 0 0,.slice none 0 0,.slice none 0 0,.slice none 0 0],[.sl 1 [],.sl 1 [],.sl 5 [],.sl 6 [],.sl 1 [],.sl 1 [],.sl 1 []],[(0,27),(4,82),(5,82),(6,82)],none⟩),(87,tyN 7),(88,tyS 130 4),(90,⟨.struct,4,56,[.string ⟨#[]⟩,.int .i64 0,.int .i64 0,.slice none 0 0],[.str [],.int .i64 0,.int .i64 0,.sl 4 []],[(0,9),(1,3),(2,3),(3,88)],none⟩),(93,tyN 5),(97,⟨.ptr,1,8,[.pointer none],[],[],none⟩),(104,⟨.struct,8,160,[.int .i64 0,.slice none 0 0,.slice none 0 0,.slice none 0 0,.slice none 0 0,.slice none 0 0,.slice none 0 0,.int .i64 0],[.int .i64 0,.sl 3 [],.sl 6 [],.sl 1 [],.sl 1 [],.sl 1 [],.sl 1 [],.int .i64 0],[(0,53),(3,82),(4,22),(5,22),(6,22),(7,3)],none⟩),(105,⟨.int .u64,1,8,[.int .u64 0],[.int .u64 0],[],none⟩),(106,tyS 110 1),(110,tyS 164 3),(111,tyS 115 4),(115,tyN 4),(118,tyS 123 2),(123,tyN 2),(128,tyN 2),(130,tyN 4),(132,⟨.other,1,8,[.nilFunc],[],[],none⟩),(136,⟨.struct,2,32,[.slice none 0 0,.int .i64 0],[.sl 1 [],.int .i64 0],[(0,22),(1,3)],none⟩),(142,⟨.array 3 1 3,3,24,[.int .i64 0,.int .i64 0,.int .i64 0],[.int .i64 0,.int .i64 0,.int .i64 0],[(0,3),(1,3),(2,3)],none⟩),(144,⟨.array 4 1 4,4,4,[.bool false,.bool false,.bool false,.bool false],[.bool false,.bool false,.bool false,.bool false],[(0,4),(1,4),(2,4),(3,4)],none⟩),(146,tyN 4),(150,tyS 4 1),(152,⟨.struct,12,160,[.int .i64 0,.slice none 0 0,.slice none 0 0,.slice none 0 0,.int .i64 0,.int .i64 0,.bool false,.bool false,.bool false,.int .i64 0,.slice none 0 0,.slice none 0 0],[.int .i64 0,.sl 3 [],.sl 6 [],.sl 1 [],.int .i64 0,.int .i64 0,.bool false,.bool false,.bool false,.int .i64 0,.sl 1 [],.sl 1 []],[(0,53),(3,150),(4,3),(5,3),(6,4),(7,4),(8,4),(9,3),(10,22),(11,22)],none⟩),(164,tyN 3),(172,tyN 6),(176,tyS 181 1),(181,tyS 183 3),(183,⟨.struct,3,32,[.string ⟨#[]⟩,.int .i64 0,.int .i64 0],[.str [],.int .i64 0,.int .i64 0],[(0,9),(1,3),(2,3)],some [.str,.int .i64,.int .i64]⟩),(187,⟨.struct,13,280,[.slice none 0 0,.slice none 0 0,.slice none 0 0,.slice none 0 0,.int .i64 0,.slice none 0 0,.slice none 0 0,.slice none 0 0,.slice none 0 0,.slice none 0 0,.slice none 0 0,.slice none 0 0,.int .i64 0],[.sl 1 [],.sl 1 [],.sl 5 [],.sl 6 [],.int .i64 0,.sl 5 [],.sl 2 [],.sl 4 [],.sl 7 [],.sl 4 [],.sl 5 [],.sl 3 [],.int .i64 0],[(0,27),(4,36),(12,3)],none⟩),(189,⟨.ptr,1,8,[.pointer none],[],[],none⟩),(190,tyS 224 4),(192,⟨.struct,19,424,[.slice none 0 0,.slice none 0 0,.slice none 0 0,.slice none 0 0,.int .i64 0,.slice none 0 0,.slice none 0 0,.slice none 0 0,.slice none 0 0,.slice none 0 0,.slice none 0 0,.slice none 0 0,.slice none 0 0,.slice none 0 0,.slice none 0 0,.slice none 0 0,.int .i64 0,.slice none 0 0,.slice none 0 0],[.sl 1 [],.sl 1 [],.sl 5 [],.sl 6 [],.int .i64 0,.sl 5 [],.sl 2 [],.sl 4 [],.sl 7 [],.sl 4 [],.sl 5 [],.sl 3 [],.sl 1 [],.sl 1 [],.sl 1 [],.sl 4 [],.int .i64 0,.sl 3 [],.sl 6 []],[(0,27),(4,36),(12,22),(13,106),(14,22),(15,190),(16,53)],none⟩),(206,⟨.struct,2,48,[.slice none 0 0,.slice none 0 0],[.sl 1 [],.sl 3 []],[(0,150),(1,110)],none⟩),(209,⟨.struct,4,32,[.int .i64 0,.int .i64 0,.int .i64 0,.int .i64 0],[.int .i64 0,.int .i64 0,.int .i64 0,.int .i64 0],[(0,128),(2,3),(3,3)],some [.int .i64,.int .i64,.int .i64,.int .i64]⟩),(224,tyN 4),(228,⟨.mpb,1,8,[.map none],[],[],none⟩),(233,tyS 269 2),(238,tyS 209 4),(246,tyN 2),(261,tyS 266 2),(266,tyN 2),(269,tyN 2),(279,⟨.struct,2,32,[.slice none 0 0,.int .i64 0],[.sl 2 [],.int .i64 0],[(0,233),(1,3)],none⟩),(282,tyS 164 3),(297,tyN 2),(314,tyN 2),(319,tyS 261 1),(328,⟨.int .u32,1,4,[.int .u32 0],[.int .u32 0],[],none⟩),(331,⟨.int .u64,1,8,[.int .u64 0],[.int .u64 0],[],none⟩),(343,⟨.int .u64,1,8,[.int .u64 0],[.int .u64 0],[],none⟩)]
theorem DV:TOk Tryz.prog gtt:=(show Qhs Tryz.prog [3,4,5,9,22,23,24,25,27,28,29,30,31,32,33,34,36,41,45,50,51,53,57,60,62,64,66,79,82,84,87,88,90,93,97,104,105,106,110,111,115,118,123,128,130,132,136,142,144,146,150,152,164,172,176,181,183,187,189,190,192,206,209,224,228,233,238,246,261,266,269,279,282,297,314,319,328,331,343]=gtt by kernel_rfl)▸Qe5 _
noncomputable def bT:Nat->List (Nat×TA)->TO:=btT gtt
noncomputable def pT:Nat->Nat->List (Nat×Sp)->List Sp->List Sp:=ptT gtt
noncomputable def Xa(l:List ((f:Nat)×EnP Tryz.prog f))(cfg:List (Nat×Cfg)):VB Tryz.prog:=⟨⟨A5 (QbT l),gtt,cfg⟩,Az (Bl l),DV,by kernel_rfl⟩
abbrev LZ9:=Nat->LpE Tryz.prog
abbrev EZ9:=EnP Tryz.prog
abbrev BZ9:=VB Tryz.prog
abbrev QlL:List TA:=[.arr 98000,.arr 98001,.arr 98002,.arr 98003,.arr 98004,.arr 98005,.arr 98006]
abbrev QlM:Nat×TA:=(0,.ptr 1000000 0)
abbrev QlN:Nat×TA:=(1,tI)
abbrev QlO:Nat×TA:=(8,tI)
abbrev QlP:Nat×TO:=(98000,.arr 9 1)
abbrev QlQ:Nat×TO:=(98001,.arr 9 1)
abbrev QlR:Nat×TO:=(98002,.arr 62 5)
abbrev QlS:Nat×TO:=(98003,.arr 172 6)
abbrev QlT:Nat×TO:=(98004,.arr 22 1)
abbrev QlU:Nat×TO:=(98005,.arr 22 1)
abbrev QlV:Nat×TO:=(98006,.arr 22 1)
abbrev QlW:Nat×TO:=(1000000,.box [.arr 98000,.arr 98001,.arr 98002,.arr 98003,.arr 98004,.arr 98005,.arr 98006])
abbrev QlX:List TA:=[.l 1,tI]
abbrev QlY:Nat×TA:=(3,.ptr 14 0)
abbrev QlZ:Nat×TA:=(4,tI)
abbrev Qm0:Nat×TA:=(5,tI)
abbrev Qm1:Nat×TA:=(6,.arr 1006)
abbrev Qm2:Nat×TA:=(7,tI)
abbrev Qm3:Nat×TO:=(501401,.arr 9 1)
abbrev Qm4:Nat×TO:=(501402,.arr 62 5)
abbrev Qm5:Nat×TO:=(501403,.arr 172 6)
abbrev Qm6:Nat×TO:=(501404,.arr 22 1)
abbrev Qm7:Nat×TO:=(501405,.arr 22 1)
abbrev Qm8:Nat×TO:=(501406,.arr 22 1)
abbrev Qm9:Nat×TO:=(1000000,.box [.l 1,tI])
abbrev Qma:List TA:=[.arr 501400,.arr 501401,.arr 501402,.arr 501403,.arr 501404,.arr 501405,.arr 501406]
abbrev Qmb:Nat×TO:=(14,.box [.arr 501400,.arr 501401,.arr 501402,.arr 501403,.arr 501404,.arr 501405,.arr 501406])
abbrev Qmc:Nat×TO:=(501400,.arr 9 1)
abbrev Qmd:Nat×TA:=(9,tI)
abbrev Qme:Nat×TA:=(11,tI)
abbrev Qmf:List (Nat×TO):=[(14,.box [.arr 501400,.arr 501401,.arr 501402,.arr 501403,.arr 501404,.arr 501405,.arr 501406]),(1010,.arr 3 1),(501400,.arr 9 1),(501401,.arr 9 1),(501402,.arr 62 5),(501403,.arr 172 6),(501404,.arr 22 1),(501405,.arr 22 1),(501406,.arr 22 1),(1000000,.box [.l 1,tI])]
abbrev Qmg:Nat×TA:=(12,tI)
abbrev Qmh:List TA:=[.nil,.ci .i64 0]
abbrev Qmi:Nat×TA:=(3,tI)
abbrev Qmj:Nat×TA:=(10,.ptr 10 0)
abbrev Qmk:Nat×TA:=(2,tI)
abbrev Qml:Nat×TA:=(15,tI)
abbrev Qmm:List TA:=[tI,.arr 98361,.arr 98362,.arr 98363,.arr 98364,.arr 98365,.arr 98366,.arr 98367]
abbrev Qmn:Nat×TO:=(1000009,.box [tI,.arr 98361,.arr 98362,.arr 98363,.arr 98364,.arr 98365,.arr 98366,.arr 98367])
abbrev Qmo:Nat×TA:=(13,tI)
abbrev Qmp:List TA:=[tI,.arr 98041,.arr 98042,.arr 98043,.arr 98044,.arr 98045,.arr 98046,.arr 98047]
abbrev Qmq:Nat×TA:=(6,tI)
abbrev Qmr:Nat×TA:=(14,tI)
abbrev Qms:List (Nat×TO):=[(4,.arr 144 1),(5,.arr 144 1),(98041,.arr 79 5),(98042,.arr 66 2),(98043,.arr 90 4),(98044,.arr 87 7),(98045,.arr 146 4),(98046,.arr 93 5),(98047,.arr 45 3),(1000000,.box [.l 1,tI]),(1000001,.box [tI,.arr 98041,.arr 98042,.arr 98043,.arr 98044,.arr 98045,.arr 98046,.arr 98047])]
abbrev Qmt:Nat×TO:=(1000001,.box [tI,.arr 98041,.arr 98042,.arr 98043,.arr 98044,.arr 98045,.arr 98046,.arr 98047])
abbrev Qmu:List TA:=[.nil,.nil,.nil,.nil]
abbrev Qmv:List TA:=[.ci .i64 0,.nil,.nil,.nil,.nil,.nil,.nil,.nil]
abbrev Qmw:List TA:=[.arr 100015,.arr 150015,.arr 200015,.arr 250015,.arr 300015,.arr 350015,.arr 400015]
abbrev Qmx:Nat×TA:=(2,.ptr 2 0)
abbrev Qmy:Nat×TA:=(3,.ptr 3 0)
abbrev Qmz:Nat×TA:=(4,.ptr 50013 0)
abbrev QmA:Nat×TA:=(5,.ptr 50015 0)
abbrev QmB:Nat×TA:=(6,.ptr 6 0)
abbrev QmC:Nat×TO:=(2,.box [.nil,.nil,.nil,.nil])
abbrev QmD:Nat×TO:=(3,.box [.ci .i64 0,.nil,.nil,.nil,.nil,.nil,.nil,.nil])
abbrev QmE:Nat×TO:=(50013,.box [.l 1,tI])
abbrev QmF:Nat×TO:=(50015,.box [.arr 100015,.arr 150015,.arr 200015,.arr 250015,.arr 300015,.arr 350015,.arr 400015])
abbrev QmG:Nat×TO:=(100015,.arr 9 1)
abbrev QmH:Nat×TO:=(150015,.arr 9 1)
abbrev QmI:Nat×TO:=(200015,.arr 62 5)
abbrev QmJ:Nat×TO:=(250015,.arr 172 6)
abbrev QmK:Nat×TO:=(300015,.arr 22 1)
abbrev QmL:Nat×TO:=(350015,.arr 22 1)
abbrev QmM:Nat×TO:=(400015,.arr 22 1)
abbrev QmN:List TA:=[tI,.arr 50061,.arr 100061,.arr 150061,.arr 200061,.arr 250061,.arr 300061,.arr 350061]
abbrev QmO:Nat×TO:=(6,.box [tI,.arr 50061,.arr 100061,.arr 150061,.arr 200061,.arr 250061,.arr 300061,.arr 350061])
abbrev QmP:Nat×TO:=(100061,.arr 66 2)
abbrev QmQ:Nat×TO:=(150061,.arr 90 4)
abbrev QmR:Nat×TO:=(200061,.arr 87 7)
abbrev QmS:Nat×TO:=(250061,.arr 146 4)
abbrev QmT:List TA:=[tI,.nil,.nil,.nil,.nil,.nil,.nil,.nil]
abbrev QmU:List (Nat×TA):=[(2,.ptr 2 0),(3,.ptr 3 0),(4,.ptr 50013 0),(5,.ptr 50015 0),(6,.ptr 6 0),(10,tI)]
abbrev QmV:Nat×TA:=(10,tI)
abbrev QmW:Nat×TO:=(3,.box [tI,.nil,.nil,.nil,.nil,.nil,.nil,.nil])
abbrev QmX:Nat×TA:=(1,.ptr 1 0)
abbrev QmY:Nat×TA:=(3,.arr 1003)
abbrev QmZ:Nat×TO:=(1,bT 27 [])
abbrev Qn0:List TA:=[tI,tI]
abbrev Qn1:Nat×TA:=(5,.ptr 5 0)
abbrev Qn2:Nat×TA:=(7,.ptr 7 0)
abbrev Qn3:Nat×TO:=(3,bT 27 [])
abbrev Qn4:Nat×TO:=(5,.box [tI,tI])
abbrev Qn5:Nat×TO:=(2,bT 27 [])
abbrev Qn6:Nat×TA:=(7,.l 1)
abbrev Qn7:Nat×TO:=(2,bT 36 [])
abbrev Qn8:List TA:=[.ci .i64 0,.ci .i64 0,.ci .i64 0,.ci .i64 0]
abbrev Qn9:List TA:=[.x,.x,.x,.x]
abbrev Qna:List TA:=[.l 2,tI]
abbrev Qnb:List (Nat×TO):=[(2,bT 27 []),(3,.box [.l 2,tI])]
abbrev Qnc:Nat×TO:=(3,.box [.l 2,tI])
abbrev Qnd:Nat×TA:=(8,.arr 1008)
abbrev Qne:List (Nat×TO):=[(2,bT 27 []),(3,.box [.l 2,tI]),(1008,.arr 269 2)]
abbrev Qnf:Nat×TA:=(4,.ptr 4 0)
abbrev Qng:Nat×TO:=(5,bT 79 [])
abbrev Qnh:List (Nat×TO):=[(3,bT 27 []),(4,bT 36 []),(7,.box [.x,.x,.x,.x])]
abbrev Qni:Nat×TO:=(4,bT 36 [])
abbrev Qnj:Nat×TO:=(7,.box [.x,.x,.x,.x])
abbrev Qnk:List (Nat×TO):=[(2,bT 27 []),(3,bT 36 [])]
abbrev Qnl:Nat×TO:=(3,bT 36 [])
abbrev Qnm:Nat×TA:=(0,.l 2)
abbrev Qnn:Nat×TA:=(0,tI)
abbrev Qno:List (Nat×TO):=[(5,bT 79 []),(29,.arr 3 1)]
abbrev Qnp:Nat×TO:=(29,.arr 3 1)
abbrev Qnq:Nat×TA:=(7,.arr 1007)
abbrev Qnr:Nat×TA:=(18,tI)
abbrev Qns:Nat×TO:=(6,.box [.l 2,tI])
abbrev Qnt:List (Nat×TO):=[(2,bT 27 []),(3,bT 36 []),(10,.box [.x,.x,.x,.x]),(1007,.arr 110 1),(1008,.arr 3 1)]
abbrev Qnu:Nat×TO:=(1007,.arr 110 1)
abbrev Qnv:Nat×TO:=(1008,.arr 3 1)
abbrev Qnw:List (Nat×TO):=[(2,bT 27 []),(3,bT 36 []),(1007,.arr 110 1),(1008,.arr 3 1)]
abbrev Qnx:List (Nat×TA):=[(1,.l 1),(2,.ptr 2 0),(5,.arr 1005),(6,tI),(7,.ptr 7 0),(8,tI)]
abbrev Qny:Nat×TA:=(1,.l 1)
abbrev Qnz:Nat×TA:=(5,.arr 1005)
abbrev QnA:List (Nat×TA):=[(1,.l 1),(2,.ptr 2 0),(5,.arr 1005),(6,tI)]
abbrev QnB:List TA:=[.ci .i64 0,.ci .i64 0,.ci .i64 0]
abbrev QnC:List (Nat×TO):=[(4,.box [.ci .i64 0,.ci .i64 0,.ci .i64 0])]
abbrev QnD:Nat×TO:=(4,.box [.ci .i64 0,.ci .i64 0,.ci .i64 0])
abbrev QnE:List (Nat×TO):=[(1,bT 36 []),(1003,.arr 57 6)]
abbrev QnF:List TA:=[.ci .i64 0,.nil,.nil]
abbrev QnG:Nat×TA:=(6,.l 1)
abbrev QnH:List (Nat×TO):=[(3,bT 36 []),(4,.box [.ci .i64 0,.nil,.nil])]
abbrev QnI:Nat×TO:=(4,.box [.ci .i64 0,.nil,.nil])
abbrev QnJ:Nat×TA:=(10,.l 4)
abbrev QnK:Nat×TA:=(12,.ptr 12 0)
abbrev QnL:Nat×TO:=(4,.box [tI,.nil,.nil])
abbrev QnM:Nat×TO:=(1121,.arr 60 3)
abbrev QnN:List TA:=[tI,.arr 1121,.arr 107]
abbrev QnO:Nat×TA:=(19,tI)
abbrev QnP:List (Nat×TO):=[(3,bT 36 []),(4,.box [tI,.nil,.nil]),(12,.box [tI,.arr 1121,.arr 107]),(107,.arr 57 6),(1121,.arr 60 3)]
abbrev QnQ:Nat×TO:=(12,.box [tI,.arr 1121,.arr 107])
abbrev QnR:List TA:=[tI,.l 3,.l 6]
abbrev QnS:Nat×TO:=(1,.box [tI,.l 3,.l 6])
abbrev QnT:Nat×TA:=(0,.arr 1000000)
abbrev QnU:Nat×TO:=(16,.arr 3 1)
abbrev QnV:Nat×TA:=(27,tI)
abbrev QnW:Nat×TO:=(19,.arr 3 1)
abbrev QnX:List (Nat×TO):=[(2,.box [tI,.l 3,.l 6])]
abbrev QnY:Nat×TO:=(2,.box [tI,.l 3,.l 6])
abbrev QnZ:List (Nat×TA):=[(3,.arr 98003),(11,.arr 98011)]
abbrev Qo0:List (Nat×TA):=[(0,.ptr 1000000 0),(1,tI),(5,tI),(6,tI)]
abbrev Qo1:List (Nat×TO):=[(98003,.arr 4 1),(98011,.arr 3 1),(1000000,bT 152 [(3,.arr 98003),(11,.arr 98011)])]
abbrev Qo2:Nat×TO:=(1000000,bT 152 [(3,.arr 98003),(11,.arr 98011)])
abbrev Qo3:List (Nat×Sp):=[(3,eR 1000001 4 1),(11,eR 1000002 3 1)]
abbrev Qo4:List TA:=[.l 1,.l 1,.l 5,.l 6,tI,.arr 98005,.arr 98006,.arr 98007,.arr 98008,.arr 98009,.arr 98010,.arr 98011,tI]
abbrev Qo5:List (Nat×TO):=[(98005,.arr 79 5),(98006,.arr 66 2),(98007,.arr 90 4),(98008,.arr 87 7),(98009,.arr 146 4),(98010,.arr 93 5),(98011,.arr 45 3),(1000000,.box [.l 1,.l 1,.l 5,.l 6,tI,.arr 98005,.arr 98006,.arr 98007,.arr 98008,.arr 98009,.arr 98010,.arr 98011,tI])]
abbrev Qo6:Nat×TO:=(98005,.arr 79 5)
abbrev Qo7:Nat×TO:=(98006,.arr 66 2)
abbrev Qo8:Nat×TO:=(98007,.arr 90 4)
abbrev Qo9:Nat×TO:=(98008,.arr 87 7)
abbrev Qoa:Nat×TO:=(98009,.arr 146 4)
abbrev Qob:Nat×TO:=(98010,.arr 93 5)
abbrev Qoc:Nat×TO:=(98011,.arr 45 3)
abbrev Qod:Nat×TO:=(1000000,.box [.l 1,.l 1,.l 5,.l 6,tI,.arr 98005,.arr 98006,.arr 98007,.arr 98008,.arr 98009,.arr 98010,.arr 98011,tI])
abbrev Qoe:List (Nat×TA):=[(12,.arr 98012),(13,.arr 98013),(14,.arr 98014),(15,.arr 98015),(17,.arr 98017),(18,.arr 98018)]
abbrev Qof:List (Nat×TO):=[(98012,.arr 3 1),(98013,.arr 110 1),(98014,.arr 3 1),(98015,.arr 224 4),(98017,.arr 60 3),(98018,.arr 57 6),(1000000,bT 192 [(12,.arr 98012),(13,.arr 98013),(14,.arr 98014),(15,.arr 98015),(17,.arr 98017),(18,.arr 98018)])]
abbrev Qog:Nat×TO:=(98012,.arr 3 1)
abbrev Qoh:Nat×TO:=(98015,.arr 224 4)
abbrev Qoi:Nat×TO:=(98017,.arr 60 3)
abbrev Qoj:Nat×TO:=(98018,.arr 57 6)
abbrev Qok:Nat×TO:=(1000000,bT 192 [(12,.arr 98012),(13,.arr 98013),(14,.arr 98014),(15,.arr 98015),(17,.arr 98017),(18,.arr 98018)])
abbrev Qol:List (Nat×Sp):=[(12,eR 1000001 3 1),(15,eR 1000002 224 4),(17,eR 1000003 60 3),(18,eR 1000004 57 6)]
abbrev Qom:List (Nat×TA):=[(12,.arr 98012),(15,.arr 98015),(17,.arr 98017),(18,.arr 98018)]
abbrev Qon:List (Nat×TO):=[(98012,.arr 3 1),(98015,.arr 224 4),(98017,.arr 60 3),(98018,.arr 57 6),(1000000,bT 192 [(12,.arr 98012),(15,.arr 98015),(17,.arr 98017),(18,.arr 98018)])]
abbrev Qoo:Nat×TO:=(1000000,bT 192 [(12,.arr 98012),(15,.arr 98015),(17,.arr 98017),(18,.arr 98018)])
abbrev Qop:List (Nat×TA):=[(12,.arr 98012),(17,.arr 98017),(18,.arr 98018)]
abbrev Qoq:List TA:=[.ptr 1000000 0]
abbrev Qor:Nat×TA:=(2,.fn 134 [.ptr 1000004 0,.ptr 1000005 0,.ptr 1000006 0])
abbrev Qos:Nat×TO:=(4,bT 224 [])
abbrev Qot:Nat×TO:=(1000000,bT 192 [(12,.arr 98012),(17,.arr 98017),(18,.arr 98018)])
abbrev Qou:List (Nat×Sp):=[(12,eR 1000001 3 1),(17,eR 1000002 60 3),(18,eR 1000003 57 6)]
abbrev Qov:List (Nat×TO):=[(98012,.arr 3 1),(98017,.arr 60 3),(98018,.arr 57 6),(1000000,bT 192 [(12,.arr 98012),(17,.arr 98017),(18,.arr 98018)])]
abbrev Qow:List (Nat×TO):=[(1000000,.arr 266 2)]
abbrev Qox:Nat×TO:=(1000000,.arr 266 2)
abbrev Qoy:List (Nat×Sp):=[(3,eR 1000001 22 1),(4,eR 1000002 3 1),(5,eR 1000003 3 1),(6,eR 1000004 3 1)]
abbrev Qoz:List TA:=[tI,.l 3,.l 6,.arr 98003,.arr 98004,.arr 98005,.arr 98006,tI]
abbrev QoA:List (Nat×TO):=[(19,.arr 3 1),(98003,.arr 22 1),(98004,.arr 3 1),(98005,.arr 3 1),(98006,.arr 3 1),(1000000,.box [tI,.l 3,.l 6,.arr 98003,.arr 98004,.arr 98005,.arr 98006,tI])]
abbrev QoB:Nat×TO:=(98003,.arr 22 1)
abbrev QoC:Nat×TO:=(98004,.arr 3 1)
abbrev QoD:Nat×TO:=(98005,.arr 3 1)
abbrev QoE:Nat×TO:=(98006,.arr 3 1)
abbrev QoF:Nat×TO:=(1000000,.box [tI,.l 3,.l 6,.arr 98003,.arr 98004,.arr 98005,.arr 98006,tI])
abbrev QoG:List TA:=[tI,.l 3,.l 6,.arr 50049,.arr 100049,.arr 150049,.arr 200049,tI]
abbrev QoH:List (Nat×TO):=[(1019,.arr 3 1),(50027,.box [tI,.l 3,.l 6,.arr 50049,.arr 100049,.arr 150049,.arr 200049,tI]),(50049,.arr 22 1),(100049,.arr 3 1),(150049,.arr 3 1),(200049,.arr 3 1)]
abbrev QoI:Nat×TO:=(50027,.box [tI,.l 3,.l 6,.arr 50049,.arr 100049,.arr 150049,.arr 200049,tI])
abbrev QoJ:Nat×TO:=(1000000,.box QlL)
abbrev QoK:Nat×TO:=(1000000,.box QlX)
abbrev QoL:Nat×TO:=(14,.box Qma)
abbrev QoM:List (Nat×TO):=[(14,.box Qma),(1010,.arr 3 1),Qmc,Qm3,Qm4,Qm5,Qm6,Qm7,Qm8,(1000000,.box QlX)]
abbrev QoN:List (Nat×TO):=[(4,.arr 144 1),(5,.arr 144 1),(98041,.arr 79 5),(98042,.arr 66 2),(98043,.arr 90 4),(98044,.arr 87 7),(98045,.arr 146 4),(98046,.arr 93 5),(98047,.arr 45 3),(1000000,.box QlX),(1000001,.box Qmp)]
abbrev QoO:Nat×TO:=(2,.box Qmu)
abbrev QoP:Nat×TO:=(50013,.box QlX)
abbrev QoQ:Nat×TO:=(50015,.box Qmw)
abbrev QoR:Nat×TO:=(5,.box Qn0)
abbrev QoS:List (Nat×TO):=[Qn5,(3,.box Qna)]
abbrev QoT:Nat×TO:=(3,.box Qna)
abbrev QoU:List (Nat×TO):=[Qnl,QnL,(12,.box QnN),(107,.arr 57 6),QnM]
abbrev QoV:List (Nat×TO):=[(98003,.arr 4 1),(98011,.arr 3 1),(1000000,bT 152 QnZ)]
abbrev QoW:List (Nat×TO):=[Qo6,Qo7,Qo8,Qo9,Qoa,Qob,Qoc,(1000000,.box Qo4)]
abbrev QoX:Nat×TO:=(1000000,.box Qo4)
abbrev QoY:List (Nat×TO):=[Qog,(98013,.arr 110 1),(98014,.arr 3 1),Qoh,Qoi,Qoj,(1000000,bT 192 Qoe)]
abbrev QoZ:List (Nat×TO):=[Qog,Qoh,Qoi,Qoj,(1000000,bT 192 Qom)]
abbrev Qp0:Nat×TO:=(1000000,bT 192 Qom)
abbrev Qp1:Nat×TO:=(1000000,bT 192 Qop)
abbrev Qp2:List (Nat×TO):=[Qog,Qoi,Qoj,(1000000,bT 192 Qop)]
abbrev Qp3:List (Nat×TO):=[QnW,QoB,QoC,QoD,QoE,(1000000,.box Qoz)]
abbrev Qp4:Nat×TO:=(1000000,.box Qoz)
abbrev Qp5:List (Nat×TO):=[(1019,.arr 3 1),(50027,.box QoG),(50049,.arr 22 1),(100049,.arr 3 1),(150049,.arr 3 1),(200049,.arr 3 1)]
end Go.Vx
namespace Go.Vx
variable{R:Type} (n:Nat)
def RU(a:List UInt8)(k0:Qlr R)(k1:Qlk R):Qll R
|0,_=>none
|m+1,h2=>Qb R (wJ (h2+1)) λc=>Qa R (decide (c<(a.length:Int))) λb=>bif b then Qc R (Zj a h2) λf=>Qd R (f==46) (Zj a c) λg=>bif Q9 (f==46) (g==46)then Qc R (slB a.length none (some h2)) λh=>Qc R (WU n (cut a h) Tu2) λd=>Qc R (slB a.length (some (wJ (h2+2))) none) λi=>Qc R (WU n (cut a i) Tu2) λe=>bif Q8 (Q8 (!d.2) (!e.2)) (decide (d.1>e.1))then k0 0 0 false else k0 d.1 e.1 true else RU a k0 k1 m c else k1 h2 b
def Q8v(a0:List UInt8)(K:Qlr R):oP R:=RU n a0 (λa b c=>K a b c) (λd e=>K 0 0 false) n 0
def HA(n:Nat)(a b:Int)(K:Qlj R):oP R:=K (wJ (wJ (2*a)+b))
def NZ(n:Nat)(a0 a1:Int)(K:Qlq R):oP R:=Qc R (Ab 32) λa=>K (IntKind.wrap .u32 (shR .u64 (IntKind.wrap .u64 (IntKind.wrap .u64 a0*IntKind.wrap .u64 a1)) 32)) (IntKind.wrap .u32 (IntKind.wrap .u64 (IntKind.wrap .u64 a0*IntKind.wrap .u64 a1)))
def Ty(n:Nat)(a0 a1:Int)(K:Qlq R):oP R:=Qc R (Ab 32) λa=>Qc R (Ab 32) λb=>Qc R (Ab 32) λc=>Qc R (Ab 32) λd=>Qc R (Ab 32) λe=>K (IntKind.wrap .u64 (IntKind.wrap .u64 (IntKind.wrap .u64 (shR .u64 a0 32*shR .u64 a1 32)+shR .u64 (IntKind.wrap .u64 (IntKind.wrap .u64 (shR .u64 a0 32*Q7i .u64 a1 4294967295)+shR .u64 (IntKind.wrap .u64 (Q7i .u64 a0 4294967295*Q7i .u64 a1 4294967295)) 32)) 32)+shR .u64 (IntKind.wrap .u64 (Q7i .u64 (IntKind.wrap .u64 (IntKind.wrap .u64 (shR .u64 a0 32*Q7i .u64 a1 4294967295)+shR .u64 (IntKind.wrap .u64 (Q7i .u64 a0 4294967295*Q7i .u64 a1 4294967295)) 32)) 4294967295+IntKind.wrap .u64 (Q7i .u64 a0 4294967295*shR .u64 a1 32))) 32)) (IntKind.wrap .u64 (a0*a1))
def Tc(a0 a1:Int)(K:Qlq R):oP R:=bif false then Qc R (NZ n (IntKind.wrap .u32 a0) (IntKind.wrap .u32 a1) Tu2) λa=>K (IntKind.wrap .u64 a.1) (IntKind.wrap .u64 a.2)else Qc R (Ty n a0 a1 Tu2) λc=>K c.1 c.2
end Go.Vx
set_option maxRecDepth 100000
namespace Go.Vx
open Go.Proofs
variable(n:Nat)
def Q6v:EZ9 20:=mkW (Xa [] []).ok nT 20 Tryz.f20 [sL 1] [eP 5 2,sL 1,sI] [] 0 0 @AY n
def Q6j:EZ9 12:=mkD (Xa [] []).ok nT 12 Tryz.f12 0 @Ea n
def Uh:EZ9 22:=mkW (Xa [⟨12,Q6j n⟩] []).ok nT 22 Tryz.f22 [eP 1000000 2,sL 1,sI,sI] [sI] [] 0 2 @Qm n
def Mi:EZ9 48:=mkD (Xa [] []).ok nT 48 Tryz.f48 0 @VA n
def Mm:EZ9 49:=mkW (Xa [⟨22,Uh n⟩] []).ok nT 49 Tryz.f49 [eP 1000000 2,sL 1,sI,sT,sI] [eA [qT,qI,qI,qI,qI]] [] 0 32 @WG n
def M2:EZ9 50:=mkW (Xa [] []).ok nT 50 Tryz.f50 [eP 1000000 7,eR 1000001 9 1,eR 1000002 9 1,eR 1000003 62 5,eR 1000004 172 6,eR 1000005 22 1,eR 1000006 22 1,eR 1000007 22 1,eA [qT,qI,qI,qI,qI]] [sI] [] 123 246 @Zi n
def Ka:EZ9 51:=mkW (Xa [] []).ok nT 51 Tryz.f51 [eP 1000000 7,eR 1000001 9 1,eR 1000002 9 1,eR 1000003 62 5,eR 1000004 172 6,eR 1000005 22 1,eR 1000006 22 1,eR 1000007 22 1,sI,sI,sI,sI] [eT 0] [] 119 119 @Ym n
def Rl:EZ9 70:=mkW (Xa [⟨48,Mi n⟩] []).ok nT 70 Tryz.f70 [eP 1000000 7,eR 1000001 9 1,eR 1000002 9 1,eR 1000003 62 5,eR 1000004 172 6,eR 1000005 22 1,eR 1000006 22 1,eR 1000007 22 1] [sI] [] 125 250 @Zy n
def K7:BZ9:=Xa [⟨70,Rl n⟩,⟨51,Ka n⟩] []
def Nt:LZ9:=mkU (K7 n).ok nT 4 Tryz.f52 [QlM,QlN,(2,.l 1),(3,.b),QlO,(16,tI),(17,tI)] [QlP,QlQ,QlR,QlS,QlT,QlU,QlV,QoJ] 39973 [xE 0 [(18,.b)]] @QO n
def NT:EZ9 52:=mkW (K7 n).ok [Nt n n] 52 Tryz.f52 [eP 1000000 7,eR 1000001 9 1,eR 1000002 9 1,eR 1000003 62 5,eR 1000004 172 6,eR 1000005 22 1,eR 1000006 22 1,eR 1000007 22 1,sI,sL 1,sB] [eT 0] [] 117 117 @Vf n
def Kp:BZ9:=Xa [⟨22,Uh n⟩,⟨48,Mi n⟩,⟨49,Mm n⟩,⟨50,M2 n⟩,⟨51,Ka n⟩,⟨52,NT n⟩] [(3,⟨[],[],[],[(14,0,501400,9,1),(14,1,501401,9,1),(14,2,501402,62,5),(14,3,501403,172,6),(14,4,501404,22,1),(14,5,501405,22,1),(14,6,501406,22,1)],[]⟩),(8,⟨[],[],[(6,1006,3,1)],[],[]⟩),(19,⟨[],[],[(10,1010,3,1)],[],[]⟩)]
def Q6y:LZ9:=mkU (Kp n).ok nT 9 Tryz.f21 [QlM,QlY,QlZ,Qm0,Qm1,Qm2] [(14,.box [.arr 32,.arr 501401,.arr 501402,.arr 501403,.arr 501404,.arr 501405,.arr 501406]),(32,.arr 9 1),(1006,.arr 3 1),Qm3,Qm4,Qm5,Qm6,Qm7,Qm8,QoK] 1241670 [xE 2 [(40,.b)]] @JW n
def Q6m:LZ9:=mkU (Kp n).ok [Q6y n n] 4 Tryz.f21 [QlM,QlY,QlZ,Qm0] [QoL,Qmc,(501401,.arc 9 1),Qm4,(501403,.arc 172 6),Qm6,(501405,.arc 22 1),(501406,.arc 22 1),QoK] 1942 [xE 0 [(20,.b)]] @UD n
def Q6f:LZ9:=mkU (Kp n).ok nT 20 Tryz.f21 [QlM,QlY,QlZ,Qmd,(10,.arr 1010),Qme] QoM 1241562 [xE 6 [(80,.b)]] @JU n
def Q5k:LZ9:=mkU (Kp n).ok nT 24 Tryz.f21 [QlM,QlY,QlZ,Qmd,(10,.arr 1010),Qmg] QoM 4419 [xE 8 [(98,.b)]] @SO n
def Q5J:LZ9:=mkU (Kp n).ok [Q6f n n,Q5k n n] 16 Tryz.f21 [QlM,QlY,QlZ,Qmd] [QoL,Qmc,Qm3,Qm4,Qm5,Qm6,Qm7,(501406,.arc 22 1),QoK] 51739 [xE 4 [(73,.b)]] @Ur n
def Q82:EZ9 21:=mkW (Kp n).ok [Q6m n n,Q5J n n] 21 Tryz.f21 [eP 1000000 2,sL 1,sI] [eP 14 7,eR 501400 9 1,eR 501401 9 1,eR 501402 62 5,eR 501403 172 6,eR 501404 22 1,eR 501405 22 1,eR 501406 22 1] [] 0 128 @Q2W n
def UZ(n:Nat):BZ9:=Xa [] []
def SD:LZ9:=mkU (UZ n).ok nT 6 Tryz.f53 [QlN,Qmi,Qmj,(11,.l 1),(12,.arr 98004),(13,.ptr 13 0),(48,tI),(49,tI)] [(10,.box Qmh),(13,.box [.arr 45,.ci .i64 0]),(45,.arr 128 2),QlP,QlQ,QlR,QlS,QlT,QlU,QlV,QoJ] 684 [xE 0 [(50,.b)]] @ZJ n
def S5:LZ9:=mkU (UZ n).ok nT 14 Tryz.f53 [QlN,Qmk,Qmj,(11,.l 1),(12,.arr 98004),(13,.ptr 13 0),Qml] [(10,.box Qmh),(13,.box [.arr 104,.ci .i64 0]),(104,.arr 128 2),QlP,QlQ,QlR,QlS,QlT,QlU,QlV,QoJ] 225 [xE 2 [(110,.b)]] @ZQ n
def RO:EZ9 53:=mkW (UZ n).ok [SD n n,S5 n n] 53 Tryz.f53 [eP 1000000 7,eR 1000001 9 1,eR 1000002 9 1,eR 1000003 62 5,eR 1000004 172 6,eR 1000005 22 1,eR 1000006 22 1,eR 1000007 22 1,sI,sI,sI,sB] [eO 2,eR 96001 128 2,sI] [] 79 508 @YG n
def Vl:BZ9:=Xa [⟨48,Mi n⟩,⟨22,Uh n⟩,⟨53,RO n⟩] [(7,⟨[],[],[],[(10,3,1103,130,4)],[]⟩)]
def Rc:LZ9:=mkU (Vl n).ok nT 3 Tryz.f23 [QlM,(1,.ptr 1000008 0),(2,.ptr 1000009 0),(3,.b),QlZ,Qmj,(11,.ac 11 0 0),(25,tI)] [(10,.box [.t,.ci .i64 0,tI,.nil]),(11,.arr 142 1),QlP,QlQ,QlR,QlS,QlT,QlU,QlV,(98361,.arr 79 5),(98362,.arr 66 2),(98363,.arr 90 4),(98364,.arr 87 7),(98365,.arr 146 4),(98366,.arr 93 5),(98367,.arr 45 3),QoJ,(1000008,.box QlX),(1000009,.box Qmm)] 24407491311 [xE 0 [(26,.b)]] @Wd n
def RL:LZ9:=mkU (Vl n).ok nT 8 Tryz.f23 [QlM,(1,.ptr 1000008 0),(2,.ptr 1000009 0),(3,.b),QlZ,Qmj,(11,.ac 11 0 0),Qmo] [(10,.box [.t,.ci .i64 0,tI,.arr 1103]),(11,.arr 142 1),(1103,.arr 130 4),QlP,QlQ,QlR,QlS,QlT,QlU,QlV,(98361,.arr 79 5),(98362,.arr 66 2),(98363,.arr 90 4),(98364,.arr 87 7),(98365,.arr 146 4),(98366,.arr 93 5),(98367,.arr 45 3),QoJ,(1000008,.box QlX),(1000009,.box Qmm)] 73251880546 [xE 2 [(35,.b)]] @QS n
def No:EZ9 23:=mkW (Vl n).ok [Rc n n,RL n n] 23 Tryz.f23 [eP 1000000 7,eR 1000001 9 1,eR 1000002 9 1,eR 1000003 62 5,eR 1000004 172 6,eR 1000005 22 1,eR 1000006 22 1,eR 1000007 22 1,eP 1000008 2,sL 1,sI,eP 1000009 8,sI,eR 1000010 79 5,eR 1000011 66 2,eR 1000012 90 4,eR 1000013 87 7,eR 1000014 146 4,eR 1000015 93 5,eR 1000016 45 3,sB,sI] [eT 0] [] 124495 124671 @UN n
def Aw:EZ9 25:=mkD (Xa [] []).ok nT 25 Tryz.f25 0 @Me n
def Ce:EZ9 26:=mkD (Xa [] []).ok nT 26 Tryz.f26 0 @S7 n
def Hz:BZ9:=Xa [⟨22,Uh n⟩,⟨25,Aw n⟩,⟨26,Ce n⟩] []
def CY:LZ9:=mkU (Hz n).ok nT 5 Tryz.f24 [QlM,(1,.ptr 1000001 0),(4,.ac 4 0 0),(5,.ac 5 0 0),Qmq,Qmo,Qmr,(21,tI),(22,tI)] QoN 79097176 [xE 2 [(23,.b)]] @YA n
def B0:LZ9:=mkU (Hz n).ok [CY n n] 2 Tryz.f24 [QlM,(1,.ptr 1000001 0),(4,.ac 4 0 0),(5,.ac 5 0 0),Qmo,Qmr] QoN 2929525 [xE 0 [(15,.b)]] @U1 n
def BE:EZ9 24:=mkW (Hz n).ok [B0 n n] 24 Tryz.f24 [eP 1000000 2,sL 1,sI,eP 1000001 8,sI,eR 1000002 79 5,eR 1000003 66 2,eR 1000004 90 4,eR 1000005 87 7,eR 1000006 146 4,eR 1000007 93 5,eR 1000008 45 3] [eT 0] [] 0 893 @RJ n
def H8:BZ9:=Xa [⟨20,Q6v n⟩,⟨21,Q82 n⟩,⟨22,Uh n⟩,⟨23,No n⟩,⟨24,BE n⟩,⟨25,Aw n⟩,⟨26,Ce n⟩] [(4,⟨[],[],[],[(6,2,500602,66,2),(6,3,500603,90,4),(6,4,500604,87,7),(6,5,500605,146,4),(6,6,500606,93,5),(6,7,500607,45,3)],[]⟩)]
def Q3Z:LZ9:=mkU (H8 n).ok nT 5 Tryz.f7 [Qmx,Qmy,Qmz,QmA,QmB,Qm2] [QoO,(3,.box Qmv),(6,.box [tI,.arr 37,.arr 500602,.arr 500603,.arr 500604,.arr 500605,.arr 500606,.arr 500607]),(37,.arr 79 5),QoP,QoQ,QmG,QmH,QmI,QmJ,QmK,QmL,QmM,(500602,.arr 66 2),(500603,.arr 90 4),(500604,.arc 87 7),(500605,.arc 146 4),(500606,.arc 93 5),(500607,.arc 45 3)] 4330451 [xE 0 [(43,.b)]] @G2 n
def Q3y:LZ9:=mkU (H8 n).ok nT 10 Tryz.f7 [Qmx,Qmy,Qmz,QmA,QmB,QlO] [QoO,(3,.box Qmv),(6,.box QmN),QoP,QoQ,(50061,.arr 79 5),QmG,QmP,QmH,QmQ,QmI,QmR,QmJ,QmS,QmK,(300061,.arc 93 5),QmL,(350061,.arc 45 3),QmM] 676661 [xE 2 [(71,.b)]] @J0 n
def Q4t:LZ9:=mkU (H8 n).ok nT 22 Tryz.f7 QmU [QoO,(3,.box QmT),(6,.box [tI,.arr 50061,.arr 100061,.arr 150061,.arr 200061,.arr 250061,.arr 175,.arr 350061]),(175,.arr 93 5),QoP,QoQ,(50061,.arr 79 5),QmG,QmP,QmH,QmQ,QmI,QmR,QmJ,QmS,QmK,QmL,(350061,.arr 45 3),QmM] 258283082 [xE 4 [(180,.b)]] @V8 n
def Q4Y:LZ9:=mkU (H8 n).ok nT 22 Tryz.f7 QmU [QoO,(3,.box QmT),(6,.box QmN),QoP,QoQ,(50061,.arr 79 5),QmG,QmP,QmH,QmQ,QmI,QmR,QmJ,QmS,QmK,(300061,.arr 93 5),QmL,(350061,.arr 45 3),QmM] 258281246 [.f (.exit 4) [(2,.ptr 2 0),(3,.ptr 3 0),(4,.ptr 50013 0),(5,.ptr 50015 0),(6,.ptr 6 0),(10,tI),(180,.b)] [(2,.box Qmu),(3,.box QmT),(6,.box QmN),(50013,.box QlX),(50015,.box Qmw),(50061,.arr 79 5),(100015,.arr 9 1),(100061,.arr 66 2),(150015,.arr 9 1),(150061,.arr 90 4),(200015,.arr 62 5),(200061,.arr 87 7),(250015,.arr 172 6),(250061,.arr 146 4),(300015,.arr 22 1),(350015,.arr 22 1),(350061,.arr 45 3),(400015,.arr 22 1),(300061,.arr 93 5)] [0,0,2,3,4,0,6,7,8,9,10,11,12,13,14,15,17,0,19,16]] @H6 n
def Q5j:EZ9 7:=mkD (H8 n).ok [Q3Z n n,Q3y n n,orL (Q4t n n) (Q4Y n n)] 7 Tryz.f7 0 @Su n
def Q2l:EZ9 185:=mkD (Xa [] []).ok nT 185 Tryz.f185 0 @LH n
def C8:EZ9 186:=mkD (Xa [] []).ok nT 186 Tryz.f186 0 @Dq n
def C1:BZ9:=Xa [⟨185,Q2l n⟩,⟨186,C8 n⟩] []
def Q4N:LZ9:=mkU (C1 n).ok nT 4 Tryz.f143 [(0,.t),Qmi] [] 7 [.f .ret [(2,.cb false)] [] [],xE 0 [(21,.b)]] @NR n
def LS:EZ9 143:=mkD (C1 n).ok [Q4N n n] 143 Tryz.f143 0 @M6 n
def Et:BZ9:=Xa [⟨143,LS n⟩] []
def Q27:LZ9:=mkU (Et n).ok nT 4 Tryz.f109 [(0,.l 1),QlN,Qm0] [] 22 [.f .ret [(4,.ci .i64 5)] [] [],xE 0 [(14,.b)]] @Re n
def Q3m:EZ9 109:=mkD (Et n).ok [Q27 n n] 109 Tryz.f109 0 @Ms n
def Jn(n:Nat):BZ9:=Xa [] [(2,⟨[],[],[(3,1003,9,1)],[],[]⟩)]
def HI:LZ9:=mkU (Jn n).ok nT 3 Tryz.f110 [QmX,QmY,QlZ] [QmZ,(1003,.arr 9 1)] 515 [xE 0 [(9,.b)]] @YS n
def Ll:EZ9 110:=mkD (Jn n).ok [HI n n] 110 Tryz.f110 0 @V4 n
def Lo:EZ9 110:=mkW (Jn n).ok [HI n n] 110 Tryz.f110 [eA [qL 1,qL 1,qL 5,qL 6]] [eR 1003 9 1] [] 0 0 @V4 n
def Q3S:EZ9 111:=mkD (Xa [] []).ok nT 111 Tryz.f111 0 @Kn n
def Q1g:EZ9 154:=mkD (Xa [] []).ok nT 154 Tryz.f154 0 @B9 n
def DZ:BZ9:=Xa [⟨154,Q1g n⟩] []
def Q4z:LZ9:=mkU (DZ n).ok nT 4 Tryz.f155 [QlN,Qmy,Qn1,Qn2,QlO,(9,.ptr 9 0),QmV] [Qn3,QoR,(7,.box [.x,.x,.x,.x,.x,.x]),(9,.box [.x,.x,.x,.x,.x,.x])] 10446013798 [xE 0 [(19,.b)]] @Ph n
def Q5P:EZ9 155:=mkD (DZ n).ok [Q4z n n] 155 Tryz.f155 0 @BH n
def Sb:BZ9:=Xa [⟨111,Q3S n⟩,⟨154,Q1g n⟩,⟨155,Q5P n⟩] []
def EI:LZ9:=mkU (Sb n).ok nT 9 Tryz.f112 [QlN,Qmx,Qn2,(8,.ptr 8 0),Qmd] [Qn5,(7,.box Qn0),(8,.box Qn0)] 29410 [.f .ret [(4,.ci .i64 5)] [] [],xE 0 [(85,.b)]] @KJ n
def Cl:EZ9 112:=mkD (Sb n).ok [EI n n] 112 Tryz.f112 0 @JH n
def Gy:BZ9:=Xa [⟨109,Q3m n⟩,⟨110,Ll n⟩,⟨111,Q3S n⟩,⟨112,Cl n⟩] []
def Q2O:LZ9:=mkU (Gy n).ok nT 6 Tryz.f76 [QmX,Qmi] [QmZ] 5 [.f .ret [(2,tI)] [] [0],xE 0 [(43,.b)]] @R7 n
def Q2u:LZ9:=mkU (Gy n).ok nT 12 Tryz.f76 [QmX,Qm0] [QmZ] 11 [.f .ret [(2,tI)] [] [0],xE 2 [(57,.b)]] @Rh n
def Q2q:LZ9:=mkU (Gy n).ok nT 19 Tryz.f76 [QmX,Qn6,QlO] [QmZ] 97 [.f .ret [(2,tI)] [] [0],xE 4 [(73,.b)]] @Jd n
def Q34:LZ9:=mkU (Gy n).ok nT 28 Tryz.f76 [QmX,Qme] [QmZ] 122 [.f .ret [(2,tI)] [] [0],xE 6 [(117,.b)]] @J4 n
def Pc:EZ9 76:=mkD (Gy n).ok [Q2O n n,Q2u n n,Q2q n n,Q34 n n] 76 Tryz.f76 0 @Vy n
def DX(n:Nat):BZ9:=Xa [] []
def Q4I:LZ9:=mkU (DX n).ok nT 4 Tryz.f87 [QmX,Qmi] [(1,bT 36 [])] 83 [.f .ret [(2,.cb true)] [] [],xE 0 [(48,.b)]] @G5 n
def Q5Y:EZ9 87:=mkD (DX n).ok [Q4I n n] 87 Tryz.f87 0 @Fh n
def Tn:EZ9 63:=mkD (Xa [] []).ok nT 63 Tryz.f63 0 @VI n
def EA:EZ9 95:=mkD (Xa [] []).ok nT 95 Tryz.f95 0 @Hw n
def KE:EZ9 144:=mkD (Xa [⟨95,EA n⟩] []).ok nT 144 Tryz.f144 0 @Yb n
def Pl:BZ9:=Xa [⟨143,LS n⟩,⟨144,KE n⟩] []
def FL:LZ9:=mkU (Pl n).ok nT 4 Tryz.f88 [QlN,Qmx,Qm0] [Qn7] 34 [.f .ret [(4,.ci .i64 5)] [] [],xE 0 [(16,.b)]] @GN n
def EJ:EZ9 88:=mkD (Pl n).ok [FL n n] 88 Tryz.f88 0 @Gv n
def Lc(n:Nat):BZ9:=Xa [] [(5,⟨[],[],[(6,1006,209,4)],[],[]⟩)]
def Q0h:LZ9:=mkU (Lc n).ok nT 6 Tryz.f148 [Qmx,Qn1,Qm1,Qm2] [Qn5,QoR,(1006,.arr 209 4)] 5429 [xE 0 [(22,.b)]] @Zo n
def Q2K:EZ9 148:=mkD (Lc n).ok [Q0h n n] 148 Tryz.f148 0 @A0 n
def Lb:BZ9:=Xa [⟨148,Q2K n⟩] []
def Q0k:LZ9:=mkU (Lb n).ok nT 3 Tryz.f100 [Qn1,QmB,(8,.l 4),Qmd] [QoR,(6,.box Qn8)] 43 [.f .ret [(6,.ptr 6 0),(7,.cb true)] [(6,.box Qn9)] [0,0,0,0],xE 0 [(16,.b)]] @PE n
def FQ:EZ9 100:=mkF (Lb n).ok [Q0k n n] 100 Tryz.f100 [eA [qL 1,qL 1,qL 5,qL 6],eA [qI,qI],eA [qI,qI]] [eT 2,eA [qX,qX,qX,qX],sB] 0 @JR n
def Ui:BZ9:=Xa [⟨76,Pc n⟩,⟨95,EA n⟩,⟨100,FQ n⟩] []
def F7:LZ9:=mkU (Ui n).ok nT 8 Tryz.f89 [Qmx,Qmy,Qm0] QoS 272 [.f .ret [(4,.ci .i64 4)] [] [],xE 0 [(39,.b)]] @YO n
def F4:LZ9:=mkU (Ui n).ok nT 16 Tryz.f89 [Qmx,Qmy,Qmq,Qm2] QoS 736 [.f .ret [(4,.ci .i64 5)] [] [],xE 4 [(73,.b)]] @GK n
def Fu:LZ9:=mkU (Ui n).ok [F4 n n] 13 Tryz.f89 [Qmx,Qmy,Qmq] QoS 245 [.f .ret [(4,.ci .i64 5)] [] [],xE 2 [(68,.b)]] @VP n
def FN:LZ9:=mkU (Ui n).ok nT 21 Tryz.f89 [Qmx,Qmy,QlO] QoS 365 [.f .ret [(4,.ci .i64 11)] [] [],xE 6 [(93,.b)]] @YL n
def PO:EZ9 89:=mkD (Ui n).ok [F7 n n,Fu n n,FN n n] 89 Tryz.f89 0 @VZ n
def R4:EZ9 145:=mkD (Xa [] []).ok nT 145 Tryz.f145 0 @Kk n
def Rk:BZ9:=Xa [⟨89,PO n⟩] [(5,⟨[],[],[(8,1008,269,2)],[],[]⟩)]
def Q2r:LZ9:=mkU (Rk n).ok nT 13 Tryz.f146 [Qmx,Qmy,Qnd,Qmd,Qmj,Qme,Qmg] [Qn5,QoT,(10,.box [.x,.x,.x,.x,.x]),(1008,.arr 269 2)] 9802155 [xE 2 [(53,.b)]] @Ue n
def Q2o:LZ9:=mkU (Rk n).ok [Q2r n n] 6 Tryz.f146 [Qmx,Qmy,Qnd,Qmd] [Qn5,QoT,(1008,.arr 269 2)] 5375 [xE 0 [(26,.b)]] @Uo n
def DO:EZ9 146:=mkD (Rk n).ok [Q2o n n] 146 Tryz.f146 0 @Sa n
def DJ:BZ9:=Xa [⟨146,DO n⟩,⟨144,KE n⟩] []
def Q3X:LZ9:=mkU (DJ n).ok nT 7 Tryz.f94 [Qmy,Qnf,Qn1,QmV] [Qn3,(4,.box Qna),Qng] 7562 [.f .ret [(6,.ci .i64 12)] [] [],xE 0 [(31,.b)]] @G8 n
def LA:EZ9 94:=mkD (DJ n).ok [Q3X n n] 94 Tryz.f94 0 @SE n
def Md:EZ9 15:=mkD (Xa [] []).ok nT 15 Tryz.f15 0 @Th n
def LG:EZ9 17:=mkD (Xa [] []).ok nT 17 Tryz.f17 0 @S8 n
def Kj:BZ9:=Xa [⟨143,LS n⟩,⟨63,Tn n⟩,⟨145,R4 n⟩,⟨94,LA n⟩,⟨15,Md n⟩,⟨17,LG n⟩] []
def Dd:LZ9:=mkU (Kj n).ok nT 5 Tryz.f90 [Qmk,Qmy,Qnf,Qn2,QlO] [Qn3,Qni,(7,.box Qn9)] 4802659 [.f .ret [(6,.ci .i64 5)] [] [],xE 0 [(24,.b)]] @WB n
def DB:LZ9:=mkU (Kj n).ok nT 14 Tryz.f90 [Qmy,Qnf,Qn2,Qmd] [Qn3,Qni,(7,.box Qn9)] 48626852 [.f .ret [(6,tI)] [] [0],xE 2 [(58,.b)]] @Wt n
def B2:EZ9 90:=mkD (Kj n).ok [Dd n n,DB n n] 90 Tryz.f90 0 @KP n
def AF:EZ9 93:=mkD (Xa [⟨63,Tn n⟩] []).ok nT 93 Tryz.f93 0 @Jz n
def PG:EZ9 16:=mkF (Xa [] []).ok nT 16 Tryz.f16 [eA [qI,qL 5,qL 2,qL 4,qL 7,qL 4,qL 5,qL 3],sI,sI] [eA [qX,qX]] 0 @Yd n
def E8:EZ9 91:=mkD (Xa [⟨93,AF n⟩,⟨145,R4 n⟩,⟨63,Tn n⟩,⟨16,PG n⟩,⟨17,LG n⟩,⟨15,Md n⟩] []).ok nT 91 Tryz.f91 0 @HB n
def PW:BZ9:=Xa [⟨63,Tn n⟩,⟨145,R4 n⟩,⟨16,PG n⟩,⟨17,LG n⟩,⟨15,Md n⟩] []
def D3:LZ9:=mkU (PW n).ok nT 5 Tryz.f92 [QlN,Qmx,Qn1,Qmq] [Qn7,(5,.box Qn9)] 238390 [.f .ret [(4,.ci .i64 5)] [] [],xE 0 [(43,.b)]] @WC n
def Cg:EZ9 92:=mkD (PW n).ok [D3 n n] 92 Tryz.f92 0 @KU n
def YF:BZ9:=Xa [⟨76,Pc n⟩,⟨87,Q5Y n⟩,⟨63,Tn n⟩,⟨88,EJ n⟩,⟨89,PO n⟩,⟨90,B2 n⟩,⟨91,E8 n⟩,⟨92,Cg n⟩,⟨93,AF n⟩] []
def Dr:LZ9:=mkU (YF n).ok nT 8 Tryz.f60 [Qmx,Qmy,Qm0] Qnk 797042 [.f .ret [(4,tI)] [] [0],xE 0 [(32,.b)]] @Wx n
def EH:LZ9:=mkU (YF n).ok nT 14 Tryz.f60 [Qmx,Qmy,Qm2] Qnk 2309 [.f .ret [(4,tI)] [] [0],xE 2 [(45,.b)]] @Ws n
def EK:LZ9:=mkU (YF n).ok nT 20 Tryz.f60 [Qmx,Qmy,Qmd] Qnk 797162 [.f .ret [(4,tI)] [] [0],xE 4 [(62,.b)]] @Ww n
def DG:LZ9:=mkU (YF n).ok nT 26 Tryz.f60 [Qmx,Qmy,Qme] Qnk 797162 [.f .ret [(4,tI)] [] [0],xE 6 [(76,.b)]] @Zg n
def ET:LZ9:=mkU (YF n).ok nT 32 Tryz.f60 [Qmx,Qmy,Qmo] Qnk 797042 [.f .ret [(4,tI)] [] [0],xE 8 [(94,.b)]] @Za n
def EW:LZ9:=mkU (YF n).ok nT 38 Tryz.f60 [Qmx,Qmy,Qml] Qnk 797042 [.f .ret [(4,.ci .i64 4)] [] [],xE 10 [(107,.b)]] @Z6 n
def EY:LZ9:=mkU (YF n).ok nT 44 Tryz.f60 [Qmx,Qmy,(17,tI)] Qnk 531446 [.f .ret [(4,.ci .i64 4)] [] [],xE 12 [(158,.b)]] @Zc n
def Ni:EZ9 60:=mkD (YF n).ok [Dr n n,EH n n,EK n n,DG n n,ET n n,EW n n,EY n n] 60 Tryz.f60 0 @Wg n
def FO(n:Nat):BZ9:=Xa [] []
def Q1W:LZ9:=mkU (FO n).ok nT 2 Tryz.f61 [QlN,Qmx,Qnf,Qmq] [Qn7,(4,.box Qn8)] 2194 [.f .ret [(4,.ptr 4 0),(5,.cb true)] [(4,.box Qn9)] [0,0,0,0],xE 0 [(11,.b)]] @J6 n
def DS:EZ9 61:=mkF (FO n).ok [Q1W n n] 61 Tryz.f61 [eA [qI,qL 5,qL 2,qL 4,qL 7,qL 4,qL 5,qL 3],sI] [eT 2,eA [qX,qX,qX,qX],sB] 223 @SB n
def Q03:BZ9:=Xa [⟨144,KE n⟩,⟨95,EA n⟩] []
def Q5o:LZ9:=mkU (Q03 n).ok nT 6 Tryz.f211 [Qnm,QlN,Qm2] [] 19 [.f .ret [(6,.ci .i64 4)] [] [],xE 0 [(17,.b)]] @Kl n
def Q85:EZ9 211:=mkD (Q03 n).ok [Q5o n n] 211 Tryz.f211 0 @B8 n
def ED(n:Nat):BZ9:=Xa [] []
def Q1I:LZ9:=mkU (ED n).ok nT 3 Tryz.f212 [Qnm,QlN,Qm2,QlO] [] 76 [xE 0 [(18,.b)]] @J3 n
def Q3D:EZ9 212:=mkD (ED n).ok [Q1I n n] 212 Tryz.f212 0 @PV n
def Q3L:EZ9 213:=mkD (Xa [] []).ok nT 213 Tryz.f213 0 @MJ n
def Q4e:EZ9 214:=mkD (Xa [] []).ok nT 214 Tryz.f214 0 @MG n
def DR(n:Nat):BZ9:=Xa [] []
def Q55:LZ9:=mkU (DR n).ok nT 4 Tryz.f215 [Qnn,Qmi,QlZ] [] 25 [xE 0 [(10,.b)]] @VV n
def Q5l:EZ9 215:=mkD (DR n).ok [Q55 n n] 215 Tryz.f215 0 @Mn n
def Js:BZ9:=Xa [⟨211,Q85 n⟩,⟨212,Q3D n⟩,⟨213,Q3L n⟩,⟨214,Q4e n⟩,⟨215,Q5l n⟩] []
def Q0L:LZ9:=mkU (Js n).ok nT 7 Tryz.f187 [Qnm,QlN,Qn1,Qmd,(10,.arr 29),Qme] Qno 49234 [xE 0 [(32,.b)]] @UC n
def Q0f:LZ9:=mkU (Js n).ok nT 12 Tryz.f187 [Qnm,QlN,Qn1,Qmd,(10,.arr 29),Qmo] Qno 49234 [xE 2 [(57,.b)]] @UH n
def Q0w:LZ9:=mkU (Js n).ok nT 16 Tryz.f187 [Qnm,QlN,Qn1,Qmd,(10,.arr 29),Qmr] Qno 49225 [xE 4 [(86,.b)]] @UL n
def Q0n:LZ9:=mkU (Js n).ok nT 20 Tryz.f187 [Qmd,(10,.arr 29),Qml] [Qnp] 25 [xE 6 [(116,.b)]] @Vz n
def Q2H:EZ9 187:=mkD (Js n).ok [Q0L n n,Q0f n n,Q0w n n,Q0n n n] 187 Tryz.f187 0 @Rp n
def Lz:EZ9 97:=mkD (Xa [] []).ok nT 97 Tryz.f97 0 @Jr n
def Ew:BZ9:=Xa [⟨187,Q2H n⟩,⟨97,Lz n⟩] []
def Q1Z:LZ9:=mkU (Ew n).ok nT 6 Tryz.f147 [(8,.l 1),(10,.arr 24),Qme] [(24,.arr 3 1)] 25 [xE 0 [(28,.b)]] @Ja n
def Q4v:EZ9 147:=mkD (Ew n).ok [Q1Z n n] 147 Tryz.f147 0 @PM n
def Mj:BZ9:=Xa [⟨94,LA n⟩,⟨146,DO n⟩,⟨147,Q4v n⟩,⟨97,Lz n⟩] [(7,⟨[],[],[(6,1006,3,1),(7,1007,3,1)],[],[]⟩)]
def Bm:LZ9:=mkU (Mj n).ok nT 8 Tryz.f96 [Qmy,Qnf,Qn1,Qm1,Qnq,(14,.l 1),(16,tI),(17,tI)] [Qn3,(4,.box Qna),Qng,(1006,.arr 3 1),(1007,.arr 3 1)] 38331817 [xE 0 [(46,.b)]] @Zx n
def Q08:EZ9 96:=mkD (Mj n).ok [Bm n n] 96 Tryz.f96 0 @Pm n
def Q57:EZ9 98:=mkD (Xa [] []).ok nT 98 Tryz.f98 0 @VF n
def Fo:EZ9 99:=mkW (Xa [] []).ok nT 99 Tryz.f99 [eP 1000000 2,eR 1000001 4 1,eR 1000002 164 3,sI,sI,sI] [eT 0] [] 0 0 @YW n
def M1:BZ9:=Xa [⟨94,LA n⟩,⟨95,EA n⟩,⟨96,Q08 n⟩,⟨97,Lz n⟩,⟨98,Q57 n⟩,⟨99,Fo n⟩,⟨100,FQ n⟩] [(31,⟨[],[],[(27,1027,164,3)],[],[]⟩)]
def Q46:LZ9:=mkU (M1 n).ok nT 12 Tryz.f62 [Qmi,QlZ,Qn1,QmB,(14,.l 1),(15,.l 1),(16,tI),Qnr,(19,.ptr 65 0),(20,tI),(21,tI),(22,tI)] [(5,bT 27 []),(6,.box Qna),(61,.arr 4 1),(63,.arr 164 3),(65,.box [.arr 61,.arr 63])] 117191245 [xE 0 [(73,.b)]] @Wm n
def Q4m:LZ9:=mkU (M1 n).ok nT 32 Tryz.f62 [(16,tI),Qnr,(19,.ptr 65 0),(27,.arr 1027),(28,tI)] [(61,.arr 4 1),(63,.arr 164 3),(65,.box [.arr 61,.arr 63]),(1027,.arr 164 3)] 615 [xE 3 [(173,.b)]] @V9 n
def Q6n:EZ9 62:=mkD (M1 n).ok [Q46 n n,Q4m n n] 62 Tryz.f62 0 @Hm n
def PJ:BZ9:=Xa [⟨60,Ni n⟩,⟨61,DS n⟩,⟨16,PG n⟩,⟨62,Q6n n⟩] [(5,⟨[],[],[(7,1007,110,1),(8,1008,3,1)],[],[]⟩)]
def Q0s:LZ9:=mkU (PJ n).ok nT 10 Tryz.f35 [Qmx,Qmy,Qnq,Qnd,Qmd,Qmj,Qme] [Qn5,Qnl,(10,.box Qn9),Qnu,Qnv] 3245244469 [xE 2 [(39,.b)]] @YJ n
def Q0p:LZ9:=mkU (PJ n).ok [Q0s n n] 6 Tryz.f35 [Qmx,Qmy,Qnq,Qnd,Qmd] Qnw 13551746 [xE 0 [(27,.b)]] @UG n
def Q2Z:EZ9 35:=mkD (PJ n).ok [Q0p n n] 35 Tryz.f35 0 @Rs n
def Sd(n:Nat):BZ9:=Xa [] []
def D6:LZ9:=mkU (Sd n).ok nT 2 Tryz.f64 [(0,.l 3),Qmi] [] 7 [.f .ret [(2,.cb false)] [] [],xE 0 [(7,.b)]] @Z3 n
def Na:EZ9 64:=mkD (Sd n).ok [D6 n n] 64 Tryz.f64 0 @JF n
def Ft:BZ9:=Xa [⟨63,Tn n⟩,⟨64,Na n⟩] []
def Q1K:LZ9:=mkU (Ft n).ok nT 4 Tryz.f36 [Qnn,(1,.l 3),Qm0] [] 22 [.f .ret [(4,.cb false)] [] [],xE 0 [(17,.b)]] @Ji n
def Q4V:EZ9 36:=mkD (Ft n).ok [Q1K n n] 36 Tryz.f36 0 @ML n
def Fj(n:Nat):BZ9:=Xa [] []
def Q3b:LZ9:=mkU (Fj n).ok nT 3 Tryz.f65 [QlN,Qmx,Qm0,Qmq] [Qn7] 754 [xE 0 [(9,.b)]] @Jk n
def NE:EZ9 65:=mkD (Fj n).ok [Q3b n n] 65 Tryz.f65 247 @U2 n
def Pz:BZ9:=Xa [⟨65,NE n⟩,⟨61,DS n⟩] [(2,⟨[],[],[(5,1005,115,4)],[],[]⟩)]
def Q0K:LZ9:=mkU (Pz n).ok nT 7 Tryz.f37 Qnx [Qn7,(7,.box Qn9),(1005,.arr 115 4)] 33488095 [xE 2 [(29,.b)]] @Wj n
def Q0i:LZ9:=mkU (Pz n).ok [Q0K n n] 3 Tryz.f37 QnA [Qn7,(1005,.arr 115 4)] 120535 [xE 0 [(17,.b)]] @Us n
def Q36:EZ9 37:=mkD (Pz n).ok [Q0i n n] 37 Tryz.f37 215 @R0 n
def Tj(n:Nat):BZ9:=Xa [] []
def LK:LZ9:=mkU (Tj n).ok nT 2 Tryz.f101 [(0,.l 3),QlN,Qnf,Qmq] [(4,.box QnB)] 22 [.f .ret [(4,.ptr 4 0),(5,.cb true)] [(4,.box [.x,.x,.x])] [0,0,0],xE 0 [(10,.b)]] @Z2 n
def Ec:EZ9 101:=mkF (Tj n).ok [LK n n] 101 Tryz.f101 [sL 3,sI] [eT 2,eA [qX,qX,qX],sB] 0 @Vs n
def Cf:EZ9 66:=mkF (Xa [⟨101,Ec n⟩] []).ok nT 66 Tryz.f66 [sL 1,eA [qI,qI,qI,qI],sI] [eT 3,eA [qX,qX,qX],eA [qX,qX,qX],sB] 16 @PS n
def MY:BZ9:=Xa [⟨66,Cf n⟩] []
def Q0e:LZ9:=mkU (MY n).ok nT 2 Tryz.f38 [(0,.l 1),Qmk,Qnf,Qm2] [(4,bT 115 [])] 1102 [.f .ret [(6,.cb false)] [] [],xE 0 [(18,.b)]] @UE n
def Q2J:EZ9 38:=mkD (MY n).ok [Q0e n n] 38 Tryz.f38 0 @RH n
def Pu:BZ9:=Xa [⟨65,NE n⟩] [(2,⟨[],[],[(5,1005,57,6)],[],[]⟩)]
def Q0N:LZ9:=mkU (Pu n).ok nT 7 Tryz.f39 Qnx [Qn7,(7,.box Qn9),(1005,.arr 57 6)] 35075857 [xE 2 [(27,.b)]] @Uz n
def Q0c:LZ9:=mkU (Pu n).ok [Q0N n n] 3 Tryz.f39 QnA [Qn7,(1005,.arr 57 6)] 118348 [xE 0 [(15,.b)]] @Uw n
def Q2X:EZ9 39:=mkW (Pu n).ok [Q0c n n] 39 Tryz.f39 [eA [qI,qL 5,qL 2,qL 4,qL 7,qL 4,qL 5,qL 3],sL 1] [eR 1005 57 6] [] 247 0 @SV n
def KR:BZ9:=Xa [⟨65,NE n⟩] [(2,⟨[],[],[(3,1003,57,6)],[],[]⟩)]
def Q0H:LZ9:=mkU (KR n).ok nT 3 Tryz.f40 [QmX,QmY,QlZ] QnE 39692 [xE 0 [(14,.b)]] @Ux n
def Q0I:LZ9:=mkU (KR n).ok nT 8 Tryz.f40 [QmX,QmY,Qmq] QnE 40178 [xE 2 [(53,.b)]] @Wh n
def Q09:LZ9:=mkU (KR n).ok nT 13 Tryz.f40 [QmX,QmY,QlO] QnE 41636 [xE 4 [(93,.b)]] @Zm n
def Q2I:EZ9 40:=mkD (KR n).ok [Q0H n n,Q0I n n,Q09 n n] 40 Tryz.f40 135 @RG n
def HF:BZ9:=Xa [⟨66,Cf n⟩] [(2,⟨[],[],[(9,1009,164,3)],[],[]⟩)]
def Cr:LZ9:=mkU (HF n).ok nT 7 Tryz.f42 [(0,.l 1),(1,.l 4),Qmk,Qmi,(9,.arr 1009),QmV,(11,.b),Qmg] [(1009,.arr 164 3)] 2065 [xE 2 [(28,.b)]] @YX n
def Cq:LZ9:=mkU (HF n).ok [Cr n n] 3 Tryz.f42 [(0,.l 1),(1,.l 4),Qmk,Qmi,(9,.arr 1009),QmV] [(1009,.arr 164 3)] 688 [xE 0 [(22,.b)]] @ZT n
def BC:EZ9 42:=mkD (HF n).ok [Cq n n] 42 Tryz.f42 0 @Gz n
def C3(n:Nat):BZ9:=Xa [] []
def Q4o:LZ9:=mkU (C3 n).ok nT 2 Tryz.f102 [(0,.l 3),QlN,Qnf,Qmq] [(4,.box QnB)] 22 [.f .ret [(4,.ptr 4 0),(5,.cb true)] [(4,.box [.x,.x,.x])] [0,0,0],xE 0 [(10,.b)]] @Up n
def Q6r:EZ9 102:=mkF (C3 n).ok [Q4o n n] 102 Tryz.f102 [sL 3,sI] [eT 2,eA [qX,qX,qX],sB] 0 @Ap n
def DH:EZ9 68:=mkD (Xa [] []).ok nT 68 Tryz.f68 0 @Eg n
def Ks:BZ9:=Xa [⟨63,Tn n⟩,⟨64,Na n⟩,⟨102,Q6r n⟩,⟨68,DH n⟩] []
def Dk:LZ9:=mkU (Ks n).ok nT 13 Tryz.f67 [Qnn,(1,.l 3),(2,.l 3),(8,.arr 26),Qmd,Qmj,Qmg,Qmo] [(10,.box [.x,.x,.x]),(26,.arr 4 1)] 46525 [xE 2 [(70,.b)]] @Zd n
def ES:LZ9:=mkU (Ks n).ok [Dk n n] 7 Tryz.f67 [Qnn,(1,.l 3),(2,.l 3),(8,.arr 26),Qmd] [(26,.arr 4 1)] 229 [xE 0 [(30,.b)]] @Yg n
def CF:EZ9 67:=mkD (Ks n).ok [ES n n] 67 Tryz.f67 0 @KT n
def Gi:BZ9:=Xa [⟨67,CF n⟩,⟨68,DH n⟩] [(13,⟨[],[],[(12,1012,123,2)],[],[]⟩)]
def BX:LZ9:=mkU (Gi n).ok nT 6 Tryz.f41 [Qnn,(8,.l 1),QmV,Qme] [] 76 [xE 0 [(27,.b)]] @WE n
def Ak:LZ9:=mkU (Gi n).ok nT 18 Tryz.f41 [Qnn,(8,.l 1),(12,.arr 1012),Qmo,Qmr] [(1012,.arr 123 2)] 67 [xE 4 [(65,.b)]] @WN n
def BM:LZ9:=mkU (Gi n).ok [Ak n n] 14 Tryz.f41 [Qnn,(8,.l 1),(12,.arr 1012),Qmo] [(1012,.arr 123 2)] 76 [xE 2 [(41,.b)]] @Yv n
def Q0y:EZ9 41:=mkD (Gi n).ok [BX n n,BM n n] 41 Tryz.f41 0 @H7 n
def Wi:BZ9:=Xa [⟨35,Q2Z n⟩,⟨36,Q4V n⟩,⟨37,Q36 n⟩,⟨38,Q2J n⟩,⟨39,Q2X n⟩,⟨40,Q2I n⟩,⟨42,BC n⟩,⟨41,Q0y n⟩] [(18,⟨[],[],[],[(12,1,1121,60,3)],[]⟩),(21,⟨[],[],[],[(12,1,1121,60,3)],[]⟩)]
def Q0P:LZ9:=mkU (Wi n).ok nT 7 Tryz.f13 [Qmy,Qnf,QnG,Qn6,Qmd] [Qnl,(4,.box QnF)] 46 [.f .ret [(4,.ptr 4 0),(5,.ci .i64 13)] [(4,.box QnF)] [],xE 0 [(39,.b)]] @UJ n
def Q0F:LZ9:=mkU (Wi n).ok nT 13 Tryz.f13 [Qmy,Qnf,QnG,Qn6,QnJ,Qme] [Qnl,(4,.box QnF)] 145 [.f .ret [(4,.ptr 4 0),(5,.ci .i64 13)] [(4,.box QnF)] [],xE 2 [(57,.b)]] @UK n
def Q0b:LZ9:=mkU (Wi n).ok nT 22 Tryz.f13 [Qmy,Qnf,QnG,Qn6,QnJ,QnK,Qmo,Qmr] [Qnl,QnL,(12,.box [tI,.arr 1121,.nil]),QnM] 28704564 [xE 6 [(88,.b)]] @VG n
def Q0M:LZ9:=mkU (Wi n).ok [Q0b n n] 19 Tryz.f13 [Qmy,Qnf,QnG,Qn6,QnJ,QnK,Qmo] [Qnl,(4,.box QnF),(12,.box [tI,.arr 1121,.nil]),QnM] 3190887 [xE 4 [(77,.b)]] @Wl n
def Q0B:LZ9:=mkU (Wi n).ok nT 36 Tryz.f13 [Qmy,Qnf,QnG,QnJ,QnK,Qml,(16,tI),(17,.l 2),QnO] QoU 86094045 [xE 12 [(145,.b)]] @UF n
def Q0O:LZ9:=mkU (Wi n).ok [Q0B n n] 30 Tryz.f13 [Qmy,Qnf,QnG,QnJ,QnK,Qml,(16,tI)] QoU 9566086 [.f .ret [(4,.ptr 4 0),(5,.ci .i64 13)] [(4,.box QnF)] [],xE 10 [(120,.b)]] @VD n
def Q0j:LZ9:=mkU (Wi n).ok [Q0O n n] 27 Tryz.f13 [Qmy,Qnf,QnG,QnJ,QnK,Qml] [Qnl,(4,.box QnF),(12,.box QnN),(107,.arr 57 6),QnM] 1062931 [.f .ret [(4,.ptr 4 0),(5,.ci .i64 13)] [(4,.box QnF)] [],xE 8 [(112,.b)]] @UB n
def Q2U:EZ9 13:=mkD (Wi n).ok [Q0P n n,Q0F n n,Q0M n n,Q0j n n] 13 Tryz.f13 0 @VT n
def Q14:EZ9 44:=mkD (Xa [] []).ok nT 44 Tryz.f44 0 @T4 n
def L5:BZ9:=Xa [⟨44,Q14 n⟩] []
def Q0z:LZ9:=mkU (L5 n).ok nT 4 Tryz.f69 [QmX,Qmi] [(1,.box QnR)] 41 [.f .ret [(2,.cb false)] [] [],xE 0 [(25,.b)]] @VE n
def R5:EZ9 69:=mkD (L5 n).ok [Q0z n n] 69 Tryz.f69 0 @Ut n
def Q8C:EZ9 71:=mkD (Xa [] []).ok nT 71 Tryz.f71 0 @Q2j n
def Sx(n:Nat):BZ9:=Xa [] []
def Dt:LZ9:=mkU (Sx n).ok nT 5 Tryz.f149 [QnT,Qm0,Qmq,(22,tI),(23,tI)] [(1000000,.arr 3 1)] 229 [xE 0 [(24,.b)]] @Zf n
def CW:EZ9 149:=QeP (mkW (Sx n).ok [Dt n n] 149 Tryz.f149 [eR 1000000 3 1,eA [qI,qI,qI,qI,qI,qI]] [sB] [(1,eK 1000000 3 1)] 0 0 @JE n)
def WF:BZ9:=Xa [⟨69,R5 n⟩,⟨149,CW n⟩] []
def LV:LZ9:=mkU (WF n).ok nT 5 Tryz.f103 [QmX,(3,.arr 16),Qnr,QnO] [(1,.box QnR),QnU] 493 [xE 0 [(20,.b)]] @Zh n
def Lt:LZ9:=mkU (WF n).ok nT 10 Tryz.f103 [QmX,(3,.arr 16),Qm0] [(1,.box QnR),QnU] 191 [xE 2 [(31,.b)]] @Ze n
def Lh:LZ9:=mkU (WF n).ok nT 20 Tryz.f103 [(3,.arr 16),(6,.arr 43),Qm2,QlO,Qmd,(45,tI),(46,tI)] [QnU,(43,.arr 3 1)] 1722 [xE 6 [(54,.b)]] @YC n
def Lg:LZ9:=mkU (WF n).ok [Lh n n] 16 Tryz.f103 [(3,.arr 16),(6,.arr 43),Qm2,(45,tI),(46,tI)] [QnU,(43,.arr 3 1)] 212 [xE 4 [(47,.b)]] @YD n
def Fq:EZ9 103:=mkD (WF n).ok [LV n n,Lt n n,Lg n n] 103 Tryz.f103 0 @JM n
def GG:BZ9:=Xa [⟨103,Fq n⟩] []
def Ed:LZ9:=mkU (GG n).ok nT 8 Tryz.f72 [Qn6,(8,.ptr 25 0),Qmd,QmV,QnV,(28,tI)] [QnW,(23,.arr 4 1),(25,bT 152 [(3,.arr 23),(10,.nil),(11,.arr 19)])] 1480 [xE 2 [(39,.b)]] @YQ n
def E3:LZ9:=mkU (GG n).ok [Ed n n] 4 Tryz.f72 [Qn6,(8,.ptr 25 0),QnV,(28,tI)] [QnW,(23,.arr 4 1),(25,.box [tI,.l 3,.l 6,.arr 23,tI,.ci .i64 0,.cb false,.b,.cb false,.ci .i64 0,.nil,.arr 19])] 184 [xE 0 [(29,.b)]] @ZH n
def ER:EZ9 72:=mkW (GG n).ok [E3 n n] 72 Tryz.f72 [eA [qI,qL 3,qL 6],sI,sB] [eP 25 12,sI,sL 3,sL 6,eR 23 4 1,sI,sI,sB,sB,sB,sI,eN,eR 19 3 1] [] 0 0 @GJ n
def FJ:BZ9:=Xa [⟨69,R5 n⟩,⟨44,Q14 n⟩] []
def Q23:LZ9:=mkU (FJ n).ok nT 4 Tryz.f43 [Qny,Qmx,Qm0] [(2,.box QnR)] 16 [.f .ret [(4,.cb false)] [] [],xE 0 [(20,.b)]] @Jf n
def Q4j:EZ9 43:=mkD (FJ n).ok [Q23 n n] 43 Tryz.f43 0 @PY n
def F8:EZ9 45:=mkD (Xa [⟨68,DH n⟩] []).ok nT 45 Tryz.f45 790 @TH n
def Ff:BZ9:=Xa [⟨43,Q4j n⟩,⟨45,F8 n⟩] []
def Q3c:LZ9:=mkU (Ff n).ok nT 5 Tryz.f104 [Qny,Qmx,Qmq,Qm2] [(2,.box QnR)] 295 [xE 0 [(16,.b)]] @J8 n
def Q52:EZ9 104:=mkD (Ff n).ok [Q3c n n] 104 Tryz.f104 0 @MK n
def VO:BZ9:=Xa [⟨45,F8 n⟩] []
def HU:LZ9:=mkU (VO n).ok nT 3 Tryz.f105 Qo0 QoV 2536 [.f .ret [(4,.cb true)] [(98003,.arr 4 1),(98011,.arr 3 1),(1000000,bT 152 QnZ)] [4,5,6,7,8,9,10,11,12,13,14,15],xE 0 [(16,.b)]] @Xi n
def Tx:EZ9 105:=mkW (VO n).ok [HU n n] 105 Tryz.f105 (pT 1000000 152 Qo3 [sI]) [sB] [] 1146 8190 @Zr n
noncomputable abbrev Wc:List Sp:=(pT 1000000 152 Qo3 [sI])
abbrev Wb:List Sp:=[sB,eI 1000000 12,sI,sL 3,sL 6,eR 98003 4 1,sI,sI,sB,sB,sB,sI,sL 1,eR 98011 3 1,eG 1000001,eG 1000002]
noncomputable abbrev Vn(n d:Nat):LF (lts Wc) (oP (HT (lts Wb))):=XE n d
def Ga(n d:Nat)(ih:VH Tryz.prog 73 (Qgs Wc Wb (Vn n d))):BZ9:=Xa [⟨104,Q52 n⟩,⟨105,Tx n⟩,⟨73,⟨_,ih⟩⟩] [(5,⟨[],[],[],[],[98010]⟩),(1000000017,⟨[],[],[],[],[]⟩)]
def PR(n d:Nat)(ih:VH Tryz.prog 73 (Qgs Wc Wb (Vn n d))):LZ9:=mkU (Ga n d ih).ok nT 10 Tryz.f73 Qo0 QoV 14348902 [.f .ret [(4,.cb false)] [(98003,.arr 4 1),(98011,.arr 3 1),(1000000,bT 152 QnZ)] [0,0,0,0,0,0,0,0,0,0,0,0],xE 0 [(59,.b)]] (λR n=>@Xu R n (XE n d)) n
theorem UY(n:Nat):∀d,VH Tryz.prog 73 (Qgs Wc Wb (Vn n d))
|0=>QaE Tryz.f73 _ _ _ (λv r h=>nomatch (show none=some r from h)) (by intro v;kernel_rfl) (by kernel_rfl) (by kernel_rfl) (by kernel_rfl) (by kernel_rfl)
|d+1=>QeX (Ga n d (UY n d)).ok [PR n d (UY n d) n] Tryz.f73 _ _ _ (by intro v;kernel_rfl) (by intro v;kernel_rfl) (by kernel_rfl) (by kernel_rfl) (by kernel_rfl) (by kernel_rfl) (by kernel_rfl) (by kernel_rfl)
def Ri:EZ9 73:=⟨_,UY n n⟩
def Q65:EZ9 54:=mkX (Xa [⟨69,R5 n⟩,⟨71,Q8C n⟩,⟨72,ER n⟩,⟨73,Ri n⟩] []).ok nT 54 Tryz.f54 [eA [qI,qL 3,qL 6],sI,sB] [eT 2,eU,sI] [eT 2,eP 50018 12,sI,sL 3,sL 6,eR 50020 4 1,sI,sI,sB,sB,sB,sI,sL 1,eR 100020 3 1,sI] 0 @Fb n
def CI:EZ9 27:=mkX (Xa [⟨54,Q65 n⟩] []).ok nT 27 Tryz.f27 [eA [qI,qL 3,qL 6],sI] [eT 3,eN,sI,sI] [eT 3,sL 1,sI,sI] 0 @Zq n
def Ev:EZ9 8:=mkX (Xa [⟨13,Q2U n⟩,⟨27,CI n⟩] []).ok nT 8 Tryz.f8 [eA [qL 1,qL 1,qL 5,qL 6],eA [qI,qL 5,qL 2,qL 4,qL 7,qL 4,qL 5,qL 3]] [eN] [sL 1] 0 @Ve n
def Q5c:EZ9 150:=mkD (Xa [] []).ok nT 150 Tryz.f150 0 @Dx n
def Q00:BZ9:=Xa [⟨150,Q5c n⟩] [(2,⟨[],[],[(6,1006,183,3)],[],[]⟩)]
def Q6s:LZ9:=mkU (Q00 n).ok nT 3 Tryz.f106 [(0,.t),QlN,Qm1,Qm2] [(1006,.arr 183 3)] 76 [.f .ret [(4,.nil),(5,.ci .i64 2)] [] [],xE 0 [(18,.b)]] @Tv n
def Q8D:EZ9 106:=mkD (Q00 n).ok [Q6s n n] 106 Tryz.f106 0 @Q6E n
def Rf:BZ9:=Xa [⟨106,Q8D n⟩] [(5,⟨[],[],[(5,1005,181,1)],[],[]⟩)]
def Q2M:LZ9:=mkU (Rf n).ok nT 9 Tryz.f74 [(0,.t),Qnz,Qmq,Qm2,QlO] [(1005,.arr 181 1)] 55 [xE 2 [(30,.b)]] @R3 n
def Q2d:LZ9:=mkU (Rf n).ok [Q2M n n] 6 Tryz.f74 [(0,.t),Qnz,Qmq,Qm2] [(1005,.arr 181 1)] 79 [.f .ret [(2,.nil),(3,tI),(4,tI)] [] [0,0],xE 0 [(17,.b)]] @HX n
def Ca:EZ9 74:=mkD (Rf n).ok [Q2d n n] 74 Tryz.f74 0 @DA n
def MX:BZ9:=Xa [⟨186,C8 n⟩] []
def Q0g:LZ9:=mkU (MX n).ok nT 8 Tryz.f151 [(4,.t),Qm0,Qmq,Qm2] [] 73 [.f .ret [(2,.ci .i64 0),(3,.cb false)] [] [],xE 0 [(44,.b)]] @KV n
def Gp:EZ9 151:=mkD (MX n).ok [Q0g n n] 151 Tryz.f151 0 @WU n
def F5(n:Nat):BZ9:=Xa [] []
def Q1O:LZ9:=mkU (F5 n).ok nT 2 Tryz.f152 [(0,.l 1),(1,.t),Qm0] [] 22 [.f .ret [(4,tI)] [] [0],xE 0 [(9,.b)]] @R9 n
def M9:EZ9 152:=mkD (F5 n).ok [Q1O n n] 152 Tryz.f152 0 @Ko n
def Sc:EZ9 107:=mkW (Xa [⟨151,Gp n⟩,⟨152,M9 n⟩] []).ok nT 107 Tryz.f107 [eP 1000000 4,eR 1000001 9 1,eR 1000002 9 1,eR 1000003 62 5,eR 1000004 172 6,sL 3] [sI] [] 10 22 @K8 n
def Ct:EZ9 153:=mkD (Xa [] []).ok nT 153 Tryz.f153 0 @PH n
def Ny:EZ9 108:=mkW (Xa [⟨153,Ct n⟩,⟨110,Lo n⟩,⟨152,M9 n⟩] []).ok nT 108 Tryz.f108 [eP 1000000 4,eR 1000001 9 1,eR 1000002 9 1,eR 1000003 62 5,eR 1000004 172 6,sL 3] [sI] [] 0 14 @TD n
def EV:EZ9 75:=mkW (Xa [⟨107,Sc n⟩,⟨108,Ny n⟩] []).ok nT 75 Tryz.f75 [eP 1000000 4,eR 1000001 9 1,eR 1000002 9 1,eR 1000003 62 5,eR 1000004 172 6,sL 3] [sI] [] 0 0 @NI n
def Fm:BZ9:=Xa [⟨74,Ca n⟩,⟨75,EV n⟩,⟨76,Pc n⟩] [(5,⟨[],[],[],[(8,0,500800,9,1),(8,1,500801,9,1),(8,2,500802,62,5),(8,3,500803,172,6)],[]⟩)]
def Q1M:LZ9:=mkU (Fm n).ok nT 6 Tryz.f55 [Qmx,(5,.l 1),(8,.ptr 8 0),Qmd] [QoO,(8,.box [.arr 500800,.arr 500801,.arr 500802,.arr 500803]),(500800,.arr 9 1),(500801,.arr 9 1),(500802,.arr 62 5),(500803,.arr 172 6)] 727 [.f .ret [(2,.ptr 2 0),(3,tI),(4,tI)] [(2,.box Qmu)] [0,0],xE 0 [(26,.b)]] @R8 n
def Q45:EZ9 55:=mkD (Fm n).ok [Q1M n n] 55 Tryz.f55 0 @Q0Z n
def RT:EZ9 59:=mkD (Xa [] []).ok nT 59 Tryz.f59 0 @Ha n
def NL:BZ9:=Xa [⟨151,Gp n⟩] [(2,⟨[],[],[(4,1004,3,1)],[],[]⟩)]
def Q01:LZ9:=mkU (NL n).ok nT 3 Tryz.f157 [(0,.l 3),(4,.arr 1004),Qm0] [(1004,.arr 3 1)] 25 [.f .ret [(2,.nil),(3,.cb false)] [] [],xE 0 [(11,.b)]] @Tp n
def L7:EZ9 157:=mkD (NL n).ok [Q01 n n] 157 Tryz.f157 0 @DT n
def FW:BZ9:=Xa [⟨151,Gp n⟩] []
def Q2Q:LZ9:=mkU (FW n).ok nT 2 Tryz.f158 [(0,.t),Qm0] [] 7 [.f .ret [(2,tI),(3,tI),(4,.b)] [] [0,0,0],xE 0 [(14,.b)]] @RU n
def Q44:EZ9 158:=mkD (FW n).ok [Q2Q n n] 158 Tryz.f158 0 @Q8v n
def Jx(n:Nat):BZ9:=Xa [] []
def Px:LZ9:=mkU (Jx n).ok nT 2 Tryz.f156 [QlM,(1,.t),Qm0] QoW 177154 [.f .ret [(4,tI)] [(98005,.arr 79 5),(98006,.arr 66 2),(98007,.arr 90 4),(98008,.arr 87 7),(98009,.arr 146 4),(98010,.arr 93 5),(98011,.arr 45 3),(1000000,.box Qo4)] [0,3,4,5,6,7,8,9,10,11,12,13,14,15],xE 0 [(13,.b)]] @UA n
def PQ:EZ9 156:=mkW (Jx n).ok [Px n n] 156 Tryz.f156 [eP 1000000 13,sL 1,sL 1,sL 5,sL 6,sI,eR 1000001 79 5,eR 1000002 66 2,eR 1000003 90 4,eR 1000004 87 7,eR 1000005 146 4,eR 1000006 93 5,eR 1000007 45 3,sI,sT] [sI] [] 8187 16382 @Kg n
def Vc:BZ9:=Xa [⟨151,Gp n⟩,⟨156,PQ n⟩] [(15,⟨[],[],[],[(6,0,1060,128,2)],[]⟩)]
def SU:LZ9:=mkU (Vc n).ok nT 11 Tryz.f113 [QlM,(1,.l 3),Qm0,QmB,Qmd] [(6,.box [.nil,tI]),Qo6,Qo7,Qo8,Qo9,Qoa,Qob,Qoc,QoX] 22 [.f .ret [(4,.ci .i64 2)] [(98005,.arr 79 5),(98006,.arr 66 2),(98007,.arr 90 4),(98008,.arr 87 7),(98009,.arr 146 4),(98010,.arr 93 5),(98011,.arr 45 3),(1000000,.box Qo4)] [5,6,7,8,9,10,11,12,13,14,15,16,17],xE 0 [(55,.b)]] @YN n
def RK:LZ9:=mkU (Vc n).ok nT 16 Tryz.f113 [QlM,(1,.l 3),Qm0,QmB,QmV] [(6,.box [.arr 1060,tI]),(1060,.arr 128 2),Qo6,Qo7,Qo8,Qo9,Qoa,Qob,Qoc,QoX] 4783153 [.f .ret [(4,.ci .i64 3)] [(98005,.arr 79 5),(98006,.arr 66 2),(98007,.arr 90 4),(98008,.arr 87 7),(98009,.arr 146 4),(98010,.arr 93 5),(98011,.arr 45 3),(1000000,.box Qo4)] [6,7,8,9,10,11,12,13,14,15,16,17,18],xE 2 [(76,.b)]] @Yf n
def Nq:EZ9 113:=mkW (Vc n).ok [SU n n,RK n n] 113 Tryz.f113 [eP 1000000 13,sL 1,sL 1,sL 5,sL 6,sI,eR 1000001 79 5,eR 1000002 66 2,eR 1000003 90 4,eR 1000004 87 7,eR 1000005 146 4,eR 1000006 93 5,eR 1000007 45 3,sI,sL 3] [sI] [] 8123 16254 @HN n
def Gf(n:Nat):BZ9:=Xa [] []
def Rx:LZ9:=mkU (Gf n).ok nT 2 Tryz.f160 [QlM,(1,.t),Qm0] QoW 16 [.f .ret [(4,tI)] [(98005,.arr 79 5),(98006,.arr 66 2),(98007,.arr 90 4),(98008,.arr 87 7),(98009,.arr 146 4),(98010,.arr 93 5),(98011,.arr 45 3),(1000000,.box Qo4)] [0,3,4,5,6,7,8,9,10,11,12,13,14,15],xE 0 [(13,.b)]] @Vg n
def Np:EZ9 160:=mkW (Gf n).ok [Rx n n] 160 Tryz.f160 [eP 1000000 13,sL 1,sL 1,sL 5,sL 6,sI,eR 1000001 79 5,eR 1000002 66 2,eR 1000003 90 4,eR 1000004 87 7,eR 1000005 146 4,eR 1000006 93 5,eR 1000007 45 3,sI,sT] [sI] [] 8159 16382 @HP n
def QiM:TT:=(90,⟨.struct,4,56,[.string ⟨#[]⟩,.int .i64 0,.int .i64 0,.slice none 0 0],[.str [],.int .i64 0,.int .i64 0,.nl],[(0,9),(1,3),(2,3),(3,88)],none⟩)::gtt
theorem Qeo:TOk Tryz.prog QiM:=λt ti h=>by
  unfold QiM at h
  rw[Xd]at h
  split at h
  · rename_i e
    subst e
    injection h with h
    subst h
    have h:=DV 90 _ (show look gtt 90=some _ from rfl)
    exact⟨h.inf,h.one,h.kint,h.kbool,h.kstr,h.ksl,h.kstruct,h.karr,h.keq,h.zlen,λ_ j x hj=>by
      rcases j with _ | _ | _ | _ | j
      · cases hj;exact⟨_,rfl,λ_ _=>.str ⟨#[]⟩⟩
      · cases hj;exact⟨_,rfl,λ_ _=>.int _ _⟩
      · cases hj;exact⟨_,rfl,λ_ _=>.int _ _⟩
      · cases hj;exact⟨_,rfl,λ_ _=>.nl⟩
      · (cases hj),h.kmpb,h.kmap⟩
  · exact DV t ti h
def Nl:BZ9:=⟨⟨A5 (QbT [⟨151,Gp n⟩,⟨157,L7 n⟩,⟨160,Np n⟩,⟨152,M9 n⟩]),QiM,[]⟩,Az (Bl _),Qeo,by kernel_rfl⟩
def Nx:EZ9 118:=mkW (Nl n).ok nT 118 Tryz.f118 [eP 1000000 13,sL 1,sL 1,sL 5,sL 6,sI,eR 1000001 79 5,eR 1000002 66 2,eR 1000003 90 4,eR 1000004 87 7,eR 1000005 146 4,eR 1000006 93 5,eR 1000007 45 3,sI,sL 3] [sI] [] 1870 3742 @Tm n
def G0:EZ9 77:=mkW (Xa [⟨113,Nq n⟩,⟨118,Nx n⟩] []).ok nT 77 Tryz.f77 [eP 1000000 13,sL 1,sL 1,sL 5,sL 6,sI,eR 1000001 79 5,eR 1000002 66 2,eR 1000003 90 4,eR 1000004 87 7,eR 1000005 146 4,eR 1000006 93 5,eR 1000007 45 3,sI,sL 3] [sI] [] 1802 3614 @Kh n
def Gt:EZ9 189:=mkD (Xa [] []).ok nT 189 Tryz.f189 0 @XA n
def CV:EZ9 191:=mkD (Xa [] []).ok nT 191 Tryz.f191 0 @PC n
def AL:EZ9 192:=mkD (Xa [] []).ok nT 192 Tryz.f192 0 @FP n
def Es:BZ9:=Xa [⟨191,CV n⟩,⟨192,AL n⟩] []
def Q33:LZ9:=mkU (Es n).ok nT 4 Tryz.f162 [(0,.t),QnO,(20,tI)] [] 22 [.f .ret [(2,.cb false)] [] [],xE 0 [(21,.b)]] @SX n
def P7:EZ9 162:=mkD (Es n).ok [Q33 n n] 162 Tryz.f162 0 @KC n
def T9:EZ9 217:=mkD (Xa [] []).ok nT 217 Tryz.f217 0 @F1 n
def RX:BZ9:=Xa [⟨217,T9 n⟩] []
def CA:LZ9:=mkU (RX n).ok nT 2 Tryz.f219 [Qnf,Qn1,(11,.l 6),Qmg,Qmo] [(4,.box Qn0),QoR] 1102 [.f .ret [(6,.cb true)] [] [],xE 0 [(14,.b)]] @Ht n
def NM:EZ9 219:=mkD (RX n).ok [CA n n] 219 Tryz.f219 0 @GE n
def Ep:EZ9 220:=mkD (Xa [] []).ok nT 220 Tryz.f220 0 @JX n
def HM:EZ9 216:=mkD (Xa [] []).ok nT 216 Tryz.f216 0 @Yp n
def P6:EZ9 218:=mkD (Xa [] []).ok nT 218 Tryz.f218 0 @HA n
def GU:EZ9 164:=mkW (Xa [] []).ok nT 164 Tryz.f164 (eA [qT,qI,qI,qI,qI]::pT 1000000 79 [] []) [sB] [] 990 62 @Va n
def XK:BZ9:=Xa [⟨164,GU n⟩] []
def Z0:LZ9:=mkU (XK n).ok nT 2 Tryz.f193 [(0,.l 5),(1,.fn 164 [.ptr 1000000 0]),Qm2,QlO] [(1000000,bT 79 [])] 49 [.f .ret [(4,tI)] [(1000000,bT 79 [])] [0,4,5,6,7,8],xE 0 [(9,.b)]] @X1 n
def Z4:EZ9 193:=mkW (XK n).ok [Z0 n n] 193 Tryz.f193 (sL 5::eF 164 1::pT 1000000 79 [] []) [sI] [] 60 62 @XS n
def YV:EZ9 163:=mkW (Xa [⟨193,Z4 n⟩] []).ok nT 163 Tryz.f163 (sL 5::eF 164 1::pT 1000000 79 [] []) [sB] [] 60 62 @XJ n
def Hs:EZ9 165:=mkD (Xa [] []).ok nT 165 Tryz.f165 0 @Uv n
def Tz:BZ9:=Xa [⟨162,P7 n⟩,⟨163,YV n⟩,⟨165,Hs n⟩] []
def Lk:LZ9:=mkU (Tz n).ok nT 2 Tryz.f120 [Qmy,(8,.l 5),Qmd,QmV] [Qnl] 103 [.f .ret [(4,tI)] [] [0],xE 0 [(11,.b)]] @JP n
def P9:EZ9 120:=mkD (Tz n).ok [Lk n n] 120 Tryz.f120 0 @U6 n
def Q0D:EZ9 221:=mkD (Xa [] []).ok nT 221 Tryz.f221 0 @Nz n
def AH:EZ9 235:=mkD (Xa [] []).ok nT 235 Tryz.f235 0 @Rz n
def CN:EZ9 236:=mkD (Xa [] []).ok nT 236 Tryz.f236 0 @L6 n
def TP:BZ9:=Xa [⟨235,AH n⟩,⟨236,CN n⟩] []
def LD:LZ9:=mkU (TP n).ok nT 3 Tryz.f222 [(8,.ptr 8 0),(9,.ptr 9 0),(20,.l 6),(21,tI),(22,tI)] [(8,.box Qn0),(9,.box Qn0)] 1102 [.f .ret [(6,tI),(7,.cb true)] [] [0],xE 0 [(23,.b)]] @JY n
def Eh:EZ9 222:=mkD (TP n).ok [LD n n] 222 Tryz.f222 0 @JL n
def Kq:EZ9 168:=mkW (Xa [] []).ok nT 168 Tryz.f168 (eA [qT,qI,qI,qL 4]::pT 1000000 90 [] []) [sB] [] 238 30 @ZW n
def XO:BZ9:=Xa [⟨168,Kq n⟩] []
def Zn:LZ9:=mkU (XO n).ok nT 2 Tryz.f195 [(0,.l 4),(1,.fn 168 [.ptr 1000000 0]),Qm2,QlO] [(1000000,bT 90 [])] 49 [.f .ret [(4,tI)] [(1000000,bT 90 [])] [0,4,5,6,7],xE 0 [(9,.b)]] @Qq n
def Zt:EZ9 195:=mkW (XO n).ok [Zn n n] 195 Tryz.f195 (sL 4::eF 168 1::pT 1000000 90 [] []) [sI] [] 28 30 @X8 n
def YZ:EZ9 167:=mkW (Xa [⟨195,Zt n⟩] []).ok nT 167 Tryz.f167 (sL 4::eF 168 1::pT 1000000 90 [] []) [sB] [] 28 30 @QG n
def Ek:EZ9 169:=mkD (Xa [] []).ok nT 169 Tryz.f169 0 @Tl n
def RQ:EZ9 172:=mkD (Xa [] []).ok nT 172 Tryz.f172 0 @Kt n
def Dz:EZ9 252:=mkD (Xa [] []).ok nT 252 Tryz.f252 0 @NZ n
def D4:EZ9 253:=mkD (Xa [] []).ok nT 253 Tryz.f253 0 @Ty n
def NH:EZ9 245:=mkD (Xa [⟨252,Dz n⟩,⟨253,D4 n⟩] []).ok nT 245 Tryz.f245 0 @Tc n
def HO:EZ9 224:=mkD (Xa [] []).ok nT 224 Tryz.f224 0 @Uj n
def NG:EZ9 174:=mkD (Xa [] []).ok nT 174 Tryz.f174 0 @Tg n
def LO:EZ9 173:=mkD (Xa [] []).ok nT 173 Tryz.f173 0 @Si n
def L4:EZ9 175:=mkD (Xa [] []).ok nT 175 Tryz.f175 0 @G1 n
def MV:EZ9 171:=mkD (Xa [⟨175,L4 n⟩] []).ok nT 171 Tryz.f171 0 @Ug n
def HK:BZ9:=Xa [⟨171,MV n⟩,⟨172,RQ n⟩,⟨169,Ek n⟩,⟨173,LO n⟩,⟨174,NG n⟩] []
def MO:LZ9:=mkU (HK n).ok nT 2 Tryz.f123 [Qmx,Qmy,(10,.l 7),Qme,Qmg] Qnk 7173625 [.f .ret [(4,tI)] [] [0],xE 0 [(13,.b)]] @YU n
def TK:EZ9 123:=mkD (HK n).ok [MO n n] 123 Tryz.f123 0 @Wy n
def Kw:EZ9 177:=mkW (Xa [] []).ok nT 177 Tryz.f177 (eA [qI,qI,qI,qI]::pT 1000000 146 [] []) [sB] [] 204 30 @ZU n
def XR:BZ9:=Xa [⟨177,Kw n⟩] []
def Zp:LZ9:=mkU (XR n).ok nT 2 Tryz.f196 [(0,.l 4),(1,.fn 177 [.ptr 1000000 0]),Qm2,QlO] [(1000000,bT 146 [])] 130 [.f .ret [(4,tI)] [(1000000,bT 146 [])] [0,4,5,6,7],xE 0 [(9,.b)]] @Qr n
def Zu:EZ9 196:=mkW (XR n).ok [Zp n n] 196 Tryz.f196 (sL 4::eF 177 1::pT 1000000 146 [] []) [sI] [] 24 30 @Xb n
def Z1:EZ9 176:=mkW (Xa [⟨196,Zu n⟩] []).ok nT 176 Tryz.f176 (sL 4::eF 177 1::pT 1000000 146 [] []) [sB] [] 24 30 @QF n
def P2:BZ9:=Xa [⟨175,L4 n⟩,⟨172,RQ n⟩,⟨176,Z1 n⟩,⟨173,LO n⟩,⟨174,NG n⟩] []
def FU:LZ9:=mkU (P2 n).ok nT 2 Tryz.f124 [Qmy,QnJ,Qme,Qmg] [Qnl] 88582 [.f .ret [(4,tI)] [] [0],xE 0 [(13,.b)]] @ZR n
def Sl:EZ9 124:=mkD (P2 n).ok [FU n n] 124 Tryz.f124 0 @V2 n
def Pg:BZ9:=Xa [⟨171,MV n⟩] []
def FV:LZ9:=mkU (Pg n).ok nT 2 Tryz.f125 [Qmy,(8,.l 5),Qmd,QmV] [Qnl] 88582 [.f .ret [(4,.ci .i64 4)] [] [],xE 0 [(11,.b)]] @ZE n
def SA:EZ9 125:=mkD (Pg n).ok [FV n n] 125 Tryz.f125 0 @UT n
def HH(n:Nat):BZ9:=Xa [] []
def MT:LZ9:=mkU (HH n).ok nT 2 Tryz.f126 [Qmx,(8,.l 3),Qmd,QmV] [Qn5] 49 [.f .ret [(4,.ci .i64 4)] [] [],xE 0 [(11,.b)]] @YT n
def Tk:EZ9 126:=mkD (HH n).ok [MT n n] 126 Tryz.f126 0 @Wr n
def Z8(n:Nat):BZ9:=Xa [] []
def Ki:LZ9:=mkU (Z8 n).ok nT 5 Tryz.f79 [QlM,Qmk,(9,.l 4),QmV,Qme,(34,tI),(35,tI)] QoY 118666 [xE 2 [(36,.b)]] @Xk n
def Ky:LZ9:=mkU (Z8 n).ok [Ki n n] 1 Tryz.f79 [QlM,(9,.l 4),QmV,Qme] QoY 4450 [xE 0 [(12,.b)]] @X3 n
def He:EZ9 79:=mkW (Z8 n).ok [Ky n n] 79 Tryz.f79 (pT 1000000 192 [(12,eR 1000001 3 1),(13,eR 1000002 110 1),(14,eR 1000003 3 1),(15,eR 1000004 224 4),(17,eR 1000005 60 3),(18,eR 1000006 57 6)] []) [eT 0] [] 388991 389119 @YH n
def M8(n:Nat):BZ9:=Xa [] []
def Ao:LZ9:=mkU (M8 n).ok nT 2 Tryz.f127 [QlN,(8,.l 4),Qmd,QmV] [] 67 [.f .ret [(4,tI)] [] [0],xE 0 [(11,.b)]] @V0 n
def Q0a:EZ9 127:=mkD (M8 n).ok [Ao n n] 127 Tryz.f127 0 @H4 n
def HQ:BZ9:=Xa [⟨165,Hs n⟩] []
def MQ:LZ9:=mkU (HQ n).ok nT 6 Tryz.f246 [Qnm,QlN,(17,.l 2),Qnr,QnO] [] 198 [.f .ret [(6,.ci .i64 4)] [] [],xE 1 [(20,.b)]] @YR n
def LX:EZ9 246:=mkD (HQ n).ok [MQ n n] 246 Tryz.f246 0 @Je n
def SJ(n:Nat):BZ9:=Xa [] []
def Dm:LZ9:=mkU (SJ n).ok nT 3 Tryz.f254 [Qm2,(20,.l 2),(21,tI),(22,tI)] [] 68 [xE 0 [(23,.b)]] @WA n
def Cn:EZ9 254:=mkD (SJ n).ok [Dm n n] 254 Tryz.f254 0 @JG n
def Ax:EZ9 255:=mkD (Xa [] []).ok nT 255 Tryz.f255 0 @T5 n
def Aq:EZ9 256:=mkD (Xa [] []).ok nT 256 Tryz.f256 0 @HR n
def JT:BZ9:=Xa [⟨254,Cn n⟩,⟨255,Ax n⟩,⟨256,Aq n⟩] []
def LC:LZ9:=mkU (JT n).ok nT 5 Tryz.f247 [Qnm,QlN,Qn1,Qm2,(8,.arr 20),Qmd,QmV] [Qng,(20,.arr 3 1)] 147730 [xE 0 [(29,.b)]] @YB n
def LY:LZ9:=mkU (JT n).ok nT 12 Tryz.f247 [Qnm,QlN,Qn1,(8,.arr 20),Qmo] [Qng,(20,.arr 3 1)] 16411 [xE 2 [(68,.b)]] @Z9 n
def FS:EZ9 247:=mkW (JT n).ok [LC n n,LY n n] 247 Tryz.f247 [sL 2,sI,eA [qT,qI,qI,qI,qI]] [eR 20 3 1] [] 0 0 @JO n
def FZ(n:Nat):BZ9:=Xa [] []
def Q2t:LZ9:=mkU (FZ n).ok nT 3 Tryz.f248 [Qnn,Qmi,QlZ] [] 25 [xE 0 [(7,.b)]] @Vk n
def Q4h:EZ9 248:=mkD (FZ n).ok [Q2t n n] 248 Tryz.f248 0 @Sg n
def Pe:BZ9:=Xa [⟨246,LX n⟩,⟨247,FS n⟩,⟨248,Q4h n⟩] []
def Eb:LZ9:=mkU (Pe n).ok nT 6 Tryz.f238 [(9,.arr 50022),(23,.arr 50022),(24,tI),(25,tI)] [(50022,.arr 3 1)] 25 [xE 0 [(26,.b)]] @ZO n
def DI:EZ9 238:=mkD (Pe n).ok [Eb n n] 238 Tryz.f238 0 @Gm n
def Mq:EZ9 226:=mkD (Xa [] []).ok nT 226 Tryz.f226 0 @GM n
def Ss:BZ9:=Xa [⟨238,DI n⟩,⟨226,Mq n⟩] []
def EL:LZ9:=mkU (Ss n).ok nT 6 Tryz.f225 [(8,.l 1),(10,.arr 26),Qme] [(26,.arr 3 1)] 25 [xE 0 [(30,.b)]] @WD n
def CU:EZ9 225:=mkD (Ss n).ok [EL n n] 225 Tryz.f225 0 @Jt n
def Ex:EZ9 199:=mkD (Xa [⟨226,Mq n⟩] []).ok nT 199 Tryz.f199 0 @JQ n
def CB:EZ9 227:=mkD (Xa [] []).ok nT 227 Tryz.f227 0 @Po n
def AQ:EZ9 200:=mkD (Xa [⟨227,CB n⟩] []).ok nT 200 Tryz.f200 0 @Vi n
def LW:EZ9 201:=mkW (Xa [] []).ok nT 201 Tryz.f201 [eA [qL 1,qL 1,qL 5,qL 6]] [eR 10 164 3] [] 0 0 @J9 n
def Rj:EZ9 202:=QeP (mkW (Xa [] []).ok nT 202 Tryz.f202 [eR 1000000 164 3,sI,sI,sI] [eT 0] [(1,eK 1000000 164 3)] 0 0 @XF n)
def Q0r:EZ9 240:=mkD (Xa [] []).ok nT 240 Tryz.f240 0 @M4 n
def Kb(n:Nat):BZ9:=Xa [] [(2,⟨[],[],[(3,1003,164,3)],[],[]⟩)]
def Nm:LZ9:=mkU (Kb n).ok nT 3 Tryz.f204 [QmY,(6,.l 3),Qm2,QlO] [(1003,.arr 164 3)] 76 [xE 0 [(9,.b)]] @Y6 n
def NX:EZ9 204:=mkW (Kb n).ok [Nm n n] 204 Tryz.f204 [sL 3] [eR 1003 164 3] [] 0 0 @Vm n
def JC:EZ9 130:=mkW (Xa [] []).ok nT 130 Tryz.f130 (pT 1000000 192 Qol [sI,sI]) [sI] [] 520191 1048574 @XW n
def T7:EZ9 129:=mkW (Xa [] []).ok nT 129 Tryz.f129 (pT 1000000 192 Qol [sI,sI,sI,sI,sI]) [eT 0] [] 475135 491519 @Yk n
def Pp:EZ9 131:=mkW (Xa [⟨130,JC n⟩] []).ok nT 131 Tryz.f131 (pT 1000000 192 Qol [sI]) [sI] [] 520063 1048574 @We n
def Yo:BZ9:=Xa [⟨130,JC n⟩,⟨129,T7 n⟩,⟨131,Pp n⟩] []
def H3:LZ9:=mkU (Yo n).ok nT 4 Tryz.f81 [QlM,Qmk,(13,.l 4),Qmr,Qml,(26,.l 4),QnV,(28,tI)] QoZ 282429553573 [xE 2 [(29,.b)]] @Xv n
def Hb:LZ9:=mkU (Yo n).ok [H3 n n] 1 Tryz.f81 [QlM,(13,.l 4),Qmr,Qml] QoZ 3486784612 [xE 0 [(16,.b)]] @QP n
def Hl:LZ9:=mkU (Yo n).ok nT 10 Tryz.f81 [QlM,(56,.l 4),(57,tI),(58,tI)] QoZ 3491567581 [xE 4 [(59,.b)]] @Xt n
def Hy:EZ9 81:=mkW (Yo n).ok [Hb n n,Hl n n] 81 Tryz.f81 (pT 1000000 192 Qol []) [eT 0] [] 470399 491519 @YK n
def Ng(n:Nat):BZ9:=Xa [] []
def Cs:LZ9:=mkU (Ng n).ok nT 3 Tryz.f180 [Qmi,(6,.l 3),Qm2,QlO] [] 68 [.f .ret [(2,.cb false)] [] [],xE 0 [(9,.b)]] @U7 n
def Nv:EZ9 180:=mkD (Ng n).ok [Cs n n] 180 Tryz.f180 0 @Jj n
def N8:BZ9:=Xa [⟨180,Nv n⟩] []
def CC:LZ9:=mkU (N8 n).ok nT 4 Tryz.f132 [Qnn,(18,.l 3),QnO,(20,tI)] [] 67 [.f .ret [(4,.cb false)] [] [],xE 0 [(21,.b)]] @Ud n
def Am:EZ9 132:=mkD (N8 n).ok [CC n n] 132 Tryz.f132 0 @HV n
def VQ:EZ9 134:=mkW (Xa [] []).ok nT 134 Tryz.f134 (eA [qI,qI,qI]::eA [qI,qI,qI]::pT 1000000 224 [] (eP 1000001 1::sB::eP 1000002 1::pT 1000003 192 [(12,eR 1000004 3 1),(17,eR 1000005 60 3),(18,eR 1000006 57 6)] [])) [eT 0] [] 1073707209 16777199 @Yi n
def WZ:BZ9:=Xa [⟨134,VQ n⟩] []
def TW:LZ9:=mkU (WZ n).ok nT 5 Tryz.f133 [QlM,Qor,Qnf,Qn2,(17,.l 3),Qnr,QnO,(30,.l 3),(31,tI),(32,tI)] [Qos,(7,.box [.x,.x,.x]),Qog,Qoi,Qoj,Qp1,(1000004,bT 224 []),(1000005,.box [.b]),(1000006,.box Qoq)] 366898000880223711 [xE 2 [(33,.b)]] @QZ n
def TQ:LZ9:=mkU (WZ n).ok [TW n n] 2 Tryz.f133 [QlM,Qor,Qnf,(17,.l 3),Qnr,QnO] [Qos,Qog,Qoi,Qoj,Qp1,(1000004,bT 224 []),(1000005,.box [.b]),(1000006,.box Qoq)] 503320819852066 [xE 0 [(20,.b)]] @Xx n
def PF:EZ9 133:=mkW (WZ n).ok [TQ n n] 133 Tryz.f133 (pT 1000000 192 Qou (eA [qI,qI,qI,qI]::eF 134 3::pT 1000004 224 [] [eP 1000005 1,sB,eP 1000006 1,eS 1000000])) [eT 0] [] 29876207 8388607 @ZY n
def WQ:BZ9:=Xa [⟨132,Am n⟩,⟨133,PF n⟩] [(5,⟨[],[],[],[],[98015]⟩),(7,⟨[],[],[],[],[98015]⟩)]
def TC:LZ9:=mkU (WQ n).ok nT 2 Tryz.f82 [QmX,(11,.l 1),Qmg,Qmo] [(1,.box Qoq),Qog,Qoh,Qoi,Qoj,Qp0] 177169 [.f .ret [(2,.cb false)] [(98012,.arr 3 1),(98017,.arr 60 3),(98018,.arr 57 6),(1000000,bT 192 Qop)] [4,6,7,8,9,10,11,12,13,14,15,16,17,18,19,20,21,5,22],xE 0 [(14,.b)]] @XM n
def TL:LZ9:=mkU (WQ n).ok nT 8 Tryz.f82 [QmX,(29,.l 4),(30,tI),(31,tI)] [(1,.box Qoq),Qog,Qoi,Qoj,Qp1] 387479560 [.f .ret [(2,.cb false)] [(98012,.arr 3 1),(98017,.arr 60 3),(98018,.arr 57 6),(1000000,bT 192 Qop)] [4,5,6,7,8,9,10,11,12,13,14,15,16,17,18,19,20,21,22],xE 2 [(32,.b)]] @Xp n
def TR:EZ9 82:=mkW (WQ n).ok [TC n n,TL n n] 82 Tryz.f82 (pT 1000000 192 Qol []) [sB] [(17,sL 4)] 483311 1048574 @ZP n
def JA:EZ9 130:=mkW (Xa [] []).ok nT 130 Tryz.f130 (pT 1000000 192 Qou [sI,sI]) [sI] [] 520191 1048574 @Xg n
def N4:EZ9 136:=mkD (Xa [] []).ok nT 136 Tryz.f136 0 @Yx n
def Cp:EZ9 137:=mkD (Xa [] []).ok nT 137 Tryz.f137 0 @Uy n
def G7:EZ9 135:=mkW (Xa [] []).ok nT 135 Tryz.f135 (pT 1000000 192 Qou [sI,sI,sI,sI,sI,sI]) [eT 0] [] 262143 262143 @Xr n
def Pv:EZ9 131:=mkW (Xa [⟨130,JA n⟩] []).ok nT 131 Tryz.f131 (pT 1000000 192 Qou [sI]) [sI] [] 520063 1048574 @Vb n
def Xe:BZ9:=Xa [⟨130,JA n⟩,⟨136,N4 n⟩,⟨137,Cp n⟩,⟨135,G7 n⟩,⟨131,Pv n⟩] []
def GT:LZ9:=mkU (Xe n).ok nT 4 Tryz.f83 [QlM,Qmk,Qmy,(20,.l 4),(21,tI),(22,tI),(28,.l 4),(29,tI),(30,tI)] [(3,.box Qn9),Qog,Qoi,Qoj,Qp1] 7625600931295 [xE 2 [(31,.b)]] @QK n
def GX:LZ9:=mkU (Xe n).ok [GT n n] 1 Tryz.f83 [QlM,(20,.l 4),(21,tI),(22,tI)] Qp2 1162262002 [xE 0 [(23,.b)]] @QU n
def GW:LZ9:=mkU (Xe n).ok nT 14 Tryz.f83 [QlM,(84,.l 7),(85,tI),(86,tI)] Qp2 535 [xE 4 [(87,.b)]] @QW n
def K4:LZ9:=mkU (Xe n).ok nT 20 Tryz.f83 [QlM,(119,.l 4),(120,tI),(121,tI)] Qp2 1594858 [xE 6 [(122,.b)]] @QV n
def K6:LZ9:=mkU (Xe n).ok nT 25 Tryz.f83 [QlM,(146,.l 5),(147,tI),(148,tI)] Qp2 535 [xE 8 [(149,.b)]] @QX n
def Kx:EZ9 83:=mkW (Xe n).ok [GX n n,GW n n,K4 n n,K6 n n] 83 Tryz.f83 (pT 1000000 192 Qou []) [eT 0] [] 239743 262143 @Yz n
def Ul:EZ9 181:=mkW (Xa [] []).ok nT 181 Tryz.f181 [eA [qI,qI,qI],eA [qI,qI,qI],eP 1000000 1,eM 1000001 228] [eT 0] [(2,eH 1000001)] 62 0 @XH n
def U0:BZ9:=Xa [⟨181,Ul n⟩] []
def TU:LZ9:=mkU (U0 n).ok nT 5 Tryz.f133 [QlM,(2,.fn 181 [.ptr 1000004 0]),Qnf,Qn2,(17,.l 3),Qnr,QnO,(30,.l 3),(31,tI),(32,tI)] [Qos,(7,.box [.x,.x,.x]),Qog,Qoi,Qoj,Qp1,(1000004,.box [.arr 1000005]),(1000005,.mp 228)] 3706040378478474 [xE 2 [(33,.b)]] @Xc n
def TX:LZ9:=mkU (U0 n).ok [TU n n] 2 Tryz.f133 [QlM,(2,.fn 181 [.ptr 1000004 0]),Qnf,(17,.l 3),Qnr,QnO] [Qos,Qog,Qoi,Qoj,Qp1,(1000004,.box [.arr 1000005]),(1000005,.mp 228)] 5115112716613 [xE 0 [(20,.b)]] @Xy n
def Ps:EZ9 133:=mkW (U0 n).ok [TX n n] 133 Tryz.f133 (pT 1000000 192 Qou [eA [qI,qI,qI,qI],eF 181 1,eP 1000004 1,eM 1000005 228]) [eT 0] [(22,eH 1000005)] 4710399 524287 @W0 n
def WJ:BZ9:=Xa [⟨133,Ps n⟩] []
def JZ:LZ9:=mkU (WJ n).ok nT 3 Tryz.f138 [QlM,QlN,Qmk,Qn2,(14,.l 4),Qml,(16,tI)] [(7,.box [.arr 10]),(10,.mp 228),Qog,Qoi,Qoj,Qp1] 10460353891 [xE 0 [(17,.b)]] @QM n
def Ge:EZ9 138:=mkW (WJ n).ok [JZ n n] 138 Tryz.f138 (pT 1000000 192 Qou [sI,sI]) [eM 10 228] [] 483327 1048574 @Ya n
def Hh(n:Nat):BZ9:=Xa [] [(2,⟨[],[],[(5,1005,164,3)],[],[]⟩)]
def NQ:LZ9:=mkU (Hh n).ok nT 3 Tryz.f140 [(1,.arr 1000000),Qnz,(8,.l 3),Qmd,QmV] [(1005,.arr 164 3),(1000000,.mp 228)] 157 [xE 0 [(11,.b)]] @Yc n
def MR:EZ9 140:=QeP (mkW (Hh n).ok [NQ n n] 140 Tryz.f140 [sL 3,eM 1000000 228] [eR 1005 164 3] [] 0 0 @Un n)
def KM:EZ9 229:=mkD (Xa [] []).ok nT 229 Tryz.f229 0 @UQ n
def Nn:EZ9 230:=mkW (Xa [] [(2,⟨[],[],[(8,96001,266,2)],[],[]⟩)]).ok nT 230 Tryz.f230 [eN,sI,sI,sI] [eR 96001 266 2] [] 0 0 @Jp n
def Q0A:EZ9 207:=mkW (Xa [⟨229,KM n⟩,⟨59,RT n⟩,⟨230,Nn n⟩] [(2,⟨[],[],[(6,50016,266,2)],[],[]⟩)]).ok nT 207 Tryz.f207 [sI,sI,sI] [eT 2,eR 50016 266 2,sI] [] 0 0 @P1 n
def RY:BZ9:=Xa [⟨229,KM n⟩] []
def Ck:LZ9:=mkU (RY n).ok nT 5 Tryz.f209 [Qnn,Qm0,(11,.l 2),Qmg,Qmo] [] 205 [.f .ret [(4,.cb false)] [] [],xE 0 [(14,.b)]] @Ua n
def Mk:EZ9 209:=mkD (RY n).ok [Ck n n] 209 Tryz.f209 0 @Gs n
def RW:BZ9:=Xa [⟨229,KM n⟩,⟨209,Mk n⟩] []
def CL:LZ9:=mkU (RW n).ok nT 4 Tryz.f231 [Qnn,(10,.l 1),Qme,Qmg] [] 67 [.f .ret [(4,.ci .i64 1)] [] [],xE 0 [(13,.b)]] @U3 n
def AD:EZ9 231:=mkD (RW n).ok [CL n n] 231 Tryz.f231 0 @HZ n
def Wz:EZ9 244:=mkW (Xa [] [(6,⟨[],[],[(4,96001,266,2)],[],[]⟩)]).ok nT 244 Tryz.f244 [eN,sI] [eR 96001 266 2] [] 0 0 @QT n
def Xj:BZ9:=Xa [⟨244,Wz n⟩] []
def Wu:LZ9:=mkU (Xj n).ok nT 3 Tryz.f233 [(0,.l 1),Qmi,(9,.l 1),QmV,Qme] [] 204 [xE 0 [(12,.b)]] @Qv n
def Wv:LZ9:=mkU (Xj n).ok nT 11 Tryz.f233 [(6,.arr 50024),(25,.l 1),(26,tI),QnV] [(50024,.arr 266 2)] 76 [xE 2 [(28,.b)]] @Qw n
def WS:EZ9 233:=mkW (Xj n).ok [Wu n n,Wv n n] 233 Tryz.f233 [sL 1] [eR 50024 266 2] [] 0 0 @X0 n
def EP:EZ9 265:=mkD (Xa [] []).ok nT 265 Tryz.f265 0 @Mo n
def DF:EZ9 266:=mkD (Xa [] []).ok nT 266 Tryz.f266 0 @NK n
def Bz:EZ9 250:=mkD (Xa [⟨265,EP n⟩,⟨266,DF n⟩] []).ok nT 250 Tryz.f250 0 @SP n
def BD:EZ9 251:=mkD (Xa [] []).ok nT 251 Tryz.f251 0 @GC n
def D8:EZ9 243:=mkD (Xa [⟨251,BD n⟩] []).ok nT 243 Tryz.f243 0 @GQ n
def TV:EZ9 242:=mkD (Xa [⟨243,D8 n⟩] []).ok nT 242 Tryz.f242 0 @UR n
def Xn:BZ9:=Xa [⟨242,TV n⟩] []
def WM:LZ9:=mkU (Xn n).ok nT 4 Tryz.f257 [QnT,QlN,Qmk,(3,.fn 242 []),QlO,Qmd] Qow 217 [xE 2 [(34,.b)]] @Qx n
def WH:LZ9:=mkU (Xn n).ok [WM n n] 1 Tryz.f257 [QnT,QlN,Qmk,(3,.fn 242 []),QlO] Qow 76 [xE 0 [(14,.b)]] @Qn n
def WY:EZ9 257:=QeP (mkW (Xn n).ok [WH n n] 257 Tryz.f257 [eR 1000000 266 2,sI,sI,eF 242 0] [eT 0] [(1,eK 1000000 266 2)] 0 0 @XB n)
def YE:BZ9:=Xa [⟨257,WY n⟩] []
def UU:LZ9:=mkU (YE n).ok nT 2 Tryz.f249 [QnT,QlN,Qmk,Qmi,(4,.fn 242 []),(10,.cb true),(11,.cb true)] Qow 40 [.f .ret [] [(1000000,.arr 266 2)] [0]] @XN n
def V6:EZ9 249:=QeP (mkW (YE n).ok [UU n n] 249 Tryz.f249 [eR 1000000 266 2,sI,sI,sI,eF 242 0] [eT 0] [(1,eK 1000000 266 2)] 0 0 @XY n)
def ZB:EZ9 241:=QeP (mkW (Xa [⟨250,Bz n⟩,⟨249,V6 n⟩] []).ok nT 241 Tryz.f241 [eR 1000000 266 2,eF 242 0] [eT 0] [(1,eK 1000000 266 2)] 0 0 @QN n)
def Ts:BZ9:=Xa [⟨241,ZB n⟩] [(3,⟨[],[],[(3,1003,266,2)],[],[]⟩)]
def Lu:LZ9:=mkU (Ts n).ok nT 4 Tryz.f232 [QmY,(9,.arr 1000000),QmV,Qme] [(1003,.arr 266 2),Qox] 52 [xE 0 [(12,.b)]] @Xo n
def El:EZ9 232:=QeP (mkW (Ts n).ok [Lu n n] 232 Tryz.f232 [eR 1000000 266 2] [eR 1003 266 2] [(1,eK 1000000 266 2)] 0 0 @HD n)
def BY:EZ9 208:=mkW (Xa [⟨231,AD n⟩,⟨233,WS n⟩,⟨232,El n⟩] [(3,⟨[],[],[(6,50021,266,2)],[],[]⟩)]).ok nT 208 Tryz.f208 [sI,sL 2,sL 2] [eT 2,eR 50021 266 2,sI] [] 0 0 @T6 n
def Gg:EZ9 206:=mkW (Xa [⟨207,Q0A n⟩,⟨208,BY n⟩] []).ok nT 206 Tryz.f206 [eA [qI,qI,qI],eA [qI,qI,qI],eP 1000000 1,sI,eP 1000001 1,eR 1000002 266 2] [eT 0] [] 9 1 @Zb n
def HJ:BZ9:=Xa [⟨206,Gg n⟩] []
def MP:LZ9:=mkU (HJ n).ok nT 0 Tryz.f205 [(0,.l 3),(1,.l 3),(2,.fn 206 [.ptr 1000000 0,.ptr 1000001 0])] [(98040,.arr 266 2),(1000000,.box [tI]),(1000001,.box [.arr 98040])] 53 [xE 0 [(15,.b)]] @QH n
def Lr:EZ9 205:=mkW (HJ n).ok [MP n n] 205 Tryz.f205 [sL 3,sL 3,eF 206 2,eP 1000000 1,sI,eP 1000001 1,eR 1000002 266 2] [eT 0] [] 0 1 @KK n
def LE:EZ9 182:=mkW (Xa [⟨180,Nv n⟩,⟨205,Lr n⟩] [(3,⟨[],[],[(6,50024,266,2)],[],[]⟩),(6,⟨[],[],[(6,50024,266,2)],[],[]⟩),(7,⟨[],[],[],[(8,0,2320,266,2)],[]⟩)]).ok nT 182 Tryz.f182 [sI,sL 3,sL 3] [eT 2,eR 50024 266 2,sI] [] 0 0 @Jh n
def CX:EZ9 234:=mkD (Xa [] []).ok nT 234 Tryz.f234 0 @PD n
def N7:BZ9:=Xa [⟨234,CX n⟩] []
def Co:LZ9:=mkU (N7 n).ok nT 3 Tryz.f210 [Qmi,(6,.l 2),Qm2,QlO] [] 68 [xE 0 [(9,.b)]] @ZV n
def AI:EZ9 210:=mkD (N7 n).ok [Co n n] 210 Tryz.f210 0 @Rb n
def BQ:EZ9 183:=mkD (Xa [⟨209,Mk n⟩,⟨210,AI n⟩] []).ok nT 183 Tryz.f183 0 @Tb n
def GL:BZ9:=Xa [⟨182,LE n⟩,⟨183,BQ n⟩] [(8,⟨[],[],[],[],[50018]⟩),(11,⟨[],[],[(11,1011,123,2)],[],[]⟩)]
def FY:LZ9:=mkU (GL n).ok nT 12 Tryz.f139 [Qnn,(11,.arr 1011),(65,.l 2),(66,tI),(67,tI)] [(1011,.arr 123 2)] 229 [xE 0 [(68,.b)]] @ZD n
def Fk:LZ9:=mkU (GL n).ok nT 12 Tryz.f139 [Qnn,(11,.arr 1011),(65,.arr 50018),(66,tI),(67,tI)] [(1011,.arr 123 2),(50018,.arr 266 2)] 157 [xE 0 [(68,.b)]] @YM n
def Da:EZ9 139:=mkD (GL n).ok [orL (Fk n n) (FY n n)] 139 Tryz.f139 0 @WL n
def Y7:BZ9:=Xa [⟨138,Ge n⟩,⟨140,MR n⟩,⟨139,Da n⟩,⟨136,N4 n⟩,⟨135,G7 n⟩] []
def GR:LZ9:=mkU (Y7 n).ok nT 12 Tryz.f84 [QlM,Qmi,QlZ,Qmr,Qml,(63,.l 2),(64,tI),(65,tI)] Qp2 41152 [xE 4 [(66,.b)]] @QQ n
def GF:LZ9:=mkU (Y7 n).ok [GR n n] 5 Tryz.f84 [QlM,Qmi,QlZ,Qmr,Qml] Qp2 11622793282 [.f .ret [(2,tI)] [(98012,.arr 3 1),(98017,.arr 60 3),(98018,.arr 57 6),(1000000,bT 192 Qop)] [0,5,6,0,8,9,10,11,12,13,14,15,16,17,18,19,20,21,22,23],xE 2 [(26,.b)]] @X7 n
def GA:LZ9:=mkU (Y7 n).ok [GF n n] 2 Tryz.f84 [QlM,Qmr,Qml] Qp2 1291421482 [.f .ret [(2,tI)] [(98012,.arr 3 1),(98017,.arr 60 3),(98018,.arr 57 6),(1000000,bT 192 Qop)] [0,3,4,0,6,7,8,9,10,11,12,13,14,15,16,17,18,19,20,21],xE 0 [(16,.b)]] @QI n
def K5:EZ9 84:=mkW (Y7 n).ok [GA n n] 84 Tryz.f84 (pT 1000000 192 Qou []) [sI] [] 221167 524286 @Yq n
def D1:EZ9 184:=mkD (Xa [] []).ok nT 184 Tryz.f184 0 @Gk n
def Nd:BZ9:=Xa [⟨184,D1 n⟩] []
def CT:LZ9:=mkU (Nd n).ok nT 4 Tryz.f142 [QmX,(26,.l 6),QnV,(28,tI)] [(1,.box QnR)] 373 [.f .ret [(2,.cb false)] [] [],xE 0 [(29,.b)]] @U9 n
def BJ:EZ9 142:=mkD (Nd n).ok [CT n n] 142 Tryz.f142 0 @Te n
def Ml:BZ9:=Xa [⟨142,BJ n⟩] []
def A4:LZ9:=mkU (Ml n).ok nT 4 Tryz.f86 [Qmx,(18,.l 1),QnO,(20,tI)] [(2,.box QnR)] 49 [.f .ret [(4,.cb false)] [] [],xE 0 [(21,.b)]] @V5 n
def MZ:EZ9 86:=mkD (Ml n).ok [A4 n n] 86 Tryz.f86 0 @G3 n
def E2:EZ9 141:=mkD (Xa [⟨59,RT n⟩] []).ok nT 141 Tryz.f141 0 @JI n
def N0:BZ9:=Xa [⟨86,MZ n⟩,⟨141,E2 n⟩] []
def Cw:LZ9:=mkU (N0 n).ok nT 4 Tryz.f85 [Qny,Qmx,(13,.l 6),Qmr,Qml] [(2,.box QnR)] 1120 [.f .ret [(4,tI),(5,.cb true)] [] [0],xE 0 [(16,.b)]] @Uc n
def AJ:EZ9 85:=mkD (N0 n).ok [Cw n n] 85 Tryz.f85 0 @Gh n
def Em:EZ9 58:=mkD (Xa [⟨85,AJ n⟩,⟨86,MZ n⟩] []).ok nT 58 Tryz.f58 0 @Y1 n
def TJ:EZ9 30:=mkW (Xa [] []).ok nT 30 Tryz.f30 (pT 1000000 104 Qoy [sI,sI]) [sI] [] 127 510 @Zk n
def P0:EZ9 47:=mkW (Xa [] []).ok nT 47 Tryz.f47 (pT 1000000 104 Qoy [sI,sI]) [sB] [] 189 510 @ZL n
def XG:BZ9:=Xa [⟨47,P0 n⟩] []
def GZ:LZ9:=mkU (XG n).ok nT 3 Tryz.f31 [QlM,QlN,(5,.arr 19),(21,tI),(22,tI)] Qp3 21946 [xE 0 [(23,.b)]] @QL n
def K2:LZ9:=mkU (XG n).ok nT 15 Tryz.f31 [QlM,(5,.arr 19),(7,.b),QlO,(36,tI),(37,tI),(46,.l 1),(47,tI),(48,tI)] Qp3 4808813 [xE 6 [(49,.b)]] @QC n
def GY:LZ9:=mkU (XG n).ok [K2 n n] 12 Tryz.f31 [QlM,(5,.arr 19),(7,.b),(36,tI),(37,tI)] Qp3 59450 [xE 4 [(38,.b)]] @Xf n
def GV:LZ9:=mkU (XG n).ok [GY n n] 9 Tryz.f31 [QlM,(5,.arr 19),(7,.b)] Qp3 6605 [.e 2 [(34,.b)] [7] [] []] @QD n
def UX:EZ9 31:=mkW (XG n).ok [GZ n n,GV n n] 31 Tryz.f31 (pT 1000000 104 Qoy [sI]) [eR 19 3 1] [] 161 510 @Xz n
def Vv(n:Nat):BZ9:=Xa [] [(2,⟨[],[],[(5,1005,3,1)],[],[]⟩)]
def HE:LZ9:=mkU (Vv n).ok nT 3 Tryz.f32 [QlM,QlN,Qnz,(12,.l 6),Qmo,Qmr] [(1005,.arr 3 1),QoB,QoC,QoD,QoE,Qp4] 2416 [xE 0 [(15,.b)]] @X9 n
def VM:EZ9 32:=mkW (Vv n).ok [HE n n] 32 Tryz.f32 (pT 1000000 104 Qoy [sI]) [eR 1005 3 1] [] 219 510 @Yj n
def VN(n:Nat):BZ9:=Xa [] []
def Ta:LZ9:=mkU (VN n).ok nT 3 Tryz.f33 [QlM,Qny,Qm2,(12,.l 1),Qmo,Qmr] [QoB,QoC,QoD,QoE,Qp4] 178081 [xE 0 [(15,.b)]] @X2 n
def VU:EZ9 33:=mkW (VN n).ok [Ta n n] 33 Tryz.f33 (pT 1000000 104 Qoy [sL 1,sL 1]) [sI] [] 235 510 @Y4 n
def Tt:EZ9 34:=mkW (Xa [] []).ok nT 34 Tryz.f34 (pT 1000000 104 Qoy [sL 1,sI,sI]) [sB] [] 235 510 @Zl n
end Go.Vx
namespace Go.Vx
section
variable{R:Type}
theorem Q4K(x:Int):0<=IntKind.wrap .u64 x:=by
 have:=Int.emod_nonneg x (show(18446744073709551616:Int)≠0 by decide);simpa[IntKind.wrap,IntKind.bits,IntKind.signed]using this
theorem Qcj{x:Int}(a:0<=x)(b:x<18446744073709551616):IntKind.wrap .u64 x=x:=by
 have:=Int.emod_eq_of_lt a b;simpa[IntKind.wrap,IntKind.bits,IntKind.signed]using this
def pick(v m:Int):Int:=(IntKind.wrap .u64 v).tmod m
theorem Du(v:Int){m:Int}(h:0<m):0<=pick v m/\pick v m<m:=by
 unfold pick;rw[Int.tmod_eq_emod_of_nonneg (Q4K v)];exact⟨Int.emod_nonneg _ Q0,Int.emod_lt_of_pos _ h⟩
theorem QiV(n:Nat)(v:Int){m:Int}(h:0<m)(hm:m<=9223372036854775807)(K:Int->oP R):Ea n v m K=K (pick v m):=by
 unfold Ea;rw[Qcj (x:=m) Q0 Q0,CR Q0];simp -implicitDefEqProofs only[Qh];have:=Du v h;unfold pick at this ⊢;rw[Q5D Q0 Q0]
theorem Qc8(n:Nat){l:List Int}(hl:l.length<=9223372036854775807){i:Nat}(hi:i<=l.length){m:Int}(h:0<m)(hm:m<=9223372036854775807) :
  ∃(v:Int) (j:Nat),0<=v/\v<m/\j<=l.length/\∀(R:Type) (K:Int->Int->oP R),Qm n (encI l) i m K=K v j:=by
 by_cases aa:i<l.length
 ·have hg:=List.getElem?_eq_getElem aa;refine⟨pick l[i] m,i+1,(Du _ h).1,(Du _ h).2,Q0,λR K=>?_⟩;unfold Qm;rw[Qp (by simp[QR];omega),Q5D (x:=(i:Int)+1) Q0 Q0,Q5D Q0 Q0];rw[show(i:Int)+1-1=(i:Int) by omega,KS hg];simp -implicitDefEqProofs only[Qh,List.getElem?_cons_zero,Qj,QiV n _ h hm];rfl
 ·refine⟨0,i,Q0,h,hi,λR K=>?_⟩;unfold Qm;rw[Xh (by simp[QR];omega)]
end
def OkP{R:Type}(P:R->Prop)(E:oP R):Prop:=∃v,E=some v/\P v
instance {R:Type}:Membership (oP R) (R->Prop):=⟨λP E=>OkP P E⟩
theorem okI{R:Type}{P:R->Prop}{v:R}(h:P v):some v∈P:=⟨v,rfl,h⟩
theorem okB{R S:Type}{P:S->Prop}{E:oP R}{z:R}{f:R->oP S}(h:E∈(λv=>f v∈P:R->Prop)):gb true E z f∈P:=by
 obtain⟨v,e,h⟩:=h;rw[e];exact h
theorem Vw{R:Type}{n:Nat}{l:List Int}(hl:l.length<=9223372036854775807){i:Nat}(hi:i<=l.length){m:Int}(h:0<m)(hm:m<=9223372036854775807){z:Int×Int}{f:Int×Int->oP R}{P:R->Prop}(H:∀(v:Int) (j:Nat),0<=v->v<m->j<=l.length->f (v,(j:Int))∈P) :
  gb true (Qm n (encI l) (i:Int) m Tu2) z f∈P:=by
 obtain⟨v,j,c,d,hj,e⟩:=Qc8 n hl hi h hm;rw[e];exact H v j c d hj
structure Num(a b c:Int):Prop where
 a0:2<=a
 a1:a<=10
 b0:5000<=b
 b1:b<=35000
 c0 : -10<=c
 c1:c<=10
theorem Qo{x:Int}(a : -9223372036854775808<=x)(b:x<=9223372036854775807):wJ x=x:=by
 simp only[IntKind.wrap_i64];omega
theorem QfL{R:Type}{n:Nat}{l:List Int}(hl:l.length<=9223372036854775807){i:Nat}(hi:i<=l.length){nm:List UInt8}{st:Int}{z:List UInt8×Int×Int×Int×Int×Int}{f:List UInt8×Int×Int×Int×Int×Int->oP R}{P:R->Prop}(H:∀(a b c:Int) (j:Nat),Num a b c->j<=l.length->f (nm,a,b,c,st,(j:Int))∈P) :
  gb true (WG n (encI l) (i:Int) nm st Tu6) z f∈P:=by
 obtain⟨v,j,u,y,hj,e⟩:=Qc8 n hl hi (show(0:Int)<9 by decide) Q1;obtain⟨d,j2,g0,g1,q,e2⟩:=Qc8 n hl hj (show(0:Int)<7 by decide) Q1;obtain⟨r,j3,k0,k1,s,t⟩:=Qc8 n hl q (show(0:Int)<21 by decide) Q1;unfold WG;rw[e,Qh,e2,Qh,t,Qh,Qh];rw[Qo (x:=2+v) Q0 Q0,Qo (x:=5000*d) Q0 Q0,Qo (x:=5000+5000*d) Q0 Q0,Qo (x:=r-10) Q0 Q0];exact H _ _ _ _ ⟨Q0,Q0,Q0,Q0,Q0,Q0⟩ s
theorem two{v:Int}(a:0<=v)(b:v<2):v=0\/v=1:=Q0
theorem Bx{R:Type}(n:Nat)(a:List UInt8)(d:Nat)(hd:d<10)(ha:a.length<=100)(K:List UInt8->oP R):VA n a (d:Int) K=K (a++[UInt8.ofNat (48+d)]):=by
 have:∀d:Fin 10,∃q,slB (List.length (bs [48,49,50,51,52,53,54,55,56,57])) (some (Int.tmod (d.val:Int) (10:Int))) (some (wJ ((Int.tmod (d.val:Int) (10:Int))+(1:Int))))=some q/\cut (bs [48,49,50,51,52,53,54,55,56,57]) q=[UInt8.ofNat (48+d.val)]:=by
  intro d
  match d with
  |0=>exact⟨_,rfl,rfl⟩
  |1=>exact⟨_,rfl,rfl⟩
  |2=>exact⟨_,rfl,rfl⟩
  |3=>exact⟨_,rfl,rfl⟩
  |4=>exact⟨_,rfl,rfl⟩
  |5=>exact⟨_,rfl,rfl⟩
  |6=>exact⟨_,rfl,rfl⟩
  |7=>exact⟨_,rfl,rfl⟩
  |8=>exact⟨_,rfl,rfl⟩
  |9=>exact⟨_,rfl,rfl⟩
 obtain⟨q,b,h2⟩:=this ⟨d,hd⟩;unfold VA;simp only at b h2;rw[b];have hz:nz (10:Int)=some ():=rfl;rw[hz,Qh,Qh,Qh,h2];have hs:Q8l (a.length+([UInt8.ofNat (48+d)]:List UInt8).length)=some ():=by
  unfold Q8l;rw[show Nat.ble (a.length+([UInt8.ofNat (48+d)]:List UInt8).length) 9223372036854775807=true from Nat.ble_eq_true_of_le Q3];rfl
 rw[hs,Qh]
theorem XI{k:Nat}(h:k<=100000):Y5 k=some ():=by
 unfold Y5;rw[show Nat.ble k 140737488355328=true from Nat.ble_eq_true_of_le Q0];rfl
theorem QjP{R:Type}{n:Nat}{e:LL}{s:List UInt8}{a b c d:Int}{z:Int×LL}{f:Int×LL->oP R}{P:R->Prop}(k:Nat)(hk:e.length=k)(h:k<=1000)(H:f ((k:Int),e++[[D.str s,D.int .i64 a,D.int .i64 b,D.int .i64 c,D.int .i64 d]])∈P) :
  gb true (Zi n e s a b c d Tu2) z f∈P:=by
 unfold Zi;rw[XI Q3,Qh,Qh];have hl:(e++[[D.str s,D.int .i64 a,D.int .i64 b,D.int .i64 c,D.int .i64 d]]).length=k+1:=by simp[hk]
 rw[hl,Qo (x:=((k+1:Nat):Int)-1) Q0 Q0,show((k+1:Nat):Int)-1=(k:Int) by omega];exact H
theorem Qkk{R:Type}{n:Nat}{e:LL}{s:List UInt8}{a b c d:Int}{z:Int×LL}{f:Int×LL->oP R}{P:R->Prop}(k:Nat)(hk:e.length=k)(h:k<=1000)(hn:Num a b c)(H:f ((k:Int),e++[[D.str s,D.int .i64 (a+2),D.int .i64 b,D.int .i64 c,D.int .i64 d]])∈P) :
  gb true (Zi n e s (wJ (a+2)) b c d Tu2) z f∈P:=by
 have j:=hn.a0;have l:=hn.a1;rw[Qo (x:=a+2) Q0 Q0];exact QjP k hk h H
def QjQ(i k:Nat):List UInt8:=bs [84]++[UInt8.ofNat (48+i)]++[UInt8.ofNat (48+k)]
def nmL(i k:Nat):List UInt8:=bs [76]++[UInt8.ofNat (48+i)]++[UInt8.ofNat (48+k)]
abbrev Nu:=Int×Int×Int
def secT(i k:Nat)(x:Nu):List D:=[D.str (QjQ i k),Ql (x.1+2),Ql x.2.1,Ql x.2.2,Ql i]
def secL(i k:Nat)(x:Nu):List D:=[D.str (nmL i k),Ql x.1,Ql x.2.1,Ql x.2.2,Ql (-1)]
def YI(f:Nat->Nu->List D):Nat->List Nu->LL
 |k+1,x::y=>f (k+1) x::YI f k y
 |_,_=>[]
def ups(k:Nat):Nat->List Nat
 |0=>[]
 |c+1=>k::ups (k+1) c
def Wa(l:List Nat):LL:=l.map λk=>[Ql (k:Nat)]
def KZ:List Nu->Prop
 |[]=>True
 |x::r=>Num x.1 x.2.1 x.2.2/\KZ r
section
variable{R:Type} {n:Nat} {l:List Int} (hl:l.length<=9223372036854775807) {P:R->Prop}
include hl
theorem Qix{i c k j m:Nat}{tl S:LL}{k0:Int->Bool->LL->LL->Int->oP R}(hi:i<10)(hc:c+1<10)(hk:S.length=k)(e:k<=500)(ht:tl.length<=500)(hj:j<=l.length)(H:∀(x:Nu) (j:Nat),Num x.1 x.2.1 x.2.2->j<=l.length->JW n i (encI l) k0 m (c:Int) (tl++[[Ql k]]) (S++[secT i (c+1) x]) (j:Int)∈P) :
  JW n (i:Int) (encI l) k0 (m+1) ((c+1:Nat):Int) tl S (j:Int)∈P:=by
 unfold JW;rw[Xh Q2,Bx n _ i hi Q1,Qh,Bx n _ (c+1) hc Q2,Qh];refine QfL hl hj λa b d j hn hj=>?_
 dsimp only;refine Qkk k hk Q0 hn ?_;dsimp only;rw[XI Q3,Qh,Qo (x:=((c+1:Nat):Int)-1) Q0 Q0,show((c+1:Nat):Int)-1=(c:Int) by omega];exact H (a,b,d) j hn hj
theorem QeN{i c k j m:Nat}{S:LL}{k0:Int->Bool->LL->LL->Int->oP R}(hi:i<10)(hc:c=1\/c=2)(hk:S.length=k)(a:k<=400)(hj:j<=l.length)(H:∀(x:List Nu) (j:Nat),KZ x->x.length=c->j<=l.length->k0 0 false (Wa (ups k c)) (S++YI (secT i) c x) (j:Int)∈P) :
  JW n (i:Int) (encI l) k0 (m+3) (c:Int) [] S (j:Int)∈P:=by
 rcases hc with rfl | rfl
 ·refine Qix hl (c:=0) hi Q0 hk Q0 Q2 hj λx j hx hj=>?_
  exact H [x] j ⟨hx,trivial⟩ rfl hj
 ·refine Qix hl (c:=1) hi Q0 hk Q0 Q2 hj λx j hx hj=>?_
  refine Qix hl (c:=0) (k:=k+1) hi Q0 (by simp[hk]) Q0 Q2 hj λy j hy hj=>?_
  have:=H [x,y] j ⟨hx,hy,trivial⟩ rfl hj;simp only[YI,ups,Wa,List.map_cons,List.map_nil]at this;show k0 0 false _ (S++[secT i 2 x]++[secT i 1 y]) (j:Int)∈P;rw[List.append_assoc S];exact this
end
def Q7r(a b:Int)(p q:Int):List D:=[Ql a,Ql 1,Ql b,Ql 0,Ql p,Ql q]
def lk(aa:Bool)(x t:Int)(p q:Int):List D:=bif aa then Q7r x t p q else Q7r t x p q
def nmP(k:Nat):List D:=[D.str (bs [80]++[UInt8.ofNat (48+k)])]
def Q42(x:Nat)(aa:Bool)(ac k c:Nat):LL:=bif Nat.beq c 2 then[lk aa x k ac 0,lk aa x ((k+1:Nat):Int) ac 1]else[lk aa x k (-1) 0]
def Q3h(aa c:Nat):LL:=bif Nat.beq c 2 then[nmP aa]else[]
section
variable{R:Type} {n:Nat} {q2 q4:LL}
theorem Qf5{a b c d:Int}(h:q4.length<=1000)(K:LL->oP R):Ym n q4 a b c d K=K (q4++[Q7r a b c d]):=by
 unfold Ym;rw[XI Q3,Qh];rfl
theorem QfC{k:Nat}(hk:q2.length=k)(h:k<10)(K:Int->LL->oP R):Zy n q2 K=K (k:Int) (q2++[nmP k]):=by
 unfold Zy;rw[hk,Bx n _ k h Q1,Qh,XI Q3,Qh];have hl:(q2++[[D.str (bs [80]++[UInt8.ofNat (48+k)])]]).length=k+1:=by simp[hk]
 rw[hl,Qo (x:=((k+1:Nat):Int)-1) Q0 Q0,show((k+1:Nat):Int)-1=(k:Int) by omega];rfl
theorem Qj9{a1 a:Int}{T:List Nat}{aa:Bool}{w:Int}{h t m:Nat}(hh:(h:Int)<a)(b:h<=1000)(ht:T[h]? = some t)(hq:q4.length<=1000){k0:Int->Bool->LL->oP R} :
  QO n a1 (Wa T) aa w a k0 (m+1) (h:Int) q4=QO n a1 (Wa T) aa w a k0 m ((h+1:Nat):Int) (q4++[lk aa a1 t w h]):=by
 rw[QO];rw[Xh Q3,Qo (x:=(h:Int)+1) Q0 Q0];have hr:Qi (Wa T) (h:Int)=some [Ql t]:=X5 ht;cases aa
 ·rw[Qp rfl,hr,Qh];show gb true (some (D.int .i64 (t:Int))) _ _=_;rw[Qh,Qj,Qh,Qf5 hq,Qh];rfl
 ·rw[Xh rfl,hr,Qh];show gb true (some (D.int .i64 (t:Int))) _ _=_;rw[Qh,Qj,Qh,Qf5 hq,Qh];rfl
theorem QfT{a1 a:Int}{T:LL}{aa:Bool}{w:Int}{h m:Nat}(hh:¬ (h:Int)<a){k0:Int->Bool->LL->oP R} :
  QO n a1 T aa w a k0 (m+1) (h:Int) q4=k0 h false q4:=by
 rw[QO,Qp Q3];simp[hh]
theorem Qjx{m x k c p:Nat}{aa:Bool}(hc:c=1\/c=2)(hp:q2.length=p)(a:p<10)(hq:q4.length<=900)(K:LL->LL->oP R) :
  Vf (m+3) q2 q4 (x:Int) (Wa (ups k c)) aa K=K (q2++Q3h p c) (q4++Q42 x aa p k c):=by
 rcases hc with rfl | rfl
 ·show QO (m+3) (x:Int) (Wa [k]) aa (-1) (1:Int) _ (m+2+1) ((0:Nat):Int) q4=_;rw[Qj9 Q1 Q1 rfl Q0,QfT Q1];rw[show Q3h p 1=[]from rfl,List.append_nil];rfl
 ·show gb true (Zy (m+3) q2 _) _ _=_;rw[QfC hp a,Qh];show QO (m+3) (x:Int) (Wa [k,k+1]) aa (p:Int) (2:Int) _ (m+2+1) ((0:Nat):Int) q4=_;rw[Qj9 Q1 Q1 rfl Q0,Qj9 Q1 Q1 rfl Q3,QfT Q1,List.append_assoc];rfl
end
def inL(s u:Nat):LL:=bif Nat.beq u 2 then[Q7r s ((s+1:Nat):Int) (-1) 0]else[]
def pc(c:Nat):Nat:=bif Nat.beq c 2 then 1 else 0
theorem Q6W(p c:Nat):(Q3h p c).length=pc c:=by unfold Q3h pc;cases Nat.beq c 2<;>rfl
theorem QdZ{c:Nat}:pc c<=1:=by unfold pc;cases Nat.beq c 2<;>simp
theorem Q37{x p k c:Nat}{e:Bool}:(Q42 x e p k c).length<=2:=by unfold Q42;cases Nat.beq c 2<;>simp
theorem Q5L{s u:Nat}:(inL s u).length<=1:=by unfold inL;cases Nat.beq u 2<;>simp
section
variable{R:Type} {n:Nat} {l:List Int} (hl:l.length<=9223372036854775807) {P:R->Prop}
include hl
theorem QeF{i c k j m:Nat}{tl S:LL}{k0:Int->Bool->LL->LL->Int->oP R}(hi:i<10)(hc:c+1<10)(hk:S.length=k)(e:k<=500)(ht:tl.length<=500)(hj:j<=l.length)(H:∀(x:Nu) (j:Nat),Num x.1 x.2.1 x.2.2->j<=l.length->JU n i (encI l) k0 m (c:Int) (tl++[[Ql k]]) (S++[secL i (c+1) x]) (j:Int)∈P) :
  JU n (i:Int) (encI l) k0 (m+1) ((c+1:Nat):Int) tl S (j:Int)∈P:=by
 unfold JU;rw[Xh Q2,Bx n _ i hi Q1,Qh,Bx n _ (c+1) hc Q2,Qh];refine QfL hl hj λa b d j hn hj=>?_
 dsimp only;refine QjP k hk Q0 ?_;dsimp only;rw[XI Q3,Qh,Qo (x:=((c+1:Nat):Int)-1) Q0 Q0,show((c+1:Nat):Int)-1=(c:Int) by omega];exact H (a,b,d) j hn hj
theorem QcC{i c k j m:Nat}{S:LL}{k0:Int->Bool->LL->LL->Int->oP R}(hi:i<10)(hc:c=1\/c=2)(hk:S.length=k)(a:k<=400)(hj:j<=l.length)(H:∀(x:List Nu) (j:Nat),KZ x->x.length=c->j<=l.length->k0 0 false (Wa (ups k c)) (S++YI (secL i) c x) (j:Int)∈P) :
  JU n (i:Int) (encI l) k0 (m+3) (c:Int) [] S (j:Int)∈P:=by
 rcases hc with rfl | rfl
 ·refine QeF hl (c:=0) hi Q0 hk Q0 Q2 hj λx j hx hj=>?_
  exact H [x] j ⟨hx,trivial⟩ rfl hj
 ·refine QeF hl (c:=1) hi Q0 hk Q0 Q2 hj λx j hx hj=>?_
  refine QeF hl (c:=0) (k:=k+1) hi Q0 (by simp[hk]) Q0 Q2 hj λy j hy hj=>?_
  have:=H [x,y] j ⟨hx,hy,trivial⟩ rfl hj;simp only[YI,ups,Wa,List.map_cons,List.map_nil]at this;show k0 0 false _ (S++[secL i 2 x]++[secL i 1 y]) (j:Int)∈P;rw[List.append_assoc S];exact this
end
section
variable{R:Type} {n:Nat}
theorem inA{s u m:Nat}{a:LL}(hu:u=1\/u=2)(hq:a.length<=900){k0:Int->Bool->LL->oP R} :
  SO n (Wa (ups s u)) k0 (m+3) 0 a=k0 ((u-1:Nat):Int) false (a++inL s u):=by
 rcases hu with rfl | rfl
 ·rw[show inL s 1=[]from rfl,List.append_nil];rfl
 ·show gb true (Ym n a (s:Int) ((s+1:Nat):Int) (-1) 0 _) _ _=_;rw[Qf5 Q0,Qh];rfl
end
theorem Qip{R:Type}{m:Nat}{l:List Int}(hl:l.length<=9223372036854775807){P:R->Prop}{a:Int}{g s p k c k' c' j:Nat}{Pt Se Li Tr Bt:LL}{k0:Int->Bool->LL->LL->LL->LL->Int->oP R}{n:Nat}(hg:g<8)(hw:(g:Int)+1<a)(hs:Se.length=s)(i:s<=300)(hp:Pt.length=p)(o:p<8)(hL:Li.length<=300)(hB:Bt.length<=300)(hT:Tr[g]? = some [D.sl 1 (Wa (ups k c))])(aa:Tr[g+1]? = some [D.sl 1 (Wa (ups k' c'))])(hc:c=1\/c=2)(ak:c'=1\/c'=2)(hj:j<=l.length)(H:∀(u:Nat) (x:List Nu) (j:Nat),(u=1\/u=2)->KZ x->x.length=u->j<=l.length ->
   Ur (m+3) a Tr (encI l) k0 n ((g+1:Nat):Int) ((Pt++Q3h p c)++Q3h (p+pc c) c') (Se++YI (secL g) u x) (((Li++inL s u)++Q42 s false p k c)++Q42 (s+u-1) true (p+pc c) k' c') (Bt++[[D.sl 1 (Wa (ups s u))]]) (j:Int)∈P) :
  Ur (m+3) a Tr (encI l) k0 (n+1) (g:Int) Pt Se Li Bt (j:Int)∈P:=by
 unfold Ur;have am:wJ ((g:Int)+1)=((g+1:Nat):Int):=by rw[Qo Q0 Q0];omega
 rw[am,Xh Q3];refine Vw hl hj Q1 Q1 λv j b d hj=>?_
 obtain⟨u,hu,hv⟩:∃u:Nat,(u=1\/u=2)/\wJ (1+v)=(u:Int):=by
  rcases two b d with rfl | rfl
  ·exact⟨1,.inl rfl,rfl⟩
  ·exact⟨2,.inr rfl,rfl⟩
 dsimp only;rw[hv];refine QcC hl Q0 hu hs Q0 hj λx j hx ac hj=>?_
 rw[inA hu Q0];have e:(0:Int).toNat=0:=rfl;have ai:(Wa (ups s u)).length=u:=by rcases hu with rfl | rfl<;>rfl
 have f:(Wa (ups s u))[0]? = some [Ql s]:=by rcases hu with rfl | rfl<;>rfl
 have e1:(Wa (ups s u))[u-1]? = some [Ql ((s+u-1:Nat):Int)]:=by rcases hu with rfl | rfl<;>rfl
 have ar:g<Tr.length:=(List.getElem?_eq_some_iff.1 hT).1;have ao:g+1<Tr.length:=(List.getElem?_eq_some_iff.1 aa).1;have h:wJ ((u:Int)-1)=((u-1:Nat):Int):=by rcases hu with rfl | rfl<;>rfl
 rw[ai,XP Q0 Q0,Qh,e,f,Qh];show gb true (some (Ql s)) _ _∈P;rw[Qh,Qj,Qh,XP Q0 Q0,Qh,Int.toNat_natCast,hT,Qh];show gb true (some (D.sl 1 (Wa (ups k c)))) _ _∈P;rw[Qh,X4,Qh,Qjx hc hp Q0 (by have:=@Q5L s u;simp;omega),Qh];dsimp only;rw[h,XP Q0 Q0,Qh,Int.toNat_natCast,e1,Qh];show gb true (some (Ql ((s+u-1:Nat):Int))) _ _∈P;rw[Qh,Qj,Qh,XP Q0 Q0,Qh,Int.toNat_natCast,aa,Qh];show gb true (some (D.sl 1 (Wa (ups k' c')))) _ _∈P;rw[Qh,X4,Qh,Qjx (p:=p+pc c) ak (by simp[hp,Q6W]) (by have:=@QdZ c;omega) (by have:=@Q5L s u;have:=@Q37 s p k c false;simp;omega),Qh];dsimp only;rw[XI Q3,Qh];exact H u x j hu hx ac hj
def nmS(k:Nat):List D:=[D.str (bs [83]++[UInt8.ofNat (48+k)])]
theorem Xw{f:Nat->Nu->List D}:∀{c:Nat} {x:List Nu},x.length=c->(YI f c x).length=c
 |0,[],_=>rfl
 |c+1,a::x,h=>by simp[YI];exact Xw (by simpa using h)
section
variable{R:Type} {m:Nat} {l:List Int} (hl:l.length<=9223372036854775807) {P:R->Prop}
include hl
theorem Fy{a:Int}{i k j:Nat}{b d e:LL}{k0:Int->Bool->LL->LL->LL->Int->oP R}{n:Nat}(hi:i<10)(hw:(i:Int)<a)(hk:d.length=k)(g:k<=400)(f:b.length<=400)(h2:e.length<=400)(hj:j<=l.length)(H:∀(c:Nat) (x:List Nu) (j:Nat),(c=1\/c=2)->KZ x->x.length=c->j<=l.length ->
   UD (m+3) a (encI l) k0 n ((i+1:Nat):Int) (b++[nmS i]) (d++YI (secT i) c x) (e++[[D.sl 1 (Wa (ups k c))]]) (j:Int)∈P) :
  UD (m+3) a (encI l) k0 (n+1) (i:Int) b d e (j:Int)∈P:=by
 unfold UD;rw[Xh Q3,Bx _ _ i hi Q1,Qh,XI Q3,Qh];refine Vw hl hj Q1 Q1 λv j h f hj=>?_
 obtain⟨c,hc,hv⟩:∃c:Nat,(c=1\/c=2)/\wJ (1+v)=(c:Int):=by
  rcases two h f with rfl | rfl
  ·exact⟨1,.inl rfl,rfl⟩
  ·exact⟨2,.inr rfl,rfl⟩
 dsimp only;rw[hv];refine QeN hl hi hc hk g hj λx j hx aa hj=>?_
 rw[XI Q3,Qh,Qo (x:=(i:Int)+1) Q0 Q0];exact H c x j hc hx aa hj
omit hl in
theorem r7e{n m:Nat}{b a:Int}{g c d e:LL}{f:Int}{k0:Int->Bool->LL->LL->LL->Int->oP R}(h:¬ a<b) :
  UD n b g k0 (m+1) a c d e f=k0 a false c d e f:=by
 rw[UD,Qp Q3];simp[h]
omit hl in
theorem QjH{n m:Nat}{b a:Int}{i j c d e f:LL}{g:Int}{k0:Int->Bool->LL->LL->LL->LL->Int->oP R}(h:¬ wJ (a+1)<b) :
  Ur n b i j k0 (m+1) a c d e f g=k0 a false c d e f g:=by
 rw[Ur,Qp Q3];simp[h]
theorem Qit{i:Nat}(hi:i<=l.length){k0:LL->LL->LL->LL->LL->LL->Int->oP R}(H:∀(c0 c1 a:Nat) (b d e:List Nu) (j:Nat),(c0=1\/c0=2)->(c1=1\/c1=2)->(a=1\/a=2)->KZ b->KZ d->KZ e->b.length=c0->d.length=c1->e.length=a->j<=l.length ->
   k0 [nmS 0,nmS 1] (Q3h 0 c0++Q3h (pc c0) c1) ((YI (secT 0) c0 b++YI (secT 1) c1 d)++YI (secL 0) a e)
    ((inL (c0+c1) a++Q42 (c0+c1) false 0 0 c0)++Q42 (c0+c1+a-1) true (pc c0) c0 c1)
    [[D.sl 1 (Wa (ups 0 c0))],[D.sl 1 (Wa (ups c0 c1))]] [[D.sl 1 (Wa (ups (c0+c1) a))]] (j:Int)∈P) :
  UD (m+3) 2 (encI l) (λ_ _ r t h u=>
   Ur (m+3) 2 h (encI l) (λ_ _ v x y z aa=>k0 r v x y h z aa) (m+3) (0:Int) [] t [] [] u)
   (m+3) (0:Int) [] [] [] (i:Int)∈P:=by
 refine Fy hl (i:=0) Q1 Q1 rfl Q1 Q1 Q1 hi λc0 b j n ab f hj=>?_
 refine Fy hl (i:=1) (k:=c0) Q1 Q1 (by simp[Xw f]) Q0 Q2 Q2 hj λc1 d j o ac q hj=>?_
 rw[r7e Q1];refine Qip hl (g:=0) (s:=c0+c1) (p:=0) (k:=0) (c:=c0) (k':=c0) (c':=c1) Q1 Q1 (by simp[Xw f,Xw q]) Q0 rfl Q1 Q1 Q1 rfl rfl n o hj λa e j ad ae ai hj=>?_
 rw[QjH Q1];have:=H c0 c1 a b d e j n o ad ab ac ae f q ai hj;simpa[Nat.add_assoc]using this
theorem Qiw{i:Nat}(hi:i<=l.length){k0:LL->LL->LL->LL->LL->LL->Int->oP R}(H:∀(c0 c1 a b d:Nat) (e f h n o:List Nu) (j:Nat),(c0=1\/c0=2)->(c1=1\/c1=2)->(a=1\/a=2)->(b=1\/b=2)->(d=1\/d=2)->KZ e->KZ f->KZ h->KZ n->KZ o->e.length=c0->f.length=c1->h.length=a->n.length=b->o.length=d->j<=l.length ->
   k0 [nmS 0,nmS 1,nmS 2] ((Q3h 0 c0++Q3h (pc c0) c1)++Q3h (pc c0+pc c1) c1++Q3h (pc c0+pc c1+pc c1) a)
    ((((YI (secT 0) c0 e++YI (secT 1) c1 f)++YI (secT 2) a h)++YI (secL 0) b n)++YI (secL 1) d o)
    (((inL (c0+c1+a) b++Q42 (c0+c1+a) false 0 0 c0)++Q42 (c0+c1+a+b-1) true (pc c0) c0 c1)++inL (c0+c1+a+b) d++Q42 (c0+c1+a+b) false (pc c0+pc c1) c0 c1++Q42 (c0+c1+a+b+d-1) true (pc c0+pc c1+pc c1) (c0+c1) a)
    [[D.sl 1 (Wa (ups 0 c0))],[D.sl 1 (Wa (ups c0 c1))],[D.sl 1 (Wa (ups (c0+c1) a))]] [[D.sl 1 (Wa (ups (c0+c1+a) b))],[D.sl 1 (Wa (ups (c0+c1+a+b) d))]] (j:Int)∈P) :
  UD (m+4) 3 (encI l) (λ_ _ aa ab v ac=>
   Ur (m+4) 3 v (encI l) (λ_ _ ad ae ag ah ai=>k0 aa ad ae ag v ah ai) (m+4) (0:Int) [] ab [] [] ac)
   (m+4) (0:Int) [] [] [] (i:Int)∈P:=by
 refine Fy hl (m:=m+1) (i:=0) Q1 Q1 rfl Q1 Q1 Q1 hi λc0 e j x aj q hj=>?_
 refine Fy hl (m:=m+1) (i:=1) (k:=c0) Q1 Q1 (by simp[Xw q]) Q0 Q2 Q2 hj λc1 f j t ak r hj=>?_
 refine Fy hl (m:=m+1) (i:=2) (k:=c0+c1) Q1 Q1 (by simp[Xw q,Xw r]) Q0 Q2 Q2 hj λa h j y al u hj=>?_
 rw[r7e Q1];refine Qip hl (m:=m+1) (g:=0) (s:=c0+c1+a) (p:=0) (k:=0) (c:=c0) (k':=c0) (c':=c1) Q1 Q1 (by simp[Xw q,Xw r,Xw u,Nat.add_assoc]) Q0 rfl Q1 Q1 Q1 rfl rfl x t hj λb n j am an z hj=>?_
 have b0:=@QdZ c0;have b1:=@QdZ c1;have f0:=@Q5L (c0+c1+a) b;have f1:=@Q37 (c0+c1+a) 0 0 c0 false;have f2:=@Q37 (c0+c1+a+b-1) (pc c0) c0 c1 true;refine Qip hl (m:=m+1) (g:=1) (s:=c0+c1+a+b) (p:=pc c0+pc c1) (k:=c0) (c:=c1) (k':=c0+c1) (c':=a) Q1 Q1 (by simp[Xw q,Xw r,Xw u,Xw z,Nat.add_assoc]) Q0 (by simp[Q6W]) Q0 Q3 Q2 rfl rfl t y hj λd o j ao ap aq hj=>?_
 rw[QjH Q1];have:=H c0 c1 a b d e f h n o j x t y am ao aj ak al an ap q r u z aq hj;simpa[Nat.add_assoc]using this
end
def Qdc:oP Bool->Bool
 |some true=>true
 |_=>false
def QjI:oP Bool->Bool
 |some false=>true
 |_=>false
def Q8F:oP Int->Bool
 |some n=>n == 0
 |none=>false
theorem Mb{o:oP Bool}(h:Qdc o=true):o=some true:=by
 match o,h with
 |some true,_=>rfl
theorem Qa9{o:oP Bool}(h:QjI o=true):o=some false:=by
 match o,h with
 |some false,_=>rfl
theorem VW{o:oP Int}(h:Q8F o=true):o=some 0:=by
 match o,h with
 |some n,h=>simp only[Q8F,beq_iff_eq]at h;rw[h]
end Go.Vx
