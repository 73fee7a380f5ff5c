/- Part of a proof. No conditions of their own. -/
import Derived.Test.YtekmjonablebcaaGreatTB
import Derived.Test.YtekmjonablebcaaGreatProg
import Derived.Test.YtekmjonablebcaaGreatTC
set_option linter.unusedVariables false
set_option linter.unusedSimpArgs false
noncomputable section

namespace Go.Vx
variable{R:Type} (n:Nat)
def Hp(n:Nat)(a0 a1:Int)(K:Qlg R):oP R:=Qc R (nz (IntKind.wrap .u64 a1)) λa=>K (wJ (Int.tmod (IntKind.wrap .u64 a0) (IntKind.wrap .u64 a1)))
def Qm(b:LL)(a a1:Int)(K:Qln R):oP R:=bif decide (a>=(b.length:Int))then K 0 a else QkA R b (wJ (wJ (a+1)-1)) λe=>Qc R (Hp n e a1 some) λf=>K f (wJ (a+1))
def WE(c:LL)(f:Int)(a1:Y UInt8)(a2:Int)(K:(Y UInt8)->Int->Int->Int->Int->Int->oP R):oP R:=Qc R (Qm n c f 9 Tu2) λa=>Qc R (Qm n c a.2 7 Tu2) λd=>Qc R (Qm n c d.2 21 Tu2) λe=>K a1 (wJ (2+a.1)) (wJ (5000+wJ (5000*d.1))) (wJ (e.1-10)) a2 e.2
def Vz(n:Nat)(a0:Y UInt8)(a1:Int)(K:(Y UInt8)->oP R):oP R:=Ql7 R 10 (Qb R [48,49,50,51,52,53,54,55,56,57] λe=>Qc R (slB (List.length (bs e)) (some (Int.tmod a1 10)) (some (wJ (Int.tmod a1 10+1)))) λa=>Qc R (Q8i (a0.length+List.length (cut (bs e) a))) λd=>K (a0++cut (bs e) a))
def Zi(n:Nat)(a:LL)(b:Y UInt8)(c d e f:Int)(K:Qlr R):oP R:=Qb R [[D.str b,Ql c,Ql d,Ql e,Ql f]] λh=>Qc R (Y5 ((a.length+h.length)*48)) λg=>K (wJ (((List.length (a++h):Nat):Int)-1)) (a++h)
def Yl(n:Nat)(q4:LL)(a1 a2 a b:Int)(K:Qlm R):oP R:=Qb R [[Ql a1,Ql 1,Ql a2,Ql 0,Ql a,Ql b]] λd=>Qc R (Y5 ((q4.length+d.length)*48)) λc=>K (q4++d)
def Zy(a:LL)(K:Qlr R):oP R:=Qc R (Vz n (bs [80]) (a.length:Int) some) λb=>Qb R [[D.str b]] λd=>Qc R (Y5 ((a.length+d.length)*16)) λc=>K (wJ (((List.length (a++d):Nat):Int)-1)) (a++d)
def QO(h5:Int)(h6:LL)(h7:Bool)(b c:Int)(k0:Qlj R):Qlk R
|0,_,_=>none
|m+1,a,d=>bif decide (a<c)then bif h7 then QkA R h6 a λg=>Qc R (Yl n d h5 g b a some) λh=>QO h5 h6 h7 b c k0 m (wJ (a+1)) h else QkA R h6 a λk=>Qc R (Yl n d k h5 b a some) λl=>QO h5 h6 h7 b c k0 m (wJ (a+1)) l else k0 a (decide (a<c)) d
def Ve(b q4:LL)(a1:Int)(a2:LL)(c:Bool)(K:LL->LL->oP R):oP R:=Qb R (a2.length:Int) λd=>bif decide (d>1)then gb true (Zy n b Tu2) (0,[]) λa=>QO n a1 a2 c a.1 d (λg h e=>K a.2 e) n 0 q4 else QO n a1 a2 c (-1:Int) d (λi j f=>K b f) n 0 q4
def JX(c:Int)(h:LL)(k0:Qlx R):Qly R
|0,_,_,_,_=>none
|m+1,b,d,i,j=>bif decide (b>0)then Qc R (Vz n (bs [84]) c some) λk=>Qc R (Vz n k b some) λl=>gb true (WE n h j l c Tu6) ([],0,0,0,0,0) λa=>gb true (Zi n i a.1 (wJ (a.2.1+2)) a.2.2.1 a.2.2.2.1 a.2.2.2.2.1 Tu2) (0,[]) λg=>Qc R (Y5 ((d.length+[[Ql g.1]].length)*8)) λs=>JX c h k0 m (wJ (b-1)) (d++[[Ql g.1]]) g.2 a.2.2.2.2.2 else k0 b (decide (b>0)) d i j
def UD(h2:Int)(b:LL)(k0:Qlz R):QlA R
|0,_,_,_,_,_=>none
|m+1,a,c,h6,d,e=>bif decide (a<h2)then Qc R (Vz n (bs [83]) a some) λf=>Qc R (Y5 ((c.length+[[D.str f]].length)*16)) λo=>Qc R (Qm n b e 2 Tu2) λg=>JX n a b (λp q h k l=>Qc R (Y5 ((d.length+[[D.sl 1 h]].length)*24)) λr=>UD h2 b k0 m (wJ (a+1)) (c++[[D.str f]]) k (d++[[D.sl 1 h]]) l) n (wJ (1+g.1)) [] h6 g.2 else k0 a (decide (a<h2)) c h6 d e
def JV(g:Int)(h:LL)(k0:Qlx R):Qly R
|0,_,_,_,_=>none
|m+1,b,c,i,j=>bif decide (b>0)then Qc R (Vz n (bs [76]) g some) λk=>Qc R (Vz n k b some) λl=>gb true (WE n h j l (-1:Int) Tu6) ([],0,0,0,0,0) λa=>gb true (Zi n i a.1 a.2.1 a.2.2.1 a.2.2.2.1 a.2.2.2.2.1 Tu2) (0,[]) λf=>Qc R (Y5 ((c.length+[[Ql f.1]].length)*8)) λs=>JV g h k0 m (wJ (b-1)) (c++[[Ql f.1]]) f.2 a.2.2.2.2.2 else k0 b (decide (b>0)) c i j
def SN(b:LL)(k0:Qlj R):Qlk R
|0,_,_=>none
|m+1,a,c=>Qb R (wJ (a+1)) λp=>Qa R (decide (p<(b.length:Int))) λo=>bif o then QkC R b.length a b a.toNat λf=>QkC R b.length p b (Int.toNat p) λi=>Qc R (Yl n c f i (-1:Int) 0 some) λj=>SN b k0 m p j else k0 a o c
def Uq(f:Int)(c g:LL)(k0:Int->Bool->LL->LL->LL->LL->Int->oP R):Nat->Int->LL->LL->LL->LL->Int->oP R
|0,_,_,_,_,_,_=>none
|m+1,a,i,j,k,h,l=>Qb R (wJ (a+1)) λe=>Qa R (decide (e<f)) λd=>bif d then Qc R (Qm n g l 2 Tu2) λo=>JV n a g (λai aj b r s=>SN n b (λak al t=>QkC R b.length 0 b (Int.toNat 0) λx=>QkM R c.length a c a.toNat λaa=>gb true (Ve n i t x aa false Tu2) ([],[]) λp=>Qb R (wJ ((b.length:Int)-1)) λar=>QkC R b.length ar b (Int.toNat ar) λad=>QkM R c.length e c (Int.toNat e) λah=>gb true (Ve n p.1 p.2 ad ah true Tu2) ([],[]) λq=>Qc R (Y5 ((h.length+[[D.sl 1 b]].length)*24)) λaq=>Uq f c g k0 m e q.1 r q.2 (h++[[D.sl 1 b]]) s) n 0 k) n (wJ (1+o.1)) [] j o.2 else k0 a d i j k h l
def Q2V(b:LL)(d:Int)(K:LL->LL->LL->LL->LL->LL->LL->Int->oP R):oP R:=Qc R (Qm n b d 2 Tu2) λa=>UD n (wJ (2+a.1)) b (λo p f g c h=>Uq n (wJ (2+a.1)) c b (λq r i j k l m=>K f i j k c l [] m) n 0 [] g [] [] h) n 0 [] [] [] a.2
def PE(n:Nat)(a0:Int)(K:Qll R):oP R:=K (Q8 (Q9 (decide (a0>=65)) (decide (a0<=90))) (Q9 (decide (a0>=97)) (decide (a0<=122))))
def FP(n:Nat)(a0:Int)(K:Qll R):oP R:=K (Q9 (decide (a0>=48)) (decide (a0<=57)))
def SX(a:Y UInt8)(c:Int)(k0:oP R)(k1:Qlh R):Qli R
|0,_=>none
|m+1,h5=>bif decide (h5<c)then Qc R (Zj a h5) λe=>Qc R (PE n e some) λb=>Qd R (!b) (Zj a h5) λf=>Qd R (!b) (FP n f some) λd=>Qd R (Q9 (!b) (!d)) (Zj a h5) λg=>bif Q9 (Q9 (!b) (!d)) (g !=95)then k0 else SX a c k0 k1 m (wJ (h5+1))else k1 h5 (decide (h5<c))
def KF(a0:Y UInt8)(K:Qll R):oP R:=Qb R (a0.length:Int) λf=>Qa R (Q8 (decide (f<1)) (decide (f>12))) λe=>Qd R (!e) (Zj a0 0) λa=>Qd R (!e) (PE n a some) λb=>bif Q8 e (!b)then K false else SX n a0 f (K false) (λc d=>K true) n 0
def XA(n:Nat)(e f g h:LL)(i:Y UInt8)(a b c d:Int)(K:Qll R):oP R:=K (Q9 (Q9 (Q9 (Q9 (Q9 (Q9 (Q9 (decide (a>=1)) (decide (a<=400))) (decide (b>=1000))) (decide (b<=100000))) (decide (c>=(-40:Int)))) (decide (c<=40))) (decide (d>=(-1:Int)))) (decide (d<(e.length:Int))))
def Yo(n:Nat)(i h b j:LL)(c d e f a g:Int)(K:Qll R):oP R:=K (Q9 (Q9 (Q9 (Q9 (Q9 (Q9 (Q9 (Q9 (decide (c>=0)) (decide (c<(b.length:Int)))) (decide (e>=0))) (decide (e<(b.length:Int)))) (Q8 (d==0) (d==1))) (Q8 (f==0) (f==1))) (decide (a>=(-1:Int)))) (decide (a<(h.length:Int)))) (Q8 (g==0) (Q9 (g==1) (a !=(-1:Int)))))
def F3(n:Nat)(a b c d e f:Int)(K:Int->Int->Int->Int->oP R):oP R:=K a b c d
def Hw(e:LL)(h2 d h5 h6 h7:Int)(k0:oP R)(k1:Qlh R):Qli R
|0,_=>none
|m+1,c=>bif decide (c<h2)then Qky R e c λb f g h=>QkJ R b λi j k=>QkW R f g h i λl o p q=>Qkw R j k λr s=>gb true (F3 n l o p q r s Tu4) (0,0,0,0) λa=>bif Q8 (Q9 (d==a.1&&h5==a.2.1) (h6==a.2.2.1&&h7==a.2.2.2)) (Q9 (d==a.2.2.1&&h5==a.2.2.2) (h6==a.1&&h7==a.2.1))then k0 else Hw e h2 d h5 h6 h7 k0 k1 m (wJ (c+1))else k1 c (decide (c<h2))
def GG(a0:LL)(a b c d:Int)(K:Qll R):oP R:=Hw n a0 (a0.length:Int) a b c d (K true) (λe f=>K false) n 0
def JY(n:Nat)(h i j k a c:Int)(a1:LL)(K:Qll R):oP R:=bif (a1.length:Int)==0 then K true else Qa R (Q9 ((a1.length:Int)==1) (a !=(-1:Int))) λl=>Ql5 R a1 0 l λb=>Qa R (Q9 l (a==b)) λo=>Qd R o (Qi a1 0) λf=>Qd R o f[5]? λc5=>Qd R o (pIw c5) λg=>K (Q9 o (c !=g))
def NA(n:Nat)(d e c f:LL)(a b:Int)(K:Qll R):oP R:=K (Q9 (Q9 (decide (a>=0)) (decide (a<(c.length:Int)))) (Q8 (b==0) (b==1)))
def RC(n:Nat)(a b:Int)(K:Qln R):oP R:=bif b==0 then K a 1 else K a 0
def L9(n:Nat)(a b:Int)(K:Qln R):oP R:=bif b==0 then K a 1 else K a 0
def JZ(n:Nat)(e:LL)(h5 h7 b c d:Int)(k0:Qlg R)(k1:Qlh R):Qli R
|0,_=>none
|m+1,h6=>bif decide (h6<h5)then Qky R e h6 λa j k l=>Qc R a[3]? λo=>Qc R a[4]? λp=>Qc R a[5]? λr=>QkW R j k l o λf g h i=>bif Q8 (Q9 (f==h7&&g==b) (h==c&&i==d)) (Q9 (f==c&&g==d) (h==h7&&i==b))then Qc R (pIw p) λq=>k0 q else JZ n e h5 h7 b c d k0 k1 m (wJ (h6+1))else k1 h6 (decide (h6<h5))
def JL(k l m c:LL)(f g h i:Int)(K:Qlh R):oP R:=Qc R (RC n f g Tu2) λa=>Qc R (L9 n h i Tu2) λd=>Qc R (RC n d.1 d.2 Tu2) λe=>JZ n c (c.length:Int) a.1 a.2 e.1 e.2 (λj=>K j true) (λo p=>K 0 false) n 0
def Qu(n:Nat)(a0:LL)(a1:Int)(K:Qlm R):oP R:=bif Nat.beq a0.length 1&&decide (0<=a1)&&decide (a1<=100000)then K (List.replicate a1.toNat (a0.headD []))else none
def Uv(n:Nat)(e:Y UInt8)(a b c d:Int)(K:Qll R):oP R:=K (Q9 (Q9 (Q9 (Q9 (Q9 (Q9 (Q9 (decide (a>=1)) (decide (a<=40))) (decide (b>=1000))) (decide (b<=100000))) (decide (c>=100))) (decide (c<=2000))) (decide (d>=100))) (decide (d<=2000)))
def Ui(n:Nat)(a:LL)(b:Int)(K:Qlm R):oP R:=Qc R (slB a.length none (some (wJ ((a.length:Int)-b)))) λq1=>K (cut a q1)
def LJ(n:Nat)(a0:Int)(K:Qll R):oP R:=K (Q8 (Q9 (decide (a0>=97)) (decide (a0<=122))) (Q9 (decide (a0>=65)) (decide (a0<=90))))
def Dp(n:Nat)(a0:Int)(K:Qll R):oP R:=K (Q9 (decide (a0>=48)) (decide (a0<=57)))
def NT(b:Y UInt8)(k0:oP R)(k1:Qlh R):Qli R
|0,_=>none
|m+1,a=>Qa R (decide (a<(b.length:Int))) λh=>bif h then Qc R (Zj b a) λe=>Qc R (LJ n e some) λc=>Qd R (!c) (Zj b a) λf=>Qd R (!c) (Dp n f some) λd=>Qd R (Q9 (!c) (!d)) (Zj b a) λg=>bif Q9 (Q9 (!c) (!d)) (g !=95)then k0 else NT b k0 k1 m (wJ (a+1))else k1 a h
def M7(a0:Y UInt8)(K:Qll R):oP R:=Qa R (Q8 (decide ((a0.length:Int)<1)) (decide ((a0.length:Int)>12))) λe=>Qd R (!e) (Zj a0 0) λa=>Qd R (!e) (LJ n a some) λb=>bif Q8 e (!b)then K false else NT n a0 (K false) (λc d=>K true) n 1
def Re(n:Nat)(h5:LL)(h6:Int)(k0:oP R)(k1:Qlh R):Qli R
|0,_=>none
|m+1,h7=>bif decide (h7<h6)then QkI R h5 h7 λc=>QkI R h5 h6 λf=>bif c==f then k0 else Re n h5 h6 k0 k1 m (wJ (h7+1))else k1 h7 (decide (h7<h6))
def Mv(a0:LL)(a1:Int)(K:Qlg R):oP R:=QkI R a0 a1 λc=>Qc R (M7 n c some) λd=>bif !d then K 3 else Re n a0 a1 (K 5) (λe f=>K 0) n 0
def YR(n:Nat)(b:LL)(k0:Qlj R):Qlk R
|0,_,_=>none
|m+1,a,h6=>Qa R (decide (a<(b.length:Int))) λg=>bif g then QkI R b a λc=>Qc R (Y5 ((h6.length+[[D.str c]].length)*16)) λf=>YR n b k0 m (wJ (a+1)) (h6++[[D.str c]])else k0 a g h6
def V3(c d a e:LL)(K:Qlm R):oP R:=YR n a (λf g b=>K b) n 0 []
def Kq(n:Nat)(a0 a1 a2:Int)(K:Qll R):oP R:=K (Q9 (decide (a0>=a1)) (decide (a0<=a2)))
def Ba(n:Nat)(c d e f g h a b:Int)(K:Qll R):oP R:=K (Q8 (Q9 (c==a) (d==b)) (Q9 (e==a) (f==b)))
def Pi(d:Int)(e:LL)(f g:Int)(k0:Int->Int->Bool->D->D->D->D->D->D->oP R):Nat->Int->Int->D->D->D->D->D->D->oP R
|0,_,_,_,_,_,_,_,_=>none
|m+1,h,a,i,j,k,l,o,p=>bif decide (a<d)then Qky R e a λb q r s=>QkJ R b λt u v=>QkW R q r s t λx y z aa=>Qkw R u v λab ac=>Qc R (Ba n x y z aa ab ac f g some) λad=>bif ad then Qky R e a λc ae ag ah=>QkJ R c λai aj ak=>Pi d e f g k0 m (wJ (h+1)) (wJ (a+1)) ae ag ah ai aj ak else Pi d e f g k0 m h (wJ (a+1)) i j k l o p else k0 h a (decide (a<d)) i j k l o p
def BI(o p q f:LL)(a1 g h:Int)(K:Qll R):oP R:=QkT R f a1 λb=>Qc R b[2]? λs=>Qc R b[3]? λc5=>Qc R b[4]? λc6=>Qc R b[5]? λi=>Qb R (Ql 0) λad=>Pi n a1 f g h (λa t u v x y z j k=>Qa R (a==0) λac=>Qd R (!ac&&a==1) (pIw c6) λc=>Qa R (Q9 (a==1) (decide (c>=0))) λaa=>QkE R j (!ac&&aa) c6 λd e=>Qa R (Q9 aa (d==e)) λab=>QkE R k (!ac&&ab) i λl m=>K (Q8 ac (Q9 ab (l !=m)))) n 0 0 ad ad ad ad ad ad
def KM(e:Int)(f:LL)(g h i j:Int)(k0:oP R)(k1:Qlh R):Qli R
|0,_=>none
|m+1,b=>bif decide (b<e)then Qky R f b λc k l o=>QkJ R c λp q r=>QkW R k l o p λs t u v=>Qkw R q r λx y=>Qc R (Ba n s t u v x y g h some) λa=>Qd R a (Qi f b) λd=>Qd R a d[0]? λz=>Qd R a d[1]? λaa=>Qd R a d[2]? λab=>Qd R a d[3]? λac=>Qd R a d[4]? λad=>Qd R a d[5]? λae=>QkE R z a aa λag ah=>QkE R ab a ac λai aj=>QkE R ad a ae λak al=>Qd R a (Ba n ag ah ai aj ak al i j some) λam=>bif Q9 a am then k0 else KM e f g h i j k0 k1 m (wJ (b+1))else k1 b (decide (b<e))
def JH(p i g h:LL)(a1:Int)(K:Qlg R):oP R:=Qky R h a1 λe q c3 r=>QkJ R e λc5 c6 s=>Qc R (pIw q) λv=>Qb R (wJ ((g.length:Int)-1)) λam=>Qc R (Kq n v 0 am some) λa=>Qd R (!(!a)) (pIw r) λx=>Qd R (!(!a)) (Kq n x 0 am some) λb=>Qa R (Q8 (!a) (!b)) λai=>Qd R (!ai) (pIw c3) λy=>Qd R (!ai) (Kq n y 0 1 some) λc=>Qa R (Q8 ai (!c)) λal=>Qd R (!al) (pIw c5) λz=>Qd R (!al) (Kq n z 0 1 some) λd=>Qa R (Q8 al (!d)) λah=>Qd R (!ah) (pIw c6) λaa=>Qd R (!ah) (Kq n aa (-1:Int) (wJ ((i.length:Int)-1)) some) λf=>Qa R (Q8 ah (!f)) λaj=>Qd R (!aj) (pIw s) λab=>Qd R (!aj) (Kq n ab 0 1 some) λj=>Qa R (Q8 aj (!j)) λak=>Qd R (!ak) (pIw c6) λt=>Qd R (!ak&&decide (t<0)) (pIw s) λac=>bif Q8 ak (Q9 (decide (t<0)) (ac !=0))then K 4 else QkW R q c3 r c5 λk l m o=>bif k==m&&l==o then K 1 else KM n a1 h k l m o (K 5) (λae ag=>Qc R (BI n p i g h a1 k l some) λu=>Qd R (!(!u)) (BI n p i g h a1 m o some) λad=>bif Q8 (!u) (!ad)then K 11 else K 0) n 0
def R7(h2:LL)(k0:Qlg R)(k1:Qlh R):Qli R
|0,_=>none
|m+1,a=>Qa R (decide (a<(h2.length:Int))) λc=>bif c then Qc R (Mv n h2 a some) λb=>bif b !=0 then k0 b else R7 h2 k0 k1 m (wJ (a+1))else k1 a c
def Rh(b:LL)(k0:Qlg R)(k1:Qlh R):Qli R
|0,_=>none
|m+1,a=>Qa R (decide (a<(b.length:Int))) λd=>bif d then Qc R (Mv n b a some) λc=>bif c !=0 then k0 c else Rh b k0 k1 m (wJ (a+1))else k1 a d
def Jb(g h e:LL)(k0:Qlg R)(k1:Qlh R):Qli R
|0,_=>none
|m+1,b=>Qa R (decide (b<(e.length:Int))) λx=>bif x then Qc R (Mv n g b some) λi=>bif i !=0 then k0 i else QkF R e b λc j=>Ql3 R c λk l=>Qc R c[4]? λo=>Qc R (pIw j) λp=>Qc R (Kq n p 1 400 some) λa=>Qd R (!(!a)) (pIw k) λq=>Qd R (!(!a)) (Kq n q 1000 100000 some) λd=>Qa R (Q8 (!a) (!d)) λv=>Qd R (!v) (pIw l) λr=>Qd R (!v) (Kq n r (-40:Int) 40 some) λf=>Qa R (Q8 v (!f)) λy=>Qd R (!y) (pIw o) λs=>Qd R (!y) (Kq n s (-1:Int) (wJ ((h.length:Int)-1)) some) λt=>bif Q8 y (!t)then k0 4 else Jb g h e k0 k1 m (wJ (b+1))else k1 b x
def J2(c d e b:LL)(k0:Qlg R)(k1:Qlh R):Qli R
|0,_=>none
|m+1,a=>Qa R (decide (a<(b.length:Int))) λg=>bif g then Qc R (JH n c d e b a some) λf=>bif f !=0 then k0 f else J2 c d e b k0 k1 m (wJ (a+1))else k1 a g
def Vw(a c b d:LL)(K:Qlg R):oP R:=bif Q8 (Q8 (Q8 (decide ((a.length:Int)>24)) (decide ((c.length:Int)>48))) (decide ((b.length:Int)>96))) (decide ((d.length:Int)>192))then K 7 else bif (b.length:Int)==0 then K 1 else R7 n a (λe=>K e) (λj k=>Rh n c (λf=>K f) (λl m=>Qc R (V3 n a c b d some) λg=>Jb n g a b (λh=>K h) (λo p=>J2 n a c b d (λi=>K i) (λq r=>K 0) n 0) n 0) n 0) n 0
def Hy(n:Nat)(a0 a1 a2:Int)(K:Qll R):oP R:=K (Q9 (decide (a0>=a1)) (decide (a0<=a2)))
def Zn(n:Nat)(h6:LL)(h7 b:Int)(k0:Qlj R):Qlk R
|0,_,_=>none
|m+1,h2,a=>Qa R (decide (h2<(h6.length:Int))) λak=>bif ak then Qky R h6 h2 λc aj g h=>QkJ R c λi e f=>Qb R (wJ (h2+1)) λal=>jn (λ(d x:Int)=>(bif decide (d>=0)then bif x==1 then Qkw R e f λj k=>Qb R [[Ql d,Ql 1,Ql j,Ql k]] λan=>Qc R (Y5 ((a.length+an.length)*32)) λae=>Zn n h6 h7 b k0 m al (a++an)else Qkw R e f λl o=>Qb R [[Ql d,Ql 0,Ql l,Ql o]] λao=>Qc R (Y5 ((a.length+ao.length)*32)) λag=>Zn n h6 h7 b k0 m al (a++ao)else Zn n h6 h7 b k0 m al a:oP R)) λp=>Qc R (pIw aj) λq=>Qd R (q==h7) (pIw g) λy=>bif Q9 (q==h7) (y==b)then Qkw R h i λz aa=>p z aa else Qc R (pIw h) λr=>Qd R (r==h7) (pIw i) λab=>bif Q9 (r==h7) (ab==b)then Qkw R aj g λac ad=>p ac ad else bif decide ((-1:Int)>=0)then Qb R (Ql (-1:Int)) λam=>bif 0==1 then Qkw R e f λs t=>Qb R [[am,Ql 1,Ql s,Ql t]] λap=>Qc R (Y5 ((a.length+ap.length)*32)) λah=>Zn n h6 h7 b k0 m al (a++ap)else Qkw R e f λu v=>Qb R [[am,Ql 0,Ql u,Ql v]] λaq=>Qc R (Y5 ((a.length+aq.length)*32)) λai=>Zn n h6 h7 b k0 m al (a++aq)else Zn n h6 h7 b k0 m al a else k0 h2 ak a
def A3(f g h a:LL)(b c:Int)(K:Qlm R):oP R:=bif c==1 then Zn n a b 0 (λi j d=>K d) n 0 []else Zn n a b 1 (λk l e=>K e) n 0 []
def PG(n:Nat)(h2:LL)(c h5:Int)(k0:D->D->D->D->oP R)(k1:Qlh R):Qli R
|0,_=>none
|m+1,a=>Qa R (decide (a<(h2.length:Int))) λo=>bif o then QkB R h2 a λe f=>Qkw R e f λg h=>bif g==c&&h==h5 then QkP R h2 a λi j k l=>k0 i j k l else PG n h2 c h5 k0 k1 m (wJ (a+1))else k1 a o
def JS(a b c d:LL)(e f g h:Int)(K:D->D->D->D->Bool->oP R):oP R:=Qc R (A3 n a b c d e f some) λi=>PG n i g h (λj k l m=>K j k l m true) (λo p=>Qb R (Ql 0) λq=>K q q q q false) n 0
def YN(h5 h7:LL)(k0:oP R)(k1:Qlh R):Qli R
|0,_=>none
|m+1,h2=>Qa R (decide (h2<(h7.length:Int))) λi=>bif i then QkA R h7 h2 λd=>Qc R (Hy n d 0 (wJ ((h5.length:Int)-1)) some) λa=>QkX R h7 h2 (!(!a)) λg=>Qd R (!(!a)) (Hy n g 0 1 some) λh=>bif Q8 (!a) (!h)then k0 else YN h5 h7 k0 k1 m (wJ (h2+1))else k1 h2 i
def GM(n:Nat)(b:Int)(c:LL)(k0:oP R)(k1:Qlh R):Qli R
|0,_=>none
|m+1,a=>bif decide (a<b)then QkA R c a λf=>QkA R c b λi=>bif f==i then k0 else GM n b c k0 k1 m (wJ (a+1))else k1 a (decide (a<b))
def VO(b:LL)(k0:oP R)(k1:Qlh R):Qli R
|0,_=>none
|m+1,a=>Qa R (decide (a<(b.length:Int))) λe=>bif e then GM n a b k0 (λc d=>VO b k0 k1 m (wJ (a+1))) n 0 else k1 a e
def YK(c d e f b:LL)(k0:oP R)(k1:Qlh R):Qli R
|0,_=>none
|m+1,a=>Qa R (decide (a<(b.length:Int))) λs=>bif s then QkB R b (wJ (a-1)) λi j=>QkB R b a λk l=>QkW R i j k l λo p q r=>Qc R (JS n c d e f o p q r Tu5) λy=>bif !y.2.2.2.2 then k0 else YK c d e f b k0 k1 m (wJ (a+1))else k1 a s
def VW(d e b f a:LL)(c:Int)(K:Qlg R):oP R:=Qc R (Vw n d e b f some) λg=>bif g !=0 then K 1 else bif Q8 (decide ((a.length:Int)>24)) (decide (c>2))then K 7 else bif Q8 (decide (c<0)) (decide (wJ ((a.length:Int)-c)<2))then K 4 else YN n b a (K 4) (λh i=>VO n a (K 5) (λj k=>YK n d e b f a (K 11) (λl m=>K 0) n 1) n 0) n 0
def M5(n:Nat)(a b:Int)(K:Qln R):oP R:=bif b==0 then K a 0 else K a 1
def ZI(n:Nat)(d:LL)(b:Int)(k0:Qlj R):Qlk R
|0,_,_=>none
|m+1,a,c=>bif decide (a<b)then QkA R d a λe=>Qc R (Y5 ((c.length+[[Ql e,Ql 0]].length)*16)) λh=>ZI n d b k0 m (wJ (a+1)) (c++[[Ql e,Ql 0]])else k0 a (decide (a<b)) c
def ZP(n:Nat)(c:LL)(k0:Qlj R):Qlk R
|0,_,_=>none
|m+1,a,b=>bif decide (a>=0)then QkA R c a λd=>Qc R (Y5 ((b.length+[[Ql d,Ql 1]].length)*16)) λg=>ZP n c k0 m (wJ (a-1)) (b++[[Ql d,Ql 1]])else k0 a (decide (a>=0)) b
def YF(q5 q6:LL)(a1 a2 b:Int)(m:Bool)(K:Qlp R):oP R:=QkM R q6.length a1 q6 a1.toNat λa=>Qb R (wJ (a1+1)) λau=>Qb R (Int.toNat au) λav=>bif m then QkM R q5.length a1 q5 a1.toNat λq=>QkM R q5.length a1 q5 a1.toNat λc=>Qc R (nz (c.length:Int)) λaw=>QkA R q (Int.tmod a2 (c.length:Int)) λd=>Qc R (Y5 ([[Ql d,Ql 0]].length*16)) λax=>ZI n a (a.length:Int) (λay az e=>QkM R q5.length au q5 av λx=>QkM R q5.length au q5 av λf=>Qc R (nz (f.length:Int)) λbc=>QkA R x (Int.tmod b (f.length:Int)) λg=>Qc R (Y5 ((e.length+[[Ql g,Ql 0]].length)*16)) λbd=>K (e++[[Ql g,Ql 0]]) 0) n 0 [[Ql d,Ql 0]]else QkM R q5.length au q5 av λae=>QkM R q5.length au q5 av λh=>Qc R (nz (h.length:Int)) λbh=>QkA R ae (Int.tmod b (h.length:Int)) λi=>Qc R (Y5 ([[Ql i,Ql 1]].length*16)) λbi=>ZP n a (λbj bk j=>QkM R q5.length a1 q5 a1.toNat λam=>QkM R q5.length a1 q5 a1.toNat λk=>Qc R (nz (k.length:Int)) λbn=>QkA R am (Int.tmod a2 (k.length:Int)) λl=>Qc R (Y5 ((j.length+[[Ql l,Ql 1]].length)*16)) λbo=>K (j++[[Ql l,Ql 1]]) 0) n (wJ ((a.length:Int)-1)) [[Ql i,Ql 1]]
def Wc(b:LL)(k0:Int->Bool->LL->Int->oP R):Nat->Int->LL->Int->oP R
|0,_,_,_=>none
|m+1,h5,a,c=>bif decide (h5<3)then Qc R (Qm n b c 2 Tu2) λd=>Qkz R 3 h5 a h5.toNat λg=>Wc b k0 m (wJ (h5+1)) (List.set a h5.toNat (List.set g 0 (Ql d.1))) d.2 else k0 h5 (decide (h5<3)) a c
def QS(k:Bool)(g:Int)(j l o h:LL)(k0:Qlx R):Qly R
|0,_,_,_,_=>none
|m+1,a,i,b,t=>bif decide (a<g)then Qb R (wJ (a+1)) λba=>Qa R (decide (ba<g)) λc=>bif !k then Qb R (wJ (wJ (g-1)-a)) λax=>QkC R 3 ax j (Int.toNat ax) λz=>QkC R 3 (wJ (ax+1)) j (Int.toNat (wJ (ax+1))) λac=>Qc R (YF n l o ax z ac k Tu2) λe=>Qb R [[D.sl 2 e.1,Ql e.2]] λaz=>Qc R (Y5 ((b.length+az.length)*32)) λam=>Qc R (Qm n h t 3 Tu2) λp=>Qb R (Ql (wJ (((List.length (b++az):Nat):Int)-1))) λaw=>bif c then Qc R (Qm n h p.2 6 Tu2) λr=>Qc R (Qm n h r.2 4 Tu2) λu=>Qb R [[aw,Ql p.1,Ql (wJ (5+r.1)),Ql (wJ (wJ (5+r.1)+u.1))]] λbb=>Qc R (Y5 ((i.length+List.length bb)*32)) λan=>QS k g j l o h k0 m ba (i++bb) (b++az) u.2 else Qb R [[aw,Ql p.1,Ql 0,Ql 0]] λbe=>Qc R (Y5 ((i.length+List.length be)*32)) λao=>QS k g j l o h k0 m ba (i++be) (b++az) p.2 else QkC R 3 a j a.toNat λag=>QkC R 3 ba j (Int.toNat ba) λaj=>Qc R (YF n l o a ag aj k Tu2) λf=>Qb R [[D.sl 2 f.1,Ql f.2]] λay=>Qc R (Y5 ((b.length+ay.length)*32)) λar=>Qc R (Qm n h t 3 Tu2) λq=>Qb R (Ql (wJ (((List.length (b++ay):Nat):Int)-1))) λd=>bif c then Qc R (Qm n h q.2 6 Tu2) λs=>Qc R (Qm n h s.2 4 Tu2) λv=>Qb R [[d,Ql q.1,Ql (wJ (5+s.1)),Ql (wJ (wJ (5+s.1)+v.1))]] λbc=>Qc R (Y5 ((i.length+List.length bc)*32)) λau=>QS k g j l o h k0 m ba (i++bc) (b++ay) v.2 else Qb R [[d,Ql q.1,Ql 0,Ql 0]] λbh=>Qc R (Y5 ((i.length+List.length bh)*32)) λav=>QS k g j l o h k0 m ba (i++bh) (b++ay) q.2 else k0 a (decide (a<g)) i b t
def UN(q5 q6 b:LL)(f:Int)(g c:LL)(h:Bool)(i:Int)(K:Int->LL->LL->oP R):oP R:=Qc R (Vz n (bs [78]) (c.length:Int) some) λa=>Qc R (Qm n b f 4 Tu2) λd=>Wc n b (λp q k l=>QS n h i k q5 q6 b (λr s e m o=>Qb R [[D.str a,Ql 0,Ql d.1,D.sl 4 e]] λj=>Qc R (Y5 ((c.length+j.length)*56)) λt=>K o m (c++j)) n 0 [] g l) n 0 [[Ql 0],[Ql 0],[Ql 0]] d.2
def Me(n:Nat)(p:Int)(q c d r s t u:LL)(a1 a2:Int)(K:Qlg R):oP R:=QkK R d a1 λg=>QkA R g a2 λi=>Ql4 R c i λb=>Qc R (pSl 2 b) λj=>Qc R (pSl 2 b) λk=>QkA R j (wJ ((k.length:Int)-1)) λo=>K o
def S7(n:Nat)(m:Int)(o a b p q r s:LL)(a1 a2:Int)(K:Qlg R):oP R:=QkK R b a1 λe=>QkA R e a2 λg=>Qla R a g λj=>QkA R j 0 λl=>K l
def Yz(c p:Int)(q r f s t u h:LL)(v:Int)(k0:Qlz R):QlA R
|0,_,_,_,_,_=>none
|m+1,b,i,j,g,y=>bif decide (b<p)then Qc R (Qm n h y 3 Tu2) λa=>Qa R (decide (a.1>0)) λl=>Ql1 R 4 c l i c.toNat λaa=>Qd R l (PD aa) λd=>Qa R (Q9 l (!d)) λk=>Ql1 R 4 b k j b.toNat λac=>Qd R k (PD ac) λe=>Qa R (Q9 k (!e)) λar=>Qd R ar (inB f.length c) λan=>Qd R ar f[c.toNat]? λad=>Qd R ar ad[3]? λae=>Qd R ar (pSl 4 ae) λag=>Qd R ar (Me n v q r f s g t u c (wJ ((ag.length:Int)-1)) some) λah=>Qd R ar (S7 n v q r f s g t u b 0 some) λai=>bif Q9 ar (ah==ai)then Qkz R 4 c i c.toNat λaj=>Qkz R 4 b j b.toNat λak=>Qc R (Qm n h a.2 10 Tu2) λo=>Qc R (Qm n h o.2 30 Tu2) λx=>Qb R [[Ql c,Ql b,Ql (wJ (10+o.1)),Ql (wJ (wJ (10+o.1)+x.1))]] λau=>Qc R (Y5 ((g.length+au.length)*32)) λaq=>Yz c p q r f s t u h v k0 m (wJ (b+1)) (List.set i c.toNat (List.set aj 0 (D.bool true))) (List.set j b.toNat (List.set ak 0 (D.bool true))) (g++au) x.2 else Yz c p q r f s t u h v k0 m (wJ (b+1)) i j g a.2 else k0 b (decide (b<p)) i j g y
def U0(a:Int)(h5 h6 h7 b c d e:LL)(f:Int)(k0:Qlz R):QlA R
|0,_,_,_,_,_=>none
|m+1,h2,g,h,i,j=>bif decide (h2<a)then Yz n h2 (h7.length:Int) h5 h6 h7 b c d e f (λq r k l o p=>U0 a h5 h6 h7 b c d e f k0 m (wJ (h2+1)) k l o p) n 0 g h i j else k0 h2 (decide (h2<a)) g h i j
def RK(a:LL)(b c:Int)(d e q4 q5 q6 q7 f:LL)(K:Qlr R):oP R:=Qb R [D.bool false] λo=>U0 n (q4.length:Int) d e q4 q5 q7 f a c (λi j k l g h=>K h g) n 0 [o,o,o,o] [o,o,o,o] q6 b
def Q00(n:Nat)(a0:LL)(K:Qlp R):oP R:=K a0 0
def G3(c g e:LL)(k0:Int->Bool->Int->LL->LL->oP R):Qlw R
|0,_,_,_,_=>none
|m+1,d,h,i,j=>bif decide (d>0)then Qc R (Qm n c h 2 Tu2) λk=>Qc R (Qm n c k.2 (e.length:Int) Tu2) λl=>gb true (UN n g e c l.2 i j (k.1==0) (wJ (1+l.1)) Tu3) (0,[],[]) λf=>G3 c g e k0 m (wJ (d-1)) f.1 f.2.1 f.2.2 else k0 d (decide (d>0)) h i j
def VX(h:Int)(e k l a f o:LL)(k0:QlB R):Qlv R
|0,_,_,_=>none
|m+1,i,t,g=>Qb R (a.length:Int) λar=>Qa R (Q9 (decide (i>0)) (decide (ar>1))) λb=>bif b then Qc R (Qm n e t ar Tu2) λd=>Qc R (Qm n e d.2 3 Tu2) λs=>Qc R (nz ar) λak=>Qkz R a.length d.1 a (Int.toNat d.1) λx=>Qc R x[3]? λy=>Qc R (pSl 4 y) λz=>Qc R (Qm n e s.2 (z.length:Int) Tu2) λp=>Qb R (Int.tmod (wJ (d.1+1)) ar) λc=>Qkz R a.length c a (Int.toNat c) λaa=>Qc R aa[3]? λab=>Qc R (pSl 4 ab) λac=>Qc R (Qm n e p.2 (ac.length:Int) Tu2) λq=>Qc R (Qm n e q.2 20 Tu2) λj=>Qc R (Qm n e j.2 h Tu2) λr=>Qc R (Me n h k l a g o [] [] d.1 p.1 some) λu=>Qkz R f.length u f u.toNat λad=>Qc R ad[4]? λae=>Qc R (pIw ae) λag=>Qc R (S7 n h k l a g o [] [] c q.1 some) λv=>Qkz R f.length v f v.toNat λah=>Qc R ah[4]? λai=>Qc R (pIw ai) λaj=>bif ag==aj then Qb R [[Ql d.1,Ql p.1,Ql c,Ql q.1,Ql j.1,Ql (wJ (j.1+r.1)),Ql s.1]] λaq=>Qc R (Y5 ((g.length+aq.length)*56)) λap=>VX h e k l a f o k0 m (wJ (i-1)) r.2 (g++aq)else VX h e k l a f o k0 m (wJ (i-1)) r.2 g else k0 i b t g
def V7(e a:LL)(k0:QlB R):Qlv R
|0,_,_,_=>none
|m+1,f,j,g=>bif decide (f>0)then Qb R (a.length:Int) λc=>Qc R (Qm n e j c Tu2) λd=>Qc R (Qm n e d.2 (wJ (c-1)) Tu2) λh=>Qc R (nz c) λk=>Qc R (Qm n e h.2 9 Tu2) λi=>Qb R [[Ql d.1,Ql (Int.tmod (wJ (wJ (d.1+1)+h.1)) c),Ql (wJ (1+i.1))]] λb=>Qc R (Y5 ((g.length+b.length)*24)) λl=>V7 e a k0 m (wJ (f-1)) i.2 (g++b)else k0 f (decide (f>0)) j g
def Ha(e a:LL)(k0:QlB R):Qlv R
|0,_,_,_=>none
|m+1,f,j,g=>bif decide (f>0)then Qb R (a.length:Int) λc=>Qc R (Qm n e j c Tu2) λd=>Qc R (Qm n e d.2 (wJ (c-1)) Tu2) λh=>Qc R (nz c) λk=>Qc R (Qm n e h.2 9 Tu2) λi=>Qb R [[Ql d.1,Ql (Int.tmod (wJ (wJ (d.1+1)+h.1)) c),Ql (wJ (1+i.1))]] λb=>Qc R (Y5 ((g.length+b.length)*24)) λl=>Ha e a k0 m (wJ (f-1)) i.2 (g++b)else k0 f (decide (f>0)) j g
def Ss(a0:LL)(K:QlH R):oP R:=Qc R (Q00 n a0 Tu2) λa=>gb true (Q2V n a.1 a.2 Tu8) ([],[],[],[],[],[],[],0) λc=>Qc R (Qm n a.1 c.2.2.2.2.2.2.2 6 Tu2) λd=>Qb R [[Ql 150],[Ql 120],[Ql 180],[Ql 240],[Ql 300],[Ql 90]] λv=>QkC R (List.length v) d.1 v (Int.toNat d.1) λe=>Qc R (Qm n a.1 d.2 2 Tu2) λf=>Qc R (Qm n a.1 f.2 4 Tu2) λg=>Qc R (Qm n a.1 g.2 3 Tu2) λh=>Qc R (Qm n a.1 h.2 3 Tu2) λi=>Qc R (Qm n a.1 i.2 3 Tu2) λq=>G3 n a.1 c.2.2.2.2.1 c.2.2.2.2.2.1 (λad ae y k j=>Qb R [[D.str (bs [88]),Ql (wJ (1+f.1)),Ql (wJ (10000+wJ (5000*g.1))),Ql (wJ (400+wJ (200*h.1))),Ql (wJ (400+wJ (200*i.1)))]] λb=>gb true (RK n a.1 y e b k j [] [] [] [] Tu2) (0,[]) λl=>Qc R (Qm n a.1 l.1 3 Tu2) λr=>VX n e a.1 b k j c.2.2.1 l.2 (λag ah z s=>Qc R (Qm n a.1 z 4 Tu2) λo=>bif Q9 (o.1==3) (decide ((j.length:Int)>1))then Qc R (Qm n a.1 o.2 e Tu2) λp=>Qb R [[Ql 0,Ql 0,Ql 1,Ql 0,Ql p.1]] λx=>Qc R (Y5 ((List.length ([]:LL)+x.length)*40)) λai=>Qc R (Qm n a.1 p.2 3 Tu2) λt=>V7 n a.1 c.1 (λaj ak al aa=>K c.1 c.2.1 c.2.2.1 c.2.2.2.1 e b k j s l.2 ([]++x) aa) n t.1 t.2 []else Qc R (Qm n a.1 o.2 3 Tu2) λu=>Ha n a.1 c.1 (λam an ao ab=>K c.1 c.2.1 c.2.2.1 c.2.2.2.1 e b k j s l.2 [] ab) n u.1 u.2 []) n r.1 r.2 []) n (wJ (1+q.1)) q.2 [] []
def V9(n:Nat)(a b:Y UInt8)(K:Qll R):oP R:=K (a==b)
def X1(c:LL)(h2:Int)(d:Y UInt8)(k0:Qlg R)(k1:Qlh R):Qli R
|0,_=>none
|m+1,a=>bif decide (a<h2)then QkZ R c a λe f g h i=>Qc R (Vp e) λj=>QkN R f g (QkN R h i (Qc R (V9 n j d some) λk=>bif k then k0 a else X1 c h2 d k0 k1 m (wJ (a+1))))else k1 a (decide (a<h2))
def XU(a0:LL)(a:Y UInt8)(K:Qlg R):oP R:=X1 n a0 (a0.length:Int) a (λb=>K b) (λc d=>K (-1:Int)) n 0
def XJ(a0:LL)(a:Y UInt8)(K:Qll R):oP R:=Qc R (XU n a0 a some) λb=>K (decide (b>=0))
def JQ(c:LL)(h2:Int)(h5:LL)(k0:Qlg R)(k1:Qlh R):Qli R
|0,_=>none
|m+1,a=>bif decide (a<h2)then QkZ R c a λd f g h i=>Qc R (Vp d) λj=>Qc R (KF n j some) λk=>bif !k then k0 3 else Qc R (slB h5.length none (some a)) λl=>Qc R (Vp d) λe=>QkW R f g h i λo p q r=>Qc R (XJ n (cut h5 l) e some) λs=>bif s then k0 5 else Qc R (Uv n e o p q r some) λt=>bif !t then k0 4 else JQ c h2 h5 k0 k1 m (wJ (a+1))else k1 a (decide (a<h2))
def U5(c d e f:LL)(g:Int)(a h i j k l m:LL)(K:Qlg R):oP R:=JQ n a (a.length:Int) a (λb=>K b) (λo p=>K 0) n 0
def ZV(n:Nat)(a b:Y UInt8)(K:Qll R):oP R:=K (a==b)
def Qr(c:LL)(h2:Int)(d:Y UInt8)(k0:Qlg R)(k1:Qlh R):Qli R
|0,_=>none
|m+1,a=>bif decide (a<h2)then QkP R c a λe f g h=>Qc R (Vp e) λi=>QkN R f g (Qc R (pSl 4 h) λo=>Qc R (ZV n i d some) λj=>bif j then k0 a else Qr c h2 d k0 k1 m (wJ (a+1)))else k1 a (decide (a<h2))
def X8(a0:LL)(a:Y UInt8)(K:Qlg R):oP R:=Qr n a0 (a0.length:Int) a (λb=>K b) (λc d=>K (-1:Int)) n 0
def QF(a0:LL)(a:Y UInt8)(K:Qll R):oP R:=Qc R (X8 n a0 a some) λb=>K (decide (b>=0))
def Tn(n:Nat)(a0:Int)(K:Qll R):oP R:=K (Q9 (decide (a0>=0)) (decide (a0<=1048576)))
def Kw(n:Nat)(a:Int)(b c d e f g h:LL)(a1 a2:Int)(K:Qll R):oP R:=K (Q9 (Q9 (Q9 (decide (0<=a1)) (decide (a1<=a2))) (decide (a2<=7200))) (decide (a2<wJ (a1+a))))
def Ti(n:Nat)(h:Int)(i a j k l m o:LL)(b p q r:Int)(K:Qlg R):oP R:=Qla R a b λe=>QkA R e 0 λg=>K g
def Sg(n:Nat)(k:Int)(l a m o p q r:LL)(b s t u:Int)(K:Qlg R):oP R:=Qla R a b λc=>QkG R a b λg=>QkA R c (wJ (wJ ((c.length:Int)-g)-1)) λj=>K j
def G2(n:Nat)(b:Int)(c d a e f g h:LL)(a1:Int)(K:Qll R):oP R:=K (Q9 (decide (a1>=0)) (decide (a1<(a.length:Int))))
def Uf(c:Int)(d e b f g h i:LL)(a1 a2:Int)(K:Qll R):oP R:=Qc R (G2 n c d e b f g h i a1 some) λa=>Qa R (Q9 a (decide (a2>=0))) λl=>Qd R l (Qi b a1) λj=>Qd R l j[3]? λc3=>Qd R l (pSl 4 c3) λk=>K (Q9 l (decide (a2<(k.length:Int))))
def YT(v:LL)(h2:Int)(h6:LL)(e:Int)(f g b h i j k:LL)(k0:Qlg R)(k1:Qlh R):Qli R
|0,_=>none
|m+1,p=>bif decide (p<h2)then Qky R v p λd s x t=>QkJ R d λy aa ab=>Qc R d[6]? λac=>Qkw R s x λad ae=>Qc R (Uf n e f g b h i j k ad ae some) λa=>QkE R t (!(!a)) y λag ah=>Qd R (!(!a)) (Uf n e f g b h i j k ag ah some) λc=>Qa R (Q8 (!a) (!c)) λcb=>QkE R s (!cb) t λl o=>Qa R (Q8 cb (l==o)) λca=>QkE R aa (!ca) ab λai aj=>Qd R (!ca) (Kw n e f g b h i j k ai aj some) λu=>Qa R (Q8 ca (!u)) λcc=>Qd R (!cc) (pIw ac) λak=>Qd R (!cc) (Tn n ak some) λal=>bif Q8 cc (!al)then k0 4 else Qc R (pIw s) λam=>QkK R b am λap=>Qc R (pIw x) λaq=>QkP R ap aq λar au av aw=>QkW R ar au av aw λax ay az ba=>Qc R (Sg n e f g b h i j k ax ay az ba some) λbb=>Qc R (Qi h6 bb) λbc=>Qc R bc[4]? λbd=>Qkw R bd t λz be=>QkK R b be λbi=>Qc R (pIw y) λbj=>QkP R bi bj λbk bl bm bn=>QkW R bk bl bm bn λbo bp bq br=>Qc R (Ti n e f g b h i j k bo bp bq br some) λbt=>Ql0 R h6 bt λbz=>bif Q8 (z==(-1:Int)) (z !=bz)then k0 11 else YT v h2 h6 e f g b h i j k k0 k1 m (wJ (p+1))else k1 p (decide (p<h2))
def Ww(k l b m:LL)(c:Int)(d e f a g h i:LL)(K:Qlg R):oP R:=YT n a (a.length:Int) b c d e f a g h i (λj=>K j) (λo p=>K 0) n 0
def ZT(n:Nat)(a b c d:Int)(K:Qll R):oP R:=K (Q8 (a==c) (b==d))
def Qs(c:LL)(h2 d h5:Int)(k0:Qlg R)(k1:Qlh R):Qli R
|0,_=>none
|m+1,a=>bif decide (a<h2)then QkP R c a λe f g h=>Qkw R e f λi j=>QkN R g h (Qc R (ZT n i j d h5 some) λk=>bif k then k0 a else Qs c h2 d h5 k0 k1 m (wJ (a+1)))else k1 a (decide (a<h2))
def Xb(a0:LL)(a b:Int)(K:Qlg R):oP R:=Qs n a0 (a0.length:Int) a b (λc=>K c) (λd e=>K (-1:Int)) n 0
def QE(a0:LL)(a b:Int)(K:Qll R):oP R:=Qc R (Xb n a0 a b some) λc=>K (decide (c>=0))
def ZQ(r:LL)(h2 b:Int)(h5 h6 h7 c a d e:LL)(k0:Qlg R)(k1:Qlh R):Qli R
|0,_=>none
|m+1,f=>bif decide (f<h2)then QkP R r f λs t u v=>Qc R (pIw s) λaa=>Qc R (G2 n b h5 h6 h7 c a d e aa some) λg=>Qd R (!(!g)) (pIw t) λab=>Qd R (!(!g)) (G2 n b h5 h6 h7 c a d e ab some) λi=>Qa R (Q8 (!g) (!i)) λbp=>QkE R u (!bp) v λac ad=>Qd R (!bp) (Kw n b h5 h6 h7 c a d e ac ad some) λae=>bif Q8 bp (!ae)then k0 4 else Qc R (slB a.length none (some f)) λag=>Qkw R s t λx y=>QkN R u v (Qc R (QE n (cut a ag) x y some) λah=>bif ah then k0 5 else QkF R h7 x λj ai=>QkR R j λz=>QkF R h7 y λk aj=>QkR R k λak=>Qc R (pSl 4 z) λal=>Qc R (pSl 4 z) λam=>QkP R al (wJ ((am.length:Int)-1)) λan ao ap aq=>QkW R an ao ap aq λar au av aw=>Qc R (Sg n b h5 h6 h7 c a d e ar au av aw some) λp=>Qc R (pSl 4 ak) λax=>QkP R ax 0 λay az ba bb=>QkW R ay az ba bb λbc bd be bg=>Qc R (Ti n b h5 h6 h7 c a d e bc bd be bg some) λq=>QkE R ai (!(p !=q)) aj λbh bi=>bif Q8 (p !=q) (bh !=bi)then k0 11 else ZQ r h2 b h5 h6 h7 c a d e k0 k1 m (wJ (f+1)))else k1 f (decide (f<h2))
def V1(j k l m:LL)(b:Int)(c d e f a g h:LL)(K:Qlg R):oP R:=ZQ n a (a.length:Int) b c d e f a g h (λi=>K i) (λo p=>K 0) n 0
def ZE(p:LL)(h2 g:Int)(h5 h6 h7 h i j k:LL)(k0:oP R)(k1:Qlh R):Qli R
|0,_=>none
|m+1,c=>bif decide (c<h2)then QkZ R p c λq r s t u=>Qkw R q r λx y=>Qc R (Uf n g h5 h6 h7 h i j k x y some) λa=>QkE R s (!(!a)) t λz aa=>Qd R (!(!a)) (Uf n g h5 h6 h7 h i j k z aa some) λb=>Qa R (Q8 (!a) (!b)) λac=>QkE R q (!ac) s λe f=>QkE R r (!ac&&e==f) t λl o=>Qa R (Q8 ac (Q9 (e==f) (l==o))) λad=>Qd R (!ad) (pIw u) λv=>Qa R (Q8 ad (decide (v<0))) λae=>Qd R (!ae) (pIw u) λab=>bif Q8 ae (decide (ab>=g))then k0 else ZE p h2 g h5 h6 h7 h i j k k0 k1 m (wJ (c+1))else k1 c (decide (c<h2))
def UT(i j k l:LL)(b:Int)(c d e f g a h:LL)(K:Qlg R):oP R:=ZE n a (a.length:Int) b c d e f g a h (K 4) (λm o=>K 0) n 0
def YS(n:Nat)(l:LL)(h2:Int)(a:LL)(k0:oP R)(k1:Qlh R):Qli R
|0,_=>none
|m+1,e=>bif decide (e<h2)then QkH R l e λh i o=>Qc R (pIw h) λb=>Qd R (!(decide (b<0))) (pIw h) λc=>Qa R (Q8 (decide (b<0)) (decide (c>=(a.length:Int)))) λs=>Qd R (!s) (pIw i) λd=>Qa R (Q8 s (decide (d<0))) λu=>Qd R (!u) (pIw i) λf=>Qa R (Q8 u (decide (f>=(a.length:Int)))) λr=>QkE R h (!r) i λj k=>Qd R (!(Q8 r (j==k))) (pIw o) λp=>Qa R (Q8 (Q8 r (j==k)) (decide (p<1))) λt=>Qd R (!t) (pIw o) λq=>bif Q8 t (decide (q>1048576))then k0 else YS n l h2 a k0 k1 m (wJ (e+1))else k1 e (decide (e<h2))
def Wp(b c d e:LL)(f:Int)(g h i j k l a:LL)(K:Qlg R):oP R:=YS n a (a.length:Int) b (K 4) (λm o=>K 0) n 0
def Ud(n:Nat)(b:Int)(d e:D)(k0:Qlj R):Qlk R
|0,_,_=>none
|m+1,a,c=>Qc R (pIw d) λf=>bif decide (a<f)then Qc R (pIw e) λg=>Qc R (Y5 ((c.length+[[Ql g,Ql b]].length)*16)) λh=>Ud n b d e k0 m (wJ (a+1)) (c++[[Ql g,Ql b]])else k0 a (decide (a<f)) c
def Un(h5 h7:LL)(b:Int)(k0:Qlj R):Qlk R
|0,_,_=>none
|m+1,h2,c=>Qa R (decide (h2<wJ ((h7.length:Int)-b))) λy=>bif y then QkA R h7 h2 λi=>QkF R h5 i λa d=>Ql3 R a λe j=>Qc R a[4]? λs=>Qc R (pIw j) λf=>QkG R h7 h2 λo=>bif o==1 then Ud n (wJ (0-f)) d e (λt u p=>Un h5 h7 b k0 m (wJ (h2+1)) p) n 0 c else Ud n f d e (λv x q=>Un h5 h7 b k0 m (wJ (h2+1)) q) n 0 c else k0 h2 y c
def S9(f g a h b:LL)(c:Int)(K:Qlt R):oP R:=Qc R (VW n f g a h b c some) λd=>bif d !=0 then K [] 0 d else Un n a b c (λp q e=>bif decide ((e.length:Int)>4000)then K [] 0 7 else QkA R b 0 λk=>QkG R a k λo=>K e o 0) n 0 []
def Ya(i:Y UInt8)(d e f g:Int)(K:Qll R):oP R:=Qc R (Hy n d 1 40 some) λa=>Qd R a (Hy n e 1000 100000 some) λb=>Qd R (Q9 a b) (Hy n f 100 2000 some) λc=>Qd R (Q9 (Q9 a b) c) (Hy n g 100 2000 some) λh=>K (Q9 (Q9 (Q9 a b) c) h)
def Ga(n:Nat)(h6 b:LL)(c d:Int)(k0:oP R)(k1:Qlh R):Qli R
|0,_=>none
|m+1,a=>Qa R (decide (a<wJ ((b.length:Int)-c))) λk=>bif k then QkA R b a λg=>QkG R h6 g λj=>bif decide (j<(if 2<d then d else 2))then k0 else Ga n h6 b c d k0 k1 m (wJ (a+1))else k1 a k
def SC(g h c i d:LL)(e:Int)(j:Y UInt8)(f k l m:Int)(K:Qlg R):oP R:=Qc R (S9 n g h c i d e Tu3) λa=>bif a.2.2 !=0 then K a.2.2 else Qc R (Ya n j f k l m some) λb=>bif !b then K 1 else Ga n c d e f (K 12) (λp q=>K 0) n 0
def G7(n:Nat)(h5:LL)(k0:oP R)(k1:Qlh R):Qli R
|0,_=>none
|m+1,a=>Qa R (decide (a<(h5.length:Int))) λe=>bif e then QkK R h5 a λd=>bif decide ((d.length:Int)>12)then k0 else G7 n h5 k0 k1 m (wJ (a+1))else k1 a e
def Fh(h:Int)(b c a d e f g:LL)(K:Qll R):oP R:=bif Q8 (Q8 (Q8 (Q8 (Q8 (Q8 (decide ((b.length:Int)>8)) (decide ((c.length:Int)>48))) (decide ((a.length:Int)>16))) (decide ((d.length:Int)>32))) (decide ((e.length:Int)>32))) (decide ((f.length:Int)>32))) (decide ((g.length:Int)>32))then K true else G7 n a (K true) (λi j=>K false) n 0
def VI(n:Nat)(a0 a1 a2:Int)(K:Qll R):oP R:=K (Q9 (decide (a0>=a1)) (decide (a0<=a2)))
def GQ(n:Nat)(h5:Int)(a:LL)(k0:oP R)(k1:Qlh R):Qli R
|0,_=>none
|m+1,h6=>bif decide (h6<h5)then QkI R a h6 λd=>QkI R a h5 λg=>bif d==g then k0 else GQ n h5 a k0 k1 m (wJ (h6+1))else k1 h6 (decide (h6<h5))
def Gx(s:Int)(b t u v x y z:LL)(a1:Int)(K:Qlg R):oP R:=QkI R b a1 λe=>Qc R (M7 n e some) λf=>bif !f then K 3 else GQ n a1 b (K 5) (λaa ab=>QkZ R b a1 λg h i j k=>Qc R (Vp g) λl=>QkW R h i j k λm o p q=>Qc R (Ya n l m o p q some) λr=>bif !r then K 4 else K 0) n 0
def Kn(n:Nat)(a:Int)(b c d e f g h:LL)(a1 a2:Int)(K:Qll R):oP R:=K (Q9 (Q9 (Q9 (decide (a1>=0)) (decide (a1<=a2))) (decide (a2<wJ (a1+a)))) (decide (a2<=7200)))
def VE(n:Nat)(a:LL)(e:Int)(K:Qlg R):oP R:=QkA R a 0 λd=>K d
def Jt(n:Nat)(a:LL)(b:Int)(K:Qlg R):oP R:=QkA R a (wJ (wJ ((a.length:Int)-b)-1)) λe=>K e
def Wz(n:Nat)(b:Int)(c:LL)(d:D)(k0:oP R)(k1:Qlh R):Qli R
|0,_=>none
|m+1,a=>bif decide (a<b)then QkI R c a λg=>Qc R (Vp d) λh=>bif g==h then k0 else Wz n b c d k0 k1 m (wJ (a+1))else k1 a (decide (a<b))
def Wr(o p q r:LL)(h:Int)(i c s t u v x:LL)(y e:D)(k0:Qlg R)(k1:Qlh R):Qli R
|0,_=>none
|m+1,a=>Qc R (pSl 4 e) λz=>Qa R (decide (a<(z.length:Int))) λcf=>bif cf then Qc R (pSl 4 e) λai=>QkP R ai a λj aj aa ab=>Qc R (pSl 4 e) λk=>Qc R (pIw j) λak=>Qc R (VI n ak 0 (wJ ((c.length:Int)-1)) some) λb=>Qd R (!(!b)) (pIw aj) λal=>Qd R (!(!b)) (VI n al 0 (wJ (h-1)) some) λd=>Qa R (Q8 (!b) (!d)) λcc=>QkE R aa (!cc) ab λam an=>Qd R (!cc) (Kn n h i c s t u v x am an some) λl=>Qa R (a==wJ ((k.length:Int)-1)) λce=>Qa R (Q8 cc (!l)) λcg=>Qd R (!cg&&ce) (pIw aa) λac=>Qd R (!cg&&ce&&!(ac !=0)) (pIw ab) λao=>bif Q8 cg (Q9 ce (Q8 (ac !=0) (ao !=0)))then k0 4 else Qld R j c λaq ar=>QkD R y i aq ar λba bb bc bd be bg bh=>Qc R (SC n o p q r ba bb bc bd be bg bh some) λae=>bif ae !=0 then k0 ae else Qa R (decide (a>0)) λcb=>Qd R cb (pIw j) λbi=>Qd R cb (Qi c bi) λag=>Qd R cb ag[0]? λbj=>Qd R cb ag[1]? λbk=>Qd R cb (pSl 2 bj) λbl=>Qd R cb (pIw bk) λbm=>Qd R cb (VE n bl bm some) λbn=>Qd R cb (pSl 4 e) λbo=>Ql2 R bo (wJ (a-1)) cb λbr=>Qd R cb (Qi c br) λah=>Qd R cb ah[0]? λbt=>Qd R cb ah[1]? λbu=>Qd R cb (pSl 2 bt) λbv=>Qd R cb (pIw bu) λbz=>Qd R cb (Jt n bv bz some) λca=>bif Q9 cb (bn !=ca)then k0 11 else Wr o p q r h i c s t u v x y e k0 k1 m (wJ (a+1))else k1 a cf
def KR(f g h i:LL)(j:Int)(d k b l m o p:LL)(a2:Int)(K:Qlg R):oP R:=QkP R b a2 λe c3 q c5=>Qc R (Vp e) λr=>Qc R (M7 n r some) λs=>bif !s then K 3 else Wz n a2 b e (K 5) (λz aa=>Qc R (pIw c3) λt=>Qc R (VI n t 0 (wJ ((d.length:Int)-1)) some) λc=>Qd R (!(!c)) (pIw q) λu=>Qd R (!(!c)) (VI n u 0 1048576 some) λv=>bif Q8 (!c) (!v)then K 4 else Qc R (pSl 4 c5) λx=>bif (x.length:Int)==0 then K 1 else Wr n f g h i j d k b l m o p c3 c5 (λy=>K y) (λab ac=>K 0) n 0) n 0
def Jz(f:Int)(g h b i j k l:LL)(a1 a2:Int)(K:Qll R):oP R:=Qc R (VI n a1 0 (wJ ((b.length:Int)-1)) some) λa=>Qd R a (Qi b a1) λc=>Qd R a c[3]? λc3=>Qd R a (pSl 4 c3) λd=>Qd R a (VI n a2 0 (wJ ((d.length:Int)-1)) some) λe=>K (Q9 a e)
def Xj(n:Nat)(k:Int)(l b c m o p q:LL)(a1 a2:Int)(K:D->D->oP R):oP R:=QkK R c a1 λf=>QkA R f a2 λh=>QkB R b h λi j=>K i j
def HD(am an o ao:LL)(b:Int)(c d e f g h i:LL)(j p k q v x y:Int)(K:Qlg R):oP R:=Qc R (Jz n b c d e f g h i j p some) λa=>Qd R (!(!a)) (Jz n b c d e f g h i k q some) λl=>Qa R (Q8 (Q8 (!a) (!l)) (j==k)) λaa=>Qd R (!aa) (Kn n b c d e f g h i v x some) λr=>Qd R (!(Q8 aa (!r))) (VI n y 0 1048576 some) λz=>bif Q8 (Q8 aa (!r)) (!z)then K 4 else Qc R (Xj n b c d e f g h i j p Tu2) λs=>Ql6 R s.1 s.2 λl6 i7=>Qc R (Jt n l6 i7 some) λr8=>Ql0 R o r8 λt=>Qc R (Xj n b c d e f g h i k q Tu2) λu=>Ql6 R u.1 u.2 λag ah=>Qc R (VE n ag ah some) λai=>Ql0 R o ai λal=>bif Q8 (decide (t<0)) (t !=al)then K 11 else K 0
def WA(n:Nat)(d:Int)(e:LL)(f g:D)(k0:oP R)(k1:Qlh R):Qli R
|0,_=>none
|m+1,a=>bif decide (a<d)then Qkx R e a λi=>Qkw R i f λb c=>Qa R (b==c) λp=>Qd R (!p) (Qi e a) λj=>Qd R (!p) j[1]? λk=>QkE R k (!p) g λl o=>bif Q8 p (l==o)then k0 else WA n d e f g k0 k1 m (wJ (a+1))else k1 a (decide (a<d))
def KW(i:Int)(j k b l d m o:LL)(a1:Int)(K:Qlg R):oP R:=QkP R d a1 λe c3 u c5=>Qc R (pIw e) λv=>Qb R (wJ ((b.length:Int)-1)) λay=>Qc R (VI n v 0 ay some) λc=>Qd R (!(!c)) (pIw c3) λx=>Qd R (!(!c)) (VI n x 0 ay some) λf=>Qa R (Q8 (!c) (!f)) λp=>QkE R u (!p) c5 λy z=>Qd R (!p) (Kn n i j k b l d m o y z some) λaa=>bif Q8 p (!aa)then K 4 else WA n a1 d e c3 (K 5) (λap aq=>Qc R (pIw e) λab=>QkF R b ab λg ac=>QkR R g λad=>Qc R (pIw c3) λae=>QkF R b ae λh ag=>Qc R h[2]? λaw=>Qc R h[3]? λax=>Qc R (pIw e) λah=>Qc R (pSl 4 ad) λai=>Qc R (Xj n i j k b l d m o ah (wJ ((ai.length:Int)-1)) Tu2) λs=>Ql6 R s.1 s.2 λaj ak=>Qc R (Jt n aj ak some) λq=>Qc R (pIw c3) λi64=>Qc R (Xj n i j k b l d m o i64 0 Tu2) λt=>Ql6 R t.1 t.2 λal am=>Qc R (VE n al am some) λr=>QkE R ac (!(q !=r)) ag λan ao=>bif Q8 (q !=r) (an !=ao)then K 11 else K 0) n 0
def Wv(c:Int)(b d e f g h i:LL)(k0:Qlg R)(k1:Qlh R):Qli R
|0,_=>none
|m+1,a=>Qa R (decide (a<(b.length:Int))) λk=>bif k then Qc R (Gx n c b d e f g h i a some) λj=>bif j !=0 then k0 j else Wv c b d e f g h i k0 k1 m (wJ (a+1))else k1 a k
def Wq(c d e f b:LL)(k0:Qlg R)(k1:Qlh R):Qli R
|0,_=>none
|m+1,a=>Qa R (decide (a<(b.length:Int))) λo=>bif o then QkB R b a λi j=>Ql6 R i j λk l=>Qc R (VW n c d e f k l some) λh=>bif h !=0 then k0 h else Wq c d e f b k0 k1 m (wJ (a+1))else k1 a o
def Wu(c d e f:LL)(g:Int)(h i b j k l o:LL)(k0:Qlg R)(k1:Qlh R):Qli R
|0,_=>none
|m+1,a=>Qa R (decide (a<(b.length:Int))) λq=>bif q then Qc R (KR n c d e f g h i b j k l o a some) λp=>bif p !=0 then k0 p else Wu c d e f g h i b j k l o k0 k1 m (wJ (a+1))else k1 a q
def Zg(d e f g:LL)(h:Int)(i j k b l o p:LL)(k0:Qlg R)(k1:Qlh R):Qli R
|0,_=>none
|m+1,c=>Qa R (decide (c<(b.length:Int))) λah=>bif ah then Qky R b c λa r s t=>QkJ R a λu v x=>Qc R a[6]? λy=>QkW R r s t u λz aa ab ac=>QkY R v x y λad ae ag=>Qc R (HD n d e f g h i j k b l o p z aa ab ac ad ae ag some) λq=>bif q !=0 then k0 q else Zg d e f g h i j k b l o p k0 k1 m (wJ (c+1))else k1 c ah
def Za(c:Int)(d e f g b h i:LL)(k0:Qlg R)(k1:Qlh R):Qli R
|0,_=>none
|m+1,a=>Qa R (decide (a<(b.length:Int))) λk=>bif k then Qc R (KW n c d e f g b h i a some) λj=>bif j !=0 then k0 j else Za c d e f g b h i k0 k1 m (wJ (a+1))else k1 a k
def Z6(h:Int)(i j k l o c p:LL)(k0:oP R)(k1:Qlh R):Qli R
|0,_=>none
|m+1,d=>Qa R (decide (d<(c.length:Int))) λah=>bif ah then QkZ R c d λs t u v x=>Qkw R s t λy z=>Qc R (Jz n h i j k l o c p y z some) λa=>QkE R u (!(!a)) v λaa ab=>Qd R (!(!a)) (Jz n h i j k l o c p aa ab some) λb=>Qa R (Q8 (!a) (!b)) λae=>QkE R s (!ae) u λf g=>QkE R t (!ae&&f==g) v λq r=>Qa R (Q8 ae (Q9 (f==g) (q==r))) λag=>Qd R (!ag) (pIw x) λac=>Qd R (!ag) (VI n ac 0 (wJ (h-1)) some) λad=>bif Q8 ag (!ad)then k0 else Z6 h i j k l o c p k0 k1 m (wJ (d+1))else k1 d ah
def Zc(e d:LL)(k0:oP R)(k1:Qlh R):Qli R
|0,_=>none
|m+1,b=>Qa R (decide (b<(d.length:Int))) λs=>bif s then QkH R d b λi j k=>Qc R (pIw i) λl=>Qb R (wJ ((e.length:Int)-1)) λu=>Qc R (VI n l 0 u some) λa=>Qd R (!(!a)) (pIw j) λo=>Qd R (!(!a)) (VI n o 0 u some) λc=>Qa R (Q8 (!a) (!c)) λr=>QkE R i (!r) j λg h=>Qa R (Q8 r (g==h)) λt=>Qd R (!t) (pIw k) λp=>Qd R (!t) (VI n p 1 1048576 some) λq=>bif Q8 t (!q)then k0 else Zc e d k0 k1 m (wJ (b+1))else k1 b s
def We(i j k l:LL)(a:Int)(d b e f g h c:LL)(K:Qlg R):oP R:=Qc R (Vw n i j k l some) λm=>bif m !=0 then K 1 else Qc R (Fh n a d b e f g h c some) λo=>bif o then K 7 else Qc R (VI n a 2 7200 some) λp=>bif !p then K 4 else Wv n a d b e f g h c (λq=>K q) (λv x=>Wq n i j k l b (λr=>K r) (λy z=>Wu n i j k l a d b e f g h c (λs=>K s) (λaa ab=>Zg n i j k l a d b e f g h c (λt=>K t) (λac ad=>Za n a d b e f g h c (λu=>K u) (λae ag=>Z6 n a d b e f g h c (K 4) (λah ai=>Zc n i c (K 4) (λaj ak=>K 0) n 0) n 0) n 0) n 0) n 0) n 0) n 0
def Vj(n:Nat)(b:Int)(k0:Qlo R):Qlq R
|0,_,_=>none
|m+1,h2,a=>bif decide (a>0)then Qb R (wJ (h2+a)) λf=>Qc R (nz f) λc=>bif decide (f<=wJ (Int.tdiv b f))then Qc R (Ac 1) λd=>Vj n b k0 m f (shR .i64 a 1)else Qc R (Ac 1) λe=>Vj n b k0 m h2 (shR .i64 a 1)else k0 h2 a (decide (a>0))
def Sd(a0:Int)(K:Qlg R):oP R:=Vj n a0 (λa b c=>K a) n 0 2147483648
def VR(n:Nat)(b:Int)(k0:Qlo R):Qlq R
|0,_,_=>none
|m+1,h2,a=>bif decide (h2<a)then Qc R (nz 2) λc=>Qb R (wJ (Int.tdiv (wJ (wJ (h2+a)+1)) 2)) λd=>bif decide (wJ (d*d)<=b)then VR n b k0 m d a else VR n b k0 m h2 (wJ (d-1))else k0 h2 a (decide (h2<a))
def Mn(a0:Int)(K:Qlg R):oP R:=bif decide (a0<=0)then K 0 else VR n a0 (λa b c=>K a) n 0 3037000499
def YQ(n:Nat)(c:LL)(h5:Int)(k0:oP R)(k1:Qlh R):Qli R
|0,_=>none
|m+1,h6=>bif decide (h6<h5)then QkB R c h6 λe f=>Qc R (pIw e) λa=>Qa R (decide (a<1000)) λk=>Qd R (!k) (pIw e) λb=>Qa R (Q8 k (decide (b>100000))) λi=>Qd R (!i) (pIw f) λg=>Qa R (Q8 i (decide (g<(-40:Int)))) λj=>Qd R (!j) (pIw f) λh=>bif Q8 j (decide (h>40))then k0 else YQ n c h5 k0 k1 m (wJ (h6+1))else k1 h6 (decide (h6<h5))
def Jc(a0:LL)(a1:Int)(a:Y UInt8)(b c d e:Int)(K:Qlg R):oP R:=Qc R (Uv n a b c d e some) λf=>bif !f then K 1 else Qb R (a0.length:Int) λi=>bif decide (i>4000)then K 7 else YQ n a0 i (K 4) (λg h=>bif Q8 (decide (a1<0)) (decide (a1>wJ (i-2)))then K 4 else K 0) n 0
def Wy(n:Nat)(b:LL)(a:Int)(k0:Qlo R):Qlq R
|0,_,_=>none
|m+1,h2,h5=>bif decide (h5<a)then Ql4 R b h5 λaa=>Qc R (pIw aa) λd=>Wy n b a k0 m (if d<h2 then d else h2) (wJ (h5+1))else k0 h2 h5 (decide (h5<a))
def JG(a0:LL)(a1:Int)(d:Y UInt8)(a b e f:Int)(K:Qlg R):oP R:=Qc R (slB a0.length (some (if 0<wJ (a1-a)then wJ (a1-a)else 0)) (some (wJ (a1+1)))) λq1=>Wy n (cut a0 q1) ((List.length (cut a0 q1):Nat):Int) (λc g h=>K c) n b 0
def T7(n:Nat)(c a:Int)(d:Y UInt8)(e f b g:Int)(K:Qlg R):oP R:=bif decide (a>0)then K (wJ (20000*(if 50<wJ (b-wJ (10*a))then wJ (b-wJ (10*a))else 50)))else K (wJ (20000*b))
def HU(n:Nat)(c a:Int)(d:Y UInt8)(e f g b:Int)(K:Qlg R):oP R:=bif decide (a<0)then K (wJ (20000*(if 50<wJ (b+wJ (10*a))then wJ (b+wJ (10*a))else 50)))else K (wJ (20000*b))
def YA(d:LL)(h5 h6:Int)(e:Y UInt8)(f g h i:Int)(k0:QlC R):Qlv R
|0,_,_,_=>none
|m+1,h7,a,c=>bif decide (a<h6)then Qc R (JG n d a e f g h i some) λb=>QkC R c.length (wJ (wJ (a-1)-h5)) c (Int.toNat (wJ (wJ (a-1)-h5))) λj=>QkB R d (wJ (a-1)) λq r=>Qkw R q r λs t=>Qc R (T7 n s t e f g h i some) λl=>Qc R (inB c.length (wJ (a-h5))) λx=>Qb R (Int.toNat (wJ (a-h5))) λz=>Qc R c[z]? λu=>Qb R (wJ ((if b<h7 then b else h7)*(if b<h7 then b else h7))) λy=>YA d h5 h6 e f g h i k0 m b (wJ (a+1)) (List.set c z (List.set u 0 (Ql (if wJ (j+l)<y then wJ (j+l)else y))))else k0 h7 a (decide (a<h6)) c
def Z9(d:LL)(b:Int)(e:Y UInt8)(f g h i:Int)(k0:Qlj R):Qlk R
|0,_,_=>none
|m+1,a,c=>bif decide (a>b)then Qc R (inB c.length (wJ (a-b))) λz=>Qb R (Int.toNat (wJ (a-b))) λac=>Qc R c[ac]? λp=>Qc R p[0]? λq=>Qc R (pIw q) λj=>QkC R c.length (wJ (wJ (a+1)-b)) c (Int.toNat (wJ (wJ (a+1)-b))) λk=>QkB R d a λt u=>Qkw R t u λv x=>Qc R (HU n v x e f g h i some) λo=>Qkz R c.length (wJ (a-b)) c ac λy=>Z9 d b e f g h i k0 m (wJ (a-1)) (List.set c ac (List.set y 0 (Ql (if wJ (k+o)<j then wJ (k+o)else j))))else k0 a (decide (a>b)) c
def JP(a0:LL)(a1:Int)(a:Y UInt8)(b c d e:Int)(K:Qlm R):oP R:=Qb R (a0.length:Int) λr=>Qb R (wJ (wJ (r-a1)+1)) λq=>gb true (bif decide (0<=q)&&decide (q<=q)then some ()else none) () λi=>Qc R (Y5 (Int.toNat q*8)) λj=>Qc R (JG n a0 a1 a b c d e some) λf=>YA n a0 a1 r a b c d e (λk l m g=>Z9 n a0 a1 a b c d e (λo p h=>K h) n (wJ (r-1)) g) n f (wJ (a1+1)) (List.replicate (Int.toNat q) [Ql 0])
def ZN(b:Int)(k0:Qlj R):Qlk R
|0,_,_=>none
|m+1,a,h5=>bif decide (a<b)then QkC R h5.length a h5 a.toNat λe=>Qc R (Sd n e some) λf=>Qkz R h5.length a h5 a.toNat λg=>ZN b k0 m (wJ (a+1)) (List.set h5 a.toNat (List.set g 0 (Ql f)))else k0 a (decide (a<b)) h5
def Gp(a0:LL)(a1:Int)(a:Y UInt8)(b c d e:Int)(K:Qlp R):oP R:=Qc R (Jc n a0 a1 a b c d e some) λf=>bif f !=0 then K [] f else Qc R (JP n a0 a1 a b c d e some) λg=>ZN n (g.length:Int) (λi j h=>K h 0) n 0 g
def GO(n:Nat)(a0 a1:Int)(K:Qln R):oP R:=bif decide (a1<1)then K 0 1 else Ql7 R a1 (Qb R (wJ (Int.tdiv a0 a1)) λc=>bif decide (Int.tmod a0 a1>0)then K (wJ (c+1)) 0 else K c 0)
def WB(a:LL)(k0:Qlj R):Qlk R
|0,_,_=>none
|m+1,h5,h6=>Qa R (decide (h5<(a.length:Int))) λh=>bif h then Qb R (wJ (h5-1)) λi=>QkA R a i λd=>QkA R a h5 λg=>Qc R (GO n 20000000 (wJ (d+g)) Tu2) λj=>QkC R h6.length i h6 (Int.toNat i) λo=>Qkz R h6.length h5 h6 h5.toNat λp=>WB a k0 m (wJ (h5+1)) (List.set h6 h5.toNat (List.set p 0 (Ql (wJ (o+j.1)))))else k0 h5 h h6
def Js(a0:LL)(a1:Int)(b:Y UInt8)(c d e f:Int)(K:Qlp R):oP R:=Qc R (Gp n a0 a1 b c d e f Tu2) λa=>bif a.2 !=0 then K [] a.2 else Qb R (a.1.length:Int) λg=>gb true (bif decide (0<=g)&&decide (g<=g)then some ()else none) () λi=>Qc R (Y5 (Int.toNat g*8)) λj=>WB n a.1 (λk l h=>K h 0) n 1 (List.replicate (Int.toNat g) [Ql 0])
def Ko(h2:LL)(k0:oP R)(k1:Qlh R):Qli R
|0,_=>none
|m+1,a=>Qa R (decide (a<(h2.length:Int))) λj=>bif j then QkA R h2 a λe=>Qc R (Hy n e 1000 100000 some) λb=>QkX R h2 a (!(!b)) λh=>Qd R (!(!b)) (Hy n h (-40:Int) 40 some) λi=>bif Q8 (!b) (!i)then k0 else Ko h2 k0 k1 m (wJ (a+1))else k1 a j
def B9(a0:LL)(a1:Int)(a:Y UInt8)(b c d e:Int)(K:Qlg R):oP R:=Qc R (Ya n a b c d e some) λf=>bif !f then K 1 else bif decide ((a0.length:Int)>4000)then K 7 else Ko n a0 (K 4) (λg h=>bif Q8 (decide (a1<0)) (decide (a1>wJ ((a0.length:Int)-2)))then K 4 else K 0) n 0
def J1(n:Nat)(c:LL)(h2:Int)(k0:Qlo R):Qlq R
|0,_,_=>none
|m+1,b,a=>bif decide (a<=h2)then QkA R c a λd=>J1 n c h2 k0 m (if d<b then d else b) (wJ (a+1))else k0 b a (decide (a<=h2))
def PW(a0:LL)(a1:Int)(d:Y UInt8)(a b e f:Int)(K:Qlg R):oP R:=J1 n a0 a1 (λc g h=>K c) n b (if 0<wJ (a1-a)then wJ (a1-a)else 0)
def MM(n:Nat)(c a:Int)(d:Y UInt8)(e f b g:Int)(K:Qlg R):oP R:=bif decide (a>0)then K (if 50<wJ (b-wJ (10*a))then wJ (b-wJ (10*a))else 50)else K b
def MJ(n:Nat)(c a:Int)(d:Y UInt8)(e f g b:Int)(K:Qlg R):oP R:=bif decide (a<0)then K (if 50<wJ (b+wJ (10*a))then wJ (b+wJ (10*a))else 50)else K b
def UC(d:LL)(h5 h6:Int)(e:Y UInt8)(f g h i:Int)(k0:Qlj R):Qlk R
|0,_,_=>none
|m+1,h7,a=>bif decide (h7<h6)then Qc R (PW n d (wJ (wJ (h5+h7)-1)) e f g h i some) λb=>Qc R (PW n d (wJ (h5+h7)) e f g h i some) λc=>Qkz R a.length h7 a h7.toNat λj=>UC d h5 h6 e f g h i k0 m (wJ (h7+1)) (List.set a h7.toNat (List.set j 0 (Ql (wJ ((if c<b then c else b)*(if c<b then c else b))))))else k0 h7 (decide (h7<h6)) a
def UH(d:LL)(e c:Int)(f:Y UInt8)(g h i j:Int)(k0:Qlj R):Qlk R
|0,_,_=>none
|m+1,a,b=>bif decide (a<c)then Qb R (wJ (a+1)) λac=>Qc R (inB b.length ac) λz=>Qb R (Int.toNat ac) λad=>Qc R b[ad]? λq=>Qc R q[0]? λr=>Qc R (pIw r) λk=>QkC R b.length a b a.toNat λl=>QkB R d (wJ (e+a)) λu v=>Qkw R u v λx i64=>Qc R (MM n x i64 f g h i j some) λp=>Qkz R b.length ac b ad λy=>UH d e c f g h i j k0 m ac (List.set b ad (List.set y 0 (Ql (if wJ (l+wJ (20000*p))<k then wJ (l+wJ (20000*p))else k))))else k0 a (decide (a<c)) b
def UL(c:LL)(d:Int)(e:Y UInt8)(f g h i:Int)(k0:Qlj R):Qlk R
|0,_,_=>none
|m+1,a,b=>bif decide (a>0)then Qb R (wJ (a-1)) λac=>Qc R (inB b.length ac) λz=>Qb R (Int.toNat ac) λad=>Qc R b[ad]? λp=>Qc R p[0]? λq=>Qc R (pIw q) λj=>QkC R b.length a b a.toNat λk=>QkB R c (wJ (wJ (d+a)-1)) λt u=>Qkw R t u λv x=>Qc R (MJ n v x e f g h i some) λo=>Qkz R b.length ac b ad λy=>UL c d e f g h i k0 m ac (List.set b ad (List.set y 0 (Ql (if wJ (k+wJ (20000*o))<j then wJ (k+wJ (20000*o))else j))))else k0 a (decide (a>0)) b
def Vy(c:Int)(k0:Qlj R):Qlk R
|0,_,_=>none
|m+1,a,b=>bif decide (a<=c)then QkC R b.length a b a.toNat λf=>Qc R (Mn n f some) λg=>Qkz R b.length a b a.toNat λh=>Vy c k0 m (wJ (a+1)) (List.set b a.toNat (List.set h 0 (Ql g)))else k0 a (decide (a<=c)) b
def Rp(a0:LL)(a1:Int)(a:Y UInt8)(b c d e:Int)(K:Qlp R):oP R:=Qc R (B9 n a0 a1 a b c d e some) λf=>bif f !=0 then K [] f else Qb R (wJ ((a0.length:Int)-a1)) λv=>Qb R (wJ (v+1)) λx=>gb true (bif decide (0<=x)&&decide (x<=x)then some ()else none) () λk=>Qc R (Y5 (Int.toNat x*8)) λl=>UC n a0 a1 v a b c d e (λm o g=>UH n a0 a1 v a b c d e (λp q h=>UL n a0 a1 a b c d e (λr s i=>Vy n v (λt u j=>K j 0) n 0 i) n v h) n 0 g) n 1 (List.replicate (Int.toNat x) [Ql 0])
def Jp(n:Nat)(a0 a1:Int)(K:Qlg R):oP R:=Ql7 R a1 (Qb R (wJ (Int.tdiv a0 a1)) λc=>bif decide (Int.tmod a0 a1>0)then K (wJ (c+1))else K c)
def J8(a:LL)(k0:Qlj R):Qlk R
|0,_,_=>none
|m+1,h5,h6=>Qa R (decide (h5<(a.length:Int))) λq=>bif q then Qb R (wJ (h5-1)) λr=>QkC R h6.length r h6 (Int.toNat r) λd=>QkA R a r λg=>QkA R a h5 λj=>Qc R (Jp n 20000000 (wJ (g+j)) some) λk=>Qkz R h6.length h5 h6 h5.toNat λl=>J8 a k0 m (wJ (h5+1)) (List.set h6 h5.toNat (List.set l 0 (Ql (wJ (d+k)))))else k0 h5 q h6
def PN(a0:LL)(a1:Int)(b:Y UInt8)(c d e f:Int)(K:Qlp R):oP R:=Qc R (Rp n a0 a1 b c d e f Tu2) λa=>bif a.2 !=0 then K [] a.2 else Qb R (a.1.length:Int) λg=>gb true (bif decide (0<=g)&&decide (g<=g)then some ()else none) () λi=>Qc R (Y5 (Int.toNat g*8)) λj=>J8 n a.1 (λk l h=>K h 0) n 1 (List.replicate (Int.toNat g) [Ql 0])
def JR(a0:Int)(K:Qlg R):oP R:=Qc R (GO n a0 1000 Tu2) λa=>K a.1
def Pq(n:Nat)(a0 a1:Int)(K:Qln R):oP R:=bif decide (a1<1)then K 0 1 else Ql7 R a1 (Qb R (wJ (Int.tdiv a0 a1)) λc=>bif decide (Int.tmod a0 a1<0)then K (wJ (c-1)) 0 else K c 0)
def Vh(a0:Int)(K:Qlg R):oP R:=Qc R (Pq n a0 1000 Tu2) λa=>K a.1
def J7(n:Nat)(c a b d:LL)(K:Qlm R):oP R:=Qb R (wJ ((b.length:Int)+(a.length:Int))) λg=>gb true (bif decide (0<=g)&&decide (g<=g)then some ()else none) () λe=>Qc R (Y5 (Int.toNat g*24)) λf=>K (List.replicate (Int.toNat g) [Ql 0,Ql 0,Ql 0])
def XF(n:Nat)(a:LL)(a1 a2 b:Int)(K:Qlm R):oP R:=QkS R a.length a1 a a1.toNat λf=>Qc R a[a1.toNat]? λg=>QkQ R g λh=>bif decide (f<h)then Qc R a[a1.toNat]? λi=>Qc R i[1]? λj=>Qc R (pIw j) λc=>Qc R a[a1.toNat]? λk=>QkQ R k λd=>Qc R a[a1.toNat]? λm=>K (List.set a a1.toNat (List.set (List.set (List.set m 0 (Ql a1)) 1 (Ql (if c<a2 then c else a2))) 2 (Ql (if b<d then d else b))))else Qc R a[a1.toNat]? λo=>K (List.set a a1.toNat (List.set (List.set (List.set o 0 (Ql a1)) 1 (Ql a2)) 2 (Ql b)))
def Y6(n:Nat)(c:LL)(h2:Int)(k0:Qlj R):Qlk R
|0,_,_=>none
|m+1,a,b=>bif decide (a<h2)then QkH R c a λg e f=>Qkw R e f λh i=>bif decide (h<i)then Qc R (Y5 ((b.length+[[g,e,f]].length)*24)) λj=>Y6 n c h2 k0 m (wJ (a+1)) (b++[[g,e,f]])else Y6 n c h2 k0 m (wJ (a+1)) b else k0 a (decide (a<h2)) b
def Vl(a0:LL)(K:Qlm R):oP R:=Y6 n a0 (a0.length:Int) (λb c a=>K a) n 0 []
def Zx(n:Nat)(a g c:LL)(e b:Int)(k0:QlD R):Qlw R
|0,_,_,_,_=>none
|m+1,h5,h6,f,d=>Qa R (decide (h6<wJ ((c.length:Int)-e))) λac=>bif ac then QkA R a h5 λh=>Qc R (Y5 ((f.length+[[Ql h]].length)*8)) λz=>Qb R (wJ ((a.length:Int)-1)) λad=>bif decide (h6>0)then QkA R c h6 λr=>QkG R g r λi=>QkA R a (if ad<wJ (wJ (h5+i)+b)then ad else wJ (wJ (h5+i)+b)) λj=>Qc R (Y5 ((d.length+[[Ql j]].length)*8)) λaa=>Zx n a g c e b k0 m (wJ (h5+i)) (wJ (h6+1)) (f++[[Ql h]]) (d++[[Ql j]])else QkA R a (if ad<wJ (h5+b)then ad else wJ (h5+b)) λk=>Qc R (Y5 ((d.length+[[Ql k]].length)*8)) λab=>Zx n a g c e b k0 m h5 (wJ (h6+1)) (f++[[Ql h]]) (d++[[Ql k]])else k0 h5 h6 ac f d
def Po(i j c k d:LL)(e:Int)(l:Y UInt8)(f m o p:Int)(K:LL->LL->Int->Int->oP R):oP R:=Qc R (SC n i j c k d e l f m o p some) λa=>bif a !=0 then K [] [] 0 a else Qc R (S9 n i j c k d e Tu3) λb=>Qc R (PN n b.1 b.2.1 l f m o p Tu2) λh=>Zx n h.1 c d e f (λx y z q r=>QkA R h.1 (wJ ((h.1.length:Int)-1)) λu=>Qc R (Jp n u 1000 some) λv=>K q r v 0) n 0 0 [] []
def VF(n:Nat)(a0 a1:Int)(K:Qlg R):oP R:=Ql7 R a1 (Qb R (wJ (Int.tdiv a0 a1)) λc=>bif decide (Int.tmod a0 a1<0)then K (wJ (c-1))else K c)
def YV(n:Nat)(q1 a:LL)(a1 a2 b:Int)(K:LL->LL->oP R):oP R:=Qlc R q1.length a1 q1 a1.toNat λf=>bif f then QkS R a.length a1 a a1.toNat λc=>Qkz R a.length a1 a a1.toNat λh=>QkQ R h λd=>Qkz R q1.length a1 q1 a1.toNat λi=>Qkz R a.length a1 a a1.toNat λj=>K (List.set q1 a1.toNat (List.set i 0 (D.bool true))) (List.set a a1.toNat (List.set (List.set (List.set j 0 (Ql a1)) 1 (Ql (if c<a2 then c else a2))) 2 (Ql (if b<d then d else b))))else Qkz R q1.length a1 q1 a1.toNat λk=>Qkz R a.length a1 a a1.toNat λl=>K (List.set q1 a1.toNat (List.set k 0 (D.bool true))) (List.set a a1.toNat (List.set (List.set (List.set l 0 (Ql a1)) 1 (Ql a2)) 2 (Ql b)))
def Wk(l o:Int)(e i:LL)(j b:Int)(p q f r c:LL)(k0:QlD R):Qlw R
|0,_,_,_,_=>none
|m+1,v,a,x,y=>Qa R (decide (a<(c.length:Int))) λg=>bif g then jn (λ(t k:Int)=>(QkA R c a λag=>gb true (YV n x y ag t k Tu2) ([],[]) λd=>Qb R (wJ (a+1)) λh=>bif decide (a>0)then QkB R c (wJ (a-1)) λah ai=>QkB R c a λaj ak=>QkW R ah ai aj ak λal am an ao=>Qc R (JS n p q f r al am an ao Tu5) λu=>Qc R (pIw u.2.2.1) λau=>bif decide (au>=0)then bif decide (a>b)then Qc R (pIw u.2.2.1) λav=>gb true (YV n d.1 d.2 (wJ ((f.length:Int)+av)) t k Tu2) ([],[]) λab=>Wk l o e i j b p q f r c k0 m k h ab.1 ab.2 else Qc R (pIw u.2.2.1) λaw=>gb true (YV n d.1 d.2 (wJ ((f.length:Int)+aw)) t v Tu2) ([],[]) λac=>Wk l o e i j b p q f r c k0 m k h ac.1 ac.2 else Wk l o e i j b p q f r c k0 m k h d.1 d.2 else Wk l o e i j b p q f r c k0 m k h d.1 d.2:oP R)) λs=>bif a==0 then QkA R i 0 λaz=>Qc R (Jp n az 1000 some) λba=>s (wJ (0-l)) (wJ (ba+4))else bif decide (a<b)then QkA R e (wJ (a-1)) λbd=>Qc R (VF n bd 1000 some) λbe=>QkA R i a λbi=>Qc R (Jp n bi 1000 some) λbj=>s (wJ (be-16)) (wJ (bj+4))else bif a==b then QkA R e (wJ (b-1)) λbm=>Qc R (VF n bm 1000 some) λbn=>s (wJ (bn-16)) (wJ (j+o))else QkA R e b λbq=>Qc R (VF n bq 1000 some) λbr=>s (wJ (br-16)) (wJ (j+20))else k0 v a g x y
def V8(n:Nat)(b:Int)(c d:LL)(k0:Qlj R):Qlk R
|0,_,_=>none
|m+1,a,e=>bif decide (a<b)then Qlc R c.length a c a.toNat λl=>bif l then Qkz R d.length a d a.toNat λf=>Ql8 R f λg h=>Qc R f[2]? λi=>Qc R (Y5 ((e.length+[[g,h,i]].length)*24)) λq=>V8 n b c d k0 m (wJ (a+1)) (e++[[g,h,i]])else V8 n b c d k0 m (wJ (a+1)) e else k0 a (decide (a<b)) e
def Hr(f a b g h:LL)(j:Int)(k:Y UInt8)(l m o p q r:Int)(K:Qlt R):oP R:=Qc R (SC n f a b g h j k l m o p some) λd=>bif d !=0 then K [] 0 d else Qc R (Hy n q 0 65536 some) λe=>Qd R (!(!e)) (Hy n r 0 65536 some) λi=>bif Q8 (!e) (!i)then K [] 0 4 else gb true (Po n f a b g h j k l m o p Tu4) ([],[],0,0) λc=>Qb R (wJ ((b.length:Int)+(a.length:Int))) λaa=>Qa R (decide (0<=aa)&&decide (aa<=aa)) λs=>gb true (bif s then some ()else none) () λx=>Qb R (Int.toNat aa) λah=>Qc R (Y5 (ah*1)) λy=>gb true (bif s then some ()else none) () λz=>Qc R (Y5 (ah*24)) λu8=>Wk n q r c.1 c.2.1 c.2.2.1 (wJ ((c.1.length:Int)-1)) f a b g h (λab ac ad t u=>V8 n aa t u (λae ag v=>K v c.2.2.1 0) n 0 []) n 0 0 (List.replicate ah [D.bool false]) (List.replicate ah [Ql 0,Ql 0,Ql 0])
def UZ(n:Nat)(d:Int)(h2:LL)(c:Int)(k0:Qlg R)(k1:Qlh R):Qli R
|0,_=>none
|m+1,a=>bif decide (a<c)then Qc R (Qi h2 a) λb=>Qc R b[0]? λf=>Qc R b[1]? λi=>QkR R b λg=>Qc R (pIw f) λh=>bif h==d then Qc R (pIw g) λe=>k0 (if 60<e then e else 60)else UZ n d h2 c k0 k1 m (wJ (a+1))else k1 a (decide (a<c))
def H8(c:Int)(d e f g a h i:LL)(a1:Int)(K:Qlg R):oP R:=UZ n a1 a (a.length:Int) (λb=>K b) (λj k=>K 60) n 0
def J4(n:Nat)(c:Int)(a:LL)(k0:D->D->D->D->oP R)(k1:Qlh R):Qli R
|0,_=>none
|m+1,h2=>Qa R (decide (h2<(a.length:Int))) λk=>bif k then QkA R a h2 λf=>bif f==c then QkP R a h2 λg h i j=>k0 g h i j else J4 n c a k0 k1 m (wJ (h2+1))else k1 h2 k
def Sz(a:LL)(a1:Int)(K:D->D->D->D->Bool->oP R):oP R:=J4 n a1 a (λb c d e=>K b c d e true) (λf g=>Qb R (Ql 0) λh=>K h h h h false) n 0
def YI(g:Int)(k l o p:LL)(q:Int)(e r s t h u v:LL)(x d:D)(k0:Qls R):Qlu R
|0,_,_,_=>none
|m+1,a,i,j=>Qc R (pSl 4 d) λaj=>Qa R (decide (a<(aj.length:Int))) λb=>bif b then Qc R (pSl 4 d) λaw=>QkG R aw a λak=>Qb R (wJ (a+1)) λc=>bif a==0 then jn (λ(az:Int)=>(Qc R (Xj n q e r s t h u v g a Tu2) λal=>QkD R x e al.1 al.2 λbh bi bj bk bl bm bn=>Qc R (Hr n k l o p bh bi bj bk bl bm bn 60 az Tu3) λac=>QkV R ((i.length+[[D.sl 3 ac.1]].length)*24) ((j.length+[[Ql ac.2.1]].length)*8) (YI g k l o p q e r s t h u v x d k0 m c (i++[[D.sl 3 ac.1]]) (j++[[Ql ac.2.1]])):oP R)) λam=>Qc R (Sz n h g Tu5) λan=>Qc R (pSl 4 d) λbo=>bif decide (a<wJ ((bo.length:Int)-1))then Qc R (pSl 4 d) λbp=>QkG R bp a λbt=>Qc R (pSl 4 d) λbu=>Qc R (Qi bu a) λbv=>Qc R bv[3]? λbz=>Qc R (pIw bz) λca=>am (wJ (bt+ca))else bif an.2.2.2.2 then Qc R (pSl 4 d) λcb=>Qlb R cb a λce=>Qkw R ce an.2.2.2.1 λcf i64=>am (wJ (cf+(if 60<i64 then i64 else 60)))else Qc R (Xj n q e r s t h u v g a Tu2) λao=>QkD R x e ao.1 ao.2 λcn co cp cq cr cs ct=>Qc R (Hr n k l o p cn co cp cq cr cs ct 60 (wJ (ak+60)) Tu3) λad=>QkV R ((i.length+[[D.sl 3 ad.1]].length)*24) ((j.length+[[Ql ad.2.1]].length)*8) (YI g k l o p q e r s t h u v x d k0 m c (i++[[D.sl 3 ad.1]]) (j++[[Ql ad.2.1]]))else jn (λ(cu:Int)=>(Qc R (Xj n q e r s t h u v g a Tu2) λap=>QkD R x e ap.1 ap.2 λdb dc dd de df dg dh=>Qc R (Hr n k l o p db dc dd de df dg dh 0 cu Tu3) λae=>QkV R ((i.length+[[D.sl 3 ae.1]].length)*24) ((j.length+[[Ql ae.2.1]].length)*8) (YI g k l o p q e r s t h u v x d k0 m c (i++[[D.sl 3 ae.1]]) (j++[[Ql ae.2.1]])):oP R)) λaq=>Qc R (Sz n h g Tu5) λar=>Qc R (pSl 4 d) λdi=>bif decide (a<wJ ((di.length:Int)-1))then Qc R (pSl 4 d) λdj=>QkG R dj a λdn=>Qc R (pSl 4 d) λdp=>Qc R (Qi dp a) λdq=>Qc R dq[3]? λdr=>Qc R (pIw dr) λds=>aq (wJ (dn+ds))else bif ar.2.2.2.2 then Qc R (pSl 4 d) λdt=>Qlb R dt a λdw=>Qkw R dw ar.2.2.2.1 λdx au=>aq (wJ (dx+(if 60<au then au else 60)))else Qc R (Xj n q e r s t h u v g a Tu2) λav=>QkD R x e av.1 av.2 λee ef eg eh ei ej ek=>Qc R (Hr n k l o p ee ef eg eh ei ej ek 0 (wJ (ak+60)) Tu3) λag=>QkV R ((i.length+[[D.sl 3 ag.1]].length)*24) ((j.length+[[Ql ag.2.1]].length)*8) (YI g k l o p q e r s t h u v x d k0 m c (i++[[D.sl 3 ag.1]]) (j++[[Ql ag.2.1]]))else k0 a b i j
def UG(c d h5 h6:LL)(h7:Int)(e f a g h i j:LL)(k0:Qls R):Qlu R
|0,_,_,_=>none
|m+1,h2,k,l=>Qa R (decide (h2<(a.length:Int))) λx=>bif x then QkF R a h2 λb o=>QkR R b λp=>YI n h2 c d h5 h6 h7 e f a g h i j o p (λu v q r=>UG c d h5 h6 h7 e f a g h i j k0 m (wJ (h2+1)) q r) n 0 k l else k0 h2 x k l
def Rs(a b c d:LL)(e:Int)(f g h i j k l:LL)(K:LL->LL->Int->oP R):oP R:=Qc R (We n a b c d e f g h i j k l some) λm=>bif m !=0 then K [] [] 1 else UG n a b c d e f g h i j k l (λq r o p=>K o p 0) n 0 [] []
def Xl(n:Nat)(b c:Int)(k0:Qlj R):Qlk R
|0,_,_=>none
|m+1,a,d=>bif decide (a<c)then Qb R [[Ql 1,Ql b,Ql a],[Ql 2,Ql b,Ql a]] λf=>Qc R (Y5 ((d.length+List.length f)*24)) λe=>Xl n b c k0 m (wJ (a+1)) (d++f)else k0 a (decide (a<c)) d
def X4(e:LL)(h2:Int)(k0:Qls R):Qlu R
|0,_,_,_=>none
|m+1,a,d,b=>bif decide (a<h2)then QkT R e a λc=>QkR R c λf=>Qc R (nz 2) λl=>Qb R [[Ql (wJ (Int.tdiv (b.length:Int) 2))]] λr=>Qc R (Y5 ((d.length+r.length)*8)) λo=>Qc R (pSl 4 f) λg=>Xl n a (g.length:Int) (λp q h=>X4 e h2 k0 m (wJ (a+1)) (d++r) h) n 0 b else k0 a (decide (a<h2)) d b
def YG(a q1 q5:LL)(K:LL->LL->oP R):oP R:=X4 n a (a.length:Int) (λd e b c=>K b c) n 0 q1 q5
def XW(n:Nat)(q1:LL)(a1 a2:Int)(K:Qlg R):oP R:=QkC R q1.length a1 q1 a1.toNat λb=>K (wJ (b+a2))
def Yj(n:Nat)(f b:LL)(a1 a2 c d e:Int)(K:Qlm R):oP R:=QkA R f a1 λa=>Qb R [[Ql a1,Ql a2,Ql (wJ (a+d)),Ql (wJ (wJ (a+c)+e))]] λj=>Qc R (Y5 ((b.length+j.length)*32)) λi=>K (b++j)
def Wd(a q1:LL)(a1:Int)(K:Qlg R):oP R:=QkK R a a1 λd=>Qc R (XW n q1 a1 (wJ ((d.length:Int)-1)) some) λe=>K e
def Xw(c:Int)(f:LL)(d:Int)(e g:LL)(k0:Qlj R):Qlk R
|0,_,_=>none
|m+1,a,h=>bif decide (a<d)then QkF R f a λb i=>Ql3 R b λj k=>Qc R (XW n e c a some) λl=>Qc R (XW n e c (wJ (a+1)) some) λo=>QkY R i j k λi64 p q=>Qc R (Yj n g h l o i64 p q some) λr=>Xw c f d e g k0 m (wJ (a+1)) r else k0 a (decide (a<d)) h
def QP(d:LL)(h2:Int)(e f:LL)(k0:Qlj R):Qlk R
|0,_,_=>none
|m+1,a,h5=>bif decide (a<h2)then QkT R d a λb=>QkR R b λg=>Qc R (pSl 4 g) λc=>Qc R (pSl 4 g) λi=>Qc R (slB c.length none (some (wJ ((i.length:Int)-1)))) λh=>Xw n a (cut c h) ((List.length (cut c h):Nat):Int) e f (λp q j=>QP d h2 e f k0 m (wJ (a+1)) j) n 0 h5 else k0 a (decide (a<h2)) h5
def Xu(f:LL)(c:Int)(d e g:LL)(k0:Qlj R):Qlk R
|0,_,_=>none
|m+1,a,h=>bif decide (a<c)then QkP R f a λi k l o=>Qc R (pIw i) λp=>QkK R e p λj=>Qc R (pIw i) λs=>Qc R (Wd n e d s some) λt=>Qc R (pIw k) λu=>Qc R (XW n d u 0 some) λv=>Qlb R j (wJ ((j.length:Int)-1)) λy=>QkY R y l o λz aa ab=>Qc R (Yj n g h t v z aa ab some) λac=>Xu f c d e g k0 m (wJ (a+1)) ac else k0 a (decide (a<c)) h
def YJ(a b q1 c d:LL)(K:Qlm R):oP R:=QP n a (a.length:Int) q1 c (λg h e=>Xu n b (b.length:Int) q1 a c (λi j f=>K f) n 0 e) n 0 d
def U6(n:Nat)(h2:LL)(e:Int)(k0:oP R)(k1:Qlo R):Qlq R
|0,_,_=>none
|m+1,a,b=>bif decide (b<e)then QkH R h2 b λg h i=>Qc R (pIw g) λc=>Qd R (!(decide (c<=a))) (pIw h) λd=>Qa R (Q8 (decide (c<=a)) (decide (d<(-65536:Int)))) λp=>QkE R h (!p) i λj k=>Qa R (Q8 p (decide (j>=k))) λq=>Qd R (!q) (pIw i) λl=>bif Q8 q (decide (l>65536))then k0 else Qc R (pIw g) λo=>U6 n h2 e k0 k1 m o (wJ (b+1))else k1 a b (decide (b<e))
def Jh(a0:LL)(K:Qll R):oP R:=U6 n a0 (a0.length:Int) (K false) (λa b c=>K true) n (-1:Int) 0
def Uc(n:Nat)(h2:Int)(c:LL)(a:Int)(k0:oP R)(k1:Qlh R):Qli R
|0,_=>none
|m+1,h5=>bif decide (h5<a)then QkF R c h5 λb d=>Qc R b[2]? λe=>Qkw R e d λf g=>bif decide (wJ (f-g)>h2)then k0 else Uc n h2 c a k0 k1 m (wJ (h5+1))else k1 h5 (decide (h5<a))
def HX(a0:Int)(a1:LL)(K:Qll R):oP R:=Qa R (Q8 (decide (a0<1)) (decide (a0>7200))) λd=>Qd R (!d) (Jh n a1 some) λa=>bif Q8 d (!a)then K false else Uc n a0 a1 (a1.length:Int) (K false) (λb c=>K true) n 0
def Yi(n:Nat)(a b c d e f:Int)(g:Bool)(h:Int)(K:Qll R):oP R:=K (Q8 g (decide (wJ ((if b<wJ (f+d)then wJ (f+d)else b)-(if wJ (e+c)<a then wJ (e+c)else a))>h)))
def QZ(e:LL)(b f:Int)(c g d:D)(h i j:Int)(k0:Int->Bool->Bool->oP R):Nat->Int->Bool->oP R
|0,_,_=>none
|m+1,a,k=>bif decide (a<b)then QkH R e a λq r s=>Qkw R c q λo p=>QkE R r (o==p) d λt u=>bif Q9 (o==p) (decide (wJ (f+t)<=u))then Qc R (pIw c) λab=>Qkw R g d λv x=>Qc R (pIw q) λac=>Qkw R r s λy z=>Qc R (Yi n v x y z i j k h some) λaa=>QZ e b f c g d h i j k0 m (wJ (a+1)) aa else QZ e b f c g d h i j k0 m (wJ (a+1)) k else k0 a (decide (a<b)) k
def Xy(b:LL)(h5 c d e:Int)(f:LL)(g h:Int)(k0:Int->Bool->Bool->oP R):Nat->Int->Bool->oP R
|0,_,_=>none
|m+1,h6,i=>bif decide (h6<h5)then QkH R b h6 λk l o=>QkO R f c λj=>QZ n j (j.length:Int) d k l o e g h (λs t r=>Xy b h5 c d e f g h k0 m (wJ (h6+1)) r) n 0 i else k0 h6 (decide (h6<h5)) i
def ZY(c:Int)(a:LL)(d e f g h:Int)(i:Bool)(K:Qll R):oP R:=QkO R a d λb=>Xy n b (b.length:Int) e f c a g h (λm o l=>K l) n 0 i
def XN(b:LL)(h2 c:Int)(k0:oP R)(k1:Qlh R):Qli R
|0,_=>none
|m+1,a=>bif decide (a<h2)then QkO R b a λf=>Qc R (HX n c f some) λg=>bif !g then k0 else XN b h2 c k0 k1 m (wJ (a+1))else k1 a (decide (a<h2))
def Xq(d:LL)(c e:Int)(f:LL)(k0:oP R)(k1:Qlh R):Qli R
|0,_=>none
|m+1,a=>bif decide (a<c)then QkP R d a λg h i j=>QkY R g h i λk l o=>QkN R j g (Qc R (pIw h) λu=>Qkw R i j λp q=>Qc R (ZY n e f k l o p q false some) λr=>bif r then k0 else Xq d c e f k0 k1 m (wJ (a+1)))else k1 a (decide (a<c))
def ZO(b:Int)(a c:LL)(K:Qll R):oP R:=XN n a (a.length:Int) b (K false) (λd e=>Xq n c (c.length:Int) b a (K false) (λf g=>K true) n 0) n 0
def Xg(n:Nat)(q1:LL)(a1 a2:Int)(K:Qlg R):oP R:=QkC R q1.length a1 q1 a1.toNat λb=>K (wJ (b+a2))
def Yw(n:Nat)(a0:Int)(K:Qlg R):oP R:=K (wJ (2*a0))
def Uy(n:Nat)(a0:Int)(K:Qlg R):oP R:=K (wJ (wJ (2*a0)+1))
def Xs(n:Nat)(a:LL)(a1 a2 b c d e:Int)(K:Qlm R):oP R:=Qb R [[Ql a1,Ql a2,Ql b,Ql c,Ql d,Ql e]] λg=>Qc R (Y5 ((a.length+g.length)*48)) λf=>K (a++g)
def Va(a q1:LL)(a1:Int)(K:Qlg R):oP R:=QkK R a a1 λd=>Qc R (Xg n q1 a1 (wJ ((d.length:Int)-1)) some) λe=>K e
def QJ(f:Int)(g:LL)(c:Int)(d h:D)(i j:LL)(k0:Qlj R):Qlk R
|0,_,_=>none
|m+1,a,k=>bif decide (a<c)then QkF R g a λe p=>Ql3 R e λq r=>Qc R (Xg n i f a some) λb=>QkA R j b λl=>Qc R (Yw n b some) λu=>Qc R (Uy n b some) λv=>Qkw R p d λx y=>Qc R (Xs n k 1 u v l (wJ (l+x)) y some) λo=>Qc R (pSl 4 h) λz=>bif decide (a<wJ ((z.length:Int)-1))then Qc R (Uy n b some) λaa=>Qc R (Yw n (wJ (b+1)) some) λab=>QkY R q r d λac ad ae=>Qc R (Xs n o 2 aa ab ac ad ae some) λag=>QJ f g c d h i j k0 m (wJ (a+1)) ag else QJ f g c d h i j k0 m (wJ (a+1)) o else k0 a (decide (a<c)) k
def QU(c:LL)(h2:Int)(d e:LL)(k0:Qlj R):Qlk R
|0,_,_=>none
|m+1,a,h6=>bif decide (a<h2)then QkT R c a λb=>Ql3 R b λh f=>Qc R (pSl 4 f) λg=>QJ n a g (g.length:Int) h f d e (λl o i=>QU c h2 d e k0 m (wJ (a+1)) i) n 0 h6 else k0 a (decide (a<h2)) h6
def QW(e:LL)(c:Int)(d:LL)(k0:Qlj R):Qlk R
|0,_,_=>none
|m+1,b,f=>bif decide (b<c)then Qky R e b λa g h i=>QkJ R a λj k l=>Qc R a[6]? λo=>Qkw R g h λp q=>Qc R (Xg n d p q some) λr=>Qkw R i j λs t=>Qc R (Xg n d s t some) λu=>Qc R (Uy n r some) λv=>Qc R (Yw n u some) λx=>QkY R k l o λy z aa=>Qc R (Xs n f 3 v x y z aa some) λab=>QW e c d k0 m (wJ (b+1)) ab else k0 b (decide (b<c)) f
def QV(e:LL)(c:Int)(d f:LL)(k0:Qlj R):Qlk R
|0,_,_=>none
|m+1,a,g=>bif decide (a<c)then QkP R e a λh i j k=>Qc R (pIw h) λl=>Qc R (Va n f d l some) λo=>Qc R (Uy n o some) λp=>Qc R (pIw i) λq=>Qc R (Xg n d q 0 some) λr=>Qc R (Yw n r some) λs=>Qkw R j k λt u=>Qc R (Xs n g 4 p s t u 1 some) λv=>QV e c d f k0 m (wJ (a+1)) v else k0 a (decide (a<c)) g
def QX(e:LL)(c:Int)(d:LL)(k0:Qlj R):Qlk R
|0,_,_=>none
|m+1,a,f=>bif decide (a<c)then QkZ R e a λh i j k g=>Qkw R h i λl o=>Qc R (Xg n d l o some) λp=>Qc R (Yw n p some) λq=>Qkw R j k λr s=>Qc R (Xg n d r s some) λt=>Qc R (Yw n t some) λu=>Qc R (pIw g) λv=>Qc R (pIw g) λx=>Qc R (Xs n f 5 q u v x 0 some) λy=>QX e c d k0 m (wJ (a+1)) y else k0 a (decide (a<c)) f
def Yy(a b c d q1 e f:LL)(K:Qlm R):oP R:=QU n a (a.length:Int) q1 e (λk l g=>QW n b (b.length:Int) q1 (λm o h=>QV n c (c.length:Int) q1 a (λp q i=>QX n d (d.length:Int) q1 (λr s j=>K j) n 0 i) n 0 h) n 0 g) n 0 f
def XH(n:Nat)(a:Int)(q1:Int->Bool)(K:(Int->Bool)->oP R):oP R:=K (Q7K q1 a true)
def Xc(e:LL)(b f:Int)(c g d:D)(k0:QlE R):QlF R
|0,_,_=>none
|m+1,a,h=>bif decide (a<b)then QkH R e a λl o p=>Qkw R c l λj k=>QkE R o (j==k) d λq r=>bif Q9 (j==k) (decide (wJ (f+q)<=r))then Qc R (pIw c) λs=>QkN R g d (QkN R l o (Qc R (pIw p) λz=>gb true (XH n s h some) (λ_=>false) λt=>Xc e b f c g d k0 m (wJ (a+1)) t))else Xc e b f c g d k0 m (wJ (a+1)) h else k0 a (decide (a<b)) h
def Xz(b:LL)(h5 c d:Int)(e:LL)(k0:QlE R):QlF R
|0,_,_=>none
|m+1,h6,f=>bif decide (h6<h5)then QkH R b h6 λh i j=>QkO R e c λg=>Xc n g (g.length:Int) d h i j (λp q o=>Xz b h5 c d e k0 m (wJ (h6+1)) o) n 0 f else k0 h6 (decide (h6<h5)) f
def ZZ(a:LL)(c d e:Int)(q5:Int->Bool)(K:(Int->Bool)->oP R):oP R:=QkO R a c λb=>Xz n b (b.length:Int) d e a (λi j h=>K h) n 0 q5
def QL(a h2:Int)(e:LL)(b:Int)(f:LL)(k0:QlE R):QlF R
|0,_,_=>none
|m+1,h5,h6=>bif decide (h5<b)then QkP R e h5 λg h k l=>Qc R (pIw g) λd=>Qd R (d==a) (pIw h) λi=>Qa R (Q9 (d==a) (i==h2)) λu=>Qd R (!u) (pIw g) λj=>Qd R (!u&&j==h2) (pIw h) λo=>bif Q8 u (Q9 (j==h2) (o==a))then QkY R g h k λp q r=>Qc R (pIw l) λt=>gb true (ZZ n f p q r h6 some) (λ_=>false) λs=>QL a h2 e b f k0 m (wJ (h5+1)) s else QL a h2 e b f k0 m (wJ (h5+1)) h6 else k0 h5 (decide (h5<b)) h6
def Y9(b a:LL)(a1 a2:Int)(K:(Int->Bool)->oP R):oP R:=QL n a1 a2 a (a.length:Int) b (λd e c=>K c) n 0 λ_=>false
def Yd(n:Nat)(c:LL)(h2:Int)(h5:Int->Bool)(k0:Qlj R):Qlk R
|0,_,_=>none
|m+1,a,b=>bif decide (a<h2)then QkH R c a λe f g=>Qc R (pIw e) λh=>bif !(h5 h)then Qc R (Y5 ((b.length+[[e,f,g]].length)*24)) λi=>Yd n c h2 h5 k0 m (wJ (a+1)) (b++[[e,f,g]])else Yd n c h2 h5 k0 m (wJ (a+1)) b else k0 a (decide (a<h2)) b
def Um(a0:LL)(a:Int->Bool)(K:LL->(Int->Bool)->oP R):oP R:=Yd n a0 (a0.length:Int) a (λc d b=>K b a) n 0 []
def UQ(n:Nat)(a0:Int)(K:Qll R):oP R:=K (Q9 (decide (a0>=1)) (decide (a0<=7200)))
def Hg(n:Nat)(a0 a1:Int)(K:Qlg R):oP R:=bif decide (a1<1)then K 0 else Qc R (nz a1) λa=>Qb R (Int.tmod a0 a1) λb=>bif decide (b<0)then K (wJ (b+a1))else K b
def Jn(n:Nat)(a1 a2 a:Int)(K:Qlm R):oP R:=bif decide (a<1)then K []else bif decide (a>=a1)then Qc R (Y5 ([[Ql 0,Ql a1]].length*16)) λb=>K [[Ql 0,Ql a1]]else Qb R (wJ (a2+a)) λf=>bif decide (f<=a1)then Qc R (Y5 ([[Ql a2,Ql f]].length*16)) λc=>K [[Ql a2,Ql f]]else Qb R [[Ql 0,Ql (wJ (f-a1))],[Ql a2,Ql a1]] λe=>Qc R (Y5 (List.length e*16)) λd=>K e
def P2(a0 a1 a2:Int)(K:Qlp R):oP R:=Qc R (UQ n a0 some) λa=>bif !a then K [] 4 else Qc R (Hg n a1 a0 some) λb=>Qc R (Jn n a0 b a2 some) λc=>K c 0
def U9(n:Nat)(h2:Int)(d:LL)(h5:Int)(k0:oP R)(k1:Qlo R):Qlq R
|0,_,_=>none
|m+1,a,h6=>bif decide (h6<h5)then QkB R d h6 λf c=>Qc R (pIw f) λb=>Qa R (decide (b<=a)) λk=>QkE R f (!k) c λg h=>Qa R (Q8 k (decide (g>=h))) λl=>Qd R (!l) (pIw c) λi=>bif Q8 l (decide (i>h2))then k0 else Qc R (pIw c) λj=>U9 n h2 d h5 k0 k1 m j (wJ (h6+1))else k1 a h6 (decide (h6<h5))
def Gu(a0:Int)(a1:LL)(K:Qll R):oP R:=Qc R (UQ n a0 some) λa=>bif !a then K false else U9 n a0 a1 (a1.length:Int) (K false) (λb c d=>K true) n (-1:Int) 0
def U2(h2:Int)(b:LL)(a:Int)(k0:oP R)(k1:Qlh R):Qli R
|0,_=>none
|m+1,h5=>bif decide (h5<a)then Qla R b h5 λd=>Qc R (Gu n h2 d some) λe=>bif !e then k0 else U2 h2 b a k0 k1 m (wJ (h5+1))else k1 h5 (decide (h5<a))
def T2(a0:Int)(a1:LL)(K:Qlg R):oP R:=Qc R (UQ n a0 some) λa=>bif !a then K 4 else U2 n a0 a1 (a1.length:Int) (K 1) (λb c=>K 0) n 0
def QT(n:Nat)(a1:Int)(K:Qlm R):oP R:=bif decide (a1<0)then none else Qb R (wJ (a1-wJ (0-0))) λd=>bif decide (d>0)then Qc R (slB 0 none (some 0)) λa=>gb true (bif decide (0<d)then some ()else none) () λb=>Qc R (Y5 (Int.toNat d*16)) λc=>K []else K []
def Qv(n:Nat)(b:LL)(a:Int)(k0:Qlo R):Qlq R
|0,_,_=>none
|m+1,h2,h5=>bif decide (h5<a)then Qla R b h5 λc=>Qb R (wJ (h2+(c.length:Int))) λf=>bif decide (f<0)then none else Qv n b a k0 m f (wJ (h5+1))else k0 h2 h5 (decide (h5<a))
def Qw(n:Nat)(d:LL)(b:Int)(k0:Qlj R):Qlk R
|0,_,_=>none
|m+1,a,c=>bif decide (a<b)then Qla R d a λe=>Qc R (Y5 ((c.length+e.length)*16)) λh=>Qw n d b k0 m (wJ (a+1)) (c++e)else k0 a (decide (a<b)) c
def X0(a0:LL)(K:Qlm R):oP R:=Qv n a0 (a0.length:Int) (λa d e=>Qc R (QT n a some) λb=>Qw n a0 (a0.length:Int) (λf g c=>K c) n 0 b) n 0 0
def Mo(n:Nat)(a0:Int)(K:Qlg R):oP R:=bif decide (a0>=65536)then Qc R (Ac 16) λe=>bif decide (shR .u32 a0 16>=256)then Qc R (Ac 8) λf=>Qc R (Zj Qko (IntKind.wrap .u8 (shR .u32 (shR .u32 a0 16) 8))) λa=>K (wJ (wJ (16+8)+wJ a))else Qc R (Zj Qko (IntKind.wrap .u8 (shR .u32 a0 16))) λb=>K (wJ (16+wJ b))else bif decide (a0>=256)then Qc R (Ac 8) λg=>Qc R (Zj Qko (IntKind.wrap .u8 (shR .u32 a0 8))) λc=>K (wJ (wJ (0+8)+wJ c))else Qc R (Zj Qko (IntKind.wrap .u8 a0)) λd=>K (wJ (0+wJ d))
def NL(n:Nat)(a0:Int)(K:Qlg R):oP R:=bif decide (a0>=4294967296)then Qc R (Ac 32) λi=>bif decide (shR .u64 a0 32>=65536)then Qc R (Ac 16) λj=>bif decide (shR .u64 (shR .u64 a0 32) 16>=256)then Qc R (Ac 8) λk=>Qc R (Zj Qko (IntKind.wrap .u8 (shR .u64 (shR .u64 (shR .u64 a0 32) 16) 8))) λa=>K (wJ (wJ (wJ (32+16)+8)+wJ a))else Qc R (Zj Qko (IntKind.wrap .u8 (shR .u64 (shR .u64 a0 32) 16))) λb=>K (wJ (wJ (32+16)+wJ b))else bif decide (shR .u64 a0 32>=256)then Qc R (Ac 8) λl=>Qc R (Zj Qko (IntKind.wrap .u8 (shR .u64 (shR .u64 a0 32) 8))) λc=>K (wJ (wJ (32+8)+wJ c))else Qc R (Zj Qko (IntKind.wrap .u8 (shR .u64 a0 32))) λd=>K (wJ (32+wJ d))else bif decide (a0>=65536)then Qc R (Ac 16) λm=>bif decide (shR .u64 a0 16>=256)then Qc R (Ac 8) λo=>Qc R (Zj Qko (IntKind.wrap .u8 (shR .u64 (shR .u64 a0 16) 8))) λe=>K (wJ (wJ (wJ (0+16)+8)+wJ e))else Qc R (Zj Qko (IntKind.wrap .u8 (shR .u64 a0 16))) λf=>K (wJ (wJ (0+16)+wJ f))else bif decide (a0>=256)then Qc R (Ac 8) λp=>Qc R (Zj Qko (IntKind.wrap .u8 (shR .u64 a0 8))) λg=>K (wJ (wJ (0+8)+wJ g))else Qc R (Zj Qko (IntKind.wrap .u8 a0)) λh=>K (wJ (0+wJ h))
def SP(a0:Int)(K:Qlg R):oP R:=bif false then Qc R (Mo n (IntKind.wrap .u32 a0) some) λa=>K a else Qc R (NL n a0 some) λb=>K b
def GE(n:Nat)(a0:Int)(K:Qll R):oP R:=K (a0 !=a0)
def GS(a0 a1:Int)(K:Qlg R):oP R:=Qc R (GE n a0 some) λb=>Qc R (GE n a1 some) λa=>bif b then bif a then K 0 else K (-1:Int)else bif a then K 1 else bif decide (a0<a1)then K (-1:Int)else bif decide (a0>a1)then K 1 else K 0
def UR(a d b e:Int)(K:Qlg R):oP R:=Qc R (GS n a b some) λc=>K c
def Qx(h5:Int)(k0:Qlj R):Qlk R
|0,_,_=>none
|m+1,a,b=>Qa R (decide (a>h5)) λae=>Qd R ae (inB b.length a) λy=>Qd R ae b[a.toNat]? λf=>Qd R ae f[0]? λk=>Qd R ae f[1]? λl=>Qb R (wJ (a-1)) λai=>Qd R ae (inB b.length ai) λz=>Qb R (Int.toNat ai) λaj=>Qd R ae b[aj]? λg=>Qd R ae g[0]? λo=>Qd R ae g[1]? λp=>QkE R k ae l λq r=>QkE R o ae p λs t=>Qd R ae (UR n q r s t some) λh=>Qa R (Q9 ae (decide (h<0))) λag=>bif ag then Qkz R b.length ai b aj λi=>Ql8 R i λc d=>Qkz R b.length a b a.toNat λj=>Ql8 R j λu v=>Qkz R b.length a b a.toNat λe=>Qb R (List.set b a.toNat (List.set (List.set e 0 c) 1 d)) λah=>Qkz R (List.length ah) ai ah aj λx=>Qx h5 k0 m ai (List.set ah aj (List.set (List.set x 0 u) 1 v))else k0 a ag b
def Qn(b h2:Int)(k0:Qlj R):Qlk R
|0,_,_=>none
|m+1,a,c=>bif decide (a<h2)then Qx n b (λe f d=>Qn b h2 k0 m (wJ (a+1)) d) n a c else k0 a (decide (a<h2)) c
def XB(a:LL)(a1 a2:Int)(K:Qlm R):oP R:=Qn n a1 a2 (λc d b=>K b) n (wJ (a1+1)) a
def XO(a h2 c:Int)(h6:LL)(k0:Qlm R):Nat->oP R
|0=>none
|m+1=>bif decide (wJ (h2-a)<=12)then Qc R (XB n h6 a h2 some) λb=>Qc R (SY b h6.length) λd=>k0 b else bif c==0 then none else bif !true then none else none
def XY(a:LL)(a1 a2 b:Int)(K:Qlm R):oP R:=XO n a1 a2 b a (λc=>K c) n
def QM(a:LL)(K:Qlm R):oP R:=Qc R (SP n (IntKind.wrap .u64 (a.length:Int)) some) λc=>Qc R (XY n a 0 (a.length:Int) c some) λb=>Qc R (SY b a.length) λd=>K b
def Xp(n:Nat)(b:Int)(h6:LL)(k0:Qlj R):Qlk R
|0,_,_=>none
|m+1,a,h5=>bif decide (a<b)then Qkz R h6.length a h6 a.toNat λe=>Ql8 R e λc d=>Qb R (wJ ((h5.length:Int)-1)) λx=>Qa R (decide (x>=0)) λv=>Qd R v (pIw c) λh=>Qd R v (inB h5.length x) λr=>Qb R (Int.toNat x) λy=>Qd R v h5[y]? λi=>Qd R v i[1]? λj=>Qd R v (pIw j) λk=>bif Q9 v (decide (h<=k))then Qkz R h5.length x h5 y λl=>Qc R l[1]? λo=>Qkw R o d λf g=>Qkz R h5.length x h5 y λp=>Xp n b h6 k0 m (wJ (a+1)) (List.set h5 y (List.set p 1 (Ql (if f<g then g else f))))else Qc R (Y5 ((h5.length+[[c,d]].length)*16)) λu=>Xp n b h6 k0 m (wJ (a+1)) (h5++[[c,d]])else k0 a (decide (a<b)) h5
def HF(b:LL)(K:LL->LL->oP R):oP R:=Qc R (QM n b some) λa=>Qc R (SY a b.length) λd=>Xp n (a.length:Int) a (λe f c=>K c a) n 0 []
def T8(a0:Int)(a1 a2:LL)(K:Qlp R):oP R:=Qb R [[D.sl 2 a1],[D.sl 2 a2]] λd=>Qc R (T2 n a0 d some) λa=>bif a !=0 then K [] a else Qc R (X0 n d some) λb=>Qc R (Lb [b]) λe=>gb true (HF n b Tu2) ([],[]) λc=>Qc R (SY c.2 b.length) λf=>K c.1 0
def Zb(c g h d e:Int)(i:LL)(K:Qlm R):oP R:=Qc R (P2 n e (wJ (wJ (c-d)+1)) (wJ (wJ (wJ (wJ (g-h)-1)-wJ (wJ (c-d)+1))+1)) Tu2) λa=>Qc R (T8 n e i a.1 Tu2) λf=>Qc R (Lb [f.1]) λj=>K f.1
def QG(b:Int)(k0:LL->LL->Bool->LL->oP R):Nat->LL->LL->LL->oP R
|0,_,_,_=>none
|m+1,a,h2,d=>Qa R (Q9 (decide ((a.length:Int)>0)) (decide ((h2.length:Int)>0))) λao=>bif ao then QkH R a 0 λc6 j k=>QkH R h2 0 λc ar l=>Qkw R c6 c λo p=>bif o==p then Qc R (pIw c6) λam=>Qkw R j k λq r=>Qc R (pIw c) λan=>Qkw R ar l λs t=>Qc R (Zb n q r s t b d some) λe=>Qkw R c6 c λu v=>bif decide (u<=v)then Qc R (slB a.length (some 1) none) λh=>Qkw R c6 c λx y=>bif decide (x>=y)then Qc R (slB h2.length (some 1) none) λz=>QG b k0 m (cut a h) (cut h2 z) e else QG b k0 m (cut a h) h2 e else Qkw R c6 c λaa ab=>bif decide (aa>=ab)then Qc R (slB h2.length (some 1) none) λac=>QG b k0 m a (cut h2 ac) e else QG b k0 m a h2 e else Qkw R c6 c λad ae=>bif decide (ad<=ae)then Qc R (slB a.length (some 1) none) λi=>Qkw R c6 c λag ah=>bif decide (ag>=ah)then Qc R (slB h2.length (some 1) none) λai=>QG b k0 m (cut a i) (cut h2 ai) d else QG b k0 m (cut a i) h2 d else Qkw R c6 c λaj ak=>bif decide (aj>=ak)then Qc R (slB h2.length (some 1) none) λal=>QG b k0 m a (cut h2 al) d else QG b k0 m a h2 d else k0 a h2 ao d
def KN(a0 a1:LL)(a:Int)(b:LL)(K:Qlm R):oP R:=QG n a (λd e f c=>K c) n a0 a1 b
def Jf(a0:Int)(a1 a2:LL)(K:Qlp R):oP R:=jn (λ(d:Bool)=>(bif d then K [] 4 else jn (λ(e:Bool)=>(bif e then K [] 1 else Qc R (KN n a1 a2 a0 [] some) λf=>K f 0:oP R)) λa=>Qc R (Jh n a1 some) λb=>bif !b then a (!b)else Qc R (Jh n a2 some) λg=>a (!g):oP R)) λc=>bif decide (a0<1)then c (decide (a0<1))else c (decide (a0>7200))
def PF(n:Nat)(a b:Int)(K:Qlg R):oP R:=K (wJ (b-a))
def ZU(h2:LL)(b:Int)(k0:Qlo R):Qlq R
|0,_,_=>none
|m+1,c,a=>bif decide (a<b)then QkB R h2 a λe f=>Qkw R e f λg h=>Qc R (PF n g h some) λi=>ZU h2 b k0 m (wJ (c+i)) (wJ (a+1))else k0 c a (decide (a<b))
def Rb(a0:LL)(K:Qlg R):oP R:=ZU n a0 (a0.length:Int) (λa b c=>K a) n 0 0
def Td(a0:Int)(a1:LL)(K:Qlg R):oP R:=Qc R (Gu n a0 a1 some) λa=>bif !a then K 0 else Qc R (Rb n a1 some) λb=>K b
def ZD(n:Nat)(b:Int)(e:LL)(c:Int)(k0:Qlj R):Qlk R
|0,_,_=>none
|m+1,a,d=>bif decide (a<c)then QkB R e a λi j=>Qkw R j i λg h=>Qb R [[Ql g,Ql (wJ (wJ (h+b)-1))]] λl=>Qc R (Y5 ((d.length+l.length)*16)) λk=>ZD n b e c k0 m (wJ (a+1)) (d++l)else k0 a (decide (a<c)) d
def YL(n:Nat)(b c:Int)(d:LL)(k0:Qlj R):Qlk R
|0,_,_=>none
|m+1,a,e=>bif decide (a<c)then Qkz R d.length a d a.toNat λf=>Ql8 R f λi j=>Qkw R j i λg h=>Qb R [[Ql g,Ql (wJ (wJ (h+b)-1))]] λo=>Qc R (Y5 ((e.length+o.length)*16)) λl=>YL n b c d k0 m (wJ (a+1)) (e++o)else k0 a (decide (a<c)) e
def WJ(a0:Int)(a1 a2:LL)(K:Qlp R):oP R:=Qc R (Jf n a0 a1 a2 Tu2) λa=>bif a.2 !=0 then K [] a.2 else Qc R (Td n a0 a.1 some) λh=>bif h==a0 then K [] 13 else Qb R (a.1.length:Int) λai=>Qa R (decide (ai>1)) λg=>Ql1 R a.1.length 0 g a.1 (Int.toNat 0) λc5=>Qd R g (pIw c5) λb=>Qa R (Q9 g (b==0)) λad=>Qb R (wJ (ai-1)) λae=>Qd R ad (inB a.1.length ae) λu=>Qb R (Int.toNat ae) λah=>Qd R ad a.1[ah]? λj=>Qd R ad j[1]? λk=>Qd R ad (pIw k) λl=>bif Q9 ad (l==a0)then QkS R a.1.length ae a.1 ah λc=>QkS R a.1.length 0 a.1 (Int.toNat 0) λd=>Qkz R a.1.length ae a.1 ah λe=>Qb R (List.set a.1 ah (List.set e 1 (Ql (wJ (c+d))))) λag=>Qc R (slB (List.length ag) (some 1) none) λf=>ZD n a0 (cut ag f) ((List.length (cut ag f):Nat):Int) (λz aa r=>K r 0) n 0 []else YL n a0 ai a.1 (λab ac s=>K s 0) n 0 []
def QQ(c d:Int)(e:LL)(b:Int)(k0:Qlj R):Qlk R
|0,_,_=>none
|m+1,a,f=>bif decide (a<b)then QkB R e a λh i=>Qc R (Yw n c some) λj=>Qc R (Yw n d some) λk=>Qkw R h i λl o=>Qc R (Xs n f 6 j k l o 0 some) λp=>QQ c d e b k0 m (wJ (a+1)) p else k0 a (decide (a<b)) f
def X7(e h:Int)(b i:LL)(k0:Qlr R)(k1:Qlj R):Qlk R
|0,_,_=>none
|m+1,a,g=>Qa R (decide (a<(b.length:Int))) λc=>bif c then gb true (Y9 n b i e a some) (λ_=>false) λk=>QkO R b e λp=>gb true (Um n p k Tu2) ([],λ_=>false) λj=>QkO R b a λs=>gb true (Um n s j.2 Tu2) ([],λ_=>false) λt=>Qc R (WJ n h j.1 t.1 Tu2) λf=>bif f.2 !=0 then k0 f.2 g else QQ n e a f.1 (f.1.length:Int) (λv x u=>X7 e h b i k0 k1 m (wJ (a+1)) u) n 0 g else k1 a c g
def QH(a b:Int)(c d:LL)(k0:Qlr R)(k1:Qlj R):Qlk R
|0,_,_=>none
|m+1,h2,h5=>bif decide (h2<a)then X7 n h2 b c d (λe f=>k0 e f) (λh i g=>QH a b c d k0 k1 m (wJ (h2+1)) g) n (wJ (h2+1)) h5 else k1 h2 (decide (h2<a)) h5
def Yp(b:Int)(a c d:LL)(K:Qlr R):oP R:=QH n (a.length:Int) b a c (λe f=>K e f) (λh i g=>K 0 g) n 0 d
def Ef(n:Nat)(a0 a1:Int)(K:Qlg R):oP R:=bif decide (a1<1)then K 0 else Qc R (nz a1) λa=>Qb R (Int.tmod a0 a1) λb=>bif decide (b<0)then K (wJ (b+a1))else K b
def Z3(n:Nat)(d:LL)(k0:oP R)(k1:Qlh R):Qli R
|0,_=>none
|m+1,h2=>Qa R (decide (h2<(d.length:Int))) λad=>bif ad then QkA R d h2 λa=>Qa R (!(decide (a<0))&&decide (h2>0)) λab=>Ql2 R d h2 ab λb=>Ql2 R d (wJ (h2-1)) ab λc=>Qa R (Q8 (decide (a<0)) (Q9 (decide (h2>0)) (decide (b<=c)))) λaa=>QkX R d h2 (!aa) λe=>Qa R (Q8 aa (decide (e<(-65536:Int)))) λz=>Qd R (!z) (Qi d h2) λq=>Qd R (!z) q[2]? λr=>Qd R (!z) (pIw r) λf=>Qa R (Q8 z (decide (f>65536))) λac=>QkX R d h2 (!ac) λu=>Qd R (!ac) (Qi d h2) λv=>Qd R (!ac) v[2]? λx=>Qd R (!ac) (pIw x) λy=>bif Q8 ac (decide (u>=y))then k0 else Z3 n d k0 k1 m (wJ (h2+1))else k1 h2 ad
def JF(a0:LL)(K:Qll R):oP R:=Z3 n a0 (K false) (λa b=>K true) n 0
def Uo(n:Nat)(b:LL)(h2:Int)(k0:D->D->D->oP R)(k1:Qlh R):Qli R
|0,_=>none
|m+1,a=>Qa R (decide (a<(b.length:Int))) λj=>bif j then QkA R b a λf=>bif f==h2 then QkH R b a λg h i=>k0 g h i else Uo n b h2 k0 k1 m (wJ (a+1))else k1 a j
def Aq(a0:LL)(a1:Int)(K:D->D->D->Bool->oP R):oP R:=Uo n a0 a1 (λa b c=>K a b c true) (λd e=>K (Ql 0) (Ql 0) (Ql 0) false) n 0
def Zd(b:Int)(f:LL)(g d:Int)(h:D)(k0:Qlj R):Qlk R
|0,_,_=>none
|m+1,a,c=>Qa R (Q9 (decide (a<d)) (decide (a<b))) λq=>bif q then Qlb R f g λj=>Qkw R j h λk l=>Qc R (Ef n (wJ (wJ (wJ (k-l)+1)+a)) b some) λe=>Qkz R c.length e c e.toNat λo=>Zd b f g d h k0 m (wJ (a+1)) (List.set c e.toNat (List.set o 0 (D.bool true)))else k0 a q c
def Yh(h6:Int)(h7 c:LL)(k0:Qlj R):Qlk R
|0,_,_=>none
|m+1,a,d=>Qa R (decide (a<(h7.length:Int))) λh=>bif h then QkA R h7 a λg=>gb true (Aq n c g Tu4) (.bool false,.bool false,.bool false,false) λb=>bif !b.2.2.2 then Yh h6 h7 c k0 m (wJ (a+1)) d else Qc R (Qi h7 a) λl=>QkQ R l λp=>Qlb R h7 a λr=>QkY R r b.2.2.1 b.2.1 λs t u=>Zd n h6 h7 a (wJ (wJ (wJ (wJ (p-s)+t)-u)-1)) b.2.2.1 (λx y v=>Yh h6 h7 c k0 m (wJ (a+1)) v) n 0 d else k0 a h d
def KV(a0:Int)(a1 a2:LL)(K:Qlp R):oP R:=Qc R (VI n a0 1 7200 some) λb=>bif !b then K [] 4 else Qc R (JF n a1 some) λa=>Qd R (!(!a)) (JF n a2 some) λc=>bif Q8 (!a) (!c)then K [] 1 else gb true (bif decide (0<=a0)&&decide (a0<=a0)then some ()else none) () λe=>Qc R (Y5 (Int.toNat a0*1)) λf=>Yh n a0 a1 a2 (λg h d=>K d 0) n 0 (List.replicate a0.toNat [D.bool false])
def WC(n:Nat)(h2:Int)(a:LL)(k0:Qlo R):Qlq R
|0,_,_=>none
|m+1,b,h5=>bif decide (h5<h2)then Qkx R a h5 λd=>Qc R (PD d) λe=>bif e then WC n h2 a k0 m (wJ (b+1)) (wJ (h5+1))else WC n h2 a k0 m b (wJ (h5+1))else k0 b h5 (decide (h5<h2))
def WL(n:Nat)(a:Int)(c:LL)(d:Int)(k0:Qlh R):Qli R
|0,_=>none
|m+1,b=>Qc R (nz a) λh=>Qkx R c (Int.tmod (wJ (d+b)) a) λg=>Qc R (PD g) λe=>bif e then WL n a c d k0 m (wJ (b+1))else k0 b e
def Yt(b:Int)(c:LL)(k0:Qlj R):Qlk R
|0,_,_=>none
|m+1,a,e=>bif decide (a<b)then Qkx R c a λh=>Qc R (PD h) λd=>Qd R (!(!d)) (Ef n (wJ (a-1)) b some) λi=>QkL R c i (!(!d)) λk=>Qd R (!(!d)) (PD k) λl=>bif Q8 (!d) l then Yt b c k0 m (wJ (a+1)) e else WL n b c a (λf o=>Qb R [[Ql (wJ (a+f)),Ql (wJ (wJ (a+b)-1))]] λq=>Qc R (Y5 ((e.length+q.length)*16)) λp=>Yt b c k0 m (wJ (a+1)) (e++q)) n 0 else k0 a (decide (a<b)) e
def Hb(a0:Int)(a1 a2:LL)(K:Qlp R):oP R:=Qc R (KV n a0 a1 a2 Tu2) λa=>bif a.2 !=0 then K [] a.2 else WC n a0 a.1 (λc e f=>bif c==a0 then K [] 13 else Yt n a0 a.1 (λg h d=>K d 0) n 0 []) n 0 0
def Jg(n:Nat)(b:Int)(a:LL)(k0:oP R)(k1:Qlh R):Qli R
|0,_=>none
|m+1,h5=>Qa R (decide (h5<(a.length:Int))) λi=>bif i then Qc R (Qi a h5) λc=>QkQ R c λe=>QkG R a h5 λh=>bif decide (wJ (e-h)>b)then k0 else Jg n b a k0 k1 m (wJ (h5+1))else k1 h5 i
def MO(a0:Int)(a1:LL)(K:Qll R):oP R:=Qc R (VI n a0 1 7200 some) λa=>Qd R (!(!a)) (JF n a1 some) λb=>bif Q8 (!a) (!b)then K false else Jg n a0 a1 (K false) (λc d=>K true) n 0
def Ji(n:Nat)(b:Int)(h7:LL)(k0:Qlo R):Qlq R
|0,_,_=>none
|m+1,h2,a=>bif decide (a<b)then QkK R h7 a λe=>Ji n b h7 k0 m (wJ (h2+(e.length:Int))) (wJ (a+1))else k0 h2 a (decide (a<b))
def U1(a:LL)(a1:Int)(K:Qlg R):oP R:=Ji n a1 a (λb c d=>K b) n 0 0
def Wh(c:LL)(f:Int)(g h:LL)(d:D)(k0:Qlj R):Qlk R
|0,_,_=>none
|m+1,a,e=>Qc R (pSl 4 d) λk=>Qa R (decide (a<(k.length:Int))) λaj=>bif aj then Qc R (U1 n g f some) λb=>Qc R (pSl 4 d) λaa=>QkF R aa a λi l=>Ql3 R i λab ac=>Qc R (pSl 4 d) λad=>Qb R (wJ (b+a)) λak=>bif decide (a<wJ ((ad.length:Int)-1))then Qkx R c ak λag=>Qkw R ag ab λo p=>Qkx R c ak λai=>QkY R ai l ac λq r s=>Qb R [[Ql ak,Ql (wJ (ak+1)),Ql (wJ (o+p)),Ql (wJ (wJ (q+r)+s))]] λal=>Qc R (Y5 ((e.length+al.length)*32)) λaw=>Wh c f g h d k0 m (wJ (a+1)) (e++al)else Qc R (Sz n h f Tu5) λj=>bif j.2.2.2.2 then Qc R (pIw j.2.1) λao=>Qc R (U1 n g ao some) λt=>Qkx R c ak λaq=>Qkw R aq j.2.2.1 λu v=>Qkx R c ak λau=>QkY R au l j.2.2.2.1 λx y z=>Qb R [[Ql ak,Ql t,Ql (wJ (u+v)),Ql (wJ (wJ (x+y)+z))]] λam=>Qc R (Y5 ((e.length+am.length)*32)) λa4=>Wh c f g h d k0 m (wJ (a+1)) (e++am)else Wh c f g h d k0 m (wJ (a+1)) e else k0 a aj e
def Ur(b h6 c:LL)(k0:Qlj R):Qlk R
|0,_,_=>none
|m+1,h2,d=>Qa R (decide (h2<(h6.length:Int))) λl=>bif l then QkT R h6 h2 λa=>QkR R a λe=>Wh n b h2 h6 c e (λj k f=>Ur b h6 c k0 m (wJ (h2+1)) f) n 0 d else k0 h2 l d
def R0(a b a1:LL)(K:Qlm R):oP R:=Ur n a1 a b (λd e c=>K c) n 0 []
def Z2(n:Nat)(b:LL)(h2:Int)(k0:D->D->D->oP R)(k1:Qlh R):Qli R
|0,_=>none
|m+1,a=>Qa R (decide (a<(b.length:Int))) λj=>bif j then QkA R b a λf=>bif f==h2 then QkH R b a λg h i=>k0 g h i else Z2 n b h2 k0 k1 m (wJ (a+1))else k1 a j
def Vr(a0:LL)(a1:Int)(K:D->D->D->Bool->oP R):oP R:=Z2 n a0 a1 (λa b c=>K a b c true) (λd e=>K (Ql 0) (Ql 0) (Ql 0) false) n 0
def PU(a0:LL)(g h i a2:Int)(K:D->D->D->D->D->D->Bool->oP R):oP R:=QkO R a0 g λk=>gb true (Vr n k a2 Tu4) (.bool false,.bool false,.bool false,false) λa=>QkO R a0 h λm=>gb true (Vr n m a2 Tu4) (.bool false,.bool false,.bool false,false) λb=>Qa R (Q9 a.2.2.2 b.2.2.2) λd=>QkE R b.2.1 d a.2.2.1 λo p=>K a.1 a.2.1 a.2.2.1 b.1 b.2.1 b.2.2.1 (Q9 d (decide (wJ (i+o)<=p)))
def UE(b:LL)(h2 c h5 h6 h7:Int)(k0:oP R)(k1:Qlh R):Qli R
|0,_=>none
|m+1,a=>QkO R b c λl24=>Qa R (decide (a<(l24.length:Int))) λs=>bif s then QkO R b c λo=>QkA R o a λr=>Qc R (PU n b c h5 h6 r Tu7) λd=>bif d.2.2.2.2.2.2 then QkW R d.2.2.1 d.2.2.2.2.2.1 d.2.1 d.2.2.2.2.1 λe f g h=>bif decide (wJ ((if e<wJ (h7+f)then wJ (h7+f)else e)-(if wJ (h6+h)<g then wJ (h6+h)else g))>h2)then k0 else UE b h2 c h5 h6 h7 k0 k1 m (wJ (a+1))else UE b h2 c h5 h6 h7 k0 k1 m (wJ (a+1))else k1 a s
def RI(a0:LL)(a b c d a2:Int)(K:Qll R):oP R:=UE n a0 a2 a b c d (K false) (λe f=>K true) n 0
def Uz(e:LL)(l:Int)(o:LL)(f c:D)(k0:Qlj R):Qlk R
|0,_,_=>none
|m+1,a,d=>Qc R (pSl 4 c) λp=>Qa R (decide (a<(p.length:Int))) λah=>bif ah then Qc R (U1 n o l some) λb=>Qc R (pSl 4 c) λt=>QkF R t a λg u=>Ql3 R g λv x=>QkA R e (wJ (b+a)) λh=>Qkx R e (wJ (b+a)) λab=>QkY R ab u f λi j k=>Qb R (wJ (2*wJ (b+a))) λaj=>Qb R [[Ql 1,Ql aj,Ql (wJ (aj+1)),Ql h,Ql (wJ (i+j)),Ql k]] λai=>Qc R (Y5 ((d.length+ai.length)*48)) λae=>Qc R (pSl 4 c) λac=>bif decide (a<wJ ((ac.length:Int)-1))then QkY R v x f λq r s=>Qb R [[Ql 2,Ql (wJ (aj+1)),Ql (wJ (aj+2)),Ql q,Ql r,Ql s]] λak=>Qc R (Y5 ((List.length (d++ai)+ak.length)*48)) λag=>Uz e l o f c k0 m (wJ (a+1)) (d++ai++ak)else Uz e l o f c k0 m (wJ (a+1)) (d++ai)else k0 a ah d
def Uw(b h6:LL)(k0:Qlj R):Qlk R
|0,_,_=>none
|m+1,h2,c=>Qa R (decide (h2<(h6.length:Int))) λk=>bif k then QkT R h6 h2 λa=>Ql3 R a λd e=>Uz n b h2 h6 d e (λi j f=>Uw b h6 k0 m (wJ (h2+1)) f) n 0 c else k0 h2 k c
def SV(a a1:LL)(K:Qlm R):oP R:=Uw n a1 a (λc d b=>K b) n 0 []
def Ux(h5 h6:LL)(k0:Qlj R):Qlk R
|0,_,_=>none
|m+1,b,c=>Qa R (decide (b<(h6.length:Int))) λx=>bif x then Qky R h6 b λa k l o=>QkJ R a λp q r=>Qc R a[6]? λs=>Qc R (pIw k) λt=>Qc R (U1 n h5 t some) λd=>Qkw R l o λe u=>Qc R (U1 n h5 u some) λf=>QkW R p q r s λg h i j=>Qb R [[Ql 3,Ql (wJ (wJ (2*wJ (d+e))+1)),Ql (wJ (2*wJ (f+g))),Ql h,Ql i,Ql j]] λy=>Qc R (Y5 ((c.length+y.length)*48)) λv=>Ux h5 h6 k0 m (wJ (b+1)) (c++y)else k0 b x c
def Wf(b c:LL)(k0:Qlj R):Qlk R
|0,_,_=>none
|m+1,a,e=>Qa R (decide (a<(c.length:Int))) λx=>bif x then QkP R c a λf l o p=>Qc R (pIw f) λq=>Qc R (U1 n b q some) λg=>Qc R (pIw f) λr=>QkK R b r λh=>Qc R (pIw l) λu=>Qc R (U1 n b u some) λi=>Qkw R o p λj k=>Qb R [[Ql 4,Ql (wJ (wJ (2*wJ (g+(h.length:Int)))-1)),Ql (wJ (2*i)),Ql j,Ql k,Ql 1]] λy=>Qc R (Y5 ((e.length+y.length)*48)) λv=>Wf b c k0 m (wJ (a+1)) (e++y)else k0 a x e
def Zl(d c:LL)(k0:Qlj R):Qlk R
|0,_,_=>none
|m+1,a,e=>Qa R (decide (a<(c.length:Int))) λv=>bif v then QkZ R c a λo p q r f=>Qc R (pIw o) λs=>Qc R (U1 n d s some) λg=>Qkw R p q λh t=>Qc R (U1 n d t some) λi=>Qkw R r f λj k=>Qc R (pIw f) λl=>Qb R [[Ql 5,Ql (wJ (2*wJ (g+h))),Ql (wJ (2*wJ (i+j))),Ql k,Ql l,Ql 0]] λx=>Qc R (Y5 ((e.length+x.length)*48)) λu=>Zl d c k0 m (wJ (a+1)) (e++x)else k0 a v e
def RH(a b c d:LL)(K:Qlm R):oP R:=Ux n a b (λh i e=>Wf n a c (λj k f=>Zl n a d (λl m g=>K g) n 0 f) n 0 e) n 0 []
def YW(g e:LL)(a b j:Int)(k0:Bool->Int->Bool->oP R):Nat->Bool->Int->oP R
|0,_,_=>none
|m+1,k,c=>Qa R (decide (c<(e.length:Int))) λam=>bif am then QkA R e c λd=>QkX R e c (d==a) λf=>Qa R (Q9 (d==a) (f==b)) λal=>Ql2 R e c (!al) λh=>Qa R (!al&&h==b) λan=>QkX R e c an λv=>bif Q8 al (Q9 (h==b) (v==a))then QkP R e c λx y z aa=>QkO R g a λad=>Qkx R ad j λag=>QkW R ag x y z λah ai aj ak=>Qc R (pIw aa) λau=>Qc R (PU n g ai aj ak ah Tu7) λar=>YW g e a b j k0 m (Q8 k ar.2.2.2.2.2.2) (wJ (c+1))else YW g e a b j k0 m k (wJ (c+1))else k0 k c am
def ZS(a h2:LL)(b c:Int)(k0:Qlj R):Qlk R
|0,_,_=>none
|m+1,h5,h6=>QkO R a b λe=>Qa R (decide (h5<(e.length:Int))) λt=>bif t then YW n a h2 b c h5 (λk q r=>bif !k then QkO R a b λp=>QkH R p h5 λf g h=>Qc R (Y5 ((h6.length+[[f,g,h]].length)*24)) λs=>ZS a h2 b c k0 m (wJ (h5+1)) (h6++[[f,g,h]])else ZS a h2 b c k0 m (wJ (h5+1)) h6) n false 0 else k0 h5 t h6
def GB(a0 a1:LL)(a2 a:Int)(K:Qlm R):oP R:=ZS n a0 a1 a2 a (λc d b=>K b) n 0 []
def UJ(h2:LL)(h5:Int)(k0:oP R)(k1:Qlh R):Qli R
|0,_=>none
|m+1,a=>Qa R (decide (a<(h2.length:Int))) λf=>bif f then QkO R h2 a λd=>Qc R (MO n h5 d some) λe=>bif !e then k0 else UJ h2 h5 k0 k1 m (wJ (a+1))else k1 a f
def UK(d b:LL)(e:Int)(k0:oP R)(k1:Qlh R):Qli R
|0,_=>none
|m+1,a=>Qa R (decide (a<(b.length:Int))) λq=>bif q then QkP R b a λf g h i=>QkW R f g h i λj k l o=>Qc R (RI n d j k l o e some) λp=>bif !p then k0 else UK d b e k0 k1 m (wJ (a+1))else k1 a q
def VG(n:Nat)(b:Int)(d:LL)(k0:Qlj R):Qlk R
|0,_,_=>none
|m+1,a,c=>QkK R d b λe=>Qa R (decide (a<(e.length:Int))) λi=>bif i then Qb R [[Ql 1,Ql b,Ql a],[Ql 2,Ql b,Ql a]] λj=>Qc R (Y5 ((c.length+List.length j)*24)) λh=>VG n b d k0 m (wJ (a+1)) (c++j)else k0 a i c
def Wj(b:LL)(k0:Qlj R):Qlk R
|0,_,_=>none
|m+1,a,c=>Qa R (decide (a<(b.length:Int))) λg=>bif g then VG n a b (λe f d=>Wj b k0 m (wJ (a+1)) d) n 0 c else k0 a g c
def UF(n:Nat)(c d:Int)(b:LL)(k0:Qlj R):Qlk R
|0,_,_=>none
|m+1,a,e=>Qa R (decide (a<(b.length:Int))) λo=>bif o then QkA R b a λf=>QkG R b a λg=>Qb R [[Ql 6,Ql (wJ (2*c)),Ql (wJ (2*d)),Ql f,Ql g,Ql 0]] λp=>Qc R (Y5 ((e.length+p.length)*48)) λl=>UF n c d b k0 m (wJ (a+1)) (e++p)else k0 a o e
def VA(b d:LL)(c e:Int)(k0:oP R)(k1:Qlj R):Qlk R
|0,_,_=>none
|m+1,a,f=>Qa R (decide (a<(b.length:Int))) λj=>bif j then Qc R (GB n b d c a some) λh=>Qc R (GB n b d a c some) λi=>Qc R (Hb n e h i Tu2) λg=>bif g.2 !=0 then k0 else UF n c a g.1 (λo p l=>VA b d c e k0 k1 m (wJ (a+1)) l) n 0 f else k1 a j f
def UB(b c:LL)(d:Int)(k0:oP R)(k1:Qlj R):Qlk R
|0,_,_=>none
|m+1,a,e=>Qa R (decide (a<(b.length:Int))) λi=>bif i then VA n b c a d k0 (λg h f=>UB b c d k0 k1 m (wJ (a+1)) f) n (wJ (a+1)) e else k1 a i e
def Uu(k l m o:LL)(b:Int)(p q c e d f r:LL)(K:Int->LL->LL->Int->oP R):oP R:=gb true (Rs n k l m o b p q c e d f r Tu3) ([],[],0) λa=>bif a.2.2 !=0 then K 0 [] [] a.2.2 else bif decide (wJ (2*(a.1.length:Int))>48)then K 0 [] [] 7 else UJ n a.1 b (K 0 [] [] 13) (λv x=>Qc R (R0 n c d a.2.1 some) λg=>UK n a.1 g b (K 0 [] [] 13) (λy z=>Wj n c (λaa ab u=>Qc R (SV n c a.2.1 some) λh=>Qc R (RH n c e d f some) λi=>Qc R (Y5 ((h.length+i.length)*48)) λac=>UB n a.1 g b (K 0 [] [] 13) (λad ae j=>bif decide ((j.length:Int)>512)then K 0 [] [] 7 else K b u j 0) n 0 (h++i)) n 0 []) n 0) n 0
def Gm(n:Nat)(b:Int)(a c:LL)(a1:Int)(K:Qll R):oP R:=K (Q9 (decide (a1>=0)) (decide (a1<(a.length:Int))))
def U8(l:LL)(h2 e:Int)(h5 h6:LL)(k0:oP R)(k1:Qlh R):Qli R
|0,_=>none
|m+1,c=>bif decide (c<h2)then QkF R l c λa o=>Qc R a[2]? λp=>QkJ R a λh i q=>Qc R (pIw o) λs=>Qc R (Gm n e h5 h6 s some) λd=>Qd R (!(!d)) (pIw p) λt=>Qd R (!(!d)) (Gm n e h5 h6 t some) λj=>Qa R (Q8 (!d) (!j)) λad=>QkE R o (!ad) p λu v=>bif Q8 ad (u==v)then k0 else Qc R (pIw h) λb=>Qa R (decide (b<(-65536:Int))) λac=>QkE R h (!ac) i λf g=>Qa R (Q8 ac (decide (f>g))) λae=>Qd R (!ae) (pIw i) λk=>Qa R (Q8 ae (decide (k>65536))) λab=>QkE R i (!ab) h λx y=>bif Q8 ab (decide (wJ (x-y)>=e))then k0 else Qc R (pIw q) λr=>Qd R (!(decide (r<0))) (pIw q) λz=>bif Q8 (decide (r<0)) (decide (z>1048576))then k0 else U8 l h2 e h5 h6 k0 k1 m (wJ (c+1))else k1 c (decide (c<h2))
def Tg(b:Int)(c a:LL)(K:Qll R):oP R:=bif Q8 (Q8 (Q8 (decide (b<2)) (decide (b>7200))) (decide ((c.length:Int)>48))) (decide ((a.length:Int)>512))then K false else U8 n a (a.length:Int) b c a (K false) (λd e=>K true) n 0
def V4(n:Nat)(h2:LL)(b h5:Int)(k0:oP R)(k1:Qlh R):Qli R
|0,_=>none
|m+1,a=>bif decide (a<b)then QkA R h2 a λc=>bif Q8 (decide (c<0)) (decide (c>=h5))then k0 else V4 n h2 b h5 k0 k1 m (wJ (a+1))else k1 a (decide (a<b))
def G5(a:Int)(b c a1:LL)(K:Qll R):oP R:=Qc R (Tg n a b c some) λd=>bif Q8 (!d) ((a1.length:Int) !=(b.length:Int))then K false else V4 n a1 (a1.length:Int) a (K false) (λe f=>K true) n 0
def JN(n:Nat)(a0 a1 a2:Int)(K:Qll R):oP R:=K (Q9 (decide (a0>=a1)) (decide (a0<=a2)))
def VD(j:Int)(k h5:LL)(k0:oP R)(k1:Qlh R):Qli R
|0,_=>none
|m+1,h2=>Qa R (decide (h2<(h5.length:Int))) λag=>bif ag then QkF R h5 h2 λg r=>Qc R g[2]? λs=>QkJ R g λl o t=>Qc R (pIw r) λu=>Qb R (wJ ((k.length:Int)-1)) λah=>Qc R (JN n u 0 ah some) λa=>Qd R (!(!a)) (pIw s) λv=>Qd R (!(!a)) (JN n v 0 ah some) λb=>Qa R (Q8 (!a) (!b)) λae=>QkE R r (!ae) s λc d=>Qd R (!(Q8 ae (c==d))) (pIw l) λe=>Qa R (Q8 (Q8 ae (c==d)) (decide (e<(-65536:Int)))) λac=>Qd R (!ac) (pIw o) λf=>Qa R (Q8 ac (decide (f>65536))) λaa=>QkE R l (!aa) o λh i=>Qa R (Q8 aa (decide (h>i))) λad=>QkE R o (!ad) l λp q=>Qa R (Q8 ad (decide (wJ (p-q)>=j))) λab=>Qd R (!ab) (pIw t) λx=>Qd R (!ab) (JN n x 0 1048576 some) λy=>bif Q8 ab (!y)then k0 else VD j k h5 k0 k1 m (wJ (h2+1))else k1 h2 ag
def Us(a:Int)(b c:LL)(K:Qll R):oP R:=Qc R (JN n a 2 7200 some) λd=>bif Q8 (Q8 (!d) (decide ((b.length:Int)>48))) (decide ((c.length:Int)>512))then K false else VD n a b c (K false) (λe f=>K true) n 0
def Jd(h2:LL)(b:Int)(k0:oP R)(k1:Qlh R):Qli R
|0,_=>none
|m+1,a=>Qa R (decide (a<(h2.length:Int))) λg=>bif g then QkA R h2 a λe=>Qc R (JN n e 0 (wJ (b-1)) some) λf=>bif !f then k0 else Jd h2 b k0 k1 m (wJ (a+1))else k1 a g
def G4(a:Int)(b c a1:LL)(K:Qll R):oP R:=Qc R (Us n a b c some) λd=>bif Q8 (!d) ((a1.length:Int) !=(b.length:Int))then K false else Jd n a1 a (K false) (λe f=>K true) n 0
def Q2i(n:Nat)(a0 a1 a2:Int)(K:Qll R):oP R:=K (Q9 (decide (a0>=a1)) (decide (a0<=a2)))
def Zf(n:Nat)(d e c:Int)(k0:Qlj R):Qlk R
|0,_,_=>none
|m+1,a,b=>bif decide (a<c)then QkC R b.length a b a.toNat λh=>bif h==e then Qkz R b.length a b a.toNat λi=>Zf n d e c k0 m (wJ (a+1)) (List.set b a.toNat (List.set i 0 (Ql d)))else Zf n d e c k0 m (wJ (a+1)) b else k0 a (decide (a<c)) b
def JE(a:LL)(i b c j k l:Int)(K:Bool->LL->oP R):oP R:=QkC R a.length b a b.toNat λd=>QkC R a.length c a c.toNat λe=>bif d==e then K false a else Zf n d e (a.length:Int) (λp q h=>K true h) n 0 a
def Zh(n:Nat)(b:Int)(k0:Qlj R):Qlk R
|0,_,_=>none
|m+1,h5,a=>bif decide (h5<b)then Qkz R a.length h5 a h5.toNat λc=>Zh n b k0 m (wJ (h5+1)) (List.set a h5.toNat (List.set c 0 (Ql h5)))else k0 h5 (decide (h5<b)) a
def Ze(c:LL)(k0:Qlj R):Qlk R
|0,_,_=>none
|m+1,b,d=>Qa R (decide (b<(c.length:Int))) λt=>bif t then Qky R c b λa f g h=>QkJ R a λi j k=>QkW R f g h i λl o p q=>Qkw R j k λr s=>gb true (JE n d l o p q r s Tu2) (false,[]) λe=>Qc R (SY e.2 d.length) λv=>Ze c k0 m (wJ (b+1)) e.2 else k0 b t d
def YB(n:Nat)(a:Int)(d:LL)(k0:Qlj R):Qlk R
|0,_,_=>none
|m+1,b,c=>bif decide (b<a)then QkC R d.length b d b.toNat λg=>QkC R d.length a d a.toNat λj=>bif g==j then QkC R c.length b c b.toNat λo=>Qkz R c.length a c a.toNat λp=>YB n a d k0 m (wJ (b+1)) (List.set c a.toNat (List.set p 0 (Ql o)))else YB n a d k0 m (wJ (b+1)) c else k0 b (decide (b<a)) c
def YC(c:Int)(f:LL)(k0:QlC R):Qlv R
|0,_,_,_=>none
|m+1,d,a,e=>bif decide (a<c)then Qkz R e.length a e a.toNat λg=>YB n a f (λo p b=>QkC R b.length a b a.toNat λj=>bif decide (j<0)then Qkz R b.length a b a.toNat λk=>YC c f k0 m (wJ (d+1)) (wJ (a+1)) (List.set b a.toNat (List.set k 0 (Ql d)))else YC c f k0 m d (wJ (a+1)) b) n 0 (List.set e a.toNat (List.set g 0 (Ql (-1:Int))))else k0 d a (decide (a<c)) e
def JM(d:Int)(a c:LL)(K:Qlm R):oP R:=Qc R (Us n d a c some) λe=>bif !e then K []else Qb R (a.length:Int) λu=>gb true (bif decide (0<=u)&&decide (u<=u)then some ()else none) () λh=>Qb R (Int.toNat u) λv=>Qc R (Y5 (v*8)) λi=>Zh n ((List.length (List.replicate v [Ql 0]):Nat):Int) (λj k f=>Ze n c (λl m b=>Qb R (b.length:Int) λt=>gb true (bif decide (0<=t)&&decide (t<=t)then some ()else none) () λo=>Qc R (Y5 (Int.toNat t*8)) λp=>YC n t b (λq r s g=>K g) n 0 0 (List.replicate (Int.toNat t) [Ql 0])) n 0 f) n 0 (List.replicate v [Ql 0])
def YP(n:Nat)(d:LL)(a:Int)(k0:Qlj R):Qlk R
|0,_,_=>none
|m+1,b,c=>bif decide (b<a)then QkA R d b λg=>QkA R d a λj=>bif g==j then Qkz R c.length a c a.toNat λk=>YP n d a k0 m (wJ (b+1)) (List.set c a.toNat (List.set k 0 (D.bool false)))else YP n d a k0 m (wJ (b+1)) c else k0 b (decide (b<a)) c
def ZH(h6:LL)(h7:Int)(k0:Qlj R):Qlk R
|0,_,_=>none
|m+1,a,b=>bif decide (a<h7)then Qkz R b.length a b a.toNat λc=>YP n h6 a (λf g d=>ZH h6 h7 k0 m (wJ (a+1)) d) n 0 (List.set b a.toNat (List.set c 0 (D.bool true)))else k0 a (decide (a<h7)) b
def GL(b:Int)(a c:LL)(a1:Int)(a2:Bool)(K:Int->LL->LL->LL->Int->Int->Bool->Bool->Bool->Int->LL->oP R):oP R:=Qc R (JM n b a c some) λd=>Qb R (a.length:Int) λo=>Qa R (decide (0<=o)&&decide (o<=o)) λl=>gb true (bif l then some ()else none) () λf=>Qb R (Int.toNat o) λp=>Qc R (Y5 (p*8)) λg=>gb true (bif l then some ()else none) () λh=>Qc R (Y5 (p*1)) λi=>ZH n d (d.length:Int) (λj k e=>K b a c e a1 0 false a2 false 0 (List.replicate p [Ql 0])) n 0 (List.replicate p [D.bool false])
def VZ(b:Int)(a1:LL)(c d a:Int)(K:Qlg R):oP R:=QkA R a1 d λg=>QkA R a1 c λi=>Qc R (Ef n (wJ (wJ (g-i)-a)) b some) λj=>K (wJ (a+j))
def J6(h2:LL)(h5:Int)(h7:LL)(k0:Qlo R):Qlq R
|0,_,_=>none
|m+1,c,a=>Qa R (decide (a<(h7.length:Int))) λv=>bif v then Qc R (Qi h7 a) λd=>Qc R d[5]? λe=>Qc R (pIw e) λf=>Qky R h7 a λb g h i=>QkJ R b λj k l=>Qc R (pIw g) λs=>QkY R h i j λo p q=>QkN R k l (Qc R (VZ n h5 h2 o p q some) λr=>J6 h2 h5 h7 k0 m (wJ (c+wJ (f*r))) (wJ (a+1)))else k0 c a v
def MN(a:Int)(c b a1:LL)(K:Qln R):oP R:=Qc R (G4 n a c b a1 some) λd=>bif !d then K 0 1 else J6 n a1 a b (λe f g=>K e 0) n 0 0
def Xi(c:Int)(h5:LL)(h6:Int)(d:LL)(k0:oP R)(k1:Qlo R):Qlq R
|0,_,_=>none
|m+1,h2,a=>Qa R (decide (a<(d.length:Int))) λaa=>bif aa then Qky R d a λb l f g=>QkJ R b λh i e=>Qc R (pIw f) λj=>Qd R (!(decide (j>c))) (pIw g) λo=>bif Q8 (decide (j>c)) (decide (o>c))then Qkw R e h λp q=>Xi c h5 h6 d k0 k1 m (wJ (h2+wJ (p*q))) (wJ (a+1))else Qc R (pIw l) λx=>QkY R f g h λr s t=>QkN R i e (Qc R (VZ n h6 h5 r s t some) λk=>Qc R (pIw i) λu=>bif decide (k>u)then k0 else Qc R (pIw e) λv=>Xi c h5 h6 d k0 k1 m (wJ (h2+wJ (v*k))) (wJ (a+1)))else k1 h2 a aa
def Zq(a:Int)(b:LL)(c d:Bool)(e:Int)(f:LL)(a1:Int)(K:Qll R):oP R:=Xi n a1 f a b (K true) (λg h i=>K (Q9 (Q9 c d) (decide (g>=e)))) n 0 0
def Xv(Fr:Int->LL->LL->LL->Int->Int->Bool->Bool->Bool->Int->LL->LL->Int->oP (Bool×Int×LL×LL×LL×Int×Int×Bool×Bool×Bool×Int×LL×LL))(h7 p:Int)(k0:LL->LL->Int->LL->LL->Int->Int->Bool->Bool->Bool->Int->LL->oP R)(k1:Int->Bool->LL->LL->Int->LL->LL->Int->Int->Bool->Bool->Bool->Int->LL->oP R):Nat->Int->LL->LL->Int->LL->LL->Int->Int->Bool->Bool->Bool->Int->LL->oP R
|0,_,_,_,_,_,_,_,_,_,_,_,_,_=>none
|m+1,b,k,c,d,l,e,f,g,q,h,i,j,o=>bif decide (b<p)then Qb R (wJ (g+1)) λv=>bif decide (v>f)then k0 k c d l e f v true h i j o else Qkz R c.length h7 c h7.toNat λr=>Qb R (List.set c h7.toNat (List.set r 0 (Ql b))) λu=>Qc R (Zq n d e h i j u h7 some) λs=>bif !s then gb true (Fr d l e k f v q h i j o u (wJ (h7+1))) (false,0,[],[],[],0,0,false,false,false,0,[],[]) λa=>Qb R a.2.2.2.2.2.2.2.2.2.2.2.2 λx=>Qb R a.2.2.2.2.2.2.2.2.2.2.2.1 λy=>Qb R a.2.2.2.2.2.2.2.2.2.2.1 λz=>Qb R a.2.2.2.2.2.2.2.2.2.1 λaa=>Qb R a.2.2.2.2.2.2.2.2.1 λab=>bif Q9 true (!a.1)then k0 a.2.2.2.2.1 x a.2.1 a.2.2.1 a.2.2.2.1 a.2.2.2.2.2.1 a.2.2.2.2.2.2.1 a.2.2.2.2.2.2.2.1 ab aa z y else Xv Fr h7 p k0 k1 m (wJ (b+1)) a.2.2.2.2.1 x a.2.1 a.2.2.1 a.2.2.2.1 a.2.2.2.2.2.1 a.2.2.2.2.2.2.1 a.2.2.2.2.2.2.2.1 ab aa z y else bif Q9 false false then k0 k u d l e f v q h i j o else Xv Fr h7 p k0 k1 m (wJ (b+1)) k u d l e f v q h i j o else k1 b (decide (b<p)) k c d l e f g q h i j o
def VV(Fr:Int->LL->LL->LL->Int->Int->Bool->Bool->Bool->Int->LL->LL->Int->oP (Bool×Int×LL×LL×LL×Int×Int×Bool×Bool×Bool×Int×LL×LL))(b:Int)(c d q1:LL)(f g:Int)(h e i:Bool)(j:Int)(k a:LL)(a1:Int)(K:Bool->Int->LL->LL->LL->Int->Int->Bool->Bool->Bool->Int->LL->LL->oP R):oP R:=bif a1==(c.length:Int)then Qc R (Y5 (a.length*8)) λu1=>Qc R (MN n b c d a Tu2) λo=>K e b c d q1 f g h e true o.1 a a else Qlc R q1.length a1 q1 a1.toNat λq=>bif q then Xv n Fr a1 1 (λr s t u v x y z aa ab ac ad=>K false t u v r x y z aa ab ac ad s) (λbv bz ae ag ah ai aj ak al am an ao ap aq=>K true ah ai aj ae ak al am an ao ap aq ag) n 0 q1 a b c d f g h e i j k else Xv n Fr a1 b (λar au av aw ax ay az ba bb bc bd be=>K false av aw ax ar ay az ba bb bc bd be au) (λca cb bg bh bi bj bk bl bm bn bo bp bq br=>K true bi bj bk bg bl bm bn bo bp bq br bh) n 0 q1 a b c d f g h e i j k
def XE :Nat->Int->LL->LL->LL->Int->Int->Bool->Bool->Bool->Int->LL->LL->Int->oP (Bool×Int×LL×LL×LL×Int×Int×Bool×Bool×Bool×Int×LL×LL)
|0,_,_,_,_,_,_,_,_,_,_,_,_,_=>none
|d+1,a,b,c,q1,e,f,g,h,i,j,k,l,a1=>VV n (XE d) a b c q1 e f g h i j k l a1 Tu13
def Fc(e:Int)(f g:LL)(a1:Int)(a2:Bool)(KA:Qlg R)(KB:Int->LL->LL->LL->Int->Int->Bool->Bool->Bool->Int->LL->LL->Int->oP R):oP R:=Qc R (Us n e f g some) λc=>bif !c then KA 1 else Qc R (Q2i n a1 1 1048576 some) λd=>bif !d then KA 4 else gb true (GL n e f g a1 a2 Tu11) (0,[],[],[],0,0,false,false,false,0,[]) λb=>gb true (XE n n b.1 b.2.1 b.2.2.1 b.2.2.2.1 b.2.2.2.2.1 b.2.2.2.2.2.1 b.2.2.2.2.2.2.1 b.2.2.2.2.2.2.2.1 b.2.2.2.2.2.2.2.2.1 b.2.2.2.2.2.2.2.2.2.1 [] b.2.2.2.2.2.2.2.2.2.2 0) (false,0,[],[],[],0,0,false,false,false,0,[],[]) λa=>Qb R a.2.2.2.2.2.2.2.1 λi=>bif i then KA 15 else Qb R a.2.2.2.2.2.2.2.2.2.1 λh=>Qb R a.2.2.2.2.2.2.2.2.2.2.2.2 λj=>Qb R a.2.2.2.2.2.2.2.2.2.2.2.1 λk=>Qb R a.2.2.2.2.2.2.2.2.2.2.1 λl=>Qb R a.2.2.2.2.2.2.2.2.1 λo=>bif !h then KB a.2.1 a.2.2.1 a.2.2.2.1 a.2.2.2.2.1 a.2.2.2.2.2.1 a.2.2.2.2.2.2.1 i o h l k j 14 else KB a.2.1 a.2.2.1 a.2.2.2.1 a.2.2.2.2.1 a.2.2.2.2.2.1 a.2.2.2.2.2.2.1 i o h l k j 0
def Zp(e:Int)(f g:LL)(a1:Int)(KA:Qln R)(KB:Qlt R):oP R:=gb true (Fc n e f g a1 false (λc=>some (.inl c)) λc d b a h i r6 j k l m o p=>some (.inr (c,d,b,a,h,i,r6,j,k,l,m,o,p))) (.inl 0) λd=>smX d (λb=>bif b==0 then none else bif b==14 then none else KA 0 b) λa=>Qb R a.2.2.2.2.2.2.2.2.2.2.2.2 λq=>bif q==0 then KB a.2.2.2.2.2.2.2.2.2.2.1 a.2.2.2.2.2.1 0 else bif q==14 then KA a.2.2.2.2.2.1 q else KA 0 q
def JI(b:Int)(k l a1:LL)(m c d a o p:Int)(K:Qlg R):oP R:=QkA R a1 d λg=>QkA R a1 c λi=>Qc R (Hg n (wJ (wJ (g-i)-a)) b some) λj=>K (wJ (a+j))
def Ua(h2 c:LL)(b h6:Int)(h7 d:LL)(k0:Qlg R)(k1:Qlh R):Qli R
|0,_=>none
|m+1,h5=>bif decide (h5<b)then Qky R c h5 λa f g h=>QkJ R a λi e j=>QkW R f g h i λk l o p=>Qkw R e j λq r=>Qc R (JI n h6 h7 d h2 k l o p q r some) λs=>Qc R (pIw e) λt=>bif decide (s>t)then k0 h5 else Ua h2 c b h6 h7 d k0 k1 m (wJ (h5+1))else k1 h5 (decide (h5<b))
def Gj(b:Int)(c a a1:LL)(K:Qlh R):oP R:=Qc R (G5 n b c a a1 some) λd=>bif !d then K 0 false else Ua n a1 a (a.length:Int) b c a (λe=>K e true) (λf g=>K 0 false) n 0
def XM(b:Int)(c d a1:LL)(K:Qll R):oP R:=Qc R (Gj n b c d a1 Tu2) λa=>Qd R (!a.2) (G5 n b c d a1 some) λf=>K (Q9 (!a.2) f)
def ZK(n:Nat)(b q4:LL)(a1 a2:Int)(K:Qll R):oP R:=QkA R b a1 λa=>Qa R (a==2) λh=>Ql1 R q4.length a1 h q4 a1.toNat λc6=>Qd R h (pIw c6) λf=>K (Q9 h (f==a2))
def QK(b a:Int)(c d:LL)(k0:Qlj R):Qlk R
|0,_,_=>none
|m+1,h5,h6=>bif decide (h5<a)then Qc R (ZK n d c h5 b some) λe=>bif !e then Qkz R h6.length h5 h6 h5.toNat λf=>QK b a c d k0 m (wJ (h5+1)) (List.set h6 h5.toNat (List.set f 0 (Ql (-1:Int))))else QK b a c d k0 m (wJ (h5+1)) h6 else k0 h5 (decide (h5<a)) h6
def QB(n:Nat)(b:Int)(g:LL)(d:Int)(e h:LL)(k0:Bool->Int->Bool->LL->oP R):Nat->Bool->Int->LL->oP R
|0,_,_,_=>none
|m+1,i,c,a=>bif decide (c<d)then QkA R g c λj=>Qc R (Qi h j) λr=>QkQ R r λl=>QkC R a.length l a l.toNat λk=>bif k==(-1:Int)then QB n b g d e h k0 m i (wJ (c+1)) a else QkC R e.length j e j.toNat λo=>QkC R a.length b a b.toNat λf=>Qa R (f==(-1:Int)) λak=>Ql1 R a.length b (!ak) a b.toNat λab=>Qd R (!ak) (pIw ab) λac=>bif Q8 ak (decide (wJ (o+k)<ac))then Qkz R a.length b a b.toNat λad=>QB n b g d e h k0 m true (wJ (c+1)) (List.set a b.toNat (List.set ad 0 (Ql (wJ (o+k)))))else QB n b g d e h k0 m i (wJ (c+1)) a else k0 i c (decide (c<d)) a
def Xf(b:Int)(c d e:LL)(k0:Bool->Int->Bool->LL->oP R):Nat->Bool->Int->LL->oP R
|0,_,_,_=>none
|m+1,f,a,g=>bif decide (a<b)then QkM R c.length a c a.toNat λh=>QB n a h (h.length:Int) d e (λk p q l=>Xf b c d e k0 m k (wJ (a+1)) l) n f 0 g else k0 f a (decide (a<b)) g
def QC(b c d:LL)(k0:Bool->LL->oP R):Nat->Bool->LL->oP R
|0,_,_=>none
|m+1,e,a=>bif e then Xf n (a.length:Int) b c d (λf h i g=>QC b c d k0 m f g) n false 0 a else k0 e a
def XZ(a b q1 c q4:LL)(a1:Int)(K:Qlm R):oP R:=Qb R (a.length:Int) λk=>gb true (bif decide (0<=k)&&decide (k<=k)then some ()else none) () λf=>Qb R (Int.toNat k) λl=>Qc R (Y5 (l*8)) λg=>QK n a1 ((List.length (List.replicate l [Ql 0]):Nat):Int) q4 a (λh i d=>QC n q1 c b (λj e=>K e) n true d) n 0 (List.replicate l [Ql 0])
def Y3(n:Nat)(a a1 a2:Int)(K:Qlg R):oP R:=bif Q8 (Q8 (Q8 (Q8 (decide (a1<0)) (decide (a1>=a))) (decide (a2<0))) (decide (a2>=a))) (a1==a2)then K 4 else K 0
def X9(n:Nat)(f:Int)(h2:LL)(d:Int)(e:LL)(k0:Qlj R):Qlk R
|0,_,_=>none
|m+1,a,h5=>bif decide (a<d)then Qc R (Qi h2 a) λb=>Ql8 R b λh i=>Qc R b[2]? λo=>Ql9 R b (Qc R (pIw h) λc=>Qa R (c==1) λu=>Qd R u (pIw i) λg=>Ql1 R e.length g u e g.toNat λk=>Qd R u (pIw k) λl=>bif Q9 u (l==f)then Qc R (Y5 ((h5.length+[[Ql a]].length)*8)) λt=>X9 n f h2 d e k0 m (wJ (a+1)) (h5++[[Ql a]])else X9 n f h2 d e k0 m (wJ (a+1)) h5)else k0 a (decide (a<d)) h5
def YY(a b:LL)(a1:Int)(K:Qlm R):oP R:=X9 n a1 a (a.length:Int) b (λd e c=>K c) n 0 []
def X3(n:Nat)(b c:LL)(a:Int)(h7 d:LL)(k0:Qlo R):Qlq R
|0,_,_=>none
|m+1,h2,h5=>bif decide (h5<a)then QkA R c h5 λe=>Qc R (Qi d e) λj=>QkQ R j λl=>QkA R b l λf=>Qb R (wJ (h5+1)) λt=>bif f==(-1:Int)then X3 n b c a h7 d k0 m h2 t else QkC R h7.length e h7 e.toNat λg=>bif Q8 (h2==(-1:Int)) (decide (wJ (g+f)<h2))then X3 n b c a h7 d k0 m (wJ (g+f)) t else X3 n b c a h7 d k0 m h2 t else k0 h2 h5 (decide (h5<a))
def Yv(a b a1 a2:LL)(K:Qlg R):oP R:=X3 n a1 a2 (a2.length:Int) b a (λc d e=>K c) n (-1:Int) 0
def Zk(n:Nat)(c b a1:LL)(a2 d:Int)(K:Qll R):oP R:=Qc R (Qi c a2) λe=>QkQ R e λg=>QkA R a1 g λa=>Qa R (a !=(-1:Int)) λo=>Ql1 R b.length a2 o b a2.toNat λj=>Qd R o (pIw j) λk=>K (Q9 o (wJ (k+a)==d))
def Vd(e f g h:LL)(i:Int)(j k l m o p q:LL)(KA:oP R)(KB:Qlm R):oP R:=gb true (Uu n e f g h i j k l m o p q Tu4) (0,[],[],0) λa=>bif a.2.2.2 !=0 then KA else gb true (Zp n a.1 a.2.1 a.2.2.1 4000 (λb a=>some (.inl (b,a))) λb a c=>some (.inr (b,a,c))) (.inl (0,0)) λc=>smX c (λd=>KA) λr=>KB r.1
def Dv(n:Nat)(a0:Int)(K:Qll R):oP R:=K (Q9 (Q9 (decide (a0>=33)) (decide (a0<=126))) (a0 !=35))
def Tx(b:Y UInt8)(h2:Int)(k0:oP R)(k1:Qlj R):Qlk R
|0,_,_=>none
|m+1,a,c=>Qa R (decide (a<(b.length:Int))) λx=>Qd R x (Zj b a) λd=>bif Q9 x (d !=35)then Qc R (Zj b a) λe=>Qd R (!(e==32)) (Zj b a) λi=>Qb R (wJ (a+1)) λaa=>bif Q8 (e==32) (i==9)then Tx b h2 k0 k1 m aa c else Qc R (Zj b a) λj=>Qc R (Dv n j some) λk=>bif !k then k0 else Qa R (decide (a>0)) λy=>Qd R y (Zj b (wJ (a-1))) λl=>Qd R y (Dv n l some) λo=>bif Q9 y o then Qb R (wJ ((c.length:Int)-1)) λz=>Qc R (inB c.length z) λs=>Qb R (Int.toNat z) λac=>Qc R c[ac]? λp=>Qc R p[0]? λq=>Qc R (Vp q) λf=>Qc R (slB b.length (some a) (some aa)) λg=>Qc R (Q8i (f.length+List.length (cut b g))) λt=>Qkz R c.length z c ac λr=>Tx b h2 k0 k1 m aa (List.set c ac (List.set r 0 (D.str (f++cut b g))))else Qc R (slB b.length (some a) (some aa)) λh=>Qb R [[D.str (cut b h),Ql h2,Ql aa]] λab=>Qc R (Y5 ((c.length+ab.length)*32)) λv=>Tx b h2 k0 k1 m aa (c++ab)else k1 a (Q9 x (d !=35)) c
def Q6A(a0:Y UInt8)(a1:Int)(K:Qlp R):oP R:=Tx n a0 a1 (K [] 2) (λb c a=>bif decide ((a.length:Int)>64)then K [] 7 else K a 0) n 0 []
def R3(n:Nat)(h5:Y UInt8)(k0:Qlh R):Qli R
|0,_=>none
|m+1,a=>Qa R (decide (a<(h5.length:Int))) λc=>Qd R c (Zj h5 a) λb=>bif Q9 c (b !=10)then R3 n h5 k0 m (wJ (a+1))else k0 a (Q9 c (b !=10))
def T0(a:Y UInt8)(k0:Qln R)(k1:QlC R):Qlv R
|0,_,_,_=>none
|m+1,h2,b,d=>Qa R (decide (b<(a.length:Int))) λg=>bif g then R3 n a (λe i=>Qc R (slB a.length (some b) (some e)) λf=>Qc R (Q6A n (cut a f) h2 Tu2) λc=>bif c.2 !=0 then k0 h2 c.2 else bif decide ((c.1.length:Int)>0)then Qc R (Y5 ((d.length+[[D.sl 3 c.1]].length)*24)) λj=>T0 a k0 k1 m (wJ (h2+1)) (wJ (e+1)) (d++[[D.sl 3 c.1]])else T0 a k0 k1 m (wJ (h2+1)) (wJ (e+1)) d) n b else k1 h2 b g d
def Dz(a0:Y UInt8)(K:Qlt R):oP R:=bif decide ((a0.length:Int)>65536)then K [] 0 7 else T0 n a0 (λa b=>K [] a b) (λd e f c=>K c 0 0) n 1 0 []
def KX(h6:Y UInt8)(k0:oP R)(k1:Qlo R):Qlq R
|0,_,_=>none
|m+1,b,a=>Qa R (decide (a<(h6.length:Int))) λf=>bif f then Qc R (Zj h6 a) λc=>Qc R (Dp n c some) λd=>bif !d then k0 else Qc R (Zj h6 a) λe=>KX h6 k0 k1 m (wJ (wJ (10*b)+wJ (IntKind.wrap .u8 (e-48)))) (wJ (a+1))else k1 b a f
def WS(a0:Y UInt8)(K:Qlh R):oP R:=Qb R (a0.length:Int) λq=>Qa R (decide (q>0)) λo=>Qd R o (Zj a0 0) λd=>bif Q9 o (d==45)then Qc R (slB a0.length (some 1) none) λa=>Qb R (cut a0 a) λr=>Qb R ((List.length r:Nat):Int) λp=>Qa R (Q8 (decide (p<1)) (decide (p>13))) λk=>Qd R (!k) (Zj r 0) λe=>bif Q8 k (Q9 (e==48) (Q8 (decide (p>1)) (decide ((-1:Int)<0))))then K 0 false else KX n r (K 0 false) (λb g h=>bif decide (b>1099511627776)then K 0 false else K (wJ ((-1:Int)*b)) true) n 0 0 else Qa R (Q8 (decide (q<1)) (decide (q>13))) λl=>Qd R (!l) (Zj a0 0) λf=>bif Q8 l (Q9 (f==48) (Q8 (decide (q>1)) (decide (1<0))))then K 0 false else KX n a0 (K 0 false) (λc i j=>bif decide (c>1099511627776)then K 0 false else K (wJ (1*c)) true) n 0 0
def R9(n:Nat)(b:LL)(h2:Y UInt8)(k0:Qlg R)(k1:Qlh R):Qli R
|0,_=>none
|m+1,a=>Qa R (decide (a<(b.length:Int))) λf=>bif f then QkI R b a λe=>bif e==h2 then k0 a else R9 n b h2 k0 k1 m (wJ (a+1))else k1 a f
def Kr(a0:LL)(a1:Y UInt8)(K:Qlg R):oP R:=R9 n a0 a1 (λa=>K a) (λb c=>K (-1:Int)) n 0
def Kb(q1 e a1:LL)(K:Qlr R):oP R:=QkI R a1 2 λj=>Qc R (WS n j Tu2) λa=>QkI R a1 3 λl=>Qc R (WS n l Tu2) λb=>QkI R a1 4 λp=>Qc R (WS n p Tu2) λc=>Qa R ((a1.length:Int)==7) λab=>Qa R (Q8 (Q8 (!a.2) (!b.2)) (!c.2)) λac=>Qa R (!ac&&ab) λf=>QkU R a1 5 f λs=>bif Q8 ac (Q9 ab (!(s==bs [97,116])))then K 2 e else QkI R a1 1 λg=>bif ab then QkI R a1 6 λy=>Qc R (Kr n q1 y some) λh=>bif decide (h<0)then K 3 e else Qb R [[D.str g,Ql a.1,Ql b.1,Ql c.1,Ql h]] λae=>Qc R (Y5 ((e.length+ae.length)*48)) λz=>K 0 (e++ae)else Qb R [[D.str g,Ql a.1,Ql b.1,Ql c.1,Ql (-1:Int)]] λad=>Qc R (Y5 ((e.length+ad.length)*48)) λaa=>K 0 (e++ad)
def PI(n:Nat)(a0:Y UInt8)(K:Qlg R):oP R:=bif a0==bs [65]then K 0 else bif a0==bs [66]then K 1 else K (-1:Int)
def TH(q1 h i q4 a1:LL)(K:Qlr R):oP R:=QkI R a1 2 λl=>Qc R (PI n l some) λa=>QkI R a1 4 λo=>Qc R (PI n o some) λb=>Qa R (Q8 (decide (a<0)) (decide (b<0))) λam=>Qa R ((a1.length:Int)==7) λan=>QkU R a1 6 (!am&&an) λf=>Qa R (Q9 an (!(f==bs [48]))) λao=>QkU R a1 6 (!am&&ao) λt=>bif Q8 am (Q9 ao (!(t==bs [49])))then K 2 q4 else Qc R (V3 n q1 h i q4 some) λg=>Qc R (Lb [g]) λai=>QkI R a1 1 λx=>Qc R (Kr n g x some) λc=>QkI R a1 3 λaa=>Qc R (Kr n g aa some) λd=>bif Q8 (decide (c<0)) (decide (d<0))then K 3 q4 else bif an then QkI R a1 5 λad=>Qc R (Kr n h ad some) λe=>bif decide (e<0)then K 3 q4 else QkI R a1 6 λah=>bif ah==bs [49]then Qb R [[Ql c,Ql a,Ql d,Ql b,Ql e,Ql 1]] λau=>Qc R (Y5 ((q4.length+au.length)*48)) λaj=>K 0 (q4++au)else Qb R [[Ql c,Ql a,Ql d,Ql b,Ql e,Ql 0]] λav=>Qc R (Y5 ((q4.length+av.length)*48)) λak=>K 0 (q4++av)else Qb R [[Ql c,Ql a,Ql d,Ql b,Ql (-1:Int),Ql 0]] λar=>Qc R (Y5 ((q4.length+ar.length)*48)) λal=>K 0 (q4++ar)
def NK(q1 a b q4 a1:LL)(K:Int->LL->LL->LL->LL->oP R):oP R:=Qb R (a1.length:Int) λab=>Qa R (ab==2) λaa=>QkU R a1 0 aa λj=>bif Q9 aa (j==bs [115,116,97,116,105,111,110])then QkI R a1 1 λe=>Qc R (Y5 ((q1.length+[[D.str e]].length)*16)) λy=>K 0 (q1++[[D.str e]]) a b q4 else QkU R a1 0 aa λo=>bif Q9 aa (o==bs [112,111,105,110,116])then QkI R a1 1 λf=>Qc R (Y5 ((a.length+[[D.str f]].length)*16)) λz=>K 0 q1 (a++[[D.str f]]) b q4 else Qa R (Q8 (ab==5) (ab==7)) λd=>QkU R a1 0 d λt=>bif Q9 d (t==bs [115,101,99,116,105,111,110])then gb true (Kb n q1 b a1 Tu2) (0,[]) λg=>K g.1 q1 a g.2 q4 else QkU R a1 0 d λx=>bif Q9 d (x==bs [108,105,110,107])then gb true (TH n q1 a b q4 a1 Tu2) (0,[]) λh=>K h.1 q1 a b h.2 else K 2 q1 a b q4
def R8(h2:LL)(k0:Qln R)(k1:Int->Bool->LL->LL->LL->LL->oP R):Nat->Int->LL->LL->LL->LL->oP R
|0,_,_,_,_,_=>none
|m+1,a,c,h5,h6,h7=>Qa R (decide (a<(h2.length:Int))) λg=>bif g then QkO R h2 a λf=>gb true (NK n c h5 h6 h7 f Tu5) (0,[],[],[],[]) λb=>bif b.1 !=0 then QkO R h2 a λl24=>QkG R l24 0 λr=>k0 r b.1 else R8 h2 k0 k1 m (wJ (a+1)) b.2.1 b.2.2.1 b.2.2.2.1 b.2.2.2.2 else k1 a g c h5 h6 h7
def Q10(a0:Y UInt8)(K:LL->LL->LL->LL->Int->Int->oP R):oP R:=Qc R (Dz n a0 Tu3) λa=>bif a.2.2 !=0 then K [] [] [] [] a.2.1 a.2.2 else R8 n a.1 (λi j=>K [] [] [] [] i j) (λk l b c d e=>Qc R (Vw n b c d e some) λf=>bif f !=0 then K [] [] [] [] 0 f else K b c d e 0 0) n 0 [] [] [] []
def UA(n:Nat)(b:Y UInt8)(a:LL)(k0:Qlg R)(k1:Qlh R):Qli R
|0,_=>none
|m+1,h2=>Qa R (decide (h2<(a.length:Int))) λf=>bif f then QkI R a h2 λe=>bif e==b then k0 h2 else UA n b a k0 k1 m (wJ (h2+1))else k1 h2 f
def Kj(a:LL)(a1:Y UInt8)(K:Qlg R):oP R:=UA n a1 a (λb=>K b) (λc d=>K (-1:Int)) n 0
def YM(n:Nat)(c:LL)(d:Int)(k0:oP R)(k1:Qlh R):Qli R
|0,_=>none
|m+1,a=>bif decide (a<d)then QkI R c (wJ (a+1)) λb=>Qa R (b==bs [117,112]) λj=>QkU R c (wJ (a+1)) (!j) λi=>bif Q9 (!j) (!(i==bs [100,111,119,110]))then k0 else YM n c d k0 k1 m (wJ (a+2))else k1 a (decide (a<d))
def Yg(d:LL)(e:Int)(f:LL)(k0:oP R)(k1:Qlj R):Qlk R
|0,_,_=>none
|m+1,a,b=>bif decide (a<e)then QkI R d a λi=>Qc R (Kj n f i some) λc=>bif decide (c<0)then k0 else QkI R d (wJ (a+1)) λl=>bif l==bs [100,111,119,110]then Qc R (Y5 ((b.length+[[Ql c,Ql 1]].length)*16)) λo=>Yg d e f k0 k1 m (wJ (a+2)) (b++[[Ql c,Ql 1]])else Qc R (Y5 ((b.length+[[Ql c,Ql 0]].length)*16)) λp=>Yg d e f k0 k1 m (wJ (a+2)) (b++[[Ql c,Ql 0]])else k1 a (decide (a<e)) b
def HP(b a a1:LL)(K:Qlr R):oP R:=Qc R (nz 2) λm=>Qb R (a1.length:Int) λak=>Qa R (Q9 (Int.tmod ak 2==1) (decide (ak>=5))) λk=>Qb R (wJ (ak-2)) λal=>QkU R a1 al k λh=>Qa R (decide (ak<3)) λl=>Qa R (Q8 l (Int.tmod ak 2==0)) λai=>bif Q9 k (h==bs [111,118,101,114,108,97,112])then QkI R a1 (wJ (ak-1)) λj=>Qc R (WS n j Tu2) λc=>bif c.2 then Qa R (decide (al<3)) λaj=>Qd R (!aj) (nz 2) λo=>bif Q8 aj (Int.tmod al 2==0)then K 2 a else YM n a1 al (K 2 a) (λp q=>Yg n a1 al b (K 3 a) (λr s d=>Qb R [[D.sl 2 d,Ql c.1]] λam=>Qc R (Y5 ((a.length+am.length)*32)) λt=>K 0 (a++am)) n 1 []) n 1 else Qd R (!l) (nz 2) λu=>bif ai then K 2 a else YM n a1 ak (K 2 a) (λv x=>Yg n a1 ak b (K 3 a) (λy z e=>Qc R (Y5 ((a.length+[[D.sl 2 e,Ql 0]].length)*32)) λaa=>K 0 (a++[[D.sl 2 e,Ql 0]])) n 1 []) n 1 else Qd R (!l) (nz 2) λab=>bif ai then K 2 a else YM n a1 ak (K 2 a) (λac ad=>Yg n a1 ak b (K 3 a) (λae ag f=>Qc R (Y5 ((a.length+[[D.sl 2 f,Ql 0]].length)*32)) λah=>K 0 (a++[[D.sl 2 f,Ql 0]])) n 1 []) n 1
def Ts(a:LL)(k0:oP R)(k1:Qlj R):Qlk R
|0,_,_=>none
|m+1,h2,b=>Qa R (decide (h2<(a.length:Int))) λg=>bif g then QkI R a h2 λf=>Qc R (WS n f Tu2) λc=>bif !c.2 then k0 else Qc R (Y5 ((b.length+[[Ql c.1]].length)*8)) λi=>Ts a k0 k1 m (wJ (h2+1)) (b++[[Ql c.1]])else k1 h2 g b
def DT(a0:LL)(K:LL->Bool->oP R):oP R:=Ts n a0 (K [] false) (λb c a=>K a true) n 0 []
def Vf(n:Nat)(b:Y UInt8)(a:LL)(k0:Qlg R)(k1:Qlh R):Qli R
|0,_=>none
|m+1,h2=>Qa R (decide (h2<(a.length:Int))) λg=>bif g then Qkz R a.length h2 a h2.toNat λc=>Qc R c[0]? λd=>Qc R (Vp d) λe=>bif e==b then k0 h2 else Vf n b a k0 k1 m (wJ (h2+1))else k1 h2 g
def HR(q1:LL)(a1:Y UInt8)(K:Qlg R):oP R:=Vf n a1 q1 (λa=>K a) (λb c=>K (-1:Int)) n 0
def To(l:LL)(c:Int)(q1 a q7:LL)(b:Int)(a1:LL)(K:Int->Int->LL->LL->LL->Int->oP R):oP R:=Qb R (a1.length:Int) λbu=>Qa R (bu==2) λbr=>QkU R a1 0 br λv=>bif Q9 br (v==bs [112,101,114,105,111,100])then QkI R a1 1 λy=>Qc R (WS n y Tu2) λm=>bif !m.2 then K 2 c q1 a q7 b else bif decide (wJ (b+1)>1)then K 5 c q1 a q7 (wJ (b+1))else K 0 m.1 q1 a q7 (wJ (b+1))else Qa R (bu==6) λaa=>QkU R a1 0 aa λab=>bif Q9 aa (ab==bs [115,116,111,99,107])then Qc R (slB a1.length (some 2) none) λac=>gb true (DT n (cut a1 ac) Tu2) ([],false) λf=>bif !f.2 then K 2 c q1 a q7 b else QkI R a1 1 λo=>QkA R f.1 0 λp=>QkA R f.1 1 λq=>QkA R f.1 2 λr=>QkA R f.1 3 λs=>Qb R [[D.str o,Ql p,Ql q,Ql r,Ql s]] λbt=>Qc R (Y5 ((q1.length+bt.length)*48)) λbo=>K 0 c (q1++bt) a q7 b else Qa R (bu==4) λe=>QkU R a1 0 e λaq=>bif Q9 e (aq==bs [108,105,110,101])then QkI R a1 3 λav=>Qc R (WS n av Tu2) λg=>bif !g.2 then K 2 c q1 a q7 b else QkI R a1 2 λay=>Qc R (HR n q1 ay some) λh=>bif decide (h<0)then K 3 c q1 a q7 b else QkI R a1 1 λt=>Qb R [[D.str t,Ql h,Ql g.1,D.nl]] λbv=>Qc R (Y5 ((a.length+bv.length)*56)) λbp=>K 0 c q1 (a++bv) q7 b else QkU R a1 0 e λbd=>bif Q9 e (bd==bs [100,101,109,97,110,100])then QkI R a1 3 λbh=>Qc R (WS n bh Tu2) λi=>bif !i.2 then K 2 c q1 a q7 b else QkI R a1 1 λbk=>Qc R (Kr n l bk some) λj=>QkI R a1 2 λbn=>Qc R (Kr n l bn some) λk=>bif Q8 (decide (j<0)) (decide (k<0))then K 3 c q1 a q7 b else Qb R [[Ql j,Ql k,Ql i.1]] λbz=>Qc R (Y5 ((q7.length+bz.length)*24)) λbq=>K 0 c q1 a (q7++bz) b else K 2 c q1 a q7 b
def Kk(j k:LL)(f:Int)(q1 g h q7:LL)(i:Int)(a1:LL)(K:Int->Int->LL->LL->LL->LL->Int->oP R):oP R:=QkI R a1 0 λc=>bif c==bs [114,111,117,116,101]then gb true (HP n k g a1 Tu2) (0,[]) λd=>K d.1 f q1 d.2 h q7 i else bif c==bs [114,105,100,101]then none else bif c==bs [99,104,97,110,103,101]then none else bif c==bs [116,117,114,110]then none else bif c==bs [115,121,110,99]then none else gb true (To n j f q1 h q7 i a1 Tu6) (0,0,[],[],[],0) λa=>K a.1 a.2.1 a.2.2.1 g a.2.2.2.1 a.2.2.2.2.1 a.2.2.2.2.2
def JK(c k l:LL)(k0:Qln R)(k1:QlG R)(g:Int->Int->Int->LL->LL->LL->LL->oP R)(b d e:Int)(f h i j:LL):oP R:=Qa R (decide (b<(c.length:Int))) λq=>bif q then QkO R c b λp=>gb true (Kk n k l d f h i j e p Tu7) (0,0,[],[],[],[],0) λa=>bif a.1 !=0 then QkO R c b λz=>QkG R z 0 λac=>k0 ac a.1 else g (wJ (b+1)) a.2.1 a.2.2.2.2.2.2 a.2.2.1 a.2.2.2.1 a.2.2.2.2.1 a.2.2.2.2.2.1 else k1 b q d e f h i j
def Q2S:Y UInt8:=[114,105,100,101]
def Q5v:LL->oP (Y D)
|[[.str a,_,_],[.str b,_,_],[.str c,_,_],[.str d,_,_]]=>bif KO a Q2S&&(KO b [48]&&(KO c [48]&&KO d [51,48,46,46,51,48]))then some [.int .i64 0,.int .i64 0,.int .i64 30,.int .i64 30]else none
|[[.str a,_,_],[.str b,_,_],[.str c,_,_]]=>bif KO a Q2S&&(KO b [49]&&KO c [48])then some [.int .i64 1,.int .i64 0,.int .i64 0,.int .i64 0]else none
|_=>none
def Q4q(aa:Bool)(r:Y D):LL->oP LL
|[[.str a,.int k b,.int k' c,.nl]]=>bif aa then none else some [[.str a,.int k b,.int k' c,.sl 4 [r]]]
|[[.str a,.int k b,.int k' c,.sl e l]]=>bif aa&&(Nat.beq e 4&&Nat.ble l.length 900)then some [[.str a,.int k b,.int k' c,.sl 4 (l++[r])]]else none
|_=>none
def Q5e(a:LL)(b:Int):oP LL:=(Qi a b).bind λr=>r[0]?.bind (pSl 3)
def Qac(a:LL)(b:Int):oP (Y D):=(Q5e a b).bind Q5v
def XX(a b c:LL)(k0:Qln R)(k1:QlG R):Nat->Bool->Int->Int->Int->LL->LL->LL->LL->oP R
|0,_,_,_,_,_,_,_,_=>none
|m+1,aa,d,e,f,g,h,i,j=>match Qac a d with
|some r=>(match Q4q aa r i with | some l=>XX a b c k0 k1 m true (wJ (d+1)) e f g h l j | none=>none)
|none=>JK n a b c k0 k1 (XX a b c k0 k1 m false) d e f g h i j
def Sn(a b c:LL)(k0:Qln R)(k1:QlG R)(m:Nat)(d e f:Int)(g h i j:LL):oP R:=XX n a b c k0 k1 m false d e f g h i j
def MZ(b e c f:LL)(a1:Y UInt8)(K:Int->LL->LL->LL->LL->LL->LL->LL->Int->Int->oP R):oP R:=Qc R (Vw n b e c f some) λd=>bif d !=0 then K 0 [] [] [] [] [] [] [] 0 1 else Qc R (Dz n a1 Tu3) λa=>bif a.2.2 !=0 then K 0 [] [] [] [] [] [] [] a.2.1 a.2.2 else Sn n a.1 b c (λo p=>K 0 [] [] [] [] [] [] [] o p) (λq r g s h i j k=>Qc R (We n b e c f g h i j [] [] [] k some) λl=>bif l !=0 then K 0 [] [] [] [] [] [] [] 0 l else K g h i j [] [] [] k 0 0) n 0 0 0 [] [] [] []
def FG(K:QlH R):oP R:=gb true (Q10 n (bs [115,116,97,116,105,111,110,32,88,10,115,116,97,116,105,111,110,32,89,10,115,116,97,116,105,111,110,32,90,10,115,101,99,116,105,111,110,32,120,32,49,48,32,50,48,48,48,48,32,48,32,97,116,32,88,10,115,101,99,116,105,111,110,32,97,32,49,48,32,50,48,48,48,48,32,48,10,115,101,99,116,105,111,110,32,121,32,49,48,32,50,48,48,48,48,32,48,32,97,116,32,89,10,115,101,99,116,105,111,110,32,98,32,49,48,32,50,48,48,48,48,32,48,10,115,101,99,116,105,111,110,32,122,32,49,48,32,50,48,48,48,48,32,48,32,97,116,32,90,10,108,105,110,107,32,120,32,66,32,97,32,65,10,108,105,110,107,32,97,32,66,32,121,32,65,10,108,105,110,107,32,121,32,66,32,98,32,65,10,108,105,110,107,32,98,32,66,32,122,32,65,10]) Tu6) ([],[],[],[],0,0) λa=>gb true (MZ n a.1 a.2.1 a.2.2.1 a.2.2.2.1 (bs [112,101,114,105,111,100,32,52,48,48,10,115,116,111,99,107,32,83,32,53,32,50,48,48,48,48,32,53,48,48,32,53,48,48,10,114,111,117,116,101,32,120,32,117,112,32,97,32,117,112,32,121,32,117,112,10,114,111,117,116,101,32,121,32,117,112,32,98,32,117,112,32,122,32,117,112,10,108,105,110,101,32,65,32,83,32,50,10,114,105,100,101,32,48,32,48,32,51,48,46,46,51,48,10,114,105,100,101,32,49,32,48,10,100,101,109,97,110,100,32,88,32,90,32,55,10]) Tu10) (0,[],[],[],[],[],[],[],0,0) λb=>K a.1 a.2.1 a.2.2.1 a.2.2.2.1 b.1 b.2.1 b.2.2.1 b.2.2.2.1 b.2.2.2.2.1 b.2.2.2.2.2.1 b.2.2.2.2.2.2.1 b.2.2.2.2.2.2.2.1
def Jq(c:Int)(e b a1:LL)(a2:Int)(K:Qlg R):oP R:=Qc R (G4 n c e b a1 some) λd=>Qd R (!(!d)) (JN n a2 0 (wJ ((b.length:Int)-1)) some) λf=>bif Q8 (!d) (!f)then K 0 else Qky R b a2 λa g c5 c6=>QkJ R a λh i j=>Qc R (pIw g) λp=>QkY R c5 c6 h λk l m=>QkN R i j (Qc R (VZ n c a1 k l m some) λo=>K o)
end Go.Vx
namespace Go.Vx
open Go.Proofs
abbrev nT:Y (LpE Tryz.prog):=[]
abbrev tyS(e s:Nat):TyI:=⟨.sl e s,1,24,[.slice none 0 0],[.sl s []],[],none⟩
abbrev tyN(n:Nat):TyI:=⟨.struct,n,8*n,List.replicate n (.int .i64 0),List.replicate n (.int .i64 0),(List.range n).map λi=>(i,3),some (List.replicate n (.int .i64))⟩
abbrev vS9:Value:=.slice none 0 0
abbrev vI9:Value:=.int .i64 0
abbrev vT9:Value:=.string ⟨#[]⟩
abbrev dI9:D:=.int .i64 0
abbrev kI9:Kd:=.int .i64
def gtt:TT:=[(3,⟨.int .i64,1,8,[.int .i64 0],[.int .i64 0],[],none⟩),(4,⟨.bool,1,1,[.bool false],[.bool false],[],none⟩),(5,⟨.int .u8,1,1,[.int .u8 0],[.int .u8 0],[],none⟩),(9,⟨.str,1,16,[.string ⟨#[]⟩],[.str []],[],none⟩),(22,tyS 3 1),(23,tyS 9 1),(24,tyS 62 5),(25,tyS 172 6),(27,⟨.struct,4,96,[vS9,vS9,vS9,vS9],[.sl 1 [],.sl 1 [],.sl 5 [],.sl 6 []],[(0,23),(1,23),(2,24),(3,25)],none⟩),(28,tyS 79 5),(29,tyS 66 2),(30,tyS 90 4),(31,tyS 87 7),(32,tyS 146 4),(33,tyS 93 5),(34,tyS 45 3),(36,⟨.struct,8,176,[vI9,vS9,vS9,vS9,vS9,vS9,vS9,vS9],[dI9,.sl 5 [],.sl 2 [],.sl 4 [],.sl 7 [],.sl 4 [],.sl 5 [],.sl 3 []],[(0,3),(1,28),(2,29),(3,30),(4,31),(5,32),(6,33),(7,34)],none⟩),(41,⟨.int .i64,1,8,[.int .i64 0],[.int .i64 0],[],none⟩),(45,tyN 3),(50,tyS 60 3),(51,tyS 57 6),(53,⟨.struct,3,56,[vI9,vS9,vS9],[dI9,.sl 3 [],.sl 6 []],[(0,3),(1,50),(2,51)],none⟩),(57,tyN 6),(60,tyN 3),(62,⟨.struct,5,48,[vT9,vI9,vI9,vI9,vI9],[.str [],dI9,dI9,dI9,dI9],[(0,9),(1,3),(2,3),(3,3),(4,3)],some [.str,kI9,kI9,kI9,kI9]⟩),(64,tyS 128 2),(66,⟨.struct,2,32,[vS9,vI9],[.sl 2 [],dI9],[(0,64),(1,3)],none⟩),(79,⟨.struct,5,48,[vT9,vI9,vI9,vI9,vI9],[.str [],dI9,dI9,dI9,dI9],[(0,9),(1,3),(2,3),(3,3),(4,3)],some [.str,kI9,kI9,kI9,kI9]⟩),(82,tyS 22 1),(84,⟨.struct,7,168,[vS9,vS9,vS9,vS9,vS9,vS9,vS9],[.sl 1 [],.sl 1 [],.sl 5 [],.sl 6 [],.sl 1 [],.sl 1 [],.sl 1 []],[(0,27),(4,82),(5,82),(6,82)],none⟩),(87,tyN 7),(88,tyS 130 4),(90,⟨.struct,4,56,[vT9,vI9,vI9,vS9],[.str [],dI9,dI9,.sl 4 []],[(0,9),(1,3),(2,3),(3,88)],none⟩),(93,tyN 5),(97,⟨.ptr,1,8,[.pointer none],[],[],none⟩),(104,⟨.struct,8,160,[vI9,vS9,vS9,vS9,vS9,vS9,vS9,vI9],[dI9,.sl 3 [],.sl 6 [],.sl 1 [],.sl 1 [],.sl 1 [],.sl 1 [],dI9],[(0,53),(3,82),(4,22),(5,22),(6,22),(7,3)],none⟩),(105,⟨.int .u64,1,8,[.int .u64 0],[.int .u64 0],[],none⟩),(106,tyS 110 1),(110,tyS 164 3),(111,tyS 115 4),(115,tyN 4),(118,tyS 123 2),(123,tyN 2),(128,tyN 2),(130,tyN 4),(132,⟨.other,1,8,[.nilFunc],[],[],none⟩),(136,⟨.struct,2,32,[vS9,vI9],[.sl 1 [],dI9],[(0,22),(1,3)],none⟩),(142,⟨.array 3 1 3,3,24,[.int .i64 0,.int .i64 0,.int .i64 0],[.int .i64 0,.int .i64 0,.int .i64 0],[(0,3),(1,3),(2,3)],none⟩),(144,⟨.array 4 1 4,4,4,[.bool false,.bool false,.bool false,.bool false],[.bool false,.bool false,.bool false,.bool false],[(0,4),(1,4),(2,4),(3,4)],none⟩),(146,tyN 4),(150,tyS 4 1),(152,⟨.struct,12,160,[vI9,vS9,vS9,vS9,vI9,vI9,.bool false,.bool false,.bool false,vI9,vS9,vS9],[dI9,.sl 3 [],.sl 6 [],.sl 1 [],dI9,dI9,.bool false,.bool false,.bool false,dI9,.sl 1 [],.sl 1 []],[(0,53),(3,150),(4,3),(5,3),(6,4),(7,4),(8,4),(9,3),(10,22),(11,22)],none⟩),(164,tyN 3),(172,tyN 6),(176,tyS 181 1),(181,tyS 183 3),(183,⟨.struct,3,32,[vT9,vI9,vI9],[.str [],dI9,dI9],[(0,9),(1,3),(2,3)],some [.str,kI9,kI9]⟩),(187,⟨.struct,13,280,[vS9,vS9,vS9,vS9,vI9,vS9,vS9,vS9,vS9,vS9,vS9,vS9,vI9],[.sl 1 [],.sl 1 [],.sl 5 [],.sl 6 [],dI9,.sl 5 [],.sl 2 [],.sl 4 [],.sl 7 [],.sl 4 [],.sl 5 [],.sl 3 [],dI9],[(0,27),(4,36),(12,3)],none⟩),(189,⟨.ptr,1,8,[.pointer none],[],[],none⟩),(190,tyS 224 4),(192,⟨.struct,19,424,[vS9,vS9,vS9,vS9,vI9,vS9,vS9,vS9,vS9,vS9,vS9,vS9,vS9,vS9,vS9,vS9,vI9,vS9,vS9],[.sl 1 [],.sl 1 [],.sl 5 [],.sl 6 [],dI9,.sl 5 [],.sl 2 [],.sl 4 [],.sl 7 [],.sl 4 [],.sl 5 [],.sl 3 [],.sl 1 [],.sl 1 [],.sl 1 [],.sl 4 [],dI9,.sl 3 [],.sl 6 []],[(0,27),(4,36),(12,22),(13,106),(14,22),(15,190),(16,53)],none⟩),(206,⟨.struct,2,48,[vS9,vS9],[.sl 1 [],.sl 3 []],[(0,150),(1,110)],none⟩),(209,⟨.struct,4,32,[vI9,vI9,vI9,vI9],[dI9,dI9,dI9,dI9],[(0,128),(2,3),(3,3)],some [kI9,kI9,kI9,kI9]⟩),(224,tyN 4),(228,⟨.mpb,1,8,[.map none],[],[],none⟩),(233,tyS 269 2),(238,tyS 209 4),(246,tyN 2),(261,tyS 266 2),(266,tyN 2),(269,tyN 2),(279,⟨.struct,2,32,[vS9,vI9],[.sl 2 [],dI9],[(0,233),(1,3)],none⟩),(282,tyS 164 3),(297,tyN 2),(314,tyN 2),(319,tyS 261 1),(328,⟨.int .u32,1,4,[.int .u32 0],[.int .u32 0],[],none⟩),(331,⟨.int .u64,1,8,[.int .u64 0],[.int .u64 0],[],none⟩),(343,⟨.int .u64,1,8,[.int .u64 0],[.int .u64 0],[],none⟩)]
theorem DV:TOk Tryz.prog gtt:=(show Qhn Tryz.prog [3,4,5,9,22,23,24,25,27,28,29,30,31,32,33,34,36,41,45,50,51,53,57,60,62,64,66,79,82,84,87,88,90,93,97,104,105,106,110,111,115,118,123,128,130,132,136,142,144,146,150,152,164,172,176,181,183,187,189,190,192,206,209,224,228,233,238,246,261,266,269,279,282,297,314,319,328,331,343]=gtt by kernel_rfl)▸Qe1 _
noncomputable def bT:Nat->Y (Nat×TA)->TO:=btT gtt
noncomputable def pT:Nat->Nat->Y (Nat×Sp)->Y Sp->Y Sp:=ptT gtt
noncomputable def Xa(l:Y ((f:Nat)×EnP Tryz.prog f))(cfg:Y (Nat×Cfg)):VB Tryz.prog:=⟨⟨A6 (QbQ l),gtt,cfg⟩,AA (Bm l),DV,by kernel_rfl⟩
abbrev LZ9:=Nat->LpE Tryz.prog
abbrev EZ9:=EnP Tryz.prog
abbrev BZ9:=VB Tryz.prog
abbrev QlI:Y TA:=[.arr 98000,.arr 98001,.arr 98002,.arr 98003,.arr 98004,.arr 98005,.arr 98006]
abbrev QlJ:Nat×TA:=(0,.ptr 1000000 0)
abbrev QlK:Nat×TA:=(1,tI)
abbrev QlL:Nat×TA:=(8,tI)
abbrev QlM:Nat×TA:=(16,tI)
abbrev QlN:Nat×TO:=(98000,.arr 9 1)
abbrev QlO:Nat×TO:=(98001,.arr 9 1)
abbrev QlP:Nat×TO:=(98002,.arr 62 5)
abbrev QlQ:Nat×TO:=(98003,.arr 172 6)
abbrev QlR:Nat×TO:=(98004,.arr 22 1)
abbrev QlS:Nat×TO:=(98005,.arr 22 1)
abbrev QlT:Nat×TO:=(98006,.arr 22 1)
abbrev QlU:Nat×TO:=(1000000,.box [.arr 98000,.arr 98001,.arr 98002,.arr 98003,.arr 98004,.arr 98005,.arr 98006])
abbrev QlV:Y TA:=[.l 1,tI]
abbrev QlW:Nat×TA:=(3,.ptr 14 0)
abbrev QlX:Nat×TA:=(4,tI)
abbrev QlY:Nat×TA:=(5,tI)
abbrev QlZ:Nat×TA:=(6,.arr 1006)
abbrev Qm0:Nat×TA:=(7,tI)
abbrev Qm1:Nat×TO:=(501401,.arr 9 1)
abbrev Qm2:Nat×TO:=(501402,.arr 62 5)
abbrev Qm3:Nat×TO:=(501403,.arr 172 6)
abbrev Qm4:Nat×TO:=(501404,.arr 22 1)
abbrev Qm5:Nat×TO:=(501405,.arr 22 1)
abbrev Qm6:Nat×TO:=(501406,.arr 22 1)
abbrev Qm7:Nat×TO:=(1000000,.box [.l 1,tI])
abbrev Qm8:Y TA:=[.arr 501400,.arr 501401,.arr 501402,.arr 501403,.arr 501404,.arr 501405,.arr 501406]
abbrev Qm9:Nat×TO:=(14,.box [.arr 501400,.arr 501401,.arr 501402,.arr 501403,.arr 501404,.arr 501405,.arr 501406])
abbrev Qma:Nat×TO:=(501400,.arr 9 1)
abbrev Qmb:Nat×TA:=(9,tI)
abbrev Qmc:Nat×TA:=(11,tI)
abbrev Qmd:Y (Nat×TO):=[(14,.box [.arr 501400,.arr 501401,.arr 501402,.arr 501403,.arr 501404,.arr 501405,.arr 501406]),(1010,.arr 3 1),(501400,.arr 9 1),(501401,.arr 9 1),(501402,.arr 62 5),(501403,.arr 172 6),(501404,.arr 22 1),(501405,.arr 22 1),(501406,.arr 22 1),(1000000,.box [.l 1,tI])]
abbrev Qme:Nat×TA:=(12,tI)
abbrev Qmf:Y TA:=[.nil,.ci .i64 0]
abbrev Qmg:Nat×TA:=(3,tI)
abbrev Qmh:Nat×TA:=(10,.ptr 10 0)
abbrev Qmi:Nat×TA:=(11,.l 1)
abbrev Qmj:Nat×TA:=(13,.ptr 13 0)
abbrev Qmk:Nat×TA:=(2,tI)
abbrev Qml:Nat×TA:=(15,tI)
abbrev Qmm:Y TA:=[tI,.arr 98361,.arr 98362,.arr 98363,.arr 98364,.arr 98365,.arr 98366,.arr 98367]
abbrev Qmn:Nat×TO:=(1000009,.box [tI,.arr 98361,.arr 98362,.arr 98363,.arr 98364,.arr 98365,.arr 98366,.arr 98367])
abbrev Qmo:Nat×TA:=(13,tI)
abbrev Qmp:Y TA:=[tI,.arr 98041,.arr 98042,.arr 98043,.arr 98044,.arr 98045,.arr 98046,.arr 98047]
abbrev Qmq:Nat×TA:=(6,tI)
abbrev Qmr:Nat×TA:=(14,tI)
abbrev Qms:Y (Nat×TO):=[(4,.arr 144 1),(5,.arr 144 1),(98041,.arr 79 5),(98042,.arr 66 2),(98043,.arr 90 4),(98044,.arr 87 7),(98045,.arr 146 4),(98046,.arr 93 5),(98047,.arr 45 3),(1000000,.box [.l 1,tI]),(1000001,.box [tI,.arr 98041,.arr 98042,.arr 98043,.arr 98044,.arr 98045,.arr 98046,.arr 98047])]
abbrev Qmt:Nat×TO:=(1000001,.box [tI,.arr 98041,.arr 98042,.arr 98043,.arr 98044,.arr 98045,.arr 98046,.arr 98047])
abbrev Qmu:Y TA:=[.nil,.nil,.nil,.nil]
abbrev Qmv:Y TA:=[.ci .i64 0,.nil,.nil,.nil,.nil,.nil,.nil,.nil]
abbrev Qmw:Y TA:=[.arr 100015,.arr 150015,.arr 200015,.arr 250015,.arr 300015,.arr 350015,.arr 400015]
abbrev Qmx:Nat×TA:=(2,.ptr 2 0)
abbrev Qmy:Nat×TA:=(3,.ptr 3 0)
abbrev Qmz:Nat×TA:=(4,.ptr 50013 0)
abbrev QmA:Nat×TA:=(5,.ptr 50015 0)
abbrev QmB:Nat×TA:=(6,.ptr 6 0)
abbrev QmC:Nat×TO:=(2,.box [.nil,.nil,.nil,.nil])
abbrev QmD:Nat×TO:=(3,.box [.ci .i64 0,.nil,.nil,.nil,.nil,.nil,.nil,.nil])
abbrev QmE:Nat×TO:=(50013,.box [.l 1,tI])
abbrev QmF:Nat×TO:=(50015,.box [.arr 100015,.arr 150015,.arr 200015,.arr 250015,.arr 300015,.arr 350015,.arr 400015])
abbrev QmG:Nat×TO:=(100015,.arr 9 1)
abbrev QmH:Nat×TO:=(150015,.arr 9 1)
abbrev QmI:Nat×TO:=(200015,.arr 62 5)
abbrev QmJ:Nat×TO:=(250015,.arr 172 6)
abbrev QmK:Nat×TO:=(300015,.arr 22 1)
abbrev QmL:Nat×TO:=(350015,.arr 22 1)
abbrev QmM:Nat×TO:=(400015,.arr 22 1)
abbrev QmN:Y TA:=[tI,.arr 50061,.arr 100061,.arr 150061,.arr 200061,.arr 250061,.arr 300061,.arr 350061]
abbrev QmO:Nat×TO:=(6,.box [tI,.arr 50061,.arr 100061,.arr 150061,.arr 200061,.arr 250061,.arr 300061,.arr 350061])
abbrev QmP:Nat×TO:=(100061,.arr 66 2)
abbrev QmQ:Nat×TO:=(150061,.arr 90 4)
abbrev QmR:Nat×TO:=(200061,.arr 87 7)
abbrev QmS:Nat×TO:=(250061,.arr 146 4)
abbrev QmT:Y TA:=[tI,.nil,.nil,.nil,.nil,.nil,.nil,.nil]
abbrev QmU:Y (Nat×TA):=[(2,.ptr 2 0),(3,.ptr 3 0),(4,.ptr 50013 0),(5,.ptr 50015 0),(6,.ptr 6 0),(10,tI)]
abbrev QmV:Nat×TA:=(10,tI)
abbrev QmW:Nat×TO:=(3,.box [tI,.nil,.nil,.nil,.nil,.nil,.nil,.nil])
abbrev QmX:Nat×TA:=(1,.ptr 1 0)
abbrev QmY:Nat×TA:=(3,.arr 1003)
abbrev QmZ:Nat×TO:=(1,bT 27 [])
abbrev Qn0:Y TA:=[tI,tI]
abbrev Qn1:Nat×TA:=(5,.ptr 5 0)
abbrev Qn2:Nat×TA:=(7,.ptr 7 0)
abbrev Qn3:Nat×TO:=(3,bT 27 [])
abbrev Qn4:Nat×TO:=(5,.box [tI,tI])
abbrev Qn5:Nat×TA:=(8,.ptr 8 0)
abbrev Qn6:Nat×TO:=(2,bT 27 [])
abbrev Qn7:Nat×TA:=(7,.l 1)
abbrev Qn8:Nat×TO:=(2,bT 36 [])
abbrev Qn9:Y TA:=[.ci .i64 0,.ci .i64 0,.ci .i64 0,.ci .i64 0]
abbrev Qna:Y TA:=[.x,.x,.x,.x]
abbrev Qnb:Y TA:=[.l 2,tI]
abbrev Qnc:Y (Nat×TO):=[(2,bT 27 []),(3,.box [.l 2,tI])]
abbrev Qnd:Nat×TO:=(3,.box [.l 2,tI])
abbrev Qne:Nat×TA:=(8,.arr 1008)
abbrev Qnf:Y (Nat×TO):=[(2,bT 27 []),(3,.box [.l 2,tI]),(1008,.arr 269 2)]
abbrev Qng:Nat×TA:=(4,.ptr 4 0)
abbrev Qnh:Nat×TO:=(5,bT 79 [])
abbrev Qni:Y (Nat×TO):=[(3,bT 27 []),(4,bT 36 []),(7,.box [.x,.x,.x,.x])]
abbrev Qnj:Nat×TO:=(7,.box [.x,.x,.x,.x])
abbrev Qnk:Y (Nat×TO):=[(2,bT 27 []),(3,bT 36 [])]
abbrev Qnl:Nat×TO:=(3,bT 36 [])
abbrev Qnm:Nat×TA:=(0,.l 2)
abbrev Qnn:Nat×TA:=(0,tI)
abbrev Qno:Y (Nat×TO):=[(5,bT 79 []),(29,.arr 3 1)]
abbrev Qnp:Nat×TO:=(29,.arr 3 1)
abbrev Qnq:Nat×TA:=(7,.arr 1007)
abbrev Qnr:Nat×TA:=(18,tI)
abbrev Qns:Nat×TO:=(6,.box [.l 2,tI])
abbrev Qnt:Y (Nat×TO):=[(2,bT 27 []),(3,bT 36 []),(10,.box [.x,.x,.x,.x]),(1007,.arr 110 1),(1008,.arr 3 1)]
abbrev Qnu:Nat×TO:=(1007,.arr 110 1)
abbrev Qnv:Nat×TO:=(1008,.arr 3 1)
abbrev Qnw:Y (Nat×TO):=[(2,bT 27 []),(3,bT 36 []),(1007,.arr 110 1),(1008,.arr 3 1)]
abbrev Qnx:Y (Nat×TA):=[(1,.l 1),(2,.ptr 2 0),(5,.arr 1005),(6,tI),(7,.ptr 7 0),(8,tI)]
abbrev Qny:Nat×TA:=(1,.l 1)
abbrev Qnz:Nat×TA:=(5,.arr 1005)
abbrev QnA:Y (Nat×TA):=[(1,.l 1),(2,.ptr 2 0),(5,.arr 1005),(6,tI)]
abbrev QnB:Y TA:=[.ci .i64 0,.ci .i64 0,.ci .i64 0]
abbrev QnC:Y (Nat×TO):=[(4,.box [.ci .i64 0,.ci .i64 0,.ci .i64 0])]
abbrev QnD:Nat×TO:=(4,.box [.ci .i64 0,.ci .i64 0,.ci .i64 0])
abbrev QnE:Y (Nat×TO):=[(1,bT 36 []),(1003,.arr 57 6)]
abbrev QnF:Y TA:=[.ci .i64 0,.nil,.nil]
abbrev QnG:Nat×TA:=(6,.l 1)
abbrev QnH:Y (Nat×TO):=[(3,bT 36 []),(4,.box [.ci .i64 0,.nil,.nil])]
abbrev QnI:Nat×TO:=(4,.box [.ci .i64 0,.nil,.nil])
abbrev QnJ:Nat×TA:=(10,.l 4)
abbrev QnK:Nat×TA:=(12,.ptr 12 0)
abbrev QnL:Nat×TO:=(4,.box [tI,.nil,.nil])
abbrev QnM:Nat×TO:=(1121,.arr 60 3)
abbrev QnN:Y TA:=[tI,.arr 1121,.arr 107]
abbrev QnO:Nat×TA:=(19,tI)
abbrev QnP:Y (Nat×TO):=[(3,bT 36 []),(4,.box [tI,.nil,.nil]),(12,.box [tI,.arr 1121,.arr 107]),(107,.arr 57 6),(1121,.arr 60 3)]
abbrev QnQ:Nat×TO:=(12,.box [tI,.arr 1121,.arr 107])
abbrev QnR:Y TA:=[tI,.l 3,.l 6]
abbrev QnS:Nat×TO:=(1,.box [tI,.l 3,.l 6])
abbrev QnT:Nat×TA:=(0,.arr 1000000)
abbrev QnU:Nat×TO:=(16,.arr 3 1)
abbrev QnV:Nat×TO:=(19,.arr 3 1)
abbrev QnW:Y (Nat×TO):=[(2,.box [tI,.l 3,.l 6])]
abbrev QnX:Nat×TO:=(2,.box [tI,.l 3,.l 6])
abbrev QnY:Y (Nat×TA):=[(3,.arr 98003),(11,.arr 98011)]
abbrev QnZ:Y (Nat×TA):=[(0,.ptr 1000000 0),(1,tI),(5,tI),(6,tI)]
abbrev Qo0:Y (Nat×TO):=[(98003,.arr 4 1),(98011,.arr 3 1),(1000000,bT 152 [(3,.arr 98003),(11,.arr 98011)])]
abbrev Qo1:Nat×TO:=(1000000,bT 152 [(3,.arr 98003),(11,.arr 98011)])
abbrev Qo2:Y (Nat×Sp):=[(3,eR 1000001 4 1),(11,eR 1000002 3 1)]
abbrev Qo3:Y (Nat×TA):=[(12,.arr 98012),(13,.arr 98013),(14,.arr 98014),(15,.arr 98015),(17,.arr 98017),(18,.arr 98018)]
abbrev Qo4:Y (Nat×TO):=[(98012,.arr 3 1),(98013,.arr 110 1),(98014,.arr 3 1),(98015,.arr 224 4),(98017,.arr 60 3),(98018,.arr 57 6),(1000000,bT 192 [(12,.arr 98012),(13,.arr 98013),(14,.arr 98014),(15,.arr 98015),(17,.arr 98017),(18,.arr 98018)])]
abbrev Qo5:Nat×TO:=(98012,.arr 3 1)
abbrev Qo6:Nat×TO:=(98015,.arr 224 4)
abbrev Qo7:Nat×TO:=(98017,.arr 60 3)
abbrev Qo8:Nat×TO:=(98018,.arr 57 6)
abbrev Qo9:Nat×TO:=(1000000,bT 192 [(12,.arr 98012),(13,.arr 98013),(14,.arr 98014),(15,.arr 98015),(17,.arr 98017),(18,.arr 98018)])
abbrev Qoa:Y (Nat×Sp):=[(12,eR 1000001 3 1),(15,eR 1000002 224 4),(17,eR 1000003 60 3),(18,eR 1000004 57 6)]
abbrev Qob:Y (Nat×TA):=[(12,.arr 98012),(15,.arr 98015),(17,.arr 98017),(18,.arr 98018)]
abbrev Qoc:Y (Nat×TO):=[(98012,.arr 3 1),(98015,.arr 224 4),(98017,.arr 60 3),(98018,.arr 57 6),(1000000,bT 192 [(12,.arr 98012),(15,.arr 98015),(17,.arr 98017),(18,.arr 98018)])]
abbrev Qod:Nat×TO:=(1000000,bT 192 [(12,.arr 98012),(15,.arr 98015),(17,.arr 98017),(18,.arr 98018)])
abbrev Qoe:Y (Nat×TA):=[(12,.arr 98012),(17,.arr 98017),(18,.arr 98018)]
abbrev Qof:Y TA:=[.ptr 1000000 0]
abbrev Qog:Nat×TA:=(2,.fn 134 [.ptr 1000004 0,.ptr 1000005 0,.ptr 1000006 0])
abbrev Qoh:Nat×TO:=(4,bT 224 [])
abbrev Qoi:Nat×TO:=(1000000,bT 192 [(12,.arr 98012),(17,.arr 98017),(18,.arr 98018)])
abbrev Qoj:Y (Nat×Sp):=[(12,eR 1000001 3 1),(17,eR 1000002 60 3),(18,eR 1000003 57 6)]
abbrev Qok:Y (Nat×TO):=[(98012,.arr 3 1),(98017,.arr 60 3),(98018,.arr 57 6),(1000000,bT 192 [(12,.arr 98012),(17,.arr 98017),(18,.arr 98018)])]
abbrev Qol:Y (Nat×TO):=[(1000000,.arr 266 2)]
abbrev Qom:Nat×TO:=(1000000,.arr 266 2)
abbrev Qon:Y (Nat×Sp):=[(3,eR 1000001 22 1),(4,eR 1000002 3 1),(5,eR 1000003 3 1),(6,eR 1000004 3 1)]
abbrev Qoo:Y TA:=[tI,.l 3,.l 6,.arr 98003,.arr 98004,.arr 98005,.arr 98006,tI]
abbrev Qop:Y (Nat×TO):=[(19,.arr 3 1),(98003,.arr 22 1),(98004,.arr 3 1),(98005,.arr 3 1),(98006,.arr 3 1),(1000000,.box [tI,.l 3,.l 6,.arr 98003,.arr 98004,.arr 98005,.arr 98006,tI])]
abbrev Qoq:Nat×TO:=(98003,.arr 22 1)
abbrev Qor:Nat×TO:=(98004,.arr 3 1)
abbrev Qos:Nat×TO:=(98005,.arr 3 1)
abbrev Qot:Nat×TO:=(98006,.arr 3 1)
abbrev Qou:Nat×TO:=(1000000,.box [tI,.l 3,.l 6,.arr 98003,.arr 98004,.arr 98005,.arr 98006,tI])
abbrev Qov:Y TA:=[tI,.l 3,.l 6,.arr 50049,.arr 100049,.arr 150049,.arr 200049,tI]
abbrev Qow:Y (Nat×TO):=[(1019,.arr 3 1),(50027,.box [tI,.l 3,.l 6,.arr 50049,.arr 100049,.arr 150049,.arr 200049,tI]),(50049,.arr 22 1),(100049,.arr 3 1),(150049,.arr 3 1),(200049,.arr 3 1)]
abbrev Qox:Nat×TO:=(50027,.box [tI,.l 3,.l 6,.arr 50049,.arr 100049,.arr 150049,.arr 200049,tI])
abbrev Qoy:Y TA:=[.l 1,.l 1,.l 5,.l 6,tI,.arr 98005,.arr 98006,.arr 98007,.arr 98008,.arr 98009,.arr 98010,.arr 98011,tI]
abbrev Qoz:Y (Nat×TO):=[(98005,.arr 79 5),(98006,.arr 66 2),(98007,.arr 90 4),(98008,.arr 87 7),(98009,.arr 146 4),(98010,.arr 93 5),(98011,.arr 45 3),(1000000,.box [.l 1,.l 1,.l 5,.l 6,tI,.arr 98005,.arr 98006,.arr 98007,.arr 98008,.arr 98009,.arr 98010,.arr 98011,tI])]
abbrev QoA:Nat×TO:=(98005,.arr 79 5)
abbrev QoB:Nat×TO:=(98006,.arr 66 2)
abbrev QoC:Nat×TO:=(98007,.arr 90 4)
abbrev QoD:Nat×TO:=(98008,.arr 87 7)
abbrev QoE:Nat×TO:=(98009,.arr 146 4)
abbrev QoF:Nat×TO:=(98010,.arr 93 5)
abbrev QoG:Nat×TO:=(98011,.arr 45 3)
abbrev QoH:Nat×TO:=(1000000,.box [.l 1,.l 1,.l 5,.l 6,tI,.arr 98005,.arr 98006,.arr 98007,.arr 98008,.arr 98009,.arr 98010,.arr 98011,tI])
abbrev QoI:Y (Nat×TO):=[(7,bT 27 []),(8,bT 36 []),(13,.box [tI,.l 3,.l 6])]
abbrev QoJ:Nat×TO:=(1000000,.box QlI)
abbrev QoK:Nat×TO:=(1000000,.box QlV)
abbrev QoL:Nat×TO:=(14,.box Qm8)
abbrev QoM:Y (Nat×TO):=[(14,.box Qm8),(1010,.arr 3 1),Qma,Qm1,Qm2,Qm3,Qm4,Qm5,Qm6,(1000000,.box QlV)]
abbrev QoN:Y (Nat×TO):=[(4,.arr 144 1),(5,.arr 144 1),(98041,.arr 79 5),(98042,.arr 66 2),(98043,.arr 90 4),(98044,.arr 87 7),(98045,.arr 146 4),(98046,.arr 93 5),(98047,.arr 45 3),(1000000,.box QlV),(1000001,.box Qmp)]
abbrev QoO:Nat×TO:=(2,.box Qmu)
abbrev QoP:Nat×TO:=(50013,.box QlV)
abbrev QoQ:Nat×TO:=(50015,.box Qmw)
abbrev QoR:Nat×TO:=(5,.box Qn0)
abbrev QoS:Y (Nat×TO):=[Qn6,(3,.box Qnb)]
abbrev QoT:Nat×TO:=(3,.box Qnb)
abbrev QoU:Y (Nat×TO):=[Qnl,QnL,(12,.box QnN),(107,.arr 57 6),QnM]
abbrev QoV:Y (Nat×TO):=[(98003,.arr 4 1),(98011,.arr 3 1),(1000000,bT 152 QnY)]
abbrev QoW:Y (Nat×TO):=[Qo5,(98013,.arr 110 1),(98014,.arr 3 1),Qo6,Qo7,Qo8,(1000000,bT 192 Qo3)]
abbrev QoX:Y (Nat×TO):=[Qo5,Qo6,Qo7,Qo8,(1000000,bT 192 Qob)]
abbrev QoY:Nat×TO:=(1000000,bT 192 Qob)
abbrev QoZ:Nat×TO:=(1000000,bT 192 Qoe)
abbrev Qp0:Y (Nat×TO):=[Qo5,Qo7,Qo8,(1000000,bT 192 Qoe)]
abbrev Qp1:Y (Nat×TO):=[QnV,Qoq,Qor,Qos,Qot,(1000000,.box Qoo)]
abbrev Qp2:Nat×TO:=(1000000,.box Qoo)
abbrev Qp3:Y (Nat×TO):=[(1019,.arr 3 1),(50027,.box Qov),(50049,.arr 22 1),(100049,.arr 3 1),(150049,.arr 3 1),(200049,.arr 3 1)]
abbrev Qp4:Y (Nat×TO):=[QoA,QoB,QoC,QoD,QoE,QoF,QoG,(1000000,.box Qoy)]
abbrev Qp5:Nat×TO:=(1000000,.box Qoy)
abbrev Qp6:Y (Nat×TO):=[(7,bT 27 []),(8,bT 36 []),(13,.box QnR)]
end Go.Vx
namespace Go.Vx
variable{R:Type} (n:Nat)
def HC(n:Nat)(a b:Int)(K:Qlg R):oP R:=K (wJ (wJ (2*a)+b))
def M0(n:Nat)(a0 a1:Int)(K:Qln R):oP R:=Qc R (Ac 32) λa=>K (IntKind.wrap .u32 (shR .u64 (IntKind.wrap .u64 (IntKind.wrap .u64 a0*IntKind.wrap .u64 a1)) 32)) (IntKind.wrap .u32 (IntKind.wrap .u64 (IntKind.wrap .u64 a0*IntKind.wrap .u64 a1)))
def TB(n:Nat)(a0 a1:Int)(K:Qln R):oP R:=Qc R (Ac 32) λa=>Qc R (Ac 32) λb=>Qc R (Ac 32) λc=>Qc R (Ac 32) λd=>Qc R (Ac 32) λe=>K (IntKind.wrap .u64 (IntKind.wrap .u64 (IntKind.wrap .u64 (shR .u64 a0 32*shR .u64 a1 32)+shR .u64 (IntKind.wrap .u64 (IntKind.wrap .u64 (shR .u64 a0 32*Q7f .u64 a1 4294967295)+shR .u64 (IntKind.wrap .u64 (Q7f .u64 a0 4294967295*Q7f .u64 a1 4294967295)) 32)) 32)+shR .u64 (IntKind.wrap .u64 (Q7f .u64 (IntKind.wrap .u64 (IntKind.wrap .u64 (shR .u64 a0 32*Q7f .u64 a1 4294967295)+shR .u64 (IntKind.wrap .u64 (Q7f .u64 a0 4294967295*Q7f .u64 a1 4294967295)) 32)) 4294967295+IntKind.wrap .u64 (Q7f .u64 a0 4294967295*shR .u64 a1 32))) 32)) (IntKind.wrap .u64 (a0*a1))
def Te(a0 a1:Int)(K:Qln R):oP R:=bif false then Qc R (M0 n (IntKind.wrap .u32 a0) (IntKind.wrap .u32 a1) Tu2) λa=>K (IntKind.wrap .u64 a.1) (IntKind.wrap .u64 a.2)else Qc R (TB n a0 a1 Tu2) λc=>K c.1 c.2
def RV(a:Y UInt8)(k0:Qlo R)(k1:Qlh R):Qli R
|0,_=>none
|m+1,h2=>Qb R (wJ (h2+1)) λc=>Qa R (decide (c<(a.length:Int))) λb=>bif b then Qc R (Zj a h2) λf=>Qd R (f==46) (Zj a c) λg=>bif Q9 (f==46) (g==46)then Qc R (slB a.length none (some h2)) λh=>Qc R (WS n (cut a h) Tu2) λd=>Qc R (slB a.length (some (wJ (h2+2))) none) λi=>Qc R (WS n (cut a i) Tu2) λe=>bif Q8 (Q8 (!d.2) (!e.2)) (decide (d.1>e.1))then k0 0 0 false else k0 d.1 e.1 true else RV a k0 k1 m c else k1 h2 b
def Q8s(a0:Y UInt8)(K:Qlo R):oP R:=RV n a0 (λa b c=>K a b c) (λd e=>K 0 0 false) n 0
end Go.Vx
set_option maxRecDepth 100000
namespace Go.Vx
open Go.Proofs
variable(n:Nat)
def Q6r:EZ9 20:=mkW (Xa [] []).ok nT 20 Tryz.f20 [sL 1] [eP 5 2,sL 1,sI] [] 0 0 @Q00 n
def AL:EZ9 12:=mkD (Xa [] []).ok nT 12 Tryz.f12 0 @Hp n
def Ug:EZ9 22:=mkW (Xa [⟨12,AL n⟩] []).ok nT 22 Tryz.f22 [eP 1000000 2,sL 1,sI,sI] [sI] [] 0 2 @Qm n
def Mi:EZ9 48:=mkD (Xa [] []).ok nT 48 Tryz.f48 0 @Vz n
def Mm:EZ9 49:=mkW (Xa [⟨22,Ug n⟩] []).ok nT 49 Tryz.f49 [eP 1000000 2,sL 1,sI,sT,sI] [eA [qT,qI,qI,qI,qI]] [] 0 32 @WE n
def M3:EZ9 50:=mkW (Xa [] []).ok nT 50 Tryz.f50 [eP 1000000 7,eR 1000001 9 1,eR 1000002 9 1,eR 1000003 62 5,eR 1000004 172 6,eR 1000005 22 1,eR 1000006 22 1,eR 1000007 22 1,eA [qT,qI,qI,qI,qI]] [sI] [] 123 246 @Zi n
def Kg:EZ9 51:=mkW (Xa [] []).ok nT 51 Tryz.f51 [eP 1000000 7,eR 1000001 9 1,eR 1000002 9 1,eR 1000003 62 5,eR 1000004 172 6,eR 1000005 22 1,eR 1000006 22 1,eR 1000007 22 1,sI,sI,sI,sI] [eT 0] [] 119 119 @Yl n
def Rl:EZ9 70:=mkW (Xa [⟨48,Mi n⟩] []).ok nT 70 Tryz.f70 [eP 1000000 7,eR 1000001 9 1,eR 1000002 9 1,eR 1000003 62 5,eR 1000004 172 6,eR 1000005 22 1,eR 1000006 22 1,eR 1000007 22 1] [sI] [] 125 250 @Zy n
def Ka:BZ9:=Xa [⟨70,Rl n⟩,⟨51,Kg n⟩] []
def Nu:LZ9:=mkU (Ka n).ok nT 4 Tryz.f52 [QlJ,QlK,(2,.l 1),(3,.b),QlL,QlM,(17,tI)] [QlN,QlO,QlP,QlQ,QlR,QlS,QlT,QoJ] 39973 [xE 0 [(18,.b)]] @QO n
def NU:EZ9 52:=mkW (Ka n).ok [Nu n n] 52 Tryz.f52 [eP 1000000 7,eR 1000001 9 1,eR 1000002 9 1,eR 1000003 62 5,eR 1000004 172 6,eR 1000005 22 1,eR 1000006 22 1,eR 1000007 22 1,sI,sL 1,sB] [eT 0] [] 117 117 @Ve n
def Ks:BZ9:=Xa [⟨22,Ug n⟩,⟨48,Mi n⟩,⟨49,Mm n⟩,⟨50,M3 n⟩,⟨51,Kg n⟩,⟨52,NU n⟩] [(3,⟨[],[],[],[(14,0,501400,9,1),(14,1,501401,9,1),(14,2,501402,62,5),(14,3,501403,172,6),(14,4,501404,22,1),(14,5,501405,22,1),(14,6,501406,22,1)],[]⟩),(8,⟨[],[],[(6,1006,3,1)],[],[]⟩),(19,⟨[],[],[(10,1010,3,1)],[],[]⟩)]
def Q6u:LZ9:=mkU (Ks n).ok nT 9 Tryz.f21 [QlJ,QlW,QlX,QlY,QlZ,Qm0] [(14,.box [.arr 32,.arr 501401,.arr 501402,.arr 501403,.arr 501404,.arr 501405,.arr 501406]),(32,.arr 9 1),(1006,.arr 3 1),Qm1,Qm2,Qm3,Qm4,Qm5,Qm6,QoK] 1241670 [xE 2 [(40,.b)]] @JX n
def Q6j:LZ9:=mkU (Ks n).ok [Q6u n n] 4 Tryz.f21 [QlJ,QlW,QlX,QlY] [QoL,Qma,(501401,.arc 9 1),Qm2,(501403,.arc 172 6),Qm4,(501405,.arc 22 1),(501406,.arc 22 1),QoK] 1942 [xE 0 [(20,.b)]] @UD n
def Q6d:LZ9:=mkU (Ks n).ok nT 20 Tryz.f21 [QlJ,QlW,QlX,Qmb,(10,.arr 1010),Qmc] QoM 1241562 [xE 6 [(80,.b)]] @JV n
def Q5i:LZ9:=mkU (Ks n).ok nT 24 Tryz.f21 [QlJ,QlW,QlX,Qmb,(10,.arr 1010),Qme] QoM 4419 [xE 8 [(98,.b)]] @SN n
def Q5H:LZ9:=mkU (Ks n).ok [Q6d n n,Q5i n n] 16 Tryz.f21 [QlJ,QlW,QlX,Qmb] [QoL,Qma,Qm1,Qm2,Qm3,Qm4,Qm5,(501406,.arc 22 1),QoK] 51739 [xE 4 [(73,.b)]] @Uq n
def Q7Z:EZ9 21:=mkW (Ks n).ok [Q6j n n,Q5H n n] 21 Tryz.f21 [eP 1000000 2,sL 1,sI] [eP 14 7,eR 501400 9 1,eR 501401 9 1,eR 501402 62 5,eR 501403 172 6,eR 501404 22 1,eR 501405 22 1,eR 501406 22 1] [] 0 128 @Q2V n
def UY(n:Nat):BZ9:=Xa [] []
def SB:LZ9:=mkU (UY n).ok nT 6 Tryz.f53 [QlK,Qmg,Qmh,Qmi,(12,.arr 98004),Qmj,(48,tI),(49,tI)] [(10,.box Qmf),(13,.box [.arr 45,.ci .i64 0]),(45,.arr 128 2),QlN,QlO,QlP,QlQ,QlR,QlS,QlT,QoJ] 684 [xE 0 [(50,.b)]] @ZI n
def S5:LZ9:=mkU (UY n).ok nT 14 Tryz.f53 [QlK,Qmk,Qmh,Qmi,(12,.arr 98004),Qmj,Qml] [(10,.box Qmf),(13,.box [.arr 104,.ci .i64 0]),(104,.arr 128 2),QlN,QlO,QlP,QlQ,QlR,QlS,QlT,QoJ] 225 [xE 2 [(110,.b)]] @ZP n
def RP:EZ9 53:=mkW (UY n).ok [SB n n,S5 n n] 53 Tryz.f53 [eP 1000000 7,eR 1000001 9 1,eR 1000002 9 1,eR 1000003 62 5,eR 1000004 172 6,eR 1000005 22 1,eR 1000006 22 1,eR 1000007 22 1,sI,sI,sI,sB] [eO 2,eR 96001 128 2,sI] [] 79 508 @YF n
def Vk:BZ9:=Xa [⟨48,Mi n⟩,⟨22,Ug n⟩,⟨53,RP n⟩] [(7,⟨[],[],[],[(10,3,1103,130,4)],[]⟩)]
def Rc:LZ9:=mkU (Vk n).ok nT 3 Tryz.f23 [QlJ,(1,.ptr 1000008 0),(2,.ptr 1000009 0),(3,.b),QlX,Qmh,(11,.ac 11 0 0),(25,tI)] [(10,.box [.t,.ci .i64 0,tI,.nil]),(11,.arr 142 1),QlN,QlO,QlP,QlQ,QlR,QlS,QlT,(98361,.arr 79 5),(98362,.arr 66 2),(98363,.arr 90 4),(98364,.arr 87 7),(98365,.arr 146 4),(98366,.arr 93 5),(98367,.arr 45 3),QoJ,(1000008,.box QlV),(1000009,.box Qmm)] 24407491311 [xE 0 [(26,.b)]] @Wc n
def RM:LZ9:=mkU (Vk n).ok nT 8 Tryz.f23 [QlJ,(1,.ptr 1000008 0),(2,.ptr 1000009 0),(3,.b),QlX,Qmh,(11,.ac 11 0 0),Qmo] [(10,.box [.t,.ci .i64 0,tI,.arr 1103]),(11,.arr 142 1),(1103,.arr 130 4),QlN,QlO,QlP,QlQ,QlR,QlS,QlT,(98361,.arr 79 5),(98362,.arr 66 2),(98363,.arr 90 4),(98364,.arr 87 7),(98365,.arr 146 4),(98366,.arr 93 5),(98367,.arr 45 3),QoJ,(1000008,.box QlV),(1000009,.box Qmm)] 73251880546 [xE 2 [(35,.b)]] @QS n
def Np:EZ9 23:=mkW (Vk n).ok [Rc n n,RM n n] 23 Tryz.f23 [eP 1000000 7,eR 1000001 9 1,eR 1000002 9 1,eR 1000003 62 5,eR 1000004 172 6,eR 1000005 22 1,eR 1000006 22 1,eR 1000007 22 1,eP 1000008 2,sL 1,sI,eP 1000009 8,sI,eR 1000010 79 5,eR 1000011 66 2,eR 1000012 90 4,eR 1000013 87 7,eR 1000014 146 4,eR 1000015 93 5,eR 1000016 45 3,sB,sI] [eT 0] [] 124495 124671 @UN n
def Ax:EZ9 25:=mkD (Xa [] []).ok nT 25 Tryz.f25 0 @Me n
def Cf:EZ9 26:=mkD (Xa [] []).ok nT 26 Tryz.f26 0 @S7 n
def HB:BZ9:=Xa [⟨22,Ug n⟩,⟨25,Ax n⟩,⟨26,Cf n⟩] []
def CZ:LZ9:=mkU (HB n).ok nT 5 Tryz.f24 [QlJ,(1,.ptr 1000001 0),(4,.ac 4 0 0),(5,.ac 5 0 0),Qmq,Qmo,Qmr,(21,tI),(22,tI)] QoN 79097176 [xE 2 [(23,.b)]] @Yz n
def B1:LZ9:=mkU (HB n).ok [CZ n n] 2 Tryz.f24 [QlJ,(1,.ptr 1000001 0),(4,.ac 4 0 0),(5,.ac 5 0 0),Qmo,Qmr] QoN 2929525 [xE 0 [(15,.b)]] @U0 n
def BF:EZ9 24:=mkW (HB n).ok [B1 n n] 24 Tryz.f24 [eP 1000000 2,sL 1,sI,eP 1000001 8,sI,eR 1000002 79 5,eR 1000003 66 2,eR 1000004 90 4,eR 1000005 87 7,eR 1000006 146 4,eR 1000007 93 5,eR 1000008 45 3] [eT 0] [] 0 893 @RK n
def Hc:BZ9:=Xa [⟨20,Q6r n⟩,⟨21,Q7Z n⟩,⟨22,Ug n⟩,⟨23,Np n⟩,⟨24,BF n⟩,⟨25,Ax n⟩,⟨26,Cf n⟩] [(4,⟨[],[],[],[(6,2,500602,66,2),(6,3,500603,90,4),(6,4,500604,87,7),(6,5,500605,146,4),(6,6,500606,93,5),(6,7,500607,45,3)],[]⟩)]
def Q3Y:LZ9:=mkU (Hc n).ok nT 5 Tryz.f7 [Qmx,Qmy,Qmz,QmA,QmB,Qm0] [QoO,(3,.box Qmv),(6,.box [tI,.arr 37,.arr 500602,.arr 500603,.arr 500604,.arr 500605,.arr 500606,.arr 500607]),(37,.arr 79 5),QoP,QoQ,QmG,QmH,QmI,QmJ,QmK,QmL,QmM,(500602,.arr 66 2),(500603,.arr 90 4),(500604,.arc 87 7),(500605,.arc 146 4),(500606,.arc 93 5),(500607,.arc 45 3)] 4330451 [xE 0 [(43,.b)]] @G3 n
def Q3x:LZ9:=mkU (Hc n).ok nT 10 Tryz.f7 [Qmx,Qmy,Qmz,QmA,QmB,QlL] [QoO,(3,.box Qmv),(6,.box QmN),QoP,QoQ,(50061,.arr 79 5),QmG,QmP,QmH,QmQ,QmI,QmR,QmJ,QmS,QmK,(300061,.arc 93 5),QmL,(350061,.arc 45 3),QmM] 676661 [xE 2 [(71,.b)]] @VX n
def Q4r:LZ9:=mkU (Hc n).ok nT 22 Tryz.f7 QmU [QoO,(3,.box QmT),(6,.box [tI,.arr 50061,.arr 100061,.arr 150061,.arr 200061,.arr 250061,.arr 175,.arr 350061]),(175,.arr 93 5),QoP,QoQ,(50061,.arr 79 5),QmG,QmP,QmH,QmQ,QmI,QmR,QmJ,QmS,QmK,QmL,(350061,.arr 45 3),QmM] 258283082 [xE 4 [(180,.b)]] @V7 n
def Q4W:LZ9:=mkU (Hc n).ok nT 22 Tryz.f7 QmU [QoO,(3,.box QmT),(6,.box QmN),QoP,QoQ,(50061,.arr 79 5),QmG,QmP,QmH,QmQ,QmI,QmR,QmJ,QmS,QmK,(300061,.arr 93 5),QmL,(350061,.arr 45 3),QmM] 258281246 [.f (.exit 4) [(2,.ptr 2 0),(3,.ptr 3 0),(4,.ptr 50013 0),(5,.ptr 50015 0),(6,.ptr 6 0),(10,tI),(180,.b)] [(2,.box Qmu),(3,.box QmT),(6,.box QmN),(50013,.box QlV),(50015,.box Qmw),(50061,.arr 79 5),(100015,.arr 9 1),(100061,.arr 66 2),(150015,.arr 9 1),(150061,.arr 90 4),(200015,.arr 62 5),(200061,.arr 87 7),(250015,.arr 172 6),(250061,.arr 146 4),(300015,.arr 22 1),(350015,.arr 22 1),(350061,.arr 45 3),(400015,.arr 22 1),(300061,.arr 93 5)] [0,0,2,3,4,0,6,7,8,9,10,11,12,13,14,15,17,0,19,16]] @Ha n
def Q5h:EZ9 7:=mkD (Hc n).ok [Q3Y n n,Q3x n n,orL (Q4r n n) (Q4W n n)] 7 Tryz.f7 0 @Ss n
def Q2k:EZ9 185:=mkD (Xa [] []).ok nT 185 Tryz.f185 0 @LJ n
def C9:EZ9 186:=mkD (Xa [] []).ok nT 186 Tryz.f186 0 @Dp n
def C2:BZ9:=Xa [⟨185,Q2k n⟩,⟨186,C9 n⟩] []
def Q4L:LZ9:=mkU (C2 n).ok nT 4 Tryz.f143 [(0,.t),Qmg] [] 7 [.f .ret [(2,.cb false)] [] [],xE 0 [(21,.b)]] @NT n
def LV:EZ9 143:=mkD (C2 n).ok [Q4L n n] 143 Tryz.f143 0 @M7 n
def Et:BZ9:=Xa [⟨143,LV n⟩] []
def Q26:LZ9:=mkU (Et n).ok nT 4 Tryz.f109 [(0,.l 1),QlK,QlY] [] 22 [.f .ret [(4,.ci .i64 5)] [] [],xE 0 [(14,.b)]] @Re n
def Q3l:EZ9 109:=mkD (Et n).ok [Q26 n n] 109 Tryz.f109 0 @Mv n
def Jl(n:Nat):BZ9:=Xa [] [(2,⟨[],[],[(3,1003,9,1)],[],[]⟩)]
def HK:LZ9:=mkU (Jl n).ok nT 3 Tryz.f110 [QmX,QmY,QlX] [QmZ,(1003,.arr 9 1)] 515 [xE 0 [(9,.b)]] @YR n
def Lo:EZ9 110:=mkD (Jl n).ok [HK n n] 110 Tryz.f110 0 @V3 n
def Lt:EZ9 110:=mkW (Jl n).ok [HK n n] 110 Tryz.f110 [eA [qL 1,qL 1,qL 5,qL 6]] [eR 1003 9 1] [] 0 0 @V3 n
def Q3R:EZ9 111:=mkD (Xa [] []).ok nT 111 Tryz.f111 0 @Kq n
def Q1f:EZ9 154:=mkD (Xa [] []).ok nT 154 Tryz.f154 0 @Ba n
def C0:BZ9:=Xa [⟨154,Q1f n⟩] []
def Q4x:LZ9:=mkU (C0 n).ok nT 4 Tryz.f155 [QlK,Qmy,Qn1,Qn2,QlL,(9,.ptr 9 0),QmV] [Qn3,QoR,(7,.box [.x,.x,.x,.x,.x,.x]),(9,.box [.x,.x,.x,.x,.x,.x])] 10446013798 [xE 0 [(19,.b)]] @Pi n
def Q5N:EZ9 155:=mkD (C0 n).ok [Q4x n n] 155 Tryz.f155 0 @BI n
def Sa:BZ9:=Xa [⟨111,Q3R n⟩,⟨154,Q1f n⟩,⟨155,Q5N n⟩] []
def EI:LZ9:=mkU (Sa n).ok nT 9 Tryz.f112 [QlK,Qmx,Qn2,Qn5,Qmb] [Qn6,(7,.box Qn0),(8,.box Qn0)] 29410 [.f .ret [(4,.ci .i64 5)] [] [],xE 0 [(85,.b)]] @KM n
def Cm:EZ9 112:=mkD (Sa n).ok [EI n n] 112 Tryz.f112 0 @JH n
def GA:BZ9:=Xa [⟨109,Q3l n⟩,⟨110,Lo n⟩,⟨111,Q3R n⟩,⟨112,Cm n⟩] []
def Q2N:LZ9:=mkU (GA n).ok nT 6 Tryz.f76 [QmX,Qmg] [QmZ] 5 [.f .ret [(2,tI)] [] [0],xE 0 [(43,.b)]] @R7 n
def Q2t:LZ9:=mkU (GA n).ok nT 12 Tryz.f76 [QmX,QlY] [QmZ] 11 [.f .ret [(2,tI)] [] [0],xE 2 [(57,.b)]] @Rh n
def Q2p:LZ9:=mkU (GA n).ok nT 19 Tryz.f76 [QmX,Qn7,QlL] [QmZ] 97 [.f .ret [(2,tI)] [] [0],xE 4 [(73,.b)]] @Jb n
def Q33:LZ9:=mkU (GA n).ok nT 28 Tryz.f76 [QmX,Qmc] [QmZ] 122 [.f .ret [(2,tI)] [] [0],xE 6 [(117,.b)]] @J2 n
def Pd:EZ9 76:=mkD (GA n).ok [Q2N n n,Q2t n n,Q2p n n,Q33 n n] 76 Tryz.f76 0 @Vw n
def DX(n:Nat):BZ9:=Xa [] []
def Q4G:LZ9:=mkU (DX n).ok nT 4 Tryz.f87 [QmX,Qmg] [(1,bT 36 [])] 83 [.f .ret [(2,.cb true)] [] [],xE 0 [(48,.b)]] @G7 n
def Q5W:EZ9 87:=mkD (DX n).ok [Q4G n n] 87 Tryz.f87 0 @Fh n
def Tp:EZ9 63:=mkD (Xa [] []).ok nT 63 Tryz.f63 0 @VI n
def EA:EZ9 95:=mkD (Xa [] []).ok nT 95 Tryz.f95 0 @Hy n
def KH:EZ9 144:=mkD (Xa [⟨95,EA n⟩] []).ok nT 144 Tryz.f144 0 @Ya n
def Pn:BZ9:=Xa [⟨143,LV n⟩,⟨144,KH n⟩] []
def FL:LZ9:=mkU (Pn n).ok nT 4 Tryz.f88 [QlK,Qmx,QlY] [Qn8] 34 [.f .ret [(4,.ci .i64 5)] [] [],xE 0 [(16,.b)]] @GQ n
def EJ:EZ9 88:=mkD (Pn n).ok [FL n n] 88 Tryz.f88 0 @Gx n
def Lg(n:Nat):BZ9:=Xa [] [(5,⟨[],[],[(6,1006,209,4)],[],[]⟩)]
def Q0j:LZ9:=mkU (Lg n).ok nT 6 Tryz.f148 [Qmx,Qn1,QlZ,Qm0] [Qn6,QoR,(1006,.arr 209 4)] 5429 [xE 0 [(22,.b)]] @Zn n
def Q2J:EZ9 148:=mkD (Lg n).ok [Q0j n n] 148 Tryz.f148 0 @A3 n
def Le:BZ9:=Xa [⟨148,Q2J n⟩] []
def Q0m:LZ9:=mkU (Le n).ok nT 3 Tryz.f100 [Qn1,QmB,(8,.l 4),Qmb] [QoR,(6,.box Qn9)] 43 [.f .ret [(6,.ptr 6 0),(7,.cb true)] [(6,.box Qna)] [0,0,0,0],xE 0 [(16,.b)]] @PG n
def FQ:EZ9 100:=mkF (Le n).ok [Q0m n n] 100 Tryz.f100 [eA [qL 1,qL 1,qL 5,qL 6],eA [qI,qI],eA [qI,qI]] [eT 2,eA [qX,qX,qX,qX],sB] 0 @JS n
def Uh:BZ9:=Xa [⟨76,Pd n⟩,⟨95,EA n⟩,⟨100,FQ n⟩] []
def F9:LZ9:=mkU (Uh n).ok nT 8 Tryz.f89 [Qmx,Qmy,QlY] QoS 272 [.f .ret [(4,.ci .i64 4)] [] [],xE 0 [(39,.b)]] @YN n
def F6:LZ9:=mkU (Uh n).ok nT 16 Tryz.f89 [Qmx,Qmy,Qmq,Qm0] QoS 736 [.f .ret [(4,.ci .i64 5)] [] [],xE 4 [(73,.b)]] @GM n
def Fu:LZ9:=mkU (Uh n).ok [F6 n n] 13 Tryz.f89 [Qmx,Qmy,Qmq] QoS 245 [.f .ret [(4,.ci .i64 5)] [] [],xE 2 [(68,.b)]] @VO n
def FN:LZ9:=mkU (Uh n).ok nT 21 Tryz.f89 [Qmx,Qmy,QlL] QoS 365 [.f .ret [(4,.ci .i64 11)] [] [],xE 6 [(93,.b)]] @YK n
def PQ:EZ9 89:=mkD (Uh n).ok [F9 n n,Fu n n,FN n n] 89 Tryz.f89 0 @VW n
def R4:EZ9 145:=mkD (Xa [] []).ok nT 145 Tryz.f145 0 @Kn n
def Rk:BZ9:=Xa [⟨89,PQ n⟩] [(5,⟨[],[],[(8,1008,269,2)],[],[]⟩)]
def Q2q:LZ9:=mkU (Rk n).ok nT 13 Tryz.f146 [Qmx,Qmy,Qne,Qmb,Qmh,Qmc,Qme] [Qn6,QoT,(10,.box [.x,.x,.x,.x,.x]),(1008,.arr 269 2)] 9802155 [xE 2 [(53,.b)]] @Ud n
def Q2n:LZ9:=mkU (Rk n).ok [Q2q n n] 6 Tryz.f146 [Qmx,Qmy,Qne,Qmb] [Qn6,QoT,(1008,.arr 269 2)] 5375 [xE 0 [(26,.b)]] @Un n
def DN:EZ9 146:=mkD (Rk n).ok [Q2n n n] 146 Tryz.f146 0 @S9 n
def DI:BZ9:=Xa [⟨146,DN n⟩,⟨144,KH n⟩] []
def Q3W:LZ9:=mkU (DI n).ok nT 7 Tryz.f94 [Qmy,Qng,Qn1,QmV] [Qn3,(4,.box Qnb),Qnh] 7562 [.f .ret [(6,.ci .i64 12)] [] [],xE 0 [(31,.b)]] @Ga n
def LD:EZ9 94:=mkD (DI n).ok [Q3W n n] 94 Tryz.f94 0 @SC n
def Pj:EZ9 15:=mkD (Xa [] []).ok nT 15 Tryz.f15 0 @VE n
def Rw:EZ9 17:=mkD (Xa [] []).ok nT 17 Tryz.f17 0 @Jt n
def Km:BZ9:=Xa [⟨143,LV n⟩,⟨63,Tp n⟩,⟨145,R4 n⟩,⟨94,LD n⟩,⟨15,Pj n⟩,⟨17,Rw n⟩] []
def Df:LZ9:=mkU (Km n).ok nT 5 Tryz.f90 [Qmk,Qmy,Qng,Qn2,QlL] [Qn3,(4,bT 36 []),(7,.box Qna)] 4802659 [.f .ret [(6,.ci .i64 5)] [] [],xE 0 [(24,.b)]] @Wz n
def DA:LZ9:=mkU (Km n).ok nT 14 Tryz.f90 [Qmy,Qng,Qn2,Qmb] [Qn3,(4,bT 36 []),(7,.box Qna)] 48626852 [.f .ret [(6,tI)] [] [0],xE 2 [(58,.b)]] @Wr n
def B3:EZ9 90:=mkD (Km n).ok [Df n n,DA n n] 90 Tryz.f90 0 @KR n
def AG:EZ9 93:=mkD (Xa [⟨63,Tp n⟩] []).ok nT 93 Tryz.f93 0 @Jz n
def H4:EZ9 16:=mkF (Xa [] []).ok nT 16 Tryz.f16 [eA [qI,qL 5,qL 2,qL 4,qL 7,qL 4,qL 5,qL 3],sI,sI] [eA [qX,qX]] 0 @Xj n
def E8:EZ9 91:=mkD (Xa [⟨93,AG n⟩,⟨145,R4 n⟩,⟨63,Tp n⟩,⟨16,H4 n⟩,⟨17,Rw n⟩,⟨15,Pj n⟩] []).ok nT 91 Tryz.f91 0 @HD n
def PX:BZ9:=Xa [⟨63,Tp n⟩,⟨145,R4 n⟩,⟨16,H4 n⟩,⟨17,Rw n⟩,⟨15,Pj n⟩] []
def D4:LZ9:=mkU (PX n).ok nT 5 Tryz.f92 [QlK,Qmx,Qn1,Qmq] [Qn8,(5,.box Qna)] 238390 [.f .ret [(4,.ci .i64 5)] [] [],xE 0 [(43,.b)]] @WA n
def Ci:EZ9 92:=mkD (PX n).ok [D4 n n] 92 Tryz.f92 0 @KW n
def YE:BZ9:=Xa [⟨76,Pd n⟩,⟨87,Q5W n⟩,⟨63,Tp n⟩,⟨88,EJ n⟩,⟨89,PQ n⟩,⟨90,B3 n⟩,⟨91,E8 n⟩,⟨92,Ci n⟩,⟨93,AG n⟩] []
def Dq:LZ9:=mkU (YE n).ok nT 8 Tryz.f60 [Qmx,Qmy,QlY] Qnk 797042 [.f .ret [(4,tI)] [] [0],xE 0 [(32,.b)]] @Wv n
def EH:LZ9:=mkU (YE n).ok nT 14 Tryz.f60 [Qmx,Qmy,Qm0] Qnk 2309 [.f .ret [(4,tI)] [] [0],xE 2 [(45,.b)]] @Wq n
def EK:LZ9:=mkU (YE n).ok nT 20 Tryz.f60 [Qmx,Qmy,Qmb] Qnk 797162 [.f .ret [(4,tI)] [] [0],xE 4 [(62,.b)]] @Wu n
def DF:LZ9:=mkU (YE n).ok nT 26 Tryz.f60 [Qmx,Qmy,Qmc] Qnk 797162 [.f .ret [(4,tI)] [] [0],xE 6 [(76,.b)]] @Zg n
def EU:LZ9:=mkU (YE n).ok nT 32 Tryz.f60 [Qmx,Qmy,Qmo] Qnk 797042 [.f .ret [(4,tI)] [] [0],xE 8 [(94,.b)]] @Za n
def EX:LZ9:=mkU (YE n).ok nT 38 Tryz.f60 [Qmx,Qmy,Qml] Qnk 797042 [.f .ret [(4,.ci .i64 4)] [] [],xE 10 [(107,.b)]] @Z6 n
def EZ:LZ9:=mkU (YE n).ok nT 44 Tryz.f60 [Qmx,Qmy,(17,tI)] Qnk 531446 [.f .ret [(4,.ci .i64 4)] [] [],xE 12 [(158,.b)]] @Zc n
def Nj:EZ9 60:=mkD (YE n).ok [Dq n n,EH n n,EK n n,DF n n,EU n n,EX n n,EZ n n] 60 Tryz.f60 0 @We n
def FO(n:Nat):BZ9:=Xa [] []
def Q1V:LZ9:=mkU (FO n).ok nT 2 Tryz.f61 [QlK,Qmx,Qng,Qmq] [Qn8,(4,.box Qn9)] 2194 [.f .ret [(4,.ptr 4 0),(5,.cb true)] [(4,.box Qna)] [0,0,0,0],xE 0 [(11,.b)]] @J4 n
def DS:EZ9 61:=mkF (FO n).ok [Q1V n n] 61 Tryz.f61 [eA [qI,qL 5,qL 2,qL 4,qL 7,qL 4,qL 5,qL 3],sI] [eT 2,eA [qX,qX,qX,qX],sB] 223 @Sz n
def Q05:BZ9:=Xa [⟨144,KH n⟩,⟨95,EA n⟩] []
def Q5m:LZ9:=mkU (Q05 n).ok nT 6 Tryz.f211 [Qnm,QlK,Qm0] [] 19 [.f .ret [(6,.ci .i64 4)] [] [],xE 0 [(17,.b)]] @Ko n
def Q82:EZ9 211:=mkD (Q05 n).ok [Q5m n n] 211 Tryz.f211 0 @B9 n
def ED(n:Nat):BZ9:=Xa [] []
def Q1H:LZ9:=mkU (ED n).ok nT 3 Tryz.f212 [Qnm,QlK,Qm0,QlL] [] 76 [xE 0 [(18,.b)]] @J1 n
def Q3C:EZ9 212:=mkD (ED n).ok [Q1H n n] 212 Tryz.f212 0 @PW n
def Q3K:EZ9 213:=mkD (Xa [] []).ok nT 213 Tryz.f213 0 @MM n
def Q4d:EZ9 214:=mkD (Xa [] []).ok nT 214 Tryz.f214 0 @MJ n
def DR(n:Nat):BZ9:=Xa [] []
def Q53:LZ9:=mkU (DR n).ok nT 4 Tryz.f215 [Qnn,Qmg,QlX] [] 25 [xE 0 [(10,.b)]] @VR n
def Q5j:EZ9 215:=mkD (DR n).ok [Q53 n n] 215 Tryz.f215 0 @Mn n
def Jr:BZ9:=Xa [⟨211,Q82 n⟩,⟨212,Q3C n⟩,⟨213,Q3K n⟩,⟨214,Q4d n⟩,⟨215,Q5j n⟩] []
def Q0N:LZ9:=mkU (Jr n).ok nT 7 Tryz.f187 [Qnm,QlK,Qn1,Qmb,(10,.arr 29),Qmc] Qno 49234 [xE 0 [(32,.b)]] @UC n
def Q0h:LZ9:=mkU (Jr n).ok nT 12 Tryz.f187 [Qnm,QlK,Qn1,Qmb,(10,.arr 29),Qmo] Qno 49234 [xE 2 [(57,.b)]] @UH n
def Q0y:LZ9:=mkU (Jr n).ok nT 16 Tryz.f187 [Qnm,QlK,Qn1,Qmb,(10,.arr 29),Qmr] Qno 49225 [xE 4 [(86,.b)]] @UL n
def Q0p:LZ9:=mkU (Jr n).ok nT 20 Tryz.f187 [Qmb,(10,.arr 29),Qml] [Qnp] 25 [xE 6 [(116,.b)]] @Vy n
def Q2G:EZ9 187:=mkD (Jr n).ok [Q0N n n,Q0h n n,Q0y n n,Q0p n n] 187 Tryz.f187 0 @Rp n
def LC:EZ9 97:=mkD (Xa [] []).ok nT 97 Tryz.f97 0 @Jp n
def Ew:BZ9:=Xa [⟨187,Q2G n⟩,⟨97,LC n⟩] []
def Q1Y:LZ9:=mkU (Ew n).ok nT 6 Tryz.f147 [(8,.l 1),(10,.arr 24),Qmc] [(24,.arr 3 1)] 25 [xE 0 [(28,.b)]] @J8 n
def Q4t:EZ9 147:=mkD (Ew n).ok [Q1Y n n] 147 Tryz.f147 0 @PN n
def Mj:BZ9:=Xa [⟨94,LD n⟩,⟨146,DN n⟩,⟨147,Q4t n⟩,⟨97,LC n⟩] [(7,⟨[],[],[(6,1006,3,1),(7,1007,3,1)],[],[]⟩)]
def Bn:LZ9:=mkU (Mj n).ok nT 8 Tryz.f96 [Qmy,Qng,Qn1,QlZ,Qnq,(14,.l 1),QlM,(17,tI)] [Qn3,(4,.box Qnb),Qnh,(1006,.arr 3 1),(1007,.arr 3 1)] 38331817 [xE 0 [(46,.b)]] @Zx n
def Q0a:EZ9 96:=mkD (Mj n).ok [Bn n n] 96 Tryz.f96 0 @Po n
def Q55:EZ9 98:=mkD (Xa [] []).ok nT 98 Tryz.f98 0 @VF n
def Fo:EZ9 99:=mkW (Xa [] []).ok nT 99 Tryz.f99 [eP 1000000 2,eR 1000001 4 1,eR 1000002 164 3,sI,sI,sI] [eT 0] [] 0 0 @YV n
def M2:BZ9:=Xa [⟨94,LD n⟩,⟨95,EA n⟩,⟨96,Q0a n⟩,⟨97,LC n⟩,⟨98,Q55 n⟩,⟨99,Fo n⟩,⟨100,FQ n⟩] [(31,⟨[],[],[(27,1027,164,3)],[],[]⟩)]
def Q45:LZ9:=mkU (M2 n).ok nT 12 Tryz.f62 [Qmg,QlX,Qn1,QmB,(14,.l 1),(15,.l 1),QlM,Qnr,(19,.ptr 65 0),(20,tI),(21,tI),(22,tI)] [(5,bT 27 []),(6,.box Qnb),(61,.arr 4 1),(63,.arr 164 3),(65,.box [.arr 61,.arr 63])] 117191245 [xE 0 [(73,.b)]] @Wk n
def Q4k:LZ9:=mkU (M2 n).ok nT 32 Tryz.f62 [QlM,Qnr,(19,.ptr 65 0),(27,.arr 1027),(28,tI)] [(61,.arr 4 1),(63,.arr 164 3),(65,.box [.arr 61,.arr 63]),(1027,.arr 164 3)] 615 [xE 3 [(173,.b)]] @V8 n
def Q6k:EZ9 62:=mkD (M2 n).ok [Q45 n n,Q4k n n] 62 Tryz.f62 0 @Hr n
def PK:BZ9:=Xa [⟨60,Nj n⟩,⟨61,DS n⟩,⟨16,H4 n⟩,⟨62,Q6k n⟩] [(5,⟨[],[],[(7,1007,110,1),(8,1008,3,1)],[],[]⟩)]
def Q0u:LZ9:=mkU (PK n).ok nT 10 Tryz.f35 [Qmx,Qmy,Qnq,Qne,Qmb,Qmh,Qmc] [Qn6,Qnl,(10,.box Qna),Qnu,Qnv] 3245244469 [xE 2 [(39,.b)]] @YI n
def Q0r:LZ9:=mkU (PK n).ok [Q0u n n] 6 Tryz.f35 [Qmx,Qmy,Qnq,Qne,Qmb] Qnw 13551746 [xE 0 [(27,.b)]] @UG n
def Q2Y:EZ9 35:=mkD (PK n).ok [Q0r n n] 35 Tryz.f35 0 @Rs n
def Sc(n:Nat):BZ9:=Xa [] []
def D7:LZ9:=mkU (Sc n).ok nT 2 Tryz.f64 [(0,.l 3),Qmg] [] 7 [.f .ret [(2,.cb false)] [] [],xE 0 [(7,.b)]] @Z3 n
def Nc:EZ9 64:=mkD (Sc n).ok [D7 n n] 64 Tryz.f64 0 @JF n
def Ft:BZ9:=Xa [⟨63,Tp n⟩,⟨64,Nc n⟩] []
def Q1J:LZ9:=mkU (Ft n).ok nT 4 Tryz.f36 [Qnn,(1,.l 3),QlY] [] 22 [.f .ret [(4,.cb false)] [] [],xE 0 [(17,.b)]] @Jg n
def Q4T:EZ9 36:=mkD (Ft n).ok [Q1J n n] 36 Tryz.f36 0 @MO n
def Fj(n:Nat):BZ9:=Xa [] []
def Q3a:LZ9:=mkU (Fj n).ok nT 3 Tryz.f65 [QlK,Qmx,QlY,Qmq] [Qn8] 754 [xE 0 [(9,.b)]] @Ji n
def NG:EZ9 65:=mkD (Fj n).ok [Q3a n n] 65 Tryz.f65 247 @U1 n
def PB:BZ9:=Xa [⟨65,NG n⟩,⟨61,DS n⟩] [(2,⟨[],[],[(5,1005,115,4)],[],[]⟩)]
def Q0M:LZ9:=mkU (PB n).ok nT 7 Tryz.f37 Qnx [Qn8,(7,.box Qna),(1005,.arr 115 4)] 33488095 [xE 2 [(29,.b)]] @Wh n
def Q0k:LZ9:=mkU (PB n).ok [Q0M n n] 3 Tryz.f37 QnA [Qn8,(1005,.arr 115 4)] 120535 [xE 0 [(17,.b)]] @Ur n
def Q35:EZ9 37:=mkD (PB n).ok [Q0k n n] 37 Tryz.f37 215 @R0 n
def Tk(n:Nat):BZ9:=Xa [] []
def LN:LZ9:=mkU (Tk n).ok nT 2 Tryz.f101 [(0,.l 3),QlK,Qng,Qmq] [(4,.box QnB)] 22 [.f .ret [(4,.ptr 4 0),(5,.cb true)] [(4,.box [.x,.x,.x])] [0,0,0],xE 0 [(10,.b)]] @Z2 n
def Eb:EZ9 101:=mkF (Tk n).ok [LN n n] 101 Tryz.f101 [sL 3,sI] [eT 2,eA [qX,qX,qX],sB] 0 @Vr n
def Cg:EZ9 66:=mkF (Xa [⟨101,Eb n⟩] []).ok nT 66 Tryz.f66 [sL 1,eA [qI,qI,qI,qI],sI] [eT 3,eA [qX,qX,qX],eA [qX,qX,qX],sB] 16 @PU n
def L3:BZ9:=Xa [⟨66,Cg n⟩] []
def Q0g:LZ9:=mkU (L3 n).ok nT 2 Tryz.f38 [(0,.l 1),Qmk,Qng,Qm0] [(4,bT 115 [])] 1102 [.f .ret [(6,.cb false)] [] [],xE 0 [(18,.b)]] @UE n
def Q2I:EZ9 38:=mkD (L3 n).ok [Q0g n n] 38 Tryz.f38 0 @RI n
def Pw:BZ9:=Xa [⟨65,NG n⟩] [(2,⟨[],[],[(5,1005,57,6)],[],[]⟩)]
def Q0P:LZ9:=mkU (Pw n).ok nT 7 Tryz.f39 Qnx [Qn8,(7,.box Qna),(1005,.arr 57 6)] 35075857 [xE 2 [(27,.b)]] @Uz n
def Q0e:LZ9:=mkU (Pw n).ok [Q0P n n] 3 Tryz.f39 QnA [Qn8,(1005,.arr 57 6)] 118348 [xE 0 [(15,.b)]] @Uw n
def Q2W:EZ9 39:=mkW (Pw n).ok [Q0e n n] 39 Tryz.f39 [eA [qI,qL 5,qL 2,qL 4,qL 7,qL 4,qL 5,qL 3],sL 1] [eR 1005 57 6] [] 247 0 @SV n
def KT:BZ9:=Xa [⟨65,NG n⟩] [(2,⟨[],[],[(3,1003,57,6)],[],[]⟩)]
def Q0J:LZ9:=mkU (KT n).ok nT 3 Tryz.f40 [QmX,QmY,QlX] QnE 39692 [xE 0 [(14,.b)]] @Ux n
def Q0K:LZ9:=mkU (KT n).ok nT 8 Tryz.f40 [QmX,QmY,Qmq] QnE 40178 [xE 2 [(53,.b)]] @Wf n
def Q0b:LZ9:=mkU (KT n).ok nT 13 Tryz.f40 [QmX,QmY,QlL] QnE 41636 [xE 4 [(93,.b)]] @Zl n
def Q2H:EZ9 40:=mkD (KT n).ok [Q0J n n,Q0K n n,Q0b n n] 40 Tryz.f40 135 @RH n
def HH:BZ9:=Xa [⟨66,Cg n⟩] [(2,⟨[],[],[(9,1009,164,3)],[],[]⟩)]
def Cs:LZ9:=mkU (HH n).ok nT 7 Tryz.f42 [(0,.l 1),(1,.l 4),Qmk,Qmg,(9,.arr 1009),QmV,(11,.b),Qme] [(1009,.arr 164 3)] 2065 [xE 2 [(28,.b)]] @YW n
def Cr:LZ9:=mkU (HH n).ok [Cs n n] 3 Tryz.f42 [(0,.l 1),(1,.l 4),Qmk,Qmg,(9,.arr 1009),QmV] [(1009,.arr 164 3)] 688 [xE 0 [(22,.b)]] @ZS n
def BD:EZ9 42:=mkD (HH n).ok [Cr n n] 42 Tryz.f42 0 @GB n
def C4(n:Nat):BZ9:=Xa [] []
def Q4m:LZ9:=mkU (C4 n).ok nT 2 Tryz.f102 [(0,.l 3),QlK,Qng,Qmq] [(4,.box QnB)] 22 [.f .ret [(4,.ptr 4 0),(5,.cb true)] [(4,.box [.x,.x,.x])] [0,0,0],xE 0 [(10,.b)]] @Uo n
def Q6n:EZ9 102:=mkF (C4 n).ok [Q4m n n] 102 Tryz.f102 [sL 3,sI] [eT 2,eA [qX,qX,qX],sB] 0 @Aq n
def DG:EZ9 68:=mkD (Xa [] []).ok nT 68 Tryz.f68 0 @Ef n
def Kv:BZ9:=Xa [⟨63,Tp n⟩,⟨64,Nc n⟩,⟨102,Q6n n⟩,⟨68,DG n⟩] []
def Dj:LZ9:=mkU (Kv n).ok nT 13 Tryz.f67 [Qnn,(1,.l 3),(2,.l 3),(8,.arr 26),Qmb,Qmh,Qme,Qmo] [(10,.box [.x,.x,.x]),(26,.arr 4 1)] 46525 [xE 2 [(70,.b)]] @Zd n
def ET:LZ9:=mkU (Kv n).ok [Dj n n] 7 Tryz.f67 [Qnn,(1,.l 3),(2,.l 3),(8,.arr 26),Qmb] [(26,.arr 4 1)] 229 [xE 0 [(30,.b)]] @Yh n
def CH:EZ9 67:=mkD (Kv n).ok [ET n n] 67 Tryz.f67 0 @KV n
def Gk:BZ9:=Xa [⟨67,CH n⟩,⟨68,DG n⟩] [(13,⟨[],[],[(12,1012,123,2)],[],[]⟩)]
def BY:LZ9:=mkU (Gk n).ok nT 6 Tryz.f41 [Qnn,(8,.l 1),QmV,Qmc] [] 76 [xE 0 [(27,.b)]] @WC n
def Al:LZ9:=mkU (Gk n).ok nT 18 Tryz.f41 [Qnn,(8,.l 1),(12,.arr 1012),Qmo,Qmr] [(1012,.arr 123 2)] 67 [xE 4 [(65,.b)]] @WL n
def BN:LZ9:=mkU (Gk n).ok [Al n n] 14 Tryz.f41 [Qnn,(8,.l 1),(12,.arr 1012),Qmo] [(1012,.arr 123 2)] 76 [xE 2 [(41,.b)]] @Yt n
def Q0A:EZ9 41:=mkD (Gk n).ok [BY n n,BN n n] 41 Tryz.f41 0 @Hb n
def Wg:BZ9:=Xa [⟨35,Q2Y n⟩,⟨36,Q4T n⟩,⟨37,Q35 n⟩,⟨38,Q2I n⟩,⟨39,Q2W n⟩,⟨40,Q2H n⟩,⟨42,BD n⟩,⟨41,Q0A n⟩] [(18,⟨[],[],[],[(12,1,1121,60,3)],[]⟩),(21,⟨[],[],[],[(12,1,1121,60,3)],[]⟩)]
def Q0R:LZ9:=mkU (Wg n).ok nT 7 Tryz.f13 [Qmy,Qng,QnG,Qn7,Qmb] [Qnl,(4,.box QnF)] 46 [.f .ret [(4,.ptr 4 0),(5,.ci .i64 13)] [(4,.box QnF)] [],xE 0 [(39,.b)]] @UJ n
def Q0H:LZ9:=mkU (Wg n).ok nT 13 Tryz.f13 [Qmy,Qng,QnG,Qn7,QnJ,Qmc] [Qnl,(4,.box QnF)] 145 [.f .ret [(4,.ptr 4 0),(5,.ci .i64 13)] [(4,.box QnF)] [],xE 2 [(57,.b)]] @UK n
def Q0d:LZ9:=mkU (Wg n).ok nT 22 Tryz.f13 [Qmy,Qng,QnG,Qn7,QnJ,QnK,Qmo,Qmr] [Qnl,QnL,(12,.box [tI,.arr 1121,.nil]),QnM] 28704564 [xE 6 [(88,.b)]] @VG n
def Q0O:LZ9:=mkU (Wg n).ok [Q0d n n] 19 Tryz.f13 [Qmy,Qng,QnG,Qn7,QnJ,QnK,Qmo] [Qnl,(4,.box QnF),(12,.box [tI,.arr 1121,.nil]),QnM] 3190887 [xE 4 [(77,.b)]] @Wj n
def Q0D:LZ9:=mkU (Wg n).ok nT 36 Tryz.f13 [Qmy,Qng,QnG,QnJ,QnK,Qml,QlM,(17,.l 2),QnO] QoU 86094045 [xE 12 [(145,.b)]] @UF n
def Q0Q:LZ9:=mkU (Wg n).ok [Q0D n n] 30 Tryz.f13 [Qmy,Qng,QnG,QnJ,QnK,Qml,QlM] QoU 9566086 [.f .ret [(4,.ptr 4 0),(5,.ci .i64 13)] [(4,.box QnF)] [],xE 10 [(120,.b)]] @VA n
def Q0l:LZ9:=mkU (Wg n).ok [Q0Q n n] 27 Tryz.f13 [Qmy,Qng,QnG,QnJ,QnK,Qml] [Qnl,(4,.box QnF),(12,.box QnN),(107,.arr 57 6),QnM] 1062931 [.f .ret [(4,.ptr 4 0),(5,.ci .i64 13)] [(4,.box QnF)] [],xE 8 [(112,.b)]] @UB n
def Er:EZ9 13:=mkD (Wg n).ok [Q0R n n,Q0H n n,Q0O n n,Q0l n n] 13 Tryz.f13 0 @Uu n
def ES:EZ9 44:=mkD (Xa [] []).ok nT 44 Tryz.f44 0 @JN n
def L8:BZ9:=Xa [⟨44,ES n⟩] []
def Q0B:LZ9:=mkU (L8 n).ok nT 4 Tryz.f69 [QmX,Qmg] [(1,.box QnR)] 41 [.f .ret [(2,.cb false)] [] [],xE 0 [(25,.b)]] @VD n
def R5:EZ9 69:=mkD (L8 n).ok [Q0B n n] 69 Tryz.f69 0 @Us n
def Q8z:EZ9 71:=mkD (Xa [] []).ok nT 71 Tryz.f71 0 @Q2i n
def Su(n:Nat):BZ9:=Xa [] []
def Ds:LZ9:=mkU (Su n).ok nT 5 Tryz.f149 [QnT,QlY,Qmq,(22,tI),(23,tI)] [(1000000,.arr 3 1)] 229 [xE 0 [(24,.b)]] @Zf n
def CX:EZ9 149:=QeL (mkW (Su n).ok [Ds n n] 149 Tryz.f149 [eR 1000000 3 1,eA [qI,qI,qI,qI,qI,qI]] [sB] [(1,eK 1000000 3 1)] 0 0 @JE n)
def WD:BZ9:=Xa [⟨69,R5 n⟩,⟨149,CX n⟩] []
def LX:LZ9:=mkU (WD n).ok nT 5 Tryz.f103 [QmX,(3,.arr 16),Qnr,QnO] [(1,.box QnR),QnU] 493 [xE 0 [(20,.b)]] @Zh n
def Lw:LZ9:=mkU (WD n).ok nT 10 Tryz.f103 [QmX,(3,.arr 16),QlY] [(1,.box QnR),QnU] 191 [xE 2 [(31,.b)]] @Ze n
def Ll:LZ9:=mkU (WD n).ok nT 20 Tryz.f103 [(3,.arr 16),(6,.arr 43),Qm0,QlL,Qmb,(45,tI),(46,tI)] [QnU,(43,.arr 3 1)] 1722 [xE 6 [(54,.b)]] @YB n
def Lk:LZ9:=mkU (WD n).ok [Ll n n] 16 Tryz.f103 [(3,.arr 16),(6,.arr 43),Qm0,(45,tI),(46,tI)] [QnU,(43,.arr 3 1)] 212 [xE 4 [(47,.b)]] @YC n
def Fq:EZ9 103:=mkD (WD n).ok [LX n n,Lw n n,Lk n n] 103 Tryz.f103 0 @JM n
def GI:BZ9:=Xa [⟨103,Fq n⟩] []
def Ec:LZ9:=mkU (GI n).ok nT 8 Tryz.f72 [Qn7,(8,.ptr 25 0),Qmb,QmV,(27,tI),(28,tI)] [QnV,(23,.arr 4 1),(25,bT 152 [(3,.arr 23),(10,.nil),(11,.arr 19)])] 1480 [xE 2 [(39,.b)]] @YP n
def E3:LZ9:=mkU (GI n).ok [Ec n n] 4 Tryz.f72 [Qn7,(8,.ptr 25 0),(27,tI),(28,tI)] [QnV,(23,.arr 4 1),(25,.box [tI,.l 3,.l 6,.arr 23,tI,.ci .i64 0,.cb false,.b,.cb false,.ci .i64 0,.nil,.arr 19])] 184 [xE 0 [(29,.b)]] @ZH n
def ER:EZ9 72:=mkW (GI n).ok [E3 n n] 72 Tryz.f72 [eA [qI,qL 3,qL 6],sI,sB] [eP 25 12,sI,sL 3,sL 6,eR 23 4 1,sI,sI,sB,sB,sB,sI,eN,eR 19 3 1] [] 0 0 @GL n
def FJ:BZ9:=Xa [⟨69,R5 n⟩,⟨44,ES n⟩] []
def Q22:LZ9:=mkU (FJ n).ok nT 4 Tryz.f43 [Qny,Qmx,QlY] [(2,.box QnR)] 16 [.f .ret [(4,.cb false)] [] [],xE 0 [(20,.b)]] @Jd n
def DY:EZ9 43:=mkD (FJ n).ok [Q22 n n] 43 Tryz.f43 0 @G4 n
def SO:EZ9 45:=mkD (Xa [⟨68,DG n⟩] []).ok nT 45 Tryz.f45 790 @VZ n
def Ff:BZ9:=Xa [⟨43,DY n⟩,⟨45,SO n⟩] []
def Q3b:LZ9:=mkU (Ff n).ok nT 5 Tryz.f104 [Qny,Qmx,Qmq,Qm0] [(2,.box QnR)] 295 [xE 0 [(16,.b)]] @J6 n
def Q50:EZ9 104:=mkD (Ff n).ok [Q3b n n] 104 Tryz.f104 0 @MN n
def VN:BZ9:=Xa [⟨45,SO n⟩] []
def HW:LZ9:=mkU (VN n).ok nT 3 Tryz.f105 QnZ QoV 2536 [.f .ret [(4,.cb true)] [(98003,.arr 4 1),(98011,.arr 3 1),(1000000,bT 152 QnY)] [4,5,6,7,8,9,10,11,12,13,14,15],xE 0 [(16,.b)]] @Xi n
def Tz:EZ9 105:=mkW (VN n).ok [HW n n] 105 Tryz.f105 (pT 1000000 152 Qo2 [sI]) [sB] [] 1146 8190 @Zq n
noncomputable abbrev Wb:Y Sp:=(pT 1000000 152 Qo2 [sI])
abbrev Wa:Y Sp:=[sB,eI 1000000 12,sI,sL 3,sL 6,eR 98003 4 1,sI,sI,sB,sB,sB,sI,sL 1,eR 98011 3 1,eG 1000001,eG 1000002]
noncomputable abbrev Vm(n d:Nat):LF (lts Wb) (oP (HT (lts Wa))):=XE n d
def Gc(n d:Nat)(ih:VH Tryz.prog 73 (Qgn Wb Wa (Vm n d))):BZ9:=Xa [⟨104,Q50 n⟩,⟨105,Tz n⟩,⟨73,⟨_,ih⟩⟩] [(5,⟨[],[],[],[],[98010]⟩),(1000000017,⟨[],[],[],[],[]⟩)]
def PS(n d:Nat)(ih:VH Tryz.prog 73 (Qgn Wb Wa (Vm n d))):LZ9:=mkU (Gc n d ih).ok nT 10 Tryz.f73 QnZ QoV 14348902 [.f .ret [(4,.cb false)] [(98003,.arr 4 1),(98011,.arr 3 1),(1000000,bT 152 QnY)] [0,0,0,0,0,0,0,0,0,0,0,0],xE 0 [(59,.b)]] (λR n=>@Xv R n (XE n d)) n
theorem UX(n:Nat):∀d,VH Tryz.prog 73 (Qgn Wb Wa (Vm n d))
|0=>QaC Tryz.f73 _ _ _ (λv r h=>nomatch (show none=some r from h)) (by intro v;kernel_rfl) (by kernel_rfl) (by kernel_rfl) (by kernel_rfl) (by kernel_rfl)
|d+1=>QeT (Gc n d (UX n d)).ok [PS n d (UX n d) n] Tryz.f73 _ _ _ (by intro v;kernel_rfl) (by intro v;kernel_rfl) (by kernel_rfl) (by kernel_rfl) (by kernel_rfl) (by kernel_rfl) (by kernel_rfl) (by kernel_rfl)
def Ri:EZ9 73:=⟨_,UX n n⟩
def Q63:EZ9 54:=mkX (Xa [⟨69,R5 n⟩,⟨71,Q8z n⟩,⟨72,ER n⟩,⟨73,Ri n⟩] []).ok nT 54 Tryz.f54 [eA [qI,qL 3,qL 6],sI,sB] [eT 2,eU,sI] [eT 2,eP 50018 12,sI,sL 3,sL 6,eR 50020 4 1,sI,sI,sB,sB,sB,sI,sL 1,eR 100020 3 1,sI] 0 @Fc n
def CJ:EZ9 27:=mkX (Xa [⟨54,Q63 n⟩] []).ok nT 27 Tryz.f27 [eA [qI,qL 3,qL 6],sI] [eT 3,eN,sI,sI] [eT 3,sL 1,sI,sI] 0 @Zp n
def Ev:EZ9 8:=mkX (Xa [⟨13,Er n⟩,⟨27,CJ n⟩] []).ok nT 8 Tryz.f8 [eA [qL 1,qL 1,qL 5,qL 6],eA [qI,qL 5,qL 2,qL 4,qL 7,qL 4,qL 5,qL 3]] [eN] [sL 1] 0 @Vd n
def Gv:EZ9 189:=mkD (Xa [] []).ok nT 189 Tryz.f189 0 @XA n
def CW:EZ9 191:=mkD (Xa [] []).ok nT 191 Tryz.f191 0 @PE n
def AN:EZ9 192:=mkD (Xa [] []).ok nT 192 Tryz.f192 0 @FP n
def Es:BZ9:=Xa [⟨191,CW n⟩,⟨192,AN n⟩] []
def Q32:LZ9:=mkU (Es n).ok nT 4 Tryz.f162 [(0,.t),QnO,(20,tI)] [] 22 [.f .ret [(2,.cb false)] [] [],xE 0 [(21,.b)]] @SX n
def P8:EZ9 162:=mkD (Es n).ok [Q32 n n] 162 Tryz.f162 0 @KF n
def Tb:EZ9 217:=mkD (Xa [] []).ok nT 217 Tryz.f217 0 @F3 n
def RY:BZ9:=Xa [⟨217,Tb n⟩] []
def CB:LZ9:=mkU (RY n).ok nT 2 Tryz.f219 [Qng,Qn1,(11,.l 6),Qme,Qmo] [(4,.box Qn0),QoR] 1102 [.f .ret [(6,.cb true)] [] [],xE 0 [(14,.b)]] @Hw n
def NN:EZ9 219:=mkD (RY n).ok [CB n n] 219 Tryz.f219 0 @GG n
def Eo:EZ9 220:=mkD (Xa [] []).ok nT 220 Tryz.f220 0 @JY n
def HO:EZ9 216:=mkD (Xa [] []).ok nT 216 Tryz.f216 0 @Yo n
def P7:EZ9 218:=mkD (Xa [] []).ok nT 218 Tryz.f218 0 @HC n
def GX:EZ9 164:=mkW (Xa [] []).ok nT 164 Tryz.f164 (eA [qT,qI,qI,qI,qI]::pT 1000000 79 [] []) [sB] [] 990 62 @V9 n
def XK:BZ9:=Xa [⟨164,GX n⟩] []
def Z0:LZ9:=mkU (XK n).ok nT 2 Tryz.f193 [(0,.l 5),(1,.fn 164 [.ptr 1000000 0]),Qm0,QlL] [(1000000,bT 79 [])] 49 [.f .ret [(4,tI)] [(1000000,bT 79 [])] [0,4,5,6,7,8],xE 0 [(9,.b)]] @X1 n
def Z4:EZ9 193:=mkW (XK n).ok [Z0 n n] 193 Tryz.f193 (sL 5::eF 164 1::pT 1000000 79 [] []) [sI] [] 60 62 @XU n
def YU:EZ9 163:=mkW (Xa [⟨193,Z4 n⟩] []).ok nT 163 Tryz.f163 (sL 5::eF 164 1::pT 1000000 79 [] []) [sB] [] 60 62 @XJ n
def Hv:EZ9 165:=mkD (Xa [] []).ok nT 165 Tryz.f165 0 @Uv n
def TC:BZ9:=Xa [⟨162,P8 n⟩,⟨163,YU n⟩,⟨165,Hv n⟩] []
def Ln:LZ9:=mkU (TC n).ok nT 2 Tryz.f120 [Qmy,(8,.l 5),Qmb,QmV] [Qnl] 103 [.f .ret [(4,tI)] [] [0],xE 0 [(11,.b)]] @JQ n
def Pa:EZ9 120:=mkD (TC n).ok [Ln n n] 120 Tryz.f120 0 @U5 n
def Q0F:EZ9 221:=mkD (Xa [] []).ok nT 221 Tryz.f221 0 @NA n
def AI:EZ9 235:=mkD (Xa [] []).ok nT 235 Tryz.f235 0 @RC n
def CO:EZ9 236:=mkD (Xa [] []).ok nT 236 Tryz.f236 0 @L9 n
def TQ:BZ9:=Xa [⟨235,AI n⟩,⟨236,CO n⟩] []
def LH:LZ9:=mkU (TQ n).ok nT 3 Tryz.f222 [Qn5,(9,.ptr 9 0),(20,.l 6),(21,tI),(22,tI)] [(8,.box Qn0),(9,.box Qn0)] 1102 [.f .ret [(6,tI),(7,.cb true)] [] [0],xE 0 [(23,.b)]] @JZ n
def Eg:EZ9 222:=mkD (TQ n).ok [LH n n] 222 Tryz.f222 0 @JL n
def Kt:EZ9 168:=mkW (Xa [] []).ok nT 168 Tryz.f168 (eA [qT,qI,qI,qL 4]::pT 1000000 90 [] []) [sB] [] 238 30 @ZV n
def XP:BZ9:=Xa [⟨168,Kt n⟩] []
def Zm:LZ9:=mkU (XP n).ok nT 2 Tryz.f195 [(0,.l 4),(1,.fn 168 [.ptr 1000000 0]),Qm0,QlL] [(1000000,bT 90 [])] 49 [.f .ret [(4,tI)] [(1000000,bT 90 [])] [0,4,5,6,7],xE 0 [(9,.b)]] @Qr n
def Zt:EZ9 195:=mkW (XP n).ok [Zm n n] 195 Tryz.f195 (sL 4::eF 168 1::pT 1000000 90 [] []) [sI] [] 28 30 @X8 n
def YZ:EZ9 167:=mkW (Xa [⟨195,Zt n⟩] []).ok nT 167 Tryz.f167 (sL 4::eF 168 1::pT 1000000 90 [] []) [sB] [] 28 30 @QF n
def Ej:EZ9 169:=mkD (Xa [] []).ok nT 169 Tryz.f169 0 @Tn n
def RR:EZ9 172:=mkD (Xa [] []).ok nT 172 Tryz.f172 0 @Kw n
def Dx:EZ9 252:=mkD (Xa [] []).ok nT 252 Tryz.f252 0 @M0 n
def D5:EZ9 253:=mkD (Xa [] []).ok nT 253 Tryz.f253 0 @TB n
def NI:EZ9 245:=mkD (Xa [⟨252,Dx n⟩,⟨253,D5 n⟩] []).ok nT 245 Tryz.f245 0 @Te n
def HQ:EZ9 224:=mkD (Xa [] []).ok nT 224 Tryz.f224 0 @Ui n
def NH:EZ9 174:=mkD (Xa [] []).ok nT 174 Tryz.f174 0 @Ti n
def LQ:EZ9 173:=mkD (Xa [] []).ok nT 173 Tryz.f173 0 @Sg n
def L7:EZ9 175:=mkD (Xa [] []).ok nT 175 Tryz.f175 0 @G2 n
def MY:EZ9 171:=mkD (Xa [⟨175,L7 n⟩] []).ok nT 171 Tryz.f171 0 @Uf n
def HN:BZ9:=Xa [⟨171,MY n⟩,⟨172,RR n⟩,⟨169,Ej n⟩,⟨173,LQ n⟩,⟨174,NH n⟩] []
def MR:LZ9:=mkU (HN n).ok nT 2 Tryz.f123 [Qmx,Qmy,(10,.l 7),Qmc,Qme] Qnk 7173625 [.f .ret [(4,tI)] [] [0],xE 0 [(13,.b)]] @YT n
def TL:EZ9 123:=mkD (HN n).ok [MR n n] 123 Tryz.f123 0 @Ww n
def Kz:EZ9 177:=mkW (Xa [] []).ok nT 177 Tryz.f177 (eA [qI,qI,qI,qI]::pT 1000000 146 [] []) [sB] [] 204 30 @ZT n
def XS:BZ9:=Xa [⟨177,Kz n⟩] []
def Zo:LZ9:=mkU (XS n).ok nT 2 Tryz.f196 [(0,.l 4),(1,.fn 177 [.ptr 1000000 0]),Qm0,QlL] [(1000000,bT 146 [])] 130 [.f .ret [(4,tI)] [(1000000,bT 146 [])] [0,4,5,6,7],xE 0 [(9,.b)]] @Qs n
def Zu:EZ9 196:=mkW (XS n).ok [Zo n n] 196 Tryz.f196 (sL 4::eF 177 1::pT 1000000 146 [] []) [sI] [] 24 30 @Xb n
def Z1:EZ9 176:=mkW (Xa [⟨196,Zu n⟩] []).ok nT 176 Tryz.f176 (sL 4::eF 177 1::pT 1000000 146 [] []) [sB] [] 24 30 @QE n
def P3:BZ9:=Xa [⟨175,L7 n⟩,⟨172,RR n⟩,⟨176,Z1 n⟩,⟨173,LQ n⟩,⟨174,NH n⟩] []
def FU:LZ9:=mkU (P3 n).ok nT 2 Tryz.f124 [Qmy,QnJ,Qmc,Qme] [Qnl] 88582 [.f .ret [(4,tI)] [] [0],xE 0 [(13,.b)]] @ZQ n
def Sj:EZ9 124:=mkD (P3 n).ok [FU n n] 124 Tryz.f124 0 @V1 n
def Ph:BZ9:=Xa [⟨171,MY n⟩] []
def FV:LZ9:=mkU (Ph n).ok nT 2 Tryz.f125 [Qmy,(8,.l 5),Qmb,QmV] [Qnl] 88582 [.f .ret [(4,.ci .i64 4)] [] [],xE 0 [(11,.b)]] @ZE n
def Sx:EZ9 125:=mkD (Ph n).ok [FV n n] 125 Tryz.f125 0 @UT n
def HJ(n:Nat):BZ9:=Xa [] []
def MW:LZ9:=mkU (HJ n).ok nT 2 Tryz.f126 [Qmx,(8,.l 3),Qmb,QmV] [Qn6] 49 [.f .ret [(4,.ci .i64 4)] [] [],xE 0 [(11,.b)]] @YS n
def Tl:EZ9 126:=mkD (HJ n).ok [MW n n] 126 Tryz.f126 0 @Wp n
def Z8(n:Nat):BZ9:=Xa [] []
def Kl:LZ9:=mkU (Z8 n).ok nT 5 Tryz.f79 [QlJ,Qmk,(9,.l 4),QmV,Qmc,(34,tI),(35,tI)] QoW 118666 [xE 2 [(36,.b)]] @Xl n
def KE:LZ9:=mkU (Z8 n).ok [Kl n n] 1 Tryz.f79 [QlJ,(9,.l 4),QmV,Qmc] QoW 4450 [xE 0 [(12,.b)]] @X4 n
def Hj:EZ9 79:=mkW (Z8 n).ok [KE n n] 79 Tryz.f79 (pT 1000000 192 [(12,eR 1000001 3 1),(13,eR 1000002 110 1),(14,eR 1000003 3 1),(15,eR 1000004 224 4),(17,eR 1000005 60 3),(18,eR 1000006 57 6)] []) [eT 0] [] 388991 389119 @YG n
def M9(n:Nat):BZ9:=Xa [] []
def Ap:LZ9:=mkU (M9 n).ok nT 2 Tryz.f127 [QlK,(8,.l 4),Qmb,QmV] [] 67 [.f .ret [(4,tI)] [] [0],xE 0 [(11,.b)]] @UZ n
def Q0c:EZ9 127:=mkD (M9 n).ok [Ap n n] 127 Tryz.f127 0 @H8 n
def HS:BZ9:=Xa [⟨165,Hv n⟩] []
def MT:LZ9:=mkU (HS n).ok nT 6 Tryz.f246 [Qnm,QlK,(17,.l 2),Qnr,QnO] [] 198 [.f .ret [(6,.ci .i64 4)] [] [],xE 1 [(20,.b)]] @YQ n
def LZ:EZ9 246:=mkD (HS n).ok [MT n n] 246 Tryz.f246 0 @Jc n
def SH(n:Nat):BZ9:=Xa [] []
def Dk:LZ9:=mkU (SH n).ok nT 3 Tryz.f254 [Qm0,(20,.l 2),(21,tI),(22,tI)] [] 68 [xE 0 [(23,.b)]] @Wy n
def Co:EZ9 254:=mkD (SH n).ok [Dk n n] 254 Tryz.f254 0 @JG n
def Ay:EZ9 255:=mkD (Xa [] []).ok nT 255 Tryz.f255 0 @T7 n
def Ar:EZ9 256:=mkD (Xa [] []).ok nT 256 Tryz.f256 0 @HU n
def JU:BZ9:=Xa [⟨254,Co n⟩,⟨255,Ay n⟩,⟨256,Ar n⟩] []
def LG:LZ9:=mkU (JU n).ok nT 5 Tryz.f247 [Qnm,QlK,Qn1,Qm0,(8,.arr 20),Qmb,QmV] [Qnh,(20,.arr 3 1)] 147730 [xE 0 [(29,.b)]] @YA n
def F0:LZ9:=mkU (JU n).ok nT 12 Tryz.f247 [Qnm,QlK,Qn1,(8,.arr 20),Qmo] [Qnh,(20,.arr 3 1)] 16411 [xE 2 [(68,.b)]] @Z9 n
def FS:EZ9 247:=mkW (JU n).ok [LG n n,F0 n n] 247 Tryz.f247 [sL 2,sI,eA [qT,qI,qI,qI,qI]] [eR 20 3 1] [] 0 0 @JP n
def FZ(n:Nat):BZ9:=Xa [] []
def Q2s:LZ9:=mkU (FZ n).ok nT 3 Tryz.f248 [Qnn,Qmg,QlX] [] 25 [xE 0 [(7,.b)]] @Vj n
def Q4g:EZ9 248:=mkD (FZ n).ok [Q2s n n] 248 Tryz.f248 0 @Sd n
def Pf:BZ9:=Xa [⟨246,LZ n⟩,⟨247,FS n⟩,⟨248,Q4g n⟩] []
def Ea:LZ9:=mkU (Pf n).ok nT 6 Tryz.f238 [(9,.arr 50022),(23,.arr 50022),(24,tI),(25,tI)] [(50022,.arr 3 1)] 25 [xE 0 [(26,.b)]] @ZN n
def DH:EZ9 238:=mkD (Pf n).ok [Ea n n] 238 Tryz.f238 0 @Gp n
def Mr:EZ9 226:=mkD (Xa [] []).ok nT 226 Tryz.f226 0 @GO n
def Sr:BZ9:=Xa [⟨238,DH n⟩,⟨226,Mr n⟩] []
def EL:LZ9:=mkU (Sr n).ok nT 6 Tryz.f225 [(8,.l 1),(10,.arr 26),Qmc] [(26,.arr 3 1)] 25 [xE 0 [(30,.b)]] @WB n
def CV:EZ9 225:=mkD (Sr n).ok [EL n n] 225 Tryz.f225 0 @Js n
def Ex:EZ9 199:=mkD (Xa [⟨226,Mr n⟩] []).ok nT 199 Tryz.f199 0 @JR n
def CC:EZ9 227:=mkD (Xa [] []).ok nT 227 Tryz.f227 0 @Pq n
def AS:EZ9 200:=mkD (Xa [⟨227,CC n⟩] []).ok nT 200 Tryz.f200 0 @Vh n
def LY:EZ9 201:=mkW (Xa [] []).ok nT 201 Tryz.f201 [eA [qL 1,qL 1,qL 5,qL 6]] [eR 10 164 3] [] 0 0 @J7 n
def Rj:EZ9 202:=QeL (mkW (Xa [] []).ok nT 202 Tryz.f202 [eR 1000000 164 3,sI,sI,sI] [eT 0] [(1,eK 1000000 164 3)] 0 0 @XF n)
def Q0t:EZ9 240:=mkD (Xa [] []).ok nT 240 Tryz.f240 0 @M5 n
def Kh(n:Nat):BZ9:=Xa [] [(2,⟨[],[],[(3,1003,164,3)],[],[]⟩)]
def Nn:LZ9:=mkU (Kh n).ok nT 3 Tryz.f204 [QmY,(6,.l 3),Qm0,QlL] [(1003,.arr 164 3)] 76 [xE 0 [(9,.b)]] @Y6 n
def NY:EZ9 204:=mkW (Kh n).ok [Nn n n] 204 Tryz.f204 [sL 3] [eR 1003 164 3] [] 0 0 @Vl n
def JC:EZ9 130:=mkW (Xa [] []).ok nT 130 Tryz.f130 (pT 1000000 192 Qoa [sI,sI]) [sI] [] 520191 1048574 @XW n
def T9:EZ9 129:=mkW (Xa [] []).ok nT 129 Tryz.f129 (pT 1000000 192 Qoa [sI,sI,sI,sI,sI]) [eT 0] [] 475135 491519 @Yj n
def Pr:EZ9 131:=mkW (Xa [⟨130,JC n⟩] []).ok nT 131 Tryz.f131 (pT 1000000 192 Qoa [sI]) [sI] [] 520063 1048574 @Wd n
def Yn:BZ9:=Xa [⟨130,JC n⟩,⟨129,T9 n⟩,⟨131,Pr n⟩] []
def H7:LZ9:=mkU (Yn n).ok nT 4 Tryz.f81 [QlJ,Qmk,(13,.l 4),Qmr,Qml,(26,.l 4),(27,tI),(28,tI)] QoX 282429553573 [xE 2 [(29,.b)]] @Xw n
def Hh:LZ9:=mkU (Yn n).ok [H7 n n] 1 Tryz.f81 [QlJ,(13,.l 4),Qmr,Qml] QoX 3486784612 [xE 0 [(16,.b)]] @QP n
def Hq:LZ9:=mkU (Yn n).ok nT 10 Tryz.f81 [QlJ,(56,.l 4),(57,tI),(58,tI)] QoX 3491567581 [xE 4 [(59,.b)]] @Xu n
def HA:EZ9 81:=mkW (Yn n).ok [Hh n n,Hq n n] 81 Tryz.f81 (pT 1000000 192 Qoa []) [eT 0] [] 470399 491519 @YJ n
def Nh(n:Nat):BZ9:=Xa [] []
def Ct:LZ9:=mkU (Nh n).ok nT 3 Tryz.f180 [Qmg,(6,.l 3),Qm0,QlL] [] 68 [.f .ret [(2,.cb false)] [] [],xE 0 [(9,.b)]] @U6 n
def Nw:EZ9 180:=mkD (Nh n).ok [Ct n n] 180 Tryz.f180 0 @Jh n
def N9:BZ9:=Xa [⟨180,Nw n⟩] []
def CD:LZ9:=mkU (N9 n).ok nT 4 Tryz.f132 [Qnn,(18,.l 3),QnO,(20,tI)] [] 67 [.f .ret [(4,.cb false)] [] [],xE 0 [(21,.b)]] @Uc n
def An:EZ9 132:=mkD (N9 n).ok [CD n n] 132 Tryz.f132 0 @HX n
def VP:EZ9 134:=mkW (Xa [] []).ok nT 134 Tryz.f134 (eA [qI,qI,qI]::eA [qI,qI,qI]::pT 1000000 224 [] (eP 1000001 1::sB::eP 1000002 1::pT 1000003 192 [(12,eR 1000004 3 1),(17,eR 1000005 60 3),(18,eR 1000006 57 6)] [])) [eT 0] [] 1073707209 16777199 @Yi n
def WY:BZ9:=Xa [⟨134,VP n⟩] []
def TX:LZ9:=mkU (WY n).ok nT 5 Tryz.f133 [QlJ,Qog,Qng,Qn2,(17,.l 3),Qnr,QnO,(30,.l 3),(31,tI),(32,tI)] [Qoh,(7,.box [.x,.x,.x]),Qo5,Qo7,Qo8,QoZ,(1000004,bT 224 []),(1000005,.box [.b]),(1000006,.box Qof)] 366898000880223711 [xE 2 [(33,.b)]] @QZ n
def TR:LZ9:=mkU (WY n).ok [TX n n] 2 Tryz.f133 [QlJ,Qog,Qng,(17,.l 3),Qnr,QnO] [Qoh,Qo5,Qo7,Qo8,QoZ,(1000004,bT 224 []),(1000005,.box [.b]),(1000006,.box Qof)] 503320819852066 [xE 0 [(20,.b)]] @Xy n
def PH:EZ9 133:=mkW (WY n).ok [TR n n] 133 Tryz.f133 (pT 1000000 192 Qoj (eA [qI,qI,qI,qI]::eF 134 3::pT 1000004 224 [] [eP 1000005 1,sB,eP 1000006 1,eS 1000000])) [eT 0] [] 29876207 8388607 @ZY n
def WO:BZ9:=Xa [⟨132,An n⟩,⟨133,PH n⟩] [(5,⟨[],[],[],[],[98015]⟩),(7,⟨[],[],[],[],[98015]⟩)]
def TE:LZ9:=mkU (WO n).ok nT 2 Tryz.f82 [QmX,Qmi,Qme,Qmo] [(1,.box Qof),Qo5,Qo6,Qo7,Qo8,QoY] 177169 [.f .ret [(2,.cb false)] [(98012,.arr 3 1),(98017,.arr 60 3),(98018,.arr 57 6),(1000000,bT 192 Qoe)] [4,6,7,8,9,10,11,12,13,14,15,16,17,18,19,20,21,5,22],xE 0 [(14,.b)]] @XN n
def TM:LZ9:=mkU (WO n).ok nT 8 Tryz.f82 [QmX,(29,.l 4),(30,tI),(31,tI)] [(1,.box Qof),Qo5,Qo7,Qo8,QoZ] 387479560 [.f .ret [(2,.cb false)] [(98012,.arr 3 1),(98017,.arr 60 3),(98018,.arr 57 6),(1000000,bT 192 Qoe)] [4,5,6,7,8,9,10,11,12,13,14,15,16,17,18,19,20,21,22],xE 2 [(32,.b)]] @Xq n
def TU:EZ9 82:=mkW (WO n).ok [TE n n,TM n n] 82 Tryz.f82 (pT 1000000 192 Qoa []) [sB] [(17,sL 4)] 483311 1048574 @ZO n
def JA:EZ9 130:=mkW (Xa [] []).ok nT 130 Tryz.f130 (pT 1000000 192 Qoj [sI,sI]) [sI] [] 520191 1048574 @Xg n
def N5:EZ9 136:=mkD (Xa [] []).ok nT 136 Tryz.f136 0 @Yw n
def Cq:EZ9 137:=mkD (Xa [] []).ok nT 137 Tryz.f137 0 @Uy n
def G9:EZ9 135:=mkW (Xa [] []).ok nT 135 Tryz.f135 (pT 1000000 192 Qoj [sI,sI,sI,sI,sI,sI]) [eT 0] [] 262143 262143 @Xs n
def Px:EZ9 131:=mkW (Xa [⟨130,JA n⟩] []).ok nT 131 Tryz.f131 (pT 1000000 192 Qoj [sI]) [sI] [] 520063 1048574 @Va n
def Xe:BZ9:=Xa [⟨130,JA n⟩,⟨136,N5 n⟩,⟨137,Cq n⟩,⟨135,G9 n⟩,⟨131,Px n⟩] []
def GW:LZ9:=mkU (Xe n).ok nT 4 Tryz.f83 [QlJ,Qmk,Qmy,(20,.l 4),(21,tI),(22,tI),(28,.l 4),(29,tI),(30,tI)] [(3,.box Qna),Qo5,Qo7,Qo8,QoZ] 7625600931295 [xE 2 [(31,.b)]] @QJ n
def K2:LZ9:=mkU (Xe n).ok [GW n n] 1 Tryz.f83 [QlJ,(20,.l 4),(21,tI),(22,tI)] Qp0 1162262002 [xE 0 [(23,.b)]] @QU n
def GZ:LZ9:=mkU (Xe n).ok nT 14 Tryz.f83 [QlJ,(84,.l 7),(85,tI),(86,tI)] Qp0 535 [xE 4 [(87,.b)]] @QW n
def K7:LZ9:=mkU (Xe n).ok nT 20 Tryz.f83 [QlJ,(119,.l 4),(120,tI),(121,tI)] Qp0 1594858 [xE 6 [(122,.b)]] @QV n
def K9:LZ9:=mkU (Xe n).ok nT 25 Tryz.f83 [QlJ,(146,.l 5),(147,tI),(148,tI)] Qp0 535 [xE 8 [(149,.b)]] @QX n
def KD:EZ9 83:=mkW (Xe n).ok [K2 n n,GZ n n,K7 n n,K9 n n] 83 Tryz.f83 (pT 1000000 192 Qoj []) [eT 0] [] 239743 262143 @Yy n
def Uk:EZ9 181:=mkW (Xa [] []).ok nT 181 Tryz.f181 [eA [qI,qI,qI],eA [qI,qI,qI],eP 1000000 1,eM 1000001 228] [eT 0] [(2,eH 1000001)] 62 0 @XH n
def WZ:BZ9:=Xa [⟨181,Uk n⟩] []
def TV:LZ9:=mkU (WZ n).ok nT 5 Tryz.f133 [QlJ,(2,.fn 181 [.ptr 1000004 0]),Qng,Qn2,(17,.l 3),Qnr,QnO,(30,.l 3),(31,tI),(32,tI)] [Qoh,(7,.box [.x,.x,.x]),Qo5,Qo7,Qo8,QoZ,(1000004,.box [.arr 1000005]),(1000005,.mp 228)] 3706040378478474 [xE 2 [(33,.b)]] @Xc n
def TY:LZ9:=mkU (WZ n).ok [TV n n] 2 Tryz.f133 [QlJ,(2,.fn 181 [.ptr 1000004 0]),Qng,(17,.l 3),Qnr,QnO] [Qoh,Qo5,Qo7,Qo8,QoZ,(1000004,.box [.arr 1000005]),(1000005,.mp 228)] 5115112716613 [xE 0 [(20,.b)]] @Xz n
def Pv:EZ9 133:=mkW (WZ n).ok [TY n n] 133 Tryz.f133 (pT 1000000 192 Qoj [eA [qI,qI,qI,qI],eF 181 1,eP 1000004 1,eM 1000005 228]) [eT 0] [(22,eH 1000005)] 4710399 524287 @ZZ n
def WH:BZ9:=Xa [⟨133,Pv n⟩] []
def G0:LZ9:=mkU (WH n).ok nT 3 Tryz.f138 [QlJ,QlK,Qmk,Qn2,(14,.l 4),Qml,QlM] [(7,.box [.arr 10]),(10,.mp 228),Qo5,Qo7,Qo8,QoZ] 10460353891 [xE 0 [(17,.b)]] @QL n
def Gg:EZ9 138:=mkW (WH n).ok [G0 n n] 138 Tryz.f138 (pT 1000000 192 Qoj [sI,sI]) [eM 10 228] [] 483327 1048574 @Y9 n
def Hl(n:Nat):BZ9:=Xa [] [(2,⟨[],[],[(5,1005,164,3)],[],[]⟩)]
def NR:LZ9:=mkU (Hl n).ok nT 3 Tryz.f140 [(1,.arr 1000000),Qnz,(8,.l 3),Qmb,QmV] [(1005,.arr 164 3),(1000000,.mp 228)] 157 [xE 0 [(11,.b)]] @Yd n
def MU:EZ9 140:=QeL (mkW (Hl n).ok [NR n n] 140 Tryz.f140 [sL 3,eM 1000000 228] [eR 1005 164 3] [] 0 0 @Um n)
def KP:EZ9 229:=mkD (Xa [] []).ok nT 229 Tryz.f229 0 @UQ n
def RU:EZ9 59:=mkD (Xa [] []).ok nT 59 Tryz.f59 0 @Hg n
def No:EZ9 230:=mkW (Xa [] [(2,⟨[],[],[(8,96001,266,2)],[],[]⟩)]).ok nT 230 Tryz.f230 [eN,sI,sI,sI] [eR 96001 266 2] [] 0 0 @Jn n
def Q0C:EZ9 207:=mkW (Xa [⟨229,KP n⟩,⟨59,RU n⟩,⟨230,No n⟩] [(2,⟨[],[],[(6,50016,266,2)],[],[]⟩)]).ok nT 207 Tryz.f207 [sI,sI,sI] [eT 2,eR 50016 266 2,sI] [] 0 0 @P2 n
def RZ:BZ9:=Xa [⟨229,KP n⟩] []
def Cl:LZ9:=mkU (RZ n).ok nT 5 Tryz.f209 [Qnn,QlY,(11,.l 2),Qme,Qmo] [] 205 [.f .ret [(4,.cb false)] [] [],xE 0 [(14,.b)]] @U9 n
def Mk:EZ9 209:=mkD (RZ n).ok [Cl n n] 209 Tryz.f209 0 @Gu n
def RX:BZ9:=Xa [⟨229,KP n⟩,⟨209,Mk n⟩] []
def CM:LZ9:=mkU (RX n).ok nT 4 Tryz.f231 [Qnn,(10,.l 1),Qmc,Qme] [] 67 [.f .ret [(4,.ci .i64 1)] [] [],xE 0 [(13,.b)]] @U2 n
def AE:EZ9 231:=mkD (RX n).ok [CM n n] 231 Tryz.f231 0 @T2 n
def Wx:EZ9 244:=mkW (Xa [] [(6,⟨[],[],[(4,96001,266,2)],[],[]⟩)]).ok nT 244 Tryz.f244 [eN,sI] [eR 96001 266 2] [] 0 0 @QT n
def Xk:BZ9:=Xa [⟨244,Wx n⟩] []
def Ws:LZ9:=mkU (Xk n).ok nT 3 Tryz.f233 [(0,.l 1),Qmg,(9,.l 1),QmV,Qmc] [] 204 [xE 0 [(12,.b)]] @Qv n
def Wt:LZ9:=mkU (Xk n).ok nT 11 Tryz.f233 [(6,.arr 50024),(25,.l 1),(26,tI),(27,tI)] [(50024,.arr 266 2)] 76 [xE 2 [(28,.b)]] @Qw n
def WP:EZ9 233:=mkW (Xk n).ok [Ws n n,Wt n n] 233 Tryz.f233 [sL 1] [eR 50024 266 2] [] 0 0 @X0 n
def EP:EZ9 265:=mkD (Xa [] []).ok nT 265 Tryz.f265 0 @Mo n
def DE:EZ9 266:=mkD (Xa [] []).ok nT 266 Tryz.f266 0 @NL n
def BA:EZ9 250:=mkD (Xa [⟨265,EP n⟩,⟨266,DE n⟩] []).ok nT 250 Tryz.f250 0 @SP n
def BE:EZ9 251:=mkD (Xa [] []).ok nT 251 Tryz.f251 0 @GE n
def D9:EZ9 243:=mkD (Xa [⟨251,BE n⟩] []).ok nT 243 Tryz.f243 0 @GS n
def TW:EZ9 242:=mkD (Xa [⟨243,D9 n⟩] []).ok nT 242 Tryz.f242 0 @UR n
def Xo:BZ9:=Xa [⟨242,TW n⟩] []
def WK:LZ9:=mkU (Xo n).ok nT 4 Tryz.f257 [QnT,QlK,Qmk,(3,.fn 242 []),QlL,Qmb] Qol 217 [xE 2 [(34,.b)]] @Qx n
def WF:LZ9:=mkU (Xo n).ok [WK n n] 1 Tryz.f257 [QnT,QlK,Qmk,(3,.fn 242 []),QlL] Qol 76 [xE 0 [(14,.b)]] @Qn n
def WW:EZ9 257:=QeL (mkW (Xo n).ok [WF n n] 257 Tryz.f257 [eR 1000000 266 2,sI,sI,eF 242 0] [eT 0] [(1,eK 1000000 266 2)] 0 0 @XB n)
def YD:BZ9:=Xa [⟨257,WW n⟩] []
def UU:LZ9:=mkU (YD n).ok nT 2 Tryz.f249 [QnT,QlK,Qmk,Qmg,(4,.fn 242 []),(10,.cb true),(11,.cb true)] Qol 40 [.f .ret [] [(1000000,.arr 266 2)] [0]] @XO n
def V5:EZ9 249:=QeL (mkW (YD n).ok [UU n n] 249 Tryz.f249 [eR 1000000 266 2,sI,sI,sI,eF 242 0] [eT 0] [(1,eK 1000000 266 2)] 0 0 @XY n)
def ZB:EZ9 241:=QeL (mkW (Xa [⟨250,BA n⟩,⟨249,V5 n⟩] []).ok nT 241 Tryz.f241 [eR 1000000 266 2,eF 242 0] [eT 0] [(1,eK 1000000 266 2)] 0 0 @QM n)
def Tv:BZ9:=Xa [⟨241,ZB n⟩] [(3,⟨[],[],[(3,1003,266,2)],[],[]⟩)]
def Lx:LZ9:=mkU (Tv n).ok nT 4 Tryz.f232 [QmY,(9,.arr 1000000),QmV,Qmc] [(1003,.arr 266 2),Qom] 52 [xE 0 [(12,.b)]] @Xp n
def Ek:EZ9 232:=QeL (mkW (Tv n).ok [Lx n n] 232 Tryz.f232 [eR 1000000 266 2] [eR 1003 266 2] [(1,eK 1000000 266 2)] 0 0 @HF n)
def BZ:EZ9 208:=mkW (Xa [⟨231,AE n⟩,⟨233,WP n⟩,⟨232,Ek n⟩] [(3,⟨[],[],[(6,50021,266,2)],[],[]⟩)]).ok nT 208 Tryz.f208 [sI,sL 2,sL 2] [eT 2,eR 50021 266 2,sI] [] 0 0 @T8 n
def Gi:EZ9 206:=mkW (Xa [⟨207,Q0C n⟩,⟨208,BZ n⟩] []).ok nT 206 Tryz.f206 [eA [qI,qI,qI],eA [qI,qI,qI],eP 1000000 1,sI,eP 1000001 1,eR 1000002 266 2] [eT 0] [] 9 1 @Zb n
def HM:BZ9:=Xa [⟨206,Gi n⟩] []
def MS:LZ9:=mkU (HM n).ok nT 0 Tryz.f205 [(0,.l 3),(1,.l 3),(2,.fn 206 [.ptr 1000000 0,.ptr 1000001 0])] [(98040,.arr 266 2),(1000000,.box [tI]),(1000001,.box [.arr 98040])] 53 [xE 0 [(15,.b)]] @QG n
def Lv:EZ9 205:=mkW (HM n).ok [MS n n] 205 Tryz.f205 [sL 3,sL 3,eF 206 2,eP 1000000 1,sI,eP 1000001 1,eR 1000002 266 2] [eT 0] [] 0 1 @KN n
def LI:EZ9 182:=mkW (Xa [⟨180,Nw n⟩,⟨205,Lv n⟩] [(3,⟨[],[],[(6,50024,266,2)],[],[]⟩),(6,⟨[],[],[(6,50024,266,2)],[],[]⟩),(7,⟨[],[],[],[(8,0,2320,266,2)],[]⟩)]).ok nT 182 Tryz.f182 [sI,sL 3,sL 3] [eT 2,eR 50024 266 2,sI] [] 0 0 @Jf n
def CY:EZ9 234:=mkD (Xa [] []).ok nT 234 Tryz.f234 0 @PF n
def N8:BZ9:=Xa [⟨234,CY n⟩] []
def Cp:LZ9:=mkU (N8 n).ok nT 3 Tryz.f210 [Qmg,(6,.l 2),Qm0,QlL] [] 68 [xE 0 [(9,.b)]] @ZU n
def AJ:EZ9 210:=mkD (N8 n).ok [Cp n n] 210 Tryz.f210 0 @Rb n
def BR:EZ9 183:=mkD (Xa [⟨209,Mk n⟩,⟨210,AJ n⟩] []).ok nT 183 Tryz.f183 0 @Td n
def GN:BZ9:=Xa [⟨182,LI n⟩,⟨183,BR n⟩] [(8,⟨[],[],[],[],[50018]⟩),(11,⟨[],[],[(11,1011,123,2)],[],[]⟩)]
def FY:LZ9:=mkU (GN n).ok nT 12 Tryz.f139 [Qnn,(11,.arr 1011),(65,.l 2),(66,tI),(67,tI)] [(1011,.arr 123 2)] 229 [xE 0 [(68,.b)]] @ZD n
def Fk:LZ9:=mkU (GN n).ok nT 12 Tryz.f139 [Qnn,(11,.arr 1011),(65,.arr 50018),(66,tI),(67,tI)] [(1011,.arr 123 2),(50018,.arr 266 2)] 157 [xE 0 [(68,.b)]] @YL n
def Db:EZ9 139:=mkD (GN n).ok [orL (Fk n n) (FY n n)] 139 Tryz.f139 0 @WJ n
def Y7:BZ9:=Xa [⟨138,Gg n⟩,⟨140,MU n⟩,⟨139,Db n⟩,⟨136,N5 n⟩,⟨135,G9 n⟩] []
def GT:LZ9:=mkU (Y7 n).ok nT 12 Tryz.f84 [QlJ,Qmg,QlX,Qmr,Qml,(63,.l 2),(64,tI),(65,tI)] Qp0 41152 [xE 4 [(66,.b)]] @QQ n
def GH:LZ9:=mkU (Y7 n).ok [GT n n] 5 Tryz.f84 [QlJ,Qmg,QlX,Qmr,Qml] Qp0 11622793282 [.f .ret [(2,tI)] [(98012,.arr 3 1),(98017,.arr 60 3),(98018,.arr 57 6),(1000000,bT 192 Qoe)] [0,5,6,0,8,9,10,11,12,13,14,15,16,17,18,19,20,21,22,23],xE 2 [(26,.b)]] @X7 n
def GC:LZ9:=mkU (Y7 n).ok [GH n n] 2 Tryz.f84 [QlJ,Qmr,Qml] Qp0 1291421482 [.f .ret [(2,tI)] [(98012,.arr 3 1),(98017,.arr 60 3),(98018,.arr 57 6),(1000000,bT 192 Qoe)] [0,3,4,0,6,7,8,9,10,11,12,13,14,15,16,17,18,19,20,21],xE 0 [(16,.b)]] @QH n
def K8:EZ9 84:=mkW (Y7 n).ok [GC n n] 84 Tryz.f84 (pT 1000000 192 Qoj []) [sI] [] 221167 524286 @Yp n
def D2:EZ9 184:=mkD (Xa [] []).ok nT 184 Tryz.f184 0 @Gm n
def Nf:BZ9:=Xa [⟨184,D2 n⟩] []
def CU:LZ9:=mkU (Nf n).ok nT 4 Tryz.f142 [QmX,(26,.l 6),(27,tI),(28,tI)] [(1,.box QnR)] 373 [.f .ret [(2,.cb false)] [] [],xE 0 [(29,.b)]] @U8 n
def BK:EZ9 142:=mkD (Nf n).ok [CU n n] 142 Tryz.f142 0 @Tg n
def Ml:BZ9:=Xa [⟨142,BK n⟩] []
def A5:LZ9:=mkU (Ml n).ok nT 4 Tryz.f86 [Qmx,(18,.l 1),QnO,(20,tI)] [(2,.box QnR)] 49 [.f .ret [(4,.cb false)] [] [],xE 0 [(21,.b)]] @V4 n
def L4:EZ9 86:=mkD (Ml n).ok [A5 n n] 86 Tryz.f86 0 @G5 n
def E2:EZ9 141:=mkD (Xa [⟨59,RU n⟩] []).ok nT 141 Tryz.f141 0 @JI n
def N2:BZ9:=Xa [⟨86,L4 n⟩,⟨141,E2 n⟩] []
def Cy:LZ9:=mkU (N2 n).ok nT 4 Tryz.f85 [Qny,Qmx,(13,.l 6),Qmr,Qml] [(2,.box QnR)] 1120 [.f .ret [(4,tI),(5,.cb true)] [] [0],xE 0 [(16,.b)]] @Ua n
def AK:EZ9 85:=mkD (N2 n).ok [Cy n n] 85 Tryz.f85 0 @Gj n
def El:EZ9 58:=mkD (Xa [⟨85,AK n⟩,⟨86,L4 n⟩] []).ok nT 58 Tryz.f58 0 @XM n
def TK:EZ9 30:=mkW (Xa [] []).ok nT 30 Tryz.f30 (pT 1000000 104 Qon [sI,sI]) [sI] [] 127 510 @Y3 n
def P1:EZ9 47:=mkW (Xa [] []).ok nT 47 Tryz.f47 (pT 1000000 104 Qon [sI,sI]) [sB] [] 189 510 @ZK n
def XG:BZ9:=Xa [⟨47,P1 n⟩] []
def K4:LZ9:=mkU (XG n).ok nT 3 Tryz.f31 [QlJ,QlK,(5,.arr 19),(21,tI),(22,tI)] Qp1 21946 [xE 0 [(23,.b)]] @QK n
def K5:LZ9:=mkU (XG n).ok nT 15 Tryz.f31 [QlJ,(5,.arr 19),(7,.b),QlL,(36,tI),(37,tI),(46,.l 1),(47,tI),(48,tI)] Qp1 4808813 [xE 6 [(49,.b)]] @QB n
def K3:LZ9:=mkU (XG n).ok [K5 n n] 12 Tryz.f31 [QlJ,(5,.arr 19),(7,.b),(36,tI),(37,tI)] Qp1 59450 [xE 4 [(38,.b)]] @Xf n
def GY:LZ9:=mkU (XG n).ok [K3 n n] 9 Tryz.f31 [QlJ,(5,.arr 19),(7,.b)] Qp1 6605 [.e 2 [(34,.b)] [7] [] []] @QC n
def KC:EZ9 31:=mkW (XG n).ok [K4 n n,GY n n] 31 Tryz.f31 (pT 1000000 104 Qon [sI]) [eR 19 3 1] [] 161 510 @XZ n
def Vu(n:Nat):BZ9:=Xa [] [(2,⟨[],[],[(5,1005,3,1)],[],[]⟩)]
def HG:LZ9:=mkU (Vu n).ok nT 3 Tryz.f32 [QlJ,QlK,Qnz,(12,.l 6),Qmo,Qmr] [(1005,.arr 3 1),Qoq,Qor,Qos,Qot,Qp2] 2416 [xE 0 [(15,.b)]] @X9 n
def HZ:EZ9 32:=mkW (Vu n).ok [HG n n] 32 Tryz.f32 (pT 1000000 104 Qon [sI]) [eR 1005 3 1] [] 219 510 @YY n
def VM(n:Nat):BZ9:=Xa [] []
def Tc:LZ9:=mkU (VM n).ok nT 3 Tryz.f33 [QlJ,Qny,Qm0,(12,.l 1),Qmo,Qmr] [Qoq,Qor,Qos,Qot,Qp2] 178081 [xE 0 [(15,.b)]] @X3 n
def Tm:EZ9 33:=mkW (VM n).ok [Tc n n] 33 Tryz.f33 (pT 1000000 104 Qon [sL 1,sL 1]) [sI] [] 235 510 @Yv n
def Tw:EZ9 34:=mkW (Xa [] []).ok nT 34 Tryz.f34 (pT 1000000 104 Qon [sL 1,sI,sI]) [sB] [] 235 510 @Zk n
def Q5b:EZ9 150:=mkD (Xa [] []).ok nT 150 Tryz.f150 0 @Dv n
def Q02:BZ9:=Xa [⟨150,Q5b n⟩] [(2,⟨[],[],[(6,1006,183,3)],[],[]⟩)]
def Q6o:LZ9:=mkU (Q02 n).ok nT 3 Tryz.f106 [(0,.t),QlK,QlZ,Qm0] [(1006,.arr 183 3)] 76 [.f .ret [(4,.nil),(5,.ci .i64 2)] [] [],xE 0 [(18,.b)]] @Tx n
def Q8A:EZ9 106:=mkD (Q02 n).ok [Q6o n n] 106 Tryz.f106 0 @Q6A n
def Rf:BZ9:=Xa [⟨106,Q8A n⟩] [(5,⟨[],[],[(5,1005,181,1)],[],[]⟩)]
def Q2M:LZ9:=mkU (Rf n).ok nT 9 Tryz.f74 [(0,.t),Qnz,Qmq,Qm0,QlL] [(1005,.arr 181 1)] 55 [xE 2 [(30,.b)]] @R3 n
def Q2c:LZ9:=mkU (Rf n).ok [Q2M n n] 6 Tryz.f74 [(0,.t),Qnz,Qmq,Qm0] [(1005,.arr 181 1)] 79 [.f .ret [(2,.nil),(3,tI),(4,tI)] [] [0,0],xE 0 [(17,.b)]] @T0 n
def Cb:EZ9 74:=mkD (Rf n).ok [Q2c n n] 74 Tryz.f74 0 @Dz n
def L0:BZ9:=Xa [⟨186,C9 n⟩] []
def Q0i:LZ9:=mkU (L0 n).ok nT 8 Tryz.f151 [(4,.t),QlY,Qmq,Qm0] [] 73 [.f .ret [(2,.ci .i64 0),(3,.cb false)] [] [],xE 0 [(44,.b)]] @KX n
def Gs:EZ9 151:=mkD (L0 n).ok [Q0i n n] 151 Tryz.f151 0 @WS n
def F7(n:Nat):BZ9:=Xa [] []
def Q1N:LZ9:=mkU (F7 n).ok nT 2 Tryz.f152 [(0,.l 1),(1,.t),QlY] [] 22 [.f .ret [(4,tI)] [] [0],xE 0 [(9,.b)]] @R9 n
def Ma:EZ9 152:=mkD (F7 n).ok [Q1N n n] 152 Tryz.f152 0 @Kr n
def Sb:EZ9 107:=mkW (Xa [⟨151,Gs n⟩,⟨152,Ma n⟩] []).ok nT 107 Tryz.f107 [eP 1000000 4,eR 1000001 9 1,eR 1000002 9 1,eR 1000003 62 5,eR 1000004 172 6,sL 3] [sI] [] 10 22 @Kb n
def Cu:EZ9 153:=mkD (Xa [] []).ok nT 153 Tryz.f153 0 @PI n
def Nz:EZ9 108:=mkW (Xa [⟨153,Cu n⟩,⟨110,Lt n⟩,⟨152,Ma n⟩] []).ok nT 108 Tryz.f108 [eP 1000000 4,eR 1000001 9 1,eR 1000002 9 1,eR 1000003 62 5,eR 1000004 172 6,sL 3] [sI] [] 0 14 @TH n
def EW:EZ9 75:=mkW (Xa [⟨107,Sb n⟩,⟨108,Nz n⟩] []).ok nT 75 Tryz.f75 [eP 1000000 4,eR 1000001 9 1,eR 1000002 9 1,eR 1000003 62 5,eR 1000004 172 6,sL 3] [sI] [] 0 0 @NK n
def Fm:BZ9:=Xa [⟨74,Cb n⟩,⟨75,EW n⟩,⟨76,Pd n⟩] [(5,⟨[],[],[],[(8,0,500800,9,1),(8,1,500801,9,1),(8,2,500802,62,5),(8,3,500803,172,6)],[]⟩)]
def Q1L:LZ9:=mkU (Fm n).ok nT 6 Tryz.f55 [Qmx,(5,.l 1),Qn5,Qmb] [QoO,(8,.box [.arr 500800,.arr 500801,.arr 500802,.arr 500803]),(500800,.arr 9 1),(500801,.arr 9 1),(500802,.arr 62 5),(500803,.arr 172 6)] 727 [.f .ret [(2,.ptr 2 0),(3,tI),(4,tI)] [(2,.box Qmu)] [0,0],xE 0 [(26,.b)]] @R8 n
def Q44:EZ9 55:=mkD (Fm n).ok [Q1L n n] 55 Tryz.f55 0 @Q10 n
def NM:BZ9:=Xa [⟨151,Gs n⟩] [(2,⟨[],[],[(4,1004,3,1)],[],[]⟩)]
def Q03:LZ9:=mkU (NM n).ok nT 3 Tryz.f157 [(0,.l 3),(4,.arr 1004),QlY] [(1004,.arr 3 1)] 25 [.f .ret [(2,.nil),(3,.cb false)] [] [],xE 0 [(11,.b)]] @Ts n
def La:EZ9 157:=mkD (NM n).ok [Q03 n n] 157 Tryz.f157 0 @DT n
def FW:BZ9:=Xa [⟨151,Gs n⟩] []
def Q2P:LZ9:=mkU (FW n).ok nT 2 Tryz.f158 [(0,.t),QlY] [] 7 [.f .ret [(2,tI),(3,tI),(4,.b)] [] [0,0,0],xE 0 [(14,.b)]] @RV n
def Q43:EZ9 158:=mkD (FW n).ok [Q2P n n] 158 Tryz.f158 0 @Q8s n
def Jx(n:Nat):BZ9:=Xa [] []
def Pz:LZ9:=mkU (Jx n).ok nT 2 Tryz.f156 [QlJ,(1,.t),QlY] Qp4 177154 [.f .ret [(4,tI)] [(98005,.arr 79 5),(98006,.arr 66 2),(98007,.arr 90 4),(98008,.arr 87 7),(98009,.arr 146 4),(98010,.arr 93 5),(98011,.arr 45 3),(1000000,.box Qoy)] [0,3,4,5,6,7,8,9,10,11,12,13,14,15],xE 0 [(13,.b)]] @UA n
def PR:EZ9 156:=mkW (Jx n).ok [Pz n n] 156 Tryz.f156 [eP 1000000 13,sL 1,sL 1,sL 5,sL 6,sI,eR 1000001 79 5,eR 1000002 66 2,eR 1000003 90 4,eR 1000004 87 7,eR 1000005 146 4,eR 1000006 93 5,eR 1000007 45 3,sI,sT] [sI] [] 8187 16382 @Kj n
def Vb:BZ9:=Xa [⟨151,Gs n⟩,⟨156,PR n⟩] [(15,⟨[],[],[],[(6,0,1060,128,2)],[]⟩)]
def SU:LZ9:=mkU (Vb n).ok nT 11 Tryz.f113 [QlJ,(1,.l 3),QlY,QmB,Qmb] [(6,.box [.nil,tI]),QoA,QoB,QoC,QoD,QoE,QoF,QoG,Qp5] 22 [.f .ret [(4,.ci .i64 2)] [(98005,.arr 79 5),(98006,.arr 66 2),(98007,.arr 90 4),(98008,.arr 87 7),(98009,.arr 146 4),(98010,.arr 93 5),(98011,.arr 45 3),(1000000,.box Qoy)] [5,6,7,8,9,10,11,12,13,14,15,16,17],xE 0 [(55,.b)]] @YM n
def RL:LZ9:=mkU (Vb n).ok nT 16 Tryz.f113 [QlJ,(1,.l 3),QlY,QmB,QmV] [(6,.box [.arr 1060,tI]),(1060,.arr 128 2),QoA,QoB,QoC,QoD,QoE,QoF,QoG,Qp5] 4783153 [.f .ret [(4,.ci .i64 3)] [(98005,.arr 79 5),(98006,.arr 66 2),(98007,.arr 90 4),(98008,.arr 87 7),(98009,.arr 146 4),(98010,.arr 93 5),(98011,.arr 45 3),(1000000,.box Qoy)] [6,7,8,9,10,11,12,13,14,15,16,17,18],xE 2 [(76,.b)]] @Yg n
def Nr:EZ9 113:=mkW (Vb n).ok [SU n n,RL n n] 113 Tryz.f113 [eP 1000000 13,sL 1,sL 1,sL 5,sL 6,sI,eR 1000001 79 5,eR 1000002 66 2,eR 1000003 90 4,eR 1000004 87 7,eR 1000005 146 4,eR 1000006 93 5,eR 1000007 45 3,sI,sL 3] [sI] [] 8123 16254 @HP n
def Gh(n:Nat):BZ9:=Xa [] []
def Ry:LZ9:=mkU (Gh n).ok nT 2 Tryz.f160 [QlJ,(1,.t),QlY] Qp4 16 [.f .ret [(4,tI)] [(98005,.arr 79 5),(98006,.arr 66 2),(98007,.arr 90 4),(98008,.arr 87 7),(98009,.arr 146 4),(98010,.arr 93 5),(98011,.arr 45 3),(1000000,.box Qoy)] [0,3,4,5,6,7,8,9,10,11,12,13,14,15],xE 0 [(13,.b)]] @Vf n
def Nq:EZ9 160:=mkW (Gh n).ok [Ry n n] 160 Tryz.f160 [eP 1000000 13,sL 1,sL 1,sL 5,sL 6,sI,eR 1000001 79 5,eR 1000002 66 2,eR 1000003 90 4,eR 1000004 87 7,eR 1000005 146 4,eR 1000006 93 5,eR 1000007 45 3,sI,sT] [sI] [] 8159 16382 @HR n
def QiI:TT:=(90,⟨.struct,4,56,[.string ⟨#[]⟩,.int .i64 0,.int .i64 0,.slice none 0 0],[.str [],.int .i64 0,.int .i64 0,.nl],[(0,9),(1,3),(2,3),(3,88)],none⟩)::gtt
theorem Qek:TOk Tryz.prog QiI:=λt ti h=>by
  unfold QiI at h
  rw[Xd]at h
  split at h
  · rename_i e
    subst e
    injection h with h
    subst h
    have h:=DV 90 _ (show look gtt 90=some _ from rfl)
    exact⟨h.inf,h.one,h.kint,h.kbool,h.kstr,h.ksl,h.kstruct,h.karr,h.keq,h.zlen,λ_ j x hj=>by
      rcases j with _ | _ | _ | _ | j
      · cases hj;exact⟨_,rfl,λ_ _=>.str ⟨#[]⟩⟩
      · cases hj;exact⟨_,rfl,λ_ _=>.int _ _⟩
      · cases hj;exact⟨_,rfl,λ_ _=>.int _ _⟩
      · cases hj;exact⟨_,rfl,λ_ _=>.nl⟩
      · (cases hj),h.kmpb,h.kmap⟩
  · exact DV t ti h
def Nm:BZ9:=⟨⟨A6 (QbQ [⟨151,Gs n⟩,⟨157,La n⟩,⟨160,Nq n⟩,⟨152,Ma n⟩]),QiI,[]⟩,AA (Bm _),Qek,by kernel_rfl⟩
def Ny:EZ9 118:=mkW (Nm n).ok nT 118 Tryz.f118 [eP 1000000 13,sL 1,sL 1,sL 5,sL 6,sI,eR 1000001 79 5,eR 1000002 66 2,eR 1000003 90 4,eR 1000004 87 7,eR 1000005 146 4,eR 1000006 93 5,eR 1000007 45 3,sI,sL 3] [sI] [] 1870 3742 @To n
def G1:EZ9 77:=mkW (Xa [⟨113,Nr n⟩,⟨118,Ny n⟩] []).ok nT 77 Tryz.f77 [eP 1000000 13,sL 1,sL 1,sL 5,sL 6,sI,eR 1000001 79 5,eR 1000002 66 2,eR 1000003 90 4,eR 1000004 87 7,eR 1000005 146 4,eR 1000006 93 5,eR 1000007 45 3,sI,sL 3] [sI] [] 1802 3614 @Kk n
def CE:EZ9 14:=mkD (Xa [⟨43,DY n⟩,⟨44,ES n⟩,⟨45,SO n⟩] []).ok nT 14 Tryz.f14 0 @Jq n
end Go.Vx
namespace Go.Vx
section
variable{R:Type}
theorem Q4I(x:Int):0<=IntKind.wrap .u64 x:=by
 have:=Int.emod_nonneg x (show(18446744073709551616:Int)≠0 by decide);simpa[IntKind.wrap,IntKind.bits,IntKind.signed]using this
theorem Qcg{x:Int}(a:0<=x)(b:x<18446744073709551616):IntKind.wrap .u64 x=x:=by
 have:=Int.emod_eq_of_lt a b;simpa[IntKind.wrap,IntKind.bits,IntKind.signed]using this
def pick(v m:Int):Int:=(IntKind.wrap .u64 v).tmod m
theorem SI(v:Int){m:Int}(h:0<m):0<=pick v m/\pick v m<m:=by
 unfold pick;rw[Int.tmod_eq_emod_of_nonneg (Q4I v)];exact⟨Int.emod_nonneg _ I,Int.emod_lt_of_pos _ h⟩
theorem Qeg(n:Nat)(v:Int){m:Int}(h:0<m)(hm:m<=9223372036854775807)(K:Int->oP R):Hp n v m K=K (pick v m):=by
 unfold Hp;rw[Qcg (x:=m) I I,CS I];simp -implicitDefEqProofs only[Qh];have:=SI v h;unfold pick at this ⊢;rw[Q5B I I]
theorem Qc5(n:Nat){l:Y Int}(hl:l.length<=9223372036854775807){i:Nat}(hi:i<=l.length){m:Int}(h:0<m)(hm:m<=9223372036854775807) :
  ∃(v:Int) (j:Nat),0<=v/\v<m/\j<=l.length/\∀(R:Type) (K:Int->Int->oP R),Qm n (encI l) i m K=K v j:=by
 by_cases aa:i<l.length
 ·have hg:=List.getElem?_eq_getElem aa;refine⟨pick l[i] m,i+1,(SI _ h).1,(SI _ h).2,I,λR K=>?_⟩;unfold Qm;rw[Qq (by simp[QR];omega),Q5B (x:=(i:Int)+1) I I,Q5B I I];rw[show(i:Int)+1-1=(i:Int) by omega,KU hg];simp -implicitDefEqProofs only[Qh,List.getElem?_cons_zero,Qj,Qeg n _ h hm];rfl
 ·refine⟨0,i,I,h,hi,λR K=>?_⟩;unfold Qm;rw[Xh (by simp[QR];omega)]
end
def OkP{R:Type}(P:R->Prop)(E:oP R):Prop:=∃v,E=some v/\P v
instance {R:Type}:Membership (oP R) (R->Prop):=⟨λP E=>OkP P E⟩
theorem okI{R:Type}{P:R->Prop}{v:R}(h:P v):some v∈P:=⟨v,rfl,h⟩
theorem okB{R S:Type}{P:S->Prop}{E:oP R}{z:R}{f:R->oP S}(h:E∈(λv=>f v∈P:R->Prop)):gb true E z f∈P:=by
 obtain⟨v,e,h⟩:=h;rw[e];exact h
theorem Vv{R:Type}{n:Nat}{l:Y Int}(hl:l.length<=9223372036854775807){i:Nat}(hi:i<=l.length){m:Int}(h:0<m)(hm:m<=9223372036854775807){z:Int×Int}{f:Int×Int->oP R}{P:R->Prop}(H:∀(v:Int) (j:Nat),0<=v->v<m->j<=l.length->f (v,(j:Int))∈P) :
  gb true (Qm n (encI l) (i:Int) m Tu2) z f∈P:=by
 obtain⟨v,j,c,d,hj,e⟩:=Qc5 n hl hi h hm;rw[e];exact H v j c d hj
structure Num(a b c:Int):Prop where
 a0:2<=a
 a1:a<=10
 b0:5000<=b
 b1:b<=35000
 c0 : -10<=c
 c1:c<=10
theorem Qo{x:Int}(a : -9223372036854775808<=x)(b:x<=9223372036854775807):wJ x=x:=by
 simp only[IntKind.wrap_i64];omega
theorem QfH{R:Type}{n:Nat}{l:Y Int}(hl:l.length<=9223372036854775807){i:Nat}(hi:i<=l.length){nm:Y UInt8}{st:Int}{z:Y UInt8×Int×Int×Int×Int×Int}{f:Y UInt8×Int×Int×Int×Int×Int->oP R}{P:R->Prop}(H:∀(a b c:Int) (j:Nat),Num a b c->j<=l.length->f (nm,a,b,c,st,(j:Int))∈P) :
  gb true (WE n (encI l) (i:Int) nm st Tu6) z f∈P:=by
 obtain⟨v,j,u,y,hj,e⟩:=Qc5 n hl hi (show(0:Int)<9 by decide) Q1;obtain⟨d,j2,g0,g1,q,e2⟩:=Qc5 n hl hj (show(0:Int)<7 by decide) Q1;obtain⟨r,j3,k0,k1,s,t⟩:=Qc5 n hl q (show(0:Int)<21 by decide) Q1;unfold WE;rw[e,Qh,e2,Qh,t,Qh,Qh];rw[Qo (x:=2+v) I I,Qo (x:=5000*d) I I,Qo (x:=5000+5000*d) I I,Qo (x:=r-10) I I];exact H _ _ _ _ ⟨I,I,I,I,I,I⟩ s
theorem two{v:Int}(a:0<=v)(b:v<2):v=0\/v=1:=I
theorem By{R:Type}(n:Nat)(a:Y UInt8)(d:Nat)(hd:d<10)(ha:a.length<=100)(K:Y UInt8->oP R):Vz n a (d:Int) K=K (a++[UInt8.ofNat (48+d)]):=by
 have:∀d:Fin 10,∃q,slB (List.length (bs [48,49,50,51,52,53,54,55,56,57])) (some (Int.tmod (d.val:Int) (10:Int))) (some (wJ ((Int.tmod (d.val:Int) (10:Int))+(1:Int))))=some q/\cut (bs [48,49,50,51,52,53,54,55,56,57]) q=[UInt8.ofNat (48+d.val)]:=by
  intro d
  match d with
  |0=>exact⟨_,rfl,rfl⟩
  |1=>exact⟨_,rfl,rfl⟩
  |2=>exact⟨_,rfl,rfl⟩
  |3=>exact⟨_,rfl,rfl⟩
  |4=>exact⟨_,rfl,rfl⟩
  |5=>exact⟨_,rfl,rfl⟩
  |6=>exact⟨_,rfl,rfl⟩
  |7=>exact⟨_,rfl,rfl⟩
  |8=>exact⟨_,rfl,rfl⟩
  |9=>exact⟨_,rfl,rfl⟩
 obtain⟨q,b,h2⟩:=this ⟨d,hd⟩;unfold Vz;simp only at b h2;rw[b];have hz:nz (10:Int)=some ():=rfl;rw[hz,Qh,Qh,Qh,h2];have hs:Q8i (a.length+([UInt8.ofNat (48+d)]:Y UInt8).length)=some ():=by
  unfold Q8i;rw[show Nat.ble (a.length+([UInt8.ofNat (48+d)]:Y UInt8).length) 9223372036854775807=true from Nat.ble_eq_true_of_le Q3];rfl
 rw[hs,Qh]
theorem XI{k:Nat}(h:k<=100000):Y5 k=some ():=by
 unfold Y5;rw[show Nat.ble k 140737488355328=true from Nat.ble_eq_true_of_le I];rfl
theorem QjJ{R:Type}{n:Nat}{e:LL}{s:Y UInt8}{a b c d:Int}{z:Int×LL}{f:Int×LL->oP R}{P:R->Prop}(k:Nat)(hk:e.length=k)(h:k<=1000)(H:f ((k:Int),e++[[D.str s,D.int .i64 a,D.int .i64 b,D.int .i64 c,D.int .i64 d]])∈P) :
  gb true (Zi n e s a b c d Tu2) z f∈P:=by
 unfold Zi;rw[XI Q3,Qh,Qh];have hl:(e++[[D.str s,D.int .i64 a,D.int .i64 b,D.int .i64 c,D.int .i64 d]]).length=k+1:=by simp[hk]
 rw[hl,Qo (x:=((k+1:Nat):Int)-1) I I,show((k+1:Nat):Int)-1=(k:Int) by omega];exact H
theorem Qke{R:Type}{n:Nat}{e:LL}{s:Y UInt8}{a b c d:Int}{z:Int×LL}{f:Int×LL->oP R}{P:R->Prop}(k:Nat)(hk:e.length=k)(h:k<=1000)(hn:Num a b c)(H:f ((k:Int),e++[[D.str s,D.int .i64 (a+2),D.int .i64 b,D.int .i64 c,D.int .i64 d]])∈P) :
  gb true (Zi n e s (wJ (a+2)) b c d Tu2) z f∈P:=by
 have j:=hn.a0;have l:=hn.a1;rw[Qo (x:=a+2) I I];exact QjJ k hk h H
def QjK(i k:Nat):Y UInt8:=bs [84]++[UInt8.ofNat (48+i)]++[UInt8.ofNat (48+k)]
def nmL(i k:Nat):Y UInt8:=bs [76]++[UInt8.ofNat (48+i)]++[UInt8.ofNat (48+k)]
abbrev Nv:=Int×Int×Int
def secT(i k:Nat)(x:Nv):Y D:=[D.str (QjK i k),Ql (x.1+2),Ql x.2.1,Ql x.2.2,Ql i]
def secL(i k:Nat)(x:Nv):Y D:=[D.str (nmL i k),Ql x.1,Ql x.2.1,Ql x.2.2,Ql (-1)]
def YH(f:Nat->Nv->Y D):Nat->Y Nv->LL
 |k+1,x::y=>f (k+1) x::YH f k y
 |_,_=>[]
def ups(k:Nat):Nat->Y Nat
 |0=>[]
 |c+1=>k::ups (k+1) c
def W0(l:Y Nat):LL:=l.map λk=>[Ql (k:Nat)]
def H6:Y Nv->Prop
 |[]=>True
 |x::r=>Num x.1 x.2.1 x.2.2/\H6 r
section
variable{R:Type} {n:Nat} {l:Y Int} (hl:l.length<=9223372036854775807) {P:R->Prop}
include hl
theorem Qit{i c k j m:Nat}{tl S:LL}{k0:Int->Bool->LL->LL->Int->oP R}(hi:i<10)(hc:c+1<10)(hk:S.length=k)(e:k<=500)(ht:tl.length<=500)(hj:j<=l.length)(H:∀(x:Nv) (j:Nat),Num x.1 x.2.1 x.2.2->j<=l.length->JX n i (encI l) k0 m (c:Int) (tl++[[Ql k]]) (S++[secT i (c+1) x]) (j:Int)∈P) :
  JX n (i:Int) (encI l) k0 (m+1) ((c+1:Nat):Int) tl S (j:Int)∈P:=by
 unfold JX;rw[Xh Q2,By n _ i hi Q1,Qh,By n _ (c+1) hc Q2,Qh];refine QfH hl hj λa b d j hn hj=>?_
 dsimp only;refine Qke k hk I hn ?_;dsimp only;rw[XI Q3,Qh,Qo (x:=((c+1:Nat):Int)-1) I I,show((c+1:Nat):Int)-1=(c:Int) by omega];exact H (a,b,d) j hn hj
theorem QeJ{i c k j m:Nat}{S:LL}{k0:Int->Bool->LL->LL->Int->oP R}(hi:i<10)(hc:c=1\/c=2)(hk:S.length=k)(a:k<=400)(hj:j<=l.length)(H:∀(x:Y Nv) (j:Nat),H6 x->x.length=c->j<=l.length->k0 0 false (W0 (ups k c)) (S++YH (secT i) c x) (j:Int)∈P) :
  JX n (i:Int) (encI l) k0 (m+3) (c:Int) [] S (j:Int)∈P:=by
 rcases hc with rfl | rfl
 ·refine Qit hl (c:=0) hi I hk I Q2 hj λx j hx hj=>?_
  exact H [x] j ⟨hx,trivial⟩ rfl hj
 ·refine Qit hl (c:=1) hi I hk I Q2 hj λx j hx hj=>?_
  refine Qit hl (c:=0) (k:=k+1) hi I (by simp[hk]) I Q2 hj λy j hy hj=>?_
  have:=H [x,y] j ⟨hx,hy,trivial⟩ rfl hj;simp only[YH,ups,W0,List.map_cons,List.map_nil]at this;show k0 0 false _ (S++[secT i 2 x]++[secT i 1 y]) (j:Int)∈P;rw[List.append_assoc S];exact this
end
def Q7o(a b:Int)(p q:Int):Y D:=[Ql a,Ql 1,Ql b,Ql 0,Ql p,Ql q]
def lk(aa:Bool)(x t:Int)(p q:Int):Y D:=bif aa then Q7o x t p q else Q7o t x p q
def nmP(k:Nat):Y D:=[D.str (bs [80]++[UInt8.ofNat (48+k)])]
def Q41(x:Nat)(aa:Bool)(ac k c:Nat):LL:=bif Nat.beq c 2 then[lk aa x k ac 0,lk aa x ((k+1:Nat):Int) ac 1]else[lk aa x k (-1) 0]
def Q3g(aa c:Nat):LL:=bif Nat.beq c 2 then[nmP aa]else[]
section
variable{R:Type} {n:Nat} {q2 q4:LL}
theorem Qf1{a b c d:Int}(h:q4.length<=1000)(K:LL->oP R):Yl n q4 a b c d K=K (q4++[Q7o a b c d]):=by
 unfold Yl;rw[XI Q3,Qh];rfl
theorem Qfy{k:Nat}(hk:q2.length=k)(h:k<10)(K:Int->LL->oP R):Zy n q2 K=K (k:Int) (q2++[nmP k]):=by
 unfold Zy;rw[hk,By n _ k h Q1,Qh,XI Q3,Qh];have hl:(q2++[[D.str (bs [80]++[UInt8.ofNat (48+k)])]]).length=k+1:=by simp[hk]
 rw[hl,Qo (x:=((k+1:Nat):Int)-1) I I,show((k+1:Nat):Int)-1=(k:Int) by omega];rfl
theorem Qj4{a1 a:Int}{T:Y Nat}{aa:Bool}{w:Int}{h t m:Nat}(hh:(h:Int)<a)(b:h<=1000)(ht:T[h]? = some t)(hq:q4.length<=1000){k0:Int->Bool->LL->oP R} :
  QO n a1 (W0 T) aa w a k0 (m+1) (h:Int) q4=QO n a1 (W0 T) aa w a k0 m ((h+1:Nat):Int) (q4++[lk aa a1 t w h]):=by
 rw[QO];rw[Xh Q3,Qo (x:=(h:Int)+1) I I];have hr:Qi (W0 T) (h:Int)=some [Ql t]:=X5 ht;cases aa
 ·rw[Qq rfl,hr,Qh];show gb true (some (D.int .i64 (t:Int))) _ _=_;rw[Qh,Qj,Qh,Qf1 hq,Qh];rfl
 ·rw[Xh rfl,hr,Qh];show gb true (some (D.int .i64 (t:Int))) _ _=_;rw[Qh,Qj,Qh,Qf1 hq,Qh];rfl
theorem QfP{a1 a:Int}{T:LL}{aa:Bool}{w:Int}{h m:Nat}(hh:¬ (h:Int)<a){k0:Int->Bool->LL->oP R} :
  QO n a1 T aa w a k0 (m+1) (h:Int) q4=k0 h false q4:=by
 rw[QO,Qq Q3];simp[hh]
theorem Qjr{m x k c p:Nat}{aa:Bool}(hc:c=1\/c=2)(hp:q2.length=p)(a:p<10)(hq:q4.length<=900)(K:LL->LL->oP R) :
  Ve (m+3) q2 q4 (x:Int) (W0 (ups k c)) aa K=K (q2++Q3g p c) (q4++Q41 x aa p k c):=by
 rcases hc with rfl | rfl
 ·show QO (m+3) (x:Int) (W0 [k]) aa (-1) (1:Int) _ (m+2+1) ((0:Nat):Int) q4=_;rw[Qj4 Q1 Q1 rfl I,QfP Q1];rw[show Q3g p 1=[]from rfl,List.append_nil];rfl
 ·show gb true (Zy (m+3) q2 _) _ _=_;rw[Qfy hp a,Qh];show QO (m+3) (x:Int) (W0 [k,k+1]) aa (p:Int) (2:Int) _ (m+2+1) ((0:Nat):Int) q4=_;rw[Qj4 Q1 Q1 rfl I,Qj4 Q1 Q1 rfl Q3,QfP Q1,List.append_assoc];rfl
end
def inL(s u:Nat):LL:=bif Nat.beq u 2 then[Q7o s ((s+1:Nat):Int) (-1) 0]else[]
def pc(c:Nat):Nat:=bif Nat.beq c 2 then 1 else 0
theorem Q6S(p c:Nat):(Q3g p c).length=pc c:=by unfold Q3g pc;cases Nat.beq c 2<;>rfl
theorem QdV{c:Nat}:pc c<=1:=by unfold pc;cases Nat.beq c 2<;>simp
theorem Q36{x p k c:Nat}{e:Bool}:(Q41 x e p k c).length<=2:=by unfold Q41;cases Nat.beq c 2<;>simp
theorem Q5J{s u:Nat}:(inL s u).length<=1:=by unfold inL;cases Nat.beq u 2<;>simp
section
variable{R:Type} {n:Nat} {l:Y Int} (hl:l.length<=9223372036854775807) {P:R->Prop}
include hl
theorem QeB{i c k j m:Nat}{tl S:LL}{k0:Int->Bool->LL->LL->Int->oP R}(hi:i<10)(hc:c+1<10)(hk:S.length=k)(e:k<=500)(ht:tl.length<=500)(hj:j<=l.length)(H:∀(x:Nv) (j:Nat),Num x.1 x.2.1 x.2.2->j<=l.length->JV n i (encI l) k0 m (c:Int) (tl++[[Ql k]]) (S++[secL i (c+1) x]) (j:Int)∈P) :
  JV n (i:Int) (encI l) k0 (m+1) ((c+1:Nat):Int) tl S (j:Int)∈P:=by
 unfold JV;rw[Xh Q2,By n _ i hi Q1,Qh,By n _ (c+1) hc Q2,Qh];refine QfH hl hj λa b d j hn hj=>?_
 dsimp only;refine QjJ k hk I ?_;dsimp only;rw[XI Q3,Qh,Qo (x:=((c+1:Nat):Int)-1) I I,show((c+1:Nat):Int)-1=(c:Int) by omega];exact H (a,b,d) j hn hj
theorem Qcz{i c k j m:Nat}{S:LL}{k0:Int->Bool->LL->LL->Int->oP R}(hi:i<10)(hc:c=1\/c=2)(hk:S.length=k)(a:k<=400)(hj:j<=l.length)(H:∀(x:Y Nv) (j:Nat),H6 x->x.length=c->j<=l.length->k0 0 false (W0 (ups k c)) (S++YH (secL i) c x) (j:Int)∈P) :
  JV n (i:Int) (encI l) k0 (m+3) (c:Int) [] S (j:Int)∈P:=by
 rcases hc with rfl | rfl
 ·refine QeB hl (c:=0) hi I hk I Q2 hj λx j hx hj=>?_
  exact H [x] j ⟨hx,trivial⟩ rfl hj
 ·refine QeB hl (c:=1) hi I hk I Q2 hj λx j hx hj=>?_
  refine QeB hl (c:=0) (k:=k+1) hi I (by simp[hk]) I Q2 hj λy j hy hj=>?_
  have:=H [x,y] j ⟨hx,hy,trivial⟩ rfl hj;simp only[YH,ups,W0,List.map_cons,List.map_nil]at this;show k0 0 false _ (S++[secL i 2 x]++[secL i 1 y]) (j:Int)∈P;rw[List.append_assoc S];exact this
end
section
variable{R:Type} {n:Nat}
theorem inA{s u m:Nat}{q4:LL}(hu:u=1\/u=2)(hq:q4.length<=900){k0:Int->Bool->LL->oP R} :
  SN n (W0 (ups s u)) k0 (m+3) 0 q4=k0 ((u-1:Nat):Int) false (q4++inL s u):=by
 rcases hu with rfl | rfl
 ·rw[show inL s 1=[]from rfl,List.append_nil];rfl
 ·show gb true (Yl n q4 (s:Int) ((s+1:Nat):Int) (-1) 0 _) _ _=_;rw[Qf1 I,Qh];rfl
end
theorem Qil{R:Type}{m:Nat}{l:Y Int}(hl:l.length<=9223372036854775807){P:R->Prop}{a:Int}{g s p k c k' c' j:Nat}{Pt Se Li Tr Bt:LL}{k0:Int->Bool->LL->LL->LL->LL->Int->oP R}{n:Nat}(hg:g<8)(hw:(g:Int)+1<a)(hs:Se.length=s)(i:s<=300)(hp:Pt.length=p)(o:p<8)(hL:Li.length<=300)(hB:Bt.length<=300)(hT:Tr[g]? = some [D.sl 1 (W0 (ups k c))])(aa:Tr[g+1]? = some [D.sl 1 (W0 (ups k' c'))])(hc:c=1\/c=2)(aj:c'=1\/c'=2)(hj:j<=l.length)(H:∀(u:Nat) (x:Y Nv) (j:Nat),(u=1\/u=2)->H6 x->x.length=u->j<=l.length ->
   Uq (m+3) a Tr (encI l) k0 n ((g+1:Nat):Int) ((Pt++Q3g p c)++Q3g (p+pc c) c') (Se++YH (secL g) u x) (((Li++inL s u)++Q41 s false p k c)++Q41 (s+u-1) true (p+pc c) k' c') (Bt++[[D.sl 1 (W0 (ups s u))]]) (j:Int)∈P) :
  Uq (m+3) a Tr (encI l) k0 (n+1) (g:Int) Pt Se Li Bt (j:Int)∈P:=by
 unfold Uq;have ak:wJ ((g:Int)+1)=((g+1:Nat):Int):=by rw[Qo I I];omega
 rw[ak,Xh Q3];refine Vv hl hj Q1 Q1 λv j b d hj=>?_
 obtain⟨u,hu,hv⟩:∃u:Nat,(u=1\/u=2)/\wJ (1+v)=(u:Int):=by
  rcases two b d with rfl | rfl
  ·exact⟨1,.inl rfl,rfl⟩
  ·exact⟨2,.inr rfl,rfl⟩
 dsimp only;rw[hv];refine Qcz hl I hu hs I hj λx j hx ac hj=>?_
 rw[inA hu I];have e:(0:Int).toNat=0:=rfl;have ai:(W0 (ups s u)).length=u:=by rcases hu with rfl | rfl<;>rfl
 have f:(W0 (ups s u))[0]? = some [Ql s]:=by rcases hu with rfl | rfl<;>rfl
 have e1:(W0 (ups s u))[u-1]? = some [Ql ((s+u-1:Nat):Int)]:=by rcases hu with rfl | rfl<;>rfl
 have ar:g<Tr.length:=(List.getElem?_eq_some_iff.1 hT).1;have an:g+1<Tr.length:=(List.getElem?_eq_some_iff.1 aa).1;have h:wJ ((u:Int)-1)=((u-1:Nat):Int):=by rcases hu with rfl | rfl<;>rfl
 rw[ai,XQ I I,Qh,e,f,Qh];show gb true (some (Ql s)) _ _∈P;rw[Qh,Qj,Qh,XQ I I,Qh,Int.toNat_natCast,hT,Qh];show gb true (some (D.sl 1 (W0 (ups k c)))) _ _∈P;rw[Qh,X2,Qh,Qjr hc hp I (by have:=@Q5J s u;simp;omega),Qh];dsimp only;rw[h,XQ I I,Qh,Int.toNat_natCast,e1,Qh];show gb true (some (Ql ((s+u-1:Nat):Int))) _ _∈P;rw[Qh,Qj,Qh,XQ I I,Qh,Int.toNat_natCast,aa,Qh];show gb true (some (D.sl 1 (W0 (ups k' c')))) _ _∈P;rw[Qh,X2,Qh,Qjr (p:=p+pc c) aj (by simp[hp,Q6S]) (by have:=@QdV c;omega) (by have:=@Q5J s u;have:=@Q36 s p k c false;simp;omega),Qh];dsimp only;rw[XI Q3,Qh];exact H u x j hu hx ac hj
def nmS(k:Nat):Y D:=[D.str (bs [83]++[UInt8.ofNat (48+k)])]
theorem Xx{f:Nat->Nv->Y D}:∀{c:Nat} {x:Y Nv},x.length=c->(YH f c x).length=c
 |0,[],_=>rfl
 |c+1,a::x,h=>by simp[YH];exact Xx (by simpa using h)
section
variable{R:Type} {m:Nat} {l:Y Int} (hl:l.length<=9223372036854775807) {P:R->Prop}
include hl
theorem Fy{a:Int}{i k j:Nat}{b d e:LL}{k0:Int->Bool->LL->LL->LL->Int->oP R}{n:Nat}(hi:i<10)(hw:(i:Int)<a)(hk:d.length=k)(g:k<=400)(f:b.length<=400)(h2:e.length<=400)(hj:j<=l.length)(H:∀(c:Nat) (x:Y Nv) (j:Nat),(c=1\/c=2)->H6 x->x.length=c->j<=l.length ->
   UD (m+3) a (encI l) k0 n ((i+1:Nat):Int) (b++[nmS i]) (d++YH (secT i) c x) (e++[[D.sl 1 (W0 (ups k c))]]) (j:Int)∈P) :
  UD (m+3) a (encI l) k0 (n+1) (i:Int) b d e (j:Int)∈P:=by
 unfold UD;rw[Xh Q3,By _ _ i hi Q1,Qh,XI Q3,Qh];refine Vv hl hj Q1 Q1 λv j h f hj=>?_
 obtain⟨c,hc,hv⟩:∃c:Nat,(c=1\/c=2)/\wJ (1+v)=(c:Int):=by
  rcases two h f with rfl | rfl
  ·exact⟨1,.inl rfl,rfl⟩
  ·exact⟨2,.inr rfl,rfl⟩
 dsimp only;rw[hv];refine QeJ hl hi hc hk g hj λx j hx aa hj=>?_
 rw[XI Q3,Qh,Qo (x:=(i:Int)+1) I I];exact H c x j hc hx aa hj
omit hl in
theorem r7e{n m:Nat}{b a:Int}{g c d e:LL}{f:Int}{k0:Int->Bool->LL->LL->LL->Int->oP R}(h:¬ a<b) :
  UD n b g k0 (m+1) a c d e f=k0 a false c d e f:=by
 rw[UD,Qq Q3];simp[h]
omit hl in
theorem QjB{n m:Nat}{b a:Int}{i j c d e f:LL}{g:Int}{k0:Int->Bool->LL->LL->LL->LL->Int->oP R}(h:¬ wJ (a+1)<b) :
  Uq n b i j k0 (m+1) a c d e f g=k0 a false c d e f g:=by
 rw[Uq,Qq Q3];simp[h]
theorem Qip{i:Nat}(hi:i<=l.length){k0:LL->LL->LL->LL->LL->LL->Int->oP R}(H:∀(c0 c1 a:Nat) (b d e:Y Nv) (j:Nat),(c0=1\/c0=2)->(c1=1\/c1=2)->(a=1\/a=2)->H6 b->H6 d->H6 e->b.length=c0->d.length=c1->e.length=a->j<=l.length ->
   k0 [nmS 0,nmS 1] (Q3g 0 c0++Q3g (pc c0) c1) ((YH (secT 0) c0 b++YH (secT 1) c1 d)++YH (secL 0) a e)
    ((inL (c0+c1) a++Q41 (c0+c1) false 0 0 c0)++Q41 (c0+c1+a-1) true (pc c0) c0 c1)
    [[D.sl 1 (W0 (ups 0 c0))],[D.sl 1 (W0 (ups c0 c1))]] [[D.sl 1 (W0 (ups (c0+c1) a))]] (j:Int)∈P) :
  UD (m+3) 2 (encI l) (λ_ _ r t h u=>
   Uq (m+3) 2 h (encI l) (λ_ _ v x y z aa=>k0 r v x y h z aa) (m+3) (0:Int) [] t [] [] u)
   (m+3) (0:Int) [] [] [] (i:Int)∈P:=by
 refine Fy hl (i:=0) Q1 Q1 rfl Q1 Q1 Q1 hi λc0 b j n ab f hj=>?_
 refine Fy hl (i:=1) (k:=c0) Q1 Q1 (by simp[Xx f]) I Q2 Q2 hj λc1 d j o ac q hj=>?_
 rw[r7e Q1];refine Qil hl (g:=0) (s:=c0+c1) (p:=0) (k:=0) (c:=c0) (k':=c0) (c':=c1) Q1 Q1 (by simp[Xx f,Xx q]) I rfl Q1 Q1 Q1 rfl rfl n o hj λa e j ad ae ai hj=>?_
 rw[QjB Q1];have:=H c0 c1 a b d e j n o ad ab ac ae f q ai hj;simpa[Nat.add_assoc]using this
theorem Qis{i:Nat}(hi:i<=l.length){k0:LL->LL->LL->LL->LL->LL->Int->oP R}(H:∀(c0 c1 a b d:Nat) (e f h n o:Y Nv) (j:Nat),(c0=1\/c0=2)->(c1=1\/c1=2)->(a=1\/a=2)->(b=1\/b=2)->(d=1\/d=2)->H6 e->H6 f->H6 h->H6 n->H6 o->e.length=c0->f.length=c1->h.length=a->n.length=b->o.length=d->j<=l.length ->
   k0 [nmS 0,nmS 1,nmS 2] ((Q3g 0 c0++Q3g (pc c0) c1)++Q3g (pc c0+pc c1) c1++Q3g (pc c0+pc c1+pc c1) a)
    ((((YH (secT 0) c0 e++YH (secT 1) c1 f)++YH (secT 2) a h)++YH (secL 0) b n)++YH (secL 1) d o)
    (((inL (c0+c1+a) b++Q41 (c0+c1+a) false 0 0 c0)++Q41 (c0+c1+a+b-1) true (pc c0) c0 c1)++inL (c0+c1+a+b) d++Q41 (c0+c1+a+b) false (pc c0+pc c1) c0 c1++Q41 (c0+c1+a+b+d-1) true (pc c0+pc c1+pc c1) (c0+c1) a)
    [[D.sl 1 (W0 (ups 0 c0))],[D.sl 1 (W0 (ups c0 c1))],[D.sl 1 (W0 (ups (c0+c1) a))]] [[D.sl 1 (W0 (ups (c0+c1+a) b))],[D.sl 1 (W0 (ups (c0+c1+a+b) d))]] (j:Int)∈P) :
  UD (m+4) 3 (encI l) (λ_ _ aa ab v ac=>
   Uq (m+4) 3 v (encI l) (λ_ _ ad ae ag ah ai=>k0 aa ad ae ag v ah ai) (m+4) (0:Int) [] ab [] [] ac)
   (m+4) (0:Int) [] [] [] (i:Int)∈P:=by
 refine Fy hl (m:=m+1) (i:=0) Q1 Q1 rfl Q1 Q1 Q1 hi λc0 e j x aj q hj=>?_
 refine Fy hl (m:=m+1) (i:=1) (k:=c0) Q1 Q1 (by simp[Xx q]) I Q2 Q2 hj λc1 f j t ak r hj=>?_
 refine Fy hl (m:=m+1) (i:=2) (k:=c0+c1) Q1 Q1 (by simp[Xx q,Xx r]) I Q2 Q2 hj λa h j y al u hj=>?_
 rw[r7e Q1];refine Qil hl (m:=m+1) (g:=0) (s:=c0+c1+a) (p:=0) (k:=0) (c:=c0) (k':=c0) (c':=c1) Q1 Q1 (by simp[Xx q,Xx r,Xx u,Nat.add_assoc]) I rfl Q1 Q1 Q1 rfl rfl x t hj λb n j am an z hj=>?_
 have b0:=@QdV c0;have b1:=@QdV c1;have f0:=@Q5J (c0+c1+a) b;have f1:=@Q36 (c0+c1+a) 0 0 c0 false;have f2:=@Q36 (c0+c1+a+b-1) (pc c0) c0 c1 true;refine Qil hl (m:=m+1) (g:=1) (s:=c0+c1+a+b) (p:=pc c0+pc c1) (k:=c0) (c:=c1) (k':=c0+c1) (c':=a) Q1 Q1 (by simp[Xx q,Xx r,Xx u,Xx z,Nat.add_assoc]) I (by simp[Q6S]) I Q3 Q2 rfl rfl t y hj λd o j ao ap aq hj=>?_
 rw[QjB Q1];have:=H c0 c1 a b d e f h n o j x t y am ao aj ak al an ap q r u z aq hj;simpa[Nat.add_assoc]using this
end
def Qd8:oP Bool->Bool
 |some true=>true
 |_=>false
def QjC:oP Bool->Bool
 |some false=>true
 |_=>false
def Q8C:oP Int->Bool
 |some n=>n == 0
 |none=>false
theorem Mc{o:oP Bool}(h:Qd8 o=true):o=some true:=by
 match o,h with
 |some true,_=>rfl
theorem Qa7{o:oP Bool}(h:QjC o=true):o=some false:=by
 match o,h with
 |some false,_=>rfl
theorem VT{o:oP Int}(h:Q8C o=true):o=some 0:=by
 match o,h with
 |some n,h=>simp only[Q8C,beq_iff_eq]at h;rw[h]
end Go.Vx
