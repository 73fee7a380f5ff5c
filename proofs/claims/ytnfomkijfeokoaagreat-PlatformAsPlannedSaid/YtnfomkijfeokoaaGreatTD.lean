/- Part of a proof. No conditions of their own. -/
import Derived.Test.YtnfomkijfeokoaaGreatTB
import Derived.Test.YtnfomkijfeokoaaGreatProg
import Derived.Test.YtnfomkijfeokoaaGreatTC
set_option linter.unusedVariables false
set_option linter.unusedSimpArgs false
noncomputable section

namespace Go.Vx
variable {R:Type} (n:Nat)
def SF (n:Nat) (a0 a1:Int) (K:Int->oP R):oP R:=Qjl R (nz (IntKind.wrap .u64 a1)) fun a=>K (wJ (Int.tmod (IntKind.wrap .u64 a0) (IntKind.wrap .u64 a1)))
def Q5 (b:LL) (a a1:Int) (K:Int->Int->oP R):oP R:=bif decide (a>=(b.length:Int)) then K 0 a else Qjx R b (wJ (wJ (a+1)-1)) fun e=>Qjl R (SF n e a1 some) fun f=>K f (wJ (a+1))
def WN (c:LL) (f:Int) (a1:List UInt8) (a2:Int) (K:(List UInt8)->Int->Int->Int->Int->Int->oP R):oP R:=Qjl R (Q5 n c f 9 Tu2) fun a=>Qjl R (Q5 n c a.2 7 Tu2) fun d=>Qjl R (Q5 n c d.2 21 Tu2) fun e=>K a1 (wJ (2+a.1)) (wJ (5000+wJ (5000*d.1))) (wJ (e.1-10)) a2 e.2
def VM (n:Nat) (a0:List UInt8) (a1:Int) (K:(List UInt8)->oP R):oP R:=Qk5 R 10 (Qjk R [48,49,50,51,52,53,54,55,56,57] fun d=>Qjl R (slB (List.length (bs d)) (some (Int.tmod a1 10)) (some (wJ (Int.tmod a1 10+1)))) fun a=>Qjl R (Q9G (a0.length+List.length (cut (bs d) a))) fun c=>K (a0++cut (bs d) a))
def Zj (n:Nat) (a:LL) (b:List UInt8) (c d e f:Int) (K:Int->LL->oP R):oP R:=Qjk R [[D.str b,Q4 c,Q4 d,Q4 e,Q4 f]] fun h=>Qjl R (Y6 ((a.length+h.length)*48)) fun g=>K (wJ (((List.length (a++h):Nat):Int)-1)) (a++h)
def Yg (n:Nat) (a:LL) (a1 a2 b c:Int) (K:LL->oP R):oP R:=Qjk R [[Q4 a1,Q4 1,Q4 a2,Q4 0,Q4 b,Q4 c]] fun e=>Qjl R (Y6 ((a.length+e.length)*48)) fun d=>K (a++e)
def Zx (a:LL) (K:Int->LL->oP R):oP R:=Qjl R (VM n (bs [80]) (a.length:Int) some) fun b=>Qjk R [[D.str b]] fun c=>Qjl R (Y6 ((a.length+c.length)*16)) fun u2=>K (wJ (((List.length (a++c):Nat):Int)-1)) (a++c)
def Qx (b:Int) (c:LL) (f:Bool) (d e:Int) (k0:Int->Bool->LL->oP R):Nat->Int->LL->oP R
 | 0,_,_=>none
 | m+1,a,g=>bif decide (a<e) then bif f then Qjx R c a fun j=>Qjl R (Yg n g b j d a some) fun k=>Qx b c f d e k0 m (wJ (a+1)) k else Qjx R c a fun p=>Qjl R (Yg n g p b d a some) fun q=>Qx b c f d e k0 m (wJ (a+1)) q else k0 a (decide (a<e)) g
def Vt (b c:LL) (a1:Int) (a2:LL) (d:Bool) (K:LL->LL->oP R):oP R:=Qjk R (a2.length:Int) fun e=>bif decide (e>1) then gb true (Zx n b Tu2) (0,[]) fun a=>Qx n a1 a2 d a.1 e (fun h i f=>K a.2 f) n 0 c else Qx n a1 a2 d (-1:Int) e (fun j k g=>K b g) n 0 c
def G5 (c:Int) (h:LL) (k0:Int->Bool->LL->LL->Int->oP R):Nat->Int->LL->LL->Int->oP R
 | 0,_,_,_,_=>none
 | m+1,b,d,i,j=>bif decide (b>0) then Qjl R (VM n (bs [84]) c some) fun k=>Qjl R (VM n k b some) fun l=>gb true (WN n h j l c Tu6) ([],0,0,0,0,0) fun a=>gb true (Zj n i a.1 (wJ (a.2.1+2)) a.2.2.1 a.2.2.2.1 a.2.2.2.2.1 Tu2) (0,[]) fun g=>Qjl R (Y6 ((d.length+[[Q4 g.1]].length)*8)) fun s=>G5 c h k0 m (wJ (b-1)) (d++[[Q4 g.1]]) g.2 a.2.2.2.2.2 else k0 b (decide (b>0)) d i j
def UP (h2:Int) (b:LL) (k0:Int->Bool->LL->LL->LL->Int->oP R):Nat->Int->LL->LL->LL->Int->oP R
 | 0,_,_,_,_,_=>none
 | m+1,a,c,e,d,f=>bif decide (a<h2) then Qjl R (VM n (bs [83]) a some) fun g=>Qjl R (Y6 ((c.length+[[D.str g]].length)*16)) fun p=>Qjl R (Q5 n b f 2 Tu2) fun h=>G5 n a b (fun q r i l o=>Qjl R (Y6 ((d.length+[[D.sl 1 i]].length)*24)) fun s=>UP h2 b k0 m (wJ (a+1)) (c++[[D.str g]]) l (d++[[D.sl 1 i]]) o) n (wJ (1+h.1)) [] e h.2 else k0 a (decide (a<h2)) c e d f
def G3 (g:Int) (h:LL) (k0:Int->Bool->LL->LL->Int->oP R):Nat->Int->LL->LL->Int->oP R
 | 0,_,_,_,_=>none
 | m+1,b,c,i,j=>bif decide (b>0) then Qjl R (VM n (bs [76]) g some) fun k=>Qjl R (VM n k b some) fun l=>gb true (WN n h j l (-1:Int) Tu6) ([],0,0,0,0,0) fun a=>gb true (Zj n i a.1 a.2.1 a.2.2.1 a.2.2.2.1 a.2.2.2.2.1 Tu2) (0,[]) fun f=>Qjl R (Y6 ((c.length+[[Q4 f.1]].length)*8)) fun s=>G3 g h k0 m (wJ (b-1)) (c++[[Q4 f.1]]) f.2 a.2.2.2.2.2 else k0 b (decide (b>0)) c i j
def ST (b:LL) (k0:Int->Bool->LL->oP R):Nat->Int->LL->oP R
 | 0,_,_=>none
 | m+1,a,c=>Qjk R (wJ (a+1)) fun p=>Qjj R (decide (p<(b.length:Int))) fun o=>bif o then QjD R b.length a b a.toNat fun f=>QjD R b.length p b (Int.toNat p) fun i=>Qjl R (Yg n c f i (-1:Int) 0 some) fun j=>ST b k0 m p j else k0 a o c
def UD (f:Int) (c g:LL) (k0:Int->Bool->LL->LL->LL->LL->Int->oP R):Nat->Int->LL->LL->LL->LL->Int->oP R
 | 0,_,_,_,_,_,_=>none
 | m+1,a,i,j,k,h,l=>Qjk R (wJ (a+1)) fun e=>Qjj R (decide (e<f)) fun d=>bif d then Qjl R (Q5 n g l 2 Tu2) fun o=>G3 n a g (fun ai aj b r s=>ST n b (fun ak al t=>QjD R b.length 0 b (Int.toNat 0) fun x=>QjN R c.length a c a.toNat fun aa=>Qjl R (Vt n i t x aa false Tu2) fun p=>Qjk R (wJ ((b.length:Int)-1)) fun ar=>QjD R b.length ar b (Int.toNat ar) fun ad=>QjN R c.length e c (Int.toNat e) fun ah=>Qjl R (Vt n p.1 p.2 ad ah true Tu2) fun q=>Qjl R (Y6 ((h.length+[[D.sl 1 b]].length)*24)) fun aq=>UD f c g k0 m e q.1 r q.2 (h++[[D.sl 1 b]]) s) n 0 k) n (wJ (1+o.1)) [] j o.2 else k0 a d i j k h l
def Q2C (b:LL) (d:Int) (K:LL->LL->LL->LL->LL->LL->LL->Int->oP R):oP R:=Qjl R (Q5 n b d 2 Tu2) fun a=>UP n (wJ (2+a.1)) b (fun o p f g c h=>UD n (wJ (2+a.1)) c b (fun q r i j k l m=>K f i j k c l [] m) n 0 [] g [] [] h) n 0 [] [] [] a.2
def PP (n:Nat) (a0:Int) (K:Bool->oP R):oP R:=K (Qjh (Qji (decide (a0>=65)) (decide (a0<=90))) (Qji (decide (a0>=97)) (decide (a0<=122))))
def FH (n:Nat) (a0:Int) (K:Bool->oP R):oP R:=K (Qji (decide (a0>=48)) (decide (a0<=57)))
def SZ (b:List UInt8) (d:Int) (k0:oP R) (k1:Int->Bool->oP R):Nat->Int->oP R
 | 0,_=>none
 | m+1,a=>bif decide (a<d) then Qjl R (J7 b a) fun f=>Qjl R (PP n f some) fun c=>Qjm R (!c) (J7 b a) fun g=>Qjm R (!c) (FH n g some) fun e=>Qjm R (Qji (!c) (!e)) (J7 b a) fun h=>bif Qji (Qji (!c) (!e)) (h !=95) then k0 else SZ b d k0 k1 m (wJ (a+1)) else k1 a (decide (a<d))
def KN (a0:List UInt8) (K:Bool->oP R):oP R:=Qjk R (a0.length:Int) fun f=>Qjj R (Qjh (decide (f<1)) (decide (f>12))) fun e=>Qjm R (!e) (J7 a0 0) fun a=>Qjm R (!e) (PP n a some) fun b=>bif Qjh e (!b) then K false else SZ n a0 f (K false) (fun c d=>K true) n 0
def Xl (n:Nat) (e f g h:LL) (i:List UInt8) (a b c d:Int) (K:Bool->oP R):oP R:=K (Qji (Qji (Qji (Qji (Qji (Qji (Qji (decide (a>=1)) (decide (a<=400))) (decide (b>=1000))) (decide (b<=100000))) (decide (c>=(-40:Int)))) (decide (c<=40))) (decide (d>=(-1:Int)))) (decide (d<(e.length:Int))))
def Yj (n:Nat) (i h b j:LL) (c d e f a g:Int) (K:Bool->oP R):oP R:=K (Qji (Qji (Qji (Qji (Qji (Qji (Qji (Qji (decide (c>=0)) (decide (c<(b.length:Int)))) (decide (e>=0))) (decide (e<(b.length:Int)))) (Qjh (d==0) (d==1))) (Qjh (f==0) (f==1))) (decide (a>=(-1:Int)))) (decide (a<(h.length:Int)))) (Qjh (g==0) (Qji (g==1) (a !=(-1:Int)))))
def LV (n:Nat) (a b c d e f:Int) (K:Int->Int->Int->Int->oP R):oP R:=K a b c d
def HJ (h:LL) (h2 d e f g:Int) (k0:oP R) (k1:Int->Bool->oP R):Nat->Int->oP R
 | 0,_=>none
 | m+1,c=>bif decide (c<h2) then Qjy R h c fun b i j k=>QjU R b fun l o p=>QjW R i j k l fun q r s t=>Qjw R o p fun u v=>gb true (LV n q r s t u v Tu4) (0,0,0,0) fun a=>bif Qjh (Qji (d==a.1&&e==a.2.1) (f==a.2.2.1&&g==a.2.2.2)) (Qji (d==a.2.2.1&&e==a.2.2.2) (f==a.1&&g==a.2.1)) then k0 else HJ h h2 d e f g k0 k1 m (wJ (c+1)) else k1 c (decide (c<h2))
def GT (a0:LL) (a b c d:Int) (K:Bool->oP R):oP R:=HJ n a0 (a0.length:Int) a b c d (K true) (fun e f=>K false) n 0
def G7 (n:Nat) (i j k l a c:Int) (a1:LL) (K:Bool->oP R):oP R:=bif (a1.length:Int)==0 then K true else Qjj R (Qji ((a1.length:Int)==1) (a !=(-1:Int))) fun o=>Qjm R o (Q1 a1 0) fun d=>Qjm R o d[4]? fun e=>Qjm R o (pIw e) fun b=>Qjj R (Qji o (a==b)) fun p=>Qjm R p (Q1 a1 0) fun f=>Qjm R p f[5]? fun g=>Qjm R p (pIw g) fun h=>K (Qji p (c !=h))
def Ny (n:Nat) (d e c f:LL) (a b:Int) (K:Bool->oP R):oP R:=K (Qji (Qji (decide (a>=0)) (decide (a<(c.length:Int)))) (Qjh (b==0) (b==1)))
def Ry (n:Nat) (a b:Int) (K:Int->Int->oP R):oP R:=bif b==0 then K a 1 else K a 0
def L7 (n:Nat) (a b:Int) (K:Int->Int->oP R):oP R:=bif b==0 then K a 1 else K a 0
def G9 (n:Nat) (h:LL) (c d e f g:Int) (k0:Int->oP R) (k1:Int->Bool->oP R):Nat->Int->oP R
 | 0,_=>none
 | m+1,b=>bif decide (b<c) then Qjy R h b fun a o p q=>QjI R a fun r s=>Qjl R a[5]? fun u=>QjW R o p q r fun i j k l=>bif Qjh (Qji (i==d&&j==e) (k==f&&l==g)) (Qji (i==f&&j==g) (k==d&&l==e)) then Qjl R (pIw s) fun t=>k0 t else G9 n h c d e f g k0 k1 m (wJ (b+1)) else k1 b (decide (b<c))
def JT (k l m c:LL) (f g h i:Int) (K:Int->Bool->oP R):oP R:=Qjl R (Ry n f g Tu2) fun a=>Qjl R (L7 n h i Tu2) fun d=>Qjl R (Ry n d.1 d.2 Tu2) fun e=>G9 n c (c.length:Int) a.1 a.2 e.1 e.2 (fun j=>K j true) (fun o p=>K 0 false) n 0
def Qe (n:Nat) (a0:LL) (a1:Int) (K:LL->oP R):oP R:=bif Nat.beq a0.length 1&&decide (0<=a1)&&decide (a1<=100000) then K (List.replicate a1.toNat (a0.headD [])) else none
def UH (n:Nat) (e:List UInt8) (a b c d:Int) (K:Bool->oP R):oP R:=K (Qji (Qji (Qji (Qji (Qji (Qji (Qji (decide (a>=1)) (decide (a<=40))) (decide (b>=1000))) (decide (b<=100000))) (decide (c>=100))) (decide (c<=2000))) (decide (d>=100))) (decide (d<=2000)))
def Uu (n:Nat) (a:LL) (b:Int) (K:LL->oP R):oP R:=Qjl R (slB a.length none (some (wJ ((a.length:Int)-b)))) fun c=>K (cut a c)
def LB (n:Nat) (a0:Int) (K:Bool->oP R):oP R:=K (Qjh (Qji (decide (a0>=97)) (decide (a0<=122))) (Qji (decide (a0>=65)) (decide (a0<=90))))
def Q1d (n:Nat) (a0:Int) (K:Bool->oP R):oP R:=K (Qji (decide (a0>=48)) (decide (a0<=57)))
def NM (b:List UInt8) (k0:oP R) (k1:Int->Bool->oP R):Nat->Int->oP R
 | 0,_=>none
 | m+1,a=>Qjj R (decide (a<(b.length:Int))) fun h=>bif h then Qjl R (J7 b a) fun e=>Qjl R (LB n e some) fun c=>Qjm R (!c) (J7 b a) fun f=>Qjm R (!c) (Q1d n f some) fun d=>Qjm R (Qji (!c) (!d)) (J7 b a) fun g=>bif Qji (Qji (!c) (!d)) (g !=95) then k0 else NM b k0 k1 m (wJ (a+1)) else k1 a h
def M1 (a0:List UInt8) (K:Bool->oP R):oP R:=Qjj R (Qjh (decide ((a0.length:Int)<1)) (decide ((a0.length:Int)>12))) fun e=>Qjm R (!e) (J7 a0 0) fun a=>Qjm R (!e) (LB n a some) fun b=>bif Qjh e (!b) then K false else NM n a0 (K false) (fun c d=>K true) n 1
def Rc (n:Nat) (c:LL) (b:Int) (k0:oP R) (k1:Int->Bool->oP R):Nat->Int->oP R
 | 0,_=>none
 | m+1,a=>bif decide (a<b) then Qk7 R c a fun f=>Qk7 R c b fun i=>bif f==i then k0 else Rc n c b k0 k1 m (wJ (a+1)) else k1 a (decide (a<b))
def Mn (a0:LL) (a1:Int) (K:Int->oP R):oP R:=Qk7 R a0 a1 fun c=>Qjl R (M1 n c some) fun d=>bif !d then K 3 else Rc n a0 a1 (K 5) (fun e f=>K 0) n 0
def YS (n:Nat) (b:LL) (k0:Int->Bool->LL->oP R):Nat->Int->LL->oP R
 | 0,_,_=>none
 | m+1,a,c=>Qjj R (decide (a<(b.length:Int))) fun h=>bif h then Qk7 R b a fun d=>Qjl R (Y6 ((c.length+[[D.str d]].length)*16)) fun g=>YS n b k0 m (wJ (a+1)) (c++[[D.str d]]) else k0 a h c
def KW (c d a e:LL) (K:LL->oP R):oP R:=YS n a (fun f g b=>K b) n 0 []
def Kx (n:Nat) (a0 a1 a2:Int) (K:Bool->oP R):oP R:=K (Qji (decide (a0>=a1)) (decide (a0<=a2)))
def B1 (n:Nat) (c d e f g h a b:Int) (K:Bool->oP R):oP R:=K (Qjh (Qji (c==a) (d==b)) (Qji (e==a) (f==b)))
def Pw (d:Int) (e:LL) (f g:Int) (k0:Int->Int->Bool->D->D->D->D->D->D->oP R):Nat->Int->Int->D->D->D->D->D->D->oP R
 | 0,_,_,_,_,_,_,_,_=>none
 | m+1,h,a,i,j,k,l,o,p=>bif decide (a<d) then Qjy R e a fun b q r s=>QjU R b fun t u v=>QjW R q r s t fun x y z aa=>Qjw R u v fun ab ac=>Qjl R (B1 n x y z aa ab ac f g some) fun ad=>bif ad then Qjy R e a fun c ae ag ah=>QjU R c fun ai aj ak=>Pw d e f g k0 m (wJ (h+1)) (wJ (a+1)) ae ag ah ai aj ak else Pw d e f g k0 m h (wJ (a+1)) i j k l o p else k0 h a (decide (a<d)) i j k l o p
def BD (p q r f:LL) (a1 h i:Int) (K:Bool->oP R):oP R:=Qjl R (Q1 f a1) fun b=>Qjl R b[0]? fun s=>Qjl R b[1]? fun t=>Qk3 R b (Qjl R b[4]? fun g=>Qjl R b[5]? fun j=>Qjk R (Q4 0) fun ah=>Pw n a1 f h i (fun a x y z aa ab ac k l=>Qjj R (a==0) fun ag=>Qjm R (!ag&&a==1) (pIw g) fun c=>Qjj R (Qji (a==1) (decide (c>=0))) fun ad=>QjE R k (!ag&&ad) g fun d e=>Qjj R (Qji ad (d==e)) fun ae=>QjE R l (!ag&&ae) j fun m o=>K (Qjh ag (Qji ae (m !=o)))) n 0 0 ah ah ah ah ah ah)
def KU (e:Int) (f:LL) (g h i j:Int) (k0:oP R) (k1:Int->Bool->oP R):Nat->Int->oP R
 | 0,_=>none
 | m+1,b=>bif decide (b<e) then Qjy R f b fun c k l o=>QjU R c fun p q r=>QjW R k l o p fun s t u v=>Qjw R q r fun x y=>Qjl R (B1 n s t u v x y g h some) fun a=>Qjm R a (Q1 f b) fun d=>Qk6 R d a fun z aa=>Qjm R a d[2]? fun ab=>Qjm R a d[3]? fun ac=>Qjm R a d[4]? fun ad=>Qjm R a d[5]? fun ae=>QjE R z a aa fun ag ah=>QjE R ab a ac fun ai aj=>QjE R ad a ae fun ak al=>Qjm R a (B1 n ag ah ai aj ak al i j some) fun am=>bif Qji a am then k0 else KU e f g h i j k0 k1 m (wJ (b+1)) else k1 b (decide (b<e))
def JS (p i g h:LL) (a1:Int) (K:Int->oP R):oP R:=Qjy R h a1 fun e q r s=>QjU R e fun t u v=>Qjl R (pIw q) fun z=>Qjk R (wJ ((g.length:Int)-1)) fun ap=>Qjl R (Kx n z 0 ap some) fun a=>Qjm R (!(!a)) (pIw s) fun aa=>Qjm R (!(!a)) (Kx n aa 0 ap some) fun b=>Qjj R (Qjh (!a) (!b)) fun al=>Qjm R (!al) (pIw r) fun ab=>Qjm R (!al) (Kx n ab 0 1 some) fun c=>Qjj R (Qjh al (!c)) fun ao=>Qjm R (!ao) (pIw t) fun ac=>Qjm R (!ao) (Kx n ac 0 1 some) fun d=>Qjj R (Qjh ao (!d)) fun ak=>Qjm R (!ak) (pIw u) fun ad=>Qjm R (!ak) (Kx n ad (-1:Int) (wJ ((i.length:Int)-1)) some) fun f=>Qjj R (Qjh ak (!f)) fun am=>Qjm R (!am) (pIw v) fun ae=>Qjm R (!am) (Kx n ae 0 1 some) fun j=>Qjj R (Qjh am (!j)) fun an=>Qjm R (!an) (pIw u) fun x=>Qjm R (!an&&decide (x<0)) (pIw v) fun ag=>bif Qjh an (Qji (decide (x<0)) (ag !=0)) then K 4 else QjW R q r s t fun k l m o=>bif k==m&&l==o then K 1 else KU n a1 h k l m o (K 5) (fun ai aj=>Qjl R (BD n p i g h a1 k l some) fun y=>Qjm R (!(!y)) (BD n p i g h a1 m o some) fun ah=>bif Qjh (!y) (!ah) then K 11 else K 0) n 0
def R8 (h2:LL) (k0:Int->oP R) (k1:Int->Bool->oP R):Nat->Int->oP R
 | 0,_=>none
 | m+1,a=>Qjj R (decide (a<(h2.length:Int))) fun c=>bif c then Qjl R (Mn n h2 a some) fun b=>bif b !=0 then k0 b else R8 h2 k0 k1 m (wJ (a+1)) else k1 a c
def Rg (b:LL) (k0:Int->oP R) (k1:Int->Bool->oP R):Nat->Int->oP R
 | 0,_=>none
 | m+1,a=>Qjj R (decide (a<(b.length:Int))) fun d=>bif d then Qjl R (Mn n b a some) fun c=>bif c !=0 then k0 c else Rg b k0 k1 m (wJ (a+1)) else k1 a d
def Jo (g h e:LL) (k0:Int->oP R) (k1:Int->Bool->oP R):Nat->Int->oP R
 | 0,_=>none
 | m+1,b=>Qjj R (decide (b<(e.length:Int))) fun x=>bif x then Qjl R (Mn n g b some) fun i=>bif i !=0 then k0 i else QjH R e b fun c j=>Qjl R c[2]? fun k=>QjI R c fun l o=>Qjl R (pIw j) fun p=>Qjl R (Kx n p 1 400 some) fun a=>Qjm R (!(!a)) (pIw k) fun q=>Qjm R (!(!a)) (Kx n q 1000 100000 some) fun d=>Qjj R (Qjh (!a) (!d)) fun v=>Qjm R (!v) (pIw l) fun r=>Qjm R (!v) (Kx n r (-40:Int) 40 some) fun f=>Qjj R (Qjh v (!f)) fun y=>Qjm R (!y) (pIw o) fun s=>Qjm R (!y) (Kx n s (-1:Int) (wJ ((h.length:Int)-1)) some) fun t=>bif Qjh y (!t) then k0 4 else Jo g h e k0 k1 m (wJ (b+1)) else k1 b x
def Jf (c d e b:LL) (k0:Int->oP R) (k1:Int->Bool->oP R):Nat->Int->oP R
 | 0,_=>none
 | m+1,a=>Qjj R (decide (a<(b.length:Int))) fun g=>bif g then Qjl R (JS n c d e b a some) fun f=>bif f !=0 then k0 f else Jf c d e b k0 k1 m (wJ (a+1)) else k1 a g
def Gb (a c b d:LL) (K:Int->oP R):oP R:=bif Qjh (Qjh (Qjh (decide ((a.length:Int)>24)) (decide ((c.length:Int)>48))) (decide ((b.length:Int)>96))) (decide ((d.length:Int)>192)) then K 7 else bif (b.length:Int)==0 then K 1 else R8 n a (fun e=>K e) (fun j k=>Rg n c (fun f=>K f) (fun l m=>Qjl R (KW n a c b d some) fun g=>Jo n g a b (fun h=>K h) (fun o p=>Jf n a c b d (fun i=>K i) (fun q r=>K 0) n 0) n 0) n 0) n 0
def HM (n:Nat) (a0 a1 a2:Int) (K:Bool->oP R):oP R:=K (Qji (decide (a0>=a1)) (decide (a0<=a2)))
def Zn (n:Nat) (c:LL) (b d:Int) (k0:Int->Bool->LL->oP R):Nat->Int->LL->oP R
 | 0,_,_=>none
 | m+1,h2,a=>Qjj R (decide (h2<(c.length:Int))) fun am=>bif am then Qjy R c h2 fun e i j k=>QjU R e fun l g h=>Qjk R (wJ (h2+1)) fun an=>jn (fun (f aa:Int)=>(bif decide (f>=0) then bif aa==1 then Qjw R g h fun o p=>Qjk R [[Q4 f,Q4 1,Q4 o,Q4 p]] fun ap=>Qjl R (Y6 ((a.length+ap.length)*32)) fun ai=>Zn n c b d k0 m an (a++ap) else Qjw R g h fun q r=>Qjk R [[Q4 f,Q4 0,Q4 q,Q4 r]] fun aq=>Qjl R (Y6 ((a.length+aq.length)*32)) fun aj=>Zn n c b d k0 m an (a++aq) else Zn n c b d k0 m an a:oP R)) fun s=>Qjl R (pIw i) fun t=>Qjm R (t==b) (pIw j) fun ab=>bif Qji (t==b) (ab==d) then Qjw R k l fun ac ad=>s ac ad else Qjl R (pIw k) fun u=>Qjm R (u==b) (pIw l) fun ae=>bif Qji (u==b) (ae==d) then Qjw R i j fun ag ah=>s ag ah else bif decide ((-1:Int)>=0) then Qjk R (Q4 (-1:Int)) fun ao=>bif 0==1 then Qjw R g h fun v x=>Qjk R [[ao,Q4 1,Q4 v,Q4 x]] fun ar=>Qjl R (Y6 ((a.length+ar.length)*32)) fun ak=>Zn n c b d k0 m an (a++ar) else Qjw R g h fun y z=>Qjk R [[ao,Q4 0,Q4 y,Q4 z]] fun au=>Qjl R (Y6 ((a.length+au.length)*32)) fun al=>Zn n c b d k0 m an (a++au) else Zn n c b d k0 m an a else k0 h2 am a
def BY (f g h a:LL) (b c:Int) (K:LL->oP R):oP R:=bif c==1 then Zn n a b 0 (fun i j d=>K d) n 0 [] else Zn n a b 1 (fun k l e=>K e) n 0 []
def PR (n:Nat) (h2:LL) (c d:Int) (k0:D->D->D->D->oP R) (k1:Int->Bool->oP R):Nat->Int->oP R
 | 0,_=>none
 | m+1,a=>Qjj R (decide (a<(h2.length:Int))) fun p=>bif p then QjJ R h2 a fun f g=>Qjw R f g fun h i=>bif h==c&&i==d then QjP R h2 a fun j k l o=>k0 j k l o else PR n h2 c d k0 k1 m (wJ (a+1)) else k1 a p
def G0 (a b c d:LL) (e f g h:Int) (K:D->D->D->D->Bool->oP R):oP R:=Qjl R (BY n a b c d e f some) fun i=>PR n i g h (fun j k l m=>K j k l m true) (fun o p=>K (Q4 0) (Q4 0) (Q4 0) (Q4 0) false) n 0
def YN (c a:LL) (k0:oP R) (k1:Int->Bool->oP R):Nat->Int->oP R
 | 0,_=>none
 | m+1,h2=>Qjj R (decide (h2<(a.length:Int))) fun k=>bif k then Qjx R a h2 fun f=>Qjl R (HM n f 0 (wJ ((c.length:Int)-1)) some) fun b=>QjX R a h2 (!(!b)) fun i=>Qjm R (!(!b)) (HM n i 0 1 some) fun j=>bif Qjh (!b) (!j) then k0 else YN c a k0 k1 m (wJ (h2+1)) else k1 h2 k
def K4 (n:Nat) (b:Int) (c:LL) (k0:oP R) (k1:Int->Bool->oP R):Nat->Int->oP R
 | 0,_=>none
 | m+1,a=>bif decide (a<b) then Qjx R c a fun f=>Qjx R c b fun i=>bif f==i then k0 else K4 n b c k0 k1 m (wJ (a+1)) else k1 a (decide (a<b))
def J1 (b:LL) (k0:oP R) (k1:Int->Bool->oP R):Nat->Int->oP R
 | 0,_=>none
 | m+1,a=>Qjj R (decide (a<(b.length:Int))) fun e=>bif e then K4 n a b k0 (fun c d=>J1 b k0 k1 m (wJ (a+1))) n 0 else k1 a e
def YI (c d e f b:LL) (k0:oP R) (k1:Int->Bool->oP R):Nat->Int->oP R
 | 0,_=>none
 | m+1,a=>Qjj R (decide (a<(b.length:Int))) fun s=>bif s then QjJ R b (wJ (a-1)) fun i j=>QjJ R b a fun k l=>QjW R i j k l fun o p q r=>Qjl R (G0 n c d e f o p q r Tu5) fun y=>bif !y.2.2.2.2 then k0 else YI c d e f b k0 k1 m (wJ (a+1)) else k1 a s
def J9 (d e b f a:LL) (c:Int) (K:Int->oP R):oP R:=Qjl R (Gb n d e b f some) fun g=>bif g !=0 then K 1 else bif Qjh (decide ((a.length:Int)>24)) (decide (c>2)) then K 7 else bif Qjh (decide (c<0)) (decide (wJ ((a.length:Int)-c)<2)) then K 4 else YN n b a (K 4) (fun h i=>J1 n a (K 5) (fun j k=>YI n d e b f a (K 11) (fun l m=>K 0) n 1) n 0) n 0
def M0 (n:Nat) (a b:Int) (K:Int->Int->oP R):oP R:=bif b==0 then K a 0 else K a 1
def ZG (n:Nat) (d:LL) (b:Int) (k0:Int->Bool->LL->oP R):Nat->Int->LL->oP R
 | 0,_,_=>none
 | m+1,a,c=>bif decide (a<b) then Qjx R d a fun e=>Qjl R (Y6 ((c.length+[[Q4 e,Q4 0]].length)*16)) fun h=>ZG n d b k0 m (wJ (a+1)) (c++[[Q4 e,Q4 0]]) else k0 a (decide (a<b)) c
def ZO (n:Nat) (c:LL) (k0:Int->Bool->LL->oP R):Nat->Int->LL->oP R
 | 0,_,_=>none
 | m+1,a,b=>bif decide (a>=0) then Qjx R c a fun d=>Qjl R (Y6 ((b.length+[[Q4 d,Q4 1]].length)*16)) fun g=>ZO n c k0 m (wJ (a-1)) (b++[[Q4 d,Q4 1]]) else k0 a (decide (a>=0)) b
def YB (a c:LL) (a1 a2 d:Int) (p:Bool) (K:LL->Int->oP R):oP R:=QjN R c.length a1 c a1.toNat fun b=>Qjk R (wJ (a1+1)) fun ax=>Qjk R (Int.toNat ax) fun ay=>bif p then QjN R a.length a1 a a1.toNat fun t=>QjN R a.length a1 a a1.toNat fun e=>Qjl R (nz (e.length:Int)) fun ba=>Qjx R t (Int.tmod a2 (e.length:Int)) fun f=>Qjl R (Y6 ([[Q4 f,Q4 0]].length*16)) fun bb=>ZG n b (b.length:Int) (fun bc bd g=>QjN R a.length ax a ay fun ab=>QjN R a.length ax a ay fun h=>Qjl R (nz (h.length:Int)) fun bh=>Qjx R ab (Int.tmod d (h.length:Int)) fun i=>Qjl R (Y6 ((g.length+[[Q4 i,Q4 0]].length)*16)) fun bi=>K (g++[[Q4 i,Q4 0]]) 0) n 0 [[Q4 f,Q4 0]] else QjN R a.length ax a ay fun aj=>QjN R a.length ax a ay fun j=>Qjl R (nz (j.length:Int)) fun bl=>Qjx R aj (Int.tmod d (j.length:Int)) fun k=>Qjl R (Y6 ([[Q4 k,Q4 1]].length*16)) fun bm=>ZO n b (fun bn bo l=>QjN R a.length a1 a a1.toNat fun aq=>QjN R a.length a1 a a1.toNat fun m=>Qjl R (nz (m.length:Int)) fun br=>Qjx R aq (Int.tmod a2 (m.length:Int)) fun o=>Qjl R (Y6 ((l.length+[[Q4 o,Q4 1]].length)*16)) fun bt=>K (l++[[Q4 o,Q4 1]]) 0) n (wJ ((b.length:Int)-1)) [[Q4 k,Q4 1]]
def Wh (c:LL) (k0:Int->Bool->LL->Int->oP R):Nat->Int->LL->Int->oP R
 | 0,_,_,_=>none
 | m+1,a,b,d=>bif decide (a<3) then Qjl R (Q5 n c d 2 Tu2) fun e=>Qjz R 3 a b a.toNat fun h=>Wh c k0 m (wJ (a+1)) (List.set b a.toNat (List.set h 0 (Q4 e.1))) e.2 else k0 a (decide (a<3)) b d
def QA (k:Bool) (g:Int) (j l o h:LL) (k0:Int->Bool->LL->LL->Int->oP R):Nat->Int->LL->LL->Int->oP R
 | 0,_,_,_,_=>none
 | m+1,a,i,b,t=>bif decide (a<g) then Qjk R (wJ (a+1)) fun ba=>Qjj R (decide (ba<g)) fun c=>bif !k then Qjk R (wJ (wJ (g-1)-a)) fun ax=>QjD R 3 ax j (Int.toNat ax) fun z=>QjD R 3 (wJ (ax+1)) j (Int.toNat (wJ (ax+1))) fun ac=>Qjl R (YB n l o ax z ac k Tu2) fun e=>Qjk R [[D.sl 2 e.1,Q4 e.2]] fun az=>Qjl R (Y6 ((b.length+az.length)*32)) fun am=>Qjl R (Q5 n h t 3 Tu2) fun p=>Qjk R (Q4 (wJ (((List.length (b++az):Nat):Int)-1))) fun aw=>bif c then Qjl R (Q5 n h p.2 6 Tu2) fun r=>Qjl R (Q5 n h r.2 4 Tu2) fun u=>Qjk R [[aw,Q4 p.1,Q4 (wJ (5+r.1)),Q4 (wJ (wJ (5+r.1)+u.1))]] fun bb=>Qjl R (Y6 ((i.length+List.length bb)*32)) fun an=>QA k g j l o h k0 m ba (i++bb) (b++az) u.2 else Qjk R [[aw,Q4 p.1,Q4 0,Q4 0]] fun be=>Qjl R (Y6 ((i.length+List.length be)*32)) fun ao=>QA k g j l o h k0 m ba (i++be) (b++az) p.2 else QjD R 3 a j a.toNat fun ag=>QjD R 3 ba j (Int.toNat ba) fun aj=>Qjl R (YB n l o a ag aj k Tu2) fun f=>Qjk R [[D.sl 2 f.1,Q4 f.2]] fun ay=>Qjl R (Y6 ((b.length+ay.length)*32)) fun ar=>Qjl R (Q5 n h t 3 Tu2) fun q=>Qjk R (Q4 (wJ (((List.length (b++ay):Nat):Int)-1))) fun d=>bif c then Qjl R (Q5 n h q.2 6 Tu2) fun s=>Qjl R (Q5 n h s.2 4 Tu2) fun v=>Qjk R [[d,Q4 q.1,Q4 (wJ (5+s.1)),Q4 (wJ (wJ (5+s.1)+v.1))]] fun bc=>Qjl R (Y6 ((i.length+List.length bc)*32)) fun au=>QA k g j l o h k0 m ba (i++bc) (b++ay) v.2 else Qjk R [[d,Q4 q.1,Q4 0,Q4 0]] fun bh=>Qjl R (Y6 ((i.length+List.length bh)*32)) fun av=>QA k g j l o h k0 m ba (i++bh) (b++ay) q.2 else k0 a (decide (a<g)) i b t
def UZ (f g b:LL) (h:Int) (i c:LL) (j:Bool) (k:Int) (K:Int->LL->LL->oP R):oP R:=Qjl R (VM n (bs [78]) (c.length:Int) some) fun a=>Qjl R (Q5 n b h 4 Tu2) fun d=>Wh n b (fun r s m o=>QA n j k m f g b (fun t u e p q=>Qjk R [[D.str a,Q4 0,Q4 d.1,D.sl 4 e]] fun l=>Qjl R (Y6 ((c.length+l.length)*56)) fun v=>K q p (c++l)) n 0 [] i o) n 0 [[Q4 0],[Q4 0],[Q4 0]] d.2
def M7 (n:Nat) (q:Int) (r c d s t u v:LL) (a1 a2:Int) (K:Int->oP R):oP R:=QjG R d a1 fun g=>Qjx R g a2 fun j=>QjA R c j fun a b=>Qjl R a[1]? fun x=>Qjl R (pSl 2 b) fun k=>Qjl R (pSl 2 b) fun l=>Qjx R k (wJ ((l.length:Int)-1)) fun p=>K p
def Sd (n:Nat) (p:Int) (q a b r s t u:LL) (a1 a2:Int) (K:Int->oP R):oP R:=QjG R b a1 fun e=>Qjx R e a2 fun h=>Qka R a h fun k=>Qjx R k 0 fun o=>K o
def Yt (c p:Int) (q r f s t u h:LL) (v:Int) (k0:Int->Bool->LL->LL->LL->Int->oP R):Nat->Int->LL->LL->LL->Int->oP R
 | 0,_,_,_,_,_=>none
 | m+1,b,i,j,g,y=>bif decide (b<p) then Qjl R (Q5 n h y 3 Tu2) fun a=>Qjj R (decide (a.1>0)) fun ar=>Qjm R ar (inB 4 c) fun al=>Qjm R ar i[c.toNat]? fun z=>Qjm R ar z[0]? fun aa=>Qjm R ar (G6 aa) fun d=>Qjj R (Qji ar (!d)) fun k=>Qjm R k (inB 4 b) fun am=>Qjm R k j[b.toNat]? fun ab=>Qjm R k ab[0]? fun ac=>Qjm R k (G6 ac) fun e=>Qjj R (Qji k (!e)) fun l=>Qjm R l (inB f.length c) fun an=>Qjm R l f[c.toNat]? fun ad=>Qjm R l ad[3]? fun ae=>Qjm R l (pSl 4 ae) fun ag=>Qjm R l (M7 n v q r f s g t u c (wJ ((ag.length:Int)-1)) some) fun ah=>Qjm R l (Sd n v q r f s g t u b 0 some) fun ai=>bif Qji l (ah==ai) then Qjz R 4 c i c.toNat fun aj=>Qjz R 4 b j b.toNat fun ak=>Qjl R (Q5 n h a.2 10 Tu2) fun o=>Qjl R (Q5 n h o.2 30 Tu2) fun x=>Qjk R [[Q4 c,Q4 b,Q4 (wJ (10+o.1)),Q4 (wJ (wJ (10+o.1)+x.1))]] fun au=>Qjl R (Y6 ((g.length+au.length)*32)) fun aq=>Yt c p q r f s t u h v k0 m (wJ (b+1)) (List.set i c.toNat (List.set aj 0 (D.bool true))) (List.set j b.toNat (List.set ak 0 (D.bool true))) (g++au) x.2 else Yt c p q r f s t u h v k0 m (wJ (b+1)) i j g a.2 else k0 b (decide (b<p)) i j g y
def Ue (a:Int) (c d b e f g h:LL) (i:Int) (k0:Int->Bool->LL->LL->LL->Int->oP R):Nat->Int->LL->LL->LL->Int->oP R
 | 0,_,_,_,_,_=>none
 | m+1,h2,j,k,l,o=>bif decide (h2<a) then Yt n h2 (b.length:Int) c d b e f g h i (fun t u p q r s=>Ue a c d b e f g h i k0 m (wJ (h2+1)) p q r s) n 0 j k l o else k0 h2 (decide (h2<a)) j k l o
def RK (b:LL) (c d:Int) (e f a g h i j:LL) (K:Int->LL->oP R):oP R:=Qjk R [D.bool false] fun r=>Ue n (a.length:Int) e f a g i j b d (fun m o p q k l=>K l k) n 0 [r,r,r,r] [r,r,r,r] h c
def AR (n:Nat) (a0:LL) (K:LL->Int->oP R):oP R:=K a0 0
def Gf (c g e:LL) (k0:Int->Bool->Int->LL->LL->oP R):Nat->Int->Int->LL->LL->oP R
 | 0,_,_,_,_=>none
 | m+1,d,h,i,j=>bif decide (d>0) then Qjl R (Q5 n c h 2 Tu2) fun k=>Qjl R (Q5 n c k.2 (e.length:Int) Tu2) fun l=>gb true (UZ n g e c l.2 i j (k.1==0) (wJ (1+l.1)) Tu3) (0,[],[]) fun f=>Gf c g e k0 m (wJ (d-1)) f.1 f.2.1 f.2.2 else k0 d (decide (d>0)) h i j
def Ja (h:Int) (e k l a f o:LL) (k0:Int->Bool->Int->LL->oP R):Nat->Int->Int->LL->oP R
 | 0,_,_,_=>none
 | m+1,i,t,g=>Qjk R (a.length:Int) fun ar=>Qjj R (Qji (decide (i>0)) (decide (ar>1))) fun b=>bif b then Qjl R (Q5 n e t ar Tu2) fun d=>Qjl R (Q5 n e d.2 3 Tu2) fun s=>Qjl R (nz ar) fun ak=>Qjz R a.length d.1 a (Int.toNat d.1) fun x=>Qjl R x[3]? fun y=>Qjl R (pSl 4 y) fun z=>Qjl R (Q5 n e s.2 (z.length:Int) Tu2) fun p=>Qjk R (Int.tmod (wJ (d.1+1)) ar) fun c=>Qjz R a.length c a (Int.toNat c) fun aa=>Qjl R aa[3]? fun ab=>Qjl R (pSl 4 ab) fun ac=>Qjl R (Q5 n e p.2 (ac.length:Int) Tu2) fun q=>Qjl R (Q5 n e q.2 20 Tu2) fun j=>Qjl R (Q5 n e j.2 h Tu2) fun r=>Qjl R (M7 n h k l a g o [] [] d.1 p.1 some) fun u=>Qjz R f.length u f u.toNat fun ad=>QjZ R ad fun ag=>Qjl R (Sd n h k l a g o [] [] c q.1 some) fun v=>Qjz R f.length v f v.toNat fun ah=>QjZ R ah fun aj=>bif ag==aj then Qjk R [[Q4 d.1,Q4 p.1,Q4 c,Q4 q.1,Q4 j.1,Q4 (wJ (j.1+r.1)),Q4 s.1]] fun aq=>Qjl R (Y6 ((g.length+aq.length)*56)) fun ap=>Ja h e k l a f o k0 m (wJ (i-1)) r.2 (g++aq) else Ja h e k l a f o k0 m (wJ (i-1)) r.2 g else k0 i b t g
def Vl (e a:LL) (k0:Int->Bool->Int->LL->oP R):Nat->Int->Int->LL->oP R
 | 0,_,_,_=>none
 | m+1,f,j,g=>bif decide (f>0) then Qjk R (a.length:Int) fun c=>Qjl R (Q5 n e j c Tu2) fun d=>Qjl R (Q5 n e d.2 (wJ (c-1)) Tu2) fun h=>Qjl R (nz c) fun k=>Qjl R (Q5 n e h.2 9 Tu2) fun i=>Qjk R [[Q4 d.1,Q4 (Int.tmod (wJ (wJ (d.1+1)+h.1)) c),Q4 (wJ (1+i.1))]] fun b=>Qjl R (Y6 ((g.length+b.length)*24)) fun l=>Vl e a k0 m (wJ (f-1)) i.2 (g++b) else k0 f (decide (f>0)) j g
def Hj (e a:LL) (k0:Int->Bool->Int->LL->oP R):Nat->Int->Int->LL->oP R
 | 0,_,_,_=>none
 | m+1,f,j,g=>bif decide (f>0) then Qjk R (a.length:Int) fun c=>Qjl R (Q5 n e j c Tu2) fun d=>Qjl R (Q5 n e d.2 (wJ (c-1)) Tu2) fun h=>Qjl R (nz c) fun k=>Qjl R (Q5 n e h.2 9 Tu2) fun i=>Qjk R [[Q4 d.1,Q4 (Int.tmod (wJ (wJ (d.1+1)+h.1)) c),Q4 (wJ (1+i.1))]] fun b=>Qjl R (Y6 ((g.length+b.length)*24)) fun l=>Hj e a k0 m (wJ (f-1)) i.2 (g++b) else k0 f (decide (f>0)) j g
def Sw (a0:LL) (K:LL->LL->LL->LL->Int->LL->LL->LL->LL->LL->LL->LL->oP R):oP R:=Qjl R (AR n a0 Tu2) fun a=>gb true (Q2C n a.1 a.2 Tu8) ([],[],[],[],[],[],[],0) fun c=>Qjl R (Q5 n a.1 c.2.2.2.2.2.2.2 6 Tu2) fun d=>Qjk R [[Q4 150],[Q4 120],[Q4 180],[Q4 240],[Q4 300],[Q4 90]] fun v=>QjD R (List.length v) d.1 v (Int.toNat d.1) fun e=>Qjl R (Q5 n a.1 d.2 2 Tu2) fun f=>Qjl R (Q5 n a.1 f.2 4 Tu2) fun g=>Qjl R (Q5 n a.1 g.2 3 Tu2) fun h=>Qjl R (Q5 n a.1 h.2 3 Tu2) fun i=>Qjl R (Q5 n a.1 i.2 3 Tu2) fun q=>Gf n a.1 c.2.2.2.2.1 c.2.2.2.2.2.1 (fun ae ag z k j=>Qjk R [[D.str (bs [88]),Q4 (wJ (1+f.1)),Q4 (wJ (10000+wJ (5000*g.1))),Q4 (wJ (400+wJ (200*h.1))),Q4 (wJ (400+wJ (200*i.1)))]] fun b=>gb true (RK n a.1 z e b k j [] [] [] [] Tu2) (0,[]) fun l=>Qjl R (Q5 n a.1 l.1 3 Tu2) fun r=>Ja n e a.1 b k j c.2.2.1 l.2 (fun ah ai aa s=>Qjl R (Q5 n a.1 aa 4 Tu2) fun o=>bif Qji (o.1==3) (decide ((j.length:Int)>1)) then Qjl R (Q5 n a.1 o.2 e Tu2) fun p=>Qjk R [[Q4 0,Q4 0,Q4 1,Q4 0,Q4 p.1]] fun x=>Qjl R (Y6 ((List.length ([]:LL)+x.length)*40)) fun aj=>Qjl R (Q5 n a.1 p.2 3 Tu2) fun t=>Vl n a.1 c.1 (fun ak al am ab=>K c.1 c.2.1 c.2.2.1 c.2.2.2.1 e b k j s l.2 ([]++x) ab) n t.1 t.2 [] else Qjl R (Q5 n a.1 o.2 3 Tu2) fun u=>Hj n a.1 c.1 (fun an ao ap ac=>K c.1 c.2.1 c.2.2.1 c.2.2.2.1 e b k j s l.2 [] ac) n u.1 u.2 []) n r.1 r.2 []) n (wJ (1+q.1)) q.2 [] []
def Vp (n:Nat) (a b:List UInt8) (K:Bool->oP R):oP R:=K (a==b)
def QK (c:LL) (h2:Int) (d:List UInt8) (k0:Int->oP R) (k1:Int->Bool->oP R):Nat->Int->oP R
 | 0,_=>none
 | m+1,a=>bif decide (a<h2) then Qjy R c a fun b e f g=>QjI R b fun h i=>Qjl R (Nk e) fun j=>QjL R f g (QjL R h i (Qjl R (Vp n j d some) fun k=>bif k then k0 a else QK c h2 d k0 k1 m (wJ (a+1)))) else k1 a (decide (a<h2))
def XI (a0:LL) (a:List UInt8) (K:Int->oP R):oP R:=QK n a0 (a0.length:Int) a (fun b=>K b) (fun c d=>K (-1:Int)) n 0
def Xx (a0:LL) (a:List UInt8) (K:Bool->oP R):oP R:=Qjl R (XI n a0 a some) fun b=>K (decide (b>=0))
def JX (d:LL) (h2:Int) (c:LL) (k0:Int->oP R) (k1:Int->Bool->oP R):Nat->Int->oP R
 | 0,_=>none
 | m+1,a=>bif decide (a<h2) then Qjy R d a fun b e g h=>QjI R b fun i j=>Qjl R (Nk e) fun k=>Qjl R (KN n k some) fun l=>bif !l then k0 3 else Qjl R (slB c.length none (some a)) fun o=>Qjl R (Nk e) fun f=>QjW R g h i j fun p q r s=>Qjl R (Xx n (cut c o) f some) fun t=>bif t then k0 5 else Qjl R (UH n f p q r s some) fun u=>bif !u then k0 4 else JX d h2 c k0 k1 m (wJ (a+1)) else k1 a (decide (a<h2))
def Ui (c d e f:LL) (g:Int) (a h i j k l m:LL) (K:Int->oP R):oP R:=JX n a (a.length:Int) a (fun b=>K b) (fun o p=>K 0) n 0
def ZW (n:Nat) (a b:List UInt8) (K:Bool->oP R):oP R:=K (a==b)
def Qc (c:LL) (h2:Int) (d:List UInt8) (k0:Int->oP R) (k1:Int->Bool->oP R):Nat->Int->oP R
 | 0,_=>none
 | m+1,a=>bif decide (a<h2) then QjP R c a fun e f g h=>Qjl R (Nk e) fun i=>QjL R f g (Qjl R (pSl 4 h) fun o=>Qjl R (ZW n i d some) fun j=>bif j then k0 a else Qc c h2 d k0 k1 m (wJ (a+1))) else k1 a (decide (a<h2))
def QU (a0:LL) (a:List UInt8) (K:Int->oP R):oP R:=Qc n a0 (a0.length:Int) a (fun b=>K b) (fun c d=>K (-1:Int)) n 0
def Qq (a0:LL) (a:List UInt8) (K:Bool->oP R):oP R:=Qjl R (QU n a0 a some) fun b=>K (decide (b>=0))
def TJ (n:Nat) (a0:Int) (K:Bool->oP R):oP R:=K (Qji (decide (a0>=0)) (decide (a0<=1048576)))
def KF (n:Nat) (a:Int) (b c d e f g h:LL) (a1 a2:Int) (K:Bool->oP R):oP R:=K (Qji (Qji (Qji (decide (0<=a1)) (decide (a1<=a2))) (decide (a2<=7200))) (decide (a2<wJ (a1+a))))
def TC (n:Nat) (i:Int) (j a k l m o p:LL) (b q r s:Int) (K:Int->oP R):oP R:=Qka R a b fun e=>Qjx R e 0 fun h=>K h
def Sn (n:Nat) (l:Int) (m a o p q r s:LL) (b t u v:Int) (K:Int->oP R):oP R:=Qka R a b fun c=>QjF R a b fun h=>Qjx R c (wJ (wJ ((c.length:Int)-h)-1)) fun k=>K k
def Ge (n:Nat) (b:Int) (c d a e f g h:LL) (a1:Int) (K:Bool->oP R):oP R:=K (Qji (decide (a1>=0)) (decide (a1<(a.length:Int))))
def Ur (c:Int) (d e b f g h i:LL) (a1 a2:Int) (K:Bool->oP R):oP R:=Qjl R (Ge n c d e b f g h i a1 some) fun a=>Qjj R (Qji a (decide (a2>=0))) fun o=>Qjm R o (Q1 b a1) fun j=>Qjm R o j[3]? fun k=>Qjm R o (pSl 4 k) fun l=>K (Qji o (decide (a2<(l.length:Int))))
def YU (x:LL) (h2:Int) (s:LL) (e:Int) (f g b h i j k:LL) (k0:Int->oP R) (k1:Int->Bool->oP R):Nat->Int->oP R
 | 0,_=>none
 | m+1,p=>bif decide (p<h2) then Qjy R x p fun d t y u=>QjU R d fun z ab ac=>Qjl R d[6]? fun ad=>Qjw R t y fun ae ag=>Qjl R (Ur n e f g b h i j k ae ag some) fun a=>QjE R u (!(!a)) z fun ah ai=>Qjm R (!(!a)) (Ur n e f g b h i j k ah ai some) fun c=>Qjj R (Qjh (!a) (!c)) fun cb=>QjE R t (!cb) u fun l o=>Qjj R (Qjh cb (l==o)) fun ca=>QjE R ab (!ca) ac fun aj ak=>Qjm R (!ca) (KF n e f g b h i j k aj ak some) fun v=>Qjj R (Qjh ca (!v)) fun cc=>Qjm R (!cc) (pIw ad) fun al=>Qjm R (!cc) (TJ n al some) fun am=>bif Qjh cc (!am) then k0 4 else Qjl R (pIw t) fun an=>QjG R b an fun aq=>Qjl R (pIw y) fun ar=>QjP R aq ar fun au av aw ax=>QjW R au av aw ax fun ay az ba bb=>Qjl R (Sn n e f g b h i j k ay az ba bb some) fun bc=>Qjl R (Q1 s bc) fun bd=>Qjl R bd[4]? fun be=>Qjw R be u fun aa bg=>QjG R b bg fun bj=>Qjl R (pIw z) fun bk=>QjP R bj bk fun bl bm bn bo=>QjW R bl bm bn bo fun bp bq br bt=>Qjl R (TC n e f g b h i j k bp bq br bt some) fun bu=>Qjl R (Q1 s bu) fun bv=>QjZ R bv fun bz=>bif Qjh (aa==(-1:Int)) (aa !=bz) then k0 11 else YU x h2 s e f g b h i j k k0 k1 m (wJ (p+1)) else k1 p (decide (p<h2))
def WF (k l b m:LL) (c:Int) (d e f a g h i:LL) (K:Int->oP R):oP R:=YU n a (a.length:Int) b c d e f a g h i (fun j=>K j) (fun o p=>K 0) n 0
def ZT (n:Nat) (a b c d:Int) (K:Bool->oP R):oP R:=K (Qjh (a==c) (b==d))
def Qd (c:LL) (h2 d e:Int) (k0:Int->oP R) (k1:Int->Bool->oP R):Nat->Int->oP R
 | 0,_=>none
 | m+1,a=>bif decide (a<h2) then QjP R c a fun f g h i=>Qjw R f g fun j k=>QjL R h i (Qjl R (ZT n j k d e some) fun l=>bif l then k0 a else Qd c h2 d e k0 k1 m (wJ (a+1))) else k1 a (decide (a<h2))
def QV (a0:LL) (a b:Int) (K:Int->oP R):oP R:=Qd n a0 (a0.length:Int) a b (fun c=>K c) (fun d e=>K (-1:Int)) n 0
def Qo (a0:LL) (a b:Int) (K:Bool->oP R):oP R:=Qjl R (QV n a0 a b some) fun c=>K (decide (c>=0))
def ZQ (u:LL) (h2 c:Int) (d e a f b g h:LL) (k0:Int->oP R) (k1:Int->Bool->oP R):Nat->Int->oP R
 | 0,_=>none
 | m+1,i=>bif decide (i<h2) then QjP R u i fun v x y z=>Qjl R (pIw v) fun ad=>Qjl R (Ge n c d e a f b g h ad some) fun j=>Qjm R (!(!j)) (pIw x) fun ae=>Qjm R (!(!j)) (Ge n c d e a f b g h ae some) fun l=>Qjj R (Qjh (!j) (!l)) fun bt=>QjE R y (!bt) z fun ag ah=>Qjm R (!bt) (KF n c d e a f b g h ag ah some) fun ai=>bif Qjh bt (!ai) then k0 4 else Qjl R (slB b.length none (some i)) fun aj=>Qjw R v x fun aa ab=>QjL R y z (Qjl R (Qo n (cut b aj) aa ab some) fun ak=>bif ak then k0 5 else QjH R a aa fun o al=>Qk1 R o fun ac=>QjH R a ab fun p am=>Qk1 R p fun an=>Qjl R (pSl 4 ac) fun ao=>Qjl R (pSl 4 ac) fun ap=>QjP R ao (wJ ((ap.length:Int)-1)) fun aq ar au av=>QjW R aq ar au av fun aw ax ay az=>Qjl R (Sn n c d e a f b g h aw ax ay az some) fun s=>Qjl R (pSl 4 an) fun ba=>QjP R ba 0 fun bb bc bd be=>QjW R bb bc bd be fun bg bh bi bj=>Qjl R (TC n c d e a f b g h bg bh bi bj some) fun t=>QjE R al (!(s !=t)) am fun bk bl=>bif Qjh (s !=t) (bk !=bl) then k0 11 else ZQ u h2 c d e a f b g h k0 k1 m (wJ (i+1))) else k1 i (decide (i<h2))
def Vg (j k l m:LL) (b:Int) (c d e f a g h:LL) (K:Int->oP R):oP R:=ZQ n a (a.length:Int) b c d e f a g h (fun i=>K i) (fun o p=>K 0) n 0
def ZC (s:LL) (h2 g:Int) (h i j k l o p:LL) (k0:oP R) (k1:Int->Bool->oP R):Nat->Int->oP R
 | 0,_=>none
 | m+1,c=>bif decide (c<h2) then Qjy R s c fun d t u v=>QjI R d fun x y=>Qjw R t u fun aa ab=>Qjl R (Ur n g h i j k l o p aa ab some) fun a=>QjE R v (!(!a)) x fun ac ad=>Qjm R (!(!a)) (Ur n g h i j k l o p ac ad some) fun b=>Qjj R (Qjh (!a) (!b)) fun ag=>QjE R t (!ag) v fun e f=>QjE R u (!ag&&e==f) x fun q r=>Qjj R (Qjh ag (Qji (e==f) (q==r))) fun ah=>Qjm R (!ah) (pIw y) fun z=>Qjj R (Qjh ah (decide (z<0))) fun ai=>Qjm R (!ai) (pIw y) fun ae=>bif Qjh ai (decide (ae>=g)) then k0 else ZC s h2 g h i j k l o p k0 k1 m (wJ (c+1)) else k1 c (decide (c<h2))
def V7 (i j k l:LL) (b:Int) (c d e f g a h:LL) (K:Int->oP R):oP R:=ZC n a (a.length:Int) b c d e f g a h (K 4) (fun m o=>K 0) n 0
def YT (n:Nat) (l:LL) (h2:Int) (a:LL) (k0:oP R) (k1:Int->Bool->oP R):Nat->Int->oP R
 | 0,_=>none
 | m+1,e=>bif decide (e<h2) then QjK R l e fun h i o=>Qjl R (pIw h) fun b=>Qjm R (!(decide (b<0))) (pIw h) fun c=>Qjj R (Qjh (decide (b<0)) (decide (c>=(a.length:Int)))) fun s=>Qjm R (!s) (pIw i) fun d=>Qjj R (Qjh s (decide (d<0))) fun u=>Qjm R (!u) (pIw i) fun f=>Qjj R (Qjh u (decide (f>=(a.length:Int)))) fun r=>QjE R h (!r) i fun j k=>Qjm R (!(Qjh r (j==k))) (pIw o) fun p=>Qjj R (Qjh (Qjh r (j==k)) (decide (p<1))) fun t=>Qjm R (!t) (pIw o) fun q=>bif Qjh t (decide (q>1048576)) then k0 else YT n l h2 a k0 k1 m (wJ (e+1)) else k1 e (decide (e<h2))
def Ww (b c d e:LL) (f:Int) (g h i j k l a:LL) (K:Int->oP R):oP R:=YT n a (a.length:Int) b (K 4) (fun m o=>K 0) n 0
def Up (n:Nat) (b:Int) (d e:D) (k0:Int->Bool->LL->oP R):Nat->Int->LL->oP R
 | 0,_,_=>none
 | m+1,a,c=>Qjl R (pIw d) fun f=>bif decide (a<f) then Qjl R (pIw e) fun g=>Qjl R (Y6 ((c.length+[[Q4 g,Q4 b]].length)*16)) fun h=>Up n b d e k0 m (wJ (a+1)) (c++[[Q4 g,Q4 b]]) else k0 a (decide (a<f)) c
def Uy (d a:LL) (c:Int) (k0:Int->Bool->LL->oP R):Nat->Int->LL->oP R
 | 0,_,_=>none
 | m+1,h2,e=>Qjj R (decide (h2<wJ ((a.length:Int)-c))) fun aa=>bif aa then Qjx R a h2 fun k=>QjH R d k fun b f=>Qk0 R b fun g l=>Qjl R b[4]? fun u=>Qjl R (pIw l) fun h=>QjF R a h2 fun q=>bif q==1 then Up n (wJ (0-h)) f g (fun v x r=>Uy d a c k0 m (wJ (h2+1)) r) n 0 e else Up n h f g (fun y z s=>Uy d a c k0 m (wJ (h2+1)) s) n 0 e else k0 h2 aa e
def Si (f g a h b:LL) (c:Int) (K:LL->Int->Int->oP R):oP R:=Qjl R (J9 n f g a h b c some) fun d=>bif d !=0 then K [] 0 d else Uy n a b c (fun p q e=>bif decide ((e.length:Int)>4000) then K [] 0 7 else Qjx R b 0 fun k=>QjF R a k fun o=>K e o 0) n 0 []
def Y4 (i:List UInt8) (d e f g:Int) (K:Bool->oP R):oP R:=Qjl R (HM n d 1 40 some) fun a=>Qjm R a (HM n e 1000 100000 some) fun b=>Qjj R (Qji a b) fun j=>Qjm R j (HM n f 100 2000 some) fun c=>Qjm R (Qji j c) (HM n g 100 2000 some) fun h=>K (Qji (Qji j c) h)
def Gm (n:Nat) (e b:LL) (c d:Int) (k0:oP R) (k1:Int->Bool->oP R):Nat->Int->oP R
 | 0,_=>none
 | m+1,a=>Qjj R (decide (a<wJ ((b.length:Int)-c))) fun l=>bif l then Qjx R b a fun h=>QjF R e h fun k=>bif decide (k<(if 2<d then d else 2)) then k0 else Gm n e b c d k0 k1 m (wJ (a+1)) else k1 a l
def SH (g h c i d:LL) (e:Int) (j:List UInt8) (f k l m:Int) (K:Int->oP R):oP R:=Qjl R (Si n g h c i d e Tu3) fun a=>bif a.2.2 !=0 then K a.2.2 else Qjl R (Y4 n j f k l m some) fun b=>bif !b then K 1 else Gm n c d e f (K 12) (fun p q=>K 0) n 0
def Gi (n:Nat) (b:LL) (k0:oP R) (k1:Int->Bool->oP R):Nat->Int->oP R
 | 0,_=>none
 | m+1,a=>Qjj R (decide (a<(b.length:Int))) fun f=>bif f then QjG R b a fun e=>bif decide ((e.length:Int)>12) then k0 else Gi n b k0 k1 m (wJ (a+1)) else k1 a f
def Fb (h:Int) (b c a d e f g:LL) (K:Bool->oP R):oP R:=bif Qjh (Qjh (Qjh (Qjh (Qjh (Qjh (decide ((b.length:Int)>8)) (decide ((c.length:Int)>48))) (decide ((a.length:Int)>16))) (decide ((d.length:Int)>32))) (decide ((e.length:Int)>32))) (decide ((f.length:Int)>32))) (decide ((g.length:Int)>32)) then K true else Gi n a (K true) (fun i j=>K false) n 0
def VT (n:Nat) (a0 a1 a2:Int) (K:Bool->oP R):oP R:=K (Qji (decide (a0>=a1)) (decide (a0<=a2)))
def K7 (n:Nat) (b:Int) (c:LL) (k0:oP R) (k1:Int->Bool->oP R):Nat->Int->oP R
 | 0,_=>none
 | m+1,a=>bif decide (a<b) then Qk7 R c a fun f=>Qk7 R c b fun i=>bif f==i then k0 else K7 n b c k0 k1 m (wJ (a+1)) else k1 a (decide (a<b))
def GG (s:Int) (b t u v x y z:LL) (a1:Int) (K:Int->oP R):oP R:=Qk7 R b a1 fun e=>Qjl R (M1 n e some) fun f=>bif !f then K 3 else K7 n a1 b (K 5) (fun aa ab=>Qjy R b a1 fun a g h i=>QjI R a fun j k=>Qjl R (Nk g) fun l=>QjW R h i j k fun m o p q=>Qjl R (Y4 n l m o p q some) fun r=>bif !r then K 4 else K 0) n 0
def Kv (n:Nat) (a:Int) (b c d e f g h:LL) (a1 a2:Int) (K:Bool->oP R):oP R:=K (Qji (Qji (Qji (decide (a1>=0)) (decide (a1<=a2))) (decide (a2<wJ (a1+a)))) (decide (a2<=7200)))
def Gj (n:Nat) (a:LL) (e:Int) (K:Int->oP R):oP R:=Qjx R a 0 fun d=>K d
def V8 (n:Nat) (a:LL) (b:Int) (K:Int->oP R):oP R:=Qjx R a (wJ (wJ ((a.length:Int)-b)-1)) fun e=>K e
def WI (n:Nat) (b:Int) (c:LL) (d:D) (k0:oP R) (k1:Int->Bool->oP R):Nat->Int->oP R
 | 0,_=>none
 | m+1,a=>bif decide (a<b) then Qk7 R c a fun g=>Qjl R (Nk d) fun h=>bif g==h then k0 else WI n b c d k0 k1 m (wJ (a+1)) else k1 a (decide (a<b))
def Wy (o p q r:LL) (h:Int) (i c s t u v x:LL) (y e:D) (k0:Int->oP R) (k1:Int->Bool->oP R):Nat->Int->oP R
 | 0,_=>none
 | m+1,a=>Qjl R (pSl 4 e) fun z=>Qjj R (decide (a<(z.length:Int))) fun ce=>bif ce then Qjl R (pSl 4 e) fun ai=>QjP R ai a fun j aj aa ab=>Qjl R (pSl 4 e) fun k=>Qjl R (pIw j) fun ak=>Qjl R (VT n ak 0 (wJ ((c.length:Int)-1)) some) fun b=>Qjm R (!(!b)) (pIw aj) fun al=>Qjm R (!(!b)) (VT n al 0 (wJ (h-1)) some) fun d=>Qjj R (Qjh (!b) (!d)) fun cb=>QjE R aa (!cb) ab fun am an=>Qjm R (!cb) (Kv n h i c s t u v x am an some) fun l=>Qjj R (a==wJ ((k.length:Int)-1)) fun cc=>Qjj R (Qjh cb (!l)) fun cf=>Qjm R (!cf&&cc) (pIw aa) fun ac=>Qjm R (!cf&&cc&&!(ac !=0)) (pIw ab) fun ao=>bif Qjh cf (Qji cc (Qjh (ac !=0) (ao !=0))) then k0 4 else Qk8 R j c fun aq ar=>QjB R y i aq ar fun ba bb bc bd be bg bh=>Qjl R (SH n o p q r ba bb bc bd be bg bh some) fun ae=>bif ae !=0 then k0 ae else Qjj R (decide (a>0)) fun ca=>Qjm R ca (pIw j) fun bi=>Qjm R ca (Q1 c bi) fun ag=>Qk6 R ag ca fun bj bk=>Qjm R ca (pSl 2 bj) fun bl=>Qjm R ca (pIw bk) fun bm=>Qjm R ca (Gj n bl bm some) fun bn=>Qjm R ca (pSl 4 e) fun bo=>Qk9 R bo (wJ (a-1)) ca fun br=>Qjm R ca (Q1 c br) fun ah=>Qk6 R ah ca fun bt bu=>Qjm R ca (pSl 2 bt) fun bv=>Qjm R ca (pIw bu) fun bx=>Qjm R ca (V8 n bv bx some) fun bz=>bif Qji ca (bn !=bz) then k0 11 else Wy o p q r h i c s t u v x y e k0 k1 m (wJ (a+1)) else k1 a ce
def KY (h i j k:LL) (l:Int) (d m b o p q r:LL) (a2:Int) (K:Int->oP R):oP R:=QjP R b a2 fun e f s g=>Qjl R (Nk e) fun t=>Qjl R (M1 n t some) fun u=>bif !u then K 3 else WI n a2 b e (K 5) (fun ab ac=>Qjl R (pIw f) fun v=>Qjl R (VT n v 0 (wJ ((d.length:Int)-1)) some) fun c=>Qjm R (!(!c)) (pIw s) fun x=>Qjm R (!(!c)) (VT n x 0 1048576 some) fun y=>bif Qjh (!c) (!y) then K 4 else Qjl R (pSl 4 g) fun z=>bif (z.length:Int)==0 then K 1 else Wy n h i j k l d m b o p q r f g (fun aa=>K aa) (fun ad ae=>K 0) n 0) n 0
def JJ (g:Int) (h i b j k l m:LL) (a1 a2:Int) (K:Bool->oP R):oP R:=Qjl R (VT n a1 0 (wJ ((b.length:Int)-1)) some) fun a=>Qjm R a (Q1 b a1) fun c=>Qjm R a c[3]? fun d=>Qjm R a (pSl 4 d) fun e=>Qjm R a (VT n a2 0 (wJ ((e.length:Int)-1)) some) fun f=>K (Qji a f)
def XJ (n:Nat) (l:Int) (m b c o p q r:LL) (a1 a2:Int) (K:D->D->oP R):oP R:=QjG R c a1 fun f=>Qjx R f a2 fun i=>QjJ R b i fun j k=>K j k
def HR (am an o ao:LL) (b:Int) (c d e f g h i:LL) (j p k q v x y:Int) (K:Int->oP R):oP R:=Qjl R (JJ n b c d e f g h i j p some) fun a=>Qjm R (!(!a)) (JJ n b c d e f g h i k q some) fun l=>Qjj R (Qjh (Qjh (!a) (!l)) (j==k)) fun aa=>Qjm R (!aa) (Kv n b c d e f g h i v x some) fun r=>Qjm R (!(Qjh aa (!r))) (VT n y 0 1048576 some) fun z=>bif Qjh (Qjh aa (!r)) (!z) then K 4 else Qjl R (XJ n b c d e f g h i j p Tu2) fun s=>QjM R s.1 s.2 fun l6 i7=>Qjl R (V8 n l6 i7 some) fun r8=>Qjl R (Q1 o r8) fun r9=>QjZ R r9 fun t=>Qjl R (XJ n b c d e f g h i k q Tu2) fun u=>QjM R u.1 u.2 fun ag ah=>Qjl R (Gj n ag ah some) fun ai=>Qjl R (Q1 o ai) fun aj=>QjZ R aj fun al=>bif Qjh (decide (t<0)) (t !=al) then K 11 else K 0
def WJ (n:Nat) (d:Int) (e:LL) (f g:D) (k0:oP R) (k1:Int->Bool->oP R):Nat->Int->oP R
 | 0,_=>none
 | m+1,a=>bif decide (a<d) then QjC R e a fun i=>Qjw R i f fun b c=>Qjj R (b==c) fun p=>Qjm R (!p) (Q1 e a) fun j=>Qjm R (!p) j[1]? fun k=>QjE R k (!p) g fun l o=>bif Qjh p (l==o) then k0 else WJ n d e f g k0 k1 m (wJ (a+1)) else k1 a (decide (a<d))
def H6 (j:Int) (k l b m d o p:LL) (a1:Int) (K:Int->oP R):oP R:=QjP R d a1 fun e f v x=>Qjl R (pIw e) fun y=>Qjk R (wJ ((b.length:Int)-1)) fun ba=>Qjl R (VT n y 0 ba some) fun c=>Qjm R (!(!c)) (pIw f) fun z=>Qjm R (!(!c)) (VT n z 0 ba some) fun g=>Qjj R (Qjh (!c) (!g)) fun q=>QjE R v (!q) x fun aa ab=>Qjm R (!q) (Kv n j k l b m d o p aa ab some) fun ac=>bif Qjh q (!ac) then K 4 else WJ n a1 d e f (K 5) (fun ar au=>Qjl R (pIw e) fun ad=>QjH R b ad fun h ae=>Qk1 R h fun ag=>Qjl R (pIw f) fun ah=>QjH R b ah fun i ai=>Qk3 R i (Qjl R (pIw e) fun aj=>Qjl R (pSl 4 ag) fun ak=>Qjl R (XJ n j k l b m d o p aj (wJ ((ak.length:Int)-1)) Tu2) fun t=>QjM R t.1 t.2 fun al am=>Qjl R (V8 n al am some) fun r=>Qjl R (pIw f) fun i64=>Qjl R (XJ n j k l b m d o p i64 0 Tu2) fun u=>QjM R u.1 u.2 fun an ao=>Qjl R (Gj n an ao some) fun s=>QjE R ae (!(r !=s)) ai fun ap aq=>bif Qjh (r !=s) (ap !=aq) then K 11 else K 0)) n 0
def WE (c:Int) (b d e f g h i:LL) (k0:Int->oP R) (k1:Int->Bool->oP R):Nat->Int->oP R
 | 0,_=>none
 | m+1,a=>Qjj R (decide (a<(b.length:Int))) fun k=>bif k then Qjl R (GG n c b d e f g h i a some) fun j=>bif j !=0 then k0 j else WE c b d e f g h i k0 k1 m (wJ (a+1)) else k1 a k
def Wx (c d e f b:LL) (k0:Int->oP R) (k1:Int->Bool->oP R):Nat->Int->oP R
 | 0,_=>none
 | m+1,a=>Qjj R (decide (a<(b.length:Int))) fun o=>bif o then QjJ R b a fun i j=>QjM R i j fun k l=>Qjl R (J9 n c d e f k l some) fun h=>bif h !=0 then k0 h else Wx c d e f b k0 k1 m (wJ (a+1)) else k1 a o
def WB (c d e f:LL) (g:Int) (h i b j k l o:LL) (k0:Int->oP R) (k1:Int->Bool->oP R):Nat->Int->oP R
 | 0,_=>none
 | m+1,a=>Qjj R (decide (a<(b.length:Int))) fun q=>bif q then Qjl R (KY n c d e f g h i b j k l o a some) fun p=>bif p !=0 then k0 p else WB c d e f g h i b j k l o k0 k1 m (wJ (a+1)) else k1 a q
def Zh (d e f g:LL) (h:Int) (i j k b l o p:LL) (k0:Int->oP R) (k1:Int->Bool->oP R):Nat->Int->oP R
 | 0,_=>none
 | m+1,c=>Qjj R (decide (c<(b.length:Int))) fun ah=>bif ah then Qjy R b c fun a r s t=>QjU R a fun u v x=>Qjl R a[6]? fun y=>QjW R r s t u fun z aa ab ac=>QjY R v x y fun ad ae ag=>Qjl R (HR n d e f g h i j k b l o p z aa ab ac ad ae ag some) fun q=>bif q !=0 then k0 q else Zh d e f g h i j k b l o p k0 k1 m (wJ (c+1)) else k1 c ah
def Zb (c:Int) (d e f g b h i:LL) (k0:Int->oP R) (k1:Int->Bool->oP R):Nat->Int->oP R
 | 0,_=>none
 | m+1,a=>Qjj R (decide (a<(b.length:Int))) fun k=>bif k then Qjl R (H6 n c d e f g b h i a some) fun j=>bif j !=0 then k0 j else Zb c d e f g b h i k0 k1 m (wJ (a+1)) else k1 a k
def Z7 (h:Int) (i j k l o c p:LL) (k0:oP R) (k1:Int->Bool->oP R):Nat->Int->oP R
 | 0,_=>none
 | m+1,d=>Qjj R (decide (d<(c.length:Int))) fun ah=>bif ah then Qjy R c d fun e s t u=>QjI R e fun v x=>Qjw R s t fun y z=>Qjl R (JJ n h i j k l o c p y z some) fun a=>QjE R u (!(!a)) v fun aa ab=>Qjm R (!(!a)) (JJ n h i j k l o c p aa ab some) fun b=>Qjj R (Qjh (!a) (!b)) fun ae=>QjE R s (!ae) u fun f g=>QjE R t (!ae&&f==g) v fun q r=>Qjj R (Qjh ae (Qji (f==g) (q==r))) fun ag=>Qjm R (!ag) (pIw x) fun ac=>Qjm R (!ag) (VT n ac 0 (wJ (h-1)) some) fun ad=>bif Qjh ag (!ad) then k0 else Z7 h i j k l o c p k0 k1 m (wJ (d+1)) else k1 d ah
def Zd (e d:LL) (k0:oP R) (k1:Int->Bool->oP R):Nat->Int->oP R
 | 0,_=>none
 | m+1,b=>Qjj R (decide (b<(d.length:Int))) fun s=>bif s then QjK R d b fun i j k=>Qjl R (pIw i) fun l=>Qjk R (wJ ((e.length:Int)-1)) fun u=>Qjl R (VT n l 0 u some) fun a=>Qjm R (!(!a)) (pIw j) fun o=>Qjm R (!(!a)) (VT n o 0 u some) fun c=>Qjj R (Qjh (!a) (!c)) fun r=>QjE R i (!r) j fun g h=>Qjj R (Qjh r (g==h)) fun t=>Qjm R (!t) (pIw k) fun p=>Qjm R (!t) (VT n p 1 1048576 some) fun q=>bif Qjh t (!q) then k0 else Zd e d k0 k1 m (wJ (b+1)) else k1 b s
def UC (i j k l:LL) (a:Int) (d b e f g h c:LL) (K:Int->oP R):oP R:=Qjl R (Gb n i j k l some) fun m=>bif m !=0 then K 1 else Qjl R (Fb n a d b e f g h c some) fun o=>bif o then K 7 else Qjl R (VT n a 2 7200 some) fun p=>bif !p then K 4 else WE n a d b e f g h c (fun q=>K q) (fun v x=>Wx n i j k l b (fun r=>K r) (fun y z=>WB n i j k l a d b e f g h c (fun s=>K s) (fun aa ab=>Zh n i j k l a d b e f g h c (fun t=>K t) (fun ac ad=>Zb n a d b e f g h c (fun u=>K u) (fun ae ag=>Z7 n a d b e f g h c (K 4) (fun ah ai=>Zd n i c (K 4) (fun aj ak=>K 0) n 0) n 0) n 0) n 0) n 0) n 0) n 0
def Vz (n:Nat) (b:Int) (k0:Int->Int->Bool->oP R):Nat->Int->Int->oP R
 | 0,_,_=>none
 | m+1,h2,a=>bif decide (a>0) then Qjk R (wJ (h2+a)) fun f=>Qjl R (nz f) fun c=>bif decide (f<=wJ (Int.tdiv b f)) then Qjl R (A8 1) fun d=>Vz n b k0 m f (shR .i64 a 1) else Qjl R (A8 1) fun e=>Vz n b k0 m h2 (shR .i64 a 1) else k0 h2 a (decide (a>0))
def Sm (a0:Int) (K:Int->oP R):oP R:=Vz n a0 (fun a b c=>K a) n 0 2147483648
def J5 (n:Nat) (b:Int) (k0:Int->Int->Bool->oP R):Nat->Int->Int->oP R
 | 0,_,_=>none
 | m+1,h2,a=>bif decide (h2<a) then Qjl R (nz 2) fun c=>Qjk R (wJ (Int.tdiv (wJ (wJ (h2+a)+1)) 2)) fun d=>bif decide (wJ (d*d)<=b) then J5 n b k0 m d a else J5 n b k0 m h2 (wJ (d-1)) else k0 h2 a (decide (h2<a))
def Mh (a0:Int) (K:Int->oP R):oP R:=bif decide (a0<=0) then K 0 else J5 n a0 (fun a b c=>K a) n 0 3037000499
def YR (n:Nat) (e:LL) (c:Int) (k0:oP R) (k1:Int->Bool->oP R):Nat->Int->oP R
 | 0,_=>none
 | m+1,a=>bif decide (a<c) then QjJ R e a fun g h=>Qjl R (pIw g) fun b=>Qjj R (decide (b<1000)) fun o=>Qjm R (!o) (pIw g) fun d=>Qjj R (Qjh o (decide (d>100000))) fun k=>Qjm R (!k) (pIw h) fun i=>Qjj R (Qjh k (decide (i<(-40:Int)))) fun l=>Qjm R (!l) (pIw h) fun j=>bif Qjh l (decide (j>40)) then k0 else YR n e c k0 k1 m (wJ (a+1)) else k1 a (decide (a<c))
def Jp (a0:LL) (a1:Int) (a:List UInt8) (b c d e:Int) (K:Int->oP R):oP R:=Qjl R (UH n a b c d e some) fun f=>bif !f then K 1 else Qjk R (a0.length:Int) fun i=>bif decide (i>4000) then K 7 else YR n a0 i (K 4) (fun g h=>bif Qjh (decide (a1<0)) (decide (a1>wJ (i-2))) then K 4 else K 0) n 0
def WH (n:Nat) (c:LL) (b:Int) (k0:Int->Int->Bool->oP R):Nat->Int->Int->oP R
 | 0,_,_=>none
 | m+1,h2,a=>bif decide (a<b) then QjA R c a fun d f=>Qjl R d[1]? fun g=>Qjl R (pIw f) fun e=>WH n c b k0 m (if e<h2 then e else h2) (wJ (a+1)) else k0 h2 a (decide (a<b))
def JR (a0:LL) (a1:Int) (e:List UInt8) (a c f g:Int) (K:Int->oP R):oP R:=Qjl R (slB a0.length (some (if 0<wJ (a1-a) then wJ (a1-a) else 0)) (some (wJ (a1+1)))) fun b=>WH n (cut a0 b) ((List.length (cut a0 b):Nat):Int) (fun d h i=>K d) n c 0
def To (n:Nat) (c a:Int) (d:List UInt8) (e f b g:Int) (K:Int->oP R):oP R:=bif decide (a>0) then K (wJ (20000*(if 50<wJ (b-wJ (10*a)) then wJ (b-wJ (10*a)) else 50))) else K (wJ (20000*b))
def T6 (n:Nat) (c a:Int) (d:List UInt8) (e f g b:Int) (K:Int->oP R):oP R:=bif decide (a<0) then K (wJ (20000*(if 50<wJ (b+wJ (10*a)) then wJ (b+wJ (10*a)) else 50))) else K (wJ (20000*b))
def Yv (f:LL) (d g:Int) (h:List UInt8) (i j k l:Int) (k0:Int->Int->Bool->LL->oP R):Nat->Int->Int->LL->oP R
 | 0,_,_,_=>none
 | m+1,b,a,e=>bif decide (a<g) then Qjl R (JR n f a h i j k l some) fun c=>QjD R e.length (wJ (wJ (a-1)-d)) e (Int.toNat (wJ (wJ (a-1)-d))) fun o=>QjJ R f (wJ (a-1)) fun t u=>Qjw R t u fun v x=>Qjl R (To n v x h i j k l some) fun q=>Qjl R (inB e.length (wJ (a-d))) fun aa=>Qjk R (Int.toNat (wJ (a-d))) fun ac=>Qjl R e[ac]? fun y=>Qjk R (wJ ((if c<b then c else b)*(if c<b then c else b))) fun ab=>Yv f d g h i j k l k0 m c (wJ (a+1)) (List.set e ac (List.set y 0 (Q4 (if wJ (o+q)<ab then wJ (o+q) else ab)))) else k0 b a (decide (a<g)) e
def Za (d:LL) (b:Int) (e:List UInt8) (f g h i:Int) (k0:Int->Bool->LL->oP R):Nat->Int->LL->oP R
 | 0,_,_=>none
 | m+1,a,c=>bif decide (a>b) then Qjl R (inB c.length (wJ (a-b))) fun z=>Qjk R (Int.toNat (wJ (a-b))) fun ac=>Qjl R c[ac]? fun p=>Qjl R p[0]? fun q=>Qjl R (pIw q) fun j=>QjD R c.length (wJ (wJ (a+1)-b)) c (Int.toNat (wJ (wJ (a+1)-b))) fun k=>QjJ R d a fun t u=>Qjw R t u fun v x=>Qjl R (T6 n v x e f g h i some) fun o=>Qjz R c.length (wJ (a-b)) c ac fun y=>Za d b e f g h i k0 m (wJ (a-1)) (List.set c ac (List.set y 0 (Q4 (if wJ (k+o)<j then wJ (k+o) else j)))) else k0 a (decide (a>b)) c
def JW (a0:LL) (a1:Int) (a:List UInt8) (b c d e:Int) (K:LL->oP R):oP R:=Qjk R (a0.length:Int) fun q=>Qjk R (wJ (wJ (q-a1)+1)) fun p=>gb true (bif decide (0<=p)&&decide (p<=p) then some () else none) () fun i=>Qjl R (Y6 (Int.toNat p*8)) fun u2=>Qjl R (JR n a0 a1 a b c d e some) fun f=>Yv n a0 a1 q a b c d e (fun j k l g=>Za n a0 a1 a b c d e (fun m o h=>K h) n (wJ (q-1)) g) n f (wJ (a1+1)) (List.replicate (Int.toNat p) [Q4 0])
def ZM (c:Int) (k0:Int->Bool->LL->oP R):Nat->Int->LL->oP R
 | 0,_,_=>none
 | m+1,a,b=>bif decide (a<c) then QjD R b.length a b a.toNat fun f=>Qjl R (Sm n f some) fun g=>Qjz R b.length a b a.toNat fun h=>ZM c k0 m (wJ (a+1)) (List.set b a.toNat (List.set h 0 (Q4 g))) else k0 a (decide (a<c)) b
def Gz (a0:LL) (a1:Int) (a:List UInt8) (b c d e:Int) (K:LL->Int->oP R):oP R:=Qjl R (Jp n a0 a1 a b c d e some) fun f=>bif f !=0 then K [] f else Qjl R (JW n a0 a1 a b c d e some) fun g=>ZM n (g.length:Int) (fun i j h=>K h 0) n 0 g
def K6 (n:Nat) (a0 a1:Int) (K:Int->Int->oP R):oP R:=bif decide (a1<1) then K 0 1 else Qk5 R a1 (Qjk R (wJ (Int.tdiv a0 a1)) fun b=>bif decide (Int.tmod a0 a1>0) then K (wJ (b+1)) 0 else K b 0)
def WK (c:LL) (k0:Int->Bool->LL->oP R):Nat->Int->LL->oP R
 | 0,_,_=>none
 | m+1,a,b=>Qjj R (decide (a<(c.length:Int))) fun j=>bif j then Qjk R (wJ (a-1)) fun k=>Qjx R c k fun f=>Qjx R c a fun i=>Qjl R (K6 n 20000000 (wJ (f+i)) Tu2) fun l=>QjD R b.length k b (Int.toNat k) fun q=>Qjz R b.length a b a.toNat fun r=>WK c k0 m (wJ (a+1)) (List.set b a.toNat (List.set r 0 (Q4 (wJ (q+l.1))))) else k0 a j b
def JE (a0:LL) (a1:Int) (b:List UInt8) (c d e f:Int) (K:LL->Int->oP R):oP R:=Qjl R (Gz n a0 a1 b c d e f Tu2) fun a=>bif a.2 !=0 then K [] a.2 else Qjk R (a.1.length:Int) fun g=>gb true (bif decide (0<=g)&&decide (g<=g) then some () else none) () fun u2=>Qjl R (Y6 (Int.toNat g*8)) fun u3=>WK n a.1 (fun i j h=>K h 0) n 1 (List.replicate (Int.toNat g) [Q4 0])
def Kw (h2:LL) (k0:oP R) (k1:Int->Bool->oP R):Nat->Int->oP R
 | 0,_=>none
 | m+1,a=>Qjj R (decide (a<(h2.length:Int))) fun j=>bif j then Qjx R h2 a fun e=>Qjl R (HM n e 1000 100000 some) fun b=>QjX R h2 a (!(!b)) fun h=>Qjm R (!(!b)) (HM n h (-40:Int) 40 some) fun i=>bif Qjh (!b) (!i) then k0 else Kw h2 k0 k1 m (wJ (a+1)) else k1 a j
def B0 (a0:LL) (a1:Int) (a:List UInt8) (b c d e:Int) (K:Int->oP R):oP R:=Qjl R (Y4 n a b c d e some) fun f=>bif !f then K 1 else bif decide ((a0.length:Int)>4000) then K 7 else Kw n a0 (K 4) (fun g h=>bif Qjh (decide (a1<0)) (decide (a1>wJ ((a0.length:Int)-2))) then K 4 else K 0) n 0
def Je (n:Nat) (c:LL) (h2:Int) (k0:Int->Int->Bool->oP R):Nat->Int->Int->oP R
 | 0,_,_=>none
 | m+1,b,a=>bif decide (a<=h2) then Qjx R c a fun d=>Je n c h2 k0 m (if d<b then d else b) (wJ (a+1)) else k0 b a (decide (a<=h2))
def S6 (a0:LL) (a1:Int) (d:List UInt8) (a b e f:Int) (K:Int->oP R):oP R:=Je n a0 a1 (fun c g h=>K c) n b (if 0<wJ (a1-a) then wJ (a1-a) else 0)
def MJ (n:Nat) (c a:Int) (d:List UInt8) (e f b g:Int) (K:Int->oP R):oP R:=bif decide (a>0) then K (if 50<wJ (b-wJ (10*a)) then wJ (b-wJ (10*a)) else 50) else K b
def MF (n:Nat) (c a:Int) (d:List UInt8) (e f g b:Int) (K:Int->oP R):oP R:=bif decide (a<0) then K (if 50<wJ (b+wJ (10*a)) then wJ (b+wJ (10*a)) else 50) else K b
def UO (e:LL) (f g:Int) (h:List UInt8) (i j k l:Int) (k0:Int->Bool->LL->oP R):Nat->Int->LL->oP R
 | 0,_,_=>none
 | m+1,a,b=>bif decide (a<g) then Qjl R (S6 n e (wJ (wJ (f+a)-1)) h i j k l some) fun c=>Qjl R (S6 n e (wJ (f+a)) h i j k l some) fun d=>Qjz R b.length a b a.toNat fun o=>UO e f g h i j k l k0 m (wJ (a+1)) (List.set b a.toNat (List.set o 0 (Q4 (wJ ((if d<c then d else c)*(if d<c then d else c)))))) else k0 a (decide (a<g)) b
def UU (d:LL) (e c:Int) (f:List UInt8) (g h i j:Int) (k0:Int->Bool->LL->oP R):Nat->Int->LL->oP R
 | 0,_,_=>none
 | m+1,a,b=>bif decide (a<c) then Qjk R (wJ (a+1)) fun ac=>Qjl R (inB b.length ac) fun z=>Qjk R (Int.toNat ac) fun ad=>Qjl R b[ad]? fun q=>Qjl R q[0]? fun r=>Qjl R (pIw r) fun k=>QjD R b.length a b a.toNat fun l=>QjJ R d (wJ (e+a)) fun u v=>Qjw R u v fun x i64=>Qjl R (MJ n x i64 f g h i j some) fun p=>Qjz R b.length ac b ad fun y=>UU d e c f g h i j k0 m ac (List.set b ad (List.set y 0 (Q4 (if wJ (l+wJ (20000*p))<k then wJ (l+wJ (20000*p)) else k)))) else k0 a (decide (a<c)) b
def UX (c:LL) (d:Int) (e:List UInt8) (f g h i:Int) (k0:Int->Bool->LL->oP R):Nat->Int->LL->oP R
 | 0,_,_=>none
 | m+1,a,b=>bif decide (a>0) then Qjk R (wJ (a-1)) fun ac=>Qjl R (inB b.length ac) fun z=>Qjk R (Int.toNat ac) fun ad=>Qjl R b[ad]? fun p=>Qjl R p[0]? fun q=>Qjl R (pIw q) fun j=>QjD R b.length a b a.toNat fun k=>QjJ R c (wJ (wJ (d+a)-1)) fun t u=>Qjw R t u fun v x=>Qjl R (MF n v x e f g h i some) fun o=>Qjz R b.length ac b ad fun y=>UX c d e f g h i k0 m ac (List.set b ad (List.set y 0 (Q4 (if wJ (k+wJ (20000*o))<j then wJ (k+wJ (20000*o)) else j)))) else k0 a (decide (a>0)) b
def VL (c:Int) (k0:Int->Bool->LL->oP R):Nat->Int->LL->oP R
 | 0,_,_=>none
 | m+1,a,b=>bif decide (a<=c) then QjD R b.length a b a.toNat fun f=>Qjl R (Mh n f some) fun g=>Qjz R b.length a b a.toNat fun h=>VL c k0 m (wJ (a+1)) (List.set b a.toNat (List.set h 0 (Q4 g))) else k0 a (decide (a<=c)) b
def Rn (a0:LL) (a1:Int) (a:List UInt8) (b c d e:Int) (K:LL->Int->oP R):oP R:=Qjl R (B0 n a0 a1 a b c d e some) fun f=>bif f !=0 then K [] f else Qjk R (wJ ((a0.length:Int)-a1)) fun t=>Qjk R (wJ (t+1)) fun u=>gb true (bif decide (0<=u)&&decide (u<=u) then some () else none) () fun u2=>Qjl R (Y6 (Int.toNat u*8)) fun u3=>UO n a0 a1 t a b c d e (fun k l g=>UU n a0 a1 t a b c d e (fun m o h=>UX n a0 a1 a b c d e (fun p q i=>VL n t (fun r s j=>K j 0) n 0 i) n t h) n 0 g) n 1 (List.replicate (Int.toNat u) [Q4 0])
def JC (n:Nat) (a0 a1:Int) (K:Int->oP R):oP R:=Qk5 R a1 (Qjk R (wJ (Int.tdiv a0 a1)) fun b=>bif decide (Int.tmod a0 a1>0) then K (wJ (b+1)) else K b)
def Jk (c:LL) (k0:Int->Bool->LL->oP R):Nat->Int->LL->oP R
 | 0,_,_=>none
 | m+1,a,b=>Qjj R (decide (a<(c.length:Int))) fun s=>bif s then Qjk R (wJ (a-1)) fun t=>QjD R b.length t b (Int.toNat t) fun f=>Qjx R c t fun i=>Qjx R c a fun l=>Qjl R (JC n 20000000 (wJ (i+l)) some) fun o=>Qjz R b.length a b a.toNat fun p=>Jk c k0 m (wJ (a+1)) (List.set b a.toNat (List.set p 0 (Q4 (wJ (f+o))))) else k0 a s b
def PY (a0:LL) (a1:Int) (b:List UInt8) (c d e f:Int) (K:LL->Int->oP R):oP R:=Qjl R (Rn n a0 a1 b c d e f Tu2) fun a=>bif a.2 !=0 then K [] a.2 else Qjk R (a.1.length:Int) fun g=>gb true (bif decide (0<=g)&&decide (g<=g) then some () else none) () fun u2=>Qjl R (Y6 (Int.toNat g*8)) fun u3=>Jk n a.1 (fun i j h=>K h 0) n 1 (List.replicate (Int.toNat g) [Q4 0])
def JZ (a0:Int) (K:Int->oP R):oP R:=Qjl R (K6 n a0 1000 Tu2) fun a=>K a.1
def PE (n:Nat) (a0 a1:Int) (K:Int->Int->oP R):oP R:=bif decide (a1<1) then K 0 1 else Qk5 R a1 (Qjk R (wJ (Int.tdiv a0 a1)) fun b=>bif decide (Int.tmod a0 a1<0) then K (wJ (b-1)) 0 else K b 0)
def Vw (a0:Int) (K:Int->oP R):oP R:=Qjl R (PE n a0 1000 Tu2) fun a=>K a.1
def Jj (n:Nat) (c a b d:LL) (K:LL->oP R):oP R:=Qjk R (wJ ((b.length:Int)+(a.length:Int))) fun f=>gb true (bif decide (0<=f)&&decide (f<=f) then some () else none) () fun e=>Qjl R (Y6 (Int.toNat f*24)) fun u2=>K (List.replicate (Int.toNat f) [Q4 0,Q4 0,Q4 0])
def Xp (n:Nat) (a:LL) (a1 a2 b:Int) (K:LL->oP R):oP R:=QjS R a.length a1 a a1.toNat fun g=>Qjl R a[a1.toNat]? fun h=>QjV R h fun j=>bif decide (g<j) then Qjl R a[a1.toNat]? fun k=>Qjl R k[1]? fun l=>Qjl R (pIw l) fun c=>Qjl R a[a1.toNat]? fun m=>QjV R m fun d=>Qjl R a[a1.toNat]? fun p=>K (List.set a a1.toNat (List.set (List.set (List.set p 0 (Q4 a1)) 1 (Q4 (if c<a2 then c else a2))) 2 (Q4 (if b<d then d else b)))) else Qjl R a[a1.toNat]? fun q=>K (List.set a a1.toNat (List.set (List.set (List.set q 0 (Q4 a1)) 1 (Q4 a2)) 2 (Q4 b)))
def XX (n:Nat) (c:LL) (h2:Int) (k0:Int->Bool->LL->oP R):Nat->Int->LL->oP R
 | 0,_,_=>none
 | m+1,a,b=>bif decide (a<h2) then QjK R c a fun g e f=>Qjw R e f fun h i=>bif decide (h<i) then Qjl R (Y6 ((b.length+[[g,e,f]].length)*24)) fun j=>XX n c h2 k0 m (wJ (a+1)) (b++[[g,e,f]]) else XX n c h2 k0 m (wJ (a+1)) b else k0 a (decide (a<h2)) b
def VD (a0:LL) (K:LL->oP R):oP R:=XX n a0 (a0.length:Int) (fun b c a=>K a) n 0 []
def Zv (n:Nat) (a i e:LL) (g d:Int) (k0:Int->Int->Bool->LL->LL->oP R):Nat->Int->Int->LL->LL->oP R
 | 0,_,_,_,_=>none
 | m+1,b,c,h,f=>Qjj R (decide (c<wJ ((e.length:Int)-g))) fun ae=>bif ae then Qjx R a b fun j=>Qjl R (Y6 ((h.length+[[Q4 j]].length)*8)) fun ab=>Qjk R (wJ ((a.length:Int)-1)) fun ag=>bif decide (c>0) then Qjx R e c fun t=>QjF R i t fun k=>Qjx R a (if ag<wJ (wJ (b+k)+d) then ag else wJ (wJ (b+k)+d)) fun l=>Qjl R (Y6 ((f.length+[[Q4 l]].length)*8)) fun ac=>Zv n a i e g d k0 m (wJ (b+k)) (wJ (c+1)) (h++[[Q4 j]]) (f++[[Q4 l]]) else Qjx R a (if ag<wJ (b+d) then ag else wJ (b+d)) fun o=>Qjl R (Y6 ((f.length+[[Q4 o]].length)*8)) fun ad=>Zv n a i e g d k0 m b (wJ (c+1)) (h++[[Q4 j]]) (f++[[Q4 o]]) else k0 b c ae h f
def PC (i j c k d:LL) (e:Int) (l:List UInt8) (f m o p:Int) (K:LL->LL->Int->Int->oP R):oP R:=Qjl R (SH n i j c k d e l f m o p some) fun a=>bif a !=0 then K [] [] 0 a else Qjl R (Si n i j c k d e Tu3) fun b=>Qjl R (PY n b.1 b.2.1 l f m o p Tu2) fun h=>Zv n h.1 c d e f (fun x y z q r=>Qjx R h.1 (wJ ((h.1.length:Int)-1)) fun u=>Qjl R (JC n u 1000 some) fun v=>K q r v 0) n 0 0 [] []
def VP (n:Nat) (a0 a1:Int) (K:Int->oP R):oP R:=Qk5 R a1 (Qjk R (wJ (Int.tdiv a0 a1)) fun b=>bif decide (Int.tmod a0 a1<0) then K (wJ (b-1)) else K b)
def YX (n:Nat) (b a:LL) (a1 a2 c:Int) (K:LL->LL->oP R):oP R:=QjO R b.length a1 b a1.toNat fun h=>bif h then QjS R a.length a1 a a1.toNat fun d=>Qjz R a.length a1 a a1.toNat fun j=>QjV R j fun e=>Qjz R b.length a1 b a1.toNat fun l=>Qjz R a.length a1 a a1.toNat fun m=>K (List.set b a1.toNat (List.set l 0 (D.bool true))) (List.set a a1.toNat (List.set (List.set (List.set m 0 (Q4 a1)) 1 (Q4 (if d<a2 then d else a2))) 2 (Q4 (if c<e then e else c)))) else Qjz R b.length a1 b a1.toNat fun o=>Qjz R a.length a1 a a1.toNat fun p=>K (List.set b a1.toNat (List.set o 0 (D.bool true))) (List.set a a1.toNat (List.set (List.set (List.set p 0 (Q4 a1)) 1 (Q4 a2)) 2 (Q4 c)))
def Wp (l o:Int) (e i:LL) (j b:Int) (p q f r c:LL) (k0:Int->Int->Bool->LL->LL->oP R):Nat->Int->Int->LL->LL->oP R
 | 0,_,_,_,_=>none
 | m+1,v,a,x,y=>Qjj R (decide (a<(c.length:Int))) fun g=>bif g then jn (fun (t k:Int)=>(Qjx R c a fun ag=>Qjl R (YX n x y ag t k Tu2) fun d=>Qjk R (wJ (a+1)) fun h=>bif decide (a>0) then QjJ R c (wJ (a-1)) fun ah ai=>QjJ R c a fun aj ak=>QjW R ah ai aj ak fun al am an ao=>Qjl R (G0 n p q f r al am an ao Tu5) fun u=>Qjl R (pIw u.2.2.1) fun au=>bif decide (au>=0) then bif decide (a>b) then Qjl R (pIw u.2.2.1) fun av=>Qjl R (YX n d.1 d.2 (wJ ((f.length:Int)+av)) t k Tu2) fun ab=>Wp l o e i j b p q f r c k0 m k h ab.1 ab.2 else Qjl R (pIw u.2.2.1) fun aw=>Qjl R (YX n d.1 d.2 (wJ ((f.length:Int)+aw)) t v Tu2) fun ac=>Wp l o e i j b p q f r c k0 m k h ac.1 ac.2 else Wp l o e i j b p q f r c k0 m k h d.1 d.2 else Wp l o e i j b p q f r c k0 m k h d.1 d.2:oP R)) fun s=>bif a==0 then Qjx R i 0 fun az=>Qjl R (JC n az 1000 some) fun ba=>s (wJ (0-l)) (wJ (ba+4)) else bif decide (a<b) then Qjx R e (wJ (a-1)) fun bd=>Qjl R (VP n bd 1000 some) fun be=>Qjx R i a fun bi=>Qjl R (JC n bi 1000 some) fun bj=>s (wJ (be-16)) (wJ (bj+4)) else bif a==b then Qjx R e (wJ (b-1)) fun bm=>Qjl R (VP n bm 1000 some) fun bn=>s (wJ (bn-16)) (wJ (j+o)) else Qjx R e b fun bq=>Qjl R (VP n bq 1000 some) fun br=>s (wJ (br-16)) (wJ (j+20)) else k0 v a g x y
def Vm (n:Nat) (b:Int) (c d:LL) (k0:Int->Bool->LL->oP R):Nat->Int->LL->oP R
 | 0,_,_=>none
 | m+1,a,e=>bif decide (a<b) then QjO R c.length a c a.toNat fun l=>bif l then Qjz R d.length a d a.toNat fun f=>Qk4 R f fun g h=>Qjl R f[2]? fun i=>Qjl R (Y6 ((e.length+[[g,h,i]].length)*24)) fun q=>Vm n b c d k0 m (wJ (a+1)) (e++[[g,h,i]]) else Vm n b c d k0 m (wJ (a+1)) e else k0 a (decide (a<b)) e
def K8 (f a b g h:LL) (j:Int) (k:List UInt8) (l m o p q r:Int) (K:LL->Int->Int->oP R):oP R:=Qjl R (SH n f a b g h j k l m o p some) fun d=>bif d !=0 then K [] 0 d else Qjl R (HM n q 0 65536 some) fun e=>Qjm R (!(!e)) (HM n r 0 65536 some) fun i=>bif Qjh (!e) (!i) then K [] 0 4 else gb true (PC n f a b g h j k l m o p Tu4) ([],[],0,0) fun c=>Qjk R (wJ ((b.length:Int)+(a.length:Int))) fun aa=>Qjj R (decide (0<=aa)&&decide (aa<=aa)) fun s=>gb true (bif s then some () else none) () fun x=>Qjk R (Int.toNat aa) fun ah=>Qjl R (Y6 (ah*1)) fun y=>gb true (bif s then some () else none) () fun z=>Qjl R (Y6 (ah*24)) fun u8=>Wp n q r c.1 c.2.1 c.2.2.1 (wJ ((c.1.length:Int)-1)) f a b g h (fun ab ac ad t u=>Vm n aa t u (fun ae ag v=>K v c.2.2.1 0) n 0 []) n 0 0 (List.replicate ah [D.bool false]) (List.replicate ah [Q4 0,Q4 0,Q4 0])
def Ve (n:Nat) (d:Int) (h2:LL) (c:Int) (k0:Int->oP R) (k1:Int->Bool->oP R):Nat->Int->oP R
 | 0,_=>none
 | m+1,a=>bif decide (a<c) then QjA R h2 a fun b f=>Qjl R b[1]? fun i=>Qk1 R b fun g=>Qjl R (pIw f) fun h=>bif h==d then Qjl R (pIw g) fun e=>k0 (if 60<e then e else 60) else Ve n d h2 c k0 k1 m (wJ (a+1)) else k1 a (decide (a<c))
def Hh (c:Int) (d e f g a h i:LL) (a1:Int) (K:Int->oP R):oP R:=Ve n a1 a (a.length:Int) (fun b=>K b) (fun j k=>K 60) n 0
def Jh (n:Nat) (c:Int) (a:LL) (k0:D->D->D->D->oP R) (k1:Int->Bool->oP R):Nat->Int->oP R
 | 0,_=>none
 | m+1,h2=>Qjj R (decide (h2<(a.length:Int))) fun k=>bif k then Qjx R a h2 fun f=>bif f==c then QjP R a h2 fun g h i j=>k0 g h i j else Jh n c a k0 k1 m (wJ (h2+1)) else k1 h2 k
def KL (a:LL) (a1:Int) (K:D->D->D->D->Bool->oP R):oP R:=Jh n a1 a (fun b c d e=>K b c d e true) (fun f g=>K (Q4 0) (Q4 0) (Q4 0) (Q4 0) false) n 0
def YG (g:Int) (k l o p:LL) (q:Int) (e r s t h u v:LL) (x d:D) (k0:Int->Bool->LL->LL->oP R):Nat->Int->LL->LL->oP R
 | 0,_,_,_=>none
 | m+1,a,i,j=>Qjl R (pSl 4 d) fun aj=>Qjj R (decide (a<(aj.length:Int))) fun b=>bif b then Qjl R (pSl 4 d) fun aw=>QjF R aw a fun ak=>Qjk R (wJ (a+1)) fun c=>bif a==0 then jn (fun (az:Int)=>(Qjl R (XJ n q e r s t h u v g a Tu2) fun al=>QjB R x e al.1 al.2 fun bh bi bj bk bl bm bn=>Qjl R (K8 n k l o p bh bi bj bk bl bm bn 60 az Tu3) fun ac=>QjT R ((i.length+[[D.sl 3 ac.1]].length)*24) ((j.length+[[Q4 ac.2.1]].length)*8) (YG g k l o p q e r s t h u v x d k0 m c (i++[[D.sl 3 ac.1]]) (j++[[Q4 ac.2.1]])):oP R)) fun am=>Qjl R (KL n h g Tu5) fun an=>Qjl R (pSl 4 d) fun bo=>bif decide (a<wJ ((bo.length:Int)-1)) then Qjl R (pSl 4 d) fun bp=>QjF R bp a fun bt=>Qjl R (pSl 4 d) fun bu=>Qjl R (Q1 bu a) fun bv=>Qjl R bv[3]? fun bx=>Qjl R (pIw bx) fun bz=>am (wJ (bt+bz)) else bif an.2.2.2.2 then Qjl R (pSl 4 d) fun ca=>Qk2 R ca a fun cc=>Qjw R cc an.2.2.2.1 fun ce i64=>am (wJ (ce+(if 60<i64 then i64 else 60))) else Qjl R (XJ n q e r s t h u v g a Tu2) fun ao=>QjB R x e ao.1 ao.2 fun cm cn co cp cq cr cs=>Qjl R (K8 n k l o p cm cn co cp cq cr cs 60 (wJ (ak+60)) Tu3) fun ad=>QjT R ((i.length+[[D.sl 3 ad.1]].length)*24) ((j.length+[[Q4 ad.2.1]].length)*8) (YG g k l o p q e r s t h u v x d k0 m c (i++[[D.sl 3 ad.1]]) (j++[[Q4 ad.2.1]])) else jn (fun (ct:Int)=>(Qjl R (XJ n q e r s t h u v g a Tu2) fun ap=>QjB R x e ap.1 ap.2 fun da db dc dd de df dg=>Qjl R (K8 n k l o p da db dc dd de df dg 0 ct Tu3) fun ae=>QjT R ((i.length+[[D.sl 3 ae.1]].length)*24) ((j.length+[[Q4 ae.2.1]].length)*8) (YG g k l o p q e r s t h u v x d k0 m c (i++[[D.sl 3 ae.1]]) (j++[[Q4 ae.2.1]])):oP R)) fun aq=>Qjl R (KL n h g Tu5) fun ar=>Qjl R (pSl 4 d) fun dh=>bif decide (a<wJ ((dh.length:Int)-1)) then Qjl R (pSl 4 d) fun di=>QjF R di a fun dl=>Qjl R (pSl 4 d) fun dn=>Qjl R (Q1 dn a) fun dp=>Qjl R dp[3]? fun dq=>Qjl R (pIw dq) fun dr=>aq (wJ (dl+dr)) else bif ar.2.2.2.2 then Qjl R (pSl 4 d) fun ds=>Qk2 R ds a fun du=>Qjw R du ar.2.2.2.1 fun dw au=>aq (wJ (dw+(if 60<au then au else 60))) else Qjl R (XJ n q e r s t h u v g a Tu2) fun av=>QjB R x e av.1 av.2 fun ed ee ef eg eh ei ej=>Qjl R (K8 n k l o p ed ee ef eg eh ei ej 0 (wJ (ak+60)) Tu3) fun ag=>QjT R ((i.length+[[D.sl 3 ag.1]].length)*24) ((j.length+[[Q4 ag.2.1]].length)*8) (YG g k l o p q e r s t h u v x d k0 m c (i++[[D.sl 3 ag.1]]) (j++[[Q4 ag.2.1]])) else k0 a b i j
def US (c d e f:LL) (g:Int) (h i a j k l o:LL) (k0:Int->Bool->LL->LL->oP R):Nat->Int->LL->LL->oP R
 | 0,_,_,_=>none
 | m+1,h2,p,q=>Qjj R (decide (h2<(a.length:Int))) fun aa=>bif aa then QjH R a h2 fun b r=>Qk1 R b fun s=>YG n h2 c d e f g h i a j k l o r s (fun y z t u=>US c d e f g h i a j k l o k0 m (wJ (h2+1)) t u) n 0 p q else k0 h2 aa p q
def Rq (a b c d:LL) (e:Int) (f g h i j k l:LL) (K:LL->LL->Int->oP R):oP R:=Qjl R (UC n a b c d e f g h i j k l some) fun m=>bif m !=0 then K [] [] 1 else US n a b c d e f g h i j k l (fun q r o p=>K o p 0) n 0 [] []
def X3 (n:Nat) (b c:Int) (k0:Int->Bool->LL->oP R):Nat->Int->LL->oP R
 | 0,_,_=>none
 | m+1,a,d=>bif decide (a<c) then Qjk R [[Q4 1,Q4 b,Q4 a],[Q4 2,Q4 b,Q4 a]] fun f=>Qjl R (Y6 ((d.length+List.length f)*24)) fun e=>X3 n b c k0 m (wJ (a+1)) (d++f) else k0 a (decide (a<c)) d
def QM (e:LL) (h2:Int) (k0:Int->Bool->LL->LL->oP R):Nat->Int->LL->LL->oP R
 | 0,_,_,_=>none
 | m+1,a,d,b=>bif decide (a<h2) then QjQ R e a fun f=>Qjl R (nz 2) fun l=>Qjk R [[Q4 (wJ (Int.tdiv (b.length:Int) 2))]] fun r=>Qjl R (Y6 ((d.length+r.length)*8)) fun o=>Qjl R (pSl 4 f) fun g=>X3 n a (g.length:Int) (fun p q h=>QM e h2 k0 m (wJ (a+1)) (d++r) h) n 0 b else k0 a (decide (a<h2)) d b
def YC (a b c:LL) (K:LL->LL->oP R):oP R:=QM n a (a.length:Int) (fun f g d e=>K d e) n 0 b c
def XN (n:Nat) (a:LL) (a1 a2:Int) (K:Int->oP R):oP R:=QjD R a.length a1 a a1.toNat fun d=>K (wJ (d+a2))
def Yc (n:Nat) (f b:LL) (a1 a2 c d e:Int) (K:LL->oP R):oP R:=Qjx R f a1 fun a=>Qjk R [[Q4 a1,Q4 a2,Q4 (wJ (a+d)),Q4 (wJ (wJ (a+c)+e))]] fun j=>Qjl R (Y6 ((b.length+j.length)*32)) fun i=>K (b++j)
def Wi (a b:LL) (a1:Int) (K:Int->oP R):oP R:=QjG R a a1 fun e=>Qjl R (XN n b a1 (wJ ((e.length:Int)-1)) some) fun f=>K f
def Xg (c:Int) (f:LL) (d:Int) (e g:LL) (k0:Int->Bool->LL->oP R):Nat->Int->LL->oP R
 | 0,_,_=>none
 | m+1,a,h=>bif decide (a<d) then QjH R f a fun b i=>Qk0 R b fun j k=>Qjl R (XN n e c a some) fun l=>Qjl R (XN n e c (wJ (a+1)) some) fun o=>QjY R i j k fun i64 p q=>Qjl R (Yc n g h l o i64 p q some) fun r=>Xg c f d e g k0 m (wJ (a+1)) r else k0 a (decide (a<d)) h
def Qy (d:LL) (h2:Int) (e f:LL) (k0:Int->Bool->LL->oP R):Nat->Int->LL->oP R
 | 0,_,_=>none
 | m+1,a,g=>bif decide (a<h2) then QjQ R d a fun h=>Qjl R (pSl 4 h) fun c=>Qjl R (pSl 4 h) fun j=>Qjl R (slB c.length none (some (wJ ((j.length:Int)-1)))) fun i=>Xg n a (cut c i) ((List.length (cut c i):Nat):Int) e f (fun q r k=>Qy d h2 e f k0 m (wJ (a+1)) k) n 0 g else k0 a (decide (a<h2)) g
def Xe (f:LL) (c:Int) (d e g:LL) (k0:Int->Bool->LL->oP R):Nat->Int->LL->oP R
 | 0,_,_=>none
 | m+1,a,h=>bif decide (a<c) then QjP R f a fun i k l o=>Qjl R (pIw i) fun p=>QjG R e p fun j=>Qjl R (pIw i) fun s=>Qjl R (Wi n e d s some) fun t=>Qjl R (pIw k) fun u=>Qjl R (XN n d u 0 some) fun v=>Qk2 R j (wJ ((j.length:Int)-1)) fun y=>QjY R y l o fun z aa ab=>Qjl R (Yc n g h t v z aa ab some) fun ac=>Xe f c d e g k0 m (wJ (a+1)) ac else k0 a (decide (a<c)) h
def YH (a b c d e:LL) (K:LL->oP R):oP R:=Qy n a (a.length:Int) c d (fun h i f=>Xe n b (b.length:Int) c a d (fun j k g=>K g) n 0 f) n 0 e
def Uj (n:Nat) (h2:LL) (e:Int) (k0:oP R) (k1:Int->Int->Bool->oP R):Nat->Int->Int->oP R
 | 0,_,_=>none
 | m+1,a,b=>bif decide (b<e) then QjK R h2 b fun g h i=>Qjl R (pIw g) fun c=>Qjm R (!(decide (c<=a))) (pIw h) fun d=>Qjj R (Qjh (decide (c<=a)) (decide (d<(-65536:Int)))) fun p=>QjE R h (!p) i fun j k=>Qjj R (Qjh p (decide (j>=k))) fun q=>Qjm R (!q) (pIw i) fun l=>bif Qjh q (decide (l>65536)) then k0 else Qjl R (pIw g) fun o=>Uj n h2 e k0 k1 m o (wJ (b+1)) else k1 a b (decide (b<e))
def Jt (a0:LL) (K:Bool->oP R):oP R:=Uj n a0 (a0.length:Int) (K false) (fun a b c=>K true) n (-1:Int) 0
def Uo (n:Nat) (h2:Int) (d:LL) (b:Int) (k0:oP R) (k1:Int->Bool->oP R):Nat->Int->oP R
 | 0,_=>none
 | m+1,a=>bif decide (a<b) then QjH R d a fun c e=>Qjl R c[2]? fun f=>Qjw R f e fun g h=>bif decide (wJ (g-h)>h2) then k0 else Uo n h2 d b k0 k1 m (wJ (a+1)) else k1 a (decide (a<b))
def Te (a0:Int) (a1:LL) (K:Bool->oP R):oP R:=Qjj R (Qjh (decide (a0<1)) (decide (a0>7200))) fun d=>Qjm R (!d) (Jt n a1 some) fun a=>bif Qjh d (!a) then K false else Uo n a0 a1 (a1.length:Int) (K false) (fun b c=>K true) n 0
def Ya (n:Nat) (a b c d e f:Int) (g:Bool) (h:Int) (K:Bool->oP R):oP R:=K (Qjh g (decide (wJ ((if b<wJ (f+d) then wJ (f+d) else b)-(if wJ (e+c)<a then wJ (e+c) else a))>h)))
def QH (e:LL) (b f:Int) (c g d:D) (h i j:Int) (k0:Int->Bool->Bool->oP R):Nat->Int->Bool->oP R
 | 0,_,_=>none
 | m+1,a,k=>bif decide (a<b) then QjK R e a fun q r s=>Qjw R c q fun o p=>QjE R r (o==p) d fun t u=>bif Qji (o==p) (decide (wJ (f+t)<=u)) then Qjl R (pIw c) fun ab=>Qjw R g d fun v x=>Qjl R (pIw q) fun ac=>Qjw R r s fun y z=>Qjl R (Ya n v x y z i j k h some) fun aa=>QH e b f c g d h i j k0 m (wJ (a+1)) aa else QH e b f c g d h i j k0 m (wJ (a+1)) k else k0 a (decide (a<b)) k
def Xj (d:LL) (b e f g:Int) (h:LL) (i j:Int) (k0:Int->Bool->Bool->oP R):Nat->Int->Bool->oP R
 | 0,_,_=>none
 | m+1,a,k=>bif decide (a<b) then QjK R d a fun o p q=>QjR R h e fun l=>QH n l (l.length:Int) f o p q g i j (fun u v t=>Xj d b e f g h i j k0 m (wJ (a+1)) t) n 0 k else k0 a (decide (a<b)) k
def Wa (c:Int) (a:LL) (d e f g h:Int) (i:Bool) (K:Bool->oP R):oP R:=QjR R a d fun b=>Xj n b (b.length:Int) e f c a g h (fun m o l=>K l) n 0 i
def XB (b:LL) (h2 c:Int) (k0:oP R) (k1:Int->Bool->oP R):Nat->Int->oP R
 | 0,_=>none
 | m+1,a=>bif decide (a<h2) then QjR R b a fun f=>Qjl R (Te n c f some) fun g=>bif !g then k0 else XB b h2 c k0 k1 m (wJ (a+1)) else k1 a (decide (a<h2))
def X9 (d:LL) (c e:Int) (f:LL) (k0:oP R) (k1:Int->Bool->oP R):Nat->Int->oP R
 | 0,_=>none
 | m+1,a=>bif decide (a<c) then QjP R d a fun g h i j=>QjY R g h i fun k l o=>QjL R j g (Qjl R (pIw h) fun u=>Qjw R i j fun p q=>Qjl R (Wa n e f k l o p q false some) fun r=>bif r then k0 else X9 d c e f k0 k1 m (wJ (a+1))) else k1 a (decide (a<c))
def ZN (b:Int) (a c:LL) (K:Bool->oP R):oP R:=XB n a (a.length:Int) b (K false) (fun d e=>X9 n c (c.length:Int) b a (K false) (fun f g=>K true) n 0) n 0
def QY (n:Nat) (a:LL) (a1 a2:Int) (K:Int->oP R):oP R:=QjD R a.length a1 a a1.toNat fun d=>K (wJ (d+a2))
def Yp (n:Nat) (a0:Int) (K:Int->oP R):oP R:=K (wJ (2*a0))
def UL (n:Nat) (a0:Int) (K:Int->oP R):oP R:=K (wJ (wJ (2*a0)+1))
def Xd (n:Nat) (a:LL) (a1 a2 b c d e:Int) (K:LL->oP R):oP R:=Qjk R [[Q4 a1,Q4 a2,Q4 b,Q4 c,Q4 d,Q4 e]] fun g=>Qjl R (Y6 ((a.length+g.length)*48)) fun f=>K (a++g)
def Vr (a b:LL) (a1:Int) (K:Int->oP R):oP R:=QjG R a a1 fun e=>Qjl R (QY n b a1 (wJ ((e.length:Int)-1)) some) fun f=>K f
def Qt (f:Int) (g:LL) (c:Int) (d h:D) (i j:LL) (k0:Int->Bool->LL->oP R):Nat->Int->LL->oP R
 | 0,_,_=>none
 | m+1,a,k=>bif decide (a<c) then QjH R g a fun e p=>Qk0 R e fun q r=>Qjl R (QY n i f a some) fun b=>Qjx R j b fun l=>Qjl R (Yp n b some) fun u=>Qjl R (UL n b some) fun v=>Qjw R p d fun x y=>Qjl R (Xd n k 1 u v l (wJ (l+x)) y some) fun o=>Qjl R (pSl 4 h) fun z=>bif decide (a<wJ ((z.length:Int)-1)) then Qjl R (UL n b some) fun aa=>Qjl R (Yp n (wJ (b+1)) some) fun ab=>QjY R q r d fun ac ad ae=>Qjl R (Xd n o 2 aa ab ac ad ae some) fun ag=>Qt f g c d h i j k0 m (wJ (a+1)) ag else Qt f g c d h i j k0 m (wJ (a+1)) o else k0 a (decide (a<c)) k
def QC (c:LL) (h2:Int) (d e:LL) (k0:Int->Bool->LL->oP R):Nat->Int->LL->oP R
 | 0,_,_=>none
 | m+1,a,f=>bif decide (a<h2) then Qjl R (Q1 c a) fun b=>Qjl R b[0]? fun k=>Qjl R b[1]? fun l=>Qk0 R b fun i g=>Qjl R (pSl 4 g) fun h=>Qt n a h (h.length:Int) i g d e (fun o p j=>QC c h2 d e k0 m (wJ (a+1)) j) n 0 f else k0 a (decide (a<h2)) f
def QE (e:LL) (c:Int) (d:LL) (k0:Int->Bool->LL->oP R):Nat->Int->LL->oP R
 | 0,_,_=>none
 | m+1,b,f=>bif decide (b<c) then Qjy R e b fun a g h i=>QjU R a fun j k l=>Qjl R a[6]? fun o=>Qjw R g h fun p q=>Qjl R (QY n d p q some) fun r=>Qjw R i j fun s t=>Qjl R (QY n d s t some) fun u=>Qjl R (UL n r some) fun v=>Qjl R (Yp n u some) fun x=>QjY R k l o fun y z aa=>Qjl R (Xd n f 3 v x y z aa some) fun ab=>QE e c d k0 m (wJ (b+1)) ab else k0 b (decide (b<c)) f
def QD (e:LL) (c:Int) (d f:LL) (k0:Int->Bool->LL->oP R):Nat->Int->LL->oP R
 | 0,_,_=>none
 | m+1,a,g=>bif decide (a<c) then QjP R e a fun h i j k=>Qjl R (pIw h) fun l=>Qjl R (Vr n f d l some) fun o=>Qjl R (UL n o some) fun p=>Qjl R (pIw i) fun q=>Qjl R (QY n d q 0 some) fun r=>Qjl R (Yp n r some) fun s=>Qjw R j k fun t u=>Qjl R (Xd n g 4 p s t u 1 some) fun v=>QD e c d f k0 m (wJ (a+1)) v else k0 a (decide (a<c)) g
def QF (e:LL) (c:Int) (d:LL) (k0:Int->Bool->LL->oP R):Nat->Int->LL->oP R
 | 0,_,_=>none
 | m+1,a,f=>bif decide (a<c) then Qjy R e a fun b h i j=>QjI R b fun k g=>Qjw R h i fun l o=>Qjl R (QY n d l o some) fun p=>Qjl R (Yp n p some) fun q=>Qjw R j k fun r s=>Qjl R (QY n d r s some) fun t=>Qjl R (Yp n t some) fun u=>Qjl R (pIw g) fun v=>Qjl R (pIw g) fun x=>Qjl R (Xd n f 5 q u v x 0 some) fun y=>QF e c d k0 m (wJ (a+1)) y else k0 a (decide (a<c)) f
def Ys (b c d e a f g:LL) (K:LL->oP R):oP R:=QC n b (b.length:Int) a f (fun l m h=>QE n c (c.length:Int) a (fun o p i=>QD n d (d.length:Int) a b (fun q r j=>QF n e (e.length:Int) a (fun s t k=>K k) n 0 j) n 0 i) n 0 h) n 0 g
def Xv (n:Nat) (a:Int) (b:Int->Bool) (K:(Int->Bool)->oP R):oP R:=K (Q7x b a true)
def QW (e:LL) (b f:Int) (c g d:D) (k0:Int->Bool->(Int->Bool)->oP R):Nat->Int->(Int->Bool)->oP R
 | 0,_,_=>none
 | m+1,a,h=>bif decide (a<b) then QjK R e a fun l o p=>Qjw R c l fun j k=>QjE R o (j==k) d fun q r=>bif Qji (j==k) (decide (wJ (f+q)<=r)) then Qjl R (pIw c) fun s=>QjL R g d (QjL R l o (Qjl R (pIw p) fun z=>gb true (Xv n s h some) (fun _=>false) fun t=>QW e b f c g d k0 m (wJ (a+1)) t)) else QW e b f c g d k0 m (wJ (a+1)) h else k0 a (decide (a<b)) h
def Xk (d:LL) (b e f:Int) (g:LL) (k0:Int->Bool->(Int->Bool)->oP R):Nat->Int->(Int->Bool)->oP R
 | 0,_,_=>none
 | m+1,a,h=>bif decide (a<b) then QjK R d a fun j k l=>QjR R g e fun i=>QW n i (i.length:Int) f j k l (fun r s q=>Xk d b e f g k0 m (wJ (a+1)) q) n 0 h else k0 a (decide (a<b)) h
def Wc (a:LL) (c d e:Int) (f:Int->Bool) (K:(Int->Bool)->oP R):oP R:=QjR R a c fun b=>Xk n b (b.length:Int) d e a (fun j k i=>K i) n 0 f
def Qu (a h2:Int) (f:LL) (c:Int) (g:LL) (k0:Int->Bool->(Int->Bool)->oP R):Nat->Int->(Int->Bool)->oP R
 | 0,_,_=>none
 | m+1,b,h=>bif decide (b<c) then QjP R f b fun i j o p=>Qjl R (pIw i) fun e=>Qjm R (e==a) (pIw j) fun k=>Qjj R (Qji (e==a) (k==h2)) fun x=>Qjm R (!x) (pIw i) fun l=>Qjm R (!x&&l==h2) (pIw j) fun q=>bif Qjh x (Qji (l==h2) (q==a)) then QjY R i j o fun r s t=>Qjl R (pIw p) fun v=>gb true (Wc n g r s t h some) (fun _=>false) fun u=>Qu a h2 f c g k0 m (wJ (b+1)) u else Qu a h2 f c g k0 m (wJ (b+1)) h else k0 b (decide (b<c)) h
def Y3 (b a:LL) (a1 a2:Int) (K:(Int->Bool)->oP R):oP R:=Qu n a1 a2 a (a.length:Int) b (fun d e c=>K c) n 0 fun _=>false
def Y5 (n:Nat) (c:LL) (h2:Int) (d:Int->Bool) (k0:Int->Bool->LL->oP R):Nat->Int->LL->oP R
 | 0,_,_=>none
 | m+1,a,b=>bif decide (a<h2) then QjK R c a fun f g h=>Qjl R (pIw f) fun i=>bif !(d i) then Qjl R (Y6 ((b.length+[[f,g,h]].length)*24)) fun j=>Y5 n c h2 d k0 m (wJ (a+1)) (b++[[f,g,h]]) else Y5 n c h2 d k0 m (wJ (a+1)) b else k0 a (decide (a<h2)) b
def Ux (a0:LL) (a:Int->Bool) (K:LL->(Int->Bool)->oP R):oP R:=Y5 n a0 (a0.length:Int) a (fun c d b=>K b a) n 0 []
def V4 (n:Nat) (a0:Int) (K:Bool->oP R):oP R:=K (Qji (decide (a0>=1)) (decide (a0<=7200)))
def Hn (n:Nat) (a0 a1:Int) (K:Int->oP R):oP R:=bif decide (a1<1) then K 0 else Qjl R (nz a1) fun a=>Qjk R (Int.tmod a0 a1) fun b=>bif decide (b<0) then K (wJ (b+a1)) else K b
def JA (n:Nat) (a1 a2 a:Int) (K:LL->oP R):oP R:=bif decide (a<1) then K [] else bif decide (a>=a1) then Qjl R (Y6 ([[Q4 0,Q4 a1]].length*16)) fun b=>K [[Q4 0,Q4 a1]] else Qjk R (wJ (a2+a)) fun d=>bif decide (d<=a1) then Qjl R (Y6 ([[Q4 a2,Q4 d]].length*16)) fun u2=>K [[Q4 a2,Q4 d]] else Qjk R [[Q4 0,Q4 (wJ (d-a1))],[Q4 a2,Q4 a1]] fun c=>Qjl R (Y6 (List.length c*16)) fun u3=>K c
def Pi (a0 a1 a2:Int) (K:LL->Int->oP R):oP R:=Qjl R (V4 n a0 some) fun a=>bif !a then K [] 4 else Qjl R (Hn n a1 a0 some) fun b=>Qjl R (JA n a0 b a2 some) fun c=>K c 0
def Um (n:Nat) (h2:Int) (f:LL) (d:Int) (k0:oP R) (k1:Int->Int->Bool->oP R):Nat->Int->Int->oP R
 | 0,_,_=>none
 | m+1,a,b=>bif decide (b<d) then QjJ R f b fun h e=>Qjl R (pIw h) fun c=>Qjj R (decide (c<=a)) fun o=>QjE R h (!o) e fun i j=>Qjj R (Qjh o (decide (i>=j))) fun p=>Qjm R (!p) (pIw e) fun k=>bif Qjh p (decide (k>h2)) then k0 else Qjl R (pIw e) fun l=>Um n h2 f d k0 k1 m l (wJ (b+1)) else k1 a b (decide (b<d))
def GD (a0:Int) (a1:LL) (K:Bool->oP R):oP R:=Qjl R (V4 n a0 some) fun a=>bif !a then K false else Um n a0 a1 (a1.length:Int) (K false) (fun b c d=>K true) n (-1:Int) 0
def Uf (h2:Int) (c:LL) (b:Int) (k0:oP R) (k1:Int->Bool->oP R):Nat->Int->oP R
 | 0,_=>none
 | m+1,a=>bif decide (a<b) then Qka R c a fun f=>Qjl R (GD n h2 f some) fun g=>bif !g then k0 else Uf h2 c b k0 k1 m (wJ (a+1)) else k1 a (decide (a<b))
def Ti (a0:Int) (a1:LL) (K:Int->oP R):oP R:=Qjl R (V4 n a0 some) fun a=>bif !a then K 4 else Uf n a0 a1 (a1.length:Int) (K 1) (fun b c=>K 0) n 0
def QB (n:Nat) (a1:Int) (K:LL->oP R):oP R:=bif decide (a1<0) then none else Qjk R (wJ (a1-wJ (0-0))) fun c=>bif decide (c>0) then Qjl R (slB 0 none (some 0)) fun a=>gb true (bif decide (0<c) then some () else none) () fun u3=>Qjl R (Y6 (Int.toNat c*16)) fun b=>K [] else K []
def Qf (n:Nat) (c:LL) (b:Int) (k0:Int->Int->Bool->oP R):Nat->Int->Int->oP R
 | 0,_,_=>none
 | m+1,h2,a=>bif decide (a<b) then Qka R c a fun d=>Qjk R (wJ (h2+(d.length:Int))) fun g=>bif decide (g<0) then none else Qf n c b k0 m g (wJ (a+1)) else k0 h2 a (decide (a<b))
def Qg (n:Nat) (d:LL) (b:Int) (k0:Int->Bool->LL->oP R):Nat->Int->LL->oP R
 | 0,_,_=>none
 | m+1,a,c=>bif decide (a<b) then Qka R d a fun e=>Qjl R (Y6 ((c.length+e.length)*16)) fun h=>Qg n d b k0 m (wJ (a+1)) (c++e) else k0 a (decide (a<b)) c
def QI (a0:LL) (K:LL->oP R):oP R:=Qf n a0 (a0.length:Int) (fun a d e=>Qjl R (QB n a some) fun b=>Qg n a0 (a0.length:Int) (fun f g c=>K c) n 0 b) n 0 0
def Mi (n:Nat) (a0:Int) (K:Int->oP R):oP R:=bif decide (a0>=65536) then Qjl R (A8 16) fun e=>bif decide (shR .u32 a0 16>=256) then Qjl R (A8 8) fun f=>Qjl R (J7 Qjg (IntKind.wrap .u8 (shR .u32 (shR .u32 a0 16) 8))) fun a=>K (wJ (wJ (16+8)+wJ a)) else Qjl R (J7 Qjg (IntKind.wrap .u8 (shR .u32 a0 16))) fun b=>K (wJ (16+wJ b)) else bif decide (a0>=256) then Qjl R (A8 8) fun g=>Qjl R (J7 Qjg (IntKind.wrap .u8 (shR .u32 a0 8))) fun c=>K (wJ (wJ (0+8)+wJ c)) else Qjl R (J7 Qjg (IntKind.wrap .u8 a0)) fun d=>K (wJ (0+wJ d))
def NF (n:Nat) (a0:Int) (K:Int->oP R):oP R:=bif decide (a0>=4294967296) then Qjl R (A8 32) fun i=>bif decide (shR .u64 a0 32>=65536) then Qjl R (A8 16) fun j=>bif decide (shR .u64 (shR .u64 a0 32) 16>=256) then Qjl R (A8 8) fun k=>Qjl R (J7 Qjg (IntKind.wrap .u8 (shR .u64 (shR .u64 (shR .u64 a0 32) 16) 8))) fun a=>K (wJ (wJ (wJ (32+16)+8)+wJ a)) else Qjl R (J7 Qjg (IntKind.wrap .u8 (shR .u64 (shR .u64 a0 32) 16))) fun b=>K (wJ (wJ (32+16)+wJ b)) else bif decide (shR .u64 a0 32>=256) then Qjl R (A8 8) fun l=>Qjl R (J7 Qjg (IntKind.wrap .u8 (shR .u64 (shR .u64 a0 32) 8))) fun c=>K (wJ (wJ (32+8)+wJ c)) else Qjl R (J7 Qjg (IntKind.wrap .u8 (shR .u64 a0 32))) fun d=>K (wJ (32+wJ d)) else bif decide (a0>=65536) then Qjl R (A8 16) fun m=>bif decide (shR .u64 a0 16>=256) then Qjl R (A8 8) fun o=>Qjl R (J7 Qjg (IntKind.wrap .u8 (shR .u64 (shR .u64 a0 16) 8))) fun e=>K (wJ (wJ (wJ (0+16)+8)+wJ e)) else Qjl R (J7 Qjg (IntKind.wrap .u8 (shR .u64 a0 16))) fun f=>K (wJ (wJ (0+16)+wJ f)) else bif decide (a0>=256) then Qjl R (A8 8) fun p=>Qjl R (J7 Qjg (IntKind.wrap .u8 (shR .u64 a0 8))) fun g=>K (wJ (wJ (0+8)+wJ g)) else Qjl R (J7 Qjg (IntKind.wrap .u8 a0)) fun h=>K (wJ (0+wJ h))
def T7 (a0:Int) (K:Int->oP R):oP R:=bif false then Qjl R (Mi n (IntKind.wrap .u32 a0) some) fun a=>K a else Qjl R (NF n a0 some) fun b=>K b
def GS (n:Nat) (a0:Int) (K:Bool->oP R):oP R:=K (a0 !=a0)
def Jd (a0 a1:Int) (K:Int->oP R):oP R:=Qjl R (GS n a0 some) fun b=>Qjl R (GS n a1 some) fun a=>bif b then bif a then K 0 else K (-1:Int) else bif a then K 1 else bif decide (a0<a1) then K (-1:Int) else bif decide (a0>a1) then K 1 else K 0
def V5 (a d b e:Int) (K:Int->oP R):oP R:=Qjl R (Jd n a b some) fun c=>K c
def Qh (b:Int) (k0:Int->Bool->LL->oP R):Nat->Int->LL->oP R
 | 0,_,_=>none
 | m+1,a,c=>Qjj R (decide (a>b)) fun ag=>Qjm R ag (inB c.length a) fun z=>Qjm R ag c[a.toNat]? fun g=>Qk6 R g ag fun l o=>Qjk R (wJ (a-1)) fun aj=>Qjm R ag (inB c.length aj) fun aa=>Qjk R (Int.toNat aj) fun ak=>Qjm R ag c[ak]? fun h=>Qk6 R h ag fun p q=>QjE R l ag o fun r s=>QjE R p ag q fun t u=>Qjm R ag (V5 n r s t u some) fun i=>Qjj R (Qji ag (decide (i<0))) fun ah=>bif ah then Qjz R c.length aj c ak fun j=>Qk4 R j fun d e=>Qjz R c.length a c a.toNat fun k=>Qk4 R k fun v x=>Qjz R c.length a c a.toNat fun f=>Qjk R (List.set c a.toNat (List.set (List.set f 0 d) 1 e)) fun ai=>Qjz R (List.length ai) aj ai ak fun y=>Qh b k0 m aj (List.set ai ak (List.set (List.set y 0 v) 1 x)) else k0 a ah c
def Q7 (b h2:Int) (k0:Int->Bool->LL->oP R):Nat->Int->LL->oP R
 | 0,_,_=>none
 | m+1,a,c=>bif decide (a<h2) then Qh n b (fun e f d=>Q7 b h2 k0 m (wJ (a+1)) d) n a c else k0 a (decide (a<h2)) c
def Xm (a:LL) (a1 a2:Int) (K:LL->oP R):oP R:=Q7 n a1 a2 (fun c d b=>K b) n (wJ (a1+1)) a
def XE (a h2 d:Int) (b:LL) (k0:LL->oP R):Nat->oP R
 | 0=>none
 | m+1=>bif decide (wJ (h2-a)<=12) then Qjl R (Xm n b a h2 some) fun c=>Qjl R (Tc c b.length) fun e=>k0 c else bif d==0 then none else bif !true then none else none
def XO (a:LL) (a1 a2 b:Int) (K:LL->oP R):oP R:=XE n a1 a2 b a (fun c=>K c) n
def Qv (a:LL) (K:LL->oP R):oP R:=Qjl R (T7 n (IntKind.wrap .u64 (a.length:Int)) some) fun c=>Qjl R (XO n a 0 (a.length:Int) c some) fun b=>Qjl R (Tc b a.length) fun u3=>K b
def X7 (n:Nat) (c:Int) (d:LL) (k0:Int->Bool->LL->oP R):Nat->Int->LL->oP R
 | 0,_,_=>none
 | m+1,b,a=>bif decide (b<c) then Qjz R d.length b d b.toNat fun g=>Qk4 R g fun e f=>Qjk R (wJ ((a.length:Int)-1)) fun z=>Qjj R (decide (z>=0)) fun y=>Qjm R y (pIw e) fun j=>Qjm R y (inB a.length z) fun t=>Qjk R (Int.toNat z) fun aa=>Qjm R y a[aa]? fun k=>Qjm R y k[1]? fun l=>Qjm R y (pIw l) fun o=>bif Qji y (decide (j<=o)) then Qjz R a.length z a aa fun p=>Qjl R p[1]? fun q=>Qjw R q f fun h i=>Qjz R a.length z a aa fun r=>X7 n c d k0 m (wJ (b+1)) (List.set a aa (List.set r 1 (Q4 (if h<i then i else h)))) else Qjl R (Y6 ((a.length+[[e,f]].length)*16)) fun x=>X7 n c d k0 m (wJ (b+1)) (a++[[e,f]]) else k0 b (decide (b<c)) a
def HU (b:LL) (K:LL->LL->oP R):oP R:=Qjl R (Qv n b some) fun a=>Qjl R (Tc a b.length) fun u2=>X7 n (a.length:Int) a (fun d e c=>K c a) n 0 []
def Tp (a0:Int) (a1 a2:LL) (K:LL->Int->oP R):oP R:=Qjk R [[D.sl 2 a1],[D.sl 2 a2]] fun d=>Qjl R (Ti n a0 d some) fun a=>bif a !=0 then K [] a else Qjl R (QI n d some) fun b=>Qjl R (FY [b]) fun u3=>Qjl R (HU n b Tu2) fun c=>Qjl R (Tc c.2 b.length) fun e=>K c.1 0
def Zc (c g h d e:Int) (i:LL) (K:LL->oP R):oP R:=Qjl R (Pi n e (wJ (wJ (c-d)+1)) (wJ (wJ (wJ (wJ (g-h)-1)-wJ (wJ (c-d)+1))+1)) Tu2) fun a=>Qjl R (Tp n e i a.1 Tu2) fun f=>Qjl R (FY [f.1]) fun u3=>K f.1
def Qr (b:Int) (k0:LL->LL->Bool->LL->oP R):Nat->LL->LL->LL->oP R
 | 0,_,_,_=>none
 | m+1,a,h2,e=>Qjj R (Qji (decide ((a.length:Int)>0)) (decide ((h2.length:Int)>0))) fun aq=>bif aq then QjK R a 0 fun c k l=>QjK R h2 0 fun d o p=>Qjw R c d fun q r=>bif q==r then Qjl R (pIw c) fun ao=>Qjw R k l fun s t=>Qjl R (pIw d) fun ap=>Qjw R o p fun u v=>Qjl R (Zc n s t u v b e some) fun f=>Qjw R c d fun x y=>bif decide (x<=y) then Qjl R (slB a.length (some 1) none) fun i=>Qjw R c d fun z aa=>bif decide (z>=aa) then Qjl R (slB h2.length (some 1) none) fun ab=>Qr b k0 m (cut a i) (cut h2 ab) f else Qr b k0 m (cut a i) h2 f else Qjw R c d fun ac ad=>bif decide (ac>=ad) then Qjl R (slB h2.length (some 1) none) fun ae=>Qr b k0 m a (cut h2 ae) f else Qr b k0 m a h2 f else Qjw R c d fun ag ah=>bif decide (ag<=ah) then Qjl R (slB a.length (some 1) none) fun j=>Qjw R c d fun ai aj=>bif decide (ai>=aj) then Qjl R (slB h2.length (some 1) none) fun ak=>Qr b k0 m (cut a j) (cut h2 ak) e else Qr b k0 m (cut a j) h2 e else Qjw R c d fun al am=>bif decide (al>=am) then Qjl R (slB h2.length (some 1) none) fun an=>Qr b k0 m a (cut h2 an) e else Qr b k0 m a h2 e else k0 a h2 aq e
def KV (a0 a1:LL) (a:Int) (b:LL) (K:LL->oP R):oP R:=Qr n a (fun d e f c=>K c) n a0 a1 b
def Jr (a0:Int) (a1 a2:LL) (K:LL->Int->oP R):oP R:=jn (fun (d:Bool)=>(bif d then K [] 4 else jn (fun (e:Bool)=>(bif e then K [] 1 else Qjl R (KV n a1 a2 a0 [] some) fun f=>K f 0:oP R)) fun a=>Qjl R (Jt n a1 some) fun b=>bif !b then a (!b) else Qjl R (Jt n a2 some) fun g=>a (!g):oP R)) fun c=>bif decide (a0<1) then c (decide (a0<1)) else c (decide (a0>7200))
def PQ (n:Nat) (a b:Int) (K:Int->oP R):oP R:=K (wJ (b-a))
def ZU (h2:LL) (b:Int) (k0:Int->Int->Bool->oP R):Nat->Int->Int->oP R
 | 0,_,_=>none
 | m+1,c,a=>bif decide (a<b) then QjJ R h2 a fun e f=>Qjw R e f fun g h=>Qjl R (PQ n g h some) fun i=>ZU h2 b k0 m (wJ (c+i)) (wJ (a+1)) else k0 c a (decide (a<b))
def Ra (a0:LL) (K:Int->oP R):oP R:=ZU n a0 (a0.length:Int) (fun a b c=>K a) n 0 0
def Tw (a0:Int) (a1:LL) (K:Int->oP R):oP R:=Qjl R (GD n a0 a1 some) fun a=>bif !a then K 0 else Qjl R (Ra n a1 some) fun b=>K b
def ZB (n:Nat) (b:Int) (e:LL) (c:Int) (k0:Int->Bool->LL->oP R):Nat->Int->LL->oP R
 | 0,_,_=>none
 | m+1,a,d=>bif decide (a<c) then QjJ R e a fun i j=>Qjw R j i fun g h=>Qjk R [[Q4 g,Q4 (wJ (wJ (h+b)-1))]] fun l=>Qjl R (Y6 ((d.length+l.length)*16)) fun k=>ZB n b e c k0 m (wJ (a+1)) (d++l) else k0 a (decide (a<c)) d
def YK (n:Nat) (b c:Int) (d:LL) (k0:Int->Bool->LL->oP R):Nat->Int->LL->oP R
 | 0,_,_=>none
 | m+1,a,e=>bif decide (a<c) then Qjz R d.length a d a.toNat fun f=>Qk4 R f fun i j=>Qjw R j i fun g h=>Qjk R [[Q4 g,Q4 (wJ (wJ (h+b)-1))]] fun o=>Qjl R (Y6 ((e.length+o.length)*16)) fun l=>YK n b c d k0 m (wJ (a+1)) (e++o) else k0 a (decide (a<c)) e
def WU (a0:Int) (a1 a2:LL) (K:LL->Int->oP R):oP R:=Qjl R (Jr n a0 a1 a2 Tu2) fun a=>bif a.2 !=0 then K [] a.2 else Qjl R (Tw n a0 a.1 some) fun h=>bif h==a0 then K [] 13 else Qjk R (a.1.length:Int) fun ai=>Qjj R (decide (ai>1)) fun g=>Qjm R g (inB a.1.length 0) fun u3=>Qjm R g a.1[Int.toNat 0]? fun i=>Qjm R g i[0]? fun j=>Qjm R g (pIw j) fun b=>Qjj R (Qji g (b==0)) fun ad=>Qjk R (wJ (ai-1)) fun ae=>Qjm R ad (inB a.1.length ae) fun u=>Qjk R (Int.toNat ae) fun ah=>Qjm R ad a.1[ah]? fun k=>Qjm R ad k[1]? fun l=>Qjm R ad (pIw l) fun m=>bif Qji ad (m==a0) then QjS R a.1.length ae a.1 ah fun c=>QjS R a.1.length 0 a.1 (Int.toNat 0) fun d=>Qjz R a.1.length ae a.1 ah fun e=>Qjk R (List.set a.1 ah (List.set e 1 (Q4 (wJ (c+d))))) fun ag=>Qjl R (slB (List.length ag) (some 1) none) fun f=>ZB n a0 (cut ag f) ((List.length (cut ag f):Nat):Int) (fun z aa s=>K s 0) n 0 [] else YK n a0 ai a.1 (fun ab ac t=>K t 0) n 0 []
def Qz (c d:Int) (e:LL) (b:Int) (k0:Int->Bool->LL->oP R):Nat->Int->LL->oP R
 | 0,_,_=>none
 | m+1,a,f=>bif decide (a<b) then QjJ R e a fun h i=>Qjl R (Yp n c some) fun j=>Qjl R (Yp n d some) fun k=>Qjw R h i fun l o=>Qjl R (Xd n f 6 j k l o 0 some) fun p=>Qz c d e b k0 m (wJ (a+1)) p else k0 a (decide (a<b)) f
def QQ (e h:Int) (b i:LL) (k0:Int->LL->oP R) (k1:Int->Bool->LL->oP R):Nat->Int->LL->oP R
 | 0,_,_=>none
 | m+1,a,g=>Qjj R (decide (a<(b.length:Int))) fun c=>bif c then gb true (Y3 n b i e a some) (fun _=>false) fun k=>QjR R b e fun p=>gb true (Ux n p k Tu2) ([],fun _=>false) fun j=>QjR R b a fun s=>gb true (Ux n s j.2 Tu2) ([],fun _=>false) fun t=>Qjl R (WU n h j.1 t.1 Tu2) fun f=>bif f.2 !=0 then k0 f.2 g else Qz n e a f.1 (f.1.length:Int) (fun v x u=>QQ e h b i k0 k1 m (wJ (a+1)) u) n 0 g else k1 a c g
def Qs (a b:Int) (c d:LL) (k0:Int->LL->oP R) (k1:Int->Bool->LL->oP R):Nat->Int->LL->oP R
 | 0,_,_=>none
 | m+1,h2,e=>bif decide (h2<a) then QQ n h2 b c d (fun f g=>k0 f g) (fun i j h=>Qs a b c d k0 k1 m (wJ (h2+1)) h) n (wJ (h2+1)) e else k1 h2 (decide (h2<a)) e
def Yk (b:Int) (a c d:LL) (K:Int->LL->oP R):oP R:=Qs n (a.length:Int) b a c (fun e f=>K e f) (fun h i g=>K 0 g) n 0 d
def E8 (n:Nat) (a0 a1:Int) (K:Int->oP R):oP R:=bif decide (a1<1) then K 0 else Qjl R (nz a1) fun a=>Qjk R (Int.tmod a0 a1) fun b=>bif decide (b<0) then K (wJ (b+a1)) else K b
def Z4 (n:Nat) (d:LL) (k0:oP R) (k1:Int->Bool->oP R):Nat->Int->oP R
 | 0,_=>none
 | m+1,h2=>Qjj R (decide (h2<(d.length:Int))) fun ad=>bif ad then Qjx R d h2 fun a=>Qjj R (!(decide (a<0))&&decide (h2>0)) fun ab=>Qk9 R d h2 ab fun b=>Qk9 R d (wJ (h2-1)) ab fun c=>Qjj R (Qjh (decide (a<0)) (Qji (decide (h2>0)) (decide (b<=c)))) fun aa=>QjX R d h2 (!aa) fun e=>Qjj R (Qjh aa (decide (e<(-65536:Int)))) fun z=>Qjm R (!z) (Q1 d h2) fun q=>Qjm R (!z) q[2]? fun r=>Qjm R (!z) (pIw r) fun f=>Qjj R (Qjh z (decide (f>65536))) fun ac=>QjX R d h2 (!ac) fun u=>Qjm R (!ac) (Q1 d h2) fun v=>Qjm R (!ac) v[2]? fun x=>Qjm R (!ac) (pIw x) fun y=>bif Qjh ac (decide (u>=y)) then k0 else Z4 n d k0 k1 m (wJ (h2+1)) else k1 h2 ad
def JP (a0:LL) (K:Bool->oP R):oP R:=Z4 n a0 (K false) (fun a b=>K true) n 0
def UB (n:Nat) (b:LL) (h2:Int) (k0:D->D->D->oP R) (k1:Int->Bool->oP R):Nat->Int->oP R
 | 0,_=>none
 | m+1,a=>Qjj R (decide (a<(b.length:Int))) fun j=>bif j then Qjx R b a fun f=>bif f==h2 then QjK R b a fun g h i=>k0 g h i else UB n b h2 k0 k1 m (wJ (a+1)) else k1 a j
def Ak (a0:LL) (a1:Int) (K:D->D->D->Bool->oP R):oP R:=UB n a0 a1 (fun a b c=>K a b c true) (fun d e=>K (Q4 0) (Q4 0) (Q4 0) false) n 0
def Ze (b:Int) (f:LL) (g d:Int) (h:D) (k0:Int->Bool->LL->oP R):Nat->Int->LL->oP R
 | 0,_,_=>none
 | m+1,a,c=>Qjj R (Qji (decide (a<d)) (decide (a<b))) fun q=>bif q then Qk2 R f g fun j=>Qjw R j h fun k l=>Qjl R (E8 n (wJ (wJ (wJ (k-l)+1)+a)) b some) fun e=>Qjz R c.length e c e.toNat fun o=>Ze b f g d h k0 m (wJ (a+1)) (List.set c e.toNat (List.set o 0 (D.bool true))) else k0 a q c
def Y9 (d:Int) (b e:LL) (k0:Int->Bool->LL->oP R):Nat->Int->LL->oP R
 | 0,_,_=>none
 | m+1,a,f=>Qjj R (decide (a<(b.length:Int))) fun j=>bif j then Qjx R b a fun i=>gb true (Ak n e i Tu4) (.bool false,.bool false,.bool false,false) fun c=>bif !c.2.2.2 then Y9 d b e k0 m (wJ (a+1)) f else Qjl R (Q1 b a) fun p=>QjV R p fun r=>Qk2 R b a fun t=>QjY R t c.2.2.1 c.2.1 fun u v x=>Ze n d b a (wJ (wJ (wJ (wJ (r-u)+v)-x)-1)) c.2.2.1 (fun z aa y=>Y9 d b e k0 m (wJ (a+1)) y) n 0 f else k0 a j f
def H5 (a0:Int) (a1 a2:LL) (K:LL->Int->oP R):oP R:=Qjl R (VT n a0 1 7200 some) fun b=>bif !b then K [] 4 else Qjl R (JP n a1 some) fun a=>Qjm R (!(!a)) (JP n a2 some) fun c=>bif Qjh (!a) (!c) then K [] 1 else gb true (bif decide (0<=a0)&&decide (a0<=a0) then some () else none) () fun e=>Qjl R (Y6 (Int.toNat a0*1)) fun f=>Y9 n a0 a1 a2 (fun g h d=>K d 0) n 0 (List.replicate a0.toNat [D.bool false])
def WL (n:Nat) (h2:Int) (b:LL) (k0:Int->Int->Bool->oP R):Nat->Int->Int->oP R
 | 0,_,_=>none
 | m+1,c,a=>bif decide (a<h2) then QjC R b a fun e=>Qjl R (G6 e) fun f=>bif f then WL n h2 b k0 m (wJ (c+1)) (wJ (a+1)) else WL n h2 b k0 m c (wJ (a+1)) else k0 c a (decide (a<h2))
def WX (n:Nat) (a:Int) (c:LL) (d:Int) (k0:Int->Bool->oP R):Nat->Int->oP R
 | 0,_=>none
 | m+1,b=>Qjl R (nz a) fun h=>QjC R c (Int.tmod (wJ (d+b)) a) fun g=>Qjl R (G6 g) fun e=>bif e then WX n a c d k0 m (wJ (b+1)) else k0 b e
def Ym (b:Int) (c:LL) (k0:Int->Bool->LL->oP R):Nat->Int->LL->oP R
 | 0,_,_=>none
 | m+1,a,e=>bif decide (a<b) then QjC R c a fun h=>Qjl R (G6 h) fun d=>Qjm R (!(!d)) (E8 n (wJ (a-1)) b some) fun i=>Qjm R (!(!d)) (Q1 c i) fun j=>Qjm R (!(!d)) j[0]? fun k=>Qjm R (!(!d)) (G6 k) fun l=>bif Qjh (!d) l then Ym b c k0 m (wJ (a+1)) e else WX n b c a (fun f o=>Qjk R [[Q4 (wJ (a+f)),Q4 (wJ (wJ (a+b)-1))]] fun q=>Qjl R (Y6 ((e.length+q.length)*16)) fun p=>Ym b c k0 m (wJ (a+1)) (e++q)) n 0 else k0 a (decide (a<b)) e
def Hk (a0:Int) (a1 a2:LL) (K:LL->Int->oP R):oP R:=Qjl R (H5 n a0 a1 a2 Tu2) fun a=>bif a.2 !=0 then K [] a.2 else WL n a0 a.1 (fun c e f=>bif c==a0 then K [] 13 else Ym n a0 a.1 (fun g h d=>K d 0) n 0 []) n 0 0
def Js (n:Nat) (c:Int) (b:LL) (k0:oP R) (k1:Int->Bool->oP R):Nat->Int->oP R
 | 0,_=>none
 | m+1,a=>Qjj R (decide (a<(b.length:Int))) fun j=>bif j then Qjl R (Q1 b a) fun d=>QjV R d fun f=>QjF R b a fun i=>bif decide (wJ (f-i)>c) then k0 else Js n c b k0 k1 m (wJ (a+1)) else k1 a j
def MN (a0:Int) (a1:LL) (K:Bool->oP R):oP R:=Qjl R (VT n a0 1 7200 some) fun a=>Qjm R (!(!a)) (JP n a1 some) fun b=>bif Qjh (!a) (!b) then K false else Js n a0 a1 (K false) (fun c d=>K true) n 0
def Jw (n:Nat) (b:Int) (c:LL) (k0:Int->Int->Bool->oP R):Nat->Int->Int->oP R
 | 0,_,_=>none
 | m+1,h2,a=>bif decide (a<b) then QjG R c a fun f=>Jw n b c k0 m (wJ (h2+(f.length:Int))) (wJ (a+1)) else k0 h2 a (decide (a<b))
def YQ (a:LL) (a1:Int) (K:Int->oP R):oP R:=Jw n a1 a (fun b c d=>K b) n 0 0
def Wm (c:LL) (f:Int) (g h:LL) (d:D) (k0:Int->Bool->LL->oP R):Nat->Int->LL->oP R
 | 0,_,_=>none
 | m+1,a,e=>Qjl R (pSl 4 d) fun k=>Qjj R (decide (a<(k.length:Int))) fun aj=>bif aj then Qjl R (YQ n g f some) fun b=>Qjl R (pSl 4 d) fun aa=>QjH R aa a fun i l=>Qk0 R i fun ab ac=>Qjl R (pSl 4 d) fun ad=>Qjk R (wJ (b+a)) fun ak=>bif decide (a<wJ ((ad.length:Int)-1)) then QjC R c ak fun ag=>Qjw R ag ab fun o p=>QjC R c ak fun ai=>QjY R ai l ac fun q r s=>Qjk R [[Q4 ak,Q4 (wJ (ak+1)),Q4 (wJ (o+p)),Q4 (wJ (wJ (q+r)+s))]] fun al=>Qjl R (Y6 ((e.length+al.length)*32)) fun aw=>Wm c f g h d k0 m (wJ (a+1)) (e++al) else Qjl R (KL n h f Tu5) fun j=>bif j.2.2.2.2 then Qjl R (pIw j.2.1) fun ao=>Qjl R (YQ n g ao some) fun t=>QjC R c ak fun aq=>Qjw R aq j.2.2.1 fun u v=>QjC R c ak fun au=>QjY R au l j.2.2.2.1 fun x y z=>Qjk R [[Q4 ak,Q4 t,Q4 (wJ (u+v)),Q4 (wJ (wJ (x+y)+z))]] fun am=>Qjl R (Y6 ((e.length+am.length)*32)) fun a4=>Wm c f g h d k0 m (wJ (a+1)) (e++am) else Wm c f g h d k0 m (wJ (a+1)) e else k0 a aj e
def UE (c a d:LL) (k0:Int->Bool->LL->oP R):Nat->Int->LL->oP R
 | 0,_,_=>none
 | m+1,h2,e=>Qjj R (decide (h2<(a.length:Int))) fun o=>bif o then QjQ R a h2 fun f=>Wm n c h2 a d f (fun k l g=>UE c a d k0 m (wJ (h2+1)) g) n 0 e else k0 h2 o e
def R1 (a b a1:LL) (K:LL->oP R):oP R:=UE n a1 a b (fun d e c=>K c) n 0 []
def Z3 (n:Nat) (b:LL) (h2:Int) (k0:D->D->D->oP R) (k1:Int->Bool->oP R):Nat->Int->oP R
 | 0,_=>none
 | m+1,a=>Qjj R (decide (a<(b.length:Int))) fun j=>bif j then Qjx R b a fun f=>bif f==h2 then QjK R b a fun g h i=>k0 g h i else Z3 n b h2 k0 k1 m (wJ (a+1)) else k1 a j
def VI (a0:LL) (a1:Int) (K:D->D->D->Bool->oP R):oP R:=Z3 n a0 a1 (fun a b c=>K a b c true) (fun d e=>K (Q4 0) (Q4 0) (Q4 0) false) n 0
def S4 (a0:LL) (g h i a2:Int) (K:D->D->D->D->D->D->Bool->oP R):oP R:=QjR R a0 g fun k=>gb true (VI n k a2 Tu4) (.bool false,.bool false,.bool false,false) fun a=>QjR R a0 h fun o=>gb true (VI n o a2 Tu4) (.bool false,.bool false,.bool false,false) fun b=>Qjj R (Qji a.2.2.2 b.2.2.2) fun d=>QjE R b.2.1 d a.2.2.1 fun p q=>K a.1 a.2.1 a.2.2.1 b.1 b.2.1 b.2.2.1 (Qji d (decide (wJ (i+p)<=q)))
def UQ (b:LL) (h2 c g d f:Int) (k0:oP R) (k1:Int->Bool->oP R):Nat->Int->oP R
 | 0,_=>none
 | m+1,a=>QjR R b c fun l24=>Qjj R (decide (a<(l24.length:Int))) fun v=>bif v then QjR R b c fun r=>Qjx R r a fun u=>Qjl R (S4 n b c g d u Tu7) fun e=>bif e.2.2.2.2.2.2 then QjW R e.2.2.1 e.2.2.2.2.2.1 e.2.1 e.2.2.2.2.1 fun h i j k=>bif decide (wJ ((if h<wJ (f+i) then wJ (f+i) else h)-(if wJ (d+k)<j then wJ (d+k) else j))>h2) then k0 else UQ b h2 c g d f k0 k1 m (wJ (a+1)) else UQ b h2 c g d f k0 k1 m (wJ (a+1)) else k1 a v
def RJ (a0:LL) (a b c d a2:Int) (K:Bool->oP R):oP R:=UQ n a0 a2 a b c d (K false) (fun e f=>K true) n 0
def UM (e:LL) (l:Int) (o:LL) (f c:D) (k0:Int->Bool->LL->oP R):Nat->Int->LL->oP R
 | 0,_,_=>none
 | m+1,a,d=>Qjl R (pSl 4 c) fun p=>Qjj R (decide (a<(p.length:Int))) fun ah=>bif ah then Qjl R (YQ n o l some) fun b=>Qjl R (pSl 4 c) fun t=>QjH R t a fun g u=>Qk0 R g fun v x=>Qjx R e (wJ (b+a)) fun h=>QjC R e (wJ (b+a)) fun ab=>QjY R ab u f fun i j k=>Qjk R (wJ (2*wJ (b+a))) fun aj=>Qjk R [[Q4 1,Q4 aj,Q4 (wJ (aj+1)),Q4 h,Q4 (wJ (i+j)),Q4 k]] fun ai=>Qjl R (Y6 ((d.length+ai.length)*48)) fun ae=>Qjl R (pSl 4 c) fun ac=>bif decide (a<wJ ((ac.length:Int)-1)) then QjY R v x f fun q r s=>Qjk R [[Q4 2,Q4 (wJ (aj+1)),Q4 (wJ (aj+2)),Q4 q,Q4 r,Q4 s]] fun ak=>Qjl R (Y6 ((List.length (d++ai)+ak.length)*48)) fun ag=>UM e l o f c k0 m (wJ (a+1)) (d++ai++ak) else UM e l o f c k0 m (wJ (a+1)) (d++ai) else k0 a ah d
def UJ (c a:LL) (k0:Int->Bool->LL->oP R):Nat->Int->LL->oP R
 | 0,_,_=>none
 | m+1,h2,d=>Qjj R (decide (h2<(a.length:Int))) fun l=>bif l then Qjl R (Q1 a h2) fun b=>Qjl R b[0]? fun h=>Qjl R b[1]? fun i=>Qk0 R b fun e f=>UM n c h2 a e f (fun j k g=>UJ c a k0 m (wJ (h2+1)) g) n 0 d else k0 h2 l d
def SX (a a1:LL) (K:LL->oP R):oP R:=UJ n a1 a (fun c d b=>K b) n 0 []
def UK (d c:LL) (k0:Int->Bool->LL->oP R):Nat->Int->LL->oP R
 | 0,_,_=>none
 | m+1,b,e=>Qjj R (decide (b<(c.length:Int))) fun z=>bif z then Qjy R c b fun a o p q=>QjU R a fun r s t=>Qjl R a[6]? fun u=>Qjl R (pIw o) fun v=>Qjl R (YQ n d v some) fun f=>Qjw R p q fun g x=>Qjl R (YQ n d x some) fun h=>QjW R r s t u fun i j k l=>Qjk R [[Q4 3,Q4 (wJ (wJ (2*wJ (f+g))+1)),Q4 (wJ (2*wJ (h+i))),Q4 j,Q4 k,Q4 l]] fun aa=>Qjl R (Y6 ((e.length+aa.length)*48)) fun y=>UK d c k0 m (wJ (b+1)) (e++aa) else k0 b z e
def Wk (b c:LL) (k0:Int->Bool->LL->oP R):Nat->Int->LL->oP R
 | 0,_,_=>none
 | m+1,a,e=>Qjj R (decide (a<(c.length:Int))) fun x=>bif x then QjP R c a fun f l o p=>Qjl R (pIw f) fun q=>Qjl R (YQ n b q some) fun g=>Qjl R (pIw f) fun r=>QjG R b r fun h=>Qjl R (pIw l) fun u=>Qjl R (YQ n b u some) fun i=>Qjw R o p fun j k=>Qjk R [[Q4 4,Q4 (wJ (wJ (2*wJ (g+(h.length:Int)))-1)),Q4 (wJ (2*i)),Q4 j,Q4 k,Q4 1]] fun y=>Qjl R (Y6 ((e.length+y.length)*48)) fun v=>Wk b c k0 m (wJ (a+1)) (e++y) else k0 a x e
def Zk (d c:LL) (k0:Int->Bool->LL->oP R):Nat->Int->LL->oP R
 | 0,_,_=>none
 | m+1,a,e=>Qjj R (decide (a<(c.length:Int))) fun v=>bif v then Qjy R c a fun b o p q=>QjI R b fun r f=>Qjl R (pIw o) fun s=>Qjl R (YQ n d s some) fun g=>Qjw R p q fun h t=>Qjl R (YQ n d t some) fun i=>Qjw R r f fun j k=>Qjl R (pIw f) fun l=>Qjk R [[Q4 5,Q4 (wJ (2*wJ (g+h))),Q4 (wJ (2*wJ (i+j))),Q4 k,Q4 l,Q4 0]] fun x=>Qjl R (Y6 ((e.length+x.length)*48)) fun u=>Zk d c k0 m (wJ (a+1)) (e++x) else k0 a v e
def RH (a b c d:LL) (K:LL->oP R):oP R:=UK n a b (fun h i e=>Wk n a c (fun j k f=>Zk n a d (fun l m g=>K g) n 0 f) n 0 e) n 0 []
def YY (g e:LL) (a b j:Int) (k0:Bool->Int->Bool->oP R):Nat->Bool->Int->oP R
 | 0,_,_=>none
 | m+1,k,c=>Qjj R (decide (c<(e.length:Int))) fun am=>bif am then Qjx R e c fun d=>QjX R e c (d==a) fun f=>Qjj R (Qji (d==a) (f==b)) fun al=>Qk9 R e c (!al) fun h=>Qjj R (!al&&h==b) fun an=>QjX R e c an fun v=>bif Qjh al (Qji (h==b) (v==a)) then QjP R e c fun x y z aa=>QjR R g a fun ad=>QjC R ad j fun ag=>QjW R ag x y z fun ah ai aj ak=>Qjl R (pIw aa) fun au=>Qjl R (S4 n g ai aj ak ah Tu7) fun ar=>YY g e a b j k0 m (Qjh k ar.2.2.2.2.2.2) (wJ (c+1)) else YY g e a b j k0 m k (wJ (c+1)) else k0 k c am
def ZS (b h2:LL) (c e:Int) (k0:Int->Bool->LL->oP R):Nat->Int->LL->oP R
 | 0,_,_=>none
 | m+1,a,d=>QjR R b c fun g=>Qjj R (decide (a<(g.length:Int))) fun v=>bif v then YY n b h2 c e a (fun o s t=>bif !o then QjR R b c fun r=>QjK R r a fun h i j=>Qjl R (Y6 ((d.length+[[h,i,j]].length)*24)) fun u=>ZS b h2 c e k0 m (wJ (a+1)) (d++[[h,i,j]]) else ZS b h2 c e k0 m (wJ (a+1)) d) n false 0 else k0 a v d
def GK (a0 a1:LL) (a2 a:Int) (K:LL->oP R):oP R:=ZS n a0 a1 a2 a (fun c d b=>K b) n 0 []
def UV (h2:LL) (b:Int) (k0:oP R) (k1:Int->Bool->oP R):Nat->Int->oP R
 | 0,_=>none
 | m+1,a=>Qjj R (decide (a<(h2.length:Int))) fun g=>bif g then QjR R h2 a fun e=>Qjl R (MN n b e some) fun f=>bif !f then k0 else UV h2 b k0 k1 m (wJ (a+1)) else k1 a g
def UW (d b:LL) (e:Int) (k0:oP R) (k1:Int->Bool->oP R):Nat->Int->oP R
 | 0,_=>none
 | m+1,a=>Qjj R (decide (a<(b.length:Int))) fun q=>bif q then QjP R b a fun f g h i=>QjW R f g h i fun j k l o=>Qjl R (RJ n d j k l o e some) fun p=>bif !p then k0 else UW d b e k0 k1 m (wJ (a+1)) else k1 a q
def VQ (n:Nat) (b:Int) (d:LL) (k0:Int->Bool->LL->oP R):Nat->Int->LL->oP R
 | 0,_,_=>none
 | m+1,a,c=>QjG R d b fun e=>Qjj R (decide (a<(e.length:Int))) fun i=>bif i then Qjk R [[Q4 1,Q4 b,Q4 a],[Q4 2,Q4 b,Q4 a]] fun j=>Qjl R (Y6 ((c.length+List.length j)*24)) fun h=>VQ n b d k0 m (wJ (a+1)) (c++j) else k0 a i c
def Wo (b:LL) (k0:Int->Bool->LL->oP R):Nat->Int->LL->oP R
 | 0,_,_=>none
 | m+1,a,c=>Qjj R (decide (a<(b.length:Int))) fun g=>bif g then VQ n a b (fun e f d=>Wo b k0 m (wJ (a+1)) d) n 0 c else k0 a g c
def UR (n:Nat) (c d:Int) (b:LL) (k0:Int->Bool->LL->oP R):Nat->Int->LL->oP R
 | 0,_,_=>none
 | m+1,a,e=>Qjj R (decide (a<(b.length:Int))) fun o=>bif o then Qjx R b a fun f=>QjF R b a fun g=>Qjk R [[Q4 6,Q4 (wJ (2*c)),Q4 (wJ (2*d)),Q4 f,Q4 g,Q4 0]] fun p=>Qjl R (Y6 ((e.length+p.length)*48)) fun l=>UR n c d b k0 m (wJ (a+1)) (e++p) else k0 a o e
def VN (b d:LL) (c e:Int) (k0:oP R) (k1:Int->Bool->LL->oP R):Nat->Int->LL->oP R
 | 0,_,_=>none
 | m+1,a,f=>Qjj R (decide (a<(b.length:Int))) fun j=>bif j then Qjl R (GK n b d c a some) fun h=>Qjl R (GK n b d a c some) fun i=>Qjl R (Hk n e h i Tu2) fun g=>bif g.2 !=0 then k0 else UR n c a g.1 (fun o p l=>VN b d c e k0 k1 m (wJ (a+1)) l) n 0 f else k1 a j f
def UN (b c:LL) (d:Int) (k0:oP R) (k1:Int->Bool->LL->oP R):Nat->Int->LL->oP R
 | 0,_,_=>none
 | m+1,a,e=>Qjj R (decide (a<(b.length:Int))) fun i=>bif i then VN n b c a d k0 (fun g h f=>UN b c d k0 k1 m (wJ (a+1)) f) n (wJ (a+1)) e else k1 a i e
def JY (k l m o:LL) (b:Int) (p q c e d f r:LL) (K:Int->LL->LL->Int->oP R):oP R:=gb true (Rq n k l m o b p q c e d f r Tu3) ([],[],0) fun a=>bif a.2.2 !=0 then K 0 [] [] a.2.2 else bif decide (wJ (2*(a.1.length:Int))>48) then K 0 [] [] 7 else UV n a.1 b (K 0 [] [] 13) (fun v x=>Qjl R (R1 n c d a.2.1 some) fun g=>UW n a.1 g b (K 0 [] [] 13) (fun y z=>Wo n c (fun aa ab u=>Qjl R (SX n c a.2.1 some) fun h=>Qjl R (RH n c e d f some) fun i=>Qjl R (Y6 ((h.length+i.length)*48)) fun ac=>UN n a.1 g b (K 0 [] [] 13) (fun ad ae j=>bif decide ((j.length:Int)>512) then K 0 [] [] 7 else K b u j 0) n 0 (h++i)) n 0 []) n 0) n 0
def Gx (n:Nat) (b:Int) (a c:LL) (a1:Int) (K:Bool->oP R):oP R:=K (Qji (decide (a1>=0)) (decide (a1<(a.length:Int))))
def Ul (p:LL) (h2 e:Int) (h i:LL) (k0:oP R) (k1:Int->Bool->oP R):Nat->Int->oP R
 | 0,_=>none
 | m+1,c=>bif decide (c<h2) then QjH R p c fun a q=>Qjl R a[2]? fun r=>QjU R a fun j k s=>Qjl R (pIw q) fun u=>Qjl R (Gx n e h i u some) fun d=>Qjm R (!(!d)) (pIw r) fun v=>Qjm R (!(!d)) (Gx n e h i v some) fun l=>Qjj R (Qjh (!d) (!l)) fun ag=>QjE R q (!ag) r fun x y=>bif Qjh ag (x==y) then k0 else Qjl R (pIw j) fun b=>Qjj R (decide (b<(-65536:Int))) fun ae=>QjE R j (!ae) k fun f g=>Qjj R (Qjh ae (decide (f>g))) fun ah=>Qjm R (!ah) (pIw k) fun o=>Qjj R (Qjh ah (decide (o>65536))) fun ad=>QjE R k (!ad) j fun z aa=>bif Qjh ad (decide (wJ (z-aa)>=e)) then k0 else Qjl R (pIw s) fun t=>Qjm R (!(decide (t<0))) (pIw s) fun ab=>bif Qjh (decide (t<0)) (decide (ab>1048576)) then k0 else Ul p h2 e h i k0 k1 m (wJ (c+1)) else k1 c (decide (c<h2))
def Tz (b:Int) (c a:LL) (K:Bool->oP R):oP R:=bif Qjh (Qjh (Qjh (decide (b<2)) (decide (b>7200))) (decide ((c.length:Int)>48))) (decide ((a.length:Int)>512)) then K false else Ul n a (a.length:Int) b c a (K false) (fun d e=>K true) n 0
def Vi (n:Nat) (h2:LL) (b c:Int) (k0:oP R) (k1:Int->Bool->oP R):Nat->Int->oP R
 | 0,_=>none
 | m+1,a=>bif decide (a<b) then Qjx R h2 a fun d=>bif Qjh (decide (d<0)) (decide (d>=c)) then k0 else Vi n h2 b c k0 k1 m (wJ (a+1)) else k1 a (decide (a<b))
def Gg (a:Int) (b c a1:LL) (K:Bool->oP R):oP R:=Qjl R (Tz n a b c some) fun d=>bif Qjh (!d) ((a1.length:Int) !=(b.length:Int)) then K false else Vi n a1 (a1.length:Int) a (K false) (fun e f=>K true) n 0
def Tn (n:Nat) (a0 a1 a2:Int) (K:Bool->oP R):oP R:=K (Qji (decide (a0>=a1)) (decide (a0<=a2)))
def VO (j:Int) (l k:LL) (k0:oP R) (k1:Int->Bool->oP R):Nat->Int->oP R
 | 0,_=>none
 | m+1,h2=>Qjj R (decide (h2<(k.length:Int))) fun ah=>bif ah then QjH R k h2 fun g s=>Qjl R g[2]? fun t=>QjU R g fun o p u=>Qjl R (pIw s) fun v=>Qjk R (wJ ((l.length:Int)-1)) fun ai=>Qjl R (Tn n v 0 ai some) fun a=>Qjm R (!(!a)) (pIw t) fun x=>Qjm R (!(!a)) (Tn n x 0 ai some) fun b=>Qjj R (Qjh (!a) (!b)) fun ag=>QjE R s (!ag) t fun c d=>Qjm R (!(Qjh ag (c==d))) (pIw o) fun e=>Qjj R (Qjh (Qjh ag (c==d)) (decide (e<(-65536:Int)))) fun ad=>Qjm R (!ad) (pIw p) fun f=>Qjj R (Qjh ad (decide (f>65536))) fun ab=>QjE R o (!ab) p fun h i=>Qjj R (Qjh ab (decide (h>i))) fun ae=>QjE R p (!ae) o fun q r=>Qjj R (Qjh ae (decide (wJ (q-r)>=j))) fun ac=>Qjm R (!ac) (pIw u) fun y=>Qjm R (!ac) (Tn n y 0 1048576 some) fun z=>bif Qjh ac (!z) then k0 else VO j l k k0 k1 m (wJ (h2+1)) else k1 h2 ah
def UF (a:Int) (b c:LL) (K:Bool->oP R):oP R:=Qjl R (Tn n a 2 7200 some) fun d=>bif Qjh (Qjh (!d) (decide ((b.length:Int)>48))) (decide ((c.length:Int)>512)) then K false else VO n a b c (K false) (fun e f=>K true) n 0
def Jq (h2:LL) (b:Int) (k0:oP R) (k1:Int->Bool->oP R):Nat->Int->oP R
 | 0,_=>none
 | m+1,a=>Qjj R (decide (a<(h2.length:Int))) fun g=>bif g then Qjx R h2 a fun e=>Qjl R (Tn n e 0 (wJ (b-1)) some) fun f=>bif !f then k0 else Jq h2 b k0 k1 m (wJ (a+1)) else k1 a g
def Kz (a:Int) (b c a1:LL) (K:Bool->oP R):oP R:=Qjl R (UF n a b c some) fun d=>bif Qjh (!d) ((a1.length:Int) !=(b.length:Int)) then K false else Jq n a1 a (K false) (fun e f=>K true) n 0
def GX (n:Nat) (c:Int) (k0:Int->Bool->LL->oP R):Nat->Int->LL->oP R
 | 0,_,_=>none
 | m+1,a,b=>bif decide (a<c) then Qjz R b.length a b a.toNat fun d=>GX n c k0 m (wJ (a+1)) (List.set b a.toNat (List.set d 0 (Q4 (-1:Int)))) else k0 a (decide (a<c)) b
def GB (n:Nat) (f:LL) (d:Int) (k0:Int->Bool->LL->oP R):Nat->Int->LL->oP R
 | 0,_,_=>none
 | m+1,a,b=>bif decide (a<d) then QjA R f a fun c g=>Qjl R c[1]? fun i=>Qk3 R c (Qjl R (pIw g) fun e=>Qjz R b.length e b e.toNat fun h=>GB n f d k0 m (wJ (a+1)) (List.set b e.toNat (List.set h 0 (Q4 a)))) else k0 a (decide (a<d)) b
def Zu (a b:LL) (K:LL->oP R):oP R:=Qjk R (a.length:Int) fun j=>gb true (bif decide (0<=j)&&decide (j<=j) then some () else none) () fun e=>Qjk R (Int.toNat j) fun k=>Qjl R (Y6 (k*8)) fun u2=>GX n ((List.length (List.replicate k [Q4 0]):Nat):Int) (fun f g c=>GB n b (b.length:Int) (fun h i d=>K d) n 0 c) n 0 (List.replicate k [Q4 0])
def XG (n:Nat) (c e:LL) (k0:Int->Bool->LL->LL->oP R):Nat->Int->LL->LL->oP R
 | 0,_,_,_=>none
 | m+1,a,d,b=>QjO R b.length a b a.toNat fun f=>bif !f then Qjz R b.length a b a.toNat fun g=>Qjl R (Y6 ((d.length+[[Q4 a]].length)*8)) fun x=>Qjx R c a fun l=>Qjk R (List.set b a.toNat (List.set g 0 (D.bool true))) fun y=>bif decide (l>=0) then Qjx R c a fun q=>QjF R e q fun t=>XG n c e k0 m t (d++[[Q4 a]]) y else XG n c e k0 m a (d++[[Q4 a]]) y else k0 a (!f) d b
def YL (a0:Int) (a1:Bool) (c d e a:LL) (K:LL->LL->oP R):oP R:=XG n d e (fun g h b f=>Qjk R [[D.sl 1 b,D.bool a1]] fun j=>Qjl R (Y6 ((a.length+j.length)*32)) fun i=>K f (a++j)) n a0 [] c
def Vo (a:LL) (j:Bool) (b:LL) (k:Bool) (K:Int->oP R):oP R:=Qjx R a 0 fun e=>Qjx R b 0 fun h=>Qjl R (Jd n e h some) fun i=>K i
def QS (b:Int) (k0:Int->Bool->LL->oP R):Nat->Int->LL->oP R
 | 0,_,_=>none
 | m+1,a,c=>Qjj R (decide (a>b)) fun ag=>Qjm R ag (inB c.length a) fun z=>Qjm R ag c[a.toNat]? fun g=>Qk6 R g ag fun l o=>Qjk R (wJ (a-1)) fun aj=>Qjm R ag (inB c.length aj) fun aa=>Qjk R (Int.toNat aj) fun ak=>Qjm R ag c[ak]? fun h=>Qk6 R h ag fun p q=>Qjm R ag (pSl 1 l) fun r=>Qjm R ag (G6 o) fun s=>Qjm R ag (pSl 1 p) fun t=>Qjm R ag (G6 q) fun u=>Qjm R ag (Vo n r s t u some) fun i=>Qjj R (Qji ag (decide (i<0))) fun ah=>bif ah then Qjz R c.length aj c ak fun j=>Qk4 R j fun d e=>Qjz R c.length a c a.toNat fun k=>Qk4 R k fun v x=>Qjz R c.length a c a.toNat fun f=>Qjk R (List.set c a.toNat (List.set (List.set f 0 d) 1 e)) fun ai=>Qjz R (List.length ai) aj ai ak fun y=>QS b k0 m aj (List.set ai ak (List.set (List.set y 0 v) 1 x)) else k0 a ah c
def QT (b h2:Int) (k0:Int->Bool->LL->oP R):Nat->Int->LL->oP R
 | 0,_,_=>none
 | m+1,a,c=>bif decide (a<h2) then QS n b (fun e f d=>QT b h2 k0 m (wJ (a+1)) d) n a c else k0 a (decide (a<h2)) c
def Y1 (a:LL) (a1 a2:Int) (K:LL->oP R):oP R:=QT n a1 a2 (fun c d b=>K b) n (wJ (a1+1)) a
def Ye (a h2 d:Int) (b:LL) (k0:LL->oP R):Nat->oP R
 | 0=>none
 | m+1=>bif decide (wJ (h2-a)<=12) then Qjl R (Y1 n b a h2 some) fun c=>Qjl R (Tc c b.length) fun e=>k0 c else bif d==0 then none else bif !true then none else none
def Yu (a:LL) (a1 a2 b:Int) (K:LL->oP R):oP R:=Ye n a1 a2 b a (fun c=>K c) n
def Xq (a:LL) (K:LL->oP R):oP R:=Qjl R (T7 n (IntKind.wrap .u64 (a.length:Int)) some) fun c=>Qjl R (Yu n a 0 (a.length:Int) c some) fun b=>Qjl R (Tc b a.length) fun u3=>K b
def VW (n:Nat) (f:LL) (d:Int) (k0:Int->Bool->LL->oP R):Nat->Int->LL->oP R
 | 0,_,_=>none
 | m+1,a,b=>bif decide (a<d) then QjH R f a fun c g=>Qk3 R c (Qjl R (pIw g) fun e=>Qjz R b.length e b e.toNat fun h=>VW n f d k0 m (wJ (a+1)) (List.set b e.toNat (List.set h 0 (D.bool true)))) else k0 a (decide (a<d)) b
def U6 (b:Int) (d e c:LL) (k0:Int->Bool->LL->LL->oP R):Nat->Int->LL->LL->oP R
 | 0,_,_,_=>none
 | m+1,a,f,g=>bif decide (a<b) then QjO R c.length a c a.toNat fun k=>bif !k then Qjl R (YL n a false f e d g Tu2) fun h=>U6 b d e c k0 m (wJ (a+1)) h.1 h.2 else U6 b d e c k0 m (wJ (a+1)) f g else k0 a (decide (a<b)) f g
def U5 (c:Int) (d e:LL) (k0:Int->Bool->LL->LL->oP R):Nat->Int->LL->LL->oP R
 | 0,_,_,_=>none
 | m+1,a,b,f=>bif decide (a<c) then QjO R b.length a b a.toNat fun j=>bif !j then Qjl R (YL n a true b e d f Tu2) fun g=>U5 c d e k0 m (wJ (a+1)) g.1 g.2 else U5 c d e k0 m (wJ (a+1)) b f else k0 a (decide (a<c)) b f
def X8 (a b:LL) (K:LL->oP R):oP R:=Qjl R (Zu n a b some) fun c=>Qjk R (a.length:Int) fun u=>Qjj R (decide (0<=u)&&decide (u<=u)) fun t=>gb true (bif t then some () else none) () fun u2=>Qjk R (Int.toNat u) fun v=>Qjl R (Y6 (v*1)) fun u3=>VW n b (b.length:Int) (fun i j f=>gb true (bif t then some () else none) () fun k=>Qjl R (Y6 (v*1)) fun l=>U6 n u b c f (fun m o g h=>U5 n u b c (fun p q r d=>Qjl R (Xq n d some) fun e=>Qjl R (Tc e d.length) fun s=>K e) n 0 g h) n 0 (List.replicate v [D.bool false]) []) n 0 (List.replicate v [D.bool false])
def NG (n:Nat) (b:Int) (a:LL) (k0:oP R) (k1:Int->Bool->oP R):Nat->Int->oP R
 | 0,_=>none
 | m+1,h2=>Qjj R (decide (h2<(a.length:Int))) fun f=>bif f then QjF R a h2 fun e=>bif e==b then k0 else NG n b a k0 k1 m (wJ (h2+1)) else k1 h2 f
def Q3b (a:LL) (a1:Int) (K:Bool->oP R):oP R:=NG n a1 a (K true) (fun b c=>K false) n 0
def KC (d:Int) (e:LL) (k0:Bool->LL->oP R):Nat->Int->LL->oP R
 | 0,_,_=>none
 | m+1,h2,a=>Qjl R (KL n e h2 Tu5) fun b=>bif !b.2.2.2.2 then k0 false a else Qjl R (pIw b.2.1) fun k=>bif k==d then k0 true a else Qjl R (pIw b.2.1) fun c=>Qjl R (Y6 ((a.length+[[Q4 c]].length)*8)) fun l=>KC d e k0 m c (a++[[Q4 c]])
def KZ (a:LL) (a1:Int) (K:LL->Bool->oP R):oP R:=KC n a1 a (fun b c=>K c b) n a1 [[Q4 a1]]
def HI (n:Nat) (b:Int) (d:LL) (k0:Int->Bool->LL->oP R):Nat->Int->LL->oP R
 | 0,_,_=>none
 | m+1,h2,a=>bif decide (h2<b) then Qjx R d h2 fun c=>Qjz R a.length c a c.toNat fun g=>HI n b d k0 m (wJ (h2+1)) (List.set a c.toNat (List.set g 0 (D.bool true))) else k0 h2 (decide (h2<b)) a
def Rm (b a:LL) (d:Bool) (K:LL->oP R):oP R:=HI n (a.length:Int) a (fun e f c=>K c) n 0 b
def Gt (c:Int) (d:LL) (k0:Int->Bool->LL->LL->oP R):Nat->Int->LL->LL->oP R
 | 0,_,_,_=>none
 | m+1,a,b,e=>bif decide (a<c) then Qjl R (Q3b n d a some) fun h=>bif !h then Qjz R b.length a b a.toNat fun i=>gb true (KZ n d a Tu2) ([],false) fun f=>Qjl R (Rm n e f.1 f.2 some) fun g=>Qjl R (Tc g e.length) fun o=>Gt c d k0 m (wJ (a+1)) (List.set b a.toNat (List.set i 0 (D.bool true))) g else Gt c d k0 m (wJ (a+1)) b e else k0 a (decide (a<c)) b e
def K9 (d:Int) (e:LL) (k0:Int->Bool->LL->LL->oP R):Nat->Int->LL->LL->oP R
 | 0,_,_,_=>none
 | m+1,a,c,b=>bif decide (a<d) then QjO R b.length a b a.toNat fun j=>bif !j then Qjz R c.length a c a.toNat fun k=>gb true (KZ n e a Tu2) ([],false) fun f=>Qjl R (Rm n b f.1 f.2 some) fun g=>Qjl R (Tc g b.length) fun r=>K9 d e k0 m (wJ (a+1)) (List.set c a.toNat (List.set k 0 (D.bool true))) g else K9 d e k0 m (wJ (a+1)) c b else k0 a (decide (a<d)) c b
def GO (b:Int) (f c:LL) (k0:Int->Bool->LL->oP R):Nat->Int->LL->oP R
 | 0,_,_=>none
 | m+1,a,d=>bif decide (a<b) then QjO R c.length a c a.toNat fun i=>bif i then gb true (KZ n f a Tu2) ([],false) fun e=>Qjk R [[D.sl 1 e.1,D.bool e.2]] fun j=>Qjl R (Y6 ((d.length+j.length)*32)) fun o=>GO b f c k0 m (wJ (a+1)) (d++j) else GO b f c k0 m (wJ (a+1)) d else k0 a (decide (a<b)) d
def Jb (a b:LL) (K:LL->oP R):oP R:=Qjk R (a.length:Int) fun s=>Qjj R (decide (0<=s)&&decide (s<=s)) fun q=>gb true (bif q then some () else none) () fun g=>Qjk R (Int.toNat s) fun r=>Qjl R (Y6 (r*1)) fun u2=>gb true (bif q then some () else none) () fun u3=>Qjl R (Y6 (r*1)) fun h=>Qjk R [D.bool false] fun t=>Gt n ((List.length (List.replicate r t):Nat):Int) b (fun i j c e=>K9 n (c.length:Int) b (fun k l d m=>GO n (d.length:Int) b d (fun o p f=>K f) n 0 []) n 0 c e) n 0 (List.replicate r t) (List.replicate r t)
def Xt (d:Int) (e b:LL) (a1:Int) (K:Int->oP R):oP R:=QjH R e a1 fun a f=>Qk0 R a fun g c=>Qjl R a[4]? fun u=>Qjl R a[5]? fun v=>Qjw R c g fun h i=>QjC R b i fun k=>Qjw R k f fun l m=>QjC R b m fun p=>Qjw R p c fun q r=>Qjl R (Hn n (wJ (wJ (l-q)-r)) d some) fun s=>K (wJ (h+s))
def Xo (b:Int) (c d a:LL) (a1 a2:Int) (K:Int->oP R):oP R:=QjD R a.length a1 a a1.toNat fun g=>Qjl R (Xt n b c d (wJ (wJ (wJ (2*g)-a1)+wJ (2*a2))) some) fun h=>K h
def X1 (a g:LL) (b:Int) (c d e f:LL) (h a1 a2:Int) (K:Int->Bool->oP R):oP R:=QjG R a a1 fun k=>bif decide (a2<wJ ((k.length:Int)-1)) then QjD R f.length a1 f a1.toNat fun o=>Qjl R (Xt n b c d (wJ (wJ (wJ (wJ (2*o)-a1)+wJ (2*a2))+1)) some) fun p=>K p true else Qjx R e a1 fun s=>bif decide (s>=0) then Qjx R e a1 fun v=>Qjl R (Xt n b c d (wJ (wJ (wJ (wJ (2*h)-(a.length:Int))+(g.length:Int))+v)) some) fun x=>K x true else K 0 false
def Q22 (n:Nat) (a0 a1 a2:Int) (K:Bool->oP R):oP R:=K (Qji (decide (a0>=a1)) (decide (a0<=a2)))
def Zg (n:Nat) (d e c:Int) (k0:Int->Bool->LL->oP R):Nat->Int->LL->oP R
 | 0,_,_=>none
 | m+1,a,b=>bif decide (a<c) then QjD R b.length a b a.toNat fun h=>bif h==e then Qjz R b.length a b a.toNat fun i=>Zg n d e c k0 m (wJ (a+1)) (List.set b a.toNat (List.set i 0 (Q4 d))) else Zg n d e c k0 m (wJ (a+1)) b else k0 a (decide (a<c)) b
def JO (a:LL) (j b c k l m:Int) (K:Bool->LL->oP R):oP R:=QjD R a.length b a b.toNat fun d=>QjD R a.length c a c.toNat fun e=>bif d==e then K false a else Zg n d e (a.length:Int) (fun q r i=>K true i) n 0 a
def Zi (n:Nat) (c:Int) (k0:Int->Bool->LL->oP R):Nat->Int->LL->oP R
 | 0,_,_=>none
 | m+1,a,b=>bif decide (a<c) then Qjz R b.length a b a.toNat fun d=>Zi n c k0 m (wJ (a+1)) (List.set b a.toNat (List.set d 0 (Q4 a))) else k0 a (decide (a<c)) b
def Zf (c:LL) (k0:Int->Bool->LL->oP R):Nat->Int->LL->oP R
 | 0,_,_=>none
 | m+1,b,d=>Qjj R (decide (b<(c.length:Int))) fun t=>bif t then Qjy R c b fun a f g h=>QjU R a fun i j k=>QjW R f g h i fun l o p q=>Qjw R j k fun r s=>gb true (JO n d l o p q r s Tu2) (false,[]) fun e=>Qjl R (Tc e.2 d.length) fun v=>Zf c k0 m (wJ (b+1)) e.2 else k0 b t d
def Yw (n:Nat) (a:Int) (d:LL) (k0:Int->Bool->LL->oP R):Nat->Int->LL->oP R
 | 0,_,_=>none
 | m+1,b,c=>bif decide (b<a) then QjD R d.length b d b.toNat fun g=>QjD R d.length a d a.toNat fun j=>bif g==j then QjD R c.length b c b.toNat fun o=>Qjz R c.length a c a.toNat fun p=>Yw n a d k0 m (wJ (b+1)) (List.set c a.toNat (List.set p 0 (Q4 o))) else Yw n a d k0 m (wJ (b+1)) c else k0 b (decide (b<a)) c
def Yx (c:Int) (f:LL) (k0:Int->Int->Bool->LL->oP R):Nat->Int->Int->LL->oP R
 | 0,_,_,_=>none
 | m+1,d,a,e=>bif decide (a<c) then Qjz R e.length a e a.toNat fun g=>Yw n a f (fun o p b=>QjD R b.length a b a.toNat fun j=>bif decide (j<0) then Qjz R b.length a b a.toNat fun k=>Yx c f k0 m (wJ (d+1)) (wJ (a+1)) (List.set b a.toNat (List.set k 0 (Q4 d))) else Yx c f k0 m d (wJ (a+1)) b) n 0 (List.set e a.toNat (List.set g 0 (Q4 (-1:Int)))) else k0 d a (decide (a<c)) e
def JU (d:Int) (a c:LL) (K:LL->oP R):oP R:=Qjl R (UF n d a c some) fun e=>bif !e then K [] else Qjk R (a.length:Int) fun s=>gb true (bif decide (0<=s)&&decide (s<=s) then some () else none) () fun u2=>Qjk R (Int.toNat s) fun t=>Qjl R (Y6 (t*8)) fun u3=>Zi n ((List.length (List.replicate t [Q4 0]):Nat):Int) (fun h i f=>Zf n c (fun j k b=>Qjk R (b.length:Int) fun r=>gb true (bif decide (0<=r)&&decide (r<=r) then some () else none) () fun l=>Qjl R (Y6 (Int.toNat r*8)) fun m=>Yx n r b (fun o p q g=>K g) n 0 0 (List.replicate (Int.toNat r) [Q4 0])) n 0 f) n 0 (List.replicate t [Q4 0])
def YP (n:Nat) (d:LL) (a:Int) (k0:Int->Bool->LL->oP R):Nat->Int->LL->oP R
 | 0,_,_=>none
 | m+1,b,c=>bif decide (b<a) then Qjx R d b fun g=>Qjx R d a fun j=>bif g==j then Qjz R c.length a c a.toNat fun k=>YP n d a k0 m (wJ (b+1)) (List.set c a.toNat (List.set k 0 (D.bool false))) else YP n d a k0 m (wJ (b+1)) c else k0 b (decide (b<a)) c
def ZF (d:LL) (c:Int) (k0:Int->Bool->LL->oP R):Nat->Int->LL->oP R
 | 0,_,_=>none
 | m+1,a,b=>bif decide (a<c) then Qjz R b.length a b a.toNat fun e=>YP n d a (fun h i f=>ZF d c k0 m (wJ (a+1)) f) n 0 (List.set b a.toNat (List.set e 0 (D.bool true))) else k0 a (decide (a<c)) b
def K3 (b:Int) (a c:LL) (a1:Int) (a2:Bool) (K:Int->LL->LL->LL->Int->Int->Bool->Bool->Bool->Int->LL->oP R):oP R:=Qjl R (JU n b a c some) fun d=>Qjk R (a.length:Int) fun k=>Qjj R (decide (0<=k)&&decide (k<=k)) fun j=>gb true (bif j then some () else none) () fun u2=>Qjk R (Int.toNat k) fun l=>Qjl R (Y6 (l*8)) fun u3=>gb true (bif j then some () else none) () fun f=>Qjl R (Y6 (l*1)) fun g=>ZF n d (d.length:Int) (fun h i e=>K b a c e a1 0 false a2 false 0 (List.replicate l [Q4 0])) n 0 (List.replicate l [D.bool false])
def G8 (b:Int) (a1:LL) (c d a:Int) (K:Int->oP R):oP R:=Qjx R a1 d fun g=>Qjx R a1 c fun j=>Qjl R (E8 n (wJ (wJ (g-j)-a)) b some) fun k=>K (wJ (a+k))
def Ji (h2:LL) (d:Int) (c:LL) (k0:Int->Int->Bool->oP R):Nat->Int->Int->oP R
 | 0,_,_=>none
 | m+1,e,a=>Qjj R (decide (a<(c.length:Int))) fun y=>bif y then Qjl R (Q1 c a) fun f=>Qjl R f[5]? fun g=>Qjl R (pIw g) fun h=>Qjy R c a fun b i j k=>QjU R b fun l o p=>Qjl R (pIw i) fun u=>QjY R j k l fun q r s=>QjL R o p (Qjl R (G8 n d h2 q r s some) fun t=>Ji h2 d c k0 m (wJ (e+wJ (h*t))) (wJ (a+1))) else k0 e a y
def MM (a:Int) (c b a1:LL) (K:Int->Int->oP R):oP R:=Qjl R (Kz n a c b a1 some) fun d=>bif !d then K 0 1 else Ji n a1 a b (fun e f g=>K e 0) n 0 0
def X0 (c:Int) (e:LL) (f:Int) (d:LL) (k0:oP R) (k1:Int->Int->Bool->oP R):Nat->Int->Int->oP R
 | 0,_,_=>none
 | m+1,h2,a=>Qjj R (decide (a<(d.length:Int))) fun ac=>bif ac then Qjy R d a fun b p h i=>QjU R b fun j k g=>Qjl R (pIw h) fun l=>Qjm R (!(decide (l>c))) (pIw i) fun q=>bif Qjh (decide (l>c)) (decide (q>c)) then Qjw R g j fun r s=>X0 c e f d k0 k1 m (wJ (h2+wJ (r*s))) (wJ (a+1)) else Qjl R (pIw p) fun z=>QjY R h i j fun t u v=>QjL R k g (Qjl R (G8 n f e t u v some) fun o=>Qjl R (pIw k) fun x=>bif decide (o>x) then k0 else Qjl R (pIw g) fun y=>X0 c e f d k0 k1 m (wJ (h2+wJ (y*o))) (wJ (a+1))) else k1 h2 a ac
def Zp (a:Int) (b:LL) (c d:Bool) (e:Int) (f:LL) (a1:Int) (K:Bool->oP R):oP R:=X0 n a1 f a b (K true) (fun g h i=>K (Qji (Qji c d) (decide (g>=e)))) n 0 0
def Xf (Fr:Int->LL->LL->LL->Int->Int->Bool->Bool->Bool->Int->LL->LL->Int->Option (Bool × Int × LL × LL × LL × Int × Int × Bool × Bool × Bool × Int × LL × LL)) (b q:Int) (k0:LL->LL->Int->LL->LL->Int->Int->Bool->Bool->Bool->Int->LL->oP R) (k1:Int->Bool->LL->LL->Int->LL->LL->Int->Int->Bool->Bool->Bool->Int->LL->oP R):Nat->Int->LL->LL->Int->LL->LL->Int->Int->Bool->Bool->Bool->Int->LL->oP R
 | 0,_,_,_,_,_,_,_,_,_,_,_,_,_=>none
 | m+1,c,l,d,e,o,f,g,h,r,i,j,k,p=>bif decide (c<q) then Qjk R (wJ (h+1)) fun x=>bif decide (x>g) then k0 l d e o f g x true i j k p else Qjz R d.length b d b.toNat fun s=>Qjk R (List.set d b.toNat (List.set s 0 (Q4 c))) fun v=>Qjl R (Zp n e f i j k v b some) fun t=>bif !t then gb true (Fr e o f l g x r i j k p v (wJ (b+1))) (false,0,[],[],[],0,0,false,false,false,0,[],[]) fun a=>Qjk R a.2.2.2.2.2.2.2.2.2.2.2.2 fun y=>Qjk R a.2.2.2.2.2.2.2.2.2.2.2.1 fun z=>Qjk R a.2.2.2.2.2.2.2.2.2.2.1 fun aa=>Qjk R a.2.2.2.2.2.2.2.2.2.1 fun ab=>bif Qji true (!a.1) then k0 a.2.2.2.2.1 y a.2.1 a.2.2.1 a.2.2.2.1 a.2.2.2.2.2.1 a.2.2.2.2.2.2.1 a.2.2.2.2.2.2.2.1 a.2.2.2.2.2.2.2.2.1 ab aa z else Xf Fr b q k0 k1 m (wJ (c+1)) a.2.2.2.2.1 y a.2.1 a.2.2.1 a.2.2.2.1 a.2.2.2.2.2.1 a.2.2.2.2.2.2.1 a.2.2.2.2.2.2.2.1 a.2.2.2.2.2.2.2.2.1 ab aa z else bif Qji false false then k0 l v e o f g x r i j k p else Xf Fr b q k0 k1 m (wJ (c+1)) l v e o f g x r i j k p else k1 c (decide (c<q)) l d e o f g h r i j k p
def J8 (Fr:Int->LL->LL->LL->Int->Int->Bool->Bool->Bool->Int->LL->LL->Int->Option (Bool × Int × LL × LL × LL × Int × Int × Bool × Bool × Bool × Int × LL × LL)) (b:Int) (c e d:LL) (g h:Int) (i f j:Bool) (k:Int) (l a:LL) (a1:Int) (K:Bool->Int->LL->LL->LL->Int->Int->Bool->Bool->Bool->Int->LL->LL->oP R):oP R:=bif a1==(c.length:Int) then Qjl R (Y6 (a.length*8)) fun u1=>Qjl R (MM n b c e a Tu2) fun p=>K f b c e d g h i f true p.1 a a else QjO R d.length a1 d a1.toNat fun s=>bif s then Xf n Fr a1 1 (fun t u v x y z aa ab ac ad ae ag=>K false v x y t z aa ab ac ad ae ag u) (fun bx bz ah ai aj ak al am an ao ap aq ar au=>K true aj ak al ah am an ao ap aq ar au ai) n 0 d a b c e g h i f j k l else Xf n Fr a1 b (fun av aw ax ay az ba bb bc bd be bg bh=>K false ax ay az av ba bb bc bd be bg bh aw) (fun ca cb bi bj bk bl bm bn bo bp bq br bt bu=>K true bk bl bm bi bn bo bp bq br bt bu bj) n 0 d a b c e g h i f j k l
def Xn :Nat->Int->LL->LL->LL->Int->Int->Bool->Bool->Bool->Int->LL->LL->Int->Option (Bool × Int × LL × LL × LL × Int × Int × Bool × Bool × Bool × Int × LL × LL)
 | 0,_,_,_,_,_,_,_,_,_,_,_,_,_=>none
 | d+1,a,b,c,e,f,g,h,i,j,k,l,m,a1=>J8 n (Xn d) a b c e f g h i j k l m a1 Tu13
def F4 (e:Int) (f g:LL) (a1:Int) (a2:Bool) (KA:Int->oP R) (KB:Int->LL->LL->LL->Int->Int->Bool->Bool->Bool->Int->LL->LL->Int->oP R):oP R:=Qjl R (UF n e f g some) fun c=>bif !c then KA 1 else Qjl R (Q22 n a1 1 1048576 some) fun d=>bif !d then KA 4 else gb true (K3 n e f g a1 a2 Tu11) (0,[],[],[],0,0,false,false,false,0,[]) fun b=>gb true (Xn n n b.1 b.2.1 b.2.2.1 b.2.2.2.1 b.2.2.2.2.1 b.2.2.2.2.2.1 b.2.2.2.2.2.2.1 b.2.2.2.2.2.2.2.1 b.2.2.2.2.2.2.2.2.1 b.2.2.2.2.2.2.2.2.2.1 [] b.2.2.2.2.2.2.2.2.2.2 0) (false,0,[],[],[],0,0,false,false,false,0,[],[]) fun a=>Qjk R a.2.2.2.2.2.2.2.1 fun i=>bif i then KA 15 else Qjk R a.2.2.2.2.2.2.2.2.2.1 fun h=>Qjk R a.2.2.2.2.2.2.2.2.2.2.2.2 fun j=>Qjk R a.2.2.2.2.2.2.2.2.2.2.2.1 fun k=>Qjk R a.2.2.2.2.2.2.2.2.2.2.1 fun l=>Qjk R a.2.2.2.2.2.2.2.2.1 fun o=>bif !h then KB a.2.1 a.2.2.1 a.2.2.2.1 a.2.2.2.2.1 a.2.2.2.2.2.1 a.2.2.2.2.2.2.1 i o h l k j 14 else KB a.2.1 a.2.2.1 a.2.2.2.1 a.2.2.2.2.1 a.2.2.2.2.2.1 a.2.2.2.2.2.2.1 i o h l k j 0
def UT (e:Int) (f g:LL) (a1:Int) (K:LL->Int->Int->oP R):oP R:=gb true (F4 n e f g a1 false (fun c=>some (.inl c)) fun c d b a h i r6 j k l m o p=>some (.inr (c,d,b,a,h,i,r6,j,k,l,m,o,p))) (.inl 0) fun d=>smX d (fun b=>bif b==0 then none else bif b==14 then none else K [] 0 b) fun a=>Qjk R a.2.2.2.2.2.2.2.2.2.2.2.2 fun q=>bif q==0 then K a.2.2.2.2.2.2.2.2.2.2.1 a.2.2.2.2.2.1 0 else bif q==14 then K [] a.2.2.2.2.2.1 q else K [] 0 q
def XC (b c:Int) (d h i:LL) (e:Int) (f g j:LL) (k:Int) (k0:Int->Int->Bool->oP R):Nat->Int->Int->oP R
 | 0,_,_=>none
 | m+1,l,a=>bif decide (a<c) then gb true (X1 n h i e f g j d k b a Tu2) (0,false) fun q=>Qjl R (Xo n e f g d b a some) fun r=>XC b c d h i e f g j k k0 m (wJ (l+wJ (r+q.1))) (wJ (a+1)) else k0 l a (decide (a<c))
def X5 (h2:LL) (b:Int) (d c e:LL) (f:Int) (g h i:LL) (j:Int) (k0:Int->Int->Bool->oP R):Nat->Int->Int->oP R
 | 0,_,_=>none
 | m+1,k,a=>bif decide (a<b) then Qjx R h2 a fun l=>QjG R c l fun s=>XC n l (s.length:Int) d c e f g h i j (fun t u v=>X5 h2 b d c e f g h i j k0 m t (wJ (a+1))) n k 0 else k0 k a (decide (a<b))
def ZP (c d:LL) (a:Int) (e f g h:LL) (i:Int) (b:LL) (j:Bool) (K:Int->oP R):oP R:=bif !j then K 0 else X5 n b (b.length:Int) h c d a e f g i (fun k l m=>Qjl R (nz a) fun o=>K (wJ (Int.tdiv k a))) n 0 0
def Qb (n:Nat) (a0 a1 a2:Int) (a:LL) (b c:Int) (K:LL->oP R):oP R:=bif decide (a2>0) then Qjk R [[Q4 a0,Q4 b,Q4 a1,Q4 a2,Q4 c]] fun e=>Qjl R (Y6 ((a.length+e.length)*40)) fun d=>K (a++e) else K a
def YM (n:Nat) (d h2:Int) (f:LL) (e:Int) (k0:Int->Bool->LL->oP R):Nat->Int->LL->oP R
 | 0,_,_=>none
 | m+1,a,b=>bif decide (a<e) then QjH R f a fun c h=>Qk3 R c (QjZ R c fun g=>Qjm R (g==d) (pIw h) fun j=>bif Qji (Qji (g==d) (decide (j>=h2))) (decide ((b.length:Int)<8)) then Qjl R (Y6 ((b.length+[[Q4 a]].length)*8)) fun p=>YM n d h2 f e k0 m (wJ (a+1)) (b++[[Q4 a]]) else YM n d h2 f e k0 m (wJ (a+1)) b) else k0 a (decide (a<e)) b
def GL (a:LL) (a1 a2:Int) (K:LL->oP R):oP R:=YM n a1 a2 a (a.length:Int) (fun c d b=>K b) n 0 []
def As (n:Nat)  (K:LL->oP R):oP R:=K [[Q4 8,Q4 4,D.sl 1 [[Q4 1],[Q4 2]]],[Q4 0,Q4 3,D.sl 1 [[Q4 1]]]]
def WC (n:Nat) (c:LL) (b:Int) (k0:oP R) (k1:Int->Int->Bool->oP R):Nat->Int->Int->oP R
 | 0,_,_=>none
 | m+1,d,a=>bif decide (a<b) then Qjx R c a fun e=>bif decide (e<=d) then k0 else WC n c b k0 k1 m e (wJ (a+1)) else k1 d a (decide (a<b))
def WD (a:Int) (h2:LL) (e:Int) (k0:oP R) (k1:Int->Bool->oP R):Nat->Int->oP R
 | 0,_=>none
 | m+1,b=>bif decide (b<e) then QjK R h2 b fun h i j=>Qjl R (pIw h) fun c=>Qjm R (!(decide (c<0))) (pIw h) fun d=>Qjj R (Qjh (decide (c<0)) (decide (d>=a))) fun t=>Qjm R (!t) (pIw i) fun g=>Qjj R (Qjh t (decide (g<1))) fun s=>Qjm R (!s) (pIw i) fun k=>Qjj R (Qjh s (decide (k>a))) fun u=>Qjm R (!u) (pSl 1 j) fun o=>bif Qjh u (decide ((o.length:Int)>8)) then k0 else Qjl R (pSl 1 j) fun l=>WC n l (l.length:Int) k0 (fun p q r=>WD a h2 e k0 k1 m (wJ (b+1))) n (-1:Int) 0 else k1 b (decide (b<e))
def Hb (a0:Int) (a1:LL) (K:Bool->oP R):oP R:=bif Qjh (Qjh (decide (a0<2)) (decide (a0>7200))) (decide ((a1.length:Int)>16)) then K false else WD n a0 a1 (a1.length:Int) (K false) (fun a b=>K true) n 0
def YO (n:Nat) (c:LL) (h2 b:Int) (k0:Int->oP R) (k1:Int->Bool->oP R):Nat->Int->oP R
 | 0,_=>none
 | m+1,a=>bif decide (a<b) then Qjx R c a fun f=>bif h2==f then k0 a else YO n c h2 b k0 k1 m (wJ (a+1)) else k1 a (decide (a<b))
def V2 (a0:LL) (a1:Int) (K:Int->oP R):oP R:=YO n a0 a1 (a0.length:Int) (fun a=>K a) (fun b c=>K (-1:Int)) n 0
def Wf (a0:LL) (a1:Int) (K:Bool->oP R):oP R:=Qjl R (V2 n a0 a1 some) fun a=>K (decide (a>=0))
def JV (a0 a b c e:Int) (K:Bool->oP R):oP R:=Qjl R (Hn n (wJ (c-a)) a0 some) fun d=>Qjm R (!(decide (d<b))) (Hn n (wJ (a-c)) a0 some) fun f=>K (Qjh (decide (d<b)) (decide (f<e)))
def Un (g:Int) (h2 h:LL) (i a d:Int) (k0:oP R) (k1:Int->Bool->oP R):Nat->Int->oP R
 | 0,_=>none
 | m+1,c=>bif decide (c<d) then Qjx R h c fun b=>Qjj R (b==a) fun ab=>Qjm R ab (Q1 h2 c) fun e=>Qk6 R e ab fun l o=>Qjm R ab e[2]? fun p=>Qjm R ab (Q1 h2 i) fun f=>Qk6 R f ab fun q r=>Qjm R ab f[2]? fun s=>QjE R l ab o fun t u=>Qjm R ab (pSl 1 p) fun z=>QjE R q ab r fun v x=>Qjm R ab (pSl 1 s) fun aa=>Qjm R ab (JV n g t u v x some) fun y=>bif Qji ab y then k0 else Un g h2 h i a d k0 k1 m (wJ (c+1)) else k1 c (decide (c<d))
def T8 (a0:Int) (a1 a2:LL) (a b:Int) (K:Bool->oP R):oP R:=Un n a0 a1 a2 a b a (K false) (fun c d=>K true) n 0
def ZL (h2:Int) (b d e:LL) (c:Int) (k0:oP R) (k1:Int->Bool->oP R):Nat->Int->oP R
 | 0,_=>none
 | m+1,a=>bif decide (a<c) then Qjx R e a fun f=>Qjl R (Q1 b a) fun i=>Qjl R i[2]? fun j=>Qjl R (pSl 1 j) fun k=>Qjl R (Wf n k f some) fun l=>bif !l then k0 else Qjl R (T8 n h2 b d a f some) fun o=>bif !o then k0 else ZL h2 b d e c k0 k1 m (wJ (a+1)) else k1 a (decide (a<c))
def Zw (a0:Int) (a1 a2:LL) (K:Bool->oP R):oP R:=Qjl R (Hb n a0 a1 some) fun a=>bif Qjh (!a) ((a2.length:Int) !=(a1.length:Int)) then K false else ZL n a0 a1 a2 a2 (a2.length:Int) (K false) (fun b c=>K true) n 0
def VG  (K:Bool->oP R):oP R:=Qjl R (As n some) fun b=>Qjl R (Zw n 10 b [[Q4 2],[Q4 1]] some) fun a=>Qjm R a (As n some) fun c=>Qjm R a (Zw n 10 c [[Q4 1],[Q4 1]] some) fun d=>K (Qji a (!d))
def XU (c h2 f g:Int) (d h:LL) (k0:Int->oP R) (k1:Int->Bool->oP R):Nat->Int->oP R
 | 0,_=>none
 | m+1,b=>Qjj R (decide (b<(d.length:Int))) fun aa=>bif aa then Qjy R d b fun a i j k=>QjU R a fun o p q=>Qjl R (pIw i) fun e=>Qjm R (e==c) (pIw j) fun l=>Qjj R (Qji (e==c) (l==h2)) fun ab=>Qjm R ab (pIw k) fun r=>bif Qji ab (r==f) then Qjl R (pIw i) fun x=>QjY R j k o fun s t u=>QjL R p q (Qjl R (G8 n g h s t u some) fun v=>k0 v) else XU c h2 f g d h k0 k1 m (wJ (b+1)) else k1 b aa
def Yl (a:Int) (b c:LL) (a1 a2 d:Int) (K:Int->oP R):oP R:=XU n a1 a2 d a b c (fun e=>K e) (fun f g=>K 0) n 0
def Yy (b g:LL) (d:Int) (e f:LL) (a1 a2:Int) (K:Int->Bool->oP R):oP R:=Qjl R (YQ n b a1 some) fun a=>QjG R b a1 fun i=>Qjk R (wJ (2*wJ (a+a2))) fun k=>bif decide (a2<wJ ((i.length:Int)-1)) then Qjl R (Yl n d e f 2 (wJ (k+1)) (wJ (k+2)) some) fun j=>K j true else Qjl R (KL n g a1 Tu5) fun r6=>bif r6.2.2.2.2 then Qjl R (pIw r6.2.1) fun o=>Qjl R (YQ n b o some) fun p=>Qjl R (Yl n d e f 4 (wJ (k+1)) (wJ (2*p)) some) fun q=>K q true else K 0 false
def Xs (b:LL) (c:Int) (d e:LL) (a1 a2:Int) (K:Int->oP R):oP R:=Qjl R (YQ n b a1 some) fun a=>Qjl R (Yl n c d e 1 (wJ (2*wJ (a+a2))) (wJ (wJ (2*wJ (a+a2))+1)) some) fun f=>K f
def Y8 (b c:Int) (d e i:LL) (f:Int) (g h:LL) (k0:Int->Int->Bool->oP R):Nat->Int->Int->oP R
 | 0,_,_=>none
 | m+1,j,a=>bif decide (a<c) then Qjx R d b fun o=>gb true (Yy n e i f g h o a Tu2) (0,false) fun r=>Qjx R d b fun u=>Qjl R (Xs n e f g h u a some) fun v=>Y8 b c d e i f g h k0 m (wJ (j+wJ (v+r.1))) (wJ (a+1)) else k0 j a (decide (a<c))
def XK (h2:Int) (b c d:LL) (e:Int) (f g:LL) (k0:Int->Int->Bool->oP R):Nat->Int->Int->oP R
 | 0,_,_=>none
 | m+1,h,a=>bif decide (a<h2) then Qjx R b a fun k=>QjG R c k fun p=>Y8 n a (p.length:Int) b c d e f g (fun q r s=>XK h2 b c d e f g k0 m q (wJ (a+1))) n h 0 else k0 h a (decide (a<h2))
def V0 (c d:LL) (a:Int) (e f b:LL) (g:Bool) (K:Int->oP R):oP R:=bif !g then K 0 else XK n (b.length:Int) b c d a e f (fun h i j=>Qjl R (nz a) fun k=>K (wJ (Int.tdiv h a))) n 0 0
def RI (b c d e f:LL) (g:Int) (h:List UInt8) (i j k l:Int) (K:LL->Int->Int->oP R):oP R:=Qjl R (K8 n b c d e f g h i j k l 0 0 Tu3) fun a=>K a.1 a.2.1 a.2.2
def Xc (n:Nat) (a b:LL) (d e f c g:Int) (a2:Bool) (K:LL->LL->oP R):oP R:=bif decide (c>0) then Qjk R [[Q4 d,Q4 e,Q4 f,Q4 c,Q4 g]] fun i=>QjT R ((a.length+i.length)*40) ((b.length+[[D.bool a2]].length)*1) (K (a++i) (b++[[D.bool a2]])) else K a b
def Xh (d e f:Int) (b:LL) (c:Int) (k0:Int->Bool->LL->LL->oP R):Nat->Int->LL->LL->oP R
 | 0,_,_,_=>none
 | m+1,a,g,h=>bif decide (a<c) then Qjx R b a fun l=>QjF R b a fun q=>Qjl R (Q1 b a) fun r=>QjV R r fun t=>QjF R b a fun x=>Qjl R (Xc n g h l d (wJ (f+q)) (wJ (t-x)) e false Tu2) fun i=>Xh d e f b c k0 m (wJ (a+1)) i.1 i.2 else k0 a (decide (a<c)) g h
def Qj (i j s e q:Int) (t:Bool) (u v x y:LL) (z:Int) (r aa f ab p ac ad:LL) (k:Int) (l o:LL) (k0:Int->Int->Bool->LL->LL->oP R):Nat->Int->Int->LL->LL->oP R
 | 0,_,_,_,_=>none
 | m+1,a,d,ag,ah=>bif decide (d<q) then Qjl R (XJ n z r aa f ab p ac ad e d Tu2) fun g=>Qk2 R f e fun ba=>QjB R ba r g.1 g.2 fun bi bj bk bl bm bn bo=>Qjl R (RI n u v x y bi bj bk bl bm bn bo Tu3) fun h=>Qjk R (wJ (a+h.2.1)) fun b=>Qjk R (wJ (d+1)) fun c=>bif Qji (Qji (s==0) (d==0)) (!t) then QjM R g.1 g.2 fun bq br=>Qjl R (Gj n bq br some) fun bt=>Qjl R (Xc n ag ah bt i (wJ (a-60)) 60 j true Tu2) fun ak=>Xh n i j a h.1 (h.1.length:Int) (fun cj ck al am=>gb true (Yy n f p k l o e d Tu2) (0,false) fun ai=>bif !ai.2 then Qjl R (Xs n f k l o e d some) fun an=>QjM R g.1 g.2 fun bu bv=>Qjl R (V8 n bu bv some) fun bx=>Qjl R (Xc n al am bx i b (wJ (wJ (wJ (wJ (a+an)+60)-a)-h.2.1)) j true Tu2) fun ao=>Qj i j s e q t u v x y z r aa f ab p ac ad k l o k0 m (wJ (wJ (a+an)+60)) c ao.1 ao.2 else Qjl R (Xs n f k l o e d some) fun ap=>QjM R g.1 g.2 fun bz ca=>Qjl R (V8 n bz ca some) fun cb=>Qjl R (Xc n al am cb i b (wJ (wJ (wJ (wJ (a+ap)+ai.1)-a)-h.2.1)) j true Tu2) fun aq=>Qj i j s e q t u v x y z r aa f ab p ac ad k l o k0 m (wJ (wJ (a+ap)+ai.1)) c aq.1 aq.2) n 0 ak.1 ak.2 else Xh n i j a h.1 (h.1.length:Int) (fun cm cn ar au=>gb true (Yy n f p k l o e d Tu2) (0,false) fun aj=>bif !aj.2 then Qjl R (Xs n f k l o e d some) fun av=>QjM R g.1 g.2 fun cc ce=>Qjl R (V8 n cc ce some) fun cf=>Qjl R (Xc n ar au cf i b (wJ (wJ (wJ (wJ (a+av)+60)-a)-h.2.1)) j true Tu2) fun aw=>Qj i j s e q t u v x y z r aa f ab p ac ad k l o k0 m (wJ (wJ (a+av)+60)) c aw.1 aw.2 else Qjl R (Xs n f k l o e d some) fun ax=>QjM R g.1 g.2 fun cg ch=>Qjl R (V8 n cg ch some) fun ci=>Qjl R (Xc n ar au ci i b (wJ (wJ (wJ (wJ (a+ax)+aj.1)-a)-h.2.1)) j true Tu2) fun ay=>Qj i j s e q t u v x y z r aa f ab p ac ad k l o k0 m (wJ (wJ (a+ax)+aj.1)) c ay.1 ay.2) n 0 ag ah else k0 a d (decide (d<q)) ag ah
def Y2 (d e b:Int) (f:LL) (g:Bool) (h i j k:LL) (l:Int) (o p c q r s t:LL) (u:Int) (v x:LL) (k0:Int->Int->Bool->LL->LL->oP R):Nat->Int->Int->LL->LL->oP R
 | 0,_,_,_,_=>none
 | m+1,y,a,z,aa=>bif decide (a<b) then Qjx R f a fun ab=>QjG R c ab fun ah=>Qj n d e a ab (ah.length:Int) g h i j k l o p c q r s t u v x (fun ai al am aj ak=>Y2 d e b f g h i j k l o p c q r s t u v x k0 m ai (wJ (a+1)) aj ak) n y 0 z aa else k0 y a (decide (a<b)) z aa
def Uz (h i j k:LL) (l:Int) (m o b p d q r:LL) (e:Int) (f c s t:LL) (a1:Int) (a:LL) (g:Bool) (K:LL->LL->oP R):oP R:=Qjl R (V0 n b d e f c a g some) fun u=>Qjx R a 0 fun y=>Qjl R (YQ n b y some) fun z=>Qjx R c (wJ (2*z)) fun i8=>Y2 n a1 u (a.length:Int) a g h i j k l m o b p d q r e f c (fun ae ag ah ac ad=>K ac ad) n i8 0 s t
def Wb (c:LL) (b:Int) (d e f g:LL) (h:Int) (i j k l o p q:LL) (r:Int) (s t:LL) (k0:Int->Bool->LL->LL->oP R):Nat->Int->LL->LL->oP R
 | 0,_,_,_=>none
 | m+1,a,u,v=>bif decide (a<b) then QjJ R c a fun z aa=>Qjl R (pSl 1 z) fun ab=>Qjl R (G6 aa) fun ac=>Qjl R (Uz n d e f g h i j k l o p q r s t u v a ab ac Tu2) fun y=>Wb c b d e f g h i j k l o p q r s t k0 m (wJ (a+1)) y.1 y.2 else k0 a (decide (a<b)) u v
def MD (e f g h:LL) (i:Int) (j k b l c m o a2:LL) (KA:Int->oP R) (KB:LL->LL->LL->LL->Int->LL->LL->LL->LL->LL->LL->LL->Int->LL->LL->LL->LL->LL->Int->oP R):oP R:=gb true (JY n e f g h i j k b l c m o Tu4) (0,[],[],0) fun a=>bif a.2.2.2 !=0 then KA a.2.2.2 else Qjl R (Kz n a.1 a.2.1 a.2.2.1 a2 some) fun p=>bif !p then KA 1 else Qjl R (Jb n b c some) fun d=>Wb n d (d.length:Int) e f g h i j k b l c m o a.1 a.2.2.1 a2 (fun t u r s=>KB e f g h i j k b l c m o a.1 a.2.1 a.2.2.1 a2 r s 0) n 0 [] []
def YJ (n:Nat) (c:Int) (d e:LL) (k0:Int->Bool->LL->oP R):Nat->Int->LL->oP R
 | 0,_,_=>none
 | m+1,a,f=>bif decide (a<c) then QjO R e.length a e a.toNat fun p=>bif p then Qjz R d.length a d a.toNat fun b=>Qk4 R b fun g h=>Qjl R b[2]? fun i=>QjI R b fun j k=>Qjl R (Y6 ((f.length+[[g,h,i,j,k]].length)*40)) fun s=>YJ n c d e k0 m (wJ (a+1)) (f++[[g,h,i,j,k]]) else YJ n c d e k0 m (wJ (a+1)) f else k0 a (decide (a<c)) f
def Hg (e f g h:LL) (i:Int) (j k l m o p q a2:LL) (K:LL->Int->oP R):oP R:=gb true (MD n e f g h i j k l m o p q a2 (fun c=>some (.inl c)) fun c d b a r s r6 t u v x y z aa ab ac ad ae ag=>some (.inr (c,d,b,a,r,s,r6,t,u,v,x,y,z,aa,ab,ac,ad,ae,ag))) (.inl 0) fun d=>smX d (fun b=>bif b !=0 then K [] b else none) fun a=>Qjk R a.2.2.2.2.2.2.2.2.2.2.2.2.2.2.2.2.2.2 fun ak=>bif ak !=0 then K [] ak else YJ n (a.2.2.2.2.2.2.2.2.2.2.2.2.2.2.2.2.1.length:Int) a.2.2.2.2.2.2.2.2.2.2.2.2.2.2.2.2.1 a.2.2.2.2.2.2.2.2.2.2.2.2.2.2.2.2.2.1 (fun ai aj ah=>K ah 0) n 0 []
end Go.Vx
namespace Go.Vx
open Go.Proofs
abbrev nT:List (LpE Tryz.prog):=[]
abbrev tyS (e s:Nat):TyI:=⟨.sl e s,1,24,[.slice none 0 0],[.sl s []],[],none⟩
abbrev tyN (n:Nat):TyI:=⟨.struct,n,8*n,List.replicate n (.int .i64 0),List.replicate n (.int .i64 0),(List.range n).map fun i=>(i,3),some (List.replicate n (.int .i64))⟩
def gtt:TT:=[(3,⟨.int .i64,1,8,[.int .i64 0],[.int .i64 0],[],none⟩),(4,⟨.bool,1,1,[.bool false],[.bool false],[],none⟩),(5,⟨.int .u8,1,1,[.int .u8 0],[.int .u8 0],[],none⟩),(9,⟨.str,1,16,[.string ⟨#[]⟩],[.str []],[],none⟩),(22,tyS 3 1),(23,tyS 9 1),(24,tyS 57 5),(25,tyS 193 6),(27,⟨.struct,4,96,[.slice none 0 0,.slice none 0 0,.slice none 0 0,.slice none 0 0],[.sl 1 [],.sl 1 [],.sl 5 [],.sl 6 []],[(0,23),(1,23),(2,24),(3,25)],none⟩),(28,tyS 76 5),(29,tyS 152 2),(30,tyS 87 4),(31,tyS 84 7),(32,tyS 158 4),(33,tyS 90 5),(34,tyS 92 3),(36,⟨.struct,8,176,[.int .i64 0,.slice none 0 0,.slice none 0 0,.slice none 0 0,.slice none 0 0,.slice none 0 0,.slice none 0 0,.slice none 0 0],[.int .i64 0,.sl 5 [],.sl 2 [],.sl 4 [],.sl 7 [],.sl 4 [],.sl 5 [],.sl 3 []],[(0,3),(1,28),(2,29),(3,30),(4,31),(5,32),(6,33),(7,34)],none⟩),(39,tyS 104 3),(40,tyS 67 6),(42,⟨.struct,3,56,[.int .i64 0,.slice none 0 0,.slice none 0 0],[.int .i64 0,.sl 3 [],.sl 6 []],[(0,3),(1,39),(2,40)],none⟩),(43,⟨.int .i64,1,8,[.int .i64 0],[.int .i64 0],[],none⟩),(50,tyS 128 3),(53,tyS 59 5),(57,⟨.struct,5,48,[.string ⟨#[]⟩,.int .i64 0,.int .i64 0,.int .i64 0,.int .i64 0],[.str [],.int .i64 0,.int .i64 0,.int .i64 0,.int .i64 0],[(0,9),(1,3),(2,3),(3,3),(4,3)],some [.str,.int .i64,.int .i64,.int .i64,.int .i64]⟩),(59,tyN 5),(67,tyN 6),(76,⟨.struct,5,48,[.string ⟨#[]⟩,.int .i64 0,.int .i64 0,.int .i64 0,.int .i64 0],[.str [],.int .i64 0,.int .i64 0,.int .i64 0,.int .i64 0],[(0,9),(1,3),(2,3),(3,3),(4,3)],some [.str,.int .i64,.int .i64,.int .i64,.int .i64]⟩),(79,tyS 22 1),(81,⟨.struct,7,168,[.slice none 0 0,.slice none 0 0,.slice none 0 0,.slice none 0 0,.slice none 0 0,.slice none 0 0,.slice none 0 0],[.sl 1 [],.sl 1 [],.sl 5 [],.sl 6 [],.sl 1 [],.sl 1 [],.sl 1 []],[(0,27),(4,79),(5,79),(6,79)],none⟩),(84,tyN 7),(85,tyS 155 4),(87,⟨.struct,4,56,[.string ⟨#[]⟩,.int .i64 0,.int .i64 0,.slice none 0 0],[.str [],.int .i64 0,.int .i64 0,.sl 4 []],[(0,9),(1,3),(2,3),(3,85)],none⟩),(90,tyN 5),(92,tyN 3),(93,tyS 97 1),(97,tyS 170 3),(98,tyS 102 4),(102,tyN 4),(104,tyN 3),(107,tyS 112 2),(112,tyN 2),(117,tyS 4 1),(119,⟨.struct,12,160,[.int .i64 0,.slice none 0 0,.slice none 0 0,.slice none 0 0,.int .i64 0,.int .i64 0,.bool false,.bool false,.bool false,.int .i64 0,.slice none 0 0,.slice none 0 0],[.int .i64 0,.sl 3 [],.sl 6 [],.sl 1 [],.int .i64 0,.int .i64 0,.bool false,.bool false,.bool false,.int .i64 0,.sl 1 [],.sl 1 []],[(0,42),(3,117),(4,3),(5,3),(6,4),(7,4),(8,4),(9,3),(10,22),(11,22)],none⟩),(120,⟨.int .u64,1,8,[.int .u64 0],[.int .u64 0],[],none⟩),(121,tyS 125 2),(125,⟨.struct,2,32,[.slice none 0 0,.bool false],[.sl 1 [],.bool false],[(0,22),(1,4)],none⟩),(128,⟨.struct,3,40,[.int .i64 0,.int .i64 0,.slice none 0 0],[.int .i64 0,.int .i64 0,.sl 1 []],[(0,3),(1,3),(2,22)],none⟩),(133,⟨.struct,18,400,[.slice none 0 0,.slice none 0 0,.slice none 0 0,.slice none 0 0,.int .i64 0,.slice none 0 0,.slice none 0 0,.slice none 0 0,.slice none 0 0,.slice none 0 0,.slice none 0 0,.slice none 0 0,.int .i64 0,.slice none 0 0,.slice none 0 0,.slice none 0 0,.slice none 0 0,.slice none 0 0],[.sl 1 [],.sl 1 [],.sl 5 [],.sl 6 [],.int .i64 0,.sl 5 [],.sl 2 [],.sl 4 [],.sl 7 [],.sl 4 [],.sl 5 [],.sl 3 [],.int .i64 0,.sl 3 [],.sl 6 [],.sl 1 [],.sl 5 [],.sl 1 []],[(0,27),(4,36),(12,42),(15,22),(16,53),(17,117)],none⟩),(143,⟨.struct,2,32,[.slice none 0 0,.int .i64 0],[.sl 1 [],.int .i64 0],[(0,22),(1,3)],none⟩),(149,⟨.array 3 1 3,3,24,[.int .i64 0,.int .i64 0,.int .i64 0],[.int .i64 0,.int .i64 0,.int .i64 0],[(0,3),(1,3),(2,3)],none⟩),(150,tyS 160 2),(152,⟨.struct,2,32,[.slice none 0 0,.int .i64 0],[.sl 2 [],.int .i64 0],[(0,150),(1,3)],none⟩),(155,tyN 4),(156,⟨.array 4 1 4,4,4,[.bool false,.bool false,.bool false,.bool false],[.bool false,.bool false,.bool false,.bool false],[(0,4),(1,4),(2,4),(3,4)],none⟩),(158,tyN 4),(160,tyN 2),(170,tyN 3),(185,⟨.ptr,1,8,[.pointer none],[],[],none⟩),(188,⟨.struct,21,440,[.slice none 0 0,.slice none 0 0,.slice none 0 0,.slice none 0 0,.int .i64 0,.slice none 0 0,.slice none 0 0,.slice none 0 0,.slice none 0 0,.slice none 0 0,.slice none 0 0,.slice none 0 0,.int .i64 0,.slice none 0 0,.slice none 0 0,.slice none 0 0,.bool false,.slice none 0 0,.slice none 0 0,.int .i64 0,.slice none 0 0],[.sl 1 [],.sl 1 [],.sl 5 [],.sl 6 [],.int .i64 0,.sl 5 [],.sl 2 [],.sl 4 [],.sl 7 [],.sl 4 [],.sl 5 [],.sl 3 [],.int .i64 0,.sl 3 [],.sl 6 [],.sl 1 [],.bool false,.sl 1 [],.sl 1 [],.int .i64 0,.sl 5 []],[(0,27),(4,36),(12,42),(15,22),(16,4),(17,22),(18,22),(19,3),(20,53)],none⟩),(193,tyN 6),(207,⟨.struct,2,48,[.slice none 0 0,.slice none 0 0],[.sl 1 [],.sl 3 []],[(0,117),(1,97)],none⟩),(210,⟨.struct,4,32,[.int .i64 0,.int .i64 0,.int .i64 0,.int .i64 0],[.int .i64 0,.int .i64 0,.int .i64 0,.int .i64 0],[(0,160),(2,3),(3,3)],some [.int .i64,.int .i64,.int .i64,.int .i64]⟩),(232,⟨.ptr,1,8,[.pointer none],[],[],none⟩),(233,tyS 273 4),(235,⟨.struct,19,424,[.slice none 0 0,.slice none 0 0,.slice none 0 0,.slice none 0 0,.int .i64 0,.slice none 0 0,.slice none 0 0,.slice none 0 0,.slice none 0 0,.slice none 0 0,.slice none 0 0,.slice none 0 0,.slice none 0 0,.slice none 0 0,.slice none 0 0,.slice none 0 0,.int .i64 0,.slice none 0 0,.slice none 0 0],[.sl 1 [],.sl 1 [],.sl 5 [],.sl 6 [],.int .i64 0,.sl 5 [],.sl 2 [],.sl 4 [],.sl 7 [],.sl 4 [],.sl 5 [],.sl 3 [],.sl 1 [],.sl 1 [],.sl 1 [],.sl 4 [],.int .i64 0,.sl 3 [],.sl 6 []],[(0,27),(4,36),(12,22),(13,93),(14,22),(15,233),(16,42)],none⟩),(243,tyS 287 2),(248,tyS 210 4),(261,⟨.int .i64,1,8,[.int .i64 0],[.int .i64 0],[],none⟩),(268,⟨.int .u32,1,4,[.int .u32 0],[.int .u32 0],[],none⟩),(270,⟨.int .u64,1,8,[.int .u64 0],[.int .u64 0],[],none⟩),(273,tyN 4),(277,⟨.mpb,1,8,[.map none],[],[],none⟩),(282,tyN 2),(287,tyN 2),(301,⟨.int .u64,1,8,[.int .u64 0],[.int .u64 0],[],none⟩),(307,tyS 312 2),(312,tyN 2),(313,tyS 170 3),(323,tyN 2),(332,⟨.struct,2,32,[.slice none 0 0,.int .i64 0],[.sl 2 [],.int .i64 0],[(0,243),(1,3)],none⟩),(348,tyN 2),(359,tyS 307 1)]
theorem Qfs:TOk Tryz.prog gtt:=(show Qgu Tryz.prog [3,4,5,9,22,23,24,25,27,28,29,30,31,32,33,34,36,39,40,42,43,50,53,57,59,67,76,79,81,84,85,87,90,92,93,97,98,102,104,107,112,117,119,120,121,125,128,133,143,149,150,152,155,156,158,160,170,185,188,193,207,210,232,233,235,243,248,261,268,270,273,277,282,287,301,307,312,313,323,332,348,359]=gtt by kernel_rfl)▸Qdr _
def bT:Nat->List (Nat × TA)->TO:=btT gtt
def pT:Nat->Nat->List (Nat × Sp)->List Sp->List Sp:=ptT gtt
def Xa (l:List ((f:Nat) × EnP Tryz.prog f)) (cfg:List (Nat × Cfg)):VB Tryz.prog:=⟨⟨Q3K (QfE l),gtt,cfg⟩,Q9Y (Q7c l),Qfs,by kernel_rfl⟩
abbrev LZ9:=Nat->LpE Tryz.prog
abbrev EZ9:=EnP Tryz.prog
abbrev BZ9:=VB Tryz.prog
end Go.Vx
namespace Go.Vx
variable {R:Type} (n:Nat)
def HQ (n:Nat) (a b:Int) (K:Int->oP R):oP R:=K (wJ (wJ (2*a)+b))
def NU (n:Nat) (a0 a1:Int) (K:Int->Int->oP R):oP R:=Qjl R (A8 32) fun a=>K (IntKind.wrap .u32 (shR .u64 (IntKind.wrap .u64 (IntKind.wrap .u64 a0*IntKind.wrap .u64 a1)) 32)) (IntKind.wrap .u32 (IntKind.wrap .u64 (IntKind.wrap .u64 a0*IntKind.wrap .u64 a1)))
def TZ (n:Nat) (a0 a1:Int) (K:Int->Int->oP R):oP R:=Qjl R (A8 32) fun a=>Qjl R (A8 32) fun u2=>Qjl R (A8 32) fun u3=>Qjl R (A8 32) fun b=>Qjl R (A8 32) fun c=>K (IntKind.wrap .u64 (IntKind.wrap .u64 (IntKind.wrap .u64 (shR .u64 a0 32*shR .u64 a1 32)+shR .u64 (IntKind.wrap .u64 (IntKind.wrap .u64 (shR .u64 a0 32*Q6Z .u64 a1 4294967295)+shR .u64 (IntKind.wrap .u64 (Q6Z .u64 a0 4294967295*Q6Z .u64 a1 4294967295)) 32)) 32)+shR .u64 (IntKind.wrap .u64 (Q6Z .u64 (IntKind.wrap .u64 (IntKind.wrap .u64 (shR .u64 a0 32*Q6Z .u64 a1 4294967295)+shR .u64 (IntKind.wrap .u64 (Q6Z .u64 a0 4294967295*Q6Z .u64 a1 4294967295)) 32)) 4294967295+IntKind.wrap .u64 (Q6Z .u64 a0 4294967295*shR .u64 a1 32))) 32)) (IntKind.wrap .u64 (a0*a1))
def Tx (a0 a1:Int) (K:Int->Int->oP R):oP R:=bif false then Qjl R (NU n (IntKind.wrap .u32 a0) (IntKind.wrap .u32 a1) Tu2) fun a=>K (IntKind.wrap .u64 a.1) (IntKind.wrap .u64 a.2) else Qjl R (TZ n a0 a1 Tu2) fun c=>K c.1 c.2
end Go.Vx
set_option maxRecDepth 100000
namespace Go.Vx
open Go.Proofs
variable (n:Nat)
def Q67:EZ9 21:=mkW (Xa [] []).ok nT 21 Tryz.f21 [sL 1] [eP 5 2,sL 1,sI] [] 0 0 @AR n
def AF:EZ9 10:=mkD (Xa [] []).ok nT 10 Tryz.f10 0 @SF n
def Us:EZ9 23:=mkW (Xa [⟨10,AF n⟩] []).ok nT 23 Tryz.f23 [eP 1000000 2,sL 1,sI,sI] [sI] [] 0 2 @Q5 n
def Mc:EZ9 53:=mkD (Xa [] []).ok nT 53 Tryz.f53 0 @VM n
def Mg:EZ9 54:=mkW (Xa [⟨23,Us n⟩] []).ok nT 54 Tryz.f54 [eP 1000000 2,sL 1,sI,sT,sI] [eA [qT,qI,qI,qI,qI]] [] 0 32 @WN n
def NX:EZ9 55:=mkW (Xa [] []).ok nT 55 Tryz.f55 [eP 1000000 7,eR 1000001 9 1,eR 1000002 9 1,eR 1000003 57 5,eR 1000004 193 6,eR 1000005 22 1,eR 1000006 22 1,eR 1000007 22 1,eA [qT,qI,qI,qI,qI]] [sI] [] 123 246 @Zj n
def Kq:EZ9 56:=mkW (Xa [] []).ok nT 56 Tryz.f56 [eP 1000000 7,eR 1000001 9 1,eR 1000002 9 1,eR 1000003 57 5,eR 1000004 193 6,eR 1000005 22 1,eR 1000006 22 1,eR 1000007 22 1,sI,sI,sI,sI] [eT 0] [] 119 119 @Yg n
def Rk:EZ9 88:=mkW (Xa [⟨53,Mc n⟩] []).ok nT 88 Tryz.f88 [eP 1000000 7,eR 1000001 9 1,eR 1000002 9 1,eR 1000003 57 5,eR 1000004 193 6,eR 1000005 22 1,eR 1000006 22 1,eR 1000007 22 1] [sI] [] 125 250 @Zx n
def Kp:BZ9:=Xa [⟨88,Rk n⟩,⟨56,Kq n⟩] []
def Ns:LZ9:=mkU (Kp n).ok nT 4 Tryz.f57 [(0,.ptr 1000000 0),(1,tI),(2,.l 1),(3,.b),(8,tI),(16,tI),(17,tI)] [(98000,.arr 9 1),(98001,.arr 9 1),(98002,.arr 57 5),(98003,.arr 193 6),(98004,.arr 22 1),(98005,.arr 22 1),(98006,.arr 22 1),(1000000,.box [.arr 98000,.arr 98001,.arr 98002,.arr 98003,.arr 98004,.arr 98005,.arr 98006])] 39973 [xE 0 [(18,.b)]] @Qx n
def NN:EZ9 57:=mkW (Kp n).ok [Ns n n] 57 Tryz.f57 [eP 1000000 7,eR 1000001 9 1,eR 1000002 9 1,eR 1000003 57 5,eR 1000004 193 6,eR 1000005 22 1,eR 1000006 22 1,eR 1000007 22 1,sI,sL 1,sB] [eT 0] [] 117 117 @Vt n
def Ky:BZ9:=Xa [⟨23,Us n⟩,⟨53,Mc n⟩,⟨54,Mg n⟩,⟨55,NX n⟩,⟨56,Kq n⟩,⟨57,NN n⟩] [(3,⟨[],[],[],[(14,0,501400,9,1),(14,1,501401,9,1),(14,2,501402,57,5),(14,3,501403,193,6),(14,4,501404,22,1),(14,5,501405,22,1),(14,6,501406,22,1)],[]⟩),(8,⟨[],[],[(6,1006,3,1)],[],[]⟩),(19,⟨[],[],[(10,1010,3,1)],[],[]⟩)]
def Q6b:LZ9:=mkU (Ky n).ok nT 9 Tryz.f22 [(0,.ptr 1000000 0),(3,.ptr 14 0),(4,tI),(5,tI),(6,.arr 1006),(7,tI)] [(14,.box [.arr 32,.arr 501401,.arr 501402,.arr 501403,.arr 501404,.arr 501405,.arr 501406]),(32,.arr 9 1),(1006,.arr 3 1),(501401,.arr 9 1),(501402,.arr 57 5),(501403,.arr 193 6),(501404,.arr 22 1),(501405,.arr 22 1),(501406,.arr 22 1),(1000000,.box [.l 1,tI])] 1241670 [xE 2 [(40,.b)]] @G5 n
def Q5Z:LZ9:=mkU (Ky n).ok [Q6b n n] 4 Tryz.f22 [(0,.ptr 1000000 0),(3,.ptr 14 0),(4,tI),(5,tI)] [(14,.box [.arr 501400,.arr 501401,.arr 501402,.arr 501403,.arr 501404,.arr 501405,.arr 501406]),(501400,.arr 9 1),(501401,.arc 9 1),(501402,.arr 57 5),(501403,.arc 193 6),(501404,.arr 22 1),(501405,.arc 22 1),(501406,.arc 22 1),(1000000,.box [.l 1,tI])] 1942 [xE 0 [(20,.b)]] @UP n
def Q5T:LZ9:=mkU (Ky n).ok nT 20 Tryz.f22 [(0,.ptr 1000000 0),(3,.ptr 14 0),(4,tI),(9,tI),(10,.arr 1010),(11,tI)] [(14,.box [.arr 501400,.arr 501401,.arr 501402,.arr 501403,.arr 501404,.arr 501405,.arr 501406]),(1010,.arr 3 1),(501400,.arr 9 1),(501401,.arr 9 1),(501402,.arr 57 5),(501403,.arr 193 6),(501404,.arr 22 1),(501405,.arr 22 1),(501406,.arr 22 1),(1000000,.box [.l 1,tI])] 1241562 [xE 6 [(80,.b)]] @G3 n
def Q4U:LZ9:=mkU (Ky n).ok nT 24 Tryz.f22 [(0,.ptr 1000000 0),(3,.ptr 14 0),(4,tI),(9,tI),(10,.arr 1010),(12,tI)] [(14,.box [.arr 501400,.arr 501401,.arr 501402,.arr 501403,.arr 501404,.arr 501405,.arr 501406]),(1010,.arr 3 1),(501400,.arr 9 1),(501401,.arr 9 1),(501402,.arr 57 5),(501403,.arr 193 6),(501404,.arr 22 1),(501405,.arr 22 1),(501406,.arr 22 1),(1000000,.box [.l 1,tI])] 4419 [xE 8 [(98,.b)]] @ST n
def Q5h:LZ9:=mkU (Ky n).ok [Q5T n n,Q4U n n] 16 Tryz.f22 [(0,.ptr 1000000 0),(3,.ptr 14 0),(4,tI),(9,tI)] [(14,.box [.arr 501400,.arr 501401,.arr 501402,.arr 501403,.arr 501404,.arr 501405,.arr 501406]),(501400,.arr 9 1),(501401,.arr 9 1),(501402,.arr 57 5),(501403,.arr 193 6),(501404,.arr 22 1),(501405,.arr 22 1),(501406,.arc 22 1),(1000000,.box [.l 1,tI])] 51739 [xE 4 [(73,.b)]] @UD n
def Q7P:EZ9 22:=mkW (Ky n).ok [Q5Z n n,Q5h n n] 22 Tryz.f22 [eP 1000000 2,sL 1,sI] [eP 14 7,eR 501400 9 1,eR 501401 9 1,eR 501402 57 5,eR 501403 193 6,eR 501404 22 1,eR 501405 22 1,eR 501406 22 1] [] 0 128 @Q2C n
def Vc (n:Nat):BZ9:=Xa [] []
def SG:LZ9:=mkU (Vc n).ok nT 6 Tryz.f58 [(1,tI),(3,tI),(10,.ptr 10 0),(11,.l 1),(12,.arr 98004),(13,.ptr 13 0),(48,tI),(49,tI)] [(10,.box [.nil,.ci .i64 0]),(13,.box [.arr 45,.ci .i64 0]),(45,.arr 160 2),(98000,.arr 9 1),(98001,.arr 9 1),(98002,.arr 57 5),(98003,.arr 193 6),(98004,.arr 22 1),(98005,.arr 22 1),(98006,.arr 22 1),(1000000,.box [.arr 98000,.arr 98001,.arr 98002,.arr 98003,.arr 98004,.arr 98005,.arr 98006])] 684 [xE 0 [(50,.b)]] @ZG n
def Sc:LZ9:=mkU (Vc n).ok nT 14 Tryz.f58 [(1,tI),(2,tI),(10,.ptr 10 0),(11,.l 1),(12,.arr 98004),(13,.ptr 13 0),(15,tI)] [(10,.box [.nil,.ci .i64 0]),(13,.box [.arr 104,.ci .i64 0]),(104,.arr 160 2),(98000,.arr 9 1),(98001,.arr 9 1),(98002,.arr 57 5),(98003,.arr 193 6),(98004,.arr 22 1),(98005,.arr 22 1),(98006,.arr 22 1),(1000000,.box [.arr 98000,.arr 98001,.arr 98002,.arr 98003,.arr 98004,.arr 98005,.arr 98006])] 225 [xE 2 [(110,.b)]] @ZO n
def RO:EZ9 58:=mkW (Vc n).ok [SG n n,Sc n n] 58 Tryz.f58 [eP 1000000 7,eR 1000001 9 1,eR 1000002 9 1,eR 1000003 57 5,eR 1000004 193 6,eR 1000005 22 1,eR 1000006 22 1,eR 1000007 22 1,sI,sI,sI,sB] [eO 2,eR 96001 160 2,sI] [] 79 508 @YB n
def VA:BZ9:=Xa [⟨53,Mc n⟩,⟨23,Us n⟩,⟨58,RO n⟩] [(7,⟨[],[],[],[(10,3,1103,155,4)],[]⟩)]
def Rb:LZ9:=mkU (VA n).ok nT 3 Tryz.f24 [(0,.ptr 1000000 0),(1,.ptr 1000008 0),(2,.ptr 1000009 0),(3,.b),(4,tI),(10,.ptr 10 0),(11,.ac 11 0 0),(25,tI)] [(10,.box [.t,.ci .i64 0,tI,.nil]),(11,.arr 149 1),(98000,.arr 9 1),(98001,.arr 9 1),(98002,.arr 57 5),(98003,.arr 193 6),(98004,.arr 22 1),(98005,.arr 22 1),(98006,.arr 22 1),(98361,.arr 76 5),(98362,.arr 152 2),(98363,.arr 87 4),(98364,.arr 84 7),(98365,.arr 158 4),(98366,.arr 90 5),(98367,.arr 92 3),(1000000,.box [.arr 98000,.arr 98001,.arr 98002,.arr 98003,.arr 98004,.arr 98005,.arr 98006]),(1000008,.box [.l 1,tI]),(1000009,.box [tI,.arr 98361,.arr 98362,.arr 98363,.arr 98364,.arr 98365,.arr 98366,.arr 98367])] 24407491311 [xE 0 [(26,.b)]] @Wh n
def RL:LZ9:=mkU (VA n).ok nT 8 Tryz.f24 [(0,.ptr 1000000 0),(1,.ptr 1000008 0),(2,.ptr 1000009 0),(3,.b),(4,tI),(10,.ptr 10 0),(11,.ac 11 0 0),(13,tI)] [(10,.box [.t,.ci .i64 0,tI,.arr 1103]),(11,.arr 149 1),(1103,.arr 155 4),(98000,.arr 9 1),(98001,.arr 9 1),(98002,.arr 57 5),(98003,.arr 193 6),(98004,.arr 22 1),(98005,.arr 22 1),(98006,.arr 22 1),(98361,.arr 76 5),(98362,.arr 152 2),(98363,.arr 87 4),(98364,.arr 84 7),(98365,.arr 158 4),(98366,.arr 90 5),(98367,.arr 92 3),(1000000,.box [.arr 98000,.arr 98001,.arr 98002,.arr 98003,.arr 98004,.arr 98005,.arr 98006]),(1000008,.box [.l 1,tI]),(1000009,.box [tI,.arr 98361,.arr 98362,.arr 98363,.arr 98364,.arr 98365,.arr 98366,.arr 98367])] 73251880546 [xE 2 [(35,.b)]] @QA n
def No:EZ9 24:=mkW (VA n).ok [Rb n n,RL n n] 24 Tryz.f24 [eP 1000000 7,eR 1000001 9 1,eR 1000002 9 1,eR 1000003 57 5,eR 1000004 193 6,eR 1000005 22 1,eR 1000006 22 1,eR 1000007 22 1,eP 1000008 2,sL 1,sI,eP 1000009 8,sI,eR 1000010 76 5,eR 1000011 152 2,eR 1000012 87 4,eR 1000013 84 7,eR 1000014 158 4,eR 1000015 90 5,eR 1000016 92 3,sB,sI] [eT 0] [] 124495 124671 @UZ n
def Ar:EZ9 26:=mkD (Xa [] []).ok nT 26 Tryz.f26 0 @M7 n
def C7:EZ9 27:=mkD (Xa [] []).ok nT 27 Tryz.f27 0 @Sd n
def HP:BZ9:=Xa [⟨23,Us n⟩,⟨26,Ar n⟩,⟨27,C7 n⟩] []
def CQ:LZ9:=mkU (HP n).ok nT 5 Tryz.f25 [(0,.ptr 1000000 0),(1,.ptr 1000001 0),(4,.ac 4 0 0),(5,.ac 5 0 0),(6,tI),(13,tI),(14,tI),(21,tI),(22,tI)] [(4,.arr 156 1),(5,.arr 156 1),(98041,.arr 76 5),(98042,.arr 152 2),(98043,.arr 87 4),(98044,.arr 84 7),(98045,.arr 158 4),(98046,.arr 90 5),(98047,.arr 92 3),(1000000,.box [.l 1,tI]),(1000001,.box [tI,.arr 98041,.arr 98042,.arr 98043,.arr 98044,.arr 98045,.arr 98046,.arr 98047])] 79097176 [xE 2 [(23,.b)]] @Yt n
def CS:LZ9:=mkU (HP n).ok [CQ n n] 2 Tryz.f25 [(0,.ptr 1000000 0),(1,.ptr 1000001 0),(4,.ac 4 0 0),(5,.ac 5 0 0),(13,tI),(14,tI)] [(4,.arr 156 1),(5,.arr 156 1),(98041,.arr 76 5),(98042,.arr 152 2),(98043,.arr 87 4),(98044,.arr 84 7),(98045,.arr 158 4),(98046,.arr 90 5),(98047,.arr 92 3),(1000000,.box [.l 1,tI]),(1000001,.box [tI,.arr 98041,.arr 98042,.arr 98043,.arr 98044,.arr 98045,.arr 98046,.arr 98047])] 2929525 [xE 0 [(15,.b)]] @Ue n
def BA:EZ9 25:=mkW (HP n).ok [CS n n] 25 Tryz.f25 [eP 1000000 2,sL 1,sI,eP 1000001 8,sI,eR 1000002 76 5,eR 1000003 152 2,eR 1000004 87 4,eR 1000005 84 7,eR 1000006 158 4,eR 1000007 90 5,eR 1000008 92 3] [eT 0] [] 0 893 @RK n
def Hl:BZ9:=Xa [⟨21,Q67 n⟩,⟨22,Q7P n⟩,⟨23,Us n⟩,⟨24,No n⟩,⟨25,BA n⟩,⟨26,Ar n⟩,⟨27,C7 n⟩] [(4,⟨[],[],[],[(6,2,500602,152,2),(6,3,500603,87,4),(6,4,500604,84,7),(6,5,500605,158,4),(6,6,500606,90,5),(6,7,500607,92,3)],[]⟩)]
def Q3F:LZ9:=mkU (Hl n).ok nT 5 Tryz.f6 [(2,.ptr 2 0),(3,.ptr 3 0),(4,.ptr 50013 0),(5,.ptr 50015 0),(6,.ptr 6 0),(7,tI)] [(2,.box [.nil,.nil,.nil,.nil]),(3,.box [.ci .i64 0,.nil,.nil,.nil,.nil,.nil,.nil,.nil]),(6,.box [tI,.arr 37,.arr 500602,.arr 500603,.arr 500604,.arr 500605,.arr 500606,.arr 500607]),(37,.arr 76 5),(50013,.box [.l 1,tI]),(50015,.box [.arr 100015,.arr 150015,.arr 200015,.arr 250015,.arr 300015,.arr 350015,.arr 400015]),(100015,.arr 9 1),(150015,.arr 9 1),(200015,.arr 57 5),(250015,.arr 193 6),(300015,.arr 22 1),(350015,.arr 22 1),(400015,.arr 22 1),(500602,.arr 152 2),(500603,.arr 87 4),(500604,.arc 84 7),(500605,.arc 158 4),(500606,.arc 90 5),(500607,.arc 92 3)] 4330451 [xE 0 [(43,.b)]] @Gf n
def Q3f:LZ9:=mkU (Hl n).ok nT 10 Tryz.f6 [(2,.ptr 2 0),(3,.ptr 3 0),(4,.ptr 50013 0),(5,.ptr 50015 0),(6,.ptr 6 0),(8,tI)] [(2,.box [.nil,.nil,.nil,.nil]),(3,.box [.ci .i64 0,.nil,.nil,.nil,.nil,.nil,.nil,.nil]),(6,.box [tI,.arr 50061,.arr 100061,.arr 150061,.arr 200061,.arr 250061,.arr 300061,.arr 350061]),(50013,.box [.l 1,tI]),(50015,.box [.arr 100015,.arr 150015,.arr 200015,.arr 250015,.arr 300015,.arr 350015,.arr 400015]),(50061,.arr 76 5),(100015,.arr 9 1),(100061,.arr 152 2),(150015,.arr 9 1),(150061,.arr 87 4),(200015,.arr 57 5),(200061,.arr 84 7),(250015,.arr 193 6),(250061,.arr 158 4),(300015,.arr 22 1),(300061,.arc 90 5),(350015,.arr 22 1),(350061,.arc 92 3),(400015,.arr 22 1)] 676661 [xE 2 [(71,.b)]] @Ja n
def Q45:LZ9:=mkU (Hl n).ok nT 22 Tryz.f6 [(2,.ptr 2 0),(3,.ptr 3 0),(4,.ptr 50013 0),(5,.ptr 50015 0),(6,.ptr 6 0),(10,tI)] [(2,.box [.nil,.nil,.nil,.nil]),(3,.box [tI,.nil,.nil,.nil,.nil,.nil,.nil,.nil]),(6,.box [tI,.arr 50061,.arr 100061,.arr 150061,.arr 200061,.arr 250061,.arr 175,.arr 350061]),(175,.arr 90 5),(50013,.box [.l 1,tI]),(50015,.box [.arr 100015,.arr 150015,.arr 200015,.arr 250015,.arr 300015,.arr 350015,.arr 400015]),(50061,.arr 76 5),(100015,.arr 9 1),(100061,.arr 152 2),(150015,.arr 9 1),(150061,.arr 87 4),(200015,.arr 57 5),(200061,.arr 84 7),(250015,.arr 193 6),(250061,.arr 158 4),(300015,.arr 22 1),(350015,.arr 22 1),(350061,.arr 92 3),(400015,.arr 22 1)] 258283082 [xE 4 [(180,.b)]] @Vl n
def Q4D:LZ9:=mkU (Hl n).ok nT 22 Tryz.f6 [(2,.ptr 2 0),(3,.ptr 3 0),(4,.ptr 50013 0),(5,.ptr 50015 0),(6,.ptr 6 0),(10,tI)] [(2,.box [.nil,.nil,.nil,.nil]),(3,.box [tI,.nil,.nil,.nil,.nil,.nil,.nil,.nil]),(6,.box [tI,.arr 50061,.arr 100061,.arr 150061,.arr 200061,.arr 250061,.arr 300061,.arr 350061]),(50013,.box [.l 1,tI]),(50015,.box [.arr 100015,.arr 150015,.arr 200015,.arr 250015,.arr 300015,.arr 350015,.arr 400015]),(50061,.arr 76 5),(100015,.arr 9 1),(100061,.arr 152 2),(150015,.arr 9 1),(150061,.arr 87 4),(200015,.arr 57 5),(200061,.arr 84 7),(250015,.arr 193 6),(250061,.arr 158 4),(300015,.arr 22 1),(300061,.arr 90 5),(350015,.arr 22 1),(350061,.arr 92 3),(400015,.arr 22 1)] 258281246 [.f (.exit 4) [(2,.ptr 2 0),(3,.ptr 3 0),(4,.ptr 50013 0),(5,.ptr 50015 0),(6,.ptr 6 0),(10,tI),(180,.b)] [(2,.box [.nil,.nil,.nil,.nil]),(3,.box [tI,.nil,.nil,.nil,.nil,.nil,.nil,.nil]),(6,.box [tI,.arr 50061,.arr 100061,.arr 150061,.arr 200061,.arr 250061,.arr 300061,.arr 350061]),(50013,.box [.l 1,tI]),(50015,.box [.arr 100015,.arr 150015,.arr 200015,.arr 250015,.arr 300015,.arr 350015,.arr 400015]),(50061,.arr 76 5),(100015,.arr 9 1),(100061,.arr 152 2),(150015,.arr 9 1),(150061,.arr 87 4),(200015,.arr 57 5),(200061,.arr 84 7),(250015,.arr 193 6),(250061,.arr 158 4),(300015,.arr 22 1),(350015,.arr 22 1),(350061,.arr 92 3),(400015,.arr 22 1),(300061,.arr 90 5)] [0,0,2,3,4,0,6,7,8,9,10,11,12,13,14,15,17,0,19,16]] @Hj n
def Q4T:EZ9 6:=mkD (Hl n).ok [Q3F n n,Q3f n n,orL (Q45 n n) (Q4D n n)] 6 Tryz.f6 0 @Sw n
def Q24:EZ9 208:=mkD (Xa [] []).ok nT 208 Tryz.f208 0 @LB n
def Q4z:EZ9 209:=mkD (Xa [] []).ok nT 209 Tryz.f209 0 @Q1d n
def DY:BZ9:=Xa [⟨208,Q24 n⟩,⟨209,Q4z n⟩] []
def Q4o:LZ9:=mkU (DY n).ok nT 4 Tryz.f151 [(0,.t),(3,tI)] [] 7 [.f .ret [(2,.cb false)] [] [],xE 0 [(21,.b)]] @NM n
def LN:EZ9 151:=mkD (DY n).ok [Q4o n n] 151 Tryz.f151 0 @M1 n
def Em:BZ9:=Xa [⟨151,LN n⟩] []
def Q1R:LZ9:=mkU (Em n).ok nT 4 Tryz.f147 [(0,.l 1),(1,tI),(5,tI)] [] 22 [.f .ret [(4,.ci .i64 5)] [] [],xE 0 [(14,.b)]] @Rc n
def Q33:EZ9 147:=mkD (Em n).ok [Q1R n n] 147 Tryz.f147 0 @Mn n
def T2 (n:Nat):BZ9:=Xa [] [(2,⟨[],[],[(3,1003,9,1)],[],[]⟩)]
def MU:LZ9:=mkU (T2 n).ok nT 3 Tryz.f148 [(1,.ptr 1 0),(3,.arr 1003),(4,tI)] [(1,bT 27 []),(1003,.arr 9 1)] 515 [xE 0 [(9,.b)]] @YS n
def Lk:EZ9 148:=mkD (T2 n).ok [MU n n] 148 Tryz.f148 0 @KW n
def Q3y:EZ9 149:=mkD (Xa [] []).ok nT 149 Tryz.f149 0 @Kx n
def Q15:EZ9 206:=mkD (Xa [] []).ok nT 206 Tryz.f206 0 @B1 n
def DV:BZ9:=Xa [⟨206,Q15 n⟩] []
def Q4b:LZ9:=mkU (DV n).ok nT 4 Tryz.f207 [(1,tI),(3,.ptr 3 0),(5,.ptr 5 0),(7,.ptr 7 0),(8,tI),(9,.ptr 9 0),(10,tI)] [(3,bT 27 []),(5,.box [tI,tI]),(7,.box [.x,.x,.x,.x,.x,.x]),(9,.box [.x,.x,.x,.x,.x,.x])] 10446013798 [xE 0 [(19,.b)]] @Pw n
def Q5p:EZ9 207:=mkD (DV n).ok [Q4b n n] 207 Tryz.f207 0 @BD n
def Sj:BZ9:=Xa [⟨149,Q3y n⟩,⟨206,Q15 n⟩,⟨207,Q5p n⟩] []
def EH:LZ9:=mkU (Sj n).ok nT 9 Tryz.f150 [(1,tI),(2,.ptr 2 0),(7,.ptr 7 0),(8,.ptr 8 0),(9,tI)] [(2,bT 27 []),(7,.box [tI,tI]),(8,.box [tI,tI])] 29410 [.f .ret [(4,.ci .i64 5)] [] [],xE 0 [(85,.b)]] @KU n
def Cd:EZ9 150:=mkD (Sj n).ok [EH n n] 150 Tryz.f150 0 @JS n
def GI:BZ9:=Xa [⟨147,Q33 n⟩,⟨148,Lk n⟩,⟨149,Q3y n⟩,⟨150,Cd n⟩] []
def Q2t:LZ9:=mkU (GI n).ok nT 6 Tryz.f89 [(1,.ptr 1 0),(3,tI)] [(1,bT 27 [])] 5 [.f .ret [(2,tI)] [] [0],xE 0 [(43,.b)]] @R8 n
def Q2c:LZ9:=mkU (GI n).ok nT 12 Tryz.f89 [(1,.ptr 1 0),(5,tI)] [(1,bT 27 [])] 11 [.f .ret [(2,tI)] [] [0],xE 2 [(57,.b)]] @Rg n
def Q28:LZ9:=mkU (GI n).ok nT 19 Tryz.f89 [(1,.ptr 1 0),(7,.l 1),(8,tI)] [(1,bT 27 [])] 97 [.f .ret [(2,tI)] [] [0],xE 4 [(73,.b)]] @Jo n
def Q2M:LZ9:=mkU (GI n).ok nT 28 Tryz.f89 [(1,.ptr 1 0),(11,tI)] [(1,bT 27 [])] 122 [.f .ret [(2,tI)] [] [0],xE 6 [(117,.b)]] @Jf n
def DR:EZ9 89:=mkD (GI n).ok [Q2t n n,Q2c n n,Q28 n n,Q2M n n] 89 Tryz.f89 0 @Gb n
def DS (n:Nat):BZ9:=Xa [] []
def Q4j:LZ9:=mkU (DS n).ok nT 4 Tryz.f90 [(1,.ptr 1 0),(3,tI)] [(1,bT 36 [])] 83 [.f .ret [(2,.cb true)] [] [],xE 0 [(48,.b)]] @Gi n
def Q5z:EZ9 90:=mkD (DS n).ok [Q4j n n] 90 Tryz.f90 0 @Fb n
def TM:EZ9 63:=mkD (Xa [] []).ok nT 63 Tryz.f63 0 @VT n
def Ew:EZ9 98:=mkD (Xa [] []).ok nT 98 Tryz.f98 0 @HM n
def KP:EZ9 152:=mkD (Xa [⟨98,Ew n⟩] []).ok nT 152 Tryz.f152 0 @Y4 n
def PB:BZ9:=Xa [⟨151,LN n⟩,⟨152,KP n⟩] []
def FD:LZ9:=mkU (PB n).ok nT 4 Tryz.f91 [(1,tI),(2,.ptr 2 0),(5,tI)] [(2,bT 36 [])] 34 [.f .ret [(4,.ci .i64 5)] [] [],xE 0 [(16,.b)]] @K7 n
def EI:EZ9 91:=mkD (PB n).ok [FD n n] 91 Tryz.f91 0 @GG n
def Lc (n:Nat):BZ9:=Xa [] [(5,⟨[],[],[(6,1006,210,4)],[],[]⟩)]
def Q09:LZ9:=mkU (Lc n).ok nT 6 Tryz.f156 [(2,.ptr 2 0),(5,.ptr 5 0),(6,.arr 1006),(7,tI)] [(2,bT 27 []),(5,.box [tI,tI]),(1006,.arr 210 4)] 5429 [xE 0 [(22,.b)]] @Zn n
def Q2r:EZ9 156:=mkD (Lc n).ok [Q09 n n] 156 Tryz.f156 0 @BY n
def Lb:BZ9:=Xa [⟨156,Q2r n⟩] []
def Q0c:LZ9:=mkU (Lb n).ok nT 3 Tryz.f103 [(5,.ptr 5 0),(6,.ptr 6 0),(8,.l 4),(9,tI)] [(5,.box [tI,tI]),(6,.box [.ci .i64 0,.ci .i64 0,.ci .i64 0,.ci .i64 0])] 43 [.f .ret [(6,.ptr 6 0),(7,.cb true)] [(6,.box [.x,.x,.x,.x])] [0,0,0,0],xE 0 [(16,.b)]] @PR n
def FI:EZ9 103:=mkF (Lb n).ok [Q0c n n] 103 Tryz.f103 [eA [qL 1,qL 1,qL 5,qL 6],eA [qI,qI],eA [qI,qI]] [eT 2,eA [qX,qX,qX,qX],sB] 0 @G0 n
def Ut:BZ9:=Xa [⟨89,DR n⟩,⟨98,Ew n⟩,⟨103,FI n⟩] []
def F1:LZ9:=mkU (Ut n).ok nT 8 Tryz.f92 [(2,.ptr 2 0),(3,.ptr 3 0),(5,tI)] [(2,bT 27 []),(3,.box [.l 2,tI])] 272 [.f .ret [(4,.ci .i64 4)] [] [],xE 0 [(39,.b)]] @YN n
def LZ:LZ9:=mkU (Ut n).ok nT 16 Tryz.f92 [(2,.ptr 2 0),(3,.ptr 3 0),(6,tI),(7,tI)] [(2,bT 27 []),(3,.box [.l 2,tI])] 736 [.f .ret [(4,.ci .i64 5)] [] [],xE 4 [(73,.b)]] @K4 n
def Fk:LZ9:=mkU (Ut n).ok [LZ n n] 13 Tryz.f92 [(2,.ptr 2 0),(3,.ptr 3 0),(6,tI)] [(2,bT 27 []),(3,.box [.l 2,tI])] 245 [.f .ret [(4,.ci .i64 5)] [] [],xE 2 [(68,.b)]] @J1 n
def FF:LZ9:=mkU (Ut n).ok nT 21 Tryz.f92 [(2,.ptr 2 0),(3,.ptr 3 0),(8,tI)] [(2,bT 27 []),(3,.box [.l 2,tI])] 365 [.f .ret [(4,.ci .i64 11)] [] [],xE 6 [(93,.b)]] @YI n
def S1:EZ9 92:=mkD (Ut n).ok [F1 n n,Fk n n,FF n n] 92 Tryz.f92 0 @J9 n
def R5:EZ9 153:=mkD (Xa [] []).ok nT 153 Tryz.f153 0 @Kv n
def Rj:BZ9:=Xa [⟨92,S1 n⟩] [(5,⟨[],[],[(8,1008,287,2)],[],[]⟩)]
def Q29:LZ9:=mkU (Rj n).ok nT 13 Tryz.f154 [(2,.ptr 2 0),(3,.ptr 3 0),(8,.arr 1008),(9,tI),(10,.ptr 10 0),(11,tI),(12,tI)] [(2,bT 27 []),(3,.box [.l 2,tI]),(10,.box [.x,.x,.x,.x,.x]),(1008,.arr 287 2)] 9802155 [xE 2 [(53,.b)]] @Up n
def Q26:LZ9:=mkU (Rj n).ok [Q29 n n] 6 Tryz.f154 [(2,.ptr 2 0),(3,.ptr 3 0),(8,.arr 1008),(9,tI)] [(2,bT 27 []),(3,.box [.l 2,tI]),(1008,.arr 287 2)] 5375 [xE 0 [(26,.b)]] @Uy n
def DL:EZ9 154:=mkD (Rj n).ok [Q26 n n] 154 Tryz.f154 0 @Si n
def DG:BZ9:=Xa [⟨154,DL n⟩,⟨152,KP n⟩] []
def Q3D:LZ9:=mkU (DG n).ok nT 7 Tryz.f97 [(3,.ptr 3 0),(4,.ptr 4 0),(5,.ptr 5 0),(10,tI)] [(3,bT 27 []),(4,.box [.l 2,tI]),(5,bT 76 [])] 7562 [.f .ret [(6,.ci .i64 12)] [] [],xE 0 [(31,.b)]] @Gm n
def Lw:EZ9 97:=mkD (DG n).ok [Q3D n n] 97 Tryz.f97 0 @SH n
def Pz:EZ9 127:=mkD (Xa [] []).ok nT 127 Tryz.f127 0 @Gj n
def Rw:EZ9 130:=mkD (Xa [] []).ok nT 130 Tryz.f130 0 @V8 n
def Ku:BZ9:=Xa [⟨151,LN n⟩,⟨63,TM n⟩,⟨153,R5 n⟩,⟨97,Lw n⟩,⟨127,Pz n⟩,⟨130,Rw n⟩] []
def Db:LZ9:=mkU (Ku n).ok nT 5 Tryz.f93 [(2,tI),(3,.ptr 3 0),(4,.ptr 4 0),(7,.ptr 7 0),(8,tI)] [(3,bT 27 []),(4,bT 36 []),(7,.box [.x,.x,.x,.x])] 4802659 [.f .ret [(6,.ci .i64 5)] [] [],xE 0 [(24,.b)]] @WI n
def Dw:LZ9:=mkU (Ku n).ok nT 14 Tryz.f93 [(3,.ptr 3 0),(4,.ptr 4 0),(7,.ptr 7 0),(9,tI)] [(3,bT 27 []),(4,bT 36 []),(7,.box [.x,.x,.x,.x])] 48626852 [.f .ret [(6,tI)] [] [0],xE 2 [(58,.b)]] @Wy n
def CU:EZ9 93:=mkD (Ku n).ok [Db n n,Dw n n] 93 Tryz.f93 0 @KY n
def AB:EZ9 96:=mkD (Xa [⟨63,TM n⟩] []).ok nT 96 Tryz.f96 0 @JJ n
def Ha:EZ9 62:=mkF (Xa [] []).ok nT 62 Tryz.f62 [eA [qI,qL 5,qL 2,qL 4,qL 7,qL 4,qL 5,qL 3],sI,sI] [eA [qX,qX]] 0 @XJ n
def E2:EZ9 94:=mkD (Xa [⟨96,AB n⟩,⟨153,R5 n⟩,⟨63,TM n⟩,⟨62,Ha n⟩,⟨130,Rw n⟩,⟨127,Pz n⟩] []).ok nT 94 Tryz.f94 0 @HR n
def S7:BZ9:=Xa [⟨63,TM n⟩,⟨153,R5 n⟩,⟨62,Ha n⟩,⟨130,Rw n⟩,⟨127,Pz n⟩] []
def D1:LZ9:=mkU (S7 n).ok nT 5 Tryz.f95 [(1,tI),(2,.ptr 2 0),(5,.ptr 5 0),(6,tI)] [(2,bT 36 []),(5,.box [.x,.x,.x,.x])] 238390 [.f .ret [(4,.ci .i64 5)] [] [],xE 0 [(43,.b)]] @WJ n
def C9:EZ9 95:=mkD (S7 n).ok [D1 n n] 95 Tryz.f95 0 @H6 n
def YA:BZ9:=Xa [⟨89,DR n⟩,⟨90,Q5z n⟩,⟨63,TM n⟩,⟨91,EI n⟩,⟨92,S1 n⟩,⟨93,CU n⟩,⟨94,E2 n⟩,⟨95,C9 n⟩,⟨96,AB n⟩] []
def Do:LZ9:=mkU (YA n).ok nT 8 Tryz.f59 [(2,.ptr 2 0),(3,.ptr 3 0),(5,tI)] [(2,bT 27 []),(3,bT 36 [])] 797042 [.f .ret [(4,tI)] [] [0],xE 0 [(32,.b)]] @WE n
def EF:LZ9:=mkU (YA n).ok nT 14 Tryz.f59 [(2,.ptr 2 0),(3,.ptr 3 0),(7,tI)] [(2,bT 27 []),(3,bT 36 [])] 2309 [.f .ret [(4,tI)] [] [0],xE 2 [(45,.b)]] @Wx n
def EJ:LZ9:=mkU (YA n).ok nT 20 Tryz.f59 [(2,.ptr 2 0),(3,.ptr 3 0),(9,tI)] [(2,bT 27 []),(3,bT 36 [])] 797162 [.f .ret [(4,tI)] [] [0],xE 4 [(62,.b)]] @WB n
def DD:LZ9:=mkU (YA n).ok nT 26 Tryz.f59 [(2,.ptr 2 0),(3,.ptr 3 0),(11,tI)] [(2,bT 27 []),(3,bT 36 [])] 797162 [.f .ret [(4,tI)] [] [0],xE 6 [(76,.b)]] @Zh n
def ER:LZ9:=mkU (YA n).ok nT 32 Tryz.f59 [(2,.ptr 2 0),(3,.ptr 3 0),(13,tI)] [(2,bT 27 []),(3,bT 36 [])] 797042 [.f .ret [(4,tI)] [] [0],xE 8 [(94,.b)]] @Zb n
def EU:LZ9:=mkU (YA n).ok nT 38 Tryz.f59 [(2,.ptr 2 0),(3,.ptr 3 0),(15,tI)] [(2,bT 27 []),(3,bT 36 [])] 797042 [.f .ret [(4,.ci .i64 4)] [] [],xE 10 [(107,.b)]] @Z7 n
def EW:LZ9:=mkU (YA n).ok nT 44 Tryz.f59 [(2,.ptr 2 0),(3,.ptr 3 0),(17,tI)] [(2,bT 27 []),(3,bT 36 [])] 531446 [.f .ret [(4,.ci .i64 4)] [] [],xE 12 [(158,.b)]] @Zd n
def CP:EZ9 59:=mkD (YA n).ok [Do n n,EF n n,EJ n n,DD n n,ER n n,EU n n,EW n n] 59 Tryz.f59 0 @UC n
def FG (n:Nat):BZ9:=Xa [] []
def Q1I:LZ9:=mkU (FG n).ok nT 2 Tryz.f60 [(1,tI),(2,.ptr 2 0),(4,.ptr 4 0),(6,tI)] [(2,bT 36 []),(4,.box [.ci .i64 0,.ci .i64 0,.ci .i64 0,.ci .i64 0])] 2194 [.f .ret [(4,.ptr 4 0),(5,.cb true)] [(4,.box [.x,.x,.x,.x])] [0,0,0,0],xE 0 [(11,.b)]] @Jh n
def Pr:EZ9 60:=mkF (FG n).ok [Q1I n n] 60 Tryz.f60 [eA [qI,qL 5,qL 2,qL 4,qL 7,qL 4,qL 5,qL 3],sI] [eT 2,eA [qX,qX,qX,qX],sB] 223 @KL n
def AU:BZ9:=Xa [⟨152,KP n⟩,⟨98,Ew n⟩] []
def Q4Y:LZ9:=mkU (AU n).ok nT 6 Tryz.f245 [(0,.l 2),(1,tI),(7,tI)] [] 19 [.f .ret [(6,.ci .i64 4)] [] [],xE 0 [(17,.b)]] @Kw n
def Q7S:EZ9 245:=mkD (AU n).ok [Q4Y n n] 245 Tryz.f245 0 @B0 n
def Ez (n:Nat):BZ9:=Xa [] []
def Q1y:LZ9:=mkU (Ez n).ok nT 3 Tryz.f246 [(0,.l 2),(1,tI),(7,tI),(8,tI)] [] 76 [xE 0 [(18,.b)]] @Je n
def Q3k:EZ9 246:=mkD (Ez n).ok [Q1y n n] 246 Tryz.f246 0 @S6 n
def Q3t:EZ9 247:=mkD (Xa [] []).ok nT 247 Tryz.f247 0 @MJ n
def Q3U:EZ9 248:=mkD (Xa [] []).ok nT 248 Tryz.f248 0 @MF n
def DN (n:Nat):BZ9:=Xa [] []
def Q4I:LZ9:=mkU (DN n).ok nT 4 Tryz.f249 [(0,tI),(3,tI),(4,tI)] [] 25 [xE 0 [(10,.b)]] @J5 n
def Q4V:EZ9 249:=mkD (DN n).ok [Q4I n n] 249 Tryz.f249 0 @Mh n
def JD:BZ9:=Xa [⟨245,Q7S n⟩,⟨246,Q3k n⟩,⟨247,Q3t n⟩,⟨248,Q3U n⟩,⟨249,Q4V n⟩] []
def Q0C:LZ9:=mkU (JD n).ok nT 7 Tryz.f210 [(0,.l 2),(1,tI),(5,.ptr 5 0),(9,tI),(10,.arr 29),(11,tI)] [(5,bT 76 []),(29,.arr 3 1)] 49234 [xE 0 [(32,.b)]] @UO n
def Q08:LZ9:=mkU (JD n).ok nT 12 Tryz.f210 [(0,.l 2),(1,tI),(5,.ptr 5 0),(9,tI),(10,.arr 29),(13,tI)] [(5,bT 76 []),(29,.arr 3 1)] 49234 [xE 2 [(57,.b)]] @UU n
def Q0m:LZ9:=mkU (JD n).ok nT 16 Tryz.f210 [(0,.l 2),(1,tI),(5,.ptr 5 0),(9,tI),(10,.arr 29),(14,tI)] [(5,bT 76 []),(29,.arr 3 1)] 49225 [xE 4 [(86,.b)]] @UX n
def Q0e:LZ9:=mkU (JD n).ok nT 20 Tryz.f210 [(9,tI),(10,.arr 29),(15,tI)] [(29,.arr 3 1)] 25 [xE 6 [(116,.b)]] @VL n
def Q2o:EZ9 210:=mkD (JD n).ok [Q0C n n,Q08 n n,Q0m n n,Q0e n n] 210 Tryz.f210 0 @Rn n
def Lv:EZ9 100:=mkD (Xa [] []).ok nT 100 Tryz.f100 0 @JC n
def Eo:BZ9:=Xa [⟨210,Q2o n⟩,⟨100,Lv n⟩] []
def Q1L:LZ9:=mkU (Eo n).ok nT 6 Tryz.f155 [(8,.l 1),(10,.arr 24),(11,tI)] [(24,.arr 3 1)] 25 [xE 0 [(28,.b)]] @Jk n
def Q47:EZ9 155:=mkD (Eo n).ok [Q1L n n] 155 Tryz.f155 0 @PY n
def Md:BZ9:=Xa [⟨97,Lw n⟩,⟨154,DL n⟩,⟨155,Q47 n⟩,⟨100,Lv n⟩] [(7,⟨[],[],[(6,1006,3,1),(7,1007,3,1)],[],[]⟩)]
def Bf:LZ9:=mkU (Md n).ok nT 8 Tryz.f99 [(3,.ptr 3 0),(4,.ptr 4 0),(5,.ptr 5 0),(6,.arr 1006),(7,.arr 1007),(14,.l 1),(16,tI),(17,tI)] [(3,bT 27 []),(4,.box [.l 2,tI]),(5,bT 76 []),(1006,.arr 3 1),(1007,.arr 3 1)] 38331817 [xE 0 [(46,.b)]] @Zv n
def AY:EZ9 99:=mkD (Md n).ok [Bf n n] 99 Tryz.f99 0 @PC n
def Q4K:EZ9 101:=mkD (Xa [] []).ok nT 101 Tryz.f101 0 @VP n
def Fg:EZ9 102:=mkW (Xa [] []).ok nT 102 Tryz.f102 [eP 1000000 2,eR 1000001 4 1,eR 1000002 170 3,sI,sI,sI] [eT 0] [] 0 0 @YX n
def NW:BZ9:=Xa [⟨97,Lw n⟩,⟨98,Ew n⟩,⟨99,AY n⟩,⟨100,Lv n⟩,⟨101,Q4K n⟩,⟨102,Fg n⟩,⟨103,FI n⟩] [(31,⟨[],[],[(27,1027,170,3)],[],[]⟩)]
def Q3L:LZ9:=mkU (NW n).ok nT 12 Tryz.f61 [(3,tI),(4,tI),(5,.ptr 5 0),(6,.ptr 6 0),(14,.l 1),(15,.l 1),(16,tI),(18,tI),(19,.ptr 65 0),(20,tI),(21,tI),(22,tI)] [(5,bT 27 []),(6,.box [.l 2,tI]),(61,.arr 4 1),(63,.arr 170 3),(65,.box [.arr 61,.arr 63])] 117191245 [xE 0 [(73,.b)]] @Wp n
def Q40:LZ9:=mkU (NW n).ok nT 32 Tryz.f61 [(16,tI),(18,tI),(19,.ptr 65 0),(27,.arr 1027),(28,tI)] [(61,.arr 4 1),(63,.arr 170 3),(65,.box [.arr 61,.arr 63]),(1027,.arr 170 3)] 615 [xE 3 [(173,.b)]] @Vm n
def AI:EZ9 61:=mkD (NW n).ok [Q3L n n,Q40 n n] 61 Tryz.f61 0 @K8 n
def PW:BZ9:=Xa [⟨59,CP n⟩,⟨60,Pr n⟩,⟨62,Ha n⟩,⟨61,AI n⟩] [(5,⟨[],[],[(7,1007,97,1),(8,1008,3,1)],[],[]⟩)]
def Q0j:LZ9:=mkU (PW n).ok nT 10 Tryz.f28 [(2,.ptr 2 0),(3,.ptr 3 0),(7,.arr 1007),(8,.arr 1008),(9,tI),(10,.ptr 10 0),(11,tI)] [(2,bT 27 []),(3,bT 36 []),(10,.box [.x,.x,.x,.x]),(1007,.arr 97 1),(1008,.arr 3 1)] 3245244469 [xE 2 [(39,.b)]] @YG n
def Q0g:LZ9:=mkU (PW n).ok [Q0j n n] 6 Tryz.f28 [(2,.ptr 2 0),(3,.ptr 3 0),(7,.arr 1007),(8,.arr 1008),(9,tI)] [(2,bT 27 []),(3,bT 36 []),(1007,.arr 97 1),(1008,.arr 3 1)] 13551746 [xE 0 [(27,.b)]] @US n
def Q2G:EZ9 28:=mkD (PW n).ok [Q0g n n] 28 Tryz.f28 0 @Rq n
def Sl (n:Nat):BZ9:=Xa [] []
def D4:LZ9:=mkU (Sl n).ok nT 2 Tryz.f64 [(0,.l 3),(3,tI)] [] 7 [.f .ret [(2,.cb false)] [] [],xE 0 [(7,.b)]] @Z4 n
def N8:EZ9 64:=mkD (Sl n).ok [D4 n n] 64 Tryz.f64 0 @JP n
def Fj:BZ9:=Xa [⟨63,TM n⟩,⟨64,N8 n⟩] []
def Q1A:LZ9:=mkU (Fj n).ok nT 4 Tryz.f29 [(0,tI),(1,.l 3),(5,tI)] [] 22 [.f .ret [(4,.cb false)] [] [],xE 0 [(17,.b)]] @Js n
def Q4y:EZ9 29:=mkD (Fj n).ok [Q1A n n] 29 Tryz.f29 0 @MN n
def Fd (n:Nat):BZ9:=Xa [] []
def Q2S:LZ9:=mkU (Fd n).ok nT 3 Tryz.f65 [(1,tI),(2,.ptr 2 0),(5,tI),(6,tI)] [(2,bT 36 [])] 754 [xE 0 [(9,.b)]] @Jw n
def Gc:EZ9 65:=mkD (Fd n).ok [Q2S n n] 65 Tryz.f65 247 @YQ n
def PO:BZ9:=Xa [⟨65,Gc n⟩,⟨60,Pr n⟩] [(2,⟨[],[],[(5,1005,102,4)],[],[]⟩)]
def Q0B:LZ9:=mkU (PO n).ok nT 7 Tryz.f30 [(1,.l 1),(2,.ptr 2 0),(5,.arr 1005),(6,tI),(7,.ptr 7 0),(8,tI)] [(2,bT 36 []),(7,.box [.x,.x,.x,.x]),(1005,.arr 102 4)] 33488095 [xE 2 [(29,.b)]] @Wm n
def Q0a:LZ9:=mkU (PO n).ok [Q0B n n] 3 Tryz.f30 [(1,.l 1),(2,.ptr 2 0),(5,.arr 1005),(6,tI)] [(2,bT 36 []),(1005,.arr 102 4)] 120535 [xE 0 [(17,.b)]] @UE n
def Q2O:EZ9 30:=mkD (PO n).ok [Q0a n n] 30 Tryz.f30 215 @R1 n
def TE (n:Nat):BZ9:=Xa [] []
def LD:LZ9:=mkU (TE n).ok nT 2 Tryz.f104 [(0,.l 3),(1,tI),(4,.ptr 4 0),(6,tI)] [(4,.box [.ci .i64 0,.ci .i64 0,.ci .i64 0])] 22 [.f .ret [(4,.ptr 4 0),(5,.cb true)] [(4,.box [.x,.x,.x])] [0,0,0],xE 0 [(10,.b)]] @Z3 n
def E6:EZ9 104:=mkF (TE n).ok [LD n n] 104 Tryz.f104 [sL 3,sI] [eT 2,eA [qX,qX,qX],sB] 0 @VI n
def C8:EZ9 66:=mkF (Xa [⟨104,E6 n⟩] []).ok nT 66 Tryz.f66 [sL 1,eA [qI,qI,qI,qI],sI] [eT 3,eA [qX,qX,qX],eA [qX,qX,qX],sB] 16 @S4 n
def MZ:BZ9:=Xa [⟨66,C8 n⟩] []
def Q07:LZ9:=mkU (MZ n).ok nT 2 Tryz.f31 [(0,.l 1),(2,tI),(4,.ptr 4 0),(7,tI)] [(4,bT 102 [])] 1102 [.f .ret [(6,.cb false)] [] [],xE 0 [(18,.b)]] @UQ n
def Q2q:EZ9 31:=mkD (MZ n).ok [Q07 n n] 31 Tryz.f31 0 @RJ n
def PK:BZ9:=Xa [⟨65,Gc n⟩] [(2,⟨[],[],[(5,1005,67,6)],[],[]⟩)]
def Q0E:LZ9:=mkU (PK n).ok nT 7 Tryz.f32 [(1,.l 1),(2,.ptr 2 0),(5,.arr 1005),(6,tI),(7,.ptr 7 0),(8,tI)] [(2,bT 36 []),(7,.box [.x,.x,.x,.x]),(1005,.arr 67 6)] 35075857 [xE 2 [(27,.b)]] @UM n
def Q03:LZ9:=mkU (PK n).ok [Q0E n n] 3 Tryz.f32 [(1,.l 1),(2,.ptr 2 0),(5,.arr 1005),(6,tI)] [(2,bT 36 []),(1005,.arr 67 6)] 118348 [xE 0 [(15,.b)]] @UJ n
def Q2D:EZ9 32:=mkW (PK n).ok [Q03 n n] 32 Tryz.f32 [eA [qI,qL 5,qL 2,qL 4,qL 7,qL 4,qL 5,qL 3],sL 1] [eR 1005 67 6] [] 247 0 @SX n
def H4:BZ9:=Xa [⟨65,Gc n⟩] [(2,⟨[],[],[(3,1003,67,6)],[],[]⟩)]
def Q0y:LZ9:=mkU (H4 n).ok nT 3 Tryz.f33 [(1,.ptr 1 0),(3,.arr 1003),(4,tI)] [(1,bT 36 []),(1003,.arr 67 6)] 39692 [xE 0 [(14,.b)]] @UK n
def Q0z:LZ9:=mkU (H4 n).ok nT 8 Tryz.f33 [(1,.ptr 1 0),(3,.arr 1003),(6,tI)] [(1,bT 36 []),(1003,.arr 67 6)] 40178 [xE 2 [(53,.b)]] @Wk n
def AZ:LZ9:=mkU (H4 n).ok nT 13 Tryz.f33 [(1,.ptr 1 0),(3,.arr 1003),(8,tI)] [(1,bT 36 []),(1003,.arr 67 6)] 41636 [xE 4 [(93,.b)]] @Zk n
def Q2p:EZ9 33:=mkD (H4 n).ok [Q0y n n,Q0z n n,AZ n n] 33 Tryz.f33 135 @RH n
def HY:BZ9:=Xa [⟨66,C8 n⟩] [(2,⟨[],[],[(9,1009,170,3)],[],[]⟩)]
def Cl:LZ9:=mkU (HY n).ok nT 7 Tryz.f35 [(0,.l 1),(1,.l 4),(2,tI),(3,tI),(9,.arr 1009),(10,tI),(11,.b),(12,tI)] [(1009,.arr 170 3)] 2065 [xE 2 [(28,.b)]] @YY n
def Ck:LZ9:=mkU (HY n).ok [Cl n n] 3 Tryz.f35 [(0,.l 1),(1,.l 4),(2,tI),(3,tI),(9,.arr 1009),(10,tI)] [(1009,.arr 170 3)] 688 [xE 0 [(22,.b)]] @ZS n
def By:EZ9 35:=mkD (HY n).ok [Ck n n] 35 Tryz.f35 0 @GK n
def C1 (n:Nat):BZ9:=Xa [] []
def Q42:LZ9:=mkU (C1 n).ok nT 2 Tryz.f105 [(0,.l 3),(1,tI),(4,.ptr 4 0),(6,tI)] [(4,.box [.ci .i64 0,.ci .i64 0,.ci .i64 0])] 22 [.f .ret [(4,.ptr 4 0),(5,.cb true)] [(4,.box [.x,.x,.x])] [0,0,0],xE 0 [(10,.b)]] @UB n
def Q63:EZ9 105:=mkF (C1 n).ok [Q42 n n] 105 Tryz.f105 [sL 3,sI] [eT 2,eA [qX,qX,qX],sB] 0 @Ak n
def DE:EZ9 68:=mkD (Xa [] []).ok nT 68 Tryz.f68 0 @E8 n
def KE:BZ9:=Xa [⟨63,TM n⟩,⟨64,N8 n⟩,⟨105,Q63 n⟩,⟨68,DE n⟩] []
def Dg:LZ9:=mkU (KE n).ok nT 13 Tryz.f67 [(0,tI),(1,.l 3),(2,.l 3),(8,.arr 26),(9,tI),(10,.ptr 10 0),(12,tI),(13,tI)] [(10,.box [.x,.x,.x]),(26,.arr 4 1)] 46525 [xE 2 [(70,.b)]] @Ze n
def EQ:LZ9:=mkU (KE n).ok [Dg n n] 7 Tryz.f67 [(0,tI),(1,.l 3),(2,.l 3),(8,.arr 26),(9,tI)] [(26,.arr 4 1)] 229 [xE 0 [(30,.b)]] @Y9 n
def CA:EZ9 67:=mkD (KE n).ok [EQ n n] 67 Tryz.f67 0 @H5 n
def Gv:BZ9:=Xa [⟨67,CA n⟩,⟨68,DE n⟩] [(13,⟨[],[],[(12,1012,112,2)],[],[]⟩)]
def BU:LZ9:=mkU (Gv n).ok nT 6 Tryz.f34 [(0,tI),(8,.l 1),(10,tI),(11,tI)] [] 76 [xE 0 [(27,.b)]] @WL n
def Af:LZ9:=mkU (Gv n).ok nT 18 Tryz.f34 [(0,tI),(8,.l 1),(12,.arr 1012),(13,tI),(14,tI)] [(1012,.arr 112 2)] 67 [xE 4 [(65,.b)]] @WX n
def BI:LZ9:=mkU (Gv n).ok [Af n n] 14 Tryz.f34 [(0,tI),(8,.l 1),(12,.arr 1012),(13,tI)] [(1012,.arr 112 2)] 76 [xE 2 [(41,.b)]] @Ym n
def Q0o:EZ9 34:=mkD (Gv n).ok [BU n n,BI n n] 34 Tryz.f34 0 @Hk n
def Wl:BZ9:=Xa [⟨28,Q2G n⟩,⟨29,Q4y n⟩,⟨30,Q2O n⟩,⟨31,Q2q n⟩,⟨32,Q2D n⟩,⟨33,Q2p n⟩,⟨35,By n⟩,⟨34,Q0o n⟩] [(18,⟨[],[],[],[(12,1,1121,104,3)],[]⟩),(21,⟨[],[],[],[(12,1,1121,104,3)],[]⟩)]
def Q0H:LZ9:=mkU (Wl n).ok nT 7 Tryz.f7 [(3,.ptr 3 0),(4,.ptr 4 0),(6,.l 1),(7,.l 1),(9,tI)] [(3,bT 36 []),(4,.box [.ci .i64 0,.nil,.nil])] 46 [.f .ret [(4,.ptr 4 0),(5,.ci .i64 13)] [(4,.box [.ci .i64 0,.nil,.nil])] [],xE 0 [(39,.b)]] @UV n
def Q0x:LZ9:=mkU (Wl n).ok nT 13 Tryz.f7 [(3,.ptr 3 0),(4,.ptr 4 0),(6,.l 1),(7,.l 1),(10,.l 4),(11,tI)] [(3,bT 36 []),(4,.box [.ci .i64 0,.nil,.nil])] 145 [.f .ret [(4,.ptr 4 0),(5,.ci .i64 13)] [(4,.box [.ci .i64 0,.nil,.nil])] [],xE 2 [(57,.b)]] @UW n
def Q02:LZ9:=mkU (Wl n).ok nT 22 Tryz.f7 [(3,.ptr 3 0),(4,.ptr 4 0),(6,.l 1),(7,.l 1),(10,.l 4),(12,.ptr 12 0),(13,tI),(14,tI)] [(3,bT 36 []),(4,.box [tI,.nil,.nil]),(12,.box [tI,.arr 1121,.nil]),(1121,.arr 104 3)] 28704564 [xE 6 [(88,.b)]] @VQ n
def Q0D:LZ9:=mkU (Wl n).ok [Q02 n n] 19 Tryz.f7 [(3,.ptr 3 0),(4,.ptr 4 0),(6,.l 1),(7,.l 1),(10,.l 4),(12,.ptr 12 0),(13,tI)] [(3,bT 36 []),(4,.box [.ci .i64 0,.nil,.nil]),(12,.box [tI,.arr 1121,.nil]),(1121,.arr 104 3)] 3190887 [xE 4 [(77,.b)]] @Wo n
def Q0s:LZ9:=mkU (Wl n).ok nT 36 Tryz.f7 [(3,.ptr 3 0),(4,.ptr 4 0),(6,.l 1),(10,.l 4),(12,.ptr 12 0),(15,tI),(16,tI),(17,.l 2),(19,tI)] [(3,bT 36 []),(4,.box [tI,.nil,.nil]),(12,.box [tI,.arr 1121,.arr 107]),(107,.arr 67 6),(1121,.arr 104 3)] 86094045 [xE 12 [(145,.b)]] @UR n
def Q0G:LZ9:=mkU (Wl n).ok [Q0s n n] 30 Tryz.f7 [(3,.ptr 3 0),(4,.ptr 4 0),(6,.l 1),(10,.l 4),(12,.ptr 12 0),(15,tI),(16,tI)] [(3,bT 36 []),(4,.box [tI,.nil,.nil]),(12,.box [tI,.arr 1121,.arr 107]),(107,.arr 67 6),(1121,.arr 104 3)] 9566086 [.f .ret [(4,.ptr 4 0),(5,.ci .i64 13)] [(4,.box [.ci .i64 0,.nil,.nil])] [],xE 10 [(120,.b)]] @VN n
def Q0b:LZ9:=mkU (Wl n).ok [Q0G n n] 27 Tryz.f7 [(3,.ptr 3 0),(4,.ptr 4 0),(6,.l 1),(10,.l 4),(12,.ptr 12 0),(15,tI)] [(3,bT 36 []),(4,.box [.ci .i64 0,.nil,.nil]),(12,.box [tI,.arr 1121,.arr 107]),(107,.arr 67 6),(1121,.arr 104 3)] 1062931 [.f .ret [(4,.ptr 4 0),(5,.ci .i64 13)] [(4,.box [.ci .i64 0,.nil,.nil])] [],xE 8 [(112,.b)]] @UN n
def Ej:EZ9 7:=mkD (Wl n).ok [Q0H n n,Q0x n n,Q0D n n,Q0b n n] 7 Tryz.f7 0 @JY n
def Q5M:EZ9 36:=mkD (Xa [] []).ok nT 36 Tryz.f36 0 @As n
def KG (n:Nat):BZ9:=Xa [] []
def Dz:LZ9:=mkU (KG n).ok nT 10 Tryz.f43 [(0,tI),(7,tI),(21,.l 3),(22,tI),(23,tI),(54,.l 1),(55,tI),(56,tI)] [] 5352 [.f .ret [(4,.cb false)] [] [],xE 2 [(57,.b)]] @WC n
def D8:LZ9:=mkU (KG n).ok [Dz n n] 4 Tryz.f43 [(0,tI),(21,.l 3),(22,tI),(23,tI)] [] 67 [.f .ret [(4,.cb false)] [] [],xE 0 [(24,.b)]] @WD n
def Ca:EZ9 43:=mkD (KG n).ok [D8 n n] 43 Tryz.f43 0 @Hb n
def GM (n:Nat):BZ9:=Xa [] []
def Rz:LZ9:=mkU (GM n).ok nT 2 Tryz.f77 [(0,.l 1),(1,tI),(7,tI),(8,tI)] [] 67 [.f .ret [(4,tI)] [] [0],xE 0 [(9,.b)]] @YO n
def Ng:EZ9 77:=mkD (GM n).ok [Rz n n] 77 Tryz.f77 0 @V2 n
def PU:EZ9 44:=mkD (Xa [⟨77,Ng n⟩] []).ok nT 44 Tryz.f44 0 @Wf n
def RT:EZ9 40:=mkD (Xa [] []).ok nT 40 Tryz.f40 0 @Hn n
def F3:EZ9 78:=mkD (Xa [⟨40,RT n⟩] []).ok nT 78 Tryz.f78 72 @JV n
def N0:BZ9:=Xa [⟨78,F3 n⟩] []
def Cm:LZ9:=mkU (N0 n).ok nT 2 Tryz.f45 [(0,tI),(1,.l 3),(2,.l 1),(3,tI),(4,tI),(12,tI),(13,tI)] [] 1822 [.f .ret [(10,.cb false)] [] [],xE 0 [(14,.b)]] @Un n
def A6:EZ9 45:=mkD (N0 n).ok [Cm n n] 45 Tryz.f45 0 @T8 n
def PD:BZ9:=Xa [⟨43,Ca n⟩,⟨44,PU n⟩,⟨45,A6 n⟩] []
def Fz:LZ9:=mkU (PD n).ok nT 4 Tryz.f13 [(0,tI),(1,.l 3),(2,.l 1),(20,.l 1),(21,tI),(22,tI)] [] 607 [.f .ret [(6,.cb false)] [] [],xE 0 [(23,.b)]] @ZL n
def SP:EZ9 13:=mkD (PD n).ok [Fz n n] 13 Tryz.f13 0 @Zw n
def Q1Y:EZ9 8:=mkD (Xa [⟨36,Q5M n⟩,⟨13,SP n⟩] []).ok nT 8 Tryz.f8 0 @VG n
def Q0U:EZ9 87:=mkD (Xa [] []).ok nT 87 Tryz.f87 0 @Tn n
def L6:BZ9:=Xa [⟨87,Q0U n⟩] []
def Q0p:LZ9:=mkU (L6 n).ok nT 4 Tryz.f69 [(1,.ptr 1 0),(3,tI)] [(1,.box [tI,.l 3,.l 6])] 41 [.f .ret [(2,.cb false)] [] [],xE 0 [(25,.b)]] @VO n
def R7:EZ9 69:=mkD (L6 n).ok [Q0p n n] 69 Tryz.f69 0 @UF n
def Q8k:EZ9 70:=mkD (Xa [] []).ok nT 70 Tryz.f70 0 @Q22 n
def SB (n:Nat):BZ9:=Xa [] []
def Dq:LZ9:=mkU (SB n).ok nT 5 Tryz.f157 [(0,.arr 1000000),(5,tI),(6,tI),(22,tI),(23,tI)] [(1000000,.arr 3 1)] 229 [xE 0 [(24,.b)]] @Zg n
def CM:EZ9 157:=Qag (mkW (SB n).ok [Dq n n] 157 Tryz.f157 [eR 1000000 3 1,eA [qI,qI,qI,qI,qI,qI]] [sB] [(1,eK 1000000 3 1)] 0 0 @JO n)
def WM:BZ9:=Xa [⟨69,R7 n⟩,⟨157,CM n⟩] []
def LP:LZ9:=mkU (WM n).ok nT 5 Tryz.f106 [(1,.ptr 1 0),(3,.arr 16),(18,tI),(19,tI)] [(1,.box [tI,.l 3,.l 6]),(16,.arr 3 1)] 493 [xE 0 [(20,.b)]] @Zi n
def Lq:LZ9:=mkU (WM n).ok nT 10 Tryz.f106 [(1,.ptr 1 0),(3,.arr 16),(5,tI)] [(1,.box [tI,.l 3,.l 6]),(16,.arr 3 1)] 191 [xE 2 [(31,.b)]] @Zf n
def Lg:LZ9:=mkU (WM n).ok nT 20 Tryz.f106 [(3,.arr 16),(6,.arr 43),(7,tI),(8,tI),(9,tI),(45,tI),(46,tI)] [(16,.arr 3 1),(43,.arr 3 1)] 1722 [xE 6 [(54,.b)]] @Yw n
def Le:LZ9:=mkU (WM n).ok [Lg n n] 16 Tryz.f106 [(3,.arr 16),(6,.arr 43),(7,tI),(45,tI),(46,tI)] [(16,.arr 3 1),(43,.arr 3 1)] 212 [xE 4 [(47,.b)]] @Yx n
def Fi:EZ9 106:=mkD (WM n).ok [LP n n,Lq n n,Le n n] 106 Tryz.f106 0 @JU n
def GW:BZ9:=Xa [⟨106,Fi n⟩] []
def E7:LZ9:=mkU (GW n).ok nT 8 Tryz.f71 [(7,.l 1),(8,.ptr 25 0),(9,tI),(10,tI),(27,tI),(28,tI)] [(19,.arr 3 1),(23,.arr 4 1),(25,bT 119 [(3,.arr 23),(10,.nil),(11,.arr 19)])] 1480 [xE 2 [(39,.b)]] @YP n
def FR:LZ9:=mkU (GW n).ok [E7 n n] 4 Tryz.f71 [(7,.l 1),(8,.ptr 25 0),(27,tI),(28,tI)] [(19,.arr 3 1),(23,.arr 4 1),(25,.box [tI,.l 3,.l 6,.arr 23,tI,.ci .i64 0,.cb false,.b,.cb false,.ci .i64 0,.nil,.arr 19])] 184 [xE 0 [(29,.b)]] @ZF n
def EP:EZ9 71:=mkW (GW n).ok [FR n n] 71 Tryz.f71 [eA [qI,qL 3,qL 6],sI,sB] [eP 25 12,sI,sL 3,sL 6,eR 23 4 1,sI,sI,sB,sB,sB,sI,eN,eR 19 3 1] [] 0 0 @K3 n
def Fy:BZ9:=Xa [⟨69,R7 n⟩,⟨87,Q0U n⟩] []
def Q1O:LZ9:=mkU (Fy n).ok nT 4 Tryz.f52 [(1,.l 1),(2,.ptr 2 0),(5,tI)] [(2,.box [tI,.l 3,.l 6])] 16 [.f .ret [(4,.cb false)] [] [],xE 0 [(20,.b)]] @Jq n
def DT:EZ9 52:=mkD (Fy n).ok [Q1O n n] 52 Tryz.f52 0 @Kz n
def SU:EZ9 86:=mkD (Xa [⟨68,DE n⟩] []).ok nT 86 Tryz.f86 790 @G8 n
def F8:BZ9:=Xa [⟨52,DT n⟩,⟨86,SU n⟩] []
def Q2T:LZ9:=mkU (F8 n).ok nT 5 Tryz.f107 [(1,.l 1),(2,.ptr 2 0),(6,tI),(7,tI)] [(2,.box [tI,.l 3,.l 6])] 295 [xE 0 [(16,.b)]] @Ji n
def Q4G:EZ9 107:=mkD (F8 n).ok [Q2T n n] 107 Tryz.f107 0 @MM n
def J0:BZ9:=Xa [⟨86,SU n⟩] []
def Tb:LZ9:=mkU (J0 n).ok nT 3 Tryz.f108 [(0,.ptr 1000000 0),(1,tI),(5,tI),(6,tI)] [(98003,.arr 4 1),(98011,.arr 3 1),(1000000,bT 119 [(3,.arr 98003),(11,.arr 98011)])] 2536 [.f .ret [(4,.cb true)] [(98003,.arr 4 1),(98011,.arr 3 1),(1000000,bT 119 [(3,.arr 98003),(11,.arr 98011)])] [4,5,6,7,8,9,10,11,12,13,14,15],xE 0 [(16,.b)]] @X0 n
def TY:EZ9 108:=mkW (J0 n).ok [Tb n n] 108 Tryz.f108 (pT 1000000 119 [(3,eR 1000001 4 1),(11,eR 1000002 3 1)] [sI]) [sB] [] 1146 8190 @Zp n
noncomputable abbrev Wg:List Sp:=(pT 1000000 119 [(3,eR 1000001 4 1),(11,eR 1000002 3 1)] [sI])
abbrev We:List Sp:=[sB,eI 1000000 12,sI,sL 3,sL 6,eR 98003 4 1,sI,sI,sB,sB,sB,sI,sL 1,eR 98011 3 1,eG 1000001,eG 1000002]
noncomputable abbrev VE (n d:Nat):LF (lts Wg) (Option (HT (lts We))):=Xn n d
def Gp (n d:Nat) (ih:VR Tryz.prog 72 (Qfz Wg We (VE n d))):BZ9:=Xa [⟨107,Q4G n⟩,⟨108,TY n⟩,⟨72,⟨_,ih⟩⟩] [(5,⟨[],[],[],[],[98010]⟩),(1000000017,⟨[],[],[],[],[]⟩)]
def S3 (n d:Nat) (ih:VR Tryz.prog 72 (Qfz Wg We (VE n d))):LZ9:=mkU (Gp n d ih).ok nT 10 Tryz.f72 [(0,.ptr 1000000 0),(1,tI),(5,tI),(6,tI)] [(98003,.arr 4 1),(98011,.arr 3 1),(1000000,bT 119 [(3,.arr 98003),(11,.arr 98011)])] 14348902 [.f .ret [(4,.cb false)] [(98003,.arr 4 1),(98011,.arr 3 1),(1000000,bT 119 [(3,.arr 98003),(11,.arr 98011)])] [0,0,0,0,0,0,0,0,0,0,0,0],xE 0 [(59,.b)]] (fun R n=>@Xf R n (Xn n d)) n
theorem Vb (n:Nat):∀ d,VR Tryz.prog 72 (Qfz Wg We (VE n d))
 | 0=>Qac Tryz.f72 _ _ _ (fun v r h=>nomatch (show none=some r from h)) (by intro v;kernel_rfl) (by kernel_rfl) (by kernel_rfl) (by kernel_rfl) (by kernel_rfl)
 | d+1=>Qeb (Gp n d (Vb n d)).ok [S3 n d (Vb n d) n] Tryz.f72 _ _ _ (by intro v;kernel_rfl) (by intro v;kernel_rfl) (by kernel_rfl) (by kernel_rfl) (by kernel_rfl) (by kernel_rfl) (by kernel_rfl) (by kernel_rfl)
def Rh:EZ9 72:=⟨_,Vb n n⟩
def Q5H:EZ9 37:=mkX (Xa [⟨69,R7 n⟩,⟨70,Q8k n⟩,⟨71,EP n⟩,⟨72,Rh n⟩] []).ok nT 37 Tryz.f37 [eA [qI,qL 3,qL 6],sI,sB] [eT 2,eU,sI] [eT 2,eP 50018 12,sI,sL 3,sL 6,eR 50020 4 1,sI,sI,sB,sB,sB,sI,sL 1,eR 100020 3 1,sI] 0 @F4 n
def CJ:EZ9 9:=mkD (Xa [⟨37,Q5H n⟩] []).ok nT 9 Tryz.f9 0 @UT n
def GE:EZ9 212:=mkD (Xa [] []).ok nT 212 Tryz.f212 0 @Xl n
def CL:EZ9 214:=mkD (Xa [] []).ok nT 214 Tryz.f214 0 @PP n
def AG:EZ9 215:=mkD (Xa [] []).ok nT 215 Tryz.f215 0 @FH n
def El:BZ9:=Xa [⟨214,CL n⟩,⟨215,AG n⟩] []
def Q2L:LZ9:=mkU (El n).ok nT 4 Tryz.f159 [(0,.t),(19,tI),(20,tI)] [] 22 [.f .ret [(2,.cb false)] [] [],xE 0 [(21,.b)]] @SZ n
def Pn:EZ9 159:=mkD (El n).ok [Q2L n n] 159 Tryz.f159 0 @KN n
def Tv:EZ9 251:=mkD (Xa [] []).ok nT 251 Tryz.f251 0 @LV n
def RX:BZ9:=Xa [⟨251,Tv n⟩] []
def Cu:LZ9:=mkU (RX n).ok nT 2 Tryz.f253 [(4,.ptr 4 0),(5,.ptr 5 0),(11,.l 6),(12,tI),(13,tI)] [(4,.box [tI,tI]),(5,.box [tI,tI])] 1102 [.f .ret [(6,.cb true)] [] [],xE 0 [(14,.b)]] @HJ n
def NH:EZ9 253:=mkD (RX n).ok [Cu n n] 253 Tryz.f253 0 @GT n
def Eg:EZ9 254:=mkD (Xa [] []).ok nT 254 Tryz.f254 0 @G7 n
def T3:EZ9 250:=mkD (Xa [] []).ok nT 250 Tryz.f250 0 @Yj n
def Pm:EZ9 252:=mkD (Xa [] []).ok nT 252 Tryz.f252 0 @HQ n
def Kh:EZ9 161:=mkW (Xa [] []).ok nT 161 Tryz.f161 (eA [qT,qI,qI,qI,qI]::pT 1000000 76 [] []) [sB] [] 990 62 @Vp n
def Xy:BZ9:=Xa [⟨161,Kh n⟩] []
def Z1:LZ9:=mkU (Xy n).ok nT 2 Tryz.f216 [(0,.l 5),(1,.fn 161 [.ptr 1000000 0]),(7,tI),(8,tI)] [(1000000,bT 76 [])] 49 [.f .ret [(4,tI)] [(1000000,bT 76 [])] [0,4,5,6,7,8],xE 0 [(9,.b)]] @QK n
def Z5:EZ9 216:=mkW (Xy n).ok [Z1 n n] 216 Tryz.f216 (sL 5::eF 161 1::pT 1000000 76 [] []) [sI] [] 60 62 @XI n
def YW:EZ9 160:=mkW (Xa [⟨216,Z5 n⟩] []).ok nT 160 Tryz.f160 (sL 5::eF 161 1::pT 1000000 76 [] []) [sB] [] 60 62 @Xx n
def HH:EZ9 162:=mkD (Xa [] []).ok nT 162 Tryz.f162 0 @UH n
def P0:BZ9:=Xa [⟨159,Pn n⟩,⟨160,YW n⟩,⟨162,HH n⟩] []
def Lj:LZ9:=mkU (P0 n).ok nT 2 Tryz.f110 [(3,.ptr 3 0),(8,.l 5),(9,tI),(10,tI)] [(3,bT 36 [])] 103 [.f .ret [(4,tI)] [] [0],xE 0 [(11,.b)]] @JX n
def Pp:EZ9 110:=mkD (P0 n).ok [Lj n n] 110 Tryz.f110 0 @Ui n
def Q0u:EZ9 255:=mkD (Xa [] []).ok nT 255 Tryz.f255 0 @Ny n
def AD:EZ9 271:=mkD (Xa [] []).ok nT 271 Tryz.f271 0 @Ry n
def CD:EZ9 272:=mkD (Xa [] []).ok nT 272 Tryz.f272 0 @L7 n
def P7:BZ9:=Xa [⟨271,AD n⟩,⟨272,CD n⟩] []
def Lz:LZ9:=mkU (P7 n).ok nT 3 Tryz.f256 [(8,.ptr 8 0),(9,.ptr 9 0),(20,.l 6),(21,tI),(22,tI)] [(8,.box [tI,tI]),(9,.box [tI,tI])] 1102 [.f .ret [(6,tI),(7,.cb true)] [] [0],xE 0 [(23,.b)]] @G9 n
def E9:EZ9 256:=mkD (P7 n).ok [Lz n n] 256 Tryz.f256 0 @JT n
def KD:EZ9 165:=mkW (Xa [] []).ok nT 165 Tryz.f165 (eA [qT,qI,qI,qL 4]::pT 1000000 87 [] []) [sB] [] 238 30 @ZW n
def XF:BZ9:=Xa [⟨165,KD n⟩] []
def Zl:LZ9:=mkU (XF n).ok nT 2 Tryz.f218 [(0,.l 4),(1,.fn 165 [.ptr 1000000 0]),(7,tI),(8,tI)] [(1000000,bT 87 [])] 49 [.f .ret [(4,tI)] [(1000000,bT 87 [])] [0,4,5,6,7],xE 0 [(9,.b)]] @Qc n
def Zr:EZ9 218:=mkW (XF n).ok [Zl n n] 218 Tryz.f218 (sL 4::eF 165 1::pT 1000000 87 [] []) [sI] [] 28 30 @QU n
def Z0:EZ9 164:=mkW (Xa [⟨218,Zr n⟩] []).ok nT 164 Tryz.f164 (sL 4::eF 165 1::pT 1000000 87 [] []) [sB] [] 28 30 @Qq n
def Eb:EZ9 166:=mkD (Xa [] []).ok nT 166 Tryz.f166 0 @TJ n
def RQ:EZ9 169:=mkD (Xa [] []).ok nT 169 Tryz.f169 0 @KF n
def Du:EZ9 296:=mkD (Xa [] []).ok nT 296 Tryz.f296 0 @NU n
def D2:EZ9 297:=mkD (Xa [] []).ok nT 297 Tryz.f297 0 @TZ n
def NE:EZ9 291:=mkD (Xa [⟨296,Du n⟩,⟨297,D2 n⟩] []).ok nT 291 Tryz.f291 0 @Tx n
def T4:EZ9 269:=mkD (Xa [] []).ok nT 269 Tryz.f269 0 @Uu n
def ND:EZ9 171:=mkD (Xa [] []).ok nT 171 Tryz.f171 0 @TC n
def LI:EZ9 170:=mkD (Xa [] []).ok nT 170 Tryz.f170 0 @Sn n
def L5:EZ9 172:=mkD (Xa [] []).ok nT 172 Tryz.f172 0 @Ge n
def MY:EZ9 168:=mkD (Xa [⟨172,L5 n⟩] []).ok nT 168 Tryz.f168 0 @Ur n
def T1:BZ9:=Xa [⟨168,MY n⟩,⟨169,RQ n⟩,⟨166,Eb n⟩,⟨170,LI n⟩,⟨171,ND n⟩] []
def MQ:LZ9:=mkU (T1 n).ok nT 2 Tryz.f113 [(2,.ptr 2 0),(3,.ptr 3 0),(10,.l 7),(11,tI),(12,tI)] [(2,bT 27 []),(3,bT 36 [])] 7173625 [.f .ret [(4,tI)] [] [0],xE 0 [(13,.b)]] @YU n
def P3:EZ9 113:=mkD (T1 n).ok [MQ n n] 113 Tryz.f113 0 @WF n
def KI:EZ9 174:=mkW (Xa [] []).ok nT 174 Tryz.f174 (eA [qI,qI,qI,qI]::pT 1000000 158 [] []) [sB] [] 204 30 @ZT n
def XH:BZ9:=Xa [⟨174,KI n⟩] []
def Zo:LZ9:=mkU (XH n).ok nT 2 Tryz.f220 [(0,.l 4),(1,.fn 174 [.ptr 1000000 0]),(7,tI),(8,tI)] [(1000000,bT 158 [])] 130 [.f .ret [(4,tI)] [(1000000,bT 158 [])] [0,4,5,6,7],xE 0 [(9,.b)]] @Qd n
def Zs:EZ9 220:=mkW (XH n).ok [Zo n n] 220 Tryz.f220 (sL 4::eF 174 1::pT 1000000 158 [] []) [sI] [] 24 30 @QV n
def Z2:EZ9 173:=mkW (Xa [⟨220,Zs n⟩] []).ok nT 173 Tryz.f173 (sL 4::eF 174 1::pT 1000000 158 [] []) [sB] [] 24 30 @Qo n
def Pj:BZ9:=Xa [⟨172,L5 n⟩,⟨169,RQ n⟩,⟨173,Z2 n⟩,⟨170,LI n⟩,⟨171,ND n⟩] []
def FL:LZ9:=mkU (Pj n).ok nT 2 Tryz.f114 [(3,.ptr 3 0),(10,.l 4),(11,tI),(12,tI)] [(3,bT 36 [])] 88582 [.f .ret [(4,tI)] [] [0],xE 0 [(13,.b)]] @ZQ n
def Sq:EZ9 114:=mkD (Pj n).ok [FL n n] 114 Tryz.f114 0 @Vg n
def Pv:BZ9:=Xa [⟨168,MY n⟩] []
def FN:LZ9:=mkU (Pv n).ok nT 2 Tryz.f115 [(3,.ptr 3 0),(8,.l 5),(9,tI),(10,tI)] [(3,bT 36 [])] 88582 [.f .ret [(4,.ci .i64 4)] [] [],xE 0 [(11,.b)]] @ZC n
def SD:EZ9 115:=mkD (Pv n).ok [FN n n] 115 Tryz.f115 0 @V7 n
def HZ (n:Nat):BZ9:=Xa [] []
def MV:LZ9:=mkU (HZ n).ok nT 2 Tryz.f116 [(2,.ptr 2 0),(8,.l 3),(9,tI),(10,tI)] [(2,bT 27 [])] 49 [.f .ret [(4,.ci .i64 4)] [] [],xE 0 [(11,.b)]] @YT n
def TH:EZ9 116:=mkD (HZ n).ok [MV n n] 116 Tryz.f116 0 @Ww n
def Z9 (n:Nat):BZ9:=Xa [] []
def Kt:LZ9:=mkU (Z9 n).ok nT 5 Tryz.f133 [(0,.ptr 1000000 0),(2,tI),(9,.l 4),(10,tI),(11,tI),(34,tI),(35,tI)] [(98012,.arr 3 1),(98013,.arr 97 1),(98014,.arr 3 1),(98015,.arr 273 4),(98017,.arr 104 3),(98018,.arr 67 6),(1000000,bT 235 [(12,.arr 98012),(13,.arr 98013),(14,.arr 98014),(15,.arr 98015),(17,.arr 98017),(18,.arr 98018)])] 118666 [xE 2 [(36,.b)]] @X3 n
def KK:LZ9:=mkU (Z9 n).ok [Kt n n] 1 Tryz.f133 [(0,.ptr 1000000 0),(9,.l 4),(10,tI),(11,tI)] [(98012,.arr 3 1),(98013,.arr 97 1),(98014,.arr 3 1),(98015,.arr 273 4),(98017,.arr 104 3),(98018,.arr 67 6),(1000000,bT 235 [(12,.arr 98012),(13,.arr 98013),(14,.arr 98014),(15,.arr 98015),(17,.arr 98017),(18,.arr 98018)])] 4450 [xE 0 [(12,.b)]] @QM n
def Ht:EZ9 133:=mkW (Z9 n).ok [KK n n] 133 Tryz.f133 (pT 1000000 235 [(12,eR 1000001 3 1),(13,eR 1000002 97 1),(14,eR 1000003 3 1),(15,eR 1000004 273 4),(17,eR 1000005 104 3),(18,eR 1000006 67 6)] []) [eT 0] [] 388991 389119 @YC n
def M4 (n:Nat):BZ9:=Xa [] []
def Aj:LZ9:=mkU (M4 n).ok nT 2 Tryz.f189 [(1,tI),(8,.l 4),(9,tI),(10,tI)] [] 67 [.f .ret [(4,tI)] [] [0],xE 0 [(11,.b)]] @Ve n
def Q01:EZ9 189:=mkD (M4 n).ok [Aj n n] 189 Tryz.f189 0 @Hh n
def T5:BZ9:=Xa [⟨162,HH n⟩] []
def MS:LZ9:=mkU (T5 n).ok nT 6 Tryz.f288 [(0,.l 2),(1,tI),(17,.l 2),(18,tI),(19,tI)] [] 198 [.f .ret [(6,.ci .i64 4)] [] [],xE 1 [(20,.b)]] @YR n
def LR:EZ9 288:=mkD (T5 n).ok [MS n n] 288 Tryz.f288 0 @Jp n
def SN (n:Nat):BZ9:=Xa [] []
def Dh:LZ9:=mkU (SN n).ok nT 3 Tryz.f293 [(7,tI),(20,.l 2),(21,tI),(22,tI)] [] 68 [xE 0 [(23,.b)]] @WH n
def Cf:EZ9 293:=mkD (SN n).ok [Dh n n] 293 Tryz.f293 0 @JR n
def Au:EZ9 294:=mkD (Xa [] []).ok nT 294 Tryz.f294 0 @To n
def Al:EZ9 295:=mkD (Xa [] []).ok nT 295 Tryz.f295 0 @T6 n
def G2:BZ9:=Xa [⟨293,Cf n⟩,⟨294,Au n⟩,⟨295,Al n⟩] []
def Ly:LZ9:=mkU (G2 n).ok nT 5 Tryz.f289 [(0,.l 2),(1,tI),(5,.ptr 5 0),(7,tI),(8,.arr 20),(9,tI),(10,tI)] [(5,bT 76 []),(20,.arr 3 1)] 147730 [xE 0 [(29,.b)]] @Yv n
def LS:LZ9:=mkU (G2 n).ok nT 12 Tryz.f289 [(0,.l 2),(1,tI),(5,.ptr 5 0),(8,.arr 20),(13,tI)] [(5,bT 76 []),(20,.arr 3 1)] 16411 [xE 2 [(68,.b)]] @Za n
def FK:EZ9 289:=mkW (G2 n).ok [Ly n n,LS n n] 289 Tryz.f289 [sL 2,sI,eA [qT,qI,qI,qI,qI]] [eR 20 3 1] [] 0 0 @JW n
def FQ (n:Nat):BZ9:=Xa [] []
def Q2b:LZ9:=mkU (FQ n).ok nT 3 Tryz.f290 [(0,tI),(3,tI),(4,tI)] [] 25 [xE 0 [(7,.b)]] @Vz n
def Q3X:EZ9 290:=mkD (FQ n).ok [Q2b n n] 290 Tryz.f290 0 @Sm n
def Ps:BZ9:=Xa [⟨288,LR n⟩,⟨289,FK n⟩,⟨290,Q3X n⟩] []
def E5:LZ9:=mkU (Ps n).ok nT 6 Tryz.f281 [(9,.arr 50022),(23,.arr 50022),(24,tI),(25,tI)] [(50022,.arr 3 1)] 25 [xE 0 [(26,.b)]] @ZM n
def DF:EZ9 281:=mkD (Ps n).ok [E5 n n] 281 Tryz.f281 0 @Gz n
def Ml:EZ9 145:=mkD (Xa [] []).ok nT 145 Tryz.f145 0 @K6 n
def Sv:BZ9:=Xa [⟨281,DF n⟩,⟨145,Ml n⟩] []
def EK:LZ9:=mkU (Sv n).ok nT 6 Tryz.f268 [(8,.l 1),(10,.arr 26),(11,tI)] [(26,.arr 3 1)] 25 [xE 0 [(30,.b)]] @WK n
def CK:EZ9 268:=mkD (Sv n).ok [EK n n] 268 Tryz.f268 0 @JE n
def Ep:EZ9 239:=mkD (Xa [⟨145,Ml n⟩] []).ok nT 239 Tryz.f239 0 @JZ n
def Cw:EZ9 146:=mkD (Xa [] []).ok nT 146 Tryz.f146 0 @PE n
def AL:EZ9 240:=mkD (Xa [⟨146,Cw n⟩] []).ok nT 240 Tryz.f240 0 @Vw n
def LQ:EZ9 241:=mkW (Xa [] []).ok nT 241 Tryz.f241 [eA [qL 1,qL 1,qL 5,qL 6]] [eR 10 170 3] [] 0 0 @Jj n
def Ri:EZ9 242:=Qag (mkW (Xa [] []).ok nT 242 Tryz.f242 [eR 1000000 170 3,sI,sI,sI] [eT 0] [(1,eK 1000000 170 3)] 0 0 @Xp n)
def Q0i:EZ9 283:=mkD (Xa [] []).ok nT 283 Tryz.f283 0 @M0 n
def Kr (n:Nat):BZ9:=Xa [] [(2,⟨[],[],[(3,1003,170,3)],[],[]⟩)]
def Nl:LZ9:=mkU (Kr n).ok nT 3 Tryz.f244 [(3,.arr 1003),(6,.l 3),(7,tI),(8,tI)] [(1003,.arr 170 3)] 76 [xE 0 [(9,.b)]] @XX n
def NS:EZ9 244:=mkW (Kr n).ok [Nl n n] 244 Tryz.f244 [sL 3] [eR 1003 170 3] [] 0 0 @VD n
def JM:EZ9 192:=mkW (Xa [] []).ok nT 192 Tryz.f192 (pT 1000000 235 [(12,eR 1000001 3 1),(15,eR 1000002 273 4),(17,eR 1000003 104 3),(18,eR 1000004 67 6)] [sI,sI]) [sI] [] 520191 1048574 @XN n
def Ts:EZ9 191:=mkW (Xa [] []).ok nT 191 Tryz.f191 (pT 1000000 235 [(12,eR 1000001 3 1),(15,eR 1000002 273 4),(17,eR 1000003 104 3),(18,eR 1000004 67 6)] [sI,sI,sI,sI,sI]) [eT 0] [] 475135 491519 @Yc n
def PG:EZ9 193:=mkW (Xa [⟨192,JM n⟩] []).ok nT 193 Tryz.f193 (pT 1000000 235 [(12,eR 1000001 3 1),(15,eR 1000002 273 4),(17,eR 1000003 104 3),(18,eR 1000004 67 6)] [sI]) [sI] [] 520063 1048574 @Wi n
def Yi:BZ9:=Xa [⟨192,JM n⟩,⟨191,Ts n⟩,⟨193,PG n⟩] []
def He:LZ9:=mkU (Yi n).ok nT 4 Tryz.f135 [(0,.ptr 1000000 0),(2,tI),(13,.l 4),(14,tI),(15,tI),(26,.l 4),(27,tI),(28,tI)] [(98012,.arr 3 1),(98015,.arr 273 4),(98017,.arr 104 3),(98018,.arr 67 6),(1000000,bT 235 [(12,.arr 98012),(15,.arr 98015),(17,.arr 98017),(18,.arr 98018)])] 282429553573 [xE 2 [(29,.b)]] @Xg n
def Ho:LZ9:=mkU (Yi n).ok [He n n] 1 Tryz.f135 [(0,.ptr 1000000 0),(13,.l 4),(14,tI),(15,tI)] [(98012,.arr 3 1),(98015,.arr 273 4),(98017,.arr 104 3),(98018,.arr 67 6),(1000000,bT 235 [(12,.arr 98012),(15,.arr 98015),(17,.arr 98017),(18,.arr 98018)])] 3486784612 [xE 0 [(16,.b)]] @Qy n
def HC:LZ9:=mkU (Yi n).ok nT 10 Tryz.f135 [(0,.ptr 1000000 0),(56,.l 4),(57,tI),(58,tI)] [(98012,.arr 3 1),(98015,.arr 273 4),(98017,.arr 104 3),(98018,.arr 67 6),(1000000,bT 235 [(12,.arr 98012),(15,.arr 98015),(17,.arr 98017),(18,.arr 98018)])] 3491567581 [xE 4 [(59,.b)]] @Xe n
def HN:EZ9 135:=mkW (Yi n).ok [Ho n n,HC n n] 135 Tryz.f135 (pT 1000000 235 [(12,eR 1000001 3 1),(15,eR 1000002 273 4),(17,eR 1000003 104 3),(18,eR 1000004 67 6)] []) [eT 0] [] 470399 491519 @YH n
def Nc (n:Nat):BZ9:=Xa [] []
def Cn:LZ9:=mkU (Nc n).ok nT 3 Tryz.f234 [(3,tI),(6,.l 3),(7,tI),(8,tI)] [] 68 [.f .ret [(2,.cb false)] [] [],xE 0 [(9,.b)]] @Uj n
def Nu:EZ9 234:=mkD (Nc n).ok [Cn n n] 234 Tryz.f234 0 @Jt n
def N6:BZ9:=Xa [⟨234,Nu n⟩] []
def Cy:LZ9:=mkU (N6 n).ok nT 4 Tryz.f194 [(0,tI),(18,.l 3),(19,tI),(20,tI)] [] 67 [.f .ret [(4,.cb false)] [] [],xE 0 [(21,.b)]] @Uo n
def Ah:EZ9 194:=mkD (N6 n).ok [Cy n n] 194 Tryz.f194 0 @Te n
def J2:EZ9 196:=mkW (Xa [] []).ok nT 196 Tryz.f196 (eA [qI,qI,qI]::eA [qI,qI,qI]::pT 1000000 273 [] (eP 1000001 1::sB::eP 1000002 1::pT 1000003 235 [(12,eR 1000004 3 1),(17,eR 1000005 104 3),(18,eR 1000006 67 6)] [])) [eT 0] [] 1073707209 16777199 @Ya n
def Ub:BZ9:=Xa [⟨196,J2 n⟩] []
def Pc:LZ9:=mkU (Ub n).ok nT 5 Tryz.f195 [(0,.ptr 1000000 0),(2,.fn 196 [.ptr 1000004 0,.ptr 1000005 0,.ptr 1000006 0]),(4,.ptr 4 0),(7,.ptr 7 0),(17,.l 3),(18,tI),(19,tI),(30,.l 3),(31,tI),(32,tI)] [(4,bT 273 []),(7,.box [.x,.x,.x]),(98012,.arr 3 1),(98017,.arr 104 3),(98018,.arr 67 6),(1000000,bT 235 [(12,.arr 98012),(17,.arr 98017),(18,.arr 98018)]),(1000004,bT 273 []),(1000005,.box [.b]),(1000006,.box [.ptr 1000000 0])] 366898000880223711 [xE 2 [(33,.b)]] @QH n
def P8:LZ9:=mkU (Ub n).ok [Pc n n] 2 Tryz.f195 [(0,.ptr 1000000 0),(2,.fn 196 [.ptr 1000004 0,.ptr 1000005 0,.ptr 1000006 0]),(4,.ptr 4 0),(17,.l 3),(18,tI),(19,tI)] [(4,bT 273 []),(98012,.arr 3 1),(98017,.arr 104 3),(98018,.arr 67 6),(1000000,bT 235 [(12,.arr 98012),(17,.arr 98017),(18,.arr 98018)]),(1000004,bT 273 []),(1000005,.box [.b]),(1000006,.box [.ptr 1000000 0])] 503320819852066 [xE 0 [(20,.b)]] @Xj n
def PS:EZ9 195:=mkW (Ub n).ok [P8 n n] 195 Tryz.f195 (pT 1000000 235 [(12,eR 1000001 3 1),(17,eR 1000002 104 3),(18,eR 1000003 67 6)] (eA [qI,qI,qI,qI]::eF 196 3::pT 1000004 273 [] [eP 1000005 1,sB,eP 1000006 1,eS 1000000])) [eT 0] [] 29876207 8388607 @Wa n
def U0:BZ9:=Xa [⟨194,Ah n⟩,⟨195,PS n⟩] [(5,⟨[],[],[],[],[98015]⟩),(7,⟨[],[],[],[],[98015]⟩)]
def P1:LZ9:=mkU (U0 n).ok nT 2 Tryz.f136 [(1,.ptr 1 0),(11,.l 1),(12,tI),(13,tI)] [(1,.box [.ptr 1000000 0]),(98012,.arr 3 1),(98015,.arr 273 4),(98017,.arr 104 3),(98018,.arr 67 6),(1000000,bT 235 [(12,.arr 98012),(15,.arr 98015),(17,.arr 98017),(18,.arr 98018)])] 177169 [.f .ret [(2,.cb false)] [(98012,.arr 3 1),(98017,.arr 104 3),(98018,.arr 67 6),(1000000,bT 235 [(12,.arr 98012),(17,.arr 98017),(18,.arr 98018)])] [4,6,7,8,9,10,11,12,13,14,15,16,17,18,19,20,21,5,22],xE 0 [(14,.b)]] @XB n
def P4:LZ9:=mkU (U0 n).ok nT 8 Tryz.f136 [(1,.ptr 1 0),(29,.l 4),(30,tI),(31,tI)] [(1,.box [.ptr 1000000 0]),(98012,.arr 3 1),(98017,.arr 104 3),(98018,.arr 67 6),(1000000,bT 235 [(12,.arr 98012),(17,.arr 98017),(18,.arr 98018)])] 387479560 [.f .ret [(2,.cb false)] [(98012,.arr 3 1),(98017,.arr 104 3),(98018,.arr 67 6),(1000000,bT 235 [(12,.arr 98012),(17,.arr 98017),(18,.arr 98018)])] [4,5,6,7,8,9,10,11,12,13,14,15,16,17,18,19,20,21,22],xE 2 [(32,.b)]] @X9 n
def P9:EZ9 136:=mkW (U0 n).ok [P1 n n,P4 n n] 136 Tryz.f136 (pT 1000000 235 [(12,eR 1000001 3 1),(15,eR 1000002 273 4),(17,eR 1000003 104 3),(18,eR 1000004 67 6)] []) [sB] [(17,sL 4)] 483311 1048574 @ZN n
def JK:EZ9 192:=mkW (Xa [] []).ok nT 192 Tryz.f192 (pT 1000000 235 [(12,eR 1000001 3 1),(17,eR 1000002 104 3),(18,eR 1000003 67 6)] [sI,sI]) [sI] [] 520191 1048574 @QY n
def N3:EZ9 198:=mkD (Xa [] []).ok nT 198 Tryz.f198 0 @Yp n
def Cj:EZ9 199:=mkD (Xa [] []).ok nT 199 Tryz.f199 0 @UL n
def Gl:EZ9 197:=mkW (Xa [] []).ok nT 197 Tryz.f197 (pT 1000000 235 [(12,eR 1000001 3 1),(17,eR 1000002 104 3),(18,eR 1000003 67 6)] [sI,sI,sI,sI,sI,sI]) [eT 0] [] 262143 262143 @Xd n
def PL:EZ9 193:=mkW (Xa [⟨192,JK n⟩] []).ok nT 193 Tryz.f193 (pT 1000000 235 [(12,eR 1000001 3 1),(17,eR 1000002 104 3),(18,eR 1000003 67 6)] [sI]) [sI] [] 520063 1048574 @Vr n
def QX:BZ9:=Xa [⟨192,JK n⟩,⟨198,N3 n⟩,⟨199,Cj n⟩,⟨197,Gl n⟩,⟨193,PL n⟩] []
def Kg:LZ9:=mkU (QX n).ok nT 4 Tryz.f137 [(0,.ptr 1000000 0),(2,tI),(3,.ptr 3 0),(20,.l 4),(21,tI),(22,tI),(28,.l 4),(29,tI),(30,tI)] [(3,.box [.x,.x,.x,.x]),(98012,.arr 3 1),(98017,.arr 104 3),(98018,.arr 67 6),(1000000,bT 235 [(12,.arr 98012),(17,.arr 98017),(18,.arr 98018)])] 7625600931295 [xE 2 [(31,.b)]] @Qt n
def Kj:LZ9:=mkU (QX n).ok [Kg n n] 1 Tryz.f137 [(0,.ptr 1000000 0),(20,.l 4),(21,tI),(22,tI)] [(98012,.arr 3 1),(98017,.arr 104 3),(98018,.arr 67 6),(1000000,bT 235 [(12,.arr 98012),(17,.arr 98017),(18,.arr 98018)])] 1162262002 [xE 0 [(23,.b)]] @QC n
def Ki:LZ9:=mkU (QX n).ok nT 14 Tryz.f137 [(0,.ptr 1000000 0),(84,.l 7),(85,tI),(86,tI)] [(98012,.arr 3 1),(98017,.arr 104 3),(98018,.arr 67 6),(1000000,bT 235 [(12,.arr 98012),(17,.arr 98017),(18,.arr 98018)])] 535 [xE 4 [(87,.b)]] @QE n
def Km:LZ9:=mkU (QX n).ok nT 20 Tryz.f137 [(0,.ptr 1000000 0),(119,.l 4),(120,tI),(121,tI)] [(98012,.arr 3 1),(98017,.arr 104 3),(98018,.arr 67 6),(1000000,bT 235 [(12,.arr 98012),(17,.arr 98017),(18,.arr 98018)])] 1594858 [xE 6 [(122,.b)]] @QD n
def Ko:LZ9:=mkU (QX n).ok nT 25 Tryz.f137 [(0,.ptr 1000000 0),(146,.l 5),(147,tI),(148,tI)] [(98012,.arr 3 1),(98017,.arr 104 3),(98018,.arr 67 6),(1000000,bT 235 [(12,.arr 98012),(17,.arr 98017),(18,.arr 98018)])] 535 [xE 8 [(149,.b)]] @QF n
def KJ:EZ9 137:=mkW (QX n).ok [Kj n n,Ki n n,Km n n,Ko n n] 137 Tryz.f137 (pT 1000000 235 [(12,eR 1000001 3 1),(17,eR 1000002 104 3),(18,eR 1000003 67 6)] []) [eT 0] [] 239743 262143 @Ys n
def Uv:EZ9 235:=mkW (Xa [] []).ok nT 235 Tryz.f235 [eA [qI,qI,qI],eA [qI,qI,qI],eP 1000000 1,eM 1000001 277] [eT 0] [(2,eH 1000001)] 62 0 @Xv n
def Ud:BZ9:=Xa [⟨235,Uv n⟩] []
def Pa:LZ9:=mkU (Ud n).ok nT 5 Tryz.f195 [(0,.ptr 1000000 0),(2,.fn 235 [.ptr 1000004 0]),(4,.ptr 4 0),(7,.ptr 7 0),(17,.l 3),(18,tI),(19,tI),(30,.l 3),(31,tI),(32,tI)] [(4,bT 273 []),(7,.box [.x,.x,.x]),(98012,.arr 3 1),(98017,.arr 104 3),(98018,.arr 67 6),(1000000,bT 235 [(12,.arr 98012),(17,.arr 98017),(18,.arr 98018)]),(1000004,.box [.arr 1000005]),(1000005,.mp 277)] 3706040378478474 [xE 2 [(33,.b)]] @QW n
def Pd:LZ9:=mkU (Ud n).ok [Pa n n] 2 Tryz.f195 [(0,.ptr 1000000 0),(2,.fn 235 [.ptr 1000004 0]),(4,.ptr 4 0),(17,.l 3),(18,tI),(19,tI)] [(4,bT 273 []),(98012,.arr 3 1),(98017,.arr 104 3),(98018,.arr 67 6),(1000000,bT 235 [(12,.arr 98012),(17,.arr 98017),(18,.arr 98018)]),(1000004,.box [.arr 1000005]),(1000005,.mp 277)] 5115112716613 [xE 0 [(20,.b)]] @Xk n
def PJ:EZ9 195:=mkW (Ud n).ok [Pd n n] 195 Tryz.f195 (pT 1000000 235 [(12,eR 1000001 3 1),(17,eR 1000002 104 3),(18,eR 1000003 67 6)] [eA [qI,qI,qI,qI],eF 235 1,eP 1000004 1,eM 1000005 277]) [eT 0] [(22,eH 1000005)] 4710399 524287 @Wc n
def WQ:BZ9:=Xa [⟨195,PJ n⟩] []
def Ga:LZ9:=mkU (WQ n).ok nT 3 Tryz.f200 [(0,.ptr 1000000 0),(1,tI),(2,tI),(7,.ptr 7 0),(14,.l 4),(15,tI),(16,tI)] [(7,.box [.arr 10]),(10,.mp 277),(98012,.arr 3 1),(98017,.arr 104 3),(98018,.arr 67 6),(1000000,bT 235 [(12,.arr 98012),(17,.arr 98017),(18,.arr 98018)])] 10460353891 [xE 0 [(17,.b)]] @Qu n
def Gq:EZ9 200:=mkW (WQ n).ok [Ga n n] 200 Tryz.f200 (pT 1000000 235 [(12,eR 1000001 3 1),(17,eR 1000002 104 3),(18,eR 1000003 67 6)] [sI,sI]) [eM 10 277] [] 483327 1048574 @Y3 n
def Hv (n:Nat):BZ9:=Xa [] [(2,⟨[],[],[(5,1005,170,3)],[],[]⟩)]
def NL:LZ9:=mkU (Hv n).ok nT 3 Tryz.f202 [(1,.arr 1000000),(5,.arr 1005),(8,.l 3),(9,tI),(10,tI)] [(1005,.arr 170 3),(1000000,.mp 277)] 157 [xE 0 [(11,.b)]] @Y5 n
def MT:EZ9 202:=Qag (mkW (Hv n).ok [NL n n] 202 Tryz.f202 [sL 3,eM 1000000 277] [eR 1005 170 3] [] 0 0 @Ux n)
def KX:EZ9 275:=mkD (Xa [] []).ok nT 275 Tryz.f275 0 @V4 n
def Nm:EZ9 276:=mkW (Xa [] [(2,⟨[],[],[(8,96001,312,2)],[],[]⟩)]).ok nT 276 Tryz.f276 [eN,sI,sI,sI] [eR 96001 312 2] [] 0 0 @JA n
def Q0r:EZ9 264:=mkW (Xa [⟨275,KX n⟩,⟨40,RT n⟩,⟨276,Nm n⟩] [(2,⟨[],[],[(6,50016,312,2)],[],[]⟩)]).ok nT 264 Tryz.f264 [sI,sI,sI] [eT 2,eR 50016 312 2,sI] [] 0 0 @Pi n
def RY:BZ9:=Xa [⟨275,KX n⟩] []
def Cc:LZ9:=mkU (RY n).ok nT 5 Tryz.f266 [(0,tI),(5,tI),(11,.l 2),(12,tI),(13,tI)] [] 205 [.f .ret [(4,.cb false)] [] [],xE 0 [(14,.b)]] @Um n
def Me:EZ9 266:=mkD (RY n).ok [Cc n n] 266 Tryz.f266 0 @GD n
def RW:BZ9:=Xa [⟨275,KX n⟩,⟨266,Me n⟩] []
def CC:LZ9:=mkU (RW n).ok nT 4 Tryz.f277 [(0,tI),(10,.l 1),(11,tI),(12,tI)] [] 67 [.f .ret [(4,.ci .i64 1)] [] [],xE 0 [(13,.b)]] @Uf n
def Az:EZ9 277:=mkD (RW n).ok [CC n n] 277 Tryz.f277 0 @Ti n
def WG:EZ9 287:=mkW (Xa [] [(6,⟨[],[],[(4,96001,312,2)],[],[]⟩)]).ok nT 287 Tryz.f287 [eN,sI] [eR 96001 312 2] [] 0 0 @QB n
def X2:BZ9:=Xa [⟨287,WG n⟩] []
def Wz:LZ9:=mkU (X2 n).ok nT 3 Tryz.f279 [(0,.l 1),(3,tI),(9,.l 1),(10,tI),(11,tI)] [] 204 [xE 0 [(12,.b)]] @Qf n
def WA:LZ9:=mkU (X2 n).ok nT 11 Tryz.f279 [(6,.arr 50024),(25,.l 1),(26,tI),(27,tI)] [(50024,.arr 312 2)] 76 [xE 2 [(28,.b)]] @Qg n
def U1:EZ9 279:=mkW (X2 n).ok [Wz n n,WA n n] 279 Tryz.f279 [sL 1] [eR 50024 312 2] [] 0 0 @QI n
def EN:EZ9 187:=mkD (Xa [] []).ok nT 187 Tryz.f187 0 @Mi n
def DB:EZ9 188:=mkD (Xa [] []).ok nT 188 Tryz.f188 0 @NF n
def Nw:EZ9 132:=mkD (Xa [⟨187,EN n⟩,⟨188,DB n⟩] []).ok nT 132 Tryz.f132 0 @T7 n
def Bz:EZ9 176:=mkD (Xa [] []).ok nT 176 Tryz.f176 0 @GS n
def Sx:EZ9 120:=mkD (Xa [⟨176,Bz n⟩] []).ok nT 120 Tryz.f120 0 @Jd n
def Pb:EZ9 286:=mkD (Xa [⟨120,Sx n⟩] []).ok nT 286 Tryz.f286 0 @V5 n
def X6:BZ9:=Xa [⟨286,Pb n⟩] []
def WW:LZ9:=mkU (X6 n).ok nT 4 Tryz.f298 [(0,.arr 1000000),(1,tI),(2,tI),(3,.fn 286 []),(8,tI),(9,tI)] [(1000000,.arr 312 2)] 217 [xE 2 [(34,.b)]] @Qh n
def WO:LZ9:=mkU (X6 n).ok [WW n n] 1 Tryz.f298 [(0,.arr 1000000),(1,tI),(2,tI),(3,.fn 286 []),(8,tI)] [(1000000,.arr 312 2)] 76 [xE 0 [(14,.b)]] @Q7 n
def U9:EZ9 298:=Qag (mkW (X6 n).ok [WO n n] 298 Tryz.f298 [eR 1000000 312 2,sI,sI,eF 286 0] [eT 0] [(1,eK 1000000 312 2)] 0 0 @Xm n)
def Yz:BZ9:=Xa [⟨298,U9 n⟩] []
def V9:LZ9:=mkU (Yz n).ok nT 2 Tryz.f292 [(0,.arr 1000000),(1,tI),(2,tI),(3,tI),(4,.fn 286 []),(10,.cb true),(11,.cb true)] [(1000000,.arr 312 2)] 40 [.f .ret [] [(1000000,.arr 312 2)] [0]] @XE n
def Vj:EZ9 292:=Qag (mkW (Yz n).ok [V9 n n] 292 Tryz.f292 [eR 1000000 312 2,sI,sI,sI,eF 286 0] [eT 0] [(1,eK 1000000 312 2)] 0 0 @XO n)
def Zz:EZ9 285:=Qag (mkW (Xa [⟨132,Nw n⟩,⟨292,Vj n⟩] []).ok nT 285 Tryz.f285 [eR 1000000 312 2,eF 286 0] [eT 0] [(1,eK 1000000 312 2)] 0 0 @Qv n)
def TR:BZ9:=Xa [⟨285,Zz n⟩] [(3,⟨[],[],[(3,1003,312,2)],[],[]⟩)]
def Lt:LZ9:=mkU (TR n).ok nT 4 Tryz.f278 [(3,.arr 1003),(9,.arr 1000000),(10,tI),(11,tI)] [(1003,.arr 312 2),(1000000,.arr 312 2)] 52 [xE 0 [(12,.b)]] @X7 n
def Ec:EZ9 278:=Qag (mkW (TR n).ok [Lt n n] 278 Tryz.f278 [eR 1000000 312 2] [eR 1003 312 2] [(1,eK 1000000 312 2)] 0 0 @HU n)
def BW:EZ9 265:=mkW (Xa [⟨277,Az n⟩,⟨279,U1 n⟩,⟨278,Ec n⟩] [(3,⟨[],[],[(6,50021,312,2)],[],[]⟩)]).ok nT 265 Tryz.f265 [sI,sL 2,sL 2] [eT 2,eR 50021 312 2,sI] [] 0 0 @Tp n
def Gu:EZ9 263:=mkW (Xa [⟨264,Q0r n⟩,⟨265,BW n⟩] []).ok nT 263 Tryz.f263 [eA [qI,qI,qI],eA [qI,qI,qI],eP 1000000 1,sI,eP 1000001 1,eR 1000002 312 2] [eT 0] [] 9 1 @Zc n
def T0:BZ9:=Xa [⟨263,Gu n⟩] []
def MR:LZ9:=mkU (T0 n).ok nT 0 Tryz.f262 [(0,.l 3),(1,.l 3),(2,.fn 263 [.ptr 1000000 0,.ptr 1000001 0])] [(98040,.arr 312 2),(1000000,.box [tI]),(1000001,.box [.arr 98040])] 53 [xE 0 [(15,.b)]] @Qr n
def Lo:EZ9 262:=mkW (T0 n).ok [MR n n] 262 Tryz.f262 [sL 3,sL 3,eF 263 2,eP 1000000 1,sI,eP 1000001 1,eR 1000002 312 2] [eT 0] [] 0 1 @KV n
def LA:EZ9 236:=mkW (Xa [⟨234,Nu n⟩,⟨262,Lo n⟩] [(3,⟨[],[],[(6,50024,312,2)],[],[]⟩),(6,⟨[],[],[(6,50024,312,2)],[],[]⟩),(7,⟨[],[],[],[(8,0,2320,312,2)],[]⟩)]).ok nT 236 Tryz.f236 [sI,sL 3,sL 3] [eT 2,eR 50024 312 2,sI] [] 0 0 @Jr n
def CO:EZ9 280:=mkD (Xa [] []).ok nT 280 Tryz.f280 0 @PQ n
def N5:BZ9:=Xa [⟨280,CO n⟩] []
def Ci:LZ9:=mkU (N5 n).ok nT 3 Tryz.f267 [(3,tI),(6,.l 2),(7,tI),(8,tI)] [] 68 [xE 0 [(9,.b)]] @ZU n
def AE:EZ9 267:=mkD (N5 n).ok [Ci n n] 267 Tryz.f267 0 @Ra n
def BM:EZ9 237:=mkD (Xa [⟨266,Me n⟩,⟨267,AE n⟩] []).ok nT 237 Tryz.f237 0 @Tw n
def K5:BZ9:=Xa [⟨236,LA n⟩,⟨237,BM n⟩] [(8,⟨[],[],[],[],[50018]⟩),(11,⟨[],[],[(11,1011,112,2)],[],[]⟩)]
def FO:LZ9:=mkU (K5 n).ok nT 12 Tryz.f201 [(0,tI),(11,.arr 1011),(65,.l 2),(66,tI),(67,tI)] [(1011,.arr 112 2)] 229 [xE 0 [(68,.b)]] @ZB n
def Fe:LZ9:=mkU (K5 n).ok nT 12 Tryz.f201 [(0,tI),(11,.arr 1011),(65,.arr 50018),(66,tI),(67,tI)] [(1011,.arr 112 2),(50018,.arr 312 2)] 157 [xE 0 [(68,.b)]] @YK n
def D7:EZ9 201:=mkD (K5 n).ok [orL (Fe n n) (FO n n)] 201 Tryz.f201 0 @WU n
def XY:BZ9:=Xa [⟨200,Gq n⟩,⟨202,MT n⟩,⟨201,D7 n⟩,⟨198,N3 n⟩,⟨197,Gl n⟩] []
def Ka:LZ9:=mkU (XY n).ok nT 12 Tryz.f138 [(0,.ptr 1000000 0),(3,tI),(4,tI),(14,tI),(15,tI),(63,.l 2),(64,tI),(65,tI)] [(98012,.arr 3 1),(98017,.arr 104 3),(98018,.arr 67 6),(1000000,bT 235 [(12,.arr 98012),(17,.arr 98017),(18,.arr 98018)])] 41152 [xE 4 [(66,.b)]] @Qz n
def GU:LZ9:=mkU (XY n).ok [Ka n n] 5 Tryz.f138 [(0,.ptr 1000000 0),(3,tI),(4,tI),(14,tI),(15,tI)] [(98012,.arr 3 1),(98017,.arr 104 3),(98018,.arr 67 6),(1000000,bT 235 [(12,.arr 98012),(17,.arr 98017),(18,.arr 98018)])] 11622793282 [.f .ret [(2,tI)] [(98012,.arr 3 1),(98017,.arr 104 3),(98018,.arr 67 6),(1000000,bT 235 [(12,.arr 98012),(17,.arr 98017),(18,.arr 98018)])] [0,5,6,0,8,9,10,11,12,13,14,15,16,17,18,19,20,21,22,23],xE 2 [(26,.b)]] @QQ n
def GQ:LZ9:=mkU (XY n).ok [GU n n] 2 Tryz.f138 [(0,.ptr 1000000 0),(14,tI),(15,tI)] [(98012,.arr 3 1),(98017,.arr 104 3),(98018,.arr 67 6),(1000000,bT 235 [(12,.arr 98012),(17,.arr 98017),(18,.arr 98018)])] 1291421482 [.f .ret [(2,tI)] [(98012,.arr 3 1),(98017,.arr 104 3),(98018,.arr 67 6),(1000000,bT 235 [(12,.arr 98012),(17,.arr 98017),(18,.arr 98018)])] [0,3,4,0,6,7,8,9,10,11,12,13,14,15,16,17,18,19,20,21],xE 0 [(16,.b)]] @Qs n
def Kn:EZ9 138:=mkW (XY n).ok [GQ n n] 138 Tryz.f138 (pT 1000000 235 [(12,eR 1000001 3 1),(17,eR 1000002 104 3),(18,eR 1000003 67 6)] []) [sI] [] 221167 524286 @Yk n
def EZ:EZ9 203:=mkD (Xa [] []).ok nT 203 Tryz.f203 0 @Gx n
def Na:BZ9:=Xa [⟨203,EZ n⟩] []
def CI:LZ9:=mkU (Na n).ok nT 4 Tryz.f139 [(1,.ptr 1 0),(26,.l 6),(27,tI),(28,tI)] [(1,.box [tI,.l 3,.l 6])] 373 [.f .ret [(2,.cb false)] [] [],xE 0 [(29,.b)]] @Ul n
def BF:EZ9 139:=mkD (Na n).ok [CI n n] 139 Tryz.f139 0 @Tz n
def Mf:BZ9:=Xa [⟨139,BF n⟩] []
def A0:LZ9:=mkU (Mf n).ok nT 4 Tryz.f82 [(2,.ptr 2 0),(18,.l 1),(19,tI),(20,tI)] [(2,.box [tI,.l 3,.l 6])] 49 [.f .ret [(4,.cb false)] [] [],xE 0 [(21,.b)]] @Vi n
def Q06:EZ9 82:=mkD (Mf n).ok [A0 n n] 82 Tryz.f82 0 @Gg n
def Gs (n:Nat):BZ9:=Xa [] []
def Eh:LZ9:=mkU (Gs n).ok nT 3 Tryz.f83 [(1,.ptr 1 0),(3,.arr 10),(12,tI),(13,tI)] [(1,bT 36 []),(10,.arr 3 1)] 118105 [xE 0 [(14,.b)]] @GX n
def FP:LZ9:=mkU (Gs n).ok nT 8 Tryz.f83 [(3,.arr 10),(21,.l 4),(22,tI),(23,tI)] [(10,.arr 3 1)] 76 [xE 2 [(24,.b)]] @GB n
def Sz:EZ9 83:=mkD (Gs n).ok [Eh n n,FP n n] 83 Tryz.f83 215 @Zu n
def Wu (n:Nat):BZ9:=Xa [] [(1,⟨[],[],[],[(8,0,1080,3,1)],[]⟩)]
def JG:LZ9:=mkU (Wu n).ok nT 2 Tryz.f117 [(2,.ptr 1000000 0),(3,.ptr 1000002 0),(4,.ptr 1000003 0),(5,.ptr 1000004 0),(8,.ptr 8 0),(9,tI)] [(8,.box [.arr 1080,.b]),(1080,.arr 3 1),(98000,.arr 4 1),(98160,.arr 125 2),(1000000,.box [.arr 98000]),(1000002,.box [.l 1]),(1000003,bT 36 []),(1000004,.box [.arr 98160])] 177464 [xE 0 [(17,.b)]] @XG n
def G1:EZ9 117:=mkW (Wu n).ok [JG n n] 117 Tryz.f117 (sI::sB::eP 1000000 1::eR 1000001 4 1::eP 1000002 1::sL 1::pT 1000003 36 [] [eP 1000004 1,eR 1000005 125 2]) [eT 0] [] 3568 1022 @YL n
def Kk:EZ9 119:=mkD (Xa [⟨120,Sx n⟩] []).ok nT 119 Tryz.f119 0 @Vo n
def QR:BZ9:=Xa [⟨119,Kk n⟩] []
def ZX:LZ9:=mkU (QR n).ok nT 4 Tryz.f221 [(0,.arr 1000000),(1,tI),(2,tI),(3,.fn 119 []),(8,tI),(9,tI)] [(1000000,.arr 125 2)] 217 [xE 2 [(34,.b)]] @QS n
def ZV:LZ9:=mkU (QR n).ok [ZX n n] 1 Tryz.f221 [(0,.arr 1000000),(1,tI),(2,tI),(3,.fn 119 []),(8,tI)] [(1000000,.arr 125 2)] 76 [xE 0 [(14,.b)]] @QT n
def W0:EZ9 221:=Qag (mkW (QR n).ok [ZV n n] 221 Tryz.f221 [eR 1000000 125 2,sI,sI,eF 119 0] [eT 0] [(1,eK 1000000 125 2)] 0 0 @Y1 n)
def Yd:BZ9:=Xa [⟨221,W0 n⟩] []
def Uc:LZ9:=mkU (Yd n).ok nT 2 Tryz.f175 [(0,.arr 1000000),(1,tI),(2,tI),(3,tI),(4,.fn 119 []),(10,.cb true),(11,.cb true)] [(1000000,.arr 125 2)] 40 [.f .ret [] [(1000000,.arr 125 2)] [0]] @Ye n
def UA:EZ9 175:=Qag (mkW (Yd n).ok [Uc n n] 175 Tryz.f175 [eR 1000000 125 2,sI,sI,sI,eF 119 0] [eT 0] [(1,eK 1000000 125 2)] 0 0 @Yu n)
def YE:EZ9 118:=Qag (mkW (Xa [⟨132,Nw n⟩,⟨175,UA n⟩] []).ok nT 118 Tryz.f118 [eR 1000000 125 2,eF 119 0] [eT 0] [(1,eK 1000000 125 2)] 0 0 @Xq n)
def U7:BZ9:=Xa [⟨83,Sz n⟩,⟨117,G1 n⟩,⟨118,YE n⟩] [(11,⟨[],[],[],[(7,0,1070,125,2)],[]⟩),(14,⟨[],[],[],[(7,0,2280,125,2)],[]⟩)]
def Ni:LZ9:=mkU (U7 n).ok nT 4 Tryz.f74 [(1,.ptr 1 0),(3,.ptr 3 0),(4,.arr 17),(19,.l 4),(20,tI),(21,tI)] [(1,bT 36 []),(3,.box [.l 1]),(17,.arr 4 1)] 1062904 [xE 0 [(22,.b)]] @VW n
def Nh:LZ9:=mkU (U7 n).ok nT 12 Tryz.f74 [(1,.ptr 1 0),(4,.arr 17),(7,.ptr 7 0),(8,.ptr 8 0),(9,.fn 117 [.ptr 8 0,.ptr 3 0,.ptr 1 0,.ptr 7 0]),(37,tI),(38,tI)] [(1,bT 36 []),(3,.box [.l 1]),(7,.box [.arr 1070]),(8,.box [.arr 33]),(17,.arr 4 1),(33,.arr 4 1),(1070,.arr 125 2)] 4489918 [xE 2 [(39,.b)]] @U6 n
def Nn:LZ9:=mkU (U7 n).ok nT 18 Tryz.f74 [(7,.ptr 7 0),(8,.ptr 8 0),(9,.fn 117 [.ptr 8 0,.ptr 3 0,.ptr 1 0,.ptr 7 0]),(52,tI),(53,tI)] [(1,bT 36 []),(3,.box [.l 1]),(7,.box [.arr 1070]),(8,.box [.arr 33]),(33,.arr 4 1),(1070,.arr 125 2)] 1478419 [xE 4 [(54,.b)]] @U5 n
def Hr:EZ9 74:=mkD (U7 n).ok [Ni n n,Nh n n,Nn n n] 74 Tryz.f74 215 @X8 n
def Vk:EZ9 205:=mkW (Xa [⟨40,RT n⟩] []).ok nT 205 Tryz.f205 (pT 1000000 188 [(18,eR 1000001 3 1),(20,eR 1000002 59 5)] [sI]) [sI] [] 2043903 4194302 @Xt n
def J4:EZ9 144:=mkW (Xa [⟨205,Vk n⟩] []).ok nT 144 Tryz.f144 (pT 1000000 188 [(18,eR 1000001 3 1),(20,eR 1000002 59 5)] [sI,sI]) [eT 2,sI,sB] [] 1126015 8388604 @X1 n
def JF:EZ9 143:=mkW (Xa [⟨205,Vk n⟩] []).ok nT 143 Tryz.f143 (pT 1000000 188 [(18,eR 1000001 3 1),(20,eR 1000002 59 5)] [sI,sI]) [sI] [] 1781759 4194302 @Xo n
def WS:BZ9:=Xa [⟨144,J4 n⟩,⟨143,JF n⟩] []
def TK:LZ9:=mkU (WS n).ok nT 8 Tryz.f140 [(0,.ptr 1000000 0),(5,tI),(7,tI),(15,.l 1),(16,tI),(17,tI),(30,tI),(31,tI)] [(98018,.arr 3 1),(98020,.arr 59 5),(1000000,bT 188 [(18,.arr 98018),(20,.arr 98020)])] 10554668572604 [xE 2 [(32,.b)]] @XC n
def TL:LZ9:=mkU (WS n).ok [TK n n] 5 Tryz.f140 [(0,.ptr 1000000 0),(5,tI),(15,.l 1),(16,tI),(17,tI)] [(98018,.arr 3 1),(98020,.arr 59 5),(1000000,bT 188 [(18,.arr 98018),(20,.arr 98020)])] 390913650842 [xE 0 [(18,.b)]] @X5 n
def Pe:EZ9 140:=mkW (WS n).ok [TL n n] 140 Tryz.f140 (pT 1000000 188 [(18,eR 1000001 3 1),(20,eR 1000002 59 5)] [eA [qL 1,qB]]) [sI] [] 1126015 4194302 @ZP n
def VV:EZ9 141:=mkW (Xa [] []).ok nT 141 Tryz.f141 (sI::sI::sI::eP 1000000 1::pT 1000001 188 [(18,eR 1000002 3 1),(20,eR 1000003 59 5)] [eP 1000004 1,sI,eP 1000005 1,sI]) [eT 0] [] 8388600 7340031 @Qb n
def Pq (n:Nat):BZ9:=Xa [] [(2,⟨[],[],[(7,1007,3,1)],[],[]⟩)]
def E4:LZ9:=mkU (Pq n).ok nT 3 Tryz.f41 [(1,tI),(2,tI),(7,.arr 1007),(11,.l 5),(12,tI),(13,tI)] [(1007,.arr 3 1)] 688 [xE 0 [(14,.b)]] @YM n
def Dc:EZ9 41:=mkD (Pq n).ok [E4 n n] 41 Tryz.f41 11 @GL n
def DW (n:Nat):BZ9:=Xa [] []
def Q3R:LZ9:=mkU (DW n).ok nT 2 Tryz.f121 [(1,tI),(2,.ptr 2 0),(5,tI)] [(2,bT 36 [])] 2194 [.f .ret [(4,.cb true)] [] [],xE 0 [(10,.b)]] @NG n
def Q5D:EZ9 121:=mkD (DW n).ok [Q3R n n] 121 Tryz.f121 223 @Q3b n
def SO:BZ9:=Xa [⟨60,Pr n⟩] []
def EG:LZ9:=mkU (SO n).ok nT 3 Tryz.f123 [(1,tI),(2,.ptr 2 0),(4,.ptr 4 0),(5,.ptr 5 0),(6,tI)] [(2,bT 36 []),(4,.box [.nil,.cb false]),(5,.box [.arr 10,.cb false]),(10,.arr 3 1)] 120292 [.f .ret [(4,.ptr 4 0)] [(4,.box [.arr 10,.b]),(10,.arr 3 1)] [0,0]] @KC n
def Cs:EZ9 123:=mkD (SO n).ok [EG n n] 123 Tryz.f123 223 @KZ n
def RU (n:Nat):BZ9:=Xa [] []
def CN:LZ9:=mkU (RU n).ok nT 2 Tryz.f122 [(0,.arr 1000000),(3,.ptr 3 0),(7,tI),(8,tI)] [(3,.box [.l 1,.b]),(1000000,.arr 4 1)] 178 [xE 0 [(9,.b)]] @HI n
def Bv:EZ9 122:=Qag (mkW (RU n).ok [CN n n] 122 Tryz.f122 [eR 1000000 4 1,eA [qL 1,qB]] [eT 0] [(1,eK 1000000 4 1)] 0 0 @Rm n)
def GJ:BZ9:=Xa [⟨121,Q5D n⟩,⟨123,Cs n⟩,⟨122,Bv n⟩] [(18,⟨[],[],[(7,1007,125,2)],[],[]⟩)]
def BJ:LZ9:=mkU (GJ n).ok nT 4 Tryz.f75 [(1,.ptr 1 0),(3,.arr 12),(4,.arr 16),(18,tI),(19,tI)] [(1,bT 36 []),(12,.arr 4 1),(16,.arr 4 1)] 474586 [xE 0 [(20,.b)]] @Gt n
def BR:LZ9:=mkU (GJ n).ok nT 11 Tryz.f75 [(1,.ptr 1 0),(3,.arr 12),(4,.arr 16),(36,tI),(37,tI)] [(1,bT 36 []),(12,.arr 4 1),(16,.arr 4 1)] 474586 [xE 2 [(38,.b)]] @K9 n
def A7:LZ9:=mkU (GJ n).ok nT 19 Tryz.f75 [(1,.ptr 1 0),(3,.arr 12),(7,.arr 1007),(55,tI),(56,tI)] [(1,bT 36 []),(12,.arr 4 1),(1007,.arr 125 2)] 415537 [xE 4 [(57,.b)]] @GO n
def Q0v:EZ9 75:=mkD (GJ n).ok [BJ n n,BR n n,A7 n n] 75 Tryz.f75 215 @Jb n
def JL:BZ9:=Xa [⟨86,SU n⟩] []
def PF:LZ9:=mkU (JL n).ok nT 2 Tryz.f177 [(0,.ptr 1000000 0),(1,tI),(2,tI),(3,tI),(9,tI)] [(98016,.arr 59 5),(98017,.arr 4 1),(1000000,bT 133 [(16,.arr 98016),(17,.arr 98017)])] 14334558160 [.f .ret [(8,tI)] [(98016,.arr 59 5),(98017,.arr 4 1),(1000000,bT 133 [(16,.arr 98016),(17,.arr 98017)])] [0,5,6,7,8,9,10,11,12,13,14,15,16,17,18,19,20,21,22],xE 0 [(18,.b)]] @XU n
def Gk:EZ9 177:=mkW (JL n).ok [PF n n] 177 Tryz.f177 (pT 1000000 133 [(16,eR 1000001 59 5),(17,eR 1000002 4 1)] [sI,sI,sI]) [sI] [] 208895 524286 @Yl n
def Hp:EZ9 128:=mkW (Xa [⟨65,Gc n⟩,⟨177,Gk n⟩,⟨60,Pr n⟩] []).ok nT 128 Tryz.f128 (pT 1000000 133 [(16,eR 1000001 59 5),(17,eR 1000002 4 1)] [sI,sI]) [eT 2,sI,sB] [] 208255 1048572 @Yy n
def HB:EZ9 129:=mkW (Xa [⟨65,Gc n⟩,⟨177,Gk n⟩] []).ok nT 129 Tryz.f129 (pT 1000000 133 [(16,eR 1000001 59 5),(17,eR 1000002 4 1)] [sI,sI]) [sI] [] 208767 524286 @Xs n
def Vu:BZ9:=Xa [⟨128,Hp n⟩,⟨129,HB n⟩] []
def Re:LZ9:=mkU (Vu n).ok nT 8 Tryz.f124 [(0,.ptr 1000000 0),(3,.ptr 3 0),(5,tI),(6,tI),(15,tI),(16,tI),(32,tI),(33,tI)] [(3,.box [.l 1,.b]),(98016,.arr 59 5),(98017,.arr 4 1),(1000000,bT 133 [(16,.arr 98016),(17,.arr 98017)])] 1162390608464 [xE 2 [(34,.b)]] @Y8 n
def SY:LZ9:=mkU (Vu n).ok [Re n n] 5 Tryz.f124 [(0,.ptr 1000000 0),(3,.ptr 3 0),(5,tI),(15,tI),(16,tI)] [(3,.box [.l 1,.b]),(98016,.arr 59 5),(98017,.arr 4 1),(1000000,bT 133 [(16,.arr 98016),(17,.arr 98017)])] 43051504019 [xE 0 [(17,.b)]] @XK n
def Nf:EZ9 124:=mkW (Vu n).ok [SY n n] 124 Tryz.f124 (pT 1000000 133 [(16,eR 1000001 59 5),(17,eR 1000002 4 1)] [eA [qL 1,qB]]) [sI] [] 208255 524286 @V0 n
def Q1X:EZ9 125:=mkD (Xa [⟨61,AI n⟩] []).ok nT 125 Tryz.f125 0 @RI n
def M2:EZ9 126:=mkW (Xa [] []).ok nT 126 Tryz.f126 (pT 1000000 133 [(16,eR 1000001 59 5),(17,eR 1000002 4 1)] [eA [qI,qI,qI,qI,qI],sB]) [eT 0] [] 65535 65535 @Xc n
def ZH:BZ9:=Xa [⟨124,Nf n⟩,⟨65,Gc n⟩,⟨62,Ha n⟩,⟨125,Q1X n⟩,⟨127,Pz n⟩,⟨126,M2 n⟩,⟨128,Hp n⟩,⟨129,HB n⟩,⟨130,Rw n⟩] []
def Sf:LZ9:=mkU (ZH n).ok nT 15 Tryz.f76 [(0,.ptr 1000000 0),(1,tI),(5,.ptr 5 0),(6,tI),(7,tI),(8,tI),(9,tI),(10,tI),(11,.ptr 11 0),(13,.l 3),(14,tI),(41,tI),(42,tI),(59,tI),(60,tI),(118,tI),(119,tI)] [(5,.box [.l 1,.b]),(11,.box [.x,.x]),(98016,.arr 59 5),(98017,.arr 4 1),(1000000,bT 133 [(16,.arr 98016),(17,.arr 98017)])] 3103084741 [xE 4 [(120,.b)]] @Xh n
def SA:LZ9:=mkU (ZH n).ok [Sf n n] 8 Tryz.f76 [(0,.ptr 1000000 0),(1,tI),(5,.ptr 5 0),(6,tI),(7,tI),(8,tI),(9,tI),(41,tI),(42,tI),(59,tI),(60,tI)] [(5,.box [.l 1,.b]),(98016,.arr 59 5),(98017,.arr 4 1),(1000000,bT 133 [(16,.arr 98016),(17,.arr 98017)])] 31773323548615 [xE 2 [(61,.b)]] @Qj n
def S8:LZ9:=mkU (ZH n).ok [SA n n] 4 Tryz.f76 [(0,.ptr 1000000 0),(1,tI),(5,.ptr 5 0),(6,tI),(7,tI),(41,tI),(42,tI)] [(5,.box [.l 1,.b]),(98016,.arr 59 5),(98017,.arr 4 1),(1000000,bT 133 [(16,.arr 98016),(17,.arr 98017)])] 392263253950 [xE 0 [(43,.b)]] @Y2 n
def RC:EZ9 76:=mkW (ZH n).ok [S8 n n] 76 Tryz.f76 (pT 1000000 133 [(16,eR 1000001 59 5),(17,eR 1000002 4 1)] [sI,eA [qL 1,qB]]) [eT 0] [] 8192 65535 @Uz n
def FW:BZ9:=Xa [⟨7,Ej n⟩,⟨52,DT n⟩,⟨75,Q0v n⟩,⟨76,RC n⟩] [(8,⟨[],[],[],[(31,16,503116,59,5),(31,17,503117,4,1)],[]⟩)]
def Q2z:LZ9:=mkU (FW n).ok nT 9 Tryz.f42 [(10,.ptr 31 0),(11,.l 2),(35,tI),(36,tI)] [(31,bT 133 [(16,.arr 503116),(17,.arr 503117)]),(503116,.arr 59 5),(503117,.arr 4 1)] 9836175757 [xE 0 [(37,.b)]] @Wb n
def Q4p:EZ9 42:=mkX (FW n).ok [Q2z n n] 42 Tryz.f42 [eA [qL 1,qL 1,qL 5,qL 6],eA [qI,qL 5,qL 2,qL 4,qL 7,qL 4,qL 5,qL 3],sL 1] [eT 2,eU,sI] [eT 2,eP 31 18,sL 1,sL 1,sL 5,sL 6,sI,sL 5,sL 2,sL 4,sL 7,sL 4,sL 5,sL 3,sI,sL 3,sL 6,sL 1,eR 503116 59 5,eR 503117 4 1,sI] 0 @MD n
def M3:BZ9:=Xa [⟨42,Q4p n⟩] [(5,⟨[],[],[(10,1010,59,5)],[],[]⟩)]
def An:LZ9:=mkU (M3 n).ok nT 6 Tryz.f12 [(8,.ptr 50016 0),(10,.arr 1010),(26,tI),(27,tI)] [(1010,.arr 59 5),(50016,bT 133 [(16,.arr 100016),(17,.arr 150016)]),(100016,.arr 59 5),(150016,.arr 4 1)] 4649045893 [xE 0 [(28,.b)]] @YJ n
def Q04:EZ9 12:=mkD (M3 n).ok [An n n] 12 Tryz.f12 0 @Hg n
end Go.Vx
namespace Go.Vx
section
variable {R:Type}
theorem Q4l (x:Int):0<=IntKind.wrap .u64 x:=by
 have:=Int.emod_nonneg x (show (18446744073709551616:Int)≠0 by decide);simpa [IntKind.wrap,IntKind.bits,IntKind.signed] using this
theorem QbQ {x:Int} (a:0<=x) (b:x<18446744073709551616):IntKind.wrap .u64 x=x:=by
 have:=Int.emod_eq_of_lt a b;simpa [IntKind.wrap,IntKind.bits,IntKind.signed] using this
def pick (v m:Int):Int:=(IntKind.wrap .u64 v).tmod m
theorem ML (v:Int) {m:Int} (h:0<m):0<=pick v m/\pick v m<m:=by
 unfold pick;rw [Int.tmod_eq_emod_of_nonneg (Q4l v)];exact ⟨Int.emod_nonneg _ (by omega),Int.emod_lt_of_pos _ h⟩
theorem QfK (n:Nat) (v:Int) {m:Int} (h:0<m) (hm:m<=9223372036854775807) (K:Int->oP R):SF n v m K=K (pick v m):=by
 unfold SF;rw [QbQ (x:=m) (by omega) (by omega),Ek (by omega)];simp -implicitDefEqProofs only [Q0];have:=ML v h;unfold pick at this ⊢;rw [Q5c (by omega) (by omega)]
theorem QbG (n:Nat) {l:List Int} (hl:l.length<=9223372036854775807) {i:Nat} (hi:i<=l.length) {m:Int} (h:0<m) (hm:m<=9223372036854775807) :
  ∃ (v:Int) (j:Nat),0<=v/\v<m/\j<=l.length/\∀ (R:Type) (K:Int->Int->oP R),Q5 n (encI l) i m K=K v j:=by
 by_cases ac:i<l.length
 ·have hg:=List.getElem?_eq_getElem ac;refine ⟨pick l[i] m,i+1,(ML _ h).1,(ML _ h).2,by omega,fun R K=>?_⟩;unfold Q5;rw [Qa (by simp [QN];omega),Q5c (x:=(i:Int)+1) (by omega) (by omega),Q5c (by omega) (by omega)];rw [show (i:Int)+1-1=(i:Int) by omega,Jm hg];simp -implicitDefEqProofs only [Q0,List.getElem?_cons_zero,Q2,QfK n _ h hm];rfl
 ·refine ⟨0,i,by omega,h,hi,fun R K=>?_⟩;unfold Q5;rw [QZ (by simp [QN];omega)]
end
def OkP {R:Type} (P:R->Prop) (E:oP R):Prop:=∃ v,E=some v/\P v
instance {R:Type}:Membership (oP R) (R->Prop):=⟨fun P E=>OkP P E⟩
theorem okI {R:Type} {P:R->Prop} {v:R} (h:P v):some v∈P:=⟨v,rfl,h⟩
theorem okB {R S:Type} {P:S->Prop} {E:oP R} {z:R} {f:R->Option S} (h:E∈(fun v=>f v∈P:R->Prop)):gb true E z f∈P:=by
 obtain ⟨v,e,h⟩:=h;rw [e];exact h
theorem VK {R:Type} {n:Nat} {l:List Int} (hl:l.length<=9223372036854775807) {i:Nat} (hi:i<=l.length) {m:Int} (h:0<m) (hm:m<=9223372036854775807) {z:Int × Int} {f:Int × Int->oP R} {P:R->Prop}
  (H:∀ (v:Int) (j:Nat),0<=v->v<m->j<=l.length->f (v,(j:Int))∈P) :
  gb true (Q5 n (encI l) (i:Int) m Tu2) z f∈P:=by
 obtain ⟨v,j,c,d,hj,e⟩:=QbG n hl hi h hm;rw [e];exact H v j c d hj
structure Num (a b c:Int):Prop where
 a0:2<=a
 a1:a<=10
 b0:5000<=b
 b1:b<=35000
 c0 : -10<=c
 c1:c<=10
theorem Q6 {x:Int} (a : -9223372036854775808<=x) (b:x<=9223372036854775807):wJ x=x:=by
 simp only [IntKind.wrap_i64];omega
theorem QeS {R:Type} {n:Nat} {l:List Int} (hl:l.length<=9223372036854775807) {i:Nat} (hi:i<=l.length) {nm:List UInt8} {st:Int} {z:List UInt8 × Int × Int × Int × Int × Int} {f:List UInt8 × Int × Int × Int × Int × Int->oP R} {P:R->Prop}
  (H:∀ (a b c:Int) (j:Nat),Num a b c->j<=l.length->f (nm,a,b,c,st,(j:Int))∈P) :
  gb true (WN n (encI l) (i:Int) nm st Tu6) z f∈P:=by
 obtain ⟨v,j,u,y,hj,e⟩:=QbG n hl hi (show (0:Int)<9 by decide) (by decide);obtain ⟨d,j2,g0,g1,q,e2⟩:=QbG n hl hj (show (0:Int)<7 by decide) (by decide);obtain ⟨r,j3,k0,k1,s,t⟩:=QbG n hl q (show (0:Int)<21 by decide) (by decide);unfold WN;rw [e,Q0,e2,Q0,t,Q0,Q0];rw [Q6 (x:=2+v) (by omega) (by omega),Q6 (x:=5000*d) (by omega) (by omega),Q6 (x:=5000+5000*d) (by omega) (by omega),Q6 (x:=r-10) (by omega) (by omega)];exact H _ _ _ _ ⟨by omega,by omega,by omega,by omega,by omega,by omega⟩ s
theorem two {v:Int} (a:0<=v) (b:v<2):v=0\/v=1:=by omega
theorem Bs {R:Type} (n:Nat) (a:List UInt8) (d:Nat) (hd:d<10) (ha:a.length<=100) (K:List UInt8->oP R):VM n a (d:Int) K=K (a++[UInt8.ofNat (48+d)]):=by
 have:∀ d:Fin 10,∃ q,slB (List.length (bs [48,49,50,51,52,53,54,55,56,57])) (some (Int.tmod (d.val:Int) (10:Int))) (some (wJ ((Int.tmod (d.val:Int) (10:Int))+(1:Int))))=some q/\cut (bs [48,49,50,51,52,53,54,55,56,57]) q=[UInt8.ofNat (48+d.val)]:=by
  intro d
  match d with
  |0=>exact ⟨_,rfl,rfl⟩
  |1=>exact ⟨_,rfl,rfl⟩
  |2=>exact ⟨_,rfl,rfl⟩
  |3=>exact ⟨_,rfl,rfl⟩
  |4=>exact ⟨_,rfl,rfl⟩
  |5=>exact ⟨_,rfl,rfl⟩
  |6=>exact ⟨_,rfl,rfl⟩
  |7=>exact ⟨_,rfl,rfl⟩
  |8=>exact ⟨_,rfl,rfl⟩
  |9=>exact ⟨_,rfl,rfl⟩
 obtain ⟨q,b,h2⟩:=this ⟨d,hd⟩;unfold VM;simp only at b h2;rw [b];have hz:nz (10:Int)=some ():=rfl;rw [hz,Q0,Q0,Q0,h2];have hs:Q9G (a.length+([UInt8.ofNat (48+d)]:List UInt8).length)=some ():=by
  unfold Q9G;rw [show Nat.ble (a.length+([UInt8.ofNat (48+d)]:List UInt8).length) 9223372036854775807=true from Nat.ble_eq_true_of_le (by simp;omega)];rfl
 rw [hs,Q0]
theorem Xr {k:Nat} (h:k<=100000):Y6 k=some ():=by
 unfold Y6;rw [show Nat.ble k 140737488355328=true from Nat.ble_eq_true_of_le (by omega)];rfl
theorem Qiz {R:Type} {n:Nat} {e:LL} {s:List UInt8} {a b c d:Int} {z:Int × LL} {f:Int × LL->oP R} {P:R->Prop} (k:Nat) (hk:e.length=k) (h:k<=1000)
  (H:f ((k:Int),e++[[D.str s,D.int .i64 a,D.int .i64 b,D.int .i64 c,D.int .i64 d]])∈P) :
  gb true (Zj n e s a b c d Tu2) z f∈P:=by
 unfold Zj;rw [Xr (by simp;omega),Q0,Q0];have hl:(e++[[D.str s,D.int .i64 a,D.int .i64 b,D.int .i64 c,D.int .i64 d]]).length=k+1:=by simp [hk]
 rw [hl,Q6 (x:=((k+1:Nat):Int)-1) (by omega) (by omega),show ((k+1:Nat):Int)-1=(k:Int) by omega];exact H
theorem Qj5 {R:Type} {n:Nat} {e:LL} {s:List UInt8} {a b c d:Int} {z:Int × LL} {f:Int × LL->oP R} {P:R->Prop} (k:Nat) (hk:e.length=k) (h:k<=1000) (hn:Num a b c)
  (H:f ((k:Int),e++[[D.str s,D.int .i64 (a+2),D.int .i64 b,D.int .i64 c,D.int .i64 d]])∈P) :
  gb true (Zj n e s (wJ (a+2)) b c d Tu2) z f∈P:=by
 have j:=hn.a0;have l:=hn.a1;rw [Q6 (x:=a+2) (by omega) (by omega)];exact Qiz k hk h H
def QiA (i k:Nat):List UInt8:=bs [84]++[UInt8.ofNat (48+i)]++[UInt8.ofNat (48+k)]
def nmL (i k:Nat):List UInt8:=bs [76]++[UInt8.ofNat (48+i)]++[UInt8.ofNat (48+k)]
abbrev Nt:=Int × Int × Int
def secT (i k:Nat) (x:Nt):List D:=[D.str (QiA i k),Q4 (x.1+2),Q4 x.2.1,Q4 x.2.2,Q4 i]
def secL (i k:Nat) (x:Nt):List D:=[D.str (nmL i k),Q4 x.1,Q4 x.2.1,Q4 x.2.2,Q4 (-1)]
def YF (f:Nat->Nt->List D):Nat->List Nt->LL
 |k+1,x::y=>f (k+1) x::YF f k y
 |_,_=>[]
def ups (k:Nat):Nat->List Nat
 |0=>[]
 |c+1=>k::ups (k+1) c
def Wd (l:List Nat):LL:=l.map fun k=>[Q4 (k:Nat)]
def Hd:List Nt->Prop
 |[]=>True
 |x::r=>Num x.1 x.2.1 x.2.2/\Hd r
section
variable {R:Type} {n:Nat} {l:List Int} (hl:l.length<=9223372036854775807) {P:R->Prop}
include hl
theorem Qhs {i c k j m:Nat} {tl S:LL} {k0:Int->Bool->LL->LL->Int->oP R}
  (hi:i<10) (hc:c+1<10) (hk:S.length=k) (e:k<=500) (ht:tl.length<=500) (hj:j<=l.length)
  (H:∀ (x:Nt) (j:Nat),Num x.1 x.2.1 x.2.2->j<=l.length->G5 n i (encI l) k0 m (c:Int) (tl++[[Q4 k]]) (S++[secT i (c+1) x]) (j:Int)∈P) :
  G5 n (i:Int) (encI l) k0 (m+1) ((c+1:Nat):Int) tl S (j:Int)∈P:=by
 unfold G5;rw [QZ (by simp),Bs n _ i hi (by decide),Q0,Bs n _ (c+1) hc (by simp),Q0];refine QeS hl hj fun a b d j hn hj=>?_
 dsimp only;refine Qj5 k hk (by omega) hn ?_;dsimp only;rw [Xr (by simp;omega),Q0,Q6 (x:=((c+1:Nat):Int)-1) (by omega) (by omega),show ((c+1:Nat):Int)-1=(c:Int) by omega];exact H (a,b,d) j hn hj
theorem Qe3 {i c k j m:Nat} {S:LL} {k0:Int->Bool->LL->LL->Int->oP R}
  (hi:i<10) (hc:c=1\/c=2) (hk:S.length=k) (a:k<=400) (hj:j<=l.length)
  (H:∀ (x:List Nt) (j:Nat),Hd x->x.length=c->j<=l.length->k0 0 false (Wd (ups k c)) (S++YF (secT i) c x) (j:Int)∈P) :
  G5 n (i:Int) (encI l) k0 (m+3) (c:Int) [] S (j:Int)∈P:=by
 rcases hc with rfl | rfl
 ·refine Qhs hl (c:=0) hi (by omega) hk (by omega) (by simp) hj fun x j hx hj=>?_
  exact H [x] j ⟨hx,trivial⟩ rfl hj
 ·refine Qhs hl (c:=1) hi (by omega) hk (by omega) (by simp) hj fun x j hx hj=>?_
  refine Qhs hl (c:=0) (k:=k+1) hi (by omega) (by simp [hk]) (by omega) (by simp) hj fun y j hy hj=>?_
  have:=H [x,y] j ⟨hx,hy,trivial⟩ rfl hj;simp only [YF,ups,Wd,List.map_cons,List.map_nil] at this;show k0 0 false _ (S++[secT i 2 x]++[secT i 1 y]) (j:Int)∈P;rw [List.append_assoc S];exact this
end
end Go.Vx
