/- Part of a proof. No conditions of their own. -/
import Derived.Test.YtnfomkijfeokoaaGreatTB
import Derived.Test.YtnfomkijfeokoaaGreatProg
import Derived.Test.YtnfomkijfeokoaaGreatTC
set_option linter.unusedVariables false
set_option linter.unusedSimpArgs false
noncomputable section

namespace Go.Vx
variable {R:Type} (n:Nat)
def SZ (n:Nat) (a0 a1:Int) (K:Qkl R):oP R:=Qc R (nz (IntKind.wrap .u64 a1)) fun a=>K (wJ (Int.tmod (IntKind.wrap .u64 a0) (IntKind.wrap .u64 a1)))
def Qm (b:LL) (a a1:Int) (K:Qkx R):oP R:=bif decide (a>=(b.length:Int)) then K 0 a else QjF R b (wJ (wJ (a+1)-1)) fun e=>Qc R (SZ n e a1 some) fun f=>K f (wJ (a+1))
def U6 (c:LL) (f:Int) (a1:List UInt8) (a2:Int) (K:(List UInt8)->Int->Int->Int->Int->Int->oP R):oP R:=Qc R (Qm n c f 9 Tu2) fun a=>Qc R (Qm n c a.2 7 Tu2) fun d=>Qc R (Qm n c d.2 21 Tu2) fun e=>K a1 (wJ (2+a.1)) (wJ (5000+wJ (5000*d.1))) (wJ (e.1-10)) a2 e.2
def J4 (n:Nat) (a0:List UInt8) (a1:Int) (K:(List UInt8)->oP R):oP R:=Qke R 10 (Qb R [48,49,50,51,52,53,54,55,56,57] fun d=>Qc R (slB (List.length (bs d)) (some (Int.tmod a1 10)) (some (wJ (Int.tmod a1 10+1)))) fun a=>Qc R (Q9X (a0.length+List.length (cut (bs d) a))) fun c=>K (a0++cut (bs d) a))
def ZA (n:Nat) (a:LL) (b:List UInt8) (c d e f:Int) (K:QkB R):oP R:=Qb R [[D.str b,Ql c,Ql d,Ql e,Ql f]] fun h=>Qc R (Yn ((a.length+h.length)*48)) fun g=>K (wJ (((List.length (a++h):Nat):Int)-1)) (a++h)
def Yx (n:Nat) (a:LL) (a1 a2 b c:Int) (K:Qkr R):oP R:=Qb R [[Ql a1,Ql 1,Ql a2,Ql 0,Ql b,Ql c]] fun e=>Qc R (Yn ((a.length+e.length)*48)) fun d=>K (a++e)
def ZO (a:LL) (K:QkB R):oP R:=Qc R (J4 n (bs [80]) (a.length:Int) some) fun b=>Qb R [[D.str b]] fun c=>Qc R (Yn ((a.length+c.length)*16)) fun u2=>K (wJ (((List.length (a++c):Nat):Int)-1)) (a++c)
def QO (b:Int) (c:LL) (f:Bool) (d e:Int) (k0:Qkn R):Qkm R
 | 0,_,_=>none
 | m+1,a,g=>bif decide (a<e) then bif f then QjF R c a fun j=>Qc R (Yx n g b j d a some) fun k=>QO b c f d e k0 m (wJ (a+1)) k else QjF R c a fun p=>Qc R (Yx n g p b d a some) fun q=>QO b c f d e k0 m (wJ (a+1)) q else k0 a (decide (a<e)) g
def VN (b c:LL) (a1:Int) (a2:LL) (d:Bool) (K:QkA R):oP R:=Qb R (a2.length:Int) fun e=>bif decide (e>1) then gb true (ZO n b Tu2) (0,[]) fun a=>QO n a1 a2 d a.1 e (fun h i f=>K a.2 f) n 0 c else QO n a1 a2 d (-1:Int) e (fun j k g=>K b g) n 0 c
def Gn (c:Int) (h:LL) (k0:QkF R):QkG R
 | 0,_,_,_,_=>none
 | m+1,b,d,i,j=>bif decide (b>0) then Qc R (J4 n (bs [84]) c some) fun k=>Qc R (J4 n k b some) fun l=>gb true (U6 n h j l c Tu6) ([],0,0,0,0,0) fun a=>gb true (ZA n i a.1 (wJ (a.2.1+2)) a.2.2.1 a.2.2.2.1 a.2.2.2.2.1 Tu2) (0,[]) fun g=>Qc R (Yn ((d.length+[[Ql g.1]].length)*8)) fun s=>Gn c h k0 m (wJ (b-1)) (d++[[Ql g.1]]) g.2 a.2.2.2.2.2 else k0 b (decide (b>0)) d i j
def V6 (h2:Int) (b:LL) (k0:QkH R):QkI R
 | 0,_,_,_,_,_=>none
 | m+1,a,c,e,d,f=>bif decide (a<h2) then Qc R (J4 n (bs [83]) a some) fun g=>Qc R (Yn ((c.length+[[D.str g]].length)*16)) fun p=>Qc R (Qm n b f 2 Tu2) fun h=>Gn n a b (fun q r i l o=>Qc R (Yn ((d.length+[[D.sl 1 i]].length)*24)) fun s=>V6 h2 b k0 m (wJ (a+1)) (c++[[D.str g]]) l (d++[[D.sl 1 i]]) o) n (wJ (1+h.1)) [] e h.2 else k0 a (decide (a<h2)) c e d f
def Gl (g:Int) (h:LL) (k0:QkF R):QkG R
 | 0,_,_,_,_=>none
 | m+1,b,c,i,j=>bif decide (b>0) then Qc R (J4 n (bs [76]) g some) fun k=>Qc R (J4 n k b some) fun l=>gb true (U6 n h j l (-1:Int) Tu6) ([],0,0,0,0,0) fun a=>gb true (ZA n i a.1 a.2.1 a.2.2.1 a.2.2.2.1 a.2.2.2.2.1 Tu2) (0,[]) fun f=>Qc R (Yn ((c.length+[[Ql f.1]].length)*8)) fun s=>Gl g h k0 m (wJ (b-1)) (c++[[Ql f.1]]) f.2 a.2.2.2.2.2 else k0 b (decide (b>0)) c i j
def Re (b:LL) (k0:Qkn R):Qkm R
 | 0,_,_=>none
 | m+1,a,c=>Qb R (wJ (a+1)) fun p=>Qa R (decide (p<(b.length:Int))) fun o=>bif o then QjL R b.length a b a.toNat fun f=>QjL R b.length p b (Int.toNat p) fun i=>Qc R (Yx n c f i (-1:Int) 0 some) fun j=>Re b k0 m p j else k0 a o c
def UV (f:Int) (c g:LL) (k0:Int->Bool->LL->LL->LL->LL->Int->oP R):Nat->Int->LL->LL->LL->LL->Int->oP R
 | 0,_,_,_,_,_,_=>none
 | m+1,a,i,j,k,h,l=>Qb R (wJ (a+1)) fun e=>Qa R (decide (e<f)) fun d=>bif d then Qc R (Qm n g l 2 Tu2) fun o=>Gl n a g (fun ai aj b r s=>Re n b (fun ak al t=>QjL R b.length 0 b (Int.toNat 0) fun x=>QjV R c.length a c a.toNat fun aa=>Qc R (VN n i t x aa false Tu2) fun p=>Qb R (wJ ((b.length:Int)-1)) fun ar=>QjL R b.length ar b (Int.toNat ar) fun ad=>QjV R c.length e c (Int.toNat e) fun ah=>Qc R (VN n p.1 p.2 ad ah true Tu2) fun q=>Qc R (Yn ((h.length+[[D.sl 1 b]].length)*24)) fun aq=>UV f c g k0 m e q.1 r q.2 (h++[[D.sl 1 b]]) s) n 0 k) n (wJ (1+o.1)) [] j o.2 else k0 a d i j k h l
def Q2T (b:LL) (d:Int) (K:LL->LL->LL->LL->LL->LL->LL->Int->oP R):oP R:=Qc R (Qm n b d 2 Tu2) fun a=>V6 n (wJ (2+a.1)) b (fun o p f g c h=>UV n (wJ (2+a.1)) c b (fun q r i j k l m=>K f i j k c l [] m) n 0 [] g [] [] h) n 0 [] [] [] a.2
def S9 (n:Nat) (a0:Int) (K:Qkq R):oP R:=K (Q8 (Q9 (decide (a0>=65)) (decide (a0<=90))) (Q9 (decide (a0>=97)) (decide (a0<=122))))
def E2 (n:Nat) (a0:Int) (K:Qkq R):oP R:=K (Q9 (decide (a0>=48)) (decide (a0<=57)))
def Rj (b:List UInt8) (d:Int) (k0:oP R) (k1:Qko R):Qkp R
 | 0,_=>none
 | m+1,a=>bif decide (a<d) then Qc R (Jo b a) fun f=>Qc R (S9 n f some) fun c=>Qd R (!c) (Jo b a) fun g=>Qd R (!c) (E2 n g some) fun e=>Qd R (Q9 (!c) (!e)) (Jo b a) fun h=>bif Q9 (Q9 (!c) (!e)) (h !=95) then k0 else Rj b d k0 k1 m (wJ (a+1)) else k1 a (decide (a<d))
def H7 (a0:List UInt8) (K:Qkq R):oP R:=Qb R (a0.length:Int) fun f=>Qa R (Q8 (decide (f<1)) (decide (f>12))) fun e=>Qd R (!e) (Jo a0 0) fun a=>Qd R (!e) (S9 n a some) fun b=>bif Q8 e (!b) then K false else Rj n a0 f (K false) (fun c d=>K true) n 0
def XC (n:Nat) (e f g h:LL) (i:List UInt8) (a b c d:Int) (K:Qkq R):oP R:=K (Q9 (Q9 (Q9 (Q9 (Q9 (Q9 (Q9 (decide (a>=1)) (decide (a<=400))) (decide (b>=1000))) (decide (b<=100000))) (decide (c>=(-40:Int)))) (decide (c<=40))) (decide (d>=(-1:Int)))) (decide (d<(e.length:Int))))
def YA (n:Nat) (i h b j:LL) (c d e f a g:Int) (K:Qkq R):oP R:=K (Q9 (Q9 (Q9 (Q9 (Q9 (Q9 (Q9 (Q9 (decide (c>=0)) (decide (c<(b.length:Int)))) (decide (e>=0))) (decide (e<(b.length:Int)))) (Q8 (d==0) (d==1))) (Q8 (f==0) (f==1))) (decide (a>=(-1:Int)))) (decide (a<(h.length:Int)))) (Q8 (g==0) (Q9 (g==1) (a !=(-1:Int)))))
def Fc (n:Nat) (a b c d e f:Int) (K:Int->Int->Int->Int->oP R):oP R:=K a b c d
def T2 (h:LL) (h2 d e f g:Int) (k0:oP R) (k1:Qko R):Qkp R
 | 0,_=>none
 | m+1,c=>bif decide (c<h2) then QjG R h c fun b i j k=>Qk2 R b fun l o p=>Qk4 R i j k l fun q r s t=>QjE R o p fun u v=>gb true (Fc n q r s t u v Tu4) (0,0,0,0) fun a=>bif Q8 (Q9 (d==a.1&&e==a.2.1) (f==a.2.2.1&&g==a.2.2.2)) (Q9 (d==a.2.2.1&&e==a.2.2.2) (f==a.1&&g==a.2.1)) then k0 else T2 h h2 d e f g k0 k1 m (wJ (c+1)) else k1 c (decide (c<h2))
def Kf (a0:LL) (a b c d:Int) (K:Qkq R):oP R:=T2 n a0 (a0.length:Int) a b c d (K true) (fun e f=>K false) n 0
def Gq (n:Nat) (i j k l a c:Int) (a1:LL) (K:Qkq R):oP R:=bif (a1.length:Int)==0 then K true else Qa R (Q9 ((a1.length:Int)==1) (a !=(-1:Int))) fun o=>Qd R o (Qi a1 0) fun d=>Qd R o d[4]? fun e=>Qd R o (pIw e) fun b=>Qa R (Q9 o (a==b)) fun p=>Qd R p (Qi a1 0) fun f=>Qd R p f[5]? fun g=>Qd R p (pIw g) fun h=>K (Q9 p (c !=h))
def NQ (n:Nat) (d e c f:LL) (a b:Int) (K:Qkq R):oP R:=K (Q9 (Q9 (decide (a>=0)) (decide (a<(c.length:Int)))) (Q8 (b==0) (b==1)))
def RR (n:Nat) (a b:Int) (K:Qkx R):oP R:=bif b==0 then K a 1 else K a 0
def Lr (n:Nat) (a b:Int) (K:Qkx R):oP R:=bif b==0 then K a 1 else K a 0
def Gs (n:Nat) (h:LL) (c d e f g:Int) (k0:Qkl R) (k1:Qko R):Qkp R
 | 0,_=>none
 | m+1,b=>bif decide (b<c) then QjG R h b fun a o p q=>QjQ R a fun r s=>Qc R a[5]? fun u=>Qk4 R o p q r fun i j k l=>bif Q8 (Q9 (i==d&&j==e) (k==f&&l==g)) (Q9 (i==f&&j==g) (k==d&&l==e)) then Qc R (pIw s) fun t=>k0 t else Gs n h c d e f g k0 k1 m (wJ (b+1)) else k1 b (decide (b<c))
def Ga (k l m c:LL) (f g h i:Int) (K:Qko R):oP R:=Qc R (RR n f g Tu2) fun a=>Qc R (Lr n h i Tu2) fun d=>Qc R (RR n d.1 d.2 Tu2) fun e=>Gs n c (c.length:Int) a.1 a.2 e.1 e.2 (fun j=>K j true) (fun o p=>K 0 false) n 0
def Qv (n:Nat) (a0:LL) (a1:Int) (K:Qkr R):oP R:=bif Nat.beq a0.length 1&&decide (0<=a1)&&decide (a1<=100000) then K (List.replicate a1.toNat (a0.headD [])) else none
def UZ (n:Nat) (e:List UInt8) (a b c d:Int) (K:Qkq R):oP R:=K (Q9 (Q9 (Q9 (Q9 (Q9 (Q9 (Q9 (decide (a>=1)) (decide (a<=40))) (decide (b>=1000))) (decide (b<=100000))) (decide (c>=100))) (decide (c<=2000))) (decide (d>=100))) (decide (d<=2000)))
def UM (n:Nat) (a:LL) (b:Int) (K:Qkr R):oP R:=Qc R (slB a.length none (some (wJ ((a.length:Int)-b)))) fun c=>K (cut a c)
def LV (n:Nat) (a0:Int) (K:Qkq R):oP R:=K (Q8 (Q9 (decide (a0>=97)) (decide (a0<=122))) (Q9 (decide (a0>=65)) (decide (a0<=90))))
def Q1u (n:Nat) (a0:Int) (K:Qkq R):oP R:=K (Q9 (decide (a0>=48)) (decide (a0<=57)))
def M4 (b:List UInt8) (k0:oP R) (k1:Qko R):Qkp R
 | 0,_=>none
 | m+1,a=>Qa R (decide (a<(b.length:Int))) fun h=>bif h then Qc R (Jo b a) fun e=>Qc R (LV n e some) fun c=>Qd R (!c) (Jo b a) fun f=>Qd R (!c) (Q1u n f some) fun d=>Qd R (Q9 (!c) (!d)) (Jo b a) fun g=>bif Q9 (Q9 (!c) (!d)) (g !=95) then k0 else M4 b k0 k1 m (wJ (a+1)) else k1 a h
def Mi (a0:List UInt8) (K:Qkq R):oP R:=Qa R (Q8 (decide ((a0.length:Int)<1)) (decide ((a0.length:Int)>12))) fun e=>Qd R (!e) (Jo a0 0) fun a=>Qd R (!e) (LV n a some) fun b=>bif Q8 e (!b) then K false else M4 n a0 (K false) (fun c d=>K true) n 1
def Rv (n:Nat) (c:LL) (b:Int) (k0:oP R) (k1:Qko R):Qkp R
 | 0,_=>none
 | m+1,a=>bif decide (a<b) then Qkf R c a fun f=>Qkf R c b fun i=>bif f==i then k0 else Rv n c b k0 k1 m (wJ (a+1)) else k1 a (decide (a<b))
def ME (a0:LL) (a1:Int) (K:Qkl R):oP R:=Qkf R a0 a1 fun c=>Qc R (Mi n c some) fun d=>bif !d then K 3 else Rv n a0 a1 (K 5) (fun e f=>K 0) n 0
def Z9 (n:Nat) (b:LL) (k0:Qkn R):Qkm R
 | 0,_,_=>none
 | m+1,a,c=>Qa R (decide (a<(b.length:Int))) fun h=>bif h then Qkf R b a fun d=>Qc R (Yn ((c.length+[[D.str d]].length)*16)) fun g=>Z9 n b k0 m (wJ (a+1)) (c++[[D.str d]]) else k0 a h c
def Hh (c d a e:LL) (K:Qkr R):oP R:=Z9 n a (fun f g b=>K b) n 0 []
def KQ (n:Nat) (a0 a1 a2:Int) (K:Qkq R):oP R:=K (Q9 (decide (a0>=a1)) (decide (a0<=a2)))
def Bj (n:Nat) (c d e f g h a b:Int) (K:Qkq R):oP R:=K (Q8 (Q9 (c==a) (d==b)) (Q9 (e==a) (f==b)))
def PN (d:Int) (e:LL) (f g:Int) (k0:Int->Int->Bool->D->D->D->D->D->D->oP R):Nat->Int->Int->D->D->D->D->D->D->oP R
 | 0,_,_,_,_,_,_,_,_=>none
 | m+1,h,a,i,j,k,l,o,p=>bif decide (a<d) then QjG R e a fun b q r s=>Qk2 R b fun t u v=>Qk4 R q r s t fun x y z aa=>QjE R u v fun ab ac=>Qc R (Bj n x y z aa ab ac f g some) fun ad=>bif ad then QjG R e a fun c ae ag ah=>Qk2 R c fun ai aj ak=>PN d e f g k0 m (wJ (h+1)) (wJ (a+1)) ae ag ah ai aj ak else PN d e f g k0 m h (wJ (a+1)) i j k l o p else k0 h a (decide (a<d)) i j k l o p
def BU (p q r f:LL) (a1 h i:Int) (K:Qkq R):oP R:=Qc R (Qi f a1) fun b=>Qc R b[0]? fun s=>Qc R b[1]? fun t=>Qkb R b (Qc R b[4]? fun g=>Qc R b[5]? fun j=>Qb R (Ql 0) fun ah=>PN n a1 f h i (fun a x y z aa ab ac k l=>Qa R (a==0) fun ag=>Qd R (!ag&&a==1) (pIw g) fun c=>Qa R (Q9 (a==1) (decide (c>=0))) fun ad=>QjM R k (!ag&&ad) g fun d e=>Qa R (Q9 ad (d==e)) fun ae=>QjM R l (!ag&&ae) j fun m o=>K (Q8 ag (Q9 ae (m !=o)))) n 0 0 ah ah ah ah ah ah)
def He (e:Int) (f:LL) (g h i j:Int) (k0:oP R) (k1:Qko R):Qkp R
 | 0,_=>none
 | m+1,b=>bif decide (b<e) then QjG R f b fun c k l o=>Qk2 R c fun p q r=>Qk4 R k l o p fun s t u v=>QjE R q r fun x y=>Qc R (Bj n s t u v x y g h some) fun a=>Qd R a (Qi f b) fun d=>Qkd R d a fun z aa=>Qd R a d[2]? fun ab=>Qd R a d[3]? fun ac=>Qd R a d[4]? fun ad=>Qd R a d[5]? fun ae=>QjM R z a aa fun ag ah=>QjM R ab a ac fun ai aj=>QjM R ad a ae fun ak al=>Qd R a (Bj n ag ah ai aj ak al i j some) fun am=>bif Q9 a am then k0 else He e f g h i j k0 k1 m (wJ (b+1)) else k1 b (decide (b<e))
def G9 (p i g h:LL) (a1:Int) (K:Qkl R):oP R:=QjG R h a1 fun e q r s=>Qk2 R e fun t u v=>Qc R (pIw q) fun z=>Qb R (wJ ((g.length:Int)-1)) fun ap=>Qc R (KQ n z 0 ap some) fun a=>Qd R (!(!a)) (pIw s) fun aa=>Qd R (!(!a)) (KQ n aa 0 ap some) fun b=>Qa R (Q8 (!a) (!b)) fun al=>Qd R (!al) (pIw r) fun ab=>Qd R (!al) (KQ n ab 0 1 some) fun c=>Qa R (Q8 al (!c)) fun ao=>Qd R (!ao) (pIw t) fun ac=>Qd R (!ao) (KQ n ac 0 1 some) fun d=>Qa R (Q8 ao (!d)) fun ak=>Qd R (!ak) (pIw u) fun ad=>Qd R (!ak) (KQ n ad (-1:Int) (wJ ((i.length:Int)-1)) some) fun f=>Qa R (Q8 ak (!f)) fun am=>Qd R (!am) (pIw v) fun ae=>Qd R (!am) (KQ n ae 0 1 some) fun j=>Qa R (Q8 am (!j)) fun an=>Qd R (!an) (pIw u) fun x=>Qd R (!an&&decide (x<0)) (pIw v) fun ag=>bif Q8 an (Q9 (decide (x<0)) (ag !=0)) then K 4 else Qk4 R q r s t fun k l m o=>bif k==m&&l==o then K 1 else He n a1 h k l m o (K 5) (fun ai aj=>Qc R (BU n p i g h a1 k l some) fun y=>Qd R (!(!y)) (BU n p i g h a1 m o some) fun ah=>bif Q8 (!y) (!ah) then K 11 else K 0) n 0
def Rr (h2:LL) (k0:Qkl R) (k1:Qko R):Qkp R
 | 0,_=>none
 | m+1,a=>Qa R (decide (a<(h2.length:Int))) fun c=>bif c then Qc R (ME n h2 a some) fun b=>bif b !=0 then k0 b else Rr h2 k0 k1 m (wJ (a+1)) else k1 a c
def Ry (b:LL) (k0:Qkl R) (k1:Qko R):Qkp R
 | 0,_=>none
 | m+1,a=>Qa R (decide (a<(b.length:Int))) fun d=>bif d then Qc R (ME n b a some) fun c=>bif c !=0 then k0 c else Ry b k0 k1 m (wJ (a+1)) else k1 a d
def JF (g h e:LL) (k0:Qkl R) (k1:Qko R):Qkp R
 | 0,_=>none
 | m+1,b=>Qa R (decide (b<(e.length:Int))) fun x=>bif x then Qc R (ME n g b some) fun i=>bif i !=0 then k0 i else QjP R e b fun c j=>Qc R c[2]? fun k=>QjQ R c fun l o=>Qc R (pIw j) fun p=>Qc R (KQ n p 1 400 some) fun a=>Qd R (!(!a)) (pIw k) fun q=>Qd R (!(!a)) (KQ n q 1000 100000 some) fun d=>Qa R (Q8 (!a) (!d)) fun v=>Qd R (!v) (pIw l) fun r=>Qd R (!v) (KQ n r (-40:Int) 40 some) fun f=>Qa R (Q8 v (!f)) fun y=>Qd R (!y) (pIw o) fun s=>Qd R (!y) (KQ n s (-1:Int) (wJ ((h.length:Int)-1)) some) fun t=>bif Q8 y (!t) then k0 4 else JF g h e k0 k1 m (wJ (b+1)) else k1 b x
def Jw (c d e b:LL) (k0:Qkl R) (k1:Qko R):Qkp R
 | 0,_=>none
 | m+1,a=>Qa R (decide (a<(b.length:Int))) fun g=>bif g then Qc R (G9 n c d e b a some) fun f=>bif f !=0 then k0 f else Jw c d e b k0 k1 m (wJ (a+1)) else k1 a g
def Gu (a c b d:LL) (K:Qkl R):oP R:=bif Q8 (Q8 (Q8 (decide ((a.length:Int)>24)) (decide ((c.length:Int)>48))) (decide ((b.length:Int)>96))) (decide ((d.length:Int)>192)) then K 7 else bif (b.length:Int)==0 then K 1 else Rr n a (fun e=>K e) (fun j k=>Ry n c (fun f=>K f) (fun l m=>Qc R (Hh n a c b d some) fun g=>JF n g a b (fun h=>K h) (fun o p=>Jw n a c b d (fun i=>K i) (fun q r=>K 0) n 0) n 0) n 0) n 0
def T4 (n:Nat) (a0 a1 a2:Int) (K:Qkq R):oP R:=K (Q9 (decide (a0>=a1)) (decide (a0<=a2)))
def ZE (n:Nat) (c:LL) (b d:Int) (k0:Qkn R):Qkm R
 | 0,_,_=>none
 | m+1,h2,a=>Qa R (decide (h2<(c.length:Int))) fun am=>bif am then QjG R c h2 fun e i j k=>Qk2 R e fun l g h=>Qb R (wJ (h2+1)) fun an=>jn (fun (f aa:Int)=>(bif decide (f>=0) then bif aa==1 then QjE R g h fun o p=>Qb R [[Ql f,Ql 1,Ql o,Ql p]] fun ap=>Qc R (Yn ((a.length+ap.length)*32)) fun ai=>ZE n c b d k0 m an (a++ap) else QjE R g h fun q r=>Qb R [[Ql f,Ql 0,Ql q,Ql r]] fun aq=>Qc R (Yn ((a.length+aq.length)*32)) fun aj=>ZE n c b d k0 m an (a++aq) else ZE n c b d k0 m an a:oP R)) fun s=>Qc R (pIw i) fun t=>Qd R (t==b) (pIw j) fun ab=>bif Q9 (t==b) (ab==d) then QjE R k l fun ac ad=>s ac ad else Qc R (pIw k) fun u=>Qd R (u==b) (pIw l) fun ae=>bif Q9 (u==b) (ae==d) then QjE R i j fun ag ah=>s ag ah else bif decide ((-1:Int)>=0) then Qb R (Ql (-1:Int)) fun ao=>bif 0==1 then QjE R g h fun v x=>Qb R [[ao,Ql 1,Ql v,Ql x]] fun ar=>Qc R (Yn ((a.length+ar.length)*32)) fun ak=>ZE n c b d k0 m an (a++ar) else QjE R g h fun y z=>Qb R [[ao,Ql 0,Ql y,Ql z]] fun au=>Qc R (Yn ((a.length+au.length)*32)) fun al=>ZE n c b d k0 m an (a++au) else ZE n c b d k0 m an a else k0 h2 am a
def Ah (f g h a:LL) (b c:Int) (K:Qkr R):oP R:=bif c==1 then ZE n a b 0 (fun i j d=>K d) n 0 [] else ZE n a b 1 (fun k l e=>K e) n 0 []
def Sb (n:Nat) (h2:LL) (c d:Int) (k0:D->D->D->D->oP R) (k1:Qko R):Qkp R
 | 0,_=>none
 | m+1,a=>Qa R (decide (a<(h2.length:Int))) fun p=>bif p then QjR R h2 a fun f g=>QjE R f g fun h i=>bif h==c&&i==d then QjX R h2 a fun j k l o=>k0 j k l o else Sb n h2 c d k0 k1 m (wJ (a+1)) else k1 a p
def Gi (a b c d:LL) (e f g h:Int) (K:D->D->D->D->Bool->oP R):oP R:=Qc R (Ah n a b c d e f some) fun i=>Sb n i g h (fun j k l m=>K j k l m true) (fun o p=>Qb R (Ql 0) fun q=>K q q q q false) n 0
def Z4 (c a:LL) (k0:oP R) (k1:Qko R):Qkp R
 | 0,_=>none
 | m+1,h2=>Qa R (decide (h2<(a.length:Int))) fun k=>bif k then QjF R a h2 fun f=>Qc R (T4 n f 0 (wJ ((c.length:Int)-1)) some) fun b=>Qk5 R a h2 (!(!b)) fun i=>Qd R (!(!b)) (T4 n i 0 1 some) fun j=>bif Q8 (!b) (!j) then k0 else Z4 c a k0 k1 m (wJ (h2+1)) else k1 h2 k
def Ko (n:Nat) (b:Int) (c:LL) (k0:oP R) (k1:Qko R):Qkp R
 | 0,_=>none
 | m+1,a=>bif decide (a<b) then QjF R c a fun f=>QjF R c b fun i=>bif f==i then k0 else Ko n b c k0 k1 m (wJ (a+1)) else k1 a (decide (a<b))
def Ji (b:LL) (k0:oP R) (k1:Qko R):Qkp R
 | 0,_=>none
 | m+1,a=>Qa R (decide (a<(b.length:Int))) fun e=>bif e then Ko n a b k0 (fun c d=>Ji b k0 k1 m (wJ (a+1))) n 0 else k1 a e
def YZ (c d e f b:LL) (k0:oP R) (k1:Qko R):Qkp R
 | 0,_=>none
 | m+1,a=>Qa R (decide (a<(b.length:Int))) fun s=>bif s then QjR R b (wJ (a-1)) fun i j=>QjR R b a fun k l=>Qk4 R i j k l fun o p q r=>Qc R (Gi n c d e f o p q r Tu5) fun y=>bif !y.2.2.2.2 then k0 else YZ c d e f b k0 k1 m (wJ (a+1)) else k1 a s
def Jq (d e b f a:LL) (c:Int) (K:Qkl R):oP R:=Qc R (Gu n d e b f some) fun g=>bif g !=0 then K 1 else bif Q8 (decide ((a.length:Int)>24)) (decide (c>2)) then K 7 else bif Q8 (decide (c<0)) (decide (wJ ((a.length:Int)-c)<2)) then K 4 else Z4 n b a (K 4) (fun h i=>Ji n a (K 5) (fun j k=>YZ n d e b f a (K 11) (fun l m=>K 0) n 1) n 0) n 0
def Mh (n:Nat) (a b:Int) (K:Qkx R):oP R:=bif b==0 then K a 0 else K a 1
def ZX (n:Nat) (d:LL) (b:Int) (k0:Qkn R):Qkm R
 | 0,_,_=>none
 | m+1,a,c=>bif decide (a<b) then QjF R d a fun e=>Qc R (Yn ((c.length+[[Ql e,Ql 0]].length)*16)) fun h=>ZX n d b k0 m (wJ (a+1)) (c++[[Ql e,Ql 0]]) else k0 a (decide (a<b)) c
def We (n:Nat) (c:LL) (k0:Qkn R):Qkm R
 | 0,_,_=>none
 | m+1,a,b=>bif decide (a>=0) then QjF R c a fun d=>Qc R (Yn ((b.length+[[Ql d,Ql 1]].length)*16)) fun g=>We n c k0 m (wJ (a-1)) (b++[[Ql d,Ql 1]]) else k0 a (decide (a>=0)) b
def YS (a c:LL) (a1 a2 d:Int) (p:Bool) (K:Qks R):oP R:=QjV R c.length a1 c a1.toNat fun b=>Qb R (wJ (a1+1)) fun ax=>Qb R (Int.toNat ax) fun ay=>bif p then QjV R a.length a1 a a1.toNat fun t=>QjV R a.length a1 a a1.toNat fun e=>Qc R (nz (e.length:Int)) fun ba=>QjF R t (Int.tmod a2 (e.length:Int)) fun f=>Qc R (Yn ([[Ql f,Ql 0]].length*16)) fun bb=>ZX n b (b.length:Int) (fun bc bd g=>QjV R a.length ax a ay fun ab=>QjV R a.length ax a ay fun h=>Qc R (nz (h.length:Int)) fun bh=>QjF R ab (Int.tmod d (h.length:Int)) fun i=>Qc R (Yn ((g.length+[[Ql i,Ql 0]].length)*16)) fun bi=>K (g++[[Ql i,Ql 0]]) 0) n 0 [[Ql f,Ql 0]] else QjV R a.length ax a ay fun aj=>QjV R a.length ax a ay fun j=>Qc R (nz (j.length:Int)) fun bl=>QjF R aj (Int.tmod d (j.length:Int)) fun k=>Qc R (Yn ([[Ql k,Ql 1]].length*16)) fun bm=>We n b (fun bn bo l=>QjV R a.length a1 a a1.toNat fun aq=>QjV R a.length a1 a a1.toNat fun m=>Qc R (nz (m.length:Int)) fun br=>QjF R aq (Int.tmod a2 (m.length:Int)) fun o=>Qc R (Yn ((l.length+[[Ql o,Ql 1]].length)*16)) fun bt=>K (l++[[Ql o,Ql 1]]) 0) n (wJ ((b.length:Int)-1)) [[Ql k,Ql 1]]
def Wy (c:LL) (k0:Int->Bool->LL->Int->oP R):Nat->Int->LL->Int->oP R
 | 0,_,_,_=>none
 | m+1,a,b,d=>bif decide (a<3) then Qc R (Qm n c d 2 Tu2) fun e=>QjH R 3 a b a.toNat fun h=>Wy c k0 m (wJ (a+1)) (List.set b a.toNat (List.set h 0 (Ql e.1))) e.2 else k0 a (decide (a<3)) b d
def QR (k:Bool) (g:Int) (j l o h:LL) (k0:QkF R):QkG R
 | 0,_,_,_,_=>none
 | m+1,a,i,b,t=>bif decide (a<g) then Qb R (wJ (a+1)) fun ba=>Qa R (decide (ba<g)) fun c=>bif !k then Qb R (wJ (wJ (g-1)-a)) fun ax=>QjL R 3 ax j (Int.toNat ax) fun z=>QjL R 3 (wJ (ax+1)) j (Int.toNat (wJ (ax+1))) fun ac=>Qc R (YS n l o ax z ac k Tu2) fun e=>Qb R [[D.sl 2 e.1,Ql e.2]] fun az=>Qc R (Yn ((b.length+az.length)*32)) fun am=>Qc R (Qm n h t 3 Tu2) fun p=>Qb R (Ql (wJ (((List.length (b++az):Nat):Int)-1))) fun aw=>bif c then Qc R (Qm n h p.2 6 Tu2) fun r=>Qc R (Qm n h r.2 4 Tu2) fun u=>Qb R [[aw,Ql p.1,Ql (wJ (5+r.1)),Ql (wJ (wJ (5+r.1)+u.1))]] fun bb=>Qc R (Yn ((i.length+List.length bb)*32)) fun an=>QR k g j l o h k0 m ba (i++bb) (b++az) u.2 else Qb R [[aw,Ql p.1,Ql 0,Ql 0]] fun be=>Qc R (Yn ((i.length+List.length be)*32)) fun ao=>QR k g j l o h k0 m ba (i++be) (b++az) p.2 else QjL R 3 a j a.toNat fun ag=>QjL R 3 ba j (Int.toNat ba) fun aj=>Qc R (YS n l o a ag aj k Tu2) fun f=>Qb R [[D.sl 2 f.1,Ql f.2]] fun ay=>Qc R (Yn ((b.length+ay.length)*32)) fun ar=>Qc R (Qm n h t 3 Tu2) fun q=>Qb R (Ql (wJ (((List.length (b++ay):Nat):Int)-1))) fun d=>bif c then Qc R (Qm n h q.2 6 Tu2) fun s=>Qc R (Qm n h s.2 4 Tu2) fun v=>Qb R [[d,Ql q.1,Ql (wJ (5+s.1)),Ql (wJ (wJ (5+s.1)+v.1))]] fun bc=>Qc R (Yn ((i.length+List.length bc)*32)) fun au=>QR k g j l o h k0 m ba (i++bc) (b++ay) v.2 else Qb R [[d,Ql q.1,Ql 0,Ql 0]] fun bh=>Qc R (Yn ((i.length+List.length bh)*32)) fun av=>QR k g j l o h k0 m ba (i++bh) (b++ay) q.2 else k0 a (decide (a<g)) i b t
def Vg (f g b:LL) (h:Int) (i c:LL) (j:Bool) (k:Int) (K:Int->LL->LL->oP R):oP R:=Qc R (J4 n (bs [78]) (c.length:Int) some) fun a=>Qc R (Qm n b h 4 Tu2) fun d=>Wy n b (fun r s m o=>QR n j k m f g b (fun t u e p q=>Qb R [[D.str a,Ql 0,Ql d.1,D.sl 4 e]] fun l=>Qc R (Yn ((c.length+l.length)*56)) fun v=>K q p (c++l)) n 0 [] i o) n 0 [[Ql 0],[Ql 0],[Ql 0]] d.2
def Mo (n:Nat) (q:Int) (r c d s t u v:LL) (a1 a2:Int) (K:Qkl R):oP R:=QjO R d a1 fun g=>QjF R g a2 fun j=>QjI R c j fun a b=>Qc R a[1]? fun x=>Qc R (pSl 2 b) fun k=>Qc R (pSl 2 b) fun l=>QjF R k (wJ ((l.length:Int)-1)) fun p=>K p
def SA (n:Nat) (p:Int) (q a b r s t u:LL) (a1 a2:Int) (K:Qkl R):oP R:=QjO R b a1 fun e=>QjF R e a2 fun h=>Qki R a h fun k=>QjF R k 0 fun o=>K o
def YK (c p:Int) (q r f s t u h:LL) (v:Int) (k0:QkH R):QkI R
 | 0,_,_,_,_,_=>none
 | m+1,b,i,j,g,y=>bif decide (b<p) then Qc R (Qm n h y 3 Tu2) fun a=>Qa R (decide (a.1>0)) fun l=>Qd R l (inB 4 c) fun al=>Qd R l i[c.toNat]? fun z=>Qd R l z[0]? fun aa=>Qd R l (Gp aa) fun d=>Qa R (Q9 l (!d)) fun k=>Qd R k (inB 4 b) fun am=>Qd R k j[b.toNat]? fun ab=>Qd R k ab[0]? fun ac=>Qd R k (Gp ac) fun e=>Qa R (Q9 k (!e)) fun ar=>Qd R ar (inB f.length c) fun an=>Qd R ar f[c.toNat]? fun ad=>Qd R ar ad[3]? fun ae=>Qd R ar (pSl 4 ae) fun ag=>Qd R ar (Mo n v q r f s g t u c (wJ ((ag.length:Int)-1)) some) fun ah=>Qd R ar (SA n v q r f s g t u b 0 some) fun ai=>bif Q9 ar (ah==ai) then QjH R 4 c i c.toNat fun aj=>QjH R 4 b j b.toNat fun ak=>Qc R (Qm n h a.2 10 Tu2) fun o=>Qc R (Qm n h o.2 30 Tu2) fun x=>Qb R [[Ql c,Ql b,Ql (wJ (10+o.1)),Ql (wJ (wJ (10+o.1)+x.1))]] fun au=>Qc R (Yn ((g.length+au.length)*32)) fun aq=>YK c p q r f s t u h v k0 m (wJ (b+1)) (List.set i c.toNat (List.set aj 0 (D.bool true))) (List.set j b.toNat (List.set ak 0 (D.bool true))) (g++au) x.2 else YK c p q r f s t u h v k0 m (wJ (b+1)) i j g a.2 else k0 b (decide (b<p)) i j g y
def Uv (a:Int) (c d b e f g h:LL) (i:Int) (k0:QkH R):QkI R
 | 0,_,_,_,_,_=>none
 | m+1,h2,j,k,l,o=>bif decide (h2<a) then YK n h2 (b.length:Int) c d b e f g h i (fun t u p q r s=>Uv a c d b e f g h i k0 m (wJ (h2+1)) p q r s) n 0 j k l o else k0 h2 (decide (h2<a)) j k l o
def N2 (b:LL) (c d:Int) (e f a g h i j:LL) (K:QkB R):oP R:=Qb R [D.bool false] fun r=>Uv n (a.length:Int) e f a g i j b d (fun m o p q k l=>K l k) n 0 [r,r,r,r] [r,r,r,r] h c
def Q09 (n:Nat) (a0:LL) (K:Qks R):oP R:=K a0 0
def Gx (c g e:LL) (k0:Int->Bool->Int->LL->LL->oP R):QkC R
 | 0,_,_,_,_=>none
 | m+1,d,h,i,j=>bif decide (d>0) then Qc R (Qm n c h 2 Tu2) fun k=>Qc R (Qm n c k.2 (e.length:Int) Tu2) fun l=>gb true (Vg n g e c l.2 i j (k.1==0) (wJ (1+l.1)) Tu3) (0,[],[]) fun f=>Gx c g e k0 m (wJ (d-1)) f.1 f.2.1 f.2.2 else k0 d (decide (d>0)) h i j
def Jr (h:Int) (e k l a f o:LL) (k0:QkJ R):Qkz R
 | 0,_,_,_=>none
 | m+1,i,t,g=>Qb R (a.length:Int) fun ar=>Qa R (Q9 (decide (i>0)) (decide (ar>1))) fun b=>bif b then Qc R (Qm n e t ar Tu2) fun d=>Qc R (Qm n e d.2 3 Tu2) fun s=>Qc R (nz ar) fun ak=>QjH R a.length d.1 a (Int.toNat d.1) fun x=>Qc R x[3]? fun y=>Qc R (pSl 4 y) fun z=>Qc R (Qm n e s.2 (z.length:Int) Tu2) fun p=>Qb R (Int.tmod (wJ (d.1+1)) ar) fun c=>QjH R a.length c a (Int.toNat c) fun aa=>Qc R aa[3]? fun ab=>Qc R (pSl 4 ab) fun ac=>Qc R (Qm n e p.2 (ac.length:Int) Tu2) fun q=>Qc R (Qm n e q.2 20 Tu2) fun j=>Qc R (Qm n e j.2 h Tu2) fun r=>Qc R (Mo n h k l a g o [] [] d.1 p.1 some) fun u=>QjH R f.length u f u.toNat fun ad=>Qk7 R ad fun ag=>Qc R (SA n h k l a g o [] [] c q.1 some) fun v=>QjH R f.length v f v.toNat fun ah=>Qk7 R ah fun aj=>bif ag==aj then Qb R [[Ql d.1,Ql p.1,Ql c,Ql q.1,Ql j.1,Ql (wJ (j.1+r.1)),Ql s.1]] fun aq=>Qc R (Yn ((g.length+aq.length)*56)) fun ap=>Jr h e k l a f o k0 m (wJ (i-1)) r.2 (g++aq) else Jr h e k l a f o k0 m (wJ (i-1)) r.2 g else k0 i b t g
def VF (e a:LL) (k0:QkJ R):Qkz R
 | 0,_,_,_=>none
 | m+1,f,j,g=>bif decide (f>0) then Qb R (a.length:Int) fun c=>Qc R (Qm n e j c Tu2) fun d=>Qc R (Qm n e d.2 (wJ (c-1)) Tu2) fun h=>Qc R (nz c) fun k=>Qc R (Qm n e h.2 9 Tu2) fun i=>Qb R [[Ql d.1,Ql (Int.tmod (wJ (wJ (d.1+1)+h.1)) c),Ql (wJ (1+i.1))]] fun b=>Qc R (Yn ((g.length+b.length)*24)) fun l=>VF e a k0 m (wJ (f-1)) i.2 (g++b) else k0 f (decide (f>0)) j g
def HA (e a:LL) (k0:QkJ R):Qkz R
 | 0,_,_,_=>none
 | m+1,f,j,g=>bif decide (f>0) then Qb R (a.length:Int) fun c=>Qc R (Qm n e j c Tu2) fun d=>Qc R (Qm n e d.2 (wJ (c-1)) Tu2) fun h=>Qc R (nz c) fun k=>Qc R (Qm n e h.2 9 Tu2) fun i=>Qb R [[Ql d.1,Ql (Int.tmod (wJ (wJ (d.1+1)+h.1)) c),Ql (wJ (1+i.1))]] fun b=>Qc R (Yn ((g.length+b.length)*24)) fun l=>HA e a k0 m (wJ (f-1)) i.2 (g++b) else k0 f (decide (f>0)) j g
def SP (a0:LL) (K:LL->LL->LL->LL->Int->LL->LL->LL->LL->LL->LL->LL->oP R):oP R:=Qc R (Q09 n a0 Tu2) fun a=>gb true (Q2T n a.1 a.2 Tu8) ([],[],[],[],[],[],[],0) fun c=>Qc R (Qm n a.1 c.2.2.2.2.2.2.2 6 Tu2) fun d=>Qb R [[Ql 150],[Ql 120],[Ql 180],[Ql 240],[Ql 300],[Ql 90]] fun v=>QjL R (List.length v) d.1 v (Int.toNat d.1) fun e=>Qc R (Qm n a.1 d.2 2 Tu2) fun f=>Qc R (Qm n a.1 f.2 4 Tu2) fun g=>Qc R (Qm n a.1 g.2 3 Tu2) fun h=>Qc R (Qm n a.1 h.2 3 Tu2) fun i=>Qc R (Qm n a.1 i.2 3 Tu2) fun q=>Gx n a.1 c.2.2.2.2.1 c.2.2.2.2.2.1 (fun ae ag z k j=>Qb R [[D.str (bs [88]),Ql (wJ (1+f.1)),Ql (wJ (10000+wJ (5000*g.1))),Ql (wJ (400+wJ (200*h.1))),Ql (wJ (400+wJ (200*i.1)))]] fun b=>gb true (N2 n a.1 z e b k j [] [] [] [] Tu2) (0,[]) fun l=>Qc R (Qm n a.1 l.1 3 Tu2) fun r=>Jr n e a.1 b k j c.2.2.1 l.2 (fun ah ai aa s=>Qc R (Qm n a.1 aa 4 Tu2) fun o=>bif Q9 (o.1==3) (decide ((j.length:Int)>1)) then Qc R (Qm n a.1 o.2 e Tu2) fun p=>Qb R [[Ql 0,Ql 0,Ql 1,Ql 0,Ql p.1]] fun x=>Qc R (Yn ((List.length ([]:LL)+x.length)*40)) fun aj=>Qc R (Qm n a.1 p.2 3 Tu2) fun t=>VF n a.1 c.1 (fun ak al am ab=>K c.1 c.2.1 c.2.2.1 c.2.2.2.1 e b k j s l.2 ([]++x) ab) n t.1 t.2 [] else Qc R (Qm n a.1 o.2 3 Tu2) fun u=>HA n a.1 c.1 (fun an ao ap ac=>K c.1 c.2.1 c.2.2.1 c.2.2.2.1 e b k j s l.2 [] ac) n u.1 u.2 []) n r.1 r.2 []) n (wJ (1+q.1)) q.2 [] []
def VJ (n:Nat) (a b:List UInt8) (K:Qkq R):oP R:=K (a==b)
def X1 (c:LL) (h2:Int) (d:List UInt8) (k0:Qkl R) (k1:Qko R):Qkp R
 | 0,_=>none
 | m+1,a=>bif decide (a<h2) then QjG R c a fun b e f g=>QjQ R b fun h i=>Qc R (NB e) fun j=>QjT R f g (QjT R h i (Qc R (VJ n j d some) fun k=>bif k then k0 a else X1 c h2 d k0 k1 m (wJ (a+1)))) else k1 a (decide (a<h2))
def Y0 (a0:LL) (a:List UInt8) (K:Qkl R):oP R:=X1 n a0 (a0.length:Int) a (fun b=>K b) (fun c d=>K (-1:Int)) n 0
def XP (a0:LL) (a:List UInt8) (K:Qkq R):oP R:=Qc R (Y0 n a0 a some) fun b=>K (decide (b>=0))
def Gf (d:LL) (h2:Int) (c:LL) (k0:Qkl R) (k1:Qko R):Qkp R
 | 0,_=>none
 | m+1,a=>bif decide (a<h2) then QjG R d a fun b e g h=>QjQ R b fun i j=>Qc R (NB e) fun k=>Qc R (H7 n k some) fun l=>bif !l then k0 3 else Qc R (slB c.length none (some a)) fun o=>Qc R (NB e) fun f=>Qk4 R g h i j fun p q r s=>Qc R (XP n (cut c o) f some) fun t=>bif t then k0 5 else Qc R (UZ n f p q r s some) fun u=>bif !u then k0 4 else Gf d h2 c k0 k1 m (wJ (a+1)) else k1 a (decide (a<h2))
def Uz (c d e f:LL) (g:Int) (a h i j k l m:LL) (K:Qkl R):oP R:=Gf n a (a.length:Int) a (fun b=>K b) (fun o p=>K 0) n 0
def Wm (n:Nat) (a b:List UInt8) (K:Qkq R):oP R:=K (a==b)
def Qt (c:LL) (h2:Int) (d:List UInt8) (k0:Qkl R) (k1:Qko R):Qkp R
 | 0,_=>none
 | m+1,a=>bif decide (a<h2) then QjX R c a fun e f g h=>Qc R (NB e) fun i=>QjT R f g (Qc R (pSl 4 h) fun o=>Qc R (Wm n i d some) fun j=>bif j then k0 a else Qt c h2 d k0 k1 m (wJ (a+1))) else k1 a (decide (a<h2))
def Xc (a0:LL) (a:List UInt8) (K:Qkl R):oP R:=Qt n a0 (a0.length:Int) a (fun b=>K b) (fun c d=>K (-1:Int)) n 0
def QH (a0:LL) (a:List UInt8) (K:Qkq R):oP R:=Qc R (Xc n a0 a some) fun b=>K (decide (b>=0))
def P3 (n:Nat) (a0:Int) (K:Qkq R):oP R:=K (Q9 (decide (a0>=0)) (decide (a0<=1048576)))
def KW (n:Nat) (a:Int) (b c d e f g h:LL) (a1 a2:Int) (K:Qkq R):oP R:=K (Q9 (Q9 (Q9 (decide (0<=a1)) (decide (a1<=a2))) (decide (a2<=7200))) (decide (a2<wJ (a1+a))))
def TZ (n:Nat) (i:Int) (j a k l m o p:LL) (b q r s:Int) (K:Qkl R):oP R:=Qki R a b fun e=>QjF R e 0 fun h=>K h
def SH (n:Nat) (l:Int) (m a o p q r s:LL) (b t u v:Int) (K:Qkl R):oP R:=Qki R a b fun c=>QjN R a b fun h=>QjF R c (wJ (wJ ((c.length:Int)-h)-1)) fun k=>K k
def Gw (n:Nat) (b:Int) (c d a e f g h:LL) (a1:Int) (K:Qkq R):oP R:=K (Q9 (decide (a1>=0)) (decide (a1<(a.length:Int))))
def UJ (c:Int) (d e b f g h i:LL) (a1 a2:Int) (K:Qkq R):oP R:=Qc R (Gw n c d e b f g h i a1 some) fun a=>Qa R (Q9 a (decide (a2>=0))) fun o=>Qd R o (Qi b a1) fun j=>Qd R o j[3]? fun k=>Qd R o (pSl 4 k) fun l=>K (Q9 o (decide (a2<(l.length:Int))))
def Zb (x:LL) (h2:Int) (s:LL) (e:Int) (f g b h i j k:LL) (k0:Qkl R) (k1:Qko R):Qkp R
 | 0,_=>none
 | m+1,p=>bif decide (p<h2) then QjG R x p fun d t y u=>Qk2 R d fun z ab ac=>Qc R d[6]? fun ad=>QjE R t y fun ae ag=>Qc R (UJ n e f g b h i j k ae ag some) fun a=>QjM R u (!(!a)) z fun ah ai=>Qd R (!(!a)) (UJ n e f g b h i j k ah ai some) fun c=>Qa R (Q8 (!a) (!c)) fun cb=>QjM R t (!cb) u fun l o=>Qa R (Q8 cb (l==o)) fun ca=>QjM R ab (!ca) ac fun aj ak=>Qd R (!ca) (KW n e f g b h i j k aj ak some) fun v=>Qa R (Q8 ca (!v)) fun cc=>Qd R (!cc) (pIw ad) fun al=>Qd R (!cc) (P3 n al some) fun am=>bif Q8 cc (!am) then k0 4 else Qc R (pIw t) fun an=>QjO R b an fun aq=>Qc R (pIw y) fun ar=>QjX R aq ar fun au av aw ax=>Qk4 R au av aw ax fun ay az ba bb=>Qc R (SH n e f g b h i j k ay az ba bb some) fun bc=>Qc R (Qi s bc) fun bd=>Qc R bd[4]? fun be=>QjE R be u fun aa bg=>QjO R b bg fun bj=>Qc R (pIw z) fun bk=>QjX R bj bk fun bl bm bn bo=>Qk4 R bl bm bn bo fun bp bq br bt=>Qc R (TZ n e f g b h i j k bp bq br bt some) fun bu=>Qc R (Qi s bu) fun bv=>Qk7 R bv fun bz=>bif Q8 (aa==(-1:Int)) (aa !=bz) then k0 11 else Zb x h2 s e f g b h i j k k0 k1 m (wJ (p+1)) else k1 p (decide (p<h2))
def WY (k l b m:LL) (c:Int) (d e f a g h i:LL) (K:Qkl R):oP R:=Zb n a (a.length:Int) b c d e f a g h i (fun j=>K j) (fun o p=>K 0) n 0
def Wj (n:Nat) (a b c d:Int) (K:Qkq R):oP R:=K (Q8 (a==c) (b==d))
def Qu (c:LL) (h2 d e:Int) (k0:Qkl R) (k1:Qko R):Qkp R
 | 0,_=>none
 | m+1,a=>bif decide (a<h2) then QjX R c a fun f g h i=>QjE R f g fun j k=>QjT R h i (Qc R (Wj n j k d e some) fun l=>bif l then k0 a else Qu c h2 d e k0 k1 m (wJ (a+1))) else k1 a (decide (a<h2))
def Xd (a0:LL) (a b:Int) (K:Qkl R):oP R:=Qu n a0 (a0.length:Int) a b (fun c=>K c) (fun d e=>K (-1:Int)) n 0
def QF (a0:LL) (a b:Int) (K:Qkq R):oP R:=Qc R (Xd n a0 a b some) fun c=>K (decide (c>=0))
def Wg (u:LL) (h2 c:Int) (d e a f b g h:LL) (k0:Qkl R) (k1:Qko R):Qkp R
 | 0,_=>none
 | m+1,i=>bif decide (i<h2) then QjX R u i fun v x y z=>Qc R (pIw v) fun ad=>Qc R (Gw n c d e a f b g h ad some) fun j=>Qd R (!(!j)) (pIw x) fun ae=>Qd R (!(!j)) (Gw n c d e a f b g h ae some) fun l=>Qa R (Q8 (!j) (!l)) fun bt=>QjM R y (!bt) z fun ag ah=>Qd R (!bt) (KW n c d e a f b g h ag ah some) fun ai=>bif Q8 bt (!ai) then k0 4 else Qc R (slB b.length none (some i)) fun aj=>QjE R v x fun aa ab=>QjT R y z (Qc R (QF n (cut b aj) aa ab some) fun ak=>bif ak then k0 5 else QjP R a aa fun o al=>Qk9 R o fun ac=>QjP R a ab fun p am=>Qk9 R p fun an=>Qc R (pSl 4 ac) fun ao=>Qc R (pSl 4 ac) fun ap=>QjX R ao (wJ ((ap.length:Int)-1)) fun aq ar au av=>Qk4 R aq ar au av fun aw ax ay az=>Qc R (SH n c d e a f b g h aw ax ay az some) fun s=>Qc R (pSl 4 an) fun ba=>QjX R ba 0 fun bb bc bd be=>Qk4 R bb bc bd be fun bg bh bi bj=>Qc R (TZ n c d e a f b g h bg bh bi bj some) fun t=>QjM R al (!(s !=t)) am fun bk bl=>bif Q8 (s !=t) (bk !=bl) then k0 11 else Wg u h2 c d e a f b g h k0 k1 m (wJ (i+1))) else k1 i (decide (i<h2))
def Vy (j k l m:LL) (b:Int) (c d e f a g h:LL) (K:Qkl R):oP R:=Wg n a (a.length:Int) b c d e f a g h (fun i=>K i) (fun o p=>K 0) n 0
def ZT (s:LL) (h2 g:Int) (h i j k l o p:LL) (k0:oP R) (k1:Qko R):Qkp R
 | 0,_=>none
 | m+1,c=>bif decide (c<h2) then QjG R s c fun d t u v=>QjQ R d fun x y=>QjE R t u fun aa ab=>Qc R (UJ n g h i j k l o p aa ab some) fun a=>QjM R v (!(!a)) x fun ac ad=>Qd R (!(!a)) (UJ n g h i j k l o p ac ad some) fun b=>Qa R (Q8 (!a) (!b)) fun ag=>QjM R t (!ag) v fun e f=>QjM R u (!ag&&e==f) x fun q r=>Qa R (Q8 ag (Q9 (e==f) (q==r))) fun ah=>Qd R (!ah) (pIw y) fun z=>Qa R (Q8 ah (decide (z<0))) fun ai=>Qd R (!ai) (pIw y) fun ae=>bif Q8 ai (decide (ae>=g)) then k0 else ZT s h2 g h i j k l o p k0 k1 m (wJ (c+1)) else k1 c (decide (c<h2))
def Vo (i j k l:LL) (b:Int) (c d e f g a h:LL) (K:Qkl R):oP R:=ZT n a (a.length:Int) b c d e f g a h (K 4) (fun m o=>K 0) n 0
def Za (n:Nat) (l:LL) (h2:Int) (a:LL) (k0:oP R) (k1:Qko R):Qkp R
 | 0,_=>none
 | m+1,e=>bif decide (e<h2) then QjS R l e fun h i o=>Qc R (pIw h) fun b=>Qd R (!(decide (b<0))) (pIw h) fun c=>Qa R (Q8 (decide (b<0)) (decide (c>=(a.length:Int)))) fun s=>Qd R (!s) (pIw i) fun d=>Qa R (Q8 s (decide (d<0))) fun u=>Qd R (!u) (pIw i) fun f=>Qa R (Q8 u (decide (f>=(a.length:Int)))) fun r=>QjM R h (!r) i fun j k=>Qd R (!(Q8 r (j==k))) (pIw o) fun p=>Qa R (Q8 (Q8 r (j==k)) (decide (p<1))) fun t=>Qd R (!t) (pIw o) fun q=>bif Q8 t (decide (q>1048576)) then k0 else Za n l h2 a k0 k1 m (wJ (e+1)) else k1 e (decide (e<h2))
def WN (b c d e:LL) (f:Int) (g h i j k l a:LL) (K:Qkl R):oP R:=Za n a (a.length:Int) b (K 4) (fun m o=>K 0) n 0
def UG (n:Nat) (b:Int) (d e:D) (k0:Qkn R):Qkm R
 | 0,_,_=>none
 | m+1,a,c=>Qc R (pIw d) fun f=>bif decide (a<f) then Qc R (pIw e) fun g=>Qc R (Yn ((c.length+[[Ql g,Ql b]].length)*16)) fun h=>UG n b d e k0 m (wJ (a+1)) (c++[[Ql g,Ql b]]) else k0 a (decide (a<f)) c
def UQ (d a:LL) (c:Int) (k0:Qkn R):Qkm R
 | 0,_,_=>none
 | m+1,h2,e=>Qa R (decide (h2<wJ ((a.length:Int)-c))) fun aa=>bif aa then QjF R a h2 fun k=>QjP R d k fun b f=>Qk8 R b fun g l=>Qc R b[4]? fun u=>Qc R (pIw l) fun h=>QjN R a h2 fun q=>bif q==1 then UG n (wJ (0-h)) f g (fun v x r=>UQ d a c k0 m (wJ (h2+1)) r) n 0 e else UG n h f g (fun y z s=>UQ d a c k0 m (wJ (h2+1)) s) n 0 e else k0 h2 aa e
def SD (f g a h b:LL) (c:Int) (K:Qky R):oP R:=Qc R (Jq n f g a h b c some) fun d=>bif d !=0 then K [] 0 d else UQ n a b c (fun p q e=>bif decide ((e.length:Int)>4000) then K [] 0 7 else QjF R b 0 fun k=>QjN R a k fun o=>K e o 0) n 0 []
def Yl (i:List UInt8) (d e f g:Int) (K:Qkq R):oP R:=Qc R (T4 n d 1 40 some) fun a=>Qd R a (T4 n e 1000 100000 some) fun b=>Qd R (Q9 a b) (T4 n f 100 2000 some) fun c=>Qd R (Q9 (Q9 a b) c) (T4 n g 100 2000 some) fun h=>K (Q9 (Q9 (Q9 a b) c) h)
def GE (n:Nat) (e b:LL) (c d:Int) (k0:oP R) (k1:Qko R):Qkp R
 | 0,_=>none
 | m+1,a=>Qa R (decide (a<wJ ((b.length:Int)-c))) fun l=>bif l then QjF R b a fun h=>QjN R e h fun k=>bif decide (k<(if 2<d then d else 2)) then k0 else GE n e b c d k0 k1 m (wJ (a+1)) else k1 a l
def R1 (g h c i d:LL) (e:Int) (j:List UInt8) (f k l m:Int) (K:Qkl R):oP R:=Qc R (SD n g h c i d e Tu3) fun a=>bif a.2.2 !=0 then K a.2.2 else Qc R (Yl n j f k l m some) fun b=>bif !b then K 1 else GE n c d e f (K 12) (fun p q=>K 0) n 0
def GA (n:Nat) (b:LL) (k0:oP R) (k1:Qko R):Qkp R
 | 0,_=>none
 | m+1,a=>Qa R (decide (a<(b.length:Int))) fun f=>bif f then QjO R b a fun e=>bif decide ((e.length:Int)>12) then k0 else GA n b k0 k1 m (wJ (a+1)) else k1 a f
def Fv (h:Int) (b c a d e f g:LL) (K:Qkq R):oP R:=bif Q8 (Q8 (Q8 (Q8 (Q8 (Q8 (decide ((b.length:Int)>8)) (decide ((c.length:Int)>48))) (decide ((a.length:Int)>16))) (decide ((d.length:Int)>32))) (decide ((e.length:Int)>32))) (decide ((f.length:Int)>32))) (decide ((g.length:Int)>32)) then K true else GA n a (K true) (fun i j=>K false) n 0
def Ja (n:Nat) (a0 a1 a2:Int) (K:Qkq R):oP R:=K (Q9 (decide (a0>=a1)) (decide (a0<=a2)))
def Kr (n:Nat) (b:Int) (c:LL) (k0:oP R) (k1:Qko R):Qkp R
 | 0,_=>none
 | m+1,a=>bif decide (a<b) then Qkf R c a fun f=>Qkf R c b fun i=>bif f==i then k0 else Kr n b c k0 k1 m (wJ (a+1)) else k1 a (decide (a<b))
def GY (s:Int) (b t u v x y z:LL) (a1:Int) (K:Qkl R):oP R:=Qkf R b a1 fun e=>Qc R (Mi n e some) fun f=>bif !f then K 3 else Kr n a1 b (K 5) (fun aa ab=>QjG R b a1 fun a g h i=>QjQ R a fun j k=>Qc R (NB g) fun l=>Qk4 R h i j k fun m o p q=>Qc R (Yl n l m o p q some) fun r=>bif !r then K 4 else K 0) n 0
def KO (n:Nat) (a:Int) (b c d e f g h:LL) (a1 a2:Int) (K:Qkq R):oP R:=K (Q9 (Q9 (Q9 (decide (a1>=0)) (decide (a1<=a2))) (decide (a2<wJ (a1+a)))) (decide (a2<=7200)))
def GB (n:Nat) (a:LL) (e:Int) (K:Qkl R):oP R:=QjF R a 0 fun d=>K d
def Vp (n:Nat) (a:LL) (b:Int) (K:Qkl R):oP R:=QjF R a (wJ (wJ ((a.length:Int)-b)-1)) fun e=>K e
def U1 (n:Nat) (b:Int) (c:LL) (d:D) (k0:oP R) (k1:Qko R):Qkp R
 | 0,_=>none
 | m+1,a=>bif decide (a<b) then Qkf R c a fun g=>Qc R (NB d) fun h=>bif g==h then k0 else U1 n b c d k0 k1 m (wJ (a+1)) else k1 a (decide (a<b))
def WP (o p q r:LL) (h:Int) (i c s t u v x:LL) (y e:D) (k0:Qkl R) (k1:Qko R):Qkp R
 | 0,_=>none
 | m+1,a=>Qc R (pSl 4 e) fun z=>Qa R (decide (a<(z.length:Int))) fun ce=>bif ce then Qc R (pSl 4 e) fun ai=>QjX R ai a fun j aj aa ab=>Qc R (pSl 4 e) fun k=>Qc R (pIw j) fun ak=>Qc R (Ja n ak 0 (wJ ((c.length:Int)-1)) some) fun b=>Qd R (!(!b)) (pIw aj) fun al=>Qd R (!(!b)) (Ja n al 0 (wJ (h-1)) some) fun d=>Qa R (Q8 (!b) (!d)) fun cb=>QjM R aa (!cb) ab fun am an=>Qd R (!cb) (KO n h i c s t u v x am an some) fun l=>Qa R (a==wJ ((k.length:Int)-1)) fun cc=>Qa R (Q8 cb (!l)) fun cf=>Qd R (!cf&&cc) (pIw aa) fun ac=>Qd R (!cf&&cc&&!(ac !=0)) (pIw ab) fun ao=>bif Q8 cf (Q9 cc (Q8 (ac !=0) (ao !=0))) then k0 4 else Qkg R j c fun aq ar=>QjJ R y i aq ar fun ba bb bc bd be bg bh=>Qc R (R1 n o p q r ba bb bc bd be bg bh some) fun ae=>bif ae !=0 then k0 ae else Qa R (decide (a>0)) fun ca=>Qd R ca (pIw j) fun bi=>Qd R ca (Qi c bi) fun ag=>Qkd R ag ca fun bj bk=>Qd R ca (pSl 2 bj) fun bl=>Qd R ca (pIw bk) fun bm=>Qd R ca (GB n bl bm some) fun bn=>Qd R ca (pSl 4 e) fun bo=>Qkh R bo (wJ (a-1)) ca fun br=>Qd R ca (Qi c br) fun ah=>Qkd R ah ca fun bt bu=>Qd R ca (pSl 2 bt) fun bv=>Qd R ca (pIw bu) fun bx=>Qd R ca (Vp n bv bx some) fun bz=>bif Q9 ca (bn !=bz) then k0 11 else WP o p q r h i c s t u v x y e k0 k1 m (wJ (a+1)) else k1 a ce
def Hj (h i j k:LL) (l:Int) (d m b o p q r:LL) (a2:Int) (K:Qkl R):oP R:=QjX R b a2 fun e f s g=>Qc R (NB e) fun t=>Qc R (Mi n t some) fun u=>bif !u then K 3 else U1 n a2 b e (K 5) (fun ab ac=>Qc R (pIw f) fun v=>Qc R (Ja n v 0 (wJ ((d.length:Int)-1)) some) fun c=>Qd R (!(!c)) (pIw s) fun x=>Qd R (!(!c)) (Ja n x 0 1048576 some) fun y=>bif Q8 (!c) (!y) then K 4 else Qc R (pSl 4 g) fun z=>bif (z.length:Int)==0 then K 1 else WP n h i j k l d m b o p q r f g (fun aa=>K aa) (fun ad ae=>K 0) n 0) n 0
def G0 (g:Int) (h i b j k l m:LL) (a1 a2:Int) (K:Qkq R):oP R:=Qc R (Ja n a1 0 (wJ ((b.length:Int)-1)) some) fun a=>Qd R a (Qi b a1) fun c=>Qd R a c[3]? fun d=>Qd R a (pSl 4 d) fun e=>Qd R a (Ja n a2 0 (wJ ((e.length:Int)-1)) some) fun f=>K (Q9 a f)
def Y1 (n:Nat) (l:Int) (m b c o p q r:LL) (a1 a2:Int) (K:D->D->oP R):oP R:=QjO R c a1 fun f=>QjF R f a2 fun i=>QjR R b i fun j k=>K j k
def T9 (am an o ao:LL) (b:Int) (c d e f g h i:LL) (j p k q v x y:Int) (K:Qkl R):oP R:=Qc R (G0 n b c d e f g h i j p some) fun a=>Qd R (!(!a)) (G0 n b c d e f g h i k q some) fun l=>Qa R (Q8 (Q8 (!a) (!l)) (j==k)) fun aa=>Qd R (!aa) (KO n b c d e f g h i v x some) fun r=>Qd R (!(Q8 aa (!r))) (Ja n y 0 1048576 some) fun z=>bif Q8 (Q8 aa (!r)) (!z) then K 4 else Qc R (Y1 n b c d e f g h i j p Tu2) fun s=>QjU R s.1 s.2 fun l6 i7=>Qc R (Vp n l6 i7 some) fun r8=>Qc R (Qi o r8) fun r9=>Qk7 R r9 fun t=>Qc R (Y1 n b c d e f g h i k q Tu2) fun u=>QjU R u.1 u.2 fun ag ah=>Qc R (GB n ag ah some) fun ai=>Qc R (Qi o ai) fun aj=>Qk7 R aj fun al=>bif Q8 (decide (t<0)) (t !=al) then K 11 else K 0
def U2 (n:Nat) (d:Int) (e:LL) (f g:D) (k0:oP R) (k1:Qko R):Qkp R
 | 0,_=>none
 | m+1,a=>bif decide (a<d) then QjK R e a fun i=>QjE R i f fun b c=>Qa R (b==c) fun p=>Qd R (!p) (Qi e a) fun j=>Qd R (!p) j[1]? fun k=>QjM R k (!p) g fun l o=>bif Q8 p (l==o) then k0 else U2 n d e f g k0 k1 m (wJ (a+1)) else k1 a (decide (a<d))
def Ho (j:Int) (k l b m d o p:LL) (a1:Int) (K:Qkl R):oP R:=QjX R d a1 fun e f v x=>Qc R (pIw e) fun y=>Qb R (wJ ((b.length:Int)-1)) fun ba=>Qc R (Ja n y 0 ba some) fun c=>Qd R (!(!c)) (pIw f) fun z=>Qd R (!(!c)) (Ja n z 0 ba some) fun g=>Qa R (Q8 (!c) (!g)) fun q=>QjM R v (!q) x fun aa ab=>Qd R (!q) (KO n j k l b m d o p aa ab some) fun ac=>bif Q8 q (!ac) then K 4 else U2 n a1 d e f (K 5) (fun ar au=>Qc R (pIw e) fun ad=>QjP R b ad fun h ae=>Qk9 R h fun ag=>Qc R (pIw f) fun ah=>QjP R b ah fun i ai=>Qkb R i (Qc R (pIw e) fun aj=>Qc R (pSl 4 ag) fun ak=>Qc R (Y1 n j k l b m d o p aj (wJ ((ak.length:Int)-1)) Tu2) fun t=>QjU R t.1 t.2 fun al am=>Qc R (Vp n al am some) fun r=>Qc R (pIw f) fun i64=>Qc R (Y1 n j k l b m d o p i64 0 Tu2) fun u=>QjU R u.1 u.2 fun an ao=>Qc R (GB n an ao some) fun s=>QjM R ae (!(r !=s)) ai fun ap aq=>bif Q8 (r !=s) (ap !=aq) then K 11 else K 0)) n 0
def WX (c:Int) (b d e f g h i:LL) (k0:Qkl R) (k1:Qko R):Qkp R
 | 0,_=>none
 | m+1,a=>Qa R (decide (a<(b.length:Int))) fun k=>bif k then Qc R (GY n c b d e f g h i a some) fun j=>bif j !=0 then k0 j else WX c b d e f g h i k0 k1 m (wJ (a+1)) else k1 a k
def WO (c d e f b:LL) (k0:Qkl R) (k1:Qko R):Qkp R
 | 0,_=>none
 | m+1,a=>Qa R (decide (a<(b.length:Int))) fun o=>bif o then QjR R b a fun i j=>QjU R i j fun k l=>Qc R (Jq n c d e f k l some) fun h=>bif h !=0 then k0 h else WO c d e f b k0 k1 m (wJ (a+1)) else k1 a o
def WT (c d e f:LL) (g:Int) (h i b j k l o:LL) (k0:Qkl R) (k1:Qko R):Qkp R
 | 0,_=>none
 | m+1,a=>Qa R (decide (a<(b.length:Int))) fun q=>bif q then Qc R (Hj n c d e f g h i b j k l o a some) fun p=>bif p !=0 then k0 p else WT c d e f g h i b j k l o k0 k1 m (wJ (a+1)) else k1 a q
def Zy (d e f g:LL) (h:Int) (i j k b l o p:LL) (k0:Qkl R) (k1:Qko R):Qkp R
 | 0,_=>none
 | m+1,c=>Qa R (decide (c<(b.length:Int))) fun ah=>bif ah then QjG R b c fun a r s t=>Qk2 R a fun u v x=>Qc R a[6]? fun y=>Qk4 R r s t u fun z aa ab ac=>Qk6 R v x y fun ad ae ag=>Qc R (T9 n d e f g h i j k b l o p z aa ab ac ad ae ag some) fun q=>bif q !=0 then k0 q else Zy d e f g h i j k b l o p k0 k1 m (wJ (c+1)) else k1 c ah
def Zs (c:Int) (d e f g b h i:LL) (k0:Qkl R) (k1:Qko R):Qkp R
 | 0,_=>none
 | m+1,a=>Qa R (decide (a<(b.length:Int))) fun k=>bif k then Qc R (Ho n c d e f g b h i a some) fun j=>bif j !=0 then k0 j else Zs c d e f g b h i k0 k1 m (wJ (a+1)) else k1 a k
def Zo (h:Int) (i j k l o c p:LL) (k0:oP R) (k1:Qko R):Qkp R
 | 0,_=>none
 | m+1,d=>Qa R (decide (d<(c.length:Int))) fun ah=>bif ah then QjG R c d fun e s t u=>QjQ R e fun v x=>QjE R s t fun y z=>Qc R (G0 n h i j k l o c p y z some) fun a=>QjM R u (!(!a)) v fun aa ab=>Qd R (!(!a)) (G0 n h i j k l o c p aa ab some) fun b=>Qa R (Q8 (!a) (!b)) fun ae=>QjM R s (!ae) u fun f g=>QjM R t (!ae&&f==g) v fun q r=>Qa R (Q8 ae (Q9 (f==g) (q==r))) fun ag=>Qd R (!ag) (pIw x) fun ac=>Qd R (!ag) (Ja n ac 0 (wJ (h-1)) some) fun ad=>bif Q8 ag (!ad) then k0 else Zo h i j k l o c p k0 k1 m (wJ (d+1)) else k1 d ah
def Zu (e d:LL) (k0:oP R) (k1:Qko R):Qkp R
 | 0,_=>none
 | m+1,b=>Qa R (decide (b<(d.length:Int))) fun s=>bif s then QjS R d b fun i j k=>Qc R (pIw i) fun l=>Qb R (wJ ((e.length:Int)-1)) fun u=>Qc R (Ja n l 0 u some) fun a=>Qd R (!(!a)) (pIw j) fun o=>Qd R (!(!a)) (Ja n o 0 u some) fun c=>Qa R (Q8 (!a) (!c)) fun r=>QjM R i (!r) j fun g h=>Qa R (Q8 r (g==h)) fun t=>Qd R (!t) (pIw k) fun p=>Qd R (!t) (Ja n p 1 1048576 some) fun q=>bif Q8 t (!q) then k0 else Zu e d k0 k1 m (wJ (b+1)) else k1 b s
def UU (i j k l:LL) (a:Int) (d b e f g h c:LL) (K:Qkl R):oP R:=Qc R (Gu n i j k l some) fun m=>bif m !=0 then K 1 else Qc R (Fv n a d b e f g h c some) fun o=>bif o then K 7 else Qc R (Ja n a 2 7200 some) fun p=>bif !p then K 4 else WX n a d b e f g h c (fun q=>K q) (fun v x=>WO n i j k l b (fun r=>K r) (fun y z=>WT n i j k l a d b e f g h c (fun s=>K s) (fun aa ab=>Zy n i j k l a d b e f g h c (fun t=>K t) (fun ac ad=>Zs n a d b e f g h c (fun u=>K u) (fun ae ag=>Zo n a d b e f g h c (K 4) (fun ah ai=>Zu n i c (K 4) (fun aj ak=>K 0) n 0) n 0) n 0) n 0) n 0) n 0) n 0
def VT (n:Nat) (b:Int) (k0:Qkt R):Qku R
 | 0,_,_=>none
 | m+1,h2,a=>bif decide (a>0) then Qb R (wJ (h2+a)) fun f=>Qc R (nz f) fun c=>bif decide (f<=wJ (Int.tdiv b f)) then Qc R (Ap 1) fun d=>VT n b k0 m f (shR .i64 a 1) else Qc R (Ap 1) fun e=>VT n b k0 m h2 (shR .i64 a 1) else k0 h2 a (decide (a>0))
def SG (a0:Int) (K:Qkl R):oP R:=VT n a0 (fun a b c=>K a) n 0 2147483648
def Jm (n:Nat) (b:Int) (k0:Qkt R):Qku R
 | 0,_,_=>none
 | m+1,h2,a=>bif decide (h2<a) then Qc R (nz 2) fun c=>Qb R (wJ (Int.tdiv (wJ (wJ (h2+a)+1)) 2)) fun d=>bif decide (wJ (d*d)<=b) then Jm n b k0 m d a else Jm n b k0 m h2 (wJ (d-1)) else k0 h2 a (decide (h2<a))
def My (a0:Int) (K:Qkl R):oP R:=bif decide (a0<=0) then K 0 else Jm n a0 (fun a b c=>K a) n 0 3037000499
def Z8 (n:Nat) (e:LL) (c:Int) (k0:oP R) (k1:Qko R):Qkp R
 | 0,_=>none
 | m+1,a=>bif decide (a<c) then QjR R e a fun g h=>Qc R (pIw g) fun b=>Qa R (decide (b<1000)) fun o=>Qd R (!o) (pIw g) fun d=>Qa R (Q8 o (decide (d>100000))) fun k=>Qd R (!k) (pIw h) fun i=>Qa R (Q8 k (decide (i<(-40:Int)))) fun l=>Qd R (!l) (pIw h) fun j=>bif Q8 l (decide (j>40)) then k0 else Z8 n e c k0 k1 m (wJ (a+1)) else k1 a (decide (a<c))
def JG (a0:LL) (a1:Int) (a:List UInt8) (b c d e:Int) (K:Qkl R):oP R:=Qc R (UZ n a b c d e some) fun f=>bif !f then K 1 else Qb R (a0.length:Int) fun i=>bif decide (i>4000) then K 7 else Z8 n a0 i (K 4) (fun g h=>bif Q8 (decide (a1<0)) (decide (a1>wJ (i-2))) then K 4 else K 0) n 0
def U0 (n:Nat) (c:LL) (b:Int) (k0:Qkt R):Qku R
 | 0,_,_=>none
 | m+1,h2,a=>bif decide (a<b) then QjI R c a fun d f=>Qc R d[1]? fun g=>Qc R (pIw f) fun e=>U0 n c b k0 m (if e<h2 then e else h2) (wJ (a+1)) else k0 h2 a (decide (a<b))
def G8 (a0:LL) (a1:Int) (e:List UInt8) (a c f g:Int) (K:Qkl R):oP R:=Qc R (slB a0.length (some (if 0<wJ (a1-a) then wJ (a1-a) else 0)) (some (wJ (a1+1)))) fun b=>U0 n (cut a0 b) ((List.length (cut a0 b):Nat):Int) (fun d h i=>K d) n c 0
def TL (n:Nat) (c a:Int) (d:List UInt8) (e f b g:Int) (K:Qkl R):oP R:=bif decide (a>0) then K (wJ (20000*(if 50<wJ (b-wJ (10*a)) then wJ (b-wJ (10*a)) else 50))) else K (wJ (20000*b))
def Tn (n:Nat) (c a:Int) (d:List UInt8) (e f g b:Int) (K:Qkl R):oP R:=bif decide (a<0) then K (wJ (20000*(if 50<wJ (b+wJ (10*a)) then wJ (b+wJ (10*a)) else 50))) else K (wJ (20000*b))
def YM (f:LL) (d g:Int) (h:List UInt8) (i j k l:Int) (k0:QkD R):Qkz R
 | 0,_,_,_=>none
 | m+1,b,a,e=>bif decide (a<g) then Qc R (G8 n f a h i j k l some) fun c=>QjL R e.length (wJ (wJ (a-1)-d)) e (Int.toNat (wJ (wJ (a-1)-d))) fun o=>QjR R f (wJ (a-1)) fun t u=>QjE R t u fun v x=>Qc R (TL n v x h i j k l some) fun q=>Qc R (inB e.length (wJ (a-d))) fun aa=>Qb R (Int.toNat (wJ (a-d))) fun ac=>Qc R e[ac]? fun y=>Qb R (wJ ((if c<b then c else b)*(if c<b then c else b))) fun ab=>YM f d g h i j k l k0 m c (wJ (a+1)) (List.set e ac (List.set y 0 (Ql (if wJ (o+q)<ab then wJ (o+q) else ab)))) else k0 b a (decide (a<g)) e
def Zr (d:LL) (b:Int) (e:List UInt8) (f g h i:Int) (k0:Qkn R):Qkm R
 | 0,_,_=>none
 | m+1,a,c=>bif decide (a>b) then Qc R (inB c.length (wJ (a-b))) fun z=>Qb R (Int.toNat (wJ (a-b))) fun ac=>Qc R c[ac]? fun p=>Qc R p[0]? fun q=>Qc R (pIw q) fun j=>QjL R c.length (wJ (wJ (a+1)-b)) c (Int.toNat (wJ (wJ (a+1)-b))) fun k=>QjR R d a fun t u=>QjE R t u fun v x=>Qc R (Tn n v x e f g h i some) fun o=>QjH R c.length (wJ (a-b)) c ac fun y=>Zr d b e f g h i k0 m (wJ (a-1)) (List.set c ac (List.set y 0 (Ql (if wJ (k+o)<j then wJ (k+o) else j)))) else k0 a (decide (a>b)) c
def Ge (a0:LL) (a1:Int) (a:List UInt8) (b c d e:Int) (K:Qkr R):oP R:=Qb R (a0.length:Int) fun q=>Qb R (wJ (wJ (q-a1)+1)) fun p=>gb true (bif decide (0<=p)&&decide (p<=p) then some () else none) () fun i=>Qc R (Yn (Int.toNat p*8)) fun u2=>Qc R (G8 n a0 a1 a b c d e some) fun f=>YM n a0 a1 q a b c d e (fun j k l g=>Zr n a0 a1 a b c d e (fun m o h=>K h) n (wJ (q-1)) g) n f (wJ (a1+1)) (List.replicate (Int.toNat p) [Ql 0])
def Wc (c:Int) (k0:Qkn R):Qkm R
 | 0,_,_=>none
 | m+1,a,b=>bif decide (a<c) then QjL R b.length a b a.toNat fun f=>Qc R (SG n f some) fun g=>QjH R b.length a b a.toNat fun h=>Wc c k0 m (wJ (a+1)) (List.set b a.toNat (List.set h 0 (Ql g))) else k0 a (decide (a<c)) b
def GR (a0:LL) (a1:Int) (a:List UInt8) (b c d e:Int) (K:Qks R):oP R:=Qc R (JG n a0 a1 a b c d e some) fun f=>bif f !=0 then K [] f else Qc R (Ge n a0 a1 a b c d e some) fun g=>Wc n (g.length:Int) (fun i j h=>K h 0) n 0 g
def Kq (n:Nat) (a0 a1:Int) (K:Qkx R):oP R:=bif decide (a1<1) then K 0 1 else Qke R a1 (Qb R (wJ (Int.tdiv a0 a1)) fun b=>bif decide (Int.tmod a0 a1>0) then K (wJ (b+1)) 0 else K b 0)
def U3 (c:LL) (k0:Qkn R):Qkm R
 | 0,_,_=>none
 | m+1,a,b=>Qa R (decide (a<(c.length:Int))) fun j=>bif j then Qb R (wJ (a-1)) fun k=>QjF R c k fun f=>QjF R c a fun i=>Qc R (Kq n 20000000 (wJ (f+i)) Tu2) fun l=>QjL R b.length k b (Int.toNat k) fun q=>QjH R b.length a b a.toNat fun r=>U3 c k0 m (wJ (a+1)) (List.set b a.toNat (List.set r 0 (Ql (wJ (q+l.1))))) else k0 a j b
def JV (a0:LL) (a1:Int) (b:List UInt8) (c d e f:Int) (K:Qks R):oP R:=Qc R (GR n a0 a1 b c d e f Tu2) fun a=>bif a.2 !=0 then K [] a.2 else Qb R (a.1.length:Int) fun g=>gb true (bif decide (0<=g)&&decide (g<=g) then some () else none) () fun u2=>Qc R (Yn (Int.toNat g*8)) fun u3=>U3 n a.1 (fun i j h=>K h 0) n 1 (List.replicate (Int.toNat g) [Ql 0])
def KP (h2:LL) (k0:oP R) (k1:Qko R):Qkp R
 | 0,_=>none
 | m+1,a=>Qa R (decide (a<(h2.length:Int))) fun j=>bif j then QjF R h2 a fun e=>Qc R (T4 n e 1000 100000 some) fun b=>Qk5 R h2 a (!(!b)) fun h=>Qd R (!(!b)) (T4 n h (-40:Int) 40 some) fun i=>bif Q8 (!b) (!i) then k0 else KP h2 k0 k1 m (wJ (a+1)) else k1 a j
def Bi (a0:LL) (a1:Int) (a:List UInt8) (b c d e:Int) (K:Qkl R):oP R:=Qc R (Yl n a b c d e some) fun f=>bif !f then K 1 else bif decide ((a0.length:Int)>4000) then K 7 else KP n a0 (K 4) (fun g h=>bif Q8 (decide (a1<0)) (decide (a1>wJ ((a0.length:Int)-2))) then K 4 else K 0) n 0
def Jv (n:Nat) (c:LL) (h2:Int) (k0:Qkt R):Qku R
 | 0,_,_=>none
 | m+1,b,a=>bif decide (a<=h2) then QjF R c a fun d=>Jv n c h2 k0 m (if d<b then d else b) (wJ (a+1)) else k0 b a (decide (a<=h2))
def Sr (a0:LL) (a1:Int) (d:List UInt8) (a b e f:Int) (K:Qkl R):oP R:=Jv n a0 a1 (fun c g h=>K c) n b (if 0<wJ (a1-a) then wJ (a1-a) else 0)
def L0 (n:Nat) (c a:Int) (d:List UInt8) (e f b g:Int) (K:Qkl R):oP R:=bif decide (a>0) then K (if 50<wJ (b-wJ (10*a)) then wJ (b-wJ (10*a)) else 50) else K b
def MW (n:Nat) (c a:Int) (d:List UInt8) (e f g b:Int) (K:Qkl R):oP R:=bif decide (a<0) then K (if 50<wJ (b+wJ (10*a)) then wJ (b+wJ (10*a)) else 50) else K b
def V5 (e:LL) (f g:Int) (h:List UInt8) (i j k l:Int) (k0:Qkn R):Qkm R
 | 0,_,_=>none
 | m+1,a,b=>bif decide (a<g) then Qc R (Sr n e (wJ (wJ (f+a)-1)) h i j k l some) fun c=>Qc R (Sr n e (wJ (f+a)) h i j k l some) fun d=>QjH R b.length a b a.toNat fun o=>V5 e f g h i j k l k0 m (wJ (a+1)) (List.set b a.toNat (List.set o 0 (Ql (wJ ((if d<c then d else c)*(if d<c then d else c)))))) else k0 a (decide (a<g)) b
def Vb (d:LL) (e c:Int) (f:List UInt8) (g h i j:Int) (k0:Qkn R):Qkm R
 | 0,_,_=>none
 | m+1,a,b=>bif decide (a<c) then Qb R (wJ (a+1)) fun ac=>Qc R (inB b.length ac) fun z=>Qb R (Int.toNat ac) fun ad=>Qc R b[ad]? fun q=>Qc R q[0]? fun r=>Qc R (pIw r) fun k=>QjL R b.length a b a.toNat fun l=>QjR R d (wJ (e+a)) fun u v=>QjE R u v fun x i64=>Qc R (L0 n x i64 f g h i j some) fun p=>QjH R b.length ac b ad fun y=>Vb d e c f g h i j k0 m ac (List.set b ad (List.set y 0 (Ql (if wJ (l+wJ (20000*p))<k then wJ (l+wJ (20000*p)) else k)))) else k0 a (decide (a<c)) b
def Ve (c:LL) (d:Int) (e:List UInt8) (f g h i:Int) (k0:Qkn R):Qkm R
 | 0,_,_=>none
 | m+1,a,b=>bif decide (a>0) then Qb R (wJ (a-1)) fun ac=>Qc R (inB b.length ac) fun z=>Qb R (Int.toNat ac) fun ad=>Qc R b[ad]? fun p=>Qc R p[0]? fun q=>Qc R (pIw q) fun j=>QjL R b.length a b a.toNat fun k=>QjR R c (wJ (wJ (d+a)-1)) fun t u=>QjE R t u fun v x=>Qc R (MW n v x e f g h i some) fun o=>QjH R b.length ac b ad fun y=>Ve c d e f g h i k0 m ac (List.set b ad (List.set y 0 (Ql (if wJ (k+wJ (20000*o))<j then wJ (k+wJ (20000*o)) else j)))) else k0 a (decide (a>0)) b
def J3 (c:Int) (k0:Qkn R):Qkm R
 | 0,_,_=>none
 | m+1,a,b=>bif decide (a<=c) then QjL R b.length a b a.toNat fun f=>Qc R (My n f some) fun g=>QjH R b.length a b a.toNat fun h=>J3 c k0 m (wJ (a+1)) (List.set b a.toNat (List.set h 0 (Ql g))) else k0 a (decide (a<=c)) b
def RH (a0:LL) (a1:Int) (a:List UInt8) (b c d e:Int) (K:Qks R):oP R:=Qc R (Bi n a0 a1 a b c d e some) fun f=>bif f !=0 then K [] f else Qb R (wJ ((a0.length:Int)-a1)) fun t=>Qb R (wJ (t+1)) fun u=>gb true (bif decide (0<=u)&&decide (u<=u) then some () else none) () fun u2=>Qc R (Yn (Int.toNat u*8)) fun u3=>V5 n a0 a1 t a b c d e (fun k l g=>Vb n a0 a1 t a b c d e (fun m o h=>Ve n a0 a1 a b c d e (fun p q i=>J3 n t (fun r s j=>K j 0) n 0 i) n t h) n 0 g) n 1 (List.replicate (Int.toNat u) [Ql 0])
def JT (n:Nat) (a0 a1:Int) (K:Qkl R):oP R:=Qke R a1 (Qb R (wJ (Int.tdiv a0 a1)) fun b=>bif decide (Int.tmod a0 a1>0) then K (wJ (b+1)) else K b)
def JB (c:LL) (k0:Qkn R):Qkm R
 | 0,_,_=>none
 | m+1,a,b=>Qa R (decide (a<(c.length:Int))) fun s=>bif s then Qb R (wJ (a-1)) fun t=>QjL R b.length t b (Int.toNat t) fun f=>QjF R c t fun i=>QjF R c a fun l=>Qc R (JT n 20000000 (wJ (i+l)) some) fun o=>QjH R b.length a b a.toNat fun p=>JB c k0 m (wJ (a+1)) (List.set b a.toNat (List.set p 0 (Ql (wJ (f+o))))) else k0 a s b
def Sj (a0:LL) (a1:Int) (b:List UInt8) (c d e f:Int) (K:Qks R):oP R:=Qc R (RH n a0 a1 b c d e f Tu2) fun a=>bif a.2 !=0 then K [] a.2 else Qb R (a.1.length:Int) fun g=>gb true (bif decide (0<=g)&&decide (g<=g) then some () else none) () fun u2=>Qc R (Yn (Int.toNat g*8)) fun u3=>JB n a.1 (fun i j h=>K h 0) n 1 (List.replicate (Int.toNat g) [Ql 0])
def Gh (a0:Int) (K:Qkl R):oP R:=Qc R (Kq n a0 1000 Tu2) fun a=>K a.1
def PW (n:Nat) (a0 a1:Int) (K:Qkx R):oP R:=bif decide (a1<1) then K 0 1 else Qke R a1 (Qb R (wJ (Int.tdiv a0 a1)) fun b=>bif decide (Int.tmod a0 a1<0) then K (wJ (b-1)) 0 else K b 0)
def VQ (a0:Int) (K:Qkl R):oP R:=Qc R (PW n a0 1000 Tu2) fun a=>K a.1
def JA (n:Nat) (c a b d:LL) (K:Qkr R):oP R:=Qb R (wJ ((b.length:Int)+(a.length:Int))) fun f=>gb true (bif decide (0<=f)&&decide (f<=f) then some () else none) () fun e=>Qc R (Yn (Int.toNat f*24)) fun u2=>K (List.replicate (Int.toNat f) [Ql 0,Ql 0,Ql 0])
def XH (n:Nat) (a:LL) (a1 a2 b:Int) (K:Qkr R):oP R:=Qk0 R a.length a1 a a1.toNat fun g=>Qc R a[a1.toNat]? fun h=>Qk3 R h fun j=>bif decide (g<j) then Qc R a[a1.toNat]? fun k=>Qc R k[1]? fun l=>Qc R (pIw l) fun c=>Qc R a[a1.toNat]? fun m=>Qk3 R m fun d=>Qc R a[a1.toNat]? fun p=>K (List.set a a1.toNat (List.set (List.set (List.set p 0 (Ql a1)) 1 (Ql (if c<a2 then c else a2))) 2 (Ql (if b<d then d else b)))) else Qc R a[a1.toNat]? fun q=>K (List.set a a1.toNat (List.set (List.set (List.set q 0 (Ql a1)) 1 (Ql a2)) 2 (Ql b)))
def Ye (n:Nat) (c:LL) (h2:Int) (k0:Qkn R):Qkm R
 | 0,_,_=>none
 | m+1,a,b=>bif decide (a<h2) then QjS R c a fun g e f=>QjE R e f fun h i=>bif decide (h<i) then Qc R (Yn ((b.length+[[g,e,f]].length)*24)) fun j=>Ye n c h2 k0 m (wJ (a+1)) (b++[[g,e,f]]) else Ye n c h2 k0 m (wJ (a+1)) b else k0 a (decide (a<h2)) b
def VV (a0:LL) (K:Qkr R):oP R:=Ye n a0 (a0.length:Int) (fun b c a=>K a) n 0 []
def ZM (n:Nat) (a i e:LL) (g d:Int) (k0:QkE R):QkC R
 | 0,_,_,_,_=>none
 | m+1,b,c,h,f=>Qa R (decide (c<wJ ((e.length:Int)-g))) fun ae=>bif ae then QjF R a b fun j=>Qc R (Yn ((h.length+[[Ql j]].length)*8)) fun ab=>Qb R (wJ ((a.length:Int)-1)) fun ag=>bif decide (c>0) then QjF R e c fun t=>QjN R i t fun k=>QjF R a (if ag<wJ (wJ (b+k)+d) then ag else wJ (wJ (b+k)+d)) fun l=>Qc R (Yn ((f.length+[[Ql l]].length)*8)) fun ac=>ZM n a i e g d k0 m (wJ (b+k)) (wJ (c+1)) (h++[[Ql j]]) (f++[[Ql l]]) else QjF R a (if ag<wJ (b+d) then ag else wJ (b+d)) fun o=>Qc R (Yn ((f.length+[[Ql o]].length)*8)) fun ad=>ZM n a i e g d k0 m b (wJ (c+1)) (h++[[Ql j]]) (f++[[Ql o]]) else k0 b c ae h f
def PU (i j c k d:LL) (e:Int) (l:List UInt8) (f m o p:Int) (K:LL->LL->Int->Int->oP R):oP R:=Qc R (R1 n i j c k d e l f m o p some) fun a=>bif a !=0 then K [] [] 0 a else Qc R (SD n i j c k d e Tu3) fun b=>Qc R (Sj n b.1 b.2.1 l f m o p Tu2) fun h=>ZM n h.1 c d e f (fun x y z q r=>QjF R h.1 (wJ ((h.1.length:Int)-1)) fun u=>Qc R (JT n u 1000 some) fun v=>K q r v 0) n 0 0 [] []
def J7 (n:Nat) (a0 a1:Int) (K:Qkl R):oP R:=Qke R a1 (Qb R (wJ (Int.tdiv a0 a1)) fun b=>bif decide (Int.tmod a0 a1<0) then K (wJ (b-1)) else K b)
def Ze (n:Nat) (b a:LL) (a1 a2 c:Int) (K:QkA R):oP R:=QjW R b.length a1 b a1.toNat fun h=>bif h then Qk0 R a.length a1 a a1.toNat fun d=>QjH R a.length a1 a a1.toNat fun j=>Qk3 R j fun e=>QjH R b.length a1 b a1.toNat fun l=>QjH R a.length a1 a a1.toNat fun m=>K (List.set b a1.toNat (List.set l 0 (D.bool true))) (List.set a a1.toNat (List.set (List.set (List.set m 0 (Ql a1)) 1 (Ql (if d<a2 then d else a2))) 2 (Ql (if c<e then e else c)))) else QjH R b.length a1 b a1.toNat fun o=>QjH R a.length a1 a a1.toNat fun p=>K (List.set b a1.toNat (List.set o 0 (D.bool true))) (List.set a a1.toNat (List.set (List.set (List.set p 0 (Ql a1)) 1 (Ql a2)) 2 (Ql c)))
def WG (l o:Int) (e i:LL) (j b:Int) (p q f r c:LL) (k0:QkE R):QkC R
 | 0,_,_,_,_=>none
 | m+1,v,a,x,y=>Qa R (decide (a<(c.length:Int))) fun g=>bif g then jn (fun (t k:Int)=>(QjF R c a fun ag=>Qc R (Ze n x y ag t k Tu2) fun d=>Qb R (wJ (a+1)) fun h=>bif decide (a>0) then QjR R c (wJ (a-1)) fun ah ai=>QjR R c a fun aj ak=>Qk4 R ah ai aj ak fun al am an ao=>Qc R (Gi n p q f r al am an ao Tu5) fun u=>Qc R (pIw u.2.2.1) fun au=>bif decide (au>=0) then bif decide (a>b) then Qc R (pIw u.2.2.1) fun av=>Qc R (Ze n d.1 d.2 (wJ ((f.length:Int)+av)) t k Tu2) fun ab=>WG l o e i j b p q f r c k0 m k h ab.1 ab.2 else Qc R (pIw u.2.2.1) fun aw=>Qc R (Ze n d.1 d.2 (wJ ((f.length:Int)+aw)) t v Tu2) fun ac=>WG l o e i j b p q f r c k0 m k h ac.1 ac.2 else WG l o e i j b p q f r c k0 m k h d.1 d.2 else WG l o e i j b p q f r c k0 m k h d.1 d.2:oP R)) fun s=>bif a==0 then QjF R i 0 fun az=>Qc R (JT n az 1000 some) fun ba=>s (wJ (0-l)) (wJ (ba+4)) else bif decide (a<b) then QjF R e (wJ (a-1)) fun bd=>Qc R (J7 n bd 1000 some) fun be=>QjF R i a fun bi=>Qc R (JT n bi 1000 some) fun bj=>s (wJ (be-16)) (wJ (bj+4)) else bif a==b then QjF R e (wJ (b-1)) fun bm=>Qc R (J7 n bm 1000 some) fun bn=>s (wJ (bn-16)) (wJ (j+o)) else QjF R e b fun bq=>Qc R (J7 n bq 1000 some) fun br=>s (wJ (br-16)) (wJ (j+20)) else k0 v a g x y
def VG (n:Nat) (b:Int) (c d:LL) (k0:Qkn R):Qkm R
 | 0,_,_=>none
 | m+1,a,e=>bif decide (a<b) then QjW R c.length a c a.toNat fun l=>bif l then QjH R d.length a d a.toNat fun f=>Qkc R f fun g h=>Qc R f[2]? fun i=>Qc R (Yn ((e.length+[[g,h,i]].length)*24)) fun q=>VG n b c d k0 m (wJ (a+1)) (e++[[g,h,i]]) else VG n b c d k0 m (wJ (a+1)) e else k0 a (decide (a<b)) e
def Ks (f a b g h:LL) (j:Int) (k:List UInt8) (l m o p q r:Int) (K:Qky R):oP R:=Qc R (R1 n f a b g h j k l m o p some) fun d=>bif d !=0 then K [] 0 d else Qc R (T4 n q 0 65536 some) fun e=>Qd R (!(!e)) (T4 n r 0 65536 some) fun i=>bif Q8 (!e) (!i) then K [] 0 4 else gb true (PU n f a b g h j k l m o p Tu4) ([],[],0,0) fun c=>Qb R (wJ ((b.length:Int)+(a.length:Int))) fun aa=>Qa R (decide (0<=aa)&&decide (aa<=aa)) fun s=>gb true (bif s then some () else none) () fun x=>Qb R (Int.toNat aa) fun ah=>Qc R (Yn (ah*1)) fun y=>gb true (bif s then some () else none) () fun z=>Qc R (Yn (ah*24)) fun u8=>WG n q r c.1 c.2.1 c.2.2.1 (wJ ((c.1.length:Int)-1)) f a b g h (fun ab ac ad t u=>VG n aa t u (fun ae ag v=>K v c.2.2.1 0) n 0 []) n 0 0 (List.replicate ah [D.bool false]) (List.replicate ah [Ql 0,Ql 0,Ql 0])
def Vv (n:Nat) (d:Int) (h2:LL) (c:Int) (k0:Qkl R) (k1:Qko R):Qkp R
 | 0,_=>none
 | m+1,a=>bif decide (a<c) then QjI R h2 a fun b f=>Qc R b[1]? fun i=>Qk9 R b fun g=>Qc R (pIw f) fun h=>bif h==d then Qc R (pIw g) fun e=>k0 (if 60<e then e else 60) else Vv n d h2 c k0 k1 m (wJ (a+1)) else k1 a (decide (a<c))
def Hy (c:Int) (d e f g a h i:LL) (a1:Int) (K:Qkl R):oP R:=Vv n a1 a (a.length:Int) (fun b=>K b) (fun j k=>K 60) n 0
def Jy (n:Nat) (c:Int) (a:LL) (k0:D->D->D->D->oP R) (k1:Qko R):Qkp R
 | 0,_=>none
 | m+1,h2=>Qa R (decide (h2<(a.length:Int))) fun k=>bif k then QjF R a h2 fun f=>bif f==c then QjX R a h2 fun g h i j=>k0 g h i j else Jy n c a k0 k1 m (wJ (h2+1)) else k1 h2 k
def H5 (a:LL) (a1:Int) (K:D->D->D->D->Bool->oP R):oP R:=Jy n a1 a (fun b c d e=>K b c d e true) (fun f g=>Qb R (Ql 0) fun h=>K h h h h false) n 0
def YX (g:Int) (k l o p:LL) (q:Int) (e r s t h u v:LL) (x d:D) (k0:Qkv R):Qkw R
 | 0,_,_,_=>none
 | m+1,a,i,j=>Qc R (pSl 4 d) fun aj=>Qa R (decide (a<(aj.length:Int))) fun b=>bif b then Qc R (pSl 4 d) fun aw=>QjN R aw a fun ak=>Qb R (wJ (a+1)) fun c=>bif a==0 then jn (fun (az:Int)=>(Qc R (Y1 n q e r s t h u v g a Tu2) fun al=>QjJ R x e al.1 al.2 fun bh bi bj bk bl bm bn=>Qc R (Ks n k l o p bh bi bj bk bl bm bn 60 az Tu3) fun ac=>Qk1 R ((i.length+[[D.sl 3 ac.1]].length)*24) ((j.length+[[Ql ac.2.1]].length)*8) (YX g k l o p q e r s t h u v x d k0 m c (i++[[D.sl 3 ac.1]]) (j++[[Ql ac.2.1]])):oP R)) fun am=>Qc R (H5 n h g Tu5) fun an=>Qc R (pSl 4 d) fun bo=>bif decide (a<wJ ((bo.length:Int)-1)) then Qc R (pSl 4 d) fun bp=>QjN R bp a fun bt=>Qc R (pSl 4 d) fun bu=>Qc R (Qi bu a) fun bv=>Qc R bv[3]? fun bx=>Qc R (pIw bx) fun bz=>am (wJ (bt+bz)) else bif an.2.2.2.2 then Qc R (pSl 4 d) fun ca=>Qka R ca a fun cc=>QjE R cc an.2.2.2.1 fun ce i64=>am (wJ (ce+(if 60<i64 then i64 else 60))) else Qc R (Y1 n q e r s t h u v g a Tu2) fun ao=>QjJ R x e ao.1 ao.2 fun cm cn co cp cq cr cs=>Qc R (Ks n k l o p cm cn co cp cq cr cs 60 (wJ (ak+60)) Tu3) fun ad=>Qk1 R ((i.length+[[D.sl 3 ad.1]].length)*24) ((j.length+[[Ql ad.2.1]].length)*8) (YX g k l o p q e r s t h u v x d k0 m c (i++[[D.sl 3 ad.1]]) (j++[[Ql ad.2.1]])) else jn (fun (ct:Int)=>(Qc R (Y1 n q e r s t h u v g a Tu2) fun ap=>QjJ R x e ap.1 ap.2 fun da db dc dd de df dg=>Qc R (Ks n k l o p da db dc dd de df dg 0 ct Tu3) fun ae=>Qk1 R ((i.length+[[D.sl 3 ae.1]].length)*24) ((j.length+[[Ql ae.2.1]].length)*8) (YX g k l o p q e r s t h u v x d k0 m c (i++[[D.sl 3 ae.1]]) (j++[[Ql ae.2.1]])):oP R)) fun aq=>Qc R (H5 n h g Tu5) fun ar=>Qc R (pSl 4 d) fun dh=>bif decide (a<wJ ((dh.length:Int)-1)) then Qc R (pSl 4 d) fun di=>QjN R di a fun dl=>Qc R (pSl 4 d) fun dn=>Qc R (Qi dn a) fun dp=>Qc R dp[3]? fun dq=>Qc R (pIw dq) fun dr=>aq (wJ (dl+dr)) else bif ar.2.2.2.2 then Qc R (pSl 4 d) fun ds=>Qka R ds a fun du=>QjE R du ar.2.2.2.1 fun dw au=>aq (wJ (dw+(if 60<au then au else 60))) else Qc R (Y1 n q e r s t h u v g a Tu2) fun av=>QjJ R x e av.1 av.2 fun ed ee ef eg eh ei ej=>Qc R (Ks n k l o p ed ee ef eg eh ei ej 0 (wJ (ak+60)) Tu3) fun ag=>Qk1 R ((i.length+[[D.sl 3 ag.1]].length)*24) ((j.length+[[Ql ag.2.1]].length)*8) (YX g k l o p q e r s t h u v x d k0 m c (i++[[D.sl 3 ag.1]]) (j++[[Ql ag.2.1]])) else k0 a b i j
def V9 (c d e f:LL) (g:Int) (h i a j k l o:LL) (k0:Qkv R):Qkw R
 | 0,_,_,_=>none
 | m+1,h2,p,q=>Qa R (decide (h2<(a.length:Int))) fun aa=>bif aa then QjP R a h2 fun b r=>Qk9 R b fun s=>YX n h2 c d e f g h i a j k l o r s (fun y z t u=>V9 c d e f g h i a j k l o k0 m (wJ (h2+1)) t u) n 0 p q else k0 h2 aa p q
def RJ (a b c d:LL) (e:Int) (f g h i j k l:LL) (K:LL->LL->Int->oP R):oP R:=Qc R (UU n a b c d e f g h i j k l some) fun m=>bif m !=0 then K [] [] 1 else V9 n a b c d e f g h i j k l (fun q r o p=>K o p 0) n 0 [] []
def Xl (n:Nat) (b c:Int) (k0:Qkn R):Qkm R
 | 0,_,_=>none
 | m+1,a,d=>bif decide (a<c) then Qb R [[Ql 1,Ql b,Ql a],[Ql 2,Ql b,Ql a]] fun f=>Qc R (Yn ((d.length+List.length f)*24)) fun e=>Xl n b c k0 m (wJ (a+1)) (d++f) else k0 a (decide (a<c)) d
def X3 (e:LL) (h2:Int) (k0:Qkv R):Qkw R
 | 0,_,_,_=>none
 | m+1,a,d,b=>bif decide (a<h2) then QjY R e a fun f=>Qc R (nz 2) fun l=>Qb R [[Ql (wJ (Int.tdiv (b.length:Int) 2))]] fun r=>Qc R (Yn ((d.length+r.length)*8)) fun o=>Qc R (pSl 4 f) fun g=>Xl n a (g.length:Int) (fun p q h=>X3 e h2 k0 m (wJ (a+1)) (d++r) h) n 0 b else k0 a (decide (a<h2)) d b
def YT (a b c:LL) (K:QkA R):oP R:=X3 n a (a.length:Int) (fun f g d e=>K d e) n 0 b c
def Y5 (n:Nat) (a:LL) (a1 a2:Int) (K:Qkl R):oP R:=QjL R a.length a1 a a1.toNat fun d=>K (wJ (d+a2))
def Yt (n:Nat) (f b:LL) (a1 a2 c d e:Int) (K:Qkr R):oP R:=QjF R f a1 fun a=>Qb R [[Ql a1,Ql a2,Ql (wJ (a+d)),Ql (wJ (wJ (a+c)+e))]] fun j=>Qc R (Yn ((b.length+j.length)*32)) fun i=>K (b++j)
def Wz (a b:LL) (a1:Int) (K:Qkl R):oP R:=QjO R a a1 fun e=>Qc R (Y5 n b a1 (wJ ((e.length:Int)-1)) some) fun f=>K f
def Xx (c:Int) (f:LL) (d:Int) (e g:LL) (k0:Qkn R):Qkm R
 | 0,_,_=>none
 | m+1,a,h=>bif decide (a<d) then QjP R f a fun b i=>Qk8 R b fun j k=>Qc R (Y5 n e c a some) fun l=>Qc R (Y5 n e c (wJ (a+1)) some) fun o=>Qk6 R i j k fun i64 p q=>Qc R (Yt n g h l o i64 p q some) fun r=>Xx c f d e g k0 m (wJ (a+1)) r else k0 a (decide (a<d)) h
def QP (d:LL) (h2:Int) (e f:LL) (k0:Qkn R):Qkm R
 | 0,_,_=>none
 | m+1,a,g=>bif decide (a<h2) then QjY R d a fun h=>Qc R (pSl 4 h) fun c=>Qc R (pSl 4 h) fun j=>Qc R (slB c.length none (some (wJ ((j.length:Int)-1)))) fun i=>Xx n a (cut c i) ((List.length (cut c i):Nat):Int) e f (fun q r k=>QP d h2 e f k0 m (wJ (a+1)) k) n 0 g else k0 a (decide (a<h2)) g
def Xv (f:LL) (c:Int) (d e g:LL) (k0:Qkn R):Qkm R
 | 0,_,_=>none
 | m+1,a,h=>bif decide (a<c) then QjX R f a fun i k l o=>Qc R (pIw i) fun p=>QjO R e p fun j=>Qc R (pIw i) fun s=>Qc R (Wz n e d s some) fun t=>Qc R (pIw k) fun u=>Qc R (Y5 n d u 0 some) fun v=>Qka R j (wJ ((j.length:Int)-1)) fun y=>Qk6 R y l o fun z aa ab=>Qc R (Yt n g h t v z aa ab some) fun ac=>Xv f c d e g k0 m (wJ (a+1)) ac else k0 a (decide (a<c)) h
def YY (a b c d e:LL) (K:Qkr R):oP R:=QP n a (a.length:Int) c d (fun h i f=>Xv n b (b.length:Int) c a d (fun j k g=>K g) n 0 f) n 0 e
def UA (n:Nat) (h2:LL) (e:Int) (k0:oP R) (k1:Qkt R):Qku R
 | 0,_,_=>none
 | m+1,a,b=>bif decide (b<e) then QjS R h2 b fun g h i=>Qc R (pIw g) fun c=>Qd R (!(decide (c<=a))) (pIw h) fun d=>Qa R (Q8 (decide (c<=a)) (decide (d<(-65536:Int)))) fun p=>QjM R h (!p) i fun j k=>Qa R (Q8 p (decide (j>=k))) fun q=>Qd R (!q) (pIw i) fun l=>bif Q8 q (decide (l>65536)) then k0 else Qc R (pIw g) fun o=>UA n h2 e k0 k1 m o (wJ (b+1)) else k1 a b (decide (b<e))
def JK (a0:LL) (K:Qkq R):oP R:=UA n a0 (a0.length:Int) (K false) (fun a b c=>K true) n (-1:Int) 0
def UF (n:Nat) (h2:Int) (d:LL) (b:Int) (k0:oP R) (k1:Qko R):Qkp R
 | 0,_=>none
 | m+1,a=>bif decide (a<b) then QjP R d a fun c e=>Qc R c[2]? fun f=>QjE R f e fun g h=>bif decide (wJ (g-h)>h2) then k0 else UF n h2 d b k0 k1 m (wJ (a+1)) else k1 a (decide (a<b))
def Tx (a0:Int) (a1:LL) (K:Qkq R):oP R:=Qa R (Q8 (decide (a0<1)) (decide (a0>7200))) fun d=>Qd R (!d) (JK n a1 some) fun a=>bif Q8 d (!a) then K false else UF n a0 a1 (a1.length:Int) (K false) (fun b c=>K true) n 0
def Yr (n:Nat) (a b c d e f:Int) (g:Bool) (h:Int) (K:Qkq R):oP R:=K (Q8 g (decide (wJ ((if b<wJ (f+d) then wJ (f+d) else b)-(if wJ (e+c)<a then wJ (e+c) else a))>h)))
def QY (e:LL) (b f:Int) (c g d:D) (h i j:Int) (k0:Int->Bool->Bool->oP R):Nat->Int->Bool->oP R
 | 0,_,_=>none
 | m+1,a,k=>bif decide (a<b) then QjS R e a fun q r s=>QjE R c q fun o p=>QjM R r (o==p) d fun t u=>bif Q9 (o==p) (decide (wJ (f+t)<=u)) then Qc R (pIw c) fun ab=>QjE R g d fun v x=>Qc R (pIw q) fun ac=>QjE R r s fun y z=>Qc R (Yr n v x y z i j k h some) fun aa=>QY e b f c g d h i j k0 m (wJ (a+1)) aa else QY e b f c g d h i j k0 m (wJ (a+1)) k else k0 a (decide (a<b)) k
def XA (d:LL) (b e f g:Int) (h:LL) (i j:Int) (k0:Int->Bool->Bool->oP R):Nat->Int->Bool->oP R
 | 0,_,_=>none
 | m+1,a,k=>bif decide (a<b) then QjS R d a fun o p q=>QjZ R h e fun l=>QY n l (l.length:Int) f o p q g i j (fun u v t=>XA d b e f g h i j k0 m (wJ (a+1)) t) n 0 k else k0 a (decide (a<b)) k
def Wr (c:Int) (a:LL) (d e f g h:Int) (i:Bool) (K:Qkq R):oP R:=QjZ R a d fun b=>XA n b (b.length:Int) e f c a g h (fun m o l=>K l) n 0 i
def XU (b:LL) (h2 c:Int) (k0:oP R) (k1:Qko R):Qkp R
 | 0,_=>none
 | m+1,a=>bif decide (a<h2) then QjZ R b a fun f=>Qc R (Tx n c f some) fun g=>bif !g then k0 else XU b h2 c k0 k1 m (wJ (a+1)) else k1 a (decide (a<h2))
def Xr (d:LL) (c e:Int) (f:LL) (k0:oP R) (k1:Qko R):Qkp R
 | 0,_=>none
 | m+1,a=>bif decide (a<c) then QjX R d a fun g h i j=>Qk6 R g h i fun k l o=>QjT R j g (Qc R (pIw h) fun u=>QjE R i j fun p q=>Qc R (Wr n e f k l o p q false some) fun r=>bif r then k0 else Xr d c e f k0 k1 m (wJ (a+1))) else k1 a (decide (a<c))
def Wd (b:Int) (a c:LL) (K:Qkq R):oP R:=XU n a (a.length:Int) b (K false) (fun d e=>Xr n c (c.length:Int) b a (K false) (fun f g=>K true) n 0) n 0
def Xg (n:Nat) (a:LL) (a1 a2:Int) (K:Qkl R):oP R:=QjL R a.length a1 a a1.toNat fun d=>K (wJ (d+a2))
def YG (n:Nat) (a0:Int) (K:Qkl R):oP R:=K (wJ (2*a0))
def V2 (n:Nat) (a0:Int) (K:Qkl R):oP R:=K (wJ (wJ (2*a0)+1))
def Xu (n:Nat) (a:LL) (a1 a2 b c d e:Int) (K:Qkr R):oP R:=Qb R [[Ql a1,Ql a2,Ql b,Ql c,Ql d,Ql e]] fun g=>Qc R (Yn ((a.length+g.length)*48)) fun f=>K (a++g)
def VL (a b:LL) (a1:Int) (K:Qkl R):oP R:=QjO R a a1 fun e=>Qc R (Xg n b a1 (wJ ((e.length:Int)-1)) some) fun f=>K f
def QK (f:Int) (g:LL) (c:Int) (d h:D) (i j:LL) (k0:Qkn R):Qkm R
 | 0,_,_=>none
 | m+1,a,k=>bif decide (a<c) then QjP R g a fun e p=>Qk8 R e fun q r=>Qc R (Xg n i f a some) fun b=>QjF R j b fun l=>Qc R (YG n b some) fun u=>Qc R (V2 n b some) fun v=>QjE R p d fun x y=>Qc R (Xu n k 1 u v l (wJ (l+x)) y some) fun o=>Qc R (pSl 4 h) fun z=>bif decide (a<wJ ((z.length:Int)-1)) then Qc R (V2 n b some) fun aa=>Qc R (YG n (wJ (b+1)) some) fun ab=>Qk6 R q r d fun ac ad ae=>Qc R (Xu n o 2 aa ab ac ad ae some) fun ag=>QK f g c d h i j k0 m (wJ (a+1)) ag else QK f g c d h i j k0 m (wJ (a+1)) o else k0 a (decide (a<c)) k
def QT (c:LL) (h2:Int) (d e:LL) (k0:Qkn R):Qkm R
 | 0,_,_=>none
 | m+1,a,f=>bif decide (a<h2) then Qc R (Qi c a) fun b=>Qc R b[0]? fun k=>Qc R b[1]? fun l=>Qk8 R b fun i g=>Qc R (pSl 4 g) fun h=>QK n a h (h.length:Int) i g d e (fun o p j=>QT c h2 d e k0 m (wJ (a+1)) j) n 0 f else k0 a (decide (a<h2)) f
def QV (e:LL) (c:Int) (d:LL) (k0:Qkn R):Qkm R
 | 0,_,_=>none
 | m+1,b,f=>bif decide (b<c) then QjG R e b fun a g h i=>Qk2 R a fun j k l=>Qc R a[6]? fun o=>QjE R g h fun p q=>Qc R (Xg n d p q some) fun r=>QjE R i j fun s t=>Qc R (Xg n d s t some) fun u=>Qc R (V2 n r some) fun v=>Qc R (YG n u some) fun x=>Qk6 R k l o fun y z aa=>Qc R (Xu n f 3 v x y z aa some) fun ab=>QV e c d k0 m (wJ (b+1)) ab else k0 b (decide (b<c)) f
def QU (e:LL) (c:Int) (d f:LL) (k0:Qkn R):Qkm R
 | 0,_,_=>none
 | m+1,a,g=>bif decide (a<c) then QjX R e a fun h i j k=>Qc R (pIw h) fun l=>Qc R (VL n f d l some) fun o=>Qc R (V2 n o some) fun p=>Qc R (pIw i) fun q=>Qc R (Xg n d q 0 some) fun r=>Qc R (YG n r some) fun s=>QjE R j k fun t u=>Qc R (Xu n g 4 p s t u 1 some) fun v=>QU e c d f k0 m (wJ (a+1)) v else k0 a (decide (a<c)) g
def QW (e:LL) (c:Int) (d:LL) (k0:Qkn R):Qkm R
 | 0,_,_=>none
 | m+1,a,f=>bif decide (a<c) then QjG R e a fun b h i j=>QjQ R b fun k g=>QjE R h i fun l o=>Qc R (Xg n d l o some) fun p=>Qc R (YG n p some) fun q=>QjE R j k fun r s=>Qc R (Xg n d r s some) fun t=>Qc R (YG n t some) fun u=>Qc R (pIw g) fun v=>Qc R (pIw g) fun x=>Qc R (Xu n f 5 q u v x 0 some) fun y=>QW e c d k0 m (wJ (a+1)) y else k0 a (decide (a<c)) f
def YJ (b c d e a f g:LL) (K:Qkr R):oP R:=QT n b (b.length:Int) a f (fun l m h=>QV n c (c.length:Int) a (fun o p i=>QU n d (d.length:Int) a b (fun q r j=>QW n e (e.length:Int) a (fun s t k=>K k) n 0 j) n 0 i) n 0 h) n 0 g
def XN (n:Nat) (a:Int) (b:Int->Bool) (K:(Int->Bool)->oP R):oP R:=K (Q7O b a true)
def Xe (e:LL) (b f:Int) (c g d:D) (k0:QkK R):QkL R
 | 0,_,_=>none
 | m+1,a,h=>bif decide (a<b) then QjS R e a fun l o p=>QjE R c l fun j k=>QjM R o (j==k) d fun q r=>bif Q9 (j==k) (decide (wJ (f+q)<=r)) then Qc R (pIw c) fun s=>QjT R g d (QjT R l o (Qc R (pIw p) fun z=>gb true (XN n s h some) (fun _=>false) fun t=>Xe e b f c g d k0 m (wJ (a+1)) t)) else Xe e b f c g d k0 m (wJ (a+1)) h else k0 a (decide (a<b)) h
def XB (d:LL) (b e f:Int) (g:LL) (k0:QkK R):QkL R
 | 0,_,_=>none
 | m+1,a,h=>bif decide (a<b) then QjS R d a fun j k l=>QjZ R g e fun i=>Xe n i (i.length:Int) f j k l (fun r s q=>XB d b e f g k0 m (wJ (a+1)) q) n 0 h else k0 a (decide (a<b)) h
def Wt (a:LL) (c d e:Int) (f:Int->Bool) (K:(Int->Bool)->oP R):oP R:=QjZ R a c fun b=>XB n b (b.length:Int) d e a (fun j k i=>K i) n 0 f
def QL (a h2:Int) (f:LL) (c:Int) (g:LL) (k0:QkK R):QkL R
 | 0,_,_=>none
 | m+1,b,h=>bif decide (b<c) then QjX R f b fun i j o p=>Qc R (pIw i) fun e=>Qd R (e==a) (pIw j) fun k=>Qa R (Q9 (e==a) (k==h2)) fun x=>Qd R (!x) (pIw i) fun l=>Qd R (!x&&l==h2) (pIw j) fun q=>bif Q8 x (Q9 (l==h2) (q==a)) then Qk6 R i j o fun r s t=>Qc R (pIw p) fun v=>gb true (Wt n g r s t h some) (fun _=>false) fun u=>QL a h2 f c g k0 m (wJ (b+1)) u else QL a h2 f c g k0 m (wJ (b+1)) h else k0 b (decide (b<c)) h
def Yk (b a:LL) (a1 a2:Int) (K:(Int->Bool)->oP R):oP R:=QL n a1 a2 a (a.length:Int) b (fun d e c=>K c) n 0 fun _=>false
def Ym (n:Nat) (c:LL) (h2:Int) (d:Int->Bool) (k0:Qkn R):Qkm R
 | 0,_,_=>none
 | m+1,a,b=>bif decide (a<h2) then QjS R c a fun f g h=>Qc R (pIw f) fun i=>bif !(d i) then Qc R (Yn ((b.length+[[f,g,h]].length)*24)) fun j=>Ym n c h2 d k0 m (wJ (a+1)) (b++[[f,g,h]]) else Ym n c h2 d k0 m (wJ (a+1)) b else k0 a (decide (a<h2)) b
def UP (a0:LL) (a:Int->Bool) (K:LL->(Int->Bool)->oP R):oP R:=Ym n a0 (a0.length:Int) a (fun c d b=>K b a) n 0 []
def Vl (n:Nat) (a0:Int) (K:Qkq R):oP R:=K (Q9 (decide (a0>=1)) (decide (a0<=7200)))
def HE (n:Nat) (a0 a1:Int) (K:Qkl R):oP R:=bif decide (a1<1) then K 0 else Qc R (nz a1) fun a=>Qb R (Int.tmod a0 a1) fun b=>bif decide (b<0) then K (wJ (b+a1)) else K b
def JR (n:Nat) (a1 a2 a:Int) (K:Qkr R):oP R:=bif decide (a<1) then K [] else bif decide (a>=a1) then Qc R (Yn ([[Ql 0,Ql a1]].length*16)) fun b=>K [[Ql 0,Ql a1]] else Qb R (wJ (a2+a)) fun d=>bif decide (d<=a1) then Qc R (Yn ([[Ql a2,Ql d]].length*16)) fun u2=>K [[Ql a2,Ql d]] else Qb R [[Ql 0,Ql (wJ (d-a1))],[Ql a2,Ql a1]] fun c=>Qc R (Yn (List.length c*16)) fun u3=>K c
def PA (a0 a1 a2:Int) (K:Qks R):oP R:=Qc R (Vl n a0 some) fun a=>bif !a then K [] 4 else Qc R (HE n a1 a0 some) fun b=>Qc R (JR n a0 b a2 some) fun c=>K c 0
def UD (n:Nat) (h2:Int) (f:LL) (d:Int) (k0:oP R) (k1:Qkt R):Qku R
 | 0,_,_=>none
 | m+1,a,b=>bif decide (b<d) then QjR R f b fun h e=>Qc R (pIw h) fun c=>Qa R (decide (c<=a)) fun o=>QjM R h (!o) e fun i j=>Qa R (Q8 o (decide (i>=j))) fun p=>Qd R (!p) (pIw e) fun k=>bif Q8 p (decide (k>h2)) then k0 else Qc R (pIw e) fun l=>UD n h2 f d k0 k1 m l (wJ (b+1)) else k1 a b (decide (b<d))
def GV (a0:Int) (a1:LL) (K:Qkq R):oP R:=Qc R (Vl n a0 some) fun a=>bif !a then K false else UD n a0 a1 (a1.length:Int) (K false) (fun b c d=>K true) n (-1:Int) 0
def Uw (h2:Int) (c:LL) (b:Int) (k0:oP R) (k1:Qko R):Qkp R
 | 0,_=>none
 | m+1,a=>bif decide (a<b) then Qki R c a fun f=>Qc R (GV n h2 f some) fun g=>bif !g then k0 else Uw h2 c b k0 k1 m (wJ (a+1)) else k1 a (decide (a<b))
def TC (a0:Int) (a1:LL) (K:Qkl R):oP R:=Qc R (Vl n a0 some) fun a=>bif !a then K 4 else Uw n a0 a1 (a1.length:Int) (K 1) (fun b c=>K 0) n 0
def QS (n:Nat) (a1:Int) (K:Qkr R):oP R:=bif decide (a1<0) then none else Qb R (wJ (a1-wJ (0-0))) fun c=>bif decide (c>0) then Qc R (slB 0 none (some 0)) fun a=>gb true (bif decide (0<c) then some () else none) () fun u3=>Qc R (Yn (Int.toNat c*16)) fun b=>K [] else K []
def Qw (n:Nat) (c:LL) (b:Int) (k0:Qkt R):Qku R
 | 0,_,_=>none
 | m+1,h2,a=>bif decide (a<b) then Qki R c a fun d=>Qb R (wJ (h2+(d.length:Int))) fun g=>bif decide (g<0) then none else Qw n c b k0 m g (wJ (a+1)) else k0 h2 a (decide (a<b))
def Qx (n:Nat) (d:LL) (b:Int) (k0:Qkn R):Qkm R
 | 0,_,_=>none
 | m+1,a,c=>bif decide (a<b) then Qki R d a fun e=>Qc R (Yn ((c.length+e.length)*16)) fun h=>Qx n d b k0 m (wJ (a+1)) (c++e) else k0 a (decide (a<b)) c
def QZ (a0:LL) (K:Qkr R):oP R:=Qw n a0 (a0.length:Int) (fun a d e=>Qc R (QS n a some) fun b=>Qx n a0 (a0.length:Int) (fun f g c=>K c) n 0 b) n 0 0
def Mz (n:Nat) (a0:Int) (K:Qkl R):oP R:=bif decide (a0>=65536) then Qc R (Ap 16) fun e=>bif decide (shR .u32 a0 16>=256) then Qc R (Ap 8) fun f=>Qc R (Jo Qjx (IntKind.wrap .u8 (shR .u32 (shR .u32 a0 16) 8))) fun a=>K (wJ (wJ (16+8)+wJ a)) else Qc R (Jo Qjx (IntKind.wrap .u8 (shR .u32 a0 16))) fun b=>K (wJ (16+wJ b)) else bif decide (a0>=256) then Qc R (Ap 8) fun g=>Qc R (Jo Qjx (IntKind.wrap .u8 (shR .u32 a0 8))) fun c=>K (wJ (wJ (0+8)+wJ c)) else Qc R (Jo Qjx (IntKind.wrap .u8 a0)) fun d=>K (wJ (0+wJ d))
def NX (n:Nat) (a0:Int) (K:Qkl R):oP R:=bif decide (a0>=4294967296) then Qc R (Ap 32) fun i=>bif decide (shR .u64 a0 32>=65536) then Qc R (Ap 16) fun j=>bif decide (shR .u64 (shR .u64 a0 32) 16>=256) then Qc R (Ap 8) fun k=>Qc R (Jo Qjx (IntKind.wrap .u8 (shR .u64 (shR .u64 (shR .u64 a0 32) 16) 8))) fun a=>K (wJ (wJ (wJ (32+16)+8)+wJ a)) else Qc R (Jo Qjx (IntKind.wrap .u8 (shR .u64 (shR .u64 a0 32) 16))) fun b=>K (wJ (wJ (32+16)+wJ b)) else bif decide (shR .u64 a0 32>=256) then Qc R (Ap 8) fun l=>Qc R (Jo Qjx (IntKind.wrap .u8 (shR .u64 (shR .u64 a0 32) 8))) fun c=>K (wJ (wJ (32+8)+wJ c)) else Qc R (Jo Qjx (IntKind.wrap .u8 (shR .u64 a0 32))) fun d=>K (wJ (32+wJ d)) else bif decide (a0>=65536) then Qc R (Ap 16) fun m=>bif decide (shR .u64 a0 16>=256) then Qc R (Ap 8) fun o=>Qc R (Jo Qjx (IntKind.wrap .u8 (shR .u64 (shR .u64 a0 16) 8))) fun e=>K (wJ (wJ (wJ (0+16)+8)+wJ e)) else Qc R (Jo Qjx (IntKind.wrap .u8 (shR .u64 a0 16))) fun f=>K (wJ (wJ (0+16)+wJ f)) else bif decide (a0>=256) then Qc R (Ap 8) fun p=>Qc R (Jo Qjx (IntKind.wrap .u8 (shR .u64 a0 8))) fun g=>K (wJ (wJ (0+8)+wJ g)) else Qc R (Jo Qjx (IntKind.wrap .u8 a0)) fun h=>K (wJ (0+wJ h))
def To (a0:Int) (K:Qkl R):oP R:=bif false then Qc R (Mz n (IntKind.wrap .u32 a0) some) fun a=>K a else Qc R (NX n a0 some) fun b=>K b
def Kb (n:Nat) (a0:Int) (K:Qkq R):oP R:=K (a0 !=a0)
def Ju (a0 a1:Int) (K:Qkl R):oP R:=Qc R (Kb n a0 some) fun b=>Qc R (Kb n a1 some) fun a=>bif b then bif a then K 0 else K (-1:Int) else bif a then K 1 else bif decide (a0<a1) then K (-1:Int) else bif decide (a0>a1) then K 1 else K 0
def Vm (a d b e:Int) (K:Qkl R):oP R:=Qc R (Ju n a b some) fun c=>K c
def Qy (b:Int) (k0:Qkn R):Qkm R
 | 0,_,_=>none
 | m+1,a,c=>Qa R (decide (a>b)) fun ag=>Qd R ag (inB c.length a) fun z=>Qd R ag c[a.toNat]? fun g=>Qkd R g ag fun l o=>Qb R (wJ (a-1)) fun aj=>Qd R ag (inB c.length aj) fun aa=>Qb R (Int.toNat aj) fun ak=>Qd R ag c[ak]? fun h=>Qkd R h ag fun p q=>QjM R l ag o fun r s=>QjM R p ag q fun t u=>Qd R ag (Vm n r s t u some) fun i=>Qa R (Q9 ag (decide (i<0))) fun ah=>bif ah then QjH R c.length aj c ak fun j=>Qkc R j fun d e=>QjH R c.length a c a.toNat fun k=>Qkc R k fun v x=>QjH R c.length a c a.toNat fun f=>Qb R (List.set c a.toNat (List.set (List.set f 0 d) 1 e)) fun ai=>QjH R (List.length ai) aj ai ak fun y=>Qy b k0 m aj (List.set ai ak (List.set (List.set y 0 v) 1 x)) else k0 a ah c
def Qo (b h2:Int) (k0:Qkn R):Qkm R
 | 0,_,_=>none
 | m+1,a,c=>bif decide (a<h2) then Qy n b (fun e f d=>Qo b h2 k0 m (wJ (a+1)) d) n a c else k0 a (decide (a<h2)) c
def XE (a:LL) (a1 a2:Int) (K:Qkr R):oP R:=Qo n a1 a2 (fun c d b=>K b) n (wJ (a1+1)) a
def XW (a h2 d:Int) (b:LL) (k0:Qkr R):Nat->oP R
 | 0=>none
 | m+1=>bif decide (wJ (h2-a)<=12) then Qc R (XE n b a h2 some) fun c=>Qc R (Tv c b.length) fun e=>k0 c else bif d==0 then none else bif !true then none else none
def Y6 (a:LL) (a1 a2 b:Int) (K:Qkr R):oP R:=XW n a1 a2 b a (fun c=>K c) n
def QM (a:LL) (K:Qkr R):oP R:=Qc R (To n (IntKind.wrap .u64 (a.length:Int)) some) fun c=>Qc R (Y6 n a 0 (a.length:Int) c some) fun b=>Qc R (Tv b a.length) fun u3=>K b
def Xp (n:Nat) (c:Int) (d:LL) (k0:Qkn R):Qkm R
 | 0,_,_=>none
 | m+1,b,a=>bif decide (b<c) then QjH R d.length b d b.toNat fun g=>Qkc R g fun e f=>Qb R (wJ ((a.length:Int)-1)) fun z=>Qa R (decide (z>=0)) fun y=>Qd R y (pIw e) fun j=>Qd R y (inB a.length z) fun t=>Qb R (Int.toNat z) fun aa=>Qd R y a[aa]? fun k=>Qd R y k[1]? fun l=>Qd R y (pIw l) fun o=>bif Q9 y (decide (j<=o)) then QjH R a.length z a aa fun p=>Qc R p[1]? fun q=>QjE R q f fun h i=>QjH R a.length z a aa fun r=>Xp n c d k0 m (wJ (b+1)) (List.set a aa (List.set r 1 (Ql (if h<i then i else h)))) else Qc R (Yn ((a.length+[[e,f]].length)*16)) fun x=>Xp n c d k0 m (wJ (b+1)) (a++[[e,f]]) else k0 b (decide (b<c)) a
def Tb (b:LL) (K:QkA R):oP R:=Qc R (QM n b some) fun a=>Qc R (Tv a b.length) fun u2=>Xp n (a.length:Int) a (fun d e c=>K c a) n 0 []
def TM (a0:Int) (a1 a2:LL) (K:Qks R):oP R:=Qb R [[D.sl 2 a1],[D.sl 2 a2]] fun d=>Qc R (TC n a0 d some) fun a=>bif a !=0 then K [] a else Qc R (QZ n d some) fun b=>Qc R (Eh [b]) fun u3=>Qc R (Tb n b Tu2) fun c=>Qc R (Tv c.2 b.length) fun e=>K c.1 0
def Zt (c g h d e:Int) (i:LL) (K:Qkr R):oP R:=Qc R (PA n e (wJ (wJ (c-d)+1)) (wJ (wJ (wJ (wJ (g-h)-1)-wJ (wJ (c-d)+1))+1)) Tu2) fun a=>Qc R (TM n e i a.1 Tu2) fun f=>Qc R (Eh [f.1]) fun u3=>K f.1
def QI (b:Int) (k0:LL->LL->Bool->LL->oP R):Nat->LL->LL->LL->oP R
 | 0,_,_,_=>none
 | m+1,a,h2,e=>Qa R (Q9 (decide ((a.length:Int)>0)) (decide ((h2.length:Int)>0))) fun aq=>bif aq then QjS R a 0 fun c k l=>QjS R h2 0 fun d o p=>QjE R c d fun q r=>bif q==r then Qc R (pIw c) fun ao=>QjE R k l fun s t=>Qc R (pIw d) fun ap=>QjE R o p fun u v=>Qc R (Zt n s t u v b e some) fun f=>QjE R c d fun x y=>bif decide (x<=y) then Qc R (slB a.length (some 1) none) fun i=>QjE R c d fun z aa=>bif decide (z>=aa) then Qc R (slB h2.length (some 1) none) fun ab=>QI b k0 m (cut a i) (cut h2 ab) f else QI b k0 m (cut a i) h2 f else QjE R c d fun ac ad=>bif decide (ac>=ad) then Qc R (slB h2.length (some 1) none) fun ae=>QI b k0 m a (cut h2 ae) f else QI b k0 m a h2 f else QjE R c d fun ag ah=>bif decide (ag<=ah) then Qc R (slB a.length (some 1) none) fun j=>QjE R c d fun ai aj=>bif decide (ai>=aj) then Qc R (slB h2.length (some 1) none) fun ak=>QI b k0 m (cut a j) (cut h2 ak) e else QI b k0 m (cut a j) h2 e else QjE R c d fun al am=>bif decide (al>=am) then Qc R (slB h2.length (some 1) none) fun an=>QI b k0 m a (cut h2 an) e else QI b k0 m a h2 e else k0 a h2 aq e
def Hg (a0 a1:LL) (a:Int) (b:LL) (K:Qkr R):oP R:=QI n a (fun d e f c=>K c) n a0 a1 b
def JI (a0:Int) (a1 a2:LL) (K:Qks R):oP R:=jn (fun (d:Bool)=>(bif d then K [] 4 else jn (fun (e:Bool)=>(bif e then K [] 1 else Qc R (Hg n a1 a2 a0 [] some) fun f=>K f 0:oP R)) fun a=>Qc R (JK n a1 some) fun b=>bif !b then a (!b) else Qc R (JK n a2 some) fun g=>a (!g):oP R)) fun c=>bif decide (a0<1) then c (decide (a0<1)) else c (decide (a0>7200))
def Sa (n:Nat) (a b:Int) (K:Qkl R):oP R:=K (wJ (b-a))
def Wk (h2:LL) (b:Int) (k0:Qkt R):Qku R
 | 0,_,_=>none
 | m+1,c,a=>bif decide (a<b) then QjR R h2 a fun e f=>QjE R e f fun g h=>Qc R (Sa n g h some) fun i=>Wk h2 b k0 m (wJ (c+i)) (wJ (a+1)) else k0 c a (decide (a<b))
def Rt (a0:LL) (K:Qkl R):oP R:=Wk n a0 (a0.length:Int) (fun a b c=>K a) n 0 0
def TU (a0:Int) (a1:LL) (K:Qkl R):oP R:=Qc R (GV n a0 a1 some) fun a=>bif !a then K 0 else Qc R (Rt n a1 some) fun b=>K b
def ZS (n:Nat) (b:Int) (e:LL) (c:Int) (k0:Qkn R):Qkm R
 | 0,_,_=>none
 | m+1,a,d=>bif decide (a<c) then QjR R e a fun i j=>QjE R j i fun g h=>Qb R [[Ql g,Ql (wJ (wJ (h+b)-1))]] fun l=>Qc R (Yn ((d.length+l.length)*16)) fun k=>ZS n b e c k0 m (wJ (a+1)) (d++l) else k0 a (decide (a<c)) d
def Z1 (n:Nat) (b c:Int) (d:LL) (k0:Qkn R):Qkm R
 | 0,_,_=>none
 | m+1,a,e=>bif decide (a<c) then QjH R d.length a d a.toNat fun f=>Qkc R f fun i j=>QjE R j i fun g h=>Qb R [[Ql g,Ql (wJ (wJ (h+b)-1))]] fun o=>Qc R (Yn ((e.length+o.length)*16)) fun l=>Z1 n b c d k0 m (wJ (a+1)) (e++o) else k0 a (decide (a<c)) e
def Uc (a0:Int) (a1 a2:LL) (K:Qks R):oP R:=Qc R (JI n a0 a1 a2 Tu2) fun a=>bif a.2 !=0 then K [] a.2 else Qc R (TU n a0 a.1 some) fun h=>bif h==a0 then K [] 13 else Qb R (a.1.length:Int) fun ai=>Qa R (decide (ai>1)) fun g=>Qd R g (inB a.1.length 0) fun u3=>Qd R g a.1[Int.toNat 0]? fun i=>Qd R g i[0]? fun j=>Qd R g (pIw j) fun b=>Qa R (Q9 g (b==0)) fun ad=>Qb R (wJ (ai-1)) fun ae=>Qd R ad (inB a.1.length ae) fun u=>Qb R (Int.toNat ae) fun ah=>Qd R ad a.1[ah]? fun k=>Qd R ad k[1]? fun l=>Qd R ad (pIw l) fun m=>bif Q9 ad (m==a0) then Qk0 R a.1.length ae a.1 ah fun c=>Qk0 R a.1.length 0 a.1 (Int.toNat 0) fun d=>QjH R a.1.length ae a.1 ah fun e=>Qb R (List.set a.1 ah (List.set e 1 (Ql (wJ (c+d))))) fun ag=>Qc R (slB (List.length ag) (some 1) none) fun f=>ZS n a0 (cut ag f) ((List.length (cut ag f):Nat):Int) (fun z aa s=>K s 0) n 0 [] else Z1 n a0 ai a.1 (fun ab ac t=>K t 0) n 0 []
def QQ (c d:Int) (e:LL) (b:Int) (k0:Qkn R):Qkm R
 | 0,_,_=>none
 | m+1,a,f=>bif decide (a<b) then QjR R e a fun h i=>Qc R (YG n c some) fun j=>Qc R (YG n d some) fun k=>QjE R h i fun l o=>Qc R (Xu n f 6 j k l o 0 some) fun p=>QQ c d e b k0 m (wJ (a+1)) p else k0 a (decide (a<b)) f
def X7 (e h:Int) (b i:LL) (k0:QkB R) (k1:Qkn R):Qkm R
 | 0,_,_=>none
 | m+1,a,g=>Qa R (decide (a<(b.length:Int))) fun c=>bif c then gb true (Yk n b i e a some) (fun _=>false) fun k=>QjZ R b e fun p=>gb true (UP n p k Tu2) ([],fun _=>false) fun j=>QjZ R b a fun s=>gb true (UP n s j.2 Tu2) ([],fun _=>false) fun t=>Qc R (Uc n h j.1 t.1 Tu2) fun f=>bif f.2 !=0 then k0 f.2 g else QQ n e a f.1 (f.1.length:Int) (fun v x u=>X7 e h b i k0 k1 m (wJ (a+1)) u) n 0 g else k1 a c g
def QJ (a b:Int) (c d:LL) (k0:QkB R) (k1:Qkn R):Qkm R
 | 0,_,_=>none
 | m+1,h2,e=>bif decide (h2<a) then X7 n h2 b c d (fun f g=>k0 f g) (fun i j h=>QJ a b c d k0 k1 m (wJ (h2+1)) h) n (wJ (h2+1)) e else k1 h2 (decide (h2<a)) e
def YB (b:Int) (a c d:LL) (K:QkB R):oP R:=QJ n (a.length:Int) b a c (fun e f=>K e f) (fun h i g=>K 0 g) n 0 d
def Ep (n:Nat) (a0 a1:Int) (K:Qkl R):oP R:=bif decide (a1<1) then K 0 else Qc R (nz a1) fun a=>Qb R (Int.tmod a0 a1) fun b=>bif decide (b<0) then K (wJ (b+a1)) else K b
def Zl (n:Nat) (d:LL) (k0:oP R) (k1:Qko R):Qkp R
 | 0,_=>none
 | m+1,h2=>Qa R (decide (h2<(d.length:Int))) fun ad=>bif ad then QjF R d h2 fun a=>Qa R (!(decide (a<0))&&decide (h2>0)) fun ab=>Qkh R d h2 ab fun b=>Qkh R d (wJ (h2-1)) ab fun c=>Qa R (Q8 (decide (a<0)) (Q9 (decide (h2>0)) (decide (b<=c)))) fun aa=>Qk5 R d h2 (!aa) fun e=>Qa R (Q8 aa (decide (e<(-65536:Int)))) fun z=>Qd R (!z) (Qi d h2) fun q=>Qd R (!z) q[2]? fun r=>Qd R (!z) (pIw r) fun f=>Qa R (Q8 z (decide (f>65536))) fun ac=>Qk5 R d h2 (!ac) fun u=>Qd R (!ac) (Qi d h2) fun v=>Qd R (!ac) v[2]? fun x=>Qd R (!ac) (pIw x) fun y=>bif Q8 ac (decide (u>=y)) then k0 else Zl n d k0 k1 m (wJ (h2+1)) else k1 h2 ad
def G6 (a0:LL) (K:Qkq R):oP R:=Zl n a0 (K false) (fun a b=>K true) n 0
def UT (n:Nat) (b:LL) (h2:Int) (k0:D->D->D->oP R) (k1:Qko R):Qkp R
 | 0,_=>none
 | m+1,a=>Qa R (decide (a<(b.length:Int))) fun j=>bif j then QjF R b a fun f=>bif f==h2 then QjS R b a fun g h i=>k0 g h i else UT n b h2 k0 k1 m (wJ (a+1)) else k1 a j
def AC (a0:LL) (a1:Int) (K:D->D->D->Bool->oP R):oP R:=UT n a0 a1 (fun a b c=>K a b c true) (fun d e=>K (Ql 0) (Ql 0) (Ql 0) false) n 0
def Zv (b:Int) (f:LL) (g d:Int) (h:D) (k0:Qkn R):Qkm R
 | 0,_,_=>none
 | m+1,a,c=>Qa R (Q9 (decide (a<d)) (decide (a<b))) fun q=>bif q then Qka R f g fun j=>QjE R j h fun k l=>Qc R (Ep n (wJ (wJ (wJ (k-l)+1)+a)) b some) fun e=>QjH R c.length e c e.toNat fun o=>Zv b f g d h k0 m (wJ (a+1)) (List.set c e.toNat (List.set o 0 (D.bool true))) else k0 a q c
def Yq (d:Int) (b e:LL) (k0:Qkn R):Qkm R
 | 0,_,_=>none
 | m+1,a,f=>Qa R (decide (a<(b.length:Int))) fun j=>bif j then QjF R b a fun i=>gb true (AC n e i Tu4) (.bool false,.bool false,.bool false,false) fun c=>bif !c.2.2.2 then Yq d b e k0 m (wJ (a+1)) f else Qc R (Qi b a) fun p=>Qk3 R p fun r=>Qka R b a fun t=>Qk6 R t c.2.2.1 c.2.1 fun u v x=>Zv n d b a (wJ (wJ (wJ (wJ (r-u)+v)-x)-1)) c.2.2.1 (fun z aa y=>Yq d b e k0 m (wJ (a+1)) y) n 0 f else k0 a j f
def Hn (a0:Int) (a1 a2:LL) (K:Qks R):oP R:=Qc R (Ja n a0 1 7200 some) fun b=>bif !b then K [] 4 else Qc R (G6 n a1 some) fun a=>Qd R (!(!a)) (G6 n a2 some) fun c=>bif Q8 (!a) (!c) then K [] 1 else gb true (bif decide (0<=a0)&&decide (a0<=a0) then some () else none) () fun e=>Qc R (Yn (Int.toNat a0*1)) fun f=>Yq n a0 a1 a2 (fun g h d=>K d 0) n 0 (List.replicate a0.toNat [D.bool false])
def U4 (n:Nat) (h2:Int) (b:LL) (k0:Qkt R):Qku R
 | 0,_,_=>none
 | m+1,c,a=>bif decide (a<h2) then QjK R b a fun e=>Qc R (Gp e) fun f=>bif f then U4 n h2 b k0 m (wJ (c+1)) (wJ (a+1)) else U4 n h2 b k0 m c (wJ (a+1)) else k0 c a (decide (a<h2))
def Ue (n:Nat) (a:Int) (c:LL) (d:Int) (k0:Qko R):Qkp R
 | 0,_=>none
 | m+1,b=>Qc R (nz a) fun h=>QjK R c (Int.tmod (wJ (d+b)) a) fun g=>Qc R (Gp g) fun e=>bif e then Ue n a c d k0 m (wJ (b+1)) else k0 b e
def YD (b:Int) (c:LL) (k0:Qkn R):Qkm R
 | 0,_,_=>none
 | m+1,a,e=>bif decide (a<b) then QjK R c a fun h=>Qc R (Gp h) fun d=>Qd R (!(!d)) (Ep n (wJ (a-1)) b some) fun i=>Qd R (!(!d)) (Qi c i) fun j=>Qd R (!(!d)) j[0]? fun k=>Qd R (!(!d)) (Gp k) fun l=>bif Q8 (!d) l then YD b c k0 m (wJ (a+1)) e else Ue n b c a (fun f o=>Qb R [[Ql (wJ (a+f)),Ql (wJ (wJ (a+b)-1))]] fun q=>Qc R (Yn ((e.length+q.length)*16)) fun p=>YD b c k0 m (wJ (a+1)) (e++q)) n 0 else k0 a (decide (a<b)) e
def HB (a0:Int) (a1 a2:LL) (K:Qks R):oP R:=Qc R (Hn n a0 a1 a2 Tu2) fun a=>bif a.2 !=0 then K [] a.2 else U4 n a0 a.1 (fun c e f=>bif c==a0 then K [] 13 else YD n a0 a.1 (fun g h d=>K d 0) n 0 []) n 0 0
def JJ (n:Nat) (c:Int) (b:LL) (k0:oP R) (k1:Qko R):Qkp R
 | 0,_=>none
 | m+1,a=>Qa R (decide (a<(b.length:Int))) fun j=>bif j then Qc R (Qi b a) fun d=>Qk3 R d fun f=>QjN R b a fun i=>bif decide (wJ (f-i)>c) then k0 else JJ n c b k0 k1 m (wJ (a+1)) else k1 a j
def L6 (a0:Int) (a1:LL) (K:Qkq R):oP R:=Qc R (Ja n a0 1 7200 some) fun a=>Qd R (!(!a)) (G6 n a1 some) fun b=>bif Q8 (!a) (!b) then K false else JJ n a0 a1 (K false) (fun c d=>K true) n 0
def JN (n:Nat) (b:Int) (c:LL) (k0:Qkt R):Qku R
 | 0,_,_=>none
 | m+1,h2,a=>bif decide (a<b) then QjO R c a fun f=>JN n b c k0 m (wJ (h2+(f.length:Int))) (wJ (a+1)) else k0 h2 a (decide (a<b))
def Z7 (a:LL) (a1:Int) (K:Qkl R):oP R:=JN n a1 a (fun b c d=>K b) n 0 0
def WD (c:LL) (f:Int) (g h:LL) (d:D) (k0:Qkn R):Qkm R
 | 0,_,_=>none
 | m+1,a,e=>Qc R (pSl 4 d) fun k=>Qa R (decide (a<(k.length:Int))) fun aj=>bif aj then Qc R (Z7 n g f some) fun b=>Qc R (pSl 4 d) fun aa=>QjP R aa a fun i l=>Qk8 R i fun ab ac=>Qc R (pSl 4 d) fun ad=>Qb R (wJ (b+a)) fun ak=>bif decide (a<wJ ((ad.length:Int)-1)) then QjK R c ak fun ag=>QjE R ag ab fun o p=>QjK R c ak fun ai=>Qk6 R ai l ac fun q r s=>Qb R [[Ql ak,Ql (wJ (ak+1)),Ql (wJ (o+p)),Ql (wJ (wJ (q+r)+s))]] fun al=>Qc R (Yn ((e.length+al.length)*32)) fun aw=>WD c f g h d k0 m (wJ (a+1)) (e++al) else Qc R (H5 n h f Tu5) fun j=>bif j.2.2.2.2 then Qc R (pIw j.2.1) fun ao=>Qc R (Z7 n g ao some) fun t=>QjK R c ak fun aq=>QjE R aq j.2.2.1 fun u v=>QjK R c ak fun au=>Qk6 R au l j.2.2.2.1 fun x y z=>Qb R [[Ql ak,Ql t,Ql (wJ (u+v)),Ql (wJ (wJ (x+y)+z))]] fun am=>Qc R (Yn ((e.length+am.length)*32)) fun a4=>WD c f g h d k0 m (wJ (a+1)) (e++am) else WD c f g h d k0 m (wJ (a+1)) e else k0 a aj e
def UW (c a d:LL) (k0:Qkn R):Qkm R
 | 0,_,_=>none
 | m+1,h2,e=>Qa R (decide (h2<(a.length:Int))) fun o=>bif o then QjY R a h2 fun f=>WD n c h2 a d f (fun k l g=>UW c a d k0 m (wJ (h2+1)) g) n 0 e else k0 h2 o e
def Rl (a b a1:LL) (K:Qkr R):oP R:=UW n a1 a b (fun d e c=>K c) n 0 []
def Zk (n:Nat) (b:LL) (h2:Int) (k0:D->D->D->oP R) (k1:Qko R):Qkp R
 | 0,_=>none
 | m+1,a=>Qa R (decide (a<(b.length:Int))) fun j=>bif j then QjF R b a fun f=>bif f==h2 then QjS R b a fun g h i=>k0 g h i else Zk n b h2 k0 k1 m (wJ (a+1)) else k1 a j
def J0 (a0:LL) (a1:Int) (K:D->D->D->Bool->oP R):oP R:=Zk n a0 a1 (fun a b c=>K a b c true) (fun d e=>K (Ql 0) (Ql 0) (Ql 0) false) n 0
def So (a0:LL) (g h i a2:Int) (K:D->D->D->D->D->D->Bool->oP R):oP R:=QjZ R a0 g fun k=>gb true (J0 n k a2 Tu4) (.bool false,.bool false,.bool false,false) fun a=>QjZ R a0 h fun o=>gb true (J0 n o a2 Tu4) (.bool false,.bool false,.bool false,false) fun b=>Qa R (Q9 a.2.2.2 b.2.2.2) fun d=>QjM R b.2.1 d a.2.2.1 fun p q=>K a.1 a.2.1 a.2.2.1 b.1 b.2.1 b.2.2.1 (Q9 d (decide (wJ (i+p)<=q)))
def V7 (b:LL) (h2 c g d f:Int) (k0:oP R) (k1:Qko R):Qkp R
 | 0,_=>none
 | m+1,a=>QjZ R b c fun l24=>Qa R (decide (a<(l24.length:Int))) fun v=>bif v then QjZ R b c fun r=>QjF R r a fun u=>Qc R (So n b c g d u Tu7) fun e=>bif e.2.2.2.2.2.2 then Qk4 R e.2.2.1 e.2.2.2.2.2.1 e.2.1 e.2.2.2.2.1 fun h i j k=>bif decide (wJ ((if h<wJ (f+i) then wJ (f+i) else h)-(if wJ (d+k)<j then wJ (d+k) else j))>h2) then k0 else V7 b h2 c g d f k0 k1 m (wJ (a+1)) else V7 b h2 c g d f k0 k1 m (wJ (a+1)) else k1 a v
def N1 (a0:LL) (a b c d a2:Int) (K:Qkq R):oP R:=V7 n a0 a2 a b c d (K false) (fun e f=>K true) n 0
def V3 (e:LL) (l:Int) (o:LL) (f c:D) (k0:Qkn R):Qkm R
 | 0,_,_=>none
 | m+1,a,d=>Qc R (pSl 4 c) fun p=>Qa R (decide (a<(p.length:Int))) fun ah=>bif ah then Qc R (Z7 n o l some) fun b=>Qc R (pSl 4 c) fun t=>QjP R t a fun g u=>Qk8 R g fun v x=>QjF R e (wJ (b+a)) fun h=>QjK R e (wJ (b+a)) fun ab=>Qk6 R ab u f fun i j k=>Qb R (wJ (2*wJ (b+a))) fun aj=>Qb R [[Ql 1,Ql aj,Ql (wJ (aj+1)),Ql h,Ql (wJ (i+j)),Ql k]] fun ai=>Qc R (Yn ((d.length+ai.length)*48)) fun ae=>Qc R (pSl 4 c) fun ac=>bif decide (a<wJ ((ac.length:Int)-1)) then Qk6 R v x f fun q r s=>Qb R [[Ql 2,Ql (wJ (aj+1)),Ql (wJ (aj+2)),Ql q,Ql r,Ql s]] fun ak=>Qc R (Yn ((List.length (d++ai)+ak.length)*48)) fun ag=>V3 e l o f c k0 m (wJ (a+1)) (d++ai++ak) else V3 e l o f c k0 m (wJ (a+1)) (d++ai) else k0 a ah d
def V0 (c a:LL) (k0:Qkn R):Qkm R
 | 0,_,_=>none
 | m+1,h2,d=>Qa R (decide (h2<(a.length:Int))) fun l=>bif l then Qc R (Qi a h2) fun b=>Qc R b[0]? fun h=>Qc R b[1]? fun i=>Qk8 R b fun e f=>V3 n c h2 a e f (fun j k g=>V0 c a k0 m (wJ (h2+1)) g) n 0 d else k0 h2 l d
def Rh (a a1:LL) (K:Qkr R):oP R:=V0 n a1 a (fun c d b=>K b) n 0 []
def V1 (d c:LL) (k0:Qkn R):Qkm R
 | 0,_,_=>none
 | m+1,b,e=>Qa R (decide (b<(c.length:Int))) fun z=>bif z then QjG R c b fun a o p q=>Qk2 R a fun r s t=>Qc R a[6]? fun u=>Qc R (pIw o) fun v=>Qc R (Z7 n d v some) fun f=>QjE R p q fun g x=>Qc R (Z7 n d x some) fun h=>Qk4 R r s t u fun i j k l=>Qb R [[Ql 3,Ql (wJ (wJ (2*wJ (f+g))+1)),Ql (wJ (2*wJ (h+i))),Ql j,Ql k,Ql l]] fun aa=>Qc R (Yn ((e.length+aa.length)*48)) fun y=>V1 d c k0 m (wJ (b+1)) (e++aa) else k0 b z e
def WB (b c:LL) (k0:Qkn R):Qkm R
 | 0,_,_=>none
 | m+1,a,e=>Qa R (decide (a<(c.length:Int))) fun x=>bif x then QjX R c a fun f l o p=>Qc R (pIw f) fun q=>Qc R (Z7 n b q some) fun g=>Qc R (pIw f) fun r=>QjO R b r fun h=>Qc R (pIw l) fun u=>Qc R (Z7 n b u some) fun i=>QjE R o p fun j k=>Qb R [[Ql 4,Ql (wJ (wJ (2*wJ (g+(h.length:Int)))-1)),Ql (wJ (2*i)),Ql j,Ql k,Ql 1]] fun y=>Qc R (Yn ((e.length+y.length)*48)) fun v=>WB b c k0 m (wJ (a+1)) (e++y) else k0 a x e
def ZB (d c:LL) (k0:Qkn R):Qkm R
 | 0,_,_=>none
 | m+1,a,e=>Qa R (decide (a<(c.length:Int))) fun v=>bif v then QjG R c a fun b o p q=>QjQ R b fun r f=>Qc R (pIw o) fun s=>Qc R (Z7 n d s some) fun g=>QjE R p q fun h t=>Qc R (Z7 n d t some) fun i=>QjE R r f fun j k=>Qc R (pIw f) fun l=>Qb R [[Ql 5,Ql (wJ (2*wJ (g+h))),Ql (wJ (2*wJ (i+j))),Ql k,Ql l,Ql 0]] fun x=>Qc R (Yn ((e.length+x.length)*48)) fun u=>ZB d c k0 m (wJ (a+1)) (e++x) else k0 a v e
def RZ (a b c d:LL) (K:Qkr R):oP R:=V1 n a b (fun h i e=>WB n a c (fun j k f=>ZB n a d (fun l m g=>K g) n 0 f) n 0 e) n 0 []
def Zf (g e:LL) (a b j:Int) (k0:Bool->Int->Bool->oP R):Nat->Bool->Int->oP R
 | 0,_,_=>none
 | m+1,k,c=>Qa R (decide (c<(e.length:Int))) fun am=>bif am then QjF R e c fun d=>Qk5 R e c (d==a) fun f=>Qa R (Q9 (d==a) (f==b)) fun al=>Qkh R e c (!al) fun h=>Qa R (!al&&h==b) fun an=>Qk5 R e c an fun v=>bif Q8 al (Q9 (h==b) (v==a)) then QjX R e c fun x y z aa=>QjZ R g a fun ad=>QjK R ad j fun ag=>Qk4 R ag x y z fun ah ai aj ak=>Qc R (pIw aa) fun au=>Qc R (So n g ai aj ak ah Tu7) fun ar=>Zf g e a b j k0 m (Q8 k ar.2.2.2.2.2.2) (wJ (c+1)) else Zf g e a b j k0 m k (wJ (c+1)) else k0 k c am
def Wi (b h2:LL) (c e:Int) (k0:Qkn R):Qkm R
 | 0,_,_=>none
 | m+1,a,d=>QjZ R b c fun g=>Qa R (decide (a<(g.length:Int))) fun v=>bif v then Zf n b h2 c e a (fun o s t=>bif !o then QjZ R b c fun r=>QjS R r a fun h i j=>Qc R (Yn ((d.length+[[h,i,j]].length)*24)) fun u=>Wi b h2 c e k0 m (wJ (a+1)) (d++[[h,i,j]]) else Wi b h2 c e k0 m (wJ (a+1)) d) n false 0 else k0 a v d
def K4 (a0 a1:LL) (a2 a:Int) (K:Qkr R):oP R:=Wi n a0 a1 a2 a (fun c d b=>K b) n 0 []
def Vc (h2:LL) (b:Int) (k0:oP R) (k1:Qko R):Qkp R
 | 0,_=>none
 | m+1,a=>Qa R (decide (a<(h2.length:Int))) fun g=>bif g then QjZ R h2 a fun e=>Qc R (L6 n b e some) fun f=>bif !f then k0 else Vc h2 b k0 k1 m (wJ (a+1)) else k1 a g
def Vd (d b:LL) (e:Int) (k0:oP R) (k1:Qko R):Qkp R
 | 0,_=>none
 | m+1,a=>Qa R (decide (a<(b.length:Int))) fun q=>bif q then QjX R b a fun f g h i=>Qk4 R f g h i fun j k l o=>Qc R (N1 n d j k l o e some) fun p=>bif !p then k0 else Vd d b e k0 k1 m (wJ (a+1)) else k1 a q
def J8 (n:Nat) (b:Int) (d:LL) (k0:Qkn R):Qkm R
 | 0,_,_=>none
 | m+1,a,c=>QjO R d b fun e=>Qa R (decide (a<(e.length:Int))) fun i=>bif i then Qb R [[Ql 1,Ql b,Ql a],[Ql 2,Ql b,Ql a]] fun j=>Qc R (Yn ((c.length+List.length j)*24)) fun h=>J8 n b d k0 m (wJ (a+1)) (c++j) else k0 a i c
def WF (b:LL) (k0:Qkn R):Qkm R
 | 0,_,_=>none
 | m+1,a,c=>Qa R (decide (a<(b.length:Int))) fun g=>bif g then J8 n a b (fun e f d=>WF b k0 m (wJ (a+1)) d) n 0 c else k0 a g c
def V8 (n:Nat) (c d:Int) (b:LL) (k0:Qkn R):Qkm R
 | 0,_,_=>none
 | m+1,a,e=>Qa R (decide (a<(b.length:Int))) fun o=>bif o then QjF R b a fun f=>QjN R b a fun g=>Qb R [[Ql 6,Ql (wJ (2*c)),Ql (wJ (2*d)),Ql f,Ql g,Ql 0]] fun p=>Qc R (Yn ((e.length+p.length)*48)) fun l=>V8 n c d b k0 m (wJ (a+1)) (e++p) else k0 a o e
def J5 (b d:LL) (c e:Int) (k0:oP R) (k1:Qkn R):Qkm R
 | 0,_,_=>none
 | m+1,a,f=>Qa R (decide (a<(b.length:Int))) fun j=>bif j then Qc R (K4 n b d c a some) fun h=>Qc R (K4 n b d a c some) fun i=>Qc R (HB n e h i Tu2) fun g=>bif g.2 !=0 then k0 else V8 n c a g.1 (fun o p l=>J5 b d c e k0 k1 m (wJ (a+1)) l) n 0 f else k1 a j f
def V4 (b c:LL) (d:Int) (k0:oP R) (k1:Qkn R):Qkm R
 | 0,_,_=>none
 | m+1,a,e=>Qa R (decide (a<(b.length:Int))) fun i=>bif i then J5 n b c a d k0 (fun g h f=>V4 b c d k0 k1 m (wJ (a+1)) f) n (wJ (a+1)) e else k1 a i e
def Gg (k l m o:LL) (b:Int) (p q c e d f r:LL) (K:Int->LL->LL->Int->oP R):oP R:=gb true (RJ n k l m o b p q c e d f r Tu3) ([],[],0) fun a=>bif a.2.2 !=0 then K 0 [] [] a.2.2 else bif decide (wJ (2*(a.1.length:Int))>48) then K 0 [] [] 7 else Vc n a.1 b (K 0 [] [] 13) (fun v x=>Qc R (Rl n c d a.2.1 some) fun g=>Vd n a.1 g b (K 0 [] [] 13) (fun y z=>WF n c (fun aa ab u=>Qc R (Rh n c a.2.1 some) fun h=>Qc R (RZ n c e d f some) fun i=>Qc R (Yn ((h.length+i.length)*48)) fun ac=>V4 n a.1 g b (K 0 [] [] 13) (fun ad ae j=>bif decide ((j.length:Int)>512) then K 0 [] [] 7 else K b u j 0) n 0 (h++i)) n 0 []) n 0) n 0
def GO (n:Nat) (b:Int) (a c:LL) (a1:Int) (K:Qkq R):oP R:=K (Q9 (decide (a1>=0)) (decide (a1<(a.length:Int))))
def UC (p:LL) (h2 e:Int) (h i:LL) (k0:oP R) (k1:Qko R):Qkp R
 | 0,_=>none
 | m+1,c=>bif decide (c<h2) then QjP R p c fun a q=>Qc R a[2]? fun r=>Qk2 R a fun j k s=>Qc R (pIw q) fun u=>Qc R (GO n e h i u some) fun d=>Qd R (!(!d)) (pIw r) fun v=>Qd R (!(!d)) (GO n e h i v some) fun l=>Qa R (Q8 (!d) (!l)) fun ag=>QjM R q (!ag) r fun x y=>bif Q8 ag (x==y) then k0 else Qc R (pIw j) fun b=>Qa R (decide (b<(-65536:Int))) fun ae=>QjM R j (!ae) k fun f g=>Qa R (Q8 ae (decide (f>g))) fun ah=>Qd R (!ah) (pIw k) fun o=>Qa R (Q8 ah (decide (o>65536))) fun ad=>QjM R k (!ad) j fun z aa=>bif Q8 ad (decide (wJ (z-aa)>=e)) then k0 else Qc R (pIw s) fun t=>Qd R (!(decide (t<0))) (pIw s) fun ab=>bif Q8 (decide (t<0)) (decide (ab>1048576)) then k0 else UC p h2 e h i k0 k1 m (wJ (c+1)) else k1 c (decide (c<h2))
def TX (b:Int) (c a:LL) (K:Qkq R):oP R:=bif Q8 (Q8 (Q8 (decide (b<2)) (decide (b>7200))) (decide ((c.length:Int)>48))) (decide ((a.length:Int)>512)) then K false else UC n a (a.length:Int) b c a (K false) (fun d e=>K true) n 0
def VA (n:Nat) (h2:LL) (b c:Int) (k0:oP R) (k1:Qko R):Qkp R
 | 0,_=>none
 | m+1,a=>bif decide (a<b) then QjF R h2 a fun d=>bif Q8 (decide (d<0)) (decide (d>=c)) then k0 else VA n h2 b c k0 k1 m (wJ (a+1)) else k1 a (decide (a<b))
def Gy (a:Int) (b c a1:LL) (K:Qkq R):oP R:=Qc R (TX n a b c some) fun d=>bif Q8 (!d) ((a1.length:Int) !=(b.length:Int)) then K false else VA n a1 (a1.length:Int) a (K false) (fun e f=>K true) n 0
def TK (n:Nat) (a0 a1 a2:Int) (K:Qkq R):oP R:=K (Q9 (decide (a0>=a1)) (decide (a0<=a2)))
def J6 (j:Int) (l k:LL) (k0:oP R) (k1:Qko R):Qkp R
 | 0,_=>none
 | m+1,h2=>Qa R (decide (h2<(k.length:Int))) fun ah=>bif ah then QjP R k h2 fun g s=>Qc R g[2]? fun t=>Qk2 R g fun o p u=>Qc R (pIw s) fun v=>Qb R (wJ ((l.length:Int)-1)) fun ai=>Qc R (TK n v 0 ai some) fun a=>Qd R (!(!a)) (pIw t) fun x=>Qd R (!(!a)) (TK n x 0 ai some) fun b=>Qa R (Q8 (!a) (!b)) fun ag=>QjM R s (!ag) t fun c d=>Qd R (!(Q8 ag (c==d))) (pIw o) fun e=>Qa R (Q8 (Q8 ag (c==d)) (decide (e<(-65536:Int)))) fun ad=>Qd R (!ad) (pIw p) fun f=>Qa R (Q8 ad (decide (f>65536))) fun ab=>QjM R o (!ab) p fun h i=>Qa R (Q8 ab (decide (h>i))) fun ae=>QjM R p (!ae) o fun q r=>Qa R (Q8 ae (decide (wJ (q-r)>=j))) fun ac=>Qd R (!ac) (pIw u) fun y=>Qd R (!ac) (TK n y 0 1048576 some) fun z=>bif Q8 ac (!z) then k0 else J6 j l k k0 k1 m (wJ (h2+1)) else k1 h2 ah
def UX (a:Int) (b c:LL) (K:Qkq R):oP R:=Qc R (TK n a 2 7200 some) fun d=>bif Q8 (Q8 (!d) (decide ((b.length:Int)>48))) (decide ((c.length:Int)>512)) then K false else J6 n a b c (K false) (fun e f=>K true) n 0
def JH (h2:LL) (b:Int) (k0:oP R) (k1:Qko R):Qkp R
 | 0,_=>none
 | m+1,a=>Qa R (decide (a<(h2.length:Int))) fun g=>bif g then QjF R h2 a fun e=>Qc R (TK n e 0 (wJ (b-1)) some) fun f=>bif !f then k0 else JH h2 b k0 k1 m (wJ (a+1)) else k1 a g
def KS (a:Int) (b c a1:LL) (K:Qkq R):oP R:=Qc R (UX n a b c some) fun d=>bif Q8 (!d) ((a1.length:Int) !=(b.length:Int)) then K false else JH n a1 a (K false) (fun e f=>K true) n 0
def Kj (n:Nat) (c:Int) (k0:Qkn R):Qkm R
 | 0,_,_=>none
 | m+1,a,b=>bif decide (a<c) then QjH R b.length a b a.toNat fun d=>Kj n c k0 m (wJ (a+1)) (List.set b a.toNat (List.set d 0 (Ql (-1:Int)))) else k0 a (decide (a<c)) b
def GT (n:Nat) (f:LL) (d:Int) (k0:Qkn R):Qkm R
 | 0,_,_=>none
 | m+1,a,b=>bif decide (a<d) then QjI R f a fun c g=>Qc R c[1]? fun i=>Qkb R c (Qc R (pIw g) fun e=>QjH R b.length e b e.toNat fun h=>GT n f d k0 m (wJ (a+1)) (List.set b e.toNat (List.set h 0 (Ql a)))) else k0 a (decide (a<d)) b
def ZL (a b:LL) (K:Qkr R):oP R:=Qb R (a.length:Int) fun j=>gb true (bif decide (0<=j)&&decide (j<=j) then some () else none) () fun e=>Qb R (Int.toNat j) fun k=>Qc R (Yn (k*8)) fun u2=>Kj n ((List.length (List.replicate k [Ql 0]):Nat):Int) (fun f g c=>GT n b (b.length:Int) (fun h i d=>K d) n 0 c) n 0 (List.replicate k [Ql 0])
def XY (n:Nat) (c e:LL) (k0:Qkv R):Qkw R
 | 0,_,_,_=>none
 | m+1,a,d,b=>QjW R b.length a b a.toNat fun f=>bif !f then QjH R b.length a b a.toNat fun g=>Qc R (Yn ((d.length+[[Ql a]].length)*8)) fun x=>QjF R c a fun l=>Qb R (List.set b a.toNat (List.set g 0 (D.bool true))) fun y=>bif decide (l>=0) then QjF R c a fun q=>QjN R e q fun t=>XY n c e k0 m t (d++[[Ql a]]) y else XY n c e k0 m a (d++[[Ql a]]) y else k0 a (!f) d b
def Z2 (a0:Int) (a1:Bool) (c d e a:LL) (K:QkA R):oP R:=XY n d e (fun g h b f=>Qb R [[D.sl 1 b,D.bool a1]] fun j=>Qc R (Yn ((a.length+j.length)*32)) fun i=>K f (a++j)) n a0 [] c
def VI (a:LL) (j:Bool) (b:LL) (k:Bool) (K:Qkl R):oP R:=QjF R a 0 fun e=>QjF R b 0 fun h=>Qc R (Ju n e h some) fun i=>K i
def X9 (b:Int) (k0:Qkn R):Qkm R
 | 0,_,_=>none
 | m+1,a,c=>Qa R (decide (a>b)) fun ag=>Qd R ag (inB c.length a) fun z=>Qd R ag c[a.toNat]? fun g=>Qkd R g ag fun l o=>Qb R (wJ (a-1)) fun aj=>Qd R ag (inB c.length aj) fun aa=>Qb R (Int.toNat aj) fun ak=>Qd R ag c[ak]? fun h=>Qkd R h ag fun p q=>Qd R ag (pSl 1 l) fun r=>Qd R ag (Gp o) fun s=>Qd R ag (pSl 1 p) fun t=>Qd R ag (Gp q) fun u=>Qd R ag (VI n r s t u some) fun i=>Qa R (Q9 ag (decide (i<0))) fun ah=>bif ah then QjH R c.length aj c ak fun j=>Qkc R j fun d e=>QjH R c.length a c a.toNat fun k=>Qkc R k fun v x=>QjH R c.length a c a.toNat fun f=>Qb R (List.set c a.toNat (List.set (List.set f 0 d) 1 e)) fun ai=>QjH R (List.length ai) aj ai ak fun y=>X9 b k0 m aj (List.set ai ak (List.set (List.set y 0 v) 1 x)) else k0 a ah c
def Xb (b h2:Int) (k0:Qkn R):Qkm R
 | 0,_,_=>none
 | m+1,a,c=>bif decide (a<h2) then X9 n b (fun e f d=>Xb b h2 k0 m (wJ (a+1)) d) n a c else k0 a (decide (a<h2)) c
def Yi (a:LL) (a1 a2:Int) (K:Qkr R):oP R:=Xb n a1 a2 (fun c d b=>K b) n (wJ (a1+1)) a
def Yv (a h2 d:Int) (b:LL) (k0:Qkr R):Nat->oP R
 | 0=>none
 | m+1=>bif decide (wJ (h2-a)<=12) then Qc R (Yi n b a h2 some) fun c=>Qc R (Tv c b.length) fun e=>k0 c else bif d==0 then none else bif !true then none else none
def YL (a:LL) (a1 a2 b:Int) (K:Qkr R):oP R:=Yv n a1 a2 b a (fun c=>K c) n
def XI (a:LL) (K:Qkr R):oP R:=Qc R (To n (IntKind.wrap .u64 (a.length:Int)) some) fun c=>Qc R (YL n a 0 (a.length:Int) c some) fun b=>Qc R (Tv b a.length) fun u3=>K b
def Jd (n:Nat) (f:LL) (d:Int) (k0:Qkn R):Qkm R
 | 0,_,_=>none
 | m+1,a,b=>bif decide (a<d) then QjP R f a fun c g=>Qkb R c (Qc R (pIw g) fun e=>QjH R b.length e b e.toNat fun h=>Jd n f d k0 m (wJ (a+1)) (List.set b e.toNat (List.set h 0 (D.bool true)))) else k0 a (decide (a<d)) b
def Un (b:Int) (d e c:LL) (k0:Qkv R):Qkw R
 | 0,_,_,_=>none
 | m+1,a,f,g=>bif decide (a<b) then QjW R c.length a c a.toNat fun k=>bif !k then Qc R (Z2 n a false f e d g Tu2) fun h=>Un b d e c k0 m (wJ (a+1)) h.1 h.2 else Un b d e c k0 m (wJ (a+1)) f g else k0 a (decide (a<b)) f g
def Um (c:Int) (d e:LL) (k0:Qkv R):Qkw R
 | 0,_,_,_=>none
 | m+1,a,b,f=>bif decide (a<c) then QjW R b.length a b a.toNat fun j=>bif !j then Qc R (Z2 n a true b e d f Tu2) fun g=>Um c d e k0 m (wJ (a+1)) g.1 g.2 else Um c d e k0 m (wJ (a+1)) b f else k0 a (decide (a<c)) b f
def Xq (a b:LL) (K:Qkr R):oP R:=Qc R (ZL n a b some) fun c=>Qb R (a.length:Int) fun u=>Qa R (decide (0<=u)&&decide (u<=u)) fun t=>gb true (bif t then some () else none) () fun u2=>Qb R (Int.toNat u) fun v=>Qc R (Yn (v*1)) fun u3=>Jd n b (b.length:Int) (fun i j f=>gb true (bif t then some () else none) () fun k=>Qc R (Yn (v*1)) fun l=>Un n u b c f (fun m o g h=>Um n u b c (fun p q r d=>Qc R (XI n d some) fun e=>Qc R (Tv e d.length) fun s=>K e) n 0 g h) n 0 (List.replicate v [D.bool false]) []) n 0 (List.replicate v [D.bool false])
def NY (n:Nat) (b:Int) (a:LL) (k0:oP R) (k1:Qko R):Qkp R
 | 0,_=>none
 | m+1,h2=>Qa R (decide (h2<(a.length:Int))) fun f=>bif f then QjN R a h2 fun e=>bif e==b then k0 else NY n b a k0 k1 m (wJ (h2+1)) else k1 h2 f
def Q3s (a:LL) (a1:Int) (K:Qkq R):oP R:=NY n a1 a (K true) (fun b c=>K false) n 0
def KT (d:Int) (e:LL) (k0:Bool->LL->oP R):Qkm R
 | 0,_,_=>none
 | m+1,h2,a=>Qc R (H5 n e h2 Tu5) fun b=>bif !b.2.2.2.2 then k0 false a else Qc R (pIw b.2.1) fun k=>bif k==d then k0 true a else Qc R (pIw b.2.1) fun c=>Qc R (Yn ((a.length+[[Ql c]].length)*8)) fun l=>KT d e k0 m c (a++[[Ql c]])
def Hk (a:LL) (a1:Int) (K:LL->Bool->oP R):oP R:=KT n a1 a (fun b c=>K c b) n a1 [[Ql a1]]
def T1 (n:Nat) (b:Int) (d:LL) (k0:Qkn R):Qkm R
 | 0,_,_=>none
 | m+1,h2,a=>bif decide (h2<b) then QjF R d h2 fun c=>QjH R a.length c a c.toNat fun g=>T1 n b d k0 m (wJ (h2+1)) (List.set a c.toNat (List.set g 0 (D.bool true))) else k0 h2 (decide (h2<b)) a
def RG (b a:LL) (d:Bool) (K:Qkr R):oP R:=T1 n (a.length:Int) a (fun e f c=>K c) n 0 b
def GK (c:Int) (d:LL) (k0:Qkv R):Qkw R
 | 0,_,_,_=>none
 | m+1,a,b,e=>bif decide (a<c) then Qc R (Q3s n d a some) fun h=>bif !h then QjH R b.length a b a.toNat fun i=>gb true (Hk n d a Tu2) ([],false) fun f=>Qc R (RG n e f.1 f.2 some) fun g=>Qc R (Tv g e.length) fun o=>GK c d k0 m (wJ (a+1)) (List.set b a.toNat (List.set i 0 (D.bool true))) g else GK c d k0 m (wJ (a+1)) b e else k0 a (decide (a<c)) b e
def Kt (d:Int) (e:LL) (k0:Qkv R):Qkw R
 | 0,_,_,_=>none
 | m+1,a,c,b=>bif decide (a<d) then QjW R b.length a b a.toNat fun j=>bif !j then QjH R c.length a c a.toNat fun k=>gb true (Hk n e a Tu2) ([],false) fun f=>Qc R (RG n b f.1 f.2 some) fun g=>Qc R (Tv g b.length) fun r=>Kt d e k0 m (wJ (a+1)) (List.set c a.toNat (List.set k 0 (D.bool true))) g else Kt d e k0 m (wJ (a+1)) c b else k0 a (decide (a<d)) c b
def K8 (b:Int) (f c:LL) (k0:Qkn R):Qkm R
 | 0,_,_=>none
 | m+1,a,d=>bif decide (a<b) then QjW R c.length a c a.toNat fun i=>bif i then gb true (Hk n f a Tu2) ([],false) fun e=>Qb R [[D.sl 1 e.1,D.bool e.2]] fun j=>Qc R (Yn ((d.length+j.length)*32)) fun o=>K8 b f c k0 m (wJ (a+1)) (d++j) else K8 b f c k0 m (wJ (a+1)) d else k0 a (decide (a<b)) d
def Js (a b:LL) (K:Qkr R):oP R:=Qb R (a.length:Int) fun s=>Qa R (decide (0<=s)&&decide (s<=s)) fun q=>gb true (bif q then some () else none) () fun g=>Qb R (Int.toNat s) fun r=>Qc R (Yn (r*1)) fun u2=>gb true (bif q then some () else none) () fun u3=>Qc R (Yn (r*1)) fun h=>Qb R [D.bool false] fun t=>GK n ((List.length (List.replicate r t):Nat):Int) b (fun i j c e=>Kt n (c.length:Int) b (fun k l d m=>K8 n (d.length:Int) b d (fun o p f=>K f) n 0 []) n 0 c e) n 0 (List.replicate r t) (List.replicate r t)
def XL (d:Int) (e b:LL) (a1:Int) (K:Qkl R):oP R:=QjP R e a1 fun a f=>Qk8 R a fun g c=>Qc R a[4]? fun u=>Qc R a[5]? fun v=>QjE R c g fun h i=>QjK R b i fun k=>QjE R k f fun l m=>QjK R b m fun p=>QjE R p c fun q r=>Qc R (HE n (wJ (wJ (l-q)-r)) d some) fun s=>K (wJ (h+s))
def XG (b:Int) (c d a:LL) (a1 a2:Int) (K:Qkl R):oP R:=QjL R a.length a1 a a1.toNat fun g=>Qc R (XL n b c d (wJ (wJ (wJ (2*g)-a1)+wJ (2*a2))) some) fun h=>K h
def Xj (a g:LL) (b:Int) (c d e f:LL) (h a1 a2:Int) (K:Qko R):oP R:=QjO R a a1 fun k=>bif decide (a2<wJ ((k.length:Int)-1)) then QjL R f.length a1 f a1.toNat fun o=>Qc R (XL n b c d (wJ (wJ (wJ (wJ (2*o)-a1)+wJ (2*a2))+1)) some) fun p=>K p true else QjF R e a1 fun s=>bif decide (s>=0) then QjF R e a1 fun v=>Qc R (XL n b c d (wJ (wJ (wJ (wJ (2*h)-(a.length:Int))+(g.length:Int))+v)) some) fun x=>K x true else K 0 false
def Q2j (n:Nat) (a0 a1 a2:Int) (K:Qkq R):oP R:=K (Q9 (decide (a0>=a1)) (decide (a0<=a2)))
def Zx (n:Nat) (d e c:Int) (k0:Qkn R):Qkm R
 | 0,_,_=>none
 | m+1,a,b=>bif decide (a<c) then QjL R b.length a b a.toNat fun h=>bif h==e then QjH R b.length a b a.toNat fun i=>Zx n d e c k0 m (wJ (a+1)) (List.set b a.toNat (List.set i 0 (Ql d))) else Zx n d e c k0 m (wJ (a+1)) b else k0 a (decide (a<c)) b
def G5 (a:LL) (j b c k l m:Int) (K:Bool->LL->oP R):oP R:=QjL R a.length b a b.toNat fun d=>QjL R a.length c a c.toNat fun e=>bif d==e then K false a else Zx n d e (a.length:Int) (fun q r i=>K true i) n 0 a
def Zz (n:Nat) (c:Int) (k0:Qkn R):Qkm R
 | 0,_,_=>none
 | m+1,a,b=>bif decide (a<c) then QjH R b.length a b a.toNat fun d=>Zz n c k0 m (wJ (a+1)) (List.set b a.toNat (List.set d 0 (Ql a))) else k0 a (decide (a<c)) b
def Zw (c:LL) (k0:Qkn R):Qkm R
 | 0,_,_=>none
 | m+1,b,d=>Qa R (decide (b<(c.length:Int))) fun t=>bif t then QjG R c b fun a f g h=>Qk2 R a fun i j k=>Qk4 R f g h i fun l o p q=>QjE R j k fun r s=>gb true (G5 n d l o p q r s Tu2) (false,[]) fun e=>Qc R (Tv e.2 d.length) fun v=>Zw c k0 m (wJ (b+1)) e.2 else k0 b t d
def YN (n:Nat) (a:Int) (d:LL) (k0:Qkn R):Qkm R
 | 0,_,_=>none
 | m+1,b,c=>bif decide (b<a) then QjL R d.length b d b.toNat fun g=>QjL R d.length a d a.toNat fun j=>bif g==j then QjL R c.length b c b.toNat fun o=>QjH R c.length a c a.toNat fun p=>YN n a d k0 m (wJ (b+1)) (List.set c a.toNat (List.set p 0 (Ql o))) else YN n a d k0 m (wJ (b+1)) c else k0 b (decide (b<a)) c
def YO (c:Int) (f:LL) (k0:QkD R):Qkz R
 | 0,_,_,_=>none
 | m+1,d,a,e=>bif decide (a<c) then QjH R e.length a e a.toNat fun g=>YN n a f (fun o p b=>QjL R b.length a b a.toNat fun j=>bif decide (j<0) then QjH R b.length a b a.toNat fun k=>YO c f k0 m (wJ (d+1)) (wJ (a+1)) (List.set b a.toNat (List.set k 0 (Ql d))) else YO c f k0 m d (wJ (a+1)) b) n 0 (List.set e a.toNat (List.set g 0 (Ql (-1:Int)))) else k0 d a (decide (a<c)) e
def Gb (d:Int) (a c:LL) (K:Qkr R):oP R:=Qc R (UX n d a c some) fun e=>bif !e then K [] else Qb R (a.length:Int) fun s=>gb true (bif decide (0<=s)&&decide (s<=s) then some () else none) () fun u2=>Qb R (Int.toNat s) fun t=>Qc R (Yn (t*8)) fun u3=>Zz n ((List.length (List.replicate t [Ql 0]):Nat):Int) (fun h i f=>Zw n c (fun j k b=>Qb R (b.length:Int) fun r=>gb true (bif decide (0<=r)&&decide (r<=r) then some () else none) () fun l=>Qc R (Yn (Int.toNat r*8)) fun m=>YO n r b (fun o p q g=>K g) n 0 0 (List.replicate (Int.toNat r) [Ql 0])) n 0 f) n 0 (List.replicate t [Ql 0])
def Z6 (n:Nat) (d:LL) (a:Int) (k0:Qkn R):Qkm R
 | 0,_,_=>none
 | m+1,b,c=>bif decide (b<a) then QjF R d b fun g=>QjF R d a fun j=>bif g==j then QjH R c.length a c a.toNat fun k=>Z6 n d a k0 m (wJ (b+1)) (List.set c a.toNat (List.set k 0 (D.bool false))) else Z6 n d a k0 m (wJ (b+1)) c else k0 b (decide (b<a)) c
def ZW (d:LL) (c:Int) (k0:Qkn R):Qkm R
 | 0,_,_=>none
 | m+1,a,b=>bif decide (a<c) then QjH R b.length a b a.toNat fun e=>Z6 n d a (fun h i f=>ZW d c k0 m (wJ (a+1)) f) n 0 (List.set b a.toNat (List.set e 0 (D.bool true))) else k0 a (decide (a<c)) b
def Kn (b:Int) (a c:LL) (a1:Int) (a2:Bool) (K:Int->LL->LL->LL->Int->Int->Bool->Bool->Bool->Int->LL->oP R):oP R:=Qc R (Gb n b a c some) fun d=>Qb R (a.length:Int) fun k=>Qa R (decide (0<=k)&&decide (k<=k)) fun j=>gb true (bif j then some () else none) () fun u2=>Qb R (Int.toNat k) fun l=>Qc R (Yn (l*8)) fun u3=>gb true (bif j then some () else none) () fun f=>Qc R (Yn (l*1)) fun g=>ZW n d (d.length:Int) (fun h i e=>K b a c e a1 0 false a2 false 0 (List.replicate l [Ql 0])) n 0 (List.replicate l [D.bool false])
def Gr (b:Int) (a1:LL) (c d a:Int) (K:Qkl R):oP R:=QjF R a1 d fun g=>QjF R a1 c fun j=>Qc R (Ep n (wJ (wJ (g-j)-a)) b some) fun k=>K (wJ (a+k))
def Jz (h2:LL) (d:Int) (c:LL) (k0:Qkt R):Qku R
 | 0,_,_=>none
 | m+1,e,a=>Qa R (decide (a<(c.length:Int))) fun y=>bif y then Qc R (Qi c a) fun f=>Qc R f[5]? fun g=>Qc R (pIw g) fun h=>QjG R c a fun b i j k=>Qk2 R b fun l o p=>Qc R (pIw i) fun u=>Qk6 R j k l fun q r s=>QjT R o p (Qc R (Gr n d h2 q r s some) fun t=>Jz h2 d c k0 m (wJ (e+wJ (h*t))) (wJ (a+1))) else k0 e a y
def L5 (a:Int) (c b a1:LL) (K:Qkx R):oP R:=Qc R (KS n a c b a1 some) fun d=>bif !d then K 0 1 else Jz n a1 a b (fun e f g=>K e 0) n 0 0
def Xi (c:Int) (e:LL) (f:Int) (d:LL) (k0:oP R) (k1:Qkt R):Qku R
 | 0,_,_=>none
 | m+1,h2,a=>Qa R (decide (a<(d.length:Int))) fun ac=>bif ac then QjG R d a fun b p h i=>Qk2 R b fun j k g=>Qc R (pIw h) fun l=>Qd R (!(decide (l>c))) (pIw i) fun q=>bif Q8 (decide (l>c)) (decide (q>c)) then QjE R g j fun r s=>Xi c e f d k0 k1 m (wJ (h2+wJ (r*s))) (wJ (a+1)) else Qc R (pIw p) fun z=>Qk6 R h i j fun t u v=>QjT R k g (Qc R (Gr n f e t u v some) fun o=>Qc R (pIw k) fun x=>bif decide (o>x) then k0 else Qc R (pIw g) fun y=>Xi c e f d k0 k1 m (wJ (h2+wJ (y*o))) (wJ (a+1))) else k1 h2 a ac
def ZG (a:Int) (b:LL) (c d:Bool) (e:Int) (f:LL) (a1:Int) (K:Qkq R):oP R:=Xi n a1 f a b (K true) (fun g h i=>K (Q9 (Q9 c d) (decide (g>=e)))) n 0 0
def Xw (Fr:Int->LL->LL->LL->Int->Int->Bool->Bool->Bool->Int->LL->LL->Int->oP (Bool×Int×LL×LL×LL×Int×Int×Bool×Bool×Bool×Int×LL×LL)) (b q:Int) (k0:LL->LL->Int->LL->LL->Int->Int->Bool->Bool->Bool->Int->LL->oP R) (k1:Int->Bool->LL->LL->Int->LL->LL->Int->Int->Bool->Bool->Bool->Int->LL->oP R):Nat->Int->LL->LL->Int->LL->LL->Int->Int->Bool->Bool->Bool->Int->LL->oP R
 | 0,_,_,_,_,_,_,_,_,_,_,_,_,_=>none
 | m+1,c,l,d,e,o,f,g,h,r,i,j,k,p=>bif decide (c<q) then Qb R (wJ (h+1)) fun x=>bif decide (x>g) then k0 l d e o f g x true i j k p else QjH R d.length b d b.toNat fun s=>Qb R (List.set d b.toNat (List.set s 0 (Ql c))) fun v=>Qc R (ZG n e f i j k v b some) fun t=>bif !t then gb true (Fr e o f l g x r i j k p v (wJ (b+1))) (false,0,[],[],[],0,0,false,false,false,0,[],[]) fun a=>Qb R a.2.2.2.2.2.2.2.2.2.2.2.2 fun y=>Qb R a.2.2.2.2.2.2.2.2.2.2.2.1 fun z=>Qb R a.2.2.2.2.2.2.2.2.2.2.1 fun aa=>Qb R a.2.2.2.2.2.2.2.2.2.1 fun ab=>Qb R a.2.2.2.2.2.2.2.2.1 fun ac=>bif Q9 true (!a.1) then k0 a.2.2.2.2.1 y a.2.1 a.2.2.1 a.2.2.2.1 a.2.2.2.2.2.1 a.2.2.2.2.2.2.1 a.2.2.2.2.2.2.2.1 ac ab aa z else Xw Fr b q k0 k1 m (wJ (c+1)) a.2.2.2.2.1 y a.2.1 a.2.2.1 a.2.2.2.1 a.2.2.2.2.2.1 a.2.2.2.2.2.2.1 a.2.2.2.2.2.2.2.1 ac ab aa z else bif Q9 false false then k0 l v e o f g x r i j k p else Xw Fr b q k0 k1 m (wJ (c+1)) l v e o f g x r i j k p else k1 c (decide (c<q)) l d e o f g h r i j k p
def Jp (Fr:Int->LL->LL->LL->Int->Int->Bool->Bool->Bool->Int->LL->LL->Int->oP (Bool×Int×LL×LL×LL×Int×Int×Bool×Bool×Bool×Int×LL×LL)) (b:Int) (c e d:LL) (g h:Int) (i f j:Bool) (k:Int) (l a:LL) (a1:Int) (K:Bool->Int->LL->LL->LL->Int->Int->Bool->Bool->Bool->Int->LL->LL->oP R):oP R:=bif a1==(c.length:Int) then Qc R (Yn (a.length*8)) fun u1=>Qc R (L5 n b c e a Tu2) fun p=>K f b c e d g h i f true p.1 a a else QjW R d.length a1 d a1.toNat fun s=>bif s then Xw n Fr a1 1 (fun t u v x y z aa ab ac ad ae ag=>K false v x y t z aa ab ac ad ae ag u) (fun bx bz ah ai aj ak al am an ao ap aq ar au=>K true aj ak al ah am an ao ap aq ar au ai) n 0 d a b c e g h i f j k l else Xw n Fr a1 b (fun av aw ax ay az ba bb bc bd be bg bh=>K false ax ay az av ba bb bc bd be bg bh aw) (fun ca cb bi bj bk bl bm bn bo bp bq br bt bu=>K true bk bl bm bi bn bo bp bq br bt bu bj) n 0 d a b c e g h i f j k l
def XF :Nat->Int->LL->LL->LL->Int->Int->Bool->Bool->Bool->Int->LL->LL->Int->oP (Bool×Int×LL×LL×LL×Int×Int×Bool×Bool×Bool×Int×LL×LL)
 | 0,_,_,_,_,_,_,_,_,_,_,_,_,_=>none
 | d+1,a,b,c,e,f,g,h,i,j,k,l,m,a1=>Jp n (XF d) a b c e f g h i j k l m a1 Tu13
def Fl (e:Int) (f g:LL) (a1:Int) (a2:Bool) (KA:Qkl R) (KB:Int->LL->LL->LL->Int->Int->Bool->Bool->Bool->Int->LL->LL->Int->oP R):oP R:=Qc R (UX n e f g some) fun c=>bif !c then KA 1 else Qc R (Q2j n a1 1 1048576 some) fun d=>bif !d then KA 4 else gb true (Kn n e f g a1 a2 Tu11) (0,[],[],[],0,0,false,false,false,0,[]) fun b=>gb true (XF n n b.1 b.2.1 b.2.2.1 b.2.2.2.1 b.2.2.2.2.1 b.2.2.2.2.2.1 b.2.2.2.2.2.2.1 b.2.2.2.2.2.2.2.1 b.2.2.2.2.2.2.2.2.1 b.2.2.2.2.2.2.2.2.2.1 [] b.2.2.2.2.2.2.2.2.2.2 0) (false,0,[],[],[],0,0,false,false,false,0,[],[]) fun a=>Qb R a.2.2.2.2.2.2.2.1 fun i=>bif i then KA 15 else Qb R a.2.2.2.2.2.2.2.2.2.1 fun h=>Qb R a.2.2.2.2.2.2.2.2.2.2.2.2 fun j=>Qb R a.2.2.2.2.2.2.2.2.2.2.2.1 fun k=>Qb R a.2.2.2.2.2.2.2.2.2.2.1 fun l=>Qb R a.2.2.2.2.2.2.2.2.1 fun o=>bif !h then KB a.2.1 a.2.2.1 a.2.2.2.1 a.2.2.2.2.1 a.2.2.2.2.2.1 a.2.2.2.2.2.2.1 i o h l k j 14 else KB a.2.1 a.2.2.1 a.2.2.2.1 a.2.2.2.2.1 a.2.2.2.2.2.1 a.2.2.2.2.2.2.1 i o h l k j 0
def Va (e:Int) (f g:LL) (a1:Int) (K:Qky R):oP R:=gb true (Fl n e f g a1 false (fun c=>some (.inl c)) fun c d b a h i r6 j k l m o p=>some (.inr (c,d,b,a,h,i,r6,j,k,l,m,o,p))) (.inl 0) fun d=>smX d (fun b=>bif b==0 then none else bif b==14 then none else K [] 0 b) fun a=>Qb R a.2.2.2.2.2.2.2.2.2.2.2.2 fun q=>bif q==0 then K a.2.2.2.2.2.2.2.2.2.2.1 a.2.2.2.2.2.1 0 else bif q==14 then K [] a.2.2.2.2.2.1 q else K [] 0 q
def XV (b c:Int) (d h i:LL) (e:Int) (f g j:LL) (k:Int) (k0:Qkt R):Qku R
 | 0,_,_=>none
 | m+1,l,a=>bif decide (a<c) then gb true (Xj n h i e f g j d k b a Tu2) (0,false) fun q=>Qc R (XG n e f g d b a some) fun r=>XV b c d h i e f g j k k0 m (wJ (l+wJ (r+q.1))) (wJ (a+1)) else k0 l a (decide (a<c))
def Xn (h2:LL) (b:Int) (d c e:LL) (f:Int) (g h i:LL) (j:Int) (k0:Qkt R):Qku R
 | 0,_,_=>none
 | m+1,k,a=>bif decide (a<b) then QjF R h2 a fun l=>QjO R c l fun s=>XV n l (s.length:Int) d c e f g h i j (fun t u v=>Xn h2 b d c e f g h i j k0 m t (wJ (a+1))) n k 0 else k0 k a (decide (a<b))
def Wf (c d:LL) (a:Int) (e f g h:LL) (i:Int) (b:LL) (j:Bool) (K:Qkl R):oP R:=bif !j then K 0 else Xn n b (b.length:Int) h c d a e f g i (fun k l m=>Qc R (nz a) fun o=>K (wJ (Int.tdiv k a))) n 0 0
def Qs (n:Nat) (a0 a1 a2:Int) (a:LL) (b c:Int) (K:Qkr R):oP R:=bif decide (a2>0) then Qb R [[Ql a0,Ql b,Ql a1,Ql a2,Ql c]] fun e=>Qc R (Yn ((a.length+e.length)*40)) fun d=>K (a++e) else K a
def Z3 (n:Nat) (d h2:Int) (f:LL) (e:Int) (k0:Qkn R):Qkm R
 | 0,_,_=>none
 | m+1,a,b=>bif decide (a<e) then QjP R f a fun c h=>Qkb R c (Qk7 R c fun g=>Qd R (g==d) (pIw h) fun j=>bif Q9 (Q9 (g==d) (decide (j>=h2))) (decide ((b.length:Int)<8)) then Qc R (Yn ((b.length+[[Ql a]].length)*8)) fun p=>Z3 n d h2 f e k0 m (wJ (a+1)) (b++[[Ql a]]) else Z3 n d h2 f e k0 m (wJ (a+1)) b) else k0 a (decide (a<e)) b
def K5 (a:LL) (a1 a2:Int) (K:Qkr R):oP R:=Z3 n a1 a2 a (a.length:Int) (fun c d b=>K b) n 0 []
def AK (n:Nat)  (K:Qkr R):oP R:=K [[Ql 8,Ql 4,D.sl 1 [[Ql 1],[Ql 2]]],[Ql 0,Ql 3,D.sl 1 [[Ql 1]]]]
def WU (n:Nat) (c:LL) (b:Int) (k0:oP R) (k1:Qkt R):Qku R
 | 0,_,_=>none
 | m+1,d,a=>bif decide (a<b) then QjF R c a fun e=>bif decide (e<=d) then k0 else WU n c b k0 k1 m e (wJ (a+1)) else k1 d a (decide (a<b))
def WW (a:Int) (h2:LL) (e:Int) (k0:oP R) (k1:Qko R):Qkp R
 | 0,_=>none
 | m+1,b=>bif decide (b<e) then QjS R h2 b fun h i j=>Qc R (pIw h) fun c=>Qd R (!(decide (c<0))) (pIw h) fun d=>Qa R (Q8 (decide (c<0)) (decide (d>=a))) fun t=>Qd R (!t) (pIw i) fun g=>Qa R (Q8 t (decide (g<1))) fun s=>Qd R (!s) (pIw i) fun k=>Qa R (Q8 s (decide (k>a))) fun u=>Qd R (!u) (pSl 1 j) fun o=>bif Q8 u (decide ((o.length:Int)>8)) then k0 else Qc R (pSl 1 j) fun l=>WU n l (l.length:Int) k0 (fun p q r=>WW a h2 e k0 k1 m (wJ (b+1))) n (-1:Int) 0 else k1 b (decide (b<e))
def Ht (a0:Int) (a1:LL) (K:Qkq R):oP R:=bif Q8 (Q8 (decide (a0<2)) (decide (a0>7200))) (decide ((a1.length:Int)>16)) then K false else WW n a0 a1 (a1.length:Int) (K false) (fun a b=>K true) n 0
def Z5 (n:Nat) (c:LL) (h2 b:Int) (k0:Qkl R) (k1:Qko R):Qkp R
 | 0,_=>none
 | m+1,a=>bif decide (a<b) then QjF R c a fun f=>bif h2==f then k0 a else Z5 n c h2 b k0 k1 m (wJ (a+1)) else k1 a (decide (a<b))
def Vj (a0:LL) (a1:Int) (K:Qkl R):oP R:=Z5 n a0 a1 (a0.length:Int) (fun a=>K a) (fun b c=>K (-1:Int)) n 0
def Ww (a0:LL) (a1:Int) (K:Qkq R):oP R:=Qc R (Vj n a0 a1 some) fun a=>K (decide (a>=0))
def Gc (a0 a b c e:Int) (K:Qkq R):oP R:=Qc R (HE n (wJ (c-a)) a0 some) fun d=>Qd R (!(decide (d<b))) (HE n (wJ (a-c)) a0 some) fun f=>K (Q8 (decide (d<b)) (decide (f<e)))
def UE (g:Int) (h2 h:LL) (i a d:Int) (k0:oP R) (k1:Qko R):Qkp R
 | 0,_=>none
 | m+1,c=>bif decide (c<d) then QjF R h c fun b=>Qa R (b==a) fun ab=>Qd R ab (Qi h2 c) fun e=>Qkd R e ab fun l o=>Qd R ab e[2]? fun p=>Qd R ab (Qi h2 i) fun f=>Qkd R f ab fun q r=>Qd R ab f[2]? fun s=>QjM R l ab o fun t u=>Qd R ab (pSl 1 p) fun z=>QjM R q ab r fun v x=>Qd R ab (pSl 1 s) fun aa=>Qd R ab (Gc n g t u v x some) fun y=>bif Q9 ab y then k0 else UE g h2 h i a d k0 k1 m (wJ (c+1)) else k1 c (decide (c<d))
def Tp (a0:Int) (a1 a2:LL) (a b:Int) (K:Qkq R):oP R:=UE n a0 a1 a2 a b a (K false) (fun c d=>K true) n 0
def Wb (h2:Int) (b d e:LL) (c:Int) (k0:oP R) (k1:Qko R):Qkp R
 | 0,_=>none
 | m+1,a=>bif decide (a<c) then QjF R e a fun f=>Qc R (Qi b a) fun i=>Qc R i[2]? fun j=>Qc R (pSl 1 j) fun k=>Qc R (Ww n k f some) fun l=>bif !l then k0 else Qc R (Tp n h2 b d a f some) fun o=>bif !o then k0 else Wb h2 b d e c k0 k1 m (wJ (a+1)) else k1 a (decide (a<c))
def ZN (a0:Int) (a1 a2:LL) (K:Qkq R):oP R:=Qc R (Ht n a0 a1 some) fun a=>bif Q8 (!a) ((a2.length:Int) !=(a1.length:Int)) then K false else Wb n a0 a1 a2 a2 (a2.length:Int) (K false) (fun b c=>K true) n 0
def VY  (K:Qkq R):oP R:=Qc R (AK n some) fun b=>Qc R (ZN n 10 b [[Ql 2],[Ql 1]] some) fun a=>Qd R a (AK n some) fun c=>Qd R a (ZN n 10 c [[Ql 1],[Ql 1]] some) fun d=>K (Q9 a (!d))
def Yb (c h2 f g:Int) (d h:LL) (k0:Qkl R) (k1:Qko R):Qkp R
 | 0,_=>none
 | m+1,b=>Qa R (decide (b<(d.length:Int))) fun aa=>bif aa then QjG R d b fun a i j k=>Qk2 R a fun o p q=>Qc R (pIw i) fun e=>Qd R (e==c) (pIw j) fun l=>Qa R (Q9 (e==c) (l==h2)) fun ab=>Qd R ab (pIw k) fun r=>bif Q9 ab (r==f) then Qc R (pIw i) fun x=>Qk6 R j k o fun s t u=>QjT R p q (Qc R (Gr n g h s t u some) fun v=>k0 v) else Yb c h2 f g d h k0 k1 m (wJ (b+1)) else k1 b aa
def YC (a:Int) (b c:LL) (a1 a2 d:Int) (K:Qkl R):oP R:=Yb n a1 a2 d a b c (fun e=>K e) (fun f g=>K 0) n 0
def YP (b g:LL) (d:Int) (e f:LL) (a1 a2:Int) (K:Qko R):oP R:=Qc R (Z7 n b a1 some) fun a=>QjO R b a1 fun i=>Qb R (wJ (2*wJ (a+a2))) fun k=>bif decide (a2<wJ ((i.length:Int)-1)) then Qc R (YC n d e f 2 (wJ (k+1)) (wJ (k+2)) some) fun j=>K j true else Qc R (H5 n g a1 Tu5) fun r6=>bif r6.2.2.2.2 then Qc R (pIw r6.2.1) fun o=>Qc R (Z7 n b o some) fun p=>Qc R (YC n d e f 4 (wJ (k+1)) (wJ (2*p)) some) fun q=>K q true else K 0 false
def XK (b:LL) (c:Int) (d e:LL) (a1 a2:Int) (K:Qkl R):oP R:=Qc R (Z7 n b a1 some) fun a=>Qb R (wJ (2*wJ (a+a2))) fun g=>Qc R (YC n c d e 1 g (wJ (g+1)) some) fun f=>K f
def Yp (b c:Int) (d e i:LL) (f:Int) (g h:LL) (k0:Qkt R):Qku R
 | 0,_,_=>none
 | m+1,j,a=>bif decide (a<c) then QjF R d b fun o=>gb true (YP n e i f g h o a Tu2) (0,false) fun r=>QjF R d b fun u=>Qc R (XK n e f g h u a some) fun v=>Yp b c d e i f g h k0 m (wJ (j+wJ (v+r.1))) (wJ (a+1)) else k0 j a (decide (a<c))
def Y2 (h2:Int) (b c d:LL) (e:Int) (f g:LL) (k0:Qkt R):Qku R
 | 0,_,_=>none
 | m+1,h,a=>bif decide (a<h2) then QjF R b a fun k=>QjO R c k fun p=>Yp n a (p.length:Int) b c d e f g (fun q r s=>Y2 h2 b c d e f g k0 m q (wJ (a+1))) n h 0 else k0 h a (decide (a<h2))
def Vh (c d:LL) (a:Int) (e f b:LL) (g:Bool) (K:Qkl R):oP R:=bif !g then K 0 else Y2 n (b.length:Int) b c d a e f (fun h i j=>Qc R (nz a) fun k=>K (wJ (Int.tdiv h a))) n 0 0
def N0 (b c d e f:LL) (g:Int) (h:List UInt8) (i j k l:Int) (K:Qky R):oP R:=Qc R (Ks n b c d e f g h i j k l 0 0 Tu3) fun a=>K a.1 a.2.1 a.2.2
def Xt (n:Nat) (a b:LL) (d e f c g:Int) (a2:Bool) (K:QkA R):oP R:=bif decide (c>0) then Qb R [[Ql d,Ql e,Ql f,Ql c,Ql g]] fun i=>Qk1 R ((a.length+i.length)*40) ((b.length+[[D.bool a2]].length)*1) (K (a++i) (b++[[D.bool a2]])) else K a b
def Xy (d e f:Int) (b:LL) (c:Int) (k0:Qkv R):Qkw R
 | 0,_,_,_=>none
 | m+1,a,g,h=>bif decide (a<c) then QjF R b a fun l=>QjN R b a fun q=>Qc R (Qi b a) fun r=>Qk3 R r fun t=>QjN R b a fun x=>Qc R (Xt n g h l d (wJ (f+q)) (wJ (t-x)) e false Tu2) fun i=>Xy d e f b c k0 m (wJ (a+1)) i.1 i.2 else k0 a (decide (a<c)) g h
def QA (i j s e q:Int) (t:Bool) (u v x y:LL) (z:Int) (r aa f ab p ac ad:LL) (k:Int) (l o:LL) (k0:QkE R):QkC R
 | 0,_,_,_,_=>none
 | m+1,a,d,ag,ah=>bif decide (d<q) then Qc R (Y1 n z r aa f ab p ac ad e d Tu2) fun g=>Qka R f e fun ba=>QjJ R ba r g.1 g.2 fun bi bj bk bl bm bn bo=>Qc R (N0 n u v x y bi bj bk bl bm bn bo Tu3) fun h=>Qb R (wJ (a+h.2.1)) fun b=>Qb R (wJ (d+1)) fun c=>bif Q9 (Q9 (s==0) (d==0)) (!t) then QjU R g.1 g.2 fun bq br=>Qc R (GB n bq br some) fun bt=>Qc R (Xt n ag ah bt i (wJ (a-60)) 60 j true Tu2) fun ak=>Xy n i j a h.1 (h.1.length:Int) (fun cj ck al am=>gb true (YP n f p k l o e d Tu2) (0,false) fun ai=>bif !ai.2 then Qc R (XK n f k l o e d some) fun an=>QjU R g.1 g.2 fun bu bv=>Qc R (Vp n bu bv some) fun bx=>Qc R (Xt n al am bx i b (wJ (wJ (wJ (wJ (a+an)+60)-a)-h.2.1)) j true Tu2) fun ao=>QA i j s e q t u v x y z r aa f ab p ac ad k l o k0 m (wJ (wJ (a+an)+60)) c ao.1 ao.2 else Qc R (XK n f k l o e d some) fun ap=>QjU R g.1 g.2 fun bz ca=>Qc R (Vp n bz ca some) fun cb=>Qb R (wJ (wJ (a+ap)+ai.1)) fun co=>Qc R (Xt n al am cb i b (wJ (wJ (co-a)-h.2.1)) j true Tu2) fun aq=>QA i j s e q t u v x y z r aa f ab p ac ad k l o k0 m co c aq.1 aq.2) n 0 ak.1 ak.2 else Xy n i j a h.1 (h.1.length:Int) (fun cm cn ar au=>gb true (YP n f p k l o e d Tu2) (0,false) fun aj=>bif !aj.2 then Qc R (XK n f k l o e d some) fun av=>QjU R g.1 g.2 fun cc ce=>Qc R (Vp n cc ce some) fun cf=>Qc R (Xt n ar au cf i b (wJ (wJ (wJ (wJ (a+av)+60)-a)-h.2.1)) j true Tu2) fun aw=>QA i j s e q t u v x y z r aa f ab p ac ad k l o k0 m (wJ (wJ (a+av)+60)) c aw.1 aw.2 else Qc R (XK n f k l o e d some) fun ax=>QjU R g.1 g.2 fun cg ch=>Qc R (Vp n cg ch some) fun ci=>Qb R (wJ (wJ (a+ax)+aj.1)) fun bp=>Qc R (Xt n ar au ci i b (wJ (wJ (bp-a)-h.2.1)) j true Tu2) fun ay=>QA i j s e q t u v x y z r aa f ab p ac ad k l o k0 m bp c ay.1 ay.2) n 0 ag ah else k0 a d (decide (d<q)) ag ah
def Yj (d e b:Int) (f:LL) (g:Bool) (h i j k:LL) (l:Int) (o p c q r s t:LL) (u:Int) (v x:LL) (k0:QkE R):QkC R
 | 0,_,_,_,_=>none
 | m+1,y,a,z,aa=>bif decide (a<b) then QjF R f a fun ab=>QjO R c ab fun ah=>QA n d e a ab (ah.length:Int) g h i j k l o p c q r s t u v x (fun ai al am aj ak=>Yj d e b f g h i j k l o p c q r s t u v x k0 m ai (wJ (a+1)) aj ak) n y 0 z aa else k0 y a (decide (a<b)) z aa
def UR (h i j k:LL) (l:Int) (m o b p d q r:LL) (e:Int) (f c s t:LL) (a1:Int) (a:LL) (g:Bool) (K:QkA R):oP R:=Qc R (Vh n b d e f c a g some) fun u=>QjF R a 0 fun y=>Qc R (Z7 n b y some) fun z=>QjF R c (wJ (2*z)) fun i8=>Yj n a1 u (a.length:Int) a g h i j k l m o b p d q r e f c (fun ae ag ah ac ad=>K ac ad) n i8 0 s t
def Ws (c:LL) (b:Int) (d e f g:LL) (h:Int) (i j k l o p q:LL) (r:Int) (s t:LL) (k0:Qkv R):Qkw R
 | 0,_,_,_=>none
 | m+1,a,u,v=>bif decide (a<b) then QjR R c a fun z aa=>Qc R (pSl 1 z) fun ab=>Qc R (Gp aa) fun ac=>Qc R (UR n d e f g h i j k l o p q r s t u v a ab ac Tu2) fun y=>Ws c b d e f g h i j k l o p q r s t k0 m (wJ (a+1)) y.1 y.2 else k0 a (decide (a<b)) u v
def MU (e f g h:LL) (i:Int) (j k b l c m o a2:LL) (KA:Qkl R) (KB:LL->LL->LL->LL->Int->LL->LL->LL->LL->LL->LL->LL->Int->LL->LL->LL->LL->LL->Int->oP R):oP R:=gb true (Gg n e f g h i j k b l c m o Tu4) (0,[],[],0) fun a=>bif a.2.2.2 !=0 then KA a.2.2.2 else Qc R (KS n a.1 a.2.1 a.2.2.1 a2 some) fun p=>bif !p then KA 1 else Qc R (Js n b c some) fun d=>Ws n d (d.length:Int) e f g h i j k b l c m o a.1 a.2.2.1 a2 (fun t u r s=>KB e f g h i j k b l c m o a.1 a.2.1 a.2.2.1 a2 r s 0) n 0 [] []
def Z0 (n:Nat) (c:Int) (d e:LL) (k0:Qkn R):Qkm R
 | 0,_,_=>none
 | m+1,a,f=>bif decide (a<c) then QjW R e.length a e a.toNat fun p=>bif p then QjH R d.length a d a.toNat fun b=>Qkc R b fun g h=>Qc R b[2]? fun i=>QjQ R b fun j k=>Qc R (Yn ((f.length+[[g,h,i,j,k]].length)*40)) fun s=>Z0 n c d e k0 m (wJ (a+1)) (f++[[g,h,i,j,k]]) else Z0 n c d e k0 m (wJ (a+1)) f else k0 a (decide (a<c)) f
def Hx (e f g h:LL) (i:Int) (j k l m o p q a2:LL) (K:Qks R):oP R:=gb true (MU n e f g h i j k l m o p q a2 (fun c=>some (.inl c)) fun c d b a r s r6 t u v x y z aa ab ac ad ae ag=>some (.inr (c,d,b,a,r,s,r6,t,u,v,x,y,z,aa,ab,ac,ad,ae,ag))) (.inl 0) fun d=>smX d (fun b=>bif b !=0 then K [] b else none) fun a=>Qb R a.2.2.2.2.2.2.2.2.2.2.2.2.2.2.2.2.2.2 fun ak=>bif ak !=0 then K [] ak else Z0 n (a.2.2.2.2.2.2.2.2.2.2.2.2.2.2.2.2.1.length:Int) a.2.2.2.2.2.2.2.2.2.2.2.2.2.2.2.2.1 a.2.2.2.2.2.2.2.2.2.2.2.2.2.2.2.2.2.1 (fun ai aj ah=>K ah 0) n 0 []
end Go.Vx
namespace Go.Vx
open Go.Proofs
abbrev nT:List (LpE Tryz.prog):=[]
abbrev tyS (e s:Nat):TyI:=⟨.sl e s,1,24,[.slice none 0 0],[.sl s []],[],none⟩
abbrev tyN (n:Nat):TyI:=⟨.struct,n,8*n,List.replicate n (.int .i64 0),List.replicate n (.int .i64 0),(List.range n).map fun i=>(i,3),some (List.replicate n (.int .i64))⟩
def gtt:TT:=[(3,⟨.int .i64,1,8,[.int .i64 0],[.int .i64 0],[],none⟩),(4,⟨.bool,1,1,[.bool false],[.bool false],[],none⟩),(5,⟨.int .u8,1,1,[.int .u8 0],[.int .u8 0],[],none⟩),(9,⟨.str,1,16,[.string ⟨#[]⟩],[.str []],[],none⟩),(22,tyS 3 1),(23,tyS 9 1),(24,tyS 57 5),(25,tyS 193 6),(27,⟨.struct,4,96,[.slice none 0 0,.slice none 0 0,.slice none 0 0,.slice none 0 0],[.sl 1 [],.sl 1 [],.sl 5 [],.sl 6 []],[(0,23),(1,23),(2,24),(3,25)],none⟩),(28,tyS 76 5),(29,tyS 152 2),(30,tyS 87 4),(31,tyS 84 7),(32,tyS 158 4),(33,tyS 90 5),(34,tyS 92 3),(36,⟨.struct,8,176,[.int .i64 0,.slice none 0 0,.slice none 0 0,.slice none 0 0,.slice none 0 0,.slice none 0 0,.slice none 0 0,.slice none 0 0],[.int .i64 0,.sl 5 [],.sl 2 [],.sl 4 [],.sl 7 [],.sl 4 [],.sl 5 [],.sl 3 []],[(0,3),(1,28),(2,29),(3,30),(4,31),(5,32),(6,33),(7,34)],none⟩),(39,tyS 104 3),(40,tyS 67 6),(42,⟨.struct,3,56,[.int .i64 0,.slice none 0 0,.slice none 0 0],[.int .i64 0,.sl 3 [],.sl 6 []],[(0,3),(1,39),(2,40)],none⟩),(43,⟨.int .i64,1,8,[.int .i64 0],[.int .i64 0],[],none⟩),(50,tyS 128 3),(53,tyS 59 5),(57,⟨.struct,5,48,[.string ⟨#[]⟩,.int .i64 0,.int .i64 0,.int .i64 0,.int .i64 0],[.str [],.int .i64 0,.int .i64 0,.int .i64 0,.int .i64 0],[(0,9),(1,3),(2,3),(3,3),(4,3)],some [.str,.int .i64,.int .i64,.int .i64,.int .i64]⟩),(59,tyN 5),(67,tyN 6),(76,⟨.struct,5,48,[.string ⟨#[]⟩,.int .i64 0,.int .i64 0,.int .i64 0,.int .i64 0],[.str [],.int .i64 0,.int .i64 0,.int .i64 0,.int .i64 0],[(0,9),(1,3),(2,3),(3,3),(4,3)],some [.str,.int .i64,.int .i64,.int .i64,.int .i64]⟩),(79,tyS 22 1),(81,⟨.struct,7,168,[.slice none 0 0,.slice none 0 0,.slice none 0 0,.slice none 0 0,.slice none 0 0,.slice none 0 0,.slice none 0 0],[.sl 1 [],.sl 1 [],.sl 5 [],.sl 6 [],.sl 1 [],.sl 1 [],.sl 1 []],[(0,27),(4,79),(5,79),(6,79)],none⟩),(84,tyN 7),(85,tyS 155 4),(87,⟨.struct,4,56,[.string ⟨#[]⟩,.int .i64 0,.int .i64 0,.slice none 0 0],[.str [],.int .i64 0,.int .i64 0,.sl 4 []],[(0,9),(1,3),(2,3),(3,85)],none⟩),(90,tyN 5),(92,tyN 3),(93,tyS 97 1),(97,tyS 170 3),(98,tyS 102 4),(102,tyN 4),(104,tyN 3),(107,tyS 112 2),(112,tyN 2),(117,tyS 4 1),(119,⟨.struct,12,160,[.int .i64 0,.slice none 0 0,.slice none 0 0,.slice none 0 0,.int .i64 0,.int .i64 0,.bool false,.bool false,.bool false,.int .i64 0,.slice none 0 0,.slice none 0 0],[.int .i64 0,.sl 3 [],.sl 6 [],.sl 1 [],.int .i64 0,.int .i64 0,.bool false,.bool false,.bool false,.int .i64 0,.sl 1 [],.sl 1 []],[(0,42),(3,117),(4,3),(5,3),(6,4),(7,4),(8,4),(9,3),(10,22),(11,22)],none⟩),(120,⟨.int .u64,1,8,[.int .u64 0],[.int .u64 0],[],none⟩),(121,tyS 125 2),(125,⟨.struct,2,32,[.slice none 0 0,.bool false],[.sl 1 [],.bool false],[(0,22),(1,4)],none⟩),(128,⟨.struct,3,40,[.int .i64 0,.int .i64 0,.slice none 0 0],[.int .i64 0,.int .i64 0,.sl 1 []],[(0,3),(1,3),(2,22)],none⟩),(133,⟨.struct,18,400,[.slice none 0 0,.slice none 0 0,.slice none 0 0,.slice none 0 0,.int .i64 0,.slice none 0 0,.slice none 0 0,.slice none 0 0,.slice none 0 0,.slice none 0 0,.slice none 0 0,.slice none 0 0,.int .i64 0,.slice none 0 0,.slice none 0 0,.slice none 0 0,.slice none 0 0,.slice none 0 0],[.sl 1 [],.sl 1 [],.sl 5 [],.sl 6 [],.int .i64 0,.sl 5 [],.sl 2 [],.sl 4 [],.sl 7 [],.sl 4 [],.sl 5 [],.sl 3 [],.int .i64 0,.sl 3 [],.sl 6 [],.sl 1 [],.sl 5 [],.sl 1 []],[(0,27),(4,36),(12,42),(15,22),(16,53),(17,117)],none⟩),(143,⟨.struct,2,32,[.slice none 0 0,.int .i64 0],[.sl 1 [],.int .i64 0],[(0,22),(1,3)],none⟩),(149,⟨.array 3 1 3,3,24,[.int .i64 0,.int .i64 0,.int .i64 0],[.int .i64 0,.int .i64 0,.int .i64 0],[(0,3),(1,3),(2,3)],none⟩),(150,tyS 160 2),(152,⟨.struct,2,32,[.slice none 0 0,.int .i64 0],[.sl 2 [],.int .i64 0],[(0,150),(1,3)],none⟩),(155,tyN 4),(156,⟨.array 4 1 4,4,4,[.bool false,.bool false,.bool false,.bool false],[.bool false,.bool false,.bool false,.bool false],[(0,4),(1,4),(2,4),(3,4)],none⟩),(158,tyN 4),(160,tyN 2),(170,tyN 3),(185,⟨.ptr,1,8,[.pointer none],[],[],none⟩),(188,⟨.struct,21,440,[.slice none 0 0,.slice none 0 0,.slice none 0 0,.slice none 0 0,.int .i64 0,.slice none 0 0,.slice none 0 0,.slice none 0 0,.slice none 0 0,.slice none 0 0,.slice none 0 0,.slice none 0 0,.int .i64 0,.slice none 0 0,.slice none 0 0,.slice none 0 0,.bool false,.slice none 0 0,.slice none 0 0,.int .i64 0,.slice none 0 0],[.sl 1 [],.sl 1 [],.sl 5 [],.sl 6 [],.int .i64 0,.sl 5 [],.sl 2 [],.sl 4 [],.sl 7 [],.sl 4 [],.sl 5 [],.sl 3 [],.int .i64 0,.sl 3 [],.sl 6 [],.sl 1 [],.bool false,.sl 1 [],.sl 1 [],.int .i64 0,.sl 5 []],[(0,27),(4,36),(12,42),(15,22),(16,4),(17,22),(18,22),(19,3),(20,53)],none⟩),(193,tyN 6),(207,⟨.struct,2,48,[.slice none 0 0,.slice none 0 0],[.sl 1 [],.sl 3 []],[(0,117),(1,97)],none⟩),(210,⟨.struct,4,32,[.int .i64 0,.int .i64 0,.int .i64 0,.int .i64 0],[.int .i64 0,.int .i64 0,.int .i64 0,.int .i64 0],[(0,160),(2,3),(3,3)],some [.int .i64,.int .i64,.int .i64,.int .i64]⟩),(232,⟨.ptr,1,8,[.pointer none],[],[],none⟩),(233,tyS 273 4),(235,⟨.struct,19,424,[.slice none 0 0,.slice none 0 0,.slice none 0 0,.slice none 0 0,.int .i64 0,.slice none 0 0,.slice none 0 0,.slice none 0 0,.slice none 0 0,.slice none 0 0,.slice none 0 0,.slice none 0 0,.slice none 0 0,.slice none 0 0,.slice none 0 0,.slice none 0 0,.int .i64 0,.slice none 0 0,.slice none 0 0],[.sl 1 [],.sl 1 [],.sl 5 [],.sl 6 [],.int .i64 0,.sl 5 [],.sl 2 [],.sl 4 [],.sl 7 [],.sl 4 [],.sl 5 [],.sl 3 [],.sl 1 [],.sl 1 [],.sl 1 [],.sl 4 [],.int .i64 0,.sl 3 [],.sl 6 []],[(0,27),(4,36),(12,22),(13,93),(14,22),(15,233),(16,42)],none⟩),(243,tyS 287 2),(248,tyS 210 4),(261,⟨.int .i64,1,8,[.int .i64 0],[.int .i64 0],[],none⟩),(268,⟨.int .u32,1,4,[.int .u32 0],[.int .u32 0],[],none⟩),(270,⟨.int .u64,1,8,[.int .u64 0],[.int .u64 0],[],none⟩),(273,tyN 4),(277,⟨.mpb,1,8,[.map none],[],[],none⟩),(282,tyN 2),(287,tyN 2),(301,⟨.int .u64,1,8,[.int .u64 0],[.int .u64 0],[],none⟩),(307,tyS 312 2),(312,tyN 2),(313,tyS 170 3),(323,tyN 2),(332,⟨.struct,2,32,[.slice none 0 0,.int .i64 0],[.sl 2 [],.int .i64 0],[(0,243),(1,3)],none⟩),(348,tyN 2),(359,tyS 307 1)]
theorem QfJ:TOk Tryz.prog gtt:=(show QgL Tryz.prog [3,4,5,9,22,23,24,25,27,28,29,30,31,32,33,34,36,39,40,42,43,50,53,57,59,67,76,79,81,84,85,87,90,92,93,97,98,102,104,107,112,117,119,120,121,125,128,133,143,149,150,152,155,156,158,160,170,185,188,193,207,210,232,233,235,243,248,261,268,270,273,277,282,287,301,307,312,313,323,332,348,359]=gtt by kernel_rfl)▸QdI _
noncomputable def bT:Nat->List (Nat×TA)->TO:=btT gtt
noncomputable def pT:Nat->Nat->List (Nat×Sp)->List Sp->List Sp:=ptT gtt
noncomputable def Xa (l:List ((f:Nat)×EnP Tryz.prog f)) (cfg:List (Nat×Cfg)):VB Tryz.prog:=⟨⟨Q41 (QfV l),gtt,cfg⟩,Qaf (Q7t l),QfJ,by kernel_rfl⟩
abbrev LZ9:=Nat->LpE Tryz.prog
abbrev EZ9:=EnP Tryz.prog
abbrev BZ9:=VB Tryz.prog
abbrev QkM:List TA:=[.arr 98000,.arr 98001,.arr 98002,.arr 98003,.arr 98004,.arr 98005,.arr 98006]
abbrev QkN:Nat×TA:=(0,.ptr 1000000 0)
abbrev QkO:Nat×TA:=(1,tI)
abbrev QkP:Nat×TA:=(8,tI)
abbrev QkQ:Nat×TA:=(16,tI)
abbrev QkR:Nat×TO:=(98000,.arr 9 1)
abbrev QkS:Nat×TO:=(98001,.arr 9 1)
abbrev QkT:Nat×TO:=(98002,.arr 57 5)
abbrev QkU:Nat×TO:=(98003,.arr 193 6)
abbrev QkV:Nat×TO:=(98004,.arr 22 1)
abbrev QkW:Nat×TO:=(98005,.arr 22 1)
abbrev QkX:Nat×TO:=(98006,.arr 22 1)
abbrev QkY:Nat×TO:=(1000000,.box [.arr 98000,.arr 98001,.arr 98002,.arr 98003,.arr 98004,.arr 98005,.arr 98006])
abbrev QkZ:List TA:=[.l 1,tI]
abbrev Ql0:Nat×TA:=(3,.ptr 14 0)
abbrev Ql1:Nat×TA:=(4,tI)
abbrev Ql2:Nat×TA:=(5,tI)
abbrev Ql3:Nat×TA:=(6,.arr 1006)
abbrev Ql4:Nat×TA:=(7,tI)
abbrev Ql5:Nat×TO:=(501401,.arr 9 1)
abbrev Ql6:Nat×TO:=(501402,.arr 57 5)
abbrev Ql7:Nat×TO:=(501403,.arr 193 6)
abbrev Ql8:Nat×TO:=(501404,.arr 22 1)
abbrev Ql9:Nat×TO:=(501405,.arr 22 1)
abbrev Qla:Nat×TO:=(501406,.arr 22 1)
abbrev Qlb:Nat×TO:=(1000000,.box [.l 1,tI])
abbrev Qlc:List TA:=[.arr 501400,.arr 501401,.arr 501402,.arr 501403,.arr 501404,.arr 501405,.arr 501406]
abbrev Qld:Nat×TO:=(14,.box [.arr 501400,.arr 501401,.arr 501402,.arr 501403,.arr 501404,.arr 501405,.arr 501406])
abbrev Qle:Nat×TO:=(501400,.arr 9 1)
abbrev Qlf:Nat×TA:=(9,tI)
abbrev Qlg:Nat×TA:=(11,tI)
abbrev Qlh:List (Nat×TO):=[(14,.box [.arr 501400,.arr 501401,.arr 501402,.arr 501403,.arr 501404,.arr 501405,.arr 501406]),(1010,.arr 3 1),(501400,.arr 9 1),(501401,.arr 9 1),(501402,.arr 57 5),(501403,.arr 193 6),(501404,.arr 22 1),(501405,.arr 22 1),(501406,.arr 22 1),(1000000,.box [.l 1,tI])]
abbrev Qli:Nat×TA:=(12,tI)
abbrev Qlj:List TA:=[.nil,.ci .i64 0]
abbrev Qlk:Nat×TA:=(3,tI)
abbrev Qll:Nat×TA:=(10,.ptr 10 0)
abbrev Qlm:Nat×TA:=(2,tI)
abbrev Qln:Nat×TA:=(15,tI)
abbrev Qlo:List TA:=[tI,.arr 98361,.arr 98362,.arr 98363,.arr 98364,.arr 98365,.arr 98366,.arr 98367]
abbrev Qlp:Nat×TO:=(1000009,.box [tI,.arr 98361,.arr 98362,.arr 98363,.arr 98364,.arr 98365,.arr 98366,.arr 98367])
abbrev Qlq:Nat×TA:=(13,tI)
abbrev Qlr:List TA:=[tI,.arr 98041,.arr 98042,.arr 98043,.arr 98044,.arr 98045,.arr 98046,.arr 98047]
abbrev Qls:Nat×TA:=(6,tI)
abbrev Qlt:Nat×TA:=(14,tI)
abbrev Qlu:Nat×TA:=(22,tI)
abbrev Qlv:List (Nat×TO):=[(4,.arr 156 1),(5,.arr 156 1),(98041,.arr 76 5),(98042,.arr 152 2),(98043,.arr 87 4),(98044,.arr 84 7),(98045,.arr 158 4),(98046,.arr 90 5),(98047,.arr 92 3),(1000000,.box [.l 1,tI]),(1000001,.box [tI,.arr 98041,.arr 98042,.arr 98043,.arr 98044,.arr 98045,.arr 98046,.arr 98047])]
abbrev Qlw:Nat×TO:=(1000001,.box [tI,.arr 98041,.arr 98042,.arr 98043,.arr 98044,.arr 98045,.arr 98046,.arr 98047])
abbrev Qlx:List TA:=[.nil,.nil,.nil,.nil]
abbrev Qly:List TA:=[.ci .i64 0,.nil,.nil,.nil,.nil,.nil,.nil,.nil]
abbrev Qlz:List TA:=[.arr 100015,.arr 150015,.arr 200015,.arr 250015,.arr 300015,.arr 350015,.arr 400015]
abbrev QlA:Nat×TA:=(2,.ptr 2 0)
abbrev QlB:Nat×TA:=(3,.ptr 3 0)
abbrev QlC:Nat×TA:=(4,.ptr 50013 0)
abbrev QlD:Nat×TA:=(5,.ptr 50015 0)
abbrev QlE:Nat×TA:=(6,.ptr 6 0)
abbrev QlF:Nat×TO:=(2,.box [.nil,.nil,.nil,.nil])
abbrev QlG:Nat×TO:=(3,.box [.ci .i64 0,.nil,.nil,.nil,.nil,.nil,.nil,.nil])
abbrev QlH:Nat×TO:=(50013,.box [.l 1,tI])
abbrev QlI:Nat×TO:=(50015,.box [.arr 100015,.arr 150015,.arr 200015,.arr 250015,.arr 300015,.arr 350015,.arr 400015])
abbrev QlJ:Nat×TO:=(100015,.arr 9 1)
abbrev QlK:Nat×TO:=(150015,.arr 9 1)
abbrev QlL:Nat×TO:=(200015,.arr 57 5)
abbrev QlM:Nat×TO:=(250015,.arr 193 6)
abbrev QlN:Nat×TO:=(300015,.arr 22 1)
abbrev QlO:Nat×TO:=(350015,.arr 22 1)
abbrev QlP:Nat×TO:=(400015,.arr 22 1)
abbrev QlQ:List TA:=[tI,.arr 50061,.arr 100061,.arr 150061,.arr 200061,.arr 250061,.arr 300061,.arr 350061]
abbrev QlR:Nat×TO:=(6,.box [tI,.arr 50061,.arr 100061,.arr 150061,.arr 200061,.arr 250061,.arr 300061,.arr 350061])
abbrev QlS:Nat×TO:=(100061,.arr 152 2)
abbrev QlT:Nat×TO:=(150061,.arr 87 4)
abbrev QlU:Nat×TO:=(200061,.arr 84 7)
abbrev QlV:Nat×TO:=(250061,.arr 158 4)
abbrev QlW:List TA:=[tI,.nil,.nil,.nil,.nil,.nil,.nil,.nil]
abbrev QlX:List (Nat×TA):=[(2,.ptr 2 0),(3,.ptr 3 0),(4,.ptr 50013 0),(5,.ptr 50015 0),(6,.ptr 6 0),(10,tI)]
abbrev QlY:Nat×TA:=(10,tI)
abbrev QlZ:Nat×TO:=(3,.box [tI,.nil,.nil,.nil,.nil,.nil,.nil,.nil])
abbrev Qm0:Nat×TA:=(1,.ptr 1 0)
abbrev Qm1:Nat×TA:=(3,.arr 1003)
abbrev Qm2:Nat×TO:=(1,bT 27 [])
abbrev Qm3:List TA:=[tI,tI]
abbrev Qm4:Nat×TA:=(5,.ptr 5 0)
abbrev Qm5:Nat×TA:=(7,.ptr 7 0)
abbrev Qm6:Nat×TO:=(3,bT 27 [])
abbrev Qm7:Nat×TO:=(5,.box [tI,tI])
abbrev Qm8:Nat×TA:=(8,.ptr 8 0)
abbrev Qm9:Nat×TO:=(2,bT 27 [])
abbrev Qma:Nat×TA:=(7,.l 1)
abbrev Qmb:Nat×TO:=(1,bT 36 [])
abbrev Qmc:Nat×TO:=(2,bT 36 [])
abbrev Qmd:List TA:=[.ci .i64 0,.ci .i64 0,.ci .i64 0,.ci .i64 0]
abbrev Qme:List TA:=[.x,.x,.x,.x]
abbrev Qmf:List TA:=[.l 2,tI]
abbrev Qmg:List (Nat×TO):=[(2,bT 27 []),(3,.box [.l 2,tI])]
abbrev Qmh:Nat×TO:=(3,.box [.l 2,tI])
abbrev Qmi:Nat×TA:=(8,.arr 1008)
abbrev Qmj:List (Nat×TO):=[(2,bT 27 []),(3,.box [.l 2,tI]),(1008,.arr 287 2)]
abbrev Qmk:Nat×TA:=(4,.ptr 4 0)
abbrev Qml:Nat×TO:=(5,bT 76 [])
abbrev Qmm:List (Nat×TO):=[(3,bT 27 []),(4,bT 36 []),(7,.box [.x,.x,.x,.x])]
abbrev Qmn:Nat×TO:=(7,.box [.x,.x,.x,.x])
abbrev Qmo:List (Nat×TO):=[(2,bT 27 []),(3,bT 36 [])]
abbrev Qmp:Nat×TO:=(3,bT 36 [])
abbrev Qmq:Nat×TA:=(0,.l 2)
abbrev Qmr:Nat×TA:=(0,tI)
abbrev Qms:List (Nat×TO):=[(5,bT 76 []),(29,.arr 3 1)]
abbrev Qmt:Nat×TO:=(29,.arr 3 1)
abbrev Qmu:Nat×TA:=(7,.arr 1007)
abbrev Qmv:Nat×TA:=(18,tI)
abbrev Qmw:Nat×TO:=(6,.box [.l 2,tI])
abbrev Qmx:List (Nat×TO):=[(2,bT 27 []),(3,bT 36 []),(10,.box [.x,.x,.x,.x]),(1007,.arr 97 1),(1008,.arr 3 1)]
abbrev Qmy:Nat×TO:=(1007,.arr 97 1)
abbrev Qmz:Nat×TO:=(1008,.arr 3 1)
abbrev QmA:List (Nat×TO):=[(2,bT 27 []),(3,bT 36 []),(1007,.arr 97 1),(1008,.arr 3 1)]
abbrev QmB:List (Nat×TA):=[(1,.l 1),(2,.ptr 2 0),(5,.arr 1005),(6,tI),(7,.ptr 7 0),(8,tI)]
abbrev QmC:Nat×TA:=(5,.arr 1005)
abbrev QmD:List (Nat×TA):=[(1,.l 1),(2,.ptr 2 0),(5,.arr 1005),(6,tI)]
abbrev QmE:List TA:=[.ci .i64 0,.ci .i64 0,.ci .i64 0]
abbrev QmF:List (Nat×TO):=[(4,.box [.ci .i64 0,.ci .i64 0,.ci .i64 0])]
abbrev QmG:Nat×TO:=(4,.box [.ci .i64 0,.ci .i64 0,.ci .i64 0])
abbrev QmH:List (Nat×TO):=[(1,bT 36 []),(1003,.arr 67 6)]
abbrev QmI:List TA:=[.ci .i64 0,.nil,.nil]
abbrev QmJ:Nat×TA:=(6,.l 1)
abbrev QmK:List (Nat×TO):=[(3,bT 36 []),(4,.box [.ci .i64 0,.nil,.nil])]
abbrev QmL:Nat×TO:=(4,.box [.ci .i64 0,.nil,.nil])
abbrev QmM:Nat×TA:=(10,.l 4)
abbrev QmN:Nat×TA:=(12,.ptr 12 0)
abbrev QmO:Nat×TO:=(4,.box [tI,.nil,.nil])
abbrev QmP:Nat×TO:=(1121,.arr 104 3)
abbrev QmQ:List TA:=[tI,.arr 1121,.arr 107]
abbrev QmR:Nat×TA:=(19,tI)
abbrev QmS:List (Nat×TO):=[(3,bT 36 []),(4,.box [tI,.nil,.nil]),(12,.box [tI,.arr 1121,.arr 107]),(107,.arr 67 6),(1121,.arr 104 3)]
abbrev QmT:Nat×TO:=(12,.box [tI,.arr 1121,.arr 107])
abbrev QmU:List TA:=[tI,.l 3,.l 6]
abbrev QmV:Nat×TO:=(1,.box [tI,.l 3,.l 6])
abbrev QmW:Nat×TA:=(0,.arr 1000000)
abbrev QmX:Nat×TO:=(16,.arr 3 1)
abbrev QmY:List (Nat×TO):=[(2,.box [tI,.l 3,.l 6])]
abbrev QmZ:Nat×TO:=(2,.box [tI,.l 3,.l 6])
abbrev Qn0:List (Nat×TA):=[(3,.arr 98003),(11,.arr 98011)]
abbrev Qn1:List (Nat×TA):=[(0,.ptr 1000000 0),(1,tI),(5,tI),(6,tI)]
abbrev Qn2:List (Nat×TO):=[(98003,.arr 4 1),(98011,.arr 3 1),(1000000,bT 119 [(3,.arr 98003),(11,.arr 98011)])]
abbrev Qn3:Nat×TO:=(1000000,bT 119 [(3,.arr 98003),(11,.arr 98011)])
abbrev Qn4:List (Nat×Sp):=[(3,eR 1000001 4 1),(11,eR 1000002 3 1)]
abbrev Qn5:List (Nat×TA):=[(12,.arr 98012),(13,.arr 98013),(14,.arr 98014),(15,.arr 98015),(17,.arr 98017),(18,.arr 98018)]
abbrev Qn6:List (Nat×TO):=[(98012,.arr 3 1),(98013,.arr 97 1),(98014,.arr 3 1),(98015,.arr 273 4),(98017,.arr 104 3),(98018,.arr 67 6),(1000000,bT 235 [(12,.arr 98012),(13,.arr 98013),(14,.arr 98014),(15,.arr 98015),(17,.arr 98017),(18,.arr 98018)])]
abbrev Qn7:Nat×TO:=(98012,.arr 3 1)
abbrev Qn8:Nat×TO:=(98015,.arr 273 4)
abbrev Qn9:Nat×TO:=(98017,.arr 104 3)
abbrev Qna:Nat×TO:=(98018,.arr 67 6)
abbrev Qnb:Nat×TO:=(1000000,bT 235 [(12,.arr 98012),(13,.arr 98013),(14,.arr 98014),(15,.arr 98015),(17,.arr 98017),(18,.arr 98018)])
abbrev Qnc:List (Nat×Sp):=[(12,eR 1000001 3 1),(15,eR 1000002 273 4),(17,eR 1000003 104 3),(18,eR 1000004 67 6)]
abbrev Qnd:List (Nat×TA):=[(12,.arr 98012),(15,.arr 98015),(17,.arr 98017),(18,.arr 98018)]
abbrev Qne:List (Nat×TO):=[(98012,.arr 3 1),(98015,.arr 273 4),(98017,.arr 104 3),(98018,.arr 67 6),(1000000,bT 235 [(12,.arr 98012),(15,.arr 98015),(17,.arr 98017),(18,.arr 98018)])]
abbrev Qnf:Nat×TO:=(1000000,bT 235 [(12,.arr 98012),(15,.arr 98015),(17,.arr 98017),(18,.arr 98018)])
abbrev Qng:List (Nat×TA):=[(12,.arr 98012),(17,.arr 98017),(18,.arr 98018)]
abbrev Qnh:List TA:=[.ptr 1000000 0]
abbrev Qni:Nat×TA:=(2,.fn 196 [.ptr 1000004 0,.ptr 1000005 0,.ptr 1000006 0])
abbrev Qnj:Nat×TO:=(4,bT 273 [])
abbrev Qnk:Nat×TO:=(1000000,bT 235 [(12,.arr 98012),(17,.arr 98017),(18,.arr 98018)])
abbrev Qnl:List (Nat×Sp):=[(12,eR 1000001 3 1),(17,eR 1000002 104 3),(18,eR 1000003 67 6)]
abbrev Qnm:List (Nat×TO):=[(98012,.arr 3 1),(98017,.arr 104 3),(98018,.arr 67 6),(1000000,bT 235 [(12,.arr 98012),(17,.arr 98017),(18,.arr 98018)])]
abbrev Qnn:List (Nat×TO):=[(1000000,.arr 312 2)]
abbrev Qno:Nat×TO:=(1000000,.arr 312 2)
abbrev Qnp:List (Nat×TO):=[(1000000,.arr 125 2)]
abbrev Qnq:Nat×TO:=(1000000,.arr 125 2)
abbrev Qnr:Nat×TA:=(9,.fn 117 [.ptr 8 0,.ptr 3 0,.ptr 1 0,.ptr 7 0])
abbrev Qns:List (Nat×Sp):=[(18,eR 1000001 3 1),(20,eR 1000002 59 5)]
abbrev Qnt:List (Nat×TA):=[(18,.arr 98018),(20,.arr 98020)]
abbrev Qnu:List (Nat×TO):=[(98018,.arr 3 1),(98020,.arr 59 5),(1000000,bT 188 [(18,.arr 98018),(20,.arr 98020)])]
abbrev Qnv:Nat×TO:=(98018,.arr 3 1)
abbrev Qnw:Nat×TO:=(98020,.arr 59 5)
abbrev Qnx:Nat×TO:=(1000000,bT 188 [(18,.arr 98018),(20,.arr 98020)])
abbrev Qny:List TA:=[.l 1,.b]
abbrev Qnz:Nat×TA:=(7,.fn 141 [.ptr 3 0,.ptr 4 0,.ptr 6 0])
abbrev QnA:Nat×TO:=(3,.box [.ptr 1000000 0])
abbrev QnB:Nat×TO:=(5,.box [.l 1,.b])
abbrev QnC:Nat×TO:=(3,.box [.l 1,.b])
abbrev QnD:List (Nat×TO):=[(1,bT 36 []),(12,.arr 4 1),(16,.arr 4 1)]
abbrev QnE:List (Nat×TA):=[(16,.arr 98016),(17,.arr 98017)]
abbrev QnF:Nat×TO:=(98016,.arr 59 5)
abbrev QnG:Nat×TO:=(98017,.arr 4 1)
abbrev QnH:Nat×TO:=(1000000,bT 133 [(16,.arr 98016),(17,.arr 98017)])
abbrev QnI:List (Nat×Sp):=[(16,eR 1000001 59 5),(17,eR 1000002 4 1)]
abbrev QnJ:List (Nat×TO):=[(3,.box [.l 1,.b]),(98016,.arr 59 5),(98017,.arr 4 1),(1000000,bT 133 [(16,.arr 98016),(17,.arr 98017)])]
abbrev QnK:List (Nat×TO):=[(5,.box [.l 1,.b]),(98016,.arr 59 5),(98017,.arr 4 1),(1000000,bT 133 [(16,.arr 98016),(17,.arr 98017)])]
abbrev QnL:Nat×TO:=(1000000,.box QkM)
abbrev QnM:Nat×TO:=(1000000,.box QkZ)
abbrev QnN:Nat×TO:=(14,.box Qlc)
abbrev QnO:List (Nat×TO):=[(14,.box Qlc),(1010,.arr 3 1),Qle,Ql5,Ql6,Ql7,Ql8,Ql9,Qla,(1000000,.box QkZ)]
abbrev QnP:List (Nat×TO):=[(4,.arr 156 1),(5,.arr 156 1),(98041,.arr 76 5),(98042,.arr 152 2),(98043,.arr 87 4),(98044,.arr 84 7),(98045,.arr 158 4),(98046,.arr 90 5),(98047,.arr 92 3),(1000000,.box QkZ),(1000001,.box Qlr)]
abbrev QnQ:Nat×TO:=(50013,.box QkZ)
abbrev QnR:Nat×TO:=(50015,.box Qlz)
abbrev QnS:Nat×TO:=(5,.box Qm3)
abbrev QnT:List (Nat×TO):=[Qm9,(3,.box Qmf)]
abbrev QnU:Nat×TO:=(3,.box Qmf)
abbrev QnV:List (Nat×TO):=[Qmp,QmO,(12,.box QmQ),(107,.arr 67 6),QmP]
abbrev QnW:List (Nat×TO):=[(98003,.arr 4 1),(98011,.arr 3 1),(1000000,bT 119 Qn0)]
abbrev QnX:List (Nat×TO):=[Qn7,(98013,.arr 97 1),(98014,.arr 3 1),Qn8,Qn9,Qna,(1000000,bT 235 Qn5)]
abbrev QnY:List (Nat×TO):=[Qn7,Qn8,Qn9,Qna,(1000000,bT 235 Qnd)]
abbrev QnZ:Nat×TO:=(1000000,bT 235 Qnd)
abbrev Qo0:Nat×TO:=(1000000,bT 235 Qng)
abbrev Qo1:List (Nat×TO):=[Qn7,Qn9,Qna,(1000000,bT 235 Qng)]
abbrev Qo2:Nat×TO:=(1000000,bT 188 Qnt)
abbrev Qo3:Nat×TO:=(5,.box Qny)
abbrev Qo4:Nat×TO:=(1000000,bT 133 QnE)
abbrev Qo5:List (Nat×TO):=[(3,.box Qny),QnF,QnG,(1000000,bT 133 QnE)]
abbrev Qo6:List (Nat×TO):=[(5,.box Qny),QnF,QnG,(1000000,bT 133 QnE)]
end Go.Vx
namespace Go.Vx
variable {R:Type} (n:Nat)
def T8 (n:Nat) (a b:Int) (K:Qkl R):oP R:=K (wJ (wJ (2*a)+b))
def Mb (n:Nat) (a0 a1:Int) (K:Qkx R):oP R:=Qc R (Ap 32) fun a=>K (IntKind.wrap .u32 (shR .u64 (IntKind.wrap .u64 (IntKind.wrap .u64 a0*IntKind.wrap .u64 a1)) 32)) (IntKind.wrap .u32 (IntKind.wrap .u64 (IntKind.wrap .u64 a0*IntKind.wrap .u64 a1)))
def Pg (n:Nat) (a0 a1:Int) (K:Qkx R):oP R:=Qc R (Ap 32) fun a=>Qc R (Ap 32) fun u2=>Qc R (Ap 32) fun u3=>Qc R (Ap 32) fun b=>Qc R (Ap 32) fun c=>K (IntKind.wrap .u64 (IntKind.wrap .u64 (IntKind.wrap .u64 (shR .u64 a0 32*shR .u64 a1 32)+shR .u64 (IntKind.wrap .u64 (IntKind.wrap .u64 (shR .u64 a0 32*Q7g .u64 a1 4294967295)+shR .u64 (IntKind.wrap .u64 (Q7g .u64 a0 4294967295*Q7g .u64 a1 4294967295)) 32)) 32)+shR .u64 (IntKind.wrap .u64 (Q7g .u64 (IntKind.wrap .u64 (IntKind.wrap .u64 (shR .u64 a0 32*Q7g .u64 a1 4294967295)+shR .u64 (IntKind.wrap .u64 (Q7g .u64 a0 4294967295*Q7g .u64 a1 4294967295)) 32)) 4294967295+IntKind.wrap .u64 (Q7g .u64 a0 4294967295*shR .u64 a1 32))) 32)) (IntKind.wrap .u64 (a0*a1))
def TV (a0 a1:Int) (K:Qkx R):oP R:=bif false then Qc R (Mb n (IntKind.wrap .u32 a0) (IntKind.wrap .u32 a1) Tu2) fun a=>K (IntKind.wrap .u64 a.1) (IntKind.wrap .u64 a.2) else Qc R (Pg n a0 a1 Tu2) fun c=>K c.1 c.2
end Go.Vx
set_option maxRecDepth 100000
namespace Go.Vx
open Go.Proofs
variable (n:Nat)
def Q6o:EZ9 21:=mkW (Xa [] []).ok nT 21 Tryz.f21 [sL 1] [eP 5 2,sL 1,sI] [] 0 0 @Q09 n
def AX:EZ9 10:=mkD (Xa [] []).ok nT 10 Tryz.f10 0 @SZ n
def UK:EZ9 23:=mkW (Xa [⟨10,AX n⟩] []).ok nT 23 Tryz.f23 [eP 1000000 2,sL 1,sI,sI] [sI] [] 0 2 @Qm n
def Mt:EZ9 53:=mkD (Xa [] []).ok nT 53 Tryz.f53 0 @J4 n
def Mx:EZ9 54:=mkW (Xa [⟨23,UK n⟩] []).ok nT 54 Tryz.f54 [eP 1000000 2,sL 1,sI,sT,sI] [eA [qT,qI,qI,qI,qI]] [] 0 32 @U6 n
def Me:EZ9 55:=mkW (Xa [] []).ok nT 55 Tryz.f55 [eP 1000000 7,eR 1000001 9 1,eR 1000002 9 1,eR 1000003 57 5,eR 1000004 193 6,eR 1000005 22 1,eR 1000006 22 1,eR 1000007 22 1,eA [qT,qI,qI,qI,qI]] [sI] [] 123 246 @ZA n
def KJ:EZ9 56:=mkW (Xa [] []).ok nT 56 Tryz.f56 [eP 1000000 7,eR 1000001 9 1,eR 1000002 9 1,eR 1000003 57 5,eR 1000004 193 6,eR 1000005 22 1,eR 1000006 22 1,eR 1000007 22 1,sI,sI,sI,sI] [eT 0] [] 119 119 @Yx n
def RE:EZ9 88:=mkW (Xa [⟨53,Mt n⟩] []).ok nT 88 Tryz.f88 [eP 1000000 7,eR 1000001 9 1,eR 1000002 9 1,eR 1000003 57 5,eR 1000004 193 6,eR 1000005 22 1,eR 1000006 22 1,eR 1000007 22 1] [sI] [] 125 250 @ZO n
def KI:BZ9:=Xa [⟨88,RE n⟩,⟨56,KJ n⟩] []
def NJ:LZ9:=mkU (KI n).ok nT 4 Tryz.f57 [QkN,QkO,(2,.l 1),(3,.b),QkP,QkQ,(17,tI)] [QkR,QkS,QkT,QkU,QkV,QkW,QkX,QnL] 39973 [xE 0 [(18,.b)]] @QO n
def M5:EZ9 57:=mkW (KI n).ok [NJ n n] 57 Tryz.f57 [eP 1000000 7,eR 1000001 9 1,eR 1000002 9 1,eR 1000003 57 5,eR 1000004 193 6,eR 1000005 22 1,eR 1000006 22 1,eR 1000007 22 1,sI,sL 1,sB] [eT 0] [] 117 117 @VN n
def KR:BZ9:=Xa [⟨23,UK n⟩,⟨53,Mt n⟩,⟨54,Mx n⟩,⟨55,Me n⟩,⟨56,KJ n⟩,⟨57,M5 n⟩] [(3,⟨[],[],[],[(14,0,501400,9,1),(14,1,501401,9,1),(14,2,501402,57,5),(14,3,501403,193,6),(14,4,501404,22,1),(14,5,501405,22,1),(14,6,501406,22,1)],[]⟩),(8,⟨[],[],[(6,1006,3,1)],[],[]⟩),(19,⟨[],[],[(10,1010,3,1)],[],[]⟩)]
def Q6s:LZ9:=mkU (KR n).ok nT 9 Tryz.f22 [QkN,Ql0,Ql1,Ql2,Ql3,Ql4] [(14,.box [.arr 32,.arr 501401,.arr 501402,.arr 501403,.arr 501404,.arr 501405,.arr 501406]),(32,.arr 9 1),(1006,.arr 3 1),Ql5,Ql6,Ql7,Ql8,Ql9,Qla,QnM] 1241670 [xE 2 [(40,.b)]] @Gn n
def Q6g:LZ9:=mkU (KR n).ok [Q6s n n] 4 Tryz.f22 [QkN,Ql0,Ql1,Ql2] [QnN,Qle,(501401,.arc 9 1),Ql6,(501403,.arc 193 6),Ql8,(501405,.arc 22 1),(501406,.arc 22 1),QnM] 1942 [xE 0 [(20,.b)]] @V6 n
def Q6a:LZ9:=mkU (KR n).ok nT 20 Tryz.f22 [QkN,Ql0,Ql1,Qlf,(10,.arr 1010),Qlg] QnO 1241562 [xE 6 [(80,.b)]] @Gl n
def Q5b:LZ9:=mkU (KR n).ok nT 24 Tryz.f22 [QkN,Ql0,Ql1,Qlf,(10,.arr 1010),Qli] QnO 4419 [xE 8 [(98,.b)]] @Re n
def Q5y:LZ9:=mkU (KR n).ok [Q6a n n,Q5b n n] 16 Tryz.f22 [QkN,Ql0,Ql1,Qlf] [QnN,Qle,Ql5,Ql6,Ql7,Ql8,Ql9,(501406,.arc 22 1),QnM] 51739 [xE 4 [(73,.b)]] @UV n
def Q86:EZ9 22:=mkW (KR n).ok [Q6g n n,Q5y n n] 22 Tryz.f22 [eP 1000000 2,sL 1,sI] [eP 14 7,eR 501400 9 1,eR 501401 9 1,eR 501402 57 5,eR 501403 193 6,eR 501404 22 1,eR 501405 22 1,eR 501406 22 1] [] 0 128 @Q2T n
def Vt (n:Nat):BZ9:=Xa [] []
def R0:LZ9:=mkU (Vt n).ok nT 6 Tryz.f58 [QkO,Qlk,Qll,(11,.l 1),(12,.arr 98004),(13,.ptr 13 0),(48,tI),(49,tI)] [(10,.box Qlj),(13,.box [.arr 45,.ci .i64 0]),(45,.arr 160 2),QkR,QkS,QkT,QkU,QkV,QkW,QkX,QnL] 684 [xE 0 [(50,.b)]] @ZX n
def Sz:LZ9:=mkU (Vt n).ok nT 14 Tryz.f58 [QkO,Qlm,Qll,(11,.l 1),(12,.arr 98004),(13,.ptr 13 0),Qln] [(10,.box Qlj),(13,.box [.arr 104,.ci .i64 0]),(104,.arr 160 2),QkR,QkS,QkT,QkU,QkV,QkW,QkX,QnL] 225 [xE 2 [(110,.b)]] @We n
def N6:EZ9 58:=mkW (Vt n).ok [R0 n n,Sz n n] 58 Tryz.f58 [eP 1000000 7,eR 1000001 9 1,eR 1000002 9 1,eR 1000003 57 5,eR 1000004 193 6,eR 1000005 22 1,eR 1000006 22 1,eR 1000007 22 1,sI,sI,sI,sB] [eO 2,eR 96001 160 2,sI] [] 79 508 @YS n
def VU:BZ9:=Xa [⟨53,Mt n⟩,⟨23,UK n⟩,⟨58,N6 n⟩] [(7,⟨[],[],[],[(10,3,1103,155,4)],[]⟩)]
def Ru:LZ9:=mkU (VU n).ok nT 3 Tryz.f24 [QkN,(1,.ptr 1000008 0),(2,.ptr 1000009 0),(3,.b),Ql1,Qll,(11,.ac 11 0 0),(25,tI)] [(10,.box [.t,.ci .i64 0,tI,.nil]),(11,.arr 149 1),QkR,QkS,QkT,QkU,QkV,QkW,QkX,(98361,.arr 76 5),(98362,.arr 152 2),(98363,.arr 87 4),(98364,.arr 84 7),(98365,.arr 158 4),(98366,.arr 90 5),(98367,.arr 92 3),QnL,(1000008,.box QkZ),(1000009,.box Qlo)] 24407491311 [xE 0 [(26,.b)]] @Wy n
def N3:LZ9:=mkU (VU n).ok nT 8 Tryz.f24 [QkN,(1,.ptr 1000008 0),(2,.ptr 1000009 0),(3,.b),Ql1,Qll,(11,.ac 11 0 0),Qlq] [(10,.box [.t,.ci .i64 0,tI,.arr 1103]),(11,.arr 149 1),(1103,.arr 155 4),QkR,QkS,QkT,QkU,QkV,QkW,QkX,(98361,.arr 76 5),(98362,.arr 152 2),(98363,.arr 87 4),(98364,.arr 84 7),(98365,.arr 158 4),(98366,.arr 90 5),(98367,.arr 92 3),QnL,(1000008,.box QkZ),(1000009,.box Qlo)] 73251880546 [xE 2 [(35,.b)]] @QR n
def NF:EZ9 24:=mkW (VU n).ok [Ru n n,N3 n n] 24 Tryz.f24 [eP 1000000 7,eR 1000001 9 1,eR 1000002 9 1,eR 1000003 57 5,eR 1000004 193 6,eR 1000005 22 1,eR 1000006 22 1,eR 1000007 22 1,eP 1000008 2,sL 1,sI,eP 1000009 8,sI,eR 1000010 76 5,eR 1000011 152 2,eR 1000012 87 4,eR 1000013 84 7,eR 1000014 158 4,eR 1000015 90 5,eR 1000016 92 3,sB,sI] [eT 0] [] 124495 124671 @Vg n
def AJ:EZ9 26:=mkD (Xa [] []).ok nT 26 Tryz.f26 0 @Mo n
def Cq:EZ9 27:=mkD (Xa [] []).ok nT 27 Tryz.f27 0 @SA n
def T7:BZ9:=Xa [⟨23,UK n⟩,⟨26,AJ n⟩,⟨27,Cq n⟩] []
def B7:LZ9:=mkU (T7 n).ok nT 5 Tryz.f25 [QkN,(1,.ptr 1000001 0),(4,.ac 4 0 0),(5,.ac 5 0 0),Qls,Qlq,Qlt,(21,tI),Qlu] QnP 79097176 [xE 2 [(23,.b)]] @YK n
def B9:LZ9:=mkU (T7 n).ok [B7 n n] 2 Tryz.f25 [QkN,(1,.ptr 1000001 0),(4,.ac 4 0 0),(5,.ac 5 0 0),Qlq,Qlt] QnP 2929525 [xE 0 [(15,.b)]] @Uv n
def BR:EZ9 25:=mkW (T7 n).ok [B9 n n] 25 Tryz.f25 [eP 1000000 2,sL 1,sI,eP 1000001 8,sI,eR 1000002 76 5,eR 1000003 152 2,eR 1000004 87 4,eR 1000005 84 7,eR 1000006 158 4,eR 1000007 90 5,eR 1000008 92 3] [eT 0] [] 0 893 @N2 n
def HC:BZ9:=Xa [⟨21,Q6o n⟩,⟨22,Q86 n⟩,⟨23,UK n⟩,⟨24,NF n⟩,⟨25,BR n⟩,⟨26,AJ n⟩,⟨27,Cq n⟩] [(4,⟨[],[],[],[(6,2,500602,152,2),(6,3,500603,87,4),(6,4,500604,84,7),(6,5,500605,158,4),(6,6,500606,90,5),(6,7,500607,92,3)],[]⟩)]
def Q3W:LZ9:=mkU (HC n).ok nT 5 Tryz.f6 [QlA,QlB,QlC,QlD,QlE,Ql4] [(2,.box Qlx),(3,.box Qly),(6,.box [tI,.arr 37,.arr 500602,.arr 500603,.arr 500604,.arr 500605,.arr 500606,.arr 500607]),(37,.arr 76 5),QnQ,QnR,QlJ,QlK,QlL,QlM,QlN,QlO,QlP,(500602,.arr 152 2),(500603,.arr 87 4),(500604,.arc 84 7),(500605,.arc 158 4),(500606,.arc 90 5),(500607,.arc 92 3)] 4330451 [xE 0 [(43,.b)]] @Gx n
def Q3w:LZ9:=mkU (HC n).ok nT 10 Tryz.f6 [QlA,QlB,QlC,QlD,QlE,QkP] [(2,.box Qlx),(3,.box Qly),(6,.box QlQ),QnQ,QnR,(50061,.arr 76 5),QlJ,QlS,QlK,QlT,QlL,QlU,QlM,QlV,QlN,(300061,.arc 90 5),QlO,(350061,.arc 92 3),QlP] 676661 [xE 2 [(71,.b)]] @Jr n
def Q4m:LZ9:=mkU (HC n).ok nT 22 Tryz.f6 QlX [(2,.box Qlx),(3,.box QlW),(6,.box [tI,.arr 50061,.arr 100061,.arr 150061,.arr 200061,.arr 250061,.arr 175,.arr 350061]),(175,.arr 90 5),QnQ,QnR,(50061,.arr 76 5),QlJ,QlS,QlK,QlT,QlL,QlU,QlM,QlV,QlN,QlO,(350061,.arr 92 3),QlP] 258283082 [xE 4 [(180,.b)]] @VF n
def Q4U:LZ9:=mkU (HC n).ok nT 22 Tryz.f6 QlX [(2,.box Qlx),(3,.box QlW),(6,.box QlQ),QnQ,QnR,(50061,.arr 76 5),QlJ,QlS,QlK,QlT,QlL,QlU,QlM,QlV,QlN,(300061,.arr 90 5),QlO,(350061,.arr 92 3),QlP] 258281246 [.f (.exit 4) [(2,.ptr 2 0),(3,.ptr 3 0),(4,.ptr 50013 0),(5,.ptr 50015 0),(6,.ptr 6 0),(10,tI),(180,.b)] [(2,.box Qlx),(3,.box QlW),(6,.box QlQ),(50013,.box QkZ),(50015,.box Qlz),(50061,.arr 76 5),(100015,.arr 9 1),(100061,.arr 152 2),(150015,.arr 9 1),(150061,.arr 87 4),(200015,.arr 57 5),(200061,.arr 84 7),(250015,.arr 193 6),(250061,.arr 158 4),(300015,.arr 22 1),(350015,.arr 22 1),(350061,.arr 92 3),(400015,.arr 22 1),(300061,.arr 90 5)] [0,0,2,3,4,0,6,7,8,9,10,11,12,13,14,15,17,0,19,16]] @HA n
def Q5a:EZ9 6:=mkD (HC n).ok [Q3W n n,Q3w n n,orL (Q4m n n) (Q4U n n)] 6 Tryz.f6 0 @SP n
def Q2l:EZ9 208:=mkD (Xa [] []).ok nT 208 Tryz.f208 0 @LV n
def Q4Q:EZ9 209:=mkD (Xa [] []).ok nT 209 Tryz.f209 0 @Q1u n
def Cf:BZ9:=Xa [⟨208,Q2l n⟩,⟨209,Q4Q n⟩] []
def Q4F:LZ9:=mkU (Cf n).ok nT 4 Tryz.f151 [(0,.t),Qlk] [] 7 [.f .ret [(2,.cb false)] [] [],xE 0 [(21,.b)]] @M4 n
def F5:EZ9 151:=mkD (Cf n).ok [Q4F n n] 151 Tryz.f151 0 @Mi n
def EE:BZ9:=Xa [⟨151,F5 n⟩] []
def Q28:LZ9:=mkU (EE n).ok nT 4 Tryz.f147 [(0,.l 1),QkO,Ql2] [] 22 [.f .ret [(4,.ci .i64 5)] [] [],xE 0 [(14,.b)]] @Rv n
def Q3k:EZ9 147:=mkD (EE n).ok [Q28 n n] 147 Tryz.f147 0 @ME n
def Tj (n:Nat):BZ9:=Xa [] [(2,⟨[],[],[(3,1003,9,1)],[],[]⟩)]
def Ld:LZ9:=mkU (Tj n).ok nT 3 Tryz.f148 [Qm0,Qm1,Ql1] [Qm2,(1003,.arr 9 1)] 515 [xE 0 [(9,.b)]] @Z9 n
def LD:EZ9 148:=mkD (Tj n).ok [Ld n n] 148 Tryz.f148 0 @Hh n
def Q3P:EZ9 149:=mkD (Xa [] []).ok nT 149 Tryz.f149 0 @KQ n
def Q1m:EZ9 206:=mkD (Xa [] []).ok nT 206 Tryz.f206 0 @Bj n
def Cc:BZ9:=Xa [⟨206,Q1m n⟩] []
def Q4s:LZ9:=mkU (Cc n).ok nT 4 Tryz.f207 [QkO,QlB,Qm4,Qm5,QkP,(9,.ptr 9 0),QlY] [Qm6,QnS,(7,.box [.x,.x,.x,.x,.x,.x]),(9,.box [.x,.x,.x,.x,.x,.x])] 10446013798 [xE 0 [(19,.b)]] @PN n
def Q5G:EZ9 207:=mkD (Cc n).ok [Q4s n n] 207 Tryz.f207 0 @BU n
def SE:BZ9:=Xa [⟨149,Q3P n⟩,⟨206,Q1m n⟩,⟨207,Q5G n⟩] []
def EY:LZ9:=mkU (SE n).ok nT 9 Tryz.f150 [QkO,QlA,Qm5,Qm8,Qlf] [Qm9,(7,.box Qm3),(8,.box Qm3)] 29410 [.f .ret [(4,.ci .i64 5)] [] [],xE 0 [(85,.b)]] @He n
def Cy:EZ9 150:=mkD (SE n).ok [EY n n] 150 Tryz.f150 0 @G9 n
def K2:BZ9:=Xa [⟨147,Q3k n⟩,⟨148,LD n⟩,⟨149,Q3P n⟩,⟨150,Cy n⟩] []
def Q2K:LZ9:=mkU (K2 n).ok nT 6 Tryz.f89 [Qm0,Qlk] [Qm2] 5 [.f .ret [(2,tI)] [] [0],xE 0 [(43,.b)]] @Rr n
def Q2t:LZ9:=mkU (K2 n).ok nT 12 Tryz.f89 [Qm0,Ql2] [Qm2] 11 [.f .ret [(2,tI)] [] [0],xE 2 [(57,.b)]] @Ry n
def Q2p:LZ9:=mkU (K2 n).ok nT 19 Tryz.f89 [Qm0,Qma,QkP] [Qm2] 97 [.f .ret [(2,tI)] [] [0],xE 4 [(73,.b)]] @JF n
def Q33:LZ9:=mkU (K2 n).ok nT 28 Tryz.f89 [Qm0,Qlg] [Qm2] 122 [.f .ret [(2,tI)] [] [0],xE 6 [(117,.b)]] @Jw n
def C8:EZ9 89:=mkD (K2 n).ok [Q2K n n,Q2t n n,Q2p n n,Q33 n n] 89 Tryz.f89 0 @Gu n
def C9 (n:Nat):BZ9:=Xa [] []
def Q4A:LZ9:=mkU (C9 n).ok nT 4 Tryz.f90 [Qm0,Qlk] [Qmb] 83 [.f .ret [(2,.cb true)] [] [],xE 0 [(48,.b)]] @GA n
def Q5Q:EZ9 90:=mkD (C9 n).ok [Q4A n n] 90 Tryz.f90 0 @Fv n
def P6:EZ9 63:=mkD (Xa [] []).ok nT 63 Tryz.f63 0 @Ja n
def EN:EZ9 98:=mkD (Xa [] []).ok nT 98 Tryz.f98 0 @T4 n
def H9:EZ9 152:=mkD (Xa [⟨98,EN n⟩] []).ok nT 152 Tryz.f152 0 @Yl n
def PS:BZ9:=Xa [⟨151,F5 n⟩,⟨152,H9 n⟩] []
def FV:LZ9:=mkU (PS n).ok nT 4 Tryz.f91 [QkO,QlA,Ql2] [Qmc] 34 [.f .ret [(4,.ci .i64 5)] [] [],xE 0 [(16,.b)]] @Kr n
def EZ:EZ9 91:=mkD (PS n).ok [FV n n] 91 Tryz.f91 0 @GY n
def Lx (n:Nat):BZ9:=Xa [] [(5,⟨[],[],[(6,1006,210,4)],[],[]⟩)]
def Q0q:LZ9:=mkU (Lx n).ok nT 6 Tryz.f156 [QlA,Qm4,Ql3,Ql4] [Qm9,QnS,(1006,.arr 210 4)] 5429 [xE 0 [(22,.b)]] @ZE n
def Q2I:EZ9 156:=mkD (Lx n).ok [Q0q n n] 156 Tryz.f156 0 @Ah n
def Lw:BZ9:=Xa [⟨156,Q2I n⟩] []
def Q0t:LZ9:=mkU (Lw n).ok nT 3 Tryz.f103 [Qm4,QlE,(8,.l 4),Qlf] [QnS,(6,.box Qmd)] 43 [.f .ret [(6,.ptr 6 0),(7,.cb true)] [(6,.box Qme)] [0,0,0,0],xE 0 [(16,.b)]] @Sb n
def E3:EZ9 103:=mkF (Lw n).ok [Q0t n n] 103 Tryz.f103 [eA [qL 1,qL 1,qL 5,qL 6],eA [qI,qI],eA [qI,qI]] [eT 2,eA [qX,qX,qX,qX],sB] 0 @Gi n
def UL:BZ9:=Xa [⟨89,C8 n⟩,⟨98,EN n⟩,⟨103,E3 n⟩] []
def Fi:LZ9:=mkU (UL n).ok nT 8 Tryz.f92 [QlA,QlB,Ql2] QnT 272 [.f .ret [(4,.ci .i64 4)] [] [],xE 0 [(39,.b)]] @Z4 n
def Fg:LZ9:=mkU (UL n).ok nT 16 Tryz.f92 [QlA,QlB,Qls,Ql4] QnT 736 [.f .ret [(4,.ci .i64 5)] [] [],xE 4 [(73,.b)]] @Ko n
def FG:LZ9:=mkU (UL n).ok [Fg n n] 13 Tryz.f92 [QlA,QlB,Qls] QnT 245 [.f .ret [(4,.ci .i64 5)] [] [],xE 2 [(68,.b)]] @Ji n
def FY:LZ9:=mkU (UL n).ok nT 21 Tryz.f92 [QlA,QlB,QkP] QnT 365 [.f .ret [(4,.ci .i64 11)] [] [],xE 6 [(93,.b)]] @YZ n
def Sm:EZ9 92:=mkD (UL n).ok [Fi n n,FG n n,FY n n] 92 Tryz.f92 0 @Jq n
def Rp:EZ9 153:=mkD (Xa [] []).ok nT 153 Tryz.f153 0 @KO n
def RD:BZ9:=Xa [⟨92,Sm n⟩] [(5,⟨[],[],[(8,1008,287,2)],[],[]⟩)]
def Q2q:LZ9:=mkU (RD n).ok nT 13 Tryz.f154 [QlA,QlB,Qmi,Qlf,Qll,Qlg,Qli] [Qm9,QnU,(10,.box [.x,.x,.x,.x,.x]),(1008,.arr 287 2)] 9802155 [xE 2 [(53,.b)]] @UG n
def Q2n:LZ9:=mkU (RD n).ok [Q2q n n] 6 Tryz.f154 [QlA,QlB,Qmi,Qlf] [Qm9,QnU,(1008,.arr 287 2)] 5375 [xE 0 [(26,.b)]] @UQ n
def C2:EZ9 154:=mkD (RD n).ok [Q2n n n] 154 Tryz.f154 0 @SD n
def DY:BZ9:=Xa [⟨154,C2 n⟩,⟨152,H9 n⟩] []
def Q3U:LZ9:=mkU (DY n).ok nT 7 Tryz.f97 [QlB,Qmk,Qm4,QlY] [Qm6,(4,.box Qmf),Qml] 7562 [.f .ret [(6,.ci .i64 12)] [] [],xE 0 [(31,.b)]] @GE n
def LP:EZ9 97:=mkD (DY n).ok [Q3U n n] 97 Tryz.f97 0 @R1 n
def PQ:EZ9 127:=mkD (Xa [] []).ok nT 127 Tryz.f127 0 @GB n
def RP:EZ9 130:=mkD (Xa [] []).ok nT 130 Tryz.f130 0 @Vp n
def KN:BZ9:=Xa [⟨151,F5 n⟩,⟨63,P6 n⟩,⟨153,Rp n⟩,⟨97,LP n⟩,⟨127,PQ n⟩,⟨130,RP n⟩] []
def Du:LZ9:=mkU (KN n).ok nT 5 Tryz.f93 [Qlm,QlB,Qmk,Qm5,QkP] [Qm6,(4,bT 36 []),(7,.box Qme)] 4802659 [.f .ret [(6,.ci .i64 5)] [] [],xE 0 [(24,.b)]] @U1 n
def DO:LZ9:=mkU (KN n).ok nT 14 Tryz.f93 [QlB,Qmk,Qm5,Qlf] [Qm6,(4,bT 36 []),(7,.box Qme)] 48626852 [.f .ret [(6,tI)] [] [0],xE 2 [(58,.b)]] @WP n
def Bb:EZ9 93:=mkD (KN n).ok [Du n n,DO n n] 93 Tryz.f93 0 @Hj n
def AS:EZ9 96:=mkD (Xa [⟨63,P6 n⟩] []).ok nT 96 Tryz.f96 0 @G0 n
def Hs:EZ9 62:=mkF (Xa [] []).ok nT 62 Tryz.f62 [eA [qI,qL 5,qL 2,qL 4,qL 7,qL 4,qL 5,qL 3],sI,sI] [eA [qX,qX]] 0 @Y1 n
def Ej:EZ9 94:=mkD (Xa [⟨96,AS n⟩,⟨153,Rp n⟩,⟨63,P6 n⟩,⟨62,Hs n⟩,⟨130,RP n⟩,⟨127,PQ n⟩] []).ok nT 94 Tryz.f94 0 @T9 n
def Ss:BZ9:=Xa [⟨63,P6 n⟩,⟨153,Rp n⟩,⟨62,Hs n⟩,⟨130,RP n⟩,⟨127,PQ n⟩] []
def Dj:LZ9:=mkU (Ss n).ok nT 5 Tryz.f95 [QkO,QlA,Qm4,Qls] [Qmc,(5,.box Qme)] 238390 [.f .ret [(4,.ci .i64 5)] [] [],xE 0 [(43,.b)]] @U2 n
def Cs:EZ9 95:=mkD (Ss n).ok [Dj n n] 95 Tryz.f95 0 @Ho n
def YR:BZ9:=Xa [⟨89,C8 n⟩,⟨90,Q5Q n⟩,⟨63,P6 n⟩,⟨91,EZ n⟩,⟨92,Sm n⟩,⟨93,Bb n⟩,⟨94,Ej n⟩,⟨95,Cs n⟩,⟨96,AS n⟩] []
def DF:LZ9:=mkU (YR n).ok nT 8 Tryz.f59 [QlA,QlB,Ql2] Qmo 797042 [.f .ret [(4,tI)] [] [0],xE 0 [(32,.b)]] @WX n
def EW:LZ9:=mkU (YR n).ok nT 14 Tryz.f59 [QlA,QlB,Ql4] Qmo 2309 [.f .ret [(4,tI)] [] [0],xE 2 [(45,.b)]] @WO n
def D0:LZ9:=mkU (YR n).ok nT 20 Tryz.f59 [QlA,QlB,Qlf] Qmo 797162 [.f .ret [(4,tI)] [] [0],xE 4 [(62,.b)]] @WT n
def DV:LZ9:=mkU (YR n).ok nT 26 Tryz.f59 [QlA,QlB,Qlg] Qmo 797162 [.f .ret [(4,tI)] [] [0],xE 6 [(76,.b)]] @Zy n
def D8:LZ9:=mkU (YR n).ok nT 32 Tryz.f59 [QlA,QlB,Qlq] Qmo 797042 [.f .ret [(4,tI)] [] [0],xE 8 [(94,.b)]] @Zs n
def Db:LZ9:=mkU (YR n).ok nT 38 Tryz.f59 [QlA,QlB,Qln] Qmo 797042 [.f .ret [(4,.ci .i64 4)] [] [],xE 10 [(107,.b)]] @Zo n
def Dd:LZ9:=mkU (YR n).ok nT 44 Tryz.f59 [QlA,QlB,(17,tI)] Qmo 531446 [.f .ret [(4,.ci .i64 4)] [] [],xE 12 [(158,.b)]] @Zu n
def B6:EZ9 59:=mkD (YR n).ok [DF n n,EW n n,D0 n n,DV n n,D8 n n,Db n n,Dd n n] 59 Tryz.f59 0 @UU n
def FZ (n:Nat):BZ9:=Xa [] []
def Q1Z:LZ9:=mkU (FZ n).ok nT 2 Tryz.f60 [QkO,QlA,Qmk,Qls] [Qmc,(4,.box Qmd)] 2194 [.f .ret [(4,.ptr 4 0),(5,.cb true)] [(4,.box Qme)] [0,0,0,0],xE 0 [(11,.b)]] @Jy n
def PJ:EZ9 60:=mkF (FZ n).ok [Q1Z n n] 60 Tryz.f60 [eA [qI,qL 5,qL 2,qL 4,qL 7,qL 4,qL 5,qL 3],sI] [eT 2,eA [qX,qX,qX,qX],sB] 223 @H5 n
def Q0c:BZ9:=Xa [⟨152,H9 n⟩,⟨98,EN n⟩] []
def Q5f:LZ9:=mkU (Q0c n).ok nT 6 Tryz.f245 [Qmq,QkO,Ql4] [] 19 [.f .ret [(6,.ci .i64 4)] [] [],xE 0 [(17,.b)]] @KP n
def Q89:EZ9 245:=mkD (Q0c n).ok [Q5f n n] 245 Tryz.f245 0 @Bi n
def EQ (n:Nat):BZ9:=Xa [] []
def Q1P:LZ9:=mkU (EQ n).ok nT 3 Tryz.f246 [Qmq,QkO,Ql4,QkP] [] 76 [xE 0 [(18,.b)]] @Jv n
def Q3B:EZ9 246:=mkD (EQ n).ok [Q1P n n] 246 Tryz.f246 0 @Sr n
def Q3K:EZ9 247:=mkD (Xa [] []).ok nT 247 Tryz.f247 0 @L0 n
def Q4b:EZ9 248:=mkD (Xa [] []).ok nT 248 Tryz.f248 0 @MW n
def C4 (n:Nat):BZ9:=Xa [] []
def Q4Z:LZ9:=mkU (C4 n).ok nT 4 Tryz.f249 [Qmr,Qlk,Ql1] [] 25 [xE 0 [(10,.b)]] @Jm n
def Q5c:EZ9 249:=mkD (C4 n).ok [Q4Z n n] 249 Tryz.f249 0 @My n
def JU:BZ9:=Xa [⟨245,Q89 n⟩,⟨246,Q3B n⟩,⟨247,Q3K n⟩,⟨248,Q4b n⟩,⟨249,Q5c n⟩] []
def Q0T:LZ9:=mkU (JU n).ok nT 7 Tryz.f210 [Qmq,QkO,Qm4,Qlf,(10,.arr 29),Qlg] Qms 49234 [xE 0 [(32,.b)]] @V5 n
def Q0p:LZ9:=mkU (JU n).ok nT 12 Tryz.f210 [Qmq,QkO,Qm4,Qlf,(10,.arr 29),Qlq] Qms 49234 [xE 2 [(57,.b)]] @Vb n
def Q0D:LZ9:=mkU (JU n).ok nT 16 Tryz.f210 [Qmq,QkO,Qm4,Qlf,(10,.arr 29),Qlt] Qms 49225 [xE 4 [(86,.b)]] @Ve n
def Q0v:LZ9:=mkU (JU n).ok nT 20 Tryz.f210 [Qlf,(10,.arr 29),Qln] [Qmt] 25 [xE 6 [(116,.b)]] @J3 n
def Q2F:EZ9 210:=mkD (JU n).ok [Q0T n n,Q0p n n,Q0D n n,Q0v n n] 210 Tryz.f210 0 @RH n
def LO:EZ9 100:=mkD (Xa [] []).ok nT 100 Tryz.f100 0 @JT n
def EG:BZ9:=Xa [⟨210,Q2F n⟩,⟨100,LO n⟩] []
def Q22:LZ9:=mkU (EG n).ok nT 6 Tryz.f155 [(8,.l 1),(10,.arr 24),Qlg] [(24,.arr 3 1)] 25 [xE 0 [(28,.b)]] @JB n
def Q4o:EZ9 155:=mkD (EG n).ok [Q22 n n] 155 Tryz.f155 0 @Sj n
def Mu:BZ9:=Xa [⟨97,LP n⟩,⟨154,C2 n⟩,⟨155,Q4o n⟩,⟨100,LO n⟩] [(7,⟨[],[],[(6,1006,3,1),(7,1007,3,1)],[],[]⟩)]
def Bx:LZ9:=mkU (Mu n).ok nT 8 Tryz.f99 [QlB,Qmk,Qm4,Ql3,Qmu,(14,.l 1),QkQ,(17,tI)] [Qm6,(4,.box Qmf),Qml,(1006,.arr 3 1),(1007,.arr 3 1)] 38331817 [xE 0 [(46,.b)]] @ZM n
def Q0f:EZ9 99:=mkD (Mu n).ok [Bx n n] 99 Tryz.f99 0 @PU n
def Q51:EZ9 101:=mkD (Xa [] []).ok nT 101 Tryz.f101 0 @J7 n
def FC:EZ9 102:=mkW (Xa [] []).ok nT 102 Tryz.f102 [eP 1000000 2,eR 1000001 4 1,eR 1000002 170 3,sI,sI,sI] [eT 0] [] 0 0 @Ze n
def Md:BZ9:=Xa [⟨97,LP n⟩,⟨98,EN n⟩,⟨99,Q0f n⟩,⟨100,LO n⟩,⟨101,Q51 n⟩,⟨102,FC n⟩,⟨103,E3 n⟩] [(31,⟨[],[],[(27,1027,170,3)],[],[]⟩)]
def Q42:LZ9:=mkU (Md n).ok nT 12 Tryz.f61 [Qlk,Ql1,Qm4,QlE,(14,.l 1),(15,.l 1),QkQ,Qmv,(19,.ptr 65 0),(20,tI),(21,tI),Qlu] [(5,bT 27 []),(6,.box Qmf),(61,.arr 4 1),(63,.arr 170 3),(65,.box [.arr 61,.arr 63])] 117191245 [xE 0 [(73,.b)]] @WG n
def Q4h:LZ9:=mkU (Md n).ok nT 32 Tryz.f61 [QkQ,Qmv,(19,.ptr 65 0),(27,.arr 1027),(28,tI)] [(61,.arr 4 1),(63,.arr 170 3),(65,.box [.arr 61,.arr 63]),(1027,.arr 170 3)] 615 [xE 3 [(173,.b)]] @VG n
def Q00:EZ9 61:=mkD (Md n).ok [Q42 n n,Q4h n n] 61 Tryz.f61 0 @Ks n
def Sg:BZ9:=Xa [⟨59,B6 n⟩,⟨60,PJ n⟩,⟨62,Hs n⟩,⟨61,Q00 n⟩] [(5,⟨[],[],[(7,1007,97,1),(8,1008,3,1)],[],[]⟩)]
def Q0A:LZ9:=mkU (Sg n).ok nT 10 Tryz.f28 [QlA,QlB,Qmu,Qmi,Qlf,Qll,Qlg] [Qm9,Qmp,(10,.box Qme),Qmy,Qmz] 3245244469 [xE 2 [(39,.b)]] @YX n
def Q0x:LZ9:=mkU (Sg n).ok [Q0A n n] 6 Tryz.f28 [QlA,QlB,Qmu,Qmi,Qlf] QmA 13551746 [xE 0 [(27,.b)]] @V9 n
def Q2X:EZ9 28:=mkD (Sg n).ok [Q0x n n] 28 Tryz.f28 0 @RJ n
def SF (n:Nat):BZ9:=Xa [] []
def Dn:LZ9:=mkU (SF n).ok nT 2 Tryz.f64 [(0,.l 3),Qlk] [] 7 [.f .ret [(2,.cb false)] [] [],xE 0 [(7,.b)]] @Zl n
def Nq:EZ9 64:=mkD (SF n).ok [Dn n n] 64 Tryz.f64 0 @G6 n
def FF:BZ9:=Xa [⟨63,P6 n⟩,⟨64,Nq n⟩] []
def Q1R:LZ9:=mkU (FF n).ok nT 4 Tryz.f29 [Qmr,(1,.l 3),Ql2] [] 22 [.f .ret [(4,.cb false)] [] [],xE 0 [(17,.b)]] @JJ n
def Q4P:EZ9 29:=mkD (FF n).ok [Q1R n n] 29 Tryz.f29 0 @L6 n
def Fx (n:Nat):BZ9:=Xa [] []
def Q39:LZ9:=mkU (Fx n).ok nT 3 Tryz.f65 [QkO,QlA,Ql2,Qls] [Qmc] 754 [xE 0 [(9,.b)]] @JN n
def Gv:EZ9 65:=mkD (Fx n).ok [Q39 n n] 65 Tryz.f65 247 @Z7 n
def S8:BZ9:=Xa [⟨65,Gv n⟩,⟨60,PJ n⟩] [(2,⟨[],[],[(5,1005,102,4)],[],[]⟩)]
def Q0S:LZ9:=mkU (S8 n).ok nT 7 Tryz.f30 QmB [Qmc,(7,.box Qme),(1005,.arr 102 4)] 33488095 [xE 2 [(29,.b)]] @WD n
def Q0r:LZ9:=mkU (S8 n).ok [Q0S n n] 3 Tryz.f30 QmD [Qmc,(1005,.arr 102 4)] 120535 [xE 0 [(17,.b)]] @UW n
def Q35:EZ9 30:=mkD (S8 n).ok [Q0r n n] 30 Tryz.f30 215 @Rl n
def P1 (n:Nat):BZ9:=Xa [] []
def LX:LZ9:=mkU (P1 n).ok nT 2 Tryz.f104 [(0,.l 3),QkO,Qmk,Qls] [(4,.box QmE)] 22 [.f .ret [(4,.ptr 4 0),(5,.cb true)] [(4,.box [.x,.x,.x])] [0,0,0],xE 0 [(10,.b)]] @Zk n
def En:EZ9 104:=mkF (P1 n).ok [LX n n] 104 Tryz.f104 [sL 3,sI] [eT 2,eA [qX,qX,qX],sB] 0 @J0 n
def Cr:EZ9 66:=mkF (Xa [⟨104,En n⟩] []).ok nT 66 Tryz.f66 [sL 1,eA [qI,qI,qI,qI],sI] [eT 3,eA [qX,qX,qX],eA [qX,qX,qX],sB] 16 @So n
def Lk:BZ9:=Xa [⟨66,Cr n⟩] []
def Q0o:LZ9:=mkU (Lk n).ok nT 2 Tryz.f31 [(0,.l 1),Qlm,Qmk,Ql4] [(4,bT 102 [])] 1102 [.f .ret [(6,.cb false)] [] [],xE 0 [(18,.b)]] @V7 n
def Q2H:EZ9 31:=mkD (Lk n).ok [Q0o n n] 31 Tryz.f31 0 @N1 n
def S4:BZ9:=Xa [⟨65,Gv n⟩] [(2,⟨[],[],[(5,1005,67,6)],[],[]⟩)]
def Q0V:LZ9:=mkU (S4 n).ok nT 7 Tryz.f32 QmB [Qmc,(7,.box Qme),(1005,.arr 67 6)] 35075857 [xE 2 [(27,.b)]] @V3 n
def Q0k:LZ9:=mkU (S4 n).ok [Q0V n n] 3 Tryz.f32 QmD [Qmc,(1005,.arr 67 6)] 118348 [xE 0 [(15,.b)]] @V0 n
def Q2U:EZ9 32:=mkW (S4 n).ok [Q0k n n] 32 Tryz.f32 [eA [qI,qL 5,qL 2,qL 4,qL 7,qL 4,qL 5,qL 3],sL 1] [eR 1005 67 6] [] 247 0 @Rh n
def Hm:BZ9:=Xa [⟨65,Gv n⟩] [(2,⟨[],[],[(3,1003,67,6)],[],[]⟩)]
def Q0P:LZ9:=mkU (Hm n).ok nT 3 Tryz.f33 [Qm0,Qm1,Ql1] QmH 39692 [xE 0 [(14,.b)]] @V1 n
def Q0Q:LZ9:=mkU (Hm n).ok nT 8 Tryz.f33 [Qm0,Qm1,Qls] QmH 40178 [xE 2 [(53,.b)]] @WB n
def Q0g:LZ9:=mkU (Hm n).ok nT 13 Tryz.f33 [Qm0,Qm1,QkP] QmH 41636 [xE 4 [(93,.b)]] @ZB n
def Q2G:EZ9 33:=mkD (Hm n).ok [Q0P n n,Q0Q n n,Q0g n n] 33 Tryz.f33 135 @RZ n
def Tf:BZ9:=Xa [⟨66,Cr n⟩] [(2,⟨[],[],[(9,1009,170,3)],[],[]⟩)]
def CE:LZ9:=mkU (Tf n).ok nT 7 Tryz.f35 [(0,.l 1),(1,.l 4),Qlm,Qlk,(9,.arr 1009),QlY,(11,.b),Qli] [(1009,.arr 170 3)] 2065 [xE 2 [(28,.b)]] @Zf n
def CD:LZ9:=mkU (Tf n).ok [CE n n] 3 Tryz.f35 [(0,.l 1),(1,.l 4),Qlm,Qlk,(9,.arr 1009),QlY] [(1009,.arr 170 3)] 688 [xE 0 [(22,.b)]] @Wi n
def BP:EZ9 35:=mkD (Tf n).ok [CD n n] 35 Tryz.f35 0 @K4 n
def Ck (n:Nat):BZ9:=Xa [] []
def Q4j:LZ9:=mkU (Ck n).ok nT 2 Tryz.f105 [(0,.l 3),QkO,Qmk,Qls] [(4,.box QmE)] 22 [.f .ret [(4,.ptr 4 0),(5,.cb true)] [(4,.box [.x,.x,.x])] [0,0,0],xE 0 [(10,.b)]] @UT n
def Q6k:EZ9 105:=mkF (Ck n).ok [Q4j n n] 105 Tryz.f105 [sL 3,sI] [eT 2,eA [qX,qX,qX],sB] 0 @AC n
def DW:EZ9 68:=mkD (Xa [] []).ok nT 68 Tryz.f68 0 @Ep n
def KV:BZ9:=Xa [⟨63,P6 n⟩,⟨64,Nq n⟩,⟨105,Q6k n⟩,⟨68,DW n⟩] []
def Dy:LZ9:=mkU (KV n).ok nT 13 Tryz.f67 [Qmr,(1,.l 3),(2,.l 3),(8,.arr 26),Qlf,Qll,Qli,Qlq] [(10,.box [.x,.x,.x]),(26,.arr 4 1)] 46525 [xE 2 [(70,.b)]] @Zv n
def D7:LZ9:=mkU (KV n).ok [Dy n n] 7 Tryz.f67 [Qmr,(1,.l 3),(2,.l 3),(8,.arr 26),Qlf] [(26,.arr 4 1)] 229 [xE 0 [(30,.b)]] @Yq n
def CR:EZ9 67:=mkD (KV n).ok [D7 n n] 67 Tryz.f67 0 @Hn n
def GM:BZ9:=Xa [⟨67,CR n⟩,⟨68,DW n⟩] [(13,⟨[],[],[(12,1012,112,2)],[],[]⟩)]
def Ad:LZ9:=mkU (GM n).ok nT 6 Tryz.f34 [Qmr,(8,.l 1),QlY,Qlg] [] 76 [xE 0 [(27,.b)]] @U4 n
def Ax:LZ9:=mkU (GM n).ok nT 18 Tryz.f34 [Qmr,(8,.l 1),(12,.arr 1012),Qlq,Qlt] [(1012,.arr 112 2)] 67 [xE 4 [(65,.b)]] @Ue n
def BZ:LZ9:=mkU (GM n).ok [Ax n n] 14 Tryz.f34 [Qmr,(8,.l 1),(12,.arr 1012),Qlq] [(1012,.arr 112 2)] 76 [xE 2 [(41,.b)]] @YD n
def Q0F:EZ9 34:=mkD (GM n).ok [Ad n n,BZ n n] 34 Tryz.f34 0 @HB n
def WC:BZ9:=Xa [⟨28,Q2X n⟩,⟨29,Q4P n⟩,⟨30,Q35 n⟩,⟨31,Q2H n⟩,⟨32,Q2U n⟩,⟨33,Q2G n⟩,⟨35,BP n⟩,⟨34,Q0F n⟩] [(18,⟨[],[],[],[(12,1,1121,104,3)],[]⟩),(21,⟨[],[],[],[(12,1,1121,104,3)],[]⟩)]
def Q0Y:LZ9:=mkU (WC n).ok nT 7 Tryz.f7 [QlB,Qmk,QmJ,Qma,Qlf] [Qmp,(4,.box QmI)] 46 [.f .ret [(4,.ptr 4 0),(5,.ci .i64 13)] [(4,.box QmI)] [],xE 0 [(39,.b)]] @Vc n
def Q0O:LZ9:=mkU (WC n).ok nT 13 Tryz.f7 [QlB,Qmk,QmJ,Qma,QmM,Qlg] [Qmp,(4,.box QmI)] 145 [.f .ret [(4,.ptr 4 0),(5,.ci .i64 13)] [(4,.box QmI)] [],xE 2 [(57,.b)]] @Vd n
def Q0j:LZ9:=mkU (WC n).ok nT 22 Tryz.f7 [QlB,Qmk,QmJ,Qma,QmM,QmN,Qlq,Qlt] [Qmp,QmO,(12,.box [tI,.arr 1121,.nil]),QmP] 28704564 [xE 6 [(88,.b)]] @J8 n
def Q0U:LZ9:=mkU (WC n).ok [Q0j n n] 19 Tryz.f7 [QlB,Qmk,QmJ,Qma,QmM,QmN,Qlq] [Qmp,(4,.box QmI),(12,.box [tI,.arr 1121,.nil]),QmP] 3190887 [xE 4 [(77,.b)]] @WF n
def Q0J:LZ9:=mkU (WC n).ok nT 36 Tryz.f7 [QlB,Qmk,QmJ,QmM,QmN,Qln,QkQ,(17,.l 2),QmR] QnV 86094045 [xE 12 [(145,.b)]] @V8 n
def Q0X:LZ9:=mkU (WC n).ok [Q0J n n] 30 Tryz.f7 [QlB,Qmk,QmJ,QmM,QmN,Qln,QkQ] QnV 9566086 [.f .ret [(4,.ptr 4 0),(5,.ci .i64 13)] [(4,.box QmI)] [],xE 10 [(120,.b)]] @J5 n
def Q0s:LZ9:=mkU (WC n).ok [Q0X n n] 27 Tryz.f7 [QlB,Qmk,QmJ,QmM,QmN,Qln] [Qmp,(4,.box QmI),(12,.box QmQ),(107,.arr 67 6),QmP] 1062931 [.f .ret [(4,.ptr 4 0),(5,.ci .i64 13)] [(4,.box QmI)] [],xE 8 [(112,.b)]] @V4 n
def EB:EZ9 7:=mkD (WC n).ok [Q0Y n n,Q0O n n,Q0U n n,Q0s n n] 7 Tryz.f7 0 @Gg n
def Q63:EZ9 36:=mkD (Xa [] []).ok nT 36 Tryz.f36 0 @AK n
def KX (n:Nat):BZ9:=Xa [] []
def DR:LZ9:=mkU (KX n).ok nT 10 Tryz.f43 [Qmr,Ql4,(21,.l 3),Qlu,(23,tI),(54,.l 1),(55,tI),(56,tI)] [] 5352 [.f .ret [(4,.cb false)] [] [],xE 2 [(57,.b)]] @WU n
def Dr:LZ9:=mkU (KX n).ok [DR n n] 4 Tryz.f43 [Qmr,(21,.l 3),Qlu,(23,tI)] [] 67 [.f .ret [(4,.cb false)] [] [],xE 0 [(24,.b)]] @WW n
def Ct:EZ9 43:=mkD (KX n).ok [Dr n n] 43 Tryz.f43 0 @Ht n
def K6 (n:Nat):BZ9:=Xa [] []
def RT:LZ9:=mkU (K6 n).ok nT 2 Tryz.f77 [(0,.l 1),QkO,Ql4,QkP] [] 67 [.f .ret [(4,tI)] [] [0],xE 0 [(9,.b)]] @Z5 n
def Nx:EZ9 77:=mkD (K6 n).ok [RT n n] 77 Tryz.f77 0 @Vj n
def Sd:EZ9 44:=mkD (Xa [⟨77,Nx n⟩] []).ok nT 44 Tryz.f44 0 @Ww n
def Na:EZ9 40:=mkD (Xa [] []).ok nT 40 Tryz.f40 0 @HE n
def Fk:EZ9 78:=mkD (Xa [⟨40,Na n⟩] []).ok nT 78 Tryz.f78 72 @Gc n
def Ni:BZ9:=Xa [⟨78,Fk n⟩] []
def CF:LZ9:=mkU (Ni n).ok nT 2 Tryz.f45 [Qmr,(1,.l 3),(2,.l 1),Qlk,Ql1,Qli,Qlq] [] 1822 [.f .ret [(10,.cb false)] [] [],xE 0 [(14,.b)]] @UE n
def An:EZ9 45:=mkD (Ni n).ok [CF n n] 45 Tryz.f45 0 @Tp n
def PV:BZ9:=Xa [⟨43,Ct n⟩,⟨44,Sd n⟩,⟨45,An n⟩] []
def FS:LZ9:=mkU (PV n).ok nT 4 Tryz.f13 [Qmr,(1,.l 3),(2,.l 1),(20,.l 1),(21,tI),Qlu] [] 607 [.f .ret [(6,.cb false)] [] [],xE 0 [(23,.b)]] @Wb n
def Ra:EZ9 13:=mkD (PV n).ok [FS n n] 13 Tryz.f13 0 @ZN n
def Q2f:EZ9 8:=mkD (Xa [⟨36,Q63 n⟩,⟨13,Ra n⟩] []).ok nT 8 Tryz.f8 0 @VY n
def Q1b:EZ9 87:=mkD (Xa [] []).ok nT 87 Tryz.f87 0 @TK n
def Lq:BZ9:=Xa [⟨87,Q1b n⟩] []
def Q0G:LZ9:=mkU (Lq n).ok nT 4 Tryz.f69 [Qm0,Qlk] [(1,.box QmU)] 41 [.f .ret [(2,.cb false)] [] [],xE 0 [(25,.b)]] @J6 n
def Rq:EZ9 69:=mkD (Lq n).ok [Q0G n n] 69 Tryz.f69 0 @UX n
def Q8B:EZ9 70:=mkD (Xa [] []).ok nT 70 Tryz.f70 0 @Q2j n
def SU (n:Nat):BZ9:=Xa [] []
def DH:LZ9:=mkU (SU n).ok nT 5 Tryz.f157 [QmW,Ql2,Qls,Qlu,(23,tI)] [(1000000,.arr 3 1)] 229 [xE 0 [(24,.b)]] @Zx n
def B3:EZ9 157:=Qax (mkW (SU n).ok [DH n n] 157 Tryz.f157 [eR 1000000 3 1,eA [qI,qI,qI,qI,qI,qI]] [sB] [(1,eK 1000000 3 1)] 0 0 @G5 n)
def U5:BZ9:=Xa [⟨69,Rq n⟩,⟨157,B3 n⟩] []
def F7:LZ9:=mkU (U5 n).ok nT 5 Tryz.f106 [Qm0,(3,.arr 16),Qmv,QmR] [(1,.box QmU),QmX] 493 [xE 0 [(20,.b)]] @Zz n
def LJ:LZ9:=mkU (U5 n).ok nT 10 Tryz.f106 [Qm0,(3,.arr 16),Ql2] [(1,.box QmU),QmX] 191 [xE 2 [(31,.b)]] @Zw n
def LA:LZ9:=mkU (U5 n).ok nT 20 Tryz.f106 [(3,.arr 16),(6,.arr 43),Ql4,QkP,Qlf,(45,tI),(46,tI)] [QmX,(43,.arr 3 1)] 1722 [xE 6 [(54,.b)]] @YN n
def Lz:LZ9:=mkU (U5 n).ok [LA n n] 16 Tryz.f106 [(3,.arr 16),(6,.arr 43),Ql4,(45,tI),(46,tI)] [QmX,(43,.arr 3 1)] 212 [xE 4 [(47,.b)]] @YO n
def FE:EZ9 106:=mkD (U5 n).ok [F7 n n,LJ n n,Lz n n] 106 Tryz.f106 0 @Gb n
def Ki:BZ9:=Xa [⟨106,FE n⟩] []
def Eo:LZ9:=mkU (Ki n).ok nT 8 Tryz.f71 [Qma,(8,.ptr 25 0),Qlf,QlY,(27,tI),(28,tI)] [(19,.arr 3 1),(23,.arr 4 1),(25,bT 119 [(3,.arr 23),(10,.nil),(11,.arr 19)])] 1480 [xE 2 [(39,.b)]] @Z6 n
def Ec:LZ9:=mkU (Ki n).ok [Eo n n] 4 Tryz.f71 [Qma,(8,.ptr 25 0),(27,tI),(28,tI)] [(19,.arr 3 1),(23,.arr 4 1),(25,.box [tI,.l 3,.l 6,.arr 23,tI,.ci .i64 0,.cb false,.b,.cb false,.ci .i64 0,.nil,.arr 19])] 184 [xE 0 [(29,.b)]] @ZW n
def D6:EZ9 71:=mkW (Ki n).ok [Ec n n] 71 Tryz.f71 [eA [qI,qL 3,qL 6],sI,sB] [eP 25 12,sI,sL 3,sL 6,eR 23 4 1,sI,sI,sB,sB,sB,sI,eN,eR 19 3 1] [] 0 0 @Kn n
def FR:BZ9:=Xa [⟨69,Rq n⟩,⟨87,Q1b n⟩] []
def Q25:LZ9:=mkU (FR n).ok nT 4 Tryz.f52 [(1,.l 1),QlA,Ql2] [(2,.box QmU)] 16 [.f .ret [(4,.cb false)] [] [],xE 0 [(20,.b)]] @JH n
def Ca:EZ9 52:=mkD (FR n).ok [Q25 n n] 52 Tryz.f52 0 @KS n
def Rf:EZ9 86:=mkD (Xa [⟨68,DW n⟩] []).ok nT 86 Tryz.f86 790 @Gr n
def Fq:BZ9:=Xa [⟨52,Ca n⟩,⟨86,Rf n⟩] []
def Q3a:LZ9:=mkU (Fq n).ok nT 5 Tryz.f107 [(1,.l 1),QlA,Qls,Ql4] [(2,.box QmU)] 295 [xE 0 [(16,.b)]] @Jz n
def Q4X:EZ9 107:=mkD (Fq n).ok [Q3a n n] 107 Tryz.f107 0 @L5 n
def Jh:BZ9:=Xa [⟨86,Rf n⟩] []
def Tt:LZ9:=mkU (Jh n).ok nT 3 Tryz.f108 Qn1 QnW 2536 [.f .ret [(4,.cb true)] [(98003,.arr 4 1),(98011,.arr 3 1),(1000000,bT 119 Qn0)] [4,5,6,7,8,9,10,11,12,13,14,15],xE 0 [(16,.b)]] @Xi n
def Pf:EZ9 108:=mkW (Jh n).ok [Tt n n] 108 Tryz.f108 (pT 1000000 119 Qn4 [sI]) [sB] [] 1146 8190 @ZG n
noncomputable abbrev Wx:List Sp:=(pT 1000000 119 Qn4 [sI])
abbrev Wv:List Sp:=[sB,eI 1000000 12,sI,sL 3,sL 6,eR 98003 4 1,sI,sI,sB,sB,sB,sI,sL 1,eR 98011 3 1,eG 1000001,eG 1000002]
noncomputable abbrev VW (n d:Nat):LF (lts Wx) (oP (HT (lts Wv))):=XF n d
def GG (n d:Nat) (ih:J9 Tryz.prog 72 (QfQ Wx Wv (VW n d))):BZ9:=Xa [⟨107,Q4X n⟩,⟨108,Pf n⟩,⟨72,⟨_,ih⟩⟩] [(5,⟨[],[],[],[],[98010]⟩),(1000000017,⟨[],[],[],[],[]⟩)]
def Sn (n d:Nat) (ih:J9 Tryz.prog 72 (QfQ Wx Wv (VW n d))):LZ9:=mkU (GG n d ih).ok nT 10 Tryz.f72 Qn1 QnW 14348902 [.f .ret [(4,.cb false)] [(98003,.arr 4 1),(98011,.arr 3 1),(1000000,bT 119 Qn0)] [0,0,0,0,0,0,0,0,0,0,0,0],xE 0 [(59,.b)]] (fun R n=>@Xw R n (XF n d)) n
theorem Vs (n:Nat):∀ d,J9 Tryz.prog 72 (QfQ Wx Wv (VW n d))
 | 0=>Qat Tryz.f72 _ _ _ (fun v r h=>nomatch (show none=some r from h)) (by intro v;kernel_rfl) (by kernel_rfl) (by kernel_rfl) (by kernel_rfl) (by kernel_rfl)
 | d+1=>Qes (GG n d (Vs n d)).ok [Sn n d (Vs n d) n] Tryz.f72 _ _ _ (by intro v;kernel_rfl) (by intro v;kernel_rfl) (by kernel_rfl) (by kernel_rfl) (by kernel_rfl) (by kernel_rfl) (by kernel_rfl) (by kernel_rfl)
def Rz:EZ9 72:=⟨_,Vs n n⟩
def Q5Y:EZ9 37:=mkX (Xa [⟨69,Rq n⟩,⟨70,Q8B n⟩,⟨71,D6 n⟩,⟨72,Rz n⟩] []).ok nT 37 Tryz.f37 [eA [qI,qL 3,qL 6],sI,sB] [eT 2,eU,sI] [eT 2,eP 50018 12,sI,sL 3,sL 6,eR 50020 4 1,sI,sI,sB,sB,sB,sI,sL 1,eR 100020 3 1,sI] 0 @Fl n
def B0:EZ9 9:=mkD (Xa [⟨37,Q5Y n⟩] []).ok nT 9 Tryz.f9 0 @Va n
def GW:EZ9 212:=mkD (Xa [] []).ok nT 212 Tryz.f212 0 @XC n
def B2:EZ9 214:=mkD (Xa [] []).ok nT 214 Tryz.f214 0 @S9 n
def AY:EZ9 215:=mkD (Xa [] []).ok nT 215 Tryz.f215 0 @E2 n
def ED:BZ9:=Xa [⟨214,B2 n⟩,⟨215,AY n⟩] []
def Q32:LZ9:=mkU (ED n).ok nT 4 Tryz.f159 [(0,.t),QmR,(20,tI)] [] 22 [.f .ret [(2,.cb false)] [] [],xE 0 [(21,.b)]] @Rj n
def PF:EZ9 159:=mkD (ED n).ok [Q32 n n] 159 Tryz.f159 0 @H7 n
def TR:EZ9 251:=mkD (Xa [] []).ok nT 251 Tryz.f251 0 @Fc n
def Nf:BZ9:=Xa [⟨251,TR n⟩] []
def CN:LZ9:=mkU (Nf n).ok nT 2 Tryz.f253 [Qmk,Qm4,(11,.l 6),Qli,Qlq] [(4,.box Qm3),QnS] 1102 [.f .ret [(6,.cb true)] [] [],xE 0 [(14,.b)]] @T2 n
def NZ:EZ9 253:=mkD (Nf n).ok [CN n n] 253 Tryz.f253 0 @Kf n
def Ey:EZ9 254:=mkD (Xa [] []).ok nT 254 Tryz.f254 0 @Gq n
def Tk:EZ9 250:=mkD (Xa [] []).ok nT 250 Tryz.f250 0 @YA n
def PE:EZ9 252:=mkD (Xa [] []).ok nT 252 Tryz.f252 0 @T8 n
def Ky:EZ9 161:=mkW (Xa [] []).ok nT 161 Tryz.f161 (eA [qT,qI,qI,qI,qI]::pT 1000000 76 [] []) [sB] [] 990 62 @VJ n
def XQ:BZ9:=Xa [⟨161,Ky n⟩] []
def Zi:LZ9:=mkU (XQ n).ok nT 2 Tryz.f216 [(0,.l 5),(1,.fn 161 [.ptr 1000000 0]),Ql4,QkP] [(1000000,bT 76 [])] 49 [.f .ret [(4,tI)] [(1000000,bT 76 [])] [0,4,5,6,7,8],xE 0 [(9,.b)]] @X1 n
def Zm:EZ9 216:=mkW (XQ n).ok [Zi n n] 216 Tryz.f216 (sL 5::eF 161 1::pT 1000000 76 [] []) [sI] [] 60 62 @Y0 n
def Zd:EZ9 160:=mkW (Xa [⟨216,Zm n⟩] []).ok nT 160 Tryz.f160 (sL 5::eF 161 1::pT 1000000 76 [] []) [sB] [] 60 62 @XP n
def T0:EZ9 162:=mkD (Xa [] []).ok nT 162 Tryz.f162 0 @UZ n
def Ph:BZ9:=Xa [⟨159,PF n⟩,⟨160,Zd n⟩,⟨162,T0 n⟩] []
def LC:LZ9:=mkU (Ph n).ok nT 2 Tryz.f110 [QlB,(8,.l 5),Qlf,QlY] [Qmp] 103 [.f .ret [(4,tI)] [] [0],xE 0 [(11,.b)]] @Gf n
def PH:EZ9 110:=mkD (Ph n).ok [LC n n] 110 Tryz.f110 0 @Uz n
def Q0L:EZ9 255:=mkD (Xa [] []).ok nT 255 Tryz.f255 0 @NQ n
def AU:EZ9 271:=mkD (Xa [] []).ok nT 271 Tryz.f271 0 @RR n
def CU:EZ9 272:=mkD (Xa [] []).ok nT 272 Tryz.f272 0 @Lr n
def Po:BZ9:=Xa [⟨271,AU n⟩,⟨272,CU n⟩] []
def LS:LZ9:=mkU (Po n).ok nT 3 Tryz.f256 [Qm8,(9,.ptr 9 0),(20,.l 6),(21,tI),Qlu] [(8,.box Qm3),(9,.box Qm3)] 1102 [.f .ret [(6,tI),(7,.cb true)] [] [0],xE 0 [(23,.b)]] @Gs n
def Er:EZ9 256:=mkD (Po n).ok [LS n n] 256 Tryz.f256 0 @Ga n
def KU:EZ9 165:=mkW (Xa [] []).ok nT 165 Tryz.f165 (eA [qT,qI,qI,qL 4]::pT 1000000 87 [] []) [sB] [] 238 30 @Wm n
def XX:BZ9:=Xa [⟨165,KU n⟩] []
def ZC:LZ9:=mkU (XX n).ok nT 2 Tryz.f218 [(0,.l 4),(1,.fn 165 [.ptr 1000000 0]),Ql4,QkP] [(1000000,bT 87 [])] 49 [.f .ret [(4,tI)] [(1000000,bT 87 [])] [0,4,5,6,7],xE 0 [(9,.b)]] @Qt n
def ZI:EZ9 218:=mkW (XX n).ok [ZC n n] 218 Tryz.f218 (sL 4::eF 165 1::pT 1000000 87 [] []) [sI] [] 28 30 @Xc n
def Zh:EZ9 164:=mkW (Xa [⟨218,ZI n⟩] []).ok nT 164 Tryz.f164 (sL 4::eF 165 1::pT 1000000 87 [] []) [sB] [] 28 30 @QH n
def Et:EZ9 166:=mkD (Xa [] []).ok nT 166 Tryz.f166 0 @P3 n
def N8:EZ9 169:=mkD (Xa [] []).ok nT 169 Tryz.f169 0 @KW n
def DM:EZ9 296:=mkD (Xa [] []).ok nT 296 Tryz.f296 0 @Mb n
def Dk:EZ9 297:=mkD (Xa [] []).ok nT 297 Tryz.f297 0 @Pg n
def NW:EZ9 291:=mkD (Xa [⟨296,DM n⟩,⟨297,Dk n⟩] []).ok nT 291 Tryz.f291 0 @TV n
def Tl:EZ9 269:=mkD (Xa [] []).ok nT 269 Tryz.f269 0 @UM n
def NV:EZ9 171:=mkD (Xa [] []).ok nT 171 Tryz.f171 0 @TZ n
def F1:EZ9 170:=mkD (Xa [] []).ok nT 170 Tryz.f170 0 @SH n
def Lo:EZ9 172:=mkD (Xa [] []).ok nT 172 Tryz.f172 0 @Gw n
def Lj:EZ9 168:=mkD (Xa [⟨172,Lo n⟩] []).ok nT 168 Tryz.f168 0 @UJ n
def Ti:BZ9:=Xa [⟨168,Lj n⟩,⟨169,N8 n⟩,⟨166,Et n⟩,⟨170,F1 n⟩,⟨171,NV n⟩] []
def L9:LZ9:=mkU (Ti n).ok nT 2 Tryz.f113 [QlA,QlB,(10,.l 7),Qlg,Qli] Qmo 7173625 [.f .ret [(4,tI)] [] [0],xE 0 [(13,.b)]] @Zb n
def Pk:EZ9 113:=mkD (Ti n).ok [L9 n n] 113 Tryz.f113 0 @WY n
def KZ:EZ9 174:=mkW (Xa [] []).ok nT 174 Tryz.f174 (eA [qI,qI,qI,qI]::pT 1000000 158 [] []) [sB] [] 204 30 @Wj n
def XZ:BZ9:=Xa [⟨174,KZ n⟩] []
def ZF:LZ9:=mkU (XZ n).ok nT 2 Tryz.f220 [(0,.l 4),(1,.fn 174 [.ptr 1000000 0]),Ql4,QkP] [(1000000,bT 158 [])] 130 [.f .ret [(4,tI)] [(1000000,bT 158 [])] [0,4,5,6,7],xE 0 [(9,.b)]] @Qu n
def ZJ:EZ9 220:=mkW (XZ n).ok [ZF n n] 220 Tryz.f220 (sL 4::eF 174 1::pT 1000000 158 [] []) [sI] [] 24 30 @Xd n
def Zj:EZ9 173:=mkW (Xa [⟨220,ZJ n⟩] []).ok nT 173 Tryz.f173 (sL 4::eF 174 1::pT 1000000 158 [] []) [sB] [] 24 30 @QF n
def PB:BZ9:=Xa [⟨172,Lo n⟩,⟨169,N8 n⟩,⟨173,Zj n⟩,⟨170,F1 n⟩,⟨171,NV n⟩] []
def E6:LZ9:=mkU (PB n).ok nT 2 Tryz.f114 [QlB,QmM,Qlg,Qli] [Qmp] 88582 [.f .ret [(4,tI)] [] [0],xE 0 [(13,.b)]] @Wg n
def SK:EZ9 114:=mkD (PB n).ok [E6 n n] 114 Tryz.f114 0 @Vy n
def PM:BZ9:=Xa [⟨168,Lj n⟩] []
def E8:LZ9:=mkU (PM n).ok nT 2 Tryz.f115 [QlB,(8,.l 5),Qlf,QlY] [Qmp] 88582 [.f .ret [(4,.ci .i64 4)] [] [],xE 0 [(11,.b)]] @ZT n
def SX:EZ9 115:=mkD (PM n).ok [E8 n n] 115 Tryz.f115 0 @Vo n
def Tg (n:Nat):BZ9:=Xa [] []
def Le:LZ9:=mkU (Tg n).ok nT 2 Tryz.f116 [QlA,(8,.l 3),Qlf,QlY] [Qm9] 49 [.f .ret [(4,.ci .i64 4)] [] [],xE 0 [(11,.b)]] @Za n
def P2:EZ9 116:=mkD (Tg n).ok [Le n n] 116 Tryz.f116 0 @WN n
def Zq (n:Nat):BZ9:=Xa [] []
def KM:LZ9:=mkU (Zq n).ok nT 5 Tryz.f133 [QkN,Qlm,(9,.l 4),QlY,Qlg,(34,tI),(35,tI)] QnX 118666 [xE 2 [(36,.b)]] @Xl n
def H4:LZ9:=mkU (Zq n).ok [KM n n] 1 Tryz.f133 [QkN,(9,.l 4),QlY,Qlg] QnX 4450 [xE 0 [(12,.b)]] @X3 n
def HK:EZ9 133:=mkW (Zq n).ok [H4 n n] 133 Tryz.f133 (pT 1000000 235 [(12,eR 1000001 3 1),(13,eR 1000002 97 1),(14,eR 1000003 3 1),(15,eR 1000004 273 4),(17,eR 1000005 104 3),(18,eR 1000006 67 6)] []) [eT 0] [] 388991 389119 @YT n
def Ml (n:Nat):BZ9:=Xa [] []
def AB:LZ9:=mkU (Ml n).ok nT 2 Tryz.f189 [QkO,(8,.l 4),Qlf,QlY] [] 67 [.f .ret [(4,tI)] [] [0],xE 0 [(11,.b)]] @Vv n
def Q0i:EZ9 189:=mkD (Ml n).ok [AB n n] 189 Tryz.f189 0 @Hy n
def Tm:BZ9:=Xa [⟨162,T0 n⟩] []
def Lb:LZ9:=mkU (Tm n).ok nT 6 Tryz.f288 [Qmq,QkO,(17,.l 2),Qmv,QmR] [] 198 [.f .ret [(6,.ci .i64 4)] [] [],xE 1 [(20,.b)]] @Z8 n
def F9:EZ9 288:=mkD (Tm n).ok [Lb n n] 288 Tryz.f288 0 @JG n
def R8 (n:Nat):BZ9:=Xa [] []
def Dz:LZ9:=mkU (R8 n).ok nT 3 Tryz.f293 [Ql4,(20,.l 2),(21,tI),Qlu] [] 68 [xE 0 [(23,.b)]] @U0 n
def CA:EZ9 293:=mkD (R8 n).ok [Dz n n] 293 Tryz.f293 0 @G8 n
def AL:EZ9 294:=mkD (Xa [] []).ok nT 294 Tryz.f294 0 @TL n
def AD:EZ9 295:=mkD (Xa [] []).ok nT 295 Tryz.f295 0 @Tn n
def Gk:BZ9:=Xa [⟨293,CA n⟩,⟨294,AL n⟩,⟨295,AD n⟩] []
def LR:LZ9:=mkU (Gk n).ok nT 5 Tryz.f289 [Qmq,QkO,Qm4,Ql4,(8,.arr 20),Qlf,QlY] [Qml,(20,.arr 3 1)] 147730 [xE 0 [(29,.b)]] @YM n
def Fa:LZ9:=mkU (Gk n).ok nT 12 Tryz.f289 [Qmq,QkO,Qm4,(8,.arr 20),Qlq] [Qml,(20,.arr 3 1)] 16411 [xE 2 [(68,.b)]] @Zr n
def E5:EZ9 289:=mkW (Gk n).ok [LR n n,Fa n n] 289 Tryz.f289 [sL 2,sI,eA [qT,qI,qI,qI,qI]] [eR 20 3 1] [] 0 0 @Ge n
def Eb (n:Nat):BZ9:=Xa [] []
def Q2s:LZ9:=mkU (Eb n).ok nT 3 Tryz.f290 [Qmr,Qlk,Ql1] [] 25 [xE 0 [(7,.b)]] @VT n
def Q4e:EZ9 290:=mkD (Eb n).ok [Q2s n n] 290 Tryz.f290 0 @SG n
def PK:BZ9:=Xa [⟨288,F9 n⟩,⟨289,E5 n⟩,⟨290,Q4e n⟩] []
def Em:LZ9:=mkU (PK n).ok nT 6 Tryz.f281 [(9,.arr 50022),(23,.arr 50022),(24,tI),(25,tI)] [(50022,.arr 3 1)] 25 [xE 0 [(26,.b)]] @Wc n
def DX:EZ9 281:=mkD (PK n).ok [Em n n] 281 Tryz.f281 0 @GR n
def MC:EZ9 145:=mkD (Xa [] []).ok nT 145 Tryz.f145 0 @Kq n
def SO:BZ9:=Xa [⟨281,DX n⟩,⟨145,MC n⟩] []
def D1:LZ9:=mkU (SO n).ok nT 6 Tryz.f268 [(8,.l 1),(10,.arr 26),Qlg] [(26,.arr 3 1)] 25 [xE 0 [(30,.b)]] @U3 n
def B1:EZ9 268:=mkD (SO n).ok [D1 n n] 268 Tryz.f268 0 @JV n
def EH:EZ9 239:=mkD (Xa [⟨145,MC n⟩] []).ok nT 239 Tryz.f239 0 @Gh n
def CO:EZ9 146:=mkD (Xa [] []).ok nT 146 Tryz.f146 0 @PW n
def Q03:EZ9 240:=mkD (Xa [⟨146,CO n⟩] []).ok nT 240 Tryz.f240 0 @VQ n
def F8:EZ9 241:=mkW (Xa [] []).ok nT 241 Tryz.f241 [eA [qL 1,qL 1,qL 5,qL 6]] [eR 10 170 3] [] 0 0 @JA n
def RC:EZ9 242:=Qax (mkW (Xa [] []).ok nT 242 Tryz.f242 [eR 1000000 170 3,sI,sI,sI] [eT 0] [(1,eK 1000000 170 3)] 0 0 @XH n)
def Q0z:EZ9 283:=mkD (Xa [] []).ok nT 283 Tryz.f283 0 @Mh n
def KK (n:Nat):BZ9:=Xa [] [(2,⟨[],[],[(3,1003,170,3)],[],[]⟩)]
def NC:LZ9:=mkU (KK n).ok nT 3 Tryz.f244 [Qm1,(6,.l 3),Ql4,QkP] [(1003,.arr 170 3)] 76 [xE 0 [(9,.b)]] @Ye n
def M9:EZ9 244:=mkW (KK n).ok [NC n n] 244 Tryz.f244 [sL 3] [eR 1003 170 3] [] 0 0 @VV n
def G3:EZ9 192:=mkW (Xa [] []).ok nT 192 Tryz.f192 (pT 1000000 235 Qnc [sI,sI]) [sI] [] 520191 1048574 @Y5 n
def TP:EZ9 191:=mkW (Xa [] []).ok nT 191 Tryz.f191 (pT 1000000 235 Qnc [sI,sI,sI,sI,sI]) [eT 0] [] 475135 491519 @Yt n
def PY:EZ9 193:=mkW (Xa [⟨192,G3 n⟩] []).ok nT 193 Tryz.f193 (pT 1000000 235 Qnc [sI]) [sI] [] 520063 1048574 @Wz n
def Yz:BZ9:=Xa [⟨192,G3 n⟩,⟨191,TP n⟩,⟨193,PY n⟩] []
def Hw:LZ9:=mkU (Yz n).ok nT 4 Tryz.f135 [QkN,Qlm,(13,.l 4),Qlt,Qln,(26,.l 4),(27,tI),(28,tI)] QnY 282429553573 [xE 2 [(29,.b)]] @Xx n
def HF:LZ9:=mkU (Yz n).ok [Hw n n] 1 Tryz.f135 [QkN,(13,.l 4),Qlt,Qln] QnY 3486784612 [xE 0 [(16,.b)]] @QP n
def HV:LZ9:=mkU (Yz n).ok nT 10 Tryz.f135 [QkN,(56,.l 4),(57,tI),(58,tI)] QnY 3491567581 [xE 4 [(59,.b)]] @Xv n
def T5:EZ9 135:=mkW (Yz n).ok [HF n n,HV n n] 135 Tryz.f135 (pT 1000000 235 Qnc []) [eT 0] [] 470399 491519 @YY n
def Nu (n:Nat):BZ9:=Xa [] []
def CG:LZ9:=mkU (Nu n).ok nT 3 Tryz.f234 [Qlk,(6,.l 3),Ql4,QkP] [] 68 [.f .ret [(2,.cb false)] [] [],xE 0 [(9,.b)]] @UA n
def NL:EZ9 234:=mkD (Nu n).ok [CG n n] 234 Tryz.f234 0 @JK n
def No:BZ9:=Xa [⟨234,NL n⟩] []
def CP:LZ9:=mkU (No n).ok nT 4 Tryz.f194 [Qmr,(18,.l 3),QmR,(20,tI)] [] 67 [.f .ret [(4,.cb false)] [] [],xE 0 [(21,.b)]] @UF n
def Az:EZ9 194:=mkD (No n).ok [CP n n] 194 Tryz.f194 0 @Tx n
def Jj:EZ9 196:=mkW (Xa [] []).ok nT 196 Tryz.f196 (eA [qI,qI,qI]::eA [qI,qI,qI]::pT 1000000 273 [] (eP 1000001 1::sB::eP 1000002 1::pT 1000003 235 [(12,eR 1000004 3 1),(17,eR 1000005 104 3),(18,eR 1000006 67 6)] [])) [eT 0] [] 1073707209 16777199 @Yr n
def Us:BZ9:=Xa [⟨196,Jj n⟩] []
def Pu:LZ9:=mkU (Us n).ok nT 5 Tryz.f195 [QkN,Qni,Qmk,Qm5,(17,.l 3),Qmv,QmR,(30,.l 3),(31,tI),(32,tI)] [Qnj,(7,.box [.x,.x,.x]),Qn7,Qn9,Qna,Qo0,(1000004,bT 273 []),(1000005,.box [.b]),(1000006,.box Qnh)] 366898000880223711 [xE 2 [(33,.b)]] @QY n
def Pp:LZ9:=mkU (Us n).ok [Pu n n] 2 Tryz.f195 [QkN,Qni,Qmk,(17,.l 3),Qmv,QmR] [Qnj,Qn7,Qn9,Qna,Qo0,(1000004,bT 273 []),(1000005,.box [.b]),(1000006,.box Qnh)] 503320819852066 [xE 0 [(20,.b)]] @XA n
def Sc:EZ9 195:=mkW (Us n).ok [Pp n n] 195 Tryz.f195 (pT 1000000 235 Qnl (eA [qI,qI,qI,qI]::eF 196 3::pT 1000004 273 [] [eP 1000005 1,sB,eP 1000006 1,eS 1000000])) [eT 0] [] 29876207 8388607 @Wr n
def Uh:BZ9:=Xa [⟨194,Az n⟩,⟨195,Sc n⟩] [(5,⟨[],[],[],[],[98015]⟩),(7,⟨[],[],[],[],[98015]⟩)]
def Pi:LZ9:=mkU (Uh n).ok nT 2 Tryz.f136 [Qm0,(11,.l 1),Qli,Qlq] [(1,.box Qnh),Qn7,Qn8,Qn9,Qna,QnZ] 177169 [.f .ret [(2,.cb false)] [(98012,.arr 3 1),(98017,.arr 104 3),(98018,.arr 67 6),(1000000,bT 235 Qng)] [4,6,7,8,9,10,11,12,13,14,15,16,17,18,19,20,21,5,22],xE 0 [(14,.b)]] @XU n
def Pl:LZ9:=mkU (Uh n).ok nT 8 Tryz.f136 [Qm0,(29,.l 4),(30,tI),(31,tI)] [(1,.box Qnh),Qn7,Qn9,Qna,Qo0] 387479560 [.f .ret [(2,.cb false)] [(98012,.arr 3 1),(98017,.arr 104 3),(98018,.arr 67 6),(1000000,bT 235 Qng)] [4,5,6,7,8,9,10,11,12,13,14,15,16,17,18,19,20,21,22],xE 2 [(32,.b)]] @Xr n
def Pq:EZ9 136:=mkW (Uh n).ok [Pi n n,Pl n n] 136 Tryz.f136 (pT 1000000 235 Qnc []) [sB] [(17,sL 4)] 483311 1048574 @Wd n
def G1:EZ9 192:=mkW (Xa [] []).ok nT 192 Tryz.f192 (pT 1000000 235 Qnl [sI,sI]) [sI] [] 520191 1048574 @Xg n
def Nl:EZ9 198:=mkD (Xa [] []).ok nT 198 Tryz.f198 0 @YG n
def CC:EZ9 199:=mkD (Xa [] []).ok nT 199 Tryz.f199 0 @V2 n
def GD:EZ9 197:=mkW (Xa [] []).ok nT 197 Tryz.f197 (pT 1000000 235 Qnl [sI,sI,sI,sI,sI,sI]) [eT 0] [] 262143 262143 @Xu n
def S5:EZ9 193:=mkW (Xa [⟨192,G1 n⟩] []).ok nT 193 Tryz.f193 (pT 1000000 235 Qnl [sI]) [sI] [] 520063 1048574 @VL n
def Xf:BZ9:=Xa [⟨192,G1 n⟩,⟨198,Nl n⟩,⟨199,CC n⟩,⟨197,GD n⟩,⟨193,S5 n⟩] []
def Kx:LZ9:=mkU (Xf n).ok nT 4 Tryz.f137 [QkN,Qlm,QlB,(20,.l 4),(21,tI),Qlu,(28,.l 4),(29,tI),(30,tI)] [(3,.box Qme),Qn7,Qn9,Qna,Qo0] 7625600931295 [xE 2 [(31,.b)]] @QK n
def KC:LZ9:=mkU (Xf n).ok [Kx n n] 1 Tryz.f137 [QkN,(20,.l 4),(21,tI),Qlu] Qo1 1162262002 [xE 0 [(23,.b)]] @QT n
def Kz:LZ9:=mkU (Xf n).ok nT 14 Tryz.f137 [QkN,(84,.l 7),(85,tI),(86,tI)] Qo1 535 [xE 4 [(87,.b)]] @QV n
def KF:LZ9:=mkU (Xf n).ok nT 20 Tryz.f137 [QkN,(119,.l 4),(120,tI),(121,tI)] Qo1 1594858 [xE 6 [(122,.b)]] @QU n
def KH:LZ9:=mkU (Xf n).ok nT 25 Tryz.f137 [QkN,(146,.l 5),(147,tI),(148,tI)] Qo1 535 [xE 8 [(149,.b)]] @QW n
def H3:EZ9 137:=mkW (Xf n).ok [KC n n,Kz n n,KF n n,KH n n] 137 Tryz.f137 (pT 1000000 235 Qnl []) [eT 0] [] 239743 262143 @YJ n
def UN:EZ9 235:=mkW (Xa [] []).ok nT 235 Tryz.f235 [eA [qI,qI,qI],eA [qI,qI,qI],eP 1000000 1,eM 1000001 277] [eT 0] [(2,eH 1000001)] 62 0 @XN n
def Uu:BZ9:=Xa [⟨235,UN n⟩] []
def Pr:LZ9:=mkU (Uu n).ok nT 5 Tryz.f195 [QkN,(2,.fn 235 [.ptr 1000004 0]),Qmk,Qm5,(17,.l 3),Qmv,QmR,(30,.l 3),(31,tI),(32,tI)] [Qnj,(7,.box [.x,.x,.x]),Qn7,Qn9,Qna,Qo0,(1000004,.box [.arr 1000005]),(1000005,.mp 277)] 3706040378478474 [xE 2 [(33,.b)]] @Xe n
def Pv:LZ9:=mkU (Uu n).ok [Pr n n] 2 Tryz.f195 [QkN,(2,.fn 235 [.ptr 1000004 0]),Qmk,(17,.l 3),Qmv,QmR] [Qnj,Qn7,Qn9,Qna,Qo0,(1000004,.box [.arr 1000005]),(1000005,.mp 277)] 5115112716613 [xE 0 [(20,.b)]] @XB n
def S3:EZ9 195:=mkW (Uu n).ok [Pv n n] 195 Tryz.f195 (pT 1000000 235 Qnl [eA [qI,qI,qI,qI],eF 235 1,eP 1000004 1,eM 1000005 277]) [eT 0] [(22,eH 1000005)] 4710399 524287 @Wt n
def U9:BZ9:=Xa [⟨195,S3 n⟩] []
def Gt:LZ9:=mkU (U9 n).ok nT 3 Tryz.f200 [QkN,QkO,Qlm,Qm5,(14,.l 4),Qln,QkQ] [(7,.box [.arr 10]),(10,.mp 277),Qn7,Qn9,Qna,Qo0] 10460353891 [xE 0 [(17,.b)]] @QL n
def GH:EZ9 200:=mkW (U9 n).ok [Gt n n] 200 Tryz.f200 (pT 1000000 235 Qnl [sI,sI]) [eM 10 277] [] 483327 1048574 @Yk n
def HN (n:Nat):BZ9:=Xa [] [(2,⟨[],[],[(5,1005,170,3)],[],[]⟩)]
def M3:LZ9:=mkU (HN n).ok nT 3 Tryz.f202 [(1,.arr 1000000),QmC,(8,.l 3),Qlf,QlY] [(1005,.arr 170 3),(1000000,.mp 277)] 157 [xE 0 [(11,.b)]] @Ym n
def Lc:EZ9 202:=Qax (mkW (HN n).ok [M3 n n] 202 Tryz.f202 [sL 3,eM 1000000 277] [eR 1005 170 3] [] 0 0 @UP n)
def Hi:EZ9 275:=mkD (Xa [] []).ok nT 275 Tryz.f275 0 @Vl n
def ND:EZ9 276:=mkW (Xa [] [(2,⟨[],[],[(8,96001,312,2)],[],[]⟩)]).ok nT 276 Tryz.f276 [eN,sI,sI,sI] [eR 96001 312 2] [] 0 0 @JR n
def Q0I:EZ9 264:=mkW (Xa [⟨275,Hi n⟩,⟨40,Na n⟩,⟨276,ND n⟩] [(2,⟨[],[],[(6,50016,312,2)],[],[]⟩)]).ok nT 264 Tryz.f264 [sI,sI,sI] [eT 2,eR 50016 312 2,sI] [] 0 0 @PA n
def Ng:BZ9:=Xa [⟨275,Hi n⟩] []
def Cw:LZ9:=mkU (Ng n).ok nT 5 Tryz.f266 [Qmr,Ql2,(11,.l 2),Qli,Qlq] [] 205 [.f .ret [(4,.cb false)] [] [],xE 0 [(14,.b)]] @UD n
def Mv:EZ9 266:=mkD (Ng n).ok [Cw n n] 266 Tryz.f266 0 @GV n
def Nd:BZ9:=Xa [⟨275,Hi n⟩,⟨266,Mv n⟩] []
def CT:LZ9:=mkU (Nd n).ok nT 4 Tryz.f277 [Qmr,(10,.l 1),Qlg,Qli] [] 67 [.f .ret [(4,.ci .i64 1)] [] [],xE 0 [(13,.b)]] @Uw n
def AQ:EZ9 277:=mkD (Nd n).ok [CT n n] 277 Tryz.f277 0 @TC n
def WZ:EZ9 287:=mkW (Xa [] [(6,⟨[],[],[(4,96001,312,2)],[],[]⟩)]).ok nT 287 Tryz.f287 [eN,sI] [eR 96001 312 2] [] 0 0 @QS n
def Xk:BZ9:=Xa [⟨287,WZ n⟩] []
def WQ:LZ9:=mkU (Xk n).ok nT 3 Tryz.f279 [(0,.l 1),Qlk,(9,.l 1),QlY,Qlg] [] 204 [xE 0 [(12,.b)]] @Qw n
def WS:LZ9:=mkU (Xk n).ok nT 11 Tryz.f279 [(6,.arr 50024),(25,.l 1),(26,tI),(27,tI)] [(50024,.arr 312 2)] 76 [xE 2 [(28,.b)]] @Qx n
def Ui:EZ9 279:=mkW (Xk n).ok [WQ n n,WS n n] 279 Tryz.f279 [sL 1] [eR 50024 312 2] [] 0 0 @QZ n
def D4:EZ9 187:=mkD (Xa [] []).ok nT 187 Tryz.f187 0 @Mz n
def DT:EZ9 188:=mkD (Xa [] []).ok nT 188 Tryz.f188 0 @NX n
def NN:EZ9 132:=mkD (Xa [⟨187,D4 n⟩,⟨188,DT n⟩] []).ok nT 132 Tryz.f132 0 @To n
def BQ:EZ9 176:=mkD (Xa [] []).ok nT 176 Tryz.f176 0 @Kb n
def SQ:EZ9 120:=mkD (Xa [⟨176,BQ n⟩] []).ok nT 120 Tryz.f120 0 @Ju n
def Ps:EZ9 286:=mkD (Xa [⟨120,SQ n⟩] []).ok nT 286 Tryz.f286 0 @Vm n
def Xo:BZ9:=Xa [⟨286,Ps n⟩] []
def Ud:LZ9:=mkU (Xo n).ok nT 4 Tryz.f298 [QmW,QkO,Qlm,(3,.fn 286 []),QkP,Qlf] Qnn 217 [xE 2 [(34,.b)]] @Qy n
def U7:LZ9:=mkU (Xo n).ok [Ud n n] 1 Tryz.f298 [QmW,QkO,Qlm,(3,.fn 286 []),QkP] Qnn 76 [xE 0 [(14,.b)]] @Qo n
def Uq:EZ9 298:=Qax (mkW (Xo n).ok [U7 n n] 298 Tryz.f298 [eR 1000000 312 2,sI,sI,eF 286 0] [eT 0] [(1,eK 1000000 312 2)] 0 0 @XE n)
def YQ:BZ9:=Xa [⟨298,Uq n⟩] []
def Vq:LZ9:=mkU (YQ n).ok nT 2 Tryz.f292 [QmW,QkO,Qlm,Qlk,(4,.fn 286 []),(10,.cb true),(11,.cb true)] Qnn 40 [.f .ret [] [(1000000,.arr 312 2)] [0]] @XW n
def VD:EZ9 292:=Qax (mkW (YQ n).ok [Vq n n] 292 Tryz.f292 [eR 1000000 312 2,sI,sI,sI,eF 286 0] [eT 0] [(1,eK 1000000 312 2)] 0 0 @Y6 n)
def ZQ:EZ9 285:=Qax (mkW (Xa [⟨132,NN n⟩,⟨292,VD n⟩] []).ok nT 285 Tryz.f285 [eR 1000000 312 2,eF 286 0] [eT 0] [(1,eK 1000000 312 2)] 0 0 @QM n)
def Pa:BZ9:=Xa [⟨285,ZQ n⟩] [(3,⟨[],[],[(3,1003,312,2)],[],[]⟩)]
def LM:LZ9:=mkU (Pa n).ok nT 4 Tryz.f278 [Qm1,(9,.arr 1000000),QlY,Qlg] [(1003,.arr 312 2),Qno] 52 [xE 0 [(12,.b)]] @Xp n
def Eu:EZ9 278:=Qax (mkW (Pa n).ok [LM n n] 278 Tryz.f278 [eR 1000000 312 2] [eR 1003 312 2] [(1,eK 1000000 312 2)] 0 0 @Tb n)
def Af:EZ9 265:=mkW (Xa [⟨277,AQ n⟩,⟨279,Ui n⟩,⟨278,Eu n⟩] [(3,⟨[],[],[(6,50021,312,2)],[],[]⟩)]).ok nT 265 Tryz.f265 [sI,sL 2,sL 2] [eT 2,eR 50021 312 2,sI] [] 0 0 @TM n
def GL:EZ9 263:=mkW (Xa [⟨264,Q0I n⟩,⟨265,Af n⟩] []).ok nT 263 Tryz.f263 [eA [qI,qI,qI],eA [qI,qI,qI],eP 1000000 1,sI,eP 1000001 1,eR 1000002 312 2] [eT 0] [] 9 1 @Zt n
def Th:BZ9:=Xa [⟨263,GL n⟩] []
def La:LZ9:=mkU (Th n).ok nT 0 Tryz.f262 [(0,.l 3),(1,.l 3),(2,.fn 263 [.ptr 1000000 0,.ptr 1000001 0])] [(98040,.arr 312 2),(1000000,.box [tI]),(1000001,.box [.arr 98040])] 53 [xE 0 [(15,.b)]] @QI n
def LI:EZ9 262:=mkW (Th n).ok [La n n] 262 Tryz.f262 [sL 3,sL 3,eF 263 2,eP 1000000 1,sI,eP 1000001 1,eR 1000002 312 2] [eT 0] [] 0 1 @Hg n
def LU:EZ9 236:=mkW (Xa [⟨234,NL n⟩,⟨262,LI n⟩] [(3,⟨[],[],[(6,50024,312,2)],[],[]⟩),(6,⟨[],[],[(6,50024,312,2)],[],[]⟩),(7,⟨[],[],[],[(8,0,2320,312,2)],[]⟩)]).ok nT 236 Tryz.f236 [sI,sL 3,sL 3] [eT 2,eR 50024 312 2,sI] [] 0 0 @JI n
def B5:EZ9 280:=mkD (Xa [] []).ok nT 280 Tryz.f280 0 @Sa n
def Nn:BZ9:=Xa [⟨280,B5 n⟩] []
def CB:LZ9:=mkU (Nn n).ok nT 3 Tryz.f267 [Qlk,(6,.l 2),Ql4,QkP] [] 68 [xE 0 [(9,.b)]] @Wk n
def AW:EZ9 267:=mkD (Nn n).ok [CB n n] 267 Tryz.f267 0 @Rt n
def A5:EZ9 237:=mkD (Xa [⟨266,Mv n⟩,⟨267,AW n⟩] []).ok nT 237 Tryz.f237 0 @TU n
def Kp:BZ9:=Xa [⟨236,LU n⟩,⟨237,A5 n⟩] [(8,⟨[],[],[],[],[50018]⟩),(11,⟨[],[],[(11,1011,112,2)],[],[]⟩)]
def E9:LZ9:=mkU (Kp n).ok nT 12 Tryz.f201 [Qmr,(11,.arr 1011),(65,.l 2),(66,tI),(67,tI)] [(1011,.arr 112 2)] 229 [xE 0 [(68,.b)]] @ZS n
def Fy:LZ9:=mkU (Kp n).ok nT 12 Tryz.f201 [Qmr,(11,.arr 1011),(65,.arr 50018),(66,tI),(67,tI)] [(1011,.arr 112 2),(50018,.arr 312 2)] 157 [xE 0 [(68,.b)]] @Z1 n
def Dq:EZ9 201:=mkD (Kp n).ok [orL (Fy n n) (E9 n n)] 201 Tryz.f201 0 @Uc n
def Yf:BZ9:=Xa [⟨200,GH n⟩,⟨202,Lc n⟩,⟨201,Dq n⟩,⟨198,Nl n⟩,⟨197,GD n⟩] []
def Ku:LZ9:=mkU (Yf n).ok nT 12 Tryz.f138 [QkN,Qlk,Ql1,Qlt,Qln,(63,.l 2),(64,tI),(65,tI)] Qo1 41152 [xE 4 [(66,.b)]] @QQ n
def Kg:LZ9:=mkU (Yf n).ok [Ku n n] 5 Tryz.f138 [QkN,Qlk,Ql1,Qlt,Qln] Qo1 11622793282 [.f .ret [(2,tI)] [(98012,.arr 3 1),(98017,.arr 104 3),(98018,.arr 67 6),(1000000,bT 235 Qng)] [0,5,6,0,8,9,10,11,12,13,14,15,16,17,18,19,20,21,22,23],xE 2 [(26,.b)]] @X7 n
def K9:LZ9:=mkU (Yf n).ok [Kg n n] 2 Tryz.f138 [QkN,Qlt,Qln] Qo1 1291421482 [.f .ret [(2,tI)] [(98012,.arr 3 1),(98017,.arr 104 3),(98018,.arr 67 6),(1000000,bT 235 Qng)] [0,3,4,0,6,7,8,9,10,11,12,13,14,15,16,17,18,19,20,21],xE 0 [(16,.b)]] @QJ n
def KG:EZ9 138:=mkW (Yf n).ok [K9 n n] 138 Tryz.f138 (pT 1000000 235 Qnl []) [sI] [] 221167 524286 @YB n
def Dh:EZ9 203:=mkD (Xa [] []).ok nT 203 Tryz.f203 0 @GO n
def Ns:BZ9:=Xa [⟨203,Dh n⟩] []
def CZ:LZ9:=mkU (Ns n).ok nT 4 Tryz.f139 [Qm0,(26,.l 6),(27,tI),(28,tI)] [(1,.box QmU)] 373 [.f .ret [(2,.cb false)] [] [],xE 0 [(29,.b)]] @UC n
def BW:EZ9 139:=mkD (Ns n).ok [CZ n n] 139 Tryz.f139 0 @TX n
def Mw:BZ9:=Xa [⟨139,BW n⟩] []
def Aj:LZ9:=mkU (Mw n).ok nT 4 Tryz.f82 [QlA,(18,.l 1),QmR,(20,tI)] [(2,.box QmU)] 49 [.f .ret [(4,.cb false)] [] [],xE 0 [(21,.b)]] @VA n
def Q0n:EZ9 82:=mkD (Mw n).ok [Aj n n] 82 Tryz.f82 0 @Gy n
def GJ (n:Nat):BZ9:=Xa [] []
def Ez:LZ9:=mkU (GJ n).ok nT 3 Tryz.f83 [Qm0,(3,.arr 10),Qli,Qlq] [Qmb,(10,.arr 3 1)] 118105 [xE 0 [(14,.b)]] @Kj n
def Ea:LZ9:=mkU (GJ n).ok nT 8 Tryz.f83 [(3,.arr 10),(21,.l 4),Qlu,(23,tI)] [(10,.arr 3 1)] 76 [xE 2 [(24,.b)]] @GT n
def SS:EZ9 83:=mkD (GJ n).ok [Ez n n,Ea n n] 83 Tryz.f83 215 @ZL n
def WL (n:Nat):BZ9:=Xa [] [(1,⟨[],[],[],[(8,0,1080,3,1)],[]⟩)]
def JX:LZ9:=mkU (WL n).ok nT 2 Tryz.f117 [(2,.ptr 1000000 0),(3,.ptr 1000002 0),(4,.ptr 1000003 0),(5,.ptr 1000004 0),Qm8,Qlf] [(8,.box [.arr 1080,.b]),(1080,.arr 3 1),(98000,.arr 4 1),(98160,.arr 125 2),(1000000,.box [.arr 98000]),(1000002,.box [.l 1]),(1000003,bT 36 []),(1000004,.box [.arr 98160])] 177464 [xE 0 [(17,.b)]] @XY n
def Gj:EZ9 117:=mkW (WL n).ok [JX n n] 117 Tryz.f117 (sI::sB::eP 1000000 1::eR 1000001 4 1::eP 1000002 1::sL 1::pT 1000003 36 [] [eP 1000004 1,eR 1000005 125 2]) [eT 0] [] 3568 1022 @Z2 n
def KD:EZ9 119:=mkD (Xa [⟨120,SQ n⟩] []).ok nT 119 Tryz.f119 0 @VI n
def X8:BZ9:=Xa [⟨119,KD n⟩] []
def Wn:LZ9:=mkU (X8 n).ok nT 4 Tryz.f221 [QmW,QkO,Qlm,(3,.fn 119 []),QkP,Qlf] Qnp 217 [xE 2 [(34,.b)]] @X9 n
def Wl:LZ9:=mkU (X8 n).ok [Wn n n] 1 Tryz.f221 [QmW,QkO,Qlm,(3,.fn 119 []),QkP] Qnp 76 [xE 0 [(14,.b)]] @Xb n
def Wq:EZ9 221:=Qax (mkW (X8 n).ok [Wl n n] 221 Tryz.f221 [eR 1000000 125 2,sI,sI,eF 119 0] [eT 0] [(1,eK 1000000 125 2)] 0 0 @Yi n)
def Yu:BZ9:=Xa [⟨221,Wq n⟩] []
def Ut:LZ9:=mkU (Yu n).ok nT 2 Tryz.f175 [QmW,QkO,Qlm,Qlk,(4,.fn 119 []),(10,.cb true),(11,.cb true)] Qnp 40 [.f .ret [] [(1000000,.arr 125 2)] [0]] @Yv n
def US:EZ9 175:=Qax (mkW (Yu n).ok [Ut n n] 175 Tryz.f175 [eR 1000000 125 2,sI,sI,sI,eF 119 0] [eT 0] [(1,eK 1000000 125 2)] 0 0 @YL n)
def YV:EZ9 118:=Qax (mkW (Xa [⟨132,NN n⟩,⟨175,US n⟩] []).ok nT 118 Tryz.f118 [eR 1000000 125 2,eF 119 0] [eT 0] [(1,eK 1000000 125 2)] 0 0 @XI n)
def Uo:BZ9:=Xa [⟨83,SS n⟩,⟨117,Gj n⟩,⟨118,YV n⟩] [(11,⟨[],[],[],[(7,0,1070,125,2)],[]⟩),(14,⟨[],[],[],[(7,0,2280,125,2)],[]⟩)]
def Nz:LZ9:=mkU (Uo n).ok nT 4 Tryz.f74 [Qm0,QlB,(4,.arr 17),(19,.l 4),(20,tI),(21,tI)] [Qmb,(3,.box [.l 1]),(17,.arr 4 1)] 1062904 [xE 0 [(22,.b)]] @Jd n
def Ny:LZ9:=mkU (Uo n).ok nT 12 Tryz.f74 [Qm0,(4,.arr 17),Qm5,Qm8,Qnr,(37,tI),(38,tI)] [Qmb,(3,.box [.l 1]),(7,.box [.arr 1070]),(8,.box [.arr 33]),(17,.arr 4 1),(33,.arr 4 1),(1070,.arr 125 2)] 4489918 [xE 2 [(39,.b)]] @Un n
def NE:LZ9:=mkU (Uo n).ok nT 18 Tryz.f74 [Qm5,Qm8,Qnr,(52,tI),(53,tI)] [Qmb,(3,.box [.l 1]),(7,.box [.arr 1070]),(8,.box [.arr 33]),(33,.arr 4 1),(1070,.arr 125 2)] 1478419 [xE 4 [(54,.b)]] @Um n
def HI:EZ9 74:=mkD (Uo n).ok [Nz n n,Ny n n,NE n n] 74 Tryz.f74 215 @Xq n
def VE:EZ9 205:=mkW (Xa [⟨40,Na n⟩] []).ok nT 205 Tryz.f205 (pT 1000000 188 Qns [sI]) [sI] [] 2043903 4194302 @XL n
def Jl:EZ9 144:=mkW (Xa [⟨205,VE n⟩] []).ok nT 144 Tryz.f144 (pT 1000000 188 Qns [sI,sI]) [eT 2,sI,sB] [] 1126015 8388604 @Xj n
def JW:EZ9 143:=mkW (Xa [⟨205,VE n⟩] []).ok nT 143 Tryz.f143 (pT 1000000 188 Qns [sI,sI]) [sI] [] 1781759 4194302 @XG n
def Ua:BZ9:=Xa [⟨144,Jl n⟩,⟨143,JW n⟩] []
def P4:LZ9:=mkU (Ua n).ok nT 8 Tryz.f140 [QkN,Ql2,Ql4,(15,.l 1),QkQ,(17,tI),(30,tI),(31,tI)] [Qnv,Qnw,Qo2] 10554668572604 [xE 2 [(32,.b)]] @XV n
def P5:LZ9:=mkU (Ua n).ok [P4 n n] 5 Tryz.f140 [QkN,Ql2,(15,.l 1),QkQ,(17,tI)] [Qnv,Qnw,Qo2] 390913650842 [xE 0 [(18,.b)]] @Xn n
def Pw:EZ9 140:=mkW (Ua n).ok [P5 n n] 140 Tryz.f140 (pT 1000000 188 Qns [eA [qL 1,qB]]) [sI] [] 1126015 4194302 @Wf n
def Jc:EZ9 141:=mkW (Xa [] []).ok nT 141 Tryz.f141 (sI::sI::sI::eP 1000000 1::pT 1000001 188 [(18,eR 1000002 3 1),(20,eR 1000003 59 5)] [eP 1000004 1,sI,eP 1000005 1,sI]) [eT 0] [] 8388600 7340031 @Qs n
def PI (n:Nat):BZ9:=Xa [] [(2,⟨[],[],[(7,1007,3,1)],[],[]⟩)]
def El:LZ9:=mkU (PI n).ok nT 3 Tryz.f41 [QkO,Qlm,Qmu,(11,.l 5),Qli,Qlq] [(1007,.arr 3 1)] 688 [xE 0 [(14,.b)]] @Z3 n
def Dv:EZ9 41:=mkD (PI n).ok [El n n] 41 Tryz.f41 11 @K5 n
def Cd (n:Nat):BZ9:=Xa [] []
def Q48:LZ9:=mkU (Cd n).ok nT 2 Tryz.f121 [QkO,QlA,Ql2] [Qmc] 2194 [.f .ret [(4,.cb true)] [] [],xE 0 [(10,.b)]] @NY n
def Q5U:EZ9 121:=mkD (Cd n).ok [Q48 n n] 121 Tryz.f121 223 @Q3s n
def R9:BZ9:=Xa [⟨60,PJ n⟩] []
def EX:LZ9:=mkU (R9 n).ok nT 3 Tryz.f123 [QkO,QlA,Qmk,Qm4,Qls] [Qmc,(4,.box [.nil,.cb false]),(5,.box [.arr 10,.cb false]),(10,.arr 3 1)] 120292 [.f .ret [(4,.ptr 4 0)] [(4,.box [.arr 10,.b]),(10,.arr 3 1)] [0,0]] @KT n
def CL:EZ9 123:=mkD (R9 n).ok [EX n n] 123 Tryz.f123 223 @Hk n
def Nb (n:Nat):BZ9:=Xa [] []
def B4:LZ9:=mkU (Nb n).ok nT 2 Tryz.f122 [QmW,QlB,Ql4,QkP] [(3,.box Qny),(1000000,.arr 4 1)] 178 [xE 0 [(9,.b)]] @T1 n
def BM:EZ9 122:=Qax (mkW (Nb n).ok [B4 n n] 122 Tryz.f122 [eR 1000000 4 1,eA [qL 1,qB]] [eT 0] [(1,eK 1000000 4 1)] 0 0 @RG n)
def K3:BZ9:=Xa [⟨121,Q5U n⟩,⟨123,CL n⟩,⟨122,BM n⟩] [(18,⟨[],[],[(7,1007,125,2)],[],[]⟩)]
def A0:LZ9:=mkU (K3 n).ok nT 4 Tryz.f75 [Qm0,(3,.arr 12),(4,.arr 16),Qmv,QmR] QnD 474586 [xE 0 [(20,.b)]] @GK n
def Aa:LZ9:=mkU (K3 n).ok nT 11 Tryz.f75 [Qm0,(3,.arr 12),(4,.arr 16),(36,tI),(37,tI)] QnD 474586 [xE 2 [(38,.b)]] @Kt n
def Ao:LZ9:=mkU (K3 n).ok nT 19 Tryz.f75 [Qm0,(3,.arr 12),Qmu,(55,tI),(56,tI)] [Qmb,(12,.arr 4 1),(1007,.arr 125 2)] 415537 [xE 4 [(57,.b)]] @K8 n
def Q0M:EZ9 75:=mkD (K3 n).ok [A0 n n,Aa n n,Ao n n] 75 Tryz.f75 215 @Js n
def G2:BZ9:=Xa [⟨86,Rf n⟩] []
def PX:LZ9:=mkU (G2 n).ok nT 2 Tryz.f177 [QkN,QkO,Qlm,Qlk,Qlf] [QnF,QnG,Qo4] 14334558160 [.f .ret [(8,tI)] [(98016,.arr 59 5),(98017,.arr 4 1),(1000000,bT 133 QnE)] [0,5,6,7,8,9,10,11,12,13,14,15,16,17,18,19,20,21,22],xE 0 [(18,.b)]] @Yb n
def GC:EZ9 177:=mkW (G2 n).ok [PX n n] 177 Tryz.f177 (pT 1000000 133 QnI [sI,sI,sI]) [sI] [] 208895 524286 @YC n
def HG:EZ9 128:=mkW (Xa [⟨65,Gv n⟩,⟨177,GC n⟩,⟨60,PJ n⟩] []).ok nT 128 Tryz.f128 (pT 1000000 133 QnI [sI,sI]) [eT 2,sI,sB] [] 208255 1048572 @YP n
def HU:EZ9 129:=mkW (Xa [⟨65,Gv n⟩,⟨177,GC n⟩] []).ok nT 129 Tryz.f129 (pT 1000000 133 QnI [sI,sI]) [sI] [] 208767 524286 @XK n
def VO:BZ9:=Xa [⟨128,HG n⟩,⟨129,HU n⟩] []
def Rw:LZ9:=mkU (VO n).ok nT 8 Tryz.f124 [QkN,QlB,Ql2,Qls,Qln,QkQ,(32,tI),(33,tI)] Qo5 1162390608464 [xE 2 [(34,.b)]] @Yp n
def Ri:LZ9:=mkU (VO n).ok [Rw n n] 5 Tryz.f124 [QkN,QlB,Ql2,Qln,QkQ] Qo5 43051504019 [xE 0 [(17,.b)]] @Y2 n
def Nw:EZ9 124:=mkW (VO n).ok [Ri n n] 124 Tryz.f124 (pT 1000000 133 QnI [eA [qL 1,qB]]) [sI] [] 208255 524286 @Vh n
def Q2e:EZ9 125:=mkD (Xa [⟨61,Q00 n⟩] []).ok nT 125 Tryz.f125 0 @N0 n
def Mj:EZ9 126:=mkW (Xa [] []).ok nT 126 Tryz.f126 (pT 1000000 133 QnI [eA [qI,qI,qI,qI,qI],sB]) [eT 0] [] 65535 65535 @Xt n
def ZY:BZ9:=Xa [⟨124,Nw n⟩,⟨65,Gv n⟩,⟨62,Hs n⟩,⟨125,Q2e n⟩,⟨127,PQ n⟩,⟨126,Mj n⟩,⟨128,HG n⟩,⟨129,HU n⟩,⟨130,RP n⟩] []
def SB:LZ9:=mkU (ZY n).ok nT 15 Tryz.f76 [QkN,QkO,Qm4,Qls,Ql4,QkP,Qlf,QlY,(11,.ptr 11 0),(13,.l 3),Qlt,(41,tI),(42,tI),(59,tI),(60,tI),(118,tI),(119,tI)] [Qo3,(11,.box [.x,.x]),QnF,QnG,Qo4] 3103084741 [xE 4 [(120,.b)]] @Xy n
def ST:LZ9:=mkU (ZY n).ok [SB n n] 8 Tryz.f76 [QkN,QkO,Qm4,Qls,Ql4,QkP,Qlf,(41,tI),(42,tI),(59,tI),(60,tI)] Qo6 31773323548615 [xE 2 [(61,.b)]] @QA n
def Su:LZ9:=mkU (ZY n).ok [ST n n] 4 Tryz.f76 [QkN,QkO,Qm4,Qls,Ql4,(41,tI),(42,tI)] Qo6 392263253950 [xE 0 [(43,.b)]] @Yj n
def RU:EZ9 76:=mkW (ZY n).ok [Su n n] 76 Tryz.f76 (pT 1000000 133 QnI [sI,eA [qL 1,qB]]) [eT 0] [] 8192 65535 @UR n
def Eg:BZ9:=Xa [⟨7,EB n⟩,⟨52,Ca n⟩,⟨75,Q0M n⟩,⟨76,RU n⟩] [(8,⟨[],[],[],[(31,16,503116,59,5),(31,17,503117,4,1)],[]⟩)]
def Q2Q:LZ9:=mkU (Eg n).ok nT 9 Tryz.f42 [(10,.ptr 31 0),(11,.l 2),(35,tI),(36,tI)] [(31,bT 133 [(16,.arr 503116),(17,.arr 503117)]),(503116,.arr 59 5),(503117,.arr 4 1)] 9836175757 [xE 0 [(37,.b)]] @Ws n
def Q4G:EZ9 42:=mkX (Eg n).ok [Q2Q n n] 42 Tryz.f42 [eA [qL 1,qL 1,qL 5,qL 6],eA [qI,qL 5,qL 2,qL 4,qL 7,qL 4,qL 5,qL 3],sL 1] [eT 2,eU,sI] [eT 2,eP 31 18,sL 1,sL 1,sL 5,sL 6,sI,sL 5,sL 2,sL 4,sL 7,sL 4,sL 5,sL 3,sI,sL 3,sL 6,sL 1,eR 503116 59 5,eR 503117 4 1,sI] 0 @MU n
def Mk:BZ9:=Xa [⟨42,Q4G n⟩] [(5,⟨[],[],[(10,1010,59,5)],[],[]⟩)]
def AF:LZ9:=mkU (Mk n).ok nT 6 Tryz.f12 [(8,.ptr 50016 0),(10,.arr 1010),(26,tI),(27,tI)] [(1010,.arr 59 5),(50016,bT 133 [(16,.arr 100016),(17,.arr 150016)]),(100016,.arr 59 5),(150016,.arr 4 1)] 4649045893 [xE 0 [(28,.b)]] @Z0 n
def Q0l:EZ9 12:=mkD (Mk n).ok [AF n n] 12 Tryz.f12 0 @Hx n
end Go.Vx
namespace Go.Vx
section
variable {R:Type}
theorem Q4C (x:Int):0<=IntKind.wrap .u64 x:=by
 have:=Int.emod_nonneg x (show (18446744073709551616:Int)≠0 by decide);simpa [IntKind.wrap,IntKind.bits,IntKind.signed] using this
theorem Qc7 {x:Int} (a:0<=x) (b:x<18446744073709551616):IntKind.wrap .u64 x=x:=by
 have:=Int.emod_eq_of_lt a b;simpa [IntKind.wrap,IntKind.bits,IntKind.signed] using this
def pick (v m:Int):Int:=(IntKind.wrap .u64 v).tmod m
theorem L4 (v:Int) {m:Int} (h:0<m):0<=pick v m/\pick v m<m:=by
 unfold pick;rw [Int.tmod_eq_emod_of_nonneg (Q4C v)];exact ⟨Int.emod_nonneg _ Q0,Int.emod_lt_of_pos _ h⟩
theorem Qg1 (n:Nat) (v:Int) {m:Int} (h:0<m) (hm:m<=9223372036854775807) (K:Int->oP R):SZ n v m K=K (pick v m):=by
 unfold SZ;rw [Qc7 (x:=m) Q0 Q0,EC Q0];simp -implicitDefEqProofs only [Qh];have:=L4 v h;unfold pick at this ⊢;rw [Q5t Q0 Q0]
theorem QbX (n:Nat) {l:List Int} (hl:l.length<=9223372036854775807) {i:Nat} (hi:i<=l.length) {m:Int} (h:0<m) (hm:m<=9223372036854775807) :
  ∃ (v:Int) (j:Nat),0<=v/\v<m/\j<=l.length/\∀ (R:Type) (K:Int->Int->oP R),Qm n (encI l) i m K=K v j:=by
 by_cases ac:i<l.length
 ·have hg:=List.getElem?_eq_getElem ac;refine ⟨pick l[i] m,i+1,(L4 _ h).1,(L4 _ h).2,Q0,fun R K=>?_⟩;unfold Qm;rw [Qr (by simp [X4];omega),Q5t (x:=(i:Int)+1) Q0 Q0,Q5t Q0 Q0];rw [show (i:Int)+1-1=(i:Int) by omega,JD hg];simp -implicitDefEqProofs only [Qh,List.getElem?_cons_zero,Qj,Qg1 n _ h hm];rfl
 ·refine ⟨0,i,Q0,h,hi,fun R K=>?_⟩;unfold Qm;rw [Xh (by simp [X4];omega)]
end
def OkP {R:Type} (P:R->Prop) (E:oP R):Prop:=∃ v,E=some v/\P v
instance {R:Type}:Membership (oP R) (R->Prop):=⟨fun P E=>OkP P E⟩
theorem okI {R:Type} {P:R->Prop} {v:R} (h:P v):some v∈P:=⟨v,rfl,h⟩
theorem okB {R S:Type} {P:S->Prop} {E:oP R} {z:R} {f:R->oP S} (h:E∈(fun v=>f v∈P:R->Prop)):gb true E z f∈P:=by
 obtain ⟨v,e,h⟩:=h;rw [e];exact h
theorem J2 {R:Type} {n:Nat} {l:List Int} (hl:l.length<=9223372036854775807) {i:Nat} (hi:i<=l.length) {m:Int} (h:0<m) (hm:m<=9223372036854775807) {z:Int×Int} {f:Int×Int->oP R} {P:R->Prop}
  (H:∀ (v:Int) (j:Nat),0<=v->v<m->j<=l.length->f (v,(j:Int))∈P) :
  gb true (Qm n (encI l) (i:Int) m Tu2) z f∈P:=by
 obtain ⟨v,j,c,d,hj,e⟩:=QbX n hl hi h hm;rw [e];exact H v j c d hj
structure Num (a b c:Int):Prop where
 a0:2<=a
 a1:a<=10
 b0:5000<=b
 b1:b<=35000
 c0 : -10<=c
 c1:c<=10
theorem Qn {x:Int} (a : -9223372036854775808<=x) (b:x<=9223372036854775807):wJ x=x:=by
 simp only [IntKind.wrap_i64];omega
theorem Qf9 {R:Type} {n:Nat} {l:List Int} (hl:l.length<=9223372036854775807) {i:Nat} (hi:i<=l.length) {nm:List UInt8} {st:Int} {z:List UInt8×Int×Int×Int×Int×Int} {f:List UInt8×Int×Int×Int×Int×Int->oP R} {P:R->Prop}
  (H:∀ (a b c:Int) (j:Nat),Num a b c->j<=l.length->f (nm,a,b,c,st,(j:Int))∈P) :
  gb true (U6 n (encI l) (i:Int) nm st Tu6) z f∈P:=by
 obtain ⟨v,j,u,y,hj,e⟩:=QbX n hl hi (show (0:Int)<9 by decide) Q1;obtain ⟨d,j2,g0,g1,q,e2⟩:=QbX n hl hj (show (0:Int)<7 by decide) Q1;obtain ⟨r,j3,k0,k1,s,t⟩:=QbX n hl q (show (0:Int)<21 by decide) Q1;unfold U6;rw [e,Qh,e2,Qh,t,Qh,Qh];rw [Qn (x:=2+v) Q0 Q0,Qn (x:=5000*d) Q0 Q0,Qn (x:=5000+5000*d) Q0 Q0,Qn (x:=r-10) Q0 Q0];exact H _ _ _ _ ⟨Q0,Q0,Q0,Q0,Q0,Q0⟩ s
theorem two {v:Int} (a:0<=v) (b:v<2):v=0\/v=1:=Q0
theorem BK {R:Type} (n:Nat) (a:List UInt8) (d:Nat) (hd:d<10) (ha:a.length<=100) (K:List UInt8->oP R):J4 n a (d:Int) K=K (a++[UInt8.ofNat (48+d)]):=by
 have:∀ d:Fin 10,∃ q,slB (List.length (bs [48,49,50,51,52,53,54,55,56,57])) (some (Int.tmod (d.val:Int) (10:Int))) (some (wJ ((Int.tmod (d.val:Int) (10:Int))+(1:Int))))=some q/\cut (bs [48,49,50,51,52,53,54,55,56,57]) q=[UInt8.ofNat (48+d.val)]:=by
  intro d
  match d with
  |0=>exact ⟨_,rfl,rfl⟩
  |1=>exact ⟨_,rfl,rfl⟩
  |2=>exact ⟨_,rfl,rfl⟩
  |3=>exact ⟨_,rfl,rfl⟩
  |4=>exact ⟨_,rfl,rfl⟩
  |5=>exact ⟨_,rfl,rfl⟩
  |6=>exact ⟨_,rfl,rfl⟩
  |7=>exact ⟨_,rfl,rfl⟩
  |8=>exact ⟨_,rfl,rfl⟩
  |9=>exact ⟨_,rfl,rfl⟩
 obtain ⟨q,b,h2⟩:=this ⟨d,hd⟩;unfold J4;simp only at b h2;rw [b];have hz:nz (10:Int)=some ():=rfl;rw [hz,Qh,Qh,Qh,h2];have hs:Q9X (a.length+([UInt8.ofNat (48+d)]:List UInt8).length)=some ():=by
  unfold Q9X;rw [show Nat.ble (a.length+([UInt8.ofNat (48+d)]:List UInt8).length) 9223372036854775807=true from Nat.ble_eq_true_of_le Q3];rfl
 rw [hs,Qh]
theorem XJ {k:Nat} (h:k<=100000):Yn k=some ():=by
 unfold Yn;rw [show Nat.ble k 140737488355328=true from Nat.ble_eq_true_of_le Q0];rfl
theorem QiQ {R:Type} {n:Nat} {e:LL} {s:List UInt8} {a b c d:Int} {z:Int×LL} {f:Int×LL->oP R} {P:R->Prop} (k:Nat) (hk:e.length=k) (h:k<=1000)
  (H:f ((k:Int),e++[[D.str s,D.int .i64 a,D.int .i64 b,D.int .i64 c,D.int .i64 d]])∈P) :
  gb true (ZA n e s a b c d Tu2) z f∈P:=by
 unfold ZA;rw [XJ Q3,Qh,Qh];have hl:(e++[[D.str s,D.int .i64 a,D.int .i64 b,D.int .i64 c,D.int .i64 d]]).length=k+1:=by simp [hk]
 rw [hl,Qn (x:=((k+1:Nat):Int)-1) Q0 Q0,show ((k+1:Nat):Int)-1=(k:Int) by omega];exact H
theorem Qjm {R:Type} {n:Nat} {e:LL} {s:List UInt8} {a b c d:Int} {z:Int×LL} {f:Int×LL->oP R} {P:R->Prop} (k:Nat) (hk:e.length=k) (h:k<=1000) (hn:Num a b c)
  (H:f ((k:Int),e++[[D.str s,D.int .i64 (a+2),D.int .i64 b,D.int .i64 c,D.int .i64 d]])∈P) :
  gb true (ZA n e s (wJ (a+2)) b c d Tu2) z f∈P:=by
 have j:=hn.a0;have l:=hn.a1;rw [Qn (x:=a+2) Q0 Q0];exact QiQ k hk h H
def QiR (i k:Nat):List UInt8:=bs [84]++[UInt8.ofNat (48+i)]++[UInt8.ofNat (48+k)]
def nmL (i k:Nat):List UInt8:=bs [76]++[UInt8.ofNat (48+i)]++[UInt8.ofNat (48+k)]
abbrev NK:=Int×Int×Int
def secT (i k:Nat) (x:NK):List D:=[D.str (QiR i k),Ql (x.1+2),Ql x.2.1,Ql x.2.2,Ql i]
def secL (i k:Nat) (x:NK):List D:=[D.str (nmL i k),Ql x.1,Ql x.2.1,Ql x.2.2,Ql (-1)]
def YW (f:Nat->NK->List D):Nat->List NK->LL
 |k+1,x::y=>f (k+1) x::YW f k y
 |_,_=>[]
def ups (k:Nat):Nat->List Nat
 |0=>[]
 |c+1=>k::ups (k+1) c
def Wu (l:List Nat):LL:=l.map fun k=>[Ql (k:Nat)]
def Hv:List NK->Prop
 |[]=>True
 |x::r=>Num x.1 x.2.1 x.2.2/\Hv r
section
variable {R:Type} {n:Nat} {l:List Int} (hl:l.length<=9223372036854775807) {P:R->Prop}
include hl
theorem QhJ {i c k j m:Nat} {tl S:LL} {k0:Int->Bool->LL->LL->Int->oP R}
  (hi:i<10) (hc:c+1<10) (hk:S.length=k) (e:k<=500) (ht:tl.length<=500) (hj:j<=l.length)
  (H:∀ (x:NK) (j:Nat),Num x.1 x.2.1 x.2.2->j<=l.length->Gn n i (encI l) k0 m (c:Int) (tl++[[Ql k]]) (S++[secT i (c+1) x]) (j:Int)∈P) :
  Gn n (i:Int) (encI l) k0 (m+1) ((c+1:Nat):Int) tl S (j:Int)∈P:=by
 unfold Gn;rw [Xh Q2,BK n _ i hi Q1,Qh,BK n _ (c+1) hc Q2,Qh];refine Qf9 hl hj fun a b d j hn hj=>?_
 dsimp only;refine Qjm k hk Q0 hn ?_;dsimp only;rw [XJ Q3,Qh,Qn (x:=((c+1:Nat):Int)-1) Q0 Q0,show ((c+1:Nat):Int)-1=(c:Int) by omega];exact H (a,b,d) j hn hj
theorem Qek {i c k j m:Nat} {S:LL} {k0:Int->Bool->LL->LL->Int->oP R}
  (hi:i<10) (hc:c=1\/c=2) (hk:S.length=k) (a:k<=400) (hj:j<=l.length)
  (H:∀ (x:List NK) (j:Nat),Hv x->x.length=c->j<=l.length->k0 0 false (Wu (ups k c)) (S++YW (secT i) c x) (j:Int)∈P) :
  Gn n (i:Int) (encI l) k0 (m+3) (c:Int) [] S (j:Int)∈P:=by
 rcases hc with rfl | rfl
 ·refine QhJ hl (c:=0) hi Q0 hk Q0 Q2 hj fun x j hx hj=>?_
  exact H [x] j ⟨hx,trivial⟩ rfl hj
 ·refine QhJ hl (c:=1) hi Q0 hk Q0 Q2 hj fun x j hx hj=>?_
  refine QhJ hl (c:=0) (k:=k+1) hi Q0 (by simp [hk]) Q0 Q2 hj fun y j hy hj=>?_
  have:=H [x,y] j ⟨hx,hy,trivial⟩ rfl hj;simp only [YW,ups,Wu,List.map_cons,List.map_nil] at this;show k0 0 false _ (S++[secT i 2 x]++[secT i 1 y]) (j:Int)∈P;rw [List.append_assoc S];exact this
end
def Q7r (a b:Int) (p q:Int):List D:=[Ql a,Ql 1,Ql b,Ql 0,Ql p,Ql q]
def lk (ac:Bool) (x t:Int) (p q:Int):List D:=bif ac then Q7r x t p q else Q7r t x p q
def nmP (k:Nat):List D:=[D.str (bs [80]++[UInt8.ofNat (48+k)])]
def Q3Z (x:Nat) (ac:Bool) (aj k c:Nat):LL:=bif Nat.beq c 2 then [lk ac x k aj 0,lk ac x ((k+1:Nat):Int) aj 1] else [lk ac x k (-1) 0]
def Q3f (ac c:Nat):LL:=bif Nat.beq c 2 then [nmP ac] else []
section
variable {R:Type} {n:Nat} {q2 q4:LL}
theorem Qex {a b c d:Int} (h:q4.length<=1000) (K:LL->oP R):Yx n q4 a b c d K=K (q4++[Q7r a b c d]):=by
 unfold Yx;rw [XJ Q3,Qh];rfl
theorem Qf2 {k:Nat} (hk:q2.length=k) (h:k<10) (K:Int->LL->oP R):ZO n q2 K=K (k:Int) (q2++[nmP k]):=by
 unfold ZO;rw [hk,BK n _ k h Q1,Qh,XJ Q3,Qh];have hl:(q2++[[D.str (bs [80]++[UInt8.ofNat (48+k)])]]).length=k+1:=by simp [hk]
 rw [hl,Qn (x:=((k+1:Nat):Int)-1) Q0 Q0,show ((k+1:Nat):Int)-1=(k:Int) by omega];rfl
theorem Qih {a1 a:Int} {T:List Nat} {ac:Bool} {w:Int} {h t m:Nat} (hh:(h:Int)<a) (b:h<=1000) (ht:T[h]? = some t) (hq:q4.length<=1000) {k0:Int->Bool->LL->oP R} :
  QO n a1 (Wu T) ac w a k0 (m+1) (h:Int) q4=QO n a1 (Wu T) ac w a k0 m ((h+1:Nat):Int) (q4++[lk ac a1 t w h]):=by
 rw [QO];rw [Xh Q3,Qn (x:=(h:Int)+1) Q0 Q0];have hr:Qi (Wu T) (h:Int)=some [Ql t]:=X0 ht;cases ac
 ·rw [Qr rfl,hr,Qh];show gb true (some (D.int .i64 (t:Int))) _ _=_;rw [Qh,Qj,Qh,Qex hq,Qh];rfl
 ·rw [Xh rfl,hr,Qh];show gb true (some (D.int .i64 (t:Int))) _ _=_;rw [Qh,Qj,Qh,Qex hq,Qh];rfl
theorem Qfg {a1 a:Int} {T:LL} {ac:Bool} {w:Int} {h m:Nat} (hh:¬ (h:Int)<a) {k0:Int->Bool->LL->oP R} :
  QO n a1 T ac w a k0 (m+1) (h:Int) q4=k0 h false q4:=by
 rw [QO,Qr Q3];simp [hh]
theorem QiC {m x k c p:Nat} {ac:Bool} (hc:c=1\/c=2) (hp:q2.length=p) (a:p<10) (hq:q4.length<=900) (K:LL->LL->oP R) :
  VN (m+3) q2 q4 (x:Int) (Wu (ups k c)) ac K=K (q2++Q3f p c) (q4++Q3Z x ac p k c):=by
 rcases hc with rfl | rfl
 ·show QO (m+3) (x:Int) (Wu [k]) ac (-1) (1:Int) _ (m+2+1) ((0:Nat):Int) q4=_;rw [Qih Q1 Q1 rfl Q0,Qfg Q1];rw [show Q3f p 1=[] from rfl,List.append_nil];rfl
 ·show gb true (ZO (m+3) q2 _) _ _=_;rw [Qf2 hp a,Qh];show QO (m+3) (x:Int) (Wu [k,k+1]) ac (p:Int) (2:Int) _ (m+2+1) ((0:Nat):Int) q4=_;rw [Qih Q1 Q1 rfl Q0,Qih Q1 Q1 rfl Q3,Qfg Q1,List.append_assoc];rfl
end
def inL (s u:Nat):LL:=bif Nat.beq u 2 then [Q7r s ((s+1:Nat):Int) (-1) 0] else []
def pc (c:Nat):Nat:=bif Nat.beq c 2 then 1 else 0
theorem Q6R (p c:Nat):(Q3f p c).length=pc c:=by unfold Q3f pc;cases Nat.beq c 2 <;> rfl
theorem QdE {c:Nat}:pc c<=1:=by unfold pc;cases Nat.beq c 2 <;> simp
theorem Q36 {x p k c:Nat} {e:Bool}:(Q3Z x e p k c).length<=2:=by unfold Q3Z;cases Nat.beq c 2 <;> simp
theorem Q5B {s u:Nat}:(inL s u).length<=1:=by unfold inL;cases Nat.beq u 2 <;> simp
section
variable {R:Type} {n:Nat} {l:List Int} (hl:l.length<=9223372036854775807) {P:R->Prop}
include hl
theorem Qef {i c k j m:Nat} {tl S:LL} {k0:Int->Bool->LL->LL->Int->oP R}
  (hi:i<10) (hc:c+1<10) (hk:S.length=k) (e:k<=500) (ht:tl.length<=500) (hj:j<=l.length)
  (H:∀ (x:NK) (j:Nat),Num x.1 x.2.1 x.2.2->j<=l.length->Gl n i (encI l) k0 m (c:Int) (tl++[[Ql k]]) (S++[secL i (c+1) x]) (j:Int)∈P) :
  Gl n (i:Int) (encI l) k0 (m+1) ((c+1:Nat):Int) tl S (j:Int)∈P:=by
 unfold Gl;rw [Xh Q2,BK n _ i hi Q1,Qh,BK n _ (c+1) hc Q2,Qh];refine Qf9 hl hj fun a b d j hn hj=>?_
 dsimp only;refine QiQ k hk Q0 ?_;dsimp only;rw [XJ Q3,Qh,Qn (x:=((c+1:Nat):Int)-1) Q0 Q0,show ((c+1:Nat):Int)-1=(c:Int) by omega];exact H (a,b,d) j hn hj
theorem Qci {i c k j m:Nat} {S:LL} {k0:Int->Bool->LL->LL->Int->oP R}
  (hi:i<10) (hc:c=1\/c=2) (hk:S.length=k) (a:k<=400) (hj:j<=l.length)
  (H:∀ (x:List NK) (j:Nat),Hv x->x.length=c->j<=l.length->k0 0 false (Wu (ups k c)) (S++YW (secL i) c x) (j:Int)∈P) :
  Gl n (i:Int) (encI l) k0 (m+3) (c:Int) [] S (j:Int)∈P:=by
 rcases hc with rfl | rfl
 ·refine Qef hl (c:=0) hi Q0 hk Q0 Q2 hj fun x j hx hj=>?_
  exact H [x] j ⟨hx,trivial⟩ rfl hj
 ·refine Qef hl (c:=1) hi Q0 hk Q0 Q2 hj fun x j hx hj=>?_
  refine Qef hl (c:=0) (k:=k+1) hi Q0 (by simp [hk]) Q0 Q2 hj fun y j hy hj=>?_
  have:=H [x,y] j ⟨hx,hy,trivial⟩ rfl hj;simp only [YW,ups,Wu,List.map_cons,List.map_nil] at this;show k0 0 false _ (S++[secL i 2 x]++[secL i 1 y]) (j:Int)∈P;rw [List.append_assoc S];exact this
end
section
variable {R:Type} {n:Nat}
theorem inA {s u m:Nat} {a:LL} (hu:u=1\/u=2) (hq:a.length<=900) {k0:Int->Bool->LL->oP R} :
  Re n (Wu (ups s u)) k0 (m+3) 0 a=k0 ((u-1:Nat):Int) false (a++inL s u):=by
 rcases hu with rfl | rfl
 ·rw [show inL s 1=[] from rfl,List.append_nil];rfl
 ·show gb true (Yx n a (s:Int) ((s+1:Nat):Int) (-1) 0 _) _ _=_;rw [Qex Q0,Qh];rfl
end
theorem QhB {R:Type} {m:Nat} {l:List Int} (hl:l.length<=9223372036854775807) {P:R->Prop} {a:Int} {g s p k c k' c' j:Nat} {Pt Se Li Tr Bt:LL} {k0:Int->Bool->LL->LL->LL->LL->Int->oP R} {n:Nat}
  (hg:g<8) (hw:(g:Int)+1<a) (hs:Se.length=s) (i:s<=300) (hp:Pt.length=p) (o:p<8) (hL:Li.length<=300) (hB:Bt.length<=300)
  (hT:Tr[g]? = some [D.sl 1 (Wu (ups k c))]) (ac:Tr[g+1]? = some [D.sl 1 (Wu (ups k' c'))]) (hc:c=1\/c=2) (an:c'=1\/c'=2) (hj:j<=l.length)
  (H:∀ (u:Nat) (x:List NK) (j:Nat),(u=1\/u=2)->Hv x->x.length=u->j<=l.length ->
   UV (m+3) a Tr (encI l) k0 n ((g+1:Nat):Int) ((Pt++Q3f p c)++Q3f (p+pc c) c') (Se++YW (secL g) u x) (((Li++inL s u)++Q3Z s false p k c)++Q3Z (s+u-1) true (p+pc c) k' c') (Bt++[[D.sl 1 (Wu (ups s u))]]) (j:Int)∈P) :
  UV (m+3) a Tr (encI l) k0 (n+1) (g:Int) Pt Se Li Bt (j:Int)∈P:=by
 unfold UV;have ao:wJ ((g:Int)+1)=((g+1:Nat):Int):=by rw [Qn Q0 Q0];omega
 rw [ao,Xh Q3];refine J2 hl hj Q1 Q1 fun v j b d hj=>?_
 obtain ⟨u,hu,hv⟩:∃ u:Nat,(u=1\/u=2)/\wJ (1+v)=(u:Int):=by
  rcases two b d with rfl | rfl
  ·exact ⟨1,.inl rfl,rfl⟩
  ·exact ⟨2,.inr rfl,rfl⟩
 dsimp only;rw [hv];refine Qci hl Q0 hu hs Q0 hj fun x j hx aj hj=>?_
 rw [inA hu Q0];have e:(0:Int).toNat=0:=rfl;have ak:(Wu (ups s u)).length=u:=by rcases hu with rfl | rfl <;> rfl
 have f:(Wu (ups s u))[0]? = some [Ql s]:=by rcases hu with rfl | rfl <;> rfl
 have e1:(Wu (ups s u))[u-1]? = some [Ql ((s+u-1:Nat):Int)]:=by rcases hu with rfl | rfl <;> rfl
 have ax:g<Tr.length:=(List.getElem?_eq_some_iff.1 hT).1;have ar:g+1<Tr.length:=(List.getElem?_eq_some_iff.1 ac).1;have h:wJ ((u:Int)-1)=((u-1:Nat):Int):=by rcases hu with rfl | rfl <;> rfl
 rw [ak,Yh Q0 Q0,Qh,e,f,Qh];show gb true (some (Ql s)) _ _∈P;rw [Qh,Qj,Qh,Yh Q0 Q0,Qh,Int.toNat_natCast,hT,Qh];show gb true (some (D.sl 1 (Wu (ups k c)))) _ _∈P;rw [Qh,QN,Qh,QiC hc hp Q0 (by have:=@Q5B s u;simp;omega),Qh];dsimp only;rw [h,Yh Q0 Q0,Qh,Int.toNat_natCast,e1,Qh];show gb true (some (Ql ((s+u-1:Nat):Int))) _ _∈P;rw [Qh,Qj,Qh,Yh Q0 Q0,Qh,Int.toNat_natCast,ac,Qh];show gb true (some (D.sl 1 (Wu (ups k' c')))) _ _∈P;rw [Qh,QN,Qh,QiC (p:=p+pc c) an (by simp [hp,Q6R]) (by have:=@QdE c;omega) (by have:=@Q5B s u;have:=@Q36 s p k c false;simp;omega),Qh];dsimp only;rw [XJ Q3,Qh];exact H u x j hu hx aj hj
def nmS (k:Nat):List D:=[D.str (bs [83]++[UInt8.ofNat (48+k)])]
theorem Xz {f:Nat->NK->List D}:∀ {c:Nat} {x:List NK},x.length=c->(YW f c x).length=c
 |0,[],_=>rfl
 |c+1,a::x,h=>by simp [YW];exact Xz (by simpa using h)
section
variable {R:Type} {m:Nat} {l:List Int} (hl:l.length<=9223372036854775807) {P:R->Prop}
include hl
theorem FI {a:Int} {i k j:Nat} {b d e:LL} {k0:Int->Bool->LL->LL->LL->Int->oP R} {n:Nat}
  (hi:i<10) (hw:(i:Int)<a) (hk:d.length=k) (g:k<=400) (f:b.length<=400) (h2:e.length<=400) (hj:j<=l.length)
  (H:∀ (c:Nat) (x:List NK) (j:Nat),(c=1\/c=2)->Hv x->x.length=c->j<=l.length ->
   V6 (m+3) a (encI l) k0 n ((i+1:Nat):Int) (b++[nmS i]) (d++YW (secT i) c x) (e++[[D.sl 1 (Wu (ups k c))]]) (j:Int)∈P) :
  V6 (m+3) a (encI l) k0 (n+1) (i:Int) b d e (j:Int)∈P:=by
 unfold V6;rw [Xh Q3,BK _ _ i hi Q1,Qh,XJ Q3,Qh];refine J2 hl hj Q1 Q1 fun v j h f hj=>?_
 obtain ⟨c,hc,hv⟩:∃ c:Nat,(c=1\/c=2)/\wJ (1+v)=(c:Int):=by
  rcases two h f with rfl | rfl
  ·exact ⟨1,.inl rfl,rfl⟩
  ·exact ⟨2,.inr rfl,rfl⟩
 dsimp only;rw [hv];refine Qek hl hi hc hk g hj fun x j hx ac hj=>?_
 rw [XJ Q3,Qh,Qn (x:=(i:Int)+1) Q0 Q0];exact H c x j hc hx ac hj
omit hl in
theorem r7e {n m:Nat} {b a:Int} {g c d e:LL} {f:Int} {k0:Int->Bool->LL->LL->LL->Int->oP R} (h:¬ a<b) :
  V6 n b g k0 (m+1) a c d e f=k0 a false c d e f:=by
 rw [V6,Qr Q3];simp [h]
omit hl in
theorem QiK {n m:Nat} {b a:Int} {i j c d e f:LL} {g:Int} {k0:Int->Bool->LL->LL->LL->LL->Int->oP R} (h:¬ wJ (a+1)<b) :
  UV n b i j k0 (m+1) a c d e f g=k0 a false c d e f g:=by
 rw [UV,Qr Q3];simp [h]
theorem QhF {i:Nat} (hi:i<=l.length) {k0:LL->LL->LL->LL->LL->LL->Int->oP R}
  (H:∀ (c0 c1 a:Nat) (b d e:List NK) (j:Nat),(c0=1\/c0=2)->(c1=1\/c1=2)->(a=1\/a=2)->Hv b->Hv d->Hv e->b.length=c0->d.length=c1->e.length=a->j<=l.length ->
   k0 [nmS 0,nmS 1] (Q3f 0 c0++Q3f (pc c0) c1) ((YW (secT 0) c0 b++YW (secT 1) c1 d)++YW (secL 0) a e)
    ((inL (c0+c1) a++Q3Z (c0+c1) false 0 0 c0)++Q3Z (c0+c1+a-1) true (pc c0) c0 c1)
    [[D.sl 1 (Wu (ups 0 c0))],[D.sl 1 (Wu (ups c0 c1))]] [[D.sl 1 (Wu (ups (c0+c1) a))]] (j:Int)∈P) :
  V6 (m+3) 2 (encI l) (fun _ _ r t h u=>
   UV (m+3) 2 h (encI l) (fun _ _ v x y z aa=>k0 r v x y h z aa) (m+3) (0:Int) [] t [] [] u)
   (m+3) (0:Int) [] [] [] (i:Int)∈P:=by
 refine FI hl (i:=0) Q1 Q1 rfl Q1 Q1 Q1 hi fun c0 b j n ab f hj=>?_
 refine FI hl (i:=1) (k:=c0) Q1 Q1 (by simp [Xz f]) Q0 Q2 Q2 hj fun c1 d j o ac q hj=>?_
 rw [r7e Q1];refine QhB hl (g:=0) (s:=c0+c1) (p:=0) (k:=0) (c:=c0) (k':=c0) (c':=c1) Q1 Q1 (by simp [Xz f,Xz q]) Q0 rfl Q1 Q1 Q1 rfl rfl n o hj fun a e j ad ae aj hj=>?_
 rw [QiK Q1];have:=H c0 c1 a b d e j n o ad ab ac ae f q aj hj;simpa [Nat.add_assoc] using this
theorem QhI {i:Nat} (hi:i<=l.length) {k0:LL->LL->LL->LL->LL->LL->Int->oP R}
  (H:∀ (c0 c1 a b d:Nat) (e f h n o:List NK) (j:Nat),(c0=1\/c0=2)->(c1=1\/c1=2)->(a=1\/a=2)->(b=1\/b=2)->(d=1\/d=2)->Hv e->Hv f->Hv h->Hv n->Hv o->e.length=c0->f.length=c1->h.length=a->n.length=b->o.length=d->j<=l.length ->
   k0 [nmS 0,nmS 1,nmS 2] ((Q3f 0 c0++Q3f (pc c0) c1)++Q3f (pc c0+pc c1) c1++Q3f (pc c0+pc c1+pc c1) a)
    ((((YW (secT 0) c0 e++YW (secT 1) c1 f)++YW (secT 2) a h)++YW (secL 0) b n)++YW (secL 1) d o)
    (((inL (c0+c1+a) b++Q3Z (c0+c1+a) false 0 0 c0)++Q3Z (c0+c1+a+b-1) true (pc c0) c0 c1)++inL (c0+c1+a+b) d++Q3Z (c0+c1+a+b) false (pc c0+pc c1) c0 c1++Q3Z (c0+c1+a+b+d-1) true (pc c0+pc c1+pc c1) (c0+c1) a)
    [[D.sl 1 (Wu (ups 0 c0))],[D.sl 1 (Wu (ups c0 c1))],[D.sl 1 (Wu (ups (c0+c1) a))]] [[D.sl 1 (Wu (ups (c0+c1+a) b))],[D.sl 1 (Wu (ups (c0+c1+a+b) d))]] (j:Int)∈P) :
  V6 (m+4) 3 (encI l) (fun _ _ aa ab v ac=>
   UV (m+4) 3 v (encI l) (fun _ _ ad ae ag ah ai=>k0 aa ad ae ag v ah ai) (m+4) (0:Int) [] ab [] [] ac)
   (m+4) (0:Int) [] [] [] (i:Int)∈P:=by
 refine FI hl (m:=m+1) (i:=0) Q1 Q1 rfl Q1 Q1 Q1 hi fun c0 e j x aj q hj=>?_
 refine FI hl (m:=m+1) (i:=1) (k:=c0) Q1 Q1 (by simp [Xz q]) Q0 Q2 Q2 hj fun c1 f j t ak r hj=>?_
 refine FI hl (m:=m+1) (i:=2) (k:=c0+c1) Q1 Q1 (by simp [Xz q,Xz r]) Q0 Q2 Q2 hj fun a h j y al u hj=>?_
 rw [r7e Q1];refine QhB hl (m:=m+1) (g:=0) (s:=c0+c1+a) (p:=0) (k:=0) (c:=c0) (k':=c0) (c':=c1) Q1 Q1 (by simp [Xz q,Xz r,Xz u,Nat.add_assoc]) Q0 rfl Q1 Q1 Q1 rfl rfl x t hj fun b n j am an z hj=>?_
 have b0:=@QdE c0;have b1:=@QdE c1;have f0:=@Q5B (c0+c1+a) b;have f1:=@Q36 (c0+c1+a) 0 0 c0 false;have f2:=@Q36 (c0+c1+a+b-1) (pc c0) c0 c1 true;refine QhB hl (m:=m+1) (g:=1) (s:=c0+c1+a+b) (p:=pc c0+pc c1) (k:=c0) (c:=c1) (k':=c0+c1) (c':=a) Q1 Q1 (by simp [Xz q,Xz r,Xz u,Xz z,Nat.add_assoc]) Q0 (by simp [Q6R]) Q0 Q3 Q2 rfl rfl t y hj fun d o j ao ap aq hj=>?_
 rw [QiK Q1];have:=H c0 c1 a b d e f h n o j x t y am ao aj ak al an ap q r u z aq hj;simpa [Nat.add_assoc] using this
end
end Go.Vx
