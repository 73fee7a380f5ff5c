/- Part of a proof. No conditions of their own. -/
import Derived.Test.YtnfomkijfeokoaaGreatTB
import Derived.Test.YtnfomkijfeokoaaGreatProg
import Derived.Test.YtnfomkijfeokoaaGreatTC
set_option linter.unusedVariables false
set_option linter.unusedSimpArgs false
noncomputable section

namespace Go.Vx
variable {R:Type} (n:Nat)
def Su (n:Nat) (a0 a1:Int) (K:Qlm R):oP R:=Qku R (nz (IntKind.wrap .u64 a1)) fun a=>K (wJ (Int.tmod (IntKind.wrap .u64 a0) (IntKind.wrap .u64 a1)))
def Q5 (b:LL) (a a1:Int) (K:Qlw R):oP R:=bif decide (a>=(b.length:Int)) then K 0 a else QkG R b (wJ (wJ (a+1)-1)) fun e=>Qku R (Su n e a1 some) fun f=>K f (wJ (a+1))
def Wv (c:LL) (e:Int) (a1:List UInt8) (a2:Int) (K:(List UInt8)->Int->Int->Int->Int->Int->oP R):oP R:=Qku R (Q5 n c e 9 Tu2) fun a=>Qku R (Q5 n c a.2 7 Tu2) fun r2=>Qku R (Q5 n c r2.2 21 Tu2) fun d=>K a1 (wJ (2+a.1)) (wJ (5000+wJ (5000*r2.1))) (wJ (d.1-10)) a2 d.2
def Vw (n:Nat) (a0:List UInt8) (a1:Int) (K:(List UInt8)->oP R):oP R:=Qla R 10 (Qkt R [48,49,50,51,52,53,54,55,56,57] fun d=>Qku R (slB (List.length (bs d)) (some (Int.tmod a1 10)) (some (wJ (Int.tmod a1 10+1)))) fun a=>Qku R (Q9I (a0.length+List.length (cut (bs d) a))) fun c=>K (a0++cut (bs d) a))
def Z8 (n:Nat) (a:LL) (b:List UInt8) (c d e f:Int) (K:QlB R):oP R:=Qkt R [[D.str b,Q4 c,Q4 d,Q4 e,Q4 f]] fun h=>Qku R (Y1 ((a.length+h.length)*48)) fun g=>K (wJ (((List.length (a++h):Nat):Int)-1)) (a++h)
def Y7 (n:Nat) (a:LL) (a1 a2 b c:Int) (K:Qls R):oP R:=Qkt R [[Q4 a1,Q4 1,Q4 a2,Q4 0,Q4 b,Q4 c]] fun e=>Qku R (Y1 ((a.length+e.length)*48)) fun d=>K (a++e)
def Zl (a:LL) (K:QlB R):oP R:=Qku R (Vw n (bs [80]) (a.length:Int) some) fun b=>Qkt R [[D.str b]] fun c=>Qku R (Y1 ((a.length+c.length)*16)) fun u2=>K (wJ (((List.length (a++c):Nat):Int)-1)) (a++c)
def Qw (b:Int) (c:LL) (f:Bool) (d e:Int) (k0:Qln R):Qlo R
 | 0,_,_=>none
 | m+1,a,g=>bif decide (a<e) then bif f then QkG R c a fun j=>Qku R (Y7 n g b j d a some) fun k=>Qw b c f d e k0 m (wJ (a+1)) k else QkG R c a fun p=>Qku R (Y7 n g p b d a some) fun q=>Qw b c f d e k0 m (wJ (a+1)) q else k0 a (decide (a<e)) g
def Vf (b c:LL) (a1:Int) (a2:LL) (d:Bool) (K:LL->LL->oP R):oP R:=Qkt R (a2.length:Int) fun e=>bif decide (e>1) then gb true (Zl n b Tu2) (0,[]) fun a=>Qw n a1 a2 d a.1 e (fun h i f=>K a.2 f) n 0 c else Qw n a1 a2 d (-1:Int) e (fun j k g=>K b g) n 0 c
def JT (c:Int) (h:LL) (k0:QlE R):QlF R
 | 0,_,_,_,_=>none
 | m+1,b,d,i,j=>bif decide (b>0) then Qku R (Vw n (bs [84]) c some) fun k=>Qku R (Vw n k b some) fun l=>gb true (Wv n h j l c Tu6) ([],0,0,0,0,0) fun a=>gb true (Z8 n i a.1 (wJ (a.2.1+2)) a.2.2.1 a.2.2.2.1 a.2.2.2.2.1 Tu2) (0,[]) fun g=>Qku R (Y1 ((d.length+[[Q4 g.1]].length)*8)) fun r=>JT c h k0 m (wJ (b-1)) (d++[[Q4 g.1]]) g.2 a.2.2.2.2.2 else k0 b (decide (b>0)) d i j
def UB (h2:Int) (b:LL) (k0:QlG R):QlH R
 | 0,_,_,_,_,_=>none
 | m+1,a,c,e,d,f=>bif decide (a<h2) then Qku R (Vw n (bs [83]) a some) fun g=>Qku R (Y1 ((c.length+[[D.str g]].length)*16)) fun p=>Qku R (Q5 n b f 2 Tu2) fun h=>JT n a b (fun q r i l o=>Qku R (Y1 ((d.length+[[D.sl 1 i]].length)*24)) fun s=>UB h2 b k0 m (wJ (a+1)) (c++[[D.str g]]) l (d++[[D.sl 1 i]]) o) n (wJ (1+h.1)) [] e h.2 else k0 a (decide (a<h2)) c e d f
def JR (g:Int) (h:LL) (k0:QlE R):QlF R
 | 0,_,_,_,_=>none
 | m+1,b,c,i,j=>bif decide (b>0) then Qku R (Vw n (bs [76]) g some) fun k=>Qku R (Vw n k b some) fun l=>gb true (Wv n h j l (-1:Int) Tu6) ([],0,0,0,0,0) fun a=>gb true (Z8 n i a.1 a.2.1 a.2.2.1 a.2.2.2.1 a.2.2.2.2.1 Tu2) (0,[]) fun f=>Qku R (Y1 ((c.length+[[Q4 f.1]].length)*8)) fun r=>JR g h k0 m (wJ (b-1)) (c++[[Q4 f.1]]) f.2 a.2.2.2.2.2 else k0 b (decide (b>0)) c i j
def SI (b:LL) (k0:Qln R):Qlo R
 | 0,_,_=>none
 | m+1,a,c=>Qkt R (wJ (a+1)) fun p=>Qks R (decide (p<(b.length:Int))) fun o=>bif o then QkK R b.length a b a.toNat fun f=>QkK R b.length p b (Int.toNat p) fun i=>Qku R (Y7 n c f i (-1:Int) 0 some) fun j=>SI b k0 m p j else k0 a o c
def Un (f:Int) (c g:LL) (k0:Int->Bool->LL->LL->LL->LL->Int->oP R):Nat->Int->LL->LL->LL->LL->Int->oP R
 | 0,_,_,_,_,_,_=>none
 | m+1,a,i,j,k,h,l=>Qkt R (wJ (a+1)) fun e=>Qks R (decide (e<f)) fun d=>bif d then Qku R (Q5 n g l 2 Tu2) fun o=>JR n a g (fun ai aj b r s=>SI n b (fun ak al t=>QkK R b.length 0 b (Int.toNat 0) fun x=>QkU R c.length a c a.toNat fun aa=>gb true (Vf n i t x aa false Tu2) ([],[]) fun p=>Qkt R (wJ ((b.length:Int)-1)) fun ar=>QkK R b.length ar b (Int.toNat ar) fun ad=>QkU R c.length e c (Int.toNat e) fun ah=>gb true (Vf n p.1 p.2 ad ah true Tu2) ([],[]) fun q=>Qku R (Y1 ((h.length+[[D.sl 1 b]].length)*24)) fun aq=>Un f c g k0 m e q.1 r q.2 (h++[[D.sl 1 b]]) s) n 0 k) n (wJ (1+o.1)) [] j o.2 else k0 a d i j k h l
def Q2u (b:LL) (d:Int) (K:LL->LL->LL->LL->LL->LL->LL->Int->oP R):oP R:=Qku R (Q5 n b d 2 Tu2) fun a=>UB n (wJ (2+a.1)) b (fun o p f g c h=>Un n (wJ (2+a.1)) c b (fun q r i j k l m=>K f i j k c l [] m) n 0 [] g [] [] h) n 0 [] [] [] a.2
def PC (n:Nat) (a0:Int) (K:Qlr R):oP R:=K (Qkq (Qkr (decide (a0>=65)) (decide (a0<=90))) (Qkr (decide (a0>=97)) (decide (a0<=122))))
def Fl (n:Nat) (a0:Int) (K:Qlr R):oP R:=K (Qkr (decide (a0>=48)) (decide (a0<=57)))
def SL (b:List UInt8) (d:Int) (k0:oP R) (k1:Qlp R):Qlq R
 | 0,_=>none
 | m+1,a=>bif decide (a<d) then Qku R (VU b a) fun f=>Qku R (PC n f some) fun c=>Qkv R (!c) (VU b a) fun g=>Qkv R (!c) (Fl n g some) fun e=>Qkv R (Qkr (!c) (!e)) (VU b a) fun h=>bif Qkr (Qkr (!c) (!e)) (h !=95) then k0 else SL b d k0 k1 m (wJ (a+1)) else k1 a (decide (a<d))
def Ks (a0:List UInt8) (K:Qlr R):oP R:=Qkt R (a0.length:Int) fun e=>Qks R (Qkq (decide (e<1)) (decide (e>12))) fun d=>Qkv R (!d) (VU a0 0) fun a=>Qkv R (!d) (PC n a some) fun r2=>bif Qkq d (!r2) then K false else SL n a0 e (K false) (fun b c=>K true) n 0
def Xj (n:Nat) (e f g h:LL) (i:List UInt8) (a b c d:Int) (K:Qlr R):oP R:=K (Qkr (Qkr (Qkr (Qkr (Qkr (Qkr (Qkr (decide (a>=1)) (decide (a<=400))) (decide (b>=1000))) (decide (b<=100000))) (decide (c>=(-40:Int)))) (decide (c<=40))) (decide (d>=(-1:Int)))) (decide (d<(e.length:Int))))
def Yc (n:Nat) (i h b j:LL) (c d e f a g:Int) (K:Qlr R):oP R:=K (Qkr (Qkr (Qkr (Qkr (Qkr (Qkr (Qkr (Qkr (decide (c>=0)) (decide (c<(b.length:Int)))) (decide (e>=0))) (decide (e<(b.length:Int)))) (Qkq (d==0) (d==1))) (Qkq (f==0) (f==1))) (decide (a>=(-1:Int)))) (decide (a<(h.length:Int)))) (Qkq (g==0) (Qkr (g==1) (a !=(-1:Int)))))
def Lz (n:Nat) (a b c d e f:Int) (K:Int->Int->Int->Int->oP R):oP R:=K a b c d
def Hn (h:LL) (h2 d e f g:Int) (k0:oP R) (k1:Qlp R):Qlq R
 | 0,_=>none
 | m+1,c=>bif decide (c<h2) then QkH R h c fun b i j k=>Ql1 R b fun l o p=>Ql2 R i j k l fun q r s t=>QkF R o p fun u v=>gb true (Lz n q r s t u v Tu4) (0,0,0,0) fun a=>bif Qkq (Qkr (d==a.1&&e==a.2.1) (f==a.2.2.1&&g==a.2.2.2)) (Qkr (d==a.2.2.1&&e==a.2.2.2) (f==a.1&&g==a.2.1)) then k0 else Hn h h2 d e f g k0 k1 m (wJ (c+1)) else k1 c (decide (c<h2))
def Gy (a0:LL) (a b c d:Int) (K:Qlr R):oP R:=Hn n a0 (a0.length:Int) a b c d (K true) (fun e f=>K false) n 0
def JU (n:Nat) (i j k l a c:Int) (a1:LL) (K:Qlr R):oP R:=bif (a1.length:Int)==0 then K true else Qks R (Qkr ((a1.length:Int)==1) (a !=(-1:Int))) fun o=>Qkv R o (Q1 a1 0) fun d=>Qkv R o d[4]? fun e=>Qkv R o (pIw e) fun b=>Qks R (Qkr o (a==b)) fun p=>Qkv R p (Q1 a1 0) fun f=>Qkv R p f[5]? fun g=>Qkv R p (pIw g) fun h=>K (Qkr p (c !=h))
def N9 (n:Nat) (d e c f:LL) (a b:Int) (K:Qlr R):oP R:=K (Qkr (Qkr (decide (a>=0)) (decide (a<(c.length:Int)))) (Qkq (b==0) (b==1)))
def Ri (n:Nat) (a b:Int) (K:Qlw R):oP R:=bif b==0 then K a 1 else K a 0
def MI (n:Nat) (a b:Int) (K:Qlw R):oP R:=bif b==0 then K a 1 else K a 0
def JW (n:Nat) (h:LL) (c d e f g:Int) (k0:Qlm R) (k1:Qlp R):Qlq R
 | 0,_=>none
 | m+1,b=>bif decide (b<c) then QkH R h b fun a o p q=>QkP R a fun r s=>Qku R a[5]? fun u=>Ql2 R o p q r fun i j k l=>bif Qkq (Qkr (i==d&&j==e) (k==f&&l==g)) (Qkr (i==f&&j==g) (k==d&&l==e)) then Qku R (pIw s) fun t=>k0 t else JW n h c d e f g k0 k1 m (wJ (b+1)) else k1 b (decide (b<c))
def JJ (j k l c:LL) (e f g h:Int) (K:Qlp R):oP R:=Qku R (Ri n e f Tu2) fun a=>Qku R (MI n g h Tu2) fun r2=>Qku R (Ri n r2.1 r2.2 Tu2) fun d=>JW n c (c.length:Int) a.1 a.2 d.1 d.2 (fun i=>K i true) (fun m o=>K 0 false) n 0
def Qe (n:Nat) (a0:LL) (a1:Int) (K:Qls R):oP R:=bif Nat.beq a0.length 1&&decide (0<=a1)&&decide (a1<=100000) then K (List.replicate a1.toNat (a0.headD [])) else none
def Uu (n:Nat) (e:List UInt8) (a b c d:Int) (K:Qlr R):oP R:=K (Qkr (Qkr (Qkr (Qkr (Qkr (Qkr (Qkr (decide (a>=1)) (decide (a<=40))) (decide (b>=1000))) (decide (b<=100000))) (decide (c>=100))) (decide (c<=2000))) (decide (d>=100))) (decide (d<=2000)))
def Ue (n:Nat) (a:LL) (b:Int) (K:Qls R):oP R:=Qku R (slB a.length none (some (wJ ((a.length:Int)-b)))) fun c=>K (cut a c)
def Le (n:Nat) (a0:Int) (K:Qlr R):oP R:=K (Qkq (Qkr (decide (a0>=97)) (decide (a0<=122))) (Qkr (decide (a0>=65)) (decide (a0<=90))))
def Q0Z (n:Nat) (a0:Int) (K:Qlr R):oP R:=K (Qkr (decide (a0>=48)) (decide (a0<=57)))
def Nq (b:List UInt8) (k0:oP R) (k1:Qlp R):Qlq R
 | 0,_=>none
 | m+1,a=>Qks R (decide (a<(b.length:Int))) fun h=>bif h then Qku R (VU b a) fun e=>Qku R (Le n e some) fun c=>Qkv R (!c) (VU b a) fun f=>Qkv R (!c) (Q0Z n f some) fun d=>Qkv R (Qkr (!c) (!d)) (VU b a) fun g=>bif Qkr (Qkr (!c) (!d)) (g !=95) then k0 else Nq b k0 k1 m (wJ (a+1)) else k1 a h
def NI (a0:List UInt8) (K:Qlr R):oP R:=Qks R (Qkq (decide ((a0.length:Int)<1)) (decide ((a0.length:Int)>12))) fun d=>Qkv R (!d) (VU a0 0) fun a=>Qkv R (!d) (Le n a some) fun r2=>bif Qkq d (!r2) then K false else Nq n a0 (K false) (fun b c=>K true) n 1
def SY (n:Nat) (c:LL) (b:Int) (k0:oP R) (k1:Qlp R):Qlq R
 | 0,_=>none
 | m+1,a=>bif decide (a<b) then Qlb R c a fun f=>Qlb R c b fun i=>bif f==i then k0 else SY n c b k0 k1 m (wJ (a+1)) else k1 a (decide (a<b))
def M3 (a0:LL) (a1:Int) (K:Qlm R):oP R:=Qlb R a0 a1 fun c=>Qku R (NI n c some) fun d=>bif !d then K 3 else SY n a0 a1 (K 5) (fun e f=>K 0) n 0
def YH (n:Nat) (b:LL) (k0:Qln R):Qlo R
 | 0,_,_=>none
 | m+1,a,c=>Qks R (decide (a<(b.length:Int))) fun h=>bif h then Qlb R b a fun d=>Qku R (Y1 ((c.length+[[D.str d]].length)*16)) fun g=>YH n b k0 m (wJ (a+1)) (c++[[D.str d]]) else k0 a h c
def KE (c d a e:LL) (K:Qls R):oP R:=YH n a (fun f g b=>K b) n 0 []
def Ka (n:Nat) (a0 a1 a2:Int) (K:Qlr R):oP R:=K (Qkr (decide (a0>=a1)) (decide (a0<=a2)))
def CI (n:Nat) (c d e f g h a b:Int) (K:Qlr R):oP R:=K (Qkq (Qkr (c==a) (d==b)) (Qkr (e==a) (f==b)))
def Pj (d:Int) (e:LL) (f g:Int) (k0:Int->Int->Bool->D->D->D->D->D->D->oP R):Nat->Int->Int->D->D->D->D->D->D->oP R
 | 0,_,_,_,_,_,_,_,_=>none
 | m+1,h,a,i,j,k,l,o,p=>bif decide (a<d) then QkH R e a fun b q r s=>Ql1 R b fun t u v=>Ql2 R q r s t fun x y z aa=>QkF R u v fun ab ac=>Qku R (CI n x y z aa ab ac f g some) fun ad=>bif ad then QkH R e a fun c ae ag ah=>Ql1 R c fun ai aj ak=>Pj d e f g k0 m (wJ (h+1)) (wJ (a+1)) ae ag ah ai aj ak else Pj d e f g k0 m h (wJ (a+1)) i j k l o p else k0 h a (decide (a<d)) i j k l o p
def Bn (p q r f:LL) (a1 h i:Int) (K:Qlr R):oP R:=Qku R (Q1 f a1) fun b=>Qku R b[0]? fun s=>Qku R b[1]? fun t=>Qld R b (Qku R b[4]? fun g=>Qku R b[5]? fun j=>Qkt R (Q4 0) fun ah=>Pj n a1 f h i (fun a x y z aa ab ac k l=>Qks R (a==0) fun ag=>Qkv R (!ag&&a==1) (pIw g) fun c=>Qks R (Qkr (a==1) (decide (c>=0))) fun ad=>QkN R k (!ag&&ad) g fun d e=>Qks R (Qkr ad (d==e)) fun ae=>QkN R l (!ag&&ae) j fun m o=>K (Qkq ag (Qkr ae (m !=o)))) n 0 0 ah ah ah ah ah ah)
def Kz (e:Int) (f:LL) (g h i j:Int) (k0:oP R) (k1:Qlp R):Qlq R
 | 0,_=>none
 | m+1,b=>bif decide (b<e) then QkH R f b fun c k l o=>Ql1 R c fun p q r=>Ql2 R k l o p fun s t u v=>QkF R q r fun x y=>Qku R (CI n s t u v x y g h some) fun a=>Qkv R a (Q1 f b) fun d=>Qlj R d a fun z aa=>Qkv R a d[2]? fun ab=>Qkv R a d[3]? fun ac=>Qkv R a d[4]? fun ad=>Qkv R a d[5]? fun ae=>QkN R z a aa fun ag ah=>QkN R ab a ac fun ai aj=>QkN R ad a ae fun ak al=>Qkv R a (CI n ag ah ai aj ak al i j some) fun am=>bif Qkr a am then k0 else Kz e f g h i j k0 k1 m (wJ (b+1)) else k1 b (decide (b<e))
def JI (p i g h:LL) (a1:Int) (K:Qlm R):oP R:=QkH R h a1 fun e q r s=>Ql1 R e fun t u v=>Qku R (pIw q) fun z=>Qkt R (wJ ((g.length:Int)-1)) fun ap=>Qku R (Ka n z 0 ap some) fun a=>Qkv R (!(!a)) (pIw s) fun aa=>Qkv R (!(!a)) (Ka n aa 0 ap some) fun b=>Qks R (Qkq (!a) (!b)) fun al=>Qkv R (!al) (pIw r) fun ab=>Qkv R (!al) (Ka n ab 0 1 some) fun c=>Qks R (Qkq al (!c)) fun ao=>Qkv R (!ao) (pIw t) fun ac=>Qkv R (!ao) (Ka n ac 0 1 some) fun d=>Qks R (Qkq ao (!d)) fun ak=>Qkv R (!ak) (pIw u) fun ad=>Qkv R (!ak) (Ka n ad (-1:Int) (wJ ((i.length:Int)-1)) some) fun f=>Qks R (Qkq ak (!f)) fun am=>Qkv R (!am) (pIw v) fun ae=>Qkv R (!am) (Ka n ae 0 1 some) fun j=>Qks R (Qkq am (!j)) fun an=>Qkv R (!an) (pIw u) fun x=>Qkv R (!an&&decide (x<0)) (pIw v) fun ag=>bif Qkq an (Qkr (decide (x<0)) (ag !=0)) then K 4 else Ql2 R q r s t fun k l m o=>bif k==m&&l==o then K 1 else Kz n a1 h k l m o (K 5) (fun ai aj=>Qku R (Bn n p i g h a1 k l some) fun y=>Qkv R (!(!y)) (Bn n p i g h a1 m o some) fun ah=>bif Qkq (!y) (!ah) then K 11 else K 0) n 0
def ST (h2:LL) (k0:Qlm R) (k1:Qlp R):Qlq R
 | 0,_=>none
 | m+1,a=>Qks R (decide (a<(h2.length:Int))) fun c=>bif c then Qku R (M3 n h2 a some) fun b=>bif b !=0 then k0 b else ST h2 k0 k1 m (wJ (a+1)) else k1 a c
def R0 (b:LL) (k0:Qlm R) (k1:Qlp R):Qlq R
 | 0,_=>none
 | m+1,a=>Qks R (decide (a<(b.length:Int))) fun d=>bif d then Qku R (M3 n b a some) fun c=>bif c !=0 then k0 c else R0 b k0 k1 m (wJ (a+1)) else k1 a d
def Ja (g h e:LL) (k0:Qlm R) (k1:Qlp R):Qlq R
 | 0,_=>none
 | m+1,b=>Qks R (decide (b<(e.length:Int))) fun x=>bif x then Qku R (M3 n g b some) fun i=>bif i !=0 then k0 i else QkO R e b fun c j=>Qku R c[2]? fun k=>QkP R c fun l o=>Qku R (pIw j) fun p=>Qku R (Ka n p 1 400 some) fun a=>Qkv R (!(!a)) (pIw k) fun q=>Qkv R (!(!a)) (Ka n q 1000 100000 some) fun d=>Qks R (Qkq (!a) (!d)) fun v=>Qkv R (!v) (pIw l) fun r=>Qkv R (!v) (Ka n r (-40:Int) 40 some) fun f=>Qks R (Qkq v (!f)) fun y=>Qkv R (!y) (pIw o) fun s=>Qkv R (!y) (Ka n s (-1:Int) (wJ ((h.length:Int)-1)) some) fun t=>bif Qkq y (!t) then k0 4 else Ja g h e k0 k1 m (wJ (b+1)) else k1 b x
def J1 (c d e b:LL) (k0:Qlm R) (k1:Qlp R):Qlq R
 | 0,_=>none
 | m+1,a=>Qks R (decide (a<(b.length:Int))) fun g=>bif g then Qku R (JI n c d e b a some) fun f=>bif f !=0 then k0 f else J1 c d e b k0 k1 m (wJ (a+1)) else k1 a g
def JY (a c b d:LL) (K:Qlm R):oP R:=bif Qkq (Qkq (Qkq (decide ((a.length:Int)>24)) (decide ((c.length:Int)>48))) (decide ((b.length:Int)>96))) (decide ((d.length:Int)>192)) then K 7 else bif (b.length:Int)==0 then K 1 else ST n a (fun e=>K e) (fun j k=>R0 n c (fun f=>K f) (fun l m=>Qku R (KE n a c b d some) fun g=>Ja n g a b (fun h=>K h) (fun o p=>J1 n a c b d (fun i=>K i) (fun q r=>K 0) n 0) n 0) n 0) n 0
def Hp (n:Nat) (a0 a1 a2:Int) (K:Qlr R):oP R:=K (Qkr (decide (a0>=a1)) (decide (a0<=a2)))
def Zc (n:Nat) (c:LL) (b d:Int) (k0:Qln R):Qlo R
 | 0,_,_=>none
 | m+1,h2,a=>Qks R (decide (h2<(c.length:Int))) fun am=>bif am then QkH R c h2 fun e i j k=>Ql1 R e fun l g h=>Qkt R (wJ (h2+1)) fun an=>jn (fun (f aa:Int)=>(bif decide (f>=0) then bif aa==1 then QkF R g h fun o p=>Qkt R [[Q4 f,Q4 1,Q4 o,Q4 p]] fun ap=>Qku R (Y1 ((a.length+ap.length)*32)) fun ai=>Zc n c b d k0 m an (a++ap) else QkF R g h fun q r=>Qkt R [[Q4 f,Q4 0,Q4 q,Q4 r]] fun aq=>Qku R (Y1 ((a.length+aq.length)*32)) fun aj=>Zc n c b d k0 m an (a++aq) else Zc n c b d k0 m an a:oP R)) fun s=>Qku R (pIw i) fun t=>Qkv R (t==b) (pIw j) fun ab=>bif Qkr (t==b) (ab==d) then QkF R k l fun ac ad=>s ac ad else Qku R (pIw k) fun u=>Qkv R (u==b) (pIw l) fun ae=>bif Qkr (u==b) (ae==d) then QkF R i j fun ag ah=>s ag ah else bif decide ((-1:Int)>=0) then Qkt R (Q4 (-1:Int)) fun ao=>bif 0==1 then QkF R g h fun v x=>Qkt R [[ao,Q4 1,Q4 v,Q4 x]] fun ar=>Qku R (Y1 ((a.length+ar.length)*32)) fun ak=>Zc n c b d k0 m an (a++ar) else QkF R g h fun y z=>Qkt R [[ao,Q4 0,Q4 y,Q4 z]] fun au=>Qku R (Y1 ((a.length+au.length)*32)) fun al=>Zc n c b d k0 m an (a++au) else Zc n c b d k0 m an a else k0 h2 am a
def BJ (f g h a:LL) (b c:Int) (K:Qls R):oP R:=bif c==1 then Zc n a b 0 (fun i j d=>K d) n 0 [] else Zc n a b 1 (fun k l e=>K e) n 0 []
def PF (n:Nat) (h2:LL) (c d:Int) (k0:D->D->D->D->oP R) (k1:Qlp R):Qlq R
 | 0,_=>none
 | m+1,a=>Qks R (decide (a<(h2.length:Int))) fun p=>bif p then QkS R h2 a fun f g=>QkF R f g fun h i=>bif h==c&&i==d then QkW R h2 a fun j k l o=>k0 j k l o else PF n h2 c d k0 k1 m (wJ (a+1)) else k1 a p
def JO (a b c d:LL) (e f g h:Int) (K:D->D->D->D->Bool->oP R):oP R:=Qku R (BJ n a b c d e f some) fun i=>PF n i g h (fun j k l m=>K j k l m true) (fun o p=>K (Q4 0) (Q4 0) (Q4 0) (Q4 0) false) n 0
def YE (c a:LL) (k0:oP R) (k1:Qlp R):Qlq R
 | 0,_=>none
 | m+1,h2=>Qks R (decide (h2<(a.length:Int))) fun k=>bif k then QkG R a h2 fun f=>Qku R (Hp n f 0 (wJ ((c.length:Int)-1)) some) fun b=>Ql6 R a h2 (!(!b)) fun i=>Qkv R (!(!b)) (Hp n i 0 1 some) fun j=>bif Qkq (!b) (!j) then k0 else YE c a k0 k1 m (wJ (h2+1)) else k1 h2 k
def GH (n:Nat) (b:Int) (c:LL) (k0:oP R) (k1:Qlp R):Qlq R
 | 0,_=>none
 | m+1,a=>bif decide (a<b) then QkG R c a fun f=>QkG R c b fun i=>bif f==i then k0 else GH n b c k0 k1 m (wJ (a+1)) else k1 a (decide (a<b))
def VO (b:LL) (k0:oP R) (k1:Qlp R):Qlq R
 | 0,_=>none
 | m+1,a=>Qks R (decide (a<(b.length:Int))) fun e=>bif e then GH n a b k0 (fun c d=>VO b k0 k1 m (wJ (a+1))) n 0 else k1 a e
def Yz (c d e f b:LL) (k0:oP R) (k1:Qlp R):Qlq R
 | 0,_=>none
 | m+1,a=>Qks R (decide (a<(b.length:Int))) fun s=>bif s then QkS R b (wJ (a-1)) fun i j=>QkS R b a fun k l=>Ql2 R i j k l fun o p q r=>Qku R (JO n c d e f o p q r Tu5) fun x=>bif !x.2.2.2.2 then k0 else Yz c d e f b k0 k1 m (wJ (a+1)) else k1 a s
def VW (d e b f a:LL) (c:Int) (K:Qlm R):oP R:=Qku R (JY n d e b f some) fun g=>bif g !=0 then K 1 else bif Qkq (decide ((a.length:Int)>24)) (decide (c>2)) then K 7 else bif Qkq (decide (c<0)) (decide (wJ ((a.length:Int)-c)<2)) then K 4 else YE n b a (K 4) (fun h i=>VO n a (K 5) (fun j k=>Yz n d e b f a (K 11) (fun l m=>K 0) n 1) n 0) n 0
def NG (n:Nat) (a b:Int) (K:Qlw R):oP R:=bif b==0 then K a 0 else K a 1
def Zu (n:Nat) (d:LL) (b:Int) (k0:Qln R):Qlo R
 | 0,_,_=>none
 | m+1,a,c=>bif decide (a<b) then QkG R d a fun e=>Qku R (Y1 ((c.length+[[Q4 e,Q4 0]].length)*16)) fun h=>Zu n d b k0 m (wJ (a+1)) (c++[[Q4 e,Q4 0]]) else k0 a (decide (a<b)) c
def ZB (n:Nat) (c:LL) (k0:Qln R):Qlo R
 | 0,_,_=>none
 | m+1,a,b=>bif decide (a>=0) then QkG R c a fun d=>Qku R (Y1 ((b.length+[[Q4 d,Q4 1]].length)*16)) fun g=>ZB n c k0 m (wJ (a-1)) (b++[[Q4 d,Q4 1]]) else k0 a (decide (a>=0)) b
def Ys (a c:LL) (a1 a2 d:Int) (p:Bool) (K:Qlt R):oP R:=QkU R c.length a1 c a1.toNat fun b=>Qkt R (wJ (a1+1)) fun aw=>Qkt R (Int.toNat aw) fun ax=>bif p then QkU R a.length a1 a a1.toNat fun s=>QkU R a.length a1 a a1.toNat fun e=>Qku R (nz (e.length:Int)) fun az=>QkG R s (Int.tmod a2 (e.length:Int)) fun f=>Qku R (Y1 ([[Q4 f,Q4 0]].length*16)) fun ba=>Zu n b (b.length:Int) (fun bb bc g=>QkU R a.length aw a ax fun aa=>QkU R a.length aw a ax fun h=>Qku R (nz (h.length:Int)) fun bg=>QkG R aa (Int.tmod d (h.length:Int)) fun i=>Qku R (Y1 ((g.length+[[Q4 i,Q4 0]].length)*16)) fun bh=>K (g++[[Q4 i,Q4 0]]) 0) n 0 [[Q4 f,Q4 0]] else QkU R a.length aw a ax fun ai=>QkU R a.length aw a ax fun j=>Qku R (nz (j.length:Int)) fun bk=>QkG R ai (Int.tmod d (j.length:Int)) fun k=>Qku R (Y1 ([[Q4 k,Q4 1]].length*16)) fun bl=>ZB n b (fun bm bn l=>QkU R a.length a1 a a1.toNat fun ap=>QkU R a.length a1 a a1.toNat fun m=>Qku R (nz (m.length:Int)) fun bq=>QkG R ap (Int.tmod a2 (m.length:Int)) fun o=>Qku R (Y1 ((l.length+[[Q4 o,Q4 1]].length)*16)) fun br=>K (l++[[Q4 o,Q4 1]]) 0) n (wJ ((b.length:Int)-1)) [[Q4 k,Q4 1]]
def ZT (c:LL) (k0:Int->Bool->LL->Int->oP R):Nat->Int->LL->Int->oP R
 | 0,_,_,_=>none
 | m+1,a,b,d=>bif decide (a<3) then Qku R (Q5 n c d 2 Tu2) fun e=>QkI R 3 a b a.toNat fun h=>ZT c k0 m (wJ (a+1)) (List.set b a.toNat (List.set h 0 (Q4 e.1))) e.2 else k0 a (decide (a<3)) b d
def QB (k:Bool) (g:Int) (j l o h:LL) (k0:QlE R):QlF R
 | 0,_,_,_,_=>none
 | m+1,a,i,b,t=>bif decide (a<g) then Qkt R (wJ (a+1)) fun ba=>Qks R (decide (ba<g)) fun c=>bif !k then Qkt R (wJ (wJ (g-1)-a)) fun ax=>QkK R 3 ax j (Int.toNat ax) fun z=>QkK R 3 (wJ (ax+1)) j (Int.toNat (wJ (ax+1))) fun ac=>Qku R (Ys n l o ax z ac k Tu2) fun e=>Qkt R [[D.sl 2 e.1,Q4 e.2]] fun az=>Qku R (Y1 ((b.length+az.length)*32)) fun am=>Qku R (Q5 n h t 3 Tu2) fun p=>Qkt R (Q4 (wJ (((List.length (b++az):Nat):Int)-1))) fun aw=>bif c then Qku R (Q5 n h p.2 6 Tu2) fun r=>Qku R (Q5 n h r.2 4 Tu2) fun u=>Qkt R [[aw,Q4 p.1,Q4 (wJ (5+r.1)),Q4 (wJ (wJ (5+r.1)+u.1))]] fun bb=>Qku R (Y1 ((i.length+List.length bb)*32)) fun an=>QB k g j l o h k0 m ba (i++bb) (b++az) u.2 else Qkt R [[aw,Q4 p.1,Q4 0,Q4 0]] fun be=>Qku R (Y1 ((i.length+List.length be)*32)) fun ao=>QB k g j l o h k0 m ba (i++be) (b++az) p.2 else QkK R 3 a j a.toNat fun ag=>QkK R 3 ba j (Int.toNat ba) fun aj=>Qku R (Ys n l o a ag aj k Tu2) fun f=>Qkt R [[D.sl 2 f.1,Q4 f.2]] fun ay=>Qku R (Y1 ((b.length+ay.length)*32)) fun ar=>Qku R (Q5 n h t 3 Tu2) fun q=>Qkt R (Q4 (wJ (((List.length (b++ay):Nat):Int)-1))) fun d=>bif c then Qku R (Q5 n h q.2 6 Tu2) fun s=>Qku R (Q5 n h s.2 4 Tu2) fun v=>Qkt R [[d,Q4 q.1,Q4 (wJ (5+s.1)),Q4 (wJ (wJ (5+s.1)+v.1))]] fun bc=>Qku R (Y1 ((i.length+List.length bc)*32)) fun au=>QB k g j l o h k0 m ba (i++bc) (b++ay) v.2 else Qkt R [[d,Q4 q.1,Q4 0,Q4 0]] fun bh=>Qku R (Y1 ((i.length+List.length bh)*32)) fun av=>QB k g j l o h k0 m ba (i++bh) (b++ay) q.2 else k0 a (decide (a<g)) i b t
def UN (e f b:LL) (g:Int) (h c:LL) (i:Bool) (j:Int) (K:Int->LL->LL->oP R):oP R:=Qku R (Vw n (bs [78]) (c.length:Int) some) fun a=>Qku R (Q5 n b g 4 Tu2) fun r2=>ZT n b (fun q r l m=>QB n i j l e f b (fun s t d o p=>Qkt R [[D.str a,Q4 0,Q4 r2.1,D.sl 4 d]] fun k=>Qku R (Y1 ((c.length+k.length)*56)) fun u=>K p o (c++k)) n 0 [] h m) n 0 [[Q4 0],[Q4 0],[Q4 0]] r2.2
def NN (n:Nat) (q:Int) (r c d s t u v:LL) (a1 a2:Int) (K:Qlm R):oP R:=QkQ R d a1 fun g=>QkG R g a2 fun j=>QkJ R c j fun a b=>Qku R a[1]? fun x=>Qku R (pSl 2 b) fun k=>Qku R (pSl 2 b) fun l=>QkG R k (wJ ((l.length:Int)-1)) fun p=>K p
def PW (n:Nat) (p:Int) (q a b r s t u:LL) (a1 a2:Int) (K:Qlm R):oP R:=QkQ R b a1 fun e=>QkG R e a2 fun h=>Qli R a h fun k=>QkG R k 0 fun o=>K o
def Yl (c p:Int) (q r f s t u h:LL) (v:Int) (k0:QlG R):QlH R
 | 0,_,_,_,_,_=>none
 | m+1,b,i,j,g,y=>bif decide (b<p) then Qku R (Q5 n h y 3 Tu2) fun a=>Qks R (decide (a.1>0)) fun ar=>Qkv R ar (inB 4 c) fun al=>Qkv R ar i[c.toNat]? fun z=>Qkv R ar z[0]? fun aa=>Qkv R ar (Ko aa) fun d=>Qks R (Qkr ar (!d)) fun k=>Qkv R k (inB 4 b) fun am=>Qkv R k j[b.toNat]? fun ab=>Qkv R k ab[0]? fun ac=>Qkv R k (Ko ac) fun e=>Qks R (Qkr k (!e)) fun l=>Qkv R l (inB f.length c) fun an=>Qkv R l f[c.toNat]? fun ad=>Qkv R l ad[3]? fun ae=>Qkv R l (pSl 4 ae) fun ag=>Qkv R l (NN n v q r f s g t u c (wJ ((ag.length:Int)-1)) some) fun ah=>Qkv R l (PW n v q r f s g t u b 0 some) fun ai=>bif Qkr l (ah==ai) then QkI R 4 c i c.toNat fun aj=>QkI R 4 b j b.toNat fun ak=>Qku R (Q5 n h a.2 10 Tu2) fun o=>Qku R (Q5 n h o.2 30 Tu2) fun x=>Qkt R [[Q4 c,Q4 b,Q4 (wJ (10+o.1)),Q4 (wJ (wJ (10+o.1)+x.1))]] fun au=>Qku R (Y1 ((g.length+au.length)*32)) fun aq=>Yl c p q r f s t u h v k0 m (wJ (b+1)) (List.set i c.toNat (List.set aj 0 (D.bool true))) (List.set j b.toNat (List.set ak 0 (D.bool true))) (g++au) x.2 else Yl c p q r f s t u h v k0 m (wJ (b+1)) i j g a.2 else k0 b (decide (b<p)) i j g y
def WX (a:Int) (c d b e f g h:LL) (i:Int) (k0:QlG R):QlH R
 | 0,_,_,_,_,_=>none
 | m+1,h2,j,k,l,o=>bif decide (h2<a) then Yl n h2 (b.length:Int) c d b e f g h i (fun t u p q r s=>WX a c d b e f g h i k0 m (wJ (h2+1)) p q r s) n 0 j k l o else k0 h2 (decide (h2<a)) j k l o
def Rp (b:LL) (c d:Int) (e f a g h i j:LL) (K:QlB R):oP R:=Qkt R [D.bool false] fun r=>WX n (a.length:Int) e f a g i j b d (fun m o p q k l=>K l k) n 0 [r,r,r,r] [r,r,r,r] h c
def AB (n:Nat) (a0:LL) (K:Qlt R):oP R:=K a0 0
def G0 (c g e:LL) (k0:Int->Bool->Int->LL->LL->oP R):QlD R
 | 0,_,_,_,_=>none
 | m+1,d,h,i,j=>bif decide (d>0) then Qku R (Q5 n c h 2 Tu2) fun k=>Qku R (Q5 n c k.2 (e.length:Int) Tu2) fun l=>gb true (UN n g e c l.2 i j (k.1==0) (wJ (1+l.1)) Tu3) (0,[],[]) fun f=>G0 c g e k0 m (wJ (d-1)) f.1 f.2.1 f.2.2 else k0 d (decide (d>0)) h i j
def VX (h:Int) (e k l a f o:LL) (k0:QlI R):QlA R
 | 0,_,_,_=>none
 | m+1,i,t,g=>Qkt R (a.length:Int) fun ar=>Qks R (Qkr (decide (i>0)) (decide (ar>1))) fun b=>bif b then Qku R (Q5 n e t ar Tu2) fun d=>Qku R (Q5 n e d.2 3 Tu2) fun s=>Qku R (nz ar) fun ak=>QkI R a.length d.1 a (Int.toNat d.1) fun x=>Qku R x[3]? fun y=>Qku R (pSl 4 y) fun z=>Qku R (Q5 n e s.2 (z.length:Int) Tu2) fun p=>Qkt R (Int.tmod (wJ (d.1+1)) ar) fun c=>QkI R a.length c a (Int.toNat c) fun aa=>Qku R aa[3]? fun ab=>Qku R (pSl 4 ab) fun ac=>Qku R (Q5 n e p.2 (ac.length:Int) Tu2) fun q=>Qku R (Q5 n e q.2 20 Tu2) fun j=>Qku R (Q5 n e j.2 h Tu2) fun r=>Qku R (NN n h k l a g o [] [] d.1 p.1 some) fun u=>QkI R f.length u f u.toNat fun ad=>Qlg R ad fun ag=>Qku R (PW n h k l a g o [] [] c q.1 some) fun v=>QkI R f.length v f v.toNat fun ah=>Qlg R ah fun aj=>bif ag==aj then Qkt R [[Q4 d.1,Q4 p.1,Q4 c,Q4 q.1,Q4 j.1,Q4 (wJ (j.1+r.1)),Q4 s.1]] fun aq=>Qku R (Y1 ((g.length+aq.length)*56)) fun ap=>VX h e k l a f o k0 m (wJ (i-1)) r.2 (g++aq) else VX h e k l a f o k0 m (wJ (i-1)) r.2 g else k0 i b t g
def V8 (e a:LL) (k0:QlI R):QlA R
 | 0,_,_,_=>none
 | m+1,f,j,g=>bif decide (f>0) then Qkt R (a.length:Int) fun c=>Qku R (Q5 n e j c Tu2) fun d=>Qku R (Q5 n e d.2 (wJ (c-1)) Tu2) fun h=>Qku R (nz c) fun k=>Qku R (Q5 n e h.2 9 Tu2) fun i=>Qkt R [[Q4 d.1,Q4 (Int.tmod (wJ (wJ (d.1+1)+h.1)) c),Q4 (wJ (1+i.1))]] fun b=>Qku R (Y1 ((g.length+b.length)*24)) fun l=>V8 e a k0 m (wJ (f-1)) i.2 (g++b) else k0 f (decide (f>0)) j g
def KT (e a:LL) (k0:QlI R):QlA R
 | 0,_,_,_=>none
 | m+1,f,j,g=>bif decide (f>0) then Qkt R (a.length:Int) fun c=>Qku R (Q5 n e j c Tu2) fun d=>Qku R (Q5 n e d.2 (wJ (c-1)) Tu2) fun h=>Qku R (nz c) fun k=>Qku R (Q5 n e h.2 9 Tu2) fun i=>Qkt R [[Q4 d.1,Q4 (Int.tmod (wJ (wJ (d.1+1)+h.1)) c),Q4 (wJ (1+i.1))]] fun b=>Qku R (Y1 ((g.length+b.length)*24)) fun l=>KT e a k0 m (wJ (f-1)) i.2 (g++b) else k0 f (decide (f>0)) j g
def Si (a0:LL) (K:LL->LL->LL->LL->Int->LL->LL->LL->LL->LL->LL->LL->oP R):oP R:=Qku R (AB n a0 Tu2) fun a=>gb true (Q2u n a.1 a.2 Tu8) ([],[],[],[],[],[],[],0) fun r2=>Qku R (Q5 n a.1 r2.2.2.2.2.2.2.2 6 Tu2) fun c=>Qkt R [[Q4 150],[Q4 120],[Q4 180],[Q4 240],[Q4 300],[Q4 90]] fun u=>QkK R (List.length u) c.1 u (Int.toNat c.1) fun d=>Qku R (Q5 n a.1 c.2 2 Tu2) fun e=>Qku R (Q5 n a.1 e.2 4 Tu2) fun f=>Qku R (Q5 n a.1 f.2 3 Tu2) fun g=>Qku R (Q5 n a.1 g.2 3 Tu2) fun h=>Qku R (Q5 n a.1 h.2 3 Tu2) fun p=>G0 n a.1 r2.2.2.2.2.1 r2.2.2.2.2.2.1 (fun ad ae y j i=>Qkt R [[D.str (bs [88]),Q4 (wJ (1+e.1)),Q4 (wJ (10000+wJ (5000*f.1))),Q4 (wJ (400+wJ (200*g.1))),Q4 (wJ (400+wJ (200*h.1)))]] fun b=>gb true (Rp n a.1 y d b j i [] [] [] [] Tu2) (0,[]) fun k=>Qku R (Q5 n a.1 k.1 3 Tu2) fun q=>VX n d a.1 b j i r2.2.2.1 k.2 (fun ag ah z r=>Qku R (Q5 n a.1 z 4 Tu2) fun m=>bif Qkr (m.1==3) (decide ((i.length:Int)>1)) then Qku R (Q5 n a.1 m.2 d Tu2) fun o=>Qkt R [[Q4 0,Q4 0,Q4 1,Q4 0,Q4 o.1]] fun v=>Qku R (Y1 ((List.length ([]:LL)+v.length)*40)) fun ai=>Qku R (Q5 n a.1 o.2 3 Tu2) fun s=>V8 n a.1 r2.1 (fun aj ak al aa=>K r2.1 r2.2.1 r2.2.2.1 r2.2.2.2.1 d b j i r k.2 ([]++v) aa) n s.1 s.2 [] else Qku R (Q5 n a.1 m.2 3 Tu2) fun t=>KT n a.1 r2.1 (fun am an ao ab=>K r2.1 r2.2.1 r2.2.2.1 r2.2.2.2.1 d b j i r k.2 [] ab) n t.1 t.2 []) n q.1 q.2 []) n (wJ (1+p.1)) p.2 [] []
def Vc (n:Nat) (a b:List UInt8) (K:Qlr R):oP R:=K (a==b)
def QL (c:LL) (h2:Int) (d:List UInt8) (k0:Qlm R) (k1:Qlp R):Qlq R
 | 0,_=>none
 | m+1,a=>bif decide (a<h2) then QkH R c a fun b e f g=>QkP R b fun h i=>Qku R (N5 e) fun j=>QkV R f g (QkV R h i (Qku R (Vc n j d some) fun k=>bif k then k0 a else QL c h2 d k0 k1 m (wJ (a+1)))) else k1 a (decide (a<h2))
def XF (a0:LL) (a:List UInt8) (K:Qlm R):oP R:=QL n a0 (a0.length:Int) a (fun b=>K b) (fun c d=>K (-1:Int)) n 0
def Xs (a0:LL) (a:List UInt8) (K:Qlr R):oP R:=Qku R (XF n a0 a some) fun b=>K (decide (b>=0))
def JM (d:LL) (h2:Int) (c:LL) (k0:Qlm R) (k1:Qlp R):Qlq R
 | 0,_=>none
 | m+1,a=>bif decide (a<h2) then QkH R d a fun b e g h=>QkP R b fun i j=>Qku R (N5 e) fun k=>Qku R (Ks n k some) fun l=>bif !l then k0 3 else Qku R (slB c.length none (some a)) fun o=>Qku R (N5 e) fun f=>Ql2 R g h i j fun p q r s=>Qku R (Xs n (cut c o) f some) fun t=>bif t then k0 5 else Qku R (Uu n f p q r s some) fun u=>bif !u then k0 4 else JM d h2 c k0 k1 m (wJ (a+1)) else k1 a (decide (a<h2))
def U2 (c d e f:LL) (g:Int) (a h i j k l m:LL) (K:Qlm R):oP R:=JM n a (a.length:Int) a (fun b=>K b) (fun o p=>K 0) n 0
def ZJ (n:Nat) (a b:List UInt8) (K:Qlr R):oP R:=K (a==b)
def Qa (c:LL) (h2:Int) (d:List UInt8) (k0:Qlm R) (k1:Qlp R):Qlq R
 | 0,_=>none
 | m+1,a=>bif decide (a<h2) then QkW R c a fun e f g h=>Qku R (N5 e) fun i=>QkV R f g (Qku R (pSl 4 h) fun o=>Qku R (ZJ n i d some) fun j=>bif j then k0 a else Qa c h2 d k0 k1 m (wJ (a+1))) else k1 a (decide (a<h2))
def QU (a0:LL) (a:List UInt8) (K:Qlm R):oP R:=Qa n a0 (a0.length:Int) a (fun b=>K b) (fun c d=>K (-1:Int)) n 0
def Qn (a0:LL) (a:List UInt8) (K:Qlr R):oP R:=Qku R (QU n a0 a some) fun b=>K (decide (b>=0))
def Tp (n:Nat) (a0:Int) (K:Qlr R):oP R:=K (Qkr (decide (a0>=0)) (decide (a0<=1048576)))
def Ki (n:Nat) (a:Int) (b c d e f g h:LL) (a1 a2:Int) (K:Qlr R):oP R:=K (Qkr (Qkr (Qkr (decide (0<=a1)) (decide (a1<=a2))) (decide (a2<=7200))) (decide (a2<wJ (a1+a))))
def Th (n:Nat) (i:Int) (j a k l m o p:LL) (b q r s:Int) (K:Qlm R):oP R:=Qli R a b fun e=>QkG R e 0 fun h=>K h
def S9 (n:Nat) (l:Int) (m a o p q r s:LL) (b t u v:Int) (K:Qlm R):oP R:=Qli R a b fun c=>QkR R a b fun h=>QkG R c (wJ (wJ ((c.length:Int)-h)-1)) fun k=>K k
def JZ (n:Nat) (b:Int) (c d a e f g h:LL) (a1:Int) (K:Qlr R):oP R:=K (Qkr (decide (a1>=0)) (decide (a1<(a.length:Int))))
def Ua (c:Int) (d e b f g h i:LL) (a1 a2:Int) (K:Qlr R):oP R:=Qku R (JZ n c d e b f g h i a1 some) fun a=>Qks R (Qkr a (decide (a2>=0))) fun l=>Qkv R l (Q1 b a1) fun r2=>Qkv R l r2[3]? fun j=>Qkv R l (pSl 4 j) fun k=>K (Qkr l (decide (a2<(k.length:Int))))
def YJ (x:LL) (h2:Int) (s:LL) (e:Int) (f g b h i j k:LL) (k0:Qlm R) (k1:Qlp R):Qlq R
 | 0,_=>none
 | m+1,p=>bif decide (p<h2) then QkH R x p fun d t y u=>Ql1 R d fun z ab ac=>Qku R d[6]? fun ad=>QkF R t y fun ae ag=>Qku R (Ua n e f g b h i j k ae ag some) fun a=>QkN R u (!(!a)) z fun ah ai=>Qkv R (!(!a)) (Ua n e f g b h i j k ah ai some) fun c=>Qks R (Qkq (!a) (!c)) fun cb=>QkN R t (!cb) u fun l o=>Qks R (Qkq cb (l==o)) fun ca=>QkN R ab (!ca) ac fun aj ak=>Qkv R (!ca) (Ki n e f g b h i j k aj ak some) fun v=>Qks R (Qkq ca (!v)) fun cc=>Qkv R (!cc) (pIw ad) fun al=>Qkv R (!cc) (Tp n al some) fun am=>bif Qkq cc (!am) then k0 4 else Qku R (pIw t) fun an=>QkQ R b an fun aq=>Qku R (pIw y) fun ar=>QkW R aq ar fun au av aw ax=>Ql2 R au av aw ax fun ay az ba bb=>Qku R (S9 n e f g b h i j k ay az ba bb some) fun bc=>Qku R (Q1 s bc) fun bd=>Qku R bd[4]? fun be=>QkF R be u fun aa bg=>QkQ R b bg fun bj=>Qku R (pIw z) fun bk=>QkW R bj bk fun bl bm bn bo=>Ql2 R bl bm bn bo fun bp bq br bt=>Qku R (Th n e f g b h i j k bp bq br bt some) fun bu=>Qku R (Q1 s bu) fun bv=>Qlg R bv fun bz=>bif Qkq (aa==(-1:Int)) (aa !=bz) then k0 11 else YJ x h2 s e f g b h i j k k0 k1 m (wJ (p+1)) else k1 p (decide (p<h2))
def Wn (k l b m:LL) (c:Int) (d e f a g h i:LL) (K:Qlm R):oP R:=YJ n a (a.length:Int) b c d e f a g h i (fun j=>K j) (fun o p=>K 0) n 0
def ZG (n:Nat) (a b c d:Int) (K:Qlr R):oP R:=K (Qkq (a==c) (b==d))
def Qb (c:LL) (h2 d e:Int) (k0:Qlm R) (k1:Qlp R):Qlq R
 | 0,_=>none
 | m+1,a=>bif decide (a<h2) then QkW R c a fun f g h i=>QkF R f g fun j k=>QkV R h i (Qku R (ZG n j k d e some) fun l=>bif l then k0 a else Qb c h2 d e k0 k1 m (wJ (a+1))) else k1 a (decide (a<h2))
def QV (a0:LL) (a b:Int) (K:Qlm R):oP R:=Qb n a0 (a0.length:Int) a b (fun c=>K c) (fun d e=>K (-1:Int)) n 0
def Ql (a0:LL) (a b:Int) (K:Qlr R):oP R:=Qku R (QV n a0 a b some) fun c=>K (decide (c>=0))
def ZD (u:LL) (h2 c:Int) (d e a f b g h:LL) (k0:Qlm R) (k1:Qlp R):Qlq R
 | 0,_=>none
 | m+1,i=>bif decide (i<h2) then QkW R u i fun v x y z=>Qku R (pIw v) fun ad=>Qku R (JZ n c d e a f b g h ad some) fun j=>Qkv R (!(!j)) (pIw x) fun ae=>Qkv R (!(!j)) (JZ n c d e a f b g h ae some) fun l=>Qks R (Qkq (!j) (!l)) fun bt=>QkN R y (!bt) z fun ag ah=>Qkv R (!bt) (Ki n c d e a f b g h ag ah some) fun ai=>bif Qkq bt (!ai) then k0 4 else Qku R (slB b.length none (some i)) fun aj=>QkF R v x fun aa ab=>QkV R y z (Qku R (Ql n (cut b aj) aa ab some) fun ak=>bif ak then k0 5 else QkO R a aa fun o al=>Ql9 R o fun ac=>QkO R a ab fun p am=>Ql9 R p fun an=>Qku R (pSl 4 ac) fun ao=>Qku R (pSl 4 ac) fun ap=>QkW R ao (wJ ((ap.length:Int)-1)) fun aq ar au av=>Ql2 R aq ar au av fun aw ax ay az=>Qku R (S9 n c d e a f b g h aw ax ay az some) fun s=>Qku R (pSl 4 an) fun ba=>QkW R ba 0 fun bb bc bd be=>Ql2 R bb bc bd be fun bg bh bi bj=>Qku R (Th n c d e a f b g h bg bh bi bj some) fun t=>QkN R al (!(s !=t)) am fun bk bl=>bif Qkq (s !=t) (bk !=bl) then k0 11 else ZD u h2 c d e a f b g h k0 k1 m (wJ (i+1))) else k1 i (decide (i<h2))
def V1 (j k l m:LL) (b:Int) (c d e f a g h:LL) (K:Qlm R):oP R:=ZD n a (a.length:Int) b c d e f a g h (fun i=>K i) (fun o p=>K 0) n 0
def Zq (s:LL) (h2 g:Int) (h i j k l o p:LL) (k0:oP R) (k1:Qlp R):Qlq R
 | 0,_=>none
 | m+1,c=>bif decide (c<h2) then QkH R s c fun d t u v=>QkP R d fun x y=>QkF R t u fun aa ab=>Qku R (Ua n g h i j k l o p aa ab some) fun a=>QkN R v (!(!a)) x fun ac ad=>Qkv R (!(!a)) (Ua n g h i j k l o p ac ad some) fun b=>Qks R (Qkq (!a) (!b)) fun ag=>QkN R t (!ag) v fun e f=>QkN R u (!ag&&e==f) x fun q r=>Qks R (Qkq ag (Qkr (e==f) (q==r))) fun ah=>Qkv R (!ah) (pIw y) fun z=>Qks R (Qkq ah (decide (z<0))) fun ai=>Qkv R (!ai) (pIw y) fun ae=>bif Qkq ai (decide (ae>=g)) then k0 else Zq s h2 g h i j k l o p k0 k1 m (wJ (c+1)) else k1 c (decide (c<h2))
def UT (i j k l:LL) (b:Int) (c d e f g a h:LL) (K:Qlm R):oP R:=Zq n a (a.length:Int) b c d e f g a h (K 4) (fun m o=>K 0) n 0
def YI (n:Nat) (l:LL) (h2:Int) (a:LL) (k0:oP R) (k1:Qlp R):Qlq R
 | 0,_=>none
 | m+1,e=>bif decide (e<h2) then QkT R l e fun h i o=>Qku R (pIw h) fun b=>Qkv R (!(decide (b<0))) (pIw h) fun c=>Qks R (Qkq (decide (b<0)) (decide (c>=(a.length:Int)))) fun s=>Qkv R (!s) (pIw i) fun d=>Qks R (Qkq s (decide (d<0))) fun u=>Qkv R (!u) (pIw i) fun f=>Qks R (Qkq u (decide (f>=(a.length:Int)))) fun r=>QkN R h (!r) i fun j k=>Qkv R (!(Qkq r (j==k))) (pIw o) fun p=>Qks R (Qkq (Qkq r (j==k)) (decide (p<1))) fun t=>Qkv R (!t) (pIw o) fun q=>bif Qkq t (decide (q>1048576)) then k0 else YI n l h2 a k0 k1 m (wJ (e+1)) else k1 e (decide (e<h2))
def Wg (b c d e:LL) (f:Int) (g h i j k l a:LL) (K:Qlm R):oP R:=YI n a (a.length:Int) b (K 4) (fun m o=>K 0) n 0
def U8 (n:Nat) (b:Int) (d e:D) (k0:Qln R):Qlo R
 | 0,_,_=>none
 | m+1,a,c=>Qku R (pIw d) fun f=>bif decide (a<f) then Qku R (pIw e) fun g=>Qku R (Y1 ((c.length+[[Q4 g,Q4 b]].length)*16)) fun h=>U8 n b d e k0 m (wJ (a+1)) (c++[[Q4 g,Q4 b]]) else k0 a (decide (a<f)) c
def Ui (d a:LL) (c:Int) (k0:Qln R):Qlo R
 | 0,_,_=>none
 | m+1,h2,e=>Qks R (decide (h2<wJ ((a.length:Int)-c))) fun aa=>bif aa then QkG R a h2 fun k=>QkO R d k fun b f=>Ql8 R b fun g l=>Qku R b[4]? fun u=>Qku R (pIw l) fun h=>QkR R a h2 fun q=>bif q==1 then U8 n (wJ (0-h)) f g (fun v x r=>Ui d a c k0 m (wJ (h2+1)) r) n 0 e else U8 n h f g (fun y z s=>Ui d a c k0 m (wJ (h2+1)) s) n 0 e else k0 h2 aa e
def PZ (f g a h b:LL) (c:Int) (K:Qlz R):oP R:=Qku R (VW n f g a h b c some) fun d=>bif d !=0 then K [] 0 d else Ui n a b c (fun p q e=>bif decide ((e.length:Int)>4000) then K [] 0 7 else QkG R b 0 fun k=>QkR R a k fun o=>K e o 0) n 0 []
def XV (h:List UInt8) (c d e f:Int) (K:Qlr R):oP R:=Qku R (Hp n c 1 40 some) fun a=>Qkv R a (Hp n d 1000 100000 some) fun r2=>Qks R (Qkr a r2) fun i=>Qkv R i (Hp n e 100 2000 some) fun b=>Qkv R (Qkr i b) (Hp n f 100 2000 some) fun g=>K (Qkr (Qkr i b) g)
def G6 (n:Nat) (e b:LL) (c d:Int) (k0:oP R) (k1:Qlp R):Qlq R
 | 0,_=>none
 | m+1,a=>Qks R (decide (a<wJ ((b.length:Int)-c))) fun l=>bif l then QkG R b a fun h=>QkR R e h fun k=>bif decide (k<(if 2<d then d else 2)) then k0 else G6 n e b c d k0 k1 m (wJ (a+1)) else k1 a l
def Sw (f g b h c:LL) (d:Int) (i:List UInt8) (e j k l:Int) (K:Qlm R):oP R:=Qku R (PZ n f g b h c d Tu3) fun a=>bif a.2.2 !=0 then K a.2.2 else Qku R (XV n i e j k l some) fun r2=>bif !r2 then K 1 else G6 n b c d e (K 12) (fun o p=>K 0) n 0
def G3 (n:Nat) (b:LL) (k0:oP R) (k1:Qlp R):Qlq R
 | 0,_=>none
 | m+1,a=>Qks R (decide (a<(b.length:Int))) fun f=>bif f then QkQ R b a fun e=>bif decide ((e.length:Int)>12) then k0 else G3 n b k0 k1 m (wJ (a+1)) else k1 a f
def LU (h:Int) (b c a d e f g:LL) (K:Qlr R):oP R:=bif Qkq (Qkq (Qkq (Qkq (Qkq (Qkq (decide ((b.length:Int)>8)) (decide ((c.length:Int)>48))) (decide ((a.length:Int)>16))) (decide ((d.length:Int)>32))) (decide ((e.length:Int)>32))) (decide ((f.length:Int)>32))) (decide ((g.length:Int)>32)) then K true else G3 n a (K true) (fun i j=>K false) n 0
def VF (n:Nat) (a0 a1 a2:Int) (K:Qlr R):oP R:=K (Qkr (decide (a0>=a1)) (decide (a0<=a2)))
def GK (n:Nat) (b:Int) (c:LL) (k0:oP R) (k1:Qlp R):Qlq R
 | 0,_=>none
 | m+1,a=>bif decide (a<b) then Qlb R c a fun f=>Qlb R c b fun i=>bif f==i then k0 else GK n b c k0 k1 m (wJ (a+1)) else k1 a (decide (a<b))
def Gq (s:Int) (b t u v x y z:LL) (a1:Int) (K:Qlm R):oP R:=Qlb R b a1 fun e=>Qku R (NI n e some) fun f=>bif !f then K 3 else GK n a1 b (K 5) (fun aa ab=>QkH R b a1 fun a g h i=>QkP R a fun j k=>Qku R (N5 g) fun l=>Ql2 R h i j k fun m o p q=>Qku R (XV n l m o p q some) fun r=>bif !r then K 4 else K 0) n 0
def K8 (n:Nat) (a:Int) (b c d e f g h:LL) (a1 a2:Int) (K:Qlr R):oP R:=K (Qkr (Qkr (Qkr (decide (a1>=0)) (decide (a1<=a2))) (decide (a2<wJ (a1+a)))) (decide (a2<=7200)))
def Ti (n:Nat) (a:LL) (e:Int) (K:Qlm R):oP R:=QkG R a 0 fun d=>K d
def PX (n:Nat) (a:LL) (b:Int) (K:Qlm R):oP R:=QkG R a (wJ (wJ ((a.length:Int)-b)-1)) fun e=>K e
def Wq (n:Nat) (b:Int) (c:LL) (d:D) (k0:oP R) (k1:Qlp R):Qlq R
 | 0,_=>none
 | m+1,a=>bif decide (a<b) then Qlb R c a fun g=>Qku R (N5 d) fun h=>bif g==h then k0 else Wq n b c d k0 k1 m (wJ (a+1)) else k1 a (decide (a<b))
def Wi (o p q r:LL) (h:Int) (i c s t u v x:LL) (y e:D) (k0:Qlm R) (k1:Qlp R):Qlq R
 | 0,_=>none
 | m+1,a=>Qku R (pSl 4 e) fun z=>Qks R (decide (a<(z.length:Int))) fun ce=>bif ce then Qku R (pSl 4 e) fun ai=>QkW R ai a fun j aj aa ab=>Qku R (pSl 4 e) fun k=>Qku R (pIw j) fun ak=>Qku R (VF n ak 0 (wJ ((c.length:Int)-1)) some) fun b=>Qkv R (!(!b)) (pIw aj) fun al=>Qkv R (!(!b)) (VF n al 0 (wJ (h-1)) some) fun d=>Qks R (Qkq (!b) (!d)) fun cb=>QkN R aa (!cb) ab fun am an=>Qkv R (!cb) (K8 n h i c s t u v x am an some) fun l=>Qks R (a==wJ ((k.length:Int)-1)) fun cc=>Qks R (Qkq cb (!l)) fun cf=>Qkv R (!cf&&cc) (pIw aa) fun ac=>Qkv R (!cf&&cc&&!(ac !=0)) (pIw ab) fun ao=>bif Qkq cf (Qkr cc (Qkq (ac !=0) (ao !=0))) then k0 4 else Qlf R j c fun aq ar=>QkM R y i aq ar fun ba bb bc bd be bg bh=>Qku R (Sw n o p q r ba bb bc bd be bg bh some) fun ae=>bif ae !=0 then k0 ae else Qks R (decide (a>0)) fun ca=>Qkv R ca (pIw j) fun bi=>Qkv R ca (Q1 c bi) fun ag=>Qlj R ag ca fun bj bk=>Qkv R ca (pSl 2 bj) fun bl=>Qkv R ca (pIw bk) fun bm=>Qkv R ca (Ti n bl bm some) fun bn=>Qkv R ca (pSl 4 e) fun bo=>Qkv R ca (Q1 bo (wJ (a-1))) fun bp=>Qle R bp ca fun br=>Qkv R ca (Q1 c br) fun ah=>Qlj R ah ca fun bt bu=>Qkv R ca (pSl 2 bt) fun bv=>Qkv R ca (pIw bu) fun bx=>Qkv R ca (PX n bv bx some) fun bz=>bif Qkr ca (bn !=bz) then k0 11 else Wi o p q r h i c s t u v x y e k0 k1 m (wJ (a+1)) else k1 a ce
def KH (h i j k:LL) (l:Int) (d m b o p q r:LL) (a2:Int) (K:Qlm R):oP R:=QkW R b a2 fun e f s g=>Qku R (N5 e) fun t=>Qku R (NI n t some) fun u=>bif !u then K 3 else Wq n a2 b e (K 5) (fun ab ac=>Qku R (pIw f) fun v=>Qku R (VF n v 0 (wJ ((d.length:Int)-1)) some) fun c=>Qkv R (!(!c)) (pIw s) fun x=>Qkv R (!(!c)) (VF n x 0 1048576 some) fun y=>bif Qkq (!c) (!y) then K 4 else Qku R (pSl 4 g) fun z=>bif (z.length:Int)==0 then K 1 else Wi n h i j k l d m b o p q r f g (fun aa=>K aa) (fun ad ae=>K 0) n 0) n 0
def JA (f:Int) (g h b i j k l:LL) (a1 a2:Int) (K:Qlr R):oP R:=Qku R (VF n a1 0 (wJ ((b.length:Int)-1)) some) fun a=>Qkv R a (Q1 b a1) fun r2=>Qkv R a r2[3]? fun c=>Qkv R a (pSl 4 c) fun d=>Qkv R a (VF n a2 0 (wJ ((d.length:Int)-1)) some) fun e=>K (Qkr a e)
def XX (n:Nat) (l:Int) (m b c o p q r:LL) (a1 a2:Int) (K:D->D->oP R):oP R:=QkQ R c a1 fun f=>QkG R f a2 fun i=>QkS R b i fun j k=>K j k
def Ht (al am m an:LL) (b:Int) (c d e f g h i:LL) (j o k p u v x:Int) (K:Qlm R):oP R:=Qku R (JA n b c d e f g h i j o some) fun a=>Qkv R (!(!a)) (JA n b c d e f g h i k p some) fun r2=>Qks R (Qkq (Qkq (!a) (!r2)) (j==k)) fun l=>Qkv R (!l) (K8 n b c d e f g h i u v some) fun q=>Qkv R (!(Qkq l (!q))) (VF n x 0 1048576 some) fun y=>bif Qkq (Qkq l (!q)) (!y) then K 4 else Qku R (XX n b c d e f g h i j o Tu2) fun r=>QkZ R r.1 r.2 fun z i7=>Qku R (PX n z i7 some) fun r8=>Qku R (Q1 m r8) fun r9=>Qlg R r9 fun s=>Qku R (XX n b c d e f g h i k p Tu2) fun t=>QkZ R t.1 t.2 fun ae ag=>Qku R (Ti n ae ag some) fun ah=>Qku R (Q1 m ah) fun ai=>Qlg R ai fun ak=>bif Qkq (decide (s<0)) (s !=ak) then K 11 else K 0
def Wr (n:Nat) (d:Int) (e:LL) (f g:D) (k0:oP R) (k1:Qlp R):Qlq R
 | 0,_=>none
 | m+1,a=>bif decide (a<d) then QkL R e a fun i=>QkF R i f fun b c=>Qks R (b==c) fun p=>Qkv R (!p) (Q1 e a) fun j=>Qkv R (!p) j[1]? fun k=>QkN R k (!p) g fun l o=>bif Qkq p (l==o) then k0 else Wr n d e f g k0 k1 m (wJ (a+1)) else k1 a (decide (a<d))
def KL (j:Int) (k l b m d o p:LL) (a1:Int) (K:Qlm R):oP R:=QkW R d a1 fun e f v x=>Qku R (pIw e) fun y=>Qkt R (wJ ((b.length:Int)-1)) fun ba=>Qku R (VF n y 0 ba some) fun c=>Qkv R (!(!c)) (pIw f) fun z=>Qkv R (!(!c)) (VF n z 0 ba some) fun g=>Qks R (Qkq (!c) (!g)) fun q=>QkN R v (!q) x fun aa ab=>Qkv R (!q) (K8 n j k l b m d o p aa ab some) fun ac=>bif Qkq q (!ac) then K 4 else Wr n a1 d e f (K 5) (fun ar au=>Qku R (pIw e) fun ad=>QkO R b ad fun h ae=>Ql9 R h fun ag=>Qku R (pIw f) fun ah=>QkO R b ah fun i ai=>Qld R i (Qku R (pIw e) fun aj=>Qku R (pSl 4 ag) fun ak=>Qku R (XX n j k l b m d o p aj (wJ ((ak.length:Int)-1)) Tu2) fun t=>QkZ R t.1 t.2 fun al am=>Qku R (PX n al am some) fun r=>Qku R (pIw f) fun i64=>Qku R (XX n j k l b m d o p i64 0 Tu2) fun u=>QkZ R u.1 u.2 fun an ao=>Qku R (Ti n an ao some) fun s=>QkN R ae (!(r !=s)) ai fun ap aq=>bif Qkq (r !=s) (ap !=aq) then K 11 else K 0)) n 0
def Wm (c:Int) (b d e f g h i:LL) (k0:Qlm R) (k1:Qlp R):Qlq R
 | 0,_=>none
 | m+1,a=>Qks R (decide (a<(b.length:Int))) fun k=>bif k then Qku R (Gq n c b d e f g h i a some) fun j=>bif j !=0 then k0 j else Wm c b d e f g h i k0 k1 m (wJ (a+1)) else k1 a k
def Wh (c d e f b:LL) (k0:Qlm R) (k1:Qlp R):Qlq R
 | 0,_=>none
 | m+1,a=>Qks R (decide (a<(b.length:Int))) fun o=>bif o then QkS R b a fun i j=>QkZ R i j fun k l=>Qku R (VW n c d e f k l some) fun h=>bif h !=0 then k0 h else Wh c d e f b k0 k1 m (wJ (a+1)) else k1 a o
def Wl (c d e f:LL) (g:Int) (h i b j k l o:LL) (k0:Qlm R) (k1:Qlp R):Qlq R
 | 0,_=>none
 | m+1,a=>Qks R (decide (a<(b.length:Int))) fun q=>bif q then Qku R (KH n c d e f g h i b j k l o a some) fun p=>bif p !=0 then k0 p else Wl c d e f g h i b j k l o k0 k1 m (wJ (a+1)) else k1 a q
def Z6 (d e f g:LL) (h:Int) (i j k b l o p:LL) (k0:Qlm R) (k1:Qlp R):Qlq R
 | 0,_=>none
 | m+1,c=>Qks R (decide (c<(b.length:Int))) fun ah=>bif ah then QkH R b c fun a r s t=>Ql1 R a fun u v x=>Qku R a[6]? fun y=>Ql2 R r s t u fun z aa ab ac=>Ql7 R v x y fun ad ae ag=>Qku R (Ht n d e f g h i j k b l o p z aa ab ac ad ae ag some) fun q=>bif q !=0 then k0 q else Z6 d e f g h i j k b l o p k0 k1 m (wJ (c+1)) else k1 c ah
def Z0 (c:Int) (d e f g b h i:LL) (k0:Qlm R) (k1:Qlp R):Qlq R
 | 0,_=>none
 | m+1,a=>Qks R (decide (a<(b.length:Int))) fun k=>bif k then Qku R (KL n c d e f g b h i a some) fun j=>bif j !=0 then k0 j else Z0 c d e f g b h i k0 k1 m (wJ (a+1)) else k1 a k
def YW (h:Int) (i j k l o c p:LL) (k0:oP R) (k1:Qlp R):Qlq R
 | 0,_=>none
 | m+1,d=>Qks R (decide (d<(c.length:Int))) fun ah=>bif ah then QkH R c d fun e s t u=>QkP R e fun v x=>QkF R s t fun y z=>Qku R (JA n h i j k l o c p y z some) fun a=>QkN R u (!(!a)) v fun aa ab=>Qkv R (!(!a)) (JA n h i j k l o c p aa ab some) fun b=>Qks R (Qkq (!a) (!b)) fun ae=>QkN R s (!ae) u fun f g=>QkN R t (!ae&&f==g) v fun q r=>Qks R (Qkq ae (Qkr (f==g) (q==r))) fun ag=>Qkv R (!ag) (pIw x) fun ac=>Qkv R (!ag) (VF n ac 0 (wJ (h-1)) some) fun ad=>bif Qkq ag (!ad) then k0 else YW h i j k l o c p k0 k1 m (wJ (d+1)) else k1 d ah
def Z2 (e d:LL) (k0:oP R) (k1:Qlp R):Qlq R
 | 0,_=>none
 | m+1,b=>Qks R (decide (b<(d.length:Int))) fun s=>bif s then QkT R d b fun i j k=>Qku R (pIw i) fun l=>Qkt R (wJ ((e.length:Int)-1)) fun u=>Qku R (VF n l 0 u some) fun a=>Qkv R (!(!a)) (pIw j) fun o=>Qkv R (!(!a)) (VF n o 0 u some) fun c=>Qks R (Qkq (!a) (!c)) fun r=>QkN R i (!r) j fun g h=>Qks R (Qkq r (g==h)) fun t=>Qkv R (!t) (pIw k) fun p=>Qkv R (!t) (VF n p 1 1048576 some) fun q=>bif Qkq t (!q) then k0 else Z2 e d k0 k1 m (wJ (b+1)) else k1 b s
def Um (i j k l:LL) (a:Int) (d b e f g h c:LL) (K:Qlm R):oP R:=Qku R (JY n i j k l some) fun m=>bif m !=0 then K 1 else Qku R (LU n a d b e f g h c some) fun r2=>bif r2 then K 7 else Qku R (VF n a 2 7200 some) fun o=>bif !o then K 4 else Wm n a d b e f g h c (fun p=>K p) (fun u v=>Wh n i j k l b (fun q=>K q) (fun x y=>Wl n i j k l a d b e f g h c (fun r=>K r) (fun z aa=>Z6 n i j k l a d b e f g h c (fun s=>K s) (fun ab ac=>Z0 n a d b e f g h c (fun t=>K t) (fun ad ae=>YW n a d b e f g h c (K 4) (fun ag ah=>Z2 n i c (K 4) (fun ai aj=>K 0) n 0) n 0) n 0) n 0) n 0) n 0) n 0
def Vk (n:Nat) (b:Int) (k0:Qlu R):Qlv R
 | 0,_,_=>none
 | m+1,h2,a=>bif decide (a>0) then Qkt R (wJ (h2+a)) fun f=>Qku R (nz f) fun c=>bif decide (f<=wJ (Int.tdiv b f)) then Qku R (BR 1) fun d=>Vk n b k0 m f (shR .i64 a 1) else Qku R (BR 1) fun e=>Vk n b k0 m h2 (shR .i64 a 1) else k0 h2 a (decide (a>0))
def S8 (a0:Int) (K:Qlm R):oP R:=Vk n a0 (fun a b c=>K a) n 0 2147483648
def VR (n:Nat) (b:Int) (k0:Qlu R):Qlv R
 | 0,_,_=>none
 | m+1,h2,a=>bif decide (h2<a) then Qku R (nz 2) fun c=>Qkt R (wJ (Int.tdiv (wJ (wJ (h2+a)+1)) 2)) fun d=>bif decide (wJ (d*d)<=b) then VR n b k0 m d a else VR n b k0 m h2 (wJ (d-1)) else k0 h2 a (decide (h2<a))
def NY (a0:Int) (K:Qlm R):oP R:=bif decide (a0<=0) then K 0 else VR n a0 (fun a b c=>K a) n 0 3037000499
def YG (n:Nat) (e:LL) (c:Int) (k0:oP R) (k1:Qlp R):Qlq R
 | 0,_=>none
 | m+1,a=>bif decide (a<c) then QkS R e a fun g h=>Qku R (pIw g) fun b=>Qks R (decide (b<1000)) fun o=>Qkv R (!o) (pIw g) fun d=>Qks R (Qkq o (decide (d>100000))) fun k=>Qkv R (!k) (pIw h) fun i=>Qks R (Qkq k (decide (i<(-40:Int)))) fun l=>Qkv R (!l) (pIw h) fun j=>bif Qkq l (decide (j>40)) then k0 else YG n e c k0 k1 m (wJ (a+1)) else k1 a (decide (a<c))
def Jb (a0:LL) (a1:Int) (a:List UInt8) (b c d e:Int) (K:Qlm R):oP R:=Qku R (Uu n a b c d e some) fun f=>bif !f then K 1 else Qkt R (a0.length:Int) fun i=>bif decide (i>4000) then K 7 else YG n a0 i (K 4) (fun g h=>bif Qkq (decide (a1<0)) (decide (a1>wJ (i-2))) then K 4 else K 0) n 0
def Wp (n:Nat) (c:LL) (b:Int) (k0:Qlu R):Qlv R
 | 0,_,_=>none
 | m+1,h2,a=>bif decide (a<b) then QkJ R c a fun d f=>Qku R d[1]? fun g=>Qku R (pIw f) fun e=>Wp n c b k0 m (if e<h2 then e else h2) (wJ (a+1)) else k0 h2 a (decide (a<b))
def JH (a0:LL) (a1:Int) (e:List UInt8) (a c f g:Int) (K:Qlm R):oP R:=Qku R (slB a0.length (some (if 0<wJ (a1-a) then wJ (a1-a) else 0)) (some (wJ (a1+1)))) fun b=>Wp n (cut a0 b) ((List.length (cut a0 b):Nat):Int) (fun d h i=>K d) n c 0
def T5 (n:Nat) (c a:Int) (d:List UInt8) (e f b g:Int) (K:Qlm R):oP R:=bif decide (a>0) then K (wJ (20000*(if 50<wJ (b-wJ (10*a)) then wJ (b-wJ (10*a)) else 50))) else K (wJ (20000*b))
def HJ (n:Nat) (c a:Int) (d:List UInt8) (e f g b:Int) (K:Qlm R):oP R:=bif decide (a<0) then K (wJ (20000*(if 50<wJ (b+wJ (10*a)) then wJ (b+wJ (10*a)) else 50))) else K (wJ (20000*b))
def Yn (f:LL) (d g:Int) (h:List UInt8) (i j k l:Int) (k0:QlC R):QlA R
 | 0,_,_,_=>none
 | m+1,b,a,e=>bif decide (a<g) then Qku R (JH n f a h i j k l some) fun c=>QkK R e.length (wJ (wJ (a-1)-d)) e (Int.toNat (wJ (wJ (a-1)-d))) fun o=>QkS R f (wJ (a-1)) fun t u=>QkF R t u fun v x=>Qku R (T5 n v x h i j k l some) fun q=>Qku R (inB e.length (wJ (a-d))) fun aa=>Qkt R (Int.toNat (wJ (a-d))) fun ac=>Qku R e[ac]? fun y=>Qkt R (wJ ((if c<b then c else b)*(if c<b then c else b))) fun ab=>Yn f d g h i j k l k0 m c (wJ (a+1)) (List.set e ac (List.set y 0 (Q4 (if wJ (o+q)<ab then wJ (o+q) else ab)))) else k0 b a (decide (a<g)) e
def YZ (d:LL) (b:Int) (e:List UInt8) (f g h i:Int) (k0:Qln R):Qlo R
 | 0,_,_=>none
 | m+1,a,c=>bif decide (a>b) then Qku R (inB c.length (wJ (a-b))) fun z=>Qkt R (Int.toNat (wJ (a-b))) fun ac=>Qku R c[ac]? fun p=>Qku R p[0]? fun q=>Qku R (pIw q) fun j=>QkK R c.length (wJ (wJ (a+1)-b)) c (Int.toNat (wJ (wJ (a+1)-b))) fun k=>QkS R d a fun t u=>QkF R t u fun v x=>Qku R (HJ n v x e f g h i some) fun o=>QkI R c.length (wJ (a-b)) c ac fun y=>YZ d b e f g h i k0 m (wJ (a-1)) (List.set c ac (List.set y 0 (Q4 (if wJ (k+o)<j then wJ (k+o) else j)))) else k0 a (decide (a>b)) c
def JL (a0:LL) (a1:Int) (a:List UInt8) (b c d e:Int) (K:Qls R):oP R:=Qkt R (a0.length:Int) fun q=>Qkt R (wJ (wJ (q-a1)+1)) fun p=>gb true (bif decide (0<=p)&&decide (p<=p) then some () else none) () fun i=>Qku R (Y1 (Int.toNat p*8)) fun u2=>Qku R (JH n a0 a1 a b c d e some) fun f=>Yn n a0 a1 q a b c d e (fun j k l g=>YZ n a0 a1 a b c d e (fun m o h=>K h) n (wJ (q-1)) g) n f (wJ (a1+1)) (List.replicate (Int.toNat p) [Q4 0])
def Zz (c:Int) (k0:Qln R):Qlo R
 | 0,_,_=>none
 | m+1,a,b=>bif decide (a<c) then QkK R b.length a b a.toNat fun f=>Qku R (S8 n f some) fun g=>QkI R b.length a b a.toNat fun h=>Zz c k0 m (wJ (a+1)) (List.set b a.toNat (List.set h 0 (Q4 g))) else k0 a (decide (a<c)) b
def Gi (a0:LL) (a1:Int) (a:List UInt8) (b c d e:Int) (K:Qlt R):oP R:=Qku R (Jb n a0 a1 a b c d e some) fun f=>bif f !=0 then K [] f else Qku R (JL n a0 a1 a b c d e some) fun r2=>Zz n (r2.length:Int) (fun h i g=>K g 0) n 0 r2
def Uj (n:Nat) (a0 a1:Int) (K:Qlw R):oP R:=bif decide (a1<1) then K 0 1 else Qla R a1 (Qkt R (wJ (Int.tdiv a0 a1)) fun b=>bif decide (Int.tmod a0 a1>0) then K (wJ (b+1)) 0 else K b 0)
def Ws (c:LL) (k0:Qln R):Qlo R
 | 0,_,_=>none
 | m+1,a,b=>Qks R (decide (a<(c.length:Int))) fun j=>bif j then Qkt R (wJ (a-1)) fun k=>QkG R c k fun f=>QkG R c a fun i=>Qku R (Uj n 20000000 (wJ (f+i)) Tu2) fun l=>QkK R b.length k b (Int.toNat k) fun q=>QkI R b.length a b a.toNat fun r=>Ws c k0 m (wJ (a+1)) (List.set b a.toNat (List.set r 0 (Q4 (wJ (q+l.1))))) else k0 a j b
def Js (a0:LL) (a1:Int) (b:List UInt8) (c d e f:Int) (K:Qlt R):oP R:=Qku R (Gi n a0 a1 b c d e f Tu2) fun a=>bif a.2 !=0 then K [] a.2 else Qkt R (a.1.length:Int) fun g=>gb true (bif decide (0<=g)&&decide (g<=g) then some () else none) () fun u2=>Qku R (Y1 (Int.toNat g*8)) fun u3=>Ws n a.1 (fun i j h=>K h 0) n 1 (List.replicate (Int.toNat g) [Q4 0])
def K9 (h2:LL) (k0:oP R) (k1:Qlp R):Qlq R
 | 0,_=>none
 | m+1,a=>Qks R (decide (a<(h2.length:Int))) fun j=>bif j then QkG R h2 a fun e=>Qku R (Hp n e 1000 100000 some) fun b=>Ql6 R h2 a (!(!b)) fun h=>Qkv R (!(!b)) (Hp n h (-40:Int) 40 some) fun i=>bif Qkq (!b) (!i) then k0 else K9 h2 k0 k1 m (wJ (a+1)) else k1 a j
def CH (a0:LL) (a1:Int) (a:List UInt8) (b c d e:Int) (K:Qlm R):oP R:=Qku R (XV n a b c d e some) fun f=>bif !f then K 1 else bif decide ((a0.length:Int)>4000) then K 7 else K9 n a0 (K 4) (fun g h=>bif Qkq (decide (a1<0)) (decide (a1>wJ ((a0.length:Int)-2))) then K 4 else K 0) n 0
def J0 (n:Nat) (c:LL) (h2:Int) (k0:Qlu R):Qlv R
 | 0,_,_=>none
 | m+1,b,a=>bif decide (a<=h2) then QkG R c a fun d=>J0 n c h2 k0 m (if d<b then d else b) (wJ (a+1)) else k0 b a (decide (a<=h2))
def PR (a0:LL) (a1:Int) (d:List UInt8) (a b e f:Int) (K:Qlm R):oP R:=J0 n a0 a1 (fun c g h=>K c) n b (if 0<wJ (a1-a) then wJ (a1-a) else 0)
def Mn (n:Nat) (c a:Int) (d:List UInt8) (e f b g:Int) (K:Qlm R):oP R:=bif decide (a>0) then K (if 50<wJ (b-wJ (10*a)) then wJ (b-wJ (10*a)) else 50) else K b
def Mk (n:Nat) (c a:Int) (d:List UInt8) (e f g b:Int) (K:Qlm R):oP R:=bif decide (a<0) then K (if 50<wJ (b+wJ (10*a)) then wJ (b+wJ (10*a)) else 50) else K b
def UA (e:LL) (f g:Int) (h:List UInt8) (i j k l:Int) (k0:Qln R):Qlo R
 | 0,_,_=>none
 | m+1,a,b=>bif decide (a<g) then Qku R (PR n e (wJ (wJ (f+a)-1)) h i j k l some) fun c=>Qku R (PR n e (wJ (f+a)) h i j k l some) fun d=>QkI R b.length a b a.toNat fun o=>UA e f g h i j k l k0 m (wJ (a+1)) (List.set b a.toNat (List.set o 0 (Q4 (wJ ((if d<c then d else c)*(if d<c then d else c)))))) else k0 a (decide (a<g)) b
def UG (d:LL) (e c:Int) (f:List UInt8) (g h i j:Int) (k0:Qln R):Qlo R
 | 0,_,_=>none
 | m+1,a,b=>bif decide (a<c) then Qkt R (wJ (a+1)) fun ac=>Qku R (inB b.length ac) fun z=>Qkt R (Int.toNat ac) fun ad=>Qku R b[ad]? fun q=>Qku R q[0]? fun r=>Qku R (pIw r) fun k=>QkK R b.length a b a.toNat fun l=>QkS R d (wJ (e+a)) fun u v=>QkF R u v fun x i64=>Qku R (Mn n x i64 f g h i j some) fun p=>QkI R b.length ac b ad fun y=>UG d e c f g h i j k0 m ac (List.set b ad (List.set y 0 (Q4 (if wJ (l+wJ (20000*p))<k then wJ (l+wJ (20000*p)) else k)))) else k0 a (decide (a<c)) b
def UK (c:LL) (d:Int) (e:List UInt8) (f g h i:Int) (k0:Qln R):Qlo R
 | 0,_,_=>none
 | m+1,a,b=>bif decide (a>0) then Qkt R (wJ (a-1)) fun ac=>Qku R (inB b.length ac) fun z=>Qkt R (Int.toNat ac) fun ad=>Qku R b[ad]? fun p=>Qku R p[0]? fun q=>Qku R (pIw q) fun j=>QkK R b.length a b a.toNat fun k=>QkS R c (wJ (wJ (d+a)-1)) fun t u=>QkF R t u fun v x=>Qku R (Mk n v x e f g h i some) fun o=>QkI R b.length ac b ad fun y=>UK c d e f g h i k0 m ac (List.set b ad (List.set y 0 (Q4 (if wJ (k+wJ (20000*o))<j then wJ (k+wJ (20000*o)) else j)))) else k0 a (decide (a>0)) b
def Vv (c:Int) (k0:Qln R):Qlo R
 | 0,_,_=>none
 | m+1,a,b=>bif decide (a<=c) then QkK R b.length a b a.toNat fun f=>Qku R (NY n f some) fun g=>QkI R b.length a b a.toNat fun h=>Vv c k0 m (wJ (a+1)) (List.set b a.toNat (List.set h 0 (Q4 g))) else k0 a (decide (a<=c)) b
def R8 (a0:LL) (a1:Int) (a:List UInt8) (b c d e:Int) (K:Qlt R):oP R:=Qku R (CH n a0 a1 a b c d e some) fun f=>bif f !=0 then K [] f else Qkt R (wJ ((a0.length:Int)-a1)) fun t=>Qkt R (wJ (t+1)) fun u=>gb true (bif decide (0<=u)&&decide (u<=u) then some () else none) () fun u2=>Qku R (Y1 (Int.toNat u*8)) fun u3=>UA n a0 a1 t a b c d e (fun k l g=>UG n a0 a1 t a b c d e (fun m o h=>UK n a0 a1 a b c d e (fun p q i=>Vv n t (fun r s j=>K j 0) n 0 i) n t h) n 0 g) n 1 (List.replicate (Int.toNat u) [Q4 0])
def Jp (n:Nat) (a0 a1:Int) (K:Qlm R):oP R:=Qla R a1 (Qkt R (wJ (Int.tdiv a0 a1)) fun b=>bif decide (Int.tmod a0 a1>0) then K (wJ (b+1)) else K b)
def J7 (c:LL) (k0:Qln R):Qlo R
 | 0,_,_=>none
 | m+1,a,b=>Qks R (decide (a<(c.length:Int))) fun s=>bif s then Qkt R (wJ (a-1)) fun t=>QkK R b.length t b (Int.toNat t) fun f=>QkG R c t fun i=>QkG R c a fun l=>Qku R (Jp n 20000000 (wJ (i+l)) some) fun o=>QkI R b.length a b a.toNat fun p=>J7 c k0 m (wJ (a+1)) (List.set b a.toNat (List.set p 0 (Q4 (wJ (f+o))))) else k0 a s b
def PK (a0:LL) (a1:Int) (b:List UInt8) (c d e f:Int) (K:Qlt R):oP R:=Qku R (R8 n a0 a1 b c d e f Tu2) fun a=>bif a.2 !=0 then K [] a.2 else Qkt R (a.1.length:Int) fun g=>gb true (bif decide (0<=g)&&decide (g<=g) then some () else none) () fun u2=>Qku R (Y1 (Int.toNat g*8)) fun u3=>J7 n a.1 (fun i j h=>K h 0) n 1 (List.replicate (Int.toNat g) [Q4 0])
def JN (a0:Int) (K:Qlm R):oP R:=Qku R (Uj n a0 1000 Tu2) fun a=>K a.1
def Vu (n:Nat) (a0 a1:Int) (K:Qlw R):oP R:=bif decide (a1<1) then K 0 1 else Qla R a1 (Qkt R (wJ (Int.tdiv a0 a1)) fun b=>bif decide (Int.tmod a0 a1<0) then K (wJ (b-1)) 0 else K b 0)
def Vi (a0:Int) (K:Qlm R):oP R:=Qku R (Vu n a0 1000 Tu2) fun a=>K a.1
def J5 (n:Nat) (c a b d:LL) (K:Qls R):oP R:=Qkt R (wJ ((b.length:Int)+(a.length:Int))) fun f=>gb true (bif decide (0<=f)&&decide (f<=f) then some () else none) () fun e=>Qku R (Y1 (Int.toNat f*24)) fun u2=>K (List.replicate (Int.toNat f) [Q4 0,Q4 0,Q4 0])
def Xn (n:Nat) (a:LL) (a1 a2 b:Int) (K:Qls R):oP R:=Ql0 R a.length a1 a a1.toNat fun f=>Qku R a[a1.toNat]? fun g=>Ql5 R g fun i=>bif decide (f<i) then Qku R a[a1.toNat]? fun j=>Qku R j[1]? fun k=>Qku R (pIw k) fun c=>Qku R a[a1.toNat]? fun l=>Ql5 R l fun d=>Qku R a[a1.toNat]? fun o=>K (List.set a a1.toNat (List.set (List.set (List.set o 0 (Q4 a1)) 1 (Q4 (if c<a2 then c else a2))) 2 (Q4 (if b<d then d else b)))) else Qku R a[a1.toNat]? fun p=>K (List.set a a1.toNat (List.set (List.set (List.set p 0 (Q4 a1)) 1 (Q4 a2)) 2 (Q4 b)))
def XP (n:Nat) (c:LL) (h2:Int) (k0:Qln R):Qlo R
 | 0,_,_=>none
 | m+1,a,b=>bif decide (a<h2) then QkT R c a fun g e f=>QkF R e f fun h i=>bif decide (h<i) then Qku R (Y1 ((b.length+[[g,e,f]].length)*24)) fun j=>XP n c h2 k0 m (wJ (a+1)) (b++[[g,e,f]]) else XP n c h2 k0 m (wJ (a+1)) b else k0 a (decide (a<h2)) b
def Vn (a0:LL) (K:Qls R):oP R:=XP n a0 (a0.length:Int) (fun b c a=>K a) n 0 []
def Zk (n:Nat) (a i e:LL) (g d:Int) (k0:QlJ R):QlD R
 | 0,_,_,_,_=>none
 | m+1,b,c,h,f=>Qks R (decide (c<wJ ((e.length:Int)-g))) fun ae=>bif ae then QkG R a b fun j=>Qku R (Y1 ((h.length+[[Q4 j]].length)*8)) fun ab=>Qkt R (wJ ((a.length:Int)-1)) fun ag=>bif decide (c>0) then QkG R e c fun t=>QkR R i t fun k=>QkG R a (if ag<wJ (wJ (b+k)+d) then ag else wJ (wJ (b+k)+d)) fun l=>Qku R (Y1 ((f.length+[[Q4 l]].length)*8)) fun ac=>Zk n a i e g d k0 m (wJ (b+k)) (wJ (c+1)) (h++[[Q4 j]]) (f++[[Q4 l]]) else QkG R a (if ag<wJ (b+d) then ag else wJ (b+d)) fun o=>Qku R (Y1 ((f.length+[[Q4 o]].length)*8)) fun ad=>Zk n a i e g d k0 m b (wJ (c+1)) (h++[[Q4 j]]) (f++[[Q4 o]]) else k0 b c ae h f
def Po (h i b j c:LL) (d:Int) (k:List UInt8) (e l m o:Int) (K:LL->LL->Int->Int->oP R):oP R:=Qku R (Sw n h i b j c d k e l m o some) fun a=>bif a !=0 then K [] [] 0 a else Qku R (PZ n h i b j c d Tu3) fun r2=>Qku R (PK n r2.1 r2.2.1 k e l m o Tu2) fun g=>Zk n g.1 b c d e (fun v x y p q=>QkG R g.1 (wJ ((g.1.length:Int)-1)) fun t=>Qku R (Jp n t 1000 some) fun u=>K p q u 0) n 0 0 [] []
def VD (n:Nat) (a0 a1:Int) (K:Qlm R):oP R:=Qla R a1 (Qkt R (wJ (Int.tdiv a0 a1)) fun b=>bif decide (Int.tmod a0 a1<0) then K (wJ (b-1)) else K b)
def YM (n:Nat) (b a:LL) (a1 a2 c:Int) (K:LL->LL->oP R):oP R:=Ql3 R b.length a1 b a1.toNat fun g=>bif g then Ql0 R a.length a1 a a1.toNat fun d=>QkI R a.length a1 a a1.toNat fun i=>Ql5 R i fun e=>QkI R b.length a1 b a1.toNat fun k=>QkI R a.length a1 a a1.toNat fun l=>K (List.set b a1.toNat (List.set k 0 (D.bool true))) (List.set a a1.toNat (List.set (List.set (List.set l 0 (Q4 a1)) 1 (Q4 (if d<a2 then d else a2))) 2 (Q4 (if c<e then e else c)))) else QkI R b.length a1 b a1.toNat fun m=>QkI R a.length a1 a a1.toNat fun o=>K (List.set b a1.toNat (List.set m 0 (D.bool true))) (List.set a a1.toNat (List.set (List.set (List.set o 0 (Q4 a1)) 1 (Q4 a2)) 2 (Q4 c)))
def Wa (l o:Int) (e i:LL) (j b:Int) (p q f r c:LL) (k0:QlJ R):QlD R
 | 0,_,_,_,_=>none
 | m+1,v,a,x,y=>Qks R (decide (a<(c.length:Int))) fun g=>bif g then jn (fun (t k:Int)=>(QkG R c a fun ag=>gb true (YM n x y ag t k Tu2) ([],[]) fun d=>Qkt R (wJ (a+1)) fun h=>bif decide (a>0) then QkS R c (wJ (a-1)) fun ah ai=>QkS R c a fun aj ak=>Ql2 R ah ai aj ak fun al am an ao=>Qku R (JO n p q f r al am an ao Tu5) fun u=>Qku R (pIw u.2.2.1) fun ar=>bif decide (ar>=0) then bif decide (a>b) then Qku R (pIw u.2.2.1) fun au=>gb true (YM n d.1 d.2 (wJ ((f.length:Int)+au)) t k Tu2) ([],[]) fun ab=>Wa l o e i j b p q f r c k0 m k h ab.1 ab.2 else Qku R (pIw u.2.2.1) fun av=>gb true (YM n d.1 d.2 (wJ ((f.length:Int)+av)) t v Tu2) ([],[]) fun ac=>Wa l o e i j b p q f r c k0 m k h ac.1 ac.2 else Wa l o e i j b p q f r c k0 m k h d.1 d.2 else Wa l o e i j b p q f r c k0 m k h d.1 d.2:oP R)) fun s=>bif a==0 then QkG R i 0 fun ay=>Qku R (Jp n ay 1000 some) fun az=>s (wJ (0-l)) (wJ (az+4)) else bif decide (a<b) then QkG R e (wJ (a-1)) fun bc=>Qku R (VD n bc 1000 some) fun bd=>QkG R i a fun bh=>Qku R (Jp n bh 1000 some) fun bi=>s (wJ (bd-16)) (wJ (bi+4)) else bif a==b then QkG R e (wJ (b-1)) fun bl=>Qku R (VD n bl 1000 some) fun bm=>s (wJ (bm-16)) (wJ (j+o)) else QkG R e b fun bp=>Qku R (VD n bp 1000 some) fun bq=>s (wJ (bq-16)) (wJ (j+20)) else k0 v a g x y
def V9 (n:Nat) (b:Int) (c d:LL) (k0:Qln R):Qlo R
 | 0,_,_=>none
 | m+1,a,e=>bif decide (a<b) then Ql3 R c.length a c a.toNat fun l=>bif l then QkI R d.length a d a.toNat fun f=>Qku R f[0]? fun g=>Qku R f[1]? fun h=>Qku R f[2]? fun i=>Qku R (Y1 ((e.length+[[g,h,i]].length)*24)) fun q=>V9 n b c d k0 m (wJ (a+1)) (e++[[g,h,i]]) else V9 n b c d k0 m (wJ (a+1)) e else k0 a (decide (a<b)) e
def Hc (e a b f g:LL) (i:Int) (j:List UInt8) (k l m o p q:Int) (K:Qlz R):oP R:=Qku R (Sw n e a b f g i j k l m o some) fun d=>bif d !=0 then K [] 0 d else Qku R (Hp n p 0 65536 some) fun r2=>Qkv R (!(!r2)) (Hp n q 0 65536 some) fun h=>bif Qkq (!r2) (!h) then K [] 0 4 else gb true (Po n e a b f g i j k l m o Tu4) ([],[],0,0) fun c=>Qkt R (wJ ((b.length:Int)+(a.length:Int))) fun ag=>Qks R (decide (0<=ag)&&decide (ag<=ag)) fun r=>gb true (bif r then some () else none) () fun v=>Qkt R (Int.toNat ag) fun ah=>Qku R (Y1 (ah*1)) fun x=>gb true (bif r then some () else none) () fun y=>Qku R (Y1 (ah*24)) fun z=>Wa n p q c.1 c.2.1 c.2.2.1 (wJ ((c.1.length:Int)-1)) e a b f g (fun aa ab ac s t=>V9 n ag s t (fun ad ae u=>K u c.2.2.1 0) n 0 []) n 0 0 (List.replicate ah [D.bool false]) (List.replicate ah [Q4 0,Q4 0,Q4 0])
def UY (n:Nat) (d:Int) (h2:LL) (c:Int) (k0:Qlm R) (k1:Qlp R):Qlq R
 | 0,_=>none
 | m+1,a=>bif decide (a<c) then QkJ R h2 a fun b f=>Qku R b[1]? fun i=>Ql9 R b fun g=>Qku R (pIw f) fun h=>bif h==d then Qku R (pIw g) fun e=>k0 (if 60<e then e else 60) else UY n d h2 c k0 k1 m (wJ (a+1)) else k1 a (decide (a<c))
def KR (c:Int) (d e f g a h i:LL) (a1:Int) (K:Qlm R):oP R:=UY n a1 a (a.length:Int) (fun b=>K b) (fun j k=>K 60) n 0
def J3 (n:Nat) (c:Int) (a:LL) (k0:D->D->D->D->oP R) (k1:Qlp R):Qlq R
 | 0,_=>none
 | m+1,h2=>Qks R (decide (h2<(a.length:Int))) fun k=>bif k then QkG R a h2 fun f=>bif f==c then QkW R a h2 fun g h i j=>k0 g h i j else J3 n c a k0 k1 m (wJ (h2+1)) else k1 h2 k
def Sq (a:LL) (a1:Int) (K:D->D->D->D->Bool->oP R):oP R:=J3 n a1 a (fun b c d e=>K b c d e true) (fun f g=>K (Q4 0) (Q4 0) (Q4 0) (Q4 0) false) n 0
def Yx (f:Int) (j k l o:LL) (p:Int) (e q r s g t u:LL) (v d:D) (k0:Qlx R):Qly R
 | 0,_,_,_=>none
 | m+1,a,h,i=>Qku R (pSl 4 d) fun ai=>Qks R (decide (a<(ai.length:Int))) fun b=>bif b then Qku R (pSl 4 d) fun av=>QkR R av a fun aj=>Qkt R (wJ (a+1)) fun c=>bif a==0 then jn (fun (ay:Int)=>(Qku R (XX n p e q r s g t u f a Tu2) fun ak=>QkM R v e ak.1 ak.2 fun bg bh bi bj bk bl bm=>Qku R (Hc n j k l o bg bh bi bj bk bl bm 60 ay Tu3) fun ab=>Ql4 R ((h.length+[[D.sl 3 ab.1]].length)*24) ((i.length+[[Q4 ab.2.1]].length)*8) (Yx f j k l o p e q r s g t u v d k0 m c (h++[[D.sl 3 ab.1]]) (i++[[Q4 ab.2.1]])):oP R)) fun al=>Qku R (Sq n g f Tu5) fun am=>Qku R (pSl 4 d) fun bn=>bif decide (a<wJ ((bn.length:Int)-1)) then Qku R (pSl 4 d) fun bo=>QkR R bo a fun br=>Qku R (pSl 4 d) fun bt=>Qku R (Q1 bt a) fun bu=>Qku R bu[3]? fun bv=>Qku R (pIw bv) fun bx=>al (wJ (br+bx)) else bif am.2.2.2.2 then Qku R (pSl 4 d) fun bz=>Qlh R bz a fun cb=>QkF R cb am.2.2.2.1 fun cc i64=>al (wJ (cc+(if 60<i64 then i64 else 60))) else Qku R (XX n p e q r s g t u f a Tu2) fun an=>QkM R v e an.1 an.2 fun ck cm cn co cp cq cr=>Qku R (Hc n j k l o ck cm cn co cp cq cr 60 (wJ (aj+60)) Tu3) fun ac=>Ql4 R ((h.length+[[D.sl 3 ac.1]].length)*24) ((i.length+[[Q4 ac.2.1]].length)*8) (Yx f j k l o p e q r s g t u v d k0 m c (h++[[D.sl 3 ac.1]]) (i++[[Q4 ac.2.1]])) else jn (fun (cs:Int)=>(Qku R (XX n p e q r s g t u f a Tu2) fun ao=>QkM R v e ao.1 ao.2 fun cz da db dc dd de df=>Qku R (Hc n j k l o cz da db dc dd de df 0 cs Tu3) fun ad=>Ql4 R ((h.length+[[D.sl 3 ad.1]].length)*24) ((i.length+[[Q4 ad.2.1]].length)*8) (Yx f j k l o p e q r s g t u v d k0 m c (h++[[D.sl 3 ad.1]]) (i++[[Q4 ad.2.1]])):oP R)) fun ap=>Qku R (Sq n g f Tu5) fun aq=>Qku R (pSl 4 d) fun dg=>bif decide (a<wJ ((dg.length:Int)-1)) then Qku R (pSl 4 d) fun dh=>QkR R dh a fun dk=>Qku R (pSl 4 d) fun dl=>Qku R (Q1 dl a) fun dn=>Qku R dn[3]? fun dp=>Qku R (pIw dp) fun dq=>ap (wJ (dk+dq)) else bif aq.2.2.2.2 then Qku R (pSl 4 d) fun dr=>Qlh R dr a fun dt=>QkF R dt aq.2.2.2.1 fun du ar=>ap (wJ (du+(if 60<ar then ar else 60))) else Qku R (XX n p e q r s g t u f a Tu2) fun au=>QkM R v e au.1 au.2 fun ec ed ee ef eg eh ei=>Qku R (Hc n j k l o ec ed ee ef eg eh ei 0 (wJ (aj+60)) Tu3) fun ae=>Ql4 R ((h.length+[[D.sl 3 ae.1]].length)*24) ((i.length+[[Q4 ae.2.1]].length)*8) (Yx f j k l o p e q r s g t u v d k0 m c (h++[[D.sl 3 ae.1]]) (i++[[Q4 ae.2.1]])) else k0 a b h i
def UE (c d e f:LL) (g:Int) (h i a j k l o:LL) (k0:Qlx R):Qly R
 | 0,_,_,_=>none
 | m+1,h2,p,q=>Qks R (decide (h2<(a.length:Int))) fun aa=>bif aa then QkO R a h2 fun b r=>Ql9 R b fun s=>Yx n h2 c d e f g h i a j k l o r s (fun y z t u=>UE c d e f g h i a j k l o k0 m (wJ (h2+1)) t u) n 0 p q else k0 h2 aa p q
def Rb (a b c d:LL) (e:Int) (f g h i j k l:LL) (K:LL->LL->Int->oP R):oP R:=Qku R (Um n a b c d e f g h i j k l some) fun m=>bif m !=0 then K [] [] 1 else UE n a b c d e f g h i j k l (fun q r o p=>K o p 0) n 0 [] []
def X3 (n:Nat) (b c:Int) (k0:Qln R):Qlo R
 | 0,_,_=>none
 | m+1,a,d=>bif decide (a<c) then Qkt R [[Q4 1,Q4 b,Q4 a],[Q4 2,Q4 b,Q4 a]] fun f=>Qku R (Y1 ((d.length+List.length f)*24)) fun e=>X3 n b c k0 m (wJ (a+1)) (d++f) else k0 a (decide (a<c)) d
def QN (e:LL) (h2:Int) (k0:Qlx R):Qly R
 | 0,_,_,_=>none
 | m+1,a,d,b=>bif decide (a<h2) then QkX R e a fun f=>Qku R (nz 2) fun l=>Qkt R [[Q4 (wJ (Int.tdiv (b.length:Int) 2))]] fun r=>Qku R (Y1 ((d.length+r.length)*8)) fun o=>Qku R (pSl 4 f) fun g=>X3 n a (g.length:Int) (fun p q h=>QN e h2 k0 m (wJ (a+1)) (d++r) h) n 0 b else k0 a (decide (a<h2)) d b
def Yt (a b c:LL) (K:LL->LL->oP R):oP R:=QN n a (a.length:Int) (fun f g d e=>K d e) n 0 b c
def XJ (n:Nat) (a:LL) (a1 a2:Int) (K:Qlm R):oP R:=QkK R a.length a1 a a1.toNat fun c=>K (wJ (c+a2))
def Y2 (n:Nat) (f b:LL) (a1 a2 c d e:Int) (K:Qls R):oP R:=QkG R f a1 fun a=>Qkt R [[Q4 a1,Q4 a2,Q4 (wJ (a+d)),Q4 (wJ (wJ (a+c)+e))]] fun j=>Qku R (Y1 ((b.length+j.length)*32)) fun i=>K (b++j)
def ZU (a b:LL) (a1:Int) (K:Qlm R):oP R:=QkQ R a a1 fun e=>Qku R (XJ n b a1 (wJ ((e.length:Int)-1)) some) fun f=>K f
def Xe (c:Int) (f:LL) (d:Int) (e g:LL) (k0:Qln R):Qlo R
 | 0,_,_=>none
 | m+1,a,h=>bif decide (a<d) then QkO R f a fun b i=>Ql8 R b fun j k=>Qku R (XJ n e c a some) fun l=>Qku R (XJ n e c (wJ (a+1)) some) fun o=>Ql7 R i j k fun i64 p q=>Qku R (Y2 n g h l o i64 p q some) fun r=>Xe c f d e g k0 m (wJ (a+1)) r else k0 a (decide (a<d)) h
def Qy (d:LL) (h2:Int) (e f:LL) (k0:Qln R):Qlo R
 | 0,_,_=>none
 | m+1,a,g=>bif decide (a<h2) then QkX R d a fun h=>Qku R (pSl 4 h) fun c=>Qku R (pSl 4 h) fun j=>Qku R (slB c.length none (some (wJ ((j.length:Int)-1)))) fun i=>Xe n a (cut c i) ((List.length (cut c i):Nat):Int) e f (fun q r k=>Qy d h2 e f k0 m (wJ (a+1)) k) n 0 g else k0 a (decide (a<h2)) g
def Xc (f:LL) (c:Int) (d e g:LL) (k0:Qln R):Qlo R
 | 0,_,_=>none
 | m+1,a,h=>bif decide (a<c) then QkW R f a fun i k l o=>Qku R (pIw i) fun p=>QkQ R e p fun j=>Qku R (pIw i) fun s=>Qku R (ZU n e d s some) fun t=>Qku R (pIw k) fun u=>Qku R (XJ n d u 0 some) fun v=>Qlh R j (wJ ((j.length:Int)-1)) fun y=>Ql7 R y l o fun z aa ab=>Qku R (Y2 n g h t v z aa ab some) fun ac=>Xc f c d e g k0 m (wJ (a+1)) ac else k0 a (decide (a<c)) h
def Yy (a b c d e:LL) (K:Qls R):oP R:=Qy n a (a.length:Int) c d (fun h i f=>Xc n b (b.length:Int) c a d (fun j k g=>K g) n 0 f) n 0 e
def U3 (n:Nat) (h2:LL) (e:Int) (k0:oP R) (k1:Qlu R):Qlv R
 | 0,_,_=>none
 | m+1,a,b=>bif decide (b<e) then QkT R h2 b fun g h i=>Qku R (pIw g) fun c=>Qkv R (!(decide (c<=a))) (pIw h) fun d=>Qks R (Qkq (decide (c<=a)) (decide (d<(-65536:Int)))) fun p=>QkN R h (!p) i fun j k=>Qks R (Qkq p (decide (j>=k))) fun q=>Qkv R (!q) (pIw i) fun l=>bif Qkq q (decide (l>65536)) then k0 else Qku R (pIw g) fun o=>U3 n h2 e k0 k1 m o (wJ (b+1)) else k1 a b (decide (b<e))
def Jg (a0:LL) (K:Qlr R):oP R:=U3 n a0 (a0.length:Int) (K false) (fun a b c=>K true) n (-1:Int) 0
def U7 (n:Nat) (h2:Int) (d:LL) (b:Int) (k0:oP R) (k1:Qlp R):Qlq R
 | 0,_=>none
 | m+1,a=>bif decide (a<b) then QkO R d a fun c e=>Qku R c[2]? fun f=>QkF R f e fun g h=>bif decide (wJ (g-h)>h2) then k0 else U7 n h2 d b k0 k1 m (wJ (a+1)) else k1 a (decide (a<b))
def HO (a0:Int) (a1:LL) (K:Qlr R):oP R:=Qks R (Qkq (decide (a0<1)) (decide (a0>7200))) fun d=>Qkv R (!d) (Jg n a1 some) fun a=>bif Qkq d (!a) then K false else U7 n a0 a1 (a1.length:Int) (K false) (fun b c=>K true) n 0
def Y0 (n:Nat) (a b c d e f:Int) (g:Bool) (h:Int) (K:Qlr R):oP R:=K (Qkq g (decide (wJ ((if b<wJ (f+d) then wJ (f+d) else b)-(if wJ (e+c)<a then wJ (e+c) else a))>h)))
def QH (e:LL) (b f:Int) (c g d:D) (h i j:Int) (k0:Int->Bool->Bool->oP R):Nat->Int->Bool->oP R
 | 0,_,_=>none
 | m+1,a,k=>bif decide (a<b) then QkT R e a fun q r s=>QkF R c q fun o p=>QkN R r (o==p) d fun t u=>bif Qkr (o==p) (decide (wJ (f+t)<=u)) then Qku R (pIw c) fun ab=>QkF R g d fun v x=>Qku R (pIw q) fun ac=>QkF R r s fun y z=>Qku R (Y0 n v x y z i j k h some) fun aa=>QH e b f c g d h i j k0 m (wJ (a+1)) aa else QH e b f c g d h i j k0 m (wJ (a+1)) k else k0 a (decide (a<b)) k
def Xh (d:LL) (b e f g:Int) (h:LL) (i j:Int) (k0:Int->Bool->Bool->oP R):Nat->Int->Bool->oP R
 | 0,_,_=>none
 | m+1,a,k=>bif decide (a<b) then QkT R d a fun o p q=>QkY R h e fun l=>QH n l (l.length:Int) f o p q g i j (fun u v t=>Xh d b e f g h i j k0 m (wJ (a+1)) t) n 0 k else k0 a (decide (a<b)) k
def ZO (c:Int) (a:LL) (d e f g h:Int) (i:Bool) (K:Qlr R):oP R:=QkY R a d fun b=>Xh n b (b.length:Int) e f c a g h (fun m o l=>K l) n 0 i
def Xw (b:LL) (h2 c:Int) (k0:oP R) (k1:Qlp R):Qlq R
 | 0,_=>none
 | m+1,a=>bif decide (a<h2) then QkY R b a fun f=>Qku R (HO n c f some) fun g=>bif !g then k0 else Xw b h2 c k0 k1 m (wJ (a+1)) else k1 a (decide (a<h2))
def X8 (d:LL) (c e:Int) (f:LL) (k0:oP R) (k1:Qlp R):Qlq R
 | 0,_=>none
 | m+1,a=>bif decide (a<c) then QkW R d a fun g h i j=>Ql7 R g h i fun k l o=>QkV R j g (Qku R (pIw h) fun u=>QkF R i j fun p q=>Qku R (ZO n e f k l o p q false some) fun r=>bif r then k0 else X8 d c e f k0 k1 m (wJ (a+1))) else k1 a (decide (a<c))
def ZA (b:Int) (a c:LL) (K:Qlr R):oP R:=Xw n a (a.length:Int) b (K false) (fun d e=>X8 n c (c.length:Int) b a (K false) (fun f g=>K true) n 0) n 0
def QY (n:Nat) (a:LL) (a1 a2:Int) (K:Qlm R):oP R:=QkK R a.length a1 a a1.toNat fun c=>K (wJ (c+a2))
def Yh (n:Nat) (a0:Int) (K:Qlm R):oP R:=K (wJ (2*a0))
def Ux (n:Nat) (a0:Int) (K:Qlm R):oP R:=K (wJ (wJ (2*a0)+1))
def Xb (n:Nat) (a:LL) (a1 a2 b c d e:Int) (K:Qls R):oP R:=Qkt R [[Q4 a1,Q4 a2,Q4 b,Q4 c,Q4 d,Q4 e]] fun g=>Qku R (Y1 ((a.length+g.length)*48)) fun f=>K (a++g)
def Vd (a b:LL) (a1:Int) (K:Qlm R):oP R:=QkQ R a a1 fun e=>Qku R (QY n b a1 (wJ ((e.length:Int)-1)) some) fun f=>K f
def Qs (f:Int) (g:LL) (c:Int) (d h:D) (i j:LL) (k0:Qln R):Qlo R
 | 0,_,_=>none
 | m+1,a,k=>bif decide (a<c) then QkO R g a fun e p=>Ql8 R e fun q r=>Qku R (QY n i f a some) fun b=>QkG R j b fun l=>Qku R (Yh n b some) fun u=>Qku R (Ux n b some) fun v=>QkF R p d fun x y=>Qku R (Xb n k 1 u v l (wJ (l+x)) y some) fun o=>Qku R (pSl 4 h) fun z=>bif decide (a<wJ ((z.length:Int)-1)) then Qku R (Ux n b some) fun aa=>Qku R (Yh n (wJ (b+1)) some) fun ab=>Ql7 R q r d fun ac ad ae=>Qku R (Xb n o 2 aa ab ac ad ae some) fun ag=>Qs f g c d h i j k0 m (wJ (a+1)) ag else Qs f g c d h i j k0 m (wJ (a+1)) o else k0 a (decide (a<c)) k
def QD (c:LL) (h2:Int) (d e:LL) (k0:Qln R):Qlo R
 | 0,_,_=>none
 | m+1,a,f=>bif decide (a<h2) then Qku R (Q1 c a) fun b=>Qku R b[0]? fun k=>Qku R b[1]? fun l=>Ql8 R b fun i g=>Qku R (pSl 4 g) fun h=>Qs n a h (h.length:Int) i g d e (fun o p j=>QD c h2 d e k0 m (wJ (a+1)) j) n 0 f else k0 a (decide (a<h2)) f
def QF (e:LL) (c:Int) (d:LL) (k0:Qln R):Qlo R
 | 0,_,_=>none
 | m+1,b,f=>bif decide (b<c) then QkH R e b fun a g h i=>Ql1 R a fun j k l=>Qku R a[6]? fun o=>QkF R g h fun p q=>Qku R (QY n d p q some) fun r=>QkF R i j fun s t=>Qku R (QY n d s t some) fun u=>Qku R (Ux n r some) fun v=>Qku R (Yh n u some) fun x=>Ql7 R k l o fun y z aa=>Qku R (Xb n f 3 v x y z aa some) fun ab=>QF e c d k0 m (wJ (b+1)) ab else k0 b (decide (b<c)) f
def QE (e:LL) (c:Int) (d f:LL) (k0:Qln R):Qlo R
 | 0,_,_=>none
 | m+1,a,g=>bif decide (a<c) then QkW R e a fun h i j k=>Qku R (pIw h) fun l=>Qku R (Vd n f d l some) fun o=>Qku R (Ux n o some) fun p=>Qku R (pIw i) fun q=>Qku R (QY n d q 0 some) fun r=>Qku R (Yh n r some) fun s=>QkF R j k fun t u=>Qku R (Xb n g 4 p s t u 1 some) fun v=>QE e c d f k0 m (wJ (a+1)) v else k0 a (decide (a<c)) g
def QG (e:LL) (c:Int) (d:LL) (k0:Qln R):Qlo R
 | 0,_,_=>none
 | m+1,a,f=>bif decide (a<c) then QkH R e a fun b h i j=>QkP R b fun k g=>QkF R h i fun l o=>Qku R (QY n d l o some) fun p=>Qku R (Yh n p some) fun q=>QkF R j k fun r s=>Qku R (QY n d r s some) fun t=>Qku R (Yh n t some) fun u=>Qku R (pIw g) fun v=>Qku R (pIw g) fun x=>Qku R (Xb n f 5 q u v x 0 some) fun y=>QG e c d k0 m (wJ (a+1)) y else k0 a (decide (a<c)) f
def Yj (b c d e a f g:LL) (K:Qls R):oP R:=QD n b (b.length:Int) a f (fun l m h=>QF n c (c.length:Int) a (fun o p i=>QE n d (d.length:Int) a b (fun q r j=>QG n e (e.length:Int) a (fun s t k=>K k) n 0 j) n 0 i) n 0 h) n 0 g
def Xr (n:Nat) (a:Int) (b:Int->Bool) (K:(Int->Bool)->oP R):oP R:=K (Q7r b a true)
def QW (e:LL) (b f:Int) (c g d:D) (k0:QlK R):QlL R
 | 0,_,_=>none
 | m+1,a,h=>bif decide (a<b) then QkT R e a fun l o p=>QkF R c l fun j k=>QkN R o (j==k) d fun q r=>bif Qkr (j==k) (decide (wJ (f+q)<=r)) then Qku R (pIw c) fun s=>QkV R g d (QkV R l o (Qku R (pIw p) fun z=>gb true (Xr n s h some) (fun _=>false) fun t=>QW e b f c g d k0 m (wJ (a+1)) t)) else QW e b f c g d k0 m (wJ (a+1)) h else k0 a (decide (a<b)) h
def Xi (d:LL) (b e f:Int) (g:LL) (k0:QlK R):QlL R
 | 0,_,_=>none
 | m+1,a,h=>bif decide (a<b) then QkT R d a fun j k l=>QkY R g e fun i=>QW n i (i.length:Int) f j k l (fun r s q=>Xi d b e f g k0 m (wJ (a+1)) q) n 0 h else k0 a (decide (a<b)) h
def ZP (a:LL) (c d e:Int) (f:Int->Bool) (K:(Int->Bool)->oP R):oP R:=QkY R a c fun b=>Xi n b (b.length:Int) d e a (fun j k i=>K i) n 0 f
def Qu (a h2:Int) (f:LL) (c:Int) (g:LL) (k0:QlK R):QlL R
 | 0,_,_=>none
 | m+1,b,h=>bif decide (b<c) then QkW R f b fun i j o p=>Qku R (pIw i) fun e=>Qkv R (e==a) (pIw j) fun k=>Qks R (Qkr (e==a) (k==h2)) fun x=>Qkv R (!x) (pIw i) fun l=>Qkv R (!x&&l==h2) (pIw j) fun q=>bif Qkq x (Qkr (l==h2) (q==a)) then Ql7 R i j o fun r s t=>Qku R (pIw p) fun v=>gb true (ZP n g r s t h some) (fun _=>false) fun u=>Qu a h2 f c g k0 m (wJ (b+1)) u else Qu a h2 f c g k0 m (wJ (b+1)) h else k0 b (decide (b<c)) h
def XU (b a:LL) (a1 a2:Int) (K:(Int->Bool)->oP R):oP R:=Qu n a1 a2 a (a.length:Int) b (fun d e c=>K c) n 0 fun _=>false
def XW (n:Nat) (c:LL) (h2:Int) (d:Int->Bool) (k0:Qln R):Qlo R
 | 0,_,_=>none
 | m+1,a,b=>bif decide (a<h2) then QkT R c a fun f g h=>Qku R (pIw f) fun i=>bif !(d i) then Qku R (Y1 ((b.length+[[f,g,h]].length)*24)) fun j=>XW n c h2 d k0 m (wJ (a+1)) (b++[[f,g,h]]) else XW n c h2 d k0 m (wJ (a+1)) b else k0 a (decide (a<h2)) b
def Uh (a0:LL) (a:Int->Bool) (K:LL->(Int->Bool)->oP R):oP R:=XW n a0 (a0.length:Int) a (fun c d b=>K b a) n 0 []
def UQ (n:Nat) (a0:Int) (K:Qlr R):oP R:=K (Qkr (decide (a0>=1)) (decide (a0<=7200)))
def Tq (n:Nat) (a0 a1:Int) (K:Qlm R):oP R:=bif decide (a1<1) then K 0 else Qku R (nz a1) fun a=>Qkt R (Int.tmod a0 a1) fun b=>bif decide (b<0) then K (wJ (b+a1)) else K b
def Jm (n:Nat) (a1 a2 a:Int) (K:Qls R):oP R:=bif decide (a<1) then K [] else bif decide (a>=a1) then Qku R (Y1 ([[Q4 0,Q4 a1]].length*16)) fun b=>K [[Q4 0,Q4 a1]] else Qkt R (wJ (a2+a)) fun d=>bif decide (d<=a1) then Qku R (Y1 ([[Q4 a2,Q4 d]].length*16)) fun u2=>K [[Q4 a2,Q4 d]] else Qkt R [[Q4 0,Q4 (wJ (d-a1))],[Q4 a2,Q4 a1]] fun c=>Qku R (Y1 (List.length c*16)) fun u3=>K c
def P7 (a0 a1 a2:Int) (K:Qlt R):oP R:=Qku R (UQ n a0 some) fun a=>bif !a then K [] 4 else Qku R (Tq n a1 a0 some) fun r2=>Qku R (Jm n a0 r2 a2 some) fun b=>K b 0
def U6 (n:Nat) (h2:Int) (f:LL) (d:Int) (k0:oP R) (k1:Qlu R):Qlv R
 | 0,_,_=>none
 | m+1,a,b=>bif decide (b<d) then QkS R f b fun h e=>Qku R (pIw h) fun c=>Qks R (decide (c<=a)) fun o=>QkN R h (!o) e fun i j=>Qks R (Qkq o (decide (i>=j))) fun p=>Qkv R (!p) (pIw e) fun k=>bif Qkq p (decide (k>h2)) then k0 else Qku R (pIw e) fun l=>U6 n h2 f d k0 k1 m l (wJ (b+1)) else k1 a b (decide (b<d))
def Gm (a0:Int) (a1:LL) (K:Qlr R):oP R:=Qku R (UQ n a0 some) fun a=>bif !a then K false else U6 n a0 a1 (a1.length:Int) (K false) (fun b c d=>K true) n (-1:Int) 0
def WZ (h2:Int) (c:LL) (b:Int) (k0:oP R) (k1:Qlp R):Qlq R
 | 0,_=>none
 | m+1,a=>bif decide (a<b) then Qli R c a fun f=>Qku R (Gm n h2 f some) fun g=>bif !g then k0 else WZ h2 c b k0 k1 m (wJ (a+1)) else k1 a (decide (a<b))
def HU (a0:Int) (a1:LL) (K:Qlm R):oP R:=Qku R (UQ n a0 some) fun a=>bif !a then K 4 else WZ n a0 a1 (a1.length:Int) (K 1) (fun b c=>K 0) n 0
def QC (n:Nat) (a1:Int) (K:Qls R):oP R:=bif decide (a1<0) then none else Qkt R (wJ (a1-wJ (0-0))) fun c=>bif decide (c>0) then Qku R (slB 0 none (some 0)) fun a=>gb true (bif decide (0<c) then some () else none) () fun u3=>Qku R (Y1 (Int.toNat c*16)) fun b=>K [] else K []
def Qf (n:Nat) (c:LL) (b:Int) (k0:Qlu R):Qlv R
 | 0,_,_=>none
 | m+1,h2,a=>bif decide (a<b) then Qli R c a fun d=>Qkt R (wJ (h2+(d.length:Int))) fun g=>bif decide (g<0) then none else Qf n c b k0 m g (wJ (a+1)) else k0 h2 a (decide (a<b))
def Qg (n:Nat) (d:LL) (b:Int) (k0:Qln R):Qlo R
 | 0,_,_=>none
 | m+1,a,c=>bif decide (a<b) then Qli R d a fun e=>Qku R (Y1 ((c.length+e.length)*16)) fun h=>Qg n d b k0 m (wJ (a+1)) (c++e) else k0 a (decide (a<b)) c
def QI (a0:LL) (K:Qls R):oP R:=Qf n a0 (a0.length:Int) (fun a d e=>Qku R (QC n a some) fun b=>Qg n a0 (a0.length:Int) (fun f g c=>K c) n 0 b) n 0 0
def NZ (n:Nat) (a0:Int) (K:Qlm R):oP R:=bif decide (a0>=65536) then Qku R (BR 16) fun e=>bif decide (shR .u32 a0 16>=256) then Qku R (BR 8) fun f=>Qku R (VU Qkp (IntKind.wrap .u8 (shR .u32 (shR .u32 a0 16) 8))) fun a=>K (wJ (wJ (16+8)+wJ a)) else Qku R (VU Qkp (IntKind.wrap .u8 (shR .u32 a0 16))) fun b=>K (wJ (16+wJ b)) else bif decide (a0>=256) then Qku R (BR 8) fun g=>Qku R (VU Qkp (IntKind.wrap .u8 (shR .u32 a0 8))) fun c=>K (wJ (wJ (0+8)+wJ c)) else Qku R (VU Qkp (IntKind.wrap .u8 a0)) fun d=>K (wJ (0+wJ d))
def Nj (n:Nat) (a0:Int) (K:Qlm R):oP R:=bif decide (a0>=4294967296) then Qku R (BR 32) fun i=>bif decide (shR .u64 a0 32>=65536) then Qku R (BR 16) fun j=>bif decide (shR .u64 (shR .u64 a0 32) 16>=256) then Qku R (BR 8) fun k=>Qku R (VU Qkp (IntKind.wrap .u8 (shR .u64 (shR .u64 (shR .u64 a0 32) 16) 8))) fun a=>K (wJ (wJ (wJ (32+16)+8)+wJ a)) else Qku R (VU Qkp (IntKind.wrap .u8 (shR .u64 (shR .u64 a0 32) 16))) fun b=>K (wJ (wJ (32+16)+wJ b)) else bif decide (shR .u64 a0 32>=256) then Qku R (BR 8) fun l=>Qku R (VU Qkp (IntKind.wrap .u8 (shR .u64 (shR .u64 a0 32) 8))) fun c=>K (wJ (wJ (32+8)+wJ c)) else Qku R (VU Qkp (IntKind.wrap .u8 (shR .u64 a0 32))) fun d=>K (wJ (32+wJ d)) else bif decide (a0>=65536) then Qku R (BR 16) fun m=>bif decide (shR .u64 a0 16>=256) then Qku R (BR 8) fun o=>Qku R (VU Qkp (IntKind.wrap .u8 (shR .u64 (shR .u64 a0 16) 8))) fun e=>K (wJ (wJ (wJ (0+16)+8)+wJ e)) else Qku R (VU Qkp (IntKind.wrap .u8 (shR .u64 a0 16))) fun f=>K (wJ (wJ (0+16)+wJ f)) else bif decide (a0>=256) then Qku R (BR 8) fun p=>Qku R (VU Qkp (IntKind.wrap .u8 (shR .u64 a0 8))) fun g=>K (wJ (wJ (0+8)+wJ g)) else Qku R (VU Qkp (IntKind.wrap .u8 a0)) fun h=>K (wJ (0+wJ h))
def Gb (a0:Int) (K:Qlm R):oP R:=bif false then Qku R (NZ n (IntKind.wrap .u32 a0) some) fun a=>K a else Qku R (Nj n a0 some) fun r2=>K r2
def Vl (n:Nat) (a0:Int) (K:Qlr R):oP R:=K (a0 !=a0)
def VZ (a0 a1:Int) (K:Qlm R):oP R:=Qku R (Vl n a0 some) fun a=>Qku R (Vl n a1 some) fun r2=>bif a then bif r2 then K 0 else K (-1:Int) else bif r2 then K 1 else bif decide (a0<a1) then K (-1:Int) else bif decide (a0>a1) then K 1 else K 0
def UR (a d b e:Int) (K:Qlm R):oP R:=Qku R (VZ n a b some) fun c=>K c
def Qh (b:Int) (k0:Qln R):Qlo R
 | 0,_,_=>none
 | m+1,a,c=>Qks R (decide (a>b)) fun ag=>Qkv R ag (inB c.length a) fun z=>Qkv R ag c[a.toNat]? fun g=>Qlj R g ag fun l o=>Qkt R (wJ (a-1)) fun aj=>Qkv R ag (inB c.length aj) fun aa=>Qkt R (Int.toNat aj) fun ak=>Qkv R ag c[ak]? fun h=>Qlj R h ag fun p q=>QkN R l ag o fun r s=>QkN R p ag q fun t u=>Qkv R ag (UR n r s t u some) fun i=>Qks R (Qkr ag (decide (i<0))) fun ah=>bif ah then Qlc R c.length aj c ak fun d e=>Qlc R c.length a c a.toNat fun v x=>QkI R c.length a c a.toNat fun f=>Qkt R (List.set c a.toNat (List.set (List.set f 0 d) 1 e)) fun ai=>QkI R (List.length ai) aj ai ak fun y=>Qh b k0 m aj (List.set ai ak (List.set (List.set y 0 v) 1 x)) else k0 a ah c
def Q7 (b h2:Int) (k0:Qln R):Qlo R
 | 0,_,_=>none
 | m+1,a,c=>bif decide (a<h2) then Qh n b (fun e f d=>Q7 b h2 k0 m (wJ (a+1)) d) n a c else k0 a (decide (a<h2)) c
def Xk (a:LL) (a1 a2:Int) (K:Qls R):oP R:=Q7 n a1 a2 (fun c d b=>K b) n (wJ (a1+1)) a
def Xz (a h2 d:Int) (b:LL) (k0:Qls R):Nat->oP R
 | 0=>none
 | m+1=>bif decide (wJ (h2-a)<=12) then Qku R (Xk n b a h2 some) fun c=>Qku R (Hm c b.length) fun e=>k0 c else bif d==0 then none else bif !true then none else none
def XK (a:LL) (a1 a2 b:Int) (K:Qls R):oP R:=Xz n a1 a2 b a (fun c=>K c) n
def Qv (a:LL) (K:Qls R):oP R:=Qku R (Gb n (IntKind.wrap .u64 (a.length:Int)) some) fun b=>Qku R (XK n a 0 (a.length:Int) b some) fun r2=>Qku R (Hm r2 a.length) fun u3=>K r2
def X7 (n:Nat) (c:Int) (d:LL) (k0:Qln R):Qlo R
 | 0,_,_=>none
 | m+1,b,a=>bif decide (b<c) then Qlc R d.length b d b.toNat fun e f=>Qkt R (wJ ((a.length:Int)-1)) fun z=>Qks R (decide (z>=0)) fun y=>Qkv R y (pIw e) fun j=>Qkv R y (inB a.length z) fun t=>Qkt R (Int.toNat z) fun aa=>Qkv R y a[aa]? fun k=>Qkv R y k[1]? fun l=>Qkv R y (pIw l) fun o=>bif Qkr y (decide (j<=o)) then QkI R a.length z a aa fun p=>Qku R p[1]? fun q=>QkF R q f fun h i=>QkI R a.length z a aa fun r=>X7 n c d k0 m (wJ (b+1)) (List.set a aa (List.set r 1 (Q4 (if h<i then i else h)))) else Qku R (Y1 ((a.length+[[e,f]].length)*16)) fun x=>X7 n c d k0 m (wJ (b+1)) (a++[[e,f]]) else k0 b (decide (b<c)) a
def Hv (b:LL) (K:LL->LL->oP R):oP R:=Qku R (Qv n b some) fun a=>Qku R (Hm a b.length) fun u2=>X7 n (a.length:Int) a (fun d e c=>K c a) n 0 []
def T6 (a0:Int) (a1 a2:LL) (K:Qlt R):oP R:=Qkt R [[D.sl 2 a1],[D.sl 2 a2]] fun c=>Qku R (HU n a0 c some) fun a=>bif a !=0 then K [] a else Qku R (QI n c some) fun r2=>Qku R (FG [r2]) fun u3=>gb true (Hv n r2 Tu2) ([],[]) fun b=>Qku R (Hm b.2 r2.length) fun d=>K b.1 0
def Z1 (c f g d e:Int) (h:LL) (K:Qls R):oP R:=Qku R (P7 n e (wJ (wJ (c-d)+1)) (wJ (wJ (wJ (wJ (f-g)-1)-wJ (wJ (c-d)+1))+1)) Tu2) fun a=>Qku R (T6 n e h a.1 Tu2) fun r2=>Qku R (FG [r2.1]) fun u3=>K r2.1
def Qo (b:Int) (k0:LL->LL->Bool->LL->oP R):Nat->LL->LL->LL->oP R
 | 0,_,_,_=>none
 | m+1,a,h2,e=>Qks R (Qkr (decide ((a.length:Int)>0)) (decide ((h2.length:Int)>0))) fun aq=>bif aq then QkT R a 0 fun c k l=>QkT R h2 0 fun d o p=>QkF R c d fun q r=>bif q==r then Qku R (pIw c) fun ao=>QkF R k l fun s t=>Qku R (pIw d) fun ap=>QkF R o p fun u v=>Qku R (Z1 n s t u v b e some) fun f=>QkF R c d fun x y=>bif decide (x<=y) then Qku R (slB a.length (some 1) none) fun i=>QkF R c d fun z aa=>bif decide (z>=aa) then Qku R (slB h2.length (some 1) none) fun ab=>Qo b k0 m (cut a i) (cut h2 ab) f else Qo b k0 m (cut a i) h2 f else QkF R c d fun ac ad=>bif decide (ac>=ad) then Qku R (slB h2.length (some 1) none) fun ae=>Qo b k0 m a (cut h2 ae) f else Qo b k0 m a h2 f else QkF R c d fun ag ah=>bif decide (ag<=ah) then Qku R (slB a.length (some 1) none) fun j=>QkF R c d fun ai aj=>bif decide (ai>=aj) then Qku R (slB h2.length (some 1) none) fun ak=>Qo b k0 m (cut a j) (cut h2 ak) e else Qo b k0 m (cut a j) h2 e else QkF R c d fun al am=>bif decide (al>=am) then Qku R (slB h2.length (some 1) none) fun an=>Qo b k0 m a (cut h2 an) e else Qo b k0 m a h2 e else k0 a h2 aq e
def KC (a0 a1:LL) (a:Int) (b:LL) (K:Qls R):oP R:=Qo n a (fun d e f c=>K c) n a0 a1 b
def Je (a0:Int) (a1 a2:LL) (K:Qlt R):oP R:=jn (fun (d:Bool)=>(bif d then K [] 4 else jn (fun (e:Bool)=>(bif e then K [] 1 else Qku R (KC n a1 a2 a0 [] some) fun f=>K f 0:oP R)) fun a=>Qku R (Jg n a1 some) fun b=>bif !b then a (!b) else Qku R (Jg n a2 some) fun g=>a (!g):oP R)) fun c=>bif decide (a0<1) then c (decide (a0<1)) else c (decide (a0>7200))
def PE (n:Nat) (a b:Int) (K:Qlm R):oP R:=K (wJ (b-a))
def ZH (h2:LL) (b:Int) (k0:Qlu R):Qlv R
 | 0,_,_=>none
 | m+1,c,a=>bif decide (a<b) then QkS R h2 a fun e f=>QkF R e f fun g h=>Qku R (PE n g h some) fun i=>ZH h2 b k0 m (wJ (c+i)) (wJ (a+1)) else k0 c a (decide (a<b))
def SV (a0:LL) (K:Qlm R):oP R:=ZH n a0 (a0.length:Int) (fun a b c=>K a) n 0 0
def Tc (a0:Int) (a1:LL) (K:Qlm R):oP R:=Qku R (Gm n a0 a1 some) fun a=>bif !a then K 0 else Qku R (SV n a1 some) fun r2=>K r2
def Zp (n:Nat) (b:Int) (e:LL) (c:Int) (k0:Qln R):Qlo R
 | 0,_,_=>none
 | m+1,a,d=>bif decide (a<c) then QkS R e a fun i j=>QkF R j i fun g h=>Qkt R [[Q4 g,Q4 (wJ (wJ (h+b)-1))]] fun l=>Qku R (Y1 ((d.length+l.length)*16)) fun k=>Zp n b e c k0 m (wJ (a+1)) (d++l) else k0 a (decide (a<c)) d
def YC (n:Nat) (b c:Int) (d:LL) (k0:Qln R):Qlo R
 | 0,_,_=>none
 | m+1,a,e=>bif decide (a<c) then Qlc R d.length a d a.toNat fun i j=>QkF R j i fun g h=>Qkt R [[Q4 g,Q4 (wJ (wJ (h+b)-1))]] fun o=>Qku R (Y1 ((e.length+o.length)*16)) fun l=>YC n b c d k0 m (wJ (a+1)) (e++o) else k0 a (decide (a<c)) e
def WB (a0:Int) (a1 a2:LL) (K:Qlt R):oP R:=Qku R (Je n a0 a1 a2 Tu2) fun a=>bif a.2 !=0 then K [] a.2 else Qku R (Tc n a0 a.1 some) fun r2=>bif r2==a0 then K [] 13 else Qkt R (a.1.length:Int) fun ah=>Qks R (decide (ah>1)) fun g=>Qkv R g (inB a.1.length 0) fun u3=>Qkv R g a.1[Int.toNat 0]? fun h=>Qle R h g fun b=>Qks R (Qkr g (b==0)) fun ac=>Qkt R (wJ (ah-1)) fun ad=>Qkv R ac (inB a.1.length ad) fun t=>Qkt R (Int.toNat ad) fun ag=>Qkv R ac a.1[ag]? fun j=>Qkv R ac j[1]? fun k=>Qkv R ac (pIw k) fun l=>bif Qkr ac (l==a0) then Ql0 R a.1.length ad a.1 ag fun c=>Ql0 R a.1.length 0 a.1 (Int.toNat 0) fun d=>QkI R a.1.length ad a.1 ag fun e=>Qkt R (List.set a.1 ag (List.set e 1 (Q4 (wJ (c+d))))) fun ae=>Qku R (slB (List.length ae) (some 1) none) fun f=>Zp n a0 (cut ae f) ((List.length (cut ae f):Nat):Int) (fun y z r=>K r 0) n 0 [] else YC n a0 ah a.1 (fun aa ab s=>K s 0) n 0 []
def Qz (c d:Int) (e:LL) (b:Int) (k0:Qln R):Qlo R
 | 0,_,_=>none
 | m+1,a,f=>bif decide (a<b) then QkS R e a fun h i=>Qku R (Yh n c some) fun j=>Qku R (Yh n d some) fun k=>QkF R h i fun l o=>Qku R (Xb n f 6 j k l o 0 some) fun p=>Qz c d e b k0 m (wJ (a+1)) p else k0 a (decide (a<b)) f
def QP (e h:Int) (b i:LL) (k0:QlB R) (k1:Qln R):Qlo R
 | 0,_,_=>none
 | m+1,a,g=>Qks R (decide (a<(b.length:Int))) fun c=>bif c then gb true (XU n b i e a some) (fun _=>false) fun k=>QkY R b e fun p=>gb true (Uh n p k Tu2) ([],fun _=>false) fun j=>QkY R b a fun s=>gb true (Uh n s j.2 Tu2) ([],fun _=>false) fun t=>Qku R (WB n h j.1 t.1 Tu2) fun f=>bif f.2 !=0 then k0 f.2 g else Qz n e a f.1 (f.1.length:Int) (fun v x u=>QP e h b i k0 k1 m (wJ (a+1)) u) n 0 g else k1 a c g
def Qp (a b:Int) (c d:LL) (k0:QlB R) (k1:Qln R):Qlo R
 | 0,_,_=>none
 | m+1,h2,e=>bif decide (h2<a) then QP n h2 b c d (fun f g=>k0 f g) (fun i j h=>Qp a b c d k0 k1 m (wJ (h2+1)) h) n (wJ (h2+1)) e else k1 h2 (decide (h2<a)) e
def Yd (b:Int) (a c d:LL) (K:QlB R):oP R:=Qp n (a.length:Int) b a c (fun e f=>K e f) (fun h i g=>K 0 g) n 0 d
def FP (n:Nat) (a0 a1:Int) (K:Qlm R):oP R:=bif decide (a1<1) then K 0 else Qku R (nz a1) fun a=>Qkt R (Int.tmod a0 a1) fun b=>bif decide (b<0) then K (wJ (b+a1)) else K b
def YT (n:Nat) (d:LL) (k0:oP R) (k1:Qlp R):Qlq R
 | 0,_=>none
 | m+1,h2=>Qks R (decide (h2<(d.length:Int))) fun ad=>bif ad then QkG R d h2 fun a=>Qks R (!(decide (a<0))&&decide (h2>0)) fun ab=>Qkv R ab (Q1 d h2) fun i=>Qle R i ab fun b=>Qkv R ab (Q1 d (wJ (h2-1))) fun k=>Qle R k ab fun c=>Qks R (Qkq (decide (a<0)) (Qkr (decide (h2>0)) (decide (b<=c)))) fun aa=>Ql6 R d h2 (!aa) fun e=>Qks R (Qkq aa (decide (e<(-65536:Int)))) fun z=>Qkv R (!z) (Q1 d h2) fun q=>Qkv R (!z) q[2]? fun r=>Qkv R (!z) (pIw r) fun f=>Qks R (Qkq z (decide (f>65536))) fun ac=>Ql6 R d h2 (!ac) fun u=>Qkv R (!ac) (Q1 d h2) fun v=>Qkv R (!ac) v[2]? fun x=>Qkv R (!ac) (pIw x) fun y=>bif Qkq ac (decide (u>=y)) then k0 else YT n d k0 k1 m (wJ (h2+1)) else k1 h2 ad
def JF (a0:LL) (K:Qlr R):oP R:=YT n a0 (K false) (fun a b=>K true) n 0
def Ul (n:Nat) (b:LL) (h2:Int) (k0:D->D->D->oP R) (k1:Qlp R):Qlq R
 | 0,_=>none
 | m+1,a=>Qks R (decide (a<(b.length:Int))) fun j=>bif j then QkG R b a fun f=>bif f==h2 then QkT R b a fun g h i=>k0 g h i else Ul n b h2 k0 k1 m (wJ (a+1)) else k1 a j
def A7 (a0:LL) (a1:Int) (K:D->D->D->Bool->oP R):oP R:=Ul n a0 a1 (fun a b c=>K a b c true) (fun d e=>K (Q4 0) (Q4 0) (Q4 0) false) n 0
def Z3 (b:Int) (f:LL) (g d:Int) (h:D) (k0:Qln R):Qlo R
 | 0,_,_=>none
 | m+1,a,c=>Qks R (Qkr (decide (a<d)) (decide (a<b))) fun q=>bif q then Qlh R f g fun j=>QkF R j h fun k l=>Qku R (FP n (wJ (wJ (wJ (k-l)+1)+a)) b some) fun e=>QkI R c.length e c e.toNat fun o=>Z3 b f g d h k0 m (wJ (a+1)) (List.set c e.toNat (List.set o 0 (D.bool true))) else k0 a q c
def XZ (d:Int) (b e:LL) (k0:Qln R):Qlo R
 | 0,_,_=>none
 | m+1,a,f=>Qks R (decide (a<(b.length:Int))) fun j=>bif j then QkG R b a fun i=>gb true (A7 n e i Tu4) (.bool false,.bool false,.bool false,false) fun c=>bif !c.2.2.2 then XZ d b e k0 m (wJ (a+1)) f else Qku R (Q1 b a) fun o=>Ql5 R o fun q=>Qlh R b a fun s=>Ql7 R s c.2.2.1 c.2.1 fun t u v=>Z3 n d b a (wJ (wJ (wJ (wJ (q-t)+u)-v)-1)) c.2.2.1 (fun y z x=>XZ d b e k0 m (wJ (a+1)) x) n 0 f else k0 a j f
def KK (a0:Int) (a1 a2:LL) (K:Qlt R):oP R:=Qku R (VF n a0 1 7200 some) fun a=>bif !a then K [] 4 else Qku R (JF n a1 some) fun r2=>Qkv R (!(!r2)) (JF n a2 some) fun b=>bif Qkq (!r2) (!b) then K [] 1 else gb true (bif decide (0<=a0)&&decide (a0<=a0) then some () else none) () fun d=>Qku R (Y1 (Int.toNat a0*1)) fun e=>XZ n a0 a1 a2 (fun f g c=>K c 0) n 0 (List.replicate a0.toNat [D.bool false])
def Wt (n:Nat) (h2:Int) (b:LL) (k0:Qlu R):Qlv R
 | 0,_,_=>none
 | m+1,c,a=>bif decide (a<h2) then QkL R b a fun e=>Qku R (Ko e) fun f=>bif f then Wt n h2 b k0 m (wJ (c+1)) (wJ (a+1)) else Wt n h2 b k0 m c (wJ (a+1)) else k0 c a (decide (a<h2))
def WE (n:Nat) (a:Int) (c:LL) (d:Int) (k0:Qlp R):Qlq R
 | 0,_=>none
 | m+1,b=>Qku R (nz a) fun h=>QkL R c (Int.tmod (wJ (d+b)) a) fun g=>Qku R (Ko g) fun e=>bif e then WE n a c d k0 m (wJ (b+1)) else k0 b e
def Yf (b:Int) (c:LL) (k0:Qln R):Qlo R
 | 0,_,_=>none
 | m+1,a,e=>bif decide (a<b) then QkL R c a fun h=>Qku R (Ko h) fun d=>Qkv R (!(!d)) (FP n (wJ (a-1)) b some) fun i=>Qkv R (!(!d)) (Q1 c i) fun j=>Qkv R (!(!d)) j[0]? fun k=>Qkv R (!(!d)) (Ko k) fun l=>bif Qkq (!d) l then Yf b c k0 m (wJ (a+1)) e else WE n b c a (fun f o=>Qkt R [[Q4 (wJ (a+f)),Q4 (wJ (wJ (a+b)-1))]] fun q=>Qku R (Y1 ((e.length+q.length)*16)) fun p=>Yf b c k0 m (wJ (a+1)) (e++q)) n 0 else k0 a (decide (a<b)) e
def KU (a0:Int) (a1 a2:LL) (K:Qlt R):oP R:=Qku R (KK n a0 a1 a2 Tu2) fun a=>bif a.2 !=0 then K [] a.2 else Wt n a0 a.1 (fun c e f=>bif c==a0 then K [] 13 else Yf n a0 a.1 (fun g h d=>K d 0) n 0 []) n 0 0
def Jf (n:Nat) (c:Int) (b:LL) (k0:oP R) (k1:Qlp R):Qlq R
 | 0,_=>none
 | m+1,a=>Qks R (decide (a<(b.length:Int))) fun j=>bif j then Qku R (Q1 b a) fun d=>Ql5 R d fun f=>QkR R b a fun i=>bif decide (wJ (f-i)>c) then k0 else Jf n c b k0 k1 m (wJ (a+1)) else k1 a j
def Mq (a0:Int) (a1:LL) (K:Qlr R):oP R:=Qku R (VF n a0 1 7200 some) fun a=>Qkv R (!(!a)) (JF n a1 some) fun r2=>bif Qkq (!a) (!r2) then K false else Jf n a0 a1 (K false) (fun b c=>K true) n 0
def Ji (n:Nat) (b:Int) (c:LL) (k0:Qlu R):Qlv R
 | 0,_,_=>none
 | m+1,h2,a=>bif decide (a<b) then QkQ R c a fun f=>Ji n b c k0 m (wJ (h2+(f.length:Int))) (wJ (a+1)) else k0 h2 a (decide (a<b))
def WY (a:LL) (a1:Int) (K:Qlm R):oP R:=Ji n a1 a (fun b c d=>K b) n 0 0
def ZY (c:LL) (f:Int) (g h:LL) (d:D) (k0:Qln R):Qlo R
 | 0,_,_=>none
 | m+1,a,e=>Qku R (pSl 4 d) fun k=>Qks R (decide (a<(k.length:Int))) fun aj=>bif aj then Qku R (WY n g f some) fun b=>Qku R (pSl 4 d) fun aa=>QkO R aa a fun i l=>Ql8 R i fun ab ac=>Qku R (pSl 4 d) fun ad=>Qkt R (wJ (b+a)) fun ak=>bif decide (a<wJ ((ad.length:Int)-1)) then QkL R c ak fun ag=>QkF R ag ab fun o p=>QkL R c ak fun ai=>Ql7 R ai l ac fun q r s=>Qkt R [[Q4 ak,Q4 (wJ (ak+1)),Q4 (wJ (o+p)),Q4 (wJ (wJ (q+r)+s))]] fun al=>Qku R (Y1 ((e.length+al.length)*32)) fun av=>ZY c f g h d k0 m (wJ (a+1)) (e++al) else Qku R (Sq n h f Tu5) fun j=>bif j.2.2.2.2 then Qku R (pIw j.2.1) fun an=>Qku R (WY n g an some) fun t=>QkL R c ak fun ap=>QkF R ap j.2.2.1 fun u v=>QkL R c ak fun ar=>Ql7 R ar l j.2.2.2.1 fun x y z=>Qkt R [[Q4 ak,Q4 t,Q4 (wJ (u+v)),Q4 (wJ (wJ (x+y)+z))]] fun am=>Qku R (Y1 ((e.length+am.length)*32)) fun a4=>ZY c f g h d k0 m (wJ (a+1)) (e++am) else ZY c f g h d k0 m (wJ (a+1)) e else k0 a aj e
def Uo (c a d:LL) (k0:Qln R):Qlo R
 | 0,_,_=>none
 | m+1,h2,e=>Qks R (decide (h2<(a.length:Int))) fun o=>bif o then QkX R a h2 fun f=>ZY n c h2 a d f (fun k l g=>Uo c a d k0 m (wJ (h2+1)) g) n 0 e else k0 h2 o e
def SN (a b a1:LL) (K:Qls R):oP R:=Uo n a1 a b (fun d e c=>K c) n 0 []
def YS (n:Nat) (b:LL) (h2:Int) (k0:D->D->D->oP R) (k1:Qlp R):Qlq R
 | 0,_=>none
 | m+1,a=>Qks R (decide (a<(b.length:Int))) fun j=>bif j then QkG R b a fun f=>bif f==h2 then QkT R b a fun g h i=>k0 g h i else YS n b h2 k0 k1 m (wJ (a+1)) else k1 a j
def Vr (a0:LL) (a1:Int) (K:D->D->D->Bool->oP R):oP R:=YS n a0 a1 (fun a b c=>K a b c true) (fun d e=>K (Q4 0) (Q4 0) (Q4 0) false) n 0
def PP (a0:LL) (f g h a2:Int) (K:D->D->D->D->D->D->Bool->oP R):oP R:=QkY R a0 f fun j=>gb true (Vr n j a2 Tu4) (.bool false,.bool false,.bool false,false) fun a=>QkY R a0 g fun m=>gb true (Vr n m a2 Tu4) (.bool false,.bool false,.bool false,false) fun b=>Qks R (Qkr a.2.2.2 b.2.2.2) fun d=>QkN R b.2.1 d a.2.2.1 fun o p=>K a.1 a.2.1 a.2.2.1 b.1 b.2.1 b.2.2.1 (Qkr d (decide (wJ (h+o)<=p)))
def UC (b:LL) (h2 c g d f:Int) (k0:oP R) (k1:Qlp R):Qlq R
 | 0,_=>none
 | m+1,a=>QkY R b c fun l24=>Qks R (decide (a<(l24.length:Int))) fun v=>bif v then QkY R b c fun r=>QkG R r a fun u=>Qku R (PP n b c g d u Tu7) fun e=>bif e.2.2.2.2.2.2 then Ql2 R e.2.2.1 e.2.2.2.2.2.1 e.2.1 e.2.2.2.2.1 fun h i j k=>bif decide (wJ ((if h<wJ (f+i) then wJ (f+i) else h)-(if wJ (d+k)<j then wJ (d+k) else j))>h2) then k0 else UC b h2 c g d f k0 k1 m (wJ (a+1)) else UC b h2 c g d f k0 k1 m (wJ (a+1)) else k1 a v
def Rn (a0:LL) (a b c d a2:Int) (K:Qlr R):oP R:=UC n a0 a2 a b c d (K false) (fun e f=>K true) n 0
def Uy (e:LL) (l:Int) (o:LL) (f c:D) (k0:Qln R):Qlo R
 | 0,_,_=>none
 | m+1,a,d=>Qku R (pSl 4 c) fun p=>Qks R (decide (a<(p.length:Int))) fun ah=>bif ah then Qku R (WY n o l some) fun b=>Qku R (pSl 4 c) fun t=>QkO R t a fun g u=>Ql8 R g fun v x=>QkG R e (wJ (b+a)) fun h=>QkL R e (wJ (b+a)) fun ab=>Ql7 R ab u f fun i j k=>Qkt R (wJ (2*wJ (b+a))) fun aj=>Qkt R [[Q4 1,Q4 aj,Q4 (wJ (aj+1)),Q4 h,Q4 (wJ (i+j)),Q4 k]] fun ai=>Qku R (Y1 ((d.length+ai.length)*48)) fun ae=>Qku R (pSl 4 c) fun ac=>bif decide (a<wJ ((ac.length:Int)-1)) then Ql7 R v x f fun q r s=>Qkt R [[Q4 2,Q4 (wJ (aj+1)),Q4 (wJ (aj+2)),Q4 q,Q4 r,Q4 s]] fun ak=>Qku R (Y1 ((List.length (d++ai)+ak.length)*48)) fun ag=>Uy e l o f c k0 m (wJ (a+1)) (d++ai++ak) else Uy e l o f c k0 m (wJ (a+1)) (d++ai) else k0 a ah d
def Uv (c a:LL) (k0:Qln R):Qlo R
 | 0,_,_=>none
 | m+1,h2,d=>Qks R (decide (h2<(a.length:Int))) fun l=>bif l then Qku R (Q1 a h2) fun b=>Qku R b[0]? fun h=>Qku R b[1]? fun i=>Ql8 R b fun e f=>Uy n c h2 a e f (fun j k g=>Uv c a k0 m (wJ (h2+1)) g) n 0 d else k0 h2 l d
def SK (a a1:LL) (K:Qls R):oP R:=Uv n a1 a (fun c d b=>K b) n 0 []
def Uw (d c:LL) (k0:Qln R):Qlo R
 | 0,_,_=>none
 | m+1,b,e=>Qks R (decide (b<(c.length:Int))) fun z=>bif z then QkH R c b fun a o p q=>Ql1 R a fun r s t=>Qku R a[6]? fun u=>Qku R (pIw o) fun v=>Qku R (WY n d v some) fun f=>QkF R p q fun g x=>Qku R (WY n d x some) fun h=>Ql2 R r s t u fun i j k l=>Qkt R [[Q4 3,Q4 (wJ (wJ (2*wJ (f+g))+1)),Q4 (wJ (2*wJ (h+i))),Q4 j,Q4 k,Q4 l]] fun aa=>Qku R (Y1 ((e.length+aa.length)*48)) fun y=>Uw d c k0 m (wJ (b+1)) (e++aa) else k0 b z e
def ZW (b c:LL) (k0:Qln R):Qlo R
 | 0,_,_=>none
 | m+1,a,e=>Qks R (decide (a<(c.length:Int))) fun x=>bif x then QkW R c a fun f l o p=>Qku R (pIw f) fun q=>Qku R (WY n b q some) fun g=>Qku R (pIw f) fun r=>QkQ R b r fun h=>Qku R (pIw l) fun u=>Qku R (WY n b u some) fun i=>QkF R o p fun j k=>Qkt R [[Q4 4,Q4 (wJ (wJ (2*wJ (g+(h.length:Int)))-1)),Q4 (wJ (2*i)),Q4 j,Q4 k,Q4 1]] fun y=>Qku R (Y1 ((e.length+y.length)*48)) fun v=>ZW b c k0 m (wJ (a+1)) (e++y) else k0 a x e
def Z9 (d c:LL) (k0:Qln R):Qlo R
 | 0,_,_=>none
 | m+1,a,e=>Qks R (decide (a<(c.length:Int))) fun v=>bif v then QkH R c a fun b o p q=>QkP R b fun r f=>Qku R (pIw o) fun s=>Qku R (WY n d s some) fun g=>QkF R p q fun h t=>Qku R (WY n d t some) fun i=>QkF R r f fun j k=>Qku R (pIw f) fun l=>Qkt R [[Q4 5,Q4 (wJ (2*wJ (g+h))),Q4 (wJ (2*wJ (i+j))),Q4 k,Q4 l,Q4 0]] fun x=>Qku R (Y1 ((e.length+x.length)*48)) fun u=>Z9 d c k0 m (wJ (a+1)) (e++x) else k0 a v e
def Rm (a b c d:LL) (K:Qls R):oP R:=Uw n a b (fun h i e=>ZW n a c (fun j k f=>Z9 n a d (fun l m g=>K g) n 0 f) n 0 e) n 0 []
def YN (g e:LL) (a b j:Int) (k0:Bool->Int->Bool->oP R):Nat->Bool->Int->oP R
 | 0,_,_=>none
 | m+1,k,c=>Qks R (decide (c<(e.length:Int))) fun am=>bif am then QkG R e c fun d=>Ql6 R e c (d==a) fun f=>Qks R (Qkr (d==a) (f==b)) fun al=>Qkv R (!al) (Q1 e c) fun r=>Qle R r (!al) fun h=>Qks R (!al&&h==b) fun an=>Ql6 R e c an fun v=>bif Qkq al (Qkr (h==b) (v==a)) then QkW R e c fun x y z aa=>QkY R g a fun ad=>QkL R ad j fun ag=>Ql2 R ag x y z fun ah ai aj ak=>Qku R (pIw aa) fun ar=>Qku R (PP n g ai aj ak ah Tu7) fun aq=>YN g e a b j k0 m (Qkq k aq.2.2.2.2.2.2) (wJ (c+1)) else YN g e a b j k0 m k (wJ (c+1)) else k0 k c am
def ZF (b h2:LL) (c e:Int) (k0:Qln R):Qlo R
 | 0,_,_=>none
 | m+1,a,d=>QkY R b c fun g=>Qks R (decide (a<(g.length:Int))) fun v=>bif v then YN n b h2 c e a (fun o s t=>bif !o then QkY R b c fun r=>QkT R r a fun h i j=>Qku R (Y1 ((d.length+[[h,i,j]].length)*24)) fun u=>ZF b h2 c e k0 m (wJ (a+1)) (d++[[h,i,j]]) else ZF b h2 c e k0 m (wJ (a+1)) d) n false 0 else k0 a v d
def Gt (a0 a1:LL) (a2 a:Int) (K:Qls R):oP R:=ZF n a0 a1 a2 a (fun c d b=>K b) n 0 []
def UH (h2:LL) (b:Int) (k0:oP R) (k1:Qlp R):Qlq R
 | 0,_=>none
 | m+1,a=>Qks R (decide (a<(h2.length:Int))) fun g=>bif g then QkY R h2 a fun e=>Qku R (Mq n b e some) fun f=>bif !f then k0 else UH h2 b k0 k1 m (wJ (a+1)) else k1 a g
def UJ (d b:LL) (e:Int) (k0:oP R) (k1:Qlp R):Qlq R
 | 0,_=>none
 | m+1,a=>Qks R (decide (a<(b.length:Int))) fun q=>bif q then QkW R b a fun f g h i=>Ql2 R f g h i fun j k l o=>Qku R (Rn n d j k l o e some) fun p=>bif !p then k0 else UJ d b e k0 k1 m (wJ (a+1)) else k1 a q
def VE (n:Nat) (b:Int) (d:LL) (k0:Qln R):Qlo R
 | 0,_,_=>none
 | m+1,a,c=>QkQ R d b fun e=>Qks R (decide (a<(e.length:Int))) fun i=>bif i then Qkt R [[Q4 1,Q4 b,Q4 a],[Q4 2,Q4 b,Q4 a]] fun j=>Qku R (Y1 ((c.length+List.length j)*24)) fun h=>VE n b d k0 m (wJ (a+1)) (c++j) else k0 a i c
def W0 (b:LL) (k0:Qln R):Qlo R
 | 0,_,_=>none
 | m+1,a,c=>Qks R (decide (a<(b.length:Int))) fun g=>bif g then VE n a b (fun e f d=>W0 b k0 m (wJ (a+1)) d) n 0 c else k0 a g c
def UD (n:Nat) (c d:Int) (b:LL) (k0:Qln R):Qlo R
 | 0,_,_=>none
 | m+1,a,e=>Qks R (decide (a<(b.length:Int))) fun o=>bif o then QkG R b a fun f=>QkR R b a fun g=>Qkt R [[Q4 6,Q4 (wJ (2*c)),Q4 (wJ (2*d)),Q4 f,Q4 g,Q4 0]] fun p=>Qku R (Y1 ((e.length+p.length)*48)) fun l=>UD n c d b k0 m (wJ (a+1)) (e++p) else k0 a o e
def Vy (b d:LL) (c e:Int) (k0:oP R) (k1:Qln R):Qlo R
 | 0,_,_=>none
 | m+1,a,f=>Qks R (decide (a<(b.length:Int))) fun j=>bif j then Qku R (Gt n b d c a some) fun h=>Qku R (Gt n b d a c some) fun i=>Qku R (KU n e h i Tu2) fun g=>bif g.2 !=0 then k0 else UD n c a g.1 (fun o p l=>Vy b d c e k0 k1 m (wJ (a+1)) l) n 0 f else k1 a j f
def Uz (b c:LL) (d:Int) (k0:oP R) (k1:Qln R):Qlo R
 | 0,_,_=>none
 | m+1,a,e=>Qks R (decide (a<(b.length:Int))) fun i=>bif i then Vy n b c a d k0 (fun g h f=>Uz b c d k0 k1 m (wJ (a+1)) f) n (wJ (a+1)) e else k1 a i e
def Tn (k l m o:LL) (b:Int) (p q c e d f r:LL) (K:Int->LL->LL->Int->oP R):oP R:=gb true (Rb n k l m o b p q c e d f r Tu3) ([],[],0) fun a=>bif a.2.2 !=0 then K 0 [] [] a.2.2 else bif decide (wJ (2*(a.1.length:Int))>48) then K 0 [] [] 7 else UH n a.1 b (K 0 [] [] 13) (fun u v=>Qku R (SN n c d a.2.1 some) fun g=>UJ n a.1 g b (K 0 [] [] 13) (fun x y=>W0 n c (fun z aa t=>Qku R (SK n c a.2.1 some) fun h=>Qku R (Rm n c e d f some) fun i=>Qku R (Y1 ((h.length+i.length)*48)) fun ab=>Uz n a.1 g b (K 0 [] [] 13) (fun ac ad j=>bif decide ((j.length:Int)>512) then K 0 [] [] 7 else K b t j 0) n 0 (h++i)) n 0 []) n 0) n 0
def Gg (n:Nat) (b:Int) (a c:LL) (a1:Int) (K:Qlr R):oP R:=K (Qkr (decide (a1>=0)) (decide (a1<(a.length:Int))))
def U5 (p:LL) (h2 e:Int) (h i:LL) (k0:oP R) (k1:Qlp R):Qlq R
 | 0,_=>none
 | m+1,c=>bif decide (c<h2) then QkO R p c fun a q=>Qku R a[2]? fun r=>Ql1 R a fun j k s=>Qku R (pIw q) fun u=>Qku R (Gg n e h i u some) fun d=>Qkv R (!(!d)) (pIw r) fun v=>Qkv R (!(!d)) (Gg n e h i v some) fun l=>Qks R (Qkq (!d) (!l)) fun ag=>QkN R q (!ag) r fun x y=>bif Qkq ag (x==y) then k0 else Qku R (pIw j) fun b=>Qks R (decide (b<(-65536:Int))) fun ae=>QkN R j (!ae) k fun f g=>Qks R (Qkq ae (decide (f>g))) fun ah=>Qkv R (!ah) (pIw k) fun o=>Qks R (Qkq ah (decide (o>65536))) fun ad=>QkN R k (!ad) j fun z aa=>bif Qkq ad (decide (wJ (z-aa)>=e)) then k0 else Qku R (pIw s) fun t=>Qkv R (!(decide (t<0))) (pIw s) fun ab=>bif Qkq (decide (t<0)) (decide (ab>1048576)) then k0 else U5 p h2 e h i k0 k1 m (wJ (c+1)) else k1 c (decide (c<h2))
def Tf (b:Int) (c a:LL) (K:Qlr R):oP R:=bif Qkq (Qkq (Qkq (decide (b<2)) (decide (b>7200))) (decide ((c.length:Int)>48))) (decide ((a.length:Int)>512)) then K false else U5 n a (a.length:Int) b c a (K false) (fun d e=>K true) n 0
def V3 (n:Nat) (h2:LL) (b c:Int) (k0:oP R) (k1:Qlp R):Qlq R
 | 0,_=>none
 | m+1,a=>bif decide (a<b) then QkG R h2 a fun d=>bif Qkq (decide (d<0)) (decide (d>=c)) then k0 else V3 n h2 b c k0 k1 m (wJ (a+1)) else k1 a (decide (a<b))
def G1 (a:Int) (b c a1:LL) (K:Qlr R):oP R:=Qku R (Tf n a b c some) fun d=>bif Qkq (!d) ((a1.length:Int) !=(b.length:Int)) then K false else V3 n a1 (a1.length:Int) a (K false) (fun e f=>K true) n 0
def T4 (n:Nat) (a0 a1 a2:Int) (K:Qlr R):oP R:=K (Qkr (decide (a0>=a1)) (decide (a0<=a2)))
def Vz (j:Int) (l k:LL) (k0:oP R) (k1:Qlp R):Qlq R
 | 0,_=>none
 | m+1,h2=>Qks R (decide (h2<(k.length:Int))) fun ah=>bif ah then QkO R k h2 fun g s=>Qku R g[2]? fun t=>Ql1 R g fun o p u=>Qku R (pIw s) fun v=>Qkt R (wJ ((l.length:Int)-1)) fun ai=>Qku R (T4 n v 0 ai some) fun a=>Qkv R (!(!a)) (pIw t) fun x=>Qkv R (!(!a)) (T4 n x 0 ai some) fun b=>Qks R (Qkq (!a) (!b)) fun ag=>QkN R s (!ag) t fun c d=>Qkv R (!(Qkq ag (c==d))) (pIw o) fun e=>Qks R (Qkq (Qkq ag (c==d)) (decide (e<(-65536:Int)))) fun ad=>Qkv R (!ad) (pIw p) fun f=>Qks R (Qkq ad (decide (f>65536))) fun ab=>QkN R o (!ab) p fun h i=>Qks R (Qkq ab (decide (h>i))) fun ae=>QkN R p (!ae) o fun q r=>Qks R (Qkq ae (decide (wJ (q-r)>=j))) fun ac=>Qkv R (!ac) (pIw u) fun y=>Qkv R (!ac) (T4 n y 0 1048576 some) fun z=>bif Qkq ac (!z) then k0 else Vz j l k k0 k1 m (wJ (h2+1)) else k1 h2 ah
def Us (a:Int) (b c:LL) (K:Qlr R):oP R:=Qku R (T4 n a 2 7200 some) fun d=>bif Qkq (Qkq (!d) (decide ((b.length:Int)>48))) (decide ((c.length:Int)>512)) then K false else Vz n a b c (K false) (fun e f=>K true) n 0
def Jc (h2:LL) (b:Int) (k0:oP R) (k1:Qlp R):Qlq R
 | 0,_=>none
 | m+1,a=>Qks R (decide (a<(h2.length:Int))) fun g=>bif g then QkG R h2 a fun e=>Qku R (T4 n e 0 (wJ (b-1)) some) fun f=>bif !f then k0 else Jc h2 b k0 k1 m (wJ (a+1)) else k1 a g
def M4 (a:Int) (b c a1:LL) (K:Qlr R):oP R:=Qku R (Us n a b c some) fun d=>bif Qkq (!d) ((a1.length:Int) !=(b.length:Int)) then K false else Jc n a1 a (K false) (fun e f=>K true) n 0
def GB (n:Nat) (c:Int) (k0:Qln R):Qlo R
 | 0,_,_=>none
 | m+1,a,b=>bif decide (a<c) then QkI R b.length a b a.toNat fun d=>GB n c k0 m (wJ (a+1)) (List.set b a.toNat (List.set d 0 (Q4 (-1:Int)))) else k0 a (decide (a<c)) b
def Gk (n:Nat) (f:LL) (d:Int) (k0:Qln R):Qlo R
 | 0,_,_=>none
 | m+1,a,b=>bif decide (a<d) then QkJ R f a fun c g=>Qku R c[1]? fun i=>Qld R c (Qku R (pIw g) fun e=>QkI R b.length e b e.toNat fun h=>Gk n f d k0 m (wJ (a+1)) (List.set b e.toNat (List.set h 0 (Q4 a)))) else k0 a (decide (a<d)) b
def Zj (a b:LL) (K:Qls R):oP R:=Qkt R (a.length:Int) fun j=>gb true (bif decide (0<=j)&&decide (j<=j) then some () else none) () fun e=>Qkt R (Int.toNat j) fun k=>Qku R (Y1 (k*8)) fun u2=>GB n ((List.length (List.replicate k [Q4 0]):Nat):Int) (fun f g c=>Gk n b (b.length:Int) (fun h i d=>K d) n 0 c) n 0 (List.replicate k [Q4 0])
def XB (n:Nat) (c e:LL) (k0:Qlx R):Qly R
 | 0,_,_,_=>none
 | m+1,a,d,b=>Ql3 R b.length a b a.toNat fun f=>bif !f then QkI R b.length a b a.toNat fun g=>Qku R (Y1 ((d.length+[[Q4 a]].length)*8)) fun x=>QkG R c a fun l=>Qkt R (List.set b a.toNat (List.set g 0 (D.bool true))) fun y=>bif decide (l>=0) then QkG R c a fun q=>QkR R e q fun t=>XB n c e k0 m t (d++[[Q4 a]]) y else XB n c e k0 m a (d++[[Q4 a]]) y else k0 a (!f) d b
def YD (a0:Int) (a1:Bool) (c d e a:LL) (K:LL->LL->oP R):oP R:=XB n d e (fun g h b f=>Qkt R [[D.sl 1 b,D.bool a1]] fun j=>Qku R (Y1 ((a.length+j.length)*32)) fun i=>K f (a++j)) n a0 [] c
def Vb (a:LL) (j:Bool) (b:LL) (k:Bool) (K:Qlm R):oP R:=QkG R a 0 fun e=>QkG R b 0 fun h=>Qku R (VZ n e h some) fun i=>K i
def QS (b:Int) (k0:Qln R):Qlo R
 | 0,_,_=>none
 | m+1,a,c=>Qks R (decide (a>b)) fun ag=>Qkv R ag (inB c.length a) fun z=>Qkv R ag c[a.toNat]? fun g=>Qlj R g ag fun l o=>Qkt R (wJ (a-1)) fun aj=>Qkv R ag (inB c.length aj) fun aa=>Qkt R (Int.toNat aj) fun ak=>Qkv R ag c[ak]? fun h=>Qlj R h ag fun p q=>Qkv R ag (pSl 1 l) fun r=>Qkv R ag (Ko o) fun s=>Qkv R ag (pSl 1 p) fun t=>Qkv R ag (Ko q) fun u=>Qkv R ag (Vb n r s t u some) fun i=>Qks R (Qkr ag (decide (i<0))) fun ah=>bif ah then Qlc R c.length aj c ak fun d e=>Qlc R c.length a c a.toNat fun v x=>QkI R c.length a c a.toNat fun f=>Qkt R (List.set c a.toNat (List.set (List.set f 0 d) 1 e)) fun ai=>QkI R (List.length ai) aj ai ak fun y=>QS b k0 m aj (List.set ai ak (List.set (List.set y 0 v) 1 x)) else k0 a ah c
def QT (b h2:Int) (k0:Qln R):Qlo R
 | 0,_,_=>none
 | m+1,a,c=>bif decide (a<h2) then QS n b (fun e f d=>QT b h2 k0 m (wJ (a+1)) d) n a c else k0 a (decide (a<h2)) c
def XS (a:LL) (a1 a2:Int) (K:Qls R):oP R:=QT n a1 a2 (fun c d b=>K b) n (wJ (a1+1)) a
def Y4 (a h2 d:Int) (b:LL) (k0:Qls R):Nat->oP R
 | 0=>none
 | m+1=>bif decide (wJ (h2-a)<=12) then Qku R (XS n b a h2 some) fun c=>Qku R (Hm c b.length) fun e=>k0 c else bif d==0 then none else bif !true then none else none
def Ym (a:LL) (a1 a2 b:Int) (K:Qls R):oP R:=Y4 n a1 a2 b a (fun c=>K c) n
def Xo (a:LL) (K:Qls R):oP R:=Qku R (Gb n (IntKind.wrap .u64 (a.length:Int)) some) fun b=>Qku R (Ym n a 0 (a.length:Int) b some) fun r2=>Qku R (Hm r2 a.length) fun u3=>K r2
def VI (n:Nat) (f:LL) (d:Int) (k0:Qln R):Qlo R
 | 0,_,_=>none
 | m+1,a,b=>bif decide (a<d) then QkO R f a fun c g=>Qld R c (Qku R (pIw g) fun e=>QkI R b.length e b e.toNat fun h=>VI n f d k0 m (wJ (a+1)) (List.set b e.toNat (List.set h 0 (D.bool true)))) else k0 a (decide (a<d)) b
def WM (b:Int) (d e c:LL) (k0:Qlx R):Qly R
 | 0,_,_,_=>none
 | m+1,a,f,g=>bif decide (a<b) then Ql3 R c.length a c a.toNat fun k=>bif !k then gb true (YD n a false f e d g Tu2) ([],[]) fun h=>WM b d e c k0 m (wJ (a+1)) h.1 h.2 else WM b d e c k0 m (wJ (a+1)) f g else k0 a (decide (a<b)) f g
def WL (c:Int) (d e:LL) (k0:Qlx R):Qly R
 | 0,_,_,_=>none
 | m+1,a,b,f=>bif decide (a<c) then Ql3 R b.length a b a.toNat fun j=>bif !j then gb true (YD n a true b e d f Tu2) ([],[]) fun g=>WL c d e k0 m (wJ (a+1)) g.1 g.2 else WL c d e k0 m (wJ (a+1)) b f else k0 a (decide (a<c)) b f
def XH (a b:LL) (K:Qls R):oP R:=Qku R (Zj n a b some) fun c=>Qkt R (a.length:Int) fun u=>Qks R (decide (0<=u)&&decide (u<=u)) fun t=>gb true (bif t then some () else none) () fun u2=>Qkt R (Int.toNat u) fun v=>Qku R (Y1 (v*1)) fun u3=>VI n b (b.length:Int) (fun i j f=>gb true (bif t then some () else none) () fun k=>Qku R (Y1 (v*1)) fun l=>WM n u b c f (fun m o g h=>WL n u b c (fun p q r d=>Qku R (Xo n d some) fun e=>Qku R (Hm e d.length) fun s=>K e) n 0 g h) n 0 (List.replicate v [D.bool false]) []) n 0 (List.replicate v [D.bool false])
def Xp (d:Int) (e b:LL) (a1:Int) (K:Qlm R):oP R:=QkO R e a1 fun a f=>Ql8 R a fun g c=>Qku R a[4]? fun u=>Qku R a[5]? fun v=>QkF R c g fun h i=>QkL R b i fun k=>QkF R k f fun l m=>QkL R b m fun p=>QkF R p c fun q r=>Qku R (Tq n (wJ (wJ (l-q)-r)) d some) fun s=>K (wJ (h+s))
def Xm (b:Int) (c d a:LL) (a1 a2:Int) (K:Qlm R):oP R:=QkK R a.length a1 a a1.toNat fun f=>Qku R (Xp n b c d (wJ (wJ (wJ (2*f)-a1)+wJ (2*a2))) some) fun g=>K g
def X1 (a g:LL) (b:Int) (c d e f:LL) (h a1 a2:Int) (K:Qlp R):oP R:=QkQ R a a1 fun k=>bif decide (a2<wJ ((k.length:Int)-1)) then QkK R f.length a1 f a1.toNat fun o=>Qku R (Xp n b c d (wJ (wJ (wJ (wJ (2*o)-a1)+wJ (2*a2))+1)) some) fun p=>K p true else QkG R e a1 fun s=>bif decide (s>=0) then QkG R e a1 fun v=>Qku R (Xp n b c d (wJ (wJ (wJ (wJ (2*h)-(a.length:Int))+(g.length:Int))+v)) some) fun x=>K x true else K 0 false
def Xy (b c:Int) (d h i:LL) (e:Int) (f g j:LL) (k:Int) (k0:Qlu R):Qlv R
 | 0,_,_=>none
 | m+1,l,a=>bif decide (a<c) then gb true (X1 n h i e f g j d k b a Tu2) (0,false) fun q=>Qku R (Xm n e f g d b a some) fun r=>Xy b c d h i e f g j k k0 m (wJ (l+wJ (r+q.1))) (wJ (a+1)) else k0 l a (decide (a<c))
def X5 (h2:LL) (b:Int) (d c e:LL) (f:Int) (g h i:LL) (j:Int) (k0:Qlu R):Qlv R
 | 0,_,_=>none
 | m+1,k,a=>bif decide (a<b) then QkG R h2 a fun l=>QkQ R c l fun s=>Xy n l (s.length:Int) d c e f g h i j (fun t u v=>X5 h2 b d c e f g h i j k0 m t (wJ (a+1))) n k 0 else k0 k a (decide (a<b))
def ZC (c d:LL) (a:Int) (e f g h:LL) (i:Int) (b:LL) (j:Bool) (K:Qlm R):oP R:=bif !j then K 0 else X5 n b (b.length:Int) h c d a e f g i (fun k l m=>Qku R (nz a) fun o=>K (wJ (Int.tdiv k a))) n 0 0
def Zy (n:Nat) (g:LL) (h2:Int) (k0:oP R) (k1:Qlp R):Qlq R
 | 0,_=>none
 | m+1,a=>bif decide (a<h2) then QkH R g a fun b o p h=>QkP R b fun i j=>Qku R (pIw o) fun c=>Qkv R (!(decide (c<0))) (pIw p) fun e=>Qks R (Qkq (decide (c<0)) (decide (e<0))) fun u=>Qkv R (!u) (pIw h) fun k=>Qks R (Qkq u (decide (k<(-1099511627776:Int)))) fun t=>Qkv R (!t) (pIw h) fun q=>bif Qkq t (decide (q>1099511627776)) then k0 else Qku R (pIw i) fun d=>Qkv R (!(decide (d<1))) (pIw i) fun f=>Qks R (Qkq (decide (d<1)) (decide (f>1099511627776))) fun s=>Qkv R (!s) (pIw j) fun l=>Qks R (Qkq s (decide (l<0))) fun v=>Qkv R (!v) (pIw j) fun r=>bif Qkq v (decide (r>1099511627776)) then k0 else Zy n g h2 k0 k1 m (wJ (a+1)) else k1 a (decide (a<h2))
def WD (a0:Int) (a1:LL) (K:Qlr R):oP R:=bif Qkq (decide (a0<2)) (decide (a0>7200)) then K false else Zy n a1 (a1.length:Int) (K false) (fun a b=>K true) n 0
def VM (a0 f d g b h e i:Int) (K:Qlr R):oP R:=Qku R (Uj n (wJ (wJ (wJ (d-e)-i)+1)) a0 Tu2) fun a=>Qku R (Vu n (wJ (wJ (wJ (d+g)-e)-1)) a0 Tu2) fun r2=>bif decide (a.1>r2.1) then K false else bif f !=h then K true else bif b==0 then K (Qkq (decide (a.1<0)) (decide (r2.1>0))) else bif b==1 then K false else Qks R (decide (a.1<r2.1)) fun c=>Qkv R (!c) (nz b) fun u3=>K (Qkq c (Int.tmod a.1 b !=0))
def Q1P (n:Nat) (a0 a1 a2:Int) (K:Qlr R):oP R:=K (Qkr (decide (a0>=a1)) (decide (a0<=a2)))
def Z5 (n:Nat) (d e c:Int) (k0:Qln R):Qlo R
 | 0,_,_=>none
 | m+1,a,b=>bif decide (a<c) then QkK R b.length a b a.toNat fun h=>bif h==e then QkI R b.length a b a.toNat fun i=>Z5 n d e c k0 m (wJ (a+1)) (List.set b a.toNat (List.set i 0 (Q4 d))) else Z5 n d e c k0 m (wJ (a+1)) b else k0 a (decide (a<c)) b
def JE (a:LL) (i b c j k l:Int) (K:Bool->LL->oP R):oP R:=QkK R a.length b a b.toNat fun d=>QkK R a.length c a c.toNat fun e=>bif d==e then K false a else Z5 n d e (a.length:Int) (fun p q h=>K true h) n 0 a
def Z7 (n:Nat) (c:Int) (k0:Qln R):Qlo R
 | 0,_,_=>none
 | m+1,a,b=>bif decide (a<c) then QkI R b.length a b a.toNat fun d=>Z7 n c k0 m (wJ (a+1)) (List.set b a.toNat (List.set d 0 (Q4 a))) else k0 a (decide (a<c)) b
def Z4 (c:LL) (k0:Qln R):Qlo R
 | 0,_,_=>none
 | m+1,b,d=>Qks R (decide (b<(c.length:Int))) fun t=>bif t then QkH R c b fun a f g h=>Ql1 R a fun i j k=>Ql2 R f g h i fun l o p q=>QkF R j k fun r s=>gb true (JE n d l o p q r s Tu2) (false,[]) fun e=>Qku R (Hm e.2 d.length) fun v=>Z4 c k0 m (wJ (b+1)) e.2 else k0 b t d
def Yo (n:Nat) (a:Int) (d:LL) (k0:Qln R):Qlo R
 | 0,_,_=>none
 | m+1,b,c=>bif decide (b<a) then QkK R d.length b d b.toNat fun g=>QkK R d.length a d a.toNat fun j=>bif g==j then QkK R c.length b c b.toNat fun o=>QkI R c.length a c a.toNat fun p=>Yo n a d k0 m (wJ (b+1)) (List.set c a.toNat (List.set p 0 (Q4 o))) else Yo n a d k0 m (wJ (b+1)) c else k0 b (decide (b<a)) c
def Yp (c:Int) (f:LL) (k0:QlC R):QlA R
 | 0,_,_,_=>none
 | m+1,d,a,e=>bif decide (a<c) then QkI R e.length a e a.toNat fun g=>Yo n a f (fun o p b=>QkK R b.length a b a.toNat fun j=>bif decide (j<0) then QkI R b.length a b a.toNat fun k=>Yp c f k0 m (wJ (d+1)) (wJ (a+1)) (List.set b a.toNat (List.set k 0 (Q4 d))) else Yp c f k0 m d (wJ (a+1)) b) n 0 (List.set e a.toNat (List.set g 0 (Q4 (-1:Int)))) else k0 d a (decide (a<c)) e
def JK (d:Int) (a c:LL) (K:Qls R):oP R:=Qku R (Us n d a c some) fun e=>bif !e then K [] else Qkt R (a.length:Int) fun s=>gb true (bif decide (0<=s)&&decide (s<=s) then some () else none) () fun u2=>Qkt R (Int.toNat s) fun t=>Qku R (Y1 (t*8)) fun u3=>Z7 n ((List.length (List.replicate t [Q4 0]):Nat):Int) (fun h i f=>Z4 n c (fun j k b=>Qkt R (b.length:Int) fun r=>gb true (bif decide (0<=r)&&decide (r<=r) then some () else none) () fun l=>Qku R (Y1 (Int.toNat r*8)) fun m=>Yp n r b (fun o p q g=>K g) n 0 0 (List.replicate (Int.toNat r) [Q4 0])) n 0 f) n 0 (List.replicate t [Q4 0])
def YF (n:Nat) (d:LL) (a:Int) (k0:Qln R):Qlo R
 | 0,_,_=>none
 | m+1,b,c=>bif decide (b<a) then QkG R d b fun g=>QkG R d a fun j=>bif g==j then QkI R c.length a c a.toNat fun k=>YF n d a k0 m (wJ (b+1)) (List.set c a.toNat (List.set k 0 (D.bool false))) else YF n d a k0 m (wJ (b+1)) c else k0 b (decide (b<a)) c
def Zt (d:LL) (c:Int) (k0:Qln R):Qlo R
 | 0,_,_=>none
 | m+1,a,b=>bif decide (a<c) then QkI R b.length a b a.toNat fun e=>YF n d a (fun h i f=>Zt d c k0 m (wJ (a+1)) f) n 0 (List.set b a.toNat (List.set e 0 (D.bool true))) else k0 a (decide (a<c)) b
def GG (b:Int) (a c:LL) (a1:Int) (a2:Bool) (K:Int->LL->LL->LL->Int->Int->Bool->Bool->Bool->Int->LL->oP R):oP R:=Qku R (JK n b a c some) fun d=>Qkt R (a.length:Int) fun k=>Qks R (decide (0<=k)&&decide (k<=k)) fun j=>gb true (bif j then some () else none) () fun u2=>Qkt R (Int.toNat k) fun l=>Qku R (Y1 (l*8)) fun u3=>gb true (bif j then some () else none) () fun f=>Qku R (Y1 (l*1)) fun g=>Zt n d (d.length:Int) (fun h i e=>K b a c e a1 0 false a2 false 0 (List.replicate l [Q4 0])) n 0 (List.replicate l [D.bool false])
def TL (b:Int) (a1:LL) (c d a:Int) (K:Qlm R):oP R:=QkG R a1 d fun g=>QkG R a1 c fun j=>Qku R (FP n (wJ (wJ (g-j)-a)) b some) fun k=>K (wJ (a+k))
def J4 (h2:LL) (d:Int) (c:LL) (k0:Qlu R):Qlv R
 | 0,_,_=>none
 | m+1,e,a=>Qks R (decide (a<(c.length:Int))) fun y=>bif y then Qku R (Q1 c a) fun f=>Qku R f[5]? fun g=>Qku R (pIw g) fun h=>QkH R c a fun b i j k=>Ql1 R b fun l o p=>Qku R (pIw i) fun u=>Ql7 R j k l fun q r s=>QkV R o p (Qku R (TL n d h2 q r s some) fun t=>J4 h2 d c k0 m (wJ (e+wJ (h*t))) (wJ (a+1))) else k0 e a y
def Mp (a:Int) (c b a1:LL) (K:Qlw R):oP R:=Qku R (M4 n a c b a1 some) fun d=>bif !d then K 0 1 else J4 n a1 a b (fun e f g=>K e 0) n 0 0
def X0 (c:Int) (e:LL) (f:Int) (d:LL) (k0:oP R) (k1:Qlu R):Qlv R
 | 0,_,_=>none
 | m+1,h2,a=>Qks R (decide (a<(d.length:Int))) fun ac=>bif ac then QkH R d a fun b p h i=>Ql1 R b fun j k g=>Qku R (pIw h) fun l=>Qkv R (!(decide (l>c))) (pIw i) fun q=>bif Qkq (decide (l>c)) (decide (q>c)) then QkF R g j fun r s=>X0 c e f d k0 k1 m (wJ (h2+wJ (r*s))) (wJ (a+1)) else Qku R (pIw p) fun z=>Ql7 R h i j fun t u v=>QkV R k g (Qku R (TL n f e t u v some) fun o=>Qku R (pIw k) fun x=>bif decide (o>x) then k0 else Qku R (pIw g) fun y=>X0 c e f d k0 k1 m (wJ (h2+wJ (y*o))) (wJ (a+1))) else k1 h2 a ac
def Ze (a:Int) (b:LL) (c d:Bool) (e:Int) (f:LL) (a1:Int) (K:Qlr R):oP R:=X0 n a1 f a b (K true) (fun g h i=>K (Qkr (Qkr c d) (decide (g>=e)))) n 0 0
def Xd (Fr:Int->LL->LL->LL->Int->Int->Bool->Bool->Bool->Int->LL->LL->Int->oP (Bool×Int×LL×LL×LL×Int×Int×Bool×Bool×Bool×Int×LL×LL)) (b q:Int) (k0:LL->LL->LL->Int->LL->LL->Int->Int->Bool->Bool->Bool->Int->oP R) (k1:Int->Bool->LL->LL->LL->Int->LL->LL->Int->Int->Bool->Bool->Bool->Int->oP R):Nat->Int->LL->LL->LL->Int->LL->LL->Int->Int->Bool->Bool->Bool->Int->oP R
 | 0,_,_,_,_,_,_,_,_,_,_,_,_,_=>none
 | m+1,c,l,o,d,e,p,f,g,h,r,i,j,k=>bif decide (c<q) then Qkt R (wJ (h+1)) fun x=>bif decide (x>g) then k0 l o d e p f g x true i j k else QkI R d.length b d b.toNat fun s=>Qkt R (List.set d b.toNat (List.set s 0 (Q4 c))) fun v=>Qku R (Ze n e f i j k v b some) fun t=>bif !t then gb true (Fr e p f l g x r i j k o v (wJ (b+1))) (false,0,[],[],[],0,0,false,false,false,0,[],[]) fun a=>Qkt R a.2.2.2.2.2.2.2.2.2.2.2.2 fun y=>Qkt R a.2.2.2.2.2.2.2.2.2.2.2.1 fun z=>Qkt R a.2.2.2.2.2.2.2.2.2.2.1 fun aa=>Qkt R a.2.2.2.2.2.2.2.2.2.1 fun ab=>bif Qkr true (!a.1) then k0 a.2.2.2.2.1 z y a.2.1 a.2.2.1 a.2.2.2.1 a.2.2.2.2.2.1 a.2.2.2.2.2.2.1 a.2.2.2.2.2.2.2.1 a.2.2.2.2.2.2.2.2.1 ab aa else Xd Fr b q k0 k1 m (wJ (c+1)) a.2.2.2.2.1 z y a.2.1 a.2.2.1 a.2.2.2.1 a.2.2.2.2.2.1 a.2.2.2.2.2.2.1 a.2.2.2.2.2.2.2.1 a.2.2.2.2.2.2.2.2.1 ab aa else bif Qkr false false then k0 l o v e p f g x r i j k else Xd Fr b q k0 k1 m (wJ (c+1)) l o v e p f g x r i j k else k1 c (decide (c<q)) l o d e p f g h r i j k
def VV (Fr:Int->LL->LL->LL->Int->Int->Bool->Bool->Bool->Int->LL->LL->Int->oP (Bool×Int×LL×LL×LL×Int×Int×Bool×Bool×Bool×Int×LL×LL)) (b:Int) (c e d:LL) (g h:Int) (i f j:Bool) (k:Int) (l a:LL) (a1:Int) (K:Bool->Int->LL->LL->LL->Int->Int->Bool->Bool->Bool->Int->LL->LL->oP R):oP R:=bif a1==(c.length:Int) then Qku R (Y1 (a.length*8)) fun u1=>Qku R (Mp n b c e a Tu2) fun r2=>K f b c e d g h i f true r2.1 a a else Ql3 R d.length a1 d a1.toNat fun r=>bif r then Xd n Fr a1 1 (fun s t u v x y z aa ab ac ad ae=>K false v x y s z aa ab ac ad ae t u) (fun bv bx ag ah ai aj ak al am an ao ap aq ar=>K true aj ak al ag am an ao ap aq ar ah ai) n 0 d l a b c e g h i f j k else Xd n Fr a1 b (fun au av aw ax ay az ba bb bc bd be bg=>K false ax ay az au ba bb bc bd be bg av aw) (fun bz ca bh bi bj bk bl bm bn bo bp bq br bt=>K true bk bl bm bh bn bo bp bq br bt bi bj) n 0 d l a b c e g h i f j k
def Xl :Nat->Int->LL->LL->LL->Int->Int->Bool->Bool->Bool->Int->LL->LL->Int->oP (Bool×Int×LL×LL×LL×Int×Int×Bool×Bool×Bool×Int×LL×LL)
 | 0,_,_,_,_,_,_,_,_,_,_,_,_,_=>none
 | d+1,a,b,c,e,f,g,h,i,j,k,l,m,a1=>VV n (Xl d) a b c e f g h i j k l m a1 Tu13
def LN (d:Int) (e f:LL) (a1:Int) (a2:Bool) (KA:Qlm R) (KB:Int->LL->LL->LL->Int->Int->Bool->Bool->Bool->Int->LL->LL->Int->oP R):oP R:=Qku R (Us n d e f some) fun c=>bif !c then KA 1 else Qku R (Q1P n a1 1 1048576 some) fun r2=>bif !r2 then KA 4 else gb true (GG n d e f a1 a2 Tu11) (0,[],[],[],0,0,false,false,false,0,[]) fun b=>gb true (Xl n n b.1 b.2.1 b.2.2.1 b.2.2.2.1 b.2.2.2.2.1 b.2.2.2.2.2.1 b.2.2.2.2.2.2.1 b.2.2.2.2.2.2.2.1 b.2.2.2.2.2.2.2.2.1 b.2.2.2.2.2.2.2.2.2.1 [] b.2.2.2.2.2.2.2.2.2.2 0) (false,0,[],[],[],0,0,false,false,false,0,[],[]) fun a=>Qkt R a.2.2.2.2.2.2.2.1 fun h=>bif h then KA 15 else Qkt R a.2.2.2.2.2.2.2.2.2.1 fun g=>Qkt R a.2.2.2.2.2.2.2.2.2.2.2.2 fun i=>Qkt R a.2.2.2.2.2.2.2.2.2.2.2.1 fun j=>Qkt R a.2.2.2.2.2.2.2.2.2.2.1 fun k=>Qkt R a.2.2.2.2.2.2.2.2.1 fun l=>bif !g then KB a.2.1 a.2.2.1 a.2.2.2.1 a.2.2.2.2.1 a.2.2.2.2.2.1 a.2.2.2.2.2.2.1 h l g k j i 14 else KB a.2.1 a.2.2.1 a.2.2.2.1 a.2.2.2.2.1 a.2.2.2.2.2.1 a.2.2.2.2.2.2.1 h l g k j i 0
def UF (d:Int) (e f:LL) (a1:Int) (K:Qlz R):oP R:=gb true (LN n d e f a1 false (fun b=>some (.inl b)) fun b c r2 a g h r6 i j k l m o=>some (.inr (b,c,r2,a,g,h,r6,i,j,k,l,m,o))) (.inl 0) fun c=>smX c (fun r2=>bif r2==0 then none else bif r2==14 then none else K [] 0 r2) fun a=>Qkt R a.2.2.2.2.2.2.2.2.2.2.2.2 fun p=>bif p==0 then K a.2.2.2.2.2.2.2.2.2.2.1 a.2.2.2.2.2.1 0 else bif p==14 then K [] a.2.2.2.2.2.1 p else K [] 0 p
def Q9 (n:Nat) (a0 a1 a2:Int) (a:LL) (b c:Int) (K:Qls R):oP R:=bif decide (a2>0) then Qkt R [[Q4 a0,Q4 b,Q4 a1,Q4 a2,Q4 c]] fun e=>Qku R (Y1 ((a.length+e.length)*40)) fun d=>K (a++e) else K a
def DB (a0 a1:Int) (K:Qlr R):oP R:=Qku R (Vl n a0 some) fun a=>Qkv R a (Vl n a1 some) fun r2=>K (Qkq (Qkr a (!r2)) (decide (a0<a1)))
def Ya (c:Int) (k0:Qln R):Qlo R
 | 0,_,_=>none
 | m+1,a,b=>Qks R (decide (a>c)) fun ab=>Qkv R ab (inB b.length a) fun u=>Qkv R ab b[a.toNat]? fun g=>Qle R g ab fun i=>Qkt R (wJ (a-1)) fun ad=>Qkv R ab (inB b.length ad) fun v=>Qkt R (Int.toNat ad) fun ae=>Qkv R ab b[ae]? fun j=>Qle R j ab fun l=>Qkv R ab (DB n i l some) fun f=>bif Qkr ab f then QkK R b.length ad b ae fun d=>QkK R b.length a b a.toNat fun s=>QkI R b.length a b a.toNat fun e=>Qkt R (List.set b a.toNat (List.set e 0 (Q4 d))) fun ac=>QkI R (List.length ac) ad ac ae fun t=>Ya c k0 m ad (List.set ac ae (List.set t 0 (Q4 s))) else k0 a (Qkr ab f) b
def Y9 (b h2:Int) (k0:Qln R):Qlo R
 | 0,_,_=>none
 | m+1,a,c=>bif decide (a<h2) then Ya n b (fun e f d=>Y9 b h2 k0 m (wJ (a+1)) d) n a c else k0 a (decide (a<h2)) c
def WS (a:LL) (a1 a2:Int) (K:Qls R):oP R:=Y9 n a1 a2 (fun c d b=>K b) n (wJ (a1+1)) a
def V0 (a h2 d:Int) (b:LL) (k0:Qls R):Nat->oP R
 | 0=>none
 | m+1=>bif decide (wJ (h2-a)<=12) then Qku R (WS n b a h2 some) fun c=>Qku R (Hm c b.length) fun e=>k0 c else bif d==0 then none else bif !true then none else none
def VN (a:LL) (a1 a2 b:Int) (K:Qls R):oP R:=V0 n a1 a2 b a (fun c=>K c) n
def K4 (a:LL) (K:Qls R):oP R:=Qku R (Gb n (IntKind.wrap .u64 (a.length:Int)) some) fun b=>Qku R (VN n a 0 (a.length:Int) b some) fun r2=>Qku R (Hm r2 a.length) fun u3=>K r2
def Ur (n:Nat) (c:LL) (d:Int) (b:LL) (k0:Qlp R):Qlq R
 | 0,_=>none
 | m+1,a=>Qks R (decide (a<(b.length:Int))) fun q=>bif q then QkG R b a fun g=>QkG R b (wJ (a-1)) fun j=>bif g !=j then QkL R b a fun l=>Qku R (pIw l) fun o=>Qku R (Q1 c d) fun p=>none else Ur n c d b k0 m (wJ (a+1)) else k0 a q
def Up (a:LL) (k0:Qlp R):Qlq R
 | 0,_=>none
 | m+1,h2=>Qks R (decide (h2<(a.length:Int))) fun l=>bif l then QkG R a h2 fun d=>QkG R a (wJ (h2-1)) fun g=>bif d==g then Qku R (slB a.length (some h2) none) fun h=>Ur n a h2 (cut a h) (fun i j=>Qku R (slB a.length (some h2) none) fun k=>none) n 1 else Up a k0 m (wJ (h2+1)) else k0 h2 l
def K2 (a0:LL) (K:Qls R):oP R:=bif decide ((a0.length:Int)<2) then K a0 else Up n a0 (fun a b=>K a0) n 1
def Gx (g a h:Int) (i:LL) (d:Int) (k0:Qln R):Qlo R
 | 0,_,_=>none
 | m+1,b,e=>bif decide (b<d) then QkH R i b fun c k l o=>Qku R c[3]? fun p=>Qku R c[4]? fun t=>Qku R (pIw k) fun f=>Qkv R (f==a) (pIw o) fun q=>Qkv R (f==a) (Tq n (wJ (h-q)) g some) fun r=>Qkv R (f==a) (pIw p) fun s=>bif Qkr (f==a) (decide (r<s)) then Qku R (pIw l) fun j=>Qku R (Y1 ((e.length+[[Q4 j]].length)*8)) fun u=>Gx g a h i d k0 m (wJ (b+1)) (e++[[Q4 j]]) else Gx g a h i d k0 m (wJ (b+1)) e else k0 b (decide (b<d)) e
def DE (a0:Int) (a1:LL) (a2 c:Int) (K:Qls R):oP R:=Qku R (WD n a0 a1 some) fun d=>bif !d then K [] else Qku R (Tq n c a0 some) fun r2=>Gx n a0 a2 r2 a1 (a1.length:Int) (fun f g a=>Qku R (K4 n a some) fun b=>Qku R (Hm b a.length) fun h=>Qku R (K2 n b some) fun e=>K e) n 0 []
def Hz (n:Nat) (c h2:LL) (b:Int) (k0:oP R) (k1:Qlp R):Qlq R
 | 0,_=>none
 | m+1,a=>bif decide (a<b) then QkG R c a fun f=>QkG R h2 a fun i=>bif f !=i then k0 else Hz n c h2 b k0 k1 m (wJ (a+1)) else k1 a (decide (a<b))
def Fm (a0 a1:LL) (K:Qlr R):oP R:=bif (a0.length:Int) !=(a1.length:Int) then K false else Hz n a0 a1 (a0.length:Int) (K false) (fun a b=>K true) n 0
def KZ (a0:LL) (K:LL->LL->LL->LL->Int->LL->LL->LL->LL->LL->LL->LL->LL->Bool->oP R):oP R:=gb true (Si n a0 Tu12) ([],[],[],[],0,[],[],[],[],[],[],[]) fun a=>Qkt R a.2.2.2.2.2.2.2.2.2.2.2 fun c=>Qkt R a.2.2.2.2.2.2.2.2.2.2.1 fun d=>Qkt R a.2.2.2.2.2.2.2.2.2.1 fun e=>Qkt R a.2.2.2.2.2.2.2.2.1 fun f=>Qkt R a.2.2.2.2.2.2.2.1 fun g=>Qkt R a.2.2.2.2.2.2.1 fun h=>Qkt R a.2.2.2.2.2.1 fun i=>Qkt R a.2.2.2.2.1 fun j=>Qkt R a.2.2.2.1 fun k=>gb true (Tn n a.1 a.2.1 a.2.2.1 k j i h g f e d c Tu4) (0,[],[],0) fun r2=>bif r2.2.2.2 !=0 then K a.1 a.2.1 a.2.2.1 k j i h g f e d c [] false else Qku R (UF n r2.1 r2.2.1 r2.2.2.1 3000 Tu3) fun b=>K a.1 a.2.1 a.2.2.1 k j i h g f e d c b.1 (b.2.2==0)
end Go.Vx
namespace Go.Vx
open Go.Proofs
abbrev nT:List (LpE Tryz.prog):=[]
abbrev tyS (e s:Nat):TyI:=⟨.sl e s,1,24,[.slice none 0 0],[.sl s []],[],none⟩
abbrev tyN (n:Nat):TyI:=⟨.struct,n,8*n,List.replicate n (.int .i64 0),List.replicate n (.int .i64 0),(List.range n).map fun i=>(i,3),some (List.replicate n (.int .i64))⟩
def gtt:TT:=[(3,⟨.int .i64,1,8,[.int .i64 0],[.int .i64 0],[],none⟩),(4,⟨.bool,1,1,[.bool false],[.bool false],[],none⟩),(5,⟨.int .u8,1,1,[.int .u8 0],[.int .u8 0],[],none⟩),(9,⟨.str,1,16,[.string ⟨#[]⟩],[.str []],[],none⟩),(22,tyS 3 1),(23,tyS 9 1),(24,tyS 57 5),(25,tyS 193 6),(27,⟨.struct,4,96,[.slice none 0 0,.slice none 0 0,.slice none 0 0,.slice none 0 0],[.sl 1 [],.sl 1 [],.sl 5 [],.sl 6 []],[(0,23),(1,23),(2,24),(3,25)],none⟩),(28,tyS 76 5),(29,tyS 152 2),(30,tyS 87 4),(31,tyS 84 7),(32,tyS 158 4),(33,tyS 90 5),(34,tyS 92 3),(36,⟨.struct,8,176,[.int .i64 0,.slice none 0 0,.slice none 0 0,.slice none 0 0,.slice none 0 0,.slice none 0 0,.slice none 0 0,.slice none 0 0],[.int .i64 0,.sl 5 [],.sl 2 [],.sl 4 [],.sl 7 [],.sl 4 [],.sl 5 [],.sl 3 []],[(0,3),(1,28),(2,29),(3,30),(4,31),(5,32),(6,33),(7,34)],none⟩),(39,tyS 104 3),(40,tyS 67 6),(42,⟨.struct,3,56,[.int .i64 0,.slice none 0 0,.slice none 0 0],[.int .i64 0,.sl 3 [],.sl 6 []],[(0,3),(1,39),(2,40)],none⟩),(43,⟨.int .i64,1,8,[.int .i64 0],[.int .i64 0],[],none⟩),(50,tyS 128 3),(53,tyS 59 5),(57,⟨.struct,5,48,[.string ⟨#[]⟩,.int .i64 0,.int .i64 0,.int .i64 0,.int .i64 0],[.str [],.int .i64 0,.int .i64 0,.int .i64 0,.int .i64 0],[(0,9),(1,3),(2,3),(3,3),(4,3)],some [.str,.int .i64,.int .i64,.int .i64,.int .i64]⟩),(59,tyN 5),(67,tyN 6),(76,⟨.struct,5,48,[.string ⟨#[]⟩,.int .i64 0,.int .i64 0,.int .i64 0,.int .i64 0],[.str [],.int .i64 0,.int .i64 0,.int .i64 0,.int .i64 0],[(0,9),(1,3),(2,3),(3,3),(4,3)],some [.str,.int .i64,.int .i64,.int .i64,.int .i64]⟩),(79,tyS 22 1),(81,⟨.struct,7,168,[.slice none 0 0,.slice none 0 0,.slice none 0 0,.slice none 0 0,.slice none 0 0,.slice none 0 0,.slice none 0 0],[.sl 1 [],.sl 1 [],.sl 5 [],.sl 6 [],.sl 1 [],.sl 1 [],.sl 1 []],[(0,27),(4,79),(5,79),(6,79)],none⟩),(84,tyN 7),(85,tyS 155 4),(87,⟨.struct,4,56,[.string ⟨#[]⟩,.int .i64 0,.int .i64 0,.slice none 0 0],[.str [],.int .i64 0,.int .i64 0,.sl 4 []],[(0,9),(1,3),(2,3),(3,85)],none⟩),(90,tyN 5),(92,tyN 3),(93,tyS 97 1),(97,tyS 170 3),(98,tyS 102 4),(102,tyN 4),(104,tyN 3),(107,tyS 112 2),(112,tyN 2),(117,tyS 4 1),(119,⟨.struct,12,160,[.int .i64 0,.slice none 0 0,.slice none 0 0,.slice none 0 0,.int .i64 0,.int .i64 0,.bool false,.bool false,.bool false,.int .i64 0,.slice none 0 0,.slice none 0 0],[.int .i64 0,.sl 3 [],.sl 6 [],.sl 1 [],.int .i64 0,.int .i64 0,.bool false,.bool false,.bool false,.int .i64 0,.sl 1 [],.sl 1 []],[(0,42),(3,117),(4,3),(5,3),(6,4),(7,4),(8,4),(9,3),(10,22),(11,22)],none⟩),(120,⟨.int .u64,1,8,[.int .u64 0],[.int .u64 0],[],none⟩),(121,tyS 125 2),(125,⟨.struct,2,32,[.slice none 0 0,.bool false],[.sl 1 [],.bool false],[(0,22),(1,4)],none⟩),(128,⟨.struct,3,40,[.int .i64 0,.int .i64 0,.slice none 0 0],[.int .i64 0,.int .i64 0,.sl 1 []],[(0,3),(1,3),(2,22)],none⟩),(133,⟨.struct,18,400,[.slice none 0 0,.slice none 0 0,.slice none 0 0,.slice none 0 0,.int .i64 0,.slice none 0 0,.slice none 0 0,.slice none 0 0,.slice none 0 0,.slice none 0 0,.slice none 0 0,.slice none 0 0,.int .i64 0,.slice none 0 0,.slice none 0 0,.slice none 0 0,.slice none 0 0,.slice none 0 0],[.sl 1 [],.sl 1 [],.sl 5 [],.sl 6 [],.int .i64 0,.sl 5 [],.sl 2 [],.sl 4 [],.sl 7 [],.sl 4 [],.sl 5 [],.sl 3 [],.int .i64 0,.sl 3 [],.sl 6 [],.sl 1 [],.sl 5 [],.sl 1 []],[(0,27),(4,36),(12,42),(15,22),(16,53),(17,117)],none⟩),(143,⟨.struct,2,32,[.slice none 0 0,.int .i64 0],[.sl 1 [],.int .i64 0],[(0,22),(1,3)],none⟩),(149,⟨.array 3 1 3,3,24,[.int .i64 0,.int .i64 0,.int .i64 0],[.int .i64 0,.int .i64 0,.int .i64 0],[(0,3),(1,3),(2,3)],none⟩),(150,tyS 160 2),(152,⟨.struct,2,32,[.slice none 0 0,.int .i64 0],[.sl 2 [],.int .i64 0],[(0,150),(1,3)],none⟩),(155,tyN 4),(156,⟨.array 4 1 4,4,4,[.bool false,.bool false,.bool false,.bool false],[.bool false,.bool false,.bool false,.bool false],[(0,4),(1,4),(2,4),(3,4)],none⟩),(158,tyN 4),(160,tyN 2),(170,tyN 3),(185,⟨.ptr,1,8,[.pointer none],[],[],none⟩),(188,⟨.struct,21,440,[.slice none 0 0,.slice none 0 0,.slice none 0 0,.slice none 0 0,.int .i64 0,.slice none 0 0,.slice none 0 0,.slice none 0 0,.slice none 0 0,.slice none 0 0,.slice none 0 0,.slice none 0 0,.int .i64 0,.slice none 0 0,.slice none 0 0,.slice none 0 0,.bool false,.slice none 0 0,.slice none 0 0,.int .i64 0,.slice none 0 0],[.sl 1 [],.sl 1 [],.sl 5 [],.sl 6 [],.int .i64 0,.sl 5 [],.sl 2 [],.sl 4 [],.sl 7 [],.sl 4 [],.sl 5 [],.sl 3 [],.int .i64 0,.sl 3 [],.sl 6 [],.sl 1 [],.bool false,.sl 1 [],.sl 1 [],.int .i64 0,.sl 5 []],[(0,27),(4,36),(12,42),(15,22),(16,4),(17,22),(18,22),(19,3),(20,53)],none⟩),(189,⟨.mapI,1,8,[.map none],[],[],none⟩),(193,tyN 6),(207,⟨.struct,2,48,[.slice none 0 0,.slice none 0 0],[.sl 1 [],.sl 3 []],[(0,117),(1,97)],none⟩),(210,⟨.struct,4,32,[.int .i64 0,.int .i64 0,.int .i64 0,.int .i64 0],[.int .i64 0,.int .i64 0,.int .i64 0,.int .i64 0],[(0,160),(2,3),(3,3)],some [.int .i64,.int .i64,.int .i64,.int .i64]⟩),(232,⟨.ptr,1,8,[.pointer none],[],[],none⟩),(233,tyS 273 4),(235,⟨.struct,19,424,[.slice none 0 0,.slice none 0 0,.slice none 0 0,.slice none 0 0,.int .i64 0,.slice none 0 0,.slice none 0 0,.slice none 0 0,.slice none 0 0,.slice none 0 0,.slice none 0 0,.slice none 0 0,.slice none 0 0,.slice none 0 0,.slice none 0 0,.slice none 0 0,.int .i64 0,.slice none 0 0,.slice none 0 0],[.sl 1 [],.sl 1 [],.sl 5 [],.sl 6 [],.int .i64 0,.sl 5 [],.sl 2 [],.sl 4 [],.sl 7 [],.sl 4 [],.sl 5 [],.sl 3 [],.sl 1 [],.sl 1 [],.sl 1 [],.sl 4 [],.int .i64 0,.sl 3 [],.sl 6 []],[(0,27),(4,36),(12,22),(13,93),(14,22),(15,233),(16,42)],none⟩),(243,tyS 287 2),(248,tyS 210 4),(261,⟨.int .i64,1,8,[.int .i64 0],[.int .i64 0],[],none⟩),(268,⟨.int .u32,1,4,[.int .u32 0],[.int .u32 0],[],none⟩),(270,⟨.int .u64,1,8,[.int .u64 0],[.int .u64 0],[],none⟩),(273,tyN 4),(277,⟨.mpb,1,8,[.map none],[],[],none⟩),(282,tyN 2),(287,tyN 2),(301,⟨.int .u64,1,8,[.int .u64 0],[.int .u64 0],[],none⟩),(307,tyS 312 2),(312,tyN 2),(313,tyS 170 3),(323,tyN 2),(332,⟨.struct,2,32,[.slice none 0 0,.int .i64 0],[.sl 2 [],.int .i64 0],[(0,243),(1,3)],none⟩),(348,tyN 2),(359,tyS 307 1)]
theorem Qgb:TOk Tryz.prog gtt:=(show Qf6 Tryz.prog [3,4,5,9,22,23,24,25,27,28,29,30,31,32,33,34,36,39,40,42,43,50,53,57,59,67,76,79,81,84,85,87,90,92,93,97,98,102,104,107,112,117,119,120,121,125,128,133,143,149,150,152,155,156,158,160,170,185,188,189,193,207,210,232,233,235,243,248,261,268,270,273,277,282,287,301,307,312,313,323,332,348,359]=gtt by kernel_rfl)▸Q9o _
noncomputable def bT:Nat->List (Nat×TA)->TO:=btT gtt
noncomputable def pT:Nat->Nat->List (Nat×Sp)->List Sp->List Sp:=ptT gtt
noncomputable def Xa (l:List ((f:Nat)×EnP Tryz.prog f)) (cfg:List (Nat×Cfg)):VB Tryz.prog:=⟨⟨Q0K (Qgn l),gtt,cfg⟩,Q42 (Q76 l),Qgb,by kernel_rfl⟩
abbrev LZ9:=Nat->LpE Tryz.prog
abbrev EZ9:=EnP Tryz.prog
abbrev BZ9:=VB Tryz.prog
abbrev QlM:List TA:=[.arr 98000,.arr 98001,.arr 98002,.arr 98003,.arr 98004,.arr 98005,.arr 98006]
abbrev QlN:Nat×TA:=(0,.ptr 1000000 0)
abbrev QlO:Nat×TA:=(1,tI)
abbrev QlP:Nat×TA:=(8,tI)
abbrev QlQ:Nat×TA:=(16,tI)
abbrev QlR:Nat×TO:=(98000,.arr 9 1)
abbrev QlS:Nat×TO:=(98001,.arr 9 1)
abbrev QlT:Nat×TO:=(98002,.arr 57 5)
abbrev QlU:Nat×TO:=(98003,.arr 193 6)
abbrev QlV:Nat×TO:=(98004,.arr 22 1)
abbrev QlW:Nat×TO:=(98005,.arr 22 1)
abbrev QlX:Nat×TO:=(98006,.arr 22 1)
abbrev QlY:Nat×TO:=(1000000,.box [.arr 98000,.arr 98001,.arr 98002,.arr 98003,.arr 98004,.arr 98005,.arr 98006])
abbrev QlZ:List TA:=[.l 1,tI]
abbrev Qm0:Nat×TA:=(3,.ptr 14 0)
abbrev Qm1:Nat×TA:=(4,tI)
abbrev Qm2:Nat×TA:=(5,tI)
abbrev Qm3:Nat×TA:=(6,.arr 1006)
abbrev Qm4:Nat×TA:=(7,tI)
abbrev Qm5:Nat×TO:=(501401,.arr 9 1)
abbrev Qm6:Nat×TO:=(501402,.arr 57 5)
abbrev Qm7:Nat×TO:=(501403,.arr 193 6)
abbrev Qm8:Nat×TO:=(501404,.arr 22 1)
abbrev Qm9:Nat×TO:=(501405,.arr 22 1)
abbrev Qma:Nat×TO:=(501406,.arr 22 1)
abbrev Qmb:Nat×TO:=(1000000,.box [.l 1,tI])
abbrev Qmc:List TA:=[.arr 501400,.arr 501401,.arr 501402,.arr 501403,.arr 501404,.arr 501405,.arr 501406]
abbrev Qmd:Nat×TO:=(14,.box [.arr 501400,.arr 501401,.arr 501402,.arr 501403,.arr 501404,.arr 501405,.arr 501406])
abbrev Qme:Nat×TO:=(501400,.arr 9 1)
abbrev Qmf:Nat×TA:=(9,tI)
abbrev Qmg:Nat×TA:=(11,tI)
abbrev Qmh:List (Nat×TO):=[(14,.box [.arr 501400,.arr 501401,.arr 501402,.arr 501403,.arr 501404,.arr 501405,.arr 501406]),(1010,.arr 3 1),(501400,.arr 9 1),(501401,.arr 9 1),(501402,.arr 57 5),(501403,.arr 193 6),(501404,.arr 22 1),(501405,.arr 22 1),(501406,.arr 22 1),(1000000,.box [.l 1,tI])]
abbrev Qmi:Nat×TA:=(12,tI)
abbrev Qmj:List TA:=[.nil,.ci .i64 0]
abbrev Qmk:Nat×TA:=(3,tI)
abbrev Qml:Nat×TA:=(10,.ptr 10 0)
abbrev Qmm:Nat×TA:=(2,tI)
abbrev Qmn:Nat×TA:=(15,tI)
abbrev Qmo:List TA:=[tI,.arr 98361,.arr 98362,.arr 98363,.arr 98364,.arr 98365,.arr 98366,.arr 98367]
abbrev Qmp:Nat×TO:=(1000009,.box [tI,.arr 98361,.arr 98362,.arr 98363,.arr 98364,.arr 98365,.arr 98366,.arr 98367])
abbrev Qmq:Nat×TA:=(13,tI)
abbrev Qmr:List TA:=[tI,.arr 98041,.arr 98042,.arr 98043,.arr 98044,.arr 98045,.arr 98046,.arr 98047]
abbrev Qms:Nat×TA:=(6,tI)
abbrev Qmt:Nat×TA:=(14,tI)
abbrev Qmu:Nat×TA:=(22,tI)
abbrev Qmv:List (Nat×TO):=[(4,.arr 156 1),(5,.arr 156 1),(98041,.arr 76 5),(98042,.arr 152 2),(98043,.arr 87 4),(98044,.arr 84 7),(98045,.arr 158 4),(98046,.arr 90 5),(98047,.arr 92 3),(1000000,.box [.l 1,tI]),(1000001,.box [tI,.arr 98041,.arr 98042,.arr 98043,.arr 98044,.arr 98045,.arr 98046,.arr 98047])]
abbrev Qmw:Nat×TO:=(1000001,.box [tI,.arr 98041,.arr 98042,.arr 98043,.arr 98044,.arr 98045,.arr 98046,.arr 98047])
abbrev Qmx:List TA:=[.nil,.nil,.nil,.nil]
abbrev Qmy:List TA:=[.ci .i64 0,.nil,.nil,.nil,.nil,.nil,.nil,.nil]
abbrev Qmz:List TA:=[.arr 100015,.arr 150015,.arr 200015,.arr 250015,.arr 300015,.arr 350015,.arr 400015]
abbrev QmA:Nat×TA:=(2,.ptr 2 0)
abbrev QmB:Nat×TA:=(3,.ptr 3 0)
abbrev QmC:Nat×TA:=(4,.ptr 50013 0)
abbrev QmD:Nat×TA:=(5,.ptr 50015 0)
abbrev QmE:Nat×TA:=(6,.ptr 6 0)
abbrev QmF:Nat×TO:=(2,.box [.nil,.nil,.nil,.nil])
abbrev QmG:Nat×TO:=(3,.box [.ci .i64 0,.nil,.nil,.nil,.nil,.nil,.nil,.nil])
abbrev QmH:Nat×TO:=(50013,.box [.l 1,tI])
abbrev QmI:Nat×TO:=(50015,.box [.arr 100015,.arr 150015,.arr 200015,.arr 250015,.arr 300015,.arr 350015,.arr 400015])
abbrev QmJ:Nat×TO:=(100015,.arr 9 1)
abbrev QmK:Nat×TO:=(150015,.arr 9 1)
abbrev QmL:Nat×TO:=(200015,.arr 57 5)
abbrev QmM:Nat×TO:=(250015,.arr 193 6)
abbrev QmN:Nat×TO:=(300015,.arr 22 1)
abbrev QmO:Nat×TO:=(350015,.arr 22 1)
abbrev QmP:Nat×TO:=(400015,.arr 22 1)
abbrev QmQ:List TA:=[tI,.arr 50061,.arr 100061,.arr 150061,.arr 200061,.arr 250061,.arr 300061,.arr 350061]
abbrev QmR:Nat×TO:=(6,.box [tI,.arr 50061,.arr 100061,.arr 150061,.arr 200061,.arr 250061,.arr 300061,.arr 350061])
abbrev QmS:Nat×TO:=(100061,.arr 152 2)
abbrev QmT:Nat×TO:=(150061,.arr 87 4)
abbrev QmU:Nat×TO:=(200061,.arr 84 7)
abbrev QmV:Nat×TO:=(250061,.arr 158 4)
abbrev QmW:List TA:=[tI,.nil,.nil,.nil,.nil,.nil,.nil,.nil]
abbrev QmX:List (Nat×TA):=[(2,.ptr 2 0),(3,.ptr 3 0),(4,.ptr 50013 0),(5,.ptr 50015 0),(6,.ptr 6 0),(10,tI)]
abbrev QmY:Nat×TA:=(10,tI)
abbrev QmZ:Nat×TO:=(3,.box [tI,.nil,.nil,.nil,.nil,.nil,.nil,.nil])
abbrev Qn0:Nat×TA:=(0,.l 1)
abbrev Qn1:Nat×TA:=(1,.ptr 1 0)
abbrev Qn2:Nat×TA:=(3,.arr 1003)
abbrev Qn3:Nat×TO:=(1,bT 27 [])
abbrev Qn4:List TA:=[tI,tI]
abbrev Qn5:Nat×TA:=(5,.ptr 5 0)
abbrev Qn6:Nat×TA:=(7,.ptr 7 0)
abbrev Qn7:Nat×TO:=(3,bT 27 [])
abbrev Qn8:Nat×TO:=(5,.box [tI,tI])
abbrev Qn9:Nat×TA:=(8,.ptr 8 0)
abbrev Qna:Nat×TO:=(2,bT 27 [])
abbrev Qnb:Nat×TA:=(7,.l 1)
abbrev Qnc:Nat×TO:=(1,bT 36 [])
abbrev Qnd:Nat×TO:=(2,bT 36 [])
abbrev Qne:List TA:=[.ci .i64 0,.ci .i64 0,.ci .i64 0,.ci .i64 0]
abbrev Qnf:List TA:=[.x,.x,.x,.x]
abbrev Qng:List TA:=[.l 2,tI]
abbrev Qnh:List (Nat×TO):=[(2,bT 27 []),(3,.box [.l 2,tI])]
abbrev Qni:Nat×TO:=(3,.box [.l 2,tI])
abbrev Qnj:Nat×TA:=(8,.arr 1008)
abbrev Qnk:List (Nat×TO):=[(2,bT 27 []),(3,.box [.l 2,tI]),(1008,.arr 287 2)]
abbrev Qnl:Nat×TA:=(4,.ptr 4 0)
abbrev Qnm:Nat×TO:=(5,bT 76 [])
abbrev Qnn:List (Nat×TO):=[(3,bT 27 []),(4,bT 36 []),(7,.box [.x,.x,.x,.x])]
abbrev Qno:Nat×TO:=(7,.box [.x,.x,.x,.x])
abbrev Qnp:List (Nat×TO):=[(2,bT 27 []),(3,bT 36 [])]
abbrev Qnq:Nat×TO:=(3,bT 36 [])
abbrev Qnr:Nat×TA:=(0,.l 2)
abbrev Qns:Nat×TA:=(0,tI)
abbrev Qnt:List (Nat×TO):=[(5,bT 76 []),(29,.arr 3 1)]
abbrev Qnu:Nat×TO:=(29,.arr 3 1)
abbrev Qnv:Nat×TA:=(7,.arr 1007)
abbrev Qnw:Nat×TO:=(6,.box [.l 2,tI])
abbrev Qnx:List (Nat×TO):=[(2,bT 27 []),(3,bT 36 []),(10,.box [.x,.x,.x,.x]),(1007,.arr 97 1),(1008,.arr 3 1)]
abbrev Qny:Nat×TO:=(1007,.arr 97 1)
abbrev Qnz:Nat×TO:=(1008,.arr 3 1)
abbrev QnA:List (Nat×TO):=[(2,bT 27 []),(3,bT 36 []),(1007,.arr 97 1),(1008,.arr 3 1)]
abbrev QnB:List (Nat×TA):=[(1,.l 1),(2,.ptr 2 0),(5,.arr 1005),(6,tI),(7,.ptr 7 0),(8,tI)]
abbrev QnC:Nat×TA:=(1,.l 1)
abbrev QnD:Nat×TA:=(5,.arr 1005)
abbrev QnE:List (Nat×TA):=[(1,.l 1),(2,.ptr 2 0),(5,.arr 1005),(6,tI)]
abbrev QnF:List TA:=[.ci .i64 0,.ci .i64 0,.ci .i64 0]
abbrev QnG:List (Nat×TO):=[(4,.box [.ci .i64 0,.ci .i64 0,.ci .i64 0])]
abbrev QnH:Nat×TO:=(4,.box [.ci .i64 0,.ci .i64 0,.ci .i64 0])
abbrev QnI:List (Nat×TO):=[(1,bT 36 []),(1003,.arr 67 6)]
abbrev QnJ:List TA:=[.ci .i64 0,.nil,.nil]
abbrev QnK:Nat×TA:=(6,.l 1)
abbrev QnL:List (Nat×TO):=[(3,bT 36 []),(4,.box [.ci .i64 0,.nil,.nil])]
abbrev QnM:Nat×TO:=(4,.box [.ci .i64 0,.nil,.nil])
abbrev QnN:Nat×TA:=(10,.l 4)
abbrev QnO:Nat×TA:=(12,.ptr 12 0)
abbrev QnP:Nat×TO:=(4,.box [tI,.nil,.nil])
abbrev QnQ:Nat×TO:=(1121,.arr 104 3)
abbrev QnR:List TA:=[tI,.arr 1121,.arr 107]
abbrev QnS:Nat×TA:=(19,tI)
abbrev QnT:List (Nat×TO):=[(3,bT 36 []),(4,.box [tI,.nil,.nil]),(12,.box [tI,.arr 1121,.arr 107]),(107,.arr 67 6),(1121,.arr 104 3)]
abbrev QnU:Nat×TO:=(12,.box [tI,.arr 1121,.arr 107])
abbrev QnV:List TA:=[tI,.l 3,.l 6]
abbrev QnW:Nat×TO:=(1,.box [tI,.l 3,.l 6])
abbrev QnX:Nat×TA:=(0,.arr 1000000)
abbrev QnY:List (Nat×TO):=[(1000000,.arr 3 1)]
abbrev QnZ:Nat×TO:=(1000000,.arr 3 1)
abbrev Qo0:Nat×TO:=(16,.arr 3 1)
abbrev Qo1:List (Nat×TO):=[(2,.box [tI,.l 3,.l 6])]
abbrev Qo2:Nat×TO:=(2,.box [tI,.l 3,.l 6])
abbrev Qo3:List (Nat×TA):=[(3,.arr 98003),(10,.arr 98010),(11,.arr 98011)]
abbrev Qo4:List (Nat×TA):=[(0,.ptr 1000000 0),(1,tI),(5,tI),(6,tI)]
abbrev Qo5:List (Nat×TO):=[(98003,.arr 4 1),(98010,.arr 3 1),(98011,.arr 3 1),(1000000,bT 119 [(3,.arr 98003),(10,.arr 98010),(11,.arr 98011)])]
abbrev Qo6:Nat×TO:=(1000000,bT 119 [(3,.arr 98003),(10,.arr 98010),(11,.arr 98011)])
abbrev Qo7:List (Nat×Sp):=[(3,eR 1000001 4 1),(10,eR 1000002 3 1),(11,eR 1000003 3 1)]
abbrev Qo8:List (Nat×TA):=[(12,.arr 98012),(13,.arr 98013),(14,.arr 98014),(15,.arr 98015),(17,.arr 98017),(18,.arr 98018)]
abbrev Qo9:List (Nat×TO):=[(98012,.arr 3 1),(98013,.arr 97 1),(98014,.arr 3 1),(98015,.arr 273 4),(98017,.arr 104 3),(98018,.arr 67 6),(1000000,bT 235 [(12,.arr 98012),(13,.arr 98013),(14,.arr 98014),(15,.arr 98015),(17,.arr 98017),(18,.arr 98018)])]
abbrev Qoa:Nat×TO:=(98012,.arr 3 1)
abbrev Qob:Nat×TO:=(98015,.arr 273 4)
abbrev Qoc:Nat×TO:=(98017,.arr 104 3)
abbrev Qod:Nat×TO:=(98018,.arr 67 6)
abbrev Qoe:Nat×TO:=(1000000,bT 235 [(12,.arr 98012),(13,.arr 98013),(14,.arr 98014),(15,.arr 98015),(17,.arr 98017),(18,.arr 98018)])
abbrev Qof:List (Nat×Sp):=[(12,eR 1000001 3 1),(15,eR 1000002 273 4),(17,eR 1000003 104 3),(18,eR 1000004 67 6)]
abbrev Qog:List (Nat×TA):=[(12,.arr 98012),(15,.arr 98015),(17,.arr 98017),(18,.arr 98018)]
abbrev Qoh:List (Nat×TO):=[(98012,.arr 3 1),(98015,.arr 273 4),(98017,.arr 104 3),(98018,.arr 67 6),(1000000,bT 235 [(12,.arr 98012),(15,.arr 98015),(17,.arr 98017),(18,.arr 98018)])]
abbrev Qoi:Nat×TO:=(1000000,bT 235 [(12,.arr 98012),(15,.arr 98015),(17,.arr 98017),(18,.arr 98018)])
abbrev Qoj:List (Nat×TA):=[(12,.arr 98012),(17,.arr 98017),(18,.arr 98018)]
abbrev Qok:List TA:=[.ptr 1000000 0]
abbrev Qol:Nat×TA:=(2,.fn 196 [.ptr 1000004 0,.ptr 1000005 0,.ptr 1000006 0])
abbrev Qom:Nat×TO:=(4,bT 273 [])
abbrev Qon:Nat×TO:=(1000000,bT 235 [(12,.arr 98012),(17,.arr 98017),(18,.arr 98018)])
abbrev Qoo:List (Nat×Sp):=[(12,eR 1000001 3 1),(17,eR 1000002 104 3),(18,eR 1000003 67 6)]
abbrev Qop:List (Nat×TO):=[(98012,.arr 3 1),(98017,.arr 104 3),(98018,.arr 67 6),(1000000,bT 235 [(12,.arr 98012),(17,.arr 98017),(18,.arr 98018)])]
abbrev Qoq:List (Nat×TO):=[(1000000,.arr 312 2)]
abbrev Qor:Nat×TO:=(1000000,.arr 312 2)
abbrev Qos:List (Nat×TO):=[(1000000,.arr 125 2)]
abbrev Qot:Nat×TO:=(1000000,.arr 125 2)
abbrev Qou:Nat×TA:=(9,.fn 117 [.ptr 8 0,.ptr 3 0,.ptr 1 0,.ptr 7 0])
abbrev Qov:List (Nat×Sp):=[(18,eR 1000001 3 1),(20,eR 1000002 59 5)]
abbrev Qow:List (Nat×TA):=[(18,.arr 98018),(20,.arr 98020)]
abbrev Qox:List (Nat×TO):=[(98018,.arr 3 1),(98020,.arr 59 5),(1000000,bT 188 [(18,.arr 98018),(20,.arr 98020)])]
abbrev Qoy:Nat×TO:=(98018,.arr 3 1)
abbrev Qoz:Nat×TO:=(98020,.arr 59 5)
abbrev QoA:Nat×TO:=(1000000,bT 188 [(18,.arr 98018),(20,.arr 98020)])
abbrev QoB:Nat×TA:=(7,.fn 141 [.ptr 3 0,.ptr 4 0,.ptr 6 0])
abbrev QoC:Nat×TO:=(3,.box [.ptr 1000000 0])
abbrev QoD:Nat×TO:=(5,.box [.l 1,.b])
abbrev QoE:Nat×TO:=(1000000,.box QlM)
abbrev QoF:Nat×TO:=(1000000,.box QlZ)
abbrev QoG:Nat×TO:=(14,.box Qmc)
abbrev QoH:List (Nat×TO):=[(14,.box Qmc),(1010,.arr 3 1),Qme,Qm5,Qm6,Qm7,Qm8,Qm9,Qma,(1000000,.box QlZ)]
abbrev QoI:List (Nat×TO):=[(4,.arr 156 1),(5,.arr 156 1),(98041,.arr 76 5),(98042,.arr 152 2),(98043,.arr 87 4),(98044,.arr 84 7),(98045,.arr 158 4),(98046,.arr 90 5),(98047,.arr 92 3),(1000000,.box QlZ),(1000001,.box Qmr)]
abbrev QoJ:Nat×TO:=(50013,.box QlZ)
abbrev QoK:Nat×TO:=(50015,.box Qmz)
abbrev QoL:Nat×TO:=(5,.box Qn4)
abbrev QoM:List (Nat×TO):=[Qna,(3,.box Qng)]
abbrev QoN:Nat×TO:=(3,.box Qng)
abbrev QoO:List (Nat×TO):=[Qnq,QnP,(12,.box QnR),(107,.arr 67 6),QnQ]
abbrev QoP:List (Nat×TO):=[(98003,.arr 4 1),(98010,.arr 3 1),(98011,.arr 3 1),(1000000,bT 119 Qo3)]
abbrev QoQ:List (Nat×TO):=[Qoa,(98013,.arr 97 1),(98014,.arr 3 1),Qob,Qoc,Qod,(1000000,bT 235 Qo8)]
abbrev QoR:List (Nat×TO):=[Qoa,Qob,Qoc,Qod,(1000000,bT 235 Qog)]
abbrev QoS:Nat×TO:=(1000000,bT 235 Qog)
abbrev QoT:Nat×TO:=(1000000,bT 235 Qoj)
abbrev QoU:List (Nat×TO):=[Qoa,Qoc,Qod,(1000000,bT 235 Qoj)]
abbrev QoV:Nat×TO:=(1000000,bT 188 Qow)
end Go.Vx
namespace Go.Vx
variable {R:Type} (n:Nat)
def Hs (n:Nat) (a b:Int) (K:Qlm R):oP R:=K (wJ (wJ (2*a)+b))
def NB (n:Nat) (a0 a1:Int) (K:Qlw R):oP R:=Qku R (BR 32) fun a=>K (IntKind.wrap .u32 (shR .u64 (IntKind.wrap .u64 (IntKind.wrap .u64 a0*IntKind.wrap .u64 a1)) 32)) (IntKind.wrap .u32 (IntKind.wrap .u64 (IntKind.wrap .u64 a0*IntKind.wrap .u64 a1)))
def TE (n:Nat) (a0 a1:Int) (K:Qlw R):oP R:=Qku R (BR 32) fun a=>Qku R (BR 32) fun u2=>Qku R (BR 32) fun u3=>Qku R (BR 32) fun b=>Qku R (BR 32) fun c=>K (IntKind.wrap .u64 (IntKind.wrap .u64 (IntKind.wrap .u64 (shR .u64 a0 32*shR .u64 a1 32)+shR .u64 (IntKind.wrap .u64 (IntKind.wrap .u64 (shR .u64 a0 32*Q6T .u64 a1 4294967295)+shR .u64 (IntKind.wrap .u64 (Q6T .u64 a0 4294967295*Q6T .u64 a1 4294967295)) 32)) 32)+shR .u64 (IntKind.wrap .u64 (Q6T .u64 (IntKind.wrap .u64 (IntKind.wrap .u64 (shR .u64 a0 32*Q6T .u64 a1 4294967295)+shR .u64 (IntKind.wrap .u64 (Q6T .u64 a0 4294967295*Q6T .u64 a1 4294967295)) 32)) 4294967295+IntKind.wrap .u64 (Q6T .u64 a0 4294967295*shR .u64 a1 32))) 32)) (IntKind.wrap .u64 (a0*a1))
def Td (a0 a1:Int) (K:Qlw R):oP R:=bif false then Qku R (NB n (IntKind.wrap .u32 a0) (IntKind.wrap .u32 a1) Tu2) fun a=>K (IntKind.wrap .u64 a.1) (IntKind.wrap .u64 a.2) else Qku R (TE n a0 a1 Tu2) fun r2=>K r2.1 r2.2
end Go.Vx
set_option maxRecDepth 100000
namespace Go.Vx
open Go.Proofs
variable (n:Nat)
def Q5Y:EZ9 21:=mkW (Xa [] []).ok nT 21 Tryz.f21 [sL 1] [eP 5 2,sL 1,sI] [] 0 0 @AB n
def Ap:EZ9 10:=mkD (Xa [] []).ok nT 10 Tryz.f10 0 @Su n
def Ub:EZ9 23:=mkW (Xa [⟨10,Ap n⟩] []).ok nT 23 Tryz.f23 [eP 1000000 2,sL 1,sI,sI] [sI] [] 0 2 @Q5 n
def NT:EZ9 53:=mkD (Xa [] []).ok nT 53 Tryz.f53 0 @Vw n
def NX:EZ9 54:=mkW (Xa [⟨23,Ub n⟩] []).ok nT 54 Tryz.f54 [eP 1000000 2,sL 1,sI,sT,sI] [eA [qT,qI,qI,qI,qI]] [] 0 32 @Wv n
def NE:EZ9 55:=mkW (Xa [] []).ok nT 55 Tryz.f55 [eP 1000000 7,eR 1000001 9 1,eR 1000002 9 1,eR 1000003 57 5,eR 1000004 193 6,eR 1000005 22 1,eR 1000006 22 1,eR 1000007 22 1,eA [qT,qI,qI,qI,qI]] [sI] [] 123 246 @Z8 n
def GY:EZ9 56:=mkW (Xa [] []).ok nT 56 Tryz.f56 [eP 1000000 7,eR 1000001 9 1,eR 1000002 9 1,eR 1000003 57 5,eR 1000004 193 6,eR 1000005 22 1,eR 1000006 22 1,eR 1000007 22 1,sI,sI,sI,sI] [eT 0] [] 119 119 @Y7 n
def R5:EZ9 88:=mkW (Xa [⟨53,NT n⟩] []).ok nT 88 Tryz.f88 [eP 1000000 7,eR 1000001 9 1,eR 1000002 9 1,eR 1000003 57 5,eR 1000004 193 6,eR 1000005 22 1,eR 1000006 22 1,eR 1000007 22 1] [sI] [] 125 250 @Zl n
def GX:BZ9:=Xa [⟨88,R5 n⟩,⟨56,GY n⟩] []
def N3:LZ9:=mkU (GX n).ok nT 4 Tryz.f57 [QlN,QlO,(2,.l 1),(3,.b),QlP,QlQ,(17,tI)] [QlR,QlS,QlT,QlU,QlV,QlW,QlX,QoE] 39973 [xE 0 [(18,.b)]] @Qw n
def Nr:EZ9 57:=mkW (GX n).ok [N3 n n] 57 Tryz.f57 [eP 1000000 7,eR 1000001 9 1,eR 1000002 9 1,eR 1000003 57 5,eR 1000004 193 6,eR 1000005 22 1,eR 1000006 22 1,eR 1000007 22 1,sI,sL 1,sB] [eT 0] [] 117 117 @Vf n
def Kb:BZ9:=Xa [⟨23,Ub n⟩,⟨53,NT n⟩,⟨54,NX n⟩,⟨55,NE n⟩,⟨56,GY n⟩,⟨57,Nr n⟩] [(3,⟨[],[],[],[(14,0,501400,9,1),(14,1,501401,9,1),(14,2,501402,57,5),(14,3,501403,193,6),(14,4,501404,22,1),(14,5,501405,22,1),(14,6,501406,22,1)],[]⟩),(8,⟨[],[],[(6,1006,3,1)],[],[]⟩),(19,⟨[],[],[(10,1010,3,1)],[],[]⟩)]
def Q62:LZ9:=mkU (Kb n).ok nT 9 Tryz.f22 [QlN,Qm0,Qm1,Qm2,Qm3,Qm4] [(14,.box [.arr 32,.arr 501401,.arr 501402,.arr 501403,.arr 501404,.arr 501405,.arr 501406]),(32,.arr 9 1),(1006,.arr 3 1),Qm5,Qm6,Qm7,Qm8,Qm9,Qma,QoF] 1241670 [xE 2 [(40,.b)]] @JT n
def Q5O:LZ9:=mkU (Kb n).ok [Q62 n n] 4 Tryz.f22 [QlN,Qm0,Qm1,Qm2] [QoG,Qme,(501401,.arc 9 1),Qm6,(501403,.arc 193 6),Qm8,(501405,.arc 22 1),(501406,.arc 22 1),QoF] 1942 [xE 0 [(20,.b)]] @UB n
def Q5H:LZ9:=mkU (Kb n).ok nT 20 Tryz.f22 [QlN,Qm0,Qm1,Qmf,(10,.arr 1010),Qmg] QoH 1241562 [xE 6 [(80,.b)]] @JR n
def Q4K:LZ9:=mkU (Kb n).ok nT 24 Tryz.f22 [QlN,Qm0,Qm1,Qmf,(10,.arr 1010),Qmi] QoH 4419 [xE 8 [(98,.b)]] @SI n
def Q57:LZ9:=mkU (Kb n).ok [Q5H n n,Q4K n n] 16 Tryz.f22 [QlN,Qm0,Qm1,Qmf] [QoG,Qme,Qm5,Qm6,Qm7,Qm8,Qm9,(501406,.arc 22 1),QoF] 51739 [xE 4 [(73,.b)]] @Un n
def Q7K:EZ9 22:=mkW (Kb n).ok [Q5O n n,Q57 n n] 22 Tryz.f22 [eP 1000000 2,sL 1,sI] [eP 14 7,eR 501400 9 1,eR 501401 9 1,eR 501402 57 5,eR 501403 193 6,eR 501404 22 1,eR 501405 22 1,eR 501406 22 1] [] 0 128 @Q2u n
def UX (n:Nat):BZ9:=Xa [] []
def Sv:LZ9:=mkU (UX n).ok nT 6 Tryz.f58 [QlO,Qmk,Qml,(11,.l 1),(12,.arr 98004),(13,.ptr 13 0),(48,tI),(49,tI)] [(10,.box Qmj),(13,.box [.arr 45,.ci .i64 0]),(45,.arr 160 2),QlR,QlS,QlT,QlU,QlV,QlW,QlX,QoE] 684 [xE 0 [(50,.b)]] @Zu n
def PV:LZ9:=mkU (UX n).ok nT 14 Tryz.f58 [QlO,Qmm,Qml,(11,.l 1),(12,.arr 98004),(13,.ptr 13 0),Qmn] [(10,.box Qmj),(13,.box [.arr 104,.ci .i64 0]),(104,.arr 160 2),QlR,QlS,QlT,QlU,QlV,QlW,QlX,QoE] 225 [xE 2 [(110,.b)]] @ZB n
def Rt:EZ9 58:=mkW (UX n).ok [Sv n n,PV n n] 58 Tryz.f58 [eP 1000000 7,eR 1000001 9 1,eR 1000002 9 1,eR 1000003 57 5,eR 1000004 193 6,eR 1000005 22 1,eR 1000006 22 1,eR 1000007 22 1,sI,sI,sI,sB] [eO 2,eR 96001 160 2,sI] [] 79 508 @Ys n
def Vm:BZ9:=Xa [⟨53,NT n⟩,⟨23,Ub n⟩,⟨58,Rt n⟩] [(7,⟨[],[],[],[(10,3,1103,155,4)],[]⟩)]
def SX:LZ9:=mkU (Vm n).ok nT 3 Tryz.f24 [QlN,(1,.ptr 1000008 0),(2,.ptr 1000009 0),(3,.b),Qm1,Qml,(11,.ac 11 0 0),(25,tI)] [(10,.box [.t,.ci .i64 0,tI,.nil]),(11,.arr 149 1),QlR,QlS,QlT,QlU,QlV,QlW,QlX,(98361,.arr 76 5),(98362,.arr 152 2),(98363,.arr 87 4),(98364,.arr 84 7),(98365,.arr 158 4),(98366,.arr 90 5),(98367,.arr 92 3),QoE,(1000008,.box QlZ),(1000009,.box Qmo)] 24407491311 [xE 0 [(26,.b)]] @ZT n
def Rq:LZ9:=mkU (Vm n).ok nT 8 Tryz.f24 [QlN,(1,.ptr 1000008 0),(2,.ptr 1000009 0),(3,.b),Qm1,Qml,(11,.ac 11 0 0),Qmq] [(10,.box [.t,.ci .i64 0,tI,.arr 1103]),(11,.arr 149 1),(1103,.arr 155 4),QlR,QlS,QlT,QlU,QlV,QlW,QlX,(98361,.arr 76 5),(98362,.arr 152 2),(98363,.arr 87 4),(98364,.arr 84 7),(98365,.arr 158 4),(98366,.arr 90 5),(98367,.arr 92 3),QoE,(1000008,.box QlZ),(1000009,.box Qmo)] 73251880546 [xE 2 [(35,.b)]] @QB n
def N0:EZ9 24:=mkW (Vm n).ok [SX n n,Rq n n] 24 Tryz.f24 [eP 1000000 7,eR 1000001 9 1,eR 1000002 9 1,eR 1000003 57 5,eR 1000004 193 6,eR 1000005 22 1,eR 1000006 22 1,eR 1000007 22 1,eP 1000008 2,sL 1,sI,eP 1000009 8,sI,eR 1000010 76 5,eR 1000011 152 2,eR 1000012 87 4,eR 1000013 84 7,eR 1000014 158 4,eR 1000015 90 5,eR 1000016 92 3,sB,sI] [eT 0] [] 124495 124671 @UN n
def Ad:EZ9 26:=mkD (Xa [] []).ok nT 26 Tryz.f26 0 @NN n
def DO:EZ9 27:=mkD (Xa [] []).ok nT 27 Tryz.f27 0 @PW n
def Hr:BZ9:=Xa [⟨23,Ub n⟩,⟨26,Ad n⟩,⟨27,DO n⟩] []
def Cu:LZ9:=mkU (Hr n).ok nT 5 Tryz.f25 [QlN,(1,.ptr 1000001 0),(4,.ac 4 0 0),(5,.ac 5 0 0),Qms,Qmq,Qmt,(21,tI),Qmu] QoI 79097176 [xE 2 [(23,.b)]] @Yl n
def Cy:LZ9:=mkU (Hr n).ok [Cu n n] 2 Tryz.f25 [QlN,(1,.ptr 1000001 0),(4,.ac 4 0 0),(5,.ac 5 0 0),Qmq,Qmt] QoI 2929525 [xE 0 [(15,.b)]] @WX n
def Bk:EZ9 25:=mkW (Hr n).ok [Cy n n] 25 Tryz.f25 [eP 1000000 2,sL 1,sI,eP 1000001 8,sI,eR 1000002 76 5,eR 1000003 152 2,eR 1000004 87 4,eR 1000005 84 7,eR 1000006 158 4,eR 1000007 90 5,eR 1000008 92 3] [eT 0] [] 0 893 @Rp n
def KV:BZ9:=Xa [⟨21,Q5Y n⟩,⟨22,Q7K n⟩,⟨23,Ub n⟩,⟨24,N0 n⟩,⟨25,Bk n⟩,⟨26,Ad n⟩,⟨27,DO n⟩] [(4,⟨[],[],[],[(6,2,500602,152,2),(6,3,500603,87,4),(6,4,500604,84,7),(6,5,500605,158,4),(6,6,500606,90,5),(6,7,500607,92,3)],[]⟩)]
def Q3r:LZ9:=mkU (KV n).ok nT 5 Tryz.f6 [QmA,QmB,QmC,QmD,QmE,Qm4] [(2,.box Qmx),(3,.box Qmy),(6,.box [tI,.arr 37,.arr 500602,.arr 500603,.arr 500604,.arr 500605,.arr 500606,.arr 500607]),(37,.arr 76 5),QoJ,QoK,QmJ,QmK,QmL,QmM,QmN,QmO,QmP,(500602,.arr 152 2),(500603,.arr 87 4),(500604,.arc 84 7),(500605,.arc 158 4),(500606,.arc 90 5),(500607,.arc 92 3)] 4330451 [xE 0 [(43,.b)]] @G0 n
def Q32:LZ9:=mkU (KV n).ok nT 10 Tryz.f6 [QmA,QmB,QmC,QmD,QmE,QlP] [(2,.box Qmx),(3,.box Qmy),(6,.box QmQ),QoJ,QoK,(50061,.arr 76 5),QmJ,QmS,QmK,QmT,QmL,QmU,QmM,QmV,QmN,(300061,.arc 90 5),QmO,(350061,.arc 92 3),QmP] 676661 [xE 2 [(71,.b)]] @VX n
def Q3U:LZ9:=mkU (KV n).ok nT 22 Tryz.f6 QmX [(2,.box Qmx),(3,.box QmW),(6,.box [tI,.arr 50061,.arr 100061,.arr 150061,.arr 200061,.arr 250061,.arr 175,.arr 350061]),(175,.arr 90 5),QoJ,QoK,(50061,.arr 76 5),QmJ,QmS,QmK,QmT,QmL,QmU,QmM,QmV,QmN,QmO,(350061,.arr 92 3),QmP] 258283082 [xE 4 [(180,.b)]] @V8 n
def Q4r:LZ9:=mkU (KV n).ok nT 22 Tryz.f6 QmX [(2,.box Qmx),(3,.box QmW),(6,.box QmQ),QoJ,QoK,(50061,.arr 76 5),QmJ,QmS,QmK,QmT,QmL,QmU,QmM,QmV,QmN,(300061,.arr 90 5),QmO,(350061,.arr 92 3),QmP] 258281246 [.f (.exit 4) [(2,.ptr 2 0),(3,.ptr 3 0),(4,.ptr 50013 0),(5,.ptr 50015 0),(6,.ptr 6 0),(10,tI),(180,.b)] [(2,.box Qmx),(3,.box QmW),(6,.box QmQ),(50013,.box QlZ),(50015,.box Qmz),(50061,.arr 76 5),(100015,.arr 9 1),(100061,.arr 152 2),(150015,.arr 9 1),(150061,.arr 87 4),(200015,.arr 57 5),(200061,.arr 84 7),(250015,.arr 193 6),(250061,.arr 158 4),(300015,.arr 22 1),(350015,.arr 22 1),(350061,.arr 92 3),(400015,.arr 22 1),(300061,.arr 90 5)] [0,0,2,3,4,0,6,7,8,9,10,11,12,13,14,15,17,0,19,16]] @KT n
def Q4J:EZ9 6:=mkD (KV n).ok [Q3r n n,Q32 n n,orL (Q3U n n) (Q4r n n)] 6 Tryz.f6 0 @Si n
def Q1R:EZ9 208:=mkD (Xa [] []).ok nT 208 Tryz.f208 0 @Le n
def Q4m:EZ9 209:=mkD (Xa [] []).ok nT 209 Tryz.f209 0 @Q0Z n
def DC:BZ9:=Xa [⟨208,Q1R n⟩,⟨209,Q4m n⟩] []
def Q4d:LZ9:=mkU (DC n).ok nT 4 Tryz.f151 [(0,.t),Qmk] [] 7 [.f .ret [(2,.cb false)] [] [],xE 0 [(21,.b)]] @Nq n
def Lq:EZ9 151:=mkD (DC n).ok [Q4d n n] 151 Tryz.f151 0 @NI n
def E5:BZ9:=Xa [⟨151,Lq n⟩] []
def Q1F:LZ9:=mkU (E5 n).ok nT 4 Tryz.f147 [Qn0,QlO,Qm2] [] 22 [.f .ret [(4,.ci .i64 5)] [] [],xE 0 [(14,.b)]] @SY n
def Q2R:EZ9 147:=mkD (E5 n).ok [Q1F n n] 147 Tryz.f147 0 @M3 n
def HF (n:Nat):BZ9:=Xa [] [(2,⟨[],[],[(3,1003,9,1)],[],[]⟩)]
def Mx:LZ9:=mkU (HF n).ok nT 3 Tryz.f148 [Qn1,Qn2,Qm1] [Qn3,(1003,.arr 9 1)] 515 [xE 0 [(9,.b)]] @YH n
def MV:EZ9 148:=mkD (HF n).ok [Mx n n] 148 Tryz.f148 0 @KE n
def Q3k:EZ9 149:=mkD (Xa [] []).ok nT 149 Tryz.f149 0 @Ka n
def Q0Q:EZ9 206:=mkD (Xa [] []).ok nT 206 Tryz.f206 0 @CI n
def Dz:BZ9:=Xa [⟨206,Q0Q n⟩] []
def Q3Z:LZ9:=mkU (Dz n).ok nT 4 Tryz.f207 [QlO,QmB,Qn5,Qn6,QlP,(9,.ptr 9 0),QmY] [Qn7,QoL,(7,.box [.x,.x,.x,.x,.x,.x]),(9,.box [.x,.x,.x,.x,.x,.x])] 10446013798 [xE 0 [(19,.b)]] @Pj n
def Q5h:EZ9 207:=mkD (Dz n).ok [Q3Z n n] 207 Tryz.f207 0 @Bn n
def S4:BZ9:=Xa [⟨149,Q3k n⟩,⟨206,Q0Q n⟩,⟨207,Q5h n⟩] []
def El:LZ9:=mkU (S4 n).ok nT 9 Tryz.f150 [QlO,QmA,Qn6,Qn9,Qmf] [Qna,(7,.box Qn4),(8,.box Qn4)] 29410 [.f .ret [(4,.ci .i64 5)] [] [],xE 0 [(85,.b)]] @Kz n
def DU:EZ9 150:=mkD (S4 n).ok [El n n] 150 Tryz.f150 0 @JI n
def Gs:BZ9:=Xa [⟨147,Q2R n⟩,⟨148,MV n⟩,⟨149,Q3k n⟩,⟨150,DU n⟩] []
def Q2k:LZ9:=mkU (Gs n).ok nT 6 Tryz.f89 [Qn1,Qmk] [Qn3] 5 [.f .ret [(2,tI)] [] [0],xE 0 [(43,.b)]] @ST n
def Q22:LZ9:=mkU (Gs n).ok nT 12 Tryz.f89 [Qn1,Qm2] [Qn3] 11 [.f .ret [(2,tI)] [] [0],xE 2 [(57,.b)]] @R0 n
def Q1Y:LZ9:=mkU (Gs n).ok nT 19 Tryz.f89 [Qn1,Qnb,QlP] [Qn3] 97 [.f .ret [(2,tI)] [] [0],xE 4 [(73,.b)]] @Ja n
def Q2C:LZ9:=mkU (Gs n).ok nT 28 Tryz.f89 [Qn1,Qmg] [Qn3] 122 [.f .ret [(2,tI)] [] [0],xE 6 [(117,.b)]] @J1 n
def Dw:EZ9 89:=mkD (Gs n).ok [Q2k n n,Q22 n n,Q1Y n n,Q2C n n] 89 Tryz.f89 0 @JY n
def Dx (n:Nat):BZ9:=Xa [] []
def Q48:LZ9:=mkU (Dx n).ok nT 4 Tryz.f90 [Qn1,Qmk] [Qnc] 83 [.f .ret [(2,.cb true)] [] [],xE 0 [(48,.b)]] @G3 n
def Q5q:EZ9 90:=mkD (Dx n).ok [Q48 n n] 90 Tryz.f90 0 @LU n
def Tv:EZ9 63:=mkD (Xa [] []).ok nT 63 Tryz.f63 0 @VF n
def Ec:EZ9 98:=mkD (Xa [] []).ok nT 98 Tryz.f98 0 @Hp n
def Ku:EZ9 152:=mkD (Xa [⟨98,Ec n⟩] []).ok nT 152 Tryz.f152 0 @XV n
def Pn:BZ9:=Xa [⟨151,Lq n⟩,⟨152,Ku n⟩] []
def Fh:LZ9:=mkU (Pn n).ok nT 4 Tryz.f91 [QlO,QmA,Qm2] [Qnd] 34 [.f .ret [(4,.ci .i64 5)] [] [],xE 0 [(16,.b)]] @GK n
def Em:EZ9 91:=mkD (Pn n).ok [Fh n n] 91 Tryz.f91 0 @Gq n
def MN (n:Nat):BZ9:=Xa [] [(5,⟨[],[],[(6,1006,210,4)],[],[]⟩)]
def AS:LZ9:=mkU (MN n).ok nT 6 Tryz.f156 [QmA,Qn5,Qm3,Qm4] [Qna,QoL,(1006,.arr 210 4)] 5429 [xE 0 [(22,.b)]] @Zc n
def Q2i:EZ9 156:=mkD (MN n).ok [AS n n] 156 Tryz.f156 0 @BJ n
def MM:BZ9:=Xa [⟨156,Q2i n⟩] []
def AW:LZ9:=mkU (MM n).ok nT 3 Tryz.f103 [Qn5,QmE,(8,.l 4),Qmf] [QoL,(6,.box Qne)] 43 [.f .ret [(6,.ptr 6 0),(7,.cb true)] [(6,.box Qnf)] [0,0,0,0],xE 0 [(16,.b)]] @PF n
def Fo:EZ9 103:=mkF (MM n).ok [AW n n] 103 Tryz.f103 [eA [qL 1,qL 1,qL 5,qL 6],eA [qI,qI],eA [qI,qI]] [eT 2,eA [qX,qX,qX,qX],sB] 0 @JO n
def Ud:BZ9:=Xa [⟨89,Dw n⟩,⟨98,Ec n⟩,⟨103,Fo n⟩] []
def LH:LZ9:=mkU (Ud n).ok nT 8 Tryz.f92 [QmA,QmB,Qm2] QoM 272 [.f .ret [(4,.ci .i64 4)] [] [],xE 0 [(39,.b)]] @YE n
def LE:LZ9:=mkU (Ud n).ok nT 16 Tryz.f92 [QmA,QmB,Qms,Qm4] QoM 736 [.f .ret [(4,.ci .i64 5)] [] [],xE 4 [(73,.b)]] @GH n
def F4:LZ9:=mkU (Ud n).ok [LE n n] 13 Tryz.f92 [QmA,QmB,Qms] QoM 245 [.f .ret [(4,.ci .i64 5)] [] [],xE 2 [(68,.b)]] @VO n
def Fj:LZ9:=mkU (Ud n).ok nT 21 Tryz.f92 [QmA,QmB,QlP] QoM 365 [.f .ret [(4,.ci .i64 11)] [] [],xE 6 [(93,.b)]] @Yz n
def PM:EZ9 92:=mkD (Ud n).ok [LH n n,F4 n n,Fj n n] 92 Tryz.f92 0 @VW n
def SQ:EZ9 153:=mkD (Xa [] []).ok nT 153 Tryz.f153 0 @K8 n
def R4:BZ9:=Xa [⟨92,PM n⟩] [(5,⟨[],[],[(8,1008,287,2)],[],[]⟩)]
def Q1Z:LZ9:=mkU (R4 n).ok nT 13 Tryz.f154 [QmA,QmB,Qnj,Qmf,Qml,Qmg,Qmi] [Qna,QoN,(10,.box [.x,.x,.x,.x,.x]),(1008,.arr 287 2)] 9802155 [xE 2 [(53,.b)]] @U8 n
def Q1W:LZ9:=mkU (R4 n).ok [Q1Z n n] 6 Tryz.f154 [QmA,QmB,Qnj,Qmf] [Qna,QoN,(1008,.arr 287 2)] 5375 [xE 0 [(26,.b)]] @Ui n
def Do:EZ9 154:=mkD (R4 n).ok [Q1W n n] 154 Tryz.f154 0 @PZ n
def Dj:BZ9:=Xa [⟨154,Do n⟩,⟨152,Ku n⟩] []
def Q3p:LZ9:=mkU (Dj n).ok nT 7 Tryz.f97 [QmB,Qnl,Qn5,QmY] [Qn7,(4,.box Qng),Qnm] 7562 [.f .ret [(6,.ci .i64 12)] [] [],xE 0 [(31,.b)]] @G6 n
def L6:EZ9 97:=mkD (Dj n).ok [Q3p n n] 97 Tryz.f97 0 @Sw n
def NM:EZ9 127:=mkD (Xa [] []).ok nT 127 Tryz.f127 0 @Ti n
def Ld:EZ9 130:=mkD (Xa [] []).ok nT 130 Tryz.f130 0 @PX n
def K7:BZ9:=Xa [⟨151,Lq n⟩,⟨63,Tv n⟩,⟨153,SQ n⟩,⟨97,L6 n⟩,⟨127,NM n⟩,⟨130,Ld n⟩] []
def EQ:LZ9:=mkU (K7 n).ok nT 5 Tryz.f93 [Qmm,QmB,Qnl,Qn6,QlP] [Qn7,(4,bT 36 []),(7,.box Qnf)] 4802659 [.f .ret [(6,.ci .i64 5)] [] [],xE 0 [(24,.b)]] @Wq n
def D8:LZ9:=mkU (K7 n).ok nT 14 Tryz.f93 [QmB,Qnl,Qn6,Qmf] [Qn7,(4,bT 36 []),(7,.box Qnf)] 48626852 [.f .ret [(6,tI)] [] [0],xE 2 [(58,.b)]] @Wi n
def CA:EZ9 93:=mkD (K7 n).ok [EQ n n,D8 n n] 93 Tryz.f93 0 @KH n
def Al:EZ9 96:=mkD (Xa [⟨63,Tv n⟩] []).ok nT 96 Tryz.f96 0 @JA n
def PH:EZ9 62:=mkF (Xa [] []).ok nT 62 Tryz.f62 [eA [qI,qL 5,qL 2,qL 4,qL 7,qL 4,qL 5,qL 3],sI,sI] [eA [qX,qX]] 0 @XX n
def FJ:EZ9 94:=mkD (Xa [⟨96,Al n⟩,⟨153,SQ n⟩,⟨63,Tv n⟩,⟨62,PH n⟩,⟨130,Ld n⟩,⟨127,NM n⟩] []).ok nT 94 Tryz.f94 0 @Ht n
def PS:BZ9:=Xa [⟨63,Tv n⟩,⟨153,SQ n⟩,⟨62,PH n⟩,⟨130,Ld n⟩,⟨127,NM n⟩] []
def EH:LZ9:=mkU (PS n).ok nT 5 Tryz.f95 [QlO,QmA,Qn5,Qms] [Qnd,(5,.box Qnf)] 238390 [.f .ret [(4,.ci .i64 5)] [] [],xE 0 [(43,.b)]] @Wr n
def DQ:EZ9 95:=mkD (PS n).ok [EH n n] 95 Tryz.f95 0 @KL n
def Yr:BZ9:=Xa [⟨89,Dw n⟩,⟨90,Q5q n⟩,⟨63,Tv n⟩,⟨91,Em n⟩,⟨92,PM n⟩,⟨93,CA n⟩,⟨94,FJ n⟩,⟨95,DQ n⟩,⟨96,Al n⟩] []
def D0:LZ9:=mkU (Yr n).ok nT 8 Tryz.f59 [QmA,QmB,Qm2] Qnp 797042 [.f .ret [(4,tI)] [] [0],xE 0 [(32,.b)]] @Wm n
def Ek:LZ9:=mkU (Yr n).ok nT 14 Tryz.f59 [QmA,QmB,Qm4] Qnp 2309 [.f .ret [(4,tI)] [] [0],xE 2 [(45,.b)]] @Wh n
def En:LZ9:=mkU (Yr n).ok nT 20 Tryz.f59 [QmA,QmB,Qmf] Qnp 797162 [.f .ret [(4,tI)] [] [0],xE 4 [(62,.b)]] @Wl n
def Dd:LZ9:=mkU (Yr n).ok nT 26 Tryz.f59 [QmA,QmB,Qmg] Qnp 797162 [.f .ret [(4,tI)] [] [0],xE 6 [(76,.b)]] @Z6 n
def Ex:LZ9:=mkU (Yr n).ok nT 32 Tryz.f59 [QmA,QmB,Qmq] Qnp 797042 [.f .ret [(4,tI)] [] [0],xE 8 [(94,.b)]] @Z0 n
def EB:LZ9:=mkU (Yr n).ok nT 38 Tryz.f59 [QmA,QmB,Qmn] Qnp 797042 [.f .ret [(4,.ci .i64 4)] [] [],xE 10 [(107,.b)]] @YW n
def ED:LZ9:=mkU (Yr n).ok nT 44 Tryz.f59 [QmA,QmB,(17,tI)] Qnp 531446 [.f .ret [(4,.ci .i64 4)] [] [],xE 12 [(158,.b)]] @Z2 n
def Ct:EZ9 59:=mkD (Yr n).ok [D0 n n,Ek n n,En n n,Dd n n,Ex n n,EB n n,ED n n] 59 Tryz.f59 0 @Um n
def Fk (n:Nat):BZ9:=Xa [] []
def Q1w:LZ9:=mkU (Fk n).ok nT 2 Tryz.f60 [QlO,QmA,Qnl,Qms] [Qnd,(4,.box Qne)] 2194 [.f .ret [(4,.ptr 4 0),(5,.cb true)] [(4,.box Qnf)] [0,0,0,0],xE 0 [(11,.b)]] @J3 n
def Ds:EZ9 60:=mkF (Fk n).ok [Q1w n n] 60 Tryz.f60 [eA [qI,qL 5,qL 2,qL 4,qL 7,qL 4,qL 5,qL 3],sI] [eT 2,eA [qX,qX,qX,qX],sB] 223 @Sq n
def AE:BZ9:=Xa [⟨152,Ku n⟩,⟨98,Ec n⟩] []
def Q4N:LZ9:=mkU (AE n).ok nT 6 Tryz.f245 [Qnr,QlO,Qm4] [] 19 [.f .ret [(6,.ci .i64 4)] [] [],xE 0 [(17,.b)]] @K9 n
def Q7N:EZ9 245:=mkD (AE n).ok [Q4N n n] 245 Tryz.f245 0 @CH n
def Ef (n:Nat):BZ9:=Xa [] []
def Q1m:LZ9:=mkU (Ef n).ok nT 3 Tryz.f246 [Qnr,QlO,Qm4,QlP] [] 76 [xE 0 [(18,.b)]] @J0 n
def Q37:EZ9 246:=mkD (Ef n).ok [Q1m n n] 246 Tryz.f246 0 @PR n
def Q3f:EZ9 247:=mkD (Xa [] []).ok nT 247 Tryz.f247 0 @Mn n
def Q3F:EZ9 248:=mkD (Xa [] []).ok nT 248 Tryz.f248 0 @Mk n
def Dr (n:Nat):BZ9:=Xa [] []
def Q4x:LZ9:=mkU (Dr n).ok nT 4 Tryz.f249 [Qns,Qmk,Qm1] [] 25 [xE 0 [(10,.b)]] @VR n
def Q4L:EZ9 249:=mkD (Dr n).ok [Q4x n n] 249 Tryz.f249 0 @NY n
def Jr:BZ9:=Xa [⟨245,Q7N n⟩,⟨246,Q37 n⟩,⟨247,Q3f n⟩,⟨248,Q3F n⟩,⟨249,Q4L n⟩] []
def Q0m:LZ9:=mkU (Jr n).ok nT 7 Tryz.f210 [Qnr,QlO,Qn5,Qmf,(10,.arr 29),Qmg] Qnt 49234 [xE 0 [(32,.b)]] @UA n
def AQ:LZ9:=mkU (Jr n).ok nT 12 Tryz.f210 [Qnr,QlO,Qn5,Qmf,(10,.arr 29),Qmq] Qnt 49234 [xE 2 [(57,.b)]] @UG n
def Q06:LZ9:=mkU (Jr n).ok nT 16 Tryz.f210 [Qnr,QlO,Qn5,Qmf,(10,.arr 29),Qmt] Qnt 49225 [xE 4 [(86,.b)]] @UK n
def AY:LZ9:=mkU (Jr n).ok nT 20 Tryz.f210 [Qmf,(10,.arr 29),Qmn] [Qnu] 25 [xE 6 [(116,.b)]] @Vv n
def Q2e:EZ9 210:=mkD (Jr n).ok [Q0m n n,AQ n n,Q06 n n,AY n n] 210 Tryz.f210 0 @R8 n
def L5:EZ9 100:=mkD (Xa [] []).ok nT 100 Tryz.f100 0 @Jp n
def E7:BZ9:=Xa [⟨210,Q2e n⟩,⟨100,L5 n⟩] []
def Q1z:LZ9:=mkU (E7 n).ok nT 6 Tryz.f155 [(8,.l 1),(10,.arr 24),Qmg] [(24,.arr 3 1)] 25 [xE 0 [(28,.b)]] @J7 n
def Q3V:EZ9 155:=mkD (E7 n).ok [Q1z n n] 155 Tryz.f155 0 @PK n
def NU:BZ9:=Xa [⟨97,L6 n⟩,⟨154,Do n⟩,⟨155,Q3V n⟩,⟨100,L5 n⟩] [(7,⟨[],[],[(6,1006,3,1),(7,1007,3,1)],[],[]⟩)]
def B0:LZ9:=mkU (NU n).ok nT 8 Tryz.f99 [QmB,Qnl,Qn5,Qm3,Qnv,(14,.l 1),QlQ,(17,tI)] [Qn7,(4,.box Qng),Qnm,(1006,.arr 3 1),(1007,.arr 3 1)] 38331817 [xE 0 [(46,.b)]] @Zk n
def AH:EZ9 99:=mkD (NU n).ok [B0 n n] 99 Tryz.f99 0 @Po n
def Q4z:EZ9 101:=mkD (Xa [] []).ok nT 101 Tryz.f101 0 @VD n
def LZ:EZ9 102:=mkW (Xa [] []).ok nT 102 Tryz.f102 [eP 1000000 2,eR 1000001 4 1,eR 1000002 170 3,sI,sI,sI] [eT 0] [] 0 0 @YM n
def ND:BZ9:=Xa [⟨97,L6 n⟩,⟨98,Ec n⟩,⟨99,AH n⟩,⟨100,L5 n⟩,⟨101,Q4z n⟩,⟨102,LZ n⟩,⟨103,Fo n⟩] [(31,⟨[],[],[(27,1027,170,3)],[],[]⟩)]
def Q3x:LZ9:=mkU (ND n).ok nT 12 Tryz.f61 [Qmk,Qm1,Qn5,QmE,(14,.l 1),(15,.l 1),QlQ,(18,tI),(19,.ptr 65 0),(20,tI),(21,tI),Qmu] [(5,bT 27 []),(6,.box Qng),(61,.arr 4 1),(63,.arr 170 3),(65,.box [.arr 61,.arr 63])] 117191245 [xE 0 [(73,.b)]] @Wa n
def Q3N:LZ9:=mkU (ND n).ok nT 32 Tryz.f61 [QlQ,(18,tI),(19,.ptr 65 0),(27,.arr 1027),(28,tI)] [(61,.arr 4 1),(63,.arr 170 3),(65,.box [.arr 61,.arr 63]),(1027,.arr 170 3)] 615 [xE 3 [(173,.b)]] @V9 n
def Q5P:EZ9 61:=mkD (ND n).ok [Q3x n n,Q3N n n] 61 Tryz.f61 0 @Hc n
def PI:BZ9:=Xa [⟨59,Ct n⟩,⟨60,Ds n⟩,⟨62,PH n⟩,⟨61,Q5P n⟩] [(5,⟨[],[],[(7,1007,97,1),(8,1008,3,1)],[],[]⟩)]
def Q03:LZ9:=mkU (PI n).ok nT 10 Tryz.f28 [QmA,QmB,Qnv,Qnj,Qmf,Qml,Qmg] [Qna,Qnq,(10,.box Qnf),Qny,Qnz] 3245244469 [xE 2 [(39,.b)]] @Yx n
def Q00:LZ9:=mkU (PI n).ok [Q03 n n] 6 Tryz.f28 [QmA,QmB,Qnv,Qnj,Qmf] QnA 13551746 [xE 0 [(27,.b)]] @UE n
def Q2x:EZ9 28:=mkD (PI n).ok [Q00 n n] 28 Tryz.f28 0 @Rb n
def S7 (n:Nat):BZ9:=Xa [] []
def EK:LZ9:=mkU (S7 n).ok nT 2 Tryz.f64 [(0,.l 3),Qmk] [] 7 [.f .ret [(2,.cb false)] [] [],xE 0 [(7,.b)]] @YT n
def RO:EZ9 64:=mkD (S7 n).ok [EK n n] 64 Tryz.f64 0 @JF n
def F3:BZ9:=Xa [⟨63,Tv n⟩,⟨64,RO n⟩] []
def Q1o:LZ9:=mkU (F3 n).ok nT 4 Tryz.f29 [Qns,(1,.l 3),Qm2] [] 22 [.f .ret [(4,.cb false)] [] [],xE 0 [(17,.b)]] @Jf n
def Q4l:EZ9 29:=mkD (F3 n).ok [Q1o n n] 29 Tryz.f29 0 @Mq n
def LW (n:Nat):BZ9:=Xa [] []
def Q2I:LZ9:=mkU (LW n).ok nT 3 Tryz.f65 [QlO,QmA,Qm2,Qms] [Qnd] 754 [xE 0 [(9,.b)]] @Ji n
def Nf:EZ9 65:=mkD (LW n).ok [Q2I n n] 65 Tryz.f65 247 @WY n
def PA:BZ9:=Xa [⟨65,Nf n⟩,⟨60,Ds n⟩] [(2,⟨[],[],[(5,1005,102,4)],[],[]⟩)]
def Q0l:LZ9:=mkU (PA n).ok nT 7 Tryz.f30 QnB [Qnd,(7,.box Qnf),(1005,.arr 102 4)] 33488095 [xE 2 [(29,.b)]] @ZY n
def AT:LZ9:=mkU (PA n).ok [Q0l n n] 3 Tryz.f30 QnE [Qnd,(1005,.arr 102 4)] 120535 [xE 0 [(17,.b)]] @Uo n
def Q2E:EZ9 30:=mkD (PA n).ok [AT n n] 30 Tryz.f30 215 @SN n
def Tl (n:Nat):BZ9:=Xa [] []
def Lh:LZ9:=mkU (Tl n).ok nT 2 Tryz.f104 [(0,.l 3),QlO,Qnl,Qms] [(4,.box QnF)] 22 [.f .ret [(4,.ptr 4 0),(5,.cb true)] [(4,.box [.x,.x,.x])] [0,0,0],xE 0 [(10,.b)]] @YS n
def FM:EZ9 104:=mkF (Tl n).ok [Lh n n] 104 Tryz.f104 [sL 3,sI] [eT 2,eA [qX,qX,qX],sB] 0 @Vr n
def DP:EZ9 66:=mkF (Xa [⟨104,FM n⟩] []).ok nT 66 Tryz.f66 [sL 1,eA [qI,qI,qI,qI],sI] [eT 3,eA [qX,qX,qX],eA [qX,qX,qX],sB] 16 @PP n
def MC:BZ9:=Xa [⟨66,DP n⟩] []
def AO:LZ9:=mkU (MC n).ok nT 2 Tryz.f31 [Qn0,Qmm,Qnl,Qm4] [(4,bT 102 [])] 1102 [.f .ret [(6,.cb false)] [] [],xE 0 [(18,.b)]] @UC n
def Q2h:EZ9 31:=mkD (MC n).ok [AO n n] 31 Tryz.f31 0 @Rn n
def Pw:BZ9:=Xa [⟨65,Nf n⟩] [(2,⟨[],[],[(5,1005,67,6)],[],[]⟩)]
def Q0o:LZ9:=mkU (Pw n).ok nT 7 Tryz.f32 QnB [Qnd,(7,.box Qnf),(1005,.arr 67 6)] 35075857 [xE 2 [(27,.b)]] @Uy n
def AL:LZ9:=mkU (Pw n).ok [Q0o n n] 3 Tryz.f32 QnE [Qnd,(1005,.arr 67 6)] 118348 [xE 0 [(15,.b)]] @Uv n
def Q2v:EZ9 32:=mkW (Pw n).ok [AL n n] 32 Tryz.f32 [eA [qI,qL 5,qL 2,qL 4,qL 7,qL 4,qL 5,qL 3],sL 1] [eR 1005 67 6] [] 247 0 @SK n
def KJ:BZ9:=Xa [⟨65,Nf n⟩] [(2,⟨[],[],[(3,1003,67,6)],[],[]⟩)]
def Q0i:LZ9:=mkU (KJ n).ok nT 3 Tryz.f33 [Qn1,Qn2,Qm1] QnI 39692 [xE 0 [(14,.b)]] @Uw n
def Q0j:LZ9:=mkU (KJ n).ok nT 8 Tryz.f33 [Qn1,Qn2,Qms] QnI 40178 [xE 2 [(53,.b)]] @ZW n
def AI:LZ9:=mkU (KJ n).ok nT 13 Tryz.f33 [Qn1,Qn2,QlP] QnI 41636 [xE 4 [(93,.b)]] @Z9 n
def Q2f:EZ9 33:=mkD (KJ n).ok [Q0i n n,Q0j n n,AI n n] 33 Tryz.f33 135 @Rm n
def Hy:BZ9:=Xa [⟨66,DP n⟩] [(2,⟨[],[],[(9,1009,170,3)],[],[]⟩)]
def C0:LZ9:=mkU (Hy n).ok nT 7 Tryz.f35 [Qn0,(1,.l 4),Qmm,Qmk,(9,.arr 1009),QmY,(11,.b),Qmi] [(1009,.arr 170 3)] 2065 [xE 2 [(28,.b)]] @YN n
def DZ:LZ9:=mkU (Hy n).ok [C0 n n] 3 Tryz.f35 [Qn0,(1,.l 4),Qmm,Qmk,(9,.arr 1009),QmY] [(1009,.arr 170 3)] 688 [xE 0 [(22,.b)]] @ZF n
def Bj:EZ9 35:=mkD (Hy n).ok [DZ n n] 35 Tryz.f35 0 @Gt n
def DG (n:Nat):BZ9:=Xa [] []
def Q3P:LZ9:=mkU (DG n).ok nT 2 Tryz.f105 [(0,.l 3),QlO,Qnl,Qms] [(4,.box QnF)] 22 [.f .ret [(4,.ptr 4 0),(5,.cb true)] [(4,.box [.x,.x,.x])] [0,0,0],xE 0 [(10,.b)]] @Ul n
def Q5U:EZ9 105:=mkF (DG n).ok [Q3P n n] 105 Tryz.f105 [sL 3,sI] [eT 2,eA [qX,qX,qX],sB] 0 @A7 n
def Dg:EZ9 68:=mkD (Xa [] []).ok nT 68 Tryz.f68 0 @FP n
def Kh:BZ9:=Xa [⟨63,Tv n⟩,⟨64,RO n⟩,⟨105,Q5U n⟩,⟨68,Dg n⟩] []
def EU:LZ9:=mkU (Kh n).ok nT 13 Tryz.f67 [Qns,(1,.l 3),(2,.l 3),(8,.arr 26),Qmf,Qml,Qmi,Qmq] [(10,.box [.x,.x,.x]),(26,.arr 4 1)] 46525 [xE 2 [(70,.b)]] @Z3 n
def Ew:LZ9:=mkU (Kh n).ok [EU n n] 7 Tryz.f67 [Qns,(1,.l 3),(2,.l 3),(8,.arr 26),Qmf] [(26,.arr 4 1)] 229 [xE 0 [(30,.b)]] @XZ n
def Cd:EZ9 67:=mkD (Kh n).ok [Ew n n] 67 Tryz.f67 0 @KK n
def Ge:BZ9:=Xa [⟨67,Cd n⟩,⟨68,Dg n⟩] [(13,⟨[],[],[(12,1012,112,2)],[],[]⟩)]
def BG:LZ9:=mkU (Ge n).ok nT 6 Tryz.f34 [Qns,(8,.l 1),QmY,Qmg] [] 76 [xE 0 [(27,.b)]] @Wt n
def BY:LZ9:=mkU (Ge n).ok nT 18 Tryz.f34 [Qns,(8,.l 1),(12,.arr 1012),Qmq,Qmt] [(1012,.arr 112 2)] 67 [xE 4 [(65,.b)]] @WE n
def Bu:LZ9:=mkU (Ge n).ok [BY n n] 14 Tryz.f34 [Qns,(8,.l 1),(12,.arr 1012),Qmq] [(1012,.arr 112 2)] 76 [xE 2 [(41,.b)]] @Yf n
def Q08:EZ9 34:=mkD (Ge n).ok [BG n n,Bu n n] 34 Tryz.f34 0 @KU n
def ZX:BZ9:=Xa [⟨28,Q2x n⟩,⟨29,Q4l n⟩,⟨30,Q2E n⟩,⟨31,Q2h n⟩,⟨32,Q2v n⟩,⟨33,Q2f n⟩,⟨35,Bj n⟩,⟨34,Q08 n⟩] [(18,⟨[],[],[],[(12,1,1121,104,3)],[]⟩),(21,⟨[],[],[],[(12,1,1121,104,3)],[]⟩)]
def Q0r:LZ9:=mkU (ZX n).ok nT 7 Tryz.f7 [QmB,Qnl,QnK,Qnb,Qmf] [Qnq,(4,.box QnJ)] 46 [.f .ret [(4,.ptr 4 0),(5,.ci .i64 13)] [(4,.box QnJ)] [],xE 0 [(39,.b)]] @UH n
def Q0h:LZ9:=mkU (ZX n).ok nT 13 Tryz.f7 [QmB,Qnl,QnK,Qnb,QnN,Qmg] [Qnq,(4,.box QnJ)] 145 [.f .ret [(4,.ptr 4 0),(5,.ci .i64 13)] [(4,.box QnJ)] [],xE 2 [(57,.b)]] @UJ n
def AK:LZ9:=mkU (ZX n).ok nT 22 Tryz.f7 [QmB,Qnl,QnK,Qnb,QnN,QnO,Qmq,Qmt] [Qnq,QnP,(12,.box [tI,.arr 1121,.nil]),QnQ] 28704564 [xE 6 [(88,.b)]] @VE n
def Q0n:LZ9:=mkU (ZX n).ok [AK n n] 19 Tryz.f7 [QmB,Qnl,QnK,Qnb,QnN,QnO,Qmq] [Qnq,(4,.box QnJ),(12,.box [tI,.arr 1121,.nil]),QnQ] 3190887 [xE 4 [(77,.b)]] @W0 n
def Q0d:LZ9:=mkU (ZX n).ok nT 36 Tryz.f7 [QmB,Qnl,QnK,QnN,QnO,Qmn,QlQ,(17,.l 2),QnS] QoO 86094045 [xE 12 [(145,.b)]] @UD n
def Q0q:LZ9:=mkU (ZX n).ok [Q0d n n] 30 Tryz.f7 [QmB,Qnl,QnK,QnN,QnO,Qmn,QlQ] QoO 9566086 [.f .ret [(4,.ptr 4 0),(5,.ci .i64 13)] [(4,.box QnJ)] [],xE 10 [(120,.b)]] @Vy n
def AU:LZ9:=mkU (ZX n).ok [Q0q n n] 27 Tryz.f7 [QmB,Qnl,QnK,QnN,QnO,Qmn] [Qnq,(4,.box QnJ),(12,.box QnR),(107,.arr 67 6),QnQ] 1062931 [.f .ret [(4,.ptr 4 0),(5,.ci .i64 13)] [(4,.box QnJ)] [],xE 8 [(112,.b)]] @Uz n
def Q2s:EZ9 7:=mkD (ZX n).ok [Q0r n n,Q0h n n,Q0n n n,AU n n] 7 Tryz.f7 0 @Tn n
def Q0E:EZ9 87:=mkD (Xa [] []).ok nT 87 Tryz.f87 0 @T4 n
def MH:BZ9:=Xa [⟨87,Q0E n⟩] []
def Q09:LZ9:=mkU (MH n).ok nT 4 Tryz.f69 [Qn1,Qmk] [(1,.box QnV)] 41 [.f .ret [(2,.cb false)] [] [],xE 0 [(25,.b)]] @Vz n
def SS:EZ9 69:=mkD (MH n).ok [Q09 n n] 69 Tryz.f69 0 @Us n
def Q8k:EZ9 70:=mkD (Xa [] []).ok nT 70 Tryz.f70 0 @Q1P n
def Sm (n:Nat):BZ9:=Xa [] []
def D2:LZ9:=mkU (Sm n).ok nT 5 Tryz.f157 [QnX,Qm2,Qms,Qmu,(23,tI)] QnY 229 [xE 0 [(24,.b)]] @Z5 n
def Cr:EZ9 157:=Q8b (mkW (Sm n).ok [D2 n n] 157 Tryz.f157 [eR 1000000 3 1,eA [qI,qI,qI,qI,qI,qI]] [sB] [(1,eK 1000000 3 1)] 0 0 @JE n)
def Wu:BZ9:=Xa [⟨69,SS n⟩,⟨157,Cr n⟩] []
def Lt:LZ9:=mkU (Wu n).ok nT 5 Tryz.f106 [Qn1,(3,.arr 16),(18,tI),QnS] [(1,.box QnV),Qo0] 493 [xE 0 [(20,.b)]] @Z7 n
def L0:LZ9:=mkU (Wu n).ok nT 10 Tryz.f106 [Qn1,(3,.arr 16),Qm2] [(1,.box QnV),Qo0] 191 [xE 2 [(31,.b)]] @Z4 n
def MR:LZ9:=mkU (Wu n).ok nT 20 Tryz.f106 [(3,.arr 16),(6,.arr 43),Qm4,QlP,Qmf,(45,tI),(46,tI)] [Qo0,(43,.arr 3 1)] 1722 [xE 6 [(54,.b)]] @Yo n
def MP:LZ9:=mkU (Wu n).ok [MR n n] 16 Tryz.f106 [(3,.arr 16),(6,.arr 43),Qm4,(45,tI),(46,tI)] [Qo0,(43,.arr 3 1)] 212 [xE 4 [(47,.b)]] @Yp n
def F2:EZ9 106:=mkD (Wu n).ok [Lt n n,L0 n n,MP n n] 106 Tryz.f106 0 @JK n
def GA:BZ9:=Xa [⟨106,F2 n⟩] []
def FN:LZ9:=mkU (GA n).ok nT 8 Tryz.f71 [Qnb,(8,.ptr 25 0),Qmf,QmY,(27,tI),(28,tI)] [(19,.arr 3 1),(23,.arr 4 1),(25,bT 119 [(3,.arr 23),(10,.nil),(11,.arr 19)])] 1480 [xE 2 [(39,.b)]] @YF n
def FC:LZ9:=mkU (GA n).ok [FN n n] 4 Tryz.f71 [Qnb,(8,.ptr 25 0),(27,tI),(28,tI)] [(19,.arr 3 1),(23,.arr 4 1),(25,.box [tI,.l 3,.l 6,.arr 23,tI,.ci .i64 0,.cb false,.b,.cb false,.ci .i64 0,.nil,.arr 19])] 184 [xE 0 [(29,.b)]] @Zt n
def Ev:EZ9 71:=mkW (GA n).ok [FC n n] 71 Tryz.f71 [eA [qI,qL 3,qL 6],sI,sB] [eP 25 12,sI,sL 3,sL 6,eR 23 4 1,sI,sI,sB,sB,sB,sI,eN,eR 19 3 1] [] 0 0 @GG n
def Ff:BZ9:=Xa [⟨69,SS n⟩,⟨87,Q0E n⟩] []
def Q1C:LZ9:=mkU (Ff n).ok nT 4 Tryz.f52 [QnC,QmA,Qm2] [(2,.box QnV)] 16 [.f .ret [(4,.cb false)] [] [],xE 0 [(20,.b)]] @Jc n
def Q3L:EZ9 52:=mkD (Ff n).ok [Q1C n n] 52 Tryz.f52 0 @M4 n
def LJ:EZ9 86:=mkD (Xa [⟨68,Dg n⟩] []).ok nT 86 Tryz.f86 790 @TL n
def LR:BZ9:=Xa [⟨52,Q3L n⟩,⟨86,LJ n⟩] []
def Q2J:LZ9:=mkU (LR n).ok nT 5 Tryz.f107 [QnC,QmA,Qms,Qm4] [(2,.box QnV)] 295 [xE 0 [(16,.b)]] @J4 n
def Q4v:EZ9 107:=mkD (LR n).ok [Q2J n n] 107 Tryz.f107 0 @Mp n
def VL:BZ9:=Xa [⟨86,LJ n⟩] []
def HM:LZ9:=mkU (VL n).ok nT 3 Tryz.f108 Qo4 QoP 7558 [.f .ret [(4,.cb true)] [(98003,.arr 4 1),(98010,.arr 3 1),(98011,.arr 3 1),(1000000,bT 119 Qo3)] [4,5,6,7,8,9,10,11,12,13,14,15],xE 0 [(16,.b)]] @X0 n
def TD:EZ9 108:=mkW (VL n).ok [HM n n] 108 Tryz.f108 (pT 1000000 119 Qo7 [sI]) [sB] [] 1146 8190 @Ze n
noncomputable abbrev ZS:List Sp:=(pT 1000000 119 Qo7 [sI])
abbrev ZR:List Sp:=[sB,eI 1000000 12,sI,sL 3,sL 6,eR 98003 4 1,sI,sI,sB,sB,sB,sI,eR 98010 3 1,eR 98011 3 1,eG 1000001,eG 1000002,eG 1000003]
noncomputable abbrev Vo (n d:Nat):LF (lts ZS) (oP (HT (lts ZR))):=Xl n d
def G8 (n d:Nat) (ih:Vg Tryz.prog 72 (Qf0 ZS ZR (Vo n d))):BZ9:=Xa [⟨107,Q4v n⟩,⟨108,TD n⟩,⟨72,⟨_,ih⟩⟩] [(1000000017,⟨[],[],[],[],[]⟩)]
def PO (n d:Nat) (ih:Vg Tryz.prog 72 (Qf0 ZS ZR (Vo n d))):LZ9:=mkU (G8 n d ih).ok nT 10 Tryz.f72 Qo4 QoP 14348902 [.f .ret [(4,.cb false)] [(98003,.arr 4 1),(98010,.arr 3 1),(98011,.arr 3 1),(1000000,bT 119 Qo3)] [0,0,0,0,0,0,0,0,0,0,0,0],xE 0 [(59,.b)]] (fun R n=>@Xd R n (Xl n d)) n
theorem UW (n:Nat):∀ d,Vg Tryz.prog 72 (Qf0 ZS ZR (Vo n d))
 | 0=>Q5K Tryz.f72 _ _ _ (fun v r h=>nomatch (show none=some r from h)) (by intro v;kernel_rfl) (by kernel_rfl) (by kernel_rfl) (by kernel_rfl) (by kernel_rfl)
 | d+1=>QeI (G8 n d (UW n d)).ok [PO n d (UW n d) n] Tryz.f72 _ _ _ (by intro v;kernel_rfl) (by intro v;kernel_rfl) (by kernel_rfl) (by kernel_rfl) (by kernel_rfl) (by kernel_rfl) (by kernel_rfl) (by kernel_rfl)
def R1:EZ9 72:=⟨_,UW n n⟩
def Q5x:EZ9 37:=mkX (Xa [⟨69,SS n⟩,⟨70,Q8k n⟩,⟨71,Ev n⟩,⟨72,R1 n⟩] [(5,⟨[],[],[],[(50018,10,2730,3,1)],[]⟩)]).ok nT 37 Tryz.f37 [eA [qI,qL 3,qL 6],sI,sB] [eT 2,eU,sI] [eT 2,eP 50018 12,sI,sL 3,sL 6,eR 50020 4 1,sI,sI,sB,sB,sB,sI,eR 100020 3 1,eR 150020 3 1,sI] 0 @LN n
def Ce:EZ9 9:=mkW (Xa [⟨37,Q5x n⟩] [(6,⟨[],[],[(4,150012,3,1)],[],[]⟩),(7,⟨[],[],[(4,150012,3,1)],[],[]⟩)]).ok nT 9 Tryz.f9 [eA [qI,qL 3,qL 6],sI] [eT 3,eR 97001 3 1,sI,sI] [] 0 0 @UF n
def Q0b:EZ9 14:=mkW (Xa [⟨6,Q4J n⟩,⟨7,Q2s n⟩,⟨9,Ce n⟩] [(4,⟨[],[],[(4,50027,3,1)],[],[]⟩)]).ok nT 14 Tryz.f14 [sL 1] [eT 4,eA [qL 1,qL 1,qL 5,qL 6],eA [qI,qL 5,qL 2,qL 4,qL 7,qL 4,qL 5,qL 3],eR 97001 3 1,sB] [] 0 0 @KZ n
def Pl (n:Nat):BZ9:=Xa [] []
def LM:LZ9:=mkU (Pl n).ok nT 4 Tryz.f17 [(13,.l 5),Qmt,Qmn] [] 22 [.f .ret [(4,.cb false)] [] [],xE 0 [(16,.b)]] @Zy n
def Km:EZ9 17:=mkD (Pl n).ok [LM n n] 17 Tryz.f17 0 @WD n
def TW:EZ9 145:=mkD (Xa [] []).ok nT 145 Tryz.f145 0 @Uj n
def RN:EZ9 146:=mkD (Xa [] []).ok nT 146 Tryz.f146 0 @Vu n
def HB:EZ9 85:=mkD (Xa [⟨145,TW n⟩,⟨146,RN n⟩] []).ok nT 85 Tryz.f85 1090 @VM n
def LA:EZ9 40:=mkD (Xa [] []).ok nT 40 Tryz.f40 0 @Tq n
def Et:EZ9 187:=mkD (Xa [] []).ok nT 187 Tryz.f187 0 @NZ n
def Dc:EZ9 188:=mkD (Xa [] []).ok nT 188 Tryz.f188 0 @Nj n
def Tk:EZ9 132:=mkD (Xa [⟨187,Et n⟩,⟨188,Dc n⟩] []).ok nT 132 Tryz.f132 0 @Gb n
def Nh:EZ9 176:=mkD (Xa [] []).ok nT 176 Tryz.f176 0 @Vl n
def AR:EZ9 184:=mkD (Xa [⟨176,Nh n⟩] []).ok nT 184 Tryz.f184 0 @DB n
def Y5:BZ9:=Xa [⟨184,AR n⟩] []
def Jn:LZ9:=mkU (Y5 n).ok nT 4 Tryz.f178 [QnX,QlO,Qmm,Qms,Qm4] QnY 217 [xE 2 [(30,.b)]] @Ya n
def Jk:LZ9:=mkU (Y5 n).ok [Jn n n] 1 Tryz.f178 [QnX,QlO,Qmm,Qms] QnY 76 [xE 0 [(12,.b)]] @Y9 n
def Jw:EZ9 178:=Q8b (mkW (Y5 n).ok [Jk n n] 178 Tryz.f178 [eR 1000000 3 1,sI,sI] [eT 0] [(1,eK 1000000 3 1)] 0 0 @WS n)
def V4:BZ9:=Xa [⟨178,Jw n⟩] []
def Kl:LZ9:=mkU (V4 n).ok nT 2 Tryz.f131 [QnX,QlO,Qmm,Qmk,(8,.cb true),(9,.cb true)] QnY 40 [.f .ret [] [(1000000,.arr 3 1)] [0]] @V0 n
def Ha:EZ9 131:=Q8b (mkW (V4 n).ok [Kl n n] 131 Tryz.f131 [eR 1000000 3 1,sI,sI,sI] [eT 0] [(1,eK 1000000 3 1)] 0 0 @VN n)
def SF:EZ9 79:=Q8b (mkW (Xa [⟨132,Tk n⟩,⟨131,Ha n⟩] []).ok nT 79 Tryz.f79 [eR 1000000 3 1] [eT 0] [(1,eK 1000000 3 1)] 0 0 @K4 n)
def Uq (n:Nat):BZ9:=Xa [] []
def Pp:LZ9:=mkU (Uq n).ok nT 9 Tryz.f80 [Qn0,Qmk,(4,.l 1),Qm2] [] 67 [xE 2 [(32,.b)]] @Ur n
def PD:LZ9:=mkU (Uq n).ok [Pp n n] 4 Tryz.f80 [Qn0,Qmk] [] 7 [xE 0 [(13,.b)]] @Up n
def PN:EZ9 80:=mkD (Uq n).ok [PD n n] 80 Tryz.f80 0 @K2 n
def Ns:BZ9:=Xa [⟨17,Km n⟩,⟨40,LA n⟩,⟨79,SF n⟩,⟨80,PN n⟩] [(5,⟨[],[],[(9,1009,3,1)],[],[]⟩),(11,⟨[],[],[],[],[1009]⟩)]
def BM:LZ9:=mkU (Ns n).ok nT 6 Tryz.f47 [Qns,Qmm,(9,.arr 1009),QmY,(20,.l 5),(21,tI),Qmu] [(1009,.arr 3 1)] 2065 [xE 0 [(23,.b)]] @Gx n
def AP:EZ9 47:=mkD (Ns n).ok [BM n n] 47 Tryz.f47 0 @DE n
def RF (n:Nat):BZ9:=Xa [] []
def C4:LZ9:=mkU (RF n).ok nT 4 Tryz.f46 [Qn0,QnC,Qmi,Qmq] [] 67 [.f .ret [(4,.cb false)] [] [],xE 0 [(14,.b)]] @Hz n
def Bv:EZ9 46:=mkD (RF n).ok [C4 n n] 46 Tryz.f46 0 @Fm n
def Gn:EZ9 212:=mkD (Xa [] []).ok nT 212 Tryz.f212 0 @Xj n
def Cq:EZ9 214:=mkD (Xa [] []).ok nT 214 Tryz.f214 0 @PC n
def Aq:EZ9 215:=mkD (Xa [] []).ok nT 215 Tryz.f215 0 @Fl n
def E4:BZ9:=Xa [⟨214,Cq n⟩,⟨215,Aq n⟩] []
def Q2B:LZ9:=mkU (E4 n).ok nT 4 Tryz.f159 [(0,.t),QnS,(20,tI)] [] 22 [.f .ret [(2,.cb false)] [] [],xE 0 [(21,.b)]] @SL n
def Pc:EZ9 159:=mkD (E4 n).ok [Q2B n n] 159 Tryz.f159 0 @Ks n
def Tb:EZ9 251:=mkD (Xa [] []).ok nT 251 Tryz.f251 0 @Lz n
def Rz:BZ9:=Xa [⟨251,Tb n⟩] []
def C9:LZ9:=mkU (Rz n).ok nT 2 Tryz.f253 [Qnl,Qn5,(11,.l 6),Qmi,Qmq] [(4,.box Qn4),QoL] 1102 [.f .ret [(6,.cb true)] [] [],xE 0 [(14,.b)]] @Hn n
def Nk:EZ9 253:=mkD (Rz n).ok [C9 n n] 253 Tryz.f253 0 @Gy n
def FZ:EZ9 254:=mkD (Xa [] []).ok nT 254 Tryz.f254 0 @JU n
def HG:EZ9 250:=mkD (Xa [] []).ok nT 250 Tryz.f250 0 @Yc n
def Pb:EZ9 252:=mkD (Xa [] []).ok nT 252 Tryz.f252 0 @Hs n
def GQ:EZ9 161:=mkW (Xa [] []).ok nT 161 Tryz.f161 (eA [qT,qI,qI,qI,qI]::pT 1000000 76 [] []) [sB] [] 990 62 @Vc n
def Xt:BZ9:=Xa [⟨161,GQ n⟩] []
def YQ:LZ9:=mkU (Xt n).ok nT 2 Tryz.f216 [(0,.l 5),(1,.fn 161 [.ptr 1000000 0]),Qm4,QlP] [(1000000,bT 76 [])] 49 [.f .ret [(4,tI)] [(1000000,bT 76 [])] [0,4,5,6,7,8],xE 0 [(9,.b)]] @QL n
def YU:EZ9 216:=mkW (Xt n).ok [YQ n n] 216 Tryz.f216 (sL 5::eF 161 1::pT 1000000 76 [] []) [sI] [] 60 62 @XF n
def YL:EZ9 160:=mkW (Xa [⟨216,YU n⟩] []).ok nT 160 Tryz.f160 (sL 5::eF 161 1::pT 1000000 76 [] []) [sB] [] 60 62 @Xs n
def Hk:EZ9 162:=mkD (Xa [] []).ok nT 162 Tryz.f162 0 @Uu n
def TH:BZ9:=Xa [⟨159,Pc n⟩,⟨160,YL n⟩,⟨162,Hk n⟩] []
def MU:LZ9:=mkU (TH n).ok nT 2 Tryz.f110 [QmB,(8,.l 5),Qmf,QmY] [Qnq] 103 [.f .ret [(4,tI)] [] [0],xE 0 [(11,.b)]] @JM n
def Pe:EZ9 110:=mkD (TH n).ok [MU n n] 110 Tryz.f110 0 @U2 n
def Q0f:EZ9 255:=mkD (Xa [] []).ok nT 255 Tryz.f255 0 @N9 n
def An:EZ9 271:=mkD (Xa [] []).ok nT 271 Tryz.f271 0 @Ri n
def Cj:EZ9 272:=mkD (Xa [] []).ok nT 272 Tryz.f272 0 @MI n
def TV:BZ9:=Xa [⟨271,An n⟩,⟨272,Cj n⟩] []
def La:LZ9:=mkU (TV n).ok nT 3 Tryz.f256 [Qn9,(9,.ptr 9 0),(20,.l 6),(21,tI),Qmu] [(8,.box Qn4),(9,.box Qn4)] 1102 [.f .ret [(6,tI),(7,.cb true)] [] [0],xE 0 [(23,.b)]] @JW n
def FQ:EZ9 256:=mkD (TV n).ok [La n n] 256 Tryz.f256 0 @JJ n
def Kf:EZ9 165:=mkW (Xa [] []).ok nT 165 Tryz.f165 (eA [qT,qI,qI,qL 4]::pT 1000000 87 [] []) [sB] [] 238 30 @ZJ n
def XA:BZ9:=Xa [⟨165,Kf n⟩] []
def Za:LZ9:=mkU (XA n).ok nT 2 Tryz.f218 [(0,.l 4),(1,.fn 165 [.ptr 1000000 0]),Qm4,QlP] [(1000000,bT 87 [])] 49 [.f .ret [(4,tI)] [(1000000,bT 87 [])] [0,4,5,6,7],xE 0 [(9,.b)]] @Qa n
def Zg:EZ9 218:=mkW (XA n).ok [Za n n] 218 Tryz.f218 (sL 4::eF 165 1::pT 1000000 87 [] []) [sI] [] 28 30 @QU n
def YP:EZ9 164:=mkW (Xa [⟨218,Zg n⟩] []).ok nT 164 Tryz.f164 (sL 4::eF 165 1::pT 1000000 87 [] []) [sB] [] 28 30 @Qn n
def FS:EZ9 166:=mkD (Xa [] []).ok nT 166 Tryz.f166 0 @Tp n
def Rv:EZ9 169:=mkD (Xa [] []).ok nT 169 Tryz.f169 0 @Ki n
def D6:EZ9 296:=mkD (Xa [] []).ok nT 296 Tryz.f296 0 @NB n
def EI:EZ9 297:=mkD (Xa [] []).ok nT 297 Tryz.f297 0 @TE n
def Ni:EZ9 291:=mkD (Xa [⟨296,D6 n⟩,⟨297,EI n⟩] []).ok nT 291 Tryz.f291 0 @Td n
def HH:EZ9 269:=mkD (Xa [] []).ok nT 269 Tryz.f269 0 @Ue n
def Ng:EZ9 171:=mkD (Xa [] []).ok nT 171 Tryz.f171 0 @Th n
def Ll:EZ9 170:=mkD (Xa [] []).ok nT 170 Tryz.f170 0 @S9 n
def MG:EZ9 172:=mkD (Xa [] []).ok nT 172 Tryz.f172 0 @JZ n
def MB:EZ9 168:=mkD (Xa [⟨172,MG n⟩] []).ok nT 168 Tryz.f168 0 @Ua n
def HE:BZ9:=Xa [⟨168,MB n⟩,⟨169,Rv n⟩,⟨166,FS n⟩,⟨170,Ll n⟩,⟨171,Ng n⟩] []
def Mt:LZ9:=mkU (HE n).ok nT 2 Tryz.f113 [QmA,QmB,(10,.l 7),Qmg,Qmi] Qnp 7173625 [.f .ret [(4,tI)] [] [0],xE 0 [(13,.b)]] @YJ n
def TN:EZ9 113:=mkD (HE n).ok [Mt n n] 113 Tryz.f113 0 @Wn n
def Kk:EZ9 174:=mkW (Xa [] []).ok nT 174 Tryz.f174 (eA [qI,qI,qI,qI]::pT 1000000 158 [] []) [sB] [] 204 30 @ZG n
def XC:BZ9:=Xa [⟨174,Kk n⟩] []
def Zd:LZ9:=mkU (XC n).ok nT 2 Tryz.f220 [(0,.l 4),(1,.fn 174 [.ptr 1000000 0]),Qm4,QlP] [(1000000,bT 158 [])] 130 [.f .ret [(4,tI)] [(1000000,bT 158 [])] [0,4,5,6,7],xE 0 [(9,.b)]] @Qb n
def Zh:EZ9 220:=mkW (XC n).ok [Zd n n] 220 Tryz.f220 (sL 4::eF 174 1::pT 1000000 158 [] []) [sI] [] 24 30 @QV n
def YR:EZ9 173:=mkW (Xa [⟨220,Zh n⟩] []).ok nT 173 Tryz.f173 (sL 4::eF 174 1::pT 1000000 158 [] []) [sB] [] 24 30 @Ql n
def P8:BZ9:=Xa [⟨172,MG n⟩,⟨169,Rv n⟩,⟨173,YR n⟩,⟨170,Ll n⟩,⟨171,Ng n⟩] []
def Ft:LZ9:=mkU (P8 n).ok nT 2 Tryz.f114 [QmB,QnN,Qmg,Qmi] [Qnq] 88582 [.f .ret [(4,tI)] [] [0],xE 0 [(13,.b)]] @ZD n
def Sa:EZ9 114:=mkD (P8 n).ok [Ft n n] 114 Tryz.f114 0 @V1 n
def Pi:BZ9:=Xa [⟨168,MB n⟩] []
def Fv:LZ9:=mkU (Pi n).ok nT 2 Tryz.f115 [QmB,(8,.l 5),Qmf,QmY] [Qnq] 88582 [.f .ret [(4,.ci .i64 4)] [] [],xE 0 [(11,.b)]] @Zq n
def So:EZ9 115:=mkD (Pi n).ok [Fv n n] 115 Tryz.f115 0 @UT n
def HA (n:Nat):BZ9:=Xa [] []
def My:LZ9:=mkU (HA n).ok nT 2 Tryz.f116 [QmA,(8,.l 3),Qmf,QmY] [Qna] 49 [.f .ret [(4,.ci .i64 4)] [] [],xE 0 [(11,.b)]] @YI n
def Tm:EZ9 116:=mkD (HA n).ok [My n n] 116 Tryz.f116 0 @Wg n
def YY (n:Nat):BZ9:=Xa [] []
def K6:LZ9:=mkU (YY n).ok nT 5 Tryz.f133 [QlN,Qmm,(9,.l 4),QmY,Qmg,(34,tI),(35,tI)] QoQ 118666 [xE 2 [(36,.b)]] @X3 n
def Kq:LZ9:=mkU (YY n).ok [K6 n n] 1 Tryz.f133 [QlN,(9,.l 4),QmY,Qmg] QoQ 4450 [xE 0 [(12,.b)]] @QN n
def H3:EZ9 133:=mkW (YY n).ok [Kq n n] 133 Tryz.f133 (pT 1000000 235 [(12,eR 1000001 3 1),(13,eR 1000002 97 1),(14,eR 1000003 3 1),(15,eR 1000004 273 4),(17,eR 1000005 104 3),(18,eR 1000006 67 6)] []) [eT 0] [] 388991 389119 @Yt n
def NJ (n:Nat):BZ9:=Xa [] []
def A6:LZ9:=mkU (NJ n).ok nT 2 Tryz.f189 [QlO,(8,.l 4),Qmf,QmY] [] 67 [.f .ret [(4,tI)] [] [0],xE 0 [(11,.b)]] @UY n
def AJ:EZ9 189:=mkD (NJ n).ok [A6 n n] 189 Tryz.f189 0 @KR n
def HI:BZ9:=Xa [⟨162,Hk n⟩] []
def Mv:LZ9:=mkU (HI n).ok nT 6 Tryz.f288 [Qnr,QlO,(17,.l 2),(18,tI),QnS] [] 198 [.f .ret [(6,.ci .i64 4)] [] [],xE 1 [(20,.b)]] @YG n
def Lv:EZ9 288:=mkD (HI n).ok [Mv n n] 288 Tryz.f288 0 @Jb n
def SD (n:Nat):BZ9:=Xa [] []
def EV:LZ9:=mkU (SD n).ok nT 3 Tryz.f293 [Qm4,(20,.l 2),(21,tI),Qmu] [] 68 [xE 0 [(23,.b)]] @Wp n
def DW:EZ9 293:=mkD (SD n).ok [EV n n] 293 Tryz.f293 0 @JH n
def Ae:EZ9 294:=mkD (Xa [] []).ok nT 294 Tryz.f294 0 @T5 n
def A8:EZ9 295:=mkD (Xa [] []).ok nT 295 Tryz.f295 0 @HJ n
def JQ:BZ9:=Xa [⟨293,DW n⟩,⟨294,Ae n⟩,⟨295,A8 n⟩] []
def L9:LZ9:=mkU (JQ n).ok nT 5 Tryz.f289 [Qnr,QlO,Qn5,Qm4,(8,.arr 20),Qmf,QmY] [Qnm,(20,.arr 3 1)] 147730 [xE 0 [(29,.b)]] @Yn n
def Lw:LZ9:=mkU (JQ n).ok nT 12 Tryz.f289 [Qnr,QlO,Qn5,(8,.arr 20),Qmq] [Qnm,(20,.arr 3 1)] 16411 [xE 2 [(68,.b)]] @YZ n
def Fq:EZ9 289:=mkW (JQ n).ok [L9 n n,Lw n n] 289 Tryz.f289 [sL 2,sI,eA [qT,qI,qI,qI,qI]] [eR 20 3 1] [] 0 0 @JL n
def Fz (n:Nat):BZ9:=Xa [] []
def Q21:LZ9:=mkU (Fz n).ok nT 3 Tryz.f290 [Qns,Qmk,Qm1] [] 25 [xE 0 [(7,.b)]] @Vk n
def Q3J:EZ9 290:=mkD (Fz n).ok [Q21 n n] 290 Tryz.f290 0 @S8 n
def Pg:BZ9:=Xa [⟨288,Lv n⟩,⟨289,Fq n⟩,⟨290,Q3J n⟩] []
def FL:LZ9:=mkU (Pg n).ok nT 6 Tryz.f281 [(9,.arr 50022),(23,.arr 50022),(24,tI),(25,tI)] [(50022,.arr 3 1)] 25 [xE 0 [(26,.b)]] @Zz n
def Dh:EZ9 281:=mkD (Pg n).ok [FL n n] 281 Tryz.f281 0 @Gi n
def Sg:BZ9:=Xa [⟨281,Dh n⟩,⟨145,TW n⟩] []
def Eo:LZ9:=mkU (Sg n).ok nT 6 Tryz.f268 [(8,.l 1),(10,.arr 26),Qmg] [(26,.arr 3 1)] 25 [xE 0 [(30,.b)]] @Ws n
def Cp:EZ9 268:=mkD (Sg n).ok [Eo n n] 268 Tryz.f268 0 @Js n
def E8:EZ9 239:=mkD (Xa [⟨145,TW n⟩] []).ok nT 239 Tryz.f239 0 @JN n
def Aw:EZ9 240:=mkD (Xa [⟨146,RN n⟩] []).ok nT 240 Tryz.f240 0 @Vi n
def Lu:EZ9 241:=mkW (Xa [] []).ok nT 241 Tryz.f241 [eA [qL 1,qL 1,qL 5,qL 6]] [eR 10 170 3] [] 0 0 @J5 n
def R3:EZ9 242:=Q8b (mkW (Xa [] []).ok nT 242 Tryz.f242 [eR 1000000 170 3,sI,sI,sI] [eT 0] [(1,eK 1000000 170 3)] 0 0 @Xn n)
def Q02:EZ9 283:=mkD (Xa [] []).ok nT 283 Tryz.f283 0 @NG n
def GZ (n:Nat):BZ9:=Xa [] [(2,⟨[],[],[(3,1003,170,3)],[],[]⟩)]
def RX:LZ9:=mkU (GZ n).ok nT 3 Tryz.f244 [Qn2,(6,.l 3),Qm4,QlP] [(1003,.arr 170 3)] 76 [xE 0 [(9,.b)]] @XP n
def Nz:EZ9 244:=mkW (GZ n).ok [RX n n] 244 Tryz.f244 [sL 3] [eR 1003 170 3] [] 0 0 @Vn n
def JC:EZ9 192:=mkW (Xa [] []).ok nT 192 Tryz.f192 (pT 1000000 235 Qof [sI,sI]) [sI] [] 520191 1048574 @XJ n
def T8:EZ9 191:=mkW (Xa [] []).ok nT 191 Tryz.f191 (pT 1000000 235 Qof [sI,sI,sI,sI,sI]) [eT 0] [] 475135 491519 @Y2 n
def Ps:EZ9 193:=mkW (Xa [⟨192,JC n⟩] []).ok nT 193 Tryz.f193 (pT 1000000 235 Qof [sI]) [sI] [] 520063 1048574 @ZU n
def Yb:BZ9:=Xa [⟨192,JC n⟩,⟨191,T8 n⟩,⟨193,Ps n⟩] []
def KQ:LZ9:=mkU (Yb n).ok nT 4 Tryz.f135 [QlN,Qmm,(13,.l 4),Qmt,Qmn,(26,.l 4),(27,tI),(28,tI)] QoR 282429553573 [xE 2 [(29,.b)]] @Xe n
def KX:LZ9:=mkU (Yb n).ok [KQ n n] 1 Tryz.f135 [QlN,(13,.l 4),Qmt,Qmn] QoR 3486784612 [xE 0 [(16,.b)]] @Qy n
def Hb:LZ9:=mkU (Yb n).ok nT 10 Tryz.f135 [QlN,(56,.l 4),(57,tI),(58,tI)] QoR 3491567581 [xE 4 [(59,.b)]] @Xc n
def Hq:EZ9 135:=mkW (Yb n).ok [KX n n,Hb n n] 135 Tryz.f135 (pT 1000000 235 Qof []) [eT 0] [] 470399 491519 @Yy n
def RR (n:Nat):BZ9:=Xa [] []
def C1:LZ9:=mkU (RR n).ok nT 3 Tryz.f234 [Qmk,(6,.l 3),Qm4,QlP] [] 68 [.f .ret [(2,.cb false)] [] [],xE 0 [(9,.b)]] @U3 n
def N6:EZ9 234:=mkD (RR n).ok [C1 n n] 234 Tryz.f234 0 @Jg n
def RL:BZ9:=Xa [⟨234,N6 n⟩] []
def Cb:LZ9:=mkU (RL n).ok nT 4 Tryz.f194 [Qns,(18,.l 3),QnS,(20,tI)] [] 67 [.f .ret [(4,.cb false)] [] [],xE 0 [(21,.b)]] @U7 n
def A0:EZ9 194:=mkD (RL n).ok [Cb n n] 194 Tryz.f194 0 @HO n
def VP:EZ9 196:=mkW (Xa [] []).ok nT 196 Tryz.f196 (eA [qI,qI,qI]::eA [qI,qI,qI]::pT 1000000 273 [] (eP 1000001 1::sB::eP 1000002 1::pT 1000003 235 [(12,eR 1000004 3 1),(17,eR 1000005 104 3),(18,eR 1000006 67 6)] [])) [eT 0] [] 1073707209 16777199 @Y0 n
def WT:BZ9:=Xa [⟨196,VP n⟩] []
def P1:LZ9:=mkU (WT n).ok nT 5 Tryz.f195 [QlN,Qol,Qnl,Qn6,(17,.l 3),(18,tI),QnS,(30,.l 3),(31,tI),(32,tI)] [Qom,(7,.box [.x,.x,.x]),Qoa,Qoc,Qod,QoT,(1000004,bT 273 []),(1000005,.box [.b]),(1000006,.box Qok)] 366898000880223711 [xE 2 [(33,.b)]] @QH n
def TX:LZ9:=mkU (WT n).ok [P1 n n] 2 Tryz.f195 [QlN,Qol,Qnl,(17,.l 3),(18,tI),QnS] [Qom,Qoa,Qoc,Qod,QoT,(1000004,bT 273 []),(1000005,.box [.b]),(1000006,.box Qok)] 503320819852066 [xE 0 [(20,.b)]] @Xh n
def PG:EZ9 195:=mkW (WT n).ok [TX n n] 195 Tryz.f195 (pT 1000000 235 Qoo (eA [qI,qI,qI,qI]::eF 196 3::pT 1000004 273 [] [eP 1000005 1,sB,eP 1000006 1,eS 1000000])) [eT 0] [] 29876207 8388607 @ZO n
def WH:BZ9:=Xa [⟨194,A0 n⟩,⟨195,PG n⟩] [(5,⟨[],[],[],[],[98015]⟩),(7,⟨[],[],[],[],[98015]⟩)]
def TJ:LZ9:=mkU (WH n).ok nT 2 Tryz.f136 [Qn1,(11,.l 1),Qmi,Qmq] [(1,.box Qok),Qoa,Qob,Qoc,Qod,QoS] 177169 [.f .ret [(2,.cb false)] [(98012,.arr 3 1),(98017,.arr 104 3),(98018,.arr 67 6),(1000000,bT 235 Qoj)] [4,6,7,8,9,10,11,12,13,14,15,16,17,18,19,20,21,5,22],xE 0 [(14,.b)]] @Xw n
def TQ:LZ9:=mkU (WH n).ok nT 8 Tryz.f136 [Qn1,(29,.l 4),(30,tI),(31,tI)] [(1,.box Qok),Qoa,Qoc,Qod,QoT] 387479560 [.f .ret [(2,.cb false)] [(98012,.arr 3 1),(98017,.arr 104 3),(98018,.arr 67 6),(1000000,bT 235 Qoj)] [4,5,6,7,8,9,10,11,12,13,14,15,16,17,18,19,20,21,22],xE 2 [(32,.b)]] @X8 n
def TY:EZ9 136:=mkW (WH n).ok [TJ n n,TQ n n] 136 Tryz.f136 (pT 1000000 235 Qof []) [sB] [(17,sL 4)] 483311 1048574 @ZA n
def JB:EZ9 192:=mkW (Xa [] []).ok nT 192 Tryz.f192 (pT 1000000 235 Qoo [sI,sI]) [sI] [] 520191 1048574 @QY n
def RH:EZ9 198:=mkD (Xa [] []).ok nT 198 Tryz.f198 0 @Yh n
def DY:EZ9 199:=mkD (Xa [] []).ok nT 199 Tryz.f199 0 @Ux n
def G5:EZ9 197:=mkW (Xa [] []).ok nT 197 Tryz.f197 (pT 1000000 235 Qoo [sI,sI,sI,sI,sI,sI]) [eT 0] [] 262143 262143 @Xb n
def Px:EZ9 193:=mkW (Xa [⟨192,JB n⟩] []).ok nT 193 Tryz.f193 (pT 1000000 235 Qoo [sI]) [sI] [] 520063 1048574 @Vd n
def QX:BZ9:=Xa [⟨192,JB n⟩,⟨198,RH n⟩,⟨199,DY n⟩,⟨197,G5 n⟩,⟨193,Px n⟩] []
def GO:LZ9:=mkU (QX n).ok nT 4 Tryz.f137 [QlN,Qmm,QmB,(20,.l 4),(21,tI),Qmu,(28,.l 4),(29,tI),(30,tI)] [(3,.box Qnf),Qoa,Qoc,Qod,QoT] 7625600931295 [xE 2 [(31,.b)]] @Qs n
def GS:LZ9:=mkU (QX n).ok [GO n n] 1 Tryz.f137 [QlN,(20,.l 4),(21,tI),Qmu] QoU 1162262002 [xE 0 [(23,.b)]] @QD n
def GR:LZ9:=mkU (QX n).ok nT 14 Tryz.f137 [QlN,(84,.l 7),(85,tI),(86,tI)] QoU 535 [xE 4 [(87,.b)]] @QF n
def GU:LZ9:=mkU (QX n).ok nT 20 Tryz.f137 [QlN,(119,.l 4),(120,tI),(121,tI)] QoU 1594858 [xE 6 [(122,.b)]] @QE n
def GW:LZ9:=mkU (QX n).ok nT 25 Tryz.f137 [QlN,(146,.l 5),(147,tI),(148,tI)] QoU 535 [xE 8 [(149,.b)]] @QG n
def Kn:EZ9 137:=mkW (QX n).ok [GS n n,GR n n,GU n n,GW n n] 137 Tryz.f137 (pT 1000000 235 Qoo []) [eT 0] [] 239743 262143 @Yj n
def Uf:EZ9 235:=mkW (Xa [] []).ok nT 235 Tryz.f235 [eA [qI,qI,qI],eA [qI,qI,qI],eP 1000000 1,eM 1000001 277] [eT 0] [(2,eH 1000001)] 62 0 @Xr n
def WW:BZ9:=Xa [⟨235,Uf n⟩] []
def TZ:LZ9:=mkU (WW n).ok nT 5 Tryz.f195 [QlN,(2,.fn 235 [.ptr 1000004 0]),Qnl,Qn6,(17,.l 3),(18,tI),QnS,(30,.l 3),(31,tI),(32,tI)] [Qom,(7,.box [.x,.x,.x]),Qoa,Qoc,Qod,QoT,(1000004,.box [.arr 1000005]),(1000005,.mp 277)] 3706040378478474 [xE 2 [(33,.b)]] @QW n
def P2:LZ9:=mkU (WW n).ok [TZ n n] 2 Tryz.f195 [QlN,(2,.fn 235 [.ptr 1000004 0]),Qnl,(17,.l 3),(18,tI),QnS] [Qom,Qoa,Qoc,Qod,QoT,(1000004,.box [.arr 1000005]),(1000005,.mp 277)] 5115112716613 [xE 0 [(20,.b)]] @Xi n
def Pv:EZ9 195:=mkW (WW n).ok [P2 n n] 195 Tryz.f195 (pT 1000000 235 Qoo [eA [qI,qI,qI,qI],eF 235 1,eP 1000004 1,eM 1000005 277]) [eT 0] [(22,eH 1000005)] 4710399 524287 @ZP n
def Wy:BZ9:=Xa [⟨195,Pv n⟩] []
def JX:LZ9:=mkU (Wy n).ok nT 3 Tryz.f200 [QlN,QlO,Qmm,Qn6,(14,.l 4),Qmn,QlQ] [(7,.box [.arr 10]),(10,.mp 277),Qoa,Qoc,Qod,QoT] 10460353891 [xE 0 [(17,.b)]] @Qu n
def G9:EZ9 200:=mkW (Wy n).ok [JX n n] 200 Tryz.f200 (pT 1000000 235 Qoo [sI,sI]) [eM 10 277] [] 483327 1048574 @XU n
def H5 (n:Nat):BZ9:=Xa [] [(2,⟨[],[],[(5,1005,170,3)],[],[]⟩)]
def Np:LZ9:=mkU (H5 n).ok nT 3 Tryz.f202 [(1,.arr 1000000),QnD,(8,.l 3),Qmf,QmY] [(1005,.arr 170 3),(1000000,.mp 277)] 157 [xE 0 [(11,.b)]] @XW n
def Mw:EZ9 202:=Q8b (mkW (H5 n).ok [Np n n] 202 Tryz.f202 [sL 3,eM 1000000 277] [eR 1005 170 3] [] 0 0 @Uh n)
def KF:EZ9 275:=mkD (Xa [] []).ok nT 275 Tryz.f275 0 @UQ n
def RY:EZ9 276:=mkW (Xa [] [(2,⟨[],[],[(8,96001,312,2)],[],[]⟩)]).ok nT 276 Tryz.f276 [eN,sI,sI,sI] [eR 96001 312 2] [] 0 0 @Jm n
def Q0c:EZ9 264:=mkW (Xa [⟨275,KF n⟩,⟨40,LA n⟩,⟨276,RY n⟩] [(2,⟨[],[],[(6,50016,312,2)],[],[]⟩)]).ok nT 264 Tryz.f264 [sI,sI,sI] [eT 2,eR 97001 312 2,sI] [] 0 0 @P7 n
def RC:BZ9:=Xa [⟨275,KF n⟩] []
def DT:LZ9:=mkU (RC n).ok nT 5 Tryz.f266 [Qns,Qm2,(11,.l 2),Qmi,Qmq] [] 205 [.f .ret [(4,.cb false)] [] [],xE 0 [(14,.b)]] @U6 n
def NV:EZ9 266:=mkD (RC n).ok [DT n n] 266 Tryz.f266 0 @Gm n
def Ry:BZ9:=Xa [⟨275,KF n⟩,⟨266,NV n⟩] []
def Ci:LZ9:=mkU (Ry n).ok nT 4 Tryz.f277 [Qns,(10,.l 1),Qmg,Qmi] [] 67 [.f .ret [(4,.ci .i64 1)] [] [],xE 0 [(13,.b)]] @WZ n
def Aj:EZ9 277:=mkD (Ry n).ok [Ci n n] 277 Tryz.f277 0 @HU n
def Wo:EZ9 287:=mkW (Xa [] [(6,⟨[],[],[(4,96001,312,2)],[],[]⟩)]).ok nT 287 Tryz.f287 [eN,sI] [eR 96001 312 2] [] 0 0 @QC n
def X2:BZ9:=Xa [⟨287,Wo n⟩] []
def Wj:LZ9:=mkU (X2 n).ok nT 3 Tryz.f279 [Qn0,Qmk,(9,.l 1),QmY,Qmg] [] 204 [xE 0 [(12,.b)]] @Qf n
def Wk:LZ9:=mkU (X2 n).ok nT 11 Tryz.f279 [(6,.arr 50024),(25,.l 1),(26,tI),(27,tI)] [(50024,.arr 312 2)] 76 [xE 2 [(28,.b)]] @Qg n
def WI:EZ9 279:=mkW (X2 n).ok [Wj n n,Wk n n] 279 Tryz.f279 [sL 1] [eR 50024 312 2] [] 0 0 @QI n
def Sj:EZ9 120:=mkD (Xa [⟨176,Nh n⟩] []).ok nT 120 Tryz.f120 0 @VZ n
def P0:EZ9 286:=mkD (Xa [⟨120,Sj n⟩] []).ok nT 286 Tryz.f286 0 @UR n
def X6:BZ9:=Xa [⟨286,P0 n⟩] []
def WC:LZ9:=mkU (X6 n).ok nT 4 Tryz.f298 [QnX,QlO,Qmm,(3,.fn 286 []),QlP,Qmf] Qoq 217 [xE 2 [(34,.b)]] @Qh n
def Ww:LZ9:=mkU (X6 n).ok [WC n n] 1 Tryz.f298 [QnX,QlO,Qmm,(3,.fn 286 []),QlP] Qoq 76 [xE 0 [(14,.b)]] @Q7 n
def WP:EZ9 298:=Q8b (mkW (X6 n).ok [Ww n n] 298 Tryz.f298 [eR 1000000 312 2,sI,sI,eF 286 0] [eT 0] [(1,eK 1000000 312 2)] 0 0 @Xk n)
def Yq:BZ9:=Xa [⟨298,WP n⟩] []
def UU:LZ9:=mkU (Yq n).ok nT 2 Tryz.f292 [QnX,QlO,Qmm,Qmk,(4,.fn 286 []),(10,.cb true),(11,.cb true)] Qoq 40 [.f .ret [] [(1000000,.arr 312 2)] [0]] @Xz n
def V6:EZ9 292:=Q8b (mkW (Yq n).ok [UU n n] 292 Tryz.f292 [eR 1000000 312 2,sI,sI,sI,eF 286 0] [eT 0] [(1,eK 1000000 312 2)] 0 0 @XK n)
def Zn:EZ9 285:=Q8b (mkW (Xa [⟨132,Tk n⟩,⟨292,V6 n⟩] []).ok nT 285 Tryz.f285 [eR 1000000 312 2,eF 286 0] [eT 0] [(1,eK 1000000 312 2)] 0 0 @Qv n)
def Tz:BZ9:=Xa [⟨285,Zn n⟩] [(3,⟨[],[],[(3,1003,312,2)],[],[]⟩)]
def L3:LZ9:=mkU (Tz n).ok nT 4 Tryz.f278 [Qn2,(9,.arr 1000000),QmY,Qmg] [(1003,.arr 312 2),Qor] 52 [xE 0 [(12,.b)]] @X7 n
def FU:EZ9 278:=Q8b (mkW (Tz n).ok [L3 n n] 278 Tryz.f278 [eR 1000000 312 2] [eR 1003 312 2] [(1,eK 1000000 312 2)] 0 0 @Hv n)
def BH:EZ9 265:=mkW (Xa [⟨277,Aj n⟩,⟨279,WI n⟩,⟨278,FU n⟩] [(3,⟨[],[],[(6,50021,312,2)],[],[]⟩)]).ok nT 265 Tryz.f265 [sI,sL 2,sL 2] [eT 2,eR 97001 312 2,sI] [] 0 0 @T6 n
def Gc:EZ9 263:=mkW (Xa [⟨264,Q0c n⟩,⟨265,BH n⟩] []).ok nT 263 Tryz.f263 [eA [qI,qI,qI],eA [qI,qI,qI],eP 1000000 1,sI,eP 1000001 1,eR 1000002 312 2] [eT 0] [] 9 1 @Z1 n
def HD:BZ9:=Xa [⟨263,Gc n⟩] []
def Mu:LZ9:=mkU (HD n).ok nT 0 Tryz.f262 [(0,.l 3),(1,.l 3),(2,.fn 263 [.ptr 1000000 0,.ptr 1000001 0])] [(98040,.arr 312 2),(1000000,.box [tI]),(1000001,.box [.arr 98040])] 53 [xE 0 [(15,.b)]] @Qo n
def MZ:EZ9 262:=mkW (HD n).ok [Mu n n] 262 Tryz.f262 [sL 3,sL 3,eF 263 2,eP 1000000 1,sI,eP 1000001 1,eR 1000002 312 2] [eT 0] [] 0 1 @KC n
def Lb:EZ9 236:=mkW (Xa [⟨234,N6 n⟩,⟨262,MZ n⟩] [(3,⟨[],[],[(6,50024,312,2)],[],[]⟩),(6,⟨[],[],[(6,50024,312,2)],[],[]⟩),(7,⟨[],[],[],[(8,0,2320,312,2)],[]⟩)]).ok nT 236 Tryz.f236 [sI,sL 3,sL 3] [eT 2,eR 97001 312 2,sI] [] 0 0 @Je n
def Cs:EZ9 280:=mkD (Xa [] []).ok nT 280 Tryz.f280 0 @PE n
def RK:BZ9:=Xa [⟨280,Cs n⟩] []
def DX:LZ9:=mkU (RK n).ok nT 3 Tryz.f267 [Qmk,(6,.l 2),Qm4,QlP] [] 68 [xE 0 [(9,.b)]] @ZH n
def Ao:EZ9 267:=mkD (RK n).ok [DX n n] 267 Tryz.f267 0 @SV n
def Bx:EZ9 237:=mkD (Xa [⟨266,NV n⟩,⟨267,Ao n⟩] []).ok nT 237 Tryz.f237 0 @Tc n
def GJ:BZ9:=Xa [⟨236,Lb n⟩,⟨237,Bx n⟩] [(8,⟨[],[],[],[],[50018]⟩),(11,⟨[],[],[(11,1011,112,2)],[],[]⟩)]
def Fw:LZ9:=mkU (GJ n).ok nT 12 Tryz.f201 [Qns,(11,.arr 1011),(65,.l 2),(66,tI),(67,tI)] [(1011,.arr 112 2)] 229 [xE 0 [(68,.b)]] @Zp n
def LX:LZ9:=mkU (GJ n).ok nT 12 Tryz.f201 [Qns,(11,.arr 1011),(65,.arr 50018),(66,tI),(67,tI)] [(1011,.arr 112 2),(50018,.arr 312 2)] 157 [xE 0 [(68,.b)]] @YC n
def EN:EZ9 201:=mkD (GJ n).ok [orL (LX n n) (Fw n n)] 201 Tryz.f201 0 @WB n
def XQ:BZ9:=Xa [⟨200,G9 n⟩,⟨202,Mw n⟩,⟨201,EN n⟩,⟨198,RH n⟩,⟨197,G5 n⟩] []
def GL:LZ9:=mkU (XQ n).ok nT 12 Tryz.f138 [QlN,Qmk,Qm1,Qmt,Qmn,(63,.l 2),(64,tI),(65,tI)] QoU 41152 [xE 4 [(66,.b)]] @Qz n
def Gz:LZ9:=mkU (XQ n).ok [GL n n] 5 Tryz.f138 [QlN,Qmk,Qm1,Qmt,Qmn] QoU 11622793282 [.f .ret [(2,tI)] [(98012,.arr 3 1),(98017,.arr 104 3),(98018,.arr 67 6),(1000000,bT 235 Qoj)] [0,5,6,0,8,9,10,11,12,13,14,15,16,17,18,19,20,21,22,23],xE 2 [(26,.b)]] @QP n
def Gv:LZ9:=mkU (XQ n).ok [Gz n n] 2 Tryz.f138 [QlN,Qmt,Qmn] QoU 1291421482 [.f .ret [(2,tI)] [(98012,.arr 3 1),(98017,.arr 104 3),(98018,.arr 67 6),(1000000,bT 235 Qoj)] [0,3,4,0,6,7,8,9,10,11,12,13,14,15,16,17,18,19,20,21],xE 0 [(16,.b)]] @Qp n
def GV:EZ9 138:=mkW (XQ n).ok [Gv n n] 138 Tryz.f138 (pT 1000000 235 Qoo []) [sI] [] 221167 524286 @Yd n
def EF:EZ9 203:=mkD (Xa [] []).ok nT 203 Tryz.f203 0 @Gg n
def RP:BZ9:=Xa [⟨203,EF n⟩] []
def Co:LZ9:=mkU (RP n).ok nT 4 Tryz.f139 [Qn1,(26,.l 6),(27,tI),(28,tI)] [(1,.box QnV)] 373 [.f .ret [(2,.cb false)] [] [],xE 0 [(29,.b)]] @U5 n
def Bp:EZ9 139:=mkD (RP n).ok [Co n n] 139 Tryz.f139 0 @Tf n
def NW:BZ9:=Xa [⟨139,Bp n⟩] []
def BL:LZ9:=mkU (NW n).ok nT 4 Tryz.f82 [QmA,(18,.l 1),QnS,(20,tI)] [(2,.box QnV)] 49 [.f .ret [(4,.cb false)] [] [],xE 0 [(21,.b)]] @V3 n
def AN:EZ9 82:=mkD (NW n).ok [BL n n] 82 Tryz.f82 0 @G1 n
def Ga (n:Nat):BZ9:=Xa [] []
def E2:LZ9:=mkU (Ga n).ok nT 3 Tryz.f83 [Qn1,(3,.arr 10),Qmi,Qmq] [Qnc,(10,.arr 3 1)] 118105 [xE 0 [(14,.b)]] @GB n
def Fx:LZ9:=mkU (Ga n).ok nT 8 Tryz.f83 [(3,.arr 10),(21,.l 4),Qmu,(23,tI)] [(10,.arr 3 1)] 76 [xE 2 [(24,.b)]] @Gk n
def Sl:EZ9 83:=mkD (Ga n).ok [E2 n n,Fx n n] 83 Tryz.f83 215 @Zj n
def We (n:Nat):BZ9:=Xa [] [(1,⟨[],[],[],[(8,0,1080,3,1)],[]⟩)]
def Jv:LZ9:=mkU (We n).ok nT 2 Tryz.f117 [(2,.ptr 1000000 0),(3,.ptr 1000002 0),(4,.ptr 1000003 0),(5,.ptr 1000004 0),Qn9,Qmf] [(8,.box [.arr 1080,.b]),(1080,.arr 3 1),(98000,.arr 4 1),(98160,.arr 125 2),(1000000,.box [.arr 98000]),(1000002,.box [.l 1]),(1000003,bT 36 []),(1000004,.box [.arr 98160])] 177464 [xE 0 [(17,.b)]] @XB n
def JP:EZ9 117:=mkW (We n).ok [Jv n n] 117 Tryz.f117 (sI::sB::eP 1000000 1::eR 1000001 4 1::eP 1000002 1::sL 1::pT 1000003 36 [] [eP 1000004 1,eR 1000005 125 2]) [eT 0] [] 3568 1022 @YD n
def GT:EZ9 119:=mkD (Xa [⟨120,Sj n⟩] []).ok nT 119 Tryz.f119 0 @Vb n
def QQ:BZ9:=Xa [⟨119,GT n⟩] []
def ZK:LZ9:=mkU (QQ n).ok nT 4 Tryz.f221 [QnX,QlO,Qmm,(3,.fn 119 []),QlP,Qmf] Qos 217 [xE 2 [(34,.b)]] @QS n
def ZI:LZ9:=mkU (QQ n).ok [ZK n n] 1 Tryz.f221 [QnX,QlO,Qmm,(3,.fn 119 []),QlP] Qos 76 [xE 0 [(14,.b)]] @QT n
def ZN:EZ9 221:=Q8b (mkW (QQ n).ok [ZI n n] 221 Tryz.f221 [eR 1000000 125 2,sI,sI,eF 119 0] [eT 0] [(1,eK 1000000 125 2)] 0 0 @XS n)
def Y3:BZ9:=Xa [⟨221,ZN n⟩] []
def WU:LZ9:=mkU (Y3 n).ok nT 2 Tryz.f175 [QnX,QlO,Qmm,Qmk,(4,.fn 119 []),(10,.cb true),(11,.cb true)] Qos 40 [.f .ret [] [(1000000,.arr 125 2)] [0]] @Y4 n
def Uk:EZ9 175:=Q8b (mkW (Y3 n).ok [WU n n] 175 Tryz.f175 [eR 1000000 125 2,sI,sI,sI,eF 119 0] [eT 0] [(1,eK 1000000 125 2)] 0 0 @Ym n)
def Yv:EZ9 118:=Q8b (mkW (Xa [⟨132,Tk n⟩,⟨175,Uk n⟩] []).ok nT 118 Tryz.f118 [eR 1000000 125 2,eF 119 0] [eT 0] [(1,eK 1000000 125 2)] 0 0 @Xo n)
def WN:BZ9:=Xa [⟨83,Sl n⟩,⟨117,JP n⟩,⟨118,Yv n⟩] [(11,⟨[],[],[],[(7,0,1070,125,2)],[]⟩),(14,⟨[],[],[],[(7,0,2280,125,2)],[]⟩)]
def RW:LZ9:=mkU (WN n).ok nT 4 Tryz.f74 [Qn1,QmB,(4,.arr 17),(19,.l 4),(20,tI),(21,tI)] [Qnc,(3,.box [.l 1]),(17,.arr 4 1)] 1062904 [xE 0 [(22,.b)]] @VI n
def RV:LZ9:=mkU (WN n).ok nT 12 Tryz.f74 [Qn1,(4,.arr 17),Qn6,Qn9,Qou,(37,tI),(38,tI)] [Qnc,(3,.box [.l 1]),(7,.box [.arr 1070]),(8,.box [.arr 33]),(17,.arr 4 1),(33,.arr 4 1),(1070,.arr 125 2)] 4489918 [xE 2 [(39,.b)]] @WM n
def RZ:LZ9:=mkU (WN n).ok nT 18 Tryz.f74 [Qn6,Qn9,Qou,(52,tI),(53,tI)] [Qnc,(3,.box [.l 1]),(7,.box [.arr 1070]),(8,.box [.arr 33]),(33,.arr 4 1),(1070,.arr 125 2)] 1478419 [xE 4 [(54,.b)]] @WL n
def Ny:EZ9 74:=mkD (WN n).ok [RW n n,RV n n,RZ n n] 74 Tryz.f74 215 @XH n
def V7:EZ9 205:=mkW (Xa [⟨40,LA n⟩] []).ok nT 205 Tryz.f205 (pT 1000000 188 Qov [sI]) [sI] [] 2043903 4194302 @Xp n
def VQ:EZ9 144:=mkW (Xa [⟨205,V7 n⟩] []).ok nT 144 Tryz.f144 (pT 1000000 188 Qov [sI,sI]) [eT 2,sI,sB] [] 1126015 8388604 @X1 n
def Jt:EZ9 143:=mkW (Xa [⟨205,V7 n⟩] []).ok nT 143 Tryz.f143 (pT 1000000 188 Qov [sI,sI]) [sI] [] 1781759 4194302 @Xm n
def Wz:BZ9:=Xa [⟨144,VQ n⟩,⟨143,Jt n⟩] []
def Ts:LZ9:=mkU (Wz n).ok nT 8 Tryz.f140 [QlN,Qm2,Qm4,(15,.l 1),QlQ,(17,tI),(30,tI),(31,tI)] [Qoy,Qoz,QoV] 10554668572604 [xE 2 [(32,.b)]] @Xy n
def Tt:LZ9:=mkU (Wz n).ok [Ts n n] 5 Tryz.f140 [QlN,Qm2,(15,.l 1),QlQ,(17,tI)] [Qoy,Qoz,QoV] 390913650842 [xE 0 [(18,.b)]] @X5 n
def P3:EZ9 140:=mkW (Wz n).ok [Tt n n] 140 Tryz.f140 (pT 1000000 188 Qov [eA [qL 1,qB]]) [sI] [] 1126015 4194302 @ZC n
def VH:EZ9 141:=mkW (Xa [] []).ok nT 141 Tryz.f141 (sI::sI::sI::eP 1000000 1::pT 1000001 188 [(18,eR 1000002 3 1),(20,eR 1000003 59 5)] [eP 1000004 1,sI,eP 1000005 1,sI]) [eT 0] [] 8388600 7340031 @Q9 n
end Go.Vx
namespace Go.Vx
section
variable {R:Type}
theorem Q4a (x:Int):0<=IntKind.wrap .u64 x:=by
 have:=Int.emod_nonneg x (show (18446744073709551616:Int)≠0 by decide);simpa [IntKind.wrap,IntKind.bits,IntKind.signed] using this
theorem Qc2 {x:Int} (a:0<=x) (b:x<18446744073709551616):IntKind.wrap .u64 x=x:=by
 have:=Int.emod_eq_of_lt a b;simpa [IntKind.wrap,IntKind.bits,IntKind.signed] using this
def pick (v m:Int):Int:=(IntKind.wrap .u64 v).tmod m
theorem Mo (v:Int) {m:Int} (h:0<m):0<=pick v m/\pick v m<m:=by
 unfold pick;rw [Int.tmod_eq_emod_of_nonneg (Q4a v)];exact ⟨Int.emod_nonneg _ QoW,Int.emod_lt_of_pos _ h⟩
theorem Qgt (n:Nat) (v:Int) {m:Int} (h:0<m) (hm:m<=9223372036854775807) (K:Int->oP R):Su n v m K=K (pick v m):=by
 unfold Su;rw [Qc2 (x:=m) QoW QoW,NQ QoW];simp -implicitDefEqProofs only [Q0];have:=Mo v h;unfold pick at this ⊢;rw [Q1v QoW QoW]
theorem QbQ (n:Nat) {l:List Int} (hl:l.length<=9223372036854775807) {i:Nat} (hi:i<=l.length) {m:Int} (h:0<m) (hm:m<=9223372036854775807) :
  ∃ (v:Int) (j:Nat),0<=v/\v<m/\j<=l.length/\∀ (R:Type) (K:Int->Int->oP R),Q5 n (encI l) i m K=K v j:=by
 by_cases ac:i<l.length
 ·have hg:=List.getElem?_eq_getElem ac;refine ⟨pick l[i] m,i+1,(Mo _ h).1,(Mo _ h).2,QoW,fun R K=>?_⟩;unfold Q5;rw [Q8 (by simp [QZ];omega),Q1v (x:=(i:Int)+1) QoW QoW,Q1v QoW QoW];rw [show (i:Int)+1-1=(i:Int) by omega,HW hg];simp -implicitDefEqProofs only [Q0,List.getElem?_cons_zero,Q2,Qgt n _ h hm];rfl
 ·refine ⟨0,i,QoW,h,hi,fun R K=>?_⟩;unfold Q5;rw [QR (by simp [QZ];omega)]
end
def OkP {R:Type} (P:R->Prop) (E:oP R):Prop:=∃ v,E=some v/\P v
instance {R:Type}:Membership (oP R) (R->Prop):=⟨fun P E=>OkP P E⟩
theorem okI {R:Type} {P:R->Prop} {v:R} (h:P v):some v∈P:=⟨v,rfl,h⟩
theorem okB {R S:Type} {P:S->Prop} {E:oP R} {z:R} {f:R->oP S} (h:E∈(fun v=>f v∈P:R->Prop)):gb true E z f∈P:=by
 obtain ⟨v,e,h⟩:=h;rw [e];exact h
theorem Vt {R:Type} {n:Nat} {l:List Int} (hl:l.length<=9223372036854775807) {i:Nat} (hi:i<=l.length) {m:Int} (h:0<m) (hm:m<=9223372036854775807) {z:Int×Int} {f:Int×Int->oP R} {P:R->Prop}
  (H:∀ (v:Int) (j:Nat),0<=v->v<m->j<=l.length->f (v,(j:Int))∈P) :
  gb true (Q5 n (encI l) (i:Int) m Tu2) z f∈P:=by
 obtain ⟨v,j,c,d,hj,e⟩:=QbQ n hl hi h hm;rw [e];exact H v j c d hj
structure Num (a b c:Int):Prop where
 a0:2<=a
 a1:a<=10
 b0:5000<=b
 b1:b<=35000
 c0 : -10<=c
 c1:c<=10
theorem Q6 {x:Int} (a : -9223372036854775808<=x) (b:x<=9223372036854775807):wJ x=x:=by
 simp only [IntKind.wrap_i64];omega
theorem Qfw {R:Type} {n:Nat} {l:List Int} (hl:l.length<=9223372036854775807) {i:Nat} (hi:i<=l.length) {nm:List UInt8} {st:Int} {z:List UInt8×Int×Int×Int×Int×Int} {f:List UInt8×Int×Int×Int×Int×Int->oP R} {P:R->Prop}
  (H:∀ (a b c:Int) (j:Nat),Num a b c->j<=l.length->f (nm,a,b,c,st,(j:Int))∈P) :
  gb true (Wv n (encI l) (i:Int) nm st Tu6) z f∈P:=by
 obtain ⟨v,j,t,u,hj,e⟩:=QbQ n hl hi (show (0:Int)<9 by decide) QoX;obtain ⟨d,y,g0,g1,p,e2⟩:=QbQ n hl hj (show (0:Int)<7 by decide) QoX;obtain ⟨q,j3,k0,k1,r,s⟩:=QbQ n hl p (show (0:Int)<21 by decide) QoX;unfold Wv;rw [e,Q0,e2,Q0,s,Q0,Q0];rw [Q6 (x:=2+v) QoW QoW,Q6 (x:=5000*d) QoW QoW,Q6 (x:=5000+5000*d) QoW QoW,Q6 (x:=q-10) QoW QoW];exact H _ _ _ _ ⟨QoW,QoW,QoW,QoW,QoW,QoW⟩ r
theorem two {v:Int} (a:0<=v) (b:v<2):v=0\/v=1:=QoW
theorem Bb {R:Type} (n:Nat) (a:List UInt8) (d:Nat) (hd:d<10) (ha:a.length<=100) (K:List UInt8->oP R):Vw n a (d:Int) K=K (a++[UInt8.ofNat (48+d)]):=by
 have:∀ d:Fin 10,∃ q,slB (List.length (bs [48,49,50,51,52,53,54,55,56,57])) (some (Int.tmod (d.val:Int) (10:Int))) (some (wJ ((Int.tmod (d.val:Int) (10:Int))+(1:Int))))=some q/\cut (bs [48,49,50,51,52,53,54,55,56,57]) q=[UInt8.ofNat (48+d.val)]:=by
  intro d
  match d with
  |0=>exact ⟨_,rfl,rfl⟩
  |1=>exact ⟨_,rfl,rfl⟩
  |2=>exact ⟨_,rfl,rfl⟩
  |3=>exact ⟨_,rfl,rfl⟩
  |4=>exact ⟨_,rfl,rfl⟩
  |5=>exact ⟨_,rfl,rfl⟩
  |6=>exact ⟨_,rfl,rfl⟩
  |7=>exact ⟨_,rfl,rfl⟩
  |8=>exact ⟨_,rfl,rfl⟩
  |9=>exact ⟨_,rfl,rfl⟩
 obtain ⟨q,b,h2⟩:=this ⟨d,hd⟩;unfold Vw;simp only at b h2;rw [b];have hz:nz (10:Int)=some ():=rfl;rw [hz,Q0,Q0,Q0,h2];have hs:Q9I (a.length+([UInt8.ofNat (48+d)]:List UInt8).length)=some ():=by
  unfold Q9I;rw [show Nat.ble (a.length+([UInt8.ofNat (48+d)]:List UInt8).length) 9223372036854775807=true from Nat.ble_eq_true_of_le QoZ];rfl
 rw [hs,Q0]
theorem XE {k:Nat} (h:k<=100000):Y1 k=some ():=by
 unfold Y1;rw [show Nat.ble k 140737488355328=true from Nat.ble_eq_true_of_le QoW];rfl
theorem QjB {R:Type} {n:Nat} {e:LL} {s:List UInt8} {a b c d:Int} {z:Int×LL} {f:Int×LL->oP R} {P:R->Prop} (k:Nat) (hk:e.length=k) (h:k<=1000)
  (H:f ((k:Int),e++[[D.str s,D.int .i64 a,D.int .i64 b,D.int .i64 c,D.int .i64 d]])∈P) :
  gb true (Z8 n e s a b c d Tu2) z f∈P:=by
 unfold Z8;rw [XE QoZ,Q0,Q0];have hl:(e++[[D.str s,D.int .i64 a,D.int .i64 b,D.int .i64 c,D.int .i64 d]]).length=k+1:=by simp [hk]
 rw [hl,Q6 (x:=((k+1:Nat):Int)-1) QoW QoW,show ((k+1:Nat):Int)-1=(k:Int) by omega];exact H
theorem Qkd {R:Type} {n:Nat} {e:LL} {s:List UInt8} {a b c d:Int} {z:Int×LL} {f:Int×LL->oP R} {P:R->Prop} (k:Nat) (hk:e.length=k) (h:k<=1000) (hn:Num a b c)
  (H:f ((k:Int),e++[[D.str s,D.int .i64 (a+2),D.int .i64 b,D.int .i64 c,D.int .i64 d]])∈P) :
  gb true (Z8 n e s (wJ (a+2)) b c d Tu2) z f∈P:=by
 have j:=hn.a0;have l:=hn.a1;rw [Q6 (x:=a+2) QoW QoW];exact QjB k hk h H
def QjC (i k:Nat):List UInt8:=bs [84]++[UInt8.ofNat (48+i)]++[UInt8.ofNat (48+k)]
def nmL (i k:Nat):List UInt8:=bs [76]++[UInt8.ofNat (48+i)]++[UInt8.ofNat (48+k)]
abbrev N4:=Int×Int×Int
def secT (i k:Nat) (x:N4):List D:=[D.str (QjC i k),Q4 (x.1+2),Q4 x.2.1,Q4 x.2.2,Q4 i]
def secL (i k:Nat) (x:N4):List D:=[D.str (nmL i k),Q4 x.1,Q4 x.2.1,Q4 x.2.2,Q4 (-1)]
def Yw (f:Nat->N4->List D):Nat->List N4->LL
 |k+1,x::y=>f (k+1) x::Yw f k y
 |_,_=>[]
def ups (k:Nat):Nat->List Nat
 |0=>[]
 |c+1=>k::ups (k+1) c
def ZQ (l:List Nat):LL:=l.map fun k=>[Q4 (k:Nat)]
def KP:List N4->Prop
 |[]=>True
 |x::r=>Num x.1 x.2.1 x.2.2/\KP r
section
variable {R:Type} {n:Nat} {l:List Int} (hl:l.length<=9223372036854775807) {P:R->Prop}
include hl
theorem Qik {i c k j m:Nat} {tl S:LL} {k0:Int->Bool->LL->LL->Int->oP R}
  (hi:i<10) (hc:c+1<10) (hk:S.length=k) (e:k<=500) (ht:tl.length<=500) (hj:j<=l.length)
  (H:∀ (x:N4) (j:Nat),Num x.1 x.2.1 x.2.2->j<=l.length->JT n i (encI l) k0 m (c:Int) (tl++[[Q4 k]]) (S++[secT i (c+1) x]) (j:Int)∈P) :
  JT n (i:Int) (encI l) k0 (m+1) ((c+1:Nat):Int) tl S (j:Int)∈P:=by
 unfold JT;rw [QR QoY,Bb n _ i hi QoX,Q0,Bb n _ (c+1) hc QoY,Q0];refine Qfw hl hj fun a b d j hn hj=>?_
 dsimp only;refine Qkd k hk QoW hn ?_;dsimp only;rw [XE QoZ,Q0,Q6 (x:=((c+1:Nat):Int)-1) QoW QoW,show ((c+1:Nat):Int)-1=(c:Int) by omega];exact H (a,b,d) j hn hj
theorem Qez {i c k j m:Nat} {S:LL} {k0:Int->Bool->LL->LL->Int->oP R}
  (hi:i<10) (hc:c=1\/c=2) (hk:S.length=k) (a:k<=400) (hj:j<=l.length)
  (H:∀ (x:List N4) (j:Nat),KP x->x.length=c->j<=l.length->k0 0 false (ZQ (ups k c)) (S++Yw (secT i) c x) (j:Int)∈P) :
  JT n (i:Int) (encI l) k0 (m+3) (c:Int) [] S (j:Int)∈P:=by
 rcases hc with rfl | rfl
 ·refine Qik hl (c:=0) hi QoW hk QoW QoY hj fun x j hx hj=>?_
  exact H [x] j ⟨hx,trivial⟩ rfl hj
 ·refine Qik hl (c:=1) hi QoW hk QoW QoY hj fun x j hx hj=>?_
  refine Qik hl (c:=0) (k:=k+1) hi QoW (by simp [hk]) QoW QoY hj fun y j hy hj=>?_
  have:=H [x,y] j ⟨hx,hy,trivial⟩ rfl hj;simp only [Yw,ups,ZQ,List.map_cons,List.map_nil] at this;show k0 0 false _ (S++[secT i 2 x]++[secT i 1 y]) (j:Int)∈P;rw [List.append_assoc S];exact this
end
def Q74 (a b:Int) (p q:Int):List D:=[Q4 a,Q4 1,Q4 b,Q4 0,Q4 p,Q4 q]
def lk (ac:Bool) (x t:Int) (p q:Int):List D:=bif ac then Q74 x t p q else Q74 t x p q
def nmP (k:Nat):List D:=[D.str (bs [80]++[UInt8.ofNat (48+k)])]
def Q3u (x:Nat) (ac:Bool) (aj k c:Nat):LL:=bif Nat.beq c 2 then [lk ac x k aj 0,lk ac x ((k+1:Nat):Int) aj 1] else [lk ac x k (-1) 0]
def Q2N (ac c:Nat):LL:=bif Nat.beq c 2 then [nmP ac] else []
section
variable {R:Type} {n:Nat} {q2 q4:LL}
theorem QeO {a b c d:Int} (h:q4.length<=1000) (K:LL->oP R):Y7 n q4 a b c d K=K (q4++[Q74 a b c d]):=by
 unfold Y7;rw [XE QoZ,Q0];rfl
theorem Qfo {k:Nat} (hk:q2.length=k) (h:k<10) (K:Int->LL->oP R):Zl n q2 K=K (k:Int) (q2++[nmP k]):=by
 unfold Zl;rw [hk,Bb n _ k h QoX,Q0,XE QoZ,Q0];have hl:(q2++[[D.str (bs [80]++[UInt8.ofNat (48+k)])]]).length=k+1:=by simp [hk]
 rw [hl,Q6 (x:=((k+1:Nat):Int)-1) QoW QoW,show ((k+1:Nat):Int)-1=(k:Int) by omega];rfl
theorem QiY {a1 a:Int} {T:List Nat} {ac:Bool} {w:Int} {h t m:Nat} (hh:(h:Int)<a) (b:h<=1000) (ht:T[h]? = some t) (hq:q4.length<=1000) {k0:Int->Bool->LL->oP R} :
  Qw n a1 (ZQ T) ac w a k0 (m+1) (h:Int) q4=Qw n a1 (ZQ T) ac w a k0 m ((h+1:Nat):Int) (q4++[lk ac a1 t w h]):=by
 rw [Qw];rw [QR QoZ,Q6 (x:=(h:Int)+1) QoW QoW];have hr:Q1 (ZQ T) (h:Int)=some [Q4 t]:=QK ht;cases ac
 ·rw [Q8 rfl,hr,Q0];show gb true (some (D.int .i64 (t:Int))) _ _=_;rw [Q0,Q2,Q0,QeO hq,Q0];rfl
 ·rw [QR rfl,hr,Q0];show gb true (some (D.int .i64 (t:Int))) _ _=_;rw [Q0,Q2,Q0,QeO hq,Q0];rfl
theorem QfG {a1 a:Int} {T:LL} {ac:Bool} {w:Int} {h m:Nat} (hh:¬ (h:Int)<a) {k0:Int->Bool->LL->oP R} :
  Qw n a1 T ac w a k0 (m+1) (h:Int) q4=k0 h false q4:=by
 rw [Qw,Q8 QoZ];simp [hh]
theorem Qjl {m x k c p:Nat} {ac:Bool} (hc:c=1\/c=2) (hp:q2.length=p) (a:p<10) (hq:q4.length<=900) (K:LL->LL->oP R) :
  Vf (m+3) q2 q4 (x:Int) (ZQ (ups k c)) ac K=K (q2++Q2N p c) (q4++Q3u x ac p k c):=by
 rcases hc with rfl | rfl
 ·show Qw (m+3) (x:Int) (ZQ [k]) ac (-1) (1:Int) _ (m+2+1) ((0:Nat):Int) q4=_;rw [QiY QoX QoX rfl QoW,QfG QoX];rw [show Q2N p 1=[] from rfl,List.append_nil];rfl
 ·show gb true (Zl (m+3) q2 _) _ _=_;rw [Qfo hp a,Q0];show Qw (m+3) (x:Int) (ZQ [k,k+1]) ac (p:Int) (2:Int) _ (m+2+1) ((0:Nat):Int) q4=_;rw [QiY QoX QoX rfl QoW,QiY QoX QoX rfl QoZ,QfG QoX,List.append_assoc];rfl
end
def inL (s u:Nat):LL:=bif Nat.beq u 2 then [Q74 s ((s+1:Nat):Int) (-1) 0] else []
def pc (c:Nat):Nat:=bif Nat.beq c 2 then 1 else 0
theorem Q6t (p c:Nat):(Q2N p c).length=pc c:=by unfold Q2N pc;cases Nat.beq c 2 <;> rfl
theorem QdK {c:Nat}:pc c<=1:=by unfold pc;cases Nat.beq c 2 <;> simp
theorem Q2F {x p k c:Nat} {e:Bool}:(Q3u x e p k c).length<=2:=by unfold Q3u;cases Nat.beq c 2 <;> simp
theorem Q5a {s u:Nat}:(inL s u).length<=1:=by unfold inL;cases Nat.beq u 2 <;> simp
section
variable {R:Type} {n:Nat} {l:List Int} (hl:l.length<=9223372036854775807) {P:R->Prop}
include hl
theorem Qet {i c k j m:Nat} {tl S:LL} {k0:Int->Bool->LL->LL->Int->oP R}
  (hi:i<10) (hc:c+1<10) (hk:S.length=k) (e:k<=500) (ht:tl.length<=500) (hj:j<=l.length)
  (H:∀ (x:N4) (j:Nat),Num x.1 x.2.1 x.2.2->j<=l.length->JR n i (encI l) k0 m (c:Int) (tl++[[Q4 k]]) (S++[secL i (c+1) x]) (j:Int)∈P) :
  JR n (i:Int) (encI l) k0 (m+1) ((c+1:Nat):Int) tl S (j:Int)∈P:=by
 unfold JR;rw [QR QoY,Bb n _ i hi QoX,Q0,Bb n _ (c+1) hc QoY,Q0];refine Qfw hl hj fun a b d j hn hj=>?_
 dsimp only;refine QjB k hk QoW ?_;dsimp only;rw [XE QoZ,Q0,Q6 (x:=((c+1:Nat):Int)-1) QoW QoW,show ((c+1:Nat):Int)-1=(c:Int) by omega];exact H (a,b,d) j hn hj
theorem Qch {i c k j m:Nat} {S:LL} {k0:Int->Bool->LL->LL->Int->oP R}
  (hi:i<10) (hc:c=1\/c=2) (hk:S.length=k) (a:k<=400) (hj:j<=l.length)
  (H:∀ (x:List N4) (j:Nat),KP x->x.length=c->j<=l.length->k0 0 false (ZQ (ups k c)) (S++Yw (secL i) c x) (j:Int)∈P) :
  JR n (i:Int) (encI l) k0 (m+3) (c:Int) [] S (j:Int)∈P:=by
 rcases hc with rfl | rfl
 ·refine Qet hl (c:=0) hi QoW hk QoW QoY hj fun x j hx hj=>?_
  exact H [x] j ⟨hx,trivial⟩ rfl hj
 ·refine Qet hl (c:=1) hi QoW hk QoW QoY hj fun x j hx hj=>?_
  refine Qet hl (c:=0) (k:=k+1) hi QoW (by simp [hk]) QoW QoY hj fun y j hy hj=>?_
  have:=H [x,y] j ⟨hx,hy,trivial⟩ rfl hj;simp only [Yw,ups,ZQ,List.map_cons,List.map_nil] at this;show k0 0 false _ (S++[secL i 2 x]++[secL i 1 y]) (j:Int)∈P;rw [List.append_assoc S];exact this
end
section
variable {R:Type} {n:Nat}
theorem inA {s u m:Nat} {a:LL} (hu:u=1\/u=2) (hq:a.length<=900) {k0:Int->Bool->LL->oP R} :
  SI n (ZQ (ups s u)) k0 (m+3) 0 a=k0 ((u-1:Nat):Int) false (a++inL s u):=by
 rcases hu with rfl | rfl
 ·rw [show inL s 1=[] from rfl,List.append_nil];rfl
 ·show gb true (Y7 n a (s:Int) ((s+1:Nat):Int) (-1) 0 _) _ _=_;rw [QeO QoW,Q0];rfl
end
theorem Qi8 {R:Type} {m:Nat} {l:List Int} (hl:l.length<=9223372036854775807) {P:R->Prop} {a:Int} {g s p k c k' c' j:Nat} {Pt Se Li Tr Bt:LL} {k0:Int->Bool->LL->LL->LL->LL->Int->oP R} {n:Nat}
  (hg:g<8) (hw:(g:Int)+1<a) (hs:Se.length=s) (i:s<=300) (hp:Pt.length=p) (o:p<8) (hL:Li.length<=300) (hB:Bt.length<=300)
  (hT:Tr[g]? = some [D.sl 1 (ZQ (ups k c))]) (ac:Tr[g+1]? = some [D.sl 1 (ZQ (ups k' c'))]) (hc:c=1\/c=2) (an:c'=1\/c'=2) (hj:j<=l.length)
  (H:∀ (u:Nat) (x:List N4) (j:Nat),(u=1\/u=2)->KP x->x.length=u->j<=l.length ->
   Un (m+3) a Tr (encI l) k0 n ((g+1:Nat):Int) ((Pt++Q2N p c)++Q2N (p+pc c) c') (Se++Yw (secL g) u x) (((Li++inL s u)++Q3u s false p k c)++Q3u (s+u-1) true (p+pc c) k' c') (Bt++[[D.sl 1 (ZQ (ups s u))]]) (j:Int)∈P) :
  Un (m+3) a Tr (encI l) k0 (n+1) (g:Int) Pt Se Li Bt (j:Int)∈P:=by
 unfold Un;have ao:wJ ((g:Int)+1)=((g+1:Nat):Int):=by rw [Q6 QoW QoW];omega
 rw [ao,QR QoZ];refine Vt hl hj QoX QoX fun v j b d hj=>?_
 obtain ⟨u,hu,hv⟩:∃ u:Nat,(u=1\/u=2)/\wJ (1+v)=(u:Int):=by
  rcases two b d with rfl | rfl
  ·exact ⟨1,.inl rfl,rfl⟩
  ·exact ⟨2,.inr rfl,rfl⟩
 dsimp only;rw [hv];refine Qch hl QoW hu hs QoW hj fun x j hx aj hj=>?_
 rw [inA hu QoW];have e:(0:Int).toNat=0:=rfl;have ak:(ZQ (ups s u)).length=u:=by rcases hu with rfl | rfl <;> rfl
 have f:(ZQ (ups s u))[0]? = some [Q4 s]:=by rcases hu with rfl | rfl <;> rfl
 have e1:(ZQ (ups s u))[u-1]? = some [Q4 ((s+u-1:Nat):Int)]:=by rcases hu with rfl | rfl <;> rfl
 have aw:g<Tr.length:=(List.getElem?_eq_some_iff.1 hT).1;have aq:g+1<Tr.length:=(List.getElem?_eq_some_iff.1 ac).1;have h:wJ ((u:Int)-1)=((u-1:Nat):Int):=by rcases hu with rfl | rfl <;> rfl
 rw [ak,XR QoW QoW,Q0,e,f,Q0];show gb true (some (Q4 s)) _ _∈P;rw [Q0,Q2,Q0,XR QoW QoW,Q0,Int.toNat_natCast,hT,Q0];show gb true (some (D.sl 1 (ZQ (ups k c)))) _ _∈P;rw [Q0,QJ,Q0,Qjl hc hp QoW (by have:=@Q5a s u;simp;omega),Q0];dsimp only;rw [h,XR QoW QoW,Q0,Int.toNat_natCast,e1,Q0];show gb true (some (Q4 ((s+u-1:Nat):Int))) _ _∈P;rw [Q0,Q2,Q0,XR QoW QoW,Q0,Int.toNat_natCast,ac,Q0];show gb true (some (D.sl 1 (ZQ (ups k' c')))) _ _∈P;rw [Q0,QJ,Q0,Qjl (p:=p+pc c) an (by simp [hp,Q6t]) (by have:=@QdK c;omega) (by have:=@Q5a s u;have:=@Q2F s p k c false;simp;omega),Q0];dsimp only;rw [XE QoZ,Q0];exact H u x j hu hx aj hj
def nmS (k:Nat):List D:=[D.str (bs [83]++[UInt8.ofNat (48+k)])]
theorem Xf {f:Nat->N4->List D}:∀ {c:Nat} {x:List N4},x.length=c->(Yw f c x).length=c
 |0,[],_=>rfl
 |c+1,a::x,h=>by simp [Yw];exact Xf (by simpa using h)
section
variable {R:Type} {m:Nat} {l:List Int} (hl:l.length<=9223372036854775807) {P:R->Prop}
include hl
theorem F6 {a:Int} {i k j:Nat} {b d e:LL} {k0:Int->Bool->LL->LL->LL->Int->oP R} {n:Nat}
  (hi:i<10) (hw:(i:Int)<a) (hk:d.length=k) (g:k<=400) (f:b.length<=400) (h2:e.length<=400) (hj:j<=l.length)
  (H:∀ (c:Nat) (x:List N4) (j:Nat),(c=1\/c=2)->KP x->x.length=c->j<=l.length ->
   UB (m+3) a (encI l) k0 n ((i+1:Nat):Int) (b++[nmS i]) (d++Yw (secT i) c x) (e++[[D.sl 1 (ZQ (ups k c))]]) (j:Int)∈P) :
  UB (m+3) a (encI l) k0 (n+1) (i:Int) b d e (j:Int)∈P:=by
 unfold UB;rw [QR QoZ,Bb _ _ i hi QoX,Q0,XE QoZ,Q0];refine Vt hl hj QoX QoX fun v j h f hj=>?_
 obtain ⟨c,hc,hv⟩:∃ c:Nat,(c=1\/c=2)/\wJ (1+v)=(c:Int):=by
  rcases two h f with rfl | rfl
  ·exact ⟨1,.inl rfl,rfl⟩
  ·exact ⟨2,.inr rfl,rfl⟩
 dsimp only;rw [hv];refine Qez hl hi hc hk g hj fun x j hx ac hj=>?_
 rw [XE QoZ,Q0,Q6 (x:=(i:Int)+1) QoW QoW];exact H c x j hc hx ac hj
omit hl in
theorem r7e {n m:Nat} {b a:Int} {g c d e:LL} {f:Int} {k0:Int->Bool->LL->LL->LL->Int->oP R} (h:¬ a<b) :
  UB n b g k0 (m+1) a c d e f=k0 a false c d e f:=by
 rw [UB,Q8 QoZ];simp [h]
omit hl in
theorem Qju {n m:Nat} {b a:Int} {i j c d e f:LL} {g:Int} {k0:Int->Bool->LL->LL->LL->LL->Int->oP R} (h:¬ wJ (a+1)<b) :
  Un n b i j k0 (m+1) a c d e f g=k0 a false c d e f g:=by
 rw [Un,Q8 QoZ];simp [h]
theorem Qie {i:Nat} (hi:i<=l.length) {k0:LL->LL->LL->LL->LL->LL->Int->oP R}
  (H:∀ (c0 c1 a:Nat) (b d e:List N4) (j:Nat),(c0=1\/c0=2)->(c1=1\/c1=2)->(a=1\/a=2)->KP b->KP d->KP e->b.length=c0->d.length=c1->e.length=a->j<=l.length ->
   k0 [nmS 0,nmS 1] (Q2N 0 c0++Q2N (pc c0) c1) ((Yw (secT 0) c0 b++Yw (secT 1) c1 d)++Yw (secL 0) a e)
    ((inL (c0+c1) a++Q3u (c0+c1) false 0 0 c0)++Q3u (c0+c1+a-1) true (pc c0) c0 c1)
    [[D.sl 1 (ZQ (ups 0 c0))],[D.sl 1 (ZQ (ups c0 c1))]] [[D.sl 1 (ZQ (ups (c0+c1) a))]] (j:Int)∈P) :
  UB (m+3) 2 (encI l) (fun _ _ r t h u=>
   Un (m+3) 2 h (encI l) (fun _ _ v x y z aa=>k0 r v x y h z aa) (m+3) (0:Int) [] t [] [] u)
   (m+3) (0:Int) [] [] [] (i:Int)∈P:=by
 refine F6 hl (i:=0) QoX QoX rfl QoX QoX QoX hi fun c0 b j n ab f hj=>?_
 refine F6 hl (i:=1) (k:=c0) QoX QoX (by simp [Xf f]) QoW QoY QoY hj fun c1 d j o ac q hj=>?_
 rw [r7e QoX];refine Qi8 hl (g:=0) (s:=c0+c1) (p:=0) (k:=0) (c:=c0) (k':=c0) (c':=c1) QoX QoX (by simp [Xf f,Xf q]) QoW rfl QoX QoX QoX rfl rfl n o hj fun a e j ad ae aj hj=>?_
 rw [Qju QoX];have:=H c0 c1 a b d e j n o ad ab ac ae f q aj hj;simpa [Nat.add_assoc] using this
theorem Qij {i:Nat} (hi:i<=l.length) {k0:LL->LL->LL->LL->LL->LL->Int->oP R}
  (H:∀ (c0 c1 a b d:Nat) (e f h n o:List N4) (j:Nat),(c0=1\/c0=2)->(c1=1\/c1=2)->(a=1\/a=2)->(b=1\/b=2)->(d=1\/d=2)->KP e->KP f->KP h->KP n->KP o->e.length=c0->f.length=c1->h.length=a->n.length=b->o.length=d->j<=l.length ->
   k0 [nmS 0,nmS 1,nmS 2] ((Q2N 0 c0++Q2N (pc c0) c1)++Q2N (pc c0+pc c1) c1++Q2N (pc c0+pc c1+pc c1) a)
    ((((Yw (secT 0) c0 e++Yw (secT 1) c1 f)++Yw (secT 2) a h)++Yw (secL 0) b n)++Yw (secL 1) d o)
    (((inL (c0+c1+a) b++Q3u (c0+c1+a) false 0 0 c0)++Q3u (c0+c1+a+b-1) true (pc c0) c0 c1)++inL (c0+c1+a+b) d++Q3u (c0+c1+a+b) false (pc c0+pc c1) c0 c1++Q3u (c0+c1+a+b+d-1) true (pc c0+pc c1+pc c1) (c0+c1) a)
    [[D.sl 1 (ZQ (ups 0 c0))],[D.sl 1 (ZQ (ups c0 c1))],[D.sl 1 (ZQ (ups (c0+c1) a))]] [[D.sl 1 (ZQ (ups (c0+c1+a) b))],[D.sl 1 (ZQ (ups (c0+c1+a+b) d))]] (j:Int)∈P) :
  UB (m+4) 3 (encI l) (fun _ _ aa ab v ac=>
   Un (m+4) 3 v (encI l) (fun _ _ ad ae ag ah ai=>k0 aa ad ae ag v ah ai) (m+4) (0:Int) [] ab [] [] ac)
   (m+4) (0:Int) [] [] [] (i:Int)∈P:=by
 refine F6 hl (m:=m+1) (i:=0) QoX QoX rfl QoX QoX QoX hi fun c0 e j x aj q hj=>?_
 refine F6 hl (m:=m+1) (i:=1) (k:=c0) QoX QoX (by simp [Xf q]) QoW QoY QoY hj fun c1 f j t ak r hj=>?_
 refine F6 hl (m:=m+1) (i:=2) (k:=c0+c1) QoX QoX (by simp [Xf q,Xf r]) QoW QoY QoY hj fun a h j y al u hj=>?_
 rw [r7e QoX];refine Qi8 hl (m:=m+1) (g:=0) (s:=c0+c1+a) (p:=0) (k:=0) (c:=c0) (k':=c0) (c':=c1) QoX QoX (by simp [Xf q,Xf r,Xf u,Nat.add_assoc]) QoW rfl QoX QoX QoX rfl rfl x t hj fun b n j am an z hj=>?_
 have b0:=@QdK c0;have b1:=@QdK c1;have f0:=@Q5a (c0+c1+a) b;have f1:=@Q2F (c0+c1+a) 0 0 c0 false;have f2:=@Q2F (c0+c1+a+b-1) (pc c0) c0 c1 true;refine Qi8 hl (m:=m+1) (g:=1) (s:=c0+c1+a+b) (p:=pc c0+pc c1) (k:=c0) (c:=c1) (k':=c0+c1) (c':=a) QoX QoX (by simp [Xf q,Xf r,Xf u,Xf z,Nat.add_assoc]) QoW (by simp [Q6t]) QoW QoZ QoY rfl rfl t y hj fun d o j ao ap aq hj=>?_
 rw [Qju QoX];have:=H c0 c1 a b d e f h n o j x t y am ao aj ak al an ap q r u z aq hj;simpa [Nat.add_assoc] using this
end
def QcT:oP Bool->Bool
 |some true=>true
 |_=>false
def Qjv:oP Bool->Bool
 |some false=>true
 |_=>false
def Q8p:oP Int->Bool
 |some n=>n == 0
 |none=>false
theorem NK {o:oP Bool} (h:QcT o=true):o=some true:=by
 match o,h with
 |some true,_=>rfl
theorem Q9N {o:oP Bool} (h:Qjv o=true):o=some false:=by
 match o,h with
 |some false,_=>rfl
theorem VT {o:oP Int} (h:Q8p o=true):o=some 0:=by
 match o,h with
 |some n,h=>simp only [Q8p,beq_iff_eq] at h;rw [h]
end Go.Vx
namespace Go.Vx
variable {R:Type} (n:Nat)
def QcH (ac:List (List UInt8)) (s:List UInt8):Bool:=Nat.ble s.length 12&&QcT (Ks n s some)&&!(ac.contains s)
def Pd :List (List UInt8)->LL->Bool
 | _,[]=>true
 | ac,row::r=>match row with
 | [D.str s]=>QcH n ac s&&Pd (s::ac) r
 | _=>false
def Py (l0 l1 l2 e:LL):List (List UInt8)->LL->Bool
 | _,[]=>true
 | ac,row::r=>match row with
 | [D.str s,D.int .i64 a,D.int .i64 b,D.int .i64 c,D.int .i64 d]=>QcH n ac s&&QcT (Xj n l0 l1 l2 e s a b c d some)&&Py l0 l1 l2 e (s::ac) r
 | _=>false
def KN (l0 l1 l2 c:LL):List LL->LL->Bool
 | _,[]=>true
 | st,row::r=>match row with
 | [D.int .i64 a,D.int .i64 ae,D.int .i64 b,D.int .i64 be,D.int .i64 p,D.int .i64 q]=>(decide (0<=a)&&decide (a<l2.length)&&decide (0<=ae)&&decide (ae<=1)&&decide (0<=b)&&decide (b<l2.length)&&decide (0<=be)&&decide (be<=1))&&QcT (Yc n l0 l1 l2 c a ae b be p q some) && !(Nat.beq (2*a+ae).toNat (2*b+be).toNat) && (match st[(2*a+ae).toNat]?,st[(2*b+be).toNat]? with
 | some x,some y=>Qjv (Gy n x a ae b be some)&&QcT (JU n a ae b be p q x some)&&QcT (JU n a ae b be p q y some)&&Nat.ble x.length 1&&Nat.ble y.length 1&&KN l0 l1 l2 c ((st.set (2*a+ae).toNat (x++[row])).set (2*b+be).toNat (y++[row])) r
 | _,_=>false)
 | _=>false
def Pz (l0 l1 l2 a:LL):Bool:=Nat.ble l0.length 24&&Nat.ble l1.length 48&&Nat.ble l2.length 96&&Nat.ble a.length 192&&!(Nat.beq l2.length 0)&&Pd n [] l0&&Pd n [] l1&&Py n l0 l1 l2 a [] l2&&KN n l0 l1 l2 a (List.replicate (2*l2.length) []) a
def Zm (l0 l1 l2 a:LL) (K:Qlm R):oP R:=bif Pz n l0 l1 l2 a then K 0 else none
end Go.Vx
namespace Go.Vx
def hat (c:Nat):List N4:=List.replicate c (2,5000,0)
def pt2 (c0 c1:Nat):LL:=Q2N 0 c0++Q2N (pc c0) c1
def se2 (c0 c1 a:Nat) (b c d:List N4):LL:=(Yw (secT 0) c0 b++Yw (secT 1) c1 c)++Yw (secL 0) a d
def li2 (c0 c1 a:Nat):LL:=(inL (c0+c1) a++Q3u (c0+c1) false 0 0 c0)++Q3u (c0+c1+a-1) true (pc c0) c0 c1
def pt3 (c0 c1 a:Nat):LL:=(Q2N 0 c0++Q2N (pc c0) c1)++Q2N (pc c0+pc c1) c1++Q2N (pc c0+pc c1+pc c1) a
def se3 (c0 c1 a b c:Nat) (d e f g h:List N4):LL:=(((Yw (secT 0) c0 d++Yw (secT 1) c1 e)++Yw (secT 2) a f)++Yw (secL 0) b g)++Yw (secL 1) c h
def li3 (c0 c1 a b c:Nat):LL:=((inL (c0+c1+a) b++Q3u (c0+c1+a) false 0 0 c0)++Q3u (c0+c1+a+b-1) true (pc c0) c0 c1)++inL (c0+c1+a+b) c++Q3u (c0+c1+a+b) false (pc c0+pc c1) c0 c1++Q3u (c0+c1+a+b+c-1) true (pc c0+pc c1+pc c1) (c0+c1) a
theorem ok2 {c0 c1 a:Nat} (b:c0=1\/c0=2) (c:c1=1\/c1=2) (h2:a=1\/a=2):Pz 400 [nmS 0,nmS 1] (pt2 c0 c1) (se2 c0 c1 a (hat c0) (hat c1) (hat a)) (li2 c0 c1 a)=true:=by
 rcases b with rfl | rfl <;> rcases c with rfl | rfl <;> rcases h2 with rfl | rfl <;> kernel_rfl
theorem ok3 {c0 c1 a b c:Nat} (d:c0=1\/c0=2) (e:c1=1\/c1=2) (h2:a=1\/a=2) (f:b=1\/b=2) (g:c=1\/c=2):Pz 400 [nmS 0,nmS 1,nmS 2] (pt3 c0 c1 a) (se3 c0 c1 a b c (hat c0) (hat c1) (hat a) (hat b) (hat c)) (li3 c0 c1 a b c)=true:=by
 rcases d with rfl | rfl <;> rcases e with rfl | rfl <;> rcases h2 with rfl | rfl <;> rcases f with rfl | rfl <;> rcases g with rfl | rfl <;> kernel_rfl
structure NumOk (a b c d:Int) (k:Nat):Prop where
 a0:1<=a
 a1:a<=400
 b0:1000<=b
 b1:b<=100000
 c0 : -40<=c
 c1:c<=40
 d0 : -1<=d
 d1:d<k
theorem Q7b {n:Nat} {l0 l1 l2 e:LL} {s:List UInt8} {a b c d:Int} (h:NumOk a b c d l0.length):Xj n l0 l1 l2 e s a b c d some=some true:=by
 obtain ⟨f,g,h2,i,j,k,l,m⟩:=h;unfold Xj;simp [f,g,h2,i,j,k,l,m]
def Dv (k:Nat):LL->LL->Prop
 |[],[]=>True
 |r::s,r'::s'=>(∃ nm a b c a' b' c' d,r=[D.str nm,Q4 a,Q4 b,Q4 c,Q4 d]/\r'=[D.str nm,Q4 a',Q4 b',Q4 c',Q4 d]/\NumOk a b c d k/\NumOk a' b' c' d k)/\Dv k s s'
 |_,_=>False
theorem Dv.len {k:Nat}:∀ {s s':LL},Dv k s s'->s.length=s'.length
 |[],[],_=>rfl
 |r::s,r'::s',h=>by simp [Dv.len h.2]
theorem Dv.app {k:Nat}:∀ {s s' t t':LL},Dv k s s'->Dv k t t'->Dv k (s++t) (s'++t')
 |[],[],t,t',_,h=>h
 |r::s,r'::s',t,t',h,h2=>⟨h.1,Dv.app h.2 h2⟩
theorem Dv.secT {k i:Nat} (hi:i<k):∀ {c:Nat} {x x':List N4},KP x->KP x'->x.length=c->x'.length=c->Dv k (Yw (secT i) c x) (Yw (secT i) c x')
 |0,[],[],_,_,_,_=>trivial
 |c+1,a::x,a'::x',h,h',e,e'=>⟨⟨QjC i (c+1),a.1+2,a.2.1,a.2.2,a'.1+2,a'.2.1,a'.2.2,i,rfl,rfl,
   ⟨by have:=h.1.a0;omega,by have:=h.1.a1;omega,by have:=h.1.b0;omega,by have:=h.1.b1;omega,by have:=h.1.c0;omega,by have:=h.1.c1;omega,QoW,QoW⟩,
   ⟨by have:=h'.1.a0;omega,by have:=h'.1.a1;omega,by have:=h'.1.b0;omega,by have:=h'.1.b1;omega,by have:=h'.1.c0;omega,by have:=h'.1.c1;omega,QoW,QoW⟩⟩,Dv.secT hi h.2 h'.2 (by simpa using e) (by simpa using e')⟩
theorem Dv.secL {k i:Nat}:∀ {c:Nat} {x x':List N4},KP x->KP x'->x.length=c->x'.length=c->Dv k (Yw (secL i) c x) (Yw (secL i) c x')
 |0,[],[],_,_,_,_=>trivial
 |c+1,a::x,a'::x',h,h',e,e'=>⟨⟨nmL i (c+1),a.1,a.2.1,a.2.2,a'.1,a'.2.1,a'.2.2,-1,rfl,rfl,
   ⟨by have:=h.1.a0;omega,by have:=h.1.a1;omega,by have:=h.1.b0;omega,by have:=h.1.b1;omega,by have:=h.1.c0;omega,by have:=h.1.c1;omega,QoW,QoW⟩,
   ⟨by have:=h'.1.a0;omega,by have:=h'.1.a1;omega,by have:=h'.1.b0;omega,by have:=h'.1.b1;omega,by have:=h'.1.c0;omega,by have:=h'.1.c1;omega,QoW,QoW⟩⟩,Dv.secL h.2 h'.2 (by simpa using e) (by simpa using e')⟩
theorem HP:∀ c,KP (hat c)
 |0=>trivial
 |c+1=>⟨⟨by decide,by decide,by decide,by decide,by decide,by decide⟩,HP c⟩
theorem M1 (c:Nat):(hat c).length=c:=by simp [hat]
theorem Dq {n:Nat} {l0 l1 L L' e:LL}:∀ {s s':LL} {ac:List (List UInt8)},Dv l0.length s s'->Py n l0 l1 L e ac s=Py n l0 l1 L' e ac s'
 |[],[],ac,_=>rfl
 |r::s,r'::s',ac,h=>by
  obtain ⟨⟨nm,a,b,c,a',b',c',d,rfl,rfl,f,h2⟩,g⟩:=h;show (QcH n ac nm&&QcT (Xj n l0 l1 L e nm a b c d some)&&Py n l0 l1 L e (nm::ac) s)=(QcH n ac nm&&QcT (Xj n l0 l1 L' e nm a' b' c' d some)&&Py n l0 l1 L' e (nm::ac) s');rw [Q7b f,Q7b h2,Dq g]
theorem LG {n:Nat} {l0 l1 L L' c:LL} (h:L.length=L'.length):∀ {t:LL} {st:List LL},KN n l0 l1 L c st t=KN n l0 l1 L' c st t
 |[],st=>rfl
 |r::t,st=>by
  unfold KN;split
  ·rename_i a ae b be p q;have e:Yc n l0 l1 L c a ae b be p q some=Yc n l0 l1 L' c a ae b be p q some:=by unfold Yc;rw [h]
   rw [e,h];split
   ·rw [LG h]
   ·rfl
  ·rfl
theorem Q0V {n:Nat} {l0 l1 L L' a:LL} (h:Dv l0.length L L'):Pz n l0 l1 L a=Pz n l0 l1 L' a:=by
 unfold Pz;rw [h.len,Dq h,LG h.len]
theorem sr2 {c0 c1 a:Nat} {b c d:List N4} (e:KP b) (f:KP c) (g:KP d) (h:b.length=c0) (e1:c.length=c1) (e2:d.length=a):Dv 2 (se2 c0 c1 a b c d) (se2 c0 c1 a (hat c0) (hat c1) (hat a)):=
 .app (.app (.secT QoX e (HP _) h (M1 _)) (.secT QoX f (HP _) e1 (M1 _))) (.secL g (HP _) e2 (M1 _))
theorem sr3 {c0 c1 a b c:Nat} {d e f g h:List N4} (i:KP d) (j:KP e) (k:KP f) (n3:KP g) (l:KP h) (m:d.length=c0) (e1:e.length=c1) (e2:f.length=a) (n:g.length=b) (o:h.length=c):Dv 3 (se3 c0 c1 a b c d e f g h) (se3 c0 c1 a b c (hat c0) (hat c1) (hat a) (hat b) (hat c)):=
 .app (.app (.app (.app (.secT QoX i (HP _) m (M1 _)) (.secT QoX j (HP _) e1 (M1 _))) (.secT QoX k (HP _) e2 (M1 _))) (.secL n3 (HP _) n (M1 _))) (.secL l (HP _) o (M1 _))
theorem QjN {c0 c1 a:Nat} {b c d:List N4} (e:c0=1\/c0=2) (f:c1=1\/c1=2) (h2:a=1\/a=2) (g:KP b) (h:KP c) (i:KP d) (j:b.length=c0) (e1:c.length=c1) (e2:d.length=a) :
  Pz 400 [nmS 0,nmS 1] (pt2 c0 c1) (se2 c0 c1 a b c d) (li2 c0 c1 a)=true:=by
 rw [<- ok2 e f h2];exact Q0V (sr2 g h i j e1 e2)
theorem Qkk {c0 c1 a b c:Nat} {d e f g h:List N4} (i:c0=1\/c0=2) (j:c1=1\/c1=2) (h2:a=1\/a=2) (k:b=1\/b=2) (l:c=1\/c=2) (m:KP d) (n:KP e) (o:KP f) (n3:KP g) (p:KP h) (q:d.length=c0) (e1:e.length=c1) (e2:f.length=a) (r:g.length=b) (s:h.length=c) :
  Pz 400 [nmS 0,nmS 1,nmS 2] (pt3 c0 c1 a) (se3 c0 c1 a b c d e f g h) (li3 c0 c1 a b c)=true:=by
 rw [<- ok3 i j h2 k l];exact Q0V (sr3 m n o n3 p q e1 e2 r s)
end Go.Vx
namespace Go.Vx
variable {R:Type} (n:Nat)
def WJ (c:LL) (b:Int) (d e f g:LL) (k0:oP R) (k1:Qlp R):Qlq R
 | 0,_=>none
 | m+1,a=>bif decide (a<b) then QkS R c a fun i j=>QkF R i j fun k l=>Qku R (N9 n d e f g k l some) fun o=>bif !o then k0 else WJ c b d e f g k0 k1 m (wJ (a+1)) else k1 a (decide (a<b))
def Gj (n:Nat) (e:LL) (c:Int) (k0:oP R) (k1:Qln R):Qlo R
 | 0,_,_=>none
 | m+1,b,a=>bif decide (b<c) then QkJ R e b fun f g=>Qku R f[1]? fun o=>Qku R (pIw g) fun h=>Ql3 R a.length h a h.toNat fun k=>bif k then k0 else Qku R (pIw g) fun d=>QkI R a.length d a d.toNat fun l=>Gj n e c k0 k1 m (wJ (b+1)) (List.set a d.toNat (List.set l 0 (D.bool true))) else k1 b (decide (b<c)) a
def Wx (e:LL) (b:Int) (f g h i j:LL) (k0:oP R) (k1:Qln R):Qlo R
 | 0,_,_=>none
 | m+1,a,c=>bif decide (a<b) then QkS R e a fun o p=>QkS R j a fun q r=>Ql2 R q r o p fun s t u v=>gb true (JJ n f g h i s t u v Tu2) (0,false) fun d=>bif !d.2 then k0 else Qku R (Y1 ((c.length+[[Q4 d.1]].length)*8)) fun z=>Wx e b f g h i j k0 k1 m (wJ (a+1)) (c++[[Q4 d.1]]) else k1 a (decide (a<b)) c
def H7 (d e b f a:LL) (c:Int) (K:Qlt R):oP R:=Qku R (Zm n d e b f some) fun j=>bif j !=0 then K [] 1 else Qkt R (a.length:Int) fun aa=>jn (fun (k:Bool)=>bif k then K [] 7 else jn (fun (l:Bool)=>bif l then K [] 4 else WJ n a aa d e b f (K [] 4) (fun o p=>Qkt R (b.length:Int) fun z=>gb true (bif decide (0<=z)&&decide (z<=z) then some () else none) () fun q=>Qku R (Y1 (Int.toNat z*1)) fun r=>Gj n a aa (K [] 5) (fun s t u=>Qku R (slB a.length (some 1) none) fun g=>Wx n (cut a g) ((List.length (cut a g):Nat):Int) d e b f a (K [] 11) (fun v x m=>K m 0) n 0 []) n 0 (List.replicate (Int.toNat z) [D.bool false])) n 0) fun h=>bif decide (c<0) then h (decide (c<0)) else h (decide (wJ (aa-c)<2))) fun i=>Qks R (decide (aa>24)) fun y=>bif y then i y else i (decide (c>2))
def TU (b c d e f:LL) (g:Int) (K:Qlm R):oP R:=Qku R (H7 n b c d e f g Tu2) fun a=>K a.2
end Go.Vx
