/- Part of a proof. No conditions of their own. -/
import Derived.Test.YtnfomkijfeokoaaGreatTB
import Derived.Test.YtnfomkijfeokoaaGreatProg
import Derived.Test.YtnfomkijfeokoaaGreatTC
set_option linter.unusedVariables false
set_option linter.unusedSimpArgs false
noncomputable section
abbrev QoQ:=@List.getElem?_cons_zero
abbrev QoR:=@List.getElem?_cons_succ
abbrev QoS:=@Int.toNat_natCast
namespace Go.Vx
variable {R:Type} (n:Nat)
def F2 (n:Nat) (a0 a1:Int) (K:Qkj R):oP R:=Qjr R (nz (IntKind.wrap .u64 a1)) fun a=>K (wJ (Int.tmod (IntKind.wrap .u64 a0) (IntKind.wrap .u64 a1)))
def Q5 (b:LL) (a a1:Int) (K:Qkt R):oP R:=bif decide (a>=(b.length:Int)) then K 0 a else QjD R b (wJ (wJ (a+1)-1)) fun e=>Qjr R (F2 n e a1 some) fun f=>K f (wJ (a+1))
def Wh (c:LL) (e:Int) (a1:List UInt8) (a2:Int) (K:(List UInt8)->Int->Int->Int->Int->Int->oP R):oP R:=Qjr R (Q5 n c e 9 Tu2) fun a=>Qjr R (Q5 n c a.2 7 Tu2) fun r2=>Qjr R (Q5 n c r2.2 21 Tu2) fun d=>K a1 (wJ (2+a.1)) (wJ (5000+wJ (5000*r2.1))) (wJ (d.1-10)) a2 d.2
def Vc (n:Nat) (a0:List UInt8) (a1:Int) (K:(List UInt8)->oP R):oP R:=Qk8 R 10 (Qjq R [48,49,50,51,52,53,54,55,56,57] fun d=>Qjr R (slB (List.length (bs d)) (some (Int.tmod a1 10)) (some (wJ (Int.tmod a1 10+1)))) fun a=>Qjr R (Q8U (a0.length+List.length (cut (bs d) a))) fun c=>K (a0++cut (bs d) a))
def YW (n:Nat) (a:LL) (b:List UInt8) (c d e f:Int) (K:Qky R):oP R:=Qjq R [[D.str b,Q4 c,Q4 d,Q4 e,Q4 f]] fun h=>Qjr R (Y9 ((a.length+h.length)*48)) fun g=>K (wJ (((List.length (a++h):Nat):Int)-1)) (a++h)
def Y1 (n:Nat) (a:LL) (a1 a2 b c:Int) (K:Qkp R):oP R:=Qjq R [[Q4 a1,Q4 1,Q4 a2,Q4 0,Q4 b,Q4 c]] fun e=>Qjr R (Y9 ((a.length+e.length)*48)) fun d=>K (a++e)
def Z9 (a:LL) (K:Qky R):oP R:=Qjr R (Vc n (bs [80]) (a.length:Int) some) fun b=>Qjq R [[D.str b]] fun c=>Qjr R (Y9 ((a.length+c.length)*16)) fun u2=>K (wJ (((List.length (a++c):Nat):Int)-1)) (a++c)
def Qw (b:Int) (c:LL) (f:Bool) (d e:Int) (k0:Qkm R):Qkn R
 | 0,_,_=>none
 | m+1,a,g=>bif decide (a<e) then bif f then QjD R c a fun j=>Qjr R (Y1 n g b j d a some) fun k=>Qw b c f d e k0 m (wJ (a+1)) k else QjD R c a fun p=>Qjr R (Y1 n g p b d a some) fun q=>Qw b c f d e k0 m (wJ (a+1)) q else k0 a (decide (a<e)) g
def UW (b c:LL) (a1:Int) (a2:LL) (d:Bool) (K:LL->LL->oP R):oP R:=Qjq R (a2.length:Int) fun e=>bif decide (e>1) then gb true (Z9 n b Tu2) (0,[]) fun a=>Qw n a1 a2 d a.1 e (fun h i f=>K a.2 f) n 0 c else Qw n a1 a2 d (-1:Int) e (fun j k g=>K b g) n 0 c
def Jy (c:Int) (h:LL) (k0:QkB R):QkC R
 | 0,_,_,_,_=>none
 | m+1,b,d,i,j=>bif decide (b>0) then Qjr R (Vc n (bs [84]) c some) fun k=>Qjr R (Vc n k b some) fun l=>gb true (Wh n h j l c Tu6) ([],0,0,0,0,0) fun a=>gb true (YW n i a.1 (wJ (a.2.1+2)) a.2.2.1 a.2.2.2.1 a.2.2.2.2.1 Tu2) (0,[]) fun g=>Qjr R (Y9 ((d.length+[[Q4 g.1]].length)*8)) fun r=>Jy c h k0 m (wJ (b-1)) (d++[[Q4 g.1]]) g.2 a.2.2.2.2.2 else k0 b (decide (b>0)) d i j
def Uk (h2:Int) (b:LL) (k0:QkD R):QkE R
 | 0,_,_,_,_,_=>none
 | m+1,a,c,e,d,f=>bif decide (a<h2) then Qjr R (Vc n (bs [83]) a some) fun g=>Qjr R (Y9 ((c.length+[[D.str g]].length)*16)) fun p=>Qjr R (Q5 n b f 2 Tu2) fun h=>Jy n a b (fun q r i l o=>Qjr R (Y9 ((d.length+[[D.sl 1 i]].length)*24)) fun s=>Uk h2 b k0 m (wJ (a+1)) (c++[[D.str g]]) l (d++[[D.sl 1 i]]) o) n (wJ (1+h.1)) [] e h.2 else k0 a (decide (a<h2)) c e d f
def Jw (g:Int) (h:LL) (k0:QkB R):QkC R
 | 0,_,_,_,_=>none
 | m+1,b,c,i,j=>bif decide (b>0) then Qjr R (Vc n (bs [76]) g some) fun k=>Qjr R (Vc n k b some) fun l=>gb true (Wh n h j l (-1:Int) Tu6) ([],0,0,0,0,0) fun a=>gb true (YW n i a.1 a.2.1 a.2.2.1 a.2.2.2.1 a.2.2.2.2.1 Tu2) (0,[]) fun f=>Qjr R (Y9 ((c.length+[[Q4 f.1]].length)*8)) fun r=>Jw g h k0 m (wJ (b-1)) (c++[[Q4 f.1]]) f.2 a.2.2.2.2.2 else k0 b (decide (b>0)) c i j
def S7 (b:LL) (k0:Qkm R):Qkn R
 | 0,_,_=>none
 | m+1,a,c=>Qjq R (wJ (a+1)) fun p=>Qjp R (decide (p<(b.length:Int))) fun o=>bif o then QjJ R b.length a b a.toNat fun f=>QjJ R b.length p b (Int.toNat p) fun i=>Qjr R (Y1 n c f i (-1:Int) 0 some) fun j=>S7 b k0 m p j else k0 a o c
def U7 (f:Int) (c g:LL) (k0:Int->Bool->LL->LL->LL->LL->Int->oP R):Nat->Int->LL->LL->LL->LL->Int->oP R
 | 0,_,_,_,_,_,_=>none
 | m+1,a,i,j,k,h,l=>Qjq R (wJ (a+1)) fun e=>Qjp R (decide (e<f)) fun d=>bif d then Qjr R (Q5 n g l 2 Tu2) fun o=>Jw n a g (fun ai aj b r s=>S7 n b (fun ak al t=>QjJ R b.length 0 b (Int.toNat 0) fun x=>QjR R c.length a c a.toNat fun aa=>gb true (UW n i t x aa false Tu2) ([],[]) fun p=>Qjq R (wJ ((b.length:Int)-1)) fun ar=>QjJ R b.length ar b (Int.toNat ar) fun ad=>QjR R c.length e c (Int.toNat e) fun ah=>gb true (UW n p.1 p.2 ad ah true Tu2) ([],[]) fun q=>Qjr R (Y9 ((h.length+[[D.sl 1 b]].length)*24)) fun aq=>U7 f c g k0 m e q.1 r q.2 (h++[[D.sl 1 b]]) s) n 0 k) n (wJ (1+o.1)) [] j o.2 else k0 a d i j k h l
def Q1N (b:LL) (d:Int) (K:LL->LL->LL->LL->LL->LL->LL->Int->oP R):oP R:=Qjr R (Q5 n b d 2 Tu2) fun a=>Uk n (wJ (2+a.1)) b (fun o p f g c h=>U7 n (wJ (2+a.1)) c b (fun q r i j k l m=>K f i j k c l [] m) n 0 [] g [] [] h) n 0 [] [] [] a.2
def P6 (n:Nat) (a0:Int) (K:Qko R):oP R:=K (Qjn (Qjo (decide (a0>=65)) (decide (a0<=90))) (Qjo (decide (a0>=97)) (decide (a0<=122))))
def LC (n:Nat) (a0:Int) (K:Qko R):oP R:=K (Qjo (decide (a0>=48)) (decide (a0<=57)))
def Sa (b:List UInt8) (d:Int) (k0:oP R) (k1:Qkk R):Qkl R
 | 0,_=>none
 | m+1,a=>bif decide (a<d) then Qjr R (Vw b a) fun f=>Qjr R (P6 n f some) fun c=>Qjs R (!c) (Vw b a) fun g=>Qjs R (!c) (LC n g some) fun e=>Qjs R (Qjo (!c) (!e)) (Vw b a) fun h=>bif Qjo (Qjo (!c) (!e)) (h !=95) then k0 else Sa b d k0 k1 m (wJ (a+1)) else k1 a (decide (a<d))
def GW (a0:List UInt8) (K:Qko R):oP R:=Qjq R (a0.length:Int) fun e=>Qjp R (Qjn (decide (e<1)) (decide (e>12))) fun d=>Qjs R (!d) (Vw a0 0) fun a=>Qjs R (!d) (P6 n a some) fun r2=>bif Qjn d (!r2) then K false else Sa n a0 e (K false) (fun b c=>K true) n 0
def Xg (n:Nat) (e f g h:LL) (i:List UInt8) (a b c d:Int) (K:Qko R):oP R:=K (Qjo (Qjo (Qjo (Qjo (Qjo (Qjo (Qjo (decide (a>=1)) (decide (a<=400))) (decide (b>=1000))) (decide (b<=100000))) (decide (c>=(-40:Int)))) (decide (c<=40))) (decide (d>=(-1:Int)))) (decide (d<(e.length:Int))))
def Y6 (n:Nat) (i h b j:LL) (c d e f a g:Int) (K:Qko R):oP R:=K (Qjo (Qjo (Qjo (Qjo (Qjo (Qjo (Qjo (Qjo (decide (c>=0)) (decide (c<(b.length:Int)))) (decide (e>=0))) (decide (e<(b.length:Int)))) (Qjn (d==0) (d==1))) (Qjn (f==0) (f==1))) (decide (a>=(-1:Int)))) (decide (a<(h.length:Int)))) (Qjn (g==0) (Qjo (g==1) (a !=(-1:Int)))))
def MS (n:Nat) (a b c d e f:Int) (K:Int->Int->Int->Int->oP R):oP R:=K a b c d
def KO (h:LL) (h2 d e f g:Int) (k0:oP R) (k1:Qkk R):Qkl R
 | 0,_=>none
 | m+1,c=>bif decide (c<h2) then QjE R h c fun b i j k=>Qk2 R b fun l o p=>Qk1 R i j k l fun q r s t=>QjC R o p fun u v=>gb true (MS n q r s t u v Tu4) (0,0,0,0) fun a=>bif Qjn (Qjo (d==a.1&&e==a.2.1) (f==a.2.2.1&&g==a.2.2.2)) (Qjo (d==a.2.2.1&&e==a.2.2.2) (f==a.1&&g==a.2.1)) then k0 else KO h h2 d e f g k0 k1 m (wJ (c+1)) else k1 c (decide (c<h2))
def Ga (a0:LL) (a b c d:Int) (K:Qko R):oP R:=KO n a0 (a0.length:Int) a b c d (K true) (fun e f=>K false) n 0
def Jz (n:Nat) (i j k l a c:Int) (a1:LL) (K:Qko R):oP R:=bif (a1.length:Int)==0 then K true else Qjp R (Qjo ((a1.length:Int)==1) (a !=(-1:Int))) fun o=>Qjs R o (Q1 a1 0) fun d=>Qjs R o d[4]? fun e=>Qjs R o (pIw e) fun b=>Qjp R (Qjo o (a==b)) fun p=>Qjs R p (Q1 a1 0) fun f=>Qjs R p f[5]? fun g=>Qjs R p (pIw g) fun h=>K (Qjo p (c !=h))
def RC (n:Nat) (d e c f:LL) (a b:Int) (K:Qko R):oP R:=K (Qjo (Qjo (decide (a>=0)) (decide (a<(c.length:Int)))) (Qjn (b==0) (b==1)))
def SH (n:Nat) (a b:Int) (K:Qkt R):oP R:=bif b==0 then K a 1 else K a 0
def M8 (n:Nat) (a b:Int) (K:Qkt R):oP R:=bif b==0 then K a 1 else K a 0
def JB (n:Nat) (h:LL) (c d e f g:Int) (k0:Qkj R) (k1:Qkk R):Qkl R
 | 0,_=>none
 | m+1,b=>bif decide (b<c) then QjE R h b fun a o p q=>QjO R a fun r s=>Qjr R a[5]? fun u=>Qk1 R o p q r fun i j k l=>bif Qjn (Qjo (i==d&&j==e) (k==f&&l==g)) (Qjo (i==f&&j==g) (k==d&&l==e)) then Qjr R (pIw s) fun t=>k0 t else JB n h c d e f g k0 k1 m (wJ (b+1)) else k1 b (decide (b<c))
def Jn (j k l c:LL) (e f g h:Int) (K:Qkk R):oP R:=Qjr R (SH n e f Tu2) fun a=>Qjr R (M8 n g h Tu2) fun r2=>Qjr R (SH n r2.1 r2.2 Tu2) fun d=>JB n c (c.length:Int) a.1 a.2 d.1 d.2 (fun i=>K i true) (fun m o=>K 0 false) n 0
def Qc (n:Nat) (a0:LL) (a1:Int) (K:Qkp R):oP R:=bif Nat.beq a0.length 1&&decide (0<=a1)&&decide (a1<=100000) then K (List.replicate a1.toNat (a0.headD [])) else none
def Ud (n:Nat) (e:List UInt8) (a b c d:Int) (K:Qko R):oP R:=K (Qjo (Qjo (Qjo (Qjo (Qjo (Qjo (Qjo (decide (a>=1)) (decide (a<=40))) (decide (b>=1000))) (decide (b<=100000))) (decide (c>=100))) (decide (c<=2000))) (decide (d>=100))) (decide (d<=2000)))
def WY (n:Nat) (a:LL) (b:Int) (K:Qkp R):oP R:=Qjr R (slB a.length none (some (wJ ((a.length:Int)-b)))) fun c=>K (cut a c)
def MC (n:Nat) (a0:Int) (K:Qko R):oP R:=K (Qjn (Qjo (decide (a0>=97)) (decide (a0<=122))) (Qjo (decide (a0>=65)) (decide (a0<=90))))
def Q0f (n:Nat) (a0:Int) (K:Qko R):oP R:=K (Qjo (decide (a0>=48)) (decide (a0<=57)))
def RR (b:List UInt8) (k0:oP R) (k1:Qkk R):Qkl R
 | 0,_=>none
 | m+1,a=>Qjp R (decide (a<(b.length:Int))) fun h=>bif h then Qjr R (Vw b a) fun e=>Qjr R (MC n e some) fun c=>Qjs R (!c) (Vw b a) fun f=>Qjs R (!c) (Q0f n f some) fun d=>Qjs R (Qjo (!c) (!d)) (Vw b a) fun g=>bif Qjo (Qjo (!c) (!d)) (g !=95) then k0 else RR b k0 k1 m (wJ (a+1)) else k1 a h
def N9 (a0:List UInt8) (K:Qko R):oP R:=Qjp R (Qjn (decide ((a0.length:Int)<1)) (decide ((a0.length:Int)>12))) fun d=>Qjs R (!d) (Vw a0 0) fun a=>Qjs R (!d) (MC n a some) fun r2=>bif Qjn d (!r2) then K false else RR n a0 (K false) (fun b c=>K true) n 1
def So (n:Nat) (c:LL) (b:Int) (k0:oP R) (k1:Qkk R):Qkl R
 | 0,_=>none
 | m+1,a=>bif decide (a<b) then Qk9 R c a fun f=>Qk9 R c b fun i=>bif f==i then k0 else So n c b k0 k1 m (wJ (a+1)) else k1 a (decide (a<b))
def Nv (a0:LL) (a1:Int) (K:Qkj R):oP R:=Qk9 R a0 a1 fun c=>Qjr R (N9 n c some) fun d=>bif !d then K 3 else So n a0 a1 (K 5) (fun e f=>K 0) n 0
def Yy (n:Nat) (b:LL) (k0:Qkm R):Qkn R
 | 0,_,_=>none
 | m+1,a,c=>Qjp R (decide (a<(b.length:Int))) fun h=>bif h then Qk9 R b a fun d=>Qjr R (Y9 ((c.length+[[D.str d]].length)*16)) fun g=>Yy n b k0 m (wJ (a+1)) (c++[[D.str d]]) else k0 a h c
def K9 (c d a e:LL) (K:Qkp R):oP R:=Yy n a (fun f g b=>K b) n 0 []
def GH (n:Nat) (a0 a1 a2:Int) (K:Qko R):oP R:=K (Qjo (decide (a0>=a1)) (decide (a0<=a2)))
def DW (n:Nat) (c d e f g h a b:Int) (K:Qko R):oP R:=K (Qjn (Qjo (c==a) (d==b)) (Qjo (e==a) (f==b)))
def TK (d:Int) (e:LL) (f g:Int) (k0:Int->Int->Bool->D->D->D->D->D->D->oP R):Nat->Int->Int->D->D->D->D->D->D->oP R
 | 0,_,_,_,_,_,_,_,_=>none
 | m+1,h,a,i,j,k,l,o,p=>bif decide (a<d) then QjE R e a fun b q r s=>Qk2 R b fun t u v=>Qk1 R q r s t fun x y z aa=>QjC R u v fun ab ac=>Qjr R (DW n x y z aa ab ac f g some) fun ad=>bif ad then QjE R e a fun c ae ag ah=>Qk2 R c fun ai aj ak=>TK d e f g k0 m (wJ (h+1)) (wJ (a+1)) ae ag ah ai aj ak else TK d e f g k0 m h (wJ (a+1)) i j k l o p else k0 h a (decide (a<d)) i j k l o p
def CF (p q r f:LL) (a1 h i:Int) (K:Qko R):oP R:=Qjr R (Q1 f a1) fun b=>Qjr R b[0]? fun s=>Qjr R b[1]? fun t=>Qkb R b (Qjr R b[4]? fun g=>Qjr R b[5]? fun j=>Qjq R (Q4 0) fun ah=>TK n a1 f h i (fun a x y z aa ab ac k l=>Qjp R (a==0) fun ag=>Qjs R (!ag&&a==1) (pIw g) fun c=>Qjp R (Qjo (a==1) (decide (c>=0))) fun ad=>QjK R k (!ag&&ad) g fun d e=>Qjp R (Qjo ad (d==e)) fun ae=>QjK R l (!ag&&ae) j fun m o=>K (Qjn ag (Qjo ae (m !=o)))) n 0 0 ah ah ah ah ah ah)
def K5 (e:Int) (f:LL) (g h i j:Int) (k0:oP R) (k1:Qkk R):Qkl R
 | 0,_=>none
 | m+1,b=>bif decide (b<e) then QjE R f b fun c k l o=>Qk2 R c fun p q r=>Qk1 R k l o p fun s t u v=>QjC R q r fun x y=>Qjr R (DW n s t u v x y g h some) fun a=>Qjs R a (Q1 f b) fun d=>Qkg R d a fun z aa=>Qjs R a d[2]? fun ab=>Qjs R a d[3]? fun ac=>Qjs R a d[4]? fun ad=>Qjs R a d[5]? fun ae=>QjK R z a aa fun ag ah=>QjK R ab a ac fun ai aj=>QjK R ad a ae fun ak al=>Qjs R a (DW n ag ah ai aj ak al i j some) fun am=>bif Qjo a am then k0 else K5 e f g h i j k0 k1 m (wJ (b+1)) else k1 b (decide (b<e))
def Jm (p i g h:LL) (a1:Int) (K:Qkj R):oP R:=QjE R h a1 fun e q r s=>Qk2 R e fun t u v=>Qjr R (pIw q) fun z=>Qjq R (wJ ((g.length:Int)-1)) fun ap=>Qjr R (GH n z 0 ap some) fun a=>Qjs R (!(!a)) (pIw s) fun aa=>Qjs R (!(!a)) (GH n aa 0 ap some) fun b=>Qjp R (Qjn (!a) (!b)) fun al=>Qjs R (!al) (pIw r) fun ab=>Qjs R (!al) (GH n ab 0 1 some) fun c=>Qjp R (Qjn al (!c)) fun ao=>Qjs R (!ao) (pIw t) fun ac=>Qjs R (!ao) (GH n ac 0 1 some) fun d=>Qjp R (Qjn ao (!d)) fun ak=>Qjs R (!ak) (pIw u) fun ad=>Qjs R (!ak) (GH n ad (-1:Int) (wJ ((i.length:Int)-1)) some) fun f=>Qjp R (Qjn ak (!f)) fun am=>Qjs R (!am) (pIw v) fun ae=>Qjs R (!am) (GH n ae 0 1 some) fun j=>Qjp R (Qjn am (!j)) fun an=>Qjs R (!an) (pIw u) fun x=>Qjs R (!an&&decide (x<0)) (pIw v) fun ag=>bif Qjn an (Qjo (decide (x<0)) (ag !=0)) then K 4 else Qk1 R q r s t fun k l m o=>bif k==m&&l==o then K 1 else K5 n a1 h k l m o (K 5) (fun ai aj=>Qjr R (CF n p i g h a1 k l some) fun y=>Qjs R (!(!y)) (CF n p i g h a1 m o some) fun ah=>bif Qjn (!y) (!ah) then K 11 else K 0) n 0
def Sj (h2:LL) (k0:Qkj R) (k1:Qkk R):Qkl R
 | 0,_=>none
 | m+1,a=>Qjp R (decide (a<(h2.length:Int))) fun c=>bif c then Qjr R (Nv n h2 a some) fun b=>bif b !=0 then k0 b else Sj h2 k0 k1 m (wJ (a+1)) else k1 a c
def Sr (b:LL) (k0:Qkj R) (k1:Qkk R):Qkl R
 | 0,_=>none
 | m+1,a=>Qjp R (decide (a<(b.length:Int))) fun d=>bif d then Qjr R (Nv n b a some) fun c=>bif c !=0 then k0 c else Sr b k0 k1 m (wJ (a+1)) else k1 a d
def VN (g h e:LL) (k0:Qkj R) (k1:Qkk R):Qkl R
 | 0,_=>none
 | m+1,b=>Qjp R (decide (b<(e.length:Int))) fun x=>bif x then Qjr R (Nv n g b some) fun i=>bif i !=0 then k0 i else QjL R e b fun c j=>Qjr R c[2]? fun k=>QjO R c fun l o=>Qjr R (pIw j) fun p=>Qjr R (GH n p 1 400 some) fun a=>Qjs R (!(!a)) (pIw k) fun q=>Qjs R (!(!a)) (GH n q 1000 100000 some) fun d=>Qjp R (Qjn (!a) (!d)) fun v=>Qjs R (!v) (pIw l) fun r=>Qjs R (!v) (GH n r (-40:Int) 40 some) fun f=>Qjp R (Qjn v (!f)) fun y=>Qjs R (!y) (pIw o) fun s=>Qjs R (!y) (GH n s (-1:Int) (wJ ((h.length:Int)-1)) some) fun t=>bif Qjn y (!t) then k0 4 else VN g h e k0 k1 m (wJ (b+1)) else k1 b x
def VF (c d e b:LL) (k0:Qkj R) (k1:Qkk R):Qkl R
 | 0,_=>none
 | m+1,a=>Qjp R (decide (a<(b.length:Int))) fun g=>bif g then Qjr R (Jm n c d e b a some) fun f=>bif f !=0 then k0 f else VF c d e b k0 k1 m (wJ (a+1)) else k1 a g
def JD (a c b d:LL) (K:Qkj R):oP R:=bif Qjn (Qjn (Qjn (decide ((a.length:Int)>24)) (decide ((c.length:Int)>48))) (decide ((b.length:Int)>96))) (decide ((d.length:Int)>192)) then K 7 else bif (b.length:Int)==0 then K 1 else Sj n a (fun e=>K e) (fun j k=>Sr n c (fun f=>K f) (fun l m=>Qjr R (K9 n a c b d some) fun g=>VN n g a b (fun h=>K h) (fun o p=>VF n a c b d (fun i=>K i) (fun q r=>K 0) n 0) n 0) n 0) n 0
def KQ (n:Nat) (a0 a1 a2:Int) (K:Qko R):oP R:=K (Qjo (decide (a0>=a1)) (decide (a0<=a2)))
def Z1 (n:Nat) (c:LL) (b d:Int) (k0:Qkm R):Qkn R
 | 0,_,_=>none
 | m+1,h2,a=>Qjp R (decide (h2<(c.length:Int))) fun am=>bif am then QjE R c h2 fun e i j k=>Qk2 R e fun l g h=>Qjq R (wJ (h2+1)) fun an=>jn (fun (f aa:Int)=>(bif decide (f>=0) then bif aa==1 then QjC R g h fun o p=>Qjq R [[Q4 f,Q4 1,Q4 o,Q4 p]] fun ap=>Qjr R (Y9 ((a.length+ap.length)*32)) fun ai=>Z1 n c b d k0 m an (a++ap) else QjC R g h fun q r=>Qjq R [[Q4 f,Q4 0,Q4 q,Q4 r]] fun aq=>Qjr R (Y9 ((a.length+aq.length)*32)) fun aj=>Z1 n c b d k0 m an (a++aq) else Z1 n c b d k0 m an a:oP R)) fun s=>Qjr R (pIw i) fun t=>Qjs R (t==b) (pIw j) fun ab=>bif Qjo (t==b) (ab==d) then QjC R k l fun ac ad=>s ac ad else Qjr R (pIw k) fun u=>Qjs R (u==b) (pIw l) fun ae=>bif Qjo (u==b) (ae==d) then QjC R i j fun ag ah=>s ag ah else bif decide ((-1:Int)>=0) then Qjq R (Q4 (-1:Int)) fun ao=>bif 0==1 then QjC R g h fun v x=>Qjq R [[ao,Q4 1,Q4 v,Q4 x]] fun ar=>Qjr R (Y9 ((a.length+ar.length)*32)) fun ak=>Z1 n c b d k0 m an (a++ar) else QjC R g h fun y z=>Qjq R [[ao,Q4 0,Q4 y,Q4 z]] fun au=>Qjr R (Y9 ((a.length+au.length)*32)) fun al=>Z1 n c b d k0 m an (a++au) else Z1 n c b d k0 m an a else k0 h2 am a
def B1 (f g h a:LL) (b c:Int) (K:Qkp R):oP R:=bif c==1 then Z1 n a b 0 (fun i j d=>K d) n 0 [] else Z1 n a b 1 (fun k l e=>K e) n 0 []
def P9 (n:Nat) (h2:LL) (c d:Int) (k0:D->D->D->D->oP R) (k1:Qkk R):Qkl R
 | 0,_=>none
 | m+1,a=>Qjp R (decide (a<(h2.length:Int))) fun p=>bif p then QjP R h2 a fun f g=>QjC R f g fun h i=>bif h==c&&i==d then QjT R h2 a fun j k l o=>k0 j k l o else P9 n h2 c d k0 k1 m (wJ (a+1)) else k1 a p
def Js (a b c d:LL) (e f g h:Int) (K:D->D->D->D->Bool->oP R):oP R:=Qjr R (B1 n a b c d e f some) fun i=>P9 n i g h (fun j k l m=>K j k l m true) (fun o p=>K (Q4 0) (Q4 0) (Q4 0) (Q4 0) false) n 0
def Yw (c a:LL) (k0:oP R) (k1:Qkk R):Qkl R
 | 0,_=>none
 | m+1,h2=>Qjp R (decide (h2<(a.length:Int))) fun k=>bif k then QjD R a h2 fun f=>Qjr R (KQ n f 0 (wJ ((c.length:Int)-1)) some) fun b=>Qk0 R a h2 (!(!b)) fun i=>Qjs R (!(!b)) (KQ n i 0 1 some) fun j=>bif Qjn (!b) (!j) then k0 else Yw c a k0 k1 m (wJ (h2+1)) else k1 h2 k
def Gi (n:Nat) (b:Int) (c:LL) (k0:oP R) (k1:Qkk R):Qkl R
 | 0,_=>none
 | m+1,a=>bif decide (a<b) then QjD R c a fun f=>QjD R c b fun i=>bif f==i then k0 else Gi n b c k0 k1 m (wJ (a+1)) else k1 a (decide (a<b))
def Vq (b:LL) (k0:oP R) (k1:Qkk R):Qkl R
 | 0,_=>none
 | m+1,a=>Qjp R (decide (a<(b.length:Int))) fun e=>bif e then Gi n a b k0 (fun c d=>Vq b k0 k1 m (wJ (a+1))) n 0 else k1 a e
def Ys (c d e f b:LL) (k0:oP R) (k1:Qkk R):Qkl R
 | 0,_=>none
 | m+1,a=>Qjp R (decide (a<(b.length:Int))) fun s=>bif s then QjP R b (wJ (a-1)) fun i j=>QjP R b a fun k l=>Qk1 R i j k l fun o p q r=>Qjr R (Js n c d e f o p q r Tu5) fun x=>bif !x.2.2.2.2 then k0 else Ys c d e f b k0 k1 m (wJ (a+1)) else k1 a s
def Vy (d e b f a:LL) (c:Int) (K:Qkj R):oP R:=Qjr R (JD n d e b f some) fun g=>bif g !=0 then K 1 else bif Qjn (decide ((a.length:Int)>24)) (decide (c>2)) then K 7 else bif Qjn (decide (c<0)) (decide (wJ ((a.length:Int)-c)<2)) then K 4 else Yw n b a (K 4) (fun h i=>Vq n a (K 5) (fun j k=>Ys n d e b f a (K 11) (fun l m=>K 0) n 1) n 0) n 0
def N7 (n:Nat) (a b:Int) (K:Qkt R):oP R:=bif b==0 then K a 0 else K a 1
def Zh (n:Nat) (d:LL) (b:Int) (k0:Qkm R):Qkn R
 | 0,_,_=>none
 | m+1,a,c=>bif decide (a<b) then QjD R d a fun e=>Qjr R (Y9 ((c.length+[[Q4 e,Q4 0]].length)*16)) fun h=>Zh n d b k0 m (wJ (a+1)) (c++[[Q4 e,Q4 0]]) else k0 a (decide (a<b)) c
def Zp (n:Nat) (c:LL) (k0:Qkm R):Qkn R
 | 0,_,_=>none
 | m+1,a,b=>bif decide (a>=0) then QjD R c a fun d=>Qjr R (Y9 ((b.length+[[Q4 d,Q4 1]].length)*16)) fun g=>Zp n c k0 m (wJ (a-1)) (b++[[Q4 d,Q4 1]]) else k0 a (decide (a>=0)) b
def Yl (a c:LL) (a1 a2 d:Int) (p:Bool) (K:Qkq R):oP R:=QjR R c.length a1 c a1.toNat fun b=>Qjq R (wJ (a1+1)) fun aw=>Qjq R (Int.toNat aw) fun ax=>bif p then QjR R a.length a1 a a1.toNat fun s=>QjR R a.length a1 a a1.toNat fun e=>Qjr R (nz (e.length:Int)) fun az=>QjD R s (Int.tmod a2 (e.length:Int)) fun f=>Qjr R (Y9 ([[Q4 f,Q4 0]].length*16)) fun ba=>Zh n b (b.length:Int) (fun bb bc g=>QjR R a.length aw a ax fun aa=>QjR R a.length aw a ax fun h=>Qjr R (nz (h.length:Int)) fun bg=>QjD R aa (Int.tmod d (h.length:Int)) fun i=>Qjr R (Y9 ((g.length+[[Q4 i,Q4 0]].length)*16)) fun bh=>K (g++[[Q4 i,Q4 0]]) 0) n 0 [[Q4 f,Q4 0]] else QjR R a.length aw a ax fun ai=>QjR R a.length aw a ax fun j=>Qjr R (nz (j.length:Int)) fun bk=>QjD R ai (Int.tmod d (j.length:Int)) fun k=>Qjr R (Y9 ([[Q4 k,Q4 1]].length*16)) fun bl=>Zp n b (fun bm bn l=>QjR R a.length a1 a a1.toNat fun ap=>QjR R a.length a1 a a1.toNat fun m=>Qjr R (nz (m.length:Int)) fun bq=>QjD R ap (Int.tmod a2 (m.length:Int)) fun o=>Qjr R (Y9 ((l.length+[[Q4 o,Q4 1]].length)*16)) fun br=>K (l++[[Q4 o,Q4 1]]) 0) n (wJ ((b.length:Int)-1)) [[Q4 k,Q4 1]]
def ZG (c:LL) (k0:Int->Bool->LL->Int->oP R):Nat->Int->LL->Int->oP R
 | 0,_,_,_=>none
 | m+1,a,b,d=>bif decide (a<3) then Qjr R (Q5 n c d 2 Tu2) fun e=>QjF R 3 a b a.toNat fun h=>ZG c k0 m (wJ (a+1)) (List.set b a.toNat (List.set h 0 (Q4 e.1))) e.2 else k0 a (decide (a<3)) b d
def QB (k:Bool) (g:Int) (j l o h:LL) (k0:QkB R):QkC R
 | 0,_,_,_,_=>none
 | m+1,a,i,b,t=>bif decide (a<g) then Qjq R (wJ (a+1)) fun ba=>Qjp R (decide (ba<g)) fun c=>bif !k then Qjq R (wJ (wJ (g-1)-a)) fun ax=>QjJ R 3 ax j (Int.toNat ax) fun z=>QjJ R 3 (wJ (ax+1)) j (Int.toNat (wJ (ax+1))) fun ac=>Qjr R (Yl n l o ax z ac k Tu2) fun e=>Qjq R [[D.sl 2 e.1,Q4 e.2]] fun az=>Qjr R (Y9 ((b.length+az.length)*32)) fun am=>Qjr R (Q5 n h t 3 Tu2) fun p=>Qjq R (Q4 (wJ (((List.length (b++az):Nat):Int)-1))) fun aw=>bif c then Qjr R (Q5 n h p.2 6 Tu2) fun r=>Qjr R (Q5 n h r.2 4 Tu2) fun u=>Qjq R [[aw,Q4 p.1,Q4 (wJ (5+r.1)),Q4 (wJ (wJ (5+r.1)+u.1))]] fun bb=>Qjr R (Y9 ((i.length+List.length bb)*32)) fun an=>QB k g j l o h k0 m ba (i++bb) (b++az) u.2 else Qjq R [[aw,Q4 p.1,Q4 0,Q4 0]] fun be=>Qjr R (Y9 ((i.length+List.length be)*32)) fun ao=>QB k g j l o h k0 m ba (i++be) (b++az) p.2 else QjJ R 3 a j a.toNat fun ag=>QjJ R 3 ba j (Int.toNat ba) fun aj=>Qjr R (Yl n l o a ag aj k Tu2) fun f=>Qjq R [[D.sl 2 f.1,Q4 f.2]] fun ay=>Qjr R (Y9 ((b.length+ay.length)*32)) fun ar=>Qjr R (Q5 n h t 3 Tu2) fun q=>Qjq R (Q4 (wJ (((List.length (b++ay):Nat):Int)-1))) fun d=>bif c then Qjr R (Q5 n h q.2 6 Tu2) fun s=>Qjr R (Q5 n h s.2 4 Tu2) fun v=>Qjq R [[d,Q4 q.1,Q4 (wJ (5+s.1)),Q4 (wJ (wJ (5+s.1)+v.1))]] fun bc=>Qjr R (Y9 ((i.length+List.length bc)*32)) fun au=>QB k g j l o h k0 m ba (i++bc) (b++ay) v.2 else Qjq R [[d,Q4 q.1,Q4 0,Q4 0]] fun bh=>Qjr R (Y9 ((i.length+List.length bh)*32)) fun av=>QB k g j l o h k0 m ba (i++bh) (b++ay) q.2 else k0 a (decide (a<g)) i b t
def Uu (e f b:LL) (g:Int) (h c:LL) (i:Bool) (j:Int) (K:Int->LL->LL->oP R):oP R:=Qjr R (Vc n (bs [78]) (c.length:Int) some) fun a=>Qjr R (Q5 n b g 4 Tu2) fun r2=>ZG n b (fun q r l m=>QB n i j l e f b (fun s t d o p=>Qjq R [[D.str a,Q4 0,Q4 r2.1,D.sl 4 d]] fun k=>Qjr R (Y9 ((c.length+k.length)*56)) fun u=>K p o (c++k)) n 0 [] h m) n 0 [[Q4 0],[Q4 0],[Q4 0]] r2.2
def Nd (n:Nat) (q:Int) (r c d s t u v:LL) (a1 a2:Int) (K:Qkj R):oP R:=QjM R d a1 fun g=>QjD R g a2 fun j=>QjG R c j fun a b=>Qjr R a[1]? fun x=>Qjr R (pSl 2 b) fun k=>Qjr R (pSl 2 b) fun l=>QjD R k (wJ ((l.length:Int)-1)) fun p=>K p
def Pp (n:Nat) (p:Int) (q a b r s t u:LL) (a1 a2:Int) (K:Qkj R):oP R:=QjM R b a1 fun e=>QjD R e a2 fun h=>Qkf R a h fun k=>QjD R k 0 fun o=>K o
def Yg (c p:Int) (q r f s t u h:LL) (v:Int) (k0:QkD R):QkE R
 | 0,_,_,_,_,_=>none
 | m+1,b,i,j,g,y=>bif decide (b<p) then Qjr R (Q5 n h y 3 Tu2) fun a=>Qjp R (decide (a.1>0)) fun ar=>Qjs R ar (inB 4 c) fun al=>Qjs R ar i[c.toNat]? fun z=>Qjs R ar z[0]? fun aa=>Qjs R ar (KA aa) fun d=>Qjp R (Qjo ar (!d)) fun k=>Qjs R k (inB 4 b) fun am=>Qjs R k j[b.toNat]? fun ab=>Qjs R k ab[0]? fun ac=>Qjs R k (KA ac) fun e=>Qjp R (Qjo k (!e)) fun l=>Qjs R l (inB f.length c) fun an=>Qjs R l f[c.toNat]? fun ad=>Qjs R l ad[3]? fun ae=>Qjs R l (pSl 4 ae) fun ag=>Qjs R l (Nd n v q r f s g t u c (wJ ((ag.length:Int)-1)) some) fun ah=>Qjs R l (Pp n v q r f s g t u b 0 some) fun ai=>bif Qjo l (ah==ai) then QjF R 4 c i c.toNat fun aj=>QjF R 4 b j b.toNat fun ak=>Qjr R (Q5 n h a.2 10 Tu2) fun o=>Qjr R (Q5 n h o.2 30 Tu2) fun x=>Qjq R [[Q4 c,Q4 b,Q4 (wJ (10+o.1)),Q4 (wJ (wJ (10+o.1)+x.1))]] fun au=>Qjr R (Y9 ((g.length+au.length)*32)) fun aq=>Yg c p q r f s t u h v k0 m (wJ (b+1)) (List.set i c.toNat (List.set aj 0 (D.bool true))) (List.set j b.toNat (List.set ak 0 (D.bool true))) (g++au) x.2 else Yg c p q r f s t u h v k0 m (wJ (b+1)) i j g a.2 else k0 b (decide (b<p)) i j g y
def WF (a:Int) (c d b e f g h:LL) (i:Int) (k0:QkD R):QkE R
 | 0,_,_,_,_,_=>none
 | m+1,h2,j,k,l,o=>bif decide (h2<a) then Yg n h2 (b.length:Int) c d b e f g h i (fun t u p q r s=>WF a c d b e f g h i k0 m (wJ (h2+1)) p q r s) n 0 j k l o else k0 h2 (decide (h2<a)) j k l o
def SO (b:LL) (c d:Int) (e f a g h i j:LL) (K:Qky R):oP R:=Qjq R [D.bool false] fun r=>WF n (a.length:Int) e f a g i j b d (fun m o p q k l=>K l k) n 0 [r,r,r,r] [r,r,r,r] h c
def Nm (n:Nat) (a0:LL) (K:Qkq R):oP R:=K a0 0
def JF (c g e:LL) (k0:Int->Bool->Int->LL->LL->oP R):Qkz R
 | 0,_,_,_,_=>none
 | m+1,d,h,i,j=>bif decide (d>0) then Qjr R (Q5 n c h 2 Tu2) fun k=>Qjr R (Q5 n c k.2 (e.length:Int) Tu2) fun l=>gb true (Uu n g e c l.2 i j (k.1==0) (wJ (1+l.1)) Tu3) (0,[],[]) fun f=>JF c g e k0 m (wJ (d-1)) f.1 f.2.1 f.2.2 else k0 d (decide (d>0)) h i j
def Vz (h:Int) (e k l a f o:LL) (k0:QkF R):Qkx R
 | 0,_,_,_=>none
 | m+1,i,t,g=>Qjq R (a.length:Int) fun ar=>Qjp R (Qjo (decide (i>0)) (decide (ar>1))) fun b=>bif b then Qjr R (Q5 n e t ar Tu2) fun d=>Qjr R (Q5 n e d.2 3 Tu2) fun s=>Qjr R (nz ar) fun ak=>QjF R a.length d.1 a (Int.toNat d.1) fun x=>Qjr R x[3]? fun y=>Qjr R (pSl 4 y) fun z=>Qjr R (Q5 n e s.2 (z.length:Int) Tu2) fun p=>Qjq R (Int.tmod (wJ (d.1+1)) ar) fun c=>QjF R a.length c a (Int.toNat c) fun aa=>Qjr R aa[3]? fun ab=>Qjr R (pSl 4 ab) fun ac=>Qjr R (Q5 n e p.2 (ac.length:Int) Tu2) fun q=>Qjr R (Q5 n e q.2 20 Tu2) fun j=>Qjr R (Q5 n e j.2 h Tu2) fun r=>Qjr R (Nd n h k l a g o [] [] d.1 p.1 some) fun u=>QjF R f.length u f u.toNat fun ad=>Qk7 R ad fun ag=>Qjr R (Pp n h k l a g o [] [] c q.1 some) fun v=>QjF R f.length v f v.toNat fun ah=>Qk7 R ah fun aj=>bif ag==aj then Qjq R [[Q4 d.1,Q4 p.1,Q4 c,Q4 q.1,Q4 j.1,Q4 (wJ (j.1+r.1)),Q4 s.1]] fun aq=>Qjr R (Y9 ((g.length+aq.length)*56)) fun ap=>Vz h e k l a f o k0 m (wJ (i-1)) r.2 (g++aq) else Vz h e k l a f o k0 m (wJ (i-1)) r.2 g else k0 i b t g
def UO (e a:LL) (k0:QkF R):Qkx R
 | 0,_,_,_=>none
 | m+1,f,j,g=>bif decide (f>0) then Qjq R (a.length:Int) fun c=>Qjr R (Q5 n e j c Tu2) fun d=>Qjr R (Q5 n e d.2 (wJ (c-1)) Tu2) fun h=>Qjr R (nz c) fun k=>Qjr R (Q5 n e h.2 9 Tu2) fun i=>Qjq R [[Q4 d.1,Q4 (Int.tmod (wJ (wJ (d.1+1)+h.1)) c),Q4 (wJ (1+i.1))]] fun b=>Qjr R (Y9 ((g.length+b.length)*24)) fun l=>UO e a k0 m (wJ (f-1)) i.2 (g++b) else k0 f (decide (f>0)) j g
def Ks (e a:LL) (k0:QkF R):Qkx R
 | 0,_,_,_=>none
 | m+1,f,j,g=>bif decide (f>0) then Qjq R (a.length:Int) fun c=>Qjr R (Q5 n e j c Tu2) fun d=>Qjr R (Q5 n e d.2 (wJ (c-1)) Tu2) fun h=>Qjr R (nz c) fun k=>Qjr R (Q5 n e h.2 9 Tu2) fun i=>Qjq R [[Q4 d.1,Q4 (Int.tmod (wJ (wJ (d.1+1)+h.1)) c),Q4 (wJ (1+i.1))]] fun b=>Qjr R (Y9 ((g.length+b.length)*24)) fun l=>Ks e a k0 m (wJ (f-1)) i.2 (g++b) else k0 f (decide (f>0)) j g
def PD (a0:LL) (K:LL->LL->LL->LL->Int->LL->LL->LL->LL->LL->LL->LL->oP R):oP R:=Qjr R (Nm n a0 Tu2) fun a=>gb true (Q1N n a.1 a.2 Tu8) ([],[],[],[],[],[],[],0) fun r2=>Qjr R (Q5 n a.1 r2.2.2.2.2.2.2.2 6 Tu2) fun c=>Qjq R [[Q4 150],[Q4 120],[Q4 180],[Q4 240],[Q4 300],[Q4 90]] fun u=>QjJ R (List.length u) c.1 u (Int.toNat c.1) fun d=>Qjr R (Q5 n a.1 c.2 2 Tu2) fun e=>Qjr R (Q5 n a.1 e.2 4 Tu2) fun f=>Qjr R (Q5 n a.1 f.2 3 Tu2) fun g=>Qjr R (Q5 n a.1 g.2 3 Tu2) fun h=>Qjr R (Q5 n a.1 h.2 3 Tu2) fun p=>JF n a.1 r2.2.2.2.2.1 r2.2.2.2.2.2.1 (fun ad ae y j i=>Qjq R [[D.str (bs [88]),Q4 (wJ (1+e.1)),Q4 (wJ (10000+wJ (5000*f.1))),Q4 (wJ (400+wJ (200*g.1))),Q4 (wJ (400+wJ (200*h.1)))]] fun b=>gb true (SO n a.1 y d b j i [] [] [] [] Tu2) (0,[]) fun k=>Qjr R (Q5 n a.1 k.1 3 Tu2) fun q=>Vz n d a.1 b j i r2.2.2.1 k.2 (fun ag ah z r=>Qjr R (Q5 n a.1 z 4 Tu2) fun m=>bif Qjo (m.1==3) (decide ((i.length:Int)>1)) then Qjr R (Q5 n a.1 m.2 d Tu2) fun o=>Qjq R [[Q4 0,Q4 0,Q4 1,Q4 0,Q4 o.1]] fun v=>Qjr R (Y9 ((List.length ([]:LL)+v.length)*40)) fun ai=>Qjr R (Q5 n a.1 o.2 3 Tu2) fun s=>UO n a.1 r2.1 (fun aj ak al aa=>K r2.1 r2.2.1 r2.2.2.1 r2.2.2.2.1 d b j i r k.2 ([]++v) aa) n s.1 s.2 [] else Qjr R (Q5 n a.1 m.2 3 Tu2) fun t=>Ks n a.1 r2.1 (fun am an ao ab=>K r2.1 r2.2.1 r2.2.2.1 r2.2.2.2.1 d b j i r k.2 [] ab) n t.1 t.2 []) n q.1 q.2 []) n (wJ (1+p.1)) p.2 [] []
def US (n:Nat) (a b:List UInt8) (K:Qko R):oP R:=K (a==b)
def QL (c:LL) (h2:Int) (d:List UInt8) (k0:Qkj R) (k1:Qkk R):Qkl R
 | 0,_=>none
 | m+1,a=>bif decide (a<h2) then QjE R c a fun b e f g=>QjO R b fun h i=>Qjr R (Rw e) fun j=>QjS R f g (QjS R h i (Qjr R (US n j d some) fun k=>bif k then k0 a else QL c h2 d k0 k1 m (wJ (a+1)))) else k1 a (decide (a<h2))
def Xz (a0:LL) (a:List UInt8) (K:Qkj R):oP R:=QL n a0 (a0.length:Int) a (fun b=>K b) (fun c d=>K (-1:Int)) n 0
def Xo (a0:LL) (a:List UInt8) (K:Qko R):oP R:=Qjr R (Xz n a0 a some) fun b=>K (decide (b>=0))
def Jp (d:LL) (h2:Int) (c:LL) (k0:Qkj R) (k1:Qkk R):Qkl R
 | 0,_=>none
 | m+1,a=>bif decide (a<h2) then QjE R d a fun b e g h=>QjO R b fun i j=>Qjr R (Rw e) fun k=>Qjr R (GW n k some) fun l=>bif !l then k0 3 else Qjr R (slB c.length none (some a)) fun o=>Qjr R (Rw e) fun f=>Qk1 R g h i j fun p q r s=>Qjr R (Xo n (cut c o) f some) fun t=>bif t then k0 5 else Qjr R (Ud n f p q r s some) fun u=>bif !u then k0 4 else Jp d h2 c k0 k1 m (wJ (a+1)) else k1 a (decide (a<h2))
def WK (c d e f:LL) (g:Int) (a h i j k l m:LL) (K:Qkj R):oP R:=Jp n a (a.length:Int) a (fun b=>K b) (fun o p=>K 0) n 0
def Zx (n:Nat) (a b:List UInt8) (K:Qko R):oP R:=K (a==b)
def Qa (c:LL) (h2:Int) (d:List UInt8) (k0:Qkj R) (k1:Qkk R):Qkl R
 | 0,_=>none
 | m+1,a=>bif decide (a<h2) then QjT R c a fun e f g h=>Qjr R (Rw e) fun i=>QjS R f g (Qjr R (pSl 4 h) fun o=>Qjr R (Zx n i d some) fun j=>bif j then k0 a else Qa c h2 d k0 k1 m (wJ (a+1))) else k1 a (decide (a<h2))
def QU (a0:LL) (a:List UInt8) (K:Qkj R):oP R:=Qa n a0 (a0.length:Int) a (fun b=>K b) (fun c d=>K (-1:Int)) n 0
def Qo (a0:LL) (a:List UInt8) (K:Qko R):oP R:=Qjr R (QU n a0 a some) fun b=>K (decide (b>=0))
def HV (n:Nat) (a0:Int) (K:Qko R):oP R:=K (Qjo (decide (a0>=0)) (decide (a0<=1048576)))
def GN (n:Nat) (a:Int) (b c d e f g h:LL) (a1 a2:Int) (K:Qko R):oP R:=K (Qjo (Qjo (Qjo (decide (0<=a1)) (decide (a1<=a2))) (decide (a2<=7200))) (decide (a2<wJ (a1+a))))
def HM (n:Nat) (i:Int) (j a k l m o p:LL) (b q r s:Int) (K:Qkj R):oP R:=Qkf R a b fun e=>QjD R e 0 fun h=>K h
def Px (n:Nat) (l:Int) (m a o p q r s:LL) (b t u v:Int) (K:Qkj R):oP R:=Qkf R a b fun c=>QjN R a b fun h=>QjD R c (wJ (wJ ((c.length:Int)-h)-1)) fun k=>K k
def JE (n:Nat) (b:Int) (c d a e f g h:LL) (a1:Int) (K:Qko R):oP R:=K (Qjo (decide (a1>=0)) (decide (a1<(a.length:Int))))
def WU (c:Int) (d e b f g h i:LL) (a1 a2:Int) (K:Qko R):oP R:=Qjr R (JE n c d e b f g h i a1 some) fun a=>Qjp R (Qjo a (decide (a2>=0))) fun l=>Qjs R l (Q1 b a1) fun r2=>Qjs R l r2[3]? fun j=>Qjs R l (pSl 4 j) fun k=>K (Qjo l (decide (a2<(k.length:Int))))
def YA (x:LL) (h2:Int) (s:LL) (e:Int) (f g b h i j k:LL) (k0:Qkj R) (k1:Qkk R):Qkl R
 | 0,_=>none
 | m+1,p=>bif decide (p<h2) then QjE R x p fun d t y u=>Qk2 R d fun z ab ac=>Qjr R d[6]? fun ad=>QjC R t y fun ae ag=>Qjr R (WU n e f g b h i j k ae ag some) fun a=>QjK R u (!(!a)) z fun ah ai=>Qjs R (!(!a)) (WU n e f g b h i j k ah ai some) fun c=>Qjp R (Qjn (!a) (!c)) fun cb=>QjK R t (!cb) u fun l o=>Qjp R (Qjn cb (l==o)) fun ca=>QjK R ab (!ca) ac fun aj ak=>Qjs R (!ca) (GN n e f g b h i j k aj ak some) fun v=>Qjp R (Qjn ca (!v)) fun cc=>Qjs R (!cc) (pIw ad) fun al=>Qjs R (!cc) (HV n al some) fun am=>bif Qjn cc (!am) then k0 4 else Qjr R (pIw t) fun an=>QjM R b an fun aq=>Qjr R (pIw y) fun ar=>QjT R aq ar fun au av aw ax=>Qk1 R au av aw ax fun ay az ba bb=>Qjr R (Px n e f g b h i j k ay az ba bb some) fun bc=>Qjr R (Q1 s bc) fun bd=>Qjr R bd[4]? fun be=>QjC R be u fun aa bg=>QjM R b bg fun bj=>Qjr R (pIw z) fun bk=>QjT R bj bk fun bl bm bn bo=>Qk1 R bl bm bn bo fun bp bq br bt=>Qjr R (HM n e f g b h i j k bp bq br bt some) fun bu=>Qjr R (Q1 s bu) fun bv=>Qk7 R bv fun bz=>bif Qjn (aa==(-1:Int)) (aa !=bz) then k0 11 else YA x h2 s e f g b h i j k k0 k1 m (wJ (p+1)) else k1 p (decide (p<h2))
def Wa (k l b m:LL) (c:Int) (d e f a g h i:LL) (K:Qkj R):oP R:=YA n a (a.length:Int) b c d e f a g h i (fun j=>K j) (fun o p=>K 0) n 0
def Zu (n:Nat) (a b c d:Int) (K:Qko R):oP R:=K (Qjn (a==c) (b==d))
def Qb (c:LL) (h2 d e:Int) (k0:Qkj R) (k1:Qkk R):Qkl R
 | 0,_=>none
 | m+1,a=>bif decide (a<h2) then QjT R c a fun f g h i=>QjC R f g fun j k=>QjS R h i (Qjr R (Zu n j k d e some) fun l=>bif l then k0 a else Qb c h2 d e k0 k1 m (wJ (a+1))) else k1 a (decide (a<h2))
def QV (a0:LL) (a b:Int) (K:Qkj R):oP R:=Qb n a0 (a0.length:Int) a b (fun c=>K c) (fun d e=>K (-1:Int)) n 0
def Qm (a0:LL) (a b:Int) (K:Qko R):oP R:=Qjr R (QV n a0 a b some) fun c=>K (decide (c>=0))
def Zr (u:LL) (h2 c:Int) (d e a f b g h:LL) (k0:Qkj R) (k1:Qkk R):Qkl R
 | 0,_=>none
 | m+1,i=>bif decide (i<h2) then QjT R u i fun v x y z=>Qjr R (pIw v) fun ad=>Qjr R (JE n c d e a f b g h ad some) fun j=>Qjs R (!(!j)) (pIw x) fun ae=>Qjs R (!(!j)) (JE n c d e a f b g h ae some) fun l=>Qjp R (Qjn (!j) (!l)) fun bt=>QjK R y (!bt) z fun ag ah=>Qjs R (!bt) (GN n c d e a f b g h ag ah some) fun ai=>bif Qjn bt (!ai) then k0 4 else Qjr R (slB b.length none (some i)) fun aj=>QjC R v x fun aa ab=>QjS R y z (Qjr R (Qm n (cut b aj) aa ab some) fun ak=>bif ak then k0 5 else QjL R a aa fun o al=>Qk6 R o fun ac=>QjL R a ab fun p am=>Qk6 R p fun an=>Qjr R (pSl 4 ac) fun ao=>Qjr R (pSl 4 ac) fun ap=>QjT R ao (wJ ((ap.length:Int)-1)) fun aq ar au av=>Qk1 R aq ar au av fun aw ax ay az=>Qjr R (Px n c d e a f b g h aw ax ay az some) fun s=>Qjr R (pSl 4 an) fun ba=>QjT R ba 0 fun bb bc bd be=>Qk1 R bb bc bd be fun bg bh bi bj=>Qjr R (HM n c d e a f b g h bg bh bi bj some) fun t=>QjK R al (!(s !=t)) am fun bk bl=>bif Qjn (s !=t) (bk !=bl) then k0 11 else Zr u h2 c d e a f b g h k0 k1 m (wJ (i+1))) else k1 i (decide (i<h2))
def UH (j k l m:LL) (b:Int) (c d e f a g h:LL) (K:Qkj R):oP R:=Zr n a (a.length:Int) b c d e f a g h (fun i=>K i) (fun o p=>K 0) n 0
def Ze (s:LL) (h2 g:Int) (h i j k l o p:LL) (k0:oP R) (k1:Qkk R):Qkl R
 | 0,_=>none
 | m+1,c=>bif decide (c<h2) then QjE R s c fun d t u v=>QjO R d fun x y=>QjC R t u fun aa ab=>Qjr R (WU n g h i j k l o p aa ab some) fun a=>QjK R v (!(!a)) x fun ac ad=>Qjs R (!(!a)) (WU n g h i j k l o p ac ad some) fun b=>Qjp R (Qjn (!a) (!b)) fun ag=>QjK R t (!ag) v fun e f=>QjK R u (!ag&&e==f) x fun q r=>Qjp R (Qjn ag (Qjo (e==f) (q==r))) fun ah=>Qjs R (!ah) (pIw y) fun z=>Qjp R (Qjn ah (decide (z<0))) fun ai=>Qjs R (!ai) (pIw y) fun ae=>bif Qjn ai (decide (ae>=g)) then k0 else Ze s h2 g h i j k l o p k0 k1 m (wJ (c+1)) else k1 c (decide (c<h2))
def UA (i j k l:LL) (b:Int) (c d e f g a h:LL) (K:Qkj R):oP R:=Ze n a (a.length:Int) b c d e f g a h (K 4) (fun m o=>K 0) n 0
def Yz (n:Nat) (l:LL) (h2:Int) (a:LL) (k0:oP R) (k1:Qkk R):Qkl R
 | 0,_=>none
 | m+1,e=>bif decide (e<h2) then QjQ R l e fun h i o=>Qjr R (pIw h) fun b=>Qjs R (!(decide (b<0))) (pIw h) fun c=>Qjp R (Qjn (decide (b<0)) (decide (c>=(a.length:Int)))) fun s=>Qjs R (!s) (pIw i) fun d=>Qjp R (Qjn s (decide (d<0))) fun u=>Qjs R (!u) (pIw i) fun f=>Qjp R (Qjn u (decide (f>=(a.length:Int)))) fun r=>QjK R h (!r) i fun j k=>Qjs R (!(Qjn r (j==k))) (pIw o) fun p=>Qjp R (Qjn (Qjn r (j==k)) (decide (p<1))) fun t=>Qjs R (!t) (pIw o) fun q=>bif Qjn t (decide (q>1048576)) then k0 else Yz n l h2 a k0 k1 m (wJ (e+1)) else k1 e (decide (e<h2))
def ZU (b c d e:LL) (f:Int) (g h i j k l a:LL) (K:Qkj R):oP R:=Yz n a (a.length:Int) b (K 4) (fun m o=>K 0) n 0
def WQ (n:Nat) (b:Int) (d e:D) (k0:Qkm R):Qkn R
 | 0,_,_=>none
 | m+1,a,c=>Qjr R (pIw d) fun f=>bif decide (a<f) then Qjr R (pIw e) fun g=>Qjr R (Y9 ((c.length+[[Q4 g,Q4 b]].length)*16)) fun h=>WQ n b d e k0 m (wJ (a+1)) (c++[[Q4 g,Q4 b]]) else k0 a (decide (a<f)) c
def U2 (d a:LL) (c:Int) (k0:Qkm R):Qkn R
 | 0,_,_=>none
 | m+1,h2,e=>Qjp R (decide (h2<wJ ((a.length:Int)-c))) fun aa=>bif aa then QjD R a h2 fun k=>QjL R d k fun b f=>Qk5 R b fun g l=>Qjr R b[4]? fun u=>Qjr R (pIw l) fun h=>QjN R a h2 fun q=>bif q==1 then WQ n (wJ (0-h)) f g (fun v x r=>U2 d a c k0 m (wJ (h2+1)) r) n 0 e else WQ n h f g (fun y z s=>U2 d a c k0 m (wJ (h2+1)) s) n 0 e else k0 h2 aa e
def Ps (f g a h b:LL) (c:Int) (K:Qkw R):oP R:=Qjr R (Vy n f g a h b c some) fun d=>bif d !=0 then K [] 0 d else U2 n a b c (fun p q e=>bif decide ((e.length:Int)>4000) then K [] 0 7 else QjD R b 0 fun k=>QjN R a k fun o=>K e o 0) n 0 []
def XP (h:List UInt8) (c d e f:Int) (K:Qko R):oP R:=Qjr R (KQ n c 1 40 some) fun a=>Qjs R a (KQ n d 1000 100000 some) fun r2=>Qjp R (Qjo a r2) fun i=>Qjs R i (KQ n e 100 2000 some) fun b=>Qjs R (Qjo i b) (KQ n f 100 2000 some) fun g=>K (Qjo (Qjo i b) g)
def JL (n:Nat) (e b:LL) (c d:Int) (k0:oP R) (k1:Qkk R):Qkl R
 | 0,_=>none
 | m+1,a=>Qjp R (decide (a<wJ ((b.length:Int)-c))) fun l=>bif l then QjD R b a fun h=>QjN R e h fun k=>bif decide (k<(if 2<d then d else 2)) then k0 else JL n e b c d k0 k1 m (wJ (a+1)) else k1 a l
def PN (f g b h c:LL) (d:Int) (i:List UInt8) (e j k l:Int) (K:Qkj R):oP R:=Qjr R (Ps n f g b h c d Tu3) fun a=>bif a.2.2 !=0 then K a.2.2 else Qjr R (XP n i e j k l some) fun r2=>bif !r2 then K 1 else JL n b c d e (K 12) (fun o p=>K 0) n 0
def JI (n:Nat) (b:LL) (k0:oP R) (k1:Qkk R):Qkl R
 | 0,_=>none
 | m+1,a=>Qjp R (decide (a<(b.length:Int))) fun f=>bif f then QjM R b a fun e=>bif decide ((e.length:Int)>12) then k0 else JI n b k0 k1 m (wJ (a+1)) else k1 a f
def L8 (h:Int) (b c a d e f g:LL) (K:Qko R):oP R:=bif Qjn (Qjn (Qjn (Qjn (Qjn (Qjn (decide ((b.length:Int)>8)) (decide ((c.length:Int)>48))) (decide ((a.length:Int)>16))) (decide ((d.length:Int)>32))) (decide ((e.length:Int)>32))) (decide ((f.length:Int)>32))) (decide ((g.length:Int)>32)) then K true else JI n a (K true) (fun i j=>K false) n 0
def Vi (n:Nat) (a0 a1 a2:Int) (K:Qko R):oP R:=K (Qjo (decide (a0>=a1)) (decide (a0<=a2)))
def Gk (n:Nat) (b:Int) (c:LL) (k0:oP R) (k1:Qkk R):Qkl R
 | 0,_=>none
 | m+1,a=>bif decide (a<b) then Qk9 R c a fun f=>Qk9 R c b fun i=>bif f==i then k0 else Gk n b c k0 k1 m (wJ (a+1)) else k1 a (decide (a<b))
def G2 (s:Int) (b t u v x y z:LL) (a1:Int) (K:Qkj R):oP R:=Qk9 R b a1 fun e=>Qjr R (N9 n e some) fun f=>bif !f then K 3 else Gk n a1 b (K 5) (fun aa ab=>QjE R b a1 fun a g h i=>QjO R a fun j k=>Qjr R (Rw g) fun l=>Qk1 R h i j k fun m o p q=>Qjr R (XP n l m o p q some) fun r=>bif !r then K 4 else K 0) n 0
def GF (n:Nat) (a:Int) (b c d e f g h:LL) (a1 a2:Int) (K:Qko R):oP R:=K (Qjo (Qjo (Qjo (decide (a1>=0)) (decide (a1<=a2))) (decide (a2<wJ (a1+a)))) (decide (a2<=7200)))
def HN (n:Nat) (a:LL) (e:Int) (K:Qkj R):oP R:=QjD R a 0 fun d=>K d
def Pq (n:Nat) (a:LL) (b:Int) (K:Qkj R):oP R:=QjD R a (wJ (wJ ((a.length:Int)-b)-1)) fun e=>K e
def Wd (n:Nat) (b:Int) (c:LL) (d:D) (k0:oP R) (k1:Qkk R):Qkl R
 | 0,_=>none
 | m+1,a=>bif decide (a<b) then Qk9 R c a fun g=>Qjr R (Rw d) fun h=>bif g==h then k0 else Wd n b c d k0 k1 m (wJ (a+1)) else k1 a (decide (a<b))
def ZW (o p q r:LL) (h:Int) (i c s t u v x:LL) (y e:D) (k0:Qkj R) (k1:Qkk R):Qkl R
 | 0,_=>none
 | m+1,a=>Qjr R (pSl 4 e) fun z=>Qjp R (decide (a<(z.length:Int))) fun ce=>bif ce then Qjr R (pSl 4 e) fun ai=>QjT R ai a fun j aj aa ab=>Qjr R (pSl 4 e) fun k=>Qjr R (pIw j) fun ak=>Qjr R (Vi n ak 0 (wJ ((c.length:Int)-1)) some) fun b=>Qjs R (!(!b)) (pIw aj) fun al=>Qjs R (!(!b)) (Vi n al 0 (wJ (h-1)) some) fun d=>Qjp R (Qjn (!b) (!d)) fun cb=>QjK R aa (!cb) ab fun am an=>Qjs R (!cb) (GF n h i c s t u v x am an some) fun l=>Qjp R (a==wJ ((k.length:Int)-1)) fun cc=>Qjp R (Qjn cb (!l)) fun cf=>Qjs R (!cf&&cc) (pIw aa) fun ac=>Qjs R (!cf&&cc&&!(ac !=0)) (pIw ab) fun ao=>bif Qjn cf (Qjo cc (Qjn (ac !=0) (ao !=0))) then k0 4 else Qkd R j c fun aq ar=>QjI R y i aq ar fun ba bb bc bd be bg bh=>Qjr R (PN n o p q r ba bb bc bd be bg bh some) fun ae=>bif ae !=0 then k0 ae else Qjp R (decide (a>0)) fun ca=>Qjs R ca (pIw j) fun bi=>Qjs R ca (Q1 c bi) fun ag=>Qkg R ag ca fun bj bk=>Qjs R ca (pSl 2 bj) fun bl=>Qjs R ca (pIw bk) fun bm=>Qjs R ca (HN n bl bm some) fun bn=>Qjs R ca (pSl 4 e) fun bo=>Qjs R ca (Q1 bo (wJ (a-1))) fun bp=>Qkc R bp ca fun br=>Qjs R ca (Q1 c br) fun ah=>Qkg R ah ca fun bt bu=>Qjs R ca (pSl 2 bt) fun bv=>Qjs R ca (pIw bu) fun bx=>Qjs R ca (Pq n bv bx some) fun bz=>bif Qjo ca (bn !=bz) then k0 11 else ZW o p q r h i c s t u v x y e k0 k1 m (wJ (a+1)) else k1 a ce
def Kf (h i j k:LL) (l:Int) (d m b o p q r:LL) (a2:Int) (K:Qkj R):oP R:=QjT R b a2 fun e f s g=>Qjr R (Rw e) fun t=>Qjr R (N9 n t some) fun u=>bif !u then K 3 else Wd n a2 b e (K 5) (fun ab ac=>Qjr R (pIw f) fun v=>Qjr R (Vi n v 0 (wJ ((d.length:Int)-1)) some) fun c=>Qjs R (!(!c)) (pIw s) fun x=>Qjs R (!(!c)) (Vi n x 0 1048576 some) fun y=>bif Qjn (!c) (!y) then K 4 else Qjr R (pSl 4 g) fun z=>bif (z.length:Int)==0 then K 1 else ZW n h i j k l d m b o p q r f g (fun aa=>K aa) (fun ad ae=>K 0) n 0) n 0
def Jf (f:Int) (g h b i j k l:LL) (a1 a2:Int) (K:Qko R):oP R:=Qjr R (Vi n a1 0 (wJ ((b.length:Int)-1)) some) fun a=>Qjs R a (Q1 b a1) fun r2=>Qjs R a r2[3]? fun c=>Qjs R a (pSl 4 c) fun d=>Qjs R a (Vi n a2 0 (wJ ((d.length:Int)-1)) some) fun e=>K (Qjo a e)
def XR (n:Nat) (l:Int) (m b c o p q r:LL) (a1 a2:Int) (K:D->D->oP R):oP R:=QjM R c a1 fun f=>QjD R f a2 fun i=>QjP R b i fun j k=>K j k
def KU (al am m an:LL) (b:Int) (c d e f g h i:LL) (j o k p u v x:Int) (K:Qkj R):oP R:=Qjr R (Jf n b c d e f g h i j o some) fun a=>Qjs R (!(!a)) (Jf n b c d e f g h i k p some) fun r2=>Qjp R (Qjn (Qjn (!a) (!r2)) (j==k)) fun l=>Qjs R (!l) (GF n b c d e f g h i u v some) fun q=>Qjs R (!(Qjn l (!q))) (Vi n x 0 1048576 some) fun y=>bif Qjn (Qjn l (!q)) (!y) then K 4 else Qjr R (XR n b c d e f g h i j o Tu2) fun r=>QjW R r.1 r.2 fun z i7=>Qjr R (Pq n z i7 some) fun r8=>Qjr R (Q1 m r8) fun r9=>Qk7 R r9 fun s=>Qjr R (XR n b c d e f g h i k p Tu2) fun t=>QjW R t.1 t.2 fun ae ag=>Qjr R (HN n ae ag some) fun ah=>Qjr R (Q1 m ah) fun ai=>Qk7 R ai fun ak=>bif Qjn (decide (s<0)) (s !=ak) then K 11 else K 0
def We (n:Nat) (d:Int) (e:LL) (f g:D) (k0:oP R) (k1:Qkk R):Qkl R
 | 0,_=>none
 | m+1,a=>bif decide (a<d) then QjH R e a fun i=>QjC R i f fun b c=>Qjp R (b==c) fun p=>Qjs R (!p) (Q1 e a) fun j=>Qjs R (!p) j[1]? fun k=>QjK R k (!p) g fun l o=>bif Qjn p (l==o) then k0 else We n d e f g k0 k1 m (wJ (a+1)) else k1 a (decide (a<d))
def Kk (j:Int) (k l b m d o p:LL) (a1:Int) (K:Qkj R):oP R:=QjT R d a1 fun e f v x=>Qjr R (pIw e) fun y=>Qjq R (wJ ((b.length:Int)-1)) fun ba=>Qjr R (Vi n y 0 ba some) fun c=>Qjs R (!(!c)) (pIw f) fun z=>Qjs R (!(!c)) (Vi n z 0 ba some) fun g=>Qjp R (Qjn (!c) (!g)) fun q=>QjK R v (!q) x fun aa ab=>Qjs R (!q) (GF n j k l b m d o p aa ab some) fun ac=>bif Qjn q (!ac) then K 4 else We n a1 d e f (K 5) (fun ar au=>Qjr R (pIw e) fun ad=>QjL R b ad fun h ae=>Qk6 R h fun ag=>Qjr R (pIw f) fun ah=>QjL R b ah fun i ai=>Qkb R i (Qjr R (pIw e) fun aj=>Qjr R (pSl 4 ag) fun ak=>Qjr R (XR n j k l b m d o p aj (wJ ((ak.length:Int)-1)) Tu2) fun t=>QjW R t.1 t.2 fun al am=>Qjr R (Pq n al am some) fun r=>Qjr R (pIw f) fun i64=>Qjr R (XR n j k l b m d o p i64 0 Tu2) fun u=>QjW R u.1 u.2 fun an ao=>Qjr R (HN n an ao some) fun s=>QjK R ae (!(r !=s)) ai fun ap aq=>bif Qjn (r !=s) (ap !=aq) then K 11 else K 0)) n 0
def W0 (c:Int) (b d e f g h i:LL) (k0:Qkj R) (k1:Qkk R):Qkl R
 | 0,_=>none
 | m+1,a=>Qjp R (decide (a<(b.length:Int))) fun k=>bif k then Qjr R (G2 n c b d e f g h i a some) fun j=>bif j !=0 then k0 j else W0 c b d e f g h i k0 k1 m (wJ (a+1)) else k1 a k
def ZV (c d e f b:LL) (k0:Qkj R) (k1:Qkk R):Qkl R
 | 0,_=>none
 | m+1,a=>Qjp R (decide (a<(b.length:Int))) fun o=>bif o then QjP R b a fun i j=>QjW R i j fun k l=>Qjr R (Vy n c d e f k l some) fun h=>bif h !=0 then k0 h else ZV c d e f b k0 k1 m (wJ (a+1)) else k1 a o
def ZZ (c d e f:LL) (g:Int) (h i b j k l o:LL) (k0:Qkj R) (k1:Qkk R):Qkl R
 | 0,_=>none
 | m+1,a=>Qjp R (decide (a<(b.length:Int))) fun q=>bif q then Qjr R (Kf n c d e f g h i b j k l o a some) fun p=>bif p !=0 then k0 p else ZZ c d e f g h i b j k l o k0 k1 m (wJ (a+1)) else k1 a q
def YV (d e f g:LL) (h:Int) (i j k b l o p:LL) (k0:Qkj R) (k1:Qkk R):Qkl R
 | 0,_=>none
 | m+1,c=>Qjp R (decide (c<(b.length:Int))) fun ah=>bif ah then QjE R b c fun a r s t=>Qk2 R a fun u v x=>Qjr R a[6]? fun y=>Qk1 R r s t u fun z aa ab ac=>Qk3 R v x y fun ad ae ag=>Qjr R (KU n d e f g h i j k b l o p z aa ab ac ad ae ag some) fun q=>bif q !=0 then k0 q else YV d e f g h i j k b l o p k0 k1 m (wJ (c+1)) else k1 c ah
def YR (c:Int) (d e f g b h i:LL) (k0:Qkj R) (k1:Qkk R):Qkl R
 | 0,_=>none
 | m+1,a=>Qjp R (decide (a<(b.length:Int))) fun k=>bif k then Qjr R (Kk n c d e f g b h i a some) fun j=>bif j !=0 then k0 j else YR c d e f g b h i k0 k1 m (wJ (a+1)) else k1 a k
def YN (h:Int) (i j k l o c p:LL) (k0:oP R) (k1:Qkk R):Qkl R
 | 0,_=>none
 | m+1,d=>Qjp R (decide (d<(c.length:Int))) fun ah=>bif ah then QjE R c d fun e s t u=>QjO R e fun v x=>QjC R s t fun y z=>Qjr R (Jf n h i j k l o c p y z some) fun a=>QjK R u (!(!a)) v fun aa ab=>Qjs R (!(!a)) (Jf n h i j k l o c p aa ab some) fun b=>Qjp R (Qjn (!a) (!b)) fun ae=>QjK R s (!ae) u fun f g=>QjK R t (!ae&&f==g) v fun q r=>Qjp R (Qjn ae (Qjo (f==g) (q==r))) fun ag=>Qjs R (!ag) (pIw x) fun ac=>Qjs R (!ag) (Vi n ac 0 (wJ (h-1)) some) fun ad=>bif Qjn ag (!ad) then k0 else YN h i j k l o c p k0 k1 m (wJ (d+1)) else k1 d ah
def YT (e d:LL) (k0:oP R) (k1:Qkk R):Qkl R
 | 0,_=>none
 | m+1,b=>Qjp R (decide (b<(d.length:Int))) fun s=>bif s then QjQ R d b fun i j k=>Qjr R (pIw i) fun l=>Qjq R (wJ ((e.length:Int)-1)) fun u=>Qjr R (Vi n l 0 u some) fun a=>Qjs R (!(!a)) (pIw j) fun o=>Qjs R (!(!a)) (Vi n o 0 u some) fun c=>Qjp R (Qjn (!a) (!c)) fun r=>QjK R i (!r) j fun g h=>Qjp R (Qjn r (g==h)) fun t=>Qjs R (!t) (pIw k) fun p=>Qjs R (!t) (Vi n p 1 1048576 some) fun q=>bif Qjn t (!q) then k0 else YT e d k0 k1 m (wJ (b+1)) else k1 b s
def U6 (i j k l:LL) (a:Int) (d b e f g h c:LL) (K:Qkj R):oP R:=Qjr R (JD n i j k l some) fun m=>bif m !=0 then K 1 else Qjr R (L8 n a d b e f g h c some) fun r2=>bif r2 then K 7 else Qjr R (Vi n a 2 7200 some) fun o=>bif !o then K 4 else W0 n a d b e f g h c (fun p=>K p) (fun u v=>ZV n i j k l b (fun q=>K q) (fun x y=>ZZ n i j k l a d b e f g h c (fun r=>K r) (fun z aa=>YV n i j k l a d b e f g h c (fun s=>K s) (fun ab ac=>YR n a d b e f g h c (fun t=>K t) (fun ad ae=>YN n a d b e f g h c (K 4) (fun ag ah=>YT n i c (K 4) (fun ai aj=>K 0) n 0) n 0) n 0) n 0) n 0) n 0) n 0
def V1 (n:Nat) (b:Int) (k0:Qkr R):Qks R
 | 0,_,_=>none
 | m+1,h2,a=>bif decide (a>0) then Qjq R (wJ (h2+a)) fun f=>Qjr R (nz f) fun c=>bif decide (f<=wJ (Int.tdiv b f)) then Qjr R (B9 1) fun d=>V1 n b k0 m f (shR .i64 a 1) else Qjr R (B9 1) fun e=>V1 n b k0 m h2 (shR .i64 a 1) else k0 h2 a (decide (a>0))
def Pw (a0:Int) (K:Qkj R):oP R:=V1 n a0 (fun a b c=>K a) n 0 2147483648
def Vt (n:Nat) (b:Int) (k0:Qkr R):Qks R
 | 0,_,_=>none
 | m+1,h2,a=>bif decide (h2<a) then Qjr R (nz 2) fun c=>Qjq R (wJ (Int.tdiv (wJ (wJ (h2+a)+1)) 2)) fun d=>bif decide (wJ (d*d)<=b) then Vt n b k0 m d a else Vt n b k0 m h2 (wJ (d-1)) else k0 h2 a (decide (h2<a))
def Nq (a0:Int) (K:Qkj R):oP R:=bif decide (a0<=0) then K 0 else Vt n a0 (fun a b c=>K a) n 0 3037000499
def Yx (n:Nat) (e:LL) (c:Int) (k0:oP R) (k1:Qkk R):Qkl R
 | 0,_=>none
 | m+1,a=>bif decide (a<c) then QjP R e a fun g h=>Qjr R (pIw g) fun b=>Qjp R (decide (b<1000)) fun o=>Qjs R (!o) (pIw g) fun d=>Qjp R (Qjn o (decide (d>100000))) fun k=>Qjs R (!k) (pIw h) fun i=>Qjp R (Qjn k (decide (i<(-40:Int)))) fun l=>Qjs R (!l) (pIw h) fun j=>bif Qjn l (decide (j>40)) then k0 else Yx n e c k0 k1 m (wJ (a+1)) else k1 a (decide (a<c))
def VO (a0:LL) (a1:Int) (a:List UInt8) (b c d e:Int) (K:Qkj R):oP R:=Qjr R (Ud n a b c d e some) fun f=>bif !f then K 1 else Qjq R (a0.length:Int) fun i=>bif decide (i>4000) then K 7 else Yx n a0 i (K 4) (fun g h=>bif Qjn (decide (a1<0)) (decide (a1>wJ (i-2))) then K 4 else K 0) n 0
def Wc (n:Nat) (c:LL) (b:Int) (k0:Qkr R):Qks R
 | 0,_,_=>none
 | m+1,h2,a=>bif decide (a<b) then QjG R c a fun d f=>Qjr R d[1]? fun g=>Qjr R (pIw f) fun e=>Wc n c b k0 m (if e<h2 then e else h2) (wJ (a+1)) else k0 h2 a (decide (a<b))
def Jl (a0:LL) (a1:Int) (e:List UInt8) (a c f g:Int) (K:Qkj R):oP R:=Qjr R (slB a0.length (some (if 0<wJ (a1-a) then wJ (a1-a) else 0)) (some (wJ (a1+1)))) fun b=>Wc n (cut a0 b) ((List.length (cut a0 b):Nat):Int) (fun d h i=>K d) n c 0
def Hz (n:Nat) (c a:Int) (d:List UInt8) (e f b g:Int) (K:Qkj R):oP R:=bif decide (a>0) then K (wJ (20000*(if 50<wJ (b-wJ (10*a)) then wJ (b-wJ (10*a)) else 50))) else K (wJ (20000*b))
def He (n:Nat) (c a:Int) (d:List UInt8) (e f g b:Int) (K:Qkj R):oP R:=bif decide (a<0) then K (wJ (20000*(if 50<wJ (b+wJ (10*a)) then wJ (b+wJ (10*a)) else 50))) else K (wJ (20000*b))
def Yi (f:LL) (d g:Int) (h:List UInt8) (i j k l:Int) (k0:QkA R):Qkx R
 | 0,_,_,_=>none
 | m+1,b,a,e=>bif decide (a<g) then Qjr R (Jl n f a h i j k l some) fun c=>QjJ R e.length (wJ (wJ (a-1)-d)) e (Int.toNat (wJ (wJ (a-1)-d))) fun o=>QjP R f (wJ (a-1)) fun t u=>QjC R t u fun v x=>Qjr R (Hz n v x h i j k l some) fun q=>Qjr R (inB e.length (wJ (a-d))) fun aa=>Qjq R (Int.toNat (wJ (a-d))) fun ac=>Qjr R e[ac]? fun y=>Qjq R (wJ ((if c<b then c else b)*(if c<b then c else b))) fun ab=>Yi f d g h i j k l k0 m c (wJ (a+1)) (List.set e ac (List.set y 0 (Q4 (if wJ (o+q)<ab then wJ (o+q) else ab)))) else k0 b a (decide (a<g)) e
def YQ (d:LL) (b:Int) (e:List UInt8) (f g h i:Int) (k0:Qkm R):Qkn R
 | 0,_,_=>none
 | m+1,a,c=>bif decide (a>b) then Qjr R (inB c.length (wJ (a-b))) fun z=>Qjq R (Int.toNat (wJ (a-b))) fun ac=>Qjr R c[ac]? fun p=>Qjr R p[0]? fun q=>Qjr R (pIw q) fun j=>QjJ R c.length (wJ (wJ (a+1)-b)) c (Int.toNat (wJ (wJ (a+1)-b))) fun k=>QjP R d a fun t u=>QjC R t u fun v x=>Qjr R (He n v x e f g h i some) fun o=>QjF R c.length (wJ (a-b)) c ac fun y=>YQ d b e f g h i k0 m (wJ (a-1)) (List.set c ac (List.set y 0 (Q4 (if wJ (k+o)<j then wJ (k+o) else j)))) else k0 a (decide (a>b)) c
def Jo (a0:LL) (a1:Int) (a:List UInt8) (b c d e:Int) (K:Qkp R):oP R:=Qjq R (a0.length:Int) fun q=>Qjq R (wJ (wJ (q-a1)+1)) fun p=>gb true (bif decide (0<=p)&&decide (p<=p) then some () else none) () fun i=>Qjr R (Y9 (Int.toNat p*8)) fun u2=>Qjr R (Jl n a0 a1 a b c d e some) fun f=>Yi n a0 a1 q a b c d e (fun j k l g=>YQ n a0 a1 a b c d e (fun m o h=>K h) n (wJ (q-1)) g) n f (wJ (a1+1)) (List.replicate (Int.toNat p) [Q4 0])
def Zn (c:Int) (k0:Qkm R):Qkn R
 | 0,_,_=>none
 | m+1,a,b=>bif decide (a<c) then QjJ R b.length a b a.toNat fun f=>Qjr R (Pw n f some) fun g=>QjF R b.length a b a.toNat fun h=>Zn c k0 m (wJ (a+1)) (List.set b a.toNat (List.set h 0 (Q4 g))) else k0 a (decide (a<c)) b
def JV (a0:LL) (a1:Int) (a:List UInt8) (b c d e:Int) (K:Qkq R):oP R:=Qjr R (VO n a0 a1 a b c d e some) fun f=>bif f !=0 then K [] f else Qjr R (Jo n a0 a1 a b c d e some) fun r2=>Zn n (r2.length:Int) (fun h i g=>K g 0) n 0 r2
def U3 (n:Nat) (a0 a1:Int) (K:Qkt R):oP R:=bif decide (a1<1) then K 0 1 else Qk8 R a1 (Qjq R (wJ (Int.tdiv a0 a1)) fun b=>bif decide (Int.tmod a0 a1>0) then K (wJ (b+1)) 0 else K b 0)
def Wf (c:LL) (k0:Qkm R):Qkn R
 | 0,_,_=>none
 | m+1,a,b=>Qjp R (decide (a<(c.length:Int))) fun j=>bif j then Qjq R (wJ (a-1)) fun k=>QjD R c k fun f=>QjD R c a fun i=>Qjr R (U3 n 20000000 (wJ (f+i)) Tu2) fun l=>QjJ R b.length k b (Int.toNat k) fun q=>QjF R b.length a b a.toNat fun r=>Wf c k0 m (wJ (a+1)) (List.set b a.toNat (List.set r 0 (Q4 (wJ (q+l.1))))) else k0 a j b
def J5 (a0:LL) (a1:Int) (b:List UInt8) (c d e f:Int) (K:Qkq R):oP R:=Qjr R (JV n a0 a1 b c d e f Tu2) fun a=>bif a.2 !=0 then K [] a.2 else Qjq R (a.1.length:Int) fun g=>gb true (bif decide (0<=g)&&decide (g<=g) then some () else none) () fun u2=>Qjr R (Y9 (Int.toNat g*8)) fun u3=>Wf n a.1 (fun i j h=>K h 0) n 1 (List.replicate (Int.toNat g) [Q4 0])
def GG (h2:LL) (k0:oP R) (k1:Qkk R):Qkl R
 | 0,_=>none
 | m+1,a=>Qjp R (decide (a<(h2.length:Int))) fun j=>bif j then QjD R h2 a fun e=>Qjr R (KQ n e 1000 100000 some) fun b=>Qk0 R h2 a (!(!b)) fun h=>Qjs R (!(!b)) (KQ n h (-40:Int) 40 some) fun i=>bif Qjn (!b) (!i) then k0 else GG h2 k0 k1 m (wJ (a+1)) else k1 a j
def DV (a0:LL) (a1:Int) (a:List UInt8) (b c d e:Int) (K:Qkj R):oP R:=Qjr R (XP n a b c d e some) fun f=>bif !f then K 1 else bif decide ((a0.length:Int)>4000) then K 7 else GG n a0 (K 4) (fun g h=>bif Qjn (decide (a1<0)) (decide (a1>wJ ((a0.length:Int)-2))) then K 4 else K 0) n 0
def VE (n:Nat) (c:LL) (h2:Int) (k0:Qkr R):Qks R
 | 0,_,_=>none
 | m+1,b,a=>bif decide (a<=h2) then QjD R c a fun d=>VE n c h2 k0 m (if d<b then d else b) (wJ (a+1)) else k0 b a (decide (a<=h2))
def Pk (a0:LL) (a1:Int) (d:List UInt8) (a b e f:Int) (K:Qkj R):oP R:=VE n a0 a1 (fun c g h=>K c) n b (if 0<wJ (a1-a) then wJ (a1-a) else 0)
def NN (n:Nat) (c a:Int) (d:List UInt8) (e f b g:Int) (K:Qkj R):oP R:=bif decide (a>0) then K (if 50<wJ (b-wJ (10*a)) then wJ (b-wJ (10*a)) else 50) else K b
def NK (n:Nat) (c a:Int) (d:List UInt8) (e f g b:Int) (K:Qkj R):oP R:=bif decide (a<0) then K (if 50<wJ (b+wJ (10*a)) then wJ (b+wJ (10*a)) else 50) else K b
def Uj (e:LL) (f g:Int) (h:List UInt8) (i j k l:Int) (k0:Qkm R):Qkn R
 | 0,_,_=>none
 | m+1,a,b=>bif decide (a<g) then Qjr R (Pk n e (wJ (wJ (f+a)-1)) h i j k l some) fun c=>Qjr R (Pk n e (wJ (f+a)) h i j k l some) fun d=>QjF R b.length a b a.toNat fun o=>Uj e f g h i j k l k0 m (wJ (a+1)) (List.set b a.toNat (List.set o 0 (Q4 (wJ ((if d<c then d else c)*(if d<c then d else c)))))) else k0 a (decide (a<g)) b
def Uo (d:LL) (e c:Int) (f:List UInt8) (g h i j:Int) (k0:Qkm R):Qkn R
 | 0,_,_=>none
 | m+1,a,b=>bif decide (a<c) then Qjq R (wJ (a+1)) fun ac=>Qjr R (inB b.length ac) fun z=>Qjq R (Int.toNat ac) fun ad=>Qjr R b[ad]? fun q=>Qjr R q[0]? fun r=>Qjr R (pIw r) fun k=>QjJ R b.length a b a.toNat fun l=>QjP R d (wJ (e+a)) fun u v=>QjC R u v fun x i64=>Qjr R (NN n x i64 f g h i j some) fun p=>QjF R b.length ac b ad fun y=>Uo d e c f g h i j k0 m ac (List.set b ad (List.set y 0 (Q4 (if wJ (l+wJ (20000*p))<k then wJ (l+wJ (20000*p)) else k)))) else k0 a (decide (a<c)) b
def Us (c:LL) (d:Int) (e:List UInt8) (f g h i:Int) (k0:Qkm R):Qkn R
 | 0,_,_=>none
 | m+1,a,b=>bif decide (a>0) then Qjq R (wJ (a-1)) fun ac=>Qjr R (inB b.length ac) fun z=>Qjq R (Int.toNat ac) fun ad=>Qjr R b[ad]? fun p=>Qjr R p[0]? fun q=>Qjr R (pIw q) fun j=>QjJ R b.length a b a.toNat fun k=>QjP R c (wJ (wJ (d+a)-1)) fun t u=>QjC R t u fun v x=>Qjr R (NK n v x e f g h i some) fun o=>QjF R b.length ac b ad fun y=>Us c d e f g h i k0 m ac (List.set b ad (List.set y 0 (Q4 (if wJ (k+wJ (20000*o))<j then wJ (k+wJ (20000*o)) else j)))) else k0 a (decide (a>0)) b
def Vb (c:Int) (k0:Qkm R):Qkn R
 | 0,_,_=>none
 | m+1,a,b=>bif decide (a<=c) then QjJ R b.length a b a.toNat fun f=>Qjr R (Nq n f some) fun g=>QjF R b.length a b a.toNat fun h=>Vb c k0 m (wJ (a+1)) (List.set b a.toNat (List.set h 0 (Q4 g))) else k0 a (decide (a<=c)) b
def Sz (a0:LL) (a1:Int) (a:List UInt8) (b c d e:Int) (K:Qkq R):oP R:=Qjr R (DV n a0 a1 a b c d e some) fun f=>bif f !=0 then K [] f else Qjq R (wJ ((a0.length:Int)-a1)) fun t=>Qjq R (wJ (t+1)) fun u=>gb true (bif decide (0<=u)&&decide (u<=u) then some () else none) () fun u2=>Qjr R (Y9 (Int.toNat u*8)) fun u3=>Uj n a0 a1 t a b c d e (fun k l g=>Uo n a0 a1 t a b c d e (fun m o h=>Us n a0 a1 a b c d e (fun p q i=>Vb n t (fun r s j=>K j 0) n 0 i) n t h) n 0 g) n 1 (List.replicate (Int.toNat u) [Q4 0])
def J2 (n:Nat) (a0 a1:Int) (K:Qkj R):oP R:=Qk8 R a1 (Qjq R (wJ (Int.tdiv a0 a1)) fun b=>bif decide (Int.tmod a0 a1>0) then K (wJ (b+1)) else K b)
def VK (c:LL) (k0:Qkm R):Qkn R
 | 0,_,_=>none
 | m+1,a,b=>Qjp R (decide (a<(c.length:Int))) fun s=>bif s then Qjq R (wJ (a-1)) fun t=>QjJ R b.length t b (Int.toNat t) fun f=>QjD R c t fun i=>QjD R c a fun l=>Qjr R (J2 n 20000000 (wJ (i+l)) some) fun o=>QjF R b.length a b a.toNat fun p=>VK c k0 m (wJ (a+1)) (List.set b a.toNat (List.set p 0 (Q4 (wJ (f+o))))) else k0 a s b
def Pe (a0:LL) (a1:Int) (b:List UInt8) (c d e f:Int) (K:Qkq R):oP R:=Qjr R (Sz n a0 a1 b c d e f Tu2) fun a=>bif a.2 !=0 then K [] a.2 else Qjq R (a.1.length:Int) fun g=>gb true (bif decide (0<=g)&&decide (g<=g) then some () else none) () fun u2=>Qjr R (Y9 (Int.toNat g*8)) fun u3=>VK n a.1 (fun i j h=>K h 0) n 1 (List.replicate (Int.toNat g) [Q4 0])
def Jr (a0:Int) (K:Qkj R):oP R:=Qjr R (U3 n a0 1000 Tu2) fun a=>K a.1
def Va (n:Nat) (a0 a1:Int) (K:Qkt R):oP R:=bif decide (a1<1) then K 0 1 else Qk8 R a1 (Qjq R (wJ (Int.tdiv a0 a1)) fun b=>bif decide (Int.tmod a0 a1<0) then K (wJ (b-1)) 0 else K b 0)
def UY (a0:Int) (K:Qkj R):oP R:=Qjr R (Va n a0 1000 Tu2) fun a=>K a.1
def VJ (n:Nat) (c a b d:LL) (K:Qkp R):oP R:=Qjq R (wJ ((b.length:Int)+(a.length:Int))) fun f=>gb true (bif decide (0<=f)&&decide (f<=f) then some () else none) () fun e=>Qjr R (Y9 (Int.toNat f*24)) fun u2=>K (List.replicate (Int.toNat f) [Q4 0,Q4 0,Q4 0])
def Xj (n:Nat) (a:LL) (a1 a2 b:Int) (K:Qkp R):oP R:=QjX R a.length a1 a a1.toNat fun f=>Qjr R a[a1.toNat]? fun g=>QjZ R g fun i=>bif decide (f<i) then Qjr R a[a1.toNat]? fun j=>Qjr R j[1]? fun k=>Qjr R (pIw k) fun c=>Qjr R a[a1.toNat]? fun l=>QjZ R l fun d=>Qjr R a[a1.toNat]? fun o=>K (List.set a a1.toNat (List.set (List.set (List.set o 0 (Q4 a1)) 1 (Q4 (if c<a2 then c else a2))) 2 (Q4 (if b<d then d else b)))) else Qjr R a[a1.toNat]? fun p=>K (List.set a a1.toNat (List.set (List.set (List.set p 0 (Q4 a1)) 1 (Q4 a2)) 2 (Q4 b)))
def XL (n:Nat) (c:LL) (h2:Int) (k0:Qkm R):Qkn R
 | 0,_,_=>none
 | m+1,a,b=>bif decide (a<h2) then QjQ R c a fun g e f=>QjC R e f fun h i=>bif decide (h<i) then Qjr R (Y9 ((b.length+[[g,e,f]].length)*24)) fun j=>XL n c h2 k0 m (wJ (a+1)) (b++[[g,e,f]]) else XL n c h2 k0 m (wJ (a+1)) b else k0 a (decide (a<h2)) b
def V4 (a0:LL) (K:Qkp R):oP R:=XL n a0 (a0.length:Int) (fun b c a=>K a) n 0 []
def Z8 (n:Nat) (a i e:LL) (g d:Int) (k0:QkG R):Qkz R
 | 0,_,_,_,_=>none
 | m+1,b,c,h,f=>Qjp R (decide (c<wJ ((e.length:Int)-g))) fun ae=>bif ae then QjD R a b fun j=>Qjr R (Y9 ((h.length+[[Q4 j]].length)*8)) fun ab=>Qjq R (wJ ((a.length:Int)-1)) fun ag=>bif decide (c>0) then QjD R e c fun t=>QjN R i t fun k=>QjD R a (if ag<wJ (wJ (b+k)+d) then ag else wJ (wJ (b+k)+d)) fun l=>Qjr R (Y9 ((f.length+[[Q4 l]].length)*8)) fun ac=>Z8 n a i e g d k0 m (wJ (b+k)) (wJ (c+1)) (h++[[Q4 j]]) (f++[[Q4 l]]) else QjD R a (if ag<wJ (b+d) then ag else wJ (b+d)) fun o=>Qjr R (Y9 ((f.length+[[Q4 o]].length)*8)) fun ad=>Z8 n a i e g d k0 m b (wJ (c+1)) (h++[[Q4 j]]) (f++[[Q4 o]]) else k0 b c ae h f
def TQ (h i b j c:LL) (d:Int) (k:List UInt8) (e l m o:Int) (K:LL->LL->Int->Int->oP R):oP R:=Qjr R (PN n h i b j c d k e l m o some) fun a=>bif a !=0 then K [] [] 0 a else Qjr R (Ps n h i b j c d Tu3) fun r2=>Qjr R (Pe n r2.1 r2.2.1 k e l m o Tu2) fun g=>Z8 n g.1 b c d e (fun v x y p q=>QjD R g.1 (wJ ((g.1.length:Int)-1)) fun t=>Qjr R (J2 n t 1000 some) fun u=>K p q u 0) n 0 0 [] []
def Vg (n:Nat) (a0 a1:Int) (K:Qkj R):oP R:=Qk8 R a1 (Qjq R (wJ (Int.tdiv a0 a1)) fun b=>bif decide (Int.tmod a0 a1<0) then K (wJ (b-1)) else K b)
def YD (n:Nat) (b a:LL) (a1 a2 c:Int) (K:LL->LL->oP R):oP R:=Qk4 R b.length a1 b a1.toNat fun g=>bif g then QjX R a.length a1 a a1.toNat fun d=>QjF R a.length a1 a a1.toNat fun i=>QjZ R i fun e=>QjF R b.length a1 b a1.toNat fun k=>QjF R a.length a1 a a1.toNat fun l=>K (List.set b a1.toNat (List.set k 0 (D.bool true))) (List.set a a1.toNat (List.set (List.set (List.set l 0 (Q4 a1)) 1 (Q4 (if d<a2 then d else a2))) 2 (Q4 (if c<e then e else c)))) else QjF R b.length a1 b a1.toNat fun m=>QjF R a.length a1 a a1.toNat fun o=>K (List.set b a1.toNat (List.set m 0 (D.bool true))) (List.set a a1.toNat (List.set (List.set (List.set o 0 (Q4 a1)) 1 (Q4 a2)) 2 (Q4 c)))
def ZO (l o:Int) (e i:LL) (j b:Int) (p q f r c:LL) (k0:QkG R):Qkz R
 | 0,_,_,_,_=>none
 | m+1,v,a,x,y=>Qjp R (decide (a<(c.length:Int))) fun g=>bif g then jn (fun (t k:Int)=>(QjD R c a fun ag=>gb true (YD n x y ag t k Tu2) ([],[]) fun d=>Qjq R (wJ (a+1)) fun h=>bif decide (a>0) then QjP R c (wJ (a-1)) fun ah ai=>QjP R c a fun aj ak=>Qk1 R ah ai aj ak fun al am an ao=>Qjr R (Js n p q f r al am an ao Tu5) fun u=>Qjr R (pIw u.2.2.1) fun ar=>bif decide (ar>=0) then bif decide (a>b) then Qjr R (pIw u.2.2.1) fun au=>gb true (YD n d.1 d.2 (wJ ((f.length:Int)+au)) t k Tu2) ([],[]) fun ab=>ZO l o e i j b p q f r c k0 m k h ab.1 ab.2 else Qjr R (pIw u.2.2.1) fun av=>gb true (YD n d.1 d.2 (wJ ((f.length:Int)+av)) t v Tu2) ([],[]) fun ac=>ZO l o e i j b p q f r c k0 m k h ac.1 ac.2 else ZO l o e i j b p q f r c k0 m k h d.1 d.2 else ZO l o e i j b p q f r c k0 m k h d.1 d.2:oP R)) fun s=>bif a==0 then QjD R i 0 fun ay=>Qjr R (J2 n ay 1000 some) fun az=>s (wJ (0-l)) (wJ (az+4)) else bif decide (a<b) then QjD R e (wJ (a-1)) fun bc=>Qjr R (Vg n bc 1000 some) fun bd=>QjD R i a fun bh=>Qjr R (J2 n bh 1000 some) fun bi=>s (wJ (bd-16)) (wJ (bi+4)) else bif a==b then QjD R e (wJ (b-1)) fun bl=>Qjr R (Vg n bl 1000 some) fun bm=>s (wJ (bm-16)) (wJ (j+o)) else QjD R e b fun bp=>Qjr R (Vg n bp 1000 some) fun bq=>s (wJ (bq-16)) (wJ (j+20)) else k0 v a g x y
def UP (n:Nat) (b:Int) (c d:LL) (k0:Qkm R):Qkn R
 | 0,_,_=>none
 | m+1,a,e=>bif decide (a<b) then Qk4 R c.length a c a.toNat fun l=>bif l then QjF R d.length a d a.toNat fun f=>Qjr R f[0]? fun g=>Qjr R f[1]? fun h=>Qjr R f[2]? fun i=>Qjr R (Y9 ((e.length+[[g,h,i]].length)*24)) fun q=>UP n b c d k0 m (wJ (a+1)) (e++[[g,h,i]]) else UP n b c d k0 m (wJ (a+1)) e else k0 a (decide (a<b)) e
def KI (e a b f g:LL) (i:Int) (j:List UInt8) (k l m o p q:Int) (K:Qkw R):oP R:=Qjr R (PN n e a b f g i j k l m o some) fun d=>bif d !=0 then K [] 0 d else Qjr R (KQ n p 0 65536 some) fun r2=>Qjs R (!(!r2)) (KQ n q 0 65536 some) fun h=>bif Qjn (!r2) (!h) then K [] 0 4 else gb true (TQ n e a b f g i j k l m o Tu4) ([],[],0,0) fun c=>Qjq R (wJ ((b.length:Int)+(a.length:Int))) fun ag=>Qjp R (decide (0<=ag)&&decide (ag<=ag)) fun r=>gb true (bif r then some () else none) () fun v=>Qjq R (Int.toNat ag) fun ah=>Qjr R (Y9 (ah*1)) fun x=>gb true (bif r then some () else none) () fun y=>Qjr R (Y9 (ah*24)) fun z=>ZO n p q c.1 c.2.1 c.2.2.1 (wJ ((c.1.length:Int)-1)) e a b f g (fun aa ab ac s t=>UP n ag s t (fun ad ae u=>K u c.2.2.1 0) n 0 []) n 0 0 (List.replicate ah [D.bool false]) (List.replicate ah [Q4 0,Q4 0,Q4 0])
def UE (n:Nat) (d:Int) (h2:LL) (c:Int) (k0:Qkj R) (k1:Qkk R):Qkl R
 | 0,_=>none
 | m+1,a=>bif decide (a<c) then QjG R h2 a fun b f=>Qjr R b[1]? fun i=>Qk6 R b fun g=>Qjr R (pIw f) fun h=>bif h==d then Qjr R (pIw g) fun e=>k0 (if 60<e then e else 60) else UE n d h2 c k0 k1 m (wJ (a+1)) else k1 a (decide (a<c))
def Kq (c:Int) (d e f g a h i:LL) (a1:Int) (K:Qkj R):oP R:=UE n a1 a (a.length:Int) (fun b=>K b) (fun j k=>K 60) n 0
def VI (n:Nat) (c:Int) (a:LL) (k0:D->D->D->D->oP R) (k1:Qkk R):Qkl R
 | 0,_=>none
 | m+1,h2=>Qjp R (decide (h2<(a.length:Int))) fun k=>bif k then QjD R a h2 fun f=>bif f==c then QjT R a h2 fun g h i j=>k0 g h i j else VI n c a k0 k1 m (wJ (h2+1)) else k1 h2 k
def PJ (a:LL) (a1:Int) (K:D->D->D->D->Bool->oP R):oP R:=VI n a1 a (fun b c d e=>K b c d e true) (fun f g=>K (Q4 0) (Q4 0) (Q4 0) (Q4 0) false) n 0
def Yq (f:Int) (j k l o:LL) (p:Int) (e q r s g t u:LL) (v d:D) (k0:Qku R):Qkv R
 | 0,_,_,_=>none
 | m+1,a,h,i=>Qjr R (pSl 4 d) fun ai=>Qjp R (decide (a<(ai.length:Int))) fun b=>bif b then Qjr R (pSl 4 d) fun av=>QjN R av a fun aj=>Qjq R (wJ (a+1)) fun c=>bif a==0 then jn (fun (ay:Int)=>(Qjr R (XR n p e q r s g t u f a Tu2) fun ak=>QjI R v e ak.1 ak.2 fun bg bh bi bj bk bl bm=>Qjr R (KI n j k l o bg bh bi bj bk bl bm 60 ay Tu3) fun ab=>QjY R ((h.length+[[D.sl 3 ab.1]].length)*24) ((i.length+[[Q4 ab.2.1]].length)*8) (Yq f j k l o p e q r s g t u v d k0 m c (h++[[D.sl 3 ab.1]]) (i++[[Q4 ab.2.1]])):oP R)) fun al=>Qjr R (PJ n g f Tu5) fun am=>Qjr R (pSl 4 d) fun bn=>bif decide (a<wJ ((bn.length:Int)-1)) then Qjr R (pSl 4 d) fun bo=>QjN R bo a fun br=>Qjr R (pSl 4 d) fun bt=>Qjr R (Q1 bt a) fun bu=>Qjr R bu[3]? fun bv=>Qjr R (pIw bv) fun bx=>al (wJ (br+bx)) else bif am.2.2.2.2 then Qjr R (pSl 4 d) fun bz=>Qke R bz a fun cb=>QjC R cb am.2.2.2.1 fun cc i64=>al (wJ (cc+(if 60<i64 then i64 else 60))) else Qjr R (XR n p e q r s g t u f a Tu2) fun an=>QjI R v e an.1 an.2 fun ck cm cn co cp cq cr=>Qjr R (KI n j k l o ck cm cn co cp cq cr 60 (wJ (aj+60)) Tu3) fun ac=>QjY R ((h.length+[[D.sl 3 ac.1]].length)*24) ((i.length+[[Q4 ac.2.1]].length)*8) (Yq f j k l o p e q r s g t u v d k0 m c (h++[[D.sl 3 ac.1]]) (i++[[Q4 ac.2.1]])) else jn (fun (cs:Int)=>(Qjr R (XR n p e q r s g t u f a Tu2) fun ao=>QjI R v e ao.1 ao.2 fun cz da db dc dd de df=>Qjr R (KI n j k l o cz da db dc dd de df 0 cs Tu3) fun ad=>QjY R ((h.length+[[D.sl 3 ad.1]].length)*24) ((i.length+[[Q4 ad.2.1]].length)*8) (Yq f j k l o p e q r s g t u v d k0 m c (h++[[D.sl 3 ad.1]]) (i++[[Q4 ad.2.1]])):oP R)) fun ap=>Qjr R (PJ n g f Tu5) fun aq=>Qjr R (pSl 4 d) fun dg=>bif decide (a<wJ ((dg.length:Int)-1)) then Qjr R (pSl 4 d) fun dh=>QjN R dh a fun dk=>Qjr R (pSl 4 d) fun dl=>Qjr R (Q1 dl a) fun dn=>Qjr R dn[3]? fun dp=>Qjr R (pIw dp) fun dq=>ap (wJ (dk+dq)) else bif aq.2.2.2.2 then Qjr R (pSl 4 d) fun dr=>Qke R dr a fun dt=>QjC R dt aq.2.2.2.1 fun du ar=>ap (wJ (du+(if 60<ar then ar else 60))) else Qjr R (XR n p e q r s g t u f a Tu2) fun au=>QjI R v e au.1 au.2 fun ec ed ee ef eg eh ei=>Qjr R (KI n j k l o ec ed ee ef eg eh ei 0 (wJ (aj+60)) Tu3) fun ae=>QjY R ((h.length+[[D.sl 3 ae.1]].length)*24) ((i.length+[[Q4 ae.2.1]].length)*8) (Yq f j k l o p e q r s g t u v d k0 m c (h++[[D.sl 3 ae.1]]) (i++[[Q4 ae.2.1]])) else k0 a b h i
def Un (c d e f:LL) (g:Int) (h i a j k l o:LL) (k0:Qku R):Qkv R
 | 0,_,_,_=>none
 | m+1,h2,p,q=>Qjp R (decide (h2<(a.length:Int))) fun aa=>bif aa then QjL R a h2 fun b r=>Qk6 R b fun s=>Yq n h2 c d e f g h i a j k l o r s (fun y z t u=>Un c d e f g h i a j k l o k0 m (wJ (h2+1)) t u) n 0 p q else k0 h2 aa p q
def SC (a b c d:LL) (e:Int) (f g h i j k l:LL) (K:LL->LL->Int->oP R):oP R:=Qjr R (U6 n a b c d e f g h i j k l some) fun m=>bif m !=0 then K [] [] 1 else Un n a b c d e f g h i j k l (fun q r o p=>K o p 0) n 0 [] []
def X1 (n:Nat) (b c:Int) (k0:Qkm R):Qkn R
 | 0,_,_=>none
 | m+1,a,d=>bif decide (a<c) then Qjq R [[Q4 1,Q4 b,Q4 a],[Q4 2,Q4 b,Q4 a]] fun f=>Qjr R (Y9 ((d.length+List.length f)*24)) fun e=>X1 n b c k0 m (wJ (a+1)) (d++f) else k0 a (decide (a<c)) d
def QN (e:LL) (h2:Int) (k0:Qku R):Qkv R
 | 0,_,_,_=>none
 | m+1,a,d,b=>bif decide (a<h2) then QjU R e a fun f=>Qjr R (nz 2) fun l=>Qjq R [[Q4 (wJ (Int.tdiv (b.length:Int) 2))]] fun r=>Qjr R (Y9 ((d.length+r.length)*8)) fun o=>Qjr R (pSl 4 f) fun g=>X1 n a (g.length:Int) (fun p q h=>QN e h2 k0 m (wJ (a+1)) (d++r) h) n 0 b else k0 a (decide (a<h2)) d b
def Ym (a b c:LL) (K:LL->LL->oP R):oP R:=QN n a (a.length:Int) (fun f g d e=>K d e) n 0 b c
def XE (n:Nat) (a:LL) (a1 a2:Int) (K:Qkj R):oP R:=QjJ R a.length a1 a a1.toNat fun c=>K (wJ (c+a2))
def XW (n:Nat) (f b:LL) (a1 a2 c d e:Int) (K:Qkp R):oP R:=QjD R f a1 fun a=>Qjq R [[Q4 a1,Q4 a2,Q4 (wJ (a+d)),Q4 (wJ (wJ (a+c)+e))]] fun j=>Qjr R (Y9 ((b.length+j.length)*32)) fun i=>K (b++j)
def ZH (a b:LL) (a1:Int) (K:Qkj R):oP R:=QjM R a a1 fun e=>Qjr R (XE n b a1 (wJ ((e.length:Int)-1)) some) fun f=>K f
def Xb (c:Int) (f:LL) (d:Int) (e g:LL) (k0:Qkm R):Qkn R
 | 0,_,_=>none
 | m+1,a,h=>bif decide (a<d) then QjL R f a fun b i=>Qk5 R b fun j k=>Qjr R (XE n e c a some) fun l=>Qjr R (XE n e c (wJ (a+1)) some) fun o=>Qk3 R i j k fun i64 p q=>Qjr R (XW n g h l o i64 p q some) fun r=>Xb c f d e g k0 m (wJ (a+1)) r else k0 a (decide (a<d)) h
def Qy (d:LL) (h2:Int) (e f:LL) (k0:Qkm R):Qkn R
 | 0,_,_=>none
 | m+1,a,g=>bif decide (a<h2) then QjU R d a fun h=>Qjr R (pSl 4 h) fun c=>Qjr R (pSl 4 h) fun j=>Qjr R (slB c.length none (some (wJ ((j.length:Int)-1)))) fun i=>Xb n a (cut c i) ((List.length (cut c i):Nat):Int) e f (fun q r k=>Qy d h2 e f k0 m (wJ (a+1)) k) n 0 g else k0 a (decide (a<h2)) g
def X9 (f:LL) (c:Int) (d e g:LL) (k0:Qkm R):Qkn R
 | 0,_,_=>none
 | m+1,a,h=>bif decide (a<c) then QjT R f a fun i k l o=>Qjr R (pIw i) fun p=>QjM R e p fun j=>Qjr R (pIw i) fun s=>Qjr R (ZH n e d s some) fun t=>Qjr R (pIw k) fun u=>Qjr R (XE n d u 0 some) fun v=>Qke R j (wJ ((j.length:Int)-1)) fun y=>Qk3 R y l o fun z aa ab=>Qjr R (XW n g h t v z aa ab some) fun ac=>X9 f c d e g k0 m (wJ (a+1)) ac else k0 a (decide (a<c)) h
def Yr (a b c d e:LL) (K:Qkp R):oP R:=Qy n a (a.length:Int) c d (fun h i f=>X9 n b (b.length:Int) c a d (fun j k g=>K g) n 0 f) n 0 e
def WL (n:Nat) (h2:LL) (e:Int) (k0:oP R) (k1:Qkr R):Qks R
 | 0,_,_=>none
 | m+1,a,b=>bif decide (b<e) then QjQ R h2 b fun g h i=>Qjr R (pIw g) fun c=>Qjs R (!(decide (c<=a))) (pIw h) fun d=>Qjp R (Qjn (decide (c<=a)) (decide (d<(-65536:Int)))) fun p=>QjK R h (!p) i fun j k=>Qjp R (Qjn p (decide (j>=k))) fun q=>Qjs R (!q) (pIw i) fun l=>bif Qjn q (decide (l>65536)) then k0 else Qjr R (pIw g) fun o=>WL n h2 e k0 k1 m o (wJ (b+1)) else k1 a b (decide (b<e))
def VU (a0:LL) (K:Qko R):oP R:=WL n a0 (a0.length:Int) (K false) (fun a b c=>K true) n (-1:Int) 0
def WP (n:Nat) (h2:Int) (d:LL) (b:Int) (k0:oP R) (k1:Qkk R):Qkl R
 | 0,_=>none
 | m+1,a=>bif decide (a<b) then QjL R d a fun c e=>Qjr R c[2]? fun f=>QjC R f e fun g h=>bif decide (wJ (g-h)>h2) then k0 else WP n h2 d b k0 k1 m (wJ (a+1)) else k1 a (decide (a<b))
def Hl (a0:Int) (a1:LL) (K:Qko R):oP R:=Qjp R (Qjn (decide (a0<1)) (decide (a0>7200))) fun d=>Qjs R (!d) (VU n a1 some) fun a=>bif Qjn d (!a) then K false else WP n a0 a1 (a1.length:Int) (K false) (fun b c=>K true) n 0
def XV (n:Nat) (a b c d e f:Int) (g:Bool) (h:Int) (K:Qko R):oP R:=K (Qjn g (decide (wJ ((if b<wJ (f+d) then wJ (f+d) else b)-(if wJ (e+c)<a then wJ (e+c) else a))>h)))
def QH (e:LL) (b f:Int) (c g d:D) (h i j:Int) (k0:Int->Bool->Bool->oP R):Nat->Int->Bool->oP R
 | 0,_,_=>none
 | m+1,a,k=>bif decide (a<b) then QjQ R e a fun q r s=>QjC R c q fun o p=>QjK R r (o==p) d fun t u=>bif Qjo (o==p) (decide (wJ (f+t)<=u)) then Qjr R (pIw c) fun ab=>QjC R g d fun v x=>Qjr R (pIw q) fun ac=>QjC R r s fun y z=>Qjr R (XV n v x y z i j k h some) fun aa=>QH e b f c g d h i j k0 m (wJ (a+1)) aa else QH e b f c g d h i j k0 m (wJ (a+1)) k else k0 a (decide (a<b)) k
def Xe (d:LL) (b e f g:Int) (h:LL) (i j:Int) (k0:Int->Bool->Bool->oP R):Nat->Int->Bool->oP R
 | 0,_,_=>none
 | m+1,a,k=>bif decide (a<b) then QjQ R d a fun o p q=>QjV R h e fun l=>QH n l (l.length:Int) f o p q g i j (fun u v t=>Xe d b e f g h i j k0 m (wJ (a+1)) t) n 0 k else k0 a (decide (a<b)) k
def ZD (c:Int) (a:LL) (d e f g h:Int) (i:Bool) (K:Qko R):oP R:=QjV R a d fun b=>Xe n b (b.length:Int) e f c a g h (fun m o l=>K l) n 0 i
def Xs (b:LL) (h2 c:Int) (k0:oP R) (k1:Qkk R):Qkl R
 | 0,_=>none
 | m+1,a=>bif decide (a<h2) then QjV R b a fun f=>Qjr R (Hl n c f some) fun g=>bif !g then k0 else Xs b h2 c k0 k1 m (wJ (a+1)) else k1 a (decide (a<h2))
def X6 (d:LL) (c e:Int) (f:LL) (k0:oP R) (k1:Qkk R):Qkl R
 | 0,_=>none
 | m+1,a=>bif decide (a<c) then QjT R d a fun g h i j=>Qk3 R g h i fun k l o=>QjS R j g (Qjr R (pIw h) fun u=>QjC R i j fun p q=>Qjr R (ZD n e f k l o p q false some) fun r=>bif r then k0 else X6 d c e f k0 k1 m (wJ (a+1))) else k1 a (decide (a<c))
def Zo (b:Int) (a c:LL) (K:Qko R):oP R:=Xs n a (a.length:Int) b (K false) (fun d e=>X6 n c (c.length:Int) b a (K false) (fun f g=>K true) n 0) n 0
def QY (n:Nat) (a:LL) (a1 a2:Int) (K:Qkj R):oP R:=QjJ R a.length a1 a a1.toNat fun c=>K (wJ (c+a2))
def Yc (n:Nat) (a0:Int) (K:Qkj R):oP R:=K (wJ (2*a0))
def Ug (n:Nat) (a0:Int) (K:Qkj R):oP R:=K (wJ (wJ (2*a0)+1))
def X8 (n:Nat) (a:LL) (a1 a2 b c d e:Int) (K:Qkp R):oP R:=Qjq R [[Q4 a1,Q4 a2,Q4 b,Q4 c,Q4 d,Q4 e]] fun g=>Qjr R (Y9 ((a.length+g.length)*48)) fun f=>K (a++g)
def UU (a b:LL) (a1:Int) (K:Qkj R):oP R:=QjM R a a1 fun e=>Qjr R (QY n b a1 (wJ ((e.length:Int)-1)) some) fun f=>K f
def Qr (f:Int) (g:LL) (c:Int) (d h:D) (i j:LL) (k0:Qkm R):Qkn R
 | 0,_,_=>none
 | m+1,a,k=>bif decide (a<c) then QjL R g a fun e p=>Qk5 R e fun q r=>Qjr R (QY n i f a some) fun b=>QjD R j b fun l=>Qjr R (Yc n b some) fun u=>Qjr R (Ug n b some) fun v=>QjC R p d fun x y=>Qjr R (X8 n k 1 u v l (wJ (l+x)) y some) fun o=>Qjr R (pSl 4 h) fun z=>bif decide (a<wJ ((z.length:Int)-1)) then Qjr R (Ug n b some) fun aa=>Qjr R (Yc n (wJ (b+1)) some) fun ab=>Qk3 R q r d fun ac ad ae=>Qjr R (X8 n o 2 aa ab ac ad ae some) fun ag=>Qr f g c d h i j k0 m (wJ (a+1)) ag else Qr f g c d h i j k0 m (wJ (a+1)) o else k0 a (decide (a<c)) k
def QD (c:LL) (h2:Int) (d e:LL) (k0:Qkm R):Qkn R
 | 0,_,_=>none
 | m+1,a,f=>bif decide (a<h2) then Qjr R (Q1 c a) fun b=>Qjr R b[0]? fun k=>Qjr R b[1]? fun l=>Qk5 R b fun i g=>Qjr R (pSl 4 g) fun h=>Qr n a h (h.length:Int) i g d e (fun o p j=>QD c h2 d e k0 m (wJ (a+1)) j) n 0 f else k0 a (decide (a<h2)) f
def QF (e:LL) (c:Int) (d:LL) (k0:Qkm R):Qkn R
 | 0,_,_=>none
 | m+1,b,f=>bif decide (b<c) then QjE R e b fun a g h i=>Qk2 R a fun j k l=>Qjr R a[6]? fun o=>QjC R g h fun p q=>Qjr R (QY n d p q some) fun r=>QjC R i j fun s t=>Qjr R (QY n d s t some) fun u=>Qjr R (Ug n r some) fun v=>Qjr R (Yc n u some) fun x=>Qk3 R k l o fun y z aa=>Qjr R (X8 n f 3 v x y z aa some) fun ab=>QF e c d k0 m (wJ (b+1)) ab else k0 b (decide (b<c)) f
def QE (e:LL) (c:Int) (d f:LL) (k0:Qkm R):Qkn R
 | 0,_,_=>none
 | m+1,a,g=>bif decide (a<c) then QjT R e a fun h i j k=>Qjr R (pIw h) fun l=>Qjr R (UU n f d l some) fun o=>Qjr R (Ug n o some) fun p=>Qjr R (pIw i) fun q=>Qjr R (QY n d q 0 some) fun r=>Qjr R (Yc n r some) fun s=>QjC R j k fun t u=>Qjr R (X8 n g 4 p s t u 1 some) fun v=>QE e c d f k0 m (wJ (a+1)) v else k0 a (decide (a<c)) g
def QG (e:LL) (c:Int) (d:LL) (k0:Qkm R):Qkn R
 | 0,_,_=>none
 | m+1,a,f=>bif decide (a<c) then QjE R e a fun b h i j=>QjO R b fun k g=>QjC R h i fun l o=>Qjr R (QY n d l o some) fun p=>Qjr R (Yc n p some) fun q=>QjC R j k fun r s=>Qjr R (QY n d r s some) fun t=>Qjr R (Yc n t some) fun u=>Qjr R (pIw g) fun v=>Qjr R (pIw g) fun x=>Qjr R (X8 n f 5 q u v x 0 some) fun y=>QG e c d k0 m (wJ (a+1)) y else k0 a (decide (a<c)) f
def Ye (b c d e a f g:LL) (K:Qkp R):oP R:=QD n b (b.length:Int) a f (fun l m h=>QF n c (c.length:Int) a (fun o p i=>QE n d (d.length:Int) a b (fun q r j=>QG n e (e.length:Int) a (fun s t k=>K k) n 0 j) n 0 i) n 0 h) n 0 g
def Xn (n:Nat) (a:Int) (b:Int->Bool) (K:(Int->Bool)->oP R):oP R:=K (Q6I b a true)
def QW (e:LL) (b f:Int) (c g d:D) (k0:QkH R):QkI R
 | 0,_,_=>none
 | m+1,a,h=>bif decide (a<b) then QjQ R e a fun l o p=>QjC R c l fun j k=>QjK R o (j==k) d fun q r=>bif Qjo (j==k) (decide (wJ (f+q)<=r)) then Qjr R (pIw c) fun s=>QjS R g d (QjS R l o (Qjr R (pIw p) fun z=>gb true (Xn n s h some) (fun _=>false) fun t=>QW e b f c g d k0 m (wJ (a+1)) t)) else QW e b f c g d k0 m (wJ (a+1)) h else k0 a (decide (a<b)) h
def Xf (d:LL) (b e f:Int) (g:LL) (k0:QkH R):QkI R
 | 0,_,_=>none
 | m+1,a,h=>bif decide (a<b) then QjQ R d a fun j k l=>QjV R g e fun i=>QW n i (i.length:Int) f j k l (fun r s q=>Xf d b e f g k0 m (wJ (a+1)) q) n 0 h else k0 a (decide (a<b)) h
def ZE (a:LL) (c d e:Int) (f:Int->Bool) (K:(Int->Bool)->oP R):oP R:=QjV R a c fun b=>Xf n b (b.length:Int) d e a (fun j k i=>K i) n 0 f
def Qt (a h2:Int) (f:LL) (c:Int) (g:LL) (k0:QkH R):QkI R
 | 0,_,_=>none
 | m+1,b,h=>bif decide (b<c) then QjT R f b fun i j o p=>Qjr R (pIw i) fun e=>Qjs R (e==a) (pIw j) fun k=>Qjp R (Qjo (e==a) (k==h2)) fun x=>Qjs R (!x) (pIw i) fun l=>Qjs R (!x&&l==h2) (pIw j) fun q=>bif Qjn x (Qjo (l==h2) (q==a)) then Qk3 R i j o fun r s t=>Qjr R (pIw p) fun v=>gb true (ZE n g r s t h some) (fun _=>false) fun u=>Qt a h2 f c g k0 m (wJ (b+1)) u else Qt a h2 f c g k0 m (wJ (b+1)) h else k0 b (decide (b<c)) h
def XO (b a:LL) (a1 a2:Int) (K:(Int->Bool)->oP R):oP R:=Qt n a1 a2 a (a.length:Int) b (fun d e c=>K c) n 0 fun _=>false
def XQ (n:Nat) (c:LL) (h2:Int) (d:Int->Bool) (k0:Qkm R):Qkn R
 | 0,_,_=>none
 | m+1,a,b=>bif decide (a<h2) then QjQ R c a fun f g h=>Qjr R (pIw f) fun i=>bif !(d i) then Qjr R (Y9 ((b.length+[[f,g,h]].length)*24)) fun j=>XQ n c h2 d k0 m (wJ (a+1)) (b++[[f,g,h]]) else XQ n c h2 d k0 m (wJ (a+1)) b else k0 a (decide (a<h2)) b
def U1 (a0:LL) (a:Int->Bool) (K:LL->(Int->Bool)->oP R):oP R:=XQ n a0 (a0.length:Int) a (fun c d b=>K b a) n 0 []
def Ux (n:Nat) (a0:Int) (K:Qko R):oP R:=K (Qjo (decide (a0>=1)) (decide (a0<=7200)))
def HW (n:Nat) (a0 a1:Int) (K:Qkj R):oP R:=bif decide (a1<1) then K 0 else Qjr R (nz a1) fun a=>Qjq R (Int.tmod a0 a1) fun b=>bif decide (b<0) then K (wJ (b+a1)) else K b
def VZ (n:Nat) (a1 a2 a:Int) (K:Qkp R):oP R:=bif decide (a<1) then K [] else bif decide (a>=a1) then Qjr R (Y9 ([[Q4 0,Q4 a1]].length*16)) fun b=>K [[Q4 0,Q4 a1]] else Qjq R (wJ (a2+a)) fun d=>bif decide (d<=a1) then Qjr R (Y9 ([[Q4 a2,Q4 d]].length*16)) fun u2=>K [[Q4 a2,Q4 d]] else Qjq R [[Q4 0,Q4 (wJ (d-a1))],[Q4 a2,Q4 a1]] fun c=>Qjr R (Y9 (List.length c*16)) fun u3=>K c
def Tw (a0 a1 a2:Int) (K:Qkq R):oP R:=Qjr R (Ux n a0 some) fun a=>bif !a then K [] 4 else Qjr R (HW n a1 a0 some) fun r2=>Qjr R (VZ n a0 r2 a2 some) fun b=>K b 0
def WO (n:Nat) (h2:Int) (f:LL) (d:Int) (k0:oP R) (k1:Qkr R):Qks R
 | 0,_,_=>none
 | m+1,a,b=>bif decide (b<d) then QjP R f b fun h e=>Qjr R (pIw h) fun c=>Qjp R (decide (c<=a)) fun o=>QjK R h (!o) e fun i j=>Qjp R (Qjn o (decide (i>=j))) fun p=>Qjs R (!p) (pIw e) fun k=>bif Qjn p (decide (k>h2)) then k0 else Qjr R (pIw e) fun l=>WO n h2 f d k0 k1 m l (wJ (b+1)) else k1 a b (decide (b<d))
def JZ (a0:Int) (a1:LL) (K:Qko R):oP R:=Qjr R (Ux n a0 some) fun a=>bif !a then K false else WO n a0 a1 (a1.length:Int) (K false) (fun b c d=>K true) n (-1:Int) 0
def WH (h2:Int) (c:LL) (b:Int) (k0:oP R) (k1:Qkk R):Qkl R
 | 0,_=>none
 | m+1,a=>bif decide (a<b) then Qkf R c a fun f=>Qjr R (JZ n h2 f some) fun g=>bif !g then k0 else WH h2 c b k0 k1 m (wJ (a+1)) else k1 a (decide (a<b))
def Hq (a0:Int) (a1:LL) (K:Qkj R):oP R:=Qjr R (Ux n a0 some) fun a=>bif !a then K 4 else WH n a0 a1 (a1.length:Int) (K 1) (fun b c=>K 0) n 0
def QC (n:Nat) (a1:Int) (K:Qkp R):oP R:=bif decide (a1<0) then none else Qjq R (wJ (a1-wJ (0-0))) fun c=>bif decide (c>0) then Qjr R (slB 0 none (some 0)) fun a=>gb true (bif decide (0<c) then some () else none) () fun u3=>Qjr R (Y9 (Int.toNat c*16)) fun b=>K [] else K []
def Qf (n:Nat) (c:LL) (b:Int) (k0:Qkr R):Qks R
 | 0,_,_=>none
 | m+1,h2,a=>bif decide (a<b) then Qkf R c a fun d=>Qjq R (wJ (h2+(d.length:Int))) fun g=>bif decide (g<0) then none else Qf n c b k0 m g (wJ (a+1)) else k0 h2 a (decide (a<b))
def Qg (n:Nat) (d:LL) (b:Int) (k0:Qkm R):Qkn R
 | 0,_,_=>none
 | m+1,a,c=>bif decide (a<b) then Qkf R d a fun e=>Qjr R (Y9 ((c.length+e.length)*16)) fun h=>Qg n d b k0 m (wJ (a+1)) (c++e) else k0 a (decide (a<b)) c
def QI (a0:LL) (K:Qkp R):oP R:=Qf n a0 (a0.length:Int) (fun a d e=>Qjr R (QC n a some) fun b=>Qg n a0 (a0.length:Int) (fun f g c=>K c) n 0 b) n 0 0
def Nr (n:Nat) (a0:Int) (K:Qkj R):oP R:=bif decide (a0>=65536) then Qjr R (B9 16) fun e=>bif decide (shR .u32 a0 16>=256) then Qjr R (B9 8) fun f=>Qjr R (Vw Qjm (IntKind.wrap .u8 (shR .u32 (shR .u32 a0 16) 8))) fun a=>K (wJ (wJ (16+8)+wJ a)) else Qjr R (Vw Qjm (IntKind.wrap .u8 (shR .u32 a0 16))) fun b=>K (wJ (16+wJ b)) else bif decide (a0>=256) then Qjr R (B9 8) fun g=>Qjr R (Vw Qjm (IntKind.wrap .u8 (shR .u32 a0 8))) fun c=>K (wJ (wJ (0+8)+wJ c)) else Qjr R (Vw Qjm (IntKind.wrap .u8 a0)) fun d=>K (wJ (0+wJ d))
def RL (n:Nat) (a0:Int) (K:Qkj R):oP R:=bif decide (a0>=4294967296) then Qjr R (B9 32) fun i=>bif decide (shR .u64 a0 32>=65536) then Qjr R (B9 16) fun j=>bif decide (shR .u64 (shR .u64 a0 32) 16>=256) then Qjr R (B9 8) fun k=>Qjr R (Vw Qjm (IntKind.wrap .u8 (shR .u64 (shR .u64 (shR .u64 a0 32) 16) 8))) fun a=>K (wJ (wJ (wJ (32+16)+8)+wJ a)) else Qjr R (Vw Qjm (IntKind.wrap .u8 (shR .u64 (shR .u64 a0 32) 16))) fun b=>K (wJ (wJ (32+16)+wJ b)) else bif decide (shR .u64 a0 32>=256) then Qjr R (B9 8) fun l=>Qjr R (Vw Qjm (IntKind.wrap .u8 (shR .u64 (shR .u64 a0 32) 8))) fun c=>K (wJ (wJ (32+8)+wJ c)) else Qjr R (Vw Qjm (IntKind.wrap .u8 (shR .u64 a0 32))) fun d=>K (wJ (32+wJ d)) else bif decide (a0>=65536) then Qjr R (B9 16) fun m=>bif decide (shR .u64 a0 16>=256) then Qjr R (B9 8) fun o=>Qjr R (Vw Qjm (IntKind.wrap .u8 (shR .u64 (shR .u64 a0 16) 8))) fun e=>K (wJ (wJ (wJ (0+16)+8)+wJ e)) else Qjr R (Vw Qjm (IntKind.wrap .u8 (shR .u64 a0 16))) fun f=>K (wJ (wJ (0+16)+wJ f)) else bif decide (a0>=256) then Qjr R (B9 8) fun p=>Qjr R (Vw Qjm (IntKind.wrap .u8 (shR .u64 a0 8))) fun g=>K (wJ (wJ (0+8)+wJ g)) else Qjr R (Vw Qjm (IntKind.wrap .u8 a0)) fun h=>K (wJ (0+wJ h))
def JP (a0:Int) (K:Qkj R):oP R:=bif false then Qjr R (Nr n (IntKind.wrap .u32 a0) some) fun a=>K a else Qjr R (RL n a0 some) fun r2=>K r2
def V2 (n:Nat) (a0:Int) (K:Qko R):oP R:=K (a0 !=a0)
def VD (a0 a1:Int) (K:Qkj R):oP R:=Qjr R (V2 n a0 some) fun a=>Qjr R (V2 n a1 some) fun r2=>bif a then bif r2 then K 0 else K (-1:Int) else bif r2 then K 1 else bif decide (a0<a1) then K (-1:Int) else bif decide (a0>a1) then K 1 else K 0
def Uy (a d b e:Int) (K:Qkj R):oP R:=Qjr R (VD n a b some) fun c=>K c
def Qh (b:Int) (k0:Qkm R):Qkn R
 | 0,_,_=>none
 | m+1,a,c=>Qjp R (decide (a>b)) fun ag=>Qjs R ag (inB c.length a) fun z=>Qjs R ag c[a.toNat]? fun g=>Qkg R g ag fun l o=>Qjq R (wJ (a-1)) fun aj=>Qjs R ag (inB c.length aj) fun aa=>Qjq R (Int.toNat aj) fun ak=>Qjs R ag c[ak]? fun h=>Qkg R h ag fun p q=>QjK R l ag o fun r s=>QjK R p ag q fun t u=>Qjs R ag (Uy n r s t u some) fun i=>Qjp R (Qjo ag (decide (i<0))) fun ah=>bif ah then Qka R c.length aj c ak fun d e=>Qka R c.length a c a.toNat fun v x=>QjF R c.length a c a.toNat fun f=>Qjq R (List.set c a.toNat (List.set (List.set f 0 d) 1 e)) fun ai=>QjF R (List.length ai) aj ai ak fun y=>Qh b k0 m aj (List.set ai ak (List.set (List.set y 0 v) 1 x)) else k0 a ah c
def Q7 (b h2:Int) (k0:Qkm R):Qkn R
 | 0,_,_=>none
 | m+1,a,c=>bif decide (a<h2) then Qh n b (fun e f d=>Q7 b h2 k0 m (wJ (a+1)) d) n a c else k0 a (decide (a<h2)) c
def Xh (a:LL) (a1 a2:Int) (K:Qkp R):oP R:=Q7 n a1 a2 (fun c d b=>K b) n (wJ (a1+1)) a
def Xv (a h2 d:Int) (b:LL) (k0:Qkp R):Nat->oP R
 | 0=>none
 | m+1=>bif decide (wJ (h2-a)<=12) then Qjr R (Xh n b a h2 some) fun c=>Qjr R (Hj c b.length) fun e=>k0 c else bif d==0 then none else bif !true then none else none
def XG (a:LL) (a1 a2 b:Int) (K:Qkp R):oP R:=Xv n a1 a2 b a (fun c=>K c) n
def Qu (a:LL) (K:Qkp R):oP R:=Qjr R (JP n (IntKind.wrap .u64 (a.length:Int)) some) fun b=>Qjr R (XG n a 0 (a.length:Int) b some) fun r2=>Qjr R (Hj r2 a.length) fun u3=>K r2
def X4 (n:Nat) (c:Int) (d:LL) (k0:Qkm R):Qkn R
 | 0,_,_=>none
 | m+1,b,a=>bif decide (b<c) then Qka R d.length b d b.toNat fun e f=>Qjq R (wJ ((a.length:Int)-1)) fun z=>Qjp R (decide (z>=0)) fun y=>Qjs R y (pIw e) fun j=>Qjs R y (inB a.length z) fun t=>Qjq R (Int.toNat z) fun aa=>Qjs R y a[aa]? fun k=>Qjs R y k[1]? fun l=>Qjs R y (pIw l) fun o=>bif Qjo y (decide (j<=o)) then QjF R a.length z a aa fun p=>Qjr R p[1]? fun q=>QjC R q f fun h i=>QjF R a.length z a aa fun r=>X4 n c d k0 m (wJ (b+1)) (List.set a aa (List.set r 1 (Q4 (if h<i then i else h)))) else Qjr R (Y9 ((a.length+[[e,f]].length)*16)) fun x=>X4 n c d k0 m (wJ (b+1)) (a++[[e,f]]) else k0 b (decide (b<c)) a
def KW (b:LL) (K:LL->LL->oP R):oP R:=Qjr R (Qu n b some) fun a=>Qjr R (Hj a b.length) fun u2=>X4 n (a.length:Int) a (fun d e c=>K c a) n 0 []
def HA (a0:Int) (a1 a2:LL) (K:Qkq R):oP R:=Qjq R [[D.sl 2 a1],[D.sl 2 a2]] fun c=>Qjr R (Hq n a0 c some) fun a=>bif a !=0 then K [] a else Qjr R (QI n c some) fun r2=>Qjr R (LW [r2]) fun u3=>gb true (KW n r2 Tu2) ([],[]) fun b=>Qjr R (Hj b.2 r2.length) fun d=>K b.1 0
def YS (c f g d e:Int) (h:LL) (K:Qkp R):oP R:=Qjr R (Tw n e (wJ (wJ (c-d)+1)) (wJ (wJ (wJ (wJ (f-g)-1)-wJ (wJ (c-d)+1))+1)) Tu2) fun a=>Qjr R (HA n e h a.1 Tu2) fun r2=>Qjr R (LW [r2.1]) fun u3=>K r2.1
def Qp (b:Int) (k0:LL->LL->Bool->LL->oP R):Nat->LL->LL->LL->oP R
 | 0,_,_,_=>none
 | m+1,a,h2,e=>Qjp R (Qjo (decide ((a.length:Int)>0)) (decide ((h2.length:Int)>0))) fun aq=>bif aq then QjQ R a 0 fun c k l=>QjQ R h2 0 fun d o p=>QjC R c d fun q r=>bif q==r then Qjr R (pIw c) fun ao=>QjC R k l fun s t=>Qjr R (pIw d) fun ap=>QjC R o p fun u v=>Qjr R (YS n s t u v b e some) fun f=>QjC R c d fun x y=>bif decide (x<=y) then Qjr R (slB a.length (some 1) none) fun i=>QjC R c d fun z aa=>bif decide (z>=aa) then Qjr R (slB h2.length (some 1) none) fun ab=>Qp b k0 m (cut a i) (cut h2 ab) f else Qp b k0 m (cut a i) h2 f else QjC R c d fun ac ad=>bif decide (ac>=ad) then Qjr R (slB h2.length (some 1) none) fun ae=>Qp b k0 m a (cut h2 ae) f else Qp b k0 m a h2 f else QjC R c d fun ag ah=>bif decide (ag<=ah) then Qjr R (slB a.length (some 1) none) fun j=>QjC R c d fun ai aj=>bif decide (ai>=aj) then Qjr R (slB h2.length (some 1) none) fun ak=>Qp b k0 m (cut a j) (cut h2 ak) e else Qp b k0 m (cut a j) h2 e else QjC R c d fun al am=>bif decide (al>=am) then Qjr R (slB h2.length (some 1) none) fun an=>Qp b k0 m a (cut h2 an) e else Qp b k0 m a h2 e else k0 a h2 aq e
def K6 (a0 a1:LL) (a:Int) (b:LL) (K:Qkp R):oP R:=Qp n a (fun d e f c=>K c) n a0 a1 b
def VR (a0:Int) (a1 a2:LL) (K:Qkq R):oP R:=jn (fun (d:Bool)=>(bif d then K [] 4 else jn (fun (e:Bool)=>(bif e then K [] 1 else Qjr R (K6 n a1 a2 a0 [] some) fun f=>K f 0:oP R)) fun a=>Qjr R (VU n a1 some) fun b=>bif !b then a (!b) else Qjr R (VU n a2 some) fun g=>a (!g):oP R)) fun c=>bif decide (a0<1) then c (decide (a0<1)) else c (decide (a0>7200))
def P8 (n:Nat) (a b:Int) (K:Qkj R):oP R:=K (wJ (b-a))
def Zv (h2:LL) (b:Int) (k0:Qkr R):Qks R
 | 0,_,_=>none
 | m+1,c,a=>bif decide (a<b) then QjP R h2 a fun e f=>QjC R e f fun g h=>Qjr R (P8 n g h some) fun i=>Zv h2 b k0 m (wJ (c+i)) (wJ (a+1)) else k0 c a (decide (a<b))
def Sm (a0:LL) (K:Qkj R):oP R:=Zv n a0 (a0.length:Int) (fun a b c=>K a) n 0 0
def HG (a0:Int) (a1:LL) (K:Qkj R):oP R:=Qjr R (JZ n a0 a1 some) fun a=>bif !a then K 0 else Qjr R (Sm n a1 some) fun r2=>K r2
def Zd (n:Nat) (b:Int) (e:LL) (c:Int) (k0:Qkm R):Qkn R
 | 0,_,_=>none
 | m+1,a,d=>bif decide (a<c) then QjP R e a fun i j=>QjC R j i fun g h=>Qjq R [[Q4 g,Q4 (wJ (wJ (h+b)-1))]] fun l=>Qjr R (Y9 ((d.length+l.length)*16)) fun k=>Zd n b e c k0 m (wJ (a+1)) (d++l) else k0 a (decide (a<c)) d
def Yu (n:Nat) (b c:Int) (d:LL) (k0:Qkm R):Qkn R
 | 0,_,_=>none
 | m+1,a,e=>bif decide (a<c) then Qka R d.length a d a.toNat fun i j=>QjC R j i fun g h=>Qjq R [[Q4 g,Q4 (wJ (wJ (h+b)-1))]] fun o=>Qjr R (Y9 ((e.length+o.length)*16)) fun l=>Yu n b c d k0 m (wJ (a+1)) (e++o) else k0 a (decide (a<c)) e
def Wn (a0:Int) (a1 a2:LL) (K:Qkq R):oP R:=Qjr R (VR n a0 a1 a2 Tu2) fun a=>bif a.2 !=0 then K [] a.2 else Qjr R (HG n a0 a.1 some) fun r2=>bif r2==a0 then K [] 13 else Qjq R (a.1.length:Int) fun ah=>Qjp R (decide (ah>1)) fun g=>Qjs R g (inB a.1.length 0) fun u3=>Qjs R g a.1[Int.toNat 0]? fun h=>Qkc R h g fun b=>Qjp R (Qjo g (b==0)) fun ac=>Qjq R (wJ (ah-1)) fun ad=>Qjs R ac (inB a.1.length ad) fun t=>Qjq R (Int.toNat ad) fun ag=>Qjs R ac a.1[ag]? fun j=>Qjs R ac j[1]? fun k=>Qjs R ac (pIw k) fun l=>bif Qjo ac (l==a0) then QjX R a.1.length ad a.1 ag fun c=>QjX R a.1.length 0 a.1 (Int.toNat 0) fun d=>QjF R a.1.length ad a.1 ag fun e=>Qjq R (List.set a.1 ag (List.set e 1 (Q4 (wJ (c+d))))) fun ae=>Qjr R (slB (List.length ae) (some 1) none) fun f=>Zd n a0 (cut ae f) ((List.length (cut ae f):Nat):Int) (fun y z r=>K r 0) n 0 [] else Yu n a0 ah a.1 (fun aa ab s=>K s 0) n 0 []
def Qz (c d:Int) (e:LL) (b:Int) (k0:Qkm R):Qkn R
 | 0,_,_=>none
 | m+1,a,f=>bif decide (a<b) then QjP R e a fun h i=>Qjr R (Yc n c some) fun j=>Qjr R (Yc n d some) fun k=>QjC R h i fun l o=>Qjr R (X8 n f 6 j k l o 0 some) fun p=>Qz c d e b k0 m (wJ (a+1)) p else k0 a (decide (a<b)) f
def QQ (e h:Int) (b i:LL) (k0:Qky R) (k1:Qkm R):Qkn R
 | 0,_,_=>none
 | m+1,a,g=>Qjp R (decide (a<(b.length:Int))) fun c=>bif c then gb true (XO n b i e a some) (fun _=>false) fun k=>QjV R b e fun p=>gb true (U1 n p k Tu2) ([],fun _=>false) fun j=>QjV R b a fun s=>gb true (U1 n s j.2 Tu2) ([],fun _=>false) fun t=>Qjr R (Wn n h j.1 t.1 Tu2) fun f=>bif f.2 !=0 then k0 f.2 g else Qz n e a f.1 (f.1.length:Int) (fun v x u=>QQ e h b i k0 k1 m (wJ (a+1)) u) n 0 g else k1 a c g
def Qq (a b:Int) (c d:LL) (k0:Qky R) (k1:Qkm R):Qkn R
 | 0,_,_=>none
 | m+1,h2,e=>bif decide (h2<a) then QQ n h2 b c d (fun f g=>k0 f g) (fun i j h=>Qq a b c d k0 k1 m (wJ (h2+1)) h) n (wJ (h2+1)) e else k1 h2 (decide (h2<a)) e
def Y7 (b:Int) (a c d:LL) (K:Qky R):oP R:=Qq n (a.length:Int) b a c (fun e f=>K e f) (fun h i g=>K 0 g) n 0 d
def F6 (n:Nat) (a0 a1:Int) (K:Qkj R):oP R:=bif decide (a1<1) then K 0 else Qjr R (nz a1) fun a=>Qjq R (Int.tmod a0 a1) fun b=>bif decide (b<0) then K (wJ (b+a1)) else K b
def YK (n:Nat) (d:LL) (k0:oP R) (k1:Qkk R):Qkl R
 | 0,_=>none
 | m+1,h2=>Qjp R (decide (h2<(d.length:Int))) fun ad=>bif ad then QjD R d h2 fun a=>Qjp R (!(decide (a<0))&&decide (h2>0)) fun ab=>Qjs R ab (Q1 d h2) fun i=>Qkc R i ab fun b=>Qjs R ab (Q1 d (wJ (h2-1))) fun k=>Qkc R k ab fun c=>Qjp R (Qjn (decide (a<0)) (Qjo (decide (h2>0)) (decide (b<=c)))) fun aa=>Qk0 R d h2 (!aa) fun e=>Qjp R (Qjn aa (decide (e<(-65536:Int)))) fun z=>Qjs R (!z) (Q1 d h2) fun q=>Qjs R (!z) q[2]? fun r=>Qjs R (!z) (pIw r) fun f=>Qjp R (Qjn z (decide (f>65536))) fun ac=>Qk0 R d h2 (!ac) fun u=>Qjs R (!ac) (Q1 d h2) fun v=>Qjs R (!ac) v[2]? fun x=>Qjs R (!ac) (pIw x) fun y=>bif Qjn ac (decide (u>=y)) then k0 else YK n d k0 k1 m (wJ (h2+1)) else k1 h2 ad
def Jj (a0:LL) (K:Qko R):oP R:=YK n a0 (K false) (fun a b=>K true) n 0
def U5 (n:Nat) (b:LL) (h2:Int) (k0:D->D->D->oP R) (k1:Qkk R):Qkl R
 | 0,_=>none
 | m+1,a=>Qjp R (decide (a<(b.length:Int))) fun j=>bif j then QjD R b a fun f=>bif f==h2 then QjQ R b a fun g h i=>k0 g h i else U5 n b h2 k0 k1 m (wJ (a+1)) else k1 a j
def Bn (a0:LL) (a1:Int) (K:D->D->D->Bool->oP R):oP R:=U5 n a0 a1 (fun a b c=>K a b c true) (fun d e=>K (Q4 0) (Q4 0) (Q4 0) false) n 0
def YU (b:Int) (f:LL) (g d:Int) (h:D) (k0:Qkm R):Qkn R
 | 0,_,_=>none
 | m+1,a,c=>Qjp R (Qjo (decide (a<d)) (decide (a<b))) fun q=>bif q then Qke R f g fun j=>QjC R j h fun k l=>Qjr R (F6 n (wJ (wJ (wJ (k-l)+1)+a)) b some) fun e=>QjF R c.length e c e.toNat fun o=>YU b f g d h k0 m (wJ (a+1)) (List.set c e.toNat (List.set o 0 (D.bool true))) else k0 a q c
def XU (d:Int) (b e:LL) (k0:Qkm R):Qkn R
 | 0,_,_=>none
 | m+1,a,f=>Qjp R (decide (a<(b.length:Int))) fun j=>bif j then QjD R b a fun i=>gb true (Bn n e i Tu4) (.bool false,.bool false,.bool false,false) fun c=>bif !c.2.2.2 then XU d b e k0 m (wJ (a+1)) f else Qjr R (Q1 b a) fun o=>QjZ R o fun q=>Qke R b a fun s=>Qk3 R s c.2.2.1 c.2.1 fun t u v=>YU n d b a (wJ (wJ (wJ (wJ (q-t)+u)-v)-1)) c.2.2.1 (fun y z x=>XU d b e k0 m (wJ (a+1)) x) n 0 f else k0 a j f
def Kj (a0:Int) (a1 a2:LL) (K:Qkq R):oP R:=Qjr R (Vi n a0 1 7200 some) fun a=>bif !a then K [] 4 else Qjr R (Jj n a1 some) fun r2=>Qjs R (!(!r2)) (Jj n a2 some) fun b=>bif Qjn (!r2) (!b) then K [] 1 else gb true (bif decide (0<=a0)&&decide (a0<=a0) then some () else none) () fun d=>Qjr R (Y9 (Int.toNat a0*1)) fun e=>XU n a0 a1 a2 (fun f g c=>K c 0) n 0 (List.replicate a0.toNat [D.bool false])
def Wg (n:Nat) (h2:Int) (b:LL) (k0:Qkr R):Qks R
 | 0,_,_=>none
 | m+1,c,a=>bif decide (a<h2) then QjH R b a fun e=>Qjr R (KA e) fun f=>bif f then Wg n h2 b k0 m (wJ (c+1)) (wJ (a+1)) else Wg n h2 b k0 m c (wJ (a+1)) else k0 c a (decide (a<h2))
def Wp (n:Nat) (a:Int) (c:LL) (d:Int) (k0:Qkk R):Qkl R
 | 0,_=>none
 | m+1,b=>Qjr R (nz a) fun h=>QjH R c (Int.tmod (wJ (d+b)) a) fun g=>Qjr R (KA g) fun e=>bif e then Wp n a c d k0 m (wJ (b+1)) else k0 b e
def Ya (b:Int) (c:LL) (k0:Qkm R):Qkn R
 | 0,_,_=>none
 | m+1,a,e=>bif decide (a<b) then QjH R c a fun h=>Qjr R (KA h) fun d=>Qjs R (!(!d)) (F6 n (wJ (a-1)) b some) fun i=>Qjs R (!(!d)) (Q1 c i) fun j=>Qjs R (!(!d)) j[0]? fun k=>Qjs R (!(!d)) (KA k) fun l=>bif Qjn (!d) l then Ya b c k0 m (wJ (a+1)) e else Wp n b c a (fun f o=>Qjq R [[Q4 (wJ (a+f)),Q4 (wJ (wJ (a+b)-1))]] fun q=>Qjr R (Y9 ((e.length+q.length)*16)) fun p=>Ya b c k0 m (wJ (a+1)) (e++q)) n 0 else k0 a (decide (a<b)) e
def Kt (a0:Int) (a1 a2:LL) (K:Qkq R):oP R:=Qjr R (Kj n a0 a1 a2 Tu2) fun a=>bif a.2 !=0 then K [] a.2 else Wg n a0 a.1 (fun c e f=>bif c==a0 then K [] 13 else Ya n a0 a.1 (fun g h d=>K d 0) n 0 []) n 0 0
def VT (n:Nat) (c:Int) (b:LL) (k0:oP R) (k1:Qkk R):Qkl R
 | 0,_=>none
 | m+1,a=>Qjp R (decide (a<(b.length:Int))) fun j=>bif j then Qjr R (Q1 b a) fun d=>QjZ R d fun f=>QjN R b a fun i=>bif decide (wJ (f-i)>c) then k0 else VT n c b k0 k1 m (wJ (a+1)) else k1 a j
def NO (a0:Int) (a1:LL) (K:Qko R):oP R:=Qjr R (Vi n a0 1 7200 some) fun a=>Qjs R (!(!a)) (Jj n a1 some) fun r2=>bif Qjn (!a) (!r2) then K false else VT n a0 a1 (K false) (fun b c=>K true) n 0
def VV (n:Nat) (b:Int) (c:LL) (k0:Qkr R):Qks R
 | 0,_,_=>none
 | m+1,h2,a=>bif decide (a<b) then QjM R c a fun f=>VV n b c k0 m (wJ (h2+(f.length:Int))) (wJ (a+1)) else k0 h2 a (decide (a<b))
def WG (a:LL) (a1:Int) (K:Qkj R):oP R:=VV n a1 a (fun b c d=>K b) n 0 0
def ZL (c:LL) (f:Int) (g h:LL) (d:D) (k0:Qkm R):Qkn R
 | 0,_,_=>none
 | m+1,a,e=>Qjr R (pSl 4 d) fun k=>Qjp R (decide (a<(k.length:Int))) fun aj=>bif aj then Qjr R (WG n g f some) fun b=>Qjr R (pSl 4 d) fun aa=>QjL R aa a fun i l=>Qk5 R i fun ab ac=>Qjr R (pSl 4 d) fun ad=>Qjq R (wJ (b+a)) fun ak=>bif decide (a<wJ ((ad.length:Int)-1)) then QjH R c ak fun ag=>QjC R ag ab fun o p=>QjH R c ak fun ai=>Qk3 R ai l ac fun q r s=>Qjq R [[Q4 ak,Q4 (wJ (ak+1)),Q4 (wJ (o+p)),Q4 (wJ (wJ (q+r)+s))]] fun al=>Qjr R (Y9 ((e.length+al.length)*32)) fun av=>ZL c f g h d k0 m (wJ (a+1)) (e++al) else Qjr R (PJ n h f Tu5) fun j=>bif j.2.2.2.2 then Qjr R (pIw j.2.1) fun an=>Qjr R (WG n g an some) fun t=>QjH R c ak fun ap=>QjC R ap j.2.2.1 fun u v=>QjH R c ak fun ar=>Qk3 R ar l j.2.2.2.1 fun x y z=>Qjq R [[Q4 ak,Q4 t,Q4 (wJ (u+v)),Q4 (wJ (wJ (x+y)+z))]] fun am=>Qjr R (Y9 ((e.length+am.length)*32)) fun a2=>ZL c f g h d k0 m (wJ (a+1)) (e++am) else ZL c f g h d k0 m (wJ (a+1)) e else k0 a aj e
def U8 (c a d:LL) (k0:Qkm R):Qkn R
 | 0,_,_=>none
 | m+1,h2,e=>Qjp R (decide (h2<(a.length:Int))) fun o=>bif o then QjU R a h2 fun f=>ZL n c h2 a d f (fun k l g=>U8 c a d k0 m (wJ (h2+1)) g) n 0 e else k0 h2 o e
def Sd (a b a1:LL) (K:Qkp R):oP R:=U8 n a1 a b (fun d e c=>K c) n 0 []
def YJ (n:Nat) (b:LL) (h2:Int) (k0:D->D->D->oP R) (k1:Qkk R):Qkl R
 | 0,_=>none
 | m+1,a=>Qjp R (decide (a<(b.length:Int))) fun j=>bif j then QjD R b a fun f=>bif f==h2 then QjQ R b a fun g h i=>k0 g h i else YJ n b h2 k0 k1 m (wJ (a+1)) else k1 a j
def V7 (a0:LL) (a1:Int) (K:D->D->D->Bool->oP R):oP R:=YJ n a0 a1 (fun a b c=>K a b c true) (fun d e=>K (Q4 0) (Q4 0) (Q4 0) false) n 0
def Pi (a0:LL) (f g h a2:Int) (K:D->D->D->D->D->D->Bool->oP R):oP R:=QjV R a0 f fun j=>gb true (V7 n j a2 Tu4) (.bool false,.bool false,.bool false,false) fun a=>QjV R a0 g fun m=>gb true (V7 n m a2 Tu4) (.bool false,.bool false,.bool false,false) fun b=>Qjp R (Qjo a.2.2.2 b.2.2.2) fun d=>QjK R b.2.1 d a.2.2.1 fun o p=>K a.1 a.2.1 a.2.2.1 b.1 b.2.1 b.2.2.1 (Qjo d (decide (wJ (h+o)<=p)))
def Ul (b:LL) (h2 c g d f:Int) (k0:oP R) (k1:Qkk R):Qkl R
 | 0,_=>none
 | m+1,a=>QjV R b c fun l24=>Qjp R (decide (a<(l24.length:Int))) fun v=>bif v then QjV R b c fun r=>QjD R r a fun u=>Qjr R (Pi n b c g d u Tu7) fun e=>bif e.2.2.2.2.2.2 then Qk1 R e.2.2.1 e.2.2.2.2.2.1 e.2.1 e.2.2.2.2.1 fun h i j k=>bif decide (wJ ((if h<wJ (f+i) then wJ (f+i) else h)-(if wJ (d+k)<j then wJ (d+k) else j))>h2) then k0 else Ul b h2 c g d f k0 k1 m (wJ (a+1)) else Ul b h2 c g d f k0 k1 m (wJ (a+1)) else k1 a v
def SN (a0:LL) (a b c d a2:Int) (K:Qko R):oP R:=Ul n a0 a2 a b c d (K false) (fun e f=>K true) n 0
def Uh (e:LL) (l:Int) (o:LL) (f c:D) (k0:Qkm R):Qkn R
 | 0,_,_=>none
 | m+1,a,d=>Qjr R (pSl 4 c) fun p=>Qjp R (decide (a<(p.length:Int))) fun ah=>bif ah then Qjr R (WG n o l some) fun b=>Qjr R (pSl 4 c) fun t=>QjL R t a fun g u=>Qk5 R g fun v x=>QjD R e (wJ (b+a)) fun h=>QjH R e (wJ (b+a)) fun ab=>Qk3 R ab u f fun i j k=>Qjq R (wJ (2*wJ (b+a))) fun aj=>Qjq R [[Q4 1,Q4 aj,Q4 (wJ (aj+1)),Q4 h,Q4 (wJ (i+j)),Q4 k]] fun ai=>Qjr R (Y9 ((d.length+ai.length)*48)) fun ae=>Qjr R (pSl 4 c) fun ac=>bif decide (a<wJ ((ac.length:Int)-1)) then Qk3 R v x f fun q r s=>Qjq R [[Q4 2,Q4 (wJ (aj+1)),Q4 (wJ (aj+2)),Q4 q,Q4 r,Q4 s]] fun ak=>Qjr R (Y9 ((List.length (d++ai)+ak.length)*48)) fun ag=>Uh e l o f c k0 m (wJ (a+1)) (d++ai++ak) else Uh e l o f c k0 m (wJ (a+1)) (d++ai) else k0 a ah d
def Ue (c a:LL) (k0:Qkm R):Qkn R
 | 0,_,_=>none
 | m+1,h2,d=>Qjp R (decide (h2<(a.length:Int))) fun l=>bif l then Qjr R (Q1 a h2) fun b=>Qjr R b[0]? fun h=>Qjr R b[1]? fun i=>Qk5 R b fun e f=>Uh n c h2 a e f (fun j k g=>Ue c a k0 m (wJ (h2+1)) g) n 0 d else k0 h2 l d
def S9 (a a1:LL) (K:Qkp R):oP R:=Ue n a1 a (fun c d b=>K b) n 0 []
def Uf (d c:LL) (k0:Qkm R):Qkn R
 | 0,_,_=>none
 | m+1,b,e=>Qjp R (decide (b<(c.length:Int))) fun z=>bif z then QjE R c b fun a o p q=>Qk2 R a fun r s t=>Qjr R a[6]? fun u=>Qjr R (pIw o) fun v=>Qjr R (WG n d v some) fun f=>QjC R p q fun g x=>Qjr R (WG n d x some) fun h=>Qk1 R r s t u fun i j k l=>Qjq R [[Q4 3,Q4 (wJ (wJ (2*wJ (f+g))+1)),Q4 (wJ (2*wJ (h+i))),Q4 j,Q4 k,Q4 l]] fun aa=>Qjr R (Y9 ((e.length+aa.length)*48)) fun y=>Uf d c k0 m (wJ (b+1)) (e++aa) else k0 b z e
def ZJ (b c:LL) (k0:Qkm R):Qkn R
 | 0,_,_=>none
 | m+1,a,e=>Qjp R (decide (a<(c.length:Int))) fun x=>bif x then QjT R c a fun f l o p=>Qjr R (pIw f) fun q=>Qjr R (WG n b q some) fun g=>Qjr R (pIw f) fun r=>QjM R b r fun h=>Qjr R (pIw l) fun u=>Qjr R (WG n b u some) fun i=>QjC R o p fun j k=>Qjq R [[Q4 4,Q4 (wJ (wJ (2*wJ (g+(h.length:Int)))-1)),Q4 (wJ (2*i)),Q4 j,Q4 k,Q4 1]] fun y=>Qjr R (Y9 ((e.length+y.length)*48)) fun v=>ZJ b c k0 m (wJ (a+1)) (e++y) else k0 a x e
def YY (d c:LL) (k0:Qkm R):Qkn R
 | 0,_,_=>none
 | m+1,a,e=>Qjp R (decide (a<(c.length:Int))) fun v=>bif v then QjE R c a fun b o p q=>QjO R b fun r f=>Qjr R (pIw o) fun s=>Qjr R (WG n d s some) fun g=>QjC R p q fun h t=>Qjr R (WG n d t some) fun i=>QjC R r f fun j k=>Qjr R (pIw f) fun l=>Qjq R [[Q4 5,Q4 (wJ (2*wJ (g+h))),Q4 (wJ (2*wJ (i+j))),Q4 k,Q4 l,Q4 0]] fun x=>Qjr R (Y9 ((e.length+x.length)*48)) fun u=>YY d c k0 m (wJ (a+1)) (e++x) else k0 a v e
def SM (a b c d:LL) (K:Qkp R):oP R:=Uf n a b (fun h i e=>ZJ n a c (fun j k f=>YY n a d (fun l m g=>K g) n 0 f) n 0 e) n 0 []
def YE (g e:LL) (a b j:Int) (k0:Bool->Int->Bool->oP R):Nat->Bool->Int->oP R
 | 0,_,_=>none
 | m+1,k,c=>Qjp R (decide (c<(e.length:Int))) fun am=>bif am then QjD R e c fun d=>Qk0 R e c (d==a) fun f=>Qjp R (Qjo (d==a) (f==b)) fun al=>Qjs R (!al) (Q1 e c) fun r=>Qkc R r (!al) fun h=>Qjp R (!al&&h==b) fun an=>Qk0 R e c an fun v=>bif Qjn al (Qjo (h==b) (v==a)) then QjT R e c fun x y z aa=>QjV R g a fun ad=>QjH R ad j fun ag=>Qk1 R ag x y z fun ah ai aj ak=>Qjr R (pIw aa) fun ar=>Qjr R (Pi n g ai aj ak ah Tu7) fun aq=>YE g e a b j k0 m (Qjn k aq.2.2.2.2.2.2) (wJ (c+1)) else YE g e a b j k0 m k (wJ (c+1)) else k0 k c am
def Zt (b h2:LL) (c e:Int) (k0:Qkm R):Qkn R
 | 0,_,_=>none
 | m+1,a,d=>QjV R b c fun g=>Qjp R (decide (a<(g.length:Int))) fun v=>bif v then YE n b h2 c e a (fun o s t=>bif !o then QjV R b c fun r=>QjQ R r a fun h i j=>Qjr R (Y9 ((d.length+[[h,i,j]].length)*24)) fun u=>Zt b h2 c e k0 m (wJ (a+1)) (d++[[h,i,j]]) else Zt b h2 c e k0 m (wJ (a+1)) d) n false 0 else k0 a v d
def G5 (a0 a1:LL) (a2 a:Int) (K:Qkp R):oP R:=Zt n a0 a1 a2 a (fun c d b=>K b) n 0 []
def Uq (h2:LL) (b:Int) (k0:oP R) (k1:Qkk R):Qkl R
 | 0,_=>none
 | m+1,a=>Qjp R (decide (a<(h2.length:Int))) fun g=>bif g then QjV R h2 a fun e=>Qjr R (NO n b e some) fun f=>bif !f then k0 else Uq h2 b k0 k1 m (wJ (a+1)) else k1 a g
def Ur (d b:LL) (e:Int) (k0:oP R) (k1:Qkk R):Qkl R
 | 0,_=>none
 | m+1,a=>Qjp R (decide (a<(b.length:Int))) fun q=>bif q then QjT R b a fun f g h i=>Qk1 R f g h i fun j k l o=>Qjr R (SN n d j k l o e some) fun p=>bif !p then k0 else Ur d b e k0 k1 m (wJ (a+1)) else k1 a q
def Vh (n:Nat) (b:Int) (d:LL) (k0:Qkm R):Qkn R
 | 0,_,_=>none
 | m+1,a,c=>QjM R d b fun e=>Qjp R (decide (a<(e.length:Int))) fun i=>bif i then Qjq R [[Q4 1,Q4 b,Q4 a],[Q4 2,Q4 b,Q4 a]] fun j=>Qjr R (Y9 ((c.length+List.length j)*24)) fun h=>Vh n b d k0 m (wJ (a+1)) (c++j) else k0 a i c
def ZN (b:LL) (k0:Qkm R):Qkn R
 | 0,_,_=>none
 | m+1,a,c=>Qjp R (decide (a<(b.length:Int))) fun g=>bif g then Vh n a b (fun e f d=>ZN b k0 m (wJ (a+1)) d) n 0 c else k0 a g c
def Um (n:Nat) (c d:Int) (b:LL) (k0:Qkm R):Qkn R
 | 0,_,_=>none
 | m+1,a,e=>Qjp R (decide (a<(b.length:Int))) fun o=>bif o then QjD R b a fun f=>QjN R b a fun g=>Qjq R [[Q4 6,Q4 (wJ (2*c)),Q4 (wJ (2*d)),Q4 f,Q4 g,Q4 0]] fun p=>Qjr R (Y9 ((e.length+p.length)*48)) fun l=>Um n c d b k0 m (wJ (a+1)) (e++p) else k0 a o e
def Vd (b d:LL) (c e:Int) (k0:oP R) (k1:Qkm R):Qkn R
 | 0,_,_=>none
 | m+1,a,f=>Qjp R (decide (a<(b.length:Int))) fun j=>bif j then Qjr R (G5 n b d c a some) fun h=>Qjr R (G5 n b d a c some) fun i=>Qjr R (Kt n e h i Tu2) fun g=>bif g.2 !=0 then k0 else Um n c a g.1 (fun o p l=>Vd b d c e k0 k1 m (wJ (a+1)) l) n 0 f else k1 a j f
def Ui (b c:LL) (d:Int) (k0:oP R) (k1:Qkm R):Qkn R
 | 0,_,_=>none
 | m+1,a,e=>Qjp R (decide (a<(b.length:Int))) fun i=>bif i then Vd n b c a d k0 (fun g h f=>Ui b c d k0 k1 m (wJ (a+1)) f) n (wJ (a+1)) e else k1 a i e
def HS (k l m o:LL) (b:Int) (p q c e d f r:LL) (K:Int->LL->LL->Int->oP R):oP R:=gb true (SC n k l m o b p q c e d f r Tu3) ([],[],0) fun a=>bif a.2.2 !=0 then K 0 [] [] a.2.2 else bif decide (wJ (2*(a.1.length:Int))>48) then K 0 [] [] 7 else Uq n a.1 b (K 0 [] [] 13) (fun u v=>Qjr R (Sd n c d a.2.1 some) fun g=>Ur n a.1 g b (K 0 [] [] 13) (fun x y=>ZN n c (fun z aa t=>Qjr R (S9 n c a.2.1 some) fun h=>Qjr R (SM n c e d f some) fun i=>Qjr R (Y9 ((h.length+i.length)*48)) fun ab=>Ui n a.1 g b (K 0 [] [] 13) (fun ac ad j=>bif decide ((j.length:Int)>512) then K 0 [] [] 7 else K b t j 0) n 0 (h++i)) n 0 []) n 0) n 0
def JT (n:Nat) (b:Int) (a c:LL) (a1:Int) (K:Qko R):oP R:=K (Qjo (decide (a1>=0)) (decide (a1<(a.length:Int))))
def WN (p:LL) (h2 e:Int) (h i:LL) (k0:oP R) (k1:Qkk R):Qkl R
 | 0,_=>none
 | m+1,c=>bif decide (c<h2) then QjL R p c fun a q=>Qjr R a[2]? fun r=>Qk2 R a fun j k s=>Qjr R (pIw q) fun u=>Qjr R (JT n e h i u some) fun d=>Qjs R (!(!d)) (pIw r) fun v=>Qjs R (!(!d)) (JT n e h i v some) fun l=>Qjp R (Qjn (!d) (!l)) fun ag=>QjK R q (!ag) r fun x y=>bif Qjn ag (x==y) then k0 else Qjr R (pIw j) fun b=>Qjp R (decide (b<(-65536:Int))) fun ae=>QjK R j (!ae) k fun f g=>Qjp R (Qjn ae (decide (f>g))) fun ah=>Qjs R (!ah) (pIw k) fun o=>Qjp R (Qjn ah (decide (o>65536))) fun ad=>QjK R k (!ad) j fun z aa=>bif Qjn ad (decide (wJ (z-aa)>=e)) then k0 else Qjr R (pIw s) fun t=>Qjs R (!(decide (t<0))) (pIw s) fun ab=>bif Qjn (decide (t<0)) (decide (ab>1048576)) then k0 else WN p h2 e h i k0 k1 m (wJ (c+1)) else k1 c (decide (c<h2))
def HJ (b:Int) (c a:LL) (K:Qko R):oP R:=bif Qjn (Qjn (Qjn (decide (b<2)) (decide (b>7200))) (decide ((c.length:Int)>48))) (decide ((a.length:Int)>512)) then K false else WN n a (a.length:Int) b c a (K false) (fun d e=>K true) n 0
def UK (n:Nat) (h2:LL) (b c:Int) (k0:oP R) (k1:Qkk R):Qkl R
 | 0,_=>none
 | m+1,a=>bif decide (a<b) then QjD R h2 a fun d=>bif Qjn (decide (d<0)) (decide (d>=c)) then k0 else UK n h2 b c k0 k1 m (wJ (a+1)) else k1 a (decide (a<b))
def JG (a:Int) (b c a1:LL) (K:Qko R):oP R:=Qjr R (HJ n a b c some) fun d=>bif Qjn (!d) ((a1.length:Int) !=(b.length:Int)) then K false else UK n a1 (a1.length:Int) a (K false) (fun e f=>K true) n 0
def Hy (n:Nat) (a0 a1 a2:Int) (K:Qko R):oP R:=K (Qjo (decide (a0>=a1)) (decide (a0<=a2)))
def Ve (j:Int) (l k:LL) (k0:oP R) (k1:Qkk R):Qkl R
 | 0,_=>none
 | m+1,h2=>Qjp R (decide (h2<(k.length:Int))) fun ah=>bif ah then QjL R k h2 fun g s=>Qjr R g[2]? fun t=>Qk2 R g fun o p u=>Qjr R (pIw s) fun v=>Qjq R (wJ ((l.length:Int)-1)) fun ai=>Qjr R (Hy n v 0 ai some) fun a=>Qjs R (!(!a)) (pIw t) fun x=>Qjs R (!(!a)) (Hy n x 0 ai some) fun b=>Qjp R (Qjn (!a) (!b)) fun ag=>QjK R s (!ag) t fun c d=>Qjs R (!(Qjn ag (c==d))) (pIw o) fun e=>Qjp R (Qjn (Qjn ag (c==d)) (decide (e<(-65536:Int)))) fun ad=>Qjs R (!ad) (pIw p) fun f=>Qjp R (Qjn ad (decide (f>65536))) fun ab=>QjK R o (!ab) p fun h i=>Qjp R (Qjn ab (decide (h>i))) fun ae=>QjK R p (!ae) o fun q r=>Qjp R (Qjn ae (decide (wJ (q-r)>=j))) fun ac=>Qjs R (!ac) (pIw u) fun y=>Qjs R (!ac) (Hy n y 0 1048576 some) fun z=>bif Qjn ac (!z) then k0 else Ve j l k k0 k1 m (wJ (h2+1)) else k1 h2 ah
def Sb (a:Int) (b c:LL) (K:Qko R):oP R:=Qjr R (Hy n a 2 7200 some) fun d=>bif Qjn (Qjn (!d) (decide ((b.length:Int)>48))) (decide ((c.length:Int)>512)) then K false else Ve n a b c (K false) (fun e f=>K true) n 0
def VP (h2:LL) (b:Int) (k0:oP R) (k1:Qkk R):Qkl R
 | 0,_=>none
 | m+1,a=>Qjp R (decide (a<(h2.length:Int))) fun g=>bif g then QjD R h2 a fun e=>Qjr R (Hy n e 0 (wJ (b-1)) some) fun f=>bif !f then k0 else VP h2 b k0 k1 m (wJ (a+1)) else k1 a g
def Pm (a:Int) (b c a1:LL) (K:Qko R):oP R:=Qjr R (Sb n a b c some) fun d=>bif Qjn (!d) ((a1.length:Int) !=(b.length:Int)) then K false else VP n a1 a (K false) (fun e f=>K true) n 0
def Gc (n:Nat) (c:Int) (k0:Qkm R):Qkn R
 | 0,_,_=>none
 | m+1,a,b=>bif decide (a<c) then QjF R b.length a b a.toNat fun d=>Gc n c k0 m (wJ (a+1)) (List.set b a.toNat (List.set d 0 (Q4 (-1:Int)))) else k0 a (decide (a<c)) b
def JX (n:Nat) (f:LL) (d:Int) (k0:Qkm R):Qkn R
 | 0,_,_=>none
 | m+1,a,b=>bif decide (a<d) then QjG R f a fun c g=>Qjr R c[1]? fun i=>Qkb R c (Qjr R (pIw g) fun e=>QjF R b.length e b e.toNat fun h=>JX n f d k0 m (wJ (a+1)) (List.set b e.toNat (List.set h 0 (Q4 a)))) else k0 a (decide (a<d)) b
def Z7 (a b:LL) (K:Qkp R):oP R:=Qjq R (a.length:Int) fun j=>gb true (bif decide (0<=j)&&decide (j<=j) then some () else none) () fun e=>Qjq R (Int.toNat j) fun k=>Qjr R (Y9 (k*8)) fun u2=>Gc n ((List.length (List.replicate k [Q4 0]):Nat):Int) (fun f g c=>JX n b (b.length:Int) (fun h i d=>K d) n 0 c) n 0 (List.replicate k [Q4 0])
def Xx (n:Nat) (c e:LL) (k0:Qku R):Qkv R
 | 0,_,_,_=>none
 | m+1,a,d,b=>Qk4 R b.length a b a.toNat fun f=>bif !f then QjF R b.length a b a.toNat fun g=>Qjr R (Y9 ((d.length+[[Q4 a]].length)*8)) fun x=>QjD R c a fun l=>Qjq R (List.set b a.toNat (List.set g 0 (D.bool true))) fun y=>bif decide (l>=0) then QjD R c a fun q=>QjN R e q fun t=>Xx n c e k0 m t (d++[[Q4 a]]) y else Xx n c e k0 m a (d++[[Q4 a]]) y else k0 a (!f) d b
def Yv (a0:Int) (a1:Bool) (c d e a:LL) (K:LL->LL->oP R):oP R:=Xx n d e (fun g h b f=>Qjq R [[D.sl 1 b,D.bool a1]] fun j=>Qjr R (Y9 ((a.length+j.length)*32)) fun i=>K f (a++j)) n a0 [] c
def UR (a:LL) (j:Bool) (b:LL) (k:Bool) (K:Qkj R):oP R:=QjD R a 0 fun e=>QjD R b 0 fun h=>Qjr R (VD n e h some) fun i=>K i
def QS (b:Int) (k0:Qkm R):Qkn R
 | 0,_,_=>none
 | m+1,a,c=>Qjp R (decide (a>b)) fun ag=>Qjs R ag (inB c.length a) fun z=>Qjs R ag c[a.toNat]? fun g=>Qkg R g ag fun l o=>Qjq R (wJ (a-1)) fun aj=>Qjs R ag (inB c.length aj) fun aa=>Qjq R (Int.toNat aj) fun ak=>Qjs R ag c[ak]? fun h=>Qkg R h ag fun p q=>Qjs R ag (pSl 1 l) fun r=>Qjs R ag (KA o) fun s=>Qjs R ag (pSl 1 p) fun t=>Qjs R ag (KA q) fun u=>Qjs R ag (UR n r s t u some) fun i=>Qjp R (Qjo ag (decide (i<0))) fun ah=>bif ah then Qka R c.length aj c ak fun d e=>Qka R c.length a c a.toNat fun v x=>QjF R c.length a c a.toNat fun f=>Qjq R (List.set c a.toNat (List.set (List.set f 0 d) 1 e)) fun ai=>QjF R (List.length ai) aj ai ak fun y=>QS b k0 m aj (List.set ai ak (List.set (List.set y 0 v) 1 x)) else k0 a ah c
def QT (b h2:Int) (k0:Qkm R):Qkn R
 | 0,_,_=>none
 | m+1,a,c=>bif decide (a<h2) then QS n b (fun e f d=>QT b h2 k0 m (wJ (a+1)) d) n a c else k0 a (decide (a<h2)) c
def XN (a:LL) (a1 a2:Int) (K:Qkp R):oP R:=QT n a1 a2 (fun c d b=>K b) n (wJ (a1+1)) a
def XY (a h2 d:Int) (b:LL) (k0:Qkp R):Nat->oP R
 | 0=>none
 | m+1=>bif decide (wJ (h2-a)<=12) then Qjr R (XN n b a h2 some) fun c=>Qjr R (Hj c b.length) fun e=>k0 c else bif d==0 then none else bif !true then none else none
def Yh (a:LL) (a1 a2 b:Int) (K:Qkp R):oP R:=XY n a1 a2 b a (fun c=>K c) n
def Xk (a:LL) (K:Qkp R):oP R:=Qjr R (JP n (IntKind.wrap .u64 (a.length:Int)) some) fun b=>Qjr R (Yh n a 0 (a.length:Int) b some) fun r2=>Qjr R (Hj r2 a.length) fun u3=>K r2
def Vl (n:Nat) (f:LL) (d:Int) (k0:Qkm R):Qkn R
 | 0,_,_=>none
 | m+1,a,b=>bif decide (a<d) then QjL R f a fun c g=>Qkb R c (Qjr R (pIw g) fun e=>QjF R b.length e b e.toNat fun h=>Vl n f d k0 m (wJ (a+1)) (List.set b e.toNat (List.set h 0 (D.bool true)))) else k0 a (decide (a<d)) b
def Ww (b:Int) (d e c:LL) (k0:Qku R):Qkv R
 | 0,_,_,_=>none
 | m+1,a,f,g=>bif decide (a<b) then Qk4 R c.length a c a.toNat fun k=>bif !k then gb true (Yv n a false f e d g Tu2) ([],[]) fun h=>Ww b d e c k0 m (wJ (a+1)) h.1 h.2 else Ww b d e c k0 m (wJ (a+1)) f g else k0 a (decide (a<b)) f g
def Wv (c:Int) (d e:LL) (k0:Qku R):Qkv R
 | 0,_,_,_=>none
 | m+1,a,b,f=>bif decide (a<c) then Qk4 R b.length a b a.toNat fun j=>bif !j then gb true (Yv n a true b e d f Tu2) ([],[]) fun g=>Wv c d e k0 m (wJ (a+1)) g.1 g.2 else Wv c d e k0 m (wJ (a+1)) b f else k0 a (decide (a<c)) b f
def XB (a b:LL) (K:Qkp R):oP R:=Qjr R (Z7 n a b some) fun c=>Qjq R (a.length:Int) fun u=>Qjp R (decide (0<=u)&&decide (u<=u)) fun t=>gb true (bif t then some () else none) () fun u2=>Qjq R (Int.toNat u) fun v=>Qjr R (Y9 (v*1)) fun u3=>Vl n b (b.length:Int) (fun i j f=>gb true (bif t then some () else none) () fun k=>Qjr R (Y9 (v*1)) fun l=>Ww n u b c f (fun m o g h=>Wv n u b c (fun p q r d=>Qjr R (Xk n d some) fun e=>Qjr R (Hj e d.length) fun s=>K e) n 0 g h) n 0 (List.replicate v [D.bool false]) []) n 0 (List.replicate v [D.bool false])
def Xl (d:Int) (e b:LL) (a1:Int) (K:Qkj R):oP R:=QjL R e a1 fun a f=>Qk5 R a fun g c=>Qjr R a[4]? fun u=>Qjr R a[5]? fun v=>QjC R c g fun h i=>QjH R b i fun k=>QjC R k f fun l m=>QjH R b m fun p=>QjC R p c fun q r=>Qjr R (HW n (wJ (wJ (l-q)-r)) d some) fun s=>K (wJ (h+s))
def Xi (b:Int) (c d a:LL) (a1 a2:Int) (K:Qkj R):oP R:=QjJ R a.length a1 a a1.toNat fun f=>Qjr R (Xl n b c d (wJ (wJ (wJ (2*f)-a1)+wJ (2*a2))) some) fun g=>K g
def QZ (a g:LL) (b:Int) (c d e f:LL) (h a1 a2:Int) (K:Qkk R):oP R:=QjM R a a1 fun k=>bif decide (a2<wJ ((k.length:Int)-1)) then QjJ R f.length a1 f a1.toNat fun o=>Qjr R (Xl n b c d (wJ (wJ (wJ (wJ (2*o)-a1)+wJ (2*a2))+1)) some) fun p=>K p true else QjD R e a1 fun s=>bif decide (s>=0) then QjD R e a1 fun v=>Qjr R (Xl n b c d (wJ (wJ (wJ (wJ (2*h)-(a.length:Int))+(g.length:Int))+v)) some) fun x=>K x true else K 0 false
def Xu (b c:Int) (d h i:LL) (e:Int) (f g j:LL) (k:Int) (k0:Qkr R):Qks R
 | 0,_,_=>none
 | m+1,l,a=>bif decide (a<c) then gb true (QZ n h i e f g j d k b a Tu2) (0,false) fun q=>Qjr R (Xi n e f g d b a some) fun r=>Xu b c d h i e f g j k k0 m (wJ (l+wJ (r+q.1))) (wJ (a+1)) else k0 l a (decide (a<c))
def X2 (h2:LL) (b:Int) (d c e:LL) (f:Int) (g h i:LL) (j:Int) (k0:Qkr R):Qks R
 | 0,_,_=>none
 | m+1,k,a=>bif decide (a<b) then QjD R h2 a fun l=>QjM R c l fun s=>Xu n l (s.length:Int) d c e f g h i j (fun t u v=>X2 h2 b d c e f g h i j k0 m t (wJ (a+1))) n k 0 else k0 k a (decide (a<b))
def Zq (c d:LL) (a:Int) (e f g h:LL) (i:Int) (b:LL) (j:Bool) (K:Qkj R):oP R:=bif !j then K 0 else X2 n b (b.length:Int) h c d a e f g i (fun k l m=>Qjr R (nz a) fun o=>K (wJ (Int.tdiv k a))) n 0 0
def Zm (n:Nat) (g:LL) (h2:Int) (k0:oP R) (k1:Qkk R):Qkl R
 | 0,_=>none
 | m+1,a=>bif decide (a<h2) then QjE R g a fun b o p h=>QjO R b fun i j=>Qjr R (pIw o) fun c=>Qjs R (!(decide (c<0))) (pIw p) fun e=>Qjp R (Qjn (decide (c<0)) (decide (e<0))) fun u=>Qjs R (!u) (pIw h) fun k=>Qjp R (Qjn u (decide (k<(-1099511627776:Int)))) fun t=>Qjs R (!t) (pIw h) fun q=>bif Qjn t (decide (q>1099511627776)) then k0 else Qjr R (pIw i) fun d=>Qjs R (!(decide (d<1))) (pIw i) fun f=>Qjp R (Qjn (decide (d<1)) (decide (f>1099511627776))) fun s=>Qjs R (!s) (pIw j) fun l=>Qjp R (Qjn s (decide (l<0))) fun v=>Qjs R (!v) (pIw j) fun r=>bif Qjn v (decide (r>1099511627776)) then k0 else Zm n g h2 k0 k1 m (wJ (a+1)) else k1 a (decide (a<h2))
def Vu (a0:Int) (a1:LL) (K:Qko R):oP R:=bif Qjn (decide (a0<2)) (decide (a0>7200)) then K false else Zm n a1 (a1.length:Int) (K false) (fun a b=>K true) n 0
def Vo (a0 f d g b h e i:Int) (K:Qko R):oP R:=Qjr R (U3 n (wJ (wJ (wJ (d-e)-i)+1)) a0 Tu2) fun a=>Qjr R (Va n (wJ (wJ (wJ (d+g)-e)-1)) a0 Tu2) fun r2=>bif decide (a.1>r2.1) then K false else bif f !=h then K true else bif b==0 then K (Qjn (decide (a.1<0)) (decide (r2.1>0))) else bif b==1 then K false else Qjp R (decide (a.1<r2.1)) fun c=>Qjs R (!c) (nz b) fun u3=>K (Qjn c (Int.tmod a.1 b !=0))
def SI (b:Int) (a1:LL) (c d a:Int) (K:Qkj R):oP R:=QjD R a1 d fun g=>QjD R a1 c fun j=>Qjr R (F6 n (wJ (wJ (g-j)-a)) b some) fun k=>K (wJ (a+k))
def Q9 (n:Nat) (a0 a1 a2:Int) (a:LL) (b c:Int) (K:Qkp R):oP R:=bif decide (a2>0) then Qjq R [[Q4 a0,Q4 b,Q4 a1,Q4 a2,Q4 c]] fun e=>Qjr R (Y9 ((a.length+e.length)*40)) fun d=>K (a++e) else K a
def ET (a0 a1:Int) (K:Qko R):oP R:=Qjr R (V2 n a0 some) fun a=>Qjs R a (V2 n a1 some) fun r2=>K (Qjn (Qjo a (!r2)) (decide (a0<a1)))
def Y4 (c:Int) (k0:Qkm R):Qkn R
 | 0,_,_=>none
 | m+1,a,b=>Qjp R (decide (a>c)) fun ab=>Qjs R ab (inB b.length a) fun u=>Qjs R ab b[a.toNat]? fun g=>Qkc R g ab fun i=>Qjq R (wJ (a-1)) fun ad=>Qjs R ab (inB b.length ad) fun v=>Qjq R (Int.toNat ad) fun ae=>Qjs R ab b[ae]? fun j=>Qkc R j ab fun l=>Qjs R ab (ET n i l some) fun f=>bif Qjo ab f then QjJ R b.length ad b ae fun d=>QjJ R b.length a b a.toNat fun s=>QjF R b.length a b a.toNat fun e=>Qjq R (List.set b a.toNat (List.set e 0 (Q4 d))) fun ac=>QjF R (List.length ac) ad ac ae fun t=>Y4 c k0 m ad (List.set ac ae (List.set t 0 (Q4 s))) else k0 a (Qjo ab f) b
def Y3 (b h2:Int) (k0:Qkm R):Qkn R
 | 0,_,_=>none
 | m+1,a,c=>bif decide (a<h2) then Y4 n b (fun e f d=>Y3 b h2 k0 m (wJ (a+1)) d) n a c else k0 a (decide (a<h2)) c
def WA (a:LL) (a1 a2:Int) (K:Qkp R):oP R:=Y3 n a1 a2 (fun c d b=>K b) n (wJ (a1+1)) a
def UG (a h2 d:Int) (b:LL) (k0:Qkp R):Nat->oP R
 | 0=>none
 | m+1=>bif decide (wJ (h2-a)<=12) then Qjr R (WA n b a h2 some) fun c=>Qjr R (Hj c b.length) fun e=>k0 c else bif d==0 then none else bif !true then none else none
def Vp (a:LL) (a1 a2 b:Int) (K:Qkp R):oP R:=UG n a1 a2 b a (fun c=>K c) n
def GB (a:LL) (K:Qkp R):oP R:=Qjr R (JP n (IntKind.wrap .u64 (a.length:Int)) some) fun b=>Qjr R (Vp n a 0 (a.length:Int) b some) fun r2=>Qjr R (Hj r2 a.length) fun u3=>K r2
def Ub (n:Nat) (c:LL) (d:Int) (b:LL) (k0:Qkk R):Qkl R
 | 0,_=>none
 | m+1,a=>Qjp R (decide (a<(b.length:Int))) fun q=>bif q then QjD R b a fun g=>QjD R b (wJ (a-1)) fun j=>bif g !=j then QjH R b a fun l=>Qjr R (pIw l) fun o=>Qjr R (Q1 c d) fun p=>none else Ub n c d b k0 m (wJ (a+1)) else k0 a q
def U9 (a:LL) (k0:Qkk R):Qkl R
 | 0,_=>none
 | m+1,h2=>Qjp R (decide (h2<(a.length:Int))) fun l=>bif l then QjD R a h2 fun d=>QjD R a (wJ (h2-1)) fun g=>bif d==g then Qjr R (slB a.length (some h2) none) fun h=>Ub n a h2 (cut a h) (fun i j=>Qjr R (slB a.length (some h2) none) fun k=>none) n 1 else U9 a k0 m (wJ (h2+1)) else k0 h2 l
def GA (a0:LL) (K:Qkp R):oP R:=bif decide ((a0.length:Int)<2) then K a0 else U9 n a0 (fun a b=>K a0) n 1
def G9 (g a h:Int) (i:LL) (d:Int) (k0:Qkm R):Qkn R
 | 0,_,_=>none
 | m+1,b,e=>bif decide (b<d) then QjE R i b fun c k l o=>Qjr R c[3]? fun p=>Qjr R c[4]? fun t=>Qjr R (pIw k) fun f=>Qjs R (f==a) (pIw o) fun q=>Qjs R (f==a) (HW n (wJ (h-q)) g some) fun r=>Qjs R (f==a) (pIw p) fun s=>bif Qjo (f==a) (decide (r<s)) then Qjr R (pIw l) fun j=>Qjr R (Y9 ((e.length+[[Q4 j]].length)*8)) fun u=>G9 g a h i d k0 m (wJ (b+1)) (e++[[Q4 j]]) else G9 g a h i d k0 m (wJ (b+1)) e else k0 b (decide (b<d)) e
def EW (a0:Int) (a1:LL) (a2 c:Int) (K:Qkp R):oP R:=Qjr R (Vu n a0 a1 some) fun d=>bif !d then K [] else Qjr R (HW n c a0 some) fun r2=>G9 n a0 a2 r2 a1 (a1.length:Int) (fun f g a=>Qjr R (GB n a some) fun b=>Qjr R (Hj b a.length) fun h=>Qjr R (GA n b some) fun e=>K e) n 0 []
def H3 (n:Nat) (c h2:LL) (b:Int) (k0:oP R) (k1:Qkk R):Qkl R
 | 0,_=>none
 | m+1,a=>bif decide (a<b) then QjD R c a fun f=>QjD R h2 a fun i=>bif f !=i then k0 else H3 n c h2 b k0 k1 m (wJ (a+1)) else k1 a (decide (a<b))
def LD (a0 a1:LL) (K:Qko R):oP R:=bif (a0.length:Int) !=(a1.length:Int) then K false else H3 n a0 a1 (a0.length:Int) (K false) (fun a b=>K true) n 0
def V0 (c d:Int) (e:LL) (k0:Int->Bool->LL->Int->oP R):Nat->Int->LL->Int->oP R
 | 0,_,_,_=>none
 | m+1,a,b,f=>bif decide (a<c) then Qjr R (Q5 n e f d Tu2) fun g=>QjF R b.length a b a.toNat fun j=>V0 c d e k0 m (wJ (a+1)) (List.set b a.toNat (List.set j 0 (Q4 g.1))) g.2 else k0 a (decide (a<c)) b f
def PW (c:Int) (a f a1:LL) (K:Qkp R):oP R:=Qjr R (Nm n a1 Tu2) fun b=>Qjq R (a.length:Int) fun d=>gb true (bif decide (0<=d)&&decide (d<=d) then some () else none) () fun u2=>Qjq R (Int.toNat d) fun j=>Qjr R (Y9 (j*8)) fun u3=>V0 n ((List.length (List.replicate j [Q4 0]):Nat):Int) c b.1 (fun g h e i=>K e) n 0 (List.replicate j [Q4 0]) b.2
def Up (h2:LL) (d:Int) (c:LL) (k0:Qkj R) (k1:Qkk R):Qkl R
 | 0,_=>none
 | m+1,a=>Qjp R (decide (a<(c.length:Int))) fun x=>bif x then QjE R c a fun b e f g=>Qk2 R b fun h i j=>Qjr R (pIw e) fun t=>Qk3 R f g h fun k l o=>QjS R i j (Qjr R (SI n d h2 k l o some) fun p=>Qjr R (Q1 c a) fun q=>Qk7 R q fun s=>bif decide (p>s) then k0 a else Up h2 d c k0 k1 m (wJ (a+1))) else k1 a x
def Mp (a:Int) (c b a1:LL) (K:Qkk R):oP R:=Qjr R (Pm n a c b a1 some) fun d=>bif !d then K 0 false else Up n a1 a b (fun e=>K e true) (fun f g=>K 0 false) n 0
def J9 (b:Int) (c d a1:LL) (K:Qko R):oP R:=gb true (Mp n b c d a1 Tu2) (0,false) fun a=>Qjr R (Pm n b c d a1 some) fun r2=>K (Qjo r2 (!a.2))
end Go.Vx
namespace Go.Vx
open Go.Proofs
abbrev nT:List (LpE Tryz.prog):=[]
abbrev tyS (e s:Nat):TyI:=⟨.sl e s,1,24,[.slice none 0 0],[.sl s []],[],none⟩
abbrev tyN (n:Nat):TyI:=⟨.struct,n,8*n,List.replicate n (.int .i64 0),List.replicate n (.int .i64 0),(List.range n).map fun i=>(i,3),some (List.replicate n (.int .i64))⟩
def gtt:TT:=[(3,⟨.int .i64,1,8,[.int .i64 0],[.int .i64 0],[],none⟩),(4,⟨.bool,1,1,[.bool false],[.bool false],[],none⟩),(5,⟨.int .u8,1,1,[.int .u8 0],[.int .u8 0],[],none⟩),(9,⟨.str,1,16,[.string ⟨#[]⟩],[.str []],[],none⟩),(22,tyS 3 1),(23,tyS 9 1),(24,tyS 57 5),(25,tyS 193 6),(27,⟨.struct,4,96,[.slice none 0 0,.slice none 0 0,.slice none 0 0,.slice none 0 0],[.sl 1 [],.sl 1 [],.sl 5 [],.sl 6 []],[(0,23),(1,23),(2,24),(3,25)],none⟩),(28,tyS 76 5),(29,tyS 152 2),(30,tyS 87 4),(31,tyS 84 7),(32,tyS 158 4),(33,tyS 90 5),(34,tyS 92 3),(36,⟨.struct,8,176,[.int .i64 0,.slice none 0 0,.slice none 0 0,.slice none 0 0,.slice none 0 0,.slice none 0 0,.slice none 0 0,.slice none 0 0],[.int .i64 0,.sl 5 [],.sl 2 [],.sl 4 [],.sl 7 [],.sl 4 [],.sl 5 [],.sl 3 []],[(0,3),(1,28),(2,29),(3,30),(4,31),(5,32),(6,33),(7,34)],none⟩),(39,tyS 104 3),(40,tyS 67 6),(42,⟨.struct,3,56,[.int .i64 0,.slice none 0 0,.slice none 0 0],[.int .i64 0,.sl 3 [],.sl 6 []],[(0,3),(1,39),(2,40)],none⟩),(43,⟨.int .i64,1,8,[.int .i64 0],[.int .i64 0],[],none⟩),(50,tyS 128 3),(53,tyS 59 5),(57,⟨.struct,5,48,[.string ⟨#[]⟩,.int .i64 0,.int .i64 0,.int .i64 0,.int .i64 0],[.str [],.int .i64 0,.int .i64 0,.int .i64 0,.int .i64 0],[(0,9),(1,3),(2,3),(3,3),(4,3)],some [.str,.int .i64,.int .i64,.int .i64,.int .i64]⟩),(59,tyN 5),(67,tyN 6),(76,⟨.struct,5,48,[.string ⟨#[]⟩,.int .i64 0,.int .i64 0,.int .i64 0,.int .i64 0],[.str [],.int .i64 0,.int .i64 0,.int .i64 0,.int .i64 0],[(0,9),(1,3),(2,3),(3,3),(4,3)],some [.str,.int .i64,.int .i64,.int .i64,.int .i64]⟩),(79,tyS 22 1),(81,⟨.struct,7,168,[.slice none 0 0,.slice none 0 0,.slice none 0 0,.slice none 0 0,.slice none 0 0,.slice none 0 0,.slice none 0 0],[.sl 1 [],.sl 1 [],.sl 5 [],.sl 6 [],.sl 1 [],.sl 1 [],.sl 1 []],[(0,27),(4,79),(5,79),(6,79)],none⟩),(84,tyN 7),(85,tyS 155 4),(87,⟨.struct,4,56,[.string ⟨#[]⟩,.int .i64 0,.int .i64 0,.slice none 0 0],[.str [],.int .i64 0,.int .i64 0,.sl 4 []],[(0,9),(1,3),(2,3),(3,85)],none⟩),(90,tyN 5),(92,tyN 3),(93,tyS 97 1),(97,tyS 170 3),(98,tyS 102 4),(102,tyN 4),(104,tyN 3),(107,tyS 112 2),(112,tyN 2),(117,tyS 4 1),(119,⟨.struct,12,160,[.int .i64 0,.slice none 0 0,.slice none 0 0,.slice none 0 0,.int .i64 0,.int .i64 0,.bool false,.bool false,.bool false,.int .i64 0,.slice none 0 0,.slice none 0 0],[.int .i64 0,.sl 3 [],.sl 6 [],.sl 1 [],.int .i64 0,.int .i64 0,.bool false,.bool false,.bool false,.int .i64 0,.sl 1 [],.sl 1 []],[(0,42),(3,117),(4,3),(5,3),(6,4),(7,4),(8,4),(9,3),(10,22),(11,22)],none⟩),(120,⟨.int .u64,1,8,[.int .u64 0],[.int .u64 0],[],none⟩),(121,tyS 125 2),(125,⟨.struct,2,32,[.slice none 0 0,.bool false],[.sl 1 [],.bool false],[(0,22),(1,4)],none⟩),(128,⟨.struct,3,40,[.int .i64 0,.int .i64 0,.slice none 0 0],[.int .i64 0,.int .i64 0,.sl 1 []],[(0,3),(1,3),(2,22)],none⟩),(133,⟨.struct,18,400,[.slice none 0 0,.slice none 0 0,.slice none 0 0,.slice none 0 0,.int .i64 0,.slice none 0 0,.slice none 0 0,.slice none 0 0,.slice none 0 0,.slice none 0 0,.slice none 0 0,.slice none 0 0,.int .i64 0,.slice none 0 0,.slice none 0 0,.slice none 0 0,.slice none 0 0,.slice none 0 0],[.sl 1 [],.sl 1 [],.sl 5 [],.sl 6 [],.int .i64 0,.sl 5 [],.sl 2 [],.sl 4 [],.sl 7 [],.sl 4 [],.sl 5 [],.sl 3 [],.int .i64 0,.sl 3 [],.sl 6 [],.sl 1 [],.sl 5 [],.sl 1 []],[(0,27),(4,36),(12,42),(15,22),(16,53),(17,117)],none⟩),(143,⟨.struct,2,32,[.slice none 0 0,.int .i64 0],[.sl 1 [],.int .i64 0],[(0,22),(1,3)],none⟩),(149,⟨.array 3 1 3,3,24,[.int .i64 0,.int .i64 0,.int .i64 0],[.int .i64 0,.int .i64 0,.int .i64 0],[(0,3),(1,3),(2,3)],none⟩),(150,tyS 160 2),(152,⟨.struct,2,32,[.slice none 0 0,.int .i64 0],[.sl 2 [],.int .i64 0],[(0,150),(1,3)],none⟩),(155,tyN 4),(156,⟨.array 4 1 4,4,4,[.bool false,.bool false,.bool false,.bool false],[.bool false,.bool false,.bool false,.bool false],[(0,4),(1,4),(2,4),(3,4)],none⟩),(158,tyN 4),(160,tyN 2),(170,tyN 3),(185,⟨.ptr,1,8,[.pointer none],[],[],none⟩),(188,⟨.struct,21,440,[.slice none 0 0,.slice none 0 0,.slice none 0 0,.slice none 0 0,.int .i64 0,.slice none 0 0,.slice none 0 0,.slice none 0 0,.slice none 0 0,.slice none 0 0,.slice none 0 0,.slice none 0 0,.int .i64 0,.slice none 0 0,.slice none 0 0,.slice none 0 0,.bool false,.slice none 0 0,.slice none 0 0,.int .i64 0,.slice none 0 0],[.sl 1 [],.sl 1 [],.sl 5 [],.sl 6 [],.int .i64 0,.sl 5 [],.sl 2 [],.sl 4 [],.sl 7 [],.sl 4 [],.sl 5 [],.sl 3 [],.int .i64 0,.sl 3 [],.sl 6 [],.sl 1 [],.bool false,.sl 1 [],.sl 1 [],.int .i64 0,.sl 5 []],[(0,27),(4,36),(12,42),(15,22),(16,4),(17,22),(18,22),(19,3),(20,53)],none⟩),(189,⟨.mapI,1,8,[.map none],[],[],none⟩),(193,tyN 6),(207,⟨.struct,2,48,[.slice none 0 0,.slice none 0 0],[.sl 1 [],.sl 3 []],[(0,117),(1,97)],none⟩),(210,⟨.struct,4,32,[.int .i64 0,.int .i64 0,.int .i64 0,.int .i64 0],[.int .i64 0,.int .i64 0,.int .i64 0,.int .i64 0],[(0,160),(2,3),(3,3)],some [.int .i64,.int .i64,.int .i64,.int .i64]⟩),(232,⟨.ptr,1,8,[.pointer none],[],[],none⟩),(233,tyS 273 4),(235,⟨.struct,19,424,[.slice none 0 0,.slice none 0 0,.slice none 0 0,.slice none 0 0,.int .i64 0,.slice none 0 0,.slice none 0 0,.slice none 0 0,.slice none 0 0,.slice none 0 0,.slice none 0 0,.slice none 0 0,.slice none 0 0,.slice none 0 0,.slice none 0 0,.slice none 0 0,.int .i64 0,.slice none 0 0,.slice none 0 0],[.sl 1 [],.sl 1 [],.sl 5 [],.sl 6 [],.int .i64 0,.sl 5 [],.sl 2 [],.sl 4 [],.sl 7 [],.sl 4 [],.sl 5 [],.sl 3 [],.sl 1 [],.sl 1 [],.sl 1 [],.sl 4 [],.int .i64 0,.sl 3 [],.sl 6 []],[(0,27),(4,36),(12,22),(13,93),(14,22),(15,233),(16,42)],none⟩),(243,tyS 287 2),(248,tyS 210 4),(261,⟨.int .i64,1,8,[.int .i64 0],[.int .i64 0],[],none⟩),(268,⟨.int .u32,1,4,[.int .u32 0],[.int .u32 0],[],none⟩),(270,⟨.int .u64,1,8,[.int .u64 0],[.int .u64 0],[],none⟩),(273,tyN 4),(277,⟨.mpb,1,8,[.map none],[],[],none⟩),(282,tyN 2),(287,tyN 2),(301,⟨.int .u64,1,8,[.int .u64 0],[.int .u64 0],[],none⟩),(307,tyS 312 2),(312,tyN 2),(313,tyS 170 3),(323,tyN 2),(332,⟨.struct,2,32,[.slice none 0 0,.int .i64 0],[.sl 2 [],.int .i64 0],[(0,243),(1,3)],none⟩),(348,tyN 2),(359,tyS 307 1)]
theorem Qff:TOk Tryz.prog gtt:=(show Qe9 Tryz.prog [3,4,5,9,22,23,24,25,27,28,29,30,31,32,33,34,36,39,40,42,43,50,53,57,59,67,76,79,81,84,85,87,90,92,93,97,98,102,104,107,112,117,119,120,121,125,128,133,143,149,150,152,155,156,158,160,170,185,188,189,193,207,210,232,233,235,243,248,261,268,270,273,277,282,287,301,307,312,313,323,332,348,359]=gtt by kernel_rfl)▸Q8B _
noncomputable def bT:Nat->List (Nat×TA)->TO:=btT gtt
noncomputable def pT:Nat->Nat->List (Nat×Sp)->List Sp->List Sp:=ptT gtt
noncomputable def Xa (l:List ((f:Nat)×EnP Tryz.prog f)) (cfg:List (Nat×Cfg)):VB Tryz.prog:=⟨⟨Q00 (Qfq l),gtt,cfg⟩,Q3k (Q6o l),Qff,by kernel_rfl⟩
abbrev LZ9:=Nat->LpE Tryz.prog
abbrev EZ9:=EnP Tryz.prog
abbrev BZ9:=VB Tryz.prog
abbrev QkJ:List TA:=[.arr 98000,.arr 98001,.arr 98002,.arr 98003,.arr 98004,.arr 98005,.arr 98006]
abbrev QkK:Nat×TA:=(0,.ptr 1000000 0)
abbrev QkL:Nat×TA:=(1,tI)
abbrev QkM:Nat×TA:=(8,tI)
abbrev QkN:Nat×TA:=(16,tI)
abbrev QkO:Nat×TO:=(98000,.arr 9 1)
abbrev QkP:Nat×TO:=(98001,.arr 9 1)
abbrev QkQ:Nat×TO:=(98002,.arr 57 5)
abbrev QkR:Nat×TO:=(98003,.arr 193 6)
abbrev QkS:Nat×TO:=(98004,.arr 22 1)
abbrev QkT:Nat×TO:=(98005,.arr 22 1)
abbrev QkU:Nat×TO:=(98006,.arr 22 1)
abbrev QkV:Nat×TO:=(1000000,.box [.arr 98000,.arr 98001,.arr 98002,.arr 98003,.arr 98004,.arr 98005,.arr 98006])
abbrev QkW:List TA:=[.l 1,tI]
abbrev QkX:Nat×TA:=(3,.ptr 14 0)
abbrev QkY:Nat×TA:=(4,tI)
abbrev QkZ:Nat×TA:=(5,tI)
abbrev Ql0:Nat×TA:=(6,.arr 1006)
abbrev Ql1:Nat×TA:=(7,tI)
abbrev Ql2:Nat×TO:=(501401,.arr 9 1)
abbrev Ql3:Nat×TO:=(501402,.arr 57 5)
abbrev Ql4:Nat×TO:=(501403,.arr 193 6)
abbrev Ql5:Nat×TO:=(501404,.arr 22 1)
abbrev Ql6:Nat×TO:=(501405,.arr 22 1)
abbrev Ql7:Nat×TO:=(501406,.arr 22 1)
abbrev Ql8:Nat×TO:=(1000000,.box [.l 1,tI])
abbrev Ql9:List TA:=[.arr 501400,.arr 501401,.arr 501402,.arr 501403,.arr 501404,.arr 501405,.arr 501406]
abbrev Qla:Nat×TO:=(14,.box [.arr 501400,.arr 501401,.arr 501402,.arr 501403,.arr 501404,.arr 501405,.arr 501406])
abbrev Qlb:Nat×TO:=(501400,.arr 9 1)
abbrev Qlc:Nat×TA:=(9,tI)
abbrev Qld:Nat×TA:=(11,tI)
abbrev Qle:List (Nat×TO):=[(14,.box [.arr 501400,.arr 501401,.arr 501402,.arr 501403,.arr 501404,.arr 501405,.arr 501406]),(1010,.arr 3 1),(501400,.arr 9 1),(501401,.arr 9 1),(501402,.arr 57 5),(501403,.arr 193 6),(501404,.arr 22 1),(501405,.arr 22 1),(501406,.arr 22 1),(1000000,.box [.l 1,tI])]
abbrev Qlf:Nat×TA:=(12,tI)
abbrev Qlg:List TA:=[.nil,.ci .i64 0]
abbrev Qlh:Nat×TA:=(3,tI)
abbrev Qli:Nat×TA:=(10,.ptr 10 0)
abbrev Qlj:Nat×TA:=(2,tI)
abbrev Qlk:Nat×TA:=(15,tI)
abbrev Qll:List TA:=[tI,.arr 98361,.arr 98362,.arr 98363,.arr 98364,.arr 98365,.arr 98366,.arr 98367]
abbrev Qlm:Nat×TO:=(1000009,.box [tI,.arr 98361,.arr 98362,.arr 98363,.arr 98364,.arr 98365,.arr 98366,.arr 98367])
abbrev Qln:Nat×TA:=(13,tI)
abbrev Qlo:List TA:=[tI,.arr 98041,.arr 98042,.arr 98043,.arr 98044,.arr 98045,.arr 98046,.arr 98047]
abbrev Qlp:Nat×TA:=(6,tI)
abbrev Qlq:Nat×TA:=(14,tI)
abbrev Qlr:List (Nat×TO):=[(4,.arr 156 1),(5,.arr 156 1),(98041,.arr 76 5),(98042,.arr 152 2),(98043,.arr 87 4),(98044,.arr 84 7),(98045,.arr 158 4),(98046,.arr 90 5),(98047,.arr 92 3),(1000000,.box [.l 1,tI]),(1000001,.box [tI,.arr 98041,.arr 98042,.arr 98043,.arr 98044,.arr 98045,.arr 98046,.arr 98047])]
abbrev Qls:Nat×TO:=(1000001,.box [tI,.arr 98041,.arr 98042,.arr 98043,.arr 98044,.arr 98045,.arr 98046,.arr 98047])
abbrev Qlt:List TA:=[.nil,.nil,.nil,.nil]
abbrev Qlu:List TA:=[.ci .i64 0,.nil,.nil,.nil,.nil,.nil,.nil,.nil]
abbrev Qlv:List TA:=[.arr 100015,.arr 150015,.arr 200015,.arr 250015,.arr 300015,.arr 350015,.arr 400015]
abbrev Qlw:Nat×TA:=(2,.ptr 2 0)
abbrev Qlx:Nat×TA:=(3,.ptr 3 0)
abbrev Qly:Nat×TA:=(4,.ptr 50013 0)
abbrev Qlz:Nat×TA:=(5,.ptr 50015 0)
abbrev QlA:Nat×TA:=(6,.ptr 6 0)
abbrev QlB:Nat×TO:=(2,.box [.nil,.nil,.nil,.nil])
abbrev QlC:Nat×TO:=(3,.box [.ci .i64 0,.nil,.nil,.nil,.nil,.nil,.nil,.nil])
abbrev QlD:Nat×TO:=(50013,.box [.l 1,tI])
abbrev QlE:Nat×TO:=(50015,.box [.arr 100015,.arr 150015,.arr 200015,.arr 250015,.arr 300015,.arr 350015,.arr 400015])
abbrev QlF:Nat×TO:=(100015,.arr 9 1)
abbrev QlG:Nat×TO:=(150015,.arr 9 1)
abbrev QlH:Nat×TO:=(200015,.arr 57 5)
abbrev QlI:Nat×TO:=(250015,.arr 193 6)
abbrev QlJ:Nat×TO:=(300015,.arr 22 1)
abbrev QlK:Nat×TO:=(350015,.arr 22 1)
abbrev QlL:Nat×TO:=(400015,.arr 22 1)
abbrev QlM:List TA:=[tI,.arr 50061,.arr 100061,.arr 150061,.arr 200061,.arr 250061,.arr 300061,.arr 350061]
abbrev QlN:Nat×TO:=(6,.box [tI,.arr 50061,.arr 100061,.arr 150061,.arr 200061,.arr 250061,.arr 300061,.arr 350061])
abbrev QlO:Nat×TO:=(100061,.arr 152 2)
abbrev QlP:Nat×TO:=(150061,.arr 87 4)
abbrev QlQ:Nat×TO:=(200061,.arr 84 7)
abbrev QlR:Nat×TO:=(250061,.arr 158 4)
abbrev QlS:List TA:=[tI,.nil,.nil,.nil,.nil,.nil,.nil,.nil]
abbrev QlT:List (Nat×TA):=[(2,.ptr 2 0),(3,.ptr 3 0),(4,.ptr 50013 0),(5,.ptr 50015 0),(6,.ptr 6 0),(10,tI)]
abbrev QlU:Nat×TA:=(10,tI)
abbrev QlV:Nat×TO:=(3,.box [tI,.nil,.nil,.nil,.nil,.nil,.nil,.nil])
abbrev QlW:Nat×TA:=(0,.l 1)
abbrev QlX:Nat×TA:=(1,.ptr 1 0)
abbrev QlY:Nat×TA:=(3,.arr 1003)
abbrev QlZ:Nat×TO:=(1,bT 27 [])
abbrev Qm0:List TA:=[tI,tI]
abbrev Qm1:Nat×TA:=(5,.ptr 5 0)
abbrev Qm2:Nat×TA:=(7,.ptr 7 0)
abbrev Qm3:Nat×TO:=(3,bT 27 [])
abbrev Qm4:Nat×TO:=(5,.box [tI,tI])
abbrev Qm5:Nat×TA:=(8,.ptr 8 0)
abbrev Qm6:Nat×TO:=(2,bT 27 [])
abbrev Qm7:Nat×TO:=(1,bT 36 [])
abbrev Qm8:Nat×TO:=(2,bT 36 [])
abbrev Qm9:List TA:=[.ci .i64 0,.ci .i64 0,.ci .i64 0,.ci .i64 0]
abbrev Qma:List TA:=[.x,.x,.x,.x]
abbrev Qmb:List TA:=[.l 2,tI]
abbrev Qmc:List (Nat×TO):=[(2,bT 27 []),(3,.box [.l 2,tI])]
abbrev Qmd:Nat×TO:=(3,.box [.l 2,tI])
abbrev Qme:Nat×TA:=(8,.arr 1008)
abbrev Qmf:List (Nat×TO):=[(2,bT 27 []),(3,.box [.l 2,tI]),(1008,.arr 287 2)]
abbrev Qmg:Nat×TA:=(4,.ptr 4 0)
abbrev Qmh:Nat×TO:=(5,bT 76 [])
abbrev Qmi:List (Nat×TO):=[(3,bT 27 []),(4,bT 36 []),(7,.box [.x,.x,.x,.x])]
abbrev Qmj:Nat×TO:=(7,.box [.x,.x,.x,.x])
abbrev Qmk:List (Nat×TO):=[(2,bT 27 []),(3,bT 36 [])]
abbrev Qml:Nat×TO:=(3,bT 36 [])
abbrev Qmm:Nat×TA:=(0,.l 2)
abbrev Qmn:Nat×TA:=(0,tI)
abbrev Qmo:List (Nat×TO):=[(5,bT 76 []),(29,.arr 3 1)]
abbrev Qmp:Nat×TO:=(29,.arr 3 1)
abbrev Qmq:Nat×TA:=(7,.arr 1007)
abbrev Qmr:Nat×TO:=(6,.box [.l 2,tI])
abbrev Qms:List (Nat×TO):=[(2,bT 27 []),(3,bT 36 []),(10,.box [.x,.x,.x,.x]),(1007,.arr 97 1),(1008,.arr 3 1)]
abbrev Qmt:Nat×TO:=(1007,.arr 97 1)
abbrev Qmu:Nat×TO:=(1008,.arr 3 1)
abbrev Qmv:List (Nat×TO):=[(2,bT 27 []),(3,bT 36 []),(1007,.arr 97 1),(1008,.arr 3 1)]
abbrev Qmw:List (Nat×TA):=[(1,.l 1),(2,.ptr 2 0),(5,.arr 1005),(6,tI),(7,.ptr 7 0),(8,tI)]
abbrev Qmx:Nat×TA:=(1,.l 1)
abbrev Qmy:Nat×TA:=(5,.arr 1005)
abbrev Qmz:List (Nat×TA):=[(1,.l 1),(2,.ptr 2 0),(5,.arr 1005),(6,tI)]
abbrev QmA:List TA:=[.ci .i64 0,.ci .i64 0,.ci .i64 0]
abbrev QmB:List (Nat×TO):=[(4,.box [.ci .i64 0,.ci .i64 0,.ci .i64 0])]
abbrev QmC:Nat×TO:=(4,.box [.ci .i64 0,.ci .i64 0,.ci .i64 0])
abbrev QmD:List (Nat×TO):=[(1,bT 36 []),(1003,.arr 67 6)]
abbrev QmE:List TA:=[.ci .i64 0,.nil,.nil]
abbrev QmF:Nat×TA:=(6,.l 1)
abbrev QmG:List (Nat×TO):=[(3,bT 36 []),(4,.box [.ci .i64 0,.nil,.nil])]
abbrev QmH:Nat×TO:=(4,.box [.ci .i64 0,.nil,.nil])
abbrev QmI:Nat×TA:=(10,.l 4)
abbrev QmJ:Nat×TA:=(12,.ptr 12 0)
abbrev QmK:Nat×TO:=(4,.box [tI,.nil,.nil])
abbrev QmL:Nat×TO:=(1121,.arr 104 3)
abbrev QmM:List TA:=[tI,.arr 1121,.arr 107]
abbrev QmN:Nat×TA:=(19,tI)
abbrev QmO:List (Nat×TO):=[(3,bT 36 []),(4,.box [tI,.nil,.nil]),(12,.box [tI,.arr 1121,.arr 107]),(107,.arr 67 6),(1121,.arr 104 3)]
abbrev QmP:Nat×TO:=(12,.box [tI,.arr 1121,.arr 107])
abbrev QmQ:Nat×TA:=(0,.arr 1000000)
abbrev QmR:Nat×TO:=(1000000,.arr 3 1)
abbrev QmS:List TA:=[tI,.l 3,.l 6]
abbrev QmT:Nat×TO:=(2,.box [tI,.l 3,.l 6])
abbrev QmU:List (Nat×TO):=[(2,.box [tI,.l 3,.l 6])]
abbrev QmV:List (Nat×TA):=[(12,.arr 98012),(13,.arr 98013),(14,.arr 98014),(15,.arr 98015),(17,.arr 98017),(18,.arr 98018)]
abbrev QmW:List (Nat×TO):=[(98012,.arr 3 1),(98013,.arr 97 1),(98014,.arr 3 1),(98015,.arr 273 4),(98017,.arr 104 3),(98018,.arr 67 6),(1000000,bT 235 [(12,.arr 98012),(13,.arr 98013),(14,.arr 98014),(15,.arr 98015),(17,.arr 98017),(18,.arr 98018)])]
abbrev QmX:Nat×TO:=(98012,.arr 3 1)
abbrev QmY:Nat×TO:=(98015,.arr 273 4)
abbrev QmZ:Nat×TO:=(98017,.arr 104 3)
abbrev Qn0:Nat×TO:=(98018,.arr 67 6)
abbrev Qn1:Nat×TO:=(1000000,bT 235 [(12,.arr 98012),(13,.arr 98013),(14,.arr 98014),(15,.arr 98015),(17,.arr 98017),(18,.arr 98018)])
abbrev Qn2:List (Nat×Sp):=[(12,eR 1000001 3 1),(15,eR 1000002 273 4),(17,eR 1000003 104 3),(18,eR 1000004 67 6)]
abbrev Qn3:List (Nat×TA):=[(12,.arr 98012),(15,.arr 98015),(17,.arr 98017),(18,.arr 98018)]
abbrev Qn4:List (Nat×TO):=[(98012,.arr 3 1),(98015,.arr 273 4),(98017,.arr 104 3),(98018,.arr 67 6),(1000000,bT 235 [(12,.arr 98012),(15,.arr 98015),(17,.arr 98017),(18,.arr 98018)])]
abbrev Qn5:Nat×TO:=(1000000,bT 235 [(12,.arr 98012),(15,.arr 98015),(17,.arr 98017),(18,.arr 98018)])
abbrev Qn6:List (Nat×TA):=[(12,.arr 98012),(17,.arr 98017),(18,.arr 98018)]
abbrev Qn7:List TA:=[.ptr 1000000 0]
abbrev Qn8:Nat×TA:=(2,.fn 196 [.ptr 1000004 0,.ptr 1000005 0,.ptr 1000006 0])
abbrev Qn9:Nat×TO:=(4,bT 273 [])
abbrev Qna:Nat×TO:=(1000000,bT 235 [(12,.arr 98012),(17,.arr 98017),(18,.arr 98018)])
abbrev Qnb:List (Nat×Sp):=[(12,eR 1000001 3 1),(17,eR 1000002 104 3),(18,eR 1000003 67 6)]
abbrev Qnc:List (Nat×TO):=[(98012,.arr 3 1),(98017,.arr 104 3),(98018,.arr 67 6),(1000000,bT 235 [(12,.arr 98012),(17,.arr 98017),(18,.arr 98018)])]
abbrev Qnd:List (Nat×TO):=[(1000000,.arr 312 2)]
abbrev Qne:Nat×TO:=(1000000,.arr 312 2)
abbrev Qnf:List (Nat×TO):=[(1000000,.arr 125 2)]
abbrev Qng:Nat×TO:=(1000000,.arr 125 2)
abbrev Qnh:Nat×TA:=(9,.fn 117 [.ptr 8 0,.ptr 3 0,.ptr 1 0,.ptr 7 0])
abbrev Qni:List (Nat×Sp):=[(18,eR 1000001 3 1),(20,eR 1000002 59 5)]
abbrev Qnj:List (Nat×TA):=[(18,.arr 98018),(20,.arr 98020)]
abbrev Qnk:List (Nat×TO):=[(98018,.arr 3 1),(98020,.arr 59 5),(1000000,bT 188 [(18,.arr 98018),(20,.arr 98020)])]
abbrev Qnl:Nat×TO:=(98018,.arr 3 1)
abbrev Qnm:Nat×TO:=(98020,.arr 59 5)
abbrev Qnn:Nat×TO:=(1000000,bT 188 [(18,.arr 98018),(20,.arr 98020)])
abbrev Qno:Nat×TA:=(7,.fn 141 [.ptr 3 0,.ptr 4 0,.ptr 6 0])
abbrev Qnp:Nat×TO:=(3,.box [.ptr 1000000 0])
abbrev Qnq:Nat×TO:=(5,.box [.l 1,.b])
abbrev Qnr:Nat×TO:=(1000000,.box QkJ)
abbrev Qns:Nat×TO:=(1000000,.box QkW)
abbrev Qnt:Nat×TO:=(14,.box Ql9)
abbrev Qnu:List (Nat×TO):=[(14,.box Ql9),(1010,.arr 3 1),Qlb,Ql2,Ql3,Ql4,Ql5,Ql6,Ql7,(1000000,.box QkW)]
abbrev Qnv:List (Nat×TO):=[(4,.arr 156 1),(5,.arr 156 1),(98041,.arr 76 5),(98042,.arr 152 2),(98043,.arr 87 4),(98044,.arr 84 7),(98045,.arr 158 4),(98046,.arr 90 5),(98047,.arr 92 3),(1000000,.box QkW),(1000001,.box Qlo)]
abbrev Qnw:Nat×TO:=(50013,.box QkW)
abbrev Qnx:Nat×TO:=(50015,.box Qlv)
abbrev Qny:Nat×TO:=(5,.box Qm0)
abbrev Qnz:List (Nat×TO):=[Qm6,(3,.box Qmb)]
abbrev QnA:Nat×TO:=(3,.box Qmb)
abbrev QnB:List (Nat×TO):=[Qml,QmK,(12,.box QmM),(107,.arr 67 6),QmL]
abbrev QnC:List (Nat×TO):=[QmX,(98013,.arr 97 1),(98014,.arr 3 1),QmY,QmZ,Qn0,(1000000,bT 235 QmV)]
abbrev QnD:List (Nat×TO):=[QmX,QmY,QmZ,Qn0,(1000000,bT 235 Qn3)]
abbrev QnE:Nat×TO:=(1000000,bT 235 Qn3)
abbrev QnF:Nat×TO:=(1000000,bT 235 Qn6)
abbrev QnG:List (Nat×TO):=[QmX,QmZ,Qn0,(1000000,bT 235 Qn6)]
abbrev QnH:Nat×TO:=(1000000,bT 188 Qnj)
end Go.Vx
namespace Go.Vx
variable {R:Type} (n:Nat)
def KT (n:Nat) (a b:Int) (K:Qkj R):oP R:=K (wJ (wJ (2*a)+b))
def N2 (n:Nat) (a0 a1:Int) (K:Qkt R):oP R:=Qjr R (B9 32) fun a=>K (IntKind.wrap .u32 (shR .u64 (IntKind.wrap .u64 (IntKind.wrap .u64 a0*IntKind.wrap .u64 a1)) 32)) (IntKind.wrap .u32 (IntKind.wrap .u64 (IntKind.wrap .u64 a0*IntKind.wrap .u64 a1)))
def T8 (n:Nat) (a0 a1:Int) (K:Qkt R):oP R:=Qjr R (B9 32) fun a=>Qjr R (B9 32) fun u2=>Qjr R (B9 32) fun u3=>Qjr R (B9 32) fun b=>Qjr R (B9 32) fun c=>K (IntKind.wrap .u64 (IntKind.wrap .u64 (IntKind.wrap .u64 (shR .u64 a0 32*shR .u64 a1 32)+shR .u64 (IntKind.wrap .u64 (IntKind.wrap .u64 (shR .u64 a0 32*Q6a .u64 a1 4294967295)+shR .u64 (IntKind.wrap .u64 (Q6a .u64 a0 4294967295*Q6a .u64 a1 4294967295)) 32)) 32)+shR .u64 (IntKind.wrap .u64 (Q6a .u64 (IntKind.wrap .u64 (IntKind.wrap .u64 (shR .u64 a0 32*Q6a .u64 a1 4294967295)+shR .u64 (IntKind.wrap .u64 (Q6a .u64 a0 4294967295*Q6a .u64 a1 4294967295)) 32)) 4294967295+IntKind.wrap .u64 (Q6a .u64 a0 4294967295*shR .u64 a1 32))) 32)) (IntKind.wrap .u64 (a0*a1))
def HH (a0 a1:Int) (K:Qkt R):oP R:=bif false then Qjr R (N2 n (IntKind.wrap .u32 a0) (IntKind.wrap .u32 a1) Tu2) fun a=>K (IntKind.wrap .u64 a.1) (IntKind.wrap .u64 a.2) else Qjr R (T8 n a0 a1 Tu2) fun r2=>K r2.1 r2.2
end Go.Vx
set_option maxRecDepth 100000
namespace Go.Vx
open Go.Proofs
variable (n:Nat)
def BQ:EZ9 21:=mkW (Xa [] []).ok nT 21 Tryz.f21 [sL 1] [eP 5 2,sL 1,sI] [] 0 0 @Nm n
def Q50:EZ9 10:=mkD (Xa [] []).ok nT 10 Tryz.f10 0 @F2 n
def Zi:EZ9 23:=mkW (Xa [⟨10,Q50 n⟩] []).ok nT 23 Tryz.f23 [eP 1000000 2,sL 1,sI,sI] [sI] [] 0 2 @Q5 n
def Nj:EZ9 53:=mkD (Xa [] []).ok nT 53 Tryz.f53 0 @Vc n
def Np:EZ9 54:=mkW (Xa [⟨23,Zi n⟩] []).ok nT 54 Tryz.f54 [eP 1000000 2,sL 1,sI,sT,sI] [eA [qT,qI,qI,qI,qI]] [] 0 32 @Wh n
def N5:EZ9 55:=mkW (Xa [] []).ok nT 55 Tryz.f55 [eP 1000000 7,eR 1000001 9 1,eR 1000002 9 1,eR 1000003 57 5,eR 1000004 193 6,eR 1000005 22 1,eR 1000006 22 1,eR 1000007 22 1,eA [qT,qI,qI,qI,qI]] [sI] [] 123 246 @YW n
def Gy:EZ9 56:=mkW (Xa [] []).ok nT 56 Tryz.f56 [eP 1000000 7,eR 1000001 9 1,eR 1000002 9 1,eR 1000003 57 5,eR 1000004 193 6,eR 1000005 22 1,eR 1000006 22 1,eR 1000007 22 1,sI,sI,sI,sI] [eT 0] [] 119 119 @Y1 n
def Sv:EZ9 88:=mkW (Xa [⟨53,Nj n⟩] []).ok nT 88 Tryz.f88 [eP 1000000 7,eR 1000001 9 1,eR 1000002 9 1,eR 1000003 57 5,eR 1000004 193 6,eR 1000005 22 1,eR 1000006 22 1,eR 1000007 22 1] [sI] [] 125 250 @Z9 n
def Gx:BZ9:=Xa [⟨88,Sv n⟩,⟨56,Gy n⟩] []
def Ru:LZ9:=mkU (Gx n).ok nT 4 Tryz.f57 [QkK,QkL,(2,.l 1),(3,.b),QkM,QkN,(17,tI)] [QkO,QkP,QkQ,QkR,QkS,QkT,QkU,Qnr] 39973 [xE 0 [(18,.b)]] @Qw n
def RT:EZ9 57:=mkW (Gx n).ok [Ru n n] 57 Tryz.f57 [eP 1000000 7,eR 1000001 9 1,eR 1000002 9 1,eR 1000003 57 5,eR 1000004 193 6,eR 1000005 22 1,eR 1000006 22 1,eR 1000007 22 1,sI,sL 1,sB] [eT 0] [] 117 117 @UW n
def GJ:BZ9:=Xa [⟨23,Zi n⟩,⟨53,Nj n⟩,⟨54,Np n⟩,⟨55,N5 n⟩,⟨56,Gy n⟩,⟨57,RT n⟩] [(3,⟨[],[],[],[(14,0,501400,9,1),(14,1,501401,9,1),(14,2,501402,57,5),(14,3,501403,193,6),(14,4,501404,22,1),(14,5,501405,22,1),(14,6,501406,22,1)],[]⟩),(8,⟨[],[],[(6,1006,3,1)],[],[]⟩),(19,⟨[],[],[(10,1010,3,1)],[],[]⟩)]
def Q5h:LZ9:=mkU (GJ n).ok nT 9 Tryz.f22 [QkK,QkX,QkY,QkZ,Ql0,Ql1] [(14,.box [.arr 32,.arr 501401,.arr 501402,.arr 501403,.arr 501404,.arr 501405,.arr 501406]),(32,.arr 9 1),(1006,.arr 3 1),Ql2,Ql3,Ql4,Ql5,Ql6,Ql7,Qns] 1241670 [xE 2 [(40,.b)]] @Jy n
def Q54:LZ9:=mkU (GJ n).ok [Q5h n n] 4 Tryz.f22 [QkK,QkX,QkY,QkZ] [Qnt,Qlb,(501401,.arc 9 1),Ql3,(501403,.arc 193 6),Ql5,(501405,.arc 22 1),(501406,.arc 22 1),Qns] 1942 [xE 0 [(20,.b)]] @Uk n
def Q4X:LZ9:=mkU (GJ n).ok nT 20 Tryz.f22 [QkK,QkX,QkY,Qlc,(10,.arr 1010),Qld] Qnu 1241562 [xE 6 [(80,.b)]] @Jw n
def Q42:LZ9:=mkU (GJ n).ok nT 24 Tryz.f22 [QkK,QkX,QkY,Qlc,(10,.arr 1010),Qlf] Qnu 4419 [xE 8 [(98,.b)]] @S7 n
def Q4q:LZ9:=mkU (GJ n).ok [Q4X n n,Q42 n n] 16 Tryz.f22 [QkK,QkX,QkY,Qlc] [Qnt,Qlb,Ql2,Ql3,Ql4,Ql5,Ql6,(501406,.arc 22 1),Qns] 51739 [xE 4 [(73,.b)]] @U7 n
def Q70:EZ9 22:=mkW (GJ n).ok [Q54 n n,Q4q n n] 22 Tryz.f22 [eP 1000000 2,sL 1,sI] [eP 14 7,eR 501400 9 1,eR 501401 9 1,eR 501402 57 5,eR 501403 193 6,eR 501404 22 1,eR 501405 22 1,eR 501406 22 1] [] 0 128 @Q1N n
def UD (n:Nat):BZ9:=Xa [] []
def PM:LZ9:=mkU (UD n).ok nT 6 Tryz.f58 [QkL,Qlh,Qli,(11,.l 1),(12,.arr 98004),(13,.ptr 13 0),(48,tI),(49,tI)] [(10,.box Qlg),(13,.box [.arr 45,.ci .i64 0]),(45,.arr 160 2),QkO,QkP,QkQ,QkR,QkS,QkT,QkU,Qnr] 684 [xE 0 [(50,.b)]] @Zh n
def Po:LZ9:=mkU (UD n).ok nT 14 Tryz.f58 [QkL,Qlj,Qli,(11,.l 1),(12,.arr 98004),(13,.ptr 13 0),Qlk] [(10,.box Qlg),(13,.box [.arr 104,.ci .i64 0]),(104,.arr 160 2),QkO,QkP,QkQ,QkR,QkS,QkT,QkU,Qnr] 225 [xE 2 [(110,.b)]] @Zp n
def ST:EZ9 58:=mkW (UD n).ok [PM n n,Po n n] 58 Tryz.f58 [eP 1000000 7,eR 1000001 9 1,eR 1000002 9 1,eR 1000003 57 5,eR 1000004 193 6,eR 1000005 22 1,eR 1000006 22 1,eR 1000007 22 1,sI,sI,sI,sB] [eO 2,eR 96001 160 2,sI] [] 79 508 @Yl n
def V3:BZ9:=Xa [⟨53,Nj n⟩,⟨23,Zi n⟩,⟨58,ST n⟩] [(7,⟨[],[],[],[(10,3,1103,155,4)],[]⟩)]
def Sn:LZ9:=mkU (V3 n).ok nT 3 Tryz.f24 [QkK,(1,.ptr 1000008 0),(2,.ptr 1000009 0),(3,.b),QkY,Qli,(11,.ac 11 0 0),(25,tI)] [(10,.box [.t,.ci .i64 0,tI,.nil]),(11,.arr 149 1),QkO,QkP,QkQ,QkR,QkS,QkT,QkU,(98361,.arr 76 5),(98362,.arr 152 2),(98363,.arr 87 4),(98364,.arr 84 7),(98365,.arr 158 4),(98366,.arr 90 5),(98367,.arr 92 3),Qnr,(1000008,.box QkW),(1000009,.box Qll)] 24407491311 [xE 0 [(26,.b)]] @ZG n
def SP:LZ9:=mkU (V3 n).ok nT 8 Tryz.f24 [QkK,(1,.ptr 1000008 0),(2,.ptr 1000009 0),(3,.b),QkY,Qli,(11,.ac 11 0 0),Qln] [(10,.box [.t,.ci .i64 0,tI,.arr 1103]),(11,.arr 149 1),(1103,.arr 155 4),QkO,QkP,QkQ,QkR,QkS,QkT,QkU,(98361,.arr 76 5),(98362,.arr 152 2),(98363,.arr 87 4),(98364,.arr 84 7),(98365,.arr 158 4),(98366,.arr 90 5),(98367,.arr 92 3),Qnr,(1000008,.box QkW),(1000009,.box Qll)] 73251880546 [xE 2 [(35,.b)]] @QB n
def Rr:EZ9 24:=mkW (V3 n).ok [Sn n n,SP n n] 24 Tryz.f24 [eP 1000000 7,eR 1000001 9 1,eR 1000002 9 1,eR 1000003 57 5,eR 1000004 193 6,eR 1000005 22 1,eR 1000006 22 1,eR 1000007 22 1,eP 1000008 2,sL 1,sI,eP 1000009 8,sI,eR 1000010 76 5,eR 1000011 152 2,eR 1000012 87 4,eR 1000013 84 7,eR 1000014 158 4,eR 1000015 90 5,eR 1000016 92 3,sB,sI] [eT 0] [] 124495 124671 @Uu n
def Bu:EZ9 26:=mkD (Xa [] []).ok nT 26 Tryz.f26 0 @Nd n
def D5:EZ9 27:=mkD (Xa [] []).ok nT 27 Tryz.f27 0 @Pp n
def KS:BZ9:=Xa [⟨23,Zi n⟩,⟨26,Bu n⟩,⟨27,D5 n⟩] []
def DL:LZ9:=mkU (KS n).ok nT 5 Tryz.f25 [QkK,(1,.ptr 1000001 0),(4,.ac 4 0 0),(5,.ac 5 0 0),Qlp,Qln,Qlq,(21,tI),(22,tI)] Qnv 79097176 [xE 2 [(23,.b)]] @Yg n
def DN:LZ9:=mkU (KS n).ok [DL n n] 2 Tryz.f25 [QkK,(1,.ptr 1000001 0),(4,.ac 4 0 0),(5,.ac 5 0 0),Qln,Qlq] Qnv 2929525 [xE 0 [(15,.b)]] @WF n
def CC:EZ9 25:=mkW (KS n).ok [DN n n] 25 Tryz.f25 [eP 1000000 2,sL 1,sI,eP 1000001 8,sI,eR 1000002 76 5,eR 1000003 152 2,eR 1000004 87 4,eR 1000005 84 7,eR 1000006 158 4,eR 1000007 90 5,eR 1000008 92 3] [eT 0] [] 0 893 @SO n
def Ku:BZ9:=Xa [⟨21,BQ n⟩,⟨22,Q70 n⟩,⟨23,Zi n⟩,⟨24,Rr n⟩,⟨25,CC n⟩,⟨26,Bu n⟩,⟨27,D5 n⟩] [(4,⟨[],[],[],[(6,2,500602,152,2),(6,3,500603,87,4),(6,4,500604,84,7),(6,5,500605,158,4),(6,6,500606,90,5),(6,7,500607,92,3)],[]⟩)]
def Q2J:LZ9:=mkU (Ku n).ok nT 5 Tryz.f6 [Qlw,Qlx,Qly,Qlz,QlA,Ql1] [(2,.box Qlt),(3,.box Qlu),(6,.box [tI,.arr 37,.arr 500602,.arr 500603,.arr 500604,.arr 500605,.arr 500606,.arr 500607]),(37,.arr 76 5),Qnw,Qnx,QlF,QlG,QlH,QlI,QlJ,QlK,QlL,(500602,.arr 152 2),(500603,.arr 87 4),(500604,.arc 84 7),(500605,.arc 158 4),(500606,.arc 90 5),(500607,.arc 92 3)] 4330451 [xE 0 [(43,.b)]] @JF n
def Q2k:LZ9:=mkU (Ku n).ok nT 10 Tryz.f6 [Qlw,Qlx,Qly,Qlz,QlA,QkM] [(2,.box Qlt),(3,.box Qlu),(6,.box QlM),Qnw,Qnx,(50061,.arr 76 5),QlF,QlO,QlG,QlP,QlH,QlQ,QlI,QlR,QlJ,(300061,.arc 90 5),QlK,(350061,.arc 92 3),QlL] 676661 [xE 2 [(71,.b)]] @Vz n
def Q3b:LZ9:=mkU (Ku n).ok nT 22 Tryz.f6 QlT [(2,.box Qlt),(3,.box QlS),(6,.box [tI,.arr 50061,.arr 100061,.arr 150061,.arr 200061,.arr 250061,.arr 175,.arr 350061]),(175,.arr 90 5),Qnw,Qnx,(50061,.arr 76 5),QlF,QlO,QlG,QlP,QlH,QlQ,QlI,QlR,QlJ,QlK,(350061,.arr 92 3),QlL] 258283082 [xE 4 [(180,.b)]] @UO n
def Q3J:LZ9:=mkU (Ku n).ok nT 22 Tryz.f6 QlT [(2,.box Qlt),(3,.box QlS),(6,.box QlM),Qnw,Qnx,(50061,.arr 76 5),QlF,QlO,QlG,QlP,QlH,QlQ,QlI,QlR,QlJ,(300061,.arr 90 5),QlK,(350061,.arr 92 3),QlL] 258281246 [.f (.exit 4) [(2,.ptr 2 0),(3,.ptr 3 0),(4,.ptr 50013 0),(5,.ptr 50015 0),(6,.ptr 6 0),(10,tI),(180,.b)] [(2,.box Qlt),(3,.box QlS),(6,.box QlM),(50013,.box QkW),(50015,.box Qlv),(50061,.arr 76 5),(100015,.arr 9 1),(100061,.arr 152 2),(150015,.arr 9 1),(150061,.arr 87 4),(200015,.arr 57 5),(200061,.arr 84 7),(250015,.arr 193 6),(250061,.arr 158 4),(300015,.arr 22 1),(350015,.arr 22 1),(350061,.arr 92 3),(400015,.arr 22 1),(300061,.arr 90 5)] [0,0,2,3,4,0,6,7,8,9,10,11,12,13,14,15,17,0,19,16]] @Ks n
def Q41:EZ9 6:=mkD (Ku n).ok [Q2J n n,Q2k n n,orL (Q3b n n) (Q3J n n)] 6 Tryz.f6 0 @PD n
def Q18:EZ9 208:=mkD (Xa [] []).ok nT 208 Tryz.f208 0 @MC n
def Q3E:EZ9 209:=mkD (Xa [] []).ok nT 209 Tryz.f209 0 @Q0f n
def EU:BZ9:=Xa [⟨208,Q18 n⟩,⟨209,Q3E n⟩] []
def Q3v:LZ9:=mkU (EU n).ok nT 4 Tryz.f151 [(0,.t),Qlh] [] 7 [.f .ret [(2,.cb false)] [] [],xE 0 [(21,.b)]] @RR n
def ML:EZ9 151:=mkD (EU n).ok [Q3v n n] 151 Tryz.f151 0 @N9 n
def Fi:BZ9:=Xa [⟨151,ML n⟩] []
def Q0X:LZ9:=mkU (Fi n).ok nT 4 Tryz.f147 [QlW,QkL,QkZ] [] 22 [.f .ret [(4,.ci .i64 5)] [] [],xE 0 [(14,.b)]] @So n
def Q29:EZ9 147:=mkD (Fi n).ok [Q0X n n] 147 Tryz.f147 0 @Nv n
def H9 (n:Nat):BZ9:=Xa [] [(2,⟨[],[],[(3,1003,9,1)],[],[]⟩)]
def NW:LZ9:=mkU (H9 n).ok nT 3 Tryz.f148 [QlX,QlY,QkY] [QlZ,(1003,.arr 9 1)] 515 [xE 0 [(9,.b)]] @Yy n
def Mk:EZ9 148:=mkD (H9 n).ok [NW n n] 148 Tryz.f148 0 @K9 n
def Q2C:EZ9 149:=mkD (Xa [] []).ok nT 149 Tryz.f149 0 @GH n
def Q06:EZ9 206:=mkD (Xa [] []).ok nT 206 Tryz.f206 0 @DW n
def ER:BZ9:=Xa [⟨206,Q06 n⟩] []
def Q3h:LZ9:=mkU (ER n).ok nT 4 Tryz.f207 [QkL,Qlx,Qm1,Qm2,QkM,(9,.ptr 9 0),QlU] [Qm3,Qny,(7,.box [.x,.x,.x,.x,.x,.x]),(9,.box [.x,.x,.x,.x,.x,.x])] 10446013798 [xE 0 [(19,.b)]] @TK n
def Q4A:EZ9 207:=mkD (ER n).ok [Q3h n n] 207 Tryz.f207 0 @CF n
def Pu:BZ9:=Xa [⟨149,Q2C n⟩,⟨206,Q06 n⟩,⟨207,Q4A n⟩] []
def FD:LZ9:=mkU (Pu n).ok nT 9 Tryz.f150 [QkL,Qlw,Qm2,Qm5,Qlc] [Qm6,(7,.box Qm0),(8,.box Qm0)] 29410 [.f .ret [(4,.ci .i64 5)] [] [],xE 0 [(85,.b)]] @K5 n
def Db:EZ9 150:=mkD (Pu n).ok [FD n n] 150 Tryz.f150 0 @Jm n
def G4:BZ9:=Xa [⟨147,Q29 n⟩,⟨148,Mk n⟩,⟨149,Q2C n⟩,⟨150,Db n⟩] []
def Q1D:LZ9:=mkU (G4 n).ok nT 6 Tryz.f89 [QlX,Qlh] [QlZ] 5 [.f .ret [(2,tI)] [] [0],xE 0 [(43,.b)]] @Sj n
def Q1j:LZ9:=mkU (G4 n).ok nT 12 Tryz.f89 [QlX,QkZ] [QlZ] 11 [.f .ret [(2,tI)] [] [0],xE 2 [(57,.b)]] @Sr n
def Q1f:LZ9:=mkU (G4 n).ok nT 19 Tryz.f89 [QlX,(7,.l 1),QkM] [QlZ] 97 [.f .ret [(2,tI)] [] [0],xE 4 [(73,.b)]] @VN n
def Q1V:LZ9:=mkU (G4 n).ok nT 28 Tryz.f89 [QlX,Qld] [QlZ] 122 [.f .ret [(2,tI)] [] [0],xE 6 [(117,.b)]] @VF n
def EN:EZ9 89:=mkD (G4 n).ok [Q1D n n,Q1j n n,Q1f n n,Q1V n n] 89 Tryz.f89 0 @JD n
def EO (n:Nat):BZ9:=Xa [] []
def Q3q:LZ9:=mkU (EO n).ok nT 4 Tryz.f90 [QlX,Qlh] [Qm7] 83 [.f .ret [(2,.cb true)] [] [],xE 0 [(48,.b)]] @JI n
def Q4I:EZ9 90:=mkD (EO n).ok [Q3q n n] 90 Tryz.f90 0 @L8 n
def HZ:EZ9 63:=mkD (Xa [] []).ok nT 63 Tryz.f63 0 @Vi n
def Fq:EZ9 98:=mkD (Xa [] []).ok nT 98 Tryz.f98 0 @KQ n
def GY:EZ9 152:=mkD (Xa [⟨98,Fq n⟩] []).ok nT 152 Tryz.f152 0 @XP n
def TP:BZ9:=Xa [⟨151,ML n⟩,⟨152,GY n⟩] []
def Ly:LZ9:=mkU (TP n).ok nT 4 Tryz.f91 [QkL,Qlw,QkZ] [Qm8] 34 [.f .ret [(4,.ci .i64 5)] [] [],xE 0 [(16,.b)]] @Gk n
def FE:EZ9 91:=mkD (TP n).ok [Ly n n] 91 Tryz.f91 0 @G2 n
def Me (n:Nat):BZ9:=Xa [] [(5,⟨[],[],[(6,1006,210,4)],[],[]⟩)]
def A9:LZ9:=mkU (Me n).ok nT 6 Tryz.f156 [Qlw,Qm1,Ql0,Ql1] [Qm6,Qny,(1006,.arr 210 4)] 5429 [xE 0 [(22,.b)]] @Z1 n
def Q1z:EZ9 156:=mkD (Me n).ok [A9 n n] 156 Tryz.f156 0 @B1 n
def Md:BZ9:=Xa [⟨156,Q1z n⟩] []
def Ac:LZ9:=mkU (Md n).ok nT 3 Tryz.f103 [Qm1,QlA,(8,.l 4),Qlc] [Qny,(6,.box Qm9)] 43 [.f .ret [(6,.ptr 6 0),(7,.cb true)] [(6,.box Qma)] [0,0,0,0],xE 0 [(16,.b)]] @P9 n
def LG:EZ9 103:=mkF (Md n).ok [Ac n n] 103 Tryz.f103 [eA [qL 1,qL 1,qL 5,qL 6],eA [qI,qI],eA [qI,qI]] [eT 2,eA [qX,qX,qX,qX],sB] 0 @Js n
def WX:BZ9:=Xa [⟨89,EN n⟩,⟨98,Fq n⟩,⟨103,LG n⟩] []
def MZ:LZ9:=mkU (WX n).ok nT 8 Tryz.f92 [Qlw,Qlx,QkZ] Qnz 272 [.f .ret [(4,.ci .i64 4)] [] [],xE 0 [(39,.b)]] @Yw n
def MX:LZ9:=mkU (WX n).ok nT 16 Tryz.f92 [Qlw,Qlx,Qlp,Ql1] Qnz 736 [.f .ret [(4,.ci .i64 5)] [] [],xE 4 [(73,.b)]] @Gi n
def Lh:LZ9:=mkU (WX n).ok [MX n n] 13 Tryz.f92 [Qlw,Qlx,Qlp] Qnz 245 [.f .ret [(4,.ci .i64 5)] [] [],xE 2 [(68,.b)]] @Vq n
def LA:LZ9:=mkU (WX n).ok nT 21 Tryz.f92 [Qlw,Qlx,QkM] Qnz 365 [.f .ret [(4,.ci .i64 11)] [] [],xE 6 [(93,.b)]] @Ys n
def Pg:EZ9 92:=mkD (WX n).ok [MZ n n,Lh n n,LA n n] 92 Tryz.f92 0 @Vy n
def Si:EZ9 153:=mkD (Xa [] []).ok nT 153 Tryz.f153 0 @GF n
def Su:BZ9:=Xa [⟨92,Pg n⟩] [(5,⟨[],[],[(8,1008,287,2)],[],[]⟩)]
def Q1g:LZ9:=mkU (Su n).ok nT 13 Tryz.f154 [Qlw,Qlx,Qme,Qlc,Qli,Qld,Qlf] [Qm6,QnA,(10,.box [.x,.x,.x,.x,.x]),(1008,.arr 287 2)] 9802155 [xE 2 [(53,.b)]] @WQ n
def Q1d:LZ9:=mkU (Su n).ok [Q1g n n] 6 Tryz.f154 [Qlw,Qlx,Qme,Qlc] [Qm6,QnA,(1008,.arr 287 2)] 5375 [xE 0 [(26,.b)]] @U2 n
def EG:EZ9 154:=mkD (Su n).ok [Q1d n n] 154 Tryz.f154 0 @Ps n
def EC:BZ9:=Xa [⟨154,EG n⟩,⟨152,GY n⟩] []
def Q2H:LZ9:=mkU (EC n).ok nT 7 Tryz.f97 [Qlx,Qmg,Qm1,QlU] [Qm3,(4,.box Qmb),Qmh] 7562 [.f .ret [(6,.ci .i64 12)] [] [],xE 0 [(31,.b)]] @JL n
def Mu:EZ9 97:=mkD (EC n).ok [Q2H n n] 97 Tryz.f97 0 @PN n
def Nc:EZ9 127:=mkD (Xa [] []).ok nT 127 Tryz.f127 0 @HN n
def MB:EZ9 130:=mkD (Xa [] []).ok nT 130 Tryz.f130 0 @Pq n
def GE:BZ9:=Xa [⟨151,ML n⟩,⟨63,HZ n⟩,⟨153,Si n⟩,⟨97,Mu n⟩,⟨127,Nc n⟩,⟨130,MB n⟩] []
def Ea:LZ9:=mkU (GE n).ok nT 5 Tryz.f93 [Qlj,Qlx,Qmg,Qm2,QkM] [Qm3,(4,bT 36 []),(7,.box Qma)] 4802659 [.f .ret [(6,.ci .i64 5)] [] [],xE 0 [(24,.b)]] @Wd n
def Es:LZ9:=mkU (GE n).ok nT 14 Tryz.f93 [Qlx,Qmg,Qm2,Qlc] [Qm3,(4,bT 36 []),(7,.box Qma)] 48626852 [.f .ret [(6,tI)] [] [0],xE 2 [(58,.b)]] @ZW n
def DP:EZ9 93:=mkD (GE n).ok [Ea n n,Es n n] 93 Tryz.f93 0 @Kf n
def BC:EZ9 96:=mkD (Xa [⟨63,HZ n⟩] []).ok nT 96 Tryz.f96 0 @Jf n
def Pb:EZ9 62:=mkF (Xa [] []).ok nT 62 Tryz.f62 [eA [qI,qL 5,qL 2,qL 4,qL 7,qL 4,qL 5,qL 3],sI,sI] [eA [qX,qX]] 0 @XR n
def LZ:EZ9 94:=mkD (Xa [⟨96,BC n⟩,⟨153,Si n⟩,⟨63,HZ n⟩,⟨62,Pb n⟩,⟨130,MB n⟩,⟨127,Nc n⟩] []).ok nT 94 Tryz.f94 0 @KU n
def Pl:BZ9:=Xa [⟨63,HZ n⟩,⟨153,Si n⟩,⟨62,Pb n⟩,⟨130,MB n⟩,⟨127,Nc n⟩] []
def FZ:LZ9:=mkU (Pl n).ok nT 5 Tryz.f95 [QkL,Qlw,Qm1,Qlp] [Qm8,(5,.box Qma)] 238390 [.f .ret [(4,.ci .i64 5)] [] [],xE 0 [(43,.b)]] @We n
def D7:EZ9 95:=mkD (Pl n).ok [FZ n n] 95 Tryz.f95 0 @Kk n
def Yk:BZ9:=Xa [⟨89,EN n⟩,⟨90,Q4I n⟩,⟨63,HZ n⟩,⟨91,FE n⟩,⟨92,Pg n⟩,⟨93,DP n⟩,⟨94,LZ n⟩,⟨95,D7 n⟩,⟨96,BC n⟩] []
def Ek:LZ9:=mkU (Yk n).ok nT 8 Tryz.f59 [Qlw,Qlx,QkZ] Qmk 797042 [.f .ret [(4,tI)] [] [0],xE 0 [(32,.b)]] @W0 n
def FC:LZ9:=mkU (Yk n).ok nT 14 Tryz.f59 [Qlw,Qlx,Ql1] Qmk 2309 [.f .ret [(4,tI)] [] [0],xE 2 [(45,.b)]] @ZV n
def FF:LZ9:=mkU (Yk n).ok nT 20 Tryz.f59 [Qlw,Qlx,Qlc] Qmk 797162 [.f .ret [(4,tI)] [] [0],xE 4 [(62,.b)]] @ZZ n
def Ex:LZ9:=mkU (Yk n).ok nT 26 Tryz.f59 [Qlw,Qlx,Qld] Qmk 797162 [.f .ret [(4,tI)] [] [0],xE 6 [(76,.b)]] @YV n
def FN:LZ9:=mkU (Yk n).ok nT 32 Tryz.f59 [Qlw,Qlx,Qln] Qmk 797042 [.f .ret [(4,tI)] [] [0],xE 8 [(94,.b)]] @YR n
def FR:LZ9:=mkU (Yk n).ok nT 38 Tryz.f59 [Qlw,Qlx,Qlk] Qmk 797042 [.f .ret [(4,.ci .i64 4)] [] [],xE 10 [(107,.b)]] @YN n
def FU:LZ9:=mkU (Yk n).ok nT 44 Tryz.f59 [Qlw,Qlx,(17,tI)] Qmk 531446 [.f .ret [(4,.ci .i64 4)] [] [],xE 12 [(158,.b)]] @YT n
def DJ:EZ9 59:=mkD (Yk n).ok [Ek n n,FC n n,FF n n,Ex n n,FN n n,FR n n,FU n n] 59 Tryz.f59 0 @U6 n
def LB (n:Nat):BZ9:=Xa [] []
def Q0O:LZ9:=mkU (LB n).ok nT 2 Tryz.f60 [QkL,Qlw,Qmg,Qlp] [Qm8,(4,.box Qm9)] 2194 [.f .ret [(4,.ptr 4 0),(5,.cb true)] [(4,.box Qma)] [0,0,0,0],xE 0 [(11,.b)]] @VI n
def EK:EZ9 60:=mkF (LB n).ok [Q0O n n] 60 Tryz.f60 [eA [qI,qL 5,qL 2,qL 4,qL 7,qL 4,qL 5,qL 3],sI] [eT 2,eA [qX,qX,qX,qX],sB] 223 @PJ n
def BT:BZ9:=Xa [⟨152,GY n⟩,⟨98,Fq n⟩] []
def Q46:LZ9:=mkU (BT n).ok nT 6 Tryz.f245 [Qmm,QkL,Ql1] [] 19 [.f .ret [(6,.ci .i64 4)] [] [],xE 0 [(17,.b)]] @GG n
def Q73:EZ9 245:=mkD (BT n).ok [Q46 n n] 245 Tryz.f245 0 @DV n
def Fv (n:Nat):BZ9:=Xa [] []
def Q0E:LZ9:=mkU (Fv n).ok nT 3 Tryz.f246 [Qmm,QkL,Ql1,QkM] [] 76 [xE 0 [(18,.b)]] @VE n
def Q2p:EZ9 246:=mkD (Fv n).ok [Q0E n n] 246 Tryz.f246 0 @Pk n
def Q2x:EZ9 247:=mkD (Xa [] []).ok nT 247 Tryz.f247 0 @NN n
def Q2X:EZ9 248:=mkD (Xa [] []).ok nT 248 Tryz.f248 0 @NK n
def EJ (n:Nat):BZ9:=Xa [] []
def Q3O:LZ9:=mkU (EJ n).ok nT 4 Tryz.f249 [Qmn,Qlh,QkY] [] 25 [xE 0 [(10,.b)]] @Vt n
def Q43:EZ9 249:=mkD (EJ n).ok [Q3O n n] 249 Tryz.f249 0 @Nq n
def J4:BZ9:=Xa [⟨245,Q73 n⟩,⟨246,Q2p n⟩,⟨247,Q2x n⟩,⟨248,Q2X n⟩,⟨249,Q43 n⟩] []
def AB:LZ9:=mkU (J4 n).ok nT 7 Tryz.f210 [Qmm,QkL,Qm1,Qlc,(10,.arr 29),Qld] Qmo 49234 [xE 0 [(32,.b)]] @Uj n
def A7:LZ9:=mkU (J4 n).ok nT 12 Tryz.f210 [Qmm,QkL,Qm1,Qlc,(10,.arr 29),Qln] Qmo 49234 [xE 2 [(57,.b)]] @Uo n
def Am:LZ9:=mkU (J4 n).ok nT 16 Tryz.f210 [Qmm,QkL,Qm1,Qlc,(10,.arr 29),Qlq] Qmo 49225 [xE 4 [(86,.b)]] @Us n
def Ae:LZ9:=mkU (J4 n).ok nT 20 Tryz.f210 [Qlc,(10,.arr 29),Qlk] [Qmp] 25 [xE 6 [(116,.b)]] @Vb n
def Q1v:EZ9 210:=mkD (J4 n).ok [AB n n,A7 n n,Am n n,Ae n n] 210 Tryz.f210 0 @Sz n
def Mt:EZ9 100:=mkD (Xa [] []).ok nT 100 Tryz.f100 0 @J2 n
def Fk:BZ9:=Xa [⟨210,Q1v n⟩,⟨100,Mt n⟩] []
def Q0R:LZ9:=mkU (Fk n).ok nT 6 Tryz.f155 [(8,.l 1),(10,.arr 24),Qld] [(24,.arr 3 1)] 25 [xE 0 [(28,.b)]] @VK n
def Q3c:EZ9 155:=mkD (Fk n).ok [Q0R n n] 155 Tryz.f155 0 @Pe n
def Nk:BZ9:=Xa [⟨97,Mu n⟩,⟨154,EG n⟩,⟨155,Q3c n⟩,⟨100,Mt n⟩] [(7,⟨[],[],[(6,1006,3,1),(7,1007,3,1)],[],[]⟩)]
def Cf:LZ9:=mkU (Nk n).ok nT 8 Tryz.f99 [Qlx,Qmg,Qm1,Ql0,Qmq,(14,.l 1),QkN,(17,tI)] [Qm3,(4,.box Qmb),Qmh,(1006,.arr 3 1),(1007,.arr 3 1)] 38331817 [xE 0 [(46,.b)]] @Z8 n
def BW:EZ9 99:=mkD (Nk n).ok [Cf n n] 99 Tryz.f99 0 @TQ n
def Q3Q:EZ9 101:=mkD (Xa [] []).ok nT 101 Tryz.f101 0 @Vg n
def Ld:EZ9 102:=mkW (Xa [] []).ok nT 102 Tryz.f102 [eP 1000000 2,eR 1000001 4 1,eR 1000002 170 3,sI,sI,sI] [eT 0] [] 0 0 @YD n
def N4:BZ9:=Xa [⟨97,Mu n⟩,⟨98,Fq n⟩,⟨99,BW n⟩,⟨100,Mt n⟩,⟨101,Q3Q n⟩,⟨102,Ld n⟩,⟨103,LG n⟩] [(31,⟨[],[],[(27,1027,170,3)],[],[]⟩)]
def Q2P:LZ9:=mkU (N4 n).ok nT 12 Tryz.f61 [Qlh,QkY,Qm1,QlA,(14,.l 1),(15,.l 1),QkN,(18,tI),(19,.ptr 65 0),(20,tI),(21,tI),(22,tI)] [(5,bT 27 []),(6,.box Qmb),(61,.arr 4 1),(63,.arr 170 3),(65,.box [.arr 61,.arr 63])] 117191245 [xE 0 [(73,.b)]] @ZO n
def Q34:LZ9:=mkU (N4 n).ok nT 32 Tryz.f61 [QkN,(18,tI),(19,.ptr 65 0),(27,.arr 1027),(28,tI)] [(61,.arr 4 1),(63,.arr 170 3),(65,.box [.arr 61,.arr 63]),(1027,.arr 170 3)] 615 [xE 3 [(173,.b)]] @UP n
def Q55:EZ9 61:=mkD (N4 n).ok [Q2P n n,Q34 n n] 61 Tryz.f61 0 @KI n
def Pc:BZ9:=Xa [⟨59,DJ n⟩,⟨60,EK n⟩,⟨62,Pb n⟩,⟨61,Q55 n⟩] [(5,⟨[],[],[(7,1007,97,1),(8,1008,3,1)],[],[]⟩)]
def Aj:LZ9:=mkU (Pc n).ok nT 10 Tryz.f28 [Qlw,Qlx,Qmq,Qme,Qlc,Qli,Qld] [Qm6,Qml,(10,.box Qma),Qmt,Qmu] 3245244469 [xE 2 [(39,.b)]] @Yq n
def Ag:LZ9:=mkU (Pc n).ok [Aj n n] 6 Tryz.f28 [Qlw,Qlx,Qmq,Qme,Qlc] Qmv 13551746 [xE 0 [(27,.b)]] @Un n
def Q1Q:EZ9 28:=mkD (Pc n).ok [Ag n n] 28 Tryz.f28 0 @SC n
def Pv (n:Nat):BZ9:=Xa [] []
def E4:LZ9:=mkU (Pv n).ok nT 2 Tryz.f64 [(0,.l 3),Qlh] [] 7 [.f .ret [(2,.cb false)] [] [],xE 0 [(7,.b)]] @YK n
def Rf:EZ9 64:=mkD (Pv n).ok [E4 n n] 64 Tryz.f64 0 @Jj n
def Lg:BZ9:=Xa [⟨63,HZ n⟩,⟨64,Rf n⟩] []
def Q0G:LZ9:=mkU (Lg n).ok nT 4 Tryz.f29 [Qmn,(1,.l 3),QkZ] [] 22 [.f .ret [(4,.cb false)] [] [],xE 0 [(17,.b)]] @VT n
def Q3D:EZ9 29:=mkD (Lg n).ok [Q0G n n] 29 Tryz.f29 0 @NO n
def La (n:Nat):BZ9:=Xa [] []
def Q20:LZ9:=mkU (La n).ok nT 3 Tryz.f65 [QkL,Qlw,QkZ,Qlp] [Qm8] 754 [xE 0 [(9,.b)]] @VV n
def RH:EZ9 65:=mkD (La n).ok [Q20 n n] 65 Tryz.f65 247 @WG n
def P4:BZ9:=Xa [⟨65,RH n⟩,⟨60,EK n⟩] [(2,⟨[],[],[(5,1005,102,4)],[],[]⟩)]
def AA:LZ9:=mkU (P4 n).ok nT 7 Tryz.f30 Qmw [Qm8,(7,.box Qma),(1005,.arr 102 4)] 33488095 [xE 2 [(29,.b)]] @ZL n
def Aa:LZ9:=mkU (P4 n).ok [AA n n] 3 Tryz.f30 Qmz [Qm8,(1005,.arr 102 4)] 120535 [xE 0 [(17,.b)]] @U8 n
def Q1X:EZ9 30:=mkD (P4 n).ok [Aa n n] 30 Tryz.f30 215 @Sd n
def HQ (n:Nat):BZ9:=Xa [] []
def ME:LZ9:=mkU (HQ n).ok nT 2 Tryz.f104 [(0,.l 3),QkL,Qmg,Qlp] [(4,.box QmA)] 22 [.f .ret [(4,.ptr 4 0),(5,.cb true)] [(4,.box [.x,.x,.x])] [0,0,0],xE 0 [(10,.b)]] @YJ n
def F4:EZ9 104:=mkF (HQ n).ok [ME n n] 104 Tryz.f104 [sL 3,sI] [eT 2,eA [qX,qX,qX],sB] 0 @V7 n
def D6:EZ9 66:=mkF (Xa [⟨104,F4 n⟩] []).ok nT 66 Tryz.f66 [sL 1,eA [qI,qI,qI,qI],sI] [eT 3,eA [qX,qX,qX],eA [qX,qX,qX],sB] 16 @Pi n
def M2:BZ9:=Xa [⟨66,D6 n⟩] []
def A5:LZ9:=mkU (M2 n).ok nT 2 Tryz.f31 [QlW,Qlj,Qmg,Ql1] [(4,bT 102 [])] 1102 [.f .ret [(6,.cb false)] [] [],xE 0 [(18,.b)]] @Ul n
def Q1y:EZ9 31:=mkD (M2 n).ok [A5 n n] 31 Tryz.f31 0 @SN n
def TZ:BZ9:=Xa [⟨65,RH n⟩] [(2,⟨[],[],[(5,1005,67,6)],[],[]⟩)]
def AD:LZ9:=mkU (TZ n).ok nT 7 Tryz.f32 Qmw [Qm8,(7,.box Qma),(1005,.arr 67 6)] 35075857 [xE 2 [(27,.b)]] @Uh n
def A0:LZ9:=mkU (TZ n).ok [AD n n] 3 Tryz.f32 Qmz [Qm8,(1005,.arr 67 6)] 118348 [xE 0 [(15,.b)]] @Ue n
def Q1O:EZ9 32:=mkW (TZ n).ok [A0 n n] 32 Tryz.f32 [eA [qI,qL 5,qL 2,qL 4,qL 7,qL 4,qL 5,qL 3],sL 1] [eR 1005 67 6] [] 247 0 @S9 n
def Kh:BZ9:=Xa [⟨65,RH n⟩] [(2,⟨[],[],[(3,1003,67,6)],[],[]⟩)]
def Ax:LZ9:=mkU (Kh n).ok nT 3 Tryz.f33 [QlX,QlY,QkY] QmD 39692 [xE 0 [(14,.b)]] @Uf n
def Ay:LZ9:=mkU (Kh n).ok nT 8 Tryz.f33 [QlX,QlY,Qlp] QmD 40178 [xE 2 [(53,.b)]] @ZJ n
def BX:LZ9:=mkU (Kh n).ok nT 13 Tryz.f33 [QlX,QlY,QkM] QmD 41636 [xE 4 [(93,.b)]] @YY n
def Q1w:EZ9 33:=mkD (Kh n).ok [Ax n n,Ay n n,BX n n] 33 Tryz.f33 135 @SM n
def KZ:BZ9:=Xa [⟨66,D6 n⟩] [(2,⟨[],[],[(9,1009,170,3)],[],[]⟩)]
def Di:LZ9:=mkU (KZ n).ok nT 7 Tryz.f35 [QlW,(1,.l 4),Qlj,Qlh,(9,.arr 1009),QlU,(11,.b),Qlf] [(1009,.arr 170 3)] 2065 [xE 2 [(28,.b)]] @YE n
def Dh:LZ9:=mkU (KZ n).ok [Di n n] 3 Tryz.f35 [QlW,(1,.l 4),Qlj,Qlh,(9,.arr 1009),QlU] [(1009,.arr 170 3)] 688 [xE 0 [(22,.b)]] @Zt n
def CB:EZ9 35:=mkD (KZ n).ok [Dh n n] 35 Tryz.f35 0 @G5 n
def EY (n:Nat):BZ9:=Xa [] []
def Q36:LZ9:=mkU (EY n).ok nT 2 Tryz.f105 [(0,.l 3),QkL,Qmg,Qlp] [(4,.box QmA)] 22 [.f .ret [(4,.ptr 4 0),(5,.cb true)] [(4,.box [.x,.x,.x])] [0,0,0],xE 0 [(10,.b)]] @U5 n
def Q5a:EZ9 105:=mkF (EY n).ok [Q36 n n] 105 Tryz.f105 [sL 3,sI] [eT 2,eA [qX,qX,qX],sB] 0 @Bn n
def Ez:EZ9 68:=mkD (Xa [] []).ok nT 68 Tryz.f68 0 @F6 n
def GM:BZ9:=Xa [⟨63,HZ n⟩,⟨64,Rf n⟩,⟨105,Q5a n⟩,⟨68,Ez n⟩] []
def Ee:LZ9:=mkU (GM n).ok nT 13 Tryz.f67 [Qmn,(1,.l 3),(2,.l 3),(8,.arr 26),Qlc,Qli,Qlf,Qln] [(10,.box [.x,.x,.x]),(26,.arr 4 1)] 46525 [xE 2 [(70,.b)]] @YU n
def FM:LZ9:=mkU (GM n).ok [Ee n n] 7 Tryz.f67 [Qmn,(1,.l 3),(2,.l 3),(8,.arr 26),Qlc] [(26,.arr 4 1)] 229 [xE 0 [(30,.b)]] @XU n
def Dx:EZ9 67:=mkD (GM n).ok [FM n n] 67 Tryz.f67 0 @Kj n
def JR:BZ9:=Xa [⟨67,Dx n⟩,⟨68,Ez n⟩] [(13,⟨[],[],[(12,1012,112,2)],[],[]⟩)]
def CY:LZ9:=mkU (JR n).ok nT 6 Tryz.f34 [Qmn,(8,.l 1),QlU,Qld] [] 76 [xE 0 [(27,.b)]] @Wg n
def Bh:LZ9:=mkU (JR n).ok nT 18 Tryz.f34 [Qmn,(8,.l 1),(12,.arr 1012),Qln,Qlq] [(1012,.arr 112 2)] 67 [xE 4 [(65,.b)]] @Wp n
def CL:LZ9:=mkU (JR n).ok [Bh n n] 14 Tryz.f34 [Qmn,(8,.l 1),(12,.arr 1012),Qln] [(1012,.arr 112 2)] 76 [xE 2 [(41,.b)]] @Ya n
def Ao:EZ9 34:=mkD (JR n).ok [CY n n,CL n n] 34 Tryz.f34 0 @Kt n
def ZK:BZ9:=Xa [⟨28,Q1Q n⟩,⟨29,Q3D n⟩,⟨30,Q1X n⟩,⟨31,Q1y n⟩,⟨32,Q1O n⟩,⟨33,Q1w n⟩,⟨35,CB n⟩,⟨34,Ao n⟩] [(18,⟨[],[],[],[(12,1,1121,104,3)],[]⟩),(21,⟨[],[],[],[(12,1,1121,104,3)],[]⟩)]
def AG:LZ9:=mkU (ZK n).ok nT 7 Tryz.f7 [Qlx,Qmg,QmF,(7,.l 1),Qlc] [Qml,(4,.box QmE)] 46 [.f .ret [(4,.ptr 4 0),(5,.ci .i64 13)] [(4,.box QmE)] [],xE 0 [(39,.b)]] @Uq n
def Aw:LZ9:=mkU (ZK n).ok nT 13 Tryz.f7 [Qlx,Qmg,QmF,(7,.l 1),QmI,Qld] [Qml,(4,.box QmE)] 145 [.f .ret [(4,.ptr 4 0),(5,.ci .i64 13)] [(4,.box QmE)] [],xE 2 [(57,.b)]] @Ur n
def BZ:LZ9:=mkU (ZK n).ok nT 22 Tryz.f7 [Qlx,Qmg,QmF,(7,.l 1),QmI,QmJ,Qln,Qlq] [Qml,QmK,(12,.box [tI,.arr 1121,.nil]),QmL] 28704564 [xE 6 [(88,.b)]] @Vh n
def AC:LZ9:=mkU (ZK n).ok [BZ n n] 19 Tryz.f7 [Qlx,Qmg,QmF,(7,.l 1),QmI,QmJ,Qln] [Qml,(4,.box QmE),(12,.box [tI,.arr 1121,.nil]),QmL] 3190887 [xE 4 [(77,.b)]] @ZN n
def As:LZ9:=mkU (ZK n).ok nT 36 Tryz.f7 [Qlx,Qmg,QmF,QmI,QmJ,Qlk,QkN,(17,.l 2),QmN] QnB 86094045 [xE 12 [(145,.b)]] @Um n
def AF:LZ9:=mkU (ZK n).ok [As n n] 30 Tryz.f7 [Qlx,Qmg,QmF,QmI,QmJ,Qlk,QkN] QnB 9566086 [.f .ret [(4,.ptr 4 0),(5,.ci .i64 13)] [(4,.box QmE)] [],xE 10 [(120,.b)]] @Vd n
def Ab:LZ9:=mkU (ZK n).ok [AF n n] 27 Tryz.f7 [Qlx,Qmg,QmF,QmI,QmJ,Qlk] [Qml,(4,.box QmE),(12,.box QmM),(107,.arr 67 6),QmL] 1062931 [.f .ret [(4,.ptr 4 0),(5,.ci .i64 13)] [(4,.box QmE)] [],xE 8 [(112,.b)]] @Ui n
def Q1L:EZ9 7:=mkD (ZK n).ok [AG n n,Aw n n,AC n n,Ab n n] 7 Tryz.f7 0 @HS n
def TM (n:Nat):BZ9:=Xa [] []
def L3:LZ9:=mkU (TM n).ok nT 4 Tryz.f17 [(13,.l 5),Qlq,Qlk] [] 22 [.f .ret [(4,.cb false)] [] [],xE 0 [(16,.b)]] @Zm n
def PG:EZ9 17:=mkD (TM n).ok [L3 n n] 17 Tryz.f17 0 @Vu n
def Tj:EZ9 145:=mkD (Xa [] []).ok nT 145 Tryz.f145 0 @U3 n
def Re:EZ9 146:=mkD (Xa [] []).ok nT 146 Tryz.f146 0 @Va n
def H5:EZ9 85:=mkD (Xa [⟨145,Tj n⟩,⟨146,Re n⟩] []).ok nT 85 Tryz.f85 1090 @Vo n
def MT:EZ9 40:=mkD (Xa [] []).ok nT 40 Tryz.f40 0 @HW n
def FK:EZ9 187:=mkD (Xa [] []).ok nT 187 Tryz.f187 0 @Nr n
def Ew:EZ9 188:=mkD (Xa [] []).ok nT 188 Tryz.f188 0 @RL n
def HP:EZ9 132:=mkD (Xa [⟨187,FK n⟩,⟨188,Ew n⟩] []).ok nT 132 Tryz.f132 0 @JP n
def RJ:EZ9 176:=mkD (Xa [] []).ok nT 176 Tryz.f176 0 @V2 n
def A8:EZ9 184:=mkD (Xa [⟨176,RJ n⟩] []).ok nT 184 Tryz.f184 0 @ET n
def XZ:BZ9:=Xa [⟨184,A8 n⟩] []
def J0:LZ9:=mkU (XZ n).ok nT 4 Tryz.f178 [QmQ,QkL,Qlj,Qlp,Ql1] [QmR] 217 [xE 2 [(30,.b)]] @Y4 n
def VX:LZ9:=mkU (XZ n).ok [J0 n n] 1 Tryz.f178 [QmQ,QkL,Qlj,Qlp] [QmR] 76 [xE 0 [(12,.b)]] @Y3 n
def Jb:EZ9 178:=Q7E (mkW (XZ n).ok [VX n n] 178 Tryz.f178 [eR 1000000 3 1,sI,sI] [eT 0] [(1,eK 1000000 3 1)] 0 0 @WA n)
def UL:BZ9:=Xa [⟨178,Jb n⟩] []
def GQ:LZ9:=mkU (UL n).ok nT 2 Tryz.f131 [QmQ,QkL,Qlj,Qlh,(8,.cb true),(9,.cb true)] [QmR] 40 [.f .ret [] [(1000000,.arr 3 1)] [0]] @UG n
def KG:EZ9 131:=Q7E (mkW (UL n).ok [GQ n n] 131 Tryz.f131 [eR 1000000 3 1,sI,sI,sI] [eT 0] [(1,eK 1000000 3 1)] 0 0 @Vp n)
def PX:EZ9 79:=Q7E (mkW (Xa [⟨132,HP n⟩,⟨131,KG n⟩] []).ok nT 79 Tryz.f79 [eR 1000000 3 1] [eT 0] [(1,eK 1000000 3 1)] 0 0 @GB n)
def Ua (n:Nat):BZ9:=Xa [] []
def TR:LZ9:=mkU (Ua n).ok nT 9 Tryz.f80 [QlW,Qlh,(4,.l 1),QkZ] [] 67 [xE 2 [(32,.b)]] @Ub n
def P7:LZ9:=mkU (Ua n).ok [TR n n] 4 Tryz.f80 [QlW,Qlh] [] 7 [xE 0 [(13,.b)]] @U9 n
def Ph:EZ9 80:=mkD (Ua n).ok [P7 n n] 80 Tryz.f80 0 @GA n
def RU:BZ9:=Xa [⟨17,PG n⟩,⟨40,MT n⟩,⟨79,PX n⟩,⟨80,Ph n⟩] [(5,⟨[],[],[(9,1009,3,1)],[],[]⟩),(11,⟨[],[],[],[],[1009]⟩)]
def B4:LZ9:=mkU (RU n).ok nT 6 Tryz.f47 [Qmn,Qlj,(9,.arr 1009),QlU,(20,.l 5),(21,tI),(22,tI)] [(1009,.arr 3 1)] 2065 [xE 0 [(23,.b)]] @G9 n
def A6:EZ9 47:=mkD (RU n).ok [B4 n n] 47 Tryz.f47 0 @EW n
def R4 (n:Nat):BZ9:=Xa [] []
def Do:LZ9:=mkU (R4 n).ok nT 4 Tryz.f46 [QlW,Qmx,Qlf,Qln] [] 67 [.f .ret [(4,.cb false)] [] [],xE 0 [(14,.b)]] @H3 n
def CM:EZ9 46:=mkD (R4 n).ok [Do n n] 46 Tryz.f46 0 @LD n
def Lk:BZ9:=Xa [⟨21,BQ n⟩,⟨23,Zi n⟩] []
def Q1C:LZ9:=mkU (Lk n).ok nT 4 Tryz.f19 [Qlw,(5,.ptr 50009 0),(6,.arr 13),Qlk,QkN] [(2,.box QmS),(13,.arr 3 1),(50009,.box QkW)] 5605 [xE 0 [(17,.b)]] @V0 n
def Q3e:EZ9 19:=mkW (Lk n).ok [Q1C n n] 19 Tryz.f19 [eA [qI,qL 3,qL 6],sL 1] [eR 13 3 1] [] 0 0 @PW n
def AT:EZ9 87:=mkD (Xa [] []).ok nT 87 Tryz.f87 0 @Hy n
def M7:BZ9:=Xa [⟨87,AT n⟩] []
def Ap:LZ9:=mkU (M7 n).ok nT 4 Tryz.f69 [QlX,Qlh] [(1,.box QmS)] 41 [.f .ret [(2,.cb false)] [] [],xE 0 [(25,.b)]] @Ve n
def Q0Z:EZ9 69:=mkD (M7 n).ok [Ap n n] 69 Tryz.f69 0 @Sb n
def Lw:BZ9:=Xa [⟨69,Q0Z n⟩,⟨87,AT n⟩] []
def Q0U:LZ9:=mkU (Lw n).ok nT 4 Tryz.f52 [Qmx,Qlw,QkZ] [(2,.box QmS)] 16 [.f .ret [(4,.cb false)] [] [],xE 0 [(20,.b)]] @VP n
def EP:EZ9 52:=mkD (Lw n).ok [Q0U n n] 52 Tryz.f52 0 @Pm n
def Q0t:EZ9 86:=mkD (Xa [⟨68,Ez n⟩] []).ok nT 86 Tryz.f86 790 @SI n
def Mc:BZ9:=Xa [⟨52,EP n⟩,⟨86,Q0t n⟩] []
def Al:LZ9:=mkU (Mc n).ok nT 4 Tryz.f51 [Qmx,Qlw,Qlp] [(2,.box QmS)] 97 [.f .ret [(4,tI),(5,.cb true)] [] [0],xE 0 [(15,.b)]] @Up n
def Q0C:EZ9 51:=mkD (Mc n).ok [Al n n] 51 Tryz.f51 0 @Mp n
def Dn:EZ9 20:=mkD (Xa [⟨51,Q0C n⟩,⟨52,EP n⟩] []).ok nT 20 Tryz.f20 0 @J9 n
def G0:EZ9 212:=mkD (Xa [] []).ok nT 212 Tryz.f212 0 @Xg n
def DH:EZ9 214:=mkD (Xa [] []).ok nT 214 Tryz.f214 0 @P6 n
def BG:EZ9 215:=mkD (Xa [] []).ok nT 215 Tryz.f215 0 @LC n
def Fh:BZ9:=Xa [⟨214,DH n⟩,⟨215,BG n⟩] []
def Q1U:LZ9:=mkU (Fh n).ok nT 4 Tryz.f159 [(0,.t),QmN,(20,tI)] [] 22 [.f .ret [(2,.cb false)] [] [],xE 0 [(21,.b)]] @Sa n
def TB:EZ9 159:=mkD (Fh n).ok [Q1U n n] 159 Tryz.f159 0 @GW n
def HF:EZ9 251:=mkD (Xa [] []).ok nT 251 Tryz.f251 0 @MS n
def R0:BZ9:=Xa [⟨251,HF n⟩] []
def Dt:LZ9:=mkU (R0 n).ok nT 2 Tryz.f253 [Qmg,Qm1,(11,.l 6),Qlf,Qln] [(4,.box Qm0),Qny] 1102 [.f .ret [(6,.cb true)] [] [],xE 0 [(14,.b)]] @KO n
def RM:EZ9 253:=mkD (R0 n).ok [Dt n n] 253 Tryz.f253 0 @Ga n
def Fe:EZ9 254:=mkD (Xa [] []).ok nT 254 Tryz.f254 0 @Jz n
def Ha:EZ9 250:=mkD (Xa [] []).ok nT 250 Tryz.f250 0 @Y6 n
def Tz:EZ9 252:=mkD (Xa [] []).ok nT 252 Tryz.f252 0 @KT n
def Gq:EZ9 161:=mkW (Xa [] []).ok nT 161 Tryz.f161 (eA [qT,qI,qI,qI,qI]::pT 1000000 76 [] []) [sB] [] 990 62 @US n
def Xp:BZ9:=Xa [⟨161,Gq n⟩] []
def YH:LZ9:=mkU (Xp n).ok nT 2 Tryz.f216 [(0,.l 5),(1,.fn 161 [.ptr 1000000 0]),Ql1,QkM] [(1000000,bT 76 [])] 49 [.f .ret [(4,tI)] [(1000000,bT 76 [])] [0,4,5,6,7,8],xE 0 [(9,.b)]] @QL n
def YL:EZ9 216:=mkW (Xp n).ok [YH n n] 216 Tryz.f216 (sL 5::eF 161 1::pT 1000000 76 [] []) [sI] [] 60 62 @Xz n
def YC:EZ9 160:=mkW (Xa [⟨216,YL n⟩] []).ok nT 160 Tryz.f160 (sL 5::eF 161 1::pT 1000000 76 [] []) [sB] [] 60 62 @Xo n
def KM:EZ9 162:=mkD (Xa [] []).ok nT 162 Tryz.f162 0 @Ud n
def T9:BZ9:=Xa [⟨159,TB n⟩,⟨160,YC n⟩,⟨162,KM n⟩] []
def Mj:LZ9:=mkU (T9 n).ok nT 2 Tryz.f110 [Qlx,(8,.l 5),Qlc,QlU] [Qml] 103 [.f .ret [(4,tI)] [] [0],xE 0 [(11,.b)]] @Jp n
def TD:EZ9 110:=mkD (T9 n).ok [Mj n n] 110 Tryz.f110 0 @WK n
def Av:EZ9 255:=mkD (Xa [] []).ok nT 255 Tryz.f255 0 @RC n
def BE:EZ9 271:=mkD (Xa [] []).ok nT 271 Tryz.f271 0 @SH n
def DA:EZ9 272:=mkD (Xa [] []).ok nT 272 Tryz.f272 0 @M8 n
def Ti:BZ9:=Xa [⟨271,BE n⟩,⟨272,DA n⟩] []
def My:LZ9:=mkU (Ti n).ok nT 3 Tryz.f256 [Qm5,(9,.ptr 9 0),(20,.l 6),(21,tI),(22,tI)] [(8,.box Qm0),(9,.box Qm0)] 1102 [.f .ret [(6,tI),(7,.cb true)] [] [0],xE 0 [(23,.b)]] @JB n
def F7:EZ9 256:=mkD (Ti n).ok [My n n] 256 Tryz.f256 0 @Jn n
def GK:EZ9 165:=mkW (Xa [] []).ok nT 165 Tryz.f165 (eA [qT,qI,qI,qL 4]::pT 1000000 87 [] []) [sB] [] 238 30 @Zx n
def Xw:BZ9:=Xa [⟨165,GK n⟩] []
def YZ:LZ9:=mkU (Xw n).ok nT 2 Tryz.f218 [(0,.l 4),(1,.fn 165 [.ptr 1000000 0]),Ql1,QkM] [(1000000,bT 87 [])] 49 [.f .ret [(4,tI)] [(1000000,bT 87 [])] [0,4,5,6,7],xE 0 [(9,.b)]] @Qa n
def Z4:EZ9 218:=mkW (Xw n).ok [YZ n n] 218 Tryz.f218 (sL 4::eF 165 1::pT 1000000 87 [] []) [sI] [] 28 30 @QU n
def YG:EZ9 164:=mkW (Xa [⟨218,Z4 n⟩] []).ok nT 164 Tryz.f164 (sL 4::eF 165 1::pT 1000000 87 [] []) [sB] [] 28 30 @Qo n
def F9:EZ9 166:=mkD (Xa [] []).ok nT 166 Tryz.f166 0 @HV n
def SV:EZ9 169:=mkD (Xa [] []).ok nT 169 Tryz.f169 0 @GN n
def Ep:EZ9 296:=mkD (Xa [] []).ok nT 296 Tryz.f296 0 @N2 n
def E2:EZ9 297:=mkD (Xa [] []).ok nT 297 Tryz.f297 0 @T8 n
def RK:EZ9 291:=mkD (Xa [⟨296,Ep n⟩,⟨297,E2 n⟩] []).ok nT 291 Tryz.f291 0 @HH n
def Hb:EZ9 269:=mkD (Xa [] []).ok nT 269 Tryz.f269 0 @WY n
def RI:EZ9 171:=mkD (Xa [] []).ok nT 171 Tryz.f171 0 @HM n
def MH:EZ9 170:=mkD (Xa [] []).ok nT 170 Tryz.f170 0 @Px n
def M6:EZ9 172:=mkD (Xa [] []).ok nT 172 Tryz.f172 0 @JE n
def M1:EZ9 168:=mkD (Xa [⟨172,M6 n⟩] []).ok nT 168 Tryz.f168 0 @WU n
def H8:BZ9:=Xa [⟨168,M1 n⟩,⟨169,SV n⟩,⟨166,F9 n⟩,⟨170,MH n⟩,⟨171,RI n⟩] []
def NS:LZ9:=mkU (H8 n).ok nT 2 Tryz.f113 [Qlw,Qlx,(10,.l 7),Qld,Qlf] Qmk 7173625 [.f .ret [(4,tI)] [] [0],xE 0 [(13,.b)]] @YA n
def Td:EZ9 113:=mkD (H8 n).ok [NS n n] 113 Tryz.f113 0 @Wa n
def GO:EZ9 174:=mkW (Xa [] []).ok nT 174 Tryz.f174 (eA [qI,qI,qI,qI]::pT 1000000 158 [] []) [sB] [] 204 30 @Zu n
def Xy:BZ9:=Xa [⟨174,GO n⟩] []
def Z2:LZ9:=mkU (Xy n).ok nT 2 Tryz.f220 [(0,.l 4),(1,.fn 174 [.ptr 1000000 0]),Ql1,QkM] [(1000000,bT 158 [])] 130 [.f .ret [(4,tI)] [(1000000,bT 158 [])] [0,4,5,6,7],xE 0 [(9,.b)]] @Qb n
def Z5:EZ9 220:=mkW (Xy n).ok [Z2 n n] 220 Tryz.f220 (sL 4::eF 174 1::pT 1000000 158 [] []) [sI] [] 24 30 @QV n
def YI:EZ9 173:=mkW (Xa [⟨220,Z5 n⟩] []).ok nT 173 Tryz.f173 (sL 4::eF 174 1::pT 1000000 158 [] []) [sB] [] 24 30 @Qm n
def Tx:BZ9:=Xa [⟨172,M6 n⟩,⟨169,SV n⟩,⟨173,YI n⟩,⟨170,MH n⟩,⟨171,RI n⟩] []
def LK:LZ9:=mkU (Tx n).ok nT 2 Tryz.f114 [Qlx,QmI,Qld,Qlf] [Qml] 88582 [.f .ret [(4,tI)] [] [0],xE 0 [(13,.b)]] @Zr n
def Py:EZ9 114:=mkD (Tx n).ok [LK n n] 114 Tryz.f114 0 @UH n
def TJ:BZ9:=Xa [⟨168,M1 n⟩] []
def LN:LZ9:=mkU (TJ n).ok nT 2 Tryz.f115 [Qlx,(8,.l 5),Qlc,QlU] [Qml] 88582 [.f .ret [(4,.ci .i64 4)] [] [],xE 0 [(11,.b)]] @Ze n
def PI:EZ9 115:=mkD (TJ n).ok [LN n n] 115 Tryz.f115 0 @UA n
def H4 (n:Nat):BZ9:=Xa [] []
def NX:LZ9:=mkU (H4 n).ok nT 2 Tryz.f116 [Qlw,(8,.l 3),Qlc,QlU] [Qm6] 49 [.f .ret [(4,.ci .i64 4)] [] [],xE 0 [(11,.b)]] @Yz n
def HR:EZ9 116:=mkD (H4 n).ok [NX n n] 116 Tryz.f116 0 @ZU n
def YP (n:Nat):BZ9:=Xa [] []
def GD:LZ9:=mkU (YP n).ok nT 5 Tryz.f133 [QkK,Qlj,(9,.l 4),QlU,Qld,(34,tI),(35,tI)] QnC 118666 [xE 2 [(36,.b)]] @X1 n
def GU:LZ9:=mkU (YP n).ok [GD n n] 1 Tryz.f133 [QkK,(9,.l 4),QlU,Qld] QnC 4450 [xE 0 [(12,.b)]] @QN n
def Ky:EZ9 133:=mkW (YP n).ok [GU n n] 133 Tryz.f133 (pT 1000000 235 [(12,eR 1000001 3 1),(13,eR 1000002 97 1),(14,eR 1000003 3 1),(15,eR 1000004 273 4),(17,eR 1000005 104 3),(18,eR 1000006 67 6)] []) [eT 0] [] 388991 389119 @Ym n
def Na (n:Nat):BZ9:=Xa [] []
def Bm:LZ9:=mkU (Na n).ok nT 2 Tryz.f189 [QkL,(8,.l 4),Qlc,QlU] [] 67 [.f .ret [(4,tI)] [] [0],xE 0 [(11,.b)]] @UE n
def BY:EZ9 189:=mkD (Na n).ok [Bm n n] 189 Tryz.f189 0 @Kq n
def Hc:BZ9:=Xa [⟨162,KM n⟩] []
def NU:LZ9:=mkU (Hc n).ok nT 6 Tryz.f288 [Qmm,QkL,(17,.l 2),(18,tI),QmN] [] 198 [.f .ret [(6,.ci .i64 4)] [] [],xE 1 [(20,.b)]] @Yx n
def MO:EZ9 288:=mkD (Hc n).ok [NU n n] 288 Tryz.f288 0 @VO n
def PU (n:Nat):BZ9:=Xa [] []
def Ef:LZ9:=mkU (PU n).ok nT 3 Tryz.f293 [Ql1,(20,.l 2),(21,tI),(22,tI)] [] 68 [xE 0 [(23,.b)]] @Wc n
def Dd:EZ9 293:=mkD (PU n).ok [Ef n n] 293 Tryz.f293 0 @Jl n
def Bv:EZ9 294:=mkD (Xa [] []).ok nT 294 Tryz.f294 0 @Hz n
def Bo:EZ9 295:=mkD (Xa [] []).ok nT 295 Tryz.f295 0 @He n
def Jv:BZ9:=Xa [⟨293,Dd n⟩,⟨294,Bv n⟩,⟨295,Bo n⟩] []
def Mx:LZ9:=mkU (Jv n).ok nT 5 Tryz.f289 [Qmm,QkL,Qm1,Ql1,(8,.arr 20),Qlc,QlU] [Qmh,(20,.arr 3 1)] 147730 [xE 0 [(29,.b)]] @Yi n
def MP:LZ9:=mkU (Jv n).ok nT 12 Tryz.f289 [Qmm,QkL,Qm1,(8,.arr 20),Qln] [Qmh,(20,.arr 3 1)] 16411 [xE 2 [(68,.b)]] @YQ n
def LJ:EZ9 289:=mkW (Jv n).ok [Mx n n,MP n n] 289 Tryz.f289 [sL 2,sI,eA [qT,qI,qI,qI,qI]] [eR 20 3 1] [] 0 0 @Jo n
def LR (n:Nat):BZ9:=Xa [] []
def Q1i:LZ9:=mkU (LR n).ok nT 3 Tryz.f290 [Qmn,Qlh,QkY] [] 25 [xE 0 [(7,.b)]] @V1 n
def Q31:EZ9 290:=mkD (LR n).ok [Q1i n n] 290 Tryz.f290 0 @Pw n
def TF:BZ9:=Xa [⟨288,MO n⟩,⟨289,LJ n⟩,⟨290,Q31 n⟩] []
def F3:LZ9:=mkU (TF n).ok nT 6 Tryz.f281 [(9,.arr 50022),(23,.arr 50022),(24,tI),(25,tI)] [(50022,.arr 3 1)] 25 [xE 0 [(26,.b)]] @Zn n
def EA:EZ9 281:=mkD (TF n).ok [F3 n n] 281 Tryz.f281 0 @JV n
def PC:BZ9:=Xa [⟨281,EA n⟩,⟨145,Tj n⟩] []
def FG:LZ9:=mkU (PC n).ok nT 6 Tryz.f268 [(8,.l 1),(10,.arr 26),Qld] [(26,.arr 3 1)] 25 [xE 0 [(30,.b)]] @Wf n
def DG:EZ9 268:=mkD (PC n).ok [FG n n] 268 Tryz.f268 0 @J5 n
def Fl:EZ9 239:=mkD (Xa [⟨145,Tj n⟩] []).ok nT 239 Tryz.f239 0 @Jr n
def BL:EZ9 240:=mkD (Xa [⟨146,Re n⟩] []).ok nT 240 Tryz.f240 0 @UY n
def MN:EZ9 241:=mkW (Xa [] []).ok nT 241 Tryz.f241 [eA [qL 1,qL 1,qL 5,qL 6]] [eR 10 170 3] [] 0 0 @VJ n
def Ss:EZ9 242:=Q7E (mkW (Xa [] []).ok nT 242 Tryz.f242 [eR 1000000 170 3,sI,sI,sI] [eT 0] [(1,eK 1000000 170 3)] 0 0 @Xj n)
def Ai:EZ9 283:=mkD (Xa [] []).ok nT 283 Tryz.f283 0 @N7 n
def Gz (n:Nat):BZ9:=Xa [] [(2,⟨[],[],[(3,1003,170,3)],[],[]⟩)]
def Rn:LZ9:=mkU (Gz n).ok nT 3 Tryz.f244 [QlY,(6,.l 3),Ql1,QkM] [(1003,.arr 170 3)] 76 [xE 0 [(9,.b)]] @XL n
def N0:EZ9 244:=mkW (Gz n).ok [Rn n n] 244 Tryz.f244 [sL 3] [eR 1003 170 3] [] 0 0 @V4 n
def Jh:EZ9 192:=mkW (Xa [] []).ok nT 192 Tryz.f192 (pT 1000000 235 Qn2 [sI,sI]) [sI] [] 520191 1048574 @XE n
def HC:EZ9 191:=mkW (Xa [] []).ok nT 191 Tryz.f191 (pT 1000000 235 Qn2 [sI,sI,sI,sI,sI]) [eT 0] [] 475135 491519 @XW n
def TW:EZ9 193:=mkW (Xa [⟨192,Jh n⟩] []).ok nT 193 Tryz.f193 (pT 1000000 235 Qn2 [sI]) [sI] [] 520063 1048574 @ZH n
def Y5:BZ9:=Xa [⟨192,Jh n⟩,⟨191,HC n⟩,⟨193,TW n⟩] []
def Kp:LZ9:=mkU (Y5 n).ok nT 4 Tryz.f135 [QkK,Qlj,(13,.l 4),Qlq,Qlk,(26,.l 4),(27,tI),(28,tI)] QnD 282429553573 [xE 2 [(29,.b)]] @Xb n
def Kw:LZ9:=mkU (Y5 n).ok [Kp n n] 1 Tryz.f135 [QkK,(13,.l 4),Qlq,Qlk] QnD 3486784612 [xE 0 [(16,.b)]] @Qy n
def KH:LZ9:=mkU (Y5 n).ok nT 10 Tryz.f135 [QkK,(56,.l 4),(57,tI),(58,tI)] QnD 3491567581 [xE 4 [(59,.b)]] @X9 n
def KR:EZ9 135:=mkW (Y5 n).ok [Kw n n,KH n n] 135 Tryz.f135 (pT 1000000 235 Qn2 []) [eT 0] [] 470399 491519 @Yr n
def Ri (n:Nat):BZ9:=Xa [] []
def Dj:LZ9:=mkU (Ri n).ok nT 3 Tryz.f234 [Qlh,(6,.l 3),Ql1,QkM] [] 68 [.f .ret [(2,.cb false)] [] [],xE 0 [(9,.b)]] @WL n
def Rx:EZ9 234:=mkD (Ri n).ok [Dj n n] 234 Tryz.f234 0 @VU n
def Rb:BZ9:=Xa [⟨234,Rx n⟩] []
def Dv:LZ9:=mkU (Rb n).ok nT 4 Tryz.f194 [Qmn,(18,.l 3),QmN,(20,tI)] [] 67 [.f .ret [(4,.cb false)] [] [],xE 0 [(21,.b)]] @WP n
def Bj:EZ9 194:=mkD (Rb n).ok [Dv n n] 194 Tryz.f194 0 @Hl n
def Vr:EZ9 196:=mkW (Xa [] []).ok nT 196 Tryz.f196 (eA [qI,qI,qI]::eA [qI,qI,qI]::pT 1000000 273 [] (eP 1000001 1::sB::eP 1000002 1::pT 1000003 235 [(12,eR 1000004 3 1),(17,eR 1000005 104 3),(18,eR 1000006 67 6)] [])) [eT 0] [] 1073707209 16777199 @XV n
def WB:BZ9:=Xa [⟨196,Vr n⟩] []
def To:LZ9:=mkU (WB n).ok nT 5 Tryz.f195 [QkK,Qn8,Qmg,Qm2,(17,.l 3),(18,tI),QmN,(30,.l 3),(31,tI),(32,tI)] [Qn9,(7,.box [.x,.x,.x]),QmX,QmZ,Qn0,QnF,(1000004,bT 273 []),(1000005,.box [.b]),(1000006,.box Qn7)] 366898000880223711 [xE 2 [(33,.b)]] @QH n
def Tk:LZ9:=mkU (WB n).ok [To n n] 2 Tryz.f195 [QkK,Qn8,Qmg,(17,.l 3),(18,tI),QmN] [Qn9,QmX,QmZ,Qn0,QnF,(1000004,bT 273 []),(1000005,.box [.b]),(1000006,.box Qn7)] 503320819852066 [xE 0 [(20,.b)]] @Xe n
def Pa:EZ9 195:=mkW (WB n).ok [Tk n n] 195 Tryz.f195 (pT 1000000 235 Qnb (eA [qI,qI,qI,qI]::eF 196 3::pT 1000004 273 [] [eP 1000005 1,sB,eP 1000006 1,eS 1000000])) [eT 0] [] 29876207 8388607 @ZD n
def Wr:BZ9:=Xa [⟨194,Bj n⟩,⟨195,Pa n⟩] [(5,⟨[],[],[],[],[98015]⟩),(7,⟨[],[],[],[],[98015]⟩)]
def Ta:LZ9:=mkU (Wr n).ok nT 2 Tryz.f136 [QlX,(11,.l 1),Qlf,Qln] [(1,.box Qn7),QmX,QmY,QmZ,Qn0,QnE] 177169 [.f .ret [(2,.cb false)] [(98012,.arr 3 1),(98017,.arr 104 3),(98018,.arr 67 6),(1000000,bT 235 Qn6)] [4,6,7,8,9,10,11,12,13,14,15,16,17,18,19,20,21,5,22],xE 0 [(14,.b)]] @Xs n
def Tf:LZ9:=mkU (Wr n).ok nT 8 Tryz.f136 [QlX,(29,.l 4),(30,tI),(31,tI)] [(1,.box Qn7),QmX,QmZ,Qn0,QnF] 387479560 [.f .ret [(2,.cb false)] [(98012,.arr 3 1),(98017,.arr 104 3),(98018,.arr 67 6),(1000000,bT 235 Qn6)] [4,5,6,7,8,9,10,11,12,13,14,15,16,17,18,19,20,21,22],xE 2 [(32,.b)]] @X6 n
def Tl:EZ9 136:=mkW (Wr n).ok [Ta n n,Tf n n] 136 Tryz.f136 (pT 1000000 235 Qn2 []) [sB] [(17,sL 4)] 483311 1048574 @Zo n
def Jg:EZ9 192:=mkW (Xa [] []).ok nT 192 Tryz.f192 (pT 1000000 235 Qnb [sI,sI]) [sI] [] 520191 1048574 @QY n
def R7:EZ9 198:=mkD (Xa [] []).ok nT 198 Tryz.f198 0 @Yc n
def Dg:EZ9 199:=mkD (Xa [] []).ok nT 199 Tryz.f199 0 @Ug n
def JK:EZ9 197:=mkW (Xa [] []).ok nT 197 Tryz.f197 (pT 1000000 235 Qnb [sI,sI,sI,sI,sI,sI]) [eT 0] [] 262143 262143 @X8 n
def P0:EZ9 193:=mkW (Xa [⟨192,Jg n⟩] []).ok nT 193 Tryz.f193 (pT 1000000 235 Qnb [sI]) [sI] [] 520063 1048574 @UU n
def QX:BZ9:=Xa [⟨192,Jg n⟩,⟨198,R7 n⟩,⟨199,Dg n⟩,⟨197,JK n⟩,⟨193,P0 n⟩] []
def Gp:LZ9:=mkU (QX n).ok nT 4 Tryz.f137 [QkK,Qlj,Qlx,(20,.l 4),(21,tI),(22,tI),(28,.l 4),(29,tI),(30,tI)] [(3,.box Qma),QmX,QmZ,Qn0,QnF] 7625600931295 [xE 2 [(31,.b)]] @Qr n
def Gs:LZ9:=mkU (QX n).ok [Gp n n] 1 Tryz.f137 [QkK,(20,.l 4),(21,tI),(22,tI)] QnG 1162262002 [xE 0 [(23,.b)]] @QD n
def Gr:LZ9:=mkU (QX n).ok nT 14 Tryz.f137 [QkK,(84,.l 7),(85,tI),(86,tI)] QnG 535 [xE 4 [(87,.b)]] @QF n
def Gu:LZ9:=mkU (QX n).ok nT 20 Tryz.f137 [QkK,(119,.l 4),(120,tI),(121,tI)] QnG 1594858 [xE 6 [(122,.b)]] @QE n
def Gw:LZ9:=mkU (QX n).ok nT 25 Tryz.f137 [QkK,(146,.l 5),(147,tI),(148,tI)] QnG 535 [xE 8 [(149,.b)]] @QG n
def GS:EZ9 137:=mkW (QX n).ok [Gs n n,Gr n n,Gu n n,Gw n n] 137 Tryz.f137 (pT 1000000 235 Qnb []) [eT 0] [] 239743 262143 @Ye n
def WZ:EZ9 235:=mkW (Xa [] []).ok nT 235 Tryz.f235 [eA [qI,qI,qI],eA [qI,qI,qI],eP 1000000 1,eM 1000001 277] [eT 0] [(2,eH 1000001)] 62 0 @Xn n
def WD:BZ9:=Xa [⟨235,WZ n⟩] []
def Tm:LZ9:=mkU (WD n).ok nT 5 Tryz.f195 [QkK,(2,.fn 235 [.ptr 1000004 0]),Qmg,Qm2,(17,.l 3),(18,tI),QmN,(30,.l 3),(31,tI),(32,tI)] [Qn9,(7,.box [.x,.x,.x]),QmX,QmZ,Qn0,QnF,(1000004,.box [.arr 1000005]),(1000005,.mp 277)] 3706040378478474 [xE 2 [(33,.b)]] @QW n
def Tp:LZ9:=mkU (WD n).ok [Tm n n] 2 Tryz.f195 [QkK,(2,.fn 235 [.ptr 1000004 0]),Qmg,(17,.l 3),(18,tI),QmN] [Qn9,QmX,QmZ,Qn0,QnF,(1000004,.box [.arr 1000005]),(1000005,.mp 277)] 5115112716613 [xE 0 [(20,.b)]] @Xf n
def TY:EZ9 195:=mkW (WD n).ok [Tp n n] 195 Tryz.f195 (pT 1000000 235 Qnb [eA [qI,qI,qI,qI],eF 235 1,eP 1000004 1,eM 1000005 277]) [eT 0] [(22,eH 1000005)] 4710399 524287 @ZE n
def Wk:BZ9:=Xa [⟨195,TY n⟩] []
def JC:LZ9:=mkU (Wk n).ok nT 3 Tryz.f200 [QkK,QkL,Qlj,Qm2,(14,.l 4),Qlk,QkN] [(7,.box [.arr 10]),(10,.mp 277),QmX,QmZ,Qn0,QnF] 10460353891 [xE 0 [(17,.b)]] @Qt n
def JN:EZ9 200:=mkW (Wk n).ok [JC n n] 200 Tryz.f200 (pT 1000000 235 Qnb [sI,sI]) [eM 10 277] [] 483327 1048574 @XO n
def KB (n:Nat):BZ9:=Xa [] [(2,⟨[],[],[(5,1005,170,3)],[],[]⟩)]
def RQ:LZ9:=mkU (KB n).ok nT 3 Tryz.f202 [(1,.arr 1000000),Qmy,(8,.l 3),Qlc,QlU] [(1005,.arr 170 3),(1000000,.mp 277)] 157 [xE 0 [(11,.b)]] @XQ n
def NV:EZ9 202:=Q7E (mkW (KB n).ok [RQ n n] 202 Tryz.f202 [sL 3,eM 1000000 277] [eR 1005 170 3] [] 0 0 @U1 n)
def Ka:EZ9 275:=mkD (Xa [] []).ok nT 275 Tryz.f275 0 @Ux n
def Rp:EZ9 276:=mkW (Xa [] [(2,⟨[],[],[(8,96001,312,2)],[],[]⟩)]).ok nT 276 Tryz.f276 [eN,sI,sI,sI] [eR 96001 312 2] [] 0 0 @VZ n
def Ar:EZ9 264:=mkW (Xa [⟨275,Ka n⟩,⟨40,MT n⟩,⟨276,Rp n⟩] [(2,⟨[],[],[(6,50016,312,2)],[],[]⟩)]).ok nT 264 Tryz.f264 [sI,sI,sI] [eT 2,eR 50016 312 2,sI] [] 0 0 @Tw n
def R1:BZ9:=Xa [⟨275,Ka n⟩] []
def Da:LZ9:=mkU (R1 n).ok nT 5 Tryz.f266 [Qmn,QkZ,(11,.l 2),Qlf,Qln] [] 205 [.f .ret [(4,.cb false)] [] [],xE 0 [(14,.b)]] @WO n
def Nl:EZ9 266:=mkD (R1 n).ok [Da n n] 266 Tryz.f266 0 @JZ n
def SZ:BZ9:=Xa [⟨275,Ka n⟩,⟨266,Nl n⟩] []
def Dz:LZ9:=mkU (SZ n).ok nT 4 Tryz.f277 [Qmn,(10,.l 1),Qld,Qlf] [] 67 [.f .ret [(4,.ci .i64 1)] [] [],xE 0 [(13,.b)]] @WH n
def BA:EZ9 277:=mkD (SZ n).ok [Dz n n] 277 Tryz.f277 0 @Hq n
def Wb:EZ9 287:=mkW (Xa [] [(6,⟨[],[],[(4,96001,312,2)],[],[]⟩)]).ok nT 287 Tryz.f287 [eN,sI] [eR 96001 312 2] [] 0 0 @QC n
def X0:BZ9:=Xa [⟨287,Wb n⟩] []
def ZX:LZ9:=mkU (X0 n).ok nT 3 Tryz.f279 [QlW,Qlh,(9,.l 1),QlU,Qld] [] 204 [xE 0 [(12,.b)]] @Qf n
def ZY:LZ9:=mkU (X0 n).ok nT 11 Tryz.f279 [(6,.arr 50024),(25,.l 1),(26,tI),(27,tI)] [(50024,.arr 312 2)] 76 [xE 2 [(28,.b)]] @Qg n
def Ws:EZ9 279:=mkW (X0 n).ok [ZX n n,ZY n n] 279 Tryz.f279 [sL 1] [eR 50024 312 2] [] 0 0 @QI n
def PE:EZ9 120:=mkD (Xa [⟨176,RJ n⟩] []).ok nT 120 Tryz.f120 0 @VD n
def Tn:EZ9 286:=mkD (Xa [⟨120,PE n⟩] []).ok nT 286 Tryz.f286 0 @Uy n
def X3:BZ9:=Xa [⟨286,Tn n⟩] []
def Wo:LZ9:=mkU (X3 n).ok nT 4 Tryz.f298 [QmQ,QkL,Qlj,(3,.fn 286 []),QkM,Qlc] Qnd 217 [xE 2 [(34,.b)]] @Qh n
def Wi:LZ9:=mkU (X3 n).ok [Wo n n] 1 Tryz.f298 [QmQ,QkL,Qlj,(3,.fn 286 []),QkM] Qnd 76 [xE 0 [(14,.b)]] @Q7 n
def Wz:EZ9 298:=Q7E (mkW (X3 n).ok [Wi n n] 298 Tryz.f298 [eR 1000000 312 2,sI,sI,eF 286 0] [eT 0] [(1,eK 1000000 312 2)] 0 0 @Xh n)
def Yj:BZ9:=Xa [⟨298,Wz n⟩] []
def UB:LZ9:=mkU (Yj n).ok nT 2 Tryz.f292 [QmQ,QkL,Qlj,Qlh,(4,.fn 286 []),(10,.cb true),(11,.cb true)] Qnd 40 [.f .ret [] [(1000000,.arr 312 2)] [0]] @Xv n
def UM:EZ9 292:=Q7E (mkW (Yj n).ok [UB n n] 292 Tryz.f292 [eR 1000000 312 2,sI,sI,sI,eF 286 0] [eT 0] [(1,eK 1000000 312 2)] 0 0 @XG n)
def Zb:EZ9 285:=Q7E (mkW (Xa [⟨132,HP n⟩,⟨292,UM n⟩] []).ok nT 285 Tryz.f285 [eR 1000000 312 2,eF 286 0] [eT 0] [(1,eK 1000000 312 2)] 0 0 @Qu n)
def T6:BZ9:=Xa [⟨285,Zb n⟩] [(3,⟨[],[],[(3,1003,312,2)],[],[]⟩)]
def Mq:LZ9:=mkU (T6 n).ok nT 4 Tryz.f278 [QlY,(9,.arr 1000000),QlU,Qld] [(1003,.arr 312 2),Qne] 52 [xE 0 [(12,.b)]] @X4 n
def Fa:EZ9 278:=Q7E (mkW (T6 n).ok [Mq n n] 278 Tryz.f278 [eR 1000000 312 2] [eR 1003 312 2] [(1,eK 1000000 312 2)] 0 0 @KW n)
def CZ:EZ9 265:=mkW (Xa [⟨277,BA n⟩,⟨279,Ws n⟩,⟨278,Fa n⟩] [(3,⟨[],[],[(6,50021,312,2)],[],[]⟩)]).ok nT 265 Tryz.f265 [sI,sL 2,sL 2] [eT 2,eR 50021 312 2,sI] [] 0 0 @HA n
def JQ:EZ9 263:=mkW (Xa [⟨264,Ar n⟩,⟨265,CZ n⟩] []).ok nT 263 Tryz.f263 [eA [qI,qI,qI],eA [qI,qI,qI],eP 1000000 1,sI,eP 1000001 1,eR 1000002 312 2] [eT 0] [] 9 1 @YS n
def H7:BZ9:=Xa [⟨263,JQ n⟩] []
def NT:LZ9:=mkU (H7 n).ok nT 0 Tryz.f262 [(0,.l 3),(1,.l 3),(2,.fn 263 [.ptr 1000000 0,.ptr 1000001 0])] [(98040,.arr 312 2),(1000000,.box [tI]),(1000001,.box [.arr 98040])] 53 [xE 0 [(15,.b)]] @Qp n
def Mo:EZ9 262:=mkW (H7 n).ok [NT n n] 262 Tryz.f262 [sL 3,sL 3,eF 263 2,eP 1000000 1,sI,eP 1000001 1,eR 1000002 312 2] [eT 0] [] 0 1 @K6 n
def Mz:EZ9 236:=mkW (Xa [⟨234,Rx n⟩,⟨262,Mo n⟩] [(3,⟨[],[],[(6,50024,312,2)],[],[]⟩),(6,⟨[],[],[(6,50024,312,2)],[],[]⟩),(7,⟨[],[],[],[(8,0,2320,312,2)],[]⟩)]).ok nT 236 Tryz.f236 [sI,sL 3,sL 3] [eT 2,eR 50024 312 2,sI] [] 0 0 @VR n
def DI:EZ9 280:=mkD (Xa [] []).ok nT 280 Tryz.f280 0 @P8 n
def Ra:BZ9:=Xa [⟨280,DI n⟩] []
def Df:LZ9:=mkU (Ra n).ok nT 3 Tryz.f267 [Qlh,(6,.l 2),Ql1,QkM] [] 68 [xE 0 [(9,.b)]] @Zv n
def BF:EZ9 267:=mkD (Ra n).ok [Df n n] 267 Tryz.f267 0 @Sm n
def CO:EZ9 237:=mkD (Xa [⟨266,Nl n⟩,⟨267,BF n⟩] []).ok nT 237 Tryz.f237 0 @HG n
def Gj:BZ9:=Xa [⟨236,Mz n⟩,⟨237,CO n⟩] [(8,⟨[],[],[],[],[50018]⟩),(11,⟨[],[],[(11,1011,112,2)],[],[]⟩)]
def LO:LZ9:=mkU (Gj n).ok nT 12 Tryz.f201 [Qmn,(11,.arr 1011),(65,.l 2),(66,tI),(67,tI)] [(1011,.arr 112 2)] 229 [xE 0 [(68,.b)]] @Zd n
def Lb:LZ9:=mkU (Gj n).ok nT 12 Tryz.f201 [Qmn,(11,.arr 1011),(65,.arr 50018),(66,tI),(67,tI)] [(1011,.arr 112 2),(50018,.arr 312 2)] 157 [xE 0 [(68,.b)]] @Yu n
def E7:EZ9 201:=mkD (Gj n).ok [orL (Lb n n) (LO n n)] 201 Tryz.f201 0 @Wn n
def XM:BZ9:=Xa [⟨200,JN n⟩,⟨202,NV n⟩,⟨201,E7 n⟩,⟨198,R7 n⟩,⟨197,JK n⟩] []
def Gl:LZ9:=mkU (XM n).ok nT 12 Tryz.f138 [QkK,Qlh,QkY,Qlq,Qlk,(63,.l 2),(64,tI),(65,tI)] QnG 41152 [xE 4 [(66,.b)]] @Qz n
def Gb:LZ9:=mkU (XM n).ok [Gl n n] 5 Tryz.f138 [QkK,Qlh,QkY,Qlq,Qlk] QnG 11622793282 [.f .ret [(2,tI)] [(98012,.arr 3 1),(98017,.arr 104 3),(98018,.arr 67 6),(1000000,bT 235 Qn6)] [0,5,6,0,8,9,10,11,12,13,14,15,16,17,18,19,20,21,22,23],xE 2 [(26,.b)]] @QQ n
def G7:LZ9:=mkU (XM n).ok [Gb n n] 2 Tryz.f138 [QkK,Qlq,Qlk] QnG 1291421482 [.f .ret [(2,tI)] [(98012,.arr 3 1),(98017,.arr 104 3),(98018,.arr 67 6),(1000000,bT 235 Qn6)] [0,3,4,0,6,7,8,9,10,11,12,13,14,15,16,17,18,19,20,21],xE 0 [(16,.b)]] @Qq n
def Gv:EZ9 138:=mkW (XM n).ok [G7 n n] 138 Tryz.f138 (pT 1000000 235 Qnb []) [sI] [] 221167 524286 @Y7 n
def FW:EZ9 203:=mkD (Xa [] []).ok nT 203 Tryz.f203 0 @JT n
def Rg:BZ9:=Xa [⟨203,FW n⟩] []
def DF:LZ9:=mkU (Rg n).ok nT 4 Tryz.f139 [QlX,(26,.l 6),(27,tI),(28,tI)] [(1,.box QmS)] 373 [.f .ret [(2,.cb false)] [] [],xE 0 [(29,.b)]] @WN n
def CH:EZ9 139:=mkD (Rg n).ok [DF n n] 139 Tryz.f139 0 @HJ n
def Nn:BZ9:=Xa [⟨139,CH n⟩] []
def B3:LZ9:=mkU (Nn n).ok nT 4 Tryz.f82 [Qlw,(18,.l 1),QmN,(20,tI)] [(2,.box QmS)] 49 [.f .ret [(4,.cb false)] [] [],xE 0 [(21,.b)]] @UK n
def A4:EZ9 82:=mkD (Nn n).ok [B3 n n] 82 Tryz.f82 0 @JG n
def JO (n:Nat):BZ9:=Xa [] []
def Ff:LZ9:=mkU (JO n).ok nT 3 Tryz.f83 [QlX,(3,.arr 10),Qlf,Qln] [Qm7,(10,.arr 3 1)] 118105 [xE 0 [(14,.b)]] @Gc n
def LP:LZ9:=mkU (JO n).ok nT 8 Tryz.f83 [(3,.arr 10),(21,.l 4),(22,tI),(23,tI)] [(10,.arr 3 1)] 76 [xE 2 [(24,.b)]] @JX n
def PF:EZ9 83:=mkD (JO n).ok [Ff n n,LP n n] 83 Tryz.f83 215 @Z7 n
def ZS (n:Nat):BZ9:=Xa [] [(1,⟨[],[],[],[(8,0,1080,3,1)],[]⟩)]
def Ja:LZ9:=mkU (ZS n).ok nT 2 Tryz.f117 [(2,.ptr 1000000 0),(3,.ptr 1000002 0),(4,.ptr 1000003 0),(5,.ptr 1000004 0),Qm5,Qlc] [(8,.box [.arr 1080,.b]),(1080,.arr 3 1),(98000,.arr 4 1),(98160,.arr 125 2),(1000000,.box [.arr 98000]),(1000002,.box [.l 1]),(1000003,bT 36 []),(1000004,.box [.arr 98160])] 177464 [xE 0 [(17,.b)]] @Xx n
def Jt:EZ9 117:=mkW (ZS n).ok [Ja n n] 117 Tryz.f117 (sI::sB::eP 1000000 1::eR 1000001 4 1::eP 1000002 1::sL 1::pT 1000003 36 [] [eP 1000004 1,eR 1000005 125 2]) [eT 0] [] 3568 1022 @Yv n
def Gt:EZ9 119:=mkD (Xa [⟨120,PE n⟩] []).ok nT 119 Tryz.f119 0 @UR n
def QR:BZ9:=Xa [⟨119,Gt n⟩] []
def Zy:LZ9:=mkU (QR n).ok nT 4 Tryz.f221 [QmQ,QkL,Qlj,(3,.fn 119 []),QkM,Qlc] Qnf 217 [xE 2 [(34,.b)]] @QS n
def Zw:LZ9:=mkU (QR n).ok [Zy n n] 1 Tryz.f221 [QmQ,QkL,Qlj,(3,.fn 119 []),QkM] Qnf 76 [xE 0 [(14,.b)]] @QT n
def ZB:EZ9 221:=Q7E (mkW (QR n).ok [Zw n n] 221 Tryz.f221 [eR 1000000 125 2,sI,sI,eF 119 0] [eT 0] [(1,eK 1000000 125 2)] 0 0 @XN n)
def XX:BZ9:=Xa [⟨221,ZB n⟩] []
def WC:LZ9:=mkU (XX n).ok nT 2 Tryz.f175 [QmQ,QkL,Qlj,Qlh,(4,.fn 119 []),(10,.cb true),(11,.cb true)] Qnf 40 [.f .ret [] [(1000000,.arr 125 2)] [0]] @XY n
def U4:EZ9 175:=Q7E (mkW (XX n).ok [WC n n] 175 Tryz.f175 [eR 1000000 125 2,sI,sI,sI,eF 119 0] [eT 0] [(1,eK 1000000 125 2)] 0 0 @Yh n)
def Yo:EZ9 118:=Q7E (mkW (Xa [⟨132,HP n⟩,⟨175,U4 n⟩] []).ok nT 118 Tryz.f118 [eR 1000000 125 2,eF 119 0] [eT 0] [(1,eK 1000000 125 2)] 0 0 @Xk n)
def Wx:BZ9:=Xa [⟨83,PF n⟩,⟨117,Jt n⟩,⟨118,Yo n⟩] [(11,⟨[],[],[],[(7,0,1070,125,2)],[]⟩),(14,⟨[],[],[],[(7,0,2280,125,2)],[]⟩)]
def Rm:LZ9:=mkU (Wx n).ok nT 4 Tryz.f74 [QlX,Qlx,(4,.arr 17),(19,.l 4),(20,tI),(21,tI)] [Qm7,(3,.box [.l 1]),(17,.arr 4 1)] 1062904 [xE 0 [(22,.b)]] @Vl n
def Rl:LZ9:=mkU (Wx n).ok nT 12 Tryz.f74 [QlX,(4,.arr 17),Qm2,Qm5,Qnh,(37,tI),(38,tI)] [Qm7,(3,.box [.l 1]),(7,.box [.arr 1070]),(8,.box [.arr 33]),(17,.arr 4 1),(33,.arr 4 1),(1070,.arr 125 2)] 4489918 [xE 2 [(39,.b)]] @Ww n
def Rq:LZ9:=mkU (Wx n).ok nT 18 Tryz.f74 [Qm2,Qm5,Qnh,(52,tI),(53,tI)] [Qm7,(3,.box [.l 1]),(7,.box [.arr 1070]),(8,.box [.arr 33]),(33,.arr 4 1),(1070,.arr 125 2)] 1478419 [xE 4 [(54,.b)]] @Wv n
def RZ:EZ9 74:=mkD (Wx n).ok [Rm n n,Rl n n,Rq n n] 74 Tryz.f74 215 @XB n
def UN:EZ9 205:=mkW (Xa [⟨40,MT n⟩] []).ok nT 205 Tryz.f205 (pT 1000000 188 Qni [sI]) [sI] [] 2043903 4194302 @Xl n
def Vs:EZ9 144:=mkW (Xa [⟨205,UN n⟩] []).ok nT 144 Tryz.f144 (pT 1000000 188 Qni [sI,sI]) [eT 2,sI,sB] [] 1126015 8388604 @QZ n
def J7:EZ9 143:=mkW (Xa [⟨205,UN n⟩] []).ok nT 143 Tryz.f143 (pT 1000000 188 Qni [sI,sI]) [sI] [] 1781759 4194302 @Xi n
def Wl:BZ9:=Xa [⟨144,Vs n⟩,⟨143,J7 n⟩] []
def HX:LZ9:=mkU (Wl n).ok nT 8 Tryz.f140 [QkK,QkZ,Ql1,(15,.l 1),QkN,(17,tI),(30,tI),(31,tI)] [Qnl,Qnm,QnH] 10554668572604 [xE 2 [(32,.b)]] @Xu n
def HY:LZ9:=mkU (Wl n).ok [HX n n] 5 Tryz.f140 [QkK,QkZ,(15,.l 1),QkN,(17,tI)] [Qnl,Qnm,QnH] 390913650842 [xE 0 [(18,.b)]] @X2 n
def Tq:EZ9 140:=mkW (Wl n).ok [HY n n] 140 Tryz.f140 (pT 1000000 188 Qni [eA [qL 1,qB]]) [sI] [] 1126015 4194302 @Zq n
def Vk:EZ9 141:=mkW (Xa [] []).ok nT 141 Tryz.f141 (sI::sI::sI::eP 1000000 1::pT 1000001 188 [(18,eR 1000002 3 1),(20,eR 1000003 59 5)] [eP 1000004 1,sI,eP 1000005 1,sI]) [eT 0] [] 8388600 7340031 @Q9 n
end Go.Vx
namespace Go.Vx
section
variable {R:Type}
theorem Q3s (x:Int):0<=IntKind.wrap .u64 x:=by
 have:=Int.emod_nonneg x (show (18446744073709551616:Int)≠0 by decide);simpa [IntKind.wrap,IntKind.bits,IntKind.signed] using this
theorem Qbc {x:Int} (a:0<=x) (b:x<18446744073709551616):IntKind.wrap .u64 x=x:=by
 have:=Int.emod_eq_of_lt a b;simpa [IntKind.wrap,IntKind.bits,IntKind.signed] using this
def pick (v m:Int):Int:=(IntKind.wrap .u64 v).tmod m
theorem Em (v:Int) {m:Int} (h:0<m):0<=pick v m/\pick v m<m:=by
 unfold pick;rw [Int.tmod_eq_emod_of_nonneg (Q3s v)];exact ⟨Int.emod_nonneg _ QnI,Int.emod_lt_of_pos _ h⟩
theorem QhJ (n:Nat) (v:Int) {m:Int} (h:0<m) (hm:m<=9223372036854775807) (K:Int->oP R):F2 n v m K=K (pick v m):=by
 unfold F2;rw [Qbc (x:=m) QnI QnI,Ng QnI];simp -implicitDefEqProofs only [Q0];have:=Em v h;unfold pick at this ⊢;rw [Q0N QnI QnI]
theorem Q9a (n:Nat) {l:List Int} (hl:l.length<=9223372036854775807) {i:Nat} (hi:i<=l.length) {m:Int} (h:0<m) (hm:m<=9223372036854775807) :
  ∃ (v:Int) (j:Nat),0<=v/\v<m/\j<=l.length/\∀ (R:Type) (K:Int->Int->oP R),Q5 n (encI l) i m K=K v j:=by
 by_cases ac:i<l.length
 ·have hg:=List.getElem?_eq_getElem ac;refine ⟨pick l[i] m,i+1,(Em _ h).1,(Em _ h).2,QnI,fun R K=>?_⟩;unfold Q5;rw [Q8 (by simp [Ju];omega),Q0N (x:=(i:Int)+1) QnI QnI,Q0N QnI QnI];rw [show (i:Int)+1-1=(i:Int) by omega,Sw hg];simp -implicitDefEqProofs only [Q0,QoQ,Q2,QhJ n _ h hm];rfl
 ·refine ⟨0,i,QnI,h,hi,fun R K=>?_⟩;unfold Q5;rw [QP (by simp [Ju];omega)]
end
def OkP {R:Type} (P:R->Prop) (E:oP R):Prop:=∃ v,E=some v/\P v
instance {R:Type}:Membership (oP R) (R->Prop):=⟨fun P E=>OkP P E⟩
theorem okI {R:Type} {P:R->Prop} {v:R} (h:P v):some v∈P:=⟨v,rfl,h⟩
theorem okB {R S:Type} {P:S->Prop} {E:oP R} {z:R} {f:R->oP S} (h:E∈(fun v=>f v∈P:R->Prop)):gb true E z f∈P:=by
 obtain ⟨v,e,h⟩:=h;rw [e];exact h
theorem V9 {R:Type} {n:Nat} {l:List Int} (hl:l.length<=9223372036854775807) {i:Nat} (hi:i<=l.length) {m:Int} (h:0<m) (hm:m<=9223372036854775807) {z:Int×Int} {f:Int×Int->oP R} {P:R->Prop}
  (H:∀ (v:Int) (j:Nat),0<=v->v<m->j<=l.length->f (v,(j:Int))∈P) :
  gb true (Q5 n (encI l) (i:Int) m Tu2) z f∈P:=by
 obtain ⟨v,j,c,d,hj,e⟩:=Q9a n hl hi h hm;rw [e];exact H v j c d hj
structure Num (a b c:Int):Prop where
 a0:2<=a
 a1:a<=10
 b0:5000<=b
 b1:b<=35000
 c0 : -10<=c
 c1:c<=10
theorem Q6 {x:Int} (a : -9223372036854775808<=x) (b:x<=9223372036854775807):wJ x=x:=by
 simp only [IntKind.wrap_i64];omega
theorem Qez {R:Type} {n:Nat} {l:List Int} (hl:l.length<=9223372036854775807) {i:Nat} (hi:i<=l.length) {nm:List UInt8} {st:Int} {z:List UInt8×Int×Int×Int×Int×Int} {f:List UInt8×Int×Int×Int×Int×Int->oP R} {P:R->Prop}
  (H:∀ (a b c:Int) (j:Nat),Num a b c->j<=l.length->f (nm,a,b,c,st,(j:Int))∈P) :
  gb true (Wh n (encI l) (i:Int) nm st Tu6) z f∈P:=by
 obtain ⟨v,j,t,u,hj,e⟩:=Q9a n hl hi (show (0:Int)<9 by decide) QnJ;obtain ⟨d,y,g0,g1,p,e2⟩:=Q9a n hl hj (show (0:Int)<7 by decide) QnJ;obtain ⟨q,j3,k0,k1,r,s⟩:=Q9a n hl p (show (0:Int)<21 by decide) QnJ;unfold Wh;rw [e,Q0,e2,Q0,s,Q0,Q0];rw [Q6 (x:=2+v) QnI QnI,Q6 (x:=5000*d) QnI QnI,Q6 (x:=5000+5000*d) QnI QnI,Q6 (x:=q-10) QnI QnI];exact H _ _ _ _ ⟨QnI,QnI,QnI,QnI,QnI,QnI⟩ r
theorem two {v:Int} (a:0<=v) (b:v<2):v=0\/v=1:=QnI
theorem Cs {R:Type} (n:Nat) (a:List UInt8) (d:Nat) (hd:d<10) (ha:a.length<=100) (K:List UInt8->oP R):Vc n a (d:Int) K=K (a++[UInt8.ofNat (48+d)]):=by
 have:∀ d:Fin 10,∃ q,slB (List.length (bs [48,49,50,51,52,53,54,55,56,57])) (some (Int.tmod (d.val:Int) (10:Int))) (some (wJ ((Int.tmod (d.val:Int) (10:Int))+(1:Int))))=some q/\cut (bs [48,49,50,51,52,53,54,55,56,57]) q=[UInt8.ofNat (48+d.val)]:=by
  intro d
  match d with
  |0=>exact ⟨_,rfl,rfl⟩
  |1=>exact ⟨_,rfl,rfl⟩
  |2=>exact ⟨_,rfl,rfl⟩
  |3=>exact ⟨_,rfl,rfl⟩
  |4=>exact ⟨_,rfl,rfl⟩
  |5=>exact ⟨_,rfl,rfl⟩
  |6=>exact ⟨_,rfl,rfl⟩
  |7=>exact ⟨_,rfl,rfl⟩
  |8=>exact ⟨_,rfl,rfl⟩
  |9=>exact ⟨_,rfl,rfl⟩
 obtain ⟨q,b,h2⟩:=this ⟨d,hd⟩;unfold Vc;simp only at b h2;rw [b];have hz:nz (10:Int)=some ():=rfl;rw [hz,Q0,Q0,Q0,h2];have hs:Q8U (a.length+([UInt8.ofNat (48+d)]:List UInt8).length)=some ():=by
  unfold Q8U;rw [show Nat.ble (a.length+([UInt8.ofNat (48+d)]:List UInt8).length) 9223372036854775807=true from Nat.ble_eq_true_of_le QnL];rfl
 rw [hs,Q0]
theorem XF {k:Nat} (h:k<=100000):Y9 k=some ():=by
 unfold Y9;rw [show Nat.ble k 140737488355328=true from Nat.ble_eq_true_of_le QnI];rfl
theorem QiB {R:Type} {n:Nat} {e:LL} {s:List UInt8} {a b c d:Int} {z:Int×LL} {f:Int×LL->oP R} {P:R->Prop} (k:Nat) (hk:e.length=k) (h:k<=1000)
  (H:f ((k:Int),e++[[D.str s,D.int .i64 a,D.int .i64 b,D.int .i64 c,D.int .i64 d]])∈P) :
  gb true (YW n e s a b c d Tu2) z f∈P:=by
 unfold YW;rw [XF QnL,Q0,Q0];have hl:(e++[[D.str s,D.int .i64 a,D.int .i64 b,D.int .i64 c,D.int .i64 d]]).length=k+1:=by simp [hk]
 rw [hl,Q6 (x:=((k+1:Nat):Int)-1) QnI QnI,show ((k+1:Nat):Int)-1=(k:Int) by omega];exact H
theorem Qjb {R:Type} {n:Nat} {e:LL} {s:List UInt8} {a b c d:Int} {z:Int×LL} {f:Int×LL->oP R} {P:R->Prop} (k:Nat) (hk:e.length=k) (h:k<=1000) (hn:Num a b c)
  (H:f ((k:Int),e++[[D.str s,D.int .i64 (a+2),D.int .i64 b,D.int .i64 c,D.int .i64 d]])∈P) :
  gb true (YW n e s (wJ (a+2)) b c d Tu2) z f∈P:=by
 have j:=hn.a0;have l:=hn.a1;rw [Q6 (x:=a+2) QnI QnI];exact QiB k hk h H
def QiC (i k:Nat):List UInt8:=bs [84]++[UInt8.ofNat (48+i)]++[UInt8.ofNat (48+k)]
def nmL (i k:Nat):List UInt8:=bs [76]++[UInt8.ofNat (48+i)]++[UInt8.ofNat (48+k)]
abbrev Rv:=Int×Int×Int
def secT (i k:Nat) (x:Rv):List D:=[D.str (QiC i k),Q4 (x.1+2),Q4 x.2.1,Q4 x.2.2,Q4 i]
def secL (i k:Nat) (x:Rv):List D:=[D.str (nmL i k),Q4 x.1,Q4 x.2.1,Q4 x.2.2,Q4 (-1)]
def Yp (f:Nat->Rv->List D):Nat->List Rv->LL
 |k+1,x::y=>f (k+1) x::Yp f k y
 |_,_=>[]
def ups (k:Nat):Nat->List Nat
 |0=>[]
 |c+1=>k::ups (k+1) c
def ZF (l:List Nat):LL:=l.map fun k=>[Q4 (k:Nat)]
def Ko:List Rv->Prop
 |[]=>True
 |x::r=>Num x.1 x.2.1 x.2.2/\Ko r
section
variable {R:Type} {n:Nat} {l:List Int} (hl:l.length<=9223372036854775807) {P:R->Prop}
include hl
theorem Qhl {i c k j m:Nat} {tl S:LL} {k0:Int->Bool->LL->LL->Int->oP R}
  (hi:i<10) (hc:c+1<10) (hk:S.length=k) (e:k<=500) (ht:tl.length<=500) (hj:j<=l.length)
  (H:∀ (x:Rv) (j:Nat),Num x.1 x.2.1 x.2.2->j<=l.length->Jy n i (encI l) k0 m (c:Int) (tl++[[Q4 k]]) (S++[secT i (c+1) x]) (j:Int)∈P) :
  Jy n (i:Int) (encI l) k0 (m+1) ((c+1:Nat):Int) tl S (j:Int)∈P:=by
 unfold Jy;rw [QP QnK,Cs n _ i hi QnJ,Q0,Cs n _ (c+1) hc QnK,Q0];refine Qez hl hj fun a b d j hn hj=>?_
 dsimp only;refine Qjb k hk QnI hn ?_;dsimp only;rw [XF QnL,Q0,Q6 (x:=((c+1:Nat):Int)-1) QnI QnI,show ((c+1:Nat):Int)-1=(c:Int) by omega];exact H (a,b,d) j hn hj
theorem QdF {i c k j m:Nat} {S:LL} {k0:Int->Bool->LL->LL->Int->oP R}
  (hi:i<10) (hc:c=1\/c=2) (hk:S.length=k) (a:k<=400) (hj:j<=l.length)
  (H:∀ (x:List Rv) (j:Nat),Ko x->x.length=c->j<=l.length->k0 0 false (ZF (ups k c)) (S++Yp (secT i) c x) (j:Int)∈P) :
  Jy n (i:Int) (encI l) k0 (m+3) (c:Int) [] S (j:Int)∈P:=by
 rcases hc with rfl | rfl
 ·refine Qhl hl (c:=0) hi QnI hk QnI QnK hj fun x j hx hj=>?_
  exact H [x] j ⟨hx,trivial⟩ rfl hj
 ·refine Qhl hl (c:=1) hi QnI hk QnI QnK hj fun x j hx hj=>?_
  refine Qhl hl (c:=0) (k:=k+1) hi QnI (by simp [hk]) QnI QnK hj fun y j hy hj=>?_
  have:=H [x,y] j ⟨hx,hy,trivial⟩ rfl hj;simp only [Yp,ups,ZF,List.map_cons,List.map_nil] at this;show k0 0 false _ (S++[secT i 2 x]++[secT i 1 y]) (j:Int)∈P;rw [List.append_assoc S];exact this
end
def Q6m (a b:Int) (p q:Int):List D:=[Q4 a,Q4 1,Q4 b,Q4 0,Q4 p,Q4 q]
def lk (ac:Bool) (x t:Int) (p q:Int):List D:=bif ac then Q6m x t p q else Q6m t x p q
def nmP (k:Nat):List D:=[D.str (bs [80]++[UInt8.ofNat (48+k)])]
def Q2M (x:Nat) (ac:Bool) (aj k c:Nat):LL:=bif Nat.beq c 2 then [lk ac x k aj 0,lk ac x ((k+1:Nat):Int) aj 1] else [lk ac x k (-1) 0]
def Q24 (ac c:Nat):LL:=bif Nat.beq c 2 then [nmP ac] else []
section
variable {R:Type} {n:Nat} {q2 q4:LL}
theorem QdS {a b c d:Int} (h:q4.length<=1000) (K:LL->oP R):Y1 n q4 a b c d K=K (q4++[Q6m a b c d]):=by
 unfold Y1;rw [XF QnL,Q0];rfl
theorem Qer {k:Nat} (hk:q2.length=k) (h:k<10) (K:Int->LL->oP R):Z9 n q2 K=K (k:Int) (q2++[nmP k]):=by
 unfold Z9;rw [hk,Cs n _ k h QnJ,Q0,XF QnL,Q0];have hl:(q2++[[D.str (bs [80]++[UInt8.ofNat (48+k)])]]).length=k+1:=by simp [hk]
 rw [hl,Q6 (x:=((k+1:Nat):Int)-1) QnI QnI,show ((k+1:Nat):Int)-1=(k:Int) by omega];rfl
theorem QhZ {a1 a:Int} {T:List Nat} {ac:Bool} {w:Int} {h t m:Nat} (hh:(h:Int)<a) (b:h<=1000) (ht:T[h]? = some t) (hq:q4.length<=1000) {k0:Int->Bool->LL->oP R} :
  Qw n a1 (ZF T) ac w a k0 (m+1) (h:Int) q4=Qw n a1 (ZF T) ac w a k0 m ((h+1:Nat):Int) (q4++[lk ac a1 t w h]):=by
 rw [Qw];rw [QP QnL,Q6 (x:=(h:Int)+1) QnI QnI];have hr:Q1 (ZF T) (h:Int)=some [Q4 t]:=QK ht;cases ac
 ·rw [Q8 rfl,hr,Q0];show gb true (some (D.int .i64 (t:Int))) _ _=_;rw [Q0,Q2,Q0,QdS hq,Q0];rfl
 ·rw [QP rfl,hr,Q0];show gb true (some (D.int .i64 (t:Int))) _ _=_;rw [Q0,Q2,Q0,QdS hq,Q0];rfl
theorem QeJ {a1 a:Int} {T:LL} {ac:Bool} {w:Int} {h m:Nat} (hh:¬ (h:Int)<a) {k0:Int->Bool->LL->oP R} :
  Qw n a1 T ac w a k0 (m+1) (h:Int) q4=k0 h false q4:=by
 rw [Qw,Q8 QnL];simp [hh]
theorem Qij {m x k c p:Nat} {ac:Bool} (hc:c=1\/c=2) (hp:q2.length=p) (a:p<10) (hq:q4.length<=900) (K:LL->LL->oP R) :
  UW (m+3) q2 q4 (x:Int) (ZF (ups k c)) ac K=K (q2++Q24 p c) (q4++Q2M x ac p k c):=by
 rcases hc with rfl | rfl
 ·show Qw (m+3) (x:Int) (ZF [k]) ac (-1) (1:Int) _ (m+2+1) ((0:Nat):Int) q4=_;rw [QhZ QnJ QnJ rfl QnI,QeJ QnJ];rw [show Q24 p 1=[] from rfl,List.append_nil];rfl
 ·show gb true (Z9 (m+3) q2 _) _ _=_;rw [Qer hp a,Q0];show Qw (m+3) (x:Int) (ZF [k,k+1]) ac (p:Int) (2:Int) _ (m+2+1) ((0:Nat):Int) q4=_;rw [QhZ QnJ QnJ rfl QnI,QhZ QnJ QnJ rfl QnL,QeJ QnJ,List.append_assoc];rfl
end
def inL (s u:Nat):LL:=bif Nat.beq u 2 then [Q6m s ((s+1:Nat):Int) (-1) 0] else []
def pc (c:Nat):Nat:=bif Nat.beq c 2 then 1 else 0
theorem Q5J (p c:Nat):(Q24 p c).length=pc c:=by unfold Q24 pc;cases Nat.beq c 2 <;> rfl
theorem QcR {c:Nat}:pc c<=1:=by unfold pc;cases Nat.beq c 2 <;> simp
theorem Q1Y {x p k c:Nat} {e:Bool}:(Q2M x e p k c).length<=2:=by unfold Q2M;cases Nat.beq c 2 <;> simp
theorem Q4t {s u:Nat}:(inL s u).length<=1:=by unfold inL;cases Nat.beq u 2 <;> simp
section
variable {R:Type} {n:Nat} {l:List Int} (hl:l.length<=9223372036854775807) {P:R->Prop}
include hl
theorem Qdz {i c k j m:Nat} {tl S:LL} {k0:Int->Bool->LL->LL->Int->oP R}
  (hi:i<10) (hc:c+1<10) (hk:S.length=k) (e:k<=500) (ht:tl.length<=500) (hj:j<=l.length)
  (H:∀ (x:Rv) (j:Nat),Num x.1 x.2.1 x.2.2->j<=l.length->Jw n i (encI l) k0 m (c:Int) (tl++[[Q4 k]]) (S++[secL i (c+1) x]) (j:Int)∈P) :
  Jw n (i:Int) (encI l) k0 (m+1) ((c+1:Nat):Int) tl S (j:Int)∈P:=by
 unfold Jw;rw [QP QnK,Cs n _ i hi QnJ,Q0,Cs n _ (c+1) hc QnK,Q0];refine Qez hl hj fun a b d j hn hj=>?_
 dsimp only;refine QiB k hk QnI ?_;dsimp only;rw [XF QnL,Q0,Q6 (x:=((c+1:Nat):Int)-1) QnI QnI,show ((c+1:Nat):Int)-1=(c:Int) by omega];exact H (a,b,d) j hn hj
theorem Qbr {i c k j m:Nat} {S:LL} {k0:Int->Bool->LL->LL->Int->oP R}
  (hi:i<10) (hc:c=1\/c=2) (hk:S.length=k) (a:k<=400) (hj:j<=l.length)
  (H:∀ (x:List Rv) (j:Nat),Ko x->x.length=c->j<=l.length->k0 0 false (ZF (ups k c)) (S++Yp (secL i) c x) (j:Int)∈P) :
  Jw n (i:Int) (encI l) k0 (m+3) (c:Int) [] S (j:Int)∈P:=by
 rcases hc with rfl | rfl
 ·refine Qdz hl (c:=0) hi QnI hk QnI QnK hj fun x j hx hj=>?_
  exact H [x] j ⟨hx,trivial⟩ rfl hj
 ·refine Qdz hl (c:=1) hi QnI hk QnI QnK hj fun x j hx hj=>?_
  refine Qdz hl (c:=0) (k:=k+1) hi QnI (by simp [hk]) QnI QnK hj fun y j hy hj=>?_
  have:=H [x,y] j ⟨hx,hy,trivial⟩ rfl hj;simp only [Yp,ups,ZF,List.map_cons,List.map_nil] at this;show k0 0 false _ (S++[secL i 2 x]++[secL i 1 y]) (j:Int)∈P;rw [List.append_assoc S];exact this
end
section
variable {R:Type} {n:Nat}
theorem inA {s u m:Nat} {a:LL} (hu:u=1\/u=2) (hq:a.length<=900) {k0:Int->Bool->LL->oP R} :
  S7 n (ZF (ups s u)) k0 (m+3) 0 a=k0 ((u-1:Nat):Int) false (a++inL s u):=by
 rcases hu with rfl | rfl
 ·rw [show inL s 1=[] from rfl,List.append_nil];rfl
 ·show gb true (Y1 n a (s:Int) ((s+1:Nat):Int) (-1) 0 _) _ _=_;rw [QdS QnI,Q0];rfl
end
theorem Qh9 {R:Type} {m:Nat} {l:List Int} (hl:l.length<=9223372036854775807) {P:R->Prop} {a:Int} {g s p k c k' c' j:Nat} {Pt Se Li Tr Bt:LL} {k0:Int->Bool->LL->LL->LL->LL->Int->oP R} {n:Nat}
  (hg:g<8) (hw:(g:Int)+1<a) (hs:Se.length=s) (i:s<=300) (hp:Pt.length=p) (o:p<8) (hL:Li.length<=300) (hB:Bt.length<=300)
  (hT:Tr[g]? = some [D.sl 1 (ZF (ups k c))]) (ac:Tr[g+1]? = some [D.sl 1 (ZF (ups k' c'))]) (hc:c=1\/c=2) (al:c'=1\/c'=2) (hj:j<=l.length)
  (H:∀ (u:Nat) (x:List Rv) (j:Nat),(u=1\/u=2)->Ko x->x.length=u->j<=l.length ->
   U7 (m+3) a Tr (encI l) k0 n ((g+1:Nat):Int) ((Pt++Q24 p c)++Q24 (p+pc c) c') (Se++Yp (secL g) u x) (((Li++inL s u)++Q2M s false p k c)++Q2M (s+u-1) true (p+pc c) k' c') (Bt++[[D.sl 1 (ZF (ups s u))]]) (j:Int)∈P) :
  U7 (m+3) a Tr (encI l) k0 (n+1) (g:Int) Pt Se Li Bt (j:Int)∈P:=by
 unfold U7;have an:wJ ((g:Int)+1)=((g+1:Nat):Int):=by rw [Q6 QnI QnI];omega
 rw [an,QP QnL];refine V9 hl hj QnJ QnJ fun v j b d hj=>?_
 obtain ⟨u,hu,hv⟩:∃ u:Nat,(u=1\/u=2)/\wJ (1+v)=(u:Int):=by
  rcases two b d with rfl | rfl
  ·exact ⟨1,.inl rfl,rfl⟩
  ·exact ⟨2,.inr rfl,rfl⟩
 dsimp only;rw [hv];refine Qbr hl QnI hu hs QnI hj fun x j hx aj hj=>?_
 rw [inA hu QnI];have e:(0:Int).toNat=0:=rfl;have ak:(ZF (ups s u)).length=u:=by rcases hu with rfl | rfl <;> rfl
 have f:(ZF (ups s u))[0]? = some [Q4 s]:=by rcases hu with rfl | rfl <;> rfl
 have e1:(ZF (ups s u))[u-1]? = some [Q4 ((s+u-1:Nat):Int)]:=by rcases hu with rfl | rfl <;> rfl
 have au:g<Tr.length:=(List.getElem?_eq_some_iff.1 hT).1;have ao:g+1<Tr.length:=(List.getElem?_eq_some_iff.1 ac).1;have h:wJ ((u:Int)-1)=((u-1:Nat):Int):=by rcases hu with rfl | rfl <;> rfl
 rw [ak,YX QnI QnI,Q0,e,f,Q0];show gb true (some (Q4 s)) _ _∈P;rw [Q0,Q2,Q0,YX QnI QnI,Q0,QoS,hT,Q0];show gb true (some (D.sl 1 (ZF (ups k c)))) _ _∈P;rw [Q0,QJ,Q0,Qij hc hp QnI (by have:=@Q4t s u;simp;omega),Q0];dsimp only;rw [h,YX QnI QnI,Q0,QoS,e1,Q0];show gb true (some (Q4 ((s+u-1:Nat):Int))) _ _∈P;rw [Q0,Q2,Q0,YX QnI QnI,Q0,QoS,ac,Q0];show gb true (some (D.sl 1 (ZF (ups k' c')))) _ _∈P;rw [Q0,QJ,Q0,Qij (p:=p+pc c) al (by simp [hp,Q5J]) (by have:=@QcR c;omega) (by have:=@Q4t s u;have:=@Q1Y s p k c false;simp;omega),Q0];dsimp only;rw [XF QnL,Q0];exact H u x j hu hx aj hj
def nmS (k:Nat):List D:=[D.str (bs [83]++[UInt8.ofNat (48+k)])]
theorem Xc {f:Nat->Rv->List D}:∀ {c:Nat} {x:List Rv},x.length=c->(Yp f c x).length=c
 |0,[],_=>rfl
 |c+1,a::x,h=>by simp [Yp];exact Xc (by simpa using h)
section
variable {R:Type} {m:Nat} {l:List Int} (hl:l.length<=9223372036854775807) {P:R->Prop}
include hl
theorem Ll {a:Int} {i k j:Nat} {b d e:LL} {k0:Int->Bool->LL->LL->LL->Int->oP R} {n:Nat}
  (hi:i<10) (hw:(i:Int)<a) (hk:d.length=k) (g:k<=400) (f:b.length<=400) (h2:e.length<=400) (hj:j<=l.length)
  (H:∀ (c:Nat) (x:List Rv) (j:Nat),(c=1\/c=2)->Ko x->x.length=c->j<=l.length ->
   Uk (m+3) a (encI l) k0 n ((i+1:Nat):Int) (b++[nmS i]) (d++Yp (secT i) c x) (e++[[D.sl 1 (ZF (ups k c))]]) (j:Int)∈P) :
  Uk (m+3) a (encI l) k0 (n+1) (i:Int) b d e (j:Int)∈P:=by
 unfold Uk;rw [QP QnL,Cs _ _ i hi QnJ,Q0,XF QnL,Q0];refine V9 hl hj QnJ QnJ fun v j h f hj=>?_
 obtain ⟨c,hc,hv⟩:∃ c:Nat,(c=1\/c=2)/\wJ (1+v)=(c:Int):=by
  rcases two h f with rfl | rfl
  ·exact ⟨1,.inl rfl,rfl⟩
  ·exact ⟨2,.inr rfl,rfl⟩
 dsimp only;rw [hv];refine QdF hl hi hc hk g hj fun x j hx ac hj=>?_
 rw [XF QnL,Q0,Q6 (x:=(i:Int)+1) QnI QnI];exact H c x j hc hx ac hj
omit hl in
theorem r7e {n m:Nat} {b a:Int} {g c d e:LL} {f:Int} {k0:Int->Bool->LL->LL->LL->Int->oP R} (h:¬ a<b) :
  Uk n b g k0 (m+1) a c d e f=k0 a false c d e f:=by
 rw [Uk,Q8 QnL];simp [h]
omit hl in
theorem Qit {n m:Nat} {b a:Int} {i j c d e f:LL} {g:Int} {k0:Int->Bool->LL->LL->LL->LL->Int->oP R} (h:¬ wJ (a+1)<b) :
  U7 n b i j k0 (m+1) a c d e f g=k0 a false c d e f g:=by
 rw [U7,Q8 QnL];simp [h]
theorem Qhf {i:Nat} (hi:i<=l.length) {k0:LL->LL->LL->LL->LL->LL->Int->oP R}
  (H:∀ (c0 c1 a:Nat) (b d e:List Rv) (j:Nat),(c0=1\/c0=2)->(c1=1\/c1=2)->(a=1\/a=2)->Ko b->Ko d->Ko e->b.length=c0->d.length=c1->e.length=a->j<=l.length ->
   k0 [nmS 0,nmS 1] (Q24 0 c0++Q24 (pc c0) c1) ((Yp (secT 0) c0 b++Yp (secT 1) c1 d)++Yp (secL 0) a e)
    ((inL (c0+c1) a++Q2M (c0+c1) false 0 0 c0)++Q2M (c0+c1+a-1) true (pc c0) c0 c1)
    [[D.sl 1 (ZF (ups 0 c0))],[D.sl 1 (ZF (ups c0 c1))]] [[D.sl 1 (ZF (ups (c0+c1) a))]] (j:Int)∈P) :
  Uk (m+3) 2 (encI l) (fun _ _ r t h u=>
   U7 (m+3) 2 h (encI l) (fun _ _ v x y z aa=>k0 r v x y h z aa) (m+3) (0:Int) [] t [] [] u)
   (m+3) (0:Int) [] [] [] (i:Int)∈P:=by
 refine Ll hl (i:=0) QnJ QnJ rfl QnJ QnJ QnJ hi fun c0 b j n ab f hj=>?_
 refine Ll hl (i:=1) (k:=c0) QnJ QnJ (by simp [Xc f]) QnI QnK QnK hj fun c1 d j o ac q hj=>?_
 rw [r7e QnJ];refine Qh9 hl (g:=0) (s:=c0+c1) (p:=0) (k:=0) (c:=c0) (k':=c0) (c':=c1) QnJ QnJ (by simp [Xc f,Xc q]) QnI rfl QnJ QnJ QnJ rfl rfl n o hj fun a e j ad ae aj hj=>?_
 rw [Qit QnJ];have:=H c0 c1 a b d e j n o ad ab ac ae f q aj hj;simpa [Nat.add_assoc] using this
theorem Qhk {i:Nat} (hi:i<=l.length) {k0:LL->LL->LL->LL->LL->LL->Int->oP R}
  (H:∀ (c0 c1 a b d:Nat) (e f h n o:List Rv) (j:Nat),(c0=1\/c0=2)->(c1=1\/c1=2)->(a=1\/a=2)->(b=1\/b=2)->(d=1\/d=2)->Ko e->Ko f->Ko h->Ko n->Ko o->e.length=c0->f.length=c1->h.length=a->n.length=b->o.length=d->j<=l.length ->
   k0 [nmS 0,nmS 1,nmS 2] ((Q24 0 c0++Q24 (pc c0) c1)++Q24 (pc c0+pc c1) c1++Q24 (pc c0+pc c1+pc c1) a)
    ((((Yp (secT 0) c0 e++Yp (secT 1) c1 f)++Yp (secT 2) a h)++Yp (secL 0) b n)++Yp (secL 1) d o)
    (((inL (c0+c1+a) b++Q2M (c0+c1+a) false 0 0 c0)++Q2M (c0+c1+a+b-1) true (pc c0) c0 c1)++inL (c0+c1+a+b) d++Q2M (c0+c1+a+b) false (pc c0+pc c1) c0 c1++Q2M (c0+c1+a+b+d-1) true (pc c0+pc c1+pc c1) (c0+c1) a)
    [[D.sl 1 (ZF (ups 0 c0))],[D.sl 1 (ZF (ups c0 c1))],[D.sl 1 (ZF (ups (c0+c1) a))]] [[D.sl 1 (ZF (ups (c0+c1+a) b))],[D.sl 1 (ZF (ups (c0+c1+a+b) d))]] (j:Int)∈P) :
  Uk (m+4) 3 (encI l) (fun _ _ aa ab v ac=>
   U7 (m+4) 3 v (encI l) (fun _ _ ad ae ag ah ai=>k0 aa ad ae ag v ah ai) (m+4) (0:Int) [] ab [] [] ac)
   (m+4) (0:Int) [] [] [] (i:Int)∈P:=by
 refine Ll hl (m:=m+1) (i:=0) QnJ QnJ rfl QnJ QnJ QnJ hi fun c0 e j x aj q hj=>?_
 refine Ll hl (m:=m+1) (i:=1) (k:=c0) QnJ QnJ (by simp [Xc q]) QnI QnK QnK hj fun c1 f j t ak r hj=>?_
 refine Ll hl (m:=m+1) (i:=2) (k:=c0+c1) QnJ QnJ (by simp [Xc q,Xc r]) QnI QnK QnK hj fun a h j y al u hj=>?_
 rw [r7e QnJ];refine Qh9 hl (m:=m+1) (g:=0) (s:=c0+c1+a) (p:=0) (k:=0) (c:=c0) (k':=c0) (c':=c1) QnJ QnJ (by simp [Xc q,Xc r,Xc u,Nat.add_assoc]) QnI rfl QnJ QnJ QnJ rfl rfl x t hj fun b n j am an z hj=>?_
 have b0:=@QcR c0;have b1:=@QcR c1;have f0:=@Q4t (c0+c1+a) b;have f1:=@Q1Y (c0+c1+a) 0 0 c0 false;have f2:=@Q1Y (c0+c1+a+b-1) (pc c0) c0 c1 true;refine Qh9 hl (m:=m+1) (g:=1) (s:=c0+c1+a+b) (p:=pc c0+pc c1) (k:=c0) (c:=c1) (k':=c0+c1) (c':=a) QnJ QnJ (by simp [Xc q,Xc r,Xc u,Xc z,Nat.add_assoc]) QnI (by simp [Q5J]) QnI QnL QnK rfl rfl t y hj fun d o j ao ap aq hj=>?_
 rw [Qit QnJ];have:=H c0 c1 a b d e f h n o j x t y am ao aj ak al an ap q r u z aq hj;simpa [Nat.add_assoc] using this
end
def QbZ:oP Bool->Bool
 |some true=>true
 |_=>false
def Qiu:oP Bool->Bool
 |some false=>true
 |_=>false
def Q7D:oP Int->Bool
 |some n=>n == 0
 |none=>false
theorem Nb {o:oP Bool} (h:QbZ o=true):o=some true:=by
 match o,h with
 |some true,_=>rfl
theorem Q8Z {o:oP Bool} (h:Qiu o=true):o=some false:=by
 match o,h with
 |some false,_=>rfl
theorem Vv {o:oP Int} (h:Q7D o=true):o=some 0:=by
 match o,h with
 |some n,h=>simp only [Q7D,beq_iff_eq] at h;rw [h]
end Go.Vx
namespace Go.Vx
variable {R:Type} (n:Nat)
def QbP (ac:List (List UInt8)) (s:List UInt8):Bool:=Nat.ble s.length 12&&QbZ (GW n s some)&&!(ac.contains s)
def TC :List (List UInt8)->LL->Bool
 | _,[]=>true
 | ac,row::r=>match row with
 | [D.str s]=>QbP n ac s&&TC (s::ac) r
 | _=>false
def P1 (l0 l1 l2 e:LL):List (List UInt8)->LL->Bool
 | _,[]=>true
 | ac,row::r=>match row with
 | [D.str s,D.int .i64 a,D.int .i64 b,D.int .i64 c,D.int .i64 d]=>QbP n ac s&&QbZ (Xg n l0 l1 l2 e s a b c d some)&&P1 l0 l1 l2 e (s::ac) r
 | _=>false
def Km (l0 l1 l2 c:LL):List LL->LL->Bool
 | _,[]=>true
 | st,row::r=>match row with
 | [D.int .i64 a,D.int .i64 ae,D.int .i64 b,D.int .i64 be,D.int .i64 p,D.int .i64 q]=>(decide (0<=a)&&decide (a<l2.length)&&decide (0<=ae)&&decide (ae<=1)&&decide (0<=b)&&decide (b<l2.length)&&decide (0<=be)&&decide (be<=1))&&QbZ (Y6 n l0 l1 l2 c a ae b be p q some) && !(Nat.beq (2*a+ae).toNat (2*b+be).toNat) && (match st[(2*a+ae).toNat]?,st[(2*b+be).toNat]? with
 | some x,some y=>Qiu (Ga n x a ae b be some)&&QbZ (Jz n a ae b be p q x some)&&QbZ (Jz n a ae b be p q y some)&&Nat.ble x.length 1&&Nat.ble y.length 1&&Km l0 l1 l2 c ((st.set (2*a+ae).toNat (x++[row])).set (2*b+be).toNat (y++[row])) r
 | _,_=>false)
 | _=>false
def P3 (l0 l1 l2 a:LL):Bool:=Nat.ble l0.length 24&&Nat.ble l1.length 48&&Nat.ble l2.length 96&&Nat.ble a.length 192&&!(Nat.beq l2.length 0)&&TC n [] l0&&TC n [] l1&&P1 n l0 l1 l2 a [] l2&&Km n l0 l1 l2 a (List.replicate (2*l2.length) []) a
def Za (l0 l1 l2 a:LL) (K:Qkj R):oP R:=bif P3 n l0 l1 l2 a then K 0 else none
end Go.Vx
namespace Go.Vx
def hat (c:Nat):List Rv:=List.replicate c (2,5000,0)
def pt2 (c0 c1:Nat):LL:=Q24 0 c0++Q24 (pc c0) c1
def se2 (c0 c1 a:Nat) (b c d:List Rv):LL:=(Yp (secT 0) c0 b++Yp (secT 1) c1 c)++Yp (secL 0) a d
def li2 (c0 c1 a:Nat):LL:=(inL (c0+c1) a++Q2M (c0+c1) false 0 0 c0)++Q2M (c0+c1+a-1) true (pc c0) c0 c1
def pt3 (c0 c1 a:Nat):LL:=(Q24 0 c0++Q24 (pc c0) c1)++Q24 (pc c0+pc c1) c1++Q24 (pc c0+pc c1+pc c1) a
def se3 (c0 c1 a b c:Nat) (d e f g h:List Rv):LL:=(((Yp (secT 0) c0 d++Yp (secT 1) c1 e)++Yp (secT 2) a f)++Yp (secL 0) b g)++Yp (secL 1) c h
def li3 (c0 c1 a b c:Nat):LL:=((inL (c0+c1+a) b++Q2M (c0+c1+a) false 0 0 c0)++Q2M (c0+c1+a+b-1) true (pc c0) c0 c1)++inL (c0+c1+a+b) c++Q2M (c0+c1+a+b) false (pc c0+pc c1) c0 c1++Q2M (c0+c1+a+b+c-1) true (pc c0+pc c1+pc c1) (c0+c1) a
theorem ok2 {c0 c1 a:Nat} (b:c0=1\/c0=2) (c:c1=1\/c1=2) (h2:a=1\/a=2):P3 400 [nmS 0,nmS 1] (pt2 c0 c1) (se2 c0 c1 a (hat c0) (hat c1) (hat a)) (li2 c0 c1 a)=true:=by
 rcases b with rfl | rfl <;> rcases c with rfl | rfl <;> rcases h2 with rfl | rfl <;> kernel_rfl
theorem ok3 {c0 c1 a b c:Nat} (d:c0=1\/c0=2) (e:c1=1\/c1=2) (h2:a=1\/a=2) (f:b=1\/b=2) (g:c=1\/c=2):P3 400 [nmS 0,nmS 1,nmS 2] (pt3 c0 c1 a) (se3 c0 c1 a b c (hat c0) (hat c1) (hat a) (hat b) (hat c)) (li3 c0 c1 a b c)=true:=by
 rcases d with rfl | rfl <;> rcases e with rfl | rfl <;> rcases h2 with rfl | rfl <;> rcases f with rfl | rfl <;> rcases g with rfl | rfl <;> kernel_rfl
structure NumOk (a b c d:Int) (k:Nat):Prop where
 a0:1<=a
 a1:a<=400
 b0:1000<=b
 b1:b<=100000
 c0 : -40<=c
 c1:c<=40
 d0 : -1<=d
 d1:d<k
theorem Q6t {n:Nat} {l0 l1 l2 e:LL} {s:List UInt8} {a b c d:Int} (h:NumOk a b c d l0.length):Xg n l0 l1 l2 e s a b c d some=some true:=by
 obtain ⟨f,g,h2,i,j,k,l,m⟩:=h;unfold Xg;simp [f,g,h2,i,j,k,l,m]
def EM (k:Nat):LL->LL->Prop
 |[],[]=>True
 |r::s,r'::s'=>(∃ nm a b c a' b' c' d,r=[D.str nm,Q4 a,Q4 b,Q4 c,Q4 d]/\r'=[D.str nm,Q4 a',Q4 b',Q4 c',Q4 d]/\NumOk a b c d k/\NumOk a' b' c' d k)/\EM k s s'
 |_,_=>False
theorem EM.len {k:Nat}:∀ {s s':LL},EM k s s'->s.length=s'.length
 |[],[],_=>rfl
 |r::s,r'::s',h=>by simp [EM.len h.2]
theorem EM.app {k:Nat}:∀ {s s' t t':LL},EM k s s'->EM k t t'->EM k (s++t) (s'++t')
 |[],[],t,t',_,h=>h
 |r::s,r'::s',t,t',h,h2=>⟨h.1,EM.app h.2 h2⟩
theorem EM.secT {k i:Nat} (hi:i<k):∀ {c:Nat} {x x':List Rv},Ko x->Ko x'->x.length=c->x'.length=c->EM k (Yp (secT i) c x) (Yp (secT i) c x')
 |0,[],[],_,_,_,_=>trivial
 |c+1,a::x,a'::x',h,h',e,e'=>⟨⟨QiC i (c+1),a.1+2,a.2.1,a.2.2,a'.1+2,a'.2.1,a'.2.2,i,rfl,rfl,
   ⟨by have:=h.1.a0;omega,by have:=h.1.a1;omega,by have:=h.1.b0;omega,by have:=h.1.b1;omega,by have:=h.1.c0;omega,by have:=h.1.c1;omega,QnI,QnI⟩,
   ⟨by have:=h'.1.a0;omega,by have:=h'.1.a1;omega,by have:=h'.1.b0;omega,by have:=h'.1.b1;omega,by have:=h'.1.c0;omega,by have:=h'.1.c1;omega,QnI,QnI⟩⟩,EM.secT hi h.2 h'.2 (by simpa using e) (by simpa using e')⟩
theorem EM.secL {k i:Nat}:∀ {c:Nat} {x x':List Rv},Ko x->Ko x'->x.length=c->x'.length=c->EM k (Yp (secL i) c x) (Yp (secL i) c x')
 |0,[],[],_,_,_,_=>trivial
 |c+1,a::x,a'::x',h,h',e,e'=>⟨⟨nmL i (c+1),a.1,a.2.1,a.2.2,a'.1,a'.2.1,a'.2.2,-1,rfl,rfl,
   ⟨by have:=h.1.a0;omega,by have:=h.1.a1;omega,by have:=h.1.b0;omega,by have:=h.1.b1;omega,by have:=h.1.c0;omega,by have:=h.1.c1;omega,QnI,QnI⟩,
   ⟨by have:=h'.1.a0;omega,by have:=h'.1.a1;omega,by have:=h'.1.b0;omega,by have:=h'.1.b1;omega,by have:=h'.1.c0;omega,by have:=h'.1.c1;omega,QnI,QnI⟩⟩,EM.secL h.2 h'.2 (by simpa using e) (by simpa using e')⟩
theorem Hm:∀ c,Ko (hat c)
 |0=>trivial
 |c+1=>⟨⟨by decide,by decide,by decide,by decide,by decide,by decide⟩,Hm c⟩
theorem Nt (c:Nat):(hat c).length=c:=by simp [hat]
theorem EI {n:Nat} {l0 l1 L L' e:LL}:∀ {s s':LL} {ac:List (List UInt8)},EM l0.length s s'->P1 n l0 l1 L e ac s=P1 n l0 l1 L' e ac s'
 |[],[],ac,_=>rfl
 |r::s,r'::s',ac,h=>by
  obtain ⟨⟨nm,a,b,c,a',b',c',d,rfl,rfl,f,h2⟩,g⟩:=h;show (QbP n ac nm&&QbZ (Xg n l0 l1 L e nm a b c d some)&&P1 n l0 l1 L e (nm::ac) s)=(QbP n ac nm&&QbZ (Xg n l0 l1 L' e nm a' b' c' d some)&&P1 n l0 l1 L' e (nm::ac) s');rw [Q6t f,Q6t h2,EI g]
theorem MY {n:Nat} {l0 l1 L L' c:LL} (h:L.length=L'.length):∀ {t:LL} {st:List LL},Km n l0 l1 L c st t=Km n l0 l1 L' c st t
 |[],st=>rfl
 |r::t,st=>by
  unfold Km;split
  ·rename_i a ae b be p q;have e:Y6 n l0 l1 L c a ae b be p q some=Y6 n l0 l1 L' c a ae b be p q some:=by unfold Y6;rw [h]
   rw [e,h];split
   ·rw [MY h]
   ·rfl
  ·rfl
theorem Q0b {n:Nat} {l0 l1 L L' a:LL} (h:EM l0.length L L'):P3 n l0 l1 L a=P3 n l0 l1 L' a:=by
 unfold P3;rw [h.len,EI h,MY h.len]
theorem sr2 {c0 c1 a:Nat} {b c d:List Rv} (e:Ko b) (f:Ko c) (g:Ko d) (h:b.length=c0) (e1:c.length=c1) (e2:d.length=a):EM 2 (se2 c0 c1 a b c d) (se2 c0 c1 a (hat c0) (hat c1) (hat a)):=
 .app (.app (.secT QnJ e (Hm _) h (Nt _)) (.secT QnJ f (Hm _) e1 (Nt _))) (.secL g (Hm _) e2 (Nt _))
theorem sr3 {c0 c1 a b c:Nat} {d e f g h:List Rv} (i:Ko d) (j:Ko e) (k:Ko f) (n3:Ko g) (l:Ko h) (m:d.length=c0) (e1:e.length=c1) (e2:f.length=a) (n:g.length=b) (o:h.length=c):EM 3 (se3 c0 c1 a b c d e f g h) (se3 c0 c1 a b c (hat c0) (hat c1) (hat a) (hat b) (hat c)):=
 .app (.app (.app (.app (.secT QnJ i (Hm _) m (Nt _)) (.secT QnJ j (Hm _) e1 (Nt _))) (.secT QnJ k (Hm _) e2 (Nt _))) (.secL n3 (Hm _) n (Nt _))) (.secL l (Hm _) o (Nt _))
theorem QiN {c0 c1 a:Nat} {b c d:List Rv} (e:c0=1\/c0=2) (f:c1=1\/c1=2) (h2:a=1\/a=2) (g:Ko b) (h:Ko c) (i:Ko d) (j:b.length=c0) (e1:c.length=c1) (e2:d.length=a) :
  P3 400 [nmS 0,nmS 1] (pt2 c0 c1) (se2 c0 c1 a b c d) (li2 c0 c1 a)=true:=by
 rw [<- ok2 e f h2];exact Q0b (sr2 g h i j e1 e2)
theorem Qjh {c0 c1 a b c:Nat} {d e f g h:List Rv} (i:c0=1\/c0=2) (j:c1=1\/c1=2) (h2:a=1\/a=2) (k:b=1\/b=2) (l:c=1\/c=2) (m:Ko d) (n:Ko e) (o:Ko f) (n3:Ko g) (p:Ko h) (q:d.length=c0) (e1:e.length=c1) (e2:f.length=a) (r:g.length=b) (s:h.length=c) :
  P3 400 [nmS 0,nmS 1,nmS 2] (pt3 c0 c1 a) (se3 c0 c1 a b c d e f g h) (li3 c0 c1 a b c)=true:=by
 rw [<- ok3 i j h2 k l];exact Q0b (sr3 m n o n3 p q e1 e2 r s)
end Go.Vx
namespace Go.Vx
variable {R:Type} (n:Nat)
def Wt (c:LL) (b:Int) (d e f g:LL) (k0:oP R) (k1:Qkk R):Qkl R
 | 0,_=>none
 | m+1,a=>bif decide (a<b) then QjP R c a fun i j=>QjC R i j fun k l=>Qjr R (RC n d e f g k l some) fun o=>bif !o then k0 else Wt c b d e f g k0 k1 m (wJ (a+1)) else k1 a (decide (a<b))
def JW (n:Nat) (e:LL) (c:Int) (k0:oP R) (k1:Qkm R):Qkn R
 | 0,_,_=>none
 | m+1,b,a=>bif decide (b<c) then QjG R e b fun f g=>Qjr R f[1]? fun o=>Qjr R (pIw g) fun h=>Qk4 R a.length h a h.toNat fun k=>bif k then k0 else Qjr R (pIw g) fun d=>QjF R a.length d a d.toNat fun l=>JW n e c k0 k1 m (wJ (b+1)) (List.set a d.toNat (List.set l 0 (D.bool true))) else k1 b (decide (b<c)) a
def Wj (e:LL) (b:Int) (f g h i j:LL) (k0:oP R) (k1:Qkm R):Qkn R
 | 0,_,_=>none
 | m+1,a,c=>bif decide (a<b) then QjP R e a fun o p=>QjP R j a fun q r=>Qk1 R q r o p fun s t u v=>gb true (Jn n f g h i s t u v Tu2) (0,false) fun d=>bif !d.2 then k0 else Qjr R (Y9 ((c.length+[[Q4 d.1]].length)*8)) fun z=>Wj e b f g h i j k0 k1 m (wJ (a+1)) (c++[[Q4 d.1]]) else k1 a (decide (a<b)) c
def KD (d e b f a:LL) (c:Int) (K:Qkq R):oP R:=Qjr R (Za n d e b f some) fun j=>bif j !=0 then K [] 1 else Qjq R (a.length:Int) fun aa=>jn (fun (k:Bool)=>bif k then K [] 7 else jn (fun (l:Bool)=>bif l then K [] 4 else Wt n a aa d e b f (K [] 4) (fun o p=>Qjq R (b.length:Int) fun z=>gb true (bif decide (0<=z)&&decide (z<=z) then some () else none) () fun q=>Qjr R (Y9 (Int.toNat z*1)) fun r=>JW n a aa (K [] 5) (fun s t u=>Qjr R (slB a.length (some 1) none) fun g=>Wj n (cut a g) ((List.length (cut a g):Nat):Int) d e b f a (K [] 11) (fun v x m=>K m 0) n 0 []) n 0 (List.replicate (Int.toNat z) [D.bool false])) n 0) fun h=>bif decide (c<0) then h (decide (c<0)) else h (decide (wJ (aa-c)<2))) fun i=>Qjp R (decide (aa>24)) fun y=>bif y then i y else i (decide (c>2))
def Th (b c d e f:LL) (g:Int) (K:Qkj R):oP R:=Qjr R (KD n b c d e f g Tu2) fun a=>K a.2
end Go.Vx
namespace Go.Vx
def K3 (s u x y:Nat) (up:Bool):LL:=
 bif up then [Q4 x,Q4 0]::((ups s u).map fun k=>[Q4 (k:Nat),Q4 0])++[[Q4 y,Q4 0]] else [Q4 y,Q4 1]::((ups s u).reverse.map fun k=>[Q4 (k:Nat),Q4 1])++[[Q4 x,Q4 1]]
theorem Qs {α:Type} {r:Nat->Int->α} {N:Nat} {e:α} (hs:∀ m h,h<N->r (m+1) (h:Int)=r m ((h+1:Nat):Int)) (he:∀ m,r (m+1) (N:Int)=e):∀ (k m h:Nat),h+k=N->k<m->r m (h:Int)=e
 |0,m+1,h,hh,_=>by rw [show h=N by omega];exact he m
 |k+1,m+1,h,hh,hm=>by rw [hs m h QnI];exact Qs hs he k m (h+1) QnI QnI
section
variable {R:Type} {n:Nat} {a b a' b' L L' d:LL} (h:L.length=L'.length)
include h
theorem Qem {s:LL} {w:Int} {k0:oP R} {k1:Int->Bool->oP R}:∀ (m:Nat) (i:Int),Wt n s w a b L d k0 k1 m i=Wt n s w a' b' L' d k0 k1 m i
 |0,_=>rfl
 |m+1,i=>by
  unfold Wt;simp only [RC,h,Qem m]
omit h in
theorem Qhn {x y z t:Int} {K:Int->Bool->oP R}:Jn n a b L d x y z t K=Jn n a' b' L' d x y z t K:=rfl
omit h in
theorem Qgq {q s:LL} {w:Int} {k0:oP R} {k1:Int->Bool->LL->oP R}:∀ (m:Nat) (i:Int) (p:LL),Wj n q w a b L d s k0 k1 m i p=Wj n q w a' b' L' d s k0 k1 m i p
 |0,_,_=>rfl
 |m+1,i,p=>by
  unfold Wj;simp only [Qhn (a:=a) (b:=b) (L:=L) (a':=a') (b':=b') (L':=L'),Qgq m]
end
def Q8Q (St Pt L d s:LL):oP (LL×Int):=
 Wt 400 s ((List.length s:Nat):Int) St Pt L d (some ([],4))
  (fun _ _=>
  gb true (bif decide (0<=((List.length L:Nat):Int))&&decide (((List.length L:Nat):Int)<=((List.length L:Nat):Int)) then some () else none) () fun c=>
  gb true (Y9 (Int.toNat ((List.length L:Nat):Int)*1)) () fun e=>
  JW 400 s ((List.length s:Nat):Int) (some ([],5))
   (fun _ _ _=>
   gb true (slB (List.length s) (some (1:Int)) none) (0,0) fun a=>
   Wj 400 (cut s a) ((List.length (cut s a):Nat):Int) St Pt L d s (some ([],11)) (fun _ _ b=>some (b,0)) 400 (0:Int) [])
   400 (0:Int) (List.replicate (Int.toNat ((List.length L:Nat):Int)) [D.bool false]))
  400 (0:Int)
def rtB (N:Nat) (Li s:LL):Bool:=match Q8Q [] [] (List.replicate N []) Li s with
 |some (_,e)=>e == 0
 |none=>false
theorem Q95 {St Pt Se Li s:LL} {N:Nat} (ac:P3 400 St Pt Se Li=true) (hN:Se.length=N) (h2:2<=s.length) (g:s.length<=24) (hr:rtB N Li s=true) :
  ∃ aj,KD 400 St Pt Se Li s 0 Tu2=some (aj,0):=by
 have hc:Za 400 St Pt Se Li (some:Int->oP Int)=some 0:=by unfold Za;rw [ac];rfl
 have hL:Se.length=(List.replicate N ([]:List D)).length:=by simp [hN]
 have e:KD 400 St Pt Se Li s 0 Tu2=Q8Q [] [] (List.replicate N []) Li s:=by
  unfold KD;rw [hc,Q0,Q8 QnJ];dsimp only [jn];rw [Q8 (c:=decide (((List.length s:Nat):Int)>24)) QnL,Q8 (c:=decide ((0:Int)>2)) QnJ,Q8 (c:=decide ((0:Int)<0)) QnJ,Q8 (c:=decide (wJ (((List.length s:Nat):Int)-0)<2)) (by rw [Q6 QnI QnI];simp;omega)];unfold Q8Q;simp only [Qgq (a:=St) (b:=Pt) (L:=Se) (a':=[]) (b':=[]) (L':=List.replicate N []),Qem (a:=St) (b:=Pt) (L:=Se) (a':=[]) (b':=[]) (L':=List.replicate N []) hL,hL]
 rw [e];unfold rtB at hr;split at hr
 ·rename_i p e' hh;simp only [beq_iff_eq] at hr;subst hr;exact ⟨p,hh⟩
 ·cases hr
theorem Q5n {R:Type} {St Pt Se Li s:LL} {N:Nat} (ac:P3 400 St Pt Se Li=true) (hN:Se.length=N) (h2:2<=s.length) (a:s.length<=24) (hr:rtB N Li s=true) (K:Int->oP R):Th 400 St Pt Se Li s 0 K=K 0:=by
 obtain ⟨p,e⟩:=Q95 ac hN h2 a hr;unfold Th;rw [e,Q0]
def QbR (N:Nat) (Li:LL) (s u k c k' c':Nat):Bool:=
 (ups k c).all fun x=>(ups k' c').all fun y=>rtB N Li (K3 s u x y true)&&rtB N Li (K3 s u x y false)
theorem QiX {c0 c1 a:Nat} (b:c0=1\/c0=2) (c:c1=1\/c1=2) (h2:a=1\/a=2):QbR (c0+c1+a) (li2 c0 c1 a) (c0+c1) a 0 c0 c0 c1=true:=by
 rcases b with rfl | rfl <;> rcases c with rfl | rfl <;> rcases h2 with rfl | rfl <;> kernel_rfl
theorem Qj7 {c0 c1 a b c:Nat} (d:c0=1\/c0=2) (e:c1=1\/c1=2) (h2:a=1\/a=2) (f:b=1\/b=2) (g:c=1\/c=2) :
  (QbR (c0+c1+a+b+c) (li3 c0 c1 a b c) (c0+c1+a) b 0 c0 c0 c1&&QbR (c0+c1+a+b+c) (li3 c0 c1 a b c) (c0+c1+a+b) c c0 c1 (c0+c1) a)=true:=by
 rcases d with rfl | rfl <;> rcases e with rfl | rfl <;> rcases h2 with rfl | rfl <;> rcases f with rfl | rfl <;> rcases g with rfl | rfl <;> kernel_rfl
end Go.Vx
namespace Go.Vx
variable {R:Type} (n:Nat)
def ZM (e:LL) (d:Int) (f:LL) (k0:Qkm R):Qkn R
 | 0,_,_=>none
 | m+1,a,b=>bif decide (a<d) then QjP R e a fun o p=>Qjr R (pIw o) fun q=>QjL R f q fun c h=>Qk5 R c fun r s=>Qjr R c[4]? fun y=>Qk3 R r s p fun i j t=>bif t==1 then Qjr R (pIw h) fun u=>Qjr R (Qc n [[Q4 i,Q4 (wJ (0-j))]] u some) fun k=>Qjr R (Y9 ((b.length+k.length)*16)) fun z=>ZM e d f k0 m (wJ (a+1)) (b++k) else Qjr R (pIw h) fun v=>Qjr R (Qc n [[Q4 i,Q4 j]] v some) fun l=>Qjr R (Y9 ((b.length+l.length)*16)) fun aa=>ZM e d f k0 m (wJ (a+1)) (b++l) else k0 a (decide (a<d)) b
def Sc (g h b i a:LL) (c:Int) (K:Qkw R):oP R:=Qjr R (Th n g h b i a c some) fun d=>bif d !=0 then K [] 0 d else Qjr R (slB a.length none (some (wJ ((a.length:Int)-c)))) fun e=>ZM n (cut a e) ((List.length (cut a e):Nat):Int) b (fun p q f=>bif decide ((f.length:Int)>4000) then K [] 0 7 else QjD R a 0 fun l=>QjN R b l fun i64=>K f i64 0) n 0 []
def Wm (n:Nat) (d:LL) (b:Int) (e:LL) (c:Int) (k0:oP R) (k1:Qkk R):Qkl R
 | 0,_=>none
 | m+1,a=>bif decide (a<b) then QjG R d a fun f g=>Qjr R f[1]? fun l=>Qjr R (pIw g) fun h=>QjN R e h fun k=>bif decide (k<(if 2<c then c else 2)) then k0 else Wm n d b e c k0 k1 m (wJ (a+1)) else k1 a (decide (a<b))
def KC (g h b i c:LL) (d:Int) (j:List UInt8) (e k l m:Int) (K:Qkw R):oP R:=Qjr R (Sc n g h b i c d Tu3) fun a=>bif a.2.2 !=0 then K [] 0 a.2.2 else Qjr R (Ud n j e k l m some) fun r2=>bif !r2 then K [] 0 1 else Qjr R (WY n c d some) fun f=>Wm n f (f.length:Int) b e (K [] 0 12) (fun p q=>K a.1 a.2.1 0) n 0
def JS (b c d e f:LL) (g:Int) (h:List UInt8) (i j k l:Int) (K:Qkj R):oP R:=Qjr R (KC n b c d e f g h i j k l Tu3) fun a=>K a.2.2
end Go.Vx
namespace Go.Vx
structure SecN (a b c:Int):Prop where
 a0:2<=a
 a1:a<=12
 b0:5000<=b
 b1:b<=35000
 c0 : -10<=c
 c1:c<=10
def Ds (Se:LL) (row:List D):Prop:=∃ (x d:Int) (nm:List UInt8) (a b c st:Int),row=[Q4 x,Q4 d]/\Q1 Se x=some [D.str nm,Q4 a,Q4 b,Q4 c,Q4 st]/\SecN a b c/\(d=0\/d=1)
def PA (Se:LL):List D->LL
 |[.int _ x,.int _ d]=>match Q1 Se x with
  |some [_,.int _ a,.int _ b,.int _ c,_]=>List.replicate a.toNat [Q4 b,Q4 (bif d == 1 then -c else c)]
  |_=>[]
 |_=>[]
def Yb (Se s:LL):LL:=s.flatMap (PA Se)
theorem KE {Se:LL} {x d a b c st:Int} {nm:List UInt8} (h:Q1 Se x=some [D.str nm,Q4 a,Q4 b,Q4 c,Q4 st]):PA Se [Q4 x,Q4 d]=List.replicate a.toNat [Q4 b,Q4 (bif d == 1 then -c else c)]:=by
 grind [PA]
theorem Yt {α:Type} {l:List α} {h:Nat} {a:α} (e:l[h]? = some a):l.take (h+1)=l.take h++[a]:=by grind [List.take_add_one]
theorem NG {Se s:LL} {h:Nat} {row:List D} (e:s[h]? = some row):Yb Se (s.take (h+1))=Yb Se (s.take h)++PA Se row:=by
 rw [Yt e];simp [Yb]
theorem Pf {Se:LL}:∀ {s:LL},(∀ row∈s,Ds Se row)->(Yb Se s).length<=12*s.length/\2*s.length<=(Yb Se s).length
 |[],_=>by simp [Yb]
 |row::s,h=>by
  obtain ⟨x,d,nm,a,b,c,st,rfl,hs,hn,_⟩:=h _ (List.mem_cons_self ..);have e:=Pf fun r hr=>h r (List.mem_cons_of_mem _ hr)
  have h2:=hn.a0;have f:=hn.a1;simp only [Yb,List.flatMap_cons,KE hs,List.length_append,List.length_replicate,List.length_cons] at e ⊢;omega
section
variable {R:Type} {n:Nat}
theorem QiO {a:Int} {x y:D} (b:0<=a) (c:a<=100000) (K:LL->oP R):Qc n [[x,y]] a K=K (List.replicate a.toNat [x,y]):=by
 simp_all [Qc,QP]
theorem QaY {Se s:LL} {k0:Int->Bool->LL->oP R} (hs:∀ row∈s,Ds Se row) (hl:s.length<=30):∀ {m:Nat},s.length<m->ZM n s (s.length:Int) Se k0 m 0 []=k0 (s.length:Int) false (Yb Se s):=by
 intro m hm;have hc:=fun h:Nat=>(Pf (s:=s.take h) fun r hr=>hs r (List.mem_of_mem_take hr)).1
 refine Qs (r:=fun m h=>ZM n s (s.length:Int) Se k0 m h (Yb Se (s.take h.toNat))) (N:=s.length) (fun m h hh=>?_) (fun m=>?_) s.length m 0 QnI hm
 ·have e:=List.getElem?_eq_getElem hh;obtain ⟨x,d,nm,a,b,c,st,hx,aj,hn,hd⟩:=hs _ (List.getElem_mem hh);rw [hx] at e;have a0:=hn.a0;have a1:=hn.a1;have al:=hc h;simp only [QoS,NG e,KE aj];simp only [List.length_take] at al;rw [ZM,QP (by simpa using hh),show Q1 s (h:Int)=some [Q4 x,Q4 d] by simp [Q1,e],Q0];dsimp only [List.getElem?_cons_zero,List.getElem?_cons_succ];rw [Q0,Q0,Q2,Q0,aj,Q0];dsimp only [List.getElem?_cons_zero,List.getElem?_cons_succ];have ac:∀ r:List D,Y9 (((Yb Se (s.take h)).length+(List.replicate a.toNat r).length)*16)=some ():=fun r=>XF (by simp only [List.length_replicate];omega)
  simp -implicitDefEqProofs only [Q0,Q2,QiO (show (0:Int)<=a by omega) (show a<=100000 by omega),ac];rw [Q6 (x:=(h:Int)+1) QnI QnI,show (h:Int)+1=((h+1:Nat):Int) by omega,Q6 (x:=0-c) (by have:=hn.c1;omega) (by have:=hn.c0;omega),Int.zero_sub];cases f:d == (1:Int) <;> rfl
 simp [QoS,ZM,Q8,List.take_length]
theorem Q9R {s:LL} (h:s.length<=1000):slB s.length none (some (wJ ((s.length:Int)-(0:Int))))=some (0,s.length)/\cut s (0,s.length)=s:=by
 grind [Q6,slB,cut]
def HE (Se s:LL):Int:=match s with
 |[.int _ x,_]::_=>match Q1 Se x with
  |some [_,.int _ a,_,_,_]=>a
  |_=>0
 |_=>0
theorem Qfj {St Pt Se Li s:LL} {N:Nat} (ac:P3 400 St Pt Se Li=true) (hN:Se.length=N) (h2:2<=s.length) (e:s.length<=24) (hr:rtB N Li s=true) (ho:∀ row∈s,Ds Se row) (K:LL->Int->Int->oP R) :
  Sc 400 St Pt Se Li s 0 K=K (Yb Se s) (HE Se s) 0:=by
 have hl:=(Pf ho).1;obtain ⟨row,rest,rfl⟩:∃ row rest,s=row::rest:=by
  cases s with
  |nil=>simp at h2
  |cons a b=>simp_all
 obtain ⟨x,d,nm,a,b,c,st,rfl,hs,_,_⟩:=ho row QnK;have hf:HE Se ([Q4 x,Q4 d]::rest)=a:=by grind [HE]
 generalize hS:[Q4 x,Q4 d]::rest=s at *
 obtain ⟨e1,e2⟩:=Q9R (s:=s) QnI;unfold Sc;rw [Q5n ac hN h2 e hr,Q0,Q8 QnJ,e1,Q0,e2,QaY ho QnI QnI,Q8 QnL,show Q1 s (0:Int)=some [Q4 x,Q4 d] by rw [<- hS];rfl,Q0]
 grind [List.getElem?_cons_zero,List.getElem?_cons_succ,Q0,Q2]
theorem Qgi {Se s:LL} {tl:Int} {k0:oP R} {k1:Int->Bool->oP R} (ht:tl<=2) (hb:s.length<=30) (hs:∀ row∈s,Ds Se row) {m:Nat} (hm:s.length<m) :
  Wm n s (s.length:Int) Se tl k0 k1 m 0=k1 (s.length:Int) false:=by
 refine Qs (r:=fun m h=>Wm n s (s.length:Int) Se tl k0 k1 m h) (N:=s.length) (fun m h hh=>?_) (fun m=>?_) s.length m 0 QnI hm
 ·obtain ⟨x,d,ak,a,b,c,st,hx,ac,hn,_⟩:=hs _ (List.getElem_mem hh);have a0:=hn.a0;rw [Wm,QP QnO,show Q1 s (h:Int)=some [Q4 x,Q4 d] by grind [Q1,List.getElem?_eq_getElem],Q0];dsimp only [List.getElem?_cons_zero,List.getElem?_cons_succ];rw [Q0,Q0,Q2,Q0,ac,Q0];dsimp only [List.getElem?_cons_zero,List.getElem?_cons_succ];rw [Q0,Q2,Q0,Q8 (by grind),Q6 (x:=(h:Int)+1) QnI QnI,show (h:Int)+1=((h+1:Nat):Int) by omega]
 simp [Wm,Q8]
structure StkN (tl sp ac br:Int):Prop where
 t1:1<=tl
 t2:tl<=2
 s1:10000<=sp
 s2:sp<=25000
 a1:400<=ac
 a2:ac<=800
 b1:400<=br
 b2:br<=800
theorem B8 {nm:List UInt8} {tl sp ac br:Int} (h:StkN tl sp ac br) (K:Bool->oP R):Ud n nm tl sp ac br K=K true:=by
 obtain ⟨t1,t2,s1,s2,a1,a2,b1,b2⟩:=h
 grind [Ud]
theorem AX {s:LL} (a:s.length<=24) (K:LL->oP R):WY 400 s 0 K=K s:=by
 grind [Q9R,WY,Q0]
theorem QiE {St Pt Se Li s:LL} {N:Nat} {nm:List UInt8} {tl sp ac br:Int} (aj:P3 400 St Pt Se Li=true) (hN:Se.length=N) (h2:2<=s.length) (a:s.length<=24) (hr:rtB N Li s=true) (ho:∀ row∈s,Ds Se row)
  (hk:StkN tl sp ac br) (K:LL->Int->Int->oP R):KC 400 St Pt Se Li s 0 nm tl sp ac br K=K (Yb Se s) (HE Se s) 0:=by
 unfold KC;rw [Qfj aj hN h2 a hr ho,Q0,Q8 (by rfl),B8 hk,Q0,Q8 QnJ,AX a,Q0,Qgi hk.t2 QnI ho QnI]
theorem QdG {St Pt Se Li s:LL} {N:Nat} {nm:List UInt8} {tl sp ac br:Int} (aj:P3 400 St Pt Se Li=true) (hN:Se.length=N) (h2:2<=s.length) (a:s.length<=24) (hr:rtB N Li s=true) (ho:∀ row∈s,Ds Se row)
  (hk:StkN tl sp ac br) (K:Int->oP R):JS 400 St Pt Se Li s 0 nm tl sp ac br K=K 0:=by
 grind [JS,QiE,Q0]
end
end Go.Vx
namespace Go.Vx
variable {R:Type} (n:Nat)
def Ny (d e c f:LL) (a b:Int) (K:Qko R):oP R:=Qjp R (Qjo (Qjo (decide (a>=0)) (decide (a<(c.length:Int)))) (Qjn (b==0) (b==1))) fun h=>Qjs R h (Za n d e c f some) fun g=>K (Qjo h (g==0))
def ZR (j:LL) (e f g:Int) (k0:Qkm R):Qkn R
 | 0,_,_=>none
 | m+1,b,c=>bif decide (b<e) then QjE R j b fun d u v x=>Qk2 R d fun y o p=>Qk1 R u v x y fun z aa ab ac=>QjC R o p fun ad ae=>gb true (MS n z aa ab ac ad ae Tu4) (0,0,0,0) fun a=>bif f==a.1&&g==a.2.1 then Qjr R (N7 n a.2.2.1 a.2.2.2 Tu2) fun k=>QjC R o p fun q r=>Qjq R [[Q4 k.1,Q4 k.2,Q4 q,Q4 r]] fun i=>Qjr R (Y9 ((c.length+i.length)*32)) fun ah=>ZR j e f g k0 m (wJ (b+1)) (c++i) else bif f==a.2.2.1&&g==a.2.2.2 then Qjr R (N7 n a.1 a.2.1 Tu2) fun l=>QjC R o p fun s t=>Qjq R [[Q4 l.1,Q4 l.2,Q4 s,Q4 t]] fun h=>Qjr R (Y9 ((c.length+h.length)*32)) fun ai=>ZR j e f g k0 m (wJ (b+1)) (c++h) else ZR j e f g k0 m (wJ (b+1)) c else k0 b (decide (b<e)) c
def MF (d e f a:LL) (b c:Int) (K:Qkp R):oP R:=Qjr R (Ny n d e f a b c some) fun g=>bif !g then K [] else bif c==1 then ZR n a (a.length:Int) b 0 (fun j k h=>K h) n 0 [] else ZR n a (a.length:Int) b 1 (fun l m i=>K i) n 0 []
def Zf (n:Nat) (h2:LL) (c d e:Int) (k0:Qkj R) (k1:Qkk R):Qkl R
 | 0,_=>none
 | m+1,a=>bif decide (a<c) then QjE R h2 a fun b f g h=>Qjr R b[3]? fun l=>QjC R f g fun i j=>bif i==d&&j==e then Qjr R (pIw h) fun k=>k0 k else Zf n h2 c d e k0 k1 m (wJ (a+1)) else k1 a (decide (a<c))
def Z6 (b c d e:LL) (f g h i:Int) (K:Qkj R):oP R:=Qjr R (MF n b c d e f g some) fun a=>Zf n a (a.length:Int) h i (fun j=>K j) (fun k l=>K (-1:Int)) n 0
end Go.Vx
