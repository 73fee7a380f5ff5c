/- Part of a proof. No conditions of their own. -/
import Derived.Test.YtidplnfkjemokaaGreatTB
import Derived.Test.YtidplnfkjemokaaGreatTD
import Derived.Test.YtidplnfkjemokaaGreatTC
import Derived.Test.YtidplnfkjemokaaGreatProg
import Derived.Maps.Own
import Derived.Maps.Views
import Derived.StringKeys
import Derived.WalkKit
import Derived.Deep.AppendLies
import Derived.Laws.Rows
import Derived.OneCell
import Derived.Lib.LaidTab
import Derived.Orders
import Derived.LoopTactic
import Derived.Lib.Builder
import Derived.Carry
set_option linter.unusedVariables false
set_option linter.unusedSimpArgs false
namespace Go.Vx
variable {R:Type}
def Kb (n:Nat) (a0:Int) (a1:LL) (G:Int→LL) (p:LL) (a:Bool) (k0:Int→Option R):Option R:=
 k0 ((List.length a1:Nat):Int)
def Kx (n:Nat) (a0:Int) (a1:LL) (G:Int→LL) (p:LL) (d b:Int) (o:Bool) (k0:LL→Int→D→D→D→D→D→Option R) (k1:Bool→Option R):Option R:=
 bif (decide (b<d)) then
  gb true (X2 a1 b) [] fun a=>
  gb true (a[0]?) (.bool false) fun e=>
  gb true (a[1]?) (.bool false) fun g=>
  gb true (a[2]?) (.bool false) fun h=>
  gb true (a[3]?) (.bool false) fun i=>
  gb true (a[4]?) (.bool false) fun j=>
  gb true (XL .i64 e) 0 fun c=>
  gb true (X2 p b) [] fun k=>
  gb true (k[0]?) (.bool false) fun l=>
  gb true (XL .i64 l) 0 fun m=>
  gb true (slB (List.length (G c)) (some m) none) (0,0) fun f=>
  k0 (cut (G c) f) ((List.length (cut (G c) f):Nat):Int) e g h i j
 else
  k1 (decide (b<d))
def Kh (n:Nat) (a0:Int) (a1:LL) (G:Int→LL) (p:LL) (g w2:Int) (h:LL) (e a:Int) (i j k l m:D) (d:Bool) (k0:Bool→Bool→Option R) (k1:Int→Bool→Option R) (o:Bool→Option R):Option R:=
 bif (decide (a<e)) then
  gb true (X2 h a) [] fun q=>
  gb true (q[0]?) (.bool false) fun r=>
  gb true (XL .i64 r) 0 fun f=>
  gb true (X2 a1 f) [] fun b=>
  gb true (b[0]?) (.bool false) fun s=>
  gb true (b[1]?) (.bool false) fun t=>
  gb true (b[2]?) (.bool false) fun u=>
  gb true (b[3]?) (.bool false) fun v=>
  gb true (b[4]?) (.bool false) fun w=>
  gb true (XL .i64 i) 0 fun x=>
  gb true (XL .i64 j) 0 fun y=>
  gb true (XL .i64 k) 0 fun z=>
  gb true (XL .i64 l) 0 fun aa=>
  gb true (XL .i64 m) 0 fun ab=>
  gb true (XL .i64 s) 0 fun ac=>
  gb true (XL .i64 t) 0 fun ad=>
  gb true (XL .i64 u) 0 fun ae=>
  gb true (XL .i64 v) 0 fun af=>
  gb true (XL .i64 w) 0 fun ag=>
  gb true (P7 n a0 x y z aa ab ac ad ae af ag some) false fun ah=>
  bif ah then
   gb true (Uy n g f d (fun r0 r1=>some (r0,r1))) (false,false) fun c=>
   bif (bif true then (!c.1) else false) then
    k0 (bif true then (!c.1) else false) c.2
   else
    k1 (IntKind.wrap .i64 (a+(1:Int))) c.2
  else
   bif (bif false then false else false) then
    k0 (bif false then false else false) d
   else
    k1 (IntKind.wrap .i64 (a+(1:Int))) d
 else
  o (decide (a<e))
def VL (n:Nat) (a0:Int) (a1:LL) (G:Int→LL) (p:LL) (b c:Int) (d:LL) (e:Int) (f g h i j:D) (k0:Int→Bool→Bool→Option R) (k1:Int→Bool→Bool→Option R):Nat→Int→Bool→Option R
 | 0,_,_=>none
 | m+1,a,k=>
  Kh n a0 a1 G p b c d e a f g h i j k
   (fun l o=>
   k0 a l o)
   (fun q r=>
   VL n a0 a1 G p b c d e f g h i j k0 k1 m q r)
   (fun s=>
   k1 a s k)
def Rx (n:Nat) (a0:Int) (a1:LL) (G:Int→LL) (p:LL) (a b:Int) (c:LL) (d e:Int) (f:Bool) (g h i j k:D) (l:Bool) (k0:Int→Option R):Option R:=
 k0 (IntKind.wrap .i64 (a+(1:Int)))
def KC (n:Nat) (a0:Int) (a1:LL) (G:Int→LL) (p:LL) (a b:Int) (j:Bool) (k0:LL→Int→Int→Bool→D→D→D→D→D→Bool→Option R) (k1:Int→Bool→Option R) (l:Bool→Option R):Option R:=
 Kx n a0 a1 G p a b j
  (fun c d e f g h i=>
  VL n a0 a1 G p b a c d e f g h i
   (fun m o q=>
   k0 c d m o e f g h i q)
   (fun r s k=>
   Rx n a0 a1 G p b a c d r s e f g h i k
    (fun t=>
    k1 t k))
   n (0:Int) j)
  (fun u=>
  l u)
def K8 (n:Nat) (a0:Int) (a1:LL) (G:Int→LL) (p:LL) (b:Int) (k0:Int→LL→Int→Int→Bool→D→D→D→D→D→Bool→Option R) (k1:Int→Bool→Bool→Option R):Nat→Int→Bool→Option R
 | 0,_,_=>none
 | m+1,a,c=>
  KC n a0 a1 G p b a c
   (fun d e f g h i j k l o=>
   k0 a d e f g h i j k l o)
   (fun q r=>
   K8 n a0 a1 G p b k0 k1 m q r)
   (fun s=>
   k1 a s c)
def RQ (n:Nat) (a0:Int) (a1:LL) (G:Int→LL) (p:LL) (b:Bool) (k0:Int→Int→LL→Int→Int→Bool→D→D→D→D→D→Bool→Option R) (k1:Int→Int→Bool→Bool→Option R):Option R:=
 Kb n a0 a1 G p b
  (fun a=>
  K8 n a0 a1 G p a
   (fun c d e f g h i j k l m=>
   k0 c a d e f g h i j k l m)
   (fun o q r=>
   k1 a o q r)
   n (0:Int) b)
def GY (n:Nat) (a0:Int) (a1:LL) (a:Bool) (K:Bool→Option R):Option R:=
 Qbw a1 fun G p=>
 RQ n a0 a1 G p a
  (fun e b f g h i j k l m o c=>K c)
  (fun b q r d=>K d)
def Fg (n:Nat) (a0:Int) (a1:LL) (K:Bool→Option R):Option R:=
 gb true (Tz n a0 a1 some) false fun a=>
 bif (!a) then
  K false
 else
  gb true (GY n a0 a1 true some) false fun r2=>
  K r2

def Q29 (n:Nat) (a0 a1:Int) (K:Int→Option R):Option R:=
 bif (decide (a1<(1:Int))) then
  K (0:Int)
 else
  gb true (nz a1) () fun a=>
  bif (decide ((Int.tmod a0 a1)<(0:Int))) then
   K (IntKind.wrap .i64 ((Int.tmod a0 a1)+a1))
  else
   K (Int.tmod a0 a1)

end Go.Vx


namespace Go.Vx
variable {R:Type}
def MO (n:Nat) (a0:Int) (a1:LL) (c a:Int) (k0:Option R) (k1:Int→Int→Option R):Option R:=
 gb true (Tz n a0 a1 some) false fun b=>
 bif (!b) then
  k0
 else
  gb true (Q29 n a a0 some) 0 fun r2=>
  k1 r2 ((List.length a1:Nat):Int)
def Le (n:Nat) (a0 c h:Int) (a1:LL) (e a:Int) (f:LL) (k0:Int→LL→Option R) (k1:Int→Option R) (i:Bool→Option R):Option R:=
 bif (decide (a<e)) then
  gb true (X2 a1 a) [] fun b=>
  gb true (b[0]?) (.bool false) fun j=>
  gb true (b[1]?) (.bool false) fun k=>
  gb true (b[2]?) (.bool false) fun l=>
  gb true (b[3]?) (.bool false) fun m=>
  gb true (b[4]?) (.bool false) fun r=>
  gb true (XL .i64 j) 0 fun d=>
  gb (d == c) (XL .i64 l) 0 fun o=>
  gb (d == c) (Q29 n (IntKind.wrap .i64 (h-o)) a0 some) 0 fun p=>
  gb (d == c) (XL .i64 m) 0 fun q=>
  bif (bif (d == c) then (decide (p<q)) else false) then
   gb true (XL .i64 k) 0 fun g=>
   gb true (R0 ((List.length f+List.length [[D.int .i64 g]])*8)) () fun s=>
   k0 (IntKind.wrap .i64 (a+(1:Int))) (f++[[D.int .i64 g]])
  else
   k1 (IntKind.wrap .i64 (a+(1:Int)))
 else
  i (decide (a<e))
def K6 (n:Nat) (a0 a b:Int) (a1:LL) (c:Int) (k0:Int→Bool→LL→Option R):Nat→Int→LL→Option R
 | 0,_,_=>none
 | m+1,e,d=>
  Le n a0 a b a1 c e d
   (fun f g=>
   K6 n a0 a b a1 c k0 m f g)
   (fun h=>
   K6 n a0 a b a1 c k0 m h d)
   (fun i=>
   k0 e i d)
def BX (n:Nat) (a0 d e:Int) (a1:LL) (f g:Int) (h:Bool) (c:LL) (k0:LL→Option R):Option R:=
 gb true (Qa6 c) [] fun a=>
 gb true (R0 (List.length a)) () fun i=>
 gb true (Qa6 (Y0 (Q1q a))) [] fun b=>
 gb true (R0 (List.length b)) () fun j=>
 k0 (Y0 (DM b))
def Cv (n:Nat) (a0:Int) (a1:LL) (a d:Int) (k0:Option R) (k1:LL→Option R):Option R:=
 MO n a0 a1 a d
  (k0)
  (fun b c=>
  K6 n a0 a b a1 c
   (fun e f g=>
   BX n a0 a b a1 c e f g
    (fun h=>
    k1 h))
   n (0:Int) [])
def CW (n:Nat) (a0:Int) (a1:LL) (a b:Int) (K:LL→Option R):Option R:=
 Cv n a0 a1 a b
  (K [])
  (fun c=>K c)
def Nj (n:Nat) (a0 a1:LL) (k0:Option R) (k1:Int→Option R):Option R:=
 bif (((List.length a0:Nat):Int) != ((List.length a1:Nat):Int)) then
  k0
 else
  k1 ((List.length a0:Nat):Int)
def N7 (n:Nat) (a0 a1:LL) (b a:Int) (k0:Option R) (k1:Int→Option R) (c:Bool→Option R):Option R:=
 bif (decide (a<b)) then
  gb true (X2 a0 a) [] fun d=>
  gb true (d[0]?) (.bool false) fun e=>
  gb true (XL .i64 e) 0 fun f=>
  gb true (X2 a1 a) [] fun g=>
  gb true (g[0]?) (.bool false) fun h=>
  gb true (XL .i64 h) 0 fun i=>
  bif (f != i) then
   k0
  else
   k1 (IntKind.wrap .i64 (a+(1:Int)))
 else
  c (decide (a<b))
def Hm (n:Nat) (a0 a1:LL) (a:Int) (k0:Option R) (k1:Int→Bool→Option R):Nat→Int→Option R
 | 0,_=>none
 | m+1,b=>
  N7 n a0 a1 a b
   (k0)
   (fun c=>
   Hm n a0 a1 a k0 k1 m c)
   (fun d=>
   k1 b d)
def DI (n:Nat) (a0 a1:LL) (a b:Int) (c:Bool) (k0:Option R):Option R:=
 k0
def Dq (n:Nat) (a0 a1:LL) (k0:Bool→Option R):Option R:=
 Nj n a0 a1
  (k0 false)
  (fun a=>
  Hm n a0 a1 a
   (k0 false)
   (fun b c=>
   DI n a0 a1 a b c
    (k0 true))
   n (0:Int))
def ET (n:Nat) (a0 a1:LL) (K:Bool→Option R):Option R:=
 Dq n a0 a1
  (fun a=>K a)

def Q0b (n:Nat)  (K:Bool→Option R):Option R:=
 gb true (Fg n (5:Int) [[D.int .i64 (0:Int),D.int .i64 (3:Int),D.int .i64 (1:Int),D.int .i64 (2:Int),D.int .i64 (0:Int)]] some) false fun a=>
 gb a (CW n (5:Int) [[D.int .i64 (0:Int),D.int .i64 (3:Int),D.int .i64 (1:Int),D.int .i64 (2:Int),D.int .i64 (0:Int)]] (0:Int) (7:Int) some) [] fun r2=>
 gb a (ET n r2 [[D.int .i64 (3:Int)]] some) false fun r3=>
 K (bif a then r3 else false)

def ZV (n:Nat) (a0:LL) (k0:Option R) (k1:LL→Int→Int→LL→LL→LL→LL→LL→LL→LL→LL→Option R):Option R:=
 gb true (CG n a0 (fun b a r2 r3 c d e f g h i j=>some (b,a,r2,r3,c,d,e,f,g,h,i,j))) ([],[],[],[],0,[],[],[],[],[],[],[]) fun a=>
 gb true (Ho n a.1 a.2.1 a.2.2.1 a.2.2.2.1 a.2.2.2.2.1 a.2.2.2.2.2.1 a.2.2.2.2.2.2.1 a.2.2.2.2.2.2.2.1 a.2.2.2.2.2.2.2.2.1 a.2.2.2.2.2.2.2.2.2.1 a.2.2.2.2.2.2.2.2.2.2.1 a.2.2.2.2.2.2.2.2.2.2.2 (fun b a=>some (b,a))) ([],0) fun r2=>
 bif (r2.2 != (0:Int)) then
  k0
 else
  gb true (bif decide (0≤((List.length a.2.2.2.2.2.2.2.1:Nat):Int))&&decide (((List.length a.2.2.2.2.2.2.2.1:Nat):Int)≤((List.length a.2.2.2.2.2.2.2.1:Nat):Int)) then some () else none) () fun k=>
  gb true (R0 (Int.toNat ((List.length a.2.2.2.2.2.2.2.1:Nat):Int)*8)) () fun l=>
  k1 r2.1 ((List.length r2.1:Nat):Int) a.2.2.2.2.1 a.2.2.2.2.2.1 a.2.2.2.2.2.2.1 a.2.2.2.2.2.2.2.1 a.2.2.2.2.2.2.2.2.1 a.2.2.2.2.2.2.2.2.2.1 a.2.2.2.2.2.2.2.2.2.2.1 a.2.2.2.2.2.2.2.2.2.2.2 (List.replicate (Int.toNat ((List.length a.2.2.2.2.2.2.2.1:Nat):Int)) [D.int .i64 (0:Int)])
def Ve (n:Nat) (c:LL) (g b a h:Int) (i j k l m o p q:LL) (k0:Int→Option R) (k1:Bool→Option R):Option R:=
 bif (decide (a<b)) then
  gb true (X2 c a) [] fun d=>
  gb true (d[0]?) (.bool false) fun e=>
  gb true (pSl 1 e) [] fun f=>
  k0 ((List.length f:Nat):Int)
 else
  k1 (decide (a<b))
def V5 (n:Nat) (i:LL) (k j ba l a p:Int) (q r s t u v w h:LL) (k0:Option R) (k1:Int→Int→LL→Option R) (x:Bool→Option R):Option R:=
 bif (decide (a<l)) then
  gb true (X2 i j) [] fun y=>
  gb true (y[0]?) (.bool false) fun z=>
  gb true (pSl 1 z) [] fun aa=>
  gb true (X2 aa a) [] fun ab=>
  gb true (ab[0]?) (.bool false) fun ac=>
  gb true (XL .i64 ac) 0 fun e=>
  bif (bif (decide (e<(0:Int))) then true else (decide (e≥((List.length h:Nat):Int)))) then
   k0
  else
   gb true (inB (List.length h) e) () fun bb=>
   gb true (h[(Int.toNat e)]?) [] fun ad=>
   gb true (ad[0]?) (.bool false) fun ae=>
   gb true (XL .i64 ae) 0 fun m=>
   gb true (inB (List.length h) e) () fun bc=>
   gb true (h[(Int.toNat e)]?) [] fun o=>
   gb true (Q2M n p q r s t u v w e (fun r0 r1 r2 r3 r4=>some (r0,r1,r2,r3,r4))) ((.bool false),(.bool false),(.bool false),(.bool false),false) fun b=>
   gb true (X2 i j) [] fun ai=>
   gb true (ai[0]?) (.bool false) fun aj=>
   gb true (pSl 1 aj) [] fun c=>
   gb (a == (IntKind.wrap .i64 (((List.length c:Nat):Int)-(1:Int)))) (X2 i j) [] fun ak=>
   gb (a == (IntKind.wrap .i64 (((List.length c:Nat):Int)-(1:Int)))) (ak[1]?) (.bool false) fun al=>
   gb (a == (IntKind.wrap .i64 (((List.length c:Nat):Int)-(1:Int)))) (Eu al) false fun d=>
   gb (((!(bif (a == (IntKind.wrap .i64 (((List.length c:Nat):Int)-(1:Int)))) then (!(b.2.2.2.2 == d)) else false))&&(!(a == (IntKind.wrap .i64 (((List.length c:Nat):Int)-(1:Int))))))&&(!(!b.2.2.2.2))) (XL .i64 b.2.1) 0 fun f=>
   gb (((!(bif (a == (IntKind.wrap .i64 (((List.length c:Nat):Int)-(1:Int)))) then (!(b.2.2.2.2 == d)) else false))&&(!(a == (IntKind.wrap .i64 (((List.length c:Nat):Int)-(1:Int))))))&&(!(!b.2.2.2.2))) (X2 i j) [] fun am=>
   gb (((!(bif (a == (IntKind.wrap .i64 (((List.length c:Nat):Int)-(1:Int)))) then (!(b.2.2.2.2 == d)) else false))&&(!(a == (IntKind.wrap .i64 (((List.length c:Nat):Int)-(1:Int))))))&&(!(!b.2.2.2.2))) (am[0]?) (.bool false) fun an=>
   gb (((!(bif (a == (IntKind.wrap .i64 (((List.length c:Nat):Int)-(1:Int)))) then (!(b.2.2.2.2 == d)) else false))&&(!(a == (IntKind.wrap .i64 (((List.length c:Nat):Int)-(1:Int))))))&&(!(!b.2.2.2.2))) (pSl 1 an) [] fun ao=>
   gb (((!(bif (a == (IntKind.wrap .i64 (((List.length c:Nat):Int)-(1:Int)))) then (!(b.2.2.2.2 == d)) else false))&&(!(a == (IntKind.wrap .i64 (((List.length c:Nat):Int)-(1:Int))))))&&(!(!b.2.2.2.2))) (X2 ao (IntKind.wrap .i64 (a+(1:Int)))) [] fun ap=>
   gb (((!(bif (a == (IntKind.wrap .i64 (((List.length c:Nat):Int)-(1:Int)))) then (!(b.2.2.2.2 == d)) else false))&&(!(a == (IntKind.wrap .i64 (((List.length c:Nat):Int)-(1:Int))))))&&(!(!b.2.2.2.2))) (ap[0]?) (.bool false) fun aq=>
   gb (((!(bif (a == (IntKind.wrap .i64 (((List.length c:Nat):Int)-(1:Int)))) then (!(b.2.2.2.2 == d)) else false))&&(!(a == (IntKind.wrap .i64 (((List.length c:Nat):Int)-(1:Int))))))&&(!(!b.2.2.2.2))) (XL .i64 aq) 0 fun g=>
   gb ((!(bif (bif (a == (IntKind.wrap .i64 (((List.length c:Nat):Int)-(1:Int)))) then (!(b.2.2.2.2 == d)) else false) then true else (bif (!(a == (IntKind.wrap .i64 (((List.length c:Nat):Int)-(1:Int))))) then (bif (!b.2.2.2.2) then true else (f != g)) else false)))&&(bif (a == (IntKind.wrap .i64 (((List.length c:Nat):Int)-(1:Int)))) then b.2.2.2.2 else false)) (XL .i64 b.2.1) 0 fun ar=>
   gb ((!(bif (bif (a == (IntKind.wrap .i64 (((List.length c:Nat):Int)-(1:Int)))) then (!(b.2.2.2.2 == d)) else false) then true else (bif (!(a == (IntKind.wrap .i64 (((List.length c:Nat):Int)-(1:Int))))) then (bif (!b.2.2.2.2) then true else (f != g)) else false)))&&(bif (a == (IntKind.wrap .i64 (((List.length c:Nat):Int)-(1:Int)))) then b.2.2.2.2 else false)) (X2 i j) [] fun au=>
   gb ((!(bif (bif (a == (IntKind.wrap .i64 (((List.length c:Nat):Int)-(1:Int)))) then (!(b.2.2.2.2 == d)) else false) then true else (bif (!(a == (IntKind.wrap .i64 (((List.length c:Nat):Int)-(1:Int))))) then (bif (!b.2.2.2.2) then true else (f != g)) else false)))&&(bif (a == (IntKind.wrap .i64 (((List.length c:Nat):Int)-(1:Int)))) then b.2.2.2.2 else false)) (au[0]?) (.bool false) fun av=>
   gb ((!(bif (bif (a == (IntKind.wrap .i64 (((List.length c:Nat):Int)-(1:Int)))) then (!(b.2.2.2.2 == d)) else false) then true else (bif (!(a == (IntKind.wrap .i64 (((List.length c:Nat):Int)-(1:Int))))) then (bif (!b.2.2.2.2) then true else (f != g)) else false)))&&(bif (a == (IntKind.wrap .i64 (((List.length c:Nat):Int)-(1:Int)))) then b.2.2.2.2 else false)) (pSl 1 av) [] fun aw=>
   gb ((!(bif (bif (a == (IntKind.wrap .i64 (((List.length c:Nat):Int)-(1:Int)))) then (!(b.2.2.2.2 == d)) else false) then true else (bif (!(a == (IntKind.wrap .i64 (((List.length c:Nat):Int)-(1:Int))))) then (bif (!b.2.2.2.2) then true else (f != g)) else false)))&&(bif (a == (IntKind.wrap .i64 (((List.length c:Nat):Int)-(1:Int)))) then b.2.2.2.2 else false)) (X2 aw (0:Int)) [] fun ax=>
   gb ((!(bif (bif (a == (IntKind.wrap .i64 (((List.length c:Nat):Int)-(1:Int)))) then (!(b.2.2.2.2 == d)) else false) then true else (bif (!(a == (IntKind.wrap .i64 (((List.length c:Nat):Int)-(1:Int))))) then (bif (!b.2.2.2.2) then true else (f != g)) else false)))&&(bif (a == (IntKind.wrap .i64 (((List.length c:Nat):Int)-(1:Int)))) then b.2.2.2.2 else false)) (ax[0]?) (.bool false) fun ay=>
   gb ((!(bif (bif (a == (IntKind.wrap .i64 (((List.length c:Nat):Int)-(1:Int)))) then (!(b.2.2.2.2 == d)) else false) then true else (bif (!(a == (IntKind.wrap .i64 (((List.length c:Nat):Int)-(1:Int))))) then (bif (!b.2.2.2.2) then true else (f != g)) else false)))&&(bif (a == (IntKind.wrap .i64 (((List.length c:Nat):Int)-(1:Int)))) then b.2.2.2.2 else false)) (XL .i64 ay) 0 fun az=>
   bif (bif (bif (bif (a == (IntKind.wrap .i64 (((List.length c:Nat):Int)-(1:Int)))) then (!(b.2.2.2.2 == d)) else false) then true else (bif (!(a == (IntKind.wrap .i64 (((List.length c:Nat):Int)-(1:Int))))) then (bif (!b.2.2.2.2) then true else (f != g)) else false)) then true else (bif (bif (a == (IntKind.wrap .i64 (((List.length c:Nat):Int)-(1:Int)))) then b.2.2.2.2 else false) then (ar != az) else false)) then
    k0
   else
    bif b.2.2.2.2 then
     k1 (IntKind.wrap .i64 (k+(1:Int))) (IntKind.wrap .i64 (a+(1:Int))) (List.set h (Int.toNat e) (List.set o 0 (D.int .i64 (IntKind.wrap .i64 (m+(1:Int))))))
    else
     k1 k (IntKind.wrap .i64 (a+(1:Int))) (List.set h (Int.toNat e) (List.set o 0 (D.int .i64 (IntKind.wrap .i64 (m+(1:Int))))))
 else
  x (decide (a<l))
def ZN (n:Nat) (a:LL) (b c d e:Int) (f g h i j k l:LL) (k0:Option R) (k1:Int→Int→Bool→LL→Option R):Nat→Int→Int→LL→Option R
 | 0,_,_,_=>none
 | m+1,o,p,q=>
  V5 n a o b c d p e f g h i j k l q
   (k0)
   (fun r s t=>
   ZN n a b c d e f g h i j k l k0 k1 m r s t)
   (fun u=>
   k1 o p u q)
def Km (n:Nat) (b:LL) (c a d e f:Int) (g:Bool) (h:Int) (i j k l m o p q:LL) (k0:Int→Option R):Option R:=
 k0 (IntKind.wrap .i64 (a+(1:Int)))
def Vg (n:Nat) (a:LL) (l b c d:Int) (e f g h i j k m:LL) (k0:Option R) (k1:Int→Int→LL→Option R) (r:Bool→Option R):Option R:=
 Ve n a l b c d e f g h i j k m
  (fun o=>
  ZN n a c b o d e f g h i j k
   (k0)
   (fun p s t q=>
   Km n a p c b o s t d e f g h i j k q
    (fun u=>
    k1 p u q))
   n l (0:Int) m)
  (fun v=>
  r v)
def YV (n:Nat) (a:LL) (b c:Int) (d e f g h i j:LL) (k0:Option R) (k1:Int→Int→Bool→LL→Option R):Nat→Int→Int→LL→Option R
 | 0,_,_,_=>none
 | m+1,k,l,o=>
  Vg n a k b l c d e f g h i j o
   (k0)
   (fun p q r=>
   YV n a b c d e f g h i j k0 k1 m p q r)
   (fun s=>
   k1 k l s o)
def ZK (n:Nat) (b:LL) (c d e:Int) (f:Bool) (g:Int) (h i j k l m o a:LL) (k0:Int→Option R):Option R:=
 k0 ((List.length a:Nat):Int)
def V4 (n:Nat) (h b a i:Int) (j k l m o p q c:LL) (k0:Option R) (k1:Int→Option R) (d:Bool→Option R):Option R:=
 bif (decide (a<b)) then
  gb true (inB (List.length c) a) () fun r=>
  gb true (c[(Int.toNat a)]?) [] fun e=>
  gb true (e[0]?) (.bool false) fun f=>
  gb true (XL .i64 f) 0 fun g=>
  bif (g != (1:Int)) then
   k0
  else
   k1 (IntKind.wrap .i64 (a+(1:Int)))
 else
  d (decide (a<b))
def YR (n:Nat) (a b c:Int) (d e f g h i j k:LL) (k0:Option R) (k1:Int→Bool→Option R):Nat→Int→Option R
 | 0,_=>none
 | m+1,l=>
  V4 n a b l c d e f g h i j k
   (k0)
   (fun o=>
   YR n a b c d e f g h i j k k0 k1 m o)
   (fun p=>
   k1 l p)
def Uw (n:Nat) (a d e:Int) (f:Bool) (g:Int) (h i j k b l m o:LL) (k0:Bool→Option R):Option R:=
 gb true (Q0b n  some) false fun c=>
 k0 (bif c then (a == ((List.length b:Nat):Int)) else false)
def Uv (n:Nat) (a0:LL) (k0:Bool→Option R):Option R:=
 ZV n a0
  (k0 false)
  (fun k l a b c d e f g h o=>
  YV n k l a b c d e f g h
   (k0 false)
   (fun i p q j=>
   ZK n k i l p q a b c d e f g h j
    (fun m=>
    YR n i m a b c d e f g h j
     (k0 false)
     (fun r s=>
     Uw n i m r s a b c d e f g h j
      (fun t=>
      k0 t))
     n (0:Int)))
   n (0:Int) (0:Int) o)
def Ja (n:Nat) (a0:LL) (K:Bool→Option R):Option R:=
 Uv n a0
  (fun a=>K a)

end Go.Vx
namespace Go.Vx
def Fa (per:Int) (Sk Ro Ls Ch Tu Sy De:LL):Option Bool:=
  gb true (gb true (JC 40 per Sk Ro Ls Ch Tu Sy De some) [] fun r2=>some (r2,(0:Int))) ([],0) fun r2=>
  bif (r2.2 != (0:Int)) then some false
  else
    gb true (bif decide (0≤((List.length Ls:Nat):Int))&&decide (((List.length Ls:Nat):Int)≤((List.length Ls:Nat):Int)) then some () else none) () fun h=>
    gb true (R0 (Int.toNat ((List.length Ls:Nat):Int)*8)) () fun i=>
    YV 40 r2.1 ((List.length r2.1:Nat):Int) per Sk Ro Ls Ch Tu Sy De (some false)
      (fun a d e b=>
      ZK 40 r2.1 a ((List.length r2.1:Nat):Int) d e per Sk Ro Ls Ch Tu Sy De b
        (fun c=>
        YR 40 a c per Sk Ro Ls Ch Tu Sy De b (some false)
          (fun f g=>
          Uw 40 a c f g per Sk Ro Ls Ch Tu Sy De b some)
          40 (0:Int)))
      40 (0:Int) (0:Int) (List.replicate (Int.toNat ((List.length Ls:Nat):Int)) [D.int .i64 (0:Int)])
def isT:Option Bool→Bool
  | some b=>b
  | none=>false
theorem Qhh {o:Option Bool} (h:isT o=true):o=some true:=by
  cases o with
  | none=>cases h
  | some b=>cases b with
    | true=>rfl
    | false=>cases h
def Qeu (a b:Nat) (lo hi:Int):List D:=[Yo a,Yo b,Yo lo,Yo hi]
section
variable (per:Int) (Sk Ro Ch Sy De:LL) (x y z:List D) (lo hi lo' hi' lo'' hi'':Int)
theorem QfJ:isT (Fa per Sk Ro [x] Ch [] Sy De)=true∧isT (Fa per Sk Ro [x,y] Ch [] Sy De)=true∧isT (Fa per Sk Ro [x,y,z] Ch [] Sy De)=true:=⟨by kernel_rfl,by kernel_rfl,by kernel_rfl⟩
theorem Qhf:isT (Fa per Sk Ro [x] Ch [Qeu 0 0 lo hi] Sy De)=true:=by kernel_rfl
def r2:List Nat:=[0,1]
def r3:List Nat:=[0,1,2]
theorem QgW:(r2.all fun a=>r2.all fun b=>isT (Fa per Sk Ro [x,y] Ch [Qeu a b lo hi] Sy De))=true:=by kernel_rfl
theorem Qhw:(r3.all fun a=>r3.all fun b=>isT (Fa per Sk Ro [x,y,z] Ch [Qeu a b lo hi] Sy De))=true:=by kernel_rfl
theorem Qh8:(r2.all fun a=>r2.all fun b=>r2.all fun a'=>r2.all fun b'=>(Nat.beq a a'||Nat.beq b b')||isT (Fa per Sk Ro [x,y] Ch [Qeu a b lo hi,Qeu a' b' lo' hi'] Sy De))=true:=by kernel_rfl
theorem Qhb:(r3.all fun a=>r3.all fun b=>r3.all fun a'=>r3.all fun b'=>(Nat.beq a a'||Nat.beq b b')||isT (Fa per Sk Ro [x,y,z] Ch [Qeu a b lo hi,Qeu a' b' lo' hi'] Sy De))=true:=by kernel_rfl
theorem Qhs:(r3.all fun a=>r3.all fun b=>r3.all fun a'=>r3.all fun b'=>(Nat.beq a a'||Nat.beq b b')||r3.all fun a''=>r3.all fun b''=>(Nat.beq a a''||Nat.beq b b''||Nat.beq a' a''||Nat.beq b' b'')||isT (Fa per Sk Ro [x,y,z] Ch [Qeu a b lo hi,Qeu a' b' lo' hi',Qeu a'' b'' lo'' hi''] Sy De))=true:=by kernel_rfl
end
theorem QeU {l:List Nat} {f:Nat→Nat→Bool} (h:(l.all fun a=>l.all fun b=>f a b)=true) {a b:Nat} (ha:a∈l) (hb:b∈l):f a b=true:=List.all_eq_true.1 (List.all_eq_true.1 h a ha) b hb
theorem QgN {a:Nat} (h:a<2):a∈r2:=by
  obtain rfl | rfl:a=0∨a=1:=by omega
  all_goals decide
theorem QcT {a:Nat} (h:a<3):a∈r3:=by
  obtain rfl | rfl | rfl:a=0∨a=1∨a=2:=by omega
  all_goals decide
theorem Qcd {a b:Nat} (h:a≠b):Nat.beq a b=false:=Bool.eq_false_iff.2 fun e=>h (Nat.eq_of_beq_eq_true e)
theorem ne2 {a b a' b':Nat} {x:Bool} (h:(Nat.beq a a'||Nat.beq b b'||x)=true) (c:a≠a') (d:b≠b'):x=true:=by
  have e1:Nat.beq a a'=false:=Qcd c
  have e2:Nat.beq b b'=false:=Qcd d
  simpa [e1,e2] using h
theorem ne4 {a b a' b' c d c' d':Nat} {x:Bool} (h:(Nat.beq a a'||Nat.beq b b'||Nat.beq c c'||Nat.beq d d'||x)=true) (e:a≠a') (f:b≠b') (g:c≠c') (i:d≠d'):x=true:=by
  have e1:Nat.beq a a'=false:=Qcd e
  have e2:Nat.beq b b'=false:=Qcd f
  have j:Nat.beq c c'=false:=Qcd g
  have k:Nat.beq d d'=false:=Qcd i
  simpa [e1,e2,j,k] using h
theorem Qi8 {G:Geo} {per:Int} {Sk Ro Ls Ch Tu Sy De:LL} (h:PlanR G per Sk Ro Ls Ch Tu Sy De):Fa per Sk Ro Ls Ch Tu Sy De=some true:=by
  obtain ⟨T,rfl,hT,c,d,_⟩:=h.tu
  have l0:=h.l0
  have l1:=h.l1
  have hb:∀ t∈T,t.1<Ls.length∧t.2.1<Ls.length:=fun t ht=>⟨(hT t ht).1,(hT t ht).2.1⟩
  clear hT h
  apply Qhh
  rcases Ls with _ | ⟨x,_ | ⟨y,_ | ⟨z,_ | ⟨w,r⟩⟩⟩⟩
  · simp at l0
  · rcases T with _ | ⟨⟨a,b,lo,hi⟩,_ | ⟨⟨a',b',lo',hi'⟩,T⟩⟩
    · exact (QfJ per Sk Ro Ch Sy De x x x).1
    · obtain ⟨ha,e⟩:=hb _ (List.mem_cons_self ..)
      obtain rfl:a=0:=by simpa using ha
      obtain rfl:b=0:=by simpa using e
      exact Qhf per Sk Ro Ch Sy De x lo hi
    · have f:=(hb _ (List.mem_cons_self ..)).1
      have g:=(hb _ (List.mem_cons_of_mem _ (List.mem_cons_self ..))).1
      simp at f g c
      omega
  · rcases T with _ | ⟨⟨a,b,lo,hi⟩,_ | ⟨⟨a',b',lo',hi'⟩,_ | ⟨⟨a'',b'',lo'',hi''⟩,T⟩⟩⟩
    · exact (QfJ per Sk Ro Ch Sy De x y x).2.1
    · obtain ⟨ha,hb⟩:=hb _ (List.mem_cons_self ..)
      exact QeU (QgW per Sk Ro Ch Sy De x y lo hi) (QgN ha) (QgN hb)
    · obtain ⟨ha,e⟩:=hb _ (List.mem_cons_self ..)
      obtain ⟨ha',hb'⟩:=hb _ (List.mem_cons_of_mem _ (List.mem_cons_self ..))
      simp at c d
      exact ne2 (QeU (QeU (Qh8 per Sk Ro Ch Sy De x y lo hi lo' hi') (QgN ha) (QgN e)) (QgN ha') (QgN hb')) c d
    · have f:=(hb _ (List.mem_cons_self ..)).1
      have g:=(hb _ (List.mem_cons_of_mem _ (List.mem_cons_self ..))).1
      have i:=(hb _ (List.mem_cons_of_mem _ (List.mem_cons_of_mem _ (List.mem_cons_self ..)))).1
      simp at f g i c
      omega
  · rcases T with _ | ⟨⟨a,b,lo,hi⟩,_ | ⟨⟨a',b',lo',hi'⟩,_ | ⟨⟨a'',b'',lo'',hi''⟩,_ | ⟨⟨k,l,m,n⟩,T⟩⟩⟩⟩
    · exact (QfJ per Sk Ro Ch Sy De x y z).2.2
    · obtain ⟨ha,hb⟩:=hb _ (List.mem_cons_self ..)
      exact QeU (Qhw per Sk Ro Ch Sy De x y z lo hi) (QcT ha) (QcT hb)
    · obtain ⟨ha,e⟩:=hb _ (List.mem_cons_self ..)
      obtain ⟨ha',hb'⟩:=hb _ (List.mem_cons_of_mem _ (List.mem_cons_self ..))
      simp at c d
      exact ne2 (QeU (QeU (Qhb per Sk Ro Ch Sy De x y z lo hi lo' hi') (QcT ha) (QcT e)) (QcT ha') (QcT hb')) c d
    · obtain ⟨ha,e⟩:=hb _ (List.mem_cons_self ..)
      obtain ⟨ha',hb'⟩:=hb _ (List.mem_cons_of_mem _ (List.mem_cons_self ..))
      obtain ⟨ha'',hb''⟩:=hb _ (List.mem_cons_of_mem _ (List.mem_cons_of_mem _ (List.mem_cons_self ..)))
      simp at c d
      have f:=ne2 (QeU (QeU (Qhs per Sk Ro Ch Sy De x y z lo hi lo' hi' lo'' hi'') (QcT ha) (QcT e)) (QcT ha') (QcT hb')) c.1.1 d.1.1
      exact ne4 (QeU f (QcT ha'') (QcT hb'')) c.1.2 d.1.2 c.2 d.2
    · have f:=(hb _ (List.mem_cons_self ..)).1
      have g:=(hb _ (List.mem_cons_of_mem _ (List.mem_cons_self ..))).1
      have i:=(hb _ (List.mem_cons_of_mem _ (List.mem_cons_of_mem _ (List.mem_cons_self ..)))).1
      have j:=(hb _ (List.mem_cons_of_mem _ (List.mem_cons_of_mem _ (List.mem_cons_of_mem _ (List.mem_cons_self ..))))).1
      simp at f g i j c
      omega
  · simp at l1
theorem rotationsA {l:List Int} (hl:l.length≤9223372036854775807):Ja 40 (encI l) some=some true:=by
  refine okS ?_
  unfold Ja Uv ZV
  refine okB (Qis hl fun G per Sk Ro Ls Ch Tu Sy De h=>okI ?_)
  have hc:FM 40 G.St G.Pt G.Se G.Li per Sk Ro Ls Ch Tu Sy De (some:Int→Option Int)=some 0:=by
    unfold FM
    rw [QfU h]
    rfl
  unfold Ho
  dsimp only
  rw [hc,Q0]
  exact ⟨true,Qi8 h,rfl⟩

end Go.Vx
namespace Go.Vx
open Go.Proofs
def gtt:TT:=[(3,⟨.int .i64,1,8,[.int .i64 0],[.int .i64 0],[],none⟩),(4,⟨.bool,1,1,[.bool false],[.bool false],[],none⟩),(5,⟨.int .u8,1,1,[.int .u8 0],[.int .u8 0],[],none⟩),(9,⟨.str,1,16,[.string ⟨#[]⟩],[.str []],[],none⟩),(22,⟨.sl 3 1,1,24,[.slice none 0 0],[.sl 1 []],[],none⟩),(23,⟨.sl 9 1,1,24,[.slice none 0 0],[.sl 1 []],[],none⟩),(24,⟨.sl 70 5,1,24,[.slice none 0 0],[.sl 5 []],[],none⟩),(25,⟨.sl 113 6,1,24,[.slice none 0 0],[.sl 6 []],[],none⟩),(27,⟨.struct,4,96,[.slice none 0 0,.slice none 0 0,.slice none 0 0,.slice none 0 0],[.sl 1 [],.sl 1 [],.sl 5 [],.sl 6 []],[(0,23),(1,23),(2,24),(3,25)],none⟩),(28,⟨.sl 57 5,1,24,[.slice none 0 0],[.sl 5 []],[],none⟩),(29,⟨.sl 95 2,1,24,[.slice none 0 0],[.sl 2 []],[],none⟩),(30,⟨.sl 68 4,1,24,[.slice none 0 0],[.sl 4 []],[],none⟩),(31,⟨.sl 65 7,1,24,[.slice none 0 0],[.sl 7 []],[],none⟩),(32,⟨.sl 46 4,1,24,[.slice none 0 0],[.sl 4 []],[],none⟩),(33,⟨.sl 73 5,1,24,[.slice none 0 0],[.sl 5 []],[],none⟩),(34,⟨.sl 75 3,1,24,[.slice none 0 0],[.sl 3 []],[],none⟩),(36,⟨.struct,8,176,[.int .i64 0,.slice none 0 0,.slice none 0 0,.slice none 0 0,.slice none 0 0,.slice none 0 0,.slice none 0 0,.slice none 0 0],[.int .i64 0,.sl 5 [],.sl 2 [],.sl 4 [],.sl 7 [],.sl 4 [],.sl 5 [],.sl 3 []],[(0,3),(1,28),(2,29),(3,30),(4,31),(5,32),(6,33),(7,34)],none⟩),(39,⟨.sl 44 2,1,24,[.slice none 0 0],[.sl 2 []],[],none⟩),(40,⟨.int .i64,1,8,[.int .i64 0],[.int .i64 0],[],none⟩),(44,⟨.struct,2,32,[.slice none 0 0,.bool false],[.sl 1 [],.bool false],[(0,22),(1,4)],none⟩),(46,⟨.struct,4,32,[.int .i64 0,.int .i64 0,.int .i64 0,.int .i64 0],[.int .i64 0,.int .i64 0,.int .i64 0,.int .i64 0],[(0,3),(1,3),(2,3),(3,3)],some [.int .i64,.int .i64,.int .i64,.int .i64]⟩),(57,⟨.struct,5,48,[.string ⟨#[]⟩,.int .i64 0,.int .i64 0,.int .i64 0,.int .i64 0],[.str [],.int .i64 0,.int .i64 0,.int .i64 0,.int .i64 0],[(0,9),(1,3),(2,3),(3,3),(4,3)],some [.str,.int .i64,.int .i64,.int .i64,.int .i64]⟩),(60,⟨.sl 22 1,1,24,[.slice none 0 0],[.sl 1 []],[],none⟩),(62,⟨.struct,7,168,[.slice none 0 0,.slice none 0 0,.slice none 0 0,.slice none 0 0,.slice none 0 0,.slice none 0 0,.slice none 0 0],[.sl 1 [],.sl 1 [],.sl 5 [],.sl 6 [],.sl 1 [],.sl 1 [],.sl 1 []],[(0,27),(4,60),(5,60),(6,60)],none⟩),(65,⟨.struct,7,56,[.int .i64 0,.int .i64 0,.int .i64 0,.int .i64 0,.int .i64 0,.int .i64 0,.int .i64 0],[.int .i64 0,.int .i64 0,.int .i64 0,.int .i64 0,.int .i64 0,.int .i64 0,.int .i64 0],[(0,3),(1,3),(2,3),(3,3),(4,3),(5,3),(6,3)],some [.int .i64,.int .i64,.int .i64,.int .i64,.int .i64,.int .i64,.int .i64]⟩),(66,⟨.sl 98 4,1,24,[.slice none 0 0],[.sl 4 []],[],none⟩),(68,⟨.struct,4,56,[.string ⟨#[]⟩,.int .i64 0,.int .i64 0,.slice none 0 0],[.str [],.int .i64 0,.int .i64 0,.sl 4 []],[(0,9),(1,3),(2,3),(3,66)],none⟩),(70,⟨.struct,5,48,[.string ⟨#[]⟩,.int .i64 0,.int .i64 0,.int .i64 0,.int .i64 0],[.str [],.int .i64 0,.int .i64 0,.int .i64 0,.int .i64 0],[(0,9),(1,3),(2,3),(3,3),(4,3)],some [.str,.int .i64,.int .i64,.int .i64,.int .i64]⟩),(73,⟨.struct,5,40,[.int .i64 0,.int .i64 0,.int .i64 0,.int .i64 0,.int .i64 0],[.int .i64 0,.int .i64 0,.int .i64 0,.int .i64 0,.int .i64 0],[(0,3),(1,3),(2,3),(3,3),(4,3)],some [.int .i64,.int .i64,.int .i64,.int .i64,.int .i64]⟩),(75,⟨.struct,3,24,[.int .i64 0,.int .i64 0,.int .i64 0],[.int .i64 0,.int .i64 0,.int .i64 0],[(0,3),(1,3),(2,3)],some [.int .i64,.int .i64,.int .i64]⟩),(79,⟨.struct,5,40,[.int .i64 0,.int .i64 0,.int .i64 0,.int .i64 0,.int .i64 0],[.int .i64 0,.int .i64 0,.int .i64 0,.int .i64 0,.int .i64 0],[(0,3),(1,3),(2,3),(3,3),(4,3)],some [.int .i64,.int .i64,.int .i64,.int .i64,.int .i64]⟩),(80,⟨.sl 79 5,1,24,[.slice none 0 0],[.sl 5 []],[],none⟩),(85,⟨.struct,2,32,[.slice none 0 0,.int .i64 0],[.sl 1 [],.int .i64 0],[(0,22),(1,3)],none⟩),(92,⟨.array 3 1 3,3,24,[.int .i64 0,.int .i64 0,.int .i64 0],[.int .i64 0,.int .i64 0,.int .i64 0],[(0,3),(1,3),(2,3)],none⟩),(93,⟨.sl 101 2,1,24,[.slice none 0 0],[.sl 2 []],[],none⟩),(95,⟨.struct,2,32,[.slice none 0 0,.int .i64 0],[.sl 2 [],.int .i64 0],[(0,93),(1,3)],none⟩),(98,⟨.struct,4,32,[.int .i64 0,.int .i64 0,.int .i64 0,.int .i64 0],[.int .i64 0,.int .i64 0,.int .i64 0,.int .i64 0],[(0,3),(1,3),(2,3),(3,3)],some [.int .i64,.int .i64,.int .i64,.int .i64]⟩),(99,⟨.array 4 1 4,4,4,[.bool false,.bool false,.bool false,.bool false],[.bool false,.bool false,.bool false,.bool false],[(0,4),(1,4),(2,4),(3,4)],none⟩),(101,⟨.struct,2,16,[.int .i64 0,.int .i64 0],[.int .i64 0,.int .i64 0],[(0,3),(1,3)],some [.int .i64,.int .i64]⟩),(104,⟨.sl 4 1,1,24,[.slice none 0 0],[.sl 1 []],[],none⟩),(113,⟨.struct,6,48,[.int .i64 0,.int .i64 0,.int .i64 0,.int .i64 0,.int .i64 0,.int .i64 0],[.int .i64 0,.int .i64 0,.int .i64 0,.int .i64 0,.int .i64 0,.int .i64 0],[(0,3),(1,3),(2,3),(3,3),(4,3),(5,3)],some [.int .i64,.int .i64,.int .i64,.int .i64,.int .i64,.int .i64]⟩),(115,⟨.int .u64,1,8,[.int .u64 0],[.int .u64 0],[],none⟩),(132,⟨.mapI,1,8,[.map none],[],[],none⟩),(155,⟨.int .u32,1,4,[.int .u32 0],[.int .u32 0],[],none⟩),(157,⟨.int .u64,1,8,[.int .u64 0],[.int .u64 0],[],none⟩),(168,⟨.struct,2,16,[.int .i64 0,.int .i64 0],[.int .i64 0,.int .i64 0],[(0,3),(1,3)],some [.int .i64,.int .i64]⟩),(176,⟨.sl 201 2,1,24,[.slice none 0 0],[.sl 2 []],[],none⟩),(178,⟨.struct,2,32,[.slice none 0 0,.int .i64 0],[.sl 2 [],.int .i64 0],[(0,176),(1,3)],none⟩),(181,⟨.int .u64,1,8,[.int .u64 0],[.int .u64 0],[],none⟩),(190,⟨.struct,2,16,[.int .i64 0,.int .i64 0],[.int .i64 0,.int .i64 0],[(0,3),(1,3)],some [.int .i64,.int .i64]⟩),(201,⟨.struct,2,16,[.int .i64 0,.int .i64 0],[.int .i64 0,.int .i64 0],[(0,3),(1,3)],some [.int .i64,.int .i64]⟩)]
theorem Qhj:TOk Tryz.prog gtt:=(show QfT Tryz.prog [3,4,5,9,22,23,24,25,27,28,29,30,31,32,33,34,36,39,40,44,46,57,60,62,65,66,68,70,73,75,79,80,85,92,93,95,98,99,101,104,113,115,132,155,157,168,176,178,181,190,201]=gtt by kernel_rfl)▸Qec _
theorem gVC {spec:Q9K} {cfg:List (Nat × Cfg)} (h:Q1P Tryz.prog spec):VCOk Tryz.prog ⟨spec,gtt,cfg⟩:=⟨h,Qhj,by kernel_rfl⟩
end Go.Vx
set_option maxRecDepth 100000
namespace Go.Vx
open Go.Proofs
noncomputable def Q9x:Code:=Q8 Tryz.f8
def Q5E (n:Nat):VC:=⟨QK [],gtt,[cK 0 [0],cO 1 [2] [5]]⟩
theorem Q9X (n:Nat):VCOk Tryz.prog (Q5E n):=gVC (Qe trivial)
def Bx:AV→List (Nat × Ob)→Option (LL × Int):=fun av H=>(look H 5).bind fun o0=>match av,o0 with
 | .ptr p0 p1,.box [.d (D.sl 1 a),.d (D.int .i64 b)]=>bif Nat.beq p0 5&&(Nat.beq p1 0) then some (a,b) else none
 | _,_=>none
theorem Q8q (n:Nat) (a0:LL):vfn (Q5E n) n Tryz.f8 [.d (D.sl 1 a0)] [] Bx=Q1B n a0 (fun a b=>some (a,b)):=
 (VP (c:=Q9x) (m:=6) (tm:=[(0,dL 1 a0)]) (rs:=[.tmp 2]) (tt:=gtt)).trans (by kernel_rfl)
def Q0f (n:Nat):XH:=fun _ site g avs hl k=>match avs with
 | [c0]=>prS g 1 c0 fun a0=>
  bif UY hl [] [(5,(site+50000))] then gb g (Q1B n a0 (fun a b=>some (a,b))) ([],0) fun r=>k ⟨.ptr (site+50000) 0,[((site+50000),some (.box [.d (D.sl 1 r.1),.d (D.int .i64 r.2)]))],[]⟩ else none
 | _=>none
theorem Q98 (n:Nat):Qo Tryz.prog 8 (Q0f n):=by
  intro R site g avs hl k r h
  unfold Q0f at h
  split at h
  rotate_left
  · cases h
  obtain ⟨a0,h,b⟩:=Q1 h
  obtain ⟨hc,h⟩:=Xa h
  obtain ⟨res,h,hr⟩:=Qc h
  refine ⟨_,h,fun hg=>QI.conv (avs':=[.d (D.sl 1 a0)]) (.cons (b hg) (.nil)) (Ad (K:=Bx) (res:=res) (Q9X n) (fn:=Tryz.f8) (n:=n) (by kernel_rfl) (by kernel_rfl) (by kernel_rfl) (ρ:=[]) (ν:=[(5,(site+50000))]) (avs':=[.d (D.sl 1 a0)]) (H:=[]) rfl rfl rfl rfl hc (trivial) rfl rfl ?_ ?_)⟩
  · exact (Q8q n a0).trans (hr hg)
  · intro av H' hx
    unfold Bx at hx
    simp only [Option.bind_eq_some_iff] at hx
    obtain ⟨o0,a,hx⟩:=hx
    split at hx
    rotate_left
    · cases hx
    replace hx:=Xa hx
    obtain ⟨hck,hx⟩:=hx
    simp only [Bool.and_eq_true,Nat.beq_eq] at hck
    obtain ⟨rfl,rfl⟩:=hck
    injection hx with hx
    subst hx
    refine ⟨rfl,?_,⟨by rw [a];rfl,trivial⟩,trivial⟩
    simp only [List.cons_append,List.nil_append,K2,a,Option.map_some]
    rfl
end Go.Vx
set_option maxRecDepth 100000
namespace Go.Vx
open Go.Proofs
variable {R:Type}
noncomputable def Qaf:Code:=Q8 Tryz.f25
def Q6D (n:Nat):VC:=⟨QK [],gtt,[cK 0 [0,1],cK 1 [4]]⟩
theorem Q92 (n:Nat):VCOk Tryz.prog (Q6D n):=gVC (Qe trivial)
theorem Q8e (n:Nat) (a0 a1:Int) (K:AV→Option R):vfn (Q6D n) n Tryz.f25 [.d (D.int .i64 a0),.d (D.int .i64 a1)] [] (Wc [[0]] K)=BC n a0 a1 (fun a=>K (.d (D.int .i64 a))):=
 (VP (c:=Qaf) (m:=11) (tm:=[(0,dI a0),(1,dI a1)]) (rs:=[.tmp 4]) (tt:=gtt)).trans (by kernel_rfl)
def Q08 (n:Nat):XH:=fun _ _ g avs _ k=>match avs with
 | [c0,c1]=>prI g .i64 c0 fun a0=>prI g .i64 c1 fun a1=>
  gb g (BC n a0 a1 some) 0 fun r=>k ⟨.d (D.int .i64 r),[],[]⟩
 | _=>none
theorem Qa4 (n:Nat):Qo Tryz.prog 25 (Q08 n):=by
  intro R site g avs hl k r h
  unfold Q08 at h
  split at h
  rotate_left
  · cases h
  obtain ⟨a0,h,a⟩:=Q2 h
  obtain ⟨a1,h,b⟩:=Q2 h
  obtain ⟨res,h,hr⟩:=Qc h
  refine ⟨_,h,fun hg=>QI.conv (avs':=[.d (D.int .i64 a0),.d (D.int .i64 a1)]) (.cons (a hg) (.cons (b hg) (.nil))) (QE (K:=kI) (res:=res) (Q92 n) (fn:=Tryz.f25) (n:=n) (ss:=[[0]]) ?_ ?_)⟩
  · exact (Q8e n a0 a1 kI).trans (hr hg)
  · exact NW
end Go.Vx
set_option maxRecDepth 100000
namespace Go.Vx
open Go.Proofs
noncomputable def Q0Y:Code:=Q8 Tryz.f10
def LS (n:Nat):VC:=⟨QK [(25,Q08 n)],gtt,[cO 0 [0,1] [1000000],cO 1 [0,1,14] [1000000],cO 2 [4] [1000000],cO 3 [0,1] [1000000],cO 4 [4] [1000000]]⟩
theorem Q0K (n:Nat):VCOk Tryz.prog (LS n):=gVC (Qe ⟨Qa4 n,trivial⟩)
def HP:AV→List (Nat × Ob)→Option (Int × LL × Int):=fun av H=>(look H 1000000).bind fun o0=>match av,o0 with
 | .d (D.int .i64 a),.box [.d (D.sl 1 b),.d (D.int .i64 r2)]=>some (a,b,r2)
 | _,_=>none
theorem Ak (n:Nat) (a:LL) (b a1:Int):vfn (LS n) n Tryz.f10 [.ptr 1000000 0,.d (D.int .i64 a1)] [(1000000,.box [.d (D.sl 1 a),.d (D.int .i64 b)])] HP=Qb n a b a1 (fun d e r2=>some (d,e,r2)):=
 (VP (c:=Q0Y) (m:=35) (tm:=[(0,.ptr 1000000 0),(1,dI a1)]) (rs:=[.tmp 4]) (tt:=gtt)).trans (by kernel_rfl)
def ZT (n:Nat):XH:=fun _ site g avs hl k=>match avs with
 | [c0,c1]=>
  prP hl c0 fun l0 b0=>(match b0 with
  | [a,b]=>prS g 1 a fun c=>prI g .i64 b fun d=>prI g .i64 c1 fun a1=>
  bif UY hl [(1000000,l0)] [] then gb g (Qb n c d a1 (fun e f r2=>some (e,f,r2))) (0,[],0) fun r=>k ⟨.d (D.int .i64 r.1),[(l0,some (.box [.d (D.sl 1 r.2.1),.d (D.int .i64 r.2.2)]))],[l0]⟩ else none
  | _=>none)
 | _=>none
theorem V0 (n:Nat):Qo Tryz.prog 10 (ZT n):=by
  intro R site g avs hl k r h
  unfold ZT at h
  split at h
  rotate_left
  · cases h
  obtain ⟨l0,b0,h,d,e⟩:=YT h
  split at h
  rotate_left
  · cases h
  obtain ⟨b,h,f⟩:=Q1 h
  obtain ⟨c,h,i⟩:=Q2 h
  obtain ⟨a1,h,j⟩:=Q2 h
  obtain ⟨hc,h⟩:=Xa h
  obtain ⟨res,h,hr⟩:=Qc h
  have hL:=h
  subst d
  refine ⟨_,hL,fun hg=>QI.conv (avs':=[.ptr l0 0,.d (D.int .i64 a1)]) (.cons (.refl _) (.cons (j hg) (.nil))) (Ad (K:=HP) (res:=res) (Q0K n) (fn:=Tryz.f10) (n:=n) (by kernel_rfl) (by kernel_rfl) (by kernel_rfl) (ρ:=[(1000000,l0)]) (ν:=[]) (avs':=[.ptr 1000000 0,.d (D.int .i64 a1)]) (H:=[(1000000,.box [.d (D.sl 1 b),.d (D.int .i64 c)])]) rfl rfl rfl rfl hc (⟨⟨by decide,_,_,e,rfl,.cons (f hg) (.cons (i hg) (.nil)),rfl⟩,trivial⟩) rfl rfl ?_ ?_)⟩
  · exact (Ak n b c a1).trans (hr hg)
  · intro av H' hx
    unfold HP at hx
    simp only [Option.bind_eq_some_iff] at hx
    obtain ⟨o0,a,hx⟩:=hx
    split at hx
    rotate_left
    · cases hx
    injection hx with hx
    subst hx
    refine ⟨rfl,?_,⟨by rw [a];rfl,trivial⟩,⟨⟨_,_,rfl,a,rfl⟩,trivial⟩⟩
    simp only [List.cons_append,List.nil_append,K2,a,Option.map_some]
    rfl
end Go.Vx
set_option maxRecDepth 100000
namespace Go.Vx
open Go.Proofs
variable {R:Type}
noncomputable def Q87:Code:=Q8 Tryz.f20
def Q3E (n:Nat):VC:=⟨QK [],gtt,[cK 0 [0,1],cK 1 [4]]⟩
theorem Q8o (n:Nat):VCOk Tryz.prog (Q3E n):=gVC (Qe trivial)
theorem Q6X (n:Nat) (a0:List UInt8) (a1:Int) (K:AV→Option R):vfn (Q3E n) n Tryz.f20 [.d (D.str a0),.d (D.int .i64 a1)] [] (Wc [[0]] K)=Jd n a0 a1 (fun a=>K (.d (D.str a))):=
 (VP (c:=Q87) (m:=13) (tm:=[(0,dT a0),(1,dI a1)]) (rs:=[.tmp 4]) (tt:=gtt)).trans (by kernel_rfl)
def Br:AV→Option (List UInt8):=fun av=>match av with
 | .d (D.str a)=>some a
 | _=>none
def RV (n:Nat):XH:=fun _ _ g avs _ k=>match avs with
 | [c0,c1]=>prT g c0 fun a0=>prI g .i64 c1 fun a1=>
  gb g (Jd n a0 a1 some) [] fun r=>k ⟨.d (D.str r),[],[]⟩
 | _=>none
theorem D5 (n:Nat):Qo Tryz.prog 20 (RV n):=by
  intro R site g avs hl k r h
  unfold RV at h
  split at h
  rotate_left
  · cases h
  obtain ⟨a0,h,a⟩:=VN h
  obtain ⟨a1,h,b⟩:=Q2 h
  obtain ⟨res,h,hr⟩:=Qc h
  refine ⟨_,h,fun hg=>QI.conv (avs':=[.d (D.str a0),.d (D.int .i64 a1)]) (.cons (a hg) (.cons (b hg) (.nil))) (QE (K:=Br) (res:=res) (Q8o n) (fn:=Tryz.f20) (n:=n) (ss:=[[0]]) ?_ ?_)⟩
  · exact (Q6X n a0 a1 Br).trans (hr hg)
  · intro x hx
    unfold Br at hx
    split at hx
    · injection hx with hx;subst hx;rfl
    · cases hx
end Go.Vx
set_option maxRecDepth 100000
namespace Go.Vx
open Go.Proofs
noncomputable def DP:Code:=Q8 Tryz.f21
def Rl (n:Nat):VC:=⟨QK [(10,ZT n)],gtt,[cO 0 [0,1,2,6] [6,1000000],cO 1 [6] [6,1000000]]⟩
theorem Ce (n:Nat):VCOk Tryz.prog (Rl n):=gVC (Qe ⟨V0 n,trivial⟩)
def Gk:AV→List (Nat × Ob)→Option ((List UInt8) × Int × Int × Int × Int × LL × Int):=fun av H=>(look H 1000000).bind fun o0=>match av,o0 with
 | .ag [.d (D.str a),.d (D.int .i64 b),.d (D.int .i64 r2),.d (D.int .i64 r3),.d (D.int .i64 c)],.box [.d (D.sl 1 d),.d (D.int .i64 e)]=>some (a,b,r2,r3,c,d,e)
 | _,_=>none
theorem EY (n:Nat) (b:LL) (d:Int) (a1:List UInt8) (a:Int):vfn (Rl n) n Tryz.f21 [.ptr 1000000 0,.d (D.str a1),.d (D.int .i64 a)] [(1000000,.box [.d (D.sl 1 b),.d (D.int .i64 d)])] Gk=WO n b d a1 a (fun e f r2 r3 g h i=>some (e,f,r2,r3,g,h,i)):=
 (VP (c:=DP) (m:=20) (tm:=[(0,.ptr 1000000 0),(1,dT a1),(2,dI a)]) (rs:=[.cell 6 70]) (tt:=gtt)).trans (by kernel_rfl)
def Kn (n:Nat):XH:=fun _ site g avs hl k=>match avs with
 | [c0,c1,a]=>
  prP hl c0 fun l0 b0=>(match b0 with
  | [b,c]=>prS g 1 b fun d=>prI g .i64 c fun e=>prT g c1 fun a1=>prI g .i64 a fun f=>
  bif UY hl [(1000000,l0)] [] then gb g (WO n d e a1 f (fun h i r2 r3 j l m=>some (h,i,r2,r3,j,l,m))) ([],0,0,0,0,[],0) fun r=>k ⟨.ag [.d (D.str r.1),.d (D.int .i64 r.2.1),.d (D.int .i64 r.2.2.1),.d (D.int .i64 r.2.2.2.1),.d (D.int .i64 r.2.2.2.2.1)],[(l0,some (.box [.d (D.sl 1 r.2.2.2.2.2.1),.d (D.int .i64 r.2.2.2.2.2.2)]))],[l0]⟩ else none
  | _=>none)
 | _=>none
theorem Ck (n:Nat):Qo Tryz.prog 21 (Kn n):=by
  intro R site g avs hl k r h
  unfold Kn at h
  split at h
  rotate_left
  · cases h
  obtain ⟨l0,b0,h,e,f⟩:=YT h
  split at h
  rotate_left
  · cases h
  obtain ⟨c,h,i⟩:=Q1 h
  obtain ⟨d,h,j⟩:=Q2 h
  obtain ⟨a1,h,l⟩:=VN h
  obtain ⟨a,h,m⟩:=Q2 h
  obtain ⟨hc,h⟩:=Xa h
  obtain ⟨res,h,hr⟩:=Qc h
  have hL:=h
  subst e
  refine ⟨_,hL,fun hg=>QI.conv (avs':=[.ptr l0 0,.d (D.str a1),.d (D.int .i64 a)]) (.cons (.refl _) (.cons (l hg) (.cons (m hg) (.nil)))) (Ad (K:=Gk) (res:=res) (Ce n) (fn:=Tryz.f21) (n:=n) (by kernel_rfl) (by kernel_rfl) (by kernel_rfl) (ρ:=[(1000000,l0)]) (ν:=[]) (avs':=[.ptr 1000000 0,.d (D.str a1),.d (D.int .i64 a)]) (H:=[(1000000,.box [.d (D.sl 1 c),.d (D.int .i64 d)])]) rfl rfl rfl rfl hc (⟨⟨by decide,_,_,f,rfl,.cons (i hg) (.cons (j hg) (.nil)),rfl⟩,trivial⟩) rfl rfl ?_ ?_)⟩
  · exact (EY n c d a1 a).trans (hr hg)
  · intro av H' hx
    unfold Gk at hx
    simp only [Option.bind_eq_some_iff] at hx
    obtain ⟨o0,b,hx⟩:=hx
    split at hx
    rotate_left
    · cases hx
    injection hx with hx
    subst hx
    refine ⟨rfl,?_,⟨by rw [b];rfl,trivial⟩,⟨⟨_,_,rfl,b,rfl⟩,trivial⟩⟩
    simp only [List.cons_append,List.nil_append,K2,b,Option.map_some]
    rfl
noncomputable def DR:Code:=Q8 Tryz.f22
def Ry (n:Nat):VC:=⟨QK [],gtt,[(0,⟨[0,3],(zp (3::rg1 1000000 8 []) (3::1000000::rg1 98000 7 [])),[],[],[]⟩),(1,⟨[0],(zp (13::98000::98001::rg1 98003 4 [1000000]) (98002::98000::98001::rg1 98003 4 [1000000])),[],[],[]⟩),cO 2 [4] (rg1 98000 7 [1000000])]⟩
theorem DU (n:Nat):VCOk Tryz.prog (Ry n):=gVC (Qe trivial)
def Gf:AV→List (Nat × Ob)→Option (Int × LL × LL × LL × LL × LL × LL × LL):=fun av H=>(look H 1000000).bind fun o0=>(look H 98000).bind fun o1=>(look H 98001).bind fun o2=>(look H 98002).bind fun o3=>(look H 98003).bind fun o4=>(look H 98004).bind fun o5=>(look H 98005).bind fun o6=>(look H 98006).bind fun o7=>match av,o0,o1,o2,o3,o4,o5,o6,o7 with
 | .d (D.int .i64 a),.box [.arr p0,.arr p1,.arr b,.arr c,.arr d,.arr e,.arr f],.arr g h i,.arr j k r2,.arr l m r3,.arr n o p,.arr q r s,.arr t u v,.arr w x y=>bif Nat.beq p0 98000&&(Nat.beq p1 98001&&(Nat.beq b 98002&&(Nat.beq c 98003&&(Nat.beq d 98004&&(Nat.beq e 98005&&(Nat.beq f 98006&&(Nat.beq g 9&&(Nat.beq h 1&&(Nat.beq j 9&&(Nat.beq k 1&&(Nat.beq l 70&&(Nat.beq m 5&&(Nat.beq n 113&&(Nat.beq o 6&&(Nat.beq q 22&&(Nat.beq r 1&&(Nat.beq t 22&&(Nat.beq u 1&&(Nat.beq w 22&&(Nat.beq x 1&&((look H 1000001).isNone&&((look H 1000002).isNone&&((look H 1000003).isNone&&((look H 1000004).isNone&&((look H 1000005).isNone&&((look H 1000006).isNone&&((look H 1000007).isNone))))))))))))))))))))))))))) then some (a,i,r2,r3,p,s,v,y) else none
 | _,_,_,_,_,_,_,_,_=>none
theorem EX (n:Nat) (q1 q2 q3 q4 g h q7:LL) (a:List UInt8) (b d e f:Int):vfn (Ry n) n Tryz.f22 [.ptr 1000000 0,.ag [.d (D.str a),.d (D.int .i64 b),.d (D.int .i64 d),.d (D.int .i64 e),.d (D.int .i64 f)]] [(1000000,.box [.arr 1000001,.arr 1000002,.arr 1000003,.arr 1000004,.arr 1000005,.arr 1000006,.arr 1000007]),(1000001,.arr 9 1 q1),(1000002,.arr 9 1 q2),(1000003,.arr 70 5 q3),(1000004,.arr 113 6 q4),(1000005,.arr 22 1 g),(1000006,.arr 22 1 h),(1000007,.arr 22 1 q7)] Gf=Zs n q1 q2 q3 q4 g h q7 a b d e f (fun i j r2 r3 k l o p=>some (i,j,r2,r3,k,l,o,p)):=
 (VP (c:=DR) (m:=24) (tm:=[(0,.ptr 1000000 0),(1,.ag [dT a,dI b,dI d,dI e,dI f])]) (rs:=[.tmp 4]) (tt:=gtt)).trans (by kernel_rfl)
def Ka (n:Nat):XH:=fun _ site g avs hl k=>match avs with
 | [c0,c1]=>prP hl c0 fun l0 f=>(match f with
  | [h,i,j,l,m,o,p]=>prR hl 9 1 h fun l1 q1=>prR hl 9 1 i fun l2 q2=>prR hl 70 5 j fun a q3=>prR hl 113 6 l fun b q4=>prR hl 22 1 m fun c q=>prR hl 22 1 o fun d s=>prR hl 22 1 p fun e q7=>prG c1 fun t=>(match t with
  | [u,v,w,x,y]=>prT g u fun z=>prI g .i64 v fun aa=>prI g .i64 w fun ab=>prI g .i64 x fun ac=>prI g .i64 y fun ad=>
  bif UY hl [(1000000,l0),(1000001,l1),(1000002,l2),(1000003,a),(1000004,b),(1000005,c),(1000006,d),(1000007,e)] [(98000,(site+50000)),(98001,(site+100000)),(98002,(site+150000)),(98003,(site+200000)),(98004,(site+250000)),(98005,(site+300000)),(98006,(site+350000))] then gb g (Zs n q1 q2 q3 q4 q s q7 z aa ab ac ad (fun r0 r1 r2 r3 r4 r5 r6 r7=>some (r0,r1,r2,r3,r4,r5,r6,r7))) (0,[],[],[],[],[],[],[]) fun r=>k ⟨.d (D.int .i64 r.1),[(l0,some (.box [.arr (site+50000),.arr (site+100000),.arr (site+150000),.arr (site+200000),.arr (site+250000),.arr (site+300000),.arr (site+350000)])),(l1,none),(l2,none),(a,none),(b,none),(c,none),(d,none),(e,none),((site+50000),some (.arr 9 1 r.2.1)),((site+100000),some (.arr 9 1 r.2.2.1)),((site+150000),some (.arr 70 5 r.2.2.2.1)),((site+200000),some (.arr 113 6 r.2.2.2.2.1)),((site+250000),some (.arr 22 1 r.2.2.2.2.2.1)),((site+300000),some (.arr 22 1 r.2.2.2.2.2.2.1)),((site+350000),some (.arr 22 1 r.2.2.2.2.2.2.2))],[l0,l1,l2,a,b,c,d,e]⟩ else none
  | _=>none)
  | _=>none)
 | _=>none
theorem C7 (n:Nat):Qo Tryz.prog 22 (Ka n):=by
  intro R site g avs hl k r h
  unfold Ka at h
  split at h
  rotate_left
  · cases h
  obtain ⟨l0,bf,h,ab,ac⟩:=YT h
  split at h
  rotate_left
  · cases h
  obtain ⟨l1,q1,h,ad,ae⟩:=QH h
  obtain ⟨l2,q2,h,af,ag⟩:=QH h
  obtain ⟨l3,q3,h,ai,aj⟩:=QH h
  obtain ⟨l4,q4,h,al,am⟩:=QH h
  obtain ⟨l5,a,h,ao,ap⟩:=QH h
  obtain ⟨l6,b,h,ar,au⟩:=QH h
  obtain ⟨l7,q7,h,ax,ay⟩:=QH h
  obtain ⟨bg,h,az⟩:=Qq h
  split at h
  rotate_left
  · cases h
  obtain ⟨c,h,ba⟩:=VN h
  obtain ⟨d,h,bb⟩:=Q2 h
  obtain ⟨e,h,bc⟩:=Q2 h
  obtain ⟨f,h,bd⟩:=Q2 h
  obtain ⟨i,h,be⟩:=Q2 h
  obtain ⟨hc,h⟩:=Xa h
  obtain ⟨res,h,hr⟩:=Qc h
  have hL:=h
  subst ab ad af ai al ao ar ax az
  refine ⟨_,hL,fun hg=>Zl (K:=Gf) (res:=res) (DU n) (fn:=Tryz.f22) (n:=n) (by kernel_rfl) (by kernel_rfl) (by kernel_rfl) (ρ:=[(1000000,l0),(1000001,l1),(1000002,l2),(1000003,l3),(1000004,l4),(1000005,l5),(1000006,l6),(1000007,l7)]) (ν:=[(98000,(site+50000)),(98001,(site+100000)),(98002,(site+150000)),(98003,(site+200000)),(98004,(site+250000)),(98005,(site+300000)),(98006,(site+350000))]) (avs':=[.ptr 1000000 0,.ag [.d (D.str c),.d (D.int .i64 d),.d (D.int .i64 e),.d (D.int .i64 f),.d (D.int .i64 i)]]) (H:=[(1000000,.box [.arr 1000001,.arr 1000002,.arr 1000003,.arr 1000004,.arr 1000005,.arr 1000006,.arr 1000007]),(1000001,.arr 9 1 q1),(1000002,.arr 9 1 q2),(1000003,.arr 70 5 q3),(1000004,.arr 113 6 q4),(1000005,.arr 22 1 a),(1000006,.arr 22 1 b),(1000007,.arr 22 1 q7)]) (.cons (.own rfl rfl) (.cons (.data rfl (.ag (.cons (ba hg) (.cons (bb hg) (.cons (bc hg) (.cons (bd hg) (.cons (be hg) (.nil)))))))) (.nil))) rfl rfl hc (⟨⟨by decide,_,_,ac,rfl,.box (.cons (.own rfl rfl) (.cons (.own rfl rfl) (.cons (.own rfl rfl) (.cons (.own rfl rfl) (.cons (.own rfl rfl) (.cons (.own rfl rfl) (.cons (.own rfl rfl) (.nil))))))))⟩,⟨⟨by decide,_,_,ae,rfl,.arr _ _ _⟩,⟨⟨by decide,_,_,ag,rfl,.arr _ _ _⟩,⟨⟨by decide,_,_,aj,rfl,.arr _ _ _⟩,⟨⟨by decide,_,_,am,rfl,.arr _ _ _⟩,⟨⟨by decide,_,_,ap,rfl,.arr _ _ _⟩,⟨⟨by decide,_,_,au,rfl,.arr _ _ _⟩,⟨⟨by decide,_,_,ay,rfl,.arr _ _ _⟩,trivial⟩⟩⟩⟩⟩⟩⟩⟩) rfl rfl ?_ ?_⟩
  · exact (EX n q1 q2 q3 q4 a b q7 c d e f i).trans (hr hg)
  · intro av H' hx
    unfold Gf at hx
    simp only [Option.bind_eq_some_iff] at hx
    obtain ⟨o0,j,o1,l,o2,m,o3,o,o4,p,o5,q,o6,s,o7,t,hx⟩:=hx
    split at hx
    rotate_left
    · cases hx
    replace hx:=Xa hx
    obtain ⟨hck,hx⟩:=hx
    simp only [Bool.and_eq_true,Nat.beq_eq,Option.isNone_iff_eq_none] at hck
    obtain ⟨rfl,rfl,rfl,rfl,rfl,rfl,rfl,rfl,rfl,rfl,rfl,rfl,rfl,rfl,rfl,rfl,rfl,rfl,rfl,rfl,rfl,u,v,w,x,y,z,aa⟩:=hck
    injection hx with hx
    subst hx
    refine ⟨rfl,?_,⟨by rw [l];rfl,⟨by rw [m];rfl,⟨by rw [o];rfl,⟨by rw [p];rfl,⟨by rw [q];rfl,⟨by rw [s];rfl,⟨by rw [t];rfl,trivial⟩⟩⟩⟩⟩⟩⟩,⟨YI rfl j rfl,⟨Qn rfl u,⟨Qn rfl v,⟨Qn rfl w,⟨Qn rfl x,⟨Qn rfl y,⟨Qn rfl z,⟨Qn rfl aa,trivial⟩⟩⟩⟩⟩⟩⟩⟩⟩
    simp only [List.cons_append,List.nil_append,K2,j,l,m,o,p,q,s,t,u,v,w,x,y,z,aa,Option.map_some,Option.map_none]
    rfl

noncomputable def EH:Code:=Q8 Tryz.f23
def Sq (n:Nat):VC:=⟨QK [],gtt,[(0,⟨[],(zp (22::rg1 1000000 4 (rg1 1000005 3 [])) (98003::1000000::rg1 98000 3 (rg1 98004 3 []))),[],[],[]⟩)]⟩
theorem Et (n:Nat):VCOk Tryz.prog (Sq n):=gVC (Qe trivial)
def Jx:AV→List (Nat × Ob)→Option (LL × LL × LL × LL × LL × LL × LL):=fun av H=>(look H 1000000).bind fun o0=>(look H 98000).bind fun o1=>(look H 98001).bind fun o2=>(look H 98002).bind fun o3=>(look H 98003).bind fun o4=>(look H 98004).bind fun o5=>(look H 98005).bind fun o6=>(look H 98006).bind fun o7=>match av,o0,o1,o2,o3,o4,o5,o6,o7 with
 | .tup [],.box [.arr p0,.arr p1,.arr a,.arr b,.arr c,.arr d,.arr e],.arr f g h,.arr i j k,.arr l m r2,.arr n o r3,.arr p q r,.arr s t u,.arr v w x=>bif Nat.beq p0 98000&&(Nat.beq p1 98001&&(Nat.beq a 98002&&(Nat.beq b 98003&&(Nat.beq c 98004&&(Nat.beq d 98005&&(Nat.beq e 98006&&(Nat.beq f 9&&(Nat.beq g 1&&(Nat.beq i 9&&(Nat.beq j 1&&(Nat.beq l 70&&(Nat.beq m 5&&(Nat.beq n 113&&(Nat.beq o 6&&(Nat.beq p 22&&(Nat.beq q 1&&(Nat.beq s 22&&(Nat.beq t 1&&(Nat.beq v 22&&(Nat.beq w 1&&((look H 1000001).isNone&&((look H 1000002).isNone&&((look H 1000003).isNone&&((look H 1000004).isNone&&((look H 1000005).isNone&&((look H 1000006).isNone&&((look H 1000007).isNone))))))))))))))))))))))))))) then some (h,k,r2,r3,r,u,x) else none
 | _,_,_,_,_,_,_,_,_=>none
theorem FG (n:Nat) (q1 q2 q3 q4 e f q7:LL) (a1 a b d:Int):vfn (Sq n) n Tryz.f23 [.ptr 1000000 0,.d (D.int .i64 a1),.d (D.int .i64 a),.d (D.int .i64 b),.d (D.int .i64 d)] [(1000000,.box [.arr 1000001,.arr 1000002,.arr 1000003,.arr 1000004,.arr 1000005,.arr 1000006,.arr 1000007]),(1000001,.arr 9 1 q1),(1000002,.arr 9 1 q2),(1000003,.arr 70 5 q3),(1000004,.arr 113 6 q4),(1000005,.arr 22 1 e),(1000006,.arr 22 1 f),(1000007,.arr 22 1 q7)] Jx=Yc n q1 q2 q3 q4 e f q7 a1 a b d (fun g h r2 r3 i j k=>some (g,h,r2,r3,i,j,k)):=
 (VP (c:=EH) (m:=26) (tm:=[(0,.ptr 1000000 0),(1,dI a1),(2,dI a),(3,dI b),(4,dI d)]) (rs:=[]) (tt:=gtt)).trans (by kernel_rfl)
def Vm (n:Nat):XH:=fun _ site g avs hl k=>match avs with
 | [c0,c1,f,h,i]=>prP hl c0 fun l0 j=>(match j with
  | [l,m,o,p,q,s,t]=>prR hl 9 1 l fun l1 q1=>prR hl 9 1 m fun l2 q2=>prR hl 70 5 o fun a q3=>prR hl 113 6 p fun b q4=>prR hl 22 1 q fun c u=>prR hl 22 1 s fun d v=>prR hl 22 1 t fun e q7=>prI g .i64 c1 fun a1=>prI g .i64 f fun w=>prI g .i64 h fun x=>prI g .i64 i fun y=>
  bif UY hl [(1000000,l0),(1000001,l1),(1000002,l2),(1000003,a),(1000004,b),(1000005,c),(1000006,d),(1000007,e)] [(98000,(site+50000)),(98001,(site+100000)),(98002,(site+150000)),(98003,(site+200000)),(98004,(site+250000)),(98005,(site+300000)),(98006,(site+350000))] then gb g (Yc n q1 q2 q3 q4 u v q7 a1 w x y (fun z r1 r2 r3 r4 r5 r6=>some (z,r1,r2,r3,r4,r5,r6))) ([],[],[],[],[],[],[]) fun r=>k ⟨.tup [],[(l0,some (.box [.arr (site+50000),.arr (site+100000),.arr (site+150000),.arr (site+200000),.arr (site+250000),.arr (site+300000),.arr (site+350000)])),(l1,none),(l2,none),(a,none),(b,none),(c,none),(d,none),(e,none),((site+50000),some (.arr 9 1 r.1)),((site+100000),some (.arr 9 1 r.2.1)),((site+150000),some (.arr 70 5 r.2.2.1)),((site+200000),some (.arr 113 6 r.2.2.2.1)),((site+250000),some (.arr 22 1 r.2.2.2.2.1)),((site+300000),some (.arr 22 1 r.2.2.2.2.2.1)),((site+350000),some (.arr 22 1 r.2.2.2.2.2.2))],[l0,l1,l2,a,b,c,d,e]⟩ else none
  | _=>none)
 | _=>none
theorem TO (n:Nat):Qo Tryz.prog 23 (Vm n):=by
  intro R site g avs hl k r h
  unfold Vm at h
  split at h
  rotate_left
  · cases h
  obtain ⟨l0,bb,h,z,aa⟩:=YT h
  split at h
  rotate_left
  · cases h
  obtain ⟨l1,q1,h,ab,ac⟩:=QH h
  obtain ⟨l2,q2,h,ad,ae⟩:=QH h
  obtain ⟨l3,q3,h,ag,ah⟩:=QH h
  obtain ⟨l4,q4,h,aj,ak⟩:=QH h
  obtain ⟨l5,a,h,am,an⟩:=QH h
  obtain ⟨l6,b,h,ap,aq⟩:=QH h
  obtain ⟨l7,q7,h,au,aw⟩:=QH h
  obtain ⟨a1,h,ax⟩:=Q2 h
  obtain ⟨c,h,ay⟩:=Q2 h
  obtain ⟨d,h,az⟩:=Q2 h
  obtain ⟨e,h,ba⟩:=Q2 h
  obtain ⟨hc,h⟩:=Xa h
  obtain ⟨res,h,hr⟩:=Qc h
  have hL:=h
  subst z ab ad ag aj am ap au
  refine ⟨_,hL,fun hg=>Zl (K:=Jx) (res:=res) (Et n) (fn:=Tryz.f23) (n:=n) (by kernel_rfl) (by kernel_rfl) (by kernel_rfl) (ρ:=[(1000000,l0),(1000001,l1),(1000002,l2),(1000003,l3),(1000004,l4),(1000005,l5),(1000006,l6),(1000007,l7)]) (ν:=[(98000,(site+50000)),(98001,(site+100000)),(98002,(site+150000)),(98003,(site+200000)),(98004,(site+250000)),(98005,(site+300000)),(98006,(site+350000))]) (avs':=[.ptr 1000000 0,.d (D.int .i64 a1),.d (D.int .i64 c),.d (D.int .i64 d),.d (D.int .i64 e)]) (H:=[(1000000,.box [.arr 1000001,.arr 1000002,.arr 1000003,.arr 1000004,.arr 1000005,.arr 1000006,.arr 1000007]),(1000001,.arr 9 1 q1),(1000002,.arr 9 1 q2),(1000003,.arr 70 5 q3),(1000004,.arr 113 6 q4),(1000005,.arr 22 1 a),(1000006,.arr 22 1 b),(1000007,.arr 22 1 q7)]) (.cons (.own rfl rfl) (.cons (.data rfl (ax hg)) (.cons (.data rfl (ay hg)) (.cons (.data rfl (az hg)) (.cons (.data rfl (ba hg)) (.nil)))))) rfl rfl hc (⟨⟨by decide,_,_,aa,rfl,.box (.cons (.own rfl rfl) (.cons (.own rfl rfl) (.cons (.own rfl rfl) (.cons (.own rfl rfl) (.cons (.own rfl rfl) (.cons (.own rfl rfl) (.cons (.own rfl rfl) (.nil))))))))⟩,⟨⟨by decide,_,_,ac,rfl,.arr _ _ _⟩,⟨⟨by decide,_,_,ae,rfl,.arr _ _ _⟩,⟨⟨by decide,_,_,ah,rfl,.arr _ _ _⟩,⟨⟨by decide,_,_,ak,rfl,.arr _ _ _⟩,⟨⟨by decide,_,_,an,rfl,.arr _ _ _⟩,⟨⟨by decide,_,_,aq,rfl,.arr _ _ _⟩,⟨⟨by decide,_,_,aw,rfl,.arr _ _ _⟩,trivial⟩⟩⟩⟩⟩⟩⟩⟩) rfl rfl ?_ ?_⟩
  · exact (FG n q1 q2 q3 q4 a b q7 a1 c d e).trans (hr hg)
  · intro av H' hx
    unfold Jx at hx
    simp only [Option.bind_eq_some_iff] at hx
    obtain ⟨o0,f,o1,i,o2,j,o3,l,o4,m,o5,o,o6,p,o7,q,hx⟩:=hx
    split at hx
    rotate_left
    · cases hx
    replace hx:=Xa hx
    obtain ⟨hck,hx⟩:=hx
    simp only [Bool.and_eq_true,Nat.beq_eq,Option.isNone_iff_eq_none] at hck
    obtain ⟨rfl,rfl,rfl,rfl,rfl,rfl,rfl,rfl,rfl,rfl,rfl,rfl,rfl,rfl,rfl,rfl,rfl,rfl,rfl,rfl,rfl,s,t,u,v,w,x,y⟩:=hck
    injection hx with hx
    subst hx
    refine ⟨rfl,?_,⟨by rw [i];rfl,⟨by rw [j];rfl,⟨by rw [l];rfl,⟨by rw [m];rfl,⟨by rw [o];rfl,⟨by rw [p];rfl,⟨by rw [q];rfl,trivial⟩⟩⟩⟩⟩⟩⟩,⟨YI rfl f rfl,⟨Qn rfl s,⟨Qn rfl t,⟨Qn rfl u,⟨Qn rfl v,⟨Qn rfl w,⟨Qn rfl x,⟨Qn rfl y,trivial⟩⟩⟩⟩⟩⟩⟩⟩⟩
    simp only [List.cons_append,List.nil_append,K2,f,i,j,l,m,o,p,q,s,t,u,v,w,x,y,Option.map_some,Option.map_none]
    rfl

noncomputable def FQ:Code:=Q8 Tryz.f46
def PA (n:Nat):VC:=⟨QK [(20,RV n)],gtt,[(0,⟨[0],(zp (rg1 1000000 8 []) (1000000::rg1 98000 7 [])),[],[],[]⟩),(1,⟨[0],(zp (17::98000::rg1 98002 5 [1000000]) (98001::98000::rg1 98002 5 [1000000])),[],[],[]⟩),cO 2 [2] (rg1 98000 7 [1000000])]⟩
theorem FF (n:Nat):VCOk Tryz.prog (PA n):=gVC (Qe ⟨D5 n,trivial⟩)
def Jb:AV→List (Nat × Ob)→Option (Int × LL × LL × LL × LL × LL × LL × LL):=fun av H=>(look H 1000000).bind fun o0=>(look H 98000).bind fun o1=>(look H 98001).bind fun o2=>(look H 98002).bind fun o3=>(look H 98003).bind fun o4=>(look H 98004).bind fun o5=>(look H 98005).bind fun o6=>(look H 98006).bind fun o7=>match av,o0,o1,o2,o3,o4,o5,o6,o7 with
 | .d (D.int .i64 a),.box [.arr p0,.arr p1,.arr b,.arr c,.arr d,.arr e,.arr f],.arr g h i,.arr j k r2,.arr l m r3,.arr n o p,.arr q r s,.arr t u v,.arr w x y=>bif Nat.beq p0 98000&&(Nat.beq p1 98001&&(Nat.beq b 98002&&(Nat.beq c 98003&&(Nat.beq d 98004&&(Nat.beq e 98005&&(Nat.beq f 98006&&(Nat.beq g 9&&(Nat.beq h 1&&(Nat.beq j 9&&(Nat.beq k 1&&(Nat.beq l 70&&(Nat.beq m 5&&(Nat.beq n 113&&(Nat.beq o 6&&(Nat.beq q 22&&(Nat.beq r 1&&(Nat.beq t 22&&(Nat.beq u 1&&(Nat.beq w 22&&(Nat.beq x 1&&((look H 1000001).isNone&&((look H 1000002).isNone&&((look H 1000003).isNone&&((look H 1000004).isNone&&((look H 1000005).isNone&&((look H 1000006).isNone&&((look H 1000007).isNone))))))))))))))))))))))))))) then some (a,i,r2,r3,p,s,v,y) else none
 | _,_,_,_,_,_,_,_,_=>none
theorem Ft (n:Nat) (q1 q2 q3 q4 a b q7:LL):vfn (PA n) n Tryz.f46 [.ptr 1000000 0] [(1000000,.box [.arr 1000001,.arr 1000002,.arr 1000003,.arr 1000004,.arr 1000005,.arr 1000006,.arr 1000007]),(1000001,.arr 9 1 q1),(1000002,.arr 9 1 q2),(1000003,.arr 70 5 q3),(1000004,.arr 113 6 q4),(1000005,.arr 22 1 a),(1000006,.arr 22 1 b),(1000007,.arr 22 1 q7)] Jb=Zv n q1 q2 q3 q4 a b q7 (fun d e r2 r3 f g h i=>some (d,e,r2,r3,f,g,h,i)):=
 (VP (c:=FQ) (m:=28) (tm:=[(0,.ptr 1000000 0)]) (rs:=[.tmp 2]) (tt:=gtt)).trans (by kernel_rfl)
def JF (n:Nat):XH:=fun _ site g avs hl k=>match avs with
 | [c0]=>prP hl c0 fun l0 f=>(match f with
  | [h,i,j,l,m,o,p]=>prR hl 9 1 h fun l1 q1=>prR hl 9 1 i fun l2 q2=>prR hl 70 5 j fun a q3=>prR hl 113 6 l fun b q4=>prR hl 22 1 m fun c q=>prR hl 22 1 o fun d s=>prR hl 22 1 p fun e q7=>
  bif UY hl [(1000000,l0),(1000001,l1),(1000002,l2),(1000003,a),(1000004,b),(1000005,c),(1000006,d),(1000007,e)] [(98000,(site+50000)),(98001,(site+100000)),(98002,(site+150000)),(98003,(site+200000)),(98004,(site+250000)),(98005,(site+300000)),(98006,(site+350000))] then gb g (Zv n q1 q2 q3 q4 q s q7 (fun t u r2 r3 v w x y=>some (t,u,r2,r3,v,w,x,y))) (0,[],[],[],[],[],[],[]) fun r=>k ⟨.d (D.int .i64 r.1),[(l0,some (.box [.arr (site+50000),.arr (site+100000),.arr (site+150000),.arr (site+200000),.arr (site+250000),.arr (site+300000),.arr (site+350000)])),(l1,none),(l2,none),(a,none),(b,none),(c,none),(d,none),(e,none),((site+50000),some (.arr 9 1 r.2.1)),((site+100000),some (.arr 9 1 r.2.2.1)),((site+150000),some (.arr 70 5 r.2.2.2.1)),((site+200000),some (.arr 113 6 r.2.2.2.2.1)),((site+250000),some (.arr 22 1 r.2.2.2.2.2.1)),((site+300000),some (.arr 22 1 r.2.2.2.2.2.2.1)),((site+350000),some (.arr 22 1 r.2.2.2.2.2.2.2))],[l0,l1,l2,a,b,c,d,e]⟩ else none
  | _=>none)
 | _=>none
theorem Ed (n:Nat):Qo Tryz.prog 46 (JF n):=by
  intro R site g avs hl k r h
  unfold JF at h
  split at h
  rotate_left
  · cases h
  obtain ⟨l0,ar,h,w,x⟩:=YT h
  split at h
  rotate_left
  · cases h
  obtain ⟨l1,q1,h,y,z⟩:=QH h
  obtain ⟨l2,q2,h,aa,ab⟩:=QH h
  obtain ⟨l3,q3,h,ad,ae⟩:=QH h
  obtain ⟨l4,q4,h,ag,ah⟩:=QH h
  obtain ⟨l5,a,h,aj,ak⟩:=QH h
  obtain ⟨l6,b,h,am,an⟩:=QH h
  obtain ⟨l7,q7,h,ap,aq⟩:=QH h
  obtain ⟨hc,h⟩:=Xa h
  obtain ⟨res,h,hr⟩:=Qc h
  have hL:=h
  subst w y aa ad ag aj am ap
  refine ⟨_,hL,fun hg=>Zl (K:=Jb) (res:=res) (FF n) (fn:=Tryz.f46) (n:=n) (by kernel_rfl) (by kernel_rfl) (by kernel_rfl) (ρ:=[(1000000,l0),(1000001,l1),(1000002,l2),(1000003,l3),(1000004,l4),(1000005,l5),(1000006,l6),(1000007,l7)]) (ν:=[(98000,(site+50000)),(98001,(site+100000)),(98002,(site+150000)),(98003,(site+200000)),(98004,(site+250000)),(98005,(site+300000)),(98006,(site+350000))]) (avs':=[.ptr 1000000 0]) (H:=[(1000000,.box [.arr 1000001,.arr 1000002,.arr 1000003,.arr 1000004,.arr 1000005,.arr 1000006,.arr 1000007]),(1000001,.arr 9 1 q1),(1000002,.arr 9 1 q2),(1000003,.arr 70 5 q3),(1000004,.arr 113 6 q4),(1000005,.arr 22 1 a),(1000006,.arr 22 1 b),(1000007,.arr 22 1 q7)]) (.cons (.own rfl rfl) (.nil)) rfl rfl hc (⟨⟨by decide,_,_,x,rfl,.box (.cons (.own rfl rfl) (.cons (.own rfl rfl) (.cons (.own rfl rfl) (.cons (.own rfl rfl) (.cons (.own rfl rfl) (.cons (.own rfl rfl) (.cons (.own rfl rfl) (.nil))))))))⟩,⟨⟨by decide,_,_,z,rfl,.arr _ _ _⟩,⟨⟨by decide,_,_,ab,rfl,.arr _ _ _⟩,⟨⟨by decide,_,_,ae,rfl,.arr _ _ _⟩,⟨⟨by decide,_,_,ah,rfl,.arr _ _ _⟩,⟨⟨by decide,_,_,ak,rfl,.arr _ _ _⟩,⟨⟨by decide,_,_,an,rfl,.arr _ _ _⟩,⟨⟨by decide,_,_,aq,rfl,.arr _ _ _⟩,trivial⟩⟩⟩⟩⟩⟩⟩⟩) rfl rfl ?_ ?_⟩
  · exact (Ft n q1 q2 q3 q4 a b q7).trans (hr hg)
  · intro av H' hx
    unfold Jb at hx
    simp only [Option.bind_eq_some_iff] at hx
    obtain ⟨o0,c,o1,d,o2,e,o3,f,o4,i,o5,j,o6,l,o7,m,hx⟩:=hx
    split at hx
    rotate_left
    · cases hx
    replace hx:=Xa hx
    obtain ⟨hck,hx⟩:=hx
    simp only [Bool.and_eq_true,Nat.beq_eq,Option.isNone_iff_eq_none] at hck
    obtain ⟨rfl,rfl,rfl,rfl,rfl,rfl,rfl,rfl,rfl,rfl,rfl,rfl,rfl,rfl,rfl,rfl,rfl,rfl,rfl,rfl,rfl,o,p,q,s,t,u,v⟩:=hck
    injection hx with hx
    subst hx
    refine ⟨rfl,?_,⟨by rw [d];rfl,⟨by rw [e];rfl,⟨by rw [f];rfl,⟨by rw [i];rfl,⟨by rw [j];rfl,⟨by rw [l];rfl,⟨by rw [m];rfl,trivial⟩⟩⟩⟩⟩⟩⟩,⟨YI rfl c rfl,⟨Qn rfl o,⟨Qn rfl p,⟨Qn rfl q,⟨Qn rfl s,⟨Qn rfl t,⟨Qn rfl u,⟨Qn rfl v,trivial⟩⟩⟩⟩⟩⟩⟩⟩⟩
    simp only [List.cons_append,List.nil_append,K2,c,d,e,f,i,j,l,m,o,p,q,s,t,u,v,Option.map_some,Option.map_none]
    rfl

end Go.Vx
set_option maxRecDepth 100000
namespace Go.Vx
open Go.Proofs
variable {R:Type}
noncomputable def Gc:Code:=Q8 Tryz.f24
noncomputable def Sm:Code:=cA [1,0] (Q8 Tryz.f24)
noncomputable def Vo:Code:=cA [1,1] (Q8 Tryz.f24)
noncomputable def Yv:Code:=cA [1,1,1,2,2] (Q8 Tryz.f24)
def Gg (a:Int) (b:LL) (c:Bool) (d e f g h i j:LL):St:=⟨40,[(0,.ptr 1000000 0),(1,dI a),(2,dL 1 b),(3,dB c)],[(1000000,.box [.arr 1000001,.arr 1000002,.arr 1000003,.arr 1000004,.arr 1000005,.arr 1000006,.arr 1000007]),(1000001,.arr 9 1 d),(1000002,.arr 9 1 e),(1000003,.arr 70 5 f),(1000004,.arr 113 6 g),(1000005,.arr 22 1 h),(1000006,.arr 22 1 i),(1000007,.arr 22 1 j)]⟩
def Ss (a:Int) (b:LL) (c:Bool) (d e f g h i j:LL):St:=⟨40,[(0,.ptr 1000000 0),(1,dI a),(2,dL 1 b),(3,dB c),(8,dI (-1:Int))],[(1000000,.box [.arr 98000,.arr 98001,.arr 98002,.arr 98003,.arr 98004,.arr 98005,.arr 98006]),(98000,.arr 9 1 d),(98001,.arr 9 1 e),(98002,.arr 70 5 f),(98003,.arr 113 6 g),(98004,.arr 22 1 h),(98005,.arr 22 1 i),(98006,.arr 22 1 j)]⟩
def Sf (a:Int) (b:LL) (c:Bool) (d:Int) (e f g h i j k:LL):St:=⟨40,[(0,.ptr 1000000 0),(1,dI a),(2,dL 1 b),(3,dB c),(8,dI d)],[(98000,.arr 9 1 e),(98001,.arr 9 1 f),(98002,.arr 70 5 g),(98003,.arr 113 6 h),(98004,.arr 22 1 i),(98005,.arr 22 1 j),(98006,.arr 22 1 k),(1000000,.box [.arr 98000,.arr 98001,.arr 98002,.arr 98003,.arr 98004,.arr 98005,.arr 98006])]⟩
def So (a:Int) (b:LL) (c d:Bool) (e f g h i j k:LL):St:=⟨40,[(0,.ptr 1000000 0),(1,dI a),(2,dL 1 b),(3,dB c),(8,dI (-1:Int)),(12,dB d)],[(98000,.arr 9 1 e),(98001,.arr 9 1 f),(98002,.arr 70 5 g),(98003,.arr 113 6 h),(98004,.arr 22 1 i),(98005,.arr 22 1 j),(98006,.arr 22 1 k),(1000000,.box [.arr 98000,.arr 98001,.arr 98002,.arr 98003,.arr 98004,.arr 98005,.arr 98006])]⟩
def Gh (a:Int) (b:LL) (c:Bool) (d e f:Int) (g h i j k l m:LL):St:=⟨40,[(0,.ptr 1000000 0),(1,dI a),(2,dL 1 b),(3,dB c),(8,dI d),(16,dI e),(17,dI f)],[(98000,.arr 9 1 g),(98001,.arr 9 1 h),(98002,.arr 70 5 i),(98003,.arr 113 6 j),(98004,.arr 22 1 k),(98005,.arr 22 1 l),(98006,.arr 22 1 m),(1000000,.box [.arr 98000,.arr 98001,.arr 98002,.arr 98003,.arr 98004,.arr 98005,.arr 98006])]⟩
def Gz (a:Int) (b:LL) (c:Bool) (d e f:Int) (g:Bool) (h i j k l m n:LL):St:=⟨40,[(0,.ptr 1000000 0),(1,dI a),(2,dL 1 b),(3,dB c),(8,dI d),(16,dI e),(17,dI f),(18,dB g)],[(98000,.arr 9 1 h),(98001,.arr 9 1 i),(98002,.arr 70 5 j),(98003,.arr 113 6 k),(98004,.arr 22 1 l),(98005,.arr 22 1 m),(98006,.arr 22 1 n),(1000000,.box [.arr 98000,.arr 98001,.arr 98002,.arr 98003,.arr 98004,.arr 98005,.arr 98006])]⟩
def Gj (a:Int) (b:LL) (c:Bool) (d e:Int) (f g h i j k l:LL):St:=⟨40,[(0,.ptr 1000000 0),(1,dI a),(2,dL 1 b),(3,dB c),(8,dI (-1:Int)),(16,dI d),(17,dI e)],[(98000,.arr 9 1 f),(98001,.arr 9 1 g),(98002,.arr 70 5 h),(98003,.arr 113 6 i),(98004,.arr 22 1 j),(98005,.arr 22 1 k),(98006,.arr 22 1 l),(1000000,.box [.arr 98000,.arr 98001,.arr 98002,.arr 98003,.arr 98004,.arr 98005,.arr 98006])]⟩
def Sp (a:Int) (b:LL) (c:Bool) (d e:Int) (f:Bool) (g h i j k l m:LL):St:=⟨40,[(0,.ptr 1000000 0),(1,dI a),(2,dL 1 b),(3,dB c),(8,dI (-1:Int)),(16,dI d),(17,dI e),(18,dB f)],[(98000,.arr 9 1 g),(98001,.arr 9 1 h),(98002,.arr 70 5 i),(98003,.arr 113 6 j),(98004,.arr 22 1 k),(98005,.arr 22 1 l),(98006,.arr 22 1 m),(1000000,.box [.arr 98000,.arr 98001,.arr 98002,.arr 98003,.arr 98004,.arr 98005,.arr 98006])]⟩
def Qt (n:Nat):VC:=⟨QK [(46,JF n),(23,Vm n)],gtt,[(0,⟨(rg1 0 4 [8]),(zp (rg1 1000000 8 []) (1000000::rg1 98000 7 [])),[],[],[]⟩),cO 1 (rg1 0 4 [8,12]) (rg1 98000 7 [1000000]),(2,⟨(rg1 0 4 [8]),(zp (rg5 50014 7 [1000000]) (rg1 98000 7 [1000000])),[],[],[]⟩),cO 3 (rg1 0 4 [8,16,17]) (rg1 98000 7 [1000000]),cO 4 (rg1 0 4 [8,16,17,18]) (rg1 98000 7 [1000000]),cO 5 (rg1 0 4 [8,9,16,17]) (rg1 98000 7 [1000000]),cO 6 (rg1 0 4 [8,9,16,17,20]) (rg1 98000 7 [1000000]),(7,⟨(rg1 0 4 [8,16,17]),(zp (rg5 50029 7 [1000000]) (rg1 98000 7 [1000000])),[],[],[]⟩),(8,⟨(rg1 0 4 [8,16,17]),(zp (rg5 50038 7 [1000000]) (rg1 98000 7 [1000000])),[],[],[]⟩),cO 9 (rg1 0 4 [8,16,17]) (rg1 98000 7 [1000000])]⟩
theorem Cd (n:Nat):VCOk Tryz.prog (Qt n):=gVC (Qe ⟨Ed n,⟨TO n,trivial⟩⟩)
theorem Fv (n:Nat) (a1:Int) (a:LL) (b:Bool) (q1 q2 q3 q4 c d q7:LL) (k:Exit→St→Option R):Qi (Qt n) n Gc (Gg a1 a b q1 q2 q3 q4 c d q7) k=Gr n a1 a b q1 q2 q3 q4 c d q7 (Qi (Qt n) n Sm (Ss a1 a b q1 q2 q3 q4 c d q7) (Xf (Qt n) n Vo k)):=by kernel_rfl
theorem F7 (n:Nat) (a1:Int) (a:LL) (b:Bool) (q1 q2 q3 q4 c d q7:LL) (k:Exit→St→Option R):Qi (Qt n) n Sm (Ss a1 a b q1 q2 q3 q4 c d q7) k=Gs n a1 a b q1 q2 q3 q4 c d q7 (fun e f g h i j l m=>k .normal (Sf a1 a b e f g h i j l m)) (fun o=>k .normal (So a1 a b o q1 q2 q3 q4 c d q7)):=by kernel_rfl
theorem F6 (n:Nat) (a1:Int) (a:LL) (b:Bool) (c:Int) (d e f g h i j:LL) (k:Exit→St→Option R):(Xf (Qt n) n Vo k) .normal (Sf a1 a b c d e f g h i j)=Gu n a1 a b c d e f g h i j (fun l=>X7 (lB (Qt n) n Yv) n ⟨40,[(0,.ptr 1000000 0),(1,dI a1),(2,dL 1 a),(3,dB b),(8,dI c),(16,dI l),(17,dI (0:Int))],[(98000,.arr 9 1 d),(98001,.arr 9 1 e),(98002,.arr 70 5 f),(98003,.arr 113 6 g),(98004,.arr 22 1 h),(98005,.arr 22 1 i),(98006,.arr 22 1 j),(1000000,.box [.arr 98000,.arr 98001,.arr 98002,.arr 98003,.arr 98004,.arr 98005,.arr 98006])]⟩ (Q9 0 k)):=by kernel_rfl
theorem Fx (n:Nat) (a1:Int) (a:LL) (b:Bool) (c d e:Int) (f g h i j l m:LL) (k:Exit→St→Option R):Qi (Qt n) n Yv (Gh a1 a b c d e f g h i j l m) k=Zf n a1 a b c d e f g h i j l m (fun o p q r s t u v=>k .normal (Gh a1 a b c d o p q r s t u v)) (fun w=>k (.exit 0) (Gz a1 a b c d e w f g h i j l m)):=by kernel_rfl
theorem Hc (n:Nat) (a1:Int) (i:LL) (j:Bool) (l o:Int) (k:Exit→St→Option R):∀ (m:Nat) (a:Int) (b c d e f g h:LL),X7 (lB (Qt n) n Yv) m (Gh a1 i j l o a b c d e f g h) k=Yb n a1 i j l o (fun a p b c d e f g h=>k (.exit 0) (Gz a1 i j l o a p b c d e f g h)) m a b c d e f g h
 | 0,_,_,_,_,_,_,_,_=>rfl
 | m+1,a,b,c,d,e,f,g,h=>(lS (by kernel_rfl) m k).trans ((Fx n a1 i j l o a b c d e f g h (WB (lB (Qt n) n Yv) m k)).trans (cg2 (fun q r=>Zf n a1 i j l o a b c d e f g h q r ) (funext fun s=>funext fun t=>funext fun u=>funext fun v=>funext fun w=>funext fun x=>funext fun y=>funext fun z=>Hc n a1 i j l o k m s t u v w x y z) rfl))
theorem Fo (n:Nat) (a1:Int) (a:LL) (b e:Bool) (q1 q2 q3 q4 c d q7:LL) (k:Exit→St→Option R):(Xf (Qt n) n Vo k) .normal (So a1 a b e q1 q2 q3 q4 c d q7)=Ga n a1 a b e q1 q2 q3 q4 c d q7 (fun f=>X7 (lB (Qt n) n Yv) n ⟨40,[(0,.ptr 1000000 0),(1,dI a1),(2,dL 1 a),(3,dB b),(8,dI (-1:Int)),(16,dI f),(17,dI (0:Int))],[(98000,.arr 9 1 q1),(98001,.arr 9 1 q2),(98002,.arr 70 5 q3),(98003,.arr 113 6 q4),(98004,.arr 22 1 c),(98005,.arr 22 1 d),(98006,.arr 22 1 q7),(1000000,.box [.arr 98000,.arr 98001,.arr 98002,.arr 98003,.arr 98004,.arr 98005,.arr 98006])]⟩ (Q9 0 k)):=by kernel_rfl
theorem Fw (n:Nat) (a1:Int) (a:LL) (b:Bool) (c d:Int) (e f g h i j l:LL) (k:Exit→St→Option R):Qi (Qt n) n Yv (Gj a1 a b c d e f g h i j l) k=Ze n a1 a b c d e f g h i j l (fun m o p q r s t u=>k .normal (Gj a1 a b c m o p q r s t u)) (fun v=>k (.exit 0) (Sp a1 a b c d v e f g h i j l)):=by kernel_rfl
theorem H9 (n:Nat) (a1:Int) (i:LL) (j:Bool) (l:Int) (k:Exit→St→Option R):∀ (m:Nat) (a:Int) (b c d e f g h:LL),X7 (lB (Qt n) n Yv) m (Gj a1 i j l a b c d e f g h) k=Ya n a1 i j l (fun a o b c d e f g h=>k (.exit 0) (Sp a1 i j l a o b c d e f g h)) m a b c d e f g h
 | 0,_,_,_,_,_,_,_,_=>rfl
 | m+1,a,b,c,d,e,f,g,h=>(lS (by kernel_rfl) m k).trans ((Fw n a1 i j l a b c d e f g h (WB (lB (Qt n) n Yv) m k)).trans (cg2 (fun p q=>Ze n a1 i j l a b c d e f g h p q ) (funext fun r=>funext fun s=>funext fun t=>funext fun u=>funext fun v=>funext fun w=>funext fun x=>funext fun y=>H9 n a1 i j l k m r s t u v w x y) rfl))
theorem Fi (n:Nat) (a1:Int) (a:LL) (b:Bool) (q1 q2 q3 q4 c d q7:LL) (k:Exit→St→Option R):Qi (Qt n) n Gc (Gg a1 a b q1 q2 q3 q4 c d q7) k=Sr n a1 a b q1 q2 q3 q4 c d q7 (fun q r s t u v w x y z aa=>k .normal (Gz a1 a b q r s t u v w x y z aa)):=
 (Fv n a1 a b q1 q2 q3 q4 c d q7 k).trans (cg1 (fun e=>Gr n a1 a b q1 q2 q3 q4 c d q7 e ) ((F7 n a1 a b q1 q2 q3 q4 c d q7 (Xf (Qt n) n Vo k)).trans (cg2 (fun e x1=>Gs n a1 a b q1 q2 q3 q4 c d q7 e x1 ) (funext fun f=>funext fun g=>funext fun h=>funext fun i=>funext fun j=>funext fun l=>funext fun m=>funext fun o=>(F6 n a1 a b f g h i j l m o k).trans (cg1 (fun e=>Gu n a1 a b f g h i j l m o e ) (funext fun ac=>(Hc n a1 a b f ac (Q9 0 k) n (0:Int) g h i j l m o)))) (funext fun p=>(Fo n a1 a b p q1 q2 q3 q4 c d q7 k).trans (cg1 (fun e=>Ga n a1 a b p q1 q2 q3 q4 c d q7 e ) (funext fun ad=>(H9 n a1 a b ad (Q9 0 k) n (0:Int) q1 q2 q3 q4 c d q7)))))))
def WC:AV→List (Nat × Ob)→Option (LL × LL × LL × LL × LL × LL × LL):=fun av H=>(look H 1000000).bind fun o0=>(look H 98000).bind fun o1=>(look H 98001).bind fun o2=>(look H 98002).bind fun o3=>(look H 98003).bind fun o4=>(look H 98004).bind fun o5=>(look H 98005).bind fun o6=>(look H 98006).bind fun o7=>match av,o0,o1,o2,o3,o4,o5,o6,o7 with
 | .tup [],.box [.arr p0,.arr p1,.arr a,.arr b,.arr c,.arr d,.arr e],.arr f g h,.arr i j k,.arr l m r2,.arr n o r3,.arr p q r,.arr s t u,.arr v w x=>bif Nat.beq p0 98000&&(Nat.beq p1 98001&&(Nat.beq a 98002&&(Nat.beq b 98003&&(Nat.beq c 98004&&(Nat.beq d 98005&&(Nat.beq e 98006&&(Nat.beq f 9&&(Nat.beq g 1&&(Nat.beq i 9&&(Nat.beq j 1&&(Nat.beq l 70&&(Nat.beq m 5&&(Nat.beq n 113&&(Nat.beq o 6&&(Nat.beq p 22&&(Nat.beq q 1&&(Nat.beq s 22&&(Nat.beq t 1&&(Nat.beq v 22&&(Nat.beq w 1&&((look H 1000001).isNone&&((look H 1000002).isNone&&((look H 1000003).isNone&&((look H 1000004).isNone&&((look H 1000005).isNone&&((look H 1000006).isNone&&((look H 1000007).isNone))))))))))))))))))))))))))) then some (h,k,r2,r3,r,u,x) else none
 | _,_,_,_,_,_,_,_,_=>none
theorem EF (n:Nat) (q1 q2 q3 q4 a c q7:LL) (a1:Int) (d:LL) (e:Bool):vfn (Qt n) n Tryz.f24 [.ptr 1000000 0,.d (D.int .i64 a1),.d (D.sl 1 d),.d (D.bool e)] [(1000000,.box [.arr 1000001,.arr 1000002,.arr 1000003,.arr 1000004,.arr 1000005,.arr 1000006,.arr 1000007]),(1000001,.arr 9 1 q1),(1000002,.arr 9 1 q2),(1000003,.arr 70 5 q3),(1000004,.arr 113 6 q4),(1000005,.arr 22 1 a),(1000006,.arr 22 1 c),(1000007,.arr 22 1 q7)] WC=Vc n q1 q2 q3 q4 a c q7 a1 d e (fun f g r2 r3 h i j=>some (f,g,r2,r3,h,i,j)):=
 Eq.trans (b:=Qi (Qt n) n Gc (Gg a1 d e q1 q2 q3 q4 a c q7) (K3 gtt [] WC)) VP ((Fi n a1 d e q1 q2 q3 q4 a c q7 (K3 gtt [] WC)).trans (by kernel_rfl))
def Ki (n:Nat):XH:=fun _ site g avs hl k=>match avs with
 | [c0,c1,f,h]=>prP hl c0 fun l0 i=>(match i with
  | [j,l,m,o,p,q,s]=>prR hl 9 1 j fun l1 q1=>prR hl 9 1 l fun l2 q2=>prR hl 70 5 m fun a q3=>prR hl 113 6 o fun b q4=>prR hl 22 1 p fun c t=>prR hl 22 1 q fun d u=>prR hl 22 1 s fun e q7=>prI g .i64 c1 fun a1=>prS g 1 f fun v=>prB g h fun w=>
  bif UY hl [(1000000,l0),(1000001,l1),(1000002,l2),(1000003,a),(1000004,b),(1000005,c),(1000006,d),(1000007,e)] [(98000,(site+50000)),(98001,(site+100000)),(98002,(site+150000)),(98003,(site+200000)),(98004,(site+250000)),(98005,(site+300000)),(98006,(site+350000))] then gb g (Vc n q1 q2 q3 q4 t u q7 a1 v w (fun x y r2 r3 z r5 r6=>some (x,y,r2,r3,z,r5,r6))) ([],[],[],[],[],[],[]) fun r=>k ⟨.tup [],[(l0,some (.box [.arr (site+50000),.arr (site+100000),.arr (site+150000),.arr (site+200000),.arr (site+250000),.arr (site+300000),.arr (site+350000)])),(l1,none),(l2,none),(a,none),(b,none),(c,none),(d,none),(e,none),((site+50000),some (.arr 9 1 r.1)),((site+100000),some (.arr 9 1 r.2.1)),((site+150000),some (.arr 70 5 r.2.2.1)),((site+200000),some (.arr 113 6 r.2.2.2.1)),((site+250000),some (.arr 22 1 r.2.2.2.2.1)),((site+300000),some (.arr 22 1 r.2.2.2.2.2.1)),((site+350000),some (.arr 22 1 r.2.2.2.2.2.2))],[l0,l1,l2,a,b,c,d,e]⟩ else none
  | _=>none)
 | _=>none
theorem DW (n:Nat):Qo Tryz.prog 24 (Ki n):=by
  intro R site g avs hl k r h
  unfold Ki at h
  split at h
  rotate_left
  · cases h
  obtain ⟨l0,az,h,y,z⟩:=YT h
  split at h
  rotate_left
  · cases h
  obtain ⟨l1,q1,h,aa,ab⟩:=QH h
  obtain ⟨l2,q2,h,ac,ad⟩:=QH h
  obtain ⟨l3,q3,h,af,ag⟩:=QH h
  obtain ⟨l4,q4,h,ai,aj⟩:=QH h
  obtain ⟨l5,a,h,al,am⟩:=QH h
  obtain ⟨l6,b,h,ao,ap⟩:=QH h
  obtain ⟨l7,q7,h,ar,au⟩:=QH h
  obtain ⟨a1,h,aw⟩:=Q2 h
  obtain ⟨c,h,ax⟩:=Q1 h
  obtain ⟨d,h,ay⟩:=LO h
  obtain ⟨hc,h⟩:=Xa h
  obtain ⟨res,h,hr⟩:=Qc h
  have hL:=h
  subst y aa ac af ai al ao ar
  refine ⟨_,hL,fun hg=>Zl (K:=WC) (res:=res) (Cd n) (fn:=Tryz.f24) (n:=n) (by kernel_rfl) (by kernel_rfl) (by kernel_rfl) (ρ:=[(1000000,l0),(1000001,l1),(1000002,l2),(1000003,l3),(1000004,l4),(1000005,l5),(1000006,l6),(1000007,l7)]) (ν:=[(98000,(site+50000)),(98001,(site+100000)),(98002,(site+150000)),(98003,(site+200000)),(98004,(site+250000)),(98005,(site+300000)),(98006,(site+350000))]) (avs':=[.ptr 1000000 0,.d (D.int .i64 a1),.d (D.sl 1 c),.d (D.bool d)]) (H:=[(1000000,.box [.arr 1000001,.arr 1000002,.arr 1000003,.arr 1000004,.arr 1000005,.arr 1000006,.arr 1000007]),(1000001,.arr 9 1 q1),(1000002,.arr 9 1 q2),(1000003,.arr 70 5 q3),(1000004,.arr 113 6 q4),(1000005,.arr 22 1 a),(1000006,.arr 22 1 b),(1000007,.arr 22 1 q7)]) (.cons (.own rfl rfl) (.cons (.data rfl (aw hg)) (.cons (.data rfl (ax hg)) (.cons (.data rfl (ay hg)) (.nil))))) rfl rfl hc (⟨⟨by decide,_,_,z,rfl,.box (.cons (.own rfl rfl) (.cons (.own rfl rfl) (.cons (.own rfl rfl) (.cons (.own rfl rfl) (.cons (.own rfl rfl) (.cons (.own rfl rfl) (.cons (.own rfl rfl) (.nil))))))))⟩,⟨⟨by decide,_,_,ab,rfl,.arr _ _ _⟩,⟨⟨by decide,_,_,ad,rfl,.arr _ _ _⟩,⟨⟨by decide,_,_,ag,rfl,.arr _ _ _⟩,⟨⟨by decide,_,_,aj,rfl,.arr _ _ _⟩,⟨⟨by decide,_,_,am,rfl,.arr _ _ _⟩,⟨⟨by decide,_,_,ap,rfl,.arr _ _ _⟩,⟨⟨by decide,_,_,au,rfl,.arr _ _ _⟩,trivial⟩⟩⟩⟩⟩⟩⟩⟩) rfl rfl ?_ ?_⟩
  · exact (EF n q1 q2 q3 q4 a b q7 a1 c d).trans (hr hg)
  · intro av H' hx
    unfold WC at hx
    simp only [Option.bind_eq_some_iff] at hx
    obtain ⟨o0,e,o1,f,o2,i,o3,j,o4,l,o5,m,o6,o,o7,p,hx⟩:=hx
    split at hx
    rotate_left
    · cases hx
    replace hx:=Xa hx
    obtain ⟨hck,hx⟩:=hx
    simp only [Bool.and_eq_true,Nat.beq_eq,Option.isNone_iff_eq_none] at hck
    obtain ⟨rfl,rfl,rfl,rfl,rfl,rfl,rfl,rfl,rfl,rfl,rfl,rfl,rfl,rfl,rfl,rfl,rfl,rfl,rfl,rfl,rfl,q,s,t,u,v,w,x⟩:=hck
    injection hx with hx
    subst hx
    refine ⟨rfl,?_,⟨by rw [f];rfl,⟨by rw [i];rfl,⟨by rw [j];rfl,⟨by rw [l];rfl,⟨by rw [m];rfl,⟨by rw [o];rfl,⟨by rw [p];rfl,trivial⟩⟩⟩⟩⟩⟩⟩,⟨YI rfl e rfl,⟨Qn rfl q,⟨Qn rfl s,⟨Qn rfl t,⟨Qn rfl u,⟨Qn rfl v,⟨Qn rfl w,⟨Qn rfl x,trivial⟩⟩⟩⟩⟩⟩⟩⟩⟩
    simp only [List.cons_append,List.nil_append,K2,e,f,i,j,l,m,o,p,q,s,t,u,v,w,x,Option.map_some,Option.map_none]
    rfl
noncomputable def Q0u:Code:=Q8 Tryz.f9
noncomputable def Mc:Code:=cA [1,1,1,0,1,2,2] (Q8 Tryz.f9)
noncomputable def EW:Code:=cA [1,1,1,1] (Q8 Tryz.f9)
noncomputable def EM:Code:=cA [1,1,1,0,1,2,2,1,0,2,1,1,0,1,2,2] (Q8 Tryz.f9)
noncomputable def D0:Code:=cA [1,1,1,0,1,2,2,1,1] (Q8 Tryz.f9)
noncomputable def D8:Code:=cA [1,1,1,0,1,2,2,1,0,2,1,1,1] (Q8 Tryz.f9)
noncomputable def M0:Code:=cA [1,1,1,1,0,1,2,2] (Q8 Tryz.f9)
noncomputable def EZ:Code:=cA [1,1,1,1,1] (Q8 Tryz.f9)
noncomputable def Ex:Code:=cA [1,1,1,1,0,1,2,2,1,0,2,1,0,1,2,2] (Q8 Tryz.f9)
noncomputable def Kl:Code:=cA [1,1,1,1,0,1,2,2,1,1] (Q8 Tryz.f9)
noncomputable def LN:Code:=cA [1,1,1,1,0,1,2,2,1,0,2,1,1] (Q8 Tryz.f9)
noncomputable def LB:Code:=cA [1,1,1,1,0,1,2,2,1,0,2,1,1,0,1,2,2] (Q8 Tryz.f9)
noncomputable def Lp:Code:=cA [1,1,1,1,0,1,2,2,1,0,2,1,1,1] (Q8 Tryz.f9)
def AZ (a:LL) (b:Int):St:=⟨151,[(0,.ptr 1000000 0)],[(1000000,.box [dL 1 a,dI b])]⟩
def Q0U (a b:Int) (c d e f g h i j:LL) (k:Int):St:=⟨151,[(0,.ptr 1000000 0),(3,.ptr 14 0),(4,dI a),(5,dI b)],[(14,.box [.arr 501400,.arr 501401,.arr 501402,.arr 501403,.arr 501404,.arr 501405,.arr 501406]),(501400,.arr 9 1 c),(501401,.arr 9 1 d),(501402,.arr 70 5 e),(501403,.arr 113 6 f),(501404,.arr 22 1 g),(501405,.arr 22 1 h),(501406,.arr 22 1 i),(1000000,.box [dL 1 j,dI k])]⟩
def Db (a b:Int) (c:Bool) (d e f g h i j k:LL) (l:Int):St:=⟨151,[(0,.ptr 1000000 0),(3,.ptr 14 0),(4,dI a),(5,dI b),(20,dB c)],[(14,.box [.arr 501400,.arr 501401,.arr 501402,.arr 501403,.arr 501404,.arr 501405,.arr 501406]),(501400,.arr 9 1 d),(501401,.arr 9 1 e),(501402,.arr 70 5 f),(501403,.arr 113 6 g),(501404,.arr 22 1 h),(501405,.arr 22 1 i),(501406,.arr 22 1 j),(1000000,.box [dL 1 k,dI l])]⟩
def Q6v (a b c:Int) (d e f g h i j k l:LL) (m:Int):St:=⟨151,[(0,.ptr 1000000 0),(3,.ptr 14 0),(4,dI a),(5,dI b),(6,.arr 1006),(7,dI c)],[(14,.box [.arr 32,.arr 501401,.arr 501402,.arr 501403,.arr 501404,.arr 501405,.arr 501406]),(32,.arr 9 1 d),(1006,.arr 3 1 e),(501401,.arr 9 1 f),(501402,.arr 70 5 g),(501403,.arr 113 6 h),(501404,.arr 22 1 i),(501405,.arr 22 1 j),(501406,.arr 22 1 k),(1000000,.box [dL 1 l,dI m])]⟩
def AS (a b c:Int) (d:Bool) (e f g h i j k l m:LL) (n:Int):St:=⟨151,[(0,.ptr 1000000 0),(3,.ptr 14 0),(4,dI a),(5,dI b),(6,.arr 1006),(7,dI c),(40,dB d)],[(14,.box [.arr 32,.arr 501401,.arr 501402,.arr 501403,.arr 501404,.arr 501405,.arr 501406]),(32,.arr 9 1 e),(1006,.arr 3 1 f),(501401,.arr 9 1 g),(501402,.arr 70 5 h),(501403,.arr 113 6 i),(501404,.arr 22 1 j),(501405,.arr 22 1 k),(501406,.arr 22 1 l),(1000000,.box [dL 1 m,dI n])]⟩
def Q5w (a b:Int) (c d e f g h i j:LL) (k:Int):St:=⟨151,[(0,.ptr 1000000 0),(3,.ptr 14 0),(4,dI a),(5,dI b)],[(14,.box [.arr 32,.arr 501401,.arr 501402,.arr 501403,.arr 67,.arr 501405,.arr 501406]),(32,.arr 9 1 c),(67,.arr 22 1 d),(501401,.arr 9 1 e),(501402,.arr 70 5 f),(501403,.arr 113 6 g),(501405,.arr 22 1 h),(501406,.arr 22 1 i),(1000000,.box [dL 1 j,dI k])]⟩
def Q0e (a b:Int) (c d e f g h i j:LL) (k:Int):St:=⟨151,[(0,.ptr 1000000 0),(3,.ptr 14 0),(4,dI a),(9,dI b)],[(14,.box [.arr 501400,.arr 501401,.arr 501402,.arr 501403,.arr 501404,.arr 501405,.arr 501406]),(501400,.arr 9 1 c),(501401,.arr 9 1 d),(501402,.arr 70 5 e),(501403,.arr 113 6 f),(501404,.arr 22 1 g),(501405,.arr 22 1 h),(501406,.arr 22 1 i),(1000000,.box [dL 1 j,dI k])]⟩
def Ew (a b:Int) (c:Bool) (d e f g h i j k:LL) (l:Int):St:=⟨151,[(0,.ptr 1000000 0),(3,.ptr 14 0),(4,dI a),(9,dI b),(73,dB c)],[(14,.box [.arr 501400,.arr 501401,.arr 501402,.arr 501403,.arr 501404,.arr 501405,.arr 501406]),(501400,.arr 9 1 d),(501401,.arr 9 1 e),(501402,.arr 70 5 f),(501403,.arr 113 6 g),(501404,.arr 22 1 h),(501405,.arr 22 1 i),(501406,.arr 22 1 j),(1000000,.box [dL 1 k,dI l])]⟩
def Q5g (a b c:Int) (d e f g h i j k l:LL) (m:Int):St:=⟨151,[(0,.ptr 1000000 0),(3,.ptr 14 0),(4,dI a),(9,dI b),(10,.arr 1010),(11,dI c)],[(14,.box [.arr 501400,.arr 501401,.arr 501402,.arr 501403,.arr 501404,.arr 501405,.arr 501406]),(1010,.arr 3 1 d),(501400,.arr 9 1 e),(501401,.arr 9 1 f),(501402,.arr 70 5 g),(501403,.arr 113 6 h),(501404,.arr 22 1 i),(501405,.arr 22 1 j),(501406,.arr 22 1 k),(1000000,.box [dL 1 l,dI m])]⟩
def Q0B (a b c:Int) (d:Bool) (e f g h i j k l m:LL) (n:Int):St:=⟨151,[(0,.ptr 1000000 0),(3,.ptr 14 0),(4,dI a),(9,dI b),(10,.arr 1010),(11,dI c),(80,dB d)],[(14,.box [.arr 501400,.arr 501401,.arr 501402,.arr 501403,.arr 501404,.arr 501405,.arr 501406]),(1010,.arr 3 1 e),(501400,.arr 9 1 f),(501401,.arr 9 1 g),(501402,.arr 70 5 h),(501403,.arr 113 6 i),(501404,.arr 22 1 j),(501405,.arr 22 1 k),(501406,.arr 22 1 l),(1000000,.box [dL 1 m,dI n])]⟩
def Q3K (a b c:Int) (d e f g h i j k l:LL) (m:Int):St:=⟨151,[(0,.ptr 1000000 0),(3,.ptr 14 0),(4,dI a),(9,dI b),(10,.arr 1010),(12,dI c)],[(14,.box [.arr 501400,.arr 501401,.arr 501402,.arr 501403,.arr 501404,.arr 501405,.arr 501406]),(1010,.arr 3 1 d),(501400,.arr 9 1 e),(501401,.arr 9 1 f),(501402,.arr 70 5 g),(501403,.arr 113 6 h),(501404,.arr 22 1 i),(501405,.arr 22 1 j),(501406,.arr 22 1 k),(1000000,.box [dL 1 l,dI m])]⟩
def CL (a b c:Int) (d:Bool) (e f g h i j k l m:LL) (n:Int):St:=⟨151,[(0,.ptr 1000000 0),(3,.ptr 14 0),(4,dI a),(9,dI b),(10,.arr 1010),(12,dI c),(98,dB d)],[(14,.box [.arr 501400,.arr 501401,.arr 501402,.arr 501403,.arr 501404,.arr 501405,.arr 501406]),(1010,.arr 3 1 e),(501400,.arr 9 1 f),(501401,.arr 9 1 g),(501402,.arr 70 5 h),(501403,.arr 113 6 i),(501404,.arr 22 1 j),(501405,.arr 22 1 k),(501406,.arr 22 1 l),(1000000,.box [dL 1 m,dI n])]⟩
def Q3M (a b:Int) (c d e f g h i j:LL) (k:Int):St:=⟨151,[(0,.ptr 1000000 0),(3,.ptr 14 0),(4,dI a),(9,dI b)],[(14,.box [.arr 50139,.arr 100139,.arr 150139,.arr 200139,.arr 250139,.arr 147,.arr 350139]),(147,.arr 22 1 c),(50139,.arr 9 1 d),(100139,.arr 9 1 e),(150139,.arr 70 5 f),(200139,.arr 113 6 g),(250139,.arr 22 1 h),(350139,.arr 22 1 i),(1000000,.box [dL 1 j,dI k])]⟩
def Q3Y (a b c d e f g h:LL) (i:Int):St:=⟨151,[(2,.ptr 14 0)],[(14,.box [.arr 501400,.arr 501401,.arr 501402,.arr 501403,.arr 501404,.arr 501405,.arr 501406]),(501400,.arr 9 1 a),(501401,.arr 9 1 b),(501402,.arr 70 5 c),(501403,.arr 113 6 d),(501404,.arr 22 1 e),(501405,.arr 22 1 f),(501406,.arr 22 1 g),(1000000,.box [dL 1 h,dI i])]⟩
def Qm (n:Nat):VC:=⟨QK [(10,ZT n),(20,RV n),(21,Kn n),(22,Ka n),(23,Vm n),(24,Ki n)],gtt,[cO 0 [0] [1000000],cO 1 [0,3] [14,1000000],cO 2 [0,3,4] [14,1000000],(3,⟨[0,3,4,5],[(14,14),(1000000,1000000)],[],[(14,0,501400,9,1),(14,1,501401,9,1),(14,2,501402,70,5),(14,3,501403,113,6),(14,4,501404,22,1),(14,5,501405,22,1),(14,6,501406,22,1)],[]⟩),cO 4 [0,3,4,5,20] (14::rg1 501400 7 [1000000]),cO 5 [0,3,4,5] (14::32::67::rg1 501401 3 [501405,501406,1000000]),cO 6 [0,3,4,5] (14::32::rg1 501401 6 [1000000]),cO 7 [0,3,4,5,6] (14::32::rg1 501401 6 [1000000]),(8,⟨(0::rg1 3 5 []),(zp (14::32::rg1 501401 6 [1000000]) (14::32::rg1 501401 6 [1000000])),[(6,1006,3,1)],[],[]⟩),cO 9 (0::rg1 3 5 [40]) (14::32::1006::rg1 501401 6 [1000000]),cO 10 (0::rg1 3 5 []) (14::59::rg5 50057 7 [1000000]),cO 11 (0::rg1 3 6 []) (8::14::32::1006::rg1 501401 6 [1000000]),cO 12 (0::rg1 3 6 []) (8::14::32::1006::rg1 501401 6 [1000000]),cO 13 (0::rg1 3 5 []) (14::59::rg5 50057 7 [1000000]),cO 14 [0,3,4,5] (14::32::67::rg1 501401 3 [501405,501406,1000000]),cO 15 [0,3,4,9] (14::rg1 501400 7 [1000000]),cO 16 [0,3,4,9,73] (14::rg1 501400 7 [1000000]),cO 17 [0,3,4,9] (14::147::rg5 50139 5 [350139,1000000]),cO 18 [0,3,4,9,10] (14::rg1 501400 7 [1000000]),(19,⟨[0,3,4,9,10,11],(zp (14::rg1 501400 7 [1000000]) (14::rg1 501400 7 [1000000])),[(10,1010,3,1)],[],[]⟩),cO 20 [0,3,4,9,10,11,80] (14::1010::rg1 501400 7 [1000000]),cO 21 [0,3,4,9,10,11] (14::93::rg5 50091 7 [1000000]),cO 22 [0,3,4,9,10,11] (14::93::rg5 50091 7 [1000000]),cO 23 [0,3,4,9,10,12] (14::1010::rg1 501400 7 [1000000]),cO 24 [0,3,4,9,10,12,98] (14::1010::rg1 501400 7 [1000000]),cO 25 [0,3,4,9,10,12] (14::1010::rg5 50111 7 [1000000]),cO 26 [0,3,4,9,10,12] (14::1010::rg5 50111 7 [1000000]),cO 27 [0,3,4,9,10] (14::1010::rg5 50123 7 [1000000]),cO 28 [0,3,4,9,10] (14::1010::rg5 50139 7 [1000000]),cO 29 [0,3,4,9] (14::147::rg5 50139 5 [350139,1000000]),cO 30 [2] (14::rg1 501400 7 [1000000]),(3000000004,⟨[0,3,4,5],(zp (14::32::rg1 501400 4 (67::rg1 501404 3 [1000000])) (14::501400::rg1 501400 5 (rg1 501404 3 [1000000]))),[],[],[]⟩),(3000000009,⟨(0::rg1 3 5 []),(zp [14,32,50057,59,1006,100057,501401,150057,501402,200057,501403,250057,501404,300057,501405,350057,501406,1000000] [14,32,32,1006,1006,501401,501401,501402,501402,501403,501403,501404,501404,501405,501405,501406,501406,1000000]),[],[],[]⟩),(3000000016,⟨[0,3,4,9],(zp [14,50139,501400,100139,501401,150139,501402,200139,501403,250139,501404,147,501405,350139,501406,1000000] [14,501400,501400,501401,501401,501402,501402,501403,501403,501404,501404,501405,501405,501406,501406,1000000]),[],[],[]⟩),(3000000020,⟨[0,3,4,9,10,11],(zp [14,93,1010,50091,501400,100091,501401,150091,501402,200091,501403,250091,501404,300091,501405,350091,501406,1000000] [14,1010,1010,501400,501400,501401,501401,501402,501402,501403,501403,501404,501404,501405,501405,501406,501406,1000000]),[],[],[]⟩),(3000000024,⟨[0,3,4,9,10,12],(zp [14,1010,50111,501400,100111,501401,150111,501402,200111,501403,250111,501404,300111,501405,350111,501406,1000000] [14,1010,501400,501400,501401,501401,501402,501402,501403,501403,501404,501404,501405,501405,501406,501406,1000000]),[],[],[]⟩)]⟩
theorem Qav (n:Nat):VCOk Tryz.prog (Qm n):=gVC (Qe ⟨V0 n,⟨D5 n,⟨Ck n,⟨C7 n,⟨TO n,⟨DW n,trivial⟩⟩⟩⟩⟩⟩)
theorem Q6J (n:Nat) (a:LL) (b:Int) (k:Exit→St→Option R):Qi (Qm n) n Q0u (AZ a b) k=D4 n a b (fun c d e=>X7 (lB (Qm n) n Mc) n ⟨151,[(0,.ptr 1000000 0),(3,.ptr 14 0),(4,dI c),(5,dI (0:Int))],[(501406,.arr 22 1 []),(14,.box [.arr 501400,.arr 501401,.arr 501402,.arr 501403,.arr 501404,.arr 501405,.arr 501406]),(501405,.arr 22 1 []),(501404,.arr 22 1 []),(501403,.arr 113 6 []),(501402,.arr 70 5 []),(501401,.arr 9 1 []),(501400,.arr 9 1 []),(1000000,.box [dL 1 d,dI e])]⟩ (Q9 0 (Xf (Qm n) n EW k))):=by kernel_rfl
theorem Q6T (n:Nat) (a b:Int) (i c d e f g h j:LL) (l:Int) (k:Exit→St→Option R):Qi (Qm n) n Mc (Q0U a b i c d e f g h j l) k=Mr n a b i c d e f g h j l (fun m o p q=>X7 (lB (Qm n) n EM) n ⟨151,[(0,.ptr 1000000 0),(3,.ptr 14 0),(4,dI a),(5,dI b),(6,.arr 1006),(7,dI m)],[(1006,.arr 3 1 []),(14,.box [.arr 32,.arr 501401,.arr 501402,.arr 501403,.arr 501404,.arr 501405,.arr 501406]),(32,.arr 9 1 o),(501401,.arr 9 1 c),(501402,.arr 70 5 d),(501403,.arr 113 6 e),(501404,.arr 22 1 f),(501405,.arr 22 1 g),(501406,.arr 22 1 h),(1000000,.box [dL 1 p,dI q])]⟩ (Q9 2 (Xf (Qm n) n D8 (Q9 1 (Xf (Qm n) n D0 k))))) (fun r=>k (.exit 0) (Db a b r i c d e f g h j l)):=by kernel_rfl
theorem Q6O (n:Nat) (a b c:Int) (d e f g h i j l m:LL) (o:Int) (k:Exit→St→Option R):Qi (Qm n) n EM (Q6v a b c d e f g h i j l m o) k=MZ n a b c d e f g h i j l m o (fun p q r s t u v w x y z=>k .normal ⟨151,[(0,.ptr 1000000 0),(3,.ptr 14 0),(4,dI a),(5,dI b),(6,.arr 59),(7,dI p)],[(14,.box [.arr 50057,.arr 100057,.arr 150057,.arr 200057,.arr 250057,.arr 300057,.arr 350057]),(59,.arr 3 1 q),(50057,.arr 9 1 r),(100057,.arr 9 1 s),(150057,.arr 70 5 t),(200057,.arr 113 6 u),(250057,.arr 22 1 v),(300057,.arr 22 1 w),(350057,.arr 22 1 x),(1000000,.box [dL 1 y,dI z])]⟩) (fun aa=>k (.exit 2) (AS a b c aa d e f g h i j l m o)):=by kernel_rfl
theorem AL (n:Nat) (o p:Int) (k:Exit→St→Option R):∀ (m:Nat) (a:Int) (b c d e f g h i j:LL) (l:Int),X7 (lB (Qm n) n EM) m (Q6v o p a b c d e f g h i j l) k=MP n o p (fun a q b c d e f g h i j l=>k (.exit 2) (AS o p a q b c d e f g h i j l)) m a b c d e f g h i j l
 | 0,_,_,_,_,_,_,_,_,_,_,_=>rfl
 | m+1,a,b,c,d,e,f,g,h,i,j,l=>(lS (by kernel_rfl) m k).trans ((Q6O n o p a b c d e f g h i j l (WB (lB (Qm n) n EM) m k)).trans (cg2 (fun r s=>MZ n o p a b c d e f g h i j l r s ) (funext fun t=>funext fun u=>funext fun v=>funext fun w=>funext fun x=>funext fun y=>funext fun z=>funext fun aa=>funext fun ab=>funext fun ac=>funext fun ad=>(XM (by kernel_rfl) m k).trans (AL n o p k m t v u w x y z aa ab ac ad)) rfl))
theorem Q6P (n:Nat) (a j l:Int) (m:Bool) (b o c d e p f g h:LL) (i:Int) (k:Exit→St→Option R):(Q9 2 (Xf (Qm n) n D8 (Q9 1 (Xf (Qm n) n D0 k)))) (.exit 2) (AS a j l m b o c d e p f g h i)=AP n a j l m b o c d e p f g h i (fun q r=>k .normal (Q5w a q b r c d e f g h i)):=by kernel_rfl
theorem Q7g (n:Nat) (a b:Int) (i c d e f g h j:LL) (l:Int) (k:Exit→St→Option R):Qi (Qm n) n Mc (Q0U a b i c d e f g h j l) k=SA n a b i c d e f g h j l (fun aa m ab o p q r s t u=>k .normal (Q5w a aa m ab o p q r s t u)) (fun ac=>k (.exit 0) (Db a b ac i c d e f g h j l)):=
 (Q6T n a b i c d e f g h j l k).trans (cg2 (fun v x1=>Mr n a b i c d e f g h j l v x1 ) (funext fun w=>funext fun x=>funext fun y=>funext fun z=>((XM (by kernel_rfl) n (Q9 2 (Xf (Qm n) n D8 (Q9 1 (Xf (Qm n) n D0 k))))).trans (AL n a b (Q9 2 (Xf (Qm n) n D8 (Q9 1 (Xf (Qm n) n D0 k)))) n w x [] c d e f g h y z)).trans (cg1 (fun v=>MP n a b v n w x [] c d e f g h y z) (funext fun ae=>funext fun af=>funext fun m=>funext fun ag=>funext fun o=>funext fun p=>funext fun q=>funext fun ah=>funext fun r=>funext fun s=>funext fun t=>funext fun u=>(Q6P n a b ae af m ag o p q ah r s t u k)))) rfl)
theorem AI (n:Nat) (l:Int) (k:Exit→St→Option R):∀ (m:Nat) (a:Int) (b c d e f g h i:LL) (j:Int),X7 (lB (Qm n) n Mc) m (Q0U l a b c d e f g h i j) k=Ko n l (fun a o b c d e f g h i j=>k (.exit 0) (Db l a o b c d e f g h i j)) m a b c d e f g h i j
 | 0,_,_,_,_,_,_,_,_,_,_=>rfl
 | m+1,a,b,c,d,e,f,g,h,i,j=>(lS (by kernel_rfl) m k).trans ((Q7g n l a b c d e f g h i j (WB (lB (Qm n) n Mc) m k)).trans (cg2 (fun p q=>SA n l a b c d e f g h i j p q ) (funext fun r=>funext fun s=>funext fun t=>funext fun u=>funext fun v=>funext fun w=>funext fun x=>funext fun y=>funext fun z=>funext fun aa=>(XM (by kernel_rfl) m k).trans (AI n l k m r s u v w t x y z aa)) rfl))
theorem Q73 (n:Nat) (a l:Int) (m:Bool) (b c d e f g h i:LL) (j:Int) (k:Exit→St→Option R):(Q9 0 (Xf (Qm n) n EW k)) (.exit 0) (Db a l m b c d e f g h i j)=HW n a l m b c d e f g h i j (X7 (lB (Qm n) n M0) n ⟨151,[(0,.ptr 1000000 0),(3,.ptr 14 0),(4,dI a),(9,dI (0:Int))],[(14,.box [.arr 501400,.arr 501401,.arr 501402,.arr 501403,.arr 501404,.arr 501405,.arr 501406]),(501400,.arr 9 1 b),(501401,.arr 9 1 c),(501402,.arr 70 5 d),(501403,.arr 113 6 e),(501404,.arr 22 1 f),(501405,.arr 22 1 g),(501406,.arr 22 1 h),(1000000,.box [dL 1 i,dI j])]⟩ (Q9 4 (Xf (Qm n) n EZ k))):=by kernel_rfl
theorem Q6V (n:Nat) (a b:Int) (c d e f g h i j:LL) (l:Int) (k:Exit→St→Option R):Qi (Qm n) n M0 (Q0e a b c d e f g h i j l) k=Lb n a b c d e f g h i j l (fun m o p=>X7 (lB (Qm n) n Ex) n ⟨151,[(0,.ptr 1000000 0),(3,.ptr 14 0),(4,dI a),(9,dI b),(10,.arr 1010),(11,dI m)],[(1010,.arr 3 1 []),(14,.box [.arr 501400,.arr 501401,.arr 501402,.arr 501403,.arr 501404,.arr 501405,.arr 501406]),(501400,.arr 9 1 c),(501401,.arr 9 1 d),(501402,.arr 70 5 e),(501403,.arr 113 6 f),(501404,.arr 22 1 g),(501405,.arr 22 1 h),(501406,.arr 22 1 i),(1000000,.box [dL 1 o,dI p])]⟩ (Q9 6 (Xf (Qm n) n LN (Q9 5 (Xf (Qm n) n Kl k))))) (fun q=>k (.exit 4) (Ew a b q c d e f g h i j l)):=by kernel_rfl
theorem Q6c (n:Nat) (a b c:Int) (d e f g h i j l m:LL) (o:Int) (k:Exit→St→Option R):Qi (Qm n) n Ex (Q5g a b c d e f g h i j l m o) k=RE n a b c d e f g h i j l m o (fun p q r s t u v w x y z=>k .normal ⟨151,[(0,.ptr 1000000 0),(3,.ptr 14 0),(4,dI a),(9,dI b),(10,.arr 93),(11,dI p)],[(14,.box [.arr 50091,.arr 100091,.arr 150091,.arr 200091,.arr 250091,.arr 300091,.arr 350091]),(93,.arr 3 1 q),(50091,.arr 9 1 r),(100091,.arr 9 1 s),(150091,.arr 70 5 t),(200091,.arr 113 6 u),(250091,.arr 22 1 v),(300091,.arr 22 1 w),(350091,.arr 22 1 x),(1000000,.box [dL 1 y,dI z])]⟩) (fun aa=>k (.exit 6) (Q0B a b c aa d e f g h i j l m o)):=by kernel_rfl
theorem CO (n:Nat) (o p:Int) (k:Exit→St→Option R):∀ (m:Nat) (a:Int) (b c d e f g h i j:LL) (l:Int),X7 (lB (Qm n) n Ex) m (Q5g o p a b c d e f g h i j l) k=RH n o p (fun a q b c d e f g h i j l=>k (.exit 6) (Q0B o p a q b c d e f g h i j l)) m a b c d e f g h i j l
 | 0,_,_,_,_,_,_,_,_,_,_,_=>rfl
 | m+1,a,b,c,d,e,f,g,h,i,j,l=>(lS (by kernel_rfl) m k).trans ((Q6c n o p a b c d e f g h i j l (WB (lB (Qm n) n Ex) m k)).trans (cg2 (fun r s=>RE n o p a b c d e f g h i j l r s ) (funext fun t=>funext fun u=>funext fun v=>funext fun w=>funext fun x=>funext fun y=>funext fun z=>funext fun aa=>funext fun ab=>funext fun ac=>funext fun ad=>(XM (by kernel_rfl) m k).trans (CO n o p k m t u v w x y z aa ab ac ad)) rfl))
theorem Q5j (n:Nat) (a b o:Int) (p:Bool) (c d e f g h i j l:LL) (m:Int) (k:Exit→St→Option R):(Q9 6 (Xf (Qm n) n LN (Q9 5 (Xf (Qm n) n Kl k)))) (.exit 6) (Q0B a b o p c d e f g h i j l m)=LF n a b o p c d e f g h i j l m (X7 (lB (Qm n) n LB) n ⟨151,[(0,.ptr 1000000 0),(3,.ptr 14 0),(4,dI a),(9,dI b),(10,.arr 1010),(12,dI (0:Int))],[(14,.box [.arr 501400,.arr 501401,.arr 501402,.arr 501403,.arr 501404,.arr 501405,.arr 501406]),(1010,.arr 3 1 c),(501400,.arr 9 1 d),(501401,.arr 9 1 e),(501402,.arr 70 5 f),(501403,.arr 113 6 g),(501404,.arr 22 1 h),(501405,.arr 22 1 i),(501406,.arr 22 1 j),(1000000,.box [dL 1 l,dI m])]⟩ (Q9 8 (Xf (Qm n) n Lp (Q9 5 (Xf (Qm n) n Kl k))))):=by kernel_rfl
theorem Q6H (n:Nat) (a b f:Int) (c g h i j l m o d:LL) (e:Int) (k:Exit→St→Option R):Qi (Qm n) n LB (Q3K a b f c g h i j l m o d e) k=BH n a b f c g h i j l m o d e (fun p q r s t u v w=>k .normal ⟨151,[(0,.ptr 1000000 0),(3,.ptr 14 0),(4,dI a),(9,dI b),(10,.arr 1010),(12,dI p)],[(14,.box [.arr 50111,.arr 100111,.arr 150111,.arr 200111,.arr 250111,.arr 300111,.arr 350111]),(1010,.arr 3 1 c),(50111,.arr 9 1 q),(100111,.arr 9 1 r),(150111,.arr 70 5 s),(200111,.arr 113 6 t),(250111,.arr 22 1 u),(300111,.arr 22 1 v),(350111,.arr 22 1 w),(1000000,.box [dL 1 d,dI e])]⟩) (fun x=>k (.exit 8) (CL a b f x c g h i j l m o d e)):=by kernel_rfl
theorem Bm (n:Nat) (i j:Int) (l o:LL) (p:Int) (k:Exit→St→Option R):∀ (m:Nat) (a:Int) (b c d e f g h:LL),X7 (lB (Qm n) n LB) m (Q3K i j a l b c d e f g h o p) k=Rw n i j l o p (fun a q b c d e f g h=>k (.exit 8) (CL i j a q l b c d e f g h o p)) m a b c d e f g h
 | 0,_,_,_,_,_,_,_,_=>rfl
 | m+1,a,b,c,d,e,f,g,h=>(lS (by kernel_rfl) m k).trans ((Q6H n i j a l b c d e f g h o p (WB (lB (Qm n) n LB) m k)).trans (cg2 (fun r s=>BH n i j a l b c d e f g h o p r s ) (funext fun t=>funext fun u=>funext fun v=>funext fun w=>funext fun x=>funext fun y=>funext fun z=>funext fun aa=>(XM (by kernel_rfl) m k).trans (Bm n i j l o p k m t u v w x y z aa)) rfl))
theorem Q6I (n:Nat) (a d e:Int) (f:Bool) (g h i j l m o p b:LL) (c:Int) (k:Exit→St→Option R):(Q9 8 (Xf (Qm n) n Lp (Q9 5 (Xf (Qm n) n Kl k)))) (.exit 8) (CL a d e f g h i j l m o p b c)=B6 n a d e f g h i j l m o p b c (fun q r s t u v w x=>k .normal (Q3M a q r s t u v w x b c)):=by kernel_rfl
theorem Q5U (n:Nat) (a b:Int) (c d e f g h i o:LL) (p:Int) (k:Exit→St→Option R):Qi (Qm n) n M0 (Q0e a b c d e f g h i o p) k=Kt n a b c d e f g h i o p (fun ad ae af ag ah ai aj ak j l=>k .normal (Q3M a ad ae af ag ah ai aj ak j l)) (fun al=>k (.exit 4) (Ew a b al c d e f g h i o p)):=
 (Q6V n a b c d e f g h i o p k).trans (cg2 (fun m x1=>Lb n a b c d e f g h i o p m x1 ) (funext fun y=>funext fun z=>funext fun aa=>((XM (by kernel_rfl) n (Q9 6 (Xf (Qm n) n LN (Q9 5 (Xf (Qm n) n Kl k))))).trans (CO n a b (Q9 6 (Xf (Qm n) n LN (Q9 5 (Xf (Qm n) n Kl k)))) n y [] c d e f g h i z aa)).trans (cg1 (fun m=>RH n a b m n y [] c d e f g h i z aa) (funext fun ab=>funext fun ac=>funext fun q=>funext fun r=>funext fun s=>funext fun t=>funext fun u=>funext fun v=>funext fun w=>funext fun x=>funext fun j=>funext fun l=>(Q5j n a b ab ac q r s t u v w x j l k).trans (cg1 (fun m=>LF n a b ab ac q r s t u v w x j l m ) (((XM (by kernel_rfl) n (Q9 8 (Xf (Qm n) n Lp (Q9 5 (Xf (Qm n) n Kl k))))).trans (Bm n a b q j l (Q9 8 (Xf (Qm n) n Lp (Q9 5 (Xf (Qm n) n Kl k)))) n (0:Int) r s t u v w x)).trans (cg1 (fun m=>Rw n a b q j l m n (0:Int) r s t u v w x) (funext fun an=>funext fun ao=>funext fun ap=>funext fun aq=>funext fun ar=>funext fun au=>funext fun av=>funext fun aw=>funext fun ax=>(Q6I n a b an ao q ap aq ar au av aw ax j l k)))))))) rfl)
theorem CF (n:Nat) (l:Int) (k:Exit→St→Option R):∀ (m:Nat) (a:Int) (b c d e f g h i:LL) (j:Int),X7 (lB (Qm n) n M0) m (Q0e l a b c d e f g h i j) k=UF n l (fun a o b c d e f g h i j=>k (.exit 4) (Ew l a o b c d e f g h i j)) m a b c d e f g h i j
 | 0,_,_,_,_,_,_,_,_,_,_=>rfl
 | m+1,a,b,c,d,e,f,g,h,i,j=>(lS (by kernel_rfl) m k).trans ((Q5U n l a b c d e f g h i j (WB (lB (Qm n) n M0) m k)).trans (cg2 (fun p q=>Kt n l a b c d e f g h i j p q ) (funext fun r=>funext fun s=>funext fun t=>funext fun u=>funext fun v=>funext fun w=>funext fun x=>funext fun y=>funext fun z=>funext fun aa=>(XM (by kernel_rfl) m k).trans (CF n l k m r t u v w x s y z aa)) rfl))
theorem Q5K (n:Nat) (j l:Int) (m:Bool) (a b c d e f g h:LL) (i:Int) (k:Exit→St→Option R):(Q9 4 (Xf (Qm n) n EZ k)) (.exit 4) (Ew j l m a b c d e f g h i)=Tb n j l m a b c d e f g h i (k .ret (Q3Y a b c d e f g h i)):=by kernel_rfl
theorem Q6y (n:Nat) (c:LL) (d:Int) (k:Exit→St→Option R):Qi (Qm n) n Q0u (AZ c d) k=BV n c d (fun p q r s t u v w x=>k .ret (Q3Y p q r s t u v w x)):=
 (Q6J n c d k).trans (cg1 (fun a=>D4 n c d a ) (funext fun b=>funext fun y=>funext fun w7=>((XM (by kernel_rfl) n (Q9 0 (Xf (Qm n) n EW k))).trans (AI n b (Q9 0 (Xf (Qm n) n EW k)) n (0:Int) [] [] [] [] [] [] [] y w7)).trans (cg1 (fun a=>Ko n b a n (0:Int) [] [] [] [] [] [] [] y w7) (funext fun z=>funext fun aa=>funext fun e=>funext fun f=>funext fun g=>funext fun h=>funext fun i=>funext fun j=>funext fun l=>funext fun m=>funext fun o=>(Q73 n b z aa e f g h i j l m o k).trans (cg1 (fun a=>HW n b z aa e f g h i j l m o a ) (((XM (by kernel_rfl) n (Q9 4 (Xf (Qm n) n EZ k))).trans (CF n b (Q9 4 (Xf (Qm n) n EZ k)) n (0:Int) e f g h i j l m o)).trans (cg1 (fun a=>UF n b a n (0:Int) e f g h i j l m o) (funext fun ab=>funext fun ac=>funext fun p=>funext fun q=>funext fun r=>funext fun s=>funext fun t=>funext fun u=>funext fun v=>funext fun w=>funext fun x=>(Q5K n b ab ac p q r s t u v w x k)))))))))
def Ld:AV→List (Nat × Ob)→Option (LL × LL × LL × LL × LL × LL × LL × LL × Int):=fun av H=>(look H 1000000).bind fun o0=>(look H 14).bind fun o1=>(look H 501400).bind fun o2=>(look H 501401).bind fun o3=>(look H 501402).bind fun o4=>(look H 501403).bind fun o5=>(look H 501404).bind fun o6=>(look H 501405).bind fun o7=>(look H 501406).bind fun o8=>match av,o0,o1,o2,o3,o4,o5,o6,o7,o8 with
 | .ptr p0 p1,.box [.d (D.sl 1 a),.d (D.int .i64 b)],.box [.arr c,.arr d,.arr e,.arr f,.arr g,.arr h,.arr i],.arr j k l,.arr m n o,.arr p q r2,.arr r s r3,.arr t u v,.arr w x y,.arr z aa r6=>bif Nat.beq p0 14&&(Nat.beq p1 0&&(Nat.beq c 501400&&(Nat.beq d 501401&&(Nat.beq e 501402&&(Nat.beq f 501403&&(Nat.beq g 501404&&(Nat.beq h 501405&&(Nat.beq i 501406&&(Nat.beq j 9&&(Nat.beq k 1&&(Nat.beq m 9&&(Nat.beq n 1&&(Nat.beq p 70&&(Nat.beq q 5&&(Nat.beq r 113&&(Nat.beq s 6&&(Nat.beq t 22&&(Nat.beq u 1&&(Nat.beq w 22&&(Nat.beq x 1&&(Nat.beq z 22&&(Nat.beq aa 1)))))))))))))))))))))) then some (l,o,r2,r3,v,y,r6,a,b) else none
 | _,_,_,_,_,_,_,_,_,_=>none
theorem Qad (n:Nat) (a:LL) (c:Int):vfn (Qm n) n Tryz.f9 [.ptr 1000000 0] [(1000000,.box [.d (D.sl 1 a),.d (D.int .i64 c)])] Ld=Q1W n a c (fun d e r2 r3 f g h i j=>some (d,e,r2,r3,f,g,h,i,j)):=
 Eq.trans (b:=Qi (Qm n) n Q0u (AZ a c) (K3 gtt [.tmp 2] Ld)) VP ((Q6y n a c (K3 gtt [.tmp 2] Ld)).trans (by kernel_rfl))
def Q2R (n:Nat):XH:=fun _ site g avs hl k=>match avs with
 | [c0]=>
  prP hl c0 fun l0 b0=>(match b0 with
  | [a,b]=>prS g 1 a fun c=>prI g .i64 b fun d=>
  bif UY hl [(1000000,l0)] [(14,(site+50000)),(501400,(site+100000)),(501401,(site+150000)),(501402,(site+200000)),(501403,(site+250000)),(501404,(site+300000)),(501405,(site+350000)),(501406,(site+400000))] then gb g (Q1W n c d (fun e f r2 r3 h i j l m=>some (e,f,r2,r3,h,i,j,l,m))) ([],[],[],[],[],[],[],[],0) fun r=>k ⟨.ptr (site+50000) 0,[(l0,some (.box [.d (D.sl 1 r.2.2.2.2.2.2.2.1),.d (D.int .i64 r.2.2.2.2.2.2.2.2)])),((site+50000),some (.box [.arr (site+100000),.arr (site+150000),.arr (site+200000),.arr (site+250000),.arr (site+300000),.arr (site+350000),.arr (site+400000)])),((site+100000),some (.arr 9 1 r.1)),((site+150000),some (.arr 9 1 r.2.1)),((site+200000),some (.arr 70 5 r.2.2.1)),((site+250000),some (.arr 113 6 r.2.2.2.1)),((site+300000),some (.arr 22 1 r.2.2.2.2.1)),((site+350000),some (.arr 22 1 r.2.2.2.2.2.1)),((site+400000),some (.arr 22 1 r.2.2.2.2.2.2.1))],[l0]⟩ else none
  | _=>none)
 | _=>none
theorem QaZ (n:Nat):Qo Tryz.prog 9 (Q2R n):=by
  intro R site g avs hl k r h
  unfold Q2R at h
  split at h
  rotate_left
  · cases h
  obtain ⟨l0,b0,h,p,q⟩:=YT h
  split at h
  rotate_left
  · cases h
  obtain ⟨b,h,s⟩:=Q1 h
  obtain ⟨c,h,t⟩:=Q2 h
  obtain ⟨hc,h⟩:=Xa h
  obtain ⟨res,h,hr⟩:=Qc h
  have hL:=h
  subst p
  refine ⟨_,hL,fun hg=>QI.conv (avs':=[.ptr l0 0]) (.cons (.refl _) (.nil)) (Ad (K:=Ld) (res:=res) (Qav n) (fn:=Tryz.f9) (n:=n) (by kernel_rfl) (by kernel_rfl) (by kernel_rfl) (ρ:=[(1000000,l0)]) (ν:=[(14,(site+50000)),(501400,(site+100000)),(501401,(site+150000)),(501402,(site+200000)),(501403,(site+250000)),(501404,(site+300000)),(501405,(site+350000)),(501406,(site+400000))]) (avs':=[.ptr 1000000 0]) (H:=[(1000000,.box [.d (D.sl 1 b),.d (D.int .i64 c)])]) rfl rfl rfl rfl hc (⟨⟨by decide,_,_,q,rfl,.cons (s hg) (.cons (t hg) (.nil)),rfl⟩,trivial⟩) rfl rfl ?_ ?_)⟩
  · exact (Qad n b c).trans (hr hg)
  · intro av H' hx
    unfold Ld at hx
    simp only [Option.bind_eq_some_iff] at hx
    obtain ⟨o0,a,o1,d,o2,e,o3,f,o4,i,o5,j,o6,l,o7,m,o8,o,hx⟩:=hx
    split at hx
    rotate_left
    · cases hx
    replace hx:=Xa hx
    obtain ⟨hck,hx⟩:=hx
    simp only [Bool.and_eq_true,Nat.beq_eq] at hck
    obtain ⟨rfl,rfl,rfl,rfl,rfl,rfl,rfl,rfl,rfl,rfl,rfl,rfl,rfl,rfl,rfl,rfl,rfl,rfl,rfl,rfl,rfl,rfl,rfl⟩:=hck
    injection hx with hx
    subst hx
    refine ⟨rfl,?_,⟨by rw [a];rfl,⟨by rw [d];rfl,⟨by rw [e];rfl,⟨by rw [f];rfl,⟨by rw [i];rfl,⟨by rw [j];rfl,⟨by rw [l];rfl,⟨by rw [m];rfl,⟨by rw [o];rfl,trivial⟩⟩⟩⟩⟩⟩⟩⟩⟩,⟨⟨_,_,rfl,a,rfl⟩,trivial⟩⟩
    simp only [List.cons_append,List.nil_append,K2,a,d,e,f,i,j,l,m,o,Option.map_some]
    rfl

noncomputable def Ji:Code:=Q8 Tryz.f26
noncomputable def J4:Code:=cA [1,1,1,0,1] (Q8 Tryz.f26)
noncomputable def J3:Code:=cA [1,1,1,1] (Q8 Tryz.f26)
noncomputable def Ud:Code:=cA [1,1,1,0,1,3,1,0,1,2,2] (Q8 Tryz.f26)
noncomputable def Ui:Code:=cA [1,1,1,0,1,3,1,1] (Q8 Tryz.f26)
noncomputable def Uh:Code:=cA [1,1,1,1,1,0,1,2,2] (Q8 Tryz.f26)
noncomputable def Uj:Code:=cA [1,1,1,1,1,1] (Q8 Tryz.f26)
def Jj (a b c:Int) (d:Bool) (e f g h i j k:LL):St:=⟨143,[(0,.ptr 1000000 0),(1,dI a),(2,dI b),(3,dI c),(4,dB d)],[(1000000,.box [.arr 1000001,.arr 1000002,.arr 1000003,.arr 1000004,.arr 1000005,.arr 1000006,.arr 1000007]),(1000001,.arr 9 1 e),(1000002,.arr 9 1 f),(1000003,.arr 70 5 g),(1000004,.arr 113 6 h),(1000005,.arr 22 1 i),(1000006,.arr 22 1 j),(1000007,.arr 22 1 k)]⟩
def YS (a b c:Int) (d:LL) (e:Bool) (f g h i j k l:LL):St:=⟨143,[(1,dI a),(2,dI b),(3,dI c),(10,.ptr 10 0),(11,dL 1 d),(12,.arr 98004),(13,.ptr 13 0),(27,dB e)],[(10,.box [.nil,dI (0:Int)]),(13,.box [.nil,dI (0:Int)]),(98000,.arr 9 1 f),(98001,.arr 9 1 g),(98002,.arr 70 5 h),(98003,.arr 113 6 i),(98004,.arr 22 1 j),(98005,.arr 22 1 k),(98006,.arr 22 1 l),(1000000,.box [.arr 98000,.arr 98001,.arr 98002,.arr 98003,.arr 98004,.arr 98005,.arr 98006])]⟩
def Ta (a b:Int) (c:LL) (d e:Int) (f g h i j k l m:LL):St:=⟨143,[(1,dI a),(3,dI b),(10,.ptr 10 0),(11,dL 1 c),(12,.arr 98004),(13,.ptr 13 0),(48,dI d),(49,dI e)],[(10,.box [.nil,dI (0:Int)]),(13,.box [.arr 45,dI (0:Int)]),(45,.arr 101 2 f),(98000,.arr 9 1 g),(98001,.arr 9 1 h),(98002,.arr 70 5 i),(98003,.arr 113 6 j),(98004,.arr 22 1 k),(98005,.arr 22 1 l),(98006,.arr 22 1 m),(1000000,.box [.arr 98000,.arr 98001,.arr 98002,.arr 98003,.arr 98004,.arr 98005,.arr 98006])]⟩
def Jc (a b:Int) (c:LL) (d e:Int) (f:Bool) (g h i j k l m n:LL):St:=⟨143,[(1,dI a),(3,dI b),(10,.ptr 10 0),(11,dL 1 c),(12,.arr 98004),(13,.ptr 13 0),(48,dI d),(49,dI e),(50,dB f)],[(10,.box [.nil,dI (0:Int)]),(13,.box [.arr 45,dI (0:Int)]),(45,.arr 101 2 g),(98000,.arr 9 1 h),(98001,.arr 9 1 i),(98002,.arr 70 5 j),(98003,.arr 113 6 k),(98004,.arr 22 1 l),(98005,.arr 22 1 m),(98006,.arr 22 1 n),(1000000,.box [.arr 98000,.arr 98001,.arr 98002,.arr 98003,.arr 98004,.arr 98005,.arr 98006])]⟩
def Uc (a b c d e f g h:LL):St:=⟨143,[(10,.ptr 10 0)],[(10,.box [.arr 96001,dI (0:Int)]),(98000,.arr 9 1 a),(98001,.arr 9 1 b),(98002,.arr 70 5 c),(98003,.arr 113 6 d),(98004,.arr 22 1 e),(98005,.arr 22 1 f),(98006,.arr 22 1 g),(1000000,.box [.arr 98000,.arr 98001,.arr 98002,.arr 98003,.arr 98004,.arr 98005,.arr 98006]),(96001,.arr 101 2 h)]⟩
def Je (a b:Int) (c:LL) (d:Int) (e f g h i j k l:LL):St:=⟨143,[(1,dI a),(2,dI b),(10,.ptr 10 0),(11,dL 1 c),(12,.arr 98004),(13,.ptr 13 0),(15,dI d)],[(10,.box [.nil,dI (0:Int)]),(13,.box [.arr 104,dI (0:Int)]),(104,.arr 101 2 e),(98000,.arr 9 1 f),(98001,.arr 9 1 g),(98002,.arr 70 5 h),(98003,.arr 113 6 i),(98004,.arr 22 1 j),(98005,.arr 22 1 k),(98006,.arr 22 1 l),(1000000,.box [.arr 98000,.arr 98001,.arr 98002,.arr 98003,.arr 98004,.arr 98005,.arr 98006])]⟩
def J5 (a b:Int) (c:LL) (d:Int) (e:Bool) (f g h i j k l m:LL):St:=⟨143,[(1,dI a),(2,dI b),(10,.ptr 10 0),(11,dL 1 c),(12,.arr 98004),(13,.ptr 13 0),(15,dI d),(110,dB e)],[(10,.box [.nil,dI (0:Int)]),(13,.box [.arr 104,dI (0:Int)]),(104,.arr 101 2 f),(98000,.arr 9 1 g),(98001,.arr 9 1 h),(98002,.arr 70 5 i),(98003,.arr 113 6 j),(98004,.arr 22 1 k),(98005,.arr 22 1 l),(98006,.arr 22 1 m),(1000000,.box [.arr 98000,.arr 98001,.arr 98002,.arr 98003,.arr 98004,.arr 98005,.arr 98006])]⟩
def Qd (n:Nat):VC:=⟨QK [],gtt,[(0,⟨(rg1 0 5 [10]),(zp (10::rg1 1000000 8 []) (10::1000000::rg1 98000 7 [])),[],[],[]⟩),cO 1 (rg1 1 4 [10,11,12]) (10::rg1 98000 7 [1000000]),cO 2 (rg1 1 4 (rg1 10 4 [])) (10::13::rg1 98000 7 [1000000]),cO 3 [1,2,3,10,11,12,13,27] (10::13::rg1 98000 7 [1000000]),cO 4 [1,3,10,11,12,13] (10::13::45::rg1 98000 7 [1000000]),cO 5 (1::3::rg1 10 4 [48,49]) (10::13::45::rg1 98000 7 [1000000]),cO 6 (1::3::rg1 10 4 [48,49,50]) (10::13::45::rg1 98000 7 [1000000]),cO 7 (1::3::rg1 10 5 [48,49]) (10::13::45::rg1 98000 7 [1000000]),cO 8 (1::3::rg1 10 4 [48,49]) (10::13::60::rg1 98000 7 [1000000]),cO 9 (1::3::rg1 10 4 [48,49]) (10::13::60::rg1 98000 7 [1000000]),cO 10 [10,13] (10::13::82::rg1 98000 7 [1000000]),(11,⟨[10],(zp (10::rg1 98000 7 [1000000,82]) (10::rg1 98000 7 [1000000,96001])),[],[],[]⟩),cO 12 [1,2,10,11,12,13] (10::13::104::rg1 98000 7 [1000000]),cO 13 (1::2::rg1 10 4 [15]) (10::13::104::rg1 98000 7 [1000000]),cO 14 (1::2::rg1 10 4 [15,110]) (10::13::104::rg1 98000 7 [1000000]),cO 15 (1::2::rg1 10 4 [15]) (10::13::121::rg1 98000 7 [1000000]),cO 16 (1::2::rg1 10 4 [15]) (10::13::121::rg1 98000 7 [1000000]),cO 17 [10,13] (10::13::140::rg1 98000 7 [1000000]),(18,⟨[10],(zp (10::rg1 98000 7 [1000000,140]) (10::rg1 98000 7 [1000000,96001])),[],[],[]⟩),(3000000006,⟨(1::3::rg1 10 4 [48,49]),(zp (10::13::45::60::rg1 98000 7 [1000000]) (10::13::45::45::rg1 98000 7 [1000000])),[],[],[]⟩),(3000000014,⟨(1::2::rg1 10 4 [15]),(zp (10::13::104::121::rg1 98000 7 [1000000]) (10::13::104::104::rg1 98000 7 [1000000])),[],[],[]⟩)]⟩
theorem FE (n:Nat):VCOk Tryz.prog (Qd n):=gVC (Qe trivial)
theorem ME (n:Nat) (a1 a b:Int) (c:Bool) (q1 q2 q3 q4 d e q7:LL) (k:Exit→St→Option R):Qi (Qd n) n Ji (Jj a1 a b c q1 q2 q3 q4 d e q7) k=Ue n a1 a b c q1 q2 q3 q4 d e q7 (fun f=>Qi (Qd n) n J4 (YS a1 a b f c q1 q2 q3 q4 d e q7) (Xf (Qd n) n J3 k)):=by kernel_rfl
theorem M2 (n:Nat) (a1 e a:Int) (b:LL) (f:Bool) (q1 q2 q3 q4 c d q7:LL) (k:Exit→St→Option R):Qi (Qd n) n J4 (YS a1 e a b f q1 q2 q3 q4 c d q7) k=Ug n a1 e a b f q1 q2 q3 q4 c d q7 (fun g h=>X7 (lB (Qd n) n Ud) n ⟨143,[(1,dI a1),(3,dI a),(10,.ptr 10 0),(11,dL 1 b),(12,.arr 98004),(13,.ptr 13 0),(48,dI g),(49,dI (0:Int))],[(10,.box [.nil,dI (0:Int)]),(13,.box [.arr 45,dI (0:Int)]),(45,.arr 101 2 h),(98000,.arr 9 1 q1),(98001,.arr 9 1 q2),(98002,.arr 70 5 q3),(98003,.arr 113 6 q4),(98004,.arr 22 1 c),(98005,.arr 22 1 d),(98006,.arr 22 1 q7),(1000000,.box [.arr 98000,.arr 98001,.arr 98002,.arr 98003,.arr 98004,.arr 98005,.arr 98006])]⟩ (Q9 0 (Xf (Qd n) n Ui k))) (k .normal (YS a1 e a b f q1 q2 q3 q4 c d q7)):=by kernel_rfl
theorem M4 (n:Nat) (a1 a:Int) (b:LL) (c f:Int) (g q1 q2 q3 q4 d e q7:LL) (k:Exit→St→Option R):Qi (Qd n) n Ud (Ta a1 a b c f g q1 q2 q3 q4 d e q7) k=Jn n a1 a b c f g q1 q2 q3 q4 d e q7 (fun h i=>k .normal ⟨143,[(1,dI a1),(3,dI a),(10,.ptr 10 0),(11,dL 1 b),(12,.arr 98004),(13,.ptr 13 0),(48,dI c),(49,dI h)],[(10,.box [.nil,dI (0:Int)]),(13,.box [.arr 60,dI (0:Int)]),(60,.arr 101 2 i),(98000,.arr 9 1 q1),(98001,.arr 9 1 q2),(98002,.arr 70 5 q3),(98003,.arr 113 6 q4),(98004,.arr 22 1 d),(98005,.arr 22 1 e),(98006,.arr 22 1 q7),(1000000,.box [.arr 98000,.arr 98001,.arr 98002,.arr 98003,.arr 98004,.arr 98005,.arr 98006])]⟩) (fun j=>k (.exit 0) (Jc a1 a b c f j g q1 q2 q3 q4 d e q7)):=by kernel_rfl
theorem K9 (n:Nat) (a1 c:Int) (d:LL) (e:Int) (q1 q2 q3 q4 f g q7:LL) (k:Exit→St→Option R):∀ (m:Nat) (a:Int) (b:LL),X7 (lB (Qd n) n Ud) m (Ta a1 c d e a b q1 q2 q3 q4 f g q7) k=Zw n a1 c d e q1 q2 q3 q4 f g q7 (fun a h b=>k (.exit 0) (Jc a1 c d e a h b q1 q2 q3 q4 f g q7)) m a b
 | 0,_,_=>rfl
 | m+1,a,b=>(lS (by kernel_rfl) m k).trans ((M4 n a1 c d e a b q1 q2 q3 q4 f g q7 (WB (lB (Qd n) n Ud) m k)).trans (cg2 (fun i j=>Jn n a1 c d e a b q1 q2 q3 q4 f g q7 i j ) (funext fun l=>funext fun o=>(XM (by kernel_rfl) m k).trans (K9 n a1 c d e q1 q2 q3 q4 f g q7 k m l o)) rfl))
theorem MK (n:Nat) (a1 c:Int) (d:LL) (e f:Int) (g:Bool) (h q1 q2 q3 q4 a b q7:LL) (k:Exit→St→Option R):(Q9 0 (Xf (Qd n) n Ui k)) (.exit 0) (Jc a1 c d e f g h q1 q2 q3 q4 a b q7)=J9 n a1 c d e f g h q1 q2 q3 q4 a b q7 (fun i=>k .ret (Uc q1 q2 q3 q4 a b q7 i)):=by kernel_rfl
theorem Mo (n:Nat) (a1 e c:Int) (d:LL) (f:Bool) (q1 q2 q3 q4 a b q7:LL) (k:Exit→St→Option R):Qi (Qd n) n J4 (YS a1 e c d f q1 q2 q3 q4 a b q7) k=Uf n a1 e c d f q1 q2 q3 q4 a b q7 (fun j=>k .ret (Uc q1 q2 q3 q4 a b q7 j)) (k .normal (YS a1 e c d f q1 q2 q3 q4 a b q7)):=
 (M2 n a1 e c d f q1 q2 q3 q4 a b q7 k).trans (cg2 (fun g l=>Ug n a1 e c d f q1 q2 q3 q4 a b q7 g l ) (funext fun h=>funext fun i=>((XM (by kernel_rfl) n (Q9 0 (Xf (Qd n) n Ui k))).trans (K9 n a1 c d h q1 q2 q3 q4 a b q7 (Q9 0 (Xf (Qd n) n Ui k)) n (0:Int) i)).trans (cg1 (fun g=>Zw n a1 c d h q1 q2 q3 q4 a b q7 g n (0:Int) i) (funext fun m=>funext fun o=>funext fun p=>(MK n a1 c d h m o p q1 q2 q3 q4 a b q7 k)))) rfl)
theorem L5 (n:Nat) (a1 a e:Int) (b:LL) (f:Bool) (q1 q2 q3 q4 c d q7:LL) (k:Exit→St→Option R):(Xf (Qd n) n J3 k) .normal (YS a1 a e b f q1 q2 q3 q4 c d q7)=Ub n a1 a e b f q1 q2 q3 q4 c d q7 (fun g h=>X7 (lB (Qd n) n Uh) n (Je a1 a b g h q1 q2 q3 q4 c d q7) (Q9 2 (Xf (Qd n) n Uj k))):=by kernel_rfl
theorem MC (n:Nat) (a1 a:Int) (b:LL) (e:Int) (f q1 q2 q3 q4 c d q7:LL) (k:Exit→St→Option R):Qi (Qd n) n Uh (Je a1 a b e f q1 q2 q3 q4 c d q7) k=Jf n a1 a b e f q1 q2 q3 q4 c d q7 (fun g h=>k .normal ⟨143,[(1,dI a1),(2,dI a),(10,.ptr 10 0),(11,dL 1 b),(12,.arr 98004),(13,.ptr 13 0),(15,dI g)],[(10,.box [.nil,dI (0:Int)]),(13,.box [.arr 121,dI (0:Int)]),(121,.arr 101 2 h),(98000,.arr 9 1 q1),(98001,.arr 9 1 q2),(98002,.arr 70 5 q3),(98003,.arr 113 6 q4),(98004,.arr 22 1 c),(98005,.arr 22 1 d),(98006,.arr 22 1 q7),(1000000,.box [.arr 98000,.arr 98001,.arr 98002,.arr 98003,.arr 98004,.arr 98005,.arr 98006])]⟩) (fun i=>k (.exit 2) (J5 a1 a b e i f q1 q2 q3 q4 c d q7)):=by kernel_rfl
theorem K5 (n:Nat) (a1 c:Int) (d q1 q2 q3 q4 e f q7:LL) (k:Exit→St→Option R):∀ (m:Nat) (a:Int) (b:LL),X7 (lB (Qd n) n Uh) m (Je a1 c d a b q1 q2 q3 q4 e f q7) k=Zu n a1 c d q1 q2 q3 q4 e f q7 (fun a g b=>k (.exit 2) (J5 a1 c d a g b q1 q2 q3 q4 e f q7)) m a b
 | 0,_,_=>rfl
 | m+1,a,b=>(lS (by kernel_rfl) m k).trans ((MC n a1 c d a b q1 q2 q3 q4 e f q7 (WB (lB (Qd n) n Uh) m k)).trans (cg2 (fun h i=>Jf n a1 c d a b q1 q2 q3 q4 e f q7 h i ) (funext fun j=>funext fun l=>(XM (by kernel_rfl) m k).trans (K5 n a1 c d q1 q2 q3 q4 e f q7 k m j l)) rfl))
theorem NB (n:Nat) (a1 c:Int) (d:LL) (e:Int) (f:Bool) (g q1 q2 q3 q4 a b q7:LL) (k:Exit→St→Option R):(Q9 2 (Xf (Qd n) n Uj k)) (.exit 2) (J5 a1 c d e f g q1 q2 q3 q4 a b q7)=VR n a1 c d e f g q1 q2 q3 q4 a b q7 (fun h=>k .ret (Uc q1 q2 q3 q4 a b q7 h)):=by kernel_rfl
theorem NP (n:Nat) (a1 c d:Int) (e:Bool) (q1 q2 q3 q4 a b q7:LL) (k:Exit→St→Option R):Qi (Qd n) n Ji (Jj a1 c d e q1 q2 q3 q4 a b q7) k=VS n a1 c d e q1 q2 q3 q4 a b q7 (fun j=>k .ret (Uc q1 q2 q3 q4 a b q7 j)):=
 (ME n a1 c d e q1 q2 q3 q4 a b q7 k).trans (cg1 (fun f=>Ue n a1 c d e q1 q2 q3 q4 a b q7 f ) (funext fun g=>(Mo n a1 c d g e q1 q2 q3 q4 a b q7 (Xf (Qd n) n J3 k)).trans (cg2 (fun f l=>Uf n a1 c d g e q1 q2 q3 q4 a b q7 f l ) rfl ((L5 n a1 c d g e q1 q2 q3 q4 a b q7 k).trans (cg1 (fun f=>Ub n a1 c d g e q1 q2 q3 q4 a b q7 f ) (funext fun h=>funext fun i=>((XM (by kernel_rfl) n (Q9 2 (Xf (Qd n) n Uj k))).trans (K5 n a1 c g q1 q2 q3 q4 a b q7 (Q9 2 (Xf (Qd n) n Uj k)) n h i)).trans (cg1 (fun f=>Zu n a1 c g q1 q2 q3 q4 a b q7 f n h i) (funext fun m=>funext fun o=>funext fun p=>(NB n a1 c g m o p q1 q2 q3 q4 a b q7 k)))))))))
def Zx:AV→List (Nat × Ob)→Option (LL × Int × LL × LL × LL × LL × LL × LL × LL):=fun av H=>(look H 1000000).bind fun o0=>(look H 96001).bind fun o1=>(look H 98000).bind fun o2=>(look H 98001).bind fun o3=>(look H 98002).bind fun o4=>(look H 98003).bind fun o5=>(look H 98004).bind fun o6=>(look H 98005).bind fun o7=>(look H 98006).bind fun o8=>match av,o0,o1,o2,o3,o4,o5,o6,o7,o8 with
 | .ag [.arr p0,.d (D.int .i64 a)],.box [.arr p1,.arr b,.arr c,.arr d,.arr e,.arr f,.arr g],.arr h i j,.arr k l r2,.arr m n r3,.arr o p q,.arr r s t,.arr u v w,.arr x y z,.arr aa ab r8=>bif Nat.beq p0 96001&&(Nat.beq p1 98000&&(Nat.beq b 98001&&(Nat.beq c 98002&&(Nat.beq d 98003&&(Nat.beq e 98004&&(Nat.beq f 98005&&(Nat.beq g 98006&&(Nat.beq h 101&&(Nat.beq i 2&&(Nat.beq k 9&&(Nat.beq l 1&&(Nat.beq m 9&&(Nat.beq n 1&&(Nat.beq o 70&&(Nat.beq p 5&&(Nat.beq r 113&&(Nat.beq s 6&&(Nat.beq u 22&&(Nat.beq v 1&&(Nat.beq x 22&&(Nat.beq y 1&&(Nat.beq aa 22&&(Nat.beq ab 1&&((look H 1000001).isNone&&((look H 1000002).isNone&&((look H 1000003).isNone&&((look H 1000004).isNone&&((look H 1000005).isNone&&((look H 1000006).isNone&&((look H 1000007).isNone)))))))))))))))))))))))))))))) then some (j,a,r2,r3,q,t,w,z,r8) else none
 | _,_,_,_,_,_,_,_,_,_=>none
theorem F8 (n:Nat) (q1 q2 q3 q4 a c q7:LL) (a1 d e:Int) (f:Bool):vfn (Qd n) n Tryz.f26 [.ptr 1000000 0,.d (D.int .i64 a1),.d (D.int .i64 d),.d (D.int .i64 e),.d (D.bool f)] [(1000000,.box [.arr 1000001,.arr 1000002,.arr 1000003,.arr 1000004,.arr 1000005,.arr 1000006,.arr 1000007]),(1000001,.arr 9 1 q1),(1000002,.arr 9 1 q2),(1000003,.arr 70 5 q3),(1000004,.arr 113 6 q4),(1000005,.arr 22 1 a),(1000006,.arr 22 1 c),(1000007,.arr 22 1 q7)] Zx=YW n q1 q2 q3 q4 a c q7 a1 d e f (fun g h r2 r3 i j k l m=>some (g,h,r2,r3,i,j,k,l,m)):=
 Eq.trans (b:=Qi (Qd n) n Ji (Jj a1 d e f q1 q2 q3 q4 a c q7) (K3 gtt [.cell 10 95] Zx)) VP ((NP n a1 d e f q1 q2 q3 q4 a c q7 (K3 gtt [.cell 10 95] Zx)).trans (by kernel_rfl))
def JD (n:Nat):XH:=fun _ site g avs hl k=>match avs with
 | [c0,c1,f,h,i]=>prP hl c0 fun l0 j=>(match j with
  | [l,m,o,p,q,s,t]=>prR hl 9 1 l fun l1 q1=>prR hl 9 1 m fun l2 q2=>prR hl 70 5 o fun a q3=>prR hl 113 6 p fun b q4=>prR hl 22 1 q fun c u=>prR hl 22 1 s fun d v=>prR hl 22 1 t fun e q7=>prI g .i64 c1 fun a1=>prI g .i64 f fun w=>prI g .i64 h fun x=>prB g i fun y=>
  bif UY hl [(1000000,l0),(1000001,l1),(1000002,l2),(1000003,a),(1000004,b),(1000005,c),(1000006,d),(1000007,e)] [(96001,(site+50000)),(98000,(site+100000)),(98001,(site+150000)),(98002,(site+200000)),(98003,(site+250000)),(98004,(site+300000)),(98005,(site+350000)),(98006,(site+400000))] then gb g (YW n q1 q2 q3 q4 u v q7 a1 w x y (fun z r1 r2 r3 r4 r5 r6 r7 r8=>some (z,r1,r2,r3,r4,r5,r6,r7,r8))) ([],0,[],[],[],[],[],[],[]) fun r=>k ⟨.ag [.arr (site+50000),.d (D.int .i64 r.2.1)],[(l0,some (.box [.arr (site+100000),.arr (site+150000),.arr (site+200000),.arr (site+250000),.arr (site+300000),.arr (site+350000),.arr (site+400000)])),(l1,none),(l2,none),(a,none),(b,none),(c,none),(d,none),(e,none),((site+50000),some (.arr 101 2 r.1)),((site+100000),some (.arr 9 1 r.2.2.1)),((site+150000),some (.arr 9 1 r.2.2.2.1)),((site+200000),some (.arr 70 5 r.2.2.2.2.1)),((site+250000),some (.arr 113 6 r.2.2.2.2.2.1)),((site+300000),some (.arr 22 1 r.2.2.2.2.2.2.1)),((site+350000),some (.arr 22 1 r.2.2.2.2.2.2.2.1)),((site+400000),some (.arr 22 1 r.2.2.2.2.2.2.2.2))],[l0,l1,l2,a,b,c,d,e]⟩ else none
  | _=>none)
 | _=>none
theorem E4 (n:Nat):Qo Tryz.prog 26 (JD n):=by
  intro R site g avs hl k r h
  unfold JD at h
  split at h
  rotate_left
  · cases h
  obtain ⟨l0,bc,h,aa,ab⟩:=YT h
  split at h
  rotate_left
  · cases h
  obtain ⟨l1,q1,h,ac,ad⟩:=QH h
  obtain ⟨l2,q2,h,ae,af⟩:=QH h
  obtain ⟨l3,q3,h,ah,ai⟩:=QH h
  obtain ⟨l4,q4,h,ak,al⟩:=QH h
  obtain ⟨l5,a,h,an,ao⟩:=QH h
  obtain ⟨l6,b,h,aq,ar⟩:=QH h
  obtain ⟨l7,q7,h,aw,ax⟩:=QH h
  obtain ⟨a1,h,ay⟩:=Q2 h
  obtain ⟨c,h,az⟩:=Q2 h
  obtain ⟨d,h,ba⟩:=Q2 h
  obtain ⟨e,h,bb⟩:=LO h
  obtain ⟨hc,h⟩:=Xa h
  obtain ⟨res,h,hr⟩:=Qc h
  have hL:=h
  subst aa ac ae ah ak an aq aw
  refine ⟨_,hL,fun hg=>Zl (K:=Zx) (res:=res) (FE n) (fn:=Tryz.f26) (n:=n) (by kernel_rfl) (by kernel_rfl) (by kernel_rfl) (ρ:=[(1000000,l0),(1000001,l1),(1000002,l2),(1000003,l3),(1000004,l4),(1000005,l5),(1000006,l6),(1000007,l7)]) (ν:=[(96001,(site+50000)),(98000,(site+100000)),(98001,(site+150000)),(98002,(site+200000)),(98003,(site+250000)),(98004,(site+300000)),(98005,(site+350000)),(98006,(site+400000))]) (avs':=[.ptr 1000000 0,.d (D.int .i64 a1),.d (D.int .i64 c),.d (D.int .i64 d),.d (D.bool e)]) (H:=[(1000000,.box [.arr 1000001,.arr 1000002,.arr 1000003,.arr 1000004,.arr 1000005,.arr 1000006,.arr 1000007]),(1000001,.arr 9 1 q1),(1000002,.arr 9 1 q2),(1000003,.arr 70 5 q3),(1000004,.arr 113 6 q4),(1000005,.arr 22 1 a),(1000006,.arr 22 1 b),(1000007,.arr 22 1 q7)]) (.cons (.own rfl rfl) (.cons (.data rfl (ay hg)) (.cons (.data rfl (az hg)) (.cons (.data rfl (ba hg)) (.cons (.data rfl (bb hg)) (.nil)))))) rfl rfl hc (⟨⟨by decide,_,_,ab,rfl,.box (.cons (.own rfl rfl) (.cons (.own rfl rfl) (.cons (.own rfl rfl) (.cons (.own rfl rfl) (.cons (.own rfl rfl) (.cons (.own rfl rfl) (.cons (.own rfl rfl) (.nil))))))))⟩,⟨⟨by decide,_,_,ad,rfl,.arr _ _ _⟩,⟨⟨by decide,_,_,af,rfl,.arr _ _ _⟩,⟨⟨by decide,_,_,ai,rfl,.arr _ _ _⟩,⟨⟨by decide,_,_,al,rfl,.arr _ _ _⟩,⟨⟨by decide,_,_,ao,rfl,.arr _ _ _⟩,⟨⟨by decide,_,_,ar,rfl,.arr _ _ _⟩,⟨⟨by decide,_,_,ax,rfl,.arr _ _ _⟩,trivial⟩⟩⟩⟩⟩⟩⟩⟩) rfl rfl ?_ ?_⟩
  · exact (F8 n q1 q2 q3 q4 a b q7 a1 c d e).trans (hr hg)
  · intro av H' hx
    unfold Zx at hx
    simp only [Option.bind_eq_some_iff] at hx
    obtain ⟨o0,f,o1,i,o2,j,o3,l,o4,m,o5,o,o6,p,o7,q,o8,s,hx⟩:=hx
    split at hx
    rotate_left
    · cases hx
    replace hx:=Xa hx
    obtain ⟨hck,hx⟩:=hx
    simp only [Bool.and_eq_true,Nat.beq_eq,Option.isNone_iff_eq_none] at hck
    obtain ⟨rfl,rfl,rfl,rfl,rfl,rfl,rfl,rfl,rfl,rfl,rfl,rfl,rfl,rfl,rfl,rfl,rfl,rfl,rfl,rfl,rfl,rfl,rfl,rfl,t,u,v,w,x,y,z⟩:=hck
    injection hx with hx
    subst hx
    refine ⟨rfl,?_,⟨by rw [i];rfl,⟨by rw [j];rfl,⟨by rw [l];rfl,⟨by rw [m];rfl,⟨by rw [o];rfl,⟨by rw [p];rfl,⟨by rw [q];rfl,⟨by rw [s];rfl,trivial⟩⟩⟩⟩⟩⟩⟩⟩,⟨YI rfl f rfl,⟨Qn rfl t,⟨Qn rfl u,⟨Qn rfl v,⟨Qn rfl w,⟨Qn rfl x,⟨Qn rfl y,⟨Qn rfl z,trivial⟩⟩⟩⟩⟩⟩⟩⟩⟩
    simp only [List.cons_append,List.nil_append,K2,f,i,j,l,m,o,p,q,s,t,u,v,w,x,y,z,Option.map_some,Option.map_none]
    rfl

noncomputable def JT:Code:=Q8 Tryz.f11
noncomputable def Ux:Code:=cA [1,1,0,1,2,2] (Q8 Tryz.f11)
noncomputable def JQ:Code:=cA [1,1,1] (Q8 Tryz.f11)
noncomputable def UB:Code:=cA [1,1,1,0,1,2,2] (Q8 Tryz.f11)
noncomputable def UD:Code:=cA [1,1,1,1] (Q8 Tryz.f11)
def JU (a:Bool) (b:Int) (c d e f g h i j:LL) (k l:Int) (m n o p q r s:LL):St:=⟨104,[(0,.ptr 1000000 0),(1,.ptr 1000008 0),(2,.ptr 1000009 0),(3,dB a),(4,dI b)],[(1000000,.box [.arr 1000001,.arr 1000002,.arr 1000003,.arr 1000004,.arr 1000005,.arr 1000006,.arr 1000007]),(1000001,.arr 9 1 c),(1000002,.arr 9 1 d),(1000003,.arr 70 5 e),(1000004,.arr 113 6 f),(1000005,.arr 22 1 g),(1000006,.arr 22 1 h),(1000007,.arr 22 1 i),(1000008,.box [dL 1 j,dI k]),(1000009,.box [dI l,.arr 1000010,.arr 1000011,.arr 1000012,.arr 1000013,.arr 1000014,.arr 1000015,.arr 1000016]),(1000010,.arr 57 5 m),(1000011,.arr 95 2 n),(1000012,.arr 68 4 o),(1000013,.arr 65 7 p),(1000014,.arr 46 4 q),(1000015,.arr 73 5 r),(1000016,.arr 75 3 s)]⟩
def JB (a:Bool) (b c:Int) (d:List UInt8) (e:Int) (f g h i j k l m n o p q r s t u:LL) (v w:Int):St:=⟨104,[(0,.ptr 1000000 0),(1,.ptr 1000008 0),(2,.ptr 1000009 0),(3,dB a),(4,dI b),(10,.ptr 10 0),(11,.ap 11 0 0),(25,dI c)],[(10,.box [dT d,dI (0:Int),dI e,.nil]),(11,.arr 92 1 f),(98000,.arr 9 1 g),(98001,.arr 9 1 h),(98002,.arr 70 5 i),(98003,.arr 113 6 j),(98004,.arr 22 1 k),(98005,.arr 22 1 l),(98006,.arr 22 1 m),(98361,.arr 57 5 n),(98362,.arr 95 2 o),(98363,.arr 68 4 p),(98364,.arr 65 7 q),(98365,.arr 46 4 r),(98366,.arr 73 5 s),(98367,.arr 75 3 t),(1000000,.box [.arr 98000,.arr 98001,.arr 98002,.arr 98003,.arr 98004,.arr 98005,.arr 98006]),(1000008,.box [dL 1 u,dI v]),(1000009,.box [dI w,.arr 98361,.arr 98362,.arr 98363,.arr 98364,.arr 98365,.arr 98366,.arr 98367])]⟩
def JE (a:Bool) (b c:Int) (d:Bool) (e:List UInt8) (f:Int) (g h i j k l m n o p q r s t u v:LL) (w x:Int):St:=⟨104,[(0,.ptr 1000000 0),(1,.ptr 1000008 0),(2,.ptr 1000009 0),(3,dB a),(4,dI b),(10,.ptr 10 0),(11,.ap 11 0 0),(25,dI c),(26,dB d)],[(10,.box [dT e,dI (0:Int),dI f,.nil]),(11,.arr 92 1 g),(98000,.arr 9 1 h),(98001,.arr 9 1 i),(98002,.arr 70 5 j),(98003,.arr 113 6 k),(98004,.arr 22 1 l),(98005,.arr 22 1 m),(98006,.arr 22 1 n),(98361,.arr 57 5 o),(98362,.arr 95 2 p),(98363,.arr 68 4 q),(98364,.arr 65 7 r),(98365,.arr 46 4 s),(98366,.arr 73 5 t),(98367,.arr 75 3 u),(1000000,.box [.arr 98000,.arr 98001,.arr 98002,.arr 98003,.arr 98004,.arr 98005,.arr 98006]),(1000008,.box [dL 1 v,dI w]),(1000009,.box [dI x,.arr 98361,.arr 98362,.arr 98363,.arr 98364,.arr 98365,.arr 98366,.arr 98367])]⟩
def P9 (a:Bool) (b c:Int) (d:List UInt8) (e:Int) (f g h i j k l m n o p q r s t u v:LL) (w x:Int):St:=⟨104,[(0,.ptr 1000000 0),(1,.ptr 1000008 0),(2,.ptr 1000009 0),(3,dB a),(4,dI b),(10,.ptr 10 0),(11,.ap 11 0 0),(13,dI c)],[(10,.box [dT d,dI (0:Int),dI e,.arr 1103]),(11,.arr 92 1 f),(1103,.arr 98 4 g),(98000,.arr 9 1 h),(98001,.arr 9 1 i),(98002,.arr 70 5 j),(98003,.arr 113 6 k),(98004,.arr 22 1 l),(98005,.arr 22 1 m),(98006,.arr 22 1 n),(98361,.arr 57 5 o),(98362,.arr 95 2 p),(98363,.arr 68 4 q),(98364,.arr 65 7 r),(98365,.arr 46 4 s),(98366,.arr 73 5 t),(98367,.arr 75 3 u),(1000000,.box [.arr 98000,.arr 98001,.arr 98002,.arr 98003,.arr 98004,.arr 98005,.arr 98006]),(1000008,.box [dL 1 v,dI w]),(1000009,.box [dI x,.arr 98361,.arr 98362,.arr 98363,.arr 98364,.arr 98365,.arr 98366,.arr 98367])]⟩
def JV (a:Bool) (b c:Int) (d:Bool) (e:List UInt8) (f:Int) (g h i j k l m n o p q r s t u v w:LL) (x y:Int):St:=⟨104,[(0,.ptr 1000000 0),(1,.ptr 1000008 0),(2,.ptr 1000009 0),(3,dB a),(4,dI b),(10,.ptr 10 0),(11,.ap 11 0 0),(13,dI c),(35,dB d)],[(10,.box [dT e,dI (0:Int),dI f,.arr 1103]),(11,.arr 92 1 g),(1103,.arr 98 4 h),(98000,.arr 9 1 i),(98001,.arr 9 1 j),(98002,.arr 70 5 k),(98003,.arr 113 6 l),(98004,.arr 22 1 m),(98005,.arr 22 1 n),(98006,.arr 22 1 o),(98361,.arr 57 5 p),(98362,.arr 95 2 q),(98363,.arr 68 4 r),(98364,.arr 65 7 s),(98365,.arr 46 4 t),(98366,.arr 73 5 u),(98367,.arr 75 3 v),(1000000,.box [.arr 98000,.arr 98001,.arr 98002,.arr 98003,.arr 98004,.arr 98005,.arr 98006]),(1000008,.box [dL 1 w,dI x]),(1000009,.box [dI y,.arr 98361,.arr 98362,.arr 98363,.arr 98364,.arr 98365,.arr 98366,.arr 98367])]⟩
def Pn (a b c d e f g h i j k l m n o:LL) (p q:Int):St:=⟨104,[],[(98363,.arr 68 4 a),(98000,.arr 9 1 b),(98001,.arr 9 1 c),(98002,.arr 70 5 d),(98003,.arr 113 6 e),(98004,.arr 22 1 f),(98005,.arr 22 1 g),(98006,.arr 22 1 h),(98361,.arr 57 5 i),(98362,.arr 95 2 j),(98364,.arr 65 7 k),(98365,.arr 46 4 l),(98366,.arr 73 5 m),(98367,.arr 75 3 n),(1000000,.box [.arr 98000,.arr 98001,.arr 98002,.arr 98003,.arr 98004,.arr 98005,.arr 98006]),(1000008,.box [dL 1 o,dI p]),(1000009,.box [dI q,.arr 98361,.arr 98362,.arr 98363,.arr 98364,.arr 98365,.arr 98366,.arr 98367])]⟩
def Qp (n:Nat):VC:=⟨QK [(20,RV n),(10,ZT n),(26,JD n)],gtt,[(0,⟨(rg1 0 5 [10]),(zp (10::rg1 1000000 17 []) (10::1000000::rg1 98000 7 (1000008::1000009::rg1 98361 7 []))),[],[],[]⟩),cO 1 (rg1 0 5 [10,11]) (10::11::rg1 98000 7 (rg1 98361 7 [1000000,1000008,1000009])),cO 2 (rg1 0 5 [10,11,25]) (10::11::rg1 98000 7 (rg1 98361 7 [1000000,1000008,1000009])),cO 3 (rg1 0 5 [10,11,25,26]) (10::11::rg1 98000 7 (rg1 98361 7 [1000000,1000008,1000009])),cO 4 (rg1 0 5 [10,11,12,25]) (10::11::rg1 98000 7 (rg1 98361 7 [1000000,1000008,1000009])),cO 5 (rg1 0 5 [10,11,25]) (10::11::rg1 98000 7 (rg1 98361 7 [1000000,1000008,1000009])),cO 6 (rg1 0 5 [10,11,25]) (10::11::rg1 98000 7 (rg1 98361 7 [1000000,1000008,1000009])),(7,⟨(rg1 0 5 [10,11,13]),(zp (10::11::rg1 98000 7 (rg1 98361 7 [1000000,1000008,1000009])) (10::11::rg1 98000 7 (rg1 98361 7 [1000000,1000008,1000009]))),[],[(10,3,1103,98,4)],[]⟩),cO 8 (rg1 0 5 [10,11,13,35]) (10::11::1103::rg1 98000 7 (rg1 98361 7 [1000000,1000008,1000009])),cO 9 (rg1 0 5 [10,11,13]) (10::11::92::rg1 98000 7 (rg1 98361 7 [1000000,1000008,1000009])),cO 10 (rg1 0 5 [10,11,13,14]) (10::11::1103::rg1 98000 7 (rg1 98361 7 [1000000,1000008,1000009])),cO 11 (rg1 0 5 [10,11,13,14,40]) (10::11::1103::rg1 98000 7 (rg1 98361 7 [1000000,1000008,1000009])),cO 12 (rg1 0 5 [10,11,13,14]) (10::11::1103::rg1 98000 7 (rg1 98361 7 [1000000,1000008,1000009])),(13,⟨(rg1 0 5 [10,11,13]),(zp (10::11::62::1103::98361::rg1 98363 5 (rg5 100060 7 [1000000,1000008,1000009])) (10::11::98362::1103::98361::rg1 98363 5 (rg1 98000 7 [1000000,1000008,1000009]))),[],[],[]⟩),cO 14 (rg1 0 5 [10,11,13,15]) (10::11::15::1103::rg1 98000 7 (rg1 98361 7 [1000000,1000008,1000009])),cO 15 (rg1 0 5 [10,11,13,15,77]) (10::11::15::1103::rg1 98000 7 (rg1 98361 7 [1000000,1000008,1000009])),cO 16 (rg1 0 5 [10,11,13,15]) (10::11::15::1103::rg1 98000 7 (rg1 98361 7 [1000000,1000008,1000009])),cO 17 (rg1 0 5 [10,11,13,15]) (10::11::15::1103::rg1 98000 7 (rg1 98361 7 [1000000,1000008,1000009])),cO 18 (rg1 0 5 [10,11,13]) (10::11::92::rg1 98000 7 (rg1 98361 7 [1000000,1000008,1000009])),(19,⟨[],(zp (101::rg1 98000 7 (98361::98362::rg1 98364 4 [1000000,1000008,1000009])) (98363::rg1 98000 7 (98361::98362::rg1 98364 4 [1000000,1000008,1000009]))),[],[],[]⟩),(3000000008,⟨(rg1 0 5 [10,11,13]),(zp (10::11::92::1103::rg1 98000 7 (rg1 98361 7 [1000000,1000008,1000009])) (10::11::1103::1103::rg1 98000 7 (rg1 98361 7 [1000000,1000008,1000009]))),[],[],[]⟩)]⟩
theorem Dn (n:Nat):VCOk Tryz.prog (Qp n):=gVC (Qe ⟨D5 n,⟨V0 n,⟨E4 n,trivial⟩⟩⟩)
theorem Lh (n:Nat) (a:Bool) (b:Int) (q1 q2 q3 q4 c d q7 o:LL) (p e:Int) (f g h i j l m:LL) (k:Exit→St→Option R):Qi (Qp n) n JT (JU a b q1 q2 q3 q4 c d q7 o p e f g h i j l m) k=UC n a b q1 q2 q3 q4 c d q7 o p e f g h i j l m (fun q r s t u=>X7 (lB (Qp n) n Ux) n ⟨104,[(0,.ptr 1000000 0),(1,.ptr 1000008 0),(2,.ptr 1000009 0),(3,dB a),(4,dI b),(10,.ptr 10 0),(11,.ap 11 0 0),(25,dI (0:Int))],[(10,.box [dT q,dI (0:Int),dI r,.nil]),(11,.arr 92 1 s),(98000,.arr 9 1 q1),(98001,.arr 9 1 q2),(98002,.arr 70 5 q3),(98003,.arr 113 6 q4),(98004,.arr 22 1 c),(98005,.arr 22 1 d),(98006,.arr 22 1 q7),(98361,.arr 57 5 f),(98362,.arr 95 2 g),(98363,.arr 68 4 h),(98364,.arr 65 7 i),(98365,.arr 46 4 j),(98366,.arr 73 5 l),(98367,.arr 75 3 m),(1000000,.box [.arr 98000,.arr 98001,.arr 98002,.arr 98003,.arr 98004,.arr 98005,.arr 98006]),(1000008,.box [dL 1 t,dI u]),(1000009,.box [dI e,.arr 98361,.arr 98362,.arr 98363,.arr 98364,.arr 98365,.arr 98366,.arr 98367])]⟩ (Q9 0 (Xf (Qp n) n JQ k))):=by kernel_rfl
theorem Ll (n:Nat) (a:Bool) (b p:Int) (w7:List UInt8) (c:Int) (q q1 q2 q3 q4 d e q7 f g h i j l m r:LL) (s o:Int) (k:Exit→St→Option R):Qi (Qp n) n Ux (JB a b p w7 c q q1 q2 q3 q4 d e q7 f g h i j l m r s o) k=JS n a b p w7 c q q1 q2 q3 q4 d e q7 f g h i j l m r s o (fun t u v w=>k .normal (JB a b t w7 c u q1 q2 q3 q4 d e q7 f g h i j l m v w o)) (fun x=>k (.exit 0) (JE a b p x w7 c q q1 q2 q3 q4 d e q7 f g h i j l m r s o)):=by kernel_rfl
theorem KP (n:Nat) (e:Bool) (f:Int) (w7:List UInt8) (g:Int) (q1 q2 q3 q4 h i q7 j l o p q r s:LL) (t:Int) (k:Exit→St→Option R):∀ (m:Nat) (a:Int) (b c:LL) (d:Int),X7 (lB (Qp n) n Ux) m (JB e f a w7 g b q1 q2 q3 q4 h i q7 j l o p q r s c d t) k=ZJ n e f w7 g q1 q2 q3 q4 h i q7 j l o p q r s t (fun a u b c d=>k (.exit 0) (JE e f a u w7 g b q1 q2 q3 q4 h i q7 j l o p q r s c d t)) m a b c d
 | 0,_,_,_,_=>rfl
 | m+1,a,b,c,d=>(lS (by kernel_rfl) m k).trans ((Ll n e f a w7 g b q1 q2 q3 q4 h i q7 j l o p q r s c d t (WB (lB (Qp n) n Ux) m k)).trans (cg2 (fun v w=>JS n e f a w7 g b q1 q2 q3 q4 h i q7 j l o p q r s c d t v w ) (funext fun x=>funext fun y=>funext fun z=>funext fun aa=>KP n e f w7 g q1 q2 q3 q4 h i q7 j l o p q r s t k m x y z aa) rfl))
theorem Lm (n:Nat) (a:Bool) (b s:Int) (t:Bool) (w7:List UInt8) (c:Int) (d q1 q2 q3 q4 e f q7 g h i j l m o p:LL) (q r:Int) (k:Exit→St→Option R):(Q9 0 (Xf (Qp n) n JQ k)) (.exit 0) (JE a b s t w7 c d q1 q2 q3 q4 e f q7 g h i j l m o p q r)=Uu n a b s t w7 c d q1 q2 q3 q4 e f q7 g h i j l m o p q r (X7 (lB (Qp n) n UB) n ⟨104,[(0,.ptr 1000000 0),(1,.ptr 1000008 0),(2,.ptr 1000009 0),(3,dB a),(4,dI b),(10,.ptr 10 0),(11,.ap 11 0 0),(13,dI (0:Int))],[(1103,.arr 98 4 []),(10,.box [dT w7,dI (0:Int),dI c,.arr 1103]),(11,.arr 92 1 d),(98000,.arr 9 1 q1),(98001,.arr 9 1 q2),(98002,.arr 70 5 q3),(98003,.arr 113 6 q4),(98004,.arr 22 1 e),(98005,.arr 22 1 f),(98006,.arr 22 1 q7),(98361,.arr 57 5 g),(98362,.arr 95 2 h),(98363,.arr 68 4 i),(98364,.arr 65 7 j),(98365,.arr 46 4 l),(98366,.arr 73 5 m),(98367,.arr 75 3 o),(1000000,.box [.arr 98000,.arr 98001,.arr 98002,.arr 98003,.arr 98004,.arr 98005,.arr 98006]),(1000008,.box [dL 1 p,dI q]),(1000009,.box [dI r,.arr 98361,.arr 98362,.arr 98363,.arr 98364,.arr 98365,.arr 98366,.arr 98367])]⟩ (Q9 2 (Xf (Qp n) n UD k))):=by kernel_rfl
theorem Lg (n:Nat) (a:Bool) (b m:Int) (w7:List UInt8) (c:Int) (d o p q r s t u v e w f g h i j x:LL) (y l:Int) (k:Exit→St→Option R):Qi (Qp n) n UB (P9 a b m w7 c d o p q r s t u v e w f g h i j x y l) k=Z0 n a b m w7 c d o p q r s t u v e w f g h i j x y l (fun z aa ab ac ad ae af ag ah ai aj ak=>k .normal ⟨104,[(0,.ptr 1000000 0),(1,.ptr 1000008 0),(2,.ptr 1000009 0),(3,dB a),(4,dI b),(10,.ptr 10 0),(11,.ap 11 0 0),(13,dI z)],[(10,.box [dT w7,dI (0:Int),dI c,.arr 92]),(11,.arr 92 1 d),(92,.arr 98 4 aa),(98000,.arr 9 1 ab),(98001,.arr 9 1 ac),(98002,.arr 70 5 ad),(98003,.arr 113 6 ae),(98004,.arr 22 1 af),(98005,.arr 22 1 ag),(98006,.arr 22 1 ah),(98361,.arr 57 5 e),(98362,.arr 95 2 ai),(98363,.arr 68 4 f),(98364,.arr 65 7 g),(98365,.arr 46 4 h),(98366,.arr 73 5 i),(98367,.arr 75 3 j),(1000000,.box [.arr 98000,.arr 98001,.arr 98002,.arr 98003,.arr 98004,.arr 98005,.arr 98006]),(1000008,.box [dL 1 aj,dI ak]),(1000009,.box [dI l,.arr 98361,.arr 98362,.arr 98363,.arr 98364,.arr 98365,.arr 98366,.arr 98367])]⟩) (fun al=>k (.exit 2) (JV a b m al w7 c d o p q r s t u v e w f g h i j x y l)):=by kernel_rfl
theorem KN (n:Nat) (p:Bool) (q:Int) (w7:List UInt8) (r:Int) (s t u v w x y:LL) (z:Int) (k:Exit→St→Option R):∀ (m:Nat) (a:Int) (b c d e f g h i j l:LL) (o:Int),X7 (lB (Qp n) n UB) m (P9 p q a w7 r s b c d e f g h i t j u v w x y l o z) k=Z1 n p q w7 r s t u v w x y z (fun a aa b c d e f g h i j l o=>k (.exit 2) (JV p q a aa w7 r s b c d e f g h i t j u v w x y l o z)) m a b c d e f g h i j l o
 | 0,_,_,_,_,_,_,_,_,_,_,_,_=>rfl
 | m+1,a,b,c,d,e,f,g,h,i,j,l,o=>(lS (by kernel_rfl) m k).trans ((Lg n p q a w7 r s b c d e f g h i t j u v w x y l o z (WB (lB (Qp n) n UB) m k)).trans (cg2 (fun x0 x1=>Z0 n p q a w7 r s b c d e f g h i t j u v w x y l o z x0 x1 ) (funext fun ad=>funext fun ae=>funext fun af=>funext fun ag=>funext fun ah=>funext fun ai=>funext fun aj=>funext fun ak=>funext fun al=>funext fun am=>funext fun an=>funext fun ao=>(XM (by kernel_rfl) m k).trans (KN n p q w7 r s t u v w x y z k m ad ae af ag ah ai aj ak al am an ao)) rfl))
theorem Ln (n:Nat) (s:Bool) (t u:Int) (v:Bool) (w7:List UInt8) (w:Int) (x y a b c d e f g h i z j l m o p:LL) (q r:Int) (k:Exit→St→Option R):(Q9 2 (Xf (Qp n) n UD k)) (.exit 2) (JV s t u v w7 w x y a b c d e f g h i z j l m o p q r)=Uz n s t u v w7 w x y a b c d e f g h i z j l m o p q r (fun aa=>k .normal (Pn aa a b c d e f g h i j l m o p q r)):=by kernel_rfl
theorem Lj (n:Nat) (g:Bool) (h:Int) (q1 q2 q3 q4 j l q7 r:LL) (s a:Int) (b m i c d e f:LL) (k:Exit→St→Option R):Qi (Qp n) n JT (JU g h q1 q2 q3 q4 j l q7 r s a b m i c d e f) k=JA n g h q1 q2 q3 q4 j l q7 r s a b m i c d e f (fun ak v w x y z aa ab ac ad ae=>k .normal (Pn ak v w x y z aa ab b ac c d e f ad ae a)):=
 (Lh n g h q1 q2 q3 q4 j l q7 r s a b m i c d e f k).trans (cg1 (fun o=>UC n g h q1 q2 q3 q4 j l q7 r s a b m i c d e f o ) (funext fun w7=>funext fun p=>funext fun w9=>funext fun ag=>funext fun ah=>(KP n g h w7 p q1 q2 q3 q4 j l q7 b m i c d e f a (Q9 0 (Xf (Qp n) n JQ k)) n (0:Int) w9 ag ah).trans (cg1 (fun o=>ZJ n g h w7 p q1 q2 q3 q4 j l q7 b m i c d e f a o n (0:Int) w9 ag ah) (funext fun ai=>funext fun aj=>funext fun q=>funext fun t=>funext fun u=>(Lm n g h ai aj w7 p q q1 q2 q3 q4 j l q7 b m i c d e f t u a k).trans (cg1 (fun o=>Uu n g h ai aj w7 p q q1 q2 q3 q4 j l q7 b m i c d e f t u a o ) (((XM (by kernel_rfl) n (Q9 2 (Xf (Qp n) n UD k))).trans (KN n g h w7 p q b i c d e f a (Q9 2 (Xf (Qp n) n UD k)) n (0:Int) [] q1 q2 q3 q4 j l q7 m t u)).trans (cg1 (fun o=>Z1 n g h w7 p q b i c d e f a o n (0:Int) [] q1 q2 q3 q4 j l q7 m t u) (funext fun al=>funext fun am=>funext fun an=>funext fun v=>funext fun w=>funext fun x=>funext fun y=>funext fun z=>funext fun aa=>funext fun ab=>funext fun ac=>funext fun ad=>funext fun ae=>(Ln n g h al am w7 p q an v w x y z aa ab b ac i c d e f ad ae a k)))))))))
def ZF:AV→List (Nat × Ob)→Option (LL × LL × LL × LL × LL × LL × LL × LL × Int × Int × LL × LL × LL × LL × LL × LL × LL):=fun av H=>(look H 1000000).bind fun o0=>(look H 1000008).bind fun o1=>(look H 1000009).bind fun o2=>(look H 98000).bind fun o3=>(look H 98001).bind fun o4=>(look H 98002).bind fun o5=>(look H 98003).bind fun o6=>(look H 98004).bind fun o7=>(look H 98005).bind fun o8=>(look H 98006).bind fun o9=>(look H 98361).bind fun o10=>(look H 98362).bind fun a=>(look H 98363).bind fun b=>(look H 98364).bind fun c=>(look H 98365).bind fun d=>(look H 98366).bind fun e=>(look H 98367).bind fun f=>match av,o0,o1,o2,o3,o4,o5,o6,o7,o8,o9,o10,a,b,c,d,e,f with
 | .tup [],.box [.arr p0,.arr p1,.arr g,.arr h,.arr i,.arr j,.arr k],.box [.d (D.sl 1 l),.d (D.int .i64 m)],.box [.d (D.int .i64 n),.arr o,.arr p,.arr q,.arr r,.arr s,.arr t,.arr u],.arr v w x,.arr y z r1,.arr ab ac r2,.arr ad ae r3,.arr af ag r4,.arr ai aj r5,.arr al am r6,.arr ao ap aq,.arr ar au aw,.arr ax ay az,.arr ba bb bc,.arr bd be bf,.arr bg bh bi,.arr bj bk bl=>bif Nat.beq p0 98000&&(Nat.beq p1 98001&&(Nat.beq g 98002&&(Nat.beq h 98003&&(Nat.beq i 98004&&(Nat.beq j 98005&&(Nat.beq k 98006&&(Nat.beq o 98361&&(Nat.beq p 98362&&(Nat.beq q 98363&&(Nat.beq r 98364&&(Nat.beq s 98365&&(Nat.beq t 98366&&(Nat.beq u 98367&&(Nat.beq v 9&&(Nat.beq w 1&&(Nat.beq y 9&&(Nat.beq z 1&&(Nat.beq ab 70&&(Nat.beq ac 5&&(Nat.beq ad 113&&(Nat.beq ae 6&&(Nat.beq af 22&&(Nat.beq ag 1&&(Nat.beq ai 22&&(Nat.beq aj 1&&(Nat.beq al 22&&(Nat.beq am 1&&(Nat.beq ao 57&&(Nat.beq ap 5&&(Nat.beq ar 95&&(Nat.beq au 2&&(Nat.beq ax 68&&(Nat.beq ay 4&&(Nat.beq ba 65&&(Nat.beq bb 7&&(Nat.beq bd 46&&(Nat.beq be 4&&(Nat.beq bg 73&&(Nat.beq bh 5&&(Nat.beq bj 75&&(Nat.beq bk 3&&((look H 1000001).isNone&&((look H 1000002).isNone&&((look H 1000003).isNone&&((look H 1000004).isNone&&((look H 1000005).isNone&&((look H 1000006).isNone&&((look H 1000007).isNone&&((look H 1000010).isNone&&((look H 1000011).isNone&&((look H 1000012).isNone&&((look H 1000013).isNone&&((look H 1000014).isNone&&((look H 1000015).isNone&&((look H 1000016).isNone))))))))))))))))))))))))))))))))))))))))))))))))))))))) then some (x,r1,r2,r3,r4,r5,r6,l,m,n,aq,aw,az,bc,bf,bi,bl) else none
 | _,_,_,_,_,_,_,_,_,_,_,_,_,_,_,_,_,_=>none
theorem FY (n:Nat) (q1 q2 q3 q4 a c q7 d:LL) (e f:Int) (g h i j k l m:LL) (o:Bool) (p:Int):vfn (Qp n) n Tryz.f11 [.ptr 1000000 0,.ptr 1000008 0,.ptr 1000009 0,.d (D.bool o),.d (D.int .i64 p)] [(1000000,.box [.arr 1000001,.arr 1000002,.arr 1000003,.arr 1000004,.arr 1000005,.arr 1000006,.arr 1000007]),(1000001,.arr 9 1 q1),(1000002,.arr 9 1 q2),(1000003,.arr 70 5 q3),(1000004,.arr 113 6 q4),(1000005,.arr 22 1 a),(1000006,.arr 22 1 c),(1000007,.arr 22 1 q7),(1000008,.box [.d (D.sl 1 d),.d (D.int .i64 e)]),(1000009,.box [.d (D.int .i64 f),.arr 1000010,.arr 1000011,.arr 1000012,.arr 1000013,.arr 1000014,.arr 1000015,.arr 1000016]),(1000010,.arr 57 5 g),(1000011,.arr 95 2 h),(1000012,.arr 68 4 i),(1000013,.arr 65 7 j),(1000014,.arr 46 4 k),(1000015,.arr 73 5 l),(1000016,.arr 75 3 m)] ZF=Us n q1 q2 q3 q4 a c q7 d e f g h i j k l m o p (fun q r r2 r3 s t u v w x y z aa ab ac ad ae=>some (q,r,r2,r3,s,t,u,v,w,x,y,z,aa,ab,ac,ad,ae)):=
 Eq.trans (b:=Qi (Qp n) n JT (JU o p q1 q2 q3 q4 a c q7 d e f g h i j k l m) (K3 gtt [] ZF)) VP ((Lj n o p q1 q2 q3 q4 a c q7 d e f g h i j k l m (K3 gtt [] ZF)).trans (by kernel_rfl))
def G9 (n:Nat):XH:=fun _ site g avs hl k=>match avs with
 | [c0,c1,s,t,u]=>prP hl c0 fun l0 v=>(match v with
  | [w,x,y,z,aa,ab,ac]=>prR hl 9 1 w fun l1 q1=>prR hl 9 1 x fun l2 q2=>prR hl 70 5 y fun a q3=>prR hl 113 6 z fun b q4=>prR hl 22 1 aa fun c q5=>prR hl 22 1 ab fun d q6=>prR hl 22 1 ac fun e q7=>prP hl c1 fun f af=>(match af with
  | [ag,ah]=>prS g 1 ag fun ai=>prI g .i64 ah fun aj=>prP hl s fun h ak=>(match ak with
  | [al,am,an,ao,ap,aq,ar,au]=>prI g .i64 al fun av=>prR hl 57 5 am fun i aw=>prR hl 95 2 an fun j ax=>prR hl 68 4 ao fun l ay=>prR hl 65 7 ap fun m az=>prR hl 46 4 aq fun o ba=>prR hl 73 5 ar fun p bb=>prR hl 75 3 au fun q bc=>prB g t fun a3=>prI g .i64 u fun a4=>
  bif UY hl [(1000000,l0),(1000001,l1),(1000002,l2),(1000003,a),(1000004,b),(1000005,c),(1000006,d),(1000007,e),(1000008,f),(1000009,h),(1000010,i),(1000011,j),(1000012,l),(1000013,m),(1000014,o),(1000015,p),(1000016,q)] [(98000,(site+50000)),(98001,(site+100000)),(98002,(site+150000)),(98003,(site+200000)),(98004,(site+250000)),(98005,(site+300000)),(98006,(site+350000)),(98361,(site+400000)),(98362,(site+450000)),(98363,(site+500000)),(98364,(site+550000)),(98365,(site+600000)),(98366,(site+650000)),(98367,(site+700000))] then gb g (Us n q1 q2 q3 q4 q5 q6 q7 ai aj av aw ax ay az ba bb bc a3 a4 (fun r0 r1 r2 r3 r4 r5 r6 r7 r8 r9 bn bo bp bq br bt bu=>some (r0,r1,r2,r3,r4,r5,r6,r7,r8,r9,bn,bo,bp,bq,br,bt,bu))) ([],[],[],[],[],[],[],[],0,0,[],[],[],[],[],[],[]) fun r=>k ⟨.tup [],[(l0,some (.box [.arr (site+50000),.arr (site+100000),.arr (site+150000),.arr (site+200000),.arr (site+250000),.arr (site+300000),.arr (site+350000)])),(l1,none),(l2,none),(a,none),(b,none),(c,none),(d,none),(e,none),(f,some (.box [.d (D.sl 1 r.2.2.2.2.2.2.2.1),.d (D.int .i64 r.2.2.2.2.2.2.2.2.1)])),(h,some (.box [.d (D.int .i64 r.2.2.2.2.2.2.2.2.2.1),.arr (site+400000),.arr (site+450000),.arr (site+500000),.arr (site+550000),.arr (site+600000),.arr (site+650000),.arr (site+700000)])),(i,none),(j,none),(l,none),(m,none),(o,none),(p,none),(q,none),((site+50000),some (.arr 9 1 r.1)),((site+100000),some (.arr 9 1 r.2.1)),((site+150000),some (.arr 70 5 r.2.2.1)),((site+200000),some (.arr 113 6 r.2.2.2.1)),((site+250000),some (.arr 22 1 r.2.2.2.2.1)),((site+300000),some (.arr 22 1 r.2.2.2.2.2.1)),((site+350000),some (.arr 22 1 r.2.2.2.2.2.2.1)),((site+400000),some (.arr 57 5 r.2.2.2.2.2.2.2.2.2.2.1)),((site+450000),some (.arr 95 2 r.2.2.2.2.2.2.2.2.2.2.2.1)),((site+500000),some (.arr 68 4 r.2.2.2.2.2.2.2.2.2.2.2.2.1)),((site+550000),some (.arr 65 7 r.2.2.2.2.2.2.2.2.2.2.2.2.2.1)),((site+600000),some (.arr 46 4 r.2.2.2.2.2.2.2.2.2.2.2.2.2.2.1)),((site+650000),some (.arr 73 5 r.2.2.2.2.2.2.2.2.2.2.2.2.2.2.2.1)),((site+700000),some (.arr 75 3 r.2.2.2.2.2.2.2.2.2.2.2.2.2.2.2.2))],[l0,l1,l2,a,b,c,d,e,f,h,i,j,l,m,o,p,q]⟩ else none
  | _=>none)
  | _=>none)
  | _=>none)
 | _=>none
theorem Dc (n:Nat):Qo Tryz.prog 11 (G9 n):=by
  intro R site g avs hl k r h
  unfold G9 at h
  split at h
  rotate_left
  · cases h
  obtain ⟨l0,df,h,bb,bc⟩:=YT h
  split at h
  rotate_left
  · cases h
  obtain ⟨l1,q1,h,bd,be⟩:=QH h
  obtain ⟨l2,q2,h,bf,bg⟩:=QH h
  obtain ⟨l3,q3,h,bi,bj⟩:=QH h
  obtain ⟨l4,q4,h,bl,bm⟩:=QH h
  obtain ⟨l5,a,h,bo,bp⟩:=QH h
  obtain ⟨l6,b,h,br,bt⟩:=QH h
  obtain ⟨l7,q7,h,bv,bx⟩:=QH h
  obtain ⟨l8,dg,h,ca,cb⟩:=YT h
  split at h
  rotate_left
  · cases h
  obtain ⟨c,h,cc⟩:=Q1 h
  obtain ⟨d,h,cd⟩:=Q2 h
  obtain ⟨l9,dh,h,cf,cg⟩:=YT h
  split at h
  rotate_left
  · cases h
  obtain ⟨e,h,ch⟩:=Q2 h
  obtain ⟨ci,f,h,cj,ck⟩:=QH h
  obtain ⟨cl,i,h,cm,cn⟩:=QH h
  obtain ⟨co,j,h,cp,cq⟩:=QH h
  obtain ⟨cr,l,h,cs,ct⟩:=QH h
  obtain ⟨cu,m,h,cv,cw⟩:=QH h
  obtain ⟨cx,o,h,cy,cz⟩:=QH h
  obtain ⟨da,p,h,db,dc⟩:=QH h
  obtain ⟨q,h,dd⟩:=LO h
  obtain ⟨s,h,de⟩:=Q2 h
  obtain ⟨hc,h⟩:=Xa h
  obtain ⟨res,h,hr⟩:=Qc h
  have hL:=h
  subst bb bd bf bi bl bo br bv ca cf cj cm cp cs cv cy db
  refine ⟨_,hL,fun hg=>Zl (K:=ZF) (res:=res) (Dn n) (fn:=Tryz.f11) (n:=n) (by kernel_rfl) (by kernel_rfl) (by kernel_rfl) (ρ:=[(1000000,l0),(1000001,l1),(1000002,l2),(1000003,l3),(1000004,l4),(1000005,l5),(1000006,l6),(1000007,l7),(1000008,l8),(1000009,l9),(1000010,ci),(1000011,cl),(1000012,co),(1000013,cr),(1000014,cu),(1000015,cx),(1000016,da)]) (ν:=[(98000,(site+50000)),(98001,(site+100000)),(98002,(site+150000)),(98003,(site+200000)),(98004,(site+250000)),(98005,(site+300000)),(98006,(site+350000)),(98361,(site+400000)),(98362,(site+450000)),(98363,(site+500000)),(98364,(site+550000)),(98365,(site+600000)),(98366,(site+650000)),(98367,(site+700000))]) (avs':=[.ptr 1000000 0,.ptr 1000008 0,.ptr 1000009 0,.d (D.bool q),.d (D.int .i64 s)]) (H:=[(1000000,.box [.arr 1000001,.arr 1000002,.arr 1000003,.arr 1000004,.arr 1000005,.arr 1000006,.arr 1000007]),(1000001,.arr 9 1 q1),(1000002,.arr 9 1 q2),(1000003,.arr 70 5 q3),(1000004,.arr 113 6 q4),(1000005,.arr 22 1 a),(1000006,.arr 22 1 b),(1000007,.arr 22 1 q7),(1000008,.box [.d (D.sl 1 c),.d (D.int .i64 d)]),(1000009,.box [.d (D.int .i64 e),.arr 1000010,.arr 1000011,.arr 1000012,.arr 1000013,.arr 1000014,.arr 1000015,.arr 1000016]),(1000010,.arr 57 5 f),(1000011,.arr 95 2 i),(1000012,.arr 68 4 j),(1000013,.arr 65 7 l),(1000014,.arr 46 4 m),(1000015,.arr 73 5 o),(1000016,.arr 75 3 p)]) (.cons (.own rfl rfl) (.cons (.own rfl rfl) (.cons (.own rfl rfl) (.cons (.data rfl (dd hg)) (.cons (.data rfl (de hg)) (.nil)))))) rfl rfl hc (⟨⟨by decide,_,_,bc,rfl,.box (.cons (.own rfl rfl) (.cons (.own rfl rfl) (.cons (.own rfl rfl) (.cons (.own rfl rfl) (.cons (.own rfl rfl) (.cons (.own rfl rfl) (.cons (.own rfl rfl) (.nil))))))))⟩,⟨⟨by decide,_,_,be,rfl,.arr _ _ _⟩,⟨⟨by decide,_,_,bg,rfl,.arr _ _ _⟩,⟨⟨by decide,_,_,bj,rfl,.arr _ _ _⟩,⟨⟨by decide,_,_,bm,rfl,.arr _ _ _⟩,⟨⟨by decide,_,_,bp,rfl,.arr _ _ _⟩,⟨⟨by decide,_,_,bt,rfl,.arr _ _ _⟩,⟨⟨by decide,_,_,bx,rfl,.arr _ _ _⟩,⟨⟨by decide,_,_,cb,rfl,.box (.cons (.data rfl (cc hg)) (.cons (.data rfl (cd hg)) (.nil)))⟩,⟨⟨by decide,_,_,cg,rfl,.box (.cons (.data rfl (ch hg)) (.cons (.own rfl rfl) (.cons (.own rfl rfl) (.cons (.own rfl rfl) (.cons (.own rfl rfl) (.cons (.own rfl rfl) (.cons (.own rfl rfl) (.cons (.own rfl rfl) (.nil)))))))))⟩,⟨⟨by decide,_,_,ck,rfl,.arr _ _ _⟩,⟨⟨by decide,_,_,cn,rfl,.arr _ _ _⟩,⟨⟨by decide,_,_,cq,rfl,.arr _ _ _⟩,⟨⟨by decide,_,_,ct,rfl,.arr _ _ _⟩,⟨⟨by decide,_,_,cw,rfl,.arr _ _ _⟩,⟨⟨by decide,_,_,cz,rfl,.arr _ _ _⟩,⟨⟨by decide,_,_,dc,rfl,.arr _ _ _⟩,trivial⟩⟩⟩⟩⟩⟩⟩⟩⟩⟩⟩⟩⟩⟩⟩⟩⟩) rfl rfl ?_ ?_⟩
  · exact (FY n q1 q2 q3 q4 a b q7 c d e f i j l m o p q s).trans (hr hg)
  · intro av H' hx
    unfold ZF at hx
    replace hx:=B0 hx
    obtain ⟨o0,t,hx⟩:=hx
    replace hx:=B0 hx
    obtain ⟨o1,u,hx⟩:=hx
    replace hx:=B0 hx
    obtain ⟨o2,v,hx⟩:=hx
    replace hx:=B0 hx
    obtain ⟨o3,w,hx⟩:=hx
    replace hx:=B0 hx
    obtain ⟨o4,x,hx⟩:=hx
    replace hx:=B0 hx
    obtain ⟨o5,y,hx⟩:=hx
    replace hx:=B0 hx
    obtain ⟨o6,z,hx⟩:=hx
    replace hx:=B0 hx
    obtain ⟨o7,aa,hx⟩:=hx
    replace hx:=B0 hx
    obtain ⟨o8,ab,hx⟩:=hx
    replace hx:=B0 hx
    obtain ⟨o9,ac,hx⟩:=hx
    replace hx:=B0 hx
    obtain ⟨o10,ad,hx⟩:=hx
    replace hx:=B0 hx
    obtain ⟨di,ae,hx⟩:=hx
    replace hx:=B0 hx
    obtain ⟨dj,af,hx⟩:=hx
    replace hx:=B0 hx
    obtain ⟨dk,ag,hx⟩:=hx
    replace hx:=B0 hx
    obtain ⟨dl,ah,hx⟩:=hx
    replace hx:=B0 hx
    obtain ⟨dn,ai,hx⟩:=hx
    replace hx:=B0 hx
    obtain ⟨dp,aj,hx⟩:=hx
    split at hx
    rotate_left
    · cases hx
    replace hx:=Xa hx
    obtain ⟨hck,hx⟩:=hx
    simp only [Bool.and_eq_true,Nat.beq_eq,Option.isNone_iff_eq_none] at hck
    obtain ⟨rfl,rfl,rfl,rfl,rfl,rfl,rfl,rfl,rfl,rfl,rfl,rfl,rfl,rfl,rfl,rfl,rfl,rfl,rfl,rfl,rfl,rfl,rfl,rfl,rfl,rfl,rfl,rfl,rfl,rfl,rfl,rfl,rfl,rfl,rfl,rfl,rfl,rfl,rfl,rfl,rfl,rfl,ak,al,am,an,ao,ap,aq,ar,au,aw,ax,ay,az,ba⟩:=hck
    injection hx with hx
    subst hx
    refine ⟨rfl,?_,⟨by rw [w];rfl,⟨by rw [x];rfl,⟨by rw [y];rfl,⟨by rw [z];rfl,⟨by rw [aa];rfl,⟨by rw [ab];rfl,⟨by rw [ac];rfl,⟨by rw [ad];rfl,⟨by rw [ae];rfl,⟨by rw [af];rfl,⟨by rw [ag];rfl,⟨by rw [ah];rfl,⟨by rw [ai];rfl,⟨by rw [aj];rfl,trivial⟩⟩⟩⟩⟩⟩⟩⟩⟩⟩⟩⟩⟩⟩,⟨YI rfl t rfl,⟨Qn rfl ak,⟨Qn rfl al,⟨Qn rfl am,⟨Qn rfl an,⟨Qn rfl ao,⟨Qn rfl ap,⟨Qn rfl aq,⟨YI rfl u rfl,⟨YI rfl v rfl,⟨Qn rfl ar,⟨Qn rfl au,⟨Qn rfl aw,⟨Qn rfl ax,⟨Qn rfl ay,⟨Qn rfl az,⟨Qn rfl ba,trivial⟩⟩⟩⟩⟩⟩⟩⟩⟩⟩⟩⟩⟩⟩⟩⟩⟩⟩
    simp only [List.cons_append,List.nil_append,K2,t,u,v,w,x,y,z,aa,ab,ac,ad,ae,af,ag,ah,ai,aj,ak,al,am,an,ao,ap,aq,ar,au,aw,ax,ay,az,ba,Option.map_some,Option.map_none]
    rfl

noncomputable def Qae:Code:=Q8 Tryz.f13
def Q6o (n:Nat):VC:=⟨QK [],gtt,[cO 0 [1,2,3] [3],cO 1 [7] [7],cK 2 [6]]⟩
theorem Q9o (n:Nat):VCOk Tryz.prog (Q6o n):=gVC (Qe trivial)
theorem Q7Y (n:Nat) (a:Int) (b d e f g h i:LL) (a1 j:Int) (K:AV→Option R):vfn (Q6o n) n Tryz.f13 [.ag [.d (D.int .i64 a),.d (D.sl 5 b),.d (D.sl 2 d),.d (D.sl 4 e),.d (D.sl 7 f),.d (D.sl 4 g),.d (D.sl 5 h),.d (D.sl 3 i)],.d (D.int .i64 a1),.d (D.int .i64 j)] [] (Wc [[0]] K)=Ee n a b d e f g h i a1 j (fun k=>K (.d (D.int .i64 k))):=
 (VP (c:=Qae) (m:=31) (tm:=[(0,.ag [dI a,dL 5 b,dL 2 d,dL 4 e,dL 7 f,dL 4 g,dL 5 h,dL 3 i]),(1,dI a1),(2,dI j)]) (rs:=[.tmp 6]) (tt:=gtt)).trans (by kernel_rfl)
def EE (n:Nat):XH:=fun _ _ g avs _ k=>match avs with
 | [c0,c1,a]=>
  prG c0 fun l0=>(match l0 with
  | [b,c,d,e,f,h,i,j]=>prI g .i64 b fun l=>prS g 5 c fun m=>prS g 2 d fun o=>prS g 4 e fun p=>prS g 7 f fun q=>prS g 4 h fun s=>prS g 5 i fun t=>prS g 3 j fun u=>prI g .i64 c1 fun a1=>prI g .i64 a fun v=>
  gb g (Ee n l m o p q s t u a1 v some) 0 fun r=>k ⟨.d (D.int .i64 r),[],[]⟩
  | _=>none)
 | _=>none
theorem Q3Q (n:Nat):Qo Tryz.prog 13 (EE n):=by
  intro R site g avs hl k r h
  unfold EE at h
  split at h
  rotate_left
  · cases h
  obtain ⟨l0,h,m⟩:=Qq h
  split at h
  rotate_left
  · cases h
  obtain ⟨a,h,o⟩:=Q2 h
  obtain ⟨b,h,p⟩:=Q1 h
  obtain ⟨c,h,q⟩:=Q1 h
  obtain ⟨d,h,s⟩:=Q1 h
  obtain ⟨e,h,t⟩:=Q1 h
  obtain ⟨f,h,u⟩:=Q1 h
  obtain ⟨i,h,v⟩:=Q1 h
  obtain ⟨j,h,w⟩:=Q1 h
  obtain ⟨a1,h,x⟩:=Q2 h
  obtain ⟨l,h,y⟩:=Q2 h
  obtain ⟨res,h,hr⟩:=Qc h
  have hL:=h
  subst m
  refine ⟨_,hL,fun hg=>QI.conv (avs':=[.ag [.d (D.int .i64 a),.d (D.sl 5 b),.d (D.sl 2 c),.d (D.sl 4 d),.d (D.sl 7 e),.d (D.sl 4 f),.d (D.sl 5 i),.d (D.sl 3 j)],.d (D.int .i64 a1),.d (D.int .i64 l)]) (.cons (.ag (.cons (o hg) (.cons (p hg) (.cons (q hg) (.cons (s hg) (.cons (t hg) (.cons (u hg) (.cons (v hg) (.cons (w hg) (.nil)))))))))) (.cons (x hg) (.cons (y hg) (.nil)))) (QE (K:=kI) (res:=res) (Q9o n) (fn:=Tryz.f13) (n:=n) (ss:=[[0]]) ?_ ?_)⟩
  · exact (Q7Y n a b c d e f i j a1 l kI).trans (hr hg)
  · exact NW

noncomputable def Q8O:Code:=Q8 Tryz.f14
def Q3I (n:Nat):VC:=⟨QK [],gtt,[cO 0 [1,2,3] [3],cK 1 [6]]⟩
theorem Q8b (n:Nat):VCOk Tryz.prog (Q3I n):=gVC (Qe trivial)
theorem Q7i (n:Nat) (a:Int) (b d e f g h i:LL) (a1 j:Int) (K:AV→Option R):vfn (Q3I n) n Tryz.f14 [.ag [.d (D.int .i64 a),.d (D.sl 5 b),.d (D.sl 2 d),.d (D.sl 4 e),.d (D.sl 7 f),.d (D.sl 4 g),.d (D.sl 5 h),.d (D.sl 3 i)],.d (D.int .i64 a1),.d (D.int .i64 j)] [] (Wc [[0]] K)=NV n a b d e f g h i a1 j (fun k=>K (.d (D.int .i64 k))):=
 (VP (c:=Q8O) (m:=25) (tm:=[(0,.ag [dI a,dL 5 b,dL 2 d,dL 4 e,dL 7 f,dL 4 g,dL 5 h,dL 3 i]),(1,dI a1),(2,dI j)]) (rs:=[.tmp 6]) (tt:=gtt)).trans (by kernel_rfl)
def Lr (n:Nat):XH:=fun _ _ g avs _ k=>match avs with
 | [c0,c1,a]=>
  prG c0 fun l0=>(match l0 with
  | [b,c,d,e,f,h,i,j]=>prI g .i64 b fun l=>prS g 5 c fun m=>prS g 2 d fun o=>prS g 4 e fun p=>prS g 7 f fun q=>prS g 4 h fun s=>prS g 5 i fun t=>prS g 3 j fun u=>prI g .i64 c1 fun a1=>prI g .i64 a fun v=>
  gb g (NV n l m o p q s t u a1 v some) 0 fun r=>k ⟨.d (D.int .i64 r),[],[]⟩
  | _=>none)
 | _=>none
theorem Q2c (n:Nat):Qo Tryz.prog 14 (Lr n):=by
  intro R site g avs hl k r h
  unfold Lr at h
  split at h
  rotate_left
  · cases h
  obtain ⟨l0,h,m⟩:=Qq h
  split at h
  rotate_left
  · cases h
  obtain ⟨a,h,o⟩:=Q2 h
  obtain ⟨b,h,p⟩:=Q1 h
  obtain ⟨c,h,q⟩:=Q1 h
  obtain ⟨d,h,s⟩:=Q1 h
  obtain ⟨e,h,t⟩:=Q1 h
  obtain ⟨f,h,u⟩:=Q1 h
  obtain ⟨i,h,v⟩:=Q1 h
  obtain ⟨j,h,w⟩:=Q1 h
  obtain ⟨a1,h,x⟩:=Q2 h
  obtain ⟨l,h,y⟩:=Q2 h
  obtain ⟨res,h,hr⟩:=Qc h
  have hL:=h
  subst m
  refine ⟨_,hL,fun hg=>QI.conv (avs':=[.ag [.d (D.int .i64 a),.d (D.sl 5 b),.d (D.sl 2 c),.d (D.sl 4 d),.d (D.sl 7 e),.d (D.sl 4 f),.d (D.sl 5 i),.d (D.sl 3 j)],.d (D.int .i64 a1),.d (D.int .i64 l)]) (.cons (.ag (.cons (o hg) (.cons (p hg) (.cons (q hg) (.cons (s hg) (.cons (t hg) (.cons (u hg) (.cons (v hg) (.cons (w hg) (.nil)))))))))) (.cons (x hg) (.cons (y hg) (.nil)))) (QE (K:=kI) (res:=res) (Q8b n) (fn:=Tryz.f14) (n:=n) (ss:=[[0]]) ?_ ?_)⟩
  · exact (Q7i n a b c d e f i j a1 l kI).trans (hr hg)
  · exact NW

noncomputable def RZ:Code:=Q8 Tryz.f12
noncomputable def G2:Code:=cA [1,1,2,2] (Q8 Tryz.f12)
noncomputable def Hp:Code:=cA [1,1,2,2,1,1,0,2,1,1,2,2] (Q8 Tryz.f12)
noncomputable def Nd:Code:=cA [1,1,2,2,1,1,1] (Q8 Tryz.f12)
def Nn (a:LL) (b c:Int) (d e f g h i j:LL):St:=⟨89,[(0,.ptr 1000000 0),(1,.ptr 1000001 0)],[(1000000,.box [dL 1 a,dI b]),(1000001,.box [dI c,.arr 1000002,.arr 1000003,.arr 1000004,.arr 1000005,.arr 1000006,.arr 1000007,.arr 1000008]),(1000002,.arr 57 5 d),(1000003,.arr 95 2 e),(1000004,.arr 68 4 f),(1000005,.arr 65 7 g),(1000006,.arr 46 4 h),(1000007,.arr 73 5 i),(1000008,.arr 75 3 j)]⟩
def JY (a b:Int) (c d e f g h i j k l:LL) (m n:Int):St:=⟨89,[(0,.ptr 1000000 0),(1,.ptr 1000001 0),(4,.ap 4 0 0),(5,.ap 5 0 0),(13,dI a),(14,dI b)],[(4,.arr 99 1 c),(5,.arr 99 1 d),(98041,.arr 57 5 e),(98042,.arr 95 2 f),(98043,.arr 68 4 g),(98044,.arr 65 7 h),(98045,.arr 46 4 i),(98046,.arr 73 5 j),(98047,.arr 75 3 k),(1000000,.box [dL 1 l,dI m]),(1000001,.box [dI n,.arr 98041,.arr 98042,.arr 98043,.arr 98044,.arr 98045,.arr 98046,.arr 98047])]⟩
def Hr (a b:Int) (c:Bool) (d e f g h i j k l m:LL) (n o:Int):St:=⟨89,[(0,.ptr 1000000 0),(1,.ptr 1000001 0),(4,.ap 4 0 0),(5,.ap 5 0 0),(13,dI a),(14,dI b),(15,dB c)],[(4,.arr 99 1 d),(5,.arr 99 1 e),(98041,.arr 57 5 f),(98042,.arr 95 2 g),(98043,.arr 68 4 h),(98044,.arr 65 7 i),(98045,.arr 46 4 j),(98046,.arr 73 5 k),(98047,.arr 75 3 l),(1000000,.box [dL 1 m,dI n]),(1000001,.box [dI o,.arr 98041,.arr 98042,.arr 98043,.arr 98044,.arr 98045,.arr 98046,.arr 98047])]⟩
def N2 (a b c d e:Int) (f g h i j k l m n o:LL) (p q:Int):St:=⟨89,[(0,.ptr 1000000 0),(1,.ptr 1000001 0),(4,.ap 4 0 0),(5,.ap 5 0 0),(6,dI a),(13,dI b),(14,dI c),(21,dI d),(22,dI e)],[(4,.arr 99 1 f),(5,.arr 99 1 g),(98041,.arr 57 5 h),(98042,.arr 95 2 i),(98043,.arr 68 4 j),(98044,.arr 65 7 k),(98045,.arr 46 4 l),(98046,.arr 73 5 m),(98047,.arr 75 3 n),(1000000,.box [dL 1 o,dI p]),(1000001,.box [dI q,.arr 98041,.arr 98042,.arr 98043,.arr 98044,.arr 98045,.arr 98046,.arr 98047])]⟩
def Nl (a b c d e:Int) (f:Bool) (g h i j k l m n o p:LL) (q r:Int):St:=⟨89,[(0,.ptr 1000000 0),(1,.ptr 1000001 0),(4,.ap 4 0 0),(5,.ap 5 0 0),(6,dI a),(13,dI b),(14,dI c),(21,dI d),(22,dI e),(23,dB f)],[(4,.arr 99 1 g),(5,.arr 99 1 h),(98041,.arr 57 5 i),(98042,.arr 95 2 j),(98043,.arr 68 4 k),(98044,.arr 65 7 l),(98045,.arr 46 4 m),(98046,.arr 73 5 n),(98047,.arr 75 3 o),(1000000,.box [dL 1 p,dI q]),(1000001,.box [dI r,.arr 98041,.arr 98042,.arr 98043,.arr 98044,.arr 98045,.arr 98046,.arr 98047])]⟩
def XK (n:Nat):VC:=⟨QK [(10,ZT n),(13,EE n),(14,Lr n)],gtt,[(0,⟨[0,1,4,5],(zp (4::5::rg1 1000000 9 []) (4::5::1000000::1000001::rg1 98041 7 [])),[],[],[]⟩),cO 1 [0,1,4,5,13,14] (4::5::rg1 98041 7 [1000000,1000001]),cO 2 [0,1,4,5,13,14,15] (4::5::rg1 98041 7 [1000000,1000001]),cO 3 [0,1,4,5,6,13,14] (4::5::rg1 98041 7 [1000000,1000001]),cO 4 [0,1,4,5,6,13,14,21,22] (4::5::rg1 98041 7 [1000000,1000001]),cO 5 [0,1,4,5,6,13,14,21,22,23] (4::5::rg1 98041 7 [1000000,1000001]),cO 6 [0,1,4,5,6,7,13,14,21,22] (4::5::rg1 98041 7 [1000000,1000001]),cO 7 [0,1,4,5,6,7,13,14,21,22,62] (4::5::rg1 98041 7 [1000000,1000001]),cO 8 [0,1,4,5,6,7,13,14,21,22] (4::5::rg1 98041 7 [1000000,1000001]),cO 9 (0::1::rg1 4 5 [13,14,21,22]) (4::5::rg1 98041 7 [1000000,1000001]),(10,⟨[0,1,4,5,6,13,14,21,22],(zp (4::5::84::rg1 98041 4 [98046,98047,1000000,1000001]) (4::5::98045::rg1 98041 4 [98046,98047,1000000,1000001])),[],[],[]⟩),cO 11 [0,1,4,5,6,13,14,21,22] (4::5::rg1 98041 7 [1000000,1000001]),cO 12 [0,1,4,5,13,14] (4::5::rg1 98041 7 [1000000,1000001])]⟩
theorem Q4F (n:Nat):VCOk Tryz.prog (XK n):=gVC (Qe ⟨V0 n,⟨Q3Q n,⟨Q2c n,trivial⟩⟩⟩)
theorem Q0F (n:Nat) (a:LL) (b c:Int) (q2 q3 q4 d e q7 f:LL) (k:Exit→St→Option R):Qi (XK n) n RZ (Nn a b c q2 q3 q4 d e q7 f) k=Hk n a b c q2 q3 q4 d e q7 f (fun h g=>X7 (lB (XK n) n G2) n ⟨89,[(0,.ptr 1000000 0),(1,.ptr 1000001 0),(4,.ap 4 0 0),(5,.ap 5 0 0),(13,dI h),(14,dI (0:Int))],[(4,.arr 99 1 g),(5,.arr 99 1 g),(98041,.arr 57 5 q2),(98042,.arr 95 2 q3),(98043,.arr 68 4 q4),(98044,.arr 65 7 d),(98045,.arr 46 4 e),(98046,.arr 73 5 q7),(98047,.arr 75 3 f),(1000000,.box [dL 1 a,dI b]),(1000001,.box [dI c,.arr 98041,.arr 98042,.arr 98043,.arr 98044,.arr 98045,.arr 98046,.arr 98047])]⟩ (Q9 0 k)):=by kernel_rfl
theorem Q0J (n:Nat) (b a:Int) (c d q2 q3 q4 e f q7 g h:LL) (i j:Int) (k:Exit→St→Option R):Qi (XK n) n G2 (JY b a c d q2 q3 q4 e f q7 g h i j) k=JX n b a c d q2 q3 q4 e f q7 g h i j (fun l=>X7 (lB (XK n) n Hp) n ⟨89,[(0,.ptr 1000000 0),(1,.ptr 1000001 0),(4,.ap 4 0 0),(5,.ap 5 0 0),(6,dI a),(13,dI b),(14,dI a),(21,dI l),(22,dI (0:Int))],[(4,.arr 99 1 c),(5,.arr 99 1 d),(98041,.arr 57 5 q2),(98042,.arr 95 2 q3),(98043,.arr 68 4 q4),(98044,.arr 65 7 e),(98045,.arr 46 4 f),(98046,.arr 73 5 q7),(98047,.arr 75 3 g),(1000000,.box [dL 1 h,dI i]),(1000001,.box [dI j,.arr 98041,.arr 98042,.arr 98043,.arr 98044,.arr 98045,.arr 98046,.arr 98047])]⟩ (Q9 2 (Q9 1 (Xf (XK n) n Nd k)))) (fun m=>k (.exit 0) (Hr b a m c d q2 q3 q4 e f q7 g h i j)):=by kernel_rfl
theorem AY (n:Nat) (a b c g:Int) (h i q2 q3 q4 d j q7 e l:LL) (m f:Int) (k:Exit→St→Option R):Qi (XK n) n Hp (N2 a b a c g h i q2 q3 q4 d j q7 e l m f) k=Vv n a b c g h i q2 q3 q4 d j q7 e l m f (fun o p q r s t=>k .normal (N2 a b a c o p q q2 q3 q4 d r q7 e s t f)) (fun u=>k (.exit 2) (Nl a b a c g u h i q2 q3 q4 d j q7 e l m f)):=by kernel_rfl
theorem MA (n:Nat) (a h i:Int) (q2 q3 q4 j q7 l:LL) (o:Int) (k:Exit→St→Option R):∀ (m:Nat) (b:Int) (c d e f:LL) (g:Int),X7 (lB (XK n) n Hp) m (N2 a h a i b c d q2 q3 q4 j e q7 l f g o) k=Un n a h i q2 q3 q4 j q7 l o (fun b p c d e f g=>k (.exit 2) (Nl a h a i b p c d q2 q3 q4 j e q7 l f g o)) m b c d e f g
 | 0,_,_,_,_,_,_=>rfl
 | m+1,b,c,d,e,f,g=>(lS (by kernel_rfl) m k).trans ((AY n a h i b c d q2 q3 q4 j e q7 l f g o (WB (lB (XK n) n Hp) m k)).trans (cg2 (fun q r=>Vv n a h i b c d q2 q3 q4 j e q7 l f g o q r ) (funext fun s=>funext fun t=>funext fun u=>funext fun v=>funext fun w=>funext fun x=>MA n a h i q2 q3 q4 j q7 l o k m s t u v w x) rfl))
theorem Q02 (n:Nat) (a b l m:Int) (o:Bool) (c d q2 q3 q4 e f q7 g h:LL) (i j:Int) (k:Exit→St→Option R):(Q9 2 (Q9 1 (Xf (XK n) n Nd k))) (.exit 2) (Nl a b a l m o c d q2 q3 q4 e f q7 g h i j)=Nc n a b l m o c d q2 q3 q4 e f q7 g h i j (fun p=>k .normal (JY b p c d q2 q3 q4 e f q7 g h i j)):=by kernel_rfl
theorem Q0W (n:Nat) (a e:Int) (f g q2 q3 q4 b h q7 c i:LL) (j d:Int) (k:Exit→St→Option R):Qi (XK n) n G2 (JY a e f g q2 q3 q4 b h q7 c i j d) k=G0 n a e f g q2 q3 q4 b h q7 c i j d (fun t l m o p q=>k .normal (JY a t l m q2 q3 q4 b o q7 c p q d)) (fun u=>k (.exit 0) (Hr a e u f g q2 q3 q4 b h q7 c i j d)):=
 (Q0J n a e f g q2 q3 q4 b h q7 c i j d k).trans (cg2 (fun r v=>JX n a e f g q2 q3 q4 b h q7 c i j d r v ) (funext fun s=>(MA n e a s q2 q3 q4 b q7 c d (Q9 2 (Q9 1 (Xf (XK n) n Nd k))) n (0:Int) f g h i j).trans (cg1 (fun r=>Un n e a s q2 q3 q4 b q7 c d r n (0:Int) f g h i j) (funext fun w=>funext fun x=>funext fun l=>funext fun m=>funext fun o=>funext fun p=>funext fun q=>(Q02 n e a s w x l m q2 q3 q4 b o q7 c p q d k)))) rfl)
theorem MQ (n:Nat) (g:Int) (q2 q3 q4 h q7 i:LL) (j:Int) (k:Exit→St→Option R):∀ (m:Nat) (a:Int) (b c d e:LL) (f:Int),X7 (lB (XK n) n G2) m (JY g a b c q2 q3 q4 h d q7 i e f j) k=Vt n g q2 q3 q4 h q7 i j (fun a l b c d e f=>k (.exit 0) (Hr g a l b c q2 q3 q4 h d q7 i e f j)) m a b c d e f
 | 0,_,_,_,_,_,_=>rfl
 | m+1,a,b,c,d,e,f=>(lS (by kernel_rfl) m k).trans ((Q0W n g a b c q2 q3 q4 h d q7 i e f j (WB (lB (XK n) n G2) m k)).trans (cg2 (fun o p=>G0 n g a b c q2 q3 q4 h d q7 i e f j o p ) (funext fun q=>funext fun r=>funext fun s=>funext fun t=>funext fun u=>funext fun v=>MQ n g q2 q3 q4 h q7 i j k m q r s t u v) rfl))
theorem Q0p (n:Nat) (d:LL) (e a:Int) (q2 q3 q4 b f q7 c:LL) (k:Exit→St→Option R):Qi (XK n) n RZ (Nn d e a q2 q3 q4 b f q7 c) k=N1 n d e a q2 q3 q4 b f q7 c (fun g i j l m o p q=>k .normal (Hr g i j l m q2 q3 q4 b o q7 c p q a)):=
 (Q0F n d e a q2 q3 q4 b f q7 c k).trans (cg1 (fun r=>Hk n d e a q2 q3 q4 b f q7 c r ) (funext fun g=>funext fun h=>(MQ n g q2 q3 q4 b q7 c a (Q9 0 k) n (0:Int) h h f d e)))
def JW:AV→List (Nat × Ob)→Option (LL × Int × Int × LL × LL × LL × LL × LL × LL × LL):=fun av H=>(look H 1000000).bind fun o0=>(look H 1000001).bind fun o1=>(look H 98041).bind fun o2=>(look H 98042).bind fun o3=>(look H 98043).bind fun o4=>(look H 98044).bind fun o5=>(look H 98045).bind fun o6=>(look H 98046).bind fun o7=>(look H 98047).bind fun o8=>match av,o0,o1,o2,o3,o4,o5,o6,o7,o8 with
 | .tup [],.box [.d (D.sl 1 a),.d (D.int .i64 b)],.box [.d (D.int .i64 r2),.arr p0,.arr p1,.arr c,.arr d,.arr e,.arr f,.arr g],.arr h i r3,.arr j k l,.arr m n o,.arr p q r,.arr s t u,.arr v w x,.arr y z r9=>bif Nat.beq p0 98041&&(Nat.beq p1 98042&&(Nat.beq c 98043&&(Nat.beq d 98044&&(Nat.beq e 98045&&(Nat.beq f 98046&&(Nat.beq g 98047&&(Nat.beq h 57&&(Nat.beq i 5&&(Nat.beq j 95&&(Nat.beq k 2&&(Nat.beq m 68&&(Nat.beq n 4&&(Nat.beq p 65&&(Nat.beq q 7&&(Nat.beq s 46&&(Nat.beq t 4&&(Nat.beq v 73&&(Nat.beq w 5&&(Nat.beq y 75&&(Nat.beq z 3&&((look H 1000002).isNone&&((look H 1000003).isNone&&((look H 1000004).isNone&&((look H 1000005).isNone&&((look H 1000006).isNone&&((look H 1000007).isNone&&((look H 1000008).isNone))))))))))))))))))))))))))) then some (a,b,r2,r3,l,o,r,u,x,r9) else none
 | _,_,_,_,_,_,_,_,_,_=>none
theorem Q3v (n:Nat) (a:LL) (c d:Int) (q2 q3 q4 e f q7 g:LL):vfn (XK n) n Tryz.f12 [.ptr 1000000 0,.ptr 1000001 0] [(1000000,.box [.d (D.sl 1 a),.d (D.int .i64 c)]),(1000001,.box [.d (D.int .i64 d),.arr 1000002,.arr 1000003,.arr 1000004,.arr 1000005,.arr 1000006,.arr 1000007,.arr 1000008]),(1000002,.arr 57 5 q2),(1000003,.arr 95 2 q3),(1000004,.arr 68 4 q4),(1000005,.arr 65 7 e),(1000006,.arr 46 4 f),(1000007,.arr 73 5 q7),(1000008,.arr 75 3 g)] JW=P5 n a c d q2 q3 q4 e f q7 g (fun h i r2 r3 j k l m o p=>some (h,i,r2,r3,j,k,l,m,o,p)):=
 Eq.trans (b:=Qi (XK n) n RZ (Nn a c d q2 q3 q4 e f q7 g) (K3 gtt [] JW)) VP ((Q0p n a c d q2 q3 q4 e f q7 g (K3 gtt [] JW)).trans (by kernel_rfl))
def MT (n:Nat):XH:=fun _ site g avs hl k=>match avs with
 | [c0,c1]=>prP hl c0 fun l0 h=>(match h with
  | [i,j]=>prS g 1 i fun l=>prI g .i64 j fun m=>prP hl c1 fun l1 o=>(match o with
  | [p,q,s,t,u,v,w,x]=>prI g .i64 p fun y=>prR hl 57 5 q fun l2 q2=>prR hl 95 2 s fun a q3=>prR hl 68 4 t fun b q4=>prR hl 65 7 u fun c z=>prR hl 46 4 v fun d q6=>prR hl 73 5 w fun e q7=>prR hl 75 3 x fun f q8=>
  bif UY hl [(1000000,l0),(1000001,l1),(1000002,l2),(1000003,a),(1000004,b),(1000005,c),(1000006,d),(1000007,e),(1000008,f)] [(98041,(site+50000)),(98042,(site+100000)),(98043,(site+150000)),(98044,(site+200000)),(98045,(site+250000)),(98046,(site+300000)),(98047,(site+350000))] then gb g (P5 n l m y q2 q3 q4 z q6 q7 q8 (fun r0 r1 r2 r3 r4 r5 r6 r7 r8 r9=>some (r0,r1,r2,r3,r4,r5,r6,r7,r8,r9))) ([],0,0,[],[],[],[],[],[],[]) fun r=>k ⟨.tup [],[(l0,some (.box [.d (D.sl 1 r.1),.d (D.int .i64 r.2.1)])),(l1,some (.box [.d (D.int .i64 r.2.2.1),.arr (site+50000),.arr (site+100000),.arr (site+150000),.arr (site+200000),.arr (site+250000),.arr (site+300000),.arr (site+350000)])),(l2,none),(a,none),(b,none),(c,none),(d,none),(e,none),(f,none),((site+50000),some (.arr 57 5 r.2.2.2.1)),((site+100000),some (.arr 95 2 r.2.2.2.2.1)),((site+150000),some (.arr 68 4 r.2.2.2.2.2.1)),((site+200000),some (.arr 65 7 r.2.2.2.2.2.2.1)),((site+250000),some (.arr 46 4 r.2.2.2.2.2.2.2.1)),((site+300000),some (.arr 73 5 r.2.2.2.2.2.2.2.2.1)),((site+350000),some (.arr 75 3 r.2.2.2.2.2.2.2.2.2))],[l0,l1,l2,a,b,c,d,e,f]⟩ else none
  | _=>none)
  | _=>none)
 | _=>none
theorem Q4k (n:Nat):Qo Tryz.prog 12 (MT n):=by
  intro R site g avs hl k r h
  unfold MT at h
  split at h
  rotate_left
  · cases h
  obtain ⟨l0,bf,h,ab,ac⟩:=YT h
  split at h
  rotate_left
  · cases h
  obtain ⟨a,h,ad⟩:=Q1 h
  obtain ⟨b,h,ae⟩:=Q2 h
  obtain ⟨l1,bg,h,af,ag⟩:=YT h
  split at h
  rotate_left
  · cases h
  obtain ⟨c,h,ah⟩:=Q2 h
  obtain ⟨l2,q2,h,ai,aj⟩:=QH h
  obtain ⟨l3,q3,h,al,am⟩:=QH h
  obtain ⟨l4,q4,h,ao,ap⟩:=QH h
  obtain ⟨l5,d,h,ar,au⟩:=QH h
  obtain ⟨l6,e,h,ax,ay⟩:=QH h
  obtain ⟨l7,q7,h,ba,bb⟩:=QH h
  obtain ⟨l8,f,h,bd,be⟩:=QH h
  obtain ⟨hc,h⟩:=Xa h
  obtain ⟨res,h,hr⟩:=Qc h
  have hL:=h
  subst ab af ai al ao ar ax ba bd
  refine ⟨_,hL,fun hg=>Zl (K:=JW) (res:=res) (Q4F n) (fn:=Tryz.f12) (n:=n) (by kernel_rfl) (by kernel_rfl) (by kernel_rfl) (ρ:=[(1000000,l0),(1000001,l1),(1000002,l2),(1000003,l3),(1000004,l4),(1000005,l5),(1000006,l6),(1000007,l7),(1000008,l8)]) (ν:=[(98041,(site+50000)),(98042,(site+100000)),(98043,(site+150000)),(98044,(site+200000)),(98045,(site+250000)),(98046,(site+300000)),(98047,(site+350000))]) (avs':=[.ptr 1000000 0,.ptr 1000001 0]) (H:=[(1000000,.box [.d (D.sl 1 a),.d (D.int .i64 b)]),(1000001,.box [.d (D.int .i64 c),.arr 1000002,.arr 1000003,.arr 1000004,.arr 1000005,.arr 1000006,.arr 1000007,.arr 1000008]),(1000002,.arr 57 5 q2),(1000003,.arr 95 2 q3),(1000004,.arr 68 4 q4),(1000005,.arr 65 7 d),(1000006,.arr 46 4 e),(1000007,.arr 73 5 q7),(1000008,.arr 75 3 f)]) (.cons (.own rfl rfl) (.cons (.own rfl rfl) (.nil))) rfl rfl hc (⟨⟨by decide,_,_,ac,rfl,.box (.cons (.data rfl (ad hg)) (.cons (.data rfl (ae hg)) (.nil)))⟩,⟨⟨by decide,_,_,ag,rfl,.box (.cons (.data rfl (ah hg)) (.cons (.own rfl rfl) (.cons (.own rfl rfl) (.cons (.own rfl rfl) (.cons (.own rfl rfl) (.cons (.own rfl rfl) (.cons (.own rfl rfl) (.cons (.own rfl rfl) (.nil)))))))))⟩,⟨⟨by decide,_,_,aj,rfl,.arr _ _ _⟩,⟨⟨by decide,_,_,am,rfl,.arr _ _ _⟩,⟨⟨by decide,_,_,ap,rfl,.arr _ _ _⟩,⟨⟨by decide,_,_,au,rfl,.arr _ _ _⟩,⟨⟨by decide,_,_,ay,rfl,.arr _ _ _⟩,⟨⟨by decide,_,_,bb,rfl,.arr _ _ _⟩,⟨⟨by decide,_,_,be,rfl,.arr _ _ _⟩,trivial⟩⟩⟩⟩⟩⟩⟩⟩⟩) rfl rfl ?_ ?_⟩
  · exact (Q3v n a b c q2 q3 q4 d e q7 f).trans (hr hg)
  · intro av H' hx
    unfold JW at hx
    simp only [Option.bind_eq_some_iff] at hx
    obtain ⟨o0,i,o1,j,o2,l,o3,m,o4,o,o5,p,o6,q,o7,s,o8,t,hx⟩:=hx
    split at hx
    rotate_left
    · cases hx
    replace hx:=Xa hx
    obtain ⟨hck,hx⟩:=hx
    simp only [Bool.and_eq_true,Nat.beq_eq,Option.isNone_iff_eq_none] at hck
    obtain ⟨rfl,rfl,rfl,rfl,rfl,rfl,rfl,rfl,rfl,rfl,rfl,rfl,rfl,rfl,rfl,rfl,rfl,rfl,rfl,rfl,rfl,u,v,w,x,y,z,aa⟩:=hck
    injection hx with hx
    subst hx
    refine ⟨rfl,?_,⟨by rw [l];rfl,⟨by rw [m];rfl,⟨by rw [o];rfl,⟨by rw [p];rfl,⟨by rw [q];rfl,⟨by rw [s];rfl,⟨by rw [t];rfl,trivial⟩⟩⟩⟩⟩⟩⟩,⟨YI rfl i rfl,⟨YI rfl j rfl,⟨Qn rfl u,⟨Qn rfl v,⟨Qn rfl w,⟨Qn rfl x,⟨Qn rfl y,⟨Qn rfl z,⟨Qn rfl aa,trivial⟩⟩⟩⟩⟩⟩⟩⟩⟩⟩
    simp only [List.cons_append,List.nil_append,K2,i,j,l,m,o,p,q,s,t,u,v,w,x,y,z,aa,Option.map_some,Option.map_none]
    rfl

noncomputable def Bc:Code:=Q8 Tryz.f4
noncomputable def LJ:Code:=cA [1,1,1,1,0,1,2,2] (Q8 Tryz.f4)
noncomputable def LD:Code:=cA [1,1,1,1,1] (Q8 Tryz.f4)
noncomputable def LV:Code:=cA [1,1,1,1,1,1,0,1,2,2] (Q8 Tryz.f4)
noncomputable def Lq:Code:=cA [1,1,1,1,1,1,1] (Q8 Tryz.f4)
noncomputable def Q3Z:Code:=cA [1,1,1,1,1,1,1,0] (Q8 Tryz.f4)
noncomputable def LA:Code:=cA [1,1,1,1,1,1,1,1] (Q8 Tryz.f4)
noncomputable def Jt:Code:=cA [1,1,1,1,1,1,1,1,0,1,2,2] (Q8 Tryz.f4)
noncomputable def Jw:Code:=cA [1,1,1,1,1,1,1,1,1] (Q8 Tryz.f4)
def Q3X (a b:Int) (c d:LL) (e:Int) (f g h i j k l m n o p q r:LL):St:=⟨225,[(2,.ptr 2 0),(3,.ptr 3 0),(4,.ptr 50013 0),(5,.ptr 50015 0),(6,.ptr 6 0),(7,dI a)],[(2,.box [.nil,.nil,.nil,.nil]),(3,.box [dI (0:Int),.nil,.nil,.nil,.nil,.nil,.nil,.nil]),(6,.box [dI b,.arr 37,.arr 500602,.arr 500603,.arr 500604,.arr 500605,.arr 500606,.arr 500607]),(37,.arr 57 5 c),(50013,.box [dL 1 d,dI e]),(50015,.box [.arr 100015,.arr 150015,.arr 200015,.arr 250015,.arr 300015,.arr 350015,.arr 400015]),(100015,.arr 9 1 f),(150015,.arr 9 1 g),(200015,.arr 70 5 h),(250015,.arr 113 6 i),(300015,.arr 22 1 j),(350015,.arr 22 1 k),(400015,.arr 22 1 l),(500602,.arr 95 2 m),(500603,.arr 68 4 n),(500604,.arr 65 7 o),(500605,.arr 46 4 p),(500606,.arr 73 5 q),(500607,.arr 75 3 r)]⟩
def CP (a:Int) (b:Bool) (c:Int) (d e:LL) (f:Int) (g h i j k l m n o p q r s:LL):St:=⟨225,[(2,.ptr 2 0),(3,.ptr 3 0),(4,.ptr 50013 0),(5,.ptr 50015 0),(6,.ptr 6 0),(7,dI a),(43,dB b)],[(2,.box [.nil,.nil,.nil,.nil]),(3,.box [dI (0:Int),.nil,.nil,.nil,.nil,.nil,.nil,.nil]),(6,.box [dI c,.arr 37,.arr 500602,.arr 500603,.arr 500604,.arr 500605,.arr 500606,.arr 500607]),(37,.arr 57 5 d),(50013,.box [dL 1 e,dI f]),(50015,.box [.arr 100015,.arr 150015,.arr 200015,.arr 250015,.arr 300015,.arr 350015,.arr 400015]),(100015,.arr 9 1 g),(150015,.arr 9 1 h),(200015,.arr 70 5 i),(250015,.arr 113 6 j),(300015,.arr 22 1 k),(350015,.arr 22 1 l),(400015,.arr 22 1 m),(500602,.arr 95 2 n),(500603,.arr 68 4 o),(500604,.arr 65 7 p),(500605,.arr 46 4 q),(500606,.arr 73 5 r),(500607,.arr 75 3 s)]⟩
def Bu (a b:Int) (c:LL) (d:Int) (e f g h i j k l m n o p q r:LL):St:=⟨225,[(2,.ptr 2 0),(3,.ptr 3 0),(4,.ptr 50013 0),(5,.ptr 50015 0),(6,.ptr 6 0),(8,dI a)],[(2,.box [.nil,.nil,.nil,.nil]),(3,.box [dI (0:Int),.nil,.nil,.nil,.nil,.nil,.nil,.nil]),(6,.box [dI b,.arr 50061,.arr 100061,.arr 150061,.arr 200061,.arr 250061,.arr 300061,.arr 350061]),(50013,.box [dL 1 c,dI d]),(50015,.box [.arr 100015,.arr 150015,.arr 200015,.arr 250015,.arr 300015,.arr 350015,.arr 400015]),(50061,.arr 57 5 e),(100015,.arr 9 1 f),(100061,.arr 95 2 g),(150015,.arr 9 1 h),(150061,.arr 68 4 i),(200015,.arr 70 5 j),(200061,.arr 65 7 k),(250015,.arr 113 6 l),(250061,.arr 46 4 m),(300015,.arr 22 1 n),(300061,.arr 73 5 o),(350015,.arr 22 1 p),(350061,.arr 75 3 q),(400015,.arr 22 1 r)]⟩
def RF (a:Int) (b:Bool) (c:Int) (d:LL) (e:Int) (f g h i j k l m n o p q r s:LL):St:=⟨225,[(2,.ptr 2 0),(3,.ptr 3 0),(4,.ptr 50013 0),(5,.ptr 50015 0),(6,.ptr 6 0),(8,dI a),(71,dB b)],[(2,.box [.nil,.nil,.nil,.nil]),(3,.box [dI (0:Int),.nil,.nil,.nil,.nil,.nil,.nil,.nil]),(6,.box [dI c,.arr 50061,.arr 100061,.arr 150061,.arr 200061,.arr 250061,.arr 300061,.arr 350061]),(50013,.box [dL 1 d,dI e]),(50015,.box [.arr 100015,.arr 150015,.arr 200015,.arr 250015,.arr 300015,.arr 350015,.arr 400015]),(50061,.arr 57 5 f),(100015,.arr 9 1 g),(100061,.arr 95 2 h),(150015,.arr 9 1 i),(150061,.arr 68 4 j),(200015,.arr 70 5 k),(200061,.arr 65 7 l),(250015,.arr 113 6 m),(250061,.arr 46 4 n),(300015,.arr 22 1 o),(300061,.arr 73 5 p),(350015,.arr 22 1 q),(350061,.arr 75 3 r),(400015,.arr 22 1 s)]⟩
def Q3T (a:Int) (b c:LL) (d:Int) (e f g h i j k l m n o p q:LL):St:=⟨225,[(2,.ptr 2 0),(3,.ptr 3 0),(4,.ptr 50013 0),(5,.ptr 50015 0),(6,.ptr 6 0)],[(2,.box [.nil,.nil,.nil,.nil]),(3,.box [dI (0:Int),.nil,.nil,.nil,.nil,.nil,.nil,.nil]),(6,.box [dI a,.arr 50061,.arr 100061,.arr 150061,.arr 200061,.arr 250061,.arr 175,.arr 350061]),(175,.arr 73 5 b),(50013,.box [dL 1 c,dI d]),(50015,.box [.arr 100015,.arr 150015,.arr 200015,.arr 250015,.arr 300015,.arr 350015,.arr 400015]),(50061,.arr 57 5 e),(100015,.arr 9 1 f),(100061,.arr 95 2 g),(150015,.arr 9 1 h),(150061,.arr 68 4 i),(200015,.arr 70 5 j),(200061,.arr 65 7 k),(250015,.arr 113 6 l),(250061,.arr 46 4 m),(300015,.arr 22 1 n),(350015,.arr 22 1 o),(350061,.arr 75 3 p),(400015,.arr 22 1 q)]⟩
def Q3B (a:Bool) (b:Int) (c:LL) (d:Int) (e f g h i j k l m n o p q r:LL):St:=⟨225,[(2,.ptr 2 0),(3,.ptr 3 0),(4,.ptr 50013 0),(5,.ptr 50015 0),(6,.ptr 6 0),(166,dB a)],[(2,.box [.nil,.nil,.nil,.nil]),(3,.box [dI (0:Int),.nil,.nil,.nil,.nil,.nil,.nil,.nil]),(6,.box [dI b,.arr 50061,.arr 100061,.arr 150061,.arr 200061,.arr 250061,.arr 300061,.arr 350061]),(50013,.box [dL 1 c,dI d]),(50015,.box [.arr 100015,.arr 150015,.arr 200015,.arr 250015,.arr 300015,.arr 350015,.arr 400015]),(50061,.arr 57 5 e),(100015,.arr 9 1 f),(100061,.arr 95 2 g),(150015,.arr 9 1 h),(150061,.arr 68 4 i),(200015,.arr 70 5 j),(200061,.arr 65 7 k),(250015,.arr 113 6 l),(250061,.arr 46 4 m),(300015,.arr 22 1 n),(300061,.arr 73 5 o),(350015,.arr 22 1 p),(350061,.arr 75 3 q),(400015,.arr 22 1 r)]⟩
def CA (a b:Int) (c d:LL) (e:Int) (f g h i j k l m n o p q r:LL):St:=⟨225,[(2,.ptr 2 0),(3,.ptr 3 0),(4,.ptr 50013 0),(5,.ptr 50015 0),(6,.ptr 6 0),(10,dI a)],[(2,.box [.nil,.nil,.nil,.nil]),(3,.box [dI (0:Int),.nil,.nil,.nil,.nil,.nil,.nil,.nil]),(6,.box [dI b,.arr 50061,.arr 100061,.arr 150061,.arr 200061,.arr 250061,.arr 175,.arr 350061]),(175,.arr 73 5 c),(50013,.box [dL 1 d,dI e]),(50015,.box [.arr 100015,.arr 150015,.arr 200015,.arr 250015,.arr 300015,.arr 350015,.arr 400015]),(50061,.arr 57 5 f),(100015,.arr 9 1 g),(100061,.arr 95 2 h),(150015,.arr 9 1 i),(150061,.arr 68 4 j),(200015,.arr 70 5 k),(200061,.arr 65 7 l),(250015,.arr 113 6 m),(250061,.arr 46 4 n),(300015,.arr 22 1 o),(350015,.arr 22 1 p),(350061,.arr 75 3 q),(400015,.arr 22 1 r)]⟩
def B8 (a:Int) (b:Bool) (c:Int) (d e:LL) (f:Int) (g h i j k l m n o p q r s:LL):St:=⟨225,[(2,.ptr 2 0),(3,.ptr 3 0),(4,.ptr 50013 0),(5,.ptr 50015 0),(6,.ptr 6 0),(10,dI a),(180,dB b)],[(2,.box [.nil,.nil,.nil,.nil]),(3,.box [dI (0:Int),.nil,.nil,.nil,.nil,.nil,.nil,.nil]),(6,.box [dI c,.arr 50061,.arr 100061,.arr 150061,.arr 200061,.arr 250061,.arr 175,.arr 350061]),(175,.arr 73 5 d),(50013,.box [dL 1 e,dI f]),(50015,.box [.arr 100015,.arr 150015,.arr 200015,.arr 250015,.arr 300015,.arr 350015,.arr 400015]),(50061,.arr 57 5 g),(100015,.arr 9 1 h),(100061,.arr 95 2 i),(150015,.arr 9 1 j),(150061,.arr 68 4 k),(200015,.arr 70 5 l),(200061,.arr 65 7 m),(250015,.arr 113 6 n),(250061,.arr 46 4 o),(300015,.arr 22 1 p),(350015,.arr 22 1 q),(350061,.arr 75 3 r),(400015,.arr 22 1 s)]⟩
def Q40 (a:Int) (b c d e f g h i j k l:LL):St:=⟨225,[(2,.ptr 2 0),(3,.ptr 3 0)],[(2,.box [.arr 100015,.arr 150015,.arr 200015,.arr 250015]),(3,.box [dI a,.arr 50061,.arr 100061,.arr 150061,.arr 200061,.arr 250061,.arr 175,.arr 350061]),(175,.arr 73 5 b),(50061,.arr 57 5 c),(100015,.arr 9 1 d),(100061,.arr 95 2 e),(150015,.arr 9 1 f),(150061,.arr 68 4 g),(200015,.arr 70 5 h),(200061,.arr 65 7 i),(250015,.arr 113 6 j),(250061,.arr 46 4 k),(350061,.arr 75 3 l)]⟩
def Q3S (a b:Int) (c:LL) (d:Int) (e f g h i j k l m n o p q r:LL):St:=⟨225,[(2,.ptr 2 0),(3,.ptr 3 0),(4,.ptr 50013 0),(5,.ptr 50015 0),(6,.ptr 6 0),(10,dI a)],[(2,.box [.nil,.nil,.nil,.nil]),(3,.box [dI (0:Int),.nil,.nil,.nil,.nil,.nil,.nil,.nil]),(6,.box [dI b,.arr 50061,.arr 100061,.arr 150061,.arr 200061,.arr 250061,.arr 300061,.arr 350061]),(50013,.box [dL 1 c,dI d]),(50015,.box [.arr 100015,.arr 150015,.arr 200015,.arr 250015,.arr 300015,.arr 350015,.arr 400015]),(50061,.arr 57 5 e),(100015,.arr 9 1 f),(100061,.arr 95 2 g),(150015,.arr 9 1 h),(150061,.arr 68 4 i),(200015,.arr 70 5 j),(200061,.arr 65 7 k),(250015,.arr 113 6 l),(250061,.arr 46 4 m),(300015,.arr 22 1 n),(300061,.arr 73 5 o),(350015,.arr 22 1 p),(350061,.arr 75 3 q),(400015,.arr 22 1 r)]⟩
def Es (a:Int) (b:Bool) (c:Int) (d:LL) (e:Int) (f g h i j k l m n o p q r s:LL):St:=⟨225,[(2,.ptr 2 0),(3,.ptr 3 0),(4,.ptr 50013 0),(5,.ptr 50015 0),(6,.ptr 6 0),(10,dI a),(180,dB b)],[(2,.box [.nil,.nil,.nil,.nil]),(3,.box [dI (0:Int),.nil,.nil,.nil,.nil,.nil,.nil,.nil]),(6,.box [dI c,.arr 50061,.arr 100061,.arr 150061,.arr 200061,.arr 250061,.arr 300061,.arr 350061]),(50013,.box [dL 1 d,dI e]),(50015,.box [.arr 100015,.arr 150015,.arr 200015,.arr 250015,.arr 300015,.arr 350015,.arr 400015]),(50061,.arr 57 5 f),(100015,.arr 9 1 g),(100061,.arr 95 2 h),(150015,.arr 9 1 i),(150061,.arr 68 4 j),(200015,.arr 70 5 k),(200061,.arr 65 7 l),(250015,.arr 113 6 m),(250061,.arr 46 4 n),(300015,.arr 22 1 o),(350015,.arr 22 1 p),(350061,.arr 75 3 q),(400015,.arr 22 1 r),(300061,.arr 73 5 s)]⟩
def Q2g (a:Int) (b c d e f g h i j k l:LL):St:=⟨225,[(2,.ptr 2 0),(3,.ptr 3 0)],[(2,.box [.arr 100015,.arr 150015,.arr 200015,.arr 250015]),(3,.box [dI a,.arr 50061,.arr 100061,.arr 150061,.arr 200061,.arr 250061,.arr 300061,.arr 350061]),(50061,.arr 57 5 b),(100015,.arr 9 1 c),(100061,.arr 95 2 d),(150015,.arr 9 1 e),(150061,.arr 68 4 f),(200015,.arr 70 5 g),(200061,.arr 65 7 h),(250015,.arr 113 6 i),(250061,.arr 46 4 j),(350061,.arr 75 3 k),(300061,.arr 73 5 l)]⟩
def Qu (n:Nat):VC:=⟨QK [(8,Q0f n),(9,Q2R n),(10,ZT n),(11,G9 n),(12,MT n),(13,EE n),(14,Lr n)],gtt,[cO 0 [0,2,3] [2,3],cO 1 [2,3,4] [2,3,50013],cO 2 [2,3,4,5] (2::3::50013::rg5 50015 8 []),cO 3 (rg1 2 5 []) (2::3::6::37::50013::rg5 50015 8 []),(4,⟨(rg1 2 6 []),(zp (2::3::6::37::50013::rg5 50015 8 []) (2::3::6::37::50013::rg5 50015 8 [])),[],[(6,2,500602,95,2),(6,3,500603,68,4),(6,4,500604,65,7),(6,5,500605,46,4),(6,6,500606,73,5),(6,7,500607,75,3)],[]⟩),cO 5 (rg1 2 6 [43]) (2::3::6::37::50013::rg5 50015 8 (rg1 500602 6 [])),cO 6 (rg1 2 6 []) (2::3::6::50013::50015::rg5 50059 14 []),cO 7 (rg1 2 6 []) (2::3::6::50013::50015::rg5 50059 14 []),cO 8 (rg1 2 5 []) [2,3,6,50013,50015,50061,100015,100061,150015,150061,200015,200061,250015,250061,300015,300061,350015,350061,400015],cO 9 (rg1 2 5 [8]) [2,3,6,50013,50015,50061,100015,100061,150015,150061,200015,200061,250015,250061,300015,300061,350015,350061,400015],cO 10 (rg1 2 5 [8,71]) [2,3,6,50013,50015,50061,100015,100061,150015,150061,200015,200061,250015,250061,300015,300061,350015,350061,400015],cO 11 (rg1 2 5 [8]) [2,3,6,156,50013,50015,50061,100015,100061,150015,150061,200015,250015,250061,300015,300061,350015,350061,400015,200061],cO 12 (rg1 2 5 [8,9]) [2,3,6,9,50013,50015,50061,100015,100061,150015,150061,200015,200061,250015,250061,300015,300061,350015,350061,400015],cO 13 (rg1 2 5 [8,9]) [2,3,6,9,50013,50015,50061,100015,100061,150015,150061,200015,200061,250015,250061,300015,300061,350015,350061,400015],cO 14 (rg1 2 5 [8,9]) [2,3,6,9,50013,50015,50061,100015,100061,150015,150061,200015,200061,250015,250061,300015,300061,350015,350061,400015],cO 15 (rg1 2 5 [8,9]) [2,3,6,9,50013,50015,50061,100015,100061,150015,150061,200015,200061,250015,250061,300015,300061,350015,350061,400015],cO 16 (rg1 2 5 [8,9]) [2,3,6,9,50013,50015,50061,100015,100061,150015,150061,200015,200061,250015,250061,300015,300061,350015,350061,400015],cO 17 (rg1 2 5 [8,9,151]) [2,3,6,9,50013,50015,50061,100015,100061,150015,150061,200015,200061,250015,250061,300015,300061,350015,350061,400015],cO 18 (rg1 2 5 [8]) [2,3,6,156,50013,50015,50061,100015,100061,150015,150061,200015,250015,250061,300015,300061,350015,350061,400015],cO 19 (rg1 2 5 [166]) [2,3,6,50013,50015,50061,100015,100061,150015,150061,200015,200061,250015,250061,300015,300061,350015,350061,400015],cO 20 (rg1 2 5 []) [2,3,6,175,50013,50015,50061,100015,100061,150015,150061,200015,200061,250015,250061,300015,350015,350061,400015],cO 21 (rg1 2 5 [10]) [2,3,6,175,50013,50015,50061,100015,100061,150015,150061,200015,200061,250015,250061,300015,350015,350061,400015,300061],cO 22 (rg1 2 5 [10,180]) [2,3,6,175,50013,50015,50061,100015,100061,150015,150061,200015,200061,250015,250061,300015,350015,350061,400015,300061],cO 23 (rg1 2 5 [10]) [2,3,6,175,218,50013,50015,50061,100015,100061,150015,150061,200015,200061,250015,250061,300015,350015,400015,300061],cO 24 (rg1 2 5 [10,11]) [2,3,6,175,50013,50015,50061,100015,100061,150015,150061,200015,200061,250015,250061,300015,350015,350061,400015,300061],cO 25 (rg1 2 5 [10]) [2,3,6,175,218,50013,50015,50061,100015,100061,150015,150061,200015,200061,250015,250061,300015,350015,400015,300061],cO 26 [2,3] [2,3,175,50061,100015,100061,150015,150061,200015,200061,250015,250061,350061,300061],(3000000005,⟨(rg1 2 6 []),(zp [2,3,6,37,400059,50013,50015,50059,100015,100059,150015,150059,200015,200059,250015,250059,300015,300059,350015,350059,400015,450059,500602,500059,500603,500604,550059,500605,600059,500606,650059,500607,700059] [2,3,6,37,37,50013,50015,100015,100015,150015,150015,200015,200015,250015,250015,300015,300015,350015,350015,400015,400015,500602,500602,500603,500603,500604,500604,500605,500605,500606,500606,500607,500607]),[],[],[]⟩),(3000000010,⟨(rg1 2 5 [8]),(zp [2,3,6,50013,50015,50061,100015,100061,150015,150061,200015,156,200061,250015,250061,300015,300061,350015,350061,400015] [2,3,6,50013,50015,50061,100015,100061,150015,150061,200015,200061,200061,250015,250061,300015,300061,350015,350061,400015]),[],[],[]⟩),(3000000022,⟨(rg1 2 5 [10]),(zp [2,3,6,175,50013,50015,50061,100015,100061,150015,150061,200015,200061,250015,250061,300015,300061,350015,218,350061,400015] [2,3,6,175,50013,50015,50061,100015,100061,150015,150061,200015,200061,250015,250061,300015,300061,350015,350061,350061,400015]),[],[],[]⟩)]⟩
theorem Q9l (n:Nat):VCOk Tryz.prog (Qu n):=gVC (Qe ⟨Q98 n,⟨QaZ n,⟨V0 n,⟨Dc n,⟨Q4k n,⟨Q3Q n,⟨Q2c n,trivial⟩⟩⟩⟩⟩⟩⟩)
theorem Q6d (n:Nat) (a0:LL) (k:Exit→St→Option R):Qi (Qu n) n Bc ⟨225,[(0,dL 1 a0)],[]⟩ k=Lt n a0 (fun a b c d e f g h i j l m=>X7 (lB (Qu n) n LJ) n ⟨225,[(2,.ptr 2 0),(3,.ptr 3 0),(4,.ptr 50013 0),(5,.ptr 50015 0),(6,.ptr 6 0),(7,dI a)],[(500607,.arr 75 3 []),(6,.box [dI b,.arr 37,.arr 500602,.arr 500603,.arr 500604,.arr 500605,.arr 500606,.arr 500607]),(500606,.arr 73 5 []),(500605,.arr 46 4 []),(500604,.arr 65 7 []),(500603,.arr 68 4 []),(500602,.arr 95 2 []),(2,.box [.nil,.nil,.nil,.nil]),(3,.box [dI (0:Int),.nil,.nil,.nil,.nil,.nil,.nil,.nil]),(37,.arr 57 5 c),(50013,.box [dL 1 d,dI e]),(50015,.box [.arr 100015,.arr 150015,.arr 200015,.arr 250015,.arr 300015,.arr 350015,.arr 400015]),(100015,.arr 9 1 f),(150015,.arr 9 1 g),(200015,.arr 70 5 h),(250015,.arr 113 6 i),(300015,.arr 22 1 j),(350015,.arr 22 1 l),(400015,.arr 22 1 m)]⟩ (Q9 0 (Xf (Qu n) n LD k))):=by kernel_rfl
theorem Q5u (n:Nat) (a b:Int) (c d:LL) (e:Int) (f g h i j l m o p q r s t:LL) (k:Exit→St→Option R):Qi (Qu n) n LJ (Q3X a b c d e f g h i j l m o p q r s t) k=RM n a b c d e f g h i j l m o p q r s t (fun u v w x y z aa ab ac ad ae af ag ah ai aj ak al=>k .normal ⟨225,[(2,.ptr 2 0),(3,.ptr 3 0),(4,.ptr 50013 0),(5,.ptr 50015 0),(6,.ptr 6 0),(7,dI u)],[(2,.box [.nil,.nil,.nil,.nil]),(3,.box [dI (0:Int),.nil,.nil,.nil,.nil,.nil,.nil,.nil]),(6,.box [dI v,.arr 400059,.arr 450059,.arr 500059,.arr 550059,.arr 600059,.arr 650059,.arr 700059]),(50013,.box [dL 1 w,dI x]),(50015,.box [.arr 50059,.arr 100059,.arr 150059,.arr 200059,.arr 250059,.arr 300059,.arr 350059]),(50059,.arr 9 1 y),(100059,.arr 9 1 z),(150059,.arr 70 5 aa),(200059,.arr 113 6 ab),(250059,.arr 22 1 ac),(300059,.arr 22 1 ad),(350059,.arr 22 1 ae),(400059,.arr 57 5 af),(450059,.arr 95 2 ag),(500059,.arr 68 4 ah),(550059,.arr 65 7 ai),(600059,.arr 46 4 aj),(650059,.arr 73 5 ak),(700059,.arr 75 3 al)]⟩) (fun am=>k (.exit 0) (CP a am b c d e f g h i j l m o p q r s t)):=by kernel_rfl
theorem Cu (n:Nat)  (k:Exit→St→Option R):∀ (m:Nat) (a b:Int) (c d:LL) (e:Int) (f g h i j l o p q r s t u:LL),X7 (lB (Qu n) n LJ) m (Q3X a b c d e f g h i j l o p q r s t u) k=KD n  (fun a v b c d e f g h i j l o p q r s t u=>k (.exit 0) (CP a v b c d e f g h i j l o p q r s t u)) m a b c d e f g h i j l o p q r s t u
 | 0,_,_,_,_,_,_,_,_,_,_,_,_,_,_,_,_,_,_=>rfl
 | m+1,a,b,c,d,e,f,g,h,i,j,l,o,p,q,r,s,t,u=>(lS (by kernel_rfl) m k).trans ((Q5u n a b c d e f g h i j l o p q r s t u (WB (lB (Qu n) n LJ) m k)).trans (cg2 (fun w x=>RM n a b c d e f g h i j l o p q r s t u w x ) (funext fun y=>funext fun z=>funext fun aa=>funext fun ab=>funext fun ac=>funext fun ad=>funext fun ae=>funext fun af=>funext fun ag=>funext fun ah=>funext fun ai=>funext fun aj=>funext fun ak=>funext fun al=>funext fun am=>funext fun an=>funext fun ao=>funext fun ap=>(XM (by kernel_rfl) m k).trans (Cu n  k m y z aj aa ab ac ad ae af ag ah ai ak al am an ao ap)) rfl))
theorem Q6a (n:Nat) (h:Int) (i:Bool) (j:Int) (l m:LL) (o:Int) (a b c d e f g p q r s t u:LL) (k:Exit→St→Option R):(Q9 0 (Xf (Qu n) n LD k)) (.exit 0) (CP h i j l m o a b c d e f g p q r s t u)=LC n h i j l m o a b c d e f g p q r s t u (fun v w x y z aa ab ac ad ae af=>X7 (lB (Qu n) n LV) n (Bu v w x y z a aa b ab c ac d ad e ae f af g) (Q9 2 (Xf (Qu n) n Lq k))):=by kernel_rfl
theorem Q5x (n:Nat) (r a:Int) (s:LL) (t:Int) (b c d e f g q h i j l m o p:LL) (k:Exit→St→Option R):Qi (Qu n) n LV (Bu r a s t b c d e f g q h i j l m o p) k=RB n r a s t b c d e f g q h i j l m o p (fun u v w x=>k .normal ⟨225,[(2,.ptr 2 0),(3,.ptr 3 0),(4,.ptr 50013 0),(5,.ptr 50015 0),(6,.ptr 6 0),(8,dI u)],[(2,.box [.nil,.nil,.nil,.nil]),(3,.box [dI (0:Int),.nil,.nil,.nil,.nil,.nil,.nil,.nil]),(6,.box [dI a,.arr 50061,.arr 100061,.arr 150061,.arr 156,.arr 250061,.arr 300061,.arr 350061]),(156,.arr 65 7 v),(50013,.box [dL 1 w,dI x]),(50015,.box [.arr 100015,.arr 150015,.arr 200015,.arr 250015,.arr 300015,.arr 350015,.arr 400015]),(50061,.arr 57 5 b),(100015,.arr 9 1 c),(100061,.arr 95 2 d),(150015,.arr 9 1 e),(150061,.arr 68 4 f),(200015,.arr 70 5 g),(250015,.arr 113 6 h),(250061,.arr 46 4 i),(300015,.arr 22 1 j),(300061,.arr 73 5 l),(350015,.arr 22 1 m),(350061,.arr 75 3 o),(400015,.arr 22 1 p)]⟩) (fun y z aa=>k .normal ⟨225,[(2,.ptr 2 0),(3,.ptr 3 0),(4,.ptr 50013 0),(5,.ptr 50015 0),(6,.ptr 6 0),(8,dI y)],[(2,.box [.nil,.nil,.nil,.nil]),(3,.box [dI (0:Int),.nil,.nil,.nil,.nil,.nil,.nil,.nil]),(6,.box [dI a,.arr 50061,.arr 100061,.arr 150061,.arr 200061,.arr 250061,.arr 300061,.arr 350061]),(50013,.box [dL 1 z,dI aa]),(50015,.box [.arr 100015,.arr 150015,.arr 200015,.arr 250015,.arr 300015,.arr 350015,.arr 400015]),(50061,.arr 57 5 b),(100015,.arr 9 1 c),(100061,.arr 95 2 d),(150015,.arr 9 1 e),(150061,.arr 68 4 f),(200015,.arr 70 5 g),(250015,.arr 113 6 h),(250061,.arr 46 4 i),(300015,.arr 22 1 j),(300061,.arr 73 5 l),(350015,.arr 22 1 m),(350061,.arr 75 3 o),(400015,.arr 22 1 p),(200061,.arr 65 7 q)]⟩) (fun ab=>k (.exit 2) (RF r ab a s t b c d e f g q h i j l m o p)):=by kernel_rfl
theorem NY (n:Nat) (b:Int) (c d e f g h i j l o p q r:LL) (k:Exit→St→Option R):∀ (m:Nat) (s:Int) (t:LL) (u:Int) (a:LL),X7 (lB (Qu n) n LV) m (Bu s b t u c d e f g h a i j l o p q r) k=Js n b c d e f g h i j l o p q r (fun s v t u a=>k (.exit 2) (RF s v b t u c d e f g h a i j l o p q r)) m s t u a
 | 0,_,_,_,_=>rfl
 | m+1,s,t,u,a=>(lS (by kernel_rfl) m k).trans ((Q5x n s b t u c d e f g h a i j l o p q r (WB (lB (Qu n) n LV) m k)).trans (cg3 (fun w x y=>RB n s b t u c d e f g h a i j l o p q r w x y ) (funext fun z=>funext fun aa=>funext fun ab=>funext fun ac=>(XM (by kernel_rfl) m k).trans (NY n b c d e f g h i j l o p q r k m z ab ac aa)) (funext fun ad=>funext fun ae=>funext fun af=>(XM (by kernel_rfl) m k).trans (NY n b c d e f g h i j l o p q r k m ad ae af a)) rfl))
theorem Q5Q (n:Nat) (a:Int) (b:Bool) (c:Int) (d:LL) (e:Int) (f g h i j l m o p q r s t u:LL) (k:Exit→St→Option R):(Q9 2 (Xf (Qu n) n Lq k)) (.exit 2) (RF a b c d e f g h i j l m o p q r s t u)=LQ n a b c d e f g h i j l m o p q r s t u (Qi (Qu n) n Q3Z (RF a b c d e f g h i j l m o p q r s t u) (Xf (Qu n) n LA k)):=by kernel_rfl
theorem Q6h (n:Nat) (r:Int) (s:Bool) (a:Int) (t:LL) (u:Int) (b c d e f g h i j l q m o p:LL) (k:Exit→St→Option R):Qi (Qu n) n Q3Z (RF r s a t u b c d e f g h i j l q m o p) k=Lw n r s a t u b c d e f g h i j l q m o p (fun v w x=>k .normal (Q3T a v w x b c d e f g h i j l m o p)) (fun y z aa=>k .normal (Q3B y a z aa b c d e f g h i j l q m o p)):=by kernel_rfl
theorem Q5W (n:Nat) (a:Int) (b r:LL) (s:Int) (c d e f g h i j l m o p q:LL) (k:Exit→St→Option R):(Xf (Qu n) n LA k) .normal (Q3T a b r s c d e f g h i j l m o p q)=LT n a b r s c d e f g h i j l m o p q (fun t u v=>X7 (lB (Qu n) n Jt) n (CA t a b u v c d e f g h i j l m o p q) (Q9 4 (Xf (Qu n) n Jw k))):=by kernel_rfl
theorem Q4i (n:Nat) (q a:Int) (b r:LL) (s:Int) (c d e f g h i j l m o t p:LL) (k:Exit→St→Option R):Qi (Qu n) n Jt (CA q a b r s c d e f g h i j l m o t p) k=PZ n q a b r s c d e f g h i j l m o t p (fun u v w x=>k .normal ⟨225,[(2,.ptr 2 0),(3,.ptr 3 0),(4,.ptr 50013 0),(5,.ptr 50015 0),(6,.ptr 6 0),(10,dI u)],[(2,.box [.nil,.nil,.nil,.nil]),(3,.box [dI (0:Int),.nil,.nil,.nil,.nil,.nil,.nil,.nil]),(6,.box [dI a,.arr 50061,.arr 100061,.arr 150061,.arr 200061,.arr 250061,.arr 175,.arr 218]),(175,.arr 73 5 b),(218,.arr 75 3 v),(50013,.box [dL 1 w,dI x]),(50015,.box [.arr 100015,.arr 150015,.arr 200015,.arr 250015,.arr 300015,.arr 350015,.arr 400015]),(50061,.arr 57 5 c),(100015,.arr 9 1 d),(100061,.arr 95 2 e),(150015,.arr 9 1 f),(150061,.arr 68 4 g),(200015,.arr 70 5 h),(200061,.arr 65 7 i),(250015,.arr 113 6 j),(250061,.arr 46 4 l),(300015,.arr 22 1 m),(350015,.arr 22 1 o),(400015,.arr 22 1 p)]⟩) (fun y=>k (.exit 4) (B8 q y a b r s c d e f g h i j l m o t p)):=by kernel_rfl
theorem DA (n:Nat) (e:Int) (f g h i j l o p q r s t u:LL) (k:Exit→St→Option R):∀ (m:Nat) (a:Int) (b:LL) (c:Int) (d:LL),X7 (lB (Qu n) n Jt) m (CA a e f b c g h i j l o p q r s t d u) k=JG n e f g h i j l o p q r s t u (fun a v b c d=>k (.exit 4) (B8 a v e f b c g h i j l o p q r s t d u)) m a b c d
 | 0,_,_,_,_=>rfl
 | m+1,a,b,c,d=>(lS (by kernel_rfl) m k).trans ((Q4i n a e f b c g h i j l o p q r s t d u (WB (lB (Qu n) n Jt) m k)).trans (cg2 (fun w x=>PZ n a e f b c g h i j l o p q r s t d u w x ) (funext fun y=>funext fun z=>funext fun aa=>funext fun ab=>(XM (by kernel_rfl) m k).trans (DA n e f g h i j l o p q r s t u k m y aa ab z)) rfl))
theorem Q4u (n:Nat) (o:Int) (p:Bool) (a:Int) (b q:LL) (r:Int) (c d e f g h i j l s t m u:LL) (k:Exit→St→Option R):(Q9 4 (Xf (Qu n) n Jw k)) (.exit 4) (B8 o p a b q r c d e f g h i j l s t m u)=Dm n o p a b q r c d e f g h i j l s t m u (k .ret (Q40 a b c d e f g h i j l m)):=by kernel_rfl
theorem Q4o (n:Nat) (r:Bool) (a:Int) (s:LL) (t:Int) (b c d e f g h i j l m o p q:LL) (k:Exit→St→Option R):(Xf (Qu n) n LA k) .normal (Q3B r a s t b c d e f g h i j l m o p q)=NI n r a s t b c d e f g h i j l m o p q (fun u v w=>X7 (lB (Qu n) n Jt) n ⟨225,[(2,.ptr 2 0),(3,.ptr 3 0),(4,.ptr 50013 0),(5,.ptr 50015 0),(6,.ptr 6 0),(10,dI u)],[(2,.box [.nil,.nil,.nil,.nil]),(3,.box [dI (0:Int),.nil,.nil,.nil,.nil,.nil,.nil,.nil]),(6,.box [dI a,.arr 50061,.arr 100061,.arr 150061,.arr 200061,.arr 250061,.arr 300061,.arr 350061]),(50013,.box [dL 1 v,dI w]),(50015,.box [.arr 100015,.arr 150015,.arr 200015,.arr 250015,.arr 300015,.arr 350015,.arr 400015]),(50061,.arr 57 5 b),(100015,.arr 9 1 c),(100061,.arr 95 2 d),(150015,.arr 9 1 e),(150061,.arr 68 4 f),(200015,.arr 70 5 g),(200061,.arr 65 7 h),(250015,.arr 113 6 i),(250061,.arr 46 4 j),(300015,.arr 22 1 l),(350015,.arr 22 1 o),(350061,.arr 75 3 p),(400015,.arr 22 1 q),(300061,.arr 73 5 m)]⟩ (Q9 4 (Xf (Qu n) n Jw k))):=by kernel_rfl
theorem Q4L (n:Nat) (q a:Int) (r:LL) (s:Int) (b c d e f g h i j l m o t p:LL) (k:Exit→St→Option R):Qi (Qu n) n Jt (Q3S q a r s b c d e f g h i j l m o t p) k=Py n q a r s b c d e f g h i j l m o t p (fun u v w x=>k .normal ⟨225,[(2,.ptr 2 0),(3,.ptr 3 0),(4,.ptr 50013 0),(5,.ptr 50015 0),(6,.ptr 6 0),(10,dI u)],[(2,.box [.nil,.nil,.nil,.nil]),(3,.box [dI (0:Int),.nil,.nil,.nil,.nil,.nil,.nil,.nil]),(6,.box [dI a,.arr 50061,.arr 100061,.arr 150061,.arr 200061,.arr 250061,.arr 300061,.arr 218]),(218,.arr 75 3 v),(50013,.box [dL 1 w,dI x]),(50015,.box [.arr 100015,.arr 150015,.arr 200015,.arr 250015,.arr 300015,.arr 350015,.arr 400015]),(50061,.arr 57 5 b),(100015,.arr 9 1 c),(100061,.arr 95 2 d),(150015,.arr 9 1 e),(150061,.arr 68 4 f),(200015,.arr 70 5 g),(200061,.arr 65 7 h),(250015,.arr 113 6 i),(250061,.arr 46 4 j),(300015,.arr 22 1 l),(350015,.arr 22 1 o),(400015,.arr 22 1 p),(300061,.arr 73 5 m)]⟩) (fun y=>k (.exit 4) (Es q y a r s b c d e f g h i j l o t p m)):=by kernel_rfl
theorem Du (n:Nat) (e:Int) (f g h i j l o p q r s t u:LL) (k:Exit→St→Option R):∀ (m:Nat) (a:Int) (b:LL) (c:Int) (d:LL),X7 (lB (Qu n) n Jt) m (Q3S a e b c f g h i j l o p q r s t d u) k=JR n e f g h i j l o p q r s t u (fun a v b c d=>k (.exit 4) (Es a v e b c f g h i j l o p q r t d u s)) m a b c d
 | 0,_,_,_,_=>rfl
 | m+1,a,b,c,d=>(lS (by kernel_rfl) m k).trans ((Q4L n a e b c f g h i j l o p q r s t d u (WB (lB (Qu n) n Jt) m k)).trans (cg2 (fun w x=>Py n a e b c f g h i j l o p q r s t d u w x ) (funext fun y=>funext fun z=>funext fun aa=>funext fun ab=>(XM (by kernel_rfl) m k).trans (Du n e f g h i j l o p q r s t u k m y aa ab z)) rfl))
theorem Q4t (n:Nat) (o:Int) (p:Bool) (a:Int) (q:LL) (r:Int) (b c d e f g h i j s t l u m:LL) (k:Exit→St→Option R):(Q9 4 (Xf (Qu n) n Jw k)) (.exit 4) (Es o p a q r b c d e f g h i j s t l u m)=Em n o p a q r b c d e f g h i j s t l u m (k .ret (Q2g a b c d e f g h i j l m)):=by kernel_rfl
theorem Q4A (n:Nat) (a0:LL) (k:Exit→St→Option R):Qi (Qu n) n Bc ⟨225,[(0,dL 1 a0)],[]⟩ k=Di n a0 (fun e s f a g b h c l d i x=>k .ret (Q40 e s f a g b h c l d i x)) (fun e f a g b h c l d i y r=>k .ret (Q2g e f a g b h c l d i y r)):=
 (Q6d n a0 k).trans (cg1 (fun j=>Lt n a0 j ) (funext fun z=>funext fun aa=>funext fun ab=>funext fun ac=>funext fun ad=>funext fun ae=>funext fun af=>funext fun ag=>funext fun ah=>funext fun ai=>funext fun aj=>funext fun ak=>((XM (by kernel_rfl) n (Q9 0 (Xf (Qu n) n LD k))).trans (Cu n  (Q9 0 (Xf (Qu n) n LD k)) n z aa ab ac ad ae af ag ah ai aj ak [] [] [] [] [] [])).trans (cg1 (fun j=>KD n j n z aa ab ac ad ae af ag ah ai aj ak [] [] [] [] [] []) (funext fun al=>funext fun am=>funext fun an=>funext fun ao=>funext fun ap=>funext fun aq=>funext fun a=>funext fun b=>funext fun c=>funext fun d=>funext fun m=>funext fun o=>funext fun p=>funext fun ar=>funext fun au=>funext fun av=>funext fun aw=>funext fun ax=>funext fun ay=>(Q6a n al am an ao ap aq a b c d m o p ar au av aw ax ay k).trans (cg1 (fun j=>LC n al am an ao ap aq a b c d m o p ar au av aw ax ay j ) (funext fun az=>funext fun e=>funext fun ba=>funext fun bb=>funext fun f=>funext fun g=>funext fun h=>funext fun bc=>funext fun i=>funext fun r=>funext fun q=>((XM (by kernel_rfl) n (Q9 2 (Xf (Qu n) n Lq k))).trans (NY n e f a g b h c d i m r o q p (Q9 2 (Xf (Qu n) n Lq k)) n az ba bb bc)).trans (cg1 (fun j=>Js n e f a g b h c d i m r o q p j n az ba bb bc) (funext fun t=>funext fun u=>funext fun v=>funext fun w=>funext fun l=>(Q5Q n t u e v w f a g b h c l d i m r o q p k).trans (cg1 (fun j=>LQ n t u e v w f a g b h c l d i m r o q p j ) ((Q6h n t u e v w f a g b h c l d i m r o q p (Xf (Qu n) n LA k)).trans (cg2 (fun j x1=>Lw n t u e v w f a g b h c l d i m r o q p j x1 ) (funext fun s=>funext fun bd=>funext fun be=>(Q5W n e s bd be f a g b h c l d i m o q p k).trans (cg1 (fun j=>LT n e s bd be f a g b h c l d i m o q p j ) (funext fun bf=>funext fun bg=>funext fun bh=>((XM (by kernel_rfl) n (Q9 4 (Xf (Qu n) n Jw k))).trans (DA n e s f a g b h c l d i m o p (Q9 4 (Xf (Qu n) n Jw k)) n bf bg bh q)).trans (cg1 (fun j=>JG n e s f a g b h c l d i m o p j n bf bg bh q) (funext fun bp=>funext fun bq=>funext fun br=>funext fun bt=>funext fun x=>(Q4u n bp bq e s br bt f a g b h c l d i m o x p k)))))) (funext fun bi=>funext fun bj=>funext fun bk=>(Q4o n bi e bj bk f a g b h c l d i m r o q p k).trans (cg1 (fun j=>NI n bi e bj bk f a g b h c l d i m r o q p j ) (funext fun bl=>funext fun bm=>funext fun bn=>((XM (by kernel_rfl) n (Q9 4 (Xf (Qu n) n Jw k))).trans (Du n e f a g b h c l d i m r o p (Q9 4 (Xf (Qu n) n Jw k)) n bl bm bn q)).trans (cg1 (fun j=>JR n e f a g b h c l d i m r o p j n bl bm bn q) (funext fun bu=>funext fun bv=>funext fun bx=>funext fun bz=>funext fun y=>(Q4t n bu bv e bx bz f a g b h c l d i m o y p r k)))))))))))))))))
theorem Q8f (n:Nat) (a0:LL) (K:AV→Option R):vfn (Qu n) n Tryz.f4 [.d (D.sl 1 a0)] [] (Wc [[1,1,5,6],[0,5,2,4,7,4,5,3]] K)=CG n a0 (fun a c r2 r3 d e f g h i j k=>K (.tup [.ag [.d (D.sl 1 a),.d (D.sl 1 c),.d (D.sl 5 r2),.d (D.sl 6 r3)],.ag [.d (D.int .i64 d),.d (D.sl 5 e),.d (D.sl 2 f),.d (D.sl 4 g),.d (D.sl 7 h),.d (D.sl 4 i),.d (D.sl 5 j),.d (D.sl 3 k)]])):=
 Eq.trans (b:=Qi (Qu n) n Bc ⟨225,[(0,dL 1 a0)],[]⟩ (K3 gtt [.cell 2 27,.cell 3 36] (Wc [[1,1,5,6],[0,5,2,4,7,4,5,3]] K))) VP ((Q4A n a0 (K3 gtt [.cell 2 27,.cell 3 36] (Wc [[1,1,5,6],[0,5,2,4,7,4,5,3]] K))).trans (by kernel_rfl))
def Q10:AV→Option (LL × LL × LL × LL × Int × LL × LL × LL × LL × LL × LL × LL):=fun av=>match av with
 | .tup [.ag [.d (D.sl 1 a),.d (D.sl 1 b),.d (D.sl 5 r2),.d (D.sl 6 r3)],.ag [.d (D.int .i64 c),.d (D.sl 5 d),.d (D.sl 2 e),.d (D.sl 4 f),.d (D.sl 7 g),.d (D.sl 4 h),.d (D.sl 5 i),.d (D.sl 3 j)]]=>some (a,b,r2,r3,c,d,e,f,g,h,i,j)
 | _=>none
def Q11 (n:Nat):XH:=fun _ _ g avs _ k=>match avs with
 | [c0]=>prS g 1 c0 fun a0=>
  gb g (CG n a0 (fun a b r2 r3 c d e f h i j l=>some (a,b,r2,r3,c,d,e,f,h,i,j,l))) ([],[],[],[],0,[],[],[],[],[],[],[]) fun r=>k ⟨.tup [.ag [.d (D.sl 1 r.1),.d (D.sl 1 r.2.1),.d (D.sl 5 r.2.2.1),.d (D.sl 6 r.2.2.2.1)],.ag [.d (D.int .i64 r.2.2.2.2.1),.d (D.sl 5 r.2.2.2.2.2.1),.d (D.sl 2 r.2.2.2.2.2.2.1),.d (D.sl 4 r.2.2.2.2.2.2.2.1),.d (D.sl 7 r.2.2.2.2.2.2.2.2.1),.d (D.sl 4 r.2.2.2.2.2.2.2.2.2.1),.d (D.sl 5 r.2.2.2.2.2.2.2.2.2.2.1),.d (D.sl 3 r.2.2.2.2.2.2.2.2.2.2.2)]],[],[]⟩
 | _=>none
theorem Q9H (n:Nat):Qo Tryz.prog 4 (Q11 n):=by
  intro R site g avs hl k r h
  unfold Q11 at h
  split at h
  rotate_left
  · cases h
  obtain ⟨a0,h,a⟩:=Q1 h
  obtain ⟨res,h,hr⟩:=Qc h
  refine ⟨_,h,fun hg=>QI.conv (avs':=[.d (D.sl 1 a0)]) (.cons (a hg) (.nil)) (QE (K:=Q10) (res:=res) (Q9l n) (fn:=Tryz.f4) (n:=n) (ss:=[[1,1,5,6],[0,5,2,4,7,4,5,3]]) ?_ ?_)⟩
  · exact (Q8f n a0 Q10).trans (hr hg)
  · intro x hx
    unfold Q10 at hx
    split at hx
    · injection hx with hx;subst hx;rfl
    · cases hx

end Go.Vx
namespace Go.Vx
open Go.RowKit Go.Maps Go.WideMaps
theorem Zb {P:Program} {f:Nat} {e:XH} (hE:Qo P f e) {avs:List AV} {dl:Dl} (h:e Dl 0 true avs (fun _=>none) some=some dl):QI P f avs (fun _=>none) dl:=by
  obtain ⟨d,k1,a⟩:=hE Dl 0 true avs _ some dl h
  cases k1
  exact a rfl
theorem Q50 {P:Program} {f:Nat} {avs:List AV} {hl:Nat→Option Ob} {av:AV} (h:QI P f avs hl ⟨av,[],[]⟩) {S:Nat→Prop} {w:World} (hS:∀ b,S b→b<w.heap.size) {args:List Value} (hA:ArgsRd (fun _=>none) S (fun _=>none) w args avs) :
    Calls P f args.toArray w fun e w'=>∃ v S',e = .returned v∧RdA (fun _=>none) S' (fun _=>none) w' tm0 v av∧RowKit.Below w.heap.size w w':=by
  refine (h.2 (fun _=>none) S (fun _=>none) w args ⟨fun l o h=>(by cases h),fun l l' b h=>(by cases h),fun l b h=>(by cases h),hS⟩ hA (fun l hl=>(by rcases hl with hl | hl <;> simp [wrL] at hl))).mono fun e w' ⟨v,β',S',he,hc⟩=>?_
  have hβ:β'=fun _=>none:=funext fun l=>hc.bsame l (by simp [wrL])
  subst hβ
  refine ⟨v,S',he,?_,⟨hc.fr.os,hc.fr.tape,hc.fr.output,hc.fr.size,fun b hb=>hc.fr.block b hb (fun ⟨l,a,_⟩=>by simp [wrL] at a)⟩⟩
  exact hc.res.mono (fun _ h=>h) (fun _ _=>rfl) (fun l _=>⟨rfl,fun h=>h,fun e s rows h=>(by cases h),fun b cs ty fz h=>(by cases h)⟩) (fun _ _=>rfl)
theorem FH {P:Program} {f:Nat} {avs:List AV} {hl:Nat→Option Ob} {r:Bool} (h:QI P f avs hl ⟨.d (D.bool r),[],[]⟩) {S:Nat→Prop} {w:World} (hS:∀ b,S b→b<w.heap.size) {args:List Value} (hA:ArgsRd (fun _=>none) S (fun _=>none) w args avs) :
    Calls P f args.toArray w fun e w'=>e = .returned (.bool r)∧RowKit.Below w.heap.size w w':=by
  refine (Q50 h hS hA).mono fun e w' ⟨v,S',he,hr,hb⟩=>⟨?_,hb⟩
  cases hr with
  | d v x hx=>cases hx;exact he
  | dang v av l hl=>cases hl
theorem P0 {P:Program} {f:Nat} {avs:List AV} {hl:Nat→Option Ob} {k:IntKind} {r:Int} (h:QI P f avs hl ⟨.d (D.int k r),[],[]⟩) {S:Nat→Prop} {w:World} (hS:∀ b,S b→b<w.heap.size) {args:List Value} (hA:ArgsRd (fun _=>none) S (fun _=>none) w args avs) :
    Calls P f args.toArray w fun e w'=>e = .returned (.int k r)∧RowKit.Below w.heap.size w w':=by
  refine (Q50 h hS hA).mono fun e w' ⟨v,S',he,hr,hb⟩=>⟨?_,hb⟩
  cases hr with
  | d v x hx=>cases hx;exact he
  | dang v av l hl=>cases hl
def Q8S (w:World) (P:Program) (b n:Nat) (seen:List (List UInt8)):Prop:=
  ∃ D:DataW Unit,w.ownsMap P 9 (plainElem P 4) b n D∧Go.Maps.IsMap D∧∀ s,D.atKey (.string s) (.lit (.bool false)) = .lit (.bool (seen.contains s))
theorem Q8S.made (P:Program) (w:World):Q8S (w.alloc (.map #[] 0)) P w.heap.size 0 []:=
  ⟨.map [],World.ownsMap_made w P 9 _,Go.Maps.isMap_empty,fun s=>rfl⟩
section
variable {P:Program} (h9:P.underlying 9=some .string) (h4:P.underlying 4=some .bool) {T:TypeId} (hT:P.underlying T=some (.map 9 4))
include h9 h4 hT
theorem Q8S.lookup {w:World} {b n:Nat} {seen:List (List UInt8)} (h:Q8S w P b n seen) (hz:(zeroValue 4).run P w = .ok (.bool false) w) {s:List UInt8} (hs:s.length≤maxLen) :
    (Instr.lookup T (.map (some b)) (.string ⟨⟨s⟩⟩) false).run P w = .ok (.bool (seen.contains s)) w:=by
  obtain ⟨D,hD,_,hat⟩:=h
  obtain ⟨v,ps,hrun,hv⟩:=hD.lookup (string_keyed h9) hT hz (zd:=.lit (.bool false)) (zp:=[]) (plainElem_bool h4 false) (keyOf_string_mk (s:=⟨⟨s⟩⟩) h9 hs)
  have e:=hat s
  simp only at hv
  rw [e] at hv
  unfold plainElem at hv
  rw [h4] at hv
  cases v <;> simp at hv
  rw [hrun,hv.1]
  simp
theorem Q8S.update {w:World} {b n:Nat} {seen:List (List UInt8)} (h:Q8S w P b n seen) (hn:n<maxLen) {s:List UInt8} (hs:s.length≤maxLen) :
    ∃ w',(Instr.mapUpdate T (.map (some b)) (.string ⟨⟨s⟩⟩) (.bool true)).run P w = .ok () w'∧Q8S w' P b (n+1) (s::seen)∧w.grownBy w' (some b):=by
  obtain ⟨D,hD,hm,hat⟩:=h
  obtain ⟨w',hrun,hown,hg⟩:=hD.update (string_keyed h9) hT hn (keyOf_string_mk (s:=⟨⟨s⟩⟩) h9 hs) (plainElem_bool (H:=Unit) h4 true)
  refine ⟨w',hrun,⟨_,hown,hm.put _ _,fun t=>?_⟩,hg⟩
  have hk:WideAt.IsKeyLit (.string s):=(string_keyed h9).key (keyOf_string_mk (s:=⟨⟨s⟩⟩) h9 hs)
  by_cases e:t=s
  · subst e
    rw [show (ByteArray.mk ⟨t⟩).data.toList=t from rfl,Go.Maps.atKey_put_same hm hk]
    simp
  · rw [show (ByteArray.mk ⟨s⟩).data.toList=s from rfl,Go.Maps.atKey_put_other (by simpa using e),hat t]
    simp [e]
end
theorem Q8S.kept {P:Program} {w w':World} {b n:Nat} {seen:List (List UInt8)} {row:Option Nat} (h:Q8S w P b n seen) (hg:w.grownBy w' row) (hne:some b≠row):Q8S w' P b n seen:=by
  obtain ⟨D,hD,hm,hat⟩:=h
  exact ⟨D,hD.kept hg hne,hm,hat⟩
theorem Q8S.lt {P:Program} {w:World} {b n:Nat} {seen:List (List UInt8)} (h:Q8S w P b n seen):b<w.heap.size:=by
  obtain ⟨D,hD,hm,hat⟩:=h
  exact hD.lt
theorem UE {w w':World} (h:RowKit.Below w.heap.size w w'):w.grownBy w' none:=⟨h.os,h.tape,h.output,h.size,fun b hb _=>h.block b hb⟩
def TH:Code→List Code
  | .region i o d=>[.region i o d]
  | .loop c=>TH c
  | .seq a b=>TH a++TH b
  | .block _ c=>TH c
  | .scope c=>TH c
  | .cond _ a b=>TH a++TH b
  | _=>[]
def QbA (Q:Act→World→Prop):Exit→Act→World→Prop
  | .normal,a,w=>Q a w
  | _,_,_=>False
theorem Q0n {P : Program} {f : Nat} {fn : Func} (hf : P.funcs[f]? = some fn) (hb : fn.body.isSome = true) (hn : (fn.name == "runtime.NumGoroutine") = false) {avs : List AV} {av : AV} {hl : Nat → Option Ob} {rd : List Nat} (hlf : lf av = true) (hA : lfL avs = true)
    (h:∀ (S:Nat→Prop) (w:World) (args:List Value),(∀ b,S b→b<w.heap.size)→ArgsRd (fun _=>none) S (fun _=>none) w args avs→Calls P f args.toArray w fun e w'=>∃ (v:Value) (S':Nat→Prop),e = .returned v∧(∀ b,S b→S' b)∧(∀ b,S' b→S b∨w.heap.size≤b)∧(∀ b,S' b→b<w'.heap.size) ∧
      RdA (fun _=>none) S' (fun _=>none) w' tm0 v av∧RowKit.Below w.heap.size w w'):QI P f avs hl ⟨av,[],rd⟩:=by
  refine ⟨⟨fn,hf,hb,hn⟩,fun β S h' w args hO hAr _=>?_⟩
  refine (h S w args hO.sb ⟨hAr.1,fun i v av' c a=>Q2l (Q7I hA a) (fun _ h=>h) (fun _ _=>rfl) (hAr.2 i v av' c a)⟩).mono fun e w' ⟨v,S',he,hs,hsf,hsb,hr,hbel⟩=>?_
  refine ⟨v,β,S',he,⟨hs,fun b hS=>(hsf b hS).elim .inl fun h=>.inr (.inl h),hsb,Qas hbel,fun _ _=>rfl,fun l o hl'=>by simp [wrL] at hl',fun l hl'=>by simp [wrL] at hl',fun l b hl'=>by simp [wrL] at hl',fun l l' b hl'=>by simp [wrL] at hl',fun l hl'=>by simp [wrL] at hl',?_,fun t=>Q9b t _ hlf⟩⟩
  exact Q2l hlf (fun _ h=>h) (fun _ _=>rfl) hr
end Go.Vx
namespace Go.Vx
def dV:D→Value
  | .int k n=>.int k n
  | .bool b=>.bool b
  | .str s=>.string ⟨⟨s⟩⟩
  | .sl _ _=>undef
def cellsOf (l:LL):List Value:=l.flatMap fun r=>r.map dV
theorem Q9y (l:LL) (r:List D):cellsOf (l++[r])=cellsOf l++r.map dV:=by simp [cellsOf]
structure NestK (e1 e2 k:Nat) (w:World) (B:Nat) (v:Value) (hd:List Value) (ll:List LL):Prop where
  row:w.ownsRow B e1 1 v ll.length hd
  each:∀ (i:Nat) (h:Value) (l:LL),hd[i]? = some h→ll[i]? = some l→w.ownsRow B e2 k h l.length (cellsOf l)
  outer:∀ (i:Nat) (h:Value) (b:Nat),hd[i]? = some h→h.ownBlock=some b→v.ownBlock≠some b
  apart:∀ (i j:Nat) (h h':Value) (b:Nat),hd[i]? = some h→hd[j]? = some h'→h.ownBlock=some b→h'.ownBlock=some b→i=j
section
variable {e1 e2 k:Nat}
theorem NestK.len {w:World} {B:Nat} {v:Value} {hd:List Value} {ll:List LL} (h:NestK e1 e2 k w B v hd ll):hd.length=ll.length:=by have:=h.row.1;omega
theorem NestK.kept {w w':World} {B:Nat} {v:Value} {hd:List Value} {ll:List LL} {row:Option Nat} (h:NestK e1 e2 k w B v hd ll) (hg:w.grownBy w' row)
    (a:v.ownBlock=none∨v.ownBlock≠row) (b:∀ x∈hd,x.ownBlock=none∨x.ownBlock≠row):NestK e1 e2 k w' B v hd ll:=
  ⟨h.row.kept hg a,fun i x l hx hl=>(h.each i x l hx hl).kept hg (b x (List.mem_of_getElem? hx)),h.outer,h.apart⟩
theorem NestK.blk {w:World} {B:Nat} {v:Value} {hd:List Value} {ll:List LL} (h:NestK e1 e2 k w B v hd ll) {i:Nat} {x:Value} {b:Nat} (hx:hd[i]? = some x) (hb:x.ownBlock=some b):B≤b∧b<w.heap.size:=by
  have hi:i<ll.length:=by rw [← h.len];exact (List.getElem?_eq_some_iff.1 hx).1
  exact (h.each i x ll[i] hx (List.getElem?_eq_getElem hi)).lt b hb
theorem Q94 {w:World} {base e n:Nat} {v:Value} {xs:List Value} {b i:Nat} (h:w.ownsRow base e 1 v n xs) (hb:v.ownBlock=some b) (hi:i<n) (u:Value):(w.setCell ⟨b,i,none⟩ u).ownsRow base e 1 v n (xs.set i u):=by
  obtain ⟨a,c⟩:=h
  refine ⟨by simpa using a,?_⟩
  rcases c with ⟨rfl,rfl⟩ | ⟨g,cap,cur,rfl,hg,hh,hn,hc,hs,ht⟩
  · omega
  · simp [Value.ownBlock] at hb
    subst hb
    refine .inr ⟨g,cap,_,rfl,hg,heap_setCell_same w g i cur e u hh,hn,hc,by simpa using hs,?_⟩
    rw [← ht]
    simp [List.take_set]
theorem Q1I {w:World} {base e s n:Nat} {v:Value} {xs:List Value} (h:w.ownsRow base e s v n xs) {a:Addr} (ha:v.ownBlock≠some a.block) (u:Value):(w.setCell a u).ownsRow base e s v n xs:=by
  refine ⟨h.1,?_⟩
  rcases h.2 with b | ⟨g,cap,cur,rfl,hg,hh,hn,hc,hs,ht⟩
  · exact .inl b
  · refine .inr ⟨g,cap,cur,rfl,hg,?_,hn,hc,hs,ht⟩
    rw [heap_setCell_other w a g u (fun e=>ha (by simp [Value.ownBlock,e]))]
    exact hh
theorem NestK.grow {w c:World} {B:Nat} {v x x':Value} {hd:List Value} {ll:List LL} {l:LL} {s:List D} {g H i vb:Nat} (h:NestK e1 e2 k w B v hd ll)
    (hx:hd[i]? = some x) (hl:ll[i]? = some l) (hrow:c.ownsRow B e2 k x' (l.length+1) (cellsOf l++s.map dV)) (hg:w.grownBy c x.ownBlock) (hx':x'.ownBlock=some g) (hat:x.ownBlock=some g∨g=H) (hH:w.heap.size=H)
    (hv:v.ownBlock=some vb):NestK e1 e2 k (c.setCell ⟨vb,i,none⟩ x') B v (hd.set i x') (ll.set i (l++[s])):=by
  have hi:i<ll.length:=(List.getElem?_eq_some_iff.1 hl).1
  have hvlt:=(h.row.lt vb hv).2
  have hgv:g≠vb:=by
    intro e
    subst e
    rcases hat with a | a
    · exact h.outer i x g hx a hv
    · omega
  have hrow1:c.ownsRow B e1 1 v ll.length hd:=by
    refine h.row.kept hg (.inr fun e=>?_)
    rw [hv] at e
    exact h.outer i x vb hx e.symm hv
  have hne:∀ (j:Nat) (y:Value) (b:Nat),hd[j]? = some y→y.ownBlock=some b→j≠i→b≠g:=by
    intro j y b hy hb hji e
    subst e
    rcases hat with a | a
    · exact hji (h.apart j i y x b hy hx hb a)
    · have:=(h.blk hy hb).2;omega
  refine ⟨?_,fun j y k hy hk=>?_,fun j y b hy hb=>?_,fun j k y z b hy hz hby hbz=>?_⟩
  · rw [List.length_set]
    exact Q94 hrow1 hv hi x'
  · rw [List.getElem?_set] at hy hk
    by_cases e:i=j
    · subst e
      have a:i<hd.length:=by rw [h.len];exact hi
      simp only [if_true,a,hi,Option.some.injEq] at hy hk
      subst hy hk
      refine Q1I (by simpa [Q9y] using hrow) ?_ _
      rw [hx']
      intro e
      exact hgv (Option.some.inj e)
    · rw [if_neg e] at hy hk
      refine Q1I ((h.each j y k hy hk).kept hg ?_) ?_ _
      · cases hb:y.ownBlock with
        | none=>exact .inl rfl
        | some b=>exact .inr fun e2=>e (h.apart j i y x b hy hx hb e2.symm).symm
      · intro e2
        exact h.outer j y vb hy e2 hv
  · rw [List.getElem?_set] at hy
    by_cases e:i=j
    · subst e
      have a:i<hd.length:=by rw [h.len];exact hi
      simp only [if_true,a,Option.some.injEq] at hy
      subst hy
      rw [hx'] at hb
      cases hb
      rw [hv]
      intro e2
      exact hgv (Option.some.inj e2).symm
    · rw [if_neg e] at hy
      exact h.outer j y b hy hb
  · rw [List.getElem?_set] at hy hz
    have a:i<hd.length:=by rw [h.len];exact hi
    by_cases e:i=j
    · by_cases e2:i=k
      · omega
      · subst e
        rw [if_neg e2] at hz
        simp only [if_true,a,Option.some.injEq] at hy
        subst hy
        rw [hx'] at hby
        cases hby
        exact absurd rfl (hne k z g hz hbz (fun h=>e2 h.symm))
    · rw [if_neg e] at hy
      by_cases e2:i=k
      · subst e2
        simp only [if_true,a,Option.some.injEq] at hz
        subst hz
        rw [hx'] at hbz
        cases hbz
        exact absurd rfl (hne j y g hy hby (fun h=>e h.symm))
      · rw [if_neg e2] at hz
        exact h.apart j k y z b hy hz hby hbz
end
def Q3P (k:Nat) (r:List D):Bool:=Nat.beq r.length k&&r.all fun | .int .i64 _=>true | _=>false
theorem Q7M {k:Nat}:∀ (l:LL) (i j:Nat) (r:List D) (x:D),(∀ r∈l,r.length=k)→l[i]? = some r→r[j]? = some x→(cellsOf l)[i*k+j]? = some (dV x)
  | [],i,j,r,x,_,a,_=>by simp at a
  | c::l,0,j,r,x,hk,a,b=>by
    simp only [List.getElem?_cons_zero,Option.some.injEq] at a
    subst a
    have hj:=(List.getElem?_eq_some_iff.1 b).1
    simp only [cellsOf,List.flatMap_cons,Nat.zero_mul,Nat.zero_add]
    rw [List.getElem?_append_left (by simpa using hj),List.getElem?_map,b]
    rfl
  | c::l,i+1,j,r,x,hk,a,b=>by
    have ih:=Q7M l i j r x (fun q hq=>hk q (by simp [hq])) (by simpa using a) b
    have d:=hk c (by simp)
    simp only [cellsOf,List.flatMap_cons]
    rw [List.getElem?_append_right (by simp [d];rw [Nat.succ_mul];omega)]
    rw [show (i+1)*k+j-(c.map dV).length=i*k+j by simp [d];rw [Nat.succ_mul];omega]
    exact ih
theorem Qha {w:World} {B e k:Nat} {x:Value} {l:LL} (h:w.ownsRow B e k x l.length (cellsOf l)) (hk:∀ r∈l,Q3P k r=true) {S:Nat→Prop} (hS:∀ b,x.ownBlock=some b→S b):Rd S w x (.sl k l):=by
  have hlen:∀ r∈l,r.length=k:=fun r hr=>by
    have:=hk r hr
    simp only [Q3P,Bool.and_eq_true] at this
    exact Nat.eq_of_beq_eq_true this.1
  rcases h.2 with ⟨rfl,c⟩ | ⟨g,cap,cur,rfl,hg,hh,hn,hc,hs,ht⟩
  · have:l=[]:=List.eq_nil_of_length_eq_zero c
    subst this
    exact .sl0 none 0 k
  · refine .sl ⟨g,0,none⟩ cap k l (fun i j=>dV ((l.getD i []).getD j (.bool false))) (hS g rfl) hn (fun i r hi=>hlen r (List.mem_of_getElem? hi)) (fun i j r y hi hj=>?_) (fun i j r y hi hj=>?_)
    · have a:=Q7M l i j r y hlen hi hj
      have hij:i*k+j<cur.size:=by
        have d:=(List.getElem?_eq_some_iff.1 a).1
        rw [h.1] at d
        have:l.length*k≤cap*k:=Nat.mul_le_mul_right k hn
        omega
      rw [T8,Nat.zero_add,cell_of_row w g (i*k+j) cur e (0,0) hh]
      rw [← ht,List.getElem?_take] at a
      split at a
      · rw [← Array.getElem?_toList,a]
        simp [List.getD,hi,hj]
      · cases a
    · have hq:=hk r (List.mem_of_getElem? hi)
      simp only [Q3P,Bool.and_eq_true,List.all_eq_true] at hq
      have hy:=hq.2 y (List.mem_of_getElem? hj)
      simp only [List.getD,hi,hj,Option.getD_some]
      split at hy
      · exact .int _ _
      · cases hy
end Go.Vx
set_option maxRecDepth 100000
namespace Go.Vx
open Go.Proofs
variable {R:Type}
noncomputable def FK:Code:=Q8 Tryz.f70
def Tn (n:Nat):VC:=⟨QK [],gtt,[cO 0 [2,3] [2,3],cK 1 [4]]⟩
theorem Ec (n:Nat):VCOk Tryz.prog (Tn n):=gVC (Qe trivial)
theorem LZ (n:Nat) (a b d e:LL) (f:List UInt8) (g h i j:Int) (K:AV→Option R):vfn (Tn n) n Tryz.f70 [.ag [.d (D.sl 1 a),.d (D.sl 1 b),.d (D.sl 5 d),.d (D.sl 6 e)],.ag [.d (D.str f),.d (D.int .i64 g),.d (D.int .i64 h),.d (D.int .i64 i),.d (D.int .i64 j)]] [] (Wc [[0]] K)=Y3 n a b d e f g h i j (fun k=>K (.d (D.bool k))):=
 (VP (c:=FK) (m:=46) (tm:=[(0,.ag [dL 1 a,dL 1 b,dL 5 d,dL 6 e]),(1,.ag [dT f,dI g,dI h,dI i,dI j])]) (rs:=[.tmp 4]) (tt:=gtt)).trans (by kernel_rfl)
def JI (n:Nat):XH:=fun _ _ g avs _ k=>match avs with
 | [c0,c1]=>
  prG c0 fun l0=>(match l0 with
  | [a,b,c,d]=>prS g 1 a fun e=>prS g 1 b fun f=>prS g 5 c fun h=>prS g 6 d fun i=>
  prG c1 fun l1=>(match l1 with
  | [j,l,m,o,p]=>prT g j fun q=>prI g .i64 l fun s=>prI g .i64 m fun t=>prI g .i64 o fun u=>prI g .i64 p fun v=>
  gb g (Y3 n e f h i q s t u v some) false fun r=>k ⟨.d (D.bool r),[],[]⟩
  | _=>none)
  | _=>none)
 | _=>none
theorem FL (n:Nat):Qo Tryz.prog 70 (JI n):=by
  intro R site g avs hl k r h
  unfold JI at h
  split at h
  rotate_left
  · cases h
  obtain ⟨l0,h,m⟩:=Qq h
  split at h
  rotate_left
  · cases h
  obtain ⟨a,h,o⟩:=Q1 h
  obtain ⟨b,h,p⟩:=Q1 h
  obtain ⟨c,h,q⟩:=Q1 h
  obtain ⟨d,h,s⟩:=Q1 h
  obtain ⟨l1,h,e1⟩:=Qq h
  split at h
  rotate_left
  · cases h
  obtain ⟨e,h,t⟩:=VN h
  obtain ⟨f,h,u⟩:=Q2 h
  obtain ⟨i,h,v⟩:=Q2 h
  obtain ⟨j,h,w⟩:=Q2 h
  obtain ⟨l,h,x⟩:=Q2 h
  obtain ⟨res,h,hr⟩:=Qc h
  have hL:=h
  subst m e1
  refine ⟨_,hL,fun hg=>QI.conv (avs':=[.ag [.d (D.sl 1 a),.d (D.sl 1 b),.d (D.sl 5 c),.d (D.sl 6 d)],.ag [.d (D.str e),.d (D.int .i64 f),.d (D.int .i64 i),.d (D.int .i64 j),.d (D.int .i64 l)]]) (.cons (.ag (.cons (o hg) (.cons (p hg) (.cons (q hg) (.cons (s hg) (.nil)))))) (.cons (.ag (.cons (t hg) (.cons (u hg) (.cons (v hg) (.cons (w hg) (.cons (x hg) (.nil))))))) (.nil))) (QE (K:=kB) (res:=res) (Ec n) (fn:=Tryz.f70) (n:=n) (ss:=[[0]]) ?_ ?_)⟩
  · exact (LZ n a b c d e f i j l kB).trans (hr hg)
  · exact Da
noncomputable def Q2X:Code:=Q8 Tryz.f72
def Dt (n:Nat):VC:=⟨QK [],gtt,[cK 0 [0],cK 1 [2]]⟩
theorem Q3q (n:Nat):VCOk Tryz.prog (Dt n):=gVC (Qe trivial)
theorem Q2b (n:Nat) (a0:Int) (K:AV→Option R):vfn (Dt n) n Tryz.f72 [.d (D.int .u8 a0)] [] (Wc [[0]] K)=Rk n a0 (fun a=>K (.d (D.bool a))):=
 (VP (c:=Q2X) (m:=17) (tm:=[(0,.d (D.int .u8 a0))]) (rs:=[.tmp 2]) (tt:=gtt)).trans (by kernel_rfl)
def Nh (n:Nat):XH:=fun _ _ g avs _ k=>match avs with
 | [c0]=>prI g .u8 c0 fun a0=>
  gb g (Rk n a0 some) false fun r=>k ⟨.d (D.bool r),[],[]⟩
 | _=>none
theorem Q2H (n:Nat):Qo Tryz.prog 72 (Nh n):=by
  intro R site g avs hl k r h
  unfold Nh at h
  split at h
  rotate_left
  · cases h
  obtain ⟨a0,h,a⟩:=Q2 h
  obtain ⟨res,h,hr⟩:=Qc h
  refine ⟨_,h,fun hg=>QI.conv (avs':=[.d (D.int .u8 a0)]) (.cons (a hg) (.nil)) (QE (K:=kB) (res:=res) (Q3q n) (fn:=Tryz.f72) (n:=n) (ss:=[[0]]) ?_ ?_)⟩
  · exact (Q2b n a0 kB).trans (hr hg)
  · exact Da

noncomputable def Q4z:Code:=Q8 Tryz.f73
def Cr (n:Nat):VC:=⟨QK [],gtt,[cK 0 [0],cK 1 [2]]⟩
theorem Q4V (n:Nat):VCOk Tryz.prog (Cr n):=gVC (Qe trivial)
theorem Q2K (n:Nat) (a0:Int) (K:AV→Option R):vfn (Cr n) n Tryz.f73 [.d (D.int .u8 a0)] [] (Wc [[0]] K)=Eo n a0 (fun a=>K (.d (D.bool a))):=
 (VP (c:=Q4z) (m:=9) (tm:=[(0,.d (D.int .u8 a0))]) (rs:=[.tmp 2]) (tt:=gtt)).trans (by kernel_rfl)
def MU (n:Nat):XH:=fun _ _ g avs _ k=>match avs with
 | [c0]=>prI g .u8 c0 fun a0=>
  gb g (Eo n a0 some) false fun r=>k ⟨.d (D.bool r),[],[]⟩
 | _=>none
theorem Q4b (n:Nat):Qo Tryz.prog 73 (MU n):=by
  intro R site g avs hl k r h
  unfold MU at h
  split at h
  rotate_left
  · cases h
  obtain ⟨a0,h,a⟩:=Q2 h
  obtain ⟨res,h,hr⟩:=Qc h
  refine ⟨_,h,fun hg=>QI.conv (avs':=[.d (D.int .u8 a0)]) (.cons (a hg) (.nil)) (QE (K:=kB) (res:=res) (Q4V n) (fn:=Tryz.f73) (n:=n) (ss:=[[0]]) ?_ ?_)⟩
  · exact (Q2K n a0 kB).trans (hr hg)
  · exact Da

noncomputable def D1:Code:=Q8 Tryz.f48
noncomputable def NS:Code:=cA [1,1,0,1,2,2] (Q8 Tryz.f48)
noncomputable def D7:Code:=cA [1,1,1] (Q8 Tryz.f48)
def Wd (n:Nat):VC:=⟨QK [(72,Nh n),(73,MU n)],gtt,[cK 0 [0],cK 1 [0,17],cK 2 [2],cK 3 [0,19,20],cK 4 [0,19,20,21],cK 5 [0,3,19,20],cK 6 [0,19,20,40],cK 7 [2],cK 8 [0,19,20],cK 9 [2]]⟩
theorem Q7V (n:Nat):VCOk Tryz.prog (Wd n):=gVC (Qe ⟨Q2H n,⟨Q4b n,trivial⟩⟩)
theorem Q45 (n:Nat) (a0:List UInt8) (k:Exit→St→Option R):Qi (Wd n) n D1 ⟨42,[(0,dT a0)],[]⟩ k=EU n a0 (k .ret ⟨42,[(2,dB false)],[]⟩) (fun a=>X7 (lB (Wd n) n NS) n ⟨42,[(0,dT a0),(19,dI a),(20,dI (0:Int))],[]⟩ (Q9 0 (Xf (Wd n) n D7 k))):=by kernel_rfl
theorem Q4E (n:Nat) (a0:List UInt8) (a b:Int) (k:Exit→St→Option R):Qi (Wd n) n NS ⟨42,[(0,dT a0),(19,dI a),(20,dI b)],[]⟩ k=Ey n a0 a b (k .ret ⟨42,[(2,dB false)],[]⟩) (fun c=>k .normal ⟨42,[(0,dT a0),(19,dI a),(20,dI c)],[]⟩) (fun d=>k (.exit 0) ⟨42,[(0,dT a0),(19,dI a),(20,dI b),(21,dB d)],[]⟩):=by kernel_rfl
theorem DF (n:Nat) (a0:List UInt8) (b:Int) (k:Exit→St→Option R):∀ (m:Nat) (a:Int),X7 (lB (Wd n) n NS) m ⟨42,[(0,dT a0),(19,dI b),(20,dI a)],[]⟩ k=NO n a0 b (k .ret ⟨42,[(2,dB false)],[]⟩) (fun a c=>k (.exit 0) ⟨42,[(0,dT a0),(19,dI b),(20,dI a),(21,dB c)],[]⟩) m a
 | 0,_=>rfl
 | m+1,a=>(lS (by kernel_rfl) m k).trans ((Q4E n a0 b a (WB (lB (Wd n) n NS) m k)).trans (cg3 (fun d e f=>Ey n a0 b a d e f ) rfl (funext fun g=>DF n a0 b k m g) rfl))
theorem Q4r (n:Nat) (a0:List UInt8) (a b:Int) (c:Bool) (k:Exit→St→Option R):(Q9 0 (Xf (Wd n) n D7 k)) (.exit 0) ⟨42,[(0,dT a0),(19,dI a),(20,dI b),(21,dB c)],[]⟩=Q1a n a0 a b c (k .ret ⟨42,[(2,dB true)],[]⟩):=by kernel_rfl
theorem Q4a (n:Nat) (a0:List UInt8) (k:Exit→St→Option R):Qi (Wd n) n D1 ⟨42,[(0,dT a0)],[]⟩ k=Q1X n a0 (fun d=>k .ret ⟨42,[(2,dB d)],[]⟩):=
 (Q45 n a0 k).trans (cg2 (fun a b=>EU n a0 a b ) rfl (funext fun c=>(DF n a0 c (Q9 0 (Xf (Wd n) n D7 k)) n (0:Int)).trans (cg2 (fun a b=>NO n a0 c a b n (0:Int)) rfl (funext fun e=>funext fun f=>(Q4r n a0 c e f k)))))
theorem Q6L (n:Nat) (a0:List UInt8) (K:AV→Option R):vfn (Wd n) n Tryz.f48 [.d (D.str a0)] [] (Wc [[0]] K)=T7 n a0 (fun a=>K (.d (D.bool a))):=
 Eq.trans (b:=Qi (Wd n) n D1 ⟨42,[(0,dT a0)],[]⟩ (K3 gtt [.tmp 2] (Wc [[0]] K))) VP ((Q4a n a0 (K3 gtt [.tmp 2] (Wc [[0]] K))).trans (by kernel_rfl))
def Rp (n:Nat):XH:=fun _ _ g avs _ k=>match avs with
 | [c0]=>prT g c0 fun a0=>
  gb g (T7 n a0 some) false fun r=>k ⟨.d (D.bool r),[],[]⟩
 | _=>none
theorem Dg (n:Nat):Qo Tryz.prog 48 (Rp n):=by
  intro R site g avs hl k r h
  unfold Rp at h
  split at h
  rotate_left
  · cases h
  obtain ⟨a0,h,a⟩:=VN h
  obtain ⟨res,h,hr⟩:=Qc h
  refine ⟨_,h,fun hg=>QI.conv (avs':=[.d (D.str a0)]) (.cons (a hg) (.nil)) (QE (K:=kB) (res:=res) (Q7V n) (fn:=Tryz.f48) (n:=n) (ss:=[[0]]) ?_ ?_)⟩
  · exact (Q6L n a0 kB).trans (hr hg)
  · exact Da

end Go.Vx
namespace Go.Vx
open Go.Proofs Go.RowKit
theorem Qcs {n:Nat} {s:List UInt8} (h:T7 n s some=some true) (w:World):Calls Tryz.prog 48 #[.string ⟨⟨s⟩⟩] w fun e w'=>e = .returned (.bool true)∧RowKit.Below w.heap.size w w':=by
  have he:Rp n Dl 0 true [.d (.str s)] (fun _=>none) some=some ⟨.d (.bool true),[],[]⟩:=by
    show gb true (T7 n s some) false (fun r=>(some ⟨.d (D.bool r),[],[]⟩:Option Dl))=_
    rw [h]
    rfl
  refine FH (Zb (Dg n) he) (S:=fun _=>False) (fun _ h=>h.elim) (args:=[.string ⟨⟨s⟩⟩]) ⟨rfl,fun i v av a b=>?_⟩
  match i,a,b with
  | 0,a,b=>
    simp only [List.getElem?_cons_zero,Option.some.injEq] at a b
    subst a b
    exact .d _ _ (.str ⟨⟨s⟩⟩)
set_option maxHeartbeats 4000000 in
set_option maxRecDepth 100000 in
theorem Tryz.checkName_calls {N:Nat} (w:World) (b n:Nat) (seen:List (List UInt8)) (s:List UInt8) (h:Q8S w Tryz.prog b n seen) (hn:n<1000) (hs:Qfo N seen s=true) :
    Calls Tryz.prog 69 #[.string ⟨⟨s⟩⟩,.map (some b)] w fun e w'=>e = .returned (.int .i64 0)∧Q8S w' Tryz.prog b (n+1) (s::seen)∧w.grownBy w' (some b):=by
  simp only [Qfo,Bool.and_eq_true,Bool.not_eq_true'] at hs
  obtain ⟨⟨hl,hN⟩,hc⟩:=hs
  have hl:=Nat.le_of_ble_eq_true hl
  have hlm:s.length≤maxLen:=by unfold maxLen;omega
  have hnm:n<maxLen:=by unfold maxLen;omega
  have hz:∀ w:World,(zeroValue 4).run Tryz.prog w = .ok (.bool false) w:=fun w=>by kernel_rfl
  go_enter Tryz.func69,Tryz.ntmps69
  go_wp2_with (go_at_call 48;refine (Qcs (BJ hN) _).mono ?_)
  rintro e d ⟨rfl,hB⟩
  have c:=h.kept (UE hB) (by simp)
  have hlook:=c.lookup Tryz.underlying9 Tryz.underlying4 Tryz.underlying136 (hz d) hlm
  rw [hc] at hlook
  obtain ⟨g,hup,f,a⟩:=c.update Tryz.underlying9 Tryz.underlying4 Tryz.underlying136 hnm hlm
  go_wp2
  refine bodyPost_ret (results_tmp rfl _ _ _) rfl ?_
  exact ⟨rfl,f,⟨a.os.trans hB.os,a.tape.trans hB.tape,a.output.trans hB.output,Nat.le_trans hB.size a.size,fun k hk hne=>(a.block k (Nat.lt_of_lt_of_le hk hB.size) hne).trans (hB.block k hk)⟩⟩
theorem Qee {β:Nat→Option Nat} {S:Nat→Prop} {h:Nat→Option Ob} {w:World} {v0:Value} {a0:AV} (c:RdA β S h w tm0 v0 a0):ArgsRd β S h w [v0] [a0]:=by
  refine ⟨rfl,fun i v av a b=>?_⟩
  match i,a,b with
  | 0,a,b=>simp only [List.getElem?_cons_zero,Option.some.injEq] at a b;subst a b;exact c
theorem Nf {β:Nat→Option Nat} {S:Nat→Prop} {h:Nat→Option Ob} {w:World} {v0 c:Value} {a0 a1:AV} (d:RdA β S h w tm0 v0 a0) (h1':RdA β S h w tm0 c a1):ArgsRd β S h w [v0,c] [a0,a1]:=by
  refine ⟨rfl,fun i v av a b=>?_⟩
  match i,a,b with
  | 0,a,b=>simp only [List.getElem?_cons_zero,Option.some.injEq] at a b;subst a b;exact d
  | 1,a,b=>simp only [List.getElem?_cons_succ,List.getElem?_cons_zero,Option.some.injEq] at a b;subst a b;exact h1'
theorem QfK {β:Nat→Option Nat} {S:Nat→Prop} {h:Nat→Option Ob} {w:World} {v0 c d:Value} {a0 a1 e:AV} (f:RdA β S h w tm0 v0 a0) (h1':RdA β S h w tm0 c a1) (h2':RdA β S h w tm0 d e):ArgsRd β S h w [v0,c,d] [a0,a1,e]:=by
  refine ⟨rfl,fun i v av a b=>?_⟩
  match i,a,b with
  | 0,a,b=>simp only [List.getElem?_cons_zero,Option.some.injEq] at a b;subst a b;exact f
  | 1,a,b=>simp only [List.getElem?_cons_succ,List.getElem?_cons_zero,Option.some.injEq] at a b;subst a b;exact h1'
  | 2,a,b=>simp only [List.getElem?_cons_succ,List.getElem?_cons_zero,Option.some.injEq] at a b;subst a b;exact h2'
inductive RdLs (S:Nat→Prop) (w:World):List Value→List D→Prop
  | nil:RdLs S w [] []
  | cons {v:Value} {x:D} {vs:List Value} {xs:List D} (h:Rd S w v x) (t:RdLs S w vs xs):RdLs S w (v::vs) (x::xs)
theorem RdLs.agg {S:Nat→Prop} {w:World}:∀ {vs:List Value} {xs:List D},RdLs S w vs xs→RdA (fun _=>none) S (fun _=>none) w tm0 (.agg vs.toArray) (.ag (xs.map .d))
  | vs,xs,h=>by
    have hl:∀ {vs:List Value} {xs:List D},RdLs S w vs xs→vs.length=xs.length:=by
      intro vs xs h
      induction h with
      | nil=>rfl
      | cons _ _ ih=>simp [ih]
    have hr:∀ {vs:List Value} {xs:List D},RdLs S w vs xs→∀ (i:Nat) (x:D),xs[i]? = some x→Rd S w (vs.toArray.getD i undef) x:=by
      intro vs xs h
      induction h with
      | nil=>intro i x hx;simp at hx
      | cons a t ih=>
        intro i x hx
        cases i with
        | zero=>simp only [List.getElem?_cons_zero,Option.some.injEq] at hx;subst hx;simpa using a
        | succ i=>
          have:=ih i x (by simpa using hx)
          simpa using this
    refine .ag _ _ (by simp [hl h]) fun i x hx=>?_
    rw [List.getElem?_map,Option.map_eq_some_iff] at hx
    obtain ⟨d,hd,rfl⟩:=hx
    exact .d _ _ (hr h i d hd)
theorem Rd.keep {S:Nat→Prop} {w w':World} {v:Value} {x:D} {m:Nat} (h:Rd S w v x) (hS:∀ b,S b→b<m) (hw:∀ b,b<m→w'.heap[b]? = w.heap[b]?):Rd S w' v x:=h.mono (fun _ h=>h) fun b hb=>hw b (hS b hb)
theorem Ru {S:Nat→Prop} {w:World} {v:Value} {k:Nat} {rows:LL} (h:Rd S w v (.sl k rows)):∃ ad cap,v = .slice ad rows.length cap:=by
  cases h with
  | sl0 a cap=>exact ⟨a,cap,rfl⟩
  | sl ad cap=>exact ⟨some ad,cap,rfl⟩
theorem Qdr {S:Nat→Prop} {w:World} {ad:Option Addr} {n cap k:Nat} {rows:LL} (h:Rd S w (.slice ad n cap) (.sl k rows)) {i:Nat} {row:List D} (hi:rows[i]? = some row) :
    ∃ a,ad=some a∧S a.block∧row.length=k∧∀ (j:Nat) (x:D),row[j]? = some x→∃ v,w.cell? (a.add (i*k+j))=some v∧Rd S w v x:=by
  cases h with
  | sl0 a cap=>simp at hi
  | sl a cap _ _ c hS hcap hsz hc hr=>exact ⟨a,rfl,hS,hsz i row hi,fun j x hx=>⟨_,hc i j row x hi hx,hr i j row x hi hx⟩⟩
theorem Q5M {n:Nat} {w a c:World} {b:Nat} (h:Below n w a) (hn:n≤w.heap.size) (hb:n≤b) (hg:a.grownBy c (some b)):Below n w c:=
  ⟨hg.os.trans h.os,hg.tape.trans h.tape,hg.output.trans h.output,Nat.le_trans h.size hg.size,fun k hk=>(hg.block k (by have:=h.size;omega) (by simp;omega)).trans (h.block k hk)⟩
theorem VD {n:Nat} {w a:World} (h:Below n w a) (hn:n≤w.heap.size) (o:Obj):Below n w (a.alloc o):=
  ⟨h.os,h.tape,h.output,by have:=h.size;simp;omega,fun k hk=>(Lib.alloc_old a o k (by have:=h.size;omega)).trans (h.block k hk)⟩
theorem Jy {n:Nat} {w b c:World} (h:Below n w b) (hn:n≤w.heap.size) (a:Below b.heap.size b c):Below n w c:=
  ⟨a.os.trans h.os,a.tape.trans h.tape,a.output.trans h.output,Nat.le_trans h.size a.size,fun k hk=>(a.block k (by have:=h.size;omega)).trans (h.block k hk)⟩
theorem NJ (ad:Addr) (i j:Nat) (hj:j≠0):ad.add (i+j)=⟨(ad.add i).block,(ad.add i).off+j,none⟩:=by
  have a:(ad.add i).add j=ad.add (i+j):=by
    unfold Addr.add
    by_cases hi:i=0 <;> simp [hi,hj,Nat.add_assoc]
  rw [← a]
  generalize ad.add i=x
  unfold Addr.add
  rw [if_neg hj]
theorem Q8F {N:Nat} {seen:List (List UInt8)} {l:LL} {j:Nat} (hj:j<l.length) (h:LH N seen (l.drop j)=true) :
    ∃ s,l[j]? = some [D.str s]∧Qfo N seen s=true∧LH N (s::seen) (l.drop (j+1))=true:=by
  rw [List.drop_eq_getElem_cons hj] at h
  unfold LH at h
  split at h
  · rename_i s e
    simp only [Bool.and_eq_true] at h
    exact ⟨s,by rw [List.getElem?_eq_getElem hj,e],h.1,h.2⟩
  · cases h
theorem Q9r {N:Nat} {l0 l1 l2 f:LL} {seen:List (List UInt8)} {l:LL} {j:Nat} (hj:j<l.length) (h:Fb N l0 l1 l2 f seen (l.drop j)=true) :
    ∃ s a b c d,l[j]? = some [D.str s,.int .i64 a,.int .i64 b,.int .i64 c,.int .i64 d]∧Qfo N seen s=true∧Y3 N l0 l1 l2 f s a b c d some=some true∧Fb N l0 l1 l2 f (s::seen) (l.drop (j+1))=true:=by
  rw [List.drop_eq_getElem_cons hj] at h
  unfold Fb at h
  split at h
  · rename_i s a b c d e
    simp only [Bool.and_eq_true] at h
    exact ⟨s,a,b,c,d,by rw [List.getElem?_eq_getElem hj,e],h.1.1,BJ h.1.2,h.2⟩
  · cases h
theorem Qfp {S:Nat→Prop} {w:World} {v:Value} {s:List UInt8} (h:Rd S w v (.str s)):v = .string ⟨⟨s⟩⟩:=by cases h;rfl
theorem Dr {S:Nat→Prop} {w:World} {v:Value} {k:IntKind} {n:Int} (h:Rd S w v (.int k n)):v = .int k n:=by cases h;rfl
theorem Qcx {N:Nat} {l0 l1 l2 f:LL} {s:List UInt8} {a b c d:Int} (h:Y3 N l0 l1 l2 f s a b c d some=some true) {S:Nat→Prop} {w:World} (hS:∀ b,S b→b<w.heap.size) {v0 g i j:Value}
    (k:Rd S w v0 (.sl 1 l0)) (l:Rd S w g (.sl 1 l1)) (m:Rd S w i (.sl 5 l2)) (n:Rd S w j (.sl 6 f)) :
    Calls Tryz.prog 70 #[.agg #[v0,g,i,j],.agg #[.string ⟨⟨s⟩⟩,.int .i64 a,.int .i64 b,.int .i64 c,.int .i64 d]] w fun e w'=>e = .returned (.bool true)∧RowKit.Below w.heap.size w w':=by
  have he:JI N Dl 0 true [.ag ([D.sl 1 l0,.sl 1 l1,.sl 5 l2,.sl 6 f].map .d),.ag ([D.str s,.int .i64 a,.int .i64 b,.int .i64 c,.int .i64 d].map .d)] (fun _=>none) some=some ⟨.d (.bool true),[],[]⟩:=by
    show gb true (Y3 N l0 l1 l2 f s a b c d some) false (fun r=>(some ⟨.d (D.bool r),[],[]⟩:Option Dl))=_
    rw [h]
    rfl
  exact FH (Zb (FL N) he) hS (Nf (RdLs.agg (.cons k (.cons l (.cons m (.cons n .nil))))) (RdLs.agg (.cons (.str ⟨⟨s⟩⟩) (.cons (.int _ _) (.cons (.int _ _) (.cons (.int _ _) (.cons (.int _ _) .nil)))))))
set_option maxHeartbeats 8000000 in
set_option maxRecDepth 100000 in
theorem Tryz.layout_calls {N:Nat} (S:Nat→Prop) (w:World) (hS:∀ b,S b→b<w.heap.size) (l0 l1 l2 d:LL) (v0 x y z:Value) (h0:Rd S w v0 (.sl 1 l0)) (h1:Rd S w x (.sl 1 l1)) (h2:Rd S w y (.sl 5 l2)) (h3:Rd S w z (.sl 6 d)) (hok:As N l0 l1 l2 d=true)
    (hL:∀ w':World,(∀ b,S b→b<w'.heap.size)→Rd S w' v0 (.sl 1 l0)→Rd S w' x (.sl 1 l1)→Rd S w' y (.sl 5 l2)→Rd S w' z (.sl 6 d)→Calls Tryz.prog 71 #[.agg #[v0,x,y,z]] w' fun e w''=>e = .returned (.int .i64 0)∧Below w'.heap.size w' w'') :
    Calls Tryz.prog 47 #[.agg #[v0,x,y,z]] w fun e w'=>e = .returned (.int .i64 0)∧Below w.heap.size w w':=by
  simp only [As,Bool.and_eq_true,Bool.not_eq_true'] at hok
  obtain ⟨⟨⟨⟨⟨⟨⟨⟨m0,m1⟩,m2⟩,m3⟩,m4⟩,n0⟩,n1⟩,ns⟩,nl⟩:=hok
  have m0:=Nat.le_of_ble_eq_true m0
  have m1:=Nat.le_of_ble_eq_true m1
  have m2:=Nat.le_of_ble_eq_true m2
  have m3:=Nat.le_of_ble_eq_true m3
  have m4:l2.length≠0:=fun e=>by rw [e] at m4;cases m4
  obtain ⟨g,h,rfl⟩:=Ru h0
  obtain ⟨m,n,rfl⟩:=Ru h1
  obtain ⟨q,p,rfl⟩:=Ru h2
  obtain ⟨r,t,rfl⟩:=Ru h3
  have q0:¬ (24:Int)<(l0.length:Int):=by omega
  have q1:¬ (48:Int)<(l1.length:Int):=by omega
  have q2:¬ (96:Int)<(l2.length:Int):=by omega
  have q3:¬ (192:Int)<(d.length:Int):=by omega
  have q4:¬ ((l2.length:Int)=0):=by omega
  have hbox:(w.alloc (.cells #[.slice g l0.length h,.slice m l1.length n,.slice q l2.length p,.slice r d.length t] 27)).heap[w.heap.size]? = some (.cells #[.slice g l0.length h,.slice m l1.length n,.slice q l2.length p,.slice r d.length t] 27 (0,0)):=heap_alloc_new w _
  have hB1:Below w.heap.size w (w.alloc (.cells #[.slice g l0.length h,.slice m l1.length n,.slice q l2.length p,.slice r d.length t] 27)):=VD (Below.refl _ _) (Nat.le_refl _) _
  have bo:(w.alloc (.cells #[.slice g l0.length h,.slice m l1.length n,.slice q l2.length p,.slice r d.length t] 27)).heap.size=w.heap.size+1:=by simp
  have hmk:∀ w:World,(Instr.makeMap 136 none).run Tryz.prog w = .ok (.map (some w.heap.size)) (w.alloc (.map #[] 0)):=fun w=>run_makeMap 136 w
  go_enter Tryz.func47,Tryz.ntmps47
  go_wp2
  generalize w.alloc (.cells #[.slice g l0.length h,.slice m l1.length n,.slice q l2.length p,.slice r d.length t] 27)=w1 at *
  go_loopw [40] (fun i wr=>∃ k:Nat,k≤2∧i = .int .i64 k∧Below (w.heap.size+1) w1 wr)
    (fun i _=>2-(intOf i).toNat)
  case atStart=>exact ⟨0,by omega,rfl,Below.refl _ _⟩
  case round=>
    obtain ⟨k,hk,rfl,hF⟩:=hrel
    by_cases hlt:k<2
    · have hlt':((k:Int)<2):=by omega
      obtain ⟨ad,l,cap,hidx,hv,hl,hm⟩:∃ (ad:Option Addr) (l:LL) (cap:Nat),(∀ w:World,(Instr.index 135 (.agg #[.slice g l0.length h,.slice m l1.length n]) (.int .i64 k)).run Tryz.prog w = .ok (.slice ad l.length cap) w)∧Rd S w (.slice ad l.length cap) (.sl 1 l)∧LH N [] l=true∧l.length≤48:=by
        obtain rfl | rfl:k=0∨k=1:=by omega
        · exact ⟨g,l0,h,fun _=>rfl,h0,n0,by omega⟩
        · exact ⟨m,l1,n,fun _=>rfl,h1,n1,by omega⟩
      have ah:w.heap.size+1≤wr.heap.size:=by have:=hF.size;omega
      have hM:=Q8S.made Tryz.prog wr
      have hFa:=VD hF (by omega) (.map #[] 0)
      go_wp2
      generalize wr.alloc (.map #[] 0)=w2 at *
      generalize wr.heap.size=b at *
      clear hF
      go_loopw [46] (fun i wr=>∃ (j:Nat) (seen:List (List UInt8)),j≤l.length∧i = .int .i64 j∧Q8S wr Tryz.prog b j seen∧LH N seen (l.drop j)=true∧Below (w.heap.size+1) w1 wr)
        (fun i _=>l.length-(intOf i).toNat)
      case atStart=>exact ⟨0,[],by omega,rfl,hM,hl,hFa⟩
      case round=>
        obtain ⟨j,seen,hj,rfl,hMj,hlj,hFj⟩:=hrel
        by_cases hjl:j<l.length
        · have hjl':((j:Int)<(l.length:Int)):=by omega
          obtain ⟨s,hrow,hN,hnext⟩:=Q8F hjl hlj
          have hvj:=Rd.keep (w':=wr) hv hS fun c hc=>(hFj.block c (by omega)).trans (hB1.block c hc)
          obtain ⟨a,rfl,_,_,hcell⟩:=Qdr hvj hrow
          obtain ⟨u,hc,hu⟩:=hcell 0 _ rfl
          rw [Qfp hu,Nat.mul_one,Nat.add_zero] at hc
          go_wp2_with (go_at_call 69;refine (Tryz.checkName_calls wr b j seen s hMj (by omega) hN).mono ?_)
          rintro e f ⟨rfl,hM3,v⟩
          have hF3:=Q5M hFj (by omega) ah v
          go_wp2
          go_roundw
          all_goals first
            | exact ⟨j+1,s::seen,hjl,by go_num,hM3,hnext,hF3⟩
            | (simp [intOf];omega)
        · go_wp2
          go_roundw
          all_goals first
            | exact ⟨k+1,hlt,by go_num,hFj⟩
            | (simp [intOf];omega)
    · skip
      have ah:w.heap.size+1≤wr.heap.size:=by have:=hF.size;omega
      have hM:=Q8S.made Tryz.prog wr
      have hFa:=VD hF (by omega) (.map #[] 0)
      have hbx:=(hFa.block _ (Nat.lt_succ_self _)).trans hbox
      have c2:(wr.alloc (.map #[] 0)).cell? ⟨w.heap.size,2,none⟩=some (.slice q l2.length p):=by rw [Lib.cell_of_heap hbx];rfl
      go_wp2
      clear hbx c2
      generalize wr.alloc (.map #[] 0)=w2 at *
      generalize wr.heap.size=b at *
      go_loopw [62] (fun i wr=>∃ (j:Nat) (seen:List (List UInt8)),j≤l2.length∧i = .int .i64 j∧Q8S wr Tryz.prog b j seen∧Fb N l0 l1 l2 d seen (l2.drop j)=true∧Below (w.heap.size+1) w1 wr)
        (fun i _=>l2.length-(intOf i).toNat)
      case atStart=>exact ⟨0,[],by omega,rfl,hM,ns,hFa⟩
      case round=>
        obtain ⟨j,seen,hj,rfl,hMj,hlj,hFj⟩:=hrel
        by_cases hjl:j<l2.length
        · have hjl':((j:Int)<(l2.length:Int)):=by omega
          obtain ⟨s,sa,sb,sc,sd,hrow,hN,hsec,hnext⟩:=Q9r hjl hlj
          have hw':∀ c,c<w.heap.size→wr.heap[c]? = w.heap[c]?:=fun c hc=>(hFj.block c (by omega)).trans (hB1.block c hc)
          have hvj:=Rd.keep (w':=wr) h2 hS hw'
          obtain ⟨a,rfl,_,_,hcell⟩:=Qdr hvj hrow
          obtain ⟨u0,x0,y0⟩:=hcell 0 _ rfl
          obtain ⟨u1,x1,y1⟩:=hcell 1 _ rfl
          obtain ⟨u2',x2,y2⟩:=hcell 2 _ rfl
          obtain ⟨u3',x3,y3⟩:=hcell 3 _ rfl
          obtain ⟨u4',x4,y4⟩:=hcell 4 _ rfl
          rw [Qfp y0,Nat.add_zero] at x0
          rw [Dr y1,NJ _ _ _ (by decide)] at x1
          rw [Dr y2,NJ _ _ _ (by decide)] at x2
          rw [Dr y3,NJ _ _ _ (by decide)] at x3
          rw [Dr y4,NJ _ _ _ (by decide)] at x4
          clear hcell y0 y1 y2 y3 y4 hvj
          have ar:wr.grownBy (wr.alloc (.cells #[.string ⟨⟨s⟩⟩,.int .i64 sa,.int .i64 sb,.int .i64 sc,.int .i64 sd] 70)) none:=World.grownBy_alloc wr _ none
          have hF0:=VD hFj (by omega) (.cells #[.string ⟨⟨s⟩⟩,.int .i64 sa,.int .i64 sb,.int .i64 sc,.int .i64 sd] 70)
          have hM0:=hMj.kept ar (by simp)
          have au:(wr.alloc (.cells #[.string ⟨⟨s⟩⟩,.int .i64 sa,.int .i64 sb,.int .i64 sc,.int .i64 sd] 70)).heap[wr.heap.size]? = some (.cells #[.string ⟨⟨s⟩⟩,.int .i64 sa,.int .i64 sb,.int .i64 sc,.int .i64 sd] 70 (0,0)):=heap_alloc_new wr _
          have hbw:b<wr.heap.size:=hMj.lt
          have br:w.heap.size+1≤wr.heap.size:=by have:=hFj.size;omega
          go_wp2_with (go_at_call 69;refine (Tryz.checkName_calls (wr.alloc (.cells #[.string ⟨⟨s⟩⟩,.int .i64 sa,.int .i64 sb,.int .i64 sc,.int .i64 sd] 70)) b j seen s hM0 (by omega) hN).mono ?_)
          rintro e f ⟨rfl,hM3,v⟩
          have hF3:=Q5M hF0 (by omega) ah v
          have hbx:=(hF3.block _ (Nat.lt_succ_self _)).trans hbox
          have hlo:=(v.block wr.heap.size (by simp) (by simp;omega)).trans au
          clear hF0 hM0 au ar v hMj hFj
          have z0:f.cell? ⟨w.heap.size,0,none⟩=some (.slice g l0.length h):=by rw [Lib.cell_of_heap hbx];rfl
          have z1:f.cell? ⟨w.heap.size,1,none⟩=some (.slice m l1.length n):=by rw [Lib.cell_of_heap hbx];rfl
          have z2:f.cell? ⟨w.heap.size,2,none⟩=some (.slice (some a) l2.length p):=by rw [Lib.cell_of_heap hbx];rfl
          have z3:f.cell? ⟨w.heap.size,3,none⟩=some (.slice r d.length t):=by rw [Lib.cell_of_heap hbx];rfl
          have y0:f.cell? ⟨wr.heap.size,0,none⟩=some (.string ⟨⟨s⟩⟩):=by rw [Lib.cell_of_heap hlo];rfl
          have y1:f.cell? ⟨wr.heap.size,1,none⟩=some (.int .i64 sa):=by rw [Lib.cell_of_heap hlo];rfl
          have y2:f.cell? ⟨wr.heap.size,2,none⟩=some (.int .i64 sb):=by rw [Lib.cell_of_heap hlo];rfl
          have y3:f.cell? ⟨wr.heap.size,3,none⟩=some (.int .i64 sc):=by rw [Lib.cell_of_heap hlo];rfl
          have y4:f.cell? ⟨wr.heap.size,4,none⟩=some (.int .i64 sd):=by rw [Lib.cell_of_heap hlo];rfl
          have o:∀ c,c<w.heap.size→f.heap[c]? = w.heap[c]?:=fun c hc=>(hF3.block c (by omega)).trans (hB1.block c hc)
          have hS3:∀ c,S c→c<f.heap.size:=fun c hc=>by have:=hS c hc;have:=hF3.size;omega
          have g0:=Rd.keep h0 hS o
          have g1:=Rd.keep h1 hS o
          have g2:=Rd.keep h2 hS o
          have g3:=Rd.keep h3 hS o
          go_wp2_with (go_at_call 70;refine (Qcx hsec hS3 g0 g1 g2 g3).mono ?_)
          rintro e w4 ⟨rfl,hB4⟩
          have hM4:=hM3.kept (UE hB4) (by simp)
          have hF4:=Jy hF3 (by omega) hB4
          go_wp2
          go_roundw
          all_goals first
            | exact ⟨j+1,s::seen,hjl,by go_num,hM4,hnext,hF4⟩
            | (simp [intOf];omega)
        · have hbx:=(hFj.block _ (Nat.lt_succ_self _)).trans hbox
          have z0:wr.cell? ⟨w.heap.size,0,none⟩=some (.slice g l0.length h):=by rw [Lib.cell_of_heap hbx];rfl
          have z1:wr.cell? ⟨w.heap.size,1,none⟩=some (.slice m l1.length n):=by rw [Lib.cell_of_heap hbx];rfl
          have z2:wr.cell? ⟨w.heap.size,2,none⟩=some (.slice q l2.length p):=by rw [Lib.cell_of_heap hbx];rfl
          have z3:wr.cell? ⟨w.heap.size,3,none⟩=some (.slice r d.length t):=by rw [Lib.cell_of_heap hbx];rfl
          have o:∀ c,c<w.heap.size→wr.heap[c]? = w.heap[c]?:=fun c hc=>(hFj.block c (by omega)).trans (hB1.block c hc)
          have hS3:∀ c,S c→c<wr.heap.size:=fun c hc=>by have:=hS c hc;have:=hFj.size;omega
          have hcall:=hL wr hS3 (Rd.keep h0 hS o) (Rd.keep h1 hS o) (Rd.keep h2 hS o) (Rd.keep h3 hS o)
          go_wp2_with (go_at_call 71;refine hcall.mono ?_)
          rintro e w4 ⟨rfl,hB4⟩
          have hF4:=Jy hFj (by omega) hB4
          go_wp2
          refine bodyPost_ret (results_tmp rfl _ _ _) rfl ?_
          exact ⟨rfl,hF4.os.trans hB1.os,hF4.tape.trans hB1.tape,hF4.output.trans hB1.output,by have:=hF4.size;omega,fun c hc=>(hF4.block c (by omega)).trans (hB1.block c hc)⟩

end Go.Vx
set_option maxRecDepth 100000
namespace Go.Vx
open Go.Proofs
variable {R:Type}
noncomputable def Q7f:Code:=Q8 Tryz.f101
def Q1C (n:Nat):VC:=⟨QK [],gtt,[cO 0 [1,2,3] [1,2,3],cO 1 [2,3] [2,3]]⟩
theorem Q6N (n:Nat):VCOk Tryz.prog (Q1C n):=gVC (Qe trivial)
theorem Q5Y (n:Nat) (a b d e f g:Int) (K:AV→Option R):vfn (Q1C n) n Tryz.f101 [.ag [.d (D.int .i64 a),.d (D.int .i64 b),.d (D.int .i64 d),.d (D.int .i64 e),.d (D.int .i64 f),.d (D.int .i64 g)]] [] (Wc [[0,0],[0,0]] K)=Q0P n a b d e f g (fun h i r2 r3=>K (.tup [.ag [.d (D.int .i64 h),.d (D.int .i64 i)],.ag [.d (D.int .i64 r2),.d (D.int .i64 r3)]])):=
 (VP (c:=Q7f) (m:=14) (tm:=[(0,.ag [dI a,dI b,dI d,dI e,dI f,dI g])]) (rs:=[.cell 2 168,.cell 3 168]) (tt:=gtt)).trans (by kernel_rfl)
def ER:AV→Option (Int × Int × Int × Int):=fun av=>match av with
 | .tup [.ag [.d (D.int .i64 a),.d (D.int .i64 b)],.ag [.d (D.int .i64 r2),.d (D.int .i64 r3)]]=>some (a,b,r2,r3)
 | _=>none
def NU (n:Nat):XH:=fun _ _ g avs _ k=>match avs with
 | [c0]=>
  prG c0 fun l0=>(match l0 with
  | [a,b,c,d,e,f]=>prI g .i64 a fun h=>prI g .i64 b fun i=>prI g .i64 c fun j=>prI g .i64 d fun l=>prI g .i64 e fun m=>prI g .i64 f fun o=>
  gb g (Q0P n h i j l m o (fun p q r2 r3=>some (p,q,r2,r3))) (0,0,0,0) fun r=>k ⟨.tup [.ag [.d (D.int .i64 r.1),.d (D.int .i64 r.2.1)],.ag [.d (D.int .i64 r.2.2.1),.d (D.int .i64 r.2.2.2)]],[],[]⟩
  | _=>none)
 | _=>none
theorem AD (n:Nat):Qo Tryz.prog 101 (NU n):=by
  intro R site g avs hl k r h
  unfold NU at h
  split at h
  rotate_left
  · cases h
  obtain ⟨l0,h,i⟩:=Qq h
  split at h
  rotate_left
  · cases h
  obtain ⟨a,h,j⟩:=Q2 h
  obtain ⟨b,h,l⟩:=Q2 h
  obtain ⟨c,h,m⟩:=Q2 h
  obtain ⟨d,h,o⟩:=Q2 h
  obtain ⟨e,h,p⟩:=Q2 h
  obtain ⟨f,h,q⟩:=Q2 h
  obtain ⟨res,h,hr⟩:=Qc h
  have hL:=h
  subst i
  refine ⟨_,hL,fun hg=>QI.conv (avs':=[.ag [.d (D.int .i64 a),.d (D.int .i64 b),.d (D.int .i64 c),.d (D.int .i64 d),.d (D.int .i64 e),.d (D.int .i64 f)]]) (.cons (.ag (.cons (j hg) (.cons (l hg) (.cons (m hg) (.cons (o hg) (.cons (p hg) (.cons (q hg) (.nil)))))))) (.nil)) (QE (K:=ER) (res:=res) (Q6N n) (fn:=Tryz.f101) (n:=n) (ss:=[[0,0],[0,0]]) ?_ ?_)⟩
  · exact (Q5Y n a b c d e f ER).trans (hr hg)
  · intro x hx
    unfold ER at hx
    split at hx
    · injection hx with hx;subst hx;rfl
    · cases hx
noncomputable def N3:Code:=Q8 Tryz.f103
noncomputable def Hx:Code:=cA [1,0,1,2,2] (Q8 Tryz.f103)
noncomputable def Ng:Code:=cA [1,1] (Q8 Tryz.f103)
def N8 (a:LL) (b c d e f g:Int):St:=⟨41,[(4,.ptr 4 0),(5,.ptr 5 0),(11,dL 6 a),(12,dI b),(13,dI c)],[(4,.box [dI d,dI e]),(5,.box [dI f,dI g])]⟩
def Nb (a:LL) (b c:Int) (d:Bool) (e f g h:Int):St:=⟨41,[(4,.ptr 4 0),(5,.ptr 5 0),(11,dL 6 a),(12,dI b),(13,dI c),(14,dB d)],[(4,.box [dI e,dI f]),(5,.box [dI g,dI h])]⟩
def YM (n:Nat):VC:=⟨QK [(101,NU n)],gtt,[cO 0 [0,4,5] [4,5],cO 1 [4,5,11,12,13] [4,5],cO 2 [4,5,11,12,13,14] [4,5],cO 3 [4,5,8,11,12,13] [4,5,8],cO 4 (4::5::rg1 9 5 []) [4,5,9,10],cO 5 [4,5,11,12,13,39] [4,5],cK 6 [6],cO 7 [4,5,11,12,13] [4,5],cK 8 [6]]⟩
theorem Q4p (n:Nat):VCOk Tryz.prog (YM n):=gVC (Qe ⟨AD n,trivial⟩)
theorem Q0d (n:Nat) (a0:LL) (a b c d:Int) (k:Exit→St→Option R):Qi (YM n) n N3 ⟨41,[(0,dL 6 a0),(1,.ag [dI a,dI b]),(2,.ag [dI c,dI d])],[]⟩ k=Ni n a0 a b c d (fun e=>X7 (lB (YM n) n Hx) n ⟨41,[(4,.ptr 4 0),(5,.ptr 5 0),(11,dL 6 a0),(12,dI e),(13,dI (0:Int))],[(4,.box [dI a,dI b]),(5,.box [dI c,dI d])]⟩ (Q9 0 (Xf (YM n) n Ng k))):=by kernel_rfl
theorem Q0h (n:Nat) (a0:LL) (a f b c d e:Int) (k:Exit→St→Option R):Qi (YM n) n Hx (N8 a0 a f b c d e) k=N0 n a0 a f b c d e (k .ret ⟨41,[(6,dB true)],[]⟩) (fun g=>k .normal (N8 a0 a g b c d e)) (fun h=>k (.exit 0) (Nb a0 a f h b c d e)):=by kernel_rfl
theorem Mv (n:Nat) (a0:LL) (b c d e f:Int) (k:Exit→St→Option R):∀ (m:Nat) (a:Int),X7 (lB (YM n) n Hx) m (N8 a0 b a c d e f) k=Hn n a0 b c d e f (k .ret ⟨41,[(6,dB true)],[]⟩) (fun a g=>k (.exit 0) (Nb a0 b a g c d e f)) m a
 | 0,_=>rfl
 | m+1,a=>(lS (by kernel_rfl) m k).trans ((Q0h n a0 b a c d e f (WB (lB (YM n) n Hx) m k)).trans (cg3 (fun h i j=>N0 n a0 b a c d e f h i j ) rfl (funext fun l=>Mv n a0 b c d e f k m l) rfl))
theorem Q0O (n:Nat) (a0:LL) (a b:Int) (c:Bool) (d e f g:Int) (k:Exit→St→Option R):(Q9 0 (Xf (YM n) n Ng k)) (.exit 0) (Nb a0 a b c d e f g)=DG n a0 a b c d e f g (k .ret ⟨41,[(6,dB false)],[]⟩):=by kernel_rfl
theorem Q0N (n:Nat) (a0:LL) (a b c d:Int) (k:Exit→St→Option R):Qi (YM n) n N3 ⟨41,[(0,dL 6 a0),(1,.ag [dI a,dI b]),(2,.ag [dI c,dI d])],[]⟩ k=Dx n a0 a b c d (fun g=>k .ret ⟨41,[(6,dB g)],[]⟩):=
 (Q0d n a0 a b c d k).trans (cg1 (fun e=>Ni n a0 a b c d e ) (funext fun f=>(Mv n a0 f a b c d (Q9 0 (Xf (YM n) n Ng k)) n (0:Int)).trans (cg2 (fun e h=>Hn n a0 f a b c d e h n (0:Int)) rfl (funext fun i=>funext fun j=>(Q0O n a0 f i j a b c d k)))))
theorem Q2F (n:Nat) (a0:LL) (a c d e:Int) (K:AV→Option R):vfn (YM n) n Tryz.f103 [.d (D.sl 6 a0),.ag [.d (D.int .i64 a),.d (D.int .i64 c)],.ag [.d (D.int .i64 d),.d (D.int .i64 e)]] [] (Wc [[0]] K)=KI n a0 a c d e (fun f=>K (.d (D.bool f))):=
 Eq.trans (b:=Qi (YM n) n N3 ⟨41,[(0,dL 6 a0),(1,.ag [dI a,dI c]),(2,.ag [dI d,dI e])],[]⟩ (K3 gtt [.tmp 6] (Wc [[0]] K))) VP ((Q0N n a0 a c d e (K3 gtt [.tmp 6] (Wc [[0]] K))).trans (by kernel_rfl))
def Mx (n:Nat):XH:=fun _ _ g avs _ k=>match avs with
 | [c0,c1,a]=>prS g 6 c0 fun a0=>
  prG c1 fun l1=>(match l1 with
  | [b,c]=>prI g .i64 b fun d=>prI g .i64 c fun e=>
  prG a fun l2=>(match l2 with
  | [f,h]=>prI g .i64 f fun i=>prI g .i64 h fun j=>
  gb g (KI n a0 d e i j some) false fun r=>k ⟨.d (D.bool r),[],[]⟩
  | _=>none)
  | _=>none)
 | _=>none
theorem Q4d (n:Nat):Qo Tryz.prog 103 (Mx n):=by
  intro R site g avs hl k r h
  unfold Mx at h
  split at h
  rotate_left
  · cases h
  obtain ⟨a0,h,e⟩:=Q1 h
  obtain ⟨l1,h,e1⟩:=Qq h
  split at h
  rotate_left
  · cases h
  obtain ⟨a,h,f⟩:=Q2 h
  obtain ⟨b,h,i⟩:=Q2 h
  obtain ⟨l2,h,e2⟩:=Qq h
  split at h
  rotate_left
  · cases h
  obtain ⟨c,h,j⟩:=Q2 h
  obtain ⟨d,h,l⟩:=Q2 h
  obtain ⟨res,h,hr⟩:=Qc h
  have hL:=h
  subst e1 e2
  refine ⟨_,hL,fun hg=>QI.conv (avs':=[.d (D.sl 6 a0),.ag [.d (D.int .i64 a),.d (D.int .i64 b)],.ag [.d (D.int .i64 c),.d (D.int .i64 d)]]) (.cons (e hg) (.cons (.ag (.cons (f hg) (.cons (i hg) (.nil)))) (.cons (.ag (.cons (j hg) (.cons (l hg) (.nil)))) (.nil)))) (QE (K:=kB) (res:=res) (Q4p n) (fn:=Tryz.f103) (n:=n) (ss:=[[0]]) ?_ ?_)⟩
  · exact (Q2F n a0 a b c d kB).trans (hr hg)
  · exact Da

noncomputable def Q7h:Code:=Q8 Tryz.f104
def Q1e (n:Nat):VC:=⟨QK [],gtt,[cO 0 [1,2] [2],cO 1 [1,2,7] [2],cK 2 [4],cK 3 [4]]⟩
theorem Q75 (n:Nat):VCOk Tryz.prog (Q1e n):=gVC (Qe trivial)
theorem Q5z (n:Nat) (a b d e f g:Int) (a1:LL) (K:AV→Option R):vfn (Q1e n) n Tryz.f104 [.ag [.d (D.int .i64 a),.d (D.int .i64 b),.d (D.int .i64 d),.d (D.int .i64 e),.d (D.int .i64 f),.d (D.int .i64 g)],.d (D.sl 6 a1)] [] (Wc [[0]] K)=KE n a b d e f g a1 (fun h=>K (.d (D.bool h))):=
 (VP (c:=Q7h) (m:=34) (tm:=[(0,.ag [dI a,dI b,dI d,dI e,dI f,dI g]),(1,dL 6 a1)]) (rs:=[.tmp 4]) (tt:=gtt)).trans (by kernel_rfl)
def EC (n:Nat):XH:=fun _ _ g avs _ k=>match avs with
 | [c0,c1]=>
  prG c0 fun l0=>(match l0 with
  | [a,b,c,d,e,f]=>prI g .i64 a fun h=>prI g .i64 b fun i=>prI g .i64 c fun j=>prI g .i64 d fun l=>prI g .i64 e fun m=>prI g .i64 f fun o=>prS g 6 c1 fun a1=>
  gb g (KE n h i j l m o a1 some) false fun r=>k ⟨.d (D.bool r),[],[]⟩
  | _=>none)
 | _=>none
theorem Q78 (n:Nat):Qo Tryz.prog 104 (EC n):=by
  intro R site g avs hl k r h
  unfold EC at h
  split at h
  rotate_left
  · cases h
  obtain ⟨l0,h,i⟩:=Qq h
  split at h
  rotate_left
  · cases h
  obtain ⟨a,h,j⟩:=Q2 h
  obtain ⟨b,h,l⟩:=Q2 h
  obtain ⟨c,h,m⟩:=Q2 h
  obtain ⟨d,h,o⟩:=Q2 h
  obtain ⟨e,h,p⟩:=Q2 h
  obtain ⟨f,h,q⟩:=Q2 h
  obtain ⟨a1,h,s⟩:=Q1 h
  obtain ⟨res,h,hr⟩:=Qc h
  have hL:=h
  subst i
  refine ⟨_,hL,fun hg=>QI.conv (avs':=[.ag [.d (D.int .i64 a),.d (D.int .i64 b),.d (D.int .i64 c),.d (D.int .i64 d),.d (D.int .i64 e),.d (D.int .i64 f)],.d (D.sl 6 a1)]) (.cons (.ag (.cons (j hg) (.cons (l hg) (.cons (m hg) (.cons (o hg) (.cons (p hg) (.cons (q hg) (.nil)))))))) (.cons (s hg) (.nil))) (QE (K:=kB) (res:=res) (Q75 n) (fn:=Tryz.f104) (n:=n) (ss:=[[0]]) ?_ ?_)⟩
  · exact (Q5z n a b c d e f a1 kB).trans (hr hg)
  · exact Da

noncomputable def CM:Code:=Q8 Tryz.f100
def Nx (n:Nat):VC:=⟨QK [],gtt,[cO 0 [2,3] [2,3],cK 1 [4]]⟩
theorem Bo (n:Nat):VCOk Tryz.prog (Nx n):=gVC (Qe trivial)
theorem DQ (n:Nat) (a b d e:LL) (f g h i j k:Int) (K:AV→Option R):vfn (Nx n) n Tryz.f100 [.ag [.d (D.sl 1 a),.d (D.sl 1 b),.d (D.sl 5 d),.d (D.sl 6 e)],.ag [.d (D.int .i64 f),.d (D.int .i64 g),.d (D.int .i64 h),.d (D.int .i64 i),.d (D.int .i64 j),.d (D.int .i64 k)]] [] (Wc [[0]] K)=YP n a b d e f g h i j k (fun l=>K (.d (D.bool l))):=
 (VP (c:=CM) (m:=77) (tm:=[(0,.ag [dL 1 a,dL 1 b,dL 5 d,dL 6 e]),(1,.ag [dI f,dI g,dI h,dI i,dI j,dI k])]) (rs:=[.tmp 4]) (tt:=gtt)).trans (by kernel_rfl)
def H6 (n:Nat):XH:=fun _ _ g avs _ k=>match avs with
 | [c0,c1]=>
  prG c0 fun l0=>(match l0 with
  | [a,b,c,d]=>prS g 1 a fun e=>prS g 1 b fun f=>prS g 5 c fun h=>prS g 6 d fun i=>
  prG c1 fun l1=>(match l1 with
  | [j,l,m,o,p,q]=>prI g .i64 j fun s=>prI g .i64 l fun t=>prI g .i64 m fun u=>prI g .i64 o fun v=>prI g .i64 p fun w=>prI g .i64 q fun x=>
  gb g (YP n e f h i s t u v w x some) false fun r=>k ⟨.d (D.bool r),[],[]⟩
  | _=>none)
  | _=>none)
 | _=>none
theorem CV (n:Nat):Qo Tryz.prog 100 (H6 n):=by
  intro R site g avs hl k r h
  unfold H6 at h
  split at h
  rotate_left
  · cases h
  obtain ⟨l0,h,o⟩:=Qq h
  split at h
  rotate_left
  · cases h
  obtain ⟨a,h,p⟩:=Q1 h
  obtain ⟨b,h,q⟩:=Q1 h
  obtain ⟨c,h,s⟩:=Q1 h
  obtain ⟨d,h,t⟩:=Q1 h
  obtain ⟨l1,h,e1⟩:=Qq h
  split at h
  rotate_left
  · cases h
  obtain ⟨e,h,u⟩:=Q2 h
  obtain ⟨f,h,v⟩:=Q2 h
  obtain ⟨i,h,w⟩:=Q2 h
  obtain ⟨j,h,x⟩:=Q2 h
  obtain ⟨l,h,y⟩:=Q2 h
  obtain ⟨m,h,z⟩:=Q2 h
  obtain ⟨res,h,hr⟩:=Qc h
  have hL:=h
  subst o e1
  refine ⟨_,hL,fun hg=>QI.conv (avs':=[.ag [.d (D.sl 1 a),.d (D.sl 1 b),.d (D.sl 5 c),.d (D.sl 6 d)],.ag [.d (D.int .i64 e),.d (D.int .i64 f),.d (D.int .i64 i),.d (D.int .i64 j),.d (D.int .i64 l),.d (D.int .i64 m)]]) (.cons (.ag (.cons (p hg) (.cons (q hg) (.cons (s hg) (.cons (t hg) (.nil)))))) (.cons (.ag (.cons (u hg) (.cons (v hg) (.cons (w hg) (.cons (x hg) (.cons (y hg) (.cons (z hg) (.nil)))))))) (.nil))) (QE (K:=kB) (res:=res) (Bo n) (fn:=Tryz.f100) (n:=n) (ss:=[[0]]) ?_ ?_)⟩
  · exact (DQ n a b c d e f i j l m kB).trans (hr hg)
  · exact Da

end Go.Vx
namespace Go.Vx
variable {R:Type}
def Hv (n:Nat) (a b:Int) (K:Int→Option R):Option R:=
 K (IntKind.wrap .i64 ((IntKind.wrap .i64 ((2:Int)*a))+b))
end Go.Vx
set_option maxRecDepth 100000
namespace Go.Vx
open Go.Proofs
variable {R:Type}
noncomputable def Q0k:Code:=Q8 Tryz.f102
def Lz (n:Nat):VC:=⟨QK [],gtt,[cO 0 [1] [1],cK 1 [2]]⟩
theorem Q0g (n:Nat):VCOk Tryz.prog (Lz n):=gVC (Qe trivial)
theorem Ax (n:Nat) (a b:Int) (K:AV→Option R):vfn (Lz n) n Tryz.f102 [.ag [.d (D.int .i64 a),.d (D.int .i64 b)]] [] (Wc [[0]] K)=Hv n a b (fun d=>K (.d (D.int .i64 d))):=
 (VP (c:=Q0k) (m:=9) (tm:=[(0,.ag [dI a,dI b])]) (rs:=[.tmp 2]) (tt:=gtt)).trans (by kernel_rfl)
def Tv (n:Nat):XH:=fun _ _ g avs _ k=>match avs with
 | [c0]=>
  prG c0 fun l0=>(match l0 with
  | [a,b]=>prI g .i64 a fun c=>prI g .i64 b fun d=>
  gb g (Hv n c d some) 0 fun r=>k ⟨.d (D.int .i64 r),[],[]⟩
  | _=>none)
 | _=>none
theorem Q0Z (n:Nat):Qo Tryz.prog 102 (Tv n):=by
  intro R site g avs hl k r h
  unfold Tv at h
  split at h
  rotate_left
  · cases h
  obtain ⟨l0,h,c⟩:=Qq h
  split at h
  rotate_left
  · cases h
  obtain ⟨a,h,d⟩:=Q2 h
  obtain ⟨b,h,e⟩:=Q2 h
  obtain ⟨res,h,hr⟩:=Qc h
  have hL:=h
  subst c
  refine ⟨_,hL,fun hg=>QI.conv (avs':=[.ag [.d (D.int .i64 a),.d (D.int .i64 b)]]) (.cons (.ag (.cons (d hg) (.cons (e hg) (.nil)))) (.nil)) (QE (K:=kI) (res:=res) (Q0g n) (fn:=Tryz.f102) (n:=n) (ss:=[[0]]) ?_ ?_)⟩
  · exact (Ax n a b kI).trans (hr hg)
  · exact NW
end Go.Vx
