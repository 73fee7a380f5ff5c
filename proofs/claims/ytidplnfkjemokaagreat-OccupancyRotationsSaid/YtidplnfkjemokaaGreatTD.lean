/- Part of a proof. No conditions of their own. -/
import Derived.Test.YtidplnfkjemokaaGreatTB
import Derived.Test.YtidplnfkjemokaaGreatTA
set_option linter.unusedVariables false
set_option linter.unusedSimpArgs false
namespace Go.Vx
variable {R:Type}
def BC (n:Nat) (a0 a1:Int) (K:Int→Option R):Option R:=
 gb true (nz (IntKind.wrap .u64 a1)) () fun a=>
 K (IntKind.wrap .i64 (Int.tmod (IntKind.wrap .u64 a0) (IntKind.wrap .u64 a1)))
def Qb (n:Nat) (a:LL) (b a1:Int) (K:Int→LL→Int→Option R):Option R:=
 bif (decide (b≥((List.length a:Nat):Int))) then
  K (0:Int) a b
 else
  gb true (X2 a (IntKind.wrap .i64 ((IntKind.wrap .i64 (b+(1:Int)))-(1:Int)))) [] fun c=>
  gb true (c[0]?) (.bool false) fun d=>
  gb true (XL .i64 d) 0 fun e=>
  gb true (BC n e a1 some) 0 fun f=>
  K f a (IntKind.wrap .i64 (b+(1:Int)))

def WO (n:Nat) (c:LL) (d:Int) (a1:List UInt8) (e:Int) (K:(List UInt8)→Int→Int→Int→Int→LL→Int→Option R):Option R:=
 gb true (Qb n c d (9:Int) (fun b a r2=>some (b,a,r2))) (0,[],0) fun a=>
 gb true (Qb n a.2.1 a.2.2 (7:Int) (fun b a r2=>some (b,a,r2))) (0,[],0) fun r2=>
 gb true (Qb n r2.2.1 r2.2.2 (21:Int) (fun b a r2=>some (b,a,r2))) (0,[],0) fun r3=>
 K a1 (IntKind.wrap .i64 ((2:Int)+a.1)) (IntKind.wrap .i64 ((5000:Int)+(IntKind.wrap .i64 ((5000:Int)*r2.1)))) (IntKind.wrap .i64 (r3.1-(10:Int))) e r3.2.1 r3.2.2

def Jd (n:Nat) (a0:List UInt8) (a1:Int) (K:(List UInt8)→Option R):Option R:=
 gb true (nz (10:Int)) () fun a=>
 gb true (nz (10:Int)) () fun b=>
 gb true (slB (List.length (bs [48,49,50,51,52,53,54,55,56,57])) (some (Int.tmod a1 (10:Int))) (some (IntKind.wrap .i64 ((Int.tmod a1 (10:Int))+(1:Int))))) (0,0) fun q3=>
 gb true (QcX (List.length a0+List.length (cut (bs [48,49,50,51,52,53,54,55,56,57]) q3))) () fun c=>
 K (a0++(cut (bs [48,49,50,51,52,53,54,55,56,57]) q3))

def Zs (n:Nat) (q1 q2 q3 q4 f g q7:LL) (a:List UInt8) (b c d e:Int) (K:Int→LL→LL→LL→LL→LL→LL→LL→Option R):Option R:=
 gb true (R0 ((List.length q3+List.length [[D.str a,D.int .i64 b,D.int .i64 c,D.int .i64 d,D.int .i64 e]])*48)) () fun h=>
 K (IntKind.wrap .i64 (((List.length (q3++[[D.str a,D.int .i64 b,D.int .i64 c,D.int .i64 d,D.int .i64 e]]):Nat):Int)-(1:Int))) q1 q2 (q3++[[D.str a,D.int .i64 b,D.int .i64 c,D.int .i64 d,D.int .i64 e]]) q4 f g q7

def Yc (n:Nat) (q1 q2 q3 q4 d e q7:LL) (a1 a b c:Int) (K:LL→LL→LL→LL→LL→LL→LL→Option R):Option R:=
 gb true (R0 ((List.length q4+List.length [[D.int .i64 a1,D.int .i64 (1:Int),D.int .i64 a,D.int .i64 (0:Int),D.int .i64 b,D.int .i64 c]])*48)) () fun f=>
 K q1 q2 q3 (q4++[[D.int .i64 a1,D.int .i64 (1:Int),D.int .i64 a,D.int .i64 (0:Int),D.int .i64 b,D.int .i64 c]]) d e q7

def Zv (n:Nat) (q1 q2 q3 q4 b c q7:LL) (K:Int→LL→LL→LL→LL→LL→LL→LL→Option R):Option R:=
 gb true (Jd n (bs [80]) ((List.length q2:Nat):Int) some) [] fun a=>
 gb true (R0 ((List.length q2+List.length [[D.str a]])*16)) () fun d=>
 K (IntKind.wrap .i64 (((List.length (q2++[[D.str a]]):Nat):Int)-(1:Int))) q1 (q2++[[D.str a]]) q3 q4 b c q7

def Gr (n:Nat) (a1:Int) (a:LL) (b:Bool) (q1 q2 q3 q4 c d q7:LL) (k0:Option R):Option R:=
 k0
def Gs (n:Nat) (a1:Int) (b:LL) (j:Bool) (q1 q2 q3 q4 c d q7:LL) (k0:Int→LL→LL→LL→LL→LL→LL→LL→Option R) (k1:Bool→Option R):Option R:=
 bif (decide (((List.length b:Nat):Int)>(1:Int))) then
  gb true (Zv n q1 q2 q3 q4 c d q7 (fun e a r2 r3 f g h i=>some (e,a,r2,r3,f,g,h,i))) (0,[],[],[],[],[],[],[]) fun a=>
  k0 a.1 a.2.1 a.2.2.1 a.2.2.2.1 a.2.2.2.2.1 a.2.2.2.2.2.1 a.2.2.2.2.2.2.1 a.2.2.2.2.2.2.2
 else
  k1 (decide (((List.length b:Nat):Int)>(1:Int)))
def Gu (n:Nat) (a1:Int) (a:LL) (b:Bool) (c:Int) (d e f g h i j:LL) (k0:Int→Option R):Option R:=
 k0 ((List.length a:Nat):Int)
def Zf (n:Nat) (a1:Int) (i:LL) (t:Bool) (j k a:Int) (l m o p q r s:LL) (k0:Int→LL→LL→LL→LL→LL→LL→LL→Option R) (k1:Bool→Option R):Option R:=
 bif (decide (a<k)) then
  bif t then
   gb true (X2 i a) [] fun u=>
   gb true (u[0]?) (.bool false) fun v=>
   gb true (XL .i64 v) 0 fun w=>
   gb true (Yc n l m o p q r s a1 w j a (fun d e r2 r3 f g h=>some (d,e,r2,r3,f,g,h))) ([],[],[],[],[],[],[]) fun b=>
   k0 (IntKind.wrap .i64 (a+(1:Int))) b.1 b.2.1 b.2.2.1 b.2.2.2.1 b.2.2.2.2.1 b.2.2.2.2.2.1 b.2.2.2.2.2.2
  else
   gb true (X2 i a) [] fun x=>
   gb true (x[0]?) (.bool false) fun y=>
   gb true (XL .i64 y) 0 fun z=>
   gb true (Yc n l m o p q r s z a1 j a (fun d e r2 r3 f g h=>some (d,e,r2,r3,f,g,h))) ([],[],[],[],[],[],[]) fun c=>
   k0 (IntKind.wrap .i64 (a+(1:Int))) c.1 c.2.1 c.2.2.1 c.2.2.2.1 c.2.2.2.2.1 c.2.2.2.2.2.1 c.2.2.2.2.2.2
 else
  k1 (decide (a<k))
def Yb (n:Nat) (a1:Int) (a:LL) (b:Bool) (c d:Int) (k0:Int→Bool→LL→LL→LL→LL→LL→LL→LL→Option R):Nat→Int→LL→LL→LL→LL→LL→LL→LL→Option R
 | 0,_,_,_,_,_,_,_,_=>none
 | m+1,e,f,g,h,i,j,k,l=>
  Zf n a1 a b c d e f g h i j k l
   (fun o p q r s t u v=>
   Yb n a1 a b c d k0 m o p q r s t u v)
   (fun w=>
   k0 e w f g h i j k l)
def Ga (n:Nat) (a1:Int) (a:LL) (b c:Bool) (q1 q2 q3 q4 d e q7:LL) (k0:Int→Option R):Option R:=
 k0 ((List.length a:Nat):Int)
def Ze (n:Nat) (a1:Int) (i:LL) (s:Bool) (j a:Int) (k l m o p q r:LL) (k0:Int→LL→LL→LL→LL→LL→LL→LL→Option R) (k1:Bool→Option R):Option R:=
 bif (decide (a<j)) then
  bif s then
   gb true (X2 i a) [] fun t=>
   gb true (t[0]?) (.bool false) fun u=>
   gb true (XL .i64 u) 0 fun v=>
   gb true (Yc n k l m o p q r a1 v (-1:Int) a (fun d e r2 r3 f g h=>some (d,e,r2,r3,f,g,h))) ([],[],[],[],[],[],[]) fun b=>
   k0 (IntKind.wrap .i64 (a+(1:Int))) b.1 b.2.1 b.2.2.1 b.2.2.2.1 b.2.2.2.2.1 b.2.2.2.2.2.1 b.2.2.2.2.2.2
  else
   gb true (X2 i a) [] fun w=>
   gb true (w[0]?) (.bool false) fun x=>
   gb true (XL .i64 x) 0 fun y=>
   gb true (Yc n k l m o p q r y a1 (-1:Int) a (fun d e r2 r3 f g h=>some (d,e,r2,r3,f,g,h))) ([],[],[],[],[],[],[]) fun c=>
   k0 (IntKind.wrap .i64 (a+(1:Int))) c.1 c.2.1 c.2.2.1 c.2.2.2.1 c.2.2.2.2.1 c.2.2.2.2.2.1 c.2.2.2.2.2.2
 else
  k1 (decide (a<j))
def Ya (n:Nat) (a1:Int) (a:LL) (b:Bool) (c:Int) (k0:Int→Bool→LL→LL→LL→LL→LL→LL→LL→Option R):Nat→Int→LL→LL→LL→LL→LL→LL→LL→Option R
 | 0,_,_,_,_,_,_,_,_=>none
 | m+1,d,e,f,g,h,i,j,k=>
  Ze n a1 a b c d e f g h i j k
   (fun l o p q r s t u=>
   Ya n a1 a b c k0 m l o p q r s t u)
   (fun v=>
   k0 d v e f g h i j k)
def Sr (n:Nat) (a1:Int) (a:LL) (b:Bool) (q1 q2 q3 q4 c d q7:LL) (k0:Int→Int→Int→Bool→LL→LL→LL→LL→LL→LL→LL→Option R):Option R:=
 Gr n a1 a b q1 q2 q3 q4 c d q7
  (Gs n a1 a b q1 q2 q3 q4 c d q7
   (fun e f g h i j k l=>
   Gu n a1 a b e f g h i j k l
    (fun m=>
    Yb n a1 a b e m
     (fun p q r s t u v w x=>
     k0 e m p q r s t u v w x)
     n (0:Int) f g h i j k l))
   (fun y=>
   Ga n a1 a b y q1 q2 q3 q4 c d q7
    (fun o=>
    Ya n a1 a b o
     (fun z aa ab ac ad ae af ag ah=>
     k0 (-1:Int) o z aa ab ac ad ae af ag ah)
     n (0:Int) q1 q2 q3 q4 c d q7)))
def Vc (n:Nat) (q1 q2 q3 q4 a b q7:LL) (a1:Int) (c:LL) (d:Bool) (K:LL→LL→LL→LL→LL→LL→LL→Option R):Option R:=
 Sr n a1 c d q1 q2 q3 q4 a b q7
  (fun l m o p e f g h i j k=>K e f g h i j k)

def D4 (n:Nat) (b:LL) (c:Int) (k0:Int→LL→Int→Option R):Option R:=
 gb true (Qb n b c (2:Int) (fun d a r2=>some (d,a,r2))) (0,[],0) fun a=>
 k0 (IntKind.wrap .i64 ((2:Int)+a.1)) a.2.1 a.2.2
def Mr (n:Nat) (c a:Int) (d j k l m o p f:LL) (g:Int) (k0:Int→LL→LL→Int→Option R) (k1:Bool→Option R):Option R:=
 bif (decide (a<c)) then
  gb true (Jd n (bs [83]) a some) [] fun e=>
  gb true (R0 ((List.length d+List.length [[D.str e]])*16)) () fun q=>
  gb true (Qb n f g (2:Int) (fun h i r2=>some (h,i,r2))) (0,[],0) fun b=>
  k0 (IntKind.wrap .i64 ((1:Int)+b.1)) (d++[[D.str e]]) b.2.1 b.2.2
 else
  k1 (decide (a<c))
def MZ (n:Nat) (x i c:Int) (k j l m o p q r s:LL) (t:Int) (k0:Int→LL→LL→LL→LL→LL→LL→LL→LL→LL→Int→Option R) (k1:Bool→Option R):Option R:=
 bif (decide (c>(0:Int))) then
  gb true (Jd n (bs [84]) i some) [] fun u=>
  gb true (Jd n u c some) [] fun v=>
  gb true (WO n s t v i (fun d e r2 r3 f g h=>some (d,e,r2,r3,f,g,h))) ([],0,0,0,0,[],0) fun b=>
  gb true (Zs n k l m o p q r b.1 (IntKind.wrap .i64 (b.2.1+(2:Int))) b.2.2.1 b.2.2.2.1 b.2.2.2.2.1 (fun d e r2 r3 f g h w=>some (d,e,r2,r3,f,g,h,w))) (0,[],[],[],[],[],[],[]) fun a=>
  gb true (R0 ((List.length j+List.length [[D.int .i64 a.1]])*8)) () fun y=>
  k0 (IntKind.wrap .i64 (c-(1:Int))) (j++[[D.int .i64 a.1]]) a.2.1 a.2.2.1 a.2.2.2.1 a.2.2.2.2.1 a.2.2.2.2.2.1 a.2.2.2.2.2.2.1 a.2.2.2.2.2.2.2 b.2.2.2.2.2.1 b.2.2.2.2.2.2
 else
  k1 (decide (c>(0:Int)))
def MP (n:Nat) (a b:Int) (k0:Int→Bool→LL→LL→LL→LL→LL→LL→LL→LL→LL→Int→Option R):Nat→Int→LL→LL→LL→LL→LL→LL→LL→LL→LL→Int→Option R
 | 0,_,_,_,_,_,_,_,_,_,_,_=>none
 | m+1,c,d,e,f,g,h,i,j,k,l,o=>
  MZ n a b c d e f g h i j k l o
   (fun p q r s t u v w x y z=>
   MP n a b k0 m p r q s t u v w x y z)
   (fun aa=>
   k0 c aa d e f g h i j k l o)
def AP (n:Nat) (d c e:Int) (f:Bool) (g a h i j b k l m:LL) (o:Int) (k0:Int→LL→Option R):Option R:=
 gb true (R0 ((List.length b+List.length [[D.sl 1 a]])*24)) () fun p=>
 k0 (IntKind.wrap .i64 (c+(1:Int))) (b++[[D.sl 1 a]])
def SA (n:Nat) (a b:Int) (r c d e f g h s:LL) (t:Int) (k0:Int→LL→LL→LL→LL→LL→LL→LL→LL→Int→Option R) (k1:Bool→Option R):Option R:=
 Mr n a b r c d e f g h s t
  (fun u v w x=>
  MP n a b
   (fun y z i aa j k l ab m o p q=>
   AP n a b y z i aa j k l ab m o p q
    (fun ac ad=>
    k0 ac i ad j k l m o p q))
   n u v [] c d e f g h w x)
  (fun ae=>
  k1 ae)
def Ko (n:Nat) (a:Int) (k0:Int→Bool→LL→LL→LL→LL→LL→LL→LL→LL→Int→Option R):Nat→Int→LL→LL→LL→LL→LL→LL→LL→LL→Int→Option R
 | 0,_,_,_,_,_,_,_,_,_,_=>none
 | m+1,b,c,d,e,f,g,h,i,j,k=>
  SA n a b c d e f g h i j k
   (fun l o p q r s t u v w=>
   Ko n a k0 m l o q r s p t u v w)
   (fun x=>
   k0 b x c d e f g h i j k)
def HW (n:Nat) (a b:Int) (c:Bool) (d e f g h i j k:LL) (l:Int) (k0:Option R):Option R:=
 k0
def Lb (n:Nat) (b c:Int) (h i j k l m o d:LL) (e:Int) (k0:Int→LL→Int→Option R) (k1:Bool→Option R):Option R:=
 bif (decide ((IntKind.wrap .i64 (c+(1:Int)))<b)) then
  gb true (Qb n d e (2:Int) (fun f g r2=>some (f,g,r2))) (0,[],0) fun a=>
  k0 (IntKind.wrap .i64 ((1:Int)+a.1)) a.2.1 a.2.2
 else
  k1 (decide ((IntKind.wrap .i64 (c+(1:Int)))<b))
def RE (n:Nat) (x j c:Int) (i k l m o p q r s:LL) (t:Int) (k0:Int→LL→LL→LL→LL→LL→LL→LL→LL→LL→Int→Option R) (k1:Bool→Option R):Option R:=
 bif (decide (c>(0:Int))) then
  gb true (Jd n (bs [76]) j some) [] fun u=>
  gb true (Jd n u c some) [] fun v=>
  gb true (WO n s t v (-1:Int) (fun d e r2 r3 f g h=>some (d,e,r2,r3,f,g,h))) ([],0,0,0,0,[],0) fun b=>
  gb true (Zs n k l m o p q r b.1 b.2.1 b.2.2.1 b.2.2.2.1 b.2.2.2.2.1 (fun d e r2 r3 f g h w=>some (d,e,r2,r3,f,g,h,w))) (0,[],[],[],[],[],[],[]) fun a=>
  gb true (R0 ((List.length i+List.length [[D.int .i64 a.1]])*8)) () fun y=>
  k0 (IntKind.wrap .i64 (c-(1:Int))) (i++[[D.int .i64 a.1]]) a.2.1 a.2.2.1 a.2.2.2.1 a.2.2.2.2.1 a.2.2.2.2.2.1 a.2.2.2.2.2.2.1 a.2.2.2.2.2.2.2 b.2.2.2.2.2.1 b.2.2.2.2.2.2
 else
  k1 (decide (c>(0:Int)))
def RH (n:Nat) (a b:Int) (k0:Int→Bool→LL→LL→LL→LL→LL→LL→LL→LL→LL→Int→Option R):Nat→Int→LL→LL→LL→LL→LL→LL→LL→LL→LL→Int→Option R
 | 0,_,_,_,_,_,_,_,_,_,_,_=>none
 | m+1,c,d,e,f,g,h,i,j,k,l,o=>
  RE n a b c d e f g h i j k l o
   (fun p q r s t u v w x y z=>
   RH n a b k0 m p q r s t u v w x y z)
   (fun aa=>
   k0 c aa d e f g h i j k l o)
def LF (n:Nat) (a b c:Int) (d:Bool) (e f g h i j k l m:LL) (o:Int) (k0:Option R):Option R:=
 k0
def BH (n:Nat) (w x a:Int) (c d e f g h i j y:LL) (z:Int) (k0:Int→LL→LL→LL→LL→LL→LL→LL→Option R) (k1:Bool→Option R):Option R:=
 bif (decide ((IntKind.wrap .i64 (a+(1:Int)))<((List.length c:Nat):Int))) then
  gb true (inB (List.length c) a) () fun aa=>
  gb true (c[(Int.toNat a)]?) [] fun k=>
  gb true (k[0]?) (.bool false) fun l=>
  gb true (XL .i64 l) 0 fun m=>
  gb true (inB (List.length c) (IntKind.wrap .i64 (a+(1:Int)))) () fun ab=>
  gb true (c[(Int.toNat (IntKind.wrap .i64 (a+(1:Int))))]?) [] fun o=>
  gb true (o[0]?) (.bool false) fun p=>
  gb true (XL .i64 p) 0 fun q=>
  gb true (Yc n d e f g h i j m q (-1:Int) (0:Int) (fun r s r2 r3 t u v=>some (r,s,r2,r3,t,u,v))) ([],[],[],[],[],[],[]) fun b=>
  k0 (IntKind.wrap .i64 (a+(1:Int))) b.1 b.2.1 b.2.2.1 b.2.2.2.1 b.2.2.2.2.1 b.2.2.2.2.2.1 b.2.2.2.2.2.2
 else
  k1 (decide ((IntKind.wrap .i64 (a+(1:Int)))<((List.length c:Nat):Int)))
def Rw (n:Nat) (a b:Int) (c d:LL) (e:Int) (k0:Int→Bool→LL→LL→LL→LL→LL→LL→LL→Option R):Nat→Int→LL→LL→LL→LL→LL→LL→LL→Option R
 | 0,_,_,_,_,_,_,_,_=>none
 | m+1,f,g,h,i,j,k,l,o=>
  BH n a b f c g h i j k l o d e
   (fun p q r s t u v w=>
   Rw n a b c d e k0 m p q r s t u v w)
   (fun x=>
   k0 f x g h i j k l o)
def B6 (n:Nat) (w5 d ae:Int) (af:Bool) (b k l m o e p q ag:LL) (ah:Int) (k0:Int→LL→LL→LL→LL→LL→LL→LL→Option R):Option R:=
 gb true (inB (List.length b) (0:Int)) () fun ai=>
 gb true (b[(Int.toNat (0:Int))]?) [] fun r=>
 gb true (r[0]?) (.bool false) fun s=>
 gb true (XL .i64 s) 0 fun t=>
 gb true (inB (List.length e) d) () fun aj=>
 gb true (e[(Int.toNat d)]?) [] fun u=>
 gb true (u[0]?) (.bool false) fun v=>
 gb true (pSl 1 v) [] fun w=>
 gb true (Vc n k l m o e p q t w false (fun f g r2 r3 h i j=>some (f,g,r2,r3,h,i,j))) ([],[],[],[],[],[],[]) fun a=>
 gb true (inB (List.length b) (IntKind.wrap .i64 (((List.length b:Nat):Int)-(1:Int)))) () fun ak=>
 gb true (b[(Int.toNat (IntKind.wrap .i64 (((List.length b:Nat):Int)-(1:Int))))]?) [] fun x=>
 gb true (x[0]?) (.bool false) fun y=>
 gb true (XL .i64 y) 0 fun z=>
 gb true (inB (List.length a.2.2.2.2.1) (IntKind.wrap .i64 (d+(1:Int)))) () fun al=>
 gb true (a.2.2.2.2.1[(Int.toNat (IntKind.wrap .i64 (d+(1:Int))))]?) [] fun aa=>
 gb true (aa[0]?) (.bool false) fun ab=>
 gb true (pSl 1 ab) [] fun ac=>
 gb true (Vc n a.1 a.2.1 a.2.2.1 a.2.2.2.1 a.2.2.2.2.1 a.2.2.2.2.2.1 a.2.2.2.2.2.2 z ac true (fun f g r2 r3 h i j=>some (f,g,r2,r3,h,i,j))) ([],[],[],[],[],[],[]) fun c=>
 gb true (R0 ((List.length c.2.2.2.2.2.1+List.length [[D.sl 1 b]])*24)) () fun am=>
 k0 (IntKind.wrap .i64 (d+(1:Int))) (c.2.2.2.2.2.1++[[D.sl 1 b]]) c.1 c.2.1 c.2.2.1 c.2.2.2.1 c.2.2.2.2.1 c.2.2.2.2.2.2
def Kt (n:Nat) (a b:Int) (f g h i j k l u:LL) (v:Int) (k0:Int→LL→LL→LL→LL→LL→LL→LL→LL→Int→Option R) (k1:Bool→Option R):Option R:=
 Lb n a b f g h i j k l u v
  (fun w x y=>
  RH n a b
   (fun z aa e m o p q r s t c d=>
   LF n a b z aa e m o p q r s t c d
    (Rw n a b e c d
     (fun ab ac ad ae af ag ah ai aj=>
     B6 n a b ab ac e ad ae af ag ah ai aj c d
      (fun ak al am an ao ap aq ar=>
      k0 ak al am an ao ap aq ar c d))
     n (0:Int) m o p q r s t))
   n w [] f g h i j k l x y)
  (fun au=>
  k1 au)
def UF (n:Nat) (a:Int) (k0:Int→Bool→LL→LL→LL→LL→LL→LL→LL→LL→Int→Option R):Nat→Int→LL→LL→LL→LL→LL→LL→LL→LL→Int→Option R
 | 0,_,_,_,_,_,_,_,_,_,_=>none
 | m+1,b,c,d,e,f,g,h,i,j,k=>
  Kt n a b c d e f g h i j k
   (fun l o p q r s t u v w=>
   UF n a k0 m l p q r s t o u v w)
   (fun x=>
   k0 b x c d e f g h i j k)
def Tb (n:Nat) (a b:Int) (c:Bool) (d e f g h i j k:LL) (l:Int) (k0:Option R):Option R:=
 k0
def BV (n:Nat) (u:LL) (v:Int) (k0:LL→LL→LL→LL→LL→LL→LL→LL→Int→Option R):Option R:=
 D4 n u v
  (fun a w w7=>
  Ko n a
   (fun x y b c d e f g h i j=>
   HW n a x y b c d e f g h i j
    (UF n a
     (fun z aa k l m o p q r s t=>
     Tb n a z aa k l m o p q r s t
      (k0 k l m o p q r s t))
     n (0:Int) b c d e f g h i j))
   n (0:Int) [] [] [] [] [] [] [] w w7)
def Q1W (n:Nat) (a:LL) (b:Int) (K:LL→LL→LL→LL→LL→LL→LL→LL→Int→Option R):Option R:=
 BV n a b
  (fun c d e f g h i j k=>K c d e f g h i j k)

end Go.Vx
namespace Go.Vx
section
variable {R:Type}
theorem Qah (x:Int):0≤IntKind.wrap .u64 x:=by
  have:=Int.emod_nonneg x (show (18446744073709551616:Int)≠0 by decide)
  simpa [IntKind.wrap,IntKind.bits,IntKind.signed] using this
theorem Qfb {x:Int} (a:0≤x) (b:x<18446744073709551616):IntKind.wrap .u64 x=x:=by
  have:=Int.emod_eq_of_lt a b
  simpa [IntKind.wrap,IntKind.bits,IntKind.signed] using this
def pick (v m:Int):Int:=(IntKind.wrap .u64 v).tmod m
theorem Q36 (v:Int) {m:Int} (h:0<m):0≤pick v m∧pick v m<m:=by
  unfold pick
  rw [Int.tmod_eq_emod_of_nonneg (Qah v)]
  exact ⟨Int.emod_nonneg _ (by omega),Int.emod_lt_of_pos _ h⟩
theorem QhW (n:Nat) (v:Int) {m:Int} (h:0<m) (hm:m≤9223372036854775807) (K:Int→Option R):BC n v m K=K (pick v m):=by
  unfold BC
  rw [Qfb (x:=m) (by omega) (by omega),QeV (by omega)]
  simp -implicitDefEqProofs only [Q0]
  have:=Q36 v h
  unfold pick at this ⊢
  rw [Q8k (by omega) (by omega)]
theorem Qf0 (n:Nat) {l:List Int} (hl:l.length≤9223372036854775807) {i:Nat} (hi:i≤l.length) {m:Int} (h:0<m) (hm:m≤9223372036854775807) :
    ∃ (v:Int) (j:Nat),0≤v∧v<m∧j≤l.length∧∀ (R:Type) (K:Int→List (List D)→Int→Option R),Qb n (encI l) i m K=K v (encI l) j:=by
  by_cases hlt:i<l.length
  · have hg:=List.getElem?_eq_getElem hlt
    refine ⟨pick l[i] m,i+1,(Q36 _ h).1,(Q36 _ h).2,by omega,fun R K=>?_⟩
    unfold Qb
    rw [XF (by simp [Q6t];omega),Q8k (x:=(i:Int)+1) (by omega) (by omega),Q8k (by omega) (by omega)]
    rw [show (i:Int)+1-1=(i:Int) by omega,Qf8 hg]
    simp -implicitDefEqProofs only [Q0,List.getElem?_cons_zero,QN,QhW n _ h hm]
    rfl
  · refine ⟨0,i,by omega,h,hi,fun R K=>?_⟩
    unfold Qb
    rw [U9 (by simp [Q6t];omega)]
end
def OkP {R:Type} (P:R→Prop) (E:Option R):Prop:=∃ v,E=some v∧P v
instance {R:Type}:Membership (Option R) (R→Prop):=⟨fun P E=>OkP P E⟩
theorem okI {R:Type} {P:R→Prop} {v:R} (h:P v):some v∈P:=⟨v,rfl,h⟩
theorem okB {R S:Type} {P:S→Prop} {E:Option R} {z:R} {f:R→Option S} (h:E∈(fun v=>f v∈P:R→Prop)):gb true E z f∈P:=by
  obtain ⟨v,e,h⟩:=h
  rw [e]
  exact h
theorem okS {R:Type} {E:Option R} {r:R} (h:E∈(fun v=>v=r:R→Prop)):E=some r:=by
  obtain ⟨v,e,rfl⟩:=h
  exact e
theorem Jk {R:Type} {n:Nat} {l:List Int} (hl:l.length≤9223372036854775807) {i:Nat} (hi:i≤l.length) {m:Int} (h:0<m) (hm:m≤9223372036854775807) {z:Int × LL × Int} {f:Int × LL × Int→Option R} {P:R→Prop}
    (H:∀ (v:Int) (j:Nat),0≤v→v<m→j≤l.length→f (v,encI l,(j:Int))∈P) :
    gb true (Qb n (encI l) (i:Int) m (fun a b r2=>some (a,b,r2))) z f∈P:=by
  obtain ⟨v,j,c,d,hj,e⟩:=Qf0 n hl hi h hm
  rw [e]
  exact H v j c d hj
structure Num (a b c:Int):Prop where
  a0:2≤a
  a1:a≤10
  b0:5000≤b
  b1:b≤35000
  c0 : -10≤c
  c1:c≤10
theorem ZB {x:Int} (a : -9223372036854775808≤x) (b:x≤9223372036854775807):IntKind.wrap .i64 x=x:=by
  simp only [IntKind.wrap_i64];omega
theorem QgQ {R:Type} {n:Nat} {l:List Int} (hl:l.length≤9223372036854775807) {i:Nat} (hi:i≤l.length) {nm:List UInt8} {st:Int} {z:List UInt8 × Int × Int × Int × Int × LL × Int} {f:List UInt8 × Int × Int × Int × Int × LL × Int→Option R} {P:R→Prop}
    (H:∀ (a b c:Int) (j:Nat),Num a b c→j≤l.length→f (nm,a,b,c,st,encI l,(j:Int))∈P) :
    gb true (WO n (encI l) (i:Int) nm st (fun g h r2 r3 k m o=>some (g,h,r2,r3,k,m,o))) z f∈P:=by
  obtain ⟨v,j,t,u,hj,e⟩:=Qf0 n hl hi (show (0:Int)<9 by decide) (by decide)
  obtain ⟨d,w,y,g1,p,e2⟩:=Qf0 n hl hj (show (0:Int)<7 by decide) (by decide)
  obtain ⟨q,j3,k0,k1,r,s⟩:=Qf0 n hl p (show (0:Int)<21 by decide) (by decide)
  unfold WO
  rw [e,Q0,e2,Q0,s,Q0,Q0]
  rw [ZB (x:=2+v) (by omega) (by omega),ZB (x:=5000*d) (by omega) (by omega),ZB (x:=5000+5000*d) (by omega) (by omega),ZB (x:=q-10) (by omega) (by omega)]
  exact H _ _ _ _ ⟨by omega,by omega,by omega,by omega,by omega,by omega⟩ r
theorem two {v:Int} (a:0≤v) (b:v<2):v=0∨v=1:=by omega
theorem Q64 {R:Type} (n:Nat) (a:List UInt8) (d:Nat) (hd:d<10) (ha:a.length≤100) (K:List UInt8→Option R):Jd n a (d:Int) K=K (a++[UInt8.ofNat (48+d)]):=by
  have:∀ d:Fin 10,∃ q,slB (List.length (bs [48,49,50,51,52,53,54,55,56,57])) (some (Int.tmod (d.val:Int) (10:Int))) (some (IntKind.wrap .i64 ((Int.tmod (d.val:Int) (10:Int))+(1:Int))))=some q∧cut (bs [48,49,50,51,52,53,54,55,56,57]) q=[UInt8.ofNat (48+d.val)]:=by
    intro d
    match d with
    | 0=>exact ⟨_,rfl,rfl⟩
    | 1=>exact ⟨_,rfl,rfl⟩
    | 2=>exact ⟨_,rfl,rfl⟩
    | 3=>exact ⟨_,rfl,rfl⟩
    | 4=>exact ⟨_,rfl,rfl⟩
    | 5=>exact ⟨_,rfl,rfl⟩
    | 6=>exact ⟨_,rfl,rfl⟩
    | 7=>exact ⟨_,rfl,rfl⟩
    | 8=>exact ⟨_,rfl,rfl⟩
    | 9=>exact ⟨_,rfl,rfl⟩
  obtain ⟨q,b,c⟩:=this ⟨d,hd⟩
  unfold Jd
  simp only at b c
  rw [b]
  have hz:nz (10:Int)=some ():=rfl
  rw [hz,Q0,Q0,Q0,c]
  have hs:QcX (a.length+([UInt8.ofNat (48+d)]:List UInt8).length)=some ():=by
    unfold QcX
    rw [show Nat.ble (a.length+([UInt8.ofNat (48+d)]:List UInt8).length) 9223372036854775807=true from Nat.ble_eq_true_of_le (by simp;omega)]
    rfl
  rw [hs,Q0]
theorem Rz {k:Nat} (h:k≤100000):R0 k=some ():=by
  unfold R0
  rw [show Nat.ble k 140737488355328=true from Nat.ble_eq_true_of_le (by omega)]
  rfl
theorem QiD {R:Type} {n:Nat} {q1 q2 q3 q4 e g q7:LL} {s:List UInt8} {a b c d:Int} {z:Int × LL × LL × LL × LL × LL × LL × LL} {f:Int × LL × LL × LL × LL × LL × LL × LL→Option R} {P:R→Prop} (k:Nat) (hk:q3.length=k) (h:k≤1000)
    (H:f ((k:Int),q1,q2,q3++[[D.str s,D.int .i64 a,D.int .i64 b,D.int .i64 c,D.int .i64 d]],q4,e,g,q7)∈P) :
    gb true (Zs n q1 q2 q3 q4 e g q7 s a b c d (fun i j r2 r3 l m o p=>some (i,j,r2,r3,l,m,o,p))) z f∈P:=by
  unfold Zs
  rw [Rz (by simp;omega),Q0,Q0]
  have hl:(q3++[[D.str s,D.int .i64 a,D.int .i64 b,D.int .i64 c,D.int .i64 d]]).length=k+1:=by simp [hk]
  rw [hl,ZB (x:=((k+1:Nat):Int)-1) (by omega) (by omega),show ((k+1:Nat):Int)-1=(k:Int) by omega]
  exact H
theorem QiY {R:Type} {n:Nat} {q1 q2 q3 q4 e g q7:LL} {s:List UInt8} {a b c d:Int} {z:Int × LL × LL × LL × LL × LL × LL × LL} {f:Int × LL × LL × LL × LL × LL × LL × LL→Option R} {P:R→Prop} (k:Nat) (hk:q3.length=k) (h:k≤1000) (hn:Num a b c)
    (H:f ((k:Int),q1,q2,q3++[[D.str s,D.int .i64 (a+2),D.int .i64 b,D.int .i64 c,D.int .i64 d]],q4,e,g,q7)∈P) :
    gb true (Zs n q1 q2 q3 q4 e g q7 s (IntKind.wrap .i64 (a+2)) b c d (fun i j r2 r3 l m o p=>some (i,j,r2,r3,l,m,o,p))) z f∈P:=by
  have q:=hn.a0
  have r:=hn.a1
  rw [ZB (x:=a+2) (by omega) (by omega)]
  exact QiD k hk h H
abbrev Yo (x:Int):D:=.int .i64 x
def nmT (i k:Nat):List UInt8:=bs [84]++[UInt8.ofNat (48+i)]++[UInt8.ofNat (48+k)]
def nmL (i k:Nat):List UInt8:=bs [76]++[UInt8.ofNat (48+i)]++[UInt8.ofNat (48+k)]
abbrev AM:=Int × Int × Int
def secT (i k:Nat) (x:AM):List D:=[D.str (nmT i k),Yo (x.1+2),Yo x.2.1,Yo x.2.2,Yo i]
def secL (i k:Nat) (x:AM):List D:=[D.str (nmL i k),Yo x.1,Yo x.2.1,Yo x.2.2,Yo (-1)]
def ZD (f:Nat→AM→List D):Nat→List AM→LL
  | k+1,x::y=>f (k+1) x::ZD f k y
  | _,_=>[]
def ups (k:Nat):Nat→List Nat
  | 0=>[]
  | c+1=>k::ups (k+1) c
def U1 (l:List Nat):LL:=l.map fun k=>[Yo (k:Nat)]
def DJ:List AM→Prop
  | []=>True
  | x::r=>Num x.1 x.2.1 x.2.2∧DJ r
section
variable {R:Type} {n:Nat} {l:List Int} (hl:l.length≤9223372036854775807) {P:R→Prop}
include hl
theorem QhY {p:Int} {i c k j:Nat} {e tl f S g h m o:LL} {k0:Int→LL→LL→LL→LL→LL→LL→LL→LL→LL→Int→Option R} {k1:Bool→Option R}
    (hi:i<10) (hc:c+1<10) (hk:S.length=k) (q:k≤500) (ht:tl.length≤500) (hj:j≤l.length)
    (H:∀ (x:AM) (j:Nat),Num x.1 x.2.1 x.2.2→j≤l.length→k0 (c:Int) (tl++[[Yo k]]) e f (S++[secT i (c+1) x]) g h m o (encI l) (j:Int)∈P) :
    MZ n p (i:Int) ((c+1:Nat):Int) e tl f S g h m o (encI l) (j:Int) k0 k1∈P:=by
  unfold MZ
  rw [U9 (by simp),Q64 n _ i hi (by decide),Q0,Q64 n _ (c+1) hc (by simp),Q0]
  refine QgQ hl hj fun a b d j hn hj=>?_
  dsimp only
  refine QiY k hk (by omega) hn ?_
  dsimp only
  rw [Rz (by simp;omega),Q0,ZB (x:=((c+1:Nat):Int)-1) (by omega) (by omega),show ((c+1:Nat):Int)-1=(c:Int) by omega]
  exact H (a,b,d) j hn hj
theorem QfO {h:Int} {i c k j m:Nat} {a b S d e f g:LL} {k0:Int→Bool→LL→LL→LL→LL→LL→LL→LL→LL→LL→Int→Option R}
    (hi:i<10) (hc:c=1∨c=2) (hk:S.length=k) (o:k≤400) (hj:j≤l.length)
    (H:∀ (x:List AM) (j:Nat),DJ x→x.length=c→j≤l.length→k0 0 false a (U1 (ups k c)) b (S++ZD (secT i) c x) d e f g (encI l) (j:Int)∈P) :
    MP n h (i:Int) k0 (m+3) (c:Int) a [] b S d e f g (encI l) (j:Int)∈P:=by
  rcases hc with rfl | rfl
  · refine QhY hl (c:=0) hi (by omega) hk (by omega) (by simp) hj fun x j hx hj=>?_
    exact H [x] j ⟨hx,trivial⟩ rfl hj
  · refine QhY hl (c:=1) hi (by omega) hk (by omega) (by simp) hj fun x j hx hj=>?_
    refine QhY hl (c:=0) (k:=k+1) hi (by omega) (by simp [hk]) (by omega) (by simp) hj fun y j hy hj=>?_
    have:=H [x,y] j ⟨hx,hy,trivial⟩ rfl hj
    simp only [ZD,ups,U1,List.map_cons,List.map_nil] at this
    show k0 0 false a _ b (S++[secT i 2 x]++[secT i 1 y]) d e f g (encI l) (j:Int)∈P
    rw [List.append_assoc S]
    exact this
end

def Qbe (a b:Int) (p q:Int):List D:=[Yo a,Yo 1,Yo b,Yo 0,Yo p,Yo q]
def lk (east:Bool) (x t:Int) (p q:Int):List D:=bif east then Qbe x t p q else Qbe t x p q
def nmP (k:Nat):List D:=[D.str (bs [80]++[UInt8.ofNat (48+k)])]
def Q8W (x:Nat) (east:Bool) (pts k c:Nat):LL:=bif Nat.beq c 2 then [lk east x k pts 0,lk east x ((k+1:Nat):Int) pts 1] else [lk east x k (-1) 0]
def Q8R (pts c:Nat):LL:=bif Nat.beq c 2 then [nmP pts] else []
section
variable {R:Type} {n:Nat} {q1 q2 q3 q4 q5 q6 q7:LL}
theorem Qej {a b c d:Int} (h:q4.length≤1000) (K:LL→LL→LL→LL→LL→LL→LL→Option R):Yc n q1 q2 q3 q4 q5 q6 q7 a b c d K=K q1 q2 q3 (q4++[Qbe a b c d]) q5 q6 q7:=by
  unfold Yc
  rw [Rz (by simp;omega),Q0]
  rfl
theorem Qhq {k:Nat} (hk:q2.length=k) (h:k<10) (K:Int→LL→LL→LL→LL→LL→LL→LL→Option R):Zv n q1 q2 q3 q4 q5 q6 q7 K=K (k:Int) q1 (q2++[nmP k]) q3 q4 q5 q6 q7:=by
  unfold Zv
  rw [hk,Q64 n _ k h (by decide),Q0,Rz (by simp;omega),Q0]
  have hl:(q2++[[D.str (bs [80]++[UInt8.ofNat (48+k)])]]).length=k+1:=by simp [hk]
  rw [hl,ZB (x:=((k+1:Nat):Int)-1) (by omega) (by omega),show ((k+1:Nat):Int)-1=(k:Int) by omega]
  rfl
theorem QiT {a1 a:Int} {T:List Nat} {east:Bool} {w:Int} {h t:Nat} (hh:(h:Int)<a) (b:h≤1000) (ht:T[h]? = some t) (hq:q4.length≤1000) {k0:Int→LL→LL→LL→LL→LL→LL→LL→Option R} {k1:Bool→Option R} :
    Zf n a1 (U1 T) east w a (h:Int) q1 q2 q3 q4 q5 q6 q7 k0 k1=k0 ((h+1:Nat):Int) q1 q2 q3 (q4++[lk east a1 t w h]) q5 q6 q7:=by
  unfold Zf
  rw [U9 (by simp;omega),ZB (x:=(h:Int)+1) (by omega) (by omega)]
  have hr:X2 (U1 T) (h:Int)=some [Yo t]:=Q1k ht
  cases east
  · rw [XF rfl,hr,Q0]
    show gb true (some (D.int .i64 (t:Int))) _ _=_
    rw [Q0,QN,Q0,Qej hq,Q0]
    rfl
  · rw [U9 rfl,hr,Q0]
    show gb true (some (D.int .i64 (t:Int))) _ _=_
    rw [Q0,QN,Q0,Qej hq,Q0]
    rfl
theorem Qj0 {a1 a:Int} {T:List Nat} {east:Bool} {h t:Nat} (hh:(h:Int)<a) (b:h≤1000) (ht:T[h]? = some t) (hq:q4.length≤1000) {k0:Int→LL→LL→LL→LL→LL→LL→LL→Option R} {k1:Bool→Option R} :
    Ze n a1 (U1 T) east a (h:Int) q1 q2 q3 q4 q5 q6 q7 k0 k1=k0 ((h+1:Nat):Int) q1 q2 q3 (q4++[lk east a1 t (-1) h]) q5 q6 q7:=by
  unfold Ze
  rw [U9 (by simp;omega),ZB (x:=(h:Int)+1) (by omega) (by omega)]
  have hr:X2 (U1 T) (h:Int)=some [Yo t]:=Q1k ht
  cases east
  · rw [XF rfl,hr,Q0]
    show gb true (some (D.int .i64 (t:Int))) _ _=_
    rw [Q0,QN,Q0,Qej hq,Q0]
    rfl
  · rw [U9 rfl,hr,Q0]
    show gb true (some (D.int .i64 (t:Int))) _ _=_
    rw [Q0,QN,Q0,Qej hq,Q0]
    rfl
theorem Qiy {a1 a:Int} {T:List Nat} {east:Bool} {w:Int} {h t m:Nat} (hh:(h:Int)<a) (b:h≤1000) (ht:T[h]? = some t) (hq:q4.length≤1000) {k0:Int→Bool→LL→LL→LL→LL→LL→LL→LL→Option R} :
    Yb n a1 (U1 T) east w a k0 (m+1) (h:Int) q1 q2 q3 q4 q5 q6 q7=Yb n a1 (U1 T) east w a k0 m ((h+1:Nat):Int) q1 q2 q3 (q4++[lk east a1 t w h]) q5 q6 q7:=by
  unfold Yb
  rw [QiT hh b ht hq]
  cases m <;> rfl
theorem Qic {a1 a:Int} {T:LL} {east:Bool} {w:Int} {h m:Nat} (hh:¬ (h:Int)<a) {k0:Int→Bool→LL→LL→LL→LL→LL→LL→LL→Option R} :
    Yb n a1 T east w a k0 (m+1) (h:Int) q1 q2 q3 q4 q5 q6 q7=k0 h false q1 q2 q3 q4 q5 q6 q7:=by
  unfold Yb Zf
  rw [XF (by simp;omega)]
  simp [hh]
theorem QiM {a1 a:Int} {T:List Nat} {east:Bool} {h t m:Nat} (hh:(h:Int)<a) (b:h≤1000) (ht:T[h]? = some t) (hq:q4.length≤1000) {k0:Int→Bool→LL→LL→LL→LL→LL→LL→LL→Option R} :
    Ya n a1 (U1 T) east a k0 (m+1) (h:Int) q1 q2 q3 q4 q5 q6 q7=Ya n a1 (U1 T) east a k0 m ((h+1:Nat):Int) q1 q2 q3 (q4++[lk east a1 t (-1) h]) q5 q6 q7:=by
  unfold Ya
  rw [Qj0 hh b ht hq]
  cases m <;> rfl
theorem Qi0 {a1 a:Int} {T:LL} {east:Bool} {h m:Nat} (hh:¬ (h:Int)<a) {k0:Int→Bool→LL→LL→LL→LL→LL→LL→LL→Option R} :
    Ya n a1 T east a k0 (m+1) (h:Int) q1 q2 q3 q4 q5 q6 q7=k0 h false q1 q2 q3 q4 q5 q6 q7:=by
  unfold Ya Ze
  rw [XF (by simp;omega)]
  simp [hh]
theorem QiJ {m x k c p:Nat} {east:Bool} (hc:c=1∨c=2) (hp:q2.length=p) (a:p<10) (hq:q4.length≤900) (K:LL→LL→LL→LL→LL→LL→LL→Option R) :
    Vc (m+3) q1 q2 q3 q4 q5 q6 q7 (x:Int) (U1 (ups k c)) east K=K q1 (q2++Q8R p c) q3 (q4++Q8W x east p k c) q5 q6 q7:=by
  rcases hc with rfl | rfl
  · show Ya (m+3) (x:Int) (U1 [k]) east (1:Int) _ (m+2+1) ((0:Nat):Int) q1 q2 q3 q4 q5 q6 q7=_
    rw [QiM (by decide) (by decide) rfl (by omega),Qi0 (by decide)]
    rw [show Q8R p 1=[] from rfl,List.append_nil]
    rfl
  · show gb true (Zv (m+3) q1 q2 q3 q4 q5 q6 q7 _) _ _=_
    rw [Qhq hp a,Q0]
    show Yb (m+3) (x:Int) (U1 [k,k+1]) east (p:Int) (2:Int) _ (m+2+1) ((0:Nat):Int) q1 (q2++[nmP p]) q3 q4 q5 q6 q7=_
    rw [Qiy (by decide) (by decide) rfl (by omega),Qiy (by decide) (by decide) rfl (by simp;omega),Qic (by decide),List.append_assoc]
    rfl
end

def inL (s u:Nat):LL:=bif Nat.beq u 2 then [Qbe s ((s+1:Nat):Int) (-1) 0] else []
def pc (c:Nat):Nat:=bif Nat.beq c 2 then 1 else 0
theorem QbF (p c:Nat):(Q8R p c).length=pc c:=by unfold Q8R pc;cases Nat.beq c 2 <;> rfl
theorem QfD {c:Nat}:pc c≤1:=by unfold pc;cases Nat.beq c 2 <;> simp
theorem Q8C {x p k c:Nat} {e:Bool}:(Q8W x e p k c).length≤2:=by unfold Q8W;cases Nat.beq c 2 <;> simp
theorem Qb6 {s u:Nat}:(inL s u).length≤1:=by unfold inL;cases Nat.beq u 2 <;> simp
section
variable {R:Type} {n:Nat} {l:List Int} (hl:l.length≤9223372036854775807) {P:R→Prop}
include hl
theorem QfM {p:Int} {i c k j:Nat} {e tl f S g h m o:LL} {k0:Int→LL→LL→LL→LL→LL→LL→LL→LL→LL→Int→Option R} {k1:Bool→Option R}
    (hi:i<10) (hc:c+1<10) (hk:S.length=k) (q:k≤500) (ht:tl.length≤500) (hj:j≤l.length)
    (H:∀ (x:AM) (j:Nat),Num x.1 x.2.1 x.2.2→j≤l.length→k0 (c:Int) (tl++[[Yo k]]) e f (S++[secL i (c+1) x]) g h m o (encI l) (j:Int)∈P) :
    RE n p (i:Int) ((c+1:Nat):Int) tl e f S g h m o (encI l) (j:Int) k0 k1∈P:=by
  unfold RE
  rw [U9 (by simp),Q64 n _ i hi (by decide),Q0,Q64 n _ (c+1) hc (by simp),Q0]
  refine QgQ hl hj fun a b d j hn hj=>?_
  dsimp only
  refine QiD k hk (by omega) ?_
  dsimp only
  rw [Rz (by simp;omega),Q0,ZB (x:=((c+1:Nat):Int)-1) (by omega) (by omega),show ((c+1:Nat):Int)-1=(c:Int) by omega]
  exact H (a,b,d) j hn hj
theorem QeD {h:Int} {i c k j m:Nat} {a b S d e f g:LL} {k0:Int→Bool→LL→LL→LL→LL→LL→LL→LL→LL→LL→Int→Option R}
    (hi:i<10) (hc:c=1∨c=2) (hk:S.length=k) (o:k≤400) (hj:j≤l.length)
    (H:∀ (x:List AM) (j:Nat),DJ x→x.length=c→j≤l.length→k0 0 false (U1 (ups k c)) a b (S++ZD (secL i) c x) d e f g (encI l) (j:Int)∈P) :
    RH n h (i:Int) k0 (m+3) (c:Int) [] a b S d e f g (encI l) (j:Int)∈P:=by
  rcases hc with rfl | rfl
  · refine QfM hl (c:=0) hi (by omega) hk (by omega) (by simp) hj fun x j hx hj=>?_
    exact H [x] j ⟨hx,trivial⟩ rfl hj
  · refine QfM hl (c:=1) hi (by omega) hk (by omega) (by simp) hj fun x j hx hj=>?_
    refine QfM hl (c:=0) (k:=k+1) hi (by omega) (by simp [hk]) (by omega) (by simp) hj fun y j hy hj=>?_
    have:=H [x,y] j ⟨hx,hy,trivial⟩ rfl hj
    simp only [ZD,ups,U1,List.map_cons,List.map_nil] at this
    show k0 0 false _ a b (S++[secL i 2 x]++[secL i 1 y]) d e f g (encI l) (j:Int)∈P
    rw [List.append_assoc S]
    exact this
end
section
variable {R:Type} {n:Nat}
theorem inA {c g:Int} {s u m:Nat} {q1 q2 q3 q4 a b q7 src:LL} {i:Int} (hu:u=1∨u=2) (hq:q4.length≤900) {k0:Int→Bool→LL→LL→LL→LL→LL→LL→LL→Option R} :
    Rw n c g (U1 (ups s u)) src i k0 (m+3) 0 q1 q2 q3 q4 a b q7=k0 ((u-1:Nat):Int) false q1 q2 q3 (q4++inL s u) a b q7:=by
  rcases hu with rfl | rfl
  · rw [show inL s 1=[] from rfl,List.append_nil]
    rfl
  · show gb true (Yc n q1 q2 q3 q4 a b q7 (s:Int) ((s+1:Nat):Int) (-1) 0 _) _ _=_
    rw [Qej (by omega),Q0]
    rfl
end
theorem Qiv {R:Type} {m:Nat} {l:List Int} (hl:l.length≤9223372036854775807) {P:R→Prop} {a:Int} {g s p k c k' c' j:Nat} {St Pt Se Li Tr Bt Ww:LL} {k0:Int→LL→LL→LL→LL→LL→LL→LL→LL→Int→Option R} {k1:Bool→Option R}
    (hg:g<8) (hw:(g:Int)+1<a) (hs:Se.length=s) (i:s≤300) (hp:Pt.length=p) (n:p<8) (hL:Li.length≤300) (hB:Bt.length≤300)
    (hT:Tr[g]? = some [D.sl 1 (U1 (ups k c))]) (hT':Tr[g+1]? = some [D.sl 1 (U1 (ups k' c'))]) (hc:c=1∨c=2) (hc':c'=1∨c'=2) (hj:j≤l.length)
    (H:∀ (u:Nat) (x:List AM) (j:Nat),(u=1∨u=2)→DJ x→x.length=u→j≤l.length →
      k0 ((g+1:Nat):Int) (Bt++[[D.sl 1 (U1 (ups s u))]]) St ((Pt++Q8R p c)++Q8R (p+pc c) c') (Se++ZD (secL g) u x) (((Li++inL s u)++Q8W s false p k c)++Q8W (s+u-1) true (p+pc c) k' c') Tr Ww (encI l) (j:Int)∈P) :
    Kt (m+3) a (g:Int) St Pt Se Li Tr Bt Ww (encI l) (j:Int) k0 k1∈P:=by
  unfold Kt Lb
  have hwg:IntKind.wrap .i64 ((g:Int)+1)=((g+1:Nat):Int):=by rw [ZB (by omega) (by omega)];omega
  rw [hwg,U9 (by simp;omega)]
  refine Jk hl hj (by decide) (by decide) fun v j b d hj=>?_
  obtain ⟨u,hu,hv⟩:∃ u:Nat,(u=1∨u=2)∧IntKind.wrap .i64 (1+v)=(u:Int):=by
    rcases two b d with rfl | rfl
    · exact ⟨1,.inl rfl,rfl⟩
    · exact ⟨2,.inr rfl,rfl⟩
  dsimp only
  rw [hv]
  refine QeD hl (by omega) hu hs (by omega) hj fun x j hx hxl hj=>?_
  unfold LF
  rw [inA hu (by omega)]
  unfold B6
  have e:(0:Int).toNat=0:=rfl
  have hul:(U1 (ups s u)).length=u:=by rcases hu with rfl | rfl <;> rfl
  have f:(U1 (ups s u))[0]? = some [Yo s]:=by rcases hu with rfl | rfl <;> rfl
  have e1:(U1 (ups s u))[u-1]? = some [Yo ((s+u-1:Nat):Int)]:=by rcases hu with rfl | rfl <;> rfl
  have hgl:g<Tr.length:=(List.getElem?_eq_some_iff.1 hT).1
  have hgl':g+1<Tr.length:=(List.getElem?_eq_some_iff.1 hT').1
  have h:IntKind.wrap .i64 ((u:Int)-1)=((u-1:Nat):Int):=by rcases hu with rfl | rfl <;> rfl
  rw [hul,DB (by omega) (by omega),Q0,e,f,Q0]
  show gb true (some (Yo s)) _ _∈P
  rw [Q0,QN,Q0,DB (by omega) (by omega),Q0,Int.toNat_natCast,hT,Q0]
  show gb true (some (D.sl 1 (U1 (ups k c)))) _ _∈P
  rw [Q0,F4,Q0,QiJ hc hp (by omega) (by have:=@Qb6 s u;simp;omega),Q0]
  dsimp only
  rw [h,DB (by omega) (by omega),Q0,Int.toNat_natCast,e1,Q0]
  show gb true (some (Yo ((s+u-1:Nat):Int))) _ _∈P
  rw [Q0,QN,Q0,hwg,DB (by omega) (by omega),Q0,Int.toNat_natCast,hT',Q0]
  show gb true (some (D.sl 1 (U1 (ups k' c')))) _ _∈P
  rw [Q0,F4,Q0,QiJ (p:=p+pc c) hc' (by simp [hp,QbF]) (by have:=@QfD c;omega) (by have:=@Qb6 s u;have:=@Q8C s p k c false;simp;omega),Q0]
  dsimp only
  rw [Rz (by simp;omega),Q0]
  exact H u x j hu hx hxl hj

def nmS (k:Nat):List D:=[D.str (bs [83]++[UInt8.ofNat (48+k)])]
theorem Xr {f:Nat→AM→List D}:∀ {c:Nat} {x:List AM},x.length=c→(ZD f c x).length=c
  | 0,[],_=>rfl
  | c+1,a::x,h=>by simp [ZD];exact Xr (by simpa using h)
section
variable {R:Type} {m:Nat} {l:List Int} (hl:l.length≤9223372036854775807) {P:R→Prop}
include hl
theorem Q21 {e:Int} {i k j:Nat} {a f b g d h n:LL} {k0:Int→LL→LL→LL→LL→LL→LL→LL→LL→Int→Option R} {k1:Bool→Option R}
    (hi:i<10) (hw:(i:Int)<e) (hk:b.length=k) (p:k≤400) (o:a.length≤400) (r:d.length≤400) (hj:j≤l.length)
    (H:∀ (c:Nat) (x:List AM) (j:Nat),(c=1∨c=2)→DJ x→x.length=c→j≤l.length →
      k0 ((i+1:Nat):Int) (a++[nmS i]) (d++[[D.sl 1 (U1 (ups k c))]]) f (b++ZD (secT i) c x) g h n (encI l) (j:Int)∈P) :
    SA (m+3) e (i:Int) a f b g d h n (encI l) (j:Int) k0 k1∈P:=by
  unfold SA Mr
  rw [U9 (by simp;omega),Q64 _ _ i hi (by decide),Q0,Rz (by simp;omega),Q0]
  refine Jk hl hj (by decide) (by decide) fun v j q o hj=>?_
  obtain ⟨c,hc,hv⟩:∃ c:Nat,(c=1∨c=2)∧IntKind.wrap .i64 (1+v)=(c:Int):=by
    rcases two q o with rfl | rfl
    · exact ⟨1,.inl rfl,rfl⟩
    · exact ⟨2,.inr rfl,rfl⟩
  dsimp only
  rw [hv]
  refine QfO hl hi hc hk p hj fun x j hx hxl hj=>?_
  unfold AP
  rw [Rz (by simp;omega),Q0,ZB (x:=(i:Int)+1) (by omega) (by omega)]
  exact H c x j hc hx hxl hj
omit hl in
theorem r7e {n m:Nat} {b a:Int} {c d e f g i j k:LL} {l:Int} {k0:Int→Bool→LL→LL→LL→LL→LL→LL→LL→LL→Int→Option R} (h:¬ a<b) :
    Ko n b k0 (m+1) a c d e f g i j k l=k0 a false c d e f g i j k l:=by
  unfold Ko SA Mr
  rw [XF (by simp;omega)]
  simp [h]
omit hl in
theorem Qij {n m:Nat} {h l:Int} {o p q r s t u v:LL} {x:Int} {k0:Int→Bool→LL→LL→LL→LL→LL→LL→LL→LL→Int→Option R} :
    UF n h k0 (m+1) l o p q r s t u v x=Kt n h l o p q r s t u v x
      (fun a b c d e f g i j k=>UF n h k0 m a c d e f g b i j k) (fun w=>k0 l w o p q r s t u v x):=rfl
omit hl in
theorem QiI {n m:Nat} {b a:Int} {c d e f g i j k:LL} {l:Int} {k0:Int→Bool→LL→LL→LL→LL→LL→LL→LL→LL→Int→Option R} (h:¬ IntKind.wrap .i64 (a+1)<b) :
    UF n b k0 (m+1) a c d e f g i j k l=k0 a false c d e f g i j k l:=by
  unfold UF Kt Lb
  rw [XF (by simp;omega)]
  simp [h]
theorem Qiu {i:Nat} (hi:i≤l.length) {k0:LL→LL→LL→LL→LL→LL→LL→LL→Int→Option R}
    (H:∀ (c0 c1 a:Nat) (b d e:List AM) (j:Nat),(c0=1∨c0=2)→(c1=1∨c1=2)→(a=1∨a=2)→DJ b→DJ d→DJ e→b.length=c0→d.length=c1→e.length=a→j≤l.length →
      k0 [nmS 0,nmS 1] (Q8R 0 c0++Q8R (pc c0) c1) ((ZD (secT 0) c0 b++ZD (secT 1) c1 d)++ZD (secL 0) a e)
        ((inL (c0+c1) a++Q8W (c0+c1) false 0 0 c0)++Q8W (c0+c1+a-1) true (pc c0) c0 c1)
        [[D.sl 1 (U1 (ups 0 c0))],[D.sl 1 (U1 (ups c0 c1))]] [[D.sl 1 (U1 (ups (c0+c1) a))]] [] (encI l) (j:Int)∈P) :
    Ko (m+3) 2 (fun aj ak h n o q r t u v w=>HW (m+3) 2 aj ak h n o q r t u v w
      (UF (m+3) 2 (fun al am x y z aa ab ac ad ae af=>Tb (m+3) 2 al am x y z aa ab ac ad ae af (k0 x y z aa ab ac ad ae af)) (m+3) (0:Int) h n o q r t u v w))
      (m+3) (0:Int) [] [] [] [] [] [] [] (encI l) (i:Int)∈P:=by
  refine Q21 hl (i:=0) (by decide) (by decide) rfl (by decide) (by decide) (by decide) hi fun c0 b j ag an f hj=>?_
  refine Q21 hl (i:=1) (k:=c0) (by decide) (by decide) (by simp [Xr f]) (by omega) (by simp) (by simp) hj fun c1 d j ah ao ai hj=>?_
  rw [r7e (by decide)]
  unfold HW
  rw [Qij]
  refine Qiv hl (g:=0) (s:=c0+c1) (p:=0) (k:=0) (c:=c0) (k':=c0) (c':=c1) (by decide) (by decide) (by simp [Xr f,Xr ai]) (by omega) rfl (by decide) (by decide) (by decide) rfl rfl ag ah hj fun a e j ap aq hly hj=>?_
  rw [QiI (by decide)]
  have:=H c0 c1 a b d e j ag ah ap an ao aq f ai hly hj
  simpa [Tb,Nat.add_assoc] using this
theorem Qi5 {i:Nat} (hi:i≤l.length) {k0:LL→LL→LL→LL→LL→LL→LL→LL→Int→Option R}
    (H:∀ (c0 c1 a b d:Nat) (e f h n o:List AM) (j:Nat),(c0=1∨c0=2)→(c1=1∨c1=2)→(a=1∨a=2)→(b=1∨b=2)→(d=1∨d=2)→DJ e→DJ f→DJ h→DJ n→DJ o→e.length=c0→f.length=c1→h.length=a→n.length=b→o.length=d→j≤l.length →
      k0 [nmS 0,nmS 1,nmS 2] ((Q8R 0 c0++Q8R (pc c0) c1)++Q8R (pc c0+pc c1) c1++Q8R (pc c0+pc c1+pc c1) a)
        ((((ZD (secT 0) c0 e++ZD (secT 1) c1 f)++ZD (secT 2) a h)++ZD (secL 0) b n)++ZD (secL 1) d o)
        (((inL (c0+c1+a) b++Q8W (c0+c1+a) false 0 0 c0)++Q8W (c0+c1+a+b-1) true (pc c0) c0 c1)++inL (c0+c1+a+b) d++Q8W (c0+c1+a+b) false (pc c0+pc c1) c0 c1++Q8W (c0+c1+a+b+d-1) true (pc c0+pc c1+pc c1) (c0+c1) a)
        [[D.sl 1 (U1 (ups 0 c0))],[D.sl 1 (U1 (ups c0 c1))],[D.sl 1 (U1 (ups (c0+c1) a))]] [[D.sl 1 (U1 (ups (c0+c1+a) b))],[D.sl 1 (U1 (ups (c0+c1+a+b) d))]] [] (encI l) (j:Int)∈P) :
    Ko (m+4) 3 (fun aq ar v w x y z aa ab ac ad=>HW (m+4) 3 aq ar v w x y z aa ab ac ad
      (UF (m+4) 3 (fun au av ae af ag ah ai aj ak al am=>Tb (m+4) 3 au av ae af ag ah ai aj ak al am (k0 ae af ag ah ai aj ak al am)) (m+4) (0:Int) v w x y z aa ab ac ad))
      (m+4) (0:Int) [] [] [] [] [] [] [] (encI l) (i:Int)∈P:=by
  refine Q21 hl (m:=m+1) (i:=0) (by decide) (by decide) rfl (by decide) (by decide) (by decide) hi fun c0 e j an aw q hj=>?_
  refine Q21 hl (m:=m+1) (i:=1) (k:=c0) (by decide) (by decide) (by simp [Xr q]) (by omega) (by simp) (by simp) hj fun c1 f j t ax r hj=>?_
  refine Q21 hl (m:=m+1) (i:=2) (k:=c0+c1) (by decide) (by decide) (by simp [Xr q,Xr r]) (by omega) (by simp) (by simp) hj fun a h j ao ay u hj=>?_
  rw [r7e (by decide)]
  unfold HW
  rw [Qij]
  refine Qiv hl (m:=m+1) (g:=0) (s:=c0+c1+a) (p:=0) (k:=0) (c:=c0) (k':=c0) (c':=c1) (by decide) (by decide) (by simp [Xr q,Xr r,Xr u,Nat.add_assoc]) (by omega) rfl (by decide) (by decide) (by decide) rfl rfl an t hj fun b n j az ba ap hj=>?_
  have b0:=@QfD c0
  have b1:=@QfD c1
  have f0:=@Qb6 (c0+c1+a) b
  have f1:=@Q8C (c0+c1+a) 0 0 c0 false
  have f2:=@Q8C (c0+c1+a+b-1) (pc c0) c0 c1 true
  rw [Qij]
  refine Qiv hl (m:=m+1) (g:=1) (s:=c0+c1+a+b) (p:=pc c0+pc c1) (k:=c0) (c:=c1) (k':=c0+c1) (c':=a) (by decide) (by decide) (by simp [Xr q,Xr r,Xr u,Xr ap,Nat.add_assoc]) (by omega) (by simp [QbF]) (by omega) (by simp;omega) (by simp) rfl rfl t ao hj fun d o j bb bc bd hj=>?_
  rw [QiI (by decide)]
  have:=H c0 c1 a b d e f h n o j an t ao az bb aw ax ay ba bc q r u ap bd hj
  simpa [Tb,Nat.add_assoc] using this
end

def Qfr:Option Bool→Bool
  | some true=>true
  | _=>false
def QiH:Option Bool→Bool
  | some false=>true
  | _=>false
def Qet:Option Int→Bool
  | some n=>n == 0
  | none=>false
theorem BJ {o:Option Bool} (h:Qfr o=true):o=some true:=by
  match o,h with
  | some true,_=>rfl
theorem Qea {o:Option Bool} (h:QiH o=true):o=some false:=by
  match o,h with
  | some false,_=>rfl
theorem RI {o:Option Int} (h:Qet o=true):o=some 0:=by
  match o,h with
  | some n,h=>simp only [Qet,beq_iff_eq] at h;rw [h]

end Go.Vx
namespace Go.Vx
variable {R:Type}
def Rk (n:Nat) (a0:Int) (K:Bool→Option R):Option R:=
 K (bif (bif (decide (a0≥(65:Int))) then (decide (a0≤(90:Int))) else false) then true else (bif (decide (a0≥(97:Int))) then (decide (a0≤(122:Int))) else false))
def Eo (n:Nat) (a0:Int) (K:Bool→Option R):Option R:=
 K (bif (decide (a0≥(48:Int))) then (decide (a0≤(57:Int))) else false)

def EU (n:Nat) (a0:List UInt8) (k0:Option R) (k1:Int→Option R):Option R:=
 gb (!(bif (decide (((List.length a0:Nat):Int)<(1:Int))) then true else (decide (((List.length a0:Nat):Int)>(12:Int))))) (TP a0 (0:Int)) 0 fun a=>
 gb (!(bif (decide (((List.length a0:Nat):Int)<(1:Int))) then true else (decide (((List.length a0:Nat):Int)>(12:Int))))) (Rk n a some) false fun r2=>
 bif (bif (bif (decide (((List.length a0:Nat):Int)<(1:Int))) then true else (decide (((List.length a0:Nat):Int)>(12:Int)))) then true else (!r2)) then
  k0
 else
  k1 ((List.length a0:Nat):Int)
def Ey (n:Nat) (a0:List UInt8) (c a:Int) (k0:Option R) (k1:Int→Option R) (e:Bool→Option R):Option R:=
 bif (decide (a<c)) then
  gb true (TP a0 a) 0 fun f=>
  gb true (Rk n f some) false fun b=>
  gb (!b) (TP a0 a) 0 fun g=>
  gb (!b) (Eo n g some) false fun d=>
  gb (bif (!b) then (!d) else false) (TP a0 a) 0 fun h=>
  bif (bif (bif (!b) then (!d) else false) then (h != (95:Int)) else false) then
   k0
  else
   k1 (IntKind.wrap .i64 (a+(1:Int)))
 else
  e (decide (a<c))
def NO (n:Nat) (a0:List UInt8) (a:Int) (k0:Option R) (k1:Int→Bool→Option R):Nat→Int→Option R
 | 0,_=>none
 | m+1,b=>
  Ey n a0 a b
   (k0)
   (fun c=>
   NO n a0 a k0 k1 m c)
   (fun d=>
   k1 b d)
def Q1a (n:Nat) (a0:List UInt8) (a b:Int) (c:Bool) (k0:Option R):Option R:=
 k0
def Q1X (n:Nat) (a0:List UInt8) (k0:Bool→Option R):Option R:=
 EU n a0
  (k0 false)
  (fun a=>
  NO n a0 a
   (k0 false)
   (fun b c=>
   Q1a n a0 a b c
    (k0 true))
   n (0:Int))
def T7 (n:Nat) (a0:List UInt8) (K:Bool→Option R):Option R:=
 Q1X n a0
  (fun a=>K a)

def Y3 (n:Nat) (e f g h:LL) (i:List UInt8) (a b c d:Int) (K:Bool→Option R):Option R:=
 K (bif (bif (bif (bif (bif (bif (bif (decide (a≥(1:Int))) then (decide (a≤(400:Int))) else false) then (decide (b≥(1000:Int))) else false) then (decide (b≤(100000:Int))) else false) then (decide (c≥(-40:Int))) else false) then (decide (c≤(40:Int))) else false) then (decide (d≥(-1:Int))) else false) then (decide (d<((List.length e:Nat):Int))) else false)

def YP (n:Nat) (i h b j:LL) (c d e f a g:Int) (K:Bool→Option R):Option R:=
 K (bif (bif (bif (bif (bif (bif (bif (bif (decide (c≥(0:Int))) then (decide (c<((List.length b:Nat):Int))) else false) then (decide (e≥(0:Int))) else false) then (decide (e<((List.length b:Nat):Int))) else false) then (bif (d == (0:Int)) then true else (d == (1:Int))) else false) then (bif (f == (0:Int)) then true else (f == (1:Int))) else false) then (decide (a≥(-1:Int))) else false) then (decide (a<((List.length h:Nat):Int))) else false) then (bif (g == (0:Int)) then true else (bif (g == (1:Int)) then (a != (-1:Int)) else false)) else false)

def Q0P (n:Nat) (a b c d e f:Int) (K:Int→Int→Int→Int→Option R):Option R:=
 K a b c d

def Ni (n:Nat) (a0:LL) (a b c d:Int) (k0:Int→Option R):Option R:=
 k0 ((List.length a0:Nat):Int)
def N0 (n:Nat) (a0:LL) (d c e f g h:Int) (k0:Option R) (k1:Int→Option R) (i:Bool→Option R):Option R:=
 bif (decide (c<d)) then
  gb true (X2 a0 c) [] fun b=>
  gb true (b[0]?) (.bool false) fun j=>
  gb true (b[1]?) (.bool false) fun k=>
  gb true (b[2]?) (.bool false) fun l=>
  gb true (b[3]?) (.bool false) fun m=>
  gb true (b[4]?) (.bool false) fun o=>
  gb true (b[5]?) (.bool false) fun p=>
  gb true (XL .i64 j) 0 fun q=>
  gb true (XL .i64 k) 0 fun r=>
  gb true (XL .i64 l) 0 fun s=>
  gb true (XL .i64 m) 0 fun t=>
  gb true (XL .i64 o) 0 fun u=>
  gb true (XL .i64 p) 0 fun v=>
  gb true (Q0P n q r s t u v (fun w x r2 r3=>some (w,x,r2,r3))) (0,0,0,0) fun a=>
  bif (bif (bif ((e == a.1)&&(f == a.2.1)) then ((g == a.2.2.1)&&(h == a.2.2.2)) else false) then true else (bif ((e == a.2.2.1)&&(f == a.2.2.2)) then ((g == a.1)&&(h == a.2.1)) else false)) then
   k0
  else
   k1 (IntKind.wrap .i64 (c+(1:Int)))
 else
  i (decide (c<d))
def Hn (n:Nat) (a0:LL) (a b c d e:Int) (k0:Option R) (k1:Int→Bool→Option R):Nat→Int→Option R
 | 0,_=>none
 | m+1,f=>
  N0 n a0 a f b c d e
   (k0)
   (fun g=>
   Hn n a0 a b c d e k0 k1 m g)
   (fun h=>
   k1 f h)
def DG (n:Nat) (a0:LL) (a b:Int) (c:Bool) (d e f g:Int) (k0:Option R):Option R:=
 k0
def Dx (n:Nat) (a0:LL) (a b c d:Int) (k0:Bool→Option R):Option R:=
 Ni n a0 a b c d
  (fun e=>
  Hn n a0 e a b c d
   (k0 true)
   (fun f g=>
   DG n a0 e f g a b c d
    (k0 false))
   n (0:Int))
def KI (n:Nat) (a0:LL) (a b c d:Int) (K:Bool→Option R):Option R:=
 Dx n a0 a b c d
  (fun e=>K e)

def KE (n:Nat) (i j k l a c:Int) (a1:LL) (K:Bool→Option R):Option R:=
 bif (((List.length a1:Nat):Int) == (0:Int)) then
  K true
 else
  gb (bif (((List.length a1:Nat):Int) == (1:Int)) then (a != (-1:Int)) else false) (X2 a1 (0:Int)) [] fun d=>
  gb (bif (((List.length a1:Nat):Int) == (1:Int)) then (a != (-1:Int)) else false) (d[4]?) (.bool false) fun e=>
  gb (bif (((List.length a1:Nat):Int) == (1:Int)) then (a != (-1:Int)) else false) (XL .i64 e) 0 fun b=>
  gb (bif (bif (((List.length a1:Nat):Int) == (1:Int)) then (a != (-1:Int)) else false) then (a == b) else false) (X2 a1 (0:Int)) [] fun f=>
  gb (bif (bif (((List.length a1:Nat):Int) == (1:Int)) then (a != (-1:Int)) else false) then (a == b) else false) (f[5]?) (.bool false) fun g=>
  gb (bif (bif (((List.length a1:Nat):Int) == (1:Int)) then (a != (-1:Int)) else false) then (a == b) else false) (XL .i64 g) 0 fun h=>
  K (bif (bif (bif (((List.length a1:Nat):Int) == (1:Int)) then (a != (-1:Int)) else false) then (a == b) else false) then (c != h) else false)

def Qfo (n:Nat) (seen:List (List UInt8)) (s:List UInt8):Bool:=Nat.ble s.length 12&&Qfr (T7 n s some)&&!(seen.contains s)
def LH (n:Nat):List (List UInt8)→LL→Bool
 | _,[]=>true
 | seen,row::r=>match row with
  | [D.str s]=>Qfo n seen s&&LH n (s::seen) r
  | _=>false
def Fb (n:Nat) (l0 l1 l2 e:LL):List (List UInt8)→LL→Bool
 | _,[]=>true
 | seen,row::r=>match row with
  | [D.str s,D.int .i64 a,D.int .i64 b,D.int .i64 c,D.int .i64 d]=>Qfo n seen s&&Qfr (Y3 n l0 l1 l2 e s a b c d some)&&Fb n l0 l1 l2 e (s::seen) r
  | _=>false
def Ra (n:Nat) (l0 l1 l2 c:LL):List LL→LL→Bool
 | _,[]=>true
 | st,row::r=>match row with
  | [D.int .i64 a,D.int .i64 ae,D.int .i64 b,D.int .i64 be,D.int .i64 p,D.int .i64 q]=>
   (decide (0≤a)&&decide (a<l2.length)&&decide (0≤ae)&&decide (ae≤1)&&decide (0≤b)&&decide (b<l2.length)&&decide (0≤be)&&decide (be≤1))&&Qfr (YP n l0 l1 l2 c a ae b be p q some) &&
   !(Nat.beq (2*a+ae).toNat (2*b+be).toNat) &&
   (match st[(2*a+ae).toNat]?,st[(2*b+be).toNat]? with
   | some x,some y=>QiH (KI n x a ae b be some)&&Qfr (KE n a ae b be p q x some)&&Qfr (KE n a ae b be p q y some)&&Nat.ble x.length 1&&Nat.ble y.length 1 &&
    Ra n l0 l1 l2 c ((st.set (2*a+ae).toNat (x++[row])).set (2*b+be).toNat (y++[row])) r
   | _,_=>false)
  | _=>false
def As (n:Nat) (l0 l1 l2 a:LL):Bool:=
 Nat.ble l0.length 24&&Nat.ble l1.length 48&&Nat.ble l2.length 96&&Nat.ble a.length 192&&!(Nat.beq l2.length 0)&&LH n [] l0&&LH n [] l1&&Fb n l0 l1 l2 a [] l2&&Ra n l0 l1 l2 a (List.replicate (2*l2.length) []) a
def Jq (n:Nat) (l0 l1 l2 a:LL) (K:Int→Option R):Option R:=bif As n l0 l1 l2 a then K 0 else none

end Go.Vx
namespace Go.Vx
def hat (c:Nat):List AM:=List.replicate c (2,5000,0)
def pt2 (c0 c1:Nat):LL:=Q8R 0 c0++Q8R (pc c0) c1
def se2 (c0 c1 a:Nat) (b c d:List AM):LL:=(ZD (secT 0) c0 b++ZD (secT 1) c1 c)++ZD (secL 0) a d
def li2 (c0 c1 a:Nat):LL:=(inL (c0+c1) a++Q8W (c0+c1) false 0 0 c0)++Q8W (c0+c1+a-1) true (pc c0) c0 c1
def pt3 (c0 c1 a:Nat):LL:=(Q8R 0 c0++Q8R (pc c0) c1)++Q8R (pc c0+pc c1) c1++Q8R (pc c0+pc c1+pc c1) a
def se3 (c0 c1 a b c:Nat) (d e f g h:List AM):LL:=(((ZD (secT 0) c0 d++ZD (secT 1) c1 e)++ZD (secT 2) a f)++ZD (secL 0) b g)++ZD (secL 1) c h
def li3 (c0 c1 a b c:Nat):LL:=((inL (c0+c1+a) b++Q8W (c0+c1+a) false 0 0 c0)++Q8W (c0+c1+a+b-1) true (pc c0) c0 c1)++inL (c0+c1+a+b) c++Q8W (c0+c1+a+b) false (pc c0+pc c1) c0 c1++Q8W (c0+c1+a+b+c-1) true (pc c0+pc c1+pc c1) (c0+c1) a
theorem ok2 {c0 c1 a:Nat} (b:c0=1∨c0=2) (c:c1=1∨c1=2) (d:a=1∨a=2):As 40 [nmS 0,nmS 1] (pt2 c0 c1) (se2 c0 c1 a (hat c0) (hat c1) (hat a)) (li2 c0 c1 a)=true:=by
  rcases b with rfl | rfl <;> rcases c with rfl | rfl <;> rcases d with rfl | rfl <;> kernel_rfl
theorem ok3 {c0 c1 a b c:Nat} (d:c0=1∨c0=2) (e:c1=1∨c1=2) (f:a=1∨a=2) (g:b=1∨b=2) (h:c=1∨c=2):As 40 [nmS 0,nmS 1,nmS 2] (pt3 c0 c1 a) (se3 c0 c1 a b c (hat c0) (hat c1) (hat a) (hat b) (hat c)) (li3 c0 c1 a b c)=true:=by
  rcases d with rfl | rfl <;> rcases e with rfl | rfl <;> rcases f with rfl | rfl <;> rcases g with rfl | rfl <;> rcases h with rfl | rfl <;> kernel_rfl
structure NumOk (a b c d:Int) (k:Nat):Prop where
  a0:1≤a
  a1:a≤400
  b0:1000≤b
  b1:b≤100000
  c0 : -40≤c
  c1:c≤40
  d0 : -1≤d
  d1:d<k
theorem Qbq {n:Nat} {l0 l1 l2 e:LL} {s:List UInt8} {a b c d:Int} (h:NumOk a b c d l0.length):Y3 n l0 l1 l2 e s a b c d some=some true:=by
  obtain ⟨f,g,i,j,k,l,m,o⟩:=h
  unfold Y3
  simp [f,g,i,j,k,l,m,o]
def Qa1 (k:Nat):LL→LL→Prop
  | [],[]=>True
  | r::s,r'::s'=>(∃ nm a b c a' b' c' d,r=[D.str nm,Yo a,Yo b,Yo c,Yo d]∧r'=[D.str nm,Yo a',Yo b',Yo c',Yo d]∧NumOk a b c d k∧NumOk a' b' c' d k)∧Qa1 k s s'
  | _,_=>False
theorem Qa1.len {k:Nat}:∀ {s s':LL},Qa1 k s s'→s.length=s'.length
  | [],[],_=>rfl
  | r::s,r'::s',h=>by simp [Qa1.len h.2]
theorem Qa1.app {k:Nat}:∀ {s s' t t':LL},Qa1 k s s'→Qa1 k t t'→Qa1 k (s++t) (s'++t')
  | [],[],t,t',_,h=>h
  | r::s,r'::s',t,t',h,a=>⟨h.1,Qa1.app h.2 a⟩
theorem Qa1.secT {k i:Nat} (hi:i<k):∀ {c:Nat} {x x':List AM},DJ x→DJ x'→x.length=c→x'.length=c→Qa1 k (ZD (secT i) c x) (ZD (secT i) c x')
  | 0,[],[],_,_,_,_=>trivial
  | c+1,a::x,a'::x',h,h',e,e'=>⟨⟨nmT i (c+1),a.1+2,a.2.1,a.2.2,a'.1+2,a'.2.1,a'.2.2,i,rfl,rfl,
      ⟨by have:=h.1.a0;omega,by have:=h.1.a1;omega,by have:=h.1.b0;omega,by have:=h.1.b1;omega,by have:=h.1.c0;omega,by have:=h.1.c1;omega,by omega,by omega⟩,
      ⟨by have:=h'.1.a0;omega,by have:=h'.1.a1;omega,by have:=h'.1.b0;omega,by have:=h'.1.b1;omega,by have:=h'.1.c0;omega,by have:=h'.1.c1;omega,by omega,by omega⟩⟩,Qa1.secT hi h.2 h'.2 (by simpa using e) (by simpa using e')⟩
theorem Qa1.secL {k i:Nat}:∀ {c:Nat} {x x':List AM},DJ x→DJ x'→x.length=c→x'.length=c→Qa1 k (ZD (secL i) c x) (ZD (secL i) c x')
  | 0,[],[],_,_,_,_=>trivial
  | c+1,a::x,a'::x',h,h',e,e'=>⟨⟨nmL i (c+1),a.1,a.2.1,a.2.2,a'.1,a'.2.1,a'.2.2,-1,rfl,rfl,
      ⟨by have:=h.1.a0;omega,by have:=h.1.a1;omega,by have:=h.1.b0;omega,by have:=h.1.b1;omega,by have:=h.1.c0;omega,by have:=h.1.c1;omega,by omega,by omega⟩,
      ⟨by have:=h'.1.a0;omega,by have:=h'.1.a1;omega,by have:=h'.1.b0;omega,by have:=h'.1.b1;omega,by have:=h'.1.c0;omega,by have:=h'.1.c1;omega,by omega,by omega⟩⟩,Qa1.secL h.2 h'.2 (by simpa using e) (by simpa using e')⟩
theorem NT:∀ c,DJ (hat c)
  | 0=>trivial
  | c+1=>⟨⟨by decide,by decide,by decide,by decide,by decide,by decide⟩,NT c⟩
theorem CC (c:Nat):(hat c).length=c:=by simp [hat]
theorem Q3G {n:Nat} {l0 l1 L L' e:LL}:∀ {s s':LL} {seen:List (List UInt8)},Qa1 l0.length s s'→Fb n l0 l1 L e seen s=Fb n l0 l1 L' e seen s'
  | [],[],seen,_=>rfl
  | r::s,r'::s',seen,h=>by
    obtain ⟨⟨nm,a,b,c,a',b',c',d,rfl,rfl,f,g⟩,i⟩:=h
    show (Qfo n seen nm&&Qfr (Y3 n l0 l1 L e nm a b c d some)&&Fb n l0 l1 L e (nm::seen) s)=(Qfo n seen nm&&Qfr (Y3 n l0 l1 L' e nm a' b' c' d some)&&Fb n l0 l1 L' e (nm::seen) s')
    rw [Qbq f,Qbq g,Q3G i]
theorem Q1p {n:Nat} {l0 l1 L L' c:LL} (h:L.length=L'.length):∀ {t:LL} {st:List LL},Ra n l0 l1 L c st t=Ra n l0 l1 L' c st t
  | [],st=>rfl
  | r::t,st=>by
    unfold Ra
    split
    · rename_i a ae b be p q
      have e:YP n l0 l1 L c a ae b be p q some=YP n l0 l1 L' c a ae b be p q some:=by unfold YP;rw [h]
      rw [e,h]
      split
      · rw [Q1p h]
      · rfl
    · rfl
theorem Q7S {n:Nat} {l0 l1 L L' a:LL} (h:Qa1 l0.length L L'):As n l0 l1 L a=As n l0 l1 L' a:=by
  unfold As
  rw [h.len,Q3G h,Q1p h.len]
theorem QiZ {c0 c1 a:Nat} {b c d:List AM} (e:c0=1∨c0=2) (f:c1=1∨c1=2) (g:a=1∨a=2) (h:DJ b) (i:DJ c) (j:DJ d) (k:b.length=c0) (e1:c.length=c1) (e2:d.length=a) :
    As 40 [nmS 0,nmS 1] (pt2 c0 c1) (se2 c0 c1 a b c d) (li2 c0 c1 a)=true:=by
  rw [← ok2 e f g]
  exact Q7S (.app (.app (.secT (by decide) h (NT _) k (CC _)) (.secT (by decide) i (NT _) e1 (CC _))) (.secL j (NT _) e2 (CC _)))
theorem QiQ {c0 c1 a b c:Nat} {d e f g h:List AM} (i:c0=1∨c0=2) (j:c1=1∨c1=2) (k:a=1∨a=2) (l:b=1∨b=2) (m:c=1∨c=2) (n:DJ d) (o:DJ e) (p:DJ f) (q:DJ g) (r:DJ h) (s:d.length=c0) (e1:e.length=c1) (e2:f.length=a) (t:g.length=b) (u:h.length=c) :
    As 40 [nmS 0,nmS 1,nmS 2] (pt3 c0 c1 a) (se3 c0 c1 a b c d e f g h) (li3 c0 c1 a b c)=true:=by
  rw [← ok3 i j k l m]
  exact Q7S (.app (.app (.app (.app (.secT (by decide) n (NT _) s (CC _)) (.secT (by decide) o (NT _) e1 (CC _))) (.secT (by decide) p (NT _) e2 (CC _))) (.secL q (NT _) t (CC _))) (.secL r (NT _) u (CC _)))

end Go.Vx
namespace Go.Vx
variable {R:Type}
def LP (n:Nat) (d e c f:LL) (a b:Int) (K:Bool→Option R):Option R:=
 K (bif (bif (decide (a≥(0:Int))) then (decide (a<((List.length c:Nat):Int))) else false) then (bif (b == (0:Int)) then true else (b == (1:Int))) else false)
def NH (n:Nat) (a b:Int) (K:Int→Int→Option R):Option R:=
 bif (b == (0:Int)) then
  K a (1:Int)
 else
  K a (0:Int)

def Fd (n:Nat) (a b:Int) (K:Int→Int→Option R):Option R:=
 bif (b == (0:Int)) then
  K a (1:Int)
 else
  K a (0:Int)

def HZ (n:Nat) (h i j c:LL) (d e f g:Int) (k0:Int→Int→Int→Int→Int→Option R):Option R:=
 gb true (NH n d e (fun b a=>some (b,a))) (0,0) fun a=>
 gb true (Fd n f g (fun b a=>some (b,a))) (0,0) fun r2=>
 gb true (NH n r2.1 r2.2 (fun b a=>some (b,a))) (0,0) fun r3=>
 k0 ((List.length c:Nat):Int) a.1 a.2 r3.1 r3.2
def HQ (n:Nat) (l:LL) (c b d e f g:Int) (k0:Int→Option R) (k1:Int→Option R) (m:Bool→Option R):Option R:=
 bif (decide (b<c)) then
  gb true (X2 l b) [] fun a=>
  gb true (a[0]?) (.bool false) fun o=>
  gb true (a[1]?) (.bool false) fun p=>
  gb true (a[2]?) (.bool false) fun q=>
  gb true (a[3]?) (.bool false) fun r=>
  gb true (a[4]?) (.bool false) fun s=>
  gb true (a[5]?) (.bool false) fun u=>
  gb true (XL .i64 o) 0 fun h=>
  gb true (XL .i64 p) 0 fun i=>
  gb true (XL .i64 q) 0 fun j=>
  gb true (XL .i64 r) 0 fun k=>
  bif (bif (bif ((h == d)&&(i == e)) then ((j == f)&&(k == g)) else false) then true else (bif ((h == f)&&(i == g)) then ((j == d)&&(k == e)) else false)) then
   gb true (XL .i64 s) 0 fun t=>
   k0 t
  else
   k1 (IntKind.wrap .i64 (b+(1:Int)))
 else
  m (decide (b<c))
def JJ (n:Nat) (a:LL) (b c d e f:Int) (k0:Int→Option R) (k1:Int→Bool→Option R):Nat→Int→Option R
 | 0,_=>none
 | m+1,g=>
  HQ n a b g c d e f
   (fun h=>
   k0 h)
   (fun i=>
   JJ n a b c d e f k0 k1 m i)
   (fun j=>
   k1 g j)
def MH (n:Nat) (a:LL) (b c:Int) (d:Bool) (e f g h:Int) (k0:Option R):Option R:=
 k0
def Ma (n:Nat) (g h i a:LL) (j k l m:Int) (k0:Int→Bool→Option R):Option R:=
 HZ n g h i a j k l m
  (fun b c d e f=>
  JJ n a b c d e f
   (fun o=>
   k0 o true)
   (fun p q=>
   MH n a b p q c d e f
    (k0 (0:Int) false))
   n (0:Int))
def G4 (n:Nat) (a b c d:LL) (e f g h:Int) (K:Int→Bool→Option R):Option R:=
 Ma n a b c d e f g h
  (fun i j=>K i j)

def TR (n:Nat) (a b c d e:LL) (f:Int) (k0:Option R):Option R:=
 k0
def TW (n:Nat) (b c d e f:LL) (g:Int) (k0:Option R) (k1:Bool→Option R):Option R:=
 gb true (Jq n b c d e some) 0 fun a=>
 bif (a != (0:Int)) then
  k0
 else
  k1 (a != (0:Int))
def P2 (n:Nat) (c:Bool) (d e f g a:LL) (b:Int) (k0:Bool→Option R):Option R:=
 bif (decide (((List.length a:Nat):Int)>(24:Int))) then
  k0 (decide (((List.length a:Nat):Int)>(24:Int)))
 else
  k0 (decide (b>(2:Int)))
def S4 (n:Nat) (a:Bool) (b c d e f:LL) (g:Int) (k0:Option R) (k1:Option R):Option R:=
 bif a then
  k0
 else
  k1
def PO (n:Nat) (c:Bool) (d e f g b:LL) (a:Int) (k0:Bool→Option R):Option R:=
 bif (decide (a<(0:Int))) then
  k0 (decide (a<(0:Int)))
 else
  k0 (decide ((IntKind.wrap .i64 (((List.length b:Nat):Int)-a))<(2:Int)))
def M3 (n:Nat) (w7:Bool) (a b c d e:LL) (f:Int) (k0:Option R) (k1:Option R):Option R:=
 bif w7 then
  k0
 else
  k1
def TG (n:Nat) (a b c d e:LL) (f:Int) (k0:Int→Option R) (k1:Bool→Option R):Option R:=
 TW n a b c d e f
  (k0 (1:Int))
  (fun h=>
  P2 n h a b c d e f
   (fun g=>
   S4 n g a b c d e f
    (k0 (7:Int))
    (PO n g a b c d e f
     (fun w7=>
     M3 n w7 a b c d e f
      (k0 (4:Int))
      (k1 w7)))))
def KB (n:Nat) (b:Bool) (c d e f a:LL) (g:Int) (k0:Int→Option R):Option R:=
 k0 ((List.length a:Nat):Int)
def TL (n:Nat) (d:LL) (b a:Int) (e f g h:LL) (p:Int) (k0:Option R) (k1:Int→Option R) (i:Bool→Option R):Option R:=
 bif (decide (a<b)) then
  gb true (X2 d a) [] fun c=>
  gb true (c[0]?) (.bool false) fun j=>
  gb true (c[1]?) (.bool false) fun k=>
  gb true (XL .i64 j) 0 fun l=>
  gb true (XL .i64 k) 0 fun m=>
  gb true (LP n e f g h l m some) false fun o=>
  bif (!o) then
   k0
  else
   k1 (IntKind.wrap .i64 (a+(1:Int)))
 else
  i (decide (a<b))
def Wf (n:Nat) (a:LL) (b:Int) (c d e f:LL) (g:Int) (k0:Option R) (k1:Int→Bool→Option R):Nat→Int→Option R
 | 0,_=>none
 | m+1,h=>
  TL n a b h c d e f g
   (k0)
   (fun i=>
   Wf n a b c d e f g k0 k1 m i)
   (fun j=>
   k1 h j)
def G5 (n:Nat) (b:LL) (c d:Int) (e:Bool) (f g a h:LL) (i:Int) (k0:Int→LL→Option R):Option R:=
 gb true (bif decide (0≤((List.length a:Nat):Int))&&decide (((List.length a:Nat):Int)≤((List.length a:Nat):Int)) then some () else none) () fun j=>
 gb true (R0 (Int.toNat ((List.length a:Nat):Int)*1)) () fun k=>
 k0 ((List.length b:Nat):Int) (List.replicate (Int.toNat ((List.length a:Nat):Int)) [D.bool false])
def Hq (n:Nat) (h:LL) (d b:Int) (o p q r:LL) (s:Int) (a:LL) (k0:Option R) (k1:Int→LL→Option R) (i:Bool→Option R):Option R:=
 bif (decide (b<d)) then
  gb true (X2 h b) [] fun e=>
  gb true (e[0]?) (.bool false) fun f=>
  gb true (e[1]?) (.bool false) fun t=>
  gb true (XL .i64 f) 0 fun g=>
  gb true (inB (List.length a) g) () fun u=>
  gb true (a[(Int.toNat g)]?) [] fun j=>
  gb true (j[0]?) (.bool false) fun k=>
  gb true (Eu k) false fun l=>
  bif l then
   k0
  else
   gb true (XL .i64 f) 0 fun c=>
   gb true (inB (List.length a) c) () fun v=>
   gb true (a[(Int.toNat c)]?) [] fun m=>
   k1 (IntKind.wrap .i64 (b+(1:Int))) (List.set a (Int.toNat c) (List.set m 0 (D.bool true)))
 else
  i (decide (b<d))
def Wb (n:Nat) (a:LL) (b:Int) (c d e f:LL) (g:Int) (k0:Option R) (k1:Int→Bool→LL→Option R):Nat→Int→LL→Option R
 | 0,_,_=>none
 | m+1,h,i=>
  Hq n a b h c d e f g i
   (k0)
   (fun j k=>
   Wb n a b c d e f g k0 k1 m j k)
   (fun l=>
   k1 h l i)
def G3 (n:Nat) (a:LL) (c d:Int) (e:Bool) (f g h i:LL) (j:Int) (k:LL) (k0:LL→Int→Option R):Option R:=
 gb true (slB (List.length a) (some (1:Int)) none) (0,0) fun b=>
 k0 (cut a b) ((List.length (cut a b):Nat):Int)
def Hy (n:Nat) (g:LL) (c a:Int) (h i j k l:LL) (y:Int) (d:LL) (k0:Option R) (k1:Int→LL→Option R) (m:Bool→Option R):Option R:=
 bif (decide (a<c)) then
  gb true (X2 g a) [] fun e=>
  gb true (e[0]?) (.bool false) fun o=>
  gb true (e[1]?) (.bool false) fun p=>
  gb true (X2 l a) [] fun f=>
  gb true (f[0]?) (.bool false) fun q=>
  gb true (f[1]?) (.bool false) fun r=>
  gb true (XL .i64 q) 0 fun s=>
  gb true (XL .i64 r) 0 fun t=>
  gb true (XL .i64 o) 0 fun u=>
  gb true (XL .i64 p) 0 fun v=>
  gb true (G4 n h i j k s t u v (fun w x=>some (w,x))) (0,false) fun b=>
  bif (!b.2) then
   k0
  else
   gb true (R0 ((List.length d+List.length [[D.int .i64 b.1]])*8)) () fun z=>
   k1 (IntKind.wrap .i64 (a+(1:Int))) (d++[[D.int .i64 b.1]])
 else
  m (decide (a<c))
def Wg (n:Nat) (a:LL) (b:Int) (c d e f g:LL) (h:Int) (k0:Option R) (k1:Int→Bool→LL→Option R):Nat→Int→LL→Option R
 | 0,_,_=>none
 | m+1,i,j=>
  Hy n a b i c d e f g h j
   (k0)
   (fun k l=>
   Wg n a b c d e f g h k0 k1 m k l)
   (fun o=>
   k1 i o j)
def Nm (n:Nat) (a:LL) (b c:Int) (d:Bool) (e f g h i:LL) (j:Int) (k:LL) (k0:Option R):Option R:=
 k0
def N5 (n:Nat) (a b c d e:LL) (f:Int) (k0:Int→Option R) (k1:LL→Option R):Option R:=
 TR n a b c d e f
  (TG n a b c d e f
   (fun l=>
   k0 l)
   (fun m=>
   KB n m a b c d e f
    (fun g=>
    Wf n e g a b c d f
     (k0 (4:Int))
     (fun o p=>
     G5 n e g o p a b c d f
      (fun h q=>
      Wb n e h a b c d f
       (k0 (5:Int))
       (fun r s t=>
       G3 n e h r s a b c d f t
        (fun i j=>
        Wg n i j a b c d e f
         (k0 (11:Int))
         (fun u v k=>
         Nm n i j u v a b c d e f k
          (k1 k))
         n (0:Int) []))
       n (0:Int) q))
     n (0:Int))))
def Tc (n:Nat) (a b c d e:LL) (f:Int) (K:LL→Int→Option R):Option R:=
 N5 n a b c d e f
  (fun g=>K [] g)
  (fun h=>K h (0:Int))

def Sw (n:Nat) (b c d e f:LL) (g:Int) (K:Int→Option R):Option R:=
 gb true (Tc n b c d e f g (fun h a=>some (h,a))) ([],0) fun a=>
 K a.2

end Go.Vx
namespace Go.Vx
def BW (s u x y:Nat) (up:Bool):LL:=
  bif up then [Yo x,Yo 0]::((ups s u).map fun k=>[Yo (k:Nat),Yo 0])++[[Yo y,Yo 0]] else [Yo y,Yo 1]::((ups s u).reverse.map fun k=>[Yo (k:Nat),Yo 1])++[[Yo x,Yo 1]]
section
variable {R:Type} {n:Nat} {a b a' b' L L' d:LL} (h:L.length=L'.length)
include h
theorem Qfh {s:LL} {w ov:Int} {k0:Option R} {k1:Int→Bool→Option R}:∀ (m:Nat) (i:Int),Wf n s w a b L d ov k0 k1 m i=Wf n s w a' b' L' d ov k0 k1 m i
  | 0,_=>rfl
  | m+1,i=>by
    unfold Wf TL
    simp only [LP,h,Qfh m]
omit h in
theorem Qfg {s:LL} {w ov:Int} {k0:Option R} {k1:Int→Bool→LL→Option R}:∀ (m:Nat) (i:Int) (p:LL),Wb n s w a b L d ov k0 k1 m i p=Wb n s w a' b' L' d ov k0 k1 m i p
  | 0,_,_=>rfl
  | m+1,i,p=>by
    unfold Wb Hq
    simp only [Qfg m]
omit h in
theorem Qil {x y z t:Int} {K:Int→Bool→Option R}:G4 n a b L d x y z t K=G4 n a' b' L' d x y z t K:=rfl
omit h in
theorem Qfx {q s:LL} {w ov:Int} {k0:Option R} {k1:Int→Bool→LL→Option R}:∀ (m:Nat) (i:Int) (p:LL),Wg n q w a b L d s ov k0 k1 m i p=Wg n q w a' b' L' d s ov k0 k1 m i p
  | 0,_,_=>rfl
  | m+1,i,p=>by
    unfold Wg Hy
    simp only [Qil (a:=a) (b:=b) (L:=L) (a':=a') (b':=b') (L':=L'),Qfx m]
end
def Qd1 (L d s:LL):Option (LL × Int):=
  KB 40 false [] [] L d s 0 fun a=>
    Wf 40 s a [] [] L d 0 (some ([],4)) (fun c e=>G5 40 s a c e [] [] L d 0
      fun b f=>Wb 40 s b [] [] L d 0 (some ([],5)) (fun g h i=>G3 40 s b g h [] [] L d 0 i
        fun j k=>Wg 40 j k [] [] L d s 0 (some ([],11)) (fun m n l=>some (l,0)) 40 0 []) 40 0 f) 40 0
def rtB (N:Nat) (Li s:LL):Bool:=match Qd1 (List.replicate N []) Li s with
  | some (_,e)=>e == 0
  | none=>false
theorem QdD {St Pt Se Li s:LL} {N:Nat} (hok:As 40 St Pt Se Li=true) (hN:Se.length=N) (f:2≤s.length) (g:s.length≤24) (hr:rtB N Li s=true) :
    ∃ pts,Tc 40 St Pt Se Li s 0 (fun c d=>some (c,d))=some (pts,0):=by
  have hc:Jq 40 St Pt Se Li (some:Int→Option Int)=some 0:=by unfold Jq;rw [hok];rfl
  have hL:Se.length=(List.replicate N ([]:List D)).length:=by simp [hN]
  have e:Tc 40 St Pt Se Li s 0 (fun c d=>some (c,d))=Qd1 (List.replicate N []) Li s:=by
    unfold Tc N5 TR TG TW P2 S4 PO M3
    rw [hc,Q0,XF (by decide),XF (by simp;omega)]
    dsimp only
    rw [XF (by decide),XF (by decide),XF (by rw [ZB (by omega) (by omega)];simp;omega)]
    unfold Qd1 KB G5 G3 Nm
    simp only [Qfx (a:=St) (b:=Pt) (L:=Se) (a':=[]) (b':=[]) (L':=List.replicate N []),Qfg (a:=St) (b:=Pt) (L:=Se) (a':=[]) (b':=[]) (L':=List.replicate N []),Qfh (a:=St) (b:=Pt) (L:=Se) (a':=[]) (b':=[]) (L':=List.replicate N []) hL,hL]
  rw [e]
  unfold rtB at hr
  split at hr
  · rename_i p e' hh
    simp only [beq_iff_eq] at hr
    subst hr
    exact ⟨p,hh⟩
  · cases hr
theorem Qbx {R:Type} {St Pt Se Li s:LL} {N:Nat} (hok:As 40 St Pt Se Li=true) (hN:Se.length=N) (a:2≤s.length) (b:s.length≤24) (hr:rtB N Li s=true) (K:Int→Option R):Sw 40 St Pt Se Li s 0 K=K 0:=by
  obtain ⟨p,e⟩:=QdD hok hN a b hr
  unfold Sw
  rw [e,Q0]
def Qfm (N:Nat) (Li:LL) (s u k c k' c':Nat):Bool:=
  (ups k c).all fun x=>(ups k' c').all fun y=>rtB N Li (BW s u x y true)&&rtB N Li (BW s u x y false)
theorem QiS {c0 c1 a:Nat} (b:c0=1∨c0=2) (c:c1=1∨c1=2) (d:a=1∨a=2):Qfm (c0+c1+a) (li2 c0 c1 a) (c0+c1) a 0 c0 c0 c1=true:=by
  rcases b with rfl | rfl <;> rcases c with rfl | rfl <;> rcases d with rfl | rfl <;> kernel_rfl
theorem QiU {c0 c1 a b c:Nat} (d:c0=1∨c0=2) (e:c1=1∨c1=2) (f:a=1∨a=2) (g:b=1∨b=2) (h:c=1∨c=2) :
    (Qfm (c0+c1+a+b+c) (li3 c0 c1 a b c) (c0+c1+a) b 0 c0 c0 c1&&Qfm (c0+c1+a+b+c) (li3 c0 c1 a b c) (c0+c1+a+b) c c0 c1 (c0+c1) a)=true:=by
  rcases d with rfl | rfl <;> rcases e with rfl | rfl <;> rcases f with rfl | rfl <;> rcases g with rfl | rfl <;> rcases h with rfl | rfl <;> kernel_rfl
end Go.Vx
namespace Go.Vx
variable {R:Type}
def Qr (n:Nat) (a0:LL) (a1:Int) (K:LL→Option R):Option R:=
 bif Nat.beq a0.length 1&&decide (0≤a1)&&decide (a1≤100000) then K (List.replicate a1.toNat (a0.headD [])) else none
def R8 (n:Nat) (d e f g a:LL) (b:Int) (k0:Int→Option R) (k1:LL→Int→Option R):Option R:=
 gb true (Sw n d e f g a b some) 0 fun c=>
 bif (c != (0:Int)) then
  k0 c
 else
  gb true (slB (List.length a) none (some (IntKind.wrap .i64 (((List.length a:Nat):Int)-b)))) (0,0) fun q2=>
  k1 (cut a q2) ((List.length (cut a q2):Nat):Int)
def G7 (n:Nat) (j:LL) (w7 a:Int) (u v k w x:LL) (y:Int) (c:LL) (k0:Int→LL→Option R) (k1:Bool→Option R):Option R:=
 bif (decide (a<w7)) then
  gb true (X2 j a) [] fun d=>
  gb true (d[0]?) (.bool false) fun l=>
  gb true (d[1]?) (.bool false) fun m=>
  gb true (XL .i64 l) 0 fun o=>
  gb true (X2 k o) [] fun b=>
  gb true (b[0]?) (.bool false) fun z=>
  gb true (b[1]?) (.bool false) fun e=>
  gb true (b[2]?) (.bool false) fun p=>
  gb true (b[3]?) (.bool false) fun q=>
  gb true (b[4]?) (.bool false) fun aa=>
  gb true (XL .i64 p) 0 fun f=>
  gb true (XL .i64 q) 0 fun g=>
  gb true (XL .i64 m) 0 fun r=>
  bif (r == (1:Int)) then
   gb true (XL .i64 e) 0 fun s=>
   gb true (Qr n [[D.int .i64 f,D.int .i64 (IntKind.wrap .i64 (0-g))]] s some) [] fun h=>
   gb true (R0 ((List.length c+List.length h)*16)) () fun ab=>
   k0 (IntKind.wrap .i64 (a+(1:Int))) (c++h)
  else
   gb true (XL .i64 e) 0 fun t=>
   gb true (Qr n [[D.int .i64 f,D.int .i64 g]] t some) [] fun i=>
   gb true (R0 ((List.length c+List.length i)*16)) () fun ac=>
   k0 (IntKind.wrap .i64 (a+(1:Int))) (c++i)
 else
  k1 (decide (a<w7))
def UH (n:Nat) (a:LL) (w7:Int) (b c d e f:LL) (g:Int) (k0:Int→Bool→LL→Option R):Nat→Int→LL→Option R
 | 0,_,_=>none
 | m+1,h,i=>
  G7 n a w7 h b c d e f g i
   (fun j k=>
   UH n a w7 b c d e f g k0 m j k)
   (fun l=>
   k0 h l i)
def H8 (n:Nat) (j:LL) (w7 k:Int) (l:Bool) (m o a p b:LL) (q:Int) (c:LL) (k0:Option R) (k1:Int→Option R):Option R:=
 bif (decide (((List.length c:Nat):Int)>(4000:Int))) then
  k0
 else
  gb true (X2 b (0:Int)) [] fun d=>
  gb true (d[0]?) (.bool false) fun e=>
  gb true (XL .i64 e) 0 fun f=>
  gb true (X2 a f) [] fun g=>
  gb true (g[1]?) (.bool false) fun h=>
  gb true (XL .i64 h) 0 fun i=>
  k1 i
def Fm (n:Nat) (a b c d e:LL) (f:Int) (k0:Int→Option R) (k1:Int→LL→Option R):Option R:=
 R8 n a b c d e f
  (fun i=>
  k0 i)
  (fun g w7=>
  UH n g w7 a b c d e f
   (fun j k h=>
   H8 n g w7 j k a b c d e f h
    (k0 (7:Int))
    (fun l=>
    k1 l h))
   n (0:Int) [])
def M6 (n:Nat) (a b c d e:LL) (f:Int) (K:LL→Int→Int→Option R):Option R:=
 Fm n a b c d e f
  (fun g=>K [] (0:Int) g)
  (fun h i=>K i h (0:Int))

def WT (n:Nat) (e:List UInt8) (a b c d:Int) (K:Bool→Option R):Option R:=
 K (bif (bif (bif (bif (bif (bif (bif (decide (a≥(1:Int))) then (decide (a≤(40:Int))) else false) then (decide (b≥(1000:Int))) else false) then (decide (b≤(100000:Int))) else false) then (decide (c≥(100:Int))) else false) then (decide (c≤(2000:Int))) else false) then (decide (d≥(100:Int))) else false) then (decide (d≤(2000:Int))) else false)

def VH (n:Nat) (a:LL) (b:Int) (K:LL→Option R):Option R:=
 gb true (slB (List.length a) none (some (IntKind.wrap .i64 (((List.length a:Nat):Int)-b)))) (0,0) fun q1=>
 K (cut a q1)

def Pm (n:Nat) (d e f g b:LL) (c:Int) (h:List UInt8) (i j k l:Int) (k0:Int→Option R) (k1:LL→Int→LL→Int→Option R):Option R:=
 gb true (M6 n d e f g b c (fun m a r2=>some (m,a,r2))) ([],0,0) fun a=>
 bif (a.2.2 != (0:Int)) then
  k0 a.2.2
 else
  gb true (WT n h i j k l some) false fun r2=>
  bif (!r2) then
   k0 (1:Int)
  else
   gb true (VH n b c some) [] fun r3=>
   k1 a.1 a.2.1 r3 ((List.length r3:Nat):Int)
def J7 (n:Nat) (m:LL) (o:Int) (e:LL) (b a:Int) (p q f r:LL) (s:List UInt8) (c t u v:Int) (k0:Option R) (k1:Int→Option R) (g:Bool→Option R):Option R:=
 bif (decide (a<b)) then
  gb true (X2 e a) [] fun d=>
  gb true (d[0]?) (.bool false) fun h=>
  gb true (d[1]?) (.bool false) fun w=>
  gb true (XL .i64 h) 0 fun i=>
  gb true (X2 f i) [] fun j=>
  gb true (j[1]?) (.bool false) fun k=>
  gb true (XL .i64 k) 0 fun l=>
  bif (decide (l<(if (2:Int)<c then c else (2:Int)))) then
   k0
  else
   k1 (IntKind.wrap .i64 (a+(1:Int)))
 else
  g (decide (a<b))
def UW (n:Nat) (a:LL) (b:Int) (c:LL) (d:Int) (e f g h:LL) (i:List UInt8) (j k l o:Int) (k0:Option R) (k1:Int→Bool→Option R):Nat→Int→Option R
 | 0,_=>none
 | m+1,p=>
  J7 n a b c d p e f g h i j k l o
   (k0)
   (fun q=>
   UW n a b c d e f g h i j k l o k0 k1 m q)
   (fun r=>
   k1 p r)
def Cz (n:Nat) (a:LL) (b:Int) (c:LL) (d e:Int) (f:Bool) (g h i j:LL) (k:List UInt8) (l m o p:Int) (k0:Option R):Option R:=
 k0
def Mf (n:Nat) (a b c d o:LL) (p:Int) (e:List UInt8) (f g h i:Int) (k0:Int→Option R) (k1:LL→Int→Option R):Option R:=
 Pm n a b c d o p e f g h i
  (fun q=>
  k0 q)
  (fun j k l m=>
  UW n j k l m a b c d e f g h i
   (k0 (12:Int))
   (fun r s=>
   Cz n j k l m r s a b c d e f g h i
    (k1 j k))
   n (0:Int))
def LM (n:Nat) (a b c d e:LL) (f:Int) (g:List UInt8) (h i j k:Int) (K:LL→Int→Int→Option R):Option R:=
 Mf n a b c d e f g h i j k
  (fun l=>K [] (0:Int) l)
  (fun m o=>K m o (0:Int))

def Tp (n:Nat) (b c d e f:LL) (g:Int) (h:List UInt8) (i j k l:Int) (K:Int→Option R):Option R:=
 gb true (LM n b c d e f g h i j k l (fun m a r2=>some (m,a,r2))) ([],0,0) fun a=>
 K a.2.2

end Go.Vx
namespace Go.Vx
def Q9O (Se:LL) (row:List D):Prop:=∃ (x d:Int) (nm:List UInt8) (a b c st:Int),row=[Yo x,Yo d]∧X2 Se x=some [D.str nm,Yo a,Yo b,Yo c,Yo st]∧2≤a∧a≤12
section
variable {R:Type} {n:Nat}
theorem Qj2 {a:Int} {x y:D} (b:0≤a) (c:a≤100000) (K:LL→Option R):Qr n [[x,y]] a K=K (List.replicate a.toNat [x,y]):=by
  unfold Qr
  rw [U9 (by simp [b,c])]
  rfl
theorem Qez {St Pt Se Li s e:LL} {w7 ov:Int} {h:Nat} {acc:LL} {row:List D} {k0:Int→LL→Option R} {k1:Bool→Option R} (hh:(h:Int)<w7) (f:h≤100) (hr:e[h]? = some row) (ho:Q9O Se row) (ha:acc.length≤12*h) :
    ∃ acc':LL,acc'.length≤12*(h+1)∧G7 n e w7 (h:Int) St Pt Se Li s ov acc k0 k1=k0 ((h+1:Nat):Int) acc':=by
  obtain ⟨x,d,nm,a,b,c,st,rfl,hs,g,i⟩:=ho
  have hr':X2 e (h:Int)=some [Yo x,Yo d]:=by unfold X2;rw [U9 (by simp)];simpa using hr
  have hw:IntKind.wrap .i64 ((h:Int)+1)=((h+1:Nat):Int):=by rw [ZB (by omega) (by omega)];omega
  have hlen:∀ r:List D,(List.replicate a.toNat r).length=a.toNat:=fun r=>by simp
  have hroom:∀ r:List D,R0 ((acc.length+(List.replicate a.toNat r).length)*16)=some ():=fun r=>Rz (by rw [hlen];omega)
  unfold G7
  rw [U9 (by simpa using hh),hr',Q0]
  dsimp only [List.getElem?_cons_zero,List.getElem?_cons_succ]
  rw [Q0,Q0,QN,Q0,hs,Q0]
  dsimp only [List.getElem?_cons_zero,List.getElem?_cons_succ]
  simp -implicitDefEqProofs only [Q0,QN,Qj2 (show (0:Int)≤a by omega) (show a≤100000 by omega),hroom,hw]
  cases hd:(d == (1:Int))
  · exact ⟨_,by rw [List.length_append,hlen];omega,rfl⟩
  · exact ⟨_,by rw [List.length_append,hlen];omega,rfl⟩
theorem Qbj {St Pt Se Li s a:LL} {ov:Int} {k0:Int→Bool→LL→Option R}:∀ (suf:LL) (h m:Nat) (acc:LL),a.drop h=suf→(∀ row∈suf,Q9O Se row)→suf.length<m→h≤a.length→a.length≤30→acc.length≤12*h →
    ∃ (acc':LL),acc'.length≤12*a.length∧UH n a (a.length:Int) St Pt Se Li s ov k0 m (h:Int) acc=k0 (a.length:Int) false acc'
  | [],h,m+1,acc,hd,_,_,hb,_,ha=>by
    have hl:a.length≤h:=QbQ hd
    have hh:h=a.length:=by omega
    subst hh
    unfold UH G7
    rw [XF (by simp)]
    exact ⟨acc,ha,by simp⟩
  | row::suf,h,m+1,acc,hd,hr,hm,hb,hc,ha=>by
    obtain ⟨b,c,g⟩:=Q9E hd
    unfold UH
    obtain ⟨acc',e1,e2⟩:=Qez (n:=n) (St:=St) (Pt:=Pt) (Li:=Li) (s:=s) (ov:=ov) (k0:=fun d e=>UH n a (a.length:Int) St Pt Se Li s ov k0 m d e) (k1:=fun f=>k0 (h:Int) f acc) (w7:=(a.length:Int)) (by omega) (by omega) b (hr row (by simp)) ha
    rw [e2]
    exact Qbj suf (h+1) m acc' c (fun r hx=>hr r (by simp [hx])) (by simpa using hm) (by omega) hc e1
theorem Qd2 {s:LL} (h:s.length≤1000):slB s.length none (some (IntKind.wrap .i64 (((s.length:Nat):Int)-(0:Int))))=some (0,s.length)∧cut s (0,s.length)=s:=by
  rw [ZB (by omega) (by omega)]
  constructor
  · simp [slB]
  · simp [cut]
theorem Qht {St Pt Se Li s:LL} {N:Nat} (hok:As 40 St Pt Se Li=true) (hN:Se.length=N) (g:2≤s.length) (j:s.length≤24) (hr:rtB N Li s=true) (ho:∀ row∈s,Q9O Se row) :
    ∃ (cs:LL) (f:Int),M6 40 St Pt Se Li s 0 (fun k l r2=>some (k,l,r2))=some (cs,f,0):=by
  obtain ⟨row,rest,rfl⟩:∃ row rest,s=row::rest:=by
    cases s with
    | nil=>simp at g
    | cons a b=>exact ⟨a,b,rfl⟩
  obtain ⟨x,d,nm,a,b,c,st,rfl,hs,_,_⟩:=ho row (by simp)
  generalize hS:[Yo x,Yo d]::rest=s at *
  obtain ⟨e1,e2⟩:=Qd2 (s:=s) (by omega)
  obtain ⟨acc,ha,m⟩:=Qbj (R:=LL × Int × Int) (n:=40) (St:=St) (Pt:=Pt) (Li:=Li) (s:=s) (ov:=0) (Se:=Se) (k0:=fun o p h=>H8 40 s (s.length:Int) o p St Pt Se Li s 0 h (some ([],0,7)) (fun e=>some (h,e,0))) s 0 40 [] rfl ho (by omega) (by omega) (by omega) (by simp)
  unfold M6 Fm R8
  rw [Qbx hok hN g j hr,Q0,XF (by decide),e1,Q0,e2]
  have q:H8 40 s (s.length:Int) (s.length:Int) false St Pt Se Li s 0 acc (some ([],0,7):Option (LL × Int × Int)) (fun e=>some (acc,e,0))=some (acc,a,0):=by
    unfold H8
    rw [XF (by simp;omega),show X2 s (0:Int)=some [Yo x,Yo d] by rw [← hS];rfl,Q0]
    dsimp only [List.getElem?_cons_zero,List.getElem?_cons_succ]
    rw [Q0,QN,Q0,hs,Q0]
    dsimp only [List.getElem?_cons_zero,List.getElem?_cons_succ]
    rw [Q0,QN,Q0]
  have i:=m.trans q
  rw [show ((0:Nat):Int)=0 from rfl] at i
  refine ⟨acc,a,?_⟩
  dsimp only
  exact i
theorem Qh3 {St Pt Se Li g e:LL} {i f:Int} {h:Nat} {row:List D} {nm:List UInt8} {tl sp ac br:Int} {k0:Option R} {k1:Int→Option R} {j:Bool→Option R} (hh:(h:Int)<f) (k:h≤100) (hr:e[h]? = some row) (ho:Q9O Se row) (ht:tl≤2) :
    J7 n g i e f (h:Int) St Pt Se Li nm tl sp ac br k0 k1 j=k1 ((h+1:Nat):Int):=by
  obtain ⟨x,d,nm',a,b,c,st,rfl,hs,l,m⟩:=ho
  have hr':X2 e (h:Int)=some [Yo x,Yo d]:=by unfold X2;rw [U9 (by simp)];simpa using hr
  have hw:IntKind.wrap .i64 ((h:Int)+1)=((h+1:Nat):Int):=by rw [ZB (by omega) (by omega)];omega
  unfold J7
  rw [U9 (by simpa using hh),hr',Q0]
  dsimp only [List.getElem?_cons_zero,List.getElem?_cons_succ]
  rw [Q0,Q0,QN,Q0,hs,Q0]
  dsimp only [List.getElem?_cons_zero,List.getElem?_cons_succ]
  rw [Q0,QN,Q0,XF (by simp;split <;> omega),hw]
theorem Qfu {St Pt Se Li b a:LL} {c:Int} {nm:List UInt8} {tl sp ac br:Int} {k0:Option R} {k1:Int→Bool→Option R} (ht:tl≤2) (hb:a.length≤30):∀ (suf:LL) (h m:Nat),a.drop h=suf→(∀ row∈suf,Q9O Se row)→suf.length<m→h≤a.length →
    UW n b c a (a.length:Int) St Pt Se Li nm tl sp ac br k0 k1 m (h:Int)=k1 (a.length:Int) false
  | [],h,m+1,hd,_,_,hc=>by
    have hl:a.length≤h:=QbQ hd
    have hh:h=a.length:=by omega
    subst hh
    unfold UW J7
    rw [XF (by simp)]
    simp
  | row::suf,h,m+1,hd,hr,hm,hc=>by
    obtain ⟨d,e,f⟩:=Q9E hd
    unfold UW
    rw [Qh3 (by omega) (by omega) d (hr row (by simp)) ht]
    exact Qfu ht hb suf (h+1) m e (fun r hx=>hr r (by simp [hx])) (by simpa using hm) (by omega)
theorem Qih {St Pt Se Li s:LL} {N:Nat} {nm:List UInt8} {tl sp ac br:Int} (hok:As 40 St Pt Se Li=true) (hN:Se.length=N) (a:2≤s.length) (b:s.length≤24) (hr:rtB N Li s=true) (ho:∀ row∈s,Q9O Se row)
    (c:1≤tl) (d:tl≤2) (e:1000≤sp) (g:sp≤100000) (a1:100≤ac) (h:ac≤2000) (b1:100≤br) (i:br≤2000) (K:Int→Option R):Tp 40 St Pt Se Li s 0 nm tl sp ac br K=K 0:=by
  obtain ⟨e1,e2⟩:=Qd2 (s:=s) (by omega)
  obtain ⟨cs,f,j⟩:=Qht hok hN a b hr ho
  have hd:WT 40 nm tl sp ac br (some:Bool→Option Bool)=some true:=by
    unfold WT
    simp [c,e,g,a1,h,b1,i,show tl≤40 by omega]
  have ht:VH 40 s 0 (some:LL→Option LL)=some s:=by
    unfold VH
    rw [e1,Q0,e2]
  unfold Tp LM Mf Pm
  rw [j,Q0,XF (by rfl),hd,Q0,XF (by decide),ht,Q0]
  dsimp only
  rw [show (0:Int)=((0:Nat):Int) from rfl,Qfu d (by omega) s 0 40 rfl ho (by omega) (by omega)]
  rfl
end
end Go.Vx
namespace Go.Vx
variable {R:Type}
def Ue (n:Nat) (a1 d e:Int) (f:Bool) (q1 q2 q3 q4 g a q7:LL) (k0:LL→Option R):Option R:=
 gb true (inB (List.length a) a1) () fun h=>
 gb true (a[(Int.toNat a1)]?) [] fun r2=>
 gb true (r2[0]?) (.bool false) fun b=>
 gb true (pSl 1 b) [] fun c=>
 k0 c
def Ug (n:Nat) (a1 d o:Int) (e:LL) (f:Bool) (q1 q2 q3 q4 a p q7:LL) (k0:Int→LL→Option R) (k1:Option R):Option R:=
 bif f then
  gb true (inB (List.length a) a1) () fun q=>
  gb true (a[(Int.toNat a1)]?) [] fun g=>
  gb true (g[0]?) (.bool false) fun h=>
  gb true (pSl 1 h) [] fun i=>
  gb true (inB (List.length a) a1) () fun r=>
  gb true (a[(Int.toNat a1)]?) [] fun j=>
  gb true (j[0]?) (.bool false) fun k=>
  gb true (pSl 1 k) [] fun b=>
  gb true (nz ((List.length b:Nat):Int)) () fun s=>
  gb true (X2 i (Int.tmod d ((List.length b:Nat):Int))) [] fun l=>
  gb true (l[0]?) (.bool false) fun m=>
  gb true (XL .i64 m) 0 fun c=>
  gb true (R0 (List.length [[D.int .i64 c,D.int .i64 (0:Int)]]*16)) () fun t=>
  k0 ((List.length e:Nat):Int) [[D.int .i64 c,D.int .i64 (0:Int)]]
 else
  k1
def Jn (n:Nat) (a1 h:Int) (e:LL) (b a:Int) (c q1 q2 q3 q4 i j q7:LL) (k0:Int→LL→Option R) (k1:Bool→Option R):Option R:=
 bif (decide (a<b)) then
  gb true (X2 e a) [] fun f=>
  gb true (f[0]?) (.bool false) fun g=>
  gb true (XL .i64 g) 0 fun d=>
  gb true (R0 ((List.length c+List.length [[D.int .i64 d,D.int .i64 (0:Int)]])*16)) () fun k=>
  k0 (IntKind.wrap .i64 (a+(1:Int))) (c++[[D.int .i64 d,D.int .i64 (0:Int)]])
 else
  k1 (decide (a<b))
def Zw (n:Nat) (a1 a:Int) (b:LL) (c:Int) (q1 q2 q3 q4 d e q7:LL) (k0:Int→Bool→LL→Option R):Nat→Int→LL→Option R
 | 0,_,_=>none
 | m+1,f,g=>
  Jn n a1 a b c f g q1 q2 q3 q4 d e q7
   (fun h i=>
   Zw n a1 a b c q1 q2 q3 q4 d e q7 k0 m h i)
   (fun j=>
   k0 f j g)
def J9 (n:Nat) (a1 e:Int) (m:LL) (o p:Int) (q:Bool) (b q1 q2 q3 q4 a r q7:LL) (k0:LL→Option R):Option R:=
 gb true (inB (List.length a) (IntKind.wrap .i64 (a1+(1:Int)))) () fun s=>
 gb true (a[(Int.toNat (IntKind.wrap .i64 (a1+(1:Int))))]?) [] fun f=>
 gb true (f[0]?) (.bool false) fun g=>
 gb true (pSl 1 g) [] fun h=>
 gb true (inB (List.length a) (IntKind.wrap .i64 (a1+(1:Int)))) () fun t=>
 gb true (a[(Int.toNat (IntKind.wrap .i64 (a1+(1:Int))))]?) [] fun i=>
 gb true (i[0]?) (.bool false) fun j=>
 gb true (pSl 1 j) [] fun c=>
 gb true (nz ((List.length c:Nat):Int)) () fun u=>
 gb true (X2 h (Int.tmod e ((List.length c:Nat):Int))) [] fun k=>
 gb true (k[0]?) (.bool false) fun l=>
 gb true (XL .i64 l) 0 fun d=>
 gb true (R0 ((List.length b+List.length [[D.int .i64 d,D.int .i64 (0:Int)]])*16)) () fun v=>
 k0 (b++[[D.int .i64 d,D.int .i64 (0:Int)]])
def Uf (n:Nat) (a1 f a:Int) (b:LL) (g:Bool) (q1 q2 q3 q4 c d q7:LL) (k0:LL→Option R) (k1:Option R):Option R:=
 Ug n a1 f a b g q1 q2 q3 q4 c d q7
  (fun e h=>
  Zw n a1 a b e q1 q2 q3 q4 c d q7
   (fun i j k=>
   J9 n a1 a b e i j k q1 q2 q3 q4 c d q7
    (fun l=>
    k0 l))
   n (0:Int) h)
  (k1)
def Ub (n:Nat) (a1 m d:Int) (e:LL) (o:Bool) (q1 q2 q3 q4 a p q7:LL) (k0:Int→LL→Option R):Option R:=
 gb true (inB (List.length a) (IntKind.wrap .i64 (a1+(1:Int)))) () fun q=>
 gb true (a[(Int.toNat (IntKind.wrap .i64 (a1+(1:Int))))]?) [] fun f=>
 gb true (f[0]?) (.bool false) fun g=>
 gb true (pSl 1 g) [] fun h=>
 gb true (inB (List.length a) (IntKind.wrap .i64 (a1+(1:Int)))) () fun r=>
 gb true (a[(Int.toNat (IntKind.wrap .i64 (a1+(1:Int))))]?) [] fun i=>
 gb true (i[0]?) (.bool false) fun j=>
 gb true (pSl 1 j) [] fun b=>
 gb true (nz ((List.length b:Nat):Int)) () fun s=>
 gb true (X2 h (Int.tmod d ((List.length b:Nat):Int))) [] fun k=>
 gb true (k[0]?) (.bool false) fun l=>
 gb true (XL .i64 l) 0 fun c=>
 gb true (R0 (List.length [[D.int .i64 c,D.int .i64 (1:Int)]]*16)) () fun t=>
 k0 (IntKind.wrap .i64 (((List.length e:Nat):Int)-(1:Int))) [[D.int .i64 c,D.int .i64 (1:Int)]]
def Jf (n:Nat) (a1 g:Int) (d:LL) (a:Int) (b q1 q2 q3 q4 h i q7:LL) (k0:Int→LL→Option R) (k1:Bool→Option R):Option R:=
 bif (decide (a≥(0:Int))) then
  gb true (X2 d a) [] fun e=>
  gb true (e[0]?) (.bool false) fun f=>
  gb true (XL .i64 f) 0 fun c=>
  gb true (R0 ((List.length b+List.length [[D.int .i64 c,D.int .i64 (1:Int)]])*16)) () fun j=>
  k0 (IntKind.wrap .i64 (a-(1:Int))) (b++[[D.int .i64 c,D.int .i64 (1:Int)]])
 else
  k1 (decide (a≥(0:Int)))
def Zu (n:Nat) (a1 a:Int) (b q1 q2 q3 q4 c d q7:LL) (k0:Int→Bool→LL→Option R):Nat→Int→LL→Option R
 | 0,_,_=>none
 | m+1,e,f=>
  Jf n a1 a b e f q1 q2 q3 q4 c d q7
   (fun g h=>
   Zu n a1 a b q1 q2 q3 q4 c d q7 k0 m g h)
   (fun i=>
   k0 e i f)
def VR (n:Nat) (a1 e:Int) (m:LL) (o:Int) (p:Bool) (b q1 q2 q3 q4 a q q7:LL) (k0:LL→Option R):Option R:=
 gb true (inB (List.length a) a1) () fun r=>
 gb true (a[(Int.toNat a1)]?) [] fun f=>
 gb true (f[0]?) (.bool false) fun g=>
 gb true (pSl 1 g) [] fun h=>
 gb true (inB (List.length a) a1) () fun s=>
 gb true (a[(Int.toNat a1)]?) [] fun i=>
 gb true (i[0]?) (.bool false) fun j=>
 gb true (pSl 1 j) [] fun c=>
 gb true (nz ((List.length c:Nat):Int)) () fun t=>
 gb true (X2 h (Int.tmod e ((List.length c:Nat):Int))) [] fun k=>
 gb true (k[0]?) (.bool false) fun l=>
 gb true (XL .i64 l) 0 fun d=>
 gb true (R0 ((List.length b+List.length [[D.int .i64 d,D.int .i64 (1:Int)]])*16)) () fun u=>
 k0 (b++[[D.int .i64 d,D.int .i64 (1:Int)]])
def VS (n:Nat) (a1 a e:Int) (f:Bool) (q1 q2 q3 q4 b c q7:LL) (k0:LL→Option R):Option R:=
 Ue n a1 a e f q1 q2 q3 q4 b c q7
  (fun d=>
  Uf n a1 a e d f q1 q2 q3 q4 b c q7
   (fun g=>
   k0 g)
   (Ub n a1 a e d f q1 q2 q3 q4 b c q7
    (fun h i=>
    Zu n a1 a d q1 q2 q3 q4 b c q7
     (fun j k l=>
     VR n a1 a d j k l q1 q2 q3 q4 b c q7
      (fun m=>
      k0 m))
     n h i)))
def YW (n:Nat) (q1 q2 q3 q4 a b q7:LL) (a1 c d:Int) (e:Bool) (K:LL→Int→LL→LL→LL→LL→LL→LL→LL→Option R):Option R:=
 VS n a1 c d e q1 q2 q3 q4 a b q7
  (fun f=>K f (0:Int) q1 q2 q3 q4 a b q7)
end Go.Vx
namespace Go.Vx
structure Geo where
  N:Nat
  St:LL
  Pt:LL
  Se:LL
  Li:LL
  Tr:LL
  Bt:LL
  k:Nat→Nat
  c:Nat→Nat
  s:Nat→Nat
  u:Nat→Nat
structure Geo.OK (G:Geo):Prop where
  hN:G.N=2∨G.N=3
  st:G.St.length=G.N
  lay:As 40 G.St G.Pt G.Se G.Li=true
  trl:G.Tr.length=G.N
  tr:∀ i,i<G.N→G.Tr[i]? = some [D.sl 1 (U1 (ups (G.k i) (G.c i)))]
  ct:∀ i,i<G.N→G.c i=1∨G.c i=2
  btl:G.Bt.length+1=G.N
  bt:∀ g,g+1<G.N→G.Bt[g]? = some [D.sl 1 (U1 (ups (G.s g) (G.u g)))]
  ut:∀ g,g+1<G.N→G.u g=1∨G.u g=2
  sec:∀ i,i<G.N→∀ x,x<G.c i→∃ nm a b d,X2 G.Se ((G.k i+x:Nat):Int)=some [D.str nm,Yo a,Yo b,Yo d,Yo i]∧2≤a∧a≤12
  gap:∀ g,g+1<G.N→∀ x,x<G.u g→∃ nm a b d e,X2 G.Se ((G.s g+x:Nat):Int)=some [D.str nm,Yo a,Yo b,Yo d,Yo e]∧2≤a∧a≤12
  rts:∀ g,g+1<G.N→Qfm G.Se.length G.Li (G.s g) (G.u g) (G.k g) (G.c g) (G.k (g+1)) (G.c (g+1))=true
theorem QbE {f:Nat→AM→List D}:∀ {c:Nat} {x:List AM} {i:Nat},DJ x→x.length=c→i<c→∃ j y,(ZD f c x)[i]? = some (f j y)∧Num y.1 y.2.1 y.2.2
  | c+1,a::x,0,h,_,_=>⟨c+1,a,rfl,h.1⟩
  | c+1,a::x,i+1,h,e,hi=>by
    obtain ⟨j,y,b,d⟩:=QbE (f:=f) h.2 (by simpa using e) (show i<c by omega)
    exact ⟨j,y,by simpa [ZD] using b,d⟩
theorem Qfq {f:Nat→AM→List D} {A B:LL} {c k i:Nat} {x:List AM} (hA:A.length=k) (h:DJ x) (e:x.length=c) (hi:i<c):∃ j y,X2 ((A++ZD f c x)++B) ((k+i:Nat):Int)=some (f j y)∧Num y.1 y.2.1 y.2.2:=by
  obtain ⟨j,y,a,b⟩:=QbE (f:=f) h e hi
  refine ⟨j,y,?_,b⟩
  unfold X2
  have hd:=Xr (f:=f) e
  rw [U9 (by simp;omega),Int.toNat_natCast,List.getElem?_append_left (by simp;omega),List.getElem?_append_right (by omega),show k+i-A.length=i by omega,a]
theorem QgX {A B L:LL} {c k i x:Nat} {X:List AM} (hL:L=(A++ZD (secT i) c X)++B) (hA:A.length=k) (h:DJ X) (e:X.length=c) (hi:x<c) :
    ∃ nm a b d,X2 L ((k+x:Nat):Int)=some [D.str nm,Yo a,Yo b,Yo d,Yo i]∧2≤a∧a≤12:=by
  subst hL
  obtain ⟨j,y,l,g⟩:=Qfq (f:=secT i) (B:=B) hA h e hi
  exact ⟨_,_,_,_,l,by have:=g.a0;omega,by have:=g.a1;omega⟩
theorem Qin {A B L:LL} {c k i x:Nat} {X:List AM} (hL:L=(A++ZD (secL i) c X)++B) (hA:A.length=k) (h:DJ X) (e:X.length=c) (hi:x<c) :
    ∃ nm a b d e,X2 L ((k+x:Nat):Int)=some [D.str nm,Yo a,Yo b,Yo d,Yo e]∧2≤a∧a≤12:=by
  subst hL
  obtain ⟨j,y,l,g⟩:=Qfq (f:=secL i) (B:=B) hA h e hi
  exact ⟨_,_,_,_,_,l,g.a0,by have:=g.a1;omega⟩
def QhH (c0 c1 a:Nat) (b d e:List AM):Geo where
  N:=2
  St:=[nmS 0,nmS 1]
  Pt:=pt2 c0 c1
  Se:=se2 c0 c1 a b d e
  Li:=li2 c0 c1 a
  Tr:=[[D.sl 1 (U1 (ups 0 c0))],[D.sl 1 (U1 (ups c0 c1))]]
  Bt:=[[D.sl 1 (U1 (ups (c0+c1) a))]]
  k:=fun | 0=>0 | _=>c0
  c:=fun | 0=>c0 | _=>c1
  s:=fun _=>c0+c1
  u:=fun _=>a
theorem QfC {c0 c1 a:Nat} {b c d:List AM} (f:c0=1∨c0=2) (h:c1=1∨c1=2) (j:a=1∨a=2) (k:DJ b) (l:DJ c) (m:DJ d) (e:b.length=c0) (e1:c.length=c1) (e2:d.length=a):(QhH c0 c1 a b c d).OK where
  hN:=.inl rfl
  st:=rfl
  lay:=QiZ f h j k l m e e1 e2
  trl:=rfl
  tr:=fun i hi=>match i,hi with
    | 0,_=>rfl
    | 1,_=>rfl
  ct:=fun i hi=>match i,hi with
    | 0,_=>f
    | 1,_=>h
  btl:=rfl
  bt:=fun g hg=>match g,hg with
    | 0,_=>rfl
  ut:=fun g _=>j
  sec:=fun i hi=>match i,hi with
    | 0,_=>fun x hx=>QgX (A:=[]) (i:=0) (B:=ZD (secT 1) c1 c++ZD (secL 0) a d) (by simp [QhH,se2]) rfl k e hx
    | 1,_=>fun x hx=>QgX (A:=ZD (secT 0) c0 b) (i:=1) (B:=ZD (secL 0) a d) rfl (Xr e) l e1 hx
  gap:=fun g hg x hx=>Qin (A:=ZD (secT 0) c0 b++ZD (secT 1) c1 c) (i:=0) (B:=[]) (by simp [QhH,se2]) (by simp [QhH,Xr e,Xr e1]) m e2 hx
  rts:=fun g hg=>match g,hg with
    | 0,_=>by
      have hl:(se2 c0 c1 a b c d).length=c0+c1+a:=by simp [se2,Xr e,Xr e1,Xr e2];omega
      show Qfm (se2 c0 c1 a b c d).length (li2 c0 c1 a) (c0+c1) a 0 c0 c0 c1=true
      rw [hl]
      exact QiS f h j
def Qes (c0 c1 a b d:Nat) (e f g h i:List AM):Geo where
  N:=3
  St:=[nmS 0,nmS 1,nmS 2]
  Pt:=pt3 c0 c1 a
  Se:=se3 c0 c1 a b d e f g h i
  Li:=li3 c0 c1 a b d
  Tr:=[[D.sl 1 (U1 (ups 0 c0))],[D.sl 1 (U1 (ups c0 c1))],[D.sl 1 (U1 (ups (c0+c1) a))]]
  Bt:=[[D.sl 1 (U1 (ups (c0+c1+a) b))],[D.sl 1 (U1 (ups (c0+c1+a+b) d))]]
  k:=fun | 0=>0 | 1=>c0 | _=>c0+c1
  c:=fun | 0=>c0 | 1=>c1 | _=>a
  s:=fun | 0=>c0+c1+a | _=>c0+c1+a+b
  u:=fun | 0=>b | _=>d
theorem QgD {c0 c1 a b c:Nat} {d e f h j:List AM} (m:c0=1∨c0=2) (n:c1=1∨c1=2) (o:a=1∨a=2) (p:b=1∨b=2) (q:c=1∨c=2) (t:DJ d) (u:DJ e) (v:DJ f) (w:DJ h) (y:DJ j) (k:d.length=c0) (e1:e.length=c1) (e2:f.length=a) (l:h.length=b) (r:j.length=c):(Qes c0 c1 a b c d e f h j).OK where
  hN:=.inr rfl
  st:=rfl
  lay:=QiQ m n o p q t u v w y k e1 e2 l r
  trl:=rfl
  tr:=fun i hi=>match i,hi with
    | 0,_=>rfl
    | 1,_=>rfl
    | 2,_=>rfl
  ct:=fun i hi=>match i,hi with
    | 0,_=>m
    | 1,_=>n
    | 2,_=>o
  btl:=rfl
  bt:=fun g hg=>match g,hg with
    | 0,_=>rfl
    | 1,_=>rfl
  ut:=fun g hg=>match g,hg with
    | 0,_=>p
    | 1,_=>q
  sec:=fun i hi=>match i,hi with
    | 0,_=>fun x hx=>QgX (A:=[]) (i:=0) (B:=ZD (secT 1) c1 e++(ZD (secT 2) a f++(ZD (secL 0) b h++ZD (secL 1) c j))) (by simp [Qes,se3]) rfl t k hx
    | 1,_=>fun x hx=>QgX (A:=ZD (secT 0) c0 d) (i:=1) (B:=ZD (secT 2) a f++(ZD (secL 0) b h++ZD (secL 1) c j)) (by simp [Qes,se3]) (Xr k) u e1 hx
    | 2,_=>fun x hx=>QgX (A:=ZD (secT 0) c0 d++ZD (secT 1) c1 e) (i:=2) (B:=ZD (secL 0) b h++ZD (secL 1) c j) (by simp [Qes,se3]) (by simp [Qes,Xr k,Xr e1]) v e2 hx
  gap:=fun g hg=>match g,hg with
    | 0,_=>fun x hx=>Qin (A:=ZD (secT 0) c0 d++ZD (secT 1) c1 e++ZD (secT 2) a f) (i:=0) (B:=ZD (secL 1) c j) (by simp [Qes,se3]) (by simp [Qes,Xr k,Xr e1,Xr e2];omega) w l hx
    | 1,_=>fun x hx=>Qin (A:=ZD (secT 0) c0 d++ZD (secT 1) c1 e++ZD (secT 2) a f++ZD (secL 0) b h) (i:=1) (B:=[]) (by simp [Qes,se3]) (by simp [Qes,Xr k,Xr e1,Xr e2,Xr l];omega) y r hx
  rts:=fun g hg=>by
    have hl:(se3 c0 c1 a b c d e f h j).length=c0+c1+a+b+c:=by simp [se3,Xr k,Xr e1,Xr e2,Xr l,Xr r];omega
    have s:=QiU m n o p q
    simp only [Bool.and_eq_true] at s
    match g,hg with
    | 0,_=>
      show Qfm (se3 c0 c1 a b c d e f h j).length (li3 c0 c1 a b c) (c0+c1+a) b 0 c0 c0 c1=true
      rw [hl]
      exact s.1
    | 1,_=>
      show Qfm (se3 c0 c1 a b c d e f h j).length (li3 c0 c1 a b c) (c0+c1+a+b) c c0 c1 (c0+c1) a=true
      rw [hl]
      exact s.2
theorem QiO {R:Type} {l:List Int} (hl:l.length≤9223372036854775807) {P:R→Prop} {i:Nat} (hi:i≤l.length) {K:LL→LL→LL→LL→LL→LL→LL→LL→Int→Option R}
    (H:∀ (G:Geo) (j:Nat),G.OK→j≤l.length→K G.St G.Pt G.Se G.Li G.Tr G.Bt [] (encI l) (j:Int)∈P):Q1W 40 (encI l) (i:Int) K∈P:=by
  unfold Q1W BV D4
  refine Jk hl hi (by decide) (by decide) fun v j n o hj=>?_
  rcases two n o with rfl | rfl
  · exact Qiu hl (m:=37) hj fun c0 c1 a b c d j a0 a1 e f g h k e1 e2 hj=>H (QhH c0 c1 a b c d) j (QfC a0 a1 e f g h k e1 e2) hj
  · exact Qi5 hl (m:=36) hj fun c0 c1 p a q b c r d s j a0 a1 e t u f g h w x k e1 e2 y z hj=>H (Qes c0 c1 p a q b c r d s) j (QgD a0 a1 e t u f g h w x k e1 e2 y z) hj
section
variable {R:Type}
theorem Q80 {T:LL} {g:Nat} {l:LL} (h:T[g]? = some [D.sl 1 l]) (K:LL→Option R) :
    gb true (inB (List.length T) (g:Int)) () (fun _=>gb true (T[(Int.toNat (g:Int))]?) [] fun r2=>gb true (r2[0]?) (.bool false) fun a=>gb true (pSl 1 a) [] fun b=>K b)=K l:=by
  have hgl:g<T.length:=(List.getElem?_eq_some_iff.1 h).1
  rw [DB (by omega) (by omega),Q0,Int.toNat_natCast,h]
  rfl
theorem QhQ {k c a:Nat} (hc:c=1∨c=2) (ha:a<2) (K:Int→Option R) :
    gb true (nz ((List.length (U1 (ups k c)):Nat):Int)) () (fun _=>gb true (X2 (U1 (ups k c)) (Int.tmod (a:Int) ((List.length (U1 (ups k c)):Nat):Int))) [] fun b=>gb true (b[0]?) (.bool false) fun d=>gb true (XL .i64 d) 0 fun e=>K e)=K ((k+a % c:Nat):Int):=by
  obtain rfl | rfl:a=0∨a=1:=by omega
  · rcases hc with rfl | rfl <;> rfl
  · rcases hc with rfl | rfl
    · rw [show k+1 % 1=k from rfl,show List.length (U1 (ups k 1))=1 from rfl,show Int.tmod ((1:Nat):Int) ((1:Nat):Int)=0 by decide]
      rfl
    · rfl
theorem Qfa {a1 a:Int} {q1 q2 q3 q4 b c q7:LL} {s u:Nat} {x:Int} (hu:u=1∨u=2) {k0:Int→Bool→LL→Option R} :
    Zw 40 a1 a (U1 (ups s u)) ((List.length (U1 (ups s u)):Nat):Int) q1 q2 q3 q4 b c q7 k0 40 (0:Int) [[D.int .i64 x,D.int .i64 (0:Int)]]
      = k0 (u:Int) false ([Yo x,Yo 0]::((ups s u).map fun k=>[Yo (k:Nat),Yo 0])):=by
  rcases hu with rfl | rfl <;> rfl
theorem QeG {a1 a:Int} {q1 q2 q3 q4 b c q7:LL} {s u:Nat} {x:Int} (hu:u=1∨u=2) {k0:Int→Bool→LL→Option R} :
    Zu 40 a1 a (U1 (ups s u)) q1 q2 q3 q4 b c q7 k0 40 (IntKind.wrap .i64 (((List.length (U1 (ups s u)):Nat):Int)-(1:Int))) [[D.int .i64 x,D.int .i64 (1:Int)]]
      = k0 (-1) false ([Yo x,Yo 1]::((ups s u).reverse.map fun k=>[Yo (k:Nat),Yo 1])):=by
  rcases hu with rfl | rfl <;> rfl
theorem QdF {q1 q2 q3 q4 q7 Tr Bt:LL} {g k c k' c' s u a b:Nat} {up:Bool} (hg:g<8) (hT:Tr[g]? = some [D.sl 1 (U1 (ups k c))]) (hT':Tr[g+1]? = some [D.sl 1 (U1 (ups k' c'))]) (hB:Bt[g]? = some [D.sl 1 (U1 (ups s u))])
    (hc:c=1∨c=2) (hc':c'=1∨c'=2) (hu:u=1∨u=2) (ha:a<2) (hb:b<2) (K:LL→Int→LL→LL→LL→LL→LL→LL→LL→Option R) :
    YW 40 q1 q2 q3 q4 Tr Bt q7 (g:Int) (a:Int) (b:Int) up K=K (BW s u (k+a % c) (k'+b % c') up) 0 q1 q2 q3 q4 Tr Bt q7:=by
  have hwg:IntKind.wrap .i64 ((g:Int)+1)=((g+1:Nat):Int):=by rw [ZB (by omega) (by omega)];omega
  have hl:(ups s u).length=u:=by rcases hu with rfl | rfl <;> rfl
  have d:u≤2:=by omega
  unfold YW VS Ue
  rw [Q80 hB]
  unfold Uf Ug
  cases up
  · rw [XF rfl]
    unfold Ub
    rw [hwg,Q80 hT',Q80 hT',QhQ hc' hb,Rz (by simp),Q0]
    dsimp only
    rw [QeG hu]
    unfold VR
    rw [Q80 hT,Q80 hT,QhQ hc ha,Rz (by simp [hl];omega),Q0]
    rfl
  · rw [U9 rfl,Q80 hT,Q80 hT,QhQ hc ha,Rz (by simp),Q0]
    dsimp only
    rw [Qfa hu]
    unfold J9
    rw [hwg,Q80 hT',Q80 hT',QhQ hc' hb,Rz (by simp [hl];omega),Q0]
    rfl
end
def Sta (G:Geo) (x:Int):Prop:=∃ nm a b d i,X2 G.Se x=some [D.str nm,Yo a,Yo b,Yo d,Yo i]∧0≤i
structure RtOK (G:Geo) (s:LL) (x y:Int):Prop where
  l2:2≤s.length
  l24:s.length≤24
  rt:rtB G.Se.length G.Li s=true
  st:∀ r∈s,Q9O G.Se r
  sx:Sta G x
  sy:Sta G y
  fst:∃ d,X2 s 0=some [Yo x,Yo d]
  lst:∃ d,X2 s ((s.length:Int)-1)=some [Yo y,Yo d]
def Geo.tk (G:Geo) (i a:Nat):Int:=((G.k i+a % G.c i:Nat):Int)
theorem QaJ {x:Nat}:∀ {s u:Nat},x∈ups s u→∃ j,j<u∧x=s+j
  | s,0,h=>by simp [ups] at h
  | s,u+1,h=>by
    simp only [ups,List.mem_cons] at h
    rcases h with rfl | h
    · exact ⟨0,by omega,rfl⟩
    · obtain ⟨j,a,b⟩:=QaJ h
      exact ⟨j+1,by omega,by omega⟩
theorem Qdu {c a k:Nat} (hc:c=1∨c=2):(k+a % c)∈ups k c:=by
  rcases hc with rfl | rfl
  · simp [ups,Nat.mod_one]
  · have:a % 2<2:=Nat.mod_lt _ (by decide)
    simp [ups]
    omega
theorem Geo.OK.trk {G:Geo} (hG:G.OK) {i a:Nat} (hi:i<G.N):(∃ nm x b d,X2 G.Se (G.tk i a)=some [D.str nm,Yo x,Yo b,Yo d,Yo i]∧2≤x∧x≤12):=
  hG.sec i hi (a % G.c i) (Nat.mod_lt _ (by rcases hG.ct i hi with h | h <;> omega))
theorem QaE {P:List D→Prop} {s u x y:Nat} {up:Bool} (hx:∀ d,P [Yo x,Yo d]) (hy:∀ d,P [Yo y,Yo d]) (hs:∀ j,j<u→∀ d,P [Yo ((s+j:Nat):Int),Yo d]):∀ r∈BW s u x y up,P r:=by
  intro r hr
  unfold BW at hr
  cases up
  · simp only [cond_false,List.cons_append,List.mem_cons,List.mem_append,List.mem_map,List.mem_reverse,List.not_mem_nil,or_false] at hr
    rcases hr with rfl | ⟨k,hk,rfl⟩ | rfl
    · exact hy _
    · obtain ⟨j,a,rfl⟩:=QaJ hk
      exact hs j a _
    · exact hx _
  · simp only [cond_true,List.cons_append,List.mem_cons,List.mem_append,List.mem_map,List.not_mem_nil,or_false] at hr
    rcases hr with rfl | ⟨k,hk,rfl⟩ | rfl
    · exact hx _
    · obtain ⟨j,a,rfl⟩:=QaJ hk
      exact hs j a _
    · exact hy _
theorem Qho {R:Type} {G:Geo} (hG:G.OK) {q1 q2 q3 q4 q7:LL} {g a b:Nat} {up:Bool} (hg:g+1<G.N) (ha:a<2) (hb:b<2) :
    ∃ s,RtOK G s (bif up then G.tk g a else G.tk (g+1) b) (bif up then G.tk (g+1) b else G.tk g a)∧∀ K:LL→Int→LL→LL→LL→LL→LL→LL→LL→Option R,YW 40 q1 q2 q3 q4 G.Tr G.Bt q7 (g:Int) (a:Int) (b:Int) up K=K s 0 q1 q2 q3 q4 G.Tr G.Bt q7:=by
  have hN:=hG.hN
  have hc:=hG.ct g (by omega)
  have hc':=hG.ct (g+1) hg
  have hu:=hG.ut g hg
  obtain ⟨o,p,q,t,e1,f,h⟩:=hG.trk (a:=a) (show g<G.N by omega)
  obtain ⟨v,w,x,y,e2,i,k⟩:=hG.trk (a:=b) hg
  have hgap:=hG.rts g hg
  unfold Qfm at hgap
  have hgap:=List.all_eq_true.1 (List.all_eq_true.1 hgap _ (Qdu hc (a:=a))) _ (Qdu hc' (a:=b))
  simp only [Bool.and_eq_true] at hgap
  refine ⟨BW (G.s g) (G.u g) (G.k g+a % G.c g) (G.k (g+1)+b % G.c (g+1)) up,?_,fun K=>QdF (by omega) (hG.tr g (by omega)) (hG.tr (g+1) hg) (hG.bt g hg) hc hc' hu ha hb K⟩
  have hst:∀ r∈BW (G.s g) (G.u g) (G.k g+a % G.c g) (G.k (g+1)+b % G.c (g+1)) up,Q9O G.Se r:=by
    refine QaE (fun d=>⟨_,_,_,_,_,_,_,rfl,e1,f,h⟩) (fun d=>⟨_,_,_,_,_,_,_,rfl,e2,i,k⟩) fun j hj d=>?_
    obtain ⟨z,x3,y3,z3,w3,l,m,n⟩:=hG.gap g hg j hj
    exact ⟨_,_,_,_,_,_,_,rfl,l,m,n⟩
  have c:Sta G (G.tk g a):=⟨_,_,_,_,_,e1,by omega⟩
  have e:Sta G (G.tk (g+1) b):=⟨_,_,_,_,_,e2,by omega⟩
  revert hst hgap
  generalize G.s g=s
  generalize G.u g=u at hu
  intro hgap hst
  have hl:(BW s u (G.k g+a % G.c g) (G.k (g+1)+b % G.c (g+1)) up).length=u+2:=by
    rcases hu with rfl | rfl <;> cases up <;> rfl
  cases up
  · exact ⟨by omega,by omega,hgap.2,hst,e,c,by rcases hu with rfl | rfl <;> exact ⟨1,rfl⟩,by rw [hl];rcases hu with rfl | rfl <;> exact ⟨1,rfl⟩⟩
  · exact ⟨by omega,by omega,hgap.1,hst,c,e,by rcases hu with rfl | rfl <;> exact ⟨0,rfl⟩,by rw [hl];rcases hu with rfl | rfl <;> exact ⟨0,rfl⟩⟩

end Go.Vx
namespace Go.Vx
variable {R:Type}
def UC (n:Nat) (f:Bool) (g:Int) (q1 q2 q3 q4 h i q7 b:LL) (c j:Int) (k l d m o p q:LL) (k0:(List UInt8)→Int→LL→LL→Int→Option R):Option R:=
 gb true (Jd n (bs [78]) ((List.length d:Nat):Int) some) [] fun a=>
 gb true (Qb n b c (4:Int) (fun e a r2=>some (e,a,r2))) (0,[],0) fun r2=>
 k0 a r2.1 [[D.int .i64 (0:Int)],[D.int .i64 (0:Int)],[D.int .i64 (0:Int)]] r2.2.1 r2.2.2
def JS (n:Nat) (i:Bool) (j a:Int) (w7:List UInt8) (k:Int) (c q1 q2 q3 q4 l m q7 o p q r s t u d:LL) (e v:Int) (k0:Int→LL→LL→Int→Option R) (k1:Bool→Option R):Option R:=
 bif (decide (a<(3:Int))) then
  gb true (Qb n d e (2:Int) (fun f g r2=>some (f,g,r2))) (0,[],0) fun b=>
  gb true (inB 3 a) () fun w=>
  gb true (c[(Int.toNat a)]?) [] fun h=>
  k0 (IntKind.wrap .i64 (a+(1:Int))) (List.set c (Int.toNat a) (List.set h 0 (D.int .i64 b.1))) b.2.1 b.2.2
 else
  k1 (decide (a<(3:Int)))
def ZJ (n:Nat) (a:Bool) (b:Int) (w7:List UInt8) (c:Int) (q1 q2 q3 q4 d e q7 f g h i j k l:LL) (o:Int) (k0:Int→Bool→LL→LL→Int→Option R):Nat→Int→LL→LL→Int→Option R
 | 0,_,_,_,_=>none
 | m+1,p,q,r,s=>
  JS n a b p w7 c q q1 q2 q3 q4 d e q7 f g h i j k l r s o
   (fun t u v w=>
   ZJ n a b w7 c q1 q2 q3 q4 d e q7 f g h i j k l o k0 m t u v w)
   (fun x=>
   k0 p x q r s)
def Uu (n:Nat) (a:Bool) (b c:Int) (d:Bool) (w7:List UInt8) (e:Int) (f q1 q2 q3 q4 g h q7 i j k l m o p q:LL) (r s:Int) (k0:Option R):Option R:=
 k0
def Z0 (n:Nat) (q:Bool) (g c:Int) (w7:List UInt8) (w8:Int) (m h w x y z aa ab ac au f av aw ax ay az ad:LL) (ae ba:Int) (k0:Int→LL→LL→LL→LL→LL→LL→LL→LL→LL→LL→Int→Option R) (k1:Bool→Option R):Option R:=
 bif (decide (c<g)) then
  bif (!q) then
   gb true (inB 3 (IntKind.wrap .i64 ((IntKind.wrap .i64 (g-(1:Int)))-c))) () fun bb=>
   gb true (m[(Int.toNat (IntKind.wrap .i64 ((IntKind.wrap .i64 (g-(1:Int)))-c)))]?) [] fun af=>
   gb true (af[0]?) (.bool false) fun ag=>
   gb true (XL .i64 ag) 0 fun ah=>
   gb true (inB 3 (IntKind.wrap .i64 ((IntKind.wrap .i64 ((IntKind.wrap .i64 (g-(1:Int)))-c))+(1:Int)))) () fun bc=>
   gb true (m[(Int.toNat (IntKind.wrap .i64 ((IntKind.wrap .i64 ((IntKind.wrap .i64 (g-(1:Int)))-c))+(1:Int))))]?) [] fun ai=>
   gb true (ai[0]?) (.bool false) fun aj=>
   gb true (XL .i64 aj) 0 fun ak=>
   gb true (YW n w x y z aa ab ac (IntKind.wrap .i64 ((IntKind.wrap .i64 (g-(1:Int)))-c)) ah ak q (fun d e r2 r3 r s t u v=>some (d,e,r2,r3,r,s,t,u,v))) ([],0,[],[],[],[],[],[],[]) fun a=>
   gb true (R0 ((List.length f+List.length [[D.sl 2 a.1,D.int .i64 a.2.1]])*32)) () fun bd=>
   gb true (Qb n ad ae (3:Int) (fun d e r2=>some (d,e,r2))) (0,[],0) fun i=>
   bif (decide ((IntKind.wrap .i64 (c+(1:Int)))<g)) then
    gb true (Qb n i.2.1 i.2.2 (6:Int) (fun d e r2=>some (d,e,r2))) (0,[],0) fun k=>
    gb true (Qb n k.2.1 k.2.2 (4:Int) (fun d e r2=>some (d,e,r2))) (0,[],0) fun o=>
    gb true (R0 ((List.length h+List.length [[D.int .i64 (IntKind.wrap .i64 (((List.length (f++[[D.sl 2 a.1,D.int .i64 a.2.1]]):Nat):Int)-(1:Int))),D.int .i64 i.1,D.int .i64 (IntKind.wrap .i64 ((5:Int)+k.1)),D.int .i64 (IntKind.wrap .i64 ((IntKind.wrap .i64 ((5:Int)+k.1))+o.1))]])*32)) () fun be=>
    k0 (IntKind.wrap .i64 (c+(1:Int))) (h++[[D.int .i64 (IntKind.wrap .i64 (((List.length (f++[[D.sl 2 a.1,D.int .i64 a.2.1]]):Nat):Int)-(1:Int))),D.int .i64 i.1,D.int .i64 (IntKind.wrap .i64 ((5:Int)+k.1)),D.int .i64 (IntKind.wrap .i64 ((IntKind.wrap .i64 ((5:Int)+k.1))+o.1))]]) a.2.2.1 a.2.2.2.1 a.2.2.2.2.1 a.2.2.2.2.2.1 a.2.2.2.2.2.2.1 a.2.2.2.2.2.2.2.1 a.2.2.2.2.2.2.2.2 (f++[[D.sl 2 a.1,D.int .i64 a.2.1]]) o.2.1 o.2.2
   else
    gb true (R0 ((List.length h+List.length [[D.int .i64 (IntKind.wrap .i64 (((List.length (f++[[D.sl 2 a.1,D.int .i64 a.2.1]]):Nat):Int)-(1:Int))),D.int .i64 i.1,D.int .i64 (0:Int),D.int .i64 (0:Int)]])*32)) () fun bf=>
    k0 (IntKind.wrap .i64 (c+(1:Int))) (h++[[D.int .i64 (IntKind.wrap .i64 (((List.length (f++[[D.sl 2 a.1,D.int .i64 a.2.1]]):Nat):Int)-(1:Int))),D.int .i64 i.1,D.int .i64 (0:Int),D.int .i64 (0:Int)]]) a.2.2.1 a.2.2.2.1 a.2.2.2.2.1 a.2.2.2.2.2.1 a.2.2.2.2.2.2.1 a.2.2.2.2.2.2.2.1 a.2.2.2.2.2.2.2.2 (f++[[D.sl 2 a.1,D.int .i64 a.2.1]]) i.2.1 i.2.2
  else
   gb true (inB 3 c) () fun bg=>
   gb true (m[(Int.toNat c)]?) [] fun al=>
   gb true (al[0]?) (.bool false) fun am=>
   gb true (XL .i64 am) 0 fun an=>
   gb true (inB 3 (IntKind.wrap .i64 (c+(1:Int)))) () fun bh=>
   gb true (m[(Int.toNat (IntKind.wrap .i64 (c+(1:Int))))]?) [] fun ao=>
   gb true (ao[0]?) (.bool false) fun ap=>
   gb true (XL .i64 ap) 0 fun aq=>
   gb true (YW n w x y z aa ab ac c an aq q (fun d e r2 r3 r s t u v=>some (d,e,r2,r3,r,s,t,u,v))) ([],0,[],[],[],[],[],[],[]) fun b=>
   gb true (R0 ((List.length f+List.length [[D.sl 2 b.1,D.int .i64 b.2.1]])*32)) () fun bi=>
   gb true (Qb n ad ae (3:Int) (fun d e r2=>some (d,e,r2))) (0,[],0) fun j=>
   bif (decide ((IntKind.wrap .i64 (c+(1:Int)))<g)) then
    gb true (Qb n j.2.1 j.2.2 (6:Int) (fun d e r2=>some (d,e,r2))) (0,[],0) fun l=>
    gb true (Qb n l.2.1 l.2.2 (4:Int) (fun d e r2=>some (d,e,r2))) (0,[],0) fun p=>
    gb true (R0 ((List.length h+List.length [[D.int .i64 (IntKind.wrap .i64 (((List.length (f++[[D.sl 2 b.1,D.int .i64 b.2.1]]):Nat):Int)-(1:Int))),D.int .i64 j.1,D.int .i64 (IntKind.wrap .i64 ((5:Int)+l.1)),D.int .i64 (IntKind.wrap .i64 ((IntKind.wrap .i64 ((5:Int)+l.1))+p.1))]])*32)) () fun bj=>
    k0 (IntKind.wrap .i64 (c+(1:Int))) (h++[[D.int .i64 (IntKind.wrap .i64 (((List.length (f++[[D.sl 2 b.1,D.int .i64 b.2.1]]):Nat):Int)-(1:Int))),D.int .i64 j.1,D.int .i64 (IntKind.wrap .i64 ((5:Int)+l.1)),D.int .i64 (IntKind.wrap .i64 ((IntKind.wrap .i64 ((5:Int)+l.1))+p.1))]]) b.2.2.1 b.2.2.2.1 b.2.2.2.2.1 b.2.2.2.2.2.1 b.2.2.2.2.2.2.1 b.2.2.2.2.2.2.2.1 b.2.2.2.2.2.2.2.2 (f++[[D.sl 2 b.1,D.int .i64 b.2.1]]) p.2.1 p.2.2
   else
    gb true (R0 ((List.length h+List.length [[D.int .i64 (IntKind.wrap .i64 (((List.length (f++[[D.sl 2 b.1,D.int .i64 b.2.1]]):Nat):Int)-(1:Int))),D.int .i64 j.1,D.int .i64 (0:Int),D.int .i64 (0:Int)]])*32)) () fun bk=>
    k0 (IntKind.wrap .i64 (c+(1:Int))) (h++[[D.int .i64 (IntKind.wrap .i64 (((List.length (f++[[D.sl 2 b.1,D.int .i64 b.2.1]]):Nat):Int)-(1:Int))),D.int .i64 j.1,D.int .i64 (0:Int),D.int .i64 (0:Int)]]) b.2.2.1 b.2.2.2.1 b.2.2.2.2.1 b.2.2.2.2.2.1 b.2.2.2.2.2.2.1 b.2.2.2.2.2.2.2.1 b.2.2.2.2.2.2.2.2 (f++[[D.sl 2 b.1,D.int .i64 b.2.1]]) j.2.1 j.2.2
 else
  k1 (decide (c<g))
def Z1 (n:Nat) (a:Bool) (b:Int) (w7:List UInt8) (c:Int) (d e f g h i j:LL) (k:Int) (k0:Int→Bool→LL→LL→LL→LL→LL→LL→LL→LL→LL→LL→Int→Option R):Nat→Int→LL→LL→LL→LL→LL→LL→LL→LL→LL→LL→Int→Option R
 | 0,_,_,_,_,_,_,_,_,_,_,_,_=>none
 | m+1,l,o,p,q,r,s,t,u,v,w,x,y=>
  Z0 n a b l w7 c d o p q r s t u v e w f g h i j x y k
   (fun z aa ab ac ad ae af ag ah ai aj ak=>
   Z1 n a b w7 c d e f g h i j k k0 m z aa ab ac ad ae af ag ah ai aj ak)
   (fun al=>
   k0 l al o p q r s t u v w x y)
def Uz (n:Nat) (d:Bool) (e f:Int) (g:Bool) (w7:List UInt8) (a:Int) (h b i j k l m o p q r c s t u v w:LL) (x y:Int) (k0:LL→Option R):Option R:=
 gb true (R0 ((List.length c+List.length [[D.str w7,D.int .i64 (0:Int),D.int .i64 a,D.sl 4 b]])*56)) () fun z=>
 k0 (c++[[D.str w7,D.int .i64 (0:Int),D.int .i64 a,D.sl 4 b]])
def JA (n:Nat) (a:Bool) (b:Int) (q1 q2 q3 q4 j k q7 ab:LL) (ac c:Int) (d l e f g h i:LL) (k0:LL→LL→LL→LL→LL→LL→LL→LL→LL→LL→Int→Option R):Option R:=
 UC n a b q1 q2 q3 q4 j k q7 ab ac c d l e f g h i
  (fun w7 m w9 ae af=>
  ZJ n a b w7 m q1 q2 q3 q4 j k q7 d l e f g h i c
   (fun ag ah o p q=>
   Uu n a b ag ah w7 m o q1 q2 q3 q4 j k q7 d l e f g h i p q c
    (Z1 n a b w7 m o d e f g h i c
     (fun ai aj ak r s t u v w x y z aa=>
     Uz n a b ai aj w7 m o ak r s t u v w x d y e f g h i z aa c
      (fun al=>
      k0 al r s t u v w x y z aa))
     n (0:Int) [] q1 q2 q3 q4 j k q7 l p q))
   n (0:Int) w9 ae af)
def Us (n:Nat) (q1 q2 q3 q4 g h q7 i:LL) (j a:Int) (b k l c d e f:LL) (m:Bool) (o:Int) (K:LL→LL→LL→LL→LL→LL→LL→LL→Int→Int→LL→LL→LL→LL→LL→LL→LL→Option R):Option R:=
 JA n m o q1 q2 q3 q4 g h q7 i j a b k l c d e f
  (fun p q r s t u v w x y z=>K q r s t u v w y z a b x p c d e f)
end Go.Vx
namespace Go.Vx
def DV (G:Geo) (Ro:LL) (row:List D) (x y:Int) (last:Bool):Prop:=
  ∃ (rt:Nat) (ex mn mx:Int) (s:LL),row=[Yo rt,Yo ex,Yo mn,Yo mx]∧Ro[rt]? = some [D.sl 2 s,Yo 0]∧RtOK G s x y∧(0≤ex∧ex<3)∧(0≤mn∧mn≤mx∧mx≤mn+3∧mn≤10)∧(last=true→mn=0∧mx=0)
def nmN (k:Nat):List UInt8:=bs [78]++[UInt8.ofNat (48+k)]
def Qa0 (G:Geo) (Ro:LL) (rides:LL):Prop:=
  (∃ r x y,rides=[r]∧DV G Ro r x y true)∨(∃ r r' x y z,rides=[r,r']∧DV G Ro r x y false∧DV G Ro r' y z true)
def QeW (G:Geo) (Ro:LL) (k:Nat) (row:List D):Prop:=∃ (w:Int) (rides:LL),row=[D.str (nmN k),Yo 0,Yo w,D.sl 4 rides]∧0≤w∧w<4∧Qa0 G Ro rides
structure GoodP (G:Geo) (Ro Ls:LL):Prop where
  ro:∀ row∈Ro,∃ s x y,row=[D.sl 2 s,Yo 0]∧RtOK G s x y
  ls:∀ k row,Ls[k]? = some row→QeW G Ro k row
theorem DV.mono {G:Geo} {Ro t:LL} {row:List D} {x y:Int} {b:Bool} (h:DV G Ro row x y b):DV G (Ro++t) row x y b:=by
  obtain ⟨rt,ex,mn,mx,s,c,a,d⟩:=h
  refine ⟨rt,ex,mn,mx,s,c,?_,d⟩
  rw [List.getElem?_append_left (List.getElem?_eq_some_iff.1 a).1]
  exact a
theorem Qa0.mono {G:Geo} {Ro t rides:LL} (h:Qa0 G Ro rides):Qa0 G (Ro++t) rides:=by
  rcases h with ⟨r,x,y,e,h⟩ | ⟨r,r',x,y,z,e,h,h'⟩
  · exact .inl ⟨r,x,y,e,h.mono⟩
  · exact .inr ⟨r,r',x,y,z,e,h.mono,h'.mono⟩
theorem QeW.mono {G:Geo} {Ro t:LL} {k:Nat} {row:List D} (h:QeW G Ro k row):QeW G (Ro++t) k row:=by
  obtain ⟨w,rides,a,b,c,d⟩:=h
  exact ⟨w,rides,a,b,c,d.mono⟩
section
variable {R:Type} {l:List Int} (hl:l.length≤9223372036854775807) {P:R→Prop}
include hl
def atL (At:Nat→Nat):LL:=[[Yo (At 0)],[Yo (At 1)],[Yo (At 2)]]
theorem QiP {d:Bool} {e f g:Int} {w7:List UInt8} {q1 q2 q3 q4 h k q7 m n o p q r s:LL} {i:Nat} (hi:i≤l.length) {k0:Int→Bool→LL→LL→Int→Option R}
    (H:∀ (At:Nat→Nat) (j:Nat),(∀ i,At i<2)→j≤l.length→k0 3 false (atL At) (encI l) (j:Int)∈P) :
    ZJ 40 d e w7 f q1 q2 q3 q4 h k q7 m s n o p q r g k0 40 (0:Int) [[D.int .i64 (0:Int)],[D.int .i64 (0:Int)],[D.int .i64 (0:Int)]] (encI l) (i:Int)∈P:=by
  refine Jk hl hi (by decide) (by decide) fun v0 j a0 b0 hj=>?_
  refine Jk hl hj (by decide) (by decide) fun u j a1 b1 hj=>?_
  refine Jk hl hj (by decide) (by decide) fun v j t w hj=>?_
  obtain ⟨a,rfl⟩:=Int.eq_ofNat_of_zero_le a0
  obtain ⟨b,rfl⟩:=Int.eq_ofNat_of_zero_le a1
  obtain ⟨c,rfl⟩:=Int.eq_ofNat_of_zero_le t
  exact H (fun | 0=>a | 1=>b | _=>c) j (fun | 0=>by show a<2;omega | 1=>by show b<2;omega | _+2=>by show c<2;omega) hj
end
theorem atA {R:Type} {At:Nat→Nat} {g:Nat} (hg:g<3) (K:Int→Option R) :
    gb true (inB 3 (g:Int)) () (fun _=>gb true ((atL At)[(Int.toNat (g:Int))]?) [] fun r=>gb true (r[0]?) (.bool false) fun c=>gb true (XL .i64 c) 0 fun i=>K i)=K (At g):=by
  obtain rfl | rfl | rfl:g=0∨g=1∨g=2:=by omega
  all_goals rfl
section
variable {R:Type} {l:List Int} (hl:l.length≤9223372036854775807) {P:R→Prop} {G:Geo} (hG:G.OK)
include hl hG
theorem Qgq {up:Bool} {many h g:Nat} {d f:Int} {w7:List UInt8} {acc q7 k Ro m n o p q:LL} {At:Nat→Nat} (hAt:∀ i,At i<2) (hm:many≤2) (hh:h<many) (hg:g=bif up then h else many-1-h) (hN:many<G.N) (hR:Ro.length≤100) (ha:acc.length≤10)
    {i:Nat} (hi:i≤l.length) {k0:Int→LL→LL→LL→LL→LL→LL→LL→LL→LL→LL→Int→Option R} {k1:Bool→Option R}
    (H:∀ (s:LL) (ex mn mx:Int) (j:Nat),RtOK G s (bif up then G.tk g (At g) else G.tk (g+1) (At (g+1))) (bif up then G.tk (g+1) (At (g+1)) else G.tk g (At g))→0≤ex∧ex<3→(0≤mn∧mn≤mx∧mx≤mn+3∧mn≤10)→(h+1=many→mn=0∧mx=0)→j≤l.length →
      k0 ((h+1:Nat):Int) (acc++[[Yo (Ro.length:Nat),Yo ex,Yo mn,Yo mx]]) G.St G.Pt G.Se G.Li G.Tr G.Bt q7 (Ro++[[D.sl 2 s,Yo 0]]) (encI l) (j:Int)∈P) :
    Z0 40 up (many:Int) (h:Int) w7 d (atL At) acc G.St G.Pt G.Se G.Li G.Tr G.Bt q7 k Ro m n o p q (encI l) (i:Int) f k0 k1∈P:=by
  have hN3:=hG.hN
  have hgm:g<many:=by
    rw [hg]
    cases up
    · show many-1-h<many
      omega
    · exact hh
  have hgN:g+1<G.N:=by omega
  obtain ⟨s,hs,e⟩:=Qho (R:=LL × Int × LL × LL × LL × LL × LL × LL × LL) hG (q1:=G.St) (q2:=G.Pt) (q3:=G.Se) (q4:=G.Li) (q7:=q7) (up:=up) hgN (hAt g) (hAt (g+1))
  have r:IntKind.wrap .i64 ((h:Int)+1)=((h+1:Nat):Int):=by rw [ZB (by omega) (by omega)];omega
  have t:IntKind.wrap .i64 ((g:Int)+1)=((g+1:Nat):Int):=by rw [ZB (by omega) (by omega)];omega
  have u:up=false→IntKind.wrap .i64 (IntKind.wrap .i64 ((many:Int)-1)-(h:Int))=(g:Int):=by
    intro hu
    rw [ZB (x:=(many:Int)-1) (by omega) (by omega),ZB (by omega) (by omega)]
    simp [hu] at hg
    omega
  have hlen:IntKind.wrap .i64 ((((Ro++[[D.sl 2 s,Yo 0]]).length:Nat):Int)-1)=((Ro.length:Nat):Int):=by
    rw [show (Ro++[[D.sl 2 s,Yo 0]]).length=Ro.length+1 by simp,ZB (by omega) (by omega)]
    omega
  unfold Z0
  rw [U9 (by simp;omega),r]
  cases up
  · rw [U9 (c:=!false) rfl,u rfl,t,atA (by omega),atA (by omega),e,Q0,Rz (by simp;omega),Q0]
    refine Jk hl hi (by decide) (by decide) fun ex j a b hj=>?_
    dsimp only
    rw [hlen]
    by_cases hlast:h+1<many
    · rw [U9 (by simp;omega)]
      refine Jk hl hj (by decide) (by decide) fun mn j v w hj=>?_
      refine Jk hl hj (by decide) (by decide) fun mx j y z hj=>?_
      rw [Rz (by simp;omega),Q0]
      dsimp only
      rw [ZB (x:=5+mn) (by omega) (by omega),ZB (x:=5+mn+mx) (by omega) (by omega)]
      exact H s ex (5+mn) (5+mn+mx) j hs ⟨a,b⟩ ⟨by omega,by omega,by omega,by omega⟩ (fun hx=>absurd hx (by omega)) hj
    · rw [XF (by simp;omega),Rz (by simp;omega),Q0]
      exact H s ex 0 0 j hs ⟨a,b⟩ ⟨by omega,by omega,by omega,by omega⟩ (fun hx=>⟨rfl,rfl⟩) hj
  · have hgh:g=h:=by simpa using hg
    subst hgh
    rw [XF (c:=!true) rfl,atA (by omega),atA (by omega),e,Q0,Rz (by simp;omega),Q0]
    refine Jk hl hi (by decide) (by decide) fun ex j a b hj=>?_
    dsimp only
    rw [hlen]
    by_cases hlast:g+1<many
    · rw [U9 (by simp;omega)]
      refine Jk hl hj (by decide) (by decide) fun mn j v w hj=>?_
      refine Jk hl hj (by decide) (by decide) fun mx j y z hj=>?_
      rw [Rz (by simp;omega),Q0]
      dsimp only
      rw [ZB (x:=5+mn) (by omega) (by omega),ZB (x:=5+mn+mx) (by omega) (by omega)]
      exact H s ex (5+mn) (5+mn+mx) j hs ⟨a,b⟩ ⟨by omega,by omega,by omega,by omega⟩ (fun hx=>absurd hx (by omega)) hj
    · rw [XF (by simp;omega),Rz (by simp;omega),Q0]
      exact H s ex 0 0 j hs ⟨a,b⟩ ⟨by omega,by omega,by omega,by omega⟩ (fun hx=>⟨rfl,rfl⟩) hj
omit hl hG in
theorem QbK {n m:Nat} {q:Bool} {b a r s:Int} {w7:List UInt8} {t u v w x y z c d e f g i j k l o:LL} {p:Int} {k0:Int→Bool→LL→LL→LL→LL→LL→LL→LL→LL→LL→LL→Int→Option R} (h:¬ a<b) :
    Z1 n q b w7 r t u v w x y z s k0 (m+1) a c d e f g i j k l o p=k0 a false c d e f g i j k l o p:=by
  unfold Z1 Z0
  rw [XF (by simpa using h)]
  simp [h]
theorem Qit {up:Bool} {many:Nat} {e:Int} {q7 f Ro Ls m n o p:LL} (hm:many=1∨many=2) (hN:many<G.N) (hgood:GoodP G Ro Ls) (hR:Ro.length≤20) (hL:Ls.length<6)
    {i:Nat} (hi:i≤l.length) {K:LL→LL→LL→LL→LL→LL→LL→LL→Int→Int→LL→LL→LL→LL→LL→LL→LL→Option R}
    (H:∀ (Ro' Ls':LL) (j:Nat),GoodP G Ro' Ls'→Ls'.length=Ls.length+1→Ro'.length≤Ro.length+2→j≤l.length→K G.St G.Pt G.Se G.Li G.Tr G.Bt q7 (encI l) (j:Int) e f Ro' Ls' m n o p∈P) :
    Us 40 G.St G.Pt G.Se G.Li G.Tr G.Bt q7 (encI l) (i:Int) e f Ro Ls m n o p up (many:Int) K∈P:=by
  unfold Us JA UC
  rw [Q64 _ _ Ls.length (by omega) (by decide),Q0]
  refine Jk hl hi (by decide) (by decide) fun w j w0 q hj=>?_
  dsimp only
  refine QiP hl hj fun At j hAt hj=>?_
  unfold Uu
  rcases hm with rfl | rfl
  · refine Qgq hl hG (h:=0) (g:=0) hAt (by decide) (by decide) (by cases up <;> rfl) hN (by omega) (by decide) hj fun s ex mn mx j hs hex hmn hlast hj=>?_
    rw [QbK (by decide)]
    unfold Uz
    rw [Rz (by simp;omega),Q0]
    refine H _ _ j ⟨fun row hr=>?_,fun k row hk=>?_⟩ (by simp) (by simp) hj
    · rcases List.mem_append.1 hr with hr | hr
      · exact hgood.ro row hr
      · rw [List.mem_singleton.1 hr]
        exact ⟨s,_,_,rfl,hs⟩
    · rcases Nat.lt_or_ge k Ls.length with hkl | hkl
      · rw [List.getElem?_append_left hkl] at hk
        exact (hgood.ls k row hk).mono
      · rw [List.getElem?_append_right hkl] at hk
        obtain ⟨c,rfl⟩:=List.getElem?_eq_some_iff.1 hk
        simp at c
        have d:k=Ls.length:=by omega
        subst d
        refine ⟨w,_,by simp [nmN],w0,q,.inl ⟨_,_,_,rfl,Ro.length,ex,mn,mx,s,rfl,by simp,hs,hex,hmn,fun _=>hlast rfl⟩⟩
  · obtain ⟨a,r⟩:∃ a,a=bif up then 0 else 1:=⟨_,rfl⟩
    obtain ⟨b,t⟩:∃ b,b=bif up then 1 else 0:=⟨_,rfl⟩
    refine Qgq hl hG (h:=0) (g:=a) hAt (by decide) (by decide) (by cases up <;> simpa using r) hN (by omega) (by decide) hj fun s ex mn mx j hs hex hmn hlast hj=>?_
    refine Qgq hl hG (h:=1) (g:=b) hAt (by decide) (by decide) (by cases up <;> simpa using t) hN (by simp;omega) (by simp) hj fun s' ex' mn' mx' j hs' hex' hmn' hlast' hj=>?_
    have hmid:(bif up then G.tk (a+1) (At (a+1)) else G.tk a (At a))=(bif up then G.tk b (At b) else G.tk (b+1) (At (b+1))):=by
      subst r t
      cases up <;> rfl
    rw [hmid] at hs
    rw [QbK (by decide)]
    unfold Uz
    rw [Rz (by simp;omega),Q0]
    refine H _ _ j ⟨fun row hr=>?_,fun k row hk=>?_⟩ (by simp) (by simp) hj
    · rcases List.mem_append.1 hr with hr | hr
      · rcases List.mem_append.1 hr with hr | hr
        · exact hgood.ro row hr
        · rw [List.mem_singleton.1 hr]
          exact ⟨s,_,_,rfl,hs⟩
      · rw [List.mem_singleton.1 hr]
        exact ⟨s',_,_,rfl,hs'⟩
    · rcases Nat.lt_or_ge k Ls.length with hkl | hkl
      · rw [List.getElem?_append_left hkl] at hk
        exact (hgood.ls k row hk).mono.mono
      · rw [List.getElem?_append_right hkl] at hk
        obtain ⟨c,rfl⟩:=List.getElem?_eq_some_iff.1 hk
        simp at c
        have d:k=Ls.length:=by omega
        subst d
        refine ⟨w,_,by simp [nmN],w0,q,.inr ⟨_,_,_,_,_,rfl,DV.mono ⟨Ro.length,ex,mn,mx,s,rfl,by simp,hs,hex,hmn,fun h=>by cases h⟩,(Ro++[[D.sl 2 s,Yo 0]]).length,ex',mn',mx',s',rfl,by simp,hs',hex',hmn',fun _=>hlast' rfl⟩⟩
end
end Go.Vx
namespace Go.Vx
variable {R:Type}
def Ee (n:Nat) (r:Int) (s c d t u v w:LL) (a1 e:Int) (K:Int→Option R):Option R:=
 gb true (X2 d a1) [] fun f=>
 gb true (f[3]?) (.bool false) fun g=>
 gb true (pSl 4 g) [] fun h=>
 gb true (X2 h e) [] fun i=>
 gb true (i[0]?) (.bool false) fun j=>
 gb true (XL .i64 j) 0 fun k=>
 gb true (X2 c k) [] fun a=>
 gb true (a[0]?) (.bool false) fun b=>
 gb true (a[1]?) (.bool false) fun x=>
 gb true (pSl 2 b) [] fun l=>
 gb true (pSl 2 b) [] fun m=>
 gb true (X2 l (IntKind.wrap .i64 (((List.length m:Nat):Int)-(1:Int)))) [] fun o=>
 gb true (o[0]?) (.bool false) fun p=>
 gb true (XL .i64 p) 0 fun q=>
 K q
def NV (n:Nat) (q:Int) (r a b s t u v:LL) (a1 c:Int) (K:Int→Option R):Option R:=
 gb true (X2 b a1) [] fun d=>
 gb true (d[3]?) (.bool false) fun e=>
 gb true (pSl 4 e) [] fun f=>
 gb true (X2 f c) [] fun g=>
 gb true (g[0]?) (.bool false) fun h=>
 gb true (XL .i64 h) 0 fun i=>
 gb true (X2 a i) [] fun j=>
 gb true (j[0]?) (.bool false) fun k=>
 gb true (pSl 2 k) [] fun l=>
 gb true (X2 l (0:Int)) [] fun m=>
 gb true (m[0]?) (.bool false) fun o=>
 gb true (XL .i64 o) 0 fun p=>
 K p

def Hk (n:Nat) (a:LL) (b c:Int) (q2 q3 q4 d e q7 f:LL) (k0:Int→LL→Option R):Option R:=
 k0 ((List.length q4:Nat):Int) [[D.bool false],[D.bool false],[D.bool false],[D.bool false]]
def JX (n:Nat) (a b:Int) (c d q2 q3 q4 e f q7 g h:LL) (i j:Int) (k0:Int→Option R) (k1:Bool→Option R):Option R:=
 bif (decide (b<a)) then
  k0 ((List.length q4:Nat):Int)
 else
  k1 (decide (b<a))
def Vv (n:Nat) (d w3 m b:Int) (j k q2 q3 q4 o g q7 p r:LL) (s q:Int) (k0:Int→LL→LL→LL→LL→Int→Option R) (k1:Bool→Option R):Option R:=
 bif (decide (b<m)) then
  gb true (Qb n r s (3:Int) (fun h i r2=>some (h,i,r2))) (0,[],0) fun a=>
  gb (decide (a.1>(0:Int))) (inB 4 d) () fun af=>
  gb (decide (a.1>(0:Int))) (j[(Int.toNat d)]?) [] fun t=>
  gb (decide (a.1>(0:Int))) (t[0]?) (.bool false) fun u=>
  gb (decide (a.1>(0:Int))) (Eu u) false fun c=>
  gb (bif (decide (a.1>(0:Int))) then (!c) else false) (inB 4 b) () fun ag=>
  gb (bif (decide (a.1>(0:Int))) then (!c) else false) (k[(Int.toNat b)]?) [] fun v=>
  gb (bif (decide (a.1>(0:Int))) then (!c) else false) (v[0]?) (.bool false) fun w=>
  gb (bif (decide (a.1>(0:Int))) then (!c) else false) (Eu w) false fun e=>
  gb (bif (bif (decide (a.1>(0:Int))) then (!c) else false) then (!e) else false) (inB (List.length q4) d) () fun ah=>
  gb (bif (bif (decide (a.1>(0:Int))) then (!c) else false) then (!e) else false) (q4[(Int.toNat d)]?) [] fun x=>
  gb (bif (bif (decide (a.1>(0:Int))) then (!c) else false) then (!e) else false) (x[3]?) (.bool false) fun y=>
  gb (bif (bif (decide (a.1>(0:Int))) then (!c) else false) then (!e) else false) (pSl 4 y) [] fun z=>
  gb (bif (bif (decide (a.1>(0:Int))) then (!c) else false) then (!e) else false) (Ee n q q2 q3 q4 o g q7 p d (IntKind.wrap .i64 (((List.length z:Nat):Int)-(1:Int))) some) 0 fun aa=>
  gb (bif (bif (decide (a.1>(0:Int))) then (!c) else false) then (!e) else false) (NV n q q2 q3 q4 o g q7 p b (0:Int) some) 0 fun ab=>
  bif (bif (bif (bif (decide (a.1>(0:Int))) then (!c) else false) then (!e) else false) then (aa == ab) else false) then
   gb true (inB 4 d) () fun ai=>
   gb true (j[(Int.toNat d)]?) [] fun ac=>
   gb true (inB 4 b) () fun aj=>
   gb true (k[(Int.toNat b)]?) [] fun ad=>
   gb true (Qb n a.2.1 a.2.2 (10:Int) (fun h i r2=>some (h,i,r2))) (0,[],0) fun f=>
   gb true (Qb n f.2.1 f.2.2 (30:Int) (fun h i r2=>some (h,i,r2))) (0,[],0) fun l=>
   gb true (R0 ((List.length g+List.length [[D.int .i64 d,D.int .i64 b,D.int .i64 (IntKind.wrap .i64 ((10:Int)+f.1)),D.int .i64 (IntKind.wrap .i64 ((IntKind.wrap .i64 ((10:Int)+f.1))+l.1))]])*32)) () fun ak=>
   k0 (IntKind.wrap .i64 (b+(1:Int))) (List.set j (Int.toNat d) (List.set ac 0 (D.bool true))) (List.set k (Int.toNat b) (List.set ad 0 (D.bool true))) (g++[[D.int .i64 d,D.int .i64 b,D.int .i64 (IntKind.wrap .i64 ((10:Int)+f.1)),D.int .i64 (IntKind.wrap .i64 ((IntKind.wrap .i64 ((10:Int)+f.1))+l.1))]]) l.2.1 l.2.2
  else
   k0 (IntKind.wrap .i64 (b+(1:Int))) j k g a.2.1 a.2.2
 else
  k1 (decide (b<m))
def Un (n:Nat) (a b c:Int) (q2 q3 q4 d q7 e:LL) (f:Int) (k0:Int→Bool→LL→LL→LL→LL→Int→Option R):Nat→Int→LL→LL→LL→LL→Int→Option R
 | 0,_,_,_,_,_,_=>none
 | m+1,g,h,i,j,k,l=>
  Vv n a b c g h i q2 q3 q4 d j q7 e k l f
   (fun o p q r s t=>
   Un n a b c q2 q3 q4 d q7 e f k0 m o p q r s t)
   (fun u=>
   k0 g u h i j k l)
def Nc (n:Nat) (a b c d:Int) (e:Bool) (f g q2 q3 q4 h i q7 j k:LL) (l m:Int) (k0:Int→Option R):Option R:=
 k0 (IntKind.wrap .i64 (a+(1:Int)))
def G0 (n:Nat) (a b:Int) (f g q2 q3 q4 c h q7 d i:LL) (j e:Int) (k0:Int→LL→LL→LL→LL→Int→Option R) (k1:Bool→Option R):Option R:=
 JX n a b f g q2 q3 q4 c h q7 d i j e
  (fun k=>
  Un n b a k q2 q3 q4 c q7 d e
   (fun r s l m o p q=>
   Nc n b a k r s l m q2 q3 q4 c o q7 d p q e
    (fun t=>
    k0 t l m o p q))
   n (0:Int) f g h i j)
  (fun u=>
  k1 u)
def Vt (n:Nat) (a:Int) (q2 q3 q4 b q7 c:LL) (d:Int) (k0:Int→Bool→LL→LL→LL→LL→Int→Option R):Nat→Int→LL→LL→LL→LL→Int→Option R
 | 0,_,_,_,_,_,_=>none
 | m+1,e,f,g,h,i,j=>
  G0 n a e f g q2 q3 q4 b h q7 c i j d
   (fun k l o p q r=>
   Vt n a q2 q3 q4 b q7 c d k0 m k l o p q r)
   (fun s=>
   k0 e s f g h i j)
def N1 (n:Nat) (a:LL) (b c:Int) (q2 q3 q4 d e q7 f:LL) (k0:Int→Int→Bool→LL→LL→LL→LL→Int→Option R):Option R:=
 Hk n a b c q2 q3 q4 d e q7 f
  (fun g h=>
  Vt n g q2 q3 q4 d q7 f c
   (fun i j k l m o p=>
   k0 g i j k l m o p)
   n (0:Int) h h e a b)
def P5 (n:Nat) (d:LL) (e a:Int) (q2 q3 q4 b f q7 c:LL) (K:LL→Int→Int→LL→LL→LL→LL→LL→LL→LL→Option R):Option R:=
 N1 n d e a q2 q3 q4 b f q7 c
  (fun j k l m o g h i=>K h i a q2 q3 q4 b g q7 c)

end Go.Vx
namespace Go.Vx
def Dy (Ls:LL) (k i:Nat) (r:List D):Prop:=∃ nm w rides,Ls[k]? = some [D.str nm,Yo 0,Yo w,D.sl 4 rides]∧rides[i]? = some r
theorem VE (w:LL) (i:Nat):X2 w (i:Int)=w[i]?:=by simp [X2]
section
variable {R:Type} {n:Nat}
theorem Qfs {G:Geo} {Ro Ls:LL} {k i:Nat} {r:List D} {x y:Int} {b:Bool} (h:Dy Ls k i r) (hr:DV G Ro r x y b) {p:Int} {a1 a c e f:LL} (K:Int→Option R):NV n p a1 Ro Ls a c e f (k:Int) (i:Int) K=K x:=by
  obtain ⟨nm,w,rides,g,j⟩:=h
  obtain ⟨rt,ex,mn,mx,s,rfl,l,m,_⟩:=hr
  obtain ⟨d,o⟩:=m.fst
  unfold NV
  rw [VE,g,Q0]
  dsimp only [List.getElem?_cons_zero,List.getElem?_cons_succ]
  rw [Q0,F4,Q0,VE,j,Q0]
  dsimp only [List.getElem?_cons_zero,List.getElem?_cons_succ]
  rw [Q0,QN,Q0,VE,l,Q0]
  dsimp only [List.getElem?_cons_zero,List.getElem?_cons_succ]
  rw [Q0,F4,Q0,o]
  rfl
theorem QhJ {G:Geo} {Ro Ls:LL} {k i:Nat} {r:List D} {x y:Int} {b:Bool} (h:Dy Ls k i r) (hr:DV G Ro r x y b) {p:Int} {a1 c e f g:LL} (K:Int→Option R):Ee n p a1 Ro Ls c e f g (k:Int) (i:Int) K=K y:=by
  obtain ⟨nm,w,rides,j,l⟩:=h
  obtain ⟨rt,ex,mn,mx,s,rfl,m,a,_⟩:=hr
  obtain ⟨d,o⟩:=a.lst
  have l2:=a.l2
  have l24:=a.l24
  unfold Ee
  rw [VE,j,Q0]
  dsimp only [List.getElem?_cons_zero,List.getElem?_cons_succ]
  rw [Q0,F4,Q0,VE,l,Q0]
  dsimp only [List.getElem?_cons_zero,List.getElem?_cons_succ]
  rw [Q0,QN,Q0,VE,m,Q0]
  dsimp only [List.getElem?_cons_zero,List.getElem?_cons_succ]
  rw [Q0,Q0,F4,Q0,Q0,ZB (by omega) (by omega),o]
  rfl
end
theorem Qc2 {G:Geo} {Ro Ls:LL} (hg:GoodP G Ro Ls) {k:Nat} (hk:k<Ls.length) :
    ∃ (w:Int) (rides:LL) (r r':List D) (x x' y y':Int) (b:Bool),Ls[k]? = some [D.str (nmN k),Yo 0,Yo w,D.sl 4 rides]∧(rides.length=1∨rides.length=2)∧rides[0]? = some r∧rides[rides.length-1]? = some r'∧DV G Ro r x y b∧DV G Ro r' x' y' true:=by
  obtain ⟨w,rides,a,d,e,c⟩:=hg.ls k _ (List.getElem?_eq_getElem hk)
  refine ⟨w,rides,?_⟩
  rw [List.getElem?_eq_getElem hk,a]
  rcases c with ⟨r,x,y,rfl,h⟩ | ⟨r,r',x,y,z,rfl,h,h'⟩
  · exact ⟨r,r,x,x,y,y,true,rfl,.inl rfl,rfl,rfl,h,h⟩
  · exact ⟨r,r',x,y,y,z,false,rfl,.inr rfl,rfl,rfl,h,h'⟩
abbrev Tup:=Nat × Nat × Int × Int
def tuR (t:Tup):List D:=[Yo t.1,Yo t.2.1,Yo t.2.2.1,Yo t.2.2.2]
def Qer (G:Geo) (Ro Ls:LL) (t:Tup):Prop:=
  t.1<Ls.length∧t.2.1<Ls.length∧10≤t.2.2.1∧t.2.2.1≤19∧t.2.2.1≤t.2.2.2∧t.2.2.2≤t.2.2.1+29 ∧
  ∃ (nm:List UInt8) (w:Int) (rides:LL) (r r':List D) (x y z:Int) (b b':Bool),Ls[t.1]? = some [D.str nm,Yo 0,Yo w,D.sl 4 rides]∧rides[rides.length-1]? = some r∧1≤rides.length∧rides.length≤2∧Dy Ls t.2.1 0 r'∧DV G Ro r x y b∧DV G Ro r' y z b'
structure TInv (G:Geo) (Ro Ls:LL) (T:List Tup) (FA TA:LL):Prop where
  ok:∀ t∈T,Qer G Ro Ls t
  fd:(T.map (·.1)).Nodup
  td:(T.map (·.2.1)).Nodup
  fl:∀ i,i<4→∃ b,FA[i]? = some [D.bool b]∧(b=false→i ∉ T.map (·.1))
  tl:∀ i,i<4→∃ b,TA[i]? = some [D.bool b]∧(b=false→i ∉ T.map (·.2.1))
theorem gbF {α R:Type} (p:Option α) (z:α) (k:α→Option R):gb false p z k=k (p.getD z):=by cases p <;> rfl
theorem TInv.add {G:Geo} {Ro Ls:LL} {T:List Tup} {FA TA:LL} (h:TInv G Ro Ls T FA TA) {t:Tup} (ht:Qer G Ro Ls t) (d:t.1 ∉ T.map (·.1)) (f:t.2.1 ∉ T.map (·.2.1)):TInv G Ro Ls (T++[t]) (FA.set t.1 [D.bool true]) (TA.set t.2.1 [D.bool true]) where
  ok:=fun u hu=>by
    rcases List.mem_append.1 hu with hu | hu
    · exact h.ok u hu
    · rw [List.mem_singleton.1 hu]
      exact ht
  fd:=by
    rw [List.map_append,List.nodup_append]
    refine ⟨h.fd,by simp,fun a ha b hb=>?_⟩
    simp at hb
    subst hb
    intro e
    subst e
    exact d ha
  td:=by
    rw [List.map_append,List.nodup_append]
    refine ⟨h.td,by simp,fun a ha b hb=>?_⟩
    simp at hb
    subst hb
    intro e
    subst e
    exact f ha
  fl:=fun i hi=>by
    obtain ⟨b,e,hb⟩:=h.fl i hi
    by_cases hit:t.1=i
    · subst hit
      refine ⟨true,?_,fun h=>by cases h⟩
      rw [List.getElem?_set_self (List.getElem?_eq_some_iff.1 e).1]
    · refine ⟨b,by rw [List.getElem?_set_ne hit];exact e,fun c hm=>?_⟩
      rw [List.map_append] at hm
      rcases List.mem_append.1 hm with hm | hm
      · exact hb c hm
      · simp at hm
        exact hit hm.symm
  tl:=fun i hi=>by
    obtain ⟨b,e,hb⟩:=h.tl i hi
    by_cases hit:t.2.1=i
    · subst hit
      refine ⟨true,?_,fun h=>by cases h⟩
      rw [List.getElem?_set_self (List.getElem?_eq_some_iff.1 e).1]
    · refine ⟨b,by rw [List.getElem?_set_ne hit];exact e,fun c hm=>?_⟩
      rw [List.map_append] at hm
      rcases List.mem_append.1 hm with hm | hm
      · exact hb c hm
      · simp at hm
        exact hit hm.symm
section
variable {R:Type} {l:List Int} (hl:l.length≤9223372036854775807) {P:R→Prop} {G:Geo} {Ro Ls:LL} (hg:GoodP G Ro Ls) (hL:Ls.length≤3)
include hl hg hL
theorem Qhg {a b:Nat} {f b1:Int} {FA TA q2 g q7 h:LL} {T:List Tup} (ha:a<Ls.length) (hb:b<Ls.length) (hT:TInv G Ro Ls T FA TA) (hTl:T.length≤100) {i:Nat} (hi:i≤l.length) {k0:Int→LL→LL→LL→LL→Int→Option R} {k1:Bool→Option R}
    (H:∀ (FA TA:LL) (T':List Tup) (j:Nat),TInv G Ro Ls T' FA TA→T'.length≤T.length+1→j≤l.length→k0 ((b+1:Nat):Int) FA TA (T'.map tuR) (encI l) (j:Int)∈P) :
    Vv 40 (a:Int) f ((Ls.length:Nat):Int) (b:Int) FA TA q2 Ro Ls g (T.map tuR) q7 h (encI l) (i:Int) b1 k0 k1∈P:=by
  have hwb:IntKind.wrap .i64 ((b:Int)+1)=((b+1:Nat):Int):=by rw [ZB (by omega) (by omega)];omega
  unfold Vv
  rw [U9 (by simp;omega),hwb]
  refine Jk hl hi (by decide) (by decide) fun v j v0 q hj=>?_
  dsimp only
  have same:=H FA TA T j hT (by omega) hj
  by_cases hv:v=0
  · subst hv
    rw [show decide ((0:Int)>0)=false from rfl]
    simp only [gbF,cond_false]
    exact same
  rw [show decide (v>0)=true by simp;omega]
  obtain ⟨fb,ef,hf⟩:=hT.fl a (by omega)
  obtain ⟨tb,et,ht⟩:=hT.tl b (by omega)
  rw [DB (by omega) (by omega),Q0,Int.toNat_natCast,ef,Q0]
  show gb true (some (D.bool fb)) _ (fun k=>gb true (Eu k) _ _)∈P
  rw [Q0,show Eu (D.bool fb)=some fb from rfl,Q0]
  cases fb
  case true=>
    simp only [gbF,Bool.not_true,cond_false,cond_true]
    exact same
  rw [show (bif true then !false else false)=true from rfl,DB (by omega) (by omega),Q0,Int.toNat_natCast,et,Q0]
  show gb true (some (D.bool tb)) _ (fun m=>gb true (Eu m) _ _)∈P
  rw [Q0,show Eu (D.bool tb)=some tb from rfl,Q0]
  cases tb
  case true=>
    simp only [gbF,Bool.not_true,cond_false,cond_true]
    exact same
  obtain ⟨w,rides,s,r,u,x,z,y,b0,e1,e2,e3,c,e5,d⟩:=Qc2 hg ha
  obtain ⟨w',rides',r',r1,x',x1,y',y1,b1',n,g2,o,g4,e,g6⟩:=Qc2 hg hb
  have hra:Dy Ls a (rides.length-1) r:=⟨_,_,_,e1,c⟩
  have hrb:Dy Ls b 0 r':=⟨_,_,_,n,o⟩
  have hwr:IntKind.wrap .i64 (((rides.length:Nat):Int)-1)=((rides.length-1:Nat):Int):=by rw [ZB (by omega) (by omega)];omega
  rw [show (bif true then !false else false)=true from rfl,DB (by omega) (by omega),Q0,e1,Q0]
  show gb true (some (D.sl 4 rides)) _ (fun p=>gb true (pSl 4 p) _ _)∈P
  rw [Q0,F4,Q0,hwr,QhJ hra d,Q0,show (0:Int)=((0:Nat):Int) from rfl,Qfs hrb e,Q0]
  by_cases hyx:y=x'
  case neg=>
    rw [XF (by simpa using hyx)]
    exact same
  subst hyx
  rw [U9 (by simp),Q0,Q0,Q0,Q0]
  refine Jk hl hj (by decide) (by decide) fun lo j l0 l1 hj=>?_
  refine Jk hl hj (by decide) (by decide) fun hi' j h0 h1 hj=>?_
  dsimp only
  rw [Rz (by simp;omega),Q0,ZB (x:=10+lo) (by omega) (by omega),ZB (x:=10+lo+hi') (by omega) (by omega)]
  have:=H _ _ (T++[(a,b,10+lo,10+lo+hi')]) j (hT.add (t:=(a,b,10+lo,10+lo+hi')) ⟨ha,hb,by simp;omega,by simp;omega,by simp;omega,by simp;omega,_,_,_,_,_,_,_,_,_,_,e1,c,by omega,by omega,hrb,d,e⟩ (hf rfl) (ht rfl)) (by simp) hj
  rw [List.map_append] at this
  exact this
theorem Qfv {a:Nat} {c b1:Int} {q2 d q7 e:LL} (ha:a<Ls.length) {k0:Int→Bool→LL→LL→LL→LL→Int→Option R}:∀ (k m b:Nat) (FA TA:LL) (T:List Tup) (i:Nat),b+k=Ls.length→k<m→TInv G Ro Ls T FA TA→T.length+k≤60→i≤l.length →
    (∀ (FA TA:LL) (T':List Tup) (j:Nat),TInv G Ro Ls T' FA TA→T'.length≤T.length+k→j≤l.length→k0 ((Ls.length:Nat):Int) false FA TA (T'.map tuR) (encI l) (j:Int)∈P) →
    Un 40 (a:Int) c ((Ls.length:Nat):Int) q2 Ro Ls d q7 e b1 k0 m (b:Int) FA TA (T.map tuR) (encI l) (i:Int)∈P
  | 0,m+1,b,FA,TA,T,i,hb,_,hT,hTl,hi,H=>by
    have hb:b=Ls.length:=by omega
    subst hb
    unfold Un Vv
    rw [XF (by simp),show decide (((Ls.length:Nat):Int)<((Ls.length:Nat):Int))=false by simp]
    exact H FA TA T i hT (by omega) hi
  | k+1,m+1,b,FA,TA,T,i,hb,hm,hT,hTl,hi,H=>by
    unfold Un
    refine Qhg hl hg hL ha (by omega) hT (by omega) hi fun FA TA T' j hT' hTl' hj=>?_
    exact Qfv ha k m (b+1) FA TA T' j (by omega) (by omega) hT' (by omega) hj fun FA TA T'' j hT'' hTl'' hj=>H FA TA T'' j hT'' (by omega) hj
theorem Qfl {b1:Int} {q2 b q7 c:LL} {k0:Int→Bool→LL→LL→LL→LL→Int→Option R}:∀ (k m a:Nat) (FA TA:LL) (T:List Tup) (i:Nat),a+k=Ls.length→k<m→TInv G Ro Ls T FA TA→T.length+3*k≤50→i≤l.length →
    (∀ (FA TA:LL) (T':List Tup) (j:Nat),TInv G Ro Ls T' FA TA→T'.length≤T.length+3*k→j≤l.length→k0 ((Ls.length:Nat):Int) false FA TA (T'.map tuR) (encI l) (j:Int)∈P) →
    Vt 40 ((Ls.length:Nat):Int) q2 Ro Ls b q7 c b1 k0 m (a:Int) FA TA (T.map tuR) (encI l) (i:Int)∈P
  | 0,m+1,a,FA,TA,T,i,hb,_,hT,hTl,hi,H=>by
    have hb:a=Ls.length:=by omega
    subst hb
    unfold Vt G0 JX
    rw [XF (by simp),show decide (((Ls.length:Nat):Int)<((Ls.length:Nat):Int))=false by simp]
    exact H FA TA T i hT (by omega) hi
  | k+1,m+1,a,FA,TA,T,i,hb,hm,hT,hTl,hi,H=>by
    unfold Vt G0 JX
    rw [U9 (by simp;omega)]
    refine Qfv hl hg hL (by omega) Ls.length 40 0 FA TA T i (by omega) (by omega) hT (by omega) hi fun FA TA T' j hT' hTl' hj=>?_
    unfold Nc
    rw [show IntKind.wrap .i64 ((a:Int)+1)=((a+1:Nat):Int) by rw [ZB (by omega) (by omega)];omega]
    exact Qfl k m (a+1) FA TA T' j (by omega) (by omega) hT' (by omega) hj fun FA TA T'' j hT'' hTl'' hj=>H FA TA T'' j hT'' (by omega) hj
theorem Qhe {b1:Int} {q2 a q7 b:LL} {i:Nat} (hi:i≤l.length) {K:LL→Int→Int→LL→LL→LL→LL→LL→LL→LL→Option R}
    (H:∀ (T:List Tup) (j:Nat),(∀ t∈T,Qer G Ro Ls t)→(T.map (·.1)).Nodup→(T.map (·.2.1)).Nodup→T.length≤20→j≤l.length→K (encI l) (j:Int) b1 q2 Ro Ls a (T.map tuR) q7 b∈P) :
    P5 40 (encI l) (i:Int) b1 q2 Ro Ls a [] q7 b K∈P:=by
  unfold P5 N1 Hk
  refine Qfl hl hg hL (T:=[]) Ls.length 40 0 _ _ i (by omega) (by omega) ⟨by simp,by simp,by simp,?_,?_⟩ (by simp;omega) hi fun FA TA T j hT hTl hj=>?_
  · intro i hi
    obtain rfl | rfl | rfl | rfl:i=0∨i=1∨i=2∨i=3:=by omega
    all_goals exact ⟨false,rfl,by simp⟩
  · intro i hi
    obtain rfl | rfl | rfl | rfl:i=0∨i=1∨i=2∨i=3:=by omega
    all_goals exact ⟨false,rfl,by simp⟩
  · exact H T j hT.ok hT.fd hT.td (by simp at hTl;omega) hj
end
end Go.Vx
namespace Go.Vx
variable {R:Type}
def Q1B (n:Nat) (a0:LL) (K:LL→Int→Option R):Option R:=
 K a0 (0:Int)
def Lt (n:Nat) (a0:LL) (k0:Int→Int→LL→LL→Int→LL→LL→LL→LL→LL→LL→LL→Option R):Option R:=
 gb true (Q1B n a0 (fun b a=>some (b,a))) ([],0) fun a=>
 gb true (Q1W n a.1 a.2 (fun b a r2 r3 i d j k c=>some (b,a,r2,r3,i,d,j,k,c))) ([],[],[],[],[],[],[],[],0) fun r2=>
 gb true (Qb n r2.2.2.2.2.2.2.2.1 r2.2.2.2.2.2.2.2.2 (6:Int) (fun b a r2=>some (b,a,r2))) (0,[],0) fun r3=>
 gb true (inB (List.length [[D.int .i64 (150:Int)],[D.int .i64 (120:Int)],[D.int .i64 (180:Int)],[D.int .i64 (240:Int)],[D.int .i64 (300:Int)],[D.int .i64 (90:Int)]]) r3.1) () fun o=>
 gb true ([[D.int .i64 (150:Int)],[D.int .i64 (120:Int)],[D.int .i64 (180:Int)],[D.int .i64 (240:Int)],[D.int .i64 (300:Int)],[D.int .i64 (90:Int)]][(Int.toNat r3.1)]?) [] fun d=>
 gb true (d[0]?) (.bool false) fun l=>
 gb true (XL .i64 l) 0 fun m=>
 gb true (Qb n r3.2.1 r3.2.2 (2:Int) (fun b a r2=>some (b,a,r2))) (0,[],0) fun c=>
 gb true (Qb n c.2.1 c.2.2 (4:Int) (fun b a r2=>some (b,a,r2))) (0,[],0) fun e=>
 gb true (Qb n e.2.1 e.2.2 (3:Int) (fun b a r2=>some (b,a,r2))) (0,[],0) fun f=>
 gb true (Qb n f.2.1 f.2.2 (3:Int) (fun b a r2=>some (b,a,r2))) (0,[],0) fun g=>
 gb true (Qb n g.2.1 g.2.2 (3:Int) (fun b a r2=>some (b,a,r2))) (0,[],0) fun h=>
 k0 (IntKind.wrap .i64 ((1:Int)+h.1)) m [[D.str (bs [88]),D.int .i64 (IntKind.wrap .i64 ((1:Int)+c.1)),D.int .i64 (IntKind.wrap .i64 ((10000:Int)+(IntKind.wrap .i64 ((5000:Int)*e.1)))),D.int .i64 (IntKind.wrap .i64 ((400:Int)+(IntKind.wrap .i64 ((200:Int)*f.1)))),D.int .i64 (IntKind.wrap .i64 ((400:Int)+(IntKind.wrap .i64 ((200:Int)*g.1))))]] h.2.1 h.2.2 r2.1 r2.2.1 r2.2.2.1 r2.2.2.2.1 r2.2.2.2.2.1 r2.2.2.2.2.2.1 r2.2.2.2.2.2.2.1
def RM (n:Nat) (d h:Int) (i j:LL) (k:Int) (l m o p q g r s t u v w x:LL) (k0:Int→Int→LL→Int→LL→LL→LL→LL→LL→LL→LL→LL→LL→LL→LL→LL→LL→LL→Option R) (k1:Bool→Option R):Option R:=
 bif (decide (d>(0:Int))) then
  gb true (Qb n j k (2:Int) (fun b c r2=>some (b,c,r2))) (0,[],0) fun e=>
  gb true (Qb n e.2.1 e.2.2 ((List.length g:Nat):Int) (fun b c r2=>some (b,c,r2))) (0,[],0) fun f=>
  gb true (Us n l m o p q g r f.2.1 f.2.2 h i s t u v w x (e.1 == (0:Int)) (IntKind.wrap .i64 ((1:Int)+f.1)) (fun b c r2 r3 y z r6 r7 r8 r9 ae af ag ah ai aj ak=>some (b,c,r2,r3,y,z,r6,r7,r8,r9,ae,af,ag,ah,ai,aj,ak))) ([],[],[],[],[],[],[],[],0,0,[],[],[],[],[],[],[]) fun a=>
  k0 (IntKind.wrap .i64 (d-(1:Int))) a.2.2.2.2.2.2.2.2.2.1 a.2.2.2.2.2.2.2.1 a.2.2.2.2.2.2.2.2.1 a.1 a.2.1 a.2.2.1 a.2.2.2.1 a.2.2.2.2.1 a.2.2.2.2.2.1 a.2.2.2.2.2.2.1 a.2.2.2.2.2.2.2.2.2.2.1 a.2.2.2.2.2.2.2.2.2.2.2.1 a.2.2.2.2.2.2.2.2.2.2.2.2.1 a.2.2.2.2.2.2.2.2.2.2.2.2.2.1 a.2.2.2.2.2.2.2.2.2.2.2.2.2.2.1 a.2.2.2.2.2.2.2.2.2.2.2.2.2.2.2.1 a.2.2.2.2.2.2.2.2.2.2.2.2.2.2.2.2
 else
  k1 (decide (d>(0:Int)))
def KD (n:Nat)  (k0:Int→Bool→Int→LL→LL→Int→LL→LL→LL→LL→LL→LL→LL→LL→LL→LL→LL→LL→LL→Option R):Nat→Int→Int→LL→LL→Int→LL→LL→LL→LL→LL→LL→LL→LL→LL→LL→LL→LL→LL→Option R
 | 0,_,_,_,_,_,_,_,_,_,_,_,_,_,_,_,_,_,_=>none
 | m+1,a,b,c,d,e,f,g,h,i,j,k,l,o,p,q,r,s,t=>
  RM n a b c d e f g h i j k l o p q r s t
   (fun u v w x y z aa ab ac ad ae af ag ah ai aj ak al=>
   KD n  k0 m u v af w x y z aa ab ac ad ae ag ah ai aj ak al)
   (fun am=>
   k0 a am b c d e f g h i j k l o p q r s t)
def LC (n:Nat) (v:Int) (w:Bool) (e:Int) (f g:LL) (h:Int) (x y z aa ab ac ad i j k l m o:LL) (k0:Int→Int→LL→Int→LL→LL→LL→LL→LL→LL→LL→Option R):Option R:=
 gb true (P5 n g h e f i j k l m o (fun b c r2 r3 p q r s t u=>some (b,c,r2,r3,p,q,r,s,t,u))) ([],0,0,[],[],[],[],[],[],[]) fun a=>
 gb true (Qb n a.1 a.2.1 (3:Int) (fun b c r2=>some (b,c,r2))) (0,[],0) fun d=>
 k0 d.1 a.2.2.1 d.2.1 d.2.2 a.2.2.2.1 a.2.2.2.2.1 a.2.2.2.2.2.1 a.2.2.2.2.2.2.1 a.2.2.2.2.2.2.2.1 a.2.2.2.2.2.2.2.2.1 a.2.2.2.2.2.2.2.2.2
def RB (n:Nat) (i m:Int) (v:LL) (w:Int) (o ak p al a j k am q an r ao s ap:LL) (k0:Int→LL→LL→Int→Option R) (k1:Int→LL→Int→Option R) (x:Bool→Option R):Option R:=
 bif (bif (decide (i>(0:Int))) then (decide (((List.length a:Nat):Int)>(1:Int))) else false) then
  gb true (Qb n v w ((List.length a:Nat):Int) (fun c d r2=>some (c,d,r2))) (0,[],0) fun b=>
  gb true (Qb n b.2.1 b.2.2 (3:Int) (fun c d r2=>some (c,d,r2))) (0,[],0) fun l=>
  gb true (nz ((List.length a:Nat):Int)) () fun aq=>
  gb true (inB (List.length a) b.1) () fun ar=>
  gb true (a[(Int.toNat b.1)]?) [] fun y=>
  gb true (y[3]?) (.bool false) fun z=>
  gb true (pSl 4 z) [] fun aa=>
  gb true (Qb n l.2.1 l.2.2 ((List.length aa:Nat):Int) (fun c d r2=>some (c,d,r2))) (0,[],0) fun g=>
  gb true (inB (List.length a) (Int.tmod (IntKind.wrap .i64 (b.1+(1:Int))) ((List.length a:Nat):Int))) () fun au=>
  gb true (a[(Int.toNat (Int.tmod (IntKind.wrap .i64 (b.1+(1:Int))) ((List.length a:Nat):Int)))]?) [] fun ab=>
  gb true (ab[3]?) (.bool false) fun ac=>
  gb true (pSl 4 ac) [] fun ad=>
  gb true (Qb n g.2.1 g.2.2 ((List.length ad:Nat):Int) (fun c d r2=>some (c,d,r2))) (0,[],0) fun h=>
  gb true (Qb n h.2.1 h.2.2 (20:Int) (fun c d r2=>some (c,d,r2))) (0,[],0) fun e=>
  gb true (Qb n e.2.1 e.2.2 m (fun c d r2=>some (c,d,r2))) (0,[],0) fun f=>
  gb true (Ee n m o p a k q r s b.1 g.1 some) 0 fun t=>
  gb true (inB (List.length j) t) () fun av=>
  gb true (j[(Int.toNat t)]?) [] fun ae=>
  gb true (ae[4]?) (.bool false) fun af=>
  gb true (XL .i64 af) 0 fun ag=>
  gb true (NV n m o p a k q r s (Int.tmod (IntKind.wrap .i64 (b.1+(1:Int))) ((List.length a:Nat):Int)) h.1 some) 0 fun u=>
  gb true (inB (List.length j) u) () fun aw=>
  gb true (j[(Int.toNat u)]?) [] fun ah=>
  gb true (ah[4]?) (.bool false) fun ai=>
  gb true (XL .i64 ai) 0 fun aj=>
  bif (ag == aj) then
   gb true (R0 ((List.length k+List.length [[D.int .i64 b.1,D.int .i64 g.1,D.int .i64 (Int.tmod (IntKind.wrap .i64 (b.1+(1:Int))) ((List.length a:Nat):Int)),D.int .i64 h.1,D.int .i64 e.1,D.int .i64 (IntKind.wrap .i64 (e.1+f.1)),D.int .i64 l.1]])*56)) () fun ax=>
   k0 (IntKind.wrap .i64 (i-(1:Int))) (k++[[D.int .i64 b.1,D.int .i64 g.1,D.int .i64 (Int.tmod (IntKind.wrap .i64 (b.1+(1:Int))) ((List.length a:Nat):Int)),D.int .i64 h.1,D.int .i64 e.1,D.int .i64 (IntKind.wrap .i64 (e.1+f.1)),D.int .i64 l.1]]) f.2.1 f.2.2
  else
   k1 (IntKind.wrap .i64 (i-(1:Int))) f.2.1 f.2.2
 else
  x (bif (decide (i>(0:Int))) then (decide (((List.length a:Nat):Int)>(1:Int))) else false)
def Js (n:Nat) (a:Int) (b c d e f g h i j k l o p:LL) (k0:Int→Bool→LL→Int→LL→Option R):Nat→Int→LL→Int→LL→Option R
 | 0,_,_,_,_=>none
 | m+1,r,s,t,q=>
  RB n r a s t b c d e f g q h i j k l o p
   (fun u v w x=>
   Js n a b c d e f g h i j k l o p k0 m u w x v)
   (fun y z aa=>
   Js n a b c d e f g h i j k l o p k0 m y z aa q)
   (fun ab=>
   k0 r ab s t q)
def LQ (n:Nat) (a:Int) (b:Bool) (c:Int) (d:LL) (e:Int) (f g h i j k l m o p q r s t:LL) (k0:Option R):Option R:=
 k0
def Lw (n:Nat) (j:Int) (k:Bool) (g:Int) (h:LL) (i:Int) (l m o p e q r s t u f v w x:LL) (k0:LL→LL→Int→Option R) (k1:Bool→LL→Int→Option R):Option R:=
 gb true (Qb n h i (4:Int) (fun c d r2=>some (c,d,r2))) (0,[],0) fun a=>
 bif (bif (a.1 == (3:Int)) then (decide (((List.length e:Nat):Int)>(1:Int))) else false) then
  gb true (Qb n a.2.1 a.2.2 g (fun c d r2=>some (c,d,r2))) (0,[],0) fun b=>
  gb true (R0 ((List.length f+List.length [[D.int .i64 (0:Int),D.int .i64 (0:Int),D.int .i64 (1:Int),D.int .i64 (0:Int),D.int .i64 b.1]])*40)) () fun y=>
  k0 (f++[[D.int .i64 (0:Int),D.int .i64 (0:Int),D.int .i64 (1:Int),D.int .i64 (0:Int),D.int .i64 b.1]]) b.2.1 b.2.2
 else
  k1 (bif (a.1 == (3:Int)) then (decide (((List.length e:Nat):Int)>(1:Int))) else false) a.2.1 a.2.2
def LT (n:Nat) (f:Int) (g b:LL) (c:Int) (h i j k l m o p q r s t u:LL) (k0:Int→LL→Int→Option R):Option R:=
 gb true (Qb n b c (3:Int) (fun d e r2=>some (d,e,r2))) (0,[],0) fun a=>
 k0 a.1 a.2.1 a.2.2
def PZ (n:Nat) (g k:Int) (l i:LL) (j:Int) (m b o p q r s t u v w h x:LL) (k0:Int→LL→LL→Int→Option R) (k1:Bool→Option R):Option R:=
 bif (decide (g>(0:Int))) then
  gb true (Qb n i j ((List.length b:Nat):Int) (fun c d r2=>some (c,d,r2))) (0,[],0) fun a=>
  gb true (Qb n a.2.1 a.2.2 (IntKind.wrap .i64 (((List.length b:Nat):Int)-(1:Int))) (fun c d r2=>some (c,d,r2))) (0,[],0) fun e=>
  gb true (nz ((List.length b:Nat):Int)) () fun y=>
  gb true (Qb n e.2.1 e.2.2 (9:Int) (fun c d r2=>some (c,d,r2))) (0,[],0) fun f=>
  gb true (R0 ((List.length h+List.length [[D.int .i64 a.1,D.int .i64 (Int.tmod (IntKind.wrap .i64 ((IntKind.wrap .i64 (a.1+(1:Int)))+e.1)) ((List.length b:Nat):Int)),D.int .i64 (IntKind.wrap .i64 ((1:Int)+f.1))]])*24)) () fun z=>
  k0 (IntKind.wrap .i64 (g-(1:Int))) (h++[[D.int .i64 a.1,D.int .i64 (Int.tmod (IntKind.wrap .i64 ((IntKind.wrap .i64 (a.1+(1:Int)))+e.1)) ((List.length b:Nat):Int)),D.int .i64 (IntKind.wrap .i64 ((1:Int)+f.1))]]) f.2.1 f.2.2
 else
  k1 (decide (g>(0:Int)))
def JG (n:Nat) (a:Int) (b c d e f g h i j k l o p:LL) (k0:Int→Bool→LL→Int→LL→Option R):Nat→Int→LL→Int→LL→Option R
 | 0,_,_,_,_=>none
 | m+1,q,r,s,t=>
  PZ n q a b r s c d e f g h i j k l o t p
   (fun u v w x=>
   JG n a b c d e f g h i j k l o p k0 m u w x v)
   (fun y=>
   k0 q y r s t)
def Dm (n:Nat) (a:Int) (b:Bool) (c:Int) (d e:LL) (f:Int) (g h i j k l m o p q r s t:LL) (k0:Option R):Option R:=
 k0
def NI (n:Nat) (f:Bool) (g:Int) (b:LL) (c:Int) (h i j k l m o p q r s t u v:LL) (k0:Int→LL→Int→Option R):Option R:=
 gb true (Qb n b c (3:Int) (fun d e r2=>some (d,e,r2))) (0,[],0) fun a=>
 k0 a.1 a.2.1 a.2.2
def Py (n:Nat) (g k:Int) (i:LL) (j:Int) (l b m o p q r s t u v w h x:LL) (k0:Int→LL→LL→Int→Option R) (k1:Bool→Option R):Option R:=
 bif (decide (g>(0:Int))) then
  gb true (Qb n i j ((List.length b:Nat):Int) (fun c d r2=>some (c,d,r2))) (0,[],0) fun a=>
  gb true (Qb n a.2.1 a.2.2 (IntKind.wrap .i64 (((List.length b:Nat):Int)-(1:Int))) (fun c d r2=>some (c,d,r2))) (0,[],0) fun e=>
  gb true (nz ((List.length b:Nat):Int)) () fun y=>
  gb true (Qb n e.2.1 e.2.2 (9:Int) (fun c d r2=>some (c,d,r2))) (0,[],0) fun f=>
  gb true (R0 ((List.length h+List.length [[D.int .i64 a.1,D.int .i64 (Int.tmod (IntKind.wrap .i64 ((IntKind.wrap .i64 (a.1+(1:Int)))+e.1)) ((List.length b:Nat):Int)),D.int .i64 (IntKind.wrap .i64 ((1:Int)+f.1))]])*24)) () fun z=>
  k0 (IntKind.wrap .i64 (g-(1:Int))) (h++[[D.int .i64 a.1,D.int .i64 (Int.tmod (IntKind.wrap .i64 ((IntKind.wrap .i64 (a.1+(1:Int)))+e.1)) ((List.length b:Nat):Int)),D.int .i64 (IntKind.wrap .i64 ((1:Int)+f.1))]]) f.2.1 f.2.2
 else
  k1 (decide (g>(0:Int)))
def JR (n:Nat) (a:Int) (b c d e f g h i j k l o p:LL) (k0:Int→Bool→LL→Int→LL→Option R):Nat→Int→LL→Int→LL→Option R
 | 0,_,_,_,_=>none
 | m+1,q,r,s,t=>
  Py n q a r s b c d e f g h i j k l o t p
   (fun u v w x=>
   JR n a b c d e f g h i j k l o p k0 m u w x v)
   (fun y=>
   k0 q y r s t)
def Em (n:Nat) (a:Int) (b:Bool) (c:Int) (d:LL) (e:Int) (f g h i j k l m o p q r s t:LL) (k0:Option R):Option R:=
 k0
def Di (n:Nat) (a0:LL) (k0:Int→LL→LL→LL→LL→LL→LL→LL→LL→LL→LL→LL→Option R) (k1:Int→LL→LL→LL→LL→LL→LL→LL→LL→LL→LL→LL→Option R):Option R:=
 Lt n a0
  (fun x y z aa ab ac ad ae af ag ah ai=>
  KD n
   (fun aj ak al am an ao a b c d j k l ap aq ar au av aw=>
   LC n aj ak al am an ao a b c d j k l ap aq ar au av aw
    (fun ax e ay az f g h ba i o p=>
    Js n e f a g b h c d i j o k p l
     (fun r s t u m=>
     LQ n r s e t u f a g b h c m d i j o k p l
      (Lw n r s e t u f a g b h c m d i j o k p l
       (fun q bb bc=>
       LT n e q bb bc f a g b h c m d i j k p l
        (fun bd be bf=>
        JG n e q f a g b h c m d i j k l
         (fun bg bh bi bj v=>
         Dm n bg bh e q bi bj f a g b h c m d i j k v l
          (k0 e q f a g b h c m d i v))
         n bd be bf p))
       (fun bk bl bm=>
       NI n bk e bl bm f a g b h c m d i j o k p l
        (fun bn bo bp=>
        JR n e f a g b h c m d i j o k l
         (fun bq br bt bu w=>
         Em n bq br e bt bu f a g b h c m d i j k w l o
          (k1 e f a g b h c m d i w o))
         n bn bo bp p))))
     n ax ay az ba))
   n x y z aa ab ac ad ae af ag ah ai [] [] [] [] [] [])
def CG (n:Nat) (a0:LL) (K:LL→LL→LL→LL→Int→LL→LL→LL→LL→LL→LL→LL→Option R):Option R:=
 Di n a0
  (fun a k b c d e f g h i j l=>K c e g i a b d f h j k l)
  (fun a b c d e f g h i j m o=>K c e g i a b d f h j o m)

end Go.Vx
namespace Go.Vx
theorem Q5b {w:LL} {x:Int} {r:List D} (h:X2 w x=some r):inB w.length x=some ()∧w[x.toNat]? = some r:=by
  unfold X2 at h
  by_cases hx:0≤x
  · rw [U9 (by simpa using hx)] at h
    have:=(List.getElem?_eq_some_iff.1 h).1
    exact ⟨DB hx (by omega),h⟩
  · rw [XF (by simpa using hx)] at h
    cases h
def Q8G (G:Geo) (per:Int) (Ro Ls:LL) (row:List D):Prop:=
  ∃ (f fr t tr:Nat) (mn mx w:Int) (r r':List D) (x y x' y':Int) (b b':Bool) (i:Int),row=[Yo f,Yo fr,Yo t,Yo tr,Yo mn,Yo mx,Yo w]∧Dy Ls f fr r∧Dy Ls t tr r'∧DV G Ro r x y b∧DV G Ro r' x' y' b'∧f≠t∧(0≤mn∧mn<20∧mn≤mx∧mx<mn+per)∧(0≤w∧w<3) ∧
    (∃ nm a c d,X2 G.Se y=some [D.str nm,Yo a,Yo c,Yo d,Yo i])∧(∃ nm a c d,X2 G.Se x'=some [D.str nm,Yo a,Yo c,Yo d,Yo i])∧0≤i
def Qh5 (per:Int) (Ls:LL) (row:List D):Prop:=∃ o:Int,row=[Yo 0,Yo 0,Yo 1,Yo 0,Yo o]∧0≤o∧o<per∧2≤Ls.length
def QgK (N:Nat) (row:List D):Prop:=∃ f t w:Int,row=[Yo f,Yo t,Yo w]∧(0≤f∧f<N)∧(0≤t∧t<N)∧f≠t∧1≤w∧w≤9
def Q7o (Sk:LL):Prop:=∃ a b c d:Int,Sk=[[D.str (bs [88]),Yo a,Yo b,Yo c,Yo d]]∧(1≤a∧a≤2)∧(10000≤b∧b≤25000)∧(400≤c∧c≤800)∧(400≤d∧d≤800)
structure PlanR (G:Geo) (per:Int) (Sk Ro Ls Ch Tu Sy De:LL):Prop where
  ok:G.OK
  p0:90≤per
  p1:per≤300
  sk:Q7o Sk
  good:GoodP G Ro Ls
  l0:1≤Ls.length
  l1:Ls.length≤3
  rl:Ro.length≤6
  ch:∀ row∈Ch,Q8G G per Ro Ls row
  chl:Ch.length≤2
  tu:∃ T:List Tup,Tu=T.map tuR∧(∀ t∈T,Qer G Ro Ls t)∧(T.map (·.1)).Nodup∧(T.map (·.2.1)).Nodup∧T.length≤20
  sy:∀ row∈Sy,Qh5 per Ls row
  syl:Sy.length≤1
  de:∀ row∈De,QgK G.N row
  del:De.length≤2
theorem QiR {pl:LL} (hp:pl=[[D.int .i64 (150:Int)],[D.int .i64 (120:Int)],[D.int .i64 (180:Int)],[D.int .i64 (240:Int)],[D.int .i64 (300:Int)],[D.int .i64 (90:Int)]]) {v:Int} (a:0≤v) (b:v<6) :
    ∃ per:Int,90≤per∧per≤300∧∀ {R:Type} (K:Int→Option R),gb true (inB (List.length pl) v) () (fun _=>gb true (pl[(Int.toNat v)]?) [] fun r=>gb true (r[0]?) (.bool false) fun c=>gb true (XL .i64 c) 0 fun i=>K i)=K per:=by
  subst hp
  obtain rfl | rfl | rfl | rfl | rfl | rfl:v=0∨v=1∨v=2∨v=3∨v=4∨v=5:=by omega
  · exact ⟨150,by omega,by omega,fun K=>rfl⟩
  · exact ⟨120,by omega,by omega,fun K=>rfl⟩
  · exact ⟨180,by omega,by omega,fun K=>rfl⟩
  · exact ⟨240,by omega,by omega,fun K=>rfl⟩
  · exact ⟨300,by omega,by omega,fun K=>rfl⟩
  · exact ⟨90,by omega,by omega,fun K=>rfl⟩
theorem Q9J {G:Geo} {Ro Ls:LL} (hg:GoodP G Ro Ls) {k:Nat} (hk:k<Ls.length):∃ (w:Int) (rides:LL),Ls[k]? = some [D.str (nmN k),Yo 0,Yo w,D.sl 4 rides]∧(rides.length=1∨rides.length=2)∧∀ i,i<rides.length→∃ r x y b,Dy Ls k i r∧DV G Ro r x y b:=by
  obtain ⟨w,rides,a,d,e,c⟩:=hg.ls k _ (List.getElem?_eq_getElem hk)
  have he:Ls[k]? = some [D.str (nmN k),Yo 0,Yo w,D.sl 4 rides]:=by rw [List.getElem?_eq_getElem hk,a]
  refine ⟨w,rides,he,?_⟩
  rcases c with ⟨r,x,y,rfl,h⟩ | ⟨r,r',x,y,z,rfl,h,h'⟩
  · refine ⟨.inl rfl,fun i hi=>?_⟩
    have hi:i=0:=by simpa using hi
    subst hi
    exact ⟨r,x,y,true,⟨_,_,_,he,rfl⟩,h⟩
  · refine ⟨.inr rfl,fun i hi=>?_⟩
    obtain rfl | rfl:i=0∨i=1:=by simp at hi;omega
    · exact ⟨r,x,y,false,⟨_,_,_,he,rfl⟩,h⟩
    · exact ⟨r',y,z,true,⟨_,_,_,he,rfl⟩,h'⟩
section
variable {R:Type} {l:List Int} (hl:l.length≤9223372036854775807) {P:R→Prop} {G:Geo} (hG:G.OK)
include hl hG
theorem Q9e {k0:Int→Bool→Int→LL→LL→Int→LL→LL→LL→LL→LL→LL→LL→LL→LL→LL→LL→LL→LL→Option R} {per:Int} {sk q7 a b d e:LL}:∀ (c m:Nat) (Ro Ls:LL) (i:Nat),c<m→Ls.length+c≤3→Ro.length≤2*Ls.length→GoodP G Ro Ls→i≤l.length →
    (∀ (Ro' Ls':LL) (j:Nat),GoodP G Ro' Ls'→Ls'.length=Ls.length+c→Ro'.length≤2*Ls'.length→j≤l.length→k0 0 false per sk (encI l) (j:Int) G.St G.Pt G.Se G.Li G.Tr G.Bt q7 Ro' Ls' a b d e∈P) →
    KD 40 k0 m (c:Int) per sk (encI l) (i:Int) G.St G.Pt G.Se G.Li G.Tr G.Bt q7 Ro Ls a b d e∈P
  | 0,m+1,Ro,Ls,i,_,_,hR,hg,hi,H=>by
    unfold KD RM
    rw [XF (by simp),show decide (((0:Nat):Int)>0)=false by simp]
    exact H Ro Ls i hg rfl hR hi
  | c+1,m+1,Ro,Ls,i,hm,hL,hR,hg,hi,H=>by
    have hN:=hG.hN
    have hb:=hG.btl
    unfold KD RM
    rw [U9 (by simp)]
    refine Jk hl hi (by decide) (by decide) fun v j g h hj=>?_
    dsimp only
    refine Jk hl hj (by omega) (by omega) fun k j f n hj=>?_
    dsimp only
    obtain ⟨nv,rfl⟩:=Int.eq_ofNat_of_zero_le f
    rw [ZB (x:=1+(nv:Int)) (by omega) (by omega),show (1:Int)+(nv:Int)=((1+nv:Nat):Int) by omega]
    refine okB (Qit hl hG (by omega) (by omega) hg (by omega) (by omega) hj fun Ro' Ls' j hg' hL' hR' hj=>okI ?_)
    dsimp only
    rw [show IntKind.wrap .i64 (((c+1:Nat):Int)-1)=(c:Int) by rw [ZB (by omega) (by omega)];omega]
    exact Q9e c m Ro' Ls' j (by omega) (by omega) (by omega) hg' hj fun Ro'' Ls'' j hg'' hL'' hR'' hj=>H Ro'' Ls'' j hg'' (by omega) hR'' hj
omit hG in
theorem Q0L {per:Int} {Ro Ls n o p q s:LL} (e:90≤per) (g:per≤300) (hg:GoodP G Ro Ls) (hL:Ls.length≤3) {k0:Int→Bool→LL→Int→LL→Option R}:∀ (c m:Nat) (Ch:LL) (i:Nat),c<m→Ch.length+c≤2→(∀ row∈Ch,Q8G G per Ro Ls row)→i≤l.length →
    (∀ (h:Int) (b:Bool) (Ch:LL) (j:Nat),(∀ row∈Ch,Q8G G per Ro Ls row)→Ch.length≤2→j≤l.length→k0 h b (encI l) (j:Int) Ch∈P) →
    Js 40 per n G.St Ro G.Pt Ls G.Se G.Li o G.Tr p G.Bt q s k0 m (c:Int) (encI l) (i:Int) Ch∈P
  | 0,m+1,Ch,i,_,hCl,hC,hi,H=>by
    unfold Js RB
    rw [show decide (((0:Nat):Int)>0)=false by simp,cond_false,cond_false]
    exact H _ _ Ch i hC (by omega) hi
  | c+1,m+1,Ch,i,hm,hCl,hC,hi,H=>by
    unfold Js RB
    rw [show decide (((c+1:Nat):Int)>0)=true by simp,cond_true]
    by_cases u:Ls.length≤1
    · rw [show decide (((Ls.length:Nat):Int)>1)=false by simp;omega,cond_false]
      exact H _ _ Ch i hC (by omega) hi
    rw [show decide (((Ls.length:Nat):Int)>1)=true by simp;omega,cond_true]
    refine Jk hl hi (by omega) (by omega) fun v j z u hj=>?_
    refine Jk hl hj (by decide) (by decide) fun w j w0 w1 hj=>?_
    dsimp only
    obtain ⟨f,rfl⟩:=Int.eq_ofNat_of_zero_le z
    have hf:f<Ls.length:=by omega
    obtain ⟨t,et,ht,hft⟩:∃ t:Nat,Int.tmod (IntKind.wrap .i64 ((f:Int)+1)) ((Ls.length:Nat):Int)=(t:Int)∧t<Ls.length∧f≠t:=by
      rw [ZB (by omega) (by omega),Int.tmod_eq_emod_of_nonneg (by omega)]
      refine ⟨(f+1) % Ls.length,by simp,Nat.mod_lt _ (by omega),?_⟩
      by_cases h:f+1<Ls.length
      · rw [Nat.mod_eq_of_lt h]
        omega
      · rw [show f+1=Ls.length by omega,Nat.mod_self]
        omega
    rw [et]
    obtain ⟨w2,rides,e1,e2,e3⟩:=Q9J hg hf
    obtain ⟨w2',rides',e1',e2',e3'⟩:=Q9J hg ht
    rw [QeV (by omega),Q0,DB (by omega) (by omega),Q0,Int.toNat_natCast,e1,Q0]
    dsimp only [List.getElem?_cons_zero,List.getElem?_cons_succ]
    rw [Q0,F4,Q0]
    refine Jk hl hj (by omega) (by omega) fun fr j a0 a1 hj=>?_
    dsimp only
    rw [DB (by omega) (by omega),Q0,Int.toNat_natCast,e1',Q0]
    dsimp only [List.getElem?_cons_zero,List.getElem?_cons_succ]
    rw [Q0,F4,Q0]
    refine Jk hl hj (by omega) (by omega) fun tr j b0 b1 hj=>?_
    refine Jk hl hj (by decide) (by decide) fun mn j c0 c1 hj=>?_
    dsimp only
    refine Jk hl hj (by omega) (by omega) fun mx j d0 d1 hj=>?_
    dsimp only
    obtain ⟨fr,rfl⟩:=Int.eq_ofNat_of_zero_le a0
    obtain ⟨tr,rfl⟩:=Int.eq_ofNat_of_zero_le b0
    obtain ⟨r,x,y,b,hr,hR⟩:=e3 fr (by omega)
    obtain ⟨r',x',y',b',hr',hR'⟩:=e3' tr (by omega)
    have hR2:=hR
    have hR2':=hR'
    obtain ⟨_,_,_,_,_,_,_,hS,_⟩:=hR
    obtain ⟨_,_,_,_,_,_,_,hS',_⟩:=hR'
    obtain ⟨af,a1,c1,d1,k,a,g2⟩:=hS.sy
    obtain ⟨ag,a2,c2,d2,i2,d,g4⟩:=hS'.sx
    rw [QhJ hr hR2,Q0,(Q5b a).1,Q0,(Q5b a).2,Q0]
    dsimp only [List.getElem?_cons_zero,List.getElem?_cons_succ]
    rw [Q0,QN,Q0,Qfs hr' hR2',Q0,(Q5b d).1,Q0,(Q5b d).2,Q0]
    dsimp only [List.getElem?_cons_zero,List.getElem?_cons_succ]
    rw [Q0,QN,Q0]
    have hwc:IntKind.wrap .i64 (((c+1:Nat):Int)-1)=(c:Int):=by rw [ZB (by omega) (by omega)];omega
    rw [hwc]
    by_cases hii:k=i2
    · subst hii
      rw [U9 (by simp),Rz (by simp;omega),Q0,ZB (x:=mn+mx) (by omega) (by omega)]
      refine Q0L e g hg hL c m _ j (by omega) (by simp;omega) (fun row hrow=>?_) hj H
      rcases List.mem_append.1 hrow with h | h
      · exact hC row h
      · rw [List.mem_singleton.1 h]
        exact ⟨f,fr,t,tr,mn,mn+mx,w,r,r',x,y,x',y',b,b',k,rfl,hr,hr',hR2,hR2',hft,⟨by omega,by omega,by omega,by omega⟩,⟨w0,w1⟩,⟨_,_,_,_,a⟩,⟨_,_,_,_,d⟩,g2⟩
    · rw [XF (by simpa using hii)]
      exact Q0L e g hg hL c m _ j (by omega) (by omega) hC hj H
omit hl hG in
theorem QiL {N:Nat} (hN:N=2∨N=3) {f v:Int} (a:0≤f) (b:f<N) (c:0≤v) (d:v<N-1):∃ t:Int,Int.tmod (IntKind.wrap .i64 ((IntKind.wrap .i64 (f+1))+v)) ((N:Nat):Int)=t∧(0≤t∧t<N)∧f≠t:=by
  rw [ZB (x:=f+1) (by omega) (by omega),ZB (by omega) (by omega),Int.tmod_eq_emod_of_nonneg (by omega)]
  refine ⟨_,rfl,⟨Int.emod_nonneg _ (by omega),Int.emod_lt_of_pos _ (by omega)⟩,?_⟩
  rcases hN with rfl | rfl <;> omega
theorem QbH {per:Int} {e Ro Ls g k n o:LL} {k0:Int→Bool→LL→Int→LL→Option R}:∀ (c m:Nat) (De:LL) (i:Nat),c<m→De.length+c≤2→(∀ row∈De,QgK G.N row)→i≤l.length →
    (∀ (h:Int) (b:Bool) (De:LL) (j:Nat),(∀ row∈De,QgK G.N row)→De.length≤2→j≤l.length→k0 h b (encI l) (j:Int) De∈P) →
    JG 40 per n e G.St Ro G.Pt Ls G.Se g G.Li k G.Tr G.Bt o k0 m (c:Int) (encI l) (i:Int) De∈P
  | 0,m+1,De,i,_,hDl,hD,hi,H=>by
    unfold JG PZ
    rw [show decide (((0:Nat):Int)>0)=false by simp,cond_false]
    exact H _ _ De i hD (by omega) hi
  | c+1,m+1,De,i,hm,hDl,hD,hi,H=>by
    have hN:=hG.hN
    unfold JG PZ
    rw [show decide (((c+1:Nat):Int)>0)=true by simp,cond_true,hG.st,ZB (x:=((G.N:Nat):Int)-1) (by omega) (by omega)]
    refine Jk hl hi (by omega) (by omega) fun f j a d hj=>?_
    dsimp only
    refine Jk hl hj (by omega) (by omega) fun v j p q hj=>?_
    dsimp only
    rw [QeV (by omega),Q0]
    refine Jk hl hj (by decide) (by decide) fun w j w0 r hj=>?_
    dsimp only
    obtain ⟨t,et,ht,hft⟩:=QiL hN a d p q
    rw [Rz (by simp;omega),Q0,et,ZB (x:=1+w) (by omega) (by omega),show IntKind.wrap .i64 (((c+1:Nat):Int)-1)=(c:Int) by rw [ZB (by omega) (by omega)];omega]
    refine QbH c m _ j (by omega) (by simp;omega) (fun row hrow=>?_) hj H
    rcases List.mem_append.1 hrow with h | h
    · exact hD row h
    · rw [List.mem_singleton.1 h]
      exact ⟨f,t,1+w,rfl,⟨a,d⟩,ht,hft,by omega,by omega⟩
theorem Qc3 {per:Int} {e Ro Ls g k n o:LL} {k0:Int→Bool→LL→Int→LL→Option R}:∀ (c m:Nat) (De:LL) (i:Nat),c<m→De.length+c≤2→(∀ row∈De,QgK G.N row)→i≤l.length →
    (∀ (h:Int) (b:Bool) (De:LL) (j:Nat),(∀ row∈De,QgK G.N row)→De.length≤2→j≤l.length→k0 h b (encI l) (j:Int) De∈P) →
    JR 40 per e G.St Ro G.Pt Ls G.Se g G.Li k G.Tr n G.Bt o k0 m (c:Int) (encI l) (i:Int) De∈P
  | 0,m+1,De,i,_,hDl,hD,hi,H=>by
    unfold JR Py
    rw [show decide (((0:Nat):Int)>0)=false by simp,cond_false]
    exact H _ _ De i hD (by omega) hi
  | c+1,m+1,De,i,hm,hDl,hD,hi,H=>by
    have hN:=hG.hN
    unfold JR Py
    rw [show decide (((c+1:Nat):Int)>0)=true by simp,cond_true,hG.st,ZB (x:=((G.N:Nat):Int)-1) (by omega) (by omega)]
    refine Jk hl hi (by omega) (by omega) fun f j a d hj=>?_
    dsimp only
    refine Jk hl hj (by omega) (by omega) fun v j p q hj=>?_
    dsimp only
    rw [QeV (by omega),Q0]
    refine Jk hl hj (by decide) (by decide) fun w j w0 r hj=>?_
    dsimp only
    obtain ⟨t,et,ht,hft⟩:=QiL hN a d p q
    rw [Rz (by simp;omega),Q0,et,ZB (x:=1+w) (by omega) (by omega),show IntKind.wrap .i64 (((c+1:Nat):Int)-1)=(c:Int) by rw [ZB (by omega) (by omega)];omega]
    refine Qc3 c m _ j (by omega) (by simp;omega) (fun row hrow=>?_) hj H
    rcases List.mem_append.1 hrow with h | h
    · exact hD row h
    · rw [List.mem_singleton.1 h]
      exact ⟨f,t,1+w,rfl,⟨a,d⟩,ht,hft,by omega,by omega⟩
end
theorem Qb8 {v:Int} (h:0≤v):∃ n:Nat,v=(n:Int):=Int.eq_ofNat_of_zero_le h
theorem Qis {R:Type} {l:List Int} (hl:l.length≤9223372036854775807) {P:R→Prop} {K:LL→LL→LL→LL→Int→LL→LL→LL→LL→LL→LL→LL→Option R}
    (H:∀ (G:Geo) (per:Int) (Sk Ro Ls Ch Tu Sy De:LL),PlanR G per Sk Ro Ls Ch Tu Sy De→K G.St G.Pt G.Se G.Li per Sk Ro Ls Ch Tu Sy De∈P):CG 40 (encI l) K∈P:=by
  unfold CG Di Lt Q1B
  rw [Q0]
  dsimp only
  refine okB (QiO (i:=0) hl (Nat.zero_le _) fun G j hG hj=>okI ?_)
  dsimp only
  refine Jk hl hj (by decide) (by decide) fun v j f g hj=>?_
  dsimp only
  obtain ⟨per,p0,p1,e⟩:=QiR rfl f g
  rw [e]
  refine Jk hl hj (by decide) (by decide) fun a j a0 a1 hj=>?_
  refine Jk hl hj (by decide) (by decide) fun b j b0 b1 hj=>?_
  refine Jk hl hj (by decide) (by decide) fun c j c0 c1 hj=>?_
  refine Jk hl hj (by decide) (by decide) fun d j d0 d1 hj=>?_
  refine Jk hl hj (by decide) (by decide) fun k j k0 k1 hj=>?_
  dsimp only
  obtain ⟨k,rfl⟩:=Qb8 k0
  rw [ZB (x:=1+(k:Int)) (by omega) (by omega),show (1:Int)+(k:Int)=((k+1:Nat):Int) by omega,ZB (x:=1+a) (by omega) (by omega),ZB (x:=5000*b) (by omega) (by omega),ZB (x:=10000+5000*b) (by omega) (by omega),ZB (x:=200*c) (by omega) (by omega),ZB (x:=400+200*c) (by omega) (by omega),ZB (x:=200*d) (by omega) (by omega),ZB (x:=400+200*d) (by omega) (by omega)]
  have hsk:Q7o [[D.str (bs [88]),D.int .i64 (1+a),D.int .i64 (10000+5000*b),D.int .i64 (400+200*c),D.int .i64 (400+200*d)]]:=⟨_,_,_,_,rfl,⟨by omega,by omega⟩,⟨by omega,by omega⟩,⟨by omega,by omega⟩,⟨by omega,by omega⟩⟩
  revert hsk
  generalize [[D.str (bs [88]),D.int .i64 (1+a),D.int .i64 (10000+5000*b),D.int .i64 (400+200*c),D.int .i64 (400+200*d)]]=Sk
  intro hsk
  refine Q9e hl hG (k+1) 40 [] [] j (by omega) (by simp;omega) (by simp) ⟨(fun row h=>nomatch h),(fun k row h=>nomatch h)⟩ hj fun Ro Ls j hg hL hR hj=>?_
  simp at hL
  unfold LC
  refine okB (Qhe hl hg (by omega) hj fun T j hT1 hT2 hT3 hT4 hj=>okI ?_)
  dsimp only
  refine Jk hl hj (by decide) (by decide) fun k j k0 k1 hj=>?_
  dsimp only
  obtain ⟨k,rfl⟩:=Qb8 k0
  refine Q0L hl p0 p1 hg (by omega) k 40 [] j (by omega) (by simp;omega) (fun row h=>nomatch h) hj fun f b0 Ch j hC hCl hj=>?_
  unfold LQ Lw
  refine Jk hl hj (by decide) (by decide) fun v j f g hj=>?_
  dsimp only
  by_cases hv:v=3∧1<Ls.length
  · obtain ⟨rfl,n⟩:=hv
    rw [show ((3:Int) == 3)=true from rfl,show decide (((Ls.length:Nat):Int)>1)=true by simp;omega,cond_true,cond_true]
    refine Jk hl hj (by omega) (by omega) fun o j o0 o1 hj=>?_
    dsimp only
    rw [Rz (by simp),Q0]
    unfold LT
    refine Jk hl hj (by decide) (by decide) fun k j k0 k1 hj=>?_
    dsimp only
    obtain ⟨k,rfl⟩:=Qb8 k0
    refine QbH hl hG k 40 [] j (by omega) (by simp;omega) (fun row h=>nomatch h) hj fun f b0 De j hD hDl hj=>?_
    unfold Dm
    refine H G per Sk Ro Ls Ch _ _ De ⟨hG,p0,p1,hsk,hg,by omega,by omega,by omega,hC,hCl,⟨T,rfl,hT1,hT2,hT3,hT4⟩,fun row h=>?_,by simp,hD,hDl⟩
    simp at h
    exact ⟨o,h,o0,o1,n⟩
  · rw [show (bif (v == (3:Int)) then (decide (((List.length Ls:Nat):Int)>(1:Int))) else false)=false by
      by_cases m:v=3
      · rw [show (v == (3:Int))=true by simp [m],cond_true]
        simp
        omega
      · rw [show (v == (3:Int))=false by simpa using m,cond_false]]
    rw [cond_false]
    unfold NI
    refine Jk hl hj (by decide) (by decide) fun k j k0 k1 hj=>?_
    dsimp only
    obtain ⟨k,rfl⟩:=Qb8 k0
    refine Qc3 hl hG k 40 [] j (by omega) (by simp;omega) (fun row h=>nomatch h) hj fun f b0 De j hD hDl hj=>?_
    unfold Em
    exact H G per Sk Ro Ls Ch _ _ De ⟨hG,p0,p1,hsk,hg,by omega,by omega,by omega,hC,hCl,⟨T,rfl,hT1,hT2,hT3,hT4⟩,(fun row h=>nomatch h),by simp,hD,hDl⟩
end Go.Vx
namespace Go.Vx
variable {R:Type}
def GW (n:Nat) (a b c d:LL) (e:Int) (f g h i j k l:LL) (k0:Option R):Option R:=
 k0
def K1 (n:Nat) (b c d e:LL) (f:Int) (g h i j k l m:LL) (k0:Option R) (k1:Bool→Option R):Option R:=
 gb true (Jq n b c d e some) 0 fun a=>
 bif (a != (0:Int)) then
  k0
 else
  k1 (a != (0:Int))
def GO (n:Nat) (h:Bool) (i:Int) (a b c d e f g:LL) (k0:Bool→Option R):Option R:=
 bif (decide (((List.length a:Nat):Int)>(8:Int))) then
  k0 (decide (((List.length a:Nat):Int)>(8:Int)))
 else
  bif (decide (((List.length b:Nat):Int)>(48:Int))) then
   k0 (decide (((List.length b:Nat):Int)>(48:Int)))
  else
   bif (decide (((List.length c:Nat):Int)>(16:Int))) then
    k0 (decide (((List.length c:Nat):Int)>(16:Int)))
   else
    bif (decide (((List.length d:Nat):Int)>(32:Int))) then
     k0 (decide (((List.length d:Nat):Int)>(32:Int)))
    else
     bif (decide (((List.length e:Nat):Int)>(32:Int))) then
      k0 (decide (((List.length e:Nat):Int)>(32:Int)))
     else
      bif (decide (((List.length f:Nat):Int)>(32:Int))) then
       k0 (decide (((List.length f:Nat):Int)>(32:Int)))
      else
       k0 (decide (((List.length g:Nat):Int)>(32:Int)))
def Tk (n:Nat) (a:Bool) (b:Int) (c d e f g h i:LL) (k0:Option R) (k1:Option R):Option R:=
 bif a then
  k0
 else
  k1
def GM (n:Nat) (j k l m:LL) (a:Int) (b c d e f g h:LL) (k0:Int→Option R) (k1:Bool→Option R):Option R:=
 K1 n j k l m a b c d e f g h
  (k0 (1:Int))
  (fun o=>
  GO n o a b c d e f g h
   (fun i=>
   Tk n i a b c d e f g h
    (k0 (7:Int))
    (k1 i)))
def GN (n:Nat) (b:Bool) (c:Int) (d e a f g h i:LL) (k0:Int→Option R):Option R:=
 k0 ((List.length a:Nat):Int)
def VB (n:Nat) (d:LL) (c a h:Int) (i j k l m o:LL) (k0:Option R) (k1:Int→Option R) (e:Bool→Option R):Option R:=
 bif (decide (a<c)) then
  gb true (X2 d a) [] fun b=>
  gb true (b[0]?) (.bool false) fun p=>
  gb true (b[1]?) (.bool false) fun q=>
  gb true (b[2]?) (.bool false) fun r=>
  gb true (b[3]?) (.bool false) fun f=>
  gb true (pSl 4 f) [] fun g=>
  bif (decide (((List.length g:Nat):Int)>(12:Int))) then
   k0
  else
   k1 (IntKind.wrap .i64 (a+(1:Int)))
 else
  e (decide (a<c))
def ZW (n:Nat) (a:LL) (b c:Int) (d e f g h i:LL) (k0:Option R) (k1:Int→Bool→Option R):Nat→Int→Option R
 | 0,_=>none
 | m+1,j=>
  VB n a b j c d e f g h i
   (k0)
   (fun k=>
   ZW n a b c d e f g h i k0 k1 m k)
   (fun l=>
   k1 j l)
def Po (n:Nat) (b:LL) (c d:Int) (e:Bool) (a:Int) (f g h i j k:LL) (k0:Int→Option R):Option R:=
 bif (bif (decide (a<(2:Int))) then true else (decide (a>(7200:Int)))) then
  k0 (4:Int)
 else
  k0 (0:Int)
def HA (n:Nat) (i j k l:LL) (a:Int) (b c d e f g h:LL) (k0:Int→Option R):Option R:=
 GW n i j k l a b c d e f g h
  (GM n i j k l a b c d e f g h
   (fun w7=>
   k0 w7)
   (fun o=>
   GN n o a b c d e f g h
    (fun m=>
    ZW n d m a b c e f g h
     (k0 (7:Int))
     (fun p q=>
     Po n d m p q a b c e f g h
      (fun r=>
      k0 r))
     n (0:Int))))
def V9 (n:Nat) (a b c d:LL) (e:Int) (f g h i j k l:LL) (K:Int→Option R):Option R:=
 HA n a b c d e f g h i j k l
  (fun m=>K m)
def U7 (n:Nat) (b:List UInt8) (g h i j:Int) (a:List UInt8) (c d e f:Int) (K:Bool→(List UInt8)→Int→Int→Int→Int→Option R):Option R:=
 K (b == a) a c d e f

def Xm (n:Nat) (a0:LL) (a:List UInt8) (b c d e:Int) (k0:Int→Option R):Option R:=
 k0 ((List.length a0:Nat):Int)
def Xn (n:Nat) (a0:LL) (d c:Int) (e:List UInt8) (f g h i:Int) (k0:(List UInt8)→Int→Int→Int→Int→Option R) (k1:Int→(List UInt8)→Int→Int→Int→Int→Option R) (j:Bool→Option R):Option R:=
 bif (decide (c<d)) then
  gb true (X2 a0 c) [] fun b=>
  gb true (b[0]?) (.bool false) fun k=>
  gb true (b[1]?) (.bool false) fun l=>
  gb true (b[2]?) (.bool false) fun m=>
  gb true (b[3]?) (.bool false) fun o=>
  gb true (b[4]?) (.bool false) fun p=>
  gb true (Qc0 k) [] fun q=>
  gb true (XL .i64 l) 0 fun r=>
  gb true (XL .i64 m) 0 fun s=>
  gb true (XL .i64 o) 0 fun t=>
  gb true (XL .i64 p) 0 fun u=>
  gb true (U7 n q r s t u e f g h i (fun v w r2 r3 x y=>some (v,w,r2,r3,x,y))) (false,[],0,0,0,0) fun a=>
  bif a.1 then
   k0 a.2.1 a.2.2.1 a.2.2.2.1 a.2.2.2.2.1 a.2.2.2.2.2
  else
   k1 (IntKind.wrap .i64 (c+(1:Int))) a.2.1 a.2.2.1 a.2.2.2.1 a.2.2.2.2.1 a.2.2.2.2.2
 else
  j (decide (c<d))
def QM (n:Nat) (a0:LL) (b:Int) (k0:Int→(List UInt8)→Int→Int→Int→Int→Option R) (k1:Int→Bool→(List UInt8)→Int→Int→Int→Int→Option R):Nat→Int→(List UInt8)→Int→Int→Int→Int→Option R
 | 0,_,_,_,_,_,_=>none
 | m+1,a,c,d,e,f,g=>
  Xn n a0 b a c d e f g
   (fun h i j k l=>
   k0 a h i j k l)
   (fun o p q r s t=>
   QM n a0 b k0 k1 m o p q r s t)
   (fun u=>
   k1 a u c d e f g)
def Yz (n:Nat) (a0:LL) (a b:Int) (c:Bool) (d:List UInt8) (e f g h:Int) (k0:Option R):Option R:=
 k0
def Yw (n:Nat) (a0:LL) (a:List UInt8) (b c d e:Int) (k0:Int→(List UInt8)→Int→Int→Int→Int→Option R):Option R:=
 Xm n a0 a b c d e
  (fun f=>
  QM n a0 f
   (fun l m o p q r=>
   k0 l m o p q r)
   (fun s t g h i j k=>
   Yz n a0 f s t g h i j k
    (k0 (-1:Int) g h i j k))
   n (0:Int) a b c d e)
def XJ (n:Nat) (a0:LL) (a:List UInt8) (b c d e:Int) (K:Int→(List UInt8)→Int→Int→Int→Int→Option R):Option R:=
 Yw n a0 a b c d e
  (fun f g h i j k=>K f g h i j k)

def Xk (n:Nat) (a0:LL) (b:List UInt8) (c d e f:Int) (K:Bool→(List UInt8)→Int→Int→Int→Int→Option R):Option R:=
 gb true (XJ n a0 b c d e f (fun g a r2 r3 h i=>some (g,a,r2,r3,h,i))) (0,[],0,0,0,0) fun a=>
 K (decide (a.1≥(0:Int))) a.2.1 a.2.2.1 a.2.2.2.1 a.2.2.2.2.1 a.2.2.2.2.2

def HM (n:Nat) (b c d e:LL) (f:Int) (a g h i j k l:LL) (k0:Int→Option R):Option R:=
 k0 ((List.length a:Nat):Int)
def T3 (n:Nat) (c:LL) (a b d:Int) (e f g h i j:LL) (k0:Bool→Option R) (k1:Bool→Option R):Option R:=
 bif (decide (b<a)) then
  k0 (decide (b<a))
 else
  k1 (decide (b<a))
def HN (n:Nat) (b:LL) (i c:Int) (j:Bool) (k:Int) (l m o p q r:LL) (k0:D→D→D→D→D→Option R):Option R:=
 gb true (X2 b c) [] fun a=>
 gb true (a[0]?) (.bool false) fun d=>
 gb true (a[1]?) (.bool false) fun e=>
 gb true (a[2]?) (.bool false) fun f=>
 gb true (a[3]?) (.bool false) fun g=>
 gb true (a[4]?) (.bool false) fun h=>
 k0 d e f g h
def Mm (n:Nat) (e:Int) (b:LL) (w x:Int) (y z aa ab ac ad:LL) (c f g h i:D) (k0:Int→Option R) (k1:Bool→Option R):Option R:=
 gb true (Qc0 c) [] fun j=>
 gb true (T7 n j some) false fun k=>
 bif (!k) then
  k0 (3:Int)
 else
  gb true (slB (List.length b) none (some e)) (0,0) fun l=>
  gb true (Qc0 c) [] fun m=>
  gb true (XL .i64 f) 0 fun o=>
  gb true (XL .i64 g) 0 fun p=>
  gb true (XL .i64 h) 0 fun q=>
  gb true (XL .i64 i) 0 fun r=>
  gb true (Xk n (cut b l) m o p q r (fun s t r2 r3 u v=>some (s,t,r2,r3,u,v))) (false,[],0,0,0,0) fun a=>
  bif a.1 then
   k0 (5:Int)
  else
   gb true (WT n a.2.1 a.2.2.1 a.2.2.2.1 a.2.2.2.2.1 a.2.2.2.2.2 some) false fun d=>
   bif (!d) then
    k0 (4:Int)
   else
    k1 (!d)
def HK (n:Nat) (a:LL) (b c:Int) (k:Bool) (d:Int) (e f g h i j:LL) (k0:Int→Option R) (k1:Bool→Option R):Option R:=
 HN n a b c k d e f g h i j
  (fun l m o p q=>
  Mm n c a b d e f g h i j l m o p q
   (fun r=>
   k0 r)
   (fun s=>
   k1 s))
def Mi (n:Nat) (b:LL) (c a:Int) (d:Bool) (e:Int) (f g h i j k:LL) (k0:Int→Option R):Option R:=
 k0 (IntKind.wrap .i64 (a+(1:Int)))
def HB (n:Nat) (a:LL) (b c d:Int) (e f g h i j:LL) (k0:Int→Option R) (k1:Int→Option R) (k:Bool→Option R):Option R:=
 T3 n a b c d e f g h i j
  (fun l=>
  HK n a b c l d e f g h i j
   (fun m=>
   k0 m)
   (fun o=>
   Mi n a b c o d e f g h i j
    (fun p=>
    k1 p)))
  (fun q=>
  k q)
def JK (n:Nat) (a:LL) (b c:Int) (d e f g h i:LL) (k0:Int→Option R) (k1:Int→Bool→Option R):Nat→Int→Option R
 | 0,_=>none
 | m+1,j=>
  HB n a b j c d e f g h i
   (fun k=>
   k0 k)
   (fun l=>
   JK n a b c d e f g h i k0 k1 m l)
   (fun o=>
   k1 j o)
def Mp (n:Nat) (a:LL) (b c:Int) (d:Bool) (e:Int) (f g h i j k:LL) (k0:Option R):Option R:=
 k0
def Nw (n:Nat) (j k l m:LL) (a:Int) (b c d e f g h:LL) (k0:Int→Option R):Option R:=
 HM n j k l m a b c d e f g h
  (fun i=>
  JK n b i a c d e f g h
   (fun o=>
   k0 o)
   (fun p q=>
   Mp n b i p q a c d e f g h
    (k0 (0:Int)))
   n (0:Int))
def Um (n:Nat) (a b c d:LL) (e:Int) (f g h i j k l:LL) (K:Int→Option R):Option R:=
 Nw n a b c d e f g h i j k l
  (fun m=>K m)

def JM (n:Nat) (b c d e:LL) (f:Int) (g a h i j k l:LL) (k0:Int→Option R):Option R:=
 k0 ((List.length a:Nat):Int)
def V2 (n:Nat) (e:LL) (b a:Int) (f g h i:LL) (k0:Int→Option R) (k1:Int→Option R) (j:Bool→Option R):Option R:=
 bif (decide (a<b)) then
  gb true (X2 e a) [] fun c=>
  gb true (c[0]?) (.bool false) fun k=>
  gb true (c[1]?) (.bool false) fun l=>
  gb true (pSl 2 k) [] fun m=>
  gb true (XL .i64 l) 0 fun o=>
  gb true (Sw n f g h i m o some) 0 fun d=>
  bif (d != (0:Int)) then
   k0 d
  else
   k1 (IntKind.wrap .i64 (a+(1:Int)))
 else
  j (decide (a<b))
def Zp (n:Nat) (a:LL) (b:Int) (c d e f:LL) (k0:Int→Option R) (k1:Int→Bool→Option R):Nat→Int→Option R
 | 0,_=>none
 | m+1,g=>
  V2 n a b g c d e f
   (fun h=>
   k0 h)
   (fun i=>
   Zp n a b c d e f k0 k1 m i)
   (fun j=>
   k1 g j)
def Mk (n:Nat) (a:LL) (b c:Int) (d:Bool) (e f g h:LL) (k0:Option R):Option R:=
 k0
def HS (n:Nat) (a b c d:LL) (g:Int) (h e i j k l m:LL) (k0:Int→Option R):Option R:=
 JM n a b c d g h e i j k l m
  (fun f=>
  Zp n e f a b c d
   (fun o=>
   k0 o)
   (fun p q=>
   Mk n e f p q a b c d
    (k0 (0:Int)))
   n (0:Int))
def Uo (n:Nat) (a b c d:LL) (e:Int) (f g h i j k l:LL) (K:Int→Option R):Option R:=
 HS n a b c d e f g h i j k l
  (fun m=>K m)

def Zo (n:Nat) (b:List UInt8) (f g:Int) (h:LL) (a:List UInt8) (c d:Int) (e:LL) (K:Bool→(List UInt8)→Int→Int→LL→Option R):Option R:=
 K (b == a) a c d e

def QU (n:Nat) (a0:LL) (a:List UInt8) (b c:Int) (d:LL) (k0:Int→Option R):Option R:=
 k0 ((List.length a0:Nat):Int)
def Qy (n:Nat) (a0:LL) (d b:Int) (e:List UInt8) (f g:Int) (h:LL) (k0:(List UInt8)→Int→Int→LL→Option R) (k1:Int→(List UInt8)→Int→Int→LL→Option R) (i:Bool→Option R):Option R:=
 bif (decide (b<d)) then
  gb true (X2 a0 b) [] fun c=>
  gb true (c[0]?) (.bool false) fun j=>
  gb true (c[1]?) (.bool false) fun k=>
  gb true (c[2]?) (.bool false) fun l=>
  gb true (c[3]?) (.bool false) fun m=>
  gb true (Qc0 j) [] fun o=>
  gb true (XL .i64 k) 0 fun p=>
  gb true (XL .i64 l) 0 fun q=>
  gb true (pSl 4 m) [] fun r=>
  gb true (Zo n o p q r e f g h (fun s t r2 r3 u=>some (s,t,r2,r3,u))) (false,[],0,0,[]) fun a=>
  bif a.1 then
   k0 a.2.1 a.2.2.1 a.2.2.2.1 a.2.2.2.2
  else
   k1 (IntKind.wrap .i64 (b+(1:Int))) a.2.1 a.2.2.1 a.2.2.2.1 a.2.2.2.2
 else
  i (decide (b<d))
def Qk (n:Nat) (a0:LL) (b:Int) (k0:Int→(List UInt8)→Int→Int→LL→Option R) (k1:Int→Bool→(List UInt8)→Int→Int→LL→Option R):Nat→Int→(List UInt8)→Int→Int→LL→Option R
 | 0,_,_,_,_,_=>none
 | m+1,a,c,d,e,f=>
  Qy n a0 b a c d e f
   (fun g h i j=>
   k0 a g h i j)
   (fun k l o p q=>
   Qk n a0 b k0 k1 m k l o p q)
   (fun r=>
   k1 a r c d e f)
def YA (n:Nat) (a0:LL) (a b:Int) (c:Bool) (d:List UInt8) (e f:Int) (g:LL) (k0:Option R):Option R:=
 k0
def Xw (n:Nat) (a0:LL) (a:List UInt8) (b c:Int) (d:LL) (k0:Int→(List UInt8)→Int→Int→LL→Option R):Option R:=
 QU n a0 a b c d
  (fun e=>
  Qk n a0 e
   (fun j k l m o=>
   k0 j k l m o)
   (fun p q f g h i=>
   YA n a0 e p q f g h i
    (k0 (-1:Int) f g h i))
   n (0:Int) a b c d)
def QX (n:Nat) (a0:LL) (a:List UInt8) (b c:Int) (d:LL) (K:Int→(List UInt8)→Int→Int→LL→Option R):Option R:=
 Xw n a0 a b c d
  (fun e f g h i=>K e f g h i)

def Qx (n:Nat) (a0:LL) (b:List UInt8) (c d:Int) (e:LL) (K:Bool→(List UInt8)→Int→Int→LL→Option R):Option R:=
 gb true (QX n a0 b c d e (fun f a r2 r3 g=>some (f,a,r2,r3,g))) (0,[],0,0,[]) fun a=>
 K (decide (a.1≥(0:Int))) a.2.1 a.2.2.1 a.2.2.2.1 a.2.2.2.2

def R2 (n:Nat) (a0:Int) (K:Bool→Option R):Option R:=
 K (bif (decide (a0≥(0:Int))) then (decide (a0≤(1048576:Int))) else false)

def HF (n:Nat) (b:Int) (c d e f g h i:LL) (a1 a:Int) (K:Bool→Option R):Option R:=
 K (bif (bif (bif (decide ((0:Int)≤a1)) then (decide (a1≤a)) else false) then (decide (a≤(7200:Int))) else false) then (decide (a<(IntKind.wrap .i64 (a1+b)))) else false)

def R4 (n:Nat) (i:Int) (j a k l m o p:LL) (b q r s:Int) (K:Int→Option R):Option R:=
 gb true (X2 a b) [] fun c=>
 gb true (c[0]?) (.bool false) fun d=>
 gb true (pSl 2 d) [] fun e=>
 gb true (X2 e (0:Int)) [] fun f=>
 gb true (f[0]?) (.bool false) fun g=>
 gb true (XL .i64 g) 0 fun h=>
 K h

def Mh (n:Nat) (l:Int) (m a o p q r s:LL) (b t u v:Int) (K:Int→Option R):Option R:=
 gb true (X2 a b) [] fun d=>
 gb true (d[0]?) (.bool false) fun e=>
 gb true (pSl 2 e) [] fun c=>
 gb true (X2 a b) [] fun f=>
 gb true (f[1]?) (.bool false) fun g=>
 gb true (XL .i64 g) 0 fun h=>
 gb true (X2 c (IntKind.wrap .i64 ((IntKind.wrap .i64 (((List.length c:Nat):Int)-h))-(1:Int)))) [] fun i=>
 gb true (i[0]?) (.bool false) fun j=>
 gb true (XL .i64 j) 0 fun k=>
 K k

def KM (n:Nat) (h i j k:LL) (l:Int) (m o p q r s t:LL) (u:List UInt8) (v w:Int) (b:LL) (c:Int) (k0:D→D→D→D→Option R):Option R:=
 gb true (X2 b c) [] fun a=>
 gb true (a[0]?) (.bool false) fun d=>
 gb true (a[1]?) (.bool false) fun e=>
 gb true (a[2]?) (.bool false) fun f=>
 gb true (a[3]?) (.bool false) fun g=>
 k0 d e f g
def KL (n:Nat) (a:Int) (b c d e:LL) (f:Int) (g h i j k l m:LL) (o:List UInt8) (p q:Int) (r:LL) (s w7 t u:D) (k0:Option R):Option R:=
 k0
def KK (n:Nat) (a:Int) (x y z aa:LL) (b:Int) (o c p q r s t:LL) (ab:List UInt8) (ac ad:Int) (d:LL) (e w7 f g:D) (k0:Bool→Option R):Option R:=
 gb true (XL .i64 e) 0 fun h=>
 bif (decide (h<(0:Int))) then
  k0 (decide (h<(0:Int)))
 else
  gb true (XL .i64 e) 0 fun i=>
  bif (decide (i≥((List.length c:Nat):Int))) then
   k0 (decide (i≥((List.length c:Nat):Int)))
  else
   gb true (XL .i64 w7) 0 fun j=>
   bif (decide (j<(0:Int))) then
    k0 (decide (j<(0:Int)))
   else
    gb true (XL .i64 w7) 0 fun k=>
    bif (decide (k≥b)) then
     k0 (decide (k≥b))
    else
     gb true (XL .i64 f) 0 fun u=>
     gb true (XL .i64 g) 0 fun v=>
     gb true (HF n b o c p q r s t u v some) false fun l=>
     bif (!l) then
      k0 (!l)
     else
      gb (a == (IntKind.wrap .i64 (((List.length d:Nat):Int)-(1:Int)))) (XL .i64 f) 0 fun m=>
      gb ((a == (IntKind.wrap .i64 (((List.length d:Nat):Int)-(1:Int))))&&(!(m != (0:Int)))) (XL .i64 g) 0 fun w=>
      k0 (bif (a == (IntKind.wrap .i64 (((List.length d:Nat):Int)-(1:Int)))) then (bif (m != (0:Int)) then true else (w != (0:Int))) else false)
def R7 (n:Nat) (b:Int) (a:Bool) (c d e f:LL) (g:Int) (h i j k l m o:LL) (p:List UInt8) (q r:Int) (s:LL) (t w7 u v:D) (k0:Option R) (k1:Option R):Option R:=
 bif a then
  k0
 else
  k1
def KH (n:Nat) (a:Int) (b c d e:LL) (f:Int) (g h i j k l m:LL) (o:List UInt8) (p q:Int) (r:LL) (s w7 t u:D) (k0:Option R) (k1:Bool→Option R):Option R:=
 KL n a b c d e f g h i j k l m o p q r s w7 t u
  (KK n a b c d e f g h i j k l m o p q r s w7 t u
   (fun v=>
   R7 n a v b c d e f g h i j k l m o p q r s w7 t u
    (k0)
    (k1 v)))
def R5 (n:Nat) (a:Int) (bc:Bool) (p q r s:LL) (f:Int) (d e g h i j k:LL) (bd:List UInt8) (t be:Int) (u:LL) (l w7 v w:D) (k0:Int→Option R):Option R:=
 gb true (XL .i64 l) 0 fun x=>
 gb true (X2 e x) [] fun m=>
 gb true (m[0]?) (.bool false) fun y=>
 gb true (m[1]?) (.bool false) fun z=>
 gb true (X2 d t) [] fun b=>
 gb true (b[0]?) (.bool false) fun aa=>
 gb true (b[1]?) (.bool false) fun ab=>
 gb true (b[2]?) (.bool false) fun ac=>
 gb true (b[3]?) (.bool false) fun ad=>
 gb true (b[4]?) (.bool false) fun ae=>
 gb true (pSl 2 y) [] fun af=>
 gb true (XL .i64 z) 0 fun ag=>
 gb true (Qc0 aa) [] fun ah=>
 gb true (XL .i64 ab) 0 fun ai=>
 gb true (XL .i64 ac) 0 fun aj=>
 gb true (XL .i64 ad) 0 fun ak=>
 gb true (XL .i64 ae) 0 fun al=>
 gb true (Tp n p q r s af ag ah ai aj ak al some) 0 fun o=>
 bif (o != (0:Int)) then
  k0 o
 else
  gb (decide (a>(0:Int))) (XL .i64 l) 0 fun am=>
  gb (decide (a>(0:Int))) (XL .i64 w7) 0 fun an=>
  gb (decide (a>(0:Int))) (XL .i64 v) 0 fun ao=>
  gb (decide (a>(0:Int))) (XL .i64 w) 0 fun ap=>
  gb (decide (a>(0:Int))) (R4 n f d e g h i j k am an ao ap some) 0 fun aq=>
  gb (decide (a>(0:Int))) (X2 u (IntKind.wrap .i64 (a-(1:Int)))) [] fun c=>
  gb (decide (a>(0:Int))) (c[0]?) (.bool false) fun ar=>
  gb (decide (a>(0:Int))) (c[1]?) (.bool false) fun au=>
  gb (decide (a>(0:Int))) (c[2]?) (.bool false) fun av=>
  gb (decide (a>(0:Int))) (c[3]?) (.bool false) fun aw=>
  gb (decide (a>(0:Int))) (XL .i64 ar) 0 fun ax=>
  gb (decide (a>(0:Int))) (XL .i64 au) 0 fun ay=>
  gb (decide (a>(0:Int))) (XL .i64 av) 0 fun az=>
  gb (decide (a>(0:Int))) (XL .i64 aw) 0 fun ba=>
  gb (decide (a>(0:Int))) (Mh n f d e g h i j k ax ay az ba some) 0 fun bb=>
  bif (bif (decide (a>(0:Int))) then (aq != bb) else false) then
   k0 (11:Int)
  else
   k0 (0:Int)
def SL (n:Nat) (a b c d:LL) (e:Int) (f g h i j k l:LL) (m:List UInt8) (o p:Int) (q:LL) (r:Int) (k0:Int→Option R):Option R:=
 KM n a b c d e f g h i j k l m o p q r
  (fun s w7 t u=>
  KH n r a b c d e f g h i j k l m o p q s w7 t u
   (k0 (4:Int))
   (fun v=>
   R5 n r v a b c d e f g h i j k l m o p q s w7 t u
    (fun w=>
    k0 w)))
def VU (n:Nat) (a b c d:LL) (e:Int) (f g h i j k l:LL) (m:List UInt8) (o p:Int) (q:LL) (r:Int) (K:Int→Option R):Option R:=
 SL n a b c d e f g h i j k l m o p q r
  (fun s=>K s)

def GX (n:Nat) (b c d e:LL) (f:Int) (g h a i j k l:LL) (k0:Int→Option R):Option R:=
 k0 ((List.length a:Nat):Int)
def VI (n:Nat) (d:LL) (c b:Int) (i j k l:LL) (m:Int) (o p q r s t:LL) (k0:D→D→D→D→Option R) (k1:Bool→Option R):Option R:=
 bif (decide (b<c)) then
  gb true (X2 d b) [] fun a=>
  gb true (a[0]?) (.bool false) fun e=>
  gb true (a[1]?) (.bool false) fun f=>
  gb true (a[2]?) (.bool false) fun g=>
  gb true (a[3]?) (.bool false) fun h=>
  k0 e f g h
 else
  k1 (decide (b<c))
def GR (n:Nat) (d:Int) (b:LL) (s:Int) (t u v w:LL) (x:Int) (y z aa ab ac ad:LL) (c e f g:D) (k0:Int→Option R) (k1:Bool→(List UInt8)→Int→Int→LL→Option R):Option R:=
 gb true (Qc0 c) [] fun h=>
 gb true (T7 n h some) false fun i=>
 bif (!i) then
  k0 (3:Int)
 else
  gb true (slB (List.length b) none (some d)) (0,0) fun j=>
  gb true (Qc0 c) [] fun k=>
  gb true (XL .i64 e) 0 fun l=>
  gb true (XL .i64 f) 0 fun m=>
  gb true (pSl 4 g) [] fun o=>
  gb true (Qx n (cut b j) k l m o (fun p q r2 r3 r=>some (p,q,r2,r3,r))) (false,[],0,0,[]) fun a=>
  bif a.1 then
   k0 (5:Int)
  else
   k1 a.1 a.2.1 a.2.2.1 a.2.2.2.1 a.2.2.2.2
def GK (n:Nat) (e:LL) (f g:Int) (h:Bool) (i j k l:LL) (m:Int) (b o p q r s:LL) (t:List UInt8) (a c:Int) (u:LL) (k0:Bool→Option R):Option R:=
 bif (decide (a<(0:Int))) then
  k0 (decide (a<(0:Int)))
 else
  bif (decide (a≥((List.length b:Nat):Int))) then
   k0 (decide (a≥((List.length b:Nat):Int)))
  else
   gb true (R2 n c some) false fun d=>
   k0 (!d)
def PD (n:Nat) (c:LL) (d e:Int) (b:Bool) (f g h i:LL) (j:Int) (k l m o p q:LL) (r:List UInt8) (s t:Int) (a:LL) (k0:Int→Option R) (k1:Bool→Option R):Option R:=
 bif b then
  k0 (4:Int)
 else
  bif (((List.length a:Nat):Int) == (0:Int)) then
   k0 (1:Int)
  else
   k1 (((List.length a:Nat):Int) == (0:Int))
def GU (n:Nat) (a:Int) (b:LL) (c:Int) (d e f g:LL) (h:Int) (i j k l m o:LL) (t u v w:D) (k0:Int→Option R) (k1:Bool→(List UInt8)→Int→Int→LL→Option R):Option R:=
 GR n a b c d e f g h i j k l m o t u v w
  (fun x=>
  k0 x)
  (fun y p q r s=>
  GK n b c a y d e f g h i j k l m o p q r s
   (fun z=>
   PD n b c a z d e f g h i j k l m o p q r s
    (fun aa=>
    k0 aa)
    (fun ab=>
    k1 ab p q r s)))
def GQ (n:Nat) (b:LL) (c d:Int) (e:Bool) (f g h i:LL) (j:Int) (k l m o p q:LL) (r:List UInt8) (s t:Int) (a:LL) (k0:Int→Option R):Option R:=
 k0 ((List.length a:Nat):Int)
def VO (n:Nat) (d:LL) (v w b a:Int) (e f g h:LL) (i:Int) (j k l m o p:LL) (q:List UInt8) (r s:Int) (t:LL) (k0:Int→Option R) (k1:Int→Option R) (u:Bool→Option R):Option R:=
 bif (decide (a<b)) then
  gb true (VU n e f g h i j k d l m o p q r s t a some) 0 fun c=>
  bif (c != (0:Int)) then
   k0 c
  else
   k1 (IntKind.wrap .i64 (a+(1:Int)))
 else
  u (decide (a<b))
def ZP (n:Nat) (a:LL) (b c d:Int) (e f g h:LL) (i:Int) (j k l o p q:LL) (r:List UInt8) (s t:Int) (u:LL) (k0:Int→Option R) (k1:Int→Bool→Option R):Nat→Int→Option R
 | 0,_=>none
 | m+1,v=>
  VO n a b c d v e f g h i j k l o p q r s t u
   (fun w=>
   k0 w)
   (fun x=>
   ZP n a b c d e f g h i j k l o p q r s t u k0 k1 m x)
   (fun y=>
   k1 v y)
def HX (n:Nat) (b:LL) (c a d e:Int) (f:Bool) (g h i j:LL) (k:Int) (l m o p q r:LL) (s:List UInt8) (t u:Int) (v:LL) (k0:Int→Option R):Option R:=
 k0 (IntKind.wrap .i64 (a+(1:Int)))
def Va (n:Nat) (a:LL) (b c:Int) (d e f g:LL) (h:Int) (i j k l m o:LL) (k0:Int→Option R) (k1:Int→Option R) (u:Bool→Option R):Option R:=
 VI n a b c d e f g h i j k l m o
  (fun v w x y=>
  GU n c a b d e f g h i j k l m o v w x y
   (fun z=>
   k0 z)
   (fun aa p q r s=>
   GQ n a b c aa d e f g h i j k l m o p q r s
    (fun t=>
    ZP n a b c t d e f g h i j k l m o p q r s
     (fun ab=>
     k0 ab)
     (fun ac ad=>
     HX n a b c t ac ad d e f g h i j k l m o p q r s
      (fun ae=>
      k1 ae))
     n (0:Int))))
  (fun af=>
  u af)
def Zq (n:Nat) (a:LL) (b:Int) (c d e f:LL) (g:Int) (h i j k l o:LL) (k0:Int→Option R) (k1:Int→Bool→Option R):Nat→Int→Option R
 | 0,_=>none
 | m+1,p=>
  Va n a b p c d e f g h i j k l o
   (fun q=>
   k0 q)
   (fun r=>
   Zq n a b c d e f g h i j k l o k0 k1 m r)
   (fun s=>
   k1 p s)
def MG (n:Nat) (a:LL) (b c:Int) (d:Bool) (e f g h:LL) (i:Int) (j k l m o p:LL) (k0:Option R):Option R:=
 k0
def T2 (n:Nat) (a b c d:LL) (e:Int) (f g h i j k l:LL) (k0:Int→Option R):Option R:=
 GX n a b c d e f g h i j k l
  (fun m=>
  Zq n h m a b c d e f g i j k l
   (fun o=>
   k0 o)
   (fun p q=>
   MG n h m p q a b c d e f g i j k l
    (k0 (0:Int)))
   n (0:Int))
def UV (n:Nat) (a b c d:LL) (e:Int) (f g h i j k l:LL) (K:Int→Option R):Option R:=
 T2 n a b c d e f g h i j k l
  (fun m=>K m)

def Kr (n:Nat) (b:Int) (c d a e f g h:LL) (a1:Int) (K:Bool→Option R):Option R:=
 K (bif (decide (a1≥(0:Int))) then (decide (a1<((List.length a:Nat):Int))) else false)

def Jp (n:Nat) (d:Int) (e f c g h i j:LL) (a1 a:Int) (K:Bool→Option R):Option R:=
 gb true (Kr n d e f c g h i j a1 some) false fun b=>
 gb (bif b then (decide (a≥(0:Int))) else false) (X2 c a1) [] fun r2=>
 gb (bif b then (decide (a≥(0:Int))) else false) (r2[3]?) (.bool false) fun k=>
 gb (bif b then (decide (a≥(0:Int))) else false) (pSl 4 k) [] fun l=>
 K (bif (bif b then (decide (a≥(0:Int))) else false) then (decide (a<((List.length l:Nat):Int))) else false)

def J1 (n:Nat) (b c d e:LL) (f:Int) (g h i a j k l:LL) (k0:Int→Option R):Option R:=
 k0 ((List.length a:Nat):Int)
def Ur (n:Nat) (e:LL) (u o:Int) (bv bx v bz:LL) (h:Int) (i j c k l m:LL) (k0:Int→Option R) (k1:Int→Option R) (z:Bool→Option R):Option R:=
 bif (decide (o<u)) then
  gb true (X2 e o) [] fun d=>
  gb true (d[0]?) (.bool false) fun r=>
  gb true (d[1]?) (.bool false) fun w=>
  gb true (d[2]?) (.bool false) fun s=>
  gb true (d[3]?) (.bool false) fun x=>
  gb true (d[4]?) (.bool false) fun aa=>
  gb true (d[5]?) (.bool false) fun ab=>
  gb true (d[6]?) (.bool false) fun ac=>
  gb true (XL .i64 r) 0 fun ad=>
  gb true (XL .i64 w) 0 fun ae=>
  gb true (Jp n h i j c e k l m ad ae some) false fun a=>
  gb (!(!a)) (XL .i64 s) 0 fun af=>
  gb (!(!a)) (XL .i64 x) 0 fun ag=>
  gb (!(!a)) (Jp n h i j c e k l m af ag some) false fun b=>
  gb (!(bif (!a) then true else (!b))) (XL .i64 r) 0 fun f=>
  gb (!(bif (!a) then true else (!b))) (XL .i64 s) 0 fun g=>
  gb (!(bif (bif (!a) then true else (!b)) then true else (f == g))) (XL .i64 aa) 0 fun ah=>
  gb (!(bif (bif (!a) then true else (!b)) then true else (f == g))) (XL .i64 ab) 0 fun ai=>
  gb (!(bif (bif (!a) then true else (!b)) then true else (f == g))) (HF n h i j c e k l m ah ai some) false fun t=>
  gb (!(bif (bif (bif (!a) then true else (!b)) then true else (f == g)) then true else (!t))) (XL .i64 ac) 0 fun aj=>
  gb (!(bif (bif (bif (!a) then true else (!b)) then true else (f == g)) then true else (!t))) (R2 n aj some) false fun ak=>
  bif (bif (bif (bif (bif (!a) then true else (!b)) then true else (f == g)) then true else (!t)) then true else (!ak)) then
   k0 (4:Int)
  else
   gb true (XL .i64 r) 0 fun al=>
   gb true (X2 c al) [] fun am=>
   gb true (am[3]?) (.bool false) fun an=>
   gb true (pSl 4 an) [] fun ao=>
   gb true (XL .i64 w) 0 fun ap=>
   gb true (X2 ao ap) [] fun p=>
   gb true (p[0]?) (.bool false) fun aq=>
   gb true (p[1]?) (.bool false) fun ar=>
   gb true (p[2]?) (.bool false) fun au=>
   gb true (p[3]?) (.bool false) fun av=>
   gb true (XL .i64 aq) 0 fun aw=>
   gb true (XL .i64 ar) 0 fun ax=>
   gb true (XL .i64 au) 0 fun ay=>
   gb true (XL .i64 av) 0 fun az=>
   gb true (Mh n h i j c e k l m aw ax ay az some) 0 fun ba=>
   gb true (X2 v ba) [] fun bb=>
   gb true (bb[4]?) (.bool false) fun bc=>
   gb true (XL .i64 bc) 0 fun y=>
   gb true (XL .i64 s) 0 fun bd=>
   gb true (X2 c bd) [] fun be=>
   gb true (be[3]?) (.bool false) fun bf=>
   gb true (pSl 4 bf) [] fun bg=>
   gb true (XL .i64 x) 0 fun bh=>
   gb true (X2 bg bh) [] fun q=>
   gb true (q[0]?) (.bool false) fun bi=>
   gb true (q[1]?) (.bool false) fun bj=>
   gb true (q[2]?) (.bool false) fun bk=>
   gb true (q[3]?) (.bool false) fun bl=>
   gb true (XL .i64 bi) 0 fun bm=>
   gb true (XL .i64 bj) 0 fun bn=>
   gb true (XL .i64 bk) 0 fun bo=>
   gb true (XL .i64 bl) 0 fun bp=>
   gb true (R4 n h i j c e k l m bm bn bo bp some) 0 fun bq=>
   gb true (X2 v bq) [] fun br=>
   gb true (br[4]?) (.bool false) fun bt=>
   gb true (XL .i64 bt) 0 fun bu=>
   bif (bif (y == (-1:Int)) then true else (y != bu)) then
    k0 (11:Int)
   else
    k1 (IntKind.wrap .i64 (o+(1:Int)))
 else
  z (decide (o<u))
def Za (n:Nat) (a:LL) (b:Int) (c d e f:LL) (g:Int) (h i j k l o:LL) (k0:Int→Option R) (k1:Int→Bool→Option R):Nat→Int→Option R
 | 0,_=>none
 | m+1,p=>
  Ur n a b p c d e f g h i j k l o
   (fun q=>
   k0 q)
   (fun r=>
   Za n a b c d e f g h i j k l o k0 k1 m r)
   (fun s=>
   k1 p s)
def Nv (n:Nat) (a:LL) (b c:Int) (d:Bool) (e f g h:LL) (i:Int) (j k l m o p:LL) (k0:Option R):Option R:=
 k0
def KQ (n:Nat) (a b c d:LL) (e:Int) (f g h i j k l:LL) (k0:Int→Option R):Option R:=
 J1 n a b c d e f g h i j k l
  (fun m=>
  Za n i m a b c d e f g h j k l
   (fun o=>
   k0 o)
   (fun p q=>
   Nv n i m p q a b c d e f g h j k l
    (k0 (0:Int)))
   n (0:Int))
def WL (n:Nat) (a b c d:LL) (e:Int) (f g h i j k l:LL) (K:Int→Option R):Option R:=
 KQ n a b c d e f g h i j k l
  (fun m=>K m)

def Zm (n:Nat) (c d g h a b e f:Int) (K:Bool→Int→Int→Int→Int→Option R):Option R:=
 K (bif (c == a) then true else (d == b)) a b e f

def QS (n:Nat) (a0:LL) (a b c d:Int) (k0:Int→Option R):Option R:=
 k0 ((List.length a0:Nat):Int)
def QC (n:Nat) (a0:LL) (d b e f g h:Int) (k0:Int→Int→Int→Int→Option R) (k1:Int→Int→Int→Int→Int→Option R) (i:Bool→Option R):Option R:=
 bif (decide (b<d)) then
  gb true (X2 a0 b) [] fun c=>
  gb true (c[0]?) (.bool false) fun j=>
  gb true (c[1]?) (.bool false) fun k=>
  gb true (c[2]?) (.bool false) fun l=>
  gb true (c[3]?) (.bool false) fun m=>
  gb true (XL .i64 j) 0 fun o=>
  gb true (XL .i64 k) 0 fun p=>
  gb true (XL .i64 l) 0 fun q=>
  gb true (XL .i64 m) 0 fun r=>
  gb true (Zm n o p q r e f g h (fun s t r2 r3 u=>some (s,t,r2,r3,u))) (false,0,0,0,0) fun a=>
  bif a.1 then
   k0 a.2.1 a.2.2.1 a.2.2.2.1 a.2.2.2.2
  else
   k1 (IntKind.wrap .i64 (b+(1:Int))) a.2.1 a.2.2.1 a.2.2.2.1 a.2.2.2.2
 else
  i (decide (b<d))
def Ql (n:Nat) (a0:LL) (b:Int) (k0:Int→Int→Int→Int→Int→Option R) (k1:Int→Bool→Int→Int→Int→Int→Option R):Nat→Int→Int→Int→Int→Int→Option R
 | 0,_,_,_,_,_=>none
 | m+1,a,c,d,e,f=>
  QC n a0 b a c d e f
   (fun g h i j=>
   k0 a g h i j)
   (fun k l o p q=>
   Ql n a0 b k0 k1 m k l o p q)
   (fun r=>
   k1 a r c d e f)
def YF (n:Nat) (a0:LL) (a b:Int) (c:Bool) (d e f g:Int) (k0:Option R):Option R:=
 k0
def XA (n:Nat) (a0:LL) (a b c d:Int) (k0:Int→Int→Int→Int→Int→Option R):Option R:=
 QS n a0 a b c d
  (fun e=>
  Ql n a0 e
   (fun j k l m o=>
   k0 j k l m o)
   (fun p q f g h i=>
   YF n a0 e p q f g h i
    (k0 (-1:Int) f g h i))
   n (0:Int) a b c d)
def QZ (n:Nat) (a0:LL) (a b c d:Int) (K:Int→Int→Int→Int→Int→Option R):Option R:=
 XA n a0 a b c d
  (fun e f g h i=>K e f g h i)

def QB (n:Nat) (a0:LL) (b c d e:Int) (K:Bool→Int→Int→Int→Int→Option R):Option R:=
 gb true (QZ n a0 b c d e (fun f a r2 r3 g=>some (f,a,r2,r3,g))) (0,0,0,0,0) fun a=>
 K (decide (a.1≥(0:Int))) a.2.1 a.2.2.1 a.2.2.2.1 a.2.2.2.2

def GL (n:Nat) (b c d e:LL) (f:Int) (g h i j a k l:LL) (k0:Int→Option R):Option R:=
 k0 ((List.length a:Nat):Int)
def Vw (n:Nat) (a:LL) (u d e:Int) (f g b h i j:LL) (k0:Int→Option R) (k1:Int→Option R) (k2:Bool→Option R):Option R:=
 bif (decide (d<u)) then
  gb true (X2 a d) [] fun k=>
  gb true (k[0]?) (.bool false) fun v=>
  gb true (k[1]?) (.bool false) fun w=>
  gb true (k[2]?) (.bool false) fun x=>
  gb true (k[3]?) (.bool false) fun y=>
  gb true (XL .i64 v) 0 fun ab=>
  gb true (Kr n e f g b h a i j ab some) false fun c=>
  gb (!(!c)) (XL .i64 w) 0 fun ac=>
  gb (!(!c)) (Kr n e f g b h a i j ac some) false fun l=>
  gb (!(bif (!c) then true else (!l))) (XL .i64 x) 0 fun ad=>
  gb (!(bif (!c) then true else (!l))) (XL .i64 y) 0 fun ae=>
  gb (!(bif (!c) then true else (!l))) (HF n e f g b h a i j ad ae some) false fun af=>
  bif (bif (bif (!c) then true else (!l)) then true else (!af)) then
   k0 (4:Int)
  else
   gb true (slB (List.length a) none (some d)) (0,0) fun ag=>
   gb true (XL .i64 v) 0 fun ah=>
   gb true (XL .i64 w) 0 fun ai=>
   gb true (XL .i64 x) 0 fun aj=>
   gb true (XL .i64 y) 0 fun ak=>
   gb true (QB n (cut a ag) ah ai aj ak (fun r0 r1 r2 r3 r4=>some (r0,r1,r2,r3,r4))) (false,0,0,0,0) fun r=>
   bif r.1 then
    k0 (5:Int)
   else
    gb true (X2 b r.2.1) [] fun m=>
    gb true (m[0]?) (.bool false) fun bo=>
    gb true (m[1]?) (.bool false) fun ao=>
    gb true (m[2]?) (.bool false) fun bp=>
    gb true (m[3]?) (.bool false) fun z=>
    gb true (X2 b r.2.2.1) [] fun o=>
    gb true (o[0]?) (.bool false) fun bq=>
    gb true (o[1]?) (.bool false) fun ap=>
    gb true (o[2]?) (.bool false) fun br=>
    gb true (o[3]?) (.bool false) fun aq=>
    gb true (pSl 4 z) [] fun ar=>
    gb true (pSl 4 z) [] fun au=>
    gb true (X2 ar (IntKind.wrap .i64 (((List.length au:Nat):Int)-(1:Int)))) [] fun p=>
    gb true (p[0]?) (.bool false) fun av=>
    gb true (p[1]?) (.bool false) fun aw=>
    gb true (p[2]?) (.bool false) fun ax=>
    gb true (p[3]?) (.bool false) fun ay=>
    gb true (XL .i64 av) 0 fun az=>
    gb true (XL .i64 aw) 0 fun ba=>
    gb true (XL .i64 ax) 0 fun bb=>
    gb true (XL .i64 ay) 0 fun bc=>
    gb true (Mh n e f g b h a i j az ba bb bc some) 0 fun s=>
    gb true (pSl 4 aq) [] fun bd=>
    gb true (X2 bd (0:Int)) [] fun q=>
    gb true (q[0]?) (.bool false) fun be=>
    gb true (q[1]?) (.bool false) fun bf=>
    gb true (q[2]?) (.bool false) fun bg=>
    gb true (q[3]?) (.bool false) fun bh=>
    gb true (XL .i64 be) 0 fun bi=>
    gb true (XL .i64 bf) 0 fun bj=>
    gb true (XL .i64 bg) 0 fun bk=>
    gb true (XL .i64 bh) 0 fun bl=>
    gb true (R4 n e f g b h a i j bi bj bk bl some) 0 fun t=>
    gb (!(s != t)) (XL .i64 ao) 0 fun bm=>
    gb (!(s != t)) (XL .i64 ap) 0 fun bn=>
    bif (bif (s != t) then true else (bm != bn)) then
     k0 (11:Int)
    else
     k1 (IntKind.wrap .i64 (d+(1:Int)))
 else
  k2 (decide (d<u))
def ZL (n:Nat) (a:LL) (b c:Int) (d e f g h i:LL) (k0:Int→Option R) (k1:Int→Bool→Option R):Nat→Int→Option R
 | 0,_=>none
 | m+1,j=>
  Vw n a b j c d e f g h i
   (fun k=>
   k0 k)
   (fun l=>
   ZL n a b c d e f g h i k0 k1 m l)
   (fun o=>
   k1 j o)
def LE (n:Nat) (a:LL) (b c:Int) (d:Bool) (e:Int) (f g h i j k:LL) (k0:Option R):Option R:=
 k0
def Pa (n:Nat) (j k l m:LL) (a:Int) (b c d e f g h:LL) (k0:Int→Option R):Option R:=
 GL n j k l m a b c d e f g h
  (fun i=>
  ZL n f i a b c d e g h
   (fun o=>
   k0 o)
   (fun p q=>
   LE n f i p q a b c d e g h
    (k0 (0:Int)))
   n (0:Int))
def UX (n:Nat) (a b c d:LL) (e:Int) (f g h i j k l:LL) (K:Int→Option R):Option R:=
 Pa n a b c d e f g h i j k l
  (fun m=>K m)

def GJ (n:Nat) (b c d e:LL) (f:Int) (g h i j k a l:LL) (k0:Int→Option R):Option R:=
 k0 ((List.length a:Nat):Int)
def VG (n:Nat) (g:LL) (k f h:Int) (l m o p q r:LL) (k0:Option R) (k1:Int→Option R) (y:Bool→Option R):Option R:=
 bif (decide (f<k)) then
  gb true (X2 g f) [] fun c=>
  gb true (c[0]?) (.bool false) fun s=>
  gb true (c[1]?) (.bool false) fun t=>
  gb true (c[2]?) (.bool false) fun u=>
  gb true (c[3]?) (.bool false) fun v=>
  gb true (c[4]?) (.bool false) fun w=>
  gb true (XL .i64 s) 0 fun z=>
  gb true (XL .i64 t) 0 fun aa=>
  gb true (Jp n h l m o p q g r z aa some) false fun a=>
  gb (!(!a)) (XL .i64 u) 0 fun ab=>
  gb (!(!a)) (XL .i64 v) 0 fun ac=>
  gb (!(!a)) (Jp n h l m o p q g r ab ac some) false fun b=>
  gb (!(bif (!a) then true else (!b))) (XL .i64 s) 0 fun d=>
  gb (!(bif (!a) then true else (!b))) (XL .i64 u) 0 fun e=>
  gb ((!(bif (!a) then true else (!b)))&&(d == e)) (XL .i64 t) 0 fun i=>
  gb ((!(bif (!a) then true else (!b)))&&(d == e)) (XL .i64 v) 0 fun j=>
  gb (!(bif (bif (!a) then true else (!b)) then true else (bif (d == e) then (i == j) else false))) (XL .i64 w) 0 fun x=>
  gb (!(bif (bif (bif (!a) then true else (!b)) then true else (bif (d == e) then (i == j) else false)) then true else (decide (x<(0:Int))))) (XL .i64 w) 0 fun ad=>
  bif (bif (bif (bif (bif (!a) then true else (!b)) then true else (bif (d == e) then (i == j) else false)) then true else (decide (x<(0:Int)))) then true else (decide (ad≥h))) then
   k0
  else
   k1 (IntKind.wrap .i64 (f+(1:Int)))
 else
  y (decide (f<k))
def Zc (n:Nat) (a:LL) (b c:Int) (d e f g h i:LL) (k0:Option R) (k1:Int→Bool→Option R):Nat→Int→Option R
 | 0,_=>none
 | m+1,j=>
  VG n a b j c d e f g h i
   (k0)
   (fun k=>
   Zc n a b c d e f g h i k0 k1 m k)
   (fun l=>
   k1 j l)
def Lx (n:Nat) (a:LL) (b c:Int) (d:Bool) (e:Int) (f g h i j k:LL) (k0:Option R):Option R:=
 k0
def TX (n:Nat) (j k l m:LL) (a:Int) (b c d e f g h:LL) (k0:Int→Option R):Option R:=
 GJ n j k l m a b c d e f g h
  (fun i=>
  Zc n g i a b c d e f h
   (k0 (4:Int))
   (fun o p=>
   Lx n g i o p a b c d e f h
    (k0 (0:Int)))
   n (0:Int))
def V7 (n:Nat) (a b c d:LL) (e:Int) (f g h i j k l:LL) (K:Int→Option R):Option R:=
 TX n a b c d e f g h i j k l
  (fun m=>K m)

def J0 (n:Nat) (b c d e:LL) (f:Int) (g h i j k l a:LL) (k0:Int→Option R):Option R:=
 k0 ((List.length a:Nat):Int)
def Ut (n:Nat) (p:LL) (l f:Int) (a s t u:LL) (k0:Option R) (k1:Int→Option R) (q:Bool→Option R):Option R:=
 bif (decide (f<l)) then
  gb true (X2 p f) [] fun g=>
  gb true (g[0]?) (.bool false) fun h=>
  gb true (g[1]?) (.bool false) fun i=>
  gb true (g[2]?) (.bool false) fun m=>
  gb true (XL .i64 h) 0 fun b=>
  gb (!(decide (b<(0:Int)))) (XL .i64 h) 0 fun c=>
  gb (!(bif (decide (b<(0:Int))) then true else (decide (c≥((List.length a:Nat):Int))))) (XL .i64 i) 0 fun d=>
  gb (!(bif (bif (decide (b<(0:Int))) then true else (decide (c≥((List.length a:Nat):Int)))) then true else (decide (d<(0:Int))))) (XL .i64 i) 0 fun e=>
  gb (!(bif (bif (bif (decide (b<(0:Int))) then true else (decide (c≥((List.length a:Nat):Int)))) then true else (decide (d<(0:Int)))) then true else (decide (e≥((List.length a:Nat):Int))))) (XL .i64 h) 0 fun j=>
  gb (!(bif (bif (bif (decide (b<(0:Int))) then true else (decide (c≥((List.length a:Nat):Int)))) then true else (decide (d<(0:Int)))) then true else (decide (e≥((List.length a:Nat):Int))))) (XL .i64 i) 0 fun k=>
  gb (!(bif (bif (bif (bif (decide (b<(0:Int))) then true else (decide (c≥((List.length a:Nat):Int)))) then true else (decide (d<(0:Int)))) then true else (decide (e≥((List.length a:Nat):Int)))) then true else (j == k))) (XL .i64 m) 0 fun o=>
  gb (!(bif (bif (bif (bif (bif (decide (b<(0:Int))) then true else (decide (c≥((List.length a:Nat):Int)))) then true else (decide (d<(0:Int)))) then true else (decide (e≥((List.length a:Nat):Int)))) then true else (j == k)) then true else (decide (o<(1:Int))))) (XL .i64 m) 0 fun r=>
  bif (bif (bif (bif (bif (bif (bif (decide (b<(0:Int))) then true else (decide (c≥((List.length a:Nat):Int)))) then true else (decide (d<(0:Int)))) then true else (decide (e≥((List.length a:Nat):Int)))) then true else (j == k)) then true else (decide (o<(1:Int)))) then true else (decide (r>(1048576:Int)))) then
   k0
  else
   k1 (IntKind.wrap .i64 (f+(1:Int)))
 else
  q (decide (f<l))
def YO (n:Nat) (a:LL) (b:Int) (c d e f:LL) (k0:Option R) (k1:Int→Bool→Option R):Nat→Int→Option R
 | 0,_=>none
 | m+1,g=>
  Ut n a b g c d e f
   (k0)
   (fun h=>
   YO n a b c d e f k0 k1 m h)
   (fun i=>
   k1 g i)
def Ny (n:Nat) (a:LL) (b c:Int) (d:Bool) (e f g h:LL) (k0:Option R):Option R:=
 k0
def H4 (n:Nat) (a b c d:LL) (g:Int) (h i j k l m e:LL) (k0:Int→Option R):Option R:=
 J0 n a b c d g h i j k l m e
  (fun f=>
  YO n e f a b c d
   (k0 (4:Int))
   (fun o p=>
   Ny n e f o p a b c d
    (k0 (0:Int)))
   n (0:Int))
def WH (n:Nat) (a b c d:LL) (e:Int) (f g h i j k l:LL) (K:Int→Option R):Option R:=
 H4 n a b c d e f g h i j k l
  (fun m=>K m)

def Qbf (n:Nat) (a b c d:LL) (e:Int) (f g h i j k l:LL):Bool:=
 Qet (V9 n a b c d e f g h i j k l some)&&Qet (Um n a b c d e f g h i j k l some)&&Qet (Uo n a b c d e f g h i j k l some)&&Qet (UV n a b c d e f g h i j k l some)&&Qet (WL n a b c d e f g h i j k l some)&&Qet (UX n a b c d e f g h i j k l some)&&Qet (V7 n a b c d e f g h i j k l some)&&Qet (WH n a b c d e f g h i j k l some)
def FM (n:Nat) (a b c d:LL) (e:Int) (f g h i j k l:LL) (K:Int→Option R):Option R:=bif Qbf n a b c d e f g h i j k l then K 0 else none

end Go.Vx
namespace Go.Vx
theorem Q6Q {h:Nat} (hh:h≤1000):IntKind.wrap .i64 ((h:Int)+1)=((h+1:Nat):Int):=by rw [ZB (by omega) (by omega)];omega
theorem Dz {h k:Nat} (hh:h<k):decide ((h:Int)<((k:Nat):Int))=true:=by simpa using hh
theorem AN (k:Nat):decide (((k:Nat):Int)<((k:Nat):Int))=false:=by simp
section
variable {R:Type} {St Pt Se Li Sk Ro Ls Ch Tu Sy De:LL} {per:Int} {n:Nat}
theorem Qb1 {mn mx:Int} (a:0≤mn) (b:mn≤mx) (c:mx<mn+per) (d:mn≤1000) (p1:per≤300) (K:Bool→Option R):HF n per Sk Ro Ls Ch Tu Sy De mn mx K=K true:=by
  unfold HF
  rw [show decide ((0:Int)≤mn)=true by simpa using a,show decide (mn≤mx)=true by simpa using b,show decide (mx≤(7200:Int))=true by simp;omega,ZB (by omega) (by omega),show decide (mx<mn+per)=true by simpa using c]
  rfl
theorem Q82 {k:Nat} (h:k<Ls.length) (K:Bool→Option R):Kr n per Sk Ro Ls Ch Tu Sy De (k:Int) K=K true:=by
  unfold Kr
  rw [show decide ((k:Int)≥0)=true by simp,Dz h]
  rfl
theorem Q54 {k i:Nat} {r:List D} (h:Dy Ls k i r) (K:Bool→Option R):Jp n per Sk Ro Ls Ch Tu Sy De (k:Int) (i:Int) K=K true:=by
  obtain ⟨nm,w,rides,a,b⟩:=h
  unfold Jp
  rw [Q82 (List.getElem?_eq_some_iff.1 a).1,Q0,show decide ((i:Int)≥0)=true by simp,VE,a,Q0]
  dsimp only [List.getElem?_cons_zero,List.getElem?_cons_succ]
  rw [Q0,F4,Q0,Dz (List.getElem?_eq_some_iff.1 b).1]
  rfl
theorem Qdv {w:Int} (a:0≤w) (b:w≤1000) (K:Bool→Option R):R2 n w K=K true:=by
  unfold R2
  rw [show decide (w≥0)=true by simpa using a,show decide (w≤(1048576:Int))=true by simp;omega]
  rfl
theorem Qb4 {G:Geo} {rt:Nat} {ex mn mx x y:Int} {s:LL} (a:Ro[rt]? = some [D.sl 2 s,Yo 0]) (b:RtOK G s x y) (K:Int→Option R):R4 n per Sk Ro Ls Ch Tu Sy De (rt:Int) ex mn mx K=K x:=by
  obtain ⟨d,c⟩:=b.fst
  unfold R4
  rw [VE,a,Q0]
  dsimp only [List.getElem?_cons_zero,List.getElem?_cons_succ]
  rw [Q0,F4,Q0,c]
  rfl
theorem QcY {G:Geo} {rt:Nat} {ex mn mx x y:Int} {s:LL} (b:Ro[rt]? = some [D.sl 2 s,Yo 0]) (a:RtOK G s x y) (K:Int→Option R):Mh n per Sk Ro Ls Ch Tu Sy De (rt:Int) ex mn mx K=K y:=by
  obtain ⟨d,c⟩:=a.lst
  have l2:=a.l2
  have l24:=a.l24
  unfold Mh
  rw [VE,b,Q0]
  dsimp only [List.getElem?_cons_zero,List.getElem?_cons_succ]
  rw [Q0,F4,Q0,Q0]
  dsimp only [List.getElem?_cons_zero,List.getElem?_cons_succ]
  rw [Q0,QN,Q0,ZB (x:=((s.length:Nat):Int)-0) (by omega) (by omega),ZB (by omega) (by omega),Int.sub_zero,c]
  rfl
theorem Qgh (hs:Q7o Sk) (K:Int→Option R):Um 40 St Pt Se Li per Sk Ro Ls Ch Tu Sy De K=K 0:=by
  obtain ⟨a,b,c,d,rfl,ha,hb,hc,hd⟩:=hs
  have e:WT 40 (bs [88]) a b c d (some:Bool→Option Bool)=some true:=by
    unfold WT
    simp [ha.1,show a≤40 by omega,show 1000≤b by omega,show b≤100000 by omega,show 100≤c by omega,show c≤2000 by omega,show 100≤d by omega,show d≤2000 by omega]
  have h:Um 40 St Pt Se Li per [[D.str (bs [88]),Yo a,Yo b,Yo c,Yo d]] Ro Ls Ch Tu Sy De K=gb true (WT 40 (bs [88]) a b c d some) false (fun r=>bif !r then K 4 else K 0):=by kernel_rfl
  rw [h,e]
  rfl
theorem Qbs (hx:∃ r,Dy Ls 0 0 r) (hy:2≤Ls.length→∃ r,Dy Ls 1 0 r) (hS:∀ row∈Sy,Qh5 per Ls row) (hl:Sy.length≤1) {k0:Option R} {k1:Int→Bool→Option R}:∀ (k m h:Nat),h+k=Sy.length→k<m →
    Zc n Sy ((Sy.length:Nat):Int) per Sk Ro Ls Ch Tu De k0 k1 m (h:Int)=k1 ((Sy.length:Nat):Int) false
  | 0,m+1,h,hh,_=>by
    have hh:h=Sy.length:=by omega
    subst hh
    unfold Zc VG
    rw [AN]
    rfl
  | k+1,m+1,h,hh,hm=>by
    unfold Zc VG
    have hlt:h<Sy.length:=by omega
    obtain ⟨o,e,o0,o1,a⟩:=hS _ (List.getElem_mem hlt)
    obtain ⟨r,hr⟩:=hx
    obtain ⟨r',hr'⟩:=hy a
    rw [Dz hlt,cond_true,VE,List.getElem?_eq_getElem hlt,e,Q0]
    dsimp only [List.getElem?_cons_zero,List.getElem?_cons_succ]
    rw [Q0,Q0,Q0,Q0,Q0,QN,Q0,Q0,show (0:Int)=((0:Nat):Int) from rfl,Q54 hr,Q0,show (1:Int)=((1:Nat):Int) from rfl,QN,Q0,Q0,Q54 hr',Q0,Q0,Q0,Q0,Q0,QN,Q0,Q0]
    rw [show decide (o<((0:Nat):Int))=false by simp;omega,show decide (o≥per)=false by simp;omega,show (((0:Nat):Int) == ((1:Nat):Int))=false from rfl]
    show Zc n Sy ((Sy.length:Nat):Int) per Sk Ro Ls Ch Tu De k0 k1 m (IntKind.wrap .i64 ((h:Int)+1))=_
    rw [Q6Q (by omega)]
    exact Qbs ⟨r,hr⟩ (fun _=>⟨r',hr'⟩) hS hl k m (h+1) (by omega) (by omega)
theorem Q7H {N:Nat} (hSt:St.length=N) (hD:∀ row∈De,QgK N row) (hl:De.length≤2) {k0:Option R} {k1:Int→Bool→Option R}:∀ (k m h:Nat),h+k=De.length→k<m →
    YO n De ((De.length:Nat):Int) St Pt Se Li k0 k1 m (h:Int)=k1 ((De.length:Nat):Int) false
  | 0,m+1,h,hh,_=>by
    have hh:h=De.length:=by omega
    subst hh
    unfold YO Ut
    rw [AN]
    rfl
  | k+1,m+1,h,hh,hm=>by
    unfold YO Ut
    have hlt:h<De.length:=by omega
    obtain ⟨f,t,w,e,⟨a,b⟩,⟨c,d⟩,hft,w0,g⟩:=hD _ (List.getElem_mem hlt)
    rw [Dz hlt,cond_true,VE,List.getElem?_eq_getElem hlt,e,Q0]
    dsimp only [List.getElem?_cons_zero,List.getElem?_cons_succ]
    rw [Q0,Q0,Q0,QN,QN,QN]
    simp -implicitDefEqProofs only [Q0]
    rw [hSt,show decide (f<0)=false by simpa using a,show decide (f≥((N:Nat):Int))=false by simpa using b,show decide (t<0)=false by simpa using c,show decide (t≥((N:Nat):Int))=false by simpa using d,show (f == t)=false by simpa using hft,show decide (w<1)=false by simp;omega,show decide (w>1048576)=false by simp;omega]
    show YO n De ((De.length:Nat):Int) St Pt Se Li k0 k1 m (IntKind.wrap .i64 ((h:Int)+1))=_
    rw [Q6Q (by omega)]
    exact Q7H hSt hD hl k m (h+1) (by omega) (by omega)
theorem Q9T {G:Geo} (hG:G.OK) (hR:∀ row∈Ro,∃ s x y,row=[D.sl 2 s,Yo 0]∧RtOK G s x y) (hl:Ro.length≤6) {k0:Int→Option R} {k1:Int→Bool→Option R}:∀ (k m h:Nat),h+k=Ro.length→k<m →
    Zp 40 Ro ((Ro.length:Nat):Int) G.St G.Pt G.Se G.Li k0 k1 m (h:Int)=k1 ((Ro.length:Nat):Int) false
  | 0,m+1,h,hh,_=>by
    have hh:h=Ro.length:=by omega
    subst hh
    unfold Zp V2
    rw [AN]
    rfl
  | k+1,m+1,h,hh,hm=>by
    unfold Zp V2
    have hlt:h<Ro.length:=by omega
    obtain ⟨s,x,y,e,hs⟩:=hR _ (List.getElem_mem hlt)
    rw [Dz hlt,cond_true,VE,List.getElem?_eq_getElem hlt,e,Q0]
    dsimp only [List.getElem?_cons_zero,List.getElem?_cons_succ]
    rw [Q0,Q0,F4,Q0,QN,Q0,Qbx hG.lay rfl hs.l2 hs.l24 hs.rt,Q0,Q6Q (by omega)]
    exact Q9T hG hR hl k m (h+1) (by omega) (by omega)
theorem Qbk {G:Geo} (hg:GoodP G Ro Ls) (hl:Ls.length≤3) {k0:Option R} {k1:Int→Bool→Option R}:∀ (k m h:Nat),h+k=Ls.length→k<m →
    ZW n Ls ((Ls.length:Nat):Int) per Sk Ro Ch Tu Sy De k0 k1 m (h:Int)=k1 ((Ls.length:Nat):Int) false
  | 0,m+1,h,hh,_=>by
    have hh:h=Ls.length:=by omega
    subst hh
    unfold ZW VB
    rw [AN]
    rfl
  | k+1,m+1,h,hh,hm=>by
    unfold ZW VB
    have hlt:h<Ls.length:=by omega
    obtain ⟨w,rides,e,hr,_⟩:=Q9J hg hlt
    rw [Dz hlt,cond_true,VE,e,Q0]
    dsimp only [List.getElem?_cons_zero,List.getElem?_cons_succ]
    rw [Q0,Q0,Q0,Q0,F4,Q0,XF (by simp;omega),Q6Q (by omega)]
    exact Qbk hg hl k m (h+1) (by omega) (by omega)
end
section
variable {R:Type} {G:Geo} {Sk Ro Ls Ch Tu Sy De:LL} {per:Int} (h:PlanR G per Sk Ro Ls Ch Tu Sy De)
include h
theorem QhF (K:Int→Option R):V9 40 G.St G.Pt G.Se G.Li per Sk Ro Ls Ch Tu Sy De K=K 0:=by
  have hc:Jq 40 G.St G.Pt G.Se G.Li (some:Int→Option Int)=some 0:=by unfold Jq;rw [h.ok.lay];rfl
  obtain ⟨_,_,_,_,hsk,_⟩:=h.sk
  obtain ⟨T,hT,_,_,_,hTl⟩:=h.tu
  have l1:=h.l1
  have l2:=h.rl
  have a:=h.chl
  have b:=h.syl
  have c:=h.del
  have p0:=h.p0
  have p1:=h.p1
  have lk:Sk.length=1:=by rw [hsk];rfl
  have lt:Tu.length≤20:=by rw [hT];simpa using hTl
  unfold V9 HA GW GM K1
  rw [hc,Q0,XF (by rfl)]
  unfold GO
  rw [XF (by simp;omega),XF (by simp;omega),XF (by simp;omega),XF (by simp;omega),XF (by simp;omega),XF (by simp;omega)]
  unfold Tk
  dsimp only
  rw [XF (by simp;omega)]
  unfold GN
  refine (Qbk h.good h.l1 Ls.length 40 0 (by omega) (by omega)).trans ?_
  unfold Po
  rw [show decide (per<2)=false by simp;omega,show decide (per>7200)=false by simp;omega]
  rfl
theorem Qgs (K:Int→Option R):Uo 40 G.St G.Pt G.Se G.Li per Sk Ro Ls Ch Tu Sy De K=K 0:=by
  have l2:=h.rl
  unfold Uo HS JM
  dsimp only
  refine (Q9T h.ok h.good.ro h.rl Ro.length 40 0 (by omega) (by omega)).trans ?_
  rfl
theorem QeX (K:Int→Option R):WH 40 G.St G.Pt G.Se G.Li per Sk Ro Ls Ch Tu Sy De K=K 0:=by
  have l2:=h.del
  unfold WH H4 J0
  dsimp only
  refine (Q7H h.ok.st h.de h.del De.length 40 0 (by omega) (by omega)).trans ?_
  rfl
theorem QgO (K:Int→Option R):V7 40 G.St G.Pt G.Se G.Li per Sk Ro Ls Ch Tu Sy De K=K 0:=by
  have l2:=h.syl
  have l0:=h.l0
  have hr:∀ k,k<Ls.length→∃ r,Dy Ls k 0 r:=fun k hk=>by
    obtain ⟨w,rides,e,hr,a⟩:=Q9J h.good hk
    obtain ⟨r,_,_,_,b,_⟩:=a 0 (by omega)
    exact ⟨r,b⟩
  unfold V7 TX GJ
  dsimp only
  refine (Qbs (hr 0 (by omega)) (fun h=>hr 1 (by omega)) h.sy h.syl Sy.length 40 0 (by omega) (by omega)).trans ?_
  rfl
end
theorem Qb9 {n h:Nat} (hh:h≤n):slB n none (some (h:Int))=some (0,h):=by
  unfold slB
  rw [show (decide ((0:Int)≤(none:Option Int).getD 0)&&(decide ((none:Option Int).getD 0≤(some (h:Int)).getD (n:Int))&&decide ((some (h:Int)).getD (n:Int)≤(n:Int))))=true by simp;omega]
  rfl
theorem Q8u {α:Type} {l:List α} {h:Nat}:cut l (0,h)=l.take h:=by simp [cut]
theorem Qig {i j:Nat} (hi:i<8) (hj:j<8) (h:i≠j):(nmN i == nmN j)=false:=by
  have:∀ i j:Fin 8,i≠j→(nmN i.val == nmN j.val)=false:=by decide
  exact this ⟨i,hi⟩ ⟨j,hj⟩ (by intro e;exact h (by simpa using e))
theorem Qi1 {i:Nat} (hi:i<8):T7 40 (nmN i) (some:Bool→Option Bool)=some true:=by
  obtain rfl | rfl | rfl | rfl | rfl | rfl | rfl | rfl:i=0∨i=1∨i=2∨i=3∨i=4∨i=5∨i=6∨i=7:=by omega
  all_goals kernel_rfl
section
variable {R:Type} {Sk Ch Tu Sy De:LL} {per:Int}
theorem Q95 {G:Geo} {Ro Ls L:LL} {c:Nat} (hg:GoodP G Ro Ls) (hc:c<8) (hL:L=Ls.take c) (hl:c≤Ls.length) {a b:Int} {rides:LL} {k0:Int→List UInt8→Int→Int→LL→Option R} {k1:Int→Bool→List UInt8→Int→Int→LL→Option R}:∀ (k m h:Nat),h+k=c→k<m →
    Qk 40 L ((c:Nat):Int) k0 k1 m (h:Int) (nmN c) a b rides=k1 ((c:Nat):Int) false (nmN c) a b rides
  | 0,m+1,h,hh,_=>by
    have hh:h=c:=by omega
    subst hh
    unfold Qk Qy
    rw [AN]
    rfl
  | k+1,m+1,h,hh,hm=>by
    unfold Qk Qy
    have hlt:h<c:=by omega
    obtain ⟨w,rides',e,_,_⟩:=Q9J hg (show h<Ls.length by omega)
    have e':L[h]? = some [D.str (nmN h),Yo 0,Yo w,D.sl 4 rides']:=by rw [hL,List.getElem?_take_of_lt hlt,e]
    rw [Dz hlt,cond_true,VE,e',Q0]
    dsimp only [List.getElem?_cons_zero,List.getElem?_cons_succ]
    rw [Q0,Q0,Q0,Q0,Qd6,Q0,QN,Q0,QN,Q0,F4,Q0]
    unfold Zo
    rw [Qig (by omega) (by omega) (by omega),Q0,Q6Q (by omega)]
    exact Q95 hg hc hL hl k m (h+1) (by omega) (by omega)
theorem Q99 {G:Geo} {Ro Ls:LL} {c:Nat} (hg:GoodP G Ro Ls) (hc:c<8) (hl:c<Ls.length) {a b:Int} {rides:LL} (K:Bool→List UInt8→Int→Int→LL→Option R):Qx 40 (cut Ls (0,c)) (nmN c) a b rides K=K false (nmN c) a b rides:=by
  have hlen:(cut Ls (0,c)).length=c:=by rw [Q8u];simp;omega
  unfold Qx QX Xw QU
  rw [hlen]
  have:=Q95 (R:=Int × List UInt8 × Int × Int × LL) hg hc (Q8u (l:=Ls)) (by omega) (a:=a) (b:=b) (rides:=rides) (k0:=fun e f g h i=>some (e,f,g,h,i)) (k1:=fun o p j k m n=>some (-1,j,k,m,n)) c 40 0 (by omega) (by omega)
  refine (congrArg (fun E=>gb true E (0,[],0,0,[]) fun d=>K (decide (d.1≥(0:Int))) d.2.1 d.2.2.1 d.2.2.2.1 d.2.2.2.2) this).trans ?_
  rfl
theorem Qaw {G:Geo} (hG:G.OK) {Ro Ls rides:LL} {nm:List UInt8} {w:Int} {i:Nat} {r:List D} {x y:Int} {b:Bool} (p0:90≤per) (p1:per≤300) (hsk:Q7o Sk) (hr:rides[i]? = some r) (hR:DV G Ro r x y b) (hb:i+1=rides.length→b=true) (hl:rides.length≤2)
    (hprev:∀ j,j+1=i→∃ r' x' b',rides[j]? = some r'∧DV G Ro r' x' x b') (K:Int→Option R):VU 40 G.St G.Pt G.Se G.Li per Sk Ro Ls Ch Tu Sy De nm 0 w rides (i:Int) K=K 0:=by
  obtain ⟨rt,ex,mn,mx,s,rfl,hro,hs,⟨h,k⟩,⟨e,f,l,m⟩,hlast⟩:=hR
  obtain ⟨a,v,c,d,rfl,⟨a0,a1⟩,⟨v0,n⟩,⟨c0,c1⟩,⟨d0,d1⟩⟩:=hsk
  have hrt:rt<Ro.length:=(List.getElem?_eq_some_iff.1 hro).1
  have hi:i<rides.length:=(List.getElem?_eq_some_iff.1 hr).1
  unfold VU SL KM
  rw [VE,hr,Q0]
  dsimp only [List.getElem?_cons_zero,List.getElem?_cons_succ]
  rw [Q0,Q0,Q0,Q0]
  unfold KH KL KK
  rw [QN,Q0,XF (by simp),Q0,XF (by simp;omega),QN,Q0,XF (by simp;omega),Q0,XF (by simp;omega),QN,Q0,QN,Q0,Qb1 e f (by omega) (by omega) p1,Q0,XF (by rfl),Q0,Q0]
  have hfin:(bif ((i:Int) == (IntKind.wrap .i64 (((List.length rides:Nat):Int)-(1:Int)))) then (bif (mn != (0:Int)) then true else (mx != (0:Int))) else false)=false:=by
    by_cases g:i+1=rides.length
    · obtain ⟨rfl,rfl⟩:=hlast (hb g)
      rw [show ((0:Int) != 0)=false from rfl]
      cases ((i:Int) == (IntKind.wrap .i64 (((List.length rides:Nat):Int)-(1:Int)))) <;> rfl
    · rw [ZB (by omega) (by omega),show ((i:Int) == ((rides.length:Nat):Int)-1)=false by simp;omega]
      rfl
  rw [hfin]
  unfold R7
  dsimp only
  rw [XF rfl]
  unfold R5
  rw [QN,Q0,VE,hro,Q0]
  dsimp only [List.getElem?_cons_zero,List.getElem?_cons_succ]
  rw [Q0,Q0,show X2 [[D.str (bs [88]),Yo a,Yo v,Yo c,Yo d]] (0:Int)=some [D.str (bs [88]),Yo a,Yo v,Yo c,Yo d] from rfl,Q0]
  dsimp only [List.getElem?_cons_zero,List.getElem?_cons_succ]
  rw [Q0,Q0,Q0,Q0,Q0,F4,Q0,QN,Q0,Qd6,Q0,QN,Q0,QN,Q0,QN,Q0,QN,Q0]
  rw [Qih hG.lay rfl hs.l2 hs.l24 hs.rt hs.st a0 a1 (by omega) (by omega) (by omega) (by omega) (by omega) (by omega),Q0,XF (by rfl)]
  cases i with
  | zero=>
    rw [show decide (((0:Nat):Int)>0)=false from rfl]
    simp only [gbF,cond_false]
  | succ j=>
    obtain ⟨r',x',b',hr',hR'⟩:=hprev j rfl
    obtain ⟨rt',ex',mn',mx',s',rfl,hro',hs',_⟩:=hR'
    rw [show decide (((j+1:Nat):Int)>0)=true by simp,QN,Q0,QN,Q0,QN,Q0,Q0,Qb4 hro hs,Q0,show IntKind.wrap .i64 (((j+1:Nat):Int)-1)=(j:Int) by rw [ZB (by omega) (by omega)];omega,VE,hr',Q0]
    dsimp only [List.getElem?_cons_zero,List.getElem?_cons_succ]
    rw [Q0,Q0,Q0,Q0,QN,Q0,QN,Q0,QN,Q0,QN,Q0,QcY hro' hs',Q0,show (x != x)=false by simp]
    rfl
theorem Qbv {G:Geo} {Ro Ls L rides:LL} {nm:List UInt8} {w:Int} {a b:Int} (hk:∀ i,i<rides.length→VU 40 G.St G.Pt G.Se G.Li per Sk Ro Ls Ch Tu Sy De nm 0 w rides (i:Int) (some:Int→Option Int)=some 0) (hl:rides.length≤2) {k0:Int→Option R} {k1:Int→Bool→Option R}:∀ (k m h:Nat),h+k=rides.length→k<m →
    ZP 40 Ls a b ((rides.length:Nat):Int) G.St G.Pt G.Se G.Li per Sk Ro Ch Tu Sy De nm 0 w rides k0 k1 m (h:Int)=k1 ((rides.length:Nat):Int) false
  | 0,m+1,h,hh,_=>by
    have hh:h=rides.length:=by omega
    subst hh
    unfold ZP VO
    rw [AN]
    rfl
  | k+1,m+1,h,hh,hm=>by
    unfold ZP VO
    rw [Dz (by omega),cond_true,hk h (by omega),Q0,XF (by rfl),Q6Q (by omega)]
    exact Qbv (L:=L) hk hl k m (h+1) (by omega) (by omega)
theorem QeR {G:Geo} (hG:G.OK) {Ro Ls rides:LL} {nm:List UInt8} {w:Int} (p0:90≤per) (p1:per≤300) (hsk:Q7o Sk) (h:Qa0 G Ro rides):(rides.length=1∨rides.length=2)∧∀ i,i<rides.length→VU 40 G.St G.Pt G.Se G.Li per Sk Ro Ls Ch Tu Sy De nm 0 w rides (i:Int) (some:Int→Option Int)=some 0:=by
  rcases h with ⟨r,x,y,rfl,h⟩ | ⟨r,r',x,y,z,rfl,h,h'⟩
  · refine ⟨.inl rfl,fun i hi=>?_⟩
    have hi:i=0:=by simpa using hi
    subst hi
    exact Qaw hG p0 p1 hsk rfl h (fun _=>rfl) (by simp) (fun j hj=>by omega) _
  · refine ⟨.inr rfl,fun i hi=>?_⟩
    obtain rfl | rfl:i=0∨i=1:=by simp at hi;omega
    · exact Qaw hG p0 p1 hsk rfl h (fun h=>by simp at h) (by simp) (fun j hj=>by omega) _
    · refine Qaw hG p0 p1 hsk rfl h' (fun _=>rfl) (by simp) (fun j hj=>?_) _
      have hj:j=0:=by omega
      subst hj
      exact ⟨r,x,false,rfl,h⟩
theorem Qa2 {G:Geo} (hG:G.OK) {Ro Ls:LL} (p0:90≤per) (p1:per≤300) (hsk:Q7o Sk) (hg:GoodP G Ro Ls) (hl:Ls.length≤3) {k0:Int→Option R} {k1:Int→Bool→Option R}:∀ (k m h:Nat),h+k=Ls.length→k<m →
    Zq 40 Ls ((Ls.length:Nat):Int) G.St G.Pt G.Se G.Li per Sk Ro Ch Tu Sy De k0 k1 m (h:Int)=k1 ((Ls.length:Nat):Int) false
  | 0,m+1,h,hh,_=>by
    have hh:h=Ls.length:=by omega
    subst hh
    unfold Zq Va VI
    rw [AN]
    rfl
  | k+1,m+1,h,hh,hm=>by
    have hlt:h<Ls.length:=by omega
    obtain ⟨w,rides,e,w0,b,hrides⟩:=hg.ls h _ (List.getElem?_eq_getElem hlt)
    obtain ⟨hrl,hall⟩:=QeR (Ls:=Ls) (Ch:=Ch) (Tu:=Tu) (Sy:=Sy) (De:=De) (nm:=nmN h) (w:=w) hG p0 p1 hsk hrides
    obtain ⟨a,v,c,d,hSk,_⟩:=hsk
    have hSl:Sk.length=1:=by rw [hSk];rfl
    unfold Zq Va VI
    rw [Dz hlt,cond_true,VE,List.getElem?_eq_getElem hlt,e,Q0]
    dsimp only [List.getElem?_cons_zero,List.getElem?_cons_succ]
    rw [Q0,Q0,Q0,Q0]
    unfold GU GR
    rw [Qd6,Q0,Qi1 (by omega),Q0,XF (by rfl),Qb9 (by omega),Q0,Q0,QN,Q0,QN,Q0,F4,Q0,Q99 hg (by omega) hlt,Q0,XF (by rfl)]
    unfold GK
    dsimp only
    rw [XF (by rfl),XF (by rw [hSl];rfl),Qdv w0 (by omega),Q0]
    unfold PD
    rw [XF (by rfl),XF (by simp;intro hx;simp [hx] at hrl)]
    unfold GQ
    refine (Qbv (L:=Ls) hall (by omega) rides.length 40 0 (by omega) (by omega)).trans ?_
    unfold HX
    rw [Q6Q (by omega)]
    exact Qa2 hG p0 p1 ⟨a,v,c,d,hSk,by assumption⟩ hg hl k m (h+1) (by omega) (by omega)
end
theorem QhD {R:Type} {G:Geo} {Sk Ro Ls Ch Tu Sy De:LL} {per:Int} (h:PlanR G per Sk Ro Ls Ch Tu Sy De) (K:Int→Option R):UV 40 G.St G.Pt G.Se G.Li per Sk Ro Ls Ch Tu Sy De K=K 0:=by
  have l2:=h.l1
  unfold UV T2 GX
  dsimp only
  refine (Qa2 h.ok h.p0 h.p1 h.sk h.good h.l1 Ls.length 40 0 (by omega) (by omega)).trans ?_
  rfl

section
variable {R:Type} {Sk Ro Ls Ch Tu Sy De:LL} {per:Int} {n:Nat} {G:Geo}
theorem Q7t (p1:per≤300) (hC:∀ row∈Ch,Q8G G per Ro Ls row) (hl:Ch.length≤2) {St Pt Li:LL} {k0:Int→Option R} {k1:Int→Bool→Option R}:∀ (k m h:Nat),h+k=Ch.length→k<m →
    Za n Ch ((Ch.length:Nat):Int) St Pt G.Se Li per Sk Ro Ls Tu Sy De k0 k1 m (h:Int)=k1 ((Ch.length:Nat):Int) false
  | 0,m+1,h,hh,_=>by
    have hh:h=Ch.length:=by omega
    subst hh
    unfold Za Ur
    rw [AN]
    rfl
  | k+1,m+1,h,hh,hm=>by
    have hlt:h<Ch.length:=by omega
    obtain ⟨f,fr,t,tr,mn,mx,w,r,r',x,y,x',y',b,b',i,e,hr,hr',hR,hR',hft,⟨a,l,c,d⟩,⟨w0,o⟩,⟨p,a1,c1,d1,g⟩,⟨q,u,z,d2,j⟩,hi⟩:=hC _ (List.getElem_mem hlt)
    have hb:=Q54 (R:=Bool) (per:=per) (Sk:=Sk) (Ro:=Ro) (Ch:=Ch) (Tu:=Tu) (Sy:=Sy) (De:=De) (n:=n) hr
    have hb':=Q54 (R:=Bool) (per:=per) (Sk:=Sk) (Ro:=Ro) (Ch:=Ch) (Tu:=Tu) (Sy:=Sy) (De:=De) (n:=n) hr'
    obtain ⟨nm,v,rides,e1,e2⟩:=hr
    obtain ⟨nm',v',rides',e1',e2'⟩:=hr'
    obtain ⟨rt,ex,rn,rx,s,rfl,hro,hs,_⟩:=hR
    obtain ⟨rt',ex',rn',rx',s',rfl,hro',hs',_⟩:=hR'
    unfold Za Ur
    rw [Dz hlt,cond_true,VE,List.getElem?_eq_getElem hlt,e,Q0]
    dsimp only [List.getElem?_cons_zero,List.getElem?_cons_succ]
    simp -implicitDefEqProofs only [Q0,QN,hb,hb',Qb1 a c d (by omega) p1,Qdv w0 (show w≤1000 by omega)]
    rw [show ((f:Int) == (t:Int))=false by simp;omega]
    simp -implicitDefEqProofs only [Bool.not_true,cond_false]
    rw [VE,e1,Q0]
    dsimp only [List.getElem?_cons_zero,List.getElem?_cons_succ]
    rw [Q0,F4,Q0,VE,e2,Q0]
    dsimp only [List.getElem?_cons_zero,List.getElem?_cons_succ]
    simp -implicitDefEqProofs only [Q0,QN]
    rw [QcY hro hs,Q0,g,Q0]
    dsimp only [List.getElem?_cons_zero,List.getElem?_cons_succ]
    rw [Q0,QN,Q0,VE,e1',Q0]
    dsimp only [List.getElem?_cons_zero,List.getElem?_cons_succ]
    rw [Q0,F4,Q0,VE,e2',Q0]
    dsimp only [List.getElem?_cons_zero,List.getElem?_cons_succ]
    simp -implicitDefEqProofs only [Q0,QN]
    rw [Qb4 hro' hs',Q0,j,Q0]
    dsimp only [List.getElem?_cons_zero,List.getElem?_cons_succ]
    rw [Q0,QN,Q0,show (i == (-1:Int))=false by simp;omega,cond_false,show (i != i)=false by simp,cond_false,Q6Q (by omega)]
    exact Q7t p1 hC hl k m (h+1) (by omega) (by omega)
theorem Q9i {a b c d:Int} {T:List Tup} {L:LL} (hL:L=T.map tuR) (ht:∀ t∈T,(t.1:Int)≠a∧(t.2.1:Int)≠b) (hl:T.length≤30) {k0:Int→Int→Int→Int→Int→Option R} {k1:Int→Bool→Int→Int→Int→Int→Option R}:∀ (k m h:Nat),h+k=T.length→k<m →
    Ql n L ((T.length:Nat):Int) k0 k1 m (h:Int) a b c d=k1 ((T.length:Nat):Int) false a b c d
  | 0,m+1,h,hh,_=>by
    have hh:h=T.length:=by omega
    subst hh
    unfold Ql QC
    rw [AN]
    rfl
  | k+1,m+1,h,hh,hm=>by
    unfold Ql QC
    have hlt:h<T.length:=by omega
    have e:L[h]? = some (tuR T[h]):=by rw [hL,List.getElem?_map,List.getElem?_eq_getElem hlt];rfl
    obtain ⟨f,g⟩:=ht _ (List.getElem_mem hlt)
    rw [Dz hlt,cond_true,VE,e,Q0]
    dsimp only [tuR,List.getElem?_cons_zero,List.getElem?_cons_succ]
    simp -implicitDefEqProofs only [Q0,QN]
    unfold Zm
    rw [show ((T[h].1:Int) == a)=false by simpa using f,show ((T[h].2.1:Int) == b)=false by simpa using g,Q0,Q6Q (by omega)]
    exact Q9i hL ht hl k m (h+1) (by omega) (by omega)
theorem Q9L {a b c d:Int} {T:List Tup} (ht:∀ t∈T,(t.1:Int)≠a∧(t.2.1:Int)≠b) (hl:T.length≤30) (K:Bool→Int→Int→Int→Int→Option R):QB 40 (T.map tuR) a b c d K=K false a b c d:=by
  have hlen:(T.map tuR).length=T.length:=by simp
  unfold QB QZ XA QS
  rw [hlen]
  have:=Q9i (R:=Int × Int × Int × Int × Int) (n:=40) rfl ht hl (c:=c) (d:=d) (k0:=fun f g h i j=>some (f,g,h,i,j)) (k1:=fun p q k l m o=>some (-1,k,l,m,o)) T.length 40 0 (by omega) (by omega)
  refine (congrArg (fun E=>gb true E (0,0,0,0,0) fun e=>K (decide (e.1≥(0:Int))) e.2.1 e.2.2.1 e.2.2.2.1 e.2.2.2.2) this).trans ?_
  rfl
theorem Q7v {α:Type} {l:List α} (h:l.Nodup) {i:Nat} (hi:i<l.length):∀ x∈l.take i,x≠l[i]:=by
  intro x hx e
  subst e
  obtain ⟨j,hj,e⟩:=List.getElem_of_mem hx
  simp at hj
  rw [List.getElem_take] at e
  have:=(List.nodup_iff_pairwise_ne.1 h)
  have:=List.pairwise_iff_getElem.1 this j i (by omega) hi (by omega)
  exact this e
theorem QbS (p0:90≤per) (p1:per≤300) {T:List Tup} {L:LL} (hL:L=T.map tuR) (hT:∀ t∈T,Qer G Ro Ls t) (a:(T.map (·.1)).Nodup) (c:(T.map (·.2.1)).Nodup) (hl:T.length≤20) {k0:Int→Option R} {k1:Int→Bool→Option R}:∀ (k m h:Nat),h+k=T.length→k<m →
    ZL 40 L ((T.length:Nat):Int) per Sk Ro Ls Ch Sy De k0 k1 m (h:Int)=k1 ((T.length:Nat):Int) false
  | 0,m+1,h,hh,_=>by
    have hh:h=T.length:=by omega
    subst hh
    unfold ZL Vw
    rw [AN]
    rfl
  | k+1,m+1,h,hh,hm=>by
    have hlt:h<T.length:=by omega
    have e:L[h]? = some (tuR T[h]):=by rw [hL,List.getElem?_map,List.getElem?_eq_getElem hlt];rfl
    obtain ⟨d,f,q,u,g,t6,nm,w,rides,r,r',x,y,z,b,b',e1,e2,v,e4,⟨nm',w',rides',j,l⟩,hR,hR'⟩:=hT _ (List.getElem_mem hlt)
    obtain ⟨rt,ex,rn,rx,s,rfl,hro,hs,_⟩:=hR
    obtain ⟨rt',ex',rn',rx',s',rfl,hro',hs',_⟩:=hR'
    have hcut:cut L (0,h)=(T.take h).map tuR:=by rw [Q8u,hL,List.map_take]
    have hLl:L.length=T.length:=by rw [hL];simp
    have hdis:∀ t∈T.take h,(t.1:Int)≠(T[h].1:Int)∧(t.2.1:Int)≠(T[h].2.1:Int):=by
      intro t ht
      have o:=Q7v a (i:=h) (by simpa using hlt) t.1 (by rw [← List.map_take];exact List.mem_map_of_mem ht)
      have p:=Q7v c (i:=h) (by simpa using hlt) t.2.1 (by rw [← List.map_take];exact List.mem_map_of_mem ht)
      rw [List.getElem_map] at o p
      exact ⟨by omega,by omega⟩
    unfold ZL Vw
    rw [Dz hlt,cond_true,VE,e,Q0]
    dsimp only [tuR,List.getElem?_cons_zero,List.getElem?_cons_succ]
    simp -implicitDefEqProofs only [Q0,QN,Q82 d,Q82 f,Qb1 (Sk:=Sk) (Ro:=Ro) (Ls:=Ls) (Ch:=Ch) (Tu:=L) (Sy:=Sy) (De:=De) (n:=40) (show 0≤T[h].2.2.1 by omega) g (show T[h].2.2.2<T[h].2.2.1+per by omega) (by omega) p1]
    simp -implicitDefEqProofs only [Bool.not_true,cond_false]
    rw [hLl,Qb9 (by omega),Q0,hcut,Q9L hdis (by simp;omega),Q0]
    dsimp only
    rw [cond_false,VE,e1,Q0]
    dsimp only [List.getElem?_cons_zero,List.getElem?_cons_succ]
    rw [Q0,Q0,Q0,Q0,VE,j,Q0]
    dsimp only [List.getElem?_cons_zero,List.getElem?_cons_succ]
    rw [Q0,Q0,Q0,Q0,F4,Q0,Q0,show IntKind.wrap .i64 (((rides.length:Nat):Int)-1)=((rides.length-1:Nat):Int) by rw [ZB (by omega) (by omega)];omega,VE,e2,Q0]
    dsimp only [List.getElem?_cons_zero,List.getElem?_cons_succ]
    simp -implicitDefEqProofs only [Q0,QN]
    rw [QcY hro hs,Q0,F4,Q0,show X2 rides' (0:Int)=rides'[0]? from VE rides' 0,l,Q0]
    dsimp only [List.getElem?_cons_zero,List.getElem?_cons_succ]
    simp -implicitDefEqProofs only [Q0,QN]
    rw [Qb4 hro' hs',Q0,show (y != y)=false by simp,cond_false,show ((0:Int) != 0)=false from rfl,cond_false,Q6Q (by omega)]
    exact QbS p0 p1 hL hT a c hl k m (h+1) (by omega) (by omega)
end
section
variable {R:Type} {G:Geo} {Sk Ro Ls Ch Tu Sy De:LL} {per:Int} (h:PlanR G per Sk Ro Ls Ch Tu Sy De)
include h
theorem QeM (K:Int→Option R):WL 40 G.St G.Pt G.Se G.Li per Sk Ro Ls Ch Tu Sy De K=K 0:=by
  have l2:=h.chl
  unfold WL KQ J1
  dsimp only
  refine (Q7t h.p1 h.ch h.chl Ch.length 40 0 (by omega) (by omega)).trans ?_
  rfl
theorem Qh1 (K:Int→Option R):UX 40 G.St G.Pt G.Se G.Li per Sk Ro Ls Ch Tu Sy De K=K 0:=by
  obtain ⟨T,hT,a,b,c,d⟩:=h.tu
  have hl:Tu.length=T.length:=by rw [hT];simp
  unfold UX Pa GL
  rw [hl]
  refine (QbS (G:=G) h.p0 h.p1 hT a b c d T.length 40 0 (by omega) (by omega)).trans ?_
  rfl
theorem QfU:Qbf 40 G.St G.Pt G.Se G.Li per Sk Ro Ls Ch Tu Sy De=true:=by
  unfold Qbf
  rw [QhF h,Qgh h.sk,Qgs h,QhD h,QeM h,Qh1 h,QgO h,QeX h]
  rfl
end

end Go.Vx
namespace Go.Vx
variable {R:Type}
def Pc (n:Nat) (b:Int) (c d a e f g h:LL) (k0:Int→LL→Option R):Option R:=
 gb true (bif decide (0≤((List.length a:Nat):Int))&&decide (((List.length a:Nat):Int)≤((List.length a:Nat):Int)) then some () else none) () fun i=>
 gb true (R0 (Int.toNat ((List.length a:Nat):Int)*8)) () fun j=>
 k0 ((List.length (List.replicate (Int.toNat ((List.length a:Nat):Int)) [D.int .i64 (0:Int)]):Nat):Int) (List.replicate (Int.toNat ((List.length a:Nat):Int)) [D.int .i64 (0:Int)])
def Tm (n:Nat) (c a e:Int) (f g h i j k l b:LL) (k0:Int→LL→Option R) (k1:Bool→Option R):Option R:=
 bif (decide (a<c)) then
  gb true (inB (List.length b) a) () fun m=>
  gb true (b[(Int.toNat a)]?) [] fun d=>
  k0 (IntKind.wrap .i64 (a+(1:Int))) (List.set b (Int.toNat a) (List.set d 0 (D.int .i64 (-1:Int))))
 else
  k1 (decide (a<c))
def GB (n:Nat) (a b:Int) (c d e f g h i:LL) (k0:Int→Bool→LL→Option R):Nat→Int→LL→Option R
 | 0,_,_=>none
 | m+1,j,k=>
  Tm n a j b c d e f g h i k
   (fun l o=>
   GB n a b c d e f g h i k0 m l o)
   (fun p=>
   k0 j p k)
def Pq (n:Nat) (b c:Int) (d:Bool) (e:Int) (f g h i a j k l:LL) (k0:Int→Option R):Option R:=
 k0 ((List.length a:Nat):Int)
def PT (n:Nat) (f:LL) (e a:Int) (c:LL) (k0:Int→LL→Option R) (k1:Bool→Option R):Option R:=
 bif (decide (a<e)) then
  gb true (X2 f a) [] fun b=>
  gb true (b[0]?) (.bool false) fun g=>
  gb true (b[1]?) (.bool false) fun i=>
  gb true (b[2]?) (.bool false) fun j=>
  gb true (b[3]?) (.bool false) fun k=>
  gb true (XL .i64 g) 0 fun d=>
  gb true (inB (List.length c) d) () fun l=>
  gb true (c[(Int.toNat d)]?) [] fun h=>
  k0 (IntKind.wrap .i64 (a+(1:Int))) (List.set c (Int.toNat d) (List.set h 0 (D.int .i64 a)))
 else
  k1 (decide (a<e))
def GS (n:Nat) (a:LL) (b:Int) (k0:Int→Bool→LL→Option R):Nat→Int→LL→Option R
 | 0,_,_=>none
 | m+1,c,d=>
  PT n a b c d
   (fun e f=>
   GS n a b k0 m e f)
   (fun g=>
   k0 c g d)
def LW (n:Nat) (a:LL) (b c:Int) (d:Bool) (e:LL) (k0:Option R):Option R:=
 k0
def LR (n:Nat) (b:Int) (c d e f a g h:LL) (k0:LL→Option R):Option R:=
 Pc n b c d e f a g h
  (fun i m=>
  GB n i b c d e f a g h
   (fun o p j=>
   Pq n i o p b c d e f a g h j
    (fun k=>
    GS n a k
     (fun q r l=>
     LW n a k q r l
      (k0 l))
     n (0:Int) j))
   n (0:Int) m)
def MR (n:Nat) (a:Int) (b c d e f g h:LL) (K:LL→Option R):Option R:=
 LR n a b c d e f g h
  (fun i=>K i)
def Zi (n:Nat) (a0:Int) (a1:Bool) (q1 a:LL) (b:Int) (c d e f g h i j:LL) (k0:Option R):Option R:=
 k0
def Zh (n:Nat) (a:Int) (a1:Bool) (c b u d:LL) (v:Int) (w x y z h aa ab:LL) (k0:Int→LL→LL→Option R) (k1:Bool→LL→LL→Option R) (i:Bool→Option R):Option R:=
 gb true (inB (List.length b) a) () fun ac=>
 gb true (b[(Int.toNat a)]?) [] fun j=>
 gb true (j[0]?) (.bool false) fun k=>
 gb true (Eu k) false fun e=>
 bif (!e) then
  gb true (inB (List.length b) a) () fun ad=>
  gb true (b[(Int.toNat a)]?) [] fun f=>
  gb true (R0 ((List.length c+List.length [[D.int .i64 a]])*8)) () fun ae=>
  gb true (X2 d a) [] fun l=>
  gb true (l[0]?) (.bool false) fun m=>
  gb true (XL .i64 m) 0 fun g=>
  bif (decide (g≥(0:Int))) then
   gb true (X2 d a) [] fun o=>
   gb true (o[0]?) (.bool false) fun p=>
   gb true (XL .i64 p) 0 fun q=>
   gb true (X2 h q) [] fun r=>
   gb true (r[1]?) (.bool false) fun s=>
   gb true (XL .i64 s) 0 fun t=>
   k0 t (c++[[D.int .i64 a]]) (List.set b (Int.toNat a) (List.set f 0 (D.bool true)))
  else
   k1 (decide (g≥(0:Int))) (c++[[D.int .i64 a]]) (List.set b (Int.toNat a) (List.set f 0 (D.bool true)))
 else
  i (!e)
def Y2 (n:Nat) (a1:Bool) (a b:LL) (c:Int) (d e f g h i j:LL) (k0:Int→Bool→LL→LL→Option R):Nat→Int→LL→LL→Option R
 | 0,_,_,_=>none
 | m+1,k,l,o=>
  Zh n k a1 l o a b c d e f g h i j
   (fun p q r=>
   Y2 n a1 a b c d e f g h i j k0 m p q r)
   (fun v s t=>
   Y2 n a1 a b c d e f g h i j k0 m k s t)
   (fun u=>
   k0 k u l o)
def UK (n:Nat) (c:Int) (d a1:Bool) (a e b f:LL) (g:Int) (h i j k l m o:LL) (k0:LL→Option R):Option R:=
 gb true (R0 ((List.length b+List.length [[D.sl 1 a,D.bool a1]])*32)) () fun p=>
 k0 (b++[[D.sl 1 a,D.bool a1]])
def UI (n:Nat) (a0:Int) (a1:Bool) (q1 a:LL) (b:Int) (c d e f g h i j:LL) (k0:LL→LL→Option R):Option R:=
 Zi n a0 a1 q1 a b c d e f g h i j
  (Y2 n a1 j a b c d e f g h i
   (fun l m o k=>
   UK n l m a1 o k j a b c d e f g h i
    (fun p=>
    k0 p k))
   n a0 [] q1)
def YQ (n:Nat) (a0:Int) (a1:Bool) (q1 a:LL) (b:Int) (c d e f g h i j:LL) (K:LL→LL→Int→LL→LL→LL→LL→LL→LL→LL→LL→Option R):Option R:=
 UI n a0 a1 q1 a b c d e f g h i j
  (fun k l=>K l a b c d e f g h i k)

def Md (n:Nat) (a0:Int) (K:Int→Option R):Option R:=
 bif (decide (a0≥(65536:Int))) then
  gb true (Q6U (16:Int)) () fun e=>
  bif (decide ((shR .u32 a0 (16:Int))≥(256:Int))) then
   gb true (Q6U (8:Int)) () fun f=>
   gb true (TP Q4v (IntKind.wrap .u8 (shR .u32 (shR .u32 a0 (16:Int)) (8:Int)))) 0 fun a=>
   K (IntKind.wrap .i64 ((IntKind.wrap .i64 ((16:Int)+(8:Int)))+(IntKind.wrap .i64 a)))
  else
   gb true (TP Q4v (IntKind.wrap .u8 (shR .u32 a0 (16:Int)))) 0 fun b=>
   K (IntKind.wrap .i64 ((16:Int)+(IntKind.wrap .i64 b)))
 else
  bif (decide (a0≥(256:Int))) then
   gb true (Q6U (8:Int)) () fun g=>
   gb true (TP Q4v (IntKind.wrap .u8 (shR .u32 a0 (8:Int)))) 0 fun c=>
   K (IntKind.wrap .i64 ((IntKind.wrap .i64 ((0:Int)+(8:Int)))+(IntKind.wrap .i64 c)))
  else
   gb true (TP Q4v (IntKind.wrap .u8 a0)) 0 fun d=>
   K (IntKind.wrap .i64 ((0:Int)+(IntKind.wrap .i64 d)))

def MJ (n:Nat) (a0:Int) (K:Int→Option R):Option R:=
 bif (decide (a0≥(4294967296:Int))) then
  gb true (Q6U (32:Int)) () fun i=>
  bif (decide ((shR .u64 a0 (32:Int))≥(65536:Int))) then
   gb true (Q6U (16:Int)) () fun j=>
   bif (decide ((shR .u64 (shR .u64 a0 (32:Int)) (16:Int))≥(256:Int))) then
    gb true (Q6U (8:Int)) () fun k=>
    gb true (TP Q4v (IntKind.wrap .u8 (shR .u64 (shR .u64 (shR .u64 a0 (32:Int)) (16:Int)) (8:Int)))) 0 fun a=>
    K (IntKind.wrap .i64 ((IntKind.wrap .i64 ((IntKind.wrap .i64 ((32:Int)+(16:Int)))+(8:Int)))+(IntKind.wrap .i64 a)))
   else
    gb true (TP Q4v (IntKind.wrap .u8 (shR .u64 (shR .u64 a0 (32:Int)) (16:Int)))) 0 fun b=>
    K (IntKind.wrap .i64 ((IntKind.wrap .i64 ((32:Int)+(16:Int)))+(IntKind.wrap .i64 b)))
  else
   bif (decide ((shR .u64 a0 (32:Int))≥(256:Int))) then
    gb true (Q6U (8:Int)) () fun l=>
    gb true (TP Q4v (IntKind.wrap .u8 (shR .u64 (shR .u64 a0 (32:Int)) (8:Int)))) 0 fun c=>
    K (IntKind.wrap .i64 ((IntKind.wrap .i64 ((32:Int)+(8:Int)))+(IntKind.wrap .i64 c)))
   else
    gb true (TP Q4v (IntKind.wrap .u8 (shR .u64 a0 (32:Int)))) 0 fun d=>
    K (IntKind.wrap .i64 ((32:Int)+(IntKind.wrap .i64 d)))
 else
  bif (decide (a0≥(65536:Int))) then
   gb true (Q6U (16:Int)) () fun m=>
   bif (decide ((shR .u64 a0 (16:Int))≥(256:Int))) then
    gb true (Q6U (8:Int)) () fun o=>
    gb true (TP Q4v (IntKind.wrap .u8 (shR .u64 (shR .u64 a0 (16:Int)) (8:Int)))) 0 fun e=>
    K (IntKind.wrap .i64 ((IntKind.wrap .i64 ((IntKind.wrap .i64 ((0:Int)+(16:Int)))+(8:Int)))+(IntKind.wrap .i64 e)))
   else
    gb true (TP Q4v (IntKind.wrap .u8 (shR .u64 a0 (16:Int)))) 0 fun f=>
    K (IntKind.wrap .i64 ((IntKind.wrap .i64 ((0:Int)+(16:Int)))+(IntKind.wrap .i64 f)))
  else
   bif (decide (a0≥(256:Int))) then
    gb true (Q6U (8:Int)) () fun p=>
    gb true (TP Q4v (IntKind.wrap .u8 (shR .u64 a0 (8:Int)))) 0 fun g=>
    K (IntKind.wrap .i64 ((IntKind.wrap .i64 ((0:Int)+(8:Int)))+(IntKind.wrap .i64 g)))
   else
    gb true (TP Q4v (IntKind.wrap .u8 a0)) 0 fun h=>
    K (IntKind.wrap .i64 ((0:Int)+(IntKind.wrap .i64 h)))

def EP (n:Nat) (a0:Int) (K:Int→Option R):Option R:=
 bif false then
  gb true (Md n (IntKind.wrap .u32 a0) some) 0 fun a=>
  K a
 else
  gb true (MJ n a0 some) 0 fun r2=>
  K r2

def NQ (n:Nat) (a0:Int) (K:Bool→Option R):Option R:=
 K (a0 != a0)

def M1 (n:Nat) (a0 a1:Int) (K:Int→Option R):Option R:=
 gb true (NQ n a0 some) false fun a=>
 gb true (NQ n a1 some) false fun r2=>
 bif a then
  bif r2 then
   K (0:Int)
  else
   K (-1:Int)
 else
  bif r2 then
   K (1:Int)
  else
   bif (decide (a0<a1)) then
    K (-1:Int)
   else
    bif (decide (a0>a1)) then
     K (1:Int)
    else
     K (0:Int)

def U6 (n:Nat) (a:LL) (j:Bool) (b:LL) (k:Bool) (K:Int→Option R):Option R:=
 gb true (X2 a (0:Int)) [] fun c=>
 gb true (c[0]?) (.bool false) fun d=>
 gb true (XL .i64 d) 0 fun e=>
 gb true (X2 b (0:Int)) [] fun f=>
 gb true (f[0]?) (.bool false) fun g=>
 gb true (XL .i64 g) 0 fun h=>
 gb true (M1 n e h some) 0 fun i=>
 K i

def XV (n:Nat) (a1 a:Int) (b:LL) (k0:Int→Option R):Option R:=
 k0 (IntKind.wrap .i64 (a1+(1:Int)))
def XQ (n:Nat) (a1 a b:Int) (c:LL) (k0:Option R) (k1:Bool→Option R):Option R:=
 bif (decide (b<a)) then
  k0
 else
  k1 (decide (b<a))
def XX (n:Nat) (a1 w x a:Int) (b:LL) (k0:Int→LL→Option R) (k1:Bool→Option R):Option R:=
 gb (decide (a>a1)) (inB (List.length b) a) () fun y=>
 gb (decide (a>a1)) (b[(Int.toNat a)]?) [] fun f=>
 gb (decide (a>a1)) (f[0]?) (.bool false) fun k=>
 gb (decide (a>a1)) (f[1]?) (.bool false) fun l=>
 gb (decide (a>a1)) (inB (List.length b) (IntKind.wrap .i64 (a-(1:Int)))) () fun z=>
 gb (decide (a>a1)) (b[(Int.toNat (IntKind.wrap .i64 (a-(1:Int))))]?) [] fun g=>
 gb (decide (a>a1)) (g[0]?) (.bool false) fun m=>
 gb (decide (a>a1)) (g[1]?) (.bool false) fun o=>
 gb (decide (a>a1)) (pSl 1 k) [] fun p=>
 gb (decide (a>a1)) (Eu l) false fun q=>
 gb (decide (a>a1)) (pSl 1 m) [] fun r=>
 gb (decide (a>a1)) (Eu o) false fun s=>
 gb (decide (a>a1)) (U6 n p q r s some) 0 fun h=>
 bif (bif (decide (a>a1)) then (decide (h<(0:Int))) else false) then
  gb true (inB (List.length b) (IntKind.wrap .i64 (a-(1:Int)))) () fun aa=>
  gb true (b[(Int.toNat (IntKind.wrap .i64 (a-(1:Int))))]?) [] fun i=>
  gb true (i[0]?) (.bool false) fun c=>
  gb true (i[1]?) (.bool false) fun d=>
  gb true (inB (List.length b) a) () fun ab=>
  gb true (b[(Int.toNat a)]?) [] fun j=>
  gb true (j[0]?) (.bool false) fun t=>
  gb true (j[1]?) (.bool false) fun u=>
  gb true (inB (List.length b) a) () fun ac=>
  gb true (b[(Int.toNat a)]?) [] fun e=>
  gb true (inB (List.length (List.set b (Int.toNat a) (List.set (List.set e 0 c) 1 d))) (IntKind.wrap .i64 (a-(1:Int)))) () fun ad=>
  gb true ((List.set b (Int.toNat a) (List.set (List.set e 0 c) 1 d))[(Int.toNat (IntKind.wrap .i64 (a-(1:Int))))]?) [] fun v=>
  k0 (IntKind.wrap .i64 (a-(1:Int))) (List.set (List.set b (Int.toNat a) (List.set (List.set e 0 c) 1 d)) (Int.toNat (IntKind.wrap .i64 (a-(1:Int)))) (List.set (List.set v 0 t) 1 u))
 else
  k1 (bif (decide (a>a1)) then (decide (h<(0:Int))) else false)
def QW (n:Nat) (a1 a b:Int) (k0:Int→Bool→LL→Option R):Nat→Int→LL→Option R
 | 0,_,_=>none
 | m+1,c,d=>
  XX n a1 a b c d
   (fun e f=>
   QW n a1 a b k0 m e f)
   (fun g=>
   k0 c g d)
def YK (n:Nat) (a1 b a c:Int) (d:Bool) (e:LL) (k0:Int→Option R):Option R:=
 k0 (IntKind.wrap .i64 (a+(1:Int)))
def XO (n:Nat) (a1 b a:Int) (c:LL) (k0:Int→LL→Option R) (k1:Bool→Option R):Option R:=
 XQ n a1 b a c
  (QW n a1 b a
   (fun e f d=>
   YK n a1 b a e f d
    (fun g=>
    k0 g d))
   n a c)
  (fun h=>
  k1 h)
def XP (n:Nat) (a1 a:Int) (k0:Int→Bool→LL→Option R):Nat→Int→LL→Option R
 | 0,_,_=>none
 | m+1,b,c=>
  XO n a1 a b c
   (fun d e=>
   XP n a1 a k0 m d e)
   (fun f=>
   k0 b f c)
def YJ (n:Nat) (a1 a:Int) (b:LL) (k0:Int→Bool→LL→Option R):Option R:=
 XV n a1 a b
  (fun c=>
  XP n a1 a
   (fun d e f=>
   k0 d e f)
   n c b)
def Y4 (n:Nat) (a:LL) (a1 b:Int) (K:LL→Option R):Option R:=
 YJ n a1 b a
  (fun d e c=>K c)

def Yj (n:Nat) (a1 a b:Int) (c:LL) (k0:Option R):Option R:=
 k0
def Yi (n:Nat) (a1 a b:Int) (c:LL) (k0:LL→Option R) (k1:Int→Bool→Option R):Option R:=
 bif (decide ((IntKind.wrap .i64 (a-a1))≤(12:Int))) then
  gb true (Y4 n c a1 a some) [] fun d=>
  gb true (Q8Q d (List.length c)) () fun e=>
  k0 d
 else
  bif (b == (0:Int)) then
   none
  else
   k1 (IntKind.wrap .i64 (a-a1)) (b == (0:Int))
def Yh (n:Nat) (a1 a b c:Int) (d:Bool) (e:LL) (k0:Bool→Option R):Option R:=
 bif (!true) then
  none
 else
  k0 (!true)
def Z6 (n:Nat) (a1 a b c:Int) (d:Bool) (e:LL)  : Option R:=
 none
def Yg (n:Nat) (a1 a b:Int) (c:LL) (k0:LL→Option R):Option R:=
 Yi n a1 a b c
  (fun e=>
  k0 e)
  (fun d f=>
  Yh n a1 a b d f c
   (fun g=>
   Z6 n a1 a b d g c))
def Z5 (n:Nat) (a1 a b:Int) (c:LL) (k0:LL→Option R):Nat→Option R
 | 0=>none
 | m+1=>
  Yg n a1 a b c
   (fun d=>
   k0 d)
def Z7 (n:Nat) (a1 a b:Int) (c:LL) (k0:LL→Option R):Option R:=
 Yj n a1 a b c
  (Z5 n a1 a b c
   (fun d=>
   k0 d)
   n)
def Yu (n:Nat) (a:LL) (a1 b c:Int) (K:LL→Option R):Option R:=
 Z7 n a1 b c a
  (fun d=>K d)

def X9 (n:Nat) (a:LL) (K:LL→Option R):Option R:=
 gb true (EP n (IntKind.wrap .u64 ((List.length a:Nat):Int)) some) 0 fun b=>
 gb true (Yu n a (0:Int) ((List.length a:Nat):Int) b some) [] fun r2=>
 gb true (Q8Q r2 (List.length a)) () fun c=>
 K r2

def Gq (n:Nat) (c:Int) (d e a f b g h:LL) (k0:Int→LL→LL→Option R):Option R:=
 gb true (MR n c d e a f b g h some) [] fun i=>
 gb true (bif decide (0≤((List.length a:Nat):Int))&&decide (((List.length a:Nat):Int)≤((List.length a:Nat):Int)) then some () else none) () fun j=>
 gb true (R0 (Int.toNat ((List.length a:Nat):Int)*1)) () fun k=>
 k0 ((List.length b:Nat):Int) i (List.replicate (Int.toNat ((List.length a:Nat):Int)) [D.bool false])
def GA (n:Nat) (f:LL) (e a i:Int) (j k l m o p w7 c:LL) (k0:Int→LL→Option R) (k1:Bool→Option R):Option R:=
 bif (decide (a<e)) then
  gb true (X2 f a) [] fun b=>
  gb true (b[0]?) (.bool false) fun q=>
  gb true (b[1]?) (.bool false) fun g=>
  gb true (b[2]?) (.bool false) fun r=>
  gb true (b[3]?) (.bool false) fun s=>
  gb true (XL .i64 g) 0 fun d=>
  gb true (inB (List.length c) d) () fun t=>
  gb true (c[(Int.toNat d)]?) [] fun h=>
  k0 (IntKind.wrap .i64 (a+(1:Int))) (List.set c (Int.toNat d) (List.set h 0 (D.bool true)))
 else
  k1 (decide (a<e))
def Vi (n:Nat) (a:LL) (b c:Int) (d e f g h i w7:LL) (k0:Int→Bool→LL→Option R):Nat→Int→LL→Option R
 | 0,_,_=>none
 | m+1,j,k=>
  GA n a b j c d e f g h i w7 k
   (fun l o=>
   Vi n a b c d e f g h i w7 k0 m l o)
   (fun p=>
   k0 j p k)
def Gb (n:Nat) (b:LL) (c d:Int) (e:Bool) (f:Int) (g h a i j k w7 l:LL) (k0:Int→LL→Option R):Option R:=
 gb true (bif decide (0≤((List.length a:Nat):Int))&&decide (((List.length a:Nat):Int)≤((List.length a:Nat):Int)) then some () else none) () fun m=>
 gb true (R0 (Int.toNat ((List.length a:Nat):Int)*1)) () fun o=>
 k0 ((List.length a:Nat):Int) (List.replicate (Int.toNat ((List.length a:Nat):Int)) [D.bool false])
def Gx (n:Nat) (c b e:Int) (f g h i j k l m d o p:LL) (k0:Int→Int→LL→LL→LL→LL→LL→LL→LL→LL→LL→LL→Option R) (k1:Int→Option R) (q:Bool→Option R):Option R:=
 bif (decide (b<c)) then
  gb true (inB (List.length d) b) () fun ad=>
  gb true (d[(Int.toNat b)]?) [] fun r=>
  gb true (r[0]?) (.bool false) fun s=>
  gb true (Eu s) false fun t=>
  bif (!t) then
   gb true (YQ n b false o m e f g h i j k l p (fun u v r2 r3 w x y z r8 r9 ac=>some (u,v,r2,r3,w,x,y,z,r8,r9,ac))) ([],[],0,[],[],[],[],[],[],[],[]) fun a=>
   k0 (IntKind.wrap .i64 (b+(1:Int))) a.2.2.1 a.2.2.2.1 a.2.2.2.2.1 a.2.2.2.2.2.1 a.2.2.2.2.2.2.1 a.2.2.2.2.2.2.2.1 a.2.2.2.2.2.2.2.2.1 a.2.2.2.2.2.2.2.2.2.1 a.2.1 a.1 a.2.2.2.2.2.2.2.2.2.2
  else
   k1 (IntKind.wrap .i64 (b+(1:Int)))
 else
  q (decide (b<c))
def WG (n:Nat) (a:Int) (b:LL) (k0:Int→Bool→Int→LL→LL→LL→LL→LL→LL→LL→LL→LL→LL→Option R):Nat→Int→Int→LL→LL→LL→LL→LL→LL→LL→LL→LL→LL→Option R
 | 0,_,_,_,_,_,_,_,_,_,_,_,_=>none
 | m+1,p,c,d,e,f,g,h,i,j,k,l,o=>
  Gx n a p c d e f g h i j k b l o
   (fun q r s t u v w x y z aa ab=>
   WG n a b k0 m q r s t u v w x y z aa ab)
   (fun ac=>
   WG n a b k0 m ac c d e f g h i j k l o)
   (fun ad=>
   k0 p ad c d e f g h i j k l o)
def Gy (n:Nat) (b c:Int) (d:Bool) (e:Int) (f g a h i j k l m o p:LL) (k0:Int→Option R):Option R:=
 k0 ((List.length a:Nat):Int)
def Gi (n:Nat) (d b e:Int) (f g h i j k l m c o:LL) (k0:Int→Int→LL→LL→LL→LL→LL→LL→LL→LL→LL→LL→Option R) (k1:Int→Option R) (p:Bool→Option R):Option R:=
 bif (decide (b<d)) then
  gb true (inB (List.length c) b) () fun ac=>
  gb true (c[(Int.toNat b)]?) [] fun q=>
  gb true (q[0]?) (.bool false) fun r=>
  gb true (Eu r) false fun s=>
  bif (!s) then
   gb true (YQ n b true c m e f g h i j k l o (fun t u r2 r3 v w x y z r9 ab=>some (t,u,r2,r3,v,w,x,y,z,r9,ab))) ([],[],0,[],[],[],[],[],[],[],[]) fun a=>
   k0 (IntKind.wrap .i64 (b+(1:Int))) a.2.2.1 a.2.2.2.1 a.2.2.2.2.1 a.2.2.2.2.2.1 a.2.2.2.2.2.2.1 a.2.2.2.2.2.2.2.1 a.2.2.2.2.2.2.2.2.1 a.2.2.2.2.2.2.2.2.2.1 a.2.1 a.1 a.2.2.2.2.2.2.2.2.2.2
  else
   k1 (IntKind.wrap .i64 (b+(1:Int)))
 else
  p (decide (b<d))
def WE (n:Nat) (a:Int) (k0:Int→Bool→Int→LL→LL→LL→LL→LL→LL→LL→LL→LL→LL→Option R):Nat→Int→Int→LL→LL→LL→LL→LL→LL→LL→LL→LL→LL→Option R
 | 0,_,_,_,_,_,_,_,_,_,_,_,_=>none
 | m+1,o,b,c,d,e,f,g,h,i,j,k,l=>
  Gi n a o b c d e f g h i j k l
   (fun p q r s t u v w x y z aa=>
   WE n a k0 m p q r s t u v w x y z aa)
   (fun ab=>
   WE n a k0 m ab b c d e f g h i j k l)
   (fun ac=>
   k0 o ac b c d e f g h i j k l)
def PG (n:Nat) (c d:Int) (e:Bool) (f:Int) (g h i j k l m o p a:LL) (k0:LL→Option R):Option R:=
 gb true (X9 n a some) [] fun b=>
 gb true (Q8Q b (List.length a)) () fun q=>
 k0 b
def Th (n:Nat) (a:Int) (b c d e f g h:LL) (k0:LL→Option R):Option R:=
 Gq n a b c d e f g h
  (fun j w7 y=>
  Vi n f j a b c d e g h w7
   (fun z aa i=>
   Gb n f j z aa a b c d e g h w7 i
    (fun k ab=>
    WG n k i
     (fun ac ad l m o p q r s t u v w=>
     Gy n k ac ad l m o p q r s t u i v w
      (fun x=>
      WE n x
       (fun ae af ag ah ai aj ak al am an ao ap aq=>
       PG n x ae af ag ah ai aj ak al am an ao ap aq
        (fun ar=>
        k0 ar))
       n (0:Int) l m o p q r s t u v w))
     n (0:Int) a b c d e f g h w7 ab []))
   n (0:Int) y)
def JC (n:Nat) (a:Int) (b c d e f g h:LL) (K:LL→Option R):Option R:=
 Th n a b c d e f g h
  (fun i=>K i)

def Ho (n:Nat) (i j k l:LL) (a:Int) (b c d e f g h:LL) (K:LL→Int→Option R):Option R:=
 gb true (FM n i j k l a b c d e f g h some) 0 fun m=>
 bif (m != (0:Int)) then
  K [] (1:Int)
 else
  gb true (JC n a b c d e f g h some) [] fun r2=>
  K r2 (0:Int)

def EJ (n:Nat) (a:Int) (b c d e f g h:LL) (a1:Int) (k0:Option R):Option R:=
 k0
def D3 (n:Nat) (a1 a l:Int) (m o p q b r s:LL) (k0:D→D→D→D→Option R) (k1:Int→Option R) (d:Bool→Option R):Option R:=
 bif (decide (a<((List.length b:Nat):Int))) then
  gb true (X2 b a) [] fun e=>
  gb true (e[0]?) (.bool false) fun f=>
  gb true (XL .i64 f) 0 fun g=>
  bif (g == a1) then
   gb true (X2 b a) [] fun c=>
   gb true (c[0]?) (.bool false) fun h=>
   gb true (c[1]?) (.bool false) fun i=>
   gb true (c[2]?) (.bool false) fun j=>
   gb true (c[3]?) (.bool false) fun k=>
   k0 h i j k
  else
   k1 (IntKind.wrap .i64 (a+(1:Int)))
 else
  d (decide (a<((List.length b:Nat):Int)))
def NK (n:Nat) (a1 a:Int) (b c d e f g h:LL) (k0:D→D→D→D→Option R) (k1:Int→Bool→Option R):Nat→Int→Option R
 | 0,_=>none
 | m+1,i=>
  D3 n a1 i a b c d e f g h
   (fun j k l o=>
   k0 j k l o)
   (fun p=>
   NK n a1 a b c d e f g h k0 k1 m p)
   (fun q=>
   k1 i q)
def Q1L (n:Nat) (a1 a:Int) (b:Bool) (c:Int) (d e f g h i j:LL) (k0:Option R):Option R:=
 k0
def Q1b (n:Nat) (a:Int) (b c d e f g h:LL) (a1:Int) (k0:D→D→D→D→Option R) (k1:Option R):Option R:=
 EJ n a b c d e f g h a1
  (NK n a1 a b c d e f g h
   (fun i j k l=>
   k0 i j k l)
   (fun m o=>
   Q1L n a1 m o a b c d e f g h
    (k1))
   n (0:Int))
def Q2M (n:Nat) (a:Int) (b c d e f g h:LL) (a1:Int) (K:D→D→D→D→Bool→Option R):Option R:=
 Q1b n a b c d e f g h a1
  (fun i j k l=>K i j k l true)
  (K (D.int .i64 (0:Int)) (D.int .i64 (0:Int)) (D.int .i64 (0:Int)) (D.int .i64 (0:Int)) false)

def Pz (n:Nat) (a0:Int) (a1:LL) (k0:Option R) (k1:Int→Option R):Option R:=
 bif (bif (decide (a0<(2:Int))) then true else (decide (a0>(7200:Int)))) then
  k0
 else
  k1 ((List.length a1:Nat):Int)
def PV (n:Nat) (a1:LL) (g b:Int) (k0:Option R) (k1:Int→Option R) (m:Bool→Option R):Option R:=
 bif (decide (b<g)) then
  gb true (X2 a1 b) [] fun a=>
  gb true (a[0]?) (.bool false) fun o=>
  gb true (a[1]?) (.bool false) fun p=>
  gb true (a[2]?) (.bool false) fun h=>
  gb true (a[3]?) (.bool false) fun i=>
  gb true (a[4]?) (.bool false) fun j=>
  gb true (XL .i64 o) 0 fun c=>
  gb (!(decide (c<(0:Int)))) (XL .i64 p) 0 fun e=>
  gb (!(bif (decide (c<(0:Int))) then true else (decide (e<(0:Int))))) (XL .i64 h) 0 fun k=>
  gb (!(bif (bif (decide (c<(0:Int))) then true else (decide (e<(0:Int)))) then true else (decide (k<(-1099511627776:Int))))) (XL .i64 h) 0 fun q=>
  bif (bif (bif (bif (decide (c<(0:Int))) then true else (decide (e<(0:Int)))) then true else (decide (k<(-1099511627776:Int)))) then true else (decide (q>(1099511627776:Int)))) then
   k0
  else
   gb true (XL .i64 i) 0 fun d=>
   gb (!(decide (d<(1:Int)))) (XL .i64 i) 0 fun f=>
   gb (!(bif (decide (d<(1:Int))) then true else (decide (f>(1099511627776:Int))))) (XL .i64 j) 0 fun l=>
   gb (!(bif (bif (decide (d<(1:Int))) then true else (decide (f>(1099511627776:Int)))) then true else (decide (l<(0:Int))))) (XL .i64 j) 0 fun r=>
   bif (bif (bif (bif (decide (d<(1:Int))) then true else (decide (f>(1099511627776:Int)))) then true else (decide (l<(0:Int)))) then true else (decide (r>(1099511627776:Int)))) then
    k0
   else
    k1 (IntKind.wrap .i64 (b+(1:Int)))
 else
  m (decide (b<g))
def GH (n:Nat) (a1:LL) (a:Int) (k0:Option R) (k1:Int→Bool→Option R):Nat→Int→Option R
 | 0,_=>none
 | m+1,b=>
  PV n a1 a b
   (k0)
   (fun c=>
   GH n a1 a k0 k1 m c)
   (fun d=>
   k1 b d)
def Lo (n:Nat) (a1:LL) (a b:Int) (c:Bool) (k0:Option R):Option R:=
 k0
def LU (n:Nat) (a0:Int) (a1:LL) (k0:Bool→Option R):Option R:=
 Pz n a0 a1
  (k0 false)
  (fun a=>
  GH n a1 a
   (k0 false)
   (fun b c=>
   Lo n a1 a b c
    (k0 true))
   n (0:Int))
def Tz (n:Nat) (a0:Int) (a1:LL) (K:Bool→Option R):Option R:=
 LU n a0 a1
  (fun a=>K a)

end Go.Vx
namespace Go.Vx
def QcR:List (List D)→Option (List Int)
  | []=>some []
  | [.int .i64 r,_,_,_,_]::l=>bif decide (-9223372036854775808≤r)&&decide (r≤9223372036854775807) then match QcR l with
      | some s=>some (r::s)
      | none=>none
    else none
  | _=>none
def QcI (rs:List Int) (i:Nat) (r:Int):List Int:=((List.range i).filter fun j=>rs.getD j 0 == r).map fun (j:Nat)=>(j:Int)
def QgM (rs:List Int):Int→List (List D):=fun r=>(QcI rs rs.length r).map fun j=>[.int .i64 j]
def Q8h (rs:List Int) (i:Nat):List (List D):=((List.range i).map fun j=>[D.int .i64 ((QcI rs j (rs.getD j 0)).length:Nat)])++List.replicate (rs.length-i) [D.int .i64 0]
def Qbw {R:Type} (rows:List (List D)) (k:(Int→List (List D))→List (List D)→Option R):Option R:=
  match QcR rows with
  | some rs=>bif Nat.ble rs.length 1000000000 then k (QgM rs) (Q8h rs rs.length) else none
  | none=>none
theorem Qd8 (rs:List Int) (i:Nat) (r:Int):QcI rs (i+1) r=QcI rs i r++(if rs.getD i 0=r then [(i:Int)] else []):=by
  unfold QcI
  rw [List.range_succ,List.filter_append,List.map_append]
  congr 1
  by_cases h:rs.getD i 0=r
  · rw [if_pos h]
    have:(rs.getD i 0 == r)=true:=by simpa using h
    simp only [List.filter_cons,this,if_true,List.filter_nil]
    rfl
  · rw [if_neg h]
    have:(rs.getD i 0 == r)=false:=by rw [beq_eq_false_iff_ne];exact h
    simp only [List.filter_cons,this,List.filter_nil]
    rfl
theorem Q5Z (rs:List Int) {i:Nat} (h:i≤rs.length):(Q8h rs i).length=rs.length:=by
  simp [Q8h];omega
theorem QdU (rs:List Int) {i:Nat} (h:i<rs.length):(Q8h rs i).set i [.int .i64 ((QcI rs i (rs.getD i 0)).length:Nat)]=Q8h rs (i+1):=by
  unfold Q8h
  rw [List.set_append_right _ _ (by simp),List.range_succ,List.map_append,List.append_assoc]
  congr 1
  rw [show rs.length-i=(rs.length-(i+1))+1 by omega,List.replicate_succ]
  simp
theorem Qgz (rs:List Int) {i:Nat} (h:i<rs.length):(Q8h rs i)[i]? = some [.int .i64 0]:=by
  unfold Q8h
  rw [List.getElem?_append_right (by simp),List.getElem?_replicate,if_pos (by simp;omega)]
theorem Q93 (rs:List Int):Q8h rs 0=List.replicate rs.length [.int .i64 0]:=by simp [Q8h]
theorem Q0r:∀ {rows:List (List D)} {rs:List Int},QcR rows=some rs→rs.length=rows.length:=by
  intro rows
  induction rows with
  | nil=>intro rs h;simp only [QcR,Option.some.injEq] at h;subst h;rfl
  | cons x l ih=>
    intro rs h
    unfold QcR at h
    split at h
    · rename_i h0;cases h0
    · rename_i r c1 c2 c3 c4 l' h0
      injection h0 with e1 e2
      subst e2
      cases hb:(decide (-9223372036854775808≤r)&&decide (r≤9223372036854775807)) with
      | false=>simp [hb] at h
      | true=>
        simp only [hb,cond_true] at h
        split at h
        · rename_i s hs
          injection h with h
          subst h
          simp [ih hs]
        · cases h
    · cases h
theorem Qdz:∀ {rows:List (List D)} {rs:List Int},QcR rows=some rs→∀ (i:Nat),i<rows.length→∃ r c1 c2 c3 c4,rows[i]? = some [.int .i64 r,c1,c2,c3,c4]∧rs.getD i 0=r ∧ -9223372036854775808≤r∧r≤9223372036854775807:=by
  intro rows
  induction rows with
  | nil=>intro rs h i hi;simp at hi
  | cons x l ih=>
    intro rs h i hi
    unfold QcR at h
    split at h
    · rename_i h0;cases h0
    · rename_i r c1 c2 c3 c4 l' h0
      injection h0 with e1 e2
      subst e1 e2
      cases hb:(decide (-9223372036854775808≤r)&&decide (r≤9223372036854775807)) with
      | false=>simp [hb] at h
      | true=>
        simp only [hb,cond_true] at h
        split at h
        · rename_i s hs
          injection h with h
          subst h
          simp only [Bool.and_eq_true,decide_eq_true_eq] at hb
          cases i with
          | zero=>exact ⟨r,c1,c2,c3,c4,rfl,rfl,hb.1,hb.2⟩
          | succ i=>simpa using ih hs i (by simpa using hi)
        · cases h
    · cases h
end Go.Vx
namespace Go.Vx
variable {R:Type}
def El (n:Nat) (a0 a1:Int) (K:Int→Int→Option R):Option R:=
 bif (decide (a1<(1:Int))) then
  K (0:Int) (1:Int)
 else
  gb true (nz a1) () fun a=>
  gb true (nz a1) () fun b=>
  bif (decide ((Int.tmod a0 a1)>(0:Int))) then
   K (IntKind.wrap .i64 ((IntKind.wrap .i64 (Int.tdiv a0 a1))+(1:Int))) (0:Int)
  else
   K (IntKind.wrap .i64 (Int.tdiv a0 a1)) (0:Int)
def Fl (n:Nat) (a0 a1:Int) (K:Int→Int→Option R):Option R:=
 bif (decide (a1<(1:Int))) then
  K (0:Int) (1:Int)
 else
  gb true (nz a1) () fun a=>
  gb true (nz a1) () fun b=>
  bif (decide ((Int.tmod a0 a1)<(0:Int))) then
   K (IntKind.wrap .i64 ((IntKind.wrap .i64 (Int.tdiv a0 a1))-(1:Int))) (0:Int)
  else
   K (IntKind.wrap .i64 (Int.tdiv a0 a1)) (0:Int)

def Ky (n:Nat) (a0 g h c e i j k d f l:Int) (k0:Int→Int→Option R):Option R:=
 gb true (El n (IntKind.wrap .i64 ((IntKind.wrap .i64 ((IntKind.wrap .i64 (c-d))-f))+(1:Int))) a0 (fun b a=>some (b,a))) (0,0) fun a=>
 gb true (Fl n (IntKind.wrap .i64 ((IntKind.wrap .i64 ((IntKind.wrap .i64 (c+e))-d))-(1:Int))) a0 (fun b a=>some (b,a))) (0,0) fun r2=>
 k0 a.1 r2.1
def Rm (n:Nat) (b c f d g h a i e j k l:Int) (k0:Bool→Option R) (k1:Bool→Option R):Option R:=
 bif (decide (b>c)) then
  k0 false
 else
  bif (d != e) then
   k0 true
  else
   bif (a == (0:Int)) then
    k0 (bif (decide (b<(0:Int))) then true else (decide (c>(0:Int))))
   else
    bif (a == (1:Int)) then
     k0 false
    else
     k1 (a == (1:Int))
def Kp (n:Nat) (a b c d e f g h i j k l:Int) (k0:Bool→Option R) (k1:Bool→Option R):Option R:=
 Rm n a b c d e f g h i j k l
  (fun m=>
  k0 m)
  (fun o=>
  k1 o)
def RA (n:Nat) (a b:Int) (d:Bool) (e f g h c:Int) (k0:Bool→Option R):Option R:=
 gb (!(decide (a<b))) (nz c) () fun i=>
 k0 (bif (decide (a<b)) then true else ((Int.tmod a c) != (0:Int)))
def RD (n:Nat) (a0 a b c d e f g h i j:Int) (k0:Bool→Option R):Option R:=
 Ky n a0 a b c d e f g h i j
  (fun k l=>
  Kp n k l a b c d e f g h i j
   (fun m=>
   k0 m)
   (fun o=>
   RA n k l o a b c d e
    (fun p=>
    k0 p)))
def P7 (n:Nat) (a0 a b c d e f g h i j:Int) (K:Bool→Option R):Option R:=
 RD n a0 a b c d e f g h i j
  (fun k=>K k)

def Uy (n:Nat) (a0 a1:Int) (a:Bool) (K:Bool→Bool→Option R):Option R:=
 K false false

end Go.Vx
