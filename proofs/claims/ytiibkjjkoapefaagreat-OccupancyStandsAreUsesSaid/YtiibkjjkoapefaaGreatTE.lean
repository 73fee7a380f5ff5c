/- Part of a proof. No conditions of their own. -/
import Derived.Test.YtiibkjjkoapefaaGreatTB
import Derived.Test.YtiibkjjkoapefaaGreatTD
set_option linter.unusedVariables false
set_option linter.unusedSimpArgs false
noncomputable section
abbrev Qj2:=@List.getElem?_cons_zero
abbrev Qj3:=@cond_false
abbrev Qj4:=@List.getElem?_cons_succ
abbrev Qj5:=@decide_eq_false
abbrev Qj6:=@List.length_map
abbrev Qj7:=@decide_eq_true
abbrev Qj8:=@List.getD_eq_getElem?_getD
abbrev Qj9:=@List.getElem?_eq_getElem
abbrev Qja:=@if_neg
abbrev Qjb:=@List.mem_of_getElem?
abbrev Qjc:=@Bool.not_true
abbrev Qjd:=@Nat.add_sub_cancel
abbrev Qje:=@Bool.not_false
abbrev Qjf:=@Nat.le_refl
abbrev Qjg:=@List.map_append
abbrev Qjh:=@List.mem_singleton
abbrev Qji:=@List.mem_append
abbrev Qjj:=@Int.emod_lt_of_pos
abbrev Qjk:=@List.pairwise_cons
abbrev Qjl:=@Int.emod_nonneg
abbrev Qjm:=@List.length_nil
abbrev Qjn:=@List.length_cons
abbrev Qjo:=@Option.getD_some
abbrev Qjp:=@List.append_assoc
abbrev Qjq:=@List.getElem?_map
abbrev Qjr:=@List.length_append
abbrev Qjs:=@Int.tmod_eq_emod_of_nonneg
abbrev Qjt:=@Int.emod_eq_of_lt
abbrev Qju:=@List.mem_append_right
abbrev Qjv:=@List.mem_append_left
abbrev Qjw:=@List.pairwise_append
abbrev Qjx:=@List.take_length
abbrev Qjy:=@List.filter_cons
abbrev Qjz:=@List.append_nil
abbrev QjA:=@Nat.le_of_ble_eq_true
namespace Go.Vx
variable {R:Type}
def Xm (n:Nat) (a:LL) (a1 a2 b:Int) (K:LL->oP R):oP R:= gb true (inB (a.length) a1) () fun r=>gb true (a[a1.toNat]?) [] fun e=>gb true (e[1]?) oF fun f=>gb true (pIw f) 0 fun g=>gb true (a[a1.toNat]?) [] fun h=>gb true (h[2]?) oF fun i=>gb true (pIw i) 0 fun j=>bif decide (g<j) then gb true (a[a1.toNat]?) [] fun k=>gb true (k[1]?) oF fun l=>gb true (pIw l) 0 fun c=>gb true (a[a1.toNat]?) [] fun m=>gb true (m[2]?) oF fun o=>gb true (pIw o) 0 fun d=>gb true (a[a1.toNat]?) [] fun p=>K (List.set a a1.toNat (List.set (List.set (List.set p 0 (Q4 a1)) 1 (Q4 (if c<a2 then c else a2))) 2 (Q4 (if b<d then d else b)))) else gb true (a[a1.toNat]?) [] fun q=>K (List.set a a1.toNat (List.set (List.set (List.set q 0 (Q4 a1)) 1 (Q4 a2)) 2 (Q4 b)))
end Go.Vx
namespace Go.Vx
variable {R:Type}
def XQ (n:Nat) (c:LL) (h2:Int) (k0:Int->Bool->LL->oP R):Nat->Int->LL->oP R
 | 0,_,_=>none
 | m+1,a,b=>bif decide (a<h2) then gb true (Q1 c a) [] fun d=>gb true (d[0]?) oF fun g=>gb true (d[1]?) oF fun e=>gb true (d[2]?) oF fun f=>gb true (pIw e) 0 fun h=>gb true (pIw f) 0 fun i=>bif decide (h<i) then gb true (Yf ((b.length+[[g,e,f]].length)*24)) () fun j=>XQ n c h2 k0 m (wJ (a+1)) (b++[[g,e,f]]) else XQ n c h2 k0 m (wJ (a+1)) b else k0 a (decide (a<h2)) b
def Vk (n:Nat) (a0:LL) (K:LL->oP R):oP R:= XQ n a0 (a0.length:Int) (fun b c a=>K a) n 0 []
end Go.Vx
namespace Go.Vx
variable {R:Type}
def XI (n:Nat) (d e:LL) (b:Int) (k0:Int->Bool->LL->oP R):Nat->Int->LL->oP R
 | 0,_,_=>none
 | m+1,a,c=>bif decide (a<b) then gb true (Q1 d (wJ (a-1))) [] fun h=>gb true (h[0]?) oF fun i=>gb true (pIw i) 0 fun j=>gb true (Vf n j some) 0 fun f=>gb true (Q1 e a) [] fun k=>gb true (k[0]?) oF fun l=>gb true (pIw l) 0 fun o=>gb true (JH n o some) 0 fun g=>gb true (Yf ((c.length+[[Q4 0,Q4 (wJ (f-16)),Q4 (wJ (g+4))]].length)*24)) () fun p=>XI n d e b k0 m (wJ (a+1)) (c++[[Q4 0,Q4 (wJ (f-16)),Q4 (wJ (g+4))]]) else k0 a (decide (a<b)) c
def Qj (n:Nat) (f:Int) (l:LL) (g:Int) (h i e j k:LL) (c d:Int) (k0:Int->Bool->LL->LL->oP R):Nat->Int->LL->LL->oP R
 | 0,_,_,_=>none
 | m+1,a,b,q=>bif decide (a<g) then gb true (Q1 l a) [] fun u=>gb true (u[0]?) oF fun r=>gb true (u[1]?) oF fun v=>bif decide (a>f) then gb true (Yf ((b.length+[[Q4 0,Q4 c,Q4 d]].length)*24)) () fun bu=>gb true (pIw r) 0 fun ad=>gb true (inB (List.length (b++[[Q4 0,Q4 c,Q4 d]])) a) () fun bv=>gb true ((b++[[Q4 0,Q4 c,Q4 d]])[a.toNat]?) [] fun ae=>gb true (ae[1]?) oF fun ag=>gb true (pIw ag) 0 fun ah=>gb true (inB (List.length (b++[[Q4 0,Q4 c,Q4 d]])) a) () fun bx=>gb true ((b++[[Q4 0,Q4 c,Q4 d]])[a.toNat]?) [] fun ai=>gb true (ai[2]?) oF fun aj=>gb true (pIw aj) 0 fun ak=>gb true (Xm n q ad ah ak some) [] fun o=>gb true (He o (q.length)) () fun bz=>bif (a == 0) then Qj n f l g h i e j k c d k0 m (wJ (a+1)) (b++[[Q4 0,Q4 c,Q4 d]]) o else gb true (Q1 k (wJ (a-1))) [] fun x=>gb true (x[0]?) oF fun al=>gb true (x[1]?) oF fun am=>gb true (pIw al) 0 fun an=>gb true (pIw am) 0 fun ao=>gb true (pIw r) 0 fun ap=>gb true (pIw v) 0 fun aq=>gb true (Zl n h i e j an ao ap aq some) 0 fun s=>bif decide (s<0) then Qj n f l g h i e j k c d k0 m (wJ (a+1)) (b++[[Q4 0,Q4 c,Q4 d]]) o else bif decide (a<=f) then gb true (inB (List.length (b++[[Q4 0,Q4 c,Q4 d]])) a) () fun ca=>gb true ((b++[[Q4 0,Q4 c,Q4 d]])[a.toNat]?) [] fun ar=>gb true (ar[1]?) oF fun au=>gb true (pIw au) 0 fun av=>gb true (inB (List.length (b++[[Q4 0,Q4 c,Q4 d]])) (wJ (a-1))) () fun cb=>gb true ((b++[[Q4 0,Q4 c,Q4 d]])[(Int.toNat (wJ (a-1)))]?) [] fun aw=>gb true (aw[2]?) oF fun ax=>gb true (pIw ax) 0 fun ay=>gb true (Xm n o (wJ ((e.length:Int)+s)) av ay some) [] fun y=>gb true (He y (o.length)) () fun cc=>Qj n f l g h i e j k c d k0 m (wJ (a+1)) (b++[[Q4 0,Q4 c,Q4 d]]) y else gb true (Xm n o (wJ ((e.length:Int)+s)) c d some) [] fun z=>gb true (He z (o.length)) () fun ce=>Qj n f l g h i e j k c d k0 m (wJ (a+1)) (b++[[Q4 0,Q4 c,Q4 d]]) z else gb true (pIw r) 0 fun az=>gb true (inB (b.length) a) () fun cf=>gb true (b[a.toNat]?) [] fun ba=>gb true (ba[1]?) oF fun bb=>gb true (pIw bb) 0 fun bc=>gb true (inB (b.length) a) () fun cg=>gb true (b[a.toNat]?) [] fun bd=>gb true (bd[2]?) oF fun be=>gb true (pIw be) 0 fun bg=>gb true (Xm n q az bc bg some) [] fun p=>gb true (He p (q.length)) () fun ch=>bif (a == 0) then Qj n f l g h i e j k c d k0 m (wJ (a+1)) b p else gb true (Q1 k (wJ (a-1))) [] fun aa=>gb true (aa[0]?) oF fun bh=>gb true (aa[1]?) oF fun bi=>gb true (pIw bh) 0 fun bj=>gb true (pIw bi) 0 fun bk=>gb true (pIw r) 0 fun bl=>gb true (pIw v) 0 fun bm=>gb true (Zl n h i e j bj bk bl bm some) 0 fun t=>bif decide (t<0) then Qj n f l g h i e j k c d k0 m (wJ (a+1)) b p else bif decide (a<=f) then gb true (inB (b.length) a) () fun ci=>gb true (b[a.toNat]?) [] fun bn=>gb true (bn[1]?) oF fun bo=>gb true (pIw bo) 0 fun bp=>gb true (inB (b.length) (wJ (a-1))) () fun cj=>gb true (b[(Int.toNat (wJ (a-1)))]?) [] fun bq=>gb true (bq[2]?) oF fun br=>gb true (pIw br) 0 fun bt=>gb true (Xm n p (wJ ((e.length:Int)+t)) bp bt some) [] fun ab=>gb true (He ab (p.length)) () fun ck=>Qj n f l g h i e j k c d k0 m (wJ (a+1)) b ab else gb true (Xm n p (wJ ((e.length:Int)+t)) c d some) [] fun ac=>gb true (He ac (p.length)) () fun cm=>Qj n f l g h i e j k c d k0 m (wJ (a+1)) b ac else k0 a (decide (a<g)) b q
def ZN (n:Nat) (c d e f b:LL) (l:Int) (m:List UInt8) (o p q r s h:Int) (K:LL->Int->Int->oP R):oP R:= gb true (KK n c d e f b l m o p q r Tu4) ([],[],0,0) fun a=>bif (a.2.2.2 != 0) then K [] 0 a.2.2.2 else gb true (Q1 a.2.1 0) [] fun g=>gb true (g[0]?) oF fun v=>gb true (pIw v) 0 fun x=>gb true (JH n x some) 0 fun y=>XI n a.1 a.2.1 (wJ ((a.1.length:Int)-1)) (fun aj ak i=>gb true (Q1 a.1 (wJ ((wJ ((a.1.length:Int)-1))-1))) [] fun z=>gb true (z[0]?) oF fun aa=>gb true (pIw aa) 0 fun ab=>gb true (Vf n ab some) 0 fun j=>gb true (Yf ((i.length+[[Q4 0,Q4 (wJ (j-16)),Q4 (wJ (a.2.2.1+h))]].length)*24)) () fun al=>gb true (Q1 a.1 (wJ ((a.1.length:Int)-1))) [] fun ac=>gb true (ac[0]?) oF fun ad=>gb true (pIw ad) 0 fun ae=>gb true (Vf n ae some) 0 fun ag=>gb true (J1 n c d e f some) [] fun ah=>Qj n (wJ ((a.1.length:Int)-1)) b (b.length:Int) c d e f b (wJ (ag-16)) (wJ (a.2.2.1+20)) (fun am an ao ai=>gb true (Vk n ai some) [] fun k=>gb true (Fa [k]) () fun ap=>K k a.2.2.1 0) n 0 (i++[[Q4 0,Q4 (wJ (j-16)),Q4 (wJ (a.2.2.1+h))]]) ah) n 1 [[Q4 0,Q4 (wJ (0-s)),Q4 (wJ (y+4))]]
end Go.Vx
namespace Go.Vx
variable {R:Type}
def ZX (n:Nat) (e f g h i:LL) (j:Int) (k:List UInt8) (l m o p c d:Int) (K:LL->Int->Int->oP R):oP R:= gb true (G7 n e f g h i j k l m o p some) 0 fun b=>bif (b != 0) then K [] 0 b else bif (bif (bif (bif decide (c<0) then true else (decide (c>65536))) then true else (decide (d<0))) then true else (decide (d>65536))) then K [] 0 4 else gb true (ZN n e f g h i j k l m o p c d Tu3) ([],0,0) fun a=>K a.1 a.2.1 a.2.2
end Go.Vx
namespace Go.Vx
variable {R:Type}
def Zn (n:Nat) (a i e:LL) (g d:Int) (k0:Int->Int->Bool->LL->LL->oP R):Nat->Int->Int->LL->LL->oP R
 | 0,_,_,_,_=>none
 | m+1,b,c,h,f=>bif (decide (c<(wJ ((e.length:Int)-g)))) then gb true (Q1 a b) [] fun p=>gb true (p[0]?) oF fun q=>gb true (pIw q) 0 fun j=>gb true (Yf ((h.length+[[Q4 j]].length)*8)) () fun ab=>bif decide (c>0) then gb true (Q1 e c) [] fun r=>gb true (r[0]?) oF fun s=>gb true (pIw s) 0 fun t=>gb true (Q1 i t) [] fun u=>gb true (u[1]?) oF fun v=>gb true (pIw v) 0 fun k=>gb true (Q1 a (if (wJ ((a.length:Int)-1))<(wJ ((wJ (b+k))+d)) then (wJ ((a.length:Int)-1)) else (wJ ((wJ (b+k))+d)))) [] fun x=>gb true (x[0]?) oF fun y=>gb true (pIw y) 0 fun l=>gb true (Yf ((f.length+[[Q4 l]].length)*8)) () fun ac=>Zn n a i e g d k0 m (wJ (b+k)) (wJ (c+1)) (h++[[Q4 j]]) (f++[[Q4 l]]) else gb true (Q1 a (if (wJ ((a.length:Int)-1))<(wJ (b+d)) then (wJ ((a.length:Int)-1)) else (wJ (b+d)))) [] fun z=>gb true (z[0]?) oF fun aa=>gb true (pIw aa) 0 fun o=>gb true (Yf ((f.length+[[Q4 o]].length)*8)) () fun ad=>Zn n a i e g d k0 m b (wJ (c+1)) (h++[[Q4 j]]) (f++[[Q4 o]]) else k0 b c (decide (c<(wJ ((e.length:Int)-g)))) h f
def P6 (n:Nat) (i j c k d:LL) (e:Int) (l:List UInt8) (f m o p:Int) (K:LL->LL->Int->Int->oP R):oP R:= gb true (S1 n i j c k d e l f m o p some) 0 fun a=>bif (a != 0) then K [] [] 0 a else gb true (PI n i j c k d e Tu3) ([],0,0) fun b=>gb true (Ps n b.1 b.2.1 l f m o p Tu2) ([],0) fun h=>Zn n h.1 c d e f (fun x y z q r=>gb true (Q1 h.1 (wJ ((h.1.length:Int)-1))) [] fun s=>gb true (s[0]?) oF fun t=>gb true (pIw t) 0 fun u=>gb true (Jm n u 1000 some) 0 fun v=>K q r v 0) n 0 0 [] []
end Go.Vx
namespace Go.Vx
variable {R:Type}
def Vv (n:Nat) (a0 a1:Int) (K:Int->oP R):oP R:= gb true (nz a1) () fun a=>gb true (nz a1) () fun u2=>bif (decide ((Int.tmod a0 a1)<0)) then K (wJ ((wJ (Int.tdiv a0 a1))-1)) else K (wJ (Int.tdiv a0 a1))
end Go.Vx
namespace Go.Vx
variable {R:Type}
def YM (n:Nat) (b a:LL) (a1 a2 c:Int) (K:LL->LL->oP R):oP R:= gb true (inB (b.length) a1) () fun q=>gb true (b[a1.toNat]?) [] fun f=>gb true (f[0]?) oF fun g=>gb true (Kl g) false fun h=>bif h then gb true (inB (a.length) a1) () fun r=>gb true (a[a1.toNat]?) [] fun r6=>gb true (r6[1]?) oF fun i=>gb true (pIw i) 0 fun d=>gb true (inB (a.length) a1) () fun s=>gb true (a[a1.toNat]?) [] fun j=>gb true (j[2]?) oF fun k=>gb true (pIw k) 0 fun e=>gb true (inB (b.length) a1) () fun t=>gb true (b[a1.toNat]?) [] fun l=>gb true (inB (a.length) a1) () fun u=>gb true (a[a1.toNat]?) [] fun m=>K (List.set b a1.toNat (List.set l 0 (D.bool true))) (List.set a a1.toNat (List.set (List.set (List.set m 0 (Q4 a1)) 1 (Q4 (if d<a2 then d else a2))) 2 (Q4 (if c<e then e else c)))) else gb true (inB (b.length) a1) () fun v=>gb true (b[a1.toNat]?) [] fun o=>gb true (inB (a.length) a1) () fun x=>gb true (a[a1.toNat]?) [] fun p=>K (List.set b a1.toNat (List.set o 0 (D.bool true))) (List.set a a1.toNat (List.set (List.set (List.set p 0 (Q4 a1)) 1 (Q4 a2)) 2 (Q4 c)))
end Go.Vx
namespace Go.Vx
variable {R:Type}
def Wc (n:Nat) (l o:Int) (e i:LL) (j b:Int) (p q f r c:LL) (k0:Int->Int->Bool->LL->LL->oP R):Nat->Int->Int->LL->LL->oP R
 | 0,_,_,_,_=>none
 | m+1,v,a,x,y=>bif (decide (a<(c.length:Int))) then jn (fun (t k:Int)=>gb true (Q1 c a) [] fun ad=>gb true (ad[0]?) oF fun ae=>gb true (pIw ae) 0 fun ag=>gb true (YM n x y ag t k Tu2) ([],[]) fun d=>bif decide (a>0) then gb true (Q1 c (wJ (a-1))) [] fun z=>gb true (z[0]?) oF fun ah=>gb true (z[1]?) oF fun ai=>gb true (Q1 c a) [] fun aa=>gb true (aa[0]?) oF fun aj=>gb true (aa[1]?) oF fun ak=>gb true (pIw ah) 0 fun al=>gb true (pIw ai) 0 fun am=>gb true (pIw aj) 0 fun an=>gb true (pIw ak) 0 fun ao=>gb true (JI n p q f r al am an ao Tu5) ((.bool false),(.bool false),(.bool false),(.bool false),false) fun u=>gb true (pIw u.2.2.1) 0 fun au=>bif decide (au>=0) then bif decide (a>b) then gb true (pIw u.2.2.1) 0 fun av=>gb true (YM n d.1 d.2 (wJ ((f.length:Int)+av)) t k Tu2) ([],[]) fun ab=>Wc n l o e i j b p q f r c k0 m k (wJ (a+1)) ab.1 ab.2 else gb true (pIw u.2.2.1) 0 fun aw=>gb true (YM n d.1 d.2 (wJ ((f.length:Int)+aw)) t v Tu2) ([],[]) fun ac=>Wc n l o e i j b p q f r c k0 m k (wJ (a+1)) ac.1 ac.2 else Wc n l o e i j b p q f r c k0 m k (wJ (a+1)) d.1 d.2 else Wc n l o e i j b p q f r c k0 m k (wJ (a+1)) d.1 d.2) fun s=>bif (a == 0) then gb true (Q1 i 0) [] fun ax=>gb true (ax[0]?) oF fun ay=>gb true (pIw ay) 0 fun az=>gb true (Jm n az 1000 some) 0 fun ba=>s (wJ (0-l)) (wJ (ba+4)) else bif decide (a<b) then gb true (Q1 e (wJ (a-1))) [] fun bb=>gb true (bb[0]?) oF fun bc=>gb true (pIw bc) 0 fun bd=>gb true (Vv n bd 1000 some) 0 fun be=>gb true (Q1 i a) [] fun bg=>gb true (bg[0]?) oF fun bh=>gb true (pIw bh) 0 fun bi=>gb true (Jm n bi 1000 some) 0 fun bj=>s (wJ (be-16)) (wJ (bj+4)) else bif (a == b) then gb true (Q1 e (wJ (b-1))) [] fun bk=>gb true (bk[0]?) oF fun bl=>gb true (pIw bl) 0 fun bm=>gb true (Vv n bm 1000 some) 0 fun bn=>s (wJ (bn-16)) (wJ (j+o)) else gb true (Q1 e b) [] fun bo=>gb true (bo[0]?) oF fun bp=>gb true (pIw bp) 0 fun bq=>gb true (Vv n bq 1000 some) 0 fun br=>s (wJ (br-16)) (wJ (j+20)) else k0 v a (decide (a<(c.length:Int))) x y
def V7 (n:Nat) (b:Int) (c d:LL) (k0:Int->Bool->LL->oP R):Nat->Int->LL->oP R
 | 0,_,_=>none
 | m+1,a,e=>bif decide (a<b) then gb true (inB (c.length) a) () fun o=>gb true (c[a.toNat]?) [] fun j=>gb true (j[0]?) oF fun k=>gb true (Kl k) false fun l=>bif l then gb true (inB (d.length) a) () fun p=>gb true (d[a.toNat]?) [] fun f=>gb true (f[0]?) oF fun g=>gb true (f[1]?) oF fun h=>gb true (f[2]?) oF fun i=>gb true (Yf ((e.length+[[g,h,i]].length)*24)) () fun q=>V7 n b c d k0 m (wJ (a+1)) (e++[[g,h,i]]) else V7 n b c d k0 m (wJ (a+1)) e else k0 a (decide (a<b)) e
def H7 (n:Nat) (f a b g h:LL) (j:Int) (k:List UInt8) (l m o p q r:Int) (K:LL->Int->Int->oP R):oP R:= gb true (S1 n f a b g h j k l m o p some) 0 fun d=>bif (d != 0) then K [] 0 d else gb true (Hi n q 0 65536 some) false fun e=>gb (!(!e)) (Hi n r 0 65536 some) false fun i=>bif (bif !e then true else (!i)) then K [] 0 4 else gb true (P6 n f a b g h j k l m o p Tu4) ([],[],0,0) fun c=>gb true (bif decide (0<=(wJ ((b.length:Int)+(a.length:Int))))&&decide ((wJ ((b.length:Int)+(a.length:Int)))<=(wJ ((b.length:Int)+(a.length:Int)))) then some () else none) () fun x=>gb true (Yf (Int.toNat (wJ ((b.length:Int)+(a.length:Int)))*1)) () fun y=>gb true (bif decide (0<=(wJ ((b.length:Int)+(a.length:Int))))&&decide ((wJ ((b.length:Int)+(a.length:Int)))<=(wJ ((b.length:Int)+(a.length:Int)))) then some () else none) () fun z=>gb true (Yf (Int.toNat (wJ ((b.length:Int)+(a.length:Int)))*24)) () fun u8=>Wc n q r c.1 c.2.1 c.2.2.1 (wJ ((c.1.length:Int)-1)) f a b g h (fun ab ac ad t u=>V7 n (wJ ((b.length:Int)+(a.length:Int))) t u (fun ae ag v=>K v c.2.2.1 0) n 0 []) n 0 0 (List.replicate (Int.toNat (wJ ((b.length:Int)+(a.length:Int)))) [D.bool false]) (List.replicate (Int.toNat (wJ ((b.length:Int)+(a.length:Int)))) [Q4 0,Q4 0,Q4 0])
end Go.Vx
namespace Go.Vx
def cd (a b:Int):Int:=if 0<a % b then a / b+1 else a / b
theorem D8 {a b:Int} (h0:0<=a) (h1:1<=b):a<=cd a b*b/\0<=cd a b/\cd a b<=a / b+1:=by
 have h2:=Qjl a (show b≠0 by omega);have c:=Qjj a (show 0<b by omega);have d:=Int.mul_ediv_add_emod a b;have e:0<=a / b:=Int.ediv_nonneg h0 (by omega);have f:b*(a / b)=a / b*b:=Int.mul_comm ..;have g:(a / b+1)*b=a / b*b+b:=by rw [Int.add_mul,Int.one_mul]
 unfold cd;split <;> refine ⟨?_,?_,?_⟩ <;> omega
theorem Qe2 {a b:Int} (h0:0<=a) (h1:1<=b) (ha:a<=1000000000):nz b=some ()/\(Int.tmod a b=a % b)/\wJ (Int.tdiv a b)=a / b/\wJ (a / b+1)=a / b+1:=by
 have c:0<=a / b:=Int.ediv_nonneg h0 (by omega);have d:a / b<=a:=Int.ediv_le_self _ h0;exact ⟨EE (by omega),Qjs h0,by rw [Int.tdiv_eq_ediv_of_nonneg h0,Q7 (by omega) (by omega)],Q7 (by omega) (by omega)⟩
section
variable {n:Nat} {a b:Int} (h0:0<=a) (h1:1<=b) (ha:a<=1000000000)
include h0 h1 ha
theorem Qbi:Je n a b Tu2=some (cd a b,0):=by
 obtain ⟨e1,e2,e,f⟩:=Qe2 h0 h1 ha;unfold Je cd;rw [Q9 (by simpa using h1),e1,Q0,Q0,e2,e,f];by_cases h:0<a % b
 ·rw [QX (by simpa using h),if_pos h]
 ·rw [Q9 (by simpa using h),Qja h]
theorem QbI:Jm n a b (some:Int->Option Int)=some (cd a b):=by
 obtain ⟨e1,e2,c,d⟩:=Qe2 h0 h1 ha;unfold Jm cd;rw [e1,Q0,Q0,e2,c,d];by_cases h:0<a % b
 ·rw [QX (by simpa using h),if_pos h]
 ·rw [Q9 (by simpa using h),Qja h]
end
theorem upA {n:Nat} {a:Int} (h0:0<=a) (ha:a<=1000000000):JH n a (some:Int->Option Int)=some (cd a 1000):=by
 unfold JH;rw [Qbi h0 (by decide) ha,Q0]
theorem Qba {a:Int} (h0:0<=a) (ha:a<=1000000000):decide (Int.tmod a 1000<0)=false/\wJ (Int.tdiv a 1000)=a / 1000:=by
 rw [Qjs h0,Int.tdiv_eq_ediv_of_nonneg h0];exact ⟨by simp;omega,Q7 (by omega) (by omega)⟩
theorem QfI {n:Nat} {a:Int} (h0:0<=a) (ha:a<=1000000000):Vf n a (some:Int->Option Int)=some (a / 1000):=by
 obtain ⟨e1,e2⟩:=Qba h0 ha;unfold Vf KC;rw [Q9 (by decide),EE (by decide),Q0,Q0,e1,Qj3,e2,Q0]
theorem QeQ {n:Nat} {a:Int} (h0:0<=a) (ha:a<=1000000000):Vv n a 1000 (some:Int->Option Int)=some (a / 1000):=by
 obtain ⟨e1,e2⟩:=Qba h0 ha;unfold Vv;rw [EE (by decide),Q0,Q0,e1,Qj3,e2]
def sq (x:Int):Int:=(PL 400 x (some:Int->Option Int)).getD 0
theorem Q53 {x:Int} (h0:0<=x) (hx:x<=1000000000):Qad x (sq x)/\PL 400 x (some:Int->Option Int)=some (sq x)/\Nv 400 x (some:Int->Option Int)=some (sq x):=by
 obtain ⟨r,h1,h2⟩:=Qgl h0 hx;have e:sq x=r:=by unfold sq;rw [h2];rfl
 rw [e];exact ⟨h1,h2,QfL h0 hx h1⟩
namespace Run
variable (X:Run)
def S (j:Nat):Int:=sq (X.K (X.N-j))
def T:Nat->Int
 |0=>0
 |b+1=>T b+cd 20000000 (X.S b+X.S (b+1))
variable {X} (h:X.OK)
include h
theorem Qdk {j:Nat} (hj:j<=X.N):0<=X.S j/\X.S j<=25000/\(1<=j->j<X.N->1000<=X.S j):=by
 have h1:=Q3Y h (X.N-j) (by omega);obtain ⟨⟨c,e,f⟩,_,_⟩:=Q53 (x:=X.K (X.N-j)) (by omega) (by omega);refine ⟨c,Q84 c (by decide) e (by omega),fun a b=>?_⟩;have h2:=h1.2.2 (by omega) (by omega);by_cases d:1000<=X.S j
 ·exact d
 ·have:=Q49 (show 0<=sq (X.K (X.N-j))+1 by omega) (show sq (X.K (X.N-j))+1<=1000 by unfold S at d;omega);omega
theorem Q1r {b:Nat} (hb:b<X.N):1000<=X.S b+X.S (b+1)/\X.S b+X.S (b+1)<=50000/\0<=cd 20000000 (X.S b+X.S (b+1))/\cd 20000000 (X.S b+X.S (b+1))<=20001:=by
 have h2:=h.h2;have a:=Qdk h (j:=b) (by omega);have c:=Qdk h (j:=b+1) (by omega);have hs:1000<=X.S b+X.S (b+1):=by
  by_cases f:b=0
  ·have:=c.2.2 (by omega) (by omega);omega
  ·have:=a.2.2 (by omega) (by omega);omega
 have d:=D8 (show (0:Int)<=20000000 by decide) (show 1<=X.S b+X.S (b+1) by omega);have e:20000000 / (X.S b+X.S (b+1))<=20000:=Int.ediv_le_of_le_mul (by omega) (by omega);omega
theorem T_rng:∀ b:Nat,b<=X.N->0<=X.T b/\X.T b<=20001*b
 |0,_=>by rw [T];omega
 |b+1,hb=>by
  have:=T_rng b (by omega);have:=Q1r h (b:=b) (by omega);rw [T];omega
theorem T_mono {a:Nat}:∀ {b:Nat},a<=b->b<=X.N->X.T a<=X.T b
 |0,h1,_=>by rw [show a=0 by omega];omega
 |b+1,h1,h2=>by
  by_cases e:a=b+1
  ·subst e;omega
  ·have:=T_mono (a:=a) (b:=b) (by omega) (by omega);have:=Q1r h (b:=b) (by omega);rw [T];omega
def TT (X:Run):LL:=arr X.T (X.N+1)
theorem QhH:Ga 400 X.C (X.st:Int) X.nm (X.t:Int) X.sp X.ac X.br Tu2=some (arr X.S (X.N+1),0):=by
 have hN:=h.hN;have h2:=h.h2;have hl:=h.hC.len;have ak:J6 400 X.C (X.st:Int) X.nm (X.t:Int) X.sp X.ac X.br (some:Int->Option Int)=some 0:=by
  unfold J6;rw [B7 h.hk,Q0,Q9 (by decide),Q9 (by simp;omega)];refine Qu (r:=fun m i=>YH 400 X.C ((X.C.length:Nat):Int) _ _ m i) (N:=X.C.length) (fun m k hk=>?_) (fun m=>?_) X.C.length 400 0 (by omega) (by omega)
  ·have b0:=h.hC.b0 k hk;have b1:=h.hC.b1 k hk;have g0:=h.hC.g0 k hk;have g1:=h.hC.g1 k hk;rw [YH,Qc hk,Qe,h.hC.row k hk];simp -implicitDefEqProofs only [Q0,Qj2,Qj4,Q3,Xx,QG,cond_true,Qj3,Qjc,Qje,show decide ((cl X.C k).1<1000)=false by simp;omega,show decide ((cl X.C k).1>100000)=false by simp;omega,show decide ((cl X.C k).2 < -40)=false by simp;omega,show decide ((cl X.C k).2>40)=false by simp;omega,Qq (show k<=1000 by omega)]
  ·rw [YH,Qi,Qj3,Q7 (by omega) (by omega),show decide ((X.st:Int)<0)=false by simp,show decide ((X.st:Int)>((X.C.length:Nat):Int)-2)=false by simp;omega];rfl
 unfold Ga;rw [ak,Q0,Q9 (by rfl),sqA h,Q0];have hW:X.W.length=X.N+1:=YO;rw [hW];have:=Qu (r:=fun m i=>ZB 400 ((X.N+1:Nat):Int) (fun _ _ d=>some (d,(0:Int))) m i (arr (fun j=>if j<i.toNat then X.S j else X.K (X.N-j)) (X.N+1))) (N:=X.N+1) (e:=some (arr X.S (X.N+1),0)) (fun m k hk=>?_) (fun m=>?_) (X.N+1) 400 0 (by omega) (by omega)
 ·rw [show arr (fun j=>if j<(((0:Nat):Int)).toNat then X.S j else X.K (X.N-j)) (X.N+1)=X.W from XM fun j hj=>Qja (by simp)] at this;exact this
 ·simp only [Int.toNat_natCast];have hK:=Q3Y h (X.N-k) (by omega);rw [ZB,Qc hk,cond_true,YO,Q7m hk,Qja (Nat.lt_irrefl k),(Q53 (by omega) (by omega)).2.1,Q0,Q9E hk,Qq (by omega)];refine congrArg _ (XM fun j hj=>?_);by_cases aj:j=k
  ·subst aj;rw [if_pos rfl,if_pos (by omega)];rfl
  ·rw [Qja aj];by_cases a:j<k
   ·rw [if_pos a,if_pos (by omega)]
   ·rw [Qja a,Qja (by omega)]
 ·simp only [Int.toNat_natCast];rw [ZB,Qi,Qj3];exact congrArg (fun l=>some (l,(0:Int))) (XM fun j hj=>if_pos hj)
theorem timA:Jo 400 X.C (X.st:Int) X.nm (X.t:Int) X.sp X.ac X.br Tu2=some (X.TT,0):=by
 have hN:=h.hN;have hl:=h.hC.len;unfold Jo;rw [QhH h,Q0,Q9 (by rfl),YO,show (bif decide ((0:Int)<=((X.N+1:Nat):Int))&&decide (((X.N+1:Nat):Int)<=((X.N+1:Nat):Int)) then some () else none)=some () by rw [QX (by simp;omega)],Q0,Int.toNat_natCast,XF (by omega),Q0,Cb];have:=Qu (r:=fun m i=>Wu 400 (arr X.S (X.N+1)) (fun _ _ g=>some (g,(0:Int))) m ((i.toNat+1:Nat):Int) (arr (fun j=>if j<=i.toNat then X.T j else 0) (X.N+1))) (N:=X.N) (e:=some (X.TT,0)) (fun m k hk=>?_) (fun m=>?_) X.N 400 0 (by omega) (by omega)
 ·rw [show arr (fun j=>if j<=(((0:Nat):Int)).toNat then X.T j else 0) (X.N+1)=arr (fun _=>0) (X.N+1) from XM fun j hj=>by
   split
   ·rename_i h0;have h0:j=0:=by simpa using h0
    rw [h0,T]
   ·rfl] at this
  exact this
 ·simp only [Int.toNat_natCast];have hi:=Q1r h hk;have hT:=T_rng h k (by omega);rw [Wu,YO,Qc (show k+1<X.N+1 by omega),cond_true,Jq (show k+1<=1000 by omega) (by omega),show k+1-1=k by omega,Qe,Qe,JW (show k<X.N+1 by omega),JW (show k+1<X.N+1 by omega)];simp -implicitDefEqProofs only [Q0,Qj2,Q3,wI (a:=X.S k+X.S (k+1)) rfl (show -1000000<=X.S k+X.S (k+1) by omega) (show X.S k+X.S (k+1)<=1000000000 by omega),Qbi (n:=400) (show (0:Int)<=20000000 by decide) (show 1<=X.S k+X.S (k+1) by omega) (by decide)];rw [YO,Q7m (show k<X.N+1 by omega),if_pos (Qjf k),Q9E (show k+1<X.N+1 by omega),Qq (by omega),wI (a:=X.T k+cd 20000000 (X.S k+X.S (k+1))) (b:=X.T (k+1)) rfl (by rw [T];omega) (by rw [T];omega)];refine congrArg _ (XM fun j hj=>?_);by_cases aj:j=k+1
  ·subst aj;rw [if_pos rfl,if_pos (by omega)]
  ·rw [Qja aj];by_cases c:j<=k
   ·rw [if_pos c,if_pos (by omega)]
   ·rw [Qja c,Qja (by omega)]
 ·simp only [Int.toNat_natCast];rw [Wu,YO,Qi,Qj3];exact congrArg (fun l=>some (l,(0:Int))) (XM fun j hj=>if_pos (by omega))
end Run
end Go.Vx
namespace Go.Vx
namespace Run
variable {X:Run} (h:X.OK)
include h
theorem Qhs:C6 400 X.C (X.st:Int) X.nm (X.t:Int) X.sp X.ac X.br (some:Int->Option Int)=some 0:=by
 have hN:=h.hN;have h2:=h.h2;have hl:=h.hC.len;obtain ⟨t1,t2,s1,s2,a1,a2,b1,b2⟩:=h.hk;have aj:XW 400 X.nm (X.t:Int) X.sp X.ac X.br (some:Bool->Option Bool)=some true:=by
  unfold XW;simp -implicitDefEqProofs only [Q0,Qj2,Qj4,Q3,Xx,QG,cond_true,Qj3,Qjc,Qje,Q3M t1 (show (X.t:Int)<=40 by omega),Q3M (show 1000<=X.sp by omega) (show X.sp<=100000 by omega),Q3M (show 100<=X.ac by omega) (show X.ac<=2000 by omega),Q3M (show 100<=X.br by omega) (show X.br<=2000 by omega)]
 unfold C6;rw [aj,Q0,Q9 (by decide),Q9 (by simp;omega)];refine Qu (r:=fun m i=>K6 400 X.C _ _ m i) (N:=X.C.length) (fun m k hk=>?_) (fun m=>?_) X.C.length 400 0 (by omega) (by omega)
 ·have b0:=h.hC.b0 k hk;have b1:=h.hC.b1 k hk;have g0:=h.hC.g0 k hk;have g1:=h.hC.g1 k hk;rw [K6,Qc hk,Qe,h.hC.row k hk];simp -implicitDefEqProofs only [Q0,Qj2,Qj4,Q3,Xx,QG,cond_true,Qj3,Qjc,Qje,Q3M (show 1000<=(cl X.C k).1 by omega) (show (cl X.C k).1<=100000 by omega),Q3M (show -40<=(cl X.C k).2 by omega) (show (cl X.C k).2<=40 by omega),Qq (show k<=1000 by omega)]
 ·rw [K6,Qi,Qj3,Q7 (by omega) (by omega),show decide ((X.st:Int)<0)=false by simp,show decide ((X.st:Int)>((X.C.length:Nat):Int)-2)=false by simp;omega];rfl
theorem QhL:SF 400 X.C (X.st:Int) X.nm (X.t:Int) X.sp X.ac X.br Tu2=some (arr X.S (X.N+1),0):=by
 have hN:=h.hN;have h2:=h.h2;have hl:=h.hC.len;have t2:=h.hk.t2;have hw:wJ (((X.C.length:Nat):Int)-(X.st:Int))=((X.N:Nat):Int):=by rw [Q7 (by omega) (by omega)];omega
 unfold SF;rw [Qhs h,Q0,Q9 (by rfl),hw,Qq (by omega),show (bif decide ((0:Int)<=((X.N+1:Nat):Int))&&decide (((X.N+1:Nat):Int)<=((X.N+1:Nat):Int)) then some () else none)=some () by rw [QX (by simp;omega)],Q0,Int.toNat_natCast,XF (by omega),Q0,Cb];have e1:∀ k0:Int->Bool->LL->Option (LL × Int),UA 400 X.C (X.st:Int) ((X.N:Nat):Int) X.nm (X.t:Int) X.sp X.ac X.br k0 400 (1:Int) (arr (fun _=>0) (X.N+1))=k0 ((X.N:Nat):Int) false (arr (fun j=>if 1<=j/\j<=X.N-1 then X.V j else 0) (X.N+1)):=by
  intro k0;have:=Qu (r:=fun m i=>UA 400 X.C (X.st:Int) ((X.N:Nat):Int) X.nm (X.t:Int) X.sp X.ac X.br k0 m ((i.toNat+1:Nat):Int) (arr (fun j=>if 1<=j/\j<=i.toNat then X.V j else 0) (X.N+1))) (N:=X.N-1) (e:=k0 ((X.N:Nat):Int) false (arr (fun j=>if 1<=j/\j<=X.N-1 then X.V j else 0) (X.N+1))) (fun m i hi=>?_) (fun m=>?_) (X.N-1) 400 0 (by omega) (by omega)
  ·rw [show arr (fun j=>if 1<=j/\j<=(((0:Nat):Int)).toNat then X.V j else 0) (X.N+1)=arr (fun _=>0) (X.N+1) from XM fun j hj=>Qja (by simp;omega)] at this;exact this
  ·simp only [Int.toNat_natCast];have ax:=Q9p h (b:=i+1) (by omega);have hV:=Qcj h (b:=i+1) (by omega);rw [UA,Qc (show i+1<X.N by omega),cond_true,wI (show (X.st:Int)+((i+1:Nat):Int)=((X.st+(i+1):Nat):Int) by omega) (by omega) (by omega),wI (show ((X.st+(i+1):Nat):Int)-1=((X.st+i:Nat):Int) by omega) (by omega) (by omega),Qh9 h.hC (by omega) (by omega),Q0,Qh9 h.hC (by omega) (by omega),Q0,YO,Q9E (by omega),Qq (by omega)];refine congrArg _ (XM fun j hj=>?_);have e1:(if Q6J X.C X.sp (X.st+(i+1)) X.t<Q6J X.C X.sp (X.st+i) X.t then Q6J X.C X.sp (X.st+(i+1)) X.t else Q6J X.C X.sp (X.st+i) X.t)=X.lo (i+1):=rfl;by_cases aj:j=i+1
   ·subst aj;rw [if_pos rfl,e1,wI (a:=X.lo (i+1)*X.lo (i+1)) (b:=X.V (i+1)) rfl (by omega) (by omega),if_pos (by omega)]
   ·rw [Qja aj];by_cases d:1<=j/\j<=i
    ·rw [if_pos d,if_pos (by omega)]
    ·rw [Qja d,Qja (by omega)]
  ·simp only [Int.toNat_natCast];rw [show X.N-1+1=X.N by omega,UA,Qi,Qj3]
 rw [e1];have e2:∀ k0:Int->Bool->LL->Option (LL × Int),UG 400 X.C (X.st:Int) ((X.N:Nat):Int) X.nm (X.t:Int) X.sp X.ac X.br k0 400 (0:Int) (arr (fun j=>if 1<=j/\j<=X.N-1 then X.V j else 0) (X.N+1))=k0 ((X.N:Nat):Int) false (arr (fun j=>if j<=X.N-1 then X.F j else 0) (X.N+1)):=by
  intro k0;have:=Qu (r:=fun m i=>UG 400 X.C (X.st:Int) ((X.N:Nat):Int) X.nm (X.t:Int) X.sp X.ac X.br k0 m i (arr (fun j=>if j<=X.N-1 then (if j<=i.toNat then X.F j else X.V j) else 0) (X.N+1))) (N:=X.N) (e:=k0 ((X.N:Nat):Int) false (arr (fun j=>if j<=X.N-1 then X.F j else 0) (X.N+1))) (fun m i hi=>?_) (fun m=>?_) X.N 400 0 (by omega) (by omega)
  ·rw [show arr (fun j=>if j<=X.N-1 then (if j<=(((0:Nat):Int)).toNat then X.F j else X.V j) else 0) (X.N+1)=arr (fun j=>if 1<=j/\j<=X.N-1 then X.V j else 0) (X.N+1) from XM fun j hj=>by
    by_cases q:j=0
    ·subst q;rw [if_pos (by omega),if_pos (by simp),Qja (by omega),F]
    ·by_cases c:j<=X.N-1
     ·rw [if_pos c,Qja (by simp;omega),if_pos (by omega)]
     ·rw [Qja c,Qja (by omega)]] at this
   exact this
  ·simp only [Int.toNat_natCast];have f:=h.hC.g0 (X.st+i) (by omega);have g:=h.hC.g1 (X.st+i) (by omega);have hr:=row h (b:=i) (by omega);have hF:=Qa4 h i (by omega);have hG:=QbG h (b:=i) (by omega);have ha:=Q4l h.hk.a1 h.hk.a2 f g;rw [UG,Qc hi,cond_true,Qq (by omega),YO,Q7m (show i+1<X.N+1 by omega),Q7m (show i<X.N+1 by omega),wI (show (X.st:Int)+(i:Int)=((X.st+i:Nat):Int) by omega) (by omega) (by omega),Qe,hr];simp -implicitDefEqProofs only [Q0,Qj2,Qj4,Q3,Xx,QG,cond_true,Qj3,Qjc,Qje,Qdf h.hk.a1 h.hk.a2 f g];rw [Q9E (show i+1<X.N+1 by omega),if_pos (show i<=X.N-1 by omega),if_pos (Qjf i),Qja (show ¬ i+1<=i by omega),wI (a:=20000*acc X.ac (cl X.C (X.st+i)).2) (b:=X.G i) rfl (by omega) (by omega),wI (a:=X.F i+X.G i) (b:=X.F i+X.G i) rfl (by omega) (by omega)];refine congrArg _ (XM fun j hj=>?_);by_cases aj:j=i+1
   ·subst aj;rw [if_pos rfl];by_cases n:i+1<=X.N-1
    ·rw [if_pos n,if_pos n,if_pos (Qjf (i+1)),F]
    ·rw [Qja n,Qja (show ¬ X.F i+X.G i<0 by omega),Qja n]
   ·rw [Qja aj];by_cases c:j<=X.N-1
    ·rw [if_pos c,if_pos c];by_cases d:j<=i
     ·rw [if_pos d,if_pos (by omega)]
     ·rw [Qja d,Qja (by omega)]
    ·rw [Qja c,Qja c]
  ·simp only [Int.toNat_natCast];rw [UG,Qi,Qj3];refine congrArg _ (XM fun j hj=>?_);by_cases c:j<=X.N-1
   ·rw [if_pos c,if_pos c,if_pos (by omega)]
   ·rw [Qja c,Qja c]
 rw [e2];have s:∀ k0:Int->Bool->LL->Option (LL × Int),UK 400 X.C (X.st:Int) X.nm (X.t:Int) X.sp X.ac X.br k0 400 ((X.N:Nat):Int) (arr (fun j=>if j<=X.N-1 then X.F j else 0) (X.N+1))=k0 0 false X.W:=by
  intro k0;have:=Qu (r:=fun m i=>UK 400 X.C (X.st:Int) X.nm (X.t:Int) X.sp X.ac X.br k0 m ((X.N-i.toNat:Nat):Int) (arr (fun j=>if X.N-j<=i.toNat then X.K (X.N-j) else X.F j) (X.N+1))) (N:=X.N) (e:=k0 0 false X.W) (fun m i hi=>?_) (fun m=>?_) X.N 400 0 (by omega) (by omega)
  ·rw [show arr (fun j=>if X.N-j<=(((0:Nat):Int)).toNat then X.K (X.N-j) else X.F j) (X.N+1)=arr (fun j=>if j<=X.N-1 then X.F j else 0) (X.N+1) from XM fun j hj=>by
    by_cases aq:j=X.N
    ·subst aq;rw [if_pos (by simp),Qja (by omega),Nat.sub_self,K]
    ·rw [Qja (by simp;omega),if_pos (by omega)]] at this
   exact this
  ·simp only [Int.toNat_natCast];obtain ⟨b,hb⟩:∃ b,b+1=X.N-i:=⟨X.N-i-1,by omega⟩;have f:=h.hC.g0 (X.st+b) (by omega);have g:=h.hC.g1 (X.st+b) (by omega);have hr:=row h (b:=b) (by omega);have hK:=Q3Y h i (by omega);have hL:=QaH h (b:=b) (by omega);have aw:=Q4s h.hk.b1 h.hk.b2 f g;rw [<- hb,UK,QX (by simp),Jq (show b+1<=1000 by omega) (by omega),Qjd,YO,Q7m (show b<X.N+1 by omega),Q7m (show b+1<X.N+1 by omega),wI (show (X.st:Int)+((b+1:Nat):Int)=((X.st+b+1:Nat):Int) by omega) (by omega) (by omega),Jq (show X.st+b+1<=1000 by omega) (by omega),Qjd,Qe,hr];simp -implicitDefEqProofs only [Q0,Qj2,Qj4,Q3,Xx,QG,cond_true,Qj3,Qjc,Qje,QeH h.hk.b1 h.hk.b2 f g];rw [Q9E (show b<X.N+1 by omega),show X.N-(i+1)=b by omega,Qja (show ¬ X.N-b<=i by omega),if_pos (show X.N-(b+1)<=i by omega),show X.N-(b+1)=i by omega,wI (a:=20000*brk X.br (cl X.C (X.st+b)).2) (b:=X.L b) rfl (by omega) (by omega),wI (a:=X.K i+X.L b) (b:=X.K i+X.L b) rfl (by omega) (by omega)];refine congrArg _ (XM fun j hj=>?_);by_cases ak:j=b
   ·subst ak;rw [if_pos rfl,if_pos (show X.N-j<=i+1 by omega),show X.N-j=i+1 by omega,K,show X.N-(i+1)=j by omega]
   ·rw [Qja ak];by_cases d:X.N-j<=i
    ·rw [if_pos d,if_pos (by omega)]
    ·rw [Qja d,Qja (by omega)]
  ·simp only [Int.toNat_natCast];rw [Nat.sub_self,UK,Q9 (by decide)];refine congrArg _ (XM fun j hj=>if_pos (by omega))
 rw [s];have:=Qu (r:=fun m i=>Vr 400 ((X.N:Nat):Int) (fun _ _ t=>some (t,(0:Int))) m i (arr (fun j=>if j<i.toNat then X.S j else X.K (X.N-j)) (X.N+1))) (N:=X.N+1) (e:=some (arr X.S (X.N+1),0)) (fun m k hk=>?_) (fun m=>?_) (X.N+1) 400 0 (by omega) (by omega)
 ·rw [show arr (fun j=>if j<(((0:Nat):Int)).toNat then X.S j else X.K (X.N-j)) (X.N+1)=X.W from XM fun j hj=>Qja (by simp)] at this;exact this
 ·simp only [Int.toNat_natCast];have hK:=Q3Y h (X.N-k) (by omega);rw [Vr,QX (by simp;omega),YO,Q7m hk,Qja (Nat.lt_irrefl k),(Q53 (by omega) (by omega)).2.2,Q0,Q9E hk,Qq (by omega)];refine congrArg _ (XM fun j hj=>?_);by_cases an:j=k
  ·subst an;rw [if_pos rfl,if_pos (by omega)];rfl
  ·rw [Qja an];by_cases d:j<k
   ·rw [if_pos d,if_pos (by omega)]
   ·rw [Qja d,Qja (by omega)]
 ·simp only [Int.toNat_natCast];rw [Vr,Q9 (by simp;omega)];exact congrArg (fun l=>some (l,(0:Int))) (XM fun j hj=>if_pos hj)
theorem timB:Ps 400 X.C (X.st:Int) X.nm (X.t:Int) X.sp X.ac X.br Tu2=some (X.TT,0):=by
 have hN:=h.hN;have hl:=h.hC.len;unfold Ps;rw [QhL h,Q0,Q9 (by rfl),YO,show (bif decide ((0:Int)<=((X.N+1:Nat):Int))&&decide (((X.N+1:Nat):Int)<=((X.N+1:Nat):Int)) then some () else none)=some () by rw [QX (by simp;omega)],Q0,Int.toNat_natCast,XF (by omega),Q0,Cb];have:=Qu (r:=fun m i=>J2 400 (arr X.S (X.N+1)) (fun _ _ o=>some (o,(0:Int))) m ((i.toNat+1:Nat):Int) (arr (fun j=>if j<=i.toNat then X.T j else 0) (X.N+1))) (N:=X.N) (e:=some (X.TT,0)) (fun m k hk=>?_) (fun m=>?_) X.N 400 0 (by omega) (by omega)
 ·rw [show arr (fun j=>if j<=(((0:Nat):Int)).toNat then X.T j else 0) (X.N+1)=arr (fun _=>0) (X.N+1) from XM fun j hj=>by
   split
   ·rename_i c;have c:j=0:=by simpa using c
    rw [c,T]
   ·rfl] at this
  exact this
 ·simp only [Int.toNat_natCast];have hi:=Q1r h hk;have hT:=T_rng h k (by omega);rw [J2,YO,Qc (show k+1<X.N+1 by omega),cond_true,Jq (show k+1<=1000 by omega) (by omega),show k+1-1=k by omega,YO,Q7m (show k<X.N+1 by omega),if_pos (Qjf k),Qe,Qe,JW (show k<X.N+1 by omega),JW (show k+1<X.N+1 by omega)];simp -implicitDefEqProofs only [Q0,Qj2,Q3,wI (a:=X.S k+X.S (k+1)) rfl (show -1000000<=X.S k+X.S (k+1) by omega) (show X.S k+X.S (k+1)<=1000000000 by omega),QbI (n:=400) (show (0:Int)<=20000000 by decide) (show 1<=X.S k+X.S (k+1) by omega) (by decide)];rw [Q9E (show k+1<X.N+1 by omega),Qq (by omega),wI (a:=X.T k+cd 20000000 (X.S k+X.S (k+1))) (b:=X.T (k+1)) rfl (by rw [T];omega) (by rw [T];omega)];refine congrArg _ (XM fun j hj=>?_);by_cases aj:j=k+1
  ·subst aj;rw [if_pos rfl,if_pos (by omega)]
  ·rw [Qja aj];by_cases d:j<=k
   ·rw [if_pos d,if_pos (by omega)]
   ·rw [Qja d,Qja (by omega)]
 ·simp only [Int.toNat_natCast];rw [J2,YO,Qi,Qj3];exact congrArg (fun l=>some (l,(0:Int))) (XM fun j hj=>if_pos (by omega))
end Run
end Go.Vx
namespace Go.Vx
def sl (Se s:LL) (j:Nat):Nat:=(PO Se (s.getD j [])).length
def pos (Se s:LL):Nat->Nat
 |0=>0
 |j+1=>pos Se s j+sl Se s (j+1)
theorem SX {f:Nat->Int} {n:Nat}:arr f n++[[Q4 (f n)]]=arr f (n+1):=by simp [arr,List.range_succ]
section
variable {Se s:LL} (hs:∀ r∈s,DB Se r)
include hs
theorem Ft {j:Nat} (hj:j<s.length):∃ (x d:Int) (nm:List UInt8) (b c st:Int),s[j]? = some [Q4 x,Q4 d]/\Q1 Se x=some [D.str nm,Q4 (sl Se s j),Q4 b,Q4 c,Q4 st]/\2<=sl Se s j/\sl Se s j<=12/\(d=0\/d=1):=by
 obtain ⟨x,d,nm,a,b,c,st,e,f,h2,g⟩:=hs _ (List.getElem_mem hj);have a0:=h2.a0;have a1:=h2.a1;have e2:s[j]? = some [Q4 x,Q4 d]:=by rw [Qj9 hj,e]
 have h:sl Se s j=a.toNat:=by
  unfold sl;rw [Qj8,e2];show (PO Se [Q4 x,Q4 d]).length=_;rw [H3 f,List.length_replicate]
 refine ⟨x,d,nm,b,c,st,e2,?_,by omega,by omega,g⟩;rw [f,h,show ((a.toNat:Nat):Int)=a by omega]
omit hs in
theorem Q2v:∀ {j:Nat},j<s.length->(Yi Se (s.take (j+1))).length=sl Se s 0+pos Se s j
 |0,hj=>by
  rw [NN (Qj9 hj)];simp only [List.take_zero,Yi,List.flatMap_nil,List.nil_append,pos,sl,Qj8,Qj9 hj,Qjo];omega
 |j+1,hj=>by
  have:=Q2v (j:=j) (by omega);rw [NN (Qj9 hj),Qjr,this,pos];simp only [sl,Qj8,Qj9 hj,Qjo];omega
omit hs in
theorem Q89 {i j:Nat} (a:i<=j):pos Se s i<=pos Se s j:=by
 induction j with
 |zero=>rw [show i=0 by omega];omega
 |succ j ih=>
  by_cases e:i=j+1
  ·subst e;omega
  ·have:=ih (by omega);rw [pos];omega
theorem Q5q {i j:Nat} (a:i<j) (h2:j<s.length):pos Se s i+2<=pos Se s j:=by
 obtain ⟨_,_,_,_,_,_,_,_,b,_⟩:=Ft hs (j:=i+1) (by omega);have:=Q89 (Se:=Se) (s:=s) (i:=i+1) (j:=j) (by omega);rw [pos] at this;omega
end
def YS (Se s:LL) (nm:List UInt8) (tl sp ac br:Int):Run:=⟨Yi Se s,nm,sp,ac,br,tl.toNat,sl Se s 0,pos Se s (s.length-1)⟩
section
variable {St Pt Se Li s:LL} (h:RtF St Pt Se Li s) {nm:List UInt8} {tl sp ac br:Int} (hk:StkN tl sp ac br)
include h
theorem CV:HV Se s=(sl Se s 0:Int):=by
 have l2:=h.l2;obtain ⟨x,d,_,b,c,st,e,a,_⟩:=Ft h.st (j:=0) (by omega);cases s with
 |nil=>cases e
 |cons r t=>
  injection e with e
  subst e;simp only [HV,a]
include hk
theorem NQ:(YS Se s nm tl sp ac br).OK where
 hC:=Q7E h.st h.l24
 hk:=by
  have:=hk.t1;show StkN ((tl.toNat:Nat):Int) sp ac br;rw [show ((tl.toNat:Nat):Int)=tl by omega];exact hk
 hN:=by
  have l2:=h.l2;have:=Q2v (Se:=Se) (s:=s) (j:=s.length-1) (by omega);rw [show s.length-1+1=s.length by omega,Qjx] at this;exact this
 h2:=by
  have l2:=h.l2;have:=Q5q h.st (i:=0) (j:=s.length-1) (by omega) (by omega);show 2<=pos Se s (s.length-1);omega
end
end Go.Vx
namespace Go.Vx
section
variable {St Pt Se Li s:LL} (h:RtF St Pt Se Li s) {nm:List UInt8} {tl sp ac br:Int} (hk:StkN tl sp ac br)
def fEN (Se s:LL) (X:Run) (j:Nat):Int:=X.T (pos Se s (j-1))
def fLV (Se s:LL) (X:Run) (j:Nat):Int:=if j<s.length-1 then X.T (pos Se s j+X.t) else X.T X.N
def AE (X:Run):Int:=cd (X.T X.N) 1000
include h hk
theorem tEq:(((YS Se s nm tl sp ac br).t:Nat):Int)=tl:=by
 have _:=h.l2;have:=hk.t1;show ((tl.toNat:Nat):Int)=tl;omega
theorem Qci:Jo 400 (Yi Se s) (sl Se s 0:Int) nm tl sp ac br Tu2=some ((YS Se s nm tl sp ac br).TT,0):=by
 have:=Run.timA (NQ h (nm:=nm) hk);rw [tEq h hk] at this;exact this
theorem QbO:Ps 400 (Yi Se s) (sl Se s 0:Int) nm tl sp ac br Tu2=some ((YS Se s nm tl sp ac br).TT,0):=by
 have:=Run.timB (NQ h (nm:=nm) hk);rw [tEq h hk] at this;exact this
theorem AZ {b:Nat} (hb:b<=(YS Se s nm tl sp ac br).N):0<=(YS Se s nm tl sp ac br).T b/\(YS Se s nm tl sp ac br).T b<=7000000:=by
 have hX:=NQ h (nm:=nm) hk;have a:=Run.T_rng hX b hb;have:=hX.hN;have:=hX.hC.len;omega
theorem ND:0<=AE (YS Se s nm tl sp ac br)/\AE (YS Se s nm tl sp ac br)<=7001:=by
 have a:=AZ h (nm:=nm) hk (Qjf _);have:=D8 a.1 (show (1:Int)<=1000 by decide);unfold AE;omega
theorem QcB {j:Nat} (hj:j<s.length):pos Se s j<=(YS Se s nm tl sp ac br).N/\(j<s.length-1->pos Se s j+(YS Se s nm tl sp ac br).t<=(YS Se s nm tl sp ac br).N):=by
 have a:=Q89 (Se:=Se) (s:=s) (i:=j) (j:=s.length-1) (by omega);have h2:=tEq h (nm:=nm) hk;have:=hk.t2;refine ⟨a,fun b=>?_⟩;have:=Q5q h.st (i:=j) (j:=s.length-1) b (by omega);show pos Se s j+_<=pos Se s (s.length-1);omega
theorem Qdu:KK 400 St Pt Se Li s 0 nm tl sp ac br Tu4=some (arr (fEN Se s (YS Se s nm tl sp ac br)) s.length,arr (fLV Se s (YS Se s nm tl sp ac br)) s.length,AE (YS Se s nm tl sp ac br),0):=by
 have l2:=h.l2;have l24:=h.l24;have ht:=tEq h (nm:=nm) hk;have hX:=NQ h (nm:=nm) hk;have au:=hX.hN;have ar:=hX.hC.len;have ao:=Qci h (nm:=nm) hk;have ak:=fun (j:Nat) (hj:j<s.length)=>QcB h (nm:=nm) hk hj
 have an:=AZ h (nm:=nm) hk (Qjf _);have hN:(YS Se s nm tl sp ac br).N=pos Se s (s.length-1):=rfl;unfold KK;rw [Qhf h.lay rfl h.l2 h.l24 h.rt h.st hk,Q0,Q9 (by rfl),CV h,ao,Q0,AX h.l24,Q0];revert hX au ar ak an hN ht;generalize YS Se s nm tl sp ac br=X;intro ht hX au ar ak an hN;have p:∀ k0:Int->Int->Bool->LL->LL->Option (LL × LL × Int × Int),XP 400 X.TT s s ((s.length:Nat):Int) Se tl k0 400 0 0 [] []=k0 ((pos Se s (s.length-1):Nat):Int) ((s.length:Nat):Int) false (arr (fEN Se s X) s.length) (arr (fLV Se s X) (s.length-1)):=by
  intro k0;refine Qu (r:=fun m i=>XP 400 X.TT s s ((s.length:Nat):Int) Se tl k0 m ((pos Se s (i.toNat-1):Nat):Int) i (arr (fEN Se s X) i.toNat) (arr (fLV Se s X) (min i.toNat (s.length-1)))) (N:=s.length) (fun m i hi=>?_) (fun m=>?_) s.length 400 0 (by omega) (by omega)
  ·simp only [Int.toNat_natCast];obtain ⟨x,d,a3,b,c,st,e,q,a0,a1,hd⟩:=Ft h.st hi;have hp:=ak (i-1) (by omega);have f:=ak i hi;rw [XP,Qc hi,cond_true,Qe,e];have hT:Q1 X.TT ((pos Se s (i-1):Nat):Int)=some [Q4 (fEN Se s X i)]:=by rw [Qe];exact JW (by omega)
   have hr:Yf (((arr (fEN Se s X) i).length+List.length [[D.int .i64 (fEN Se s X i)]])*8)=some ():=XF (by simp only [YO,Qjn,Qjm];omega);simp -implicitDefEqProofs only [Q0,Qj2,Qj4,Q3,hT,hr,SX,wI (show (i:Int)+1=((i+1:Nat):Int) by omega) (by omega) (by omega),wI (show ((s.length:Nat):Int)-1=((s.length-1:Nat):Int) by omega) (by omega) (by omega)];have aw:i<s.length-1->Q1 X.TT ((pos Se s i+X.t:Nat):Int)=some [Q4 (fLV Se s X i)]:=fun aj=>by
    have:=f.2 aj;rw [Qe];show (arr X.T (X.N+1))[pos Se s i+X.t]? = _;rw [JW (by omega)];unfold fLV;rw [if_pos aj]
   have a:∀ k,k<=30->Yf (((arr (fLV Se s X) k).length+List.length [[D.int .i64 (fLV Se s X k)]])*8)=some ():=fun k hk=>XF (by simp only [YO,Qjn,Qjm];omega)
   by_cases t:i=0
   ·subst t;have aq:0<s.length-1:=by omega
    have:=aw aq;rw [show decide (((0:Nat):Int)>0)=false from rfl,Qj3,Qc aq,cond_true,wI (show ((pos Se s (0-1):Nat):Int)+tl=((pos Se s 0+X.t:Nat):Int) by rw [<- ht,show 0-1=0 from rfl];omega) (by omega) (by omega),this,Nat.min_eq_left (by omega),Nat.min_eq_left (by omega)];simp -implicitDefEqProofs only [Q0,Qj2,Q3,a 0 (by omega),SX]
   ·have a2:pos Se s i=pos Se s (i-1)+sl Se s i:=by
     obtain ⟨k,rfl⟩:∃ k,i=k+1:=⟨i-1,by omega⟩;rfl
    rw [show decide ((i:Int)>0)=true by simp;omega,cond_true,q];simp -implicitDefEqProofs only [Q0,Qj2,Qj4,Q3,wI (show ((pos Se s (i-1):Nat):Int)+((sl Se s i:Nat):Int)=((pos Se s i:Nat):Int) by omega) (by omega) (by omega),Qjd];by_cases aj:i<s.length-1
    ·rw [Qc aj,cond_true,wI (show ((pos Se s i:Nat):Int)+tl=((pos Se s i+X.t:Nat):Int) by omega) (by have:=f.2 aj;omega) (by have:=f.2 aj;omega),aw aj,Nat.min_eq_left (by omega),Nat.min_eq_left (by omega)];simp -implicitDefEqProofs only [Q0,Qj2,Q3,a i (by omega),SX]
    ·rw [show decide ((i:Int)<((s.length-1:Nat):Int))=false by simp;omega,Qj3,Nat.min_eq_right (by omega),Nat.min_eq_right (by omega)]
  ·simp only [Int.toNat_natCast];rw [XP,Qi,Qj3,Nat.min_eq_right (by omega)]
 rw [p];have hT:Q1 X.TT ((pos Se s (s.length-1):Nat):Int)=some [Q4 (fLV Se s X (s.length-1))]:=by
  rw [Qe];show (arr X.T (X.N+1))[pos Se s (s.length-1)]? = _;rw [JW (by omega)];unfold fLV;rw [Qja (by omega),hN]
 have hl:fLV Se s X (s.length-1)=X.T X.N:=by unfold fLV;rw [Qja (by omega)]
 have a:Yf (((arr (fLV Se s X) (s.length-1)).length+List.length [[D.int .i64 (fLV Se s X (s.length-1))]])*8)=some ():=XF (by simp only [YO,Qjn,Qjm];omega);simp -implicitDefEqProofs only [hT,Q0,Qj2,Q3,a,SX];rw [hl,upA an.1 (by omega),Q0,show s.length-1+1=s.length by omega];rfl
theorem QfZ:P6 400 St Pt Se Li s 0 nm tl sp ac br Tu4=some (arr (fEN Se s (YS Se s nm tl sp ac br)) s.length,arr (fLV Se s (YS Se s nm tl sp ac br)) s.length,AE (YS Se s nm tl sp ac br),0):=by
 have l2:=h.l2;have l24:=h.l24;have ht:=tEq h (nm:=nm) hk;have t1:=hk.t1;have hX:=NQ h (nm:=nm) hk;have au:=hX.hN;have ar:=hX.hC.len;have aq:=QbO h (nm:=nm) hk;have aj:=fun (j:Nat) (hj:j<s.length)=>QcB h (nm:=nm) hk hj
 have an:=AZ h (nm:=nm) hk (Qjf _);have hN:(YS Se s nm tl sp ac br).N=pos Se s (s.length-1):=rfl;unfold P6;rw [Q8M h hk,Q0,Q9 (by rfl),Q8r h,Q0,CV h,aq,Q0];revert hX au ar aj an hN ht;generalize YS Se s nm tl sp ac br=X;intro ht hX au ar aj an hN;have ak:X.TT.length=X.N+1:=YO;have hw:wJ (((s.length:Nat):Int)-0)=((s.length:Nat):Int):=by rw [Q7 (by omega) (by omega)];omega
 have p:∀ k0:Int->Int->Bool->LL->LL->Option (LL × LL × Int × Int),Zn 400 X.TT Se s 0 tl k0 400 0 0 [] []=k0 ((pos Se s (s.length-1):Nat):Int) ((s.length:Nat):Int) false (arr (fEN Se s X) s.length) (arr (fLV Se s X) s.length):=by
  intro k0;refine Qu (r:=fun m i=>Zn 400 X.TT Se s 0 tl k0 m ((pos Se s (i.toNat-1):Nat):Int) i (arr (fEN Se s X) i.toNat) (arr (fLV Se s X) i.toNat)) (N:=s.length) (fun m i hi=>?_) (fun m=>?_) s.length 400 0 (by omega) (by omega)
  ·simp only [Int.toNat_natCast];obtain ⟨x,d,a3,b,c,st,e,q,a0,a1,hd⟩:=Ft h.st hi;have hp:=aj (i-1) (by omega);have t:=aj i hi;have hT:Q1 X.TT ((pos Se s (i-1):Nat):Int)=some [Q4 (fEN Se s X i)]:=by rw [Qe];exact JW (by omega)
   have hr:Yf (((arr (fEN Se s X) i).length+List.length [[D.int .i64 (fEN Se s X i)]])*8)=some ():=XF (by simp only [YO,Qjn,Qjm];omega);have a:Yf (((arr (fLV Se s X) i).length+List.length [[D.int .i64 (fLV Se s X i)]])*8)=some ():=XF (by simp only [YO,Qjn,Qjm];omega);have aw:Q1 X.TT (if ((X.N:Nat):Int)<((pos Se s i+X.t:Nat):Int) then ((X.N:Nat):Int) else ((pos Se s i+X.t:Nat):Int))=some [Q4 (fLV Se s X i)]:=by
    unfold fLV;by_cases ao:i<s.length-1
    ·have:=t.2 ao;rw [Qja (by omega),if_pos ao,Qe];exact JW (by omega)
    ·have e:i=s.length-1:=by omega
     rw [if_pos (by rw [hN,e];omega),Qja ao,Qe];exact JW (by omega)
   rw [Zn,hw,Qc hi,cond_true,ak,wI (show ((X.N+1:Nat):Int)-1=((X.N:Nat):Int) by omega) (by omega) (by omega)];simp -implicitDefEqProofs only [Q0,Qj2,Qj4,Q3,hT,hr,SX,wI (show (i:Int)+1=((i+1:Nat):Int) by omega) (by omega) (by omega)];by_cases u:i=0
   ·subst u;rw [show decide (((0:Nat):Int)>0)=false from rfl,Qj3,wI (show ((pos Se s (0-1):Nat):Int)+tl=((pos Se s 0+X.t:Nat):Int) by rw [<- ht,show 0-1=0 from rfl];omega) (by omega) (by omega),aw];simp -implicitDefEqProofs only [Q0,Qj2,Q3,a,SX]
   ·have a2:pos Se s i=pos Se s (i-1)+sl Se s i:=by
     obtain ⟨k,rfl⟩:∃ k,i=k+1:=⟨i-1,by omega⟩;rfl
    rw [show decide ((i:Int)>0)=true by simp;omega,cond_true,Qe,e];simp -implicitDefEqProofs only [Q0,Qj2,Qj4,Q3,q,wI (show ((pos Se s (i-1):Nat):Int)+((sl Se s i:Nat):Int)=((pos Se s i:Nat):Int) by omega) (by omega) (by omega),wI (show ((pos Se s i:Nat):Int)+tl=((pos Se s i+X.t:Nat):Int) by omega) (by omega) (by omega),aw,a,SX,Qjd]
  ·simp only [Int.toNat_natCast];rw [Zn,hw,Qi,Qj3]
 have hT:Q1 X.TT ((X.N:Nat):Int)=some [Q4 (X.T X.N)]:=by rw [Qe];exact JW (by omega)
 rw [p,ak,wI (show ((X.N+1:Nat):Int)-1=((X.N:Nat):Int) by omega) (by omega) (by omega)];simp -implicitDefEqProofs only [hT,Q0,Qj2,Q3,QbI (n:=400) an.1 (show (1:Int)<=1000 by decide) (by omega)];rfl
end
end Go.Vx
namespace Go.Vx
abbrev Occ:=Int × Int × Int
def enc (q:Occ):List D:=[Q4 q.1,Q4 q.2.1,Q4 q.2.2]
def Pq (q:Occ):Bool:=decide (q.2.1<q.2.2)
def Mb (T:List Occ) (r:Nat) (f t:Int):List Occ:=match T[r]? with
 |some (_,a,b)=>if a<b then T.set r ((r:Int),(if a<f then a else f),(if t<b then b else t)) else T.set r ((r:Int),f,t)
 |none=>T
theorem NS {T:List Occ} {r:Nat} {f t:Int}:(Mb T r f t).length=T.length:=by
 unfold Mb;split
 ·split <;> simp
 ·rfl
theorem Qez {n:Nat} {T:List Occ} {r:Nat} {f t:Int} (h:r<T.length):Xm n (T.map enc) (r:Int) f t (some:LL->Option LL)=some ((Mb T r f t).map enc):=by
 obtain ⟨⟨x,a,b⟩,e⟩:∃ q,T[r]? = some q:=⟨T[r],Qj9 h⟩;have e2:(T.map enc)[r]? = some [Q4 x,Q4 a,Q4 b]:=by rw [Qjq,e];rfl
 unfold Xm;rw [Qj6,Y0 (by omega) (by omega)];simp -implicitDefEqProofs only [Q0,Qj2,Qj4,Q3,Xx,QG,cond_true,Qj3,Qjc,Qje,Int.toNat_natCast,e2,List.set_cons_zero,List.set_cons_succ];unfold Mb;simp only [e];by_cases aj:a<b
 ·rw [show decide (a<b)=true by simpa using aj,cond_true,if_pos aj,List.map_set];rfl
 ·rw [show decide (a<b)=false by simpa using aj,Qj3,Qja aj,List.map_set];rfl
theorem QgW {n:Nat} {T:List Occ} {r:Nat} {f t:Int} (h:r<T.length) (ak:f<t):YM n (T.map fun q=>[D.bool (Pq q)]) (T.map enc) (r:Int) f t Tu2=some ((Mb T r f t).map (fun q=>[D.bool (Pq q)]),(Mb T r f t).map enc):=by
 obtain ⟨⟨x,a,b⟩,e⟩:∃ q,T[r]? = some q:=⟨T[r],Qj9 h⟩;have e2:(T.map enc)[r]? = some [Q4 x,Q4 a,Q4 b]:=by rw [Qjq,e];rfl
 have g:(T.map fun q=>[D.bool (Pq q)])[r]? = some [D.bool (decide (a<b))]:=by rw [Qjq,e];rfl
 unfold YM;rw [Qj6,Qj6,Y0 (by omega) (by omega)];simp -implicitDefEqProofs only [Q0,Qj2,Qj4,Q3,Xx,QG,cond_true,Qj3,Qjc,Qje,Int.toNat_natCast,e2,g,N3,List.set_cons_zero,List.set_cons_succ];unfold Mb;simp only [e];by_cases aj:a<b
 ·rw [show decide (a<b)=true by simpa using aj,cond_true,if_pos aj,List.map_set,List.map_set,show Pq ((r:Int),(if a<f then a else f),(if t<b then b else t))=true by simp only [Pq,decide_eq_true_eq];split <;> split <;> omega];rfl
 ·rw [show decide (a<b)=false by simpa using aj,Qj3,Qja aj,List.map_set,List.map_set,show Pq ((r:Int),f,t)=true by simpa [Pq] using ak];rfl
theorem Q35:∀ {l:List Occ} {i:Nat} {a:Occ},((l.set i a).filter Pq).length<=(l.filter Pq).length+1
 |[],i,a=>by simp
 |x::l,0,a=>by
  rw [List.set_cons_zero,Qjy,Qjy];split <;> split <;> simp <;> omega
 |x::l,i+1,a=>by
  have:=Q35 (l:=l) (i:=i) (a:=a);rw [List.set_cons_succ,Qjy,Qjy];split <;> simp <;> omega
theorem Q1O {T:List Occ} {r:Nat} {f t:Int}:((Mb T r f t).filter Pq).length<=(T.filter Pq).length+1:=by
 unfold Mb;split
 ·split <;> exact Q35
 ·omega
theorem QgK {T:List Occ} (hl:T.length<=300):Vk 400 (T.map enc) (some:LL->Option LL)=some ((T.filter Pq).map enc):=by
 unfold Vk;rw [Qj6];refine Qu (r:=fun m i=>XQ 400 (T.map enc) ((T.length:Nat):Int) (fun _ _ w=>some w) m i (((T.take i.toNat).filter Pq).map enc)) (N:=T.length) (fun m k hk=>?_) (fun m=>?_) T.length 400 0 (by omega) (by omega)
 ·simp only [Int.toNat_natCast];obtain ⟨⟨x,a,b⟩,e⟩:∃ q,T[k]? = some q:=⟨T[k],Qj9 hk⟩;have ak:((((T.take k).filter Pq).map enc).length)<=300:=by
   rw [Qj6];have:=List.length_filter_le Pq (T.take k);rw [List.length_take] at this;omega
  rw [XQ,Qc hk,Qe,Qjq,e,YC e,List.filter_append,Qjg];simp -implicitDefEqProofs only [Q0,Qj2,Qj4,Q3,Xx,QG,cond_true,Qj3,Qjc,Qje,Option.map_some,enc,Qq (show k<=1000 by omega)];by_cases aj:a<b
  ·rw [show decide (a<b)=true by simpa using aj,cond_true,show [(x,a,b)].filter Pq=[(x,a,b)] by simp [Pq,aj],XF (by simp only [Qjn,Qjm];omega)];rfl
  ·rw [show decide (a<b)=false by simpa using aj,Qj3,show [(x,a,b)].filter Pq=[] by simp [Pq,aj],List.map_nil,Qjz]
 ·simp only [Int.toNat_natCast];rw [XQ,Qi,Qj3,Qjx]
theorem QfU {R:Type} {T:List Occ} (hl:T.length<=300) (K:LL->oP R):V7 400 ((T.length:Nat):Int) (T.map fun q=>[D.bool (Pq q)]) (T.map enc) (fun _ _ w=>K w) 400 0 []=K ((T.filter Pq).map enc):=by
 refine Qu (r:=fun m i=>V7 400 ((T.length:Nat):Int) (T.map fun q=>[D.bool (Pq q)]) (T.map enc) (fun _ _ w=>K w) m i (((T.take i.toNat).filter Pq).map enc)) (N:=T.length) (fun m k hk=>?_) (fun m=>?_) T.length 400 0 (by omega) (by omega)
 ·simp only [Int.toNat_natCast];obtain ⟨⟨x,a,b⟩,e⟩:∃ q,T[k]? = some q:=⟨T[k],Qj9 hk⟩;have ak:((((T.take k).filter Pq).map enc).length)<=300:=by
   rw [Qj6];have:=List.length_filter_le Pq (T.take k);rw [List.length_take] at this;omega
  rw [V7,Qc hk,Qj6,Qj6,Y0 (by omega) (by omega),Int.toNat_natCast,Qjq,Qjq,e,YC e,List.filter_append,Qjg];simp -implicitDefEqProofs only [Q0,Qj2,Qj4,Q3,Xx,QG,cond_true,Qj3,Qjc,Qje,Option.map_some,enc,show Pq (x,a,b)=decide (a<b) from rfl,N3,Qq (show k<=1000 by omega)];by_cases aj:a<b
  ·rw [show decide (a<b)=true by simpa using aj,cond_true,show [(x,a,b)].filter Pq=[(x,a,b)] by simp [Pq,aj],XF (by simp only [Qjn,Qjm];omega)];rfl
  ·rw [show decide (a<b)=false by simpa using aj,Qj3,show [(x,a,b)].filter Pq=[] by simp [Pq,aj],List.map_nil,Qjz]
 ·simp only [Int.toNat_natCast];rw [V7,Qi,Qj3,Qjx]
end Go.Vx
namespace Go.Vx
def pt (Li s:LL) (i:Nat):Int:=pv (Qd8 Li (s.getD (i-1) []) (s.getD i []))
def sec (s:LL) (i:Nat):Nat:=match s.getD i [] with
 |.int _ x::_=>x.toNat
 |_=>0
def fr (Se s:LL) (X:Run) (bf:Int) (i:Nat):Int:=if i=0 then -bf else fEN Se s X (i-1) / 1000-16
def tu (Se s:LL) (X:Run) (af:Int) (i:Nat):Int:=if i<s.length-1 then cd (fLV Se s X i) 1000+4 else AE X+af
def TW (N NP:Nat) (Li s:LL) (f g:Nat->Int):Nat->List Occ
 |0=>List.replicate (N+NP) (0,0,0)
 |i+1=>if i=0 then Mb (TW N NP Li s f g i) (sec s i) (f i) (g i) else if pt Li s i<0 then Mb (TW N NP Li s f g i) (sec s i) (f i) (g i) else Mb (Mb (TW N NP Li s f g i) (sec s i) (f i) (g i)) (N+(pt Li s i).toNat) (f i) (g (i-1))
theorem HC {N NP:Nat} {Li s:LL} {f g:Nat->Int}:∀ {i:Nat},(TW N NP Li s f g i).length=N+NP
 |0=>by simp [TW]
 |i+1=>by
  rw [TW];split
  ·rw [NS,HC]
  ·split <;> simp only [NS,HC]
theorem Q0X {N NP:Nat} {Li s:LL} {f g:Nat->Int} {j:Nat}:TW N NP Li s f g (j+1+1)=if pt Li s (j+1)<0 then Mb (TW N NP Li s f g (j+1)) (sec s (j+1)) (f (j+1)) (g (j+1)) else Mb (Mb (TW N NP Li s f g (j+1)) (sec s (j+1)) (f (j+1)) (g (j+1))) (N+(pt Li s (j+1)).toNat) (f (j+1)) (g j):=by
 show (if j+1=0 then _ else _)=_;rw [Qja (by omega)];rfl
def Q4t (St Pt Se Li s:LL) (X:Run) (bf af:Int):List Occ:=(TW Se.length Pt.length Li s (fr Se s X bf) (tu Se s X af) s.length).filter Pq
section
variable {N NP:Nat} {Li:LL}
theorem Q4z:∀ {s:LL} {k:Nat},Ag N NP Li k s=true->∀ i,i+1<s.length->∃ p,Qd8 Li (s.getD i []) (s.getD (i+1) [])=some p/\ptR [] [] (List.replicate N []) Li (s.getD i []) (s.getD (i+1) [])=some p /\ -1<=p/\p<NP
 |[],_,_,i,hi=>by simp at hi
 |[_],_,_,i,hi=>by simp at hi
 |r::r'::t,k,h,i,hi=>by
  rw [Ag] at h;split at h
  ·rename_i p q e1 e2;simp only [Bool.and_eq_true,beq_iff_eq,decide_eq_true_eq] at h;obtain ⟨rfl,a,h2,b⟩:=h;cases i with
   |zero=>exact ⟨p,e1,e2,a,h2⟩
   |succ i=>exact Q4z b i (by simpa using hi)
  ·cases h
theorem Q6j:∀ {s:LL} {k:Nat},Ag N NP Li k s=true->∀ (c:Nat->Nat),(∀ i,c (i+1)<=c i+(if pt Li s (i+1)<0 then 1 else 2))->c 0<=k->∀ i,i<s.length->c i<=5
 |[],_,_,_,_,_,i,hi=>by simp at hi
 |[r],k,h,c,hc,f,i,hi=>by
  have:i=0:=by simpa using hi
  subst this;have:k<=5:=QjA h;omega
 |r::r'::t,k,h,c,hc,f,i,hi=>by
  rw [Ag] at h;split at h
  ·rename_i p q e1 e2;simp only [Bool.and_eq_true,beq_iff_eq,decide_eq_true_eq] at h;obtain ⟨rfl,j,h2,e⟩:=h;have hp:pt Li (r::r'::t) 1=p:=by show pv (Qd8 Li r r')=p;rw [e1];rfl
   have d:c 1<=c 0+(if pt Li (r::r'::t) 1<0 then 1 else 2):=hc 0;rw [hp] at d;have g:c 1<=(bif decide (p<0) then k+1 else k+2):=by
    by_cases hq:p<0
    ·rw [if_pos hq] at d;rw [show decide (p<0)=true by simpa using hq,cond_true];omega
    ·rw [Qja hq] at d;rw [show decide (p<0)=false by simpa using hq,Qj3];omega
   have ih:=Q6j e (fun i=>c (i+1)) (fun i=>hc (i+1)) g;cases i with
   |zero=>
    have:=ih 0 (by simp);have hq:c 0<=5:=by
     have aj:∀ {s:LL} {k:Nat},Ag N NP Li k s=true->k<=5:=by
      intro s;induction s with
      |nil=>exact fun h=>QjA h
      |cons a s ih=>
       intro k h;cases s with
       |nil=>exact QjA h
       |cons b s=>
        rw [Ag] at h;split at h
        ·simp only [Bool.and_eq_true] at h;have:=ih h.2.2.2;revert this;cases decide (_<(0:Int)) <;> simp <;> omega
        ·cases h
     have:=aj e;revert this;cases decide (p<0) <;> simp <;> omega
    exact hq
   |succ i=>exact ih i (by simpa using hi)
  ·cases h
end
end Go.Vx
namespace Go.Vx
theorem NO {α:Type} {l:List α} {n:Nat} (h:l.length=n):He l n=some ():=by
 grind [He,Nat.beq,Nat.beq_refl]
def spn (f g:Nat->Int) (n:Nat):LL:=(List.range n).map fun i=>[Q4 0,Q4 (f i),Q4 (g i)]
theorem Q7N {f g:Nat->Int} {n:Nat}:(spn f g n).length=n:=by simp [spn]
theorem QeS {f g:Nat->Int} {n i:Nat} (h:i<n):(spn f g n)[i]? = some [Q4 0,Q4 (f i),Q4 (g i)]:=by simp [spn,h]
theorem Q5C {f g:Nat->Int} {n:Nat}:spn f g n++[[Q4 0,Q4 (f n),Q4 (g n)]]=spn f g (n+1):=by simp [spn,List.range_succ]
theorem F6 {St Pt Se Li:LL} (h:Pg 400 St Pt Se Li=true):Pt.length<=48/\Se.length<=96:=by
 simp_all [Pg,Bool.and_eq_true,QjA]
theorem Q9F {l:List Occ}:Fa [l.map enc]=some ():=by
 unfold Fa;rw [show ([l.map enc].all B5)=true by simp [B5,enc,Q4G]];rfl
section
variable {St Pt Se Li s:LL} (h:RtF St Pt Se Li s) {nm:List UInt8} {tl sp ac br bf af:Int} (hk:StkN tl sp ac br) (hb0:0<=bf) (hb1:bf<=65536) (ha0:0<=af) (ha1:af<=65536)
include h hk
theorem Q3X {i j:Nat} (ak:i<=j) (hj:j<s.length):0<=fEN Se s (YS Se s nm tl sp ac br) i/\fEN Se s (YS Se s nm tl sp ac br) i<=fLV Se s (YS Se s nm tl sp ac br) j/\fLV Se s (YS Se s nm tl sp ac br) j<=7000000:=by
 have hX:=NQ h (nm:=nm) hk;have a:=QcB h (nm:=nm) hk hj;have h2:=Q89 (Se:=Se) (s:=s) (i:=i-1) (j:=j) (by omega);have c:=AZ h (nm:=nm) hk (b:=pos Se s (i-1)) (by omega);unfold fEN fLV;by_cases hm:j<s.length-1
 ·rw [if_pos hm];exact ⟨c.1,Run.T_mono hX (by omega) (a.2 hm),(AZ h (nm:=nm) hk (a.2 hm)).2⟩
 ·rw [Qja hm];exact ⟨c.1,Run.T_mono hX (by omega) (Qjf _),(AZ h (nm:=nm) hk (Qjf _)).2⟩
include hb0 hb1 ha0 ha1
theorem QgG {i:Nat} (hi:i<s.length) : -70000<=fr Se s (YS Se s nm tl sp ac br) bf i/\fr Se s (YS Se s nm tl sp ac br) bf i<tu Se s (YS Se s nm tl sp ac br) af i/\tu Se s (YS Se s nm tl sp ac br) af i<=80000/\(1<=i->fr Se s (YS Se s nm tl sp ac br) bf i<tu Se s (YS Se s nm tl sp ac br) af (i-1)):=by
 have l2:=h.l2;have hr:=ND h (nm:=nm) hk;have hN:=Q3X h (nm:=nm) hk (i:=i-1) (j:=s.length-1) (by omega) (by omega);have b:=Q3X h (nm:=nm) hk (i:=i-1) (j:=i) (by omega) hi;have c:=Q3X h (nm:=nm) hk (i:=i-1) (j:=i-1) (by omega) (by omega);have c1:=D8 (a:=fLV Se s (YS Se s nm tl sp ac br) i) (by omega) (show (1:Int)<=1000 by decide);have c0:=D8 (a:=fLV Se s (YS Se s nm tl sp ac br) (i-1)) (by omega) (show (1:Int)<=1000 by decide);have hl:fLV Se s (YS Se s nm tl sp ac br) (s.length-1)=(YS Se s nm tl sp ac br).T (YS Se s nm tl sp ac br).N:=by unfold fLV;rw [Qja (by omega)]
 have cN:=D8 (a:=fLV Se s (YS Se s nm tl sp ac br) (s.length-1)) (by omega) (show (1:Int)<=1000 by decide);have aj:AE (YS Se s nm tl sp ac br)=cd (fLV Se s (YS Se s nm tl sp ac br) (s.length-1)) 1000:=by rw [hl];rfl
 unfold fr tu;omega
theorem Qek:ZX 400 St Pt Se Li s 0 nm tl sp ac br bf af Tu3=some ((Q4t St Pt Se Li s (YS Se s nm tl sp ac br) bf af).map enc,AE (YS Se s nm tl sp ac br),0):=by
 have l2:=h.l2;have l24:=h.l24;have a4:=ND h (nm:=nm) hk;have aj:=fun i j (a7:i<=j) (hj:j<s.length)=>Q3X h (nm:=nm) hk (i:=i) (j:=j) a7 hj
 have aq:=fun i (hi:i<s.length)=>QgG h (nm:=nm) hk hb0 hb1 ha0 ha1 hi
 have bb:=Qdu h (nm:=nm) hk;have bl:=F6 h.lay;unfold ZX;rw [QcJ h.lay rfl h.l2 h.l24 h.rt h.st hk,Q0,Q9 (by rfl),show decide (bf<0)=false by simpa using hb0,show decide (bf>65536)=false by simpa using hb1,show decide (af<0)=false by simpa using ha0,show decide (af>65536)=false by simpa using ha1];simp -implicitDefEqProofs only [Qj3];unfold ZN;rw [bb];revert a4 aj aq;generalize YS Se s nm tl sp ac br=X;intro a4 aj aq;have z:wJ (((s.length:Nat):Int)-1)=((s.length-1:Nat):Int):=Jq (by omega) (by omega);have aa:wJ (((s.length-1:Nat):Int)-1)=((s.length-1-1:Nat):Int):=Jq (by omega) (by omega);have ax:∀ i,i<s.length->Q1 (arr (fEN Se s X) s.length) (i:Int)=some [Q4 (fEN Se s X i)]:=fun i hi=>by rw [Qe];exact JW hi
 have az:∀ i,i<s.length->Q1 (arr (fLV Se s X) s.length) (i:Int)=some [Q4 (fLV Se s X i)]:=fun i hi=>by rw [Qe];exact JW hi
 have aw:∀ i,i<s.length->Vf 400 (fEN Se s X i) (some:Int->Option Int)=some (fEN Se s X i / 1000):=fun i hi=>QfI (aj i i (Qjf i) hi).1 (by have:=aj i i (Qjf i) hi;omega)
 have a3:∀ i,i<s.length->JH 400 (fLV Se s X i) (some:Int->Option Int)=some (cd (fLV Se s X i) 1000):=fun i hi=>upA (by have:=aj i i (Qjf i) hi;omega) (by have:=aj i i (Qjf i) hi;omega)
 have ak:∀ (k:Nat) (r:List D),k<=30->Yf (((spn (fr Se s X bf) (tu Se s X af) k).length+[r].length)*24)=some ():=fun k r hk=>XF (by simp only [Q7N,Qjn,Qjm];omega)
 have f0:fr Se s X bf 0 = -bf:=rfl;have t0:tu Se s X af 0=cd (fLV Se s X 0) 1000+4:=by unfold tu;rw [if_pos (by omega)]
 have q0:=aq 0 (by omega);rw [Q0,Q9 (by rfl)];dsimp only;rw [show (0:Int)=((0:Nat):Int) from rfl,az 0 (by omega)];simp -implicitDefEqProofs only [Q0,Qj2,Q3,a3 0 (by omega),YO,z];have ad:∀ k0:Int->Bool->LL->Option (LL × Int × Int),XI 400 (arr (fEN Se s X) s.length) (arr (fLV Se s X) s.length) ((s.length-1:Nat):Int) k0 400 1 (spn (fr Se s X bf) (tu Se s X af) 1)=k0 ((s.length-1:Nat):Int) false (spn (fr Se s X bf) (tu Se s X af) (s.length-1)):=by
  intro k0;refine Qu (r:=fun m i=>XI 400 (arr (fEN Se s X) s.length) (arr (fLV Se s X) s.length) ((s.length-1:Nat):Int) k0 m ((i.toNat+1:Nat):Int) (spn (fr Se s X bf) (tu Se s X af) (i.toNat+1))) (N:=s.length-1-1) (fun m i hi=>?_) (fun m=>?_) (s.length-1-1) 400 0 (by omega) (by omega)
  ·simp only [Int.toNat_natCast];have hf:fr Se s X bf (i+1)=fEN Se s X i / 1000-16:=by unfold fr;rw [Qja (by omega)];rfl
   have ht:tu Se s X af (i+1)=cd (fLV Se s X (i+1)) 1000+4:=by unfold tu;rw [if_pos (by omega)]
   have q:=aq (i+1) (by omega);rw [XI,Qc (show i+1<s.length-1 by omega),cond_true,Jq (show i+1<=1000 by omega) (by omega),Qjd,ax i (by omega)];simp -implicitDefEqProofs only [Q0,Qj2,Q3,aw i (by omega),az (i+1) (by omega),a3 (i+1) (by omega),wI hf.symm (by omega) (by omega),wI ht.symm (by omega) (by omega),ak (i+1) _ (by omega),Q5C,Qq (show i+1<=1000 by omega)]
  ·simp only [Int.toNat_natCast];rw [show s.length-1-1+1=s.length-1 by omega,XI,Qi,Qj3]
 rw [show ([[D.int .i64 ((0:Nat):Int),D.int .i64 (wJ (((0:Nat):Int)-bf)),D.int .i64 (wJ (cd (fLV Se s X 0) 1000+4))]]:LL)=spn (fr Se s X bf) (tu Se s X af) 1 by
  rw [wI (show ((0:Nat):Int)-bf=fr Se s X bf 0 by omega) (by omega) (by omega),wI t0.symm (by omega) (by omega)];rfl,ad]
 have a9:fr Se s X bf (s.length-1)=fEN Se s X (s.length-1-1) / 1000-16:=by unfold fr;rw [Qja (by omega)]
 have bc:tu Se s X af (s.length-1)=AE X+af:=by unfold tu;rw [Qja (by omega)]
 have qm:=aq (s.length-1) (by omega);have a5:J1 400 St Pt Se Li (some:LL->Option LL)=some ((TW Se.length Pt.length Li s (fr Se s X bf) (tu Se s X af) 0).map enc):=by
  unfold J1;rw [wI (show ((Se.length:Nat):Int)+((Pt.length:Nat):Int)=((Se.length+Pt.length:Nat):Int) by omega) (by omega) (by omega),show (bif decide ((0:Int)<=((Se.length+Pt.length:Nat):Int))&&decide (((Se.length+Pt.length:Nat):Int)<=((Se.length+Pt.length:Nat):Int)) then some () else none)=some () by rw [QX (by simp;omega)],Q0,Int.toNat_natCast,XF (by omega),Q0,TW,List.map_replicate];rfl
 rw [aa,ax (s.length-1-1) (by omega)];simp -implicitDefEqProofs only [Q0,Qj2,Q3,aw (s.length-1-1) (by omega),aw (s.length-1) (by omega),ax (s.length-1) (by omega),a5,show ((0:Nat):Int)=0 from rfl,wI a9.symm (by omega) (by omega),wI bc.symm (by omega) (by omega),ak (s.length-1) _ (by omega),Q5C];rw [show s.length-1+1=s.length by omega];have ae:∀ k0:Int->Bool->LL->LL->Option (LL × Int × Int),Qj 400 ((s.length-1:Nat):Int) s ((s.length:Nat):Int) St Pt Se Li s (wJ (fEN Se s X (s.length-1) / 1000-16)) (wJ (AE X+20)) k0 400 0 (spn (fr Se s X bf) (tu Se s X af) s.length) ((TW Se.length Pt.length Li s (fr Se s X bf) (tu Se s X af) 0).map enc)=k0 ((s.length:Nat):Int) false (spn (fr Se s X bf) (tu Se s X af) s.length) ((TW Se.length Pt.length Li s (fr Se s X bf) (tu Se s X af) s.length).map enc):=by
  intro k0;refine Qu (r:=fun m i=>Qj 400 ((s.length-1:Nat):Int) s ((s.length:Nat):Int) St Pt Se Li s (wJ (fEN Se s X (s.length-1) / 1000-16)) (wJ (AE X+20)) k0 m i (spn (fr Se s X bf) (tu Se s X af) s.length) ((TW Se.length Pt.length Li s (fr Se s X bf) (tu Se s X af) i.toNat).map enc)) (N:=s.length) (fun m i hi=>?_) (fun m=>?_) s.length 400 0 (by omega) (by omega)
  ·simp only [Int.toNat_natCast];obtain ⟨x,d,bk,b,c,st,e,h1,a0,a1,hd⟩:=Ft h.st hi;have hx:=Gs h1;have al:0<=x/\x<Se.length:=by
    have h2:=hx.1;unfold inB at h2;by_cases hc:0<=x/\x<Se.length
    ·exact hc
    ·rw [show (decide (0<=x)&&decide (x<(Se.length:Int)))=false by simp;omega] at h2;cases h2
   have au:x=((sec s i:Nat):Int):=by
    unfold sec;rw [Qj8,e];show x=((x.toNat:Nat):Int);omega
   have hT:=HC (N:=Se.length) (NP:=Pt.length) (Li:=Li) (s:=s) (f:=fr Se s X bf) (g:=tu Se s X af) (i:=i);have ha:=Qez (n:=400) (T:=TW Se.length Pt.length Li s (fr Se s X bf) (tu Se s X af) i) (r:=sec s i) (f:=fr Se s X bf i) (t:=tu Se s X af i) (by omega);have a2:∀ j,j<s.length->(spn (fr Se s X bf) (tu Se s X af) s.length)[j]? = some [Q4 0,Q4 (fr Se s X bf j),Q4 (tu Se s X af j)]:=fun j hj=>QeS hj
   rw [Qj,Qc hi,Qe,e];simp -implicitDefEqProofs only [cond_true,Q0,Qj2,Qj4,show decide ((i:Int)>((s.length-1:Nat):Int))=false by simp;omega,Qj3,Q3,Q7N,Y0 (len:=s.length) (show (0:Int)<=(i:Int) by omega) (show (i:Int)<(s.length:Int) by omega),Int.toNat_natCast,a2 i hi,au,ha,Qq (show i<=1000 by omega),NO (l:=(Mb (TW Se.length Pt.length Li s (fr Se s X bf) (tu Se s X af) i) (sec s i) (fr Se s X bf i) (tu Se s X af i)).map enc) (n:=((TW Se.length Pt.length Li s (fr Se s X bf) (tu Se s X af) i).map enc).length) (by simp only [Qj6,NS])];by_cases ah:i=0
   ·subst ah;rw [show (((0:Nat):Int) == 0)=true from rfl,cond_true];rfl
   ·obtain ⟨j,rfl⟩:∃ j,i=j+1:=⟨i-1,by omega⟩;obtain ⟨x',d',bh,b',c',st',e',bg,_,_,a6⟩:=Ft h.st (j:=j) (by omega);obtain ⟨p,a,am,an,ao⟩:=Q4z h.hops j hi;rw [Qj8,Qj8,e,e',Qjo,Qjo] at a;have ba:=Gs bg;have ar:0<=x'/\x'<Se.length:=by
     have h2:=ba.1;unfold inB at h2;by_cases hc:0<=x'/\x'<Se.length
     ·exact hc
     ·rw [show (decide (0<=x')&&decide (x'<(Se.length:Int)))=false by simp;omega] at h2;cases h2
    have a8:pt Li s (j+1)=p:=by
     unfold pt;rw [Qj8,Qj8,e,Qjd,e',Qjo,Qjo,a];rfl
    have ay:=(Qbz h.lay ar.1 ar.2 a6 (y:=x) (e:=d)).trans a;rw [au] at ay;rw [show (((j+1:Nat):Int) == 0)=false by simp;omega,Qj3,Jq (show j+1<=1000 by omega) (by omega),Qjd,Qe,e'];simp -implicitDefEqProofs only [Q0,Qj2,Qj4,Q3,ay];rw [Q0X,a8];by_cases hp:p<0
    ·rw [show decide (p<0)=true by simpa using hp,cond_true,if_pos hp]
    ·have ai:=Qez (n:=400) (T:=Mb (TW Se.length Pt.length Li s (fr Se s X bf) (tu Se s X af) (j+1)) (sec s (j+1)) (fr Se s X bf (j+1)) (tu Se s X af (j+1))) (r:=Se.length+p.toNat) (f:=fr Se s X bf (j+1)) (t:=tu Se s X af j) (by rw [NS];omega);rw [show decide (p<0)=false by simpa using hp,Qj3,Qja hp,show decide (((j+1:Nat):Int)<=((s.length-1:Nat):Int))=true by simp;omega,cond_true];simp -implicitDefEqProofs only [Y0 (len:=s.length) (show (0:Int)<=(j:Int) by omega) (show (j:Int)<(s.length:Int) by omega),Q0,Qj2,Qj4,Q3,a2 j (by omega),wI (show ((Se.length:Nat):Int)+p=((Se.length+p.toNat:Nat):Int) by omega) (by omega) (by omega),Int.toNat_natCast,ai,Qjd];rw [NO (by simp only [Qj6,NS]),Q0]
  ·simp only [Int.toNat_natCast];rw [Qj,Qi,Qj3]
 rw [ae,QgK (by rw [HC];omega),Q0,Q9F,Q0];rfl
end
end Go.Vx
namespace Go.Vx
theorem QeW {St Pt Se Li L:LL} {x d y e p:Int} (h:ptR [] [] L Li [Q4 x,Q4 d] [Q4 y,Q4 e]=some p):∃ a b c,JI 400 St Pt Se Li x d y e Tu5=some (a,b,Q4 p,c,true):=by
 rw [Qhh (a':=[]) (b':=[]) (L':=L)];unfold ptR at h;dsimp only at h;split at h
 ·rename_i he;cases h;exact ⟨_,_,_,he⟩
 ·cases h
def Qbl (T:List Occ):LL:=T.map fun q=>[D.bool (Pq q)]
section
variable {St Pt Se Li s:LL} (h:RtF St Pt Se Li s) {nm:List UInt8} {tl sp ac br bf af:Int} (hk:StkN tl sp ac br) (hb0:0<=bf) (hb1:bf<=65536) (ha0:0<=af) (ha1:af<=65536)
include h hk hb0 hb1 ha0 ha1
theorem QfR:H7 400 St Pt Se Li s 0 nm tl sp ac br bf af Tu3=some ((Q4t St Pt Se Li s (YS Se s nm tl sp ac br) bf af).map enc,AE (YS Se s nm tl sp ac br),0):=by
 have l2:=h.l2;have l24:=h.l24;have a8:=ND h (nm:=nm) hk;have aw:=fun i j (bh:i<=j) (hj:j<s.length)=>Q3X h (nm:=nm) hk (i:=i) (j:=j) bh hj
 have a2:=fun i (hi:i<s.length)=>QgG h (nm:=nm) hk hb0 hb1 ha0 ha1 hi
 have bk:=QfZ h (nm:=nm) hk;have b5:=F6 h.lay;unfold H7;rw [Q8M h hk,Q0,Q9 (by rfl),Q3M hb0 hb1,Q0,Q3M ha0 ha1];simp -implicitDefEqProofs only [Q0,Qjc,Qj3,Qje];rw [bk];revert a8 aw a2;generalize YS Se s nm tl sp ac br=X;intro a8 aw a2;have t:wJ (((s.length:Nat):Int)-1)=((s.length-1:Nat):Int):=Jq (by omega) (by omega);have a9:∀ i,i<s.length->Q1 (arr (fEN Se s X) s.length) (i:Int)=some [Q4 (fEN Se s X i)]:=fun i hi=>by rw [Qe];exact JW hi
 have a3:∀ i,i<s.length->Q1 (arr (fLV Se s X) s.length) (i:Int)=some [Q4 (fLV Se s X i)]:=fun i hi=>by rw [Qe];exact JW hi
 have a4:∀ i,i<s.length->Vv 400 (fEN Se s X i) 1000 (some:Int->Option Int)=some (fEN Se s X i / 1000):=fun i hi=>QeQ (aw i i (Qjf i) hi).1 (by have:=aw i i (Qjf i) hi;omega)
 have a7:∀ i,i<s.length->Jm 400 (fLV Se s X i) 1000 (some:Int->Option Int)=some (cd (fLV Se s X i) 1000):=fun i hi=>QbI (by have:=aw i i (Qjf i) hi;omega) (by decide) (by have:=aw i i (Qjf i) hi;omega)
 have bg:wJ (((Se.length:Nat):Int)+((Pt.length:Nat):Int))=((Se.length+Pt.length:Nat):Int):=wI (by omega) (by omega) (by omega);have hg:(bif decide ((0:Int)<=((Se.length+Pt.length:Nat):Int))&&decide (((Se.length+Pt.length:Nat):Int)<=((Se.length+Pt.length:Nat):Int)) then some () else none)=some ():=by rw [QX (by simp;omega)]
 rw [Q0];dsimp only;simp -implicitDefEqProofs only [bg,hg,Q0,Int.toNat_natCast,XF (show (Se.length+Pt.length)*1<=100000 by omega),XF (show (Se.length+Pt.length)*24<=100000 by omega),YO,t];let T:Nat->List Occ:=fun i=>TW Se.length Pt.length Li s (fr Se s X bf) (tu Se s X af) i
 have u:∀ k0:Int->Int->Bool->LL->LL->Option (LL × Int × Int),Wc 400 bf af (arr (fEN Se s X) s.length) (arr (fLV Se s X) s.length) (AE X) ((s.length-1:Nat):Int) St Pt Se Li s k0 400 0 0 (Qbl (T 0)) ((T 0).map enc)=k0 (tu Se s X af (s.length-1)) ((s.length:Nat):Int) false (Qbl (T s.length)) ((T s.length).map enc):=by
  intro k0;refine Qu (r:=fun m i=>Wc 400 bf af (arr (fEN Se s X) s.length) (arr (fLV Se s X) s.length) (AE X) ((s.length-1:Nat):Int) St Pt Se Li s k0 m (if i.toNat=0 then 0 else tu Se s X af (i.toNat-1)) i (Qbl (T i.toNat)) ((T i.toNat).map enc)) (N:=s.length) (fun m i hi=>?_) (fun m=>?_) s.length 400 0 (by omega) (by omega)
  ·simp only [Int.toNat_natCast];obtain ⟨x,d,bx,b,c,st,e,v,a0,a1,hd⟩:=Ft h.st hi;have hx:=Gs v;have ay:0<=x/\x<Se.length:=by
    have h2:=hx.1;unfold inB at h2;by_cases hc:0<=x/\x<Se.length
    ·exact hc
    ·rw [show (decide (0<=x)&&decide (x<(Se.length:Int)))=false by simp;omega] at h2;cases h2
   have az:x=((sec s i:Nat):Int):=by
    unfold sec;rw [Qj8,e];show x=((x.toNat:Nat):Int);omega
   have hT:(T i).length=Se.length+Pt.length:=HC;have q:=a2 i hi;have ha:YM 400 (Qbl (T i)) ((T i).map enc) ((sec s i:Nat):Int) (fr Se s X bf i) (tu Se s X af i) Tu2=_:=QgW (by omega) q.2.1;rw [Wc,Qc hi,cond_true];have hz:∀ (J:Int->Int->Option (LL × Int × Int)),jn J (fun j=>bif ((i:Int) == (0:Int)) then
      gb true (Q1 (arr (fLV Se s X) s.length) (0:Int)) [] fun y=>gb true (y[0]?) oF fun z=>gb true (pIw z) 0 fun aa=>gb true (Jm 400 aa (1000:Int) some) 0 fun ab=>j (wJ (0-bf)) (wJ (ab+(4:Int)))
     else bif (decide ((i:Int)<((s.length-1:Nat):Int))) then
      gb true (Q1 (arr (fEN Se s X) s.length) (wJ ((i:Int)-(1:Int)))) [] fun ad=>gb true (ad[0]?) oF fun ae=>gb true (pIw ae) 0 fun ag=>gb true (Vv 400 ag (1000:Int) some) 0 fun ah=>
      gb true (Q1 (arr (fLV Se s X) s.length) (i:Int)) [] fun ai=>gb true (ai[0]?) oF fun aj=>gb true (pIw aj) 0 fun ak=>gb true (Jm 400 ak (1000:Int) some) 0 fun al=>j (wJ (ah-(16:Int))) (wJ (al+(4:Int)))
     else bif ((i:Int) == ((s.length-1:Nat):Int)) then
      gb true (Q1 (arr (fEN Se s X) s.length) (wJ (((s.length-1:Nat):Int)-(1:Int)))) [] fun am=>gb true (am[0]?) oF fun an=>gb true (pIw an) 0 fun ao=>gb true (Vv 400 ao (1000:Int) some) 0 fun ap=>j (wJ (ap-(16:Int))) (wJ (AE X+af))
     else
      gb true (Q1 (arr (fEN Se s X) s.length) ((s.length-1:Nat):Int)) [] fun aq=>gb true (aq[0]?) oF fun ar=>gb true (pIw ar) 0 fun au=>gb true (Vv 400 au (1000:Int) some) 0 fun av=>j (wJ (av-(16:Int))) (wJ (AE X+(20:Int))))=J (fr Se s X bf i) (tu Se s X af i):=by
    intro J;dsimp only [jn];by_cases g:i=0
    ·subst g;have t0:tu Se s X af 0=cd (fLV Se s X 0) 1000+4:=by unfold tu;rw [if_pos (by omega)]
     have f0:fr Se s X bf 0 = -bf:=rfl;rw [show (((0:Nat):Int) == 0)=true from rfl,cond_true,show (0:Int)=((0:Nat):Int) from rfl,a3 0 hi];simp -implicitDefEqProofs only [Q0,Qj2,Q3,a7 0 hi,wI (show ((0:Nat):Int)-bf=fr Se s X bf 0 by omega) (by omega) (by omega),wI t0.symm (by omega) (by omega)]
    ·have hp:fr Se s X bf i=fEN Se s X (i-1) / 1000-16:=by unfold fr;rw [Qja g]
     rw [show ((i:Int) == 0)=false by simp;omega,Qj3];by_cases a6:i<s.length-1
     ·have ht:tu Se s X af i=cd (fLV Se s X i) 1000+4:=by unfold tu;rw [if_pos a6]
      rw [Qc a6,cond_true,Jq (by omega) (by omega),a9 (i-1) (by omega)];simp -implicitDefEqProofs only [Q0,Qj2,Q3,a4 (i-1) (by omega),a3 i hi,a7 i hi,wI hp.symm (by omega) (by omega),wI ht.symm (by omega) (by omega)]
     ·obtain rfl:i=s.length-1:=by omega
      have ht:tu Se s X af (s.length-1)=AE X+af:=by unfold tu;rw [Qja (by omega)]
      rw [Qi,Qj3,show (((s.length-1:Nat):Int) == ((s.length-1:Nat):Int))=true by simp,cond_true,Jq (by omega) (by omega),a9 (s.length-1-1) (by omega)];simp -implicitDefEqProofs only [Q0,Qj2,Q3,a4 (s.length-1-1) (by omega),wI hp.symm (by omega) (by omega),wI ht.symm (by omega) (by omega)]
   rw [hz,Qe,e];simp -implicitDefEqProofs only [Q0,Qj2,Qj4,Q3,az,ha,Qq (show i<=1000 by omega),Qjd,Nat.succ_ne_zero,if_false];by_cases g:i=0
   ·subst g;rw [show decide (((0:Nat):Int)>0)=false from rfl,Qj3];rfl
   ·obtain ⟨j,rfl⟩:∃ j,i=j+1:=⟨i-1,by omega⟩;obtain ⟨x',d',bl,b',c',st',e',b7,_,_,bv⟩:=Ft h.st (j:=j) (by omega);obtain ⟨p,l,k,ba,bb⟩:=Q4z h.hops j hi;rw [Qj8,Qj8,e,e',Qjo,Qjo] at l k;have bi:pt Li s (j+1)=p:=by
     unfold pt;rw [Qj8,Qj8,e,Qjd,e',Qjo,Qjo,l];rfl
    rw [az] at k;obtain ⟨u1,u2,u3,hj⟩:=QeW (St:=St) (Pt:=Pt) (Se:=Se) k;rw [show decide (((j+1:Nat):Int)>0)=true from Qj7 (by omega),cond_true,Jq (show j+1<=1000 by omega) (by omega),Qjd,Qe,e'];simp -implicitDefEqProofs only [Q0,Qj2,Qj4,Q3,hj];have bj:T (j+1+1)=if p<0 then Mb (T (j+1)) (sec s (j+1)) (fr Se s X bf (j+1)) (tu Se s X af (j+1)) else Mb (Mb (T (j+1)) (sec s (j+1)) (fr Se s X bf (j+1)) (tu Se s X af (j+1))) (Se.length+p.toNat) (fr Se s X bf (j+1)) (tu Se s X af j):=by
     show TW _ _ _ _ _ _ (j+1+1)=_;rw [Q0X,bi]
    rw [bj];by_cases hp:p<0
    ·rw [show decide (p>=0)=false by simp;omega,Qj3,if_pos hp];rfl
    ·have ax:YM 400 (Qbl (Mb (T (j+1)) (sec s (j+1)) (fr Se s X bf (j+1)) (tu Se s X af (j+1)))) ((Mb (T (j+1)) (sec s (j+1)) (fr Se s X bf (j+1)) (tu Se s X af (j+1))).map enc) ((Se.length+p.toNat:Nat):Int) (fr Se s X bf (j+1)) (tu Se s X af j) Tu2=_:=QgW (by rw [NS];omega) (q.2.2.2 (by omega));rw [show decide (p>=0)=true by simp;omega,cond_true,Qja hp,show decide (((j+1:Nat):Int)>((s.length-1:Nat):Int))=false by simp;omega,Qj3];have n:=ax;unfold Qbl at n;simp -implicitDefEqProofs only [Q0,wI (show ((Se.length:Nat):Int)+p=((Se.length+p.toNat:Nat):Int) by omega) (by omega) (by omega),n,Qjd,Qja (Nat.succ_ne_zero _)];rfl
  ·simp only [Int.toNat_natCast];rw [Wc,Qi,Qj3,Qja (by omega)]
 have a5:T 0=List.replicate (Se.length+Pt.length) (0,0,0):=rfl;have e1:List.replicate (Se.length+Pt.length) [D.bool false]=Qbl (T 0):=by rw [a5];unfold Qbl;rw [List.map_replicate];rfl
 have e2:List.replicate (Se.length+Pt.length) [D.int .i64 (0:Int),D.int .i64 (0:Int),D.int .i64 (0:Int)]=(T 0).map enc:=by rw [a5,List.map_replicate];rfl
 rw [e1,e2,u];have hl:((Se.length+Pt.length:Nat):Int)=(((T s.length).length:Nat):Int):=by rw [show (T s.length).length=Se.length+Pt.length from HC]
 rw [hl];exact QfU (by rw [show (T s.length).length=Se.length+Pt.length from HC];omega) _
end
end Go.Vx
namespace Go.Vx
def OL:Int->List Occ->Prop
 |_,[]=>True
 |l,(x,a,b)::r=>l<x /\ -1000<=a/\a<b/\b<=20000/\x<=1000/\OL x r
theorem OL.mono:∀ {l l':Int} {O:List Occ},l'<=l->OL l O->OL l' O
 |_,_,[],_,_=>trivial
 |_,_,(x,a,b)::r,h,⟨c,h2⟩=>⟨by omega,h2⟩
theorem OL.filter {p:Occ->Bool}:∀ {l:Int} {O:List Occ},OL l O->OL l (O.filter p)
 |_,[],_=>trivial
 |l,(x,a,b)::r,⟨d,h2,e,f,g,c⟩=>by
  rw [Qjy];split
  ·exact ⟨d,h2,e,f,g,c.filter⟩
  ·exact (c.filter).mono (by omega)
theorem OL.mem:∀ {l:Int} {O:List Occ},OL l O->∀ q∈O,l<q.1 /\ -1000<=q.2.1/\q.2.1<q.2.2/\q.2.2<=20000/\q.1<=1000
 |_,[],_,_,h=>nomatch h
 |l,(x,a,b)::r,⟨c,h2,d,e,f,g⟩,q,h=>by
  cases h with
  |head=>exact ⟨c,h2,d,e,f⟩
  |tail _ h=>have:=g.mem q h;exact ⟨by omega,this.2⟩
def TI (T:List Occ):Prop:=∀ (r:Nat) (x a b:Int),T[r]? = some (x,a,b)->a<b->x=(r:Int) /\ -1000<=a/\b<=20000
theorem TI.add {T:List Occ} (h:TI T) {r:Nat} {f t:Int} (hf : -1000<=f) (ht:t<=20000):TI (Mb T r f t):=by
 unfold Mb;cases e:T[r]? with
 |none=>exact h
 |some q=>
  obtain ⟨x,a,b⟩:=q;dsimp only;have hr:=(List.getElem?_eq_some_iff.1 e).1;by_cases an:a<b
  ·have c:=h r x a b e an;rw [if_pos an];intro r' x' a' b' e' aj;rw [List.getElem?_set] at e';by_cases ak:r=r'
   ·subst ak;rw [if_pos rfl,if_pos hr] at e';cases e';refine ⟨rfl,?_,?_⟩ <;> split <;> omega
   ·rw [Qja ak] at e';exact h r' x' a' b' e' aj
  ·rw [Qja an];intro r' x' a' b' e' aj;rw [List.getElem?_set] at e';by_cases ak:r=r'
   ·subst ak;rw [if_pos rfl,if_pos hr] at e';cases e';exact ⟨rfl,hf,ht⟩
   ·rw [Qja ak] at e';exact h r' x' a' b' e' aj
theorem TI.ol:∀ {T:List Occ} {k:Nat},T.length+k<=1000->(∀ (r:Nat) (x a b:Int),T[r]? = some (x,a,b)->a<b->x=((r+k:Nat):Int) /\ -1000<=a/\b<=20000)->OL ((k:Int)-1) (T.filter Pq)
 |[],_,_,_=>trivial
 |(x,a,b)::T,k,hk,h=>by
  have ih:=TI.ol (T:=T) (k:=k+1) (by simp at hk;omega) fun r x a b e aj=>by
   have:=h (r+1) x a b e aj;rw [show r+1+k=r+(k+1) by omega] at this;exact this
  rw [show ((k+1:Nat):Int)-1=(k:Int) by omega] at ih;have c:=h 0 x a b rfl;rw [Qjy];by_cases aj:a<b
  ·have c:=c aj;rw [show Pq (x,a,b)=true by simpa [Pq] using aj,if_pos rfl];have hx:x=(k:Int):=by simpa using c.1
   refine ⟨by omega,c.2.1,aj,c.2.2,by simp at hk;omega,?_⟩;rw [hx];exact ih
  ·rw [show Pq (x,a,b)=false by simpa [Pq] using aj,Qja (by simp)];exact ih.mono (by omega)
section
variable {St Pt Se Li s:LL} (h:RtF St Pt Se Li s) {nm:List UInt8} {tl sp ac br bf af:Int} (hk:StkN tl sp ac br) (hb0:0<=bf) (hb1:bf<=60) (ha0:0<=af) (ha1:af<=5000)
include h hk hb0 hb1 ha0 ha1
theorem Qdl {i:Nat} (hi:i<s.length) : -1000<=fr Se s (YS Se s nm tl sp ac br) bf i/\tu Se s (YS Se s nm tl sp ac br) af i<=20000:=by
 have l2:=h.l2;have hr:=ND h (nm:=nm) hk;have b:=Q3X h (nm:=nm) hk (i:=i-1) (j:=i) (by omega) hi;have c1:=D8 (a:=fLV Se s (YS Se s nm tl sp ac br) i) (by omega) (show (1:Int)<=1000 by decide);unfold fr tu;constructor
 ·split <;> omega
 ·split <;> omega
theorem Q9f:OL (-1) (Q4t St Pt Se Li s (YS Se s nm tl sp ac br) bf af)/\(Q4t St Pt Se Li s (YS Se s nm tl sp ac br) bf af).length<=6:=by
 have an:=F6 h.lay;have aj:=fun i (hi:i<s.length)=>Qdl h (nm:=nm) hk hb0 hb1 ha0 ha1 hi
 have l2:=h.l2;unfold Q4t;generalize YS Se s nm tl sp ac br=X at aj;have hT:∀ i,i<=s.length->TI (TW Se.length Pt.length Li s (fr Se s X bf) (tu Se s X af) i):=by
  intro i;induction i with
  |zero=>
   intro _ r x a b e ak;have:=List.getElem?_eq_some_iff.1 e;obtain ⟨d,h2⟩:=this;simp only [TW,List.getElem_replicate] at h2;cases h2;omega
  |succ i ih=>
   intro hi;have ih:=ih (by omega);have q:=aj i (by omega);rw [TW];split
   ·exact ih.add q.1 q.2
   ·have c:=aj (i-1) (by omega);split
    ·exact ih.add q.1 q.2
    ·exact (ih.add q.1 q.2).add q.1 c.2
 constructor
 ·have:=TI.ol (T:=TW Se.length Pt.length Li s (fr Se s X bf) (tu Se s X af) s.length) (k:=0) (by rw [HC];omega) (fun r x a b e ak=>hT _ (Qjf _) r x a b e ak);exact this
 ·have hc:=Q6j h.hops (fun i=>((TW Se.length Pt.length Li s (fr Se s X bf) (tu Se s X af) (i+1)).filter Pq).length-1) (fun i=>?_) ?_ (s.length-1) (by omega)
  ·rw [show s.length-1+1=s.length by omega] at hc;omega
  ·rw [Q0X];have c1:=Q1O (T:=TW Se.length Pt.length Li s (fr Se s X bf) (tu Se s X af) (i+1)) (r:=sec s (i+1)) (f:=fr Se s X bf (i+1)) (t:=tu Se s X af (i+1));split
   ·omega
   ·have g:=Q1O (T:=Mb (TW Se.length Pt.length Li s (fr Se s X bf) (tu Se s X af) (i+1)) (sec s (i+1)) (fr Se s X bf (i+1)) (tu Se s X af (i+1))) (r:=Se.length+(pt Li s (i+1)).toNat) (f:=fr Se s X bf (i+1)) (t:=tu Se s X af i);omega
  ·have c1:=Q1O (T:=TW Se.length Pt.length Li s (fr Se s X bf) (tu Se s X af) 0) (r:=sec s 0) (f:=fr Se s X bf 0) (t:=tu Se s X af 0);have c0:((TW Se.length Pt.length Li s (fr Se s X bf) (tu Se s X af) 0).filter Pq).length=0:=by
    rw [TW];simp [Pq]
   show ((TW Se.length Pt.length Li s (fr Se s X bf) (tu Se s X af) 1).filter Pq).length-1<=0;rw [TW,if_pos rfl];omega
end
end Go.Vx
namespace Go.Vx
variable {R:Type}
def UX (n:Nat) (d:Int) (h2:LL) (c:Int) (k0:Int->oP R) (k1:Int->Bool->oP R):Nat->Int->oP R
 | 0,_=>none
 | m+1,a=>bif decide (a<c) then gb true (Q1 h2 a) [] fun b=>gb true (b[0]?) oF fun f=>gb true (b[1]?) oF fun i=>gb true (b[2]?) oF fun j=>gb true (b[3]?) oF fun g=>gb true (pIw f) 0 fun h=>bif (h == d) then gb true (pIw g) 0 fun e=>k0 (if 60<e then e else 60) else UX n d h2 c k0 k1 m (wJ (a+1)) else k1 a (decide (a<c))
def KN (n:Nat) (c:Int) (d e f g a h i:LL) (a1:Int) (K:Int->oP R):oP R:= UX n a1 a (a.length:Int) (fun b=>K b) (fun j k=>K 60) n 0
end Go.Vx
namespace Go.Vx
variable {R:Type}
def XZ (n:Nat) (p:Int) (ad:LL) (q:Int) (f g h i:LL) (r:Int) (b c s t u v x:LL) (j y:D) (k0:Int->oP R) (k1:Int->Bool->LL->LL->oP R):Nat->Int->LL->LL->oP R
 | 0,_,_,_=>none
 | m+1,a,d,e=>bif decide (a<q) then gb true (Q1 ad a) [] fun aj=>gb true (aj[0]?) oF fun ak=>gb true (aj[1]?) oF fun al=>gb true (aj[2]?) oF fun dw=>gb true (aj[3]?) oF fun au=>gb true (pIw al) 0 fun am=>gb true (pIw au) 0 fun an=>bif (a == 0) then gb true (pSl 4 y) [] fun av=>bif (a == (wJ ((av.length:Int)-1))) then gb true (pIw al) 0 fun aw=>gb true (KN n r b c s t u v x p some) 0 fun ax=>gb true (pIw ak) 0 fun ay=>gb true (Q1 c ay) [] fun ao=>gb true (ao[0]?) oF fun az=>gb true (ao[1]?) oF fun ba=>gb true (pIw j) 0 fun bb=>gb true (Q1 b bb) [] fun ae=>gb true (ae[0]?) oF fun bc=>gb true (ae[1]?) oF fun bd=>gb true (ae[2]?) oF fun be=>gb true (ae[3]?) oF fun bg=>gb true (ae[4]?) oF fun bh=>gb true (pSl 2 az) [] fun bi=>gb true (pIw ba) 0 fun bj=>gb true (RD bc) [] fun bk=>gb true (pIw bd) 0 fun bl=>gb true (pIw be) 0 fun bm=>gb true (pIw bg) 0 fun bn=>gb true (pIw bh) 0 fun bo=>gb true (ZX n f g h i bi bj bk bl bm bn bo 60 (wJ (aw+ax)) Tu3) ([],0,0) fun z=>bif (z.2.2 != 0) then k0 z.2.2 else gb true (Yf ((d.length+[[D.sl 3 z.1]].length)*24)) () fun dx=>gb true (Yf ((e.length+[[Q4 z.2.1]].length)*8)) () fun dy=>XZ n p ad q f g h i r b c s t u v x j y k0 k1 m (wJ (a+1)) (d++[[D.sl 3 z.1]]) (e++[[Q4 z.2.1]]) else gb true (pIw ak) 0 fun bp=>gb true (Q1 c bp) [] fun ap=>gb true (ap[0]?) oF fun bq=>gb true (ap[1]?) oF fun br=>gb true (pIw j) 0 fun bt=>gb true (Q1 b bt) [] fun ag=>gb true (ag[0]?) oF fun bu=>gb true (ag[1]?) oF fun bv=>gb true (ag[2]?) oF fun bx=>gb true (ag[3]?) oF fun bz=>gb true (ag[4]?) oF fun ca=>gb true (pSl 2 bq) [] fun cb=>gb true (pIw br) 0 fun cc=>gb true (RD bu) [] fun ce=>gb true (pIw bv) 0 fun cf=>gb true (pIw bx) 0 fun cg=>gb true (pIw bz) 0 fun ch=>gb true (pIw ca) 0 fun ci=>gb true (ZX n f g h i cb cc ce cf cg ch ci 60 (wJ (am+an)) Tu3) ([],0,0) fun aa=>bif (aa.2.2 != 0) then k0 aa.2.2 else gb true (Yf ((d.length+[[D.sl 3 aa.1]].length)*24)) () fun dz=>gb true (Yf ((e.length+[[Q4 aa.2.1]].length)*8)) () fun ea=>XZ n p ad q f g h i r b c s t u v x j y k0 k1 m (wJ (a+1)) (d++[[D.sl 3 aa.1]]) (e++[[Q4 aa.2.1]]) else gb true (pSl 4 y) [] fun cj=>bif (a == (wJ ((cj.length:Int)-1))) then gb true (pIw al) 0 fun ck=>gb true (KN n r b c s t u v x p some) 0 fun cm=>gb true (pIw ak) 0 fun cn=>gb true (Q1 c cn) [] fun aq=>gb true (aq[0]?) oF fun co=>gb true (aq[1]?) oF fun cp=>gb true (pIw j) 0 fun cq=>gb true (Q1 b cq) [] fun ah=>gb true (ah[0]?) oF fun cr=>gb true (ah[1]?) oF fun cs=>gb true (ah[2]?) oF fun ct=>gb true (ah[3]?) oF fun cu=>gb true (ah[4]?) oF fun cv=>gb true (pSl 2 co) [] fun cw=>gb true (pIw cp) 0 fun cx=>gb true (RD cr) [] fun cy=>gb true (pIw cs) 0 fun cz=>gb true (pIw ct) 0 fun da=>gb true (pIw cu) 0 fun db=>gb true (pIw cv) 0 fun dc=>gb true (ZX n f g h i cw cx cy cz da db dc 0 (wJ (ck+cm)) Tu3) ([],0,0) fun ab=>bif (ab.2.2 != 0) then k0 ab.2.2 else gb true (Yf ((d.length+[[D.sl 3 ab.1]].length)*24)) () fun eb=>gb true (Yf ((e.length+[[Q4 ab.2.1]].length)*8)) () fun ec=>XZ n p ad q f g h i r b c s t u v x j y k0 k1 m (wJ (a+1)) (d++[[D.sl 3 ab.1]]) (e++[[Q4 ab.2.1]]) else gb true (pIw ak) 0 fun dd=>gb true (Q1 c dd) [] fun ar=>gb true (ar[0]?) oF fun de=>gb true (ar[1]?) oF fun df=>gb true (pIw j) 0 fun dg=>gb true (Q1 b dg) [] fun ai=>gb true (ai[0]?) oF fun dh=>gb true (ai[1]?) oF fun di=>gb true (ai[2]?) oF fun dj=>gb true (ai[3]?) oF fun dk=>gb true (ai[4]?) oF fun dl=>gb true (pSl 2 de) [] fun dn=>gb true (pIw df) 0 fun dp=>gb true (RD dh) [] fun dq=>gb true (pIw di) 0 fun dr=>gb true (pIw dj) 0 fun ds=>gb true (pIw dk) 0 fun dt=>gb true (pIw dl) 0 fun du=>gb true (ZX n f g h i dn dp dq dr ds dt du 0 (wJ (am+an)) Tu3) ([],0,0) fun ac=>bif (ac.2.2 != 0) then k0 ac.2.2 else gb true (Yf ((d.length+[[D.sl 3 ac.1]].length)*24)) () fun ed=>gb true (Yf ((e.length+[[Q4 ac.2.1]].length)*8)) () fun ee=>XZ n p ad q f g h i r b c s t u v x j y k0 k1 m (wJ (a+1)) (d++[[D.sl 3 ac.1]]) (e++[[Q4 ac.2.1]]) else k1 a (decide (a<q)) d e
def ZG (n:Nat) (h2:LL) (c:Int) (d e f g:LL) (h:Int) (i j k l o p q:LL) (k0:Int->oP R) (k1:Int->Bool->LL->LL->oP R):Nat->Int->LL->LL->oP R
 | 0,_,_,_=>none
 | m+1,a,r,s=>bif decide (a<c) then gb true (Q1 h2 a) [] fun b=>gb true (b[0]?) oF fun aa=>gb true (b[1]?) oF fun v=>gb true (b[2]?) oF fun ab=>gb true (b[3]?) oF fun t=>gb true (pSl 4 t) [] fun u=>XZ n a u (u.length:Int) d e f g h i j k l o p q v t (fun x=>k0 x) (fun ac ad y z=>ZG n h2 c d e f g h i j k l o p q k0 k1 m (wJ (a+1)) y z) n 0 r s else k1 a (decide (a<c)) r s
def HN (n:Nat) (b c d e:LL) (f:Int) (g h a i j k l:LL) (K:LL->LL->Int->oP R):oP R:= gb true (J9 n b c d e f g h a i j k l some) 0 fun m=>bif (m != 0) then K [] [] 1 else ZG n a (a.length:Int) b c d e f g h a i j k l (fun o=>K [] [] o) (fun r s p q=>K p q 0) n 0 [] []
end Go.Vx
namespace Go.Vx
variable {R:Type}
def VZ (n:Nat) (c:Int) (a:LL) (k0:D->D->D->D->oP R) (k1:Int->Bool->oP R):Nat->Int->oP R
 | 0,_=>none
 | m+1,h2=>bif (decide (h2<(a.length:Int))) then gb true (Q1 a h2) [] fun d=>gb true (d[0]?) oF fun e=>gb true (pIw e) 0 fun f=>bif (f == c) then gb true (Q1 a h2) [] fun b=>gb true (b[0]?) oF fun g=>gb true (b[1]?) oF fun h=>gb true (b[2]?) oF fun i=>gb true (b[3]?) oF fun j=>k0 g h i j else VZ n c a k0 k1 m (wJ (h2+1)) else k1 h2 (decide (h2<(a.length:Int)))
def PX (n:Nat) (a:LL) (a1:Int) (K:D->D->D->D->Bool->oP R):oP R:= VZ n a1 a (fun b c d e=>K b c d e true) (fun f g=>K (Q4 0) (Q4 0) (Q4 0) (Q4 0) false) n 0
end Go.Vx
namespace Go.Vx
variable {R:Type}
def Yz (n:Nat) (g:Int) (k l o p:LL) (q:Int) (e r s t h u v:LL) (x d:D) (k0:Int->Bool->LL->LL->oP R):Nat->Int->LL->LL->oP R
 | 0,_,_,_=>none
 | m+1,a,i,j=>gb true (pSl 4 d) [] fun aj=>bif (decide (a<(aj.length:Int))) then gb true (pSl 4 d) [] fun aw=>gb true (Q1 aw a) [] fun ax=>gb true (ax[1]?) oF fun ay=>gb true (pIw ay) 0 fun ak=>bif (a == 0) then jn (fun (az:Int)=>gb true (XY n q e r s t h u v g a Tu2) ((.bool false),(.bool false)) fun al=>gb true (pIw x) 0 fun ba=>gb true (Q1 e ba) [] fun y=>gb true (y[0]?) oF fun bb=>gb true (y[1]?) oF fun bc=>gb true (y[2]?) oF fun bd=>gb true (y[3]?) oF fun be=>gb true (y[4]?) oF fun bg=>gb true (pSl 2 al.1) [] fun bh=>gb true (pIw al.2) 0 fun bi=>gb true (RD bb) [] fun bj=>gb true (pIw bc) 0 fun bk=>gb true (pIw bd) 0 fun bl=>gb true (pIw be) 0 fun bm=>gb true (pIw bg) 0 fun bn=>gb true (H7 n k l o p bh bi bj bk bl bm bn 60 az Tu3) ([],0,0) fun ac=>gb true (Yf ((i.length+[[D.sl 3 ac.1]].length)*24)) () fun ek=>gb true (Yf ((j.length+[[Q4 ac.2.1]].length)*8)) () fun el=>Yz n g k l o p q e r s t h u v x d k0 m (wJ (a+1)) (i++[[D.sl 3 ac.1]]) (j++[[Q4 ac.2.1]])) fun am=>gb true (PX n h g Tu5) ((.bool false),(.bool false),(.bool false),(.bool false),false) fun an=>gb true (pSl 4 d) [] fun bo=>bif (decide (a<(wJ ((bo.length:Int)-1)))) then gb true (pSl 4 d) [] fun bp=>gb true (Q1 bp a) [] fun bq=>gb true (bq[1]?) oF fun br=>gb true (pIw br) 0 fun bt=>gb true (pSl 4 d) [] fun bu=>gb true (Q1 bu a) [] fun bv=>gb true (bv[3]?) oF fun bx=>gb true (pIw bx) 0 fun bz=>am (wJ (bt+bz)) else bif an.2.2.2.2 then gb true (pSl 4 d) [] fun ca=>gb true (Q1 ca a) [] fun cb=>gb true (cb[1]?) oF fun cc=>gb true (pIw cc) 0 fun ce=>gb true (pIw an.2.2.2.1) 0 fun i64=>am (wJ (ce+(if 60<i64 then i64 else 60))) else gb true (XY n q e r s t h u v g a Tu2) ((.bool false),(.bool false)) fun ao=>gb true (pIw x) 0 fun cf=>gb true (Q1 e cf) [] fun z=>gb true (z[0]?) oF fun cg=>gb true (z[1]?) oF fun ch=>gb true (z[2]?) oF fun ci=>gb true (z[3]?) oF fun cj=>gb true (z[4]?) oF fun ck=>gb true (pSl 2 ao.1) [] fun cm=>gb true (pIw ao.2) 0 fun cn=>gb true (RD cg) [] fun co=>gb true (pIw ch) 0 fun cp=>gb true (pIw ci) 0 fun cq=>gb true (pIw cj) 0 fun cr=>gb true (pIw ck) 0 fun cs=>gb true (H7 n k l o p cm cn co cp cq cr cs 60 (wJ (ak+60)) Tu3) ([],0,0) fun ad=>gb true (Yf ((i.length+[[D.sl 3 ad.1]].length)*24)) () fun em=>gb true (Yf ((j.length+[[Q4 ad.2.1]].length)*8)) () fun en=>Yz n g k l o p q e r s t h u v x d k0 m (wJ (a+1)) (i++[[D.sl 3 ad.1]]) (j++[[Q4 ad.2.1]]) else jn (fun (ct:Int)=>gb true (XY n q e r s t h u v g a Tu2) ((.bool false),(.bool false)) fun ap=>gb true (pIw x) 0 fun cu=>gb true (Q1 e cu) [] fun aa=>gb true (aa[0]?) oF fun cv=>gb true (aa[1]?) oF fun cw=>gb true (aa[2]?) oF fun cx=>gb true (aa[3]?) oF fun cy=>gb true (aa[4]?) oF fun cz=>gb true (pSl 2 ap.1) [] fun da=>gb true (pIw ap.2) 0 fun db=>gb true (RD cv) [] fun dc=>gb true (pIw cw) 0 fun dd=>gb true (pIw cx) 0 fun de=>gb true (pIw cy) 0 fun df=>gb true (pIw cz) 0 fun dg=>gb true (H7 n k l o p da db dc dd de df dg 0 ct Tu3) ([],0,0) fun ae=>gb true (Yf ((i.length+[[D.sl 3 ae.1]].length)*24)) () fun eo=>gb true (Yf ((j.length+[[Q4 ae.2.1]].length)*8)) () fun ep=>Yz n g k l o p q e r s t h u v x d k0 m (wJ (a+1)) (i++[[D.sl 3 ae.1]]) (j++[[Q4 ae.2.1]])) fun aq=>gb true (PX n h g Tu5) ((.bool false),(.bool false),(.bool false),(.bool false),false) fun ar=>gb true (pSl 4 d) [] fun dh=>bif (decide (a<(wJ ((dh.length:Int)-1)))) then gb true (pSl 4 d) [] fun di=>gb true (Q1 di a) [] fun dj=>gb true (dj[1]?) oF fun dk=>gb true (pIw dk) 0 fun dl=>gb true (pSl 4 d) [] fun dn=>gb true (Q1 dn a) [] fun dp=>gb true (dp[3]?) oF fun dq=>gb true (pIw dq) 0 fun dr=>aq (wJ (dl+dr)) else bif ar.2.2.2.2 then gb true (pSl 4 d) [] fun ds=>gb true (Q1 ds a) [] fun dt=>gb true (dt[1]?) oF fun du=>gb true (pIw du) 0 fun dw=>gb true (pIw ar.2.2.2.1) 0 fun au=>aq (wJ (dw+(if 60<au then au else 60))) else gb true (XY n q e r s t h u v g a Tu2) ((.bool false),(.bool false)) fun av=>gb true (pIw x) 0 fun dx=>gb true (Q1 e dx) [] fun ab=>gb true (ab[0]?) oF fun dy=>gb true (ab[1]?) oF fun dz=>gb true (ab[2]?) oF fun ea=>gb true (ab[3]?) oF fun eb=>gb true (ab[4]?) oF fun ec=>gb true (pSl 2 av.1) [] fun ed=>gb true (pIw av.2) 0 fun ee=>gb true (RD dy) [] fun ef=>gb true (pIw dz) 0 fun eg=>gb true (pIw ea) 0 fun eh=>gb true (pIw eb) 0 fun ei=>gb true (pIw ec) 0 fun ej=>gb true (H7 n k l o p ed ee ef eg eh ei ej 0 (wJ (ak+60)) Tu3) ([],0,0) fun ag=>gb true (Yf ((i.length+[[D.sl 3 ag.1]].length)*24)) () fun eq=>gb true (Yf ((j.length+[[Q4 ag.2.1]].length)*8)) () fun er=>Yz n g k l o p q e r s t h u v x d k0 m (wJ (a+1)) (i++[[D.sl 3 ag.1]]) (j++[[Q4 ag.2.1]]) else k0 a (decide (a<(aj.length:Int))) i j
def UE (n:Nat) (c d e f:LL) (g:Int) (h i a j k l o:LL) (k0:Int->Bool->LL->LL->oP R):Nat->Int->LL->LL->oP R
 | 0,_,_,_=>none
 | m+1,h2,p,q=>bif (decide (h2<(a.length:Int))) then gb true (Q1 a h2) [] fun b=>gb true (b[0]?) oF fun v=>gb true (b[1]?) oF fun r=>gb true (b[2]?) oF fun x=>gb true (b[3]?) oF fun s=>Yz n h2 c d e f g h i a j k l o r s (fun y z t u=>UE n c d e f g h i a j k l o k0 m (wJ (h2+1)) t u) n 0 p q else k0 h2 (decide (h2<(a.length:Int))) p q
def SH (n:Nat) (a b c d:LL) (e:Int) (f g h i j k l:LL) (K:LL->LL->Int->oP R):oP R:= gb true (Ul n a b c d e f g h i j k l some) 0 fun m=>bif (m != 0) then K [] [] 1 else UE n a b c d e f g h i j k l (fun q r o p=>K o p 0) n 0 [] []
end Go.Vx
namespace Go.Vx
def Q9z {α:Type} (nr:Nat->Nat) (f:Nat->Nat->α):Nat->List α
 |0=>[]
 |i+1=>Q9z nr f i++(List.range (nr i)).map (f i)
def base (nr:Nat->Nat):Nat->Nat
 |0=>0
 |i+1=>base nr i+nr i
theorem Zv {α:Type} {nr:Nat->Nat} {f:Nat->Nat->α}:∀ {i:Nat},(Q9z nr f i).length=base nr i
 |0=>rfl
 |i+1=>by rw [Q9z,Qjr,Zv,base,Qj6,List.length_range]
theorem LK {nr:Nat->Nat} {i:Nat}:∀ {j:Nat},i<j->base nr i+nr i<=base nr j
 |0,h=>by omega
 |j+1,h=>by
  rw [base];by_cases aj:i=j
  ·subst aj;omega
  ·have:=LK (nr:=nr) (i:=i) (j:=j) (by omega);omega
theorem Q0M {α:Type} {nr:Nat->Nat} {f:Nat->Nat->α} {i k:Nat} (hk:k<nr i):∀ {L:Nat},i<L->(Q9z nr f L)[base nr i+k]? = some (f i k)
 |0,h=>by omega
 |L+1,h=>by
  rw [Q9z];by_cases aj:i=L
  ·subst aj;rw [List.getElem?_append_right (by rw [Zv];omega),Zv,Nat.add_sub_cancel_left,Qjq,List.getElem?_range hk];rfl
  ·have:=LK (nr:=nr) (i:=i) (j:=L) (by omega);rw [List.getElem?_append_left (by rw [Zv];omega)];exact Q0M hk (by omega)
theorem Q5T {nr:Nat->Nat} {a:Nat}:∀ {L:Nat},a<base nr L->∃ i k,i<L/\k<nr i/\a=base nr i+k
 |0,h=>by simp [base] at h
 |L+1,h=>by
  rw [base] at h;by_cases ha:a<base nr L
  ·obtain ⟨i,k,c,h2,b⟩:=Q5T ha;exact ⟨i,k,by omega,h2,b⟩
  ·exact ⟨L,a-base nr L,by omega,by omega,by omega⟩
def GJ (Ls:LL) (i:Nat):LL:=match Ls[i]? with
 |some [_,_,_,.sl _ r]=>r
 |_=>[]
def wOf (Ls:LL) (i:Nat):Int:=match Ls[i]? with
 |some [_,_,.int _ w,_]=>w
 |_=>0
def rF (Ls:LL) (i k j:Nat):Int:=match ((GJ Ls i).getD k [])[j]? with
 |some (.int _ x)=>x
 |_=>0
def Qgc (Ro:LL) (r:Int):LL:=match Ro[r.toNat]? with
 |some [.sl _ s,_]=>s
 |_=>[]
structure Cx where
 G:Geo
 Ro:LL
 Ls:LL
 T:List Tup
 nm:List UInt8
 tl:Int
 sp:Int
 ac:Int
 br:Int
namespace Cx
variable (X:Cx)
def nr (i:Nat):Nat:=(GJ X.Ls i).length
def w (i:Nat):Int:=wOf X.Ls i
def ex (i k:Nat):Int:=rF X.Ls i k 1
def mn (i k:Nat):Int:=rF X.Ls i k 2
def mx (i k:Nat):Int:=rF X.Ls i k 3
def st (i k:Nat):LL:=Qgc X.Ro (rF X.Ls i k 0)
def rn (i k:Nat):Run:=YS X.G.Se (X.st i k) X.nm X.tl X.sp X.ac X.br
def tn (i:Nat):Option Tup:=X.T.find? fun t=>t.1 == i
def rest (i:Nat):Int:=match X.tn i with
 |some t=>if 60<t.2.2.2 then t.2.2.2 else 60
 |none=>60
def bf (k:Nat):Int:=if k=0 then 60 else 0
def af (i k:Nat):Int:=if k=X.nr i-1 then X.ex i k+X.rest i else X.ex i k+X.mx i k
def occ (i k:Nat):List Occ:=Q4t X.G.St X.G.Pt X.G.Se X.G.Li (X.st i k) (X.rn i k) (bf k) (X.af i k)
def run (i k:Nat):Int:=AE (X.rn i k)
def L:Nat:=X.Ls.length
structure OK:Prop where
 g:X.G.OK
 sk:StkN X.tl X.sp X.ac X.br
 gd:GoodP X.G X.Ro X.Ls
 l0:1<=X.Ls.length
 l1:X.Ls.length<=3
 tr:∀ t∈X.T,Q8L X.G X.Ro X.Ls t
 fd:(X.T.map (·.1)).Nodup
 td:(X.T.map (·.2.1)).Nodup
 tl:X.T.length<=20
structure RdOK (i k:Nat):Prop where
 row:(GJ X.Ls i)[k]? = some [Q4 (rF X.Ls i k 0),Q4 (X.ex i k),Q4 (X.mn i k),Q4 (X.mx i k)]
 ro:Q1 X.Ro (rF X.Ls i k 0)=some [D.sl 2 (X.st i k),Q4 0]
 rt:RtF X.G.St X.G.Pt X.G.Se X.G.Li (X.st i k)
 ex0:0<=X.ex i k
 ex1:X.ex i k<3
 mn0:0<=X.mn i k
 mn1:X.mn i k<=X.mx i k
 mn2:X.mx i k<=X.mn i k+3
 mn3:X.mn i k<=10
variable {X} (h:X.OK)
include h
theorem H8 {i:Nat} (hi:i<X.Ls.length):X.Ls[i]? = some [D.str (nmN i),Q4 0,Q4 (X.w i),D.sl 4 (GJ X.Ls i)]/\(X.nr i=1\/X.nr i=2)/\(0<=X.w i/\X.w i<4):=by
 obtain ⟨w,rides,b,h2,c,a⟩:=h.gd.ls i _ (Qj9 hi);have er:GJ X.Ls i=rides:=by grind [GJ]
 have ew:X.w i=w:=by grind [Cx.w,wOf]
 refine ⟨by simp_all,?_,by omega⟩;unfold nr;rw [er];rcases a with ⟨r,x,y,rfl,_⟩ | ⟨r,r',x,y,z,rfl,_,_⟩
 all_goals simp
theorem rd {i k:Nat} (hi:i<X.Ls.length) (hk:k<X.nr i):X.RdOK i k:=by
 obtain ⟨w,rides,j,h2,l,d⟩:=h.gd.ls i _ (Qj9 hi);have e:X.Ls[i]? = some [D.str (nmN i),Q4 0,Q4 w,D.sl 4 rides]:=by simp_all
 have er:GJ X.Ls i=rides:=by grind [GJ]
 have hr:∃ r x y b,rides[k]? = some r/\TH X.G X.Ro r x y b:=by
  unfold nr at hk;rw [er] at hk;rcases d with ⟨r,x,y,rfl,h⟩ | ⟨r,r',x,y,z,rfl,h,h'⟩
  all_goals grind
 obtain ⟨r,x,y,b,hr,rt,ex,mn,mx,s,rfl,c,f,m,n,o⟩:=hr;have eg:(GJ X.Ls i).getD k []=[Q4 rt,Q4 ex,Q4 mn,Q4 mx]:=by simp_all
 have a:rF X.Ls i k 0=rt:=by grind [rF]
 have e1:X.ex i k=ex:=by grind [Cx.ex,rF]
 have e2:X.mn i k=mn:=by unfold Cx.mn rF;rw [eg];rfl
 have g:X.mx i k=mx:=by unfold Cx.mx rF;rw [eg];rfl
 have es:X.st i k=s:=by unfold st Qgc;rw [a,Int.toNat_natCast,c]
 exact ⟨by rw [a,e1,e2,g,er,hr],by rw [a,es,Qe,c],by rw [es];exact f.f h.g,by omega,by omega,by omega,by omega,by omega,by omega⟩
theorem Q0G {i:Nat}:60<=X.rest i/\X.rest i<=60:=by
 unfold rest;cases e:X.tn i with
 |none=>simp_all
 |some t=>
  have:=h.tr t (List.mem_of_find?_eq_some e);have a:=this.2.2.2.1;have h2:=this.2.2.2.2.2.1
  grind
theorem QgA {i k:Nat} (hi:i<X.Ls.length) (hk:k<X.nr i):(0<=bf k/\bf k<=60)/\0<=X.af i k/\X.af i k<=5000:=by
 have r:=rd h hi hk;have:=Q0G h (i:=i);have:=r.ex0;have:=r.ex1;have:=r.mn0;have:=r.mn1;have:=r.mn2;have:=r.mn3
 grind [bf,af]
theorem Qgv {i k:Nat} (hi:i<X.Ls.length) (hk:k<X.nr i):ZX 400 X.G.St X.G.Pt X.G.Se X.G.Li (X.st i k) 0 X.nm X.tl X.sp X.ac X.br (bf k) (X.af i k) Tu3=some ((X.occ i k).map enc,X.run i k,0):=by
 have b:=QgA h hi hk;exact Qek (rd h hi hk).rt h.sk b.1.1 (by omega) b.2.1 (by omega)
theorem QfW {i k:Nat} (hi:i<X.Ls.length) (hk:k<X.nr i):H7 400 X.G.St X.G.Pt X.G.Se X.G.Li (X.st i k) 0 X.nm X.tl X.sp X.ac X.br (bf k) (X.af i k) Tu3=some ((X.occ i k).map enc,X.run i k,0):=by
 have b:=QgA h hi hk;exact QfR (rd h hi hk).rt h.sk b.1.1 (by omega) b.2.1 (by omega)
theorem Qe8 {i k:Nat} (hi:i<X.Ls.length) (hk:k<X.nr i):OL (-1) (X.occ i k)/\(X.occ i k).length<=6:=by
 have b:=QgA h hi hk;exact Q9f (rd h hi hk).rt h.sk b.1.1 b.1.2 b.2.1 b.2.2
theorem SA {i k:Nat} (hi:i<X.Ls.length) (hk:k<X.nr i):0<=X.run i k/\X.run i k<=7001:=ND (rd h hi hk).rt h.sk
theorem base_le:base X.nr X.L<=6:=by
 have a:=h.l1;have hb:∀ i,i<=X.Ls.length->base X.nr i<=2*i:=by
  intro i;induction i with
  |zero=>intro _;exact Qjf _
  |succ i ih=>
   intro hi;have:=(H8 h (i:=i) (by omega)).2.1
   grind [base]
 grind [L]
end Cx
theorem PlanR.cx {G:Geo} {per:Int} {Sk Ro Ls Ch Tu Sy De:LL} (h:PlanR G per Sk Ro Ls Ch Tu Sy De):∃ X:Cx,X.OK/\X.G=G/\X.Ro=Ro/\X.Ls=Ls/\Tu=X.T.map tuR/\Sk=[[D.str X.nm,Q4 X.tl,Q4 X.sp,Q4 X.ac,Q4 X.br]]:=by
 obtain ⟨T,hT,t1,t2,e,f⟩:=h.tu;obtain ⟨a,b,c,d,hS,hs⟩:=h.sk;exact ⟨⟨G,Ro,Ls,T,bs [88],a,b,c,d⟩,⟨h.ok,hs,h.good,h.l0,h.l1,t1,t2,e,f⟩,rfl,rfl,rfl,hT,hS⟩
end Go.Vx
namespace Go.Vx
def GH (L:List (List Occ)):LL:=L.map fun o=>[D.sl 3 (o.map enc)]
theorem Vn {L:List (List Occ)} {o:List Occ}:GH L++[[D.sl 3 (o.map enc)]]=GH (L++[o]):=by simp [GH]
theorem Vp {L:List Int} {x:Int}:encI L++[[D.int .i64 x]]=encI (L++[x]):=by simp [encI]
theorem J4 {L:List (List Occ)}:(GH L).length=L.length:=by simp [GH]
theorem Zr {α:Type} {A:List α} {f:Nat->α} {k:Nat}:A++(List.range k).map f++[f k]=A++(List.range (k+1)).map f:=by simp [List.range_succ]
namespace Cx
variable {R:Type} {n:Nat} {X:Cx} (h:X.OK)
theorem Q94 {T:List Tup} (hT:T.length<=1000) {i:Nat} {k0:Int->oP R} {k1:Int->Bool->oP R} {E:oP R} (hk:∀ a b,k1 a b=E):∀ (aj:List Tup) (j m:Nat),T.drop j=aj->aj.length<m->UX n (i:Int) (T.map tuR) ((T.length:Nat):Int) k0 k1 m (j:Int)=(match aj.find? (fun t=>t.1 == i) with | some t=>k0 (if 60<t.2.2.2 then t.2.2.2 else 60) | none=>E)
 |[],j,m+1,hd,_=>by
  have:=ZP hd;rw [UX,show decide ((j:Int)<((T.length:Nat):Int))=false by simpa using this,Qj3,hk];rfl
 |(a,b,lo,hi)::aj,j,m+1,hd,hm=>by
  obtain ⟨e,ak,hj⟩:=Yh hd;rw [UX,Qc hj,cond_true,QL e];simp -implicitDefEqProofs only [Q0,tuR,Qj2,Qj4,Q3,Qq (show j<=1000 by omega)];rw [List.find?_cons];by_cases ha:a=i
  ·subst ha;rw [show ((a:Int) == (a:Int))=true by simp,cond_true,show ((a,b,lo,hi).1 == a)=true by simp]
  ·rw [show ((a:Int) == (i:Int))=false by simp;omega,Qj3,show ((a,b,lo,hi).1 == i)=false by simpa using ha];exact Q94 hT hk aj (j+1) m ak (by simpa using hm)
theorem Q9h {T:List Tup} (hT:T.length<=1000) {i:Nat} {k0:D->D->D->D->oP R} {k1:Int->Bool->oP R} {E:oP R} (hk:∀ a b,k1 a b=E):∀ (aj:List Tup) (j m:Nat),T.drop j=aj->aj.length<m->VZ n (i:Int) (T.map tuR) k0 k1 m (j:Int)=(match aj.find? (fun t=>t.1 == i) with | some t=>k0 (Q4 t.1) (Q4 t.2.1) (Q4 t.2.2.1) (Q4 t.2.2.2) | none=>E)
 |[],j,m+1,hd,_=>by
  have:=ZP hd;rw [VZ,Qj6,show decide ((j:Int)<((T.length:Nat):Int))=false by simpa using this,Qj3,hk];rfl
 |(a,b,lo,hi)::aj,j,m+1,hd,hm=>by
  obtain ⟨e,ak,hj⟩:=Yh hd;rw [VZ,Qj6,Qc hj,cond_true,QL e];simp -implicitDefEqProofs only [Q0,tuR,Qj2,Qj4,Q3,Qq (show j<=1000 by omega)];rw [List.find?_cons];by_cases ha:a=i
  ·subst ha;rw [show ((a:Int) == (a:Int))=true by simp,cond_true,show ((a,b,lo,hi).1 == a)=true by simp]
  ·rw [show ((a:Int) == (i:Int))=false by simp;omega,Qj3,show ((a,b,lo,hi).1 == i)=false by simpa using ha];exact Q9h hT hk aj (j+1) m ak (by simpa using hm)
def skR (X:Cx):LL:=[[D.str X.nm,Q4 X.tl,Q4 X.sp,Q4 X.ac,Q4 X.br]]
include h
theorem QgN {per:Int} {Sk Ro Ls Ch Sy De:LL} {i:Nat}:KN 400 per Sk Ro Ls Ch (X.T.map tuR) Sy De (i:Int) (some:Int->Option Int)=some (X.rest i):=by
 unfold KN;rw [Qj6];have:=Q94 (n:=400) (T:=X.T) (i:=i) (k0:=(some:Int->Option Int)) (k1:=fun _ _=>some 60) (by have:=h.tl;omega) (fun _ _=>rfl) X.T 0 400 rfl (by have:=h.tl;omega);refine this.trans ?_;unfold rest tn;cases X.T.find? fun t=>t.1 == i <;> rfl
theorem Qc1 {i:Nat} (K:D->D->D->D->Bool->oP R):PX 400 (X.T.map tuR) (i:Int) K=(match X.tn i with | some t=>K (Q4 t.1) (Q4 t.2.1) (Q4 t.2.2.1) (Q4 t.2.2.2) true | none=>K (Q4 0) (Q4 0) (Q4 0) (Q4 0) false):=
 Q9h (n:=400) (T:=X.T) (i:=i) (k0:=fun a b c d=>K a b c d true) (k1:=fun _ _=>K (Q4 0) (Q4 0) (Q4 0) (Q4 0) false) (by have:=h.tl;omega) (fun _ _=>rfl) X.T 0 400 rfl (by have:=h.tl;omega)
theorem QbH {per:Int} {Ch Sy De:LL} {i:Nat} (hi:i<X.Ls.length) {A:List (List Occ)} {B:List Int} (hA:A.length<=100) (hB:B.length<=100) {k0:Int->oP R} {K:LL->LL->oP R} {k1:Int->Bool->LL->LL->oP R} (hk:∀ a b u v,k1 a b u v=K u v) :
  XZ 400 (i:Int) (GJ X.Ls i) ((X.nr i:Nat):Int) X.G.St X.G.Pt X.G.Se X.G.Li per X.skR X.Ro X.Ls Ch (X.T.map tuR) Sy De (Q4 0) (D.sl 4 (GJ X.Ls i)) k0 k1 400 0 (GH A) (encI B)=K (GH (A++(List.range (X.nr i)).map (X.occ i))) (encI (B++(List.range (X.nr i)).map (X.run i))):=by
 have hl:=(H8 h hi).2.1;refine Qu (r:=fun m k=>XZ 400 (i:Int) (GJ X.Ls i) ((X.nr i:Nat):Int) X.G.St X.G.Pt X.G.Se X.G.Li per X.skR X.Ro X.Ls Ch (X.T.map tuR) Sy De (Q4 0) (D.sl 4 (GJ X.Ls i)) k0 k1 m k (GH (A++(List.range k.toNat).map (X.occ i))) (encI (B++(List.range k.toNat).map (X.run i)))) (N:=X.nr i) (fun m k hk=>?_) (fun m=>?_) (X.nr i) 400 0 (by omega) (by omega) |> Eq.trans (by simp)
 ·simp only [Int.toNat_natCast];have r:=rd h hi hk;have rr:=Q0G h (i:=i);have j:=r.ex0;have e1:=r.ex1;have e2:=r.mn0;have l:=r.mn1;have n:=r.mn2;have o:=r.mn3;have hh:=Qgv h hi hk;have an:Q1 (GJ X.Ls i) (k:Int)=some [Q4 (rF X.Ls i k 0),Q4 (X.ex i k),Q4 (X.mn i k),Q4 (X.mx i k)]:=by rw [Qe,r.row]
  have ao:Q1 X.skR 0=some [D.str X.nm,Q4 X.tl,Q4 X.sp,Q4 X.ac,Q4 X.br]:=rfl;have ar:=r.ro;have hw:wJ (((List.length (GJ X.Ls i):Nat):Int)-1)=((X.nr i-1:Nat):Int):=Jq (k:=X.nr i) (by omega) (by omega);have d:Yf (((GH (A++(List.range k).map (X.occ i))).length+List.length [[D.sl 3 ((X.occ i k).map enc)]])*24)=some ():=XF (by simp [J4];omega);have e:Yf (((encI (B++(List.range k).map (X.run i))).length+List.length [[D.int .i64 (X.run i k)]])*8)=some ():=XF (by simp [Xg];omega);have ak:=QgN h (per:=per) (Sk:=X.skR) (Ro:=X.Ro) (Ls:=X.Ls) (Ch:=Ch) (Sy:=Sy) (De:=De) (i:=i);have aq:((k:Int) == ((X.nr i-1:Nat):Int))=decide (k=X.nr i-1):=by
   by_cases hc:k=X.nr i-1
   ·rw [Qj7 hc];simp;omega
   ·rw [Qj5 hc];simp;omega
  have f:((k:Int) == 0)=decide (k=0):=by
   by_cases hc:k=0
   ·rw [Qj7 hc];simp;omega
   ·rw [Qj5 hc];simp;omega
  have w1:wJ (X.ex i k+X.rest i)=X.ex i k+X.rest i:=Q7 (by omega) (by omega);have g:wJ (X.ex i k+X.mx i k)=X.ex i k+X.mx i k:=Q7 (by omega) (by omega);rw [XZ,Qc hk,cond_true,an];simp -implicitDefEqProofs only [Q0,Qj2,Qj4,Q3,QG,Xx,hw,aq,f,ak,ar,ao,w1,g,Qq (show k<=1000 by omega)];unfold bf af at hh;by_cases c1:k=0 <;> by_cases c:k=X.nr i-1
  ·simp -implicitDefEqProofs only [if_pos c1,if_pos c] at hh;simp -implicitDefEqProofs only [Qj7 c1,Qj7 c,cond_true,hh,Q0,show ((0:Int) != 0)=false from rfl,Qj3,d,e,Vn,Vp,Zr]
  ·simp -implicitDefEqProofs only [if_pos c1,Qja c] at hh;simp -implicitDefEqProofs only [Qj7 c1,Qj5 c,cond_true,hh,Q0,show ((0:Int) != 0)=false from rfl,Qj3,d,e,Vn,Vp,Zr]
  ·simp -implicitDefEqProofs only [Qja c1,if_pos c] at hh;simp -implicitDefEqProofs only [Qj5 c1,Qj7 c,cond_true,hh,Q0,show ((0:Int) != 0)=false from rfl,Qj3,d,e,Vn,Vp,Zr]
  ·simp -implicitDefEqProofs only [Qja c1,Qja c] at hh;simp -implicitDefEqProofs only [Qj5 c1,Qj5 c,cond_true,hh,Q0,show ((0:Int) != 0)=false from rfl,Qj3,d,e,Vn,Vp,Zr]
 ·simp only [Int.toNat_natCast];rw [XZ,Qi,Qj3,hk]
end Cx
end Go.Vx
namespace Go.Vx
namespace Cx
variable {R:Type} {n:Nat} {X:Cx} (h:X.OK)
include h
theorem Qb7 {per:Int} {Sk Ch Tu Sy De:LL} {i k:Nat} (hi:i<X.Ls.length) (hk:k<X.nr i) (K:D->D->oP R):XY n per Sk X.Ro X.Ls Ch Tu Sy De (i:Int) (k:Int) K=K (D.sl 2 (X.st i k)) (Q4 0):=by
 have r:=rd h hi hk;unfold XY;rw [Qe,(H8 h hi).1];simp -implicitDefEqProofs only [Q0,Qj2,Qj4,Q3,QG,Qe,r.row,r.ro]
theorem Qd1 {per:Int} {Ch Sy De:LL} {i:Nat} (hi:i<X.Ls.length) {A:List (List Occ)} {B:List Int} (hA:A.length<=100) (hB:B.length<=100) {K:LL->LL->oP R} {k1:Int->Bool->LL->LL->oP R} (hk:∀ a b u v,k1 a b u v=K u v) :
  Yz 400 (i:Int) X.G.St X.G.Pt X.G.Se X.G.Li per X.skR X.Ro X.Ls Ch (X.T.map tuR) Sy De (Q4 0) (D.sl 4 (GJ X.Ls i)) k1 400 0 (GH A) (encI B)=K (GH (A++(List.range (X.nr i)).map (X.occ i))) (encI (B++(List.range (X.nr i)).map (X.run i))):=by
 have hl:=(H8 h hi).2.1;refine Qu (r:=fun m k=>Yz 400 (i:Int) X.G.St X.G.Pt X.G.Se X.G.Li per X.skR X.Ro X.Ls Ch (X.T.map tuR) Sy De (Q4 0) (D.sl 4 (GJ X.Ls i)) k1 m k (GH (A++(List.range k.toNat).map (X.occ i))) (encI (B++(List.range k.toNat).map (X.run i)))) (N:=X.nr i) (fun m k hk=>?_) (fun m=>?_) (X.nr i) 400 0 (by omega) (by omega) |> Eq.trans (by simp)
 ·simp only [Int.toNat_natCast];have r:=rd h hi hk;have rr:=Q0G h (i:=i);have x:=r.ex0;have e1:=r.ex1;have e2:=r.mn0;have y:=r.mn1;have z:=r.mn2;have e5:=r.mn3;have hh:=QfW h hi hk;have ao:Q1 (GJ X.Ls i) (k:Int)=some [Q4 (rF X.Ls i k 0),Q4 (X.ex i k),Q4 (X.mn i k),Q4 (X.mx i k)]:=by rw [Qe,r.row]
  have aq:Q1 X.skR 0=some [D.str X.nm,Q4 X.tl,Q4 X.sp,Q4 X.ac,Q4 X.br]:=rfl;have hw:wJ (((List.length (GJ X.Ls i):Nat):Int)-1)=((X.nr i-1:Nat):Int):=Jq (k:=X.nr i) (by omega) (by omega);have d:Yf (((GH (A++(List.range k).map (X.occ i))).length+List.length [[D.sl 3 ((X.occ i k).map enc)]])*24)=some ():=XF (by simp [J4];omega);have f:Yf (((encI (B++(List.range k).map (X.run i))).length+List.length [[D.int .i64 (X.run i k)]])*8)=some ():=XF (by simp [Xg];omega);have g:((k:Int) == 0)=decide (k=0):=by
   by_cases hc:k=0
   ·rw [Qj7 hc];simp;omega
   ·rw [Qj5 hc];simp;omega
  have j:decide ((k:Int)<((X.nr i-1:Nat):Int)) = !decide (k=X.nr i-1):=by
   by_cases hc:k=X.nr i-1
   ·rw [Qj7 hc];exact Qj5 (by omega)
   ·rw [Qj5 hc];exact Qj7 (by omega)
  have w1:wJ (X.ex i k+60)=X.ex i k+60:=Q7 (by omega) (by omega);have l:wJ (X.ex i k+X.mx i k)=X.ex i k+X.mx i k:=Q7 (by omega) (by omega);have o:∀ t,X.tn i=some t->wJ (X.ex i k+(if 60<t.2.2.2 then t.2.2.2 else 60))=X.ex i k+X.rest i:=fun t ht=>by
   have e:X.rest i=if 60<t.2.2.2 then t.2.2.2 else 60:=by unfold rest;rw [ht]
   rw [<- e];exact Q7 (by omega) (by omega)
  have p:X.tn i=none->wJ (X.ex i k+60)=X.ex i k+X.rest i:=fun ht=>by rw [w1];unfold rest;rw [ht]
  have ar:∀ K':D->D->oP R,XY 400 per X.skR X.Ro X.Ls Ch (X.T.map tuR) Sy De (i:Int) (k:Int) K'=K' (D.sl 2 (X.st i k)) (Q4 0):=fun K'=>Qb7 h hi hk K'
  have an:=Qb7 (n:=400) h (per:=per) (Sk:=X.skR) (Ch:=Ch) (Tu:=X.T.map tuR) (Sy:=Sy) (De:=De) hi hk Tu2;rw [Yz,QG,Q0,show ((GJ X.Ls i).length:Int)=((X.nr i:Nat):Int) from rfl,Qc hk,cond_true];unfold bf af at hh;cases ht:X.tn i with
  |some t=>
   simp -implicitDefEqProofs only [jn,Q0,Qj2,Qj4,Q3,QG,Xx,ao,hw,g,j,Qc1 h,ht,l,o t ht,aq,an,cond_true,Qq (show k<=1000 by omega)];by_cases c1:k=0 <;> by_cases c:k=X.nr i-1
   ·simp -implicitDefEqProofs only [if_pos c1,if_pos c] at hh;simp -implicitDefEqProofs only [Qj7 c1,Qj7 c,Qjc,Qj3,cond_true,hh,Q0,d,f,Vn,Vp,Zr]
   ·simp -implicitDefEqProofs only [if_pos c1,Qja c] at hh;simp -implicitDefEqProofs only [Qj7 c1,Qj5 c,Qje,Qj3,cond_true,hh,Q0,d,f,Vn,Vp,Zr]
   ·simp -implicitDefEqProofs only [Qja c1,if_pos c] at hh;simp -implicitDefEqProofs only [Qj5 c1,Qj7 c,Qjc,Qj3,cond_true,hh,Q0,d,f,Vn,Vp,Zr]
   ·simp -implicitDefEqProofs only [Qja c1,Qja c] at hh;simp -implicitDefEqProofs only [Qj5 c1,Qj5 c,Qje,Qj3,cond_true,hh,Q0,d,f,Vn,Vp,Zr]
  |none=>
   simp -implicitDefEqProofs only [jn,Q0,Qj2,Qj4,Q3,QG,Xx,ao,hw,g,j,Qc1 h,ht,l,p ht,aq,an,Qj3,Qq (show k<=1000 by omega)];by_cases c1:k=0 <;> by_cases c:k=X.nr i-1
   ·simp -implicitDefEqProofs only [if_pos c1,if_pos c] at hh;simp -implicitDefEqProofs only [Qj7 c1,Qj7 c,Qjc,Qj3,cond_true,hh,Q0,d,f,Vn,Vp,Zr]
   ·simp -implicitDefEqProofs only [if_pos c1,Qja c] at hh;simp -implicitDefEqProofs only [Qj7 c1,Qj5 c,Qje,Qj3,cond_true,hh,Q0,d,f,Vn,Vp,Zr]
   ·simp -implicitDefEqProofs only [Qja c1,if_pos c] at hh;simp -implicitDefEqProofs only [Qj5 c1,Qj7 c,Qjc,Qj3,cond_true,hh,Q0,d,f,Vn,Vp,Zr]
   ·simp -implicitDefEqProofs only [Qja c1,Qja c] at hh;simp -implicitDefEqProofs only [Qj5 c1,Qj5 c,Qje,Qj3,cond_true,hh,Q0,d,f,Vn,Vp,Zr]
 ·simp only [Int.toNat_natCast];rw [Yz,QG,Q0,show ((GJ X.Ls i).length:Int)=((X.nr i:Nat):Int) from rfl,Qi,Qj3,hk]
omit h in
def occs (X:Cx) (i:Nat):List (List Occ):=Q9z X.nr X.occ i
omit h in
def runs (X:Cx) (i:Nat):List Int:=Q9z X.nr X.run i
theorem Ye {i:Nat} (hi:i<=X.Ls.length):base X.nr i<=6:=by
 have a:=base_le h;by_cases hc:i=X.Ls.length
 ·rw [hc];exact a
 ·have:=LK (nr:=X.nr) (i:=i) (j:=X.Ls.length) (by omega);unfold L at a;omega
theorem Qex {per:Int} {Ch Sy De:LL} (hc:J9 400 X.G.St X.G.Pt X.G.Se X.G.Li per X.skR X.Ro X.Ls Ch (X.T.map tuR) Sy De (some:Int->Option Int)=some 0):HN 400 X.G.St X.G.Pt X.G.Se X.G.Li per X.skR X.Ro X.Ls Ch (X.T.map tuR) Sy De Tu3=some (GH (X.occs X.L),encI (X.runs X.L),(0:Int)):=by
 have l1:=h.l1;unfold HN;rw [hc,Q0,Q9 (by rfl)];refine Qu (r:=fun m i=>ZG 400 X.Ls ((X.Ls.length:Nat):Int) X.G.St X.G.Pt X.G.Se X.G.Li per X.skR X.Ro X.Ls Ch (X.T.map tuR) Sy De (fun a=>some ([],[],a)) (fun g j b c=>some (b,c,(0:Int))) m i (GH (X.occs i.toNat)) (encI (X.runs i.toNat))) (N:=X.Ls.length) (fun m i hi=>?_) (fun m=>?_) X.Ls.length 400 0 (by omega) (by omega)
 ·simp only [Int.toNat_natCast];have hb:=Ye h (i:=i) (by omega);rw [ZG,Qc hi,cond_true,Qe,(H8 h hi).1];simp -implicitDefEqProofs only [Q0,Qj2,Qj4,QG,Qq (show i<=1000 by omega)];exact QbH h hi (A:=X.occs i) (B:=X.runs i) (by unfold occs;rw [Zv];omega) (by unfold runs;rw [Zv];omega) (K:=fun u v=>ZG 400 X.Ls ((X.Ls.length:Nat):Int) X.G.St X.G.Pt X.G.Se X.G.Li per X.skR X.Ro X.Ls Ch (X.T.map tuR) Sy De (fun a=>some ([],[],a)) (fun g j b c=>some (b,c,(0:Int))) m ((i+1:Nat):Int) u v) (fun _ _ _ _=>rfl)
 ·simp only [Int.toNat_natCast];rw [ZG,Qi,Qj3];rfl
theorem Qen {per:Int} {Ch Sy De:LL} (hc:Ul 400 X.G.St X.G.Pt X.G.Se X.G.Li per X.skR X.Ro X.Ls Ch (X.T.map tuR) Sy De (some:Int->Option Int)=some 0):SH 400 X.G.St X.G.Pt X.G.Se X.G.Li per X.skR X.Ro X.Ls Ch (X.T.map tuR) Sy De Tu3=some (GH (X.occs X.L),encI (X.runs X.L),(0:Int)):=by
 have l1:=h.l1;unfold SH;rw [hc,Q0,Q9 (by rfl)];refine Qu (r:=fun m i=>UE 400 X.G.St X.G.Pt X.G.Se X.G.Li per X.skR X.Ro X.Ls Ch (X.T.map tuR) Sy De (fun f g a b=>some (a,b,(0:Int))) m i (GH (X.occs i.toNat)) (encI (X.runs i.toNat))) (N:=X.Ls.length) (fun m i hi=>?_) (fun m=>?_) X.Ls.length 400 0 (by omega) (by omega)
 ·simp only [Int.toNat_natCast];have hb:=Ye h (i:=i) (by omega);rw [UE,Qc hi,cond_true,Qe,(H8 h hi).1];simp -implicitDefEqProofs only [Q0,Qj2,Qj4,QG,Qq (show i<=1000 by omega)];exact Qd1 h hi (A:=X.occs i) (B:=X.runs i) (by unfold occs;rw [Zv];omega) (by unfold runs;rw [Zv];omega) (K:=fun u v=>UE 400 X.G.St X.G.Pt X.G.Se X.G.Li per X.skR X.Ro X.Ls Ch (X.T.map tuR) Sy De (fun f g a b=>some (a,b,(0:Int))) m ((i+1:Nat):Int) u v) (fun _ _ _ _=>rfl)
 ·simp only [Int.toNat_natCast];rw [UE,Qi,Qj3];rfl
end Cx
end Go.Vx
namespace Go.Vx
variable {R:Type}
def X2 (n:Nat) (b c:Int) (k0:Int->Bool->LL->oP R):Nat->Int->LL->oP R
 | 0,_,_=>none
 | m+1,a,d=>bif decide (a<c) then gb true (Yf ((d.length+List.length [[Q4 1,Q4 b,Q4 a],[Q4 2,Q4 b,Q4 a]])*24)) () fun e=>X2 n b c k0 m (wJ (a+1)) (d++[[Q4 1,Q4 b,Q4 a],[Q4 2,Q4 b,Q4 a]]) else k0 a (decide (a<c)) d
def QJ (n:Nat) (e:LL) (h2:Int) (k0:Int->Bool->LL->LL->oP R):Nat->Int->LL->LL->oP R
 | 0,_,_,_=>none
 | m+1,a,d,b=>bif decide (a<h2) then gb true (Q1 e a) [] fun c=>gb true (c[0]?) oF fun i=>gb true (c[1]?) oF fun j=>gb true (c[2]?) oF fun k=>gb true (c[3]?) oF fun f=>gb true (nz 2) () fun l=>gb true (Yf ((d.length+[[Q4 (wJ (Int.tdiv (b.length:Int) 2))]].length)*8)) () fun o=>gb true (pSl 4 f) [] fun g=>X2 n a (g.length:Int) (fun p q h=>QJ n e h2 k0 m (wJ (a+1)) (d++[[Q4 (wJ (Int.tdiv (b.length:Int) 2))]]) h) n 0 b else k0 a (decide (a<h2)) d b
def Yv (n:Nat) (a b c:LL) (K:LL->LL->oP R):oP R:= QJ n a (a.length:Int) (fun f g d e=>K d e) n 0 b c
end Go.Vx
namespace Go.Vx
variable {R:Type}
def XJ (n:Nat) (a:LL) (a1 a2:Int) (K:Int->oP R):oP R:= gb true (inB (a.length) a1) () fun e=>gb true (a[a1.toNat]?) [] fun b=>gb true (b[0]?) oF fun c=>gb true (pIw c) 0 fun d=>K (wJ (d+a2))
end Go.Vx
namespace Go.Vx
variable {R:Type}
def Y3 (n:Nat) (e a:LL) (a1 a2 b c d:Int) (K:LL->oP R):oP R:= gb true (Q1 e a1) [] fun f=>gb true (f[0]?) oF fun g=>gb true (pIw g) 0 fun i3=>gb true (Yf ((a.length+[[Q4 a1,Q4 a2,Q4 (wJ (i3+c)),Q4 (wJ ((wJ (i3+b))+d))]].length)*32)) () fun h=>K (a++[[Q4 a1,Q4 a2,Q4 (wJ (i3+c)),Q4 (wJ ((wJ (i3+b))+d))]])
end Go.Vx
namespace Go.Vx
variable {R:Type}
def ZW (n:Nat) (a b:LL) (a1:Int) (K:Int->oP R):oP R:= gb true (Q1 a a1) [] fun c=>gb true (c[3]?) oF fun d=>gb true (pSl 4 d) [] fun e=>gb true (XJ n b a1 (wJ ((e.length:Int)-1)) some) 0 fun f=>K f
end Go.Vx
namespace Go.Vx
variable {R:Type}
def Xd (n:Nat) (c:Int) (f:LL) (d:Int) (e g:LL) (k0:Int->Bool->LL->oP R):Nat->Int->LL->oP R
 | 0,_,_=>none
 | m+1,a,h=>bif decide (a<d) then gb true (Q1 f a) [] fun b=>gb true (b[0]?) oF fun s=>gb true (b[1]?) oF fun i=>gb true (b[2]?) oF fun j=>gb true (b[3]?) oF fun k=>gb true (XJ n e c a some) 0 fun l=>gb true (XJ n e c (wJ (a+1)) some) 0 fun o=>gb true (pIw i) 0 fun i64=>gb true (pIw j) 0 fun p=>gb true (pIw k) 0 fun q=>gb true (Y3 n g h l o i64 p q some) [] fun r=>Xd n c f d e g k0 m (wJ (a+1)) r else k0 a (decide (a<d)) h
def Qw (n:Nat) (d:LL) (h2:Int) (e f:LL) (k0:Int->Bool->LL->oP R):Nat->Int->LL->oP R
 | 0,_,_=>none
 | m+1,a,g=>bif decide (a<h2) then gb true (Q1 d a) [] fun b=>gb true (b[0]?) oF fun l=>gb true (b[1]?) oF fun o=>gb true (b[2]?) oF fun p=>gb true (b[3]?) oF fun h=>gb true (pSl 4 h) [] fun c=>gb true (pSl 4 h) [] fun j=>gb true (slB (c.length) none (some (wJ ((j.length:Int)-1)))) (0,0) fun i=>Xd n a (cut c i) ((List.length (cut c i):Nat):Int) e f (fun q r k=>Qw n d h2 e f k0 m (wJ (a+1)) k) n 0 g else k0 a (decide (a<h2)) g
def Xb (n:Nat) (f:LL) (c:Int) (d e g:LL) (k0:Int->Bool->LL->oP R):Nat->Int->LL->oP R
 | 0,_,_=>none
 | m+1,a,h=>bif decide (a<c) then gb true (Q1 f a) [] fun b=>gb true (b[0]?) oF fun i=>gb true (b[1]?) oF fun k=>gb true (b[2]?) oF fun l=>gb true (b[3]?) oF fun o=>gb true (pIw i) 0 fun p=>gb true (Q1 e p) [] fun q=>gb true (q[3]?) oF fun r=>gb true (pSl 4 r) [] fun j=>gb true (pIw i) 0 fun s=>gb true (ZW n e d s some) 0 fun t=>gb true (pIw k) 0 fun u=>gb true (XJ n d u 0 some) 0 fun v=>gb true (Q1 j (wJ ((j.length:Int)-1))) [] fun x=>gb true (x[1]?) oF fun y=>gb true (pIw y) 0 fun z=>gb true (pIw l) 0 fun aa=>gb true (pIw o) 0 fun ab=>gb true (Y3 n g h t v z aa ab some) [] fun ac=>Xb n f c d e g k0 m (wJ (a+1)) ac else k0 a (decide (a<c)) h
def YA (n:Nat) (a b c d e:LL) (K:LL->oP R):oP R:= Qw n a (a.length:Int) c d (fun h i f=>Xb n b (b.length:Int) c a d (fun j k g=>K g) n 0 f) n 0 e
end Go.Vx
namespace Go.Vx
variable {R:Type}
def U5 (n:Nat) (h2:LL) (e:Int) (k0:oP R) (k1:Int->Int->Bool->oP R):Nat->Int->Int->oP R
 | 0,_,_=>none
 | m+1,a,b=>bif decide (b<e) then gb true (Q1 h2 b) [] fun f=>gb true (f[0]?) oF fun g=>gb true (f[1]?) oF fun h=>gb true (f[2]?) oF fun i=>gb true (pIw g) 0 fun c=>gb (!(decide (c<=a))) (pIw h) 0 fun d=>gb (!(bif decide (c<=a) then true else (decide (d<(-65536:Int))))) (pIw h) 0 fun j=>gb (!(bif decide (c<=a) then true else (decide (d<(-65536:Int))))) (pIw i) 0 fun k=>gb (!(bif (bif decide (c<=a) then true else (decide (d<(-65536:Int)))) then true else (decide (j>=k)))) (pIw i) 0 fun l=>bif (bif (bif (bif decide (c<=a) then true else (decide (d<(-65536:Int)))) then true else (decide (j>=k))) then true else (decide (l>65536))) then k0 else gb true (pIw g) 0 fun o=>U5 n h2 e k0 k1 m o (wJ (b+1)) else k1 a b (decide (b<e))
def Jc (n:Nat) (a0:LL) (K:Bool->oP R):oP R:= U5 n a0 (a0.length:Int) (K false) (fun a b c=>K true) n (-1:Int) 0
end Go.Vx
namespace Go.Vx
variable {R:Type}
def U9 (n:Nat) (h2:Int) (d:LL) (b:Int) (k0:oP R) (k1:Int->Bool->oP R):Nat->Int->oP R
 | 0,_=>none
 | m+1,a=>bif decide (a<b) then gb true (Q1 d a) [] fun c=>gb true (c[0]?) oF fun i=>gb true (c[1]?) oF fun e=>gb true (c[2]?) oF fun f=>gb true (pIw f) 0 fun g=>gb true (pIw e) 0 fun h=>bif (decide ((wJ (g-h))>h2)) then k0 else U9 n h2 d b k0 k1 m (wJ (a+1)) else k1 a (decide (a<b))
def HG (n:Nat) (a0:Int) (a1:LL) (K:Bool->oP R):oP R:= gb (!(bif decide (a0<1) then true else (decide (a0>7200)))) (Jc n a1 some) false fun a=>bif (bif (bif decide (a0<1) then true else (decide (a0>7200))) then true else (!a)) then K false else U9 n a0 a1 (a1.length:Int) (K false) (fun b c=>K true) n 0
end Go.Vx
namespace Go.Vx
variable {R:Type}
def Y2 (n:Nat) (a b c d e f:Int) (g:Bool) (h:Int) (K:Bool->oP R):oP R:= K (bif g then true else (decide ((wJ ((if b<(wJ (f+d)) then (wJ (f+d)) else b)-(if (wJ (e+c))<a then (wJ (e+c)) else a)))>h)))
end Go.Vx
namespace Go.Vx
variable {R:Type}
def QE (n:Nat) (e:LL) (b f:Int) (c g d:D) (h i j:Int) (k0:Int->Bool->Bool->oP R):Nat->Int->Bool->oP R
 | 0,_,_=>none
 | m+1,a,k=>bif decide (a<b) then gb true (Q1 e a) [] fun l=>gb true (l[0]?) oF fun q=>gb true (l[1]?) oF fun r=>gb true (l[2]?) oF fun s=>gb true (pIw c) 0 fun o=>gb true (pIw q) 0 fun p=>gb (o == p) (pIw r) 0 fun t=>gb (o == p) (pIw d) 0 fun u=>bif (bif (o == p) then (decide ((wJ (f+t))<=u)) else false) then gb true (pIw c) 0 fun ab=>gb true (pIw g) 0 fun v=>gb true (pIw d) 0 fun x=>gb true (pIw q) 0 fun ac=>gb true (pIw r) 0 fun y=>gb true (pIw s) 0 fun z=>gb true (Y2 n v x y z i j k h some) false fun aa=>QE n e b f c g d h i j k0 m (wJ (a+1)) aa else QE n e b f c g d h i j k0 m (wJ (a+1)) k else k0 a (decide (a<b)) k
def Xf (n:Nat) (d:LL) (b e f g:Int) (h:LL) (i j:Int) (k0:Int->Bool->Bool->oP R):Nat->Int->Bool->oP R
 | 0,_,_=>none
 | m+1,a,k=>bif decide (a<b) then gb true (Q1 d a) [] fun c=>gb true (c[0]?) oF fun o=>gb true (c[1]?) oF fun p=>gb true (c[2]?) oF fun q=>gb true (Q1 h e) [] fun r=>gb true (r[0]?) oF fun s=>gb true (pSl 3 s) [] fun l=>QE n l (l.length:Int) f o p q g i j (fun u v t=>Xf n d b e f g h i j k0 m (wJ (a+1)) t) n 0 k else k0 a (decide (a<b)) k
def ZQ (n:Nat) (c:Int) (a:LL) (d e f g h:Int) (i:Bool) (K:Bool->oP R):oP R:= gb true (Q1 a d) [] fun j=>gb true (j[0]?) oF fun k=>gb true (pSl 3 k) [] fun b=>Xf n b (b.length:Int) e f c a g h (fun m o l=>K l) n 0 i
end Go.Vx
namespace Go.Vx
variable {R:Type}
def Xw (n:Nat) (b:LL) (h2 c:Int) (k0:oP R) (k1:Int->Bool->oP R):Nat->Int->oP R
 | 0,_=>none
 | m+1,a=>bif decide (a<h2) then gb true (Q1 b a) [] fun d=>gb true (d[0]?) oF fun e=>gb true (pSl 3 e) [] fun f=>gb true (HG n c f some) false fun g=>bif !g then k0 else Xw n b h2 c k0 k1 m (wJ (a+1)) else k1 a (decide (a<h2))
def X7 (n:Nat) (d:LL) (c e:Int) (f:LL) (k0:oP R) (k1:Int->Bool->oP R):Nat->Int->oP R
 | 0,_=>none
 | m+1,a=>bif decide (a<c) then gb true (Q1 d a) [] fun b=>gb true (b[0]?) oF fun g=>gb true (b[1]?) oF fun h=>gb true (b[2]?) oF fun i=>gb true (b[3]?) oF fun j=>gb true (pIw g) 0 fun k=>gb true (pIw h) 0 fun l=>gb true (pIw i) 0 fun o=>gb true (pIw j) 0 fun s=>gb true (pIw g) 0 fun t=>gb true (pIw h) 0 fun u=>gb true (pIw i) 0 fun p=>gb true (pIw j) 0 fun q=>gb true (ZQ n e f k l o p q false some) false fun r=>bif r then k0 else X7 n d c e f k0 k1 m (wJ (a+1)) else k1 a (decide (a<c))
def ZC (n:Nat) (b:Int) (a c:LL) (K:Bool->oP R):oP R:= Xw n a (a.length:Int) b (K false) (fun d e=>X7 n c (c.length:Int) b a (K false) (fun f g=>K true) n 0) n 0
end Go.Vx
namespace Go.Vx
variable {R:Type}
def QW (n:Nat) (a:LL) (a1 a2:Int) (K:Int->oP R):oP R:= gb true (inB (a.length) a1) () fun e=>gb true (a[a1.toNat]?) [] fun b=>gb true (b[0]?) oF fun c=>gb true (pIw c) 0 fun d=>K (wJ (d+a2))
end Go.Vx
namespace Go.Vx
variable {R:Type}
def Yj (n:Nat) (a0:Int) (K:Int->oP R):oP R:= K (wJ (2*a0))
end Go.Vx
namespace Go.Vx
variable {R:Type}
def Uw (n:Nat) (a0:Int) (K:Int->oP R):oP R:= K (wJ ((wJ (2*a0))+1))
end Go.Vx
namespace Go.Vx
variable {R:Type}
def X9 (n:Nat) (a:LL) (a1 a2 b c d e:Int) (K:LL->oP R):oP R:= gb true (Yf ((a.length+[[Q4 a1,Q4 a2,Q4 b,Q4 c,Q4 d,Q4 e]].length)*48)) () fun f=>K (a++[[Q4 a1,Q4 a2,Q4 b,Q4 c,Q4 d,Q4 e]])
end Go.Vx
namespace Go.Vx
variable {R:Type}
def Vb (n:Nat) (a b:LL) (a1:Int) (K:Int->oP R):oP R:= gb true (Q1 a a1) [] fun c=>gb true (c[3]?) oF fun d=>gb true (pSl 4 d) [] fun e=>gb true (QW n b a1 (wJ ((e.length:Int)-1)) some) 0 fun f=>K f
end Go.Vx
namespace Go.Vx
variable {R:Type}
def Qr (n:Nat) (f:Int) (g:LL) (c:Int) (d h:D) (i j:LL) (k0:Int->Bool->LL->oP R):Nat->Int->LL->oP R
 | 0,_,_=>none
 | m+1,a,k=>bif decide (a<c) then gb true (Q1 g a) [] fun e=>gb true (e[0]?) oF fun ah=>gb true (e[1]?) oF fun p=>gb true (e[2]?) oF fun q=>gb true (e[3]?) oF fun r=>gb true (QW n i f a some) 0 fun b=>gb true (Q1 j b) [] fun s=>gb true (s[0]?) oF fun t=>gb true (pIw t) 0 fun l=>gb true (Yj n b some) 0 fun u=>gb true (Uw n b some) 0 fun v=>gb true (pIw p) 0 fun x=>gb true (pIw d) 0 fun y=>gb true (X9 n k 1 u v l (wJ (l+x)) y some) [] fun o=>gb true (pSl 4 h) [] fun z=>bif (decide (a<(wJ ((z.length:Int)-1)))) then gb true (Uw n b some) 0 fun aa=>gb true (Yj n (wJ (b+1)) some) 0 fun ab=>gb true (pIw q) 0 fun ac=>gb true (pIw r) 0 fun ad=>gb true (pIw d) 0 fun ae=>gb true (X9 n o 2 aa ab ac ad ae some) [] fun ag=>Qr n f g c d h i j k0 m (wJ (a+1)) ag else Qr n f g c d h i j k0 m (wJ (a+1)) o else k0 a (decide (a<c)) k
def QA (n:Nat) (c:LL) (h2:Int) (d e:LL) (k0:Int->Bool->LL->oP R):Nat->Int->LL->oP R
 | 0,_,_=>none
 | m+1,a,f=>bif decide (a<h2) then gb true (Q1 c a) [] fun b=>gb true (b[0]?) oF fun k=>gb true (b[1]?) oF fun l=>gb true (b[2]?) oF fun i=>gb true (b[3]?) oF fun g=>gb true (pSl 4 g) [] fun h=>Qr n a h (h.length:Int) i g d e (fun o p j=>QA n c h2 d e k0 m (wJ (a+1)) j) n 0 f else k0 a (decide (a<h2)) f
def QC (n:Nat) (e:LL) (c:Int) (d:LL) (k0:Int->Bool->LL->oP R):Nat->Int->LL->oP R
 | 0,_,_=>none
 | m+1,b,f=>bif decide (b<c) then gb true (Q1 e b) [] fun a=>gb true (a[0]?) oF fun g=>gb true (a[1]?) oF fun h=>gb true (a[2]?) oF fun i=>gb true (a[3]?) oF fun j=>gb true (a[4]?) oF fun k=>gb true (a[5]?) oF fun l=>gb true (a[6]?) oF fun o=>gb true (pIw g) 0 fun p=>gb true (pIw h) 0 fun q=>gb true (QW n d p q some) 0 fun r=>gb true (pIw i) 0 fun s=>gb true (pIw j) 0 fun t=>gb true (QW n d s t some) 0 fun u=>gb true (Uw n r some) 0 fun v=>gb true (Yj n u some) 0 fun x=>gb true (pIw k) 0 fun y=>gb true (pIw l) 0 fun z=>gb true (pIw o) 0 fun aa=>gb true (X9 n f 3 v x y z aa some) [] fun ab=>QC n e c d k0 m (wJ (b+1)) ab else k0 b (decide (b<c)) f
def QB (n:Nat) (e:LL) (c:Int) (d f:LL) (k0:Int->Bool->LL->oP R):Nat->Int->LL->oP R
 | 0,_,_=>none
 | m+1,a,g=>bif decide (a<c) then gb true (Q1 e a) [] fun b=>gb true (b[0]?) oF fun h=>gb true (b[1]?) oF fun i=>gb true (b[2]?) oF fun j=>gb true (b[3]?) oF fun k=>gb true (pIw h) 0 fun l=>gb true (Vb n f d l some) 0 fun o=>gb true (Uw n o some) 0 fun p=>gb true (pIw i) 0 fun q=>gb true (QW n d q 0 some) 0 fun r=>gb true (Yj n r some) 0 fun s=>gb true (pIw j) 0 fun t=>gb true (pIw k) 0 fun u=>gb true (X9 n g 4 p s t u 1 some) [] fun v=>QB n e c d f k0 m (wJ (a+1)) v else k0 a (decide (a<c)) g
def QD (n:Nat) (e:LL) (c:Int) (d:LL) (k0:Int->Bool->LL->oP R):Nat->Int->LL->oP R
 | 0,_,_=>none
 | m+1,a,f=>bif decide (a<c) then gb true (Q1 e a) [] fun b=>gb true (b[0]?) oF fun h=>gb true (b[1]?) oF fun i=>gb true (b[2]?) oF fun j=>gb true (b[3]?) oF fun k=>gb true (b[4]?) oF fun g=>gb true (pIw h) 0 fun l=>gb true (pIw i) 0 fun o=>gb true (QW n d l o some) 0 fun p=>gb true (Yj n p some) 0 fun q=>gb true (pIw j) 0 fun r=>gb true (pIw k) 0 fun s=>gb true (QW n d r s some) 0 fun t=>gb true (Yj n t some) 0 fun u=>gb true (pIw g) 0 fun v=>gb true (pIw g) 0 fun x=>gb true (X9 n f 5 q u v x 0 some) [] fun y=>QD n e c d k0 m (wJ (a+1)) y else k0 a (decide (a<c)) f
def Ym (n:Nat) (b c d e a f g:LL) (K:LL->oP R):oP R:= QA n b (b.length:Int) a f (fun l m h=>QC n c (c.length:Int) a (fun o p i=>QB n d (d.length:Int) a b (fun q r j=>QD n e (e.length:Int) a (fun s t k=>K k) n 0 j) n 0 i) n 0 h) n 0 g
end Go.Vx
namespace Go.Vx
variable {R:Type}
def Xq (n:Nat) (a:Int) (b:Int->Bool) (K:(Int->Bool)->oP R):oP R:= K (Q6q b a true)
end Go.Vx
namespace Go.Vx
variable {R:Type}
def QU (n:Nat) (e:LL) (b f:Int) (c g d:D) (k0:Int->Bool->(Int->Bool)->oP R):Nat->Int->(Int->Bool)->oP R
 | 0,_,_=>none
 | m+1,a,h=>bif decide (a<b) then gb true (Q1 e a) [] fun i=>gb true (i[0]?) oF fun l=>gb true (i[1]?) oF fun o=>gb true (i[2]?) oF fun p=>gb true (pIw c) 0 fun j=>gb true (pIw l) 0 fun k=>gb (j == k) (pIw o) 0 fun q=>gb (j == k) (pIw d) 0 fun r=>bif (bif (j == k) then (decide ((wJ (f+q))<=r)) else false) then gb true (pIw c) 0 fun s=>gb true (pIw g) 0 fun u=>gb true (pIw d) 0 fun v=>gb true (pIw l) 0 fun x=>gb true (pIw o) 0 fun y=>gb true (pIw p) 0 fun z=>gb true (Xq n s h some) (fun _=>false) fun t=>QU n e b f c g d k0 m (wJ (a+1)) t else QU n e b f c g d k0 m (wJ (a+1)) h else k0 a (decide (a<b)) h
def Xh (n:Nat) (d:LL) (b e f:Int) (g:LL) (k0:Int->Bool->(Int->Bool)->oP R):Nat->Int->(Int->Bool)->oP R
 | 0,_,_=>none
 | m+1,a,h=>bif decide (a<b) then gb true (Q1 d a) [] fun c=>gb true (c[0]?) oF fun j=>gb true (c[1]?) oF fun k=>gb true (c[2]?) oF fun l=>gb true (Q1 g e) [] fun o=>gb true (o[0]?) oF fun p=>gb true (pSl 3 p) [] fun i=>QU n i (i.length:Int) f j k l (fun r s q=>Xh n d b e f g k0 m (wJ (a+1)) q) n 0 h else k0 a (decide (a<b)) h
def ZR (n:Nat) (a:LL) (c d e:Int) (f:Int->Bool) (K:(Int->Bool)->oP R):oP R:= gb true (Q1 a c) [] fun g=>gb true (g[0]?) oF fun h=>gb true (pSl 3 h) [] fun b=>Xh n b (b.length:Int) d e a (fun j k i=>K i) n 0 f
end Go.Vx
namespace Go.Vx
variable {R:Type}
def Qs (n:Nat) (a h2:Int) (f:LL) (c:Int) (g:LL) (k0:Int->Bool->(Int->Bool)->oP R):Nat->Int->(Int->Bool)->oP R
 | 0,_,_=>none
 | m+1,b,h=>bif decide (b<c) then gb true (Q1 f b) [] fun d=>gb true (d[0]?) oF fun i=>gb true (d[1]?) oF fun j=>gb true (d[2]?) oF fun o=>gb true (d[3]?) oF fun p=>gb true (pIw i) 0 fun e=>gb (e == a) (pIw j) 0 fun k=>gb (!(bif (e == a) then (k == h2) else false)) (pIw i) 0 fun l=>gb ((!(bif (e == a) then (k == h2) else false))&&(l == h2)) (pIw j) 0 fun q=>bif (bif (bif (e == a) then (k == h2) else false) then true else (bif (l == h2) then (q == a) else false)) then gb true (pIw i) 0 fun r=>gb true (pIw j) 0 fun s=>gb true (pIw o) 0 fun t=>gb true (pIw p) 0 fun v=>gb true (ZR n g r s t h some) (fun _=>false) fun u=>Qs n a h2 f c g k0 m (wJ (b+1)) u else Qs n a h2 f c g k0 m (wJ (b+1)) h else k0 b (decide (b<c)) h
def XV (n:Nat) (b a:LL) (a1 a2:Int) (K:(Int->Bool)->oP R):oP R:= Qs n a1 a2 a (a.length:Int) b (fun d e c=>K c) n 0 (fun _=>false)
end Go.Vx
namespace Go.Vx
variable {R:Type}
def XX (n:Nat) (c:LL) (h2:Int) (d:Int->Bool) (k0:Int->Bool->LL->oP R):Nat->Int->LL->oP R
 | 0,_,_=>none
 | m+1,a,b=>bif decide (a<h2) then gb true (Q1 c a) [] fun e=>gb true (e[0]?) oF fun f=>gb true (e[1]?) oF fun g=>gb true (e[2]?) oF fun h=>gb true (pIw f) 0 fun i=>bif (!(d i)) then gb true (Yf ((b.length+[[f,g,h]].length)*24)) () fun j=>XX n c h2 d k0 m (wJ (a+1)) (b++[[f,g,h]]) else XX n c h2 d k0 m (wJ (a+1)) b else k0 a (decide (a<h2)) b
def Uh (n:Nat) (a0:LL) (a:Int->Bool) (K:LL->(Int->Bool)->oP R):oP R:= XX n a0 (a0.length:Int) a (fun c d b=>K b a) n 0 []
end Go.Vx
namespace Go.Vx
variable {R:Type}
def UP (n:Nat) (a0:Int) (K:Bool->oP R):oP R:= K (bif decide (a0>=1) then (decide (a0<=7200)) else false)
end Go.Vx
namespace Go.Vx
variable {R:Type}
def Ta (n:Nat) (a0 a1:Int) (K:Int->oP R):oP R:= bif decide (a1<1) then K 0 else gb true (nz a1) () fun a=>bif (decide ((Int.tmod a0 a1)<0)) then K (wJ ((Int.tmod a0 a1)+a1)) else K (Int.tmod a0 a1)
end Go.Vx
namespace Go.Vx
variable {R:Type}
def Jj (n:Nat) (a1 a2 a:Int) (K:LL->oP R):oP R:= bif decide (a<1) then K [] else bif decide (a>=a1) then gb true (Yf ([[Q4 0,Q4 a1]].length*16)) () fun b=>K [[Q4 0,Q4 a1]] else bif (decide ((wJ (a2+a))<=a1)) then gb true (Yf ([[Q4 a2,Q4 (wJ (a2+a))]].length*16)) () fun u2=>K [[Q4 a2,Q4 (wJ (a2+a))]] else gb true (Yf (List.length [[Q4 0,Q4 (wJ ((wJ (a2+a))-a1))],[Q4 a2,Q4 a1]]*16)) () fun u3=>K [[Q4 0,Q4 (wJ ((wJ (a2+a))-a1))],[Q4 a2,Q4 a1]]
end Go.Vx
namespace Go.Vx
variable {R:Type}
def TL (n:Nat) (a0 a1 a2:Int) (K:LL->Int->oP R):oP R:= gb true (UP n a0 some) false fun a=>bif !a then K [] 4 else gb true (Ta n a1 a0 some) 0 fun b=>gb true (Jj n a0 b a2 some) [] fun c=>K c 0
end Go.Vx
namespace Go.Vx
variable {R:Type}
def U8 (n:Nat) (h2:Int) (f:LL) (d:Int) (k0:oP R) (k1:Int->Int->Bool->oP R):Nat->Int->Int->oP R
 | 0,_,_=>none
 | m+1,a,b=>bif decide (b<d) then gb true (Q1 f b) [] fun g=>gb true (g[0]?) oF fun h=>gb true (g[1]?) oF fun e=>gb true (pIw h) 0 fun c=>gb (!(decide (c<=a))) (pIw h) 0 fun i=>gb (!(decide (c<=a))) (pIw e) 0 fun j=>gb (!(bif decide (c<=a) then true else (decide (i>=j)))) (pIw e) 0 fun k=>bif (bif (bif decide (c<=a) then true else (decide (i>=j))) then true else (decide (k>h2))) then k0 else gb true (pIw e) 0 fun l=>U8 n h2 f d k0 k1 m l (wJ (b+1)) else k1 a b (decide (b<d))
def Gg (n:Nat) (a0:Int) (a1:LL) (K:Bool->oP R):oP R:= gb true (UP n a0 some) false fun a=>bif !a then K false else U8 n a0 a1 (a1.length:Int) (K false) (fun b c d=>K true) n (-1:Int) 0
end Go.Vx
namespace Go.Vx
variable {R:Type}
def U1 (n:Nat) (h2:Int) (c:LL) (b:Int) (k0:oP R) (k1:Int->Bool->oP R):Nat->Int->oP R
 | 0,_=>none
 | m+1,a=>bif decide (a<b) then gb true (Q1 c a) [] fun d=>gb true (d[0]?) oF fun e=>gb true (pSl 2 e) [] fun f=>gb true (Gg n h2 f some) false fun g=>bif !g then k0 else U1 n h2 c b k0 k1 m (wJ (a+1)) else k1 a (decide (a<b))
def HJ (n:Nat) (a0:Int) (a1:LL) (K:Int->oP R):oP R:= gb true (UP n a0 some) false fun a=>bif !a then K 4 else U1 n a0 a1 (a1.length:Int) (K 1) (fun b c=>K 0) n 0
end Go.Vx
namespace Go.Vx
variable {R:Type}
def Qz (n:Nat) (a1:Int) (K:LL->oP R):oP R:= bif decide (a1<0) then none else bif (decide ((wJ (a1-(wJ (0-0))))>0)) then gb true (slB 0 none (some 0)) (0,0) fun a=>gb true (bif decide (0<(wJ (a1-(wJ (0-0))))) then some () else none) () fun u3=>gb true (Yf (Int.toNat (wJ (a1-(wJ (0-0))))*16)) () fun b=>K [] else K []
end Go.Vx
namespace Go.Vx
variable {R:Type}
def Qf (n:Nat) (c:LL) (b:Int) (k0:Int->Int->Bool->oP R):Nat->Int->Int->oP R
 | 0,_,_=>none
 | m+1,h2,a=>bif decide (a<b) then gb true (Q1 c a) [] fun e=>gb true (e[0]?) oF fun f=>gb true (pSl 2 f) [] fun d=>bif (decide ((wJ (h2+(d.length:Int)))<0)) then none else Qf n c b k0 m (wJ (h2+(d.length:Int))) (wJ (a+1)) else k0 h2 a (decide (a<b))
def Qg (n:Nat) (d:LL) (b:Int) (k0:Int->Bool->LL->oP R):Nat->Int->LL->oP R
 | 0,_,_=>none
 | m+1,a,c=>bif decide (a<b) then gb true (Q1 d a) [] fun f=>gb true (f[0]?) oF fun g=>gb true (pSl 2 g) [] fun e=>gb true (Yf ((c.length+e.length)*16)) () fun h=>Qg n d b k0 m (wJ (a+1)) (c++e) else k0 a (decide (a<b)) c
def QF (n:Nat) (a0:LL) (K:LL->oP R):oP R:= Qf n a0 (a0.length:Int) (fun a d e=>gb true (Qz n a some) [] fun b=>Qg n a0 (a0.length:Int) (fun f g c=>K c) n 0 b) n 0 0
end Go.Vx
namespace Go.Vx
variable {R:Type}
def Nw (n:Nat) (a0:Int) (K:Int->oP R):oP R:= bif decide (a0>=65536) then gb true (B8 16) () fun e=>bif (decide ((shR .u32 a0 16)>=256)) then gb true (B8 8) () fun f=>gb true (VP QhS (IntKind.wrap .u8 (shR .u32 (shR .u32 a0 16) 8))) 0 fun a=>K (wJ ((wJ (16+8))+(wJ a))) else gb true (VP QhS (IntKind.wrap .u8 (shR .u32 a0 16))) 0 fun b=>K (wJ (16+(wJ b))) else bif decide (a0>=256) then gb true (B8 8) () fun g=>gb true (VP QhS (IntKind.wrap .u8 (shR .u32 a0 8))) 0 fun c=>K (wJ ((wJ (0+8))+(wJ c))) else gb true (VP QhS (IntKind.wrap .u8 a0)) 0 fun d=>K (wJ (0+(wJ d)))
end Go.Vx
namespace Go.Vx
variable {R:Type}
def RQ (n:Nat) (a0:Int) (K:Int->oP R):oP R:= bif decide (a0>=4294967296) then gb true (B8 32) () fun i=>bif (decide ((shR .u64 a0 32)>=65536)) then gb true (B8 16) () fun j=>bif (decide ((shR .u64 (shR .u64 a0 32) 16)>=256)) then gb true (B8 8) () fun k=>gb true (VP QhS (IntKind.wrap .u8 (shR .u64 (shR .u64 (shR .u64 a0 32) 16) 8))) 0 fun a=>K (wJ ((wJ ((wJ (32+16))+8))+(wJ a))) else gb true (VP QhS (IntKind.wrap .u8 (shR .u64 (shR .u64 a0 32) 16))) 0 fun b=>K (wJ ((wJ (32+16))+(wJ b))) else bif (decide ((shR .u64 a0 32)>=256)) then gb true (B8 8) () fun l=>gb true (VP QhS (IntKind.wrap .u8 (shR .u64 (shR .u64 a0 32) 8))) 0 fun c=>K (wJ ((wJ (32+8))+(wJ c))) else gb true (VP QhS (IntKind.wrap .u8 (shR .u64 a0 32))) 0 fun d=>K (wJ (32+(wJ d))) else bif decide (a0>=65536) then gb true (B8 16) () fun m=>bif (decide ((shR .u64 a0 16)>=256)) then gb true (B8 8) () fun o=>gb true (VP QhS (IntKind.wrap .u8 (shR .u64 (shR .u64 a0 16) 8))) 0 fun e=>K (wJ ((wJ ((wJ (0+16))+8))+(wJ e))) else gb true (VP QhS (IntKind.wrap .u8 (shR .u64 a0 16))) 0 fun f=>K (wJ ((wJ (0+16))+(wJ f))) else bif decide (a0>=256) then gb true (B8 8) () fun p=>gb true (VP QhS (IntKind.wrap .u8 (shR .u64 a0 8))) 0 fun g=>K (wJ ((wJ (0+8))+(wJ g))) else gb true (VP QhS (IntKind.wrap .u8 a0)) 0 fun h=>K (wJ (0+(wJ h)))
end Go.Vx
namespace Go.Vx
variable {R:Type}
def G4 (n:Nat) (a0:Int) (K:Int->oP R):oP R:= bif false then gb true (Nw n (IntKind.wrap .u32 a0) some) 0 fun a=>K a else gb true (RQ n a0 some) 0 fun b=>K b
end Go.Vx
namespace Go.Vx
variable {R:Type}
def Vi (n:Nat) (a0:Int) (K:Bool->oP R):oP R:= K (a0 != a0)
end Go.Vx
namespace Go.Vx
variable {R:Type}
def VV (n:Nat) (a0 a1:Int) (K:Int->oP R):oP R:= gb true (Vi n a0 some) false fun b=>gb true (Vi n a1 some) false fun a=>bif b then bif a then K 0 else K (-1:Int) else bif a then K 1 else bif decide (a0<a1) then K (-1:Int) else bif decide (a0>a1) then K 1 else K 0
end Go.Vx
namespace Go.Vx
variable {R:Type}
def UQ (n:Nat) (a d b e:Int) (K:Int->oP R):oP R:= gb true (VV n a b some) 0 fun c=>K c
end Go.Vx
namespace Go.Vx
variable {R:Type}
def Qh (n:Nat) (b:Int) (k0:Int->Bool->LL->oP R):Nat->Int->LL->oP R
 | 0,_,_=>none
 | m+1,a,c=>gb (decide (a>b)) (inB (c.length) a) () fun z=>gb (decide (a>b)) (c[a.toNat]?) [] fun g=>gb (decide (a>b)) (g[0]?) oF fun l=>gb (decide (a>b)) (g[1]?) oF fun o=>gb (decide (a>b)) (inB (c.length) (wJ (a-1))) () fun aa=>gb (decide (a>b)) (c[(Int.toNat (wJ (a-1)))]?) [] fun h=>gb (decide (a>b)) (h[0]?) oF fun p=>gb (decide (a>b)) (h[1]?) oF fun q=>gb (decide (a>b)) (pIw l) 0 fun r=>gb (decide (a>b)) (pIw o) 0 fun s=>gb (decide (a>b)) (pIw p) 0 fun t=>gb (decide (a>b)) (pIw q) 0 fun u=>gb (decide (a>b)) (UQ n r s t u some) 0 fun i=>bif (bif decide (a>b) then (decide (i<0)) else false) then gb true (inB (c.length) (wJ (a-1))) () fun ab=>gb true (c[(Int.toNat (wJ (a-1)))]?) [] fun j=>gb true (j[0]?) oF fun d=>gb true (j[1]?) oF fun e=>gb true (inB (c.length) a) () fun ac=>gb true (c[a.toNat]?) [] fun k=>gb true (k[0]?) oF fun v=>gb true (k[1]?) oF fun x=>gb true (inB (c.length) a) () fun ad=>gb true (c[a.toNat]?) [] fun f=>gb true (inB (List.length (List.set c a.toNat (List.set (List.set f 0 d) 1 e))) (wJ (a-1))) () fun ae=>gb true ((List.set c a.toNat (List.set (List.set f 0 d) 1 e))[(Int.toNat (wJ (a-1)))]?) [] fun y=>Qh n b k0 m (wJ (a-1)) (List.set (List.set c a.toNat (List.set (List.set f 0 d) 1 e)) (Int.toNat (wJ (a-1))) (List.set (List.set y 0 v) 1 x)) else k0 a (bif decide (a>b) then (decide (i<0)) else false) c
def Q6 (n:Nat) (b h2:Int) (k0:Int->Bool->LL->oP R):Nat->Int->LL->oP R
 | 0,_,_=>none
 | m+1,a,c=>bif decide (a<h2) then Qh n b (fun e f d=>Q6 n b h2 k0 m (wJ (a+1)) d) n a c else k0 a (decide (a<h2)) c
def Xj (n:Nat) (a:LL) (a1 a2:Int) (K:LL->oP R):oP R:= Q6 n a1 a2 (fun c d b=>K b) n (wJ (a1+1)) a
end Go.Vx
namespace Go.Vx
variable {R:Type}
def Xz (n:Nat) (a h2 d:Int) (b:LL) (k0:LL->oP R):Nat->oP R
 | 0=>none
 | m+1=>bif (decide ((wJ (h2-a))<=12)) then gb true (Xj n b a h2 some) [] fun c=>gb true (He c (b.length)) () fun e=>k0 c else bif (d == 0) then none else bif !true then none else none
def XK (n:Nat) (a:LL) (a1 a2 b:Int) (K:LL->oP R):oP R:= Xz n a1 a2 b a (fun c=>K c) n
end Go.Vx
namespace Go.Vx
variable {R:Type}
def Qt (n:Nat) (a:LL) (K:LL->oP R):oP R:= gb true (G4 n (IntKind.wrap .u64 (a.length:Int)) some) 0 fun c=>gb true (XK n a 0 (a.length:Int) c some) [] fun b=>gb true (He b (a.length)) () fun u3=>K b
end Go.Vx
namespace Go.Vx
variable {R:Type}
def X6 (n:Nat) (c:Int) (d:LL) (k0:Int->Bool->LL->oP R):Nat->Int->LL->oP R
 | 0,_,_=>none
 | m+1,b,a=>bif decide (b<c) then gb true (inB (d.length) b) () fun s=>gb true (d[b.toNat]?) [] fun g=>gb true (g[0]?) oF fun e=>gb true (g[1]?) oF fun f=>gb (decide ((wJ ((a.length:Int)-1))>=0)) (pIw e) 0 fun j=>gb (decide ((wJ ((a.length:Int)-1))>=0)) (inB (a.length) (wJ ((a.length:Int)-1))) () fun t=>gb (decide ((wJ ((a.length:Int)-1))>=0)) (a[(Int.toNat (wJ ((a.length:Int)-1)))]?) [] fun k=>gb (decide ((wJ ((a.length:Int)-1))>=0)) (k[1]?) oF fun l=>gb (decide ((wJ ((a.length:Int)-1))>=0)) (pIw l) 0 fun o=>bif (bif (decide ((wJ ((a.length:Int)-1))>=0)) then (decide (j<=o)) else false) then gb true (inB (a.length) (wJ ((a.length:Int)-1))) () fun u=>gb true (a[(Int.toNat (wJ ((a.length:Int)-1)))]?) [] fun p=>gb true (p[1]?) oF fun q=>gb true (pIw q) 0 fun h=>gb true (pIw f) 0 fun i=>gb true (inB (a.length) (wJ ((a.length:Int)-1))) () fun v=>gb true (a[(Int.toNat (wJ ((a.length:Int)-1)))]?) [] fun r=>X6 n c d k0 m (wJ (b+1)) (List.set a (Int.toNat (wJ ((a.length:Int)-1))) (List.set r 1 (Q4 (if h<i then i else h)))) else gb true (Yf ((a.length+[[e,f]].length)*16)) () fun x=>X6 n c d k0 m (wJ (b+1)) (a++[[e,f]]) else k0 b (decide (b<c)) a
def Ho (n:Nat) (b:LL) (K:LL->LL->oP R):oP R:= gb true (Qt n b some) [] fun a=>gb true (He a (b.length)) () fun u2=>X6 n (a.length:Int) a (fun d e c=>K c a) n 0 []
end Go.Vx
namespace Go.Vx
variable {R:Type}
def HR (n:Nat) (a0:Int) (a1 a2:LL) (K:LL->Int->oP R):oP R:= gb true (HJ n a0 [[D.sl 2 a1],[D.sl 2 a2]] some) 0 fun a=>bif (a != 0) then K [] a else gb true (QF n [[D.sl 2 a1],[D.sl 2 a2]] some) [] fun b=>gb true (Fa [b]) () fun u3=>gb true (Ho n b Tu2) ([],[]) fun c=>gb true (He c.2 (b.length)) () fun e=>K c.1 0
end Go.Vx
namespace Go.Vx
variable {R:Type}
def Z2 (n:Nat) (c g h d e:Int) (i:LL) (K:LL->oP R):oP R:= gb true (TL n e (wJ ((wJ (c-d))+1)) (wJ ((wJ ((wJ ((wJ (g-h))-1))-(wJ ((wJ (c-d))+1))))+1)) Tu2) ([],0) fun a=>gb true (HR n e i a.1 Tu2) ([],0) fun f=>gb true (Fa [f.1]) () fun u3=>K f.1
end Go.Vx
namespace Go.Vx
variable {R:Type}
def Qo (n:Nat) (b:Int) (k0:LL->LL->Bool->LL->oP R):Nat->LL->LL->LL->oP R
 | 0,_,_,_=>none
 | m+1,a,h2,e=>bif (bif (decide ((a.length:Int)>0)) then (decide ((h2.length:Int)>0)) else false) then gb true (Q1 a 0) [] fun g=>gb true (g[0]?) oF fun c=>gb true (g[1]?) oF fun k=>gb true (g[2]?) oF fun l=>gb true (Q1 h2 0) [] fun h=>gb true (h[0]?) oF fun d=>gb true (h[1]?) oF fun o=>gb true (h[2]?) oF fun p=>gb true (pIw c) 0 fun q=>gb true (pIw d) 0 fun r=>bif (q == r) then gb true (pIw c) 0 fun ao=>gb true (pIw k) 0 fun s=>gb true (pIw l) 0 fun t=>gb true (pIw d) 0 fun ap=>gb true (pIw o) 0 fun u=>gb true (pIw p) 0 fun v=>gb true (Z2 n s t u v b e some) [] fun f=>gb true (pIw c) 0 fun x=>gb true (pIw d) 0 fun y=>bif decide (x<=y) then gb true (slB (a.length) (some 1) none) (0,0) fun i=>gb true (pIw c) 0 fun z=>gb true (pIw d) 0 fun aa=>bif decide (z>=aa) then gb true (slB (h2.length) (some 1) none) (0,0) fun ab=>Qo n b k0 m (cut a i) (cut h2 ab) f else Qo n b k0 m (cut a i) h2 f else gb true (pIw c) 0 fun ac=>gb true (pIw d) 0 fun ad=>bif decide (ac>=ad) then gb true (slB (h2.length) (some 1) none) (0,0) fun ae=>Qo n b k0 m a (cut h2 ae) f else Qo n b k0 m a h2 f else gb true (pIw c) 0 fun ag=>gb true (pIw d) 0 fun ah=>bif decide (ag<=ah) then gb true (slB (a.length) (some 1) none) (0,0) fun j=>gb true (pIw c) 0 fun ai=>gb true (pIw d) 0 fun aj=>bif decide (ai>=aj) then gb true (slB (h2.length) (some 1) none) (0,0) fun ak=>Qo n b k0 m (cut a j) (cut h2 ak) e else Qo n b k0 m (cut a j) h2 e else gb true (pIw c) 0 fun al=>gb true (pIw d) 0 fun am=>bif decide (al>=am) then gb true (slB (h2.length) (some 1) none) (0,0) fun an=>Qo n b k0 m a (cut h2 an) e else Qo n b k0 m a h2 e else k0 a h2 (bif (decide ((a.length:Int)>0)) then (decide ((h2.length:Int)>0)) else false) e
def Kx (n:Nat) (a0 a1:LL) (a:Int) (b:LL) (K:LL->oP R):oP R:= Qo n a (fun d e f c=>K c) n a0 a1 b
end Go.Vx
namespace Go.Vx
variable {R:Type}
def Ja (n:Nat) (a0:Int) (a1 a2:LL) (K:LL->Int->oP R):oP R:= jn (fun (d:Bool)=>bif d then K [] 4 else jn (fun (e:Bool)=>bif e then K [] 1 else gb true (Kx n a1 a2 a0 [] some) [] fun f=>K f 0) fun a=>gb true (Jc n a1 some) false fun b=>bif !b then a (!b) else gb true (Jc n a2 some) false fun g=>a (!g)) fun c=>bif decide (a0<1) then c (decide (a0<1)) else c (decide (a0>7200))
end Go.Vx
namespace Go.Vx
variable {R:Type}
def Pk (n:Nat) (a b:Int) (K:Int->oP R):oP R:= K (wJ (b-a))
end Go.Vx
namespace Go.Vx
variable {R:Type}
def ZJ (n:Nat) (h2:LL) (b:Int) (k0:Int->Int->Bool->oP R):Nat->Int->Int->oP R
 | 0,_,_=>none
 | m+1,c,a=>bif decide (a<b) then gb true (Q1 h2 a) [] fun d=>gb true (d[0]?) oF fun e=>gb true (d[1]?) oF fun f=>gb true (pIw e) 0 fun g=>gb true (pIw f) 0 fun h=>gb true (Pk n g h some) 0 fun i=>ZJ n h2 b k0 m (wJ (c+i)) (wJ (a+1)) else k0 c a (decide (a<b))
def Ss (n:Nat) (a0:LL) (K:Int->oP R):oP R:= ZJ n a0 (a0.length:Int) (fun a b c=>K a) n 0 0
end Go.Vx
namespace Go.Vx
variable {R:Type}
def HX (n:Nat) (a0:Int) (a1:LL) (K:Int->oP R):oP R:= gb true (Gg n a0 a1 some) false fun a=>bif !a then K 0 else gb true (Ss n a1 some) 0 fun b=>K b
end Go.Vx
namespace Go.Vx
variable {R:Type}
def Zs (n:Nat) (b:Int) (e:LL) (c:Int) (k0:Int->Bool->LL->oP R):Nat->Int->LL->oP R
 | 0,_,_=>none
 | m+1,a,d=>bif decide (a<c) then gb true (Q1 e a) [] fun f=>gb true (f[0]?) oF fun i=>gb true (f[1]?) oF fun j=>gb true (pIw j) 0 fun g=>gb true (pIw i) 0 fun h=>gb true (Yf ((d.length+[[Q4 g,Q4 (wJ ((wJ (h+b))-1))]].length)*16)) () fun k=>Zs n b e c k0 m (wJ (a+1)) (d++[[Q4 g,Q4 (wJ ((wJ (h+b))-1))]]) else k0 a (decide (a<c)) d
def YD (n:Nat) (b c:Int) (d:LL) (k0:Int->Bool->LL->oP R):Nat->Int->LL->oP R
 | 0,_,_=>none
 | m+1,a,e=>bif decide (a<c) then gb true (inB (d.length) a) () fun k=>gb true (d[a.toNat]?) [] fun f=>gb true (f[0]?) oF fun i=>gb true (f[1]?) oF fun j=>gb true (pIw j) 0 fun g=>gb true (pIw i) 0 fun h=>gb true (Yf ((e.length+[[Q4 g,Q4 (wJ ((wJ (h+b))-1))]].length)*16)) () fun l=>YD n b c d k0 m (wJ (a+1)) (e++[[Q4 g,Q4 (wJ ((wJ (h+b))-1))]]) else k0 a (decide (a<c)) e
def WD (n:Nat) (a0:Int) (a1 a2:LL) (K:LL->Int->oP R):oP R:= gb true (Ja n a0 a1 a2 Tu2) ([],0) fun a=>bif (a.2 != 0) then K [] a.2 else gb true (HX n a0 a.1 some) 0 fun h=>bif (h == a0) then K [] 13 else gb (decide ((a.1.length:Int)>1)) (inB (a.1.length) 0) () fun u3=>gb (decide ((a.1.length:Int)>1)) (a.1[(Int.toNat 0)]?) [] fun i=>gb (decide ((a.1.length:Int)>1)) (i[0]?) oF fun j=>gb (decide ((a.1.length:Int)>1)) (pIw j) 0 fun b=>gb (bif (decide ((a.1.length:Int)>1)) then (b == 0) else false) (inB (a.1.length) (wJ ((a.1.length:Int)-1))) () fun u=>gb (bif (decide ((a.1.length:Int)>1)) then (b == 0) else false) (a.1[(Int.toNat (wJ ((a.1.length:Int)-1)))]?) [] fun k=>gb (bif (decide ((a.1.length:Int)>1)) then (b == 0) else false) (k[1]?) oF fun l=>gb (bif (decide ((a.1.length:Int)>1)) then (b == 0) else false) (pIw l) 0 fun m=>bif (bif (bif (decide ((a.1.length:Int)>1)) then (b == 0) else false) then (m == a0) else false) then gb true (inB (a.1.length) (wJ ((a.1.length:Int)-1))) () fun v=>gb true (a.1[(Int.toNat (wJ ((a.1.length:Int)-1)))]?) [] fun o=>gb true (o[1]?) oF fun p=>gb true (pIw p) 0 fun c=>gb true (inB (a.1.length) 0) () fun x=>gb true (a.1[(Int.toNat 0)]?) [] fun q=>gb true (q[1]?) oF fun r=>gb true (pIw r) 0 fun d=>gb true (inB (a.1.length) (wJ ((a.1.length:Int)-1))) () fun y=>gb true (a.1[(Int.toNat (wJ ((a.1.length:Int)-1)))]?) [] fun e=>gb true (slB (List.length (List.set a.1 (Int.toNat (wJ ((a.1.length:Int)-1))) (List.set e 1 (Q4 (wJ (c+d)))))) (some 1) none) (0,0) fun f=>Zs n a0 (cut (List.set a.1 (Int.toNat (wJ ((a.1.length:Int)-1))) (List.set e 1 (Q4 (wJ (c+d))))) f) ((List.length (cut (List.set a.1 (Int.toNat (wJ ((a.1.length:Int)-1))) (List.set e 1 (Q4 (wJ (c+d))))) f):Nat):Int) (fun z aa s=>K s 0) n 0 [] else YD n a0 (a.1.length:Int) a.1 (fun ab ac t=>K t 0) n 0 []
end Go.Vx
namespace Go.Vx
variable {R:Type}
def Qx (n:Nat) (c d:Int) (e:LL) (b:Int) (k0:Int->Bool->LL->oP R):Nat->Int->LL->oP R
 | 0,_,_=>none
 | m+1,a,f=>bif decide (a<b) then gb true (Q1 e a) [] fun g=>gb true (g[0]?) oF fun h=>gb true (g[1]?) oF fun i=>gb true (Yj n c some) 0 fun j=>gb true (Yj n d some) 0 fun k=>gb true (pIw h) 0 fun l=>gb true (pIw i) 0 fun o=>gb true (X9 n f 6 j k l o 0 some) [] fun p=>Qx n c d e b k0 m (wJ (a+1)) p else k0 a (decide (a<b)) f
def QO (n:Nat) (e h:Int) (b i:LL) (k0:Int->LL->oP R) (k1:Int->Bool->LL->oP R):Nat->Int->LL->oP R
 | 0,_,_=>none
 | m+1,a,g=>bif (decide (a<(b.length:Int))) then gb true (XV n b i e a some) (fun _=>false) fun k=>gb true (Q1 b e) [] fun l=>gb true (l[0]?) oF fun o=>gb true (pSl 3 o) [] fun p=>gb true (Uh n p k Tu2) ([],(fun _=>false)) fun j=>gb true (Q1 b a) [] fun q=>gb true (q[0]?) oF fun r=>gb true (pSl 3 r) [] fun s=>gb true (Uh n s j.2 Tu2) ([],(fun _=>false)) fun t=>gb true (WD n h j.1 t.1 Tu2) ([],0) fun f=>bif (f.2 != 0) then k0 f.2 g else Qx n e a f.1 (f.1.length:Int) (fun v x u=>QO n e h b i k0 k1 m (wJ (a+1)) u) n 0 g else k1 a (decide (a<(b.length:Int))) g
def Qp (n:Nat) (a b:Int) (c d:LL) (k0:Int->LL->oP R) (k1:Int->Bool->LL->oP R):Nat->Int->LL->oP R
 | 0,_,_=>none
 | m+1,h2,e=>bif decide (h2<a) then QO n h2 b c d (fun f g=>k0 f g) (fun i j h=>Qp n a b c d k0 k1 m (wJ (h2+1)) h) n (wJ (h2+1)) e else k1 h2 (decide (h2<a)) e
def Yd (n:Nat) (b:Int) (a c d:LL) (K:Int->LL->oP R):oP R:= Qp n (a.length:Int) b a c (fun e f=>K e f) (fun h i g=>K 0 g) n 0 d
end Go.Vx
namespace Go.Vx
variable {R:Type}
def GI (n:Nat) (k l m o:LL) (d:Int) (p q e i g j r:LL) (K:Int->LL->LL->Int->oP R):oP R:= gb true (J9 n k l m o d p q e i g j r some) 0 fun a=>bif (a != 0) then K 0 [] [] 1 else gb true (Yv n e [] [] Tu2) ([],[]) fun b=>bif (decide ((b.2.length:Int)>48)) then K 0 [] [] 7 else gb true (HN n k l m o d p q e i g j r Tu3) ([],[],0) fun c=>bif (c.2.2 != 0) then K 0 [] [] c.2.2 else gb true (YA n e g b.1 c.2.1 [] some) [] fun s=>gb true (ZC n d c.1 s some) false fun t=>bif !t then K 0 [] [] 13 else gb true (Ym n e i g j b.1 c.2.1 [] some) [] fun r6=>gb true (Yd n d c.1 s r6 Tu2) (0,[]) fun h=>bif (h.1 != 0) then K 0 [] [] h.1 else bif (decide ((h.2.length:Int)>512)) then K 0 [] [] 7 else K d b.2 h.2 0
end Go.Vx
namespace Go.Vx
namespace Cx
variable (X:Cx)
def evl (i:Nat):Nat->LL
 |0=>[]
 |k+1=>evl i k++[[Q4 1,Q4 i,Q4 k],[Q4 2,Q4 i,Q4 k]]
def evs:Nat->LL
 |0=>[]
 |i+1=>evs i++evl i (X.nr i)
theorem Q1v {i:Nat}:∀ {k:Nat},(evl i k).length=2*k
 |0=>rfl
 |k+1=>by rw [evl,Qjr,Q1v];simp;omega
variable {X}
theorem evs_len:∀ {i:Nat},(X.evs i).length=2*base X.nr i
 |0=>rfl
 |i+1=>by rw [evs,Qjr,evs_len,Q1v,base];omega
def fst (X:Cx) (i:Nat):LL:=encI ((List.range i).map fun j=>(base X.nr j:Int))
theorem Q6f {i L:Nat} (h:i<L):Q1 (X.fst L) (i:Int)=some [Q4 (base X.nr i)]:=HM (by simp [h])
variable {R:Type} {n:Nat} (h:X.OK)
include h
theorem QbU (K:LL->LL->oP R):Yv 400 X.Ls [] [] K=K (X.fst X.L) (X.evs X.L):=by
 have l1:=h.l1;unfold Yv;refine Qu (r:=fun m i=>QJ 400 X.Ls ((X.Ls.length:Nat):Int) (fun _ _ u v=>K u v) m i (X.fst i.toNat) (X.evs i.toNat)) (N:=X.Ls.length) (fun m i hi=>?_) (fun m=>?_) X.Ls.length 400 0 (by omega) (by omega)
 ·simp only [Int.toNat_natCast];have hb:=Ye h (i:=i) (by omega);have hl:=(H8 h hi).2.1;have e1:wJ (Int.tdiv ((2*base X.nr i:Nat):Int) 2)=(base X.nr i:Int):=by
   rw [Int.tdiv_eq_ediv_of_nonneg (by omega),Q7 (by omega) (by omega)];omega
  have e2:X.fst i++[[D.int .i64 (base X.nr i:Int)]]=X.fst (i+1):=by simp [fst,encI,List.range_succ]
  have a:(X.fst i).length=i:=by simp [fst,encI]
  rw [QJ,Qc hi,cond_true,Qe,(H8 h hi).1];simp -implicitDefEqProofs only [Q0,Qj2,Qj4,QG,Qq (show i<=1000 by omega),EE (b:=2) (by decide),evs_len,e1,e2,XF (show ((X.fst i).length+[[D.int .i64 (base X.nr i:Int)]].length)*8<=100000 by rw [a];simp;omega)];refine Qu (r:=fun m' k=>X2 400 (i:Int) ((X.nr i:Nat):Int) (fun _ _ w=>QJ 400 X.Ls ((X.Ls.length:Nat):Int) (fun _ _ u v=>K u v) m ((i+1:Nat):Int) (X.fst (i+1)) w) m' k (X.evs i++evl i k.toNat)) (N:=X.nr i) (fun m' k hk=>?_) (fun m'=>?_) (X.nr i) 400 0 (by omega) (by omega) |> Eq.trans (by simp [evl];rfl)
  ·simp only [Int.toNat_natCast];rw [X2,Qc hk,cond_true,XF (by simp [evs_len,Q1v];omega),Q0,Qq (by omega),Qjp];rfl
  ·simp only [Int.toNat_natCast];rw [X2,Qi,Qj3];rfl
 ·simp only [Int.toNat_natCast];rw [QJ,Qi,Qj3];rfl
omit h in
theorem Qbh {a:Nat} (ha:a<=1000) (K:Int->oP R):Yj n (a:Int) K=K ((2*a:Nat):Int):=by
 grind [Yj,Q7]
omit h in
theorem QfJ {a:Nat} (ha:a<=1000) (K:Int->oP R):Uw n (a:Int) K=K ((2*a+1:Nat):Int):=by
 grind [Uw,Q7]
theorem Q2H {i k:Nat} (hi:i<X.Ls.length) (hk:k<=10) (K:Int->oP R):XJ n (X.fst X.L) (i:Int) (k:Int) K=K ((base X.nr i+k:Nat):Int):=by
 have hb:=Ye h (i:=i) (by omega);unfold XJ
 grind [Q6f,L,Qe,fst,encI,Y0,Q0,Int.toNat_natCast,List.getElem?_cons_zero,Q3,Q7]
theorem Q02 {i k:Nat} (hi:i<X.Ls.length) (hk:k<=10) (K:Int->oP R):QW n (X.fst X.L) (i:Int) (k:Int) K=K ((base X.nr i+k:Nat):Int):=Q2H (n:=n) h hi hk K
theorem Qbr {i:Nat} (hi:i<X.Ls.length) (K:Int->oP R):ZW n X.Ls (X.fst X.L) (i:Int) K=K ((base X.nr i+(X.nr i-1):Nat):Int):=by
 have hl:=(H8 h hi).2.1;have hw:wJ (((List.length (GJ X.Ls i):Nat):Int)-1)=((X.nr i-1:Nat):Int):=Jq (k:=X.nr i) (by omega) (by omega)
 grind [ZW,Qe,H8,Q0,List.getElem?_cons_zero,List.getElem?_cons_succ,QG,Q2H]
theorem QdI {i:Nat} (hi:i<X.Ls.length) (K:Int->oP R):Vb n X.Ls (X.fst X.L) (i:Int) K=K ((base X.nr i+(X.nr i-1):Nat):Int):=Qbr (n:=n) h hi K
omit h in
def j1 (X:Cx) (i k:Nat):Tup:=(base X.nr i+k,base X.nr i+(k+1),X.run i k+X.mn i k,X.run i k+X.ex i k+X.mx i k)
omit h in
def jT (X:Cx) (t:Tup):Tup:=(base X.nr t.1+(X.nr t.1-1),base X.nr t.2.1+0,X.run t.1 (X.nr t.1-1)+t.2.2.1,X.run t.1 (X.nr t.1-1)+X.ex t.1 (X.nr t.1-1)+t.2.2.2)
omit h in
def jL (X:Cx) (i:Nat):List Tup:=Q9z (fun i=>X.nr i-1) X.j1 i
omit h in
def jns (X:Cx):List Tup:=X.jL X.L++X.T.map X.jT
omit h in
theorem Q5p {i k:Nat} (hi:i<X.Ls.length) (hk:k<X.nr i):Q1 (encI (X.runs X.L)) ((base X.nr i+k:Nat):Int)=some [Q4 (X.run i k)]:=HM (Q0M hk hi)
omit h in
theorem Qe9 {i k:Nat} (hi:i<X.Ls.length) (hk:k<X.nr i):Q1 (GH (X.occs X.L)) ((base X.nr i+k:Nat):Int)=some [D.sl 3 ((X.occ i k).map enc)]:=QL (Q0M hk hi)
theorem QdK {i k b:Nat} (hi:i<X.Ls.length) (hk:k<X.nr i) {ex lo aj:Int} (a:0<=ex) (e1:ex<=1000) (l0:0<=lo) (l1:lo<=1000) (c:0<=aj) (d:aj<=1000) {J:List Tup} (hJ:J.length<=100) (K:LL->oP R) :
  Y3 n (encI (X.runs X.L)) (J.map tuR) ((base X.nr i+k:Nat):Int) (b:Int) ex lo aj K=K ((J++[(base X.nr i+k,b,X.run i k+lo,X.run i k+ex+aj)]).map tuR):=by
 have hr:=SA h hi hk;unfold Y3;rw [Q5p hi hk,Q0];simp -implicitDefEqProofs only [Q0,Qj2,Q3,Q7 (x:=X.run i k+lo) (by omega) (by omega),Q7 (x:=X.run i k+ex) (by omega) (by omega),Q7 (x:=X.run i k+ex+aj) (by omega) (by omega)];rw [XF (by simp;omega),Q0,Qjg];rfl
omit h in
theorem QdC {i:Nat}:(X.jL i).length=base (fun i=>X.nr i-1) i:=Zv
theorem QcL {i:Nat} (hi:i<=X.Ls.length):(X.jL i).length<=6:=by
 rw [QdC];have:∀ i,base (fun i=>X.nr i-1) i<=base X.nr i:=by
  intro i;induction i with
  |zero=>exact Qjf _
  |succ i ih=>grind [base]
 grind [Nat.le_trans,Ye]
theorem Qdi (K:LL->oP R):YA 400 X.Ls (X.T.map tuR) (X.fst X.L) (encI (X.runs X.L)) [] K=K (X.jns.map tuR):=by
 have l1:=h.l1;have tl:=h.tl;unfold YA;have s2:∀ k0:Int->Bool->LL->oP R,Qw 400 X.Ls ((X.Ls.length:Nat):Int) (X.fst X.L) (encI (X.runs X.L)) k0 400 0 []=k0 ((X.Ls.length:Nat):Int) false ((X.jL X.L).map tuR):=by
  intro k0;refine Qu (r:=fun m i=>Qw 400 X.Ls ((X.Ls.length:Nat):Int) (X.fst X.L) (encI (X.runs X.L)) k0 m i ((X.jL i.toNat).map tuR)) (N:=X.Ls.length) (fun m i hi=>?_) (fun m=>?_) X.Ls.length 400 0 (by omega) (by omega)
  ·simp only [Int.toNat_natCast];have hl:=(H8 h hi).2.1;have hJ:=QcL h (i:=i) (by omega);have hw:wJ (((List.length (GJ X.Ls i):Nat):Int)-1)=((X.nr i-1:Nat):Int):=Jq (k:=X.nr i) (by omega) (by omega);have aq:(cut (GJ X.Ls i) (0,X.nr i-1)).length=X.nr i-1:=by rw [L4,List.length_take];unfold nr;omega
   rw [Qw,Qc hi,cond_true,Qe,(H8 h hi).1];simp -implicitDefEqProofs only [Q0,Qj2,Qj4,QG,Qq (show i<=1000 by omega),hw,Q1c (n:=(GJ X.Ls i).length) (h:=X.nr i-1) (Nat.sub_le ..),aq];refine Qu (r:=fun m' k=>Xd 400 (i:Int) (cut (GJ X.Ls i) (0,X.nr i-1)) ((X.nr i-1:Nat):Int) (X.fst X.L) (encI (X.runs X.L)) (fun _ _ w=>Qw 400 X.Ls ((X.Ls.length:Nat):Int) (X.fst X.L) (encI (X.runs X.L)) k0 m ((i+1:Nat):Int) w) m' k ((X.jL i++(List.range k.toNat).map (X.j1 i)).map tuR)) (N:=X.nr i-1) (fun m' k hk=>?_) (fun m'=>?_) (X.nr i-1) 400 0 (by omega) (by omega) |> Eq.trans (by simp)
   ·simp only [Int.toNat_natCast];have r:=rd h hi (show k<X.nr i by omega);have an:Q1 (cut (GJ X.Ls i) (0,X.nr i-1)) (k:Int)=some [Q4 (rF X.Ls i k 0),Q4 (X.ex i k),Q4 (X.mn i k),Q4 (X.mx i k)]:=by rw [L4,Qe,List.getElem?_take_of_lt hk,r.row]
    have c:=r.ex0;have e1:=r.ex1;have e2:=r.mn0;have o:=r.mn1;have p:=r.mn2;have s:=r.mn3;rw [Xd,Qc hk,cond_true,an];simp -implicitDefEqProofs only [Q0,Qj2,Qj4,Q3,Q2H (n:=400) h hi (show k<=10 by omega),Qq (show k<=1000 by omega),Q2H (n:=400) h hi (show k+1<=10 by omega),QdK (n:=400) (b:=base X.nr i+(k+1)) h hi (show k<X.nr i by omega) c (show X.ex i k<=1000 by omega) e2 (show X.mn i k<=1000 by omega) (show 0<=X.mx i k by omega) (show X.mx i k<=1000 by omega) (J:=X.jL i++(List.range k).map (X.j1 i)) (by simp;omega)];rw [show (base X.nr i+k,base X.nr i+(k+1),X.run i k+X.mn i k,X.run i k+X.ex i k+X.mx i k)=X.j1 i k from rfl,Zr]
   ·simp only [Int.toNat_natCast];rw [Xd,Qi,Qj3];rfl
  ·simp only [Int.toNat_natCast];rw [Qw,Qi,Qj3];rfl
 rw [s2];rw [Qj6];refine Qu (r:=fun m j=>Xb 400 (X.T.map tuR) ((X.T.length:Nat):Int) (X.fst X.L) X.Ls (encI (X.runs X.L)) (fun _ _ w=>K w) m j ((X.jL X.L++(X.T.take j.toNat).map X.jT).map tuR)) (N:=X.T.length) (fun m j hj=>?_) (fun m=>?_) X.T.length 400 0 (by omega) (by omega) |> Eq.trans (by simp)
 ·simp only [Int.toNat_natCast];obtain ⟨⟨a,b,lo,aj⟩,e⟩:∃ q,X.T[j]? = some q:=⟨X.T[j],Qj9 hj⟩;have ht:=h.tr _ (Qjb e);have ha:a<X.Ls.length:=ht.1;have hb:b<X.Ls.length:=ht.2.1;have t1:=ht.2.2.1;have t2:=ht.2.2.2.1;have f:=ht.2.2.2.2.1;have g:=ht.2.2.2.2.2.1;dsimp only at t1 t2 f g;have hl:=(H8 h ha).2.1;have hJ:=QcL h (i:=X.L) (Qjf _);have hw:wJ (((List.length (GJ X.Ls a):Nat):Int)-1)=((X.nr a-1:Nat):Int):=Jq (k:=X.nr a) (by omega) (by omega);have r:=rd h ha (show X.nr a-1<X.nr a by omega);have c:=r.ex0;have e1:=r.ex1;rw [Xb,Qc hj,cond_true,QL e];simp -implicitDefEqProofs only [Q0,tuR,Qj2,Qj4,Q3,QG,Qe,(H8 h ha).1,hw,r.row,Qbr (n:=400) h ha,Qq (show j<=1000 by omega)];have d:=Q2H (R:=Int) (n:=400) h hb (Nat.zero_le 10) some;rw [show ((0:Nat):Int)=0 from rfl] at d;rw [d,Q0];have l:X.jL X.L++(X.T.take (j+1)).map X.jT=X.jL X.L++(X.T.take j).map X.jT++[X.jT (a,b,lo,aj)]:=by rw [YC e,Qjg,Qjp];rfl
  rw [QdK (n:=400) (b:=base X.nr b+0) h ha (show X.nr a-1<X.nr a by omega) c (show X.ex a (X.nr a-1)<=1000 by omega) (show 0<=lo by omega) (show lo<=1000 by omega) (show 0<=aj by omega) (show aj<=1000 by omega) (J:=X.jL X.L++(X.T.take j).map X.jT) (by simp;omega),Q0,l];rfl
 ·simp only [Int.toNat_natCast];rw [Xb,Qi,Qj3,Qjx];rfl
end Cx
end Go.Vx
namespace Go.Vx
variable {R:Type}
def Fk (n:Nat) (a0 a1:Int) (K:Int->oP R):oP R:= bif decide (a1<1) then K 0 else gb true (nz a1) () fun a=>bif (decide ((Int.tmod a0 a1)<0)) then K (wJ ((Int.tmod a0 a1)+a1)) else K (Int.tmod a0 a1)
end Go.Vx
namespace Go.Vx
abbrev Sp2:=Int × Int
def Y7 (q:Sp2):List D:=[Q4 q.1,Q4 q.2]
def VS (t:Int):Int->List Sp2->Prop
 |_,[]=>True
 |l,(a,b)::r=>l<a/\a<b/\b<=t/\VS t b r
def InS (y:Int) (l:List Sp2):Prop:=∃ q∈l,q.1<=y/\y<q.2
def cnt:List Sp2->Int
 |[]=>0
 |(a,b)::r=>(b-a)+cnt r
theorem MY {y:Int}:¬ InS y []:=fun ⟨_,h,_⟩=>nomatch h
theorem T1 {y:Int} {q:Sp2} {l:List Sp2}:InS y (q::l)↔(q.1<=y/\y<q.2)\/InS y l:=by
 constructor
 ·rintro ⟨p,hp,h⟩;cases hp with
  |head=>exact .inl h
  |tail _ hp=>exact .inr ⟨p,hp,h⟩
 ·rintro (h | ⟨p,hp,h⟩)
  ·exact ⟨q,.head _,h⟩
  ·exact ⟨p,.tail _ hp,h⟩
theorem Q8P {y:Int} {a b:List Sp2}:InS y (a++b)↔InS y a\/InS y b:=by
 constructor
 ·rintro ⟨p,hp,h⟩;rcases Qji.1 hp with hp | hp
  ·exact .inl ⟨p,hp,h⟩
  ·exact .inr ⟨p,hp,h⟩
 ·rintro (⟨p,hp,h⟩ | ⟨p,hp,h⟩)
  ·exact ⟨p,Qjv _ hp,h⟩
  ·exact ⟨p,Qju _ hp,h⟩
theorem Q5M {y:Int} {a b:List Sp2} (h:a.Perm b):InS y a↔InS y b:=⟨fun ⟨p,hp,q⟩=>⟨p,h.mem_iff.1 hp,q⟩,fun ⟨p,hp,q⟩=>⟨p,h.mem_iff.2 hp,q⟩⟩
theorem VS.rng {t:Int}:∀ {l:Int} {s:List Sp2},VS t l s->∀ q∈s,l<q.1/\q.1<q.2/\q.2<=t
 |_,[],_,_,h=>nomatch h
 |l,(a,b)::r,⟨c,h2,d,e⟩,q,h=>by
  cases h with
  |head=>exact ⟨c,h2,d⟩
  |tail _ h=>have:=e.rng q h;exact ⟨by omega,this.2⟩
theorem VS.cnt {t:Int}:∀ {l:Int} {s:List Sp2},l<=t->VS t l s->0<=cnt s/\cnt s<=t-l/\(0<s.length->cnt s<=t-l-1)
 |l,[],h,_=>⟨Int.le_refl _,by simp only [Vx.cnt];omega,fun h=>nomatch h⟩
 |l,(a,b)::r,h,⟨e,h2,c,d⟩=>by
  have:=d.cnt c;simp only [Vx.cnt];omega
theorem Q9k {t:Int}:∀ {l:Int} {s:List Sp2},VS t l s->l<=t->∀ q∈s,q.2-q.1<=cnt s
 |_,[],_,_,_,h=>nomatch h
 |l,(a,b)::r,⟨e,h2,c,d⟩,hl,q,h=>by
  have f:=d.cnt c;cases h with
  |head=>simp only [Vx.cnt];omega
  |tail _ h=>have:=Q9k d c q h;simp only [Vx.cnt];omega
section
variable {R:Type} {n:Nat} {t:Int}
theorem Q1d (a:1<=t) (b:t<=7200) (K:Bool->oP R):UP n t K=K true:=by
 unfold UP;simp only [show decide (t>=1)=true from Qj7 a,show decide (t<=7200)=true from Qj7 b,cond_true]
theorem Q5I {l:List Sp2} (hl:l.length<=1000) {k0:oP R} {k1:Int->Int->Bool->oP R} {E:oP R} (hk:∀ a b c,k1 a b c=E):∀ (aj:List Sp2) (i m:Nat) (last:Int),l.drop i=aj->aj.length<m->VS t last aj->U8 n t (l.map Y7) ((l.length:Nat):Int) k0 k1 m last (i:Int)=E
 |[],i,m+1,last,hd,_,_=>by
  have:=ZP hd;rw [U8,show decide ((i:Int)<((l.length:Nat):Int))=false by simpa using this,Qj3,hk]
 |(a,b)::aj,i,m+1,last,hd,hm,⟨f,h2,g,d⟩=>by
  obtain ⟨e,ak,hi⟩:=Yh hd;rw [U8,Qc hi,cond_true,QL e];simp -implicitDefEqProofs only [Q0,Y7,Qj2,Qj4,Q3,show decide (a<=last)=false from Qj5 (by omega),show decide (a>=b)=false from Qj5 (by omega),show decide (b>t)=false from Qj5 (by omega),Qj3,Qq (show i<=1000 by omega)];exact Q5I hl hk aj (i+1) m b ak (by simpa using hm) d
theorem BO {l:List Sp2} (a:1<=t) (b:t<=7200) (hl:l.length<=300) (h:VS t (-1) l):Gg 400 t (l.map Y7) (some:Bool->Option Bool)=some true:=by
 unfold Gg;rw [Q1d a b,Q0,Q9 (by rfl),Qj6];exact Q5I (by omega) (fun _ _ _=>rfl) l 0 400 (-1) rfl (by omega) h
theorem Q5n {l:List Sp2} (hl:l.length<=1000) {k0:Int->Int->Bool->oP R}:∀ (aj:List Sp2) (i m:Nat) (acc:Int),l.drop i=aj->aj.length<m->(∃ u,VS t u aj /\ -1<=u/\u<=t)->t<=7200->0<=acc->acc<=100000-cnt aj->∃ j b,ZJ n (l.map Y7) ((l.length:Nat):Int) k0 m acc (i:Int)=k0 (acc+cnt aj) j b
 |[],i,m+1,acc,hd,_,_,_,_,_=>by
  have:=ZP hd;rw [ZJ,show decide ((i:Int)<((l.length:Nat):Int))=false by simpa using this,Qj3];exact ⟨_,_,by rw [cnt,Int.add_zero]⟩
 |(a,b)::aj,i,m+1,acc,hd,hm,⟨u,⟨k,h2,d,f⟩,o,p⟩,ht,q,g=>by
  obtain ⟨e,ak,hi⟩:=Yh hd;have hc:=f.cnt d;rw [cnt] at g ⊢;rw [ZJ,Qc hi,cond_true,QL e];simp -implicitDefEqProofs only [Q0,Y7,Qj2,Qj4,Q3,Pk,Q7 (x:=b-a) (by omega) (by omega),Q7 (x:=acc+(b-a)) (by omega) (by omega),Qq (show i<=1000 by omega)];obtain ⟨j,c,h⟩:=Q5n hl aj (i+1) m (acc+(b-a)) ak (by simpa using hm) ⟨b,f,by omega,d⟩ ht (by omega) (by omega);exact ⟨j,c,by rw [h,Int.add_assoc]⟩
theorem Qf1 {l:List Sp2} (c:1<=t) (a:t<=7200) (hl:l.length<=300) (h:VS t (-1) l):HX 400 t (l.map Y7) (some:Int->Option Int)=some (cnt l):=by
 have hc:=h.cnt (by omega);obtain ⟨j,b,e⟩:=Q5n (n:=400) (k0:=fun w _ _=>(some w:Option Int)) (l:=l) (by omega) l 0 400 0 rfl (by omega) ⟨-1,h,by omega,by omega⟩ a (by omega) (by omega);unfold HX;rw [BO c a hl h,Q0,Q9 (by rfl)];unfold Ss;rw [Qj6,show ZJ 400 (l.map Y7) ((l.length:Nat):Int) (fun w _ _=>(some w:Option Int)) 400 0 0=_ from e,Q0,Int.zero_add]
theorem QfX {x:Int} (c:1<=t) (d:t<=7200) (h2 : -1000000000<=x) (f:x<=1000000000) (K:Int->oP R):Ta n x t K=K (x % t):=by
 unfold Ta;rw [Q9 (Qj5 (by omega)),EE (by omega),Q0];have g:=Qjl x (show t≠0 by omega);have h:=Qjj x (show 0<t by omega);by_cases hx:0<=x
 ·rw [Qjs hx,Q9 (Qj5 (by omega))]
 ·have e:Int.tmod x t = -((-x) % t):=by
   rw [show x = -(-x) by omega,Int.neg_tmod,Qjs (by omega),Int.neg_neg]
  have e1:x % t=if (-x) % t=0 then 0 else t-(-x) % t:=by
   have a:=Qjl (-x) (show t≠0 by omega);have i:=Qjj (-x) (show 0<t by omega);have j:=Int.mul_ediv_add_emod (-x) t;split
   ·rename_i b;rw [show x=t*(-((-x) / t)) by rw [Int.mul_neg];omega];exact Int.mul_emod_right _ _
   ·rename_i b;rw [show x=(t-(-x) % t)+t*(-((-x) / t)-1) by rw [Int.mul_sub,Int.mul_neg];omega,Int.add_mul_emod_self_left];rw [show (t-(-x) % t+t*(-((-x) / t)-1))=x by rw [Int.mul_sub,Int.mul_neg];omega];exact Qjt (by omega) (by omega)
  rw [e];by_cases hz:(-x) % t=0
  ·rw [hz,Q9 (by rfl),e1,if_pos hz];rfl
  ·have a:=Qjl (-x) (show t≠0 by omega);rw [QX (Qj7 (by omega)),Q7 (by omega) (by omega),e1,Qja hz];congr 1;omega
theorem Qfv {x:Int} (a:1<=t) (b:t<=7200) (h2 : -1000000000<=x) (c:x<=1000000000) (K:Int->oP R):Fk n x t K=K (x % t):=QfX (n:=n) a b h2 c K
def Q3l (t x k:Int):List Sp2:=if k<1 then [] else if t<=k then [(0,t)] else if x+k<=t then [(x,x+k)] else [(0,x+k-t),(x,t)]
theorem Q8e {x k:Int}:(Q3l t x k).length<=2:=by
 unfold Q3l;split
 ·simp
 split
 ·simp
 split <;> simp
theorem Qa7 {x k:Int} (a:1<=t) (hx:0<=x) (aj:x<t):VS t (-1) (Q3l t x k):=by
 unfold Q3l;split
 ·trivial
 split
 ·exact ⟨by omega,by omega,by omega,trivial⟩
 split
 ·exact ⟨by omega,by omega,by omega,trivial⟩
 ·exact ⟨by omega,by omega,by omega,by omega,by omega,by omega,trivial⟩
theorem Qhv {x y:Int} (hx:0<=x) (aj:x<t) (hy:0<=y) (ak:y<t):(y-x) % t=if x<=y then y-x else y-x+t:=by
 split
 ·exact Qjt (by omega) (by omega)
 ·rw [show y-x=(y-x+t)+t*(-1) by omega,Int.add_mul_emod_self_left];rw [show y-x+t+t*(-1)+t=y-x+t by omega];exact Qjt (by omega) (by omega)
theorem Qaz {x k y:Int} (hx:0<=x) (an:x<t) (hy:0<=y) (aj:y<t):InS y (Q3l t x k)↔(y-x) % t<k:=by
 rw [Qhv hx an hy aj];unfold Q3l;split
 ·refine ⟨fun h=>absurd h MY,fun h=>?_⟩;split at h <;> omega
 split
 ·rw [T1];constructor
  ·intro _;split <;> omega
  ·intro _;exact .inl ⟨hy,aj⟩
 split
 ·rw [T1];constructor
  ·rintro (h | h)
   ·dsimp only at h;rw [if_pos h.1];omega
   ·exact absurd h MY
  ·intro h;left;dsimp only;split at h <;> omega
 ·rw [T1,T1];constructor
  ·rintro (h | h | h)
   ·dsimp only at h;split <;> omega
   ·dsimp only at h;rw [if_pos h.1];omega
   ·exact absurd h MY
  ·intro h;dsimp only;by_cases ak:x<=y
   ·exact .inr (.inl ⟨ak,aj⟩)
   ·rw [Qja ak] at h;exact .inl ⟨hy,by omega⟩
theorem Qfx {f k:Int} (c:1<=t) (d:t<=7200) (h2 : -1000000<=f) (j:f<=1000000) (l : -1000000<=k) (m:k<=1000000):TL 400 t f k Tu2=some ((Q3l t (f % t) k).map Y7,(0:Int)):=by
 have e:=Qjl f (show t≠0 by omega);have g:=Qjj f (show 0<t by omega);unfold TL;rw [Q1d c d,Q0,Q9 (by rfl),QfX c d (by omega) (by omega),Q0];revert e g;generalize f % t=x;intro e g;unfold Jj Q3l;by_cases c1:k<1
 ·rw [show decide (k<1)=true from Qj7 c1,cond_true,if_pos c1];rfl
 rw [show decide (k<1)=false from Qj5 c1,Qj3,Qja c1];by_cases a:t<=k
 ·rw [show decide (k>=t)=true from Qj7 a,cond_true,if_pos a];rfl
 rw [show decide (k>=t)=false from Qj5 a,Qj3,Qja a,Q7 (x:=x+k) (by omega) (by omega)];by_cases b:x+k<=t
 ·rw [show decide (x+k<=t)=true from Qj7 b,cond_true,if_pos b];rfl
 ·rw [show decide (x+k<=t)=false from Qj5 b,Qj3,Qja b,Q7 (x:=x+k-t) (by omega) (by omega)];rfl
end
end Go.Vx
namespace Go.Vx
theorem Qhm {R:Type} {n:Nat} {a b:Int} (K:Int->oP R):VV n a b K=K (if a<b then -1 else if b<a then 1 else 0):=by
 unfold VV;have hn:∀ x:Int,Vi n x (some:Bool->Option Bool)=some false:=fun x=>by
  grind [Vi]
 rw [hn,hn,Q0,Q0,Q9 (by rfl),Q9 (by rfl)]
 grind
def Asc (l:List Sp2):Prop:=l.Pairwise fun a b=>a.1<=b.1
theorem Qaf (q:Sp2):(Y7 q)[0]? = some (Q4 q.1):=rfl
theorem Q9K (q:Sp2):(Y7 q)[1]? = some (Q4 q.2):=rfl
theorem QfD (z q:Sp2):((Y7 z).set 0 (Q4 q.1)).set 1 (Q4 q.2)=Y7 q:=rfl
theorem Qh6 (q:Sp2) (v:Int):(Y7 q).set 1 (D.int .i64 v)=Y7 (q.1,v):=rfl
section
variable {R:Type} {n:Nat}
theorem QeT {A B:LL} {x:List D} {i:Nat} (h:A.length=i):(A++x::B)[i]? = some x:=by
 simp_all
theorem Qf7 {A B:LL} {x y:List D} {i:Nat} (h:A.length=i):(A++x::B).set i y=A++y::B:=by
 simp_all
theorem QaQ {K:LL->oP R} {k0:Int->Bool->LL->oP R} (hk:∀ a b w,k0 a b w=K w):∀ (c m:Nat) (A:List Sp2) (x:Sp2) (B C:List Sp2),A.length=c->c<m->(A++x::B++C).length<=100->Asc (A++B)->(∀ b∈B,x.1<=b.1) ->
  ∃ L:List Sp2,Qh n 0 k0 m (c:Int) ((A++x::B++C).map Y7)=K ((L++C).map Y7)/\Asc L/\L.Perm (A++x::B)
 |0,m+1,A,x,B,C,hA,_,_,hs,hx=>by
  obtain rfl:=List.eq_nil_of_length_eq_zero hA;refine ⟨x::B,?_,Qjk.2 ⟨hx,hs⟩,List.Perm.refl _⟩;unfold Qh;rw [show decide (((0:Nat):Int)>0)=false from rfl];simp -implicitDefEqProofs only [gbF,Qj3,hk,List.nil_append]
 |c+1,m+1,A,x,B,C,hA,hm,hl,hs,hx=>by
  obtain ⟨A',y,rfl⟩:∃ A' y,A=A'++[y]:=⟨A.dropLast,A.getLast (by intro h;rw [h] at hA;simp at hA),(List.dropLast_concat_getLast _).symm⟩;have aj:A'.length=c:=by simpa using hA
  have an:c+1<((A'++[y]++x::B++C).map Y7).length:=by simp;omega
  have hc:c<=100:=by simp at hl;omega
  have e1:((A'++[y]++x::B++C).map Y7)=(A'.map Y7++[Y7 y])++Y7 x::(B++C).map Y7:=by simp
  have e2:((A'++[y]++x::B++C).map Y7)=A'.map Y7++Y7 y::(Y7 x::(B++C).map Y7):=by simp
  have g1:((A'++[y]++x::B++C).map Y7)[c+1]? = some (Y7 x):=by rw [e1];exact QeT (by simp [aj])
  have d:((A'++[y]++x::B++C).map Y7)[c]? = some (Y7 y):=by rw [e2];exact QeT (by simp [aj])
  have s1:((A'++[y]++x::B++C).map Y7).set (c+1) (Y7 y)=A'.map Y7++Y7 y::(Y7 y::(B++C).map Y7):=by rw [e1,Qf7 (by simp [aj])];simp
  have e:(A'.map Y7++Y7 y::(Y7 y::(B++C).map Y7))[c]? = some (Y7 y):=QeT (by simp [aj]);have s2:(A'.map Y7++Y7 y::(Y7 y::(B++C).map Y7)).set c (Y7 x)=((A'++x::(y::B)++C).map Y7):=by rw [Qf7 (by simp [aj])];simp
  have f:inB ((A'++[y]++x::B++C).map Y7).length ((c+1:Nat):Int)=some ():=Y0 (by omega) (by omega);have g:inB ((A'++[y]++x::B++C).map Y7).length ((c:Nat):Int)=some ():=Y0 (by omega) (by omega);have i3:inB (A'.map Y7++Y7 y::(Y7 y::(B++C).map Y7)).length ((c:Nat):Int)=some ():=Y0 (by omega) (by simp;omega);unfold Qh;rw [show decide (((c+1:Nat):Int)>0)=true from Qj7 (by omega),Jq (show c+1<=1000 by omega) (by omega),Qjd];unfold UQ;simp -implicitDefEqProofs only [f,g,Q0,Int.toNat_natCast,g1,d,Qhm];simp -implicitDefEqProofs only [Qaf,Q9K,QfD,Q0,Q3,cond_true];by_cases ak:x.1<y.1
  ·rw [if_pos ak];simp -implicitDefEqProofs only [show decide ((-1:Int)<0)=true from rfl,cond_true,g1,Qaf,Q9K,QfD,Q0,s1];simp -implicitDefEqProofs only [i3,e,Q0,QfD,s2];obtain ⟨L,i,h2,j⟩:=QaQ hk c m A' x (y::B) C aj (by omega) (by simp at hl ⊢;omega) (by simpa using hs) (fun b hb=>by
    cases hb with
    |head=>omega
    |tail _ hb=>exact hx b hb)
   refine ⟨L,i,h2,j.trans ?_⟩;rw [Qjp];exact List.Perm.append_left _ (List.Perm.swap ..)
  ·refine ⟨A'++[y]++x::B,?_,?_,List.Perm.refl _⟩
   ·rw [Qja ak,show decide ((if y.1<x.1 then (1:Int) else 0)<0)=false from Qj5 (by split <;> omega),Qj3,hk]
   ·unfold Asc at hs ⊢;rw [Qjw] at hs ⊢;refine ⟨hs.1,Qjk.2 ⟨hx,hs.2.1⟩,fun a ha b hb=>?_⟩;cases hb with
    |head=>
     rcases Qji.1 ha with h | h
     ·have:=(Qjw.1 hs.1).2.2 a h y (Qjh.2 rfl);omega
     ·obtain rfl:=Qjh.1 h;omega
    |tail _ hb=>exact hs.2.2 a ha b hb
theorem QaP {K:LL->oP R} {k0:Int->Bool->LL->oP R} (hk:∀ a b w,k0 a b w=K w):∀ (aj P:List Sp2) (m:Nat),aj.length<m->(P++aj).length<=100->Asc P ->
  ∃ L:List Sp2,Q6 400 0 (((P++aj).length:Nat):Int) k0 m ((P.length:Nat):Int) ((P++aj).map Y7)=K (L.map Y7)/\Asc L/\L.Perm (P++aj)
 |[],P,m+1,_,_,hs=>by
  refine ⟨P,?_,hs,by simp⟩;rw [Q6,Qjz,Qi,Qj3,hk]
 |x::aj,P,m+1,hm,hl,hs=>by
  rw [Q6,Qc (by simp),cond_true,Qq (by simp at hl;omega)];obtain ⟨L,d,h2,c⟩:=QaQ (n:=400) (K:=fun w=>Q6 400 0 (((P++x::aj).length:Nat):Int) k0 m ((P.length+1:Nat):Int) w) (k0:=fun _ _ w=>Q6 400 0 (((P++x::aj).length:Nat):Int) k0 m ((P.length+1:Nat):Int) w) (fun _ _ _=>rfl) P.length 400 P x [] aj rfl (by simp at hl;omega) (by simp at hl ⊢;omega) (by simpa using hs) (fun b hb=>nomatch hb);rw [show (P++x::aj)=P++[x]++aj by simp] at *
  rw [d];have hL:L.length=P.length+1:=by rw [c.length_eq];simp
  obtain ⟨L',g1,e,f⟩:=QaP hk aj L m (by simpa using hm) (by simp [hL] at hl ⊢;omega) h2;rw [show (((P++[x]++aj).length:Nat):Int)=(((L++aj).length:Nat):Int) by simp [hL];omega,show ((P.length+1:Nat):Int)=((L.length:Nat):Int) by rw [hL]];exact ⟨L',g1,e,f.trans (c.append_right _)⟩
theorem QhB:((List.range 13).all fun k=>(G4 400 (IntKind.wrap .u64 ((k:Nat):Int)) (some:Int->Option Int)).isSome)=true:=by kernel_rfl
theorem Qgw {l:List Sp2} (hl:l.length<=12):∃ L:List Sp2,Qt 400 (l.map Y7) (some:LL->Option LL)=some (L.map Y7)/\Asc L/\L.Perm l:=by
 obtain ⟨b,hb⟩:=Option.isSome_iff_exists.1 (List.all_eq_true.1 QhB l.length (List.mem_range.2 (by omega)));unfold Qt;rw [Qj6,hb,Q0];unfold XK Xz;rw [Q7 (x:=((l.length:Nat):Int)-0) (by omega) (by omega),QX (Qj7 (by omega))];unfold Xj;have ak:∀ L:List Sp2,L.length=l.length->(gb true (gb true (some (L.map Y7)) [] fun a=>gb true (He a (List.length (l.map Y7))) () fun f=>some a) [] fun c=>gb true (He c l.length) () fun u3=>(some c:Option LL))=some (L.map Y7):=fun L h=>by
  grind [Q0,NO]
 rw [show wJ ((0:Int)+1)=((1:Nat):Int) from rfl];cases l with
 |nil=>
  refine ⟨[],?_,List.Pairwise.nil,List.Perm.refl _⟩;rfl
 |cons x aj=>
  obtain ⟨L,e,h2,d⟩:=QaP (K:=(some:LL->Option LL)) (k0:=fun _ _ w=>some w) (fun _ _ _=>rfl) aj [x] 400 (by grind) (by simp at hl ⊢;omega) (List.pairwise_singleton ..);refine ⟨L,?_,h2,d⟩;rw [show (x::aj)=[x]++aj from rfl,show ((1:Nat):Int)=(([x].length:Nat):Int) from rfl,e];exact ak L d.length_eq
def mgS:Int->Int->List Sp2->List Sp2
 |a,b,[]=>[(a,b)]
 |a,b,(c,d)::r=>if c<=b then mgS a (if b<d then d else b) r else (a,b)::mgS c d r
theorem Q4H:∀ {a b:Int} {r:List Sp2},(mgS a b r).length<=r.length+1
 |_,_,[]=>Qjf _
 |a,b,(c,d)::r=>by
  rw [mgS];split
  ·have:=Q4H (a:=a) (b:=if b<d then d else b) (r:=r);simp only [Qjn];omega
  ·have:=Q4H (a:=c) (b:=d) (r:=r);simp only [Qjn];omega
theorem Q8s {t:Int}:∀ {l a b:Int} {r:List Sp2},l<a->a<b->b<=t->Asc ((a,b)::r)->(∀ q∈r,q.1<q.2/\q.2<=t)->VS t l (mgS a b r)
 |l,a,b,[],e,h2,f,_,_=>⟨e,h2,f,trivial⟩
 |l,a,b,(c,d)::r,e,h2,f,h,g=>by
  have hs:=Qjk.1 h;have hc:a<=c:=hs.1 (c,d) (.head _);have hd:=g (c,d) (.head _);rw [mgS];split
  ·refine Q8s e (by split <;> omega) (by split <;> simp_all) (Qjk.2 ⟨fun q hq=>hs.1 q (.tail _ hq),(Qjk.1 hs.2).2⟩) (fun q hq=>g q (.tail _ hq))
  ·exact ⟨e,h2,f,Q8s (by omega) hd.1 hd.2 hs.2 (fun q hq=>g q (.tail _ hq))⟩
theorem Q8i {y:Int}:∀ {a b:Int} {r:List Sp2},Asc ((a,b)::r)->a<b->(∀ q∈r,q.1<q.2)->(InS y (mgS a b r)↔(a<=y/\y<b)\/InS y r)
 |a,b,[],_,_,_=>by rw [mgS,T1]
 |a,b,(c,d)::r,f,h2,e=>by
  have hs:=Qjk.1 f;have hc:a<=c:=hs.1 (c,d) (.head _);have hd:=e (c,d) (.head _);rw [mgS,T1];split
  ·rw [Q8i (a:=a) (b:=if b<d then d else b) (Qjk.2 ⟨fun q hq=>hs.1 q (.tail _ hq),(Qjk.1 hs.2).2⟩) (by split <;> omega) (fun q hq=>e q (.tail _ hq))];dsimp only at hc hd ⊢;rw [<- or_assoc];refine or_congr_left ?_;split <;> omega
  ·rw [T1,Q8i hs.2 hd (fun q hq=>e q (.tail _ hq))]
theorem Q1P {K:LL->oP R} {k0:Int->Bool->LL->oP R} (hk:∀ a b w,k0 a b w=K w) {l:List Sp2} (hl:l.length<=100):∀ (aj:List Sp2) (i m:Nat) (A:List Sp2) (a b:Int),l.drop i=aj->aj.length<m->A.length+aj.length<=100 ->
  X6 n ((l.length:Nat):Int) (l.map Y7) k0 m (i:Int) ((A++[(a,b)]).map Y7)=K ((A++mgS a b aj).map Y7)
 |[],i,m+1,A,a,b,hd,_,_=>by
  have:=ZP hd;rw [X6,show decide ((i:Int)<((l.length:Nat):Int))=false by simp_all,Qj3,hk,mgS]
 |(c,d)::aj,i,m+1,A,a,b,hd,hm,hA=>by
  obtain ⟨e,aq,hi⟩:=Yh hd;have au:A.length<=100:=by omega
  have f:(l.map Y7)[i]? = some (Y7 (c,d)):=by rw [Qjq,e];rfl
  have e1:(A++[(a,b)]).map Y7=A.map Y7++Y7 (a,b)::[]:=by simp
  have an:((A++[(a,b)]).map Y7).length=A.length+1:=by simp
  have g:((A++[(a,b)]).map Y7)[A.length]? = some (Y7 (a,b)):=by rw [e1];exact QeT (by simp)
  have ao:∀ v,((A++[(a,b)]).map Y7).set A.length (Y7 (a,v))=(A++[(a,v)]).map Y7:=fun v=>by rw [e1,Qf7 (by simp)];simp
  rw [X6,Qc hi,cond_true,an,Jq (show A.length+1<=1000 by omega) (by omega),Qjd,Qj6,Y0 (by omega) (by omega),Y0 (by omega) (by omega),show decide ((A.length:Int)>=0)=true from Qj7 (by omega)];simp -implicitDefEqProofs only [Q0,Int.toNat_natCast,f,g,Qq (show i<=1000 by omega)];simp -implicitDefEqProofs only [Qaf,Q9K,Qh6,Q0,Q3,cond_true];rw [mgS];by_cases ak:c<=b
  ·rw [show decide (c<=b)=true from Qj7 ak,cond_true,if_pos ak];rw [ao];exact Q1P hk hl aj (i+1) m A a _ aq (by simpa using hm) (by simp at hA;omega)
  ·rw [show decide (c<=b)=false from Qj5 ak,Qj3,Qja ak,XF (by simp;omega),Q0];have:=Q1P hk hl aj (i+1) m (A++[(a,b)]) c d aq (by simpa using hm) (by simp at hA ⊢;omega);rw [show A++(a,b)::mgS c d aj=A++[(a,b)]++mgS c d aj by simp,<- this,Qjg (l₂:=[(c,d)])];rfl
theorem t2a {x y:List D}:decide ((0:Int)<(([x,y].length:Nat):Int))=true:=rfl
theorem t2b {x y:List D}:decide ((1:Int)<(([x,y].length:Nat):Int))=true:=rfl
theorem t2c {x y:List D}:decide ((2:Int)<(([x,y].length:Nat):Int))=false:=rfl
theorem t2d:wJ ((0:Int)+1)=1:=rfl
theorem t2e:wJ ((1:Int)+1)=2:=rfl
theorem t2f {x y:List D}:Q1 [x,y] 0=some x:=rfl
theorem t2g {x y:List D}:Q1 [x,y] 1=some y:=rfl
theorem QcO {a b:List Sp2} (h:a.length+b.length<=100):QF 400 [[D.sl 2 (a.map Y7)],[D.sl 2 (b.map Y7)]] (some:LL->Option LL)=some ((a++b).map Y7):=by
 have hg:∀ k:Nat,k<=100->Qz 400 (k:Int) (some:LL->Option LL)=some []:=fun k hk=>by
  unfold Qz;rw [Q9 (Qj5 (by omega)),show wJ ((0:Int)-0)=0 from rfl,Q7 (x:=(k:Int)-0) (by omega) (by omega)];by_cases c:k=0
  ·subst c;rfl
  ·rw [QX (Qj7 (by omega)),show slB 0 none (some (0:Int))=some (0,0) from rfl,Q0,QX (Qj7 (by omega)),Q0,XF (by omega),Q0]
 unfold QF;rw [Qf];simp -implicitDefEqProofs only [t2a,t2b,t2c,t2d,t2e,t2f,t2g,cond_true,Qj3,Q0,Qj2,QG,Qj6,Q7 (x:=0+(a.length:Int)) (by omega) (by omega),Q7 (x:=0+(a.length:Int)+(b.length:Int)) (by omega) (by omega),show decide (0+(a.length:Int)<0)=false from Qj5 (by omega),show decide (0+(a.length:Int)+(b.length:Int)<0)=false from Qj5 (by omega),show 0+(a.length:Int)+(b.length:Int)=((a.length+b.length:Nat):Int) by omega,Q7 (x:=((a.length+b.length:Nat):Int)) (by omega) (by omega),show decide (((a.length+b.length:Nat):Int)<0)=false from Qj5 (by omega),hg _ h];rw [Qf];simp -implicitDefEqProofs only [t2a,t2b,t2c,t2d,t2e,t2f,t2g,cond_true,Qj3,Q0,Qj2,QG,Qj6,Q7 (x:=0+(a.length:Int)) (by omega) (by omega),Q7 (x:=0+(a.length:Int)+(b.length:Int)) (by omega) (by omega),show decide (0+(a.length:Int)<0)=false from Qj5 (by omega),show decide (0+(a.length:Int)+(b.length:Int)<0)=false from Qj5 (by omega),show 0+(a.length:Int)+(b.length:Int)=((a.length+b.length:Nat):Int) by omega,Q7 (x:=((a.length+b.length:Nat):Int)) (by omega) (by omega),show decide (((a.length+b.length:Nat):Int)<0)=false from Qj5 (by omega),hg _ h];rw [Qf];simp -implicitDefEqProofs only [t2a,t2b,t2c,t2d,t2e,t2f,t2g,cond_true,Qj3,Q0,Qj2,QG,Qj6,Q7 (x:=0+(a.length:Int)) (by omega) (by omega),Q7 (x:=0+(a.length:Int)+(b.length:Int)) (by omega) (by omega),show decide (0+(a.length:Int)<0)=false from Qj5 (by omega),show decide (0+(a.length:Int)+(b.length:Int)<0)=false from Qj5 (by omega),show 0+(a.length:Int)+(b.length:Int)=((a.length+b.length:Nat):Int) by omega,Q7 (x:=((a.length+b.length:Nat):Int)) (by omega) (by omega),show decide (((a.length+b.length:Nat):Int)<0)=false from Qj5 (by omega),hg _ h];rw [Qg];simp -implicitDefEqProofs only [t2a,t2b,t2c,t2d,t2e,t2f,t2g,cond_true,Qj3,Q0,Qj2,QG,Qj6,List.nil_append,Qjm,XF (show (0+a.length)*16<=100000 by omega),XF (show (a.length+b.length)*16<=100000 by omega),Qjg];rw [Qg];simp -implicitDefEqProofs only [t2a,t2b,t2c,t2d,t2e,t2f,t2g,cond_true,Qj3,Q0,Qj2,QG,Qj6,List.nil_append,Qjm,XF (show (0+a.length)*16<=100000 by omega),XF (show (a.length+b.length)*16<=100000 by omega),Qjg];rw [Qg];simp -implicitDefEqProofs only [t2a,t2b,t2c,t2d,t2e,t2f,t2g,cond_true,Qj3,Q0,Qj2,QG,Qj6,List.nil_append,Qjm,XF (show (0+a.length)*16<=100000 by omega),XF (show (a.length+b.length)*16<=100000 by omega),Qjg]
theorem Qds {l:List Sp2}:Fa [l.map Y7]=some ():=by
 unfold Fa;rw [show ([l.map Y7].all B5)=true by simp [B5,Y7,Q4G]];rfl
theorem Qdp {t:Int} {a b:List Sp2} (c:1<=t) (d:t<=7200) (ha:VS t (-1) a) (hb:VS t (-1) b) (hl:a.length<=300) (aj:b.length<=300):HJ 400 t [[D.sl 2 (a.map Y7)],[D.sl 2 (b.map Y7)]] (some:Int->Option Int)=some 0:=by
 unfold HJ;rw [Q1d c d,Q0,Q9 (by rfl)];rw [U1];simp -implicitDefEqProofs only [t2a,t2b,t2c,t2d,t2e,t2f,t2g,cond_true,Qj3,Q0,Qj2,QG,BO c d hl ha,BO c d aj hb,Qjc];rw [U1];simp -implicitDefEqProofs only [t2a,t2b,t2c,t2d,t2e,t2f,t2g,cond_true,Qj3,Q0,Qj2,QG,BO c d hl ha,BO c d aj hb,Qjc];rw [U1];simp -implicitDefEqProofs only [t2a,t2b,t2c,t2d,t2e,t2f,t2g,cond_true,Qj3,Q0,Qj2,QG,BO c d hl ha,BO c d aj hb,Qjc]
theorem QeB {t:Int} {a b:List Sp2} (e:1<=t) (f:t<=7200) (ha:VS t (-1) a) (hb:VS t (-1) b) (hl:a.length+b.length<=12):∃ c:List Sp2,HR 400 t (a.map Y7) (b.map Y7) Tu2=some (c.map Y7,(0:Int))/\VS t (-1) c/\c.length<=a.length+b.length/\∀ y,InS y c↔InS y a\/InS y b:=by
 obtain ⟨L,s1,s2,d⟩:=Qgw (l:=a++b) (by simp;omega);have hr:∀ q∈L,-1<q.1/\q.1<q.2/\q.2<=t:=fun q hq=>by
  rcases Qji.1 (d.mem_iff.1 hq) with h | h
  ·exact ha.rng q h
  ·exact hb.rng q h
 have aj:L.length=a.length+b.length:=by rw [d.length_eq];simp
 unfold HR;rw [Qdp e f ha hb (by omega) (by omega),Q0,Q9 (by rfl),QcO (by omega),Q0,Qds,Q0];unfold Ho;rw [s1,Q0,NO (by simp [aj]),Q0,Qj6];cases L with
 |nil=>
  refine ⟨[],?_,trivial,by simp,fun y=>?_⟩
  ·rw [Qj6,<- d.length_eq,X6,show decide ((0:Int)<((([]:List Sp2).length:Nat):Int))=false from rfl,Qj3];rfl
  ·rw [<- Q8P,<- Q5M d]
 |cons q L=>
  obtain ⟨x,z⟩:=q;have hq:=hr (x,z) (.head _);have ak:L.length+1<=12:=by simp at aj;omega
  have hm:=Q1P (n:=400) (K:=fun w=>(some (w,((x,z)::L).map Y7):Option (LL × LL))) (k0:=fun _ _ w=>some (w,((x,z)::L).map Y7)) (fun _ _ _=>rfl) (l:=(x,z)::L) (by simp;omega) L 1 399 [] x z rfl (by omega) (by simp;omega);have an:∀ k0:Int->Bool->LL->Option (LL × LL),X6 400 ((((x,z)::L).length:Nat):Int) (((x,z)::L).map Y7) k0 400 0 []=X6 400 ((((x,z)::L).length:Nat):Int) (((x,z)::L).map Y7) k0 399 ((1:Nat):Int) (([]++[(x,z)]).map Y7):=fun k0=>by
   rw [X6,show decide ((0:Int)<((((x,z)::L).length:Nat):Int))=true from Qj7 (by simp),cond_true,Y0 (by omega) (by simp),show (((x,z)::L).map Y7)[Int.toNat 0]? = some (Y7 (x,z)) from rfl,show decide (wJ (((([]:LL).length:Nat):Int)-1)>=0)=false from rfl];simp -implicitDefEqProofs only [Q0,Qaf,Q9K,gbF,Qj3,t2d];rw [XF (by simp),Q0];rfl
  refine ⟨mgS x z L,?_,Q8s hq.1 hq.2.1 hq.2.2 s2 (fun q h=>(hr q (.tail _ h)).2),?_,fun y=>?_⟩
  ·rw [an,hm,Q0,NO (by simp at aj ⊢;omega),Q0];rfl
  ·have:=Q4H (a:=x) (b:=z) (r:=L);simp at aj;omega
  ·rw [Q8i s2 hq.2.1 (fun q h=>(hr q (.tail _ h)).2.1),<- Q8P,<- Q5M d,T1]
end
end Go.Vx
namespace Go.Vx
def FB (t:Int) (A B:List Occ) (y:Int):Prop:=∃ x a b c d,(x,a,b)∈A/\(x,c,d)∈B/\(y-(a-d+1)) % t<b-a+d-c-1
theorem Qa5 {t:Int} {q:Occ} {A B:List Occ} {y:Int} (h:∀ p∈B,p.1≠q.1):FB t (q::A) B y↔FB t A B y:=by
 constructor
 ·rintro ⟨x,a,b,c,d,e,h2,f⟩;cases e with
  |head=>grind
  |tail _ e=>exact ⟨x,a,b,c,d,e,h2,f⟩
 ·rintro ⟨x,a,b,c,d,e,h2,f⟩;exact ⟨x,a,b,c,d,.tail _ e,h2,f⟩
theorem Qag {t:Int} {q:Occ} {A B:List Occ} {y:Int} (h:∀ p∈A,p.1≠q.1):FB t A (q::B) y↔FB t A B y:=by
 constructor
 ·rintro ⟨x,a,b,c,d,e,h2,f⟩;cases h2 with
  |head=>grind
  |tail _ h2=>exact ⟨x,a,b,c,d,e,h2,f⟩
 ·rintro ⟨x,a,b,c,d,e,h2,f⟩;exact ⟨x,a,b,c,d,e,.tail _ h2,f⟩
theorem QcM {t x a b c d:Int} {A B:List Occ} {y:Int} (hA:∀ p∈A,p.1≠x) (hB:∀ p∈B,p.1≠x):FB t ((x,a,b)::A) ((x,c,d)::B) y↔(y-(a-d+1)) % t<b-a+d-c-1\/FB t A B y:=by
 constructor
 ·rintro ⟨x',a',b',c',d',e,h2,f⟩;cases e with
  |head=>
   grind
  |tail _ e=>
   cases h2 with
   |head=>exact (hA (x,a',b') e rfl).elim
   |tail _ h2=>exact .inr ⟨x',a',b',c',d',e,h2,f⟩
 ·rintro (h | ⟨x',a',b',c',d',e,h2,f⟩)
  ·exact ⟨x,a,b,c,d,.head _,.head _,h⟩
  ·exact ⟨x',a',b',c',d',.tail _ e,.tail _ h2,f⟩
theorem QeU (y f t:Int):(y-f % t) % t=(y-f) % t:=by
 rw [Int.sub_emod,Int.emod_emod,<- Int.sub_emod]
section
variable {R:Type} {n:Nat} {t:Int}
theorem Np (q:Occ):(enc q)[0]? = some (Q4 q.1):=rfl
theorem MZ (q:Occ):(enc q)[1]? = some (Q4 q.2.1):=rfl
theorem Fj (q:Occ):(enc q)[2]? = some (Q4 q.2.2):=rfl
theorem Q2O {O:List Occ} (hl:O.length<=1000) {k0:oP R} {k1:Int->Int->Bool->oP R} {E:oP R} (hk:∀ a b c,k1 a b c=E):∀ (aj:List Occ) (i m:Nat) (last:Int),O.drop i=aj->aj.length<m->OL last aj->U5 n (O.map enc) ((O.length:Nat):Int) k0 k1 m last (i:Int)=E
 |[],i,m+1,last,hd,_,_=>by
  have:=ZP hd;rw [U5,show decide ((i:Int)<((O.length:Nat):Int))=false by simpa using this,Qj3,hk]
 |(x,a,b)::aj,i,m+1,last,hd,hm,⟨f,h2,g,h,j,d⟩=>by
  obtain ⟨e,ak,hi⟩:=Yh hd;rw [U5,Qc hi,cond_true,QL e];simp -implicitDefEqProofs only [Q0,Np,MZ,Fj,Q3,show decide (x<=last)=false from Qj5 (by omega),show decide (a>=b)=false from Qj5 (by omega),show decide (a < -65536)=false from Qj5 (by omega),show decide (b>65536)=false from Qj5 (by omega),Qj3,Qq (show i<=1000 by omega)];exact Q2O hl hk aj (i+1) m x ak (by simpa using hm) d
theorem Q3W {O:List Occ} (hl:O.length<=300) (h:OL (-1) O):Jc 400 (O.map enc) (some:Bool->Option Bool)=some true:=by
 unfold Jc;rw [Qj6];exact Q2O (by omega) (fun _ _ _=>rfl) O 0 400 (-1) rfl (by omega) h
theorem QgV {α:Type} (q:α) (l:List α):slB (q::l).length (some (1:Int)) none=some (1,l.length+1)/\cut (q::l) (1,l.length+1)=l:=by
 grind [slB,cut]
theorem Lm (e:1<=t) (j:t<=7200) {K:LL->oP R} {k0:LL->LL->Bool->LL->oP R} (hk:∀ a b c w,k0 a b c w=K w):∀ (m:Nat) (A B:List Occ) (acc:List Sp2) (lA lB:Int),A.length+B.length<m->OL lA A->OL lB B->VS t (-1) acc->acc.length+2*A.length<=12 ->
  ∃ aj:List Sp2,Qo 400 t k0 m (A.map enc) (B.map enc) (acc.map Y7)=K (aj.map Y7)/\VS t (-1) aj/\aj.length<=12/\∀ y,0<=y->y<t->(InS y aj↔InS y acc\/FB t A B y)
 |m+1,[],B,acc,lA,lB,_,_,_,hv,hl=>by
  refine ⟨acc,?_,hv,by omega,fun y _ _=>⟨.inl,?_⟩⟩
  ·rw [Qo,show decide (((([]:List Occ).map enc).length:Int)>0)=false from rfl,Qj3,Qj3,hk]
  ·rintro (h | ⟨x,a,b,c,d,h,_⟩)
   all_goals grind
 |m+1,q::A,[],acc,lA,lB,_,_,_,hv,hl=>by
  refine ⟨acc,?_,hv,by simp at hl;omega,fun y _ _=>⟨.inl,?_⟩⟩
  ·rw [Qo,show decide (((([]:List Occ).map enc).length:Int)>0)=false from rfl,show decide ((((q::A).map enc).length:Int)>0)=true from Qj7 (by simp),cond_true,Qj3,hk]
  ·rintro (h | ⟨x,a,b,c,d,_,h,_⟩)
   ·exact h
   ·nomatch h
 |m+1,(x,a,b)::A,(x',c,d)::B,acc,lA,lB,hm,hA,hB,hv,hl=>by
  obtain ⟨a1,a2,a3,a4,a5,v⟩:=id hA;obtain ⟨b1,b2,b3,b4,b5,z⟩:=id hB;have ay:A.length+B.length+2<m+1:=by simp at hm;omega
  have a9:acc.length+2*A.length+2<=12:=by simp at hl;omega
  have cA:=QgV (enc (x,a,b)) (A.map enc);have cB:=QgV (enc (x',c,d)) (B.map enc);have ao:∀ p∈A,x<p.1:=fun p hp=>(v.mem p hp).1
  have an:∀ p∈B,x'<p.1:=fun p hp=>(z.mem p hp).1
  rw [Qo];simp -implicitDefEqProofs only [List.map_cons,show decide ((((enc (x,a,b)::A.map enc).length:Nat):Int)>0)=true from Qj7 (by simp),show decide ((((enc (x',c,d)::B.map enc).length:Nat):Int)>0)=true from Qj7 (by simp),cond_true,show ∀ (r:List D) (l:LL),Q1 (r::l) 0=some r from fun _ _=>rfl,Q0,Np,MZ,Fj,Q3,cA,cB];rcases Int.lt_trichotomy x x' with hx | hx | hx
  ·rw [show (x == x')=false by simp;omega,show decide (x<=x')=true from Qj7 (by omega),show decide (x>=x')=false from Qj5 (by omega)];simp -implicitDefEqProofs only [cond_true,Qj3];obtain ⟨aj,g1,n,o,s⟩:=Lm e j hk m A ((x',c,d)::B) acc x lB (by simp;omega) v hB hv (by omega);refine ⟨aj,g1,n,o,fun y g i=>?_⟩;rw [s y g i,Qa5 (fun p hp=>?_)];cases hp with
   |head=>dsimp only;omega
   |tail _ hp=>have:=an p hp;dsimp only;omega
  ·subst hx;have f0:wJ (wJ (a-d)+1)=a-d+1:=by rw [Q7 (x:=a-d) (by omega) (by omega),Q7 (by omega) (by omega)]
   have f1:wJ (wJ (wJ (wJ (b-c)-1)-(a-d+1))+1)=b-a+d-c-1:=by
    rw [Q7 (x:=b-c) (by omega) (by omega),Q7 (x:=b-c-1) (by omega) (by omega),Q7 (x:=b-c-1-(a-d+1)) (by omega) (by omega),Q7 (by omega) (by omega)];omega
   have e0:=Qjl (a-d+1) (show t≠0 by omega);have e1:=Qjj (a-d+1) (show 0<t by omega);have ar:=Qfx (t:=t) (f:=a-d+1) (k:=b-a+d-c-1) e j (by omega) (by omega) (by omega) (by omega);have ba:=Q8e (t:=t) (x:=(a-d+1) % t) (k:=b-a+d-c-1);obtain ⟨u,u1,u2,u3,u4⟩:=QeB e j hv (Qa7 (k:=b-a+d-c-1) e e0 e1) (by omega);rw [show (x == x)=true by simp,show decide (x<=x)=true from Qj7 (by omega)];simp -implicitDefEqProofs only [cond_true];unfold Z2;rw [f0,f1,ar,Q0,u1,Q0,Qds,Q0];obtain ⟨aj,g1,n,o,s⟩:=Lm e j hk m A B u x x (by omega) v z u2 (by omega);refine ⟨aj,g1,n,o,fun y g i=>?_⟩;rw [s y g i,u4,Qaz e0 e1 g i,QeU,QcM (fun p hp=>by have:=ao p hp;omega) (fun p hp=>by have:=an p hp;omega),or_assoc]
  ·rw [show (x == x')=false by simp;omega,show decide (x<=x')=false from Qj5 (by omega),show decide (x>=x')=true from Qj7 (by omega)];simp -implicitDefEqProofs only [cond_true,Qj3];obtain ⟨aj,g1,n,o,s⟩:=Lm e j hk m ((x,a,b)::A) B acc lA x' (by simp;omega) hA z hv hl;refine ⟨aj,g1,n,o,fun y g i=>?_⟩;rw [s y g i,Qag (fun p hp=>?_)];cases hp with
   |head=>dsimp only;omega
   |tail _ hp=>have:=ao p hp;dsimp only;omega
theorem Qfz {A B:List Occ} (a:1<=t) (b:t<=7200) (hA:OL (-1) A) (hB:OL (-1) B) (lA:A.length<=6) (lB:B.length<=6):∃ F:List Sp2,Ja 400 t (A.map enc) (B.map enc) Tu2=some (F.map Y7,(0:Int))/\VS t (-1) F/\F.length<=12/\∀ y,0<=y->y<t->(InS y F↔FB t A B y):=by
 obtain ⟨F,g1,e,f,g⟩:=Lm a b (K:=fun w=>(some w:Option LL)) (k0:=fun _ _ _ w=>some w) (fun _ _ _ _=>rfl) 400 A B [] (-1) (-1) (by omega) hA hB trivial (by simp;omega);refine ⟨F,?_,e,f,fun y i j=>?_⟩
 ·unfold Ja;dsimp only [jn];rw [Q3W (by omega) hA,Q3W (by omega) hB,show decide (t<1)=false from Qj5 (by omega),show decide (t>7200)=false from Qj5 (by omega)];simp -implicitDefEqProofs only [Qj3,Q0,Qjc];unfold Kx;rw [show Qo 400 t (fun l m n k=>(some k:Option LL)) 400 (A.map enc) (B.map enc) []=_ from g1,Q0]
 ·rw [g y i j];exact ⟨fun h=>h.elim (fun h=>absurd h MY) id,.inr⟩
def Q2n (t:Int) (q:Sp2):Sp2:=(q.2,q.1+t-1)
theorem QaW (c:t<=7200) (d:1<=t) {K:LL->oP R} {k0:Int->Bool->LL->oP R} (hk:∀ a b w,k0 a b w=K w) {l:List Sp2} (hl:l.length<=1000):∀ (aj:List Sp2) (i m:Nat),l.drop i=aj->aj.length<m->(∀ q∈l,-1<q.1/\q.1<=t)->Zs n t (l.map Y7) ((l.length:Nat):Int) k0 m (i:Int) (((l.take i).map (Q2n t)).map Y7)=K ((l.map (Q2n t)).map Y7)
 |[],i,m+1,hd,_,_=>by
  have:=ZP hd;rw [Zs,show decide ((i:Int)<((l.length:Nat):Int))=false by simpa using this,Qj3,hk,List.take_of_length_le this]
 |(a,b)::aj,i,m+1,hd,hm,hr=>by
  obtain ⟨e,ak,hi⟩:=Yh hd;have ha:=hr (a,b) (Qjb e);rw [Zs,Qc hi,cond_true,QL e];simp -implicitDefEqProofs only [Q0,Qaf,Q9K,Q3,Qq (show i<=1000 by omega),Q7 (x:=a+t) (by omega) (by omega),Q7 (x:=a+t-1) (by omega) (by omega),XF (show ((((l.take i).map (Q2n t)).map Y7).length+[[D.int .i64 b,D.int .i64 (a+t-1)]].length)*16<=100000 by simp;omega)];have:=QaW c d hk hl aj (i+1) m ak (by simpa using hm) hr;rw [YC e,Qjg,Qjg] at this;exact this
theorem QaN (c:t<=7200) (d:1<=t) {K:LL->oP R} {k0:Int->Bool->LL->oP R} (hk:∀ a b w,k0 a b w=K w) {l:List Sp2} (hl:l.length<=1000):∀ (aj:List Sp2) (i m:Nat),l.drop i=aj->aj.length<m->(∀ q∈l,-1<q.1/\q.1<=t)->YD n t ((l.length:Nat):Int) (l.map Y7) k0 m (i:Int) (((l.take i).map (Q2n t)).map Y7)=K ((l.map (Q2n t)).map Y7)
 |[],i,m+1,hd,_,_=>by
  have:=ZP hd;rw [YD,show decide ((i:Int)<((l.length:Nat):Int))=false by simp_all,Qj3,hk,List.take_of_length_le this]
 |(a,b)::aj,i,m+1,hd,hm,hr=>by
  obtain ⟨e,ak,hi⟩:=Yh hd;have ha:=hr (a,b) (Qjb e);have f:(l.map Y7)[i]? = some (Y7 (a,b)):=by rw [Qjq,e];rfl
  rw [YD,Qc hi,cond_true,Qj6,Y0 (by omega) (by omega),Int.toNat_natCast,f];simp -implicitDefEqProofs only [Q0,Qaf,Q9K,Q3,Qq (show i<=1000 by omega),Q7 (x:=a+t) (by omega) (by omega),Q7 (x:=a+t-1) (by omega) (by omega),XF (show ((((l.take i).map (Q2n t)).map Y7).length+[[D.int .i64 b,D.int .i64 (a+t-1)]].length)*16<=100000 by simp;omega)];have:=QaN c d hk hl aj (i+1) m ak (by simpa using hm) hr;rw [YC e,Qjg,Qjg] at this;exact this
def WR (t:Int) (F G:List Sp2):Prop:=(G=F/\∀ b M c,F≠(0,b)::(M++[(c,t)]))\/∃ b M c,F=(0,b)::(M++[(c,t)])/\G=M++[(c,t+b)]
theorem Qak {A B:List Occ} (r:2<=t) (f:t<=7200) (hA:OL (-1) A) (hB:OL (-1) B) (lA:A.length<=6) (lB:B.length<=6):∃ F G:List Sp2,VS t (-1) F/\F.length<=12/\(∀ y,0<=y->y<t->(InS y F↔FB t A B y))/\WR t F G /\
  WD 400 t (A.map enc) (B.map enc) Tu2=some (if cnt F=t then ([],(13:Int)) else ((G.map (Q2n t)).map Y7,(0:Int))):=by
 obtain ⟨F,g1,j,k,m⟩:=Qfz (t:=t) (by omega) f hA hB lA lB;have hr:=j.rng;suffices h:∃ G,WR t F G/\WD 400 t (A.map enc) (B.map enc) Tu2=some (if cnt F=t then ([],(13:Int)) else ((G.map (Q2n t)).map Y7,(0:Int))) by
  obtain ⟨G,h⟩:=h;exact ⟨F,G,j,k,m,h⟩
 unfold WD;rw [g1,Q0,Q9 (by rfl)];dsimp only;rw [Qf1 (by omega) f (by omega) j,Q0];have aj:YD 400 t ((F.length:Nat):Int) (F.map Y7) (fun s u o=>(some (o,(0:Int)):Option (LL × Int))) 400 0 []=some ((F.map (Q2n t)).map Y7,(0:Int)):=QaN f (by omega) (K:=fun w=>some (w,(0:Int))) (k0:=fun _ _ w=>some (w,(0:Int))) (fun _ _ _=>rfl) (by omega) F 0 400 rfl (by omega) (fun q hq=>by have:=hr q hq;omega);by_cases ak:cnt F=t
 ·simp only [if_pos ak];rw [QX (by simpa using ak)];by_cases hw:∃ b M c,F=(0,b)::(M++[(c,t)])
  ·obtain ⟨b,M,c,e⟩:=hw;exact ⟨_,.inr ⟨b,M,c,e,rfl⟩,rfl⟩
  ·exact ⟨F,.inl ⟨rfl,fun b M c e=>hw ⟨b,M,c,e⟩⟩,rfl⟩
 simp only [Qja ak];rw [Q9 (by simpa using ak),Qj6];rcases F with _ | ⟨⟨a,b⟩,F⟩
 ·refine ⟨[],.inl ⟨rfl,fun b M c e=>(nomatch e)⟩,?_⟩;rw [show decide (((([]:List Sp2).length:Nat):Int)>1)=false from rfl];simp -implicitDefEqProofs only [gbF,Qj3];exact aj
 rcases List.eq_nil_or_concat F with rfl | ⟨M,⟨c,d⟩,rfl⟩
 ·refine ⟨[(a,b)],.inl ⟨rfl,fun b M c e=>by have:=congrArg List.length e;simp at this⟩,?_⟩;rw [show decide ((((([(a,b)]:List Sp2)).length:Nat):Int)>1)=false from rfl];simp -implicitDefEqProofs only [gbF,Qj3];exact aj
 have hM:M.length<=10:=by simp at k;omega
 have an:((a,b)::(M++[(c,d)])).length=M.length+1+1:=by simp
 have a2:=hr (c,d) (by simp);have ar:=hr (a,b) (by simp);have e1:((a,b)::(M++[(c,d)])).map Y7=(Y7 (a,b)::M.map Y7)++Y7 (c,d)::[]:=by simp
 have gl:(((a,b)::(M++[(c,d)])).map Y7)[M.length+1]? = some (Y7 (c,d)):=by rw [e1];exact QeT (by simp)
 have sl:∀ v,(((a,b)::(M++[(c,d)])).map Y7).set (M.length+1) (Y7 (c,v))=((a,b)::(M++[(c,v)])).map Y7:=fun v=>by rw [e1,Qf7 (by simp)];simp
 rw [List.concat_eq_append] at *
 rw [an,show decide (((M.length+1+1:Nat):Int)>1)=true from Qj7 (by omega),Jq (show M.length+1+1<=1000 by omega) (by omega),Qjd,Y0 (by omega) (by omega),Y0 (by omega) (by omega)];simp -implicitDefEqProofs only [Q0,Int.toNat_natCast,gl,cond_true,show (((a,b)::(M++[(c,d)])).map Y7)[Int.toNat 0]? = some (Y7 (a,b)) from rfl,Qaf,Q9K,Q3,Qh6];by_cases aq:a=0/\d=t
 ·obtain ⟨rfl,rfl⟩:=aq;refine ⟨M++[(c,d+b)],.inr ⟨b,M,c,rfl,rfl⟩,?_⟩;rw [show ((0:Int) == 0)=true from rfl,show (d == d)=true by simp,cond_true,cond_true,Q7 (x:=d+b) (by omega) (by omega),sl];have ao:=QgV (Y7 (0,b)) ((M++[(c,d+b)]).map Y7);rw [List.map_cons,ao.1,Q0,ao.2,Qj6];exact QaW (n:=400) f (by omega) (K:=fun w=>(some (w,(0:Int)):Option (LL × Int))) (k0:=fun _ _ w=>some (w,(0:Int))) (fun _ _ _=>rfl) (l:=M++[(c,d+b)]) (by simp;omega) (M++[(c,d+b)]) 0 400 rfl (by simp;omega) (fun q hq=>by
   rcases Qji.1 hq with h | h
   ·have:=hr q (.tail _ (Qjv _ h));omega
   ·obtain rfl:=Qjh.1 h;dsimp only at *
    omega)
 ·have hz:(bif (a == (0:Int)) then (d == t) else false)=false:=by
   by_cases ha:a=0
   ·rw [ha,show ((0:Int) == 0)=true from rfl,cond_true];simp only [beq_eq_false_iff_ne];exact fun h=>aq ⟨ha,h⟩
   ·rw [show (a == (0:Int))=false by simpa using ha,Qj3]
  refine ⟨_,.inl ⟨rfl,fun b' M' c' e=>aq ?_⟩,?_⟩
  ·have e2:=List.cons.inj e;have p:=List.append_inj_right' e2.2 rfl;have:=(Prod.mk.inj e2.1).1;have:=(Prod.mk.inj (List.cons.inj p).1).2;exact ⟨by omega,by omega⟩
  rw [hz,Qj3];rw [an] at aj;exact aj
end
end Go.Vx
namespace Go.Vx
theorem Tg {α β:Type} {r:Nat->Int->β} {l:List α} {p:α->Bool} {E0 E1:β} (a:∀ m i q,l[i]? = some q->i<l.length->r (m+1) (i:Int)=bif p q then r m ((i+1:Nat):Int) else E0) (b:∀ m,r (m+1) ((l.length:Nat):Int)=E1) {fuel:Nat} (hf:l.length<fuel):r fuel 0=bif l.all p then E1 else E0:=by
 have go:∀ (aj:List α) (i m:Nat),l.drop i=aj->aj.length<m->i<=l.length->r m (i:Int)=bif aj.all p then E1 else E0:=by
  intro aj;induction aj with
  |nil=>
   intro i m hd hm hi;obtain ⟨m,rfl⟩:∃ k,m=k+1:=⟨m-1,by omega⟩
   grind
  |cons q aj ih=>
   intro i m hd hm hi;obtain ⟨m,rfl⟩:∃ k,m=k+1:=⟨m-1,by omega⟩
   grind [Yh]
 exact go l 0 fuel rfl hf (Nat.zero_le _)
theorem LB {α β S:Type} {r:Nat->Int->S->β} {l:List α} {f:S->α->S} {E:S->β} (a:∀ m i q s,l[i]? = some q->i<l.length->r (m+1) (i:Int) s=r m ((i+1:Nat):Int) (f s q)) (b:∀ m s,r (m+1) ((l.length:Nat):Int) s=E s) {fuel:Nat} (hf:l.length<fuel) (s:S):r fuel 0 s=E (l.foldl f s):=by
 have go:∀ (aj:List α) (i m:Nat) (s:S),l.drop i=aj->aj.length<m->i<=l.length->r m (i:Int) s=E (aj.foldl f s):=by
  intro aj;induction aj with
  |nil=>
   intro i m s hd hm hi;obtain ⟨m,rfl⟩:∃ k,m=k+1:=⟨m-1,by omega⟩
   grind
  |cons q aj ih=>
   intro i m s hd hm hi;obtain ⟨m,rfl⟩:∃ k,m=k+1:=⟨m-1,by omega⟩;obtain ⟨e,an,ak⟩:=Yh hd;rw [a m i q s e ak,List.foldl_cons,ih (i+1) m _ an (by simp_all) ak]
 exact go l 0 fuel s rfl hf (Nat.zero_le _)
theorem F7 {α:Type} {p:α->Bool}:∀ {l:List α} {c:Bool},l.foldl (fun c q=>c||p q) c=(c||l.any p)
 |[],c=>(Bool.or_false c).symm
 |q::l,c=>by rw [List.foldl_cons,F7,List.any_cons,Bool.or_assoc]
def MA (t:Int) (q:Occ):Bool:=!decide (q.2.2-q.2.1>t)
theorem Qh0 {l:Int} {O:List Occ} (hO:OL l O) {q:Occ} (hq:q∈O):wJ (q.2.2-q.2.1)=q.2.2-q.2.1:=by
 have:=hO.mem q hq
 grind [Q7]
theorem Qeu {t:Int} {O:List Occ} (a:1<=t) (b:t<=7200) (hO:OL (-1) O) (hl:O.length<=300):HG 400 t (O.map enc) (some:Bool->Option Bool)=some (O.all (MA t)):=by
 unfold HG;rw [show decide (t<1)=false from Qj5 (by omega),show decide (t>7200)=false from Qj5 (by omega),Q3W hl hO];simp -implicitDefEqProofs only [Qj3,Q0,Qjc,Qje,Qj6];refine (Tg (r:=fun m i=>U9 400 t (O.map enc) ((O.length:Nat):Int) (some false) (fun _ _=>some true) m i) (l:=O) (p:=MA t) (E0:=some false) (E1:=some true) (fun m i q e hi=>?_) (fun m=>?_) (by omega)).trans (by cases O.all (MA t) <;> rfl)
 ·rw [U9,Qc hi,cond_true,QL e];simp -implicitDefEqProofs only [Q0,Np,MZ,Fj,Q3,Qq (show i<=1000 by omega),Qh0 hO (Qjb e)];unfold MA;cases decide (q.2.2-q.2.1>t) <;> rfl
 ·rw [U9,Qi,Qj3]
def tie (la:Int) (x y:Occ):Bool:=bif x.1 == y.1 then decide (la+y.2.1<=x.2.2) else false
def Q1U (per la mo:Int) (x y:Occ):Bool:=decide ((if x.2.2<mo+y.2.2 then mo+y.2.2 else x.2.2)-(if la+y.2.1<x.2.1 then la+y.2.1 else x.2.1)>per)
def Q8a (per la mo:Int) (A B:List Occ):Bool:=A.any fun x=>B.any fun y=>bif tie la x y then Q1U per la mo x y else false
def Q3z (la:Int) (A B:List Occ) (r:Int):Bool:=A.any fun x=>B.any fun y=>bif tie la x y then x.1 == r else false
namespace Cx
variable {R:Type} {n:Nat} {X:Cx}
theorem QfE {per la mo:Int} {O:List Occ} (hO:OL (-1) O) (hl:O.length<=300) {x:Occ} (hx : -1000<=x.2.1/\x.2.1<x.2.2/\x.2.2<=20000) (d:0<=la) (f:la<=20000) (h2:0<=mo) (g:mo<=20000) {k0:Int->Bool->Bool->oP R} {Kc:Bool->oP R} (hk:∀ a b c,k0 a b c=Kc c) (c:Bool) :
  QE n (O.map enc) ((O.length:Nat):Int) la (Q4 x.1) (Q4 x.2.1) (Q4 x.2.2) per la mo k0 400 0 c=Kc (c||O.any fun y=>bif tie la x y then Q1U per la mo x y else false):=by
 rw [<- F7];refine LB (r:=fun m i c=>QE n (O.map enc) ((O.length:Nat):Int) la (Q4 x.1) (Q4 x.2.1) (Q4 x.2.2) per la mo k0 m i c) (E:=Kc) (fun m i q c e hi=>?_) (fun m c=>?_) (by omega) c
 ·have:=hO.mem q (Qjb e);rw [QE,Qc hi,cond_true,QL e];simp -implicitDefEqProofs only [Q0,Np,MZ,Fj,Q3,Qq (show i<=1000 by omega),Q7 (x:=la+q.2.1) (by omega) (by omega)];unfold Y2;simp -implicitDefEqProofs only [Q0,Q7 (x:=la+q.2.1) (by omega) (by omega),Q7 (x:=mo+q.2.2) (by omega) (by omega)];rw [Q7 (x:=(if x.2.2<mo+q.2.2 then mo+q.2.2 else x.2.2)-(if la+q.2.1<x.2.1 then la+q.2.1 else x.2.1)) (by split <;> split <;> omega) (by split <;> split <;> omega)];show (bif tie la x q then QE n (O.map enc) ((O.length:Nat):Int) la (Q4 x.1) (Q4 x.2.1) (Q4 x.2.2) per la mo k0 m ((i+1:Nat):Int) (bif c then true else Q1U per la mo x q) else _)=_;cases tie la x q <;> cases c <;> rfl
 ·rw [QE,Qi,Qj3,hk]
theorem map1 {la:Int} {O:List Occ} (hO:OL (-1) O) (hl:O.length<=300) {x:Occ} (d:0<=la) (f:la<=20000) {k0:Int->Bool->(Int->Bool)->oP R} {Kc:(Int->Bool)->oP R} (hk:∀ a b c,k0 a b c=Kc c) (c:Int->Bool) :
  QU n (O.map enc) ((O.length:Nat):Int) la (Q4 x.1) (Q4 x.2.1) (Q4 x.2.2) k0 400 0 c=Kc (O.foldl (fun c y=>bif tie la x y then Q6q c x.1 true else c) c):=by
 refine LB (r:=fun m i c=>QU n (O.map enc) ((O.length:Nat):Int) la (Q4 x.1) (Q4 x.2.1) (Q4 x.2.2) k0 m i c) (E:=Kc) (fun m i q c e hi=>?_) (fun m c=>?_) (by omega) c
 ·have:=hO.mem q (Qjb e);rw [QU,Qc hi,cond_true,QL e];simp -implicitDefEqProofs only [Q0,Np,MZ,Fj,Q3,Qq (show i<=1000 by omega),Q7 (x:=la+q.2.1) (by omega) (by omega)];unfold Xq;simp -implicitDefEqProofs only [Q0];show (bif tie la x q then _ else _)=_;cases tie la x q <;> rfl
 ·rw [QU,Qi,Qj3,hk]
theorem QdW {q:Int->Bool} {x r:Int}:Q6q q x true r=(q r||(x == r)):=by
 grind [Q6q]
theorem Qe6 {la:Int} {x:Occ} {r:Int}:∀ {O:List Occ} {c:Int->Bool},O.foldl (fun c y=>bif tie la x y then Q6q c x.1 true else c) c r=(c r||O.any fun y=>bif tie la x y then x.1 == r else false)
 |[],c=>(Bool.or_false _).symm
 |y::O,c=>by
  rw [List.foldl_cons,Qe6,List.any_cons];cases tie la x y
  ·rfl
  ·rw [cond_true,cond_true,QdW,Bool.or_assoc]
def occN (X:Cx) (a:Nat):List Occ:=(X.occs X.L).getD a []
def N (X:Cx):Nat:=base X.nr X.L
variable (h:X.OK)
include h
theorem Ji {a:Nat} (ha:a<X.N):Q1 (GH (X.occs X.L)) (a:Int)=some [D.sl 3 ((X.occN a).map enc)]/\OL (-1) (X.occN a)/\(X.occN a).length<=6:=by
 obtain ⟨i,k,b,h2,rfl⟩:=Q5T ha;have e:X.occN (base X.nr i+k)=X.occ i k:=by
  unfold occN;rw [Qj8,show (X.occs X.L)[base X.nr i+k]? = some (X.occ i k) from Q0M h2 b];rfl
 rw [e];exact ⟨Qe9 b h2,Qe8 h b h2⟩
theorem Qcl:X.jns.length<=30:=by
 have:=QcL h (i:=X.L) (Qjf _);have:=h.tl
 grind [jns,List.length_append,List.length_map]
structure JOK (X:Cx) (J:List Tup):Prop where
 at':∀ t∈J,t.1<X.N/\t.2.1<X.N/\0<=t.2.2.1/\t.2.2.1<=20000/\0<=t.2.2.2/\t.2.2.2<=20000
 len:J.length<=30
theorem Qgo {J:List Tup} (hJ:X.JOK J) {per:Int} {t:Tup} (ht:t∈J) (K:Bool->oP R):ZQ 400 per (GH (X.occs X.L)) (t.1:Int) (t.2.1:Int) t.2.2.1 t.2.2.1 t.2.2.2 false K=K (Q8a per t.2.2.1 t.2.2.2 (X.occN t.1) (X.occN t.2.1)):=by
 have hj:=hJ.at' t ht;have oa:=Ji h hj.1;have ob:=Ji h hj.2.1;unfold ZQ Q8a;rw [oa.1];simp -implicitDefEqProofs only [Q0,Qj2,QG,Qj6];rw [<- Bool.false_or (List.any _ _),<- F7];refine LB (r:=fun m i c=>Xf 400 ((X.occN t.1).map enc) (((X.occN t.1).length:Nat):Int) (t.2.1:Int) t.2.2.1 per (GH (X.occs X.L)) t.2.2.1 t.2.2.2 (fun b d a=>K a) m i c) (E:=K) (fun m i q c e hi=>?_) (fun m c=>?_) (by omega) false
 ·have hq:=oa.2.1.mem q (Qjb e);rw [Xf,Qc hi,cond_true,QL e,ob.1];simp -implicitDefEqProofs only [Q0,Np,MZ,Fj,Qj2,QG,Qj6,Qq (show i<=1000 by omega)];exact QfE (per:=per) ob.2.1 (by omega) ⟨hq.2.1,hq.2.2.1,hq.2.2.2.1⟩ hj.2.2.1 hj.2.2.2.1 hj.2.2.2.2.1 hj.2.2.2.2.2 (Kc:=fun c=>Xf 400 ((X.occN t.1).map enc) (((X.occN t.1).length:Nat):Int) (t.2.1:Int) t.2.2.1 per (GH (X.occs X.L)) t.2.2.1 t.2.2.2 (fun b d a=>K a) m ((i+1:Nat):Int) c) (fun _ _ _=>rfl) c
 ·rw [Xf,Qi,Qj3]
theorem QhC {J:List Tup} (hJ:X.JOK J) {t:Tup} (ht:t∈J) (q:Int->Bool):∃ q',(∀ K:(Int->Bool)->oP R,ZR 400 (GH (X.occs X.L)) (t.1:Int) (t.2.1:Int) t.2.2.1 q K=K q')/\∀ r,q' r=(q r||Q3z t.2.2.1 (X.occN t.1) (X.occN t.2.1) r):=by
 have hj:=hJ.at' t ht;have oa:=Ji h hj.1;have ob:=Ji h hj.2.1;refine ⟨(X.occN t.1).foldl (fun q x=>(X.occN t.2.1).foldl (fun c y=>bif tie t.2.2.1 x y then Q6q c x.1 true else c) q) q,fun K=>?_,fun r=>?_⟩
 ·unfold ZR;rw [oa.1];simp -implicitDefEqProofs only [Q0,Qj2,QG,Qj6];refine LB (r:=fun m i c=>Xh 400 ((X.occN t.1).map enc) (((X.occN t.1).length:Nat):Int) (t.2.1:Int) t.2.2.1 (GH (X.occs X.L)) (fun b d a=>K a) m i c) (E:=K) (fun m i q c e hi=>?_) (fun m c=>?_) (by omega) q
  ·rw [Xh,Qc hi,cond_true,QL e,ob.1];simp -implicitDefEqProofs only [Q0,Np,MZ,Fj,Qj2,QG,Qj6,Qq (show i<=1000 by omega)];exact map1 ob.2.1 (by omega) hj.2.2.1 hj.2.2.2.1 (Kc:=fun c=>Xh 400 ((X.occN t.1).map enc) (((X.occN t.1).length:Nat):Int) (t.2.1:Int) t.2.2.1 (GH (X.occs X.L)) (fun b d a=>K a) m ((i+1:Nat):Int) c) (fun _ _ _=>rfl) c
  ·rw [Xh,Qi,Qj3]
 ·unfold Q3z;generalize X.occN t.1=A;induction A generalizing q with
  |nil=>exact (Bool.or_false _).symm
  |cons x A ih=>rw [List.foldl_cons,ih,Qe6,List.any_cons,Bool.or_assoc]
def jab (a b:Nat) (t:Tup):Bool:=bif (bif (t.1:Int) == (a:Int) then (t.2.1:Int) == (b:Int) else false) then true else bif (t.1:Int) == (b:Int) then (t.2.1:Int) == (a:Int) else false
def TRb (X:Cx) (J:List Tup) (a b:Nat) (r:Int):Bool:=J.any fun t=>bif jab a b t then Q3z t.2.2.1 (X.occN t.1) (X.occN t.2.1) r else false
theorem Qgs {J:List Tup} (hJ:X.JOK J) {a b:Nat}:∃ q,(XV 400 (GH (X.occs X.L)) (J.map tuR) (a:Int) (b:Int) some:Option (Int->Bool))=some q/\∀ r,q r=X.TRb J a b r:=by
 have hl:=hJ.len;unfold XV;rw [Qj6];have go:∀ (aj:List Tup) (i m:Nat) (q:Int->Bool),J.drop i=aj->aj.length<m->∃ q',(Qs 400 (a:Int) (b:Int) (J.map tuR) ((J.length:Nat):Int) (GH (X.occs X.L)) (fun n o j=>some j) m (i:Int) q:Option (Int->Bool))=some q'/\∀ r,q' r=(q r||X.TRb aj a b r):=by
  intro aj;induction aj with
  |nil=>
   intro i m q hd hm;obtain ⟨m,rfl⟩:∃ k,m=k+1:=⟨m-1,by simp at hm;omega⟩;have:=ZP hd;exact ⟨q,by rw [Qs,show decide ((i:Int)<((J.length:Nat):Int))=false by simpa using this,Qj3],fun r=>(Bool.or_false _).symm⟩
  |cons t aj ih=>
   intro i m q hd hm;obtain ⟨m,rfl⟩:∃ k,m=k+1:=⟨m-1,by simp at hm;omega⟩;obtain ⟨e,an,hi⟩:=Yh hd;obtain ⟨l,c,h2⟩:=QhC (R:=Int->Bool) h hJ (Qjb e) q;rw [Qs,Qc hi,cond_true,QL e];simp -implicitDefEqProofs only [Q0,tuR,Qj2,Qj4,Q3,Qq (show i<=1000 by omega),c];show ∃ q',(bif jab a b t then _ else _)=some q'/\_;cases ak:jab a b t with
   |false=>
    obtain ⟨d,f,g⟩:=ih (i+1) m q an (by simpa using hm);refine ⟨d,f,fun r=>?_⟩;rw [g,TRb,TRb,List.any_cons,ak,Qj3,Bool.false_or]
   |true=>
    obtain ⟨d,f,g⟩:=ih (i+1) m l an (by simpa using hm);refine ⟨d,f,fun r=>?_⟩;rw [g,h2,TRb,TRb,List.any_cons,ak,cond_true,Bool.or_assoc]
 obtain ⟨q,c,h2⟩:=go J 0 400 (fun _=>false) rfl (by omega);exact ⟨q,c,fun r=>by rw [h2,Bool.false_or]⟩
theorem Q95:∀ o∈X.occs X.L,OL (-1) o/\o.length<=6:=by
 intro o ho;obtain ⟨a,ha⟩:=List.getElem?_of_mem ho;have aj:=(List.getElem?_eq_some_iff.1 ha).1;rw [show (X.occs X.L).length=X.N from Zv] at aj;obtain ⟨b,h2⟩:=(Ji h aj).2
 simp_all [occN,Qj8]
def aloneJ (X:Cx) (per:Int) (J:List Tup):Bool:=bif (X.occs X.L).all (fun o=>o.all (MA per)) then J.all fun t=>!Q8a per t.2.2.1 t.2.2.2 (X.occN t.1) (X.occN t.2.1) else false
theorem Qdt {per:Int} (p0:1<=per) (p1:per<=300) {J:List Tup} (hJ:X.JOK J) (K:Bool->oP R):ZC 400 per (GH (X.occs X.L)) (J.map tuR) K=K (X.aloneJ per J):=by
 have hN:(X.occs X.L).length<=6:=by rw [show (X.occs X.L).length=base X.nr X.L from Zv];exact base_le h
 have hl:=hJ.len;have hO:=Q95 h;unfold ZC;rw [J4,Qj6];refine (Tg (r:=fun m i=>Xw 400 (GH (X.occs X.L)) (((X.occs X.L).length:Nat):Int) per (K false) (fun c d=>X7 400 (J.map tuR) ((J.length:Nat):Int) per (GH (X.occs X.L)) (K false) (fun a b=>K true) 400 0) m i) (l:=X.occs X.L) (p:=fun o=>o.all (MA per)) (E0:=K false) (E1:=bif J.all (fun t=>!Q8a per t.2.2.1 t.2.2.2 (X.occN t.1) (X.occN t.2.1)) then K true else K false) (fun m i o e hi=>?_) (fun m=>?_) (by omega)).trans ?_
 ·have ho:=hO o (Qjb e);have aj:Q1 (GH (X.occs X.L)) (i:Int)=some [D.sl 3 (o.map enc)]:=QL e;rw [Xw,Qc hi,cond_true,aj];simp -implicitDefEqProofs only [Q0,Qj2,QG,Qeu p0 (show per<=7200 by omega) ho.1 (show o.length<=300 by omega),Qq (show i<=1000 by omega)];cases o.all (MA per) <;> rfl
 ·rw [Xw,Qi,Qj3];refine Tg (r:=fun m i=>X7 400 (J.map tuR) ((J.length:Nat):Int) per (GH (X.occs X.L)) (K false) (fun a b=>K true) m i) (fun m i t e hi=>?_) (fun m=>?_) (by omega)
  ·rw [X7,Qc hi,cond_true,QL e];simp -implicitDefEqProofs only [Q0,tuR,Qj2,Qj4,Q3,Qq (show i<=1000 by omega),Qgo h hJ (Qjb e)];cases Q8a per t.2.2.1 t.2.2.2 (X.occN t.1) (X.occN t.2.1) <;> rfl
  ·rw [X7,Qi,Qj3]
 ·unfold aloneJ;cases (X.occs X.L).all (fun o=>o.all (MA per)) <;> cases J.all (fun t=>!Q8a per t.2.2.1 t.2.2.2 (X.occN t.1) (X.occN t.2.1)) <;> rfl
end Cx
end Go.Vx
namespace Go.Vx
namespace Cx
def aR (X:Cx) (i k:Nat):List D:=[Q4 1,Q4 ((2*(base X.nr i+k):Nat):Int),Q4 ((2*(base X.nr i+k)+1:Nat):Int),Q4 (X.run i k),Q4 (X.run i k+X.ex i k),Q4 (X.w i)]
def aD (X:Cx) (i k:Nat):List D:=[Q4 2,Q4 ((2*(base X.nr i+k)+1:Nat):Int),Q4 ((2*(base X.nr i+k+1):Nat):Int),Q4 (X.mn i k),Q4 (X.mx i k),Q4 (X.w i)]
def pl (X:Cx) (i:Nat):Nat->LL
 |0=>[]
 |k+1=>pl X i k++[X.aR i k]++(if k<X.nr i-1 then [X.aD i k] else [])
def pls (X:Cx):Nat->LL
 |0=>[]
 |i+1=>pls X i++X.pl i (X.nr i)
def chE (X:Cx) (row:List D):List D:=match row with
 |[.int _ f,.int _ fr,.int _ t,.int _ tr,mn,mx,w]=>[Q4 3,Q4 ((2*(base X.nr f.toNat+fr.toNat)+1:Nat):Int),Q4 ((2*(base X.nr t.toNat+tr.toNat):Nat):Int),mn,mx,w]
 |_=>[]
def tuE (X:Cx) (t:Tup):List D:=[Q4 4,Q4 ((2*(base X.nr t.1+(X.nr t.1-1))+1:Nat):Int),Q4 ((2*(base X.nr t.2.1+0):Nat):Int),Q4 t.2.2.1,Q4 t.2.2.2,Q4 1]
def syE (X:Cx) (row:List D):List D:=match row with
 |[_,_,_,_,o]=>[Q4 5,Q4 ((2*(base X.nr 0+0):Nat):Int),Q4 ((2*(base X.nr 1+0):Nat):Int),o,o,Q4 0]
 |_=>[]
def planned (X:Cx) (Ch Sy:LL):LL:=X.pls X.L++Ch.map X.chE++X.T.map X.tuE++Sy.map X.syE
variable {R:Type} {n:Nat} {X:Cx}
theorem Q6m {i:Nat}:∀ {k:Nat},(X.pl i k).length<=2*k
 |0=>Qjf _
 |k+1=>by
  have:=Q6m (i:=i) (k:=k);rw [pl,Qjr,Qjr];split <;> simp <;> omega
theorem BG:∀ {i:Nat},(X.pls i).length<=2*base X.nr i
 |0=>Qjf _
 |i+1=>by
  have:=BG (i:=i);have:=Q6m (X:=X) (i:=i) (k:=X.nr i);rw [pls,Qjr,base];omega
structure LsOK (X:Cx) (per:Int) (Ch Sy:LL):Prop where
 ch:∀ row∈Ch,∃ (f fr t tr:Nat) (mn mx w:Int),row=[Q4 f,Q4 fr,Q4 t,Q4 tr,Q4 mn,Q4 mx,Q4 w]/\f<X.Ls.length/\fr<X.nr f/\t<X.Ls.length/\tr<X.nr t/\(0<=mn/\mn<20/\mn<=mx/\mx<mn+per)/\0<=w/\w<3
 chl:Ch.length<=2
 sy:∀ row∈Sy,∃ o:Int,row=[Q4 0,Q4 0,Q4 1,Q4 0,Q4 o]/\0<=o/\o<per/\2<=X.Ls.length
 syl:Sy.length<=1
variable (h:X.OK) {per:Int} {Ch Sy De:LL} (hl:X.LsOK per Ch Sy)
theorem Qd5 {A:LL} (hA:A.length<=1000) {a1 a2 a b c d:Int} (K:LL->oP R):X9 n A a1 a2 a b c d K=K (A++[[Q4 a1,Q4 a2,Q4 a,Q4 b,Q4 c,Q4 d]]):=by
 grind [X9,XF,Q0]
include h
theorem QfO {i:Nat} (hi:i<X.Ls.length) {k0:Int->Bool->LL->oP R}:Qr 400 (i:Int) (GJ X.Ls i) ((X.nr i:Nat):Int) (Q4 (X.w i)) (D.sl 4 (GJ X.Ls i)) (X.fst X.L) (encI (X.runs X.L)) k0 400 0 (X.pls i)=k0 ((X.nr i:Nat):Int) false (X.pls i++X.pl i (X.nr i)):=by
 have hn:=(H8 h hi).2.1;have hb:=Ye h (i:=i) (by omega);have hp:=BG (X:=X) (i:=i);have hw:wJ (((List.length (GJ X.Ls i):Nat):Int)-1)=((X.nr i-1:Nat):Int):=Jq (k:=X.nr i) (by omega) (by omega);refine Qu (r:=fun m k=>Qr 400 (i:Int) (GJ X.Ls i) ((X.nr i:Nat):Int) (Q4 (X.w i)) (D.sl 4 (GJ X.Ls i)) (X.fst X.L) (encI (X.runs X.L)) k0 m k (X.pls i++X.pl i k.toNat)) (N:=X.nr i) (fun m k hk=>?_) (fun m=>?_) (X.nr i) 400 0 (by omega) (by omega) |> Eq.trans (by simp [pl])
 ·simp only [Int.toNat_natCast];have r:=rd h hi hk;have b:=r.ex0;have e1:=r.ex1;have hr:=SA h hi hk;have aj:Q1 (GJ X.Ls i) (k:Int)=some [Q4 (rF X.Ls i k 0),Q4 (X.ex i k),Q4 (X.mn i k),Q4 (X.mx i k)]:=by rw [Qe,r.row]
  have an:=Q6m (X:=X) (i:=i) (k:=k);have ak:=Q5p (X:=X) hi hk;rw [Qr,Qc hk,cond_true,aj];simp -implicitDefEqProofs only [Q0,Qj2,Qj4,Q3,QG,hw,Q02 (n:=400) h hi (show k<=10 by omega),ak,Qq (show k<=1000 by omega),Qbh (n:=400) (show base X.nr i+k<=1000 by omega),QfJ (n:=400) (show base X.nr i+k<=1000 by omega),Qq (show base X.nr i+k<=1000 by omega),Qbh (n:=400) (show base X.nr i+k+1<=1000 by omega),Q7 (x:=X.run i k+X.ex i k) (by omega) (by omega),Qd5 (n:=400) (A:=X.pls i++X.pl i k) (by simp;omega),Qd5 (n:=400) (A:=X.pls i++X.pl i k++[[Q4 1,Q4 ((2*(base X.nr i+k):Nat):Int),Q4 ((2*(base X.nr i+k)+1:Nat):Int),Q4 (X.run i k),Q4 (X.run i k+X.ex i k),Q4 (X.w i)]]) (by simp;omega)];by_cases a:k<X.nr i-1
  ·rw [Qc a,cond_true,pl,if_pos a,<- Qjp,<- Qjp];rfl
  ·rw [show decide ((k:Int)<((X.nr i-1:Nat):Int))=false from Qj5 (by omega),Qj3,pl,Qja a,Qjz,<- Qjp];rfl
 ·simp only [Int.toNat_natCast];rw [Qr,Qi,Qj3]
include hl
theorem Q9U (K:LL->oP R):Ym 400 X.Ls Ch (X.T.map tuR) Sy (X.fst X.L) (encI (X.runs X.L)) [] K=K (X.planned Ch Sy):=by
 have l1:=h.l1;have tl:=h.tl;have hp:=BG (X:=X) (i:=X.L);have hb:=base_le h;have chl:=hl.chl;have syl:=hl.syl;unfold Ym;have s2:∀ k0:Int->Bool->LL->oP R,QA 400 X.Ls ((X.Ls.length:Nat):Int) (X.fst X.L) (encI (X.runs X.L)) k0 400 0 []=k0 ((X.Ls.length:Nat):Int) false (X.pls X.L):=by
  intro k0;refine Qu (r:=fun m i=>QA 400 X.Ls ((X.Ls.length:Nat):Int) (X.fst X.L) (encI (X.runs X.L)) k0 m i (X.pls i.toNat)) (N:=X.Ls.length) (fun m i hi=>?_) (fun m=>?_) X.Ls.length 400 0 (by omega) (by omega)
  ·simp only [Int.toNat_natCast];rw [QA,Qc hi,cond_true,Qe,(H8 h hi).1];simp -implicitDefEqProofs only [Q0,Qj2,Qj4,QG,Qq (show i<=1000 by omega)];exact QfO h hi
  ·simp only [Int.toNat_natCast];rw [QA,Qi,Qj3];rfl
 have k:∀ k0:Int->Bool->LL->oP R,QC 400 Ch ((Ch.length:Nat):Int) (X.fst X.L) k0 400 0 (X.pls X.L)=k0 ((Ch.length:Nat):Int) false (X.pls X.L++Ch.map X.chE):=by
  intro k0;refine Qu (r:=fun m j=>QC 400 Ch ((Ch.length:Nat):Int) (X.fst X.L) k0 m j (X.pls X.L++(Ch.take j.toNat).map X.chE)) (N:=Ch.length) (fun m j hj=>?_) (fun m=>?_) Ch.length 400 0 (by omega) (by omega) |> Eq.trans (by simp)
  ·simp only [Int.toNat_natCast];obtain ⟨row,e⟩:∃ q,Ch[j]? = some q:=⟨Ch[j],Qj9 hj⟩;obtain ⟨f,fr,t,tr,mn,mx,w,rfl,g1,l,c,v,x,y⟩:=hl.ch row (Qjb e);have nf:=(H8 h g1).2.1;have nt:=(H8 h c).2.1;have bf:=Ye h (i:=f) (by omega);have bt:=Ye h (i:=t) (by omega);rw [QC,Qc hj,cond_true,Qe,e,YC e,Qjg,<- Qjp];simp -implicitDefEqProofs only [Q0,Qj2,Qj4,Q3,Q02 (n:=400) h g1 (show fr<=10 by omega),Q02 (n:=400) h c (show tr<=10 by omega),Qq (show j<=1000 by omega),QfJ (n:=400) (show base X.nr f+fr<=1000 by omega),Qbh (n:=400) (show base X.nr t+tr<=1000 by omega),Qd5 (n:=400) (A:=X.pls X.L++(Ch.take j).map X.chE) (by simp;omega)];rfl
  ·simp only [Int.toNat_natCast];rw [QC,Qi,Qj3,Qjx]
 have p:∀ k0:Int->Bool->LL->oP R,QB 400 (X.T.map tuR) ((X.T.length:Nat):Int) (X.fst X.L) X.Ls k0 400 0 (X.pls X.L++Ch.map X.chE)=k0 ((X.T.length:Nat):Int) false (X.pls X.L++Ch.map X.chE++X.T.map X.tuE):=by
  intro k0;refine Qu (r:=fun m j=>QB 400 (X.T.map tuR) ((X.T.length:Nat):Int) (X.fst X.L) X.Ls k0 m j (X.pls X.L++Ch.map X.chE++(X.T.take j.toNat).map X.tuE)) (N:=X.T.length) (fun m j hj=>?_) (fun m=>?_) X.T.length 400 0 (by omega) (by omega) |> Eq.trans (by simp)
  ·simp only [Int.toNat_natCast];obtain ⟨⟨a,b,lo,hi⟩,e⟩:∃ q,X.T[j]? = some q:=⟨X.T[j],Qj9 hj⟩;have ht:=h.tr _ (Qjb e);have g1:a<X.Ls.length:=ht.1;have c:b<X.Ls.length:=ht.2.1;have nf:=(H8 h g1).2.1;have bf:=Ye h (i:=a) (by omega);have bt:=Ye h (i:=b) (by omega);have aj:Q1 (X.T.map tuR) (j:Int)=some [Q4 a,Q4 b,Q4 lo,Q4 hi]:=QL e;have s:X.pls X.L++Ch.map X.chE++(X.T.take (j+1)).map X.tuE=X.pls X.L++Ch.map X.chE++(X.T.take j).map X.tuE++[X.tuE (a,b,lo,hi)]:=by rw [YC e,Qjg,<- Qjp];rfl
   have d:=Q02 (R:=Int) (n:=400) h c (Nat.zero_le 10) some;rw [show ((0:Nat):Int)=0 from rfl] at d;rw [QB,Qc hj,cond_true,aj,s];simp -implicitDefEqProofs only [Q0,Qj2,Qj4,Q3,QdI (n:=400) h g1,d,Qq (show j<=1000 by omega),QfJ (n:=400) (show base X.nr a+(X.nr a-1)<=1000 by omega),Qbh (n:=400) (show base X.nr b+0<=1000 by omega),Qd5 (n:=400) (A:=X.pls X.L++Ch.map X.chE++(X.T.take j).map X.tuE) (by simp;omega)];rfl
  ·simp only [Int.toNat_natCast];rw [QB,Qi,Qj3,Qjx]
 have u:∀ k0:Int->Bool->LL->oP R,QD 400 Sy ((Sy.length:Nat):Int) (X.fst X.L) k0 400 0 (X.pls X.L++Ch.map X.chE++X.T.map X.tuE)=k0 ((Sy.length:Nat):Int) false (X.planned Ch Sy):=by
  intro k0;refine Qu (r:=fun m j=>QD 400 Sy ((Sy.length:Nat):Int) (X.fst X.L) k0 m j (X.pls X.L++Ch.map X.chE++X.T.map X.tuE++(Sy.take j.toNat).map X.syE)) (N:=Sy.length) (fun m j hj=>?_) (fun m=>?_) Sy.length 400 0 (by omega) (by omega) |> Eq.trans (by simp)
  ·simp only [Int.toNat_natCast];obtain ⟨row,e⟩:∃ q,Sy[j]? = some q:=⟨Sy[j],Qj9 hj⟩;obtain ⟨o,rfl,g1,l,c⟩:=hl.sy row (Qjb e);have bt:=Ye h (i:=1) (by omega);have d:=Q02 (R:=Int) (n:=400) h (show 0<X.Ls.length by omega) (Nat.zero_le 10) some;have g:=Q02 (R:=Int) (n:=400) h (show 1<X.Ls.length by omega) (Nat.zero_le 10) some;simp only [show ((0:Nat):Int)=0 from rfl,show ((1:Nat):Int)=1 from rfl] at d g;rw [QD,Qc hj,cond_true,Qe,e,YC e,Qjg,<- Qjp];simp -implicitDefEqProofs only [Q0,Qj2,Qj4,Q3,d,g,Qq (show j<=1000 by omega),Qbh (n:=400) (show base X.nr 0+0<=1000 by simp [base]),Qbh (n:=400) (show base X.nr 1+0<=1000 by omega),Qd5 (n:=400) (A:=X.pls X.L++Ch.map X.chE++X.T.map X.tuE++(Sy.take j).map X.syE) (by simp;omega)];rfl
  ·simp only [Int.toNat_natCast];rw [QD,Qi,Qj3,Qjx];rfl
 rw [s2,k,Qj6,p,u]
end Cx
end Go.Vx
namespace Go.Vx
variable {R:Type}
def YU (n:Nat) (d:LL) (k0:oP R) (k1:Int->Bool->oP R):Nat->Int->oP R
 | 0,_=>none
 | m+1,h2=>bif (decide (h2<(d.length:Int))) then gb true (Q1 d h2) [] fun g=>gb true (g[0]?) oF fun h=>gb true (pIw h) 0 fun a=>gb ((!(decide (a<0)))&&(decide (h2>0))) (Q1 d h2) [] fun i=>gb ((!(decide (a<0)))&&(decide (h2>0))) (i[0]?) oF fun j=>gb ((!(decide (a<0)))&&(decide (h2>0))) (pIw j) 0 fun b=>gb ((!(decide (a<0)))&&(decide (h2>0))) (Q1 d (wJ (h2-1))) [] fun k=>gb ((!(decide (a<0)))&&(decide (h2>0))) (k[0]?) oF fun l=>gb ((!(decide (a<0)))&&(decide (h2>0))) (pIw l) 0 fun c=>gb (!(bif decide (a<0) then true else (bif decide (h2>0) then (decide (b<=c)) else false))) (Q1 d h2) [] fun o=>gb (!(bif decide (a<0) then true else (bif decide (h2>0) then (decide (b<=c)) else false))) (o[1]?) oF fun p=>gb (!(bif decide (a<0) then true else (bif decide (h2>0) then (decide (b<=c)) else false))) (pIw p) 0 fun e=>gb (!(bif (bif decide (a<0) then true else (bif decide (h2>0) then (decide (b<=c)) else false)) then true else (decide (e<(-65536:Int))))) (Q1 d h2) [] fun q=>gb (!(bif (bif decide (a<0) then true else (bif decide (h2>0) then (decide (b<=c)) else false)) then true else (decide (e<(-65536:Int))))) (q[2]?) oF fun r=>gb (!(bif (bif decide (a<0) then true else (bif decide (h2>0) then (decide (b<=c)) else false)) then true else (decide (e<(-65536:Int))))) (pIw r) 0 fun f=>gb (!(bif (bif (bif decide (a<0) then true else (bif decide (h2>0) then (decide (b<=c)) else false)) then true else (decide (e<(-65536:Int)))) then true else (decide (f>65536)))) (Q1 d h2) [] fun s=>gb (!(bif (bif (bif decide (a<0) then true else (bif decide (h2>0) then (decide (b<=c)) else false)) then true else (decide (e<(-65536:Int)))) then true else (decide (f>65536)))) (s[1]?) oF fun t=>gb (!(bif (bif (bif decide (a<0) then true else (bif decide (h2>0) then (decide (b<=c)) else false)) then true else (decide (e<(-65536:Int)))) then true else (decide (f>65536)))) (pIw t) 0 fun u=>gb (!(bif (bif (bif decide (a<0) then true else (bif decide (h2>0) then (decide (b<=c)) else false)) then true else (decide (e<(-65536:Int)))) then true else (decide (f>65536)))) (Q1 d h2) [] fun v=>gb (!(bif (bif (bif decide (a<0) then true else (bif decide (h2>0) then (decide (b<=c)) else false)) then true else (decide (e<(-65536:Int)))) then true else (decide (f>65536)))) (v[2]?) oF fun x=>gb (!(bif (bif (bif decide (a<0) then true else (bif decide (h2>0) then (decide (b<=c)) else false)) then true else (decide (e<(-65536:Int)))) then true else (decide (f>65536)))) (pIw x) 0 fun y=>bif (bif (bif (bif (bif decide (a<0) then true else (bif decide (h2>0) then (decide (b<=c)) else false)) then true else (decide (e<(-65536:Int)))) then true else (decide (f>65536))) then true else (decide (u>=y))) then k0 else YU n d k0 k1 m (wJ (h2+1)) else k1 h2 (decide (h2<(d.length:Int)))
def JA (n:Nat) (a0:LL) (K:Bool->oP R):oP R:= YU n a0 (K false) (fun a b=>K true) n 0
end Go.Vx
namespace Go.Vx
variable {R:Type}
def Uk (n:Nat) (b:LL) (h2:Int) (k0:D->D->D->oP R) (k1:Int->Bool->oP R):Nat->Int->oP R
 | 0,_=>none
 | m+1,a=>bif (decide (a<(b.length:Int))) then gb true (Q1 b a) [] fun d=>gb true (d[0]?) oF fun e=>gb true (pIw e) 0 fun f=>bif (f == h2) then gb true (Q1 b a) [] fun c=>gb true (c[0]?) oF fun g=>gb true (c[1]?) oF fun h=>gb true (c[2]?) oF fun i=>k0 g h i else Uk n b h2 k0 k1 m (wJ (a+1)) else k1 a (decide (a<(b.length:Int)))
def Bl (n:Nat) (a0:LL) (a1:Int) (K:D->D->D->Bool->oP R):oP R:= Uk n a0 a1 (fun a b c=>K a b c true) (fun d e=>K (Q4 0) (Q4 0) (Q4 0) false) n 0
end Go.Vx
namespace Go.Vx
variable {R:Type}
def Z4 (n:Nat) (b:Int) (f:LL) (g d:Int) (h:D) (k0:Int->Bool->LL->oP R):Nat->Int->LL->oP R
 | 0,_,_=>none
 | m+1,a,c=>bif (bif decide (a<d) then (decide (a<b)) else false) then gb true (Q1 f g) [] fun i=>gb true (i[1]?) oF fun j=>gb true (pIw j) 0 fun k=>gb true (pIw h) 0 fun l=>gb true (Fk n (wJ ((wJ ((wJ (k-l))+1))+a)) b some) 0 fun e=>gb true (inB (c.length) e) () fun p=>gb true (c[e.toNat]?) [] fun o=>Z4 n b f g d h k0 m (wJ (a+1)) (List.set c e.toNat (List.set o 0 (D.bool true))) else k0 a (bif decide (a<d) then (decide (a<b)) else false) c
def Y1 (n:Nat) (d:Int) (b e:LL) (k0:Int->Bool->LL->oP R):Nat->Int->LL->oP R
 | 0,_,_=>none
 | m+1,a,f=>bif (decide (a<(b.length:Int))) then gb true (Q1 b a) [] fun g=>gb true (g[0]?) oF fun h=>gb true (pIw h) 0 fun i=>gb true (Bl n e i Tu4) ((.bool false),(.bool false),(.bool false),false) fun c=>bif (!c.2.2.2) then Y1 n d b e k0 m (wJ (a+1)) f else gb true (Q1 b a) [] fun p=>gb true (p[2]?) oF fun q=>gb true (pIw q) 0 fun r=>gb true (Q1 b a) [] fun s=>gb true (s[1]?) oF fun t=>gb true (pIw t) 0 fun u=>gb true (pIw c.2.2.1) 0 fun v=>gb true (pIw c.2.1) 0 fun x=>Z4 n d b a (wJ ((wJ ((wJ ((wJ (r-u))+v))-x))-1)) c.2.2.1 (fun z aa y=>Y1 n d b e k0 m (wJ (a+1)) y) n 0 f else k0 a (decide (a<(b.length:Int))) f
def KG (n:Nat) (a0:Int) (a1 a2:LL) (K:LL->Int->oP R):oP R:= gb true (Vy n a0 1 7200 some) false fun b=>bif !b then K [] 4 else gb true (JA n a1 some) false fun a=>gb (!(!a)) (JA n a2 some) false fun c=>bif (bif !a then true else (!c)) then K [] 1 else gb true (bif decide (0<=a0)&&decide (a0<=a0) then some () else none) () fun e=>gb true (Yf (Int.toNat a0*1)) () fun f=>Y1 n a0 a1 a2 (fun g h d=>K d 0) n 0 (List.replicate a0.toNat [D.bool false])
end Go.Vx
namespace Go.Vx
variable {R:Type}
def Wv (n:Nat) (h2:Int) (b:LL) (k0:Int->Int->Bool->oP R):Nat->Int->Int->oP R
 | 0,_,_=>none
 | m+1,c,a=>bif decide (a<h2) then gb true (Q1 b a) [] fun d=>gb true (d[0]?) oF fun e=>gb true (Kl e) false fun f=>bif f then Wv n h2 b k0 m (wJ (c+1)) (wJ (a+1)) else Wv n h2 b k0 m c (wJ (a+1)) else k0 c a (decide (a<h2))
def WF (n:Nat) (a:Int) (c:LL) (d:Int) (k0:Int->Bool->oP R):Nat->Int->oP R
 | 0,_=>none
 | m+1,b=>gb true (nz a) () fun h=>gb true (Q1 c (Int.tmod (wJ (d+b)) a)) [] fun f=>gb true (f[0]?) oF fun g=>gb true (Kl g) false fun e=>bif e then WF n a c d k0 m (wJ (b+1)) else k0 b e
def Yg (n:Nat) (b:Int) (c:LL) (k0:Int->Bool->LL->oP R):Nat->Int->LL->oP R
 | 0,_,_=>none
 | m+1,a,e=>bif decide (a<b) then gb true (Q1 c a) [] fun g=>gb true (g[0]?) oF fun h=>gb true (Kl h) false fun d=>gb (!(!d)) (Fk n (wJ (a-1)) b some) 0 fun i=>gb (!(!d)) (Q1 c i) [] fun j=>gb (!(!d)) (j[0]?) oF fun k=>gb (!(!d)) (Kl k) false fun l=>bif (bif !d then true else l) then Yg n b c k0 m (wJ (a+1)) e else WF n b c a (fun f o=>gb true (Yf ((e.length+[[Q4 (wJ (a+f)),Q4 (wJ ((wJ (a+b))-1))]].length)*16)) () fun p=>Yg n b c k0 m (wJ (a+1)) (e++[[Q4 (wJ (a+f)),Q4 (wJ ((wJ (a+b))-1))]])) n 0 else k0 a (decide (a<b)) e
def KQ (n:Nat) (a0:Int) (a1 a2:LL) (K:LL->Int->oP R):oP R:= gb true (KG n a0 a1 a2 Tu2) ([],0) fun a=>bif (a.2 != 0) then K [] a.2 else Wv n a0 a.1 (fun c e f=>bif (c == a0) then K [] 13 else Yg n a0 a.1 (fun g h d=>K d 0) n 0 []) n 0 0
end Go.Vx
namespace Go.Vx
theorem OL.uniq:∀ {l:Int} {O:List Occ},OL l O->∀ {p q:Occ},p∈O->q∈O->p.1=q.1->p=q
 |_,[],_,_,_,h,_,_=>nomatch h
 |l,(x,a,b)::r,⟨d,h2,f,g,i,c⟩,p,q,hp,hq,e=>by
  cases hp with
  |head=>
   cases hq with
   |head=>rfl
   |tail _ hq=>have:=(c.mem q hq).1;dsimp only at e;omega
  |tail _ hp=>
   cases hq with
   |head=>have:=(c.mem p hp).1;dsimp only at e;omega
   |tail _ hq=>exact c.uniq hp hq e
theorem Qbm {t:Int} {A A' B:List Occ} {y:Int}:FB t (A++A') B y↔FB t A B y\/FB t A' B y:=by
 constructor
 ·rintro ⟨x,a,b,c,d,e,h2,f⟩;rcases Qji.1 e with e | e
  ·exact .inl ⟨x,a,b,c,d,e,h2,f⟩
  ·exact .inr ⟨x,a,b,c,d,e,h2,f⟩
 ·rintro (⟨x,a,b,c,d,e,h2,f⟩ | ⟨x,a,b,c,d,e,h2,f⟩)
  ·exact ⟨x,a,b,c,d,Qjv _ e,h2,f⟩
  ·exact ⟨x,a,b,c,d,Qju _ e,h2,f⟩
def FL (f:Nat->Bool) (n:Nat):LL:=(List.range n).map fun i=>[D.bool (f i)]
theorem Q5Z {f:Nat->Bool} {n:Nat}:(FL f n).length=n:=by simp [FL]
theorem EJ {f:Nat->Bool} {n i:Nat} (h:i<n):(FL f n)[i]? = some [D.bool (f i)]:=by simp [FL,h]
theorem Qaa {f g:Nat->Bool} {n i:Nat} (h:∀ y,y<n->g y=if y=i then true else f y):(FL f n).set i [D.bool true]=FL g n:=by
 apply List.ext_getElem?;intro j
 grind [EJ,List.getElem?_eq_none,Q5Z]
section
variable {R:Type} {n:Nat} {t:Int}
theorem Q5j {O:List Occ} (hl:O.length<=1000) {k0:oP R} {k1:Int->Bool->oP R} {E:oP R} (hk:∀ b c,k1 b c=E):∀ (aj:List Occ) (i m:Nat) (last:Int),O.drop i=aj->aj.length<m -> -1<=last->OL last aj->(0<i->∃ a b,O[i-1]? = some (last,a,b))->YU n (O.map enc) k0 k1 m (i:Int)=E
 |[],i,m+1,last,hd,_,_,_,_=>by
  have:=ZP hd;rw [YU,Qj6,show decide ((i:Int)<((O.length:Nat):Int))=false by simpa using this,Qj3,hk]
 |(x,a,b)::aj,i,m+1,last,hd,hm,ao,⟨g,h2,h,j,k,d⟩,hp=>by
  obtain ⟨e,ak,hi⟩:=Yh hd;have ih:=Q5j (k0:=k0) hl hk aj (i+1) m x ak (by simpa using hm) (by omega) d (fun _=>⟨a,b,e⟩);rw [YU,Qj6,Qc hi,cond_true,QL e];simp -implicitDefEqProofs only [Q0,Np,MZ,Fj,Q3,show decide (x<0)=false from Qj5 (by omega),Qje,Bool.true_and,Qj3,Qq (show i<=1000 by omega)];have rest:∀ z:Bool,z=false->(bif bif bif bif z then true else decide (a<(-65536:Int)) then true else decide (b>(65536:Int)) then true else decide (a>=b) then k0 else YU n (O.map enc) k0 k1 m ((i+1:Nat):Int))=E:=fun z hz=>by
   rw [hz,show decide (a < -65536)=false from Qj5 (by omega),show decide (b>65536)=false from Qj5 (by omega),show decide (a>=b)=false from Qj5 (by omega)];exact ih
  by_cases f:i=0
  ·subst f;simp -implicitDefEqProofs only [show decide (((0:Nat):Int)>0)=false from rfl,gbF,Qj3];exact rest false rfl
  ·obtain ⟨a',b',e'⟩:=hp (by omega);rw [Jq (show i<=1000 by omega) (by omega),QL e'];simp -implicitDefEqProofs only [Q0,Np,Q3,show decide ((i:Int)>0)=true from Qj7 (by omega),cond_true];exact rest _ (Qj5 (by omega))
theorem Q8A {O:List Occ} (hl:O.length<=300) (h:OL (-1) O):JA 400 (O.map enc) (some:Bool->Option Bool)=some true:=by
 exact Q5j (by omega) (fun _ _=>rfl) O 0 400 (-1) rfl (by omega) (by omega) h (fun h=>by omega)
theorem Q7Y {O:List Occ} (hl:O.length<=1000) {x:Int} {K:D->D->D->Bool->oP R} {k0:D->D->D->oP R} {k1:Int->Bool->oP R} (g:∀ a b c,k0 a b c=K a b c true) (h:∀ a b,k1 a b=K (Q4 0) (Q4 0) (Q4 0) false):∀ (aj:List Occ) (i m:Nat),O.drop i=aj->aj.length<m->(∃ c d,(x,c,d)∈aj/\Uk n (O.map enc) x k0 k1 m (i:Int)=K (Q4 x) (Q4 c) (Q4 d) true)\/((∀ p∈aj,p.1≠x)/\Uk n (O.map enc) x k0 k1 m (i:Int)=K (Q4 0) (Q4 0) (Q4 0) false)
 |[],i,m+1,hd,_=>by
  have:=ZP hd;refine .inr ⟨fun p hp=>(nomatch hp),?_⟩;rw [Uk,Qj6,show decide ((i:Int)<((O.length:Nat):Int))=false by simpa using this,Qj3,h]
 |(x',a,b)::aj,i,m+1,hd,hm=>by
  obtain ⟨e,ak,hi⟩:=Yh hd;rw [Uk,Qj6,Qc hi,cond_true,QL e];simp -implicitDefEqProofs only [Q0,Np,MZ,Fj,Q3,Qq (show i<=1000 by omega),g];by_cases hx:x'=x
  ·subst hx;exact .inl ⟨a,b,.head _,by rw [show (x' == x')=true by simp,cond_true]⟩
  ·rw [show (x' == x)=false by simpa using hx,Qj3];rcases Q7Y hl g h aj (i+1) m ak (by simpa using hm) with ⟨c,d,f,h2⟩ | ⟨f,h2⟩
   ·exact .inl ⟨c,d,.tail _ f,h2⟩
   ·refine .inr ⟨fun p hp=>?_,h2⟩;cases hp with
    |head=>exact hx
    |tail _ hp=>exact f p hp
theorem Qe5 {f k y:Int} (a:1<=t) (hy:0<=y) (aj:y<t) (hk:0<=k) (ak:k<t):y=(f+k) % t↔(y-f) % t=k:=by
 constructor
 ·intro h;rw [h,Int.sub_emod,Int.emod_emod,<- Int.sub_emod,show f+k-f=k by omega];exact Qjt hk ak
 ·intro h;rw [<- h,Int.add_emod,Int.emod_emod,<- Int.add_emod,show f+(y-f)=y by omega];exact (Qjt hy aj).symm
theorem QcT (c:1<=t) (o:t<=300) {K:LL->oP R} {k0:Int->Bool->LL->oP R} (hk:∀ a b w,k0 a b w=K w) {A:List Occ} {i:Nat} {x a b d nn:Int} (e:A[i]? = some (x,a,b)) (ha : -1000<=a) (au:a<=20000) (hd : -1000<=d) (ar:d<=20000) {f:Nat->Bool} :
  ∃ g:Nat->Bool,Z4 n t (A.map enc) (i:Int) nn (Q4 d) k0 400 0 (FL f t.toNat)=K (FL g t.toNat)/\∀ y,y<t.toNat->(g y=true↔f y=true\/((y:Int)-(a-d+1)) % t<nn):=by
 let N:Nat:=(if nn<t then nn else t).toNat;have hN:(N:Int)=if nn<0 then 0 else if nn<t then nn else t:=by
  show (((if nn<t then nn else t).toNat:Nat):Int)=_;split <;> split <;> omega
 have ak:(N:Int)<=t:=by rw [hN];split <;> (try split) <;> omega
 have aq:(N:Int)<=nn\/N=0:=by
  by_cases h:nn<0
  ·rw [if_pos h] at hN;right;omega
  ·rw [Qja h] at hN;left;rw [hN];split <;> omega
 refine ⟨fun y=>f y||decide (((y:Int)-(a-d+1)) % t<(N:Int)),?_,fun y hy=>?_⟩
 ·have j:FL f t.toNat=FL (fun y=>f y||decide (((y:Int)-(a-d+1)) % t<((0:Nat):Int))) t.toNat:=by
   unfold FL;apply List.map_congr_left;intro y _;have:=Qjl ((y:Int)-(a-d+1)) (show t≠0 by omega);show [D.bool (f y)]=[D.bool (f y||decide (((y:Int)-(a-d+1)) % t<((0:Nat):Int)))];rw [show decide (((y:Int)-(a-d+1)) % t<((0:Nat):Int))=false from Qj5 (by omega),Bool.or_false]
  rw [j];refine Qu (r:=fun m k=>Z4 n t (A.map enc) (i:Int) nn (Q4 d) k0 m k (FL (fun y=>f y||decide (((y:Int)-(a-d+1)) % t<k)) t.toNat)) (N:=N) (fun m k an=>?_) (fun m=>?_) N 400 0 (by omega) (by omega)
  ·have l:=Qjl (a-d+1+(k:Int)) (show t≠0 by omega);have p:=Qjj (a-d+1+(k:Int)) (show 0<t by omega);rw [Z4,show decide ((k:Int)<nn)=true from Qj7 (by omega),show decide ((k:Int)<t)=true from Qj7 (by omega),cond_true,cond_true,QL e];simp -implicitDefEqProofs only [Q0,MZ,Q3,Q7 (x:=a-d) (by omega) (by omega),Q7 (x:=a-d+1) (by omega) (by omega),Q7 (x:=a-d+1+(k:Int)) (by omega) (by omega),Qfv (n:=n) (x:=a-d+1+(k:Int)) c (show t<=7200 by omega) (by omega) (by omega),Q5Z,Y0 (len:=t.toNat) l (by omega),EJ (f:=fun y=>f y||decide (((y:Int)-(a-d+1)) % t<(k:Int))) (n:=t.toNat) (i:=((a-d+1+(k:Int)) % t).toNat) (by omega),List.set_cons_zero];rw [Qaa (g:=fun y=>f y||decide (((y:Int)-(a-d+1)) % t<((k+1:Nat):Int))) (fun y hy=>?_),Q7 (by omega) (by omega)]
   ·rfl
   ·have hd:=Qe5 (t:=t) (f:=a-d+1) (k:=k) (y:=y) c (by omega) (by omega) (by omega) (by omega);by_cases aj:y=((a-d+1+(k:Int)) % t).toNat
    ·rw [if_pos aj,show decide (((y:Int)-(a-d+1)) % t<((k+1:Nat):Int))=true from Qj7 (by have:=hd.1 (by omega);omega),Bool.or_true]
    ·rw [Qja aj];congr 1;rw [decide_eq_decide];have:¬ ((y:Int)-(a-d+1)) % t=(k:Int):=fun h=>aj (by have:=hd.2 h;omega)
     omega
  ·rw [Z4];rw [show (bif decide ((N:Int)<nn) then decide ((N:Int)<t) else false)=false by
    by_cases h:(N:Int)<nn
    ·rw [Qj7 h,cond_true];exact Qj5 (by rw [hN];split <;> (try split) <;> omega)
    ·rw [Qj5 h,Qj3],Qj3,hk]
 ·have q:=Qjl ((y:Int)-(a-d+1)) (show t≠0 by omega);have s:=Qjj ((y:Int)-(a-d+1)) (show 0<t by omega);rw [Bool.or_eq_true,decide_eq_true_eq];refine or_congr_right ?_;rw [hN];split <;> (try split) <;> omega
theorem Q0U (o:1<=t) (p:t<=300) {K:LL->oP R} {k0:Int->Bool->LL->oP R} (hk:∀ a b w,k0 a b w=K w) {A B:List Occ} (hA:OL (-1) A) (hB:OL (-1) B) (lA:A.length<=100) (lB:B.length<=300):∀ (aj P:List Occ) (m:Nat) (f:Nat->Bool),A=P++aj->aj.length<m->(∀ y,y<t.toNat->(f y=true↔FB t P B y)) ->
  ∃ g:Nat->Bool,Y1 400 t (A.map enc) (B.map enc) k0 m ((P.length:Nat):Int) (FL f t.toNat)=K (FL g t.toNat)/\∀ y,y<t.toNat->(g y=true↔FB t A B y)
 |[],P,m+1,f,hP,_,hf=>by
  rw [Qjz] at hP;subst hP;refine ⟨f,?_,hf⟩;rw [Y1,Qj6,Qi,Qj3,hk]
 |(x,a,b)::aj,P,m+1,f,hP,hm,hf=>by
  have e:A[P.length]? = some (x,a,b):=by rw [hP,List.getElem?_append_right (Qjf _),Nat.sub_self];rfl
  have hi:P.length<A.length:=by rw [hP];simp
  have hq:=hA.mem (x,a,b) (Qjb e);dsimp only at hq;have an:A=(P++[(x,a,b)])++aj:=by rw [hP];simp
  have ak:=Q7Y (n:=400) (O:=B) (x:=x) (K:=fun i j k z=>(some (i,j,k,z):Option (D × D × D × Bool))) (k0:=fun i j k=>some (i,j,k,true)) (k1:=fun _ _=>some (Q4 0,Q4 0,Q4 0,false)) (by omega) (fun _ _ _=>rfl) (fun _ _=>rfl) B 0 400 rfl (by omega);rw [Y1,Qj6,Qc hi,cond_true,QL e];simp -implicitDefEqProofs only [Q0,Np,MZ,Fj,Q3];unfold Bl;have nx:wJ ((P.length:Int)+1)=(((P++[(x,a,b)]).length:Nat):Int):=by rw [Q7 (by omega) (by omega)];simp
  rw [nx];rcases ak with ⟨c,d,g1,q⟩ | ⟨g1,q⟩
  ·have u:=hB.mem (x,c,d) g1;dsimp only at u;rw [show Uk 400 (B.map enc) x (fun i j k=>(some (i,j,k,true):Option (D × D × D × Bool))) (fun v aa=>some (D.int .i64 (0:Int),D.int .i64 (0:Int),D.int .i64 (0:Int),false)) 400 0=some (Q4 x,Q4 c,Q4 d,true) from q];simp -implicitDefEqProofs only [Q0,Qjc,Qj3,Q3];have ar:wJ (wJ (wJ (wJ (b-a)+d)-c)-1)=b-a+d-c-1:=by
    rw [Q7 (x:=b-a) (by omega) (by omega),Q7 (x:=b-a+d) (by omega) (by omega),Q7 (x:=b-a+d-c) (by omega) (by omega),Q7 (by omega) (by omega)]
   rw [ar];obtain ⟨g,k1,k2⟩:=QcT (n:=400) (nn:=b-a+d-c-1) o p (K:=fun w=>Y1 400 t (A.map enc) (B.map enc) k0 m (((P++[(x,a,b)]).length:Nat):Int) w) (k0:=fun _ _ w=>Y1 400 t (A.map enc) (B.map enc) k0 m (((P++[(x,a,b)]).length:Nat):Int) w) (fun _ _ _=>rfl) (f:=f) e (d:=d) (by omega) (by omega) (by omega) (by omega);rw [k1];refine Q0U o p hk hA hB lA lB aj _ m g an (by simpa using hm) (fun y hy=>?_);rw [k2 y hy,Qbm,hf y hy];refine or_congr_right ⟨fun h=>⟨x,a,b,c,d,.head _,g1,h⟩,?_⟩;rintro ⟨x',a',b',c',d',l,r,s⟩;cases l with
   |head=>
    cases hB.uniq r g1 rfl;exact s
   |tail _ l=>nomatch l
  ·rw [show Uk 400 (B.map enc) x (fun i j k=>(some (i,j,k,true):Option (D × D × D × Bool))) (fun v aa=>some (D.int .i64 (0:Int),D.int .i64 (0:Int),D.int .i64 (0:Int),false)) 400 0=some (Q4 0,Q4 0,Q4 0,false) from q];simp -implicitDefEqProofs only [Q0,Qje,cond_true];refine Q0U o p hk hA hB lA lB aj _ m f an (by simpa using hm) (fun y hy=>?_);rw [Qbm,hf y hy];refine ⟨.inl,fun h=>h.elim id ?_⟩;rintro ⟨x',a',b',c',d',l,r,s⟩;cases l with
   |head=>exact (g1 _ r rfl).elim
   |tail _ l=>nomatch l
theorem VS.lastlt {t c d:Int}:∀ {l:Int} {M:List Sp2},VS t l (M++[(c,d)])->(∀ q∈M,q.2<c)/\c<d/\d<=t
 |l,[],⟨g,h2,f,_⟩=>⟨fun q hq=>(nomatch hq),h2,f⟩
 |l,(a,b)::M,⟨g,h2,f,e⟩=>by
  have ih:=e.lastlt;refine ⟨fun q hq=>?_,ih.2⟩;cases hq with
  |head=>
   cases M with
   |nil=>exact e.1
   |cons p M=>have:=ih.1 p (.head _);have:=e.1;have:=e.2.1;dsimp only at *;omega
  |tail _ hq=>exact ih.1 q hq
theorem VS.pw {t:Int}:∀ {l:Int} {F:List Sp2},VS t l F->F.Pairwise fun p q=>p.2<q.1
 |_,[],_=>.nil
 |l,(a,b)::r,⟨d,h2,e,c⟩=>.cons (fun q hq=>(c.rng q hq).1) c.pw
theorem VS.sep {t:Int}:∀ {l:Int} {F:List Sp2},VS t l F->∀ p∈F,∀ q∈F,p=q\/p.2<q.1\/q.2<p.1
 |_,[],_,p,hp,_,_=>nomatch hp
 |l,(a,b)::r,⟨d,h2,e,c⟩,p,hp,q,hq=>by
  have hr:=c.rng;cases hp with
  |head=>
   cases hq with
   |head=>exact .inl rfl
   |tail _ hq=>exact .inr (.inl (hr q hq).1)
  |tail _ hp=>
   cases hq with
   |head=>exact .inr (.inr (hr p hp).1)
   |tail _ hq=>exact c.sep p hp q hq
structure GP (t:Int) (F G:List Sp2):Prop where
 asc:G.Pairwise fun p q=>p.1<q.1
 rng:∀ q∈G,0<=q.1/\q.1<t/\q.1<q.2/\q.2<q.1+t
 ins:∀ q∈G,∀ z,q.1<=z->z<q.2->InS (z % t) F
 out:∀ q∈G,¬ InS (q.2 % t) F
 st:∀ x,0<=x->x<t->((InS x F/\¬ InS ((x-1) % t) F)↔∃ q∈G,q.1=x)
theorem Q9B {z t:Int} (a:0<=z) (b:z<t):z % t=z:=Qjt a b
theorem Qhe {z t:Int} (a:t<=z) (b:z<t+t):z % t=z-t:=by
 rw [<- Qjt (show 0<=z-t by omega) (show z-t<t by omega),Int.sub_emod_right]
theorem Qh3 {t:Int} (h:1<=t):(-1:Int) % t=t-1:=by
 rw [<- Qjt (show 0<=t-1 by omega) (show t-1<t by omega),show t-1 = -1+t by omega,Int.add_emod_right]
theorem WR.gp {t:Int} {F G:List Sp2} (l:1<=t) (hv:VS t (-1) F) (hc:cnt F≠t) (hw:WR t F G):GP t F G:=by
 have hr:=hv.rng;have hs:=hv.sep;have a3:=hv.cnt (by omega);have a2:=Q9k hv (by omega);have gap:∀ q∈F,¬ InS q.2 F:=fun q hq ⟨p,hp,h⟩=>by
  grind
 have ak:∀ q∈F,¬ InS (q.1-1) F:=fun q hq ⟨p,hp,h⟩=>by
  grind
 have aj:∀ q∈F,q.2-q.1<t:=fun q hq=>by
  have:=a2 q hq;have:=a3.2.2 (List.length_pos_of_mem hq);omega
 have an:∀ x,0<=x->x<t->InS x F->¬ InS ((x-1) % t) F->∃ q∈F,q.1=x:=fun x i j ⟨q,hq,h⟩ hn=>by
  have:=hr q hq;by_cases hx:q.1=x
  ·exact ⟨q,hq,hx⟩
  ·exact (hn ⟨q,hq,by rw [Q9B (by omega) (by omega)];omega,by rw [Q9B (by omega) (by omega)];omega⟩).elim
 rcases hw with ⟨rfl,hw⟩ | ⟨b,M,c,rfl,rfl⟩
 ·have au:∀ p∈G,∀ q∈G,p.1=0->q.2=t->False:=fun p hp q hq o h2=>by
   have ay:p≠q:=fun e=>by have:=aj p hp;rw [<- e] at h2;omega
   rcases G with _ | ⟨⟨a,b⟩,G⟩
   ·nomatch hp
   obtain ⟨r,s,u,f⟩:=id hv;have ao:=f.rng;have a4:p=(a,b):=by
    cases hp with
    |head=>rfl
    |tail _ hp=>have:=ao p hp;omega
   subst a4;obtain rfl:a=0:=o;rcases List.eq_nil_or_concat G with rfl | ⟨M,⟨c,d⟩,rfl⟩
   ·cases hq with
    |head=>exact ay rfl
    |tail _ hq=>nomatch hq
   ·rw [List.concat_eq_append] at *
    have hl:=f.lastlt;cases hq with
    |head=>exact ay rfl
    |tail _ hq=>
     rcases Qji.1 hq with hq | hq
     ·have:=hl.1 q hq;omega
     ·obtain rfl:=Qjh.1 hq;obtain rfl:d=t:=h2;exact hw b M c rfl
  refine ⟨hv.pw.imp_of_mem fun {p q} hp hq h=>by have:=hr p hp;omega,fun q hq=>by have:=hr q hq;have:=aj q hq;omega,fun q hq z g k=>?_,fun q hq=>?_,fun x i j=>⟨fun h=>an x i j h.1 h.2,?_⟩⟩
  ·have:=hr q hq;rw [Q9B (by omega) (by omega)];exact ⟨q,hq,g,k⟩
  ·have:=hr q hq;by_cases m:q.2=t
   ·rw [m,Int.emod_self];rintro ⟨p,hp,h⟩;have:=hr p hp;exact au p hp q hq (by omega) m
   ·rw [Q9B (by omega) (by omega)];exact gap q hq
  ·rintro ⟨q,hq,rfl⟩;have:=hr q hq;refine ⟨⟨q,hq,Int.le_refl _,this.2.1⟩,?_⟩;by_cases n:q.1=0
   ·rw [n,show (0:Int)-1 = -1 by omega,Qh3 l];rintro ⟨p,hp,h⟩;have:=hr p hp;exact au q hq p hp n (by omega)
   ·rw [Q9B (by omega) (by omega)];exact ak q hq
 ·obtain ⟨r,s,u,f⟩:=id hv;have hl:=f.lastlt;have ao:=f.rng;have hM:∀ q∈M,b<q.1/\q.1<q.2/\q.2<c:=fun q hq=>by
   have:=ao q (Qjv _ hq);have:=hl.1 q hq;omega
  have ar:∀ q∈M,q∈(0,b)::(M++[(c,t)]):=fun q hq=>.tail _ (Qjv _ hq)
  have aq:(c,t)∈(0,b)::(M++[(c,t)]):=.tail _ (Qju _ (.head _));have az:(0,b)∈(0,b)::(M++[(c,t)]):=.head _;have a6:b<c:=(ao (c,t) (Qju _ (.head _))).1;refine ⟨?_,fun q hq=>?_,fun q hq z g k=>?_,fun q hq=>?_,fun x i j=>⟨fun h=>?_,?_⟩⟩
  ·refine Qjw.2 ⟨(Qjw.1 f.pw).1.imp_of_mem fun {p q} hp hq h=>by have:=hM p hp;omega,List.pairwise_singleton _ _,fun p hp q hq=>?_⟩;obtain rfl:=Qjh.1 hq;have:=hM p hp;dsimp only;omega
  ·rcases Qji.1 hq with h | h
   ·have:=hM q h;omega
   ·obtain rfl:=Qjh.1 h;dsimp only;omega
  ·rcases Qji.1 hq with h | h
   ·have:=hM q h;rw [Q9B (by omega) (by omega)];exact ⟨q,ar q h,g,k⟩
   ·obtain rfl:=Qjh.1 h;dsimp only at g k;by_cases hz:z<t
    ·rw [Q9B (by omega) hz];exact ⟨_,aq,g,hz⟩
    ·rw [Qhe (by omega) (by omega)];exact ⟨_,az,by dsimp only;omega,by dsimp only;omega⟩
  ·rcases Qji.1 hq with h | h
   ·have:=hM q h;rw [Q9B (by omega) (by omega)];exact gap q (ar q h)
   ·obtain rfl:=Qjh.1 h;dsimp only;rw [Qhe (by omega) (by omega),show t+b-t=b by omega];exact gap _ az
  ·obtain ⟨q,hq,rfl⟩:=an x i j h.1 h.2;cases hq with
   |head=>
    refine (h.2 ?_).elim;dsimp only;rw [show (0:Int)-1 = -1 by omega,Qh3 l];exact ⟨_,aq,by dsimp only;omega,by dsimp only;omega⟩
   |tail _ hq=>
    rcases Qji.1 hq with hq | hq
    ·exact ⟨q,Qjv _ hq,rfl⟩
    ·obtain rfl:=Qjh.1 hq;exact ⟨(c,t+b),Qju _ (.head _),rfl⟩
  ·rintro ⟨q,hq,rfl⟩;rcases Qji.1 hq with h | h
   ·have:=hM q h;refine ⟨⟨q,ar q h,Int.le_refl _,this.2.1⟩,?_⟩;rw [Q9B (by omega) (by omega)];exact ak q (ar q h)
   ·obtain rfl:=Qjh.1 h;dsimp only;refine ⟨⟨_,aq,Int.le_refl _,hl.2.1⟩,?_⟩;rw [Q9B (by omega) (by omega)];exact ak _ aq
theorem Q9Y {t:Int} {F:List Sp2} (i:1<=t) (hv:VS t (-1) F):cnt F=t↔∀ y,0<=y->y<t->InS y F:=by
 rcases F with _ | ⟨⟨a,b⟩,r⟩
 ·exact ⟨fun h=>by grind [cnt],fun h=>absurd (h 0 (by omega) (by omega)) MY⟩
 obtain ⟨j,k,f,e⟩:=hv;have hc:=e.cnt f;rcases r with _ | ⟨⟨c,d⟩,r⟩
 ·simp only [cnt,T1];constructor
  ·omega
  ·intro h;have g:=(h 0 (by omega) (by omega)).resolve_right MY;have h2:=(h (t-1) (by omega) (by omega)).resolve_right MY;omega
 ·have:=hc.2.2 (by simp);have w:=e.1;constructor
  ·grind [cnt]
  ·intro h;have aj:=e.rng;have:=aj (c,d) (.head _);dsimp only at this;obtain ⟨p,hp,g,h2⟩:=h b (by omega) (by omega)
   grind
theorem Q4I (d:t<=300) {f:Nat->Bool} {k0:Int->Int->Bool->oP R} {K:Int->oP R} (hk:∀ a b c,k0 a b c=K a):∀ (c m x:Nat) (w:Int),(x:Int)+c=t->c<m->0<=w->w<=x->(w=x↔∀ y:Nat,y<x->f y=true)->∃ w',Wv n t (FL f t.toNat) k0 m w (x:Int)=K w'/\(w'=t↔∀ y:Nat,(y:Int)<t->f y=true)
 |0,m+1,x,w,hx,_,_,_,hw=>⟨w,by rw [Wv,show decide ((x:Int)<t)=false from Qj5 (by omega),Qj3,hk],by
  grind⟩
 |c+1,m+1,x,w,hx,hm,w0,w1,hw=>by
  have aj:Q1 (FL f t.toNat) (x:Int)=some [D.bool (f x)]:=by grind [Qe,EJ]
  rw [Wv,show decide ((x:Int)<t)=true from Qj7 (by omega),cond_true,aj];simp -implicitDefEqProofs only [Q0,Qj2,N3,Qq (show x<=1000 by omega)];cases ak:f x with
  |false=>
   refine Q4I d hk c m (x+1) w (by omega) (by omega) w0 (by omega) ⟨fun h=>by omega,fun h=>?_⟩
   simp_all
  |true=>
   rw [cond_true,Q7 (by omega) (by omega)];refine Q4I d hk c m (x+1) (w+1) (by omega) (by omega) (by omega) (by omega) ⟨fun h y hy=>?_,fun h=>?_⟩
   all_goals grind
theorem Qef (b:1<=t) (c:t<=300) {f:Nat->Bool} {k0:Int->Bool->oP R} {a:Int} {L:Nat} (a0:0<=a) (a1:a<t) (hL:(L:Int)<t) (ak:∀ k:Nat,k<L->f ((a+k) % t).toNat=true) (aj:f ((a+L) % t).toNat=false):WF n t (FL f t.toNat) a k0 400 0=k0 (L:Int) false:=by
 have step:∀ k:Nat,k<=L->Q1 (FL f t.toNat) (Int.tmod (wJ (a+k)) t)=some [D.bool (f ((a+k) % t).toNat)]:=fun k hk=>by
  have d:=Qjl (a+(k:Int)) (show t≠0 by omega);have e:=Qjj (a+(k:Int)) (show 0<t by omega);rw [Q7 (by omega) (by omega),Qjs (by omega)];obtain ⟨z,hz⟩:∃ z:Nat,(a+(k:Int)) % t=z:=⟨((a+(k:Int)) % t).toNat,by omega⟩;rw [hz,Qe,Int.toNat_natCast];exact EJ (by omega)
 refine Qu (r:=fun m k=>WF n t (FL f t.toNat) a k0 m k) (N:=L) (fun m k hk=>?_) (fun m=>?_) L 400 0 (by omega) (by omega)
 ·rw [WF,EE (by omega),step k (by omega)];simp -implicitDefEqProofs only [Q0,Qj2,N3,ak k hk,cond_true,Qq (show k<=1000 by omega)]
 ·rw [WF,EE (by omega),step L (Qjf _)];simp -implicitDefEqProofs only [Q0,Qj2,N3,aj,Qj3]
theorem Q4A (g:1<=t) (i:t<=300) {f:Nat->Bool} {F G:List Sp2} (hf:∀ y:Nat,(y:Int)<t->(f y=true↔InS y F)) (hG:GP t F G) {K:LL->oP R} {k0:Int->Bool->LL->oP R} (hk:∀ a b w,k0 a b w=K w):∀ (c m x:Nat) (P S:List Sp2),(x:Int)+c=t->c<m->G=P++S->P.length<=x->(∀ q∈P,q.1<x)->(∀ q∈S,(x:Int)<=q.1)->Yg 400 t (FL f t.toNat) k0 m (x:Int) ((P.map (Q2n t)).map Y7)=K ((G.map (Q2n t)).map Y7)
 |0,m+1,x,P,S,hx,_,aj,_,_,hS=>by
  have:S=[]:=by
   cases S with
   |nil=>rfl
   |cons q S=>have:=hS q (.head _);have:=hG.rng q (by simp_all);omega
  rw [Yg,show decide ((x:Int)<t)=false from Qj5 (by omega),Qj3,hk,aj,this,Qjz]
 |c+1,m+1,x,P,S,hx,hm,aj,hl,hP,hS=>by
  have fi:∀ z:Int,f (z % t).toNat=true↔InS (z % t) F:=fun z=>by
   have l:=Qjl z (show t≠0 by omega);have o:=Qjj z (show 0<t by omega);have:=hf (z % t).toNat (by omega);rw [show (((z % t).toNat:Nat):Int)=z % t by omega] at this;exact this
  have au:Q1 (FL f t.toNat) (x:Int)=some [D.bool (f x)]:=by rw [Qe];exact EJ (by omega)
  have l:=Qjl ((x:Int)-1) (show t≠0 by omega);have o:=Qjj ((x:Int)-1) (show 0<t by omega);have ao:Q1 (FL f t.toNat) (((x:Int)-1) % t)=some [D.bool (f (((x:Int)-1) % t).toNat)]:=by
   obtain ⟨z,hz⟩:∃ z:Nat,((x:Int)-1) % t=z:=⟨(((x:Int)-1) % t).toNat,by omega⟩;rw [hz,Qe,Int.toNat_natCast];exact EJ (by omega)
  rw [Yg,show decide ((x:Int)<t)=true from Qj7 (by omega),cond_true,au];simp -implicitDefEqProofs only [Q0,Qj2,N3,Qq (show x<=1000 by omega),Q7 (x:=(x:Int)-1) (by omega) (by omega),Qfv (n:=400) (x:=(x:Int)-1) g (show t<=7200 by omega) (by omega) (by omega),ao];have an:=hG.st x (by omega) (by omega);have aq:=hf x (by omega);have aw:=fi ((x:Int)-1);have a5:∀ (R':Type) (p:Bool) (d:R') (v:R') (k:R'->oP R),gb p (some v) d k=gb p (some v) d k:=fun _ _ _ _ _=>rfl
  have skip:(∀ q∈G,q.1≠x)->Yg 400 t (FL f t.toNat) k0 m ((x+1:Nat):Int) ((P.map (Q2n t)).map Y7)=K ((G.map (Q2n t)).map Y7):=fun ax=>by
   refine Q4A g i hf hG hk c m (x+1) P S (by omega) (by omega) aj (by omega) (fun q hq=>by have:=hP q hq;omega) (fun q hq=>?_);have:=hS q hq;have:=ax q (by rw [aj];exact Qju _ hq);omega
  cases hb:f x with
  |false=>
   simp -implicitDefEqProofs only [Qje,Qjc,gbF,cond_true];refine skip fun q hq e=>?_
   have:=(an.2 ⟨q,hq,e⟩).1;rw [<- aq,hb] at this;cases this
  |true=>
   simp -implicitDefEqProofs only [Qje,Qjc,Q0,Qj3];cases j:f (((x:Int)-1) % t).toNat with
   |true=>
    rw [cond_true];refine skip fun q hq e=>?_
    exact (an.2 ⟨q,hq,e⟩).2 (aw.1 j)
   |false=>
    rw [Qj3];obtain ⟨q,hq,ay⟩:=an.1 ⟨aq.1 hb,fun h=>by rw [<- aw,j] at h;cases h⟩;obtain ⟨S',a2⟩:∃ S',S=q::S':=by
     rw [aj] at hq;rcases Qji.1 hq with h | h
     ·have:=hP q h;omega
     cases S with
     |nil=>nomatch h
     |cons p S=>
      cases h with
      |head=>exact ⟨S,rfl⟩
      |tail _ h=>
       have ha:=hG.asc;rw [aj] at ha;have:=(Qjk.1 (Qjw.1 ha).2.1).1 q h;have:=hS p (.head _);omega
    subst a2;have hr:=hG.rng q hq;obtain ⟨L,hL⟩:∃ L:Nat,q.2=x+L:=⟨(q.2-q.1).toNat,by omega⟩;have az:=hG.ins q hq;have ar:=hG.out q hq;rw [Qef (n:=400) (k0:=_) (a:=(x:Int)) (L:=L) g i (by omega) (by omega) (by omega) (fun k hk=>(fi _).2 (az _ (by omega) (by omega))) (by
     cases h:f (((x:Int)+L) % t).toNat with
     |false=>rfl
     |true=>rw [<- hL] at h;exact (ar ((fi _).1 h)).elim)]
    have hw:[Q4 ((x:Int)+L),Q4 ((x:Int)+t-1)]=Y7 (Q2n t q):=by rw [<- hL,<- ay];rfl
    rw [Q7 (x:=(x:Int)+L) (by omega) (by omega),Q7 (x:=(x:Int)+t) (by omega) (by omega),Q7 (x:=(x:Int)+t-1) (by omega) (by omega),XF (by simp;omega),Q0];have:=Q4A g i hf hG hk c m (x+1) (P++[q]) S' (by omega) (by omega) (by rw [aj];simp) (by simp;omega) (fun p hp=>by
     rcases Qji.1 hp with h | h
     ·have:=hP p h;omega
     ·obtain rfl:=Qjh.1 h;omega) (fun p hp=>by
     have ha:=hG.asc;rw [aj] at ha;have:=(Qjk.1 (Qjw.1 ha).2.1).1 p hp;omega)
    rw [Qjg,Qjg,List.map_singleton,List.map_singleton,<- hw] at this;exact this
theorem Qal {A B:List Occ} (o:2<=t) (a:t<=300) (hA:OL (-1) A) (hB:OL (-1) B) (lA:A.length<=6) (lB:B.length<=6) {F G:List Sp2} (hv:VS t (-1) F) (hF:∀ y,0<=y->y<t->(InS y F↔FB t A B y)) (hw:WR t F G) :
  KQ 400 t (A.map enc) (B.map enc) Tu2=some (if cnt F=t then ([],(13:Int)) else ((G.map (Q2n t)).map Y7,(0:Int))):=by
 obtain ⟨f,i,j⟩:=Q0U (by omega) a (K:=fun w=>(some (w,(0:Int)):Option (LL × Int))) (k0:=fun _ _ w=>some (w,(0:Int))) (fun _ _ _=>rfl) hA hB (by omega) (by omega) A [] 400 (fun _=>false) rfl (by omega) (fun y _=>⟨fun h=>(nomatch h),fun ⟨_,_,_,_,_,h,_⟩=>(nomatch h)⟩);have hf:∀ y:Nat,(y:Int)<t->(f y=true↔InS y F):=fun y hy=>by rw [j y (by omega),hF y (by omega) hy]
 have hm:KG 400 t (A.map enc) (B.map enc) Tu2=some (FL f t.toNat,(0:Int)):=by
  unfold KG;rw [Q3N (by omega) (show t<=7200 by omega),Q8A (by omega) hA,Q8A (by omega) hB];simp -implicitDefEqProofs only [Q0,Qjc,Qje,Qj3];rw [show (bif decide ((0:Int)<=t)&&decide (t<=t) then some () else none)=some () by rw [QX (by simp;omega)],Q0,XF (by omega),Q0];have e:List.replicate t.toNat [D.bool false]=FL (fun _=>false) t.toNat:=by unfold FL;rw [List.map_const',List.length_range]
  rw [e];exact i
 unfold KQ;rw [hm,Q0,Q9 (by rfl)];obtain ⟨w,w1,k⟩:=Q4I (n:=400) a (f:=f) (K:=fun d=>bif (d == t) then (some ([],(13:Int)):Option (LL × Int)) else Yg 400 t (FL f t.toNat) (fun l m g=>some (g,(0:Int))) 400 (0:Int) []) (k0:=fun d p r=>bif (d == t) then (some ([],(13:Int)):Option (LL × Int)) else Yg 400 t (FL f t.toNat) (fun l m g=>some (g,(0:Int))) 400 (0:Int) []) (fun _ _ _=>rfl) t.toNat 400 0 0 (by omega) (by omega) (by omega) (by omega) ⟨fun _ y hy=>by omega,fun _=>rfl⟩;refine w1.trans ?_;have hc:w=t↔cnt F=t:=by
  rw [k,Q9Y (by omega) hv];constructor
  ·intro h y s u;have:=(hf y.toNat (by omega)).1 (h y.toNat (by omega));rw [show ((y.toNat:Nat):Int)=y by omega] at this;exact this
  ·exact fun h y hy=>(hf y hy).2 (h y (by omega) hy)
 by_cases aj:cnt F=t
 ·rw [if_pos aj,QX (by simpa using hc.2 aj)]
 ·rw [Qja aj,Q9 (by simpa using fun h=>aj (hc.1 h))];exact Q4A (by omega) a hf (hw.gp (by omega) hv aj) (K:=fun w=>some (w,(0:Int))) (k0:=fun _ _ w=>some (w,(0:Int))) (fun _ _ _=>rfl) t.toNat 400 0 [] G (by omega) (by omega) rfl (by simp) (fun q hq=>nomatch hq) (fun q hq=>((hw.gp (by omega) hv aj).rng q hq).1)
end
end Go.Vx
