/- Part of a proof. No conditions of their own. -/
import Derived.Test.YtpamppmacgcedaaGreatTB
import Derived.Test.YtpamppmacgcedaaGreatTD
set_option linter.unusedVariables false
set_option linter.unusedSimpArgs false
noncomputable section
abbrev Qjs:=@List.getElem?_cons_zero
abbrev Qjt:=@cond_false
abbrev Qju:=@List.getElem?_cons_succ
abbrev Qjv:=@decide_eq_false
abbrev Qjw:=@List.length_map
abbrev Qjx:=@decide_eq_true
abbrev Qjy:=@List.getD_eq_getElem?_getD
abbrev Qjz:=@List.getElem?_eq_getElem
abbrev QjA:=@if_neg
abbrev QjB:=@Nat.add_sub_cancel
abbrev QjC:=@Nat.le_refl
abbrev QjD:=@List.mem_of_getElem?
abbrev QjE:=@Bool.not_true
abbrev QjF:=@List.map_append
abbrev QjG:=@Bool.not_false
abbrev QjH:=@List.length_nil
abbrev QjI:=@List.length_cons
abbrev QjJ:=@Option.getD_some
abbrev QjK:=@List.append_assoc
abbrev QjL:=@List.getElem?_map
abbrev QjM:=@List.length_append
abbrev QjN:=@List.pairwise_cons
abbrev QjO:=@Int.tmod_eq_emod_of_nonneg
abbrev QjP:=@List.take_length
abbrev QjQ:=@Nat.le_of_ble_eq_true
abbrev QjR:=@List.filter_cons
abbrev QjS:=@Int.emod_lt_of_pos
abbrev QjT:=@Int.emod_nonneg
namespace Go.Vx
variable {R:Type}
def Yd (n:Nat) (c e i:LL) (f:Int) (j:LL) (g:Int) (k0:Int->Int->Bool->LL->LL->oP R):Nat->Int->Int->LL->LL->oP R
 | 0,_,_,_,_=>none
 | m+1,b,a,h,d=>bif decide (a<f) then gb true (Q1 i a) [] fun o=>gb true (o[0]?) oF fun r=>gb true (o[1]?) oF fun ac=>gb true (Q1 c b) [] fun s=>gb true (s[0]?) oF fun t=>gb true (pIw t) 0 fun k=>gb true (Ym ((h.length+[[Q4 k]].length)*8)) () fun ad=>bif decide (a>0) then gb true (pIw r) 0 fun u=>gb true (Q1 j u) [] fun v=>gb true (v[1]?) oF fun x=>gb true (pIw x) 0 fun l=>bif (decide (a<(wJ ((e.length:Int)-1)))) then gb true (Q1 c (wJ ((wJ (b+l))+g))) [] fun y=>gb true (y[0]?) oF fun z=>gb true (pIw z) 0 fun p=>gb true (Ym ((d.length+[[Q4 p]].length)*8)) () fun ae=>Yd n c e i f j g k0 m (wJ (b+l)) (wJ (a+1)) (h++[[Q4 k]]) (d++[[Q4 p]]) else Yd n c e i f j g k0 m (wJ (b+l)) (wJ (a+1)) (h++[[Q4 k]]) d else bif (decide (a<(wJ ((e.length:Int)-1)))) then gb true (Q1 c (wJ (b+g))) [] fun aa=>gb true (aa[0]?) oF fun ab=>gb true (pIw ab) 0 fun q=>gb true (Ym ((d.length+[[Q4 q]].length)*8)) () fun ag=>Yd n c e i f j g k0 m b (wJ (a+1)) (h++[[Q4 k]]) (d++[[Q4 q]]) else Yd n c e i f j g k0 m b (wJ (a+1)) (h++[[Q4 k]]) d else k0 b a (decide (a<f)) h d
def Hj (n:Nat) (q r f s g:LL) (h:Int) (i:List UInt8) (c j k l:Int) (K:LL->LL->Int->Int->oP R):oP R:= gb true (HB n q r f s g h i c j k l Tu3) ([],0,0) fun a=>bif (a.2.2 != 0) then K [] [] 0 a.2.2 else gb true (JK n a.1 a.2.1 i c j k l Tu2) ([],0) fun b=>gb true (UH n g h some) [] fun e=>Yd n b.1 e e (e.length:Int) f c (fun m ab ac t o=>gb true (Q1 b.1 m) [] fun u=>gb true (u[0]?) oF fun v=>gb true (pIw v) 0 fun p=>gb true (Ym ((o.length+[[Q4 p]].length)*8)) () fun ad=>gb true (Q1 b.1 m) [] fun x=>gb true (x[0]?) oF fun y=>gb true (pIw y) 0 fun z=>gb true (G3 n z some) 0 fun aa=>K t (o++[[Q4 p]]) aa 0) n 0 0 [] []
def PM (n:Nat) (a0 a1:Int) (K:Int->Int->oP R):oP R:= bif decide (a1<1) then K 0 1 else gb true (nz a1) () fun a=>gb true (nz a1) () fun u2=>bif (decide ((Int.tmod a0 a1)<0)) then K (wJ ((wJ (Int.tdiv a0 a1))-1)) 0 else K (wJ (Int.tdiv a0 a1)) 0

def VH (n:Nat) (a0:Int) (K:Int->oP R):oP R:= gb true (PM n a0 1000 Tu2) (0,0) fun a=>K a.1

def Jr (n:Nat) (c a b d:LL) (K:LL->oP R):oP R:= gb true (bif decide (0<=(wJ ((b.length:Int)+(a.length:Int))))&&decide ((wJ ((b.length:Int)+(a.length:Int)))<=(wJ ((b.length:Int)+(a.length:Int)))) then some () else none) () fun e=>gb true (Ym (Int.toNat (wJ ((b.length:Int)+(a.length:Int)))*24)) () fun u2=>K (List.replicate (Int.toNat (wJ ((b.length:Int)+(a.length:Int)))) [Q4 0,Q4 0,Q4 0])

def Xb (n:Nat) (a:LL) (a1 a2 b:Int) (K:LL->oP R):oP R:= gb true (inB (a.length) a1) () fun r=>gb true (a[a1.toNat]?) [] fun e=>gb true (e[1]?) oF fun f=>gb true (pIw f) 0 fun g=>gb true (a[a1.toNat]?) [] fun h=>gb true (h[2]?) oF fun i=>gb true (pIw i) 0 fun j=>bif decide (g<j) then gb true (a[a1.toNat]?) [] fun k=>gb true (k[1]?) oF fun l=>gb true (pIw l) 0 fun c=>gb true (a[a1.toNat]?) [] fun m=>gb true (m[2]?) oF fun o=>gb true (pIw o) 0 fun d=>gb true (a[a1.toNat]?) [] fun p=>K (List.set a a1.toNat (List.set (List.set (List.set p 0 (Q4 a1)) 1 (Q4 (if c<a2 then c else a2))) 2 (Q4 (if b<d then d else b)))) else gb true (a[a1.toNat]?) [] fun q=>K (List.set a a1.toNat (List.set (List.set (List.set q 0 (Q4 a1)) 1 (Q4 a2)) 2 (Q4 b)))

def Ye (n:Nat) (c:LL) (h2:Int) (k0:Int->Bool->LL->oP R):Nat->Int->LL->oP R
 | 0,_,_=>none
 | m+1,a,b=>bif decide (a<h2) then gb true (Q1 c a) [] fun d=>gb true (d[0]?) oF fun g=>gb true (d[1]?) oF fun e=>gb true (d[2]?) oF fun f=>gb true (pIw e) 0 fun h=>gb true (pIw f) 0 fun i=>bif decide (h<i) then gb true (Ym ((b.length+[[g,e,f]].length)*24)) () fun j=>Ye n c h2 k0 m (wJ (a+1)) (b++[[g,e,f]]) else Ye n c h2 k0 m (wJ (a+1)) b else k0 a (decide (a<h2)) b
def VM (n:Nat) (a0:LL) (K:LL->oP R):oP R:= Ye n a0 (a0.length:Int) (fun b c a=>K a) n 0 []

def Y3 (n:Nat) (d e:LL) (b:Int) (k0:Int->Bool->LL->oP R):Nat->Int->LL->oP R
 | 0,_,_=>none
 | m+1,a,c=>bif decide (a<b) then gb true (Q1 d (wJ (a-1))) [] fun h=>gb true (h[0]?) oF fun i=>gb true (pIw i) 0 fun j=>gb true (VH n j some) 0 fun f=>gb true (Q1 e a) [] fun k=>gb true (k[0]?) oF fun l=>gb true (pIw l) 0 fun o=>gb true (G3 n o some) 0 fun g=>gb true (Ym ((c.length+[[Q4 0,Q4 (wJ (f-16)),Q4 (wJ (g+4))]].length)*24)) () fun p=>Y3 n d e b k0 m (wJ (a+1)) (c++[[Q4 0,Q4 (wJ (f-16)),Q4 (wJ (g+4))]]) else k0 a (decide (a<b)) c
def Qk (n:Nat) (f:Int) (l:LL) (g:Int) (h i e j k:LL) (c d:Int) (k0:Int->Bool->LL->LL->oP R):Nat->Int->LL->LL->oP R
 | 0,_,_,_=>none
 | m+1,a,b,q=>bif decide (a<g) then gb true (Q1 l a) [] fun u=>gb true (u[0]?) oF fun r=>gb true (u[1]?) oF fun v=>bif decide (a>f) then gb true (Ym ((b.length+[[Q4 0,Q4 c,Q4 d]].length)*24)) () fun bu=>gb true (pIw r) 0 fun ad=>gb true (inB (List.length (b++[[Q4 0,Q4 c,Q4 d]])) a) () fun bv=>gb true ((b++[[Q4 0,Q4 c,Q4 d]])[a.toNat]?) [] fun ae=>gb true (ae[1]?) oF fun ag=>gb true (pIw ag) 0 fun ah=>gb true (inB (List.length (b++[[Q4 0,Q4 c,Q4 d]])) a) () fun bx=>gb true ((b++[[Q4 0,Q4 c,Q4 d]])[a.toNat]?) [] fun ai=>gb true (ai[2]?) oF fun aj=>gb true (pIw aj) 0 fun ak=>gb true (Xb n q ad ah ak some) [] fun o=>gb true (G2 o (q.length)) () fun bz=>bif (a == 0) then Qk n f l g h i e j k c d k0 m (wJ (a+1)) (b++[[Q4 0,Q4 c,Q4 d]]) o else gb true (Q1 k (wJ (a-1))) [] fun x=>gb true (x[0]?) oF fun al=>gb true (x[1]?) oF fun am=>gb true (pIw al) 0 fun an=>gb true (pIw am) 0 fun ao=>gb true (pIw r) 0 fun ap=>gb true (pIw v) 0 fun aq=>gb true (ZH n h i e j an ao ap aq some) 0 fun s=>bif decide (s<0) then Qk n f l g h i e j k c d k0 m (wJ (a+1)) (b++[[Q4 0,Q4 c,Q4 d]]) o else bif decide (a<=f) then gb true (inB (List.length (b++[[Q4 0,Q4 c,Q4 d]])) a) () fun ca=>gb true ((b++[[Q4 0,Q4 c,Q4 d]])[a.toNat]?) [] fun ar=>gb true (ar[1]?) oF fun au=>gb true (pIw au) 0 fun av=>gb true (inB (List.length (b++[[Q4 0,Q4 c,Q4 d]])) (wJ (a-1))) () fun cb=>gb true ((b++[[Q4 0,Q4 c,Q4 d]])[(Int.toNat (wJ (a-1)))]?) [] fun aw=>gb true (aw[2]?) oF fun ax=>gb true (pIw ax) 0 fun ay=>gb true (Xb n o (wJ ((e.length:Int)+s)) av ay some) [] fun y=>gb true (G2 y (o.length)) () fun cc=>Qk n f l g h i e j k c d k0 m (wJ (a+1)) (b++[[Q4 0,Q4 c,Q4 d]]) y else gb true (Xb n o (wJ ((e.length:Int)+s)) c d some) [] fun z=>gb true (G2 z (o.length)) () fun ce=>Qk n f l g h i e j k c d k0 m (wJ (a+1)) (b++[[Q4 0,Q4 c,Q4 d]]) z else gb true (pIw r) 0 fun az=>gb true (inB (b.length) a) () fun cf=>gb true (b[a.toNat]?) [] fun ba=>gb true (ba[1]?) oF fun bb=>gb true (pIw bb) 0 fun bc=>gb true (inB (b.length) a) () fun cg=>gb true (b[a.toNat]?) [] fun bd=>gb true (bd[2]?) oF fun be=>gb true (pIw be) 0 fun bg=>gb true (Xb n q az bc bg some) [] fun p=>gb true (G2 p (q.length)) () fun ch=>bif (a == 0) then Qk n f l g h i e j k c d k0 m (wJ (a+1)) b p else gb true (Q1 k (wJ (a-1))) [] fun aa=>gb true (aa[0]?) oF fun bh=>gb true (aa[1]?) oF fun bi=>gb true (pIw bh) 0 fun bj=>gb true (pIw bi) 0 fun bk=>gb true (pIw r) 0 fun bl=>gb true (pIw v) 0 fun bm=>gb true (ZH n h i e j bj bk bl bm some) 0 fun t=>bif decide (t<0) then Qk n f l g h i e j k c d k0 m (wJ (a+1)) b p else bif decide (a<=f) then gb true (inB (b.length) a) () fun ci=>gb true (b[a.toNat]?) [] fun bn=>gb true (bn[1]?) oF fun bo=>gb true (pIw bo) 0 fun bp=>gb true (inB (b.length) (wJ (a-1))) () fun cj=>gb true (b[(Int.toNat (wJ (a-1)))]?) [] fun bq=>gb true (bq[2]?) oF fun br=>gb true (pIw br) 0 fun bt=>gb true (Xb n p (wJ ((e.length:Int)+t)) bp bt some) [] fun ab=>gb true (G2 ab (p.length)) () fun ck=>Qk n f l g h i e j k c d k0 m (wJ (a+1)) b ab else gb true (Xb n p (wJ ((e.length:Int)+t)) c d some) [] fun ac=>gb true (G2 ac (p.length)) () fun cm=>Qk n f l g h i e j k c d k0 m (wJ (a+1)) b ac else k0 a (decide (a<g)) b q
def Wm (n:Nat) (c d e f b:LL) (l:Int) (m:List UInt8) (o p q r s h:Int) (K:LL->Int->Int->oP R):oP R:= gb true (Hj n c d e f b l m o p q r Tu4) ([],[],0,0) fun a=>bif (a.2.2.2 != 0) then K [] 0 a.2.2.2 else gb true (Q1 a.2.1 0) [] fun g=>gb true (g[0]?) oF fun v=>gb true (pIw v) 0 fun x=>gb true (G3 n x some) 0 fun y=>Y3 n a.1 a.2.1 (wJ ((a.1.length:Int)-1)) (fun aj ak i=>gb true (Q1 a.1 (wJ ((wJ ((a.1.length:Int)-1))-1))) [] fun z=>gb true (z[0]?) oF fun aa=>gb true (pIw aa) 0 fun ab=>gb true (VH n ab some) 0 fun j=>gb true (Ym ((i.length+[[Q4 0,Q4 (wJ (j-16)),Q4 (wJ (a.2.2.1+h))]].length)*24)) () fun al=>gb true (Q1 a.1 (wJ ((a.1.length:Int)-1))) [] fun ac=>gb true (ac[0]?) oF fun ad=>gb true (pIw ad) 0 fun ae=>gb true (VH n ae some) 0 fun ag=>gb true (Jr n c d e f some) [] fun ah=>Qk n (wJ ((a.1.length:Int)-1)) b (b.length:Int) c d e f b (wJ (ag-16)) (wJ (a.2.2.1+20)) (fun am an ao ai=>gb true (VM n ai some) [] fun k=>gb true (FW [k]) () fun ap=>K k a.2.2.1 0) n 0 (i++[[Q4 0,Q4 (wJ (j-16)),Q4 (wJ (a.2.2.1+h))]]) ah) n 1 [[Q4 0,Q4 (wJ (0-s)),Q4 (wJ (y+4))]]

def Wu (n:Nat) (e f g h i:LL) (j:Int) (k:List UInt8) (l m o p c d:Int) (K:LL->Int->Int->oP R):oP R:= gb true (GC n e f g h i j k l m o p some) 0 fun b=>bif (b != 0) then K [] 0 b else bif (bif (bif (bif decide (c<0) then true else (decide (c>65536))) then true else (decide (d<0))) then true else (decide (d>65536))) then K [] 0 4 else gb true (Wm n e f g h i j k l m o p c d Tu3) ([],0,0) fun a=>K a.1 a.2.1 a.2.2

def ZJ (n:Nat) (a i e:LL) (g d:Int) (k0:Int->Int->Bool->LL->LL->oP R):Nat->Int->Int->LL->LL->oP R
 | 0,_,_,_,_=>none
 | m+1,b,c,h,f=>bif (decide (c<(wJ ((e.length:Int)-g)))) then gb true (Q1 a b) [] fun p=>gb true (p[0]?) oF fun q=>gb true (pIw q) 0 fun j=>gb true (Ym ((h.length+[[Q4 j]].length)*8)) () fun ab=>bif decide (c>0) then gb true (Q1 e c) [] fun r=>gb true (r[0]?) oF fun s=>gb true (pIw s) 0 fun t=>gb true (Q1 i t) [] fun u=>gb true (u[1]?) oF fun v=>gb true (pIw v) 0 fun k=>gb true (Q1 a (if (wJ ((a.length:Int)-1))<(wJ ((wJ (b+k))+d)) then (wJ ((a.length:Int)-1)) else (wJ ((wJ (b+k))+d)))) [] fun x=>gb true (x[0]?) oF fun y=>gb true (pIw y) 0 fun l=>gb true (Ym ((f.length+[[Q4 l]].length)*8)) () fun ac=>ZJ n a i e g d k0 m (wJ (b+k)) (wJ (c+1)) (h++[[Q4 j]]) (f++[[Q4 l]]) else gb true (Q1 a (if (wJ ((a.length:Int)-1))<(wJ (b+d)) then (wJ ((a.length:Int)-1)) else (wJ (b+d)))) [] fun z=>gb true (z[0]?) oF fun aa=>gb true (pIw aa) 0 fun o=>gb true (Ym ((f.length+[[Q4 o]].length)*8)) () fun ad=>ZJ n a i e g d k0 m b (wJ (c+1)) (h++[[Q4 j]]) (f++[[Q4 o]]) else k0 b c (decide (c<(wJ ((e.length:Int)-g)))) h f
def PK (n:Nat) (i j c k d:LL) (e:Int) (l:List UInt8) (f m o p:Int) (K:LL->LL->Int->Int->oP R):oP R:= gb true (SL n i j c k d e l f m o p some) 0 fun a=>bif (a != 0) then K [] [] 0 a else gb true (So n i j c k d e Tu3) ([],0,0) fun b=>gb true (S7 n b.1 b.2.1 l f m o p Tu2) ([],0) fun h=>ZJ n h.1 c d e f (fun x y z q r=>gb true (Q1 h.1 (wJ ((h.1.length:Int)-1))) [] fun s=>gb true (s[0]?) oF fun t=>gb true (pIw t) 0 fun u=>gb true (JI n u 1000 some) 0 fun v=>K q r v 0) n 0 0 [] []

def J2 (n:Nat) (a0 a1:Int) (K:Int->oP R):oP R:= gb true (nz a1) () fun a=>gb true (nz a1) () fun u2=>bif (decide ((Int.tmod a0 a1)<0)) then K (wJ ((wJ (Int.tdiv a0 a1))-1)) else K (wJ (Int.tdiv a0 a1))

def Zb (n:Nat) (b a:LL) (a1 a2 c:Int) (K:LL->LL->oP R):oP R:= gb true (inB (b.length) a1) () fun q=>gb true (b[a1.toNat]?) [] fun f=>gb true (f[0]?) oF fun g=>gb true (Gx g) false fun h=>bif h then gb true (inB (a.length) a1) () fun r=>gb true (a[a1.toNat]?) [] fun r6=>gb true (r6[1]?) oF fun i=>gb true (pIw i) 0 fun d=>gb true (inB (a.length) a1) () fun s=>gb true (a[a1.toNat]?) [] fun j=>gb true (j[2]?) oF fun k=>gb true (pIw k) 0 fun e=>gb true (inB (b.length) a1) () fun t=>gb true (b[a1.toNat]?) [] fun l=>gb true (inB (a.length) a1) () fun u=>gb true (a[a1.toNat]?) [] fun m=>K (List.set b a1.toNat (List.set l 0 (D.bool true))) (List.set a a1.toNat (List.set (List.set (List.set m 0 (Q4 a1)) 1 (Q4 (if d<a2 then d else a2))) 2 (Q4 (if c<e then e else c)))) else gb true (inB (b.length) a1) () fun v=>gb true (b[a1.toNat]?) [] fun o=>gb true (inB (a.length) a1) () fun x=>gb true (a[a1.toNat]?) [] fun p=>K (List.set b a1.toNat (List.set o 0 (D.bool true))) (List.set a a1.toNat (List.set (List.set (List.set p 0 (Q4 a1)) 1 (Q4 a2)) 2 (Q4 c)))

def WB (n:Nat) (l o:Int) (e i:LL) (j b:Int) (p q f r c:LL) (k0:Int->Int->Bool->LL->LL->oP R):Nat->Int->Int->LL->LL->oP R
 | 0,_,_,_,_=>none
 | m+1,v,a,x,y=>bif (decide (a<(c.length:Int))) then jn (fun (t k:Int)=>gb true (Q1 c a) [] fun ad=>gb true (ad[0]?) oF fun ae=>gb true (pIw ae) 0 fun ag=>gb true (Zb n x y ag t k Tu2) ([],[]) fun d=>bif decide (a>0) then gb true (Q1 c (wJ (a-1))) [] fun z=>gb true (z[0]?) oF fun ah=>gb true (z[1]?) oF fun ai=>gb true (Q1 c a) [] fun aa=>gb true (aa[0]?) oF fun aj=>gb true (aa[1]?) oF fun ak=>gb true (pIw ah) 0 fun al=>gb true (pIw ai) 0 fun am=>gb true (pIw aj) 0 fun an=>gb true (pIw ak) 0 fun ao=>gb true (G4 n p q f r al am an ao Tu5) ((.bool false),(.bool false),(.bool false),(.bool false),false) fun u=>gb true (pIw u.2.2.1) 0 fun au=>bif decide (au>=0) then bif decide (a>b) then gb true (pIw u.2.2.1) 0 fun av=>gb true (Zb n d.1 d.2 (wJ ((f.length:Int)+av)) t k Tu2) ([],[]) fun ab=>WB n l o e i j b p q f r c k0 m k (wJ (a+1)) ab.1 ab.2 else gb true (pIw u.2.2.1) 0 fun aw=>gb true (Zb n d.1 d.2 (wJ ((f.length:Int)+aw)) t v Tu2) ([],[]) fun ac=>WB n l o e i j b p q f r c k0 m k (wJ (a+1)) ac.1 ac.2 else WB n l o e i j b p q f r c k0 m k (wJ (a+1)) d.1 d.2 else WB n l o e i j b p q f r c k0 m k (wJ (a+1)) d.1 d.2) fun s=>bif (a == 0) then gb true (Q1 i 0) [] fun ax=>gb true (ax[0]?) oF fun ay=>gb true (pIw ay) 0 fun az=>gb true (JI n az 1000 some) 0 fun ba=>s (wJ (0-l)) (wJ (ba+4)) else bif decide (a<b) then gb true (Q1 e (wJ (a-1))) [] fun bb=>gb true (bb[0]?) oF fun bc=>gb true (pIw bc) 0 fun bd=>gb true (J2 n bd 1000 some) 0 fun be=>gb true (Q1 i a) [] fun bg=>gb true (bg[0]?) oF fun bh=>gb true (pIw bh) 0 fun bi=>gb true (JI n bi 1000 some) 0 fun bj=>s (wJ (be-16)) (wJ (bj+4)) else bif (a == b) then gb true (Q1 e (wJ (b-1))) [] fun bk=>gb true (bk[0]?) oF fun bl=>gb true (pIw bl) 0 fun bm=>gb true (J2 n bm 1000 some) 0 fun bn=>s (wJ (bn-16)) (wJ (j+o)) else gb true (Q1 e b) [] fun bo=>gb true (bo[0]?) oF fun bp=>gb true (pIw bp) 0 fun bq=>gb true (J2 n bq 1000 some) 0 fun br=>s (wJ (br-16)) (wJ (j+20)) else k0 v a (decide (a<(c.length:Int))) x y
def Vt (n:Nat) (b:Int) (c d:LL) (k0:Int->Bool->LL->oP R):Nat->Int->LL->oP R
 | 0,_,_=>none
 | m+1,a,e=>bif decide (a<b) then gb true (inB (c.length) a) () fun o=>gb true (c[a.toNat]?) [] fun j=>gb true (j[0]?) oF fun k=>gb true (Gx k) false fun l=>bif l then gb true (inB (d.length) a) () fun p=>gb true (d[a.toNat]?) [] fun f=>gb true (f[0]?) oF fun g=>gb true (f[1]?) oF fun h=>gb true (f[2]?) oF fun i=>gb true (Ym ((e.length+[[g,h,i]].length)*24)) () fun q=>Vt n b c d k0 m (wJ (a+1)) (e++[[g,h,i]]) else Vt n b c d k0 m (wJ (a+1)) e else k0 a (decide (a<b)) e
def Ki (n:Nat) (f a b g h:LL) (j:Int) (k:List UInt8) (l m o p q r:Int) (K:LL->Int->Int->oP R):oP R:= gb true (SL n f a b g h j k l m o p some) 0 fun d=>bif (d != 0) then K [] 0 d else gb true (HU n q 0 65536 some) false fun e=>gb (!(!e)) (HU n r 0 65536 some) false fun i=>bif (bif !e then true else (!i)) then K [] 0 4 else gb true (PK n f a b g h j k l m o p Tu4) ([],[],0,0) fun c=>gb true (bif decide (0<=(wJ ((b.length:Int)+(a.length:Int))))&&decide ((wJ ((b.length:Int)+(a.length:Int)))<=(wJ ((b.length:Int)+(a.length:Int)))) then some () else none) () fun x=>gb true (Ym (Int.toNat (wJ ((b.length:Int)+(a.length:Int)))*1)) () fun y=>gb true (bif decide (0<=(wJ ((b.length:Int)+(a.length:Int))))&&decide ((wJ ((b.length:Int)+(a.length:Int)))<=(wJ ((b.length:Int)+(a.length:Int)))) then some () else none) () fun z=>gb true (Ym (Int.toNat (wJ ((b.length:Int)+(a.length:Int)))*24)) () fun u8=>WB n q r c.1 c.2.1 c.2.2.1 (wJ ((c.1.length:Int)-1)) f a b g h (fun ab ac ad t u=>Vt n (wJ ((b.length:Int)+(a.length:Int))) t u (fun ae ag v=>K v c.2.2.1 0) n 0 []) n 0 0 (List.replicate (Int.toNat (wJ ((b.length:Int)+(a.length:Int)))) [D.bool false]) (List.replicate (Int.toNat (wJ ((b.length:Int)+(a.length:Int)))) [Q4 0,Q4 0,Q4 0])

end Go.Vx
namespace Go.Vx
def cd (a b:Int):Int:=if 0<a % b then a / b+1 else a / b
theorem Q13 {a b:Int} (h0:0<=a) (h1:1<=b):a<=cd a b*b/\0<=cd a b/\cd a b<=a / b+1:=by
 have h2:=QjT a (show b≠0 by omega);have c:=QjS a (show 0<b by omega);have d:=Int.mul_ediv_add_emod a b;have e:0<=a / b:=Int.ediv_nonneg h0 (by omega);have f:b*(a / b)=a / b*b:=Int.mul_comm ..;have g:(a / b+1)*b=a / b*b+b:=by rw [Int.add_mul,Int.one_mul]
 unfold cd;split <;> refine ⟨?_,?_,?_⟩ <;> omega
theorem QeF {a b:Int} (h0:0<=a) (h1:1<=b) (ha:a<=1000000000):nz b=some ()/\(Int.tmod a b=a % b)/\wJ (Int.tdiv a b)=a / b/\wJ (a / b+1)=a / b+1:=by
 have c:0<=a / b:=Int.ediv_nonneg h0 (by omega);have d:a / b<=a:=Int.ediv_le_self _ h0;exact ⟨Ei (by omega),QjO h0,by rw [Int.tdiv_eq_ediv_of_nonneg h0,Q6 (by omega) (by omega)],Q6 (by omega) (by omega)⟩
section
variable {n:Nat} {a b:Int} (h0:0<=a) (h1:1<=b) (ha:a<=1000000000)
include h0 h1 ha
theorem QbU:Kg n a b Tu2=some (cd a b,0):=by
 obtain ⟨e1,e2,e,f⟩:=QeF h0 h1 ha;unfold Kg cd;rw [Q8 (by simpa using h1),e1,Q0,Q0,e2,e,f];by_cases h:0<a % b
 ·rw [QU (by simpa using h),if_pos h]
 ·rw [Q8 (by simpa using h),QjA h]
theorem Qck:JI n a b (some:Int->Option Int)=some (cd a b):=by
 obtain ⟨e1,e2,c,d⟩:=QeF h0 h1 ha;unfold JI cd;rw [e1,Q0,Q0,e2,c,d];by_cases h:0<a % b
 ·rw [QU (by simpa using h),if_pos h]
 ·rw [Q8 (by simpa using h),QjA h]
end
theorem upA {n:Nat} {a:Int} (h0:0<=a) (ha:a<=1000000000):G3 n a (some:Int->Option Int)=some (cd a 1000):=by
 unfold G3;rw [QbU h0 (by decide) ha,Q0]
theorem QbN {a:Int} (h0:0<=a) (ha:a<=1000000000):decide (Int.tmod a 1000<0)=false/\wJ (Int.tdiv a 1000)=a / 1000:=by
 rw [QjO h0,Int.tdiv_eq_ediv_of_nonneg h0];exact ⟨by simp;omega,Q6 (by omega) (by omega)⟩
theorem Qgj {n:Nat} {a:Int} (h0:0<=a) (ha:a<=1000000000):VH n a (some:Int->Option Int)=some (a / 1000):=by
 obtain ⟨e1,e2⟩:=QbN h0 ha;unfold VH PM;rw [Q8 (by decide),Ei (by decide),Q0,Q0,e1,Qjt,e2,Q0]
theorem Qfs {n:Nat} {a:Int} (h0:0<=a) (ha:a<=1000000000):J2 n a 1000 (some:Int->Option Int)=some (a / 1000):=by
 obtain ⟨e1,e2⟩:=QbN h0 ha;unfold J2;rw [Ei (by decide),Q0,Q0,e1,Qjt,e2]
def sq (x:Int):Int:=(Ss 400 x (some:Int->Option Int)).getD 0
theorem Q5R {x:Int} (h0:0<=x) (hx:x<=1000000000):QaR x (sq x)/\Ss 400 x (some:Int->Option Int)=some (sq x)/\Mi 400 x (some:Int->Option Int)=some (sq x):=by
 obtain ⟨r,h1,h2⟩:=QgP h0 hx;have e:sq x=r:=by unfold sq;rw [h2];rfl
 rw [e];exact ⟨h1,h2,Qgl h0 hx h1⟩
namespace Run
variable (X:Run)
def S (j:Nat):Int:=sq (X.K (X.N-j))
def T:Nat->Int
 |0=>0
 |b+1=>T b+cd 20000000 (X.S b+X.S (b+1))
variable {X} (h:X.OK)
include h
theorem QdW {j:Nat} (hj:j<=X.N):0<=X.S j/\X.S j<=25000/\(1<=j->j<X.N->1000<=X.S j):=by
 have h1:=Q4S h (X.N-j) (by omega);obtain ⟨⟨c,e,f⟩,_,_⟩:=Q5R (x:=X.K (X.N-j)) (by omega) (by omega);refine ⟨c,Q8P c (by decide) e (by omega),fun a b=>?_⟩;have h2:=h1.2.2 (by omega) (by omega);by_cases d:1000<=X.S j
 ·exact d
 ·have:=Q52 (show 0<=sq (X.K (X.N-j))+1 by omega) (show sq (X.K (X.N-j))+1<=1000 by unfold S at d;omega);omega
theorem Q2k {b:Nat} (hb:b<X.N):1000<=X.S b+X.S (b+1)/\X.S b+X.S (b+1)<=50000/\0<=cd 20000000 (X.S b+X.S (b+1))/\cd 20000000 (X.S b+X.S (b+1))<=20001:=by
 have h2:=h.h2;have a:=QdW h (j:=b) (by omega);have c:=QdW h (j:=b+1) (by omega);have hs:1000<=X.S b+X.S (b+1):=by
  by_cases f:b=0
  ·have:=c.2.2 (by omega) (by omega);omega
  ·have:=a.2.2 (by omega) (by omega);omega
 have d:=Q13 (show (0:Int)<=20000000 by decide) (show 1<=X.S b+X.S (b+1) by omega);have e:20000000 / (X.S b+X.S (b+1))<=20000:=Int.ediv_le_of_le_mul (by omega) (by omega);omega
theorem T_rng:∀ b:Nat,b<=X.N->0<=X.T b/\X.T b<=20001*b
 |0,_=>by rw [T];omega
 |b+1,hb=>by
  have:=T_rng b (by omega);have:=Q2k h (b:=b) (by omega);rw [T];omega
theorem T_mono {a:Nat}:∀ {b:Nat},a<=b->b<=X.N->X.T a<=X.T b
 |0,h1,_=>by rw [show a=0 by omega];omega
 |b+1,h1,h2=>by
  by_cases e:a=b+1
  ·subst e;omega
  ·have:=T_mono (a:=a) (b:=b) (by omega) (by omega);have:=Q2k h (b:=b) (by omega);rw [T];omega
def TT (X:Run):LL:=arr X.T (X.N+1)
theorem Qi7:GF 400 X.C (X.st:Int) X.nm (X.t:Int) X.sp X.ac X.br Tu2=some (arr X.S (X.N+1),0):=by
 have hN:=h.hN;have h2:=h.h2;have hl:=h.hC.len;have ak:Jx 400 X.C (X.st:Int) X.nm (X.t:Int) X.sp X.ac X.br (some:Int->Option Int)=some 0:=by
  unfold Jx;rw [BV h.hk,Q0,Q8 (by decide),Q8 (by simp;omega)];refine Qx (r:=fun m i=>Z6 400 X.C ((X.C.length:Nat):Int) _ _ m i) (N:=X.C.length) (fun m k hk=>?_) (fun m=>?_) X.C.length 400 0 (by omega) (by omega)
  ·have b0:=h.hC.b0 k hk;have b1:=h.hC.b1 k hk;have g0:=h.hC.g0 k hk;have g1:=h.hC.g1 k hk;rw [Z6,Q9 hk,Qa,h.hC.row k hk];simp -implicitDefEqProofs only [Q0,Qjs,Qju,Q2,XE,QA,cond_true,Qjt,QjE,QjG,show decide ((cl X.C k).1<1000)=false by simp;omega,show decide ((cl X.C k).1>100000)=false by simp;omega,show decide ((cl X.C k).2 < -40)=false by simp;omega,show decide ((cl X.C k).2>40)=false by simp;omega,Qu (show k<=1000 by omega)]
  ·rw [Z6,Ql,Qjt,Q6 (by omega) (by omega),show decide ((X.st:Int)<0)=false by simp,show decide ((X.st:Int)>((X.C.length:Nat):Int)-2)=false by simp;omega];rfl
 unfold GF;rw [ak,Q0,Q8 (by rfl),sqA h,Q0];have hW:X.W.length=X.N+1:=Zd;rw [hW];have:=Qx (r:=fun m i=>W0 400 ((X.N+1:Nat):Int) (fun _ _ d=>some (d,(0:Int))) m i (arr (fun j=>if j<i.toNat then X.S j else X.K (X.N-j)) (X.N+1))) (N:=X.N+1) (e:=some (arr X.S (X.N+1),0)) (fun m k hk=>?_) (fun m=>?_) (X.N+1) 400 0 (by omega) (by omega)
 ·rw [show arr (fun j=>if j<(((0:Nat):Int)).toNat then X.S j else X.K (X.N-j)) (X.N+1)=X.W from Y8 fun j hj=>QjA (by simp)] at this;exact this
 ·simp only [Int.toNat_natCast];have hK:=Q4S h (X.N-k) (by omega);rw [W0,Q9 hk,cond_true,Zd,Q87 hk,QjA (Nat.lt_irrefl k),(Q5R (by omega) (by omega)).2.1,Q0,Qal hk,Qu (by omega)];refine congrArg _ (Y8 fun j hj=>?_);by_cases aj:j=k
  ·subst aj;rw [if_pos rfl,if_pos (by omega)];rfl
  ·rw [QjA aj];by_cases a:j<k
   ·rw [if_pos a,if_pos (by omega)]
   ·rw [QjA a,QjA (by omega)]
 ·simp only [Int.toNat_natCast];rw [W0,Ql,Qjt];exact congrArg (fun l=>some (l,(0:Int))) (Y8 fun j hj=>if_pos hj)
theorem timA:JK 400 X.C (X.st:Int) X.nm (X.t:Int) X.sp X.ac X.br Tu2=some (X.TT,0):=by
 have hN:=h.hN;have hl:=h.hC.len;unfold JK;rw [Qi7 h,Q0,Q8 (by rfl),Zd,show (bif decide ((0:Int)<=((X.N+1:Nat):Int))&&decide (((X.N+1:Nat):Int)<=((X.N+1:Nat):Int)) then some () else none)=some () by rw [QU (by simp;omega)],Q0,Int.toNat_natCast,XS (by omega),Q0,CV];have:=Qx (r:=fun m i=>WZ 400 (arr X.S (X.N+1)) (fun _ _ g=>some (g,(0:Int))) m ((i.toNat+1:Nat):Int) (arr (fun j=>if j<=i.toNat then X.T j else 0) (X.N+1))) (N:=X.N) (e:=some (X.TT,0)) (fun m k hk=>?_) (fun m=>?_) X.N 400 0 (by omega) (by omega)
 ·rw [show arr (fun j=>if j<=(((0:Nat):Int)).toNat then X.T j else 0) (X.N+1)=arr (fun _=>0) (X.N+1) from Y8 fun j hj=>by
   split
   ·rename_i h0;have h0:j=0:=by simpa using h0
    rw [h0,T]
   ·rfl] at this
  exact this
 ·simp only [Int.toNat_natCast];have hi:=Q2k h hk;have hT:=T_rng h k (by omega);rw [WZ,Zd,Q9 (show k+1<X.N+1 by omega),cond_true,JE (show k+1<=1000 by omega) (by omega),show k+1-1=k by omega,Qa,Qa,Gm (show k<X.N+1 by omega),Gm (show k+1<X.N+1 by omega)];simp -implicitDefEqProofs only [Q0,Qjs,Q2,wI (a:=X.S k+X.S (k+1)) rfl (show -1000000<=X.S k+X.S (k+1) by omega) (show X.S k+X.S (k+1)<=1000000000 by omega),QbU (n:=400) (show (0:Int)<=20000000 by decide) (show 1<=X.S k+X.S (k+1) by omega) (by decide)];rw [Zd,Q87 (show k<X.N+1 by omega),if_pos (QjC k),Qal (show k+1<X.N+1 by omega),Qu (by omega),wI (a:=X.T k+cd 20000000 (X.S k+X.S (k+1))) (b:=X.T (k+1)) rfl (by rw [T];omega) (by rw [T];omega)];refine congrArg _ (Y8 fun j hj=>?_);by_cases aj:j=k+1
  ·subst aj;rw [if_pos rfl,if_pos (by omega)]
  ·rw [QjA aj];by_cases c:j<=k
   ·rw [if_pos c,if_pos (by omega)]
   ·rw [QjA c,QjA (by omega)]
 ·simp only [Int.toNat_natCast];rw [WZ,Zd,Ql,Qjt];exact congrArg (fun l=>some (l,(0:Int))) (Y8 fun j hj=>if_pos (by omega))
end Run
namespace Run
variable {X:Run} (h:X.OK)
include h
theorem QhT:CS 400 X.C (X.st:Int) X.nm (X.t:Int) X.sp X.ac X.br (some:Int->Option Int)=some 0:=by
 have hN:=h.hN;have h2:=h.h2;have hl:=h.hC.len;obtain ⟨t1,t2,s1,s2,a1,a2,b1,b2⟩:=h.hk;have aj:Yj 400 X.nm (X.t:Int) X.sp X.ac X.br (some:Bool->Option Bool)=some true:=by
  unfold Yj;simp -implicitDefEqProofs only [Q0,Qjs,Qju,Q2,XE,QA,cond_true,Qjt,QjE,QjG,Q4G t1 (show (X.t:Int)<=40 by omega),Q4G (show 1000<=X.sp by omega) (show X.sp<=100000 by omega),Q4G (show 100<=X.ac by omega) (show X.ac<=2000 by omega),Q4G (show 100<=X.br by omega) (show X.br<=2000 by omega)]
 unfold CS;rw [aj,Q0,Q8 (by decide),Q8 (by simp;omega)];refine Qx (r:=fun m i=>KF 400 X.C _ _ m i) (N:=X.C.length) (fun m k hk=>?_) (fun m=>?_) X.C.length 400 0 (by omega) (by omega)
 ·have b0:=h.hC.b0 k hk;have b1:=h.hC.b1 k hk;have g0:=h.hC.g0 k hk;have g1:=h.hC.g1 k hk;rw [KF,Q9 hk,Qa,h.hC.row k hk];simp -implicitDefEqProofs only [Q0,Qjs,Qju,Q2,XE,QA,cond_true,Qjt,QjE,QjG,Q4G (show 1000<=(cl X.C k).1 by omega) (show (cl X.C k).1<=100000 by omega),Q4G (show -40<=(cl X.C k).2 by omega) (show (cl X.C k).2<=40 by omega),Qu (show k<=1000 by omega)]
 ·rw [KF,Ql,Qjt,Q6 (by omega) (by omega),show decide ((X.st:Int)<0)=false by simp,show decide ((X.st:Int)>((X.C.length:Nat):Int)-2)=false by simp;omega];rfl
theorem Qia:Rp 400 X.C (X.st:Int) X.nm (X.t:Int) X.sp X.ac X.br Tu2=some (arr X.S (X.N+1),0):=by
 have hN:=h.hN;have h2:=h.h2;have hl:=h.hC.len;have t2:=h.hk.t2;have hw:wJ (((X.C.length:Nat):Int)-(X.st:Int))=((X.N:Nat):Int):=by rw [Q6 (by omega) (by omega)];omega
 unfold Rp;rw [QhT h,Q0,Q8 (by rfl),hw,Qu (by omega),show (bif decide ((0:Int)<=((X.N+1:Nat):Int))&&decide (((X.N+1:Nat):Int)<=((X.N+1:Nat):Int)) then some () else none)=some () by rw [QU (by simp;omega)],Q0,Int.toNat_natCast,XS (by omega),Q0,CV];have e1:∀ k0:Int->Bool->LL->Option (LL × Int),UX 400 X.C (X.st:Int) ((X.N:Nat):Int) X.nm (X.t:Int) X.sp X.ac X.br k0 400 (1:Int) (arr (fun _=>0) (X.N+1))=k0 ((X.N:Nat):Int) false (arr (fun j=>if 1<=j/\j<=X.N-1 then X.V j else 0) (X.N+1)):=by
  intro k0;have:=Qx (r:=fun m i=>UX 400 X.C (X.st:Int) ((X.N:Nat):Int) X.nm (X.t:Int) X.sp X.ac X.br k0 m ((i.toNat+1:Nat):Int) (arr (fun j=>if 1<=j/\j<=i.toNat then X.V j else 0) (X.N+1))) (N:=X.N-1) (e:=k0 ((X.N:Nat):Int) false (arr (fun j=>if 1<=j/\j<=X.N-1 then X.V j else 0) (X.N+1))) (fun m i hi=>?_) (fun m=>?_) (X.N-1) 400 0 (by omega) (by omega)
  ·rw [show arr (fun j=>if 1<=j/\j<=(((0:Nat):Int)).toNat then X.V j else 0) (X.N+1)=arr (fun _=>0) (X.N+1) from Y8 fun j hj=>QjA (by simp;omega)] at this;exact this
  ·simp only [Int.toNat_natCast];have aw:=Qa5 h (b:=i+1) (by omega);have hV:=QcU h (b:=i+1) (by omega);rw [UX,Q9 (show i+1<X.N by omega),cond_true,wI (show (X.st:Int)+((i+1:Nat):Int)=((X.st+(i+1):Nat):Int) by omega) (by omega) (by omega),wI (show ((X.st+(i+1):Nat):Int)-1=((X.st+i:Nat):Int) by omega) (by omega) (by omega),Qhz h.hC (by omega) (by omega),Q0,Qhz h.hC (by omega) (by omega),Q0,Zd,Qal (by omega),Qu (by omega)];refine congrArg _ (Y8 fun j hj=>?_);have e1:(if Q7u X.C X.sp (X.st+(i+1)) X.t<Q7u X.C X.sp (X.st+i) X.t then Q7u X.C X.sp (X.st+(i+1)) X.t else Q7u X.C X.sp (X.st+i) X.t)=X.lo (i+1):=rfl;by_cases aj:j=i+1
   ·subst aj;rw [if_pos rfl,e1,wI (a:=X.lo (i+1)*X.lo (i+1)) (b:=X.V (i+1)) rfl (by omega) (by omega),if_pos (by omega)]
   ·rw [QjA aj];by_cases d:1<=j/\j<=i
    ·rw [if_pos d,if_pos (by omega)]
    ·rw [QjA d,QjA (by omega)]
  ·simp only [Int.toNat_natCast];rw [show X.N-1+1=X.N by omega,UX,Ql,Qjt]
 rw [e1];have e2:∀ k0:Int->Bool->LL->Option (LL × Int),V2 400 X.C (X.st:Int) ((X.N:Nat):Int) X.nm (X.t:Int) X.sp X.ac X.br k0 400 (0:Int) (arr (fun j=>if 1<=j/\j<=X.N-1 then X.V j else 0) (X.N+1))=k0 ((X.N:Nat):Int) false (arr (fun j=>if j<=X.N-1 then X.F j else 0) (X.N+1)):=by
  intro k0;have:=Qx (r:=fun m i=>V2 400 X.C (X.st:Int) ((X.N:Nat):Int) X.nm (X.t:Int) X.sp X.ac X.br k0 m i (arr (fun j=>if j<=X.N-1 then (if j<=i.toNat then X.F j else X.V j) else 0) (X.N+1))) (N:=X.N) (e:=k0 ((X.N:Nat):Int) false (arr (fun j=>if j<=X.N-1 then X.F j else 0) (X.N+1))) (fun m i hi=>?_) (fun m=>?_) X.N 400 0 (by omega) (by omega)
  ·rw [show arr (fun j=>if j<=X.N-1 then (if j<=(((0:Nat):Int)).toNat then X.F j else X.V j) else 0) (X.N+1)=arr (fun j=>if 1<=j/\j<=X.N-1 then X.V j else 0) (X.N+1) from Y8 fun j hj=>by
    by_cases q:j=0
    ·subst q;rw [if_pos (by omega),if_pos (by simp),QjA (by omega),F]
    ·by_cases c:j<=X.N-1
     ·rw [if_pos c,QjA (by simp;omega),if_pos (by omega)]
     ·rw [QjA c,QjA (by omega)]] at this
   exact this
  ·simp only [Int.toNat_natCast];have f:=h.hC.g0 (X.st+i) (by omega);have g:=h.hC.g1 (X.st+i) (by omega);have hr:=row h (b:=i) (by omega);have hF:=QaH h i (by omega);have hG:=Qci h (b:=i) (by omega);have ha:=Q5e h.hk.a1 h.hk.a2 f g;rw [V2,Q9 hi,cond_true,Qu (by omega),Zd,Q87 (show i+1<X.N+1 by omega),Q87 (show i<X.N+1 by omega),wI (show (X.st:Int)+(i:Int)=((X.st+i:Nat):Int) by omega) (by omega) (by omega),Qa,hr];simp -implicitDefEqProofs only [Q0,Qjs,Qju,Q2,XE,QA,cond_true,Qjt,QjE,QjG,QdR h.hk.a1 h.hk.a2 f g];rw [Qal (show i+1<X.N+1 by omega),if_pos (show i<=X.N-1 by omega),if_pos (QjC i),QjA (show ¬ i+1<=i by omega),wI (a:=20000*acc X.ac (cl X.C (X.st+i)).2) (b:=X.G i) rfl (by omega) (by omega),wI (a:=X.F i+X.G i) (b:=X.F i+X.G i) rfl (by omega) (by omega)];refine congrArg _ (Y8 fun j hj=>?_);by_cases aj:j=i+1
   ·subst aj;rw [if_pos rfl];by_cases n:i+1<=X.N-1
    ·rw [if_pos n,if_pos n,if_pos (QjC (i+1)),F]
    ·rw [QjA n,QjA (show ¬ X.F i+X.G i<0 by omega),QjA n]
   ·rw [QjA aj];by_cases c:j<=X.N-1
    ·rw [if_pos c,if_pos c];by_cases d:j<=i
     ·rw [if_pos d,if_pos (by omega)]
     ·rw [QjA d,QjA (by omega)]
    ·rw [QjA c,QjA c]
  ·simp only [Int.toNat_natCast];rw [V2,Ql,Qjt];refine congrArg _ (Y8 fun j hj=>?_);by_cases c:j<=X.N-1
   ·rw [if_pos c,if_pos c,if_pos (by omega)]
   ·rw [QjA c,QjA c]
 rw [e2];have s:∀ k0:Int->Bool->LL->Option (LL × Int),V5 400 X.C (X.st:Int) X.nm (X.t:Int) X.sp X.ac X.br k0 400 ((X.N:Nat):Int) (arr (fun j=>if j<=X.N-1 then X.F j else 0) (X.N+1))=k0 0 false X.W:=by
  intro k0;have:=Qx (r:=fun m i=>V5 400 X.C (X.st:Int) X.nm (X.t:Int) X.sp X.ac X.br k0 m ((X.N-i.toNat:Nat):Int) (arr (fun j=>if X.N-j<=i.toNat then X.K (X.N-j) else X.F j) (X.N+1))) (N:=X.N) (e:=k0 0 false X.W) (fun m i hi=>?_) (fun m=>?_) X.N 400 0 (by omega) (by omega)
  ·rw [show arr (fun j=>if X.N-j<=(((0:Nat):Int)).toNat then X.K (X.N-j) else X.F j) (X.N+1)=arr (fun j=>if j<=X.N-1 then X.F j else 0) (X.N+1) from Y8 fun j hj=>by
    by_cases ao:j=X.N
    ·subst ao;rw [if_pos (by simp),QjA (by omega),Nat.sub_self,K]
    ·rw [QjA (by simp;omega),if_pos (by omega)]] at this
   exact this
  ·simp only [Int.toNat_natCast];obtain ⟨b,hb⟩:∃ b,b+1=X.N-i:=⟨X.N-i-1,by omega⟩;have f:=h.hC.g0 (X.st+b) (by omega);have g:=h.hC.g1 (X.st+b) (by omega);have hr:=row h (b:=b) (by omega);have hK:=Q4S h i (by omega);have hL:=Qbl h (b:=b) (by omega);have au:=Q5j h.hk.b1 h.hk.b2 f g;rw [<- hb,V5,QU (by simp),JE (show b+1<=1000 by omega) (by omega),QjB,Zd,Q87 (show b<X.N+1 by omega),Q87 (show b+1<X.N+1 by omega),wI (show (X.st:Int)+((b+1:Nat):Int)=((X.st+b+1:Nat):Int) by omega) (by omega) (by omega),JE (show X.st+b+1<=1000 by omega) (by omega),QjB,Qa,hr];simp -implicitDefEqProofs only [Q0,Qjs,Qju,Q2,XE,QA,cond_true,Qjt,QjE,QjG,Qfj h.hk.b1 h.hk.b2 f g];rw [Qal (show b<X.N+1 by omega),show X.N-(i+1)=b by omega,QjA (show ¬ X.N-b<=i by omega),if_pos (show X.N-(b+1)<=i by omega),show X.N-(b+1)=i by omega,wI (a:=20000*brk X.br (cl X.C (X.st+b)).2) (b:=X.L b) rfl (by omega) (by omega),wI (a:=X.K i+X.L b) (b:=X.K i+X.L b) rfl (by omega) (by omega)];refine congrArg _ (Y8 fun j hj=>?_);by_cases ak:j=b
   ·subst ak;rw [if_pos rfl,if_pos (show X.N-j<=i+1 by omega),show X.N-j=i+1 by omega,K,show X.N-(i+1)=j by omega]
   ·rw [QjA ak];by_cases d:X.N-j<=i
    ·rw [if_pos d,if_pos (by omega)]
    ·rw [QjA d,QjA (by omega)]
  ·simp only [Int.toNat_natCast];rw [Nat.sub_self,V5,Q8 (by decide)];refine congrArg _ (Y8 fun j hj=>if_pos (by omega))
 rw [s];have:=Qx (r:=fun m i=>VV 400 ((X.N:Nat):Int) (fun _ _ t=>some (t,(0:Int))) m i (arr (fun j=>if j<i.toNat then X.S j else X.K (X.N-j)) (X.N+1))) (N:=X.N+1) (e:=some (arr X.S (X.N+1),0)) (fun m k hk=>?_) (fun m=>?_) (X.N+1) 400 0 (by omega) (by omega)
 ·rw [show arr (fun j=>if j<(((0:Nat):Int)).toNat then X.S j else X.K (X.N-j)) (X.N+1)=X.W from Y8 fun j hj=>QjA (by simp)] at this;exact this
 ·simp only [Int.toNat_natCast];have hK:=Q4S h (X.N-k) (by omega);rw [VV,QU (by simp;omega),Zd,Q87 hk,QjA (Nat.lt_irrefl k),(Q5R (by omega) (by omega)).2.2,Q0,Qal hk,Qu (by omega)];refine congrArg _ (Y8 fun j hj=>?_);by_cases al:j=k
  ·subst al;rw [if_pos rfl,if_pos (by omega)];rfl
  ·rw [QjA al];by_cases d:j<k
   ·rw [if_pos d,if_pos (by omega)]
   ·rw [QjA d,QjA (by omega)]
 ·simp only [Int.toNat_natCast];rw [VV,Q8 (by simp;omega)];exact congrArg (fun l=>some (l,(0:Int))) (Y8 fun j hj=>if_pos hj)
theorem timB:S7 400 X.C (X.st:Int) X.nm (X.t:Int) X.sp X.ac X.br Tu2=some (X.TT,0):=by
 have hN:=h.hN;have hl:=h.hC.len;unfold S7;rw [Qia h,Q0,Q8 (by rfl),Zd,show (bif decide ((0:Int)<=((X.N+1:Nat):Int))&&decide (((X.N+1:Nat):Int)<=((X.N+1:Nat):Int)) then some () else none)=some () by rw [QU (by simp;omega)],Q0,Int.toNat_natCast,XS (by omega),Q0,CV];have:=Qx (r:=fun m i=>Js 400 (arr X.S (X.N+1)) (fun _ _ o=>some (o,(0:Int))) m ((i.toNat+1:Nat):Int) (arr (fun j=>if j<=i.toNat then X.T j else 0) (X.N+1))) (N:=X.N) (e:=some (X.TT,0)) (fun m k hk=>?_) (fun m=>?_) X.N 400 0 (by omega) (by omega)
 ·rw [show arr (fun j=>if j<=(((0:Nat):Int)).toNat then X.T j else 0) (X.N+1)=arr (fun _=>0) (X.N+1) from Y8 fun j hj=>by
   split
   ·rename_i c;have c:j=0:=by simpa using c
    rw [c,T]
   ·rfl] at this
  exact this
 ·simp only [Int.toNat_natCast];have hi:=Q2k h hk;have hT:=T_rng h k (by omega);rw [Js,Zd,Q9 (show k+1<X.N+1 by omega),cond_true,JE (show k+1<=1000 by omega) (by omega),show k+1-1=k by omega,Zd,Q87 (show k<X.N+1 by omega),if_pos (QjC k),Qa,Qa,Gm (show k<X.N+1 by omega),Gm (show k+1<X.N+1 by omega)];simp -implicitDefEqProofs only [Q0,Qjs,Q2,wI (a:=X.S k+X.S (k+1)) rfl (show -1000000<=X.S k+X.S (k+1) by omega) (show X.S k+X.S (k+1)<=1000000000 by omega),Qck (n:=400) (show (0:Int)<=20000000 by decide) (show 1<=X.S k+X.S (k+1) by omega) (by decide)];rw [Qal (show k+1<X.N+1 by omega),Qu (by omega),wI (a:=X.T k+cd 20000000 (X.S k+X.S (k+1))) (b:=X.T (k+1)) rfl (by rw [T];omega) (by rw [T];omega)];refine congrArg _ (Y8 fun j hj=>?_);by_cases aj:j=k+1
  ·subst aj;rw [if_pos rfl,if_pos (by omega)]
  ·rw [QjA aj];by_cases d:j<=k
   ·rw [if_pos d,if_pos (by omega)]
   ·rw [QjA d,QjA (by omega)]
 ·simp only [Int.toNat_natCast];rw [Js,Zd,Ql,Qjt];exact congrArg (fun l=>some (l,(0:Int))) (Y8 fun j hj=>if_pos (by omega))
end Run

def sl (Se s:LL) (j:Nat):Nat:=(SA Se (s.getD j [])).length
def pos (Se s:LL):Nat->Nat
 |0=>0
 |j+1=>pos Se s j+sl Se s (j+1)
theorem RL {f:Nat->Int} {n:Nat}:arr f n++[[Q4 (f n)]]=arr f (n+1):=by simp [arr,List.range_succ]
section
variable {Se s:LL} (hs:∀ r∈s,Co Se r)
include hs
theorem Ed {j:Nat} (hj:j<s.length):∃ (x d:Int) (nm:List UInt8) (b c st:Int),s[j]? = some [Q4 x,Q4 d]/\Q1 Se x=some [D.str nm,Q4 (sl Se s j),Q4 b,Q4 c,Q4 st]/\2<=sl Se s j/\sl Se s j<=12/\(d=0\/d=1):=by
 obtain ⟨x,d,nm,a,b,c,st,e,f,h2,g⟩:=hs _ (List.getElem_mem hj);have a0:=h2.a0;have a1:=h2.a1;have e2:s[j]? = some [Q4 x,Q4 d]:=by rw [Qjz hj,e]
 have h:sl Se s j=a.toNat:=by
  unfold sl;rw [Qjy,e2];show (SA Se [Q4 x,Q4 d]).length=_;rw [HE f,List.length_replicate]
 refine ⟨x,d,nm,b,c,st,e2,?_,by omega,by omega,g⟩;rw [f,h,show ((a.toNat:Nat):Int)=a by omega]
omit hs in
theorem Q3p:∀ {j:Nat},j<s.length->(YC Se (s.take (j+1))).length=sl Se s 0+pos Se s j
 |0,hj=>by
  rw [MA (Qjz hj)];simp only [List.take_zero,YC,List.flatMap_nil,List.nil_append,pos,sl,Qjy,Qjz hj,QjJ];omega
 |j+1,hj=>by
  have:=Q3p (j:=j) (by omega);rw [MA (Qjz hj),QjM,this,pos];simp only [sl,Qjy,Qjz hj,QjJ];omega
omit hs in
theorem Q8V {i j:Nat} (a:i<=j):pos Se s i<=pos Se s j:=by
 induction j with
 |zero=>rw [show i=0 by omega];omega
 |succ j ih=>
  by_cases e:i=j+1
  ·subst e;omega
  ·have:=ih (by omega);rw [pos];omega
theorem Q6f {i j:Nat} (a:i<j) (h2:j<s.length):pos Se s i+2<=pos Se s j:=by
 obtain ⟨_,_,_,_,_,_,_,_,b,_⟩:=Ed hs (j:=i+1) (by omega);have:=Q8V (Se:=Se) (s:=s) (i:=i+1) (j:=j) (by omega);rw [pos] at this;omega
end
def ZM (Se s:LL) (nm:List UInt8) (tl sp ac br:Int):Run:=⟨YC Se s,nm,sp,ac,br,tl.toNat,sl Se s 0,pos Se s (s.length-1)⟩
section
variable {St Pt Se Li s:LL} (h:RtF St Pt Se Li s) {nm:List UInt8} {tl sp ac br:Int} (hk:StkN tl sp ac br)
include h
theorem BI:TC Se s=(sl Se s 0:Int):=by
 have l2:=h.l2;obtain ⟨x,d,_,b,c,st,e,a,_⟩:=Ed h.st (j:=0) (by omega);cases s with
 |nil=>cases e
 |cons r t=>
  injection e with e
  subst e;simp only [TC,a]
include hk
theorem MC:(ZM Se s nm tl sp ac br).OK where
 hC:=Q8p h.st h.l24
 hk:=by
  have:=hk.t1;show StkN ((tl.toNat:Nat):Int) sp ac br;rw [show ((tl.toNat:Nat):Int)=tl by omega];exact hk
 hN:=by
  have l2:=h.l2;have:=Q3p (Se:=Se) (s:=s) (j:=s.length-1) (by omega);rw [show s.length-1+1=s.length by omega,QjP] at this;exact this
 h2:=by
  have l2:=h.l2;have:=Q6f h.st (i:=0) (j:=s.length-1) (by omega) (by omega);show 2<=pos Se s (s.length-1);omega
end

section
variable {St Pt Se Li s:LL} (h:RtF St Pt Se Li s) {nm:List UInt8} {tl sp ac br:Int} (hk:StkN tl sp ac br)
def fEN (Se s:LL) (X:Run) (j:Nat):Int:=X.T (pos Se s (j-1))
def fLV (Se s:LL) (X:Run) (j:Nat):Int:=if j<s.length-1 then X.T (pos Se s j+X.t) else X.T X.N
def Q2M (X:Run):Int:=cd (X.T X.N) 1000
include h hk
theorem tEq:(((ZM Se s nm tl sp ac br).t:Nat):Int)=tl:=by
 have _:=h.l2;have:=hk.t1;show ((tl.toNat:Nat):Int)=tl;omega
theorem QcT:JK 400 (YC Se s) (sl Se s 0:Int) nm tl sp ac br Tu2=some ((ZM Se s nm tl sp ac br).TT,0):=by
 have:=Run.timA (MC h (nm:=nm) hk);rw [tEq h hk] at this;exact this
theorem Qcs:S7 400 (YC Se s) (sl Se s 0:Int) nm tl sp ac br Tu2=some ((ZM Se s nm tl sp ac br).TT,0):=by
 have:=Run.timB (MC h (nm:=nm) hk);rw [tEq h hk] at this;exact this
theorem Q0Q {b:Nat} (hb:b<=(ZM Se s nm tl sp ac br).N):0<=(ZM Se s nm tl sp ac br).T b/\(ZM Se s nm tl sp ac br).T b<=7000000:=by
 have hX:=MC h (nm:=nm) hk;have a:=Run.T_rng hX b hb;have:=hX.hN;have:=hX.hC.len;omega
theorem Fk:0<=Q2M (ZM Se s nm tl sp ac br)/\Q2M (ZM Se s nm tl sp ac br)<=7001:=by
 have a:=Q0Q h (nm:=nm) hk (QjC _);have:=Q13 a.1 (show (1:Int)<=1000 by decide);unfold Q2M;omega
theorem Qdd {j:Nat} (hj:j<s.length):pos Se s j<=(ZM Se s nm tl sp ac br).N/\(j<s.length-1->pos Se s j+(ZM Se s nm tl sp ac br).t<=(ZM Se s nm tl sp ac br).N):=by
 have a:=Q8V (Se:=Se) (s:=s) (i:=j) (j:=s.length-1) (by omega);have h2:=tEq h (nm:=nm) hk;have:=hk.t2;refine ⟨a,fun b=>?_⟩;have:=Q6f h.st (i:=j) (j:=s.length-1) b (by omega);show pos Se s j+_<=pos Se s (s.length-1);omega
theorem Qe6:Hj 400 St Pt Se Li s 0 nm tl sp ac br Tu4=some (arr (fEN Se s (ZM Se s nm tl sp ac br)) s.length,arr (fLV Se s (ZM Se s nm tl sp ac br)) s.length,Q2M (ZM Se s nm tl sp ac br),0):=by
 have l2:=h.l2;have l24:=h.l24;have ht:=tEq h (nm:=nm) hk;have hX:=MC h (nm:=nm) hk;have ar:=hX.hN;have aq:=hX.hC.len;have an:=QcT h (nm:=nm) hk;have ak:=fun (j:Nat) (hj:j<s.length)=>Qdd h (nm:=nm) hk hj
 have al:=Q0Q h (nm:=nm) hk (QjC _);have hN:(ZM Se s nm tl sp ac br).N=pos Se s (s.length-1):=rfl;unfold Hj;rw [QhF h.lay rfl h.l2 h.l24 h.rt h.st hk,Q0,Q8 (by rfl),BI h,an,Q0,Q0O h.l24,Q0];revert hX ar aq ak al hN ht;generalize ZM Se s nm tl sp ac br=X;intro ht hX ar aq ak al hN;have p:∀ k0:Int->Int->Bool->LL->LL->Option (LL × LL × Int × Int),Yd 400 X.TT s s ((s.length:Nat):Int) Se tl k0 400 0 0 [] []=k0 ((pos Se s (s.length-1):Nat):Int) ((s.length:Nat):Int) false (arr (fEN Se s X) s.length) (arr (fLV Se s X) (s.length-1)):=by
  intro k0;refine Qx (r:=fun m i=>Yd 400 X.TT s s ((s.length:Nat):Int) Se tl k0 m ((pos Se s (i.toNat-1):Nat):Int) i (arr (fEN Se s X) i.toNat) (arr (fLV Se s X) (min i.toNat (s.length-1)))) (N:=s.length) (fun m i hi=>?_) (fun m=>?_) s.length 400 0 (by omega) (by omega)
  ·simp only [Int.toNat_natCast];obtain ⟨x,d,a2,b,c,st,e,q,a0,a1,hd⟩:=Ed h.st hi;have hp:=ak (i-1) (by omega);have f:=ak i hi;rw [Yd,Q9 hi,cond_true,Qa,e];have hT:Q1 X.TT ((pos Se s (i-1):Nat):Int)=some [Q4 (fEN Se s X i)]:=by rw [Qa];exact Gm (by omega)
   have hr:Ym (((arr (fEN Se s X) i).length+List.length [[D.int .i64 (fEN Se s X i)]])*8)=some ():=XS (by simp only [Zd,QjI,QjH];omega);simp -implicitDefEqProofs only [Q0,Qjs,Qju,Q2,hT,hr,RL,wI (show (i:Int)+1=((i+1:Nat):Int) by omega) (by omega) (by omega),wI (show ((s.length:Nat):Int)-1=((s.length-1:Nat):Int) by omega) (by omega) (by omega)];have au:i<s.length-1->Q1 X.TT ((pos Se s i+X.t:Nat):Int)=some [Q4 (fLV Se s X i)]:=fun aj=>by
    have:=f.2 aj;rw [Qa];show (arr X.T (X.N+1))[pos Se s i+X.t]? = _;rw [Gm (by omega)];unfold fLV;rw [if_pos aj]
   have a:∀ k,k<=30->Ym (((arr (fLV Se s X) k).length+List.length [[D.int .i64 (fLV Se s X k)]])*8)=some ():=fun k hk=>XS (by simp only [Zd,QjI,QjH];omega)
   by_cases t:i=0
   ·subst t;have ao:0<s.length-1:=by omega
    have:=au ao;rw [show decide (((0:Nat):Int)>0)=false from rfl,Qjt,Q9 ao,cond_true,wI (show ((pos Se s (0-1):Nat):Int)+tl=((pos Se s 0+X.t:Nat):Int) by rw [<- ht,show 0-1=0 from rfl];omega) (by omega) (by omega),this,Nat.min_eq_left (by omega),Nat.min_eq_left (by omega)];simp -implicitDefEqProofs only [Q0,Qjs,Q2,a 0 (by omega),RL]
   ·have az:pos Se s i=pos Se s (i-1)+sl Se s i:=by
     obtain ⟨k,rfl⟩:∃ k,i=k+1:=⟨i-1,by omega⟩;rfl
    rw [show decide ((i:Int)>0)=true by simp;omega,cond_true,q];simp -implicitDefEqProofs only [Q0,Qjs,Qju,Q2,wI (show ((pos Se s (i-1):Nat):Int)+((sl Se s i:Nat):Int)=((pos Se s i:Nat):Int) by omega) (by omega) (by omega),QjB];by_cases aj:i<s.length-1
    ·rw [Q9 aj,cond_true,wI (show ((pos Se s i:Nat):Int)+tl=((pos Se s i+X.t:Nat):Int) by omega) (by have:=f.2 aj;omega) (by have:=f.2 aj;omega),au aj,Nat.min_eq_left (by omega),Nat.min_eq_left (by omega)];simp -implicitDefEqProofs only [Q0,Qjs,Q2,a i (by omega),RL]
    ·rw [show decide ((i:Int)<((s.length-1:Nat):Int))=false by simp;omega,Qjt,Nat.min_eq_right (by omega),Nat.min_eq_right (by omega)]
  ·simp only [Int.toNat_natCast];rw [Yd,Ql,Qjt,Nat.min_eq_right (by omega)]
 rw [p];have hT:Q1 X.TT ((pos Se s (s.length-1):Nat):Int)=some [Q4 (fLV Se s X (s.length-1))]:=by
  rw [Qa];show (arr X.T (X.N+1))[pos Se s (s.length-1)]? = _;rw [Gm (by omega)];unfold fLV;rw [QjA (by omega),hN]
 have hl:fLV Se s X (s.length-1)=X.T X.N:=by unfold fLV;rw [QjA (by omega)]
 have a:Ym (((arr (fLV Se s X) (s.length-1)).length+List.length [[D.int .i64 (fLV Se s X (s.length-1))]])*8)=some ():=XS (by simp only [Zd,QjI,QjH];omega);simp -implicitDefEqProofs only [hT,Q0,Qjs,Q2,a,RL];rw [hl,upA al.1 (by omega),Q0,show s.length-1+1=s.length by omega];rfl
theorem Qgw:PK 400 St Pt Se Li s 0 nm tl sp ac br Tu4=some (arr (fEN Se s (ZM Se s nm tl sp ac br)) s.length,arr (fLV Se s (ZM Se s nm tl sp ac br)) s.length,Q2M (ZM Se s nm tl sp ac br),0):=by
 have l2:=h.l2;have l24:=h.l24;have ht:=tEq h (nm:=nm) hk;have t1:=hk.t1;have hX:=MC h (nm:=nm) hk;have ar:=hX.hN;have aq:=hX.hC.len;have ao:=Qcs h (nm:=nm) hk;have aj:=fun (j:Nat) (hj:j<s.length)=>Qdd h (nm:=nm) hk hj
 have al:=Q0Q h (nm:=nm) hk (QjC _);have hN:(ZM Se s nm tl sp ac br).N=pos Se s (s.length-1):=rfl;unfold PK;rw [Q9w h hk,Q0,Q8 (by rfl),Q9c h,Q0,BI h,ao,Q0];revert hX ar aq aj al hN ht;generalize ZM Se s nm tl sp ac br=X;intro ht hX ar aq aj al hN;have ak:X.TT.length=X.N+1:=Zd;have hw:wJ (((s.length:Nat):Int)-0)=((s.length:Nat):Int):=by rw [Q6 (by omega) (by omega)];omega
 have p:∀ k0:Int->Int->Bool->LL->LL->Option (LL × LL × Int × Int),ZJ 400 X.TT Se s 0 tl k0 400 0 0 [] []=k0 ((pos Se s (s.length-1):Nat):Int) ((s.length:Nat):Int) false (arr (fEN Se s X) s.length) (arr (fLV Se s X) s.length):=by
  intro k0;refine Qx (r:=fun m i=>ZJ 400 X.TT Se s 0 tl k0 m ((pos Se s (i.toNat-1):Nat):Int) i (arr (fEN Se s X) i.toNat) (arr (fLV Se s X) i.toNat)) (N:=s.length) (fun m i hi=>?_) (fun m=>?_) s.length 400 0 (by omega) (by omega)
  ·simp only [Int.toNat_natCast];obtain ⟨x,d,a2,b,c,st,e,q,a0,a1,hd⟩:=Ed h.st hi;have hp:=aj (i-1) (by omega);have t:=aj i hi;have hT:Q1 X.TT ((pos Se s (i-1):Nat):Int)=some [Q4 (fEN Se s X i)]:=by rw [Qa];exact Gm (by omega)
   have hr:Ym (((arr (fEN Se s X) i).length+List.length [[D.int .i64 (fEN Se s X i)]])*8)=some ():=XS (by simp only [Zd,QjI,QjH];omega);have a:Ym (((arr (fLV Se s X) i).length+List.length [[D.int .i64 (fLV Se s X i)]])*8)=some ():=XS (by simp only [Zd,QjI,QjH];omega);have au:Q1 X.TT (if ((X.N:Nat):Int)<((pos Se s i+X.t:Nat):Int) then ((X.N:Nat):Int) else ((pos Se s i+X.t:Nat):Int))=some [Q4 (fLV Se s X i)]:=by
    unfold fLV;by_cases an:i<s.length-1
    ·have:=t.2 an;rw [QjA (by omega),if_pos an,Qa];exact Gm (by omega)
    ·have e:i=s.length-1:=by omega
     rw [if_pos (by rw [hN,e];omega),QjA an,Qa];exact Gm (by omega)
   rw [ZJ,hw,Q9 hi,cond_true,ak,wI (show ((X.N+1:Nat):Int)-1=((X.N:Nat):Int) by omega) (by omega) (by omega)];simp -implicitDefEqProofs only [Q0,Qjs,Qju,Q2,hT,hr,RL,wI (show (i:Int)+1=((i+1:Nat):Int) by omega) (by omega) (by omega)];by_cases u:i=0
   ·subst u;rw [show decide (((0:Nat):Int)>0)=false from rfl,Qjt,wI (show ((pos Se s (0-1):Nat):Int)+tl=((pos Se s 0+X.t:Nat):Int) by rw [<- ht,show 0-1=0 from rfl];omega) (by omega) (by omega),au];simp -implicitDefEqProofs only [Q0,Qjs,Q2,a,RL]
   ·have az:pos Se s i=pos Se s (i-1)+sl Se s i:=by
     obtain ⟨k,rfl⟩:∃ k,i=k+1:=⟨i-1,by omega⟩;rfl
    rw [show decide ((i:Int)>0)=true by simp;omega,cond_true,Qa,e];simp -implicitDefEqProofs only [Q0,Qjs,Qju,Q2,q,wI (show ((pos Se s (i-1):Nat):Int)+((sl Se s i:Nat):Int)=((pos Se s i:Nat):Int) by omega) (by omega) (by omega),wI (show ((pos Se s i:Nat):Int)+tl=((pos Se s i+X.t:Nat):Int) by omega) (by omega) (by omega),au,a,RL,QjB]
  ·simp only [Int.toNat_natCast];rw [ZJ,hw,Ql,Qjt]
 have hT:Q1 X.TT ((X.N:Nat):Int)=some [Q4 (X.T X.N)]:=by rw [Qa];exact Gm (by omega)
 rw [p,ak,wI (show ((X.N+1:Nat):Int)-1=((X.N:Nat):Int) by omega) (by omega) (by omega)];simp -implicitDefEqProofs only [hT,Q0,Qjs,Q2,Qck (n:=400) al.1 (show (1:Int)<=1000 by decide) (by omega)];rfl
end

abbrev Occ:=Int × Int × Int
def enc (q:Occ):List D:=[Q4 q.1,Q4 q.2.1,Q4 q.2.2]
def Sv (q:Occ):Bool:=decide (q.2.1<q.2.2)
def C0 (T:List Occ) (r:Nat) (f t:Int):List Occ:=match T[r]? with
 |some (_,a,b)=>if a<b then T.set r ((r:Int),(if a<f then a else f),(if t<b then b else t)) else T.set r ((r:Int),f,t)
 |none=>T
theorem ME {T:List Occ} {r:Nat} {f t:Int}:(C0 T r f t).length=T.length:=by
 unfold C0;split
 ·split <;> simp
 ·rfl
theorem Qfc {n:Nat} {T:List Occ} {r:Nat} {f t:Int} (h:r<T.length):Xb n (T.map enc) (r:Int) f t (some:LL->Option LL)=some ((C0 T r f t).map enc):=by
 obtain ⟨⟨x,a,b⟩,e⟩:∃ q,T[r]? = some q:=⟨T[r],Qjz h⟩;have e2:(T.map enc)[r]? = some [Q4 x,Q4 a,Q4 b]:=by rw [QjL,e];rfl
 unfold Xb;rw [Qjw,ZI (by omega) (by omega)];simp -implicitDefEqProofs only [Q0,Qjs,Qju,Q2,XE,QA,cond_true,Qjt,QjE,QjG,Int.toNat_natCast,e2,List.set_cons_zero,List.set_cons_succ];unfold C0;simp only [e];by_cases ac:a<b
 ·rw [show decide (a<b)=true by simpa using ac,cond_true,if_pos ac,List.map_set];rfl
 ·rw [show decide (a<b)=false by simpa using ac,Qjt,QjA ac,List.map_set];rfl
theorem Qhm {n:Nat} {T:List Occ} {r:Nat} {f t:Int} (h:r<T.length) (aj:f<t):Zb n (T.map fun q=>[D.bool (Sv q)]) (T.map enc) (r:Int) f t Tu2=some ((C0 T r f t).map (fun q=>[D.bool (Sv q)]),(C0 T r f t).map enc):=by
 obtain ⟨⟨x,a,b⟩,e⟩:∃ q,T[r]? = some q:=⟨T[r],Qjz h⟩;have e2:(T.map enc)[r]? = some [Q4 x,Q4 a,Q4 b]:=by rw [QjL,e];rfl
 have g:(T.map fun q=>[D.bool (Sv q)])[r]? = some [D.bool (decide (a<b))]:=by rw [QjL,e];rfl
 unfold Zb;rw [Qjw,Qjw,ZI (by omega) (by omega)];simp -implicitDefEqProofs only [Q0,Qjs,Qju,Q2,XE,QA,cond_true,Qjt,QjE,QjG,Int.toNat_natCast,e2,g,Rj,List.set_cons_zero,List.set_cons_succ];unfold C0;simp only [e];by_cases ac:a<b
 ·rw [show decide (a<b)=true by simpa using ac,cond_true,if_pos ac,List.map_set,List.map_set,show Sv ((r:Int),(if a<f then a else f),(if t<b then b else t))=true by simp only [Sv,decide_eq_true_eq];split <;> split <;> omega];rfl
 ·rw [show decide (a<b)=false by simpa using ac,Qjt,QjA ac,List.map_set,List.map_set,show Sv ((r:Int),f,t)=true by simpa [Sv] using aj];rfl
theorem Q3Y:∀ {l:List Occ} {i:Nat} {a:Occ},((l.set i a).filter Sv).length<=(l.filter Sv).length+1
 |[],i,a=>by simp
 |x::l,0,a=>by
  rw [List.set_cons_zero,QjR,QjR];split <;> split <;> simp <;> omega
 |x::l,i+1,a=>by
  have:=Q3Y (l:=l) (i:=i) (a:=a);rw [List.set_cons_succ,QjR,QjR];split <;> simp <;> omega
theorem Q2G {T:List Occ} {r:Nat} {f t:Int}:((C0 T r f t).filter Sv).length<=(T.filter Sv).length+1:=by
 unfold C0;split
 ·split <;> exact Q3Y
 ·omega
theorem Qhf {T:List Occ} (hl:T.length<=300):VM 400 (T.map enc) (some:LL->Option LL)=some ((T.filter Sv).map enc):=by
 unfold VM;rw [Qjw];refine Qx (r:=fun m i=>Ye 400 (T.map enc) ((T.length:Nat):Int) (fun _ _ w=>some w) m i (((T.take i.toNat).filter Sv).map enc)) (N:=T.length) (fun m k hk=>?_) (fun m=>?_) T.length 400 0 (by omega) (by omega)
 ·simp only [Int.toNat_natCast];obtain ⟨⟨x,a,b⟩,e⟩:∃ q,T[k]? = some q:=⟨T[k],Qjz hk⟩;have aj:((((T.take k).filter Sv).map enc).length)<=300:=by
   rw [Qjw];have:=List.length_filter_le Sv (T.take k);rw [List.length_take] at this;omega
  rw [Ye,Q9 hk,Qa,QjL,e,YJ e,List.filter_append,QjF];simp -implicitDefEqProofs only [Q0,Qjs,Qju,Q2,XE,QA,cond_true,Qjt,QjE,QjG,Option.map_some,enc,Qu (show k<=1000 by omega)];by_cases ac:a<b
  ·rw [show decide (a<b)=true by simpa using ac,cond_true,show [(x,a,b)].filter Sv=[(x,a,b)] by simp [Sv,ac],XS (by simp only [QjI,QjH];omega)];rfl
  ·rw [show decide (a<b)=false by simpa using ac,Qjt,show [(x,a,b)].filter Sv=[] by simp [Sv,ac],List.map_nil,List.append_nil]
 ·simp only [Int.toNat_natCast];rw [Ye,Ql,Qjt,QjP]
theorem Qgs {R:Type} {T:List Occ} (hl:T.length<=300) (K:LL->oP R):Vt 400 ((T.length:Nat):Int) (T.map fun q=>[D.bool (Sv q)]) (T.map enc) (fun _ _ w=>K w) 400 0 []=K ((T.filter Sv).map enc):=by
 refine Qx (r:=fun m i=>Vt 400 ((T.length:Nat):Int) (T.map fun q=>[D.bool (Sv q)]) (T.map enc) (fun _ _ w=>K w) m i (((T.take i.toNat).filter Sv).map enc)) (N:=T.length) (fun m k hk=>?_) (fun m=>?_) T.length 400 0 (by omega) (by omega)
 ·simp only [Int.toNat_natCast];obtain ⟨⟨x,a,b⟩,e⟩:∃ q,T[k]? = some q:=⟨T[k],Qjz hk⟩;have aj:((((T.take k).filter Sv).map enc).length)<=300:=by
   rw [Qjw];have:=List.length_filter_le Sv (T.take k);rw [List.length_take] at this;omega
  rw [Vt,Q9 hk,Qjw,Qjw,ZI (by omega) (by omega),Int.toNat_natCast,QjL,QjL,e,YJ e,List.filter_append,QjF];simp -implicitDefEqProofs only [Q0,Qjs,Qju,Q2,XE,QA,cond_true,Qjt,QjE,QjG,Option.map_some,enc,show Sv (x,a,b)=decide (a<b) from rfl,Rj,Qu (show k<=1000 by omega)];by_cases ac:a<b
  ·rw [show decide (a<b)=true by simpa using ac,cond_true,show [(x,a,b)].filter Sv=[(x,a,b)] by simp [Sv,ac],XS (by simp only [QjI,QjH];omega)];rfl
  ·rw [show decide (a<b)=false by simpa using ac,Qjt,show [(x,a,b)].filter Sv=[] by simp [Sv,ac],List.map_nil,List.append_nil]
 ·simp only [Int.toNat_natCast];rw [Vt,Ql,Qjt,QjP]

def pt (Li s:LL) (i:Nat):Int:=pv (QdK Li (s.getD (i-1) []) (s.getD i []))
def sec (s:LL) (i:Nat):Nat:=match s.getD i [] with
 |.int _ x::_=>x.toNat
 |_=>0
def fr (Se s:LL) (X:Run) (bf:Int) (i:Nat):Int:=if i=0 then -bf else fEN Se s X (i-1) / 1000-16
def tu (Se s:LL) (X:Run) (af:Int) (i:Nat):Int:=if i<s.length-1 then cd (fLV Se s X i) 1000+4 else Q2M X+af
def MS (N NP:Nat) (Li s:LL) (f g:Nat->Int):Nat->List Occ
 |0=>List.replicate (N+NP) (0,0,0)
 |i+1=>if i=0 then C0 (MS N NP Li s f g i) (sec s i) (f i) (g i) else if pt Li s i<0 then C0 (MS N NP Li s f g i) (sec s i) (f i) (g i) else C0 (C0 (MS N NP Li s f g i) (sec s i) (f i) (g i)) (N+(pt Li s i).toNat) (f i) (g (i-1))
theorem Pq {N NP:Nat} {Li s:LL} {f g:Nat->Int}:∀ {i:Nat},(MS N NP Li s f g i).length=N+NP
 |0=>by simp [MS]
 |i+1=>by
  rw [MS];split
  ·rw [ME,Pq]
  ·split <;> simp only [ME,Pq]
theorem Q1T {N NP:Nat} {Li s:LL} {f g:Nat->Int} {j:Nat}:MS N NP Li s f g (j+1+1)=if pt Li s (j+1)<0 then C0 (MS N NP Li s f g (j+1)) (sec s (j+1)) (f (j+1)) (g (j+1)) else C0 (C0 (MS N NP Li s f g (j+1)) (sec s (j+1)) (f (j+1)) (g (j+1))) (N+(pt Li s (j+1)).toNat) (f (j+1)) (g j):=by
 show (if j+1=0 then _ else _)=_;rw [QjA (by omega)];rfl
def Q5k (St Pt Se Li s:LL) (X:Run) (bf af:Int):List Occ:=(MS Se.length Pt.length Li s (fr Se s X bf) (tu Se s X af) s.length).filter Sv
section
variable {N NP:Nat} {Li:LL}
theorem Q5p:∀ {s:LL} {k:Nat},Q0c N NP Li k s=true->∀ i,i+1<s.length->∃ p,QdK Li (s.getD i []) (s.getD (i+1) [])=some p/\ptR [] [] (List.replicate N []) Li (s.getD i []) (s.getD (i+1) [])=some p /\ -1<=p/\p<NP
 |[],_,_,i,hi=>by simp at hi
 |[_],_,_,i,hi=>by simp at hi
 |r::r'::t,k,h,i,hi=>by
  rw [Q0c] at h;split at h
  ·rename_i p q e1 e2;simp only [Bool.and_eq_true,beq_iff_eq,decide_eq_true_eq] at h;obtain ⟨rfl,a,h2,b⟩:=h;cases i with
   |zero=>exact ⟨p,e1,e2,a,h2⟩
   |succ i=>exact Q5p b i (by simpa using hi)
  ·cases h
theorem Q73:∀ {s:LL} {k:Nat},Q0c N NP Li k s=true->∀ (c:Nat->Nat),(∀ i,c (i+1)<=c i+(if pt Li s (i+1)<0 then 1 else 2))->c 0<=k->∀ i,i<s.length->c i<=5
 |[],_,_,_,_,_,i,hi=>by simp at hi
 |[r],k,h,c,hc,f,i,hi=>by
  have:i=0:=by simpa using hi
  subst this;have:k<=5:=QjQ h;omega
 |r::r'::t,k,h,c,hc,f,i,hi=>by
  rw [Q0c] at h;split at h
  ·rename_i p q e1 e2;simp only [Bool.and_eq_true,beq_iff_eq,decide_eq_true_eq] at h;obtain ⟨rfl,j,h2,e⟩:=h;have hp:pt Li (r::r'::t) 1=p:=by show pv (QdK Li r r')=p;rw [e1];rfl
   have d:c 1<=c 0+(if pt Li (r::r'::t) 1<0 then 1 else 2):=hc 0;rw [hp] at d;have g:c 1<=(bif decide (p<0) then k+1 else k+2):=by
    by_cases hq:p<0
    ·rw [if_pos hq] at d;rw [show decide (p<0)=true by simpa using hq,cond_true];omega
    ·rw [QjA hq] at d;rw [show decide (p<0)=false by simpa using hq,Qjt];omega
   have ih:=Q73 e (fun i=>c (i+1)) (fun i=>hc (i+1)) g;cases i with
   |zero=>
    have:=ih 0 (by simp);have hq:c 0<=5:=by
     have ac:∀ {s:LL} {k:Nat},Q0c N NP Li k s=true->k<=5:=by
      intro s;induction s with
      |nil=>exact fun h=>QjQ h
      |cons a s ih=>
       intro k h;cases s with
       |nil=>exact QjQ h
       |cons b s=>
        rw [Q0c] at h;split at h
        ·simp only [Bool.and_eq_true] at h;have:=ih h.2.2.2;revert this;cases decide (_<(0:Int)) <;> simp <;> omega
        ·cases h
     have:=ac e;revert this;cases decide (p<0) <;> simp <;> omega
    exact hq
   |succ i=>exact ih i (by simpa using hi)
  ·cases h
end

theorem MB {α:Type} {l:List α} {n:Nat} (h:l.length=n):G2 l n=some ():=by
 subst h;unfold G2;rw [show Nat.beq l.length l.length=true from Nat.beq_refl _];rfl
def spn (f g:Nat->Int) (n:Nat):LL:=(List.range n).map fun i=>[Q4 0,Q4 (f i),Q4 (g i)]
theorem Q8y {f g:Nat->Int} {n:Nat}:(spn f g n).length=n:=by simp [spn]
theorem Qfu {f g:Nat->Int} {n i:Nat} (h:i<n):(spn f g n)[i]? = some [Q4 0,Q4 (f i),Q4 (g i)]:=by simp [spn,h]
theorem Q6p {f g:Nat->Int} {n:Nat}:spn f g n++[[Q4 0,Q4 (f n),Q4 (g n)]]=spn f g (n+1):=by simp [spn,List.range_succ]
theorem B4 {St Pt Se Li:LL} (h:P2 400 St Pt Se Li=true):Pt.length<=48/\Se.length<=96:=by
 unfold P2 at h;simp only [Bool.and_eq_true] at h;exact ⟨QjQ h.1.1.1.1.1.1.1.2,QjQ h.1.1.1.1.1.1.2⟩
theorem Qam {l:List Occ}:FW [l.map enc]=some ():=by
 unfold FW;rw [show ([l.map enc].all BT)=true by simp [BT,enc,Q5u]];rfl
section
variable {St Pt Se Li s:LL} (h:RtF St Pt Se Li s) {nm:List UInt8} {tl sp ac br bf af:Int} (hk:StkN tl sp ac br) (hb0:0<=bf) (hb1:bf<=65536) (ha0:0<=af) (ha1:af<=65536)
include h hk
theorem Q7l {i j:Nat} (ak:i<=j) (hj:j<s.length):0<=fEN Se s (ZM Se s nm tl sp ac br) i/\fEN Se s (ZM Se s nm tl sp ac br) i<=fLV Se s (ZM Se s nm tl sp ac br) j/\fLV Se s (ZM Se s nm tl sp ac br) j<=7000000:=by
 have hX:=MC h (nm:=nm) hk;have a:=Qdd h (nm:=nm) hk hj;have h2:=Q8V (Se:=Se) (s:=s) (i:=i-1) (j:=j) (by omega);have c:=Q0Q h (nm:=nm) hk (b:=pos Se s (i-1)) (by omega);unfold fEN fLV;by_cases hm:j<s.length-1
 ·rw [if_pos hm];exact ⟨c.1,Run.T_mono hX (by omega) (a.2 hm),(Q0Q h (nm:=nm) hk (a.2 hm)).2⟩
 ·rw [QjA hm];exact ⟨c.1,Run.T_mono hX (by omega) (QjC _),(Q0Q h (nm:=nm) hk (QjC _)).2⟩
include hb0 hb1 ha0 ha1
theorem QhJ {i:Nat} (hi:i<s.length) : -70000<=fr Se s (ZM Se s nm tl sp ac br) bf i/\fr Se s (ZM Se s nm tl sp ac br) bf i<tu Se s (ZM Se s nm tl sp ac br) af i/\tu Se s (ZM Se s nm tl sp ac br) af i<=80000/\(1<=i->fr Se s (ZM Se s nm tl sp ac br) bf i<tu Se s (ZM Se s nm tl sp ac br) af (i-1)):=by
 have l2:=h.l2;have hr:=Fk h (nm:=nm) hk;have hN:=Q7l h (nm:=nm) hk (i:=i-1) (j:=s.length-1) (by omega) (by omega);have c:=Q7l h (nm:=nm) hk (i:=i-1) (j:=i) (by omega) hi;have d:=Q7l h (nm:=nm) hk (i:=i-1) (j:=i-1) (by omega) (by omega);have c1:=Q13 (a:=fLV Se s (ZM Se s nm tl sp ac br) i) (by omega) (show (1:Int)<=1000 by decide);have c0:=Q13 (a:=fLV Se s (ZM Se s nm tl sp ac br) (i-1)) (by omega) (show (1:Int)<=1000 by decide);have hl:fLV Se s (ZM Se s nm tl sp ac br) (s.length-1)=(ZM Se s nm tl sp ac br).T (ZM Se s nm tl sp ac br).N:=by unfold fLV;rw [QjA (by omega)]
 have cN:=Q13 (a:=fLV Se s (ZM Se s nm tl sp ac br) (s.length-1)) (by omega) (show (1:Int)<=1000 by decide);have ak:Q2M (ZM Se s nm tl sp ac br)=cd (fLV Se s (ZM Se s nm tl sp ac br) (s.length-1)) 1000:=by rw [hl];rfl
 unfold fr tu;by_cases b:i=0
 ·rw [if_pos b,if_pos (show i<s.length-1 by omega)];exact ⟨by omega,by omega,by omega,fun h=>by omega⟩
 ·rw [QjA b,if_pos (show i-1<s.length-1 by omega)];by_cases aj:i<s.length-1
  ·rw [if_pos aj];exact ⟨by omega,by omega,by omega,fun _=>by omega⟩
  ·rw [QjA aj];exact ⟨by omega,by omega,by omega,fun _=>by omega⟩
theorem QeW:Wu 400 St Pt Se Li s 0 nm tl sp ac br bf af Tu3=some ((Q5k St Pt Se Li s (ZM Se s nm tl sp ac br) bf af).map enc,Q2M (ZM Se s nm tl sp ac br),0):=by
 have l2:=h.l2;have l24:=h.l24;have a4:=Fk h (nm:=nm) hk;have aj:=fun i j (a7:i<=j) (hj:j<s.length)=>Q7l h (nm:=nm) hk (i:=i) (j:=j) a7 hj
 have aq:=fun i (hi:i<s.length)=>QhJ h (nm:=nm) hk hb0 hb1 ha0 ha1 hi
 have bb:=Qe6 h (nm:=nm) hk;have bk:=B4 h.lay;unfold Wu;rw [Qdi h.lay rfl h.l2 h.l24 h.rt h.st hk,Q0,Q8 (by rfl),show decide (bf<0)=false by simpa using hb0,show decide (bf>65536)=false by simpa using hb1,show decide (af<0)=false by simpa using ha0,show decide (af>65536)=false by simpa using ha1];simp -implicitDefEqProofs only [Qjt];unfold Wm;rw [bb];revert a4 aj aq;generalize ZM Se s nm tl sp ac br=X;intro a4 aj aq;have z:wJ (((s.length:Nat):Int)-1)=((s.length-1:Nat):Int):=JE (by omega) (by omega);have aa:wJ (((s.length-1:Nat):Int)-1)=((s.length-1-1:Nat):Int):=JE (by omega) (by omega);have ax:∀ i,i<s.length->Q1 (arr (fEN Se s X) s.length) (i:Int)=some [Q4 (fEN Se s X i)]:=fun i hi=>by rw [Qa];exact Gm hi
 have az:∀ i,i<s.length->Q1 (arr (fLV Se s X) s.length) (i:Int)=some [Q4 (fLV Se s X i)]:=fun i hi=>by rw [Qa];exact Gm hi
 have aw:∀ i,i<s.length->VH 400 (fEN Se s X i) (some:Int->Option Int)=some (fEN Se s X i / 1000):=fun i hi=>Qgj (aj i i (QjC i) hi).1 (by have:=aj i i (QjC i) hi;omega)
 have a3:∀ i,i<s.length->G3 400 (fLV Se s X i) (some:Int->Option Int)=some (cd (fLV Se s X i) 1000):=fun i hi=>upA (by have:=aj i i (QjC i) hi;omega) (by have:=aj i i (QjC i) hi;omega)
 have ak:∀ (k:Nat) (r:List D),k<=30->Ym (((spn (fr Se s X bf) (tu Se s X af) k).length+[r].length)*24)=some ():=fun k r hk=>XS (by simp only [Q8y,QjI,QjH];omega)
 have f0:fr Se s X bf 0 = -bf:=rfl;have t0:tu Se s X af 0=cd (fLV Se s X 0) 1000+4:=by unfold tu;rw [if_pos (by omega)]
 have q0:=aq 0 (by omega);rw [Q0,Q8 (by rfl)];dsimp only;rw [show (0:Int)=((0:Nat):Int) from rfl,az 0 (by omega)];simp -implicitDefEqProofs only [Q0,Qjs,Q2,a3 0 (by omega),Zd,z];have ad:∀ k0:Int->Bool->LL->Option (LL × Int × Int),Y3 400 (arr (fEN Se s X) s.length) (arr (fLV Se s X) s.length) ((s.length-1:Nat):Int) k0 400 1 (spn (fr Se s X bf) (tu Se s X af) 1)=k0 ((s.length-1:Nat):Int) false (spn (fr Se s X bf) (tu Se s X af) (s.length-1)):=by
  intro k0;refine Qx (r:=fun m i=>Y3 400 (arr (fEN Se s X) s.length) (arr (fLV Se s X) s.length) ((s.length-1:Nat):Int) k0 m ((i.toNat+1:Nat):Int) (spn (fr Se s X bf) (tu Se s X af) (i.toNat+1))) (N:=s.length-1-1) (fun m i hi=>?_) (fun m=>?_) (s.length-1-1) 400 0 (by omega) (by omega)
  ·simp only [Int.toNat_natCast];have hf:fr Se s X bf (i+1)=fEN Se s X i / 1000-16:=by unfold fr;rw [QjA (by omega)];rfl
   have ht:tu Se s X af (i+1)=cd (fLV Se s X (i+1)) 1000+4:=by unfold tu;rw [if_pos (by omega)]
   have q:=aq (i+1) (by omega);rw [Y3,Q9 (show i+1<s.length-1 by omega),cond_true,JE (show i+1<=1000 by omega) (by omega),QjB,ax i (by omega)];simp -implicitDefEqProofs only [Q0,Qjs,Q2,aw i (by omega),az (i+1) (by omega),a3 (i+1) (by omega),wI hf.symm (by omega) (by omega),wI ht.symm (by omega) (by omega),ak (i+1) _ (by omega),Q6p,Qu (show i+1<=1000 by omega)]
  ·simp only [Int.toNat_natCast];rw [show s.length-1-1+1=s.length-1 by omega,Y3,Ql,Qjt]
 rw [show ([[D.int .i64 ((0:Nat):Int),D.int .i64 (wJ (((0:Nat):Int)-bf)),D.int .i64 (wJ (cd (fLV Se s X 0) 1000+4))]]:LL)=spn (fr Se s X bf) (tu Se s X af) 1 by
  rw [wI (show ((0:Nat):Int)-bf=fr Se s X bf 0 by omega) (by omega) (by omega),wI t0.symm (by omega) (by omega)];rfl,ad]
 have a9:fr Se s X bf (s.length-1)=fEN Se s X (s.length-1-1) / 1000-16:=by unfold fr;rw [QjA (by omega)]
 have bc:tu Se s X af (s.length-1)=Q2M X+af:=by unfold tu;rw [QjA (by omega)]
 have qm:=aq (s.length-1) (by omega);have a5:Jr 400 St Pt Se Li (some:LL->Option LL)=some ((MS Se.length Pt.length Li s (fr Se s X bf) (tu Se s X af) 0).map enc):=by
  unfold Jr;rw [wI (show ((Se.length:Nat):Int)+((Pt.length:Nat):Int)=((Se.length+Pt.length:Nat):Int) by omega) (by omega) (by omega),show (bif decide ((0:Int)<=((Se.length+Pt.length:Nat):Int))&&decide (((Se.length+Pt.length:Nat):Int)<=((Se.length+Pt.length:Nat):Int)) then some () else none)=some () by rw [QU (by simp;omega)],Q0,Int.toNat_natCast,XS (by omega),Q0,MS,List.map_replicate];rfl
 rw [aa,ax (s.length-1-1) (by omega)];simp -implicitDefEqProofs only [Q0,Qjs,Q2,aw (s.length-1-1) (by omega),aw (s.length-1) (by omega),ax (s.length-1) (by omega),a5,show ((0:Nat):Int)=0 from rfl,wI a9.symm (by omega) (by omega),wI bc.symm (by omega) (by omega),ak (s.length-1) _ (by omega),Q6p];rw [show s.length-1+1=s.length by omega];have ae:∀ k0:Int->Bool->LL->LL->Option (LL × Int × Int),Qk 400 ((s.length-1:Nat):Int) s ((s.length:Nat):Int) St Pt Se Li s (wJ (fEN Se s X (s.length-1) / 1000-16)) (wJ (Q2M X+20)) k0 400 0 (spn (fr Se s X bf) (tu Se s X af) s.length) ((MS Se.length Pt.length Li s (fr Se s X bf) (tu Se s X af) 0).map enc)=k0 ((s.length:Nat):Int) false (spn (fr Se s X bf) (tu Se s X af) s.length) ((MS Se.length Pt.length Li s (fr Se s X bf) (tu Se s X af) s.length).map enc):=by
  intro k0;refine Qx (r:=fun m i=>Qk 400 ((s.length-1:Nat):Int) s ((s.length:Nat):Int) St Pt Se Li s (wJ (fEN Se s X (s.length-1) / 1000-16)) (wJ (Q2M X+20)) k0 m i (spn (fr Se s X bf) (tu Se s X af) s.length) ((MS Se.length Pt.length Li s (fr Se s X bf) (tu Se s X af) i.toNat).map enc)) (N:=s.length) (fun m i hi=>?_) (fun m=>?_) s.length 400 0 (by omega) (by omega)
  ·simp only [Int.toNat_natCast];obtain ⟨x,d,bj,b,c,st,e,h1,a0,a1,hd⟩:=Ed h.st hi;have hx:=PD h1;have al:0<=x/\x<Se.length:=by
    have h2:=hx.1;unfold inB at h2;by_cases hc:0<=x/\x<Se.length
    ·exact hc
    ·rw [show (decide (0<=x)&&decide (x<(Se.length:Int)))=false by simp;omega] at h2;cases h2
   have au:x=((sec s i:Nat):Int):=by
    unfold sec;rw [Qjy,e];show x=((x.toNat:Nat):Int);omega
   have hT:=Pq (N:=Se.length) (NP:=Pt.length) (Li:=Li) (s:=s) (f:=fr Se s X bf) (g:=tu Se s X af) (i:=i);have ha:=Qfc (n:=400) (T:=MS Se.length Pt.length Li s (fr Se s X bf) (tu Se s X af) i) (r:=sec s i) (f:=fr Se s X bf i) (t:=tu Se s X af i) (by omega);have a2:∀ j,j<s.length->(spn (fr Se s X bf) (tu Se s X af) s.length)[j]? = some [Q4 0,Q4 (fr Se s X bf j),Q4 (tu Se s X af j)]:=fun j hj=>Qfu hj
   rw [Qk,Q9 hi,Qa,e];simp -implicitDefEqProofs only [cond_true,Q0,Qjs,Qju,show decide ((i:Int)>((s.length-1:Nat):Int))=false by simp;omega,Qjt,Q2,Q8y,ZI (len:=s.length) (show (0:Int)<=(i:Int) by omega) (show (i:Int)<(s.length:Int) by omega),Int.toNat_natCast,a2 i hi,au,ha,Qu (show i<=1000 by omega),MB (l:=(C0 (MS Se.length Pt.length Li s (fr Se s X bf) (tu Se s X af) i) (sec s i) (fr Se s X bf i) (tu Se s X af i)).map enc) (n:=((MS Se.length Pt.length Li s (fr Se s X bf) (tu Se s X af) i).map enc).length) (by simp only [Qjw,ME])];by_cases ah:i=0
   ·subst ah;rw [show (((0:Nat):Int) == 0)=true from rfl,cond_true];rfl
   ·obtain ⟨j,rfl⟩:∃ j,i=j+1:=⟨i-1,by omega⟩;obtain ⟨x',d',bg,b',c',st',e',bd,_,_,a6⟩:=Ed h.st (j:=j) (by omega);obtain ⟨p,a,am,an,ao⟩:=Q5p h.hops j hi;rw [Qjy,Qjy,e,e',QjJ,QjJ] at a;have ba:=PD bd;have ar:0<=x'/\x'<Se.length:=by
     have h2:=ba.1;unfold inB at h2;by_cases hc:0<=x'/\x'<Se.length
     ·exact hc
     ·rw [show (decide (0<=x')&&decide (x'<(Se.length:Int)))=false by simp;omega] at h2;cases h2
    have a8:pt Li s (j+1)=p:=by
     unfold pt;rw [Qjy,Qjy,e,QjB,e',QjJ,QjJ,a];rfl
    have ay:=(Qca h.lay ar.1 ar.2 a6 (y:=x) (e:=d)).trans a;rw [au] at ay;rw [show (((j+1:Nat):Int) == 0)=false by simp;omega,Qjt,JE (show j+1<=1000 by omega) (by omega),QjB,Qa,e'];simp -implicitDefEqProofs only [Q0,Qjs,Qju,Q2,ay];rw [Q1T,a8];by_cases hp:p<0
    ·rw [show decide (p<0)=true by simpa using hp,cond_true,if_pos hp]
    ·have ai:=Qfc (n:=400) (T:=C0 (MS Se.length Pt.length Li s (fr Se s X bf) (tu Se s X af) (j+1)) (sec s (j+1)) (fr Se s X bf (j+1)) (tu Se s X af (j+1))) (r:=Se.length+p.toNat) (f:=fr Se s X bf (j+1)) (t:=tu Se s X af j) (by rw [ME];omega);rw [show decide (p<0)=false by simpa using hp,Qjt,QjA hp,show decide (((j+1:Nat):Int)<=((s.length-1:Nat):Int))=true by simp;omega,cond_true];simp -implicitDefEqProofs only [ZI (len:=s.length) (show (0:Int)<=(j:Int) by omega) (show (j:Int)<(s.length:Int) by omega),Q0,Qjs,Qju,Q2,a2 j (by omega),wI (show ((Se.length:Nat):Int)+p=((Se.length+p.toNat:Nat):Int) by omega) (by omega) (by omega),Int.toNat_natCast,ai,QjB];rw [MB (by simp only [Qjw,ME]),Q0]
  ·simp only [Int.toNat_natCast];rw [Qk,Ql,Qjt]
 rw [ae,Qhf (by rw [Pq];omega),Q0,Qam,Q0];rfl
end

theorem Qfy {St Pt Se Li L:LL} {x d y e p:Int} (h:ptR [] [] L Li [Q4 x,Q4 d] [Q4 y,Q4 e]=some p):∃ a b c,G4 400 St Pt Se Li x d y e Tu5=some (a,b,Q4 p,c,true):=by
 rw [QhH (a':=[]) (b':=[]) (L':=L)];unfold ptR at h;dsimp only at h;split at h
 ·rename_i he;cases h;exact ⟨_,_,_,he⟩
 ·cases h
def QbX (T:List Occ):LL:=T.map fun q=>[D.bool (Sv q)]
section
variable {St Pt Se Li s:LL} (h:RtF St Pt Se Li s) {nm:List UInt8} {tl sp ac br bf af:Int} (hk:StkN tl sp ac br) (hb0:0<=bf) (hb1:bf<=65536) (ha0:0<=af) (ha1:af<=65536)
include h hk hb0 hb1 ha0 ha1
theorem Qes:Ki 400 St Pt Se Li s 0 nm tl sp ac br bf af Tu3=some ((Q5k St Pt Se Li s (ZM Se s nm tl sp ac br) bf af).map enc,Q2M (ZM Se s nm tl sp ac br),0):=by
 have l2:=h.l2;have l24:=h.l24;have a8:=Fk h (nm:=nm) hk;have aw:=fun i j (bg:i<=j) (hj:j<s.length)=>Q7l h (nm:=nm) hk (i:=i) (j:=j) bg hj
 have a2:=fun i (hi:i<s.length)=>QhJ h (nm:=nm) hk hb0 hb1 ha0 ha1 hi
 have bj:=Qgw h (nm:=nm) hk;have b3:=B4 h.lay;unfold Ki;rw [Q9w h hk,Q0,Q8 (by rfl),Q4G hb0 hb1,Q0,Q4G ha0 ha1];simp -implicitDefEqProofs only [Q0,QjE,Qjt,QjG];rw [bj];revert a8 aw a2;generalize ZM Se s nm tl sp ac br=X;intro a8 aw a2;have t:wJ (((s.length:Nat):Int)-1)=((s.length-1:Nat):Int):=JE (by omega) (by omega);have a9:∀ i,i<s.length->Q1 (arr (fEN Se s X) s.length) (i:Int)=some [Q4 (fEN Se s X i)]:=fun i hi=>by rw [Qa];exact Gm hi
 have a3:∀ i,i<s.length->Q1 (arr (fLV Se s X) s.length) (i:Int)=some [Q4 (fLV Se s X i)]:=fun i hi=>by rw [Qa];exact Gm hi
 have a4:∀ i,i<s.length->J2 400 (fEN Se s X i) 1000 (some:Int->Option Int)=some (fEN Se s X i / 1000):=fun i hi=>Qfs (aw i i (QjC i) hi).1 (by have:=aw i i (QjC i) hi;omega)
 have a7:∀ i,i<s.length->JI 400 (fLV Se s X i) 1000 (some:Int->Option Int)=some (cd (fLV Se s X i) 1000):=fun i hi=>Qck (by have:=aw i i (QjC i) hi;omega) (by decide) (by have:=aw i i (QjC i) hi;omega)
 have bd:wJ (((Se.length:Nat):Int)+((Pt.length:Nat):Int))=((Se.length+Pt.length:Nat):Int):=wI (by omega) (by omega) (by omega);have hg:(bif decide ((0:Int)<=((Se.length+Pt.length:Nat):Int))&&decide (((Se.length+Pt.length:Nat):Int)<=((Se.length+Pt.length:Nat):Int)) then some () else none)=some ():=by rw [QU (by simp;omega)]
 rw [Q0];dsimp only;simp -implicitDefEqProofs only [bd,hg,Q0,Int.toNat_natCast,XS (show (Se.length+Pt.length)*1<=100000 by omega),XS (show (Se.length+Pt.length)*24<=100000 by omega),Zd,t];let T:Nat->List Occ:=fun i=>MS Se.length Pt.length Li s (fr Se s X bf) (tu Se s X af) i
 have u:∀ k0:Int->Int->Bool->LL->LL->Option (LL × Int × Int),WB 400 bf af (arr (fEN Se s X) s.length) (arr (fLV Se s X) s.length) (Q2M X) ((s.length-1:Nat):Int) St Pt Se Li s k0 400 0 0 (QbX (T 0)) ((T 0).map enc)=k0 (tu Se s X af (s.length-1)) ((s.length:Nat):Int) false (QbX (T s.length)) ((T s.length).map enc):=by
  intro k0;refine Qx (r:=fun m i=>WB 400 bf af (arr (fEN Se s X) s.length) (arr (fLV Se s X) s.length) (Q2M X) ((s.length-1:Nat):Int) St Pt Se Li s k0 m (if i.toNat=0 then 0 else tu Se s X af (i.toNat-1)) i (QbX (T i.toNat)) ((T i.toNat).map enc)) (N:=s.length) (fun m i hi=>?_) (fun m=>?_) s.length 400 0 (by omega) (by omega)
  ·simp only [Int.toNat_natCast];obtain ⟨x,d,bu,b,c,st,e,v,a0,a1,hd⟩:=Ed h.st hi;have hx:=PD v;have ay:0<=x/\x<Se.length:=by
    have h2:=hx.1;unfold inB at h2;by_cases hc:0<=x/\x<Se.length
    ·exact hc
    ·rw [show (decide (0<=x)&&decide (x<(Se.length:Int)))=false by simp;omega] at h2;cases h2
   have az:x=((sec s i:Nat):Int):=by
    unfold sec;rw [Qjy,e];show x=((x.toNat:Nat):Int);omega
   have hT:(T i).length=Se.length+Pt.length:=Pq;have q:=a2 i hi;have ha:Zb 400 (QbX (T i)) ((T i).map enc) ((sec s i:Nat):Int) (fr Se s X bf i) (tu Se s X af i) Tu2=_:=Qhm (by omega) q.2.1;rw [WB,Q9 hi,cond_true];have hz:∀ (J:Int->Int->Option (LL × Int × Int)),jn J (fun j=>bif ((i:Int) == (0:Int)) then
      gb true (Q1 (arr (fLV Se s X) s.length) (0:Int)) [] fun y=>gb true (y[0]?) oF fun z=>gb true (pIw z) 0 fun aa=>gb true (JI 400 aa (1000:Int) some) 0 fun ab=>j (wJ (0-bf)) (wJ (ab+(4:Int)))
     else bif (decide ((i:Int)<((s.length-1:Nat):Int))) then
      gb true (Q1 (arr (fEN Se s X) s.length) (wJ ((i:Int)-(1:Int)))) [] fun ad=>gb true (ad[0]?) oF fun ae=>gb true (pIw ae) 0 fun ag=>gb true (J2 400 ag (1000:Int) some) 0 fun ah=>
      gb true (Q1 (arr (fLV Se s X) s.length) (i:Int)) [] fun ai=>gb true (ai[0]?) oF fun aj=>gb true (pIw aj) 0 fun ak=>gb true (JI 400 ak (1000:Int) some) 0 fun al=>j (wJ (ah-(16:Int))) (wJ (al+(4:Int)))
     else bif ((i:Int) == ((s.length-1:Nat):Int)) then
      gb true (Q1 (arr (fEN Se s X) s.length) (wJ (((s.length-1:Nat):Int)-(1:Int)))) [] fun am=>gb true (am[0]?) oF fun an=>gb true (pIw an) 0 fun ao=>gb true (J2 400 ao (1000:Int) some) 0 fun ap=>j (wJ (ap-(16:Int))) (wJ (Q2M X+af))
     else
      gb true (Q1 (arr (fEN Se s X) s.length) ((s.length-1:Nat):Int)) [] fun aq=>gb true (aq[0]?) oF fun ar=>gb true (pIw ar) 0 fun au=>gb true (J2 400 au (1000:Int) some) 0 fun av=>j (wJ (av-(16:Int))) (wJ (Q2M X+(20:Int))))=J (fr Se s X bf i) (tu Se s X af i):=by
    intro J;dsimp only [jn];by_cases g:i=0
    ·subst g;have t0:tu Se s X af 0=cd (fLV Se s X 0) 1000+4:=by unfold tu;rw [if_pos (by omega)]
     have f0:fr Se s X bf 0 = -bf:=rfl;rw [show (((0:Nat):Int) == 0)=true from rfl,cond_true,show (0:Int)=((0:Nat):Int) from rfl,a3 0 hi];simp -implicitDefEqProofs only [Q0,Qjs,Q2,a7 0 hi,wI (show ((0:Nat):Int)-bf=fr Se s X bf 0 by omega) (by omega) (by omega),wI t0.symm (by omega) (by omega)]
    ·have hp:fr Se s X bf i=fEN Se s X (i-1) / 1000-16:=by unfold fr;rw [QjA g]
     rw [show ((i:Int) == 0)=false by simp;omega,Qjt];by_cases a6:i<s.length-1
     ·have ht:tu Se s X af i=cd (fLV Se s X i) 1000+4:=by unfold tu;rw [if_pos a6]
      rw [Q9 a6,cond_true,JE (by omega) (by omega),a9 (i-1) (by omega)];simp -implicitDefEqProofs only [Q0,Qjs,Q2,a4 (i-1) (by omega),a3 i hi,a7 i hi,wI hp.symm (by omega) (by omega),wI ht.symm (by omega) (by omega)]
     ·obtain rfl:i=s.length-1:=by omega
      have ht:tu Se s X af (s.length-1)=Q2M X+af:=by unfold tu;rw [QjA (by omega)]
      rw [Ql,Qjt,show (((s.length-1:Nat):Int) == ((s.length-1:Nat):Int))=true by simp,cond_true,JE (by omega) (by omega),a9 (s.length-1-1) (by omega)];simp -implicitDefEqProofs only [Q0,Qjs,Q2,a4 (s.length-1-1) (by omega),wI hp.symm (by omega) (by omega),wI ht.symm (by omega) (by omega)]
   rw [hz,Qa,e];simp -implicitDefEqProofs only [Q0,Qjs,Qju,Q2,az,ha,Qu (show i<=1000 by omega),QjB,Nat.succ_ne_zero,if_false];by_cases g:i=0
   ·subst g;rw [show decide (((0:Nat):Int)>0)=false from rfl,Qjt];rfl
   ·obtain ⟨j,rfl⟩:∃ j,i=j+1:=⟨i-1,by omega⟩;obtain ⟨x',d',bk,b',c',st',e',b6,_,_,bq⟩:=Ed h.st (j:=j) (by omega);obtain ⟨p,l,k,ba,bb⟩:=Q5p h.hops j hi;rw [Qjy,Qjy,e,e',QjJ,QjJ] at l k;have bh:pt Li s (j+1)=p:=by
     unfold pt;rw [Qjy,Qjy,e,QjB,e',QjJ,QjJ,l];rfl
    rw [az] at k;obtain ⟨u1,u2,u3,hj⟩:=Qfy (St:=St) (Pt:=Pt) (Se:=Se) k;rw [show decide (((j+1:Nat):Int)>0)=true from Qjx (by omega),cond_true,JE (show j+1<=1000 by omega) (by omega),QjB,Qa,e'];simp -implicitDefEqProofs only [Q0,Qjs,Qju,Q2,hj];have bi:T (j+1+1)=if p<0 then C0 (T (j+1)) (sec s (j+1)) (fr Se s X bf (j+1)) (tu Se s X af (j+1)) else C0 (C0 (T (j+1)) (sec s (j+1)) (fr Se s X bf (j+1)) (tu Se s X af (j+1))) (Se.length+p.toNat) (fr Se s X bf (j+1)) (tu Se s X af j):=by
     show MS _ _ _ _ _ _ (j+1+1)=_;rw [Q1T,bh]
    rw [bi];by_cases hp:p<0
    ·rw [show decide (p>=0)=false by simp;omega,Qjt,if_pos hp];rfl
    ·have ax:Zb 400 (QbX (C0 (T (j+1)) (sec s (j+1)) (fr Se s X bf (j+1)) (tu Se s X af (j+1)))) ((C0 (T (j+1)) (sec s (j+1)) (fr Se s X bf (j+1)) (tu Se s X af (j+1))).map enc) ((Se.length+p.toNat:Nat):Int) (fr Se s X bf (j+1)) (tu Se s X af j) Tu2=_:=Qhm (by rw [ME];omega) (q.2.2.2 (by omega));rw [show decide (p>=0)=true by simp;omega,cond_true,QjA hp,show decide (((j+1:Nat):Int)>((s.length-1:Nat):Int))=false by simp;omega,Qjt];have n:=ax;unfold QbX at n;simp -implicitDefEqProofs only [Q0,wI (show ((Se.length:Nat):Int)+p=((Se.length+p.toNat:Nat):Int) by omega) (by omega) (by omega),n,QjB,QjA (Nat.succ_ne_zero _)];rfl
  ·simp only [Int.toNat_natCast];rw [WB,Ql,Qjt,QjA (by omega)]
 have a5:T 0=List.replicate (Se.length+Pt.length) (0,0,0):=rfl;have e1:List.replicate (Se.length+Pt.length) [D.bool false]=QbX (T 0):=by rw [a5];unfold QbX;rw [List.map_replicate];rfl
 have e2:List.replicate (Se.length+Pt.length) [D.int .i64 (0:Int),D.int .i64 (0:Int),D.int .i64 (0:Int)]=(T 0).map enc:=by rw [a5,List.map_replicate];rfl
 rw [e1,e2,u];have hl:((Se.length+Pt.length:Nat):Int)=(((T s.length).length:Nat):Int):=by rw [show (T s.length).length=Se.length+Pt.length from Pq]
 rw [hl];exact Qgs (by rw [show (T s.length).length=Se.length+Pt.length from Pq];omega) _
end

def OL:Int->List Occ->Prop
 |_,[]=>True
 |l,(x,a,b)::r=>l<x /\ -1000<=a/\a<b/\b<=20000/\x<=1000/\OL x r
theorem OL.mono:∀ {l l':Int} {O:List Occ},l'<=l->OL l O->OL l' O
 |_,_,[],_,_=>trivial
 |_,_,(x,a,b)::r,h,⟨c,h2⟩=>⟨by omega,h2⟩
theorem OL.filter {p:Occ->Bool}:∀ {l:Int} {O:List Occ},OL l O->OL l (O.filter p)
 |_,[],_=>trivial
 |l,(x,a,b)::r,⟨d,h2,e,f,g,c⟩=>by
  rw [QjR];split
  ·exact ⟨d,h2,e,f,g,c.filter⟩
  ·exact (c.filter).mono (by omega)
theorem OL.mem:∀ {l:Int} {O:List Occ},OL l O->∀ q∈O,l<q.1 /\ -1000<=q.2.1/\q.2.1<q.2.2/\q.2.2<=20000/\q.1<=1000
 |_,[],_,_,h=>nomatch h
 |l,(x,a,b)::r,⟨c,h2,d,e,f,g⟩,q,h=>by
  cases h with
  |head=>exact ⟨c,h2,d,e,f⟩
  |tail _ h=>have:=g.mem q h;exact ⟨by omega,this.2⟩
def TI (T:List Occ):Prop:=∀ (r:Nat) (x a b:Int),T[r]? = some (x,a,b)->a<b->x=(r:Int) /\ -1000<=a/\b<=20000
theorem TI.add {T:List Occ} (h:TI T) {r:Nat} {f t:Int} (hf : -1000<=f) (ht:t<=20000):TI (C0 T r f t):=by
 unfold C0;cases e:T[r]? with
 |none=>exact h
 |some q=>
  obtain ⟨x,a,b⟩:=q;dsimp only;have hr:=(List.getElem?_eq_some_iff.1 e).1;by_cases al:a<b
  ·have c:=h r x a b e al;rw [if_pos al];intro r' x' a' b' e' aj;rw [List.getElem?_set] at e';by_cases ak:r=r'
   ·subst ak;rw [if_pos rfl,if_pos hr] at e';cases e';refine ⟨rfl,?_,?_⟩ <;> split <;> omega
   ·rw [QjA ak] at e';exact h r' x' a' b' e' aj
  ·rw [QjA al];intro r' x' a' b' e' aj;rw [List.getElem?_set] at e';by_cases ak:r=r'
   ·subst ak;rw [if_pos rfl,if_pos hr] at e';cases e';exact ⟨rfl,hf,ht⟩
   ·rw [QjA ak] at e';exact h r' x' a' b' e' aj
theorem TI.ol:∀ {T:List Occ} {k:Nat},T.length+k<=1000->(∀ (r:Nat) (x a b:Int),T[r]? = some (x,a,b)->a<b->x=((r+k:Nat):Int) /\ -1000<=a/\b<=20000)->OL ((k:Int)-1) (T.filter Sv)
 |[],_,_,_=>trivial
 |(x,a,b)::T,k,hk,h=>by
  have ih:=TI.ol (T:=T) (k:=k+1) (by simp at hk;omega) fun r x a b e aj=>by
   have:=h (r+1) x a b e aj;rw [show r+1+k=r+(k+1) by omega] at this;exact this
  rw [show ((k+1:Nat):Int)-1=(k:Int) by omega] at ih;have c:=h 0 x a b rfl;rw [QjR];by_cases aj:a<b
  ·have c:=c aj;rw [show Sv (x,a,b)=true by simpa [Sv] using aj,if_pos rfl];have hx:x=(k:Int):=by simpa using c.1
   refine ⟨by omega,c.2.1,aj,c.2.2,by simp at hk;omega,?_⟩;rw [hx];exact ih
  ·rw [show Sv (x,a,b)=false by simpa [Sv] using aj,QjA (by simp)];exact ih.mono (by omega)
section
variable {St Pt Se Li s:LL} (h:RtF St Pt Se Li s) {nm:List UInt8} {tl sp ac br bf af:Int} (hk:StkN tl sp ac br) (hb0:0<=bf) (hb1:bf<=60) (ha0:0<=af) (ha1:af<=5000)
include h hk hb0 hb1 ha0 ha1
theorem Qg9 {i:Nat} (hi:i<s.length) : -1000<=fr Se s (ZM Se s nm tl sp ac br) bf i/\tu Se s (ZM Se s nm tl sp ac br) af i<=20000:=by
 have l2:=h.l2;have hr:=Fk h (nm:=nm) hk;have b:=Q7l h (nm:=nm) hk (i:=i-1) (j:=i) (by omega) hi;have c1:=Q13 (a:=fLV Se s (ZM Se s nm tl sp ac br) i) (by omega) (show (1:Int)<=1000 by decide);unfold fr tu;constructor
 ·split <;> omega
 ·split <;> omega
theorem Q9W:OL (-1) (Q5k St Pt Se Li s (ZM Se s nm tl sp ac br) bf af)/\(Q5k St Pt Se Li s (ZM Se s nm tl sp ac br) bf af).length<=6:=by
 have al:=B4 h.lay;have aj:=fun i (hi:i<s.length)=>Qg9 h (nm:=nm) hk hb0 hb1 ha0 ha1 hi
 have l2:=h.l2;unfold Q5k;generalize ZM Se s nm tl sp ac br=X at aj;have hT:∀ i,i<=s.length->TI (MS Se.length Pt.length Li s (fr Se s X bf) (tu Se s X af) i):=by
  intro i;induction i with
  |zero=>
   intro _ r x a b e ak;have:=List.getElem?_eq_some_iff.1 e;obtain ⟨d,h2⟩:=this;simp only [MS,List.getElem_replicate] at h2;cases h2;omega
  |succ i ih=>
   intro hi;have ih:=ih (by omega);have q:=aj i (by omega);rw [MS];split
   ·exact ih.add q.1 q.2
   ·have c:=aj (i-1) (by omega);split
    ·exact ih.add q.1 q.2
    ·exact (ih.add q.1 q.2).add q.1 c.2
 constructor
 ·have:=TI.ol (T:=MS Se.length Pt.length Li s (fr Se s X bf) (tu Se s X af) s.length) (k:=0) (by rw [Pq];omega) (fun r x a b e ak=>hT _ (QjC _) r x a b e ak);exact this
 ·have hc:=Q73 h.hops (fun i=>((MS Se.length Pt.length Li s (fr Se s X bf) (tu Se s X af) (i+1)).filter Sv).length-1) (fun i=>?_) ?_ (s.length-1) (by omega)
  ·rw [show s.length-1+1=s.length by omega] at hc;omega
  ·rw [Q1T];have c1:=Q2G (T:=MS Se.length Pt.length Li s (fr Se s X bf) (tu Se s X af) (i+1)) (r:=sec s (i+1)) (f:=fr Se s X bf (i+1)) (t:=tu Se s X af (i+1));split
   ·omega
   ·have g:=Q2G (T:=C0 (MS Se.length Pt.length Li s (fr Se s X bf) (tu Se s X af) (i+1)) (sec s (i+1)) (fr Se s X bf (i+1)) (tu Se s X af (i+1))) (r:=Se.length+(pt Li s (i+1)).toNat) (f:=fr Se s X bf (i+1)) (t:=tu Se s X af i);omega
  ·have c1:=Q2G (T:=MS Se.length Pt.length Li s (fr Se s X bf) (tu Se s X af) 0) (r:=sec s 0) (f:=fr Se s X bf 0) (t:=tu Se s X af 0);have c0:((MS Se.length Pt.length Li s (fr Se s X bf) (tu Se s X af) 0).filter Sv).length=0:=by
    rw [MS];simp [Sv]
   show ((MS Se.length Pt.length Li s (fr Se s X bf) (tu Se s X af) 1).filter Sv).length-1<=0;rw [MS,if_pos rfl];omega
end

end Go.Vx
namespace Go.Vx
variable {R:Type}
def Vm (n:Nat) (d:Int) (h2:LL) (c:Int) (k0:Int->oP R) (k1:Int->Bool->oP R):Nat->Int->oP R
 | 0,_=>none
 | m+1,a=>bif decide (a<c) then gb true (Q1 h2 a) [] fun b=>gb true (b[0]?) oF fun f=>gb true (b[1]?) oF fun i=>gb true (b[2]?) oF fun j=>gb true (b[3]?) oF fun g=>gb true (pIw f) 0 fun h=>bif (h == d) then gb true (pIw g) 0 fun e=>k0 (if 60<e then e else 60) else Vm n d h2 c k0 k1 m (wJ (a+1)) else k1 a (decide (a<c))
def Hm (n:Nat) (c:Int) (d e f g a h i:LL) (a1:Int) (K:Int->oP R):oP R:= Vm n a1 a (a.length:Int) (fun b=>K b) (fun j k=>K 60) n 0
def Yl (n:Nat) (p:Int) (ad:LL) (q:Int) (f g h i:LL) (r:Int) (b c s t u v x:LL) (j y:D) (k0:Int->oP R) (k1:Int->Bool->LL->LL->oP R):Nat->Int->LL->LL->oP R
 | 0,_,_,_=>none
 | m+1,a,d,e=>bif decide (a<q) then gb true (Q1 ad a) [] fun aj=>gb true (aj[0]?) oF fun ak=>gb true (aj[1]?) oF fun al=>gb true (aj[2]?) oF fun dw=>gb true (aj[3]?) oF fun au=>gb true (pIw al) 0 fun am=>gb true (pIw au) 0 fun an=>bif (a == 0) then gb true (pSl 4 y) [] fun av=>bif (a == (wJ ((av.length:Int)-1))) then gb true (pIw al) 0 fun aw=>gb true (Hm n r b c s t u v x p some) 0 fun ax=>gb true (pIw ak) 0 fun ay=>gb true (Q1 c ay) [] fun ao=>gb true (ao[0]?) oF fun az=>gb true (ao[1]?) oF fun ba=>gb true (pIw j) 0 fun bb=>gb true (Q1 b bb) [] fun ae=>gb true (ae[0]?) oF fun bc=>gb true (ae[1]?) oF fun bd=>gb true (ae[2]?) oF fun be=>gb true (ae[3]?) oF fun bg=>gb true (ae[4]?) oF fun bh=>gb true (pSl 2 az) [] fun bi=>gb true (pIw ba) 0 fun bj=>gb true (Nk bc) [] fun bk=>gb true (pIw bd) 0 fun bl=>gb true (pIw be) 0 fun bm=>gb true (pIw bg) 0 fun bn=>gb true (pIw bh) 0 fun bo=>gb true (Wu n f g h i bi bj bk bl bm bn bo 60 (wJ (aw+ax)) Tu3) ([],0,0) fun z=>bif (z.2.2 != 0) then k0 z.2.2 else gb true (Ym ((d.length+[[D.sl 3 z.1]].length)*24)) () fun dx=>gb true (Ym ((e.length+[[Q4 z.2.1]].length)*8)) () fun dy=>Yl n p ad q f g h i r b c s t u v x j y k0 k1 m (wJ (a+1)) (d++[[D.sl 3 z.1]]) (e++[[Q4 z.2.1]]) else gb true (pIw ak) 0 fun bp=>gb true (Q1 c bp) [] fun ap=>gb true (ap[0]?) oF fun bq=>gb true (ap[1]?) oF fun br=>gb true (pIw j) 0 fun bt=>gb true (Q1 b bt) [] fun ag=>gb true (ag[0]?) oF fun bu=>gb true (ag[1]?) oF fun bv=>gb true (ag[2]?) oF fun bx=>gb true (ag[3]?) oF fun bz=>gb true (ag[4]?) oF fun ca=>gb true (pSl 2 bq) [] fun cb=>gb true (pIw br) 0 fun cc=>gb true (Nk bu) [] fun ce=>gb true (pIw bv) 0 fun cf=>gb true (pIw bx) 0 fun cg=>gb true (pIw bz) 0 fun ch=>gb true (pIw ca) 0 fun ci=>gb true (Wu n f g h i cb cc ce cf cg ch ci 60 (wJ (am+an)) Tu3) ([],0,0) fun aa=>bif (aa.2.2 != 0) then k0 aa.2.2 else gb true (Ym ((d.length+[[D.sl 3 aa.1]].length)*24)) () fun dz=>gb true (Ym ((e.length+[[Q4 aa.2.1]].length)*8)) () fun ea=>Yl n p ad q f g h i r b c s t u v x j y k0 k1 m (wJ (a+1)) (d++[[D.sl 3 aa.1]]) (e++[[Q4 aa.2.1]]) else gb true (pSl 4 y) [] fun cj=>bif (a == (wJ ((cj.length:Int)-1))) then gb true (pIw al) 0 fun ck=>gb true (Hm n r b c s t u v x p some) 0 fun cm=>gb true (pIw ak) 0 fun cn=>gb true (Q1 c cn) [] fun aq=>gb true (aq[0]?) oF fun co=>gb true (aq[1]?) oF fun cp=>gb true (pIw j) 0 fun cq=>gb true (Q1 b cq) [] fun ah=>gb true (ah[0]?) oF fun cr=>gb true (ah[1]?) oF fun cs=>gb true (ah[2]?) oF fun ct=>gb true (ah[3]?) oF fun cu=>gb true (ah[4]?) oF fun cv=>gb true (pSl 2 co) [] fun cw=>gb true (pIw cp) 0 fun cx=>gb true (Nk cr) [] fun cy=>gb true (pIw cs) 0 fun cz=>gb true (pIw ct) 0 fun da=>gb true (pIw cu) 0 fun db=>gb true (pIw cv) 0 fun dc=>gb true (Wu n f g h i cw cx cy cz da db dc 0 (wJ (ck+cm)) Tu3) ([],0,0) fun ab=>bif (ab.2.2 != 0) then k0 ab.2.2 else gb true (Ym ((d.length+[[D.sl 3 ab.1]].length)*24)) () fun eb=>gb true (Ym ((e.length+[[Q4 ab.2.1]].length)*8)) () fun ec=>Yl n p ad q f g h i r b c s t u v x j y k0 k1 m (wJ (a+1)) (d++[[D.sl 3 ab.1]]) (e++[[Q4 ab.2.1]]) else gb true (pIw ak) 0 fun dd=>gb true (Q1 c dd) [] fun ar=>gb true (ar[0]?) oF fun de=>gb true (ar[1]?) oF fun df=>gb true (pIw j) 0 fun dg=>gb true (Q1 b dg) [] fun ai=>gb true (ai[0]?) oF fun dh=>gb true (ai[1]?) oF fun di=>gb true (ai[2]?) oF fun dj=>gb true (ai[3]?) oF fun dk=>gb true (ai[4]?) oF fun dl=>gb true (pSl 2 de) [] fun dn=>gb true (pIw df) 0 fun dp=>gb true (Nk dh) [] fun dq=>gb true (pIw di) 0 fun dr=>gb true (pIw dj) 0 fun ds=>gb true (pIw dk) 0 fun dt=>gb true (pIw dl) 0 fun du=>gb true (Wu n f g h i dn dp dq dr ds dt du 0 (wJ (am+an)) Tu3) ([],0,0) fun ac=>bif (ac.2.2 != 0) then k0 ac.2.2 else gb true (Ym ((d.length+[[D.sl 3 ac.1]].length)*24)) () fun ed=>gb true (Ym ((e.length+[[Q4 ac.2.1]].length)*8)) () fun ee=>Yl n p ad q f g h i r b c s t u v x j y k0 k1 m (wJ (a+1)) (d++[[D.sl 3 ac.1]]) (e++[[Q4 ac.2.1]]) else k1 a (decide (a<q)) d e
def Wg (n:Nat) (h2:LL) (c:Int) (d e f g:LL) (h:Int) (i j k l o p q:LL) (k0:Int->oP R) (k1:Int->Bool->LL->LL->oP R):Nat->Int->LL->LL->oP R
 | 0,_,_,_=>none
 | m+1,a,r,s=>bif decide (a<c) then gb true (Q1 h2 a) [] fun b=>gb true (b[0]?) oF fun aa=>gb true (b[1]?) oF fun v=>gb true (b[2]?) oF fun ab=>gb true (b[3]?) oF fun t=>gb true (pSl 4 t) [] fun u=>Yl n a u (u.length:Int) d e f g h i j k l o p q v t (fun x=>k0 x) (fun ac ad y z=>Wg n h2 c d e f g h i j k l o p q k0 k1 m (wJ (a+1)) y z) n 0 r s else k1 a (decide (a<c)) r s
def Ts (n:Nat) (b c d e:LL) (f:Int) (g h a i j k l:LL) (K:LL->LL->Int->oP R):oP R:= gb true (WS n b c d e f g h a i j k l some) 0 fun m=>bif (m != 0) then K [] [] 1 else Wg n a (a.length:Int) b c d e f g h a i j k l (fun o=>K [] [] o) (fun r s p q=>K p q 0) n 0 [] []

def Jq (n:Nat) (c:Int) (a:LL) (k0:D->D->D->D->oP R) (k1:Int->Bool->oP R):Nat->Int->oP R
 | 0,_=>none
 | m+1,h2=>bif (decide (h2<(a.length:Int))) then gb true (Q1 a h2) [] fun d=>gb true (d[0]?) oF fun e=>gb true (pIw e) 0 fun f=>bif (f == c) then gb true (Q1 a h2) [] fun b=>gb true (b[0]?) oF fun g=>gb true (b[1]?) oF fun h=>gb true (b[2]?) oF fun i=>gb true (b[3]?) oF fun j=>k0 g h i j else Jq n c a k0 k1 m (wJ (h2+1)) else k1 h2 (decide (h2<(a.length:Int)))
def KT (n:Nat) (a:LL) (a1:Int) (K:D->D->D->D->Bool->oP R):oP R:= Jq n a1 a (fun b c d e=>K b c d e true) (fun f g=>K (Q4 0) (Q4 0) (Q4 0) (Q4 0) false) n 0

def YV (n:Nat) (g:Int) (k l o p:LL) (q:Int) (e r s t h u v:LL) (x d:D) (k0:Int->Bool->LL->LL->oP R):Nat->Int->LL->LL->oP R
 | 0,_,_,_=>none
 | m+1,a,i,j=>gb true (pSl 4 d) [] fun aj=>bif (decide (a<(aj.length:Int))) then gb true (pSl 4 d) [] fun aw=>gb true (Q1 aw a) [] fun ax=>gb true (ax[1]?) oF fun ay=>gb true (pIw ay) 0 fun ak=>bif (a == 0) then jn (fun (az:Int)=>gb true (Y1 n q e r s t h u v g a Tu2) ((.bool false),(.bool false)) fun al=>gb true (pIw x) 0 fun ba=>gb true (Q1 e ba) [] fun y=>gb true (y[0]?) oF fun bb=>gb true (y[1]?) oF fun bc=>gb true (y[2]?) oF fun bd=>gb true (y[3]?) oF fun be=>gb true (y[4]?) oF fun bg=>gb true (pSl 2 al.1) [] fun bh=>gb true (pIw al.2) 0 fun bi=>gb true (Nk bb) [] fun bj=>gb true (pIw bc) 0 fun bk=>gb true (pIw bd) 0 fun bl=>gb true (pIw be) 0 fun bm=>gb true (pIw bg) 0 fun bn=>gb true (Ki n k l o p bh bi bj bk bl bm bn 60 az Tu3) ([],0,0) fun ac=>gb true (Ym ((i.length+[[D.sl 3 ac.1]].length)*24)) () fun ek=>gb true (Ym ((j.length+[[Q4 ac.2.1]].length)*8)) () fun el=>YV n g k l o p q e r s t h u v x d k0 m (wJ (a+1)) (i++[[D.sl 3 ac.1]]) (j++[[Q4 ac.2.1]])) fun am=>gb true (KT n h g Tu5) ((.bool false),(.bool false),(.bool false),(.bool false),false) fun an=>gb true (pSl 4 d) [] fun bo=>bif (decide (a<(wJ ((bo.length:Int)-1)))) then gb true (pSl 4 d) [] fun bp=>gb true (Q1 bp a) [] fun bq=>gb true (bq[1]?) oF fun br=>gb true (pIw br) 0 fun bt=>gb true (pSl 4 d) [] fun bu=>gb true (Q1 bu a) [] fun bv=>gb true (bv[3]?) oF fun bx=>gb true (pIw bx) 0 fun bz=>am (wJ (bt+bz)) else bif an.2.2.2.2 then gb true (pSl 4 d) [] fun ca=>gb true (Q1 ca a) [] fun cb=>gb true (cb[1]?) oF fun cc=>gb true (pIw cc) 0 fun ce=>gb true (pIw an.2.2.2.1) 0 fun i64=>am (wJ (ce+(if 60<i64 then i64 else 60))) else gb true (Y1 n q e r s t h u v g a Tu2) ((.bool false),(.bool false)) fun ao=>gb true (pIw x) 0 fun cf=>gb true (Q1 e cf) [] fun z=>gb true (z[0]?) oF fun cg=>gb true (z[1]?) oF fun ch=>gb true (z[2]?) oF fun ci=>gb true (z[3]?) oF fun cj=>gb true (z[4]?) oF fun ck=>gb true (pSl 2 ao.1) [] fun cm=>gb true (pIw ao.2) 0 fun cn=>gb true (Nk cg) [] fun co=>gb true (pIw ch) 0 fun cp=>gb true (pIw ci) 0 fun cq=>gb true (pIw cj) 0 fun cr=>gb true (pIw ck) 0 fun cs=>gb true (Ki n k l o p cm cn co cp cq cr cs 60 (wJ (ak+60)) Tu3) ([],0,0) fun ad=>gb true (Ym ((i.length+[[D.sl 3 ad.1]].length)*24)) () fun em=>gb true (Ym ((j.length+[[Q4 ad.2.1]].length)*8)) () fun en=>YV n g k l o p q e r s t h u v x d k0 m (wJ (a+1)) (i++[[D.sl 3 ad.1]]) (j++[[Q4 ad.2.1]]) else jn (fun (ct:Int)=>gb true (Y1 n q e r s t h u v g a Tu2) ((.bool false),(.bool false)) fun ap=>gb true (pIw x) 0 fun cu=>gb true (Q1 e cu) [] fun aa=>gb true (aa[0]?) oF fun cv=>gb true (aa[1]?) oF fun cw=>gb true (aa[2]?) oF fun cx=>gb true (aa[3]?) oF fun cy=>gb true (aa[4]?) oF fun cz=>gb true (pSl 2 ap.1) [] fun da=>gb true (pIw ap.2) 0 fun db=>gb true (Nk cv) [] fun dc=>gb true (pIw cw) 0 fun dd=>gb true (pIw cx) 0 fun de=>gb true (pIw cy) 0 fun df=>gb true (pIw cz) 0 fun dg=>gb true (Ki n k l o p da db dc dd de df dg 0 ct Tu3) ([],0,0) fun ae=>gb true (Ym ((i.length+[[D.sl 3 ae.1]].length)*24)) () fun eo=>gb true (Ym ((j.length+[[Q4 ae.2.1]].length)*8)) () fun ep=>YV n g k l o p q e r s t h u v x d k0 m (wJ (a+1)) (i++[[D.sl 3 ae.1]]) (j++[[Q4 ae.2.1]])) fun aq=>gb true (KT n h g Tu5) ((.bool false),(.bool false),(.bool false),(.bool false),false) fun ar=>gb true (pSl 4 d) [] fun dh=>bif (decide (a<(wJ ((dh.length:Int)-1)))) then gb true (pSl 4 d) [] fun di=>gb true (Q1 di a) [] fun dj=>gb true (dj[1]?) oF fun dk=>gb true (pIw dk) 0 fun dl=>gb true (pSl 4 d) [] fun dn=>gb true (Q1 dn a) [] fun dp=>gb true (dp[3]?) oF fun dq=>gb true (pIw dq) 0 fun dr=>aq (wJ (dl+dr)) else bif ar.2.2.2.2 then gb true (pSl 4 d) [] fun ds=>gb true (Q1 ds a) [] fun dt=>gb true (dt[1]?) oF fun du=>gb true (pIw du) 0 fun dw=>gb true (pIw ar.2.2.2.1) 0 fun au=>aq (wJ (dw+(if 60<au then au else 60))) else gb true (Y1 n q e r s t h u v g a Tu2) ((.bool false),(.bool false)) fun av=>gb true (pIw x) 0 fun dx=>gb true (Q1 e dx) [] fun ab=>gb true (ab[0]?) oF fun dy=>gb true (ab[1]?) oF fun dz=>gb true (ab[2]?) oF fun ea=>gb true (ab[3]?) oF fun eb=>gb true (ab[4]?) oF fun ec=>gb true (pSl 2 av.1) [] fun ed=>gb true (pIw av.2) 0 fun ee=>gb true (Nk dy) [] fun ef=>gb true (pIw dz) 0 fun eg=>gb true (pIw ea) 0 fun eh=>gb true (pIw eb) 0 fun ei=>gb true (pIw ec) 0 fun ej=>gb true (Ki n k l o p ed ee ef eg eh ei ej 0 (wJ (ak+60)) Tu3) ([],0,0) fun ag=>gb true (Ym ((i.length+[[D.sl 3 ag.1]].length)*24)) () fun eq=>gb true (Ym ((j.length+[[Q4 ag.2.1]].length)*8)) () fun er=>YV n g k l o p q e r s t h u v x d k0 m (wJ (a+1)) (i++[[D.sl 3 ag.1]]) (j++[[Q4 ag.2.1]]) else k0 a (decide (a<(aj.length:Int))) i j
def V1 (n:Nat) (c d e f:LL) (g:Int) (h i a j k l o:LL) (k0:Int->Bool->LL->LL->oP R):Nat->Int->LL->LL->oP R
 | 0,_,_,_=>none
 | m+1,h2,p,q=>bif (decide (h2<(a.length:Int))) then gb true (Q1 a h2) [] fun b=>gb true (b[0]?) oF fun v=>gb true (b[1]?) oF fun r=>gb true (b[2]?) oF fun x=>gb true (b[3]?) oF fun s=>YV n h2 c d e f g h i a j k l o r s (fun y z t u=>V1 n c d e f g h i a j k l o k0 m (wJ (h2+1)) t u) n 0 p q else k0 h2 (decide (h2<(a.length:Int))) p q
def Rr (n:Nat) (a b c d:LL) (e:Int) (f g h i j k l:LL) (K:LL->LL->Int->oP R):oP R:= gb true (Zw n a b c d e f g h i j k l some) 0 fun m=>bif (m != 0) then K [] [] 1 else V1 n a b c d e f g h i j k l (fun q r o p=>K o p 0) n 0 [] []

end Go.Vx
namespace Go.Vx
def flat {α:Type} (nr:Nat->Nat) (f:Nat->Nat->α):Nat->List α
 |0=>[]
 |i+1=>flat nr f i++(List.range (nr i)).map (f i)
def base (nr:Nat->Nat):Nat->Nat
 |0=>0
 |i+1=>base nr i+nr i
theorem ZT {α:Type} {nr:Nat->Nat} {f:Nat->Nat->α}:∀ {i:Nat},(flat nr f i).length=base nr i
 |0=>rfl
 |i+1=>by rw [flat,QjM,ZT,base,Qjw,List.length_range]
theorem SB {nr:Nat->Nat} {i:Nat}:∀ {j:Nat},i<j->base nr i+nr i<=base nr j
 |0,h=>by omega
 |j+1,h=>by
  rw [base];by_cases ac:i=j
  ·subst ac;omega
  ·have:=SB (nr:=nr) (i:=i) (j:=j) (by omega);omega
theorem Q1G {α:Type} {nr:Nat->Nat} {f:Nat->Nat->α} {i k:Nat} (hk:k<nr i):∀ {L:Nat},i<L->(flat nr f L)[base nr i+k]? = some (f i k)
 |0,h=>by omega
 |L+1,h=>by
  rw [flat];by_cases ac:i=L
  ·subst ac;rw [List.getElem?_append_right (by rw [ZT];omega),ZT,Nat.add_sub_cancel_left,QjL,List.getElem?_range hk];rfl
  ·have:=SB (nr:=nr) (i:=i) (j:=L) (by omega);rw [List.getElem?_append_left (by rw [ZT];omega)];exact Q1G hk (by omega)
theorem Q6H {nr:Nat->Nat} {a:Nat}:∀ {L:Nat},a<base nr L->∃ i k,i<L/\k<nr i/\a=base nr i+k
 |0,h=>by simp [base] at h
 |L+1,h=>by
  rw [base] at h;by_cases ha:a<base nr L
  ·obtain ⟨i,k,c,h2,b⟩:=Q6H ha;exact ⟨i,k,by omega,h2,b⟩
  ·exact ⟨L,a-base nr L,by omega,by omega,by omega⟩
theorem Aa {nr:Nat->Nat} {i k i' k':Nat} (h:k<nr i) (h':k'<nr i') (e:base nr i+k=base nr i'+k'):i=i'/\k=k':=by
 rcases Nat.lt_trichotomy i i' with hi | hi | hi
 ·have:=SB (nr:=nr) hi;omega
 ·subst hi;exact ⟨rfl,by omega⟩
 ·have:=SB (nr:=nr) hi;omega
def Kr (Ls:LL) (i:Nat):LL:=match Ls[i]? with
 |some [_,_,_,.sl _ r]=>r
 |_=>[]
def wOf (Ls:LL) (i:Nat):Int:=match Ls[i]? with
 |some [_,_,.int _ w,_]=>w
 |_=>0
def rF (Ls:LL) (i k j:Nat):Int:=match ((Kr Ls i).getD k [])[j]? with
 |some (.int _ x)=>x
 |_=>0
def Qhy (Ro:LL) (r:Int):LL:=match Ro[r.toNat]? with
 |some [.sl _ s,_]=>s
 |_=>[]
structure Cx where
 G:Geo
 Ro:LL
 Ls:LL
 T:List Tup
 nm:List UInt8
 tl:Int
 sp:Int
 ac:Int
 br:Int
namespace Cx
variable (X:Cx)
def nr (i:Nat):Nat:=(Kr X.Ls i).length
def w (i:Nat):Int:=wOf X.Ls i
def ex (i k:Nat):Int:=rF X.Ls i k 1
def mn (i k:Nat):Int:=rF X.Ls i k 2
def mx (i k:Nat):Int:=rF X.Ls i k 3
def st (i k:Nat):LL:=Qhy X.Ro (rF X.Ls i k 0)
def rn (i k:Nat):Run:=ZM X.G.Se (X.st i k) X.nm X.tl X.sp X.ac X.br
def tn (i:Nat):Option Tup:=X.T.find? fun t=>t.1 == i
def rest (i:Nat):Int:=match X.tn i with
 |some t=>if 60<t.2.2.2 then t.2.2.2 else 60
 |none=>60
def bf (k:Nat):Int:=if k=0 then 60 else 0
def af (i k:Nat):Int:=if k=X.nr i-1 then X.ex i k+X.rest i else X.ex i k+X.mx i k
def occ (i k:Nat):List Occ:=Q5k X.G.St X.G.Pt X.G.Se X.G.Li (X.st i k) (X.rn i k) (bf k) (X.af i k)
def run (i k:Nat):Int:=Q2M (X.rn i k)
def L:Nat:=X.Ls.length
structure OK:Prop where
 g:X.G.OK
 sk:StkN X.tl X.sp X.ac X.br
 gd:GoodP X.G X.Ro X.Ls
 l0:1<=X.Ls.length
 l1:X.Ls.length<=3
 tr:∀ t∈X.T,Q9v X.G X.Ro X.Ls t
 fd:(X.T.map (·.1)).Nodup
 td:(X.T.map (·.2.1)).Nodup
 tl:X.T.length<=20
structure RdOK (i k:Nat):Prop where
 row:(Kr X.Ls i)[k]? = some [Q4 (rF X.Ls i k 0),Q4 (X.ex i k),Q4 (X.mn i k),Q4 (X.mx i k)]
 ro:Q1 X.Ro (rF X.Ls i k 0)=some [D.sl 2 (X.st i k),Q4 0]
 rt:RtF X.G.St X.G.Pt X.G.Se X.G.Li (X.st i k)
 ex0:0<=X.ex i k
 ex1:X.ex i k<3
 mn0:0<=X.mn i k
 mn1:X.mn i k<=X.mx i k
 mn2:X.mx i k<=X.mn i k+3
 mn3:X.mn i k<=10
variable {X} (h:X.OK)
include h
theorem Gg {i:Nat} (hi:i<X.Ls.length):X.Ls[i]? = some [D.str (nmN i),Q4 0,Q4 (X.w i),D.sl 4 (Kr X.Ls i)]/\(X.nr i=1\/X.nr i=2)/\(0<=X.w i/\X.w i<4):=by
 obtain ⟨w,rides,a,h2,c,b⟩:=h.gd.ls i _ (Qjz hi);have e:X.Ls[i]? = some [D.str (nmN i),Q4 0,Q4 w,D.sl 4 rides]:=by rw [Qjz hi,a]
 have er:Kr X.Ls i=rides:=by unfold Kr;rw [e]
 have ew:X.w i=w:=by unfold Cx.w wOf;rw [e]
 refine ⟨by rw [er,ew,e],?_,by omega⟩;unfold nr;rw [er];rcases b with ⟨r,x,y,rfl,_⟩ | ⟨r,r',x,y,z,rfl,_,_⟩
 ·exact .inl rfl
 ·exact .inr rfl
theorem rd {i k:Nat} (hi:i<X.Ls.length) (hk:k<X.nr i):X.RdOK i k:=by
 obtain ⟨w,rides,d,h2,l,f⟩:=h.gd.ls i _ (Qjz hi);have e:X.Ls[i]? = some [D.str (nmN i),Q4 0,Q4 w,D.sl 4 rides]:=by rw [Qjz hi,d]
 have er:Kr X.Ls i=rides:=by unfold Kr;rw [e]
 have hr:∃ r x y b,rides[k]? = some r/\PW X.G X.Ro r x y b:=by
  unfold nr at hk;rw [er] at hk;rcases f with ⟨r,x,y,rfl,h⟩ | ⟨r,r',x,y,z,rfl,h,h'⟩
  ·obtain rfl:k=0:=by simpa using hk
   exact ⟨r,x,y,_,rfl,h⟩
  ·obtain rfl | rfl:k=0\/k=1:=by simp at hk;omega
   ·exact ⟨r,x,y,_,rfl,h⟩
   ·exact ⟨r',y,z,_,rfl,h'⟩
 obtain ⟨r,x,y,b,hr,rt,ex,mn,mx,s,rfl,c,g,m,n,o⟩:=hr;have eg:(Kr X.Ls i).getD k []=[Q4 rt,Q4 ex,Q4 mn,Q4 mx]:=by rw [er,Qjy,hr];rfl
 have a:rF X.Ls i k 0=rt:=by unfold rF;rw [eg];rfl
 have e1:X.ex i k=ex:=by unfold Cx.ex rF;rw [eg];rfl
 have e2:X.mn i k=mn:=by unfold Cx.mn rF;rw [eg];rfl
 have j:X.mx i k=mx:=by unfold Cx.mx rF;rw [eg];rfl
 have es:X.st i k=s:=by unfold st Qhy;rw [a,Int.toNat_natCast,c]
 exact ⟨by rw [a,e1,e2,j,er,hr],by rw [a,es,Qa,c],by rw [es];exact g.f h.g,by omega,by omega,by omega,by omega,by omega,by omega⟩
theorem Q1A {i:Nat}:60<=X.rest i/\X.rest i<=60:=by
 unfold rest;cases e:X.tn i with
 |none=>exact ⟨Int.le_refl _,Int.le_refl _⟩
 |some t=>
  have:=h.tr t (List.mem_of_find?_eq_some e);have a:=this.2.2.2.1;have h2:=this.2.2.2.2.2.1;dsimp only;split <;> omega
theorem Qh6 {i k:Nat} (hi:i<X.Ls.length) (hk:k<X.nr i):(0<=bf k/\bf k<=60)/\0<=X.af i k/\X.af i k<=5000:=by
 have r:=rd h hi hk;have:=Q1A h (i:=i);have:=r.ex0;have:=r.ex1;have:=r.mn0;have:=r.mn1;have:=r.mn2;have:=r.mn3;unfold bf af;constructor
 ·split <;> omega
 ·split <;> omega
theorem Qh1 {i k:Nat} (hi:i<X.Ls.length) (hk:k<X.nr i):Wu 400 X.G.St X.G.Pt X.G.Se X.G.Li (X.st i k) 0 X.nm X.tl X.sp X.ac X.br (bf k) (X.af i k) Tu3=some ((X.occ i k).map enc,X.run i k,0):=by
 have b:=Qh6 h hi hk;exact QeW (rd h hi hk).rt h.sk b.1.1 (by omega) b.2.1 (by omega)
theorem Qgu {i k:Nat} (hi:i<X.Ls.length) (hk:k<X.nr i):Ki 400 X.G.St X.G.Pt X.G.Se X.G.Li (X.st i k) 0 X.nm X.tl X.sp X.ac X.br (bf k) (X.af i k) Tu3=some ((X.occ i k).map enc,X.run i k,0):=by
 have b:=Qh6 h hi hk;exact Qes (rd h hi hk).rt h.sk b.1.1 (by omega) b.2.1 (by omega)
theorem QeM {i k:Nat} (hi:i<X.Ls.length) (hk:k<X.nr i):OL (-1) (X.occ i k)/\(X.occ i k).length<=6:=by
 have b:=Qh6 h hi hk;exact Q9W (rd h hi hk).rt h.sk b.1.1 b.1.2 b.2.1 b.2.2
theorem Rk {i k:Nat} (hi:i<X.Ls.length) (hk:k<X.nr i):0<=X.run i k/\X.run i k<=7001:=Fk (rd h hi hk).rt h.sk
theorem base_le:base X.nr X.L<=6:=by
 have a:=h.l1;have hb:∀ i,i<=X.Ls.length->base X.nr i<=2*i:=by
  intro i;induction i with
  |zero=>intro _;exact QjC _
  |succ i ih=>
   intro hi;have:=ih (by omega);have:=(Gg h (i:=i) (by omega)).2.1;rw [base];omega
 have:=hb X.Ls.length (QjC _);unfold L;omega
end Cx
theorem PlanR.cx {G:Geo} {per:Int} {Sk Ro Ls Ch Tu Sy De:LL} (h:PlanR G per Sk Ro Ls Ch Tu Sy De):∃ X:Cx,X.OK/\X.G=G/\X.Ro=Ro/\X.Ls=Ls/\Tu=X.T.map tuR/\Sk=[[D.str X.nm,Q4 X.tl,Q4 X.sp,Q4 X.ac,Q4 X.br]]:=by
 obtain ⟨T,hT,t1,t2,e,f⟩:=h.tu;obtain ⟨a,b,c,d,hS,hs⟩:=h.sk;exact ⟨⟨G,Ro,Ls,T,bs [88],a,b,c,d⟩,⟨h.ok,hs,h.good,h.l0,h.l1,t1,t2,e,f⟩,rfl,rfl,rfl,hT,hS⟩
def Kl (L:List (List Occ)):LL:=L.map fun o=>[D.sl 3 (o.map enc)]
theorem VQ {L:List (List Occ)} {o:List Occ}:Kl L++[[D.sl 3 (o.map enc)]]=Kl (L++[o]):=by simp [Kl]
theorem VT {L:List Int} {x:Int}:encI L++[[D.int .i64 x]]=encI (L++[x]):=by simp [encI]
theorem Jv {L:List (List Occ)}:(Kl L).length=L.length:=by simp [Kl]
theorem ZP {α:Type} {A:List α} {f:Nat->α} {k:Nat}:A++(List.range k).map f++[f k]=A++(List.range (k+1)).map f:=by simp [List.range_succ]
namespace Cx
variable {R:Type} {n:Nat} {X:Cx} (h:X.OK)
theorem Q9L {T:List Tup} (hT:T.length<=1000) {i:Nat} {k0:Int->oP R} {k1:Int->Bool->oP R} {E:oP R} (hk:∀ a b,k1 a b=E):∀ (ac:List Tup) (j m:Nat),T.drop j=ac->ac.length<m->Vm n (i:Int) (T.map tuR) ((T.length:Nat):Int) k0 k1 m (j:Int)=(match ac.find? (fun t=>t.1 == i) with | some t=>k0 (if 60<t.2.2.2 then t.2.2.2 else 60) | none=>E)
 |[],j,m+1,hd,_=>by
  have:=Uf hd;rw [Vm,show decide ((j:Int)<((T.length:Nat):Int))=false by simpa using this,Qjt,hk];rfl
 |(a,b,lo,hi)::ac,j,m+1,hd,hm=>by
  obtain ⟨e,aj,hj⟩:=Zg hd;rw [Vm,Q9 hj,cond_true,QK e];simp -implicitDefEqProofs only [Q0,tuR,Qjs,Qju,Q2,Qu (show j<=1000 by omega)];rw [List.find?_cons];by_cases ha:a=i
  ·subst ha;rw [show ((a:Int) == (a:Int))=true by simp,cond_true,show ((a,b,lo,hi).1 == a)=true by simp]
  ·rw [show ((a:Int) == (i:Int))=false by simp;omega,Qjt,show ((a,b,lo,hi).1 == i)=false by simpa using ha];exact Q9L hT hk ac (j+1) m aj (by simpa using hm)
theorem Q9Y {T:List Tup} (hT:T.length<=1000) {i:Nat} {k0:D->D->D->D->oP R} {k1:Int->Bool->oP R} {E:oP R} (hk:∀ a b,k1 a b=E):∀ (ac:List Tup) (j m:Nat),T.drop j=ac->ac.length<m->Jq n (i:Int) (T.map tuR) k0 k1 m (j:Int)=(match ac.find? (fun t=>t.1 == i) with | some t=>k0 (Q4 t.1) (Q4 t.2.1) (Q4 t.2.2.1) (Q4 t.2.2.2) | none=>E)
 |[],j,m+1,hd,_=>by
  have:=Uf hd;rw [Jq,Qjw,show decide ((j:Int)<((T.length:Nat):Int))=false by simpa using this,Qjt,hk];rfl
 |(a,b,lo,hi)::ac,j,m+1,hd,hm=>by
  obtain ⟨e,aj,hj⟩:=Zg hd;rw [Jq,Qjw,Q9 hj,cond_true,QK e];simp -implicitDefEqProofs only [Q0,tuR,Qjs,Qju,Q2,Qu (show j<=1000 by omega)];rw [List.find?_cons];by_cases ha:a=i
  ·subst ha;rw [show ((a:Int) == (a:Int))=true by simp,cond_true,show ((a,b,lo,hi).1 == a)=true by simp]
  ·rw [show ((a:Int) == (i:Int))=false by simp;omega,Qjt,show ((a,b,lo,hi).1 == i)=false by simpa using ha];exact Q9Y hT hk ac (j+1) m aj (by simpa using hm)
def skR (X:Cx):LL:=[[D.str X.nm,Q4 X.tl,Q4 X.sp,Q4 X.ac,Q4 X.br]]
include h
theorem Qhh {per:Int} {Sk Ro Ls Ch Sy De:LL} {i:Nat}:Hm 400 per Sk Ro Ls Ch (X.T.map tuR) Sy De (i:Int) (some:Int->Option Int)=some (X.rest i):=by
 unfold Hm;rw [Qjw];have:=Q9L (n:=400) (T:=X.T) (i:=i) (k0:=(some:Int->Option Int)) (k1:=fun _ _=>some 60) (by have:=h.tl;omega) (fun _ _=>rfl) X.T 0 400 rfl (by have:=h.tl;omega);refine this.trans ?_;unfold rest tn;cases X.T.find? fun t=>t.1 == i <;> rfl
theorem QaK {i:Nat} (K:D->D->D->D->Bool->oP R):KT 400 (X.T.map tuR) (i:Int) K=(match X.tn i with | some t=>K (Q4 t.1) (Q4 t.2.1) (Q4 t.2.2.1) (Q4 t.2.2.2) true | none=>K (Q4 0) (Q4 0) (Q4 0) (Q4 0) false):=
 Q9Y (n:=400) (T:=X.T) (i:=i) (k0:=fun a b c d=>K a b c d true) (k1:=fun _ _=>K (Q4 0) (Q4 0) (Q4 0) (Q4 0) false) (by have:=h.tl;omega) (fun _ _=>rfl) X.T 0 400 rfl (by have:=h.tl;omega)
theorem Qcj {per:Int} {Ch Sy De:LL} {i:Nat} (hi:i<X.Ls.length) {A:List (List Occ)} {B:List Int} (hA:A.length<=100) (hB:B.length<=100) {k0:Int->oP R} {K:LL->LL->oP R} {k1:Int->Bool->LL->LL->oP R} (hk:∀ a b u v,k1 a b u v=K u v) :
  Yl 400 (i:Int) (Kr X.Ls i) ((X.nr i:Nat):Int) X.G.St X.G.Pt X.G.Se X.G.Li per X.skR X.Ro X.Ls Ch (X.T.map tuR) Sy De (Q4 0) (D.sl 4 (Kr X.Ls i)) k0 k1 400 0 (Kl A) (encI B)=K (Kl (A++(List.range (X.nr i)).map (X.occ i))) (encI (B++(List.range (X.nr i)).map (X.run i))):=by
 have hl:=(Gg h hi).2.1;refine Qx (r:=fun m k=>Yl 400 (i:Int) (Kr X.Ls i) ((X.nr i:Nat):Int) X.G.St X.G.Pt X.G.Se X.G.Li per X.skR X.Ro X.Ls Ch (X.T.map tuR) Sy De (Q4 0) (D.sl 4 (Kr X.Ls i)) k0 k1 m k (Kl (A++(List.range k.toNat).map (X.occ i))) (encI (B++(List.range k.toNat).map (X.run i)))) (N:=X.nr i) (fun m k hk=>?_) (fun m=>?_) (X.nr i) 400 0 (by omega) (by omega) |> Eq.trans (by simp)
 ·simp only [Int.toNat_natCast];have r:=rd h hi hk;have rr:=Q1A h (i:=i);have l:=r.ex0;have e1:=r.ex1;have e2:=r.mn0;have n:=r.mn1;have o:=r.mn2;have p:=r.mn3;have hh:=Qh1 h hi hk;have al:Q1 (Kr X.Ls i) (k:Int)=some [Q4 (rF X.Ls i k 0),Q4 (X.ex i k),Q4 (X.mn i k),Q4 (X.mx i k)]:=by rw [Qa,r.row]
  have an:Q1 X.skR 0=some [D.str X.nm,Q4 X.tl,Q4 X.sp,Q4 X.ac,Q4 X.br]:=rfl;have aq:=r.ro;have hw:wJ (((List.length (Kr X.Ls i):Nat):Int)-1)=((X.nr i-1:Nat):Int):=JE (k:=X.nr i) (by omega) (by omega);have d:Ym (((Kl (A++(List.range k).map (X.occ i))).length+List.length [[D.sl 3 ((X.occ i k).map enc)]])*24)=some ():=XS (by simp [Jv];omega);have e:Ym (((encI (B++(List.range k).map (X.run i))).length+List.length [[D.int .i64 (X.run i k)]])*8)=some ():=XS (by simp [Jf];omega);have ak:=Qhh h (per:=per) (Sk:=X.skR) (Ro:=X.Ro) (Ls:=X.Ls) (Ch:=Ch) (Sy:=Sy) (De:=De) (i:=i);have ao:((k:Int) == ((X.nr i-1:Nat):Int))=decide (k=X.nr i-1):=by
   by_cases hc:k=X.nr i-1
   ·rw [Qjx hc];simp;omega
   ·rw [Qjv hc];simp;omega
  have f:((k:Int) == 0)=decide (k=0):=by
   by_cases hc:k=0
   ·rw [Qjx hc];simp;omega
   ·rw [Qjv hc];simp;omega
  have g:wJ (X.ex i k+X.rest i)=X.ex i k+X.rest i:=Q6 (by omega) (by omega);have j:wJ (X.ex i k+X.mx i k)=X.ex i k+X.mx i k:=Q6 (by omega) (by omega);rw [Yl,Q9 hk,cond_true,al];simp -implicitDefEqProofs only [Q0,Qjs,Qju,Q2,QA,XE,hw,ao,f,ak,aq,an,g,j,Qu (show k<=1000 by omega)];unfold bf af at hh;by_cases c1:k=0 <;> by_cases c:k=X.nr i-1
  ·simp -implicitDefEqProofs only [if_pos c1,if_pos c] at hh;simp -implicitDefEqProofs only [Qjx c1,Qjx c,cond_true,hh,Q0,show ((0:Int) != 0)=false from rfl,Qjt,d,e,VQ,VT,ZP]
  ·simp -implicitDefEqProofs only [if_pos c1,QjA c] at hh;simp -implicitDefEqProofs only [Qjx c1,Qjv c,cond_true,hh,Q0,show ((0:Int) != 0)=false from rfl,Qjt,d,e,VQ,VT,ZP]
  ·simp -implicitDefEqProofs only [QjA c1,if_pos c] at hh;simp -implicitDefEqProofs only [Qjv c1,Qjx c,cond_true,hh,Q0,show ((0:Int) != 0)=false from rfl,Qjt,d,e,VQ,VT,ZP]
  ·simp -implicitDefEqProofs only [QjA c1,QjA c] at hh;simp -implicitDefEqProofs only [Qjv c1,Qjv c,cond_true,hh,Q0,show ((0:Int) != 0)=false from rfl,Qjt,d,e,VQ,VT,ZP]
 ·simp only [Int.toNat_natCast];rw [Yl,Ql,Qjt,hk]
end Cx

namespace Cx
variable {R:Type} {n:Nat} {X:Cx} (h:X.OK)
include h
theorem Q95 {per:Int} {Sk Ch Tu Sy De:LL} {i k:Nat} (hi:i<X.Ls.length) (hk:k<X.nr i) (K:D->D->oP R):Y1 n per Sk X.Ro X.Ls Ch Tu Sy De (i:Int) (k:Int) K=K (D.sl 2 (X.st i k)) (Q4 0):=by
 have r:=rd h hi hk;unfold Y1;rw [Qa,(Gg h hi).1];simp -implicitDefEqProofs only [Q0,Qjs,Qju,Q2,QA,Qa,r.row,r.ro]
theorem QdB {per:Int} {Ch Sy De:LL} {i:Nat} (hi:i<X.Ls.length) {A:List (List Occ)} {B:List Int} (hA:A.length<=100) (hB:B.length<=100) {K:LL->LL->oP R} {k1:Int->Bool->LL->LL->oP R} (hk:∀ a b u v,k1 a b u v=K u v) :
  YV 400 (i:Int) X.G.St X.G.Pt X.G.Se X.G.Li per X.skR X.Ro X.Ls Ch (X.T.map tuR) Sy De (Q4 0) (D.sl 4 (Kr X.Ls i)) k1 400 0 (Kl A) (encI B)=K (Kl (A++(List.range (X.nr i)).map (X.occ i))) (encI (B++(List.range (X.nr i)).map (X.run i))):=by
 have hl:=(Gg h hi).2.1;refine Qx (r:=fun m k=>YV 400 (i:Int) X.G.St X.G.Pt X.G.Se X.G.Li per X.skR X.Ro X.Ls Ch (X.T.map tuR) Sy De (Q4 0) (D.sl 4 (Kr X.Ls i)) k1 m k (Kl (A++(List.range k.toNat).map (X.occ i))) (encI (B++(List.range k.toNat).map (X.run i)))) (N:=X.nr i) (fun m k hk=>?_) (fun m=>?_) (X.nr i) 400 0 (by omega) (by omega) |> Eq.trans (by simp)
 ·simp only [Int.toNat_natCast];have r:=rd h hi hk;have rr:=Q1A h (i:=i);have y:=r.ex0;have e1:=r.ex1;have e2:=r.mn0;have z:=r.mn1;have e4:=r.mn2;have e5:=r.mn3;have hh:=Qgu h hi hk;have an:Q1 (Kr X.Ls i) (k:Int)=some [Q4 (rF X.Ls i k 0),Q4 (X.ex i k),Q4 (X.mn i k),Q4 (X.mx i k)]:=by rw [Qa,r.row]
  have ao:Q1 X.skR 0=some [D.str X.nm,Q4 X.tl,Q4 X.sp,Q4 X.ac,Q4 X.br]:=rfl;have hw:wJ (((List.length (Kr X.Ls i):Nat):Int)-1)=((X.nr i-1:Nat):Int):=JE (k:=X.nr i) (by omega) (by omega);have d:Ym (((Kl (A++(List.range k).map (X.occ i))).length+List.length [[D.sl 3 ((X.occ i k).map enc)]])*24)=some ():=XS (by simp [Jv];omega);have f:Ym (((encI (B++(List.range k).map (X.run i))).length+List.length [[D.int .i64 (X.run i k)]])*8)=some ():=XS (by simp [Jf];omega);have g:((k:Int) == 0)=decide (k=0):=by
   by_cases hc:k=0
   ·rw [Qjx hc];simp;omega
   ·rw [Qjv hc];simp;omega
  have j:decide ((k:Int)<((X.nr i-1:Nat):Int)) = !decide (k=X.nr i-1):=by
   by_cases hc:k=X.nr i-1
   ·rw [Qjx hc];exact Qjv (by omega)
   ·rw [Qjv hc];exact Qjx (by omega)
  have o:wJ (X.ex i k+60)=X.ex i k+60:=Q6 (by omega) (by omega);have l:wJ (X.ex i k+X.mx i k)=X.ex i k+X.mx i k:=Q6 (by omega) (by omega);have p:∀ t,X.tn i=some t->wJ (X.ex i k+(if 60<t.2.2.2 then t.2.2.2 else 60))=X.ex i k+X.rest i:=fun t ht=>by
   have e:X.rest i=if 60<t.2.2.2 then t.2.2.2 else 60:=by unfold rest;rw [ht]
   rw [<- e];exact Q6 (by omega) (by omega)
  have q:X.tn i=none->wJ (X.ex i k+60)=X.ex i k+X.rest i:=fun ht=>by rw [o];unfold rest;rw [ht]
  have aq:∀ K':D->D->oP R,Y1 400 per X.skR X.Ro X.Ls Ch (X.T.map tuR) Sy De (i:Int) (k:Int) K'=K' (D.sl 2 (X.st i k)) (Q4 0):=fun K'=>Q95 h hi hk K'
  have al:=Q95 (n:=400) h (per:=per) (Sk:=X.skR) (Ch:=Ch) (Tu:=X.T.map tuR) (Sy:=Sy) (De:=De) hi hk Tu2;rw [YV,QA,Q0,show ((Kr X.Ls i).length:Int)=((X.nr i:Nat):Int) from rfl,Q9 hk,cond_true];unfold bf af at hh;cases ht:X.tn i with
  |some t=>
   simp -implicitDefEqProofs only [jn,Q0,Qjs,Qju,Q2,QA,XE,an,hw,g,j,QaK h,ht,l,p t ht,ao,al,cond_true,Qu (show k<=1000 by omega)];by_cases c1:k=0 <;> by_cases c:k=X.nr i-1
   ·simp -implicitDefEqProofs only [if_pos c1,if_pos c] at hh;simp -implicitDefEqProofs only [Qjx c1,Qjx c,QjE,Qjt,cond_true,hh,Q0,d,f,VQ,VT,ZP]
   ·simp -implicitDefEqProofs only [if_pos c1,QjA c] at hh;simp -implicitDefEqProofs only [Qjx c1,Qjv c,QjG,Qjt,cond_true,hh,Q0,d,f,VQ,VT,ZP]
   ·simp -implicitDefEqProofs only [QjA c1,if_pos c] at hh;simp -implicitDefEqProofs only [Qjv c1,Qjx c,QjE,Qjt,cond_true,hh,Q0,d,f,VQ,VT,ZP]
   ·simp -implicitDefEqProofs only [QjA c1,QjA c] at hh;simp -implicitDefEqProofs only [Qjv c1,Qjv c,QjG,Qjt,cond_true,hh,Q0,d,f,VQ,VT,ZP]
  |none=>
   simp -implicitDefEqProofs only [jn,Q0,Qjs,Qju,Q2,QA,XE,an,hw,g,j,QaK h,ht,l,q ht,ao,al,Qjt,Qu (show k<=1000 by omega)];by_cases c1:k=0 <;> by_cases c:k=X.nr i-1
   ·simp -implicitDefEqProofs only [if_pos c1,if_pos c] at hh;simp -implicitDefEqProofs only [Qjx c1,Qjx c,QjE,Qjt,cond_true,hh,Q0,d,f,VQ,VT,ZP]
   ·simp -implicitDefEqProofs only [if_pos c1,QjA c] at hh;simp -implicitDefEqProofs only [Qjx c1,Qjv c,QjG,Qjt,cond_true,hh,Q0,d,f,VQ,VT,ZP]
   ·simp -implicitDefEqProofs only [QjA c1,if_pos c] at hh;simp -implicitDefEqProofs only [Qjv c1,Qjx c,QjE,Qjt,cond_true,hh,Q0,d,f,VQ,VT,ZP]
   ·simp -implicitDefEqProofs only [QjA c1,QjA c] at hh;simp -implicitDefEqProofs only [Qjv c1,Qjv c,QjG,Qjt,cond_true,hh,Q0,d,f,VQ,VT,ZP]
 ·simp only [Int.toNat_natCast];rw [YV,QA,Q0,show ((Kr X.Ls i).length:Int)=((X.nr i:Nat):Int) from rfl,Ql,Qjt,hk]
omit h in
def occs (X:Cx) (i:Nat):List (List Occ):=flat X.nr X.occ i
omit h in
def runs (X:Cx) (i:Nat):List Int:=flat X.nr X.run i
theorem Ya {i:Nat} (hi:i<=X.Ls.length):base X.nr i<=6:=by
 have a:=base_le h;by_cases hc:i=X.Ls.length
 ·rw [hc];exact a
 ·have:=SB (nr:=X.nr) (i:=i) (j:=X.Ls.length) (by omega);unfold L at a;omega
theorem Qf9 {per:Int} {Ch Sy De:LL} (hc:WS 400 X.G.St X.G.Pt X.G.Se X.G.Li per X.skR X.Ro X.Ls Ch (X.T.map tuR) Sy De (some:Int->Option Int)=some 0):Ts 400 X.G.St X.G.Pt X.G.Se X.G.Li per X.skR X.Ro X.Ls Ch (X.T.map tuR) Sy De Tu3=some (Kl (X.occs X.L),encI (X.runs X.L),(0:Int)):=by
 have l1:=h.l1;unfold Ts;rw [hc,Q0,Q8 (by rfl)];refine Qx (r:=fun m i=>Wg 400 X.Ls ((X.Ls.length:Nat):Int) X.G.St X.G.Pt X.G.Se X.G.Li per X.skR X.Ro X.Ls Ch (X.T.map tuR) Sy De (fun a=>some ([],[],a)) (fun g j b c=>some (b,c,(0:Int))) m i (Kl (X.occs i.toNat)) (encI (X.runs i.toNat))) (N:=X.Ls.length) (fun m i hi=>?_) (fun m=>?_) X.Ls.length 400 0 (by omega) (by omega)
 ·simp only [Int.toNat_natCast];have hb:=Ya h (i:=i) (by omega);rw [Wg,Q9 hi,cond_true,Qa,(Gg h hi).1];simp -implicitDefEqProofs only [Q0,Qjs,Qju,QA,Qu (show i<=1000 by omega)];exact Qcj h hi (A:=X.occs i) (B:=X.runs i) (by unfold occs;rw [ZT];omega) (by unfold runs;rw [ZT];omega) (K:=fun u v=>Wg 400 X.Ls ((X.Ls.length:Nat):Int) X.G.St X.G.Pt X.G.Se X.G.Li per X.skR X.Ro X.Ls Ch (X.T.map tuR) Sy De (fun a=>some ([],[],a)) (fun g j b c=>some (b,c,(0:Int))) m ((i+1:Nat):Int) u v) (fun _ _ _ _=>rfl)
 ·simp only [Int.toNat_natCast];rw [Wg,Ql,Qjt];rfl
theorem QeZ {per:Int} {Ch Sy De:LL} (hc:Zw 400 X.G.St X.G.Pt X.G.Se X.G.Li per X.skR X.Ro X.Ls Ch (X.T.map tuR) Sy De (some:Int->Option Int)=some 0):Rr 400 X.G.St X.G.Pt X.G.Se X.G.Li per X.skR X.Ro X.Ls Ch (X.T.map tuR) Sy De Tu3=some (Kl (X.occs X.L),encI (X.runs X.L),(0:Int)):=by
 have l1:=h.l1;unfold Rr;rw [hc,Q0,Q8 (by rfl)];refine Qx (r:=fun m i=>V1 400 X.G.St X.G.Pt X.G.Se X.G.Li per X.skR X.Ro X.Ls Ch (X.T.map tuR) Sy De (fun f g a b=>some (a,b,(0:Int))) m i (Kl (X.occs i.toNat)) (encI (X.runs i.toNat))) (N:=X.Ls.length) (fun m i hi=>?_) (fun m=>?_) X.Ls.length 400 0 (by omega) (by omega)
 ·simp only [Int.toNat_natCast];have hb:=Ya h (i:=i) (by omega);rw [V1,Q9 hi,cond_true,Qa,(Gg h hi).1];simp -implicitDefEqProofs only [Q0,Qjs,Qju,QA,Qu (show i<=1000 by omega)];exact QdB h hi (A:=X.occs i) (B:=X.runs i) (by unfold occs;rw [ZT];omega) (by unfold runs;rw [ZT];omega) (K:=fun u v=>V1 400 X.G.St X.G.Pt X.G.Se X.G.Li per X.skR X.Ro X.Ls Ch (X.T.map tuR) Sy De (fun f g a b=>some (a,b,(0:Int))) m ((i+1:Nat):Int) u v) (fun _ _ _ _=>rfl)
 ·simp only [Int.toNat_natCast];rw [V1,Ql,Qjt];rfl
end Cx

end Go.Vx
namespace Go.Vx
variable {R:Type}
def Xd (n:Nat) (b c:Int) (k0:Int->Bool->LL->oP R):Nat->Int->LL->oP R
 | 0,_,_=>none
 | m+1,a,d=>bif decide (a<c) then gb true (Ym ((d.length+List.length [[Q4 1,Q4 b,Q4 a],[Q4 2,Q4 b,Q4 a]])*24)) () fun e=>Xd n b c k0 m (wJ (a+1)) (d++[[Q4 1,Q4 b,Q4 a],[Q4 2,Q4 b,Q4 a]]) else k0 a (decide (a<c)) d
def QT (n:Nat) (e:LL) (h2:Int) (k0:Int->Bool->LL->LL->oP R):Nat->Int->LL->LL->oP R
 | 0,_,_,_=>none
 | m+1,a,d,b=>bif decide (a<h2) then gb true (Q1 e a) [] fun c=>gb true (c[0]?) oF fun i=>gb true (c[1]?) oF fun j=>gb true (c[2]?) oF fun k=>gb true (c[3]?) oF fun f=>gb true (nz 2) () fun l=>gb true (Ym ((d.length+[[Q4 (wJ (Int.tdiv (b.length:Int) 2))]].length)*8)) () fun o=>gb true (pSl 4 f) [] fun g=>Xd n a (g.length:Int) (fun p q h=>QT n e h2 k0 m (wJ (a+1)) (d++[[Q4 (wJ (Int.tdiv (b.length:Int) 2))]]) h) n 0 b else k0 a (decide (a<h2)) d b
def YP (n:Nat) (a b c:LL) (K:LL->LL->oP R):oP R:= QT n a (a.length:Int) (fun f g d e=>K d e) n 0 b c
def Y5 (n:Nat) (a:LL) (a1 a2:Int) (K:Int->oP R):oP R:= gb true (inB (a.length) a1) () fun e=>gb true (a[a1.toNat]?) [] fun b=>gb true (b[0]?) oF fun c=>gb true (pIw c) 0 fun d=>K (wJ (d+a2))

def Yr (n:Nat) (f b:LL) (a1 a2 c d e:Int) (K:LL->oP R):oP R:= gb true (Q1 f a1) [] fun g=>gb true (g[0]?) oF fun h=>gb true (pIw h) 0 fun a=>gb true (Ym ((b.length+[[Q4 a1,Q4 a2,Q4 (wJ (a+d)),Q4 (wJ ((wJ (a+c))+e))]].length)*32)) () fun i=>K (b++[[Q4 a1,Q4 a2,Q4 (wJ (a+d)),Q4 (wJ ((wJ (a+c))+e))]])

def Wt (n:Nat) (a b:LL) (a1:Int) (K:Int->oP R):oP R:= gb true (Q1 a a1) [] fun c=>gb true (c[3]?) oF fun d=>gb true (pSl 4 d) [] fun e=>gb true (Y5 n b a1 (wJ ((e.length:Int)-1)) some) 0 fun f=>K f

def Xp (n:Nat) (c:Int) (f:LL) (d:Int) (e g:LL) (k0:Int->Bool->LL->oP R):Nat->Int->LL->oP R
 | 0,_,_=>none
 | m+1,a,h=>bif decide (a<d) then gb true (Q1 f a) [] fun b=>gb true (b[0]?) oF fun s=>gb true (b[1]?) oF fun i=>gb true (b[2]?) oF fun j=>gb true (b[3]?) oF fun k=>gb true (Y5 n e c a some) 0 fun l=>gb true (Y5 n e c (wJ (a+1)) some) 0 fun o=>gb true (pIw i) 0 fun i64=>gb true (pIw j) 0 fun p=>gb true (pIw k) 0 fun q=>gb true (Yr n g h l o i64 p q some) [] fun r=>Xp n c f d e g k0 m (wJ (a+1)) r else k0 a (decide (a<d)) h
def QE (n:Nat) (d:LL) (h2:Int) (e f:LL) (k0:Int->Bool->LL->oP R):Nat->Int->LL->oP R
 | 0,_,_=>none
 | m+1,a,g=>bif decide (a<h2) then gb true (Q1 d a) [] fun b=>gb true (b[0]?) oF fun l=>gb true (b[1]?) oF fun o=>gb true (b[2]?) oF fun p=>gb true (b[3]?) oF fun h=>gb true (pSl 4 h) [] fun c=>gb true (pSl 4 h) [] fun j=>gb true (slB (c.length) none (some (wJ ((j.length:Int)-1)))) (0,0) fun i=>Xp n a (cut c i) ((List.length (cut c i):Nat):Int) e f (fun q r k=>QE n d h2 e f k0 m (wJ (a+1)) k) n 0 g else k0 a (decide (a<h2)) g
def Xo (n:Nat) (f:LL) (c:Int) (d e g:LL) (k0:Int->Bool->LL->oP R):Nat->Int->LL->oP R
 | 0,_,_=>none
 | m+1,a,h=>bif decide (a<c) then gb true (Q1 f a) [] fun b=>gb true (b[0]?) oF fun i=>gb true (b[1]?) oF fun k=>gb true (b[2]?) oF fun l=>gb true (b[3]?) oF fun o=>gb true (pIw i) 0 fun p=>gb true (Q1 e p) [] fun q=>gb true (q[3]?) oF fun r=>gb true (pSl 4 r) [] fun j=>gb true (pIw i) 0 fun s=>gb true (Wt n e d s some) 0 fun t=>gb true (pIw k) 0 fun u=>gb true (Y5 n d u 0 some) 0 fun v=>gb true (Q1 j (wJ ((j.length:Int)-1))) [] fun x=>gb true (x[1]?) oF fun y=>gb true (pIw y) 0 fun z=>gb true (pIw l) 0 fun aa=>gb true (pIw o) 0 fun ab=>gb true (Yr n g h t v z aa ab some) [] fun ac=>Xo n f c d e g k0 m (wJ (a+1)) ac else k0 a (decide (a<c)) h
def YW (n:Nat) (a b c d e:LL) (K:LL->oP R):oP R:= QE n a (a.length:Int) c d (fun h i f=>Xo n b (b.length:Int) c a d (fun j k g=>K g) n 0 f) n 0 e

def Ux (n:Nat) (h2:LL) (e:Int) (k0:oP R) (k1:Int->Int->Bool->oP R):Nat->Int->Int->oP R
 | 0,_,_=>none
 | m+1,a,b=>bif decide (b<e) then gb true (Q1 h2 b) [] fun f=>gb true (f[0]?) oF fun g=>gb true (f[1]?) oF fun h=>gb true (f[2]?) oF fun i=>gb true (pIw g) 0 fun c=>gb (!(decide (c<=a))) (pIw h) 0 fun d=>gb (!(bif decide (c<=a) then true else (decide (d<(-65536:Int))))) (pIw h) 0 fun j=>gb (!(bif decide (c<=a) then true else (decide (d<(-65536:Int))))) (pIw i) 0 fun k=>gb (!(bif (bif decide (c<=a) then true else (decide (d<(-65536:Int)))) then true else (decide (j>=k)))) (pIw i) 0 fun l=>bif (bif (bif (bif decide (c<=a) then true else (decide (d<(-65536:Int)))) then true else (decide (j>=k))) then true else (decide (l>65536))) then k0 else gb true (pIw g) 0 fun o=>Ux n h2 e k0 k1 m o (wJ (b+1)) else k1 a b (decide (b<e))
def JB (n:Nat) (a0:LL) (K:Bool->oP R):oP R:= Ux n a0 (a0.length:Int) (K false) (fun a b c=>K true) n (-1:Int) 0

def UC (n:Nat) (h2:Int) (d:LL) (b:Int) (k0:oP R) (k1:Int->Bool->oP R):Nat->Int->oP R
 | 0,_=>none
 | m+1,a=>bif decide (a<b) then gb true (Q1 d a) [] fun c=>gb true (c[0]?) oF fun i=>gb true (c[1]?) oF fun e=>gb true (c[2]?) oF fun f=>gb true (pIw f) 0 fun g=>gb true (pIw e) 0 fun h=>bif (decide ((wJ (g-h))>h2)) then k0 else UC n h2 d b k0 k1 m (wJ (a+1)) else k1 a (decide (a<b))
def Ti (n:Nat) (a0:Int) (a1:LL) (K:Bool->oP R):oP R:= gb (!(bif decide (a0<1) then true else (decide (a0>7200)))) (JB n a1 some) false fun a=>bif (bif (bif decide (a0<1) then true else (decide (a0>7200))) then true else (!a)) then K false else UC n a0 a1 (a1.length:Int) (K false) (fun b c=>K true) n 0

def Yp (n:Nat) (a b c d e f:Int) (g:Bool) (h:Int) (K:Bool->oP R):oP R:= K (bif g then true else (decide ((wJ ((if b<(wJ (f+d)) then (wJ (f+d)) else b)-(if (wJ (e+c))<a then (wJ (e+c)) else a)))>h)))

def QP (n:Nat) (e:LL) (b f:Int) (c g d:D) (h i j:Int) (k0:Int->Bool->Bool->oP R):Nat->Int->Bool->oP R
 | 0,_,_=>none
 | m+1,a,k=>bif decide (a<b) then gb true (Q1 e a) [] fun l=>gb true (l[0]?) oF fun q=>gb true (l[1]?) oF fun r=>gb true (l[2]?) oF fun s=>gb true (pIw c) 0 fun o=>gb true (pIw q) 0 fun p=>gb (o == p) (pIw r) 0 fun t=>gb (o == p) (pIw d) 0 fun u=>bif (bif (o == p) then (decide ((wJ (f+t))<=u)) else false) then gb true (pIw c) 0 fun ab=>gb true (pIw g) 0 fun v=>gb true (pIw d) 0 fun x=>gb true (pIw q) 0 fun ac=>gb true (pIw r) 0 fun y=>gb true (pIw s) 0 fun z=>gb true (Yp n v x y z i j k h some) false fun aa=>QP n e b f c g d h i j k0 m (wJ (a+1)) aa else QP n e b f c g d h i j k0 m (wJ (a+1)) k else k0 a (decide (a<b)) k
def Xu (n:Nat) (d:LL) (b e f g:Int) (h:LL) (i j:Int) (k0:Int->Bool->Bool->oP R):Nat->Int->Bool->oP R
 | 0,_,_=>none
 | m+1,a,k=>bif decide (a<b) then gb true (Q1 d a) [] fun c=>gb true (c[0]?) oF fun o=>gb true (c[1]?) oF fun p=>gb true (c[2]?) oF fun q=>gb true (Q1 h e) [] fun r=>gb true (r[0]?) oF fun s=>gb true (pSl 3 s) [] fun l=>QP n l (l.length:Int) f o p q g i j (fun u v t=>Xu n d b e f g h i j k0 m (wJ (a+1)) t) n 0 k else k0 a (decide (a<b)) k
def Wo (n:Nat) (c:Int) (a:LL) (d e f g h:Int) (i:Bool) (K:Bool->oP R):oP R:= gb true (Q1 a d) [] fun j=>gb true (j[0]?) oF fun k=>gb true (pSl 3 k) [] fun b=>Xu n b (b.length:Int) e f c a g h (fun m o l=>K l) n 0 i

def XO (n:Nat) (b:LL) (h2 c:Int) (k0:oP R) (k1:Int->Bool->oP R):Nat->Int->oP R
 | 0,_=>none
 | m+1,a=>bif decide (a<h2) then gb true (Q1 b a) [] fun d=>gb true (d[0]?) oF fun e=>gb true (pSl 3 e) [] fun f=>gb true (Ti n c f some) false fun g=>bif !g then k0 else XO n b h2 c k0 k1 m (wJ (a+1)) else k1 a (decide (a<h2))
def Xk (n:Nat) (d:LL) (c e:Int) (f:LL) (k0:oP R) (k1:Int->Bool->oP R):Nat->Int->oP R
 | 0,_=>none
 | m+1,a=>bif decide (a<c) then gb true (Q1 d a) [] fun b=>gb true (b[0]?) oF fun g=>gb true (b[1]?) oF fun h=>gb true (b[2]?) oF fun i=>gb true (b[3]?) oF fun j=>gb true (pIw g) 0 fun k=>gb true (pIw h) 0 fun l=>gb true (pIw i) 0 fun o=>gb true (pIw j) 0 fun s=>gb true (pIw g) 0 fun t=>gb true (pIw h) 0 fun u=>gb true (pIw i) 0 fun p=>gb true (pIw j) 0 fun q=>gb true (Wo n e f k l o p q false some) false fun r=>bif r then k0 else Xk n d c e f k0 k1 m (wJ (a+1)) else k1 a (decide (a<c))
def Wa (n:Nat) (b:Int) (a c:LL) (K:Bool->oP R):oP R:= XO n a (a.length:Int) b (K false) (fun d e=>Xk n c (c.length:Int) b a (K false) (fun f g=>K true) n 0) n 0

def X8 (n:Nat) (a:LL) (a1 a2:Int) (K:Int->oP R):oP R:= gb true (inB (a.length) a1) () fun e=>gb true (a[a1.toNat]?) [] fun b=>gb true (b[0]?) oF fun c=>gb true (pIw c) 0 fun d=>K (wJ (d+a2))

def YD (n:Nat) (a0:Int) (K:Int->oP R):oP R:= K (wJ (2*a0))

def UU (n:Nat) (a0:Int) (K:Int->oP R):oP R:= K (wJ ((wJ (2*a0))+1))

def Xn (n:Nat) (a:LL) (a1 a2 b c d e:Int) (K:LL->oP R):oP R:= gb true (Ym ((a.length+[[Q4 a1,Q4 a2,Q4 b,Q4 c,Q4 d,Q4 e]].length)*48)) () fun f=>K (a++[[Q4 a1,Q4 a2,Q4 b,Q4 c,Q4 d,Q4 e]])

def Vz (n:Nat) (a b:LL) (a1:Int) (K:Int->oP R):oP R:= gb true (Q1 a a1) [] fun c=>gb true (c[3]?) oF fun d=>gb true (pSl 4 d) [] fun e=>gb true (X8 n b a1 (wJ ((e.length:Int)-1)) some) 0 fun f=>K f

def Qv (n:Nat) (f:Int) (g:LL) (c:Int) (d h:D) (i j:LL) (k0:Int->Bool->LL->oP R):Nat->Int->LL->oP R
 | 0,_,_=>none
 | m+1,a,k=>bif decide (a<c) then gb true (Q1 g a) [] fun e=>gb true (e[0]?) oF fun ah=>gb true (e[1]?) oF fun p=>gb true (e[2]?) oF fun q=>gb true (e[3]?) oF fun r=>gb true (X8 n i f a some) 0 fun b=>gb true (Q1 j b) [] fun s=>gb true (s[0]?) oF fun t=>gb true (pIw t) 0 fun l=>gb true (YD n b some) 0 fun u=>gb true (UU n b some) 0 fun v=>gb true (pIw p) 0 fun x=>gb true (pIw d) 0 fun y=>gb true (Xn n k 1 u v l (wJ (l+x)) y some) [] fun o=>gb true (pSl 4 h) [] fun z=>bif (decide (a<(wJ ((z.length:Int)-1)))) then gb true (UU n b some) 0 fun aa=>gb true (YD n (wJ (b+1)) some) 0 fun ab=>gb true (pIw q) 0 fun ac=>gb true (pIw r) 0 fun ad=>gb true (pIw d) 0 fun ae=>gb true (Xn n o 2 aa ab ac ad ae some) [] fun ag=>Qv n f g c d h i j k0 m (wJ (a+1)) ag else Qv n f g c d h i j k0 m (wJ (a+1)) o else k0 a (decide (a<c)) k
def QL (n:Nat) (c:LL) (h2:Int) (d e:LL) (k0:Int->Bool->LL->oP R):Nat->Int->LL->oP R
 | 0,_,_=>none
 | m+1,a,f=>bif decide (a<h2) then gb true (Q1 c a) [] fun b=>gb true (b[0]?) oF fun k=>gb true (b[1]?) oF fun l=>gb true (b[2]?) oF fun i=>gb true (b[3]?) oF fun g=>gb true (pSl 4 g) [] fun h=>Qv n a h (h.length:Int) i g d e (fun o p j=>QL n c h2 d e k0 m (wJ (a+1)) j) n 0 f else k0 a (decide (a<h2)) f
def QN (n:Nat) (e:LL) (c:Int) (d:LL) (k0:Int->Bool->LL->oP R):Nat->Int->LL->oP R
 | 0,_,_=>none
 | m+1,b,f=>bif decide (b<c) then gb true (Q1 e b) [] fun a=>gb true (a[0]?) oF fun g=>gb true (a[1]?) oF fun h=>gb true (a[2]?) oF fun i=>gb true (a[3]?) oF fun j=>gb true (a[4]?) oF fun k=>gb true (a[5]?) oF fun l=>gb true (a[6]?) oF fun o=>gb true (pIw g) 0 fun p=>gb true (pIw h) 0 fun q=>gb true (X8 n d p q some) 0 fun r=>gb true (pIw i) 0 fun s=>gb true (pIw j) 0 fun t=>gb true (X8 n d s t some) 0 fun u=>gb true (UU n r some) 0 fun v=>gb true (YD n u some) 0 fun x=>gb true (pIw k) 0 fun y=>gb true (pIw l) 0 fun z=>gb true (pIw o) 0 fun aa=>gb true (Xn n f 3 v x y z aa some) [] fun ab=>QN n e c d k0 m (wJ (b+1)) ab else k0 b (decide (b<c)) f
def QM (n:Nat) (e:LL) (c:Int) (d f:LL) (k0:Int->Bool->LL->oP R):Nat->Int->LL->oP R
 | 0,_,_=>none
 | m+1,a,g=>bif decide (a<c) then gb true (Q1 e a) [] fun b=>gb true (b[0]?) oF fun h=>gb true (b[1]?) oF fun i=>gb true (b[2]?) oF fun j=>gb true (b[3]?) oF fun k=>gb true (pIw h) 0 fun l=>gb true (Vz n f d l some) 0 fun o=>gb true (UU n o some) 0 fun p=>gb true (pIw i) 0 fun q=>gb true (X8 n d q 0 some) 0 fun r=>gb true (YD n r some) 0 fun s=>gb true (pIw j) 0 fun t=>gb true (pIw k) 0 fun u=>gb true (Xn n g 4 p s t u 1 some) [] fun v=>QM n e c d f k0 m (wJ (a+1)) v else k0 a (decide (a<c)) g
def QO (n:Nat) (e:LL) (c:Int) (d:LL) (k0:Int->Bool->LL->oP R):Nat->Int->LL->oP R
 | 0,_,_=>none
 | m+1,a,f=>bif decide (a<c) then gb true (Q1 e a) [] fun b=>gb true (b[0]?) oF fun h=>gb true (b[1]?) oF fun i=>gb true (b[2]?) oF fun j=>gb true (b[3]?) oF fun k=>gb true (b[4]?) oF fun g=>gb true (pIw h) 0 fun l=>gb true (pIw i) 0 fun o=>gb true (X8 n d l o some) 0 fun p=>gb true (YD n p some) 0 fun q=>gb true (pIw j) 0 fun r=>gb true (pIw k) 0 fun s=>gb true (X8 n d r s some) 0 fun t=>gb true (YD n t some) 0 fun u=>gb true (pIw g) 0 fun v=>gb true (pIw g) 0 fun x=>gb true (Xn n f 5 q u v x 0 some) [] fun y=>QO n e c d k0 m (wJ (a+1)) y else k0 a (decide (a<c)) f
def YF (n:Nat) (b c d e a f g:LL) (K:LL->oP R):oP R:= QL n b (b.length:Int) a f (fun l m h=>QN n c (c.length:Int) a (fun o p i=>QM n d (d.length:Int) a b (fun q r j=>QO n e (e.length:Int) a (fun s t k=>K k) n 0 j) n 0 i) n 0 h) n 0 g

def XF (n:Nat) (a:Int) (b:Int->Bool) (K:(Int->Bool)->oP R):oP R:= K (Q7a b a true)

def X5 (n:Nat) (e:LL) (b f:Int) (c g d:D) (k0:Int->Bool->(Int->Bool)->oP R):Nat->Int->(Int->Bool)->oP R
 | 0,_,_=>none
 | m+1,a,h=>bif decide (a<b) then gb true (Q1 e a) [] fun i=>gb true (i[0]?) oF fun l=>gb true (i[1]?) oF fun o=>gb true (i[2]?) oF fun p=>gb true (pIw c) 0 fun j=>gb true (pIw l) 0 fun k=>gb (j == k) (pIw o) 0 fun q=>gb (j == k) (pIw d) 0 fun r=>bif (bif (j == k) then (decide ((wJ (f+q))<=r)) else false) then gb true (pIw c) 0 fun s=>gb true (pIw g) 0 fun u=>gb true (pIw d) 0 fun v=>gb true (pIw l) 0 fun x=>gb true (pIw o) 0 fun y=>gb true (pIw p) 0 fun z=>gb true (XF n s h some) (fun _=>false) fun t=>X5 n e b f c g d k0 m (wJ (a+1)) t else X5 n e b f c g d k0 m (wJ (a+1)) h else k0 a (decide (a<b)) h
def Xw (n:Nat) (d:LL) (b e f:Int) (g:LL) (k0:Int->Bool->(Int->Bool)->oP R):Nat->Int->(Int->Bool)->oP R
 | 0,_,_=>none
 | m+1,a,h=>bif decide (a<b) then gb true (Q1 d a) [] fun c=>gb true (c[0]?) oF fun j=>gb true (c[1]?) oF fun k=>gb true (c[2]?) oF fun l=>gb true (Q1 g e) [] fun o=>gb true (o[0]?) oF fun p=>gb true (pSl 3 p) [] fun i=>X5 n i (i.length:Int) f j k l (fun r s q=>Xw n d b e f g k0 m (wJ (a+1)) q) n 0 h else k0 a (decide (a<b)) h
def Wq (n:Nat) (a:LL) (c d e:Int) (f:Int->Bool) (K:(Int->Bool)->oP R):oP R:= gb true (Q1 a c) [] fun g=>gb true (g[0]?) oF fun h=>gb true (pSl 3 h) [] fun b=>Xw n b (b.length:Int) d e a (fun j k i=>K i) n 0 f

def Qy (n:Nat) (a h2:Int) (f:LL) (c:Int) (g:LL) (k0:Int->Bool->(Int->Bool)->oP R):Nat->Int->(Int->Bool)->oP R
 | 0,_,_=>none
 | m+1,b,h=>bif decide (b<c) then gb true (Q1 f b) [] fun d=>gb true (d[0]?) oF fun i=>gb true (d[1]?) oF fun j=>gb true (d[2]?) oF fun o=>gb true (d[3]?) oF fun p=>gb true (pIw i) 0 fun e=>gb (e == a) (pIw j) 0 fun k=>gb (!(bif (e == a) then (k == h2) else false)) (pIw i) 0 fun l=>gb ((!(bif (e == a) then (k == h2) else false))&&(l == h2)) (pIw j) 0 fun q=>bif (bif (bif (e == a) then (k == h2) else false) then true else (bif (l == h2) then (q == a) else false)) then gb true (pIw i) 0 fun r=>gb true (pIw j) 0 fun s=>gb true (pIw o) 0 fun t=>gb true (pIw p) 0 fun v=>gb true (Wq n g r s t h some) (fun _=>false) fun u=>Qy n a h2 f c g k0 m (wJ (b+1)) u else Qy n a h2 f c g k0 m (wJ (b+1)) h else k0 b (decide (b<c)) h
def Yh (n:Nat) (b a:LL) (a1 a2:Int) (K:(Int->Bool)->oP R):oP R:= Qy n a1 a2 a (a.length:Int) b (fun d e c=>K c) n 0 (fun _=>false)

def Yk (n:Nat) (c:LL) (h2:Int) (d:Int->Bool) (k0:Int->Bool->LL->oP R):Nat->Int->LL->oP R
 | 0,_,_=>none
 | m+1,a,b=>bif decide (a<h2) then gb true (Q1 c a) [] fun e=>gb true (e[0]?) oF fun f=>gb true (e[1]?) oF fun g=>gb true (e[2]?) oF fun h=>gb true (pIw f) 0 fun i=>bif (!(d i)) then gb true (Ym ((b.length+[[f,g,h]].length)*24)) () fun j=>Yk n c h2 d k0 m (wJ (a+1)) (b++[[f,g,h]]) else Yk n c h2 d k0 m (wJ (a+1)) b else k0 a (decide (a<h2)) b
def UK (n:Nat) (a0:LL) (a:Int->Bool) (K:LL->(Int->Bool)->oP R):oP R:= Yk n a0 (a0.length:Int) a (fun c d b=>K b a) n 0 []

def Vd (n:Nat) (a0:Int) (K:Bool->oP R):oP R:= K (bif decide (a0>=1) then (decide (a0<=7200)) else false)

def Hs (n:Nat) (a0 a1:Int) (K:Int->oP R):oP R:= bif decide (a1<1) then K 0 else gb true (nz a1) () fun a=>bif (decide ((Int.tmod a0 a1)<0)) then K (wJ ((Int.tmod a0 a1)+a1)) else K (Int.tmod a0 a1)

def JG (n:Nat) (a1 a2 a:Int) (K:LL->oP R):oP R:= bif decide (a<1) then K [] else bif decide (a>=a1) then gb true (Ym ([[Q4 0,Q4 a1]].length*16)) () fun b=>K [[Q4 0,Q4 a1]] else bif (decide ((wJ (a2+a))<=a1)) then gb true (Ym ([[Q4 a2,Q4 (wJ (a2+a))]].length*16)) () fun u2=>K [[Q4 a2,Q4 (wJ (a2+a))]] else gb true (Ym (List.length [[Q4 0,Q4 (wJ ((wJ (a2+a))-a1))],[Q4 a2,Q4 a1]]*16)) () fun u3=>K [[Q4 0,Q4 (wJ ((wJ (a2+a))-a1))],[Q4 a2,Q4 a1]]

def Po (n:Nat) (a0 a1 a2:Int) (K:LL->Int->oP R):oP R:= gb true (Vd n a0 some) false fun a=>bif !a then K [] 4 else gb true (Hs n a1 a0 some) 0 fun b=>gb true (JG n a0 b a2 some) [] fun c=>K c 0

def UA (n:Nat) (h2:Int) (f:LL) (d:Int) (k0:oP R) (k1:Int->Int->Bool->oP R):Nat->Int->Int->oP R
 | 0,_,_=>none
 | m+1,a,b=>bif decide (b<d) then gb true (Q1 f b) [] fun g=>gb true (g[0]?) oF fun h=>gb true (g[1]?) oF fun e=>gb true (pIw h) 0 fun c=>gb (!(decide (c<=a))) (pIw h) 0 fun i=>gb (!(decide (c<=a))) (pIw e) 0 fun j=>gb (!(bif decide (c<=a) then true else (decide (i>=j)))) (pIw e) 0 fun k=>bif (bif (bif decide (c<=a) then true else (decide (i>=j))) then true else (decide (k>h2))) then k0 else gb true (pIw e) 0 fun l=>UA n h2 f d k0 k1 m l (wJ (b+1)) else k1 a b (decide (b<d))
def GJ (n:Nat) (a0:Int) (a1:LL) (K:Bool->oP R):oP R:= gb true (Vd n a0 some) false fun a=>bif !a then K false else UA n a0 a1 (a1.length:Int) (K false) (fun b c d=>K true) n (-1:Int) 0

def Ut (n:Nat) (h2:Int) (c:LL) (b:Int) (k0:oP R) (k1:Int->Bool->oP R):Nat->Int->oP R
 | 0,_=>none
 | m+1,a=>bif decide (a<b) then gb true (Q1 c a) [] fun d=>gb true (d[0]?) oF fun e=>gb true (pSl 2 e) [] fun f=>gb true (GJ n h2 f some) false fun g=>bif !g then k0 else Ut n h2 c b k0 k1 m (wJ (a+1)) else k1 a (decide (a<b))
def Tl (n:Nat) (a0:Int) (a1:LL) (K:Int->oP R):oP R:= gb true (Vd n a0 some) false fun a=>bif !a then K 4 else Ut n a0 a1 (a1.length:Int) (K 1) (fun b c=>K 0) n 0

def QJ (n:Nat) (a1:Int) (K:LL->oP R):oP R:= bif decide (a1<0) then none else bif (decide ((wJ (a1-(wJ (0-0))))>0)) then gb true (slB 0 none (some 0)) (0,0) fun a=>gb true (bif decide (0<(wJ (a1-(wJ (0-0))))) then some () else none) () fun u3=>gb true (Ym (Int.toNat (wJ (a1-(wJ (0-0))))*16)) () fun b=>K [] else K []

def Qf (n:Nat) (c:LL) (b:Int) (k0:Int->Int->Bool->oP R):Nat->Int->Int->oP R
 | 0,_,_=>none
 | m+1,h2,a=>bif decide (a<b) then gb true (Q1 c a) [] fun e=>gb true (e[0]?) oF fun f=>gb true (pSl 2 f) [] fun d=>bif (decide ((wJ (h2+(d.length:Int)))<0)) then none else Qf n c b k0 m (wJ (h2+(d.length:Int))) (wJ (a+1)) else k0 h2 a (decide (a<b))
def Qg (n:Nat) (d:LL) (b:Int) (k0:Int->Bool->LL->oP R):Nat->Int->LL->oP R
 | 0,_,_=>none
 | m+1,a,c=>bif decide (a<b) then gb true (Q1 d a) [] fun f=>gb true (f[0]?) oF fun g=>gb true (pSl 2 g) [] fun e=>gb true (Ym ((c.length+e.length)*16)) () fun h=>Qg n d b k0 m (wJ (a+1)) (c++e) else k0 a (decide (a<b)) c
def QQ (n:Nat) (a0:LL) (K:LL->oP R):oP R:= Qf n a0 (a0.length:Int) (fun a d e=>gb true (QJ n a some) [] fun b=>Qg n a0 (a0.length:Int) (fun f g c=>K c) n 0 b) n 0 0

def Mj (n:Nat) (a0:Int) (K:Int->oP R):oP R:= bif decide (a0>=65536) then gb true (BY 16) () fun e=>bif (decide ((shR .u32 a0 16)>=256)) then gb true (BY 8) () fun f=>gb true (Jh (bs [0,1,2,2,3,3,3,3,4,4,4,4,4,4,4,4,5,5,5,5,5,5,5,5,5,5,5,5,5,5,5,5,6,6,6,6,6,6,6,6,6,6,6,6,6,6,6,6,6,6,6,6,6,6,6,6,6,6,6,6,6,6,6,6,7,7,7,7,7,7,7,7,7,7,7,7,7,7,7,7,7,7,7,7,7,7,7,7,7,7,7,7,7,7,7,7,7,7,7,7,7,7,7,7,7,7,7,7,7,7,7,7,7,7,7,7,7,7,7,7,7,7,7,7,7,7,7,7,8,8,8,8,8,8,8,8,8,8,8,8,8,8,8,8,8,8,8,8,8,8,8,8,8,8,8,8,8,8,8,8,8,8,8,8,8,8,8,8,8,8,8,8,8,8,8,8,8,8,8,8,8,8,8,8,8,8,8,8,8,8,8,8,8,8,8,8,8,8,8,8,8,8,8,8,8,8,8,8,8,8,8,8,8,8,8,8,8,8,8,8,8,8,8,8,8,8,8,8,8,8,8,8,8,8,8,8,8,8,8,8,8,8,8,8,8,8,8,8,8,8,8,8,8,8,8,8]) (IntKind.wrap .u8 (shR .u32 (shR .u32 a0 16) 8))) 0 fun a=>K (wJ ((wJ (16+8))+(wJ a))) else gb true (Jh (bs [0,1,2,2,3,3,3,3,4,4,4,4,4,4,4,4,5,5,5,5,5,5,5,5,5,5,5,5,5,5,5,5,6,6,6,6,6,6,6,6,6,6,6,6,6,6,6,6,6,6,6,6,6,6,6,6,6,6,6,6,6,6,6,6,7,7,7,7,7,7,7,7,7,7,7,7,7,7,7,7,7,7,7,7,7,7,7,7,7,7,7,7,7,7,7,7,7,7,7,7,7,7,7,7,7,7,7,7,7,7,7,7,7,7,7,7,7,7,7,7,7,7,7,7,7,7,7,7,8,8,8,8,8,8,8,8,8,8,8,8,8,8,8,8,8,8,8,8,8,8,8,8,8,8,8,8,8,8,8,8,8,8,8,8,8,8,8,8,8,8,8,8,8,8,8,8,8,8,8,8,8,8,8,8,8,8,8,8,8,8,8,8,8,8,8,8,8,8,8,8,8,8,8,8,8,8,8,8,8,8,8,8,8,8,8,8,8,8,8,8,8,8,8,8,8,8,8,8,8,8,8,8,8,8,8,8,8,8,8,8,8,8,8,8,8,8,8,8,8,8,8,8,8,8,8,8]) (IntKind.wrap .u8 (shR .u32 a0 16))) 0 fun b=>K (wJ (16+(wJ b))) else bif decide (a0>=256) then gb true (BY 8) () fun g=>gb true (Jh (bs [0,1,2,2,3,3,3,3,4,4,4,4,4,4,4,4,5,5,5,5,5,5,5,5,5,5,5,5,5,5,5,5,6,6,6,6,6,6,6,6,6,6,6,6,6,6,6,6,6,6,6,6,6,6,6,6,6,6,6,6,6,6,6,6,7,7,7,7,7,7,7,7,7,7,7,7,7,7,7,7,7,7,7,7,7,7,7,7,7,7,7,7,7,7,7,7,7,7,7,7,7,7,7,7,7,7,7,7,7,7,7,7,7,7,7,7,7,7,7,7,7,7,7,7,7,7,7,7,8,8,8,8,8,8,8,8,8,8,8,8,8,8,8,8,8,8,8,8,8,8,8,8,8,8,8,8,8,8,8,8,8,8,8,8,8,8,8,8,8,8,8,8,8,8,8,8,8,8,8,8,8,8,8,8,8,8,8,8,8,8,8,8,8,8,8,8,8,8,8,8,8,8,8,8,8,8,8,8,8,8,8,8,8,8,8,8,8,8,8,8,8,8,8,8,8,8,8,8,8,8,8,8,8,8,8,8,8,8,8,8,8,8,8,8,8,8,8,8,8,8,8,8,8,8,8,8]) (IntKind.wrap .u8 (shR .u32 a0 8))) 0 fun c=>K (wJ ((wJ (0+8))+(wJ c))) else gb true (Jh (bs [0,1,2,2,3,3,3,3,4,4,4,4,4,4,4,4,5,5,5,5,5,5,5,5,5,5,5,5,5,5,5,5,6,6,6,6,6,6,6,6,6,6,6,6,6,6,6,6,6,6,6,6,6,6,6,6,6,6,6,6,6,6,6,6,7,7,7,7,7,7,7,7,7,7,7,7,7,7,7,7,7,7,7,7,7,7,7,7,7,7,7,7,7,7,7,7,7,7,7,7,7,7,7,7,7,7,7,7,7,7,7,7,7,7,7,7,7,7,7,7,7,7,7,7,7,7,7,7,8,8,8,8,8,8,8,8,8,8,8,8,8,8,8,8,8,8,8,8,8,8,8,8,8,8,8,8,8,8,8,8,8,8,8,8,8,8,8,8,8,8,8,8,8,8,8,8,8,8,8,8,8,8,8,8,8,8,8,8,8,8,8,8,8,8,8,8,8,8,8,8,8,8,8,8,8,8,8,8,8,8,8,8,8,8,8,8,8,8,8,8,8,8,8,8,8,8,8,8,8,8,8,8,8,8,8,8,8,8,8,8,8,8,8,8,8,8,8,8,8,8,8,8,8,8,8,8]) (IntKind.wrap .u8 a0)) 0 fun d=>K (wJ (0+(wJ d)))

def NE (n:Nat) (a0:Int) (K:Int->oP R):oP R:= bif decide (a0>=4294967296) then gb true (BY 32) () fun i=>bif (decide ((shR .u64 a0 32)>=65536)) then gb true (BY 16) () fun j=>bif (decide ((shR .u64 (shR .u64 a0 32) 16)>=256)) then gb true (BY 8) () fun k=>gb true (Jh (bs [0,1,2,2,3,3,3,3,4,4,4,4,4,4,4,4,5,5,5,5,5,5,5,5,5,5,5,5,5,5,5,5,6,6,6,6,6,6,6,6,6,6,6,6,6,6,6,6,6,6,6,6,6,6,6,6,6,6,6,6,6,6,6,6,7,7,7,7,7,7,7,7,7,7,7,7,7,7,7,7,7,7,7,7,7,7,7,7,7,7,7,7,7,7,7,7,7,7,7,7,7,7,7,7,7,7,7,7,7,7,7,7,7,7,7,7,7,7,7,7,7,7,7,7,7,7,7,7,8,8,8,8,8,8,8,8,8,8,8,8,8,8,8,8,8,8,8,8,8,8,8,8,8,8,8,8,8,8,8,8,8,8,8,8,8,8,8,8,8,8,8,8,8,8,8,8,8,8,8,8,8,8,8,8,8,8,8,8,8,8,8,8,8,8,8,8,8,8,8,8,8,8,8,8,8,8,8,8,8,8,8,8,8,8,8,8,8,8,8,8,8,8,8,8,8,8,8,8,8,8,8,8,8,8,8,8,8,8,8,8,8,8,8,8,8,8,8,8,8,8,8,8,8,8,8,8]) (IntKind.wrap .u8 (shR .u64 (shR .u64 (shR .u64 a0 32) 16) 8))) 0 fun a=>K (wJ ((wJ ((wJ (32+16))+8))+(wJ a))) else gb true (Jh (bs [0,1,2,2,3,3,3,3,4,4,4,4,4,4,4,4,5,5,5,5,5,5,5,5,5,5,5,5,5,5,5,5,6,6,6,6,6,6,6,6,6,6,6,6,6,6,6,6,6,6,6,6,6,6,6,6,6,6,6,6,6,6,6,6,7,7,7,7,7,7,7,7,7,7,7,7,7,7,7,7,7,7,7,7,7,7,7,7,7,7,7,7,7,7,7,7,7,7,7,7,7,7,7,7,7,7,7,7,7,7,7,7,7,7,7,7,7,7,7,7,7,7,7,7,7,7,7,7,8,8,8,8,8,8,8,8,8,8,8,8,8,8,8,8,8,8,8,8,8,8,8,8,8,8,8,8,8,8,8,8,8,8,8,8,8,8,8,8,8,8,8,8,8,8,8,8,8,8,8,8,8,8,8,8,8,8,8,8,8,8,8,8,8,8,8,8,8,8,8,8,8,8,8,8,8,8,8,8,8,8,8,8,8,8,8,8,8,8,8,8,8,8,8,8,8,8,8,8,8,8,8,8,8,8,8,8,8,8,8,8,8,8,8,8,8,8,8,8,8,8,8,8,8,8,8,8]) (IntKind.wrap .u8 (shR .u64 (shR .u64 a0 32) 16))) 0 fun b=>K (wJ ((wJ (32+16))+(wJ b))) else bif (decide ((shR .u64 a0 32)>=256)) then gb true (BY 8) () fun l=>gb true (Jh (bs [0,1,2,2,3,3,3,3,4,4,4,4,4,4,4,4,5,5,5,5,5,5,5,5,5,5,5,5,5,5,5,5,6,6,6,6,6,6,6,6,6,6,6,6,6,6,6,6,6,6,6,6,6,6,6,6,6,6,6,6,6,6,6,6,7,7,7,7,7,7,7,7,7,7,7,7,7,7,7,7,7,7,7,7,7,7,7,7,7,7,7,7,7,7,7,7,7,7,7,7,7,7,7,7,7,7,7,7,7,7,7,7,7,7,7,7,7,7,7,7,7,7,7,7,7,7,7,7,8,8,8,8,8,8,8,8,8,8,8,8,8,8,8,8,8,8,8,8,8,8,8,8,8,8,8,8,8,8,8,8,8,8,8,8,8,8,8,8,8,8,8,8,8,8,8,8,8,8,8,8,8,8,8,8,8,8,8,8,8,8,8,8,8,8,8,8,8,8,8,8,8,8,8,8,8,8,8,8,8,8,8,8,8,8,8,8,8,8,8,8,8,8,8,8,8,8,8,8,8,8,8,8,8,8,8,8,8,8,8,8,8,8,8,8,8,8,8,8,8,8,8,8,8,8,8,8]) (IntKind.wrap .u8 (shR .u64 (shR .u64 a0 32) 8))) 0 fun c=>K (wJ ((wJ (32+8))+(wJ c))) else gb true (Jh (bs [0,1,2,2,3,3,3,3,4,4,4,4,4,4,4,4,5,5,5,5,5,5,5,5,5,5,5,5,5,5,5,5,6,6,6,6,6,6,6,6,6,6,6,6,6,6,6,6,6,6,6,6,6,6,6,6,6,6,6,6,6,6,6,6,7,7,7,7,7,7,7,7,7,7,7,7,7,7,7,7,7,7,7,7,7,7,7,7,7,7,7,7,7,7,7,7,7,7,7,7,7,7,7,7,7,7,7,7,7,7,7,7,7,7,7,7,7,7,7,7,7,7,7,7,7,7,7,7,8,8,8,8,8,8,8,8,8,8,8,8,8,8,8,8,8,8,8,8,8,8,8,8,8,8,8,8,8,8,8,8,8,8,8,8,8,8,8,8,8,8,8,8,8,8,8,8,8,8,8,8,8,8,8,8,8,8,8,8,8,8,8,8,8,8,8,8,8,8,8,8,8,8,8,8,8,8,8,8,8,8,8,8,8,8,8,8,8,8,8,8,8,8,8,8,8,8,8,8,8,8,8,8,8,8,8,8,8,8,8,8,8,8,8,8,8,8,8,8,8,8,8,8,8,8,8,8]) (IntKind.wrap .u8 (shR .u64 a0 32))) 0 fun d=>K (wJ (32+(wJ d))) else bif decide (a0>=65536) then gb true (BY 16) () fun m=>bif (decide ((shR .u64 a0 16)>=256)) then gb true (BY 8) () fun o=>gb true (Jh (bs [0,1,2,2,3,3,3,3,4,4,4,4,4,4,4,4,5,5,5,5,5,5,5,5,5,5,5,5,5,5,5,5,6,6,6,6,6,6,6,6,6,6,6,6,6,6,6,6,6,6,6,6,6,6,6,6,6,6,6,6,6,6,6,6,7,7,7,7,7,7,7,7,7,7,7,7,7,7,7,7,7,7,7,7,7,7,7,7,7,7,7,7,7,7,7,7,7,7,7,7,7,7,7,7,7,7,7,7,7,7,7,7,7,7,7,7,7,7,7,7,7,7,7,7,7,7,7,7,8,8,8,8,8,8,8,8,8,8,8,8,8,8,8,8,8,8,8,8,8,8,8,8,8,8,8,8,8,8,8,8,8,8,8,8,8,8,8,8,8,8,8,8,8,8,8,8,8,8,8,8,8,8,8,8,8,8,8,8,8,8,8,8,8,8,8,8,8,8,8,8,8,8,8,8,8,8,8,8,8,8,8,8,8,8,8,8,8,8,8,8,8,8,8,8,8,8,8,8,8,8,8,8,8,8,8,8,8,8,8,8,8,8,8,8,8,8,8,8,8,8,8,8,8,8,8,8]) (IntKind.wrap .u8 (shR .u64 (shR .u64 a0 16) 8))) 0 fun e=>K (wJ ((wJ ((wJ (0+16))+8))+(wJ e))) else gb true (Jh (bs [0,1,2,2,3,3,3,3,4,4,4,4,4,4,4,4,5,5,5,5,5,5,5,5,5,5,5,5,5,5,5,5,6,6,6,6,6,6,6,6,6,6,6,6,6,6,6,6,6,6,6,6,6,6,6,6,6,6,6,6,6,6,6,6,7,7,7,7,7,7,7,7,7,7,7,7,7,7,7,7,7,7,7,7,7,7,7,7,7,7,7,7,7,7,7,7,7,7,7,7,7,7,7,7,7,7,7,7,7,7,7,7,7,7,7,7,7,7,7,7,7,7,7,7,7,7,7,7,8,8,8,8,8,8,8,8,8,8,8,8,8,8,8,8,8,8,8,8,8,8,8,8,8,8,8,8,8,8,8,8,8,8,8,8,8,8,8,8,8,8,8,8,8,8,8,8,8,8,8,8,8,8,8,8,8,8,8,8,8,8,8,8,8,8,8,8,8,8,8,8,8,8,8,8,8,8,8,8,8,8,8,8,8,8,8,8,8,8,8,8,8,8,8,8,8,8,8,8,8,8,8,8,8,8,8,8,8,8,8,8,8,8,8,8,8,8,8,8,8,8,8,8,8,8,8,8]) (IntKind.wrap .u8 (shR .u64 a0 16))) 0 fun f=>K (wJ ((wJ (0+16))+(wJ f))) else bif decide (a0>=256) then gb true (BY 8) () fun p=>gb true (Jh (bs [0,1,2,2,3,3,3,3,4,4,4,4,4,4,4,4,5,5,5,5,5,5,5,5,5,5,5,5,5,5,5,5,6,6,6,6,6,6,6,6,6,6,6,6,6,6,6,6,6,6,6,6,6,6,6,6,6,6,6,6,6,6,6,6,7,7,7,7,7,7,7,7,7,7,7,7,7,7,7,7,7,7,7,7,7,7,7,7,7,7,7,7,7,7,7,7,7,7,7,7,7,7,7,7,7,7,7,7,7,7,7,7,7,7,7,7,7,7,7,7,7,7,7,7,7,7,7,7,8,8,8,8,8,8,8,8,8,8,8,8,8,8,8,8,8,8,8,8,8,8,8,8,8,8,8,8,8,8,8,8,8,8,8,8,8,8,8,8,8,8,8,8,8,8,8,8,8,8,8,8,8,8,8,8,8,8,8,8,8,8,8,8,8,8,8,8,8,8,8,8,8,8,8,8,8,8,8,8,8,8,8,8,8,8,8,8,8,8,8,8,8,8,8,8,8,8,8,8,8,8,8,8,8,8,8,8,8,8,8,8,8,8,8,8,8,8,8,8,8,8,8,8,8,8,8,8]) (IntKind.wrap .u8 (shR .u64 a0 8))) 0 fun g=>K (wJ ((wJ (0+8))+(wJ g))) else gb true (Jh (bs [0,1,2,2,3,3,3,3,4,4,4,4,4,4,4,4,5,5,5,5,5,5,5,5,5,5,5,5,5,5,5,5,6,6,6,6,6,6,6,6,6,6,6,6,6,6,6,6,6,6,6,6,6,6,6,6,6,6,6,6,6,6,6,6,7,7,7,7,7,7,7,7,7,7,7,7,7,7,7,7,7,7,7,7,7,7,7,7,7,7,7,7,7,7,7,7,7,7,7,7,7,7,7,7,7,7,7,7,7,7,7,7,7,7,7,7,7,7,7,7,7,7,7,7,7,7,7,7,8,8,8,8,8,8,8,8,8,8,8,8,8,8,8,8,8,8,8,8,8,8,8,8,8,8,8,8,8,8,8,8,8,8,8,8,8,8,8,8,8,8,8,8,8,8,8,8,8,8,8,8,8,8,8,8,8,8,8,8,8,8,8,8,8,8,8,8,8,8,8,8,8,8,8,8,8,8,8,8,8,8,8,8,8,8,8,8,8,8,8,8,8,8,8,8,8,8,8,8,8,8,8,8,8,8,8,8,8,8,8,8,8,8,8,8,8,8,8,8,8,8,8,8,8,8,8,8]) (IntKind.wrap .u8 a0)) 0 fun h=>K (wJ (0+(wJ h)))

def Tf (n:Nat) (a0:Int) (K:Int->oP R):oP R:= bif false then gb true (Mj n (IntKind.wrap .u32 a0) some) 0 fun a=>K a else gb true (NE n a0 some) 0 fun b=>K b

def GX (n:Nat) (a0:Int) (K:Bool->oP R):oP R:= K (a0 != a0)

def Jl (n:Nat) (a0 a1:Int) (K:Int->oP R):oP R:= gb true (GX n a0 some) false fun b=>gb true (GX n a1 some) false fun a=>bif b then bif a then K 0 else K (-1:Int) else bif a then K 1 else bif decide (a0<a1) then K (-1:Int) else bif decide (a0>a1) then K 1 else K 0

def Ve (n:Nat) (a d b e:Int) (K:Int->oP R):oP R:= gb true (Jl n a b some) 0 fun c=>K c

def Qh (n:Nat) (b:Int) (k0:Int->Bool->LL->oP R):Nat->Int->LL->oP R
 | 0,_,_=>none
 | m+1,a,c=>gb (decide (a>b)) (inB (c.length) a) () fun z=>gb (decide (a>b)) (c[a.toNat]?) [] fun g=>gb (decide (a>b)) (g[0]?) oF fun l=>gb (decide (a>b)) (g[1]?) oF fun o=>gb (decide (a>b)) (inB (c.length) (wJ (a-1))) () fun aa=>gb (decide (a>b)) (c[(Int.toNat (wJ (a-1)))]?) [] fun h=>gb (decide (a>b)) (h[0]?) oF fun p=>gb (decide (a>b)) (h[1]?) oF fun q=>gb (decide (a>b)) (pIw l) 0 fun r=>gb (decide (a>b)) (pIw o) 0 fun s=>gb (decide (a>b)) (pIw p) 0 fun t=>gb (decide (a>b)) (pIw q) 0 fun u=>gb (decide (a>b)) (Ve n r s t u some) 0 fun i=>bif (bif decide (a>b) then (decide (i<0)) else false) then gb true (inB (c.length) (wJ (a-1))) () fun ab=>gb true (c[(Int.toNat (wJ (a-1)))]?) [] fun j=>gb true (j[0]?) oF fun d=>gb true (j[1]?) oF fun e=>gb true (inB (c.length) a) () fun ac=>gb true (c[a.toNat]?) [] fun k=>gb true (k[0]?) oF fun v=>gb true (k[1]?) oF fun x=>gb true (inB (c.length) a) () fun ad=>gb true (c[a.toNat]?) [] fun f=>gb true (inB (List.length (List.set c a.toNat (List.set (List.set f 0 d) 1 e))) (wJ (a-1))) () fun ae=>gb true ((List.set c a.toNat (List.set (List.set f 0 d) 1 e))[(Int.toNat (wJ (a-1)))]?) [] fun y=>Qh n b k0 m (wJ (a-1)) (List.set (List.set c a.toNat (List.set (List.set f 0 d) 1 e)) (Int.toNat (wJ (a-1))) (List.set (List.set y 0 v) 1 x)) else k0 a (bif decide (a>b) then (decide (i<0)) else false) c
def Q7 (n:Nat) (b h2:Int) (k0:Int->Bool->LL->oP R):Nat->Int->LL->oP R
 | 0,_,_=>none
 | m+1,a,c=>bif decide (a<h2) then Qh n b (fun e f d=>Q7 n b h2 k0 m (wJ (a+1)) d) n a c else k0 a (decide (a<h2)) c
def QS (n:Nat) (a:LL) (a1 a2:Int) (K:LL->oP R):oP R:= Q7 n a1 a2 (fun c d b=>K b) n (wJ (a1+1)) a

def XQ (n:Nat) (a h2 d:Int) (b:LL) (k0:LL->oP R):Nat->oP R
 | 0=>none
 | m+1=>bif (decide ((wJ (h2-a))<=12)) then gb true (QS n b a h2 some) [] fun c=>gb true (G2 c (b.length)) () fun e=>k0 c else bif (d == 0) then none else bif !true then none else none
def Xf (n:Nat) (a:LL) (a1 a2 b:Int) (K:LL->oP R):oP R:= XQ n a1 a2 b a (fun c=>K c) n

def Qj (n:Nat) (a:LL) (K:LL->oP R):oP R:= gb true (Tf n (IntKind.wrap .u64 (a.length:Int)) some) 0 fun c=>gb true (Xf n a 0 (a.length:Int) c some) [] fun b=>gb true (G2 b (a.length)) () fun u3=>K b

def Xi (n:Nat) (c:Int) (d:LL) (k0:Int->Bool->LL->oP R):Nat->Int->LL->oP R
 | 0,_,_=>none
 | m+1,b,a=>bif decide (b<c) then gb true (inB (d.length) b) () fun s=>gb true (d[b.toNat]?) [] fun g=>gb true (g[0]?) oF fun e=>gb true (g[1]?) oF fun f=>gb (decide ((wJ ((a.length:Int)-1))>=0)) (pIw e) 0 fun j=>gb (decide ((wJ ((a.length:Int)-1))>=0)) (inB (a.length) (wJ ((a.length:Int)-1))) () fun t=>gb (decide ((wJ ((a.length:Int)-1))>=0)) (a[(Int.toNat (wJ ((a.length:Int)-1)))]?) [] fun k=>gb (decide ((wJ ((a.length:Int)-1))>=0)) (k[1]?) oF fun l=>gb (decide ((wJ ((a.length:Int)-1))>=0)) (pIw l) 0 fun o=>bif (bif (decide ((wJ ((a.length:Int)-1))>=0)) then (decide (j<=o)) else false) then gb true (inB (a.length) (wJ ((a.length:Int)-1))) () fun u=>gb true (a[(Int.toNat (wJ ((a.length:Int)-1)))]?) [] fun p=>gb true (p[1]?) oF fun q=>gb true (pIw q) 0 fun h=>gb true (pIw f) 0 fun i=>gb true (inB (a.length) (wJ ((a.length:Int)-1))) () fun v=>gb true (a[(Int.toNat (wJ ((a.length:Int)-1)))]?) [] fun r=>Xi n c d k0 m (wJ (b+1)) (List.set a (Int.toNat (wJ ((a.length:Int)-1))) (List.set r 1 (Q4 (if h<i then i else h)))) else gb true (Ym ((a.length+[[e,f]].length)*16)) () fun x=>Xi n c d k0 m (wJ (b+1)) (a++[[e,f]]) else k0 b (decide (b<c)) a
def JZ (n:Nat) (b:LL) (K:LL->LL->oP R):oP R:= gb true (Qj n b some) [] fun a=>gb true (G2 a (b.length)) () fun u2=>Xi n (a.length:Int) a (fun d e c=>K c a) n 0 []

def Ty (n:Nat) (a0:Int) (a1 a2:LL) (K:LL->Int->oP R):oP R:= gb true (Tl n a0 [[D.sl 2 a1],[D.sl 2 a2]] some) 0 fun a=>bif (a != 0) then K [] a else gb true (QQ n [[D.sl 2 a1],[D.sl 2 a2]] some) [] fun b=>gb true (FW [b]) () fun u3=>gb true (JZ n b Tu2) ([],[]) fun c=>gb true (G2 c.2 (b.length)) () fun e=>K c.1 0

def Zr (n:Nat) (c g h d e:Int) (i:LL) (K:LL->oP R):oP R:= gb true (Po n e (wJ ((wJ (c-d))+1)) (wJ ((wJ ((wJ ((wJ (g-h))-1))-(wJ ((wJ (c-d))+1))))+1)) Tu2) ([],0) fun a=>gb true (Ty n e i a.1 Tu2) ([],0) fun f=>gb true (FW [f.1]) () fun u3=>K f.1

def Qr (n:Nat) (b:Int) (k0:LL->LL->Bool->LL->oP R):Nat->LL->LL->LL->oP R
 | 0,_,_,_=>none
 | m+1,a,h2,e=>bif (bif (decide ((a.length:Int)>0)) then (decide ((h2.length:Int)>0)) else false) then gb true (Q1 a 0) [] fun g=>gb true (g[0]?) oF fun c=>gb true (g[1]?) oF fun k=>gb true (g[2]?) oF fun l=>gb true (Q1 h2 0) [] fun h=>gb true (h[0]?) oF fun d=>gb true (h[1]?) oF fun o=>gb true (h[2]?) oF fun p=>gb true (pIw c) 0 fun q=>gb true (pIw d) 0 fun r=>bif (q == r) then gb true (pIw c) 0 fun ao=>gb true (pIw k) 0 fun s=>gb true (pIw l) 0 fun t=>gb true (pIw d) 0 fun ap=>gb true (pIw o) 0 fun u=>gb true (pIw p) 0 fun v=>gb true (Zr n s t u v b e some) [] fun f=>gb true (pIw c) 0 fun x=>gb true (pIw d) 0 fun y=>bif decide (x<=y) then gb true (slB (a.length) (some 1) none) (0,0) fun i=>gb true (pIw c) 0 fun z=>gb true (pIw d) 0 fun aa=>bif decide (z>=aa) then gb true (slB (h2.length) (some 1) none) (0,0) fun ab=>Qr n b k0 m (cut a i) (cut h2 ab) f else Qr n b k0 m (cut a i) h2 f else gb true (pIw c) 0 fun ac=>gb true (pIw d) 0 fun ad=>bif decide (ac>=ad) then gb true (slB (h2.length) (some 1) none) (0,0) fun ae=>Qr n b k0 m a (cut h2 ae) f else Qr n b k0 m a h2 f else gb true (pIw c) 0 fun ag=>gb true (pIw d) 0 fun ah=>bif decide (ag<=ah) then gb true (slB (a.length) (some 1) none) (0,0) fun j=>gb true (pIw c) 0 fun ai=>gb true (pIw d) 0 fun aj=>bif decide (ai>=aj) then gb true (slB (h2.length) (some 1) none) (0,0) fun ak=>Qr n b k0 m (cut a j) (cut h2 ak) e else Qr n b k0 m (cut a j) h2 e else gb true (pIw c) 0 fun al=>gb true (pIw d) 0 fun am=>bif decide (al>=am) then gb true (slB (h2.length) (some 1) none) (0,0) fun an=>Qr n b k0 m a (cut h2 an) e else Qr n b k0 m a h2 e else k0 a h2 (bif (decide ((a.length:Int)>0)) then (decide ((h2.length:Int)>0)) else false) e
def H6 (n:Nat) (a0 a1:LL) (a:Int) (b:LL) (K:LL->oP R):oP R:= Qr n a (fun d e f c=>K c) n a0 a1 b

def Jz (n:Nat) (a0:Int) (a1 a2:LL) (K:LL->Int->oP R):oP R:= jn (fun (d:Bool)=>bif d then K [] 4 else jn (fun (e:Bool)=>bif e then K [] 1 else gb true (H6 n a1 a2 a0 [] some) [] fun f=>K f 0) fun a=>gb true (JB n a1 some) false fun b=>bif !b then a (!b) else gb true (JB n a2 some) false fun g=>a (!g)) fun c=>bif decide (a0<1) then c (decide (a0<1)) else c (decide (a0>7200))

def PY (n:Nat) (a b:Int) (K:Int->oP R):oP R:= K (wJ (b-a))

def Wj (n:Nat) (h2:LL) (b:Int) (k0:Int->Int->Bool->oP R):Nat->Int->Int->oP R
 | 0,_,_=>none
 | m+1,c,a=>bif decide (a<b) then gb true (Q1 h2 a) [] fun d=>gb true (d[0]?) oF fun e=>gb true (d[1]?) oF fun f=>gb true (pIw e) 0 fun g=>gb true (pIw f) 0 fun h=>gb true (PY n g h some) 0 fun i=>Wj n h2 b k0 m (wJ (c+i)) (wJ (a+1)) else k0 c a (decide (a<b))
def Rc (n:Nat) (a0:LL) (K:Int->oP R):oP R:= Wj n a0 (a0.length:Int) (fun a b c=>K a) n 0 0

def TE (n:Nat) (a0:Int) (a1:LL) (K:Int->oP R):oP R:= gb true (GJ n a0 a1 some) false fun a=>bif !a then K 0 else gb true (Rc n a1 some) 0 fun b=>K b

def ZQ (n:Nat) (b:Int) (e:LL) (c:Int) (k0:Int->Bool->LL->oP R):Nat->Int->LL->oP R
 | 0,_,_=>none
 | m+1,a,d=>bif decide (a<c) then gb true (Q1 e a) [] fun f=>gb true (f[0]?) oF fun i=>gb true (f[1]?) oF fun j=>gb true (pIw j) 0 fun g=>gb true (pIw i) 0 fun h=>gb true (Ym ((d.length+[[Q4 g,Q4 (wJ ((wJ (h+b))-1))]].length)*16)) () fun k=>ZQ n b e c k0 m (wJ (a+1)) (d++[[Q4 g,Q4 (wJ ((wJ (h+b))-1))]]) else k0 a (decide (a<c)) d
def Z1 (n:Nat) (b c:Int) (d:LL) (k0:Int->Bool->LL->oP R):Nat->Int->LL->oP R
 | 0,_,_=>none
 | m+1,a,e=>bif decide (a<c) then gb true (inB (d.length) a) () fun k=>gb true (d[a.toNat]?) [] fun f=>gb true (f[0]?) oF fun i=>gb true (f[1]?) oF fun j=>gb true (pIw j) 0 fun g=>gb true (pIw i) 0 fun h=>gb true (Ym ((e.length+[[Q4 g,Q4 (wJ ((wJ (h+b))-1))]].length)*16)) () fun l=>Z1 n b c d k0 m (wJ (a+1)) (e++[[Q4 g,Q4 (wJ ((wJ (h+b))-1))]]) else k0 a (decide (a<c)) e
def U7 (n:Nat) (a0:Int) (a1 a2:LL) (K:LL->Int->oP R):oP R:= gb true (Jz n a0 a1 a2 Tu2) ([],0) fun a=>bif (a.2 != 0) then K [] a.2 else gb true (TE n a0 a.1 some) 0 fun h=>bif (h == a0) then K [] 13 else gb (decide ((a.1.length:Int)>1)) (inB (a.1.length) 0) () fun u3=>gb (decide ((a.1.length:Int)>1)) (a.1[(Int.toNat 0)]?) [] fun i=>gb (decide ((a.1.length:Int)>1)) (i[0]?) oF fun j=>gb (decide ((a.1.length:Int)>1)) (pIw j) 0 fun b=>gb (bif (decide ((a.1.length:Int)>1)) then (b == 0) else false) (inB (a.1.length) (wJ ((a.1.length:Int)-1))) () fun u=>gb (bif (decide ((a.1.length:Int)>1)) then (b == 0) else false) (a.1[(Int.toNat (wJ ((a.1.length:Int)-1)))]?) [] fun k=>gb (bif (decide ((a.1.length:Int)>1)) then (b == 0) else false) (k[1]?) oF fun l=>gb (bif (decide ((a.1.length:Int)>1)) then (b == 0) else false) (pIw l) 0 fun m=>bif (bif (bif (decide ((a.1.length:Int)>1)) then (b == 0) else false) then (m == a0) else false) then gb true (inB (a.1.length) (wJ ((a.1.length:Int)-1))) () fun v=>gb true (a.1[(Int.toNat (wJ ((a.1.length:Int)-1)))]?) [] fun o=>gb true (o[1]?) oF fun p=>gb true (pIw p) 0 fun c=>gb true (inB (a.1.length) 0) () fun x=>gb true (a.1[(Int.toNat 0)]?) [] fun q=>gb true (q[1]?) oF fun r=>gb true (pIw r) 0 fun d=>gb true (inB (a.1.length) (wJ ((a.1.length:Int)-1))) () fun y=>gb true (a.1[(Int.toNat (wJ ((a.1.length:Int)-1)))]?) [] fun e=>gb true (slB (List.length (List.set a.1 (Int.toNat (wJ ((a.1.length:Int)-1))) (List.set e 1 (Q4 (wJ (c+d)))))) (some 1) none) (0,0) fun f=>ZQ n a0 (cut (List.set a.1 (Int.toNat (wJ ((a.1.length:Int)-1))) (List.set e 1 (Q4 (wJ (c+d))))) f) ((List.length (cut (List.set a.1 (Int.toNat (wJ ((a.1.length:Int)-1))) (List.set e 1 (Q4 (wJ (c+d))))) f):Nat):Int) (fun z aa s=>K s 0) n 0 [] else Z1 n a0 (a.1.length:Int) a.1 (fun ab ac t=>K t 0) n 0 []

def QF (n:Nat) (c d:Int) (e:LL) (b:Int) (k0:Int->Bool->LL->oP R):Nat->Int->LL->oP R
 | 0,_,_=>none
 | m+1,a,f=>bif decide (a<b) then gb true (Q1 e a) [] fun g=>gb true (g[0]?) oF fun h=>gb true (g[1]?) oF fun i=>gb true (YD n c some) 0 fun j=>gb true (YD n d some) 0 fun k=>gb true (pIw h) 0 fun l=>gb true (pIw i) 0 fun o=>gb true (Xn n f 6 j k l o 0 some) [] fun p=>QF n c d e b k0 m (wJ (a+1)) p else k0 a (decide (a<b)) f
def QY (n:Nat) (e h:Int) (b i:LL) (k0:Int->LL->oP R) (k1:Int->Bool->LL->oP R):Nat->Int->LL->oP R
 | 0,_,_=>none
 | m+1,a,g=>bif (decide (a<(b.length:Int))) then gb true (Yh n b i e a some) (fun _=>false) fun k=>gb true (Q1 b e) [] fun l=>gb true (l[0]?) oF fun o=>gb true (pSl 3 o) [] fun p=>gb true (UK n p k Tu2) ([],(fun _=>false)) fun j=>gb true (Q1 b a) [] fun q=>gb true (q[0]?) oF fun r=>gb true (pSl 3 r) [] fun s=>gb true (UK n s j.2 Tu2) ([],(fun _=>false)) fun t=>gb true (U7 n h j.1 t.1 Tu2) ([],0) fun f=>bif (f.2 != 0) then k0 f.2 g else QF n e a f.1 (f.1.length:Int) (fun v x u=>QY n e h b i k0 k1 m (wJ (a+1)) u) n 0 g else k1 a (decide (a<(b.length:Int))) g
def Qt (n:Nat) (a b:Int) (c d:LL) (k0:Int->LL->oP R) (k1:Int->Bool->LL->oP R):Nat->Int->LL->oP R
 | 0,_,_=>none
 | m+1,h2,e=>bif decide (h2<a) then QY n h2 b c d (fun f g=>k0 f g) (fun i j h=>Qt n a b c d k0 k1 m (wJ (h2+1)) h) n (wJ (h2+1)) e else k1 h2 (decide (h2<a)) e
def Yy (n:Nat) (b:Int) (a c d:LL) (K:Int->LL->oP R):oP R:= Qt n (a.length:Int) b a c (fun e f=>K e f) (fun h i g=>K 0 g) n 0 d

def VP (n:Nat) (k l m o:LL) (d:Int) (p q e i g j r:LL) (K:Int->LL->LL->Int->oP R):oP R:= gb true (WS n k l m o d p q e i g j r some) 0 fun a=>bif (a != 0) then K 0 [] [] 1 else gb true (YP n e [] [] Tu2) ([],[]) fun b=>bif (decide ((b.2.length:Int)>48)) then K 0 [] [] 7 else gb true (Ts n k l m o d p q e i g j r Tu3) ([],[],0) fun c=>bif (c.2.2 != 0) then K 0 [] [] c.2.2 else gb true (YW n e g b.1 c.2.1 [] some) [] fun s=>gb true (Wa n d c.1 s some) false fun t=>bif !t then K 0 [] [] 13 else gb true (YF n e i g j b.1 c.2.1 [] some) [] fun r6=>gb true (Yy n d c.1 s r6 Tu2) (0,[]) fun h=>bif (h.1 != 0) then K 0 [] [] h.1 else bif (decide ((h.2.length:Int)>512)) then K 0 [] [] 7 else K d b.2 h.2 0

end Go.Vx
namespace Go.Vx
namespace Cx
variable (X:Cx)
def evl (i:Nat):Nat->LL
 |0=>[]
 |k+1=>evl i k++[[Q4 1,Q4 i,Q4 k],[Q4 2,Q4 i,Q4 k]]
def evs:Nat->LL
 |0=>[]
 |i+1=>evs i++evl i (X.nr i)
theorem Q2p {i:Nat}:∀ {k:Nat},(evl i k).length=2*k
 |0=>rfl
 |k+1=>by rw [evl,QjM,Q2p];simp;omega
variable {X}
theorem evs_len:∀ {i:Nat},(X.evs i).length=2*base X.nr i
 |0=>rfl
 |i+1=>by rw [evs,QjM,evs_len,Q2p,base];omega
def fst (X:Cx) (i:Nat):LL:=encI ((List.range i).map fun j=>(base X.nr j:Int))
theorem Q70 {i L:Nat} (h:i<L):Q1 (X.fst L) (i:Int)=some [Q4 (base X.nr i)]:=Tn (by simp [h])
variable {R:Type} {n:Nat} (h:X.OK)
include h
theorem Qcw (K:LL->LL->oP R):YP 400 X.Ls [] [] K=K (X.fst X.L) (X.evs X.L):=by
 have l1:=h.l1;unfold YP;refine Qx (r:=fun m i=>QT 400 X.Ls ((X.Ls.length:Nat):Int) (fun _ _ u v=>K u v) m i (X.fst i.toNat) (X.evs i.toNat)) (N:=X.Ls.length) (fun m i hi=>?_) (fun m=>?_) X.Ls.length 400 0 (by omega) (by omega)
 ·simp only [Int.toNat_natCast];have hb:=Ya h (i:=i) (by omega);have hl:=(Gg h hi).2.1;have e1:wJ (Int.tdiv ((2*base X.nr i:Nat):Int) 2)=(base X.nr i:Int):=by
   rw [Int.tdiv_eq_ediv_of_nonneg (by omega),Q6 (by omega) (by omega)];omega
  have e2:X.fst i++[[D.int .i64 (base X.nr i:Int)]]=X.fst (i+1):=by simp [fst,encI,List.range_succ]
  have a:(X.fst i).length=i:=by simp [fst,encI]
  rw [QT,Q9 hi,cond_true,Qa,(Gg h hi).1];simp -implicitDefEqProofs only [Q0,Qjs,Qju,QA,Qu (show i<=1000 by omega),Ei (b:=2) (by decide),evs_len,e1,e2,XS (show ((X.fst i).length+[[D.int .i64 (base X.nr i:Int)]].length)*8<=100000 by rw [a];simp;omega)];refine Qx (r:=fun m' k=>Xd 400 (i:Int) ((X.nr i:Nat):Int) (fun _ _ w=>QT 400 X.Ls ((X.Ls.length:Nat):Int) (fun _ _ u v=>K u v) m ((i+1:Nat):Int) (X.fst (i+1)) w) m' k (X.evs i++evl i k.toNat)) (N:=X.nr i) (fun m' k hk=>?_) (fun m'=>?_) (X.nr i) 400 0 (by omega) (by omega) |> Eq.trans (by simp [evl];rfl)
  ·simp only [Int.toNat_natCast];rw [Xd,Q9 hk,cond_true,XS (by simp [evs_len,Q2p];omega),Q0,Qu (by omega),QjK];rfl
  ·simp only [Int.toNat_natCast];rw [Xd,Ql,Qjt];rfl
 ·simp only [Int.toNat_natCast];rw [QT,Ql,Qjt];rfl
omit h in
theorem QbT {a:Nat} (ha:a<=1000) (K:Int->oP R):YD n (a:Int) K=K ((2*a:Nat):Int):=by
 unfold YD;rw [Q6 (by omega) (by omega)];congr 1
omit h in
theorem Qgk {a:Nat} (ha:a<=1000) (K:Int->oP R):UU n (a:Int) K=K ((2*a+1:Nat):Int):=by
 unfold UU;rw [Q6 (x:=2*(a:Int)) (by omega) (by omega),Q6 (by omega) (by omega)];congr 1
theorem Q3B {i k:Nat} (hi:i<X.Ls.length) (hk:k<=10) (K:Int->oP R):Y5 n (X.fst X.L) (i:Int) (k:Int) K=K ((base X.nr i+k:Nat):Int):=by
 have hb:=Ya h (i:=i) (by omega);unfold Y5;have e:=Q70 (X:=X) (i:=i) (L:=X.L) hi;rw [Qa] at e;have el:(X.fst X.L).length=X.Ls.length:=by simp [fst,encI,L]
 rw [ZI (by omega) (by omega),Q0,Int.toNat_natCast,e,Q0];simp -implicitDefEqProofs only [Q0,Qjs,Q2];rw [Q6 (by omega) (by omega)];congr 1
theorem Q0T {i k:Nat} (hi:i<X.Ls.length) (hk:k<=10) (K:Int->oP R):X8 n (X.fst X.L) (i:Int) (k:Int) K=K ((base X.nr i+k:Nat):Int):=Q3B (n:=n) h hi hk K
theorem Qc2 {i:Nat} (hi:i<X.Ls.length) (K:Int->oP R):Wt n X.Ls (X.fst X.L) (i:Int) K=K ((base X.nr i+(X.nr i-1):Nat):Int):=by
 have hl:=(Gg h hi).2.1;have hw:wJ (((List.length (Kr X.Ls i):Nat):Int)-1)=((X.nr i-1:Nat):Int):=JE (k:=X.nr i) (by omega) (by omega);unfold Wt;rw [Qa,(Gg h hi).1];simp -implicitDefEqProofs only [Q0,Qjs,Qju,QA,hw,Q3B (n:=n) h hi (show X.nr i-1<=10 by omega)]
theorem Qek {i:Nat} (hi:i<X.Ls.length) (K:Int->oP R):Vz n X.Ls (X.fst X.L) (i:Int) K=K ((base X.nr i+(X.nr i-1):Nat):Int):=Qc2 (n:=n) h hi K
omit h in
def j1 (X:Cx) (i k:Nat):Tup:=(base X.nr i+k,base X.nr i+(k+1),X.run i k+X.mn i k,X.run i k+X.ex i k+X.mx i k)
omit h in
def jT (X:Cx) (t:Tup):Tup:=(base X.nr t.1+(X.nr t.1-1),base X.nr t.2.1+0,X.run t.1 (X.nr t.1-1)+t.2.2.1,X.run t.1 (X.nr t.1-1)+X.ex t.1 (X.nr t.1-1)+t.2.2.2)
omit h in
def jL (X:Cx) (i:Nat):List Tup:=flat (fun i=>X.nr i-1) X.j1 i
omit h in
def jns (X:Cx):List Tup:=X.jL X.L++X.T.map X.jT
omit h in
theorem Q6e {i k:Nat} (hi:i<X.Ls.length) (hk:k<X.nr i):Q1 (encI (X.runs X.L)) ((base X.nr i+k:Nat):Int)=some [Q4 (X.run i k)]:=Tn (Q1G hk hi)
omit h in
theorem QeN {i k:Nat} (hi:i<X.Ls.length) (hk:k<X.nr i):Q1 (Kl (X.occs X.L)) ((base X.nr i+k:Nat):Int)=some [D.sl 3 ((X.occ i k).map enc)]:=QK (Q1G hk hi)
theorem Qem {i k b:Nat} (hi:i<X.Ls.length) (hk:k<X.nr i) {ex lo ac:Int} (a:0<=ex) (e1:ex<=1000) (l0:0<=lo) (l1:lo<=1000) (c:0<=ac) (d:ac<=1000) {J:List Tup} (hJ:J.length<=100) (K:LL->oP R) :
  Yr n (encI (X.runs X.L)) (J.map tuR) ((base X.nr i+k:Nat):Int) (b:Int) ex lo ac K=K ((J++[(base X.nr i+k,b,X.run i k+lo,X.run i k+ex+ac)]).map tuR):=by
 have hr:=Rk h hi hk;unfold Yr;rw [Q6e hi hk,Q0];simp -implicitDefEqProofs only [Q0,Qjs,Q2,Q6 (x:=X.run i k+lo) (by omega) (by omega),Q6 (x:=X.run i k+ex) (by omega) (by omega),Q6 (x:=X.run i k+ex+ac) (by omega) (by omega)];rw [XS (by simp;omega),Q0,QjF];rfl
omit h in
theorem Qee {i:Nat}:(X.jL i).length=base (fun i=>X.nr i-1) i:=ZT
theorem Qdl {i:Nat} (hi:i<=X.Ls.length):(X.jL i).length<=6:=by
 rw [Qee];have:∀ i,base (fun i=>X.nr i-1) i<=base X.nr i:=by
  intro i;induction i with
  |zero=>exact QjC _
  |succ i ih=>rw [base,base];omega
 exact Nat.le_trans (this i) (Ya h hi)
theorem QdU (K:LL->oP R):YW 400 X.Ls (X.T.map tuR) (X.fst X.L) (encI (X.runs X.L)) [] K=K (X.jns.map tuR):=by
 have l1:=h.l1;have tl:=h.tl;unfold YW;have s2:∀ k0:Int->Bool->LL->oP R,QE 400 X.Ls ((X.Ls.length:Nat):Int) (X.fst X.L) (encI (X.runs X.L)) k0 400 0 []=k0 ((X.Ls.length:Nat):Int) false ((X.jL X.L).map tuR):=by
  intro k0;refine Qx (r:=fun m i=>QE 400 X.Ls ((X.Ls.length:Nat):Int) (X.fst X.L) (encI (X.runs X.L)) k0 m i ((X.jL i.toNat).map tuR)) (N:=X.Ls.length) (fun m i hi=>?_) (fun m=>?_) X.Ls.length 400 0 (by omega) (by omega)
  ·simp only [Int.toNat_natCast];have hl:=(Gg h hi).2.1;have hJ:=Qdl h (i:=i) (by omega);have hw:wJ (((List.length (Kr X.Ls i):Nat):Int)-1)=((X.nr i-1:Nat):Int):=JE (k:=X.nr i) (by omega) (by omega);have an:(cut (Kr X.Ls i) (0,X.nr i-1)).length=X.nr i-1:=by rw [LX,List.length_take];unfold nr;omega
   rw [QE,Q9 hi,cond_true,Qa,(Gg h hi).1];simp -implicitDefEqProofs only [Q0,Qjs,Qju,QA,Qu (show i<=1000 by omega),hw,Q27 (n:=(Kr X.Ls i).length) (h:=X.nr i-1) (Nat.sub_le ..),an];refine Qx (r:=fun m' k=>Xp 400 (i:Int) (cut (Kr X.Ls i) (0,X.nr i-1)) ((X.nr i-1:Nat):Int) (X.fst X.L) (encI (X.runs X.L)) (fun _ _ w=>QE 400 X.Ls ((X.Ls.length:Nat):Int) (X.fst X.L) (encI (X.runs X.L)) k0 m ((i+1:Nat):Int) w) m' k ((X.jL i++(List.range k.toNat).map (X.j1 i)).map tuR)) (N:=X.nr i-1) (fun m' k hk=>?_) (fun m'=>?_) (X.nr i-1) 400 0 (by omega) (by omega) |> Eq.trans (by simp)
   ·simp only [Int.toNat_natCast];have r:=rd h hi (show k<X.nr i by omega);have ak:Q1 (cut (Kr X.Ls i) (0,X.nr i-1)) (k:Int)=some [Q4 (rF X.Ls i k 0),Q4 (X.ex i k),Q4 (X.mn i k),Q4 (X.mx i k)]:=by rw [LX,Qa,List.getElem?_take_of_lt hk,r.row]
    have c:=r.ex0;have e1:=r.ex1;have e2:=r.mn0;have o:=r.mn1;have p:=r.mn2;have s:=r.mn3;rw [Xp,Q9 hk,cond_true,ak];simp -implicitDefEqProofs only [Q0,Qjs,Qju,Q2,Q3B (n:=400) h hi (show k<=10 by omega),Qu (show k<=1000 by omega),Q3B (n:=400) h hi (show k+1<=10 by omega),Qem (n:=400) (b:=base X.nr i+(k+1)) h hi (show k<X.nr i by omega) c (show X.ex i k<=1000 by omega) e2 (show X.mn i k<=1000 by omega) (show 0<=X.mx i k by omega) (show X.mx i k<=1000 by omega) (J:=X.jL i++(List.range k).map (X.j1 i)) (by simp;omega)];rw [show (base X.nr i+k,base X.nr i+(k+1),X.run i k+X.mn i k,X.run i k+X.ex i k+X.mx i k)=X.j1 i k from rfl,ZP]
   ·simp only [Int.toNat_natCast];rw [Xp,Ql,Qjt];rfl
  ·simp only [Int.toNat_natCast];rw [QE,Ql,Qjt];rfl
 rw [s2];rw [Qjw];refine Qx (r:=fun m j=>Xo 400 (X.T.map tuR) ((X.T.length:Nat):Int) (X.fst X.L) X.Ls (encI (X.runs X.L)) (fun _ _ w=>K w) m j ((X.jL X.L++(X.T.take j.toNat).map X.jT).map tuR)) (N:=X.T.length) (fun m j hj=>?_) (fun m=>?_) X.T.length 400 0 (by omega) (by omega) |> Eq.trans (by simp)
 ·simp only [Int.toNat_natCast];obtain ⟨⟨a,b,lo,ac⟩,e⟩:∃ q,X.T[j]? = some q:=⟨X.T[j],Qjz hj⟩;have ht:=h.tr _ (QjD e);have ha:a<X.Ls.length:=ht.1;have hb:b<X.Ls.length:=ht.2.1;have t1:=ht.2.2.1;have t2:=ht.2.2.2.1;have f:=ht.2.2.2.2.1;have g:=ht.2.2.2.2.2.1;dsimp only at t1 t2 f g;have hl:=(Gg h ha).2.1;have hJ:=Qdl h (i:=X.L) (QjC _);have hw:wJ (((List.length (Kr X.Ls a):Nat):Int)-1)=((X.nr a-1:Nat):Int):=JE (k:=X.nr a) (by omega) (by omega);have r:=rd h ha (show X.nr a-1<X.nr a by omega);have c:=r.ex0;have e1:=r.ex1;rw [Xo,Q9 hj,cond_true,QK e];simp -implicitDefEqProofs only [Q0,tuR,Qjs,Qju,Q2,QA,Qa,(Gg h ha).1,hw,r.row,Qc2 (n:=400) h ha,Qu (show j<=1000 by omega)];have d:=Q3B (R:=Int) (n:=400) h hb (Nat.zero_le 10) some;rw [show ((0:Nat):Int)=0 from rfl] at d;rw [d,Q0];have l:X.jL X.L++(X.T.take (j+1)).map X.jT=X.jL X.L++(X.T.take j).map X.jT++[X.jT (a,b,lo,ac)]:=by rw [YJ e,QjF,QjK];rfl
  rw [Qem (n:=400) (b:=base X.nr b+0) h ha (show X.nr a-1<X.nr a by omega) c (show X.ex a (X.nr a-1)<=1000 by omega) (show 0<=lo by omega) (show lo<=1000 by omega) (show 0<=ac by omega) (show ac<=1000 by omega) (J:=X.jL X.L++(X.T.take j).map X.jT) (by simp;omega),Q0,l];rfl
 ·simp only [Int.toNat_natCast];rw [Xo,Ql,Qjt,QjP];rfl
end Cx
end Go.Vx
namespace Go.Vx
variable {R:Type}
def MJ (n:Nat) (a0 a1:Int) (K:Int->oP R):oP R:= bif decide (a1<1) then K 0 else gb true (nz a1) () fun a=>bif (decide ((Int.tmod a0 a1)<0)) then K (wJ ((Int.tmod a0 a1)+a1)) else K (Int.tmod a0 a1)
end Go.Vx
namespace Go.Vx
abbrev Sp2:=Int × Int
def Yt (q:Sp2):List D:=[Q4 q.1,Q4 q.2]
def VS (t:Int):Int->List Sp2->Prop
 |_,[]=>True
 |l,(a,b)::r=>l<a/\a<b/\b<=t/\VS t b r
def InS (y:Int) (l:List Sp2):Prop:=∃ q∈l,q.1<=y/\y<q.2
def cnt:List Sp2->Int
 |[]=>0
 |(a,b)::r=>(b-a)+cnt r
theorem LV {y:Int}:¬ InS y []:=fun ⟨_,h,_⟩=>nomatch h
theorem TK {y:Int} {q:Sp2} {l:List Sp2}:InS y (q::l)↔(q.1<=y/\y<q.2)\/InS y l:=by
 constructor
 ·rintro ⟨p,hp,h⟩;cases hp with
  |head=>exact .inl h
  |tail _ hp=>exact .inr ⟨p,hp,h⟩
 ·rintro (h | ⟨p,hp,h⟩)
  ·exact ⟨q,.head _,h⟩
  ·exact ⟨p,.tail _ hp,h⟩
theorem Q9z {y:Int} {a b:List Sp2}:InS y (a++b)↔InS y a\/InS y b:=by
 constructor
 ·rintro ⟨p,hp,h⟩;rcases List.mem_append.1 hp with hp | hp
  ·exact .inl ⟨p,hp,h⟩
  ·exact .inr ⟨p,hp,h⟩
 ·rintro (⟨p,hp,h⟩ | ⟨p,hp,h⟩)
  ·exact ⟨p,List.mem_append_left _ hp,h⟩
  ·exact ⟨p,List.mem_append_right _ hp,h⟩
theorem Q6z {y:Int} {a b:List Sp2} (h:a.Perm b):InS y a↔InS y b:=⟨fun ⟨p,hp,q⟩=>⟨p,h.mem_iff.1 hp,q⟩,fun ⟨p,hp,q⟩=>⟨p,h.mem_iff.2 hp,q⟩⟩
theorem VS.mono {t:Int}:∀ {l l':Int} {s:List Sp2},l'<=l->VS t l s->VS t l' s
 |_,_,[],_,_=>trivial
 |_,_,(a,b)::r,h,⟨c,h2⟩=>⟨by omega,h2⟩
theorem VS.rng {t:Int}:∀ {l:Int} {s:List Sp2},VS t l s->∀ q∈s,l<q.1/\q.1<q.2/\q.2<=t
 |_,[],_,_,h=>nomatch h
 |l,(a,b)::r,⟨c,h2,d,e⟩,q,h=>by
  cases h with
  |head=>exact ⟨c,h2,d⟩
  |tail _ h=>have:=e.rng q h;exact ⟨by omega,this.2⟩
theorem VS.cnt {t:Int}:∀ {l:Int} {s:List Sp2},l<=t->VS t l s->0<=cnt s/\cnt s<=t-l/\(0<s.length->cnt s<=t-l-1)
 |l,[],h,_=>⟨Int.le_refl _,by simp only [Vx.cnt];omega,fun h=>nomatch h⟩
 |l,(a,b)::r,h,⟨e,h2,c,d⟩=>by
  have:=d.cnt c;simp only [Vx.cnt];omega
theorem Qa0 {t:Int}:∀ {l:Int} {s:List Sp2},VS t l s->l<=t->∀ q∈s,q.2-q.1<=cnt s
 |_,[],_,_,_,h=>nomatch h
 |l,(a,b)::r,⟨e,h2,c,d⟩,hl,q,h=>by
  have f:=d.cnt c;cases h with
  |head=>simp only [Vx.cnt];omega
  |tail _ h=>have:=Qa0 d c q h;simp only [Vx.cnt];omega
section
variable {R:Type} {n:Nat} {t:Int}
theorem Q28 (a:1<=t) (b:t<=7200) (K:Bool->oP R):Vd n t K=K true:=by
 unfold Vd;simp only [show decide (t>=1)=true from Qjx a,show decide (t<=7200)=true from Qjx b,cond_true]
theorem Q6v {l:List Sp2} (hl:l.length<=1000) {k0:oP R} {k1:Int->Int->Bool->oP R} {E:oP R} (hk:∀ a b c,k1 a b c=E):∀ (ac:List Sp2) (i m:Nat) (last:Int),l.drop i=ac->ac.length<m->VS t last ac->UA n t (l.map Yt) ((l.length:Nat):Int) k0 k1 m last (i:Int)=E
 |[],i,m+1,last,hd,_,_=>by
  have:=Uf hd;rw [UA,show decide ((i:Int)<((l.length:Nat):Int))=false by simpa using this,Qjt,hk]
 |(a,b)::ac,i,m+1,last,hd,hm,⟨f,h2,g,d⟩=>by
  obtain ⟨e,aj,hi⟩:=Zg hd;rw [UA,Q9 hi,cond_true,QK e];simp -implicitDefEqProofs only [Q0,Yt,Qjs,Qju,Q2,show decide (a<=last)=false from Qjv (by omega),show decide (a>=b)=false from Qjv (by omega),show decide (b>t)=false from Qjv (by omega),Qjt,Qu (show i<=1000 by omega)];exact Q6v hl hk ac (i+1) m b aj (by simpa using hm) d
theorem AJ {l:List Sp2} (a:1<=t) (b:t<=7200) (hl:l.length<=300) (h:VS t (-1) l):GJ 400 t (l.map Yt) (some:Bool->Option Bool)=some true:=by
 unfold GJ;rw [Q28 a b,Q0,Q8 (by rfl),Qjw];exact Q6v (by omega) (fun _ _ _=>rfl) l 0 400 (-1) rfl (by omega) h
theorem Q6c {l:List Sp2} (hl:l.length<=1000) {k0:Int->Int->Bool->oP R}:∀ (ac:List Sp2) (i m:Nat) (acc:Int),l.drop i=ac->ac.length<m->(∃ u,VS t u ac /\ -1<=u/\u<=t)->t<=7200->0<=acc->acc<=100000-cnt ac->∃ j b,Wj n (l.map Yt) ((l.length:Nat):Int) k0 m acc (i:Int)=k0 (acc+cnt ac) j b
 |[],i,m+1,acc,hd,_,_,_,_,_=>by
  have:=Uf hd;rw [Wj,show decide ((i:Int)<((l.length:Nat):Int))=false by simpa using this,Qjt];exact ⟨_,_,by rw [cnt,Int.add_zero]⟩
 |(a,b)::ac,i,m+1,acc,hd,hm,⟨u,⟨k,h2,d,f⟩,o,p⟩,ht,q,g=>by
  obtain ⟨e,aj,hi⟩:=Zg hd;have hc:=f.cnt d;rw [cnt] at g ⊢;rw [Wj,Q9 hi,cond_true,QK e];simp -implicitDefEqProofs only [Q0,Yt,Qjs,Qju,Q2,PY,Q6 (x:=b-a) (by omega) (by omega),Q6 (x:=acc+(b-a)) (by omega) (by omega),Qu (show i<=1000 by omega)];obtain ⟨j,c,h⟩:=Q6c hl ac (i+1) m (acc+(b-a)) aj (by simpa using hm) ⟨b,f,by omega,d⟩ ht (by omega) (by omega);exact ⟨j,c,by rw [h,Int.add_assoc]⟩
theorem QfD {l:List Sp2} (c:1<=t) (a:t<=7200) (hl:l.length<=300) (h:VS t (-1) l):TE 400 t (l.map Yt) (some:Int->Option Int)=some (cnt l):=by
 have hc:=h.cnt (by omega);obtain ⟨j,b,e⟩:=Q6c (n:=400) (k0:=fun w _ _=>(some w:Option Int)) (l:=l) (by omega) l 0 400 0 rfl (by omega) ⟨-1,h,by omega,by omega⟩ a (by omega) (by omega);unfold TE;rw [AJ c a hl h,Q0,Q8 (by rfl)];unfold Rc;rw [Qjw,show Wj 400 (l.map Yt) ((l.length:Nat):Int) (fun w _ _=>(some w:Option Int)) 400 0 0=_ from e,Q0,Int.zero_add]
theorem QfQ {x:Int} (c:1<=t) (d:t<=7200) (h2 : -1000000000<=x) (f:x<=1000000000) (K:Int->oP R):Hs n x t K=K (x % t):=by
 unfold Hs;rw [Q8 (Qjv (by omega)),Ei (by omega),Q0];have g:=QjT x (show t≠0 by omega);have h:=QjS x (show 0<t by omega);by_cases hx:0<=x
 ·rw [QjO hx,Q8 (Qjv (by omega))]
 ·have e:Int.tmod x t = -((-x) % t):=by
   rw [show x = -(-x) by omega,Int.neg_tmod,QjO (by omega),Int.neg_neg]
  have e1:x % t=if (-x) % t=0 then 0 else t-(-x) % t:=by
   have a:=QjT (-x) (show t≠0 by omega);have i:=QjS (-x) (show 0<t by omega);have j:=Int.mul_ediv_add_emod (-x) t;split
   ·rename_i b;rw [show x=t*(-((-x) / t)) by rw [Int.mul_neg];omega];exact Int.mul_emod_right _ _
   ·rename_i b;rw [show x=(t-(-x) % t)+t*(-((-x) / t)-1) by rw [Int.mul_sub,Int.mul_neg];omega,Int.add_mul_emod_self_left];rw [show (t-(-x) % t+t*(-((-x) / t)-1))=x by rw [Int.mul_sub,Int.mul_neg];omega];exact Int.emod_eq_of_lt (by omega) (by omega)
  rw [e];by_cases hz:(-x) % t=0
  ·rw [hz,Q8 (by rfl),e1,if_pos hz];rfl
  ·have a:=QjT (-x) (show t≠0 by omega);rw [QU (Qjx (by omega)),Q6 (by omega) (by omega),e1,QjA hz];congr 1;omega
theorem QfK {x:Int} (a:1<=t) (b:t<=7200) (h2 : -1000000000<=x) (c:x<=1000000000) (K:Int->oP R):MJ n x t K=K (x % t):=QfQ (n:=n) a b h2 c K
def Q4g (t x k:Int):List Sp2:=if k<1 then [] else if t<=k then [(0,t)] else if x+k<=t then [(x,x+k)] else [(0,x+k-t),(x,t)]
theorem Q90 {x k:Int}:(Q4g t x k).length<=2:=by
 unfold Q4g;split
 ·simp
 split
 ·simp
 split <;> simp
theorem QaJ {x k:Int} (a:1<=t) (hx:0<=x) (ac:x<t):VS t (-1) (Q4g t x k):=by
 unfold Q4g;split
 ·trivial
 split
 ·exact ⟨by omega,by omega,by omega,trivial⟩
 split
 ·exact ⟨by omega,by omega,by omega,trivial⟩
 ·exact ⟨by omega,by omega,by omega,by omega,by omega,by omega,trivial⟩
theorem QhW {x y:Int} (hx:0<=x) (ac:x<t) (hy:0<=y) (aj:y<t):(y-x) % t=if x<=y then y-x else y-x+t:=by
 split
 ·exact Int.emod_eq_of_lt (by omega) (by omega)
 ·rw [show y-x=(y-x+t)+t*(-1) by omega,Int.add_mul_emod_self_left];rw [show y-x+t+t*(-1)+t=y-x+t by omega];exact Int.emod_eq_of_lt (by omega) (by omega)
theorem Qbe {x k y:Int} (hx:0<=x) (ak:x<t) (hy:0<=y) (ac:y<t):InS y (Q4g t x k)↔(y-x) % t<k:=by
 rw [QhW hx ak hy ac];unfold Q4g;split
 ·refine ⟨fun h=>absurd h LV,fun h=>?_⟩;split at h <;> omega
 split
 ·rw [TK];constructor
  ·intro _;split <;> omega
  ·intro _;exact .inl ⟨hy,ac⟩
 split
 ·rw [TK];constructor
  ·rintro (h | h)
   ·dsimp only at h;rw [if_pos h.1];omega
   ·exact absurd h LV
  ·intro h;left;dsimp only;split at h <;> omega
 ·rw [TK,TK];constructor
  ·rintro (h | h | h)
   ·dsimp only at h;split <;> omega
   ·dsimp only at h;rw [if_pos h.1];omega
   ·exact absurd h LV
  ·intro h;dsimp only;by_cases aj:x<=y
   ·exact .inr (.inl ⟨aj,ac⟩)
   ·rw [QjA aj] at h;exact .inl ⟨hy,by omega⟩
theorem Qg7 {f k:Int} (c:1<=t) (d:t<=7200) (h2 : -1000000<=f) (j:f<=1000000) (l : -1000000<=k) (m:k<=1000000):Po 400 t f k Tu2=some ((Q4g t (f % t) k).map Yt,(0:Int)):=by
 have e:=QjT f (show t≠0 by omega);have g:=QjS f (show 0<t by omega);unfold Po;rw [Q28 c d,Q0,Q8 (by rfl),QfQ c d (by omega) (by omega),Q0];revert e g;generalize f % t=x;intro e g;unfold JG Q4g;by_cases c1:k<1
 ·rw [show decide (k<1)=true from Qjx c1,cond_true,if_pos c1];rfl
 rw [show decide (k<1)=false from Qjv c1,Qjt,QjA c1];by_cases a:t<=k
 ·rw [show decide (k>=t)=true from Qjx a,cond_true,if_pos a];rfl
 rw [show decide (k>=t)=false from Qjv a,Qjt,QjA a,Q6 (x:=x+k) (by omega) (by omega)];by_cases b:x+k<=t
 ·rw [show decide (x+k<=t)=true from Qjx b,cond_true,if_pos b];rfl
 ·rw [show decide (x+k<=t)=false from Qjv b,Qjt,QjA b,Q6 (x:=x+k-t) (by omega) (by omega)];rfl
end
theorem QhO {R:Type} {n:Nat} {a b:Int} (K:Int->oP R):Jl n a b K=K (if a<b then -1 else if b<a then 1 else 0):=by
 unfold Jl;have hn:∀ x:Int,GX n x (some:Bool->Option Bool)=some false:=fun x=>by
  unfold GX;simp
 rw [hn,hn,Q0,Q0,Q8 (by rfl),Q8 (by rfl)];by_cases h:a<b
 ·rw [QU (Qjx h),if_pos h]
 ·rw [Q8 (Qjv h),QjA h];by_cases g:b<a
  ·rw [QU (Qjx g),if_pos g]
  ·rw [Q8 (Qjv g),QjA g]
def Asc (l:List Sp2):Prop:=l.Pairwise fun a b=>a.1<=b.1
theorem QaT (q:Sp2):(Yt q)[0]? = some (Q4 q.1):=rfl
theorem Qaq (q:Sp2):(Yt q)[1]? = some (Q4 q.2):=rfl
theorem Qge (z q:Sp2):((Yt z).set 0 (Q4 q.1)).set 1 (Q4 q.2)=Yt q:=rfl
theorem Qhv (q:Sp2) (v:Int):(Yt q).set 1 (D.int .i64 v)=Yt (q.1,v):=rfl
section
variable {R:Type} {n:Nat}
theorem Qfv {A B:LL} {x:List D} {i:Nat} (h:A.length=i):(A++x::B)[i]? = some x:=by
 subst h;rw [List.getElem?_append_right (QjC _),Nat.sub_self];rfl
theorem QfJ {A B:LL} {x y:List D} {i:Nat} (h:A.length=i):(A++x::B).set i y=A++y::B:=by
 subst h;rw [List.set_append_right _ _ (QjC _),Nat.sub_self];rfl
theorem Qbu {K:LL->oP R} {k0:Int->Bool->LL->oP R} (hk:∀ a b w,k0 a b w=K w):∀ (c m:Nat) (A:List Sp2) (x:Sp2) (B C:List Sp2),A.length=c->c<m->(A++x::B++C).length<=100->Asc (A++B)->(∀ b∈B,x.1<=b.1) ->
  ∃ L:List Sp2,Qh n 0 k0 m (c:Int) ((A++x::B++C).map Yt)=K ((L++C).map Yt)/\Asc L/\L.Perm (A++x::B)
 |0,m+1,A,x,B,C,hA,_,_,hs,hx=>by
  obtain rfl:=List.eq_nil_of_length_eq_zero hA;refine ⟨x::B,?_,QjN.2 ⟨hx,hs⟩,List.Perm.refl _⟩;unfold Qh;rw [show decide (((0:Nat):Int)>0)=false from rfl];simp -implicitDefEqProofs only [gbF,Qjt,hk,List.nil_append]
 |c+1,m+1,A,x,B,C,hA,hm,hl,hs,hx=>by
  obtain ⟨A',y,rfl⟩:∃ A' y,A=A'++[y]:=⟨A.dropLast,A.getLast (by intro h;rw [h] at hA;simp at hA),(List.dropLast_concat_getLast _).symm⟩;have ac:A'.length=c:=by simpa using hA
  have ak:c+1<((A'++[y]++x::B++C).map Yt).length:=by simp;omega
  have hc:c<=100:=by simp at hl;omega
  have e1:((A'++[y]++x::B++C).map Yt)=(A'.map Yt++[Yt y])++Yt x::(B++C).map Yt:=by simp
  have e2:((A'++[y]++x::B++C).map Yt)=A'.map Yt++Yt y::(Yt x::(B++C).map Yt):=by simp
  have g1:((A'++[y]++x::B++C).map Yt)[c+1]? = some (Yt x):=by rw [e1];exact Qfv (by simp [ac])
  have d:((A'++[y]++x::B++C).map Yt)[c]? = some (Yt y):=by rw [e2];exact Qfv (by simp [ac])
  have s1:((A'++[y]++x::B++C).map Yt).set (c+1) (Yt y)=A'.map Yt++Yt y::(Yt y::(B++C).map Yt):=by rw [e1,QfJ (by simp [ac])];simp
  have e:(A'.map Yt++Yt y::(Yt y::(B++C).map Yt))[c]? = some (Yt y):=Qfv (by simp [ac]);have s2:(A'.map Yt++Yt y::(Yt y::(B++C).map Yt)).set c (Yt x)=((A'++x::(y::B)++C).map Yt):=by rw [QfJ (by simp [ac])];simp
  have f:inB ((A'++[y]++x::B++C).map Yt).length ((c+1:Nat):Int)=some ():=ZI (by omega) (by omega);have g:inB ((A'++[y]++x::B++C).map Yt).length ((c:Nat):Int)=some ():=ZI (by omega) (by omega);have i:inB (A'.map Yt++Yt y::(Yt y::(B++C).map Yt)).length ((c:Nat):Int)=some ():=ZI (by omega) (by simp;omega);unfold Qh;rw [show decide (((c+1:Nat):Int)>0)=true from Qjx (by omega),JE (show c+1<=1000 by omega) (by omega),QjB];unfold Ve;simp -implicitDefEqProofs only [f,g,Q0,Int.toNat_natCast,g1,d,QhO];simp -implicitDefEqProofs only [QaT,Qaq,Qge,Q0,Q2,cond_true];by_cases aj:x.1<y.1
  ·rw [if_pos aj];simp -implicitDefEqProofs only [show decide ((-1:Int)<0)=true from rfl,cond_true,g1,QaT,Qaq,Qge,Q0,s1];simp -implicitDefEqProofs only [i,e,Q0,Qge,s2];obtain ⟨L,j,h2,k⟩:=Qbu hk c m A' x (y::B) C ac (by omega) (by simp at hl ⊢;omega) (by simpa using hs) (fun b hb=>by
    cases hb with
    |head=>omega
    |tail _ hb=>exact hx b hb)
   refine ⟨L,j,h2,k.trans ?_⟩;rw [QjK];exact List.Perm.append_left _ (List.Perm.swap ..)
  ·refine ⟨A'++[y]++x::B,?_,?_,List.Perm.refl _⟩
   ·rw [QjA aj,show decide ((if y.1<x.1 then (1:Int) else 0)<0)=false from Qjv (by split <;> omega),Qjt,hk]
   ·unfold Asc at hs ⊢;rw [List.pairwise_append] at hs ⊢;refine ⟨hs.1,QjN.2 ⟨hx,hs.2.1⟩,fun a ha b hb=>?_⟩;cases hb with
    |head=>
     rcases List.mem_append.1 ha with h | h
     ·have:=(List.pairwise_append.1 hs.1).2.2 a h y (List.mem_singleton.2 rfl);omega
     ·obtain rfl:=List.mem_singleton.1 h;omega
    |tail _ hb=>exact hs.2.2 a ha b hb
theorem Qbt {K:LL->oP R} {k0:Int->Bool->LL->oP R} (hk:∀ a b w,k0 a b w=K w):∀ (ac P:List Sp2) (m:Nat),ac.length<m->(P++ac).length<=100->Asc P ->
  ∃ L:List Sp2,Q7 400 0 (((P++ac).length:Nat):Int) k0 m ((P.length:Nat):Int) ((P++ac).map Yt)=K (L.map Yt)/\Asc L/\L.Perm (P++ac)
 |[],P,m+1,_,_,hs=>by
  refine ⟨P,?_,hs,by simp⟩;rw [Q7,List.append_nil,Ql,Qjt,hk]
 |x::ac,P,m+1,hm,hl,hs=>by
  rw [Q7,Q9 (by simp),cond_true,Qu (by simp at hl;omega)];obtain ⟨L,d,h2,c⟩:=Qbu (n:=400) (K:=fun w=>Q7 400 0 (((P++x::ac).length:Nat):Int) k0 m ((P.length+1:Nat):Int) w) (k0:=fun _ _ w=>Q7 400 0 (((P++x::ac).length:Nat):Int) k0 m ((P.length+1:Nat):Int) w) (fun _ _ _=>rfl) P.length 400 P x [] ac rfl (by simp at hl;omega) (by simp at hl ⊢;omega) (by simpa using hs) (fun b hb=>nomatch hb);rw [show (P++x::ac)=P++[x]++ac by simp] at *
  rw [d];have hL:L.length=P.length+1:=by rw [c.length_eq];simp
  obtain ⟨L',g1,e,f⟩:=Qbt hk ac L m (by simpa using hm) (by simp [hL] at hl ⊢;omega) h2;rw [show (((P++[x]++ac).length:Nat):Int)=(((L++ac).length:Nat):Int) by simp [hL];omega,show ((P.length+1:Nat):Int)=((L.length:Nat):Int) by rw [hL]];exact ⟨L',g1,e,f.trans (c.append_right _)⟩
theorem Qi1:((List.range 13).all fun k=>(Tf 400 (IntKind.wrap .u64 ((k:Nat):Int)) (some:Int->Option Int)).isSome)=true:=by kernel_rfl
theorem Qh2 {l:List Sp2} (hl:l.length<=12):∃ L:List Sp2,Qj 400 (l.map Yt) (some:LL->Option LL)=some (L.map Yt)/\Asc L/\L.Perm l:=by
 obtain ⟨b,hb⟩:=Option.isSome_iff_exists.1 (List.all_eq_true.1 Qi1 l.length (List.mem_range.2 (by omega)));unfold Qj;rw [Qjw,hb,Q0];unfold Xf XQ;rw [Q6 (x:=((l.length:Nat):Int)-0) (by omega) (by omega),QU (Qjx (by omega))];unfold QS;have aj:∀ L:List Sp2,L.length=l.length->(gb true (gb true (some (L.map Yt)) [] fun a=>gb true (G2 a (List.length (l.map Yt))) () fun f=>some a) [] fun c=>gb true (G2 c l.length) () fun u3=>(some c:Option LL))=some (L.map Yt):=fun L h=>by
  rw [Q0,MB (by simp [h]),Q0,Q0,MB (by simp [h]),Q0]
 rw [show wJ ((0:Int)+1)=((1:Nat):Int) from rfl];cases l with
 |nil=>
  refine ⟨[],?_,List.Pairwise.nil,List.Perm.refl _⟩;rfl
 |cons x ac=>
  obtain ⟨L,e,h2,d⟩:=Qbt (K:=(some:LL->Option LL)) (k0:=fun _ _ w=>some w) (fun _ _ _=>rfl) ac [x] 400 (by simp at hl;omega) (by simp at hl ⊢;omega) (List.pairwise_singleton ..);refine ⟨L,?_,h2,d⟩;rw [show (x::ac)=[x]++ac from rfl,show ((1:Nat):Int)=(([x].length:Nat):Int) from rfl,e];exact aj L d.length_eq
def mgS:Int->Int->List Sp2->List Sp2
 |a,b,[]=>[(a,b)]
 |a,b,(c,d)::r=>if c<=b then mgS a (if b<d then d else b) r else (a,b)::mgS c d r
theorem Q5v:∀ {a b:Int} {r:List Sp2},(mgS a b r).length<=r.length+1
 |_,_,[]=>QjC _
 |a,b,(c,d)::r=>by
  rw [mgS];split
  ·have:=Q5v (a:=a) (b:=if b<d then d else b) (r:=r);simp only [QjI];omega
  ·have:=Q5v (a:=c) (b:=d) (r:=r);simp only [QjI];omega
theorem Q9d {t:Int}:∀ {l a b:Int} {r:List Sp2},l<a->a<b->b<=t->Asc ((a,b)::r)->(∀ q∈r,q.1<q.2/\q.2<=t)->VS t l (mgS a b r)
 |l,a,b,[],e,h2,f,_,_=>⟨e,h2,f,trivial⟩
 |l,a,b,(c,d)::r,e,h2,f,h,g=>by
  have hs:=QjN.1 h;have hc:a<=c:=hs.1 (c,d) (.head _);have hd:=g (c,d) (.head _);rw [mgS];split
  ·refine Q9d e (by split <;> omega) (by split <;> simp_all) (QjN.2 ⟨fun q hq=>hs.1 q (.tail _ hq),(QjN.1 hs.2).2⟩) (fun q hq=>g q (.tail _ hq))
  ·exact ⟨e,h2,f,Q9d (by omega) hd.1 hd.2 hs.2 (fun q hq=>g q (.tail _ hq))⟩
theorem Q94 {y:Int}:∀ {a b:Int} {r:List Sp2},Asc ((a,b)::r)->a<b->(∀ q∈r,q.1<q.2)->(InS y (mgS a b r)↔(a<=y/\y<b)\/InS y r)
 |a,b,[],_,_,_=>by rw [mgS,TK]
 |a,b,(c,d)::r,f,h2,e=>by
  have hs:=QjN.1 f;have hc:a<=c:=hs.1 (c,d) (.head _);have hd:=e (c,d) (.head _);rw [mgS,TK];split
  ·rw [Q94 (a:=a) (b:=if b<d then d else b) (QjN.2 ⟨fun q hq=>hs.1 q (.tail _ hq),(QjN.1 hs.2).2⟩) (by split <;> omega) (fun q hq=>e q (.tail _ hq))];dsimp only at hc hd ⊢;rw [<- or_assoc];refine or_congr_left ?_;split <;> omega
  ·rw [TK,Q94 hs.2 hd (fun q hq=>e q (.tail _ hq))]
theorem Q2H {K:LL->oP R} {k0:Int->Bool->LL->oP R} (hk:∀ a b w,k0 a b w=K w) {l:List Sp2} (hl:l.length<=100):∀ (ac:List Sp2) (i m:Nat) (A:List Sp2) (a b:Int),l.drop i=ac->ac.length<m->A.length+ac.length<=100 ->
  Xi n ((l.length:Nat):Int) (l.map Yt) k0 m (i:Int) ((A++[(a,b)]).map Yt)=K ((A++mgS a b ac).map Yt)
 |[],i,m+1,A,a,b,hd,_,_=>by
  have:=Uf hd;rw [Xi,show decide ((i:Int)<((l.length:Nat):Int))=false by simpa using this,Qjt,hk,mgS]
 |(c,d)::ac,i,m+1,A,a,b,hd,hm,hA=>by
  obtain ⟨e,an,hi⟩:=Zg hd;have aq:A.length<=100:=by omega
  have f:(l.map Yt)[i]? = some (Yt (c,d)):=by rw [QjL,e];rfl
  have e1:(A++[(a,b)]).map Yt=A.map Yt++Yt (a,b)::[]:=by simp
  have ak:((A++[(a,b)]).map Yt).length=A.length+1:=by simp
  have g:((A++[(a,b)]).map Yt)[A.length]? = some (Yt (a,b)):=by rw [e1];exact Qfv (by simp)
  have al:∀ v,((A++[(a,b)]).map Yt).set A.length (Yt (a,v))=(A++[(a,v)]).map Yt:=fun v=>by rw [e1,QfJ (by simp)];simp
  rw [Xi,Q9 hi,cond_true,ak,JE (show A.length+1<=1000 by omega) (by omega),QjB,Qjw,ZI (by omega) (by omega),ZI (by omega) (by omega),show decide ((A.length:Int)>=0)=true from Qjx (by omega)];simp -implicitDefEqProofs only [Q0,Int.toNat_natCast,f,g,Qu (show i<=1000 by omega)];simp -implicitDefEqProofs only [QaT,Qaq,Qhv,Q0,Q2,cond_true];rw [mgS];by_cases aj:c<=b
  ·rw [show decide (c<=b)=true from Qjx aj,cond_true,if_pos aj];rw [al];exact Q2H hk hl ac (i+1) m A a _ an (by simpa using hm) (by simp at hA;omega)
  ·rw [show decide (c<=b)=false from Qjv aj,Qjt,QjA aj,XS (by simp;omega),Q0];have:=Q2H hk hl ac (i+1) m (A++[(a,b)]) c d an (by simpa using hm) (by simp at hA ⊢;omega);rw [show A++(a,b)::mgS c d ac=A++[(a,b)]++mgS c d ac by simp,<- this,QjF (l₂:=[(c,d)])];rfl
theorem t2a {x y:List D}:decide ((0:Int)<(([x,y].length:Nat):Int))=true:=rfl
theorem t2b {x y:List D}:decide ((1:Int)<(([x,y].length:Nat):Int))=true:=rfl
theorem t2c {x y:List D}:decide ((2:Int)<(([x,y].length:Nat):Int))=false:=rfl
theorem t2d:wJ ((0:Int)+1)=1:=rfl
theorem t2e:wJ ((1:Int)+1)=2:=rfl
theorem t2f {x y:List D}:Q1 [x,y] 0=some x:=rfl
theorem t2g {x y:List D}:Q1 [x,y] 1=some y:=rfl
theorem Qdq {a b:List Sp2} (h:a.length+b.length<=100):QQ 400 [[D.sl 2 (a.map Yt)],[D.sl 2 (b.map Yt)]] (some:LL->Option LL)=some ((a++b).map Yt):=by
 have hg:∀ k:Nat,k<=100->QJ 400 (k:Int) (some:LL->Option LL)=some []:=fun k hk=>by
  unfold QJ;rw [Q8 (Qjv (by omega)),show wJ ((0:Int)-0)=0 from rfl,Q6 (x:=(k:Int)-0) (by omega) (by omega)];by_cases c:k=0
  ·subst c;rfl
  ·rw [QU (Qjx (by omega)),show slB 0 none (some (0:Int))=some (0,0) from rfl,Q0,QU (Qjx (by omega)),Q0,XS (by omega),Q0]
 unfold QQ;rw [Qf];simp -implicitDefEqProofs only [t2a,t2b,t2c,t2d,t2e,t2f,t2g,cond_true,Qjt,Q0,Qjs,QA,Qjw,Q6 (x:=0+(a.length:Int)) (by omega) (by omega),Q6 (x:=0+(a.length:Int)+(b.length:Int)) (by omega) (by omega),show decide (0+(a.length:Int)<0)=false from Qjv (by omega),show decide (0+(a.length:Int)+(b.length:Int)<0)=false from Qjv (by omega),show 0+(a.length:Int)+(b.length:Int)=((a.length+b.length:Nat):Int) by omega,Q6 (x:=((a.length+b.length:Nat):Int)) (by omega) (by omega),show decide (((a.length+b.length:Nat):Int)<0)=false from Qjv (by omega),hg _ h];rw [Qf];simp -implicitDefEqProofs only [t2a,t2b,t2c,t2d,t2e,t2f,t2g,cond_true,Qjt,Q0,Qjs,QA,Qjw,Q6 (x:=0+(a.length:Int)) (by omega) (by omega),Q6 (x:=0+(a.length:Int)+(b.length:Int)) (by omega) (by omega),show decide (0+(a.length:Int)<0)=false from Qjv (by omega),show decide (0+(a.length:Int)+(b.length:Int)<0)=false from Qjv (by omega),show 0+(a.length:Int)+(b.length:Int)=((a.length+b.length:Nat):Int) by omega,Q6 (x:=((a.length+b.length:Nat):Int)) (by omega) (by omega),show decide (((a.length+b.length:Nat):Int)<0)=false from Qjv (by omega),hg _ h];rw [Qf];simp -implicitDefEqProofs only [t2a,t2b,t2c,t2d,t2e,t2f,t2g,cond_true,Qjt,Q0,Qjs,QA,Qjw,Q6 (x:=0+(a.length:Int)) (by omega) (by omega),Q6 (x:=0+(a.length:Int)+(b.length:Int)) (by omega) (by omega),show decide (0+(a.length:Int)<0)=false from Qjv (by omega),show decide (0+(a.length:Int)+(b.length:Int)<0)=false from Qjv (by omega),show 0+(a.length:Int)+(b.length:Int)=((a.length+b.length:Nat):Int) by omega,Q6 (x:=((a.length+b.length:Nat):Int)) (by omega) (by omega),show decide (((a.length+b.length:Nat):Int)<0)=false from Qjv (by omega),hg _ h];rw [Qg];simp -implicitDefEqProofs only [t2a,t2b,t2c,t2d,t2e,t2f,t2g,cond_true,Qjt,Q0,Qjs,QA,Qjw,List.nil_append,QjH,XS (show (0+a.length)*16<=100000 by omega),XS (show (a.length+b.length)*16<=100000 by omega),QjF];rw [Qg];simp -implicitDefEqProofs only [t2a,t2b,t2c,t2d,t2e,t2f,t2g,cond_true,Qjt,Q0,Qjs,QA,Qjw,List.nil_append,QjH,XS (show (0+a.length)*16<=100000 by omega),XS (show (a.length+b.length)*16<=100000 by omega),QjF];rw [Qg];simp -implicitDefEqProofs only [t2a,t2b,t2c,t2d,t2e,t2f,t2g,cond_true,Qjt,Q0,Qjs,QA,Qjw,List.nil_append,QjH,XS (show (0+a.length)*16<=100000 by omega),XS (show (a.length+b.length)*16<=100000 by omega),QjF]
theorem Qe4 {l:List Sp2}:FW [l.map Yt]=some ():=by
 unfold FW;rw [show ([l.map Yt].all BT)=true by simp [BT,Yt,Q5u]];rfl
theorem Qe0 {t:Int} {a b:List Sp2} (c:1<=t) (d:t<=7200) (ha:VS t (-1) a) (hb:VS t (-1) b) (hl:a.length<=300) (ac:b.length<=300):Tl 400 t [[D.sl 2 (a.map Yt)],[D.sl 2 (b.map Yt)]] (some:Int->Option Int)=some 0:=by
 unfold Tl;rw [Q28 c d,Q0,Q8 (by rfl)];rw [Ut];simp -implicitDefEqProofs only [t2a,t2b,t2c,t2d,t2e,t2f,t2g,cond_true,Qjt,Q0,Qjs,QA,AJ c d hl ha,AJ c d ac hb,QjE];rw [Ut];simp -implicitDefEqProofs only [t2a,t2b,t2c,t2d,t2e,t2f,t2g,cond_true,Qjt,Q0,Qjs,QA,AJ c d hl ha,AJ c d ac hb,QjE];rw [Ut];simp -implicitDefEqProofs only [t2a,t2b,t2c,t2d,t2e,t2f,t2g,cond_true,Qjt,Q0,Qjs,QA,AJ c d hl ha,AJ c d ac hb,QjE]
theorem Qfd {t:Int} {a b:List Sp2} (e:1<=t) (f:t<=7200) (ha:VS t (-1) a) (hb:VS t (-1) b) (hl:a.length+b.length<=12):∃ c:List Sp2,Ty 400 t (a.map Yt) (b.map Yt) Tu2=some (c.map Yt,(0:Int))/\VS t (-1) c/\c.length<=a.length+b.length/\∀ y,InS y c↔InS y a\/InS y b:=by
 obtain ⟨L,s1,s2,d⟩:=Qh2 (l:=a++b) (by simp;omega);have hr:∀ q∈L,-1<q.1/\q.1<q.2/\q.2<=t:=fun q hq=>by
  rcases List.mem_append.1 (d.mem_iff.1 hq) with h | h
  ·exact ha.rng q h
  ·exact hb.rng q h
 have ac:L.length=a.length+b.length:=by rw [d.length_eq];simp
 unfold Ty;rw [Qe0 e f ha hb (by omega) (by omega),Q0,Q8 (by rfl),Qdq (by omega),Q0,Qe4,Q0];unfold JZ;rw [s1,Q0,MB (by simp [ac]),Q0,Qjw];cases L with
 |nil=>
  refine ⟨[],?_,trivial,by simp,fun y=>?_⟩
  ·rw [Qjw,<- d.length_eq,Xi,show decide ((0:Int)<((([]:List Sp2).length:Nat):Int))=false from rfl,Qjt];rfl
  ·rw [<- Q9z,<- Q6z d]
 |cons q L=>
  obtain ⟨x,z⟩:=q;have hq:=hr (x,z) (.head _);have aj:L.length+1<=12:=by simp at ac;omega
  have hm:=Q2H (n:=400) (K:=fun w=>(some (w,((x,z)::L).map Yt):Option (LL × LL))) (k0:=fun _ _ w=>some (w,((x,z)::L).map Yt)) (fun _ _ _=>rfl) (l:=(x,z)::L) (by simp;omega) L 1 399 [] x z rfl (by omega) (by simp;omega);have ak:∀ k0:Int->Bool->LL->Option (LL × LL),Xi 400 ((((x,z)::L).length:Nat):Int) (((x,z)::L).map Yt) k0 400 0 []=Xi 400 ((((x,z)::L).length:Nat):Int) (((x,z)::L).map Yt) k0 399 ((1:Nat):Int) (([]++[(x,z)]).map Yt):=fun k0=>by
   rw [Xi,show decide ((0:Int)<((((x,z)::L).length:Nat):Int))=true from Qjx (by simp),cond_true,ZI (by omega) (by simp),show (((x,z)::L).map Yt)[Int.toNat 0]? = some (Yt (x,z)) from rfl,show decide (wJ (((([]:LL).length:Nat):Int)-1)>=0)=false from rfl];simp -implicitDefEqProofs only [Q0,QaT,Qaq,gbF,Qjt,t2d];rw [XS (by simp),Q0];rfl
  refine ⟨mgS x z L,?_,Q9d hq.1 hq.2.1 hq.2.2 s2 (fun q h=>(hr q (.tail _ h)).2),?_,fun y=>?_⟩
  ·rw [ak,hm,Q0,MB (by simp at ac ⊢;omega),Q0];rfl
  ·have:=Q5v (a:=x) (b:=z) (r:=L);simp at ac;omega
  ·rw [Q94 s2 hq.2.1 (fun q h=>(hr q (.tail _ h)).2.1),<- Q9z,<- Q6z d,TK]
end

def FB (t:Int) (A B:List Occ) (y:Int):Prop:=∃ x a b c d,(x,a,b)∈A/\(x,c,d)∈B/\(y-(a-d+1)) % t<b-a+d-c-1
theorem QaI {t:Int} {q:Occ} {A B:List Occ} {y:Int} (h:∀ p∈B,p.1≠q.1):FB t (q::A) B y↔FB t A B y:=by
 constructor
 ·rintro ⟨x,a,b,c,d,e,h2,f⟩;cases e with
  |head=>exact (h (x,c,d) h2 rfl).elim
  |tail _ e=>exact ⟨x,a,b,c,d,e,h2,f⟩
 ·rintro ⟨x,a,b,c,d,e,h2,f⟩;exact ⟨x,a,b,c,d,.tail _ e,h2,f⟩
theorem QaU {t:Int} {q:Occ} {A B:List Occ} {y:Int} (h:∀ p∈A,p.1≠q.1):FB t A (q::B) y↔FB t A B y:=by
 constructor
 ·rintro ⟨x,a,b,c,d,e,h2,f⟩;cases h2 with
  |head=>exact (h (x,a,b) e rfl).elim
  |tail _ h2=>exact ⟨x,a,b,c,d,e,h2,f⟩
 ·rintro ⟨x,a,b,c,d,e,h2,f⟩;exact ⟨x,a,b,c,d,e,.tail _ h2,f⟩
theorem Qdn {t x a b c d:Int} {A B:List Occ} {y:Int} (hA:∀ p∈A,p.1≠x) (hB:∀ p∈B,p.1≠x):FB t ((x,a,b)::A) ((x,c,d)::B) y↔(y-(a-d+1)) % t<b-a+d-c-1\/FB t A B y:=by
 constructor
 ·rintro ⟨x',a',b',c',d',e,h2,f⟩;cases e with
  |head=>
   cases h2 with
   |head=>exact .inl f
   |tail _ h2=>exact (hB (x,c',d') h2 rfl).elim
  |tail _ e=>
   cases h2 with
   |head=>exact (hA (x,a',b') e rfl).elim
   |tail _ h2=>exact .inr ⟨x',a',b',c',d',e,h2,f⟩
 ·rintro (h | ⟨x',a',b',c',d',e,h2,f⟩)
  ·exact ⟨x,a,b,c,d,.head _,.head _,h⟩
  ·exact ⟨x',a',b',c',d',.tail _ e,.tail _ h2,f⟩
theorem Qfw (y f t:Int):(y-f % t) % t=(y-f) % t:=by
 rw [Int.sub_emod,Int.emod_emod,<- Int.sub_emod]
section
variable {R:Type} {n:Nat} {t:Int}
theorem Np (q:Occ):(enc q)[0]? = some (Q4 q.1):=rfl
theorem MX (q:Occ):(enc q)[1]? = some (Q4 q.2.1):=rfl
theorem LG (q:Occ):(enc q)[2]? = some (Q4 q.2.2):=rfl
theorem Q3J {O:List Occ} (hl:O.length<=1000) {k0:oP R} {k1:Int->Int->Bool->oP R} {E:oP R} (hk:∀ a b c,k1 a b c=E):∀ (ac:List Occ) (i m:Nat) (last:Int),O.drop i=ac->ac.length<m->OL last ac->Ux n (O.map enc) ((O.length:Nat):Int) k0 k1 m last (i:Int)=E
 |[],i,m+1,last,hd,_,_=>by
  have:=Uf hd;rw [Ux,show decide ((i:Int)<((O.length:Nat):Int))=false by simpa using this,Qjt,hk]
 |(x,a,b)::ac,i,m+1,last,hd,hm,⟨f,h2,g,h,j,d⟩=>by
  obtain ⟨e,aj,hi⟩:=Zg hd;rw [Ux,Q9 hi,cond_true,QK e];simp -implicitDefEqProofs only [Q0,Np,MX,LG,Q2,show decide (x<=last)=false from Qjv (by omega),show decide (a>=b)=false from Qjv (by omega),show decide (a < -65536)=false from Qjv (by omega),show decide (b>65536)=false from Qjv (by omega),Qjt,Qu (show i<=1000 by omega)];exact Q3J hl hk ac (i+1) m x aj (by simpa using hm) d
theorem Q4R {O:List Occ} (hl:O.length<=300) (h:OL (-1) O):JB 400 (O.map enc) (some:Bool->Option Bool)=some true:=by
 unfold JB;rw [Qjw];exact Q3J (by omega) (fun _ _ _=>rfl) O 0 400 (-1) rfl (by omega) h
theorem Qhl {α:Type} (q:α) (l:List α):slB (q::l).length (some (1:Int)) none=some (1,l.length+1)/\cut (q::l) (1,l.length+1)=l:=by
 constructor
 ·unfold slB;rw [QU (by simp;omega)];rfl
 ·simp [cut]
theorem Fb (e:1<=t) (j:t<=7200) {K:LL->oP R} {k0:LL->LL->Bool->LL->oP R} (hk:∀ a b c w,k0 a b c w=K w):∀ (m:Nat) (A B:List Occ) (acc:List Sp2) (lA lB:Int),A.length+B.length<m->OL lA A->OL lB B->VS t (-1) acc->acc.length+2*A.length<=12 ->
  ∃ ac:List Sp2,Qr 400 t k0 m (A.map enc) (B.map enc) (acc.map Yt)=K (ac.map Yt)/\VS t (-1) ac/\ac.length<=12/\∀ y,0<=y->y<t->(InS y ac↔InS y acc\/FB t A B y)
 |m+1,[],B,acc,lA,lB,_,_,_,hv,hl=>by
  refine ⟨acc,?_,hv,by omega,fun y _ _=>⟨.inl,?_⟩⟩
  ·rw [Qr,show decide (((([]:List Occ).map enc).length:Int)>0)=false from rfl,Qjt,Qjt,hk]
  ·rintro (h | ⟨x,a,b,c,d,h,_⟩)
   ·exact h
   ·nomatch h
 |m+1,q::A,[],acc,lA,lB,_,_,_,hv,hl=>by
  refine ⟨acc,?_,hv,by simp at hl;omega,fun y _ _=>⟨.inl,?_⟩⟩
  ·rw [Qr,show decide (((([]:List Occ).map enc).length:Int)>0)=false from rfl,show decide ((((q::A).map enc).length:Int)>0)=true from Qjx (by simp),cond_true,Qjt,hk]
  ·rintro (h | ⟨x,a,b,c,d,_,h,_⟩)
   ·exact h
   ·nomatch h
 |m+1,(x,a,b)::A,(x',c,d)::B,acc,lA,lB,hm,hA,hB,hv,hl=>by
  obtain ⟨a1,a2,a3,a4,a5,v⟩:=id hA;obtain ⟨b1,b2,b3,b4,b5,z⟩:=id hB;have aw:A.length+B.length+2<m+1:=by simp at hm;omega
  have a7:acc.length+2*A.length+2<=12:=by simp at hl;omega
  have cA:=Qhl (enc (x,a,b)) (A.map enc);have cB:=Qhl (enc (x',c,d)) (B.map enc);have al:∀ p∈A,x<p.1:=fun p hp=>(v.mem p hp).1
  have ak:∀ p∈B,x'<p.1:=fun p hp=>(z.mem p hp).1
  rw [Qr];simp -implicitDefEqProofs only [List.map_cons,show decide ((((enc (x,a,b)::A.map enc).length:Nat):Int)>0)=true from Qjx (by simp),show decide ((((enc (x',c,d)::B.map enc).length:Nat):Int)>0)=true from Qjx (by simp),cond_true,show ∀ (r:List D) (l:LL),Q1 (r::l) 0=some r from fun _ _=>rfl,Q0,Np,MX,LG,Q2,cA,cB];rcases Int.lt_trichotomy x x' with hx | hx | hx
  ·rw [show (x == x')=false by simp;omega,show decide (x<=x')=true from Qjx (by omega),show decide (x>=x')=false from Qjv (by omega)];simp -implicitDefEqProofs only [cond_true,Qjt];obtain ⟨ac,g1,n,o,s⟩:=Fb e j hk m A ((x',c,d)::B) acc x lB (by simp;omega) v hB hv (by omega);refine ⟨ac,g1,n,o,fun y g i=>?_⟩;rw [s y g i,QaI (fun p hp=>?_)];cases hp with
   |head=>dsimp only;omega
   |tail _ hp=>have:=ak p hp;dsimp only;omega
  ·subst hx;have f0:wJ (wJ (a-d)+1)=a-d+1:=by rw [Q6 (x:=a-d) (by omega) (by omega),Q6 (by omega) (by omega)]
   have f1:wJ (wJ (wJ (wJ (b-c)-1)-(a-d+1))+1)=b-a+d-c-1:=by
    rw [Q6 (x:=b-c) (by omega) (by omega),Q6 (x:=b-c-1) (by omega) (by omega),Q6 (x:=b-c-1-(a-d+1)) (by omega) (by omega),Q6 (by omega) (by omega)];omega
   have e0:=QjT (a-d+1) (show t≠0 by omega);have e1:=QjS (a-d+1) (show 0<t by omega);have ao:=Qg7 (t:=t) (f:=a-d+1) (k:=b-a+d-c-1) e j (by omega) (by omega) (by omega) (by omega);have a8:=Q90 (t:=t) (x:=(a-d+1) % t) (k:=b-a+d-c-1);obtain ⟨u,u1,u2,u3,u4⟩:=Qfd e j hv (QaJ (k:=b-a+d-c-1) e e0 e1) (by omega);rw [show (x == x)=true by simp,show decide (x<=x)=true from Qjx (by omega)];simp -implicitDefEqProofs only [cond_true];unfold Zr;rw [f0,f1,ao,Q0,u1,Q0,Qe4,Q0];obtain ⟨ac,g1,n,o,s⟩:=Fb e j hk m A B u x x (by omega) v z u2 (by omega);refine ⟨ac,g1,n,o,fun y g i=>?_⟩;rw [s y g i,u4,Qbe e0 e1 g i,Qfw,Qdn (fun p hp=>by have:=al p hp;omega) (fun p hp=>by have:=ak p hp;omega),or_assoc]
  ·rw [show (x == x')=false by simp;omega,show decide (x<=x')=false from Qjv (by omega),show decide (x>=x')=true from Qjx (by omega)];simp -implicitDefEqProofs only [cond_true,Qjt];obtain ⟨ac,g1,n,o,s⟩:=Fb e j hk m ((x,a,b)::A) B acc lA x' (by simp;omega) hA z hv hl;refine ⟨ac,g1,n,o,fun y g i=>?_⟩;rw [s y g i,QaU (fun p hp=>?_)];cases hp with
   |head=>dsimp only;omega
   |tail _ hp=>have:=al p hp;dsimp only;omega
theorem Qga {A B:List Occ} (a:1<=t) (b:t<=7200) (hA:OL (-1) A) (hB:OL (-1) B) (lA:A.length<=6) (lB:B.length<=6):∃ F:List Sp2,Jz 400 t (A.map enc) (B.map enc) Tu2=some (F.map Yt,(0:Int))/\VS t (-1) F/\F.length<=12/\∀ y,0<=y->y<t->(InS y F↔FB t A B y):=by
 obtain ⟨F,g1,e,f,g⟩:=Fb a b (K:=fun w=>(some w:Option LL)) (k0:=fun _ _ _ w=>some w) (fun _ _ _ _=>rfl) 400 A B [] (-1) (-1) (by omega) hA hB trivial (by simp;omega);refine ⟨F,?_,e,f,fun y i j=>?_⟩
 ·unfold Jz;dsimp only [jn];rw [Q4R (by omega) hA,Q4R (by omega) hB,show decide (t<1)=false from Qjv (by omega),show decide (t>7200)=false from Qjv (by omega)];simp -implicitDefEqProofs only [Qjt,Q0,QjE];unfold H6;rw [show Qr 400 t (fun l m n k=>(some k:Option LL)) 400 (A.map enc) (B.map enc) []=_ from g1,Q0]
 ·rw [g y i j];exact ⟨fun h=>h.elim (fun h=>absurd h LV) id,.inr⟩
def Q3h (t:Int) (q:Sp2):Sp2:=(q.2,q.1+t-1)
theorem QbB (c:t<=7200) (d:1<=t) {K:LL->oP R} {k0:Int->Bool->LL->oP R} (hk:∀ a b w,k0 a b w=K w) {l:List Sp2} (hl:l.length<=1000):∀ (ac:List Sp2) (i m:Nat),l.drop i=ac->ac.length<m->(∀ q∈l,-1<q.1/\q.1<=t)->ZQ n t (l.map Yt) ((l.length:Nat):Int) k0 m (i:Int) (((l.take i).map (Q3h t)).map Yt)=K ((l.map (Q3h t)).map Yt)
 |[],i,m+1,hd,_,_=>by
  have:=Uf hd;rw [ZQ,show decide ((i:Int)<((l.length:Nat):Int))=false by simpa using this,Qjt,hk,List.take_of_length_le this]
 |(a,b)::ac,i,m+1,hd,hm,hr=>by
  obtain ⟨e,aj,hi⟩:=Zg hd;have ha:=hr (a,b) (QjD e);rw [ZQ,Q9 hi,cond_true,QK e];simp -implicitDefEqProofs only [Q0,QaT,Qaq,Q2,Qu (show i<=1000 by omega),Q6 (x:=a+t) (by omega) (by omega),Q6 (x:=a+t-1) (by omega) (by omega),XS (show ((((l.take i).map (Q3h t)).map Yt).length+[[D.int .i64 b,D.int .i64 (a+t-1)]].length)*16<=100000 by simp;omega)];have:=QbB c d hk hl ac (i+1) m aj (by simpa using hm) hr;rw [YJ e,QjF,QjF] at this;exact this
theorem Qbs (c:t<=7200) (d:1<=t) {K:LL->oP R} {k0:Int->Bool->LL->oP R} (hk:∀ a b w,k0 a b w=K w) {l:List Sp2} (hl:l.length<=1000):∀ (ac:List Sp2) (i m:Nat),l.drop i=ac->ac.length<m->(∀ q∈l,-1<q.1/\q.1<=t)->Z1 n t ((l.length:Nat):Int) (l.map Yt) k0 m (i:Int) (((l.take i).map (Q3h t)).map Yt)=K ((l.map (Q3h t)).map Yt)
 |[],i,m+1,hd,_,_=>by
  have:=Uf hd;rw [Z1,show decide ((i:Int)<((l.length:Nat):Int))=false by simpa using this,Qjt,hk,List.take_of_length_le this]
 |(a,b)::ac,i,m+1,hd,hm,hr=>by
  obtain ⟨e,aj,hi⟩:=Zg hd;have ha:=hr (a,b) (QjD e);have f:(l.map Yt)[i]? = some (Yt (a,b)):=by rw [QjL,e];rfl
  rw [Z1,Q9 hi,cond_true,Qjw,ZI (by omega) (by omega),Int.toNat_natCast,f];simp -implicitDefEqProofs only [Q0,QaT,Qaq,Q2,Qu (show i<=1000 by omega),Q6 (x:=a+t) (by omega) (by omega),Q6 (x:=a+t-1) (by omega) (by omega),XS (show ((((l.take i).map (Q3h t)).map Yt).length+[[D.int .i64 b,D.int .i64 (a+t-1)]].length)*16<=100000 by simp;omega)];have:=Qbs c d hk hl ac (i+1) m aj (by simpa using hm) hr;rw [YJ e,QjF,QjF] at this;exact this
def WR (t:Int) (F G:List Sp2):Prop:=(G=F/\∀ b M c,F≠(0,b)::(M++[(c,t)]))\/∃ b M c,F=(0,b)::(M++[(c,t)])/\G=M++[(c,t+b)]
theorem QaZ {A B:List Occ} (r:2<=t) (f:t<=7200) (hA:OL (-1) A) (hB:OL (-1) B) (lA:A.length<=6) (lB:B.length<=6):∃ F G:List Sp2,VS t (-1) F/\F.length<=12/\(∀ y,0<=y->y<t->(InS y F↔FB t A B y))/\WR t F G /\
  U7 400 t (A.map enc) (B.map enc) Tu2=some (if cnt F=t then ([],(13:Int)) else ((G.map (Q3h t)).map Yt,(0:Int))):=by
 obtain ⟨F,g1,j,k,m⟩:=Qga (t:=t) (by omega) f hA hB lA lB;have hr:=j.rng;suffices h:∃ G,WR t F G/\U7 400 t (A.map enc) (B.map enc) Tu2=some (if cnt F=t then ([],(13:Int)) else ((G.map (Q3h t)).map Yt,(0:Int))) by
  obtain ⟨G,h⟩:=h;exact ⟨F,G,j,k,m,h⟩
 unfold U7;rw [g1,Q0,Q8 (by rfl)];dsimp only;rw [QfD (by omega) f (by omega) j,Q0];have ac:Z1 400 t ((F.length:Nat):Int) (F.map Yt) (fun s u o=>(some (o,(0:Int)):Option (LL × Int))) 400 0 []=some ((F.map (Q3h t)).map Yt,(0:Int)):=Qbs f (by omega) (K:=fun w=>some (w,(0:Int))) (k0:=fun _ _ w=>some (w,(0:Int))) (fun _ _ _=>rfl) (by omega) F 0 400 rfl (by omega) (fun q hq=>by have:=hr q hq;omega);by_cases aj:cnt F=t
 ·simp only [if_pos aj];rw [QU (by simpa using aj)];by_cases hw:∃ b M c,F=(0,b)::(M++[(c,t)])
  ·obtain ⟨b,M,c,e⟩:=hw;exact ⟨_,.inr ⟨b,M,c,e,rfl⟩,rfl⟩
  ·exact ⟨F,.inl ⟨rfl,fun b M c e=>hw ⟨b,M,c,e⟩⟩,rfl⟩
 simp only [QjA aj];rw [Q8 (by simpa using aj),Qjw];rcases F with _ | ⟨⟨a,b⟩,F⟩
 ·refine ⟨[],.inl ⟨rfl,fun b M c e=>(nomatch e)⟩,?_⟩;rw [show decide (((([]:List Sp2).length:Nat):Int)>1)=false from rfl];simp -implicitDefEqProofs only [gbF,Qjt];exact ac
 rcases List.eq_nil_or_concat F with rfl | ⟨M,⟨c,d⟩,rfl⟩
 ·refine ⟨[(a,b)],.inl ⟨rfl,fun b M c e=>by have:=congrArg List.length e;simp at this⟩,?_⟩;rw [show decide ((((([(a,b)]:List Sp2)).length:Nat):Int)>1)=false from rfl];simp -implicitDefEqProofs only [gbF,Qjt];exact ac
 have hM:M.length<=10:=by simp at k;omega
 have ak:((a,b)::(M++[(c,d)])).length=M.length+1+1:=by simp
 have ay:=hr (c,d) (by simp);have ao:=hr (a,b) (by simp);have e1:((a,b)::(M++[(c,d)])).map Yt=(Yt (a,b)::M.map Yt)++Yt (c,d)::[]:=by simp
 have gl:(((a,b)::(M++[(c,d)])).map Yt)[M.length+1]? = some (Yt (c,d)):=by rw [e1];exact Qfv (by simp)
 have sl:∀ v,(((a,b)::(M++[(c,d)])).map Yt).set (M.length+1) (Yt (c,v))=((a,b)::(M++[(c,v)])).map Yt:=fun v=>by rw [e1,QfJ (by simp)];simp
 rw [List.concat_eq_append] at *
 rw [ak,show decide (((M.length+1+1:Nat):Int)>1)=true from Qjx (by omega),JE (show M.length+1+1<=1000 by omega) (by omega),QjB,ZI (by omega) (by omega),ZI (by omega) (by omega)];simp -implicitDefEqProofs only [Q0,Int.toNat_natCast,gl,cond_true,show (((a,b)::(M++[(c,d)])).map Yt)[Int.toNat 0]? = some (Yt (a,b)) from rfl,QaT,Qaq,Q2,Qhv];by_cases an:a=0/\d=t
 ·obtain ⟨rfl,rfl⟩:=an;refine ⟨M++[(c,d+b)],.inr ⟨b,M,c,rfl,rfl⟩,?_⟩;rw [show ((0:Int) == 0)=true from rfl,show (d == d)=true by simp,cond_true,cond_true,Q6 (x:=d+b) (by omega) (by omega),sl];have al:=Qhl (Yt (0,b)) ((M++[(c,d+b)]).map Yt);rw [List.map_cons,al.1,Q0,al.2,Qjw];exact QbB (n:=400) f (by omega) (K:=fun w=>(some (w,(0:Int)):Option (LL × Int))) (k0:=fun _ _ w=>some (w,(0:Int))) (fun _ _ _=>rfl) (l:=M++[(c,d+b)]) (by simp;omega) (M++[(c,d+b)]) 0 400 rfl (by simp;omega) (fun q hq=>by
   rcases List.mem_append.1 hq with h | h
   ·have:=hr q (.tail _ (List.mem_append_left _ h));omega
   ·obtain rfl:=List.mem_singleton.1 h;dsimp only at *
    omega)
 ·have hz:(bif (a == (0:Int)) then (d == t) else false)=false:=by
   by_cases ha:a=0
   ·rw [ha,show ((0:Int) == 0)=true from rfl,cond_true];simp only [beq_eq_false_iff_ne];exact fun h=>an ⟨ha,h⟩
   ·rw [show (a == (0:Int))=false by simpa using ha,Qjt]
  refine ⟨_,.inl ⟨rfl,fun b' M' c' e=>an ?_⟩,?_⟩
  ·have e2:=List.cons.inj e;have p:=List.append_inj_right' e2.2 rfl;have:=(Prod.mk.inj e2.1).1;have:=(Prod.mk.inj (List.cons.inj p).1).2;exact ⟨by omega,by omega⟩
  rw [hz,Qjt];rw [ak] at ac;exact ac
end

theorem KN {α β:Type} {r:Nat->Int->β} {l:List α} {p:α->Bool} {E0 E1:β} (a:∀ m i q,l[i]? = some q->i<l.length->r (m+1) (i:Int)=bif p q then r m ((i+1:Nat):Int) else E0) (b:∀ m,r (m+1) ((l.length:Nat):Int)=E1) {fuel:Nat} (hf:l.length<fuel):r fuel 0=bif l.all p then E1 else E0:=by
 have go:∀ (ac:List α) (i m:Nat),l.drop i=ac->ac.length<m->i<=l.length->r m (i:Int)=bif ac.all p then E1 else E0:=by
  intro ac;induction ac with
  |nil=>
   intro i m hd hm hi;obtain ⟨m,rfl⟩:∃ k,m=k+1:=⟨m-1,by simp at hm;omega⟩;have:=Uf hd;rw [show i=l.length by omega,b];rfl
  |cons q ac ih=>
   intro i m hd hm hi;obtain ⟨m,rfl⟩:∃ k,m=k+1:=⟨m-1,by simp at hm;omega⟩;obtain ⟨e,ak,aj⟩:=Zg hd;rw [a m i q e aj,List.all_cons,ih (i+1) m ak (by simpa using hm) aj];cases p q <;> rfl
 exact go l 0 fuel rfl hf (Nat.zero_le _)
theorem Ft {α β S:Type} {r:Nat->Int->S->β} {l:List α} {f:S->α->S} {E:S->β} (a:∀ m i q s,l[i]? = some q->i<l.length->r (m+1) (i:Int) s=r m ((i+1:Nat):Int) (f s q)) (b:∀ m s,r (m+1) ((l.length:Nat):Int) s=E s) {fuel:Nat} (hf:l.length<fuel) (s:S):r fuel 0 s=E (l.foldl f s):=by
 have go:∀ (ac:List α) (i m:Nat) (s:S),l.drop i=ac->ac.length<m->i<=l.length->r m (i:Int) s=E (ac.foldl f s):=by
  intro ac;induction ac with
  |nil=>
   intro i m s hd hm hi;obtain ⟨m,rfl⟩:∃ k,m=k+1:=⟨m-1,by simp at hm;omega⟩;have:=Uf hd;rw [show i=l.length by omega,b];rfl
  |cons q ac ih=>
   intro i m s hd hm hi;obtain ⟨m,rfl⟩:∃ k,m=k+1:=⟨m-1,by simp at hm;omega⟩;obtain ⟨e,ak,aj⟩:=Zg hd;rw [a m i q s e aj,List.foldl_cons,ih (i+1) m _ ak (by simpa using hm) aj]
 exact go l 0 fuel s rfl hf (Nat.zero_le _)
theorem FS {α:Type} {p:α->Bool}:∀ {l:List α} {c:Bool},l.foldl (fun c q=>c||p q) c=(c||l.any p)
 |[],c=>(Bool.or_false c).symm
 |q::l,c=>by rw [List.foldl_cons,FS,List.any_cons,Bool.or_assoc]
def Lr (t:Int) (q:Occ):Bool:=!decide (q.2.2-q.2.1>t)
theorem Qhq {l:Int} {O:List Occ} (hO:OL l O) {q:Occ} (hq:q∈O):wJ (q.2.2-q.2.1)=q.2.2-q.2.1:=by
 have:=hO.mem q hq;exact Q6 (by omega) (by omega)
theorem Qf6 {t:Int} {O:List Occ} (a:1<=t) (b:t<=7200) (hO:OL (-1) O) (hl:O.length<=300):Ti 400 t (O.map enc) (some:Bool->Option Bool)=some (O.all (Lr t)):=by
 unfold Ti;rw [show decide (t<1)=false from Qjv (by omega),show decide (t>7200)=false from Qjv (by omega),Q4R hl hO];simp -implicitDefEqProofs only [Qjt,Q0,QjE,QjG,Qjw];refine (KN (r:=fun m i=>UC 400 t (O.map enc) ((O.length:Nat):Int) (some false) (fun _ _=>some true) m i) (l:=O) (p:=Lr t) (E0:=some false) (E1:=some true) (fun m i q e hi=>?_) (fun m=>?_) (by omega)).trans (by cases O.all (Lr t) <;> rfl)
 ·rw [UC,Q9 hi,cond_true,QK e];simp -implicitDefEqProofs only [Q0,Np,MX,LG,Q2,Qu (show i<=1000 by omega),Qhq hO (QjD e)];unfold Lr;cases decide (q.2.2-q.2.1>t) <;> rfl
 ·rw [UC,Ql,Qjt]
def tie (la:Int) (x y:Occ):Bool:=bif x.1 == y.1 then decide (la+y.2.1<=x.2.2) else false
def Q2N (per la mo:Int) (x y:Occ):Bool:=decide ((if x.2.2<mo+y.2.2 then mo+y.2.2 else x.2.2)-(if la+y.2.1<x.2.1 then la+y.2.1 else x.2.1)>per)
def Q8W (per la mo:Int) (A B:List Occ):Bool:=A.any fun x=>B.any fun y=>bif tie la x y then Q2N per la mo x y else false
def Q4u (la:Int) (A B:List Occ) (r:Int):Bool:=A.any fun x=>B.any fun y=>bif tie la x y then x.1 == r else false
namespace Cx
variable {R:Type} {n:Nat} {X:Cx}
theorem Qgf {per la mo:Int} {O:List Occ} (hO:OL (-1) O) (hl:O.length<=300) {x:Occ} (hx : -1000<=x.2.1/\x.2.1<x.2.2/\x.2.2<=20000) (d:0<=la) (f:la<=20000) (h2:0<=mo) (g:mo<=20000) {k0:Int->Bool->Bool->oP R} {Kc:Bool->oP R} (hk:∀ a b c,k0 a b c=Kc c) (c:Bool) :
  QP n (O.map enc) ((O.length:Nat):Int) la (Q4 x.1) (Q4 x.2.1) (Q4 x.2.2) per la mo k0 400 0 c=Kc (c||O.any fun y=>bif tie la x y then Q2N per la mo x y else false):=by
 rw [<- FS];refine Ft (r:=fun m i c=>QP n (O.map enc) ((O.length:Nat):Int) la (Q4 x.1) (Q4 x.2.1) (Q4 x.2.2) per la mo k0 m i c) (E:=Kc) (fun m i q c e hi=>?_) (fun m c=>?_) (by omega) c
 ·have:=hO.mem q (QjD e);rw [QP,Q9 hi,cond_true,QK e];simp -implicitDefEqProofs only [Q0,Np,MX,LG,Q2,Qu (show i<=1000 by omega),Q6 (x:=la+q.2.1) (by omega) (by omega)];unfold Yp;simp -implicitDefEqProofs only [Q0,Q6 (x:=la+q.2.1) (by omega) (by omega),Q6 (x:=mo+q.2.2) (by omega) (by omega)];rw [Q6 (x:=(if x.2.2<mo+q.2.2 then mo+q.2.2 else x.2.2)-(if la+q.2.1<x.2.1 then la+q.2.1 else x.2.1)) (by split <;> split <;> omega) (by split <;> split <;> omega)];show (bif tie la x q then QP n (O.map enc) ((O.length:Nat):Int) la (Q4 x.1) (Q4 x.2.1) (Q4 x.2.2) per la mo k0 m ((i+1:Nat):Int) (bif c then true else Q2N per la mo x q) else _)=_;cases tie la x q <;> cases c <;> rfl
 ·rw [QP,Ql,Qjt,hk]
theorem map1 {la:Int} {O:List Occ} (hO:OL (-1) O) (hl:O.length<=300) {x:Occ} (d:0<=la) (f:la<=20000) {k0:Int->Bool->(Int->Bool)->oP R} {Kc:(Int->Bool)->oP R} (hk:∀ a b c,k0 a b c=Kc c) (c:Int->Bool) :
  X5 n (O.map enc) ((O.length:Nat):Int) la (Q4 x.1) (Q4 x.2.1) (Q4 x.2.2) k0 400 0 c=Kc (O.foldl (fun c y=>bif tie la x y then Q7a c x.1 true else c) c):=by
 refine Ft (r:=fun m i c=>X5 n (O.map enc) ((O.length:Nat):Int) la (Q4 x.1) (Q4 x.2.1) (Q4 x.2.2) k0 m i c) (E:=Kc) (fun m i q c e hi=>?_) (fun m c=>?_) (by omega) c
 ·have:=hO.mem q (QjD e);rw [X5,Q9 hi,cond_true,QK e];simp -implicitDefEqProofs only [Q0,Np,MX,LG,Q2,Qu (show i<=1000 by omega),Q6 (x:=la+q.2.1) (by omega) (by omega)];unfold XF;simp -implicitDefEqProofs only [Q0];show (bif tie la x q then _ else _)=_;cases tie la x q <;> rfl
 ·rw [X5,Ql,Qjt,hk]
theorem QeA {q:Int->Bool} {x r:Int}:Q7a q x true r=(q r||(x == r)):=by
 unfold Q7a;by_cases hx:r=x
 ·subst hx;simp
 ·rw [show decide (r=x)=false from Qjv hx,show (x == r)=false by simpa using fun h=>hx h.symm,Qjt,Bool.or_false]
theorem QeK {la:Int} {x:Occ} {r:Int}:∀ {O:List Occ} {c:Int->Bool},O.foldl (fun c y=>bif tie la x y then Q7a c x.1 true else c) c r=(c r||O.any fun y=>bif tie la x y then x.1 == r else false)
 |[],c=>(Bool.or_false _).symm
 |y::O,c=>by
  rw [List.foldl_cons,QeK,List.any_cons];cases tie la x y
  ·rfl
  ·rw [cond_true,cond_true,QeA,Bool.or_assoc]
def occN (X:Cx) (a:Nat):List Occ:=(X.occs X.L).getD a []
def N (X:Cx):Nat:=base X.nr X.L
variable (h:X.OK)
include h
theorem JF {a:Nat} (ha:a<X.N):Q1 (Kl (X.occs X.L)) (a:Int)=some [D.sl 3 ((X.occN a).map enc)]/\OL (-1) (X.occN a)/\(X.occN a).length<=6:=by
 obtain ⟨i,k,b,h2,rfl⟩:=Q6H ha;have e:X.occN (base X.nr i+k)=X.occ i k:=by
  unfold occN;rw [Qjy,show (X.occs X.L)[base X.nr i+k]? = some (X.occ i k) from Q1G h2 b];rfl
 rw [e];exact ⟨QeN b h2,QeM h b h2⟩
theorem QcW:X.jns.length<=30:=by
 have:=Qdl h (i:=X.L) (QjC _);have:=h.tl;unfold jns;rw [QjM,Qjw];omega
structure JOK (X:Cx) (J:List Tup):Prop where
 at':∀ t∈J,t.1<X.N/\t.2.1<X.N/\0<=t.2.2.1/\t.2.2.1<=20000/\0<=t.2.2.2/\t.2.2.2<=20000
 len:J.length<=30
theorem QgT {J:List Tup} (hJ:X.JOK J) {per:Int} {t:Tup} (ht:t∈J) (K:Bool->oP R):Wo 400 per (Kl (X.occs X.L)) (t.1:Int) (t.2.1:Int) t.2.2.1 t.2.2.1 t.2.2.2 false K=K (Q8W per t.2.2.1 t.2.2.2 (X.occN t.1) (X.occN t.2.1)):=by
 have hj:=hJ.at' t ht;have oa:=JF h hj.1;have ob:=JF h hj.2.1;unfold Wo Q8W;rw [oa.1];simp -implicitDefEqProofs only [Q0,Qjs,QA,Qjw];rw [<- Bool.false_or (List.any _ _),<- FS];refine Ft (r:=fun m i c=>Xu 400 ((X.occN t.1).map enc) (((X.occN t.1).length:Nat):Int) (t.2.1:Int) t.2.2.1 per (Kl (X.occs X.L)) t.2.2.1 t.2.2.2 (fun b d a=>K a) m i c) (E:=K) (fun m i q c e hi=>?_) (fun m c=>?_) (by omega) false
 ·have hq:=oa.2.1.mem q (QjD e);rw [Xu,Q9 hi,cond_true,QK e,ob.1];simp -implicitDefEqProofs only [Q0,Np,MX,LG,Qjs,QA,Qjw,Qu (show i<=1000 by omega)];exact Qgf (per:=per) ob.2.1 (by omega) ⟨hq.2.1,hq.2.2.1,hq.2.2.2.1⟩ hj.2.2.1 hj.2.2.2.1 hj.2.2.2.2.1 hj.2.2.2.2.2 (Kc:=fun c=>Xu 400 ((X.occN t.1).map enc) (((X.occN t.1).length:Nat):Int) (t.2.1:Int) t.2.2.1 per (Kl (X.occs X.L)) t.2.2.1 t.2.2.2 (fun b d a=>K a) m ((i+1:Nat):Int) c) (fun _ _ _=>rfl) c
 ·rw [Xu,Ql,Qjt]
theorem Qi2 {J:List Tup} (hJ:X.JOK J) {t:Tup} (ht:t∈J) (q:Int->Bool):∃ q',(∀ K:(Int->Bool)->oP R,Wq 400 (Kl (X.occs X.L)) (t.1:Int) (t.2.1:Int) t.2.2.1 q K=K q')/\∀ r,q' r=(q r||Q4u t.2.2.1 (X.occN t.1) (X.occN t.2.1) r):=by
 have hj:=hJ.at' t ht;have oa:=JF h hj.1;have ob:=JF h hj.2.1;refine ⟨(X.occN t.1).foldl (fun q x=>(X.occN t.2.1).foldl (fun c y=>bif tie t.2.2.1 x y then Q7a c x.1 true else c) q) q,fun K=>?_,fun r=>?_⟩
 ·unfold Wq;rw [oa.1];simp -implicitDefEqProofs only [Q0,Qjs,QA,Qjw];refine Ft (r:=fun m i c=>Xw 400 ((X.occN t.1).map enc) (((X.occN t.1).length:Nat):Int) (t.2.1:Int) t.2.2.1 (Kl (X.occs X.L)) (fun b d a=>K a) m i c) (E:=K) (fun m i q c e hi=>?_) (fun m c=>?_) (by omega) q
  ·rw [Xw,Q9 hi,cond_true,QK e,ob.1];simp -implicitDefEqProofs only [Q0,Np,MX,LG,Qjs,QA,Qjw,Qu (show i<=1000 by omega)];exact map1 ob.2.1 (by omega) hj.2.2.1 hj.2.2.2.1 (Kc:=fun c=>Xw 400 ((X.occN t.1).map enc) (((X.occN t.1).length:Nat):Int) (t.2.1:Int) t.2.2.1 (Kl (X.occs X.L)) (fun b d a=>K a) m ((i+1:Nat):Int) c) (fun _ _ _=>rfl) c
  ·rw [Xw,Ql,Qjt]
 ·unfold Q4u;generalize X.occN t.1=A;induction A generalizing q with
  |nil=>exact (Bool.or_false _).symm
  |cons x A ih=>rw [List.foldl_cons,ih,QeK,List.any_cons,Bool.or_assoc]
def jab (a b:Nat) (t:Tup):Bool:=bif (bif (t.1:Int) == (a:Int) then (t.2.1:Int) == (b:Int) else false) then true else bif (t.1:Int) == (b:Int) then (t.2.1:Int) == (a:Int) else false
def TRb (X:Cx) (J:List Tup) (a b:Nat) (r:Int):Bool:=J.any fun t=>bif jab a b t then Q4u t.2.2.1 (X.occN t.1) (X.occN t.2.1) r else false
theorem QgX {J:List Tup} (hJ:X.JOK J) {a b:Nat}:∃ q,(Yh 400 (Kl (X.occs X.L)) (J.map tuR) (a:Int) (b:Int) some:Option (Int->Bool))=some q/\∀ r,q r=X.TRb J a b r:=by
 have hl:=hJ.len;unfold Yh;rw [Qjw];have go:∀ (ac:List Tup) (i m:Nat) (q:Int->Bool),J.drop i=ac->ac.length<m->∃ q',(Qy 400 (a:Int) (b:Int) (J.map tuR) ((J.length:Nat):Int) (Kl (X.occs X.L)) (fun n o j=>some j) m (i:Int) q:Option (Int->Bool))=some q'/\∀ r,q' r=(q r||X.TRb ac a b r):=by
  intro ac;induction ac with
  |nil=>
   intro i m q hd hm;obtain ⟨m,rfl⟩:∃ k,m=k+1:=⟨m-1,by simp at hm;omega⟩;have:=Uf hd;exact ⟨q,by rw [Qy,show decide ((i:Int)<((J.length:Nat):Int))=false by simpa using this,Qjt],fun r=>(Bool.or_false _).symm⟩
  |cons t ac ih=>
   intro i m q hd hm;obtain ⟨m,rfl⟩:∃ k,m=k+1:=⟨m-1,by simp at hm;omega⟩;obtain ⟨e,ak,hi⟩:=Zg hd;obtain ⟨l,c,h2⟩:=Qi2 (R:=Int->Bool) h hJ (QjD e) q;rw [Qy,Q9 hi,cond_true,QK e];simp -implicitDefEqProofs only [Q0,tuR,Qjs,Qju,Q2,Qu (show i<=1000 by omega),c];show ∃ q',(bif jab a b t then _ else _)=some q'/\_;cases aj:jab a b t with
   |false=>
    obtain ⟨d,f,g⟩:=ih (i+1) m q ak (by simpa using hm);refine ⟨d,f,fun r=>?_⟩;rw [g,TRb,TRb,List.any_cons,aj,Qjt,Bool.false_or]
   |true=>
    obtain ⟨d,f,g⟩:=ih (i+1) m l ak (by simpa using hm);refine ⟨d,f,fun r=>?_⟩;rw [g,h2,TRb,TRb,List.any_cons,aj,cond_true,Bool.or_assoc]
 obtain ⟨q,c,h2⟩:=go J 0 400 (fun _=>false) rfl (by omega);exact ⟨q,c,fun r=>by rw [h2,Bool.false_or]⟩
theorem Q9M:∀ o∈X.occs X.L,OL (-1) o/\o.length<=6:=by
 intro o ho;obtain ⟨a,ha⟩:=List.getElem?_of_mem ho;have ac:=(List.getElem?_eq_some_iff.1 ha).1;rw [show (X.occs X.L).length=X.N from ZT] at ac;obtain ⟨b,h2⟩:=(JF h ac).2;unfold occN at b h2;rw [Qjy,ha] at b h2;exact ⟨b,h2⟩
def aloneJ (X:Cx) (per:Int) (J:List Tup):Bool:=bif (X.occs X.L).all (fun o=>o.all (Lr per)) then J.all fun t=>!Q8W per t.2.2.1 t.2.2.2 (X.occN t.1) (X.occN t.2.1) else false
theorem Qe5 {per:Int} (p0:1<=per) (p1:per<=300) {J:List Tup} (hJ:X.JOK J) (K:Bool->oP R):Wa 400 per (Kl (X.occs X.L)) (J.map tuR) K=K (X.aloneJ per J):=by
 have hN:(X.occs X.L).length<=6:=by rw [show (X.occs X.L).length=base X.nr X.L from ZT];exact base_le h
 have hl:=hJ.len;have hO:=Q9M h;unfold Wa;rw [Jv,Qjw];refine (KN (r:=fun m i=>XO 400 (Kl (X.occs X.L)) (((X.occs X.L).length:Nat):Int) per (K false) (fun c d=>Xk 400 (J.map tuR) ((J.length:Nat):Int) per (Kl (X.occs X.L)) (K false) (fun a b=>K true) 400 0) m i) (l:=X.occs X.L) (p:=fun o=>o.all (Lr per)) (E0:=K false) (E1:=bif J.all (fun t=>!Q8W per t.2.2.1 t.2.2.2 (X.occN t.1) (X.occN t.2.1)) then K true else K false) (fun m i o e hi=>?_) (fun m=>?_) (by omega)).trans ?_
 ·have ho:=hO o (QjD e);have ac:Q1 (Kl (X.occs X.L)) (i:Int)=some [D.sl 3 (o.map enc)]:=QK e;rw [XO,Q9 hi,cond_true,ac];simp -implicitDefEqProofs only [Q0,Qjs,QA,Qf6 p0 (show per<=7200 by omega) ho.1 (show o.length<=300 by omega),Qu (show i<=1000 by omega)];cases o.all (Lr per) <;> rfl
 ·rw [XO,Ql,Qjt];refine KN (r:=fun m i=>Xk 400 (J.map tuR) ((J.length:Nat):Int) per (Kl (X.occs X.L)) (K false) (fun a b=>K true) m i) (fun m i t e hi=>?_) (fun m=>?_) (by omega)
  ·rw [Xk,Q9 hi,cond_true,QK e];simp -implicitDefEqProofs only [Q0,tuR,Qjs,Qju,Q2,Qu (show i<=1000 by omega),QgT h hJ (QjD e)];cases Q8W per t.2.2.1 t.2.2.2 (X.occN t.1) (X.occN t.2.1) <;> rfl
  ·rw [Xk,Ql,Qjt]
 ·unfold aloneJ;cases (X.occs X.L).all (fun o=>o.all (Lr per)) <;> cases J.all (fun t=>!Q8W per t.2.2.1 t.2.2.2 (X.occN t.1) (X.occN t.2.1)) <;> rfl
end Cx

namespace Cx
def aR (X:Cx) (i k:Nat):List D:=[Q4 1,Q4 ((2*(base X.nr i+k):Nat):Int),Q4 ((2*(base X.nr i+k)+1:Nat):Int),Q4 (X.run i k),Q4 (X.run i k+X.ex i k),Q4 (X.w i)]
def aD (X:Cx) (i k:Nat):List D:=[Q4 2,Q4 ((2*(base X.nr i+k)+1:Nat):Int),Q4 ((2*(base X.nr i+k+1):Nat):Int),Q4 (X.mn i k),Q4 (X.mx i k),Q4 (X.w i)]
def pl (X:Cx) (i:Nat):Nat->LL
 |0=>[]
 |k+1=>pl X i k++[X.aR i k]++(if k<X.nr i-1 then [X.aD i k] else [])
def pls (X:Cx):Nat->LL
 |0=>[]
 |i+1=>pls X i++X.pl i (X.nr i)
def chE (X:Cx) (row:List D):List D:=match row with
 |[.int _ f,.int _ fr,.int _ t,.int _ tr,mn,mx,w]=>[Q4 3,Q4 ((2*(base X.nr f.toNat+fr.toNat)+1:Nat):Int),Q4 ((2*(base X.nr t.toNat+tr.toNat):Nat):Int),mn,mx,w]
 |_=>[]
def tuE (X:Cx) (t:Tup):List D:=[Q4 4,Q4 ((2*(base X.nr t.1+(X.nr t.1-1))+1:Nat):Int),Q4 ((2*(base X.nr t.2.1+0):Nat):Int),Q4 t.2.2.1,Q4 t.2.2.2,Q4 1]
def syE (X:Cx) (row:List D):List D:=match row with
 |[_,_,_,_,o]=>[Q4 5,Q4 ((2*(base X.nr 0+0):Nat):Int),Q4 ((2*(base X.nr 1+0):Nat):Int),o,o,Q4 0]
 |_=>[]
def planned (X:Cx) (Ch Sy:LL):LL:=X.pls X.L++Ch.map X.chE++X.T.map X.tuE++Sy.map X.syE
variable {R:Type} {n:Nat} {X:Cx}
theorem Q76 {i:Nat}:∀ {k:Nat},(X.pl i k).length<=2*k
 |0=>QjC _
 |k+1=>by
  have:=Q76 (i:=i) (k:=k);rw [pl,QjM,QjM];split <;> simp <;> omega
theorem AB:∀ {i:Nat},(X.pls i).length<=2*base X.nr i
 |0=>QjC _
 |i+1=>by
  have:=AB (i:=i);have:=Q76 (X:=X) (i:=i) (k:=X.nr i);rw [pls,QjM,base];omega
structure LsOK (X:Cx) (per:Int) (Ch Sy:LL):Prop where
 ch:∀ row∈Ch,∃ (f fr t tr:Nat) (mn mx w:Int),row=[Q4 f,Q4 fr,Q4 t,Q4 tr,Q4 mn,Q4 mx,Q4 w]/\f<X.Ls.length/\fr<X.nr f/\t<X.Ls.length/\tr<X.nr t/\(0<=mn/\mn<20/\mn<=mx/\mx<mn+per)/\0<=w/\w<3
 chl:Ch.length<=2
 sy:∀ row∈Sy,∃ o:Int,row=[Q4 0,Q4 0,Q4 1,Q4 0,Q4 o]/\0<=o/\o<per/\2<=X.Ls.length
 syl:Sy.length<=1
variable (h:X.OK) {per:Int} {Ch Sy De:LL} (hl:X.LsOK per Ch Sy)
theorem QdH {A:LL} (hA:A.length<=1000) {a1 a2 a b c d:Int} (K:LL->oP R):Xn n A a1 a2 a b c d K=K (A++[[Q4 a1,Q4 a2,Q4 a,Q4 b,Q4 c,Q4 d]]):=by
 unfold Xn;rw [XS (by simp;omega),Q0]
include h
theorem Qgn {i:Nat} (hi:i<X.Ls.length) {k0:Int->Bool->LL->oP R}:Qv 400 (i:Int) (Kr X.Ls i) ((X.nr i:Nat):Int) (Q4 (X.w i)) (D.sl 4 (Kr X.Ls i)) (X.fst X.L) (encI (X.runs X.L)) k0 400 0 (X.pls i)=k0 ((X.nr i:Nat):Int) false (X.pls i++X.pl i (X.nr i)):=by
 have hn:=(Gg h hi).2.1;have hb:=Ya h (i:=i) (by omega);have hp:=AB (X:=X) (i:=i);have hw:wJ (((List.length (Kr X.Ls i):Nat):Int)-1)=((X.nr i-1:Nat):Int):=JE (k:=X.nr i) (by omega) (by omega);refine Qx (r:=fun m k=>Qv 400 (i:Int) (Kr X.Ls i) ((X.nr i:Nat):Int) (Q4 (X.w i)) (D.sl 4 (Kr X.Ls i)) (X.fst X.L) (encI (X.runs X.L)) k0 m k (X.pls i++X.pl i k.toNat)) (N:=X.nr i) (fun m k hk=>?_) (fun m=>?_) (X.nr i) 400 0 (by omega) (by omega) |> Eq.trans (by simp [pl])
 ·simp only [Int.toNat_natCast];have r:=rd h hi hk;have b:=r.ex0;have e1:=r.ex1;have hr:=Rk h hi hk;have ac:Q1 (Kr X.Ls i) (k:Int)=some [Q4 (rF X.Ls i k 0),Q4 (X.ex i k),Q4 (X.mn i k),Q4 (X.mx i k)]:=by rw [Qa,r.row]
  have ak:=Q76 (X:=X) (i:=i) (k:=k);have aj:=Q6e (X:=X) hi hk;rw [Qv,Q9 hk,cond_true,ac];simp -implicitDefEqProofs only [Q0,Qjs,Qju,Q2,QA,hw,Q0T (n:=400) h hi (show k<=10 by omega),aj,Qu (show k<=1000 by omega),QbT (n:=400) (show base X.nr i+k<=1000 by omega),Qgk (n:=400) (show base X.nr i+k<=1000 by omega),Qu (show base X.nr i+k<=1000 by omega),QbT (n:=400) (show base X.nr i+k+1<=1000 by omega),Q6 (x:=X.run i k+X.ex i k) (by omega) (by omega),QdH (n:=400) (A:=X.pls i++X.pl i k) (by simp;omega),QdH (n:=400) (A:=X.pls i++X.pl i k++[[Q4 1,Q4 ((2*(base X.nr i+k):Nat):Int),Q4 ((2*(base X.nr i+k)+1:Nat):Int),Q4 (X.run i k),Q4 (X.run i k+X.ex i k),Q4 (X.w i)]]) (by simp;omega)];by_cases a:k<X.nr i-1
  ·rw [Q9 a,cond_true,pl,if_pos a,<- QjK,<- QjK];rfl
  ·rw [show decide ((k:Int)<((X.nr i-1:Nat):Int))=false from Qjv (by omega),Qjt,pl,QjA a,List.append_nil,<- QjK];rfl
 ·simp only [Int.toNat_natCast];rw [Qv,Ql,Qjt]
include hl
theorem Qaw (K:LL->oP R):YF 400 X.Ls Ch (X.T.map tuR) Sy (X.fst X.L) (encI (X.runs X.L)) [] K=K (X.planned Ch Sy):=by
 have l1:=h.l1;have tl:=h.tl;have hp:=AB (X:=X) (i:=X.L);have hb:=base_le h;have chl:=hl.chl;have syl:=hl.syl;unfold YF;have s2:∀ k0:Int->Bool->LL->oP R,QL 400 X.Ls ((X.Ls.length:Nat):Int) (X.fst X.L) (encI (X.runs X.L)) k0 400 0 []=k0 ((X.Ls.length:Nat):Int) false (X.pls X.L):=by
  intro k0;refine Qx (r:=fun m i=>QL 400 X.Ls ((X.Ls.length:Nat):Int) (X.fst X.L) (encI (X.runs X.L)) k0 m i (X.pls i.toNat)) (N:=X.Ls.length) (fun m i hi=>?_) (fun m=>?_) X.Ls.length 400 0 (by omega) (by omega)
  ·simp only [Int.toNat_natCast];rw [QL,Q9 hi,cond_true,Qa,(Gg h hi).1];simp -implicitDefEqProofs only [Q0,Qjs,Qju,QA,Qu (show i<=1000 by omega)];exact Qgn h hi
  ·simp only [Int.toNat_natCast];rw [QL,Ql,Qjt];rfl
 have k:∀ k0:Int->Bool->LL->oP R,QN 400 Ch ((Ch.length:Nat):Int) (X.fst X.L) k0 400 0 (X.pls X.L)=k0 ((Ch.length:Nat):Int) false (X.pls X.L++Ch.map X.chE):=by
  intro k0;refine Qx (r:=fun m j=>QN 400 Ch ((Ch.length:Nat):Int) (X.fst X.L) k0 m j (X.pls X.L++(Ch.take j.toNat).map X.chE)) (N:=Ch.length) (fun m j hj=>?_) (fun m=>?_) Ch.length 400 0 (by omega) (by omega) |> Eq.trans (by simp)
  ·simp only [Int.toNat_natCast];obtain ⟨row,e⟩:∃ q,Ch[j]? = some q:=⟨Ch[j],Qjz hj⟩;obtain ⟨f,fr,t,tr,mn,mx,w,rfl,g1,l,c,v,x,y⟩:=hl.ch row (QjD e);have nf:=(Gg h g1).2.1;have nt:=(Gg h c).2.1;have bf:=Ya h (i:=f) (by omega);have bt:=Ya h (i:=t) (by omega);rw [QN,Q9 hj,cond_true,Qa,e,YJ e,QjF,<- QjK];simp -implicitDefEqProofs only [Q0,Qjs,Qju,Q2,Q0T (n:=400) h g1 (show fr<=10 by omega),Q0T (n:=400) h c (show tr<=10 by omega),Qu (show j<=1000 by omega),Qgk (n:=400) (show base X.nr f+fr<=1000 by omega),QbT (n:=400) (show base X.nr t+tr<=1000 by omega),QdH (n:=400) (A:=X.pls X.L++(Ch.take j).map X.chE) (by simp;omega)];rfl
  ·simp only [Int.toNat_natCast];rw [QN,Ql,Qjt,QjP]
 have p:∀ k0:Int->Bool->LL->oP R,QM 400 (X.T.map tuR) ((X.T.length:Nat):Int) (X.fst X.L) X.Ls k0 400 0 (X.pls X.L++Ch.map X.chE)=k0 ((X.T.length:Nat):Int) false (X.pls X.L++Ch.map X.chE++X.T.map X.tuE):=by
  intro k0;refine Qx (r:=fun m j=>QM 400 (X.T.map tuR) ((X.T.length:Nat):Int) (X.fst X.L) X.Ls k0 m j (X.pls X.L++Ch.map X.chE++(X.T.take j.toNat).map X.tuE)) (N:=X.T.length) (fun m j hj=>?_) (fun m=>?_) X.T.length 400 0 (by omega) (by omega) |> Eq.trans (by simp)
  ·simp only [Int.toNat_natCast];obtain ⟨⟨a,b,lo,hi⟩,e⟩:∃ q,X.T[j]? = some q:=⟨X.T[j],Qjz hj⟩;have ht:=h.tr _ (QjD e);have g1:a<X.Ls.length:=ht.1;have c:b<X.Ls.length:=ht.2.1;have nf:=(Gg h g1).2.1;have bf:=Ya h (i:=a) (by omega);have bt:=Ya h (i:=b) (by omega);have ac:Q1 (X.T.map tuR) (j:Int)=some [Q4 a,Q4 b,Q4 lo,Q4 hi]:=QK e;have s:X.pls X.L++Ch.map X.chE++(X.T.take (j+1)).map X.tuE=X.pls X.L++Ch.map X.chE++(X.T.take j).map X.tuE++[X.tuE (a,b,lo,hi)]:=by rw [YJ e,QjF,<- QjK];rfl
   have d:=Q0T (R:=Int) (n:=400) h c (Nat.zero_le 10) some;rw [show ((0:Nat):Int)=0 from rfl] at d;rw [QM,Q9 hj,cond_true,ac,s];simp -implicitDefEqProofs only [Q0,Qjs,Qju,Q2,Qek (n:=400) h g1,d,Qu (show j<=1000 by omega),Qgk (n:=400) (show base X.nr a+(X.nr a-1)<=1000 by omega),QbT (n:=400) (show base X.nr b+0<=1000 by omega),QdH (n:=400) (A:=X.pls X.L++Ch.map X.chE++(X.T.take j).map X.tuE) (by simp;omega)];rfl
  ·simp only [Int.toNat_natCast];rw [QM,Ql,Qjt,QjP]
 have u:∀ k0:Int->Bool->LL->oP R,QO 400 Sy ((Sy.length:Nat):Int) (X.fst X.L) k0 400 0 (X.pls X.L++Ch.map X.chE++X.T.map X.tuE)=k0 ((Sy.length:Nat):Int) false (X.planned Ch Sy):=by
  intro k0;refine Qx (r:=fun m j=>QO 400 Sy ((Sy.length:Nat):Int) (X.fst X.L) k0 m j (X.pls X.L++Ch.map X.chE++X.T.map X.tuE++(Sy.take j.toNat).map X.syE)) (N:=Sy.length) (fun m j hj=>?_) (fun m=>?_) Sy.length 400 0 (by omega) (by omega) |> Eq.trans (by simp)
  ·simp only [Int.toNat_natCast];obtain ⟨row,e⟩:∃ q,Sy[j]? = some q:=⟨Sy[j],Qjz hj⟩;obtain ⟨o,rfl,g1,l,c⟩:=hl.sy row (QjD e);have bt:=Ya h (i:=1) (by omega);have d:=Q0T (R:=Int) (n:=400) h (show 0<X.Ls.length by omega) (Nat.zero_le 10) some;have g:=Q0T (R:=Int) (n:=400) h (show 1<X.Ls.length by omega) (Nat.zero_le 10) some;simp only [show ((0:Nat):Int)=0 from rfl,show ((1:Nat):Int)=1 from rfl] at d g;rw [QO,Q9 hj,cond_true,Qa,e,YJ e,QjF,<- QjK];simp -implicitDefEqProofs only [Q0,Qjs,Qju,Q2,d,g,Qu (show j<=1000 by omega),QbT (n:=400) (show base X.nr 0+0<=1000 by simp [base]),QbT (n:=400) (show base X.nr 1+0<=1000 by omega),QdH (n:=400) (A:=X.pls X.L++Ch.map X.chE++X.T.map X.tuE++(Sy.take j).map X.syE) (by simp;omega)];rfl
  ·simp only [Int.toNat_natCast];rw [QO,Ql,Qjt,QjP];rfl
 rw [s2,k,Qjw,p,u]
end Cx

end Go.Vx
namespace Go.Vx
variable {R:Type}
def Zj (n:Nat) (d:LL) (k0:oP R) (k1:Int->Bool->oP R):Nat->Int->oP R
 | 0,_=>none
 | m+1,h2=>bif (decide (h2<(d.length:Int))) then gb true (Q1 d h2) [] fun g=>gb true (g[0]?) oF fun h=>gb true (pIw h) 0 fun a=>gb ((!(decide (a<0)))&&(decide (h2>0))) (Q1 d h2) [] fun i=>gb ((!(decide (a<0)))&&(decide (h2>0))) (i[0]?) oF fun j=>gb ((!(decide (a<0)))&&(decide (h2>0))) (pIw j) 0 fun b=>gb ((!(decide (a<0)))&&(decide (h2>0))) (Q1 d (wJ (h2-1))) [] fun k=>gb ((!(decide (a<0)))&&(decide (h2>0))) (k[0]?) oF fun l=>gb ((!(decide (a<0)))&&(decide (h2>0))) (pIw l) 0 fun c=>gb (!(bif decide (a<0) then true else (bif decide (h2>0) then (decide (b<=c)) else false))) (Q1 d h2) [] fun o=>gb (!(bif decide (a<0) then true else (bif decide (h2>0) then (decide (b<=c)) else false))) (o[1]?) oF fun p=>gb (!(bif decide (a<0) then true else (bif decide (h2>0) then (decide (b<=c)) else false))) (pIw p) 0 fun e=>gb (!(bif (bif decide (a<0) then true else (bif decide (h2>0) then (decide (b<=c)) else false)) then true else (decide (e<(-65536:Int))))) (Q1 d h2) [] fun q=>gb (!(bif (bif decide (a<0) then true else (bif decide (h2>0) then (decide (b<=c)) else false)) then true else (decide (e<(-65536:Int))))) (q[2]?) oF fun r=>gb (!(bif (bif decide (a<0) then true else (bif decide (h2>0) then (decide (b<=c)) else false)) then true else (decide (e<(-65536:Int))))) (pIw r) 0 fun f=>gb (!(bif (bif (bif decide (a<0) then true else (bif decide (h2>0) then (decide (b<=c)) else false)) then true else (decide (e<(-65536:Int)))) then true else (decide (f>65536)))) (Q1 d h2) [] fun s=>gb (!(bif (bif (bif decide (a<0) then true else (bif decide (h2>0) then (decide (b<=c)) else false)) then true else (decide (e<(-65536:Int)))) then true else (decide (f>65536)))) (s[1]?) oF fun t=>gb (!(bif (bif (bif decide (a<0) then true else (bif decide (h2>0) then (decide (b<=c)) else false)) then true else (decide (e<(-65536:Int)))) then true else (decide (f>65536)))) (pIw t) 0 fun u=>gb (!(bif (bif (bif decide (a<0) then true else (bif decide (h2>0) then (decide (b<=c)) else false)) then true else (decide (e<(-65536:Int)))) then true else (decide (f>65536)))) (Q1 d h2) [] fun v=>gb (!(bif (bif (bif decide (a<0) then true else (bif decide (h2>0) then (decide (b<=c)) else false)) then true else (decide (e<(-65536:Int)))) then true else (decide (f>65536)))) (v[2]?) oF fun x=>gb (!(bif (bif (bif decide (a<0) then true else (bif decide (h2>0) then (decide (b<=c)) else false)) then true else (decide (e<(-65536:Int)))) then true else (decide (f>65536)))) (pIw x) 0 fun y=>bif (bif (bif (bif (bif decide (a<0) then true else (bif decide (h2>0) then (decide (b<=c)) else false)) then true else (decide (e<(-65536:Int)))) then true else (decide (f>65536))) then true else (decide (u>=y))) then k0 else Zj n d k0 k1 m (wJ (h2+1)) else k1 h2 (decide (h2<(d.length:Int)))
def J1 (n:Nat) (a0:LL) (K:Bool->oP R):oP R:= Zj n a0 (K false) (fun a b=>K true) n 0
def UN (n:Nat) (b:LL) (h2:Int) (k0:D->D->D->oP R) (k1:Int->Bool->oP R):Nat->Int->oP R
 | 0,_=>none
 | m+1,a=>bif (decide (a<(b.length:Int))) then gb true (Q1 b a) [] fun d=>gb true (d[0]?) oF fun e=>gb true (pIw e) 0 fun f=>bif (f == h2) then gb true (Q1 b a) [] fun c=>gb true (c[0]?) oF fun g=>gb true (c[1]?) oF fun h=>gb true (c[2]?) oF fun i=>k0 g h i else UN n b h2 k0 k1 m (wJ (a+1)) else k1 a (decide (a<(b.length:Int)))
def Ac (n:Nat) (a0:LL) (a1:Int) (K:D->D->D->Bool->oP R):oP R:= UN n a0 a1 (fun a b c=>K a b c true) (fun d e=>K (Q4 0) (Q4 0) (Q4 0) false) n 0

def Zt (n:Nat) (b:Int) (f:LL) (g d:Int) (h:D) (k0:Int->Bool->LL->oP R):Nat->Int->LL->oP R
 | 0,_,_=>none
 | m+1,a,c=>bif (bif decide (a<d) then (decide (a<b)) else false) then gb true (Q1 f g) [] fun i=>gb true (i[1]?) oF fun j=>gb true (pIw j) 0 fun k=>gb true (pIw h) 0 fun l=>gb true (MJ n (wJ ((wJ ((wJ (k-l))+1))+a)) b some) 0 fun e=>gb true (inB (c.length) e) () fun p=>gb true (c[e.toNat]?) [] fun o=>Zt n b f g d h k0 m (wJ (a+1)) (List.set c e.toNat (List.set o 0 (D.bool true))) else k0 a (bif decide (a<d) then (decide (a<b)) else false) c
def Yo (n:Nat) (d:Int) (b e:LL) (k0:Int->Bool->LL->oP R):Nat->Int->LL->oP R
 | 0,_,_=>none
 | m+1,a,f=>bif (decide (a<(b.length:Int))) then gb true (Q1 b a) [] fun g=>gb true (g[0]?) oF fun h=>gb true (pIw h) 0 fun i=>gb true (Ac n e i Tu4) ((.bool false),(.bool false),(.bool false),false) fun c=>bif (!c.2.2.2) then Yo n d b e k0 m (wJ (a+1)) f else gb true (Q1 b a) [] fun p=>gb true (p[2]?) oF fun q=>gb true (pIw q) 0 fun r=>gb true (Q1 b a) [] fun s=>gb true (s[1]?) oF fun t=>gb true (pIw t) 0 fun u=>gb true (pIw c.2.2.1) 0 fun v=>gb true (pIw c.2.1) 0 fun x=>Zt n d b a (wJ ((wJ ((wJ ((wJ (r-u))+v))-x))-1)) c.2.2.1 (fun z aa y=>Yo n d b e k0 m (wJ (a+1)) y) n 0 f else k0 a (decide (a<(b.length:Int))) f
def Hd (n:Nat) (a0:Int) (a1 a2:LL) (K:LL->Int->oP R):oP R:= gb true (J4 n a0 1 7200 some) false fun b=>bif !b then K [] 4 else gb true (J1 n a1 some) false fun a=>gb (!(!a)) (J1 n a2 some) false fun c=>bif (bif !a then true else (!c)) then K [] 1 else gb true (bif decide (0<=a0)&&decide (a0<=a0) then some () else none) () fun e=>gb true (Ym (Int.toNat a0*1)) () fun f=>Yo n a0 a1 a2 (fun g h d=>K d 0) n 0 (List.replicate a0.toNat [D.bool false])

def U0 (n:Nat) (h2:Int) (b:LL) (k0:Int->Int->Bool->oP R):Nat->Int->Int->oP R
 | 0,_,_=>none
 | m+1,c,a=>bif decide (a<h2) then gb true (Q1 b a) [] fun d=>gb true (d[0]?) oF fun e=>gb true (Gx e) false fun f=>bif f then U0 n h2 b k0 m (wJ (c+1)) (wJ (a+1)) else U0 n h2 b k0 m c (wJ (a+1)) else k0 c a (decide (a<h2))
def U9 (n:Nat) (a:Int) (c:LL) (d:Int) (k0:Int->Bool->oP R):Nat->Int->oP R
 | 0,_=>none
 | m+1,b=>gb true (nz a) () fun h=>gb true (Q1 c (Int.tmod (wJ (d+b)) a)) [] fun f=>gb true (f[0]?) oF fun g=>gb true (Gx g) false fun e=>bif e then U9 n a c d k0 m (wJ (b+1)) else k0 b e
def YA (n:Nat) (b:Int) (c:LL) (k0:Int->Bool->LL->oP R):Nat->Int->LL->oP R
 | 0,_,_=>none
 | m+1,a,e=>bif decide (a<b) then gb true (Q1 c a) [] fun g=>gb true (g[0]?) oF fun h=>gb true (Gx h) false fun d=>gb (!(!d)) (MJ n (wJ (a-1)) b some) 0 fun i=>gb (!(!d)) (Q1 c i) [] fun j=>gb (!(!d)) (j[0]?) oF fun k=>gb (!(!d)) (Gx k) false fun l=>bif (bif !d then true else l) then YA n b c k0 m (wJ (a+1)) e else U9 n b c a (fun f o=>gb true (Ym ((e.length+[[Q4 (wJ (a+f)),Q4 (wJ ((wJ (a+b))-1))]].length)*16)) () fun p=>YA n b c k0 m (wJ (a+1)) (e++[[Q4 (wJ (a+f)),Q4 (wJ ((wJ (a+b))-1))]])) n 0 else k0 a (decide (a<b)) e
def Hp (n:Nat) (a0:Int) (a1 a2:LL) (K:LL->Int->oP R):oP R:= gb true (Hd n a0 a1 a2 Tu2) ([],0) fun a=>bif (a.2 != 0) then K [] a.2 else U0 n a0 a.1 (fun c e f=>bif (c == a0) then K [] 13 else YA n a0 a.1 (fun g h d=>K d 0) n 0 []) n 0 0

end Go.Vx
