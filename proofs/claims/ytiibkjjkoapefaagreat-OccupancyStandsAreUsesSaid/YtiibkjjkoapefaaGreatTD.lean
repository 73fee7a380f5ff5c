/- Part of a proof. No conditions of their own. -/
import Derived.Test.YtiibkjjkoapefaaGreatTB
set_option linter.unusedVariables false
set_option linter.unusedSimpArgs false
noncomputable section
abbrev QiS:=@cond_false
abbrev QiT:=@List.getElem?_eq_getElem
abbrev QiU:=@Bool.not_false
abbrev QiV:=@Bool.not_true
abbrev QiW:=@List.getElem?_eq_some_iff
abbrev QiX:=@cond_true
abbrev QiY:=@List.getElem_mem
abbrev QiZ:=@Int.eq_ofNat_of_zero_le
abbrev Qj0:=@List.mem_append
abbrev Qj1:=@List.getElem?_eq_none
namespace Go.Vx
variable {R:Type}
def Ff (n:Nat) (a0 a1:Int) (K:Int->oP R):oP R:= gb true (nz (IntKind.wrap .u64 a1)) () fun a=>K (wJ (Int.tmod (IntKind.wrap .u64 a0) (IntKind.wrap .u64 a1)))
end Go.Vx
namespace Go.Vx
variable {R:Type}
def Q5 (n:Nat) (b:LL) (a a1:Int) (K:Int->Int->oP R):oP R:= bif (decide (a>=(b.length:Int))) then K 0 a else gb true (Q1 b (wJ ((wJ (a+1))-1))) [] fun c=>gb true (c[0]?) oF fun d=>gb true (pIw d) 0 fun i3=>gb true (Ff n i3 a1 some) 0 fun e=>K e (wJ (a+1))
end Go.Vx
namespace Go.Vx
variable {R:Type}
def Wx (n:Nat) (c:LL) (f:Int) (a1:List UInt8) (a2:Int) (K:(List UInt8)->Int->Int->Int->Int->Int->oP R):oP R:= gb true (Q5 n c f 9 Tu2) (0,0) fun a=>gb true (Q5 n c a.2 7 Tu2) (0,0) fun d=>gb true (Q5 n c d.2 21 Tu2) (0,0) fun e=>K a1 (wJ (2+a.1)) (wJ (5000+(wJ (5000*d.1)))) (wJ (e.1-10)) a2 e.2
end Go.Vx
namespace Go.Vx
variable {R:Type}
def Vs (n:Nat) (a0:List UInt8) (a1:Int) (K:(List UInt8)->oP R):oP R:= gb true (nz 10) () fun b=>gb true (nz 10) () fun u2=>gb true (slB (List.length (bs [48,49,50,51,52,53,54,55,56,57])) (some (Int.tmod a1 10)) (some (wJ ((Int.tmod a1 10)+1)))) (0,0) fun a=>gb true (Q8t (a0.length+List.length (cut (bs [48,49,50,51,52,53,54,55,56,57]) a))) () fun c=>K (a0++(cut (bs [48,49,50,51,52,53,54,55,56,57]) a))
end Go.Vx
namespace Go.Vx
variable {R:Type}
def Z9 (n:Nat) (a:LL) (b:List UInt8) (c d e f:Int) (K:Int->LL->oP R):oP R:= gb true (Yf ((a.length+[[D.str b,Q4 c,Q4 d,Q4 e,Q4 f]].length)*48)) () fun g=>K (wJ (((List.length (a++[[D.str b,Q4 c,Q4 d,Q4 e,Q4 f]]):Nat):Int)-1)) (a++[[D.str b,Q4 c,Q4 d,Q4 e,Q4 f]])
end Go.Vx
namespace Go.Vx
variable {R:Type}
def Y8 (n:Nat) (a:LL) (a1 a2 b c:Int) (K:LL->oP R):oP R:= gb true (Yf ((a.length+[[Q4 a1,Q4 1,Q4 a2,Q4 0,Q4 b,Q4 c]].length)*48)) () fun d=>K (a++[[Q4 a1,Q4 1,Q4 a2,Q4 0,Q4 b,Q4 c]])
end Go.Vx
namespace Go.Vx
variable {R:Type}
def Zo (n:Nat) (a:LL) (K:Int->LL->oP R):oP R:= gb true (Vs n (bs [80]) (a.length:Int) some) [] fun b=>gb true (Yf ((a.length+[[D.str b]].length)*16)) () fun u2=>K (wJ (((List.length (a++[[D.str b]]):Nat):Int)-1)) (a++[[D.str b]])
end Go.Vx
namespace Go.Vx
variable {R:Type}
def Qv (n:Nat) (b:Int) (c:LL) (f:Bool) (d e:Int) (k0:Int->Bool->LL->oP R):Nat->Int->LL->oP R
 | 0,_,_=>none
 | m+1,a,g=>bif decide (a<e) then bif f then gb true (Q1 c a) [] fun h=>gb true (h[0]?) oF fun i=>gb true (pIw i) 0 fun j=>gb true (Y8 n g b j d a some) [] fun k=>Qv n b c f d e k0 m (wJ (a+1)) k else gb true (Q1 c a) [] fun l=>gb true (l[0]?) oF fun o=>gb true (pIw o) 0 fun p=>gb true (Y8 n g p b d a some) [] fun q=>Qv n b c f d e k0 m (wJ (a+1)) q else k0 a (decide (a<e)) g
def Vd (n:Nat) (b c:LL) (a1:Int) (a2:LL) (d:Bool) (K:LL->LL->oP R):oP R:= bif (decide ((a2.length:Int)>1)) then gb true (Zo n b Tu2) (0,[]) fun a=>Qv n a1 a2 d a.1 (a2.length:Int) (fun h i f=>K a.2 f) n 0 c else Qv n a1 a2 d (-1:Int) (a2.length:Int) (fun j k g=>K b g) n 0 c
end Go.Vx
namespace Go.Vx
variable {R:Type}
def JN (n:Nat) (c:Int) (h:LL) (k0:Int->Bool->LL->LL->Int->oP R):Nat->Int->LL->LL->Int->oP R
 | 0,_,_,_,_=>none
 | m+1,b,d,i,j=>bif decide (b>0) then gb true (Vs n (bs [84]) c some) [] fun k=>gb true (Vs n k b some) [] fun l=>gb true (Wx n h j l c Tu6) ([],0,0,0,0,0) fun a=>gb true (Z9 n i a.1 (wJ (a.2.1+2)) a.2.2.1 a.2.2.2.1 a.2.2.2.2.1 Tu2) (0,[]) fun g=>gb true (Yf ((d.length+[[Q4 g.1]].length)*8)) () fun s=>JN n c h k0 m (wJ (b-1)) (d++[[Q4 g.1]]) g.2 a.2.2.2.2.2 else k0 b (decide (b>0)) d i j
def UB (n:Nat) (h2:Int) (b:LL) (k0:Int->Bool->LL->LL->LL->Int->oP R):Nat->Int->LL->LL->LL->Int->oP R
 | 0,_,_,_,_,_=>none
 | m+1,a,c,e,d,f=>bif decide (a<h2) then gb true (Vs n (bs [83]) a some) [] fun g=>gb true (Yf ((c.length+[[D.str g]].length)*16)) () fun p=>gb true (Q5 n b f 2 Tu2) (0,0) fun h=>JN n a b (fun q r i l o=>gb true (Yf ((d.length+[[D.sl 1 i]].length)*24)) () fun s=>UB n h2 b k0 m (wJ (a+1)) (c++[[D.str g]]) l (d++[[D.sl 1 i]]) o) n (wJ (1+h.1)) [] e h.2 else k0 a (decide (a<h2)) c e d f
def JL (n:Nat) (g:Int) (h:LL) (k0:Int->Bool->LL->LL->Int->oP R):Nat->Int->LL->LL->Int->oP R
 | 0,_,_,_,_=>none
 | m+1,b,c,i,j=>bif decide (b>0) then gb true (Vs n (bs [76]) g some) [] fun k=>gb true (Vs n k b some) [] fun l=>gb true (Wx n h j l (-1:Int) Tu6) ([],0,0,0,0,0) fun a=>gb true (Z9 n i a.1 a.2.1 a.2.2.1 a.2.2.2.1 a.2.2.2.2.1 Tu2) (0,[]) fun f=>gb true (Yf ((c.length+[[Q4 f.1]].length)*8)) () fun s=>JL n g h k0 m (wJ (b-1)) (c++[[Q4 f.1]]) f.2 a.2.2.2.2.2 else k0 b (decide (b>0)) c i j
def Sb (n:Nat) (b:LL) (k0:Int->Bool->LL->oP R):Nat->Int->LL->oP R
 | 0,_,_=>none
 | m+1,a,c=>bif (decide ((wJ (a+1))<(b.length:Int))) then gb true (inB (b.length) a) () fun k=>gb true (b[a.toNat]?) [] fun d=>gb true (d[0]?) oF fun e=>gb true (pIw e) 0 fun f=>gb true (inB (b.length) (wJ (a+1))) () fun l=>gb true (b[(Int.toNat (wJ (a+1)))]?) [] fun g=>gb true (g[0]?) oF fun h=>gb true (pIw h) 0 fun i=>gb true (Y8 n c f i (-1:Int) 0 some) [] fun j=>Sb n b k0 m (wJ (a+1)) j else k0 a (decide ((wJ (a+1))<(b.length:Int))) c
def Um (n:Nat) (f:Int) (c g:LL) (k0:Int->Bool->LL->LL->LL->LL->Int->oP R):Nat->Int->LL->LL->LL->LL->Int->oP R
 | 0,_,_,_,_,_,_=>none
 | m+1,a,i,j,k,h,l=>bif (decide ((wJ (a+1))<f)) then gb true (Q5 n g l 2 Tu2) (0,0) fun o=>JL n a g (fun ai aj b r s=>Sb n b (fun ak al t=>gb true (inB (b.length) 0) () fun am=>gb true (b[(Int.toNat 0)]?) [] fun u=>gb true (u[0]?) oF fun v=>gb true (pIw v) 0 fun x=>gb true (inB (c.length) a) () fun an=>gb true (c[a.toNat]?) [] fun y=>gb true (y[0]?) oF fun z=>gb true (pSl 1 z) [] fun aa=>gb true (Vd n i t x aa false Tu2) ([],[]) fun p=>gb true (inB (b.length) (wJ ((b.length:Int)-1))) () fun ao=>gb true (b[(Int.toNat (wJ ((b.length:Int)-1)))]?) [] fun ab=>gb true (ab[0]?) oF fun ac=>gb true (pIw ac) 0 fun ad=>gb true (inB (c.length) (wJ (a+1))) () fun ap=>gb true (c[(Int.toNat (wJ (a+1)))]?) [] fun ae=>gb true (ae[0]?) oF fun ag=>gb true (pSl 1 ag) [] fun ah=>gb true (Vd n p.1 p.2 ad ah true Tu2) ([],[]) fun q=>gb true (Yf ((h.length+[[D.sl 1 b]].length)*24)) () fun aq=>Um n f c g k0 m (wJ (a+1)) q.1 r q.2 (h++[[D.sl 1 b]]) s) n 0 k) n (wJ (1+o.1)) [] j o.2 else k0 a (decide ((wJ (a+1))<f)) i j k h l
def Q1y (n:Nat) (b:LL) (d:Int) (K:LL->LL->LL->LL->LL->LL->LL->Int->oP R):oP R:= gb true (Q5 n b d 2 Tu2) (0,0) fun a=>UB n (wJ (2+a.1)) b (fun o p f g c h=>Um n (wJ (2+a.1)) c b (fun q r i j k l m=>K f i j k c l [] m) n 0 [] g [] [] h) n 0 [] [] [] a.2
end Go.Vx
namespace Go.Vx
section
variable {R:Type}
theorem Q3g (x:Int):0<=IntKind.wrap .u64 x:=by
 have:=Int.emod_nonneg x (show (18446744073709551616:Int)≠0 by decide);simpa [IntKind.wrap,IntKind.bits,IntKind.signed] using this
theorem Qay {x:Int} (a:0<=x) (b:x<18446744073709551616):IntKind.wrap .u64 x=x:=by
 have:=Int.emod_eq_of_lt a b;simpa [IntKind.wrap,IntKind.bits,IntKind.signed] using this
def pick (v m:Int):Int:=(IntKind.wrap .u64 v).tmod m
theorem EA (v:Int) {m:Int} (h:0<m):0<=pick v m/\pick v m<m:=by
 unfold pick;rw [Int.tmod_eq_emod_of_nonneg (Q3g v)];exact ⟨Int.emod_nonneg _ (by omega),Int.emod_lt_of_pos _ h⟩
theorem Qgp (n:Nat) (v:Int) {m:Int} (h:0<m) (hm:m<=9223372036854775807) (K:Int->oP R):Ff n v m K=K (pick v m):=by
 unfold Ff;rw [Qay (x:=m) (by omega) (by omega),EE (by omega)];simp -implicitDefEqProofs only [Q0];have:=EA v h;unfold pick at this ⊢;rw [Q4a (by omega) (by omega)]
theorem Qap (n:Nat) {l:List Int} (hl:l.length<=9223372036854775807) {i:Nat} (hi:i<=l.length) {m:Int} (h:0<m) (hm:m<=9223372036854775807) :
  ∃ (v:Int) (j:Nat),0<=v/\v<m/\j<=l.length/\∀ (R:Type) (K:Int->Int->oP R),Q5 n (encI l) i m K=K v j:=by
 by_cases aj:i<l.length
 ·have hg:=QiT aj;refine ⟨pick l[i] m,i+1,(EA _ h).1,(EA _ h).2,by omega,fun R K=>?_⟩;unfold Q5;rw [Q9 (by simp [Xg];omega),Q4a (x:=(i:Int)+1) (by omega) (by omega),Q4a (by omega) (by omega)];rw [show (i:Int)+1-1=(i:Int) by omega,HM hg];simp -implicitDefEqProofs only [Q0,List.getElem?_cons_zero,Q3,Qgp n _ h hm];rfl
 ·refine ⟨0,i,by omega,h,hi,fun R K=>?_⟩;unfold Q5;rw [QX (by simp [Xg];omega)]
end
def OkP {R:Type} (P:R->Prop) (E:oP R):Prop:=∃ v,E=some v/\P v
instance {R:Type}:Membership (oP R) (R->Prop):=⟨fun P E=>OkP P E⟩
theorem okI {R:Type} {P:R->Prop} {v:R} (h:P v):some v∈P:=⟨v,rfl,h⟩
theorem okB {R S:Type} {P:S->Prop} {E:oP R} {z:R} {f:R->Option S} (h:E∈(fun v=>f v∈P:R->Prop)):gb true E z f∈P:=by
 obtain ⟨v,e,h⟩:=h;rw [e];exact h
theorem Vq {R:Type} {n:Nat} {l:List Int} (hl:l.length<=9223372036854775807) {i:Nat} (hi:i<=l.length) {m:Int} (h:0<m) (hm:m<=9223372036854775807) {z:Int × Int} {f:Int × Int->oP R} {P:R->Prop}
  (H:∀ (v:Int) (j:Nat),0<=v->v<m->j<=l.length->f (v,(j:Int))∈P) :
  gb true (Q5 n (encI l) (i:Int) m Tu2) z f∈P:=by
 obtain ⟨v,j,c,d,hj,e⟩:=Qap n hl hi h hm;rw [e];exact H v j c d hj
structure Num (a b c:Int):Prop where
 a0:2<=a
 a1:a<=10
 b0:5000<=b
 b1:b<=35000
 c0 : -10<=c
 c1:c<=10
theorem Q7 {x:Int} (a : -9223372036854775808<=x) (b:x<=9223372036854775807):wJ x=x:=by
 simp only [IntKind.wrap_i64];omega
theorem Qdx {R:Type} {n:Nat} {l:List Int} (hl:l.length<=9223372036854775807) {i:Nat} (hi:i<=l.length) {nm:List UInt8} {st:Int} {z:List UInt8 × Int × Int × Int × Int × Int} {f:List UInt8 × Int × Int × Int × Int × Int->oP R} {P:R->Prop}
  (H:∀ (a b c:Int) (j:Nat),Num a b c->j<=l.length->f (nm,a,b,c,st,(j:Int))∈P) :
  gb true (Wx n (encI l) (i:Int) nm st Tu6) z f∈P:=by
 obtain ⟨v,j,u,y,hj,e⟩:=Qap n hl hi (show (0:Int)<9 by decide) (by decide);obtain ⟨d,j2,g0,g1,q,e2⟩:=Qap n hl hj (show (0:Int)<7 by decide) (by decide);obtain ⟨r,j3,k0,k1,s,t⟩:=Qap n hl q (show (0:Int)<21 by decide) (by decide);unfold Wx;rw [e,Q0,e2,Q0,t,Q0,Q0];rw [Q7 (x:=2+v) (by omega) (by omega),Q7 (x:=5000*d) (by omega) (by omega),Q7 (x:=5000+5000*d) (by omega) (by omega),Q7 (x:=r-10) (by omega) (by omega)];exact H _ _ _ _ ⟨by omega,by omega,by omega,by omega,by omega,by omega⟩ s
theorem two {v:Int} (a:0<=v) (b:v<2):v=0\/v=1:=by omega
theorem CA {R:Type} (n:Nat) (a:List UInt8) (d:Nat) (hd:d<10) (ha:a.length<=100) (K:List UInt8->oP R):Vs n a (d:Int) K=K (a++[UInt8.ofNat (48+d)]):=by
 have:∀ d:Fin 10,∃ q,slB (List.length (bs [48,49,50,51,52,53,54,55,56,57])) (some (Int.tmod (d.val:Int) (10:Int))) (some (wJ ((Int.tmod (d.val:Int) (10:Int))+(1:Int))))=some q/\cut (bs [48,49,50,51,52,53,54,55,56,57]) q=[UInt8.ofNat (48+d.val)]:=by
  intro d
  match d with
  |0=>exact ⟨_,rfl,rfl⟩
  |1=>exact ⟨_,rfl,rfl⟩
  |2=>exact ⟨_,rfl,rfl⟩
  |3=>exact ⟨_,rfl,rfl⟩
  |4=>exact ⟨_,rfl,rfl⟩
  |5=>exact ⟨_,rfl,rfl⟩
  |6=>exact ⟨_,rfl,rfl⟩
  |7=>exact ⟨_,rfl,rfl⟩
  |8=>exact ⟨_,rfl,rfl⟩
  |9=>exact ⟨_,rfl,rfl⟩
 obtain ⟨q,b,h2⟩:=this ⟨d,hd⟩;unfold Vs;simp only at b h2;rw [b];have hz:nz (10:Int)=some ():=rfl;rw [hz,Q0,Q0,Q0,h2];have hs:Q8t (a.length+([UInt8.ofNat (48+d)]:List UInt8).length)=some ():=by
  unfold Q8t;rw [show Nat.ble (a.length+([UInt8.ofNat (48+d)]:List UInt8).length) 9223372036854775807=true from Nat.ble_eq_true_of_le (by simp;omega)];rfl
 rw [hs,Q0]
theorem XF {k:Nat} (h:k<=100000):Yf k=some ():=by
 unfold Yf;rw [show Nat.ble k 140737488355328=true from Nat.ble_eq_true_of_le (by omega)];rfl
theorem Qhc {R:Type} {n:Nat} {e:LL} {s:List UInt8} {a b c d:Int} {z:Int × LL} {f:Int × LL->oP R} {P:R->Prop} (k:Nat) (hk:e.length=k) (h:k<=1000)
  (H:f ((k:Int),e++[[D.str s,D.int .i64 a,D.int .i64 b,D.int .i64 c,D.int .i64 d]])∈P) :
  gb true (Z9 n e s a b c d Tu2) z f∈P:=by
 unfold Z9;rw [XF (by simp;omega),Q0,Q0];have hl:(e++[[D.str s,D.int .i64 a,D.int .i64 b,D.int .i64 c,D.int .i64 d]]).length=k+1:=by simp [hk]
 rw [hl,Q7 (x:=((k+1:Nat):Int)-1) (by omega) (by omega),show ((k+1:Nat):Int)-1=(k:Int) by omega];exact H
theorem QhI {R:Type} {n:Nat} {e:LL} {s:List UInt8} {a b c d:Int} {z:Int × LL} {f:Int × LL->oP R} {P:R->Prop} (k:Nat) (hk:e.length=k) (h:k<=1000) (hn:Num a b c)
  (H:f ((k:Int),e++[[D.str s,D.int .i64 (a+2),D.int .i64 b,D.int .i64 c,D.int .i64 d]])∈P) :
  gb true (Z9 n e s (wJ (a+2)) b c d Tu2) z f∈P:=by
 have j:=hn.a0;have l:=hn.a1;rw [Q7 (x:=a+2) (by omega) (by omega)];exact Qhc k hk h H
end Go.Vx
namespace Go.Vx
def Qhd (i k:Nat):List UInt8:=bs [84]++[UInt8.ofNat (48+i)]++[UInt8.ofNat (48+k)]
def nmL (i k:Nat):List UInt8:=bs [76]++[UInt8.ofNat (48+i)]++[UInt8.ofNat (48+k)]
abbrev RC:=Int × Int × Int
def secT (i k:Nat) (x:RC):List D:=[D.str (Qhd i k),Q4 (x.1+2),Q4 x.2.1,Q4 x.2.2,Q4 i]
def secL (i k:Nat) (x:RC):List D:=[D.str (nmL i k),Q4 x.1,Q4 x.2.1,Q4 x.2.2,Q4 (-1)]
def Yy (f:Nat->RC->List D):Nat->List RC->LL
 |k+1,x::y=>f (k+1) x::Yy f k y
 |_,_=>[]
def ups (k:Nat):Nat->List Nat
 |0=>[]
 |c+1=>k::ups (k+1) c
def ZS (l:List Nat):LL:=l.map fun k=>[Q4 (k:Nat)]
def KL:List RC->Prop
 |[]=>True
 |x::r=>Num x.1 x.2.1 x.2.2/\KL r
section
variable {R:Type} {n:Nat} {l:List Int} (hl:l.length<=9223372036854775807) {P:R->Prop}
include hl
theorem Qg2 {i c k j m:Nat} {tl S:LL} {k0:Int->Bool->LL->LL->Int->oP R}
  (hi:i<10) (hc:c+1<10) (hk:S.length=k) (e:k<=500) (ht:tl.length<=500) (hj:j<=l.length)
  (H:∀ (x:RC) (j:Nat),Num x.1 x.2.1 x.2.2->j<=l.length->JN n i (encI l) k0 m (c:Int) (tl++[[Q4 k]]) (S++[secT i (c+1) x]) (j:Int)∈P) :
  JN n (i:Int) (encI l) k0 (m+1) ((c+1:Nat):Int) tl S (j:Int)∈P:=by
 unfold JN;rw [QX (by simp),CA n _ i hi (by decide),Q0,CA n _ (c+1) hc (by simp),Q0];refine Qdx hl hj fun a b d j hn hj=>?_
 dsimp only;refine QhI k hk (by omega) hn ?_;dsimp only;rw [XF (by simp;omega),Q0,Q7 (x:=((c+1:Nat):Int)-1) (by omega) (by omega),show ((c+1:Nat):Int)-1=(c:Int) by omega];exact H (a,b,d) j hn hj
theorem QcI {i c k j m:Nat} {S:LL} {k0:Int->Bool->LL->LL->Int->oP R}
  (hi:i<10) (hc:c=1\/c=2) (hk:S.length=k) (a:k<=400) (hj:j<=l.length)
  (H:∀ (x:List RC) (j:Nat),KL x->x.length=c->j<=l.length->k0 0 false (ZS (ups k c)) (S++Yy (secT i) c x) (j:Int)∈P) :
  JN n (i:Int) (encI l) k0 (m+3) (c:Int) [] S (j:Int)∈P:=by
 rcases hc with rfl | rfl
 ·refine Qg2 hl (c:=0) hi (by omega) hk (by omega) (by simp) hj fun x j hx hj=>?_
  exact H [x] j ⟨hx,trivial⟩ rfl hj
 ·refine Qg2 hl (c:=1) hi (by omega) hk (by omega) (by simp) hj fun x j hx hj=>?_
  refine Qg2 hl (c:=0) (k:=k+1) hi (by omega) (by simp [hk]) (by omega) (by simp) hj fun y j hy hj=>?_
  have:=H [x,y] j ⟨hx,hy,trivial⟩ rfl hj;simp only [Yy,ups,ZS,List.map_cons,List.map_nil] at this;show k0 0 false _ (S++[secT i 2 x]++[secT i 1 y]) (j:Int)∈P;rw [List.append_assoc S];exact this
end
end Go.Vx
namespace Go.Vx
def Q62 (a b:Int) (p q:Int):List D:=[Q4 a,Q4 1,Q4 b,Q4 0,Q4 p,Q4 q]
def lk (aj:Bool) (x t:Int) (p q:Int):List D:=bif aj then Q62 x t p q else Q62 t x p q
def nmP (k:Nat):List D:=[D.str (bs [80]++[UInt8.ofNat (48+k)])]
def Q2B (x:Nat) (aj:Bool) (ak k c:Nat):LL:=bif Nat.beq c 2 then [lk aj x k ak 0,lk aj x ((k+1:Nat):Int) ak 1] else [lk aj x k (-1) 0]
def Q1R (aj c:Nat):LL:=bif Nat.beq c 2 then [nmP aj] else []
section
variable {R:Type} {n:Nat} {q2 q4:LL}
theorem QcX {a b c d:Int} (h:q4.length<=1000) (K:LL->oP R):Y8 n q4 a b c d K=K (q4++[Q62 a b c d]):=by
 unfold Y8;rw [XF (by simp;omega),Q0];rfl
theorem Qdq {k:Nat} (hk:q2.length=k) (h:k<10) (K:Int->LL->oP R):Zo n q2 K=K (k:Int) (q2++[nmP k]):=by
 unfold Zo;rw [hk,CA n _ k h (by decide),Q0,XF (by simp;omega),Q0];have hl:(q2++[[D.str (bs [80]++[UInt8.ofNat (48+k)])]]).length=k+1:=by simp [hk]
 rw [hl,Q7 (x:=((k+1:Nat):Int)-1) (by omega) (by omega),show ((k+1:Nat):Int)-1=(k:Int) by omega];rfl
theorem QgD {a1 a:Int} {T:List Nat} {aj:Bool} {w:Int} {h t m:Nat} (hh:(h:Int)<a) (b:h<=1000) (ht:T[h]? = some t) (hq:q4.length<=1000) {k0:Int->Bool->LL->oP R} :
  Qv n a1 (ZS T) aj w a k0 (m+1) (h:Int) q4=Qv n a1 (ZS T) aj w a k0 m ((h+1:Nat):Int) (q4++[lk aj a1 t w h]):=by
 rw [Qv];rw [QX (by simp;omega),Q7 (x:=(h:Int)+1) (by omega) (by omega)];have hr:Q1 (ZS T) (h:Int)=some [Q4 t]:=QL ht;cases aj
 ·rw [Q9 rfl,hr,Q0];show gb true (some (D.int .i64 (t:Int))) _ _=_;rw [Q0,Q3,Q0,QcX hq,Q0];rfl
 ·rw [QX rfl,hr,Q0];show gb true (some (D.int .i64 (t:Int))) _ _=_;rw [Q0,Q3,Q0,QcX hq,Q0];rfl
theorem QdE {a1 a:Int} {T:LL} {aj:Bool} {w:Int} {h m:Nat} (hh:¬ (h:Int)<a) {k0:Int->Bool->LL->oP R} :
  Qv n a1 T aj w a k0 (m+1) (h:Int) q4=k0 h false q4:=by
 rw [Qv,Q9 (by simp;omega)];simp [hh]
theorem QgY {m x k c p:Nat} {aj:Bool} (hc:c=1\/c=2) (hp:q2.length=p) (a:p<10) (hq:q4.length<=900) (K:LL->LL->oP R) :
  Vd (m+3) q2 q4 (x:Int) (ZS (ups k c)) aj K=K (q2++Q1R p c) (q4++Q2B x aj p k c):=by
 rcases hc with rfl | rfl
 ·show Qv (m+3) (x:Int) (ZS [k]) aj (-1) (1:Int) _ (m+2+1) ((0:Nat):Int) q4=_;rw [QgD (by decide) (by decide) rfl (by omega),QdE (by decide)];rw [show Q1R p 1=[] from rfl,List.append_nil];rfl
 ·show gb true (Zo (m+3) q2 _) _ _=_;rw [Qdq hp a,Q0];show Qv (m+3) (x:Int) (ZS [k,k+1]) aj (p:Int) (2:Int) _ (m+2+1) ((0:Nat):Int) q4=_;rw [QgD (by decide) (by decide) rfl (by omega),QgD (by decide) (by decide) rfl (by simp;omega),QdE (by decide),List.append_assoc];rfl
end
end Go.Vx
namespace Go.Vx
def inL (s u:Nat):LL:=bif Nat.beq u 2 then [Q62 s ((s+1:Nat):Int) (-1) 0] else []
def pc (c:Nat):Nat:=bif Nat.beq c 2 then 1 else 0
theorem Q5v (p c:Nat):(Q1R p c).length=pc c:=by unfold Q1R pc;cases Nat.beq c 2 <;> rfl
theorem QbY {c:Nat}:pc c<=1:=by unfold pc;cases Nat.beq c 2 <;> simp
theorem Q1J {x p k c:Nat} {e:Bool}:(Q2B x e p k c).length<=2:=by unfold Q2B;cases Nat.beq c 2 <;> simp
theorem Q4h {s u:Nat}:(inL s u).length<=1:=by unfold inL;cases Nat.beq u 2 <;> simp
section
variable {R:Type} {n:Nat} {l:List Int} (hl:l.length<=9223372036854775807) {P:R->Prop}
include hl
theorem QcA {i c k j m:Nat} {tl S:LL} {k0:Int->Bool->LL->LL->Int->oP R}
  (hi:i<10) (hc:c+1<10) (hk:S.length=k) (e:k<=500) (ht:tl.length<=500) (hj:j<=l.length)
  (H:∀ (x:RC) (j:Nat),Num x.1 x.2.1 x.2.2->j<=l.length->JL n i (encI l) k0 m (c:Int) (tl++[[Q4 k]]) (S++[secL i (c+1) x]) (j:Int)∈P) :
  JL n (i:Int) (encI l) k0 (m+1) ((c+1:Nat):Int) tl S (j:Int)∈P:=by
 unfold JL;rw [QX (by simp),CA n _ i hi (by decide),Q0,CA n _ (c+1) hc (by simp),Q0];refine Qdx hl hj fun a b d j hn hj=>?_
 dsimp only;refine Qhc k hk (by omega) ?_;dsimp only;rw [XF (by simp;omega),Q0,Q7 (x:=((c+1:Nat):Int)-1) (by omega) (by omega),show ((c+1:Nat):Int)-1=(c:Int) by omega];exact H (a,b,d) j hn hj
theorem QaK {i c k j m:Nat} {S:LL} {k0:Int->Bool->LL->LL->Int->oP R}
  (hi:i<10) (hc:c=1\/c=2) (hk:S.length=k) (a:k<=400) (hj:j<=l.length)
  (H:∀ (x:List RC) (j:Nat),KL x->x.length=c->j<=l.length->k0 0 false (ZS (ups k c)) (S++Yy (secL i) c x) (j:Int)∈P) :
  JL n (i:Int) (encI l) k0 (m+3) (c:Int) [] S (j:Int)∈P:=by
 rcases hc with rfl | rfl
 ·refine QcA hl (c:=0) hi (by omega) hk (by omega) (by simp) hj fun x j hx hj=>?_
  exact H [x] j ⟨hx,trivial⟩ rfl hj
 ·refine QcA hl (c:=1) hi (by omega) hk (by omega) (by simp) hj fun x j hx hj=>?_
  refine QcA hl (c:=0) (k:=k+1) hi (by omega) (by simp [hk]) (by omega) (by simp) hj fun y j hy hj=>?_
  have:=H [x,y] j ⟨hx,hy,trivial⟩ rfl hj;simp only [Yy,ups,ZS,List.map_cons,List.map_nil] at this;show k0 0 false _ (S++[secL i 2 x]++[secL i 1 y]) (j:Int)∈P;rw [List.append_assoc S];exact this
end
section
variable {R:Type} {n:Nat}
theorem inA {s u m:Nat} {a:LL} (hu:u=1\/u=2) (hq:a.length<=900) {k0:Int->Bool->LL->oP R} :
  Sb n (ZS (ups s u)) k0 (m+3) 0 a=k0 ((u-1:Nat):Int) false (a++inL s u):=by
 rcases hu with rfl | rfl
 ·rw [show inL s 1=[] from rfl,List.append_nil];rfl
 ·show gb true (Y8 n a (s:Int) ((s+1:Nat):Int) (-1) 0 _) _ _=_;rw [QcX (by omega),Q0];rfl
end
theorem QfT {R:Type} {m:Nat} {l:List Int} (hl:l.length<=9223372036854775807) {P:R->Prop} {a:Int} {g s p k c k' c' j:Nat} {Pt Se Li Tr Bt:LL} {k0:Int->Bool->LL->LL->LL->LL->Int->oP R} {n:Nat}
  (hg:g<8) (hw:(g:Int)+1<a) (hs:Se.length=s) (i:s<=300) (hp:Pt.length=p) (o:p<8) (hL:Li.length<=300) (hB:Bt.length<=300)
  (hT:Tr[g]? = some [D.sl 1 (ZS (ups k c))]) (ak:Tr[g+1]? = some [D.sl 1 (ZS (ups k' c'))]) (hc:c=1\/c=2) (aq:c'=1\/c'=2) (hj:j<=l.length)
  (H:∀ (u:Nat) (x:List RC) (j:Nat),(u=1\/u=2)->KL x->x.length=u->j<=l.length ->
   Um (m+3) a Tr (encI l) k0 n ((g+1:Nat):Int) ((Pt++Q1R p c)++Q1R (p+pc c) c') (Se++Yy (secL g) u x) (((Li++inL s u)++Q2B s false p k c)++Q2B (s+u-1) true (p+pc c) k' c') (Bt++[[D.sl 1 (ZS (ups s u))]]) (j:Int)∈P) :
  Um (m+3) a Tr (encI l) k0 (n+1) (g:Int) Pt Se Li Bt (j:Int)∈P:=by
 unfold Um;have ar:wJ ((g:Int)+1)=((g+1:Nat):Int):=by rw [Q7 (by omega) (by omega)];omega
 rw [ar,QX (by simp;omega)];refine Vq hl hj (by decide) (by decide) fun v j b d hj=>?_
 obtain ⟨u,hu,hv⟩:∃ u:Nat,(u=1\/u=2)/\wJ (1+v)=(u:Int):=by
  rcases two b d with rfl | rfl
  ·exact ⟨1,.inl rfl,rfl⟩
  ·exact ⟨2,.inr rfl,rfl⟩
 dsimp only;rw [hv];refine QaK hl (by omega) hu hs (by omega) hj fun x j hx an hj=>?_
 rw [inA hu (by omega)];have e:(0:Int).toNat=0:=rfl;have ao:(ZS (ups s u)).length=u:=by rcases hu with rfl | rfl <;> rfl
 have f:(ZS (ups s u))[0]? = some [Q4 s]:=by rcases hu with rfl | rfl <;> rfl
 have e1:(ZS (ups s u))[u-1]? = some [Q4 ((s+u-1:Nat):Int)]:=by rcases hu with rfl | rfl <;> rfl
 have az:g<Tr.length:=(QiW.1 hT).1;have aw:g+1<Tr.length:=(QiW.1 ak).1;have h:wJ ((u:Int)-1)=((u-1:Nat):Int):=by rcases hu with rfl | rfl <;> rfl
 rw [ao,Y0 (by omega) (by omega),Q0,e,f,Q0];show gb true (some (Q4 s)) _ _∈P;rw [Q0,Q3,Q0,Y0 (by omega) (by omega),Q0,Int.toNat_natCast,hT,Q0];show gb true (some (D.sl 1 (ZS (ups k c)))) _ _∈P;rw [Q0,QG,Q0,QgY hc hp (by omega) (by have:=@Q4h s u;simp;omega),Q0];dsimp only;rw [h,Y0 (by omega) (by omega),Q0,Int.toNat_natCast,e1,Q0];show gb true (some (Q4 ((s+u-1:Nat):Int))) _ _∈P;rw [Q0,Q3,Q0,Y0 (by omega) (by omega),Q0,Int.toNat_natCast,ak,Q0];show gb true (some (D.sl 1 (ZS (ups k' c')))) _ _∈P;rw [Q0,QG,Q0,QgY (p:=p+pc c) aq (by simp [hp,Q5v]) (by have:=@QbY c;omega) (by have:=@Q4h s u;have:=@Q1J s p k c false;simp;omega),Q0];dsimp only;rw [XF (by simp;omega),Q0];exact H u x j hu hx an hj
end Go.Vx
namespace Go.Vx
def nmS (k:Nat):List D:=[D.str (bs [83]++[UInt8.ofNat (48+k)])]
theorem Xe {f:Nat->RC->List D}:∀ {c:Nat} {x:List RC},x.length=c->(Yy f c x).length=c
 |0,[],_=>rfl
 |c+1,a::x,h=>by simp [Yy];exact Xe (by simpa using h)
section
variable {R:Type} {m:Nat} {l:List Int} (hl:l.length<=9223372036854775807) {P:R->Prop}
include hl
theorem Ly {a:Int} {i k j:Nat} {b d e:LL} {k0:Int->Bool->LL->LL->LL->Int->oP R} {n:Nat}
  (hi:i<10) (hw:(i:Int)<a) (hk:d.length=k) (g:k<=400) (f:b.length<=400) (h2:e.length<=400) (hj:j<=l.length)
  (H:∀ (c:Nat) (x:List RC) (j:Nat),(c=1\/c=2)->KL x->x.length=c->j<=l.length ->
   UB (m+3) a (encI l) k0 n ((i+1:Nat):Int) (b++[nmS i]) (d++Yy (secT i) c x) (e++[[D.sl 1 (ZS (ups k c))]]) (j:Int)∈P) :
  UB (m+3) a (encI l) k0 (n+1) (i:Int) b d e (j:Int)∈P:=by
 unfold UB;rw [QX (by simp;omega),CA _ _ i hi (by decide),Q0,XF (by simp;omega),Q0];refine Vq hl hj (by decide) (by decide) fun v j h f hj=>?_
 obtain ⟨c,hc,hv⟩:∃ c:Nat,(c=1\/c=2)/\wJ (1+v)=(c:Int):=by
  rcases two h f with rfl | rfl
  ·exact ⟨1,.inl rfl,rfl⟩
  ·exact ⟨2,.inr rfl,rfl⟩
 dsimp only;rw [hv];refine QcI hl hi hc hk g hj fun x j hx aj hj=>?_
 rw [XF (by simp;omega),Q0,Q7 (x:=(i:Int)+1) (by omega) (by omega)];exact H c x j hc hx aj hj
omit hl in
theorem r7e {n m:Nat} {b a:Int} {g c d e:LL} {f:Int} {k0:Int->Bool->LL->LL->LL->Int->oP R} (h:¬ a<b) :
  UB n b g k0 (m+1) a c d e f=k0 a false c d e f:=by
 rw [UB,Q9 (by simp;omega)];simp [h]
omit hl in
theorem Qh7 {n m:Nat} {b a:Int} {i j c d e f:LL} {g:Int} {k0:Int->Bool->LL->LL->LL->LL->Int->oP R} (h:¬ wJ (a+1)<b) :
  Um n b i j k0 (m+1) a c d e f g=k0 a false c d e f g:=by
 rw [Um,Q9 (by simp;omega)];simp [h]
theorem QfY {i:Nat} (hi:i<=l.length) {k0:LL->LL->LL->LL->LL->LL->Int->oP R}
  (H:∀ (c0 c1 a:Nat) (b d e:List RC) (j:Nat),(c0=1\/c0=2)->(c1=1\/c1=2)->(a=1\/a=2)->KL b->KL d->KL e->b.length=c0->d.length=c1->e.length=a->j<=l.length ->
   k0 [nmS 0,nmS 1] (Q1R 0 c0++Q1R (pc c0) c1) ((Yy (secT 0) c0 b++Yy (secT 1) c1 d)++Yy (secL 0) a e)
    ((inL (c0+c1) a++Q2B (c0+c1) false 0 0 c0)++Q2B (c0+c1+a-1) true (pc c0) c0 c1)
    [[D.sl 1 (ZS (ups 0 c0))],[D.sl 1 (ZS (ups c0 c1))]] [[D.sl 1 (ZS (ups (c0+c1) a))]] (j:Int)∈P) :
  UB (m+3) 2 (encI l) (fun _ _ r t h u=>
   Um (m+3) 2 h (encI l) (fun _ _ v x y z aa=>k0 r v x y h z aa) (m+3) (0:Int) [] t [] [] u)
   (m+3) (0:Int) [] [] [] (i:Int)∈P:=by
 refine Ly hl (i:=0) (by decide) (by decide) rfl (by decide) (by decide) (by decide) hi fun c0 b j n ab f hj=>?_
 refine Ly hl (i:=1) (k:=c0) (by decide) (by decide) (by simp [Xe f]) (by omega) (by simp) (by simp) hj fun c1 d j o ac q hj=>?_
 rw [r7e (by decide)];refine QfT hl (g:=0) (s:=c0+c1) (p:=0) (k:=0) (c:=c0) (k':=c0) (c':=c1) (by decide) (by decide) (by simp [Xe f,Xe q]) (by omega) rfl (by decide) (by decide) (by decide) rfl rfl n o hj fun a e j ad ae aj hj=>?_
 rw [Qh7 (by decide)];have:=H c0 c1 a b d e j n o ad ab ac ae f q aj hj;simpa [Nat.add_assoc] using this
theorem Qg1 {i:Nat} (hi:i<=l.length) {k0:LL->LL->LL->LL->LL->LL->Int->oP R}
  (H:∀ (c0 c1 a b d:Nat) (e f h n o:List RC) (j:Nat),(c0=1\/c0=2)->(c1=1\/c1=2)->(a=1\/a=2)->(b=1\/b=2)->(d=1\/d=2)->KL e->KL f->KL h->KL n->KL o->e.length=c0->f.length=c1->h.length=a->n.length=b->o.length=d->j<=l.length ->
   k0 [nmS 0,nmS 1,nmS 2] ((Q1R 0 c0++Q1R (pc c0) c1)++Q1R (pc c0+pc c1) c1++Q1R (pc c0+pc c1+pc c1) a)
    ((((Yy (secT 0) c0 e++Yy (secT 1) c1 f)++Yy (secT 2) a h)++Yy (secL 0) b n)++Yy (secL 1) d o)
    (((inL (c0+c1+a) b++Q2B (c0+c1+a) false 0 0 c0)++Q2B (c0+c1+a+b-1) true (pc c0) c0 c1)++inL (c0+c1+a+b) d++Q2B (c0+c1+a+b) false (pc c0+pc c1) c0 c1++Q2B (c0+c1+a+b+d-1) true (pc c0+pc c1+pc c1) (c0+c1) a)
    [[D.sl 1 (ZS (ups 0 c0))],[D.sl 1 (ZS (ups c0 c1))],[D.sl 1 (ZS (ups (c0+c1) a))]] [[D.sl 1 (ZS (ups (c0+c1+a) b))],[D.sl 1 (ZS (ups (c0+c1+a+b) d))]] (j:Int)∈P) :
  UB (m+4) 3 (encI l) (fun _ _ aa ab v ac=>
   Um (m+4) 3 v (encI l) (fun _ _ ad ae ag ah ai=>k0 aa ad ae ag v ah ai) (m+4) (0:Int) [] ab [] [] ac)
   (m+4) (0:Int) [] [] [] (i:Int)∈P:=by
 refine Ly hl (m:=m+1) (i:=0) (by decide) (by decide) rfl (by decide) (by decide) (by decide) hi fun c0 e j x aj q hj=>?_
 refine Ly hl (m:=m+1) (i:=1) (k:=c0) (by decide) (by decide) (by simp [Xe q]) (by omega) (by simp) (by simp) hj fun c1 f j t ak r hj=>?_
 refine Ly hl (m:=m+1) (i:=2) (k:=c0+c1) (by decide) (by decide) (by simp [Xe q,Xe r]) (by omega) (by simp) (by simp) hj fun a h j y al u hj=>?_
 rw [r7e (by decide)];refine QfT hl (m:=m+1) (g:=0) (s:=c0+c1+a) (p:=0) (k:=0) (c:=c0) (k':=c0) (c':=c1) (by decide) (by decide) (by simp [Xe q,Xe r,Xe u,Nat.add_assoc]) (by omega) rfl (by decide) (by decide) (by decide) rfl rfl x t hj fun b n j am an z hj=>?_
 have b0:=@QbY c0;have b1:=@QbY c1;have f0:=@Q4h (c0+c1+a) b;have f1:=@Q1J (c0+c1+a) 0 0 c0 false;have f2:=@Q1J (c0+c1+a+b-1) (pc c0) c0 c1 true;refine QfT hl (m:=m+1) (g:=1) (s:=c0+c1+a+b) (p:=pc c0+pc c1) (k:=c0) (c:=c1) (k':=c0+c1) (c':=a) (by decide) (by decide) (by simp [Xe q,Xe r,Xe u,Xe z,Nat.add_assoc]) (by omega) (by simp [Q5v]) (by omega) (by simp;omega) (by simp) rfl rfl t y hj fun d o j ao ap aq hj=>?_
 rw [Qh7 (by decide)];have:=H c0 c1 a b d e f h n o j x t y am ao aj ak al an ap q r u z aq hj;simpa [Nat.add_assoc] using this
end
end Go.Vx
namespace Go.Vx
def Qbf:Option Bool->Bool
 |some true=>true
 |_=>false
def Qh8:Option Bool->Bool
 |some false=>true
 |_=>false
def Q7g:Option Int->Bool
 |some n=>n == 0
 |none=>false
theorem Ni {o:Option Bool} (h:Qbf o=true):o=some true:=by
 match o,h with
 |some true,_=>rfl
theorem Q8y {o:Option Bool} (h:Qh8 o=true):o=some false:=by
 match o,h with
 |some false,_=>rfl
theorem VO {o:Option Int} (h:Q7g o=true):o=some 0:=by
 match o,h with
 |some n,h=>simp only [Q7g,beq_iff_eq] at h;rw [h]
end Go.Vx
namespace Go.Vx
variable {R:Type}
def Pi (n:Nat) (a0:Int) (K:Bool->oP R):oP R:= K (bif (bif decide (a0>=65) then (decide (a0<=90)) else false) then true else (bif decide (a0>=97) then (decide (a0<=122)) else false))
end Go.Vx
namespace Go.Vx
variable {R:Type}
def LR (n:Nat) (a0:Int) (K:Bool->oP R):oP R:= K (bif decide (a0>=48) then (decide (a0<=57)) else false)
end Go.Vx
namespace Go.Vx
variable {R:Type}
def Sf (n:Nat) (b:List UInt8) (d:Int) (k0:oP R) (k1:Int->Bool->oP R):Nat->Int->oP R
 | 0,_=>none
 | m+1,a=>bif decide (a<d) then gb true (VP b a) 0 fun f=>gb true (Pi n f some) false fun c=>gb (!c) (VP b a) 0 fun g=>gb (!c) (LR n g some) false fun e=>gb (bif !c then (!e) else false) (VP b a) 0 fun h=>bif (bif (bif !c then (!e) else false) then (h != 95) else false) then k0 else Sf n b d k0 k1 m (wJ (a+1)) else k1 a (decide (a<d))
def Kp (n:Nat) (a0:List UInt8) (K:Bool->oP R):oP R:= gb (!(bif (decide ((a0.length:Int)<1)) then true else (decide ((a0.length:Int)>12)))) (VP a0 0) 0 fun a=>gb (!(bif (decide ((a0.length:Int)<1)) then true else (decide ((a0.length:Int)>12)))) (Pi n a some) false fun b=>bif (bif (bif (decide ((a0.length:Int)<1)) then true else (decide ((a0.length:Int)>12))) then true else (!b)) then K false else Sf n a0 (a0.length:Int) (K false) (fun c d=>K true) n 0
end Go.Vx
namespace Go.Vx
variable {R:Type}
def Xi (n:Nat) (e f g h:LL) (i:List UInt8) (a b c d:Int) (K:Bool->oP R):oP R:= K (bif (bif (bif (bif (bif (bif (bif decide (a>=1) then (decide (a<=400)) else false) then (decide (b>=1000)) else false) then (decide (b<=100000)) else false) then (decide (c>=(-40:Int))) else false) then (decide (c<=40)) else false) then (decide (d>=(-1:Int))) else false) then (decide (d<(e.length:Int))) else false)
end Go.Vx
namespace Go.Vx
variable {R:Type}
def Yc (n:Nat) (i h b j:LL) (c d e f a g:Int) (K:Bool->oP R):oP R:= K (bif (bif (bif (bif (bif (bif (bif (bif decide (c>=0) then (decide (c<(b.length:Int))) else false) then (decide (e>=0)) else false) then (decide (e<(b.length:Int))) else false) then (bif (d == 0) then true else (d == 1)) else false) then (bif (f == 0) then true else (f == 1)) else false) then (decide (a>=(-1:Int))) else false) then (decide (a<(h.length:Int))) else false) then (bif (g == 0) then true else (bif (g == 1) then (a != (-1:Int)) else false)) else false)
end Go.Vx
namespace Go.Vx
variable {R:Type}
def L0 (n:Nat) (a b c d e f:Int) (K:Int->Int->Int->Int->oP R):oP R:= K a b c d
end Go.Vx
namespace Go.Vx
variable {R:Type}
def Hg (n:Nat) (h:LL) (h2 d e f g:Int) (k0:oP R) (k1:Int->Bool->oP R):Nat->Int->oP R
 | 0,_=>none
 | m+1,c=>bif decide (c<h2) then gb true (Q1 h c) [] fun b=>gb true (b[0]?) oF fun i=>gb true (b[1]?) oF fun j=>gb true (b[2]?) oF fun k=>gb true (b[3]?) oF fun l=>gb true (b[4]?) oF fun o=>gb true (b[5]?) oF fun p=>gb true (pIw i) 0 fun q=>gb true (pIw j) 0 fun r=>gb true (pIw k) 0 fun s=>gb true (pIw l) 0 fun t=>gb true (pIw o) 0 fun u=>gb true (pIw p) 0 fun v=>gb true (L0 n q r s t u v Tu4) (0,0,0,0) fun a=>bif (bif (bif ((d == a.1)&&(e == a.2.1)) then ((f == a.2.2.1)&&(g == a.2.2.2)) else false) then true else (bif ((d == a.2.2.1)&&(e == a.2.2.2)) then ((f == a.1)&&(g == a.2.1)) else false)) then k0 else Hg n h h2 d e f g k0 k1 m (wJ (c+1)) else k1 c (decide (c<h2))
def Gt (n:Nat) (a0:LL) (a b c d:Int) (K:Bool->oP R):oP R:= Hg n a0 (a0.length:Int) a b c d (K true) (fun e f=>K false) n 0
end Go.Vx
namespace Go.Vx
variable {R:Type}
def JO (n:Nat) (h i j k a b:Int) (a1:LL) (K:Bool->oP R):oP R:= bif ((a1.length:Int) == 0) then K true else gb (bif ((a1.length:Int) == 1) then (a != (-1:Int)) else false) (Q1 a1 0) [] fun c=>gb (bif ((a1.length:Int) == 1) then (a != (-1:Int)) else false) (c[4]?) oF fun d=>gb (bif ((a1.length:Int) == 1) then (a != (-1:Int)) else false) (pIw d) 0 fun i3=>gb (bif (bif ((a1.length:Int) == 1) then (a != (-1:Int)) else false) then (a == i3) else false) (Q1 a1 0) [] fun e=>gb (bif (bif ((a1.length:Int) == 1) then (a != (-1:Int)) else false) then (a == i3) else false) (e[5]?) oF fun f=>gb (bif (bif ((a1.length:Int) == 1) then (a != (-1:Int)) else false) then (a == i3) else false) (pIw f) 0 fun g=>K (bif (bif (bif ((a1.length:Int) == 1) then (a != (-1:Int)) else false) then (a == i3) else false) then (b != g) else false)
end Go.Vx
namespace Go.Vx
variable {R:Type}
def Qb4 (n:Nat) (aj:List (List UInt8)) (s:List UInt8):Bool:=Nat.ble s.length 12&&Qbf (Kp n s some)&&!(aj.contains s)
def TU (n:Nat):List (List UInt8)->LL->Bool
 | _,[]=>true
 | aj,row::r=>match row with
 | [D.str s]=>Qb4 n aj s&&TU n (s::aj) r
 | _=>false
def Pf (n:Nat) (l0 l1 l2 e:LL):List (List UInt8)->LL->Bool
 | _,[]=>true
 | aj,row::r=>match row with
 | [D.str s,D.int .i64 a,D.int .i64 b,D.int .i64 c,D.int .i64 d]=>Qb4 n aj s&&Qbf (Xi n l0 l1 l2 e s a b c d some)&&Pf n l0 l1 l2 e (s::aj) r
 | _=>false
def KJ (n:Nat) (l0 l1 l2 c:LL):List LL->LL->Bool
 | _,[]=>true
 | st,row::r=>match row with
 | [D.int .i64 a,D.int .i64 ae,D.int .i64 b,D.int .i64 be,D.int .i64 p,D.int .i64 q]=>(decide (0<=a)&&decide (a<l2.length)&&decide (0<=ae)&&decide (ae<=1)&&decide (0<=b)&&decide (b<l2.length)&&decide (0<=be)&&decide (be<=1))&&Qbf (Yc n l0 l1 l2 c a ae b be p q some) && !(Nat.beq (2*a+ae).toNat (2*b+be).toNat) && (match st[(2*a+ae).toNat]?,st[(2*b+be).toNat]? with
 | some x,some y=>Qh8 (Gt n x a ae b be some)&&Qbf (JO n a ae b be p q x some)&&Qbf (JO n a ae b be p q y some)&&Nat.ble x.length 1&&Nat.ble y.length 1 && KJ n l0 l1 l2 c ((st.set (2*a+ae).toNat (x++[row])).set (2*b+be).toNat (y++[row])) r
 | _,_=>false)
 | _=>false
def Pg (n:Nat) (l0 l1 l2 a:LL):Bool:= Nat.ble l0.length 24&&Nat.ble l1.length 48&&Nat.ble l2.length 96&&Nat.ble a.length 192&&!(Nat.beq l2.length 0)&&TU n [] l0&&TU n [] l1&&Pf n l0 l1 l2 a [] l2&&KJ n l0 l1 l2 a (List.replicate (2*l2.length) []) a
def Zp (n:Nat) (l0 l1 l2 a:LL) (K:Int->oP R):oP R:=bif Pg n l0 l1 l2 a then K 0 else none
end Go.Vx
namespace Go.Vx
def hat (c:Nat):List RC:=List.replicate c (2,5000,0)
def pt2 (c0 c1:Nat):LL:=Q1R 0 c0++Q1R (pc c0) c1
def se2 (c0 c1 a:Nat) (b c d:List RC):LL:=(Yy (secT 0) c0 b++Yy (secT 1) c1 c)++Yy (secL 0) a d
def li2 (c0 c1 a:Nat):LL:=(inL (c0+c1) a++Q2B (c0+c1) false 0 0 c0)++Q2B (c0+c1+a-1) true (pc c0) c0 c1
def pt3 (c0 c1 a:Nat):LL:=(Q1R 0 c0++Q1R (pc c0) c1)++Q1R (pc c0+pc c1) c1++Q1R (pc c0+pc c1+pc c1) a
def se3 (c0 c1 a b c:Nat) (d e f g h:List RC):LL:=(((Yy (secT 0) c0 d++Yy (secT 1) c1 e)++Yy (secT 2) a f)++Yy (secL 0) b g)++Yy (secL 1) c h
def li3 (c0 c1 a b c:Nat):LL:=((inL (c0+c1+a) b++Q2B (c0+c1+a) false 0 0 c0)++Q2B (c0+c1+a+b-1) true (pc c0) c0 c1)++inL (c0+c1+a+b) c++Q2B (c0+c1+a+b) false (pc c0+pc c1) c0 c1++Q2B (c0+c1+a+b+c-1) true (pc c0+pc c1+pc c1) (c0+c1) a
theorem ok2 {c0 c1 a:Nat} (b:c0=1\/c0=2) (c:c1=1\/c1=2) (h2:a=1\/a=2):Pg 400 [nmS 0,nmS 1] (pt2 c0 c1) (se2 c0 c1 a (hat c0) (hat c1) (hat a)) (li2 c0 c1 a)=true:=by
 rcases b with rfl | rfl <;> rcases c with rfl | rfl <;> rcases h2 with rfl | rfl <;> kernel_rfl
theorem ok3 {c0 c1 a b c:Nat} (d:c0=1\/c0=2) (e:c1=1\/c1=2) (h2:a=1\/a=2) (f:b=1\/b=2) (g:c=1\/c=2):Pg 400 [nmS 0,nmS 1,nmS 2] (pt3 c0 c1 a) (se3 c0 c1 a b c (hat c0) (hat c1) (hat a) (hat b) (hat c)) (li3 c0 c1 a b c)=true:=by
 rcases d with rfl | rfl <;> rcases e with rfl | rfl <;> rcases h2 with rfl | rfl <;> rcases f with rfl | rfl <;> rcases g with rfl | rfl <;> kernel_rfl
end Go.Vx
namespace Go.Vx
structure NumOk (a b c d:Int) (k:Nat):Prop where
 a0:1<=a
 a1:a<=400
 b0:1000<=b
 b1:b<=100000
 c0 : -40<=c
 c1:c<=40
 d0 : -1<=d
 d1:d<k
theorem Q6a {n:Nat} {l0 l1 l2 e:LL} {s:List UInt8} {a b c d:Int} (h:NumOk a b c d l0.length):Xi n l0 l1 l2 e s a b c d some=some true:=by
 obtain ⟨f,g,h2,i,j,k,l,m⟩:=h;unfold Xi;simp [f,g,h2,i,j,k,l,m]
def EZ (k:Nat):LL->LL->Prop
 |[],[]=>True
 |r::s,r'::s'=>(∃ nm a b c a' b' c' d,r=[D.str nm,Q4 a,Q4 b,Q4 c,Q4 d]/\r'=[D.str nm,Q4 a',Q4 b',Q4 c',Q4 d]/\NumOk a b c d k/\NumOk a' b' c' d k)/\EZ k s s'
 |_,_=>False
theorem EZ.len {k:Nat}:∀ {s s':LL},EZ k s s'->s.length=s'.length
 |[],[],_=>rfl
 |r::s,r'::s',h=>by simp [EZ.len h.2]
theorem EZ.app {k:Nat}:∀ {s s' t t':LL},EZ k s s'->EZ k t t'->EZ k (s++t) (s'++t')
 |[],[],t,t',_,h=>h
 |r::s,r'::s',t,t',h,h2=>⟨h.1,EZ.app h.2 h2⟩
theorem EZ.secT {k i:Nat} (hi:i<k):∀ {c:Nat} {x x':List RC},KL x->KL x'->x.length=c->x'.length=c->EZ k (Yy (secT i) c x) (Yy (secT i) c x')
 |0,[],[],_,_,_,_=>trivial
 |c+1,a::x,a'::x',h,h',e,e'=>⟨⟨Qhd i (c+1),a.1+2,a.2.1,a.2.2,a'.1+2,a'.2.1,a'.2.2,i,rfl,rfl,
   ⟨by have:=h.1.a0;omega,by have:=h.1.a1;omega,by have:=h.1.b0;omega,by have:=h.1.b1;omega,by have:=h.1.c0;omega,by have:=h.1.c1;omega,by omega,by omega⟩,
   ⟨by have:=h'.1.a0;omega,by have:=h'.1.a1;omega,by have:=h'.1.b0;omega,by have:=h'.1.b1;omega,by have:=h'.1.c0;omega,by have:=h'.1.c1;omega,by omega,by omega⟩⟩,EZ.secT hi h.2 h'.2 (by simpa using e) (by simpa using e')⟩
theorem EZ.secL {k i:Nat}:∀ {c:Nat} {x x':List RC},KL x->KL x'->x.length=c->x'.length=c->EZ k (Yy (secL i) c x) (Yy (secL i) c x')
 |0,[],[],_,_,_,_=>trivial
 |c+1,a::x,a'::x',h,h',e,e'=>⟨⟨nmL i (c+1),a.1,a.2.1,a.2.2,a'.1,a'.2.1,a'.2.2,-1,rfl,rfl,
   ⟨by have:=h.1.a0;omega,by have:=h.1.a1;omega,by have:=h.1.b0;omega,by have:=h.1.b1;omega,by have:=h.1.c0;omega,by have:=h.1.c1;omega,by omega,by omega⟩,
   ⟨by have:=h'.1.a0;omega,by have:=h'.1.a1;omega,by have:=h'.1.b0;omega,by have:=h'.1.b1;omega,by have:=h'.1.c0;omega,by have:=h'.1.c1;omega,by omega,by omega⟩⟩,EZ.secL h.2 h'.2 (by simpa using e) (by simpa using e')⟩
theorem HH:∀ c,KL (hat c)
 |0=>trivial
 |c+1=>⟨⟨by decide,by decide,by decide,by decide,by decide,by decide⟩,HH c⟩
theorem Ny (c:Nat):(hat c).length=c:=by simp [hat]
theorem EV {n:Nat} {l0 l1 L L' e:LL}:∀ {s s':LL} {aj:List (List UInt8)},EZ l0.length s s'->Pf n l0 l1 L e aj s=Pf n l0 l1 L' e aj s'
 |[],[],aj,_=>rfl
 |r::s,r'::s',aj,h=>by
  obtain ⟨⟨nm,a,b,c,a',b',c',d,rfl,rfl,f,h2⟩,g⟩:=h;show (Qb4 n aj nm&&Qbf (Xi n l0 l1 L e nm a b c d some)&&Pf n l0 l1 L e (nm::aj) s)=(Qb4 n aj nm&&Qbf (Xi n l0 l1 L' e nm a' b' c' d some)&&Pf n l0 l1 L' e (nm::aj) s');rw [Q6a f,Q6a h2,EV g]
theorem L7 {n:Nat} {l0 l1 L L' c:LL} (h:L.length=L'.length):∀ {t:LL} {st:List LL},KJ n l0 l1 L c st t=KJ n l0 l1 L' c st t
 |[],st=>rfl
 |r::t,st=>by
  unfold KJ;split
  ·rename_i a ae b be p q;have e:Yc n l0 l1 L c a ae b be p q some=Yc n l0 l1 L' c a ae b be p q some:=by unfold Yc;rw [h]
   rw [e,h];split
   ·rw [L7 h]
   ·rfl
  ·rfl
theorem Q09 {n:Nat} {l0 l1 L L' a:LL} (h:EZ l0.length L L'):Pg n l0 l1 L a=Pg n l0 l1 L' a:=by
 unfold Pg;rw [h.len,EV h,L7 h.len]
theorem sr2 {c0 c1 a:Nat} {b c d:List RC} (e:KL b) (f:KL c) (g:KL d) (h:b.length=c0) (e1:c.length=c1) (e2:d.length=a):EZ 2 (se2 c0 c1 a b c d) (se2 c0 c1 a (hat c0) (hat c1) (hat a)):=
 .app (.app (.secT (by decide) e (HH _) h (Ny _)) (.secT (by decide) f (HH _) e1 (Ny _))) (.secL g (HH _) e2 (Ny _))
theorem sr3 {c0 c1 a b c:Nat} {d e f g h:List RC} (i:KL d) (j:KL e) (k:KL f) (n3:KL g) (l:KL h) (m:d.length=c0) (e1:e.length=c1) (e2:f.length=a) (n:g.length=b) (o:h.length=c):EZ 3 (se3 c0 c1 a b c d e f g h) (se3 c0 c1 a b c (hat c0) (hat c1) (hat a) (hat b) (hat c)):=
 .app (.app (.app (.app (.secT (by decide) i (HH _) m (Ny _)) (.secT (by decide) j (HH _) e1 (Ny _))) (.secT (by decide) k (HH _) e2 (Ny _))) (.secL n3 (HH _) n (Ny _))) (.secL l (HH _) o (Ny _))
theorem Qhn {c0 c1 a:Nat} {b c d:List RC} (e:c0=1\/c0=2) (f:c1=1\/c1=2) (h2:a=1\/a=2) (g:KL b) (h:KL c) (i:KL d) (j:b.length=c0) (e1:c.length=c1) (e2:d.length=a) :
  Pg 400 [nmS 0,nmS 1] (pt2 c0 c1) (se2 c0 c1 a b c d) (li2 c0 c1 a)=true:=by
 rw [<- ok2 e f h2];exact Q09 (sr2 g h i j e1 e2)
theorem QhN {c0 c1 a b c:Nat} {d e f g h:List RC} (i:c0=1\/c0=2) (j:c1=1\/c1=2) (h2:a=1\/a=2) (k:b=1\/b=2) (l:c=1\/c=2) (m:KL d) (n:KL e) (o:KL f) (n3:KL g) (p:KL h) (q:d.length=c0) (e1:e.length=c1) (e2:f.length=a) (r:g.length=b) (s:h.length=c) :
  Pg 400 [nmS 0,nmS 1,nmS 2] (pt3 c0 c1 a) (se3 c0 c1 a b c d e f g h) (li3 c0 c1 a b c)=true:=by
 rw [<- ok3 i j h2 k l];exact Q09 (sr3 m n o n3 p q e1 e2 r s)
end Go.Vx
namespace Go.Vx
variable {R:Type}
def RH (n:Nat) (d e c f:LL) (a b:Int) (K:Bool->oP R):oP R:= K (bif (bif decide (a>=0) then (decide (a<(c.length:Int))) else false) then (bif (b == 0) then true else (b == 1)) else false)
end Go.Vx
namespace Go.Vx
variable {R:Type}
def SM (n:Nat) (a b:Int) (K:Int->Int->oP R):oP R:= bif (b == 0) then K a 1 else K a 0
end Go.Vx
namespace Go.Vx
variable {R:Type}
def Mj (n:Nat) (a b:Int) (K:Int->Int->oP R):oP R:= bif (b == 0) then K a 1 else K a 0
end Go.Vx
namespace Go.Vx
variable {R:Type}
def JP (n:Nat) (h:LL) (c d e f g:Int) (k0:Int->oP R) (k1:Int->Bool->oP R):Nat->Int->oP R
 | 0,_=>none
 | m+1,b=>bif decide (b<c) then gb true (Q1 h b) [] fun a=>gb true (a[0]?) oF fun o=>gb true (a[1]?) oF fun p=>gb true (a[2]?) oF fun q=>gb true (a[3]?) oF fun r=>gb true (a[4]?) oF fun s=>gb true (a[5]?) oF fun u=>gb true (pIw o) 0 fun i=>gb true (pIw p) 0 fun j=>gb true (pIw q) 0 fun k=>gb true (pIw r) 0 fun l=>bif (bif (bif ((i == d)&&(j == e)) then ((k == f)&&(l == g)) else false) then true else (bif ((i == f)&&(j == g)) then ((k == d)&&(l == e)) else false)) then gb true (pIw s) 0 fun t=>k0 t else JP n h c d e f g k0 k1 m (wJ (b+1)) else k1 b (decide (b<c))
def JD (n:Nat) (k l m c:LL) (f g h i:Int) (K:Int->Bool->oP R):oP R:= gb true (SM n f g Tu2) (0,0) fun a=>gb true (Mj n h i Tu2) (0,0) fun d=>gb true (SM n d.1 d.2 Tu2) (0,0) fun e=>JP n c (c.length:Int) a.1 a.2 e.1 e.2 (fun j=>K j true) (fun o p=>K 0 false) n 0
end Go.Vx
namespace Go.Vx
variable {R:Type}
def WK (n:Nat) (c:LL) (b:Int) (d e f g:LL) (k0:oP R) (k1:Int->Bool->oP R):Nat->Int->oP R
 | 0,_=>none
 | m+1,a=>bif decide (a<b) then gb true (Q1 c a) [] fun h=>gb true (h[0]?) oF fun i=>gb true (h[1]?) oF fun j=>gb true (pIw i) 0 fun k=>gb true (pIw j) 0 fun l=>gb true (RH n d e f g k l some) false fun o=>bif !o then k0 else WK n c b d e f g k0 k1 m (wJ (a+1)) else k1 a (decide (a<b))
def Gb (n:Nat) (e:LL) (c:Int) (k0:oP R) (k1:Int->Bool->LL->oP R):Nat->Int->LL->oP R
 | 0,_,_=>none
 | m+1,b,a=>bif decide (b<c) then gb true (Q1 e b) [] fun f=>gb true (f[0]?) oF fun g=>gb true (f[1]?) oF fun o=>gb true (pIw g) 0 fun h=>gb true (inB (a.length) h) () fun p=>gb true (a[h.toNat]?) [] fun i=>gb true (i[0]?) oF fun j=>gb true (Kl j) false fun k=>bif k then k0 else gb true (pIw g) 0 fun d=>gb true (inB (a.length) d) () fun q=>gb true (a[d.toNat]?) [] fun l=>Gb n e c k0 k1 m (wJ (b+1)) (List.set a d.toNat (List.set l 0 (D.bool true))) else k1 b (decide (b<c)) a
def Wz (n:Nat) (e:LL) (b:Int) (f g h i j:LL) (k0:oP R) (k1:Int->Bool->LL->oP R):Nat->Int->LL->oP R
 | 0,_,_=>none
 | m+1,a,c=>bif decide (a<b) then gb true (Q1 e a) [] fun k=>gb true (k[0]?) oF fun o=>gb true (k[1]?) oF fun p=>gb true (Q1 j a) [] fun l=>gb true (l[0]?) oF fun q=>gb true (l[1]?) oF fun r=>gb true (pIw q) 0 fun s=>gb true (pIw r) 0 fun t=>gb true (pIw o) 0 fun u=>gb true (pIw p) 0 fun v=>gb true (JD n f g h i s t u v Tu2) (0,false) fun d=>bif (!d.2) then k0 else gb true (Yf ((c.length+[[Q4 d.1]].length)*8)) () fun z=>Wz n e b f g h i j k0 k1 m (wJ (a+1)) (c++[[Q4 d.1]]) else k1 a (decide (a<b)) c
def KY (n:Nat) (d e b f a:LL) (c:Int) (K:LL->Int->oP R):oP R:= gb true (Zp n d e b f some) 0 fun j=>bif (j != 0) then K [] 1 else jn (fun (k:Bool)=>bif k then K [] 7 else jn (fun (l:Bool)=>bif l then K [] 4 else WK n a (a.length:Int) d e b f (K [] 4) (fun o p=>gb true (bif decide (0<=(b.length:Int))&&decide ((b.length:Int)<=(b.length:Int)) then some () else none) () fun q=>gb true (Yf (Int.toNat (b.length:Int)*1)) () fun r=>Gb n a (a.length:Int) (K [] 5) (fun s t u=>gb true (slB (a.length) (some 1) none) (0,0) fun g=>Wz n (cut a g) ((List.length (cut a g):Nat):Int) d e b f a (K [] 11) (fun v x m=>K m 0) n 0 []) n 0 (List.replicate (Int.toNat (b.length:Int)) [D.bool false])) n 0) fun h=>bif decide (c<0) then h (decide (c<0)) else h (decide ((wJ ((a.length:Int)-c))<2))) fun i=>bif (decide ((a.length:Int)>24)) then i (decide ((a.length:Int)>24)) else i (decide (c>2))
end Go.Vx
namespace Go.Vx
variable {R:Type}
def Tv (n:Nat) (b c d e f:LL) (g:Int) (K:Int->oP R):oP R:= gb true (KY n b c d e f g Tu2) ([],0) fun a=>K a.2
end Go.Vx
namespace Go.Vx
def Kt (s u x y:Nat) (up:Bool):LL:=
 bif up then [Q4 x,Q4 0]::((ups s u).map fun k=>[Q4 (k:Nat),Q4 0])++[[Q4 y,Q4 0]] else [Q4 y,Q4 1]::((ups s u).reverse.map fun k=>[Q4 (k:Nat),Q4 1])++[[Q4 x,Q4 1]]
theorem Qu {α:Type} {r:Nat->Int->α} {N:Nat} {e:α} (hs:∀ m h,h<N->r (m+1) (h:Int)=r m ((h+1:Nat):Int)) (he:∀ m,r (m+1) (N:Int)=e):∀ (k m h:Nat),h+k=N->k<m->r m (h:Int)=e
 |0,m+1,h,hh,_=>by rw [show h=N by omega];exact he m
 |k+1,m+1,h,hh,hm=>by rw [hs m h (by omega)];exact Qu hs he k m (h+1) (by omega) (by omega)
section
variable {R:Type} {n:Nat} {a b a' b' L L' d:LL} (h:L.length=L'.length)
include h
theorem Qdm {s:LL} {w:Int} {k0:oP R} {k1:Int->Bool->oP R}:∀ (m:Nat) (i:Int),WK n s w a b L d k0 k1 m i=WK n s w a' b' L' d k0 k1 m i
 |0,_=>rfl
 |m+1,i=>by
  unfold WK;simp only [RH,h,Qdm m]
omit h in
theorem Qg4 {x y z t:Int} {K:Int->Bool->oP R}:JD n a b L d x y z t K=JD n a' b' L' d x y z t K:=rfl
omit h in
theorem Qf4 {q s:LL} {w:Int} {k0:oP R} {k1:Int->Bool->LL->oP R}:∀ (m:Nat) (i:Int) (p:LL),Wz n q w a b L d s k0 k1 m i p=Wz n q w a' b' L' d s k0 k1 m i p
 |0,_,_=>rfl
 |m+1,i,p=>by
  unfold Wz;simp only [Qg4 (a:=a) (b:=b) (L:=L) (a':=a') (b':=b') (L':=L'),Qf4 m]
end
def Q8p (St Pt L d s:LL):Option (LL × Int):=
 WK 400 s ((List.length s:Nat):Int) St Pt L d (some ([],4))
  (fun _ _=>
  gb true (bif decide (0<=((List.length L:Nat):Int))&&decide (((List.length L:Nat):Int)<=((List.length L:Nat):Int)) then some () else none) () fun c=>
  gb true (Yf (Int.toNat ((List.length L:Nat):Int)*1)) () fun e=>
  Gb 400 s ((List.length s:Nat):Int) (some ([],5))
   (fun _ _ _=>
   gb true (slB (List.length s) (some (1:Int)) none) (0,0) fun a=>
   Wz 400 (cut s a) ((List.length (cut s a):Nat):Int) St Pt L d s (some ([],11)) (fun _ _ b=>some (b,0)) 400 (0:Int) [])
   400 (0:Int) (List.replicate (Int.toNat ((List.length L:Nat):Int)) [D.bool false]))
  400 (0:Int)
def rtB (N:Nat) (Li s:LL):Bool:=match Q8p [] [] (List.replicate N []) Li s with
 |some (_,e)=>e == 0
 |none=>false
theorem Q8C {St Pt Se Li s:LL} {N:Nat} (aj:Pg 400 St Pt Se Li=true) (hN:Se.length=N) (h2:2<=s.length) (g:s.length<=24) (hr:rtB N Li s=true) :
  ∃ ak,KY 400 St Pt Se Li s 0 Tu2=some (ak,0):=by
 have hc:Zp 400 St Pt Se Li (some:Int->Option Int)=some 0:=by unfold Zp;rw [aj];rfl
 have hL:Se.length=(List.replicate N ([]:List D)).length:=by simp [hN]
 have e:KY 400 St Pt Se Li s 0 Tu2=Q8p [] [] (List.replicate N []) Li s:=by
  unfold KY;rw [hc,Q0,Q9 (by decide)];dsimp only [jn];rw [Q9 (c:=decide (((List.length s:Nat):Int)>24)) (by simp;omega),Q9 (c:=decide ((0:Int)>2)) (by decide),Q9 (c:=decide ((0:Int)<0)) (by decide),Q9 (c:=decide (wJ (((List.length s:Nat):Int)-0)<2)) (by rw [Q7 (by omega) (by omega)];simp;omega)];unfold Q8p;simp only [Qf4 (a:=St) (b:=Pt) (L:=Se) (a':=[]) (b':=[]) (L':=List.replicate N []),Qdm (a:=St) (b:=Pt) (L:=Se) (a':=[]) (b':=[]) (L':=List.replicate N []) hL,hL]
 rw [e];unfold rtB at hr;split at hr
 ·rename_i p e' hh;simp only [beq_iff_eq] at hr;subst hr;exact ⟨p,hh⟩
 ·cases hr
theorem Q5d {R:Type} {St Pt Se Li s:LL} {N:Nat} (aj:Pg 400 St Pt Se Li=true) (hN:Se.length=N) (h2:2<=s.length) (a:s.length<=24) (hr:rtB N Li s=true) (K:Int->oP R):Tv 400 St Pt Se Li s 0 K=K 0:=by
 obtain ⟨p,e⟩:=Q8C aj hN h2 a hr;unfold Tv;rw [e,Q0]
def Qb6 (N:Nat) (Li:LL) (s u k c k' c':Nat):Bool:=
 (ups k c).all fun x=>(ups k' c').all fun y=>rtB N Li (Kt s u x y true)&&rtB N Li (Kt s u x y false)
theorem Qhx {c0 c1 a:Nat} (b:c0=1\/c0=2) (c:c1=1\/c1=2) (h2:a=1\/a=2):Qb6 (c0+c1+a) (li2 c0 c1 a) (c0+c1) a 0 c0 c0 c1=true:=by
 rcases b with rfl | rfl <;> rcases c with rfl | rfl <;> rcases h2 with rfl | rfl <;> kernel_rfl
theorem QhF {c0 c1 a b c:Nat} (d:c0=1\/c0=2) (e:c1=1\/c1=2) (h2:a=1\/a=2) (f:b=1\/b=2) (g:c=1\/c=2) :
  (Qb6 (c0+c1+a+b+c) (li3 c0 c1 a b c) (c0+c1+a) b 0 c0 c0 c1&&Qb6 (c0+c1+a+b+c) (li3 c0 c1 a b c) (c0+c1+a+b) c c0 c1 (c0+c1) a)=true:=by
 rcases d with rfl | rfl <;> rcases e with rfl | rfl <;> rcases h2 with rfl | rfl <;> rcases f with rfl | rfl <;> rcases g with rfl | rfl <;> kernel_rfl
end Go.Vx
namespace Go.Vx
variable {R:Type}
def Qd (n:Nat) (a0:LL) (a1:Int) (K:LL->oP R):oP R:= bif Nat.beq a0.length 1&&decide (0<=a1)&&decide (a1<=100000) then K (List.replicate a1.toNat (a0.headD [])) else none
end Go.Vx
namespace Go.Vx
variable {R:Type}
def Wa (n:Nat) (e:LL) (d:Int) (f:LL) (k0:Int->Bool->LL->oP R):Nat->Int->LL->oP R
 | 0,_,_=>none
 | m+1,a,b=>bif decide (a<d) then gb true (Q1 e a) [] fun g=>gb true (g[0]?) oF fun o=>gb true (g[1]?) oF fun p=>gb true (pIw o) 0 fun q=>gb true (Q1 f q) [] fun c=>gb true (c[0]?) oF fun x=>gb true (c[1]?) oF fun h=>gb true (c[2]?) oF fun r=>gb true (c[3]?) oF fun s=>gb true (c[4]?) oF fun y=>gb true (pIw r) 0 fun i=>gb true (pIw s) 0 fun j=>gb true (pIw p) 0 fun t=>bif (t == 1) then gb true (pIw h) 0 fun u=>gb true (Qd n [[Q4 i,Q4 (wJ (0-j))]] u some) [] fun k=>gb true (Yf ((b.length+k.length)*16)) () fun z=>Wa n e d f k0 m (wJ (a+1)) (b++k) else gb true (pIw h) 0 fun v=>gb true (Qd n [[Q4 i,Q4 j]] v some) [] fun l=>gb true (Yf ((b.length+l.length)*16)) () fun aa=>Wa n e d f k0 m (wJ (a+1)) (b++l) else k0 a (decide (a<d)) b
def Si (n:Nat) (g h b i a:LL) (c:Int) (K:LL->Int->Int->oP R):oP R:= gb true (Tv n g h b i a c some) 0 fun d=>bif (d != 0) then K [] 0 d else gb true (slB (a.length) none (some (wJ ((a.length:Int)-c)))) (0,0) fun e=>Wa n (cut a e) ((List.length (cut a e):Nat):Int) b (fun p q f=>bif (decide ((f.length:Int)>4000)) then K [] 0 7 else gb true (Q1 a 0) [] fun j=>gb true (j[0]?) oF fun k=>gb true (pIw k) 0 fun l=>gb true (Q1 b l) [] fun m=>gb true (m[1]?) oF fun o=>gb true (pIw o) 0 fun i64=>K f i64 0) n 0 []
end Go.Vx
namespace Go.Vx
variable {R:Type}
def Ut (n:Nat) (e:List UInt8) (a b c d:Int) (K:Bool->oP R):oP R:= K (bif (bif (bif (bif (bif (bif (bif decide (a>=1) then (decide (a<=40)) else false) then (decide (b>=1000)) else false) then (decide (b<=100000)) else false) then (decide (c>=100)) else false) then (decide (c<=2000)) else false) then (decide (d>=100)) else false) then (decide (d<=2000)) else false)
end Go.Vx
namespace Go.Vx
variable {R:Type}
def Uf (n:Nat) (a:LL) (b:Int) (K:LL->oP R):oP R:= gb true (slB (a.length) none (some (wJ ((a.length:Int)-b)))) (0,0) fun c=>K (cut a c)
end Go.Vx
namespace Go.Vx
variable {R:Type}
def WC (n:Nat) (d:LL) (b:Int) (e:LL) (c:Int) (k0:oP R) (k1:Int->Bool->oP R):Nat->Int->oP R
 | 0,_=>none
 | m+1,a=>bif decide (a<b) then gb true (Q1 d a) [] fun f=>gb true (f[0]?) oF fun g=>gb true (f[1]?) oF fun l=>gb true (pIw g) 0 fun h=>gb true (Q1 e h) [] fun i=>gb true (i[1]?) oF fun j=>gb true (pIw j) 0 fun k=>bif (decide (k<(if 2<c then c else 2))) then k0 else WC n d b e c k0 k1 m (wJ (a+1)) else k1 a (decide (a<b))
def KX (n:Nat) (h i c j d:LL) (e:Int) (k:List UInt8) (f l m o:Int) (K:LL->Int->Int->oP R):oP R:= gb true (Si n h i c j d e Tu3) ([],0,0) fun a=>bif (a.2.2 != 0) then K [] 0 a.2.2 else gb true (Ut n k f l m o some) false fun b=>bif !b then K [] 0 1 else gb true (Uf n d e some) [] fun g=>WC n g (g.length:Int) c f (K [] 0 12) (fun q r=>K a.1 a.2.1 0) n 0
end Go.Vx
namespace Go.Vx
variable {R:Type}
def G7 (n:Nat) (b c d e f:LL) (g:Int) (h:List UInt8) (i j k l:Int) (K:Int->oP R):oP R:= gb true (KX n b c d e f g h i j k l Tu3) ([],0,0) fun a=>K a.2.2
end Go.Vx
namespace Go.Vx
structure SecN (a b c:Int):Prop where
 a0:2<=a
 a1:a<=12
 b0:5000<=b
 b1:b<=35000
 c0 : -10<=c
 c1:c<=10
def DB (Se:LL) (row:List D):Prop:=∃ (x d:Int) (nm:List UInt8) (a b c st:Int),row=[Q4 x,Q4 d]/\Q1 Se x=some [D.str nm,Q4 a,Q4 b,Q4 c,Q4 st]/\SecN a b c/\(d=0\/d=1)
def PO (Se:LL):List D->LL
 |[.int _ x,.int _ d]=>match Q1 Se x with
  |some [_,.int _ a,.int _ b,.int _ c,_]=>List.replicate a.toNat [Q4 b,Q4 (bif d == 1 then -c else c)]
  |_=>[]
 |_=>[]
def Yi (Se s:LL):LL:=s.flatMap (PO Se)
theorem H3 {Se:LL} {x d a b c st:Int} {nm:List UInt8} (h:Q1 Se x=some [D.str nm,Q4 a,Q4 b,Q4 c,Q4 st]):PO Se [Q4 x,Q4 d]=List.replicate a.toNat [Q4 b,Q4 (bif d == 1 then -c else c)]:=by
 grind [PO]
theorem YC {α:Type} {l:List α} {h:Nat} {a:α} (e:l[h]? = some a):l.take (h+1)=l.take h++[a]:=by grind [List.take_add_one]
theorem NN {Se s:LL} {h:Nat} {row:List D} (e:s[h]? = some row):Yi Se (s.take (h+1))=Yi Se (s.take h)++PO Se row:=by
 rw [YC e];simp [Yi]
theorem Pu {Se:LL}:∀ {s:LL},(∀ row∈s,DB Se row)->(Yi Se s).length<=12*s.length/\2*s.length<=(Yi Se s).length
 |[],_=>by simp [Yi]
 |row::s,h=>by
  obtain ⟨x,d,nm,a,b,c,st,rfl,hs,hn,_⟩:=h _ (List.mem_cons_self ..);have e:=Pu fun r hr=>h r (List.mem_cons_of_mem _ hr)
  have h2:=hn.a0;have f:=hn.a1;simp only [Yi,List.flatMap_cons,H3 hs,List.length_append,List.length_replicate,List.length_cons] at e ⊢;omega
section
variable {R:Type} {n:Nat}
theorem Qho {a:Int} {x y:D} (b:0<=a) (c:a<=100000) (K:LL->oP R):Qd n [[x,y]] a K=K (List.replicate a.toNat [x,y]):=by
 simp_all [Qd,QX]
theorem Qam {Se s:LL} {k0:Int->Bool->LL->oP R} (hs:∀ row∈s,DB Se row) (hl:s.length<=30):∀ {m:Nat},s.length<m->Wa n s ((s.length:Nat):Int) Se k0 m 0 []=k0 ((s.length:Nat):Int) false (Yi Se s):=by
 intro m hm;have hc:=fun h:Nat=>(Pu (s:=s.take h) fun r hr=>hs r (List.mem_of_mem_take hr)).1
 refine Qu (r:=fun m h=>Wa n s ((s.length:Nat):Int) Se k0 m h (Yi Se (s.take h.toNat))) (N:=s.length) (fun m h hh=>?_) (fun m=>?_) s.length m 0 (by omega) hm
 ·have e:=QiT hh;obtain ⟨x,d,nm,a,b,c,st,hx,ak,hn,hd⟩:=hs _ (QiY hh);rw [hx] at e;have a0:=hn.a0;have a1:=hn.a1;have ao:=hc h;simp only [Int.toNat_natCast,NN e,H3 ak];simp only [List.length_take] at ao;rw [Wa,QX (by simpa using hh),show Q1 s (h:Int)=some [Q4 x,Q4 d] by simp [Q1,e],Q0];dsimp only [List.getElem?_cons_zero,List.getElem?_cons_succ];rw [Q0,Q0,Q3,Q0,ak,Q0];dsimp only [List.getElem?_cons_zero,List.getElem?_cons_succ];have aj:∀ r:List D,Yf (((Yi Se (s.take h)).length+(List.replicate a.toNat r).length)*16)=some ():=fun r=>XF (by simp only [List.length_replicate];omega)
  simp -implicitDefEqProofs only [Q0,Q3,Qho (show (0:Int)<=a by omega) (show a<=100000 by omega),aj];rw [Q7 (x:=(h:Int)+1) (by omega) (by omega),show (h:Int)+1=((h+1:Nat):Int) by omega,Q7 (x:=0-c) (by have:=hn.c1;omega) (by have:=hn.c0;omega),Int.zero_sub];cases f:d == (1:Int) <;> rfl
 simp [Int.toNat_natCast,Wa,Q9,List.take_length]
theorem Q9l {s:LL} (h:s.length<=1000):slB s.length none (some (wJ (((s.length:Nat):Int)-(0:Int))))=some (0,s.length)/\cut s (0,s.length)=s:=by
 grind [Q7,slB,cut]
def HV (Se s:LL):Int:=match s with
 |[.int _ x,_]::_=>match Q1 Se x with
  |some [_,.int _ a,_,_,_]=>a
  |_=>0
 |_=>0
theorem Qea {St Pt Se Li s:LL} {N:Nat} (aj:Pg 400 St Pt Se Li=true) (hN:Se.length=N) (h2:2<=s.length) (e:s.length<=24) (hr:rtB N Li s=true) (ho:∀ row∈s,DB Se row) (K:LL->Int->Int->oP R) :
  Si 400 St Pt Se Li s 0 K=K (Yi Se s) (HV Se s) 0:=by
 have hl:=(Pu ho).1;obtain ⟨row,rest,rfl⟩:∃ row rest,s=row::rest:=by
  cases s with
  |nil=>simp at h2
  |cons a b=>simp_all
 obtain ⟨x,d,nm,a,b,c,st,rfl,hs,_,_⟩:=ho row (by simp);have hf:HV Se ([Q4 x,Q4 d]::rest)=a:=by grind [HV]
 generalize hS:[Q4 x,Q4 d]::rest=s at *
 obtain ⟨e1,e2⟩:=Q9l (s:=s) (by omega);unfold Si;rw [Q5d aj hN h2 e hr,Q0,Q9 (by decide),e1,Q0,e2,Qam ho (by omega) (by omega),Q9 (by simp;omega),show Q1 s (0:Int)=some [Q4 x,Q4 d] by rw [<- hS];rfl,Q0]
 grind [List.getElem?_cons_zero,List.getElem?_cons_succ,Q0,Q3]
theorem QeY {Se s:LL} {tl:Int} {k0:oP R} {k1:Int->Bool->oP R} (ht:tl<=2) (hb:s.length<=30) (hs:∀ row∈s,DB Se row) {m:Nat} (hm:s.length<m) :
  WC n s ((s.length:Nat):Int) Se tl k0 k1 m 0=k1 (s.length:Int) false:=by
 refine Qu (r:=fun m h=>WC n s ((s.length:Nat):Int) Se tl k0 k1 m h) (N:=s.length) (fun m h hh=>?_) (fun m=>?_) s.length m 0 (by omega) hm
 ·obtain ⟨x,d,an,a,b,c,st,hx,aj,hn,_⟩:=hs _ (QiY hh);have a0:=hn.a0;rw [WC,QX (by simp_all),show Q1 s (h:Int)=some [Q4 x,Q4 d] by grind [Q1,List.getElem?_eq_getElem],Q0];dsimp only [List.getElem?_cons_zero,List.getElem?_cons_succ];rw [Q0,Q0,Q3,Q0,aj,Q0];dsimp only [List.getElem?_cons_zero,List.getElem?_cons_succ];rw [Q0,Q3,Q0,Q9 (by grind),Q7 (x:=(h:Int)+1) (by omega) (by omega),show (h:Int)+1=((h+1:Nat):Int) by omega]
 simp [WC,Q9]
structure StkN (tl sp ac br:Int):Prop where
 t1:1<=tl
 t2:tl<=2
 s1:10000<=sp
 s2:sp<=25000
 a1:400<=ac
 a2:ac<=800
 b1:400<=br
 b2:br<=800
theorem B7 {nm:List UInt8} {tl sp ac br:Int} (h:StkN tl sp ac br) (K:Bool->oP R):Ut n nm tl sp ac br K=K true:=by
 obtain ⟨t1,t2,s1,s2,a1,a2,b1,b2⟩:=h
 grind [Ut]
theorem AX {s:LL} (a:s.length<=24) (K:LL->oP R):Uf 400 s 0 K=K s:=by
 grind [Q9l,Uf,Q0]
theorem Qhf {St Pt Se Li s:LL} {N:Nat} {nm:List UInt8} {tl sp ac br:Int} (aj:Pg 400 St Pt Se Li=true) (hN:Se.length=N) (h2:2<=s.length) (a:s.length<=24) (hr:rtB N Li s=true) (ho:∀ row∈s,DB Se row)
  (hk:StkN tl sp ac br) (K:LL->Int->Int->oP R):KX 400 St Pt Se Li s 0 nm tl sp ac br K=K (Yi Se s) (HV Se s) 0:=by
 unfold KX;rw [Qea aj hN h2 a hr ho,Q0,Q9 (by rfl),B7 hk,Q0,Q9 (by decide),AX a,Q0,QeY hk.t2 (by omega) ho (by omega)]
theorem QcJ {St Pt Se Li s:LL} {N:Nat} {nm:List UInt8} {tl sp ac br:Int} (aj:Pg 400 St Pt Se Li=true) (hN:Se.length=N) (h2:2<=s.length) (a:s.length<=24) (hr:rtB N Li s=true) (ho:∀ row∈s,DB Se row)
  (hk:StkN tl sp ac br) (K:Int->oP R):G7 400 St Pt Se Li s 0 nm tl sp ac br K=K 0:=by
 grind [G7,Qhf,Q0]
end
end Go.Vx
namespace Go.Vx
variable {R:Type}
def MJ (n:Nat) (a0:Int) (K:Bool->oP R):oP R:= K (bif (bif decide (a0>=97) then (decide (a0<=122)) else false) then true else (bif decide (a0>=65) then (decide (a0<=90)) else false))
end Go.Vx
namespace Go.Vx
variable {R:Type}
def Q0e (n:Nat) (a0:Int) (K:Bool->oP R):oP R:= K (bif decide (a0>=48) then (decide (a0<=57)) else false)
end Go.Vx
namespace Go.Vx
variable {R:Type}
def RX (n:Nat) (b:List UInt8) (k0:oP R) (k1:Int->Bool->oP R):Nat->Int->oP R
 | 0,_=>none
 | m+1,a=>bif (decide (a<(b.length:Int))) then gb true (VP b a) 0 fun e=>gb true (MJ n e some) false fun c=>gb (!c) (VP b a) 0 fun f=>gb (!c) (Q0e n f some) false fun d=>gb (bif !c then (!d) else false) (VP b a) 0 fun g=>bif (bif (bif !c then (!d) else false) then (g != 95) else false) then k0 else RX n b k0 k1 m (wJ (a+1)) else k1 a (decide (a<(b.length:Int)))
def Ng (n:Nat) (a0:List UInt8) (K:Bool->oP R):oP R:= gb (!(bif (decide ((a0.length:Int)<1)) then true else (decide ((a0.length:Int)>12)))) (VP a0 0) 0 fun a=>gb (!(bif (decide ((a0.length:Int)<1)) then true else (decide ((a0.length:Int)>12)))) (MJ n a some) false fun b=>bif (bif (bif (decide ((a0.length:Int)<1)) then true else (decide ((a0.length:Int)>12))) then true else (!b)) then K false else RX n a0 (K false) (fun c d=>K true) n 1
end Go.Vx
namespace Go.Vx
variable {R:Type}
def Sv (n:Nat) (c:LL) (b:Int) (k0:oP R) (k1:Int->Bool->oP R):Nat->Int->oP R
 | 0,_=>none
 | m+1,a=>bif decide (a<b) then gb true (Q1 c a) [] fun d=>gb true (d[0]?) oF fun e=>gb true (RD e) [] fun f=>gb true (Q1 c b) [] fun g=>gb true (g[0]?) oF fun h=>gb true (RD h) [] fun i=>bif (f == i) then k0 else Sv n c b k0 k1 m (wJ (a+1)) else k1 a (decide (a<b))
def NA (n:Nat) (a0:LL) (a1:Int) (K:Int->oP R):oP R:= gb true (Q1 a0 a1) [] fun a=>gb true (a[0]?) oF fun b=>gb true (RD b) [] fun c=>gb true (Ng n c some) false fun d=>bif !d then K 3 else Sv n a0 a1 (K 5) (fun e f=>K 0) n 0
end Go.Vx
namespace Go.Vx
variable {R:Type}
def YI (n:Nat) (b:LL) (k0:Int->Bool->LL->oP R):Nat->Int->LL->oP R
 | 0,_,_=>none
 | m+1,a,c=>bif (decide (a<(b.length:Int))) then gb true (Q1 b a) [] fun e=>gb true (e[0]?) oF fun f=>gb true (RD f) [] fun d=>gb true (Yf ((c.length+[[D.str d]].length)*16)) () fun g=>YI n b k0 m (wJ (a+1)) (c++[[D.str d]]) else k0 a (decide (a<(b.length:Int))) c
def Ky (n:Nat) (c d a e:LL) (K:LL->oP R):oP R:= YI n a (fun f g b=>K b) n 0 []
end Go.Vx
namespace Go.Vx
variable {R:Type}
def K7 (n:Nat) (a0 a1 a2:Int) (K:Bool->oP R):oP R:= K (bif decide (a0>=a1) then (decide (a0<=a2)) else false)
end Go.Vx
namespace Go.Vx
variable {R:Type}
def C7 (n:Nat) (c d e f g h a b:Int) (K:Bool->oP R):oP R:= K (bif (bif (c == a) then (d == b) else false) then true else (bif (e == a) then (f == b) else false))
end Go.Vx
namespace Go.Vx
variable {R:Type}
def P1 (n:Nat) (d:Int) (e:LL) (f g:Int) (k0:Int->Int->Bool->D->D->D->D->D->D->oP R):Nat->Int->Int->D->D->D->D->D->D->oP R
 | 0,_,_,_,_,_,_,_,_=>none
 | m+1,h,a,i,j,k,l,o,p=>bif decide (a<d) then gb true (Q1 e a) [] fun b=>gb true (b[0]?) oF fun q=>gb true (b[1]?) oF fun r=>gb true (b[2]?) oF fun s=>gb true (b[3]?) oF fun t=>gb true (b[4]?) oF fun u=>gb true (b[5]?) oF fun v=>gb true (pIw q) 0 fun x=>gb true (pIw r) 0 fun y=>gb true (pIw s) 0 fun z=>gb true (pIw t) 0 fun aa=>gb true (pIw u) 0 fun ab=>gb true (pIw v) 0 fun ac=>gb true (C7 n x y z aa ab ac f g some) false fun ad=>bif ad then gb true (Q1 e a) [] fun c=>gb true (c[0]?) oF fun ae=>gb true (c[1]?) oF fun ag=>gb true (c[2]?) oF fun ah=>gb true (c[3]?) oF fun ai=>gb true (c[4]?) oF fun aj=>gb true (c[5]?) oF fun ak=>P1 n d e f g k0 m (wJ (h+1)) (wJ (a+1)) ae ag ah ai aj ak else P1 n d e f g k0 m h (wJ (a+1)) i j k l o p else k0 h a (decide (a<d)) i j k l o p
def CI (n:Nat) (p q r f:LL) (a1 h i:Int) (K:Bool->oP R):oP R:= gb true (Q1 f a1) [] fun b=>gb true (b[0]?) oF fun s=>gb true (b[1]?) oF fun t=>gb true (b[2]?) oF fun u=>gb true (b[3]?) oF fun v=>gb true (b[4]?) oF fun g=>gb true (b[5]?) oF fun j=>P1 n a1 f h i (fun a x y z aa ab ac k l=>gb ((!(a == 0))&&(a == 1)) (pIw g) 0 fun c=>gb ((!(a == 0))&&(bif (a == 1) then (decide (c>=0)) else false)) (pIw k) 0 fun d=>gb ((!(a == 0))&&(bif (a == 1) then (decide (c>=0)) else false)) (pIw g) 0 fun e=>gb ((!(a == 0))&&(bif (bif (a == 1) then (decide (c>=0)) else false) then (d == e) else false)) (pIw l) 0 fun m=>gb ((!(a == 0))&&(bif (bif (a == 1) then (decide (c>=0)) else false) then (d == e) else false)) (pIw j) 0 fun o=>K (bif (a == 0) then true else (bif (bif (bif (a == 1) then (decide (c>=0)) else false) then (d == e) else false) then (m != o) else false))) n 0 0 (Q4 0) (Q4 0) (Q4 0) (Q4 0) (Q4 0) (Q4 0)
end Go.Vx
namespace Go.Vx
variable {R:Type}
def Kw (n:Nat) (e:Int) (f:LL) (g h i j:Int) (k0:oP R) (k1:Int->Bool->oP R):Nat->Int->oP R
 | 0,_=>none
 | m+1,b=>bif decide (b<e) then gb true (Q1 f b) [] fun c=>gb true (c[0]?) oF fun k=>gb true (c[1]?) oF fun l=>gb true (c[2]?) oF fun o=>gb true (c[3]?) oF fun p=>gb true (c[4]?) oF fun q=>gb true (c[5]?) oF fun r=>gb true (pIw k) 0 fun s=>gb true (pIw l) 0 fun t=>gb true (pIw o) 0 fun u=>gb true (pIw p) 0 fun v=>gb true (pIw q) 0 fun x=>gb true (pIw r) 0 fun y=>gb true (C7 n s t u v x y g h some) false fun a=>gb a (Q1 f b) [] fun d=>gb a (d[0]?) oF fun z=>gb a (d[1]?) oF fun aa=>gb a (d[2]?) oF fun ab=>gb a (d[3]?) oF fun ac=>gb a (d[4]?) oF fun ad=>gb a (d[5]?) oF fun ae=>gb a (pIw z) 0 fun ag=>gb a (pIw aa) 0 fun ah=>gb a (pIw ab) 0 fun ai=>gb a (pIw ac) 0 fun aj=>gb a (pIw ad) 0 fun ak=>gb a (pIw ae) 0 fun al=>gb a (C7 n ag ah ai aj ak al i j some) false fun am=>bif (bif a then am else false) then k0 else Kw n e f g h i j k0 k1 m (wJ (b+1)) else k1 b (decide (b<e))
def JC (n:Nat) (p i g h:LL) (a1:Int) (K:Int->oP R):oP R:= gb true (Q1 h a1) [] fun e=>gb true (e[0]?) oF fun q=>gb true (e[1]?) oF fun r=>gb true (e[2]?) oF fun s=>gb true (e[3]?) oF fun t=>gb true (e[4]?) oF fun u=>gb true (e[5]?) oF fun v=>gb true (pIw q) 0 fun z=>gb true (K7 n z 0 (wJ ((g.length:Int)-1)) some) false fun a=>gb (!(!a)) (pIw s) 0 fun aa=>gb (!(!a)) (K7 n aa 0 (wJ ((g.length:Int)-1)) some) false fun b=>gb (!(bif !a then true else (!b))) (pIw r) 0 fun ab=>gb (!(bif !a then true else (!b))) (K7 n ab 0 1 some) false fun c=>gb (!(bif (bif !a then true else (!b)) then true else (!c))) (pIw t) 0 fun ac=>gb (!(bif (bif !a then true else (!b)) then true else (!c))) (K7 n ac 0 1 some) false fun d=>gb (!(bif (bif (bif !a then true else (!b)) then true else (!c)) then true else (!d))) (pIw u) 0 fun ad=>gb (!(bif (bif (bif !a then true else (!b)) then true else (!c)) then true else (!d))) (K7 n ad (-1:Int) (wJ ((i.length:Int)-1)) some) false fun f=>gb (!(bif (bif (bif (bif !a then true else (!b)) then true else (!c)) then true else (!d)) then true else (!f))) (pIw v) 0 fun ae=>gb (!(bif (bif (bif (bif !a then true else (!b)) then true else (!c)) then true else (!d)) then true else (!f))) (K7 n ae 0 1 some) false fun j=>gb (!(bif (bif (bif (bif (bif !a then true else (!b)) then true else (!c)) then true else (!d)) then true else (!f)) then true else (!j))) (pIw u) 0 fun x=>gb ((!(bif (bif (bif (bif (bif !a then true else (!b)) then true else (!c)) then true else (!d)) then true else (!f)) then true else (!j)))&&(decide (x<0))) (pIw v) 0 fun ag=>bif (bif (bif (bif (bif (bif (bif !a then true else (!b)) then true else (!c)) then true else (!d)) then true else (!f)) then true else (!j)) then true else (bif decide (x<0) then (ag != 0) else false)) then K 4 else gb true (pIw q) 0 fun k=>gb true (pIw r) 0 fun l=>gb true (pIw s) 0 fun m=>gb true (pIw t) 0 fun o=>bif ((k == m)&&(l == o)) then K 1 else Kw n a1 h k l m o (K 5) (fun ai aj=>gb true (CI n p i g h a1 k l some) false fun y=>gb (!(!y)) (CI n p i g h a1 m o some) false fun ah=>bif (bif !y then true else (!ah)) then K 11 else K 0) n 0
end Go.Vx
namespace Go.Vx
variable {R:Type}
def Sq (n:Nat) (h2:LL) (k0:Int->oP R) (k1:Int->Bool->oP R):Nat->Int->oP R
 | 0,_=>none
 | m+1,a=>bif (decide (a<(h2.length:Int))) then gb true (NA n h2 a some) 0 fun b=>bif (b != 0) then k0 b else Sq n h2 k0 k1 m (wJ (a+1)) else k1 a (decide (a<(h2.length:Int)))
def Sx (n:Nat) (b:LL) (k0:Int->oP R) (k1:Int->Bool->oP R):Nat->Int->oP R
 | 0,_=>none
 | m+1,a=>bif (decide (a<(b.length:Int))) then gb true (NA n b a some) 0 fun c=>bif (c != 0) then k0 c else Sx n b k0 k1 m (wJ (a+1)) else k1 a (decide (a<(b.length:Int)))
def J5 (n:Nat) (g h e:LL) (k0:Int->oP R) (k1:Int->Bool->oP R):Nat->Int->oP R
 | 0,_=>none
 | m+1,b=>bif (decide (b<(e.length:Int))) then gb true (NA n g b some) 0 fun i=>bif (i != 0) then k0 i else gb true (Q1 e b) [] fun c=>gb true (c[0]?) oF fun u=>gb true (c[1]?) oF fun j=>gb true (c[2]?) oF fun k=>gb true (c[3]?) oF fun l=>gb true (c[4]?) oF fun o=>gb true (pIw j) 0 fun p=>gb true (K7 n p 1 400 some) false fun a=>gb (!(!a)) (pIw k) 0 fun q=>gb (!(!a)) (K7 n q 1000 100000 some) false fun d=>gb (!(bif !a then true else (!d))) (pIw l) 0 fun r=>gb (!(bif !a then true else (!d))) (K7 n r (-40:Int) 40 some) false fun f=>gb (!(bif (bif !a then true else (!d)) then true else (!f))) (pIw o) 0 fun s=>gb (!(bif (bif !a then true else (!d)) then true else (!f))) (K7 n s (-1:Int) (wJ ((h.length:Int)-1)) some) false fun t=>bif (bif (bif (bif !a then true else (!d)) then true else (!f)) then true else (!t)) then k0 4 else J5 n g h e k0 k1 m (wJ (b+1)) else k1 b (decide (b<(e.length:Int)))
def VX (n:Nat) (c d e b:LL) (k0:Int->oP R) (k1:Int->Bool->oP R):Nat->Int->oP R
 | 0,_=>none
 | m+1,a=>bif (decide (a<(b.length:Int))) then gb true (JC n c d e b a some) 0 fun f=>bif (f != 0) then k0 f else VX n c d e b k0 k1 m (wJ (a+1)) else k1 a (decide (a<(b.length:Int)))
def JR (n:Nat) (a c b d:LL) (K:Int->oP R):oP R:= bif (bif (bif (bif (decide ((a.length:Int)>24)) then true else (decide ((c.length:Int)>48))) then true else (decide ((b.length:Int)>96))) then true else (decide ((d.length:Int)>192))) then K 7 else bif ((b.length:Int) == 0) then K 1 else Sq n a (fun e=>K e) (fun j k=>Sx n c (fun f=>K f) (fun l m=>gb true (Ky n a c b d some) [] fun g=>J5 n g a b (fun h=>K h) (fun o p=>VX n a c b d (fun i=>K i) (fun q r=>K 0) n 0) n 0) n 0) n 0
end Go.Vx
namespace Go.Vx
variable {R:Type}
def Hi (n:Nat) (a0 a1 a2:Int) (K:Bool->oP R):oP R:= K (bif decide (a0>=a1) then (decide (a0<=a2)) else false)
end Go.Vx
namespace Go.Vx
variable {R:Type}
def Zd (n:Nat) (c:LL) (b d:Int) (k0:Int->Bool->LL->oP R):Nat->Int->LL->oP R
 | 0,_,_=>none
 | m+1,h2,a=>bif (decide (h2<(c.length:Int))) then gb true (Q1 c h2) [] fun e=>gb true (e[0]?) oF fun i=>gb true (e[1]?) oF fun j=>gb true (e[2]?) oF fun k=>gb true (e[3]?) oF fun l=>gb true (e[4]?) oF fun g=>gb true (e[5]?) oF fun h=>jn (fun (f aa:Int)=>bif decide (f>=0) then bif (aa == 1) then gb true (pIw g) 0 fun o=>gb true (pIw h) 0 fun p=>gb true (Yf ((a.length+[[Q4 f,Q4 1,Q4 o,Q4 p]].length)*32)) () fun ai=>Zd n c b d k0 m (wJ (h2+1)) (a++[[Q4 f,Q4 1,Q4 o,Q4 p]]) else gb true (pIw g) 0 fun q=>gb true (pIw h) 0 fun r=>gb true (Yf ((a.length+[[Q4 f,Q4 0,Q4 q,Q4 r]].length)*32)) () fun aj=>Zd n c b d k0 m (wJ (h2+1)) (a++[[Q4 f,Q4 0,Q4 q,Q4 r]]) else Zd n c b d k0 m (wJ (h2+1)) a) fun s=>gb true (pIw i) 0 fun t=>gb (t == b) (pIw j) 0 fun ab=>bif (bif (t == b) then (ab == d) else false) then gb true (pIw k) 0 fun ac=>gb true (pIw l) 0 fun ad=>s ac ad else gb true (pIw k) 0 fun u=>gb (u == b) (pIw l) 0 fun ae=>bif (bif (u == b) then (ae == d) else false) then gb true (pIw i) 0 fun ag=>gb true (pIw j) 0 fun ah=>s ag ah else bif (decide ((-1:Int)>=0)) then bif (0 == 1) then gb true (pIw g) 0 fun v=>gb true (pIw h) 0 fun x=>gb true (Yf ((a.length+[[Q4 (-1:Int),Q4 1,Q4 v,Q4 x]].length)*32)) () fun ak=>Zd n c b d k0 m (wJ (h2+1)) (a++[[Q4 (-1:Int),Q4 1,Q4 v,Q4 x]]) else gb true (pIw g) 0 fun y=>gb true (pIw h) 0 fun z=>gb true (Yf ((a.length+[[Q4 (-1:Int),Q4 0,Q4 y,Q4 z]].length)*32)) () fun al=>Zd n c b d k0 m (wJ (h2+1)) (a++[[Q4 (-1:Int),Q4 0,Q4 y,Q4 z]]) else Zd n c b d k0 m (wJ (h2+1)) a else k0 h2 (decide (h2<(c.length:Int))) a
def B1 (n:Nat) (f g h a:LL) (b c:Int) (K:LL->oP R):oP R:= bif (c == 1) then Zd n a b 0 (fun i j d=>K d) n 0 [] else Zd n a b 1 (fun k l e=>K e) n 0 []
end Go.Vx
namespace Go.Vx
variable {R:Type}
def Pl (n:Nat) (h2:LL) (c d:Int) (k0:D->D->D->D->oP R) (k1:Int->Bool->oP R):Nat->Int->oP R
 | 0,_=>none
 | m+1,a=>bif (decide (a<(h2.length:Int))) then gb true (Q1 h2 a) [] fun e=>gb true (e[0]?) oF fun f=>gb true (e[1]?) oF fun g=>gb true (pIw f) 0 fun h=>gb true (pIw g) 0 fun i=>bif ((h == c)&&(i == d)) then gb true (Q1 h2 a) [] fun b=>gb true (b[0]?) oF fun j=>gb true (b[1]?) oF fun k=>gb true (b[2]?) oF fun l=>gb true (b[3]?) oF fun o=>k0 j k l o else Pl n h2 c d k0 k1 m (wJ (a+1)) else k1 a (decide (a<(h2.length:Int)))
def JI (n:Nat) (a b c d:LL) (e f g h:Int) (K:D->D->D->D->Bool->oP R):oP R:= gb true (B1 n a b c d e f some) [] fun i=>Pl n i g h (fun j k l m=>K j k l m true) (fun o p=>K (Q4 0) (Q4 0) (Q4 0) (Q4 0) false) n 0
end Go.Vx
namespace Go.Vx
variable {R:Type}
def YF (n:Nat) (c a:LL) (k0:oP R) (k1:Int->Bool->oP R):Nat->Int->oP R
 | 0,_=>none
 | m+1,h2=>bif (decide (h2<(a.length:Int))) then gb true (Q1 a h2) [] fun d=>gb true (d[0]?) oF fun e=>gb true (pIw e) 0 fun f=>gb true (Hi n f 0 (wJ ((c.length:Int)-1)) some) false fun b=>gb (!(!b)) (Q1 a h2) [] fun g=>gb (!(!b)) (g[1]?) oF fun h=>gb (!(!b)) (pIw h) 0 fun i=>gb (!(!b)) (Hi n i 0 1 some) false fun j=>bif (bif !b then true else (!j)) then k0 else YF n c a k0 k1 m (wJ (h2+1)) else k1 h2 (decide (h2<(a.length:Int)))
def GD (n:Nat) (b:Int) (c:LL) (k0:oP R) (k1:Int->Bool->oP R):Nat->Int->oP R
 | 0,_=>none
 | m+1,a=>bif decide (a<b) then gb true (Q1 c a) [] fun d=>gb true (d[0]?) oF fun e=>gb true (pIw e) 0 fun f=>gb true (Q1 c b) [] fun g=>gb true (g[0]?) oF fun h=>gb true (pIw h) 0 fun i=>bif (f == i) then k0 else GD n b c k0 k1 m (wJ (a+1)) else k1 a (decide (a<b))
def VK (n:Nat) (b:LL) (k0:oP R) (k1:Int->Bool->oP R):Nat->Int->oP R
 | 0,_=>none
 | m+1,a=>bif (decide (a<(b.length:Int))) then GD n a b (k0) (fun c d=>VK n b k0 k1 m (wJ (a+1))) n 0 else k1 a (decide (a<(b.length:Int)))
def YB (n:Nat) (c d e f b:LL) (k0:oP R) (k1:Int->Bool->oP R):Nat->Int->oP R
 | 0,_=>none
 | m+1,a=>bif (decide (a<(b.length:Int))) then gb true (Q1 b (wJ (a-1))) [] fun g=>gb true (g[0]?) oF fun i=>gb true (g[1]?) oF fun j=>gb true (Q1 b a) [] fun h=>gb true (h[0]?) oF fun k=>gb true (h[1]?) oF fun l=>gb true (pIw i) 0 fun o=>gb true (pIw j) 0 fun p=>gb true (pIw k) 0 fun q=>gb true (pIw l) 0 fun r=>gb true (JI n c d e f o p q r Tu5) ((.bool false),(.bool false),(.bool false),(.bool false),false) fun y=>bif (!y.2.2.2.2) then k0 else YB n c d e f b k0 k1 m (wJ (a+1)) else k1 a (decide (a<(b.length:Int)))
def VR (n:Nat) (d e b f a:LL) (c:Int) (K:Int->oP R):oP R:= gb true (JR n d e b f some) 0 fun g=>bif (g != 0) then K 1 else bif (bif (decide ((a.length:Int)>24)) then true else (decide (c>2))) then K 7 else bif (bif decide (c<0) then true else (decide ((wJ ((a.length:Int)-c))<2))) then K 4 else YF n b a (K 4) (fun h i=>VK n a (K 5) (fun j k=>YB n d e b f a (K 11) (fun l m=>K 0) n 1) n 0) n 0
end Go.Vx
namespace Go.Vx
variable {R:Type}
def NF (n:Nat) (d e c f:LL) (a b:Int) (K:Bool->oP R):oP R:= gb (bif (bif decide (a>=0) then (decide (a<(c.length:Int))) else false) then (bif (b == 0) then true else (b == 1)) else false) (Zp n d e c f some) 0 fun g=>K (bif (bif (bif decide (a>=0) then (decide (a<(c.length:Int))) else false) then (bif (b == 0) then true else (b == 1)) else false) then (g == 0) else false)
end Go.Vx
namespace Go.Vx
variable {R:Type}
def Nf (n:Nat) (a b:Int) (K:Int->Int->oP R):oP R:= bif (b == 0) then K a 0 else K a 1
end Go.Vx
namespace Go.Vx
variable {R:Type}
def Wf (n:Nat) (j:LL) (e f g:Int) (k0:Int->Bool->LL->oP R):Nat->Int->LL->oP R
 | 0,_,_=>none
 | m+1,b,c=>bif decide (b<e) then gb true (Q1 j b) [] fun d=>gb true (d[0]?) oF fun u=>gb true (d[1]?) oF fun v=>gb true (d[2]?) oF fun x=>gb true (d[3]?) oF fun y=>gb true (d[4]?) oF fun o=>gb true (d[5]?) oF fun p=>gb true (pIw u) 0 fun z=>gb true (pIw v) 0 fun aa=>gb true (pIw x) 0 fun ab=>gb true (pIw y) 0 fun ac=>gb true (pIw o) 0 fun ad=>gb true (pIw p) 0 fun ae=>gb true (L0 n z aa ab ac ad ae Tu4) (0,0,0,0) fun a=>bif ((f == a.1)&&(g == a.2.1)) then gb true (Nf n a.2.2.1 a.2.2.2 Tu2) (0,0) fun k=>gb true (pIw o) 0 fun q=>gb true (pIw p) 0 fun r=>gb true (Yf ((c.length+[[Q4 k.1,Q4 k.2,Q4 q,Q4 r]].length)*32)) () fun ai=>Wf n j e f g k0 m (wJ (b+1)) (c++[[Q4 k.1,Q4 k.2,Q4 q,Q4 r]]) else bif ((f == a.2.2.1)&&(g == a.2.2.2)) then gb true (Nf n a.1 a.2.1 Tu2) (0,0) fun l=>gb true (pIw o) 0 fun s=>gb true (pIw p) 0 fun t=>gb true (Yf ((c.length+[[Q4 l.1,Q4 l.2,Q4 s,Q4 t]].length)*32)) () fun aj=>Wf n j e f g k0 m (wJ (b+1)) (c++[[Q4 l.1,Q4 l.2,Q4 s,Q4 t]]) else Wf n j e f g k0 m (wJ (b+1)) c else k0 b (decide (b<e)) c
def MM (n:Nat) (d e f a:LL) (b c:Int) (K:LL->oP R):oP R:= gb true (NF n d e f a b c some) false fun g=>bif !g then K [] else bif (c == 1) then Wf n a (a.length:Int) b 0 (fun j k h=>K h) n 0 [] else Wf n a (a.length:Int) b 1 (fun l m i=>K i) n 0 []
end Go.Vx
namespace Go.Vx
variable {R:Type}
def Zu (n:Nat) (h2:LL) (c d e:Int) (k0:Int->oP R) (k1:Int->Bool->oP R):Nat->Int->oP R
 | 0,_=>none
 | m+1,a=>bif decide (a<c) then gb true (Q1 h2 a) [] fun b=>gb true (b[0]?) oF fun f=>gb true (b[1]?) oF fun g=>gb true (b[2]?) oF fun h=>gb true (b[3]?) oF fun l=>gb true (pIw f) 0 fun i=>gb true (pIw g) 0 fun j=>bif ((i == d)&&(j == e)) then gb true (pIw h) 0 fun k=>k0 k else Zu n h2 c d e k0 k1 m (wJ (a+1)) else k1 a (decide (a<c))
def Zl (n:Nat) (b c d e:LL) (f g h i:Int) (K:Int->oP R):oP R:= gb true (MM n b c d e f g some) [] fun a=>Zu n a (a.length:Int) h i (fun j=>K j) (fun k l=>K (-1:Int)) n 0
end Go.Vx
namespace Go.Vx
theorem EZ.at {k:Nat}:∀ {s s':LL},EZ k s s'->∀ i:Nat,(s[i]? = none/\s'[i]? = none)\/∃ nm a b c a' b' c' d,s[i]? = some [D.str nm,Q4 a,Q4 b,Q4 c,Q4 d]/\s'[i]? = some [D.str nm,Q4 a',Q4 b',Q4 c',Q4 d]/\NumOk a b c d k/\NumOk a' b' c' d k
 |[],[],_,i=>.inl ⟨by simp,by simp⟩
 |r::s,r'::s',h,0=>by
  obtain ⟨⟨nm,a,b,c,a',b',c',d,e,h2,f,g⟩,_⟩:=h;exact .inr ⟨nm,a,b,c,a',b',c',d,by simp [e],by simp [h2],f,g⟩
 |r::s,r'::s',h,i+1=>by
  have:=EZ.at h.2 i;simpa using this
theorem EZ.row {k:Nat} {s s':LL} (h:EZ k s s') (i:Int):(Q1 s i=none/\Q1 s' i=none)\/∃ nm a b c a' b' c' d,Q1 s i=some [D.str nm,Q4 a,Q4 b,Q4 c,Q4 d]/\Q1 s' i=some [D.str nm,Q4 a',Q4 b',Q4 c',Q4 d]/\NumOk a b c d k/\NumOk a' b' c' d k:=by
 unfold Q1;cases decide ((0:Int)<=i)
 ·simp_all
 ·exact h.at i.toNat
theorem gbN {α R:Type} {z:α} {k:α->oP R}:gb true none z k=none:=rfl
theorem inT {R:Type} {n:Nat} {x lo hi:Int} (a:lo<=x) (b:x<=hi) (K:Bool->oP R):K7 n x lo hi K=K true:=by
 grind [K7,decide]
section
variable {R:Type} {n k:Nat} {s s' St Pt Li:LL} (h:EZ k s s')
include h
theorem Q5A {k0:Int->Bool->LL->oP R}:∀ (m:Nat) (i:Int) (acc:LL),YI n s k0 m i acc=YI n s' k0 m i acc
 |0,_,_=>rfl
 |m+1,i,acc=>by
  unfold YI;rcases h.row i with ⟨e,e'⟩ | ⟨nm,a,b,c,a',b',c',d,e,e',_,_⟩
  ·simp only [e,e',h.len,gbN]
  ·rw [e,e',h.len];simp only [Q5A m];rfl
theorem Qc0 {aj:LL} (hk:St.length=k) (f:k<=100) {k0:Int->oP R} {k1:Int->Bool->oP R}:∀ (m:Nat) (i:Int),J5 n aj St s k0 k1 m i=J5 n aj St s' k0 k1 m i
 |0,_=>rfl
 |m+1,i=>by
  unfold J5;rcases h.row i with ⟨e,e'⟩ | ⟨nm,a,b,c,a',b',c',d,e,e',g,g'⟩
  ·simp only [e,e',h.len,gbN,Qc0 hk f m]
  ·rw [e,e',h.len];obtain ⟨j,l,h2,o,p,q,x,y⟩:=g;obtain ⟨g0,g1,r,t,u,v,z,g7⟩:=g';simp -implicitDefEqProofs only [Q0,List.getElem?_cons_zero,List.getElem?_cons_succ,Q3,inT j l,inT h2 o,inT p q,inT g0 g1,inT r t,inT u v,Qc0 hk f m]
theorem QdB {k0:Int->oP R} {k1:Int->Bool->oP R}:∀ (m:Nat) (i:Int),VX n St Pt s Li k0 k1 m i=VX n St Pt s' Li k0 k1 m i
 |0,_=>rfl
 |m+1,i=>by
  unfold VX;have e:∀ j,JC n St Pt s Li j (some:Int->Option Int)=JC n St Pt s' Li j some:=by
   intro j;unfold JC;rw [h.len];rfl
  simp only [e,QdB m]
theorem QbA (hk:St.length=k) (a:k<=100) (K:Int->oP R):JR n St Pt s Li K=JR n St Pt s' Li K:=by
 unfold JR Ky;rw [h.len]
 grind [Q5A,Qc0,QdB]
end
def Q9v (St Pt Se Li:LL):Bool:=Q7g (JR 400 St Pt Se Li some)
theorem ro2 {c0 c1 a:Nat} (b:c0=1\/c0=2) (c:c1=1\/c1=2) (h2:a=1\/a=2):Q9v [nmS 0,nmS 1] (pt2 c0 c1) (se2 c0 c1 a (hat c0) (hat c1) (hat a)) (li2 c0 c1 a)=true:=by
 rcases b with rfl | rfl <;> rcases c with rfl | rfl <;> rcases h2 with rfl | rfl <;> kernel_rfl
theorem ro3 {c0 c1 a b c:Nat} (d:c0=1\/c0=2) (e:c1=1\/c1=2) (h2:a=1\/a=2) (f:b=1\/b=2) (g:c=1\/c=2):Q9v [nmS 0,nmS 1,nmS 2] (pt3 c0 c1 a) (se3 c0 c1 a b c (hat c0) (hat c1) (hat a) (hat b) (hat c)) (li3 c0 c1 a b c)=true:=by
 rcases d with rfl | rfl <;> rcases e with rfl | rfl <;> rcases h2 with rfl | rfl <;> rcases f with rfl | rfl <;> rcases g with rfl | rfl <;> kernel_rfl
theorem Q3A {St Pt L L' Li:LL} (h:EZ St.length L L') (h2:St.length<=100):Q9v St Pt L Li=Q9v St Pt L' Li:=by
 unfold Q9v;rw [QbA h rfl h2]
theorem QhQ {c0 c1 a:Nat} {b c d:List RC} (e:c0=1\/c0=2) (f:c1=1\/c1=2) (h2:a=1\/a=2) (g:KL b) (h:KL c) (i:KL d) (j:b.length=c0) (e1:c.length=c1) (e2:d.length=a) :
  Q9v [nmS 0,nmS 1] (pt2 c0 c1) (se2 c0 c1 a b c d) (li2 c0 c1 a)=true:=by
 grind [ro2,Q3A,sr2]
theorem QhG {c0 c1 a b c:Nat} {d e f g h:List RC} (i:c0=1\/c0=2) (j:c1=1\/c1=2) (h2:a=1\/a=2) (k:b=1\/b=2) (l:c=1\/c=2) (m:KL d) (n:KL e) (o:KL f) (n3:KL g) (p:KL h) (q:d.length=c0) (e1:e.length=c1) (e2:f.length=a) (r:g.length=b) (s:h.length=c) :
  Q9v [nmS 0,nmS 1,nmS 2] (pt3 c0 c1 a) (se3 c0 c1 a b c d e f g h) (li3 c0 c1 a b c)=true:=by
 grind [ro3,Q3A,sr3]
def Qcg (St Pt L d s:LL):Option Int:=
 YF 400 L s (some 4) (fun _ _=>VK 400 s (some 5) (fun _ _=>YB 400 St Pt L d s (some 11) (fun _ _=>some 0) 400 (1:Int)) 400 (0:Int)) 400 (0:Int)
def Qf8 (N:Nat) (Li s:LL):Bool:=Q7g (Qcg [] [] (List.replicate N []) Li s)
section
variable {R:Type} {n:Nat} {a b a' b' L L' d s:LL} (h:L.length=L'.length)
include h
theorem QdT {k0:oP R} {k1:Int->Bool->oP R}:∀ (m:Nat) (i:Int),YF n L s k0 k1 m i=YF n L' s k0 k1 m i
 |0,_=>rfl
 |m+1,i=>by
  unfold YF;simp only [h,QdT m]
omit h in
theorem Qhh {x y z t:Int} {K:D->D->D->D->Bool->oP R}:JI n a b L d x y z t K=JI n a' b' L' d x y z t K:=rfl
omit h in
theorem QeO {k0:oP R} {k1:Int->Bool->oP R}:∀ (m:Nat) (i:Int),YB n a b L d s k0 k1 m i=YB n a' b' L' d s k0 k1 m i
 |0,_=>rfl
 |m+1,i=>by
  unfold YB;simp only [Qhh (a:=a) (b:=b) (L:=L) (a':=a') (b':=b') (L':=L'),QeO m]
end
theorem Q3B {St Pt Se Li s:LL} {N:Nat} (aj:Q9v St Pt Se Li=true) (hN:Se.length=N) (h2:2<=s.length) (c:s.length<=24) (hr:Qf8 N Li s=true):VR 400 St Pt Se Li s 0 (some:Int->Option Int)=some 0:=by
 have hL:Se.length=(List.replicate N ([]:List D)).length:=by simp [hN]
 unfold VR;rw [VO aj,Q0,Q9 (by decide),Q9 (by grind),Q9 (by grind [Q7,decide,List.length])];simp only [QdT hL,QeO (a:=St) (b:=Pt) (L:=Se) (a':=[]) (b':=[]) (L':=List.replicate N [])];exact VO hr
def Qd8 (Li:LL) (r r':List D):Option Int:=match r,r' with
 |[.int _ x,.int _ d],[.int _ y,.int _ e]=>gb true (bif (d == (1:Int)) then Wf 400 Li ((List.length Li:Nat):Int) x (0:Int) (fun _ _ w=>some w) 400 (0:Int) [] else Wf 400 Li ((List.length Li:Nat):Int) x (1:Int) (fun _ _ w=>some w) 400 (0:Int) []) [] fun a=>
  Zu 400 a ((List.length a:Nat):Int) y e some (fun _ _=>some (-1)) 400 (0:Int)
 |_,_=>none
def ptR (St Pt Se Li:LL) (r r':List D):Option Int:=match r,r' with
 |[.int _ x,.int _ d],[.int _ y,.int _ e]=>match JI 400 St Pt Se Li x d y e Tu5 with
  |some (_,_,.int .i64 q,_,true)=>some q
  |_=>none
 |_,_=>none
def pv:Option Int->Int
 |some p=>p
 |none => -1
def Ag (N NP:Nat) (Li:LL):Nat->LL->Bool
 |k,r::r'::t=>match Qd8 Li r r',ptR [] [] (List.replicate N []) Li r r' with
  |some p,some q=>(p == q)&&(decide (-1<=p)&&(decide (p<NP)&&Ag N NP Li (bif decide (p<0) then k+1 else k+2) (r'::t)))
  |_,_=>false
 |k,_=>Nat.ble k 5
def QbQ (N NP:Nat) (Li s:LL):Bool:=Qf8 N Li s&&Ag N NP Li 0 s
def Q3H (N NP:Nat) (Li:LL) (s u k c k' c':Nat):Bool:=
 (ups k c).all fun x=>(ups k' c').all fun y=>QbQ N NP Li (Kt s u x y true)&&QbQ N NP Li (Kt s u x y false)
theorem Qg5 {c0 c1 a:Nat} (b:c0=1\/c0=2) (c:c1=1\/c1=2) (h2:a=1\/a=2):Q3H (c0+c1+a) (pt2 c0 c1).length (li2 c0 c1 a) (c0+c1) a 0 c0 c0 c1=true:=by
 rcases b with rfl | rfl <;> rcases c with rfl | rfl <;> rcases h2 with rfl | rfl <;> kernel_rfl
theorem QfF {c0 c1 a b c:Nat} (d:c0=1\/c0=2) (e:c1=1\/c1=2) (h2:a=1\/a=2) (f:b=1\/b=2) (g:c=1\/c=2) :
  (Q3H (c0+c1+a+b+c) (pt3 c0 c1 a).length (li3 c0 c1 a b c) (c0+c1+a) b 0 c0 c0 c1&&Q3H (c0+c1+a+b+c) (pt3 c0 c1 a).length (li3 c0 c1 a b c) (c0+c1+a+b) c c0 c1 (c0+c1) a)=true:=by
 rcases d with rfl | rfl <;> rcases e with rfl | rfl <;> rcases h2 with rfl | rfl <;> rcases f with rfl | rfl <;> rcases g with rfl | rfl <;> kernel_rfl
theorem Qbz {St Pt Se Li:LL} (aj:Pg 400 St Pt Se Li=true) {x d y e:Int} (a:0<=x) (b:x<Se.length) (hd:d=0\/d=1):Zl 400 St Pt Se Li x d y e (some:Int->Option Int)=Qd8 Li [Q4 x,Q4 d] [Q4 y,Q4 e]:=by
 have hc:Zp 400 St Pt Se Li (some:Int->Option Int)=some 0:=by grind [Zp]
 have hh:NF 400 St Pt Se Li x d (some:Bool->Option Bool)=some true:=by
  grind [NF,Q0,decide]
 simp_all [Zl,MM,Qd8,Q0]
end Go.Vx
namespace Go.Vx
variable {R:Type}
def Zx (n:Nat) (d:LL) (b:Int) (k0:Int->Bool->LL->oP R):Nat->Int->LL->oP R
 | 0,_,_=>none
 | m+1,a,c=>bif decide (a<b) then gb true (Q1 d a) [] fun f=>gb true (f[0]?) oF fun g=>gb true (pIw g) 0 fun e=>gb true (Yf ((c.length+[[Q4 e,Q4 0]].length)*16)) () fun h=>Zx n d b k0 m (wJ (a+1)) (c++[[Q4 e,Q4 0]]) else k0 a (decide (a<b)) c
def ZD (n:Nat) (c:LL) (k0:Int->Bool->LL->oP R):Nat->Int->LL->oP R
 | 0,_,_=>none
 | m+1,a,b=>bif decide (a>=0) then gb true (Q1 c a) [] fun e=>gb true (e[0]?) oF fun f=>gb true (pIw f) 0 fun d=>gb true (Yf ((b.length+[[Q4 d,Q4 1]].length)*16)) () fun g=>ZD n c k0 m (wJ (a-1)) (b++[[Q4 d,Q4 1]]) else k0 a (decide (a>=0)) b
def Yu (n:Nat) (a c:LL) (a1 a2 d:Int) (p:Bool) (K:LL->Int->oP R):oP R:= gb true (inB (c.length) a1) () fun u1=>gb true (c[a1.toNat]?) [] fun q=>gb true (q[0]?) oF fun r=>gb true (pSl 1 r) [] fun b=>bif p then gb true (inB (a.length) a1) () fun u5=>gb true (a[a1.toNat]?) [] fun r6=>gb true (r6[0]?) oF fun s=>gb true (pSl 1 s) [] fun t=>gb true (inB (a.length) a1) () fun u9=>gb true (a[a1.toNat]?) [] fun u=>gb true (u[0]?) oF fun v=>gb true (pSl 1 v) [] fun e=>gb true (nz (e.length:Int)) () fun ba=>gb true (Q1 t (Int.tmod a2 (e.length:Int))) [] fun x=>gb true (x[0]?) oF fun y=>gb true (pIw y) 0 fun f=>gb true (Yf ([[Q4 f,Q4 0]].length*16)) () fun bb=>Zx n b (b.length:Int) (fun bc bd g=>gb true (inB (a.length) (wJ (a1+1))) () fun be=>gb true (a[(Int.toNat (wJ (a1+1)))]?) [] fun z=>gb true (z[0]?) oF fun aa=>gb true (pSl 1 aa) [] fun ab=>gb true (inB (a.length) (wJ (a1+1))) () fun bg=>gb true (a[(Int.toNat (wJ (a1+1)))]?) [] fun ac=>gb true (ac[0]?) oF fun ad=>gb true (pSl 1 ad) [] fun h=>gb true (nz (h.length:Int)) () fun bh=>gb true (Q1 ab (Int.tmod d (h.length:Int))) [] fun ae=>gb true (ae[0]?) oF fun ag=>gb true (pIw ag) 0 fun i=>gb true (Yf ((g.length+[[Q4 i,Q4 0]].length)*16)) () fun bi=>K (g++[[Q4 i,Q4 0]]) 0) n 0 [[Q4 f,Q4 0]] else gb true (inB (a.length) (wJ (a1+1))) () fun bj=>gb true (a[(Int.toNat (wJ (a1+1)))]?) [] fun ah=>gb true (ah[0]?) oF fun ai=>gb true (pSl 1 ai) [] fun aj=>gb true (inB (a.length) (wJ (a1+1))) () fun bk=>gb true (a[(Int.toNat (wJ (a1+1)))]?) [] fun ak=>gb true (ak[0]?) oF fun al=>gb true (pSl 1 al) [] fun j=>gb true (nz (j.length:Int)) () fun bl=>gb true (Q1 aj (Int.tmod d (j.length:Int))) [] fun am=>gb true (am[0]?) oF fun an=>gb true (pIw an) 0 fun k=>gb true (Yf ([[Q4 k,Q4 1]].length*16)) () fun bm=>ZD n b (fun bn bo l=>gb true (inB (a.length) a1) () fun bp=>gb true (a[a1.toNat]?) [] fun ao=>gb true (ao[0]?) oF fun ap=>gb true (pSl 1 ap) [] fun aq=>gb true (inB (a.length) a1) () fun bq=>gb true (a[a1.toNat]?) [] fun ar=>gb true (ar[0]?) oF fun au=>gb true (pSl 1 au) [] fun m=>gb true (nz (m.length:Int)) () fun br=>gb true (Q1 aq (Int.tmod a2 (m.length:Int))) [] fun av=>gb true (av[0]?) oF fun aw=>gb true (pIw aw) 0 fun o=>gb true (Yf ((l.length+[[Q4 o,Q4 1]].length)*16)) () fun bt=>K (l++[[Q4 o,Q4 1]]) 0) n (wJ ((b.length:Int)-1)) [[Q4 k,Q4 1]]
end Go.Vx
namespace Go.Vx
structure Geo where
 N:Nat
 St:LL
 Pt:LL
 Se:LL
 Li:LL
 Tr:LL
 Bt:LL
 k:Nat->Nat
 c:Nat->Nat
 s:Nat->Nat
 u:Nat->Nat
structure Geo.OK (G:Geo):Prop where
 hN:G.N=2\/G.N=3
 st:G.St.length=G.N
 lay:Pg 400 G.St G.Pt G.Se G.Li=true
 ref:Q9v G.St G.Pt G.Se G.Li=true
 trl:G.Tr.length=G.N
 tr:∀ i,i<G.N->G.Tr[i]? = some [D.sl 1 (ZS (ups (G.k i) (G.c i)))]
 ct:∀ i,i<G.N->G.c i=1\/G.c i=2
 btl:G.Bt.length+1=G.N
 bt:∀ g,g+1<G.N->G.Bt[g]? = some [D.sl 1 (ZS (ups (G.s g) (G.u g)))]
 ut:∀ g,g+1<G.N->G.u g=1\/G.u g=2
 sec:∀ i,i<G.N->∀ x,x<G.c i->∃ nm a b d,Q1 G.Se ((G.k i+x:Nat):Int)=some [D.str nm,Q4 a,Q4 b,Q4 d,Q4 i]/\SecN a b d
 gap:∀ g,g+1<G.N->∀ x,x<G.u g->∃ nm a b d e,Q1 G.Se ((G.s g+x:Nat):Int)=some [D.str nm,Q4 a,Q4 b,Q4 d,Q4 e]/\SecN a b d
 rts:∀ g,g+1<G.N->Qb6 G.Se.length G.Li (G.s g) (G.u g) (G.k g) (G.c g) (G.k (g+1)) (G.c (g+1))=true
 rt6:∀ g,g+1<G.N->Q3H G.Se.length G.Pt.length G.Li (G.s g) (G.u g) (G.k g) (G.c g) (G.k (g+1)) (G.c (g+1))=true
theorem Q5o {f:Nat->RC->List D}:∀ {c:Nat} {x:List RC} {i:Nat},KL x->x.length=c->i<c->∃ j y,(Yy f c x)[i]? = some (f j y)/\Num y.1 y.2.1 y.2.2
 |c+1,a::x,0,h,_,_=>⟨c+1,a,rfl,h.1⟩
 |c+1,a::x,i+1,h,e,hi=>by
  obtain ⟨j,y,b,h2⟩:=Q5o (f:=f) h.2 (by simpa using e) (show i<c by omega);exact ⟨j,y,by simpa [Yy] using b,h2⟩
theorem QaV {f:Nat->RC->List D} {A B:LL} {c k i:Nat} {x:List RC} (hA:A.length=k) (h:KL x) (e:x.length=c) (hi:i<c):∃ j y,Q1 ((A++Yy f c x)++B) ((k+i:Nat):Int)=some (f j y)/\Num y.1 y.2.1 y.2.2:=by
 obtain ⟨j,y,a,h2⟩:=Q5o (f:=f) h e hi
 grind [Q1]
theorem Qf5 {A B L:LL} {c k i x:Nat} {X:List RC} (hL:L=(A++Yy (secT i) c X)++B) (hA:A.length=k) (h:KL X) (e:X.length=c) (hi:x<c) :
  ∃ nm a b d,Q1 L ((k+x:Nat):Int)=some [D.str nm,Q4 a,Q4 b,Q4 d,Q4 i]/\SecN a b d:=by
 subst hL;obtain ⟨j,y,g,h2⟩:=QaV (f:=secT i) (B:=B) hA h e hi;exact ⟨_,_,_,_,g,by have:=h2.a0;omega,by have:=h2.a1;omega,h2.b0,h2.b1,h2.c0,h2.c1⟩
theorem Qgd {A B L:LL} {c k i x:Nat} {X:List RC} (hL:L=(A++Yy (secL i) c X)++B) (hA:A.length=k) (h:KL X) (e:X.length=c) (hi:x<c) :
  ∃ nm a b d e,Q1 L ((k+x:Nat):Int)=some [D.str nm,Q4 a,Q4 b,Q4 d,Q4 e]/\SecN a b d:=by
 subst hL;obtain ⟨j,y,g,h2⟩:=QaV (f:=secL i) (B:=B) hA h e hi;exact ⟨_,_,_,_,_,g,h2.a0,by have:=h2.a1;omega,h2.b0,h2.b1,h2.c0,h2.c1⟩
def Qdw (c0 c1 a:Nat) (b d e:List RC):Geo where
 N:=2
 St:=[nmS 0,nmS 1]
 Pt:=pt2 c0 c1
 Se:=se2 c0 c1 a b d e
 Li:=li2 c0 c1 a
 Tr:=[[D.sl 1 (ZS (ups 0 c0))],[D.sl 1 (ZS (ups c0 c1))]]
 Bt:=[[D.sl 1 (ZS (ups (c0+c1) a))]]
 k:=fun | 0=>0 | _=>c0
 c:=fun | 0=>c0 | _=>c1
 s:=fun _=>c0+c1
 u:=fun _=>a
theorem Qc8 {c0 c1 a:Nat} {b c d:List RC} (f:c0=1\/c0=2) (h:c1=1\/c1=2) (h2:a=1\/a=2) (j:KL b) (k:KL c) (l:KL d) (e:b.length=c0) (e1:c.length=c1) (e2:d.length=a):(Qdw c0 c1 a b c d).OK where
 hN:=.inl rfl
 st:=rfl
 lay:=Qhn f h h2 j k l e e1 e2
 ref:=QhQ f h h2 j k l e e1 e2
 trl:=rfl
 tr:=fun i hi=>match i,hi with
  |0,_=>rfl
  |1,_=>rfl
 ct:=fun i hi=>match i,hi with
  |0,_=>f
  |1,_=>h
 btl:=rfl
 bt:=fun g hg=>match g,hg with
  |0,_=>rfl
 ut:=fun g _=>h2
 sec:=fun i hi=>match i,hi with
  |0,_=>fun x hx=>Qf5 (A:=[]) (i:=0) (B:=Yy (secT 1) c1 c++Yy (secL 0) a d) (by simp [Qdw,se2]) rfl j e hx
  |1,_=>fun x hx=>Qf5 (A:=Yy (secT 0) c0 b) (i:=1) (B:=Yy (secL 0) a d) rfl (Xe e) k e1 hx
 gap:=fun g hg x hx=>Qgd (A:=Yy (secT 0) c0 b++Yy (secT 1) c1 c) (i:=0) (B:=[]) (by simp [Qdw,se2]) (by grind [Qdw,Xe]) l e2 hx
 rts:=fun g hg=>match g,hg with
  |0,_=>by
   have hl:(se2 c0 c1 a b c d).length=c0+c1+a:=by grind [se2,Xe]
   show Qb6 (se2 c0 c1 a b c d).length (li2 c0 c1 a) (c0+c1) a 0 c0 c0 c1=true
   grind [Qhx]
 rt6:=fun g hg=>match g,hg with
  |0,_=>by
   have hl:(se2 c0 c1 a b c d).length=c0+c1+a:=by simp [se2,Xe e,Xe e1,Xe e2];omega
   show Q3H (se2 c0 c1 a b c d).length (pt2 c0 c1).length (li2 c0 c1 a) (c0+c1) a 0 c0 c0 c1=true
   grind [Qg5]
def Q9x (c0 c1 a b d:Nat) (e f g h i:List RC):Geo where
 N:=3
 St:=[nmS 0,nmS 1,nmS 2]
 Pt:=pt3 c0 c1 a
 Se:=se3 c0 c1 a b d e f g h i
 Li:=li3 c0 c1 a b d
 Tr:=[[D.sl 1 (ZS (ups 0 c0))],[D.sl 1 (ZS (ups c0 c1))],[D.sl 1 (ZS (ups (c0+c1) a))]]
 Bt:=[[D.sl 1 (ZS (ups (c0+c1+a) b))],[D.sl 1 (ZS (ups (c0+c1+a+b) d))]]
 k:=fun | 0=>0 | 1=>c0 | _=>c0+c1
 c:=fun | 0=>c0 | 1=>c1 | _=>a
 s:=fun | 0=>c0+c1+a | _=>c0+c1+a+b
 u:=fun | 0=>b | _=>d
theorem Qd2 {c0 c1 a b c:Nat} {d e f h j:List RC} (l:c0=1\/c0=2) (m:c1=1\/c1=2) (h2:a=1\/a=2) (n:b=1\/b=2) (o:c=1\/c=2) (s:KL d) (t:KL e) (u:KL f) (n3:KL h) (v:KL j) (p:d.length=c0) (e1:e.length=c1) (e2:f.length=a) (q:h.length=b) (r:j.length=c):(Q9x c0 c1 a b c d e f h j).OK where
 hN:=.inr rfl
 st:=rfl
 lay:=QhN l m h2 n o s t u n3 v p e1 e2 q r
 ref:=QhG l m h2 n o s t u n3 v p e1 e2 q r
 trl:=rfl
 tr:=fun i hi=>match i,hi with
  |0,_=>rfl
  |1,_=>rfl
  |2,_=>rfl
 ct:=fun i hi=>match i,hi with
  |0,_=>l
  |1,_=>m
  |2,_=>h2
 btl:=rfl
 bt:=fun g hg=>match g,hg with
  |0,_=>rfl
  |1,_=>rfl
 ut:=fun g hg=>match g,hg with
  |0,_=>n
  |1,_=>o
 sec:=fun i hi=>match i,hi with
  |0,_=>fun x hx=>Qf5 (A:=[]) (i:=0) (B:=Yy (secT 1) c1 e++(Yy (secT 2) a f++(Yy (secL 0) b h++Yy (secL 1) c j))) (by simp [Q9x,se3]) rfl s p hx
  |1,_=>fun x hx=>Qf5 (A:=Yy (secT 0) c0 d) (i:=1) (B:=Yy (secT 2) a f++(Yy (secL 0) b h++Yy (secL 1) c j)) (by simp [Q9x,se3]) (Xe p) t e1 hx
  |2,_=>fun x hx=>Qf5 (A:=Yy (secT 0) c0 d++Yy (secT 1) c1 e) (i:=2) (B:=Yy (secL 0) b h++Yy (secL 1) c j) (by simp [Q9x,se3]) (by grind [Q9x,Xe]) u e2 hx
 gap:=fun g hg=>match g,hg with
  |0,_=>fun x hx=>Qgd (A:=Yy (secT 0) c0 d++Yy (secT 1) c1 e++Yy (secT 2) a f) (i:=0) (B:=Yy (secL 1) c j) (by simp [Q9x,se3]) (by grind [Q9x,Xe]) n3 q hx
  |1,_=>fun x hx=>Qgd (A:=Yy (secT 0) c0 d++Yy (secT 1) c1 e++Yy (secT 2) a f++Yy (secL 0) b h) (i:=1) (B:=[]) (by simp [Q9x,se3]) (by grind [Q9x,Xe]) v r hx
 rts:=fun g hg=>by
  have hl:(se3 c0 c1 a b c d e f h j).length=c0+c1+a+b+c:=by grind [se3,Xe]
  have k:=QhF l m h2 n o;simp only [Bool.and_eq_true] at k
  match g,hg with
  |0,_=>
   show Qb6 (se3 c0 c1 a b c d e f h j).length (li3 c0 c1 a b c) (c0+c1+a) b 0 c0 c0 c1=true
   simp_all
  |1,_=>
   show Qb6 (se3 c0 c1 a b c d e f h j).length (li3 c0 c1 a b c) (c0+c1+a+b) c c0 c1 (c0+c1) a=true;rw [hl];exact k.2
 rt6:=fun g hg=>by
  have hl:(se3 c0 c1 a b c d e f h j).length=c0+c1+a+b+c:=by simp [se3,Xe p,Xe e1,Xe e2,Xe q,Xe r];omega
  have k:=QfF l m h2 n o;simp only [Bool.and_eq_true] at k
  match g,hg with
  |0,_=>
   show Q3H (se3 c0 c1 a b c d e f h j).length (pt3 c0 c1 a).length (li3 c0 c1 a b c) (c0+c1+a) b 0 c0 c0 c1=true;rw [hl];exact k.1
  |1,_=>
   show Q3H (se3 c0 c1 a b c d e f h j).length (pt3 c0 c1 a).length (li3 c0 c1 a b c) (c0+c1+a+b) c c0 c1 (c0+c1) a=true;rw [hl];exact k.2
theorem Qhr {R:Type} {l:List Int} (hl:l.length<=9223372036854775807) {P:R->Prop} {i:Nat} (hi:i<=l.length) {K:LL->LL->LL->LL->LL->LL->LL->Int->oP R}
  (H:∀ (G:Geo) (j:Nat),G.OK->j<=l.length->K G.St G.Pt G.Se G.Li G.Tr G.Bt [] (j:Int)∈P):Q1y 400 (encI l) (i:Int) K∈P:=by
 refine Vq hl hi (by decide) (by decide) fun v j k n hj=>?_
 rcases two k n with rfl | rfl
 ·exact QfY hl (m:=397) hj fun c0 c1 a b c d j a0 a1 a2 e f g h e1 e2 hj=>H (Qdw c0 c1 a b c d) j (Qc8 a0 a1 a2 e f g h e1 e2) hj
 ·exact Qg1 hl (m:=396) hj fun c0 c1 o a p b c q d r j a0 a1 a2 s t e f g n3 u h e1 e2 x y hj=>H (Q9x c0 c1 o a p b c q d r) j (Qd2 a0 a1 a2 s t e f g n3 u h e1 e2 x y) hj
end Go.Vx
namespace Go.Vx
section
variable {R:Type}
theorem Q0E {T:LL} {g:Nat} {l:LL} (h:T[g]? = some [D.sl 1 l]) (K:LL->oP R) :
  gb true (inB (List.length T) (g:Int)) () (fun _=>gb true (T[(Int.toNat (g:Int))]?) [] fun a=>gb true (a[0]?) oF fun b=>gb true (pSl 1 b) [] fun c=>K c)=K l:=by
 have aj:g<T.length:=(QiW.1 h).1;rw [Y0 (by omega) (by omega),Q0,Int.toNat_natCast,h];rfl
theorem Qfu {k c a:Nat} (hc:c=1\/c=2) (ha:a<2) (K:Int->oP R) :
  gb true (nz ((List.length (ZS (ups k c)):Nat):Int)) () (fun _=>gb true (Q1 (ZS (ups k c)) (Int.tmod (a:Int) ((List.length (ZS (ups k c)):Nat):Int))) [] fun b=>gb true (b[0]?) oF fun d=>gb true (pIw d) 0 fun e=>K e)=K ((k+a % c:Nat):Int):=by
 obtain rfl | rfl:a=0\/a=1:=by omega
 ·rcases hc with rfl | rfl <;> rfl
 ·rcases hc with rfl | rfl
  ·rw [show k+1 % 1=k from rfl,show List.length (ZS (ups k 1))=1 from rfl,show Int.tmod ((1:Nat):Int) ((1:Nat):Int)=0 by decide];rfl
  ·rfl
theorem Qaq {s u:Nat} {x:Int} (hu:u=1\/u=2) {k0:Int->Bool->LL->oP R} :
  Zx 400 (ZS (ups s u)) ((List.length (ZS (ups s u)):Nat):Int) k0 400 (0:Int) [[D.int .i64 x,D.int .i64 (0:Int)]]
   = k0 (u:Int) false ([Q4 x,Q4 0]::((ups s u).map fun k=>[Q4 (k:Nat),Q4 0])):=by
 rcases hu with rfl | rfl <;> rfl
theorem Qas {s u:Nat} {x:Int} (hu:u=1\/u=2) {k0:Int->Bool->LL->oP R} :
  ZD 400 (ZS (ups s u)) k0 400 (wJ (((List.length (ZS (ups s u)):Nat):Int)-(1:Int))) [[D.int .i64 x,D.int .i64 (1:Int)]]
   = k0 (-1) false ([Q4 x,Q4 1]::((ups s u).reverse.map fun k=>[Q4 (k:Nat),Q4 1])):=by
 rcases hu with rfl | rfl <;> rfl
theorem Q8g {Tr Bt:LL} {g k c k' c' s u a b:Nat} {up:Bool} (hg:g<8) (hT:Tr[g]? = some [D.sl 1 (ZS (ups k c))]) (aj:Tr[g+1]? = some [D.sl 1 (ZS (ups k' c'))]) (hB:Bt[g]? = some [D.sl 1 (ZS (ups s u))])
  (hc:c=1\/c=2) (ak:c'=1\/c'=2) (hu:u=1\/u=2) (ha:a<2) (hb:b<2) (K:LL->Int->oP R) :
  Yu 400 Tr Bt (g:Int) (a:Int) (b:Int) up K=K (Kt s u (k+a % c) (k'+b % c') up) 0:=by
 have an:wJ ((g:Int)+1)=((g+1:Nat):Int):=by grind [Q7]
 have hl:(ups s u).length=u:=by rcases hu with rfl | rfl <;> rfl
 have d:u<=2:=by omega
 unfold Yu;rw [Q0E hB];cases up
 ·rw [Q9 rfl];rw [an,Q0E aj,Q0E aj,Qfu ak hb,XF (by simp),Q0];rw [Qas hu,Q0E hT,Q0E hT,Qfu hc ha,XF (by simp [hl];omega),Q0];rfl
 ·rw [QX rfl,Q0E hT,Q0E hT,Qfu hc ha,XF (by simp),Q0];rw [Qaq hu,an,Q0E aj,Q0E aj,Qfu ak hb,XF (by simp [hl];omega),Q0];rfl
end
def Sta (G:Geo) (x:Int):Prop:=∃ nm a b d i,Q1 G.Se x=some [D.str nm,Q4 a,Q4 b,Q4 d,Q4 i]/\0<=i
structure RtOK (G:Geo) (s:LL) (x y:Int):Prop where
 l2:2<=s.length
 l24:s.length<=24
 rt:rtB G.Se.length G.Li s=true
 rt6:Qf8 G.Se.length G.Li s=true
 hops:Ag G.Se.length G.Pt.length G.Li 0 s=true
 shp:∃ g x y up,g+1<G.N/\s=Kt (G.s g) (G.u g) x y up/\x∈ups (G.k g) (G.c g)/\y∈ups (G.k (g+1)) (G.c (g+1))
 st:∀ r∈s,DB G.Se r
 sx:Sta G x
 sy:Sta G y
 fst:∃ d,Q1 s 0=some [Q4 x,Q4 d]
 lst:∃ d,Q1 s ((s.length:Int)-1)=some [Q4 y,Q4 d]
def Geo.tk (G:Geo) (i a:Nat):Int:=((G.k i+a % G.c i:Nat):Int)
theorem Q4x {x:Nat}:∀ {s u:Nat},x∈ups s u->∃ j,j<u/\x=s+j
 |s,0,h=>by simp [ups] at h
 |s,u+1,h=>by
  simp only [ups,List.mem_cons] at h;rcases h with rfl | h
  ·exact ⟨0,by omega,rfl⟩
  ·obtain ⟨j,a,h2⟩:=Q4x h;exact ⟨j+1,by omega,by omega⟩
theorem FN {c a k:Nat} (hc:c=1\/c=2):(k+a % c)∈ups k c:=by
 rcases hc with rfl | rfl
 ·simp [ups,Nat.mod_one]
 grind [Nat.mod_lt,ups]
theorem Geo.OK.trk {G:Geo} (hG:G.OK) {i a:Nat} (hi:i<G.N):(∃ nm x b d,Q1 G.Se (G.tk i a)=some [D.str nm,Q4 x,Q4 b,Q4 d,Q4 i]/\SecN x b d):=
 hG.sec i hi (a % G.c i) (Nat.mod_lt _ (by rcases hG.ct i hi with h | h <;> omega))
theorem Q46 {P:List D->Prop} {s u x y:Nat} {up:Bool} (hx:∀ d,(d=0\/d=1)->P [Q4 x,Q4 d]) (hy:∀ d,(d=0\/d=1)->P [Q4 y,Q4 d]) (hs:∀ j,j<u->∀ d,(d=0\/d=1)->P [Q4 ((s+j:Nat):Int),Q4 d]):∀ r∈Kt s u x y up,P r:=by
 intro r hr;unfold Kt at hr;cases up
 ·simp only [QiS,List.cons_append,List.mem_cons,Qj0,List.mem_map,List.mem_reverse,List.not_mem_nil,or_false] at hr;rcases hr with rfl | ⟨k,hk,rfl⟩ | rfl
  ·simp_all
  ·obtain ⟨j,a,rfl⟩:=Q4x hk
   simp_all
  simp_all
 ·simp only [QiX,List.cons_append,List.mem_cons,Qj0,List.mem_map,List.not_mem_nil,or_false] at hr;rcases hr with rfl | ⟨k,hk,rfl⟩ | rfl
  ·simp_all
  ·obtain ⟨j,a,rfl⟩:=Q4x hk
   simp_all
  simp_all
theorem QeI {R:Type} {G:Geo} (hG:G.OK) {g a b:Nat} {up:Bool} (hg:g+1<G.N) (ha:a<2) (hb:b<2) :
  ∃ s,RtOK G s (bif up then G.tk g a else G.tk (g+1) b) (bif up then G.tk (g+1) b else G.tk g a)/\∀ K:LL->Int->oP R,Yu 400 G.Tr G.Bt (g:Int) (a:Int) (b:Int) up K=K s 0:=by
 have hN:=hG.hN;have hc:=hG.ct g (by omega);have au:=hG.ct (g+1) hg;have hu:=hG.ut g hg;obtain ⟨h,i,k,l,e1,c⟩:=hG.trk (a:=a) (show g<G.N by omega);obtain ⟨m,n,o,p,e2,e⟩:=hG.trk (a:=b) hg;have ak:=hG.rts g hg;unfold Qb6 at ak;have ak:=List.all_eq_true.1 (List.all_eq_true.1 ak _ (FN hc (a:=a))) _ (FN au (a:=b));simp only [Bool.and_eq_true] at ak;have aj:=hG.rt6 g hg;unfold Q3H at aj;have aj:=List.all_eq_true.1 (List.all_eq_true.1 aj _ (FN hc (a:=a))) _ (FN au (a:=b));simp only [QbQ,Bool.and_eq_true] at aj;refine ⟨Kt (G.s g) (G.u g) (G.k g+a % G.c g) (G.k (g+1)+b % G.c (g+1)) up,?_,fun K=>Q8g (by omega) (hG.tr g (by omega)) (hG.tr (g+1) hg) (hG.bt g hg) hc au hu ha hb K⟩;have ar:∀ r∈Kt (G.s g) (G.u g) (G.k g+a % G.c g) (G.k (g+1)+b % G.c (g+1)) up,DB G.Se r:=by
  refine Q46 (fun d hd=>⟨_,_,_,_,_,_,_,rfl,e1,c,hd⟩) (fun d hd=>⟨_,_,_,_,_,_,_,rfl,e2,e,hd⟩) fun j hj d hd=>?_
  obtain ⟨n3,q,t,v,z,f,g1⟩:=hG.gap g hg j hj;exact ⟨_,_,_,_,_,_,_,rfl,f,g1,hd⟩
 have an:∃ g' x y ax,g'+1<G.N/\Kt (G.s g) (G.u g) (G.k g+a % G.c g) (G.k (g+1)+b % G.c (g+1)) up=Kt (G.s g') (G.u g') x y ax/\x∈ups (G.k g') (G.c g')/\y∈ups (G.k (g'+1)) (G.c (g'+1)):=
  ⟨g,_,_,up,hg,rfl,FN hc,FN au⟩
 have s1:Sta G (G.tk g a):=⟨_,_,_,_,_,e1,by omega⟩;have s2:Sta G (G.tk (g+1) b):=⟨_,_,_,_,_,e2,by omega⟩;revert ar ak aj an;generalize G.s g=s;generalize G.u g=u at hu;intro ak aj ar an;have hl:(Kt s u (G.k g+a % G.c g) (G.k (g+1)+b % G.c (g+1)) up).length=u+2:=by
  rcases hu with rfl | rfl <;> cases up <;> rfl
 cases up
 ·exact ⟨by omega,by omega,ak.2,aj.2.1,aj.2.2,an,ar,s2,s1,by rcases hu with rfl | rfl <;> exact ⟨1,rfl⟩,by rw [hl];rcases hu with rfl | rfl <;> exact ⟨1,rfl⟩⟩
 ·exact ⟨by omega,by omega,ak.1,aj.1.1,aj.1.2,an,ar,s1,s2,by rcases hu with rfl | rfl <;> exact ⟨0,rfl⟩,by rw [hl];rcases hu with rfl | rfl <;> exact ⟨0,rfl⟩⟩
end Go.Vx
namespace Go.Vx
variable {R:Type}
def ZV (n:Nat) (c:LL) (k0:Int->Bool->LL->Int->oP R):Nat->Int->LL->Int->oP R
 | 0,_,_,_=>none
 | m+1,a,b,d=>bif decide (a<3) then gb true (Q5 n c d 2 Tu2) (0,0) fun e=>gb true (inB 3 a) () fun i=>gb true (b[a.toNat]?) [] fun h=>ZV n c k0 m (wJ (a+1)) (List.set b a.toNat (List.set h 0 (Q4 e.1))) e.2 else k0 a (decide (a<3)) b d
def Qy (n:Nat) (k:Bool) (g:Int) (j l o h:LL) (k0:Int->Bool->LL->LL->Int->oP R):Nat->Int->LL->LL->Int->oP R
 | 0,_,_,_,_=>none
 | m+1,a,i,b,t=>bif decide (a<g) then bif !k then gb true (inB 3 (wJ ((wJ (g-1))-a))) () fun ak=>gb true (j[(Int.toNat (wJ ((wJ (g-1))-a)))]?) [] fun x=>gb true (x[0]?) oF fun y=>gb true (pIw y) 0 fun z=>gb true (inB 3 (wJ ((wJ ((wJ (g-1))-a))+1))) () fun al=>gb true (j[(Int.toNat (wJ ((wJ ((wJ (g-1))-a))+1)))]?) [] fun aa=>gb true (aa[0]?) oF fun ab=>gb true (pIw ab) 0 fun ac=>gb true (Yu n l o (wJ ((wJ (g-1))-a)) z ac k Tu2) ([],0) fun e=>gb true (Yf ((b.length+[[D.sl 2 e.1,Q4 e.2]].length)*32)) () fun am=>gb true (Q5 n h t 3 Tu2) (0,0) fun p=>bif (decide ((wJ (a+1))<g)) then gb true (Q5 n h p.2 6 Tu2) (0,0) fun r=>gb true (Q5 n h r.2 4 Tu2) (0,0) fun u=>gb true (Yf ((i.length+List.length [[Q4 (wJ (((List.length (b++[[D.sl 2 e.1,Q4 e.2]]):Nat):Int)-1)),Q4 p.1,Q4 (wJ (5+r.1)),Q4 (wJ ((wJ (5+r.1))+u.1))]])*32)) () fun an=>Qy n k g j l o h k0 m (wJ (a+1)) (i++[[Q4 (wJ (((List.length (b++[[D.sl 2 e.1,Q4 e.2]]):Nat):Int)-1)),Q4 p.1,Q4 (wJ (5+r.1)),Q4 (wJ ((wJ (5+r.1))+u.1))]]) (b++[[D.sl 2 e.1,Q4 e.2]]) u.2 else gb true (Yf ((i.length+List.length [[Q4 (wJ (((List.length (b++[[D.sl 2 e.1,Q4 e.2]]):Nat):Int)-1)),Q4 p.1,Q4 0,Q4 0]])*32)) () fun ao=>Qy n k g j l o h k0 m (wJ (a+1)) (i++[[Q4 (wJ (((List.length (b++[[D.sl 2 e.1,Q4 e.2]]):Nat):Int)-1)),Q4 p.1,Q4 0,Q4 0]]) (b++[[D.sl 2 e.1,Q4 e.2]]) p.2 else gb true (inB 3 a) () fun ap=>gb true (j[a.toNat]?) [] fun ad=>gb true (ad[0]?) oF fun ae=>gb true (pIw ae) 0 fun ag=>gb true (inB 3 (wJ (a+1))) () fun aq=>gb true (j[(Int.toNat (wJ (a+1)))]?) [] fun ah=>gb true (ah[0]?) oF fun ai=>gb true (pIw ai) 0 fun aj=>gb true (Yu n l o a ag aj k Tu2) ([],0) fun f=>gb true (Yf ((b.length+[[D.sl 2 f.1,Q4 f.2]].length)*32)) () fun ar=>gb true (Q5 n h t 3 Tu2) (0,0) fun q=>bif (decide ((wJ (a+1))<g)) then gb true (Q5 n h q.2 6 Tu2) (0,0) fun s=>gb true (Q5 n h s.2 4 Tu2) (0,0) fun v=>gb true (Yf ((i.length+List.length [[Q4 (wJ (((List.length (b++[[D.sl 2 f.1,Q4 f.2]]):Nat):Int)-1)),Q4 q.1,Q4 (wJ (5+s.1)),Q4 (wJ ((wJ (5+s.1))+v.1))]])*32)) () fun au=>Qy n k g j l o h k0 m (wJ (a+1)) (i++[[Q4 (wJ (((List.length (b++[[D.sl 2 f.1,Q4 f.2]]):Nat):Int)-1)),Q4 q.1,Q4 (wJ (5+s.1)),Q4 (wJ ((wJ (5+s.1))+v.1))]]) (b++[[D.sl 2 f.1,Q4 f.2]]) v.2 else gb true (Yf ((i.length+List.length [[Q4 (wJ (((List.length (b++[[D.sl 2 f.1,Q4 f.2]]):Nat):Int)-1)),Q4 q.1,Q4 0,Q4 0]])*32)) () fun av=>Qy n k g j l o h k0 m (wJ (a+1)) (i++[[Q4 (wJ (((List.length (b++[[D.sl 2 f.1,Q4 f.2]]):Nat):Int)-1)),Q4 q.1,Q4 0,Q4 0]]) (b++[[D.sl 2 f.1,Q4 f.2]]) q.2 else k0 a (decide (a<g)) i b t
def UM (n:Nat) (f g b:LL) (h:Int) (i c:LL) (j:Bool) (k:Int) (K:Int->LL->LL->oP R):oP R:= gb true (Vs n (bs [78]) (c.length:Int) some) [] fun a=>gb true (Q5 n b h 4 Tu2) (0,0) fun d=>ZV n b (fun r s m o=>Qy n j k m f g b (fun t u e p q=>gb true (Yf ((c.length+[[D.str a,Q4 0,Q4 d.1,D.sl 4 e]].length)*56)) () fun v=>K q p (c++[[D.str a,Q4 0,Q4 d.1,D.sl 4 e]])) n 0 [] i o) n 0 [[Q4 0],[Q4 0],[Q4 0]] d.2
end Go.Vx
namespace Go.Vx
def TH (G:Geo) (Ro:LL) (row:List D) (x y:Int) (last:Bool):Prop:=
 ∃ (rt:Nat) (ex mn mx:Int) (s:LL),row=[Q4 rt,Q4 ex,Q4 mn,Q4 mx]/\Ro[rt]? = some [D.sl 2 s,Q4 0]/\RtOK G s x y/\(0<=ex/\ex<3)/\(0<=mn/\mn<=mx/\mx<=mn+3/\mn<=10)/\(last=true->mn=0/\mx=0)
def nmN (k:Nat):List UInt8:=bs [78]++[UInt8.ofNat (48+k)]
def Q2x (G:Geo) (Ro:LL) (rides:LL):Prop:=
 (∃ r x y,rides=[r]/\TH G Ro r x y true)\/(∃ r r' x y z,rides=[r,r']/\TH G Ro r x y false/\TH G Ro r' y z true)
def Q9H (G:Geo) (Ro:LL) (k:Nat) (row:List D):Prop:=∃ (w:Int) (rides:LL),row=[D.str (nmN k),Q4 0,Q4 w,D.sl 4 rides]/\0<=w/\w<4/\Q2x G Ro rides
structure GoodP (G:Geo) (Ro Ls:LL):Prop where
 ro:∀ row∈Ro,∃ s x y,row=[D.sl 2 s,Q4 0]/\RtOK G s x y
 ls:∀ k row,Ls[k]? = some row->Q9H G Ro k row
theorem TH.mono {G:Geo} {Ro t:LL} {row:List D} {x y:Int} {b:Bool} (h:TH G Ro row x y b):TH G (Ro++t) row x y b:=by
 obtain ⟨rt,ex,mn,mx,s,a,h2,c⟩:=h;refine ⟨rt,ex,mn,mx,s,a,?_,c⟩
 grind
theorem Q2x.mono {G:Geo} {Ro t rides:LL} (h:Q2x G Ro rides):Q2x G (Ro++t) rides:=by
 rcases h with ⟨r,x,y,e,h⟩ | ⟨r,r',x,y,z,e,h,h'⟩
 ·exact .inl ⟨r,x,y,e,h.mono⟩
 ·exact .inr ⟨r,r',x,y,z,e,h.mono,h'.mono⟩
theorem Q9H.mono {G:Geo} {Ro t:LL} {k:Nat} {row:List D} (h:Q9H G Ro k row):Q9H G (Ro++t) k row:=by
 obtain ⟨w,rides,a,h2,b,c⟩:=h;exact ⟨w,rides,a,h2,b,c.mono⟩
section
variable {R:Type} {l:List Int} (hl:l.length<=9223372036854775807) {P:R->Prop}
include hl
def atL (At:Nat->Nat):LL:=[[Q4 (At 0)],[Q4 (At 1)],[Q4 (At 2)]]
theorem Qht {i:Nat} (hi:i<=l.length) {k0:Int->Bool->LL->Int->oP R}
  (H:∀ (At:Nat->Nat) (j:Nat),(∀ i,At i<2)->j<=l.length->k0 3 false (atL At) (j:Int)∈P) :
  ZV 400 (encI l) k0 400 (0:Int) [[D.int .i64 (0:Int)],[D.int .i64 (0:Int)],[D.int .i64 (0:Int)]] (i:Int)∈P:=by
 refine Vq hl hi (by decide) (by decide) fun d j a0 b0 hj=>?_
 refine Vq hl hj (by decide) (by decide) fun e j a1 b1 hj=>?_
 refine Vq hl hj (by decide) (by decide) fun f j a2 b2 hj=>?_
 obtain ⟨a,rfl⟩:=QiZ a0;obtain ⟨b,rfl⟩:=QiZ a1;obtain ⟨c,rfl⟩:=QiZ a2;exact H (fun | 0=>a | 1=>b | _=>c) j (fun | 0=>by grind | 1=>by grind | _+2=>by grind) hj
end
theorem atA {R:Type} {At:Nat->Nat} {g:Nat} (hg:g<3) (K:Int->oP R) :
  gb true (inB 3 (g:Int)) () (fun _=>gb true ((atL At)[(Int.toNat (g:Int))]?) [] fun r=>gb true (r[0]?) oF fun c=>gb true (pIw c) 0 fun i=>K i)=K (At g):=by
 obtain rfl | rfl | rfl:g=0\/g=1\/g=2:=by omega
 all_goals rfl
section
variable {R:Type} {l:List Int} (hl:l.length<=9223372036854775807) {P:R->Prop} {G:Geo} (hG:G.OK)
include hl hG
theorem Qby {up:Bool} {aj h g m:Nat} {acc Ro:LL} {At:Nat->Nat} (an:∀ i,At i<2) (hm:aj<=2) (hh:h<aj) (hg:g=bif up then h else aj-1-h) (hN:aj<G.N) (hR:Ro.length<=100) (ha:acc.length<=10)
  {i:Nat} (hi:i<=l.length) {k0:Int->Bool->LL->LL->Int->oP R}
  (H:∀ (s:LL) (ex mn mx:Int) (j:Nat),RtOK G s (bif up then G.tk g (At g) else G.tk (g+1) (At (g+1))) (bif up then G.tk (g+1) (At (g+1)) else G.tk g (At g))->0<=ex/\ex<3->(0<=mn/\mn<=mx/\mx<=mn+3/\mn<=10)->(h+1=aj->mn=0/\mx=0)->j<=l.length ->
   Qy 400 up (aj:Int) (atL At) G.Tr G.Bt (encI l) k0 m ((h+1:Nat):Int) (acc++[[Q4 (Ro.length:Nat),Q4 ex,Q4 mn,Q4 mx]]) (Ro++[[D.sl 2 s,Q4 0]]) (j:Int)∈P) :
  Qy 400 up (aj:Int) (atL At) G.Tr G.Bt (encI l) k0 (m+1) (h:Int) acc Ro (i:Int)∈P:=by
 have au:=hG.hN;have ay:g<aj:=by
  rw [hg];cases up
  ·show aj-1-h<aj;omega
  ·exact hh
 have aq:g+1<G.N:=by omega
 obtain ⟨s,hs,e⟩:=QeI (R:=LL × Int) hG (up:=up) aq (an g) (an (g+1));have d:wJ ((h:Int)+1)=((h+1:Nat):Int):=by rw [Q7 (by omega) (by omega)];omega
 have f:wJ ((g:Int)+1)=((g+1:Nat):Int):=by rw [Q7 (by omega) (by omega)];omega
 have k:up=false->wJ (wJ ((aj:Int)-1)-(h:Int))=(g:Int):=by
  intro hu;rw [Q7 (x:=(aj:Int)-1) (by omega) (by omega),Q7 (by omega) (by omega)];simp [hu] at hg;omega
 have ak:wJ ((((Ro++[[D.sl 2 s,Q4 0]]).length:Nat):Int)-1)=((Ro.length:Nat):Int):=by
  rw [show (Ro++[[D.sl 2 s,Q4 0]]).length=Ro.length+1 by simp,Q7 (by omega) (by omega)];omega
 rw [Qy,QX (by simp;omega),d];cases up
 ·rw [QX (c:=!false) rfl,k rfl,f,atA (by omega),atA (by omega),e,Q0,XF (by simp;omega),Q0];refine Vq hl hi (by decide) (by decide) fun ex j a b hj=>?_
  dsimp only;rw [ak];by_cases hlast:h+1<aj
  ·rw [QX (by simp;omega)];refine Vq hl hj (by decide) (by decide) fun mn j n o hj=>?_
   refine Vq hl hj (by decide) (by decide) fun mx j p q hj=>?_
   rw [XF (by simp;omega),Q0];dsimp only;rw [Q7 (x:=5+mn) (by omega) (by omega),Q7 (x:=5+mn+mx) (by omega) (by omega)];exact H s ex (5+mn) (5+mn+mx) j hs ⟨a,b⟩ ⟨by omega,by omega,by omega,by omega⟩ (fun hx=>absurd hx (by omega)) hj
  ·rw [Q9 (by simp;omega),XF (by simp;omega),Q0];exact H s ex 0 0 j hs ⟨a,b⟩ ⟨by omega,by omega,by omega,by omega⟩ (fun hx=>⟨rfl,rfl⟩) hj
 ·have ar:g=h:=by simpa using hg
  subst ar;rw [Q9 (c:=!true) rfl,atA (by omega),atA (by omega),e,Q0,XF (by simp;omega),Q0];refine Vq hl hi (by decide) (by decide) fun ex j a b hj=>?_
  dsimp only;rw [ak];by_cases hlast:g+1<aj
  ·rw [QX (by simp;omega)];refine Vq hl hj (by decide) (by decide) fun mn j n o hj=>?_
   refine Vq hl hj (by decide) (by decide) fun mx j p q hj=>?_
   rw [XF (by simp;omega),Q0];dsimp only;rw [Q7 (x:=5+mn) (by omega) (by omega),Q7 (x:=5+mn+mx) (by omega) (by omega)];exact H s ex (5+mn) (5+mn+mx) j hs ⟨a,b⟩ ⟨by omega,by omega,by omega,by omega⟩ (fun hx=>absurd hx (by omega)) hj
  ·rw [Q9 (by simp;omega),XF (by simp;omega),Q0];exact H s ex 0 0 j hs ⟨a,b⟩ ⟨by omega,by omega,by omega,by omega⟩ (fun hx=>⟨rfl,rfl⟩) hj
omit hl hG in
theorem Q65 {n m:Nat} {f:Bool} {b a:Int} {g i j k c d:LL} {e:Int} {k0:Int->Bool->LL->LL->Int->oP R} (h:¬ a<b) :
  Qy n f b g i j k k0 (m+1) a c d e=k0 a false c d e:=by
 rw [Qy,Q9 (by simpa using h)];simp [h]
theorem Qg6 {up:Bool} {an:Nat} {Ro Ls:LL} (hm:an=1\/an=2) (hN:an<G.N) (aj:GoodP G Ro Ls) (hR:Ro.length<=20) (hL:Ls.length<6)
  {i:Nat} (hi:i<=l.length) {K:Int->LL->LL->oP R}
  (H:∀ (Ro' Ls':LL) (j:Nat),GoodP G Ro' Ls'->Ls'.length=Ls.length+1->Ro'.length<=Ro.length+2->j<=l.length->K (j:Int) Ro' Ls'∈P) :
  UM 400 G.Tr G.Bt (encI l) (i:Int) Ro Ls up (an:Int) K∈P:=by
 unfold UM;rw [CA _ _ Ls.length (by omega) (by decide),Q0];refine Vq hl hi (by decide) (by decide) fun w j w0 w1 hj=>?_
 dsimp only;refine Qht hl hj fun At j au hj=>?_
 rcases hm with rfl | rfl
 ·refine Qby hl hG (h:=0) (g:=0) au (by decide) (by decide) (by simp_all) hN (by omega) (by decide) hj fun s ex mn mx j hs ar aq hlast hj=>?_
  rw [Q65 (by decide)];rw [XF (by simp;omega),Q0];refine H _ _ j ⟨fun row hr=>?_,fun k row hk=>?_⟩ (by simp) (by simp) hj
  ·rcases Qj0.1 hr with hr | hr
   ·exact aj.ro row hr
   grind
  ·rcases Nat.lt_or_ge k Ls.length with ak | ak
   ·rw [List.getElem?_append_left ak] at hk;exact (aj.ls k row hk).mono
   ·rw [List.getElem?_append_right ak] at hk;obtain ⟨a,rfl⟩:=QiW.1 hk;simp at a;have b:k=Ls.length:=by omega
    subst b;refine ⟨w,_,by simp [nmN],w0,w1,.inl ⟨_,_,_,rfl,Ro.length,ex,mn,mx,s,rfl,by simp,hs,ar,aq,fun _=>hlast rfl⟩⟩
 ·obtain ⟨g0,c⟩:∃ g0,g0=bif up then 0 else 1:=⟨_,rfl⟩
  obtain ⟨g1,d⟩:∃ g1,g1=bif up then 1 else 0:=⟨_,rfl⟩
  refine Qby hl hG (h:=0) (g:=g0) au (by decide) (by decide) (by cases up <;> simpa using c) hN (by omega) (by decide) hj fun s ex mn mx j hs ar aq hlast hj=>?_
  refine Qby hl hG (h:=1) (g:=g1) au (by decide) (by decide) (by cases up <;> simpa using d) hN (by simp;omega) (by simp) hj fun s' a2 a3 a4 j ax ay aw ao hj=>?_
  have az:(bif up then G.tk (g0+1) (At (g0+1)) else G.tk g0 (At g0))=(bif up then G.tk g1 (At g1) else G.tk (g1+1) (At (g1+1))):=by
   subst c d;cases up <;> rfl
  rw [az] at hs;rw [Q65 (by decide)];rw [XF (by simp;omega),Q0];refine H _ _ j ⟨fun row hr=>?_,fun k row hk=>?_⟩ (by simp) (by simp) hj
  ·rcases Qj0.1 hr with hr | hr
   ·rcases Qj0.1 hr with hr | hr
    ·exact aj.ro row hr
    ·rw [List.mem_singleton.1 hr];exact ⟨s,_,_,rfl,hs⟩
   ·rw [List.mem_singleton.1 hr];exact ⟨s',_,_,rfl,ax⟩
  ·rcases Nat.lt_or_ge k Ls.length with ak | ak
   ·rw [List.getElem?_append_left ak] at hk;exact (aj.ls k row hk).mono.mono
   ·rw [List.getElem?_append_right ak] at hk;obtain ⟨a,rfl⟩:=QiW.1 hk;simp at a;have b:k=Ls.length:=by omega
    subst b;refine ⟨w,_,by simp [nmN],w0,w1,.inr ⟨_,_,_,_,_,rfl,TH.mono ⟨Ro.length,ex,mn,mx,s,rfl,by simp,hs,ar,aq,fun h=>by cases h⟩,(Ro++[[D.sl 2 s,Q4 0]]).length,a2,a3,a4,s',rfl,by simp,ax,ay,aw,fun _=>ao rfl⟩⟩
end
end Go.Vx
namespace Go.Vx
variable {R:Type}
def Nl (n:Nat) (q:Int) (r c d s t u v:LL) (a1 a2:Int) (K:Int->oP R):oP R:= gb true (Q1 d a1) [] fun e=>gb true (e[3]?) oF fun f=>gb true (pSl 4 f) [] fun g=>gb true (Q1 g a2) [] fun h=>gb true (h[0]?) oF fun i=>gb true (pIw i) 0 fun j=>gb true (Q1 c j) [] fun a=>gb true (a[0]?) oF fun b=>gb true (a[1]?) oF fun x=>gb true (pSl 2 b) [] fun k=>gb true (pSl 2 b) [] fun l=>gb true (Q1 k (wJ ((l.length:Int)-1))) [] fun m=>gb true (m[0]?) oF fun o=>gb true (pIw o) 0 fun p=>K p
end Go.Vx
namespace Go.Vx
variable {R:Type}
def PF (n:Nat) (p:Int) (q a b r s t u:LL) (a1 a2:Int) (K:Int->oP R):oP R:= gb true (Q1 b a1) [] fun c=>gb true (c[3]?) oF fun d=>gb true (pSl 4 d) [] fun e=>gb true (Q1 e a2) [] fun f=>gb true (f[0]?) oF fun g=>gb true (pIw g) 0 fun h=>gb true (Q1 a h) [] fun i=>gb true (i[0]?) oF fun j=>gb true (pSl 2 j) [] fun k=>gb true (Q1 k 0) [] fun l=>gb true (l[0]?) oF fun m=>gb true (pIw m) 0 fun o=>K o
end Go.Vx
namespace Go.Vx
variable {R:Type}
def Yn (n:Nat) (c p:Int) (q r f s t u h:LL) (v:Int) (k0:Int->Bool->LL->LL->LL->Int->oP R):Nat->Int->LL->LL->LL->Int->oP R
 | 0,_,_,_,_,_=>none
 | m+1,b,i,j,g,y=>bif decide (b<p) then gb true (Q5 n h y 3 Tu2) (0,0) fun a=>gb (decide (a.1>0)) (inB 4 c) () fun al=>gb (decide (a.1>0)) (i[c.toNat]?) [] fun z=>gb (decide (a.1>0)) (z[0]?) oF fun aa=>gb (decide (a.1>0)) (Kl aa) false fun d=>gb (bif decide (a.1>0) then (!d) else false) (inB 4 b) () fun am=>gb (bif decide (a.1>0) then (!d) else false) (j[b.toNat]?) [] fun ab=>gb (bif decide (a.1>0) then (!d) else false) (ab[0]?) oF fun ac=>gb (bif decide (a.1>0) then (!d) else false) (Kl ac) false fun e=>gb (bif (bif decide (a.1>0) then (!d) else false) then (!e) else false) (inB (f.length) c) () fun an=>gb (bif (bif decide (a.1>0) then (!d) else false) then (!e) else false) (f[c.toNat]?) [] fun ad=>gb (bif (bif decide (a.1>0) then (!d) else false) then (!e) else false) (ad[3]?) oF fun ae=>gb (bif (bif decide (a.1>0) then (!d) else false) then (!e) else false) (pSl 4 ae) [] fun ag=>gb (bif (bif decide (a.1>0) then (!d) else false) then (!e) else false) (Nl n v q r f s g t u c (wJ ((ag.length:Int)-1)) some) 0 fun ah=>gb (bif (bif decide (a.1>0) then (!d) else false) then (!e) else false) (PF n v q r f s g t u b 0 some) 0 fun ai=>bif (bif (bif (bif decide (a.1>0) then (!d) else false) then (!e) else false) then (ah == ai) else false) then gb true (inB 4 c) () fun ao=>gb true (i[c.toNat]?) [] fun aj=>gb true (inB 4 b) () fun ap=>gb true (j[b.toNat]?) [] fun ak=>gb true (Q5 n h a.2 10 Tu2) (0,0) fun o=>gb true (Q5 n h o.2 30 Tu2) (0,0) fun x=>gb true (Yf ((g.length+[[Q4 c,Q4 b,Q4 (wJ (10+o.1)),Q4 (wJ ((wJ (10+o.1))+x.1))]].length)*32)) () fun aq=>Yn n c p q r f s t u h v k0 m (wJ (b+1)) (List.set i c.toNat (List.set aj 0 (D.bool true))) (List.set j b.toNat (List.set ak 0 (D.bool true))) (g++[[Q4 c,Q4 b,Q4 (wJ (10+o.1)),Q4 (wJ ((wJ (10+o.1))+x.1))]]) x.2 else Yn n c p q r f s t u h v k0 m (wJ (b+1)) i j g a.2 else k0 b (decide (b<p)) i j g y
def WZ (n:Nat) (a:Int) (c d b e f g h:LL) (i:Int) (k0:Int->Bool->LL->LL->LL->Int->oP R):Nat->Int->LL->LL->LL->Int->oP R
 | 0,_,_,_,_,_=>none
 | m+1,h2,j,k,l,o=>bif decide (h2<a) then Yn n h2 (b.length:Int) c d b e f g h i (fun t u p q r s=>WZ n a c d b e f g h i k0 m (wJ (h2+1)) p q r s) n 0 j k l o else k0 h2 (decide (h2<a)) j k l o
def SU (n:Nat) (b:LL) (c d:Int) (e f a g h i j:LL) (K:Int->LL->oP R):oP R:= WZ n (a.length:Int) e f a g i j b d (fun m o p q k l=>K l k) n 0 [[D.bool false],[D.bool false],[D.bool false],[D.bool false]] [[D.bool false],[D.bool false],[D.bool false],[D.bool false]] h c
end Go.Vx
namespace Go.Vx
def T4 (Ls:LL) (k i:Nat) (r:List D):Prop:=∃ nm w rides,Ls[k]? = some [D.str nm,Q4 0,Q4 w,D.sl 4 rides]/\rides[i]? = some r
theorem Qe (w:LL) (i:Nat):Q1 w (i:Int)=w[i]?:=by simp [Q1]
section
variable {R:Type} {n:Nat}
theorem QaZ {G:Geo} {Ro Ls:LL} {k i:Nat} {r:List D} {x y:Int} {b:Bool} (h:T4 Ls k i r) (hr:TH G Ro r x y b) {p:Int} {a1 a c e f:LL} (K:Int->oP R):PF n p a1 Ro Ls a c e f (k:Int) (i:Int) K=K x:=by
 obtain ⟨nm,w,rides,j,h2⟩:=h;obtain ⟨rt,ex,mn,mx,s,rfl,l,g,_⟩:=hr;obtain ⟨d,m⟩:=g.fst
 simp_all [PF,Qe,Q0,List.getElem?_cons_zero,List.getElem?_cons_succ,QG,Q3]
theorem QdF {G:Geo} {Ro Ls:LL} {k i:Nat} {r:List D} {x y:Int} {b:Bool} (h:T4 Ls k i r) (hr:TH G Ro r x y b) {p:Int} {a1 c e f g:LL} (K:Int->oP R):Nl n p a1 Ro Ls c e f g (k:Int) (i:Int) K=K y:=by
 obtain ⟨nm,w,rides,j,h2⟩:=h;obtain ⟨rt,ex,mn,mx,s,rfl,l,a,_⟩:=hr;obtain ⟨d,m⟩:=a.lst;have l2:=a.l2;have l24:=a.l24;unfold Nl;rw [Qe,j,Q0];dsimp only [List.getElem?_cons_zero,List.getElem?_cons_succ];rw [Q0,QG,Q0,Qe,h2,Q0];dsimp only [List.getElem?_cons_zero,List.getElem?_cons_succ];rw [Q0,Q3,Q0,Qe,l,Q0];dsimp only [List.getElem?_cons_zero,List.getElem?_cons_succ];rw [Q0,Q0,QG,Q0,Q0,Q7 (by omega) (by omega),m];rfl
end
theorem Q5s {G:Geo} {Ro Ls:LL} (hg:GoodP G Ro Ls) {k:Nat} (hk:k<Ls.length) :
  ∃ (w:Int) (rides:LL) (r r':List D) (x x' y y':Int) (b:Bool),Ls[k]? = some [D.str (nmN k),Q4 0,Q4 w,D.sl 4 rides]/\(rides.length=1\/rides.length=2)/\rides[0]? = some r/\rides[rides.length-1]? = some r'/\TH G Ro r x y b/\TH G Ro r' x' y' true:=by
 obtain ⟨w,rides,c,h2,d,a⟩:=hg.ls k _ (QiT hk);refine ⟨w,rides,?_⟩;rcases a with ⟨r,x,y,rfl,h⟩ | ⟨r,r',x,y,z,rfl,h,h'⟩
 all_goals grind
abbrev Tup:=Nat × Nat × Int × Int
def tuR (t:Tup):List D:=[Q4 t.1,Q4 t.2.1,Q4 t.2.2.1,Q4 t.2.2.2]
def Q8L (G:Geo) (Ro Ls:LL) (t:Tup):Prop:=
 t.1<Ls.length/\t.2.1<Ls.length/\10<=t.2.2.1/\t.2.2.1<=19/\t.2.2.1<=t.2.2.2/\t.2.2.2<=t.2.2.1+29 /\
 ∃ (nm:List UInt8) (w:Int) (rides:LL) (r r':List D) (x y z:Int) (b b':Bool),Ls[t.1]? = some [D.str nm,Q4 0,Q4 w,D.sl 4 rides]/\rides[rides.length-1]? = some r/\1<=rides.length/\rides.length<=2/\T4 Ls t.2.1 0 r'/\TH G Ro r x y b/\TH G Ro r' y z b'
structure TInv (G:Geo) (Ro Ls:LL) (T:List Tup) (FA TA:LL):Prop where
 ok:∀ t∈T,Q8L G Ro Ls t
 fd:(T.map (·.1)).Nodup
 td:(T.map (·.2.1)).Nodup
 fl:∀ i,i<4->∃ b,FA[i]? = some [D.bool b]/\(b=false->i ∉ T.map (·.1))
 tl:∀ i,i<4->∃ b,TA[i]? = some [D.bool b]/\(b=false->i ∉ T.map (·.2.1))
theorem gbF {α R:Type} (p:Option α) (z:α) (k:α->oP R):gb false p z k=k (p.getD z):=by cases p <;> rfl
theorem TInv.add {G:Geo} {Ro Ls:LL} {T:List Tup} {FA TA:LL} (h:TInv G Ro Ls T FA TA) {t:Tup} (ht:Q8L G Ro Ls t) (d:t.1 ∉ T.map (·.1)) (h2:t.2.1 ∉ T.map (·.2.1)):TInv G Ro Ls (T++[t]) (FA.set t.1 [D.bool true]) (TA.set t.2.1 [D.bool true]) where
 ok:=fun u hu=>by
  rcases Qj0.1 hu with hu | hu
  ·exact h.ok u hu
  simp_all
 fd:=by
  rw [List.map_append,List.nodup_append];refine ⟨h.fd,by simp,fun a ha b hb=>?_⟩
  grind
 td:=by
  rw [List.map_append,List.nodup_append];refine ⟨h.td,by simp,fun a ha b hb=>?_⟩;simp at hb;subst hb;intro e;subst e;exact h2 ha
 fl:=fun i hi=>by
  obtain ⟨b,e,hb⟩:=h.fl i hi;by_cases aj:t.1=i
  ·subst aj;refine ⟨true,?_,fun h=>by cases h⟩;rw [List.getElem?_set_self (QiW.1 e).1]
  ·refine ⟨b,by rw [List.getElem?_set_ne aj];exact e,fun c hm=>?_⟩;rw [List.map_append] at hm;rcases Qj0.1 hm with hm | hm
   ·exact hb c hm
   ·simp at hm;exact aj hm.symm
 tl:=fun i hi=>by
  obtain ⟨b,e,hb⟩:=h.tl i hi;by_cases aj:t.2.1=i
  ·subst aj;refine ⟨true,?_,fun h=>by cases h⟩;rw [List.getElem?_set_self (QiW.1 e).1]
  ·refine ⟨b,by rw [List.getElem?_set_ne aj];exact e,fun c hm=>?_⟩;rw [List.map_append] at hm;rcases Qj0.1 hm with hm | hm
   ·exact hb c hm
   ·simp at hm;exact aj hm.symm
section
variable {R:Type} {l:List Int} (hl:l.length<=9223372036854775807) {P:R->Prop} {G:Geo} {Ro Ls:LL} (hg:GoodP G Ro Ls) (hL:Ls.length<=3)
include hl hg hL
theorem Qf6 {a b m:Nat} {b1:Int} {FA TA c d e f:LL} {T:List Tup} (ha:a<Ls.length) (hb:b<Ls.length) (hT:TInv G Ro Ls T FA TA) (a6:T.length<=100) {i:Nat} (hi:i<=l.length) {k0:Int->Bool->LL->LL->LL->Int->oP R}
  (H:∀ (FA TA:LL) (T':List Tup) (j:Nat),TInv G Ro Ls T' FA TA->T'.length<=T.length+1->j<=l.length->Yn 400 (a:Int) ((Ls.length:Nat):Int) c Ro Ls d e f (encI l) b1 k0 m ((b+1:Nat):Int) FA TA (T'.map tuR) (j:Int)∈P) :
  Yn 400 (a:Int) ((Ls.length:Nat):Int) c Ro Ls d e f (encI l) b1 k0 (m+1) (b:Int) FA TA (T.map tuR) (i:Int)∈P:=by
 have ay:wJ ((b:Int)+1)=((b+1:Nat):Int):=by rw [Q7 (by omega) (by omega)];omega
 rw [Yn,QX (by simp;omega),ay];refine Vq hl hi (by decide) (by decide) fun v j s u hj=>?_
 dsimp only;have aj:=H FA TA T j hT (by omega) hj;by_cases hv:v=0
 ·subst hv;rw [show decide ((0:Int)>0)=false from rfl];simp only [gbF,QiS];exact aj
 rw [show decide (v>0)=true by simp;omega];obtain ⟨fb,ef,hf⟩:=hT.fl a (by omega);obtain ⟨tb,et,ht⟩:=hT.tl b (by omega);rw [Y0 (by omega) (by omega),Q0,Int.toNat_natCast,ef,Q0];show gb true (some (D.bool fb)) _ (fun n=>gb true (Kl n) _ _)∈P;rw [Q0,show Kl (D.bool fb)=some fb from rfl,Q0];cases fb
 case true=>
  simp only [gbF,QiV,QiS,QiX];exact aj
 rw [show (bif true then !false else false)=true from rfl,Y0 (by omega) (by omega),Q0,Int.toNat_natCast,et,Q0];show gb true (some (D.bool tb)) _ (fun o=>gb true (Kl o) _ _)∈P;rw [Q0,show Kl (D.bool tb)=some tb from rfl,Q0];cases tb
 case true=>
  simp only [gbF,QiV,QiS,QiX];exact aj
 obtain ⟨w,rides,z,r,x0,x,y0,y,b0,e1,e2,e3,g,e5,h⟩:=Q5s hg ha;obtain ⟨w',aq,r',r1,x',x1,y',y1,a9,g1,g2,p,g4,k,g6⟩:=Q5s hg hb;have ax:T4 Ls a (rides.length-1) r:=⟨_,_,_,e1,g⟩;have ao:T4 Ls b 0 r':=⟨_,_,_,g1,p⟩;have a2:wJ (((rides.length:Nat):Int)-1)=((rides.length-1:Nat):Int):=by rw [Q7 (by omega) (by omega)];omega
 rw [show (bif true then !false else false)=true from rfl,Y0 (by omega) (by omega),Q0,e1,Q0];show gb true (some (D.sl 4 rides)) _ (fun q=>gb true (pSl 4 q) _ _)∈P;rw [Q0,QG,Q0,a2,QdF ax h,Q0,show (0:Int)=((0:Nat):Int) from rfl,QaZ ao k,Q0];by_cases an:y=x'
 case neg=>
  rw [Q9 (by simpa using an)];exact aj
 subst an;rw [QX (by simp),Q0,Q0,Q0,Q0];refine Vq hl hj (by decide) (by decide) fun lo j l0 l1 hj=>?_
 refine Vq hl hj (by decide) (by decide) fun ak j h0 h1 hj=>?_
 dsimp only;rw [XF (by simp;omega),Q0,Q7 (x:=10+lo) (by omega) (by omega),Q7 (x:=10+lo+ak) (by omega) (by omega)];have:=H _ _ (T++[(a,b,10+lo,10+lo+ak)]) j (hT.add (t:=(a,b,10+lo,10+lo+ak)) ⟨ha,hb,by simp;omega,by simp;omega,by simp;omega,by simp;omega,_,_,_,_,_,_,_,_,_,_,e1,g,by omega,by omega,ao,h,k⟩ (hf rfl) (ht rfl)) (by simp) hj;rw [List.map_append] at this;exact this
theorem Qb1 {a:Nat} {b1:Int} {c d e f:LL} (ha:a<Ls.length) {k0:Int->Bool->LL->LL->LL->Int->oP R}:∀ (k m b:Nat) (FA TA:LL) (T:List Tup) (i:Nat),b+k=Ls.length->k<m->TInv G Ro Ls T FA TA->T.length+k<=60->i<=l.length ->
  (∀ (FA TA:LL) (T':List Tup) (j:Nat),TInv G Ro Ls T' FA TA->T'.length<=T.length+k->j<=l.length->k0 ((Ls.length:Nat):Int) false FA TA (T'.map tuR) (j:Int)∈P) ->
  Yn 400 (a:Int) ((Ls.length:Nat):Int) c Ro Ls d e f (encI l) b1 k0 m (b:Int) FA TA (T.map tuR) (i:Int)∈P
 |0,m+1,b,FA,TA,T,i,hb,_,hT,an,hi,H=>by
  subst hb;rw [Yn,Q9 (by simp),show decide (((Ls.length:Nat):Int)<((Ls.length:Nat):Int))=false by simp]
  simp_all
 |k+1,m+1,b,FA,TA,T,i,hb,hm,hT,an,hi,H=>by
  refine Qf6 hl hg hL ha (by omega) hT (by omega) hi fun FA TA T' j ao ar hj=>?_
  exact Qb1 ha k m (b+1) FA TA T' j (by omega) (by omega) ao (by omega) hj fun FA TA T'' j aj ak hj=>H FA TA T'' j aj (by omega) hj
theorem QaL {b1:Int} {b c d e:LL} {k0:Int->Bool->LL->LL->LL->Int->oP R}:∀ (k m a:Nat) (FA TA:LL) (T:List Tup) (i:Nat),a+k=Ls.length->k<m->TInv G Ro Ls T FA TA->T.length+3*k<=50->i<=l.length ->
  (∀ (FA TA:LL) (T':List Tup) (j:Nat),TInv G Ro Ls T' FA TA->T'.length<=T.length+3*k->j<=l.length->k0 ((Ls.length:Nat):Int) false FA TA (T'.map tuR) (j:Int)∈P) ->
  WZ 400 ((Ls.length:Nat):Int) b Ro Ls c d e (encI l) b1 k0 m (a:Int) FA TA (T.map tuR) (i:Int)∈P
 |0,m+1,a,FA,TA,T,i,hb,_,hT,an,hi,H=>by
  subst hb;rw [WZ,Q9 (by simp),show decide (((Ls.length:Nat):Int)<((Ls.length:Nat):Int))=false by simp]
  simp_all
 |k+1,m+1,a,FA,TA,T,i,hb,hm,hT,an,hi,H=>by
  rw [WZ,QX (by simp;omega)];refine Qb1 hl hg hL (by omega) Ls.length 400 0 FA TA T i (by omega) (by omega) hT (by omega) hi fun FA TA T' j ao ar hj=>?_
  rw [show wJ ((a:Int)+1)=((a+1:Nat):Int) by grind [Q7]];exact QaL k m (a+1) FA TA T' j (by omega) (by omega) ao (by omega) hj fun FA TA T'' j aj ak hj=>H FA TA T'' j aj (by omega) hj
theorem QeZ {b1:Int} {a b c d:LL} {i:Nat} (hi:i<=l.length) {K:Int->LL->oP R}
  (H:∀ (T:List Tup) (j:Nat),(∀ t∈T,Q8L G Ro Ls t)->(T.map (·.1)).Nodup->(T.map (·.2.1)).Nodup->T.length<=20->j<=l.length->K (j:Int) (T.map tuR)∈P) :
  SU 400 (encI l) (i:Int) b1 a Ro Ls b [] c d K∈P:=by
 refine QaL hl hg hL (T:=[]) Ls.length 400 0 _ _ i (by omega) (by omega) ⟨by simp,by simp,by simp,?_,?_⟩ (by simp;omega) hi fun FA TA T j hT ak hj=>?_
 ·intro i hi;obtain rfl | rfl | rfl | rfl:i=0\/i=1\/i=2\/i=3:=by omega
  all_goals simp
 ·intro i hi;obtain rfl | rfl | rfl | rfl:i=0\/i=1\/i=2\/i=3:=by omega
  all_goals simp_all
 ·exact H T j hT.ok hT.fd hT.td (by grind) hj
end
end Go.Vx
namespace Go.Vx
variable {R:Type}
def BN (n:Nat) (a0:LL) (K:LL->Int->oP R):oP R:= K a0 0
end Go.Vx
namespace Go.Vx
variable {R:Type}
def JT (n:Nat) (c g e:LL) (k0:Int->Bool->Int->LL->LL->oP R):Nat->Int->Int->LL->LL->oP R
 | 0,_,_,_,_=>none
 | m+1,d,h,i,j=>bif decide (d>0) then gb true (Q5 n c h 2 Tu2) (0,0) fun k=>gb true (Q5 n c k.2 (e.length:Int) Tu2) (0,0) fun l=>gb true (UM n g e c l.2 i j (k.1 == 0) (wJ (1+l.1)) Tu3) (0,[],[]) fun f=>JT n c g e k0 m (wJ (d-1)) f.1 f.2.1 f.2.2 else k0 d (decide (d>0)) h i j
def VT (n:Nat) (h:Int) (e k l a f o:LL) (k0:Int->Bool->Int->LL->oP R):Nat->Int->Int->LL->oP R
 | 0,_,_,_=>none
 | m+1,i,t,g=>bif (bif decide (i>0) then (decide ((a.length:Int)>1)) else false) then gb true (Q5 n e t (a.length:Int) Tu2) (0,0) fun d=>gb true (Q5 n e d.2 3 Tu2) (0,0) fun s=>gb true (nz (a.length:Int)) () fun ak=>gb true (inB (a.length) d.1) () fun al=>gb true (a[(Int.toNat d.1)]?) [] fun x=>gb true (x[3]?) oF fun y=>gb true (pSl 4 y) [] fun z=>gb true (Q5 n e s.2 (z.length:Int) Tu2) (0,0) fun p=>gb true (inB (a.length) (Int.tmod (wJ (d.1+1)) (a.length:Int))) () fun am=>gb true (a[(Int.toNat (Int.tmod (wJ (d.1+1)) (a.length:Int)))]?) [] fun aa=>gb true (aa[3]?) oF fun ab=>gb true (pSl 4 ab) [] fun ac=>gb true (Q5 n e p.2 (ac.length:Int) Tu2) (0,0) fun q=>gb true (Q5 n e q.2 20 Tu2) (0,0) fun j=>gb true (Q5 n e j.2 h Tu2) (0,0) fun r=>gb true (Nl n h k l a g o [] [] d.1 p.1 some) 0 fun u=>gb true (inB (f.length) u) () fun an=>gb true (f[u.toNat]?) [] fun ad=>gb true (ad[4]?) oF fun ae=>gb true (pIw ae) 0 fun ag=>gb true (PF n h k l a g o [] [] (Int.tmod (wJ (d.1+1)) (a.length:Int)) q.1 some) 0 fun v=>gb true (inB (f.length) v) () fun ao=>gb true (f[v.toNat]?) [] fun ah=>gb true (ah[4]?) oF fun ai=>gb true (pIw ai) 0 fun aj=>bif (ag == aj) then gb true (Yf ((g.length+[[Q4 d.1,Q4 p.1,Q4 (Int.tmod (wJ (d.1+1)) (a.length:Int)),Q4 q.1,Q4 j.1,Q4 (wJ (j.1+r.1)),Q4 s.1]].length)*56)) () fun ap=>VT n h e k l a f o k0 m (wJ (i-1)) r.2 (g++[[Q4 d.1,Q4 p.1,Q4 (Int.tmod (wJ (d.1+1)) (a.length:Int)),Q4 q.1,Q4 j.1,Q4 (wJ (j.1+r.1)),Q4 s.1]]) else VT n h e k l a f o k0 m (wJ (i-1)) r.2 g else k0 i (bif decide (i>0) then (decide ((a.length:Int)>1)) else false) t g
def V6 (n:Nat) (e a:LL) (k0:Int->Bool->Int->LL->oP R):Nat->Int->Int->LL->oP R
 | 0,_,_,_=>none
 | m+1,f,j,g=>bif decide (f>0) then gb true (Q5 n e j (a.length:Int) Tu2) (0,0) fun d=>gb true (Q5 n e d.2 (wJ ((a.length:Int)-1)) Tu2) (0,0) fun h=>gb true (nz (a.length:Int)) () fun k=>gb true (Q5 n e h.2 9 Tu2) (0,0) fun i=>gb true (Yf ((g.length+[[Q4 d.1,Q4 (Int.tmod (wJ ((wJ (d.1+1))+h.1)) (a.length:Int)),Q4 (wJ (1+i.1))]].length)*24)) () fun l=>V6 n e a k0 m (wJ (f-1)) i.2 (g++[[Q4 d.1,Q4 (Int.tmod (wJ ((wJ (d.1+1))+h.1)) (a.length:Int)),Q4 (wJ (1+i.1))]]) else k0 f (decide (f>0)) j g
def KP (n:Nat) (e a:LL) (k0:Int->Bool->Int->LL->oP R):Nat->Int->Int->LL->oP R
 | 0,_,_,_=>none
 | m+1,f,j,g=>bif decide (f>0) then gb true (Q5 n e j (a.length:Int) Tu2) (0,0) fun d=>gb true (Q5 n e d.2 (wJ ((a.length:Int)-1)) Tu2) (0,0) fun h=>gb true (nz (a.length:Int)) () fun k=>gb true (Q5 n e h.2 9 Tu2) (0,0) fun i=>gb true (Yf ((g.length+[[Q4 d.1,Q4 (Int.tmod (wJ ((wJ (d.1+1))+h.1)) (a.length:Int)),Q4 (wJ (1+i.1))]].length)*24)) () fun l=>KP n e a k0 m (wJ (f-1)) i.2 (g++[[Q4 d.1,Q4 (Int.tmod (wJ ((wJ (d.1+1))+h.1)) (a.length:Int)),Q4 (wJ (1+i.1))]]) else k0 f (decide (f>0)) j g
def PQ (n:Nat) (a0:LL) (K:LL->LL->LL->LL->Int->LL->LL->LL->LL->LL->LL->LL->oP R):oP R:= gb true (BN n a0 Tu2) ([],0) fun a=>gb true (Q1y n a.1 a.2 Tu8) ([],[],[],[],[],[],[],0) fun c=>gb true (Q5 n a.1 c.2.2.2.2.2.2.2 6 Tu2) (0,0) fun d=>gb true (inB (List.length [[Q4 150],[Q4 120],[Q4 180],[Q4 240],[Q4 300],[Q4 90]]) d.1) () fun u4=>gb true ([[Q4 150],[Q4 120],[Q4 180],[Q4 240],[Q4 300],[Q4 90]][(Int.toNat d.1)]?) [] fun m=>gb true (m[0]?) oF fun y=>gb true (pIw y) 0 fun e=>gb true (Q5 n a.1 d.2 2 Tu2) (0,0) fun f=>gb true (Q5 n a.1 f.2 4 Tu2) (0,0) fun g=>gb true (Q5 n a.1 g.2 3 Tu2) (0,0) fun h=>gb true (Q5 n a.1 h.2 3 Tu2) (0,0) fun i=>gb true (Q5 n a.1 i.2 3 Tu2) (0,0) fun q=>JT n a.1 c.2.2.2.2.1 c.2.2.2.2.2.1 (fun ae ag z k j=>gb true (SU n a.1 z e [[D.str (bs [88]),Q4 (wJ (1+f.1)),Q4 (wJ (10000+(wJ (5000*g.1)))),Q4 (wJ (400+(wJ (200*h.1)))),Q4 (wJ (400+(wJ (200*i.1))))]] k j [] [] [] [] Tu2) (0,[]) fun l=>gb true (Q5 n a.1 l.1 3 Tu2) (0,0) fun r=>VT n e a.1 [[D.str (bs [88]),Q4 (wJ (1+f.1)),Q4 (wJ (10000+(wJ (5000*g.1)))),Q4 (wJ (400+(wJ (200*h.1)))),Q4 (wJ (400+(wJ (200*i.1))))]] k j c.2.2.1 l.2 (fun ah ai aa s=>gb true (Q5 n a.1 aa 4 Tu2) (0,0) fun o=>bif (bif (o.1 == 3) then (decide ((j.length:Int)>1)) else false) then gb true (Q5 n a.1 o.2 e Tu2) (0,0) fun p=>gb true (Yf ((List.length ([]:LL)+[[Q4 0,Q4 0,Q4 1,Q4 0,Q4 p.1]].length)*40)) () fun aj=>gb true (Q5 n a.1 p.2 3 Tu2) (0,0) fun t=>V6 n a.1 c.1 (fun ak al am ab=>K c.1 c.2.1 c.2.2.1 c.2.2.2.1 e [[D.str (bs [88]),Q4 (wJ (1+f.1)),Q4 (wJ (10000+(wJ (5000*g.1)))),Q4 (wJ (400+(wJ (200*h.1)))),Q4 (wJ (400+(wJ (200*i.1))))]] k j s l.2 ([]++[[Q4 0,Q4 0,Q4 1,Q4 0,Q4 p.1]]) ab) n t.1 t.2 [] else gb true (Q5 n a.1 o.2 3 Tu2) (0,0) fun u=>KP n a.1 c.1 (fun an ao ap ac=>K c.1 c.2.1 c.2.2.1 c.2.2.2.1 e [[D.str (bs [88]),Q4 (wJ (1+f.1)),Q4 (wJ (10000+(wJ (5000*g.1)))),Q4 (wJ (400+(wJ (200*h.1)))),Q4 (wJ (400+(wJ (200*i.1))))]] k j s l.2 [] ac) n u.1 u.2 []) n r.1 r.2 []) n (wJ (1+q.1)) q.2 [] []
end Go.Vx
namespace Go.Vx
theorem Gs {w:LL} {x:Int} {r:List D} (h:Q1 w x=some r):inB w.length x=some ()/\w[x.toNat]? = some r:=by
 grind [Q1,List.getElem?_eq_some_iff,Y0]
def Q56 (G:Geo) (per:Int) (Ro Ls:LL) (row:List D):Prop:=
 ∃ (f fr t tr:Nat) (mn mx w:Int) (r r':List D) (x y x' y':Int) (b b':Bool) (i:Int),row=[Q4 f,Q4 fr,Q4 t,Q4 tr,Q4 mn,Q4 mx,Q4 w]/\T4 Ls f fr r/\T4 Ls t tr r'/\TH G Ro r x y b/\TH G Ro r' x' y' b'/\f≠t/\(0<=mn/\mn<20/\mn<=mx/\mx<mn+per)/\(0<=w/\w<3) /\
  (∃ nm a c d,Q1 G.Se y=some [D.str nm,Q4 a,Q4 c,Q4 d,Q4 i])/\(∃ nm a c d,Q1 G.Se x'=some [D.str nm,Q4 a,Q4 c,Q4 d,Q4 i])/\0<=i
def Qgg (per:Int) (Ls:LL) (row:List D):Prop:=∃ o:Int,row=[Q4 0,Q4 0,Q4 1,Q4 0,Q4 o]/\0<=o/\o<per/\2<=Ls.length
def Qgq (N:Nat) (row:List D):Prop:=∃ f t w:Int,row=[Q4 f,Q4 t,Q4 w]/\(0<=f/\f<N)/\(0<=t/\t<N)/\f≠t/\1<=w/\w<=9
def Q0i (Sk:LL):Prop:=∃ a b c d:Int,Sk=[[D.str (bs [88]),Q4 a,Q4 b,Q4 c,Q4 d]]/\StkN a b c d
structure PlanR (G:Geo) (per:Int) (Sk Ro Ls Ch Tu Sy De:LL):Prop where
 ok:G.OK
 p0:90<=per
 p1:per<=300
 sk:Q0i Sk
 good:GoodP G Ro Ls
 l0:1<=Ls.length
 l1:Ls.length<=3
 rl:Ro.length<=6
 ch:∀ row∈Ch,Q56 G per Ro Ls row
 chl:Ch.length<=2
 tu:∃ T:List Tup,Tu=T.map tuR/\(∀ t∈T,Q8L G Ro Ls t)/\(T.map (·.1)).Nodup/\(T.map (·.2.1)).Nodup/\T.length<=20
 sy:∀ row∈Sy,Qgg per Ls row
 syl:Sy.length<=1
 de:∀ row∈De,Qgq G.N row
 del:De.length<=2
theorem QhJ {pl:LL} (hp:pl=[[D.int .i64 (150:Int)],[D.int .i64 (120:Int)],[D.int .i64 (180:Int)],[D.int .i64 (240:Int)],[D.int .i64 (300:Int)],[D.int .i64 (90:Int)]]) {v:Int} (a:0<=v) (b:v<6) :
  ∃ per:Int,90<=per/\per<=300/\∀ {R:Type} (K:Int->oP R),gb true (inB (List.length pl) v) () (fun _=>gb true (pl[(Int.toNat v)]?) [] fun r=>gb true (r[0]?) oF fun c=>gb true (pIw c) 0 fun i=>K i)=K per:=by
 subst hp;obtain rfl | rfl | rfl | rfl | rfl | rfl:v=0\/v=1\/v=2\/v=3\/v=4\/v=5:=by omega
 ·exact ⟨150,by omega,by omega,fun K=>rfl⟩
 ·exact ⟨120,by omega,by omega,fun K=>rfl⟩
 ·exact ⟨180,by omega,by omega,fun K=>rfl⟩
 ·exact ⟨240,by omega,by omega,fun K=>rfl⟩
 ·exact ⟨300,by omega,by omega,fun K=>rfl⟩
 ·exact ⟨90,by omega,by omega,fun K=>rfl⟩
theorem Df {G:Geo} {Ro Ls:LL} (hg:GoodP G Ro Ls) {k:Nat} (hk:k<Ls.length):∃ (w:Int) (rides:LL),Ls[k]? = some [D.str (nmN k),Q4 0,Q4 w,D.sl 4 rides]/\(rides.length=1\/rides.length=2)/\∀ i,i<rides.length->∃ r x y b,T4 Ls k i r/\TH G Ro r x y b:=by
 obtain ⟨w,rides,c,h2,d,a⟩:=hg.ls k _ (QiT hk);have he:Ls[k]? = some [D.str (nmN k),Q4 0,Q4 w,D.sl 4 rides]:=by simp_all
 refine ⟨w,rides,he,?_⟩;rcases a with ⟨r,x,y,rfl,h⟩ | ⟨r,r',x,y,z,rfl,h,h'⟩
 ·refine ⟨.inl rfl,fun i hi=>?_⟩;have hi:i=0:=by simp_all
  subst hi;exact ⟨r,x,y,true,⟨_,_,_,he,rfl⟩,h⟩
 ·refine ⟨.inr rfl,fun i hi=>?_⟩;obtain rfl | rfl:i=0\/i=1:=by grind
  ·exact ⟨r,x,y,false,⟨_,_,_,he,rfl⟩,h⟩
  ·exact ⟨r',y,z,true,⟨_,_,_,he,rfl⟩,h'⟩
section
variable {R:Type} {l:List Int} (hl:l.length<=9223372036854775807) {P:R->Prop} {G:Geo} (hG:G.OK)
include hl hG
theorem Q2l {k0:Int->Bool->Int->LL->LL->oP R}:∀ (c m:Nat) (Ro Ls:LL) (i:Nat),c<m->Ls.length+c<=3->Ro.length<=2*Ls.length->GoodP G Ro Ls->i<=l.length ->
  (∀ (Ro' Ls':LL) (j:Nat),GoodP G Ro' Ls'->Ls'.length=Ls.length+c->Ro'.length<=2*Ls'.length->j<=l.length->k0 0 false (j:Int) Ro' Ls'∈P) ->
  JT 400 (encI l) G.Tr G.Bt k0 m (c:Int) (i:Int) Ro Ls∈P
 |0,m+1,Ro,Ls,i,_,_,hR,hg,hi,H=>by
  rw [JT];rw [Q9 (by simp),show decide (((0:Nat):Int)>0)=false by simp];exact H Ro Ls i hg rfl hR hi
 |c+1,m+1,Ro,Ls,i,hm,hL,hR,hg,hi,H=>by
  have hN:=hG.hN;have hb:=hG.btl;rw [JT];rw [QX (by simp)];refine Vq hl hi (by decide) (by decide) fun v j a b hj=>?_
  dsimp only;refine Vq hl hj (by omega) (by omega) fun d j g0 g1 hj=>?_
  dsimp only;obtain ⟨nv,rfl⟩:=QiZ g0;rw [Q7 (x:=1+(nv:Int)) (by omega) (by omega),show (1:Int)+(nv:Int)=((1+nv:Nat):Int) by omega];refine okB (Qg6 hl hG (by omega) (by omega) hg (by omega) (by omega) hj fun Ro' Ls' j ao aw au hj=>okI ?_);dsimp only;rw [show wJ (((c+1:Nat):Int)-1)=(c:Int) by rw [Q7 (by omega) (by omega)];omega];exact Q2l c m Ro' Ls' j (by omega) (by omega) (by omega) ao hj fun Ro'' Ls'' j aj ar ak hj=>H Ro'' Ls'' j aj (by omega) ak hj
omit hG in
theorem ME {per:Int} {Ro Ls k n:LL} (d:90<=per) (e:per<=300) (hg:GoodP G Ro Ls) (hL:Ls.length<=3) {k0:Int->Bool->Int->LL->oP R}:∀ (c m:Nat) (Ch:LL) (i:Nat),c<m->Ch.length+c<=2->(∀ row∈Ch,Q56 G per Ro Ls row)->i<=l.length ->
  (∀ (h:Int) (b:Bool) (Ch:LL) (j:Nat),(∀ row∈Ch,Q56 G per Ro Ls row)->Ch.length<=2->j<=l.length->k0 h b (j:Int) Ch∈P) ->
  VT 400 per (encI l) k Ro Ls G.Se n k0 m (c:Int) (i:Int) Ch∈P
 |0,m+1,Ch,i,_,a3,hC,hi,H=>by
  grind [VT]
 |c+1,m+1,Ch,i,hm,a3,hC,hi,H=>by
  rw [VT];rw [show decide (((c+1:Nat):Int)>0)=true by simp,QiX];by_cases o:Ls.length<=1
  ·rw [show decide (((Ls.length:Nat):Int)>1)=false by simp;omega,QiS];exact H _ _ Ch i hC (by omega) hi
  rw [show decide (((Ls.length:Nat):Int)>1)=true by simp;omega,QiX];refine Vq hl hi (by omega) (by omega) fun v j p o hj=>?_
  refine Vq hl hj (by decide) (by decide) fun w j w0 w1 hj=>?_
  dsimp only;obtain ⟨f,rfl⟩:=QiZ p;have hf:f<Ls.length:=by omega
  obtain ⟨t,et,ht,a4⟩:∃ t:Nat,Int.tmod (wJ ((f:Int)+1)) ((Ls.length:Nat):Int)=(t:Int)/\t<Ls.length/\f≠t:=by
   rw [Q7 (by omega) (by omega),Int.tmod_eq_emod_of_nonneg (by omega)];refine ⟨(f+1) % Ls.length,by simp,Nat.mod_lt _ (by omega),?_⟩;by_cases h:f+1<Ls.length
   ·rw [Nat.mod_eq_of_lt h];omega
   ·rw [show f+1=Ls.length by omega,Nat.mod_self];omega
  rw [et];obtain ⟨z,rides,e1,e2,q⟩:=Df hg hf;obtain ⟨bg,aw,a5,a7,ax⟩:=Df hg ht;rw [EE (by omega),Q0,Y0 (by omega) (by omega),Q0,Int.toNat_natCast,e1,Q0];dsimp only [List.getElem?_cons_zero,List.getElem?_cons_succ];rw [Q0,QG,Q0];refine Vq hl hj (by omega) (by omega) fun fr j a0 a1 hj=>?_
  dsimp only;rw [Y0 (by omega) (by omega),Q0,Int.toNat_natCast,a5,Q0];dsimp only [List.getElem?_cons_zero,List.getElem?_cons_succ];rw [Q0,QG,Q0];refine Vq hl hj (by omega) (by omega) fun tr j b0 b1 hj=>?_
  refine Vq hl hj (by decide) (by decide) fun mn j c0 c1 hj=>?_
  dsimp only;refine Vq hl hj (by omega) (by omega) fun mx j d0 d1 hj=>?_
  dsimp only;obtain ⟨fr,rfl⟩:=QiZ a0;obtain ⟨tr,rfl⟩:=QiZ b0;obtain ⟨r,x,y,b,hr,hR⟩:=q fr (by omega);obtain ⟨r',x',y',b',ak,an⟩:=ax tr (by omega);have ao:=hR;have aj:=an;obtain ⟨_,_,_,_,_,_,_,hS,_⟩:=hR;obtain ⟨_,_,_,_,_,_,_,az,_⟩:=an;obtain ⟨aa,a1,c1,d1,g,g1,s⟩:=hS.sy;obtain ⟨ab,a2,c2,d2,u,a,g4⟩:=az.sx;rw [QdF hr ao,Q0,(Gs g1).1,Q0,(Gs g1).2,Q0];dsimp only [List.getElem?_cons_zero,List.getElem?_cons_succ];rw [Q0,Q3,Q0,QaZ ak aj,Q0,(Gs a).1,Q0,(Gs a).2,Q0];dsimp only [List.getElem?_cons_zero,List.getElem?_cons_succ];rw [Q0,Q3,Q0];have ay:wJ (((c+1:Nat):Int)-1)=(c:Int):=by rw [Q7 (by omega) (by omega)];omega
  rw [ay];by_cases ar:g=u
  ·subst ar;rw [QX (by simp),XF (by simp;omega),Q0,Q7 (x:=mn+mx) (by omega) (by omega)];refine ME d e hg hL c m _ j (by omega) (by simp;omega) (fun row aq=>?_) hj H;rcases Qj0.1 aq with h | h
   ·exact hC row h
   ·rw [List.mem_singleton.1 h];exact ⟨f,fr,t,tr,mn,mn+mx,w,r,r',x,y,x',y',b,b',g,rfl,hr,ak,ao,aj,a4,⟨by omega,by omega,by omega,by omega⟩,⟨w0,w1⟩,⟨_,_,_,_,g1⟩,⟨_,_,_,_,a⟩,s⟩
  ·rw [Q9 (by simpa using ar)];exact ME d e hg hL c m _ j (by omega) (by omega) hC hj H
omit hl hG in
theorem QhO {N:Nat} (hN:N=2\/N=3) {f v:Int} (a:0<=f) (b:f<N) (g0:0<=v) (g1:v<N-1):∃ t:Int,Int.tmod (wJ ((wJ (f+1))+v)) ((N:Nat):Int)=t/\(0<=t/\t<N)/\f≠t:=by
 rw [Q7 (x:=f+1) (by omega) (by omega),Q7 (by omega) (by omega),Int.tmod_eq_emod_of_nonneg (by omega)]
 grind
theorem Q11 {k0:Int->Bool->Int->LL->oP R}:∀ (c m:Nat) (De:LL) (i:Nat),c<m->De.length+c<=2->(∀ row∈De,Qgq G.N row)->i<=l.length ->
  (∀ (h:Int) (b:Bool) (De:LL) (j:Nat),(∀ row∈De,Qgq G.N row)->De.length<=2->j<=l.length->k0 h b (j:Int) De∈P) ->
  V6 400 (encI l) G.St k0 m (c:Int) (i:Int) De∈P
 |0,m+1,De,i,_,an,hD,hi,H=>by
  rw [V6];rw [show decide (((0:Nat):Int)>0)=false by simp,QiS];exact H _ _ De i hD (by omega) hi
 |c+1,m+1,De,i,hm,an,hD,hi,H=>by
  have hN:=hG.hN;rw [V6];rw [show decide (((c+1:Nat):Int)>0)=true by simp,QiX,hG.st,Q7 (x:=((G.N:Nat):Int)-1) (by omega) (by omega)];refine Vq hl hi (by omega) (by omega) fun f j a d hj=>?_
  dsimp only;refine Vq hl hj (by omega) (by omega) fun v j g0 g1 hj=>?_
  dsimp only;rw [EE (by omega),Q0];refine Vq hl hj (by decide) (by decide) fun w j w0 w1 hj=>?_
  dsimp only;obtain ⟨t,et,ht,ao⟩:=QhO hN a d g0 g1;rw [XF (by simp;omega),Q0,et,Q7 (x:=1+w) (by omega) (by omega),show wJ (((c+1:Nat):Int)-1)=(c:Int) by rw [Q7 (by omega) (by omega)];omega];refine Q11 c m _ j (by omega) (by simp;omega) (fun row aj=>?_) hj H;rcases Qj0.1 aj with h | h
  ·exact hD row h
  ·rw [List.mem_singleton.1 h];exact ⟨f,t,1+w,rfl,⟨a,d⟩,ht,ao,by omega,by omega⟩
omit hl hG in
theorem Qdg {n:Nat} {l s:LL} {k0:Int->Bool->Int->LL->oP R}:∀ (m:Nat) (a:Int) (c:Int) (d:LL),KP n l s k0 m a c d=V6 n l s k0 m a c d
 |0,_,_,_=>rfl
 |m+1,a,c,d=>by
  rw [KP,V6];simp only [Qdg m]
end
theorem Q5f {v:Int} (h:0<=v):∃ n:Nat,v=(n:Int):=QiZ h
theorem Qgr {R:Type} {l:List Int} (hl:l.length<=9223372036854775807) {P:R->Prop} {K:LL->LL->LL->LL->Int->LL->LL->LL->LL->LL->LL->LL->oP R}
  (H:∀ (G:Geo) (per:Int) (Sk Ro Ls Ch Tu Sy De:LL),PlanR G per Sk Ro Ls Ch Tu Sy De->K G.St G.Pt G.Se G.Li per Sk Ro Ls Ch Tu Sy De∈P):PQ 400 (encI l) K∈P:=by
 unfold PQ BN;rw [Q0];dsimp only;refine okB (Qhr (i:=0) hl (Nat.zero_le _) fun G j hG hj=>okI ?_);dsimp only;refine Vq hl hj (by decide) (by decide) fun v j f g hj=>?_
 dsimp only;obtain ⟨per,p0,p1,e⟩:=QhJ rfl f g;rw [e];refine Vq hl hj (by decide) (by decide) fun a j a0 a1 hj=>?_
 refine Vq hl hj (by decide) (by decide) fun b j b0 b1 hj=>?_
 refine Vq hl hj (by decide) (by decide) fun c j c0 c1 hj=>?_
 refine Vq hl hj (by decide) (by decide) fun d j d0 d1 hj=>?_
 refine Vq hl hj (by decide) (by decide) fun k j k0 k1 hj=>?_
 dsimp only;obtain ⟨k,rfl⟩:=Q5f k0;rw [Q7 (x:=1+(k:Int)) (by omega) (by omega),show (1:Int)+(k:Int)=((k+1:Nat):Int) by omega,Q7 (x:=1+a) (by omega) (by omega),Q7 (x:=5000*b) (by omega) (by omega),Q7 (x:=10000+5000*b) (by omega) (by omega),Q7 (x:=200*c) (by omega) (by omega),Q7 (x:=400+200*c) (by omega) (by omega),Q7 (x:=200*d) (by omega) (by omega),Q7 (x:=400+200*d) (by omega) (by omega)];have aj:Q0i [[D.str (bs [88]),D.int .i64 (1+a),D.int .i64 (10000+5000*b),D.int .i64 (400+200*c),D.int .i64 (400+200*d)]]:=⟨_,_,_,_,rfl,by omega,by omega,by omega,by omega,by omega,by omega,by omega,by omega⟩;revert aj;generalize [[D.str (bs [88]),D.int .i64 (1+a),D.int .i64 (10000+5000*b),D.int .i64 (400+200*c),D.int .i64 (400+200*d)]]=Sk;intro aj;refine Q2l hl hG (k+1) 400 [] [] j (by omega) (by simp;omega) (by simp) ⟨(fun row h=>nomatch h),(fun k row h=>nomatch h)⟩ hj fun Ro Ls j hg hL hR hj=>?_
 simp at hL;refine okB (QeZ hl hg (by omega) hj fun T j ao an au aq hj=>okI ?_);dsimp only;refine Vq hl hj (by decide) (by decide) fun k j k0 k1 hj=>?_
 dsimp only;obtain ⟨k,rfl⟩:=Q5f k0;refine ME hl p0 p1 hg (by omega) k 400 [] j (by omega) (by simp;omega) (fun row h=>nomatch h) hj fun f b0 Ch j hC ar hj=>?_
 refine Vq hl hj (by decide) (by decide) fun v j f g hj=>?_
 dsimp only;by_cases hv:v=3/\1<Ls.length
 ·obtain ⟨rfl,h2⟩:=hv;rw [show ((3:Int) == 3)=true from rfl,show decide (((Ls.length:Nat):Int)>1)=true by simp;omega,QiX,QiX];refine Vq hl hj (by omega) (by omega) fun o j n p hj=>?_
  dsimp only;rw [XF (by simp),Q0];refine Vq hl hj (by decide) (by decide) fun k j k0 k1 hj=>?_
  dsimp only;obtain ⟨k,rfl⟩:=Q5f k0;refine Q11 hl hG k 400 [] j (by omega) (by simp;omega) (fun row h=>nomatch h) hj fun f b0 De j hD ak hj=>?_
  refine H G per Sk Ro Ls Ch _ _ De ⟨hG,p0,p1,aj,hg,by omega,by omega,by omega,hC,ar,⟨T,rfl,ao,an,au,aq⟩,fun row h=>?_,by simp,hD,ak⟩;simp at h;exact ⟨o,h,n,p,h2⟩
 ·rw [show (bif (v == (3:Int)) then (decide (((List.length Ls:Nat):Int)>(1:Int))) else false)=false by
   by_cases m:v=3
   ·rw [show (v == (3:Int))=true by simp [m],QiX];simp;omega
   ·rw [show (v == (3:Int))=false by simpa using m,QiS]]
  rw [QiS];refine Vq hl hj (by decide) (by decide) fun k j k0 k1 hj=>?_
  dsimp only;obtain ⟨k,rfl⟩:=Q5f k0;rw [Qdg];refine Q11 hl hG k 400 [] j (by omega) (by simp;omega) (fun row h=>nomatch h) hj fun f b0 De j hD ak hj=>?_
  exact H G per Sk Ro Ls Ch _ _ De ⟨hG,p0,p1,aj,hg,by omega,by omega,by omega,hC,ar,⟨T,rfl,ao,an,au,aq⟩,(fun row h=>nomatch h),by simp,hD,ak⟩
end Go.Vx
namespace Go.Vx
variable {R:Type}
def ZA (n:Nat) (d:LL) (c:Int) (k0:oP R) (k1:Int->Bool->oP R):Nat->Int->oP R
 | 0,_=>none
 | m+1,a=>bif decide (a<c) then gb true (Q1 d a) [] fun b=>gb true (b[0]?) oF fun g=>gb true (b[1]?) oF fun h=>gb true (b[2]?) oF fun i=>gb true (b[3]?) oF fun e=>gb true (pSl 4 e) [] fun f=>bif (decide ((f.length:Int)>12)) then k0 else ZA n d c k0 k1 m (wJ (a+1)) else k1 a (decide (a<c))
def UO (n:Nat) (i j k l:LL) (c:Int) (d e b f g h m:LL) (K:Int->oP R):oP R:= gb true (Zp n i j k l some) 0 fun o=>bif (o != 0) then K 1 else jn (fun (p:Bool)=>bif p then K 7 else ZA n b (b.length:Int) (K 7) (fun q r=>bif (bif decide (c<2) then true else (decide (c>7200))) then K 4 else K 0) n 0) fun a=>bif (decide ((d.length:Int)>8)) then a (decide ((d.length:Int)>8)) else bif (decide ((e.length:Int)>48)) then a (decide ((e.length:Int)>48)) else bif (decide ((b.length:Int)>16)) then a (decide ((b.length:Int)>16)) else bif (decide ((f.length:Int)>32)) then a (decide ((f.length:Int)>32)) else bif (decide ((g.length:Int)>32)) then a (decide ((g.length:Int)>32)) else bif (decide ((h.length:Int)>32)) then a (decide ((h.length:Int)>32)) else a (decide ((m.length:Int)>32))
end Go.Vx
namespace Go.Vx
variable {R:Type}
def Va (n:Nat) (a b:List UInt8) (K:Bool->oP R):oP R:= K (a == b)
end Go.Vx
namespace Go.Vx
variable {R:Type}
def QH (n:Nat) (c:LL) (h2:Int) (d:List UInt8) (k0:Int->oP R) (k1:Int->Bool->oP R):Nat->Int->oP R
 | 0,_=>none
 | m+1,a=>bif decide (a<h2) then gb true (Q1 c a) [] fun b=>gb true (b[0]?) oF fun e=>gb true (b[1]?) oF fun f=>gb true (b[2]?) oF fun g=>gb true (b[3]?) oF fun h=>gb true (b[4]?) oF fun i=>gb true (RD e) [] fun j=>gb true (pIw f) 0 fun l=>gb true (pIw g) 0 fun o=>gb true (pIw h) 0 fun p=>gb true (pIw i) 0 fun q=>gb true (Va n j d some) false fun k=>bif k then k0 a else QH n c h2 d k0 k1 m (wJ (a+1)) else k1 a (decide (a<h2))
def XG (n:Nat) (a0:LL) (a:List UInt8) (K:Int->oP R):oP R:= QH n a0 (a0.length:Int) a (fun b=>K b) (fun c d=>K (-1:Int)) n 0
end Go.Vx
namespace Go.Vx
variable {R:Type}
def Xr (n:Nat) (a0:LL) (a:List UInt8) (K:Bool->oP R):oP R:= gb true (XG n a0 a some) 0 fun b=>K (decide (b>=0))
end Go.Vx
namespace Go.Vx
variable {R:Type}
def JG (n:Nat) (d:LL) (h2:Int) (c:LL) (k0:Int->oP R) (k1:Int->Bool->oP R):Nat->Int->oP R
 | 0,_=>none
 | m+1,a=>bif decide (a<h2) then gb true (Q1 d a) [] fun b=>gb true (b[0]?) oF fun e=>gb true (b[1]?) oF fun g=>gb true (b[2]?) oF fun h=>gb true (b[3]?) oF fun i=>gb true (b[4]?) oF fun j=>gb true (RD e) [] fun k=>gb true (Kp n k some) false fun l=>bif !l then k0 3 else gb true (slB (c.length) none (some a)) (0,0) fun o=>gb true (RD e) [] fun f=>gb true (pIw g) 0 fun p=>gb true (pIw h) 0 fun q=>gb true (pIw i) 0 fun r=>gb true (pIw j) 0 fun s=>gb true (Xr n (cut c o) f some) false fun t=>bif t then k0 5 else gb true (Ut n f p q r s some) false fun u=>bif !u then k0 4 else JG n d h2 c k0 k1 m (wJ (a+1)) else k1 a (decide (a<h2))
def U4 (n:Nat) (c d e f:LL) (g:Int) (a h i j k l m:LL) (K:Int->oP R):oP R:= JG n a (a.length:Int) a (fun b=>K b) (fun o p=>K 0) n 0
end Go.Vx
namespace Go.Vx
variable {R:Type}
def YW (n:Nat) (b:LL) (h2:Int) (c d e f:LL) (k0:Int->oP R) (k1:Int->Bool->oP R):Nat->Int->oP R
 | 0,_=>none
 | m+1,a=>bif decide (a<h2) then gb true (Q1 b a) [] fun g=>gb true (g[0]?) oF fun i=>gb true (g[1]?) oF fun j=>gb true (pSl 2 i) [] fun k=>gb true (pIw j) 0 fun l=>gb true (Tv n c d e f k l some) 0 fun h=>bif (h != 0) then k0 h else YW n b h2 c d e f k0 k1 m (wJ (a+1)) else k1 a (decide (a<h2))
def U2 (n:Nat) (b c d e:LL) (g:Int) (h a i j k l m:LL) (K:Int->oP R):oP R:= YW n a (a.length:Int) b c d e (fun f=>K f) (fun o p=>K 0) n 0
end Go.Vx
namespace Go.Vx
variable {R:Type}
def ZL (n:Nat) (a b:List UInt8) (K:Bool->oP R):oP R:= K (a == b)
end Go.Vx
namespace Go.Vx
variable {R:Type}
def Qa (n:Nat) (c:LL) (h2:Int) (d:List UInt8) (k0:Int->oP R) (k1:Int->Bool->oP R):Nat->Int->oP R
 | 0,_=>none
 | m+1,a=>bif decide (a<h2) then gb true (Q1 c a) [] fun b=>gb true (b[0]?) oF fun e=>gb true (b[1]?) oF fun f=>gb true (b[2]?) oF fun g=>gb true (b[3]?) oF fun h=>gb true (RD e) [] fun i=>gb true (pIw f) 0 fun k=>gb true (pIw g) 0 fun l=>gb true (pSl 4 h) [] fun o=>gb true (ZL n i d some) false fun j=>bif j then k0 a else Qa n c h2 d k0 k1 m (wJ (a+1)) else k1 a (decide (a<h2))
def QS (n:Nat) (a0:LL) (a:List UInt8) (K:Int->oP R):oP R:= Qa n a0 (a0.length:Int) a (fun b=>K b) (fun c d=>K (-1:Int)) n 0
end Go.Vx
namespace Go.Vx
variable {R:Type}
def Qn (n:Nat) (a0:LL) (a:List UInt8) (K:Bool->oP R):oP R:= gb true (QS n a0 a some) 0 fun b=>K (decide (b>=0))
end Go.Vx
namespace Go.Vx
variable {R:Type}
def T9 (n:Nat) (a0:Int) (K:Bool->oP R):oP R:= K (bif decide (a0>=0) then (decide (a0<=1048576)) else false)
end Go.Vx
namespace Go.Vx
variable {R:Type}
def Kb (n:Nat) (a:Int) (b c d e f g h:LL) (a1 a2:Int) (K:Bool->oP R):oP R:= K (bif (bif (bif decide (0<=a1) then (decide (a1<=a2)) else false) then (decide (a2<=7200)) else false) then (decide (a2<(wJ (a1+a)))) else false)
end Go.Vx
namespace Go.Vx
variable {R:Type}
def T2 (n:Nat) (i:Int) (j a k l m o p:LL) (b q r s:Int) (K:Int->oP R):oP R:= gb true (Q1 a b) [] fun c=>gb true (c[0]?) oF fun d=>gb true (pSl 2 d) [] fun e=>gb true (Q1 e 0) [] fun f=>gb true (f[0]?) oF fun g=>gb true (pIw g) 0 fun h=>K h
end Go.Vx
namespace Go.Vx
variable {R:Type}
def PM (n:Nat) (l:Int) (m a o p q r s:LL) (b t u v:Int) (K:Int->oP R):oP R:= gb true (Q1 a b) [] fun d=>gb true (d[0]?) oF fun e=>gb true (pSl 2 e) [] fun c=>gb true (Q1 a b) [] fun f=>gb true (f[1]?) oF fun g=>gb true (pIw g) 0 fun h=>gb true (Q1 c (wJ ((wJ ((c.length:Int)-h))-1))) [] fun i=>gb true (i[0]?) oF fun j=>gb true (pIw j) 0 fun k=>K k
end Go.Vx
namespace Go.Vx
variable {R:Type}
def Jy (n:Nat) (ac ad ae ag:LL) (d:Int) (g b k l m o p:LL) (bt:List UInt8) (ah bu:Int) (e:LL) (a:Int) (K:Int->oP R):oP R:= gb true (Q1 e a) [] fun h=>gb true (h[0]?) oF fun i=>gb true (h[1]?) oF fun q=>gb true (h[2]?) oF fun r=>gb true (h[3]?) oF fun s=>jn (fun (ai:Bool)=>bif ai then K 4 else gb true (pIw i) 0 fun aj=>gb true (Q1 b aj) [] fun t=>gb true (t[0]?) oF fun ak=>gb true (t[1]?) oF fun al=>gb true (Q1 g ah) [] fun f=>gb true (f[0]?) oF fun am=>gb true (f[1]?) oF fun an=>gb true (f[2]?) oF fun ao=>gb true (f[3]?) oF fun ap=>gb true (f[4]?) oF fun aq=>gb true (pSl 2 ak) [] fun ar=>gb true (pIw al) 0 fun au=>gb true (RD am) [] fun av=>gb true (pIw an) 0 fun aw=>gb true (pIw ao) 0 fun ax=>gb true (pIw ap) 0 fun ay=>gb true (pIw aq) 0 fun az=>gb true (G7 n ac ad ae ag ar au av aw ax ay az some) 0 fun u=>bif (u != 0) then K u else gb (decide (a>0)) (pIw i) 0 fun ba=>gb (decide (a>0)) (pIw q) 0 fun bb=>gb (decide (a>0)) (pIw r) 0 fun bc=>gb (decide (a>0)) (pIw s) 0 fun bd=>gb (decide (a>0)) (T2 n d g b k l m o p ba bb bc bd some) 0 fun be=>gb (decide (a>0)) (Q1 e (wJ (a-1))) [] fun j=>gb (decide (a>0)) (j[0]?) oF fun bg=>gb (decide (a>0)) (j[1]?) oF fun bh=>gb (decide (a>0)) (j[2]?) oF fun bi=>gb (decide (a>0)) (j[3]?) oF fun bj=>gb (decide (a>0)) (pIw bg) 0 fun bk=>gb (decide (a>0)) (pIw bh) 0 fun bl=>gb (decide (a>0)) (pIw bi) 0 fun bm=>gb (decide (a>0)) (pIw bj) 0 fun bn=>gb (decide (a>0)) (PM n d g b k l m o p bk bl bm bn some) 0 fun bo=>bif (bif decide (a>0) then (be != bo) else false) then K 11 else K 0) fun c=>gb true (pIw i) 0 fun v=>bif decide (v<0) then c (decide (v<0)) else gb true (pIw i) 0 fun x=>bif (decide (x>=(b.length:Int))) then c (decide (x>=(b.length:Int))) else gb true (pIw q) 0 fun y=>bif decide (y<0) then c (decide (y<0)) else gb true (pIw q) 0 fun z=>bif decide (z>=d) then c (decide (z>=d)) else gb true (pIw r) 0 fun bp=>gb true (pIw s) 0 fun bq=>gb true (Kb n d g b k l m o p bp bq some) false fun aa=>bif !aa then c (!aa) else gb (a == (wJ ((e.length:Int)-1))) (pIw r) 0 fun ab=>gb ((a == (wJ ((e.length:Int)-1)))&&(!(ab != 0))) (pIw s) 0 fun br=>c (bif (a == (wJ ((e.length:Int)-1))) then (bif (ab != 0) then true else (br != 0)) else false)
end Go.Vx
namespace Go.Vx
variable {R:Type}
def Zz (n:Nat) (b:Int) (c d e f:LL) (g:Int) (h i j k l o p:LL) (q:List UInt8) (r s:Int) (t:LL) (k0:Int->oP R) (k1:Int->Bool->oP R):Nat->Int->oP R
 | 0,_=>none
 | m+1,a=>bif decide (a<b) then gb true (Jy n c d e f g h i j k l o p q r s t a some) 0 fun u=>bif (u != 0) then k0 u else Zz n b c d e f g h i j k l o p q r s t k0 k1 m (wJ (a+1)) else k1 a (decide (a<b))
def Zy (n:Nat) (h:LL) (h2:Int) (i j k l:LL) (o:Int) (c p d q r s t:LL) (k0:Int->oP R) (k1:Int->Bool->oP R):Nat->Int->oP R
 | 0,_=>none
 | m+1,a=>bif decide (a<h2) then gb true (Q1 h a) [] fun e=>gb true (e[0]?) oF fun u=>gb true (e[1]?) oF fun y=>gb true (e[2]?) oF fun z=>gb true (e[3]?) oF fun aa=>gb true (RD u) [] fun ab=>gb true (Kp n ab some) false fun ac=>bif !ac then k0 3 else gb true (slB (d.length) none (some a)) (0,0) fun ad=>gb true (RD u) [] fun v=>gb true (pIw y) 0 fun b=>gb true (pIw z) 0 fun x=>gb true (pSl 4 aa) [] fun f=>gb true (Qn n (cut d ad) v some) false fun ae=>bif ae then k0 5 else jn (fun (ag:Bool)=>bif ag then k0 4 else bif ((f.length:Int) == 0) then k0 1 else Zz n (f.length:Int) i j k l o c p d q r s t v b x f (fun ah=>k0 ah) (fun aj ak=>Zy n h h2 i j k l o c p d q r s t k0 k1 m (wJ (a+1))) n 0) fun g=>bif decide (b<0) then g (decide (b<0)) else bif (decide (b>=(c.length:Int))) then g (decide (b>=(c.length:Int))) else gb true (T9 n x some) false fun ai=>g (!ai) else k1 a (decide (a<h2))
def V1 (n:Nat) (b c d e:LL) (f:Int) (g h a i j k l:LL) (K:Int->oP R):oP R:= Zy n a (a.length:Int) b c d e f g h a i j k l (fun m=>K m) (fun o p=>K 0) n 0
end Go.Vx
namespace Go.Vx
variable {R:Type}
def JS (n:Nat) (b:Int) (c d a e f g h:LL) (a1:Int) (K:Bool->oP R):oP R:= K (bif decide (a1>=0) then (decide (a1<(a.length:Int))) else false)
end Go.Vx
namespace Go.Vx
variable {R:Type}
def Uc (n:Nat) (c:Int) (d e b f g h i:LL) (a1 a2:Int) (K:Bool->oP R):oP R:= gb true (JS n c d e b f g h i a1 some) false fun a=>gb (bif a then (decide (a2>=0)) else false) (Q1 b a1) [] fun j=>gb (bif a then (decide (a2>=0)) else false) (j[3]?) oF fun k=>gb (bif a then (decide (a2>=0)) else false) (pSl 4 k) [] fun l=>K (bif (bif a then (decide (a2>=0)) else false) then (decide (a2<(l.length:Int))) else false)
end Go.Vx
namespace Go.Vx
variable {R:Type}
def YK (n:Nat) (x:LL) (h2:Int) (s:LL) (e:Int) (f g b h i j k:LL) (k0:Int->oP R) (k1:Int->Bool->oP R):Nat->Int->oP R
 | 0,_=>none
 | m+1,p=>bif decide (p<h2) then gb true (Q1 x p) [] fun d=>gb true (d[0]?) oF fun t=>gb true (d[1]?) oF fun y=>gb true (d[2]?) oF fun u=>gb true (d[3]?) oF fun z=>gb true (d[4]?) oF fun ab=>gb true (d[5]?) oF fun ac=>gb true (d[6]?) oF fun ad=>gb true (pIw t) 0 fun ae=>gb true (pIw y) 0 fun ag=>gb true (Uc n e f g b h i j k ae ag some) false fun a=>gb (!(!a)) (pIw u) 0 fun ah=>gb (!(!a)) (pIw z) 0 fun ai=>gb (!(!a)) (Uc n e f g b h i j k ah ai some) false fun c=>gb (!(bif !a then true else (!c))) (pIw t) 0 fun l=>gb (!(bif !a then true else (!c))) (pIw u) 0 fun o=>gb (!(bif (bif !a then true else (!c)) then true else (l == o))) (pIw ab) 0 fun aj=>gb (!(bif (bif !a then true else (!c)) then true else (l == o))) (pIw ac) 0 fun ak=>gb (!(bif (bif !a then true else (!c)) then true else (l == o))) (Kb n e f g b h i j k aj ak some) false fun v=>gb (!(bif (bif (bif !a then true else (!c)) then true else (l == o)) then true else (!v))) (pIw ad) 0 fun al=>gb (!(bif (bif (bif !a then true else (!c)) then true else (l == o)) then true else (!v))) (T9 n al some) false fun am=>bif (bif (bif (bif (bif !a then true else (!c)) then true else (l == o)) then true else (!v)) then true else (!am)) then k0 4 else gb true (pIw t) 0 fun an=>gb true (Q1 b an) [] fun ao=>gb true (ao[3]?) oF fun ap=>gb true (pSl 4 ap) [] fun aq=>gb true (pIw y) 0 fun ar=>gb true (Q1 aq ar) [] fun q=>gb true (q[0]?) oF fun au=>gb true (q[1]?) oF fun av=>gb true (q[2]?) oF fun aw=>gb true (q[3]?) oF fun ax=>gb true (pIw au) 0 fun ay=>gb true (pIw av) 0 fun az=>gb true (pIw aw) 0 fun ba=>gb true (pIw ax) 0 fun bb=>gb true (PM n e f g b h i j k ay az ba bb some) 0 fun bc=>gb true (Q1 s bc) [] fun bd=>gb true (bd[4]?) oF fun be=>gb true (pIw be) 0 fun aa=>gb true (pIw u) 0 fun bg=>gb true (Q1 b bg) [] fun bh=>gb true (bh[3]?) oF fun bi=>gb true (pSl 4 bi) [] fun bj=>gb true (pIw z) 0 fun bk=>gb true (Q1 bj bk) [] fun r=>gb true (r[0]?) oF fun bl=>gb true (r[1]?) oF fun bm=>gb true (r[2]?) oF fun bn=>gb true (r[3]?) oF fun bo=>gb true (pIw bl) 0 fun bp=>gb true (pIw bm) 0 fun bq=>gb true (pIw bn) 0 fun br=>gb true (pIw bo) 0 fun bt=>gb true (T2 n e f g b h i j k bp bq br bt some) 0 fun bu=>gb true (Q1 s bu) [] fun bv=>gb true (bv[4]?) oF fun bx=>gb true (pIw bx) 0 fun bz=>bif (bif (aa == (-1:Int)) then true else (aa != bz)) then k0 11 else YK n x h2 s e f g b h i j k k0 k1 m (wJ (p+1)) else k1 p (decide (p<h2))
def Wp (n:Nat) (k l b m:LL) (c:Int) (d e f a g h i:LL) (K:Int->oP R):oP R:= YK n a (a.length:Int) b c d e f a g h i (fun j=>K j) (fun o p=>K 0) n 0
end Go.Vx
namespace Go.Vx
variable {R:Type}
def ZI (n:Nat) (a b c d:Int) (K:Bool->oP R):oP R:= K (bif (a == c) then true else (b == d))
end Go.Vx
namespace Go.Vx
variable {R:Type}
def Qb (n:Nat) (c:LL) (h2 d e:Int) (k0:Int->oP R) (k1:Int->Bool->oP R):Nat->Int->oP R
 | 0,_=>none
 | m+1,a=>bif decide (a<h2) then gb true (Q1 c a) [] fun b=>gb true (b[0]?) oF fun f=>gb true (b[1]?) oF fun g=>gb true (b[2]?) oF fun h=>gb true (b[3]?) oF fun i=>gb true (pIw f) 0 fun j=>gb true (pIw g) 0 fun k=>gb true (pIw h) 0 fun o=>gb true (pIw i) 0 fun p=>gb true (ZI n j k d e some) false fun l=>bif l then k0 a else Qb n c h2 d e k0 k1 m (wJ (a+1)) else k1 a (decide (a<h2))
def QT (n:Nat) (a0:LL) (a b:Int) (K:Int->oP R):oP R:= Qb n a0 (a0.length:Int) a b (fun c=>K c) (fun d e=>K (-1:Int)) n 0
end Go.Vx
namespace Go.Vx
variable {R:Type}
def Ql (n:Nat) (a0:LL) (a b:Int) (K:Bool->oP R):oP R:= gb true (QT n a0 a b some) 0 fun c=>K (decide (c>=0))
end Go.Vx
namespace Go.Vx
variable {R:Type}
def ZF (n:Nat) (u:LL) (h2 c:Int) (d e a f b g h:LL) (k0:Int->oP R) (k1:Int->Bool->oP R):Nat->Int->oP R
 | 0,_=>none
 | m+1,i=>bif decide (i<h2) then gb true (Q1 u i) [] fun k=>gb true (k[0]?) oF fun v=>gb true (k[1]?) oF fun x=>gb true (k[2]?) oF fun y=>gb true (k[3]?) oF fun z=>gb true (pIw v) 0 fun ad=>gb true (JS n c d e a f b g h ad some) false fun j=>gb (!(!j)) (pIw x) 0 fun ae=>gb (!(!j)) (JS n c d e a f b g h ae some) false fun l=>gb (!(bif !j then true else (!l))) (pIw y) 0 fun ag=>gb (!(bif !j then true else (!l))) (pIw z) 0 fun ah=>gb (!(bif !j then true else (!l))) (Kb n c d e a f b g h ag ah some) false fun ai=>bif (bif (bif !j then true else (!l)) then true else (!ai)) then k0 4 else gb true (slB (b.length) none (some i)) (0,0) fun aj=>gb true (pIw v) 0 fun aa=>gb true (pIw x) 0 fun ab=>gb true (pIw y) 0 fun bm=>gb true (pIw z) 0 fun bn=>gb true (Ql n (cut b aj) aa ab some) false fun ak=>bif ak then k0 5 else gb true (Q1 a aa) [] fun o=>gb true (o[0]?) oF fun bo=>gb true (o[1]?) oF fun al=>gb true (o[2]?) oF fun bp=>gb true (o[3]?) oF fun ac=>gb true (Q1 a ab) [] fun p=>gb true (p[0]?) oF fun bq=>gb true (p[1]?) oF fun am=>gb true (p[2]?) oF fun br=>gb true (p[3]?) oF fun an=>gb true (pSl 4 ac) [] fun ao=>gb true (pSl 4 ac) [] fun ap=>gb true (Q1 ao (wJ ((ap.length:Int)-1))) [] fun q=>gb true (q[0]?) oF fun aq=>gb true (q[1]?) oF fun ar=>gb true (q[2]?) oF fun au=>gb true (q[3]?) oF fun av=>gb true (pIw aq) 0 fun aw=>gb true (pIw ar) 0 fun ax=>gb true (pIw au) 0 fun ay=>gb true (pIw av) 0 fun az=>gb true (PM n c d e a f b g h aw ax ay az some) 0 fun s=>gb true (pSl 4 an) [] fun ba=>gb true (Q1 ba 0) [] fun r=>gb true (r[0]?) oF fun bb=>gb true (r[1]?) oF fun bc=>gb true (r[2]?) oF fun bd=>gb true (r[3]?) oF fun be=>gb true (pIw bb) 0 fun bg=>gb true (pIw bc) 0 fun bh=>gb true (pIw bd) 0 fun bi=>gb true (pIw be) 0 fun bj=>gb true (T2 n c d e a f b g h bg bh bi bj some) 0 fun t=>gb (!(s != t)) (pIw al) 0 fun bk=>gb (!(s != t)) (pIw am) 0 fun bl=>bif (bif (s != t) then true else (bk != bl)) then k0 11 else ZF n u h2 c d e a f b g h k0 k1 m (wJ (i+1)) else k1 i (decide (i<h2))
def V0 (n:Nat) (j k l m:LL) (b:Int) (c d e f a g h:LL) (K:Int->oP R):oP R:= ZF n a (a.length:Int) b c d e f a g h (fun i=>K i) (fun o p=>K 0) n 0
end Go.Vx
namespace Go.Vx
variable {R:Type}
def Zt (n:Nat) (s:LL) (h2 g:Int) (h i j k l o p:LL) (k0:oP R) (k1:Int->Bool->oP R):Nat->Int->oP R
 | 0,_=>none
 | m+1,c=>bif decide (c<h2) then gb true (Q1 s c) [] fun d=>gb true (d[0]?) oF fun t=>gb true (d[1]?) oF fun u=>gb true (d[2]?) oF fun v=>gb true (d[3]?) oF fun x=>gb true (d[4]?) oF fun y=>gb true (pIw t) 0 fun aa=>gb true (pIw u) 0 fun ab=>gb true (Uc n g h i j k l o p aa ab some) false fun a=>gb (!(!a)) (pIw v) 0 fun ac=>gb (!(!a)) (pIw x) 0 fun ad=>gb (!(!a)) (Uc n g h i j k l o p ac ad some) false fun b=>gb (!(bif !a then true else (!b))) (pIw t) 0 fun e=>gb (!(bif !a then true else (!b))) (pIw v) 0 fun f=>gb ((!(bif !a then true else (!b)))&&(e == f)) (pIw u) 0 fun q=>gb ((!(bif !a then true else (!b)))&&(e == f)) (pIw x) 0 fun r=>gb (!(bif (bif !a then true else (!b)) then true else (bif (e == f) then (q == r) else false))) (pIw y) 0 fun z=>gb (!(bif (bif (bif !a then true else (!b)) then true else (bif (e == f) then (q == r) else false)) then true else (decide (z<0)))) (pIw y) 0 fun ae=>bif (bif (bif (bif (bif !a then true else (!b)) then true else (bif (e == f) then (q == r) else false)) then true else (decide (z<0))) then true else (decide (ae>=g))) then k0 else Zt n s h2 g h i j k l o p k0 k1 m (wJ (c+1)) else k1 c (decide (c<h2))
def US (n:Nat) (i j k l:LL) (b:Int) (c d e f g a h:LL) (K:Int->oP R):oP R:= Zt n a (a.length:Int) b c d e f g a h (K 4) (fun m o=>K 0) n 0
end Go.Vx
namespace Go.Vx
variable {R:Type}
def YJ (n:Nat) (l:LL) (h2:Int) (a:LL) (k0:oP R) (k1:Int->Bool->oP R):Nat->Int->oP R
 | 0,_=>none
 | m+1,e=>bif decide (e<h2) then gb true (Q1 l e) [] fun g=>gb true (g[0]?) oF fun h=>gb true (g[1]?) oF fun i=>gb true (g[2]?) oF fun o=>gb true (pIw h) 0 fun b=>gb (!(decide (b<0))) (pIw h) 0 fun c=>gb (!(bif decide (b<0) then true else (decide (c>=(a.length:Int))))) (pIw i) 0 fun d=>gb (!(bif (bif decide (b<0) then true else (decide (c>=(a.length:Int)))) then true else (decide (d<0)))) (pIw i) 0 fun f=>gb (!(bif (bif (bif decide (b<0) then true else (decide (c>=(a.length:Int)))) then true else (decide (d<0))) then true else (decide (f>=(a.length:Int))))) (pIw h) 0 fun j=>gb (!(bif (bif (bif decide (b<0) then true else (decide (c>=(a.length:Int)))) then true else (decide (d<0))) then true else (decide (f>=(a.length:Int))))) (pIw i) 0 fun k=>gb (!(bif (bif (bif (bif decide (b<0) then true else (decide (c>=(a.length:Int)))) then true else (decide (d<0))) then true else (decide (f>=(a.length:Int)))) then true else (j == k))) (pIw o) 0 fun p=>gb (!(bif (bif (bif (bif (bif decide (b<0) then true else (decide (c>=(a.length:Int)))) then true else (decide (d<0))) then true else (decide (f>=(a.length:Int)))) then true else (j == k)) then true else (decide (p<1)))) (pIw o) 0 fun q=>bif (bif (bif (bif (bif (bif (bif decide (b<0) then true else (decide (c>=(a.length:Int)))) then true else (decide (d<0))) then true else (decide (f>=(a.length:Int)))) then true else (j == k)) then true else (decide (p<1))) then true else (decide (q>1048576))) then k0 else YJ n l h2 a k0 k1 m (wJ (e+1)) else k1 e (decide (e<h2))
def Wi (n:Nat) (b c d e:LL) (f:Int) (g h i j k l a:LL) (K:Int->oP R):oP R:= YJ n a (a.length:Int) b (K 4) (fun m o=>K 0) n 0
end Go.Vx
namespace Go.Vx
variable {R:Type}
def Q8E (n:Nat) (a b c d:LL) (e:Int) (f g h i j k l:LL):Bool:= Q7g (UO n a b c d e f g h i j k l some)&&Q7g (U4 n a b c d e f g h i j k l some)&&Q7g (U2 n a b c d e f g h i j k l some)&&Q7g (V1 n a b c d e f g h i j k l some)&&Q7g (Wp n a b c d e f g h i j k l some)&&Q7g (V0 n a b c d e f g h i j k l some)&&Q7g (US n a b c d e f g h i j k l some)&&Q7g (Wi n a b c d e f g h i j k l some)
def J9 (n:Nat) (a b c d:LL) (e:Int) (f g h i j k l:LL) (K:Int->oP R):oP R:=bif Q8E n a b c d e f g h i j k l then K 0 else none
end Go.Vx
namespace Go.Vx
theorem Qq {h:Nat} (hh:h<=1000):wJ ((h:Int)+1)=((h+1:Nat):Int):=by rw [Q7 (by omega) (by omega)];omega
theorem Qc {h k:Nat} (hh:h<k):decide ((h:Int)<((k:Nat):Int))=true:=by simpa using hh
theorem Qi (k:Nat):decide (((k:Nat):Int)<((k:Nat):Int))=false:=by simp
section
variable {R:Type} {St Pt Se Li Sk Ro Ls Ch Tu Sy De:LL} {per:Int} {n:Nat}
theorem Q41 {mn mx:Int} (a:0<=mn) (b:mn<=mx) (h2:mx<mn+per) (c:mn<=1000) (p1:per<=300) (K:Bool->oP R):Kb n per Sk Ro Ls Ch Tu Sy De mn mx K=K true:=by
 unfold Kb;rw [show decide ((0:Int)<=mn)=true by simpa using a,show decide (mn<=mx)=true by simpa using b,show decide (mx<=(7200:Int))=true by simp;omega,Q7 (by omega) (by omega),show decide (mx<mn+per)=true by simpa using h2];rfl
theorem Q1E {k:Nat} (h:k<Ls.length) (K:Bool->oP R):JS n per Sk Ro Ls Ch Tu Sy De (k:Int) K=K true:=by
 unfold JS;rw [show decide ((k:Int)>=0)=true by simp,Qc h];rfl
theorem Cc {k i:Nat} {r:List D} (h:T4 Ls k i r) (K:Bool->oP R):Uc n per Sk Ro Ls Ch Tu Sy De (k:Int) (i:Int) K=K true:=by
 obtain ⟨nm,w,rides,a,h2⟩:=h;unfold Uc;rw [Q1E (QiW.1 a).1,Q0,show decide ((i:Int)>=0)=true by simp,Qe,a];simp -implicitDefEqProofs only [Q0,List.getElem?_cons_zero,List.getElem?_cons_succ,Q3,Xx,QG,QiX,QiS,QiV,QiU,Qc (QiW.1 h2).1]
theorem Q7x {w:Int} (a:0<=w) (b:w<=1000) (K:Bool->oP R):T9 n w K=K true:=by
 unfold T9;rw [show decide (w>=0)=true by simpa using a,show decide (w<=(1048576:Int))=true by simp;omega];rfl
theorem Q4b {G:Geo} {rt:Nat} {ex mn mx x y:Int} {s:LL} (a:Ro[rt]? = some [D.sl 2 s,Q4 0]) (b:RtOK G s x y) (K:Int->oP R):T2 n per Sk Ro Ls Ch Tu Sy De (rt:Int) ex mn mx K=K x:=by
 obtain ⟨d,c⟩:=b.fst;unfold T2;simp -implicitDefEqProofs only [Q0,List.getElem?_cons_zero,List.getElem?_cons_succ,Q3,Xx,QG,QiX,QiS,QiV,QiU,Qe,a,c]
theorem Q8T {G:Geo} {rt:Nat} {ex mn mx x y:Int} {s:LL} (b:Ro[rt]? = some [D.sl 2 s,Q4 0]) (a:RtOK G s x y) (K:Int->oP R):PM n per Sk Ro Ls Ch Tu Sy De (rt:Int) ex mn mx K=K y:=by
 obtain ⟨d,c⟩:=a.lst;have l2:=a.l2;have l24:=a.l24;unfold PM;simp -implicitDefEqProofs only [Q0,List.getElem?_cons_zero,List.getElem?_cons_succ,Q3,Xx,QG,QiX,QiS,QiV,QiU,Qe,b];rw [Q7 (x:=((s.length:Nat):Int)-0) (by omega) (by omega),Q7 (by omega) (by omega),Int.sub_zero,c];rfl
theorem Qcv (hs:Q0i Sk) (K:Int->oP R):U4 400 St Pt Se Li per Sk Ro Ls Ch Tu Sy De K=K 0:=by
 obtain ⟨a,b,c,d,rfl,hk⟩:=hs;have h:U4 400 St Pt Se Li per [[D.str (bs [88]),Q4 a,Q4 b,Q4 c,Q4 d]] Ro Ls Ch Tu Sy De K=gb true (Ut 400 (bs [88]) a b c d some) false (fun r=>bif !r then K 4 else K 0):=by kernel_rfl
 rw [h,B7 hk];rfl
end
section
variable {R:Type} {G:Geo} {Sk Ro Ls Ch Tu Sy De:LL} {per:Int} (h:PlanR G per Sk Ro Ls Ch Tu Sy De)
include h
theorem Q5B {k:Nat} (hk:k<Ls.length):∃ r,T4 Ls k 0 r:=by
 obtain ⟨w,rides,e,hr,a⟩:=Df h.good hk;obtain ⟨r,_,_,_,b,_⟩:=a 0 (by omega);exact ⟨r,b⟩
theorem QeG (K:Int->oP R):UO 400 G.St G.Pt G.Se G.Li per Sk Ro Ls Ch Tu Sy De K=K 0:=by
 have hc:Zp 400 G.St G.Pt G.Se G.Li (some:Int->Option Int)=some 0:=by unfold Zp;rw [h.ok.lay];rfl
 obtain ⟨_,_,_,_,ak,_⟩:=h.sk;obtain ⟨T,hT,_,_,_,an⟩:=h.tu;have l1:=h.l1;have l2:=h.rl;have a:=h.chl;have c:=h.syl;have d:=h.del;have p0:=h.p0;have p1:=h.p1;have lk:Sk.length=1:=by rw [ak];rfl
 have lt:Tu.length<=20:=by rw [hT];simpa using an
 have aj:∀ {k:Nat} {b:Int},(k:Int)<=b->decide ((k:Int)>b)=false:=fun h=>by simpa using h
 unfold UO;rw [hc,Q0,Q9 (by rfl)];simp -implicitDefEqProofs only [jn,aj (show ((Sk.length:Nat):Int)<=8 by omega),aj (show ((Ro.length:Nat):Int)<=48 by omega),aj (show ((Ls.length:Nat):Int)<=16 by omega),aj (show ((Ch.length:Nat):Int)<=32 by omega),aj (show ((Tu.length:Nat):Int)<=32 by omega),aj (show ((Sy.length:Nat):Int)<=32 by omega),aj (show ((De.length:Nat):Int)<=32 by omega),QiS];refine Qu (r:=fun m h=>ZA 400 Ls ((Ls.length:Nat):Int) _ _ m h) (N:=Ls.length) (fun m k hk=>?_) (fun m=>?_) Ls.length 400 0 (by omega) (by omega)
 ·obtain ⟨w,rides,e,hr,_⟩:=Df h.good hk;rw [ZA,Qc hk,Qe,e];simp -implicitDefEqProofs only [Q0,List.getElem?_cons_zero,List.getElem?_cons_succ,Q3,Xx,QG,QiX,QiS,QiV,QiU,aj (show ((rides.length:Nat):Int)<=12 by omega),Qq (show k<=1000 by omega)]
 ·rw [ZA,Qi,QiS,show decide (per<2)=false by simp;omega,show decide (per>7200)=false by simp;omega];rfl
theorem Qbv (K:Int->oP R):U2 400 G.St G.Pt G.Se G.Li per Sk Ro Ls Ch Tu Sy De K=K 0:=by
 have l2:=h.rl;unfold U2;refine Qu (r:=fun m h=>YW 400 Ro ((Ro.length:Nat):Int) G.St G.Pt G.Se G.Li _ _ m h) (N:=Ro.length) (fun m k hk=>?_) (fun m=>?_) Ro.length 400 0 (by omega) (by omega)
 ·obtain ⟨s,x,y,e,hs⟩:=h.good.ro _ (QiY hk);rw [YW,Qc hk,Qe,QiT hk,e];simp -implicitDefEqProofs only [Q0,List.getElem?_cons_zero,List.getElem?_cons_succ,Q3,Xx,QG,QiX,QiS,QiV,QiU,Q5d h.ok.lay rfl hs.l2 hs.l24 hs.rt,Qq (show k<=1000 by omega)];rfl
 ·rw [YW,Qi,QiS]
theorem Qa0 (K:Int->oP R):Wi 400 G.St G.Pt G.Se G.Li per Sk Ro Ls Ch Tu Sy De K=K 0:=by
 have l2:=h.del;have hN:=h.ok.hN;unfold Wi;refine Qu (r:=fun m h=>YJ 400 De ((De.length:Nat):Int) G.St _ _ m h) (N:=De.length) (fun m k hk=>?_) (fun m=>?_) De.length 400 0 (by omega) (by omega)
 ·obtain ⟨f,t,w,e,⟨a,b⟩,⟨c,t1⟩,aj,w0,w1⟩:=h.de _ (QiY hk);rw [YJ,Qc hk,Qe,QiT hk,e];simp -implicitDefEqProofs only [Q0,List.getElem?_cons_zero,List.getElem?_cons_succ,Q3,Xx,QG,QiX,QiS,QiV,QiU,h.ok.st,show decide (f<0)=false by simpa using a,show decide (f>=((G.N:Nat):Int))=false by simpa using b,show decide (t<0)=false by simpa using c,show decide (t>=((G.N:Nat):Int))=false by simpa using t1,show (f == t)=false by simpa using aj,show decide (w<1)=false by simp;omega,show decide (w>1048576)=false by simp;omega,Qq (show k<=1000 by omega)]
 ·rw [YJ,Qi,QiS]
theorem QeC (K:Int->oP R):US 400 G.St G.Pt G.Se G.Li per Sk Ro Ls Ch Tu Sy De K=K 0:=by
 have l2:=h.syl;have l0:=h.l0;unfold US;refine Qu (r:=fun m h=>Zt 400 Sy ((Sy.length:Nat):Int) per Sk Ro Ls Ch Tu Sy De _ _ m h) (N:=Sy.length) (fun m k hk=>?_) (fun m=>?_) Sy.length 400 0 (by omega) (by omega)
 ·obtain ⟨o,e,a,b,h2⟩:=h.sy _ (QiY hk);obtain ⟨r,hr⟩:=Q5B h (k:=0) (by omega);obtain ⟨r',aj⟩:=Q5B h (k:=1) (by omega);have e1:=Cc (R:=Bool) (per:=per) (Sk:=Sk) (Ro:=Ro) (Ch:=Ch) (Tu:=Tu) (Sy:=Sy) (De:=De) (n:=400) hr some;have e2:=Cc (R:=Bool) (per:=per) (Sk:=Sk) (Ro:=Ro) (Ch:=Ch) (Tu:=Tu) (Sy:=Sy) (De:=De) (n:=400) aj some;rw [Zt,Qc hk,Qe,QiT hk,e];simp -implicitDefEqProofs only [Q0,List.getElem?_cons_zero,List.getElem?_cons_succ,Q3,Xx,QG,QiX,QiS,QiV,QiU,show Uc 400 per Sk Ro Ls Ch Tu Sy De 0 0 (some:Bool->Option Bool)=some true from e1,show Uc 400 per Sk Ro Ls Ch Tu Sy De 1 0 (some:Bool->Option Bool)=some true from e2,show ((0:Int) == 1)=false from rfl,show decide (o<0)=false by simp;omega,show decide (o>=per)=false by simp;omega,Qq (show k<=1000 by omega)]
 ·rw [Zt,Qi,QiS]
end
end Go.Vx
namespace Go.Vx
theorem Q1c {n h:Nat} (hh:h<=n):slB n none (some (h:Int))=some (0,h):=by
 unfold slB;rw [show (decide ((0:Int)<=(none:Option Int).getD 0)&&(decide ((none:Option Int).getD 0<=(some (h:Int)).getD (n:Int))&&decide ((some (h:Int)).getD (n:Int)<=(n:Int))))=true by simp;omega];rfl
theorem L4 {α:Type} {l:List α} {h:Nat}:cut l (0,h)=l.take h:=by simp [cut]
theorem Qeg {i j:Nat} (hi:i<8) (hj:j<8) (h:i≠j):(nmN i == nmN j)=false:=by
 have:∀ i j:Fin 8,i≠j->(nmN i.val == nmN j.val)=false:=by decide
 exact this ⟨i,hi⟩ ⟨j,hj⟩ (by intro e;exact h (by simpa using e))
theorem Qg8 {i:Nat} (hi:i<8):Kp 400 (nmN i) (some:Bool->Option Bool)=some true:=by
 obtain rfl | rfl | rfl | rfl | rfl | rfl | rfl | rfl:i=0\/i=1\/i=2\/i=3\/i=4\/i=5\/i=6\/i=7:=by omega
 all_goals kernel_rfl
section
variable {Sk Ch Tu Sy De:LL} {per:Int}
theorem Q2m {G:Geo} {Ro Ls:LL} {c:Nat} (hg:GoodP G Ro Ls) (hc:c<8) (hl:c<Ls.length):Qn 400 (cut Ls (0,c)) (nmN c) some=some false:=by
 have ak:(cut Ls (0,c)).length=c:=by rw [L4];simp;omega
 unfold Qn QS;rw [ak];refine (congrArg (fun E=>gb true E 0 fun a=>some (decide (a>=(0:Int)))) (a₂:=some (-1)) (Qu (r:=fun m h=>Qa 400 (cut Ls (0,c)) ((c:Nat):Int) (nmN c) _ _ m h) (N:=c) (fun m h hh=>?_) (fun m=>?_) c 400 0 (by omega) (by omega))).trans rfl
 ·obtain ⟨w,aj,e,_,_⟩:=Df hg (show h<Ls.length by omega);have e':(cut Ls (0,c))[h]? = some [D.str (nmN h),Q4 0,Q4 w,D.sl 4 aj]:=by rw [L4,List.getElem?_take_of_lt hh,e]
  rw [Qa,Qc hh,Qe,e'];simp -implicitDefEqProofs only [Q0,List.getElem?_cons_zero,List.getElem?_cons_succ,Q3,Xx,QG,QiX,QiS,QiV,QiU,ZL,Qeg (show h<8 by omega) hc (by omega),Qq (show h<=1000 by omega)]
 ·rw [Qa,Qi,QiS]
theorem Q4K {G:Geo} (hG:G.OK) {Ro Ls rides:LL} {nm:List UInt8} {w:Int} {i:Nat} {r:List D} {x y:Int} {b:Bool} (p0:90<=per) (p1:per<=300) (aq:Q0i Sk) (hr:rides[i]? = some r) (hR:TH G Ro r x y b) (hb:i+1=rides.length->b=true) (hl:rides.length<=2)
  (ak:∀ j,j+1=i->∃ r' x' b',rides[j]? = some r'/\TH G Ro r' x' x b'):Jy 400 G.St G.Pt G.Se G.Li per Sk Ro Ls Ch Tu Sy De nm 0 w rides (i:Int) (some:Int->Option Int)=some 0:=by
 obtain ⟨rt,ex,mn,mx,s,rfl,aj,hs,⟨h,k⟩,⟨e,f,l,m⟩,hlast⟩:=hR;obtain ⟨a,v,c,d,rfl,hk⟩:=aq;have a4:rt<Ro.length:=(QiW.1 aj).1;have hi:i<rides.length:=(QiW.1 hr).1;have an:(bif ((i:Int) == (wJ (((List.length rides:Nat):Int)-(1:Int)))) then (bif (mn != (0:Int)) then true else (mx != (0:Int))) else false)=false:=by
  by_cases g:i+1=rides.length
  ·obtain ⟨rfl,rfl⟩:=hlast (hb g);rw [show ((0:Int) != 0)=false from rfl];cases ((i:Int) == (wJ (((List.length rides:Nat):Int)-(1:Int)))) <;> rfl
  ·rw [Q7 (by omega) (by omega),show ((i:Int) == ((rides.length:Nat):Int)-1)=false by simp;omega];rfl
 unfold Jy;rw [Qe,hr];simp -implicitDefEqProofs only [Q0,List.getElem?_cons_zero,List.getElem?_cons_succ,Q3,Xx,QG,QiX,QiS,QiV,QiU,jn,show decide ((rt:Int)<0)=false by simp,show decide ((rt:Int)>=((Ro.length:Nat):Int))=false by simp;omega,show decide (ex<0)=false by simp;omega,show decide (ex>=per)=false by simp;omega,Q41 e f (show mx<mn+per by omega) (by omega) p1,an,Qe,aj,show Q1 [[D.str (bs [88]),Q4 a,Q4 v,Q4 c,Q4 d]] (0:Int)=some [D.str (bs [88]),Q4 a,Q4 v,Q4 c,Q4 d] from rfl,QcJ hG.lay rfl hs.l2 hs.l24 hs.rt hs.st hk,show ((0:Int) != 0)=false from rfl];cases i with
 |zero=>
  rw [show decide (((0:Nat):Int)>0)=false from rfl];simp only [gbF,QiS]
 |succ j=>
  obtain ⟨r',x',b',aw,ax⟩:=ak j rfl;obtain ⟨a2,ay,az,a5,s',rfl,ao,au,_⟩:=ax;simp -implicitDefEqProofs only [Q0,List.getElem?_cons_zero,List.getElem?_cons_succ,Q3,Xx,QG,QiX,QiS,QiV,QiU,show decide (((j+1:Nat):Int)>0)=true by simp,Q4b aj hs,show wJ (((j+1:Nat):Int)-1)=(j:Int) by rw [Q7 (by omega) (by omega)];omega,Qe,aw,Q8T ao au,show (x != x)=false by simp]
theorem Qan {G:Geo} (hG:G.OK) {Ro Ls rides:LL} {nm:List UInt8} {w:Int} (p0:90<=per) (p1:per<=300) (aj:Q0i Sk) (h:Q2x G Ro rides):(rides.length=1\/rides.length=2)/\∀ i,i<rides.length->Jy 400 G.St G.Pt G.Se G.Li per Sk Ro Ls Ch Tu Sy De nm 0 w rides (i:Int) (some:Int->Option Int)=some 0:=by
 rcases h with ⟨r,x,y,rfl,h⟩ | ⟨r,r',x,y,z,rfl,h,h'⟩
 ·refine ⟨.inl rfl,fun i hi=>?_⟩;have hi:i=0:=by simpa using hi
  subst hi;exact Q4K hG p0 p1 aj rfl h (fun _=>rfl) (by simp) fun j hj=>by omega
 ·refine ⟨.inr rfl,fun i hi=>?_⟩;obtain rfl | rfl:i=0\/i=1:=by simp at hi;omega
  ·exact Q4K hG p0 p1 aj rfl h (fun h=>by simp at h) (by simp) fun j hj=>by omega
  ·refine Q4K hG p0 p1 aj rfl h' (fun _=>rfl) (by simp) fun j hj=>?_
   have hj:j=0:=by omega
   subst hj;exact ⟨r,x,false,rfl,h⟩
end
theorem Qde {R:Type} {G:Geo} {Sk Ro Ls Ch Tu Sy De:LL} {per:Int} (h:PlanR G per Sk Ro Ls Ch Tu Sy De) (K:Int->oP R):V1 400 G.St G.Pt G.Se G.Li per Sk Ro Ls Ch Tu Sy De K=K 0:=by
 have l1:=h.l1;obtain ⟨_,_,_,_,aq,_⟩:=h.sk;have an:Sk.length=1:=by rw [aq];rfl
 unfold V1;refine Qu (r:=fun m h=>Zy 400 Ls ((Ls.length:Nat):Int) G.St G.Pt G.Se G.Li per Sk Ro Ls Ch Tu Sy De _ _ m h) (N:=Ls.length) (fun m k hk=>?_) (fun m=>?_) Ls.length 400 0 (by omega) (by omega)
 ·obtain ⟨w,rides,e,w0,w1,aj⟩:=h.good.ls k _ (QiT hk);obtain ⟨ao,ak⟩:=Qan (Ls:=Ls) (Ch:=Ch) (Tu:=Tu) (Sy:=Sy) (De:=De) (nm:=nmN k) (w:=w) h.ok h.p0 h.p1 h.sk aj;rw [Zy,Qc hk,Qe,QiT hk,e];simp -implicitDefEqProofs only [Q0,List.getElem?_cons_zero,List.getElem?_cons_succ,Q3,Xx,QG,QiX,QiS,QiV,QiU,Qg8 (show k<8 by omega),Q1c (Nat.le_of_lt hk),Q2m h.good (show k<8 by omega) hk,jn,show decide ((0:Int)<0)=false from rfl,an,show decide ((0:Int)>=((1:Nat):Int))=false from rfl,Q7x w0 (show w<=1000 by omega),show (((rides.length:Nat):Int) == 0)=false by simp;intro hx;simp [hx] at ao];refine (Qu (r:=fun m h=>Zz 400 ((rides.length:Nat):Int) G.St G.Pt G.Se G.Li per Sk Ro Ls Ch Tu Sy De (nmN k) 0 w rides _ _ m h) (N:=rides.length) (fun m i hi=>?_) (fun m=>?_) rides.length 400 0 (by omega) (by omega))
  ·rw [Zz,Qc hi];simp -implicitDefEqProofs only [Q0,List.getElem?_cons_zero,List.getElem?_cons_succ,Q3,Xx,QG,QiX,QiS,QiV,QiU,ak i hi,show ((0:Int) != 0)=false from rfl,Qq (show i<=1000 by omega)]
  ·rw [Zz,Qi,QiS,Qq (by omega)]
 ·rw [Zy,Qi,QiS]
end Go.Vx
namespace Go.Vx
theorem NH {α:Type} {l:List α} (h:l.Nodup) {i:Nat} (hi:i<l.length):∀ x∈l.take i,x≠l[i]:=by
 intro x hx e;subst e;obtain ⟨j,hj,e⟩:=List.getElem_of_mem hx;simp at hj;rw [List.getElem_take] at e;have:=(List.nodup_iff_pairwise_ne.1 h);have:=List.pairwise_iff_getElem.1 this j i (by omega) hi (by omega);exact this e
theorem Q3v {a b:Int} {T:List Tup} (ht:∀ t∈T,(t.1:Int)≠a/\(t.2.1:Int)≠b) (hl:T.length<=30):Ql 400 (T.map tuR) a b some=some false:=by
 have aj:(T.map tuR).length=T.length:=by simp
 unfold Ql QT;rw [aj];refine (congrArg (fun E=>gb true E 0 fun c=>some (decide (c>=(0:Int)))) (a₂:=some (-1)) (Qu (r:=fun m h=>Qb 400 (T.map tuR) ((T.length:Nat):Int) a b _ _ m h) (N:=T.length) (fun m h hh=>?_) (fun m=>?_) T.length 400 0 (by omega) (by omega))).trans rfl
 ·have e:(T.map tuR)[h]? = some (tuR T[h]):=by rw [List.getElem?_map,QiT hh];rfl
  obtain ⟨d,f⟩:=ht _ (QiY hh);rw [Qb,Qc hh,Qe,e];simp -implicitDefEqProofs only [Q0,List.getElem?_cons_zero,List.getElem?_cons_succ,Q3,Xx,QG,QiX,QiS,QiV,QiU,tuR,ZI,show ((T[h].1:Int) == a)=false by simpa using d,show ((T[h].2.1:Int) == b)=false by simpa using f,Qq (show h<=1000 by omega)]
 ·rw [Qb,Qi,QiS]
section
variable {R:Type} {G:Geo} {Sk Ro Ls Ch Tu Sy De:LL} {per:Int} (h:PlanR G per Sk Ro Ls Ch Tu Sy De)
include h
theorem Qac (K:Int->oP R):Wp 400 G.St G.Pt G.Se G.Li per Sk Ro Ls Ch Tu Sy De K=K 0:=by
 have l2:=h.chl;have p1:=h.p1;unfold Wp;refine Qu (r:=fun m h=>YK 400 Ch ((Ch.length:Nat):Int) G.Se per Sk Ro Ls Ch Tu Sy De _ _ m h) (N:=Ch.length) (fun m k hk=>?_) (fun m=>?_) Ch.length 400 0 (by omega) (by omega)
 ·obtain ⟨f,fr,t,tr,mn,mx,w,r,r',x,y,x',y',b,b',i,e,hr,aj,hR,au,a6,⟨a,j,c,d⟩,⟨w0,w1⟩,⟨l,a1,c1,d1,g1⟩,⟨o,a2,p,q,g⟩,hi⟩:=h.ch _ (QiY hk);have hb:=Cc (R:=Bool) (per:=per) (Sk:=Sk) (Ro:=Ro) (Ch:=Ch) (Tu:=Tu) (Sy:=Sy) (De:=De) (n:=400) hr;have aw:=Cc (R:=Bool) (per:=per) (Sk:=Sk) (Ro:=Ro) (Ch:=Ch) (Tu:=Tu) (Sy:=Sy) (De:=De) (n:=400) aj;obtain ⟨nm,v,rides,e1,e2⟩:=hr;obtain ⟨a8,v',an,ax,ao⟩:=aj;obtain ⟨rt,ex,rn,rx,s,rfl,ar,hs,_⟩:=hR;obtain ⟨a3,ay,a7,a4,s',rfl,ak,aq,_⟩:=au;rw [YK,Qc hk,Qe,QiT hk,e];simp -implicitDefEqProofs only [Q0,List.getElem?_cons_zero,List.getElem?_cons_succ,Q3,Xx,QG,QiX,QiS,QiV,QiU,hb,aw,Q41 a c d (show mn<=1000 by omega) p1,Q7x w0 (show w<=1000 by omega),show ((f:Int) == (t:Int))=false by simp;omega,Qe,e1,e2,ax,ao,Q8T ar hs,Q4b ak aq,g1,g,show (i == (-1:Int))=false by simp;omega,show (i != i)=false by simp,Qq (show k<=1000 by omega)]
 ·rw [YK,Qi,QiS]
theorem QdL (K:Int->oP R):V0 400 G.St G.Pt G.Se G.Li per Sk Ro Ls Ch Tu Sy De K=K 0:=by
 obtain ⟨T,hT,t1,t2,a,o⟩:=h.tu;have hl:Tu.length=T.length:=by rw [hT];simp
 have p0:=h.p0;have p1:=h.p1;unfold V0;rw [hl];refine Qu (r:=fun m h=>ZF 400 Tu ((T.length:Nat):Int) per Sk Ro Ls Ch Tu Sy De _ _ m h) (N:=T.length) (fun m k hk=>?_) (fun m=>?_) T.length 400 0 (by omega) (by omega)
 ·have e:Tu[k]? = some (tuR T[k]):=by rw [hT,List.getElem?_map,QiT hk];rfl
  obtain ⟨c,u2,u3,p,d,q,nm,w,rides,r,r',x,y,z,b,b',e1,e2,u,v,⟨a6,w',aj,f,g⟩,hR,ax⟩:=t1 _ (QiY hk);obtain ⟨rt,ex,rn,rx,s,rfl,au,hs,_⟩:=hR;obtain ⟨ay,ar,a2,az,s',rfl,ao,aq,_⟩:=ax;have ak:cut Tu (0,k)=(T.take k).map tuR:=by rw [L4,hT,List.map_take]
  have an:∀ t∈T.take k,(t.1:Int)≠(T[k].1:Int)/\(t.2.1:Int)≠(T[k].2.1:Int):=by
   intro t ht;have j:=NH t2 (i:=k) (by simpa using hk) t.1 (by rw [<- List.map_take];exact List.mem_map_of_mem ht);have h2:=NH a (i:=k) (by simpa using hk) t.2.1 (by rw [<- List.map_take];exact List.mem_map_of_mem ht);rw [List.getElem_map] at j h2;exact ⟨by omega,by omega⟩
  rw [ZF,Qc hk,Qe,e];simp -implicitDefEqProofs only [Q0,List.getElem?_cons_zero,List.getElem?_cons_succ,Q3,Xx,QG,QiX,QiS,QiV,QiU,tuR,Q1E c,Q1E u2,Q41 (Sk:=Sk) (Ro:=Ro) (Ls:=Ls) (Ch:=Ch) (Tu:=Tu) (Sy:=Sy) (De:=De) (n:=400) (show 0<=T[k].2.2.1 by omega) d (show T[k].2.2.2<T[k].2.2.1+per by omega) (by omega) p1];rw [hl,Q1c (by omega),Q0,ak,Q3v an (by simp;omega)];have hw:wJ (((rides.length:Nat):Int)-1)=((rides.length-1:Nat):Int):=by rw [Q7 (by omega) (by omega)];omega
  have l:Q1 aj (0:Int)=some [Q4 ay,Q4 ar,Q4 a2,Q4 az]:=(Qe aj 0).trans g;simp -implicitDefEqProofs only [Q0,List.getElem?_cons_zero,List.getElem?_cons_succ,Q3,Xx,QG,QiX,QiS,QiV,QiU,Qe,e1,f,hw,e2,l,Q8T au hs,Q4b ao aq,show (y != y)=false by simp,show ((0:Int) != 0)=false from rfl,Qq (show k<=1000 by omega)]
 ·rw [ZF,Qi,QiS]
theorem QbT (K:Int->oP R):J9 400 G.St G.Pt G.Se G.Li per Sk Ro Ls Ch Tu Sy De K=K 0:=by
 unfold J9 Q8E;rw [QeG h,Qcv h.sk,Qbv h,Qde h,Qac h,QdL h,QeC h,Qa0 h];rfl
end
end Go.Vx
namespace Go.Vx
variable {R:Type}
def Ua (n:Nat) (b:Int) (d e:D) (k0:Int->Bool->LL->oP R):Nat->Int->LL->oP R
 | 0,_,_=>none
 | m+1,a,c=>gb true (pIw d) 0 fun f=>bif decide (a<f) then gb true (pIw e) 0 fun g=>gb true (Yf ((c.length+[[Q4 g,Q4 b]].length)*16)) () fun h=>Ua n b d e k0 m (wJ (a+1)) (c++[[Q4 g,Q4 b]]) else k0 a (decide (a<f)) c
def Ui (n:Nat) (d a:LL) (c:Int) (k0:Int->Bool->LL->oP R):Nat->Int->LL->oP R
 | 0,_,_=>none
 | m+1,h2,e=>bif (decide (h2<(wJ ((a.length:Int)-c)))) then gb true (Q1 a h2) [] fun i=>gb true (i[0]?) oF fun j=>gb true (pIw j) 0 fun k=>gb true (Q1 d k) [] fun b=>gb true (b[0]?) oF fun t=>gb true (b[1]?) oF fun f=>gb true (b[2]?) oF fun g=>gb true (b[3]?) oF fun l=>gb true (b[4]?) oF fun u=>gb true (pIw l) 0 fun h=>gb true (Q1 a h2) [] fun o=>gb true (o[1]?) oF fun p=>gb true (pIw p) 0 fun q=>bif (q == 1) then Ua n (wJ (0-h)) f g (fun v x r=>Ui n d a c k0 m (wJ (h2+1)) r) n 0 e else Ua n h f g (fun y z s=>Ui n d a c k0 m (wJ (h2+1)) s) n 0 e else k0 h2 (decide (h2<(wJ ((a.length:Int)-c)))) e
def PI (n:Nat) (f g a h b:LL) (c:Int) (K:LL->Int->Int->oP R):oP R:= gb true (VR n f g a h b c some) 0 fun d=>bif (d != 0) then K [] 0 d else Ui n a b c (fun p q e=>bif (decide ((e.length:Int)>4000)) then K [] 0 7 else gb true (Q1 b 0) [] fun i=>gb true (i[0]?) oF fun j=>gb true (pIw j) 0 fun k=>gb true (Q1 a k) [] fun l=>gb true (l[1]?) oF fun m=>gb true (pIw m) 0 fun o=>K e o 0) n 0 []
end Go.Vx
namespace Go.Vx
variable {R:Type}
def XW (n:Nat) (i:List UInt8) (d e f g:Int) (K:Bool->oP R):oP R:= gb true (Hi n d 1 40 some) false fun a=>gb a (Hi n e 1000 100000 some) false fun b=>gb (bif a then b else false) (Hi n f 100 2000 some) false fun c=>gb (bif (bif a then b else false) then c else false) (Hi n g 100 2000 some) false fun h=>K (bif (bif (bif a then b else false) then c else false) then h else false)
end Go.Vx
namespace Go.Vx
variable {R:Type}
def JZ (n:Nat) (e b:LL) (c d:Int) (k0:oP R) (k1:Int->Bool->oP R):Nat->Int->oP R
 | 0,_=>none
 | m+1,a=>bif (decide (a<(wJ ((b.length:Int)-c)))) then gb true (Q1 b a) [] fun f=>gb true (f[0]?) oF fun g=>gb true (pIw g) 0 fun h=>gb true (Q1 e h) [] fun i=>gb true (i[1]?) oF fun j=>gb true (pIw j) 0 fun k=>bif (decide (k<(if 2<d then d else 2))) then k0 else JZ n e b c d k0 k1 m (wJ (a+1)) else k1 a (decide (a<(wJ ((b.length:Int)-c))))
def S1 (n:Nat) (g h c i d:LL) (e:Int) (j:List UInt8) (f k l m:Int) (K:Int->oP R):oP R:= gb true (PI n g h c i d e Tu3) ([],0,0) fun a=>bif (a.2.2 != 0) then K a.2.2 else gb true (XW n j f k l m some) false fun b=>bif !b then K 1 else JZ n c d e f (K 12) (fun p q=>K 0) n 0
end Go.Vx
namespace Go.Vx
variable {R:Type}
def JX (n:Nat) (b:LL) (k0:oP R) (k1:Int->Bool->oP R):Nat->Int->oP R
 | 0,_=>none
 | m+1,a=>bif (decide (a<(b.length:Int))) then gb true (Q1 b a) [] fun c=>gb true (c[3]?) oF fun d=>gb true (pSl 4 d) [] fun e=>bif (decide ((e.length:Int)>12)) then k0 else JX n b k0 k1 m (wJ (a+1)) else k1 a (decide (a<(b.length:Int)))
def Ll (n:Nat) (h:Int) (b c a d e f g:LL) (K:Bool->oP R):oP R:= bif (bif (bif (bif (bif (bif (bif (decide ((b.length:Int)>8)) then true else (decide ((c.length:Int)>48))) then true else (decide ((a.length:Int)>16))) then true else (decide ((d.length:Int)>32))) then true else (decide ((e.length:Int)>32))) then true else (decide ((f.length:Int)>32))) then true else (decide ((g.length:Int)>32))) then K true else JX n a (K true) (fun i j=>K false) n 0
end Go.Vx
namespace Go.Vx
variable {R:Type}
def Vy (n:Nat) (a0 a1 a2:Int) (K:Bool->oP R):oP R:= K (bif decide (a0>=a1) then (decide (a0<=a2)) else false)
end Go.Vx
namespace Go.Vx
variable {R:Type}
def GF (n:Nat) (b:Int) (c:LL) (k0:oP R) (k1:Int->Bool->oP R):Nat->Int->oP R
 | 0,_=>none
 | m+1,a=>bif decide (a<b) then gb true (Q1 c a) [] fun d=>gb true (d[0]?) oF fun e=>gb true (RD e) [] fun f=>gb true (Q1 c b) [] fun g=>gb true (g[0]?) oF fun h=>gb true (RD h) [] fun i=>bif (f == i) then k0 else GF n b c k0 k1 m (wJ (a+1)) else k1 a (decide (a<b))
def Gj (n:Nat) (s:Int) (b t u v x y z:LL) (a1:Int) (K:Int->oP R):oP R:= gb true (Q1 b a1) [] fun c=>gb true (c[0]?) oF fun d=>gb true (RD d) [] fun e=>gb true (Ng n e some) false fun f=>bif !f then K 3 else GF n a1 b (K 5) (fun aa ab=>gb true (Q1 b a1) [] fun a=>gb true (a[0]?) oF fun g=>gb true (a[1]?) oF fun h=>gb true (a[2]?) oF fun i=>gb true (a[3]?) oF fun j=>gb true (a[4]?) oF fun k=>gb true (RD g) [] fun l=>gb true (pIw h) 0 fun m=>gb true (pIw i) 0 fun o=>gb true (pIw j) 0 fun p=>gb true (pIw k) 0 fun q=>gb true (XW n l m o p q some) false fun r=>bif !r then K 4 else K 0) n 0
end Go.Vx
namespace Go.Vx
variable {R:Type}
def K5 (n:Nat) (a:Int) (b c d e f g h:LL) (a1 a2:Int) (K:Bool->oP R):oP R:= K (bif (bif (bif decide (a1>=0) then (decide (a1<=a2)) else false) then (decide (a2<(wJ (a1+a)))) else false) then (decide (a2<=7200)) else false)
end Go.Vx
namespace Go.Vx
variable {R:Type}
def T3 (n:Nat) (a:LL) (d:Int) (K:Int->oP R):oP R:= gb true (Q1 a 0) [] fun b=>gb true (b[0]?) oF fun c=>gb true (pIw c) 0 fun i3=>K i3
end Go.Vx
namespace Go.Vx
variable {R:Type}
def PG (n:Nat) (a:LL) (b:Int) (K:Int->oP R):oP R:= gb true (Q1 a (wJ ((wJ ((a.length:Int)-b))-1))) [] fun c=>gb true (c[0]?) oF fun d=>gb true (pIw d) 0 fun i3=>K i3
end Go.Vx
namespace Go.Vx
variable {R:Type}
def Ws (n:Nat) (b:Int) (c:LL) (d:D) (k0:oP R) (k1:Int->Bool->oP R):Nat->Int->oP R
 | 0,_=>none
 | m+1,a=>bif decide (a<b) then gb true (Q1 c a) [] fun e=>gb true (e[0]?) oF fun f=>gb true (RD f) [] fun g=>gb true (RD d) [] fun h=>bif (g == h) then k0 else Ws n b c d k0 k1 m (wJ (a+1)) else k1 a (decide (a<b))
def Wk (n:Nat) (o p q r:LL) (h:Int) (i c s t u v x:LL) (y e:D) (k0:Int->oP R) (k1:Int->Bool->oP R):Nat->Int->oP R
 | 0,_=>none
 | m+1,a=>gb true (pSl 4 e) [] fun z=>bif (decide (a<(z.length:Int))) then gb true (pSl 4 e) [] fun ai=>gb true (Q1 ai a) [] fun g=>gb true (g[0]?) oF fun j=>gb true (g[1]?) oF fun aj=>gb true (g[2]?) oF fun aa=>gb true (g[3]?) oF fun ab=>gb true (pSl 4 e) [] fun k=>gb true (pIw j) 0 fun ak=>gb true (Vy n ak 0 (wJ ((c.length:Int)-1)) some) false fun b=>gb (!(!b)) (pIw aj) 0 fun al=>gb (!(!b)) (Vy n al 0 (wJ (h-1)) some) false fun d=>gb (!(bif !b then true else (!d))) (pIw aa) 0 fun am=>gb (!(bif !b then true else (!d))) (pIw ab) 0 fun an=>gb (!(bif !b then true else (!d))) (K5 n h i c s t u v x am an some) false fun l=>gb ((!(bif (bif !b then true else (!d)) then true else (!l)))&&(a == (wJ ((k.length:Int)-1)))) (pIw aa) 0 fun ac=>gb (((!(bif (bif !b then true else (!d)) then true else (!l)))&&(a == (wJ ((k.length:Int)-1))))&&(!(ac != 0))) (pIw ab) 0 fun ao=>bif (bif (bif (bif !b then true else (!d)) then true else (!l)) then true else (bif (a == (wJ ((k.length:Int)-1))) then (bif (ac != 0) then true else (ao != 0)) else false)) then k0 4 else gb true (pIw j) 0 fun ap=>gb true (Q1 c ap) [] fun ad=>gb true (ad[0]?) oF fun aq=>gb true (ad[1]?) oF fun ar=>gb true (pIw y) 0 fun au=>gb true (Q1 i au) [] fun f=>gb true (f[0]?) oF fun av=>gb true (f[1]?) oF fun aw=>gb true (f[2]?) oF fun ax=>gb true (f[3]?) oF fun ay=>gb true (f[4]?) oF fun az=>gb true (pSl 2 aq) [] fun ba=>gb true (pIw ar) 0 fun bb=>gb true (RD av) [] fun bc=>gb true (pIw aw) 0 fun bd=>gb true (pIw ax) 0 fun be=>gb true (pIw ay) 0 fun bg=>gb true (pIw az) 0 fun bh=>gb true (S1 n o p q r ba bb bc bd be bg bh some) 0 fun ae=>bif (ae != 0) then k0 ae else gb (decide (a>0)) (pIw j) 0 fun bi=>gb (decide (a>0)) (Q1 c bi) [] fun ag=>gb (decide (a>0)) (ag[0]?) oF fun bj=>gb (decide (a>0)) (ag[1]?) oF fun bk=>gb (decide (a>0)) (pSl 2 bj) [] fun bl=>gb (decide (a>0)) (pIw bk) 0 fun bm=>gb (decide (a>0)) (T3 n bl bm some) 0 fun bn=>gb (decide (a>0)) (pSl 4 e) [] fun bo=>gb (decide (a>0)) (Q1 bo (wJ (a-1))) [] fun bp=>gb (decide (a>0)) (bp[0]?) oF fun bq=>gb (decide (a>0)) (pIw bq) 0 fun br=>gb (decide (a>0)) (Q1 c br) [] fun ah=>gb (decide (a>0)) (ah[0]?) oF fun bt=>gb (decide (a>0)) (ah[1]?) oF fun bu=>gb (decide (a>0)) (pSl 2 bt) [] fun bv=>gb (decide (a>0)) (pIw bu) 0 fun bx=>gb (decide (a>0)) (PG n bv bx some) 0 fun bz=>bif (bif decide (a>0) then (bn != bz) else false) then k0 11 else Wk n o p q r h i c s t u v x y e k0 k1 m (wJ (a+1)) else k1 a (decide (a<(z.length:Int)))
def KD (n:Nat) (h i j k:LL) (l:Int) (d m b o p q r:LL) (a2:Int) (K:Int->oP R):oP R:= gb true (Q1 b a2) [] fun a=>gb true (a[0]?) oF fun e=>gb true (a[1]?) oF fun f=>gb true (a[2]?) oF fun s=>gb true (a[3]?) oF fun g=>gb true (RD e) [] fun t=>gb true (Ng n t some) false fun u=>bif !u then K 3 else Ws n a2 b e (K 5) (fun ab ac=>gb true (pIw f) 0 fun v=>gb true (Vy n v 0 (wJ ((d.length:Int)-1)) some) false fun c=>gb (!(!c)) (pIw s) 0 fun x=>gb (!(!c)) (Vy n x 0 1048576 some) false fun y=>bif (bif !c then true else (!y)) then K 4 else gb true (pSl 4 g) [] fun z=>bif ((z.length:Int) == 0) then K 1 else Wk n h i j k l d m b o p q r f g (fun aa=>K aa) (fun ad ae=>K 0) n 0) n 0
end Go.Vx
namespace Go.Vx
variable {R:Type}
def Jv (n:Nat) (g:Int) (h i b j k l m:LL) (a1 a2:Int) (K:Bool->oP R):oP R:= gb true (Vy n a1 0 (wJ ((b.length:Int)-1)) some) false fun a=>gb a (Q1 b a1) [] fun c=>gb a (c[3]?) oF fun d=>gb a (pSl 4 d) [] fun e=>gb a (Vy n a2 0 (wJ ((e.length:Int)-1)) some) false fun f=>K (bif a then f else false)
end Go.Vx
namespace Go.Vx
variable {R:Type}
def XY (n:Nat) (l:Int) (m b c o p q r:LL) (a1 a2:Int) (K:D->D->oP R):oP R:= gb true (Q1 c a1) [] fun d=>gb true (d[3]?) oF fun e=>gb true (pSl 4 e) [] fun f=>gb true (Q1 f a2) [] fun g=>gb true (g[0]?) oF fun h=>gb true (pIw h) 0 fun i=>gb true (Q1 b i) [] fun a=>gb true (a[0]?) oF fun j=>gb true (a[1]?) oF fun k=>K j k
end Go.Vx
namespace Go.Vx
variable {R:Type}
def Hn (n:Nat) (am an o ao:LL) (b:Int) (c d e f g h i:LL) (j p k q v x y:Int) (K:Int->oP R):oP R:= gb true (Jv n b c d e f g h i j p some) false fun a=>gb (!(!a)) (Jv n b c d e f g h i k q some) false fun l=>gb (!(bif (bif !a then true else (!l)) then true else (j == k))) (K5 n b c d e f g h i v x some) false fun r=>gb (!(bif (bif (bif !a then true else (!l)) then true else (j == k)) then true else (!r))) (Vy n y 0 1048576 some) false fun z=>bif (bif (bif (bif (bif !a then true else (!l)) then true else (j == k)) then true else (!r)) then true else (!z)) then K 4 else gb true (XY n b c d e f g h i j p Tu2) ((.bool false),(.bool false)) fun s=>gb true (pSl 2 s.1) [] fun l6=>gb true (pIw s.2) 0 fun i7=>gb true (PG n l6 i7 some) 0 fun r8=>gb true (Q1 o r8) [] fun r9=>gb true (r9[4]?) oF fun ae=>gb true (pIw ae) 0 fun t=>gb true (XY n b c d e f g h i k q Tu2) ((.bool false),(.bool false)) fun u=>gb true (pSl 2 u.1) [] fun ag=>gb true (pIw u.2) 0 fun ah=>gb true (T3 n ag ah some) 0 fun ai=>gb true (Q1 o ai) [] fun aj=>gb true (aj[4]?) oF fun ak=>gb true (pIw ak) 0 fun al=>bif (bif decide (t<0) then true else (t != al)) then K 11 else K 0
end Go.Vx
namespace Go.Vx
variable {R:Type}
def Wt (n:Nat) (d:Int) (e:LL) (f g:D) (k0:oP R) (k1:Int->Bool->oP R):Nat->Int->oP R
 | 0,_=>none
 | m+1,a=>bif decide (a<d) then gb true (Q1 e a) [] fun h=>gb true (h[0]?) oF fun i=>gb true (pIw i) 0 fun b=>gb true (pIw f) 0 fun c=>gb (!(b == c)) (Q1 e a) [] fun j=>gb (!(b == c)) (j[1]?) oF fun k=>gb (!(b == c)) (pIw k) 0 fun l=>gb (!(b == c)) (pIw g) 0 fun o=>bif (bif (b == c) then true else (l == o)) then k0 else Wt n d e f g k0 k1 m (wJ (a+1)) else k1 a (decide (a<d))
def KH (n:Nat) (j:Int) (k l b m d o p:LL) (a1:Int) (K:Int->oP R):oP R:= gb true (Q1 d a1) [] fun a=>gb true (a[0]?) oF fun e=>gb true (a[1]?) oF fun f=>gb true (a[2]?) oF fun v=>gb true (a[3]?) oF fun x=>gb true (pIw e) 0 fun y=>gb true (Vy n y 0 (wJ ((b.length:Int)-1)) some) false fun c=>gb (!(!c)) (pIw f) 0 fun z=>gb (!(!c)) (Vy n z 0 (wJ ((b.length:Int)-1)) some) false fun g=>gb (!(bif !c then true else (!g))) (pIw v) 0 fun aa=>gb (!(bif !c then true else (!g))) (pIw x) 0 fun ab=>gb (!(bif !c then true else (!g))) (K5 n j k l b m d o p aa ab some) false fun ac=>bif (bif (bif !c then true else (!g)) then true else (!ac)) then K 4 else Wt n a1 d e f (K 5) (fun ar au=>gb true (pIw e) 0 fun ad=>gb true (Q1 b ad) [] fun h=>gb true (h[0]?) oF fun av=>gb true (h[1]?) oF fun ae=>gb true (h[2]?) oF fun aw=>gb true (h[3]?) oF fun ag=>gb true (pIw f) 0 fun ah=>gb true (Q1 b ah) [] fun i=>gb true (i[0]?) oF fun ax=>gb true (i[1]?) oF fun ai=>gb true (i[2]?) oF fun ay=>gb true (i[3]?) oF fun az=>gb true (pIw e) 0 fun aj=>gb true (pSl 4 ag) [] fun ak=>gb true (XY n j k l b m d o p aj (wJ ((ak.length:Int)-1)) Tu2) ((.bool false),(.bool false)) fun t=>gb true (pSl 2 t.1) [] fun al=>gb true (pIw t.2) 0 fun am=>gb true (PG n al am some) 0 fun r=>gb true (pIw f) 0 fun i64=>gb true (XY n j k l b m d o p i64 0 Tu2) ((.bool false),(.bool false)) fun u=>gb true (pSl 2 u.1) [] fun an=>gb true (pIw u.2) 0 fun ao=>gb true (T3 n an ao some) 0 fun s=>gb (!(r != s)) (pIw ae) 0 fun ap=>gb (!(r != s)) (pIw ai) 0 fun aq=>bif (bif (r != s) then true else (ap != aq)) then K 11 else K 0) n 0
end Go.Vx
namespace Go.Vx
variable {R:Type}
def Wo (n:Nat) (c:Int) (b d e f g h i:LL) (k0:Int->oP R) (k1:Int->Bool->oP R):Nat->Int->oP R
 | 0,_=>none
 | m+1,a=>bif (decide (a<(b.length:Int))) then gb true (Gj n c b d e f g h i a some) 0 fun j=>bif (j != 0) then k0 j else Wo n c b d e f g h i k0 k1 m (wJ (a+1)) else k1 a (decide (a<(b.length:Int)))
def Wj (n:Nat) (c d e f b:LL) (k0:Int->oP R) (k1:Int->Bool->oP R):Nat->Int->oP R
 | 0,_=>none
 | m+1,a=>bif (decide (a<(b.length:Int))) then gb true (Q1 b a) [] fun g=>gb true (g[0]?) oF fun i=>gb true (g[1]?) oF fun j=>gb true (pSl 2 i) [] fun k=>gb true (pIw j) 0 fun l=>gb true (VR n c d e f k l some) 0 fun h=>bif (h != 0) then k0 h else Wj n c d e f b k0 k1 m (wJ (a+1)) else k1 a (decide (a<(b.length:Int)))
def Wn (n:Nat) (c d e f:LL) (g:Int) (h i b j k l o:LL) (k0:Int->oP R) (k1:Int->Bool->oP R):Nat->Int->oP R
 | 0,_=>none
 | m+1,a=>bif (decide (a<(b.length:Int))) then gb true (KD n c d e f g h i b j k l o a some) 0 fun p=>bif (p != 0) then k0 p else Wn n c d e f g h i b j k l o k0 k1 m (wJ (a+1)) else k1 a (decide (a<(b.length:Int)))
def Z7 (n:Nat) (d e f g:LL) (h:Int) (i j k b l o p:LL) (k0:Int->oP R) (k1:Int->Bool->oP R):Nat->Int->oP R
 | 0,_=>none
 | m+1,c=>bif (decide (c<(b.length:Int))) then gb true (Q1 b c) [] fun a=>gb true (a[0]?) oF fun r=>gb true (a[1]?) oF fun s=>gb true (a[2]?) oF fun t=>gb true (a[3]?) oF fun u=>gb true (a[4]?) oF fun v=>gb true (a[5]?) oF fun x=>gb true (a[6]?) oF fun y=>gb true (pIw r) 0 fun z=>gb true (pIw s) 0 fun aa=>gb true (pIw t) 0 fun ab=>gb true (pIw u) 0 fun ac=>gb true (pIw v) 0 fun ad=>gb true (pIw x) 0 fun ae=>gb true (pIw y) 0 fun ag=>gb true (Hn n d e f g h i j k b l o p z aa ab ac ad ae ag some) 0 fun q=>bif (q != 0) then k0 q else Z7 n d e f g h i j k b l o p k0 k1 m (wJ (c+1)) else k1 c (decide (c<(b.length:Int)))
def Z1 (n:Nat) (c:Int) (d e f g b h i:LL) (k0:Int->oP R) (k1:Int->Bool->oP R):Nat->Int->oP R
 | 0,_=>none
 | m+1,a=>bif (decide (a<(b.length:Int))) then gb true (KH n c d e f g b h i a some) 0 fun j=>bif (j != 0) then k0 j else Z1 n c d e f g b h i k0 k1 m (wJ (a+1)) else k1 a (decide (a<(b.length:Int)))
def YX (n:Nat) (h:Int) (i j k l o c p:LL) (k0:oP R) (k1:Int->Bool->oP R):Nat->Int->oP R
 | 0,_=>none
 | m+1,d=>bif (decide (d<(c.length:Int))) then gb true (Q1 c d) [] fun e=>gb true (e[0]?) oF fun s=>gb true (e[1]?) oF fun t=>gb true (e[2]?) oF fun u=>gb true (e[3]?) oF fun v=>gb true (e[4]?) oF fun x=>gb true (pIw s) 0 fun y=>gb true (pIw t) 0 fun z=>gb true (Jv n h i j k l o c p y z some) false fun a=>gb (!(!a)) (pIw u) 0 fun aa=>gb (!(!a)) (pIw v) 0 fun ab=>gb (!(!a)) (Jv n h i j k l o c p aa ab some) false fun b=>gb (!(bif !a then true else (!b))) (pIw s) 0 fun f=>gb (!(bif !a then true else (!b))) (pIw u) 0 fun g=>gb ((!(bif !a then true else (!b)))&&(f == g)) (pIw t) 0 fun q=>gb ((!(bif !a then true else (!b)))&&(f == g)) (pIw v) 0 fun r=>gb (!(bif (bif !a then true else (!b)) then true else (bif (f == g) then (q == r) else false))) (pIw x) 0 fun ac=>gb (!(bif (bif !a then true else (!b)) then true else (bif (f == g) then (q == r) else false))) (Vy n ac 0 (wJ (h-1)) some) false fun ad=>bif (bif (bif (bif !a then true else (!b)) then true else (bif (f == g) then (q == r) else false)) then true else (!ad)) then k0 else YX n h i j k l o c p k0 k1 m (wJ (d+1)) else k1 d (decide (d<(c.length:Int)))
def Z3 (n:Nat) (e d:LL) (k0:oP R) (k1:Int->Bool->oP R):Nat->Int->oP R
 | 0,_=>none
 | m+1,b=>bif (decide (b<(d.length:Int))) then gb true (Q1 d b) [] fun f=>gb true (f[0]?) oF fun i=>gb true (f[1]?) oF fun j=>gb true (f[2]?) oF fun k=>gb true (pIw i) 0 fun l=>gb true (Vy n l 0 (wJ ((e.length:Int)-1)) some) false fun a=>gb (!(!a)) (pIw j) 0 fun o=>gb (!(!a)) (Vy n o 0 (wJ ((e.length:Int)-1)) some) false fun c=>gb (!(bif !a then true else (!c))) (pIw i) 0 fun g=>gb (!(bif !a then true else (!c))) (pIw j) 0 fun h=>gb (!(bif (bif !a then true else (!c)) then true else (g == h))) (pIw k) 0 fun p=>gb (!(bif (bif !a then true else (!c)) then true else (g == h))) (Vy n p 1 1048576 some) false fun q=>bif (bif (bif (bif !a then true else (!c)) then true else (g == h)) then true else (!q)) then k0 else Z3 n e d k0 k1 m (wJ (b+1)) else k1 b (decide (b<(d.length:Int)))
def Ul (n:Nat) (i j k l:LL) (a:Int) (d b e f g h c:LL) (K:Int->oP R):oP R:= gb true (JR n i j k l some) 0 fun m=>bif (m != 0) then K 1 else gb true (Ll n a d b e f g h c some) false fun o=>bif o then K 7 else gb true (Vy n a 2 7200 some) false fun p=>bif !p then K 4 else Wo n a d b e f g h c (fun q=>K q) (fun v x=>Wj n i j k l b (fun r=>K r) (fun y z=>Wn n i j k l a d b e f g h c (fun s=>K s) (fun aa ab=>Z7 n i j k l a d b e f g h c (fun t=>K t) (fun ac ad=>Z1 n a d b e f g h c (fun u=>K u) (fun ae ag=>YX n a d b e f g h c (K 4) (fun ah ai=>Z3 n i c (K 4) (fun aj ak=>K 0) n 0) n 0) n 0) n 0) n 0) n 0) n 0
end Go.Vx
namespace Go.Vx
section
variable {R:Type} {n:Nat}
theorem Q3M {x lo hi:Int} (a:lo<=x) (b:x<=hi) (K:Bool->oP R):Hi n x lo hi K=K true:=inT (n:=n) a b K
theorem Q3N {x lo hi:Int} (a:lo<=x) (b:x<=hi) (K:Bool->oP R):Vy n x lo hi K=K true:=inT (n:=n) a b K
theorem QdD {a b g:Int} {acc:LL} (c:0<=a) (d:a<=12) (hc:acc.length<=1000) {k0:Int->Bool->LL->oP R} {m:Nat} (hm:12<m):Ua n g (Q4 a) (Q4 b) k0 m 0 acc=k0 a false (acc++List.replicate a.toNat [Q4 b,Q4 g]):=by
 have hl:∀ h:Nat,(acc++List.replicate h [Q4 b,Q4 g]).length=acc.length+h:=fun h=>by simp
 have:=Qu (r:=fun m h=>Ua n g (Q4 a) (Q4 b) k0 m h (acc++List.replicate h.toNat [Q4 b,Q4 g])) (N:=a.toNat) (e:=k0 a false (acc++List.replicate a.toNat [Q4 b,Q4 g])) (fun m h hh=>?_) (fun m=>?_) a.toNat m 0 (by omega) (by omega)
 ·simpa using this
 ·simp only [Int.toNat_natCast];rw [Ua,Q3,Q0,QX (by simp;omega),Q3,Q0,hl,XF (by simp only [List.length_cons,List.length_nil];omega),Q0,Qq (by omega),List.append_assoc,<- List.replicate_succ']
 ·rw [Ua,Q3,Q0,Q9 (by simp;omega)];simp only [Int.toNat_natCast];rw [show ((a.toNat:Nat):Int)=a by omega];simp
theorem QeJ {Se s:LL} {k0:Int->Bool->LL->oP R} (hs:∀ row∈s,DB Se row) (hl:s.length<=30) {m:Nat} (hm:s.length<m) (hn:12<n):Ui n Se s 0 k0 m 0 []=k0 ((s.length:Nat):Int) false (Yi Se s):=by
 have hc:=fun h:Nat=>(Pu (s:=s.take h) fun r hr=>hs r (List.mem_of_mem_take hr)).1
 have hw:wJ (((s.length:Nat):Int)-0)=((s.length:Nat):Int):=by rw [Q7 (by omega) (by omega)];omega
 refine Qu (r:=fun m h=>Ui n Se s 0 k0 m h (Yi Se (s.take h.toNat))) (N:=s.length) (fun m h hh=>?_) (fun m=>?_) s.length m 0 (by omega) hm
 ·have e:=QiT hh;obtain ⟨x,d,nm,a,b,c,st,hx,aj,f,hd⟩:=hs _ (QiY hh);rw [hx] at e;have a0:=f.a0;have a1:=f.a1;have an:=hc h;simp only [List.length_take] at an;simp only [Int.toNat_natCast,NN e,H3 aj];rw [Ui,hw,Qc hh];simp -implicitDefEqProofs only [Q0,List.getElem?_cons_zero,List.getElem?_cons_succ,Q3,Xx,QG,QiX,QiS,QiV,QiU,Qe,e,aj,QdD (n:=n) (b:=b) (acc:=Yi Se (s.take h)) (show 0<=a by omega) a1 (by omega) hn,Qq (show h<=1000 by omega)];rw [Q7 (x:=0-c) (by have:=f.c1;omega) (by have:=f.c0;omega),Int.zero_sub];cases g:d == (1:Int) <;> rfl
 ·simp only [Int.toNat_natCast];rw [Ui,hw,Qi,QiS,List.take_length]
end
structure RtF (St Pt Se Li s:LL):Prop where
 lay:Pg 400 St Pt Se Li=true
 ref:Q9v St Pt Se Li=true
 l2:2<=s.length
 l24:s.length<=24
 rt:rtB Se.length Li s=true
 rt6:Qf8 Se.length Li s=true
 hops:Ag Se.length Pt.length Li 0 s=true
 st:∀ r∈s,DB Se r
theorem RtOK.f {G:Geo} (hG:G.OK) {s:LL} {x y:Int} (h:RtOK G s x y):RtF G.St G.Pt G.Se G.Li s:=⟨hG.lay,hG.ref,h.l2,h.l24,h.rt,h.rt6,h.hops,h.st⟩
section
variable {St Pt Se Li s:LL} (h:RtF St Pt Se Li s)
include h
theorem Q8r:PI 400 St Pt Se Li s 0 Tu3=some (Yi Se s,HV Se s,0):=by
 have l2:=h.l2;have l24:=h.l24;have hl:=(Pu h.st).1;obtain ⟨row,rest,rfl⟩:∃ row rest,s=row::rest:=by
  cases s with
  |nil=>simp at l2
  |cons a b=>exact ⟨a,b,rfl⟩
 obtain ⟨x,d,nm,a,b,c,st,rfl,hs,_,_⟩:=h.st row (by simp);have hf:HV Se ([Q4 x,Q4 d]::rest)=a:=by simp only [HV,hs]
 generalize hS:[Q4 x,Q4 d]::rest=s at *
 unfold PI;rw [Q3B h.ref rfl h.l2 h.l24 h.rt6,Q0,Q9 (by decide),QeJ h.st (by omega) (by omega) (by decide),Q9 (by simp;omega),show Q1 s (0:Int)=some [Q4 x,Q4 d] by rw [<- hS];rfl];simp -implicitDefEqProofs only [Q0,List.getElem?_cons_zero,List.getElem?_cons_succ,Q3,Xx,QG,QiX,QiS,QiV,QiU,hs,hf]
theorem Q8M {nm:List UInt8} {tl sp ac br:Int} (hk:StkN tl sp ac br):S1 400 St Pt Se Li s 0 nm tl sp ac br (some:Int->Option Int)=some 0:=by
 have l24:=h.l24;have hw:wJ (((s.length:Nat):Int)-0)=((s.length:Nat):Int):=by rw [Q7 (by omega) (by omega)];omega
 have ak:XW 400 nm tl sp ac br (some:Bool->Option Bool)=some true:=by
  obtain ⟨t1,t2,s1,s2,a1,a2,b1,b2⟩:=hk;unfold XW;simp -implicitDefEqProofs only [Q0,List.getElem?_cons_zero,List.getElem?_cons_succ,Q3,Xx,QG,QiX,QiS,QiV,QiU,Q3M t1 (show tl<=40 by omega),Q3M (show 1000<=sp by omega) (show sp<=100000 by omega),Q3M (show 100<=ac by omega) (show ac<=2000 by omega),Q3M (show 100<=br by omega) (show br<=2000 by omega)]
 unfold S1;rw [Q8r h,Q0,Q9 (by rfl),ak,Q0,Q9 (by decide)];refine Qu (r:=fun m h=>JZ 400 Se s 0 tl _ _ m h) (N:=s.length) (fun m k e=>?_) (fun m=>?_) s.length 400 0 (by omega) (by omega)
 ·obtain ⟨x,d,an,a,b,c,st,hx,aj,hn,_⟩:=h.st _ (QiY e);have a0:=hn.a0;have t2:=hk.t2;rw [JZ,hw,Qc e,Qe,QiT e,hx];simp -implicitDefEqProofs only [Q0,List.getElem?_cons_zero,List.getElem?_cons_succ,Q3,Xx,QG,QiX,QiS,QiV,QiU,aj,show decide (a<if 2<tl then tl else 2)=false by simp;split <;> omega,Qq (show k<=1000 by omega)]
 ·rw [JZ,hw,Qi,QiS]
end
end Go.Vx
namespace Go.Vx
variable {R:Type}
def Vh (n:Nat) (b:Int) (k0:Int->Int->Bool->oP R):Nat->Int->Int->oP R
 | 0,_,_=>none
 | m+1,h2,a=>bif decide (a>0) then gb true (nz (wJ (h2+a))) () fun c=>bif (decide ((wJ (h2+a))<=(wJ (Int.tdiv b (wJ (h2+a)))))) then gb true (B8 1) () fun d=>Vh n b k0 m (wJ (h2+a)) (shR .i64 a 1) else gb true (B8 1) () fun e=>Vh n b k0 m h2 (shR .i64 a 1) else k0 h2 a (decide (a>0))
def PL (n:Nat) (a0:Int) (K:Int->oP R):oP R:= Vh n a0 (fun a b c=>K a) n 0 2147483648
end Go.Vx
namespace Go.Vx
variable {R:Type}
def VN (n:Nat) (b:Int) (k0:Int->Int->Bool->oP R):Nat->Int->Int->oP R
 | 0,_,_=>none
 | m+1,h2,a=>bif decide (h2<a) then gb true (nz 2) () fun c=>bif (decide ((wJ ((wJ (Int.tdiv (wJ ((wJ (h2+a))+1)) 2))*(wJ (Int.tdiv (wJ ((wJ (h2+a))+1)) 2))))<=b)) then VN n b k0 m (wJ (Int.tdiv (wJ ((wJ (h2+a))+1)) 2)) a else VN n b k0 m h2 (wJ ((wJ (Int.tdiv (wJ ((wJ (h2+a))+1)) 2))-1)) else k0 h2 a (decide (h2<a))
def Nv (n:Nat) (a0:Int) (K:Int->oP R):oP R:= bif decide (a0<=0) then K 0 else VN n a0 (fun a b c=>K a) n 0 3037000499
end Go.Vx
namespace Go.Vx
def Qad (x r:Int):Prop:=0<=r/\r*r<=x/\x<(r+1)*(r+1)
theorem Q49 {a b:Int} (c:0<=a) (h:a<=b):a*a<=b*b:=Int.mul_le_mul h h c (by omega)
theorem Q2Q {x r s:Int} (h:Qad x r) (g:Qad x s):r=s:=by
 obtain ⟨a0,a1,a2⟩:=h;obtain ⟨b0,b1,b2⟩:=g;rcases Int.lt_trichotomy r s with h | h | h
 ·have:=Q49 (show 0<=r+1 by omega) (show r+1<=s by omega);omega
 ·exact h
 ·have:=Q49 (show 0<=s+1 by omega) (show s+1<=r by omega);omega
theorem Q84 {x r b:Int} (c:0<=r) (hb:0<=b) (h:r*r<=x) (hx:x<(b+1)*(b+1)):r<=b:=by
 by_cases a:r<=b
 ·exact a
 ·have:=Q49 (show 0<=b+1 by omega) (show b+1<=r by omega);omega
theorem QhE {a:Int} (b:0<=a) (c:a<=9223372036854775807):shR .i64 a 1=a / 2:=by
 show a.fdiv 2=a / 2;exact Int.fdiv_eq_ediv_of_nonneg a (by decide)
theorem QeV {R:Type} {n:Nat} {x:Int} (a:0<=x) (hx:x<=1000000000) {k0:Int->Int->Bool->oP R}:∀ (k m:Nat) (aj:Int),k<=31->k+1<m->0<=aj->aj*aj<=x->x<(aj+2 ^ (k+1))*(aj+2 ^ (k+1)) ->
  ∃ r,Qad x r/\Vh n x k0 m aj (2 ^ k)=k0 r 0 false
 |k,m+1,aj,hk,hm,b,c,d=>by
  have hr:aj<=40000:=Q84 b (by decide) c (by omega);have hp:∀ j:Nat,(1:Int)<=2 ^ j:=fun j=>by
   have:=Int.ofNat_le.2 (Nat.two_pow_pos j);rw [Int.natCast_pow] at this;exact this
  have f:(2:Int) ^ k<=2147483648:=by
   have:=Int.ofNat_le.2 (Nat.le_trans (Nat.pow_le_pow_right (show 0<2 by decide) hk) (show 2 ^ 31<=2147483648 by decide));rw [Int.natCast_pow] at this;exact this
  have g:=hp k;have hw:wJ (aj+2 ^ k)=aj+2 ^ k:=Q7 (by omega) (by omega);have hs:(2:Int) ^ (k+1)=2 ^ k+2 ^ k:=by rw [Int.pow_succ];omega
  have an:Int.tdiv x (aj+2 ^ k)=x / (aj+2 ^ k):=Int.tdiv_eq_ediv_of_nonneg a;have i:0<=x / (aj+2 ^ k):=Int.ediv_nonneg a (by omega);have l:x / (aj+2 ^ k)<=x:=Int.ediv_le_self _ a;have e:wJ (Int.tdiv x (aj+2 ^ k))=x / (aj+2 ^ k):=by rw [an,Q7 (by omega) (by omega)]
  have ak:(aj+2 ^ k<=x / (aj+2 ^ k))↔(aj+2 ^ k)*(aj+2 ^ k)<=x:=Int.le_ediv_iff_mul_le (by omega);have step:∀ r:Int,0<=r->r*r<=x->x<(r+2 ^ k)*(r+2 ^ k)->∃ r',Qad x r'/\Vh n x k0 m r (shR .i64 (2 ^ k) 1)=k0 r' 0 false:=by
   intro r a0 a1 a2;rw [QhE (by omega) (by omega)];cases k with
   |zero=>
    refine ⟨r,⟨a0,a1,by simpa using a2⟩,?_⟩;obtain ⟨m,rfl⟩:∃ m',m=m'+1:=⟨m-1,by omega⟩;rfl
   |succ k=>
    rw [show (2:Int) ^ (k+1) / 2=2 ^ k by rw [Int.pow_succ,Int.mul_ediv_cancel _ (by decide)]];exact QeV a hx k m r (by omega) (by omega) a0 a1 a2
  rw [Vh,QX (by simp;omega),hw,EE (by omega),Q0,e];by_cases h:(aj+2 ^ k)*(aj+2 ^ k)<=x
  ·rw [QX (by simpa using ak.2 h)];exact step _ (by omega) h (by rw [Int.add_assoc,<- hs];exact d)
  ·rw [Q9 (by simpa using fun h'=>h (ak.1 h'))];exact step aj b c (by omega)
theorem Qgl {x:Int} (a:0<=x) (hx:x<=1000000000):∃ r,Qad x r/\PL 400 x (some:Int->Option Int)=some r:=
 QeV a hx 31 400 0 (by decide) (by decide) (by decide) (by simpa using a) (by omega)
theorem Qca {R:Type} {n:Nat} {x:Int} (a:0<=x) (hx:x<=1000000000) {k0:Int->Int->Bool->oP R}:∀ (k m:Nat) (lo hi:Int),k<m->0<=lo->lo<=hi->hi<=3037000499->hi-lo<2 ^ k->lo*lo<=x->x<(hi+1)*(hi+1) ->
  ∃ r,Qad x r/\VN n x k0 m lo hi=k0 r r false
 |k,m+1,lo,hi,hm,l0,l1,l2,hk,b,c=>by
  by_cases h:lo<hi
  ·obtain ⟨k,rfl⟩:∃ k',k=k'+1:=by
    cases k with
    |zero=>simp at hk;omega
    |succ k=>exact ⟨k,rfl⟩
   have hs:(2:Int) ^ (k+1)=2 ^ k+2 ^ k:=by rw [Int.pow_succ];omega
   have e:wJ (Int.tdiv (wJ ((wJ (lo+hi))+(1:Int))) (2:Int))=(lo+hi+1) / 2:=by
    rw [Q7 (x:=lo+hi) (by omega) (by omega),Q7 (x:=lo+hi+1) (by omega) (by omega),Int.tdiv_eq_ediv_of_nonneg (by omega),Q7 (by omega) (by omega)]
   rw [VN,QX (by simpa using h),EE (by decide),Q0,e];have aj:lo<(lo+hi+1) / 2/\(lo+hi+1) / 2<=hi:=by omega
   generalize hM:(lo+hi+1) / 2=mid at *
   have ak:=Q49 (show 0<=mid by omega) (show mid<=3037000499 by omega);have d:=Int.mul_nonneg (show 0<=mid by omega) (show 0<=mid by omega);rw [Q7 (x:=mid*mid) (by omega) (by omega)];by_cases hq:mid*mid<=x
   ·rw [QX (by simpa using hq)];exact Qca a hx k m mid hi (by omega) (by omega) (by omega) l2 (by omega) hq c
   ·rw [Q9 (by simpa using hq),Q7 (by omega) (by omega)];exact Qca a hx k m lo (mid-1) (by omega) l0 (by omega) (by omega) (by omega) b (by rw [Int.sub_add_cancel];omega)
  ·obtain rfl:lo=hi:=by omega
   rw [VN,Q9 (by simp)];exact ⟨lo,⟨l0,b,c⟩,by simp⟩
theorem QfL {x r:Int} (a:0<=x) (hx:x<=1000000000) (hr:Qad x r):Nv 400 x (some:Int->Option Int)=some r:=by
 unfold Nv;by_cases h:x<=0
 ·rw [QX (by simpa using h)];have:Qad x 0:=⟨by decide,by omega,by omega⟩;rw [Q2Q hr this]
 ·rw [Q9 (by simpa using h)];obtain ⟨r',b,h2⟩:=Qca (R:=Int) (n:=400) (k0:=fun w _ _=>some w) a hx 32 400 0 3037000499 (by decide) (by decide) (by decide) (by decide) (by decide) (by omega) (by omega);rw [Q2Q hr b];exact h2
end Go.Vx
namespace Go.Vx
variable {R:Type}
def YH (n:Nat) (e:LL) (c:Int) (k0:oP R) (k1:Int->Bool->oP R):Nat->Int->oP R
 | 0,_=>none
 | m+1,a=>bif decide (a<c) then gb true (Q1 e a) [] fun f=>gb true (f[0]?) oF fun g=>gb true (f[1]?) oF fun h=>gb true (pIw g) 0 fun b=>gb (!(decide (b<1000))) (pIw g) 0 fun d=>gb (!(bif decide (b<1000) then true else (decide (d>100000)))) (pIw h) 0 fun i=>gb (!(bif (bif decide (b<1000) then true else (decide (d>100000))) then true else (decide (i<(-40:Int))))) (pIw h) 0 fun j=>bif (bif (bif (bif decide (b<1000) then true else (decide (d>100000))) then true else (decide (i<(-40:Int)))) then true else (decide (j>40))) then k0 else YH n e c k0 k1 m (wJ (a+1)) else k1 a (decide (a<c))
def J6 (n:Nat) (a0:LL) (a1:Int) (a:List UInt8) (b c d e:Int) (K:Int->oP R):oP R:= gb true (Ut n a b c d e some) false fun f=>bif !f then K 1 else bif (decide ((a0.length:Int)>4000)) then K 7 else YH n a0 (a0.length:Int) (K 4) (fun g h=>bif (bif decide (a1<0) then true else (decide (a1>(wJ ((a0.length:Int)-2))))) then K 4 else K 0) n 0
end Go.Vx
namespace Go.Vx
variable {R:Type}
def Wr (n:Nat) (c:LL) (b:Int) (k0:Int->Int->Bool->oP R):Nat->Int->Int->oP R
 | 0,_,_=>none
 | m+1,h2,a=>bif decide (a<b) then gb true (Q1 c a) [] fun d=>gb true (d[0]?) oF fun f=>gb true (d[1]?) oF fun g=>gb true (pIw f) 0 fun e=>Wr n c b k0 m (if e<h2 then e else h2) (wJ (a+1)) else k0 h2 a (decide (a<b))
def JB (n:Nat) (a0:LL) (a1:Int) (e:List UInt8) (a c f g:Int) (K:Int->oP R):oP R:= gb true (slB (a0.length) (some (if 0<(wJ (a1-a)) then (wJ (a1-a)) else 0)) (some (wJ (a1+1)))) (0,0) fun b=>Wr n (cut a0 b) ((List.length (cut a0 b):Nat):Int) (fun d h i=>K d) n c 0
end Go.Vx
namespace Go.Vx
variable {R:Type}
def HQ (n:Nat) (c a:Int) (d:List UInt8) (e f b g:Int) (K:Int->oP R):oP R:= bif decide (a>0) then K (wJ (20000*(if 50<(wJ (b-(wJ (10*a)))) then (wJ (b-(wJ (10*a)))) else 50))) else K (wJ (20000*b))
end Go.Vx
namespace Go.Vx
variable {R:Type}
def HB (n:Nat) (c a:Int) (d:List UInt8) (e f g b:Int) (K:Int->oP R):oP R:= bif decide (a<0) then K (wJ (20000*(if 50<(wJ (b+(wJ (10*a)))) then (wJ (b+(wJ (10*a)))) else 50))) else K (wJ (20000*b))
end Go.Vx
namespace Go.Vx
variable {R:Type}
def Yp (n:Nat) (f:LL) (d g:Int) (h:List UInt8) (i j k l:Int) (k0:Int->Int->Bool->LL->oP R):Nat->Int->Int->LL->oP R
 | 0,_,_,_=>none
 | m+1,b,a,e=>bif decide (a<g) then gb true (JB n f a h i j k l some) 0 fun c=>gb true (inB (e.length) (wJ ((wJ (a-1))-d))) () fun z=>gb true (e[(Int.toNat (wJ ((wJ (a-1))-d)))]?) [] fun r=>gb true (r[0]?) oF fun s=>gb true (pIw s) 0 fun o=>gb true (Q1 f (wJ (a-1))) [] fun p=>gb true (p[0]?) oF fun t=>gb true (p[1]?) oF fun u=>gb true (pIw t) 0 fun v=>gb true (pIw u) 0 fun x=>gb true (HQ n v x h i j k l some) 0 fun q=>gb true (inB (e.length) (wJ (a-d))) () fun aa=>gb true (e[(Int.toNat (wJ (a-d)))]?) [] fun y=>Yp n f d g h i j k l k0 m c (wJ (a+1)) (List.set e (Int.toNat (wJ (a-d))) (List.set y 0 (Q4 (if (wJ (o+q))<(wJ ((if c<b then c else b)*(if c<b then c else b))) then (wJ (o+q)) else (wJ ((if c<b then c else b)*(if c<b then c else b))))))) else k0 b a (decide (a<g)) e
def Z0 (n:Nat) (d:LL) (b:Int) (e:List UInt8) (f g h i:Int) (k0:Int->Bool->LL->oP R):Nat->Int->LL->oP R
 | 0,_,_=>none
 | m+1,a,c=>bif decide (a>b) then gb true (inB (c.length) (wJ (a-b))) () fun z=>gb true (c[(Int.toNat (wJ (a-b)))]?) [] fun p=>gb true (p[0]?) oF fun q=>gb true (pIw q) 0 fun j=>gb true (inB (c.length) (wJ ((wJ (a+1))-b))) () fun aa=>gb true (c[(Int.toNat (wJ ((wJ (a+1))-b)))]?) [] fun r=>gb true (r[0]?) oF fun s=>gb true (pIw s) 0 fun k=>gb true (Q1 d a) [] fun l=>gb true (l[0]?) oF fun t=>gb true (l[1]?) oF fun u=>gb true (pIw t) 0 fun v=>gb true (pIw u) 0 fun x=>gb true (HB n v x e f g h i some) 0 fun o=>gb true (inB (c.length) (wJ (a-b))) () fun ab=>gb true (c[(Int.toNat (wJ (a-b)))]?) [] fun y=>Z0 n d b e f g h i k0 m (wJ (a-1)) (List.set c (Int.toNat (wJ (a-b))) (List.set y 0 (Q4 (if (wJ (k+o))<j then (wJ (k+o)) else j)))) else k0 a (decide (a>b)) c
def JF (n:Nat) (a0:LL) (a1:Int) (a:List UInt8) (b c d e:Int) (K:LL->oP R):oP R:= gb true (bif decide (0<=(wJ ((wJ ((a0.length:Int)-a1))+1)))&&decide ((wJ ((wJ ((a0.length:Int)-a1))+1))<=(wJ ((wJ ((a0.length:Int)-a1))+1))) then some () else none) () fun i=>gb true (Yf (Int.toNat (wJ ((wJ ((a0.length:Int)-a1))+1))*8)) () fun u2=>gb true (JB n a0 a1 a b c d e some) 0 fun f=>Yp n a0 a1 (a0.length:Int) a b c d e (fun j k l g=>Z0 n a0 a1 a b c d e (fun m o h=>K h) n (wJ ((a0.length:Int)-1)) g) n f (wJ (a1+1)) (List.replicate (Int.toNat (wJ ((wJ ((a0.length:Int)-a1))+1))) [Q4 0])
end Go.Vx
namespace Go.Vx
variable {R:Type}
def ZB (n:Nat) (c:Int) (k0:Int->Bool->LL->oP R):Nat->Int->LL->oP R
 | 0,_,_=>none
 | m+1,a,b=>bif decide (a<c) then gb true (inB (b.length) a) () fun i=>gb true (b[a.toNat]?) [] fun d=>gb true (d[0]?) oF fun e=>gb true (pIw e) 0 fun f=>gb true (PL n f some) 0 fun g=>gb true (inB (b.length) a) () fun j=>gb true (b[a.toNat]?) [] fun h=>ZB n c k0 m (wJ (a+1)) (List.set b a.toNat (List.set h 0 (Q4 g))) else k0 a (decide (a<c)) b
def Ga (n:Nat) (a0:LL) (a1:Int) (a:List UInt8) (b c d e:Int) (K:LL->Int->oP R):oP R:= gb true (J6 n a0 a1 a b c d e some) 0 fun f=>bif (f != 0) then K [] f else gb true (JF n a0 a1 a b c d e some) [] fun g=>ZB n (g.length:Int) (fun i j h=>K h 0) n 0 g
end Go.Vx
namespace Go.Vx
variable {R:Type}
def Je (n:Nat) (a0 a1:Int) (K:Int->Int->oP R):oP R:= bif decide (a1<1) then K 0 1 else gb true (nz a1) () fun a=>gb true (nz a1) () fun u2=>bif (decide ((Int.tmod a0 a1)>0)) then K (wJ ((wJ (Int.tdiv a0 a1))+1)) 0 else K (wJ (Int.tdiv a0 a1)) 0
end Go.Vx
namespace Go.Vx
variable {R:Type}
def Wu (n:Nat) (c:LL) (k0:Int->Bool->LL->oP R):Nat->Int->LL->oP R
 | 0,_,_=>none
 | m+1,a,b=>bif (decide (a<(c.length:Int))) then gb true (Q1 c (wJ (a-1))) [] fun d=>gb true (d[0]?) oF fun e=>gb true (pIw e) 0 fun f=>gb true (Q1 c a) [] fun g=>gb true (g[0]?) oF fun h=>gb true (pIw h) 0 fun i=>gb true (Je n 20000000 (wJ (f+i)) Tu2) (0,0) fun l=>gb true (inB (b.length) (wJ (a-1))) () fun s=>gb true (b[(Int.toNat (wJ (a-1)))]?) [] fun o=>gb true (o[0]?) oF fun p=>gb true (pIw p) 0 fun q=>gb true (inB (b.length) a) () fun t=>gb true (b[a.toNat]?) [] fun r=>Wu n c k0 m (wJ (a+1)) (List.set b a.toNat (List.set r 0 (Q4 (wJ (q+l.1))))) else k0 a (decide (a<(c.length:Int))) b
def Jo (n:Nat) (a0:LL) (a1:Int) (b:List UInt8) (c d e f:Int) (K:LL->Int->oP R):oP R:= gb true (Ga n a0 a1 b c d e f Tu2) ([],0) fun a=>bif (a.2 != 0) then K [] a.2 else gb true (bif decide (0<=(a.1.length:Int))&&decide ((a.1.length:Int)<=(a.1.length:Int)) then some () else none) () fun u2=>gb true (Yf (Int.toNat (a.1.length:Int)*8)) () fun u3=>Wu n a.1 (fun i j h=>K h 0) n 1 (List.replicate (Int.toNat (a.1.length:Int)) [Q4 0])
end Go.Vx
namespace Go.Vx
variable {R:Type}
def K6 (n:Nat) (h2:LL) (k0:oP R) (k1:Int->Bool->oP R):Nat->Int->oP R
 | 0,_=>none
 | m+1,a=>bif (decide (a<(h2.length:Int))) then gb true (Q1 h2 a) [] fun c=>gb true (c[0]?) oF fun d=>gb true (pIw d) 0 fun e=>gb true (Hi n e 1000 100000 some) false fun b=>gb (!(!b)) (Q1 h2 a) [] fun f=>gb (!(!b)) (f[1]?) oF fun g=>gb (!(!b)) (pIw g) 0 fun h=>gb (!(!b)) (Hi n h (-40:Int) 40 some) false fun i=>bif (bif !b then true else (!i)) then k0 else K6 n h2 k0 k1 m (wJ (a+1)) else k1 a (decide (a<(h2.length:Int)))
def C6 (n:Nat) (a0:LL) (a1:Int) (a:List UInt8) (b c d e:Int) (K:Int->oP R):oP R:= gb true (XW n a b c d e some) false fun f=>bif !f then K 1 else bif (decide ((a0.length:Int)>4000)) then K 7 else K6 n a0 (K 4) (fun g h=>bif (bif decide (a1<0) then true else (decide (a1>(wJ ((a0.length:Int)-2))))) then K 4 else K 0) n 0
end Go.Vx
namespace Go.Vx
variable {R:Type}
def VW (n:Nat) (c:LL) (h2:Int) (k0:Int->Int->Bool->oP R):Nat->Int->Int->oP R
 | 0,_,_=>none
 | m+1,b,a=>bif decide (a<=h2) then gb true (Q1 c a) [] fun e=>gb true (e[0]?) oF fun f=>gb true (pIw f) 0 fun d=>VW n c h2 k0 m (if d<b then d else b) (wJ (a+1)) else k0 b a (decide (a<=h2))
def PA (n:Nat) (a0:LL) (a1:Int) (d:List UInt8) (a b e f:Int) (K:Int->oP R):oP R:= VW n a0 a1 (fun c g h=>K c) n b (if 0<(wJ (a1-a)) then (wJ (a1-a)) else 0)
end Go.Vx
namespace Go.Vx
variable {R:Type}
def NW (n:Nat) (c a:Int) (d:List UInt8) (e f b g:Int) (K:Int->oP R):oP R:= bif decide (a>0) then K (if 50<(wJ (b-(wJ (10*a)))) then (wJ (b-(wJ (10*a)))) else 50) else K b
end Go.Vx
namespace Go.Vx
variable {R:Type}
def NT (n:Nat) (c a:Int) (d:List UInt8) (e f g b:Int) (K:Int->oP R):oP R:= bif decide (a<0) then K (if 50<(wJ (b+(wJ (10*a)))) then (wJ (b+(wJ (10*a)))) else 50) else K b
end Go.Vx
namespace Go.Vx
variable {R:Type}
def UA (n:Nat) (e:LL) (f g:Int) (h:List UInt8) (i j k l:Int) (k0:Int->Bool->LL->oP R):Nat->Int->LL->oP R
 | 0,_,_=>none
 | m+1,a,b=>bif decide (a<g) then gb true (PA n e (wJ ((wJ (f+a))-1)) h i j k l some) 0 fun c=>gb true (PA n e (wJ (f+a)) h i j k l some) 0 fun d=>gb true (inB (b.length) a) () fun p=>gb true (b[a.toNat]?) [] fun o=>UA n e f g h i j k l k0 m (wJ (a+1)) (List.set b a.toNat (List.set o 0 (Q4 (wJ ((if d<c then d else c)*(if d<c then d else c)))))) else k0 a (decide (a<g)) b
def UG (n:Nat) (d:LL) (e c:Int) (f:List UInt8) (g h i j:Int) (k0:Int->Bool->LL->oP R):Nat->Int->LL->oP R
 | 0,_,_=>none
 | m+1,a,b=>bif decide (a<c) then gb true (inB (b.length) (wJ (a+1))) () fun z=>gb true (b[(Int.toNat (wJ (a+1)))]?) [] fun q=>gb true (q[0]?) oF fun r=>gb true (pIw r) 0 fun k=>gb true (inB (b.length) a) () fun aa=>gb true (b[a.toNat]?) [] fun s=>gb true (s[0]?) oF fun t=>gb true (pIw t) 0 fun l=>gb true (Q1 d (wJ (e+a))) [] fun o=>gb true (o[0]?) oF fun u=>gb true (o[1]?) oF fun v=>gb true (pIw u) 0 fun x=>gb true (pIw v) 0 fun i64=>gb true (NW n x i64 f g h i j some) 0 fun p=>gb true (inB (b.length) (wJ (a+1))) () fun ab=>gb true (b[(Int.toNat (wJ (a+1)))]?) [] fun y=>UG n d e c f g h i j k0 m (wJ (a+1)) (List.set b (Int.toNat (wJ (a+1))) (List.set y 0 (Q4 (if (wJ (l+(wJ (20000*p))))<k then (wJ (l+(wJ (20000*p)))) else k)))) else k0 a (decide (a<c)) b
def UK (n:Nat) (c:LL) (d:Int) (e:List UInt8) (f g h i:Int) (k0:Int->Bool->LL->oP R):Nat->Int->LL->oP R
 | 0,_,_=>none
 | m+1,a,b=>bif decide (a>0) then gb true (inB (b.length) (wJ (a-1))) () fun z=>gb true (b[(Int.toNat (wJ (a-1)))]?) [] fun p=>gb true (p[0]?) oF fun q=>gb true (pIw q) 0 fun j=>gb true (inB (b.length) a) () fun aa=>gb true (b[a.toNat]?) [] fun r=>gb true (r[0]?) oF fun s=>gb true (pIw s) 0 fun k=>gb true (Q1 c (wJ ((wJ (d+a))-1))) [] fun l=>gb true (l[0]?) oF fun t=>gb true (l[1]?) oF fun u=>gb true (pIw t) 0 fun v=>gb true (pIw u) 0 fun x=>gb true (NT n v x e f g h i some) 0 fun o=>gb true (inB (b.length) (wJ (a-1))) () fun ab=>gb true (b[(Int.toNat (wJ (a-1)))]?) [] fun y=>UK n c d e f g h i k0 m (wJ (a-1)) (List.set b (Int.toNat (wJ (a-1))) (List.set y 0 (Q4 (if (wJ (k+(wJ (20000*o))))<j then (wJ (k+(wJ (20000*o)))) else j)))) else k0 a (decide (a>0)) b
def Vr (n:Nat) (c:Int) (k0:Int->Bool->LL->oP R):Nat->Int->LL->oP R
 | 0,_,_=>none
 | m+1,a,b=>bif decide (a<=c) then gb true (inB (b.length) a) () fun i=>gb true (b[a.toNat]?) [] fun d=>gb true (d[0]?) oF fun e=>gb true (pIw e) 0 fun f=>gb true (Nv n f some) 0 fun g=>gb true (inB (b.length) a) () fun j=>gb true (b[a.toNat]?) [] fun h=>Vr n c k0 m (wJ (a+1)) (List.set b a.toNat (List.set h 0 (Q4 g))) else k0 a (decide (a<=c)) b
def SF (n:Nat) (a0:LL) (a1:Int) (a:List UInt8) (b c d e:Int) (K:LL->Int->oP R):oP R:= gb true (C6 n a0 a1 a b c d e some) 0 fun f=>bif (f != 0) then K [] f else gb true (bif decide (0<=(wJ ((wJ ((a0.length:Int)-a1))+1)))&&decide ((wJ ((wJ ((a0.length:Int)-a1))+1))<=(wJ ((wJ ((a0.length:Int)-a1))+1))) then some () else none) () fun u2=>gb true (Yf (Int.toNat (wJ ((wJ ((a0.length:Int)-a1))+1))*8)) () fun u3=>UA n a0 a1 (wJ ((a0.length:Int)-a1)) a b c d e (fun k l g=>UG n a0 a1 (wJ ((a0.length:Int)-a1)) a b c d e (fun m o h=>UK n a0 a1 a b c d e (fun p q i=>Vr n (wJ ((a0.length:Int)-a1)) (fun r s j=>K j 0) n 0 i) n (wJ ((a0.length:Int)-a1)) h) n 0 g) n 1 (List.replicate (Int.toNat (wJ ((wJ ((a0.length:Int)-a1))+1))) [Q4 0])
end Go.Vx
namespace Go.Vx
variable {R:Type}
def Jm (n:Nat) (a0 a1:Int) (K:Int->oP R):oP R:= gb true (nz a1) () fun a=>gb true (nz a1) () fun u2=>bif (decide ((Int.tmod a0 a1)>0)) then K (wJ ((wJ (Int.tdiv a0 a1))+1)) else K (wJ (Int.tdiv a0 a1))
end Go.Vx
namespace Go.Vx
variable {R:Type}
def J2 (n:Nat) (c:LL) (k0:Int->Bool->LL->oP R):Nat->Int->LL->oP R
 | 0,_,_=>none
 | m+1,a,b=>bif (decide (a<(c.length:Int))) then gb true (inB (b.length) (wJ (a-1))) () fun q=>gb true (b[(Int.toNat (wJ (a-1)))]?) [] fun d=>gb true (d[0]?) oF fun e=>gb true (pIw e) 0 fun f=>gb true (Q1 c (wJ (a-1))) [] fun g=>gb true (g[0]?) oF fun h=>gb true (pIw h) 0 fun i=>gb true (Q1 c a) [] fun j=>gb true (j[0]?) oF fun k=>gb true (pIw k) 0 fun l=>gb true (Jm n 20000000 (wJ (i+l)) some) 0 fun o=>gb true (inB (b.length) a) () fun r=>gb true (b[a.toNat]?) [] fun p=>J2 n c k0 m (wJ (a+1)) (List.set b a.toNat (List.set p 0 (Q4 (wJ (f+o))))) else k0 a (decide (a<(c.length:Int))) b
def Ps (n:Nat) (a0:LL) (a1:Int) (b:List UInt8) (c d e f:Int) (K:LL->Int->oP R):oP R:= gb true (SF n a0 a1 b c d e f Tu2) ([],0) fun a=>bif (a.2 != 0) then K [] a.2 else gb true (bif decide (0<=(a.1.length:Int))&&decide ((a.1.length:Int)<=(a.1.length:Int)) then some () else none) () fun u2=>gb true (Yf (Int.toNat (a.1.length:Int)*8)) () fun u3=>J2 n a.1 (fun i j h=>K h 0) n 1 (List.replicate (Int.toNat (a.1.length:Int)) [Q4 0])
end Go.Vx
namespace Go.Vx
def cl (C:LL) (k:Nat):Int × Int:=match C[k]? with
 |some [.int _ b,.int _ g]=>(b,g)
 |_=>(0,0)
structure CellsOK (C:LL):Prop where
 row:∀ k,k<C.length->C[k]? = some [Q4 (cl C k).1,Q4 (cl C k).2]
 b0:∀ k,k<C.length->5000<=(cl C k).1
 b1:∀ k,k<C.length->(cl C k).1<=35000
 g0:∀ k,k<C.length -> -10<=(cl C k).2
 g1:∀ k,k<C.length->(cl C k).2<=10
 len:C.length<=300
theorem Q7E {Se:LL}:∀ {s:LL},(∀ row∈s,DB Se row)->s.length<=24->CellsOK (Yi Se s):=by
 intro s h hl;have hm:∀ r∈Yi Se s,∃ b g:Int,r=[Q4 b,Q4 g]/\5000<=b/\b<=35000 /\ -10<=g/\g<=10:=by
  intro r hr;obtain ⟨row,f,h2⟩:=List.mem_flatMap.1 hr;obtain ⟨x,d,nm,a,b,c,st,rfl,hs,hn,_⟩:=h _ f;rw [H3 hs] at h2;have i:=List.eq_of_mem_replicate h2;have c0:=hn.c0;have c1:=hn.c1;refine ⟨_,_,i,hn.b0,hn.b1,?_⟩;cases (d == (1:Int))
  ·exact ⟨c0,c1⟩
  ·show -10 <= -c /\ -c<=10;omega
 have hat:∀ k,k<(Yi Se s).length->(Yi Se s)[k]? = some [Q4 (cl (Yi Se s) k).1,Q4 (cl (Yi Se s) k).2]/\5000<=(cl (Yi Se s) k).1/\(cl (Yi Se s) k).1<=35000 /\ -10<=(cl (Yi Se s) k).2/\(cl (Yi Se s) k).2<=10:=by
  intro k hk;obtain ⟨b,g,e,f⟩:=hm _ (QiY hk);have e2:(Yi Se s)[k]? = some [Q4 b,Q4 g]:=by rw [QiT hk,e]
  simp only [cl,e2];exact ⟨trivial,f⟩
 have:=(Pu h).1;exact ⟨fun k hk=>(hat k hk).1,fun k hk=>(hat k hk).2.1,fun k hk=>(hat k hk).2.2.1,fun k hk=>(hat k hk).2.2.2.1,fun k hk=>(hat k hk).2.2.2.2,by omega⟩
def Q8S (v:Int) (r:List D):Int:=match r with
 |.int _ b::_=>if b<v then b else v
 |_=>v
def win (C:LL) (k t:Nat):LL:=(C.drop (k-t)).take (k+1-(k-t))
def Q6J (C:LL) (sp:Int) (k t:Nat):Int:=(win C k t).foldl Q8S sp
theorem Q9a {C:LL} (hC:CellsOK C) {k t i:Nat} (hk:k<C.length) (hi:i<k+1-(k-t)):(win C k t)[i]? = some [Q4 (cl C (k-t+i)).1,Q4 (cl C (k-t+i)).2]:=by
 unfold win;rw [List.getElem?_take_of_lt hi,List.getElem?_drop,hC.row _ (by omega)]
theorem Q4N {C:LL} {k t:Nat} (hk:k<C.length):(win C k t).length=k+1-(k-t):=by
 unfold win;simp;omega
theorem Q9Q {C:LL} (hC:CellsOK C) {sp:Int} {k t:Nat} (hk:k<C.length) (d:10000<=sp) (c:sp<=25000):5000<=Q6J C sp k t/\Q6J C sp k t<=25000:=by
 have hm:∀ r∈win C k t,∃ b g:Int,r=[Q4 b,Q4 g]/\5000<=b:=by
  intro r hr;obtain ⟨i,hi,rfl⟩:=List.getElem_of_mem hr;have aj:=hi;rw [Q4N hk] at aj;have e:=Q9a hC hk aj;rw [QiT hi] at e;injection e with e
  exact ⟨_,_,e,hC.b0 _ (by omega)⟩
 unfold Q6J;revert hm;generalize win C k t=L;intro hm;have:∀ (L:LL) (v:Int),(∀ r∈L,∃ b g:Int,r=[Q4 b,Q4 g]/\5000<=b)->5000<=v->v<=25000->5000<=L.foldl Q8S v/\L.foldl Q8S v<=25000:=by
  intro L;induction L with
  |nil=>exact fun v _ a b=>⟨a,b⟩
  |cons r L ih=>
   intro v h a b;obtain ⟨x,g,rfl,hx⟩:=h _ (List.mem_cons_self ..);refine ih _ (fun r hr=>h r (List.mem_cons_of_mem _ hr)) ?_ ?_
   ·show 5000<=if x<v then x else v
    split <;> omega
   ·show (if x<v then x else v)<=25000;split <;> omega
 exact this L sp hm (by omega) c
section
variable {C:LL} (hC:CellsOK C) {nm:List UInt8} {sp ac br:Int} {t k:Nat} (ht:t<=40)
include hC ht
omit hC in
theorem Qdy (hk:k<=1000):(if (0:Int)<(wJ ((k:Int)-(t:Int))) then (wJ ((k:Int)-(t:Int))) else (0:Int))=((k-t:Nat):Int):=by
 rw [Q7 (by omega) (by omega)];split <;> omega
theorem Qhl (hk:k<C.length):JB 400 C (k:Int) nm (t:Int) sp ac br (some:Int->Option Int)=some (Q6J C sp k t):=by
 have hl:=hC.len;unfold JB;rw [Qdy ht (by omega),Qq (by omega)];have hs:slB C.length (some ((k-t:Nat):Int)) (some ((k+1:Nat):Int))=some (k-t,k+1):=by
  unfold slB;rw [show (decide ((0:Int)<=(some ((k-t:Nat):Int)).getD 0)&&(decide ((some ((k-t:Nat):Int)).getD 0<=(some ((k+1:Nat):Int)).getD (C.length:Int))&&decide ((some ((k+1:Nat):Int)).getD (C.length:Int)<=(C.length:Int))))=true by simp;omega];rfl
 rw [hs,Q0,show cut C (k-t,k+1)=win C k t from rfl];have hw:=Q4N (t:=t) hk;refine (Qu (r:=fun m h=>Wr 400 (win C k t) (((win C k t).length:Nat):Int) _ m (((win C k t).take h.toNat).foldl Q8S sp) h) (N:=(win C k t).length) (fun m h hh=>?_) (fun m=>?_) (win C k t).length 400 0 (by omega) (by omega))
 ·have e:=Q9a hC hk (show h<k+1-(k-t) by omega);simp only [Int.toNat_natCast];rw [Wr,Qc hh,Qe,e,YC e,List.foldl_append];simp -implicitDefEqProofs only [Q0,List.getElem?_cons_zero,List.getElem?_cons_succ,Q3,Xx,QG,QiX,QiS,QiV,QiU,Qq (show h<=1000 by omega)];rfl
 ·simp only [Int.toNat_natCast];rw [Wr,Qi,QiS,List.take_length];rfl
theorem Qh9 (hk:k<C.length):PA 400 C (k:Int) nm (t:Int) sp ac br (some:Int->Option Int)=some (Q6J C sp k t):=by
 have hl:=hC.len;have hw:=Q4N (t:=t) hk;unfold PA;rw [Qdy ht (by omega)];have:=Qu (r:=fun m h=>VW 400 C (k:Int) (fun a b c=>some a) m (((win C k t).take h.toNat).foldl Q8S sp) (((k-t:Nat):Int)+h)) (N:=(win C k t).length) (e:=some (Q6J C sp k t)) (fun m h hh=>?_) (fun m=>?_) (win C k t).length 400 0 (by omega) (by omega)
 ·rw [show ((k-t:Nat):Int)+((0:Nat):Int)=((k-t:Nat):Int) by omega] at this;exact this
 ·have e:=Q9a hC hk (show h<k+1-(k-t) by omega);have e2:=hC.row (k-t+h) (by omega);simp only [Int.toNat_natCast];rw [VW,QX (by simp;omega),show ((k-t:Nat):Int)+(h:Int)=((k-t+h:Nat):Int) by omega,Qe,e2,YC e,List.foldl_append,Qq (by omega),show ((k-t:Nat):Int)+((h+1:Nat):Int)=((k-t+h+1:Nat):Int) by omega];simp -implicitDefEqProofs only [Q0,List.getElem?_cons_zero,List.getElem?_cons_succ,Q3,Xx,QG,QiX,QiS,QiV,QiU];rfl
 ·simp only [Int.toNat_natCast];rw [VW,Q9 (by simp;omega),List.take_length];rfl
end
def arr (f:Nat->Int) (n:Nat):LL:=(List.range n).map fun i=>[Q4 (f i)]
theorem YO {f:Nat->Int} {n:Nat}:(arr f n).length=n:=by simp [arr]
theorem JW {f:Nat->Int} {n i:Nat} (h:i<n):(arr f n)[i]? = some [Q4 (f i)]:=by simp [arr,h]
theorem XM {f g:Nat->Int} {n:Nat} (h:∀ i,i<n->f i=g i):arr f n=arr g n:=by
 refine List.map_congr_left fun i hi=>?_
 rw [h i (by simpa using hi)]
theorem Qct {f:Nat->Int} {n i:Nat} {v:Int}:(arr f n).set i [Q4 v]=arr (fun j=>if j=i then v else f j) n:=by
 refine List.ext_getElem? fun j=>?_
 by_cases hj:j<n
 ·rw [JW hj];by_cases h:i=j
  ·subst h;rw [List.getElem?_set_self (by rw [YO];exact hj),if_pos rfl]
  ·rw [List.getElem?_set_ne h,JW hj,if_neg (fun e=>h e.symm)]
 ·rw [Qj1 (by simp [YO];omega),Qj1 (by simp [YO];omega)]
theorem Cb {n:Nat}:List.replicate n [Q4 0]=arr (fun _=>0) n:=by
 refine List.ext_getElem? fun j=>?_
 by_cases hj:j<n
 ·rw [JW hj];simp [hj]
 ·rw [Qj1 (by simp;omega),Qj1 (by simp [YO];omega)]
end Go.Vx
namespace Go.Vx
def acc (ac g:Int):Int:=if 0<g then (if 50<ac-10*g then ac-10*g else 50) else ac
def brk (br g:Int):Int:=if g<0 then (if 50<br+10*g then br+10*g else 50) else br
theorem Q4l {ac g:Int} (a1:400<=ac) (a2:ac<=800) (g0 : -10<=g) (g1:g<=10):300<=acc ac g/\acc ac g<=800:=by
 unfold acc;split
 ·split <;> omega
 ·omega
theorem Q4s {br g:Int} (a1:400<=br) (a2:br<=800) (g0 : -10<=g) (g1:g<=10):300<=brk br g/\brk br g<=800:=by
 unfold brk;split
 ·split <;> omega
 ·omega
section
variable {nm:List UInt8} {b t sp ac br g:Int} {n:Nat}
theorem Qdf (a1:400<=ac) (a2:ac<=800) (g0 : -10<=g) (g1:g<=10):NW n b g nm t sp ac br (some:Int->Option Int)=some (acc ac g):=by
 unfold NW acc;rw [Q7 (x:=10*g) (by omega) (by omega),Q7 (x:=ac-10*g) (by omega) (by omega)];by_cases h:0<g
 ·rw [QX (by simpa using h),if_pos h]
 ·rw [Q9 (by simpa using h),if_neg h]
theorem QeH (a1:400<=br) (a2:br<=800) (g0 : -10<=g) (g1:g<=10):NT n b g nm t sp ac br (some:Int->Option Int)=some (brk br g):=by
 unfold NT brk;rw [Q7 (x:=10*g) (by omega) (by omega),Q7 (x:=br+10*g) (by omega) (by omega)];by_cases h:g<0
 ·rw [QX (by simpa using h),if_pos h]
 ·rw [Q9 (by simpa using h),if_neg h]
theorem QfB (a1:400<=ac) (a2:ac<=800) (g0 : -10<=g) (g1:g<=10):HQ n b g nm t sp ac br (some:Int->Option Int)=some (20000*acc ac g):=by
 have hr:=Q4l a1 a2 g0 g1;unfold HQ;rw [Q7 (x:=10*g) (by omega) (by omega),Q7 (x:=ac-10*g) (by omega) (by omega)];unfold acc at hr ⊢;by_cases h:0<g
 ·rw [if_pos h] at hr ⊢;rw [QX (by simpa using h),Q7 (by omega) (by omega)]
 ·rw [if_neg h] at hr ⊢;rw [Q9 (by simpa using h),Q7 (by omega) (by omega)]
theorem QfV (a1:400<=br) (a2:br<=800) (g0 : -10<=g) (g1:g<=10):HB n b g nm t sp ac br (some:Int->Option Int)=some (20000*brk br g):=by
 have hr:=Q4s a1 a2 g0 g1;unfold HB;rw [Q7 (x:=10*g) (by omega) (by omega),Q7 (x:=br+10*g) (by omega) (by omega)];unfold brk at hr ⊢;by_cases h:g<0
 ·rw [if_pos h] at hr ⊢;rw [QX (by simpa using h),Q7 (by omega) (by omega)]
 ·rw [if_neg h] at hr ⊢;rw [Q9 (by simpa using h),Q7 (by omega) (by omega)]
end
structure Run where
 C:LL
 nm:List UInt8
 sp:Int
 ac:Int
 br:Int
 t:Nat
 st:Nat
 N:Nat
structure Run.OK (X:Run):Prop where
 hC:CellsOK X.C
 hk:StkN X.t X.sp X.ac X.br
 hN:X.C.length=X.st+X.N
 h2:2<=X.N
namespace Run
variable (X:Run)
def lm (b:Nat):Int:=Q6J X.C X.sp (X.st+b) X.t
def lo (b:Nat):Int:=if X.lm b<X.lm (b-1) then X.lm b else X.lm (b-1)
def V (b:Nat):Int:=X.lo b*X.lo b
def G (b:Nat):Int:=20000*acc X.ac (cl X.C (X.st+b)).2
def L (b:Nat):Int:=20000*brk X.br (cl X.C (X.st+b)).2
def F:Nat->Int
 |0=>0
 |b+1=>if F b+X.G b<X.V (b+1) then F b+X.G b else X.V (b+1)
def K:Nat->Int
 |0=>0
 |d+1=>if K d+X.L (X.N-(d+1))<X.F (X.N-(d+1)) then K d+X.L (X.N-(d+1)) else X.F (X.N-(d+1))
variable {X} (h:X.OK)
include h
theorem Qbe {b:Nat} (hb:b<X.N):5000<=X.lm b/\X.lm b<=25000:=Q9Q h.hC (by have:=h.hN;omega) h.hk.s1 h.hk.s2
theorem Q9p {b:Nat} (hb:b<X.N):5000<=X.lo b/\X.lo b<=25000:=by
 have a:=Qbe h hb;have h2:=Qbe h (b:=b-1) (by omega);unfold lo;split <;> omega
theorem Qcj {b:Nat} (hb:b<X.N):25000000<=X.V b/\X.V b<=625000000:=by
 obtain ⟨a,h2⟩:=Q9p h hb;have:=Q49 (by decide) a;have:=Q49 (by omega) h2;unfold V;omega
theorem QbG {b:Nat} (hb:b<X.N):6000000<=X.G b/\X.G b<=16000000:=by
 have hN:=h.hN;have:=Q4l h.hk.a1 h.hk.a2 (h.hC.g0 (X.st+b) (by omega)) (h.hC.g1 (X.st+b) (by omega));unfold G;omega
theorem QaH {b:Nat} (hb:b<X.N):6000000<=X.L b/\X.L b<=16000000:=by
 have hN:=h.hN;have:=Q4s h.hk.b1 h.hk.b2 (h.hC.g0 (X.st+b) (by omega)) (h.hC.g1 (X.st+b) (by omega));unfold L;omega
theorem Qa4:∀ b,b<X.N->0<=X.F b/\X.F b<=625000000/\(1<=b->6000000<=X.F b)
 |0,_=>by rw [F];omega
 |b+1,hb=>by
  have a:=Qa4 b (by omega);have h2:=Qcj h hb;have c:=QbG h (b:=b) (by omega);rw [F];split <;> omega
theorem Q3Y:∀ d,d<=X.N->0<=X.K d/\X.K d<=625000000/\(1<=d->d<X.N->6000000<=X.K d)
 |0,_=>by rw [K];omega
 |d+1,hd=>by
  have a:=Q3Y d (by omega);have h2:=Qa4 h (X.N-(d+1)) (by omega);have c:=QaH h (b:=X.N-(d+1)) (by omega);rw [K];split <;> omega
theorem QfA:X.K X.N=0:=by
 have h2:=h.h2;obtain ⟨d,hd⟩:∃ d,X.N=d+1:=⟨X.N-1,by omega⟩;have a:=Q3Y h d (by omega);have c:=QaH h (b:=0) (by omega);rw [hd,K,show X.N-(d+1)=0 by omega,F,if_neg (by omega)]
theorem row {b:Nat} (hb:b<X.N):X.C[X.st+b]? = some [Q4 (cl X.C (X.st+b)).1,Q4 (cl X.C (X.st+b)).2]:=h.hC.row _ (by have:=h.hN;omega)
end Run
end Go.Vx
namespace Go.Vx
theorem Q9E {f:Nat->Int} {n i:Nat} {v:Int} (h:i<n) {R:Type} (K:LL->oP R):gb true (inB n (i:Int)) () (fun _=>gb true ((arr f n)[(Int.toNat (i:Int))]?) [] fun r=>K ((arr f n).set (Int.toNat (i:Int)) (List.set r 0 (D.int .i64 v))))=K (arr (fun j=>if j=i then v else f j) n):=by
 rw [Y0 (by omega) (by omega),Q0,Int.toNat_natCast,JW h,Q0];show K ((arr f n).set i [Q4 v])=_;rw [Qct]
theorem Q7m {f:Nat->Int} {n i:Nat} (h:i<n) {R:Type} (K:Int->oP R):gb true (inB n (i:Int)) () (fun _=>gb true ((arr f n)[(Int.toNat (i:Int))]?) [] fun r=>gb true (r[0]?) oF fun c=>gb true (pIw c) 0 fun x=>K x)=K (f i):=by
 rw [Y0 (by omega) (by omega),Q0,Int.toNat_natCast,JW h];rfl
theorem wI {a b:Int} (h:a=b) (c : -1000000<=b) (d:b<=1000000000):wJ a=b:=by rw [h,Q7 (by omega) (by omega)]
namespace Run
variable {X:Run} (h:X.OK)
include h
def W (X:Run):LL:=arr (fun j=>X.K (X.N-j)) (X.N+1)
theorem sqA:JF 400 X.C (X.st:Int) X.nm (X.t:Int) X.sp X.ac X.br (some:LL->Option LL)=some X.W:=by
 have hN:=h.hN;have h2:=h.h2;have hl:=h.hC.len;have t2:=h.hk.t2;have an:wJ (wJ (((X.C.length:Nat):Int)-(X.st:Int))+1)=((X.N+1:Nat):Int):=by
  rw [Q7 (x:=((X.C.length:Nat):Int)-(X.st:Int)) (by omega) (by omega),Q7 (by omega) (by omega)];omega
 unfold JF;rw [an,show (bif decide ((0:Int)<=((X.N+1:Nat):Int))&&decide (((X.N+1:Nat):Int)<=((X.N+1:Nat):Int)) then some () else none)=some () by rw [QX (by simp;omega)],Q0,Int.toNat_natCast,XF (by omega),Q0,Qhl h.hC (by omega) (by omega),Q0,Cb,Qq (by omega)];have k:∀ k0:Int->Int->Bool->LL->Option LL,Yp 400 X.C (X.st:Int) ((X.C.length:Nat):Int) X.nm (X.t:Int) X.sp X.ac X.br k0 400 (Q6J X.C X.sp X.st X.t) ((X.st+1:Nat):Int) (arr (fun _=>0) (X.N+1))=k0 (X.lm (X.N-1)) ((X.C.length:Nat):Int) false (arr (fun j=>if j<=X.N-1 then X.F j else 0) (X.N+1)):=by
  intro k0;have:=Qu (r:=fun m i=>Yp 400 X.C (X.st:Int) ((X.C.length:Nat):Int) X.nm (X.t:Int) X.sp X.ac X.br k0 m (X.lm i.toNat) ((X.st+1+i.toNat:Nat):Int) (arr (fun j=>if j<=i.toNat then X.F j else 0) (X.N+1))) (N:=X.N-1) (e:=k0 (X.lm (X.N-1)) ((X.C.length:Nat):Int) false (arr (fun j=>if j<=X.N-1 then X.F j else 0) (X.N+1))) (fun m i hi=>?_) (fun m=>?_) (X.N-1) 400 0 (by omega) (by omega)
  ·have e:arr (fun j=>if j<=(((0:Nat):Int)).toNat then X.F j else 0) (X.N+1)=arr (fun _=>0) (X.N+1):=XM fun j hj=>by
    split
    ·rename_i d;have d:j=0:=by simpa using d
     subst d;rw [F]
    ·rfl
   rw [e] at this;exact this
  ·simp only [Int.toNat_natCast];have f:=h.hC.g0 (X.st+i) (by omega);have g:=h.hC.g1 (X.st+i) (by omega);have hr:=row h (b:=i) (by omega);have aq:=Q9p h (b:=i+1) (by omega);have hV:=Qcj h (b:=i+1) (by omega);have hF:=Qa4 h i (by omega);have hG:=QbG h (b:=i) (by omega);rw [Yp,Qc (show X.st+1+i<X.C.length by omega),QiX,Qhl h.hC (by omega) (by omega),Q0,wI (show ((X.st+1+i:Nat):Int)-1=((X.st+i:Nat):Int) by omega) (by omega) (by omega),wI (show ((X.st+i:Nat):Int)-(X.st:Int)=(i:Int) by omega) (by omega) (by omega),YO,Q7m (by omega),Qe,hr,wI (show ((X.st+1+i:Nat):Int)-(X.st:Int)=((i+1:Nat):Int) by omega) (by omega) (by omega)];simp -implicitDefEqProofs only [Q0,List.getElem?_cons_zero,List.getElem?_cons_succ,Q3,Xx,QG,QiX,QiS,QiV,QiU,QfB h.hk.a1 h.hk.a2 f g];rw [Q9E (by omega)];rw [Qq (by omega),show Q6J X.C X.sp (X.st+1+i) X.t=X.lm (i+1) by unfold lm;rw [Nat.add_assoc,Nat.add_comm 1 i],show X.st+1+i+1=X.st+1+(i+1) by omega];refine congrArg _ (XM fun j hj=>?_);by_cases ak:j=i+1
   ·subst ak;have e1:(if X.lm (i+1)<X.lm i then X.lm (i+1) else X.lm i)=X.lo (i+1):=rfl;rw [if_pos rfl,if_pos (Nat.le_refl i),e1,wI (a:=X.lo (i+1)*X.lo (i+1)) (b:=X.V (i+1)) rfl (by omega) (by omega),wI (a:=X.F i+20000*acc X.ac (cl X.C (X.st+i)).2) (b:=X.F i+X.G i) rfl (by omega) (by omega),if_pos (Nat.le_refl (i+1)),F]
   ·rw [if_neg ak];by_cases c:j<=i
    ·rw [if_pos c,if_pos (by omega)]
    ·rw [if_neg c,if_neg (by omega)]
  ·simp only [Int.toNat_natCast];rw [show X.st+1+(X.N-1)=X.C.length by omega,Yp,Qi,QiS]
 rw [k,wI (show ((X.C.length:Nat):Int)-1=((X.st+X.N-1:Nat):Int) by omega) (by omega) (by omega)];have:=Qu (r:=fun m i=>Z0 400 X.C (X.st:Int) X.nm (X.t:Int) X.sp X.ac X.br (fun _ _ l=>some l) m ((X.st+X.N-1-i.toNat:Nat):Int) (arr (fun j=>if X.N-j<=i.toNat then X.K (X.N-j) else X.F j) (X.N+1))) (N:=X.N-1) (e:=some X.W) (fun m i hi=>?_) (fun m=>?_) (X.N-1) 400 0 (by omega) (by omega)
 ·have e:arr (fun j=>if X.N-j<=(((0:Nat):Int)).toNat then X.K (X.N-j) else X.F j) (X.N+1)=arr (fun j=>if j<=X.N-1 then X.F j else 0) (X.N+1):=XM fun j hj=>by
   by_cases ao:j=X.N
   ·subst ao;rw [if_pos (by simp),if_neg (by omega),Nat.sub_self,K]
   ·rw [if_neg (by simp;omega),if_pos (by omega)]
  rw [e] at this;exact this
 ·simp only [Int.toNat_natCast];obtain ⟨b,hb⟩:∃ b,b+1=X.N-i:=⟨X.N-i-1,by omega⟩;have o:1<=b:=by omega
  have f:=h.hC.g0 (X.st+b) (by omega);have g:=h.hC.g1 (X.st+b) (by omega);have hr:=row h (b:=b) (by omega);have hK:=Q3Y h i (by omega);have hL:=QaH h (b:=b) (by omega);rw [Z0,show X.st+X.N-1-i=X.st+b by omega,QX (by simp;omega),wI (show ((X.st+b:Nat):Int)-(X.st:Int)=(b:Int) by omega) (by omega) (by omega),YO,Q7m (by omega),Qq (by omega),wI (show ((X.st+b+1:Nat):Int)-(X.st:Int)=((b+1:Nat):Int) by omega) (by omega) (by omega),Q7m (by omega),Qe,hr];simp -implicitDefEqProofs only [Q0,List.getElem?_cons_zero,List.getElem?_cons_succ,Q3,Xx,QG,QiX,QiS,QiV,QiU,QfV h.hk.b1 h.hk.b2 f g];rw [Q9E (by omega),wI (show ((X.st+b:Nat):Int)-1=((X.st+X.N-1-(i+1):Nat):Int) by omega) (by omega) (by omega)];refine congrArg _ (XM fun j hj=>?_);by_cases aj:j=b
  ·subst aj;rw [if_pos rfl,if_neg (show ¬ X.N-j<=i by omega),if_pos (show X.N-(j+1)<=i by omega),if_pos (show X.N-j<=i+1 by omega),show X.N-j=i+1 by omega,K,show X.N-(j+1)=i by omega,show X.N-(i+1)=j by omega,wI (a:=X.K i+20000*brk X.br (cl X.C (X.st+j)).2) (b:=X.K i+X.L j) rfl (by omega) (by omega)]
  ·rw [if_neg aj];by_cases c:X.N-j<=i
   ·rw [if_pos c,if_pos (by omega)]
   ·rw [if_neg c,if_neg (by omega)]
 ·simp only [Int.toNat_natCast];rw [Z0,show X.st+X.N-1-(X.N-1)=X.st by omega,Q9 (by simp)];refine congrArg some (XM fun j hj=>?_);by_cases n:j=0
  ·subst n;rw [if_neg (by omega),F,Nat.sub_zero,QfA h]
  ·rw [if_pos (by omega)]
end Run
end Go.Vx
namespace Go.Vx
theorem Jq {k:Nat} (a:k<=1000) (b:1<=k):wJ (((k:Nat):Int)-1)=((k-1:Nat):Int):=by grind [Q7]
section
variable {R:Type} {Sk Ro Ls Ch Tu Sy De:LL} {per:Int} {n:Nat}
theorem Q4S {mn mx:Int} (a:0<=mn) (b:mn<=mx) (h2:mx<mn+per) (c:mn<=1000) (p1:per<=300) (K:Bool->oP R):K5 n per Sk Ro Ls Ch Tu Sy De mn mx K=K true:=by
 grind [K5,decide,Q7]
theorem QfQ {k i:Nat} {r:List D} (h:T4 Ls k i r) (hl:Ls.length<=1000) (hr:∀ nm w rides,Ls[k]? = some [D.str nm,Q4 0,Q4 w,D.sl 4 rides]->rides.length<=1000) (K:Bool->oP R):Jv n per Sk Ro Ls Ch Tu Sy De (k:Int) (i:Int) K=K true:=by
 obtain ⟨nm,w,rides,a,h2⟩:=h;have hk:=(QiW.1 a).1;have hi:=(QiW.1 h2).1;have hr:=hr _ _ _ a;unfold Jv;rw [Jq hl (by omega),Q3N (by omega) (by omega),Q0,Qe,a];simp -implicitDefEqProofs only [Q0,List.getElem?_cons_zero,List.getElem?_cons_succ,Q3,Xx,QG,QiX,QiS,QiV,QiU,Jq hr (by omega),Q3N (show (0:Int)<=(i:Int) by omega) (show (i:Int)<=((rides.length-1:Nat):Int) by omega)]
theorem Q9g {G:Geo} {x y:Int} {s:LL} (a:RtOK G s x y) (K:Int->oP R):T3 n s 0 K=K x:=by
 obtain ⟨d,b⟩:=a.fst
 simp_all [T3,Q0,List.getElem?_cons_zero,List.getElem?_cons_succ,Q3,Xx,QG,QiX,QiS,QiV,QiU]
theorem QbB {G:Geo} {x y:Int} {s:LL} (a:RtOK G s x y) (K:Int->oP R):PG n s 0 K=K y:=by
 obtain ⟨d,b⟩:=a.lst;have l24:=a.l24;unfold PG;rw [Q7 (x:=((s.length:Nat):Int)-0) (by omega) (by omega),Q7 (by omega) (by omega),Int.sub_zero,b];rfl
theorem Cf {k i:Nat} {rt:Nat} {ex mn mx:Int} {s:LL} (h:T4 Ls k i [Q4 rt,Q4 ex,Q4 mn,Q4 mx]) (a:Ro[rt]? = some [D.sl 2 s,Q4 0]) (K:D->D->oP R):XY n per Sk Ro Ls Ch Tu Sy De (k:Int) (i:Int) K=K (D.sl 2 s) (Q4 0):=by
 obtain ⟨nm,w,rides,b,h2⟩:=h
 simp_all [XY,Q0,List.getElem?_cons_zero,List.getElem?_cons_succ,Q3,Xx,QG,QiX,QiS,QiV,QiU,Qe]
theorem QgR {i:Nat} (hi:i<8):Ng 400 (nmN i) (some:Bool->Option Bool)=some true:=by
 obtain rfl | rfl | rfl | rfl | rfl | rfl | rfl | rfl:i=0\/i=1\/i=2\/i=3\/i=4\/i=5\/i=6\/i=7:=by omega
 all_goals rfl
theorem QeD (hs:Q0i Sk):Gj 400 per Sk Ro Ls Ch Tu Sy De 0 (some:Int->Option Int)=some 0:=by
 obtain ⟨a,b,c,d,rfl,t1,t2,s1,s2,a1,a2,b1,b2⟩:=hs;have h:Gj 400 per [[D.str (bs [88]),Q4 a,Q4 b,Q4 c,Q4 d]] Ro Ls Ch Tu Sy De 0 (some:Int->Option Int)=gb true (XW 400 (bs [88]) a b c d some) false (fun r=>bif !r then some 4 else some 0):=by kernel_rfl
 have aj:XW 400 (bs [88]) a b c d (some:Bool->Option Bool)=some true:=by
  unfold XW;simp -implicitDefEqProofs only [Q0,List.getElem?_cons_zero,List.getElem?_cons_succ,Q3,Xx,QG,QiX,QiS,QiV,QiU,Q3M t1 (show a<=40 by omega),Q3M (show 1000<=b by omega) (show b<=100000 by omega),Q3M (show 100<=c by omega) (show c<=2000 by omega),Q3M (show 100<=d by omega) (show d<=2000 by omega)]
 rw [h,aj];rfl
end
section
variable {R:Type} {G:Geo} {Sk Ro Ls Ch Tu Sy De:LL} {per:Int} (h:PlanR G per Sk Ro Ls Ch Tu Sy De)
include h
theorem Qep {k:Nat}:∀ nm w rides,Ls[k]? = some [D.str nm,Q4 0,Q4 w,D.sl 4 rides]->rides.length<=1000:=by
 intro nm w rides e;obtain ⟨w',aj,e',hr,_⟩:=Df h.good (QiW.1 e).1
 grind
theorem Q6o {k i:Nat} {r:List D} (hr:T4 Ls k i r) (K:Bool->oP R):Jv 400 per Sk Ro Ls Ch Tu Sy De (k:Int) (i:Int) K=K true:=by
 have:=h.l1
 grind [QfQ,Qep]
theorem Qge:Ll 400 per Sk Ro Ls Ch Tu Sy De (some:Bool->Option Bool)=some false:=by
 obtain ⟨_,_,_,_,ak,_⟩:=h.sk;obtain ⟨T,hT,_,_,_,an⟩:=h.tu;have l1:=h.l1;have l2:=h.rl;have a:=h.chl;have c:=h.syl;have d:=h.del;have lk:Sk.length=1:=by rw [ak];rfl
 have lt:Tu.length<=20:=by rw [hT];simpa using an
 have aj:∀ {k:Nat} {b:Int},(k:Int)<=b->decide ((k:Int)>b)=false:=fun h=>by simpa using h
 unfold Ll;simp -implicitDefEqProofs only [aj (show ((Sk.length:Nat):Int)<=8 by omega),aj (show ((Ro.length:Nat):Int)<=48 by omega),aj (show ((Ls.length:Nat):Int)<=16 by omega),aj (show ((Ch.length:Nat):Int)<=32 by omega),aj (show ((Tu.length:Nat):Int)<=32 by omega),aj (show ((Sy.length:Nat):Int)<=32 by omega),aj (show ((De.length:Nat):Int)<=32 by omega),QiS];refine Qu (r:=fun m h=>JX 400 Ls _ _ m h) (N:=Ls.length) (fun m k hk=>?_) (fun m=>?_) Ls.length 400 0 (by omega) (by omega)
 ·obtain ⟨w,rides,e,hr,_⟩:=Df h.good hk;rw [JX,Qc hk,Qe,e];simp -implicitDefEqProofs only [Q0,List.getElem?_cons_zero,List.getElem?_cons_succ,Q3,Xx,QG,QiX,QiS,QiV,QiU,aj (show ((rides.length:Nat):Int)<=12 by omega),Qq (show k<=1000 by omega)]
 ·rw [JX,Qi,QiS]
theorem Qfy {k:Nat} (hk:k<Ls.length):KD 400 G.St G.Pt G.Se G.Li per Sk Ro Ls Ch Tu Sy De (k:Int) (some:Int->Option Int)=some 0:=by
 have l1:=h.l1;have p1:=h.p1;have p0:=h.p0;obtain ⟨a,v,c,d,au,ar⟩:=h.sk;obtain ⟨w,rides,e,w0,w1,aj⟩:=h.good.ls k _ (QiT hk);have e:=(QiT hk).trans (congrArg some e);have a3:rides.length=1\/rides.length=2:=by rcases aj with ⟨_,_,_,rfl,_⟩ | ⟨_,_,_,_,_,rfl,_⟩;exact .inl rfl;exact .inr rfl
 have f:Q1 Sk (0:Int)=some [D.str (bs [88]),Q4 a,Q4 v,Q4 c,Q4 d]:=by rw [au];rfl
 have ax:Sk.length=1:=by rw [au];rfl
 unfold KD;rw [Qe,e];simp -implicitDefEqProofs only [Q0,List.getElem?_cons_zero,List.getElem?_cons_succ,Q3,Xx,QG,QiX,QiS,QiV,QiU,QgR (show k<8 by omega)];refine (Qu (r:=fun m h=>Ws 400 (k:Int) Ls (D.str (nmN k)) _ _ m h) (N:=k) (fun m i hi=>?_) (fun m=>?_) k 400 0 (by omega) (by omega))
 ·obtain ⟨w',aw,e',_⟩:=Df h.good (show i<Ls.length by omega);rw [Ws,Qc hi,Qe,e'];simp -implicitDefEqProofs only [Q0,List.getElem?_cons_zero,List.getElem?_cons_succ,Q3,Xx,QG,QiX,QiS,QiV,QiU,Qeg (show i<8 by omega) (show k<8 by omega) (show i≠k by omega),Qq (show i<=1000 by omega)]
 ·rw [Ws,Qi,QiS,ax,Jq (by decide) (by decide)];simp -implicitDefEqProofs only [Q0,List.getElem?_cons_zero,List.getElem?_cons_succ,Q3,Xx,QG,QiX,QiS,QiV,QiU,Q3N (show (0:Int)<=0 by omega) (show (0:Int)<=((1-1:Nat):Int) by decide),Q3N w0 (show w<=1048576 by omega),show (((rides.length:Nat):Int) == 0)=false by simp;intro hx;simp [hx] at a3];refine (Qu (r:=fun m h=>Wk 400 G.St G.Pt G.Se G.Li per Sk Ro Ls Ch Tu Sy De (Q4 0) (D.sl 4 rides) _ _ m h) (N:=rides.length) (fun m i hi=>?_) (fun m=>?_) rides.length 400 0 (by omega) (by omega))
  ·obtain ⟨r,x,y,b,hr,hR,hb,ak⟩:∃ r x y b,rides[i]? = some r/\TH G Ro r x y b/\(i+1=rides.length->b=true)/\(∀ j,j+1=i->∃ r' x' b',rides[j]? = some r'/\TH G Ro r' x' x b'):=by
    rcases aj with ⟨r,x,y,rfl,h⟩ | ⟨r,r',x,y,z,rfl,h,h'⟩
    ·have hi:i=0:=by simpa using hi
     subst hi;exact ⟨r,x,y,true,rfl,h,fun _=>rfl,fun j hj=>by omega⟩
    ·obtain rfl | rfl:i=0\/i=1:=by simp at hi;omega
     ·exact ⟨r,x,y,false,rfl,h,fun h=>by simp at h,fun j hj=>by omega⟩
     ·refine ⟨r',y,z,true,rfl,h',fun _=>rfl,fun j hj=>?_⟩;have hj:j=0:=by omega
      subst hj;exact ⟨r,x,false,rfl,h⟩
   obtain ⟨rt,ex,mn,mx,s,rfl,ao,hs,⟨l,t⟩,⟨o,p,u,m3⟩,hlast⟩:=hR;have a9:rt<Ro.length:=(QiW.1 ao).1;have l2:=h.rl;have hq:∀ z:Bool,(bif ((i:Int) == ((rides.length-1:Nat):Int)) then (bif (mn != (0:Int)) then true else (mx != (0:Int))) else false)=false:=by
    intro z;by_cases q:i+1=rides.length
    ·obtain ⟨rfl,rfl⟩:=hlast (hb q);rw [show ((0:Int) != 0)=false from rfl];cases ((i:Int) == ((rides.length-1:Nat):Int)) <;> rfl
    ·rw [show ((i:Int) == ((rides.length-1:Nat):Int))=false by simp;omega];rfl
   have a4:∀ {g:Bool} {β:Type} {a z:β} {k:β->Option Int},gb g (some a) z k=k a:=fun {g β a z k}=>rfl
   rw [Wk,QG,Q0,Qc hi];simp -implicitDefEqProofs only [Q0,List.getElem?_cons_zero,List.getElem?_cons_succ,Q3,Xx,QG,QiX,QiS,QiV,QiU,Qe,hr,Jq (show rides.length<=1000 by omega) (show 1<=rides.length by omega),Jq (show Ro.length<=1000 by omega) (show 1<=Ro.length by omega),Q7 (x:=per-1) (by omega) (by omega),Q3N (show (0:Int)<=(rt:Int) by omega) (show (rt:Int)<=((Ro.length-1:Nat):Int) by omega),Q3N l (show ex<=per-1 by omega),Q4S (Sk:=Sk) (Ro:=Ro) (Ls:=Ls) (Ch:=Ch) (Tu:=Tu) (Sy:=Sy) (De:=De) (n:=400) o p (show mx<mn+per by omega) (by omega) p1,hq true,ao,f,Q8M (hs.f h.ok) ar,show ((0:Int) != 0)=false from rfl];cases i with
   |zero=>
    rw [show decide (((0:Nat):Int)>0)=false from rfl];simp only [gbF,QiS];rfl
   |succ j=>
    obtain ⟨r',x',b',az,a2⟩:=ak j rfl;obtain ⟨a8,a5,a7,ba,s',rfl,aq,ay,_⟩:=a2;simp -implicitDefEqProofs only [Q0,List.getElem?_cons_zero,List.getElem?_cons_succ,Q3,Xx,QG,QiX,QiS,QiV,QiU,show decide (((j+1:Nat):Int)>0)=true by simp,Q9g hs,show wJ (((j+1:Nat):Int)-1)=(j:Int) by rw [Q7 (by omega) (by omega)];omega,Qe,az,aq,QbB ay,show (x != x)=false by simp,Qq (show j+1<=1000 by omega)]
  ·rw [Wk,QG,Q0,Qi,QiS]
end
end Go.Vx
namespace Go.Vx
section
variable {R:Type} {G:Geo} {Sk Ro Ls Ch Tu Sy De:LL} {per:Int} (h:PlanR G per Sk Ro Ls Ch Tu Sy De)
include h
theorem QaD {k0:Int->oP R} {k1:Int->Bool->oP R}:Z7 400 G.St G.Pt G.Se G.Li per Sk Ro Ls Ch Tu Sy De k0 k1 400 0=k1 ((Ch.length:Nat):Int) false:=by
 have l2:=h.chl;have p1:=h.p1;refine Qu (r:=fun m h=>Z7 400 G.St G.Pt G.Se G.Li per Sk Ro Ls Ch Tu Sy De _ _ m h) (N:=Ch.length) (fun m k hk=>?_) (fun m=>?_) Ch.length 400 0 (by omega) (by omega)
 ·obtain ⟨f,fr,t,tr,mn,mx,w,r,r',x,y,x',y',b,b',i,e,hr,aj,hR,aq,ay,⟨a,j,c,d⟩,⟨w0,w1⟩,⟨l,a1,c1,d1,g1⟩,⟨n,a2,o,p,g⟩,hi⟩:=h.ch _ (QiY hk);have hb:=Q6o (R:=Bool) h hr;have ar:=Q6o (R:=Bool) h aj;obtain ⟨rt,ex,rn,rx,s,rfl,ao,hs,_⟩:=hR;obtain ⟨aw,au,az,ax,s',rfl,ak,an,_⟩:=aq;rw [Z7,Qc hk,Qe,QiT hk,e];simp -implicitDefEqProofs only [Q0,List.getElem?_cons_zero,List.getElem?_cons_succ,Q3,Xx,QG,QiX,QiS,QiV,QiU,Hn,hb,ar,Q4S a c d (show mn<=1000 by omega) p1,Q3N w0 (show w<=1048576 by omega),show ((f:Int) == (t:Int))=false by simp;omega,Cf hr ao,Cf aj ak,QbB hs,Q9g an,g1,g,show decide (i<0)=false by simp;omega,show (i != i)=false by simp,show ((0:Int) != 0)=false from rfl,Qq (show k<=1000 by omega)]
 ·rw [Z7,Qi,QiS]
theorem Qes {k0:Int->oP R} {k1:Int->Bool->oP R}:Z1 400 per Sk Ro Ls Ch Tu Sy De k0 k1 400 0=k1 ((Tu.length:Nat):Int) false:=by
 obtain ⟨T,hT,t1,t2,d,t4⟩:=h.tu;have hl:Tu.length=T.length:=by rw [hT];simp
 have p0:=h.p0;have p1:=h.p1;have l1:=h.l1;refine Qu (r:=fun m h=>Z1 400 per Sk Ro Ls Ch Tu Sy De _ _ m h) (N:=Tu.length) (fun m k hk=>?_) (fun m=>?_) Tu.length 400 0 (by omega) (by omega)
 ·have aj:k<T.length:=by omega
  have at':∀ j (hj:j<T.length),Tu[j]? = some (tuR T[j]):=fun j hj=>by rw [hT,List.getElem?_map,QiT hj];rfl
  obtain ⟨u1,u2,u3,u4,e,u6,nm,w,rides,r,r',x,y,z,b,b',e1,e2,f,e4,c,hR,aw⟩:=t1 _ (QiY aj);obtain ⟨rt,ex,rn,rx,s,rfl,au,hs,_⟩:=hR;obtain ⟨a4,a2,a6,a5,s',rfl,an,aq,_⟩:=aw;have g:=Cf (R:=D × D) (n:=400) (per:=per) (Sk:=Sk) (Ch:=Ch) (Tu:=Tu) (Sy:=Sy) (De:=De) (Ro:=Ro) ⟨nm,w,rides,e1,e2⟩ au;have a:=Cf (R:=D × D) (n:=400) (per:=per) (Sk:=Sk) (Ch:=Ch) (Tu:=Tu) (Sy:=Sy) (De:=De) (Ro:=Ro) c an;obtain ⟨a7,w',ao,l,e6⟩:=c;have a:XY 400 per Sk Ro Ls Ch Tu Sy De (T[k].2.1:Int) 0 Tu2=some (D.sl 2 s',Q4 0):=a _;have ak:∀ t∈T.take k,(t.1:Int)≠(T[k].1:Int)/\(t.2.1:Int)≠(T[k].2.1:Int):=by
   intro t ht;have q:=NH t2 (i:=k) (by simpa using aj) t.1 (by rw [<- List.map_take];exact List.mem_map_of_mem ht);have h2:=NH d (i:=k) (by simpa using aj) t.2.1 (by rw [<- List.map_take];exact List.mem_map_of_mem ht);rw [List.getElem_map] at q h2;exact ⟨by omega,by omega⟩
  have ar:KH 400 per Sk Ro Ls Ch Tu Sy De (k:Int) (some:Int->Option Int)=some 0:=by
   unfold KH;rw [Qe,at' k aj];simp -implicitDefEqProofs only [Q0,List.getElem?_cons_zero,List.getElem?_cons_succ,Q3,Xx,QG,QiX,QiS,QiV,QiU,tuR,Jq (show Ls.length<=1000 by omega) (show 1<=Ls.length by omega),Q3N (show (0:Int)<=(T[k].1:Int) by omega) (show (T[k].1:Int)<=((Ls.length-1:Nat):Int) by omega),Q3N (show (0:Int)<=(T[k].2.1:Int) by omega) (show (T[k].2.1:Int)<=((Ls.length-1:Nat):Int) by omega),Q4S (Sk:=Sk) (Ro:=Ro) (Ls:=Ls) (Ch:=Ch) (Tu:=Tu) (Sy:=Sy) (De:=De) (n:=400) (show 0<=T[k].2.2.1 by omega) e (show T[k].2.2.2<T[k].2.2.1+per by omega) (by omega) p1];refine (Qu (r:=fun m h=>Wt 400 (k:Int) Tu (Q4 (T[k].1:Nat)) (Q4 (T[k].2.1:Nat)) _ _ m h) (N:=k) (fun m i hi=>?_) (fun m=>?_) k 400 0 (by omega) (by omega))
   ·obtain ⟨u,v⟩:=ak T[i] (by rw [List.mem_take_iff_getElem];exact ⟨i,by omega,rfl⟩);rw [Wt,Qc hi,Qe,at' i (by omega)];simp -implicitDefEqProofs only [Q0,List.getElem?_cons_zero,List.getElem?_cons_succ,Q3,Xx,QG,QiX,QiS,QiV,QiU,tuR,show ((T[i].1:Int) == (T[k].1:Int))=false by simpa using u,show ((T[i].2.1:Int) == (T[k].2.1:Int))=false by simpa using v,Qq (show i<=1000 by omega)]
   ·rw [Wt,Qi,QiS,Qe,e1];simp -implicitDefEqProofs only [Q0,List.getElem?_cons_zero,List.getElem?_cons_succ,Q3,Xx,QG,QiX,QiS,QiV,QiU,Qe,l,Jq (show rides.length<=1000 by omega) f,g,a,QbB hs,Q9g aq,show (y != y)=false by simp,show ((0:Int) != 0)=false from rfl]
  rw [Z1,Qc hk,QiX,ar,Q0,Q9 (by rfl),Qq (by omega)]
 ·rw [Z1,Qi,QiS]
theorem Qev {k0:oP R} {k1:Int->Bool->oP R}:YX 400 per Sk Ro Ls Ch Tu Sy De k0 k1 400 0=k1 ((Sy.length:Nat):Int) false:=by
 have l2:=h.syl;have l0:=h.l0;have p1:=h.p1;refine Qu (r:=fun m h=>YX 400 per Sk Ro Ls Ch Tu Sy De _ _ m h) (N:=Sy.length) (fun m k hk=>?_) (fun m=>?_) Sy.length 400 0 (by omega) (by omega)
 ·obtain ⟨o,e,a,b,h2⟩:=h.sy _ (QiY hk);obtain ⟨r,hr⟩:=Q5B h (k:=0) (by omega);obtain ⟨r',aj⟩:=Q5B h (k:=1) (by omega);have e1:=Q6o (R:=Bool) h hr some;have e2:=Q6o (R:=Bool) h aj some;rw [YX,Qc hk,Qe,QiT hk,e];simp -implicitDefEqProofs only [Q0,List.getElem?_cons_zero,List.getElem?_cons_succ,Q3,Xx,QG,QiX,QiS,QiV,QiU,show Jv 400 per Sk Ro Ls Ch Tu Sy De 0 0 (some:Bool->Option Bool)=some true from e1,show Jv 400 per Sk Ro Ls Ch Tu Sy De 1 0 (some:Bool->Option Bool)=some true from e2,show ((0:Int) == 1)=false from rfl,Q7 (x:=per-1) (by omega) (by omega),Q3N a (show o<=per-1 by omega),Qq (show k<=1000 by omega)]
 ·rw [YX,Qi,QiS]
theorem Q9M {k0:oP R} {k1:Int->Bool->oP R}:Z3 400 G.St De k0 k1 400 0=k1 ((De.length:Nat):Int) false:=by
 have l2:=h.del;have hN:=h.ok.hN;refine Qu (r:=fun m h=>Z3 400 G.St De _ _ m h) (N:=De.length) (fun m k hk=>?_) (fun m=>?_) De.length 400 0 (by omega) (by omega)
 ·obtain ⟨f,t,w,e,⟨a,c⟩,⟨b,t1⟩,aj,w0,w1⟩:=h.de _ (QiY hk);rw [Z3,Qc hk,Qe,QiT hk,e];simp -implicitDefEqProofs only [Q0,List.getElem?_cons_zero,List.getElem?_cons_succ,Q3,Xx,QG,QiX,QiS,QiV,QiU,h.ok.st,Q7 (x:=((G.N:Nat):Int)-1) (by omega) (by omega),Q3N a (show f<=((G.N:Nat):Int)-1 by omega),Q3N b (show t<=((G.N:Nat):Int)-1 by omega),Q3N w0 (show w<=1048576 by omega),show (f == t)=false by simpa using aj,Qq (show k<=1000 by omega)]
 ·rw [Z3,Qi,QiS]
theorem Qga:Ul 400 G.St G.Pt G.Se G.Li per Sk Ro Ls Ch Tu Sy De (some:Int->Option Int)=some 0:=by
 have p0:=h.p0;have p1:=h.p1;have l1:=h.l1;have l2:=h.rl;obtain ⟨_,_,_,_,aj,_⟩:=h.sk;have ak:Sk.length=1:=by rw [aj];rfl
 have e1:JR 400 G.St G.Pt G.Se G.Li (some:Int->Option Int)=some 0:=VO h.ok.ref;unfold Ul;simp -implicitDefEqProofs only [Q0,List.getElem?_cons_zero,List.getElem?_cons_succ,Q3,Xx,QG,QiX,QiS,QiV,QiU,e1,Qge h,Q3N (show 2<=per by omega) (show per<=7200 by omega),show ((0:Int) != 0)=false from rfl];refine Qu (r:=fun m h=>Wo 400 per Sk Ro Ls Ch Tu Sy De _ _ m h) (N:=Sk.length) (fun m k hk=>?_) (fun m=>?_) Sk.length 400 0 (by omega) (by omega)
 ·obtain rfl:k=0:=by omega
  rw [Wo,Qc hk,QiX,show ((0:Nat):Int)=0 from rfl,QeD h.sk,Q0,Q9 (by rfl)];rfl
 rw [Wo,Qi,QiS];refine Qu (r:=fun m h=>Wj 400 G.St G.Pt G.Se G.Li Ro _ _ m h) (N:=Ro.length) (fun m k hk=>?_) (fun m=>?_) Ro.length 400 0 (by omega) (by omega)
 ·obtain ⟨s,x,y,e,hs⟩:=h.good.ro _ (QiY hk);rw [Wj,Qc hk,Qe,QiT hk,e];simp -implicitDefEqProofs only [Q0,List.getElem?_cons_zero,List.getElem?_cons_succ,Q3,Xx,QG,QiX,QiS,QiV,QiU,Q3B h.ok.ref rfl hs.l2 hs.l24 hs.rt6,show ((0:Int) != 0)=false from rfl,Qq (show k<=1000 by omega)]
 rw [Wj,Qi,QiS];refine Qu (r:=fun m h=>Wn 400 G.St G.Pt G.Se G.Li per Sk Ro Ls Ch Tu Sy De _ _ m h) (N:=Ls.length) (fun m k hk=>?_) (fun m=>?_) Ls.length 400 0 (by omega) (by omega)
 ·rw [Wn,Qc hk,QiX,Qfy h hk,Q0,Q9 (by rfl),Qq (by omega)]
 rw [Wn,Qi,QiS,QaD h,Qes h,Qev h,Q9M h]
end
end Go.Vx
namespace Go.Vx
variable {R:Type}
def JH (n:Nat) (a0:Int) (K:Int->oP R):oP R:= gb true (Je n a0 1000 Tu2) (0,0) fun a=>K a.1
end Go.Vx
namespace Go.Vx
variable {R:Type}
def XP (n:Nat) (c e i:LL) (f:Int) (j:LL) (g:Int) (k0:Int->Int->Bool->LL->LL->oP R):Nat->Int->Int->LL->LL->oP R
 | 0,_,_,_,_=>none
 | m+1,b,a,h,d=>bif decide (a<f) then gb true (Q1 i a) [] fun o=>gb true (o[0]?) oF fun r=>gb true (o[1]?) oF fun ac=>gb true (Q1 c b) [] fun s=>gb true (s[0]?) oF fun t=>gb true (pIw t) 0 fun k=>gb true (Yf ((h.length+[[Q4 k]].length)*8)) () fun ad=>bif decide (a>0) then gb true (pIw r) 0 fun u=>gb true (Q1 j u) [] fun v=>gb true (v[1]?) oF fun x=>gb true (pIw x) 0 fun l=>bif (decide (a<(wJ ((e.length:Int)-1)))) then gb true (Q1 c (wJ ((wJ (b+l))+g))) [] fun y=>gb true (y[0]?) oF fun z=>gb true (pIw z) 0 fun p=>gb true (Yf ((d.length+[[Q4 p]].length)*8)) () fun ae=>XP n c e i f j g k0 m (wJ (b+l)) (wJ (a+1)) (h++[[Q4 k]]) (d++[[Q4 p]]) else XP n c e i f j g k0 m (wJ (b+l)) (wJ (a+1)) (h++[[Q4 k]]) d else bif (decide (a<(wJ ((e.length:Int)-1)))) then gb true (Q1 c (wJ (b+g))) [] fun aa=>gb true (aa[0]?) oF fun ab=>gb true (pIw ab) 0 fun q=>gb true (Yf ((d.length+[[Q4 q]].length)*8)) () fun ag=>XP n c e i f j g k0 m b (wJ (a+1)) (h++[[Q4 k]]) (d++[[Q4 q]]) else XP n c e i f j g k0 m b (wJ (a+1)) (h++[[Q4 k]]) d else k0 b a (decide (a<f)) h d
def KK (n:Nat) (q r f s g:LL) (h:Int) (i:List UInt8) (c j k l:Int) (K:LL->LL->Int->Int->oP R):oP R:= gb true (KX n q r f s g h i c j k l Tu3) ([],0,0) fun a=>bif (a.2.2 != 0) then K [] [] 0 a.2.2 else gb true (Jo n a.1 a.2.1 i c j k l Tu2) ([],0) fun b=>gb true (Uf n g h some) [] fun e=>XP n b.1 e e (e.length:Int) f c (fun m ab ac t o=>gb true (Q1 b.1 m) [] fun u=>gb true (u[0]?) oF fun v=>gb true (pIw v) 0 fun p=>gb true (Yf ((o.length+[[Q4 p]].length)*8)) () fun ad=>gb true (Q1 b.1 m) [] fun x=>gb true (x[0]?) oF fun y=>gb true (pIw y) 0 fun z=>gb true (JH n z some) 0 fun aa=>K t (o++[[Q4 p]]) aa 0) n 0 0 [] []
end Go.Vx
namespace Go.Vx
variable {R:Type}
def KC (n:Nat) (a0 a1:Int) (K:Int->Int->oP R):oP R:= bif decide (a1<1) then K 0 1 else gb true (nz a1) () fun a=>gb true (nz a1) () fun u2=>bif (decide ((Int.tmod a0 a1)<0)) then K (wJ ((wJ (Int.tdiv a0 a1))-1)) 0 else K (wJ (Int.tdiv a0 a1)) 0
end Go.Vx
namespace Go.Vx
variable {R:Type}
def Vf (n:Nat) (a0:Int) (K:Int->oP R):oP R:= gb true (KC n a0 1000 Tu2) (0,0) fun a=>K a.1
end Go.Vx
namespace Go.Vx
variable {R:Type}
def J1 (n:Nat) (c a b d:LL) (K:LL->oP R):oP R:= gb true (bif decide (0<=(wJ ((b.length:Int)+(a.length:Int))))&&decide ((wJ ((b.length:Int)+(a.length:Int)))<=(wJ ((b.length:Int)+(a.length:Int)))) then some () else none) () fun e=>gb true (Yf (Int.toNat (wJ ((b.length:Int)+(a.length:Int)))*24)) () fun u2=>K (List.replicate (Int.toNat (wJ ((b.length:Int)+(a.length:Int)))) [Q4 0,Q4 0,Q4 0])
end Go.Vx
