/- Part of a proof. No conditions of their own. -/
import Derived.Test.YtfgfecgjcggccaaGreatTB
set_option linter.unusedVariables false
set_option linter.unusedSimpArgs false
abbrev QdS:=@cond_false
abbrev QdT:=@List.getElem?_eq_getElem
abbrev QdU:=@Bool.not_false
abbrev QdV:=@List.getElem?_eq_some_iff
abbrev QdW:=@Bool.not_true
abbrev QdX:=@cond_true
abbrev QdY:=@Int.eq_ofNat_of_zero_le
abbrev QdZ:=@List.getElem_mem
abbrev Qe0:=@List.mem_append
abbrev Qe1:=@List.mem_singleton
abbrev Qe2:=@List.getElem?_append_left
abbrev Qe3:=@List.getElem?_eq_none
namespace Go.Vx
variable {R:Type}
def Ge (n:Nat) (a0 a1:Int) (K:Int->oP R):oP R:= gb true (nz (IntKind.wrap .u64 a1)) () fun a=>K (wJ (Int.tmod (IntKind.wrap .u64 a0) (IntKind.wrap .u64 a1)))
def Q4 (n:Nat) (a:LL) (b a1:Int) (K:Int->LL->Int->oP R):oP R:= bif (decide (b>=(a.length:Int))) then K 0 a b else gb true (Q2 a (wJ ((wJ (b+1))-1))) [] fun c=>gb true (c[0]?) oF fun d=>gb true (pIw d) 0 fun e=>gb true (Ge n e a1 some) 0 fun f=>K f a (wJ (b+1))

def ZA (n:Nat) (e:LL) (f:Int) (a1:List UInt8) (a2:Int) (K:(List UInt8)->Int->Int->Int->Int->LL->Int->oP R):oP R:= gb true (Q4 n e f 9 Tu3) (0,[],0) fun a=>gb true (Q4 n a.2.1 a.2.2 7 Tu3) (0,[],0) fun b=>gb true (Q4 n b.2.1 b.2.2 21 Tu3) (0,[],0) fun d=>K a1 (wJ (2+a.1)) (wJ (5000+(wJ (5000*b.1)))) (wJ (d.1-10)) a2 d.2.1 d.2.2

def Uk (n:Nat) (a0:List UInt8) (a1:Int) (K:(List UInt8)->oP R):oP R:= gb true (nz 10) () fun a=>gb true (nz 10) () fun b=>gb true (slB (List.length (bs [48,49,50,51,52,53,54,55,56,57])) (some (Int.tmod a1 10)) (some (wJ ((Int.tmod a1 10)+1)))) (0,0) fun q3=>gb true (Q5s (a0.length+List.length (cut (bs [48,49,50,51,52,53,54,55,56,57]) q3))) () fun c=>K (a0++(cut (bs [48,49,50,51,52,53,54,55,56,57]) q3))

def YC (n:Nat) (q1 q2 q3 q4 f g q7:LL) (a:List UInt8) (b c d e:Int) (K:Int->LL->LL->LL->LL->LL->LL->LL->oP R):oP R:= gb true (YD ((q3.length+[[D.str a,Q5 b,Q5 c,Q5 d,Q5 e]].length)*48)) () fun h=>K (wJ (((List.length (q3++[[D.str a,Q5 b,Q5 c,Q5 d,Q5 e]]):Nat):Int)-1)) q1 q2 (q3++[[D.str a,Q5 b,Q5 c,Q5 d,Q5 e]]) q4 f g q7

def XN (n:Nat) (q1 q2 q3 q4 a b q7:LL) (a1 a2 a3 a4:Int) (K:LL->LL->LL->LL->LL->LL->LL->oP R):oP R:= gb true (YD ((q4.length+[[Q5 a1,Q5 1,Q5 a2,Q5 0,Q5 a3,Q5 a4]].length)*48)) () fun c=>K q1 q2 q3 (q4++[[Q5 a1,Q5 1,Q5 a2,Q5 0,Q5 a3,Q5 a4]]) a b q7

def YQ (n:Nat) (q1 q2 q3 q4 b c q7:LL) (K:Int->LL->LL->LL->LL->LL->LL->LL->oP R):oP R:= gb true (Uk n (bs [80]) (q2.length:Int) some) [] fun a=>gb true (YD ((q2.length+[[D.str a]].length)*16)) () fun d=>K (wJ (((List.length (q2++[[D.str a]]):Nat):Int)-1)) q1 (q2++[[D.str a]]) q3 q4 b c q7

def Qs (n:Nat) (d:Int) (e:LL) (h:Bool) (f g:Int) (k0:Int->Bool->LL->LL->LL->LL->LL->LL->LL->oP R):Nat->Int->LL->LL->LL->LL->LL->LL->LL->oP R
 | 0,_,_,_,_,_,_,_,_=>none
 | m+1,a,i,j,k,l,o,p,q=>bif decide (a<g) then bif h then gb true (Q2 e a) [] fun z=>gb true (z[0]?) oF fun aa=>gb true (pIw aa) 0 fun ab=>gb true (XN n i j k l o p q d ab f a Tu7) zZ2 fun b=>Qs n d e h f g k0 m (wJ (a+1)) b.1 b.2.1 b.2.2.1 b.2.2.2.1 b.2.2.2.2.1 b.2.2.2.2.2.1 b.2.2.2.2.2.2 else gb true (Q2 e a) [] fun ac=>gb true (ac[0]?) oF fun ad=>gb true (pIw ad) 0 fun ae=>gb true (XN n i j k l o p q ae d f a Tu7) zZ2 fun c=>Qs n d e h f g k0 m (wJ (a+1)) c.1 c.2.1 c.2.2.1 c.2.2.2.1 c.2.2.2.2.1 c.2.2.2.2.2.1 c.2.2.2.2.2.2 else k0 a (decide (a<g)) i j k l o p q
def WY (n:Nat) (q1 q2 q3 q4 b c q7:LL) (a1:Int) (a2:LL) (a3:Bool) (K:LL->LL->LL->LL->LL->LL->LL->oP R):oP R:= bif (decide ((a2.length:Int)>1)) then gb true (YQ n q1 q2 q3 q4 b c q7 Tu8) (0,[],[],[],[],[],[],[]) fun a=>Qs n a1 a2 a3 a.1 (a2.length:Int) (fun aa ab k l m o p q r=>K k l m o p q r) n 0 a.2.1 a.2.2.1 a.2.2.2.1 a.2.2.2.2.1 a.2.2.2.2.2.1 a.2.2.2.2.2.2.1 a.2.2.2.2.2.2.2 else Qs n a1 a2 a3 (-1:Int) (a2.length:Int) (fun ac ad s t u v x y z=>K s t u v x y z) n 0 q1 q2 q3 q4 b c q7

def Vm (n:Nat) (d:Int) (k0:Int->Bool->LL->LL->LL->LL->LL->LL->LL->LL->LL->Int->oP R):Nat->Int->LL->LL->LL->LL->LL->LL->LL->LL->LL->Int->oP R
 | 0,_,_,_,_,_,_,_,_,_,_,_=>none
 | m+1,c,o,e,p,q,r,s,t,u,v,x=>bif decide (c>0) then gb true (Uk n (bs [84]) d some) [] fun y=>gb true (Uk n y c some) [] fun z=>gb true (ZA n v x z d Tu7) ([],0,0,0,0,[],0) fun b=>gb true (YC n o p q r s t u b.1 (wJ (b.2.1+2)) b.2.2.1 b.2.2.2.1 b.2.2.2.2.1 Tu8) (0,[],[],[],[],[],[],[]) fun a=>gb true (YD ((e.length+[[Q5 a.1]].length)*8)) () fun ab=>Vm n d k0 m (wJ (c-1)) a.2.1 (e++[[Q5 a.1]]) a.2.2.1 a.2.2.2.1 a.2.2.2.2.1 a.2.2.2.2.2.1 a.2.2.2.2.2.2.1 a.2.2.2.2.2.2.2 b.2.2.2.2.2.1 b.2.2.2.2.2.2 else k0 c (decide (c>0)) o e p q r s t u v x
def Wr (n:Nat) (h2:Int) (k0:Int->Bool->LL->LL->LL->LL->LL->LL->LL->LL->Int->oP R):Nat->Int->LL->LL->LL->LL->LL->LL->LL->LL->Int->oP R
 | 0,_,_,_,_,_,_,_,_,_,_=>none
 | m+1,a,b,d,e,f,g,h,i,j,k=>bif decide (a<h2) then gb true (Uk n (bs [83]) a some) [] fun l=>gb true (YD ((b.length+[[D.str l]].length)*16)) () fun ac=>gb true (Q4 n j k 2 Tu3) (0,[],0) fun c=>Vm n a (fun ad ae t o u v x p y z aa ab=>gb true (YD ((p.length+[[D.sl 1 o]].length)*24)) () fun ag=>Wr n h2 k0 m (wJ (a+1)) t u v x (p++[[D.sl 1 o]]) y z aa ab) n (wJ (1+c.1)) (b++[[D.str l]]) [] d e f g h i c.2.1 c.2.2 else k0 a (decide (a<h2)) b d e f g h i j k
def Vl (n:Nat) (l:Int) (k0:Int->Bool->LL->LL->LL->LL->LL->LL->LL->LL->LL->Int->oP R):Nat->Int->LL->LL->LL->LL->LL->LL->LL->LL->LL->Int->oP R
 | 0,_,_,_,_,_,_,_,_,_,_,_=>none
 | m+1,c,d,o,p,q,r,s,t,u,v,x=>bif decide (c>0) then gb true (Uk n (bs [76]) l some) [] fun y=>gb true (Uk n y c some) [] fun z=>gb true (ZA n v x z (-1:Int) Tu7) ([],0,0,0,0,[],0) fun b=>gb true (YC n o p q r s t u b.1 b.2.1 b.2.2.1 b.2.2.2.1 b.2.2.2.2.1 Tu8) (0,[],[],[],[],[],[],[]) fun a=>gb true (YD ((d.length+[[Q5 a.1]].length)*8)) () fun ab=>Vl n l k0 m (wJ (c-1)) (d++[[Q5 a.1]]) a.2.1 a.2.2.1 a.2.2.2.1 a.2.2.2.2.1 a.2.2.2.2.2.1 a.2.2.2.2.2.2.1 a.2.2.2.2.2.2.2 b.2.2.2.2.2.1 b.2.2.2.2.2.2 else k0 c (decide (c>0)) d o p q r s t u v x
def T2 (n:Nat) (b:LL) (k0:Int->Bool->LL->LL->LL->LL->LL->LL->LL->oP R):Nat->Int->LL->LL->LL->LL->LL->LL->LL->oP R
 | 0,_,_,_,_,_,_,_,_=>none
 | m+1,a,d,e,f,g,h,i,j=>bif (decide ((wJ (a+1))<(b.length:Int))) then gb true (inB (b.length) a) () fun aa=>gb true (b[a.toNat]?) [] fun k=>gb true (k[0]?) oF fun l=>gb true (pIw l) 0 fun o=>gb true (inB (b.length) (wJ (a+1))) () fun ab=>gb true (b[(Int.toNat (wJ (a+1)))]?) [] fun p=>gb true (p[0]?) oF fun q=>gb true (pIw q) 0 fun r=>gb true (XN n d e f g h i j o r (-1:Int) 0 Tu7) zZ2 fun c=>T2 n b k0 m (wJ (a+1)) c.1 c.2.1 c.2.2.1 c.2.2.2.1 c.2.2.2.2.1 c.2.2.2.2.2.1 c.2.2.2.2.2.2 else k0 a (decide ((wJ (a+1))<(b.length:Int))) d e f g h i j
def Wm (n:Nat) (h:Int) (k0:Int->Bool->LL->LL->LL->LL->LL->LL->LL->LL->Int->oP R):Nat->Int->LL->LL->LL->LL->LL->LL->LL->LL->Int->oP R
 | 0,_,_,_,_,_,_,_,_,_,_=>none
 | m+1,a,q,r,s,t,u,v,x,y,z=>bif (decide ((wJ (a+1))<h)) then gb true (Q4 n y z 2 Tu3) (0,[],0) fun i=>Vl n a (fun be bg b aa ab ac ad ae ag ah ai aj=>T2 n b (fun bh bi ak al am an j ao ap=>gb true (inB (b.length) 0) () fun bj=>gb true (b[(Int.toNat 0)]?) [] fun aq=>gb true (aq[0]?) oF fun ar=>gb true (pIw ar) 0 fun au=>gb true (inB (j.length) a) () fun bk=>gb true (j[a.toNat]?) [] fun av=>gb true (av[0]?) oF fun aw=>gb true (pSl 1 aw) [] fun ax=>gb true (WY n ak al am an j ao ap au ax false Tu7) zZ2 fun c=>gb true (inB (b.length) (wJ ((b.length:Int)-1))) () fun bl=>gb true (b[(Int.toNat (wJ ((b.length:Int)-1)))]?) [] fun ay=>gb true (ay[0]?) oF fun az=>gb true (pIw az) 0 fun ba=>gb true (inB (c.2.2.2.2.1.length) (wJ (a+1))) () fun bm=>gb true (c.2.2.2.2.1[(Int.toNat (wJ (a+1)))]?) [] fun bb=>gb true (bb[0]?) oF fun bc=>gb true (pSl 1 bc) [] fun bd=>gb true (WY n c.1 c.2.1 c.2.2.1 c.2.2.2.1 c.2.2.2.2.1 c.2.2.2.2.2.1 c.2.2.2.2.2.2 ba bd true Tu7) zZ2 fun d=>gb true (YD ((d.2.2.2.2.2.1.length+[[D.sl 1 b]].length)*24)) () fun bn=>Wm n h k0 m (wJ (a+1)) d.1 d.2.1 d.2.2.1 d.2.2.2.1 d.2.2.2.2.1 (d.2.2.2.2.2.1++[[D.sl 1 b]]) d.2.2.2.2.2.2 ai aj) n 0 aa ab ac ad ae ag ah) n (wJ (1+i.1)) [] q r s t u v x i.2.1 i.2.2 else k0 a (decide ((wJ (a+1))<h)) q r s t u v x y z
def E3 (n:Nat) (b:LL) (c:Int) (K:LL->LL->LL->LL->LL->LL->LL->LL->Int->oP R):oP R:= gb true (Q4 n b c 2 Tu3) (0,[],0) fun a=>Wr n (wJ (2+a.1)) (fun z aa f g h i j k l m o=>Wm n (wJ (2+a.1)) (fun ab ac p q r s t u v x y=>K p q r s t u v x y) n 0 f g h i j k l m o) n 0 [] [] [] [] [] [] [] a.2.1 a.2.2

end Go.Vx
namespace Go.Vx
section
variable {R:Type}
theorem Q0P (x:Int):0<=IntKind.wrap .u64 x:=by
 have:=Int.emod_nonneg x (show (18446744073709551616:Int)≠0 by decide);simpa [IntKind.wrap,IntKind.bits,IntKind.signed] using this
theorem Q76 {x:Int} (a:0<=x) (b:x<18446744073709551616):IntKind.wrap .u64 x=x:=by
 have:=Int.emod_eq_of_lt a b;simpa [IntKind.wrap,IntKind.bits,IntKind.signed] using this
def pick (v m:Int):Int:=(IntKind.wrap .u64 v).tmod m
theorem HX (v:Int) {m:Int} (h:0<m):0<=pick v m/\pick v m<m:=by
 unfold pick;rw [Int.tmod_eq_emod_of_nonneg (Q0P v)];exact ⟨Int.emod_nonneg _ (by omega),Int.emod_lt_of_pos _ h⟩
theorem Q8x (n:Nat) (v:Int) {m:Int} (h:0<m) (hm:m<=9223372036854775807) (K:Int->oP R):Ge n v m K=K (pick v m):=by
 unfold Ge;rw [Q76 (x:=m) (by omega) (by omega),Ca (by omega)];simp -implicitDefEqProofs only [Q0];have:=HX v h;unfold pick at this ⊢;rw [Q1E (by omega) (by omega)]
theorem Q5C (n:Nat) {l:List Int} (hl:l.length<=9223372036854775807) {i:Nat} (hi:i<=l.length) {m:Int} (h:0<m) (hm:m<=9223372036854775807) :
  ∃ (v:Int) (j:Nat),0<=v/\v<m/\j<=l.length/\∀ (R:Type) (K:Int->List (List D)->Int->oP R),Q4 n (encI l) i m K=K v (encI l) j:=by
 by_cases ak:i<l.length
 ·have hg:=QdT ak;refine ⟨pick l[i] m,i+1,(HX _ h).1,(HX _ h).2,by omega,fun R K=>?_⟩;unfold Q4;rw [Q8 (by simp [Vj];omega),Q1E (x:=(i:Int)+1) (by omega) (by omega),Q1E (by omega) (by omega)];rw [show (i:Int)+1-1=(i:Int) by omega,No hg];simp -implicitDefEqProofs only [Q0,List.getElem?_cons_zero,Q1,Q8x n _ h hm];rfl
 ·refine ⟨0,i,by omega,h,hi,fun R K=>?_⟩;unfold Q4;rw [QJ (by simp [Vj];omega)]
end
def OkP {R:Type} (P:R->Prop) (E:oP R):Prop:=∃ v,E=some v/\P v
instance {R:Type}:Membership (oP R) (R->Prop):=⟨fun P E=>OkP P E⟩
theorem okI {R:Type} {P:R->Prop} {v:R} (h:P v):some v∈P:=⟨v,rfl,h⟩
theorem okB {R S:Type} {P:S->Prop} {E:oP R} {z:R} {f:R->Option S} (h:E∈(fun v=>f v∈P:R->Prop)):gb true E z f∈P:=by
 obtain ⟨v,e,h⟩:=h;rw [e];exact h
theorem okS {R:Type} {E:oP R} {r:R} (h:E∈(fun v=>v=r:R->Prop)):E=some r:=by
 obtain ⟨v,e,rfl⟩:=h;exact e
theorem Ui {R:Type} {n:Nat} {l:List Int} (hl:l.length<=9223372036854775807) {i:Nat} (hi:i<=l.length) {m:Int} (h:0<m) (hm:m<=9223372036854775807) {z:Int × LL × Int} {f:Int × LL × Int->oP R} {P:R->Prop}
  (H:∀ (v:Int) (j:Nat),0<=v->v<m->j<=l.length->f (v,encI l,(j:Int))∈P) :
  gb true (Q4 n (encI l) (i:Int) m Tu3) z f∈P:=by
 obtain ⟨v,j,d,g,hj,e⟩:=Q5C n hl hi h hm;rw [e];exact H v j d g hj
structure Num (a b c:Int):Prop where
 a0:2<=a
 a1:a<=10
 b0:5000<=b
 b1:b<=35000
 c0 : -10<=c
 c1:c<=10
theorem Qf {x:Int} (a : -9223372036854775808<=x) (b:x<=9223372036854775807):wJ x=x:=by
 simp only [IntKind.wrap_i64];omega
theorem Q9G {R:Type} {n:Nat} {l:List Int} (hl:l.length<=9223372036854775807) {i:Nat} (hi:i<=l.length) {nm:List UInt8} {st:Int} {z:List UInt8 × Int × Int × Int × Int × LL × Int} {f:List UInt8 × Int × Int × Int × Int × LL × Int->oP R} {P:R->Prop}
  (H:∀ (a b c:Int) (j:Nat),Num a b c->j<=l.length->f (nm,a,b,c,st,encI l,(j:Int))∈P) :
  gb true (ZA n (encI l) (i:Int) nm st Tu7) z f∈P:=by
 obtain ⟨v,j,y,h1,hj,e⟩:=Q5C n hl hi (show (0:Int)<9 by decide) (by decide);obtain ⟨d,j2,g0,g1,r,e2⟩:=Q5C n hl hj (show (0:Int)<7 by decide) (by decide);obtain ⟨s,j3,k0,k1,t,u⟩:=Q5C n hl r (show (0:Int)<21 by decide) (by decide);unfold ZA;rw [e,Q0,e2,Q0,u,Q0,Q0];rw [Qf (x:=2+v) (by omega) (by omega),Qf (x:=5000*d) (by omega) (by omega),Qf (x:=5000+5000*d) (by omega) (by omega),Qf (x:=s-10) (by omega) (by omega)];exact H _ _ _ _ ⟨by omega,by omega,by omega,by omega,by omega,by omega⟩ t
theorem two {v:Int} (a:0<=v) (b:v<2):v=0\/v=1:=by omega
theorem Ee {R:Type} (n:Nat) (a:List UInt8) (d:Nat) (hd:d<10) (ha:a.length<=100) (K:List UInt8->oP R):Uk n a (d:Int) K=K (a++[UInt8.ofNat (48+d)]):=by
 have:∀ d:Fin 10,∃ q,slB (List.length (bs [48,49,50,51,52,53,54,55,56,57])) (some (Int.tmod (d.val:Int) (10:Int))) (some (wJ ((Int.tmod (d.val:Int) (10:Int))+(1:Int))))=some q/\cut (bs [48,49,50,51,52,53,54,55,56,57]) q=[UInt8.ofNat (48+d.val)]:=by
  intro d
  match d with
  |0=>exact ⟨_,rfl,rfl⟩
  |1=>exact ⟨_,rfl,rfl⟩
  |2=>exact ⟨_,rfl,rfl⟩
  |3=>exact ⟨_,rfl,rfl⟩
  |4=>exact ⟨_,rfl,rfl⟩
  |5=>exact ⟨_,rfl,rfl⟩
  |6=>exact ⟨_,rfl,rfl⟩
  |7=>exact ⟨_,rfl,rfl⟩
  |8=>exact ⟨_,rfl,rfl⟩
  |9=>exact ⟨_,rfl,rfl⟩
 obtain ⟨q,b,h2⟩:=this ⟨d,hd⟩;unfold Uk;simp only at b h2;rw [b];have hz:nz (10:Int)=some ():=rfl;rw [hz,Q0,Q0,Q0,h2];have hs:Q5s (a.length+([UInt8.ofNat (48+d)]:List UInt8).length)=some ():=by
  unfold Q5s;rw [show Nat.ble (a.length+([UInt8.ofNat (48+d)]:List UInt8).length) 9223372036854775807=true from Nat.ble_eq_true_of_le (by simp;omega)];rfl
 rw [hs,Q0]
theorem XR {k:Nat} (h:k<=100000):YD k=some ():=by
 unfold YD;rw [show Nat.ble k 140737488355328=true from Nat.ble_eq_true_of_le (by omega)];rfl
theorem Qch {R:Type} {n:Nat} {q1 q2 q3 q4 e g q7:LL} {s:List UInt8} {a b c d:Int} {z:Int × LL × LL × LL × LL × LL × LL × LL} {f:Int × LL × LL × LL × LL × LL × LL × LL->oP R} {P:R->Prop} (k:Nat) (hk:q3.length=k) (h:k<=1000)
  (H:f ((k:Int),q1,q2,q3++[[D.str s,D.int .i64 a,D.int .i64 b,D.int .i64 c,D.int .i64 d]],q4,e,g,q7)∈P) :
  gb true (YC n q1 q2 q3 q4 e g q7 s a b c d Tu8) z f∈P:=by
 unfold YC;rw [XR (by simp;omega),Q0,Q0];have hl:(q3++[[D.str s,D.int .i64 a,D.int .i64 b,D.int .i64 c,D.int .i64 d]]).length=k+1:=by simp [hk]
 rw [hl,Qf (x:=((k+1:Nat):Int)-1) (by omega) (by omega),show ((k+1:Nat):Int)-1=(k:Int) by omega];exact H
theorem QcH {R:Type} {n:Nat} {q1 q2 q3 q4 e g q7:LL} {s:List UInt8} {a b c d:Int} {z:Int × LL × LL × LL × LL × LL × LL × LL} {f:Int × LL × LL × LL × LL × LL × LL × LL->oP R} {P:R->Prop} (k:Nat) (hk:q3.length=k) (h:k<=1000) (hn:Num a b c)
  (H:f ((k:Int),q1,q2,q3++[[D.str s,D.int .i64 (a+2),D.int .i64 b,D.int .i64 c,D.int .i64 d]],q4,e,g,q7)∈P) :
  gb true (YC n q1 q2 q3 q4 e g q7 s (wJ (a+2)) b c d Tu8) z f∈P:=by
 have t:=hn.a0;have u:=hn.a1;rw [Qf (x:=a+2) (by omega) (by omega)];exact Qch k hk h H
def nmT (i k:Nat):List UInt8:=bs [84]++[UInt8.ofNat (48+i)]++[UInt8.ofNat (48+k)]
def nmL (i k:Nat):List UInt8:=bs [76]++[UInt8.ofNat (48+i)]++[UInt8.ofNat (48+k)]
abbrev Pc:=Int × Int × Int
def secT (i k:Nat) (x:Pc):List D:=[D.str (nmT i k),Q5 (x.1+2),Q5 x.2.1,Q5 x.2.2,Q5 i]
def secL (i k:Nat) (x:Pc):List D:=[D.str (nmL i k),Q5 x.1,Q5 x.2.1,Q5 x.2.2,Q5 (-1)]
def Y5 (f:Nat->Pc->List D):Nat->List Pc->LL
 |k+1,x::y=>f (k+1) x::Y5 f k y
 |_,_=>[]
def ups (k:Nat):Nat->List Nat
 |0=>[]
 |c+1=>k::ups (k+1) c
def Za (l:List Nat):LL:=l.map fun k=>[Q5 (k:Nat)]
def JX:List Pc->Prop
 |[]=>True
 |x::r=>Num x.1 x.2.1 x.2.2/\JX r
section
variable {R:Type} {n:Nat} {l:List Int} (hl:l.length<=9223372036854775807) {P:R->Prop}
include hl
theorem Qbu {i c k j m:Nat} {e tl f S g h o p:LL} {k0:Int->Bool->LL->LL->LL->LL->LL->LL->LL->LL->LL->Int->oP R}
  (hi:i<10) (hc:c+1<10) (hk:S.length=k) (q:k<=500) (ht:tl.length<=500) (hj:j<=l.length)
  (H:∀ (x:Pc) (j:Nat),Num x.1 x.2.1 x.2.2->j<=l.length->Vm n i k0 m (c:Int) e (tl++[[Q5 k]]) f (S++[secT i (c+1) x]) g h o p (encI l) (j:Int)∈P) :
  Vm n (i:Int) k0 (m+1) ((c+1:Nat):Int) e tl f S g h o p (encI l) (j:Int)∈P:=by
 unfold Vm;rw [QJ (by simp),Ee n _ i hi (by decide),Q0,Ee n _ (c+1) hc (by simp),Q0];refine Q9G hl hj fun a b d j hn hj=>?_
 dsimp only;refine QcH k hk (by omega) hn ?_;dsimp only;rw [XR (by simp;omega),Q0,Qf (x:=((c+1:Nat):Int)-1) (by omega) (by omega),show ((c+1:Nat):Int)-1=(c:Int) by omega];exact H (a,b,d) j hn hj
theorem Q8R {i c k j m:Nat} {a b S d e f g:LL} {k0:Int->Bool->LL->LL->LL->LL->LL->LL->LL->LL->LL->Int->oP R}
  (hi:i<10) (hc:c=1\/c=2) (hk:S.length=k) (h:k<=400) (hj:j<=l.length)
  (H:∀ (x:List Pc) (j:Nat),JX x->x.length=c->j<=l.length->k0 0 false a (Za (ups k c)) b (S++Y5 (secT i) c x) d e f g (encI l) (j:Int)∈P) :
  Vm n (i:Int) k0 (m+3) (c:Int) a [] b S d e f g (encI l) (j:Int)∈P:=by
 rcases hc with rfl | rfl
 ·refine Qbu hl (c:=0) hi (by omega) hk (by omega) (by simp) hj fun x j hx hj=>?_
  exact H [x] j ⟨hx,trivial⟩ rfl hj
 ·refine Qbu hl (c:=1) hi (by omega) hk (by omega) (by simp) hj fun x j hx hj=>?_
  refine Qbu hl (c:=0) (k:=k+1) hi (by omega) (by simp [hk]) (by omega) (by simp) hj fun y j hy hj=>?_
  have:=H [x,y] j ⟨hx,hy,trivial⟩ rfl hj;simp only [Y5,ups,Za,List.map_cons,List.map_nil] at this;show k0 0 false a _ b (S++[secT i 2 x]++[secT i 1 y]) d e f g (encI l) (j:Int)∈P;rw [List.append_assoc S];exact this
end

def Q3o (a b:Int) (p q:Int):List D:=[Q5 a,Q5 1,Q5 b,Q5 0,Q5 p,Q5 q]
def lk (ak:Bool) (x t:Int) (p q:Int):List D:=bif ak then Q3o x t p q else Q3o t x p q
def nmP (k:Nat):List D:=[D.str (bs [80]++[UInt8.ofNat (48+k)])]
def Q09 (x:Nat) (ak:Bool) (am k c:Nat):LL:=bif Nat.beq c 2 then [lk ak x k am 0,lk ak x ((k+1:Nat):Int) am 1] else [lk ak x k (-1) 0]
def Am (ak c:Nat):LL:=bif Nat.beq c 2 then [nmP ak] else []
section
variable {R:Type} {n:Nat} {q1 q2 q3 q4 q5 q6 q7:LL}
theorem Q94 {a b c d:Int} (h:q4.length<=1000) (K:LL->LL->LL->LL->LL->LL->LL->oP R):XN n q1 q2 q3 q4 q5 q6 q7 a b c d K=K q1 q2 q3 (q4++[Q3o a b c d]) q5 q6 q7:=by
 unfold XN;rw [XR (by simp;omega),Q0];rfl
theorem Q9x {k:Nat} (hk:q2.length=k) (h:k<10) (K:Int->LL->LL->LL->LL->LL->LL->LL->oP R):YQ n q1 q2 q3 q4 q5 q6 q7 K=K (k:Int) q1 (q2++[nmP k]) q3 q4 q5 q6 q7:=by
 unfold YQ;rw [hk,Ee n _ k h (by decide),Q0,XR (by simp;omega),Q0];have hl:(q2++[[D.str (bs [80]++[UInt8.ofNat (48+k)])]]).length=k+1:=by simp [hk]
 rw [hl,Qf (x:=((k+1:Nat):Int)-1) (by omega) (by omega),show ((k+1:Nat):Int)-1=(k:Int) by omega];rfl
theorem QbV {a1 a:Int} {T:List Nat} {ak:Bool} {w:Int} {h t m:Nat} (hh:(h:Int)<a) (b:h<=1000) (ht:T[h]? = some t) (hq:q4.length<=1000) {k0:Int->Bool->LL->LL->LL->LL->LL->LL->LL->oP R} :
  Qs n a1 (Za T) ak w a k0 (m+1) (h:Int) q1 q2 q3 q4 q5 q6 q7=Qs n a1 (Za T) ak w a k0 m ((h+1:Nat):Int) q1 q2 q3 (q4++[lk ak a1 t w h]) q5 q6 q7:=by
 rw [Qs];rw [QJ (by simp;omega),Qf (x:=(h:Int)+1) (by omega) (by omega)];have hr:Q2 (Za T) (h:Int)=some [Q5 t]:=QT ht;cases ak
 ·rw [Q8 rfl,hr,Q0];show gb true (some (D.int .i64 (t:Int))) _ _=_;rw [Q0,Q1,Q0,Q94 hq,Q0];rfl
 ·rw [QJ rfl,hr,Q0];show gb true (some (D.int .i64 (t:Int))) _ _=_;rw [Q0,Q1,Q0,Q94 hq,Q0];rfl
theorem Q9M {a1 a:Int} {T:LL} {ak:Bool} {w:Int} {h m:Nat} (hh:¬ (h:Int)<a) {k0:Int->Bool->LL->LL->LL->LL->LL->LL->LL->oP R} :
  Qs n a1 T ak w a k0 (m+1) (h:Int) q1 q2 q3 q4 q5 q6 q7=k0 h false q1 q2 q3 q4 q5 q6 q7:=by
 rw [Qs,Q8 (by simp;omega)];simp [hh]
theorem Qc7 {m x k c p:Nat} {ak:Bool} (hc:c=1\/c=2) (hp:q2.length=p) (a:p<10) (hq:q4.length<=900) (K:LL->LL->LL->LL->LL->LL->LL->oP R) :
  WY (m+3) q1 q2 q3 q4 q5 q6 q7 (x:Int) (Za (ups k c)) ak K=K q1 (q2++Am p c) q3 (q4++Q09 x ak p k c) q5 q6 q7:=by
 rcases hc with rfl | rfl
 ·show Qs (m+3) (x:Int) (Za [k]) ak (-1) (1:Int) _ (m+2+1) ((0:Nat):Int) q1 q2 q3 q4 q5 q6 q7=_;rw [QbV (by decide) (by decide) rfl (by omega),Q9M (by decide)];rw [show Am p 1=[] from rfl,List.append_nil];rfl
 ·show gb true (YQ (m+3) q1 q2 q3 q4 q5 q6 q7 _) _ _=_;rw [Q9x hp a,Q0];show Qs (m+3) (x:Int) (Za [k,k+1]) ak (p:Int) (2:Int) _ (m+2+1) ((0:Nat):Int) q1 (q2++[nmP p]) q3 q4 q5 q6 q7=_;rw [QbV (by decide) (by decide) rfl (by omega),QbV (by decide) (by decide) rfl (by simp;omega),Q9M (by decide),List.append_assoc];rfl
end

def inL (s u:Nat):LL:=bif Nat.beq u 2 then [Q3o s ((s+1:Nat):Int) (-1) 0] else []
def pc (c:Nat):Nat:=bif Nat.beq c 2 then 1 else 0
theorem Q2R (p c:Nat):(Am p c).length=pc c:=by unfold Am pc;cases Nat.beq c 2 <;> rfl
theorem Q8k {c:Nat}:pc c<=1:=by unfold pc;cases Nat.beq c 2 <;> simp
theorem Ae {x p k c:Nat} {e:Bool}:(Q09 x e p k c).length<=2:=by unfold Q09;cases Nat.beq c 2 <;> simp
theorem Q1L {s u:Nat}:(inL s u).length<=1:=by unfold inL;cases Nat.beq u 2 <;> simp
section
variable {R:Type} {n:Nat} {l:List Int} (hl:l.length<=9223372036854775807) {P:R->Prop}
include hl
theorem Q8N {i c k j m:Nat} {e tl f S g h o p:LL} {k0:Int->Bool->LL->LL->LL->LL->LL->LL->LL->LL->LL->Int->oP R}
  (hi:i<10) (hc:c+1<10) (hk:S.length=k) (q:k<=500) (ht:tl.length<=500) (hj:j<=l.length)
  (H:∀ (x:Pc) (j:Nat),Num x.1 x.2.1 x.2.2->j<=l.length->Vl n i k0 m (c:Int) (tl++[[Q5 k]]) e f (S++[secL i (c+1) x]) g h o p (encI l) (j:Int)∈P) :
  Vl n (i:Int) k0 (m+1) ((c+1:Nat):Int) tl e f S g h o p (encI l) (j:Int)∈P:=by
 unfold Vl;rw [QJ (by simp),Ee n _ i hi (by decide),Q0,Ee n _ (c+1) hc (by simp),Q0];refine Q9G hl hj fun a b d j hn hj=>?_
 dsimp only;refine Qch k hk (by omega) ?_;dsimp only;rw [XR (by simp;omega),Q0,Qf (x:=((c+1:Nat):Int)-1) (by omega) (by omega),show ((c+1:Nat):Int)-1=(c:Int) by omega];exact H (a,b,d) j hn hj
theorem Q7g {i c k j m:Nat} {a b S d e f g:LL} {k0:Int->Bool->LL->LL->LL->LL->LL->LL->LL->LL->LL->Int->oP R}
  (hi:i<10) (hc:c=1\/c=2) (hk:S.length=k) (h:k<=400) (hj:j<=l.length)
  (H:∀ (x:List Pc) (j:Nat),JX x->x.length=c->j<=l.length->k0 0 false (Za (ups k c)) a b (S++Y5 (secL i) c x) d e f g (encI l) (j:Int)∈P) :
  Vl n (i:Int) k0 (m+3) (c:Int) [] a b S d e f g (encI l) (j:Int)∈P:=by
 rcases hc with rfl | rfl
 ·refine Q8N hl (c:=0) hi (by omega) hk (by omega) (by simp) hj fun x j hx hj=>?_
  exact H [x] j ⟨hx,trivial⟩ rfl hj
 ·refine Q8N hl (c:=1) hi (by omega) hk (by omega) (by simp) hj fun x j hx hj=>?_
  refine Q8N hl (c:=0) (k:=k+1) hi (by omega) (by simp [hk]) (by omega) (by simp) hj fun y j hy hj=>?_
  have:=H [x,y] j ⟨hx,hy,trivial⟩ rfl hj;simp only [Y5,ups,Za,List.map_cons,List.map_nil] at this;show k0 0 false _ a b (S++[secL i 2 x]++[secL i 1 y]) d e f g (encI l) (j:Int)∈P;rw [List.append_assoc S];exact this
end
section
variable {R:Type} {n:Nat}
theorem inA {s u m:Nat} {q1 q2 q3 q4 a b q7:LL} (hu:u=1\/u=2) (hq:q4.length<=900) {k0:Int->Bool->LL->LL->LL->LL->LL->LL->LL->oP R} :
  T2 n (Za (ups s u)) k0 (m+3) 0 q1 q2 q3 q4 a b q7=k0 ((u-1:Nat):Int) false q1 q2 q3 (q4++inL s u) a b q7:=by
 rcases hu with rfl | rfl
 ·rw [show inL s 1=[] from rfl,List.append_nil];rfl
 ·show gb true (XN n q1 q2 q3 q4 a b q7 (s:Int) ((s+1:Nat):Int) (-1) 0 _) _ _=_;rw [Q94 (by omega),Q0];rfl
end
theorem Qbl {R:Type} {m:Nat} {l:List Int} (hl:l.length<=9223372036854775807) {P:R->Prop} {a:Int} {g s p k c k' c' j:Nat} {St Pt Se Li Tr Bt Ww:LL} {k0:Int->Bool->LL->LL->LL->LL->LL->LL->LL->LL->Int->oP R} {n:Nat}
  (hg:g<8) (hw:(g:Int)+1<a) (hs:Se.length=s) (i:s<=300) (hp:Pt.length=p) (o:p<8) (hL:Li.length<=300) (hB:Bt.length<=300)
  (hT:Tr[g]? = some [D.sl 1 (Za (ups k c))]) (am:Tr[g+1]? = some [D.sl 1 (Za (ups k' c'))]) (hc:c=1\/c=2) (aq:c'=1\/c'=2) (hj:j<=l.length)
  (H:∀ (u:Nat) (x:List Pc) (j:Nat),(u=1\/u=2)->JX x->x.length=u->j<=l.length ->
   Wm (m+3) a k0 n ((g+1:Nat):Int) St ((Pt++Am p c)++Am (p+pc c) c') (Se++Y5 (secL g) u x) (((Li++inL s u)++Q09 s false p k c)++Q09 (s+u-1) true (p+pc c) k' c') Tr (Bt++[[D.sl 1 (Za (ups s u))]]) Ww (encI l) (j:Int)∈P) :
  Wm (m+3) a k0 (n+1) (g:Int) St Pt Se Li Tr Bt Ww (encI l) (j:Int)∈P:=by
 unfold Wm;have ar:wJ ((g:Int)+1)=((g+1:Nat):Int):=by rw [Qf (by omega) (by omega)];omega
 rw [ar,QJ (by simp;omega)];refine Ui hl hj (by decide) (by decide) fun v j b d hj=>?_
 obtain ⟨u,hu,hv⟩:∃ u:Nat,(u=1\/u=2)/\wJ (1+v)=(u:Int):=by
  rcases two b d with rfl | rfl
  ·exact ⟨1,.inl rfl,rfl⟩
  ·exact ⟨2,.inr rfl,rfl⟩
 dsimp only;rw [hv];refine Q7g hl (by omega) hu hs (by omega) hj fun x j hx an hj=>?_
 rw [inA hu (by omega)];have e:(0:Int).toNat=0:=rfl;have ao:(Za (ups s u)).length=u:=by rcases hu with rfl | rfl <;> rfl
 have f:(Za (ups s u))[0]? = some [Q5 s]:=by rcases hu with rfl | rfl <;> rfl
 have e1:(Za (ups s u))[u-1]? = some [Q5 ((s+u-1:Nat):Int)]:=by rcases hu with rfl | rfl <;> rfl
 have a6:g<Tr.length:=(QdV.1 hT).1;have aw:g+1<Tr.length:=(QdV.1 am).1;have h:wJ ((u:Int)-1)=((u-1:Nat):Int):=by rcases hu with rfl | rfl <;> rfl
 rw [ao,ZG (by omega) (by omega),Q0,e,f,Q0];show gb true (some (Q5 s)) _ _∈P;rw [Q0,Q1,Q0,ZG (by omega) (by omega),Q0,Int.toNat_natCast,hT,Q0];show gb true (some (D.sl 1 (Za (ups k c)))) _ _∈P;rw [Q0,X6,Q0,Qc7 hc hp (by omega) (by have:=@Q1L s u;simp;omega),Q0];dsimp only;rw [h,ZG (by omega) (by omega),Q0,Int.toNat_natCast,e1,Q0];show gb true (some (Q5 ((s+u-1:Nat):Int))) _ _∈P;rw [Q0,Q1,Q0,ZG (by omega) (by omega),Q0,Int.toNat_natCast,am,Q0];show gb true (some (D.sl 1 (Za (ups k' c')))) _ _∈P;rw [Q0,X6,Q0,Qc7 (p:=p+pc c) aq (by simp [hp,Q2R]) (by have:=@Q8k c;omega) (by have:=@Q1L s u;have:=@Ae s p k c false;simp;omega),Q0];dsimp only;rw [XR (by simp;omega),Q0];exact H u x j hu hx an hj

def nmS (k:Nat):List D:=[D.str (bs [83]++[UInt8.ofNat (48+k)])]
theorem Qo {f:Nat->Pc->List D}:∀ {c:Nat} {x:List Pc},x.length=c->(Y5 f c x).length=c
 |0,[],_=>rfl
 |c+1,a::x,h=>by simp [Y5];exact Qo (by simpa using h)
section
variable {R:Type} {m:Nat} {l:List Int} (hl:l.length<=9223372036854775807) {P:R->Prop}
include hl
theorem Nb {a:Int} {i k j:Nat} {b f d g e h o:LL} {k0:Int->Bool->LL->LL->LL->LL->LL->LL->LL->LL->Int->oP R} {n:Nat}
  (hi:i<10) (hw:(i:Int)<a) (hk:d.length=k) (q:k<=400) (p:b.length<=400) (h2:e.length<=400) (hj:j<=l.length)
  (H:∀ (c:Nat) (x:List Pc) (j:Nat),(c=1\/c=2)->JX x->x.length=c->j<=l.length ->
   Wr (m+3) a k0 n ((i+1:Nat):Int) (b++[nmS i]) f (d++Y5 (secT i) c x) g (e++[[D.sl 1 (Za (ups k c))]]) h o (encI l) (j:Int)∈P) :
  Wr (m+3) a k0 (n+1) (i:Int) b f d g e h o (encI l) (j:Int)∈P:=by
 unfold Wr;rw [QJ (by simp;omega),Ee _ _ i hi (by decide),Q0,XR (by simp;omega),Q0];refine Ui hl hj (by decide) (by decide) fun v j r p hj=>?_
 obtain ⟨c,hc,hv⟩:∃ c:Nat,(c=1\/c=2)/\wJ (1+v)=(c:Int):=by
  rcases two r p with rfl | rfl
  ·exact ⟨1,.inl rfl,rfl⟩
  ·exact ⟨2,.inr rfl,rfl⟩
 dsimp only;rw [hv];refine Q8R hl hi hc hk q hj fun x j hx ak hj=>?_
 rw [XR (by simp;omega),Q0,Qf (x:=(i:Int)+1) (by omega) (by omega)];exact H c x j hc hx ak hj
omit hl in
theorem r7e {n m:Nat} {b a:Int} {c d e f g i j k:LL} {l:Int} {k0:Int->Bool->LL->LL->LL->LL->LL->LL->LL->LL->Int->oP R} (h:¬ a<b) :
  Wr n b k0 (m+1) a c d e f g i j k l=k0 a false c d e f g i j k l:=by
 rw [Wr,Q8 (by simp;omega)];simp [h]
omit hl in
theorem Qcb {n m:Nat} {b a:Int} {c d e f g i j k:LL} {l:Int} {k0:Int->Bool->LL->LL->LL->LL->LL->LL->LL->LL->Int->oP R} (h:¬ wJ (a+1)<b) :
  Wm n b k0 (m+1) a c d e f g i j k l=k0 a false c d e f g i j k l:=by
 rw [Wm,Q8 (by simp;omega)];simp [h]
theorem Qbq {i:Nat} (hi:i<=l.length) {k0:LL->LL->LL->LL->LL->LL->LL->LL->Int->oP R}
  (H:∀ (c0 c1 a:Nat) (b d e:List Pc) (j:Nat),(c0=1\/c0=2)->(c1=1\/c1=2)->(a=1\/a=2)->JX b->JX d->JX e->b.length=c0->d.length=c1->e.length=a->j<=l.length ->
   k0 [nmS 0,nmS 1] (Am 0 c0++Am (pc c0) c1) ((Y5 (secT 0) c0 b++Y5 (secT 1) c1 d)++Y5 (secL 0) a e)
    ((inL (c0+c1) a++Q09 (c0+c1) false 0 0 c0)++Q09 (c0+c1+a-1) true (pc c0) c0 c1)
    [[D.sl 1 (Za (ups 0 c0))],[D.sl 1 (Za (ups c0 c1))]] [[D.sl 1 (Za (ups (c0+c1) a))]] [] (encI l) (j:Int)∈P) :
  Wr (m+3) 2 (fun ap aq q r t u v x y z aa=>
   Wm (m+3) 2 (fun ar au ab ac ad ae ag ah ai aj ak=>k0 ab ac ad ae ag ah ai aj ak) (m+3) (0:Int) q r t u v x y z aa)
   (m+3) (0:Int) [] [] [] [] [] [] [] (encI l) (i:Int)∈P:=by
 refine Nb hl (i:=0) (by decide) (by decide) rfl (by decide) (by decide) (by decide) hi fun c0 b j h al f hj=>?_
 refine Nb hl (i:=1) (k:=c0) (by decide) (by decide) (by simp [Qo f]) (by omega) (by simp) (by simp) hj fun c1 d j n am o hj=>?_
 rw [r7e (by decide)];refine Qbl hl (g:=0) (s:=c0+c1) (p:=0) (k:=0) (c:=c0) (k':=c0) (c':=c1) (by decide) (by decide) (by simp [Qo f,Qo o]) (by omega) rfl (by decide) (by decide) (by decide) rfl rfl h n hj fun a e j an ao aw hj=>?_
 rw [Qcb (by decide)];have:=H c0 c1 a b d e j h n an al am ao f o aw hj;simpa [Nat.add_assoc] using this
theorem Qbt {i:Nat} (hi:i<=l.length) {k0:LL->LL->LL->LL->LL->LL->LL->LL->Int->oP R}
  (H:∀ (c0 c1 a b d:Nat) (e f h n o:List Pc) (j:Nat),(c0=1\/c0=2)->(c1=1\/c1=2)->(a=1\/a=2)->(b=1\/b=2)->(d=1\/d=2)->JX e->JX f->JX h->JX n->JX o->e.length=c0->f.length=c1->h.length=a->n.length=b->o.length=d->j<=l.length ->
   k0 [nmS 0,nmS 1,nmS 2] ((Am 0 c0++Am (pc c0) c1)++Am (pc c0+pc c1) c1++Am (pc c0+pc c1+pc c1) a)
    ((((Y5 (secT 0) c0 e++Y5 (secT 1) c1 f)++Y5 (secT 2) a h)++Y5 (secL 0) b n)++Y5 (secL 1) d o)
    (((inL (c0+c1+a) b++Q09 (c0+c1+a) false 0 0 c0)++Q09 (c0+c1+a+b-1) true (pc c0) c0 c1)++inL (c0+c1+a+b) d++Q09 (c0+c1+a+b) false (pc c0+pc c1) c0 c1++Q09 (c0+c1+a+b+d-1) true (pc c0+pc c1+pc c1) (c0+c1) a)
    [[D.sl 1 (Za (ups 0 c0))],[D.sl 1 (Za (ups c0 c1))],[D.sl 1 (Za (ups (c0+c1) a))]] [[D.sl 1 (Za (ups (c0+c1+a) b))],[D.sl 1 (Za (ups (c0+c1+a+b) d))]] [] (encI l) (j:Int)∈P) :
  Wr (m+4) 3 (fun bc bd z aa ab ac ad ae ag ah ai=>
   Wm (m+4) 3 (fun be bg aj ak al am an ao ap aq ar=>k0 aj ak al am an ao ap aq ar) (m+4) (0:Int) z aa ab ac ad ae ag ah ai)
   (m+4) (0:Int) [] [] [] [] [] [] [] (encI l) (i:Int)∈P:=by
 refine Nb hl (m:=m+1) (i:=0) (by decide) (by decide) rfl (by decide) (by decide) (by decide) hi fun c0 e j v au q hj=>?_
 refine Nb hl (m:=m+1) (i:=1) (k:=c0) (by decide) (by decide) (by simp [Qo q]) (by omega) (by simp) (by simp) hj fun c1 f j t av r hj=>?_
 refine Nb hl (m:=m+1) (i:=2) (k:=c0+c1) (by decide) (by decide) (by simp [Qo q,Qo r]) (by omega) (by simp) (by simp) hj fun a h j x aw u hj=>?_
 rw [r7e (by decide)];refine Qbl hl (m:=m+1) (g:=0) (s:=c0+c1+a) (p:=0) (k:=0) (c:=c0) (k':=c0) (c':=c1) (by decide) (by decide) (by simp [Qo q,Qo r,Qo u,Nat.add_assoc]) (by omega) rfl (by decide) (by decide) (by decide) rfl rfl v t hj fun b n j ax ay y hj=>?_
 have b0:=@Q8k c0;have b1:=@Q8k c1;have f0:=@Q1L (c0+c1+a) b;have f1:=@Ae (c0+c1+a) 0 0 c0 false;have f2:=@Ae (c0+c1+a+b-1) (pc c0) c0 c1 true;refine Qbl hl (m:=m+1) (g:=1) (s:=c0+c1+a+b) (p:=pc c0+pc c1) (k:=c0) (c:=c1) (k':=c0+c1) (c':=a) (by decide) (by decide) (by simp [Qo q,Qo r,Qo u,Qo y,Nat.add_assoc]) (by omega) (by simp [Q2R]) (by omega) (by simp;omega) (by simp) rfl rfl t x hj fun d o j az ba bb hj=>?_
 rw [Qcb (by decide)];have:=H c0 c1 a b d e f h n o j v t x ax az au av aw ay ba q r u y bb hj;simpa [Nat.add_assoc] using this
end

def Q7H:Option Bool->Bool
 |some true=>true
 |_=>false
def Qcc:Option Bool->Bool
 |some false=>true
 |_=>false
def Q4s:Option Int->Bool
 |some n=>n == 0
 |none=>false
theorem PQ {o:Option Bool} (h:Q7H o=true):o=some true:=by
 match o,h with
 |some true,_=>rfl
theorem Q5v {o:Option Bool} (h:Qcc o=true):o=some false:=by
 match o,h with
 |some false,_=>rfl
theorem Uy {o:Option Int} (h:Q4s o=true):o=some 0:=by
 match o,h with
 |some n,h=>simp only [Q4s,beq_iff_eq] at h;rw [h]

end Go.Vx
namespace Go.Vx
variable {R:Type}
def H9 (n:Nat) (a0:Int) (K:Bool->oP R):oP R:= K (bif (bif decide (a0>=65) then (decide (a0<=90)) else false) then true else (bif decide (a0>=97) then (decide (a0<=122)) else false))
def Nu (n:Nat) (a0:Int) (K:Bool->oP R):oP R:= K (bif decide (a0>=48) then (decide (a0<=57)) else false)

def T5 (n:Nat) (b:List UInt8) (d:Int) (k0:oP R) (k1:Int->Bool->oP R):Nat->Int->oP R
 | 0,_=>none
 | m+1,a=>bif decide (a<d) then gb true (UA b a) 0 fun f=>gb true (H9 n f some) false fun c=>gb (!c) (UA b a) 0 fun g=>gb (!c) (Nu n g some) false fun e=>gb (bif !c then (!e) else false) (UA b a) 0 fun h=>bif (bif (bif !c then (!e) else false) then (h != 95) else false) then k0 else T5 n b d k0 k1 m (wJ (a+1)) else k1 a (decide (a<d))
def JG (n:Nat) (a0:List UInt8) (K:Bool->oP R):oP R:= gb (!(bif (decide ((a0.length:Int)<1)) then true else (decide ((a0.length:Int)>12)))) (UA a0 0) 0 fun a=>gb (!(bif (decide ((a0.length:Int)<1)) then true else (decide ((a0.length:Int)>12)))) (H9 n a some) false fun b=>bif (bif (bif (decide ((a0.length:Int)<1)) then true else (decide ((a0.length:Int)>12))) then true else (!b)) then K false else T5 n a0 (a0.length:Int) (K false) (fun c d=>K true) n 0

def Xc (n:Nat) (e f g h:LL) (i:List UInt8) (a b c d:Int) (K:Bool->oP R):oP R:= K (bif (bif (bif (bif (bif (bif (bif decide (a>=1) then (decide (a<=400)) else false) then (decide (b>=1000)) else false) then (decide (b<=100000)) else false) then (decide (c>=(-40:Int))) else false) then (decide (c<=40)) else false) then (decide (d>=(-1:Int))) else false) then (decide (d<(e.length:Int))) else false)

def XQ (n:Nat) (i h b j:LL) (c d e f a g:Int) (K:Bool->oP R):oP R:= K (bif (bif (bif (bif (bif (bif (bif (bif decide (c>=0) then (decide (c<(b.length:Int))) else false) then (decide (e>=0)) else false) then (decide (e<(b.length:Int))) else false) then (bif (d == 0) then true else (d == 1)) else false) then (bif (f == 0) then true else (f == 1)) else false) then (decide (a>=(-1:Int))) else false) then (decide (a<(h.length:Int))) else false) then (bif (g == 0) then true else (bif (g == 1) then (a != (-1:Int)) else false)) else false)

def RK (n:Nat) (a b c d e f:Int) (K:Int->Int->Int->Int->oP R):oP R:= K a b c d

def Gl (n:Nat) (h:LL) (h2 d e f g:Int) (k0:oP R) (k1:Int->Bool->oP R):Nat->Int->oP R
 | 0,_=>none
 | m+1,c=>bif decide (c<h2) then gb true (Q2 h c) [] fun b=>gb true (b[0]?) oF fun i=>gb true (b[1]?) oF fun j=>gb true (b[2]?) oF fun k=>gb true (b[3]?) oF fun l=>gb true (b[4]?) oF fun o=>gb true (b[5]?) oF fun p=>gb true (pIw i) 0 fun q=>gb true (pIw j) 0 fun r=>gb true (pIw k) 0 fun s=>gb true (pIw l) 0 fun t=>gb true (pIw o) 0 fun u=>gb true (pIw p) 0 fun v=>gb true (RK n q r s t u v Tu4) (0,0,0,0) fun a=>bif (bif (bif ((d == a.1)&&(e == a.2.1)) then ((f == a.2.2.1)&&(g == a.2.2.2)) else false) then true else (bif ((d == a.2.2.1)&&(e == a.2.2.2)) then ((f == a.1)&&(g == a.2.1)) else false)) then k0 else Gl n h h2 d e f g k0 k1 m (wJ (c+1)) else k1 c (decide (c<h2))
def J3 (n:Nat) (a0:LL) (a b c d:Int) (K:Bool->oP R):oP R:= Gl n a0 (a0.length:Int) a b c d (K true) (fun e f=>K false) n 0

def Vo (n:Nat) (i j k l a c:Int) (a1:LL) (K:Bool->oP R):oP R:= bif ((a1.length:Int) == 0) then K true else gb (bif ((a1.length:Int) == 1) then (a != (-1:Int)) else false) (Q2 a1 0) [] fun d=>gb (bif ((a1.length:Int) == 1) then (a != (-1:Int)) else false) (d[4]?) oF fun e=>gb (bif ((a1.length:Int) == 1) then (a != (-1:Int)) else false) (pIw e) 0 fun b=>gb (bif (bif ((a1.length:Int) == 1) then (a != (-1:Int)) else false) then (a == b) else false) (Q2 a1 0) [] fun f=>gb (bif (bif ((a1.length:Int) == 1) then (a != (-1:Int)) else false) then (a == b) else false) (f[5]?) oF fun g=>gb (bif (bif ((a1.length:Int) == 1) then (a != (-1:Int)) else false) then (a == b) else false) (pIw g) 0 fun h=>K (bif (bif (bif ((a1.length:Int) == 1) then (a != (-1:Int)) else false) then (a == b) else false) then (c != h) else false)

def Q7z (n:Nat) (ak:List (List UInt8)) (s:List UInt8):Bool:=Nat.ble s.length 12&&Q7H (JG n s some)&&!(ak.contains s)
def KH (n:Nat):List (List UInt8)->LL->Bool
 | _,[]=>true
 | ak,row::r=>match row with
 | [D.str s]=>Q7z n ak s&&KH n (s::ak) r
 | _=>false
def H4 (n:Nat) (l0 l1 l2 e:LL):List (List UInt8)->LL->Bool
 | _,[]=>true
 | ak,row::r=>match row with
 | [D.str s,D.int .i64 a,D.int .i64 b,D.int .i64 c,D.int .i64 d]=>Q7z n ak s&&Q7H (Xc n l0 l1 l2 e s a b c d some)&&H4 n l0 l1 l2 e (s::ak) r
 | _=>false
def JV (n:Nat) (l0 l1 l2 c:LL):List LL->LL->Bool
 | _,[]=>true
 | st,row::r=>match row with
 | [D.int .i64 a,D.int .i64 ae,D.int .i64 b,D.int .i64 be,D.int .i64 p,D.int .i64 q]=>(decide (0<=a)&&decide (a<l2.length)&&decide (0<=ae)&&decide (ae<=1)&&decide (0<=b)&&decide (b<l2.length)&&decide (0<=be)&&decide (be<=1))&&Q7H (XQ n l0 l1 l2 c a ae b be p q some) && !(Nat.beq (2*a+ae).toNat (2*b+be).toNat) && (match st[(2*a+ae).toNat]?,st[(2*b+be).toNat]? with
 | some x,some y=>Qcc (J3 n x a ae b be some)&&Q7H (Vo n a ae b be p q x some)&&Q7H (Vo n a ae b be p q y some)&&Nat.ble x.length 1&&Nat.ble y.length 1 && JV n l0 l1 l2 c ((st.set (2*a+ae).toNat (x++[row])).set (2*b+be).toNat (y++[row])) r
 | _,_=>false)
 | _=>false
def H5 (n:Nat) (l0 l1 l2 a:LL):Bool:= Nat.ble l0.length 24&&Nat.ble l1.length 48&&Nat.ble l2.length 96&&Nat.ble a.length 192&&!(Nat.beq l2.length 0)&&KH n [] l0&&KH n [] l1&&H4 n l0 l1 l2 a [] l2&&JV n l0 l1 l2 a (List.replicate (2*l2.length) []) a
def YS (n:Nat) (l0 l1 l2 a:LL) (K:Int->oP R):oP R:=bif H5 n l0 l1 l2 a then K 0 else none

end Go.Vx
namespace Go.Vx
def hat (c:Nat):List Pc:=List.replicate c (2,5000,0)
def pt2 (c0 c1:Nat):LL:=Am 0 c0++Am (pc c0) c1
def se2 (c0 c1 a:Nat) (b c d:List Pc):LL:=(Y5 (secT 0) c0 b++Y5 (secT 1) c1 c)++Y5 (secL 0) a d
def li2 (c0 c1 a:Nat):LL:=(inL (c0+c1) a++Q09 (c0+c1) false 0 0 c0)++Q09 (c0+c1+a-1) true (pc c0) c0 c1
def pt3 (c0 c1 a:Nat):LL:=(Am 0 c0++Am (pc c0) c1)++Am (pc c0+pc c1) c1++Am (pc c0+pc c1+pc c1) a
def se3 (c0 c1 a b c:Nat) (d e f g h:List Pc):LL:=(((Y5 (secT 0) c0 d++Y5 (secT 1) c1 e)++Y5 (secT 2) a f)++Y5 (secL 0) b g)++Y5 (secL 1) c h
def li3 (c0 c1 a b c:Nat):LL:=((inL (c0+c1+a) b++Q09 (c0+c1+a) false 0 0 c0)++Q09 (c0+c1+a+b-1) true (pc c0) c0 c1)++inL (c0+c1+a+b) c++Q09 (c0+c1+a+b) false (pc c0+pc c1) c0 c1++Q09 (c0+c1+a+b+c-1) true (pc c0+pc c1+pc c1) (c0+c1) a
theorem ok2 {c0 c1 a:Nat} (b:c0=1\/c0=2) (c:c1=1\/c1=2) (h2:a=1\/a=2):H5 400 [nmS 0,nmS 1] (pt2 c0 c1) (se2 c0 c1 a (hat c0) (hat c1) (hat a)) (li2 c0 c1 a)=true:=by
 rcases b with rfl | rfl <;> rcases c with rfl | rfl <;> rcases h2 with rfl | rfl <;> kernel_rfl
theorem ok3 {c0 c1 a b c:Nat} (d:c0=1\/c0=2) (e:c1=1\/c1=2) (h2:a=1\/a=2) (f:b=1\/b=2) (g:c=1\/c=2):H5 400 [nmS 0,nmS 1,nmS 2] (pt3 c0 c1 a) (se3 c0 c1 a b c (hat c0) (hat c1) (hat a) (hat b) (hat c)) (li3 c0 c1 a b c)=true:=by
 rcases d with rfl | rfl <;> rcases e with rfl | rfl <;> rcases h2 with rfl | rfl <;> rcases f with rfl | rfl <;> rcases g with rfl | rfl <;> kernel_rfl
structure NumOk (a b c d:Int) (k:Nat):Prop where
 a0:1<=a
 a1:a<=400
 b0:1000<=b
 b1:b<=100000
 c0 : -40<=c
 c1:c<=40
 d0 : -1<=d
 d1:d<k
theorem Q3u {n:Nat} {l0 l1 l2 e:LL} {s:List UInt8} {a b c d:Int} (h:NumOk a b c d l0.length):Xc n l0 l1 l2 e s a b c d some=some true:=by
 obtain ⟨f,g,h2,i,j,k,l,m⟩:=h;unfold Xc;simp [f,g,h2,i,j,k,l,m]
def Lq (k:Nat):LL->LL->Prop
 |[],[]=>True
 |r::s,r'::s'=>(∃ nm a b c a' b' c' d,r=[D.str nm,Q5 a,Q5 b,Q5 c,Q5 d]/\r'=[D.str nm,Q5 a',Q5 b',Q5 c',Q5 d]/\NumOk a b c d k/\NumOk a' b' c' d k)/\Lq k s s'
 |_,_=>False
theorem Lq.len {k:Nat}:∀ {s s':LL},Lq k s s'->s.length=s'.length
 |[],[],_=>rfl
 |r::s,r'::s',h=>by simp [Lq.len h.2]
theorem Lq.app {k:Nat}:∀ {s s' t t':LL},Lq k s s'->Lq k t t'->Lq k (s++t) (s'++t')
 |[],[],t,t',_,h=>h
 |r::s,r'::s',t,t',h,h2=>⟨h.1,Lq.app h.2 h2⟩
theorem Lq.secT {k i:Nat} (hi:i<k):∀ {c:Nat} {x x':List Pc},JX x->JX x'->x.length=c->x'.length=c->Lq k (Y5 (secT i) c x) (Y5 (secT i) c x')
 |0,[],[],_,_,_,_=>trivial
 |c+1,a::x,a'::x',h,h',e,e'=>⟨⟨nmT i (c+1),a.1+2,a.2.1,a.2.2,a'.1+2,a'.2.1,a'.2.2,i,rfl,rfl,
   ⟨by have:=h.1.a0;omega,by have:=h.1.a1;omega,by have:=h.1.b0;omega,by have:=h.1.b1;omega,by have:=h.1.c0;omega,by have:=h.1.c1;omega,by omega,by omega⟩,
   ⟨by have:=h'.1.a0;omega,by have:=h'.1.a1;omega,by have:=h'.1.b0;omega,by have:=h'.1.b1;omega,by have:=h'.1.c0;omega,by have:=h'.1.c1;omega,by omega,by omega⟩⟩,Lq.secT hi h.2 h'.2 (by simpa using e) (by simpa using e')⟩
theorem Lq.secL {k i:Nat}:∀ {c:Nat} {x x':List Pc},JX x->JX x'->x.length=c->x'.length=c->Lq k (Y5 (secL i) c x) (Y5 (secL i) c x')
 |0,[],[],_,_,_,_=>trivial
 |c+1,a::x,a'::x',h,h',e,e'=>⟨⟨nmL i (c+1),a.1,a.2.1,a.2.2,a'.1,a'.2.1,a'.2.2,-1,rfl,rfl,
   ⟨by have:=h.1.a0;omega,by have:=h.1.a1;omega,by have:=h.1.b0;omega,by have:=h.1.b1;omega,by have:=h.1.c0;omega,by have:=h.1.c1;omega,by omega,by omega⟩,
   ⟨by have:=h'.1.a0;omega,by have:=h'.1.a1;omega,by have:=h'.1.b0;omega,by have:=h'.1.b1;omega,by have:=h'.1.c0;omega,by have:=h'.1.c1;omega,by omega,by omega⟩⟩,Lq.secL h.2 h'.2 (by simpa using e) (by simpa using e')⟩
theorem GG:∀ c,JX (hat c)
 |0=>trivial
 |c+1=>⟨⟨by decide,by decide,by decide,by decide,by decide,by decide⟩,GG c⟩
theorem Sa (c:Nat):(hat c).length=c:=by simp [hat]
theorem Lm {n:Nat} {l0 l1 L L' e:LL}:∀ {s s':LL} {ak:List (List UInt8)},Lq l0.length s s'->H4 n l0 l1 L e ak s=H4 n l0 l1 L' e ak s'
 |[],[],ak,_=>rfl
 |r::s,r'::s',ak,h=>by
  obtain ⟨⟨nm,a,b,c,a',b',c',d,rfl,rfl,f,h2⟩,g⟩:=h;show (Q7z n ak nm&&Q7H (Xc n l0 l1 L e nm a b c d some)&&H4 n l0 l1 L e (nm::ak) s)=(Q7z n ak nm&&Q7H (Xc n l0 l1 L' e nm a' b' c' d some)&&H4 n l0 l1 L' e (nm::ak) s');rw [Q3u f,Q3u h2,Lm g]
theorem RP {n:Nat} {l0 l1 L L' c:LL} (h:L.length=L'.length):∀ {t:LL} {st:List LL},JV n l0 l1 L c st t=JV n l0 l1 L' c st t
 |[],st=>rfl
 |r::t,st=>by
  unfold JV;split
  ·rename_i a ae b be p q;have e:XQ n l0 l1 L c a ae b be p q some=XQ n l0 l1 L' c a ae b be p q some:=by unfold XQ;rw [h]
   rw [e,h];split
   ·rw [RP h]
   ·rfl
  ·rfl
theorem CF {n:Nat} {l0 l1 L L' a:LL} (h:Lq l0.length L L'):H5 n l0 l1 L a=H5 n l0 l1 L' a:=by
 unfold H5;rw [h.len,Lm h,RP h.len]
theorem sr2 {c0 c1 a:Nat} {b c d:List Pc} (e:JX b) (f:JX c) (g:JX d) (h:b.length=c0) (e1:c.length=c1) (e2:d.length=a):Lq 2 (se2 c0 c1 a b c d) (se2 c0 c1 a (hat c0) (hat c1) (hat a)):=
 .app (.app (.secT (by decide) e (GG _) h (Sa _)) (.secT (by decide) f (GG _) e1 (Sa _))) (.secL g (GG _) e2 (Sa _))
theorem sr3 {c0 c1 a b c:Nat} {d e f g h:List Pc} (i:JX d) (j:JX e) (k:JX f) (l:JX g) (m:JX h) (n:d.length=c0) (e1:e.length=c1) (e2:f.length=a) (o:g.length=b) (p:h.length=c):Lq 3 (se3 c0 c1 a b c d e f g h) (se3 c0 c1 a b c (hat c0) (hat c1) (hat a) (hat b) (hat c)):=
 .app (.app (.app (.app (.secT (by decide) i (GG _) n (Sa _)) (.secT (by decide) j (GG _) e1 (Sa _))) (.secT (by decide) k (GG _) e2 (Sa _))) (.secL l (GG _) o (Sa _))) (.secL m (GG _) p (Sa _))
theorem Qct {c0 c1 a:Nat} {b c d:List Pc} (e:c0=1\/c0=2) (f:c1=1\/c1=2) (h2:a=1\/a=2) (g:JX b) (h:JX c) (i:JX d) (j:b.length=c0) (e1:c.length=c1) (e2:d.length=a) :
  H5 400 [nmS 0,nmS 1] (pt2 c0 c1) (se2 c0 c1 a b c d) (li2 c0 c1 a)=true:=by
 rw [<- ok2 e f h2];exact CF (sr2 g h i j e1 e2)
theorem QcL {c0 c1 a b c:Nat} {d e f g h:List Pc} (i:c0=1\/c0=2) (j:c1=1\/c1=2) (h2:a=1\/a=2) (k:b=1\/b=2) (l:c=1\/c=2) (m:JX d) (n:JX e) (o:JX f) (p:JX g) (q:JX h) (r:d.length=c0) (e1:e.length=c1) (e2:f.length=a) (s:g.length=b) (t:h.length=c) :
  H5 400 [nmS 0,nmS 1,nmS 2] (pt3 c0 c1 a) (se3 c0 c1 a b c d e f g h) (li3 c0 c1 a b c)=true:=by
 rw [<- ok3 i j h2 k l];exact CF (sr3 m n o p q r e1 e2 s t)

end Go.Vx
namespace Go.Vx
variable {R:Type}
def Pi (n:Nat) (d e c f:LL) (a b:Int) (K:Bool->oP R):oP R:= K (bif (bif decide (a>=0) then (decide (a<(c.length:Int))) else false) then (bif (b == 0) then true else (b == 1)) else false)
def Tv (n:Nat) (a b:Int) (K:Int->Int->oP R):oP R:= bif (b == 0) then K a 1 else K a 0

def R1 (n:Nat) (a b:Int) (K:Int->Int->oP R):oP R:= bif (b == 0) then K a 1 else K a 0

def Vp (n:Nat) (h:LL) (c d e f g:Int) (k0:Int->oP R) (k1:Int->Bool->oP R):Nat->Int->oP R
 | 0,_=>none
 | m+1,b=>bif decide (b<c) then gb true (Q2 h b) [] fun a=>gb true (a[0]?) oF fun o=>gb true (a[1]?) oF fun p=>gb true (a[2]?) oF fun q=>gb true (a[3]?) oF fun r=>gb true (a[4]?) oF fun s=>gb true (a[5]?) oF fun u=>gb true (pIw o) 0 fun i=>gb true (pIw p) 0 fun j=>gb true (pIw q) 0 fun k=>gb true (pIw r) 0 fun l=>bif (bif (bif ((i == d)&&(j == e)) then ((k == f)&&(l == g)) else false) then true else (bif ((i == f)&&(j == g)) then ((k == d)&&(l == e)) else false)) then gb true (pIw s) 0 fun t=>k0 t else Vp n h c d e f g k0 k1 m (wJ (b+1)) else k1 b (decide (b<c))
def Vc (n:Nat) (k l m c:LL) (f g h i:Int) (K:Int->Bool->oP R):oP R:= gb true (Tv n f g Tu2) (0,0) fun a=>gb true (R1 n h i Tu2) (0,0) fun d=>gb true (Tv n d.1 d.2 Tu2) (0,0) fun e=>Vp n c (c.length:Int) a.1 a.2 e.1 e.2 (fun j=>K j true) (fun o p=>K 0 false) n 0

def ZK (n:Nat) (c:LL) (b:Int) (d e f g:LL) (k0:oP R) (k1:Int->Bool->oP R):Nat->Int->oP R
 | 0,_=>none
 | m+1,a=>bif decide (a<b) then gb true (Q2 c a) [] fun h=>gb true (h[0]?) oF fun i=>gb true (h[1]?) oF fun j=>gb true (pIw i) 0 fun k=>gb true (pIw j) 0 fun l=>gb true (Pi n d e f g k l some) false fun o=>bif !o then k0 else ZK n c b d e f g k0 k1 m (wJ (a+1)) else k1 a (decide (a<b))
def VM (n:Nat) (e:LL) (c:Int) (k0:oP R) (k1:Int->Bool->LL->oP R):Nat->Int->LL->oP R
 | 0,_,_=>none
 | m+1,b,a=>bif decide (b<c) then gb true (Q2 e b) [] fun f=>gb true (f[0]?) oF fun g=>gb true (f[1]?) oF fun o=>gb true (pIw g) 0 fun h=>gb true (inB (a.length) h) () fun p=>gb true (a[h.toNat]?) [] fun i=>gb true (i[0]?) oF fun j=>gb true (PM j) false fun k=>bif k then k0 else gb true (pIw g) 0 fun d=>gb true (inB (a.length) d) () fun q=>gb true (a[d.toNat]?) [] fun l=>VM n e c k0 k1 m (wJ (b+1)) (List.set a d.toNat (List.set l 0 (D.bool true))) else k1 b (decide (b<c)) a
def ZC (n:Nat) (e:LL) (b:Int) (f g h i j:LL) (k0:oP R) (k1:Int->Bool->LL->oP R):Nat->Int->LL->oP R
 | 0,_,_=>none
 | m+1,a,c=>bif decide (a<b) then gb true (Q2 e a) [] fun k=>gb true (k[0]?) oF fun o=>gb true (k[1]?) oF fun p=>gb true (Q2 j a) [] fun l=>gb true (l[0]?) oF fun q=>gb true (l[1]?) oF fun r=>gb true (pIw q) 0 fun s=>gb true (pIw r) 0 fun t=>gb true (pIw o) 0 fun u=>gb true (pIw p) 0 fun v=>gb true (Vc n f g h i s t u v Tu2) (0,false) fun d=>bif (!d.2) then k0 else gb true (YD ((c.length+[[Q5 d.1]].length)*8)) () fun z=>ZC n e b f g h i j k0 k1 m (wJ (a+1)) (c++[[Q5 d.1]]) else k1 a (decide (a<b)) c
def Gb (n:Nat) (d e b f a:LL) (c:Int) (K:LL->Int->oP R):oP R:= gb true (YS n d e b f some) 0 fun j=>bif (j != 0) then K [] 1 else jn (fun (k:Bool)=>bif k then K [] 7 else jn (fun (l:Bool)=>bif l then K [] 4 else ZK n a (a.length:Int) d e b f (K [] 4) (fun o p=>gb true (bif decide (0<=(b.length:Int))&&decide ((b.length:Int)<=(b.length:Int)) then some () else none) () fun q=>gb true (YD (Int.toNat (b.length:Int)*1)) () fun r=>VM n a (a.length:Int) (K [] 5) (fun s t u=>gb true (slB (a.length) (some 1) none) (0,0) fun g=>ZC n (cut a g) ((List.length (cut a g):Nat):Int) d e b f a (K [] 11) (fun v x m=>K m 0) n 0 []) n 0 (List.replicate (Int.toNat (b.length:Int)) [D.bool false])) n 0) fun h=>bif decide (c<0) then h (decide (c<0)) else h (decide ((wJ ((a.length:Int)-c))<2))) fun i=>bif (decide ((a.length:Int)>24)) then i (decide ((a.length:Int)>24)) else i (decide (c>2))

def Kn (n:Nat) (b c d e f:LL) (g:Int) (K:Int->oP R):oP R:= gb true (Gb n b c d e f g Tu2) ([],0) fun a=>K a.2

end Go.Vx
namespace Go.Vx
def JK (s u x y:Nat) (up:Bool):LL:=
 bif up then [Q5 x,Q5 0]::((ups s u).map fun k=>[Q5 (k:Nat),Q5 0])++[[Q5 y,Q5 0]] else [Q5 y,Q5 1]::((ups s u).reverse.map fun k=>[Q5 (k:Nat),Q5 1])++[[Q5 x,Q5 1]]
theorem QR {α:Type} {r:Nat->Int->α} {N:Nat} {e:α} (hs:∀ m h,h<N->r (m+1) (h:Int)=r m ((h+1:Nat):Int)) (he:∀ m,r (m+1) (N:Int)=e):∀ (k m h:Nat),h+k=N->k<m->r m (h:Int)=e
 |0,m+1,h,hh,_=>by rw [show h=N by omega];exact he m
 |k+1,m+1,h,hh,hm=>by rw [hs m h (by omega)];exact QR hs he k m (h+1) (by omega) (by omega)
section
variable {R:Type} {n:Nat} {a b a' b' L L' d:LL} (h:L.length=L'.length)
include h
theorem Q9v {s:LL} {w:Int} {k0:oP R} {k1:Int->Bool->oP R}:∀ (m:Nat) (i:Int),ZK n s w a b L d k0 k1 m i=ZK n s w a' b' L' d k0 k1 m i
 |0,_=>rfl
 |m+1,i=>by
  unfold ZK;simp only [Pi,h,Q9v m]
omit h in
theorem Qbw {x y z t:Int} {K:Int->Bool->oP R}:Vc n a b L d x y z t K=Vc n a' b' L' d x y z t K:=rfl
omit h in
theorem QaJ {q s:LL} {w:Int} {k0:oP R} {k1:Int->Bool->LL->oP R}:∀ (m:Nat) (i:Int) (p:LL),ZC n q w a b L d s k0 k1 m i p=ZC n q w a' b' L' d s k0 k1 m i p
 |0,_,_=>rfl
 |m+1,i,p=>by
  unfold ZC;simp only [Qbw (a:=a) (b:=b) (L:=L) (a':=a') (b':=b') (L':=L'),QaJ m]
end
def Q5o (St Pt L d s:LL):Option (LL × Int):=
 ZK 400 s ((List.length s:Nat):Int) St Pt L d (some ([],4))
  (fun _ _=>
  gb true (bif decide (0<=((List.length L:Nat):Int))&&decide (((List.length L:Nat):Int)<=((List.length L:Nat):Int)) then some () else none) () fun c=>
  gb true (YD (Int.toNat ((List.length L:Nat):Int)*1)) () fun e=>
  VM 400 s ((List.length s:Nat):Int) (some ([],5))
   (fun _ _ _=>
   gb true (slB (List.length s) (some (1:Int)) none) (0,0) fun a=>
   ZC 400 (cut s a) ((List.length (cut s a):Nat):Int) St Pt L d s (some ([],11)) (fun _ _ b=>some (b,0)) 400 (0:Int) [])
   400 (0:Int) (List.replicate (Int.toNat ((List.length L:Nat):Int)) [D.bool false]))
  400 (0:Int)
def rtB (N:Nat) (Li s:LL):Bool:=match Q5o [] [] (List.replicate N []) Li s with
 |some (_,e)=>e == 0
 |none=>false
theorem Q5x {St Pt Se Li s:LL} {N:Nat} (ak:H5 400 St Pt Se Li=true) (hN:Se.length=N) (h2:2<=s.length) (g:s.length<=24) (hr:rtB N Li s=true) :
  ∃ am,Gb 400 St Pt Se Li s 0 Tu2=some (am,0):=by
 have hc:YS 400 St Pt Se Li (some:Int->Option Int)=some 0:=by unfold YS;rw [ak];rfl
 have hL:Se.length=(List.replicate N ([]:List D)).length:=by simp [hN]
 have e:Gb 400 St Pt Se Li s 0 Tu2=Q5o [] [] (List.replicate N []) Li s:=by
  unfold Gb;rw [hc,Q0,Q8 (by decide)];dsimp only [jn];rw [Q8 (c:=decide (((List.length s:Nat):Int)>24)) (by simp;omega),Q8 (c:=decide ((0:Int)>2)) (by decide),Q8 (c:=decide ((0:Int)<0)) (by decide),Q8 (c:=decide (wJ (((List.length s:Nat):Int)-0)<2)) (by rw [Qf (by omega) (by omega)];simp;omega)];unfold Q5o;simp only [QaJ (a:=St) (b:=Pt) (L:=Se) (a':=[]) (b':=[]) (L':=List.replicate N []),Q9v (a:=St) (b:=Pt) (L:=Se) (a':=[]) (b':=[]) (L':=List.replicate N []) hL,hL]
 rw [e];unfold rtB at hr;split at hr
 ·rename_i p e' hh;simp only [beq_iff_eq] at hr;subst hr;exact ⟨p,hh⟩
 ·cases hr
theorem Q2B {R:Type} {St Pt Se Li s:LL} {N:Nat} (ak:H5 400 St Pt Se Li=true) (hN:Se.length=N) (h2:2<=s.length) (a:s.length<=24) (hr:rtB N Li s=true) (K:Int->oP R):Kn 400 St Pt Se Li s 0 K=K 0:=by
 obtain ⟨p,e⟩:=Q5x ak hN h2 a hr;unfold Kn;rw [e,Q0]
def Q7A (N:Nat) (Li:LL) (s u k c k' c':Nat):Bool:=
 (ups k c).all fun x=>(ups k' c').all fun y=>rtB N Li (JK s u x y true)&&rtB N Li (JK s u x y false)
theorem QcB {c0 c1 a:Nat} (b:c0=1\/c0=2) (c:c1=1\/c1=2) (h2:a=1\/a=2):Q7A (c0+c1+a) (li2 c0 c1 a) (c0+c1) a 0 c0 c0 c1=true:=by
 rcases b with rfl | rfl <;> rcases c with rfl | rfl <;> rcases h2 with rfl | rfl <;> kernel_rfl
theorem QcE {c0 c1 a b c:Nat} (d:c0=1\/c0=2) (e:c1=1\/c1=2) (h2:a=1\/a=2) (f:b=1\/b=2) (g:c=1\/c=2) :
  (Q7A (c0+c1+a+b+c) (li3 c0 c1 a b c) (c0+c1+a) b 0 c0 c0 c1&&Q7A (c0+c1+a+b+c) (li3 c0 c1 a b c) (c0+c1+a+b) c c0 c1 (c0+c1) a)=true:=by
 rcases d with rfl | rfl <;> rcases e with rfl | rfl <;> rcases h2 with rfl | rfl <;> rcases f with rfl | rfl <;> rcases g with rfl | rfl <;> kernel_rfl
end Go.Vx
namespace Go.Vx
variable {R:Type}
def Qb (n:Nat) (a0:LL) (a1:Int) (K:LL->oP R):oP R:= bif Nat.beq a0.length 1&&decide (0<=a1)&&decide (a1<=100000) then K (List.replicate a1.toNat (a0.headD [])) else none
def Zf (n:Nat) (e:LL) (d:Int) (f:LL) (k0:Int->Bool->LL->oP R):Nat->Int->LL->oP R
 | 0,_,_=>none
 | m+1,a,b=>bif decide (a<d) then gb true (Q2 e a) [] fun g=>gb true (g[0]?) oF fun o=>gb true (g[1]?) oF fun p=>gb true (pIw o) 0 fun q=>gb true (Q2 f q) [] fun c=>gb true (c[0]?) oF fun x=>gb true (c[1]?) oF fun h=>gb true (c[2]?) oF fun r=>gb true (c[3]?) oF fun s=>gb true (c[4]?) oF fun y=>gb true (pIw r) 0 fun i=>gb true (pIw s) 0 fun j=>gb true (pIw p) 0 fun t=>bif (t == 1) then gb true (pIw h) 0 fun u=>gb true (Qb n [[Q5 i,Q5 (wJ (0-j))]] u some) [] fun k=>gb true (YD ((b.length+k.length)*16)) () fun z=>Zf n e d f k0 m (wJ (a+1)) (b++k) else gb true (pIw h) 0 fun v=>gb true (Qb n [[Q5 i,Q5 j]] v some) [] fun l=>gb true (YD ((b.length+l.length)*16)) () fun aa=>Zf n e d f k0 m (wJ (a+1)) (b++l) else k0 a (decide (a<d)) b
def T6 (n:Nat) (f g b h a:LL) (c:Int) (K:LL->Int->Int->oP R):oP R:= gb true (Kn n f g b h a c some) 0 fun d=>bif (d != 0) then K [] 0 d else gb true (slB (a.length) none (some (wJ ((a.length:Int)-c)))) (0,0) fun q2=>Zf n (cut a q2) ((List.length (cut a q2):Nat):Int) b (fun o p e=>bif (decide ((e.length:Int)>4000)) then K [] 0 7 else gb true (Q2 a 0) [] fun i=>gb true (i[0]?) oF fun j=>gb true (pIw j) 0 fun k=>gb true (Q2 b k) [] fun l=>gb true (l[1]?) oF fun m=>gb true (pIw m) 0 fun i64=>K e i64 0) n 0 []

def Wo (n:Nat) (e:List UInt8) (a b c d:Int) (K:Bool->oP R):oP R:= K (bif (bif (bif (bif (bif (bif (bif decide (a>=1) then (decide (a<=40)) else false) then (decide (b>=1000)) else false) then (decide (b<=100000)) else false) then (decide (c>=100)) else false) then (decide (c<=2000)) else false) then (decide (d>=100)) else false) then (decide (d<=2000)) else false)

def We (n:Nat) (a:LL) (b:Int) (K:LL->oP R):oP R:= gb true (slB (a.length) none (some (wJ ((a.length:Int)-b)))) (0,0) fun q1=>K (cut a q1)

def ZE (n:Nat) (d:LL) (b:Int) (e:LL) (c:Int) (k0:oP R) (k1:Int->Bool->oP R):Nat->Int->oP R
 | 0,_=>none
 | m+1,a=>bif decide (a<b) then gb true (Q2 d a) [] fun f=>gb true (f[0]?) oF fun g=>gb true (f[1]?) oF fun l=>gb true (pIw g) 0 fun h=>gb true (Q2 e h) [] fun i=>gb true (i[1]?) oF fun j=>gb true (pIw j) 0 fun k=>bif (decide (k<(if 2<c then c else 2))) then k0 else ZE n d b e c k0 k1 m (wJ (a+1)) else k1 a (decide (a<b))
def Ga (n:Nat) (h i c j d:LL) (e:Int) (k:List UInt8) (f l m o:Int) (K:LL->Int->Int->oP R):oP R:= gb true (T6 n h i c j d e Tu3) ([],0,0) fun a=>bif (a.2.2 != 0) then K [] 0 a.2.2 else gb true (Wo n k f l m o some) false fun b=>bif !b then K [] 0 1 else gb true (We n d e some) [] fun g=>ZE n g (g.length:Int) c f (K [] 0 12) (fun q r=>K a.1 a.2.1 0) n 0

def VI (n:Nat) (b c d e f:LL) (g:Int) (h:List UInt8) (i j k l:Int) (K:Int->oP R):oP R:= gb true (Ga n b c d e f g h i j k l Tu3) ([],0,0) fun a=>K a.2.2

end Go.Vx
namespace Go.Vx
structure SecN (a b c:Int):Prop where
 a0:2<=a
 a1:a<=12
 b0:5000<=b
 b1:b<=35000
 c0 : -10<=c
 c1:c<=10
def Fa (Se:LL) (row:List D):Prop:=∃ (x d:Int) (nm:List UInt8) (a b c st:Int),row=[Q5 x,Q5 d]/\Q2 Se x=some [D.str nm,Q5 a,Q5 b,Q5 c,Q5 st]/\SecN a b c/\(d=0\/d=1)
def HH (Se:LL):List D->LL
 |[.int _ x,.int _ d]=>match Q2 Se x with
  |some [_,.int _ a,.int _ b,.int _ c,_]=>List.replicate a.toNat [Q5 b,Q5 (bif d == 1 then -c else c)]
  |_=>[]
 |_=>[]
def XS (Se s:LL):LL:=s.flatMap (HH Se)
theorem Gd {Se:LL} {x d a b c st:Int} {nm:List UInt8} (h:Q2 Se x=some [D.str nm,Q5 a,Q5 b,Q5 c,Q5 st]):HH Se [Q5 x,Q5 d]=List.replicate a.toNat [Q5 b,Q5 (bif d == 1 then -c else c)]:=by
 simp only [HH,h]
theorem Uc {α:Type} {l:List α} {h:Nat} {a:α} (e:l[h]? = some a):l.take (h+1)=l.take h++[a]:=by rw [List.take_add_one,e];rfl
theorem Su {Se s:LL} {h:Nat} {row:List D} (e:s[h]? = some row):XS Se (s.take (h+1))=XS Se (s.take h)++HH Se row:=by
 rw [Uc e];simp [XS]
theorem Hl {Se:LL}:∀ {s:LL},(∀ row∈s,Fa Se row)->(XS Se s).length<=12*s.length/\2*s.length<=(XS Se s).length
 |[],_=>by simp [XS]
 |row::s,h=>by
  obtain ⟨x,d,nm,a,b,c,st,rfl,hs,hn,_⟩:=h _ (List.mem_cons_self ..);have e:=Hl fun r hr=>h r (List.mem_cons_of_mem _ hr)
  have h2:=hn.a0;have f:=hn.a1;simp only [XS,List.flatMap_cons,Gd hs,List.length_append,List.length_replicate,List.length_cons] at e ⊢;omega
section
variable {R:Type} {n:Nat}
theorem Qcu {a:Int} {x y:D} (b:0<=a) (c:a<=100000) (K:LL->oP R):Qb n [[x,y]] a K=K (List.replicate a.toNat [x,y]):=by
 unfold Qb;rw [QJ (by simp [b,c])];rfl
theorem Q6U {Se s:LL} {k0:Int->Bool->LL->oP R} (hs:∀ row∈s,Fa Se row) (hl:s.length<=30):∀ {m:Nat},s.length<m->Zf n s ((s.length:Nat):Int) Se k0 m 0 []=k0 ((s.length:Nat):Int) false (XS Se s):=by
 intro m hm;have hc:=fun h:Nat=>(Hl (s:=s.take h) fun r hr=>hs r (List.mem_of_mem_take hr)).1
 refine QR (r:=fun m h=>Zf n s ((s.length:Nat):Int) Se k0 m h (XS Se (s.take h.toNat))) (N:=s.length) (fun m h hh=>?_) (fun m=>?_) s.length m 0 (by omega) hm
 ·have e:=QdT hh;obtain ⟨x,d,nm,a,b,c,st,hx,am,hn,hd⟩:=hs _ (QdZ hh);rw [hx] at e;have a0:=hn.a0;have a1:=hn.a1;have ao:=hc h;simp only [Int.toNat_natCast,Su e,Gd am];simp only [List.length_take] at ao;rw [Zf,QJ (by simpa using hh),show Q2 s (h:Int)=some [Q5 x,Q5 d] by simp [Q2,e],Q0];dsimp only [List.getElem?_cons_zero,List.getElem?_cons_succ];rw [Q0,Q0,Q1,Q0,am,Q0];dsimp only [List.getElem?_cons_zero,List.getElem?_cons_succ];have ak:∀ r:List D,YD (((XS Se (s.take h)).length+(List.replicate a.toNat r).length)*16)=some ():=fun r=>XR (by simp only [List.length_replicate];omega)
  simp -implicitDefEqProofs only [Q0,Q1,Qcu (show (0:Int)<=a by omega) (show a<=100000 by omega),ak];rw [Qf (x:=(h:Int)+1) (by omega) (by omega),show (h:Int)+1=((h+1:Nat):Int) by omega,Qf (x:=0-c) (by have:=hn.c1;omega) (by have:=hn.c0;omega),Int.zero_sub];cases f:d == (1:Int) <;> rfl
 ·simp only [Int.toNat_natCast];rw [Zf,Q8 (by simp),List.take_length];simp
theorem Q67 {s:LL} (h:s.length<=1000):slB s.length none (some (wJ (((s.length:Nat):Int)-(0:Int))))=some (0,s.length)/\cut s (0,s.length)=s:=by
 rw [Qf (by omega) (by omega)];constructor
 ·simp [slB]
 ·simp [cut]
def GR (Se s:LL):Int:=match s with
 |[.int _ x,_]::_=>match Q2 Se x with
  |some [_,.int _ a,_,_,_]=>a
  |_=>0
 |_=>0
theorem Qa4 {St Pt Se Li s:LL} {N:Nat} (ak:H5 400 St Pt Se Li=true) (hN:Se.length=N) (h2:2<=s.length) (e:s.length<=24) (hr:rtB N Li s=true) (ho:∀ row∈s,Fa Se row) (K:LL->Int->Int->oP R) :
  T6 400 St Pt Se Li s 0 K=K (XS Se s) (GR Se s) 0:=by
 have hl:=(Hl ho).1;obtain ⟨row,rest,rfl⟩:∃ row rest,s=row::rest:=by
  cases s with
  |nil=>simp at h2
  |cons a b=>exact ⟨a,b,rfl⟩
 obtain ⟨x,d,nm,a,b,c,st,rfl,hs,_,_⟩:=ho row (by simp);have hf:GR Se ([Q5 x,Q5 d]::rest)=a:=by simp only [GR,hs]
 generalize hS:[Q5 x,Q5 d]::rest=s at *
 obtain ⟨e1,e2⟩:=Q67 (s:=s) (by omega);unfold T6;rw [Q2B ak hN h2 e hr,Q0,Q8 (by decide),e1,Q0,e2,Q6U ho (by omega) (by omega),Q8 (by simp;omega),show Q2 s (0:Int)=some [Q5 x,Q5 d] by rw [<- hS];rfl,Q0];dsimp only [List.getElem?_cons_zero,List.getElem?_cons_succ];rw [Q0,Q1,Q0,hs,Q0];dsimp only [List.getElem?_cons_zero,List.getElem?_cons_succ];rw [Q0,Q1,Q0,hf]
theorem QaG {Se s:LL} {tl:Int} {k0:oP R} {k1:Int->Bool->oP R} (ht:tl<=2) (hb:s.length<=30) (hs:∀ row∈s,Fa Se row) {m:Nat} (hm:s.length<m) :
  ZE n s ((s.length:Nat):Int) Se tl k0 k1 m 0=k1 (s.length:Int) false:=by
 refine QR (r:=fun m h=>ZE n s ((s.length:Nat):Int) Se tl k0 k1 m h) (N:=s.length) (fun m h hh=>?_) (fun m=>?_) s.length m 0 (by omega) hm
 ·obtain ⟨x,d,an,a,b,c,st,hx,ak,hn,_⟩:=hs _ (QdZ hh);have a0:=hn.a0;rw [ZE,QJ (by simpa using hh),show Q2 s (h:Int)=some [Q5 x,Q5 d] by simp [Q2,QdT hh,hx],Q0];dsimp only [List.getElem?_cons_zero,List.getElem?_cons_succ];rw [Q0,Q0,Q1,Q0,ak,Q0];dsimp only [List.getElem?_cons_zero,List.getElem?_cons_succ];rw [Q0,Q1,Q0,Q8 (by simp;split <;> omega),Qf (x:=(h:Int)+1) (by omega) (by omega),show (h:Int)+1=((h+1:Nat):Int) by omega]
 ·rw [ZE,Q8 (by simp)];simp
structure StkN (tl sp ac br:Int):Prop where
 t1:1<=tl
 t2:tl<=2
 s1:10000<=sp
 s2:sp<=25000
 a1:400<=ac
 a2:ac<=800
 b1:400<=br
 b2:br<=800
theorem EN {nm:List UInt8} {tl sp ac br:Int} (h:StkN tl sp ac br) (K:Bool->oP R):Wo n nm tl sp ac br K=K true:=by
 obtain ⟨t1,t2,s1,s2,a1,a2,b1,b2⟩:=h;unfold Wo;simp [t1,show (1000:Int)<=sp by omega,show sp<=100000 by omega,show 100<=ac by omega,show ac<=2000 by omega,show 100<=br by omega,show br<=2000 by omega,show tl<=40 by omega]
theorem Cs {s:LL} (a:s.length<=24) (K:LL->oP R):We 400 s 0 K=K s:=by
 obtain ⟨e1,e2⟩:=Q67 (s:=s) (by omega);unfold We;rw [e1,Q0,e2]
theorem Qci {St Pt Se Li s:LL} {N:Nat} {nm:List UInt8} {tl sp ac br:Int} (ak:H5 400 St Pt Se Li=true) (hN:Se.length=N) (h2:2<=s.length) (a:s.length<=24) (hr:rtB N Li s=true) (ho:∀ row∈s,Fa Se row)
  (hk:StkN tl sp ac br) (K:LL->Int->Int->oP R):Ga 400 St Pt Se Li s 0 nm tl sp ac br K=K (XS Se s) (GR Se s) 0:=by
 unfold Ga;rw [Qa4 ak hN h2 a hr ho,Q0,Q8 (by rfl),EN hk,Q0,Q8 (by decide),Cs a,Q0,QaG hk.t2 (by omega) ho (by omega)]
theorem Qaw {St Pt Se Li s:LL} {N:Nat} {nm:List UInt8} {tl sp ac br:Int} (ak:H5 400 St Pt Se Li=true) (hN:Se.length=N) (h2:2<=s.length) (a:s.length<=24) (hr:rtB N Li s=true) (ho:∀ row∈s,Fa Se row)
  (hk:StkN tl sp ac br) (K:Int->oP R):VI 400 St Pt Se Li s 0 nm tl sp ac br K=K 0:=by
 unfold VI;rw [Qci ak hN h2 a hr ho hk,Q0]
end
end Go.Vx
namespace Go.Vx
variable {R:Type}
def Rw (n:Nat) (a0:Int) (K:Bool->oP R):oP R:= K (bif (bif decide (a0>=97) then (decide (a0<=122)) else false) then true else (bif decide (a0>=65) then (decide (a0<=90)) else false))
def CK (n:Nat) (a0:Int) (K:Bool->oP R):oP R:= K (bif decide (a0>=48) then (decide (a0<=57)) else false)

def Py (n:Nat) (b:List UInt8) (k0:oP R) (k1:Int->Bool->oP R):Nat->Int->oP R
 | 0,_=>none
 | m+1,a=>bif (decide (a<(b.length:Int))) then gb true (UA b a) 0 fun e=>gb true (Rw n e some) false fun c=>gb (!c) (UA b a) 0 fun f=>gb (!c) (CK n f some) false fun d=>gb (bif !c then (!d) else false) (UA b a) 0 fun g=>bif (bif (bif !c then (!d) else false) then (g != 95) else false) then k0 else Py n b k0 k1 m (wJ (a+1)) else k1 a (decide (a<(b.length:Int)))
def PN (n:Nat) (a0:List UInt8) (K:Bool->oP R):oP R:= gb (!(bif (decide ((a0.length:Int)<1)) then true else (decide ((a0.length:Int)>12)))) (UA a0 0) 0 fun a=>gb (!(bif (decide ((a0.length:Int)<1)) then true else (decide ((a0.length:Int)>12)))) (Rw n a some) false fun b=>bif (bif (bif (decide ((a0.length:Int)<1)) then true else (decide ((a0.length:Int)>12))) then true else (!b)) then K false else Py n a0 (K false) (fun c d=>K true) n 1

def Tg (n:Nat) (c:LL) (b:Int) (k0:oP R) (k1:Int->Bool->oP R):Nat->Int->oP R
 | 0,_=>none
 | m+1,a=>bif decide (a<b) then gb true (Q2 c a) [] fun d=>gb true (d[0]?) oF fun e=>gb true (Sv e) [] fun f=>gb true (Q2 c b) [] fun g=>gb true (g[0]?) oF fun h=>gb true (Sv h) [] fun i=>bif (f == i) then k0 else Tg n c b k0 k1 m (wJ (a+1)) else k1 a (decide (a<b))
def Sf (n:Nat) (a0:LL) (a1:Int) (K:Int->oP R):oP R:= gb true (Q2 a0 a1) [] fun a=>gb true (a[0]?) oF fun b=>gb true (Sv b) [] fun c=>gb true (PN n c some) false fun d=>bif !d then K 3 else Tg n a0 a1 (K 5) (fun e f=>K 0) n 0

def Yf (n:Nat) (b:LL) (k0:Int->Bool->LL->oP R):Nat->Int->LL->oP R
 | 0,_,_=>none
 | m+1,a,c=>bif (decide (a<(b.length:Int))) then gb true (Q2 b a) [] fun e=>gb true (e[0]?) oF fun f=>gb true (Sv f) [] fun d=>gb true (YD ((c.length+[[D.str d]].length)*16)) () fun g=>Yf n b k0 m (wJ (a+1)) (c++[[D.str d]]) else k0 a (decide (a<(b.length:Int))) c
def JQ (n:Nat) (c d a e:LL) (K:LL->oP R):oP R:= Yf n a (fun f g b=>K b) n 0 []

def Jx (n:Nat) (a0 a1 a2:Int) (K:Bool->oP R):oP R:= K (bif decide (a0>=a1) then (decide (a0<=a2)) else false)

def FQ (n:Nat) (c d e f g h a b:Int) (K:Bool->oP R):oP R:= K (bif (bif (c == a) then (d == b) else false) then true else (bif (e == a) then (f == b) else false))

def KP (n:Nat) (d:Int) (e:LL) (f g:Int) (k0:Int->Int->Bool->D->D->D->D->D->D->oP R):Nat->Int->Int->D->D->D->D->D->D->oP R
 | 0,_,_,_,_,_,_,_,_=>none
 | m+1,h,a,i,j,k,l,o,p=>bif decide (a<d) then gb true (Q2 e a) [] fun b=>gb true (b[0]?) oF fun q=>gb true (b[1]?) oF fun r=>gb true (b[2]?) oF fun s=>gb true (b[3]?) oF fun t=>gb true (b[4]?) oF fun u=>gb true (b[5]?) oF fun v=>gb true (pIw q) 0 fun x=>gb true (pIw r) 0 fun y=>gb true (pIw s) 0 fun z=>gb true (pIw t) 0 fun aa=>gb true (pIw u) 0 fun ab=>gb true (pIw v) 0 fun ac=>gb true (FQ n x y z aa ab ac f g some) false fun ad=>bif ad then gb true (Q2 e a) [] fun c=>gb true (c[0]?) oF fun ae=>gb true (c[1]?) oF fun ag=>gb true (c[2]?) oF fun ah=>gb true (c[3]?) oF fun ai=>gb true (c[4]?) oF fun aj=>gb true (c[5]?) oF fun ak=>KP n d e f g k0 m (wJ (h+1)) (wJ (a+1)) ae ag ah ai aj ak else KP n d e f g k0 m h (wJ (a+1)) i j k l o p else k0 h a (decide (a<d)) i j k l o p
def Ep (n:Nat) (p q r f:LL) (a1 h i:Int) (K:Bool->oP R):oP R:= gb true (Q2 f a1) [] fun b=>gb true (b[0]?) oF fun s=>gb true (b[1]?) oF fun t=>gb true (b[2]?) oF fun u=>gb true (b[3]?) oF fun v=>gb true (b[4]?) oF fun g=>gb true (b[5]?) oF fun j=>KP n a1 f h i (fun a x y z aa ab ac k l=>gb ((!(a == 0))&&(a == 1)) (pIw g) 0 fun c=>gb ((!(a == 0))&&(bif (a == 1) then (decide (c>=0)) else false)) (pIw k) 0 fun d=>gb ((!(a == 0))&&(bif (a == 1) then (decide (c>=0)) else false)) (pIw g) 0 fun e=>gb ((!(a == 0))&&(bif (bif (a == 1) then (decide (c>=0)) else false) then (d == e) else false)) (pIw l) 0 fun m=>gb ((!(a == 0))&&(bif (bif (a == 1) then (decide (c>=0)) else false) then (d == e) else false)) (pIw j) 0 fun o=>K (bif (a == 0) then true else (bif (bif (bif (a == 1) then (decide (c>=0)) else false) then (d == e) else false) then (m != o) else false))) n 0 0 (Q5 0) (Q5 0) (Q5 0) (Q5 0) (Q5 0) (Q5 0)

def JN (n:Nat) (e:Int) (f:LL) (g h i j:Int) (k0:oP R) (k1:Int->Bool->oP R):Nat->Int->oP R
 | 0,_=>none
 | m+1,b=>bif decide (b<e) then gb true (Q2 f b) [] fun c=>gb true (c[0]?) oF fun k=>gb true (c[1]?) oF fun l=>gb true (c[2]?) oF fun o=>gb true (c[3]?) oF fun p=>gb true (c[4]?) oF fun q=>gb true (c[5]?) oF fun r=>gb true (pIw k) 0 fun s=>gb true (pIw l) 0 fun t=>gb true (pIw o) 0 fun u=>gb true (pIw p) 0 fun v=>gb true (pIw q) 0 fun x=>gb true (pIw r) 0 fun y=>gb true (FQ n s t u v x y g h some) false fun a=>gb a (Q2 f b) [] fun d=>gb a (d[0]?) oF fun z=>gb a (d[1]?) oF fun aa=>gb a (d[2]?) oF fun ab=>gb a (d[3]?) oF fun ac=>gb a (d[4]?) oF fun ad=>gb a (d[5]?) oF fun ae=>gb a (pIw z) 0 fun ag=>gb a (pIw aa) 0 fun ah=>gb a (pIw ab) 0 fun ai=>gb a (pIw ac) 0 fun aj=>gb a (pIw ad) 0 fun ak=>gb a (pIw ae) 0 fun al=>gb a (FQ n ag ah ai aj ak al i j some) false fun am=>bif (bif a then am else false) then k0 else JN n e f g h i j k0 k1 m (wJ (b+1)) else k1 b (decide (b<e))
def Va (n:Nat) (p i g h:LL) (a1:Int) (K:Int->oP R):oP R:= gb true (Q2 h a1) [] fun e=>gb true (e[0]?) oF fun q=>gb true (e[1]?) oF fun r=>gb true (e[2]?) oF fun s=>gb true (e[3]?) oF fun t=>gb true (e[4]?) oF fun u=>gb true (e[5]?) oF fun v=>gb true (pIw q) 0 fun z=>gb true (Jx n z 0 (wJ ((g.length:Int)-1)) some) false fun a=>gb (!(!a)) (pIw s) 0 fun aa=>gb (!(!a)) (Jx n aa 0 (wJ ((g.length:Int)-1)) some) false fun b=>gb (!(bif !a then true else (!b))) (pIw r) 0 fun ab=>gb (!(bif !a then true else (!b))) (Jx n ab 0 1 some) false fun c=>gb (!(bif (bif !a then true else (!b)) then true else (!c))) (pIw t) 0 fun ac=>gb (!(bif (bif !a then true else (!b)) then true else (!c))) (Jx n ac 0 1 some) false fun d=>gb (!(bif (bif (bif !a then true else (!b)) then true else (!c)) then true else (!d))) (pIw u) 0 fun ad=>gb (!(bif (bif (bif !a then true else (!b)) then true else (!c)) then true else (!d))) (Jx n ad (-1:Int) (wJ ((i.length:Int)-1)) some) false fun f=>gb (!(bif (bif (bif (bif !a then true else (!b)) then true else (!c)) then true else (!d)) then true else (!f))) (pIw v) 0 fun ae=>gb (!(bif (bif (bif (bif !a then true else (!b)) then true else (!c)) then true else (!d)) then true else (!f))) (Jx n ae 0 1 some) false fun j=>gb (!(bif (bif (bif (bif (bif !a then true else (!b)) then true else (!c)) then true else (!d)) then true else (!f)) then true else (!j))) (pIw u) 0 fun x=>gb ((!(bif (bif (bif (bif (bif !a then true else (!b)) then true else (!c)) then true else (!d)) then true else (!f)) then true else (!j)))&&(decide (x<0))) (pIw v) 0 fun ag=>bif (bif (bif (bif (bif (bif (bif !a then true else (!b)) then true else (!c)) then true else (!d)) then true else (!f)) then true else (!j)) then true else (bif decide (x<0) then (ag != 0) else false)) then K 4 else gb true (pIw q) 0 fun k=>gb true (pIw r) 0 fun l=>gb true (pIw s) 0 fun m=>gb true (pIw t) 0 fun o=>bif ((k == m)&&(l == o)) then K 1 else JN n a1 h k l m o (K 5) (fun ai aj=>gb true (Ep n p i g h a1 k l some) false fun y=>gb (!(!y)) (Ep n p i g h a1 m o some) false fun ah=>bif (bif !y then true else (!ah)) then K 11 else K 0) n 0

def Td (n:Nat) (h2:LL) (k0:Int->oP R) (k1:Int->Bool->oP R):Nat->Int->oP R
 | 0,_=>none
 | m+1,a=>bif (decide (a<(h2.length:Int))) then gb true (Sf n h2 a some) 0 fun b=>bif (b != 0) then k0 b else Td n h2 k0 k1 m (wJ (a+1)) else k1 a (decide (a<(h2.length:Int)))
def Ti (n:Nat) (b:LL) (k0:Int->oP R) (k1:Int->Bool->oP R):Nat->Int->oP R
 | 0,_=>none
 | m+1,a=>bif (decide (a<(b.length:Int))) then gb true (Sf n b a some) 0 fun c=>bif (c != 0) then k0 c else Ti n b k0 k1 m (wJ (a+1)) else k1 a (decide (a<(b.length:Int)))
def UM (n:Nat) (g h e:LL) (k0:Int->oP R) (k1:Int->Bool->oP R):Nat->Int->oP R
 | 0,_=>none
 | m+1,b=>bif (decide (b<(e.length:Int))) then gb true (Sf n g b some) 0 fun i=>bif (i != 0) then k0 i else gb true (Q2 e b) [] fun c=>gb true (c[0]?) oF fun u=>gb true (c[1]?) oF fun j=>gb true (c[2]?) oF fun k=>gb true (c[3]?) oF fun l=>gb true (c[4]?) oF fun o=>gb true (pIw j) 0 fun p=>gb true (Jx n p 1 400 some) false fun a=>gb (!(!a)) (pIw k) 0 fun q=>gb (!(!a)) (Jx n q 1000 100000 some) false fun d=>gb (!(bif !a then true else (!d))) (pIw l) 0 fun r=>gb (!(bif !a then true else (!d))) (Jx n r (-40:Int) 40 some) false fun f=>gb (!(bif (bif !a then true else (!d)) then true else (!f))) (pIw o) 0 fun s=>gb (!(bif (bif !a then true else (!d)) then true else (!f))) (Jx n s (-1:Int) (wJ ((h.length:Int)-1)) some) false fun t=>bif (bif (bif (bif !a then true else (!d)) then true else (!f)) then true else (!t)) then k0 4 else UM n g h e k0 k1 m (wJ (b+1)) else k1 b (decide (b<(e.length:Int)))
def UF (n:Nat) (c d e b:LL) (k0:Int->oP R) (k1:Int->Bool->oP R):Nat->Int->oP R
 | 0,_=>none
 | m+1,a=>bif (decide (a<(b.length:Int))) then gb true (Va n c d e b a some) 0 fun f=>bif (f != 0) then k0 f else UF n c d e b k0 k1 m (wJ (a+1)) else k1 a (decide (a<(b.length:Int)))
def Vr (n:Nat) (a c b d:LL) (K:Int->oP R):oP R:= bif (bif (bif (bif (decide ((a.length:Int)>24)) then true else (decide ((c.length:Int)>48))) then true else (decide ((b.length:Int)>96))) then true else (decide ((d.length:Int)>192))) then K 7 else bif ((b.length:Int) == 0) then K 1 else Td n a (fun e=>K e) (fun j k=>Ti n c (fun f=>K f) (fun l m=>gb true (JQ n a c b d some) [] fun g=>UM n g a b (fun h=>K h) (fun o p=>UF n a c b d (fun i=>K i) (fun q r=>K 0) n 0) n 0) n 0) n 0

def Gm (n:Nat) (a0 a1 a2:Int) (K:Bool->oP R):oP R:= K (bif decide (a0>=a1) then (decide (a0<=a2)) else false)

def YG (n:Nat) (c:LL) (b d:Int) (k0:Int->Bool->LL->oP R):Nat->Int->LL->oP R
 | 0,_,_=>none
 | m+1,h2,a=>bif (decide (h2<(c.length:Int))) then gb true (Q2 c h2) [] fun e=>gb true (e[0]?) oF fun i=>gb true (e[1]?) oF fun j=>gb true (e[2]?) oF fun k=>gb true (e[3]?) oF fun l=>gb true (e[4]?) oF fun g=>gb true (e[5]?) oF fun h=>jn (fun (f aa:Int)=>bif decide (f>=0) then bif (aa == 1) then gb true (pIw g) 0 fun o=>gb true (pIw h) 0 fun p=>gb true (YD ((a.length+[[Q5 f,Q5 1,Q5 o,Q5 p]].length)*32)) () fun ai=>YG n c b d k0 m (wJ (h2+1)) (a++[[Q5 f,Q5 1,Q5 o,Q5 p]]) else gb true (pIw g) 0 fun q=>gb true (pIw h) 0 fun r=>gb true (YD ((a.length+[[Q5 f,Q5 0,Q5 q,Q5 r]].length)*32)) () fun aj=>YG n c b d k0 m (wJ (h2+1)) (a++[[Q5 f,Q5 0,Q5 q,Q5 r]]) else YG n c b d k0 m (wJ (h2+1)) a) fun s=>gb true (pIw i) 0 fun t=>gb (t == b) (pIw j) 0 fun ab=>bif (bif (t == b) then (ab == d) else false) then gb true (pIw k) 0 fun ac=>gb true (pIw l) 0 fun ad=>s ac ad else gb true (pIw k) 0 fun u=>gb (u == b) (pIw l) 0 fun ae=>bif (bif (u == b) then (ae == d) else false) then gb true (pIw i) 0 fun ag=>gb true (pIw j) 0 fun ah=>s ag ah else bif (decide ((-1:Int)>=0)) then bif (0 == 1) then gb true (pIw g) 0 fun v=>gb true (pIw h) 0 fun x=>gb true (YD ((a.length+[[Q5 (-1:Int),Q5 1,Q5 v,Q5 x]].length)*32)) () fun ak=>YG n c b d k0 m (wJ (h2+1)) (a++[[Q5 (-1:Int),Q5 1,Q5 v,Q5 x]]) else gb true (pIw g) 0 fun y=>gb true (pIw h) 0 fun z=>gb true (YD ((a.length+[[Q5 (-1:Int),Q5 0,Q5 y,Q5 z]].length)*32)) () fun al=>YG n c b d k0 m (wJ (h2+1)) (a++[[Q5 (-1:Int),Q5 0,Q5 y,Q5 z]]) else YG n c b d k0 m (wJ (h2+1)) a else k0 h2 (decide (h2<(c.length:Int))) a
def EF (n:Nat) (f g h a:LL) (b c:Int) (K:LL->oP R):oP R:= bif (c == 1) then YG n a b 0 (fun i j d=>K d) n 0 [] else YG n a b 1 (fun k l e=>K e) n 0 []

def Hb (n:Nat) (h2:LL) (c d:Int) (k0:D->D->D->D->oP R) (k1:Int->Bool->oP R):Nat->Int->oP R
 | 0,_=>none
 | m+1,a=>bif (decide (a<(h2.length:Int))) then gb true (Q2 h2 a) [] fun e=>gb true (e[0]?) oF fun f=>gb true (e[1]?) oF fun g=>gb true (pIw f) 0 fun h=>gb true (pIw g) 0 fun i=>bif ((h == c)&&(i == d)) then gb true (Q2 h2 a) [] fun b=>gb true (b[0]?) oF fun j=>gb true (b[1]?) oF fun k=>gb true (b[2]?) oF fun l=>gb true (b[3]?) oF fun o=>k0 j k l o else Hb n h2 c d k0 k1 m (wJ (a+1)) else k1 a (decide (a<(h2.length:Int)))
def Vh (n:Nat) (a b c d:LL) (e f g h:Int) (K:D->D->D->D->Bool->oP R):oP R:= gb true (EF n a b c d e f some) [] fun i=>Hb n i g h (fun j k l m=>K j k l m true) (fun o p=>K (Q5 0) (Q5 0) (Q5 0) (Q5 0) false) n 0

def Yd (n:Nat) (c a:LL) (k0:oP R) (k1:Int->Bool->oP R):Nat->Int->oP R
 | 0,_=>none
 | m+1,h2=>bif (decide (h2<(a.length:Int))) then gb true (Q2 a h2) [] fun d=>gb true (d[0]?) oF fun e=>gb true (pIw e) 0 fun f=>gb true (Gm n f 0 (wJ ((c.length:Int)-1)) some) false fun b=>gb (!(!b)) (Q2 a h2) [] fun g=>gb (!(!b)) (g[1]?) oF fun h=>gb (!(!b)) (pIw h) 0 fun i=>gb (!(!b)) (Gm n i 0 1 some) false fun j=>bif (bif !b then true else (!j)) then k0 else Yd n c a k0 k1 m (wJ (h2+1)) else k1 h2 (decide (h2<(a.length:Int)))
def J9 (n:Nat) (b:Int) (c:LL) (k0:oP R) (k1:Int->Bool->oP R):Nat->Int->oP R
 | 0,_=>none
 | m+1,a=>bif decide (a<b) then gb true (Q2 c a) [] fun d=>gb true (d[0]?) oF fun e=>gb true (pIw e) 0 fun f=>gb true (Q2 c b) [] fun g=>gb true (g[0]?) oF fun h=>gb true (pIw h) 0 fun i=>bif (f == i) then k0 else J9 n b c k0 k1 m (wJ (a+1)) else k1 a (decide (a<b))
def Ur (n:Nat) (b:LL) (k0:oP R) (k1:Int->Bool->oP R):Nat->Int->oP R
 | 0,_=>none
 | m+1,a=>bif (decide (a<(b.length:Int))) then J9 n a b (k0) (fun c d=>Ur n b k0 k1 m (wJ (a+1))) n 0 else k1 a (decide (a<(b.length:Int)))
def Y9 (n:Nat) (c d e f b:LL) (k0:oP R) (k1:Int->Bool->oP R):Nat->Int->oP R
 | 0,_=>none
 | m+1,a=>bif (decide (a<(b.length:Int))) then gb true (Q2 b (wJ (a-1))) [] fun g=>gb true (g[0]?) oF fun i=>gb true (g[1]?) oF fun j=>gb true (Q2 b a) [] fun h=>gb true (h[0]?) oF fun k=>gb true (h[1]?) oF fun l=>gb true (pIw i) 0 fun o=>gb true (pIw j) 0 fun p=>gb true (pIw k) 0 fun q=>gb true (pIw l) 0 fun r=>gb true (Vh n c d e f o p q r Tu5) ((.bool false),(.bool false),(.bool false),(.bool false),false) fun y=>bif (!y.2.2.2.2) then k0 else Y9 n c d e f b k0 k1 m (wJ (a+1)) else k1 a (decide (a<(b.length:Int)))
def UB (n:Nat) (d e b f a:LL) (c:Int) (K:Int->oP R):oP R:= gb true (Vr n d e b f some) 0 fun g=>bif (g != 0) then K 1 else bif (bif (decide ((a.length:Int)>24)) then true else (decide (c>2))) then K 7 else bif (bif decide (c<0) then true else (decide ((wJ ((a.length:Int)-c))<2))) then K 4 else Yd n b a (K 4) (fun h i=>Ur n a (K 5) (fun j k=>Y9 n d e b f a (K 11) (fun l m=>K 0) n 1) n 0) n 0

def Sl (n:Nat) (d e c f:LL) (a b:Int) (K:Bool->oP R):oP R:= gb (bif (bif decide (a>=0) then (decide (a<(c.length:Int))) else false) then (bif (b == 0) then true else (b == 1)) else false) (YS n d e c f some) 0 fun g=>K (bif (bif (bif decide (a>=0) then (decide (a<(c.length:Int))) else false) then (bif (b == 0) then true else (b == 1)) else false) then (g == 0) else false)

def PL (n:Nat) (a b:Int) (K:Int->Int->oP R):oP R:= bif (b == 0) then K a 0 else K a 1

def Zj (n:Nat) (j:LL) (e f g:Int) (k0:Int->Bool->LL->oP R):Nat->Int->LL->oP R
 | 0,_,_=>none
 | m+1,b,c=>bif decide (b<e) then gb true (Q2 j b) [] fun d=>gb true (d[0]?) oF fun u=>gb true (d[1]?) oF fun v=>gb true (d[2]?) oF fun x=>gb true (d[3]?) oF fun y=>gb true (d[4]?) oF fun o=>gb true (d[5]?) oF fun p=>gb true (pIw u) 0 fun z=>gb true (pIw v) 0 fun aa=>gb true (pIw x) 0 fun ab=>gb true (pIw y) 0 fun ac=>gb true (pIw o) 0 fun ad=>gb true (pIw p) 0 fun ae=>gb true (RK n z aa ab ac ad ae Tu4) (0,0,0,0) fun a=>bif ((f == a.1)&&(g == a.2.1)) then gb true (PL n a.2.2.1 a.2.2.2 Tu2) (0,0) fun k=>gb true (pIw o) 0 fun q=>gb true (pIw p) 0 fun r=>gb true (YD ((c.length+[[Q5 k.1,Q5 k.2,Q5 q,Q5 r]].length)*32)) () fun ai=>Zj n j e f g k0 m (wJ (b+1)) (c++[[Q5 k.1,Q5 k.2,Q5 q,Q5 r]]) else bif ((f == a.2.2.1)&&(g == a.2.2.2)) then gb true (PL n a.1 a.2.1 Tu2) (0,0) fun l=>gb true (pIw o) 0 fun s=>gb true (pIw p) 0 fun t=>gb true (YD ((c.length+[[Q5 l.1,Q5 l.2,Q5 s,Q5 t]].length)*32)) () fun aj=>Zj n j e f g k0 m (wJ (b+1)) (c++[[Q5 l.1,Q5 l.2,Q5 s,Q5 t]]) else Zj n j e f g k0 m (wJ (b+1)) c else k0 b (decide (b<e)) c
def Ry (n:Nat) (d e f a:LL) (b c:Int) (K:LL->oP R):oP R:= gb true (Sl n d e f a b c some) false fun g=>bif !g then K [] else bif (c == 1) then Zj n a (a.length:Int) b 0 (fun j k h=>K h) n 0 [] else Zj n a (a.length:Int) b 1 (fun l m i=>K i) n 0 []

def YV (n:Nat) (h2:LL) (c d e:Int) (k0:Int->oP R) (k1:Int->Bool->oP R):Nat->Int->oP R
 | 0,_=>none
 | m+1,a=>bif decide (a<c) then gb true (Q2 h2 a) [] fun b=>gb true (b[0]?) oF fun f=>gb true (b[1]?) oF fun g=>gb true (b[2]?) oF fun h=>gb true (b[3]?) oF fun l=>gb true (pIw f) 0 fun i=>gb true (pIw g) 0 fun j=>bif ((i == d)&&(j == e)) then gb true (pIw h) 0 fun k=>k0 k else YV n h2 c d e k0 k1 m (wJ (a+1)) else k1 a (decide (a<c))
def YN (n:Nat) (b c d e:LL) (f g h i:Int) (K:Int->oP R):oP R:= gb true (Ry n b c d e f g some) [] fun a=>YV n a (a.length:Int) h i (fun j=>K j) (fun k l=>K (-1:Int)) n 0

end Go.Vx
namespace Go.Vx
theorem Lq.at {k:Nat}:∀ {s s':LL},Lq k s s'->∀ i:Nat,(s[i]? = none/\s'[i]? = none)\/∃ nm a b c a' b' c' d,s[i]? = some [D.str nm,Q5 a,Q5 b,Q5 c,Q5 d]/\s'[i]? = some [D.str nm,Q5 a',Q5 b',Q5 c',Q5 d]/\NumOk a b c d k/\NumOk a' b' c' d k
 |[],[],_,i=>.inl ⟨by simp,by simp⟩
 |r::s,r'::s',h,0=>by
  obtain ⟨⟨nm,a,b,c,a',b',c',d,e,h2,f,g⟩,_⟩:=h;exact .inr ⟨nm,a,b,c,a',b',c',d,by simp [e],by simp [h2],f,g⟩
 |r::s,r'::s',h,i+1=>by
  have:=Lq.at h.2 i;simpa using this
theorem Lq.row {k:Nat} {s s':LL} (h:Lq k s s') (i:Int):(Q2 s i=none/\Q2 s' i=none)\/∃ nm a b c a' b' c' d,Q2 s i=some [D.str nm,Q5 a,Q5 b,Q5 c,Q5 d]/\Q2 s' i=some [D.str nm,Q5 a',Q5 b',Q5 c',Q5 d]/\NumOk a b c d k/\NumOk a' b' c' d k:=by
 unfold Q2;cases decide ((0:Int)<=i)
 ·exact .inl ⟨rfl,rfl⟩
 ·exact h.at i.toNat
theorem gbN {α R:Type} {z:α} {k:α->oP R}:gb true none z k=none:=rfl
theorem inT {R:Type} {n:Nat} {x lo hi:Int} (a:lo<=x) (b:x<=hi) (K:Bool->oP R):Jx n x lo hi K=K true:=by
 unfold Jx;rw [show decide (x>=lo)=true by simpa using a,show decide (x<=hi)=true by simpa using b];rfl
section
variable {R:Type} {n k:Nat} {s s' St Pt Li:LL} (h:Lq k s s')
include h
theorem Q2W {k0:Int->Bool->LL->oP R}:∀ (m:Nat) (i:Int) (acc:LL),Yf n s k0 m i acc=Yf n s' k0 m i acc
 |0,_,_=>rfl
 |m+1,i,acc=>by
  unfold Yf;rcases h.row i with ⟨e,e'⟩ | ⟨nm,a,b,c,a',b',c',d,e,e',_,_⟩
  ·simp only [e,e',h.len,gbN]
  ·rw [e,e',h.len];simp only [Q2W m];rfl
theorem Q8m {ak:LL} (hk:St.length=k) (f:k<=100) {k0:Int->oP R} {k1:Int->Bool->oP R}:∀ (m:Nat) (i:Int),UM n ak St s k0 k1 m i=UM n ak St s' k0 k1 m i
 |0,_=>rfl
 |m+1,i=>by
  unfold UM;rcases h.row i with ⟨e,e'⟩ | ⟨nm,a,b,c,a',b',c',d,e,e',g,g'⟩
  ·simp only [e,e',h.len,gbN,Q8m hk f m]
  ·rw [e,e',h.len];obtain ⟨j,l,h2,o,p,q,x,y⟩:=g;obtain ⟨g0,g1,r,t,u,v,z,g7⟩:=g';simp -implicitDefEqProofs only [Q0,List.getElem?_cons_zero,List.getElem?_cons_succ,Q1,inT j l,inT h2 o,inT p q,inT g0 g1,inT r t,inT u v,Q8m hk f m]
theorem Q9J {k0:Int->oP R} {k1:Int->Bool->oP R}:∀ (m:Nat) (i:Int),UF n St Pt s Li k0 k1 m i=UF n St Pt s' Li k0 k1 m i
 |0,_=>rfl
 |m+1,i=>by
  unfold UF;have e:∀ j,Va n St Pt s Li j (some:Int->Option Int)=Va n St Pt s' Li j some:=by
   intro j;unfold Va;rw [h.len];rfl
  simp only [e,Q9J m]
theorem Q80 (hk:St.length=k) (a:k<=100) (K:Int->oP R):Vr n St Pt s Li K=Vr n St Pt s' Li K:=by
 unfold Vr JQ;rw [h.len];simp only [Q2W h,Q8m h hk a,Q9J h]
end
def Q6h (St Pt Se Li:LL):Bool:=Q4s (Vr 400 St Pt Se Li some)
theorem ro2 {c0 c1 a:Nat} (b:c0=1\/c0=2) (c:c1=1\/c1=2) (h2:a=1\/a=2):Q6h [nmS 0,nmS 1] (pt2 c0 c1) (se2 c0 c1 a (hat c0) (hat c1) (hat a)) (li2 c0 c1 a)=true:=by
 rcases b with rfl | rfl <;> rcases c with rfl | rfl <;> rcases h2 with rfl | rfl <;> kernel_rfl
theorem ro3 {c0 c1 a b c:Nat} (d:c0=1\/c0=2) (e:c1=1\/c1=2) (h2:a=1\/a=2) (f:b=1\/b=2) (g:c=1\/c=2):Q6h [nmS 0,nmS 1,nmS 2] (pt3 c0 c1 a) (se3 c0 c1 a b c (hat c0) (hat c1) (hat a) (hat b) (hat c)) (li3 c0 c1 a b c)=true:=by
 rcases d with rfl | rfl <;> rcases e with rfl | rfl <;> rcases h2 with rfl | rfl <;> rcases f with rfl | rfl <;> rcases g with rfl | rfl <;> kernel_rfl
theorem Q17 {St Pt L L' Li:LL} (h:Lq St.length L L') (h2:St.length<=100):Q6h St Pt L Li=Q6h St Pt L' Li:=by
 unfold Q6h;rw [Q80 h rfl h2]
theorem QcN {c0 c1 a:Nat} {b c d:List Pc} (e:c0=1\/c0=2) (f:c1=1\/c1=2) (h2:a=1\/a=2) (g:JX b) (h:JX c) (i:JX d) (j:b.length=c0) (e1:c.length=c1) (e2:d.length=a) :
  Q6h [nmS 0,nmS 1] (pt2 c0 c1) (se2 c0 c1 a b c d) (li2 c0 c1 a)=true:=by
 rw [<- ro2 e f h2];exact Q17 (sr2 g h i j e1 e2) (by decide)
theorem QcF {c0 c1 a b c:Nat} {d e f g h:List Pc} (i:c0=1\/c0=2) (j:c1=1\/c1=2) (h2:a=1\/a=2) (k:b=1\/b=2) (l:c=1\/c=2) (m:JX d) (n:JX e) (o:JX f) (p:JX g) (q:JX h) (r:d.length=c0) (e1:e.length=c1) (e2:f.length=a) (s:g.length=b) (t:h.length=c) :
  Q6h [nmS 0,nmS 1,nmS 2] (pt3 c0 c1 a) (se3 c0 c1 a b c d e f g h) (li3 c0 c1 a b c)=true:=by
 rw [<- ro3 i j h2 k l];exact Q17 (sr3 m n o p q r e1 e2 s t) (by decide)
def Q8y (St Pt L d s:LL):Option Int:=
 Yd 400 L s (some 4) (fun _ _=>Ur 400 s (some 5) (fun _ _=>Y9 400 St Pt L d s (some 11) (fun _ _=>some 0) 400 (1:Int)) 400 (0:Int)) 400 (0:Int)
def QaM (N:Nat) (Li s:LL):Bool:=Q4s (Q8y [] [] (List.replicate N []) Li s)
section
variable {R:Type} {n:Nat} {a b a' b' L L' d s:LL} (h:L.length=L'.length)
include h
theorem Q9U {k0:oP R} {k1:Int->Bool->oP R}:∀ (m:Nat) (i:Int),Yd n L s k0 k1 m i=Yd n L' s k0 k1 m i
 |0,_=>rfl
 |m+1,i=>by
  unfold Yd;simp only [h,Q9U m]
omit h in
theorem Qcm {x y z t:Int} {K:D->D->D->D->Bool->oP R}:Vh n a b L d x y z t K=Vh n a' b' L' d x y z t K:=rfl
omit h in
theorem Qaz {k0:oP R} {k1:Int->Bool->oP R}:∀ (m:Nat) (i:Int),Y9 n a b L d s k0 k1 m i=Y9 n a' b' L' d s k0 k1 m i
 |0,_=>rfl
 |m+1,i=>by
  unfold Y9;simp only [Qcm (a:=a) (b:=b) (L:=L) (a':=a') (b':=b') (L':=L'),Qaz m]
end
theorem Q18 {St Pt Se Li s:LL} {N:Nat} (ak:Q6h St Pt Se Li=true) (hN:Se.length=N) (h2:2<=s.length) (c:s.length<=24) (hr:QaM N Li s=true):UB 400 St Pt Se Li s 0 (some:Int->Option Int)=some 0:=by
 have hL:Se.length=(List.replicate N ([]:List D)).length:=by simp [hN]
 unfold UB;rw [Uy ak,Q0,Q8 (by decide),Q8 (by rw [show decide (((List.length s:Nat):Int)>24)=false by simp;omega];rfl),Q8 (by rw [Qf (by omega) (by omega),show decide (((List.length s:Nat):Int)-0<2)=false by simp;omega];rfl)];simp only [Q9U hL,Qaz (a:=St) (b:=Pt) (L:=Se) (a':=[]) (b':=[]) (L':=List.replicate N [])];exact Uy hr
def Q9g (Li:LL) (r r':List D):Option Int:=match r,r' with
 |[.int _ x,.int _ d],[.int _ y,.int _ e]=>gb true (bif (d == (1:Int)) then Zj 400 Li ((List.length Li:Nat):Int) x (0:Int) (fun _ _ w=>some w) 400 (0:Int) [] else Zj 400 Li ((List.length Li:Nat):Int) x (1:Int) (fun _ _ w=>some w) 400 (0:Int) []) [] fun a=>
  YV 400 a ((List.length a:Nat):Int) y e some (fun _ _=>some (-1)) 400 (0:Int)
 |_,_=>none
def ptR (St Pt Se Li:LL) (r r':List D):Option Int:=match r,r' with
 |[.int _ x,.int _ d],[.int _ y,.int _ e]=>match Vh 400 St Pt Se Li x d y e Tu5 with
  |some (_,_,.int .i64 q,_,true)=>some q
  |_=>none
 |_,_=>none
def pv:Option Int->Int
 |some p=>p
 |none => -1
def DY (N NP:Nat) (Li:LL):Nat->LL->Bool
 |k,r::r'::t=>match Q9g Li r r',ptR [] [] (List.replicate N []) Li r r' with
  |some p,some q=>(p == q)&&(decide (-1<=p)&&(decide (p<NP)&&DY N NP Li (bif decide (p<0) then k+1 else k+2) (r'::t)))
  |_,_=>false
 |k,_=>Nat.ble k 5
def Q8f (N NP:Nat) (Li s:LL):Bool:=QaM N Li s&&DY N NP Li 0 s
def Q1d (N NP:Nat) (Li:LL) (s u k c k' c':Nat):Bool:=
 (ups k c).all fun x=>(ups k' c').all fun y=>Q8f N NP Li (JK s u x y true)&&Q8f N NP Li (JK s u x y false)
theorem Qbx {c0 c1 a:Nat} (b:c0=1\/c0=2) (c:c1=1\/c1=2) (h2:a=1\/a=2):Q1d (c0+c1+a) (pt2 c0 c1).length (li2 c0 c1 a) (c0+c1) a 0 c0 c0 c1=true:=by
 rcases b with rfl | rfl <;> rcases c with rfl | rfl <;> rcases h2 with rfl | rfl <;> kernel_rfl
theorem Qb9 {c0 c1 a b c:Nat} (d:c0=1\/c0=2) (e:c1=1\/c1=2) (h2:a=1\/a=2) (f:b=1\/b=2) (g:c=1\/c=2) :
  (Q1d (c0+c1+a+b+c) (pt3 c0 c1 a).length (li3 c0 c1 a b c) (c0+c1+a) b 0 c0 c0 c1&&Q1d (c0+c1+a+b+c) (pt3 c0 c1 a).length (li3 c0 c1 a b c) (c0+c1+a+b) c c0 c1 (c0+c1) a)=true:=by
 rcases d with rfl | rfl <;> rcases e with rfl | rfl <;> rcases h2 with rfl | rfl <;> rcases f with rfl | rfl <;> rcases g with rfl | rfl <;> kernel_rfl
theorem Q7Z {St Pt Se Li:LL} (ak:H5 400 St Pt Se Li=true) {x d y e:Int} (a:0<=x) (b:x<Se.length) (hd:d=0\/d=1):YN 400 St Pt Se Li x d y e (some:Int->Option Int)=Q9g Li [Q5 x,Q5 d] [Q5 y,Q5 e]:=by
 have hc:YS 400 St Pt Se Li (some:Int->Option Int)=some 0:=by unfold YS;rw [ak];rfl
 have hh:Sl 400 St Pt Se Li x d (some:Bool->Option Bool)=some true:=by
  unfold Sl;rw [hc,Q0,show decide (x>=0)=true by simpa using a,show decide (x<((Se.length:Nat):Int))=true by simpa using b];rcases hd with rfl | rfl <;> rfl
 unfold YN Ry Q9g;rw [hh,Q0,Q8 (by decide)]
end Go.Vx
namespace Go.Vx
variable {R:Type}
def YW (n:Nat) (d:LL) (b:Int) (k0:Int->Bool->LL->oP R):Nat->Int->LL->oP R
 | 0,_,_=>none
 | m+1,a,c=>bif decide (a<b) then gb true (Q2 d a) [] fun f=>gb true (f[0]?) oF fun g=>gb true (pIw g) 0 fun e=>gb true (YD ((c.length+[[Q5 e,Q5 0]].length)*16)) () fun h=>YW n d b k0 m (wJ (a+1)) (c++[[Q5 e,Q5 0]]) else k0 a (decide (a<b)) c
def Z3 (n:Nat) (c:LL) (k0:Int->Bool->LL->oP R):Nat->Int->LL->oP R
 | 0,_,_=>none
 | m+1,a,b=>bif decide (a>=0) then gb true (Q2 c a) [] fun e=>gb true (e[0]?) oF fun f=>gb true (pIw f) 0 fun d=>gb true (YD ((b.length+[[Q5 d,Q5 1]].length)*16)) () fun g=>Z3 n c k0 m (wJ (a-1)) (b++[[Q5 d,Q5 1]]) else k0 a (decide (a>=0)) b
def Y1 (n:Nat) (q1 q2 q3 q4 a b q7:LL) (a1 a2 a3:Int) (a4:Bool) (K:LL->Int->LL->LL->LL->LL->LL->LL->LL->oP R):oP R:= gb true (inB (b.length) a1) () fun u1=>gb true (b[a1.toNat]?) [] fun o=>gb true (o[0]?) oF fun p=>gb true (pSl 1 p) [] fun c=>bif a4 then gb true (inB (a.length) a1) () fun u5=>gb true (a[a1.toNat]?) [] fun q=>gb true (q[0]?) oF fun r=>gb true (pSl 1 r) [] fun s=>gb true (inB (a.length) a1) () fun u9=>gb true (a[a1.toNat]?) [] fun t=>gb true (t[0]?) oF fun u=>gb true (pSl 1 u) [] fun d=>gb true (nz (d.length:Int)) () fun az=>gb true (Q2 s (Int.tmod a2 (d.length:Int))) [] fun v=>gb true (v[0]?) oF fun x=>gb true (pIw x) 0 fun e=>gb true (YD ([[Q5 e,Q5 0]].length*16)) () fun ba=>YW n c (c.length:Int) (fun bb bc f=>gb true (inB (a.length) (wJ (a1+1))) () fun bd=>gb true (a[(Int.toNat (wJ (a1+1)))]?) [] fun y=>gb true (y[0]?) oF fun z=>gb true (pSl 1 z) [] fun aa=>gb true (inB (a.length) (wJ (a1+1))) () fun be=>gb true (a[(Int.toNat (wJ (a1+1)))]?) [] fun ab=>gb true (ab[0]?) oF fun ac=>gb true (pSl 1 ac) [] fun g=>gb true (nz (g.length:Int)) () fun bg=>gb true (Q2 aa (Int.tmod a3 (g.length:Int))) [] fun ad=>gb true (ad[0]?) oF fun ae=>gb true (pIw ae) 0 fun h=>gb true (YD ((f.length+[[Q5 h,Q5 0]].length)*16)) () fun bh=>K (f++[[Q5 h,Q5 0]]) 0 q1 q2 q3 q4 a b q7) n 0 [[Q5 e,Q5 0]] else gb true (inB (a.length) (wJ (a1+1))) () fun bi=>gb true (a[(Int.toNat (wJ (a1+1)))]?) [] fun ag=>gb true (ag[0]?) oF fun ah=>gb true (pSl 1 ah) [] fun ai=>gb true (inB (a.length) (wJ (a1+1))) () fun bj=>gb true (a[(Int.toNat (wJ (a1+1)))]?) [] fun aj=>gb true (aj[0]?) oF fun ak=>gb true (pSl 1 ak) [] fun i=>gb true (nz (i.length:Int)) () fun bk=>gb true (Q2 ai (Int.tmod a3 (i.length:Int))) [] fun al=>gb true (al[0]?) oF fun am=>gb true (pIw am) 0 fun j=>gb true (YD ([[Q5 j,Q5 1]].length*16)) () fun bl=>Z3 n c (fun bm bn k=>gb true (inB (a.length) a1) () fun bo=>gb true (a[a1.toNat]?) [] fun an=>gb true (an[0]?) oF fun ao=>gb true (pSl 1 ao) [] fun ap=>gb true (inB (a.length) a1) () fun bp=>gb true (a[a1.toNat]?) [] fun aq=>gb true (aq[0]?) oF fun ar=>gb true (pSl 1 ar) [] fun l=>gb true (nz (l.length:Int)) () fun bq=>gb true (Q2 ap (Int.tmod a2 (l.length:Int))) [] fun au=>gb true (au[0]?) oF fun av=>gb true (pIw av) 0 fun m=>gb true (YD ((k.length+[[Q5 m,Q5 1]].length)*16)) () fun br=>K (k++[[Q5 m,Q5 1]]) 0 q1 q2 q3 q4 a b q7) n (wJ ((c.length:Int)-1)) [[Q5 j,Q5 1]]
end Go.Vx
namespace Go.Vx
structure Geo where
 N:Nat
 St:LL
 Pt:LL
 Se:LL
 Li:LL
 Tr:LL
 Bt:LL
 k:Nat->Nat
 c:Nat->Nat
 s:Nat->Nat
 u:Nat->Nat
structure Geo.OK (G:Geo):Prop where
 hN:G.N=2\/G.N=3
 st:G.St.length=G.N
 lay:H5 400 G.St G.Pt G.Se G.Li=true
 ref:Q6h G.St G.Pt G.Se G.Li=true
 trl:G.Tr.length=G.N
 tr:∀ i,i<G.N->G.Tr[i]? = some [D.sl 1 (Za (ups (G.k i) (G.c i)))]
 ct:∀ i,i<G.N->G.c i=1\/G.c i=2
 btl:G.Bt.length+1=G.N
 bt:∀ g,g+1<G.N->G.Bt[g]? = some [D.sl 1 (Za (ups (G.s g) (G.u g)))]
 ut:∀ g,g+1<G.N->G.u g=1\/G.u g=2
 sec:∀ i,i<G.N->∀ x,x<G.c i->∃ nm a b d,Q2 G.Se ((G.k i+x:Nat):Int)=some [D.str nm,Q5 a,Q5 b,Q5 d,Q5 i]/\SecN a b d
 gap:∀ g,g+1<G.N->∀ x,x<G.u g->∃ nm a b d e,Q2 G.Se ((G.s g+x:Nat):Int)=some [D.str nm,Q5 a,Q5 b,Q5 d,Q5 e]/\SecN a b d
 rts:∀ g,g+1<G.N->Q7A G.Se.length G.Li (G.s g) (G.u g) (G.k g) (G.c g) (G.k (g+1)) (G.c (g+1))=true
 rt6:∀ g,g+1<G.N->Q1d G.Se.length G.Pt.length G.Li (G.s g) (G.u g) (G.k g) (G.c g) (G.k (g+1)) (G.c (g+1))=true
theorem Q2N {f:Nat->Pc->List D}:∀ {c:Nat} {x:List Pc} {i:Nat},JX x->x.length=c->i<c->∃ j y,(Y5 f c x)[i]? = some (f j y)/\Num y.1 y.2.1 y.2.2
 |c+1,a::x,0,h,_,_=>⟨c+1,a,rfl,h.1⟩
 |c+1,a::x,i+1,h,e,hi=>by
  obtain ⟨j,y,b,h2⟩:=Q2N (f:=f) h.2 (by simpa using e) (show i<c by omega);exact ⟨j,y,by simpa [Y5] using b,h2⟩
theorem Q7q {f:Nat->Pc->List D} {A B:LL} {c k i:Nat} {x:List Pc} (hA:A.length=k) (h:JX x) (e:x.length=c) (hi:i<c):∃ j y,Q2 ((A++Y5 f c x)++B) ((k+i:Nat):Int)=some (f j y)/\Num y.1 y.2.1 y.2.2:=by
 obtain ⟨j,y,a,h2⟩:=Q2N (f:=f) h e hi;refine ⟨j,y,?_,h2⟩;unfold Q2;have hd:=Qo (f:=f) e;rw [QJ (by simp;omega),Int.toNat_natCast,Qe2 (by simp;omega),List.getElem?_append_right (by omega),show k+i-A.length=i by omega,a]
theorem QaK {A B L:LL} {c k i x:Nat} {X:List Pc} (hL:L=(A++Y5 (secT i) c X)++B) (hA:A.length=k) (h:JX X) (e:X.length=c) (hi:x<c) :
  ∃ nm a b d,Q2 L ((k+x:Nat):Int)=some [D.str nm,Q5 a,Q5 b,Q5 d,Q5 i]/\SecN a b d:=by
 subst hL;obtain ⟨j,y,g,h2⟩:=Q7q (f:=secT i) (B:=B) hA h e hi;exact ⟨_,_,_,_,g,by have:=h2.a0;omega,by have:=h2.a1;omega,h2.b0,h2.b1,h2.c0,h2.c1⟩
theorem QbC {A B L:LL} {c k i x:Nat} {X:List Pc} (hL:L=(A++Y5 (secL i) c X)++B) (hA:A.length=k) (h:JX X) (e:X.length=c) (hi:x<c) :
  ∃ nm a b d e,Q2 L ((k+x:Nat):Int)=some [D.str nm,Q5 a,Q5 b,Q5 d,Q5 e]/\SecN a b d:=by
 subst hL;obtain ⟨j,y,g,h2⟩:=Q7q (f:=secL i) (B:=B) hA h e hi;exact ⟨_,_,_,_,_,g,h2.a0,by have:=h2.a1;omega,h2.b0,h2.b1,h2.c0,h2.c1⟩
def Q9F (c0 c1 a:Nat) (b d e:List Pc):Geo where
 N:=2
 St:=[nmS 0,nmS 1]
 Pt:=pt2 c0 c1
 Se:=se2 c0 c1 a b d e
 Li:=li2 c0 c1 a
 Tr:=[[D.sl 1 (Za (ups 0 c0))],[D.sl 1 (Za (ups c0 c1))]]
 Bt:=[[D.sl 1 (Za (ups (c0+c1) a))]]
 k:=fun | 0=>0 | _=>c0
 c:=fun | 0=>c0 | _=>c1
 s:=fun _=>c0+c1
 u:=fun _=>a
theorem Q8r {c0 c1 a:Nat} {b c d:List Pc} (f:c0=1\/c0=2) (h:c1=1\/c1=2) (h2:a=1\/a=2) (j:JX b) (k:JX c) (l:JX d) (e:b.length=c0) (e1:c.length=c1) (e2:d.length=a):(Q9F c0 c1 a b c d).OK where
 hN:=.inl rfl
 st:=rfl
 lay:=Qct f h h2 j k l e e1 e2
 ref:=QcN f h h2 j k l e e1 e2
 trl:=rfl
 tr:=fun i hi=>match i,hi with
  |0,_=>rfl
  |1,_=>rfl
 ct:=fun i hi=>match i,hi with
  |0,_=>f
  |1,_=>h
 btl:=rfl
 bt:=fun g hg=>match g,hg with
  |0,_=>rfl
 ut:=fun g _=>h2
 sec:=fun i hi=>match i,hi with
  |0,_=>fun x hx=>QaK (A:=[]) (i:=0) (B:=Y5 (secT 1) c1 c++Y5 (secL 0) a d) (by simp [Q9F,se2]) rfl j e hx
  |1,_=>fun x hx=>QaK (A:=Y5 (secT 0) c0 b) (i:=1) (B:=Y5 (secL 0) a d) rfl (Qo e) k e1 hx
 gap:=fun g hg x hx=>QbC (A:=Y5 (secT 0) c0 b++Y5 (secT 1) c1 c) (i:=0) (B:=[]) (by simp [Q9F,se2]) (by simp [Q9F,Qo e,Qo e1]) l e2 hx
 rts:=fun g hg=>match g,hg with
  |0,_=>by
   have hl:(se2 c0 c1 a b c d).length=c0+c1+a:=by simp [se2,Qo e,Qo e1,Qo e2];omega
   show Q7A (se2 c0 c1 a b c d).length (li2 c0 c1 a) (c0+c1) a 0 c0 c0 c1=true;rw [hl];exact QcB f h h2
 rt6:=fun g hg=>match g,hg with
  |0,_=>by
   have hl:(se2 c0 c1 a b c d).length=c0+c1+a:=by simp [se2,Qo e,Qo e1,Qo e2];omega
   show Q1d (se2 c0 c1 a b c d).length (pt2 c0 c1).length (li2 c0 c1 a) (c0+c1) a 0 c0 c0 c1=true;rw [hl];exact Qbx f h h2
def Q6i (c0 c1 a b d:Nat) (e f g h i:List Pc):Geo where
 N:=3
 St:=[nmS 0,nmS 1,nmS 2]
 Pt:=pt3 c0 c1 a
 Se:=se3 c0 c1 a b d e f g h i
 Li:=li3 c0 c1 a b d
 Tr:=[[D.sl 1 (Za (ups 0 c0))],[D.sl 1 (Za (ups c0 c1))],[D.sl 1 (Za (ups (c0+c1) a))]]
 Bt:=[[D.sl 1 (Za (ups (c0+c1+a) b))],[D.sl 1 (Za (ups (c0+c1+a+b) d))]]
 k:=fun | 0=>0 | 1=>c0 | _=>c0+c1
 c:=fun | 0=>c0 | 1=>c1 | _=>a
 s:=fun | 0=>c0+c1+a | _=>c0+c1+a+b
 u:=fun | 0=>b | _=>d
theorem Q98 {c0 c1 a b c:Nat} {d e f h j:List Pc} (n:c0=1\/c0=2) (o:c1=1\/c1=2) (h2:a=1\/a=2) (p:b=1\/b=2) (q:c=1\/c=2) (s:JX d) (t:JX e) (u:JX f) (v:JX h) (y:JX j) (k:d.length=c0) (e1:e.length=c1) (e2:f.length=a) (m:h.length=b) (r:j.length=c):(Q6i c0 c1 a b c d e f h j).OK where
 hN:=.inr rfl
 st:=rfl
 lay:=QcL n o h2 p q s t u v y k e1 e2 m r
 ref:=QcF n o h2 p q s t u v y k e1 e2 m r
 trl:=rfl
 tr:=fun i hi=>match i,hi with
  |0,_=>rfl
  |1,_=>rfl
  |2,_=>rfl
 ct:=fun i hi=>match i,hi with
  |0,_=>n
  |1,_=>o
  |2,_=>h2
 btl:=rfl
 bt:=fun g hg=>match g,hg with
  |0,_=>rfl
  |1,_=>rfl
 ut:=fun g hg=>match g,hg with
  |0,_=>p
  |1,_=>q
 sec:=fun i hi=>match i,hi with
  |0,_=>fun x hx=>QaK (A:=[]) (i:=0) (B:=Y5 (secT 1) c1 e++(Y5 (secT 2) a f++(Y5 (secL 0) b h++Y5 (secL 1) c j))) (by simp [Q6i,se3]) rfl s k hx
  |1,_=>fun x hx=>QaK (A:=Y5 (secT 0) c0 d) (i:=1) (B:=Y5 (secT 2) a f++(Y5 (secL 0) b h++Y5 (secL 1) c j)) (by simp [Q6i,se3]) (Qo k) t e1 hx
  |2,_=>fun x hx=>QaK (A:=Y5 (secT 0) c0 d++Y5 (secT 1) c1 e) (i:=2) (B:=Y5 (secL 0) b h++Y5 (secL 1) c j) (by simp [Q6i,se3]) (by simp [Q6i,Qo k,Qo e1]) u e2 hx
 gap:=fun g hg=>match g,hg with
  |0,_=>fun x hx=>QbC (A:=Y5 (secT 0) c0 d++Y5 (secT 1) c1 e++Y5 (secT 2) a f) (i:=0) (B:=Y5 (secL 1) c j) (by simp [Q6i,se3]) (by simp [Q6i,Qo k,Qo e1,Qo e2];omega) v m hx
  |1,_=>fun x hx=>QbC (A:=Y5 (secT 0) c0 d++Y5 (secT 1) c1 e++Y5 (secT 2) a f++Y5 (secL 0) b h) (i:=1) (B:=[]) (by simp [Q6i,se3]) (by simp [Q6i,Qo k,Qo e1,Qo e2,Qo m];omega) y r hx
 rts:=fun g hg=>by
  have hl:(se3 c0 c1 a b c d e f h j).length=c0+c1+a+b+c:=by simp [se3,Qo k,Qo e1,Qo e2,Qo m,Qo r];omega
  have l:=QcE n o h2 p q;simp only [Bool.and_eq_true] at l
  match g,hg with
  |0,_=>
   show Q7A (se3 c0 c1 a b c d e f h j).length (li3 c0 c1 a b c) (c0+c1+a) b 0 c0 c0 c1=true;rw [hl];exact l.1
  |1,_=>
   show Q7A (se3 c0 c1 a b c d e f h j).length (li3 c0 c1 a b c) (c0+c1+a+b) c c0 c1 (c0+c1) a=true;rw [hl];exact l.2
 rt6:=fun g hg=>by
  have hl:(se3 c0 c1 a b c d e f h j).length=c0+c1+a+b+c:=by simp [se3,Qo k,Qo e1,Qo e2,Qo m,Qo r];omega
  have l:=Qb9 n o h2 p q;simp only [Bool.and_eq_true] at l
  match g,hg with
  |0,_=>
   show Q1d (se3 c0 c1 a b c d e f h j).length (pt3 c0 c1 a).length (li3 c0 c1 a b c) (c0+c1+a) b 0 c0 c0 c1=true;rw [hl];exact l.1
  |1,_=>
   show Q1d (se3 c0 c1 a b c d e f h j).length (pt3 c0 c1 a).length (li3 c0 c1 a b c) (c0+c1+a+b) c c0 c1 (c0+c1) a=true;rw [hl];exact l.2
theorem Qcw {R:Type} {l:List Int} (hl:l.length<=9223372036854775807) {P:R->Prop} {i:Nat} (hi:i<=l.length) {K:LL->LL->LL->LL->LL->LL->LL->LL->Int->oP R}
  (H:∀ (G:Geo) (j:Nat),G.OK->j<=l.length->K G.St G.Pt G.Se G.Li G.Tr G.Bt [] (encI l) (j:Int)∈P):E3 400 (encI l) (i:Int) K∈P:=by
 unfold E3;refine Ui hl hi (by decide) (by decide) fun v j k n hj=>?_
 rcases two k n with rfl | rfl
 ·exact Qbq hl (m:=397) hj fun c0 c1 a b c d j a0 a1 a2 e f g h e1 e2 hj=>H (Q9F c0 c1 a b c d) j (Q8r a0 a1 a2 e f g h e1 e2) hj
 ·exact Qbt hl (m:=396) hj fun c0 c1 o a p b c q d r j a0 a1 a2 a3 a4 e f g s t h e1 e2 u x hj=>H (Q6i c0 c1 o a p b c q d r) j (Q98 a0 a1 a2 a3 a4 e f g s t h e1 e2 u x) hj
section
variable {R:Type}
theorem Ba {T:LL} {g:Nat} {l:LL} (h:T[g]? = some [D.sl 1 l]) (K:LL->oP R) :
  gb true (inB (List.length T) (g:Int)) () (fun _=>gb true (T[(Int.toNat (g:Int))]?) [] fun a=>gb true (a[0]?) oF fun b=>gb true (pSl 1 b) [] fun c=>K c)=K l:=by
 have ak:g<T.length:=(QdV.1 h).1;rw [ZG (by omega) (by omega),Q0,Int.toNat_natCast,h];rfl
theorem Qb1 {k c a:Nat} (hc:c=1\/c=2) (ha:a<2) (K:Int->oP R) :
  gb true (nz ((List.length (Za (ups k c)):Nat):Int)) () (fun _=>gb true (Q2 (Za (ups k c)) (Int.tmod (a:Int) ((List.length (Za (ups k c)):Nat):Int))) [] fun b=>gb true (b[0]?) oF fun d=>gb true (pIw d) 0 fun e=>K e)=K ((k+a % c:Nat):Int):=by
 obtain rfl | rfl:a=0\/a=1:=by omega
 ·rcases hc with rfl | rfl <;> rfl
 ·rcases hc with rfl | rfl
  ·rw [show k+1 % 1=k from rfl,show List.length (Za (ups k 1))=1 from rfl,show Int.tmod ((1:Nat):Int) ((1:Nat):Int)=0 by decide];rfl
  ·rfl
theorem Q6X {s u:Nat} {x:Int} (hu:u=1\/u=2) {k0:Int->Bool->LL->oP R} :
  YW 400 (Za (ups s u)) ((List.length (Za (ups s u)):Nat):Int) k0 400 (0:Int) [[D.int .i64 x,D.int .i64 (0:Int)]]
   = k0 (u:Int) false ([Q5 x,Q5 0]::((ups s u).map fun k=>[Q5 (k:Nat),Q5 0])):=by
 rcases hu with rfl | rfl <;> rfl
theorem Q6Z {s u:Nat} {x:Int} (hu:u=1\/u=2) {k0:Int->Bool->LL->oP R} :
  Z3 400 (Za (ups s u)) k0 400 (wJ (((List.length (Za (ups s u)):Nat):Int)-(1:Int))) [[D.int .i64 x,D.int .i64 (1:Int)]]
   = k0 (-1) false ([Q5 x,Q5 1]::((ups s u).reverse.map fun k=>[Q5 (k:Nat),Q5 1])):=by
 rcases hu with rfl | rfl <;> rfl
theorem Q5i {q1 q2 q3 q4 q7 Tr Bt:LL} {g k c k' c' s u a b:Nat} {up:Bool} (hg:g<8) (hT:Tr[g]? = some [D.sl 1 (Za (ups k c))]) (ak:Tr[g+1]? = some [D.sl 1 (Za (ups k' c'))]) (hB:Bt[g]? = some [D.sl 1 (Za (ups s u))])
  (hc:c=1\/c=2) (am:c'=1\/c'=2) (hu:u=1\/u=2) (ha:a<2) (hb:b<2) (K:LL->Int->LL->LL->LL->LL->LL->LL->LL->oP R) :
  Y1 400 q1 q2 q3 q4 Tr Bt q7 (g:Int) (a:Int) (b:Int) up K=K (JK s u (k+a % c) (k'+b % c') up) 0 q1 q2 q3 q4 Tr Bt q7:=by
 have an:wJ ((g:Int)+1)=((g+1:Nat):Int):=by rw [Qf (by omega) (by omega)];omega
 have hl:(ups s u).length=u:=by rcases hu with rfl | rfl <;> rfl
 have d:u<=2:=by omega
 unfold Y1;rw [Ba hB];cases up
 ·rw [Q8 rfl];rw [an,Ba ak,Ba ak,Qb1 am hb,XR (by simp),Q0];rw [Q6Z hu,Ba hT,Ba hT,Qb1 hc ha,XR (by simp [hl];omega),Q0];rfl
 ·rw [QJ rfl,Ba hT,Ba hT,Qb1 hc ha,XR (by simp),Q0];rw [Q6X hu,an,Ba ak,Ba ak,Qb1 am hb,XR (by simp [hl];omega),Q0];rfl
end
def Sta (G:Geo) (x:Int):Prop:=∃ nm a b d i,Q2 G.Se x=some [D.str nm,Q5 a,Q5 b,Q5 d,Q5 i]/\0<=i
structure RtOK (G:Geo) (s:LL) (x y:Int):Prop where
 l2:2<=s.length
 l24:s.length<=24
 rt:rtB G.Se.length G.Li s=true
 rt6:QaM G.Se.length G.Li s=true
 hops:DY G.Se.length G.Pt.length G.Li 0 s=true
 shp:∃ g x y up,g+1<G.N/\s=JK (G.s g) (G.u g) x y up/\x∈ups (G.k g) (G.c g)/\y∈ups (G.k (g+1)) (G.c (g+1))
 st:∀ r∈s,Fa G.Se r
 sx:Sta G x
 sy:Sta G y
 fst:∃ d,Q2 s 0=some [Q5 x,Q5 d]
 lst:∃ d,Q2 s ((s.length:Int)-1)=some [Q5 y,Q5 d]
def Geo.tk (G:Geo) (i a:Nat):Int:=((G.k i+a % G.c i:Nat):Int)
theorem Q20 {x:Nat}:∀ {s u:Nat},x∈ups s u->∃ j,j<u/\x=s+j
 |s,0,h=>by simp [ups] at h
 |s,u+1,h=>by
  simp only [ups,List.mem_cons] at h;rcases h with rfl | h
  ·exact ⟨0,by omega,rfl⟩
  ·obtain ⟨j,a,h2⟩:=Q20 h;exact ⟨j+1,by omega,by omega⟩
theorem Me {c a k:Nat} (hc:c=1\/c=2):(k+a % c)∈ups k c:=by
 rcases hc with rfl | rfl
 ·simp [ups,Nat.mod_one]
 ·have:a % 2<2:=Nat.mod_lt _ (by decide);simp [ups];omega
theorem Geo.OK.trk {G:Geo} (hG:G.OK) {i a:Nat} (hi:i<G.N):(∃ nm x b d,Q2 G.Se (G.tk i a)=some [D.str nm,Q5 x,Q5 b,Q5 d,Q5 i]/\SecN x b d):=
 hG.sec i hi (a % G.c i) (Nat.mod_lt _ (by rcases hG.ct i hi with h | h <;> omega))
theorem Q1A {P:List D->Prop} {s u x y:Nat} {up:Bool} (hx:∀ d,(d=0\/d=1)->P [Q5 x,Q5 d]) (hy:∀ d,(d=0\/d=1)->P [Q5 y,Q5 d]) (hs:∀ j,j<u->∀ d,(d=0\/d=1)->P [Q5 ((s+j:Nat):Int),Q5 d]):∀ r∈JK s u x y up,P r:=by
 intro r hr;unfold JK at hr;cases up
 ·simp only [QdS,List.cons_append,List.mem_cons,Qe0,List.mem_map,List.mem_reverse,List.not_mem_nil,or_false] at hr;rcases hr with rfl | ⟨k,hk,rfl⟩ | rfl
  ·exact hy _ (.inr rfl)
  ·obtain ⟨j,a,rfl⟩:=Q20 hk;exact hs j a _ (.inr rfl)
  ·exact hx _ (.inr rfl)
 ·simp only [QdX,List.cons_append,List.mem_cons,Qe0,List.mem_map,List.not_mem_nil,or_false] at hr;rcases hr with rfl | ⟨k,hk,rfl⟩ | rfl
  ·exact hx _ (.inl rfl)
  ·obtain ⟨j,a,rfl⟩:=Q20 hk;exact hs j a _ (.inl rfl)
  ·exact hy _ (.inl rfl)
theorem Qat {R:Type} {G:Geo} (hG:G.OK) {q1 q2 q3 q4 q7:LL} {g a b:Nat} {up:Bool} (hg:g+1<G.N) (ha:a<2) (hb:b<2) :
  ∃ s,RtOK G s (bif up then G.tk g a else G.tk (g+1) b) (bif up then G.tk (g+1) b else G.tk g a)/\∀ K:LL->Int->LL->LL->LL->LL->LL->LL->LL->oP R,Y1 400 q1 q2 q3 q4 G.Tr G.Bt q7 (g:Int) (a:Int) (b:Int) up K=K s 0 q1 q2 q3 q4 G.Tr G.Bt q7:=by
 have hN:=hG.hN;have hc:=hG.ct g (by omega);have au:=hG.ct (g+1) hg;have hu:=hG.ut g hg;obtain ⟨f,h,i,k,e1,f1⟩:=hG.trk (a:=a) (show g<G.N by omega);obtain ⟨l,m,n,o,e2,c⟩:=hG.trk (a:=b) hg;have am:=hG.rts g hg;unfold Q7A at am;have am:=List.all_eq_true.1 (List.all_eq_true.1 am _ (Me hc (a:=a))) _ (Me au (a:=b));simp only [Bool.and_eq_true] at am;have ak:=hG.rt6 g hg;unfold Q1d at ak;have ak:=List.all_eq_true.1 (List.all_eq_true.1 ak _ (Me hc (a:=a))) _ (Me au (a:=b));simp only [Q8f,Bool.and_eq_true] at ak;refine ⟨JK (G.s g) (G.u g) (G.k g+a % G.c g) (G.k (g+1)+b % G.c (g+1)) up,?_,fun K=>Q5i (by omega) (hG.tr g (by omega)) (hG.tr (g+1) hg) (hG.bt g hg) hc au hu ha hb K⟩;have ar:∀ r∈JK (G.s g) (G.u g) (G.k g+a % G.c g) (G.k (g+1)+b % G.c (g+1)) up,Fa G.Se r:=by
  refine Q1A (fun d hd=>⟨_,_,_,_,_,_,_,rfl,e1,f1,hd⟩) (fun d hd=>⟨_,_,_,_,_,_,_,rfl,e2,c,hd⟩) fun j hj d hd=>?_
  obtain ⟨p,q,t,v,w3,e,g1⟩:=hG.gap g hg j hj;exact ⟨_,_,_,_,_,_,_,rfl,e,g1,hd⟩
 have an:∃ g' x y ax,g'+1<G.N/\JK (G.s g) (G.u g) (G.k g+a % G.c g) (G.k (g+1)+b % G.c (g+1)) up=JK (G.s g') (G.u g') x y ax/\x∈ups (G.k g') (G.c g')/\y∈ups (G.k (g'+1)) (G.c (g'+1)):=
  ⟨g,_,_,up,hg,rfl,Me hc,Me au⟩
 have s1:Sta G (G.tk g a):=⟨_,_,_,_,_,e1,by omega⟩;have s2:Sta G (G.tk (g+1) b):=⟨_,_,_,_,_,e2,by omega⟩;revert ar am ak an;generalize G.s g=s;generalize G.u g=u at hu;intro am ak ar an;have hl:(JK s u (G.k g+a % G.c g) (G.k (g+1)+b % G.c (g+1)) up).length=u+2:=by
  rcases hu with rfl | rfl <;> cases up <;> rfl
 cases up
 ·exact ⟨by omega,by omega,am.2,ak.2.1,ak.2.2,an,ar,s2,s1,by rcases hu with rfl | rfl <;> exact ⟨1,rfl⟩,by rw [hl];rcases hu with rfl | rfl <;> exact ⟨1,rfl⟩⟩
 ·exact ⟨by omega,by omega,am.1,ak.1.1,ak.1.2,an,ar,s1,s2,by rcases hu with rfl | rfl <;> exact ⟨0,rfl⟩,by rw [hl];rcases hu with rfl | rfl <;> exact ⟨0,rfl⟩⟩

end Go.Vx
namespace Go.Vx
variable {R:Type}
def Zb (n:Nat)  (k0:Int->Bool->LL->LL->Int->oP R):Nat->Int->LL->LL->Int->oP R
 | 0,_,_,_,_=>none
 | m+1,a,b,d,e=>bif decide (a<3) then gb true (Q4 n d e 2 Tu3) (0,[],0) fun c=>gb true (inB 3 a) () fun j=>gb true (b[a.toNat]?) [] fun i=>Zb n k0 m (wJ (a+1)) (List.set b a.toNat (List.set i 0 (Q5 c.1))) c.2.1 c.2.2 else k0 a (decide (a<3)) b d e
def Qy (n:Nat) (o:Bool) (h:Int) (j:LL) (k0:Int->Bool->LL->LL->LL->LL->LL->LL->LL->LL->LL->LL->Int->oP R):Nat->Int->LL->LL->LL->LL->LL->LL->LL->LL->LL->LL->Int->oP R
 | 0,_,_,_,_,_,_,_,_,_,_,_,_=>none
 | m+1,c,i,t,u,v,x,y,z,aa,d,ab,ac=>bif decide (c<h) then bif !o then gb true (inB 3 (wJ ((wJ (h-1))-c))) () fun ay=>gb true (j[(Int.toNat (wJ ((wJ (h-1))-c)))]?) [] fun ak=>gb true (ak[0]?) oF fun al=>gb true (pIw al) 0 fun am=>gb true (inB 3 (wJ ((wJ ((wJ (h-1))-c))+1))) () fun az=>gb true (j[(Int.toNat (wJ ((wJ ((wJ (h-1))-c))+1)))]?) [] fun an=>gb true (an[0]?) oF fun ao=>gb true (pIw ao) 0 fun ap=>gb true (Y1 n t u v x y z aa (wJ ((wJ (h-1))-c)) am ap o Tu9) ([],0,[],[],[],[],[],[],[]) fun a=>gb true (YD ((d.length+[[D.sl 2 a.1,Q5 a.2.1]].length)*32)) () fun ba=>gb true (Q4 n ab ac 3 Tu3) (0,[],0) fun k=>bif (decide ((wJ (c+1))<h)) then gb true (Q4 n k.2.1 k.2.2 6 Tu3) (0,[],0) fun p=>gb true (Q4 n p.2.1 p.2.2 4 Tu3) (0,[],0) fun r=>gb true (YD ((i.length+List.length [[Q5 (wJ (((List.length (d++[[D.sl 2 a.1,Q5 a.2.1]]):Nat):Int)-1)),Q5 k.1,Q5 (wJ (5+p.1)),Q5 (wJ ((wJ (5+p.1))+r.1))]])*32)) () fun bb=>Qy n o h j k0 m (wJ (c+1)) (i++[[Q5 (wJ (((List.length (d++[[D.sl 2 a.1,Q5 a.2.1]]):Nat):Int)-1)),Q5 k.1,Q5 (wJ (5+p.1)),Q5 (wJ ((wJ (5+p.1))+r.1))]]) a.2.2.1 a.2.2.2.1 a.2.2.2.2.1 a.2.2.2.2.2.1 a.2.2.2.2.2.2.1 a.2.2.2.2.2.2.2.1 a.2.2.2.2.2.2.2.2 (d++[[D.sl 2 a.1,Q5 a.2.1]]) r.2.1 r.2.2 else gb true (YD ((i.length+List.length [[Q5 (wJ (((List.length (d++[[D.sl 2 a.1,Q5 a.2.1]]):Nat):Int)-1)),Q5 k.1,Q5 0,Q5 0]])*32)) () fun bc=>Qy n o h j k0 m (wJ (c+1)) (i++[[Q5 (wJ (((List.length (d++[[D.sl 2 a.1,Q5 a.2.1]]):Nat):Int)-1)),Q5 k.1,Q5 0,Q5 0]]) a.2.2.1 a.2.2.2.1 a.2.2.2.2.1 a.2.2.2.2.2.1 a.2.2.2.2.2.2.1 a.2.2.2.2.2.2.2.1 a.2.2.2.2.2.2.2.2 (d++[[D.sl 2 a.1,Q5 a.2.1]]) k.2.1 k.2.2 else gb true (inB 3 c) () fun bd=>gb true (j[c.toNat]?) [] fun aq=>gb true (aq[0]?) oF fun ar=>gb true (pIw ar) 0 fun au=>gb true (inB 3 (wJ (c+1))) () fun be=>gb true (j[(Int.toNat (wJ (c+1)))]?) [] fun av=>gb true (av[0]?) oF fun aw=>gb true (pIw aw) 0 fun ax=>gb true (Y1 n t u v x y z aa c au ax o Tu9) ([],0,[],[],[],[],[],[],[]) fun b=>gb true (YD ((d.length+[[D.sl 2 b.1,Q5 b.2.1]].length)*32)) () fun bg=>gb true (Q4 n ab ac 3 Tu3) (0,[],0) fun l=>bif (decide ((wJ (c+1))<h)) then gb true (Q4 n l.2.1 l.2.2 6 Tu3) (0,[],0) fun q=>gb true (Q4 n q.2.1 q.2.2 4 Tu3) (0,[],0) fun s=>gb true (YD ((i.length+List.length [[Q5 (wJ (((List.length (d++[[D.sl 2 b.1,Q5 b.2.1]]):Nat):Int)-1)),Q5 l.1,Q5 (wJ (5+q.1)),Q5 (wJ ((wJ (5+q.1))+s.1))]])*32)) () fun bh=>Qy n o h j k0 m (wJ (c+1)) (i++[[Q5 (wJ (((List.length (d++[[D.sl 2 b.1,Q5 b.2.1]]):Nat):Int)-1)),Q5 l.1,Q5 (wJ (5+q.1)),Q5 (wJ ((wJ (5+q.1))+s.1))]]) b.2.2.1 b.2.2.2.1 b.2.2.2.2.1 b.2.2.2.2.2.1 b.2.2.2.2.2.2.1 b.2.2.2.2.2.2.2.1 b.2.2.2.2.2.2.2.2 (d++[[D.sl 2 b.1,Q5 b.2.1]]) s.2.1 s.2.2 else gb true (YD ((i.length+List.length [[Q5 (wJ (((List.length (d++[[D.sl 2 b.1,Q5 b.2.1]]):Nat):Int)-1)),Q5 l.1,Q5 0,Q5 0]])*32)) () fun bi=>Qy n o h j k0 m (wJ (c+1)) (i++[[Q5 (wJ (((List.length (d++[[D.sl 2 b.1,Q5 b.2.1]]):Nat):Int)-1)),Q5 l.1,Q5 0,Q5 0]]) b.2.2.1 b.2.2.2.1 b.2.2.2.2.1 b.2.2.2.2.2.1 b.2.2.2.2.2.2.1 b.2.2.2.2.2.2.2.1 b.2.2.2.2.2.2.2.2 (d++[[D.sl 2 b.1,Q5 b.2.1]]) l.2.1 l.2.2 else k0 c (decide (c<h)) i t u v x y z aa d ab ac
def Wz (n:Nat) (q1 q2 q3 q4 e f q7 g:LL) (h i:Int) (j k c l m o p:LL) (a3:Bool) (a4:Int) (K:LL->LL->LL->LL->LL->LL->LL->LL->Int->Int->LL->LL->LL->LL->LL->LL->LL->oP R):oP R:= gb true (Uk n (bs [78]) (c.length:Int) some) [] fun b=>gb true (Q4 n g h 4 Tu3) (0,[],0) fun a=>Zb n (fun ag ah r s t=>Qy n a3 a4 r (fun ai aj d u v x y z aa ab ac ad ae=>gb true (YD ((c.length+[[D.str b,Q5 0,Q5 a.1,D.sl 4 d]].length)*56)) () fun ak=>K u v x y z aa ab ad ae i j ac (c++[[D.str b,Q5 0,Q5 a.1,D.sl 4 d]]) l m o p) n 0 [] q1 q2 q3 q4 e f q7 k s t) n 0 [[Q5 0],[Q5 0],[Q5 0]] a.2.1 a.2.2
end Go.Vx
namespace Go.Vx
def H8 (G:Geo) (Ro:LL) (row:List D) (x y:Int) (last:Bool):Prop:=
 ∃ (rt:Nat) (ex mn mx:Int) (s:LL),row=[Q5 rt,Q5 ex,Q5 mn,Q5 mx]/\Ro[rt]? = some [D.sl 2 s,Q5 0]/\RtOK G s x y/\(0<=ex/\ex<3)/\(0<=mn/\mn<=mx/\mx<=mn+3/\mn<=10)/\(last=true->mn=0/\mx=0)
def nmN (k:Nat):List UInt8:=bs [78]++[UInt8.ofNat (48+k)]
def Q05 (G:Geo) (Ro:LL) (rides:LL):Prop:=
 (∃ r x y,rides=[r]/\H8 G Ro r x y true)\/(∃ r r' x y z,rides=[r,r']/\H8 G Ro r x y false/\H8 G Ro r' y z true)
def Q6o (G:Geo) (Ro:LL) (k:Nat) (row:List D):Prop:=∃ (w:Int) (rides:LL),row=[D.str (nmN k),Q5 0,Q5 w,D.sl 4 rides]/\0<=w/\w<4/\Q05 G Ro rides
structure GoodP (G:Geo) (Ro Ls:LL):Prop where
 ro:∀ row∈Ro,∃ s x y,row=[D.sl 2 s,Q5 0]/\RtOK G s x y
 ls:∀ k row,Ls[k]? = some row->Q6o G Ro k row
theorem H8.mono {G:Geo} {Ro t:LL} {row:List D} {x y:Int} {b:Bool} (h:H8 G Ro row x y b):H8 G (Ro++t) row x y b:=by
 obtain ⟨rt,ex,mn,mx,s,a,h2,c⟩:=h;refine ⟨rt,ex,mn,mx,s,a,?_,c⟩;rw [Qe2 (QdV.1 h2).1];exact h2
theorem Q05.mono {G:Geo} {Ro t rides:LL} (h:Q05 G Ro rides):Q05 G (Ro++t) rides:=by
 rcases h with ⟨r,x,y,e,h⟩ | ⟨r,r',x,y,z,e,h,h'⟩
 ·exact .inl ⟨r,x,y,e,h.mono⟩
 ·exact .inr ⟨r,r',x,y,z,e,h.mono,h'.mono⟩
theorem Q6o.mono {G:Geo} {Ro t:LL} {k:Nat} {row:List D} (h:Q6o G Ro k row):Q6o G (Ro++t) k row:=by
 obtain ⟨w,rides,a,h2,b,c⟩:=h;exact ⟨w,rides,a,h2,b,c.mono⟩
section
variable {R:Type} {l:List Int} (hl:l.length<=9223372036854775807) {P:R->Prop}
include hl
def atL (At:Nat->Nat):LL:=[[Q5 (At 0)],[Q5 (At 1)],[Q5 (At 2)]]
theorem Qcy {i:Nat} (hi:i<=l.length) {k0:Int->Bool->LL->LL->Int->oP R}
  (H:∀ (At:Nat->Nat) (j:Nat),(∀ i,At i<2)->j<=l.length->k0 3 false (atL At) (encI l) (j:Int)∈P) :
  Zb 400 k0 400 (0:Int) [[D.int .i64 (0:Int)],[D.int .i64 (0:Int)],[D.int .i64 (0:Int)]] (encI l) (i:Int)∈P:=by
 refine Ui hl hi (by decide) (by decide) fun d j a0 b0 hj=>?_
 refine Ui hl hj (by decide) (by decide) fun e j a1 b1 hj=>?_
 refine Ui hl hj (by decide) (by decide) fun f j a2 b2 hj=>?_
 obtain ⟨a,rfl⟩:=QdY a0;obtain ⟨b,rfl⟩:=QdY a1;obtain ⟨c,rfl⟩:=QdY a2;exact H (fun | 0=>a | 1=>b | _=>c) j (fun | 0=>by show a<2;omega | 1=>by show b<2;omega | _+2=>by show c<2;omega) hj
end
theorem atA {R:Type} {At:Nat->Nat} {g:Nat} (hg:g<3) (K:Int->oP R) :
  gb true (inB 3 (g:Int)) () (fun _=>gb true ((atL At)[(Int.toNat (g:Int))]?) [] fun r=>gb true (r[0]?) oF fun c=>gb true (pIw c) 0 fun i=>K i)=K (At g):=by
 obtain rfl | rfl | rfl:g=0\/g=1\/g=2:=by omega
 all_goals rfl
section
variable {R:Type} {l:List Int} (hl:l.length<=9223372036854775807) {P:R->Prop} {G:Geo} (hG:G.OK)
include hl hG
theorem Q7Y {up:Bool} {ak h g m:Nat} {acc q7 Ro:LL} {At:Nat->Nat} (an:∀ i,At i<2) (hm:ak<=2) (hh:h<ak) (hg:g=bif up then h else ak-1-h) (hN:ak<G.N) (hR:Ro.length<=100) (ha:acc.length<=10)
  {i:Nat} (hi:i<=l.length) {k0:Int->Bool->LL->LL->LL->LL->LL->LL->LL->LL->LL->LL->Int->oP R}
  (H:∀ (s:LL) (ex mn mx:Int) (j:Nat),RtOK G s (bif up then G.tk g (At g) else G.tk (g+1) (At (g+1))) (bif up then G.tk (g+1) (At (g+1)) else G.tk g (At g))->0<=ex/\ex<3->(0<=mn/\mn<=mx/\mx<=mn+3/\mn<=10)->(h+1=ak->mn=0/\mx=0)->j<=l.length ->
   Qy 400 up (ak:Int) (atL At) k0 m ((h+1:Nat):Int) (acc++[[Q5 (Ro.length:Nat),Q5 ex,Q5 mn,Q5 mx]]) G.St G.Pt G.Se G.Li G.Tr G.Bt q7 (Ro++[[D.sl 2 s,Q5 0]]) (encI l) (j:Int)∈P) :
  Qy 400 up (ak:Int) (atL At) k0 (m+1) (h:Int) acc G.St G.Pt G.Se G.Li G.Tr G.Bt q7 Ro (encI l) (i:Int)∈P:=by
 have au:=hG.hN;have ay:g<ak:=by
  rw [hg];cases up
  ·show ak-1-h<ak;omega
  ·exact hh
 have aq:g+1<G.N:=by omega
 obtain ⟨s,hs,e⟩:=Qat (R:=LL × Int × LL × LL × LL × LL × LL × LL × LL) hG (q1:=G.St) (q2:=G.Pt) (q3:=G.Se) (q4:=G.Li) (q7:=q7) (up:=up) aq (an g) (an (g+1));have d:wJ ((h:Int)+1)=((h+1:Nat):Int):=by rw [Qf (by omega) (by omega)];omega
 have f:wJ ((g:Int)+1)=((g+1:Nat):Int):=by rw [Qf (by omega) (by omega)];omega
 have k:up=false->wJ (wJ ((ak:Int)-1)-(h:Int))=(g:Int):=by
  intro hu;rw [Qf (x:=(ak:Int)-1) (by omega) (by omega),Qf (by omega) (by omega)];simp [hu] at hg;omega
 have am:wJ ((((Ro++[[D.sl 2 s,Q5 0]]).length:Nat):Int)-1)=((Ro.length:Nat):Int):=by
  rw [show (Ro++[[D.sl 2 s,Q5 0]]).length=Ro.length+1 by simp,Qf (by omega) (by omega)];omega
 rw [Qy,QJ (by simp;omega),d];cases up
 ·rw [QJ (c:=!false) rfl,k rfl,f,atA (by omega),atA (by omega),e,Q0,XR (by simp;omega),Q0];refine Ui hl hi (by decide) (by decide) fun ex j a b hj=>?_
  dsimp only;rw [am];by_cases hlast:h+1<ak
  ·rw [QJ (by simp;omega)];refine Ui hl hj (by decide) (by decide) fun mn j m0 m1 hj=>?_
   refine Ui hl hj (by decide) (by decide) fun mx j m2 m3 hj=>?_
   rw [XR (by simp;omega),Q0];dsimp only;rw [Qf (x:=5+mn) (by omega) (by omega),Qf (x:=5+mn+mx) (by omega) (by omega)];exact H s ex (5+mn) (5+mn+mx) j hs ⟨a,b⟩ ⟨by omega,by omega,by omega,by omega⟩ (fun hx=>absurd hx (by omega)) hj
  ·rw [Q8 (by simp;omega),XR (by simp;omega),Q0];exact H s ex 0 0 j hs ⟨a,b⟩ ⟨by omega,by omega,by omega,by omega⟩ (fun hx=>⟨rfl,rfl⟩) hj
 ·have ar:g=h:=by simpa using hg
  subst ar;rw [Q8 (c:=!true) rfl,atA (by omega),atA (by omega),e,Q0,XR (by simp;omega),Q0];refine Ui hl hi (by decide) (by decide) fun ex j a b hj=>?_
  dsimp only;rw [am];by_cases hlast:g+1<ak
  ·rw [QJ (by simp;omega)];refine Ui hl hj (by decide) (by decide) fun mn j m0 m1 hj=>?_
   refine Ui hl hj (by decide) (by decide) fun mx j m2 m3 hj=>?_
   rw [XR (by simp;omega),Q0];dsimp only;rw [Qf (x:=5+mn) (by omega) (by omega),Qf (x:=5+mn+mx) (by omega) (by omega)];exact H s ex (5+mn) (5+mn+mx) j hs ⟨a,b⟩ ⟨by omega,by omega,by omega,by omega⟩ (fun hx=>absurd hx (by omega)) hj
  ·rw [Q8 (by simp;omega),XR (by simp;omega),Q0];exact H s ex 0 0 j hs ⟨a,b⟩ ⟨by omega,by omega,by omega,by omega⟩ (fun hx=>⟨rfl,rfl⟩) hj
omit hl hG in
theorem Q3r {n m:Nat} {a3:Bool} {a4 a:Int} {p b c d e f g i j k l:LL} {o:Int} {k0:Int->Bool->LL->LL->LL->LL->LL->LL->LL->LL->LL->LL->Int->oP R} (h:¬ a<a4) :
  Qy n a3 a4 p k0 (m+1) a b c d e f g i j k l o=k0 a false b c d e f g i j k l o:=by
 rw [Qy,Q8 (by simpa using h)];simp [h]
theorem Qby {up:Bool} {an:Nat} {c:Int} {q7 d Ro Ls e f m n:LL} (hm:an=1\/an=2) (hN:an<G.N) (ak:GoodP G Ro Ls) (hR:Ro.length<=20) (hL:Ls.length<6)
  {i:Nat} (hi:i<=l.length) {K:LL->LL->LL->LL->LL->LL->LL->LL->Int->Int->LL->LL->LL->LL->LL->LL->LL->oP R}
  (H:∀ (Ro' Ls':LL) (j:Nat),GoodP G Ro' Ls'->Ls'.length=Ls.length+1->Ro'.length<=Ro.length+2->j<=l.length->K G.St G.Pt G.Se G.Li G.Tr G.Bt q7 (encI l) (j:Int) c d Ro' Ls' e f m n∈P) :
  Wz 400 G.St G.Pt G.Se G.Li G.Tr G.Bt q7 (encI l) (i:Int) c d Ro Ls e f m n up (an:Int) K∈P:=by
 unfold Wz;rw [Ee _ _ Ls.length (by omega) (by decide),Q0];refine Ui hl hi (by decide) (by decide) fun w j w0 w1 hj=>?_
 dsimp only;refine Qcy hl hj fun At j au hj=>?_
 rcases hm with rfl | rfl
 ·refine Q7Y hl hG (h:=0) (g:=0) au (by decide) (by decide) (by cases up <;> rfl) hN (by omega) (by decide) hj fun s ex mn mx j hs ar aq hlast hj=>?_
  rw [Q3r (by decide)];rw [XR (by simp;omega),Q0];refine H _ _ j ⟨fun row hr=>?_,fun k row hk=>?_⟩ (by simp) (by simp) hj
  ·rcases Qe0.1 hr with hr | hr
   ·exact ak.ro row hr
   ·rw [Qe1.1 hr];exact ⟨s,_,_,rfl,hs⟩
  ·rcases Nat.lt_or_ge k Ls.length with am | am
   ·rw [Qe2 am] at hk;exact (ak.ls k row hk).mono
   ·rw [List.getElem?_append_right am] at hk;obtain ⟨a,rfl⟩:=QdV.1 hk;simp at a;have b:k=Ls.length:=by omega
    subst b;refine ⟨w,_,by simp [nmN],w0,w1,.inl ⟨_,_,_,rfl,Ro.length,ex,mn,mx,s,rfl,by simp,hs,ar,aq,fun _=>hlast rfl⟩⟩
 ·obtain ⟨g0,o⟩:∃ g0,g0=bif up then 0 else 1:=⟨_,rfl⟩
  obtain ⟨g1,p⟩:∃ g1,g1=bif up then 1 else 0:=⟨_,rfl⟩
  refine Q7Y hl hG (h:=0) (g:=g0) au (by decide) (by decide) (by cases up <;> simpa using o) hN (by omega) (by decide) hj fun s ex mn mx j hs ar aq hlast hj=>?_
  refine Q7Y hl hG (h:=1) (g:=g1) au (by decide) (by decide) (by cases up <;> simpa using p) hN (by simp;omega) (by simp) hj fun s' a7 a8 a9 j ax ay aw ao hj=>?_
  have a6:(bif up then G.tk (g0+1) (At (g0+1)) else G.tk g0 (At g0))=(bif up then G.tk g1 (At g1) else G.tk (g1+1) (At (g1+1))):=by
   subst o p;cases up <;> rfl
  rw [a6] at hs;rw [Q3r (by decide)];rw [XR (by simp;omega),Q0];refine H _ _ j ⟨fun row hr=>?_,fun k row hk=>?_⟩ (by simp) (by simp) hj
  ·rcases Qe0.1 hr with hr | hr
   ·rcases Qe0.1 hr with hr | hr
    ·exact ak.ro row hr
    ·rw [Qe1.1 hr];exact ⟨s,_,_,rfl,hs⟩
   ·rw [Qe1.1 hr];exact ⟨s',_,_,rfl,ax⟩
  ·rcases Nat.lt_or_ge k Ls.length with am | am
   ·rw [Qe2 am] at hk;exact (ak.ls k row hk).mono.mono
   ·rw [List.getElem?_append_right am] at hk;obtain ⟨a,rfl⟩:=QdV.1 hk;simp at a;have b:k=Ls.length:=by omega
    subst b;refine ⟨w,_,by simp [nmN],w0,w1,.inr ⟨_,_,_,_,_,rfl,H8.mono ⟨Ro.length,ex,mn,mx,s,rfl,by simp,hs,ar,aq,fun h=>by cases h⟩,(Ro++[[D.sl 2 s,Q5 0]]).length,a7,a8,a9,s',rfl,by simp,ax,ay,aw,fun _=>ao rfl⟩⟩
end
end Go.Vx
namespace Go.Vx
variable {R:Type}
def PT (n:Nat) (q:Int) (r c d s t u v:LL) (a1 a2:Int) (K:Int->oP R):oP R:= gb true (Q2 d a1) [] fun e=>gb true (e[3]?) oF fun f=>gb true (pSl 4 f) [] fun g=>gb true (Q2 g a2) [] fun h=>gb true (h[0]?) oF fun i=>gb true (pIw i) 0 fun j=>gb true (Q2 c j) [] fun a=>gb true (a[0]?) oF fun b=>gb true (a[1]?) oF fun x=>gb true (pSl 2 b) [] fun k=>gb true (pSl 2 b) [] fun l=>gb true (Q2 k (wJ ((l.length:Int)-1))) [] fun m=>gb true (m[0]?) oF fun o=>gb true (pIw o) 0 fun p=>K p
def Ht (n:Nat) (p:Int) (q a b r s t u:LL) (a1 a2:Int) (K:Int->oP R):oP R:= gb true (Q2 b a1) [] fun c=>gb true (c[3]?) oF fun d=>gb true (pSl 4 d) [] fun e=>gb true (Q2 e a2) [] fun f=>gb true (f[0]?) oF fun g=>gb true (pIw g) 0 fun h=>gb true (Q2 a h) [] fun i=>gb true (i[0]?) oF fun j=>gb true (pSl 2 j) [] fun k=>gb true (Q2 k 0) [] fun l=>gb true (l[0]?) oF fun m=>gb true (pIw m) 0 fun o=>K o

def XW (n:Nat) (c p:Int) (q r f s t u:LL) (v:Int) (k0:Int->Bool->LL->LL->LL->LL->Int->oP R):Nat->Int->LL->LL->LL->LL->Int->oP R
 | 0,_,_,_,_,_,_=>none
 | m+1,b,i,j,g,y,z=>bif decide (b<p) then gb true (Q4 n y z 3 Tu3) (0,[],0) fun a=>gb (decide (a.1>0)) (inB 4 c) () fun am=>gb (decide (a.1>0)) (i[c.toNat]?) [] fun aa=>gb (decide (a.1>0)) (aa[0]?) oF fun ab=>gb (decide (a.1>0)) (PM ab) false fun d=>gb (bif decide (a.1>0) then (!d) else false) (inB 4 b) () fun an=>gb (bif decide (a.1>0) then (!d) else false) (j[b.toNat]?) [] fun ac=>gb (bif decide (a.1>0) then (!d) else false) (ac[0]?) oF fun ad=>gb (bif decide (a.1>0) then (!d) else false) (PM ad) false fun e=>gb (bif (bif decide (a.1>0) then (!d) else false) then (!e) else false) (inB (f.length) c) () fun ao=>gb (bif (bif decide (a.1>0) then (!d) else false) then (!e) else false) (f[c.toNat]?) [] fun ae=>gb (bif (bif decide (a.1>0) then (!d) else false) then (!e) else false) (ae[3]?) oF fun ag=>gb (bif (bif decide (a.1>0) then (!d) else false) then (!e) else false) (pSl 4 ag) [] fun ah=>gb (bif (bif decide (a.1>0) then (!d) else false) then (!e) else false) (PT n v q r f s g t u c (wJ ((ah.length:Int)-1)) some) 0 fun ai=>gb (bif (bif decide (a.1>0) then (!d) else false) then (!e) else false) (Ht n v q r f s g t u b 0 some) 0 fun aj=>bif (bif (bif (bif decide (a.1>0) then (!d) else false) then (!e) else false) then (ai == aj) else false) then gb true (inB 4 c) () fun ap=>gb true (i[c.toNat]?) [] fun ak=>gb true (inB 4 b) () fun aq=>gb true (j[b.toNat]?) [] fun al=>gb true (Q4 n a.2.1 a.2.2 10 Tu3) (0,[],0) fun h=>gb true (Q4 n h.2.1 h.2.2 30 Tu3) (0,[],0) fun x=>gb true (YD ((g.length+[[Q5 c,Q5 b,Q5 (wJ (10+h.1)),Q5 (wJ ((wJ (10+h.1))+x.1))]].length)*32)) () fun ar=>XW n c p q r f s t u v k0 m (wJ (b+1)) (List.set i c.toNat (List.set ak 0 (D.bool true))) (List.set j b.toNat (List.set al 0 (D.bool true))) (g++[[Q5 c,Q5 b,Q5 (wJ (10+h.1)),Q5 (wJ ((wJ (10+h.1))+x.1))]]) x.2.1 x.2.2 else XW n c p q r f s t u v k0 m (wJ (b+1)) i j g a.2.1 a.2.2 else k0 b (decide (b<p)) i j g y z
def ZR (n:Nat) (a:Int) (c d b e f g:LL) (h:Int) (k0:Int->Bool->LL->LL->LL->LL->Int->oP R):Nat->Int->LL->LL->LL->LL->Int->oP R
 | 0,_,_,_,_,_,_=>none
 | m+1,h2,i,j,k,l,o=>bif decide (h2<a) then XW n h2 (b.length:Int) c d b e f g h (fun u v p q r s t=>ZR n a c d b e f g h k0 m (wJ (h2+1)) p q r s t) n 0 i j k l o else k0 h2 (decide (h2<a)) i j k l o
def GU (n:Nat) (d:LL) (e a:Int) (q2 q3 q4 b f q7 c:LL) (K:LL->Int->Int->LL->LL->LL->LL->LL->LL->LL->oP R):oP R:= ZR n (q4.length:Int) q2 q3 q4 b q7 c a (fun j k l m g h i=>K h i a q2 q3 q4 b g q7 c) n 0 [[D.bool false],[D.bool false],[D.bool false],[D.bool false]] [[D.bool false],[D.bool false],[D.bool false],[D.bool false]] f d e

end Go.Vx
namespace Go.Vx
def K3 (Ls:LL) (k i:Nat) (r:List D):Prop:=∃ nm w rides,Ls[k]? = some [D.str nm,Q5 0,Q5 w,D.sl 4 rides]/\rides[i]? = some r
theorem Qp (w:LL) (i:Nat):Q2 w (i:Int)=w[i]?:=by simp [Q2]
section
variable {R:Type} {n:Nat}
theorem Q7v {G:Geo} {Ro Ls:LL} {k i:Nat} {r:List D} {x y:Int} {b:Bool} (h:K3 Ls k i r) (hr:H8 G Ro r x y b) {p:Int} {a1 a4 a5 a c:LL} (K:Int->oP R):Ht n p a1 Ro Ls a4 a5 a c (k:Int) (i:Int) K=K x:=by
 obtain ⟨nm,w,rides,e,h2⟩:=h;obtain ⟨rt,ex,mn,mx,s,rfl,f,g,_⟩:=hr;obtain ⟨d,j⟩:=g.fst;unfold Ht;rw [Qp,e,Q0];dsimp only [List.getElem?_cons_zero,List.getElem?_cons_succ];rw [Q0,X6,Q0,Qp,h2,Q0];dsimp only [List.getElem?_cons_zero,List.getElem?_cons_succ];rw [Q0,Q1,Q0,Qp,f,Q0];dsimp only [List.getElem?_cons_zero,List.getElem?_cons_succ];rw [Q0,X6,Q0,j];rfl
theorem Q9N {G:Geo} {Ro Ls:LL} {k i:Nat} {r:List D} {x y:Int} {b:Bool} (h:K3 Ls k i r) (hr:H8 G Ro r x y b) {p:Int} {a1 a4 a5 c e:LL} (K:Int->oP R):PT n p a1 Ro Ls a4 a5 c e (k:Int) (i:Int) K=K y:=by
 obtain ⟨nm,w,rides,f,h2⟩:=h;obtain ⟨rt,ex,mn,mx,s,rfl,g,a,_⟩:=hr;obtain ⟨d,j⟩:=a.lst;have l2:=a.l2;have l24:=a.l24;unfold PT;rw [Qp,f,Q0];dsimp only [List.getElem?_cons_zero,List.getElem?_cons_succ];rw [Q0,X6,Q0,Qp,h2,Q0];dsimp only [List.getElem?_cons_zero,List.getElem?_cons_succ];rw [Q0,Q1,Q0,Qp,g,Q0];dsimp only [List.getElem?_cons_zero,List.getElem?_cons_succ];rw [Q0,Q0,X6,Q0,Q0,Qf (by omega) (by omega),j];rfl
end
theorem Q2Q {G:Geo} {Ro Ls:LL} (hg:GoodP G Ro Ls) {k:Nat} (hk:k<Ls.length) :
  ∃ (w:Int) (rides:LL) (r r':List D) (x x' y y':Int) (b:Bool),Ls[k]? = some [D.str (nmN k),Q5 0,Q5 w,D.sl 4 rides]/\(rides.length=1\/rides.length=2)/\rides[0]? = some r/\rides[rides.length-1]? = some r'/\H8 G Ro r x y b/\H8 G Ro r' x' y' true:=by
 obtain ⟨w,rides,a,h2,d,c⟩:=hg.ls k _ (QdT hk);refine ⟨w,rides,?_⟩;rw [QdT hk,a];rcases c with ⟨r,x,y,rfl,h⟩ | ⟨r,r',x,y,z,rfl,h,h'⟩
 ·exact ⟨r,r,x,x,y,y,true,rfl,.inl rfl,rfl,rfl,h,h⟩
 ·exact ⟨r,r',x,y,y,z,false,rfl,.inr rfl,rfl,rfl,h,h'⟩
abbrev Tup:=Nat × Nat × Int × Int
def tuR (t:Tup):List D:=[Q5 t.1,Q5 t.2.1,Q5 t.2.2.1,Q5 t.2.2.2]
def Q5F (G:Geo) (Ro Ls:LL) (t:Tup):Prop:=
 t.1<Ls.length/\t.2.1<Ls.length/\10<=t.2.2.1/\t.2.2.1<=19/\t.2.2.1<=t.2.2.2/\t.2.2.2<=t.2.2.1+29 /\
 ∃ (nm:List UInt8) (w:Int) (rides:LL) (r r':List D) (x y z:Int) (b b':Bool),Ls[t.1]? = some [D.str nm,Q5 0,Q5 w,D.sl 4 rides]/\rides[rides.length-1]? = some r/\1<=rides.length/\rides.length<=2/\K3 Ls t.2.1 0 r'/\H8 G Ro r x y b/\H8 G Ro r' y z b'
structure TInv (G:Geo) (Ro Ls:LL) (T:List Tup) (FA TA:LL):Prop where
 ok:∀ t∈T,Q5F G Ro Ls t
 fd:(T.map (·.1)).Nodup
 td:(T.map (·.2.1)).Nodup
 fl:∀ i,i<4->∃ b,FA[i]? = some [D.bool b]/\(b=false->i ∉ T.map (·.1))
 tl:∀ i,i<4->∃ b,TA[i]? = some [D.bool b]/\(b=false->i ∉ T.map (·.2.1))
theorem gbF {α R:Type} (p:Option α) (z:α) (k:α->oP R):gb false p z k=k (p.getD z):=by cases p <;> rfl
theorem TInv.add {G:Geo} {Ro Ls:LL} {T:List Tup} {FA TA:LL} (h:TInv G Ro Ls T FA TA) {t:Tup} (ht:Q5F G Ro Ls t) (d:t.1 ∉ T.map (·.1)) (h2:t.2.1 ∉ T.map (·.2.1)):TInv G Ro Ls (T++[t]) (FA.set t.1 [D.bool true]) (TA.set t.2.1 [D.bool true]) where
 ok:=fun u hu=>by
  rcases Qe0.1 hu with hu | hu
  ·exact h.ok u hu
  ·rw [Qe1.1 hu];exact ht
 fd:=by
  rw [List.map_append,List.nodup_append];refine ⟨h.fd,by simp,fun a ha b hb=>?_⟩;simp at hb;subst hb;intro e;subst e;exact d ha
 td:=by
  rw [List.map_append,List.nodup_append];refine ⟨h.td,by simp,fun a ha b hb=>?_⟩;simp at hb;subst hb;intro e;subst e;exact h2 ha
 fl:=fun i hi=>by
  obtain ⟨b,e,hb⟩:=h.fl i hi;by_cases ak:t.1=i
  ·subst ak;refine ⟨true,?_,fun h=>by cases h⟩;rw [List.getElem?_set_self (QdV.1 e).1]
  ·refine ⟨b,by rw [List.getElem?_set_ne ak];exact e,fun c hm=>?_⟩;rw [List.map_append] at hm;rcases Qe0.1 hm with hm | hm
   ·exact hb c hm
   ·simp at hm;exact ak hm.symm
 tl:=fun i hi=>by
  obtain ⟨b,e,hb⟩:=h.tl i hi;by_cases ak:t.2.1=i
  ·subst ak;refine ⟨true,?_,fun h=>by cases h⟩;rw [List.getElem?_set_self (QdV.1 e).1]
  ·refine ⟨b,by rw [List.getElem?_set_ne ak];exact e,fun c hm=>?_⟩;rw [List.map_append] at hm;rcases Qe0.1 hm with hm | hm
   ·exact hb c hm
   ·simp at hm;exact ak hm.symm
section
variable {R:Type} {l:List Int} (hl:l.length<=9223372036854775807) {P:R->Prop} {G:Geo} {Ro Ls:LL} (hg:GoodP G Ro Ls) (hL:Ls.length<=3)
include hl hg hL
theorem QaL {a b m:Nat} {b1:Int} {FA TA q2 c q7 d:LL} {T:List Tup} (ha:a<Ls.length) (hb:b<Ls.length) (hT:TInv G Ro Ls T FA TA) (bd:T.length<=100) {i:Nat} (hi:i<=l.length) {k0:Int->Bool->LL->LL->LL->LL->Int->oP R}
  (H:∀ (FA TA:LL) (T':List Tup) (j:Nat),TInv G Ro Ls T' FA TA->T'.length<=T.length+1->j<=l.length->XW 400 (a:Int) ((Ls.length:Nat):Int) q2 Ro Ls c q7 d b1 k0 m ((b+1:Nat):Int) FA TA (T'.map tuR) (encI l) (j:Int)∈P) :
  XW 400 (a:Int) ((Ls.length:Nat):Int) q2 Ro Ls c q7 d b1 k0 (m+1) (b:Int) FA TA (T.map tuR) (encI l) (i:Int)∈P:=by
 have ay:wJ ((b:Int)+1)=((b+1:Nat):Int):=by rw [Qf (by omega) (by omega)];omega
 rw [XW,QJ (by simp;omega),ay];refine Ui hl hi (by decide) (by decide) fun v j p q hj=>?_
 dsimp only;have ak:=H FA TA T j hT (by omega) hj;by_cases hv:v=0
 ·subst hv;rw [show decide ((0:Int)>0)=false from rfl];simp only [gbF,QdS];exact ak
 rw [show decide (v>0)=true by simp;omega];obtain ⟨fb,ef,hf⟩:=hT.fl a (by omega);obtain ⟨tb,et,ht⟩:=hT.tl b (by omega);rw [ZG (by omega) (by omega),Q0,Int.toNat_natCast,ef,Q0];show gb true (some (D.bool fb)) _ (fun h=>gb true (PM h) _ _)∈P;rw [Q0,show PM (D.bool fb)=some fb from rfl,Q0];cases fb
 case true=>
  simp only [gbF,QdW,QdS,QdX];exact ak
 rw [show (bif true then !false else false)=true from rfl,ZG (by omega) (by omega),Q0,Int.toNat_natCast,et,Q0];show gb true (some (D.bool tb)) _ (fun k=>gb true (PM k) _ _)∈P;rw [Q0,show PM (D.bool tb)=some tb from rfl,Q0];cases tb
 case true=>
  simp only [gbF,QdW,QdS,QdX];exact ak
 obtain ⟨w,rides,s,r,u,x,z,y,b0,e1,e2,e3,e,e5,f⟩:=Q2Q hg ha;obtain ⟨w',aq,r',r1,x',x1,y',y1,bi,g1,g2,n,g4,g,g6⟩:=Q2Q hg hb;have ax:K3 Ls a (rides.length-1) r:=⟨_,_,_,e1,e⟩;have ao:K3 Ls b 0 r':=⟨_,_,_,g1,n⟩;have a7:wJ (((rides.length:Nat):Int)-1)=((rides.length-1:Nat):Int):=by rw [Qf (by omega) (by omega)];omega
 rw [show (bif true then !false else false)=true from rfl,ZG (by omega) (by omega),Q0,e1,Q0];show gb true (some (D.sl 4 rides)) _ (fun o=>gb true (pSl 4 o) _ _)∈P;rw [Q0,X6,Q0,a7,Q9N ax f,Q0,show (0:Int)=((0:Nat):Int) from rfl,Q7v ao g,Q0];by_cases an:y=x'
 case neg=>
  rw [Q8 (by simpa using an)];exact ak
 subst an;rw [QJ (by simp),Q0,Q0,Q0,Q0];refine Ui hl hj (by decide) (by decide) fun lo j l0 l1 hj=>?_
 refine Ui hl hj (by decide) (by decide) fun am j h0 h1 hj=>?_
 dsimp only;rw [XR (by simp;omega),Q0,Qf (x:=10+lo) (by omega) (by omega),Qf (x:=10+lo+am) (by omega) (by omega)];have:=H _ _ (T++[(a,b,10+lo,10+lo+am)]) j (hT.add (t:=(a,b,10+lo,10+lo+am)) ⟨ha,hb,by simp;omega,by simp;omega,by simp;omega,by simp;omega,_,_,_,_,_,_,_,_,_,_,e1,e,by omega,by omega,ao,f,g⟩ (hf rfl) (ht rfl)) (by simp) hj;rw [List.map_append] at this;exact this
theorem Q7w {a:Nat} {b1:Int} {q2 c q7 d:LL} (ha:a<Ls.length) {k0:Int->Bool->LL->LL->LL->LL->Int->oP R}:∀ (k m b:Nat) (FA TA:LL) (T:List Tup) (i:Nat),b+k=Ls.length->k<m->TInv G Ro Ls T FA TA->T.length+k<=60->i<=l.length ->
  (∀ (FA TA:LL) (T':List Tup) (j:Nat),TInv G Ro Ls T' FA TA->T'.length<=T.length+k->j<=l.length->k0 ((Ls.length:Nat):Int) false FA TA (T'.map tuR) (encI l) (j:Int)∈P) ->
  XW 400 (a:Int) ((Ls.length:Nat):Int) q2 Ro Ls c q7 d b1 k0 m (b:Int) FA TA (T.map tuR) (encI l) (i:Int)∈P
 |0,m+1,b,FA,TA,T,i,hb,_,hT,an,hi,H=>by
  have hb:b=Ls.length:=by omega
  subst hb;rw [XW,Q8 (by simp),show decide (((Ls.length:Nat):Int)<((Ls.length:Nat):Int))=false by simp];exact H FA TA T i hT (by omega) hi
 |k+1,m+1,b,FA,TA,T,i,hb,hm,hT,an,hi,H=>by
  refine QaL hl hg hL ha (by omega) hT (by omega) hi fun FA TA T' j aq ar hj=>?_
  exact Q7w ha k m (b+1) FA TA T' j (by omega) (by omega) aq (by omega) hj fun FA TA T'' j ak am hj=>H FA TA T'' j ak (by omega) hj
theorem Q7h {b1:Int} {q2 b q7 c:LL} {k0:Int->Bool->LL->LL->LL->LL->Int->oP R}:∀ (k m a:Nat) (FA TA:LL) (T:List Tup) (i:Nat),a+k=Ls.length->k<m->TInv G Ro Ls T FA TA->T.length+3*k<=50->i<=l.length ->
  (∀ (FA TA:LL) (T':List Tup) (j:Nat),TInv G Ro Ls T' FA TA->T'.length<=T.length+3*k->j<=l.length->k0 ((Ls.length:Nat):Int) false FA TA (T'.map tuR) (encI l) (j:Int)∈P) ->
  ZR 400 ((Ls.length:Nat):Int) q2 Ro Ls b q7 c b1 k0 m (a:Int) FA TA (T.map tuR) (encI l) (i:Int)∈P
 |0,m+1,a,FA,TA,T,i,hb,_,hT,an,hi,H=>by
  have hb:a=Ls.length:=by omega
  subst hb;rw [ZR,Q8 (by simp),show decide (((Ls.length:Nat):Int)<((Ls.length:Nat):Int))=false by simp];exact H FA TA T i hT (by omega) hi
 |k+1,m+1,a,FA,TA,T,i,hb,hm,hT,an,hi,H=>by
  rw [ZR,QJ (by simp;omega)];refine Q7w hl hg hL (by omega) Ls.length 400 0 FA TA T i (by omega) (by omega) hT (by omega) hi fun FA TA T' j aq ar hj=>?_
  rw [show wJ ((a:Int)+1)=((a+1:Nat):Int) by rw [Qf (by omega) (by omega)];omega];exact Q7h k m (a+1) FA TA T' j (by omega) (by omega) aq (by omega) hj fun FA TA T'' j ak am hj=>H FA TA T'' j ak (by omega) hj
theorem QaH {b1:Int} {q2 a q7 b:LL} {i:Nat} (hi:i<=l.length) {K:LL->Int->Int->LL->LL->LL->LL->LL->LL->LL->oP R}
  (H:∀ (T:List Tup) (j:Nat),(∀ t∈T,Q5F G Ro Ls t)->(T.map (·.1)).Nodup->(T.map (·.2.1)).Nodup->T.length<=20->j<=l.length->K (encI l) (j:Int) b1 q2 Ro Ls a (T.map tuR) q7 b∈P) :
  GU 400 (encI l) (i:Int) b1 q2 Ro Ls a [] q7 b K∈P:=by
 unfold GU;refine Q7h hl hg hL (T:=[]) Ls.length 400 0 _ _ i (by omega) (by omega) ⟨by simp,by simp,by simp,?_,?_⟩ (by simp;omega) hi fun FA TA T j hT am hj=>?_
 ·intro i hi;obtain rfl | rfl | rfl | rfl:i=0\/i=1\/i=2\/i=3:=by omega
  all_goals exact ⟨false,rfl,by simp⟩
 ·intro i hi;obtain rfl | rfl | rfl | rfl:i=0\/i=1\/i=2\/i=3:=by omega
  all_goals exact ⟨false,rfl,by simp⟩
 ·exact H T j hT.ok hT.fd hT.td (by simp at am;omega) hj
end
end Go.Vx
namespace Go.Vx
variable {R:Type}
def S4 (n:Nat) (a0:LL) (K:LL->Int->oP R):oP R:= K a0 0
def Vt (n:Nat)  (k0:Int->Bool->Int->LL->LL->Int->LL->LL->LL->LL->LL->LL->LL->LL->LL->LL->LL->LL->LL->oP R):Nat->Int->Int->LL->LL->Int->LL->LL->LL->LL->LL->LL->LL->LL->LL->LL->LL->LL->LL->oP R
 | 0,_,_,_,_,_,_,_,_,_,_,_,_,_,_,_,_,_,_=>none
 | m+1,e,i,j,k,l,o,p,q,r,s,f,t,u,v,x,y,z,aa=>bif decide (e>0) then gb true (Q4 n k l 2 Tu3) (0,[],0) fun g=>gb true (Q4 n g.2.1 g.2.2 (f.length:Int) Tu3) (0,[],0) fun h=>gb true (Wz n o p q r s f t h.2.1 h.2.2 i j u v x y z aa (g.1 == 0) (wJ (1+h.1)) Tu17) ([],[],[],[],[],[],[],[],0,0,[],[],[],[],[],[],[]) fun a=>Vt n k0 m (wJ (e-1)) a.2.2.2.2.2.2.2.2.2.1 a.2.2.2.2.2.2.2.2.2.2.1 a.2.2.2.2.2.2.2.1 a.2.2.2.2.2.2.2.2.1 a.1 a.2.1 a.2.2.1 a.2.2.2.1 a.2.2.2.2.1 a.2.2.2.2.2.1 a.2.2.2.2.2.2.1 a.2.2.2.2.2.2.2.2.2.2.2.1 a.2.2.2.2.2.2.2.2.2.2.2.2.1 a.2.2.2.2.2.2.2.2.2.2.2.2.2.1 a.2.2.2.2.2.2.2.2.2.2.2.2.2.2.1 a.2.2.2.2.2.2.2.2.2.2.2.2.2.2.2.1 a.2.2.2.2.2.2.2.2.2.2.2.2.2.2.2.2 else k0 e (decide (e>0)) i j k l o p q r s f t u v x y z aa
def UC (n:Nat) (j:Int) (p q a f r s t:LL) (k0:Int->Bool->LL->Int->LL->oP R):Nat->Int->LL->Int->LL->oP R
 | 0,_,_,_,_=>none
 | m+1,k,v,x,g=>bif (bif decide (k>0) then (decide ((a.length:Int)>1)) else false) then gb true (Q4 n v x (a.length:Int) Tu3) (0,[],0) fun b=>gb true (Q4 n b.2.1 b.2.2 3 Tu3) (0,[],0) fun u=>gb true (nz (a.length:Int)) () fun an=>gb true (inB (a.length) b.1) () fun ao=>gb true (a[(Int.toNat b.1)]?) [] fun aa=>gb true (aa[3]?) oF fun ab=>gb true (pSl 4 ab) [] fun ac=>gb true (Q4 n u.2.1 u.2.2 (ac.length:Int) Tu3) (0,[],0) fun l=>gb true (inB (a.length) (Int.tmod (wJ (b.1+1)) (a.length:Int))) () fun ap=>gb true (a[(Int.toNat (Int.tmod (wJ (b.1+1)) (a.length:Int)))]?) [] fun ad=>gb true (ad[3]?) oF fun ae=>gb true (pSl 4 ae) [] fun ag=>gb true (Q4 n l.2.1 l.2.2 (ag.length:Int) Tu3) (0,[],0) fun o=>gb true (Q4 n o.2.1 o.2.2 20 Tu3) (0,[],0) fun h=>gb true (Q4 n h.2.1 h.2.2 j Tu3) (0,[],0) fun i=>gb true (PT n j p q a g r s t b.1 l.1 some) 0 fun y=>gb true (inB (f.length) y) () fun aq=>gb true (f[y.toNat]?) [] fun ah=>gb true (ah[4]?) oF fun ai=>gb true (pIw ai) 0 fun aj=>gb true (Ht n j p q a g r s t (Int.tmod (wJ (b.1+1)) (a.length:Int)) o.1 some) 0 fun z=>gb true (inB (f.length) z) () fun ar=>gb true (f[z.toNat]?) [] fun ak=>gb true (ak[4]?) oF fun al=>gb true (pIw al) 0 fun am=>bif (aj == am) then gb true (YD ((g.length+[[Q5 b.1,Q5 l.1,Q5 (Int.tmod (wJ (b.1+1)) (a.length:Int)),Q5 o.1,Q5 h.1,Q5 (wJ (h.1+i.1)),Q5 u.1]].length)*56)) () fun au=>UC n j p q a f r s t k0 m (wJ (k-1)) i.2.1 i.2.2 (g++[[Q5 b.1,Q5 l.1,Q5 (Int.tmod (wJ (b.1+1)) (a.length:Int)),Q5 o.1,Q5 h.1,Q5 (wJ (h.1+i.1)),Q5 u.1]]) else UC n j p q a f r s t k0 m (wJ (k-1)) i.2.1 i.2.2 g else k0 k (bif decide (k>0) then (decide ((a.length:Int)>1)) else false) v x g
def WS (n:Nat) (a:LL) (k0:Int->Bool->LL->Int->LL->oP R):Nat->Int->LL->Int->LL->oP R
 | 0,_,_,_,_=>none
 | m+1,f,j,k,i=>bif decide (f>0) then gb true (Q4 n j k (a.length:Int) Tu3) (0,[],0) fun b=>gb true (Q4 n b.2.1 b.2.2 (wJ ((a.length:Int)-1)) Tu3) (0,[],0) fun g=>gb true (nz (a.length:Int)) () fun l=>gb true (Q4 n g.2.1 g.2.2 9 Tu3) (0,[],0) fun h=>gb true (YD ((i.length+[[Q5 b.1,Q5 (Int.tmod (wJ ((wJ (b.1+1))+g.1)) (a.length:Int)),Q5 (wJ (1+h.1))]].length)*24)) () fun o=>WS n a k0 m (wJ (f-1)) h.2.1 h.2.2 (i++[[Q5 b.1,Q5 (Int.tmod (wJ ((wJ (b.1+1))+g.1)) (a.length:Int)),Q5 (wJ (1+h.1))]]) else k0 f (decide (f>0)) j k i
def G1 (n:Nat) (a:LL) (k0:Int->Bool->LL->Int->LL->oP R):Nat->Int->LL->Int->LL->oP R
 | 0,_,_,_,_=>none
 | m+1,f,j,k,i=>bif decide (f>0) then gb true (Q4 n j k (a.length:Int) Tu3) (0,[],0) fun b=>gb true (Q4 n b.2.1 b.2.2 (wJ ((a.length:Int)-1)) Tu3) (0,[],0) fun g=>gb true (nz (a.length:Int)) () fun l=>gb true (Q4 n g.2.1 g.2.2 9 Tu3) (0,[],0) fun h=>gb true (YD ((i.length+[[Q5 b.1,Q5 (Int.tmod (wJ ((wJ (b.1+1))+g.1)) (a.length:Int)),Q5 (wJ (1+h.1))]].length)*24)) () fun o=>G1 n a k0 m (wJ (f-1)) h.2.1 h.2.2 (i++[[Q5 b.1,Q5 (Int.tmod (wJ ((wJ (b.1+1))+g.1)) (a.length:Int)),Q5 (wJ (1+h.1))]]) else k0 f (decide (f>0)) j k i
def Nq (n:Nat) (a0:LL) (K:LL->LL->LL->LL->Int->LL->LL->LL->LL->LL->LL->LL->oP R):oP R:= gb true (S4 n a0 Tu2) ([],0) fun b=>gb true (E3 n b.1 b.2 Tu9) ([],[],[],[],[],[],[],[],0) fun a=>gb true (Q4 n a.2.2.2.2.2.2.2.1 a.2.2.2.2.2.2.2.2 6 Tu3) (0,[],0) fun e=>gb true (inB (List.length [[Q5 150],[Q5 120],[Q5 180],[Q5 240],[Q5 300],[Q5 90]]) e.1) () fun u4=>gb true ([[Q5 150],[Q5 120],[Q5 180],[Q5 240],[Q5 300],[Q5 90]][(Int.toNat e.1)]?) [] fun g=>gb true (g[0]?) oF fun c6=>gb true (pIw c6) 0 fun i7=>gb true (Q4 n e.2.1 e.2.2 2 Tu3) (0,[],0) fun f=>gb true (Q4 n f.2.1 f.2.2 4 Tu3) (0,[],0) fun h=>gb true (Q4 n h.2.1 h.2.2 3 Tu3) (0,[],0) fun p=>gb true (Q4 n p.2.1 p.2.2 3 Tu3) (0,[],0) fun q=>gb true (Q4 n q.2.1 q.2.2 3 Tu3) (0,[],0) fun r=>Vt n (fun au av ac ad ae ag j x s y aw ax ay ah ai aj ak al am=>gb true (GU n ae ag ac ad ah ai aj ak al am Tu10) ([],0,0,[],[],[],[],[],[],[]) fun d=>gb true (Q4 n d.1 d.2.1 3 Tu3) (0,[],0) fun t=>UC n d.2.2.1 d.2.2.2.1 d.2.2.2.2.1 d.2.2.2.2.2.1 s d.2.2.2.2.2.2.2.1 d.2.2.2.2.2.2.2.2.1 d.2.2.2.2.2.2.2.2.2 (fun az ba an ao z=>gb true (Q4 n an ao 4 Tu3) (0,[],0) fun i=>bif (bif (i.1 == 3) then (decide ((d.2.2.2.2.2.1.length:Int)>1)) else false) then gb true (Q4 n i.2.1 i.2.2 d.2.2.1 Tu3) (0,[],0) fun k=>gb true (YD ((d.2.2.2.2.2.2.2.2.1.length+[[Q5 0,Q5 0,Q5 1,Q5 0,Q5 k.1]].length)*40)) () fun bb=>gb true (Q4 n k.2.1 k.2.2 3 Tu3) (0,[],0) fun u=>WS n j (fun bc bd be bg ap=>K j x s y d.2.2.1 d.2.2.2.1 d.2.2.2.2.1 d.2.2.2.2.2.1 z d.2.2.2.2.2.2.2.1 (d.2.2.2.2.2.2.2.2.1++[[Q5 0,Q5 0,Q5 1,Q5 0,Q5 k.1]]) ap) n u.1 u.2.1 u.2.2 d.2.2.2.2.2.2.2.2.2 else gb true (Q4 n i.2.1 i.2.2 3 Tu3) (0,[],0) fun v=>G1 n j (fun bh bi bj bk aq=>K j x s y d.2.2.1 d.2.2.2.1 d.2.2.2.2.1 d.2.2.2.2.2.1 z d.2.2.2.2.2.2.2.1 d.2.2.2.2.2.2.2.2.1 aq) n v.1 v.2.1 v.2.2 d.2.2.2.2.2.2.2.2.2) n t.1 t.2.1 t.2.2 d.2.2.2.2.2.2.1) n (wJ (1+r.1)) i7 [[D.str (bs [88]),Q5 (wJ (1+f.1)),Q5 (wJ (10000+(wJ (5000*h.1)))),Q5 (wJ (400+(wJ (200*p.1)))),Q5 (wJ (400+(wJ (200*q.1))))]] r.2.1 r.2.2 a.1 a.2.1 a.2.2.1 a.2.2.2.1 a.2.2.2.2.1 a.2.2.2.2.2.1 a.2.2.2.2.2.2.1 [] [] [] [] [] []

end Go.Vx
namespace Go.Vx
theorem Tn {w:LL} {x:Int} {r:List D} (h:Q2 w x=some r):inB w.length x=some ()/\w[x.toNat]? = some r:=by
 unfold Q2 at h;by_cases hx:0<=x
 ·rw [QJ (by simpa using hx)] at h;have:=(QdV.1 h).1;exact ⟨ZG hx (by omega),h⟩
 ·rw [Q8 (by simpa using hx)] at h;cases h
def Q2u (G:Geo) (per:Int) (Ro Ls:LL) (row:List D):Prop:=
 ∃ (f fr t tr:Nat) (mn mx w:Int) (r r':List D) (x y x' y':Int) (b b':Bool) (i:Int),row=[Q5 f,Q5 fr,Q5 t,Q5 tr,Q5 mn,Q5 mx,Q5 w]/\K3 Ls f fr r/\K3 Ls t tr r'/\H8 G Ro r x y b/\H8 G Ro r' x' y' b'/\f≠t/\(0<=mn/\mn<20/\mn<=mx/\mx<mn+per)/\(0<=w/\w<3) /\
  (∃ nm a c d,Q2 G.Se y=some [D.str nm,Q5 a,Q5 c,Q5 d,Q5 i])/\(∃ nm a c d,Q2 G.Se x'=some [D.str nm,Q5 a,Q5 c,Q5 d,Q5 i])/\0<=i
def QbF (per:Int) (Ls:LL) (row:List D):Prop:=∃ o:Int,row=[Q5 0,Q5 0,Q5 1,Q5 0,Q5 o]/\0<=o/\o<per/\2<=Ls.length
def QbL (N:Nat) (row:List D):Prop:=∃ f t w:Int,row=[Q5 f,Q5 t,Q5 w]/\(0<=f/\f<N)/\(0<=t/\t<N)/\f≠t/\1<=w/\w<=9
def CO (Sk:LL):Prop:=∃ a b c d:Int,Sk=[[D.str (bs [88]),Q5 a,Q5 b,Q5 c,Q5 d]]/\StkN a b c d
structure PlanR (G:Geo) (per:Int) (Sk Ro Ls Ch Tu Sy De:LL):Prop where
 ok:G.OK
 p0:90<=per
 p1:per<=300
 sk:CO Sk
 good:GoodP G Ro Ls
 l0:1<=Ls.length
 l1:Ls.length<=3
 rl:Ro.length<=6
 ch:∀ row∈Ch,Q2u G per Ro Ls row
 chl:Ch.length<=2
 tu:∃ T:List Tup,Tu=T.map tuR/\(∀ t∈T,Q5F G Ro Ls t)/\(T.map (·.1)).Nodup/\(T.map (·.2.1)).Nodup/\T.length<=20
 sy:∀ row∈Sy,QbF per Ls row
 syl:Sy.length<=1
 de:∀ row∈De,QbL G.N row
 del:De.length<=2
theorem QcI {pl:LL} (hp:pl=[[D.int .i64 (150:Int)],[D.int .i64 (120:Int)],[D.int .i64 (180:Int)],[D.int .i64 (240:Int)],[D.int .i64 (300:Int)],[D.int .i64 (90:Int)]]) {v:Int} (a:0<=v) (b:v<6) :
  ∃ per:Int,90<=per/\per<=300/\∀ {R:Type} (K:Int->oP R),gb true (inB (List.length pl) v) () (fun _=>gb true (pl[(Int.toNat v)]?) [] fun r=>gb true (r[0]?) oF fun c=>gb true (pIw c) 0 fun i=>K i)=K per:=by
 subst hp;obtain rfl | rfl | rfl | rfl | rfl | rfl:v=0\/v=1\/v=2\/v=3\/v=4\/v=5:=by omega
 ·exact ⟨150,by omega,by omega,fun K=>rfl⟩
 ·exact ⟨120,by omega,by omega,fun K=>rfl⟩
 ·exact ⟨180,by omega,by omega,fun K=>rfl⟩
 ·exact ⟨240,by omega,by omega,fun K=>rfl⟩
 ·exact ⟨300,by omega,by omega,fun K=>rfl⟩
 ·exact ⟨90,by omega,by omega,fun K=>rfl⟩
theorem LH {G:Geo} {Ro Ls:LL} (hg:GoodP G Ro Ls) {k:Nat} (hk:k<Ls.length):∃ (w:Int) (rides:LL),Ls[k]? = some [D.str (nmN k),Q5 0,Q5 w,D.sl 4 rides]/\(rides.length=1\/rides.length=2)/\∀ i,i<rides.length->∃ r x y b,K3 Ls k i r/\H8 G Ro r x y b:=by
 obtain ⟨w,rides,a,h2,d,c⟩:=hg.ls k _ (QdT hk);have he:Ls[k]? = some [D.str (nmN k),Q5 0,Q5 w,D.sl 4 rides]:=by rw [QdT hk,a]
 refine ⟨w,rides,he,?_⟩;rcases c with ⟨r,x,y,rfl,h⟩ | ⟨r,r',x,y,z,rfl,h,h'⟩
 ·refine ⟨.inl rfl,fun i hi=>?_⟩;have hi:i=0:=by simpa using hi
  subst hi;exact ⟨r,x,y,true,⟨_,_,_,he,rfl⟩,h⟩
 ·refine ⟨.inr rfl,fun i hi=>?_⟩;obtain rfl | rfl:i=0\/i=1:=by simp at hi;omega
  ·exact ⟨r,x,y,false,⟨_,_,_,he,rfl⟩,h⟩
  ·exact ⟨r',y,z,true,⟨_,_,_,he,rfl⟩,h'⟩
section
variable {R:Type} {l:List Int} (hl:l.length<=9223372036854775807) {P:R->Prop} {G:Geo} (hG:G.OK)
include hl hG
theorem AT {k0:Int->Bool->Int->LL->LL->Int->LL->LL->LL->LL->LL->LL->LL->LL->LL->LL->LL->LL->LL->oP R} {per:Int} {sk q7 a b d e:LL}:∀ (c m:Nat) (Ro Ls:LL) (i:Nat),c<m->Ls.length+c<=3->Ro.length<=2*Ls.length->GoodP G Ro Ls->i<=l.length ->
  (∀ (Ro' Ls':LL) (j:Nat),GoodP G Ro' Ls'->Ls'.length=Ls.length+c->Ro'.length<=2*Ls'.length->j<=l.length->k0 0 false per sk (encI l) (j:Int) G.St G.Pt G.Se G.Li G.Tr G.Bt q7 Ro' Ls' a b d e∈P) ->
  Vt 400 k0 m (c:Int) per sk (encI l) (i:Int) G.St G.Pt G.Se G.Li G.Tr G.Bt q7 Ro Ls a b d e∈P
 |0,m+1,Ro,Ls,i,_,_,hR,hg,hi,H=>by
  rw [Vt];rw [Q8 (by simp),show decide (((0:Nat):Int)>0)=false by simp];exact H Ro Ls i hg rfl hR hi
 |c+1,m+1,Ro,Ls,i,hm,hL,hR,hg,hi,H=>by
  have hN:=hG.hN;have hb:=hG.btl;rw [Vt];rw [QJ (by simp)];refine Ui hl hi (by decide) (by decide) fun v j f g hj=>?_
  dsimp only;refine Ui hl hj (by omega) (by omega) fun h j g0 g1 hj=>?_
  dsimp only;obtain ⟨nv,rfl⟩:=QdY g0;rw [Qf (x:=1+(nv:Int)) (by omega) (by omega),show (1:Int)+(nv:Int)=((1+nv:Nat):Int) by omega];refine okB (Qby hl hG (by omega) (by omega) hg (by omega) (by omega) hj fun Ro' Ls' j ao aw au hj=>okI ?_);dsimp only;rw [show wJ (((c+1:Nat):Int)-1)=(c:Int) by rw [Qf (by omega) (by omega)];omega];exact AT c m Ro' Ls' j (by omega) (by omega) (by omega) ao hj fun Ro'' Ls'' j ak ar am hj=>H Ro'' Ls'' j ak (by omega) am hj
omit hG in
theorem Rq {per:Int} {Ro Ls k n o p:LL} (d:90<=per) (e:per<=300) (hg:GoodP G Ro Ls) (hL:Ls.length<=3) {k0:Int->Bool->LL->Int->LL->oP R}:∀ (c m:Nat) (Ch:LL) (i:Nat),c<m->Ch.length+c<=2->(∀ row∈Ch,Q2u G per Ro Ls row)->i<=l.length ->
  (∀ (h:Int) (b:Bool) (Ch:LL) (j:Nat),(∀ row∈Ch,Q2u G per Ro Ls row)->Ch.length<=2->j<=l.length->k0 h b (encI l) (j:Int) Ch∈P) ->
  UC 400 per k Ro Ls G.Se n o p k0 m (c:Int) (encI l) (i:Int) Ch∈P
 |0,m+1,Ch,i,_,a7,hC,hi,H=>by
  rw [UC];rw [show decide (((0:Nat):Int)>0)=false by simp,QdS,QdS];exact H _ _ Ch i hC (by omega) hi
 |c+1,m+1,Ch,i,hm,a7,hC,hi,H=>by
  rw [UC];rw [show decide (((c+1:Nat):Int)>0)=true by simp,QdX];by_cases q:Ls.length<=1
  ·rw [show decide (((Ls.length:Nat):Int)>1)=false by simp;omega,QdS];exact H _ _ Ch i hC (by omega) hi
  rw [show decide (((Ls.length:Nat):Int)>1)=true by simp;omega,QdX];refine Ui hl hi (by omega) (by omega) fun v j s q hj=>?_
  refine Ui hl hj (by decide) (by decide) fun w j w0 w1 hj=>?_
  dsimp only;obtain ⟨f,rfl⟩:=QdY s;have hf:f<Ls.length:=by omega
  obtain ⟨t,et,ht,a8⟩:∃ t:Nat,Int.tmod (wJ ((f:Int)+1)) ((Ls.length:Nat):Int)=(t:Int)/\t<Ls.length/\f≠t:=by
   rw [Qf (by omega) (by omega),Int.tmod_eq_emod_of_nonneg (by omega)];refine ⟨(f+1) % Ls.length,by simp,Nat.mod_lt _ (by omega),?_⟩;by_cases h:f+1<Ls.length
   ·rw [Nat.mod_eq_of_lt h];omega
   ·rw [show f+1=Ls.length by omega,Nat.mod_self];omega
  rw [et];obtain ⟨w2,rides,e1,e2,u⟩:=LH hg hf;obtain ⟨bm,aw,a9,bd,ax⟩:=LH hg ht;rw [Ca (by omega),Q0,ZG (by omega) (by omega),Q0,Int.toNat_natCast,e1,Q0];dsimp only [List.getElem?_cons_zero,List.getElem?_cons_succ];rw [Q0,X6,Q0];refine Ui hl hj (by omega) (by omega) fun fr j a0 a1 hj=>?_
  dsimp only;rw [ZG (by omega) (by omega),Q0,Int.toNat_natCast,a9,Q0];dsimp only [List.getElem?_cons_zero,List.getElem?_cons_succ];rw [Q0,X6,Q0];refine Ui hl hj (by omega) (by omega) fun tr j b0 b1 hj=>?_
  refine Ui hl hj (by decide) (by decide) fun mn j c0 c1 hj=>?_
  dsimp only;refine Ui hl hj (by omega) (by omega) fun mx j d0 d1 hj=>?_
  dsimp only;obtain ⟨fr,rfl⟩:=QdY a0;obtain ⟨tr,rfl⟩:=QdY b0;obtain ⟨r,x,y,b,hr,hR⟩:=u fr (by omega);obtain ⟨r',x',y',b',am,an⟩:=ax tr (by omega);have ao:=hR;have ak:=an;obtain ⟨_,_,_,_,_,_,_,hS,_⟩:=hR;obtain ⟨_,_,_,_,_,_,_,a6,_⟩:=an;obtain ⟨ab,a1,c1,d1,g,g1,z⟩:=hS.sy;obtain ⟨ac,a2,c2,d2,i2,a,g4⟩:=a6.sx;rw [Q9N hr ao,Q0,(Tn g1).1,Q0,(Tn g1).2,Q0];dsimp only [List.getElem?_cons_zero,List.getElem?_cons_succ];rw [Q0,Q1,Q0,Q7v am ak,Q0,(Tn a).1,Q0,(Tn a).2,Q0];dsimp only [List.getElem?_cons_zero,List.getElem?_cons_succ];rw [Q0,Q1,Q0];have ay:wJ (((c+1:Nat):Int)-1)=(c:Int):=by rw [Qf (by omega) (by omega)];omega
  rw [ay];by_cases ar:g=i2
  ·subst ar;rw [QJ (by simp),XR (by simp;omega),Q0,Qf (x:=mn+mx) (by omega) (by omega)];refine Rq d e hg hL c m _ j (by omega) (by simp;omega) (fun row aq=>?_) hj H;rcases Qe0.1 aq with h | h
   ·exact hC row h
   ·rw [Qe1.1 h];exact ⟨f,fr,t,tr,mn,mn+mx,w,r,r',x,y,x',y',b,b',g,rfl,hr,am,ao,ak,a8,⟨by omega,by omega,by omega,by omega⟩,⟨w0,w1⟩,⟨_,_,_,_,g1⟩,⟨_,_,_,_,a⟩,z⟩
  ·rw [Q8 (by simpa using ar)];exact Rq d e hg hL c m _ j (by omega) (by omega) hC hj H
omit hl hG in
theorem QcM {N:Nat} (hN:N=2\/N=3) {f v:Int} (a:0<=f) (b:f<N) (g0:0<=v) (g1:v<N-1):∃ t:Int,Int.tmod (wJ ((wJ (f+1))+v)) ((N:Nat):Int)=t/\(0<=t/\t<N)/\f≠t:=by
 rw [Qf (x:=f+1) (by omega) (by omega),Qf (by omega) (by omega),Int.tmod_eq_emod_of_nonneg (by omega)];refine ⟨_,rfl,⟨Int.emod_nonneg _ (by omega),Int.emod_lt_of_pos _ (by omega)⟩,?_⟩;rcases hN with rfl | rfl <;> omega
theorem Bw {k0:Int->Bool->LL->Int->LL->oP R}:∀ (c m:Nat) (De:LL) (i:Nat),c<m->De.length+c<=2->(∀ row∈De,QbL G.N row)->i<=l.length ->
  (∀ (h:Int) (b:Bool) (De:LL) (j:Nat),(∀ row∈De,QbL G.N row)->De.length<=2->j<=l.length->k0 h b (encI l) (j:Int) De∈P) ->
  WS 400 G.St k0 m (c:Int) (encI l) (i:Int) De∈P
 |0,m+1,De,i,_,an,hD,hi,H=>by
  rw [WS];rw [show decide (((0:Nat):Int)>0)=false by simp,QdS];exact H _ _ De i hD (by omega) hi
 |c+1,m+1,De,i,hm,an,hD,hi,H=>by
  have hN:=hG.hN;rw [WS];rw [show decide (((c+1:Nat):Int)>0)=true by simp,QdX,hG.st,Qf (x:=((G.N:Nat):Int)-1) (by omega) (by omega)];refine Ui hl hi (by omega) (by omega) fun f j a d hj=>?_
  dsimp only;refine Ui hl hj (by omega) (by omega) fun v j g0 g1 hj=>?_
  dsimp only;rw [Ca (by omega),Q0];refine Ui hl hj (by decide) (by decide) fun w j w0 w1 hj=>?_
  dsimp only;obtain ⟨t,et,ht,ao⟩:=QcM hN a d g0 g1;rw [XR (by simp;omega),Q0,et,Qf (x:=1+w) (by omega) (by omega),show wJ (((c+1:Nat):Int)-1)=(c:Int) by rw [Qf (by omega) (by omega)];omega];refine Bw c m _ j (by omega) (by simp;omega) (fun row ak=>?_) hj H;rcases Qe0.1 ak with h | h
  ·exact hD row h
  ·rw [Qe1.1 h];exact ⟨f,t,1+w,rfl,⟨a,d⟩,ht,ao,by omega,by omega⟩
omit hl hG in
theorem Q9q {n:Nat} {s:LL} {k0:Int->Bool->LL->Int->LL->oP R}:∀ (m:Nat) (a:Int) (b:LL) (c:Int) (d:LL),G1 n s k0 m a b c d=WS n s k0 m a b c d
 |0,_,_,_,_=>rfl
 |m+1,a,b,c,d=>by
  rw [G1,WS];simp only [Q9q m]
end
theorem Q2D {v:Int} (h:0<=v):∃ n:Nat,v=(n:Int):=QdY h
theorem QbM {R:Type} {l:List Int} (hl:l.length<=9223372036854775807) {P:R->Prop} {K:LL->LL->LL->LL->Int->LL->LL->LL->LL->LL->LL->LL->oP R}
  (H:∀ (G:Geo) (per:Int) (Sk Ro Ls Ch Tu Sy De:LL),PlanR G per Sk Ro Ls Ch Tu Sy De->K G.St G.Pt G.Se G.Li per Sk Ro Ls Ch Tu Sy De∈P):Nq 400 (encI l) K∈P:=by
 unfold Nq S4;rw [Q0];dsimp only;refine okB (Qcw (i:=0) hl (Nat.zero_le _) fun G j hG hj=>okI ?_);dsimp only;refine Ui hl hj (by decide) (by decide) fun v j f g hj=>?_
 dsimp only;obtain ⟨per,p0,p1,e⟩:=QcI rfl f g;rw [e];refine Ui hl hj (by decide) (by decide) fun a j a0 a1 hj=>?_
 refine Ui hl hj (by decide) (by decide) fun b j b0 b1 hj=>?_
 refine Ui hl hj (by decide) (by decide) fun c j c0 c1 hj=>?_
 refine Ui hl hj (by decide) (by decide) fun d j d0 d1 hj=>?_
 refine Ui hl hj (by decide) (by decide) fun k j k0 k1 hj=>?_
 dsimp only;obtain ⟨k,rfl⟩:=Q2D k0;rw [Qf (x:=1+(k:Int)) (by omega) (by omega),show (1:Int)+(k:Int)=((k+1:Nat):Int) by omega,Qf (x:=1+a) (by omega) (by omega),Qf (x:=5000*b) (by omega) (by omega),Qf (x:=10000+5000*b) (by omega) (by omega),Qf (x:=200*c) (by omega) (by omega),Qf (x:=400+200*c) (by omega) (by omega),Qf (x:=200*d) (by omega) (by omega),Qf (x:=400+200*d) (by omega) (by omega)];have ak:CO [[D.str (bs [88]),D.int .i64 (1+a),D.int .i64 (10000+5000*b),D.int .i64 (400+200*c),D.int .i64 (400+200*d)]]:=⟨_,_,_,_,rfl,by omega,by omega,by omega,by omega,by omega,by omega,by omega,by omega⟩;revert ak;generalize [[D.str (bs [88]),D.int .i64 (1+a),D.int .i64 (10000+5000*b),D.int .i64 (400+200*c),D.int .i64 (400+200*d)]]=Sk;intro ak;refine AT hl hG (k+1) 400 [] [] j (by omega) (by simp;omega) (by simp) ⟨(fun row h=>nomatch h),(fun k row h=>nomatch h)⟩ hj fun Ro Ls j hg hL hR hj=>?_
 simp at hL;refine okB (QaH hl hg (by omega) hj fun T j ao an au aq hj=>okI ?_);dsimp only;refine Ui hl hj (by decide) (by decide) fun k j k0 k1 hj=>?_
 dsimp only;obtain ⟨k,rfl⟩:=Q2D k0;refine Rq hl p0 p1 hg (by omega) k 400 [] j (by omega) (by simp;omega) (fun row h=>nomatch h) hj fun f b0 Ch j hC ar hj=>?_
 refine Ui hl hj (by decide) (by decide) fun v j f g hj=>?_
 dsimp only;by_cases hv:v=3/\1<Ls.length
 ·obtain ⟨rfl,h2⟩:=hv;rw [show ((3:Int) == 3)=true from rfl,show decide (((Ls.length:Nat):Int)>1)=true by simp;omega,QdX,QdX];refine Ui hl hj (by omega) (by omega) fun o j n p hj=>?_
  dsimp only;rw [XR (by simp),Q0];refine Ui hl hj (by decide) (by decide) fun k j k0 k1 hj=>?_
  dsimp only;obtain ⟨k,rfl⟩:=Q2D k0;refine Bw hl hG k 400 [] j (by omega) (by simp;omega) (fun row h=>nomatch h) hj fun f b0 De j hD am hj=>?_
  refine H G per Sk Ro Ls Ch _ _ De ⟨hG,p0,p1,ak,hg,by omega,by omega,by omega,hC,ar,⟨T,rfl,ao,an,au,aq⟩,fun row h=>?_,by simp,hD,am⟩;simp at h;exact ⟨o,h,n,p,h2⟩
 ·rw [show (bif (v == (3:Int)) then (decide (((List.length Ls:Nat):Int)>(1:Int))) else false)=false by
   by_cases m:v=3
   ·rw [show (v == (3:Int))=true by simp [m],QdX];simp;omega
   ·rw [show (v == (3:Int))=false by simpa using m,QdS]]
  rw [QdS];refine Ui hl hj (by decide) (by decide) fun k j k0 k1 hj=>?_
  dsimp only;obtain ⟨k,rfl⟩:=Q2D k0;rw [Q9q];refine Bw hl hG k 400 [] j (by omega) (by simp;omega) (fun row h=>nomatch h) hj fun f b0 De j hD am hj=>?_
  exact H G per Sk Ro Ls Ch _ _ De ⟨hG,p0,p1,ak,hg,by omega,by omega,by omega,hC,ar,⟨T,rfl,ao,an,au,aq⟩,(fun row h=>nomatch h),by simp,hD,am⟩
end Go.Vx
namespace Go.Vx
variable {R:Type}
def Z0 (n:Nat) (d:LL) (c:Int) (k0:oP R) (k1:Int->Bool->oP R):Nat->Int->oP R
 | 0,_=>none
 | m+1,a=>bif decide (a<c) then gb true (Q2 d a) [] fun b=>gb true (b[0]?) oF fun g=>gb true (b[1]?) oF fun h=>gb true (b[2]?) oF fun i=>gb true (b[3]?) oF fun e=>gb true (pSl 4 e) [] fun f=>bif (decide ((f.length:Int)>12)) then k0 else Z0 n d c k0 k1 m (wJ (a+1)) else k1 a (decide (a<c))
def WB (n:Nat) (i j k l:LL) (c:Int) (d e b f g h m:LL) (K:Int->oP R):oP R:= gb true (YS n i j k l some) 0 fun o=>bif (o != 0) then K 1 else jn (fun (p:Bool)=>bif p then K 7 else Z0 n b (b.length:Int) (K 7) (fun q r=>bif (bif decide (c<2) then true else (decide (c>7200))) then K 4 else K 0) n 0) fun a=>bif (decide ((d.length:Int)>8)) then a (decide ((d.length:Int)>8)) else bif (decide ((e.length:Int)>48)) then a (decide ((e.length:Int)>48)) else bif (decide ((b.length:Int)>16)) then a (decide ((b.length:Int)>16)) else bif (decide ((f.length:Int)>32)) then a (decide ((f.length:Int)>32)) else bif (decide ((g.length:Int)>32)) then a (decide ((g.length:Int)>32)) else bif (decide ((h.length:Int)>32)) then a (decide ((h.length:Int)>32)) else a (decide ((m.length:Int)>32))
def WV (n:Nat) (b:List UInt8) (g h i j:Int) (a:List UInt8) (c d e f:Int) (K:Bool->(List UInt8)->Int->Int->Int->Int->oP R):oP R:= K (b == a) a c d e f

def QF (n:Nat) (d:LL) (h2:Int) (k0:Int->(List UInt8)->Int->Int->Int->Int->oP R) (k1:Int->Bool->(List UInt8)->Int->Int->Int->Int->oP R):Nat->Int->(List UInt8)->Int->Int->Int->Int->oP R
 | 0,_,_,_,_,_,_=>none
 | m+1,b,e,f,g,h,i=>bif decide (b<h2) then gb true (Q2 d b) [] fun c=>gb true (c[0]?) oF fun j=>gb true (c[1]?) oF fun k=>gb true (c[2]?) oF fun l=>gb true (c[3]?) oF fun o=>gb true (c[4]?) oF fun p=>gb true (Sv j) [] fun q=>gb true (pIw k) 0 fun r=>gb true (pIw l) 0 fun s=>gb true (pIw o) 0 fun t=>gb true (pIw p) 0 fun u=>gb true (WV n q r s t u e f g h i Tu6) (false,[],0,0,0,0) fun a=>bif a.1 then k0 b a.2.1 a.2.2.1 a.2.2.2.1 a.2.2.2.2.1 a.2.2.2.2.2 else QF n d h2 k0 k1 m (wJ (b+1)) a.2.1 a.2.2.1 a.2.2.2.1 a.2.2.2.2.1 a.2.2.2.2.2 else k1 b (decide (b<h2)) e f g h i
def Xq (n:Nat) (a0:LL) (a:List UInt8) (b c d e:Int) (K:Int->(List UInt8)->Int->Int->Int->Int->oP R):oP R:= QF n a0 (a0.length:Int) (fun f g h i j k=>K f g h i j k) (fun r s l m o p q=>K (-1:Int) l m o p q) n 0 a b c d e

def Xf (n:Nat) (a0:LL) (b:List UInt8) (c d e f:Int) (K:Bool->(List UInt8)->Int->Int->Int->Int->oP R):oP R:= gb true (Xq n a0 b c d e f Tu6) (0,[],0,0,0,0) fun a=>K (decide (a.1>=0)) a.2.1 a.2.2.1 a.2.2.2.1 a.2.2.2.2.1 a.2.2.2.2.2

def Vf (n:Nat) (e:LL) (h2:Int) (d:LL) (k0:Int->oP R) (k1:Int->Bool->oP R):Nat->Int->oP R
 | 0,_=>none
 | m+1,a=>bif decide (a<h2) then gb true (Q2 e a) [] fun c=>gb true (c[0]?) oF fun f=>gb true (c[1]?) oF fun g=>gb true (c[2]?) oF fun h=>gb true (c[3]?) oF fun i=>gb true (c[4]?) oF fun j=>gb true (Sv f) [] fun k=>gb true (JG n k some) false fun l=>bif !l then k0 3 else gb true (slB (d.length) none (some a)) (0,0) fun o=>gb true (Sv f) [] fun p=>gb true (pIw g) 0 fun q=>gb true (pIw h) 0 fun r=>gb true (pIw i) 0 fun s=>gb true (pIw j) 0 fun t=>gb true (Xf n (cut d o) p q r s t Tu6) (false,[],0,0,0,0) fun b=>bif b.1 then k0 5 else gb true (Wo n b.2.1 b.2.2.1 b.2.2.2.1 b.2.2.2.2.1 b.2.2.2.2.2 some) false fun ab=>bif !ab then k0 4 else Vf n e h2 d k0 k1 m (wJ (a+1)) else k1 a (decide (a<h2))
def ZV (n:Nat) (c d e f:LL) (g:Int) (a h i j k l m:LL) (K:Int->oP R):oP R:= Vf n a (a.length:Int) a (fun b=>K b) (fun o p=>K 0) n 0

def Ys (n:Nat) (b:LL) (h2:Int) (c d e f:LL) (k0:Int->oP R) (k1:Int->Bool->oP R):Nat->Int->oP R
 | 0,_=>none
 | m+1,a=>bif decide (a<h2) then gb true (Q2 b a) [] fun g=>gb true (g[0]?) oF fun i=>gb true (g[1]?) oF fun j=>gb true (pSl 2 i) [] fun k=>gb true (pIw j) 0 fun l=>gb true (Kn n c d e f k l some) 0 fun h=>bif (h != 0) then k0 h else Ys n b h2 c d e f k0 k1 m (wJ (a+1)) else k1 a (decide (a<h2))
def ZT (n:Nat) (b c d e:LL) (g:Int) (h a i j k l m:LL) (K:Int->oP R):oP R:= Ys n a (a.length:Int) b c d e (fun f=>K f) (fun o p=>K 0) n 0

def Z8 (n:Nat) (b:List UInt8) (f g:Int) (h:LL) (a:List UInt8) (c d:Int) (e:LL) (K:Bool->(List UInt8)->Int->Int->LL->oP R):oP R:= K (b == a) a c d e

def Q9 (n:Nat) (d:LL) (h2:Int) (k0:Int->(List UInt8)->Int->Int->LL->oP R) (k1:Int->Bool->(List UInt8)->Int->Int->LL->oP R):Nat->Int->(List UInt8)->Int->Int->LL->oP R
 | 0,_,_,_,_,_=>none
 | m+1,b,e,f,g,h=>bif decide (b<h2) then gb true (Q2 d b) [] fun c=>gb true (c[0]?) oF fun i=>gb true (c[1]?) oF fun j=>gb true (c[2]?) oF fun k=>gb true (c[3]?) oF fun l=>gb true (Sv i) [] fun o=>gb true (pIw j) 0 fun p=>gb true (pIw k) 0 fun q=>gb true (pSl 4 l) [] fun r=>gb true (Z8 n o p q r e f g h Tu5) (false,[],0,0,[]) fun a=>bif a.1 then k0 b a.2.1 a.2.2.1 a.2.2.2.1 a.2.2.2.2 else Q9 n d h2 k0 k1 m (wJ (b+1)) a.2.1 a.2.2.1 a.2.2.2.1 a.2.2.2.2 else k1 b (decide (b<h2)) e f g h
def QM (n:Nat) (a0:LL) (a:List UInt8) (b c:Int) (d:LL) (K:Int->(List UInt8)->Int->Int->LL->oP R):oP R:= Q9 n a0 (a0.length:Int) (fun e f g h i=>K e f g h i) (fun o p j k l m=>K (-1:Int) j k l m) n 0 a b c d

def Qm (n:Nat) (a0:LL) (b:List UInt8) (c d:Int) (e:LL) (K:Bool->(List UInt8)->Int->Int->LL->oP R):oP R:= gb true (QM n a0 b c d e Tu5) (0,[],0,0,[]) fun a=>K (decide (a.1>=0)) a.2.1 a.2.2.1 a.2.2.2.1 a.2.2.2.2

def K9 (n:Nat) (a0:Int) (K:Bool->oP R):oP R:= K (bif decide (a0>=0) then (decide (a0<=1048576)) else false)

def JC (n:Nat) (a:Int) (b c d e f g h:LL) (a1 a2:Int) (K:Bool->oP R):oP R:= K (bif (bif (bif decide (0<=a1) then (decide (a1<=a2)) else false) then (decide (a2<=7200)) else false) then (decide (a2<(wJ (a1+a)))) else false)

def GX (n:Nat) (i:Int) (j a k l m o p:LL) (b q r s:Int) (K:Int->oP R):oP R:= gb true (Q2 a b) [] fun c=>gb true (c[0]?) oF fun d=>gb true (pSl 2 d) [] fun e=>gb true (Q2 e 0) [] fun f=>gb true (f[0]?) oF fun g=>gb true (pIw g) 0 fun h=>K h

def HB (n:Nat) (l:Int) (m a o p q r s:LL) (b t u v:Int) (K:Int->oP R):oP R:= gb true (Q2 a b) [] fun d=>gb true (d[0]?) oF fun e=>gb true (pSl 2 e) [] fun c=>gb true (Q2 a b) [] fun f=>gb true (f[1]?) oF fun g=>gb true (pIw g) 0 fun h=>gb true (Q2 c (wJ ((wJ ((c.length:Int)-h))-1))) [] fun i=>gb true (i[0]?) oF fun j=>gb true (pIw j) 0 fun k=>K k

def V7 (n:Nat) (ab ac ad ae:LL) (c:Int) (f a j k l m o:LL) (br:List UInt8) (ag bt:Int) (d:LL) (a3:Int) (K:Int->oP R):oP R:= gb true (Q2 d a3) [] fun g=>gb true (g[0]?) oF fun h=>gb true (g[1]?) oF fun p=>gb true (g[2]?) oF fun q=>gb true (g[3]?) oF fun r=>jn (fun (ah:Bool)=>bif ah then K 4 else gb true (pIw h) 0 fun ai=>gb true (Q2 a ai) [] fun s=>gb true (s[0]?) oF fun aj=>gb true (s[1]?) oF fun ak=>gb true (Q2 f ag) [] fun e=>gb true (e[0]?) oF fun al=>gb true (e[1]?) oF fun am=>gb true (e[2]?) oF fun an=>gb true (e[3]?) oF fun ao=>gb true (e[4]?) oF fun ap=>gb true (pSl 2 aj) [] fun aq=>gb true (pIw ak) 0 fun ar=>gb true (Sv al) [] fun au=>gb true (pIw am) 0 fun av=>gb true (pIw an) 0 fun aw=>gb true (pIw ao) 0 fun ax=>gb true (pIw ap) 0 fun ay=>gb true (VI n ab ac ad ae aq ar au av aw ax ay some) 0 fun t=>bif (t != 0) then K t else gb (decide (a3>0)) (pIw h) 0 fun az=>gb (decide (a3>0)) (pIw p) 0 fun ba=>gb (decide (a3>0)) (pIw q) 0 fun bb=>gb (decide (a3>0)) (pIw r) 0 fun bc=>gb (decide (a3>0)) (GX n c f a j k l m o az ba bb bc some) 0 fun bd=>gb (decide (a3>0)) (Q2 d (wJ (a3-1))) [] fun i=>gb (decide (a3>0)) (i[0]?) oF fun be=>gb (decide (a3>0)) (i[1]?) oF fun bg=>gb (decide (a3>0)) (i[2]?) oF fun bh=>gb (decide (a3>0)) (i[3]?) oF fun bi=>gb (decide (a3>0)) (pIw be) 0 fun bj=>gb (decide (a3>0)) (pIw bg) 0 fun bk=>gb (decide (a3>0)) (pIw bh) 0 fun bl=>gb (decide (a3>0)) (pIw bi) 0 fun bm=>gb (decide (a3>0)) (HB n c f a j k l m o bj bk bl bm some) 0 fun bn=>bif (bif decide (a3>0) then (bd != bn) else false) then K 11 else K 0) fun b=>gb true (pIw h) 0 fun u=>bif decide (u<0) then b (decide (u<0)) else gb true (pIw h) 0 fun v=>bif (decide (v>=(a.length:Int))) then b (decide (v>=(a.length:Int))) else gb true (pIw p) 0 fun x=>bif decide (x<0) then b (decide (x<0)) else gb true (pIw p) 0 fun y=>bif decide (y>=c) then b (decide (y>=c)) else gb true (pIw q) 0 fun bo=>gb true (pIw r) 0 fun bp=>gb true (JC n c f a j k l m o bo bp some) false fun z=>bif !z then b (!z) else gb (a3 == (wJ ((d.length:Int)-1))) (pIw q) 0 fun aa=>gb ((a3 == (wJ ((d.length:Int)-1)))&&(!(aa != 0))) (pIw r) 0 fun bq=>b (bif (a3 == (wJ ((d.length:Int)-1))) then (bif (aa != 0) then true else (bq != 0)) else false)

def YZ (n:Nat) (b:Int) (c d e f:LL) (g:Int) (h i j k l o p:LL) (q:List UInt8) (r s:Int) (t:LL) (k0:Int->oP R) (k1:Int->Bool->oP R):Nat->Int->oP R
 | 0,_=>none
 | m+1,a=>bif decide (a<b) then gb true (V7 n c d e f g h i j k l o p q r s t a some) 0 fun u=>bif (u != 0) then k0 u else YZ n b c d e f g h i j k l o p q r s t k0 k1 m (wJ (a+1)) else k1 a (decide (a<b))
def YY (n:Nat) (h:LL) (h2:Int) (i j k l:LL) (o:Int) (c p d q r s t:LL) (k0:Int->oP R) (k1:Int->Bool->oP R):Nat->Int->oP R
 | 0,_=>none
 | m+1,b=>bif decide (b<h2) then gb true (Q2 h b) [] fun e=>gb true (e[0]?) oF fun u=>gb true (e[1]?) oF fun v=>gb true (e[2]?) oF fun x=>gb true (e[3]?) oF fun y=>gb true (Sv u) [] fun z=>gb true (JG n z some) false fun aa=>bif !aa then k0 3 else gb true (slB (d.length) none (some b)) (0,0) fun ab=>gb true (Sv u) [] fun ac=>gb true (pIw v) 0 fun ad=>gb true (pIw x) 0 fun ae=>gb true (pSl 4 y) [] fun ag=>gb true (Qm n (cut d ab) ac ad ae ag Tu5) (false,[],0,0,[]) fun a=>bif a.1 then k0 5 else jn (fun (am:Bool) (an:List UInt8) (ao ap:Int) (f:LL)=>bif am then k0 4 else bif ((f.length:Int) == 0) then k0 1 else YZ n (f.length:Int) i j k l o c p d q r s t an ao ap f (fun aq=>k0 aq) (fun au av=>YY n h h2 i j k l o c p d q r s t k0 k1 m (wJ (b+1))) n 0) fun g=>bif decide (a.2.2.1<0) then g (decide (a.2.2.1<0)) a.2.1 a.2.2.1 a.2.2.2.1 a.2.2.2.2 else bif (decide (a.2.2.1>=(c.length:Int))) then g (decide (a.2.2.1>=(c.length:Int))) a.2.1 a.2.2.1 a.2.2.2.1 a.2.2.2.2 else gb true (K9 n a.2.2.2.1 some) false fun ar=>g (!ar) a.2.1 a.2.2.1 a.2.2.2.1 a.2.2.2.2 else k1 b (decide (b<h2))
def WQ (n:Nat) (b c d e:LL) (f:Int) (g h a i j k l:LL) (K:Int->oP R):oP R:= YY n a (a.length:Int) b c d e f g h a i j k l (fun m=>K m) (fun o p=>K 0) n 0

def Vs (n:Nat) (b:Int) (c d a e f g h:LL) (a1:Int) (K:Bool->oP R):oP R:= K (bif decide (a1>=0) then (decide (a1<(a.length:Int))) else false)

def Wc (n:Nat) (c:Int) (d e b f g h i:LL) (a1 a2:Int) (K:Bool->oP R):oP R:= gb true (Vs n c d e b f g h i a1 some) false fun a=>gb (bif a then (decide (a2>=0)) else false) (Q2 b a1) [] fun j=>gb (bif a then (decide (a2>=0)) else false) (j[3]?) oF fun k=>gb (bif a then (decide (a2>=0)) else false) (pSl 4 k) [] fun l=>K (bif (bif a then (decide (a2>=0)) else false) then (decide (a2<(l.length:Int))) else false)

def Yh (n:Nat) (x:LL) (h2:Int) (s:LL) (e:Int) (f g b h i j k:LL) (k0:Int->oP R) (k1:Int->Bool->oP R):Nat->Int->oP R
 | 0,_=>none
 | m+1,p=>bif decide (p<h2) then gb true (Q2 x p) [] fun d=>gb true (d[0]?) oF fun t=>gb true (d[1]?) oF fun y=>gb true (d[2]?) oF fun u=>gb true (d[3]?) oF fun z=>gb true (d[4]?) oF fun ab=>gb true (d[5]?) oF fun ac=>gb true (d[6]?) oF fun ad=>gb true (pIw t) 0 fun ae=>gb true (pIw y) 0 fun ag=>gb true (Wc n e f g b h i j k ae ag some) false fun a=>gb (!(!a)) (pIw u) 0 fun ah=>gb (!(!a)) (pIw z) 0 fun ai=>gb (!(!a)) (Wc n e f g b h i j k ah ai some) false fun c=>gb (!(bif !a then true else (!c))) (pIw t) 0 fun l=>gb (!(bif !a then true else (!c))) (pIw u) 0 fun o=>gb (!(bif (bif !a then true else (!c)) then true else (l == o))) (pIw ab) 0 fun aj=>gb (!(bif (bif !a then true else (!c)) then true else (l == o))) (pIw ac) 0 fun ak=>gb (!(bif (bif !a then true else (!c)) then true else (l == o))) (JC n e f g b h i j k aj ak some) false fun v=>gb (!(bif (bif (bif !a then true else (!c)) then true else (l == o)) then true else (!v))) (pIw ad) 0 fun al=>gb (!(bif (bif (bif !a then true else (!c)) then true else (l == o)) then true else (!v))) (K9 n al some) false fun am=>bif (bif (bif (bif (bif !a then true else (!c)) then true else (l == o)) then true else (!v)) then true else (!am)) then k0 4 else gb true (pIw t) 0 fun an=>gb true (Q2 b an) [] fun ao=>gb true (ao[3]?) oF fun ap=>gb true (pSl 4 ap) [] fun aq=>gb true (pIw y) 0 fun ar=>gb true (Q2 aq ar) [] fun q=>gb true (q[0]?) oF fun au=>gb true (q[1]?) oF fun av=>gb true (q[2]?) oF fun aw=>gb true (q[3]?) oF fun ax=>gb true (pIw au) 0 fun ay=>gb true (pIw av) 0 fun az=>gb true (pIw aw) 0 fun ba=>gb true (pIw ax) 0 fun bb=>gb true (HB n e f g b h i j k ay az ba bb some) 0 fun bc=>gb true (Q2 s bc) [] fun bd=>gb true (bd[4]?) oF fun be=>gb true (pIw be) 0 fun aa=>gb true (pIw u) 0 fun bg=>gb true (Q2 b bg) [] fun bh=>gb true (bh[3]?) oF fun bi=>gb true (pSl 4 bi) [] fun bj=>gb true (pIw z) 0 fun bk=>gb true (Q2 bj bk) [] fun r=>gb true (r[0]?) oF fun bl=>gb true (r[1]?) oF fun bm=>gb true (r[2]?) oF fun bn=>gb true (r[3]?) oF fun bo=>gb true (pIw bl) 0 fun bp=>gb true (pIw bm) 0 fun bq=>gb true (pIw bn) 0 fun br=>gb true (pIw bo) 0 fun bt=>gb true (GX n e f g b h i j k bp bq br bt some) 0 fun bu=>gb true (Q2 s bu) [] fun bv=>gb true (bv[4]?) oF fun bx=>gb true (pIw bx) 0 fun bz=>bif (bif (aa == (-1:Int)) then true else (aa != bz)) then k0 11 else Yh n x h2 s e f g b h i j k k0 k1 m (wJ (p+1)) else k1 p (decide (p<h2))
def Zt (n:Nat) (k l b m:LL) (c:Int) (d e f a g h i:LL) (K:Int->oP R):oP R:= Yh n a (a.length:Int) b c d e f a g h i (fun j=>K j) (fun o p=>K 0) n 0

def Z6 (n:Nat) (c d g h a b e f:Int) (K:Bool->Int->Int->Int->Int->oP R):oP R:= K (bif (c == a) then true else (d == b)) a b e f

def Qa (n:Nat) (d:LL) (h2:Int) (k0:Int->Int->Int->Int->Int->oP R) (k1:Int->Bool->Int->Int->Int->Int->oP R):Nat->Int->Int->Int->Int->Int->oP R
 | 0,_,_,_,_,_=>none
 | m+1,b,e,f,g,h=>bif decide (b<h2) then gb true (Q2 d b) [] fun c=>gb true (c[0]?) oF fun i=>gb true (c[1]?) oF fun j=>gb true (c[2]?) oF fun k=>gb true (c[3]?) oF fun l=>gb true (pIw i) 0 fun o=>gb true (pIw j) 0 fun p=>gb true (pIw k) 0 fun q=>gb true (pIw l) 0 fun r=>gb true (Z6 n o p q r e f g h Tu5) (false,0,0,0,0) fun a=>bif a.1 then k0 b a.2.1 a.2.2.1 a.2.2.2.1 a.2.2.2.2 else Qa n d h2 k0 k1 m (wJ (b+1)) a.2.1 a.2.2.1 a.2.2.2.1 a.2.2.2.2 else k1 b (decide (b<h2)) e f g h
def QN (n:Nat) (a0:LL) (a b c d:Int) (K:Int->Int->Int->Int->Int->oP R):oP R:= Qa n a0 (a0.length:Int) (fun e f g h i=>K e f g h i) (fun o p j k l m=>K (-1:Int) j k l m) n 0 a b c d

def Ql (n:Nat) (a0:LL) (b c d e:Int) (K:Bool->Int->Int->Int->Int->oP R):oP R:= gb true (QN n a0 b c d e Tu5) (0,0,0,0,0) fun a=>K (decide (a.1>=0)) a.2.1 a.2.2.1 a.2.2.2.1 a.2.2.2.2

def Z4 (n:Nat) (v:LL) (h2 c:Int) (d e a f b g h:LL) (k0:Int->oP R) (k1:Int->Bool->oP R):Nat->Int->oP R
 | 0,_=>none
 | m+1,i=>bif decide (i<h2) then gb true (Q2 v i) [] fun k=>gb true (k[0]?) oF fun x=>gb true (k[1]?) oF fun y=>gb true (k[2]?) oF fun z=>gb true (k[3]?) oF fun aa=>gb true (pIw x) 0 fun ac=>gb true (Vs n c d e a f b g h ac some) false fun j=>gb (!(!j)) (pIw y) 0 fun ad=>gb (!(!j)) (Vs n c d e a f b g h ad some) false fun l=>gb (!(bif !j then true else (!l))) (pIw z) 0 fun ae=>gb (!(bif !j then true else (!l))) (pIw aa) 0 fun ag=>gb (!(bif !j then true else (!l))) (JC n c d e a f b g h ae ag some) false fun ah=>bif (bif (bif !j then true else (!l)) then true else (!ah)) then k0 4 else gb true (slB (b.length) none (some i)) (0,0) fun ai=>gb true (pIw x) 0 fun aj=>gb true (pIw y) 0 fun ak=>gb true (pIw z) 0 fun al=>gb true (pIw aa) 0 fun am=>gb true (Ql n (cut b ai) aj ak al am Tu5) (false,0,0,0,0) fun s=>bif s.1 then k0 5 else gb true (Q2 a s.2.1) [] fun o=>gb true (o[0]?) oF fun bu=>gb true (o[1]?) oF fun au=>gb true (o[2]?) oF fun bv=>gb true (o[3]?) oF fun ab=>gb true (Q2 a s.2.2.1) [] fun p=>gb true (p[0]?) oF fun bx=>gb true (p[1]?) oF fun av=>gb true (p[2]?) oF fun bz=>gb true (p[3]?) oF fun aw=>gb true (pSl 4 ab) [] fun ax=>gb true (pSl 4 ab) [] fun ay=>gb true (Q2 ax (wJ ((ay.length:Int)-1))) [] fun q=>gb true (q[0]?) oF fun az=>gb true (q[1]?) oF fun ba=>gb true (q[2]?) oF fun bb=>gb true (q[3]?) oF fun bc=>gb true (pIw az) 0 fun bd=>gb true (pIw ba) 0 fun be=>gb true (pIw bb) 0 fun bg=>gb true (pIw bc) 0 fun bh=>gb true (HB n c d e a f b g h bd be bg bh some) 0 fun t=>gb true (pSl 4 aw) [] fun bi=>gb true (Q2 bi 0) [] fun r=>gb true (r[0]?) oF fun bj=>gb true (r[1]?) oF fun bk=>gb true (r[2]?) oF fun bl=>gb true (r[3]?) oF fun bm=>gb true (pIw bj) 0 fun bn=>gb true (pIw bk) 0 fun bo=>gb true (pIw bl) 0 fun bp=>gb true (pIw bm) 0 fun bq=>gb true (GX n c d e a f b g h bn bo bp bq some) 0 fun u=>gb (!(t != u)) (pIw au) 0 fun br=>gb (!(t != u)) (pIw av) 0 fun bt=>bif (bif (t != u) then true else (br != bt)) then k0 11 else Z4 n v h2 c d e a f b g h k0 k1 m (wJ (i+1)) else k1 i (decide (i<h2))
def WP (n:Nat) (j k l m:LL) (b:Int) (c d e f a g h:LL) (K:Int->oP R):oP R:= Z4 n a (a.length:Int) b c d e f a g h (fun i=>K i) (fun o p=>K 0) n 0

def YU (n:Nat) (s:LL) (h2 g:Int) (h i j k l o p:LL) (k0:oP R) (k1:Int->Bool->oP R):Nat->Int->oP R
 | 0,_=>none
 | m+1,c=>bif decide (c<h2) then gb true (Q2 s c) [] fun d=>gb true (d[0]?) oF fun t=>gb true (d[1]?) oF fun u=>gb true (d[2]?) oF fun v=>gb true (d[3]?) oF fun x=>gb true (d[4]?) oF fun y=>gb true (pIw t) 0 fun aa=>gb true (pIw u) 0 fun ab=>gb true (Wc n g h i j k l o p aa ab some) false fun a=>gb (!(!a)) (pIw v) 0 fun ac=>gb (!(!a)) (pIw x) 0 fun ad=>gb (!(!a)) (Wc n g h i j k l o p ac ad some) false fun b=>gb (!(bif !a then true else (!b))) (pIw t) 0 fun e=>gb (!(bif !a then true else (!b))) (pIw v) 0 fun f=>gb ((!(bif !a then true else (!b)))&&(e == f)) (pIw u) 0 fun q=>gb ((!(bif !a then true else (!b)))&&(e == f)) (pIw x) 0 fun r=>gb (!(bif (bif !a then true else (!b)) then true else (bif (e == f) then (q == r) else false))) (pIw y) 0 fun z=>gb (!(bif (bif (bif !a then true else (!b)) then true else (bif (e == f) then (q == r) else false)) then true else (decide (z<0)))) (pIw y) 0 fun ae=>bif (bif (bif (bif (bif !a then true else (!b)) then true else (bif (e == f) then (q == r) else false)) then true else (decide (z<0))) then true else (decide (ae>=g))) then k0 else YU n s h2 g h i j k l o p k0 k1 m (wJ (c+1)) else k1 c (decide (c<h2))
def WG (n:Nat) (i j k l:LL) (b:Int) (c d e f g a h:LL) (K:Int->oP R):oP R:= YU n a (a.length:Int) b c d e f g a h (K 4) (fun m o=>K 0) n 0

def Yg (n:Nat) (l:LL) (h2:Int) (a:LL) (k0:oP R) (k1:Int->Bool->oP R):Nat->Int->oP R
 | 0,_=>none
 | m+1,e=>bif decide (e<h2) then gb true (Q2 l e) [] fun g=>gb true (g[0]?) oF fun h=>gb true (g[1]?) oF fun i=>gb true (g[2]?) oF fun o=>gb true (pIw h) 0 fun b=>gb (!(decide (b<0))) (pIw h) 0 fun c=>gb (!(bif decide (b<0) then true else (decide (c>=(a.length:Int))))) (pIw i) 0 fun d=>gb (!(bif (bif decide (b<0) then true else (decide (c>=(a.length:Int)))) then true else (decide (d<0)))) (pIw i) 0 fun f=>gb (!(bif (bif (bif decide (b<0) then true else (decide (c>=(a.length:Int)))) then true else (decide (d<0))) then true else (decide (f>=(a.length:Int))))) (pIw h) 0 fun j=>gb (!(bif (bif (bif decide (b<0) then true else (decide (c>=(a.length:Int)))) then true else (decide (d<0))) then true else (decide (f>=(a.length:Int))))) (pIw i) 0 fun k=>gb (!(bif (bif (bif (bif decide (b<0) then true else (decide (c>=(a.length:Int)))) then true else (decide (d<0))) then true else (decide (f>=(a.length:Int)))) then true else (j == k))) (pIw o) 0 fun p=>gb (!(bif (bif (bif (bif (bif decide (b<0) then true else (decide (c>=(a.length:Int)))) then true else (decide (d<0))) then true else (decide (f>=(a.length:Int)))) then true else (j == k)) then true else (decide (p<1)))) (pIw o) 0 fun q=>bif (bif (bif (bif (bif (bif (bif decide (b<0) then true else (decide (c>=(a.length:Int)))) then true else (decide (d<0))) then true else (decide (f>=(a.length:Int)))) then true else (j == k)) then true else (decide (p<1))) then true else (decide (q>1048576))) then k0 else Yg n l h2 a k0 k1 m (wJ (e+1)) else k1 e (decide (e<h2))
def Zm (n:Nat) (b c d e:LL) (f:Int) (g h i j k l a:LL) (K:Int->oP R):oP R:= Yg n a (a.length:Int) b (K 4) (fun m o=>K 0) n 0

def Q5z (n:Nat) (a b c d:LL) (e:Int) (f g h i j k l:LL):Bool:= Q4s (WB n a b c d e f g h i j k l some)&&Q4s (ZV n a b c d e f g h i j k l some)&&Q4s (ZT n a b c d e f g h i j k l some)&&Q4s (WQ n a b c d e f g h i j k l some)&&Q4s (Zt n a b c d e f g h i j k l some)&&Q4s (WP n a b c d e f g h i j k l some)&&Q4s (WG n a b c d e f g h i j k l some)&&Q4s (Zm n a b c d e f g h i j k l some)
def UO (n:Nat) (a b c d:LL) (e:Int) (f g h i j k l:LL) (K:Int->oP R):oP R:=bif Q5z n a b c d e f g h i j k l then K 0 else none

end Go.Vx
namespace Go.Vx
theorem Xa {h:Nat} (hh:h<=1000):wJ ((h:Int)+1)=((h+1:Nat):Int):=by rw [Qf (by omega) (by omega)];omega
theorem Qk {h k:Nat} (hh:h<k):decide ((h:Int)<((k:Nat):Int))=true:=by simpa using hh
theorem Xb (k:Nat):decide (((k:Nat):Int)<((k:Nat):Int))=false:=by simp
section
variable {R:Type} {St Pt Se Li Sk Ro Ls Ch Tu Sy De:LL} {per:Int} {n:Nat}
theorem Q1x {mn mx:Int} (a:0<=mn) (b:mn<=mx) (h2:mx<mn+per) (c:mn<=1000) (p1:per<=300) (K:Bool->oP R):JC n per Sk Ro Ls Ch Tu Sy De mn mx K=K true:=by
 unfold JC;rw [show decide ((0:Int)<=mn)=true by simpa using a,show decide (mn<=mx)=true by simpa using b,show decide (mx<=(7200:Int))=true by simp;omega,Qf (by omega) (by omega),show decide (mx<mn+per)=true by simpa using h2];rfl
theorem A8 {k:Nat} (h:k<Ls.length) (K:Bool->oP R):Vs n per Sk Ro Ls Ch Tu Sy De (k:Int) K=K true:=by
 unfold Vs;rw [show decide ((k:Int)>=0)=true by simp,Qk h];rfl
theorem FU {k i:Nat} {r:List D} (h:K3 Ls k i r) (K:Bool->oP R):Wc n per Sk Ro Ls Ch Tu Sy De (k:Int) (i:Int) K=K true:=by
 obtain ⟨nm,w,rides,a,h2⟩:=h;unfold Wc;rw [A8 (QdV.1 a).1,Q0,show decide ((i:Int)>=0)=true by simp,Qp,a];simp -implicitDefEqProofs only [Q0,List.getElem?_cons_zero,List.getElem?_cons_succ,Q1,Xj,X6,QdX,QdS,QdW,QdU,Qk (QdV.1 h2).1]
theorem Q4E {w:Int} (a:0<=w) (b:w<=1000) (K:Bool->oP R):K9 n w K=K true:=by
 unfold K9;rw [show decide (w>=0)=true by simpa using a,show decide (w<=(1048576:Int))=true by simp;omega];rfl
theorem Q1F {G:Geo} {rt:Nat} {ex mn mx x y:Int} {s:LL} (a:Ro[rt]? = some [D.sl 2 s,Q5 0]) (b:RtOK G s x y) (K:Int->oP R):GX n per Sk Ro Ls Ch Tu Sy De (rt:Int) ex mn mx K=K x:=by
 obtain ⟨d,c⟩:=b.fst;unfold GX;simp -implicitDefEqProofs only [Q0,List.getElem?_cons_zero,List.getElem?_cons_succ,Q1,Xj,X6,QdX,QdS,QdW,QdU,Qp,a,c]
theorem Q5K {G:Geo} {rt:Nat} {ex mn mx x y:Int} {s:LL} (b:Ro[rt]? = some [D.sl 2 s,Q5 0]) (a:RtOK G s x y) (K:Int->oP R):HB n per Sk Ro Ls Ch Tu Sy De (rt:Int) ex mn mx K=K y:=by
 obtain ⟨d,c⟩:=a.lst;have l2:=a.l2;have l24:=a.l24;unfold HB;simp -implicitDefEqProofs only [Q0,List.getElem?_cons_zero,List.getElem?_cons_succ,Q1,Xj,X6,QdX,QdS,QdW,QdU,Qp,b];rw [Qf (x:=((s.length:Nat):Int)-0) (by omega) (by omega),Qf (by omega) (by omega),Int.sub_zero,c];rfl
theorem Q8J (hs:CO Sk) (K:Int->oP R):ZV 400 St Pt Se Li per Sk Ro Ls Ch Tu Sy De K=K 0:=by
 obtain ⟨a,b,c,d,rfl,hk⟩:=hs;have h:ZV 400 St Pt Se Li per [[D.str (bs [88]),Q5 a,Q5 b,Q5 c,Q5 d]] Ro Ls Ch Tu Sy De K=gb true (Wo 400 (bs [88]) a b c d some) false (fun r=>bif !r then K 4 else K 0):=by kernel_rfl
 rw [h,EN hk];rfl
end
section
variable {R:Type} {G:Geo} {Sk Ro Ls Ch Tu Sy De:LL} {per:Int} (h:PlanR G per Sk Ro Ls Ch Tu Sy De)
include h
theorem Q2X {k:Nat} (hk:k<Ls.length):∃ r,K3 Ls k 0 r:=by
 obtain ⟨w,rides,e,hr,a⟩:=LH h.good hk;obtain ⟨r,_,_,_,b,_⟩:=a 0 (by omega);exact ⟨r,b⟩
theorem Qar (K:Int->oP R):WB 400 G.St G.Pt G.Se G.Li per Sk Ro Ls Ch Tu Sy De K=K 0:=by
 have hc:YS 400 G.St G.Pt G.Se G.Li (some:Int->Option Int)=some 0:=by unfold YS;rw [h.ok.lay];rfl
 obtain ⟨_,_,_,_,am,_⟩:=h.sk;obtain ⟨T,hT,_,_,_,an⟩:=h.tu;have l1:=h.l1;have l2:=h.rl;have a:=h.chl;have c:=h.syl;have d:=h.del;have p0:=h.p0;have p1:=h.p1;have lk:Sk.length=1:=by rw [am];rfl
 have lt:Tu.length<=20:=by rw [hT];simpa using an
 have ak:∀ {k:Nat} {b:Int},(k:Int)<=b->decide ((k:Int)>b)=false:=fun h=>by simpa using h
 unfold WB;rw [hc,Q0,Q8 (by rfl)];simp -implicitDefEqProofs only [jn,ak (show ((Sk.length:Nat):Int)<=8 by omega),ak (show ((Ro.length:Nat):Int)<=48 by omega),ak (show ((Ls.length:Nat):Int)<=16 by omega),ak (show ((Ch.length:Nat):Int)<=32 by omega),ak (show ((Tu.length:Nat):Int)<=32 by omega),ak (show ((Sy.length:Nat):Int)<=32 by omega),ak (show ((De.length:Nat):Int)<=32 by omega),QdS];refine QR (r:=fun m h=>Z0 400 Ls ((Ls.length:Nat):Int) _ _ m h) (N:=Ls.length) (fun m k hk=>?_) (fun m=>?_) Ls.length 400 0 (by omega) (by omega)
 ·obtain ⟨w,rides,e,hr,_⟩:=LH h.good hk;rw [Z0,Qk hk,Qp,e];simp -implicitDefEqProofs only [Q0,List.getElem?_cons_zero,List.getElem?_cons_succ,Q1,Xj,X6,QdX,QdS,QdW,QdU,ak (show ((rides.length:Nat):Int)<=12 by omega),Xa (show k<=1000 by omega)]
 ·rw [Z0,Xb,QdS,show decide (per<2)=false by simp;omega,show decide (per>7200)=false by simp;omega];rfl
theorem Q7X (K:Int->oP R):ZT 400 G.St G.Pt G.Se G.Li per Sk Ro Ls Ch Tu Sy De K=K 0:=by
 have l2:=h.rl;unfold ZT;refine QR (r:=fun m h=>Ys 400 Ro ((Ro.length:Nat):Int) G.St G.Pt G.Se G.Li _ _ m h) (N:=Ro.length) (fun m k hk=>?_) (fun m=>?_) Ro.length 400 0 (by omega) (by omega)
 ·obtain ⟨s,x,y,e,hs⟩:=h.good.ro _ (QdZ hk);rw [Ys,Qk hk,Qp,QdT hk,e];simp -implicitDefEqProofs only [Q0,List.getElem?_cons_zero,List.getElem?_cons_succ,Q1,Xj,X6,QdX,QdS,QdW,QdU,Q2B h.ok.lay rfl hs.l2 hs.l24 hs.rt,Xa (show k<=1000 by omega)];rfl
 ·rw [Ys,Xb,QdS]
theorem Q6B (K:Int->oP R):Zm 400 G.St G.Pt G.Se G.Li per Sk Ro Ls Ch Tu Sy De K=K 0:=by
 have l2:=h.del;have hN:=h.ok.hN;unfold Zm;refine QR (r:=fun m h=>Yg 400 De ((De.length:Nat):Int) G.St _ _ m h) (N:=De.length) (fun m k hk=>?_) (fun m=>?_) De.length 400 0 (by omega) (by omega)
 ·obtain ⟨f,t,w,e,⟨f0,f1⟩,⟨t0,t1⟩,ak,w0,w1⟩:=h.de _ (QdZ hk);rw [Yg,Qk hk,Qp,QdT hk,e];simp -implicitDefEqProofs only [Q0,List.getElem?_cons_zero,List.getElem?_cons_succ,Q1,Xj,X6,QdX,QdS,QdW,QdU,h.ok.st,show decide (f<0)=false by simpa using f0,show decide (f>=((G.N:Nat):Int))=false by simpa using f1,show decide (t<0)=false by simpa using t0,show decide (t>=((G.N:Nat):Int))=false by simpa using t1,show (f == t)=false by simpa using ak,show decide (w<1)=false by simp;omega,show decide (w>1048576)=false by simp;omega,Xa (show k<=1000 by omega)]
 ·rw [Yg,Xb,QdS]
theorem Qao (K:Int->oP R):WG 400 G.St G.Pt G.Se G.Li per Sk Ro Ls Ch Tu Sy De K=K 0:=by
 have l2:=h.syl;have l0:=h.l0;unfold WG;refine QR (r:=fun m h=>YU 400 Sy ((Sy.length:Nat):Int) per Sk Ro Ls Ch Tu Sy De _ _ m h) (N:=Sy.length) (fun m k hk=>?_) (fun m=>?_) Sy.length 400 0 (by omega) (by omega)
 ·obtain ⟨o,e,a,b,h2⟩:=h.sy _ (QdZ hk);obtain ⟨r,hr⟩:=Q2X h (k:=0) (by omega);obtain ⟨r',ak⟩:=Q2X h (k:=1) (by omega);have e1:=FU (R:=Bool) (per:=per) (Sk:=Sk) (Ro:=Ro) (Ch:=Ch) (Tu:=Tu) (Sy:=Sy) (De:=De) (n:=400) hr some;have e2:=FU (R:=Bool) (per:=per) (Sk:=Sk) (Ro:=Ro) (Ch:=Ch) (Tu:=Tu) (Sy:=Sy) (De:=De) (n:=400) ak some;rw [YU,Qk hk,Qp,QdT hk,e];simp -implicitDefEqProofs only [Q0,List.getElem?_cons_zero,List.getElem?_cons_succ,Q1,Xj,X6,QdX,QdS,QdW,QdU,show Wc 400 per Sk Ro Ls Ch Tu Sy De 0 0 (some:Bool->Option Bool)=some true from e1,show Wc 400 per Sk Ro Ls Ch Tu Sy De 1 0 (some:Bool->Option Bool)=some true from e2,show ((0:Int) == 1)=false from rfl,show decide (o<0)=false by simp;omega,show decide (o>=per)=false by simp;omega,Xa (show k<=1000 by omega)]
 ·rw [YU,Xb,QdS]
end
theorem BI {n h:Nat} (hh:h<=n):slB n none (some (h:Int))=some (0,h):=by
 unfold slB;rw [show (decide ((0:Int)<=(none:Option Int).getD 0)&&(decide ((none:Option Int).getD 0<=(some (h:Int)).getD (n:Int))&&decide ((some (h:Int)).getD (n:Int)<=(n:Int))))=true by simp;omega];rfl
theorem RL {α:Type} {l:List α} {h:Nat}:cut l (0,h)=l.take h:=by simp [cut]
theorem Qa6 {i j:Nat} (hi:i<8) (hj:j<8) (h:i≠j):(nmN i == nmN j)=false:=by
 have:∀ i j:Fin 8,i≠j->(nmN i.val == nmN j.val)=false:=by decide
 exact this ⟨i,hi⟩ ⟨j,hj⟩ (by intro e;exact h (by simpa using e))
theorem Qbz {i:Nat} (hi:i<8):JG 400 (nmN i) (some:Bool->Option Bool)=some true:=by
 obtain rfl | rfl | rfl | rfl | rfl | rfl | rfl | rfl:i=0\/i=1\/i=2\/i=3\/i=4\/i=5\/i=6\/i=7:=by omega
 all_goals kernel_rfl
section
variable {Sk Ch Tu Sy De:LL} {per:Int}
theorem AU {G:Geo} {Ro Ls:LL} {c:Nat} (hg:GoodP G Ro Ls) (hc:c<8) (hl:c<Ls.length) {a b:Int} {rides:LL}:Qm 400 (cut Ls (0,c)) (nmN c) a b rides Tu5=some (false,nmN c,a,b,rides):=by
 have am:(cut Ls (0,c)).length=c:=by rw [RL];simp;omega
 unfold Qm QM;rw [am];refine (congrArg (fun E=>gb true E (0,[],0,0,[]) fun d=>some (decide (d.1>=(0:Int)),d.2.1,d.2.2.1,d.2.2.2.1,d.2.2.2.2)) (a₂:=some (-1,nmN c,a,b,rides)) (QR (r:=fun m h=>Q9 400 (cut Ls (0,c)) ((c:Nat):Int) _ _ m h (nmN c) a b rides) (N:=c) (fun m h hh=>?_) (fun m=>?_) c 400 0 (by omega) (by omega))).trans rfl
 ·obtain ⟨w,ak,e,_,_⟩:=LH hg (show h<Ls.length by omega);have e':(cut Ls (0,c))[h]? = some [D.str (nmN h),Q5 0,Q5 w,D.sl 4 ak]:=by rw [RL,List.getElem?_take_of_lt hh,e]
  rw [Q9,Qk hh,Qp,e'];simp -implicitDefEqProofs only [Q0,List.getElem?_cons_zero,List.getElem?_cons_succ,Q1,Xj,X6,QdX,QdS,QdW,QdU,Z8,Qa6 (show h<8 by omega) hc (by omega),Xa (show h<=1000 by omega)]
 ·rw [Q9,Xb,QdS]
theorem Q2c {G:Geo} (hG:G.OK) {Ro Ls rides:LL} {nm:List UInt8} {w:Int} {i:Nat} {r:List D} {x y:Int} {b:Bool} (p0:90<=per) (p1:per<=300) (aq:CO Sk) (hr:rides[i]? = some r) (hR:H8 G Ro r x y b) (hb:i+1=rides.length->b=true) (hl:rides.length<=2)
  (am:∀ j,j+1=i->∃ r' x' b',rides[j]? = some r'/\H8 G Ro r' x' x b'):V7 400 G.St G.Pt G.Se G.Li per Sk Ro Ls Ch Tu Sy De nm 0 w rides (i:Int) (some:Int->Option Int)=some 0:=by
 obtain ⟨rt,ex,mn,mx,s,rfl,ak,hs,⟨f,g⟩,⟨m0,m1,m2,m3⟩,hlast⟩:=hR;obtain ⟨a,v,c,d,rfl,hk⟩:=aq;have a9:rt<Ro.length:=(QdV.1 ak).1;have hi:i<rides.length:=(QdV.1 hr).1;have an:(bif ((i:Int) == (wJ (((List.length rides:Nat):Int)-(1:Int)))) then (bif (mn != (0:Int)) then true else (mx != (0:Int))) else false)=false:=by
  by_cases e:i+1=rides.length
  ·obtain ⟨rfl,rfl⟩:=hlast (hb e);rw [show ((0:Int) != 0)=false from rfl];cases ((i:Int) == (wJ (((List.length rides:Nat):Int)-(1:Int)))) <;> rfl
  ·rw [Qf (by omega) (by omega),show ((i:Int) == ((rides.length:Nat):Int)-1)=false by simp;omega];rfl
 unfold V7;rw [Qp,hr];simp -implicitDefEqProofs only [Q0,List.getElem?_cons_zero,List.getElem?_cons_succ,Q1,Xj,X6,QdX,QdS,QdW,QdU,jn,show decide ((rt:Int)<0)=false by simp,show decide ((rt:Int)>=((Ro.length:Nat):Int))=false by simp;omega,show decide (ex<0)=false by simp;omega,show decide (ex>=per)=false by simp;omega,Q1x m0 m1 (show mx<mn+per by omega) (by omega) p1,an,Qp,ak,show Q2 [[D.str (bs [88]),Q5 a,Q5 v,Q5 c,Q5 d]] (0:Int)=some [D.str (bs [88]),Q5 a,Q5 v,Q5 c,Q5 d] from rfl,Qaw hG.lay rfl hs.l2 hs.l24 hs.rt hs.st hk,show ((0:Int) != 0)=false from rfl];cases i with
 |zero=>
  rw [show decide (((0:Nat):Int)>0)=false from rfl];simp only [gbF,QdS]
 |succ j=>
  obtain ⟨r',x',b',aw,ax⟩:=am j rfl;obtain ⟨a7,ay,a6,bc,s',rfl,ao,au,_⟩:=ax;simp -implicitDefEqProofs only [Q0,List.getElem?_cons_zero,List.getElem?_cons_succ,Q1,Xj,X6,QdX,QdS,QdW,QdU,show decide (((j+1:Nat):Int)>0)=true by simp,Q1F ak hs,show wJ (((j+1:Nat):Int)-1)=(j:Int) by rw [Qf (by omega) (by omega)];omega,Qp,aw,Q5K ao au,show (x != x)=false by simp]
theorem Q6V {G:Geo} (hG:G.OK) {Ro Ls rides:LL} {nm:List UInt8} {w:Int} (p0:90<=per) (p1:per<=300) (ak:CO Sk) (h:Q05 G Ro rides):(rides.length=1\/rides.length=2)/\∀ i,i<rides.length->V7 400 G.St G.Pt G.Se G.Li per Sk Ro Ls Ch Tu Sy De nm 0 w rides (i:Int) (some:Int->Option Int)=some 0:=by
 rcases h with ⟨r,x,y,rfl,h⟩ | ⟨r,r',x,y,z,rfl,h,h'⟩
 ·refine ⟨.inl rfl,fun i hi=>?_⟩;have hi:i=0:=by simpa using hi
  subst hi;exact Q2c hG p0 p1 ak rfl h (fun _=>rfl) (by simp) fun j hj=>by omega
 ·refine ⟨.inr rfl,fun i hi=>?_⟩;obtain rfl | rfl:i=0\/i=1:=by simp at hi;omega
  ·exact Q2c hG p0 p1 ak rfl h (fun h=>by simp at h) (by simp) fun j hj=>by omega
  ·refine Q2c hG p0 p1 ak rfl h' (fun _=>rfl) (by simp) fun j hj=>?_
   have hj:j=0:=by omega
   subst hj;exact ⟨r,x,false,rfl,h⟩
end
theorem Q9n {R:Type} {G:Geo} {Sk Ro Ls Ch Tu Sy De:LL} {per:Int} (h:PlanR G per Sk Ro Ls Ch Tu Sy De) (K:Int->oP R):WQ 400 G.St G.Pt G.Se G.Li per Sk Ro Ls Ch Tu Sy De K=K 0:=by
 have l1:=h.l1;obtain ⟨_,_,_,_,aq,_⟩:=h.sk;have an:Sk.length=1:=by rw [aq];rfl
 unfold WQ;refine QR (r:=fun m h=>YY 400 Ls ((Ls.length:Nat):Int) G.St G.Pt G.Se G.Li per Sk Ro Ls Ch Tu Sy De _ _ m h) (N:=Ls.length) (fun m k hk=>?_) (fun m=>?_) Ls.length 400 0 (by omega) (by omega)
 ·obtain ⟨w,rides,e,w0,w1,ak⟩:=h.good.ls k _ (QdT hk);obtain ⟨ao,am⟩:=Q6V (Ls:=Ls) (Ch:=Ch) (Tu:=Tu) (Sy:=Sy) (De:=De) (nm:=nmN k) (w:=w) h.ok h.p0 h.p1 h.sk ak;rw [YY,Qk hk,Qp,QdT hk,e];simp -implicitDefEqProofs only [Q0,List.getElem?_cons_zero,List.getElem?_cons_succ,Q1,Xj,X6,QdX,QdS,QdW,QdU,Qbz (show k<8 by omega),BI (Nat.le_of_lt hk),AU h.good (show k<8 by omega) hk,jn,show decide ((0:Int)<0)=false from rfl,an,show decide ((0:Int)>=((1:Nat):Int))=false from rfl,Q4E w0 (show w<=1000 by omega),show (((rides.length:Nat):Int) == 0)=false by simp;intro hx;simp [hx] at ao];refine (QR (r:=fun m h=>YZ 400 ((rides.length:Nat):Int) G.St G.Pt G.Se G.Li per Sk Ro Ls Ch Tu Sy De (nmN k) 0 w rides _ _ m h) (N:=rides.length) (fun m i hi=>?_) (fun m=>?_) rides.length 400 0 (by omega) (by omega))
  ·rw [YZ,Qk hi];simp -implicitDefEqProofs only [Q0,List.getElem?_cons_zero,List.getElem?_cons_succ,Q1,Xj,X6,QdX,QdS,QdW,QdU,am i hi,show ((0:Int) != 0)=false from rfl,Xa (show i<=1000 by omega)]
  ·rw [YZ,Xb,QdS,Xa (by omega)]
 ·rw [YY,Xb,QdS]

theorem Sn {α:Type} {l:List α} (h:l.Nodup) {i:Nat} (hi:i<l.length):∀ x∈l.take i,x≠l[i]:=by
 intro x hx e;subst e;obtain ⟨j,hj,e⟩:=List.getElem_of_mem hx;simp at hj;rw [List.getElem_take] at e;have:=(List.nodup_iff_pairwise_ne.1 h);have:=List.pairwise_iff_getElem.1 this j i (by omega) hi (by omega);exact this e
theorem Q14 {a b c d:Int} {T:List Tup} (ht:∀ t∈T,(t.1:Int)≠a/\(t.2.1:Int)≠b) (hl:T.length<=30):Ql 400 (T.map tuR) a b c d Tu5=some (false,a,b,c,d):=by
 have ak:(T.map tuR).length=T.length:=by simp
 unfold Ql QN;rw [ak];refine (congrArg (fun E=>gb true E (0,0,0,0,0) fun f=>some (decide (f.1>=(0:Int)),f.2.1,f.2.2.1,f.2.2.2.1,f.2.2.2.2)) (a₂:=some (-1,a,b,c,d)) (QR (r:=fun m h=>Qa 400 (T.map tuR) ((T.length:Nat):Int) _ _ m h a b c d) (N:=T.length) (fun m h hh=>?_) (fun m=>?_) T.length 400 0 (by omega) (by omega))).trans rfl
 ·have e:(T.map tuR)[h]? = some (tuR T[h]):=by rw [List.getElem?_map,QdT hh];rfl
  obtain ⟨l,n⟩:=ht _ (QdZ hh);rw [Qa,Qk hh,Qp,e];simp -implicitDefEqProofs only [Q0,List.getElem?_cons_zero,List.getElem?_cons_succ,Q1,Xj,X6,QdX,QdS,QdW,QdU,tuR,Z6,show ((T[h].1:Int) == a)=false by simpa using l,show ((T[h].2.1:Int) == b)=false by simpa using n,Xa (show h<=1000 by omega)]
 ·rw [Qa,Xb,QdS]
section
variable {R:Type} {G:Geo} {Sk Ro Ls Ch Tu Sy De:LL} {per:Int} (h:PlanR G per Sk Ro Ls Ch Tu Sy De)
include h
theorem Q6L (K:Int->oP R):Zt 400 G.St G.Pt G.Se G.Li per Sk Ro Ls Ch Tu Sy De K=K 0:=by
 have l2:=h.chl;have p1:=h.p1;unfold Zt;refine QR (r:=fun m h=>Yh 400 Ch ((Ch.length:Nat):Int) G.Se per Sk Ro Ls Ch Tu Sy De _ _ m h) (N:=Ch.length) (fun m k hk=>?_) (fun m=>?_) Ch.length 400 0 (by omega) (by omega)
 ·obtain ⟨f,fr,t,tr,mn,mx,w,r,r',x,y,x',y',b,b',i,e,hr,ak,hR,au,bc,⟨m0,m1,m2,m3⟩,⟨w0,w1⟩,⟨c,a1,c1,d1,g1⟩,⟨d,a2,g,j,a⟩,hi⟩:=h.ch _ (QdZ hk);have hb:=FU (R:=Bool) (per:=per) (Sk:=Sk) (Ro:=Ro) (Ch:=Ch) (Tu:=Tu) (Sy:=Sy) (De:=De) (n:=400) hr;have aw:=FU (R:=Bool) (per:=per) (Sk:=Sk) (Ro:=Ro) (Ch:=Ch) (Tu:=Tu) (Sy:=Sy) (De:=De) (n:=400) ak;obtain ⟨nm,v,rides,e1,e2⟩:=hr;obtain ⟨bg,v',an,ax,ao⟩:=ak;obtain ⟨rt,ex,rn,rx,s,rfl,ar,hs,_⟩:=hR;obtain ⟨a7,ay,bd,a8,s',rfl,am,aq,_⟩:=au;rw [Yh,Qk hk,Qp,QdT hk,e];simp -implicitDefEqProofs only [Q0,List.getElem?_cons_zero,List.getElem?_cons_succ,Q1,Xj,X6,QdX,QdS,QdW,QdU,hb,aw,Q1x m0 m2 m3 (show mn<=1000 by omega) p1,Q4E w0 (show w<=1000 by omega),show ((f:Int) == (t:Int))=false by simp;omega,Qp,e1,e2,ax,ao,Q5K ar hs,Q1F am aq,g1,a,show (i == (-1:Int))=false by simp;omega,show (i != i)=false by simp,Xa (show k<=1000 by omega)]
 ·rw [Yh,Xb,QdS]
theorem Q9R (K:Int->oP R):WP 400 G.St G.Pt G.Se G.Li per Sk Ro Ls Ch Tu Sy De K=K 0:=by
 obtain ⟨T,hT,t1,t2,a,p⟩:=h.tu;have hl:Tu.length=T.length:=by rw [hT];simp
 have p0:=h.p0;have p1:=h.p1;unfold WP;rw [hl];refine QR (r:=fun m h=>Z4 400 Tu ((T.length:Nat):Int) per Sk Ro Ls Ch Tu Sy De _ _ m h) (N:=T.length) (fun m k hk=>?_) (fun m=>?_) T.length 400 0 (by omega) (by omega)
 ·have e:Tu[k]? = some (tuR T[k]):=by rw [hT,List.getElem?_map,QdT hk];rfl
  obtain ⟨c,d,q,u,f,v,nm,w,rides,r,r',x,y,z,b,b',e1,e2,e3,e4,⟨bg,w',ak,g,j⟩,hR,ax⟩:=t1 _ (QdZ hk);obtain ⟨rt,ex,rn,rx,s,rfl,au,hs,_⟩:=hR;obtain ⟨ay,ar,a7,a6,s',rfl,ao,aq,_⟩:=ax;have am:cut Tu (0,k)=(T.take k).map tuR:=by rw [RL,hT,List.map_take]
  have an:∀ t∈T.take k,(t.1:Int)≠(T[k].1:Int)/\(t.2.1:Int)≠(T[k].2.1:Int):=by
   intro t ht;have l:=Sn t2 (i:=k) (by simpa using hk) t.1 (by rw [<- List.map_take];exact List.mem_map_of_mem ht);have h2:=Sn a (i:=k) (by simpa using hk) t.2.1 (by rw [<- List.map_take];exact List.mem_map_of_mem ht);rw [List.getElem_map] at l h2;exact ⟨by omega,by omega⟩
  rw [Z4,Qk hk,Qp,e];simp -implicitDefEqProofs only [Q0,List.getElem?_cons_zero,List.getElem?_cons_succ,Q1,Xj,X6,QdX,QdS,QdW,QdU,tuR,A8 c,A8 d,Q1x (Sk:=Sk) (Ro:=Ro) (Ls:=Ls) (Ch:=Ch) (Tu:=Tu) (Sy:=Sy) (De:=De) (n:=400) (show 0<=T[k].2.2.1 by omega) f (show T[k].2.2.2<T[k].2.2.1+per by omega) (by omega) p1];rw [hl,BI (by omega),Q0,am,Q14 an (by simp;omega)];have hw:wJ (((rides.length:Nat):Int)-1)=((rides.length-1:Nat):Int):=by rw [Qf (by omega) (by omega)];omega
  have o:Q2 ak (0:Int)=some [Q5 ay,Q5 ar,Q5 a7,Q5 a6]:=(Qp ak 0).trans j;simp -implicitDefEqProofs only [Q0,List.getElem?_cons_zero,List.getElem?_cons_succ,Q1,Xj,X6,QdX,QdS,QdW,QdU,Qp,e1,g,hw,e2,o,Q5K au hs,Q1F ao aq,show (y != y)=false by simp,show ((0:Int) != 0)=false from rfl,Xa (show k<=1000 by omega)]
 ·rw [Z4,Xb,QdS]
theorem Q8g (K:Int->oP R):UO 400 G.St G.Pt G.Se G.Li per Sk Ro Ls Ch Tu Sy De K=K 0:=by
 unfold UO Q5z;rw [Qar h,Q8J h.sk,Q7X h,Q9n h,Q6L h,Q9R h,Qao h,Q6B h];rfl
end

end Go.Vx
namespace Go.Vx
variable {R:Type}
def Wa (n:Nat) (b:Int) (d e:D) (k0:Int->Bool->LL->oP R):Nat->Int->LL->oP R
 | 0,_,_=>none
 | m+1,a,c=>gb true (pIw d) 0 fun f=>bif decide (a<f) then gb true (pIw e) 0 fun g=>gb true (YD ((c.length+[[Q5 g,Q5 b]].length)*16)) () fun h=>Wa n b d e k0 m (wJ (a+1)) (c++[[Q5 g,Q5 b]]) else k0 a (decide (a<f)) c
def Wi (n:Nat) (d a:LL) (c:Int) (k0:Int->Bool->LL->oP R):Nat->Int->LL->oP R
 | 0,_,_=>none
 | m+1,h2,e=>bif (decide (h2<(wJ ((a.length:Int)-c)))) then gb true (Q2 a h2) [] fun i=>gb true (i[0]?) oF fun j=>gb true (pIw j) 0 fun k=>gb true (Q2 d k) [] fun b=>gb true (b[0]?) oF fun t=>gb true (b[1]?) oF fun f=>gb true (b[2]?) oF fun g=>gb true (b[3]?) oF fun l=>gb true (b[4]?) oF fun u=>gb true (pIw l) 0 fun h=>gb true (Q2 a h2) [] fun o=>gb true (o[1]?) oF fun p=>gb true (pIw p) 0 fun q=>bif (q == 1) then Wa n (wJ (0-h)) f g (fun v x r=>Wi n d a c k0 m (wJ (h2+1)) r) n 0 e else Wa n h f g (fun y z s=>Wi n d a c k0 m (wJ (h2+1)) s) n 0 e else k0 h2 (decide (h2<(wJ ((a.length:Int)-c)))) e
def Hw (n:Nat) (f g a h b:LL) (c:Int) (K:LL->Int->Int->oP R):oP R:= gb true (UB n f g a h b c some) 0 fun d=>bif (d != 0) then K [] 0 d else Wi n a b c (fun p q e=>bif (decide ((e.length:Int)>4000)) then K [] 0 7 else gb true (Q2 b 0) [] fun i=>gb true (i[0]?) oF fun j=>gb true (pIw j) 0 fun k=>gb true (Q2 a k) [] fun l=>gb true (l[1]?) oF fun m=>gb true (pIw m) 0 fun o=>K e o 0) n 0 []
def XF (n:Nat) (i:List UInt8) (d e f g:Int) (K:Bool->oP R):oP R:= gb true (Gm n d 1 40 some) false fun a=>gb a (Gm n e 1000 100000 some) false fun b=>gb (bif a then b else false) (Gm n f 100 2000 some) false fun c=>gb (bif (bif a then b else false) then c else false) (Gm n g 100 2000 some) false fun h=>K (bif (bif (bif a then b else false) then c else false) then h else false)

def VA (n:Nat) (e b:LL) (c d:Int) (k0:oP R) (k1:Int->Bool->oP R):Nat->Int->oP R
 | 0,_=>none
 | m+1,a=>bif (decide (a<(wJ ((b.length:Int)-c)))) then gb true (Q2 b a) [] fun f=>gb true (f[0]?) oF fun g=>gb true (pIw g) 0 fun h=>gb true (Q2 e h) [] fun i=>gb true (i[1]?) oF fun j=>gb true (pIw j) 0 fun k=>bif (decide (k<(if 2<d then d else 2))) then k0 else VA n e b c d k0 k1 m (wJ (a+1)) else k1 a (decide (a<(wJ ((b.length:Int)-c))))
def HQ (n:Nat) (g h c i d:LL) (e:Int) (j:List UInt8) (f k l m:Int) (K:Int->oP R):oP R:= gb true (Hw n g h c i d e Tu3) ([],0,0) fun a=>bif (a.2.2 != 0) then K a.2.2 else gb true (XF n j f k l m some) false fun b=>bif !b then K 1 else VA n c d e f (K 12) (fun p q=>K 0) n 0

def Vv (n:Nat) (b:LL) (k0:oP R) (k1:Int->Bool->oP R):Nat->Int->oP R
 | 0,_=>none
 | m+1,a=>bif (decide (a<(b.length:Int))) then gb true (Q2 b a) [] fun c=>gb true (c[3]?) oF fun d=>gb true (pSl 4 d) [] fun e=>bif (decide ((e.length:Int)>12)) then k0 else Vv n b k0 k1 m (wJ (a+1)) else k1 a (decide (a<(b.length:Int)))
def RX (n:Nat) (h:Int) (b c a d e f g:LL) (K:Bool->oP R):oP R:= bif (bif (bif (bif (bif (bif (bif (decide ((b.length:Int)>8)) then true else (decide ((c.length:Int)>48))) then true else (decide ((a.length:Int)>16))) then true else (decide ((d.length:Int)>32))) then true else (decide ((e.length:Int)>32))) then true else (decide ((f.length:Int)>32))) then true else (decide ((g.length:Int)>32))) then K true else Vv n a (K true) (fun i j=>K false) n 0

def Uv (n:Nat) (a0 a1 a2:Int) (K:Bool->oP R):oP R:= K (bif decide (a0>=a1) then (decide (a0<=a2)) else false)

def Jc (n:Nat) (b:Int) (c:LL) (k0:oP R) (k1:Int->Bool->oP R):Nat->Int->oP R
 | 0,_=>none
 | m+1,a=>bif decide (a<b) then gb true (Q2 c a) [] fun d=>gb true (d[0]?) oF fun e=>gb true (Sv e) [] fun f=>gb true (Q2 c b) [] fun g=>gb true (g[0]?) oF fun h=>gb true (Sv h) [] fun i=>bif (f == i) then k0 else Jc n b c k0 k1 m (wJ (a+1)) else k1 a (decide (a<b))
def VT (n:Nat) (s:Int) (b t u v x y z:LL) (a1:Int) (K:Int->oP R):oP R:= gb true (Q2 b a1) [] fun c=>gb true (c[0]?) oF fun d=>gb true (Sv d) [] fun e=>gb true (PN n e some) false fun f=>bif !f then K 3 else Jc n a1 b (K 5) (fun aa ab=>gb true (Q2 b a1) [] fun a=>gb true (a[0]?) oF fun g=>gb true (a[1]?) oF fun h=>gb true (a[2]?) oF fun i=>gb true (a[3]?) oF fun j=>gb true (a[4]?) oF fun k=>gb true (Sv g) [] fun l=>gb true (pIw h) 0 fun m=>gb true (pIw i) 0 fun o=>gb true (pIw j) 0 fun p=>gb true (pIw k) 0 fun q=>gb true (XF n l m o p q some) false fun r=>bif !r then K 4 else K 0) n 0

def Jv (n:Nat) (a:Int) (b c d e f g h:LL) (a1 a2:Int) (K:Bool->oP R):oP R:= K (bif (bif (bif decide (a1>=0) then (decide (a1<=a2)) else false) then (decide (a2<(wJ (a1+a)))) else false) then (decide (a2<=7200)) else false)

def GZ (n:Nat) (a:LL) (e:Int) (K:Int->oP R):oP R:= gb true (Q2 a 0) [] fun b=>gb true (b[0]?) oF fun c=>gb true (pIw c) 0 fun d=>K d

def Hu (n:Nat) (a:LL) (b:Int) (K:Int->oP R):oP R:= gb true (Q2 a (wJ ((wJ ((a.length:Int)-b))-1))) [] fun c=>gb true (c[0]?) oF fun d=>gb true (pIw d) 0 fun e=>K e

def Zx (n:Nat) (b:Int) (c:LL) (d:D) (k0:oP R) (k1:Int->Bool->oP R):Nat->Int->oP R
 | 0,_=>none
 | m+1,a=>bif decide (a<b) then gb true (Q2 c a) [] fun e=>gb true (e[0]?) oF fun f=>gb true (Sv f) [] fun g=>gb true (Sv d) [] fun h=>bif (g == h) then k0 else Zx n b c d k0 k1 m (wJ (a+1)) else k1 a (decide (a<b))
def Zo (n:Nat) (o p q r:LL) (h:Int) (i c s t u v x:LL) (y e:D) (k0:Int->oP R) (k1:Int->Bool->oP R):Nat->Int->oP R
 | 0,_=>none
 | m+1,a=>gb true (pSl 4 e) [] fun z=>bif (decide (a<(z.length:Int))) then gb true (pSl 4 e) [] fun ai=>gb true (Q2 ai a) [] fun g=>gb true (g[0]?) oF fun j=>gb true (g[1]?) oF fun aj=>gb true (g[2]?) oF fun aa=>gb true (g[3]?) oF fun ab=>gb true (pSl 4 e) [] fun k=>gb true (pIw j) 0 fun ak=>gb true (Uv n ak 0 (wJ ((c.length:Int)-1)) some) false fun b=>gb (!(!b)) (pIw aj) 0 fun al=>gb (!(!b)) (Uv n al 0 (wJ (h-1)) some) false fun d=>gb (!(bif !b then true else (!d))) (pIw aa) 0 fun am=>gb (!(bif !b then true else (!d))) (pIw ab) 0 fun an=>gb (!(bif !b then true else (!d))) (Jv n h i c s t u v x am an some) false fun l=>gb ((!(bif (bif !b then true else (!d)) then true else (!l)))&&(a == (wJ ((k.length:Int)-1)))) (pIw aa) 0 fun ac=>gb (((!(bif (bif !b then true else (!d)) then true else (!l)))&&(a == (wJ ((k.length:Int)-1))))&&(!(ac != 0))) (pIw ab) 0 fun ao=>bif (bif (bif (bif !b then true else (!d)) then true else (!l)) then true else (bif (a == (wJ ((k.length:Int)-1))) then (bif (ac != 0) then true else (ao != 0)) else false)) then k0 4 else gb true (pIw j) 0 fun ap=>gb true (Q2 c ap) [] fun ad=>gb true (ad[0]?) oF fun aq=>gb true (ad[1]?) oF fun ar=>gb true (pIw y) 0 fun au=>gb true (Q2 i au) [] fun f=>gb true (f[0]?) oF fun av=>gb true (f[1]?) oF fun aw=>gb true (f[2]?) oF fun ax=>gb true (f[3]?) oF fun ay=>gb true (f[4]?) oF fun az=>gb true (pSl 2 aq) [] fun ba=>gb true (pIw ar) 0 fun bb=>gb true (Sv av) [] fun bc=>gb true (pIw aw) 0 fun bd=>gb true (pIw ax) 0 fun be=>gb true (pIw ay) 0 fun bg=>gb true (pIw az) 0 fun bh=>gb true (HQ n o p q r ba bb bc bd be bg bh some) 0 fun ae=>bif (ae != 0) then k0 ae else gb (decide (a>0)) (pIw j) 0 fun bi=>gb (decide (a>0)) (Q2 c bi) [] fun ag=>gb (decide (a>0)) (ag[0]?) oF fun bj=>gb (decide (a>0)) (ag[1]?) oF fun bk=>gb (decide (a>0)) (pSl 2 bj) [] fun bl=>gb (decide (a>0)) (pIw bk) 0 fun bm=>gb (decide (a>0)) (GZ n bl bm some) 0 fun bn=>gb (decide (a>0)) (pSl 4 e) [] fun bo=>gb (decide (a>0)) (Q2 bo (wJ (a-1))) [] fun bp=>gb (decide (a>0)) (bp[0]?) oF fun bq=>gb (decide (a>0)) (pIw bq) 0 fun br=>gb (decide (a>0)) (Q2 c br) [] fun ah=>gb (decide (a>0)) (ah[0]?) oF fun bt=>gb (decide (a>0)) (ah[1]?) oF fun bu=>gb (decide (a>0)) (pSl 2 bt) [] fun bv=>gb (decide (a>0)) (pIw bu) 0 fun bx=>gb (decide (a>0)) (Hu n bv bx some) 0 fun bz=>bif (bif decide (a>0) then (bn != bz) else false) then k0 11 else Zo n o p q r h i c s t u v x y e k0 k1 m (wJ (a+1)) else k1 a (decide (a<(z.length:Int)))
def JS (n:Nat) (h i j k:LL) (l:Int) (d m b o p q r:LL) (a2:Int) (K:Int->oP R):oP R:= gb true (Q2 b a2) [] fun a=>gb true (a[0]?) oF fun e=>gb true (a[1]?) oF fun f=>gb true (a[2]?) oF fun s=>gb true (a[3]?) oF fun g=>gb true (Sv e) [] fun t=>gb true (PN n t some) false fun u=>bif !u then K 3 else Zx n a2 b e (K 5) (fun ab ac=>gb true (pIw f) 0 fun v=>gb true (Uv n v 0 (wJ ((d.length:Int)-1)) some) false fun c=>gb (!(!c)) (pIw s) 0 fun x=>gb (!(!c)) (Uv n x 0 1048576 some) false fun y=>bif (bif !c then true else (!y)) then K 4 else gb true (pSl 4 g) [] fun z=>bif ((z.length:Int) == 0) then K 1 else Zo n h i j k l d m b o p q r f g (fun aa=>K aa) (fun ad ae=>K 0) n 0) n 0

def V4 (n:Nat) (g:Int) (h i b j k l m:LL) (a1 a2:Int) (K:Bool->oP R):oP R:= gb true (Uv n a1 0 (wJ ((b.length:Int)-1)) some) false fun a=>gb a (Q2 b a1) [] fun c=>gb a (c[3]?) oF fun d=>gb a (pSl 4 d) [] fun e=>gb a (Uv n a2 0 (wJ ((e.length:Int)-1)) some) false fun f=>K (bif a then f else false)

def XI (n:Nat) (l:Int) (m b c o p q r:LL) (a1 a2:Int) (K:D->D->oP R):oP R:= gb true (Q2 c a1) [] fun d=>gb true (d[3]?) oF fun e=>gb true (pSl 4 e) [] fun f=>gb true (Q2 f a2) [] fun g=>gb true (g[0]?) oF fun h=>gb true (pIw h) 0 fun i=>gb true (Q2 b i) [] fun a=>gb true (a[0]?) oF fun j=>gb true (a[1]?) oF fun k=>K j k

def Gr (n:Nat) (am an o ao:LL) (b:Int) (c d e f g h i:LL) (j p k q v x y:Int) (K:Int->oP R):oP R:= gb true (V4 n b c d e f g h i j p some) false fun a=>gb (!(!a)) (V4 n b c d e f g h i k q some) false fun l=>gb (!(bif (bif !a then true else (!l)) then true else (j == k))) (Jv n b c d e f g h i v x some) false fun r=>gb (!(bif (bif (bif !a then true else (!l)) then true else (j == k)) then true else (!r))) (Uv n y 0 1048576 some) false fun z=>bif (bif (bif (bif (bif !a then true else (!l)) then true else (j == k)) then true else (!r)) then true else (!z)) then K 4 else gb true (XI n b c d e f g h i j p Tu2) ((.bool false),(.bool false)) fun s=>gb true (pSl 2 s.1) [] fun l6=>gb true (pIw s.2) 0 fun i7=>gb true (Hu n l6 i7 some) 0 fun r8=>gb true (Q2 o r8) [] fun r9=>gb true (r9[4]?) oF fun ae=>gb true (pIw ae) 0 fun t=>gb true (XI n b c d e f g h i k q Tu2) ((.bool false),(.bool false)) fun u=>gb true (pSl 2 u.1) [] fun ag=>gb true (pIw u.2) 0 fun ah=>gb true (GZ n ag ah some) 0 fun ai=>gb true (Q2 o ai) [] fun aj=>gb true (aj[4]?) oF fun ak=>gb true (pIw ak) 0 fun al=>bif (bif decide (t<0) then true else (t != al)) then K 11 else K 0

def Zy (n:Nat) (d:Int) (e:LL) (f g:D) (k0:oP R) (k1:Int->Bool->oP R):Nat->Int->oP R
 | 0,_=>none
 | m+1,a=>bif decide (a<d) then gb true (Q2 e a) [] fun h=>gb true (h[0]?) oF fun i=>gb true (pIw i) 0 fun b=>gb true (pIw f) 0 fun c=>gb (!(b == c)) (Q2 e a) [] fun j=>gb (!(b == c)) (j[1]?) oF fun k=>gb (!(b == c)) (pIw k) 0 fun l=>gb (!(b == c)) (pIw g) 0 fun o=>bif (bif (b == c) then true else (l == o)) then k0 else Zy n d e f g k0 k1 m (wJ (a+1)) else k1 a (decide (a<d))
def JT (n:Nat) (j:Int) (k l b m d o p:LL) (a1:Int) (K:Int->oP R):oP R:= gb true (Q2 d a1) [] fun a=>gb true (a[0]?) oF fun e=>gb true (a[1]?) oF fun f=>gb true (a[2]?) oF fun v=>gb true (a[3]?) oF fun x=>gb true (pIw e) 0 fun y=>gb true (Uv n y 0 (wJ ((b.length:Int)-1)) some) false fun c=>gb (!(!c)) (pIw f) 0 fun z=>gb (!(!c)) (Uv n z 0 (wJ ((b.length:Int)-1)) some) false fun g=>gb (!(bif !c then true else (!g))) (pIw v) 0 fun aa=>gb (!(bif !c then true else (!g))) (pIw x) 0 fun ab=>gb (!(bif !c then true else (!g))) (Jv n j k l b m d o p aa ab some) false fun ac=>bif (bif (bif !c then true else (!g)) then true else (!ac)) then K 4 else Zy n a1 d e f (K 5) (fun ar au=>gb true (pIw e) 0 fun ad=>gb true (Q2 b ad) [] fun h=>gb true (h[0]?) oF fun av=>gb true (h[1]?) oF fun ae=>gb true (h[2]?) oF fun aw=>gb true (h[3]?) oF fun ag=>gb true (pIw f) 0 fun ah=>gb true (Q2 b ah) [] fun i=>gb true (i[0]?) oF fun ax=>gb true (i[1]?) oF fun ai=>gb true (i[2]?) oF fun ay=>gb true (i[3]?) oF fun az=>gb true (pIw e) 0 fun aj=>gb true (pSl 4 ag) [] fun ak=>gb true (XI n j k l b m d o p aj (wJ ((ak.length:Int)-1)) Tu2) ((.bool false),(.bool false)) fun t=>gb true (pSl 2 t.1) [] fun al=>gb true (pIw t.2) 0 fun am=>gb true (Hu n al am some) 0 fun r=>gb true (pIw f) 0 fun i64=>gb true (XI n j k l b m d o p i64 0 Tu2) ((.bool false),(.bool false)) fun u=>gb true (pSl 2 u.1) [] fun an=>gb true (pIw u.2) 0 fun ao=>gb true (GZ n an ao some) 0 fun s=>gb (!(r != s)) (pIw ae) 0 fun ap=>gb (!(r != s)) (pIw ai) 0 fun aq=>bif (bif (r != s) then true else (ap != aq)) then K 11 else K 0) n 0

def Zs (n:Nat) (c:Int) (b d e f g h i:LL) (k0:Int->oP R) (k1:Int->Bool->oP R):Nat->Int->oP R
 | 0,_=>none
 | m+1,a=>bif (decide (a<(b.length:Int))) then gb true (VT n c b d e f g h i a some) 0 fun j=>bif (j != 0) then k0 j else Zs n c b d e f g h i k0 k1 m (wJ (a+1)) else k1 a (decide (a<(b.length:Int)))
def Zn (n:Nat) (c d e f b:LL) (k0:Int->oP R) (k1:Int->Bool->oP R):Nat->Int->oP R
 | 0,_=>none
 | m+1,a=>bif (decide (a<(b.length:Int))) then gb true (Q2 b a) [] fun g=>gb true (g[0]?) oF fun i=>gb true (g[1]?) oF fun j=>gb true (pSl 2 i) [] fun k=>gb true (pIw j) 0 fun l=>gb true (UB n c d e f k l some) 0 fun h=>bif (h != 0) then k0 h else Zn n c d e f b k0 k1 m (wJ (a+1)) else k1 a (decide (a<(b.length:Int)))
def Zr (n:Nat) (c d e f:LL) (g:Int) (h i b j k l o:LL) (k0:Int->oP R) (k1:Int->Bool->oP R):Nat->Int->oP R
 | 0,_=>none
 | m+1,a=>bif (decide (a<(b.length:Int))) then gb true (JS n c d e f g h i b j k l o a some) 0 fun p=>bif (p != 0) then k0 p else Zr n c d e f g h i b j k l o k0 k1 m (wJ (a+1)) else k1 a (decide (a<(b.length:Int)))
def YB (n:Nat) (d e f g:LL) (h:Int) (i j k b l o p:LL) (k0:Int->oP R) (k1:Int->Bool->oP R):Nat->Int->oP R
 | 0,_=>none
 | m+1,c=>bif (decide (c<(b.length:Int))) then gb true (Q2 b c) [] fun a=>gb true (a[0]?) oF fun r=>gb true (a[1]?) oF fun s=>gb true (a[2]?) oF fun t=>gb true (a[3]?) oF fun u=>gb true (a[4]?) oF fun v=>gb true (a[5]?) oF fun x=>gb true (a[6]?) oF fun y=>gb true (pIw r) 0 fun z=>gb true (pIw s) 0 fun aa=>gb true (pIw t) 0 fun ab=>gb true (pIw u) 0 fun ac=>gb true (pIw v) 0 fun ad=>gb true (pIw x) 0 fun ae=>gb true (pIw y) 0 fun ag=>gb true (Gr n d e f g h i j k b l o p z aa ab ac ad ae ag some) 0 fun q=>bif (q != 0) then k0 q else YB n d e f g h i j k b l o p k0 k1 m (wJ (c+1)) else k1 c (decide (c<(b.length:Int)))
def Yx (n:Nat) (c:Int) (d e f g b h i:LL) (k0:Int->oP R) (k1:Int->Bool->oP R):Nat->Int->oP R
 | 0,_=>none
 | m+1,a=>bif (decide (a<(b.length:Int))) then gb true (JT n c d e f g b h i a some) 0 fun j=>bif (j != 0) then k0 j else Yx n c d e f g b h i k0 k1 m (wJ (a+1)) else k1 a (decide (a<(b.length:Int)))
def Yt (n:Nat) (h:Int) (i j k l o c p:LL) (k0:oP R) (k1:Int->Bool->oP R):Nat->Int->oP R
 | 0,_=>none
 | m+1,d=>bif (decide (d<(c.length:Int))) then gb true (Q2 c d) [] fun e=>gb true (e[0]?) oF fun s=>gb true (e[1]?) oF fun t=>gb true (e[2]?) oF fun u=>gb true (e[3]?) oF fun v=>gb true (e[4]?) oF fun x=>gb true (pIw s) 0 fun y=>gb true (pIw t) 0 fun z=>gb true (V4 n h i j k l o c p y z some) false fun a=>gb (!(!a)) (pIw u) 0 fun aa=>gb (!(!a)) (pIw v) 0 fun ab=>gb (!(!a)) (V4 n h i j k l o c p aa ab some) false fun b=>gb (!(bif !a then true else (!b))) (pIw s) 0 fun f=>gb (!(bif !a then true else (!b))) (pIw u) 0 fun g=>gb ((!(bif !a then true else (!b)))&&(f == g)) (pIw t) 0 fun q=>gb ((!(bif !a then true else (!b)))&&(f == g)) (pIw v) 0 fun r=>gb (!(bif (bif !a then true else (!b)) then true else (bif (f == g) then (q == r) else false))) (pIw x) 0 fun ac=>gb (!(bif (bif !a then true else (!b)) then true else (bif (f == g) then (q == r) else false))) (Uv n ac 0 (wJ (h-1)) some) false fun ad=>bif (bif (bif (bif !a then true else (!b)) then true else (bif (f == g) then (q == r) else false)) then true else (!ad)) then k0 else Yt n h i j k l o c p k0 k1 m (wJ (d+1)) else k1 d (decide (d<(c.length:Int)))
def Yz (n:Nat) (e d:LL) (k0:oP R) (k1:Int->Bool->oP R):Nat->Int->oP R
 | 0,_=>none
 | m+1,b=>bif (decide (b<(d.length:Int))) then gb true (Q2 d b) [] fun f=>gb true (f[0]?) oF fun i=>gb true (f[1]?) oF fun j=>gb true (f[2]?) oF fun k=>gb true (pIw i) 0 fun l=>gb true (Uv n l 0 (wJ ((e.length:Int)-1)) some) false fun a=>gb (!(!a)) (pIw j) 0 fun o=>gb (!(!a)) (Uv n o 0 (wJ ((e.length:Int)-1)) some) false fun c=>gb (!(bif !a then true else (!c))) (pIw i) 0 fun g=>gb (!(bif !a then true else (!c))) (pIw j) 0 fun h=>gb (!(bif (bif !a then true else (!c)) then true else (g == h))) (pIw k) 0 fun p=>gb (!(bif (bif !a then true else (!c)) then true else (g == h))) (Uv n p 1 1048576 some) false fun q=>bif (bif (bif (bif !a then true else (!c)) then true else (g == h)) then true else (!q)) then k0 else Yz n e d k0 k1 m (wJ (b+1)) else k1 b (decide (b<(d.length:Int)))
def UW (n:Nat) (i j k l:LL) (a:Int) (d b e f g h c:LL) (K:Int->oP R):oP R:= gb true (Vr n i j k l some) 0 fun m=>bif (m != 0) then K 1 else gb true (RX n a d b e f g h c some) false fun o=>bif o then K 7 else gb true (Uv n a 2 7200 some) false fun p=>bif !p then K 4 else Zs n a d b e f g h c (fun q=>K q) (fun v x=>Zn n i j k l b (fun r=>K r) (fun y z=>Zr n i j k l a d b e f g h c (fun s=>K s) (fun aa ab=>YB n i j k l a d b e f g h c (fun t=>K t) (fun ac ad=>Yx n a d b e f g h c (fun u=>K u) (fun ae ag=>Yt n a d b e f g h c (K 4) (fun ah ai=>Yz n i c (K 4) (fun aj ak=>K 0) n 0) n 0) n 0) n 0) n 0) n 0) n 0

end Go.Vx
namespace Go.Vx
section
variable {R:Type} {n:Nat}
theorem Q1i {x lo hi:Int} (a:lo<=x) (b:x<=hi) (K:Bool->oP R):Gm n x lo hi K=K true:=inT (n:=n) a b K
theorem Q21 {x lo hi:Int} (a:lo<=x) (b:x<=hi) (K:Bool->oP R):Uv n x lo hi K=K true:=inT (n:=n) a b K
theorem Q9L {a b g:Int} {acc:LL} (c:0<=a) (d:a<=12) (hc:acc.length<=1000) {k0:Int->Bool->LL->oP R} {m:Nat} (hm:12<m):Wa n g (Q5 a) (Q5 b) k0 m 0 acc=k0 a false (acc++List.replicate a.toNat [Q5 b,Q5 g]):=by
 have hl:∀ h:Nat,(acc++List.replicate h [Q5 b,Q5 g]).length=acc.length+h:=fun h=>by simp
 have:=QR (r:=fun m h=>Wa n g (Q5 a) (Q5 b) k0 m h (acc++List.replicate h.toNat [Q5 b,Q5 g])) (N:=a.toNat) (e:=k0 a false (acc++List.replicate a.toNat [Q5 b,Q5 g])) (fun m h hh=>?_) (fun m=>?_) a.toNat m 0 (by omega) (by omega)
 ·simpa using this
 ·simp only [Int.toNat_natCast];rw [Wa,Q1,Q0,QJ (by simp;omega),Q1,Q0,hl,XR (by simp only [List.length_cons,List.length_nil];omega),Q0,Xa (by omega),List.append_assoc,<- List.replicate_succ']
 ·rw [Wa,Q1,Q0,Q8 (by simp;omega)];simp only [Int.toNat_natCast];rw [show ((a.toNat:Nat):Int)=a by omega];simp
theorem Qau {Se s:LL} {k0:Int->Bool->LL->oP R} (hs:∀ row∈s,Fa Se row) (hl:s.length<=30) {m:Nat} (hm:s.length<m) (hn:12<n):Wi n Se s 0 k0 m 0 []=k0 ((s.length:Nat):Int) false (XS Se s):=by
 have hc:=fun h:Nat=>(Hl (s:=s.take h) fun r hr=>hs r (List.mem_of_mem_take hr)).1
 have hw:wJ (((s.length:Nat):Int)-0)=((s.length:Nat):Int):=by rw [Qf (by omega) (by omega)];omega
 refine QR (r:=fun m h=>Wi n Se s 0 k0 m h (XS Se (s.take h.toNat))) (N:=s.length) (fun m h hh=>?_) (fun m=>?_) s.length m 0 (by omega) hm
 ·have e:=QdT hh;obtain ⟨x,d,nm,a,b,c,st,hx,ak,f,hd⟩:=hs _ (QdZ hh);rw [hx] at e;have a0:=f.a0;have a1:=f.a1;have an:=hc h;simp only [List.length_take] at an;simp only [Int.toNat_natCast,Su e,Gd ak];rw [Wi,hw,Qk hh];simp -implicitDefEqProofs only [Q0,List.getElem?_cons_zero,List.getElem?_cons_succ,Q1,Xj,X6,QdX,QdS,QdW,QdU,Qp,e,ak,Q9L (n:=n) (b:=b) (acc:=XS Se (s.take h)) (show 0<=a by omega) a1 (by omega) hn,Xa (show h<=1000 by omega)];rw [Qf (x:=0-c) (by have:=f.c1;omega) (by have:=f.c0;omega),Int.zero_sub];cases g:d == (1:Int) <;> rfl
 ·simp only [Int.toNat_natCast];rw [Wi,hw,Xb,QdS,List.take_length]
end
structure RtF (St Pt Se Li s:LL):Prop where
 lay:H5 400 St Pt Se Li=true
 ref:Q6h St Pt Se Li=true
 l2:2<=s.length
 l24:s.length<=24
 rt:rtB Se.length Li s=true
 rt6:QaM Se.length Li s=true
 hops:DY Se.length Pt.length Li 0 s=true
 st:∀ r∈s,Fa Se r
theorem RtOK.f {G:Geo} (hG:G.OK) {s:LL} {x y:Int} (h:RtOK G s x y):RtF G.St G.Pt G.Se G.Li s:=⟨hG.lay,hG.ref,h.l2,h.l24,h.rt,h.rt6,h.hops,h.st⟩
section
variable {St Pt Se Li s:LL} (h:RtF St Pt Se Li s)
include h
theorem Q5q:Hw 400 St Pt Se Li s 0 Tu3=some (XS Se s,GR Se s,0):=by
 have l2:=h.l2;have l24:=h.l24;have hl:=(Hl h.st).1;obtain ⟨row,rest,rfl⟩:∃ row rest,s=row::rest:=by
  cases s with
  |nil=>simp at l2
  |cons a b=>exact ⟨a,b,rfl⟩
 obtain ⟨x,d,nm,a,b,c,st,rfl,hs,_,_⟩:=h.st row (by simp);have hf:GR Se ([Q5 x,Q5 d]::rest)=a:=by simp only [GR,hs]
 generalize hS:[Q5 x,Q5 d]::rest=s at *
 unfold Hw;rw [Q18 h.ref rfl h.l2 h.l24 h.rt6,Q0,Q8 (by decide),Qau h.st (by omega) (by omega) (by decide),Q8 (by simp;omega),show Q2 s (0:Int)=some [Q5 x,Q5 d] by rw [<- hS];rfl];simp -implicitDefEqProofs only [Q0,List.getElem?_cons_zero,List.getElem?_cons_succ,Q1,Xj,X6,QdX,QdS,QdW,QdU,hs,hf]
theorem Q5G {nm:List UInt8} {tl sp ac br:Int} (hk:StkN tl sp ac br):HQ 400 St Pt Se Li s 0 nm tl sp ac br (some:Int->Option Int)=some 0:=by
 have l24:=h.l24;have hw:wJ (((s.length:Nat):Int)-0)=((s.length:Nat):Int):=by rw [Qf (by omega) (by omega)];omega
 have am:XF 400 nm tl sp ac br (some:Bool->Option Bool)=some true:=by
  obtain ⟨t1,t2,s1,s2,a1,a2,b1,b2⟩:=hk;unfold XF;simp -implicitDefEqProofs only [Q0,List.getElem?_cons_zero,List.getElem?_cons_succ,Q1,Xj,X6,QdX,QdS,QdW,QdU,Q1i t1 (show tl<=40 by omega),Q1i (show 1000<=sp by omega) (show sp<=100000 by omega),Q1i (show 100<=ac by omega) (show ac<=2000 by omega),Q1i (show 100<=br by omega) (show br<=2000 by omega)]
 unfold HQ;rw [Q5q h,Q0,Q8 (by rfl),am,Q0,Q8 (by decide)];refine QR (r:=fun m h=>VA 400 Se s 0 tl _ _ m h) (N:=s.length) (fun m k e=>?_) (fun m=>?_) s.length 400 0 (by omega) (by omega)
 ·obtain ⟨x,d,ao,a,b,c,st,hx,ak,hn,_⟩:=h.st _ (QdZ e);have a0:=hn.a0;have t2:=hk.t2;rw [VA,hw,Qk e,Qp,QdT e,hx];simp -implicitDefEqProofs only [Q0,List.getElem?_cons_zero,List.getElem?_cons_succ,Q1,Xj,X6,QdX,QdS,QdW,QdU,ak,show decide (a<if 2<tl then tl else 2)=false by simp;split <;> omega,Xa (show k<=1000 by omega)]
 ·rw [VA,hw,Xb,QdS]
end
end Go.Vx
namespace Go.Vx
variable {R:Type}
def U7 (n:Nat) (b:Int) (k0:Int->Int->Bool->oP R):Nat->Int->Int->oP R
 | 0,_,_=>none
 | m+1,h2,a=>bif decide (a>0) then gb true (nz (wJ (h2+a))) () fun c=>bif (decide ((wJ (h2+a))<=(wJ (Int.tdiv b (wJ (h2+a)))))) then gb true (EO 1) () fun d=>U7 n b k0 m (wJ (h2+a)) (shR .i64 a 1) else gb true (EO 1) () fun e=>U7 n b k0 m h2 (shR .i64 a 1) else k0 h2 a (decide (a>0))
def HA (n:Nat) (a0:Int) (K:Int->oP R):oP R:= U7 n a0 (fun a b c=>K a) n 0 2147483648
def Uw (n:Nat) (b:Int) (k0:Int->Int->Bool->oP R):Nat->Int->Int->oP R
 | 0,_,_=>none
 | m+1,h2,a=>bif decide (h2<a) then gb true (nz 2) () fun c=>bif (decide ((wJ ((wJ (Int.tdiv (wJ ((wJ (h2+a))+1)) 2))*(wJ (Int.tdiv (wJ ((wJ (h2+a))+1)) 2))))<=b)) then Uw n b k0 m (wJ (Int.tdiv (wJ ((wJ (h2+a))+1)) 2)) a else Uw n b k0 m h2 (wJ ((wJ (Int.tdiv (wJ ((wJ (h2+a))+1)) 2))-1)) else k0 h2 a (decide (h2<a))
def S7 (n:Nat) (a0:Int) (K:Int->oP R):oP R:= bif decide (a0<=0) then K 0 else Uw n a0 (fun a b c=>K a) n 0 3037000499

end Go.Vx
namespace Go.Vx
def Q6N (x r:Int):Prop:=0<=r/\r*r<=x/\x<(r+1)*(r+1)
theorem Q1D {a b:Int} (c:0<=a) (h:a<=b):a*a<=b*b:=Int.mul_le_mul h h c (by omega)
theorem Q0q {x r s:Int} (h:Q6N x r) (g:Q6N x s):r=s:=by
 obtain ⟨a0,a1,a2⟩:=h;obtain ⟨b0,b1,b2⟩:=g;rcases Int.lt_trichotomy r s with h | h | h
 ·have:=Q1D (show 0<=r+1 by omega) (show r+1<=s by omega);omega
 ·exact h
 ·have:=Q1D (show 0<=s+1 by omega) (show s+1<=r by omega);omega
theorem Q5a {x r b:Int} (c:0<=r) (hb:0<=b) (h:r*r<=x) (hx:x<(b+1)*(b+1)):r<=b:=by
 by_cases a:r<=b
 ·exact a
 ·have:=Q1D (show 0<=b+1 by omega) (show b+1<=r by omega);omega
theorem QcD {a:Int} (b:0<=a) (c:a<=9223372036854775807):shR .i64 a 1=a / 2:=by
 show a.fdiv 2=a / 2;exact Int.fdiv_eq_ediv_of_nonneg a (by decide)
theorem QaD {R:Type} {n:Nat} {x:Int} (a:0<=x) (hx:x<=1000000000) {k0:Int->Int->Bool->oP R}:∀ (k m:Nat) (ak:Int),k<=31->k+1<m->0<=ak->ak*ak<=x->x<(ak+2 ^ (k+1))*(ak+2 ^ (k+1)) ->
  ∃ r,Q6N x r/\U7 n x k0 m ak (2 ^ k)=k0 r 0 false
 |k,m+1,ak,hk,hm,b,c,d=>by
  have hr:ak<=40000:=Q5a b (by decide) c (by omega);have hp:∀ j:Nat,(1:Int)<=2 ^ j:=fun j=>by
   have:=Int.ofNat_le.2 (Nat.two_pow_pos j);rw [Int.natCast_pow] at this;exact this
  have f:(2:Int) ^ k<=2147483648:=by
   have:=Int.ofNat_le.2 (Nat.le_trans (Nat.pow_le_pow_right (show 0<2 by decide) hk) (show 2 ^ 31<=2147483648 by decide));rw [Int.natCast_pow] at this;exact this
  have g:=hp k;have hw:wJ (ak+2 ^ k)=ak+2 ^ k:=Qf (by omega) (by omega);have hs:(2:Int) ^ (k+1)=2 ^ k+2 ^ k:=by rw [Int.pow_succ];omega
  have an:Int.tdiv x (ak+2 ^ k)=x / (ak+2 ^ k):=Int.tdiv_eq_ediv_of_nonneg a;have i:0<=x / (ak+2 ^ k):=Int.ediv_nonneg a (by omega);have l:x / (ak+2 ^ k)<=x:=Int.ediv_le_self _ a;have e:wJ (Int.tdiv x (ak+2 ^ k))=x / (ak+2 ^ k):=by rw [an,Qf (by omega) (by omega)]
  have am:(ak+2 ^ k<=x / (ak+2 ^ k))↔(ak+2 ^ k)*(ak+2 ^ k)<=x:=Int.le_ediv_iff_mul_le (by omega);have step:∀ r:Int,0<=r->r*r<=x->x<(r+2 ^ k)*(r+2 ^ k)->∃ r',Q6N x r'/\U7 n x k0 m r (shR .i64 (2 ^ k) 1)=k0 r' 0 false:=by
   intro r a0 a1 a2;rw [QcD (by omega) (by omega)];cases k with
   |zero=>
    refine ⟨r,⟨a0,a1,by simpa using a2⟩,?_⟩;obtain ⟨m,rfl⟩:∃ m',m=m'+1:=⟨m-1,by omega⟩;rfl
   |succ k=>
    rw [show (2:Int) ^ (k+1) / 2=2 ^ k by rw [Int.pow_succ,Int.mul_ediv_cancel _ (by decide)]];exact QaD a hx k m r (by omega) (by omega) a0 a1 a2
  rw [U7,QJ (by simp;omega),hw,Ca (by omega),Q0,e];by_cases h:(ak+2 ^ k)*(ak+2 ^ k)<=x
  ·rw [QJ (by simpa using am.2 h)];exact step _ (by omega) h (by rw [Int.add_assoc,<- hs];exact d)
  ·rw [Q8 (by simpa using fun h'=>h (am.1 h'))];exact step ak b c (by omega)
theorem QbI {x:Int} (a:0<=x) (hx:x<=1000000000):∃ r,Q6N x r/\HA 400 x (some:Int->Option Int)=some r:=
 QaD a hx 31 400 0 (by decide) (by decide) (by decide) (by simpa using a) (by omega)
theorem Q8t {R:Type} {n:Nat} {x:Int} (a:0<=x) (hx:x<=1000000000) {k0:Int->Int->Bool->oP R}:∀ (k m:Nat) (lo hi:Int),k<m->0<=lo->lo<=hi->hi<=3037000499->hi-lo<2 ^ k->lo*lo<=x->x<(hi+1)*(hi+1) ->
  ∃ r,Q6N x r/\Uw n x k0 m lo hi=k0 r r false
 |k,m+1,lo,hi,hm,l0,l1,l2,hk,b,q1=>by
  by_cases h:lo<hi
  ·obtain ⟨k,rfl⟩:∃ k',k=k'+1:=by
    cases k with
    |zero=>simp at hk;omega
    |succ k=>exact ⟨k,rfl⟩
   have hs:(2:Int) ^ (k+1)=2 ^ k+2 ^ k:=by rw [Int.pow_succ];omega
   have e:wJ (Int.tdiv (wJ ((wJ (lo+hi))+(1:Int))) (2:Int))=(lo+hi+1) / 2:=by
    rw [Qf (x:=lo+hi) (by omega) (by omega),Qf (x:=lo+hi+1) (by omega) (by omega),Int.tdiv_eq_ediv_of_nonneg (by omega),Qf (by omega) (by omega)]
   rw [Uw,QJ (by simpa using h),Ca (by decide),Q0,e];have ak:lo<(lo+hi+1) / 2/\(lo+hi+1) / 2<=hi:=by omega
   generalize hM:(lo+hi+1) / 2=mid at *
   have am:=Q1D (show 0<=mid by omega) (show mid<=3037000499 by omega);have c:=Int.mul_nonneg (show 0<=mid by omega) (show 0<=mid by omega);rw [Qf (x:=mid*mid) (by omega) (by omega)];by_cases hq:mid*mid<=x
   ·rw [QJ (by simpa using hq)];exact Q8t a hx k m mid hi (by omega) (by omega) (by omega) l2 (by omega) hq q1
   ·rw [Q8 (by simpa using hq),Qf (by omega) (by omega)];exact Q8t a hx k m lo (mid-1) (by omega) l0 (by omega) (by omega) (by omega) b (by rw [Int.sub_add_cancel];omega)
  ·obtain rfl:lo=hi:=by omega
   rw [Uw,Q8 (by simp)];exact ⟨lo,⟨l0,b,q1⟩,by simp⟩
theorem Qbe {x r:Int} (a:0<=x) (hx:x<=1000000000) (hr:Q6N x r):S7 400 x (some:Int->Option Int)=some r:=by
 unfold S7;by_cases h:x<=0
 ·rw [QJ (by simpa using h)];have:Q6N x 0:=⟨by decide,by omega,by omega⟩;rw [Q0q hr this]
 ·rw [Q8 (by simpa using h)];obtain ⟨r',b,h2⟩:=Q8t (R:=Int) (n:=400) (k0:=fun w _ _=>some w) a hx 32 400 0 3037000499 (by decide) (by decide) (by decide) (by decide) (by decide) (by omega) (by omega);rw [Q0q hr b];exact h2
end Go.Vx
namespace Go.Vx
variable {R:Type}
def Ye (n:Nat) (e:LL) (c:Int) (k0:oP R) (k1:Int->Bool->oP R):Nat->Int->oP R
 | 0,_=>none
 | m+1,a=>bif decide (a<c) then gb true (Q2 e a) [] fun f=>gb true (f[0]?) oF fun g=>gb true (f[1]?) oF fun h=>gb true (pIw g) 0 fun b=>gb (!(decide (b<1000))) (pIw g) 0 fun d=>gb (!(bif decide (b<1000) then true else (decide (d>100000)))) (pIw h) 0 fun i=>gb (!(bif (bif decide (b<1000) then true else (decide (d>100000))) then true else (decide (i<(-40:Int))))) (pIw h) 0 fun j=>bif (bif (bif (bif decide (b<1000) then true else (decide (d>100000))) then true else (decide (i<(-40:Int)))) then true else (decide (j>40))) then k0 else Ye n e c k0 k1 m (wJ (a+1)) else k1 a (decide (a<c))
def UN (n:Nat) (a0:LL) (a1:Int) (a:List UInt8) (b c d e:Int) (K:Int->oP R):oP R:= gb true (Wo n a b c d e some) false fun f=>bif !f then K 1 else bif (decide ((a0.length:Int)>4000)) then K 7 else Ye n a0 (a0.length:Int) (K 4) (fun g h=>bif (bif decide (a1<0) then true else (decide (a1>(wJ ((a0.length:Int)-2))))) then K 4 else K 0) n 0
def Zv (n:Nat) (c:LL) (b:Int) (k0:Int->Int->Bool->oP R):Nat->Int->Int->oP R
 | 0,_,_=>none
 | m+1,h2,a=>bif decide (a<b) then gb true (Q2 c a) [] fun d=>gb true (d[0]?) oF fun f=>gb true (d[1]?) oF fun g=>gb true (pIw f) 0 fun e=>Zv n c b k0 m (if e<h2 then e else h2) (wJ (a+1)) else k0 h2 a (decide (a<b))
def V9 (n:Nat) (a0:LL) (a1:Int) (d:List UInt8) (a b e f:Int) (K:Int->oP R):oP R:= gb true (slB (a0.length) (some (if 0<(wJ (a1-a)) then (wJ (a1-a)) else 0)) (some (wJ (a1+1)))) (0,0) fun q1=>Zv n (cut a0 q1) ((List.length (cut a0 q1):Nat):Int) (fun c g h=>K c) n b 0

def GO (n:Nat) (c a:Int) (d:List UInt8) (e f b g:Int) (K:Int->oP R):oP R:= bif decide (a>0) then K (wJ (20000*(if 50<(wJ (b-(wJ (10*a)))) then (wJ (b-(wJ (10*a)))) else 50))) else K (wJ (20000*b))

def GD (n:Nat) (c a:Int) (d:List UInt8) (e f g b:Int) (K:Int->oP R):oP R:= bif decide (a<0) then K (wJ (20000*(if 50<(wJ (b+(wJ (10*a)))) then (wJ (b+(wJ (10*a)))) else 50))) else K (wJ (20000*b))

def XX (n:Nat) (f:LL) (d g:Int) (h:List UInt8) (i j k l:Int) (k0:Int->Int->Bool->LL->oP R):Nat->Int->Int->LL->oP R
 | 0,_,_,_=>none
 | m+1,b,a,e=>bif decide (a<g) then gb true (V9 n f a h i j k l some) 0 fun c=>gb true (inB (e.length) (wJ ((wJ (a-1))-d))) () fun z=>gb true (e[(Int.toNat (wJ ((wJ (a-1))-d)))]?) [] fun r=>gb true (r[0]?) oF fun s=>gb true (pIw s) 0 fun o=>gb true (Q2 f (wJ (a-1))) [] fun p=>gb true (p[0]?) oF fun t=>gb true (p[1]?) oF fun u=>gb true (pIw t) 0 fun v=>gb true (pIw u) 0 fun x=>gb true (GO n v x h i j k l some) 0 fun q=>gb true (inB (e.length) (wJ (a-d))) () fun aa=>gb true (e[(Int.toNat (wJ (a-d)))]?) [] fun y=>XX n f d g h i j k l k0 m c (wJ (a+1)) (List.set e (Int.toNat (wJ (a-d))) (List.set y 0 (Q5 (if (wJ (o+q))<(wJ ((if c<b then c else b)*(if c<b then c else b))) then (wJ (o+q)) else (wJ ((if c<b then c else b)*(if c<b then c else b))))))) else k0 b a (decide (a<g)) e
def Yw (n:Nat) (d:LL) (b:Int) (e:List UInt8) (f g h i:Int) (k0:Int->Bool->LL->oP R):Nat->Int->LL->oP R
 | 0,_,_=>none
 | m+1,a,c=>bif decide (a>b) then gb true (inB (c.length) (wJ (a-b))) () fun z=>gb true (c[(Int.toNat (wJ (a-b)))]?) [] fun p=>gb true (p[0]?) oF fun q=>gb true (pIw q) 0 fun j=>gb true (inB (c.length) (wJ ((wJ (a+1))-b))) () fun aa=>gb true (c[(Int.toNat (wJ ((wJ (a+1))-b)))]?) [] fun r=>gb true (r[0]?) oF fun s=>gb true (pIw s) 0 fun k=>gb true (Q2 d a) [] fun l=>gb true (l[0]?) oF fun t=>gb true (l[1]?) oF fun u=>gb true (pIw t) 0 fun v=>gb true (pIw u) 0 fun x=>gb true (GD n v x e f g h i some) 0 fun o=>gb true (inB (c.length) (wJ (a-b))) () fun ab=>gb true (c[(Int.toNat (wJ (a-b)))]?) [] fun y=>Yw n d b e f g h i k0 m (wJ (a-1)) (List.set c (Int.toNat (wJ (a-b))) (List.set y 0 (Q5 (if (wJ (k+o))<j then (wJ (k+o)) else j)))) else k0 a (decide (a>b)) c
def Ve (n:Nat) (a0:LL) (a1:Int) (a:List UInt8) (b c d e:Int) (K:LL->oP R):oP R:= gb true (bif decide (0<=(wJ ((wJ ((a0.length:Int)-a1))+1)))&&decide ((wJ ((wJ ((a0.length:Int)-a1))+1))<=(wJ ((wJ ((a0.length:Int)-a1))+1))) then some () else none) () fun i=>gb true (YD (Int.toNat (wJ ((wJ ((a0.length:Int)-a1))+1))*8)) () fun j=>gb true (V9 n a0 a1 a b c d e some) 0 fun f=>XX n a0 a1 (a0.length:Int) a b c d e (fun k l m g=>Yw n a0 a1 a b c d e (fun o p h=>K h) n (wJ ((a0.length:Int)-1)) g) n f (wJ (a1+1)) (List.replicate (Int.toNat (wJ ((wJ ((a0.length:Int)-a1))+1))) [Q5 0])

def Z1 (n:Nat) (c:Int) (k0:Int->Bool->LL->oP R):Nat->Int->LL->oP R
 | 0,_,_=>none
 | m+1,a,b=>bif decide (a<c) then gb true (inB (b.length) a) () fun i=>gb true (b[a.toNat]?) [] fun d=>gb true (d[0]?) oF fun e=>gb true (pIw e) 0 fun f=>gb true (HA n f some) 0 fun g=>gb true (inB (b.length) a) () fun j=>gb true (b[a.toNat]?) [] fun h=>Z1 n c k0 m (wJ (a+1)) (List.set b a.toNat (List.set h 0 (Q5 g))) else k0 a (decide (a<c)) b
def VL (n:Nat) (a0:LL) (a1:Int) (a:List UInt8) (b c d e:Int) (K:LL->Int->oP R):oP R:= gb true (UN n a0 a1 a b c d e some) 0 fun f=>bif (f != 0) then K [] f else gb true (Ve n a0 a1 a b c d e some) [] fun g=>Z1 n (g.length:Int) (fun i j h=>K h 0) n 0 g

def Jb (n:Nat) (a0 a1:Int) (K:Int->Int->oP R):oP R:= bif decide (a1<1) then K 0 1 else gb true (nz a1) () fun a=>gb true (nz a1) () fun b=>bif (decide ((Int.tmod a0 a1)>0)) then K (wJ ((wJ (Int.tdiv a0 a1))+1)) 0 else K (wJ (Int.tdiv a0 a1)) 0

def Zz (n:Nat) (c:LL) (k0:Int->Bool->LL->oP R):Nat->Int->LL->oP R
 | 0,_,_=>none
 | m+1,a,b=>bif (decide (a<(c.length:Int))) then gb true (Q2 c (wJ (a-1))) [] fun d=>gb true (d[0]?) oF fun e=>gb true (pIw e) 0 fun f=>gb true (Q2 c a) [] fun g=>gb true (g[0]?) oF fun h=>gb true (pIw h) 0 fun i=>gb true (Jb n 20000000 (wJ (f+i)) Tu2) (0,0) fun l=>gb true (inB (b.length) (wJ (a-1))) () fun s=>gb true (b[(Int.toNat (wJ (a-1)))]?) [] fun o=>gb true (o[0]?) oF fun p=>gb true (pIw p) 0 fun q=>gb true (inB (b.length) a) () fun t=>gb true (b[a.toNat]?) [] fun r=>Zz n c k0 m (wJ (a+1)) (List.set b a.toNat (List.set r 0 (Q5 (wJ (q+l.1))))) else k0 a (decide (a<(c.length:Int))) b
def V0 (n:Nat) (a0:LL) (a1:Int) (b:List UInt8) (c d e f:Int) (K:LL->Int->oP R):oP R:= gb true (VL n a0 a1 b c d e f Tu2) ([],0) fun a=>bif (a.2 != 0) then K [] a.2 else gb true (bif decide (0<=(a.1.length:Int))&&decide ((a.1.length:Int)<=(a.1.length:Int)) then some () else none) () fun i=>gb true (YD (Int.toNat (a.1.length:Int)*8)) () fun j=>Zz n a.1 (fun k l h=>K h 0) n 1 (List.replicate (Int.toNat (a.1.length:Int)) [Q5 0])

def Jw (n:Nat) (h2:LL) (k0:oP R) (k1:Int->Bool->oP R):Nat->Int->oP R
 | 0,_=>none
 | m+1,a=>bif (decide (a<(h2.length:Int))) then gb true (Q2 h2 a) [] fun c=>gb true (c[0]?) oF fun d=>gb true (pIw d) 0 fun e=>gb true (Gm n e 1000 100000 some) false fun b=>gb (!(!b)) (Q2 h2 a) [] fun f=>gb (!(!b)) (f[1]?) oF fun g=>gb (!(!b)) (pIw g) 0 fun h=>gb (!(!b)) (Gm n h (-40:Int) 40 some) false fun i=>bif (bif !b then true else (!i)) then k0 else Jw n h2 k0 k1 m (wJ (a+1)) else k1 a (decide (a<(h2.length:Int)))
def FO (n:Nat) (a0:LL) (a1:Int) (a:List UInt8) (b c d e:Int) (K:Int->oP R):oP R:= gb true (XF n a b c d e some) false fun f=>bif !f then K 1 else bif (decide ((a0.length:Int)>4000)) then K 7 else Jw n a0 (K 4) (fun g h=>bif (bif decide (a1<0) then true else (decide (a1>(wJ ((a0.length:Int)-2))))) then K 4 else K 0) n 0

def UE (n:Nat) (c:LL) (h2:Int) (k0:Int->Int->Bool->oP R):Nat->Int->Int->oP R
 | 0,_,_=>none
 | m+1,b,a=>bif decide (a<=h2) then gb true (Q2 c a) [] fun e=>gb true (e[0]?) oF fun f=>gb true (pIw f) 0 fun d=>UE n c h2 k0 m (if d<b then d else b) (wJ (a+1)) else k0 b a (decide (a<=h2))
def Ho (n:Nat) (a0:LL) (a1:Int) (d:List UInt8) (a b e f:Int) (K:Int->oP R):oP R:= UE n a0 a1 (fun c g h=>K c) n b (if 0<(wJ (a1-a)) then (wJ (a1-a)) else 0)

def SF (n:Nat) (c a:Int) (d:List UInt8) (e f b g:Int) (K:Int->oP R):oP R:= bif decide (a>0) then K (if 50<(wJ (b-(wJ (10*a)))) then (wJ (b-(wJ (10*a)))) else 50) else K b

def SB (n:Nat) (c a:Int) (d:List UInt8) (e f g b:Int) (K:Int->oP R):oP R:= bif decide (a<0) then K (if 50<(wJ (b+(wJ (10*a)))) then (wJ (b+(wJ (10*a)))) else 50) else K b

def Wq (n:Nat) (e:LL) (f g:Int) (h:List UInt8) (i j k l:Int) (k0:Int->Bool->LL->oP R):Nat->Int->LL->oP R
 | 0,_,_=>none
 | m+1,a,b=>bif decide (a<g) then gb true (Ho n e (wJ ((wJ (f+a))-1)) h i j k l some) 0 fun c=>gb true (Ho n e (wJ (f+a)) h i j k l some) 0 fun d=>gb true (inB (b.length) a) () fun p=>gb true (b[a.toNat]?) [] fun o=>Wq n e f g h i j k l k0 m (wJ (a+1)) (List.set b a.toNat (List.set o 0 (Q5 (wJ ((if d<c then d else c)*(if d<c then d else c)))))) else k0 a (decide (a<g)) b
def Wt (n:Nat) (d:LL) (e c:Int) (f:List UInt8) (g h i j:Int) (k0:Int->Bool->LL->oP R):Nat->Int->LL->oP R
 | 0,_,_=>none
 | m+1,a,b=>bif decide (a<c) then gb true (inB (b.length) (wJ (a+1))) () fun z=>gb true (b[(Int.toNat (wJ (a+1)))]?) [] fun q=>gb true (q[0]?) oF fun r=>gb true (pIw r) 0 fun k=>gb true (inB (b.length) a) () fun aa=>gb true (b[a.toNat]?) [] fun s=>gb true (s[0]?) oF fun t=>gb true (pIw t) 0 fun l=>gb true (Q2 d (wJ (e+a))) [] fun o=>gb true (o[0]?) oF fun u=>gb true (o[1]?) oF fun v=>gb true (pIw u) 0 fun x=>gb true (pIw v) 0 fun i64=>gb true (SF n x i64 f g h i j some) 0 fun p=>gb true (inB (b.length) (wJ (a+1))) () fun ab=>gb true (b[(Int.toNat (wJ (a+1)))]?) [] fun y=>Wt n d e c f g h i j k0 m (wJ (a+1)) (List.set b (Int.toNat (wJ (a+1))) (List.set y 0 (Q5 (if (wJ (l+(wJ (20000*p))))<k then (wJ (l+(wJ (20000*p)))) else k)))) else k0 a (decide (a<c)) b
def Wu (n:Nat) (c:LL) (d:Int) (e:List UInt8) (f g h i:Int) (k0:Int->Bool->LL->oP R):Nat->Int->LL->oP R
 | 0,_,_=>none
 | m+1,a,b=>bif decide (a>0) then gb true (inB (b.length) (wJ (a-1))) () fun z=>gb true (b[(Int.toNat (wJ (a-1)))]?) [] fun p=>gb true (p[0]?) oF fun q=>gb true (pIw q) 0 fun j=>gb true (inB (b.length) a) () fun aa=>gb true (b[a.toNat]?) [] fun r=>gb true (r[0]?) oF fun s=>gb true (pIw s) 0 fun k=>gb true (Q2 c (wJ ((wJ (d+a))-1))) [] fun l=>gb true (l[0]?) oF fun t=>gb true (l[1]?) oF fun u=>gb true (pIw t) 0 fun v=>gb true (pIw u) 0 fun x=>gb true (SB n v x e f g h i some) 0 fun o=>gb true (inB (b.length) (wJ (a-1))) () fun ab=>gb true (b[(Int.toNat (wJ (a-1)))]?) [] fun y=>Wu n c d e f g h i k0 m (wJ (a-1)) (List.set b (Int.toNat (wJ (a-1))) (List.set y 0 (Q5 (if (wJ (k+(wJ (20000*o))))<j then (wJ (k+(wJ (20000*o)))) else j)))) else k0 a (decide (a>0)) b
def Uj (n:Nat) (c:Int) (k0:Int->Bool->LL->oP R):Nat->Int->LL->oP R
 | 0,_,_=>none
 | m+1,a,b=>bif decide (a<=c) then gb true (inB (b.length) a) () fun i=>gb true (b[a.toNat]?) [] fun d=>gb true (d[0]?) oF fun e=>gb true (pIw e) 0 fun f=>gb true (S7 n f some) 0 fun g=>gb true (inB (b.length) a) () fun j=>gb true (b[a.toNat]?) [] fun h=>Uj n c k0 m (wJ (a+1)) (List.set b a.toNat (List.set h 0 (Q5 g))) else k0 a (decide (a<=c)) b
def Tm (n:Nat) (a0:LL) (a1:Int) (a:List UInt8) (b c d e:Int) (K:LL->Int->oP R):oP R:= gb true (FO n a0 a1 a b c d e some) 0 fun f=>bif (f != 0) then K [] f else gb true (bif decide (0<=(wJ ((wJ ((a0.length:Int)-a1))+1)))&&decide ((wJ ((wJ ((a0.length:Int)-a1))+1))<=(wJ ((wJ ((a0.length:Int)-a1))+1))) then some () else none) () fun k=>gb true (YD (Int.toNat (wJ ((wJ ((a0.length:Int)-a1))+1))*8)) () fun l=>Wq n a0 a1 (wJ ((a0.length:Int)-a1)) a b c d e (fun m o g=>Wt n a0 a1 (wJ ((a0.length:Int)-a1)) a b c d e (fun p q h=>Wu n a0 a1 a b c d e (fun r s i=>Uj n (wJ ((a0.length:Int)-a1)) (fun t u j=>K j 0) n 0 i) n (wJ ((a0.length:Int)-a1)) h) n 0 g) n 1 (List.replicate (Int.toNat (wJ ((wJ ((a0.length:Int)-a1))+1))) [Q5 0])

def UY (n:Nat) (a0 a1:Int) (K:Int->oP R):oP R:= gb true (nz a1) () fun a=>gb true (nz a1) () fun b=>bif (decide ((Int.tmod a0 a1)>0)) then K (wJ ((wJ (Int.tdiv a0 a1))+1)) else K (wJ (Int.tdiv a0 a1))

def UJ (n:Nat) (c:LL) (k0:Int->Bool->LL->oP R):Nat->Int->LL->oP R
 | 0,_,_=>none
 | m+1,a,b=>bif (decide (a<(c.length:Int))) then gb true (inB (b.length) (wJ (a-1))) () fun q=>gb true (b[(Int.toNat (wJ (a-1)))]?) [] fun d=>gb true (d[0]?) oF fun e=>gb true (pIw e) 0 fun f=>gb true (Q2 c (wJ (a-1))) [] fun g=>gb true (g[0]?) oF fun h=>gb true (pIw h) 0 fun i=>gb true (Q2 c a) [] fun j=>gb true (j[0]?) oF fun k=>gb true (pIw k) 0 fun l=>gb true (UY n 20000000 (wJ (i+l)) some) 0 fun o=>gb true (inB (b.length) a) () fun r=>gb true (b[a.toNat]?) [] fun p=>UJ n c k0 m (wJ (a+1)) (List.set b a.toNat (List.set p 0 (Q5 (wJ (f+o))))) else k0 a (decide (a<(c.length:Int))) b
def Hk (n:Nat) (a0:LL) (a1:Int) (b:List UInt8) (c d e f:Int) (K:LL->Int->oP R):oP R:= gb true (Tm n a0 a1 b c d e f Tu2) ([],0) fun a=>bif (a.2 != 0) then K [] a.2 else gb true (bif decide (0<=(a.1.length:Int))&&decide ((a.1.length:Int)<=(a.1.length:Int)) then some () else none) () fun i=>gb true (YD (Int.toNat (a.1.length:Int)*8)) () fun j=>UJ n a.1 (fun k l h=>K h 0) n 1 (List.replicate (Int.toNat (a.1.length:Int)) [Q5 0])

end Go.Vx
namespace Go.Vx
def cl (C:LL) (k:Nat):Int × Int:=match C[k]? with
 |some [.int _ b,.int _ g]=>(b,g)
 |_=>(0,0)
structure CellsOK (C:LL):Prop where
 row:∀ k,k<C.length->C[k]? = some [Q5 (cl C k).1,Q5 (cl C k).2]
 b0:∀ k,k<C.length->5000<=(cl C k).1
 b1:∀ k,k<C.length->(cl C k).1<=35000
 g0:∀ k,k<C.length -> -10<=(cl C k).2
 g1:∀ k,k<C.length->(cl C k).2<=10
 len:C.length<=300
theorem Q4L {Se:LL}:∀ {s:LL},(∀ row∈s,Fa Se row)->s.length<=24->CellsOK (XS Se s):=by
 intro s h hl;have hm:∀ r∈XS Se s,∃ b g:Int,r=[Q5 b,Q5 g]/\5000<=b/\b<=35000 /\ -10<=g/\g<=10:=by
  intro r hr;obtain ⟨row,f,h2⟩:=List.mem_flatMap.1 hr;obtain ⟨x,d,nm,a,b,c,st,rfl,hs,hn,_⟩:=h _ f;rw [Gd hs] at h2;have i:=List.eq_of_mem_replicate h2;have c0:=hn.c0;have c1:=hn.c1;refine ⟨_,_,i,hn.b0,hn.b1,?_⟩;cases (d == (1:Int))
  ·exact ⟨c0,c1⟩
  ·show -10 <= -c /\ -c<=10;omega
 have hat:∀ k,k<(XS Se s).length->(XS Se s)[k]? = some [Q5 (cl (XS Se s) k).1,Q5 (cl (XS Se s) k).2]/\5000<=(cl (XS Se s) k).1/\(cl (XS Se s) k).1<=35000 /\ -10<=(cl (XS Se s) k).2/\(cl (XS Se s) k).2<=10:=by
  intro k hk;obtain ⟨b,g,e,f⟩:=hm _ (QdZ hk);have e2:(XS Se s)[k]? = some [Q5 b,Q5 g]:=by rw [QdT hk,e]
  simp only [cl,e2];exact ⟨trivial,f⟩
 have:=(Hl h).1;exact ⟨fun k hk=>(hat k hk).1,fun k hk=>(hat k hk).2.1,fun k hk=>(hat k hk).2.2.1,fun k hk=>(hat k hk).2.2.2.1,fun k hk=>(hat k hk).2.2.2.2,by omega⟩
def Q5J (v:Int) (r:List D):Int:=match r with
 |.int _ b::_=>if b<v then b else v
 |_=>v
def win (C:LL) (k t:Nat):LL:=(C.drop (k-t)).take (k+1-(k-t))
def Q3U (C:LL) (sp:Int) (k t:Nat):Int:=(win C k t).foldl Q5J sp
theorem Q5X {C:LL} (hC:CellsOK C) {k t i:Nat} (hk:k<C.length) (hi:i<k+1-(k-t)):(win C k t)[i]? = some [Q5 (cl C (k-t+i)).1,Q5 (cl C (k-t+i)).2]:=by
 unfold win;rw [List.getElem?_take_of_lt hi,List.getElem?_drop,hC.row _ (by omega)]
theorem Q2e {C:LL} {k t:Nat} (hk:k<C.length):(win C k t).length=k+1-(k-t):=by
 unfold win;simp;omega
theorem Q6s {C:LL} (hC:CellsOK C) {sp:Int} {k t:Nat} (hk:k<C.length) (d:10000<=sp) (c:sp<=25000):5000<=Q3U C sp k t/\Q3U C sp k t<=25000:=by
 have hm:∀ r∈win C k t,∃ b g:Int,r=[Q5 b,Q5 g]/\5000<=b:=by
  intro r hr;obtain ⟨i,hi,rfl⟩:=List.getElem_of_mem hr;have ak:=hi;rw [Q2e hk] at ak;have e:=Q5X hC hk ak;rw [QdT hi] at e;injection e with e
  exact ⟨_,_,e,hC.b0 _ (by omega)⟩
 unfold Q3U;revert hm;generalize win C k t=L;intro hm;have:∀ (L:LL) (v:Int),(∀ r∈L,∃ b g:Int,r=[Q5 b,Q5 g]/\5000<=b)->5000<=v->v<=25000->5000<=L.foldl Q5J v/\L.foldl Q5J v<=25000:=by
  intro L;induction L with
  |nil=>exact fun v _ a b=>⟨a,b⟩
  |cons r L ih=>
   intro v h a b;obtain ⟨x,g,rfl,hx⟩:=h _ (List.mem_cons_self ..);refine ih _ (fun r hr=>h r (List.mem_cons_of_mem _ hr)) ?_ ?_
   ·show 5000<=if x<v then x else v
    split <;> omega
   ·show (if x<v then x else v)<=25000;split <;> omega
 exact this L sp hm (by omega) c
section
variable {C:LL} (hC:CellsOK C) {nm:List UInt8} {sp ac br:Int} {t k:Nat} (ht:t<=40)
include hC ht
omit hC in
theorem Q9H (hk:k<=1000):(if (0:Int)<(wJ ((k:Int)-(t:Int))) then (wJ ((k:Int)-(t:Int))) else (0:Int))=((k-t:Nat):Int):=by
 rw [Qf (by omega) (by omega)];split <;> omega
theorem Qcr (hk:k<C.length):V9 400 C (k:Int) nm (t:Int) sp ac br (some:Int->Option Int)=some (Q3U C sp k t):=by
 have hl:=hC.len;unfold V9;rw [Q9H ht (by omega),Xa (by omega)];have hs:slB C.length (some ((k-t:Nat):Int)) (some ((k+1:Nat):Int))=some (k-t,k+1):=by
  unfold slB;rw [show (decide ((0:Int)<=(some ((k-t:Nat):Int)).getD 0)&&(decide ((some ((k-t:Nat):Int)).getD 0<=(some ((k+1:Nat):Int)).getD (C.length:Int))&&decide ((some ((k+1:Nat):Int)).getD (C.length:Int)<=(C.length:Int))))=true by simp;omega];rfl
 rw [hs,Q0,show cut C (k-t,k+1)=win C k t from rfl];have hw:=Q2e (t:=t) hk;refine (QR (r:=fun m h=>Zv 400 (win C k t) (((win C k t).length:Nat):Int) _ m (((win C k t).take h.toNat).foldl Q5J sp) h) (N:=(win C k t).length) (fun m h hh=>?_) (fun m=>?_) (win C k t).length 400 0 (by omega) (by omega))
 ·have e:=Q5X hC hk (show h<k+1-(k-t) by omega);simp only [Int.toNat_natCast];rw [Zv,Qk hh,Qp,e,Uc e,List.foldl_append];simp -implicitDefEqProofs only [Q0,List.getElem?_cons_zero,List.getElem?_cons_succ,Q1,Xj,X6,QdX,QdS,QdW,QdU,Xa (show h<=1000 by omega)];rfl
 ·simp only [Int.toNat_natCast];rw [Zv,Xb,QdS,List.take_length];rfl
theorem Qcf (hk:k<C.length):Ho 400 C (k:Int) nm (t:Int) sp ac br (some:Int->Option Int)=some (Q3U C sp k t):=by
 have hl:=hC.len;have hw:=Q2e (t:=t) hk;unfold Ho;rw [Q9H ht (by omega)];have:=QR (r:=fun m h=>UE 400 C (k:Int) (fun a b c=>some a) m (((win C k t).take h.toNat).foldl Q5J sp) (((k-t:Nat):Int)+h)) (N:=(win C k t).length) (e:=some (Q3U C sp k t)) (fun m h hh=>?_) (fun m=>?_) (win C k t).length 400 0 (by omega) (by omega)
 ·rw [show ((k-t:Nat):Int)+((0:Nat):Int)=((k-t:Nat):Int) by omega] at this;exact this
 ·have e:=Q5X hC hk (show h<k+1-(k-t) by omega);have e2:=hC.row (k-t+h) (by omega);simp only [Int.toNat_natCast];rw [UE,QJ (by simp;omega),show ((k-t:Nat):Int)+(h:Int)=((k-t+h:Nat):Int) by omega,Qp,e2,Uc e,List.foldl_append,Xa (by omega),show ((k-t:Nat):Int)+((h+1:Nat):Int)=((k-t+h+1:Nat):Int) by omega];simp -implicitDefEqProofs only [Q0,List.getElem?_cons_zero,List.getElem?_cons_succ,Q1,Xj,X6,QdX,QdS,QdW,QdU];rfl
 ·simp only [Int.toNat_natCast];rw [UE,Q8 (by simp;omega),List.take_length];rfl
end
def arr (f:Nat->Int) (n:Nat):LL:=(List.range n).map fun i=>[Q5 (f i)]
theorem Yk {f:Nat->Int} {n:Nat}:(arr f n).length=n:=by simp [arr]
theorem Vu {f:Nat->Int} {n i:Nat} (h:i<n):(arr f n)[i]? = some [Q5 (f i)]:=by simp [arr,h]
theorem Xw {f g:Nat->Int} {n:Nat} (h:∀ i,i<n->f i=g i):arr f n=arr g n:=by
 refine List.map_congr_left fun i hi=>?_
 rw [h i (by simpa using hi)]
theorem Q8H {f:Nat->Int} {n i:Nat} {v:Int}:(arr f n).set i [Q5 v]=arr (fun j=>if j=i then v else f j) n:=by
 refine List.ext_getElem? fun j=>?_
 by_cases hj:j<n
 ·rw [Vu hj];by_cases h:i=j
  ·subst h;rw [List.getElem?_set_self (by rw [Yk];exact hj),if_pos rfl]
  ·rw [List.getElem?_set_ne h,Vu hj,if_neg (fun e=>h e.symm)]
 ·rw [Qe3 (by simp [Yk];omega),Qe3 (by simp [Yk];omega)]
theorem FT {n:Nat}:List.replicate n [Q5 0]=arr (fun _=>0) n:=by
 refine List.ext_getElem? fun j=>?_
 by_cases hj:j<n
 ·rw [Vu hj];simp [hj]
 ·rw [Qe3 (by simp;omega),Qe3 (by simp [Yk];omega)]
def acc (ac g:Int):Int:=if 0<g then (if 50<ac-10*g then ac-10*g else 50) else ac
def brk (br g:Int):Int:=if g<0 then (if 50<br+10*g then br+10*g else 50) else br
theorem Q1O {ac g:Int} (a1:400<=ac) (a2:ac<=800) (g0 : -10<=g) (g1:g<=10):300<=acc ac g/\acc ac g<=800:=by
 unfold acc;split
 ·split <;> omega
 ·omega
theorem Q1V {br g:Int} (a1:400<=br) (a2:br<=800) (g0 : -10<=g) (g1:g<=10):300<=brk br g/\brk br g<=800:=by
 unfold brk;split
 ·split <;> omega
 ·omega
section
variable {nm:List UInt8} {b t sp ac br g:Int} {n:Nat}
theorem Q9p (a1:400<=ac) (a2:ac<=800) (g0 : -10<=g) (g1:g<=10):SF n b g nm t sp ac br (some:Int->Option Int)=some (acc ac g):=by
 unfold SF acc;rw [Qf (x:=10*g) (by omega) (by omega),Qf (x:=ac-10*g) (by omega) (by omega)];by_cases h:0<g
 ·rw [QJ (by simpa using h),if_pos h]
 ·rw [Q8 (by simpa using h),if_neg h]
theorem Qas (a1:400<=br) (a2:br<=800) (g0 : -10<=g) (g1:g<=10):SB n b g nm t sp ac br (some:Int->Option Int)=some (brk br g):=by
 unfold SB brk;rw [Qf (x:=10*g) (by omega) (by omega),Qf (x:=br+10*g) (by omega) (by omega)];by_cases h:g<0
 ·rw [QJ (by simpa using h),if_pos h]
 ·rw [Q8 (by simpa using h),if_neg h]
theorem Qb7 (a1:400<=ac) (a2:ac<=800) (g0 : -10<=g) (g1:g<=10):GO n b g nm t sp ac br (some:Int->Option Int)=some (20000*acc ac g):=by
 have hr:=Q1O a1 a2 g0 g1;unfold GO;rw [Qf (x:=10*g) (by omega) (by omega),Qf (x:=ac-10*g) (by omega) (by omega)];unfold acc at hr ⊢;by_cases h:0<g
 ·rw [if_pos h] at hr ⊢;rw [QJ (by simpa using h),Qf (by omega) (by omega)]
 ·rw [if_neg h] at hr ⊢;rw [Q8 (by simpa using h),Qf (by omega) (by omega)]
theorem Qbn (a1:400<=br) (a2:br<=800) (g0 : -10<=g) (g1:g<=10):GD n b g nm t sp ac br (some:Int->Option Int)=some (20000*brk br g):=by
 have hr:=Q1V a1 a2 g0 g1;unfold GD;rw [Qf (x:=10*g) (by omega) (by omega),Qf (x:=br+10*g) (by omega) (by omega)];unfold brk at hr ⊢;by_cases h:g<0
 ·rw [if_pos h] at hr ⊢;rw [QJ (by simpa using h),Qf (by omega) (by omega)]
 ·rw [if_neg h] at hr ⊢;rw [Q8 (by simpa using h),Qf (by omega) (by omega)]
end
structure Run where
 C:LL
 nm:List UInt8
 sp:Int
 ac:Int
 br:Int
 t:Nat
 st:Nat
 N:Nat
structure Run.OK (X:Run):Prop where
 hC:CellsOK X.C
 hk:StkN X.t X.sp X.ac X.br
 hN:X.C.length=X.st+X.N
 h2:2<=X.N
namespace Run
variable (X:Run)
def lm (b:Nat):Int:=Q3U X.C X.sp (X.st+b) X.t
def lo (b:Nat):Int:=if X.lm b<X.lm (b-1) then X.lm b else X.lm (b-1)
def V (b:Nat):Int:=X.lo b*X.lo b
def G (b:Nat):Int:=20000*acc X.ac (cl X.C (X.st+b)).2
def L (b:Nat):Int:=20000*brk X.br (cl X.C (X.st+b)).2
def F:Nat->Int
 |0=>0
 |b+1=>if F b+X.G b<X.V (b+1) then F b+X.G b else X.V (b+1)
def K:Nat->Int
 |0=>0
 |d+1=>if K d+X.L (X.N-(d+1))<X.F (X.N-(d+1)) then K d+X.L (X.N-(d+1)) else X.F (X.N-(d+1))
variable {X} (h:X.OK)
include h
theorem Q7G {b:Nat} (hb:b<X.N):5000<=X.lm b/\X.lm b<=25000:=Q6s h.hC (by have:=h.hN;omega) h.hk.s1 h.hk.s2
theorem Q6a {b:Nat} (hb:b<X.N):5000<=X.lo b/\X.lo b<=25000:=by
 have a:=Q7G h hb;have h2:=Q7G h (b:=b-1) (by omega);unfold lo;split <;> omega
theorem Q8A {b:Nat} (hb:b<X.N):25000000<=X.V b/\X.V b<=625000000:=by
 obtain ⟨a,h2⟩:=Q6a h hb;have:=Q1D (by decide) a;have:=Q1D (by omega) h2;unfold V;omega
theorem Q85 {b:Nat} (hb:b<X.N):6000000<=X.G b/\X.G b<=16000000:=by
 have hN:=h.hN;have:=Q1O h.hk.a1 h.hk.a2 (h.hC.g0 (X.st+b) (by omega)) (h.hC.g1 (X.st+b) (by omega));unfold G;omega
theorem Q7d {b:Nat} (hb:b<X.N):6000000<=X.L b/\X.L b<=16000000:=by
 have hN:=h.hN;have:=Q1V h.hk.b1 h.hk.b2 (h.hC.g0 (X.st+b) (by omega)) (h.hC.g1 (X.st+b) (by omega));unfold L;omega
theorem Q6D:∀ b,b<X.N->0<=X.F b/\X.F b<=625000000/\(1<=b->6000000<=X.F b)
 |0,_=>by rw [F];omega
 |b+1,hb=>by
  have a:=Q6D b (by omega);have h2:=Q8A h hb;have c:=Q85 h (b:=b) (by omega);rw [F];split <;> omega
theorem Q1u:∀ d,d<=X.N->0<=X.K d/\X.K d<=625000000/\(1<=d->d<X.N->6000000<=X.K d)
 |0,_=>by rw [K];omega
 |d+1,hd=>by
  have a:=Q1u d (by omega);have h2:=Q6D h (X.N-(d+1)) (by omega);have c:=Q7d h (b:=X.N-(d+1)) (by omega);rw [K];split <;> omega
theorem Qb6:X.K X.N=0:=by
 have h2:=h.h2;obtain ⟨d,hd⟩:∃ d,X.N=d+1:=⟨X.N-1,by omega⟩;have a:=Q1u h d (by omega);have c:=Q7d h (b:=0) (by omega);rw [hd,K,show X.N-(d+1)=0 by omega,F,if_neg (by omega)]
theorem row {b:Nat} (hb:b<X.N):X.C[X.st+b]? = some [Q5 (cl X.C (X.st+b)).1,Q5 (cl X.C (X.st+b)).2]:=h.hC.row _ (by have:=h.hN;omega)
end Run

theorem Q6m {f:Nat->Int} {n i:Nat} {v:Int} (h:i<n) {R:Type} (K:LL->oP R):gb true (inB n (i:Int)) () (fun _=>gb true ((arr f n)[(Int.toNat (i:Int))]?) [] fun r=>K ((arr f n).set (Int.toNat (i:Int)) (List.set r 0 (D.int .i64 v))))=K (arr (fun j=>if j=i then v else f j) n):=by
 rw [ZG (by omega) (by omega),Q0,Int.toNat_natCast,Vu h,Q0];show K ((arr f n).set i [Q5 v])=_;rw [Q8H]
theorem Q4w {f:Nat->Int} {n i:Nat} (h:i<n) {R:Type} (K:Int->oP R):gb true (inB n (i:Int)) () (fun _=>gb true ((arr f n)[(Int.toNat (i:Int))]?) [] fun r=>gb true (r[0]?) oF fun c=>gb true (pIw c) 0 fun x=>K x)=K (f i):=by
 rw [ZG (by omega) (by omega),Q0,Int.toNat_natCast,Vu h];rfl
theorem wI {a b:Int} (h:a=b) (c : -1000000<=b) (d:b<=1000000000):wJ a=b:=by rw [h,Qf (by omega) (by omega)]
namespace Run
variable {X:Run} (h:X.OK)
include h
def W (X:Run):LL:=arr (fun j=>X.K (X.N-j)) (X.N+1)
theorem sqA:Ve 400 X.C (X.st:Int) X.nm (X.t:Int) X.sp X.ac X.br (some:LL->Option LL)=some X.W:=by
 have hN:=h.hN;have h2:=h.h2;have hl:=h.hC.len;have t2:=h.hk.t2;have an:wJ (wJ (((X.C.length:Nat):Int)-(X.st:Int))+1)=((X.N+1:Nat):Int):=by
  rw [Qf (x:=((X.C.length:Nat):Int)-(X.st:Int)) (by omega) (by omega),Qf (by omega) (by omega)];omega
 unfold Ve;rw [an,show (bif decide ((0:Int)<=((X.N+1:Nat):Int))&&decide (((X.N+1:Nat):Int)<=((X.N+1:Nat):Int)) then some () else none)=some () by rw [QJ (by simp;omega)],Q0,Int.toNat_natCast,XR (by omega),Q0,Qcr h.hC (by omega) (by omega),Q0,FT,Xa (by omega)];have k:∀ k0:Int->Int->Bool->LL->Option LL,XX 400 X.C (X.st:Int) ((X.C.length:Nat):Int) X.nm (X.t:Int) X.sp X.ac X.br k0 400 (Q3U X.C X.sp X.st X.t) ((X.st+1:Nat):Int) (arr (fun _=>0) (X.N+1))=k0 (X.lm (X.N-1)) ((X.C.length:Nat):Int) false (arr (fun j=>if j<=X.N-1 then X.F j else 0) (X.N+1)):=by
  intro k0;have:=QR (r:=fun m i=>XX 400 X.C (X.st:Int) ((X.C.length:Nat):Int) X.nm (X.t:Int) X.sp X.ac X.br k0 m (X.lm i.toNat) ((X.st+1+i.toNat:Nat):Int) (arr (fun j=>if j<=i.toNat then X.F j else 0) (X.N+1))) (N:=X.N-1) (e:=k0 (X.lm (X.N-1)) ((X.C.length:Nat):Int) false (arr (fun j=>if j<=X.N-1 then X.F j else 0) (X.N+1))) (fun m i hi=>?_) (fun m=>?_) (X.N-1) 400 0 (by omega) (by omega)
  ·have e:arr (fun j=>if j<=(((0:Nat):Int)).toNat then X.F j else 0) (X.N+1)=arr (fun _=>0) (X.N+1):=Xw fun j hj=>by
    split
    ·rename_i d;have d:j=0:=by simpa using d
     subst d;rw [F]
    ·rfl
   rw [e] at this;exact this
  ·simp only [Int.toNat_natCast];have f:=h.hC.g0 (X.st+i) (by omega);have g:=h.hC.g1 (X.st+i) (by omega);have hr:=row h (b:=i) (by omega);have aq:=Q6a h (b:=i+1) (by omega);have hV:=Q8A h (b:=i+1) (by omega);have hF:=Q6D h i (by omega);have hG:=Q85 h (b:=i) (by omega);rw [XX,Qk (show X.st+1+i<X.C.length by omega),QdX,Qcr h.hC (by omega) (by omega),Q0,wI (show ((X.st+1+i:Nat):Int)-1=((X.st+i:Nat):Int) by omega) (by omega) (by omega),wI (show ((X.st+i:Nat):Int)-(X.st:Int)=(i:Int) by omega) (by omega) (by omega),Yk,Q4w (by omega),Qp,hr,wI (show ((X.st+1+i:Nat):Int)-(X.st:Int)=((i+1:Nat):Int) by omega) (by omega) (by omega)];simp -implicitDefEqProofs only [Q0,List.getElem?_cons_zero,List.getElem?_cons_succ,Q1,Xj,X6,QdX,QdS,QdW,QdU,Qb7 h.hk.a1 h.hk.a2 f g];rw [Q6m (by omega)];rw [Xa (by omega),show Q3U X.C X.sp (X.st+1+i) X.t=X.lm (i+1) by unfold lm;rw [Nat.add_assoc,Nat.add_comm 1 i],show X.st+1+i+1=X.st+1+(i+1) by omega];refine congrArg _ (Xw fun j hj=>?_);by_cases am:j=i+1
   ·subst am;have e1:(if X.lm (i+1)<X.lm i then X.lm (i+1) else X.lm i)=X.lo (i+1):=rfl;rw [if_pos rfl,if_pos (Nat.le_refl i),e1,wI (a:=X.lo (i+1)*X.lo (i+1)) (b:=X.V (i+1)) rfl (by omega) (by omega),wI (a:=X.F i+20000*acc X.ac (cl X.C (X.st+i)).2) (b:=X.F i+X.G i) rfl (by omega) (by omega),if_pos (Nat.le_refl (i+1)),F]
   ·rw [if_neg am];by_cases c:j<=i
    ·rw [if_pos c,if_pos (by omega)]
    ·rw [if_neg c,if_neg (by omega)]
  ·simp only [Int.toNat_natCast];rw [show X.st+1+(X.N-1)=X.C.length by omega,XX,Xb,QdS]
 rw [k,wI (show ((X.C.length:Nat):Int)-1=((X.st+X.N-1:Nat):Int) by omega) (by omega) (by omega)];have:=QR (r:=fun m i=>Yw 400 X.C (X.st:Int) X.nm (X.t:Int) X.sp X.ac X.br (fun _ _ l=>some l) m ((X.st+X.N-1-i.toNat:Nat):Int) (arr (fun j=>if X.N-j<=i.toNat then X.K (X.N-j) else X.F j) (X.N+1))) (N:=X.N-1) (e:=some X.W) (fun m i hi=>?_) (fun m=>?_) (X.N-1) 400 0 (by omega) (by omega)
 ·have e:arr (fun j=>if X.N-j<=(((0:Nat):Int)).toNat then X.K (X.N-j) else X.F j) (X.N+1)=arr (fun j=>if j<=X.N-1 then X.F j else 0) (X.N+1):=Xw fun j hj=>by
   by_cases ao:j=X.N
   ·subst ao;rw [if_pos (by simp),if_neg (by omega),Nat.sub_self,K]
   ·rw [if_neg (by simp;omega),if_pos (by omega)]
  rw [e] at this;exact this
 ·simp only [Int.toNat_natCast];obtain ⟨b,hb⟩:∃ b,b+1=X.N-i:=⟨X.N-i-1,by omega⟩;have o:1<=b:=by omega
  have f:=h.hC.g0 (X.st+b) (by omega);have g:=h.hC.g1 (X.st+b) (by omega);have hr:=row h (b:=b) (by omega);have hK:=Q1u h i (by omega);have hL:=Q7d h (b:=b) (by omega);rw [Yw,show X.st+X.N-1-i=X.st+b by omega,QJ (by simp;omega),wI (show ((X.st+b:Nat):Int)-(X.st:Int)=(b:Int) by omega) (by omega) (by omega),Yk,Q4w (by omega),Xa (by omega),wI (show ((X.st+b+1:Nat):Int)-(X.st:Int)=((b+1:Nat):Int) by omega) (by omega) (by omega),Q4w (by omega),Qp,hr];simp -implicitDefEqProofs only [Q0,List.getElem?_cons_zero,List.getElem?_cons_succ,Q1,Xj,X6,QdX,QdS,QdW,QdU,Qbn h.hk.b1 h.hk.b2 f g];rw [Q6m (by omega),wI (show ((X.st+b:Nat):Int)-1=((X.st+X.N-1-(i+1):Nat):Int) by omega) (by omega) (by omega)];refine congrArg _ (Xw fun j hj=>?_);by_cases ak:j=b
  ·subst ak;rw [if_pos rfl,if_neg (show ¬ X.N-j<=i by omega),if_pos (show X.N-(j+1)<=i by omega),if_pos (show X.N-j<=i+1 by omega),show X.N-j=i+1 by omega,K,show X.N-(j+1)=i by omega,show X.N-(i+1)=j by omega,wI (a:=X.K i+20000*brk X.br (cl X.C (X.st+j)).2) (b:=X.K i+X.L j) rfl (by omega) (by omega)]
  ·rw [if_neg ak];by_cases c:X.N-j<=i
   ·rw [if_pos c,if_pos (by omega)]
   ·rw [if_neg c,if_neg (by omega)]
 ·simp only [Int.toNat_natCast];rw [Yw,show X.st+X.N-1-(X.N-1)=X.st by omega,Q8 (by simp)];refine congrArg some (Xw fun j hj=>?_);by_cases n:j=0
  ·subst n;rw [if_neg (by omega),F,Nat.sub_zero,Qb6 h]
  ·rw [if_pos (by omega)]
end Run

theorem Vi {k:Nat} (a:k<=1000) (b:1<=k):wJ (((k:Nat):Int)-1)=((k-1:Nat):Int):=by rw [Qf (by omega) (by omega)];omega
section
variable {R:Type} {Sk Ro Ls Ch Tu Sy De:LL} {per:Int} {n:Nat}
theorem Q2i {mn mx:Int} (a:0<=mn) (b:mn<=mx) (h2:mx<mn+per) (c:mn<=1000) (p1:per<=300) (K:Bool->oP R):Jv n per Sk Ro Ls Ch Tu Sy De mn mx K=K true:=by
 unfold Jv;rw [show decide (mn>=0)=true by simpa using a,show decide (mn<=mx)=true by simpa using b,show decide (mx<=(7200:Int))=true by simp;omega,Qf (by omega) (by omega),show decide (mx<mn+per)=true by simpa using h2];rfl
theorem Qbj {k i:Nat} {r:List D} (h:K3 Ls k i r) (hl:Ls.length<=1000) (hr:∀ nm w rides,Ls[k]? = some [D.str nm,Q5 0,Q5 w,D.sl 4 rides]->rides.length<=1000) (K:Bool->oP R):V4 n per Sk Ro Ls Ch Tu Sy De (k:Int) (i:Int) K=K true:=by
 obtain ⟨nm,w,rides,a,h2⟩:=h;have hk:=(QdV.1 a).1;have hi:=(QdV.1 h2).1;have hr:=hr _ _ _ a;unfold V4;rw [Vi hl (by omega),Q21 (by omega) (by omega),Q0,Qp,a];simp -implicitDefEqProofs only [Q0,List.getElem?_cons_zero,List.getElem?_cons_succ,Q1,Xj,X6,QdX,QdS,QdW,QdU,Vi hr (by omega),Q21 (show (0:Int)<=(i:Int) by omega) (show (i:Int)<=((rides.length-1:Nat):Int) by omega)]
theorem Q62 {G:Geo} {x y:Int} {s:LL} (a:RtOK G s x y) (K:Int->oP R):GZ n s 0 K=K x:=by
 obtain ⟨d,b⟩:=a.fst;unfold GZ;simp -implicitDefEqProofs only [Q0,List.getElem?_cons_zero,List.getElem?_cons_succ,Q1,Xj,X6,QdX,QdS,QdW,QdU,b]
theorem Q81 {G:Geo} {x y:Int} {s:LL} (a:RtOK G s x y) (K:Int->oP R):Hu n s 0 K=K y:=by
 obtain ⟨d,b⟩:=a.lst;have l2:=a.l2;have l24:=a.l24;unfold Hu;rw [Qf (x:=((s.length:Nat):Int)-0) (by omega) (by omega),Qf (by omega) (by omega),Int.sub_zero,b];simp -implicitDefEqProofs only [Q0,List.getElem?_cons_zero,List.getElem?_cons_succ,Q1,Xj,X6,QdX,QdS,QdW,QdU]
theorem FW {k i:Nat} {rt:Nat} {ex mn mx:Int} {s:LL} (h:K3 Ls k i [Q5 rt,Q5 ex,Q5 mn,Q5 mx]) (a:Ro[rt]? = some [D.sl 2 s,Q5 0]) (K:D->D->oP R):XI n per Sk Ro Ls Ch Tu Sy De (k:Int) (i:Int) K=K (D.sl 2 s) (Q5 0):=by
 obtain ⟨nm,w,rides,b,h2⟩:=h;unfold XI;simp -implicitDefEqProofs only [Q0,List.getElem?_cons_zero,List.getElem?_cons_succ,Q1,Xj,X6,QdX,QdS,QdW,QdU,Qp,b,h2,a]
theorem Qc3 {i:Nat} (hi:i<8):PN 400 (nmN i) (some:Bool->Option Bool)=some true:=by
 obtain rfl | rfl | rfl | rfl | rfl | rfl | rfl | rfl:i=0\/i=1\/i=2\/i=3\/i=4\/i=5\/i=6\/i=7:=by omega
 all_goals kernel_rfl
theorem Qap (hs:CO Sk):VT 400 per Sk Ro Ls Ch Tu Sy De 0 (some:Int->Option Int)=some 0:=by
 obtain ⟨a,b,c,d,rfl,t1,t2,s1,s2,a1,a2,b1,b2⟩:=hs;have h:VT 400 per [[D.str (bs [88]),Q5 a,Q5 b,Q5 c,Q5 d]] Ro Ls Ch Tu Sy De 0 (some:Int->Option Int)=gb true (XF 400 (bs [88]) a b c d some) false (fun r=>bif !r then some 4 else some 0):=by kernel_rfl
 have ak:XF 400 (bs [88]) a b c d (some:Bool->Option Bool)=some true:=by
  unfold XF;simp -implicitDefEqProofs only [Q0,List.getElem?_cons_zero,List.getElem?_cons_succ,Q1,Xj,X6,QdX,QdS,QdW,QdU,Q1i t1 (show a<=40 by omega),Q1i (show 1000<=b by omega) (show b<=100000 by omega),Q1i (show 100<=c by omega) (show c<=2000 by omega),Q1i (show 100<=d by omega) (show d<=2000 by omega)]
 rw [h,ak];rfl
end
section
variable {R:Type} {G:Geo} {Sk Ro Ls Ch Tu Sy De:LL} {per:Int} (h:PlanR G per Sk Ro Ls Ch Tu Sy De)
include h
theorem Qab {k:Nat}:∀ nm w rides,Ls[k]? = some [D.str nm,Q5 0,Q5 w,D.sl 4 rides]->rides.length<=1000:=by
 intro nm w rides e;obtain ⟨w',ak,e',hr,_⟩:=LH h.good (QdV.1 e).1;rw [e] at e';injection e' with e'
 simp at e';rw [e'.2.2];omega
theorem Q3B {k i:Nat} {r:List D} (hr:K3 Ls k i r) (K:Bool->oP R):V4 400 per Sk Ro Ls Ch Tu Sy De (k:Int) (i:Int) K=K true:=by
 have:=h.l1;exact Qbj hr (by omega) (Qab h) K
theorem QbD:RX 400 per Sk Ro Ls Ch Tu Sy De (some:Bool->Option Bool)=some false:=by
 obtain ⟨_,_,_,_,am,_⟩:=h.sk;obtain ⟨T,hT,_,_,_,an⟩:=h.tu;have l1:=h.l1;have l2:=h.rl;have a:=h.chl;have c:=h.syl;have d:=h.del;have lk:Sk.length=1:=by rw [am];rfl
 have lt:Tu.length<=20:=by rw [hT];simpa using an
 have ak:∀ {k:Nat} {b:Int},(k:Int)<=b->decide ((k:Int)>b)=false:=fun h=>by simpa using h
 unfold RX;simp -implicitDefEqProofs only [ak (show ((Sk.length:Nat):Int)<=8 by omega),ak (show ((Ro.length:Nat):Int)<=48 by omega),ak (show ((Ls.length:Nat):Int)<=16 by omega),ak (show ((Ch.length:Nat):Int)<=32 by omega),ak (show ((Tu.length:Nat):Int)<=32 by omega),ak (show ((Sy.length:Nat):Int)<=32 by omega),ak (show ((De.length:Nat):Int)<=32 by omega),QdS];refine QR (r:=fun m h=>Vv 400 Ls _ _ m h) (N:=Ls.length) (fun m k hk=>?_) (fun m=>?_) Ls.length 400 0 (by omega) (by omega)
 ·obtain ⟨w,rides,e,hr,_⟩:=LH h.good hk;rw [Vv,Qk hk,Qp,e];simp -implicitDefEqProofs only [Q0,List.getElem?_cons_zero,List.getElem?_cons_succ,Q1,Xj,X6,QdX,QdS,QdW,QdU,ak (show ((rides.length:Nat):Int)<=12 by omega),Xa (show k<=1000 by omega)]
 ·rw [Vv,Xb,QdS]
theorem Qb3 {k:Nat} (hk:k<Ls.length):JS 400 G.St G.Pt G.Se G.Li per Sk Ro Ls Ch Tu Sy De (k:Int) (some:Int->Option Int)=some 0:=by
 have l1:=h.l1;have p1:=h.p1;have p0:=h.p0;obtain ⟨a,v,c,d,au,ar⟩:=h.sk;obtain ⟨w,rides,e,w0,w1,ak⟩:=h.good.ls k _ (QdT hk);have e:=(QdT hk).trans (congrArg some e);have a8:rides.length=1\/rides.length=2:=by rcases ak with ⟨_,_,_,rfl,_⟩ | ⟨_,_,_,_,_,rfl,_⟩;exact .inl rfl;exact .inr rfl
 have f:Q2 Sk (0:Int)=some [D.str (bs [88]),Q5 a,Q5 v,Q5 c,Q5 d]:=by rw [au];rfl
 have ax:Sk.length=1:=by rw [au];rfl
 unfold JS;rw [Qp,e];simp -implicitDefEqProofs only [Q0,List.getElem?_cons_zero,List.getElem?_cons_succ,Q1,Xj,X6,QdX,QdS,QdW,QdU,Qc3 (show k<8 by omega)];refine (QR (r:=fun m h=>Zx 400 (k:Int) Ls (D.str (nmN k)) _ _ m h) (N:=k) (fun m i hi=>?_) (fun m=>?_) k 400 0 (by omega) (by omega))
 ·obtain ⟨w',aw,e',_⟩:=LH h.good (show i<Ls.length by omega);rw [Zx,Qk hi,Qp,e'];simp -implicitDefEqProofs only [Q0,List.getElem?_cons_zero,List.getElem?_cons_succ,Q1,Xj,X6,QdX,QdS,QdW,QdU,Qa6 (show i<8 by omega) (show k<8 by omega) (show i≠k by omega),Xa (show i<=1000 by omega)]
 ·rw [Zx,Xb,QdS,ax,Vi (by decide) (by decide)];simp -implicitDefEqProofs only [Q0,List.getElem?_cons_zero,List.getElem?_cons_succ,Q1,Xj,X6,QdX,QdS,QdW,QdU,Q21 (show (0:Int)<=0 by omega) (show (0:Int)<=((1-1:Nat):Int) by decide),Q21 w0 (show w<=1048576 by omega),show (((rides.length:Nat):Int) == 0)=false by simp;intro hx;simp [hx] at a8];refine (QR (r:=fun m h=>Zo 400 G.St G.Pt G.Se G.Li per Sk Ro Ls Ch Tu Sy De (Q5 0) (D.sl 4 rides) _ _ m h) (N:=rides.length) (fun m i hi=>?_) (fun m=>?_) rides.length 400 0 (by omega) (by omega))
  ·obtain ⟨r,x,y,b,hr,hR,hb,am⟩:∃ r x y b,rides[i]? = some r/\H8 G Ro r x y b/\(i+1=rides.length->b=true)/\(∀ j,j+1=i->∃ r' x' b',rides[j]? = some r'/\H8 G Ro r' x' x b'):=by
    rcases ak with ⟨r,x,y,rfl,h⟩ | ⟨r,r',x,y,z,rfl,h,h'⟩
    ·have hi:i=0:=by simpa using hi
     subst hi;exact ⟨r,x,y,true,rfl,h,fun _=>rfl,fun j hj=>by omega⟩
    ·obtain rfl | rfl:i=0\/i=1:=by simp at hi;omega
     ·exact ⟨r,x,y,false,rfl,h,fun h=>by simp at h,fun j hj=>by omega⟩
     ·refine ⟨r',y,z,true,rfl,h',fun _=>rfl,fun j hj=>?_⟩;have hj:j=0:=by omega
      subst hj;exact ⟨r,x,false,rfl,h⟩
   obtain ⟨rt,ex,mn,mx,s,rfl,ao,hs,⟨l,p⟩,⟨m0,m1,m2,m3⟩,hlast⟩:=hR;have bi:rt<Ro.length:=(QdV.1 ao).1;have l2:=h.rl;have hq:∀ z:Bool,(bif ((i:Int) == ((rides.length-1:Nat):Int)) then (bif (mn != (0:Int)) then true else (mx != (0:Int))) else false)=false:=by
    intro z;by_cases o:i+1=rides.length
    ·obtain ⟨rfl,rfl⟩:=hlast (hb o);rw [show ((0:Int) != 0)=false from rfl];cases ((i:Int) == ((rides.length-1:Nat):Int)) <;> rfl
    ·rw [show ((i:Int) == ((rides.length-1:Nat):Int))=false by simp;omega];rfl
   have a9:∀ {g:Bool} {β:Type} {a z:β} {k:β->Option Int},gb g (some a) z k=k a:=fun {g β a z k}=>rfl
   rw [Zo,X6,Q0,Qk hi];simp -implicitDefEqProofs only [Q0,List.getElem?_cons_zero,List.getElem?_cons_succ,Q1,Xj,X6,QdX,QdS,QdW,QdU,Qp,hr,Vi (show rides.length<=1000 by omega) (show 1<=rides.length by omega),Vi (show Ro.length<=1000 by omega) (show 1<=Ro.length by omega),Qf (x:=per-1) (by omega) (by omega),Q21 (show (0:Int)<=(rt:Int) by omega) (show (rt:Int)<=((Ro.length-1:Nat):Int) by omega),Q21 l (show ex<=per-1 by omega),Q2i (Sk:=Sk) (Ro:=Ro) (Ls:=Ls) (Ch:=Ch) (Tu:=Tu) (Sy:=Sy) (De:=De) (n:=400) m0 m1 (show mx<mn+per by omega) (by omega) p1,hq true,ao,f,Q5G (hs.f h.ok) ar,show ((0:Int) != 0)=false from rfl];cases i with
   |zero=>
    rw [show decide (((0:Nat):Int)>0)=false from rfl];simp only [gbF,QdS];rfl
   |succ j=>
    obtain ⟨r',x',b',a6,a7⟩:=am j rfl;obtain ⟨bh,bc,bg,bj,s',rfl,aq,ay,_⟩:=a7;simp -implicitDefEqProofs only [Q0,List.getElem?_cons_zero,List.getElem?_cons_succ,Q1,Xj,X6,QdX,QdS,QdW,QdU,show decide (((j+1:Nat):Int)>0)=true by simp,Q62 hs,show wJ (((j+1:Nat):Int)-1)=(j:Int) by rw [Qf (by omega) (by omega)];omega,Qp,a6,aq,Q81 ay,show (x != x)=false by simp,Xa (show j+1<=1000 by omega)]
  ·rw [Zo,X6,Q0,Xb,QdS]
end

end Go.Vx
