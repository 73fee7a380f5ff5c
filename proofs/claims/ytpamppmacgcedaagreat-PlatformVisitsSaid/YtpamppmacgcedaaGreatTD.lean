/- Part of a proof. No conditions of their own. -/
import Derived.Test.YtpamppmacgcedaaGreatTB
set_option linter.unusedVariables false
set_option linter.unusedSimpArgs false
noncomputable section
abbrev Qjg:=@cond_false
abbrev Qjh:=@List.getElem?_eq_getElem
abbrev Qji:=@Bool.not_false
abbrev Qjj:=@Bool.not_true
abbrev Qjk:=@List.getElem?_eq_some_iff
abbrev Qjl:=@cond_true
abbrev Qjm:=@List.getElem_mem
abbrev Qjn:=@Int.eq_ofNat_of_zero_le
abbrev Qjo:=@List.mem_append
abbrev Qjp:=@List.mem_singleton
abbrev Qjq:=@List.getElem?_append_left
abbrev Qjr:=@List.getElem?_eq_none
namespace Go.Vx
variable {R:Type}
def E4 (n:Nat) (a0 a1:Int) (K:Int->oP R):oP R:= gb true (nz (IntKind.wrap .u64 a1)) () fun a=>K (wJ (Int.tmod (IntKind.wrap .u64 a0) (IntKind.wrap .u64 a1)))
def Q5 (n:Nat) (b:LL) (a a1:Int) (K:Int->Int->oP R):oP R:= bif (decide (a>=(b.length:Int))) then K 0 a else gb true (Q1 b (wJ ((wJ (a+1))-1))) [] fun c=>gb true (c[0]?) oF fun d=>gb true (pIw d) 0 fun e=>gb true (E4 n e a1 some) 0 fun f=>K f (wJ (a+1))

def U1 (n:Nat) (c:LL) (f:Int) (a1:List UInt8) (a2:Int) (K:(List UInt8)->Int->Int->Int->Int->Int->oP R):oP R:= gb true (Q5 n c f 9 Tu2) (0,0) fun a=>gb true (Q5 n c a.2 7 Tu2) (0,0) fun d=>gb true (Q5 n c d.2 21 Tu2) (0,0) fun e=>K a1 (wJ (2+a.1)) (wJ (5000+(wJ (5000*d.1)))) (wJ (e.1-10)) a2 e.2

def VW (n:Nat) (a0:List UInt8) (a1:Int) (K:(List UInt8)->oP R):oP R:= gb true (nz 10) () fun b=>gb true (nz 10) () fun u2=>gb true (slB (List.length (bs [48,49,50,51,52,53,54,55,56,57])) (some (Int.tmod a1 10)) (some (wJ ((Int.tmod a1 10)+1)))) (0,0) fun a=>gb true (Q9e (a0.length+List.length (cut (bs [48,49,50,51,52,53,54,55,56,57]) a))) () fun c=>K (a0++(cut (bs [48,49,50,51,52,53,54,55,56,57]) a))

def Zv (n:Nat) (a:LL) (b:List UInt8) (c d e f:Int) (K:Int->LL->oP R):oP R:= gb true (Ym ((a.length+[[D.str b,Q4 c,Q4 d,Q4 e,Q4 f]].length)*48)) () fun g=>K (wJ (((List.length (a++[[D.str b,Q4 c,Q4 d,Q4 e,Q4 f]]):Nat):Int)-1)) (a++[[D.str b,Q4 c,Q4 d,Q4 e,Q4 f]])

def Yu (n:Nat) (a:LL) (a1 a2 b c:Int) (K:LL->oP R):oP R:= gb true (Ym ((a.length+[[Q4 a1,Q4 1,Q4 a2,Q4 0,Q4 b,Q4 c]].length)*48)) () fun d=>K (a++[[Q4 a1,Q4 1,Q4 a2,Q4 0,Q4 b,Q4 c]])

def ZK (n:Nat) (a:LL) (K:Int->LL->oP R):oP R:= gb true (VW n (bs [80]) (a.length:Int) some) [] fun b=>gb true (Ym ((a.length+[[D.str b]].length)*16)) () fun u2=>K (wJ (((List.length (a++[[D.str b]]):Nat):Int)-1)) (a++[[D.str b]])

def QC (n:Nat) (b:Int) (c:LL) (f:Bool) (d e:Int) (k0:Int->Bool->LL->oP R):Nat->Int->LL->oP R
 | 0,_,_=>none
 | m+1,a,g=>bif decide (a<e) then bif f then gb true (Q1 c a) [] fun h=>gb true (h[0]?) oF fun i=>gb true (pIw i) 0 fun j=>gb true (Yu n g b j d a some) [] fun k=>QC n b c f d e k0 m (wJ (a+1)) k else gb true (Q1 c a) [] fun l=>gb true (l[0]?) oF fun o=>gb true (pIw o) 0 fun p=>gb true (Yu n g p b d a some) [] fun q=>QC n b c f d e k0 m (wJ (a+1)) q else k0 a (decide (a<e)) g
def VD (n:Nat) (b c:LL) (a1:Int) (a2:LL) (d:Bool) (K:LL->LL->oP R):oP R:= bif (decide ((a2.length:Int)>1)) then gb true (ZK n b Tu2) (0,[]) fun a=>QC n a1 a2 d a.1 (a2.length:Int) (fun h i f=>K a.2 f) n 0 c else QC n a1 a2 d (-1:Int) (a2.length:Int) (fun j k g=>K b g) n 0 c

def G9 (n:Nat) (c:Int) (h:LL) (k0:Int->Bool->LL->LL->Int->oP R):Nat->Int->LL->LL->Int->oP R
 | 0,_,_,_,_=>none
 | m+1,b,d,i,j=>bif decide (b>0) then gb true (VW n (bs [84]) c some) [] fun k=>gb true (VW n k b some) [] fun l=>gb true (U1 n h j l c Tu6) ([],0,0,0,0,0) fun a=>gb true (Zv n i a.1 (wJ (a.2.1+2)) a.2.2.1 a.2.2.2.1 a.2.2.2.2.1 Tu2) (0,[]) fun g=>gb true (Ym ((d.length+[[Q4 g.1]].length)*8)) () fun s=>G9 n c h k0 m (wJ (b-1)) (d++[[Q4 g.1]]) g.2 a.2.2.2.2.2 else k0 b (decide (b>0)) d i j
def UY (n:Nat) (h2:Int) (b:LL) (k0:Int->Bool->LL->LL->LL->Int->oP R):Nat->Int->LL->LL->LL->Int->oP R
 | 0,_,_,_,_,_=>none
 | m+1,a,c,e,d,f=>bif decide (a<h2) then gb true (VW n (bs [83]) a some) [] fun g=>gb true (Ym ((c.length+[[D.str g]].length)*16)) () fun p=>gb true (Q5 n b f 2 Tu2) (0,0) fun h=>G9 n a b (fun q r i l o=>gb true (Ym ((d.length+[[D.sl 1 i]].length)*24)) () fun s=>UY n h2 b k0 m (wJ (a+1)) (c++[[D.str g]]) l (d++[[D.sl 1 i]]) o) n (wJ (1+h.1)) [] e h.2 else k0 a (decide (a<h2)) c e d f
def G7 (n:Nat) (g:Int) (h:LL) (k0:Int->Bool->LL->LL->Int->oP R):Nat->Int->LL->LL->Int->oP R
 | 0,_,_,_,_=>none
 | m+1,b,c,i,j=>bif decide (b>0) then gb true (VW n (bs [76]) g some) [] fun k=>gb true (VW n k b some) [] fun l=>gb true (U1 n h j l (-1:Int) Tu6) ([],0,0,0,0,0) fun a=>gb true (Zv n i a.1 a.2.1 a.2.2.1 a.2.2.2.1 a.2.2.2.2.1 Tu2) (0,[]) fun f=>gb true (Ym ((c.length+[[Q4 f.1]].length)*8)) () fun s=>G7 n g h k0 m (wJ (b-1)) (c++[[Q4 f.1]]) f.2 a.2.2.2.2.2 else k0 b (decide (b>0)) c i j
def SY (n:Nat) (b:LL) (k0:Int->Bool->LL->oP R):Nat->Int->LL->oP R
 | 0,_,_=>none
 | m+1,a,c=>bif (decide ((wJ (a+1))<(b.length:Int))) then gb true (inB (b.length) a) () fun k=>gb true (b[a.toNat]?) [] fun d=>gb true (d[0]?) oF fun e=>gb true (pIw e) 0 fun f=>gb true (inB (b.length) (wJ (a+1))) () fun l=>gb true (b[(Int.toNat (wJ (a+1)))]?) [] fun g=>gb true (g[0]?) oF fun h=>gb true (pIw h) 0 fun i=>gb true (Yu n c f i (-1:Int) 0 some) [] fun j=>SY n b k0 m (wJ (a+1)) j else k0 a (decide ((wJ (a+1))<(b.length:Int))) c
def UO (n:Nat) (f:Int) (c g:LL) (k0:Int->Bool->LL->LL->LL->LL->Int->oP R):Nat->Int->LL->LL->LL->LL->Int->oP R
 | 0,_,_,_,_,_,_=>none
 | m+1,a,i,j,k,h,l=>bif (decide ((wJ (a+1))<f)) then gb true (Q5 n g l 2 Tu2) (0,0) fun o=>G7 n a g (fun ai aj b r s=>SY n b (fun ak al t=>gb true (inB (b.length) 0) () fun am=>gb true (b[(Int.toNat 0)]?) [] fun u=>gb true (u[0]?) oF fun v=>gb true (pIw v) 0 fun x=>gb true (inB (c.length) a) () fun an=>gb true (c[a.toNat]?) [] fun y=>gb true (y[0]?) oF fun z=>gb true (pSl 1 z) [] fun aa=>gb true (VD n i t x aa false Tu2) ([],[]) fun p=>gb true (inB (b.length) (wJ ((b.length:Int)-1))) () fun ao=>gb true (b[(Int.toNat (wJ ((b.length:Int)-1)))]?) [] fun ab=>gb true (ab[0]?) oF fun ac=>gb true (pIw ac) 0 fun ad=>gb true (inB (c.length) (wJ (a+1))) () fun ap=>gb true (c[(Int.toNat (wJ (a+1)))]?) [] fun ae=>gb true (ae[0]?) oF fun ag=>gb true (pSl 1 ag) [] fun ah=>gb true (VD n p.1 p.2 ad ah true Tu2) ([],[]) fun q=>gb true (Ym ((h.length+[[D.sl 1 b]].length)*24)) () fun aq=>UO n f c g k0 m (wJ (a+1)) q.1 r q.2 (h++[[D.sl 1 b]]) s) n 0 k) n (wJ (1+o.1)) [] j o.2 else k0 a (decide ((wJ (a+1))<f)) i j k h l
def B8 (n:Nat) (b:LL) (d:Int) (K:LL->LL->LL->LL->LL->LL->LL->Int->oP R):oP R:= gb true (Q5 n b d 2 Tu2) (0,0) fun a=>UY n (wJ (2+a.1)) b (fun o p f g c h=>UO n (wJ (2+a.1)) c b (fun q r i j k l m=>K f i j k c l [] m) n 0 [] g [] [] h) n 0 [] [] [] a.2

end Go.Vx
namespace Go.Vx
section
variable {R:Type}
theorem Q4a (x:Int):0<=IntKind.wrap .u64 x:=by
 have:=Int.emod_nonneg x (show (18446744073709551616:Int)≠0 by decide);simpa [IntKind.wrap,IntKind.bits,IntKind.signed] using this
theorem Qbd {x:Int} (a:0<=x) (b:x<18446744073709551616):IntKind.wrap .u64 x=x:=by
 have:=Int.emod_eq_of_lt a b;simpa [IntKind.wrap,IntKind.bits,IntKind.signed] using this
def pick (v m:Int):Int:=(IntKind.wrap .u64 v).tmod m
theorem Do (v:Int) {m:Int} (h:0<m):0<=pick v m/\pick v m<m:=by
 unfold pick;rw [Int.tmod_eq_emod_of_nonneg (Q4a v)];exact ⟨Int.emod_nonneg _ (by omega),Int.emod_lt_of_pos _ h⟩
theorem QgU (n:Nat) (v:Int) {m:Int} (h:0<m) (hm:m<=9223372036854775807) (K:Int->oP R):E4 n v m K=K (pick v m):=by
 unfold E4;rw [Qbd (x:=m) (by omega) (by omega),Ei (by omega)];simp -implicitDefEqProofs only [Q0];have:=Do v h;unfold pick at this ⊢;rw [Q53 (by omega) (by omega)]
theorem Q9r (n:Nat) {l:List Int} (hl:l.length<=9223372036854775807) {i:Nat} (hi:i<=l.length) {m:Int} (h:0<m) (hm:m<=9223372036854775807) :
  ∃ (v:Int) (j:Nat),0<=v/\v<m/\j<=l.length/\∀ (R:Type) (K:Int->Int->oP R),Q5 n (encI l) i m K=K v j:=by
 by_cases ac:i<l.length
 ·have hg:=Qjh ac;refine ⟨pick l[i] m,i+1,(Do _ h).1,(Do _ h).2,by omega,fun R K=>?_⟩;unfold Q5;rw [Q8 (by simp [Jf];omega),Q53 (x:=(i:Int)+1) (by omega) (by omega),Q53 (by omega) (by omega)];rw [show (i:Int)+1-1=(i:Int) by omega,Tn hg];simp -implicitDefEqProofs only [Q0,List.getElem?_cons_zero,Q2,QgU n _ h hm];rfl
 ·refine ⟨0,i,by omega,h,hi,fun R K=>?_⟩;unfold Q5;rw [QU (by simp [Jf];omega)]
end
def OkP {R:Type} (P:R->Prop) (E:oP R):Prop:=∃ v,E=some v/\P v
instance {R:Type}:Membership (oP R) (R->Prop):=⟨fun P E=>OkP P E⟩
theorem okI {R:Type} {P:R->Prop} {v:R} (h:P v):some v∈P:=⟨v,rfl,h⟩
theorem okB {R S:Type} {P:S->Prop} {E:oP R} {z:R} {f:R->Option S} (h:E∈(fun v=>f v∈P:R->Prop)):gb true E z f∈P:=by
 obtain ⟨v,e,h⟩:=h;rw [e];exact h
theorem VU {R:Type} {n:Nat} {l:List Int} (hl:l.length<=9223372036854775807) {i:Nat} (hi:i<=l.length) {m:Int} (h:0<m) (hm:m<=9223372036854775807) {z:Int × Int} {f:Int × Int->oP R} {P:R->Prop}
  (H:∀ (v:Int) (j:Nat),0<=v->v<m->j<=l.length->f (v,(j:Int))∈P) :
  gb true (Q5 n (encI l) (i:Int) m Tu2) z f∈P:=by
 obtain ⟨v,j,c,d,hj,e⟩:=Q9r n hl hi h hm;rw [e];exact H v j c d hj
structure Num (a b c:Int):Prop where
 a0:2<=a
 a1:a<=10
 b0:5000<=b
 b1:b<=35000
 c0 : -10<=c
 c1:c<=10
theorem Q6 {x:Int} (a : -9223372036854775808<=x) (b:x<=9223372036854775807):wJ x=x:=by
 simp only [IntKind.wrap_i64];omega
theorem Qe9 {R:Type} {n:Nat} {l:List Int} (hl:l.length<=9223372036854775807) {i:Nat} (hi:i<=l.length) {nm:List UInt8} {st:Int} {z:List UInt8 × Int × Int × Int × Int × Int} {f:List UInt8 × Int × Int × Int × Int × Int->oP R} {P:R->Prop}
  (H:∀ (a b c:Int) (j:Nat),Num a b c->j<=l.length->f (nm,a,b,c,st,(j:Int))∈P) :
  gb true (U1 n (encI l) (i:Int) nm st Tu6) z f∈P:=by
 obtain ⟨v,j,u,y,hj,e⟩:=Q9r n hl hi (show (0:Int)<9 by decide) (by decide);obtain ⟨d,j2,g0,g1,q,e2⟩:=Q9r n hl hj (show (0:Int)<7 by decide) (by decide);obtain ⟨r,j3,k0,k1,s,t⟩:=Q9r n hl q (show (0:Int)<21 by decide) (by decide);unfold U1;rw [e,Q0,e2,Q0,t,Q0,Q0];rw [Q6 (x:=2+v) (by omega) (by omega),Q6 (x:=5000*d) (by omega) (by omega),Q6 (x:=5000+5000*d) (by omega) (by omega),Q6 (x:=r-10) (by omega) (by omega)];exact H _ _ _ _ ⟨by omega,by omega,by omega,by omega,by omega,by omega⟩ s
theorem two {v:Int} (a:0<=v) (b:v<2):v=0\/v=1:=by omega
theorem Bk {R:Type} (n:Nat) (a:List UInt8) (d:Nat) (hd:d<10) (ha:a.length<=100) (K:List UInt8->oP R):VW n a (d:Int) K=K (a++[UInt8.ofNat (48+d)]):=by
 have:∀ d:Fin 10,∃ q,slB (List.length (bs [48,49,50,51,52,53,54,55,56,57])) (some (Int.tmod (d.val:Int) (10:Int))) (some (wJ ((Int.tmod (d.val:Int) (10:Int))+(1:Int))))=some q/\cut (bs [48,49,50,51,52,53,54,55,56,57]) q=[UInt8.ofNat (48+d.val)]:=by
  intro d
  match d with
  |0=>exact ⟨_,rfl,rfl⟩
  |1=>exact ⟨_,rfl,rfl⟩
  |2=>exact ⟨_,rfl,rfl⟩
  |3=>exact ⟨_,rfl,rfl⟩
  |4=>exact ⟨_,rfl,rfl⟩
  |5=>exact ⟨_,rfl,rfl⟩
  |6=>exact ⟨_,rfl,rfl⟩
  |7=>exact ⟨_,rfl,rfl⟩
  |8=>exact ⟨_,rfl,rfl⟩
  |9=>exact ⟨_,rfl,rfl⟩
 obtain ⟨q,b,h2⟩:=this ⟨d,hd⟩;unfold VW;simp only at b h2;rw [b];have hz:nz (10:Int)=some ():=rfl;rw [hz,Q0,Q0,Q0,h2];have hs:Q9e (a.length+([UInt8.ofNat (48+d)]:List UInt8).length)=some ():=by
  unfold Q9e;rw [show Nat.ble (a.length+([UInt8.ofNat (48+d)]:List UInt8).length) 9223372036854775807=true from Nat.ble_eq_true_of_le (by simp;omega)];rfl
 rw [hs,Q0]
theorem XS {k:Nat} (h:k<=100000):Ym k=some ():=by
 unfold Ym;rw [show Nat.ble k 140737488355328=true from Nat.ble_eq_true_of_le (by omega)];rfl
theorem QhC {R:Type} {n:Nat} {e:LL} {s:List UInt8} {a b c d:Int} {z:Int × LL} {f:Int × LL->oP R} {P:R->Prop} (k:Nat) (hk:e.length=k) (h:k<=1000)
  (H:f ((k:Int),e++[[D.str s,D.int .i64 a,D.int .i64 b,D.int .i64 c,D.int .i64 d]])∈P) :
  gb true (Zv n e s a b c d Tu2) z f∈P:=by
 unfold Zv;rw [XS (by simp;omega),Q0,Q0];have hl:(e++[[D.str s,D.int .i64 a,D.int .i64 b,D.int .i64 c,D.int .i64 d]]).length=k+1:=by simp [hk]
 rw [hl,Q6 (x:=((k+1:Nat):Int)-1) (by omega) (by omega),show ((k+1:Nat):Int)-1=(k:Int) by omega];exact H
theorem Qi8 {R:Type} {n:Nat} {e:LL} {s:List UInt8} {a b c d:Int} {z:Int × LL} {f:Int × LL->oP R} {P:R->Prop} (k:Nat) (hk:e.length=k) (h:k<=1000) (hn:Num a b c)
  (H:f ((k:Int),e++[[D.str s,D.int .i64 (a+2),D.int .i64 b,D.int .i64 c,D.int .i64 d]])∈P) :
  gb true (Zv n e s (wJ (a+2)) b c d Tu2) z f∈P:=by
 have j:=hn.a0;have l:=hn.a1;rw [Q6 (x:=a+2) (by omega) (by omega)];exact QhC k hk h H
def QhD (i k:Nat):List UInt8:=bs [84]++[UInt8.ofNat (48+i)]++[UInt8.ofNat (48+k)]
def nmL (i k:Nat):List UInt8:=bs [76]++[UInt8.ofNat (48+i)]++[UInt8.ofNat (48+k)]
abbrev Ns:=Int × Int × Int
def secT (i k:Nat) (x:Ns):List D:=[D.str (QhD i k),Q4 (x.1+2),Q4 x.2.1,Q4 x.2.2,Q4 i]
def secL (i k:Nat) (x:Ns):List D:=[D.str (nmL i k),Q4 x.1,Q4 x.2.1,Q4 x.2.2,Q4 (-1)]
def YU (f:Nat->Ns->List D):Nat->List Ns->LL
 |k+1,x::y=>f (k+1) x::YU f k y
 |_,_=>[]
def ups (k:Nat):Nat->List Nat
 |0=>[]
 |c+1=>k::ups (k+1) c
def Wr (l:List Nat):LL:=l.map fun k=>[Q4 (k:Nat)]
def Hk:List Ns->Prop
 |[]=>True
 |x::r=>Num x.1 x.2.1 x.2.2/\Hk r
section
variable {R:Type} {n:Nat} {l:List Int} (hl:l.length<=9223372036854775807) {P:R->Prop}
include hl
theorem Qgz {i c k j m:Nat} {tl S:LL} {k0:Int->Bool->LL->LL->Int->oP R}
  (hi:i<10) (hc:c+1<10) (hk:S.length=k) (e:k<=500) (ht:tl.length<=500) (hj:j<=l.length)
  (H:∀ (x:Ns) (j:Nat),Num x.1 x.2.1 x.2.2->j<=l.length->G9 n i (encI l) k0 m (c:Int) (tl++[[Q4 k]]) (S++[secT i (c+1) x]) (j:Int)∈P) :
  G9 n (i:Int) (encI l) k0 (m+1) ((c+1:Nat):Int) tl S (j:Int)∈P:=by
 unfold G9;rw [QU (by simp),Bk n _ i hi (by decide),Q0,Bk n _ (c+1) hc (by simp),Q0];refine Qe9 hl hj fun a b d j hn hj=>?_
 dsimp only;refine Qi8 k hk (by omega) hn ?_;dsimp only;rw [XS (by simp;omega),Q0,Q6 (x:=((c+1:Nat):Int)-1) (by omega) (by omega),show ((c+1:Nat):Int)-1=(c:Int) by omega];exact H (a,b,d) j hn hj
theorem Qdh {i c k j m:Nat} {S:LL} {k0:Int->Bool->LL->LL->Int->oP R}
  (hi:i<10) (hc:c=1\/c=2) (hk:S.length=k) (a:k<=400) (hj:j<=l.length)
  (H:∀ (x:List Ns) (j:Nat),Hk x->x.length=c->j<=l.length->k0 0 false (Wr (ups k c)) (S++YU (secT i) c x) (j:Int)∈P) :
  G9 n (i:Int) (encI l) k0 (m+3) (c:Int) [] S (j:Int)∈P:=by
 rcases hc with rfl | rfl
 ·refine Qgz hl (c:=0) hi (by omega) hk (by omega) (by simp) hj fun x j hx hj=>?_
  exact H [x] j ⟨hx,trivial⟩ rfl hj
 ·refine Qgz hl (c:=1) hi (by omega) hk (by omega) (by simp) hj fun x j hx hj=>?_
  refine Qgz hl (c:=0) (k:=k+1) hi (by omega) (by simp [hk]) (by omega) (by simp) hj fun y j hy hj=>?_
  have:=H [x,y] j ⟨hx,hy,trivial⟩ rfl hj;simp only [YU,ups,Wr,List.map_cons,List.map_nil] at this;show k0 0 false _ (S++[secT i 2 x]++[secT i 1 y]) (j:Int)∈P;rw [List.append_assoc S];exact this
end

def Q6Q (a b:Int) (p q:Int):List D:=[Q4 a,Q4 1,Q4 b,Q4 0,Q4 p,Q4 q]
def lk (ac:Bool) (x t:Int) (p q:Int):List D:=bif ac then Q6Q x t p q else Q6Q t x p q
def nmP (k:Nat):List D:=[D.str (bs [80]++[UInt8.ofNat (48+k)])]
def Q3v (x:Nat) (ac:Bool) (aj k c:Nat):LL:=bif Nat.beq c 2 then [lk ac x k aj 0,lk ac x ((k+1:Nat):Int) aj 1] else [lk ac x k (-1) 0]
def Q2J (ac c:Nat):LL:=bif Nat.beq c 2 then [nmP ac] else []
section
variable {R:Type} {n:Nat} {q2 q4:LL}
theorem Qdx {a b c d:Int} (h:q4.length<=1000) (K:LL->oP R):Yu n q4 a b c d K=K (q4++[Q6Q a b c d]):=by
 unfold Yu;rw [XS (by simp;omega),Q0];rfl
theorem Qe1 {k:Nat} (hk:q2.length=k) (h:k<10) (K:Int->LL->oP R):ZK n q2 K=K (k:Int) (q2++[nmP k]):=by
 unfold ZK;rw [hk,Bk n _ k h (by decide),Q0,XS (by simp;omega),Q0];have hl:(q2++[[D.str (bs [80]++[UInt8.ofNat (48+k)])]]).length=k+1:=by simp [hk]
 rw [hl,Q6 (x:=((k+1:Nat):Int)-1) (by omega) (by omega),show ((k+1:Nat):Int)-1=(k:Int) by omega];rfl
theorem Qha {a1 a:Int} {T:List Nat} {ac:Bool} {w:Int} {h t m:Nat} (hh:(h:Int)<a) (b:h<=1000) (ht:T[h]? = some t) (hq:q4.length<=1000) {k0:Int->Bool->LL->oP R} :
  QC n a1 (Wr T) ac w a k0 (m+1) (h:Int) q4=QC n a1 (Wr T) ac w a k0 m ((h+1:Nat):Int) (q4++[lk ac a1 t w h]):=by
 rw [QC];rw [QU (by simp;omega),Q6 (x:=(h:Int)+1) (by omega) (by omega)];have hr:Q1 (Wr T) (h:Int)=some [Q4 t]:=QK ht;cases ac
 ·rw [Q8 rfl,hr,Q0];show gb true (some (D.int .i64 (t:Int))) _ _=_;rw [Q0,Q2,Q0,Qdx hq,Q0];rfl
 ·rw [QU rfl,hr,Q0];show gb true (some (D.int .i64 (t:Int))) _ _=_;rw [Q0,Q2,Q0,Qdx hq,Q0];rfl
theorem Qeg {a1 a:Int} {T:LL} {ac:Bool} {w:Int} {h m:Nat} (hh:¬ (h:Int)<a) {k0:Int->Bool->LL->oP R} :
  QC n a1 T ac w a k0 (m+1) (h:Int) q4=k0 h false q4:=by
 rw [QC,Q8 (by simp;omega)];simp [hh]
theorem Qho {m x k c p:Nat} {ac:Bool} (hc:c=1\/c=2) (hp:q2.length=p) (a:p<10) (hq:q4.length<=900) (K:LL->LL->oP R) :
  VD (m+3) q2 q4 (x:Int) (Wr (ups k c)) ac K=K (q2++Q2J p c) (q4++Q3v x ac p k c):=by
 rcases hc with rfl | rfl
 ·show QC (m+3) (x:Int) (Wr [k]) ac (-1) (1:Int) _ (m+2+1) ((0:Nat):Int) q4=_;rw [Qha (by decide) (by decide) rfl (by omega),Qeg (by decide)];rw [show Q2J p 1=[] from rfl,List.append_nil];rfl
 ·show gb true (ZK (m+3) q2 _) _ _=_;rw [Qe1 hp a,Q0];show QC (m+3) (x:Int) (Wr [k,k+1]) ac (p:Int) (2:Int) _ (m+2+1) ((0:Nat):Int) q4=_;rw [Qha (by decide) (by decide) rfl (by omega),Qha (by decide) (by decide) rfl (by simp;omega),Qeg (by decide),List.append_assoc];rfl
end

def inL (s u:Nat):LL:=bif Nat.beq u 2 then [Q6Q s ((s+1:Nat):Int) (-1) 0] else []
def pc (c:Nat):Nat:=bif Nat.beq c 2 then 1 else 0
theorem Q6i (p c:Nat):(Q2J p c).length=pc c:=by unfold Q2J pc;cases Nat.beq c 2 <;> rfl
theorem QcB {c:Nat}:pc c<=1:=by unfold pc;cases Nat.beq c 2 <;> simp
theorem Q2D {x p k c:Nat} {e:Bool}:(Q3v x e p k c).length<=2:=by unfold Q3v;cases Nat.beq c 2 <;> simp
theorem Q5a {s u:Nat}:(inL s u).length<=1:=by unfold inL;cases Nat.beq u 2 <;> simp
section
variable {R:Type} {n:Nat} {l:List Int} (hl:l.length<=9223372036854775807) {P:R->Prop}
include hl
theorem Qdc {i c k j m:Nat} {tl S:LL} {k0:Int->Bool->LL->LL->Int->oP R}
  (hi:i<10) (hc:c+1<10) (hk:S.length=k) (e:k<=500) (ht:tl.length<=500) (hj:j<=l.length)
  (H:∀ (x:Ns) (j:Nat),Num x.1 x.2.1 x.2.2->j<=l.length->G7 n i (encI l) k0 m (c:Int) (tl++[[Q4 k]]) (S++[secL i (c+1) x]) (j:Int)∈P) :
  G7 n (i:Int) (encI l) k0 (m+1) ((c+1:Nat):Int) tl S (j:Int)∈P:=by
 unfold G7;rw [QU (by simp),Bk n _ i hi (by decide),Q0,Bk n _ (c+1) hc (by simp),Q0];refine Qe9 hl hj fun a b d j hn hj=>?_
 dsimp only;refine QhC k hk (by omega) ?_;dsimp only;rw [XS (by simp;omega),Q0,Q6 (x:=((c+1:Nat):Int)-1) (by omega) (by omega),show ((c+1:Nat):Int)-1=(c:Int) by omega];exact H (a,b,d) j hn hj
theorem Qbp {i c k j m:Nat} {S:LL} {k0:Int->Bool->LL->LL->Int->oP R}
  (hi:i<10) (hc:c=1\/c=2) (hk:S.length=k) (a:k<=400) (hj:j<=l.length)
  (H:∀ (x:List Ns) (j:Nat),Hk x->x.length=c->j<=l.length->k0 0 false (Wr (ups k c)) (S++YU (secL i) c x) (j:Int)∈P) :
  G7 n (i:Int) (encI l) k0 (m+3) (c:Int) [] S (j:Int)∈P:=by
 rcases hc with rfl | rfl
 ·refine Qdc hl (c:=0) hi (by omega) hk (by omega) (by simp) hj fun x j hx hj=>?_
  exact H [x] j ⟨hx,trivial⟩ rfl hj
 ·refine Qdc hl (c:=1) hi (by omega) hk (by omega) (by simp) hj fun x j hx hj=>?_
  refine Qdc hl (c:=0) (k:=k+1) hi (by omega) (by simp [hk]) (by omega) (by simp) hj fun y j hy hj=>?_
  have:=H [x,y] j ⟨hx,hy,trivial⟩ rfl hj;simp only [YU,ups,Wr,List.map_cons,List.map_nil] at this;show k0 0 false _ (S++[secL i 2 x]++[secL i 1 y]) (j:Int)∈P;rw [List.append_assoc S];exact this
end
section
variable {R:Type} {n:Nat}
theorem inA {s u m:Nat} {a:LL} (hu:u=1\/u=2) (hq:a.length<=900) {k0:Int->Bool->LL->oP R} :
  SY n (Wr (ups s u)) k0 (m+3) 0 a=k0 ((u-1:Nat):Int) false (a++inL s u):=by
 rcases hu with rfl | rfl
 ·rw [show inL s 1=[] from rfl,List.append_nil];rfl
 ·show gb true (Yu n a (s:Int) ((s+1:Nat):Int) (-1) 0 _) _ _=_;rw [Qdx (by omega),Q0];rfl
end
theorem Qgr {R:Type} {m:Nat} {l:List Int} (hl:l.length<=9223372036854775807) {P:R->Prop} {a:Int} {g s p k c k' c' j:Nat} {Pt Se Li Tr Bt:LL} {k0:Int->Bool->LL->LL->LL->LL->Int->oP R} {n:Nat}
  (hg:g<8) (hw:(g:Int)+1<a) (hs:Se.length=s) (i:s<=300) (hp:Pt.length=p) (o:p<8) (hL:Li.length<=300) (hB:Bt.length<=300)
  (hT:Tr[g]? = some [D.sl 1 (Wr (ups k c))]) (aj:Tr[g+1]? = some [D.sl 1 (Wr (ups k' c'))]) (hc:c=1\/c=2) (an:c'=1\/c'=2) (hj:j<=l.length)
  (H:∀ (u:Nat) (x:List Ns) (j:Nat),(u=1\/u=2)->Hk x->x.length=u->j<=l.length ->
   UO (m+3) a Tr (encI l) k0 n ((g+1:Nat):Int) ((Pt++Q2J p c)++Q2J (p+pc c) c') (Se++YU (secL g) u x) (((Li++inL s u)++Q3v s false p k c)++Q3v (s+u-1) true (p+pc c) k' c') (Bt++[[D.sl 1 (Wr (ups s u))]]) (j:Int)∈P) :
  UO (m+3) a Tr (encI l) k0 (n+1) (g:Int) Pt Se Li Bt (j:Int)∈P:=by
 unfold UO;have ao:wJ ((g:Int)+1)=((g+1:Nat):Int):=by rw [Q6 (by omega) (by omega)];omega
 rw [ao,QU (by simp;omega)];refine VU hl hj (by decide) (by decide) fun v j b d hj=>?_
 obtain ⟨u,hu,hv⟩:∃ u:Nat,(u=1\/u=2)/\wJ (1+v)=(u:Int):=by
  rcases two b d with rfl | rfl
  ·exact ⟨1,.inl rfl,rfl⟩
  ·exact ⟨2,.inr rfl,rfl⟩
 dsimp only;rw [hv];refine Qbp hl (by omega) hu hs (by omega) hj fun x j hx ak hj=>?_
 rw [inA hu (by omega)];have e:(0:Int).toNat=0:=rfl;have al:(Wr (ups s u)).length=u:=by rcases hu with rfl | rfl <;> rfl
 have f:(Wr (ups s u))[0]? = some [Q4 s]:=by rcases hu with rfl | rfl <;> rfl
 have e1:(Wr (ups s u))[u-1]? = some [Q4 ((s+u-1:Nat):Int)]:=by rcases hu with rfl | rfl <;> rfl
 have ax:g<Tr.length:=(Qjk.1 hT).1;have ar:g+1<Tr.length:=(Qjk.1 aj).1;have h:wJ ((u:Int)-1)=((u-1:Nat):Int):=by rcases hu with rfl | rfl <;> rfl
 rw [al,ZI (by omega) (by omega),Q0,e,f,Q0];show gb true (some (Q4 s)) _ _∈P;rw [Q0,Q2,Q0,ZI (by omega) (by omega),Q0,Int.toNat_natCast,hT,Q0];show gb true (some (D.sl 1 (Wr (ups k c)))) _ _∈P;rw [Q0,QA,Q0,Qho hc hp (by omega) (by have:=@Q5a s u;simp;omega),Q0];dsimp only;rw [h,ZI (by omega) (by omega),Q0,Int.toNat_natCast,e1,Q0];show gb true (some (Q4 ((s+u-1:Nat):Int))) _ _∈P;rw [Q0,Q2,Q0,ZI (by omega) (by omega),Q0,Int.toNat_natCast,aj,Q0];show gb true (some (D.sl 1 (Wr (ups k' c')))) _ _∈P;rw [Q0,QA,Q0,Qho (p:=p+pc c) an (by simp [hp,Q6i]) (by have:=@QcB c;omega) (by have:=@Q5a s u;have:=@Q2D s p k c false;simp;omega),Q0];dsimp only;rw [XS (by simp;omega),Q0];exact H u x j hu hx ak hj

def nmS (k:Nat):List D:=[D.str (bs [83]++[UInt8.ofNat (48+k)])]
theorem Qs {f:Nat->Ns->List D}:∀ {c:Nat} {x:List Ns},x.length=c->(YU f c x).length=c
 |0,[],_=>rfl
 |c+1,a::x,h=>by simp [YU];exact Qs (by simpa using h)
section
variable {R:Type} {m:Nat} {l:List Int} (hl:l.length<=9223372036854775807) {P:R->Prop}
include hl
theorem Fm {a:Int} {i k j:Nat} {b d e:LL} {k0:Int->Bool->LL->LL->LL->Int->oP R} {n:Nat}
  (hi:i<10) (hw:(i:Int)<a) (hk:d.length=k) (g:k<=400) (f:b.length<=400) (h2:e.length<=400) (hj:j<=l.length)
  (H:∀ (c:Nat) (x:List Ns) (j:Nat),(c=1\/c=2)->Hk x->x.length=c->j<=l.length ->
   UY (m+3) a (encI l) k0 n ((i+1:Nat):Int) (b++[nmS i]) (d++YU (secT i) c x) (e++[[D.sl 1 (Wr (ups k c))]]) (j:Int)∈P) :
  UY (m+3) a (encI l) k0 (n+1) (i:Int) b d e (j:Int)∈P:=by
 unfold UY;rw [QU (by simp;omega),Bk _ _ i hi (by decide),Q0,XS (by simp;omega),Q0];refine VU hl hj (by decide) (by decide) fun v j h f hj=>?_
 obtain ⟨c,hc,hv⟩:∃ c:Nat,(c=1\/c=2)/\wJ (1+v)=(c:Int):=by
  rcases two h f with rfl | rfl
  ·exact ⟨1,.inl rfl,rfl⟩
  ·exact ⟨2,.inr rfl,rfl⟩
 dsimp only;rw [hv];refine Qdh hl hi hc hk g hj fun x j hx ac hj=>?_
 rw [XS (by simp;omega),Q0,Q6 (x:=(i:Int)+1) (by omega) (by omega)];exact H c x j hc hx ac hj
omit hl in
theorem r7e {n m:Nat} {b a:Int} {g c d e:LL} {f:Int} {k0:Int->Bool->LL->LL->LL->Int->oP R} (h:¬ a<b) :
  UY n b g k0 (m+1) a c d e f=k0 a false c d e f:=by
 rw [UY,Q8 (by simp;omega)];simp [h]
omit hl in
theorem Qhw {n m:Nat} {b a:Int} {i j c d e f:LL} {g:Int} {k0:Int->Bool->LL->LL->LL->LL->Int->oP R} (h:¬ wJ (a+1)<b) :
  UO n b i j k0 (m+1) a c d e f g=k0 a false c d e f g:=by
 rw [UO,Q8 (by simp;omega)];simp [h]
theorem Qgv {i:Nat} (hi:i<=l.length) {k0:LL->LL->LL->LL->LL->LL->Int->oP R}
  (H:∀ (c0 c1 a:Nat) (b d e:List Ns) (j:Nat),(c0=1\/c0=2)->(c1=1\/c1=2)->(a=1\/a=2)->Hk b->Hk d->Hk e->b.length=c0->d.length=c1->e.length=a->j<=l.length ->
   k0 [nmS 0,nmS 1] (Q2J 0 c0++Q2J (pc c0) c1) ((YU (secT 0) c0 b++YU (secT 1) c1 d)++YU (secL 0) a e)
    ((inL (c0+c1) a++Q3v (c0+c1) false 0 0 c0)++Q3v (c0+c1+a-1) true (pc c0) c0 c1)
    [[D.sl 1 (Wr (ups 0 c0))],[D.sl 1 (Wr (ups c0 c1))]] [[D.sl 1 (Wr (ups (c0+c1) a))]] (j:Int)∈P) :
  UY (m+3) 2 (encI l) (fun _ _ r t h u=>
   UO (m+3) 2 h (encI l) (fun _ _ v x y z aa=>k0 r v x y h z aa) (m+3) (0:Int) [] t [] [] u)
   (m+3) (0:Int) [] [] [] (i:Int)∈P:=by
 refine Fm hl (i:=0) (by decide) (by decide) rfl (by decide) (by decide) (by decide) hi fun c0 b j n ab f hj=>?_
 refine Fm hl (i:=1) (k:=c0) (by decide) (by decide) (by simp [Qs f]) (by omega) (by simp) (by simp) hj fun c1 d j o ac q hj=>?_
 rw [r7e (by decide)];refine Qgr hl (g:=0) (s:=c0+c1) (p:=0) (k:=0) (c:=c0) (k':=c0) (c':=c1) (by decide) (by decide) (by simp [Qs f,Qs q]) (by omega) rfl (by decide) (by decide) (by decide) rfl rfl n o hj fun a e j ad ae aj hj=>?_
 rw [Qhw (by decide)];have:=H c0 c1 a b d e j n o ad ab ac ae f q aj hj;simpa [Nat.add_assoc] using this
theorem Qgy {i:Nat} (hi:i<=l.length) {k0:LL->LL->LL->LL->LL->LL->Int->oP R}
  (H:∀ (c0 c1 a b d:Nat) (e f h n o:List Ns) (j:Nat),(c0=1\/c0=2)->(c1=1\/c1=2)->(a=1\/a=2)->(b=1\/b=2)->(d=1\/d=2)->Hk e->Hk f->Hk h->Hk n->Hk o->e.length=c0->f.length=c1->h.length=a->n.length=b->o.length=d->j<=l.length ->
   k0 [nmS 0,nmS 1,nmS 2] ((Q2J 0 c0++Q2J (pc c0) c1)++Q2J (pc c0+pc c1) c1++Q2J (pc c0+pc c1+pc c1) a)
    ((((YU (secT 0) c0 e++YU (secT 1) c1 f)++YU (secT 2) a h)++YU (secL 0) b n)++YU (secL 1) d o)
    (((inL (c0+c1+a) b++Q3v (c0+c1+a) false 0 0 c0)++Q3v (c0+c1+a+b-1) true (pc c0) c0 c1)++inL (c0+c1+a+b) d++Q3v (c0+c1+a+b) false (pc c0+pc c1) c0 c1++Q3v (c0+c1+a+b+d-1) true (pc c0+pc c1+pc c1) (c0+c1) a)
    [[D.sl 1 (Wr (ups 0 c0))],[D.sl 1 (Wr (ups c0 c1))],[D.sl 1 (Wr (ups (c0+c1) a))]] [[D.sl 1 (Wr (ups (c0+c1+a) b))],[D.sl 1 (Wr (ups (c0+c1+a+b) d))]] (j:Int)∈P) :
  UY (m+4) 3 (encI l) (fun _ _ aa ab v ac=>
   UO (m+4) 3 v (encI l) (fun _ _ ad ae ag ah ai=>k0 aa ad ae ag v ah ai) (m+4) (0:Int) [] ab [] [] ac)
   (m+4) (0:Int) [] [] [] (i:Int)∈P:=by
 refine Fm hl (m:=m+1) (i:=0) (by decide) (by decide) rfl (by decide) (by decide) (by decide) hi fun c0 e j x aj q hj=>?_
 refine Fm hl (m:=m+1) (i:=1) (k:=c0) (by decide) (by decide) (by simp [Qs q]) (by omega) (by simp) (by simp) hj fun c1 f j t ak r hj=>?_
 refine Fm hl (m:=m+1) (i:=2) (k:=c0+c1) (by decide) (by decide) (by simp [Qs q,Qs r]) (by omega) (by simp) (by simp) hj fun a h j y al u hj=>?_
 rw [r7e (by decide)];refine Qgr hl (m:=m+1) (g:=0) (s:=c0+c1+a) (p:=0) (k:=0) (c:=c0) (k':=c0) (c':=c1) (by decide) (by decide) (by simp [Qs q,Qs r,Qs u,Nat.add_assoc]) (by omega) rfl (by decide) (by decide) (by decide) rfl rfl x t hj fun b n j am an z hj=>?_
 have b0:=@QcB c0;have b1:=@QcB c1;have f0:=@Q5a (c0+c1+a) b;have f1:=@Q2D (c0+c1+a) 0 0 c0 false;have f2:=@Q2D (c0+c1+a+b-1) (pc c0) c0 c1 true;refine Qgr hl (m:=m+1) (g:=1) (s:=c0+c1+a+b) (p:=pc c0+pc c1) (k:=c0) (c:=c1) (k':=c0+c1) (c':=a) (by decide) (by decide) (by simp [Qs q,Qs r,Qs u,Qs z,Nat.add_assoc]) (by omega) (by simp [Q6i]) (by omega) (by simp;omega) (by simp) rfl rfl t y hj fun d o j ao ap aq hj=>?_
 rw [Qhw (by decide)];have:=H c0 c1 a b d e f h n o j x t y am ao aj ak al an ap q r u z aq hj;simpa [Nat.add_assoc] using this
end

def QbR:Option Bool->Bool
 |some true=>true
 |_=>false
def Qhx:Option Bool->Bool
 |some false=>true
 |_=>false
def Q80:Option Int->Bool
 |some n=>n == 0
 |none=>false
theorem M6 {o:Option Bool} (h:QbR o=true):o=some true:=by
 match o,h with
 |some true,_=>rfl
theorem Q9i {o:Option Bool} (h:Qhx o=true):o=some false:=by
 match o,h with
 |some false,_=>rfl
theorem Jg {o:Option Int} (h:Q80 o=true):o=some 0:=by
 match o,h with
 |some n,h=>simp only [Q80,beq_iff_eq] at h;rw [h]

end Go.Vx
namespace Go.Vx
variable {R:Type}
def PX (n:Nat) (a0:Int) (K:Bool->oP R):oP R:= K (bif (bif decide (a0>=65) then (decide (a0<=90)) else false) then true else (bif decide (a0>=97) then (decide (a0<=122)) else false))
def FH (n:Nat) (a0:Int) (K:Bool->oP R):oP R:= K (bif decide (a0>=48) then (decide (a0<=57)) else false)

def R2 (n:Nat) (b:List UInt8) (d:Int) (k0:oP R) (k1:Int->Bool->oP R):Nat->Int->oP R
 | 0,_=>none
 | m+1,a=>bif decide (a<d) then gb true (Jh b a) 0 fun f=>gb true (PX n f some) false fun c=>gb (!c) (Jh b a) 0 fun g=>gb (!c) (FH n g some) false fun e=>gb (bif !c then (!e) else false) (Jh b a) 0 fun h=>bif (bif (bif !c then (!e) else false) then (h != 95) else false) then k0 else R2 n b d k0 k1 m (wJ (a+1)) else k1 a (decide (a<d))
def KV (n:Nat) (a0:List UInt8) (K:Bool->oP R):oP R:= gb (!(bif (decide ((a0.length:Int)<1)) then true else (decide ((a0.length:Int)>12)))) (Jh a0 0) 0 fun a=>gb (!(bif (decide ((a0.length:Int)<1)) then true else (decide ((a0.length:Int)>12)))) (PX n a some) false fun b=>bif (bif (bif (decide ((a0.length:Int)<1)) then true else (decide ((a0.length:Int)>12))) then true else (!b)) then K false else R2 n a0 (a0.length:Int) (K false) (fun c d=>K true) n 0

def Xx (n:Nat) (e f g h:LL) (i:List UInt8) (a b c d:Int) (K:Bool->oP R):oP R:= K (bif (bif (bif (bif (bif (bif (bif decide (a>=1) then (decide (a<=400)) else false) then (decide (b>=1000)) else false) then (decide (b<=100000)) else false) then (decide (c>=(-40:Int))) else false) then (decide (c<=40)) else false) then (decide (d>=(-1:Int))) else false) then (decide (d<(e.length:Int))) else false)

def Yx (n:Nat) (i h b j:LL) (c d e f a g:Int) (K:Bool->oP R):oP R:= K (bif (bif (bif (bif (bif (bif (bif (bif decide (c>=0) then (decide (c<(b.length:Int))) else false) then (decide (e>=0)) else false) then (decide (e<(b.length:Int))) else false) then (bif (d == 0) then true else (d == 1)) else false) then (bif (f == 0) then true else (f == 1)) else false) then (decide (a>=(-1:Int))) else false) then (decide (a<(h.length:Int))) else false) then (bif (g == 0) then true else (bif (g == 1) then (a != (-1:Int)) else false)) else false)

def LW (n:Nat) (a b c d e f:Int) (K:Int->Int->Int->Int->oP R):oP R:= K a b c d

def HR (n:Nat) (h:LL) (h2 d e f g:Int) (k0:oP R) (k1:Int->Bool->oP R):Nat->Int->oP R
 | 0,_=>none
 | m+1,c=>bif decide (c<h2) then gb true (Q1 h c) [] fun b=>gb true (b[0]?) oF fun i=>gb true (b[1]?) oF fun j=>gb true (b[2]?) oF fun k=>gb true (b[3]?) oF fun l=>gb true (b[4]?) oF fun o=>gb true (b[5]?) oF fun p=>gb true (pIw i) 0 fun q=>gb true (pIw j) 0 fun r=>gb true (pIw k) 0 fun s=>gb true (pIw l) 0 fun t=>gb true (pIw o) 0 fun u=>gb true (pIw p) 0 fun v=>gb true (LW n q r s t u v Tu4) (0,0,0,0) fun a=>bif (bif (bif ((d == a.1)&&(e == a.2.1)) then ((f == a.2.2.1)&&(g == a.2.2.2)) else false) then true else (bif ((d == a.2.2.1)&&(e == a.2.2.2)) then ((f == a.1)&&(g == a.2.1)) else false)) then k0 else HR n h h2 d e f g k0 k1 m (wJ (c+1)) else k1 c (decide (c<h2))
def GY (n:Nat) (a0:LL) (a b c d:Int) (K:Bool->oP R):oP R:= HR n a0 (a0.length:Int) a b c d (K true) (fun e f=>K false) n 0

def Gc (n:Nat) (i j k l a c:Int) (a1:LL) (K:Bool->oP R):oP R:= bif ((a1.length:Int) == 0) then K true else gb (bif ((a1.length:Int) == 1) then (a != (-1:Int)) else false) (Q1 a1 0) [] fun d=>gb (bif ((a1.length:Int) == 1) then (a != (-1:Int)) else false) (d[4]?) oF fun e=>gb (bif ((a1.length:Int) == 1) then (a != (-1:Int)) else false) (pIw e) 0 fun b=>gb (bif (bif ((a1.length:Int) == 1) then (a != (-1:Int)) else false) then (a == b) else false) (Q1 a1 0) [] fun f=>gb (bif (bif ((a1.length:Int) == 1) then (a != (-1:Int)) else false) then (a == b) else false) (f[5]?) oF fun g=>gb (bif (bif ((a1.length:Int) == 1) then (a != (-1:Int)) else false) then (a == b) else false) (pIw g) 0 fun h=>K (bif (bif (bif ((a1.length:Int) == 1) then (a != (-1:Int)) else false) then (a == b) else false) then (c != h) else false)

def QbJ (n:Nat) (ac:List (List UInt8)) (s:List UInt8):Bool:=Nat.ble s.length 12&&QbR (KV n s some)&&!(ac.contains s)
def Pv (n:Nat):List (List UInt8)->LL->Bool
 | _,[]=>true
 | ac,row::r=>match row with
 | [D.str s]=>QbJ n ac s&&Pv n (s::ac) r
 | _=>false
def HW (n:Nat) (l0 l1 l2 e:LL):List (List UInt8)->LL->Bool
 | _,[]=>true
 | ac,row::r=>match row with
 | [D.str s,D.int .i64 a,D.int .i64 b,D.int .i64 c,D.int .i64 d]=>QbJ n ac s&&QbR (Xx n l0 l1 l2 e s a b c d some)&&HW n l0 l1 l2 e (s::ac) r
 | _=>false
def Hh (n:Nat) (l0 l1 l2 c:LL):List LL->LL->Bool
 | _,[]=>true
 | st,row::r=>match row with
 | [D.int .i64 a,D.int .i64 ae,D.int .i64 b,D.int .i64 be,D.int .i64 p,D.int .i64 q]=>(decide (0<=a)&&decide (a<l2.length)&&decide (0<=ae)&&decide (ae<=1)&&decide (0<=b)&&decide (b<l2.length)&&decide (0<=be)&&decide (be<=1))&&QbR (Yx n l0 l1 l2 c a ae b be p q some) && !(Nat.beq (2*a+ae).toNat (2*b+be).toNat) && (match st[(2*a+ae).toNat]?,st[(2*b+be).toNat]? with
 | some x,some y=>Qhx (GY n x a ae b be some)&&QbR (Gc n a ae b be p q x some)&&QbR (Gc n a ae b be p q y some)&&Nat.ble x.length 1&&Nat.ble y.length 1 && Hh n l0 l1 l2 c ((st.set (2*a+ae).toNat (x++[row])).set (2*b+be).toNat (y++[row])) r
 | _,_=>false)
 | _=>false
def P2 (n:Nat) (l0 l1 l2 a:LL):Bool:= Nat.ble l0.length 24&&Nat.ble l1.length 48&&Nat.ble l2.length 96&&Nat.ble a.length 192&&!(Nat.beq l2.length 0)&&Pv n [] l0&&Pv n [] l1&&HW n l0 l1 l2 a [] l2&&Hh n l0 l1 l2 a (List.replicate (2*l2.length) []) a
def ZN (n:Nat) (l0 l1 l2 a:LL) (K:Int->oP R):oP R:=bif P2 n l0 l1 l2 a then K 0 else none

end Go.Vx
namespace Go.Vx
def hat (c:Nat):List Ns:=List.replicate c (2,5000,0)
def pt2 (c0 c1:Nat):LL:=Q2J 0 c0++Q2J (pc c0) c1
def se2 (c0 c1 a:Nat) (b c d:List Ns):LL:=(YU (secT 0) c0 b++YU (secT 1) c1 c)++YU (secL 0) a d
def li2 (c0 c1 a:Nat):LL:=(inL (c0+c1) a++Q3v (c0+c1) false 0 0 c0)++Q3v (c0+c1+a-1) true (pc c0) c0 c1
def pt3 (c0 c1 a:Nat):LL:=(Q2J 0 c0++Q2J (pc c0) c1)++Q2J (pc c0+pc c1) c1++Q2J (pc c0+pc c1+pc c1) a
def se3 (c0 c1 a b c:Nat) (d e f g h:List Ns):LL:=(((YU (secT 0) c0 d++YU (secT 1) c1 e)++YU (secT 2) a f)++YU (secL 0) b g)++YU (secL 1) c h
def li3 (c0 c1 a b c:Nat):LL:=((inL (c0+c1+a) b++Q3v (c0+c1+a) false 0 0 c0)++Q3v (c0+c1+a+b-1) true (pc c0) c0 c1)++inL (c0+c1+a+b) c++Q3v (c0+c1+a+b) false (pc c0+pc c1) c0 c1++Q3v (c0+c1+a+b+c-1) true (pc c0+pc c1+pc c1) (c0+c1) a
theorem ok2 {c0 c1 a:Nat} (b:c0=1\/c0=2) (c:c1=1\/c1=2) (h2:a=1\/a=2):P2 400 [nmS 0,nmS 1] (pt2 c0 c1) (se2 c0 c1 a (hat c0) (hat c1) (hat a)) (li2 c0 c1 a)=true:=by
 rcases b with rfl | rfl <;> rcases c with rfl | rfl <;> rcases h2 with rfl | rfl <;> kernel_rfl
theorem ok3 {c0 c1 a b c:Nat} (d:c0=1\/c0=2) (e:c1=1\/c1=2) (h2:a=1\/a=2) (f:b=1\/b=2) (g:c=1\/c=2):P2 400 [nmS 0,nmS 1,nmS 2] (pt3 c0 c1 a) (se3 c0 c1 a b c (hat c0) (hat c1) (hat a) (hat b) (hat c)) (li3 c0 c1 a b c)=true:=by
 rcases d with rfl | rfl <;> rcases e with rfl | rfl <;> rcases h2 with rfl | rfl <;> rcases f with rfl | rfl <;> rcases g with rfl | rfl <;> kernel_rfl
structure NumOk (a b c d:Int) (k:Nat):Prop where
 a0:1<=a
 a1:a<=400
 b0:1000<=b
 b1:b<=100000
 c0 : -40<=c
 c1:c<=40
 d0 : -1<=d
 d1:d<k
theorem Q6X {n:Nat} {l0 l1 l2 e:LL} {s:List UInt8} {a b c d:Int} (h:NumOk a b c d l0.length):Xx n l0 l1 l2 e s a b c d some=some true:=by
 obtain ⟨f,g,h2,i,j,k,l,m⟩:=h;unfold Xx;simp [f,g,h2,i,j,k,l,m]
def DL (k:Nat):LL->LL->Prop
 |[],[]=>True
 |r::s,r'::s'=>(∃ nm a b c a' b' c' d,r=[D.str nm,Q4 a,Q4 b,Q4 c,Q4 d]/\r'=[D.str nm,Q4 a',Q4 b',Q4 c',Q4 d]/\NumOk a b c d k/\NumOk a' b' c' d k)/\DL k s s'
 |_,_=>False
theorem DL.len {k:Nat}:∀ {s s':LL},DL k s s'->s.length=s'.length
 |[],[],_=>rfl
 |r::s,r'::s',h=>by simp [DL.len h.2]
theorem DL.app {k:Nat}:∀ {s s' t t':LL},DL k s s'->DL k t t'->DL k (s++t) (s'++t')
 |[],[],t,t',_,h=>h
 |r::s,r'::s',t,t',h,h2=>⟨h.1,DL.app h.2 h2⟩
theorem DL.secT {k i:Nat} (hi:i<k):∀ {c:Nat} {x x':List Ns},Hk x->Hk x'->x.length=c->x'.length=c->DL k (YU (secT i) c x) (YU (secT i) c x')
 |0,[],[],_,_,_,_=>trivial
 |c+1,a::x,a'::x',h,h',e,e'=>⟨⟨QhD i (c+1),a.1+2,a.2.1,a.2.2,a'.1+2,a'.2.1,a'.2.2,i,rfl,rfl,
   ⟨by have:=h.1.a0;omega,by have:=h.1.a1;omega,by have:=h.1.b0;omega,by have:=h.1.b1;omega,by have:=h.1.c0;omega,by have:=h.1.c1;omega,by omega,by omega⟩,
   ⟨by have:=h'.1.a0;omega,by have:=h'.1.a1;omega,by have:=h'.1.b0;omega,by have:=h'.1.b1;omega,by have:=h'.1.c0;omega,by have:=h'.1.c1;omega,by omega,by omega⟩⟩,DL.secT hi h.2 h'.2 (by simpa using e) (by simpa using e')⟩
theorem DL.secL {k i:Nat}:∀ {c:Nat} {x x':List Ns},Hk x->Hk x'->x.length=c->x'.length=c->DL k (YU (secL i) c x) (YU (secL i) c x')
 |0,[],[],_,_,_,_=>trivial
 |c+1,a::x,a'::x',h,h',e,e'=>⟨⟨nmL i (c+1),a.1,a.2.1,a.2.2,a'.1,a'.2.1,a'.2.2,-1,rfl,rfl,
   ⟨by have:=h.1.a0;omega,by have:=h.1.a1;omega,by have:=h.1.b0;omega,by have:=h.1.b1;omega,by have:=h.1.c0;omega,by have:=h.1.c1;omega,by omega,by omega⟩,
   ⟨by have:=h'.1.a0;omega,by have:=h'.1.a1;omega,by have:=h'.1.b0;omega,by have:=h'.1.b1;omega,by have:=h'.1.c0;omega,by have:=h'.1.c1;omega,by omega,by omega⟩⟩,DL.secL h.2 h'.2 (by simpa using e) (by simpa using e')⟩
theorem Tj:∀ c,Hk (hat c)
 |0=>trivial
 |c+1=>⟨⟨by decide,by decide,by decide,by decide,by decide,by decide⟩,Tj c⟩
theorem Ml (c:Nat):(hat c).length=c:=by simp [hat]
theorem DH {n:Nat} {l0 l1 L L' e:LL}:∀ {s s':LL} {ac:List (List UInt8)},DL l0.length s s'->HW n l0 l1 L e ac s=HW n l0 l1 L' e ac s'
 |[],[],ac,_=>rfl
 |r::s,r'::s',ac,h=>by
  obtain ⟨⟨nm,a,b,c,a',b',c',d,rfl,rfl,f,h2⟩,g⟩:=h;show (QbJ n ac nm&&QbR (Xx n l0 l1 L e nm a b c d some)&&HW n l0 l1 L e (nm::ac) s)=(QbJ n ac nm&&QbR (Xx n l0 l1 L' e nm a' b' c' d some)&&HW n l0 l1 L' e (nm::ac) s');rw [Q6X f,Q6X h2,DH g]
theorem F0 {n:Nat} {l0 l1 L L' c:LL} (h:L.length=L'.length):∀ {t:LL} {st:List LL},Hh n l0 l1 L c st t=Hh n l0 l1 L' c st t
 |[],st=>rfl
 |r::t,st=>by
  unfold Hh;split
  ·rename_i a ae b be p q;have e:Yx n l0 l1 L c a ae b be p q some=Yx n l0 l1 L' c a ae b be p q some:=by unfold Yx;rw [h]
   rw [e,h];split
   ·rw [F0 h]
   ·rfl
  ·rfl
theorem Q10 {n:Nat} {l0 l1 L L' a:LL} (h:DL l0.length L L'):P2 n l0 l1 L a=P2 n l0 l1 L' a:=by
 unfold P2;rw [h.len,DH h,F0 h.len]
theorem sr2 {c0 c1 a:Nat} {b c d:List Ns} (e:Hk b) (f:Hk c) (g:Hk d) (h:b.length=c0) (e1:c.length=c1) (e2:d.length=a):DL 2 (se2 c0 c1 a b c d) (se2 c0 c1 a (hat c0) (hat c1) (hat a)):=
 .app (.app (.secT (by decide) e (Tj _) h (Ml _)) (.secT (by decide) f (Tj _) e1 (Ml _))) (.secL g (Tj _) e2 (Ml _))
theorem sr3 {c0 c1 a b c:Nat} {d e f g h:List Ns} (i:Hk d) (j:Hk e) (k:Hk f) (n3:Hk g) (l:Hk h) (m:d.length=c0) (e1:e.length=c1) (e2:f.length=a) (n:g.length=b) (o:h.length=c):DL 3 (se3 c0 c1 a b c d e f g h) (se3 c0 c1 a b c (hat c0) (hat c1) (hat a) (hat b) (hat c)):=
 .app (.app (.app (.app (.secT (by decide) i (Tj _) m (Ml _)) (.secT (by decide) j (Tj _) e1 (Ml _))) (.secT (by decide) k (Tj _) e2 (Ml _))) (.secL n3 (Tj _) n (Ml _))) (.secL l (Tj _) o (Ml _))
theorem QhP {c0 c1 a:Nat} {b c d:List Ns} (e:c0=1\/c0=2) (f:c1=1\/c1=2) (h2:a=1\/a=2) (g:Hk b) (h:Hk c) (i:Hk d) (j:b.length=c0) (e1:c.length=c1) (e2:d.length=a) :
  P2 400 [nmS 0,nmS 1] (pt2 c0 c1) (se2 c0 c1 a b c d) (li2 c0 c1 a)=true:=by
 rw [<- ok2 e f h2];exact Q10 (sr2 g h i j e1 e2)
theorem Qie {c0 c1 a b c:Nat} {d e f g h:List Ns} (i:c0=1\/c0=2) (j:c1=1\/c1=2) (h2:a=1\/a=2) (k:b=1\/b=2) (l:c=1\/c=2) (m:Hk d) (n:Hk e) (o:Hk f) (n3:Hk g) (p:Hk h) (q:d.length=c0) (e1:e.length=c1) (e2:f.length=a) (r:g.length=b) (s:h.length=c) :
  P2 400 [nmS 0,nmS 1,nmS 2] (pt3 c0 c1 a) (se3 c0 c1 a b c d e f g h) (li3 c0 c1 a b c)=true:=by
 rw [<- ok3 i j h2 k l];exact Q10 (sr3 m n o n3 p q e1 e2 r s)

end Go.Vx
namespace Go.Vx
variable {R:Type}
def Nx (n:Nat) (d e c f:LL) (a b:Int) (K:Bool->oP R):oP R:= K (bif (bif decide (a>=0) then (decide (a<(c.length:Int))) else false) then (bif (b == 0) then true else (b == 1)) else false)
def Ry (n:Nat) (a b:Int) (K:Int->Int->oP R):oP R:= bif (b == 0) then K a 1 else K a 0

def L7 (n:Nat) (a b:Int) (K:Int->Int->oP R):oP R:= bif (b == 0) then K a 1 else K a 0

def Ge (n:Nat) (h:LL) (c d e f g:Int) (k0:Int->oP R) (k1:Int->Bool->oP R):Nat->Int->oP R
 | 0,_=>none
 | m+1,b=>bif decide (b<c) then gb true (Q1 h b) [] fun a=>gb true (a[0]?) oF fun o=>gb true (a[1]?) oF fun p=>gb true (a[2]?) oF fun q=>gb true (a[3]?) oF fun r=>gb true (a[4]?) oF fun s=>gb true (a[5]?) oF fun u=>gb true (pIw o) 0 fun i=>gb true (pIw p) 0 fun j=>gb true (pIw q) 0 fun k=>gb true (pIw r) 0 fun l=>bif (bif (bif ((i == d)&&(j == e)) then ((k == f)&&(l == g)) else false) then true else (bif ((i == f)&&(j == g)) then ((k == d)&&(l == e)) else false)) then gb true (pIw s) 0 fun t=>k0 t else Ge n h c d e f g k0 k1 m (wJ (b+1)) else k1 b (decide (b<c))
def JY (n:Nat) (k l m c:LL) (f g h i:Int) (K:Int->Bool->oP R):oP R:= gb true (Ry n f g Tu2) (0,0) fun a=>gb true (L7 n h i Tu2) (0,0) fun d=>gb true (Ry n d.1 d.2 Tu2) (0,0) fun e=>Ge n c (c.length:Int) a.1 a.2 e.1 e.2 (fun j=>K j true) (fun o p=>K 0 false) n 0

def Ud (n:Nat) (c:LL) (b:Int) (d e f g:LL) (k0:oP R) (k1:Int->Bool->oP R):Nat->Int->oP R
 | 0,_=>none
 | m+1,a=>bif decide (a<b) then gb true (Q1 c a) [] fun h=>gb true (h[0]?) oF fun i=>gb true (h[1]?) oF fun j=>gb true (pIw i) 0 fun k=>gb true (pIw j) 0 fun l=>gb true (Nx n d e f g k l some) false fun o=>bif !o then k0 else Ud n c b d e f g k0 k1 m (wJ (a+1)) else k1 a (decide (a<b))
def GG (n:Nat) (e:LL) (c:Int) (k0:oP R) (k1:Int->Bool->LL->oP R):Nat->Int->LL->oP R
 | 0,_,_=>none
 | m+1,b,a=>bif decide (b<c) then gb true (Q1 e b) [] fun f=>gb true (f[0]?) oF fun g=>gb true (f[1]?) oF fun o=>gb true (pIw g) 0 fun h=>gb true (inB (a.length) h) () fun p=>gb true (a[h.toNat]?) [] fun i=>gb true (i[0]?) oF fun j=>gb true (Gx j) false fun k=>bif k then k0 else gb true (pIw g) 0 fun d=>gb true (inB (a.length) d) () fun q=>gb true (a[d.toNat]?) [] fun l=>GG n e c k0 k1 m (wJ (b+1)) (List.set a d.toNat (List.set l 0 (D.bool true))) else k1 b (decide (b<c)) a
def U3 (n:Nat) (e:LL) (b:Int) (f g h i j:LL) (k0:oP R) (k1:Int->Bool->LL->oP R):Nat->Int->LL->oP R
 | 0,_,_=>none
 | m+1,a,c=>bif decide (a<b) then gb true (Q1 e a) [] fun k=>gb true (k[0]?) oF fun o=>gb true (k[1]?) oF fun p=>gb true (Q1 j a) [] fun l=>gb true (l[0]?) oF fun q=>gb true (l[1]?) oF fun r=>gb true (pIw q) 0 fun s=>gb true (pIw r) 0 fun t=>gb true (pIw o) 0 fun u=>gb true (pIw p) 0 fun v=>gb true (JY n f g h i s t u v Tu2) (0,false) fun d=>bif (!d.2) then k0 else gb true (Ym ((c.length+[[Q4 d.1]].length)*8)) () fun z=>U3 n e b f g h i j k0 k1 m (wJ (a+1)) (c++[[Q4 d.1]]) else k1 a (decide (a<b)) c
def HC (n:Nat) (d e b f a:LL) (c:Int) (K:LL->Int->oP R):oP R:= gb true (ZN n d e b f some) 0 fun j=>bif (j != 0) then K [] 1 else jn (fun (k:Bool)=>bif k then K [] 7 else jn (fun (l:Bool)=>bif l then K [] 4 else Ud n a (a.length:Int) d e b f (K [] 4) (fun o p=>gb true (bif decide (0<=(b.length:Int))&&decide ((b.length:Int)<=(b.length:Int)) then some () else none) () fun q=>gb true (Ym (Int.toNat (b.length:Int)*1)) () fun r=>GG n a (a.length:Int) (K [] 5) (fun s t u=>gb true (slB (a.length) (some 1) none) (0,0) fun g=>U3 n (cut a g) ((List.length (cut a g):Nat):Int) d e b f a (K [] 11) (fun v x m=>K m 0) n 0 []) n 0 (List.replicate (Int.toNat (b.length:Int)) [D.bool false])) n 0) fun h=>bif decide (c<0) then h (decide (c<0)) else h (decide ((wJ ((a.length:Int)-c))<2))) fun i=>bif (decide ((a.length:Int)>24)) then i (decide ((a.length:Int)>24)) else i (decide (c>2))

def Pe (n:Nat) (b c d e f:LL) (g:Int) (K:Int->oP R):oP R:= gb true (HC n b c d e f g Tu2) ([],0) fun a=>K a.2

end Go.Vx
namespace Go.Vx
def KZ (s u x y:Nat) (up:Bool):LL:=
 bif up then [Q4 x,Q4 0]::((ups s u).map fun k=>[Q4 (k:Nat),Q4 0])++[[Q4 y,Q4 0]] else [Q4 y,Q4 1]::((ups s u).reverse.map fun k=>[Q4 (k:Nat),Q4 1])++[[Q4 x,Q4 1]]
theorem Qx {α:Type} {r:Nat->Int->α} {N:Nat} {e:α} (hs:∀ m h,h<N->r (m+1) (h:Int)=r m ((h+1:Nat):Int)) (he:∀ m,r (m+1) (N:Int)=e):∀ (k m h:Nat),h+k=N->k<m->r m (h:Int)=e
 |0,m+1,h,hh,_=>by rw [show h=N by omega];exact he m
 |k+1,m+1,h,hh,hm=>by rw [hs m h (by omega)];exact Qx hs he k m (h+1) (by omega) (by omega)
section
variable {R:Type} {n:Nat} {a b a' b' L L' d:LL} (h:L.length=L'.length)
include h
theorem QdX {s:LL} {w:Int} {k0:oP R} {k1:Int->Bool->oP R}:∀ (m:Nat) (i:Int),Ud n s w a b L d k0 k1 m i=Ud n s w a' b' L' d k0 k1 m i
 |0,_=>rfl
 |m+1,i=>by
  unfold Ud;simp only [Nx,h,QdX m]
omit h in
theorem QgB {x y z t:Int} {K:Int->Bool->oP R}:JY n a b L d x y z t K=JY n a' b' L' d x y z t K:=rfl
omit h in
theorem QfG {q s:LL} {w:Int} {k0:oP R} {k1:Int->Bool->LL->oP R}:∀ (m:Nat) (i:Int) (p:LL),U3 n q w a b L d s k0 k1 m i p=U3 n q w a' b' L' d s k0 k1 m i p
 |0,_,_=>rfl
 |m+1,i,p=>by
  unfold U3;simp only [QgB (a:=a) (b:=b) (L:=L) (a':=a') (b':=b') (L':=L'),QfG m]
end
def Q99 (St Pt L d s:LL):Option (LL × Int):=
 Ud 400 s ((List.length s:Nat):Int) St Pt L d (some ([],4))
  (fun _ _=>
  gb true (bif decide (0<=((List.length L:Nat):Int))&&decide (((List.length L:Nat):Int)<=((List.length L:Nat):Int)) then some () else none) () fun c=>
  gb true (Ym (Int.toNat ((List.length L:Nat):Int)*1)) () fun e=>
  GG 400 s ((List.length s:Nat):Int) (some ([],5))
   (fun _ _ _=>
   gb true (slB (List.length s) (some (1:Int)) none) (0,0) fun a=>
   U3 400 (cut s a) ((List.length (cut s a):Nat):Int) St Pt L d s (some ([],11)) (fun _ _ b=>some (b,0)) 400 (0:Int) [])
   400 (0:Int) (List.replicate (Int.toNat ((List.length L:Nat):Int)) [D.bool false]))
  400 (0:Int)
def rtB (N:Nat) (Li s:LL):Bool:=match Q99 [] [] (List.replicate N []) Li s with
 |some (_,e)=>e == 0
 |none=>false
theorem Q9m {St Pt Se Li s:LL} {N:Nat} (ac:P2 400 St Pt Se Li=true) (hN:Se.length=N) (h2:2<=s.length) (g:s.length<=24) (hr:rtB N Li s=true) :
  ∃ aj,HC 400 St Pt Se Li s 0 Tu2=some (aj,0):=by
 have hc:ZN 400 St Pt Se Li (some:Int->Option Int)=some 0:=by unfold ZN;rw [ac];rfl
 have hL:Se.length=(List.replicate N ([]:List D)).length:=by simp [hN]
 have e:HC 400 St Pt Se Li s 0 Tu2=Q99 [] [] (List.replicate N []) Li s:=by
  unfold HC;rw [hc,Q0,Q8 (by decide)];dsimp only [jn];rw [Q8 (c:=decide (((List.length s:Nat):Int)>24)) (by simp;omega),Q8 (c:=decide ((0:Int)>2)) (by decide),Q8 (c:=decide ((0:Int)<0)) (by decide),Q8 (c:=decide (wJ (((List.length s:Nat):Int)-0)<2)) (by rw [Q6 (by omega) (by omega)];simp;omega)];unfold Q99;simp only [QfG (a:=St) (b:=Pt) (L:=Se) (a':=[]) (b':=[]) (L':=List.replicate N []),QdX (a:=St) (b:=Pt) (L:=Se) (a':=[]) (b':=[]) (L':=List.replicate N []) hL,hL]
 rw [e];unfold rtB at hr;split at hr
 ·rename_i p e' hh;simp only [beq_iff_eq] at hr;subst hr;exact ⟨p,hh⟩
 ·cases hr
theorem Q60 {R:Type} {St Pt Se Li s:LL} {N:Nat} (ac:P2 400 St Pt Se Li=true) (hN:Se.length=N) (h2:2<=s.length) (a:s.length<=24) (hr:rtB N Li s=true) (K:Int->oP R):Pe 400 St Pt Se Li s 0 K=K 0:=by
 obtain ⟨p,e⟩:=Q9m ac hN h2 a hr;unfold Pe;rw [e,Q0]
def QbL (N:Nat) (Li:LL) (s u k c k' c':Nat):Bool:=
 (ups k c).all fun x=>(ups k' c').all fun y=>rtB N Li (KZ s u x y true)&&rtB N Li (KZ s u x y false)
theorem QhY {c0 c1 a:Nat} (b:c0=1\/c0=2) (c:c1=1\/c1=2) (h2:a=1\/a=2):QbL (c0+c1+a) (li2 c0 c1 a) (c0+c1) a 0 c0 c0 c1=true:=by
 rcases b with rfl | rfl <;> rcases c with rfl | rfl <;> rcases h2 with rfl | rfl <;> kernel_rfl
theorem Qi5 {c0 c1 a b c:Nat} (d:c0=1\/c0=2) (e:c1=1\/c1=2) (h2:a=1\/a=2) (f:b=1\/b=2) (g:c=1\/c=2) :
  (QbL (c0+c1+a+b+c) (li3 c0 c1 a b c) (c0+c1+a) b 0 c0 c0 c1&&QbL (c0+c1+a+b+c) (li3 c0 c1 a b c) (c0+c1+a+b) c c0 c1 (c0+c1) a)=true:=by
 rcases d with rfl | rfl <;> rcases e with rfl | rfl <;> rcases h2 with rfl | rfl <;> rcases f with rfl | rfl <;> rcases g with rfl | rfl <;> kernel_rfl
end Go.Vx
namespace Go.Vx
variable {R:Type}
def Qd (n:Nat) (a0:LL) (a1:Int) (K:LL->oP R):oP R:= bif Nat.beq a0.length 1&&decide (0<=a1)&&decide (a1<=100000) then K (List.replicate a1.toNat (a0.headD [])) else none
def Wz (n:Nat) (e:LL) (d:Int) (f:LL) (k0:Int->Bool->LL->oP R):Nat->Int->LL->oP R
 | 0,_,_=>none
 | m+1,a,b=>bif decide (a<d) then gb true (Q1 e a) [] fun g=>gb true (g[0]?) oF fun o=>gb true (g[1]?) oF fun p=>gb true (pIw o) 0 fun q=>gb true (Q1 f q) [] fun c=>gb true (c[0]?) oF fun x=>gb true (c[1]?) oF fun h=>gb true (c[2]?) oF fun r=>gb true (c[3]?) oF fun s=>gb true (c[4]?) oF fun y=>gb true (pIw r) 0 fun i=>gb true (pIw s) 0 fun j=>gb true (pIw p) 0 fun t=>bif (t == 1) then gb true (pIw h) 0 fun u=>gb true (Qd n [[Q4 i,Q4 (wJ (0-j))]] u some) [] fun k=>gb true (Ym ((b.length+k.length)*16)) () fun z=>Wz n e d f k0 m (wJ (a+1)) (b++k) else gb true (pIw h) 0 fun v=>gb true (Qd n [[Q4 i,Q4 j]] v some) [] fun l=>gb true (Ym ((b.length+l.length)*16)) () fun aa=>Wz n e d f k0 m (wJ (a+1)) (b++l) else k0 a (decide (a<d)) b
def R4 (n:Nat) (g h b i a:LL) (c:Int) (K:LL->Int->Int->oP R):oP R:= gb true (Pe n g h b i a c some) 0 fun d=>bif (d != 0) then K [] 0 d else gb true (slB (a.length) none (some (wJ ((a.length:Int)-c)))) (0,0) fun e=>Wz n (cut a e) ((List.length (cut a e):Nat):Int) b (fun p q f=>bif (decide ((f.length:Int)>4000)) then K [] 0 7 else gb true (Q1 a 0) [] fun j=>gb true (j[0]?) oF fun k=>gb true (pIw k) 0 fun l=>gb true (Q1 b l) [] fun m=>gb true (m[1]?) oF fun o=>gb true (pIw o) 0 fun i64=>K f i64 0) n 0 []

def UR (n:Nat) (e:List UInt8) (a b c d:Int) (K:Bool->oP R):oP R:= K (bif (bif (bif (bif (bif (bif (bif decide (a>=1) then (decide (a<=40)) else false) then (decide (b>=1000)) else false) then (decide (b<=100000)) else false) then (decide (c>=100)) else false) then (decide (c<=2000)) else false) then (decide (d>=100)) else false) then (decide (d<=2000)) else false)

def UH (n:Nat) (a:LL) (b:Int) (K:LL->oP R):oP R:= gb true (slB (a.length) none (some (wJ ((a.length:Int)-b)))) (0,0) fun c=>K (cut a c)

def U6 (n:Nat) (d:LL) (b:Int) (e:LL) (c:Int) (k0:oP R) (k1:Int->Bool->oP R):Nat->Int->oP R
 | 0,_=>none
 | m+1,a=>bif decide (a<b) then gb true (Q1 d a) [] fun f=>gb true (f[0]?) oF fun g=>gb true (f[1]?) oF fun l=>gb true (pIw g) 0 fun h=>gb true (Q1 e h) [] fun i=>gb true (i[1]?) oF fun j=>gb true (pIw j) 0 fun k=>bif (decide (k<(if 2<c then c else 2))) then k0 else U6 n d b e c k0 k1 m (wJ (a+1)) else k1 a (decide (a<b))
def HB (n:Nat) (h i c j d:LL) (e:Int) (k:List UInt8) (f l m o:Int) (K:LL->Int->Int->oP R):oP R:= gb true (R4 n h i c j d e Tu3) ([],0,0) fun a=>bif (a.2.2 != 0) then K [] 0 a.2.2 else gb true (UR n k f l m o some) false fun b=>bif !b then K [] 0 1 else gb true (UH n d e some) [] fun g=>U6 n g (g.length:Int) c f (K [] 0 12) (fun q r=>K a.1 a.2.1 0) n 0

def GC (n:Nat) (b c d e f:LL) (g:Int) (h:List UInt8) (i j k l:Int) (K:Int->oP R):oP R:= gb true (HB n b c d e f g h i j k l Tu3) ([],0,0) fun a=>K a.2.2

end Go.Vx
namespace Go.Vx
structure SecN (a b c:Int):Prop where
 a0:2<=a
 a1:a<=12
 b0:5000<=b
 b1:b<=35000
 c0 : -10<=c
 c1:c<=10
def Co (Se:LL) (row:List D):Prop:=∃ (x d:Int) (nm:List UInt8) (a b c st:Int),row=[Q4 x,Q4 d]/\Q1 Se x=some [D.str nm,Q4 a,Q4 b,Q4 c,Q4 st]/\SecN a b c/\(d=0\/d=1)
def SA (Se:LL):List D->LL
 |[.int _ x,.int _ d]=>match Q1 Se x with
  |some [_,.int _ a,.int _ b,.int _ c,_]=>List.replicate a.toNat [Q4 b,Q4 (bif d == 1 then -c else c)]
  |_=>[]
 |_=>[]
def YC (Se s:LL):LL:=s.flatMap (SA Se)
theorem HE {Se:LL} {x d a b c st:Int} {nm:List UInt8} (h:Q1 Se x=some [D.str nm,Q4 a,Q4 b,Q4 c,Q4 st]):SA Se [Q4 x,Q4 d]=List.replicate a.toNat [Q4 b,Q4 (bif d == 1 then -c else c)]:=by
 simp only [SA,h]
theorem YJ {α:Type} {l:List α} {h:Nat} {a:α} (e:l[h]? = some a):l.take (h+1)=l.take h++[a]:=by rw [List.take_add_one,e];rfl
theorem MA {Se s:LL} {h:Nat} {row:List D} (e:s[h]? = some row):YC Se (s.take (h+1))=YC Se (s.take h)++SA Se row:=by
 rw [YJ e];simp [YC]
theorem S8 {Se:LL}:∀ {s:LL},(∀ row∈s,Co Se row)->(YC Se s).length<=12*s.length/\2*s.length<=(YC Se s).length
 |[],_=>by simp [YC]
 |row::s,h=>by
  obtain ⟨x,d,nm,a,b,c,st,rfl,hs,hn,_⟩:=h _ (List.mem_cons_self ..);have e:=S8 fun r hr=>h r (List.mem_cons_of_mem _ hr)
  have h2:=hn.a0;have f:=hn.a1;simp only [YC,List.flatMap_cons,HE hs,List.length_append,List.length_replicate,List.length_cons] at e ⊢;omega
section
variable {R:Type} {n:Nat}
theorem QhQ {a:Int} {x y:D} (b:0<=a) (c:a<=100000) (K:LL->oP R):Qd n [[x,y]] a K=K (List.replicate a.toNat [x,y]):=by
 unfold Qd;rw [QU (by simp [b,c])];rfl
theorem Qb1 {Se s:LL} {k0:Int->Bool->LL->oP R} (hs:∀ row∈s,Co Se row) (hl:s.length<=30):∀ {m:Nat},s.length<m->Wz n s ((s.length:Nat):Int) Se k0 m 0 []=k0 ((s.length:Nat):Int) false (YC Se s):=by
 intro m hm;have hc:=fun h:Nat=>(S8 (s:=s.take h) fun r hr=>hs r (List.mem_of_mem_take hr)).1
 refine Qx (r:=fun m h=>Wz n s ((s.length:Nat):Int) Se k0 m h (YC Se (s.take h.toNat))) (N:=s.length) (fun m h hh=>?_) (fun m=>?_) s.length m 0 (by omega) hm
 ·have e:=Qjh hh;obtain ⟨x,d,nm,a,b,c,st,hx,aj,hn,hd⟩:=hs _ (Qjm hh);rw [hx] at e;have a0:=hn.a0;have a1:=hn.a1;have al:=hc h;simp only [Int.toNat_natCast,MA e,HE aj];simp only [List.length_take] at al;rw [Wz,QU (by simpa using hh),show Q1 s (h:Int)=some [Q4 x,Q4 d] by simp [Q1,e],Q0];dsimp only [List.getElem?_cons_zero,List.getElem?_cons_succ];rw [Q0,Q0,Q2,Q0,aj,Q0];dsimp only [List.getElem?_cons_zero,List.getElem?_cons_succ];have ac:∀ r:List D,Ym (((YC Se (s.take h)).length+(List.replicate a.toNat r).length)*16)=some ():=fun r=>XS (by simp only [List.length_replicate];omega)
  simp -implicitDefEqProofs only [Q0,Q2,QhQ (show (0:Int)<=a by omega) (show a<=100000 by omega),ac];rw [Q6 (x:=(h:Int)+1) (by omega) (by omega),show (h:Int)+1=((h+1:Nat):Int) by omega,Q6 (x:=0-c) (by have:=hn.c1;omega) (by have:=hn.c0;omega),Int.zero_sub];cases f:d == (1:Int) <;> rfl
 ·simp only [Int.toNat_natCast];rw [Wz,Q8 (by simp),List.take_length];simp
theorem Qa1 {s:LL} (h:s.length<=1000):slB s.length none (some (wJ (((s.length:Nat):Int)-(0:Int))))=some (0,s.length)/\cut s (0,s.length)=s:=by
 rw [Q6 (by omega) (by omega)];constructor
 ·simp [slB]
 ·simp [cut]
def TC (Se s:LL):Int:=match s with
 |[.int _ x,_]::_=>match Q1 Se x with
  |some [_,.int _ a,_,_,_]=>a
  |_=>0
 |_=>0
theorem QeP {St Pt Se Li s:LL} {N:Nat} (ac:P2 400 St Pt Se Li=true) (hN:Se.length=N) (h2:2<=s.length) (e:s.length<=24) (hr:rtB N Li s=true) (ho:∀ row∈s,Co Se row) (K:LL->Int->Int->oP R) :
  R4 400 St Pt Se Li s 0 K=K (YC Se s) (TC Se s) 0:=by
 have hl:=(S8 ho).1;obtain ⟨row,rest,rfl⟩:∃ row rest,s=row::rest:=by
  cases s with
  |nil=>simp at h2
  |cons a b=>exact ⟨a,b,rfl⟩
 obtain ⟨x,d,nm,a,b,c,st,rfl,hs,_,_⟩:=ho row (by simp);have hf:TC Se ([Q4 x,Q4 d]::rest)=a:=by simp only [TC,hs]
 generalize hS:[Q4 x,Q4 d]::rest=s at *
 obtain ⟨e1,e2⟩:=Qa1 (s:=s) (by omega);unfold R4;rw [Q60 ac hN h2 e hr,Q0,Q8 (by decide),e1,Q0,e2,Qb1 ho (by omega) (by omega),Q8 (by simp;omega),show Q1 s (0:Int)=some [Q4 x,Q4 d] by rw [<- hS];rfl,Q0];dsimp only [List.getElem?_cons_zero,List.getElem?_cons_succ];rw [Q0,Q2,Q0,hs,Q0];dsimp only [List.getElem?_cons_zero,List.getElem?_cons_succ];rw [Q0,Q2,Q0,hf]
theorem QfA {Se s:LL} {tl:Int} {k0:oP R} {k1:Int->Bool->oP R} (ht:tl<=2) (hb:s.length<=30) (hs:∀ row∈s,Co Se row) {m:Nat} (hm:s.length<m) :
  U6 n s ((s.length:Nat):Int) Se tl k0 k1 m 0=k1 (s.length:Int) false:=by
 refine Qx (r:=fun m h=>U6 n s ((s.length:Nat):Int) Se tl k0 k1 m h) (N:=s.length) (fun m h hh=>?_) (fun m=>?_) s.length m 0 (by omega) hm
 ·obtain ⟨x,d,ak,a,b,c,st,hx,ac,hn,_⟩:=hs _ (Qjm hh);have a0:=hn.a0;rw [U6,QU (by simpa using hh),show Q1 s (h:Int)=some [Q4 x,Q4 d] by simp [Q1,Qjh hh,hx],Q0];dsimp only [List.getElem?_cons_zero,List.getElem?_cons_succ];rw [Q0,Q0,Q2,Q0,ac,Q0];dsimp only [List.getElem?_cons_zero,List.getElem?_cons_succ];rw [Q0,Q2,Q0,Q8 (by simp;split <;> omega),Q6 (x:=(h:Int)+1) (by omega) (by omega),show (h:Int)+1=((h+1:Nat):Int) by omega]
 ·rw [U6,Q8 (by simp)];simp
structure StkN (tl sp ac br:Int):Prop where
 t1:1<=tl
 t2:tl<=2
 s1:10000<=sp
 s2:sp<=25000
 a1:400<=ac
 a2:ac<=800
 b1:400<=br
 b2:br<=800
theorem BV {nm:List UInt8} {tl sp ac br:Int} (h:StkN tl sp ac br) (K:Bool->oP R):UR n nm tl sp ac br K=K true:=by
 obtain ⟨t1,t2,s1,s2,a1,a2,b1,b2⟩:=h;unfold UR;simp [t1,show (1000:Int)<=sp by omega,show sp<=100000 by omega,show 100<=ac by omega,show ac<=2000 by omega,show 100<=br by omega,show br<=2000 by omega,show tl<=40 by omega]
theorem Q0O {s:LL} (a:s.length<=24) (K:LL->oP R):UH 400 s 0 K=K s:=by
 obtain ⟨e1,e2⟩:=Qa1 (s:=s) (by omega);unfold UH;rw [e1,Q0,e2]
theorem QhF {St Pt Se Li s:LL} {N:Nat} {nm:List UInt8} {tl sp ac br:Int} (aj:P2 400 St Pt Se Li=true) (hN:Se.length=N) (h2:2<=s.length) (a:s.length<=24) (hr:rtB N Li s=true) (ho:∀ row∈s,Co Se row)
  (hk:StkN tl sp ac br) (K:LL->Int->Int->oP R):HB 400 St Pt Se Li s 0 nm tl sp ac br K=K (YC Se s) (TC Se s) 0:=by
 unfold HB;rw [QeP aj hN h2 a hr ho,Q0,Q8 (by rfl),BV hk,Q0,Q8 (by decide),Q0O a,Q0,QfA hk.t2 (by omega) ho (by omega)]
theorem Qdi {St Pt Se Li s:LL} {N:Nat} {nm:List UInt8} {tl sp ac br:Int} (aj:P2 400 St Pt Se Li=true) (hN:Se.length=N) (h2:2<=s.length) (a:s.length<=24) (hr:rtB N Li s=true) (ho:∀ row∈s,Co Se row)
  (hk:StkN tl sp ac br) (K:Int->oP R):GC 400 St Pt Se Li s 0 nm tl sp ac br K=K 0:=by
 unfold GC;rw [QhF aj hN h2 a hr ho hk,Q0]
end
end Go.Vx
namespace Go.Vx
variable {R:Type}
def LA (n:Nat) (a0:Int) (K:Bool->oP R):oP R:= K (bif (bif decide (a0>=97) then (decide (a0<=122)) else false) then true else (bif decide (a0>=65) then (decide (a0<=90)) else false))
def Q15 (n:Nat) (a0:Int) (K:Bool->oP R):oP R:= K (bif decide (a0>=48) then (decide (a0<=57)) else false)

def NL (n:Nat) (b:List UInt8) (k0:oP R) (k1:Int->Bool->oP R):Nat->Int->oP R
 | 0,_=>none
 | m+1,a=>bif (decide (a<(b.length:Int))) then gb true (Jh b a) 0 fun e=>gb true (LA n e some) false fun c=>gb (!c) (Jh b a) 0 fun f=>gb (!c) (Q15 n f some) false fun d=>gb (bif !c then (!d) else false) (Jh b a) 0 fun g=>bif (bif (bif !c then (!d) else false) then (g != 95) else false) then k0 else NL n b k0 k1 m (wJ (a+1)) else k1 a (decide (a<(b.length:Int)))
def M1 (n:Nat) (a0:List UInt8) (K:Bool->oP R):oP R:= gb (!(bif (decide ((a0.length:Int)<1)) then true else (decide ((a0.length:Int)>12)))) (Jh a0 0) 0 fun a=>gb (!(bif (decide ((a0.length:Int)<1)) then true else (decide ((a0.length:Int)>12)))) (LA n a some) false fun b=>bif (bif (bif (decide ((a0.length:Int)<1)) then true else (decide ((a0.length:Int)>12))) then true else (!b)) then K false else NL n a0 (K false) (fun c d=>K true) n 1

def Rf (n:Nat) (c:LL) (b:Int) (k0:oP R) (k1:Int->Bool->oP R):Nat->Int->oP R
 | 0,_=>none
 | m+1,a=>bif decide (a<b) then gb true (Q1 c a) [] fun d=>gb true (d[0]?) oF fun e=>gb true (Nk e) [] fun f=>gb true (Q1 c b) [] fun g=>gb true (g[0]?) oF fun h=>gb true (Nk h) [] fun i=>bif (f == i) then k0 else Rf n c b k0 k1 m (wJ (a+1)) else k1 a (decide (a<b))
def Mp (n:Nat) (a0:LL) (a1:Int) (K:Int->oP R):oP R:= gb true (Q1 a0 a1) [] fun a=>gb true (a[0]?) oF fun b=>gb true (Nk b) [] fun c=>gb true (M1 n c some) false fun d=>bif !d then K 3 else Rf n a0 a1 (K 5) (fun e f=>K 0) n 0

def Z7 (n:Nat) (b:LL) (k0:Int->Bool->LL->oP R):Nat->Int->LL->oP R
 | 0,_,_=>none
 | m+1,a,c=>bif (decide (a<(b.length:Int))) then gb true (Q1 b a) [] fun e=>gb true (e[0]?) oF fun f=>gb true (Nk f) [] fun d=>gb true (Ym ((c.length+[[D.str d]].length)*16)) () fun g=>Z7 n b k0 m (wJ (a+1)) (c++[[D.str d]]) else k0 a (decide (a<(b.length:Int))) c
def H7 (n:Nat) (c d a e:LL) (K:LL->oP R):oP R:= Z7 n a (fun f g b=>K b) n 0 []

def KG (n:Nat) (a0 a1 a2:Int) (K:Bool->oP R):oP R:= K (bif decide (a0>=a1) then (decide (a0<=a2)) else false)

def CT (n:Nat) (c d e f g h a b:Int) (K:Bool->oP R):oP R:= K (bif (bif (c == a) then (d == b) else false) then true else (bif (e == a) then (f == b) else false))

def PC (n:Nat) (d:Int) (e:LL) (f g:Int) (k0:Int->Int->Bool->D->D->D->D->D->D->oP R):Nat->Int->Int->D->D->D->D->D->D->oP R
 | 0,_,_,_,_,_,_,_,_=>none
 | m+1,h,a,i,j,k,l,o,p=>bif decide (a<d) then gb true (Q1 e a) [] fun b=>gb true (b[0]?) oF fun q=>gb true (b[1]?) oF fun r=>gb true (b[2]?) oF fun s=>gb true (b[3]?) oF fun t=>gb true (b[4]?) oF fun u=>gb true (b[5]?) oF fun v=>gb true (pIw q) 0 fun x=>gb true (pIw r) 0 fun y=>gb true (pIw s) 0 fun z=>gb true (pIw t) 0 fun aa=>gb true (pIw u) 0 fun ab=>gb true (pIw v) 0 fun ac=>gb true (CT n x y z aa ab ac f g some) false fun ad=>bif ad then gb true (Q1 e a) [] fun c=>gb true (c[0]?) oF fun ae=>gb true (c[1]?) oF fun ag=>gb true (c[2]?) oF fun ah=>gb true (c[3]?) oF fun ai=>gb true (c[4]?) oF fun aj=>gb true (c[5]?) oF fun ak=>PC n d e f g k0 m (wJ (h+1)) (wJ (a+1)) ae ag ah ai aj ak else PC n d e f g k0 m h (wJ (a+1)) i j k l o p else k0 h a (decide (a<d)) i j k l o p
def Bu (n:Nat) (p q r f:LL) (a1 h i:Int) (K:Bool->oP R):oP R:= gb true (Q1 f a1) [] fun b=>gb true (b[0]?) oF fun s=>gb true (b[1]?) oF fun t=>gb true (b[2]?) oF fun u=>gb true (b[3]?) oF fun v=>gb true (b[4]?) oF fun g=>gb true (b[5]?) oF fun j=>PC n a1 f h i (fun a x y z aa ab ac k l=>gb ((!(a == 0))&&(a == 1)) (pIw g) 0 fun c=>gb ((!(a == 0))&&(bif (a == 1) then (decide (c>=0)) else false)) (pIw k) 0 fun d=>gb ((!(a == 0))&&(bif (a == 1) then (decide (c>=0)) else false)) (pIw g) 0 fun e=>gb ((!(a == 0))&&(bif (bif (a == 1) then (decide (c>=0)) else false) then (d == e) else false)) (pIw l) 0 fun m=>gb ((!(a == 0))&&(bif (bif (a == 1) then (decide (c>=0)) else false) then (d == e) else false)) (pIw j) 0 fun o=>K (bif (a == 0) then true else (bif (bif (bif (a == 1) then (decide (c>=0)) else false) then (d == e) else false) then (m != o) else false))) n 0 0 (Q4 0) (Q4 0) (Q4 0) (Q4 0) (Q4 0) (Q4 0)

def H5 (n:Nat) (e:Int) (f:LL) (g h i j:Int) (k0:oP R) (k1:Int->Bool->oP R):Nat->Int->oP R
 | 0,_=>none
 | m+1,b=>bif decide (b<e) then gb true (Q1 f b) [] fun c=>gb true (c[0]?) oF fun k=>gb true (c[1]?) oF fun l=>gb true (c[2]?) oF fun o=>gb true (c[3]?) oF fun p=>gb true (c[4]?) oF fun q=>gb true (c[5]?) oF fun r=>gb true (pIw k) 0 fun s=>gb true (pIw l) 0 fun t=>gb true (pIw o) 0 fun u=>gb true (pIw p) 0 fun v=>gb true (pIw q) 0 fun x=>gb true (pIw r) 0 fun y=>gb true (CT n s t u v x y g h some) false fun a=>gb a (Q1 f b) [] fun d=>gb a (d[0]?) oF fun z=>gb a (d[1]?) oF fun aa=>gb a (d[2]?) oF fun ab=>gb a (d[3]?) oF fun ac=>gb a (d[4]?) oF fun ad=>gb a (d[5]?) oF fun ae=>gb a (pIw z) 0 fun ag=>gb a (pIw aa) 0 fun ah=>gb a (pIw ab) 0 fun ai=>gb a (pIw ac) 0 fun aj=>gb a (pIw ad) 0 fun ak=>gb a (pIw ae) 0 fun al=>gb a (CT n ag ah ai aj ak al i j some) false fun am=>bif (bif a then am else false) then k0 else H5 n e f g h i j k0 k1 m (wJ (b+1)) else k1 b (decide (b<e))
def JX (n:Nat) (p i g h:LL) (a1:Int) (K:Int->oP R):oP R:= gb true (Q1 h a1) [] fun e=>gb true (e[0]?) oF fun q=>gb true (e[1]?) oF fun r=>gb true (e[2]?) oF fun s=>gb true (e[3]?) oF fun t=>gb true (e[4]?) oF fun u=>gb true (e[5]?) oF fun v=>gb true (pIw q) 0 fun z=>gb true (KG n z 0 (wJ ((g.length:Int)-1)) some) false fun a=>gb (!(!a)) (pIw s) 0 fun aa=>gb (!(!a)) (KG n aa 0 (wJ ((g.length:Int)-1)) some) false fun b=>gb (!(bif !a then true else (!b))) (pIw r) 0 fun ab=>gb (!(bif !a then true else (!b))) (KG n ab 0 1 some) false fun c=>gb (!(bif (bif !a then true else (!b)) then true else (!c))) (pIw t) 0 fun ac=>gb (!(bif (bif !a then true else (!b)) then true else (!c))) (KG n ac 0 1 some) false fun d=>gb (!(bif (bif (bif !a then true else (!b)) then true else (!c)) then true else (!d))) (pIw u) 0 fun ad=>gb (!(bif (bif (bif !a then true else (!b)) then true else (!c)) then true else (!d))) (KG n ad (-1:Int) (wJ ((i.length:Int)-1)) some) false fun f=>gb (!(bif (bif (bif (bif !a then true else (!b)) then true else (!c)) then true else (!d)) then true else (!f))) (pIw v) 0 fun ae=>gb (!(bif (bif (bif (bif !a then true else (!b)) then true else (!c)) then true else (!d)) then true else (!f))) (KG n ae 0 1 some) false fun j=>gb (!(bif (bif (bif (bif (bif !a then true else (!b)) then true else (!c)) then true else (!d)) then true else (!f)) then true else (!j))) (pIw u) 0 fun x=>gb ((!(bif (bif (bif (bif (bif !a then true else (!b)) then true else (!c)) then true else (!d)) then true else (!f)) then true else (!j)))&&(decide (x<0))) (pIw v) 0 fun ag=>bif (bif (bif (bif (bif (bif (bif !a then true else (!b)) then true else (!c)) then true else (!d)) then true else (!f)) then true else (!j)) then true else (bif decide (x<0) then (ag != 0) else false)) then K 4 else gb true (pIw q) 0 fun k=>gb true (pIw r) 0 fun l=>gb true (pIw s) 0 fun m=>gb true (pIw t) 0 fun o=>bif ((k == m)&&(l == o)) then K 1 else H5 n a1 h k l m o (K 5) (fun ai aj=>gb true (Bu n p i g h a1 k l some) false fun y=>gb (!(!y)) (Bu n p i g h a1 m o some) false fun ah=>bif (bif !y then true else (!ah)) then K 11 else K 0) n 0

def Ra (n:Nat) (h2:LL) (k0:Int->oP R) (k1:Int->Bool->oP R):Nat->Int->oP R
 | 0,_=>none
 | m+1,a=>bif (decide (a<(h2.length:Int))) then gb true (Mp n h2 a some) 0 fun b=>bif (b != 0) then k0 b else Ra n h2 k0 k1 m (wJ (a+1)) else k1 a (decide (a<(h2.length:Int)))
def Ri (n:Nat) (b:LL) (k0:Int->oP R) (k1:Int->Bool->oP R):Nat->Int->oP R
 | 0,_=>none
 | m+1,a=>bif (decide (a<(b.length:Int))) then gb true (Mp n b a some) 0 fun c=>bif (c != 0) then k0 c else Ri n b k0 k1 m (wJ (a+1)) else k1 a (decide (a<(b.length:Int)))
def Jw (n:Nat) (g h e:LL) (k0:Int->oP R) (k1:Int->Bool->oP R):Nat->Int->oP R
 | 0,_=>none
 | m+1,b=>bif (decide (b<(e.length:Int))) then gb true (Mp n g b some) 0 fun i=>bif (i != 0) then k0 i else gb true (Q1 e b) [] fun c=>gb true (c[0]?) oF fun u=>gb true (c[1]?) oF fun j=>gb true (c[2]?) oF fun k=>gb true (c[3]?) oF fun l=>gb true (c[4]?) oF fun o=>gb true (pIw j) 0 fun p=>gb true (KG n p 1 400 some) false fun a=>gb (!(!a)) (pIw k) 0 fun q=>gb (!(!a)) (KG n q 1000 100000 some) false fun d=>gb (!(bif !a then true else (!d))) (pIw l) 0 fun r=>gb (!(bif !a then true else (!d))) (KG n r (-40:Int) 40 some) false fun f=>gb (!(bif (bif !a then true else (!d)) then true else (!f))) (pIw o) 0 fun s=>gb (!(bif (bif !a then true else (!d)) then true else (!f))) (KG n s (-1:Int) (wJ ((h.length:Int)-1)) some) false fun t=>bif (bif (bif (bif !a then true else (!d)) then true else (!f)) then true else (!t)) then k0 4 else Jw n g h e k0 k1 m (wJ (b+1)) else k1 b (decide (b<(e.length:Int)))
def Jo (n:Nat) (c d e b:LL) (k0:Int->oP R) (k1:Int->Bool->oP R):Nat->Int->oP R
 | 0,_=>none
 | m+1,a=>bif (decide (a<(b.length:Int))) then gb true (JX n c d e b a some) 0 fun f=>bif (f != 0) then k0 f else Jo n c d e b k0 k1 m (wJ (a+1)) else k1 a (decide (a<(b.length:Int)))
def Gh (n:Nat) (a c b d:LL) (K:Int->oP R):oP R:= bif (bif (bif (bif (decide ((a.length:Int)>24)) then true else (decide ((c.length:Int)>48))) then true else (decide ((b.length:Int)>96))) then true else (decide ((d.length:Int)>192))) then K 7 else bif ((b.length:Int) == 0) then K 1 else Ra n a (fun e=>K e) (fun j k=>Ri n c (fun f=>K f) (fun l m=>gb true (H7 n a c b d some) [] fun g=>Jw n g a b (fun h=>K h) (fun o p=>Jo n a c b d (fun i=>K i) (fun q r=>K 0) n 0) n 0) n 0) n 0

def HU (n:Nat) (a0 a1 a2:Int) (K:Bool->oP R):oP R:= K (bif decide (a0>=a1) then (decide (a0<=a2)) else false)

def ZB (n:Nat) (c:LL) (b d:Int) (k0:Int->Bool->LL->oP R):Nat->Int->LL->oP R
 | 0,_,_=>none
 | m+1,h2,a=>bif (decide (h2<(c.length:Int))) then gb true (Q1 c h2) [] fun e=>gb true (e[0]?) oF fun i=>gb true (e[1]?) oF fun j=>gb true (e[2]?) oF fun k=>gb true (e[3]?) oF fun l=>gb true (e[4]?) oF fun g=>gb true (e[5]?) oF fun h=>jn (fun (f aa:Int)=>bif decide (f>=0) then bif (aa == 1) then gb true (pIw g) 0 fun o=>gb true (pIw h) 0 fun p=>gb true (Ym ((a.length+[[Q4 f,Q4 1,Q4 o,Q4 p]].length)*32)) () fun ai=>ZB n c b d k0 m (wJ (h2+1)) (a++[[Q4 f,Q4 1,Q4 o,Q4 p]]) else gb true (pIw g) 0 fun q=>gb true (pIw h) 0 fun r=>gb true (Ym ((a.length+[[Q4 f,Q4 0,Q4 q,Q4 r]].length)*32)) () fun aj=>ZB n c b d k0 m (wJ (h2+1)) (a++[[Q4 f,Q4 0,Q4 q,Q4 r]]) else ZB n c b d k0 m (wJ (h2+1)) a) fun s=>gb true (pIw i) 0 fun t=>gb (t == b) (pIw j) 0 fun ab=>bif (bif (t == b) then (ab == d) else false) then gb true (pIw k) 0 fun ac=>gb true (pIw l) 0 fun ad=>s ac ad else gb true (pIw k) 0 fun u=>gb (u == b) (pIw l) 0 fun ae=>bif (bif (u == b) then (ae == d) else false) then gb true (pIw i) 0 fun ag=>gb true (pIw j) 0 fun ah=>s ag ah else bif (decide ((-1:Int)>=0)) then bif (0 == 1) then gb true (pIw g) 0 fun v=>gb true (pIw h) 0 fun x=>gb true (Ym ((a.length+[[Q4 (-1:Int),Q4 1,Q4 v,Q4 x]].length)*32)) () fun ak=>ZB n c b d k0 m (wJ (h2+1)) (a++[[Q4 (-1:Int),Q4 1,Q4 v,Q4 x]]) else gb true (pIw g) 0 fun y=>gb true (pIw h) 0 fun z=>gb true (Ym ((a.length+[[Q4 (-1:Int),Q4 0,Q4 y,Q4 z]].length)*32)) () fun al=>ZB n c b d k0 m (wJ (h2+1)) (a++[[Q4 (-1:Int),Q4 0,Q4 y,Q4 z]]) else ZB n c b d k0 m (wJ (h2+1)) a else k0 h2 (decide (h2<(c.length:Int))) a
def BQ (n:Nat) (f g h a:LL) (b c:Int) (K:LL->oP R):oP R:= bif (c == 1) then ZB n a b 0 (fun i j d=>K d) n 0 [] else ZB n a b 1 (fun k l e=>K e) n 0 []

def PZ (n:Nat) (h2:LL) (c d:Int) (k0:D->D->D->D->oP R) (k1:Int->Bool->oP R):Nat->Int->oP R
 | 0,_=>none
 | m+1,a=>bif (decide (a<(h2.length:Int))) then gb true (Q1 h2 a) [] fun e=>gb true (e[0]?) oF fun f=>gb true (e[1]?) oF fun g=>gb true (pIw f) 0 fun h=>gb true (pIw g) 0 fun i=>bif ((h == c)&&(i == d)) then gb true (Q1 h2 a) [] fun b=>gb true (b[0]?) oF fun j=>gb true (b[1]?) oF fun k=>gb true (b[2]?) oF fun l=>gb true (b[3]?) oF fun o=>k0 j k l o else PZ n h2 c d k0 k1 m (wJ (a+1)) else k1 a (decide (a<(h2.length:Int)))
def G4 (n:Nat) (a b c d:LL) (e f g h:Int) (K:D->D->D->D->Bool->oP R):oP R:= gb true (BQ n a b c d e f some) [] fun i=>PZ n i g h (fun j k l m=>K j k l m true) (fun o p=>K (Q4 0) (Q4 0) (Q4 0) (Q4 0) false) n 0

def Z4 (n:Nat) (c a:LL) (k0:oP R) (k1:Int->Bool->oP R):Nat->Int->oP R
 | 0,_=>none
 | m+1,h2=>bif (decide (h2<(a.length:Int))) then gb true (Q1 a h2) [] fun d=>gb true (d[0]?) oF fun e=>gb true (pIw e) 0 fun f=>gb true (HU n f 0 (wJ ((c.length:Int)-1)) some) false fun b=>gb (!(!b)) (Q1 a h2) [] fun g=>gb (!(!b)) (g[1]?) oF fun h=>gb (!(!b)) (pIw h) 0 fun i=>gb (!(!b)) (HU n i 0 1 some) false fun j=>bif (bif !b then true else (!j)) then k0 else Z4 n c a k0 k1 m (wJ (h2+1)) else k1 h2 (decide (h2<(a.length:Int)))
def Ka (n:Nat) (b:Int) (c:LL) (k0:oP R) (k1:Int->Bool->oP R):Nat->Int->oP R
 | 0,_=>none
 | m+1,a=>bif decide (a<b) then gb true (Q1 c a) [] fun d=>gb true (d[0]?) oF fun e=>gb true (pIw e) 0 fun f=>gb true (Q1 c b) [] fun g=>gb true (g[0]?) oF fun h=>gb true (pIw h) 0 fun i=>bif (f == i) then k0 else Ka n b c k0 k1 m (wJ (a+1)) else k1 a (decide (a<b))
def Ja (n:Nat) (b:LL) (k0:oP R) (k1:Int->Bool->oP R):Nat->Int->oP R
 | 0,_=>none
 | m+1,a=>bif (decide (a<(b.length:Int))) then Ka n a b (k0) (fun c d=>Ja n b k0 k1 m (wJ (a+1))) n 0 else k1 a (decide (a<(b.length:Int)))
def YX (n:Nat) (c d e f b:LL) (k0:oP R) (k1:Int->Bool->oP R):Nat->Int->oP R
 | 0,_=>none
 | m+1,a=>bif (decide (a<(b.length:Int))) then gb true (Q1 b (wJ (a-1))) [] fun g=>gb true (g[0]?) oF fun i=>gb true (g[1]?) oF fun j=>gb true (Q1 b a) [] fun h=>gb true (h[0]?) oF fun k=>gb true (h[1]?) oF fun l=>gb true (pIw i) 0 fun o=>gb true (pIw j) 0 fun p=>gb true (pIw k) 0 fun q=>gb true (pIw l) 0 fun r=>gb true (G4 n c d e f o p q r Tu5) ((.bool false),(.bool false),(.bool false),(.bool false),false) fun y=>bif (!y.2.2.2.2) then k0 else YX n c d e f b k0 k1 m (wJ (a+1)) else k1 a (decide (a<(b.length:Int)))
def Ji (n:Nat) (d e b f a:LL) (c:Int) (K:Int->oP R):oP R:= gb true (Gh n d e b f some) 0 fun g=>bif (g != 0) then K 1 else bif (bif (decide ((a.length:Int)>24)) then true else (decide (c>2))) then K 7 else bif (bif decide (c<0) then true else (decide ((wJ ((a.length:Int)-c))<2))) then K 4 else Z4 n b a (K 4) (fun h i=>Ja n a (K 5) (fun j k=>YX n d e b f a (K 11) (fun l m=>K 0) n 1) n 0) n 0

def Mt (n:Nat) (d e c f:LL) (a b:Int) (K:Bool->oP R):oP R:= gb (bif (bif decide (a>=0) then (decide (a<(c.length:Int))) else false) then (bif (b == 0) then true else (b == 1)) else false) (ZN n d e c f some) 0 fun g=>K (bif (bif (bif decide (a>=0) then (decide (a<(c.length:Int))) else false) then (bif (b == 0) then true else (b == 1)) else false) then (g == 0) else false)

def M0 (n:Nat) (a b:Int) (K:Int->Int->oP R):oP R:= bif (b == 0) then K a 0 else K a 1

def WE (n:Nat) (j:LL) (e f g:Int) (k0:Int->Bool->LL->oP R):Nat->Int->LL->oP R
 | 0,_,_=>none
 | m+1,b,c=>bif decide (b<e) then gb true (Q1 j b) [] fun d=>gb true (d[0]?) oF fun u=>gb true (d[1]?) oF fun v=>gb true (d[2]?) oF fun x=>gb true (d[3]?) oF fun y=>gb true (d[4]?) oF fun o=>gb true (d[5]?) oF fun p=>gb true (pIw u) 0 fun z=>gb true (pIw v) 0 fun aa=>gb true (pIw x) 0 fun ab=>gb true (pIw y) 0 fun ac=>gb true (pIw o) 0 fun ad=>gb true (pIw p) 0 fun ae=>gb true (LW n z aa ab ac ad ae Tu4) (0,0,0,0) fun a=>bif ((f == a.1)&&(g == a.2.1)) then gb true (M0 n a.2.2.1 a.2.2.2 Tu2) (0,0) fun k=>gb true (pIw o) 0 fun q=>gb true (pIw p) 0 fun r=>gb true (Ym ((c.length+[[Q4 k.1,Q4 k.2,Q4 q,Q4 r]].length)*32)) () fun ai=>WE n j e f g k0 m (wJ (b+1)) (c++[[Q4 k.1,Q4 k.2,Q4 q,Q4 r]]) else bif ((f == a.2.2.1)&&(g == a.2.2.2)) then gb true (M0 n a.1 a.2.1 Tu2) (0,0) fun l=>gb true (pIw o) 0 fun s=>gb true (pIw p) 0 fun t=>gb true (Ym ((c.length+[[Q4 l.1,Q4 l.2,Q4 s,Q4 t]].length)*32)) () fun aj=>WE n j e f g k0 m (wJ (b+1)) (c++[[Q4 l.1,Q4 l.2,Q4 s,Q4 t]]) else WE n j e f g k0 m (wJ (b+1)) c else k0 b (decide (b<e)) c
def LD (n:Nat) (d e f a:LL) (b c:Int) (K:LL->oP R):oP R:= gb true (Mt n d e f a b c some) false fun g=>bif !g then K [] else bif (c == 1) then WE n a (a.length:Int) b 0 (fun j k h=>K h) n 0 [] else WE n a (a.length:Int) b 1 (fun l m i=>K i) n 0 []

def ZS (n:Nat) (h2:LL) (c d e:Int) (k0:Int->oP R) (k1:Int->Bool->oP R):Nat->Int->oP R
 | 0,_=>none
 | m+1,a=>bif decide (a<c) then gb true (Q1 h2 a) [] fun b=>gb true (b[0]?) oF fun f=>gb true (b[1]?) oF fun g=>gb true (b[2]?) oF fun h=>gb true (b[3]?) oF fun l=>gb true (pIw f) 0 fun i=>gb true (pIw g) 0 fun j=>bif ((i == d)&&(j == e)) then gb true (pIw h) 0 fun k=>k0 k else ZS n h2 c d e k0 k1 m (wJ (a+1)) else k1 a (decide (a<c))
def ZH (n:Nat) (b c d e:LL) (f g h i:Int) (K:Int->oP R):oP R:= gb true (LD n b c d e f g some) [] fun a=>ZS n a (a.length:Int) h i (fun j=>K j) (fun k l=>K (-1:Int)) n 0

end Go.Vx
namespace Go.Vx
theorem DL.at {k:Nat}:∀ {s s':LL},DL k s s'->∀ i:Nat,(s[i]? = none/\s'[i]? = none)\/∃ nm a b c a' b' c' d,s[i]? = some [D.str nm,Q4 a,Q4 b,Q4 c,Q4 d]/\s'[i]? = some [D.str nm,Q4 a',Q4 b',Q4 c',Q4 d]/\NumOk a b c d k/\NumOk a' b' c' d k
 |[],[],_,i=>.inl ⟨by simp,by simp⟩
 |r::s,r'::s',h,0=>by
  obtain ⟨⟨nm,a,b,c,a',b',c',d,e,h2,f,g⟩,_⟩:=h;exact .inr ⟨nm,a,b,c,a',b',c',d,by simp [e],by simp [h2],f,g⟩
 |r::s,r'::s',h,i+1=>by
  have:=DL.at h.2 i;simpa using this
theorem DL.row {k:Nat} {s s':LL} (h:DL k s s') (i:Int):(Q1 s i=none/\Q1 s' i=none)\/∃ nm a b c a' b' c' d,Q1 s i=some [D.str nm,Q4 a,Q4 b,Q4 c,Q4 d]/\Q1 s' i=some [D.str nm,Q4 a',Q4 b',Q4 c',Q4 d]/\NumOk a b c d k/\NumOk a' b' c' d k:=by
 unfold Q1;cases decide ((0:Int)<=i)
 ·exact .inl ⟨rfl,rfl⟩
 ·exact h.at i.toNat
theorem gbN {α R:Type} {z:α} {k:α->oP R}:gb true none z k=none:=rfl
theorem inT {R:Type} {n:Nat} {x lo hi:Int} (a:lo<=x) (b:x<=hi) (K:Bool->oP R):KG n x lo hi K=K true:=by
 unfold KG;rw [show decide (x>=lo)=true by simpa using a,show decide (x<=hi)=true by simpa using b];rfl
section
variable {R:Type} {n k:Nat} {s s' St Pt Li:LL} (h:DL k s s')
include h
theorem Q6n {k0:Int->Bool->LL->oP R}:∀ (m:Nat) (i:Int) (acc:LL),Z7 n s k0 m i acc=Z7 n s' k0 m i acc
 |0,_,_=>rfl
 |m+1,i,acc=>by
  unfold Z7;rcases h.row i with ⟨e,e'⟩ | ⟨nm,a,b,c,a',b',c',d,e,e',_,_⟩
  ·simp only [e,e',h.len,gbN]
  ·rw [e,e',h.len];simp only [Q6n m];rfl
theorem QcF {ac:LL} (hk:St.length=k) (f:k<=100) {k0:Int->oP R} {k1:Int->Bool->oP R}:∀ (m:Nat) (i:Int),Jw n ac St s k0 k1 m i=Jw n ac St s' k0 k1 m i
 |0,_=>rfl
 |m+1,i=>by
  unfold Jw;rcases h.row i with ⟨e,e'⟩ | ⟨nm,a,b,c,a',b',c',d,e,e',g,g'⟩
  ·simp only [e,e',h.len,gbN,QcF hk f m]
  ·rw [e,e',h.len];obtain ⟨j,l,h2,o,p,q,x,y⟩:=g;obtain ⟨g0,g1,r,t,u,v,z,g7⟩:=g';simp -implicitDefEqProofs only [Q0,List.getElem?_cons_zero,List.getElem?_cons_succ,Q2,inT j l,inT h2 o,inT p q,inT g0 g1,inT r t,inT u v,QcF hk f m]
theorem Qed {k0:Int->oP R} {k1:Int->Bool->oP R}:∀ (m:Nat) (i:Int),Jo n St Pt s Li k0 k1 m i=Jo n St Pt s' Li k0 k1 m i
 |0,_=>rfl
 |m+1,i=>by
  unfold Jo;have e:∀ j,JX n St Pt s Li j (some:Int->Option Int)=JX n St Pt s' Li j some:=by
   intro j;unfold JX;rw [h.len];rfl
  simp only [e,Qed m]
theorem Qcb (hk:St.length=k) (a:k<=100) (K:Int->oP R):Gh n St Pt s Li K=Gh n St Pt s' Li K:=by
 unfold Gh H7;rw [h.len];simp only [Q6n h,QcF h hk a,Qed h]
end
def Qab (St Pt Se Li:LL):Bool:=Q80 (Gh 400 St Pt Se Li some)
theorem ro2 {c0 c1 a:Nat} (b:c0=1\/c0=2) (c:c1=1\/c1=2) (h2:a=1\/a=2):Qab [nmS 0,nmS 1] (pt2 c0 c1) (se2 c0 c1 a (hat c0) (hat c1) (hat a)) (li2 c0 c1 a)=true:=by
 rcases b with rfl | rfl <;> rcases c with rfl | rfl <;> rcases h2 with rfl | rfl <;> kernel_rfl
theorem ro3 {c0 c1 a b c:Nat} (d:c0=1\/c0=2) (e:c1=1\/c1=2) (h2:a=1\/a=2) (f:b=1\/b=2) (g:c=1\/c=2):Qab [nmS 0,nmS 1,nmS 2] (pt3 c0 c1 a) (se3 c0 c1 a b c (hat c0) (hat c1) (hat a) (hat b) (hat c)) (li3 c0 c1 a b c)=true:=by
 rcases d with rfl | rfl <;> rcases e with rfl | rfl <;> rcases h2 with rfl | rfl <;> rcases f with rfl | rfl <;> rcases g with rfl | rfl <;> kernel_rfl
theorem Q4w {St Pt L L' Li:LL} (h:DL St.length L L') (h2:St.length<=100):Qab St Pt L Li=Qab St Pt L' Li:=by
 unfold Qab;rw [Qcb h rfl h2]
theorem Qig {c0 c1 a:Nat} {b c d:List Ns} (e:c0=1\/c0=2) (f:c1=1\/c1=2) (h2:a=1\/a=2) (g:Hk b) (h:Hk c) (i:Hk d) (j:b.length=c0) (e1:c.length=c1) (e2:d.length=a) :
  Qab [nmS 0,nmS 1] (pt2 c0 c1) (se2 c0 c1 a b c d) (li2 c0 c1 a)=true:=by
 rw [<- ro2 e f h2];exact Q4w (sr2 g h i j e1 e2) (by decide)
theorem Qi6 {c0 c1 a b c:Nat} {d e f g h:List Ns} (i:c0=1\/c0=2) (j:c1=1\/c1=2) (h2:a=1\/a=2) (k:b=1\/b=2) (l:c=1\/c=2) (m:Hk d) (n:Hk e) (o:Hk f) (n3:Hk g) (p:Hk h) (q:d.length=c0) (e1:e.length=c1) (e2:f.length=a) (r:g.length=b) (s:h.length=c) :
  Qab [nmS 0,nmS 1,nmS 2] (pt3 c0 c1 a) (se3 c0 c1 a b c d e f g h) (li3 c0 c1 a b c)=true:=by
 rw [<- ro3 i j h2 k l];exact Q4w (sr3 m n o n3 p q e1 e2 r s) (by decide)
def QcS (St Pt L d s:LL):Option Int:=
 Z4 400 L s (some 4) (fun _ _=>Ja 400 s (some 5) (fun _ _=>YX 400 St Pt L d s (some 11) (fun _ _=>some 0) 400 (1:Int)) 400 (0:Int)) 400 (0:Int)
def QfL (N:Nat) (Li s:LL):Bool:=Q80 (QcS [] [] (List.replicate N []) Li s)
section
variable {R:Type} {n:Nat} {a b a' b' L L' d s:LL} (h:L.length=L'.length)
include h
theorem Qex {k0:oP R} {k1:Int->Bool->oP R}:∀ (m:Nat) (i:Int),Z4 n L s k0 k1 m i=Z4 n L' s k0 k1 m i
 |0,_=>rfl
 |m+1,i=>by
  unfold Z4;simp only [h,Qex m]
omit h in
theorem QhH {x y z t:Int} {K:D->D->D->D->Bool->oP R}:G4 n a b L d x y z t K=G4 n a' b' L' d x y z t K:=rfl
omit h in
theorem Qfq {k0:oP R} {k1:Int->Bool->oP R}:∀ (m:Nat) (i:Int),YX n a b L d s k0 k1 m i=YX n a' b' L' d s k0 k1 m i
 |0,_=>rfl
 |m+1,i=>by
  unfold YX;simp only [QhH (a:=a) (b:=b) (L:=L) (a':=a') (b':=b') (L':=L'),Qfq m]
end
theorem Q4x {St Pt Se Li s:LL} {N:Nat} (ac:Qab St Pt Se Li=true) (hN:Se.length=N) (h2:2<=s.length) (c:s.length<=24) (hr:QfL N Li s=true):Ji 400 St Pt Se Li s 0 (some:Int->Option Int)=some 0:=by
 have hL:Se.length=(List.replicate N ([]:List D)).length:=by simp [hN]
 unfold Ji;rw [Jg ac,Q0,Q8 (by decide),Q8 (by rw [show decide (((List.length s:Nat):Int)>24)=false by simp;omega];rfl),Q8 (by rw [Q6 (by omega) (by omega),show decide (((List.length s:Nat):Int)-0<2)=false by simp;omega];rfl)];simp only [Qex hL,Qfq (a:=St) (b:=Pt) (L:=Se) (a':=[]) (b':=[]) (L':=List.replicate N [])];exact Jg hr
def QdK (Li:LL) (r r':List D):Option Int:=match r,r' with
 |[.int _ x,.int _ d],[.int _ y,.int _ e]=>gb true (bif (d == (1:Int)) then WE 400 Li ((List.length Li:Nat):Int) x (0:Int) (fun _ _ w=>some w) 400 (0:Int) [] else WE 400 Li ((List.length Li:Nat):Int) x (1:Int) (fun _ _ w=>some w) 400 (0:Int) []) [] fun a=>
  ZS 400 a ((List.length a:Nat):Int) y e some (fun _ _=>some (-1)) 400 (0:Int)
 |_,_=>none
def ptR (St Pt Se Li:LL) (r r':List D):Option Int:=match r,r' with
 |[.int _ x,.int _ d],[.int _ y,.int _ e]=>match G4 400 St Pt Se Li x d y e Tu5 with
  |some (_,_,.int .i64 q,_,true)=>some q
  |_=>none
 |_,_=>none
def pv:Option Int->Int
 |some p=>p
 |none => -1
def Q0c (N NP:Nat) (Li:LL):Nat->LL->Bool
 |k,r::r'::t=>match QdK Li r r',ptR [] [] (List.replicate N []) Li r r' with
  |some p,some q=>(p == q)&&(decide (-1<=p)&&(decide (p<NP)&&Q0c N NP Li (bif decide (p<0) then k+1 else k+2) (r'::t)))
  |_,_=>false
 |k,_=>Nat.ble k 5
def Qcu (N NP:Nat) (Li s:LL):Bool:=QfL N Li s&&Q0c N NP Li 0 s
def Q4C (N NP:Nat) (Li:LL) (s u k c k' c':Nat):Bool:=
 (ups k c).all fun x=>(ups k' c').all fun y=>Qcu N NP Li (KZ s u x y true)&&Qcu N NP Li (KZ s u x y false)
theorem QgC {c0 c1 a:Nat} (b:c0=1\/c0=2) (c:c1=1\/c1=2) (h2:a=1\/a=2):Q4C (c0+c1+a) (pt2 c0 c1).length (li2 c0 c1 a) (c0+c1) a 0 c0 c0 c1=true:=by
 rcases b with rfl | rfl <;> rcases c with rfl | rfl <;> rcases h2 with rfl | rfl <;> kernel_rfl
theorem Qgg {c0 c1 a b c:Nat} (d:c0=1\/c0=2) (e:c1=1\/c1=2) (h2:a=1\/a=2) (f:b=1\/b=2) (g:c=1\/c=2) :
  (Q4C (c0+c1+a+b+c) (pt3 c0 c1 a).length (li3 c0 c1 a b c) (c0+c1+a) b 0 c0 c0 c1&&Q4C (c0+c1+a+b+c) (pt3 c0 c1 a).length (li3 c0 c1 a b c) (c0+c1+a+b) c c0 c1 (c0+c1) a)=true:=by
 rcases d with rfl | rfl <;> rcases e with rfl | rfl <;> rcases h2 with rfl | rfl <;> rcases f with rfl | rfl <;> rcases g with rfl | rfl <;> kernel_rfl
theorem Qca {St Pt Se Li:LL} (ac:P2 400 St Pt Se Li=true) {x d y e:Int} (a:0<=x) (b:x<Se.length) (hd:d=0\/d=1):ZH 400 St Pt Se Li x d y e (some:Int->Option Int)=QdK Li [Q4 x,Q4 d] [Q4 y,Q4 e]:=by
 have hc:ZN 400 St Pt Se Li (some:Int->Option Int)=some 0:=by unfold ZN;rw [ac];rfl
 have hh:Mt 400 St Pt Se Li x d (some:Bool->Option Bool)=some true:=by
  unfold Mt;rw [hc,Q0,show decide (x>=0)=true by simpa using a,show decide (x<((Se.length:Nat):Int))=true by simpa using b];rcases hd with rfl | rfl <;> rfl
 unfold ZH LD QdK;rw [hh,Q0,Q8 (by decide)]
end Go.Vx
namespace Go.Vx
variable {R:Type}
def ZU (n:Nat) (d:LL) (b:Int) (k0:Int->Bool->LL->oP R):Nat->Int->LL->oP R
 | 0,_,_=>none
 | m+1,a,c=>bif decide (a<b) then gb true (Q1 d a) [] fun f=>gb true (f[0]?) oF fun g=>gb true (pIw g) 0 fun e=>gb true (Ym ((c.length+[[Q4 e,Q4 0]].length)*16)) () fun h=>ZU n d b k0 m (wJ (a+1)) (c++[[Q4 e,Q4 0]]) else k0 a (decide (a<b)) c
def Wc (n:Nat) (c:LL) (k0:Int->Bool->LL->oP R):Nat->Int->LL->oP R
 | 0,_,_=>none
 | m+1,a,b=>bif decide (a>=0) then gb true (Q1 c a) [] fun e=>gb true (e[0]?) oF fun f=>gb true (pIw f) 0 fun d=>gb true (Ym ((b.length+[[Q4 d,Q4 1]].length)*16)) () fun g=>Wc n c k0 m (wJ (a-1)) (b++[[Q4 d,Q4 1]]) else k0 a (decide (a>=0)) b
def YO (n:Nat) (a c:LL) (a1 a2 d:Int) (p:Bool) (K:LL->Int->oP R):oP R:= gb true (inB (c.length) a1) () fun u1=>gb true (c[a1.toNat]?) [] fun q=>gb true (q[0]?) oF fun r=>gb true (pSl 1 r) [] fun b=>bif p then gb true (inB (a.length) a1) () fun u5=>gb true (a[a1.toNat]?) [] fun r6=>gb true (r6[0]?) oF fun s=>gb true (pSl 1 s) [] fun t=>gb true (inB (a.length) a1) () fun u9=>gb true (a[a1.toNat]?) [] fun u=>gb true (u[0]?) oF fun v=>gb true (pSl 1 v) [] fun e=>gb true (nz (e.length:Int)) () fun ba=>gb true (Q1 t (Int.tmod a2 (e.length:Int))) [] fun x=>gb true (x[0]?) oF fun y=>gb true (pIw y) 0 fun f=>gb true (Ym ([[Q4 f,Q4 0]].length*16)) () fun bb=>ZU n b (b.length:Int) (fun bc bd g=>gb true (inB (a.length) (wJ (a1+1))) () fun be=>gb true (a[(Int.toNat (wJ (a1+1)))]?) [] fun z=>gb true (z[0]?) oF fun aa=>gb true (pSl 1 aa) [] fun ab=>gb true (inB (a.length) (wJ (a1+1))) () fun bg=>gb true (a[(Int.toNat (wJ (a1+1)))]?) [] fun ac=>gb true (ac[0]?) oF fun ad=>gb true (pSl 1 ad) [] fun h=>gb true (nz (h.length:Int)) () fun bh=>gb true (Q1 ab (Int.tmod d (h.length:Int))) [] fun ae=>gb true (ae[0]?) oF fun ag=>gb true (pIw ag) 0 fun i=>gb true (Ym ((g.length+[[Q4 i,Q4 0]].length)*16)) () fun bi=>K (g++[[Q4 i,Q4 0]]) 0) n 0 [[Q4 f,Q4 0]] else gb true (inB (a.length) (wJ (a1+1))) () fun bj=>gb true (a[(Int.toNat (wJ (a1+1)))]?) [] fun ah=>gb true (ah[0]?) oF fun ai=>gb true (pSl 1 ai) [] fun aj=>gb true (inB (a.length) (wJ (a1+1))) () fun bk=>gb true (a[(Int.toNat (wJ (a1+1)))]?) [] fun ak=>gb true (ak[0]?) oF fun al=>gb true (pSl 1 al) [] fun j=>gb true (nz (j.length:Int)) () fun bl=>gb true (Q1 aj (Int.tmod d (j.length:Int))) [] fun am=>gb true (am[0]?) oF fun an=>gb true (pIw an) 0 fun k=>gb true (Ym ([[Q4 k,Q4 1]].length*16)) () fun bm=>Wc n b (fun bn bo l=>gb true (inB (a.length) a1) () fun bp=>gb true (a[a1.toNat]?) [] fun ao=>gb true (ao[0]?) oF fun ap=>gb true (pSl 1 ap) [] fun aq=>gb true (inB (a.length) a1) () fun bq=>gb true (a[a1.toNat]?) [] fun ar=>gb true (ar[0]?) oF fun au=>gb true (pSl 1 au) [] fun m=>gb true (nz (m.length:Int)) () fun br=>gb true (Q1 aq (Int.tmod a2 (m.length:Int))) [] fun av=>gb true (av[0]?) oF fun aw=>gb true (pIw aw) 0 fun o=>gb true (Ym ((l.length+[[Q4 o,Q4 1]].length)*16)) () fun bt=>K (l++[[Q4 o,Q4 1]]) 0) n (wJ ((b.length:Int)-1)) [[Q4 k,Q4 1]]
end Go.Vx
namespace Go.Vx
structure Geo where
 N:Nat
 St:LL
 Pt:LL
 Se:LL
 Li:LL
 Tr:LL
 Bt:LL
 k:Nat->Nat
 c:Nat->Nat
 s:Nat->Nat
 u:Nat->Nat
structure Geo.OK (G:Geo):Prop where
 hN:G.N=2\/G.N=3
 st:G.St.length=G.N
 lay:P2 400 G.St G.Pt G.Se G.Li=true
 ref:Qab G.St G.Pt G.Se G.Li=true
 trl:G.Tr.length=G.N
 tr:∀ i,i<G.N->G.Tr[i]? = some [D.sl 1 (Wr (ups (G.k i) (G.c i)))]
 ct:∀ i,i<G.N->G.c i=1\/G.c i=2
 btl:G.Bt.length+1=G.N
 bt:∀ g,g+1<G.N->G.Bt[g]? = some [D.sl 1 (Wr (ups (G.s g) (G.u g)))]
 ut:∀ g,g+1<G.N->G.u g=1\/G.u g=2
 sec:∀ i,i<G.N->∀ x,x<G.c i->∃ nm a b d,Q1 G.Se ((G.k i+x:Nat):Int)=some [D.str nm,Q4 a,Q4 b,Q4 d,Q4 i]/\SecN a b d
 gap:∀ g,g+1<G.N->∀ x,x<G.u g->∃ nm a b d e,Q1 G.Se ((G.s g+x:Nat):Int)=some [D.str nm,Q4 a,Q4 b,Q4 d,Q4 e]/\SecN a b d
 rts:∀ g,g+1<G.N->QbL G.Se.length G.Li (G.s g) (G.u g) (G.k g) (G.c g) (G.k (g+1)) (G.c (g+1))=true
 rt6:∀ g,g+1<G.N->Q4C G.Se.length G.Pt.length G.Li (G.s g) (G.u g) (G.k g) (G.c g) (G.k (g+1)) (G.c (g+1))=true
theorem Q6d {f:Nat->Ns->List D}:∀ {c:Nat} {x:List Ns} {i:Nat},Hk x->x.length=c->i<c->∃ j y,(YU f c x)[i]? = some (f j y)/\Num y.1 y.2.1 y.2.2
 |c+1,a::x,0,h,_,_=>⟨c+1,a,rfl,h.1⟩
 |c+1,a::x,i+1,h,e,hi=>by
  obtain ⟨j,y,b,h2⟩:=Q6d (f:=f) h.2 (by simpa using e) (show i<c by omega);exact ⟨j,y,by simpa [YU] using b,h2⟩
theorem QbA {f:Nat->Ns->List D} {A B:LL} {c k i:Nat} {x:List Ns} (hA:A.length=k) (h:Hk x) (e:x.length=c) (hi:i<c):∃ j y,Q1 ((A++YU f c x)++B) ((k+i:Nat):Int)=some (f j y)/\Num y.1 y.2.1 y.2.2:=by
 obtain ⟨j,y,a,h2⟩:=Q6d (f:=f) h e hi;refine ⟨j,y,?_,h2⟩;unfold Q1;have hd:=Qs (f:=f) e;rw [QU (by simp;omega),Int.toNat_natCast,Qjq (by simp;omega),List.getElem?_append_right (by omega),show k+i-A.length=i by omega,a]
theorem QfH {A B L:LL} {c k i x:Nat} {X:List Ns} (hL:L=(A++YU (secT i) c X)++B) (hA:A.length=k) (h:Hk X) (e:X.length=c) (hi:x<c) :
  ∃ nm a b d,Q1 L ((k+x:Nat):Int)=some [D.str nm,Q4 a,Q4 b,Q4 d,Q4 i]/\SecN a b d:=by
 subst hL;obtain ⟨j,y,g,h2⟩:=QbA (f:=secT i) (B:=B) hA h e hi;exact ⟨_,_,_,_,g,by have:=h2.a0;omega,by have:=h2.a1;omega,h2.b0,h2.b1,h2.c0,h2.c1⟩
theorem QgJ {A B L:LL} {c k i x:Nat} {X:List Ns} (hL:L=(A++YU (secL i) c X)++B) (hA:A.length=k) (h:Hk X) (e:X.length=c) (hi:x<c) :
  ∃ nm a b d e,Q1 L ((k+x:Nat):Int)=some [D.str nm,Q4 a,Q4 b,Q4 d,Q4 e]/\SecN a b d:=by
 subst hL;obtain ⟨j,y,g,h2⟩:=QbA (f:=secL i) (B:=B) hA h e hi;exact ⟨_,_,_,_,_,g,h2.a0,by have:=h2.a1;omega,h2.b0,h2.b1,h2.c0,h2.c1⟩
def Qe8 (c0 c1 a:Nat) (b d e:List Ns):Geo where
 N:=2
 St:=[nmS 0,nmS 1]
 Pt:=pt2 c0 c1
 Se:=se2 c0 c1 a b d e
 Li:=li2 c0 c1 a
 Tr:=[[D.sl 1 (Wr (ups 0 c0))],[D.sl 1 (Wr (ups c0 c1))]]
 Bt:=[[D.sl 1 (Wr (ups (c0+c1) a))]]
 k:=fun | 0=>0 | _=>c0
 c:=fun | 0=>c0 | _=>c1
 s:=fun _=>c0+c1
 u:=fun _=>a
theorem QcL {c0 c1 a:Nat} {b c d:List Ns} (f:c0=1\/c0=2) (h:c1=1\/c1=2) (h2:a=1\/a=2) (j:Hk b) (k:Hk c) (l:Hk d) (e:b.length=c0) (e1:c.length=c1) (e2:d.length=a):(Qe8 c0 c1 a b c d).OK where
 hN:=.inl rfl
 st:=rfl
 lay:=QhP f h h2 j k l e e1 e2
 ref:=Qig f h h2 j k l e e1 e2
 trl:=rfl
 tr:=fun i hi=>match i,hi with
  |0,_=>rfl
  |1,_=>rfl
 ct:=fun i hi=>match i,hi with
  |0,_=>f
  |1,_=>h
 btl:=rfl
 bt:=fun g hg=>match g,hg with
  |0,_=>rfl
 ut:=fun g _=>h2
 sec:=fun i hi=>match i,hi with
  |0,_=>fun x hx=>QfH (A:=[]) (i:=0) (B:=YU (secT 1) c1 c++YU (secL 0) a d) (by simp [Qe8,se2]) rfl j e hx
  |1,_=>fun x hx=>QfH (A:=YU (secT 0) c0 b) (i:=1) (B:=YU (secL 0) a d) rfl (Qs e) k e1 hx
 gap:=fun g hg x hx=>QgJ (A:=YU (secT 0) c0 b++YU (secT 1) c1 c) (i:=0) (B:=[]) (by simp [Qe8,se2]) (by simp [Qe8,Qs e,Qs e1]) l e2 hx
 rts:=fun g hg=>match g,hg with
  |0,_=>by
   have hl:(se2 c0 c1 a b c d).length=c0+c1+a:=by simp [se2,Qs e,Qs e1,Qs e2];omega
   show QbL (se2 c0 c1 a b c d).length (li2 c0 c1 a) (c0+c1) a 0 c0 c0 c1=true;rw [hl];exact QhY f h h2
 rt6:=fun g hg=>match g,hg with
  |0,_=>by
   have hl:(se2 c0 c1 a b c d).length=c0+c1+a:=by simp [se2,Qs e,Qs e1,Qs e2];omega
   show Q4C (se2 c0 c1 a b c d).length (pt2 c0 c1).length (li2 c0 c1 a) (c0+c1) a 0 c0 c0 c1=true;rw [hl];exact QgC f h h2
def Qac (c0 c1 a b d:Nat) (e f g h i:List Ns):Geo where
 N:=3
 St:=[nmS 0,nmS 1,nmS 2]
 Pt:=pt3 c0 c1 a
 Se:=se3 c0 c1 a b d e f g h i
 Li:=li3 c0 c1 a b d
 Tr:=[[D.sl 1 (Wr (ups 0 c0))],[D.sl 1 (Wr (ups c0 c1))],[D.sl 1 (Wr (ups (c0+c1) a))]]
 Bt:=[[D.sl 1 (Wr (ups (c0+c1+a) b))],[D.sl 1 (Wr (ups (c0+c1+a+b) d))]]
 k:=fun | 0=>0 | 1=>c0 | _=>c0+c1
 c:=fun | 0=>c0 | 1=>c1 | _=>a
 s:=fun | 0=>c0+c1+a | _=>c0+c1+a+b
 u:=fun | 0=>b | _=>d
theorem QdC {c0 c1 a b c:Nat} {d e f h j:List Ns} (n:c0=1\/c0=2) (o:c1=1\/c1=2) (h2:a=1\/a=2) (p:b=1\/b=2) (q:c=1\/c=2) (s:Hk d) (t:Hk e) (u:Hk f) (n3:Hk h) (v:Hk j) (k:d.length=c0) (e1:e.length=c1) (e2:f.length=a) (m:h.length=b) (r:j.length=c):(Qac c0 c1 a b c d e f h j).OK where
 hN:=.inr rfl
 st:=rfl
 lay:=Qie n o h2 p q s t u n3 v k e1 e2 m r
 ref:=Qi6 n o h2 p q s t u n3 v k e1 e2 m r
 trl:=rfl
 tr:=fun i hi=>match i,hi with
  |0,_=>rfl
  |1,_=>rfl
  |2,_=>rfl
 ct:=fun i hi=>match i,hi with
  |0,_=>n
  |1,_=>o
  |2,_=>h2
 btl:=rfl
 bt:=fun g hg=>match g,hg with
  |0,_=>rfl
  |1,_=>rfl
 ut:=fun g hg=>match g,hg with
  |0,_=>p
  |1,_=>q
 sec:=fun i hi=>match i,hi with
  |0,_=>fun x hx=>QfH (A:=[]) (i:=0) (B:=YU (secT 1) c1 e++(YU (secT 2) a f++(YU (secL 0) b h++YU (secL 1) c j))) (by simp [Qac,se3]) rfl s k hx
  |1,_=>fun x hx=>QfH (A:=YU (secT 0) c0 d) (i:=1) (B:=YU (secT 2) a f++(YU (secL 0) b h++YU (secL 1) c j)) (by simp [Qac,se3]) (Qs k) t e1 hx
  |2,_=>fun x hx=>QfH (A:=YU (secT 0) c0 d++YU (secT 1) c1 e) (i:=2) (B:=YU (secL 0) b h++YU (secL 1) c j) (by simp [Qac,se3]) (by simp [Qac,Qs k,Qs e1]) u e2 hx
 gap:=fun g hg=>match g,hg with
  |0,_=>fun x hx=>QgJ (A:=YU (secT 0) c0 d++YU (secT 1) c1 e++YU (secT 2) a f) (i:=0) (B:=YU (secL 1) c j) (by simp [Qac,se3]) (by simp [Qac,Qs k,Qs e1,Qs e2];omega) n3 m hx
  |1,_=>fun x hx=>QgJ (A:=YU (secT 0) c0 d++YU (secT 1) c1 e++YU (secT 2) a f++YU (secL 0) b h) (i:=1) (B:=[]) (by simp [Qac,se3]) (by simp [Qac,Qs k,Qs e1,Qs e2,Qs m];omega) v r hx
 rts:=fun g hg=>by
  have hl:(se3 c0 c1 a b c d e f h j).length=c0+c1+a+b+c:=by simp [se3,Qs k,Qs e1,Qs e2,Qs m,Qs r];omega
  have l:=Qi5 n o h2 p q;simp only [Bool.and_eq_true] at l
  match g,hg with
  |0,_=>
   show QbL (se3 c0 c1 a b c d e f h j).length (li3 c0 c1 a b c) (c0+c1+a) b 0 c0 c0 c1=true;rw [hl];exact l.1
  |1,_=>
   show QbL (se3 c0 c1 a b c d e f h j).length (li3 c0 c1 a b c) (c0+c1+a+b) c c0 c1 (c0+c1) a=true;rw [hl];exact l.2
 rt6:=fun g hg=>by
  have hl:(se3 c0 c1 a b c d e f h j).length=c0+c1+a+b+c:=by simp [se3,Qs k,Qs e1,Qs e2,Qs m,Qs r];omega
  have l:=Qgg n o h2 p q;simp only [Bool.and_eq_true] at l
  match g,hg with
  |0,_=>
   show Q4C (se3 c0 c1 a b c d e f h j).length (pt3 c0 c1 a).length (li3 c0 c1 a b c) (c0+c1+a) b 0 c0 c0 c1=true;rw [hl];exact l.1
  |1,_=>
   show Q4C (se3 c0 c1 a b c d e f h j).length (pt3 c0 c1 a).length (li3 c0 c1 a b c) (c0+c1+a+b) c c0 c1 (c0+c1) a=true;rw [hl];exact l.2
theorem QhS {R:Type} {l:List Int} (hl:l.length<=9223372036854775807) {P:R->Prop} {i:Nat} (hi:i<=l.length) {K:LL->LL->LL->LL->LL->LL->LL->Int->oP R}
  (H:∀ (G:Geo) (j:Nat),G.OK->j<=l.length->K G.St G.Pt G.Se G.Li G.Tr G.Bt [] (j:Int)∈P):B8 400 (encI l) (i:Int) K∈P:=by
 unfold B8;refine VU hl hi (by decide) (by decide) fun v j k n hj=>?_
 rcases two k n with rfl | rfl
 ·exact Qgv hl (m:=397) hj fun c0 c1 a b c d j a0 a1 a2 e f g h e1 e2 hj=>H (Qe8 c0 c1 a b c d) j (QcL a0 a1 a2 e f g h e1 e2) hj
 ·exact Qgy hl (m:=396) hj fun c0 c1 o a p b c q d r j a0 a1 a2 s t e f g n3 u h e1 e2 x y hj=>H (Qac c0 c1 o a p b c q d r) j (QdC a0 a1 a2 s t e f g n3 u h e1 e2 x y) hj
section
variable {R:Type}
theorem Q1x {T:LL} {g:Nat} {l:LL} (h:T[g]? = some [D.sl 1 l]) (K:LL->oP R) :
  gb true (inB (List.length T) (g:Int)) () (fun _=>gb true (T[(Int.toNat (g:Int))]?) [] fun a=>gb true (a[0]?) oF fun b=>gb true (pSl 1 b) [] fun c=>K c)=K l:=by
 have ac:g<T.length:=(Qjk.1 h).1;rw [ZI (by omega) (by omega),Q0,Int.toNat_natCast,h];rfl
theorem Qg6 {k c a:Nat} (hc:c=1\/c=2) (ha:a<2) (K:Int->oP R) :
  gb true (nz ((List.length (Wr (ups k c)):Nat):Int)) () (fun _=>gb true (Q1 (Wr (ups k c)) (Int.tmod (a:Int) ((List.length (Wr (ups k c)):Nat):Int))) [] fun b=>gb true (b[0]?) oF fun d=>gb true (pIw d) 0 fun e=>K e)=K ((k+a % c:Nat):Int):=by
 obtain rfl | rfl:a=0\/a=1:=by omega
 ·rcases hc with rfl | rfl <;> rfl
 ·rcases hc with rfl | rfl
  ·rw [show k+1 % 1=k from rfl,show List.length (Wr (ups k 1))=1 from rfl,show Int.tmod ((1:Nat):Int) ((1:Nat):Int)=0 by decide];rfl
  ·rfl
theorem Qb4 {s u:Nat} {x:Int} (hu:u=1\/u=2) {k0:Int->Bool->LL->oP R} :
  ZU 400 (Wr (ups s u)) ((List.length (Wr (ups s u)):Nat):Int) k0 400 (0:Int) [[D.int .i64 x,D.int .i64 (0:Int)]]
   = k0 (u:Int) false ([Q4 x,Q4 0]::((ups s u).map fun k=>[Q4 (k:Nat),Q4 0])):=by
 rcases hu with rfl | rfl <;> rfl
theorem Qb6 {s u:Nat} {x:Int} (hu:u=1\/u=2) {k0:Int->Bool->LL->oP R} :
  Wc 400 (Wr (ups s u)) k0 400 (wJ (((List.length (Wr (ups s u)):Nat):Int)-(1:Int))) [[D.int .i64 x,D.int .i64 (1:Int)]]
   = k0 (-1) false ([Q4 x,Q4 1]::((ups s u).reverse.map fun k=>[Q4 (k:Nat),Q4 1])):=by
 rcases hu with rfl | rfl <;> rfl
theorem Q92 {Tr Bt:LL} {g k c k' c' s u a b:Nat} {up:Bool} (hg:g<8) (hT:Tr[g]? = some [D.sl 1 (Wr (ups k c))]) (ac:Tr[g+1]? = some [D.sl 1 (Wr (ups k' c'))]) (hB:Bt[g]? = some [D.sl 1 (Wr (ups s u))])
  (hc:c=1\/c=2) (aj:c'=1\/c'=2) (hu:u=1\/u=2) (ha:a<2) (hb:b<2) (K:LL->Int->oP R) :
  YO 400 Tr Bt (g:Int) (a:Int) (b:Int) up K=K (KZ s u (k+a % c) (k'+b % c') up) 0:=by
 have ak:wJ ((g:Int)+1)=((g+1:Nat):Int):=by rw [Q6 (by omega) (by omega)];omega
 have hl:(ups s u).length=u:=by rcases hu with rfl | rfl <;> rfl
 have d:u<=2:=by omega
 unfold YO;rw [Q1x hB];cases up
 ·rw [Q8 rfl];rw [ak,Q1x ac,Q1x ac,Qg6 aj hb,XS (by simp),Q0];rw [Qb6 hu,Q1x hT,Q1x hT,Qg6 hc ha,XS (by simp [hl];omega),Q0];rfl
 ·rw [QU rfl,Q1x hT,Q1x hT,Qg6 hc ha,XS (by simp),Q0];rw [Qb4 hu,ak,Q1x ac,Q1x ac,Qg6 aj hb,XS (by simp [hl];omega),Q0];rfl
end
def Sta (G:Geo) (x:Int):Prop:=∃ nm a b d i,Q1 G.Se x=some [D.str nm,Q4 a,Q4 b,Q4 d,Q4 i]/\0<=i
structure RtOK (G:Geo) (s:LL) (x y:Int):Prop where
 l2:2<=s.length
 l24:s.length<=24
 rt:rtB G.Se.length G.Li s=true
 rt6:QfL G.Se.length G.Li s=true
 hops:Q0c G.Se.length G.Pt.length G.Li 0 s=true
 shp:∃ g x y up,g+1<G.N/\s=KZ (G.s g) (G.u g) x y up/\x∈ups (G.k g) (G.c g)/\y∈ups (G.k (g+1)) (G.c (g+1))
 st:∀ r∈s,Co G.Se r
 sx:Sta G x
 sy:Sta G y
 fst:∃ d,Q1 s 0=some [Q4 x,Q4 d]
 lst:∃ d,Q1 s ((s.length:Int)-1)=some [Q4 y,Q4 d]
def Geo.tk (G:Geo) (i a:Nat):Int:=((G.k i+a % G.c i:Nat):Int)
theorem Q5o {x:Nat}:∀ {s u:Nat},x∈ups s u->∃ j,j<u/\x=s+j
 |s,0,h=>by simp [ups] at h
 |s,u+1,h=>by
  simp only [ups,List.mem_cons] at h;rcases h with rfl | h
  ·exact ⟨0,by omega,rfl⟩
  ·obtain ⟨j,a,h2⟩:=Q5o h;exact ⟨j+1,by omega,by omega⟩
theorem EB {c a k:Nat} (hc:c=1\/c=2):(k+a % c)∈ups k c:=by
 rcases hc with rfl | rfl
 ·simp [ups,Nat.mod_one]
 ·have:a % 2<2:=Nat.mod_lt _ (by decide);simp [ups];omega
theorem Geo.OK.trk {G:Geo} (hG:G.OK) {i a:Nat} (hi:i<G.N):(∃ nm x b d,Q1 G.Se (G.tk i a)=some [D.str nm,Q4 x,Q4 b,Q4 d,Q4 i]/\SecN x b d):=
 hG.sec i hi (a % G.c i) (Nat.mod_lt _ (by rcases hG.ct i hi with h | h <;> omega))
theorem Q4Z {P:List D->Prop} {s u x y:Nat} {up:Bool} (hx:∀ d,(d=0\/d=1)->P [Q4 x,Q4 d]) (hy:∀ d,(d=0\/d=1)->P [Q4 y,Q4 d]) (hs:∀ j,j<u->∀ d,(d=0\/d=1)->P [Q4 ((s+j:Nat):Int),Q4 d]):∀ r∈KZ s u x y up,P r:=by
 intro r hr;unfold KZ at hr;cases up
 ·simp only [Qjg,List.cons_append,List.mem_cons,Qjo,List.mem_map,List.mem_reverse,List.not_mem_nil,or_false] at hr;rcases hr with rfl | ⟨k,hk,rfl⟩ | rfl
  ·exact hy _ (.inr rfl)
  ·obtain ⟨j,a,rfl⟩:=Q5o hk;exact hs j a _ (.inr rfl)
  ·exact hx _ (.inr rfl)
 ·simp only [Qjl,List.cons_append,List.mem_cons,Qjo,List.mem_map,List.not_mem_nil,or_false] at hr;rcases hr with rfl | ⟨k,hk,rfl⟩ | rfl
  ·exact hx _ (.inl rfl)
  ·obtain ⟨j,a,rfl⟩:=Q5o hk;exact hs j a _ (.inl rfl)
  ·exact hy _ (.inl rfl)
theorem Qfk {R:Type} {G:Geo} (hG:G.OK) {g a b:Nat} {up:Bool} (hg:g+1<G.N) (ha:a<2) (hb:b<2) :
  ∃ s,RtOK G s (bif up then G.tk g a else G.tk (g+1) b) (bif up then G.tk (g+1) b else G.tk g a)/\∀ K:LL->Int->oP R,YO 400 G.Tr G.Bt (g:Int) (a:Int) (b:Int) up K=K s 0:=by
 have hN:=hG.hN;have hc:=hG.ct g (by omega);have aq:=hG.ct (g+1) hg;have hu:=hG.ut g hg;obtain ⟨h,i,k,l,e1,c⟩:=hG.trk (a:=a) (show g<G.N by omega);obtain ⟨m,n,o,p,e2,e⟩:=hG.trk (a:=b) hg;have aj:=hG.rts g hg;unfold QbL at aj;have aj:=List.all_eq_true.1 (List.all_eq_true.1 aj _ (EB hc (a:=a))) _ (EB aq (a:=b));simp only [Bool.and_eq_true] at aj;have ac:=hG.rt6 g hg;unfold Q4C at ac;have ac:=List.all_eq_true.1 (List.all_eq_true.1 ac _ (EB hc (a:=a))) _ (EB aq (a:=b));simp only [Qcu,Bool.and_eq_true] at ac;refine ⟨KZ (G.s g) (G.u g) (G.k g+a % G.c g) (G.k (g+1)+b % G.c (g+1)) up,?_,fun K=>Q92 (by omega) (hG.tr g (by omega)) (hG.tr (g+1) hg) (hG.bt g hg) hc aq hu ha hb K⟩;have ao:∀ r∈KZ (G.s g) (G.u g) (G.k g+a % G.c g) (G.k (g+1)+b % G.c (g+1)) up,Co G.Se r:=by
  refine Q4Z (fun d hd=>⟨_,_,_,_,_,_,_,rfl,e1,c,hd⟩) (fun d hd=>⟨_,_,_,_,_,_,_,rfl,e2,e,hd⟩) fun j hj d hd=>?_
  obtain ⟨n3,q,t,v,z,f,g1⟩:=hG.gap g hg j hj;exact ⟨_,_,_,_,_,_,_,rfl,f,g1,hd⟩
 have ak:∃ g' x y au,g'+1<G.N/\KZ (G.s g) (G.u g) (G.k g+a % G.c g) (G.k (g+1)+b % G.c (g+1)) up=KZ (G.s g') (G.u g') x y au/\x∈ups (G.k g') (G.c g')/\y∈ups (G.k (g'+1)) (G.c (g'+1)):=
  ⟨g,_,_,up,hg,rfl,EB hc,EB aq⟩
 have s1:Sta G (G.tk g a):=⟨_,_,_,_,_,e1,by omega⟩;have s2:Sta G (G.tk (g+1) b):=⟨_,_,_,_,_,e2,by omega⟩;revert ao aj ac ak;generalize G.s g=s;generalize G.u g=u at hu;intro aj ac ao ak;have hl:(KZ s u (G.k g+a % G.c g) (G.k (g+1)+b % G.c (g+1)) up).length=u+2:=by
  rcases hu with rfl | rfl <;> cases up <;> rfl
 cases up
 ·exact ⟨by omega,by omega,aj.2,ac.2.1,ac.2.2,ak,ao,s2,s1,by rcases hu with rfl | rfl <;> exact ⟨1,rfl⟩,by rw [hl];rcases hu with rfl | rfl <;> exact ⟨1,rfl⟩⟩
 ·exact ⟨by omega,by omega,aj.1,ac.1.1,ac.1.2,ak,ao,s1,s2,by rcases hu with rfl | rfl <;> exact ⟨0,rfl⟩,by rw [hl];rcases hu with rfl | rfl <;> exact ⟨0,rfl⟩⟩

end Go.Vx
namespace Go.Vx
variable {R:Type}
def Ws (n:Nat) (c:LL) (k0:Int->Bool->LL->Int->oP R):Nat->Int->LL->Int->oP R
 | 0,_,_,_=>none
 | m+1,a,b,d=>bif decide (a<3) then gb true (Q5 n c d 2 Tu2) (0,0) fun e=>gb true (inB 3 a) () fun i=>gb true (b[a.toNat]?) [] fun h=>Ws n c k0 m (wJ (a+1)) (List.set b a.toNat (List.set h 0 (Q4 e.1))) e.2 else k0 a (decide (a<3)) b d
def QH (n:Nat) (k:Bool) (g:Int) (j l o h:LL) (k0:Int->Bool->LL->LL->Int->oP R):Nat->Int->LL->LL->Int->oP R
 | 0,_,_,_,_=>none
 | m+1,a,i,b,t=>bif decide (a<g) then bif !k then gb true (inB 3 (wJ ((wJ (g-1))-a))) () fun ak=>gb true (j[(Int.toNat (wJ ((wJ (g-1))-a)))]?) [] fun x=>gb true (x[0]?) oF fun y=>gb true (pIw y) 0 fun z=>gb true (inB 3 (wJ ((wJ ((wJ (g-1))-a))+1))) () fun al=>gb true (j[(Int.toNat (wJ ((wJ ((wJ (g-1))-a))+1)))]?) [] fun aa=>gb true (aa[0]?) oF fun ab=>gb true (pIw ab) 0 fun ac=>gb true (YO n l o (wJ ((wJ (g-1))-a)) z ac k Tu2) ([],0) fun e=>gb true (Ym ((b.length+[[D.sl 2 e.1,Q4 e.2]].length)*32)) () fun am=>gb true (Q5 n h t 3 Tu2) (0,0) fun p=>bif (decide ((wJ (a+1))<g)) then gb true (Q5 n h p.2 6 Tu2) (0,0) fun r=>gb true (Q5 n h r.2 4 Tu2) (0,0) fun u=>gb true (Ym ((i.length+List.length [[Q4 (wJ (((List.length (b++[[D.sl 2 e.1,Q4 e.2]]):Nat):Int)-1)),Q4 p.1,Q4 (wJ (5+r.1)),Q4 (wJ ((wJ (5+r.1))+u.1))]])*32)) () fun an=>QH n k g j l o h k0 m (wJ (a+1)) (i++[[Q4 (wJ (((List.length (b++[[D.sl 2 e.1,Q4 e.2]]):Nat):Int)-1)),Q4 p.1,Q4 (wJ (5+r.1)),Q4 (wJ ((wJ (5+r.1))+u.1))]]) (b++[[D.sl 2 e.1,Q4 e.2]]) u.2 else gb true (Ym ((i.length+List.length [[Q4 (wJ (((List.length (b++[[D.sl 2 e.1,Q4 e.2]]):Nat):Int)-1)),Q4 p.1,Q4 0,Q4 0]])*32)) () fun ao=>QH n k g j l o h k0 m (wJ (a+1)) (i++[[Q4 (wJ (((List.length (b++[[D.sl 2 e.1,Q4 e.2]]):Nat):Int)-1)),Q4 p.1,Q4 0,Q4 0]]) (b++[[D.sl 2 e.1,Q4 e.2]]) p.2 else gb true (inB 3 a) () fun ap=>gb true (j[a.toNat]?) [] fun ad=>gb true (ad[0]?) oF fun ae=>gb true (pIw ae) 0 fun ag=>gb true (inB 3 (wJ (a+1))) () fun aq=>gb true (j[(Int.toNat (wJ (a+1)))]?) [] fun ah=>gb true (ah[0]?) oF fun ai=>gb true (pIw ai) 0 fun aj=>gb true (YO n l o a ag aj k Tu2) ([],0) fun f=>gb true (Ym ((b.length+[[D.sl 2 f.1,Q4 f.2]].length)*32)) () fun ar=>gb true (Q5 n h t 3 Tu2) (0,0) fun q=>bif (decide ((wJ (a+1))<g)) then gb true (Q5 n h q.2 6 Tu2) (0,0) fun s=>gb true (Q5 n h s.2 4 Tu2) (0,0) fun v=>gb true (Ym ((i.length+List.length [[Q4 (wJ (((List.length (b++[[D.sl 2 f.1,Q4 f.2]]):Nat):Int)-1)),Q4 q.1,Q4 (wJ (5+s.1)),Q4 (wJ ((wJ (5+s.1))+v.1))]])*32)) () fun au=>QH n k g j l o h k0 m (wJ (a+1)) (i++[[Q4 (wJ (((List.length (b++[[D.sl 2 f.1,Q4 f.2]]):Nat):Int)-1)),Q4 q.1,Q4 (wJ (5+s.1)),Q4 (wJ ((wJ (5+s.1))+v.1))]]) (b++[[D.sl 2 f.1,Q4 f.2]]) v.2 else gb true (Ym ((i.length+List.length [[Q4 (wJ (((List.length (b++[[D.sl 2 f.1,Q4 f.2]]):Nat):Int)-1)),Q4 q.1,Q4 0,Q4 0]])*32)) () fun av=>QH n k g j l o h k0 m (wJ (a+1)) (i++[[Q4 (wJ (((List.length (b++[[D.sl 2 f.1,Q4 f.2]]):Nat):Int)-1)),Q4 q.1,Q4 0,Q4 0]]) (b++[[D.sl 2 f.1,Q4 f.2]]) q.2 else k0 a (decide (a<g)) i b t
def V8 (n:Nat) (f g b:LL) (h:Int) (i c:LL) (j:Bool) (k:Int) (K:Int->LL->LL->oP R):oP R:= gb true (VW n (bs [78]) (c.length:Int) some) [] fun a=>gb true (Q5 n b h 4 Tu2) (0,0) fun d=>Ws n b (fun r s m o=>QH n j k m f g b (fun t u e p q=>gb true (Ym ((c.length+[[D.str a,Q4 0,Q4 d.1,D.sl 4 e]].length)*56)) () fun v=>K q p (c++[[D.str a,Q4 0,Q4 d.1,D.sl 4 e]])) n 0 [] i o) n 0 [[Q4 0],[Q4 0],[Q4 0]] d.2
end Go.Vx
namespace Go.Vx
def PW (G:Geo) (Ro:LL) (row:List D) (x y:Int) (last:Bool):Prop:=
 ∃ (rt:Nat) (ex mn mx:Int) (s:LL),row=[Q4 rt,Q4 ex,Q4 mn,Q4 mx]/\Ro[rt]? = some [D.sl 2 s,Q4 0]/\RtOK G s x y/\(0<=ex/\ex<3)/\(0<=mn/\mn<=mx/\mx<=mn+3/\mn<=10)/\(last=true->mn=0/\mx=0)
def nmN (k:Nat):List UInt8:=bs [78]++[UInt8.ofNat (48+k)]
def Q3r (G:Geo) (Ro:LL) (rides:LL):Prop:=
 (∃ r x y,rides=[r]/\PW G Ro r x y true)\/(∃ r r' x y z,rides=[r,r']/\PW G Ro r x y false/\PW G Ro r' y z true)
def Qan (G:Geo) (Ro:LL) (k:Nat) (row:List D):Prop:=∃ (w:Int) (rides:LL),row=[D.str (nmN k),Q4 0,Q4 w,D.sl 4 rides]/\0<=w/\w<4/\Q3r G Ro rides
structure GoodP (G:Geo) (Ro Ls:LL):Prop where
 ro:∀ row∈Ro,∃ s x y,row=[D.sl 2 s,Q4 0]/\RtOK G s x y
 ls:∀ k row,Ls[k]? = some row->Qan G Ro k row
theorem PW.mono {G:Geo} {Ro t:LL} {row:List D} {x y:Int} {b:Bool} (h:PW G Ro row x y b):PW G (Ro++t) row x y b:=by
 obtain ⟨rt,ex,mn,mx,s,a,h2,c⟩:=h;refine ⟨rt,ex,mn,mx,s,a,?_,c⟩;rw [Qjq (Qjk.1 h2).1];exact h2
theorem Q3r.mono {G:Geo} {Ro t rides:LL} (h:Q3r G Ro rides):Q3r G (Ro++t) rides:=by
 rcases h with ⟨r,x,y,e,h⟩ | ⟨r,r',x,y,z,e,h,h'⟩
 ·exact .inl ⟨r,x,y,e,h.mono⟩
 ·exact .inr ⟨r,r',x,y,z,e,h.mono,h'.mono⟩
theorem Qan.mono {G:Geo} {Ro t:LL} {k:Nat} {row:List D} (h:Qan G Ro k row):Qan G (Ro++t) k row:=by
 obtain ⟨w,rides,a,h2,b,c⟩:=h;exact ⟨w,rides,a,h2,b,c.mono⟩
section
variable {R:Type} {l:List Int} (hl:l.length<=9223372036854775807) {P:R->Prop}
include hl
def atL (At:Nat->Nat):LL:=[[Q4 (At 0)],[Q4 (At 1)],[Q4 (At 2)]]
theorem QhU {i:Nat} (hi:i<=l.length) {k0:Int->Bool->LL->Int->oP R}
  (H:∀ (At:Nat->Nat) (j:Nat),(∀ i,At i<2)->j<=l.length->k0 3 false (atL At) (j:Int)∈P) :
  Ws 400 (encI l) k0 400 (0:Int) [[D.int .i64 (0:Int)],[D.int .i64 (0:Int)],[D.int .i64 (0:Int)]] (i:Int)∈P:=by
 refine VU hl hi (by decide) (by decide) fun d j a0 b0 hj=>?_
 refine VU hl hj (by decide) (by decide) fun e j a1 b1 hj=>?_
 refine VU hl hj (by decide) (by decide) fun f j a2 b2 hj=>?_
 obtain ⟨a,rfl⟩:=Qjn a0;obtain ⟨b,rfl⟩:=Qjn a1;obtain ⟨c,rfl⟩:=Qjn a2;exact H (fun | 0=>a | 1=>b | _=>c) j (fun | 0=>by show a<2;omega | 1=>by show b<2;omega | _+2=>by show c<2;omega) hj
end
theorem atA {R:Type} {At:Nat->Nat} {g:Nat} (hg:g<3) (K:Int->oP R) :
  gb true (inB 3 (g:Int)) () (fun _=>gb true ((atL At)[(Int.toNat (g:Int))]?) [] fun r=>gb true (r[0]?) oF fun c=>gb true (pIw c) 0 fun i=>K i)=K (At g):=by
 obtain rfl | rfl | rfl:g=0\/g=1\/g=2:=by omega
 all_goals rfl
section
variable {R:Type} {l:List Int} (hl:l.length<=9223372036854775807) {P:R->Prop} {G:Geo} (hG:G.OK)
include hl hG
theorem Qc9 {up:Bool} {ac h g m:Nat} {acc Ro:LL} {At:Nat->Nat} (ak:∀ i,At i<2) (hm:ac<=2) (hh:h<ac) (hg:g=bif up then h else ac-1-h) (hN:ac<G.N) (hR:Ro.length<=100) (ha:acc.length<=10)
  {i:Nat} (hi:i<=l.length) {k0:Int->Bool->LL->LL->Int->oP R}
  (H:∀ (s:LL) (ex mn mx:Int) (j:Nat),RtOK G s (bif up then G.tk g (At g) else G.tk (g+1) (At (g+1))) (bif up then G.tk (g+1) (At (g+1)) else G.tk g (At g))->0<=ex/\ex<3->(0<=mn/\mn<=mx/\mx<=mn+3/\mn<=10)->(h+1=ac->mn=0/\mx=0)->j<=l.length ->
   QH 400 up (ac:Int) (atL At) G.Tr G.Bt (encI l) k0 m ((h+1:Nat):Int) (acc++[[Q4 (Ro.length:Nat),Q4 ex,Q4 mn,Q4 mx]]) (Ro++[[D.sl 2 s,Q4 0]]) (j:Int)∈P) :
  QH 400 up (ac:Int) (atL At) G.Tr G.Bt (encI l) k0 (m+1) (h:Int) acc Ro (i:Int)∈P:=by
 have aq:=hG.hN;have aw:g<ac:=by
  rw [hg];cases up
  ·show ac-1-h<ac;omega
  ·exact hh
 have an:g+1<G.N:=by omega
 obtain ⟨s,hs,e⟩:=Qfk (R:=LL × Int) hG (up:=up) an (ak g) (ak (g+1));have d:wJ ((h:Int)+1)=((h+1:Nat):Int):=by rw [Q6 (by omega) (by omega)];omega
 have f:wJ ((g:Int)+1)=((g+1:Nat):Int):=by rw [Q6 (by omega) (by omega)];omega
 have k:up=false->wJ (wJ ((ac:Int)-1)-(h:Int))=(g:Int):=by
  intro hu;rw [Q6 (x:=(ac:Int)-1) (by omega) (by omega),Q6 (by omega) (by omega)];simp [hu] at hg;omega
 have aj:wJ ((((Ro++[[D.sl 2 s,Q4 0]]).length:Nat):Int)-1)=((Ro.length:Nat):Int):=by
  rw [show (Ro++[[D.sl 2 s,Q4 0]]).length=Ro.length+1 by simp,Q6 (by omega) (by omega)];omega
 rw [QH,QU (by simp;omega),d];cases up
 ·rw [QU (c:=!false) rfl,k rfl,f,atA (by omega),atA (by omega),e,Q0,XS (by simp;omega),Q0];refine VU hl hi (by decide) (by decide) fun ex j a b hj=>?_
  dsimp only;rw [aj];by_cases hlast:h+1<ac
  ·rw [QU (by simp;omega)];refine VU hl hj (by decide) (by decide) fun mn j n o hj=>?_
   refine VU hl hj (by decide) (by decide) fun mx j p q hj=>?_
   rw [XS (by simp;omega),Q0];dsimp only;rw [Q6 (x:=5+mn) (by omega) (by omega),Q6 (x:=5+mn+mx) (by omega) (by omega)];exact H s ex (5+mn) (5+mn+mx) j hs ⟨a,b⟩ ⟨by omega,by omega,by omega,by omega⟩ (fun hx=>absurd hx (by omega)) hj
  ·rw [Q8 (by simp;omega),XS (by simp;omega),Q0];exact H s ex 0 0 j hs ⟨a,b⟩ ⟨by omega,by omega,by omega,by omega⟩ (fun hx=>⟨rfl,rfl⟩) hj
 ·have ao:g=h:=by simpa using hg
  subst ao;rw [Q8 (c:=!true) rfl,atA (by omega),atA (by omega),e,Q0,XS (by simp;omega),Q0];refine VU hl hi (by decide) (by decide) fun ex j a b hj=>?_
  dsimp only;rw [aj];by_cases hlast:g+1<ac
  ·rw [QU (by simp;omega)];refine VU hl hj (by decide) (by decide) fun mn j n o hj=>?_
   refine VU hl hj (by decide) (by decide) fun mx j p q hj=>?_
   rw [XS (by simp;omega),Q0];dsimp only;rw [Q6 (x:=5+mn) (by omega) (by omega),Q6 (x:=5+mn+mx) (by omega) (by omega)];exact H s ex (5+mn) (5+mn+mx) j hs ⟨a,b⟩ ⟨by omega,by omega,by omega,by omega⟩ (fun hx=>absurd hx (by omega)) hj
  ·rw [Q8 (by simp;omega),XS (by simp;omega),Q0];exact H s ex 0 0 j hs ⟨a,b⟩ ⟨by omega,by omega,by omega,by omega⟩ (fun hx=>⟨rfl,rfl⟩) hj
omit hl hG in
theorem Q6T {n m:Nat} {f:Bool} {b a:Int} {g i j k c d:LL} {e:Int} {k0:Int->Bool->LL->LL->Int->oP R} (h:¬ a<b) :
  QH n f b g i j k k0 (m+1) a c d e=k0 a false c d e:=by
 rw [QH,Q8 (by simpa using h)];simp [h]
theorem QgD {up:Bool} {ak:Nat} {Ro Ls:LL} (hm:ak=1\/ak=2) (hN:ak<G.N) (ac:GoodP G Ro Ls) (hR:Ro.length<=20) (hL:Ls.length<6)
  {i:Nat} (hi:i<=l.length) {K:Int->LL->LL->oP R}
  (H:∀ (Ro' Ls':LL) (j:Nat),GoodP G Ro' Ls'->Ls'.length=Ls.length+1->Ro'.length<=Ro.length+2->j<=l.length->K (j:Int) Ro' Ls'∈P) :
  V8 400 G.Tr G.Bt (encI l) (i:Int) Ro Ls up (ak:Int) K∈P:=by
 unfold V8;rw [Bk _ _ Ls.length (by omega) (by decide),Q0];refine VU hl hi (by decide) (by decide) fun w j w0 c hj=>?_
 dsimp only;refine QhU hl hj fun At j aq hj=>?_
 rcases hm with rfl | rfl
 ·refine Qc9 hl hG (h:=0) (g:=0) aq (by decide) (by decide) (by cases up <;> rfl) hN (by omega) (by decide) hj fun s ex mn mx j hs ao an hlast hj=>?_
  rw [Q6T (by decide)];rw [XS (by simp;omega),Q0];refine H _ _ j ⟨fun row hr=>?_,fun k row hk=>?_⟩ (by simp) (by simp) hj
  ·rcases Qjo.1 hr with hr | hr
   ·exact ac.ro row hr
   ·rw [Qjp.1 hr];exact ⟨s,_,_,rfl,hs⟩
  ·rcases Nat.lt_or_ge k Ls.length with aj | aj
   ·rw [Qjq aj] at hk;exact (ac.ls k row hk).mono
   ·rw [List.getElem?_append_right aj] at hk;obtain ⟨a,rfl⟩:=Qjk.1 hk;simp at a;have b:k=Ls.length:=by omega
    subst b;refine ⟨w,_,by simp [nmN],w0,c,.inl ⟨_,_,_,rfl,Ro.length,ex,mn,mx,s,rfl,by simp,hs,ao,an,fun _=>hlast rfl⟩⟩
 ·obtain ⟨g0,d⟩:∃ g0,g0=bif up then 0 else 1:=⟨_,rfl⟩
  obtain ⟨g1,e⟩:∃ g1,g1=bif up then 1 else 0:=⟨_,rfl⟩
  refine Qc9 hl hG (h:=0) (g:=g0) aq (by decide) (by decide) (by cases up <;> simpa using d) hN (by omega) (by decide) hj fun s ex mn mx j hs ao an hlast hj=>?_
  refine Qc9 hl hG (h:=1) (g:=g1) aq (by decide) (by decide) (by cases up <;> simpa using e) hN (by simp;omega) (by simp) hj fun s' ay az a1 j au aw ar al hj=>?_
  have ax:(bif up then G.tk (g0+1) (At (g0+1)) else G.tk g0 (At g0))=(bif up then G.tk g1 (At g1) else G.tk (g1+1) (At (g1+1))):=by
   subst d e;cases up <;> rfl
  rw [ax] at hs;rw [Q6T (by decide)];rw [XS (by simp;omega),Q0];refine H _ _ j ⟨fun row hr=>?_,fun k row hk=>?_⟩ (by simp) (by simp) hj
  ·rcases Qjo.1 hr with hr | hr
   ·rcases Qjo.1 hr with hr | hr
    ·exact ac.ro row hr
    ·rw [Qjp.1 hr];exact ⟨s,_,_,rfl,hs⟩
   ·rw [Qjp.1 hr];exact ⟨s',_,_,rfl,au⟩
  ·rcases Nat.lt_or_ge k Ls.length with aj | aj
   ·rw [Qjq aj] at hk;exact (ac.ls k row hk).mono.mono
   ·rw [List.getElem?_append_right aj] at hk;obtain ⟨a,rfl⟩:=Qjk.1 hk;simp at a;have b:k=Ls.length:=by omega
    subst b;refine ⟨w,_,by simp [nmN],w0,c,.inr ⟨_,_,_,_,_,rfl,PW.mono ⟨Ro.length,ex,mn,mx,s,rfl,by simp,hs,ao,an,fun h=>by cases h⟩,(Ro++[[D.sl 2 s,Q4 0]]).length,ay,az,a1,s',rfl,by simp,au,aw,ar,fun _=>al rfl⟩⟩
end
end Go.Vx
namespace Go.Vx
variable {R:Type}
def M7 (n:Nat) (q:Int) (r c d s t u v:LL) (a1 a2:Int) (K:Int->oP R):oP R:= gb true (Q1 d a1) [] fun e=>gb true (e[3]?) oF fun f=>gb true (pSl 4 f) [] fun g=>gb true (Q1 g a2) [] fun h=>gb true (h[0]?) oF fun i=>gb true (pIw i) 0 fun j=>gb true (Q1 c j) [] fun a=>gb true (a[0]?) oF fun b=>gb true (a[1]?) oF fun x=>gb true (pSl 2 b) [] fun k=>gb true (pSl 2 b) [] fun l=>gb true (Q1 k (wJ ((l.length:Int)-1))) [] fun m=>gb true (m[0]?) oF fun o=>gb true (pIw o) 0 fun p=>K p
def Sl (n:Nat) (p:Int) (q a b r s t u:LL) (a1 a2:Int) (K:Int->oP R):oP R:= gb true (Q1 b a1) [] fun c=>gb true (c[3]?) oF fun d=>gb true (pSl 4 d) [] fun e=>gb true (Q1 e a2) [] fun f=>gb true (f[0]?) oF fun g=>gb true (pIw g) 0 fun h=>gb true (Q1 a h) [] fun i=>gb true (i[0]?) oF fun j=>gb true (pSl 2 j) [] fun k=>gb true (Q1 k 0) [] fun l=>gb true (l[0]?) oF fun m=>gb true (pIw m) 0 fun o=>K o

def YG (n:Nat) (c p:Int) (q r f s t u h:LL) (v:Int) (k0:Int->Bool->LL->LL->LL->Int->oP R):Nat->Int->LL->LL->LL->Int->oP R
 | 0,_,_,_,_,_=>none
 | m+1,b,i,j,g,y=>bif decide (b<p) then gb true (Q5 n h y 3 Tu2) (0,0) fun a=>gb (decide (a.1>0)) (inB 4 c) () fun al=>gb (decide (a.1>0)) (i[c.toNat]?) [] fun z=>gb (decide (a.1>0)) (z[0]?) oF fun aa=>gb (decide (a.1>0)) (Gx aa) false fun d=>gb (bif decide (a.1>0) then (!d) else false) (inB 4 b) () fun am=>gb (bif decide (a.1>0) then (!d) else false) (j[b.toNat]?) [] fun ab=>gb (bif decide (a.1>0) then (!d) else false) (ab[0]?) oF fun ac=>gb (bif decide (a.1>0) then (!d) else false) (Gx ac) false fun e=>gb (bif (bif decide (a.1>0) then (!d) else false) then (!e) else false) (inB (f.length) c) () fun an=>gb (bif (bif decide (a.1>0) then (!d) else false) then (!e) else false) (f[c.toNat]?) [] fun ad=>gb (bif (bif decide (a.1>0) then (!d) else false) then (!e) else false) (ad[3]?) oF fun ae=>gb (bif (bif decide (a.1>0) then (!d) else false) then (!e) else false) (pSl 4 ae) [] fun ag=>gb (bif (bif decide (a.1>0) then (!d) else false) then (!e) else false) (M7 n v q r f s g t u c (wJ ((ag.length:Int)-1)) some) 0 fun ah=>gb (bif (bif decide (a.1>0) then (!d) else false) then (!e) else false) (Sl n v q r f s g t u b 0 some) 0 fun ai=>bif (bif (bif (bif decide (a.1>0) then (!d) else false) then (!e) else false) then (ah == ai) else false) then gb true (inB 4 c) () fun ao=>gb true (i[c.toNat]?) [] fun aj=>gb true (inB 4 b) () fun ap=>gb true (j[b.toNat]?) [] fun ak=>gb true (Q5 n h a.2 10 Tu2) (0,0) fun o=>gb true (Q5 n h o.2 30 Tu2) (0,0) fun x=>gb true (Ym ((g.length+[[Q4 c,Q4 b,Q4 (wJ (10+o.1)),Q4 (wJ ((wJ (10+o.1))+x.1))]].length)*32)) () fun aq=>YG n c p q r f s t u h v k0 m (wJ (b+1)) (List.set i c.toNat (List.set aj 0 (D.bool true))) (List.set j b.toNat (List.set ak 0 (D.bool true))) (g++[[Q4 c,Q4 b,Q4 (wJ (10+o.1)),Q4 (wJ ((wJ (10+o.1))+x.1))]]) x.2 else YG n c p q r f s t u h v k0 m (wJ (b+1)) i j g a.2 else k0 b (decide (b<p)) i j g y
def Us (n:Nat) (a:Int) (c d b e f g h:LL) (i:Int) (k0:Int->Bool->LL->LL->LL->Int->oP R):Nat->Int->LL->LL->LL->Int->oP R
 | 0,_,_,_,_,_=>none
 | m+1,h2,j,k,l,o=>bif decide (h2<a) then YG n h2 (b.length:Int) c d b e f g h i (fun t u p q r s=>Us n a c d b e f g h i k0 m (wJ (h2+1)) p q r s) n 0 j k l o else k0 h2 (decide (h2<a)) j k l o
def TF (n:Nat) (b:LL) (c d:Int) (e f a g h i j:LL) (K:Int->LL->oP R):oP R:= Us n (a.length:Int) e f a g i j b d (fun m o p q k l=>K l k) n 0 [[D.bool false],[D.bool false],[D.bool false],[D.bool false]] [[D.bool false],[D.bool false],[D.bool false],[D.bool false]] h c

end Go.Vx
namespace Go.Vx
def TM (Ls:LL) (k i:Nat) (r:List D):Prop:=∃ nm w rides,Ls[k]? = some [D.str nm,Q4 0,Q4 w,D.sl 4 rides]/\rides[i]? = some r
theorem Qa (w:LL) (i:Nat):Q1 w (i:Int)=w[i]?:=by simp [Q1]
section
variable {R:Type} {n:Nat}
theorem QbE {G:Geo} {Ro Ls:LL} {k i:Nat} {r:List D} {x y:Int} {b:Bool} (h:TM Ls k i r) (hr:PW G Ro r x y b) {p:Int} {a1 a c e f:LL} (K:Int->oP R):Sl n p a1 Ro Ls a c e f (k:Int) (i:Int) K=K x:=by
 obtain ⟨nm,w,rides,g,h2⟩:=h;obtain ⟨rt,ex,mn,mx,s,rfl,j,l,_⟩:=hr;obtain ⟨d,m⟩:=l.fst;unfold Sl;rw [Qa,g,Q0];dsimp only [List.getElem?_cons_zero,List.getElem?_cons_succ];rw [Q0,QA,Q0,Qa,h2,Q0];dsimp only [List.getElem?_cons_zero,List.getElem?_cons_succ];rw [Q0,Q2,Q0,Qa,j,Q0];dsimp only [List.getElem?_cons_zero,List.getElem?_cons_succ];rw [Q0,QA,Q0,m];rfl
theorem Qeh {G:Geo} {Ro Ls:LL} {k i:Nat} {r:List D} {x y:Int} {b:Bool} (h:TM Ls k i r) (hr:PW G Ro r x y b) {p:Int} {a1 c e f g:LL} (K:Int->oP R):M7 n p a1 Ro Ls c e f g (k:Int) (i:Int) K=K y:=by
 obtain ⟨nm,w,rides,j,h2⟩:=h;obtain ⟨rt,ex,mn,mx,s,rfl,l,a,_⟩:=hr;obtain ⟨d,m⟩:=a.lst;have l2:=a.l2;have l24:=a.l24;unfold M7;rw [Qa,j,Q0];dsimp only [List.getElem?_cons_zero,List.getElem?_cons_succ];rw [Q0,QA,Q0,Qa,h2,Q0];dsimp only [List.getElem?_cons_zero,List.getElem?_cons_succ];rw [Q0,Q2,Q0,Qa,l,Q0];dsimp only [List.getElem?_cons_zero,List.getElem?_cons_succ];rw [Q0,Q0,QA,Q0,Q0,Q6 (by omega) (by omega),m];rfl
end
theorem Q6h {G:Geo} {Ro Ls:LL} (hg:GoodP G Ro Ls) {k:Nat} (hk:k<Ls.length) :
  ∃ (w:Int) (rides:LL) (r r':List D) (x x' y y':Int) (b:Bool),Ls[k]? = some [D.str (nmN k),Q4 0,Q4 w,D.sl 4 rides]/\(rides.length=1\/rides.length=2)/\rides[0]? = some r/\rides[rides.length-1]? = some r'/\PW G Ro r x y b/\PW G Ro r' x' y' true:=by
 obtain ⟨w,rides,a,h2,d,c⟩:=hg.ls k _ (Qjh hk);refine ⟨w,rides,?_⟩;rw [Qjh hk,a];rcases c with ⟨r,x,y,rfl,h⟩ | ⟨r,r',x,y,z,rfl,h,h'⟩
 ·exact ⟨r,r,x,x,y,y,true,rfl,.inl rfl,rfl,rfl,h,h⟩
 ·exact ⟨r,r',x,y,y,z,false,rfl,.inr rfl,rfl,rfl,h,h'⟩
abbrev Tup:=Nat × Nat × Int × Int
def tuR (t:Tup):List D:=[Q4 t.1,Q4 t.2.1,Q4 t.2.2.1,Q4 t.2.2.2]
def Q9v (G:Geo) (Ro Ls:LL) (t:Tup):Prop:=
 t.1<Ls.length/\t.2.1<Ls.length/\10<=t.2.2.1/\t.2.2.1<=19/\t.2.2.1<=t.2.2.2/\t.2.2.2<=t.2.2.1+29 /\
 ∃ (nm:List UInt8) (w:Int) (rides:LL) (r r':List D) (x y z:Int) (b b':Bool),Ls[t.1]? = some [D.str nm,Q4 0,Q4 w,D.sl 4 rides]/\rides[rides.length-1]? = some r/\1<=rides.length/\rides.length<=2/\TM Ls t.2.1 0 r'/\PW G Ro r x y b/\PW G Ro r' y z b'
structure TInv (G:Geo) (Ro Ls:LL) (T:List Tup) (FA TA:LL):Prop where
 ok:∀ t∈T,Q9v G Ro Ls t
 fd:(T.map (·.1)).Nodup
 td:(T.map (·.2.1)).Nodup
 fl:∀ i,i<4->∃ b,FA[i]? = some [D.bool b]/\(b=false->i ∉ T.map (·.1))
 tl:∀ i,i<4->∃ b,TA[i]? = some [D.bool b]/\(b=false->i ∉ T.map (·.2.1))
theorem gbF {α R:Type} (p:Option α) (z:α) (k:α->oP R):gb false p z k=k (p.getD z):=by cases p <;> rfl
theorem TInv.add {G:Geo} {Ro Ls:LL} {T:List Tup} {FA TA:LL} (h:TInv G Ro Ls T FA TA) {t:Tup} (ht:Q9v G Ro Ls t) (d:t.1 ∉ T.map (·.1)) (h2:t.2.1 ∉ T.map (·.2.1)):TInv G Ro Ls (T++[t]) (FA.set t.1 [D.bool true]) (TA.set t.2.1 [D.bool true]) where
 ok:=fun u hu=>by
  rcases Qjo.1 hu with hu | hu
  ·exact h.ok u hu
  ·rw [Qjp.1 hu];exact ht
 fd:=by
  rw [List.map_append,List.nodup_append];refine ⟨h.fd,by simp,fun a ha b hb=>?_⟩;simp at hb;subst hb;intro e;subst e;exact d ha
 td:=by
  rw [List.map_append,List.nodup_append];refine ⟨h.td,by simp,fun a ha b hb=>?_⟩;simp at hb;subst hb;intro e;subst e;exact h2 ha
 fl:=fun i hi=>by
  obtain ⟨b,e,hb⟩:=h.fl i hi;by_cases ac:t.1=i
  ·subst ac;refine ⟨true,?_,fun h=>by cases h⟩;rw [List.getElem?_set_self (Qjk.1 e).1]
  ·refine ⟨b,by rw [List.getElem?_set_ne ac];exact e,fun c hm=>?_⟩;rw [List.map_append] at hm;rcases Qjo.1 hm with hm | hm
   ·exact hb c hm
   ·simp at hm;exact ac hm.symm
 tl:=fun i hi=>by
  obtain ⟨b,e,hb⟩:=h.tl i hi;by_cases ac:t.2.1=i
  ·subst ac;refine ⟨true,?_,fun h=>by cases h⟩;rw [List.getElem?_set_self (Qjk.1 e).1]
  ·refine ⟨b,by rw [List.getElem?_set_ne ac];exact e,fun c hm=>?_⟩;rw [List.map_append] at hm;rcases Qjo.1 hm with hm | hm
   ·exact hb c hm
   ·simp at hm;exact ac hm.symm
section
variable {R:Type} {l:List Int} (hl:l.length<=9223372036854775807) {P:R->Prop} {G:Geo} {Ro Ls:LL} (hg:GoodP G Ro Ls) (hL:Ls.length<=3)
include hl hg hL
theorem QfI {a b m:Nat} {b1:Int} {FA TA c d e f:LL} {T:List Tup} (ha:a<Ls.length) (hb:b<Ls.length) (hT:TInv G Ro Ls T FA TA) (a3:T.length<=100) {i:Nat} (hi:i<=l.length) {k0:Int->Bool->LL->LL->LL->Int->oP R}
  (H:∀ (FA TA:LL) (T':List Tup) (j:Nat),TInv G Ro Ls T' FA TA->T'.length<=T.length+1->j<=l.length->YG 400 (a:Int) ((Ls.length:Nat):Int) c Ro Ls d e f (encI l) b1 k0 m ((b+1:Nat):Int) FA TA (T'.map tuR) (j:Int)∈P) :
  YG 400 (a:Int) ((Ls.length:Nat):Int) c Ro Ls d e f (encI l) b1 k0 (m+1) (b:Int) FA TA (T.map tuR) (i:Int)∈P:=by
 have aw:wJ ((b:Int)+1)=((b+1:Nat):Int):=by rw [Q6 (by omega) (by omega)];omega
 rw [YG,QU (by simp;omega),aw];refine VU hl hi (by decide) (by decide) fun v j s u hj=>?_
 dsimp only;have ac:=H FA TA T j hT (by omega) hj;by_cases hv:v=0
 ·subst hv;rw [show decide ((0:Int)>0)=false from rfl];simp only [gbF,Qjg];exact ac
 rw [show decide (v>0)=true by simp;omega];obtain ⟨fb,ef,hf⟩:=hT.fl a (by omega);obtain ⟨tb,et,ht⟩:=hT.tl b (by omega);rw [ZI (by omega) (by omega),Q0,Int.toNat_natCast,ef,Q0];show gb true (some (D.bool fb)) _ (fun n=>gb true (Gx n) _ _)∈P;rw [Q0,show Gx (D.bool fb)=some fb from rfl,Q0];cases fb
 case true=>
  simp only [gbF,Qjj,Qjg,Qjl];exact ac
 rw [show (bif true then !false else false)=true from rfl,ZI (by omega) (by omega),Q0,Int.toNat_natCast,et,Q0];show gb true (some (D.bool tb)) _ (fun o=>gb true (Gx o) _ _)∈P;rw [Q0,show Gx (D.bool tb)=some tb from rfl,Q0];cases tb
 case true=>
  simp only [gbF,Qjj,Qjg,Qjl];exact ac
 obtain ⟨w,rides,z,r,x0,x,y0,y,b0,e1,e2,e3,g,e5,h⟩:=Q6h hg ha;obtain ⟨w',an,r',r1,x',x1,y',y1,a6,g1,g2,p,g4,k,g6⟩:=Q6h hg hb;have au:TM Ls a (rides.length-1) r:=⟨_,_,_,e1,g⟩;have al:TM Ls b 0 r':=⟨_,_,_,g1,p⟩;have ay:wJ (((rides.length:Nat):Int)-1)=((rides.length-1:Nat):Int):=by rw [Q6 (by omega) (by omega)];omega
 rw [show (bif true then !false else false)=true from rfl,ZI (by omega) (by omega),Q0,e1,Q0];show gb true (some (D.sl 4 rides)) _ (fun q=>gb true (pSl 4 q) _ _)∈P;rw [Q0,QA,Q0,ay,Qeh au h,Q0,show (0:Int)=((0:Nat):Int) from rfl,QbE al k,Q0];by_cases ak:y=x'
 case neg=>
  rw [Q8 (by simpa using ak)];exact ac
 subst ak;rw [QU (by simp),Q0,Q0,Q0,Q0];refine VU hl hj (by decide) (by decide) fun lo j l0 l1 hj=>?_
 refine VU hl hj (by decide) (by decide) fun aj j h0 h1 hj=>?_
 dsimp only;rw [XS (by simp;omega),Q0,Q6 (x:=10+lo) (by omega) (by omega),Q6 (x:=10+lo+aj) (by omega) (by omega)];have:=H _ _ (T++[(a,b,10+lo,10+lo+aj)]) j (hT.add (t:=(a,b,10+lo,10+lo+aj)) ⟨ha,hb,by simp;omega,by simp;omega,by simp;omega,by simp;omega,_,_,_,_,_,_,_,_,_,_,e1,g,by omega,by omega,al,h,k⟩ (hf rfl) (ht rfl)) (by simp) hj;rw [List.map_append] at this;exact this
theorem QbG {a:Nat} {b1:Int} {c d e f:LL} (ha:a<Ls.length) {k0:Int->Bool->LL->LL->LL->Int->oP R}:∀ (k m b:Nat) (FA TA:LL) (T:List Tup) (i:Nat),b+k=Ls.length->k<m->TInv G Ro Ls T FA TA->T.length+k<=60->i<=l.length ->
  (∀ (FA TA:LL) (T':List Tup) (j:Nat),TInv G Ro Ls T' FA TA->T'.length<=T.length+k->j<=l.length->k0 ((Ls.length:Nat):Int) false FA TA (T'.map tuR) (j:Int)∈P) ->
  YG 400 (a:Int) ((Ls.length:Nat):Int) c Ro Ls d e f (encI l) b1 k0 m (b:Int) FA TA (T.map tuR) (i:Int)∈P
 |0,m+1,b,FA,TA,T,i,hb,_,hT,ak,hi,H=>by
  have hb:b=Ls.length:=by omega
  subst hb;rw [YG,Q8 (by simp),show decide (((Ls.length:Nat):Int)<((Ls.length:Nat):Int))=false by simp];exact H FA TA T i hT (by omega) hi
 |k+1,m+1,b,FA,TA,T,i,hb,hm,hT,ak,hi,H=>by
  refine QfI hl hg hL ha (by omega) hT (by omega) hi fun FA TA T' j an ao hj=>?_
  exact QbG ha k m (b+1) FA TA T' j (by omega) (by omega) an (by omega) hj fun FA TA T'' j ac aj hj=>H FA TA T'' j ac (by omega) hj
theorem Qbq {b1:Int} {b c d e:LL} {k0:Int->Bool->LL->LL->LL->Int->oP R}:∀ (k m a:Nat) (FA TA:LL) (T:List Tup) (i:Nat),a+k=Ls.length->k<m->TInv G Ro Ls T FA TA->T.length+3*k<=50->i<=l.length ->
  (∀ (FA TA:LL) (T':List Tup) (j:Nat),TInv G Ro Ls T' FA TA->T'.length<=T.length+3*k->j<=l.length->k0 ((Ls.length:Nat):Int) false FA TA (T'.map tuR) (j:Int)∈P) ->
  Us 400 ((Ls.length:Nat):Int) b Ro Ls c d e (encI l) b1 k0 m (a:Int) FA TA (T.map tuR) (i:Int)∈P
 |0,m+1,a,FA,TA,T,i,hb,_,hT,ak,hi,H=>by
  have hb:a=Ls.length:=by omega
  subst hb;rw [Us,Q8 (by simp),show decide (((Ls.length:Nat):Int)<((Ls.length:Nat):Int))=false by simp];exact H FA TA T i hT (by omega) hi
 |k+1,m+1,a,FA,TA,T,i,hb,hm,hT,ak,hi,H=>by
  rw [Us,QU (by simp;omega)];refine QbG hl hg hL (by omega) Ls.length 400 0 FA TA T i (by omega) (by omega) hT (by omega) hi fun FA TA T' j an ao hj=>?_
  rw [show wJ ((a:Int)+1)=((a+1:Nat):Int) by rw [Q6 (by omega) (by omega)];omega];exact Qbq k m (a+1) FA TA T' j (by omega) (by omega) an (by omega) hj fun FA TA T'' j ac aj hj=>H FA TA T'' j ac (by omega) hj
theorem QfB {b1:Int} {a b c d:LL} {i:Nat} (hi:i<=l.length) {K:Int->LL->oP R}
  (H:∀ (T:List Tup) (j:Nat),(∀ t∈T,Q9v G Ro Ls t)->(T.map (·.1)).Nodup->(T.map (·.2.1)).Nodup->T.length<=20->j<=l.length->K (j:Int) (T.map tuR)∈P) :
  TF 400 (encI l) (i:Int) b1 a Ro Ls b [] c d K∈P:=by
 unfold TF;refine Qbq hl hg hL (T:=[]) Ls.length 400 0 _ _ i (by omega) (by omega) ⟨by simp,by simp,by simp,?_,?_⟩ (by simp;omega) hi fun FA TA T j hT aj hj=>?_
 ·intro i hi;obtain rfl | rfl | rfl | rfl:i=0\/i=1\/i=2\/i=3:=by omega
  all_goals exact ⟨false,rfl,by simp⟩
 ·intro i hi;obtain rfl | rfl | rfl | rfl:i=0\/i=1\/i=2\/i=3:=by omega
  all_goals exact ⟨false,rfl,by simp⟩
 ·exact H T j hT.ok hT.fd hT.td (by simp at aj;omega) hj
end
end Go.Vx
namespace Go.Vx
variable {R:Type}
def Mf (n:Nat) (a0:LL) (K:LL->Int->oP R):oP R:= K a0 0
def Gk (n:Nat) (c g e:LL) (k0:Int->Bool->Int->LL->LL->oP R):Nat->Int->Int->LL->LL->oP R
 | 0,_,_,_,_=>none
 | m+1,d,h,i,j=>bif decide (d>0) then gb true (Q5 n c h 2 Tu2) (0,0) fun k=>gb true (Q5 n c k.2 (e.length:Int) Tu2) (0,0) fun l=>gb true (V8 n g e c l.2 i j (k.1 == 0) (wJ (1+l.1)) Tu3) (0,[],[]) fun f=>Gk n c g e k0 m (wJ (d-1)) f.1 f.2.1 f.2.2 else k0 d (decide (d>0)) h i j
def Jj (n:Nat) (h:Int) (e k l a f o:LL) (k0:Int->Bool->Int->LL->oP R):Nat->Int->Int->LL->oP R
 | 0,_,_,_=>none
 | m+1,i,t,g=>bif (bif decide (i>0) then (decide ((a.length:Int)>1)) else false) then gb true (Q5 n e t (a.length:Int) Tu2) (0,0) fun d=>gb true (Q5 n e d.2 3 Tu2) (0,0) fun s=>gb true (nz (a.length:Int)) () fun ak=>gb true (inB (a.length) d.1) () fun al=>gb true (a[(Int.toNat d.1)]?) [] fun x=>gb true (x[3]?) oF fun y=>gb true (pSl 4 y) [] fun z=>gb true (Q5 n e s.2 (z.length:Int) Tu2) (0,0) fun p=>gb true (inB (a.length) (Int.tmod (wJ (d.1+1)) (a.length:Int))) () fun am=>gb true (a[(Int.toNat (Int.tmod (wJ (d.1+1)) (a.length:Int)))]?) [] fun aa=>gb true (aa[3]?) oF fun ab=>gb true (pSl 4 ab) [] fun ac=>gb true (Q5 n e p.2 (ac.length:Int) Tu2) (0,0) fun q=>gb true (Q5 n e q.2 20 Tu2) (0,0) fun j=>gb true (Q5 n e j.2 h Tu2) (0,0) fun r=>gb true (M7 n h k l a g o [] [] d.1 p.1 some) 0 fun u=>gb true (inB (f.length) u) () fun an=>gb true (f[u.toNat]?) [] fun ad=>gb true (ad[4]?) oF fun ae=>gb true (pIw ae) 0 fun ag=>gb true (Sl n h k l a g o [] [] (Int.tmod (wJ (d.1+1)) (a.length:Int)) q.1 some) 0 fun v=>gb true (inB (f.length) v) () fun ao=>gb true (f[v.toNat]?) [] fun ah=>gb true (ah[4]?) oF fun ai=>gb true (pIw ai) 0 fun aj=>bif (ag == aj) then gb true (Ym ((g.length+[[Q4 d.1,Q4 p.1,Q4 (Int.tmod (wJ (d.1+1)) (a.length:Int)),Q4 q.1,Q4 j.1,Q4 (wJ (j.1+r.1)),Q4 s.1]].length)*56)) () fun ap=>Jj n h e k l a f o k0 m (wJ (i-1)) r.2 (g++[[Q4 d.1,Q4 p.1,Q4 (Int.tmod (wJ (d.1+1)) (a.length:Int)),Q4 q.1,Q4 j.1,Q4 (wJ (j.1+r.1)),Q4 s.1]]) else Jj n h e k l a f o k0 m (wJ (i-1)) r.2 g else k0 i (bif decide (i>0) then (decide ((a.length:Int)>1)) else false) t g
def Vs (n:Nat) (e a:LL) (k0:Int->Bool->Int->LL->oP R):Nat->Int->Int->LL->oP R
 | 0,_,_,_=>none
 | m+1,f,j,g=>bif decide (f>0) then gb true (Q5 n e j (a.length:Int) Tu2) (0,0) fun d=>gb true (Q5 n e d.2 (wJ ((a.length:Int)-1)) Tu2) (0,0) fun h=>gb true (nz (a.length:Int)) () fun k=>gb true (Q5 n e h.2 9 Tu2) (0,0) fun i=>gb true (Ym ((g.length+[[Q4 d.1,Q4 (Int.tmod (wJ ((wJ (d.1+1))+h.1)) (a.length:Int)),Q4 (wJ (1+i.1))]].length)*24)) () fun l=>Vs n e a k0 m (wJ (f-1)) i.2 (g++[[Q4 d.1,Q4 (Int.tmod (wJ ((wJ (d.1+1))+h.1)) (a.length:Int)),Q4 (wJ (1+i.1))]]) else k0 f (decide (f>0)) j g
def Ho (n:Nat) (e a:LL) (k0:Int->Bool->Int->LL->oP R):Nat->Int->Int->LL->oP R
 | 0,_,_,_=>none
 | m+1,f,j,g=>bif decide (f>0) then gb true (Q5 n e j (a.length:Int) Tu2) (0,0) fun d=>gb true (Q5 n e d.2 (wJ ((a.length:Int)-1)) Tu2) (0,0) fun h=>gb true (nz (a.length:Int)) () fun k=>gb true (Q5 n e h.2 9 Tu2) (0,0) fun i=>gb true (Ym ((g.length+[[Q4 d.1,Q4 (Int.tmod (wJ ((wJ (d.1+1))+h.1)) (a.length:Int)),Q4 (wJ (1+i.1))]].length)*24)) () fun l=>Ho n e a k0 m (wJ (f-1)) i.2 (g++[[Q4 d.1,Q4 (Int.tmod (wJ ((wJ (d.1+1))+h.1)) (a.length:Int)),Q4 (wJ (1+i.1))]]) else k0 f (decide (f>0)) j g
def SD (n:Nat) (a0:LL) (K:LL->LL->LL->LL->Int->LL->LL->LL->LL->LL->LL->LL->oP R):oP R:= gb true (Mf n a0 Tu2) ([],0) fun a=>gb true (B8 n a.1 a.2 Tu8) ([],[],[],[],[],[],[],0) fun c=>gb true (Q5 n a.1 c.2.2.2.2.2.2.2 6 Tu2) (0,0) fun d=>gb true (inB (List.length [[Q4 150],[Q4 120],[Q4 180],[Q4 240],[Q4 300],[Q4 90]]) d.1) () fun u4=>gb true ([[Q4 150],[Q4 120],[Q4 180],[Q4 240],[Q4 300],[Q4 90]][(Int.toNat d.1)]?) [] fun m=>gb true (m[0]?) oF fun y=>gb true (pIw y) 0 fun e=>gb true (Q5 n a.1 d.2 2 Tu2) (0,0) fun f=>gb true (Q5 n a.1 f.2 4 Tu2) (0,0) fun g=>gb true (Q5 n a.1 g.2 3 Tu2) (0,0) fun h=>gb true (Q5 n a.1 h.2 3 Tu2) (0,0) fun i=>gb true (Q5 n a.1 i.2 3 Tu2) (0,0) fun q=>Gk n a.1 c.2.2.2.2.1 c.2.2.2.2.2.1 (fun ae ag z k j=>gb true (TF n a.1 z e [[D.str (bs [88]),Q4 (wJ (1+f.1)),Q4 (wJ (10000+(wJ (5000*g.1)))),Q4 (wJ (400+(wJ (200*h.1)))),Q4 (wJ (400+(wJ (200*i.1))))]] k j [] [] [] [] Tu2) (0,[]) fun l=>gb true (Q5 n a.1 l.1 3 Tu2) (0,0) fun r=>Jj n e a.1 [[D.str (bs [88]),Q4 (wJ (1+f.1)),Q4 (wJ (10000+(wJ (5000*g.1)))),Q4 (wJ (400+(wJ (200*h.1)))),Q4 (wJ (400+(wJ (200*i.1))))]] k j c.2.2.1 l.2 (fun ah ai aa s=>gb true (Q5 n a.1 aa 4 Tu2) (0,0) fun o=>bif (bif (o.1 == 3) then (decide ((j.length:Int)>1)) else false) then gb true (Q5 n a.1 o.2 e Tu2) (0,0) fun p=>gb true (Ym ((List.length ([]:LL)+[[Q4 0,Q4 0,Q4 1,Q4 0,Q4 p.1]].length)*40)) () fun aj=>gb true (Q5 n a.1 p.2 3 Tu2) (0,0) fun t=>Vs n a.1 c.1 (fun ak al am ab=>K c.1 c.2.1 c.2.2.1 c.2.2.2.1 e [[D.str (bs [88]),Q4 (wJ (1+f.1)),Q4 (wJ (10000+(wJ (5000*g.1)))),Q4 (wJ (400+(wJ (200*h.1)))),Q4 (wJ (400+(wJ (200*i.1))))]] k j s l.2 ([]++[[Q4 0,Q4 0,Q4 1,Q4 0,Q4 p.1]]) ab) n t.1 t.2 [] else gb true (Q5 n a.1 o.2 3 Tu2) (0,0) fun u=>Ho n a.1 c.1 (fun an ao ap ac=>K c.1 c.2.1 c.2.2.1 c.2.2.2.1 e [[D.str (bs [88]),Q4 (wJ (1+f.1)),Q4 (wJ (10000+(wJ (5000*g.1)))),Q4 (wJ (400+(wJ (200*h.1)))),Q4 (wJ (400+(wJ (200*i.1))))]] k j s l.2 [] ac) n u.1 u.2 []) n r.1 r.2 []) n (wJ (1+q.1)) q.2 [] []

end Go.Vx
namespace Go.Vx
theorem PD {w:LL} {x:Int} {r:List D} (h:Q1 w x=some r):inB w.length x=some ()/\w[x.toNat]? = some r:=by
 unfold Q1 at h;by_cases hx:0<=x
 ·rw [QU (by simpa using hx)] at h;have:=(Qjk.1 h).1;exact ⟨ZI hx (by omega),h⟩
 ·rw [Q8 (by simpa using hx)] at h;cases h
def Q5T (G:Geo) (per:Int) (Ro Ls:LL) (row:List D):Prop:=
 ∃ (f fr t tr:Nat) (mn mx w:Int) (r r':List D) (x y x' y':Int) (b b':Bool) (i:Int),row=[Q4 f,Q4 fr,Q4 t,Q4 tr,Q4 mn,Q4 mx,Q4 w]/\TM Ls f fr r/\TM Ls t tr r'/\PW G Ro r x y b/\PW G Ro r' x' y' b'/\f≠t/\(0<=mn/\mn<20/\mn<=mx/\mx<mn+per)/\(0<=w/\w<3) /\
  (∃ nm a c d,Q1 G.Se y=some [D.str nm,Q4 a,Q4 c,Q4 d,Q4 i])/\(∃ nm a c d,Q1 G.Se x'=some [D.str nm,Q4 a,Q4 c,Q4 d,Q4 i])/\0<=i
def QgM (per:Int) (Ls:LL) (row:List D):Prop:=∃ o:Int,row=[Q4 0,Q4 0,Q4 1,Q4 0,Q4 o]/\0<=o/\o<per/\2<=Ls.length
def QgV (N:Nat) (row:List D):Prop:=∃ f t w:Int,row=[Q4 f,Q4 t,Q4 w]/\(0<=f/\f<N)/\(0<=t/\t<N)/\f≠t/\1<=w/\w<=9
def Q1a (Sk:LL):Prop:=∃ a b c d:Int,Sk=[[D.str (bs [88]),Q4 a,Q4 b,Q4 c,Q4 d]]/\StkN a b c d
structure PlanR (G:Geo) (per:Int) (Sk Ro Ls Ch Tu Sy De:LL):Prop where
 ok:G.OK
 p0:90<=per
 p1:per<=300
 sk:Q1a Sk
 good:GoodP G Ro Ls
 l0:1<=Ls.length
 l1:Ls.length<=3
 rl:Ro.length<=6
 ch:∀ row∈Ch,Q5T G per Ro Ls row
 chl:Ch.length<=2
 tu:∃ T:List Tup,Tu=T.map tuR/\(∀ t∈T,Q9v G Ro Ls t)/\(T.map (·.1)).Nodup/\(T.map (·.2.1)).Nodup/\T.length<=20
 sy:∀ row∈Sy,QgM per Ls row
 syl:Sy.length<=1
 de:∀ row∈De,QgV G.N row
 del:De.length<=2
theorem Qi9 {pl:LL} (hp:pl=[[D.int .i64 (150:Int)],[D.int .i64 (120:Int)],[D.int .i64 (180:Int)],[D.int .i64 (240:Int)],[D.int .i64 (300:Int)],[D.int .i64 (90:Int)]]) {v:Int} (a:0<=v) (b:v<6) :
  ∃ per:Int,90<=per/\per<=300/\∀ {R:Type} (K:Int->oP R),gb true (inB (List.length pl) v) () (fun _=>gb true (pl[(Int.toNat v)]?) [] fun r=>gb true (r[0]?) oF fun c=>gb true (pIw c) 0 fun i=>K i)=K per:=by
 subst hp;obtain rfl | rfl | rfl | rfl | rfl | rfl:v=0\/v=1\/v=2\/v=3\/v=4\/v=5:=by omega
 ·exact ⟨150,by omega,by omega,fun K=>rfl⟩
 ·exact ⟨120,by omega,by omega,fun K=>rfl⟩
 ·exact ⟨180,by omega,by omega,fun K=>rfl⟩
 ·exact ⟨240,by omega,by omega,fun K=>rfl⟩
 ·exact ⟨300,by omega,by omega,fun K=>rfl⟩
 ·exact ⟨90,by omega,by omega,fun K=>rfl⟩
theorem DY {G:Geo} {Ro Ls:LL} (hg:GoodP G Ro Ls) {k:Nat} (hk:k<Ls.length):∃ (w:Int) (rides:LL),Ls[k]? = some [D.str (nmN k),Q4 0,Q4 w,D.sl 4 rides]/\(rides.length=1\/rides.length=2)/\∀ i,i<rides.length->∃ r x y b,TM Ls k i r/\PW G Ro r x y b:=by
 obtain ⟨w,rides,a,h2,d,c⟩:=hg.ls k _ (Qjh hk);have he:Ls[k]? = some [D.str (nmN k),Q4 0,Q4 w,D.sl 4 rides]:=by rw [Qjh hk,a]
 refine ⟨w,rides,he,?_⟩;rcases c with ⟨r,x,y,rfl,h⟩ | ⟨r,r',x,y,z,rfl,h,h'⟩
 ·refine ⟨.inl rfl,fun i hi=>?_⟩;have hi:i=0:=by simpa using hi
  subst hi;exact ⟨r,x,y,true,⟨_,_,_,he,rfl⟩,h⟩
 ·refine ⟨.inr rfl,fun i hi=>?_⟩;obtain rfl | rfl:i=0\/i=1:=by simp at hi;omega
  ·exact ⟨r,x,y,false,⟨_,_,_,he,rfl⟩,h⟩
  ·exact ⟨r',y,z,true,⟨_,_,_,he,rfl⟩,h'⟩
section
variable {R:Type} {l:List Int} (hl:l.length<=9223372036854775807) {P:R->Prop} {G:Geo} (hG:G.OK)
include hl hG
theorem Q3f {k0:Int->Bool->Int->LL->LL->oP R}:∀ (c m:Nat) (Ro Ls:LL) (i:Nat),c<m->Ls.length+c<=3->Ro.length<=2*Ls.length->GoodP G Ro Ls->i<=l.length ->
  (∀ (Ro' Ls':LL) (j:Nat),GoodP G Ro' Ls'->Ls'.length=Ls.length+c->Ro'.length<=2*Ls'.length->j<=l.length->k0 0 false (j:Int) Ro' Ls'∈P) ->
  Gk 400 (encI l) G.Tr G.Bt k0 m (c:Int) (i:Int) Ro Ls∈P
 |0,m+1,Ro,Ls,i,_,_,hR,hg,hi,H=>by
  rw [Gk];rw [Q8 (by simp),show decide (((0:Nat):Int)>0)=false by simp];exact H Ro Ls i hg rfl hR hi
 |c+1,m+1,Ro,Ls,i,hm,hL,hR,hg,hi,H=>by
  have hN:=hG.hN;have hb:=hG.btl;rw [Gk];rw [QU (by simp)];refine VU hl hi (by decide) (by decide) fun v j a b hj=>?_
  dsimp only;refine VU hl hj (by omega) (by omega) fun d j g0 g1 hj=>?_
  dsimp only;obtain ⟨nv,rfl⟩:=Qjn g0;rw [Q6 (x:=1+(nv:Int)) (by omega) (by omega),show (1:Int)+(nv:Int)=((1+nv:Nat):Int) by omega];refine okB (QgD hl hG (by omega) (by omega) hg (by omega) (by omega) hj fun Ro' Ls' j al ar aq hj=>okI ?_);dsimp only;rw [show wJ (((c+1:Nat):Int)-1)=(c:Int) by rw [Q6 (by omega) (by omega)];omega];exact Q3f c m Ro' Ls' j (by omega) (by omega) (by omega) al hj fun Ro'' Ls'' j ac ao aj hj=>H Ro'' Ls'' j ac (by omega) aj hj
omit hG in
theorem Lw {per:Int} {Ro Ls k n:LL} (d:90<=per) (e:per<=300) (hg:GoodP G Ro Ls) (hL:Ls.length<=3) {k0:Int->Bool->Int->LL->oP R}:∀ (c m:Nat) (Ch:LL) (i:Nat),c<m->Ch.length+c<=2->(∀ row∈Ch,Q5T G per Ro Ls row)->i<=l.length ->
  (∀ (h:Int) (b:Bool) (Ch:LL) (j:Nat),(∀ row∈Ch,Q5T G per Ro Ls row)->Ch.length<=2->j<=l.length->k0 h b (j:Int) Ch∈P) ->
  Jj 400 per (encI l) k Ro Ls G.Se n k0 m (c:Int) (i:Int) Ch∈P
 |0,m+1,Ch,i,_,az,hC,hi,H=>by
  rw [Jj];rw [show decide (((0:Nat):Int)>0)=false by simp,Qjg,Qjg];exact H _ _ Ch i hC (by omega) hi
 |c+1,m+1,Ch,i,hm,az,hC,hi,H=>by
  rw [Jj];rw [show decide (((c+1:Nat):Int)>0)=true by simp,Qjl];by_cases o:Ls.length<=1
  ·rw [show decide (((Ls.length:Nat):Int)>1)=false by simp;omega,Qjg];exact H _ _ Ch i hC (by omega) hi
  rw [show decide (((Ls.length:Nat):Int)>1)=true by simp;omega,Qjl];refine VU hl hi (by omega) (by omega) fun v j p o hj=>?_
  refine VU hl hj (by decide) (by decide) fun w j w0 q hj=>?_
  dsimp only;obtain ⟨f,rfl⟩:=Qjn p;have hf:f<Ls.length:=by omega
  obtain ⟨t,et,ht,a3⟩:∃ t:Nat,Int.tmod (wJ ((f:Int)+1)) ((Ls.length:Nat):Int)=(t:Int)/\t<Ls.length/\f≠t:=by
   rw [Q6 (by omega) (by omega),Int.tmod_eq_emod_of_nonneg (by omega)];refine ⟨(f+1) % Ls.length,by simp,Nat.mod_lt _ (by omega),?_⟩;by_cases h:f+1<Ls.length
   ·rw [Nat.mod_eq_of_lt h];omega
   ·rw [show f+1=Ls.length by omega,Nat.mod_self];omega
  rw [et];obtain ⟨w2,rides,e1,e2,s⟩:=DY hg hf;obtain ⟨bc,au,a4,a6,aw⟩:=DY hg ht;rw [Ei (by omega),Q0,ZI (by omega) (by omega),Q0,Int.toNat_natCast,e1,Q0];dsimp only [List.getElem?_cons_zero,List.getElem?_cons_succ];rw [Q0,QA,Q0];refine VU hl hj (by omega) (by omega) fun fr j a0 a1 hj=>?_
  dsimp only;rw [ZI (by omega) (by omega),Q0,Int.toNat_natCast,a4,Q0];dsimp only [List.getElem?_cons_zero,List.getElem?_cons_succ];rw [Q0,QA,Q0];refine VU hl hj (by omega) (by omega) fun tr j b0 b1 hj=>?_
  refine VU hl hj (by decide) (by decide) fun mn j c0 c1 hj=>?_
  dsimp only;refine VU hl hj (by omega) (by omega) fun mx j d0 d1 hj=>?_
  dsimp only;obtain ⟨fr,rfl⟩:=Qjn a0;obtain ⟨tr,rfl⟩:=Qjn b0;obtain ⟨r,x,y,b,hr,hR⟩:=s fr (by omega);obtain ⟨r',x',y',b',ak,al⟩:=aw tr (by omega);have an:=hR;have aj:=al;obtain ⟨_,_,_,_,_,_,_,hS,_⟩:=hR;obtain ⟨_,_,_,_,_,_,_,ay,_⟩:=al;obtain ⟨ab,a1,c1,d1,g,g1,u⟩:=hS.sy;obtain ⟨ac,a2,c2,d2,z,a,g4⟩:=ay.sx;rw [Qeh hr an,Q0,(PD g1).1,Q0,(PD g1).2,Q0];dsimp only [List.getElem?_cons_zero,List.getElem?_cons_succ];rw [Q0,Q2,Q0,QbE ak aj,Q0,(PD a).1,Q0,(PD a).2,Q0];dsimp only [List.getElem?_cons_zero,List.getElem?_cons_succ];rw [Q0,Q2,Q0];have ax:wJ (((c+1:Nat):Int)-1)=(c:Int):=by rw [Q6 (by omega) (by omega)];omega
  rw [ax];by_cases aq:g=z
  ·subst aq;rw [QU (by simp),XS (by simp;omega),Q0,Q6 (x:=mn+mx) (by omega) (by omega)];refine Lw d e hg hL c m _ j (by omega) (by simp;omega) (fun row ao=>?_) hj H;rcases Qjo.1 ao with h | h
   ·exact hC row h
   ·rw [Qjp.1 h];exact ⟨f,fr,t,tr,mn,mn+mx,w,r,r',x,y,x',y',b,b',g,rfl,hr,ak,an,aj,a3,⟨by omega,by omega,by omega,by omega⟩,⟨w0,q⟩,⟨_,_,_,_,g1⟩,⟨_,_,_,_,a⟩,u⟩
  ·rw [Q8 (by simpa using aq)];exact Lw d e hg hL c m _ j (by omega) (by omega) hC hj H
omit hl hG in
theorem Qif {N:Nat} (hN:N=2\/N=3) {f v:Int} (a:0<=f) (b:f<N) (g0:0<=v) (g1:v<N-1):∃ t:Int,Int.tmod (wJ ((wJ (f+1))+v)) ((N:Nat):Int)=t/\(0<=t/\t<N)/\f≠t:=by
 rw [Q6 (x:=f+1) (by omega) (by omega),Q6 (by omega) (by omega),Int.tmod_eq_emod_of_nonneg (by omega)];refine ⟨_,rfl,⟨Int.emod_nonneg _ (by omega),Int.emod_lt_of_pos _ (by omega)⟩,?_⟩;rcases hN with rfl | rfl <;> omega
theorem Q1V {k0:Int->Bool->Int->LL->oP R}:∀ (c m:Nat) (De:LL) (i:Nat),c<m->De.length+c<=2->(∀ row∈De,QgV G.N row)->i<=l.length ->
  (∀ (h:Int) (b:Bool) (De:LL) (j:Nat),(∀ row∈De,QgV G.N row)->De.length<=2->j<=l.length->k0 h b (j:Int) De∈P) ->
  Vs 400 (encI l) G.St k0 m (c:Int) (i:Int) De∈P
 |0,m+1,De,i,_,ak,hD,hi,H=>by
  rw [Vs];rw [show decide (((0:Nat):Int)>0)=false by simp,Qjg];exact H _ _ De i hD (by omega) hi
 |c+1,m+1,De,i,hm,ak,hD,hi,H=>by
  have hN:=hG.hN;rw [Vs];rw [show decide (((c+1:Nat):Int)>0)=true by simp,Qjl,hG.st,Q6 (x:=((G.N:Nat):Int)-1) (by omega) (by omega)];refine VU hl hi (by omega) (by omega) fun f j a d hj=>?_
  dsimp only;refine VU hl hj (by omega) (by omega) fun v j g0 g1 hj=>?_
  dsimp only;rw [Ei (by omega),Q0];refine VU hl hj (by decide) (by decide) fun w j w0 e hj=>?_
  dsimp only;obtain ⟨t,et,ht,al⟩:=Qif hN a d g0 g1;rw [XS (by simp;omega),Q0,et,Q6 (x:=1+w) (by omega) (by omega),show wJ (((c+1:Nat):Int)-1)=(c:Int) by rw [Q6 (by omega) (by omega)];omega];refine Q1V c m _ j (by omega) (by simp;omega) (fun row ac=>?_) hj H;rcases Qjo.1 ac with h | h
  ·exact hD row h
  ·rw [Qjp.1 h];exact ⟨f,t,1+w,rfl,⟨a,d⟩,ht,al,by omega,by omega⟩
omit hl hG in
theorem QdS {n:Nat} {l s:LL} {k0:Int->Bool->Int->LL->oP R}:∀ (m:Nat) (a:Int) (c:Int) (d:LL),Ho n l s k0 m a c d=Vs n l s k0 m a c d
 |0,_,_,_=>rfl
 |m+1,a,c,d=>by
  rw [Ho,Vs];simp only [QdS m]
end
theorem Q63 {v:Int} (h:0<=v):∃ n:Nat,v=(n:Int):=Qjn h
theorem QgW {R:Type} {l:List Int} (hl:l.length<=9223372036854775807) {P:R->Prop} {K:LL->LL->LL->LL->Int->LL->LL->LL->LL->LL->LL->LL->oP R}
  (H:∀ (G:Geo) (per:Int) (Sk Ro Ls Ch Tu Sy De:LL),PlanR G per Sk Ro Ls Ch Tu Sy De->K G.St G.Pt G.Se G.Li per Sk Ro Ls Ch Tu Sy De∈P):SD 400 (encI l) K∈P:=by
 unfold SD Mf;rw [Q0];dsimp only;refine okB (QhS (i:=0) hl (Nat.zero_le _) fun G j hG hj=>okI ?_);dsimp only;refine VU hl hj (by decide) (by decide) fun v j f g hj=>?_
 dsimp only;obtain ⟨per,p0,p1,e⟩:=Qi9 rfl f g;rw [e];refine VU hl hj (by decide) (by decide) fun a j a0 a1 hj=>?_
 refine VU hl hj (by decide) (by decide) fun b j b0 b1 hj=>?_
 refine VU hl hj (by decide) (by decide) fun c j c0 c1 hj=>?_
 refine VU hl hj (by decide) (by decide) fun d j d0 d1 hj=>?_
 refine VU hl hj (by decide) (by decide) fun k j k0 k1 hj=>?_
 dsimp only;obtain ⟨k,rfl⟩:=Q63 k0;rw [Q6 (x:=1+(k:Int)) (by omega) (by omega),show (1:Int)+(k:Int)=((k+1:Nat):Int) by omega,Q6 (x:=1+a) (by omega) (by omega),Q6 (x:=5000*b) (by omega) (by omega),Q6 (x:=10000+5000*b) (by omega) (by omega),Q6 (x:=200*c) (by omega) (by omega),Q6 (x:=400+200*c) (by omega) (by omega),Q6 (x:=200*d) (by omega) (by omega),Q6 (x:=400+200*d) (by omega) (by omega)];have ac:Q1a [[D.str (bs [88]),D.int .i64 (1+a),D.int .i64 (10000+5000*b),D.int .i64 (400+200*c),D.int .i64 (400+200*d)]]:=⟨_,_,_,_,rfl,by omega,by omega,by omega,by omega,by omega,by omega,by omega,by omega⟩;revert ac;generalize [[D.str (bs [88]),D.int .i64 (1+a),D.int .i64 (10000+5000*b),D.int .i64 (400+200*c),D.int .i64 (400+200*d)]]=Sk;intro ac;refine Q3f hl hG (k+1) 400 [] [] j (by omega) (by simp;omega) (by simp) ⟨(fun row h=>nomatch h),(fun k row h=>nomatch h)⟩ hj fun Ro Ls j hg hL hR hj=>?_
 simp at hL;refine okB (QfB hl hg (by omega) hj fun T j al ak aq an hj=>okI ?_);dsimp only;refine VU hl hj (by decide) (by decide) fun k j k0 k1 hj=>?_
 dsimp only;obtain ⟨k,rfl⟩:=Q63 k0;refine Lw hl p0 p1 hg (by omega) k 400 [] j (by omega) (by simp;omega) (fun row h=>nomatch h) hj fun f b0 Ch j hC ao hj=>?_
 refine VU hl hj (by decide) (by decide) fun v j f g hj=>?_
 dsimp only;by_cases hv:v=3/\1<Ls.length
 ·obtain ⟨rfl,h2⟩:=hv;rw [show ((3:Int) == 3)=true from rfl,show decide (((Ls.length:Nat):Int)>1)=true by simp;omega,Qjl,Qjl];refine VU hl hj (by omega) (by omega) fun o j n p hj=>?_
  dsimp only;rw [XS (by simp),Q0];refine VU hl hj (by decide) (by decide) fun k j k0 k1 hj=>?_
  dsimp only;obtain ⟨k,rfl⟩:=Q63 k0;refine Q1V hl hG k 400 [] j (by omega) (by simp;omega) (fun row h=>nomatch h) hj fun f b0 De j hD aj hj=>?_
  refine H G per Sk Ro Ls Ch _ _ De ⟨hG,p0,p1,ac,hg,by omega,by omega,by omega,hC,ao,⟨T,rfl,al,ak,aq,an⟩,fun row h=>?_,by simp,hD,aj⟩;simp at h;exact ⟨o,h,n,p,h2⟩
 ·rw [show (bif (v == (3:Int)) then (decide (((List.length Ls:Nat):Int)>(1:Int))) else false)=false by
   by_cases m:v=3
   ·rw [show (v == (3:Int))=true by simp [m],Qjl];simp;omega
   ·rw [show (v == (3:Int))=false by simpa using m,Qjg]]
  rw [Qjg];refine VU hl hj (by decide) (by decide) fun k j k0 k1 hj=>?_
  dsimp only;obtain ⟨k,rfl⟩:=Q63 k0;rw [QdS];refine Q1V hl hG k 400 [] j (by omega) (by simp;omega) (fun row h=>nomatch h) hj fun f b0 De j hD aj hj=>?_
  exact H G per Sk Ro Ls Ch _ _ De ⟨hG,p0,p1,ac,hg,by omega,by omega,by omega,hC,ao,⟨T,rfl,al,ak,aq,an⟩,(fun row h=>nomatch h),by simp,hD,aj⟩
end Go.Vx
namespace Go.Vx
variable {R:Type}
def ZZ (n:Nat) (d:LL) (c:Int) (k0:oP R) (k1:Int->Bool->oP R):Nat->Int->oP R
 | 0,_=>none
 | m+1,a=>bif decide (a<c) then gb true (Q1 d a) [] fun b=>gb true (b[0]?) oF fun g=>gb true (b[1]?) oF fun h=>gb true (b[2]?) oF fun i=>gb true (b[3]?) oF fun e=>gb true (pSl 4 e) [] fun f=>bif (decide ((f.length:Int)>12)) then k0 else ZZ n d c k0 k1 m (wJ (a+1)) else k1 a (decide (a<c))
def Vc (n:Nat) (i j k l:LL) (c:Int) (d e b f g h m:LL) (K:Int->oP R):oP R:= gb true (ZN n i j k l some) 0 fun o=>bif (o != 0) then K 1 else jn (fun (p:Bool)=>bif p then K 7 else ZZ n b (b.length:Int) (K 7) (fun q r=>bif (bif decide (c<2) then true else (decide (c>7200))) then K 4 else K 0) n 0) fun a=>bif (decide ((d.length:Int)>8)) then a (decide ((d.length:Int)>8)) else bif (decide ((e.length:Int)>48)) then a (decide ((e.length:Int)>48)) else bif (decide ((b.length:Int)>16)) then a (decide ((b.length:Int)>16)) else bif (decide ((f.length:Int)>32)) then a (decide ((f.length:Int)>32)) else bif (decide ((g.length:Int)>32)) then a (decide ((g.length:Int)>32)) else bif (decide ((h.length:Int)>32)) then a (decide ((h.length:Int)>32)) else a (decide ((m.length:Int)>32))
def Vy (n:Nat) (a b:List UInt8) (K:Bool->oP R):oP R:= K (a == b)

def QR (n:Nat) (c:LL) (h2:Int) (d:List UInt8) (k0:Int->oP R) (k1:Int->Bool->oP R):Nat->Int->oP R
 | 0,_=>none
 | m+1,a=>bif decide (a<h2) then gb true (Q1 c a) [] fun b=>gb true (b[0]?) oF fun e=>gb true (b[1]?) oF fun f=>gb true (b[2]?) oF fun g=>gb true (b[3]?) oF fun h=>gb true (b[4]?) oF fun i=>gb true (Nk e) [] fun j=>gb true (pIw f) 0 fun l=>gb true (pIw g) 0 fun o=>gb true (pIw h) 0 fun p=>gb true (pIw i) 0 fun q=>gb true (Vy n j d some) false fun k=>bif k then k0 a else QR n c h2 d k0 k1 m (wJ (a+1)) else k1 a (decide (a<h2))
def Y0 (n:Nat) (a0:LL) (a:List UInt8) (K:Int->oP R):oP R:= QR n a0 (a0.length:Int) a (fun b=>K b) (fun c d=>K (-1:Int)) n 0

def XH (n:Nat) (a0:LL) (a:List UInt8) (K:Bool->oP R):oP R:= gb true (Y0 n a0 a some) 0 fun b=>K (decide (b>=0))

def G1 (n:Nat) (d:LL) (h2:Int) (c:LL) (k0:Int->oP R) (k1:Int->Bool->oP R):Nat->Int->oP R
 | 0,_=>none
 | m+1,a=>bif decide (a<h2) then gb true (Q1 d a) [] fun b=>gb true (b[0]?) oF fun e=>gb true (b[1]?) oF fun g=>gb true (b[2]?) oF fun h=>gb true (b[3]?) oF fun i=>gb true (b[4]?) oF fun j=>gb true (Nk e) [] fun k=>gb true (KV n k some) false fun l=>bif !l then k0 3 else gb true (slB (c.length) none (some a)) (0,0) fun o=>gb true (Nk e) [] fun f=>gb true (pIw g) 0 fun p=>gb true (pIw h) 0 fun q=>gb true (pIw i) 0 fun r=>gb true (pIw j) 0 fun s=>gb true (XH n (cut c o) f some) false fun t=>bif t then k0 5 else gb true (UR n f p q r s some) false fun u=>bif !u then k0 4 else G1 n d h2 c k0 k1 m (wJ (a+1)) else k1 a (decide (a<h2))
def Uw (n:Nat) (c d e f:LL) (g:Int) (a h i j k l m:LL) (K:Int->oP R):oP R:= G1 n a (a.length:Int) a (fun b=>K b) (fun o p=>K 0) n 0

def Zl (n:Nat) (b:LL) (h2:Int) (c d e f:LL) (k0:Int->oP R) (k1:Int->Bool->oP R):Nat->Int->oP R
 | 0,_=>none
 | m+1,a=>bif decide (a<h2) then gb true (Q1 b a) [] fun g=>gb true (g[0]?) oF fun i=>gb true (g[1]?) oF fun j=>gb true (pSl 2 i) [] fun k=>gb true (pIw j) 0 fun l=>gb true (Pe n c d e f k l some) 0 fun h=>bif (h != 0) then k0 h else Zl n b h2 c d e f k0 k1 m (wJ (a+1)) else k1 a (decide (a<h2))
def Uu (n:Nat) (b c d e:LL) (g:Int) (h a i j k l m:LL) (K:Int->oP R):oP R:= Zl n a (a.length:Int) b c d e (fun f=>K f) (fun o p=>K 0) n 0

def Wk (n:Nat) (a b:List UInt8) (K:Bool->oP R):oP R:= K (a == b)

def Qb (n:Nat) (c:LL) (h2:Int) (d:List UInt8) (k0:Int->oP R) (k1:Int->Bool->oP R):Nat->Int->oP R
 | 0,_=>none
 | m+1,a=>bif decide (a<h2) then gb true (Q1 c a) [] fun b=>gb true (b[0]?) oF fun e=>gb true (b[1]?) oF fun f=>gb true (b[2]?) oF fun g=>gb true (b[3]?) oF fun h=>gb true (Nk e) [] fun i=>gb true (pIw f) 0 fun k=>gb true (pIw g) 0 fun l=>gb true (pSl 4 h) [] fun o=>gb true (Wk n i d some) false fun j=>bif j then k0 a else Qb n c h2 d k0 k1 m (wJ (a+1)) else k1 a (decide (a<h2))
def X3 (n:Nat) (a0:LL) (a:List UInt8) (K:Int->oP R):oP R:= Qb n a0 (a0.length:Int) a (fun b=>K b) (fun c d=>K (-1:Int)) n 0

def Qq (n:Nat) (a0:LL) (a:List UInt8) (K:Bool->oP R):oP R:= gb true (X3 n a0 a some) 0 fun b=>K (decide (b>=0))

def TR (n:Nat) (a0:Int) (K:Bool->oP R):oP R:= K (bif decide (a0>=0) then (decide (a0<=1048576)) else false)

def KL (n:Nat) (a:Int) (b c d e f g h:LL) (a1 a2:Int) (K:Bool->oP R):oP R:= K (bif (bif (bif decide (0<=a1) then (decide (a1<=a2)) else false) then (decide (a2<=7200)) else false) then (decide (a2<(wJ (a1+a)))) else false)

def TL (n:Nat) (i:Int) (j a k l m o p:LL) (b q r s:Int) (K:Int->oP R):oP R:= gb true (Q1 a b) [] fun c=>gb true (c[0]?) oF fun d=>gb true (pSl 2 d) [] fun e=>gb true (Q1 e 0) [] fun f=>gb true (f[0]?) oF fun g=>gb true (pIw g) 0 fun h=>K h

def Su (n:Nat) (l:Int) (m a o p q r s:LL) (b t u v:Int) (K:Int->oP R):oP R:= gb true (Q1 a b) [] fun d=>gb true (d[0]?) oF fun e=>gb true (pSl 2 e) [] fun c=>gb true (Q1 a b) [] fun f=>gb true (f[1]?) oF fun g=>gb true (pIw g) 0 fun h=>gb true (Q1 c (wJ ((wJ ((c.length:Int)-h))-1))) [] fun i=>gb true (i[0]?) oF fun j=>gb true (pIw j) 0 fun k=>K k

def JU (n:Nat) (ac ad ae ag:LL) (d:Int) (g b k l m o p:LL) (bt:List UInt8) (ah bu:Int) (e:LL) (a:Int) (K:Int->oP R):oP R:= gb true (Q1 e a) [] fun h=>gb true (h[0]?) oF fun i=>gb true (h[1]?) oF fun q=>gb true (h[2]?) oF fun r=>gb true (h[3]?) oF fun s=>jn (fun (ai:Bool)=>bif ai then K 4 else gb true (pIw i) 0 fun aj=>gb true (Q1 b aj) [] fun t=>gb true (t[0]?) oF fun ak=>gb true (t[1]?) oF fun al=>gb true (Q1 g ah) [] fun f=>gb true (f[0]?) oF fun am=>gb true (f[1]?) oF fun an=>gb true (f[2]?) oF fun ao=>gb true (f[3]?) oF fun ap=>gb true (f[4]?) oF fun aq=>gb true (pSl 2 ak) [] fun ar=>gb true (pIw al) 0 fun au=>gb true (Nk am) [] fun av=>gb true (pIw an) 0 fun aw=>gb true (pIw ao) 0 fun ax=>gb true (pIw ap) 0 fun ay=>gb true (pIw aq) 0 fun az=>gb true (GC n ac ad ae ag ar au av aw ax ay az some) 0 fun u=>bif (u != 0) then K u else gb (decide (a>0)) (pIw i) 0 fun ba=>gb (decide (a>0)) (pIw q) 0 fun bb=>gb (decide (a>0)) (pIw r) 0 fun bc=>gb (decide (a>0)) (pIw s) 0 fun bd=>gb (decide (a>0)) (TL n d g b k l m o p ba bb bc bd some) 0 fun be=>gb (decide (a>0)) (Q1 e (wJ (a-1))) [] fun j=>gb (decide (a>0)) (j[0]?) oF fun bg=>gb (decide (a>0)) (j[1]?) oF fun bh=>gb (decide (a>0)) (j[2]?) oF fun bi=>gb (decide (a>0)) (j[3]?) oF fun bj=>gb (decide (a>0)) (pIw bg) 0 fun bk=>gb (decide (a>0)) (pIw bh) 0 fun bl=>gb (decide (a>0)) (pIw bi) 0 fun bm=>gb (decide (a>0)) (pIw bj) 0 fun bn=>gb (decide (a>0)) (Su n d g b k l m o p bk bl bm bn some) 0 fun bo=>bif (bif decide (a>0) then (be != bo) else false) then K 11 else K 0) fun c=>gb true (pIw i) 0 fun v=>bif decide (v<0) then c (decide (v<0)) else gb true (pIw i) 0 fun x=>bif (decide (x>=(b.length:Int))) then c (decide (x>=(b.length:Int))) else gb true (pIw q) 0 fun y=>bif decide (y<0) then c (decide (y<0)) else gb true (pIw q) 0 fun z=>bif decide (z>=d) then c (decide (z>=d)) else gb true (pIw r) 0 fun bp=>gb true (pIw s) 0 fun bq=>gb true (KL n d g b k l m o p bp bq some) false fun aa=>bif !aa then c (!aa) else gb (a == (wJ ((e.length:Int)-1))) (pIw r) 0 fun ab=>gb ((a == (wJ ((e.length:Int)-1)))&&(!(ab != 0))) (pIw s) 0 fun br=>c (bif (a == (wJ ((e.length:Int)-1))) then (bif (ab != 0) then true else (br != 0)) else false)

def ZY (n:Nat) (b:Int) (c d e f:LL) (g:Int) (h i j k l o p:LL) (q:List UInt8) (r s:Int) (t:LL) (k0:Int->oP R) (k1:Int->Bool->oP R):Nat->Int->oP R
 | 0,_=>none
 | m+1,a=>bif decide (a<b) then gb true (JU n c d e f g h i j k l o p q r s t a some) 0 fun u=>bif (u != 0) then k0 u else ZY n b c d e f g h i j k l o p q r s t k0 k1 m (wJ (a+1)) else k1 a (decide (a<b))
def ZX (n:Nat) (h:LL) (h2:Int) (i j k l:LL) (o:Int) (c p d q r s t:LL) (k0:Int->oP R) (k1:Int->Bool->oP R):Nat->Int->oP R
 | 0,_=>none
 | m+1,a=>bif decide (a<h2) then gb true (Q1 h a) [] fun e=>gb true (e[0]?) oF fun u=>gb true (e[1]?) oF fun y=>gb true (e[2]?) oF fun z=>gb true (e[3]?) oF fun aa=>gb true (Nk u) [] fun ab=>gb true (KV n ab some) false fun ac=>bif !ac then k0 3 else gb true (slB (d.length) none (some a)) (0,0) fun ad=>gb true (Nk u) [] fun v=>gb true (pIw y) 0 fun b=>gb true (pIw z) 0 fun x=>gb true (pSl 4 aa) [] fun f=>gb true (Qq n (cut d ad) v some) false fun ae=>bif ae then k0 5 else jn (fun (ag:Bool)=>bif ag then k0 4 else bif ((f.length:Int) == 0) then k0 1 else ZY n (f.length:Int) i j k l o c p d q r s t v b x f (fun ah=>k0 ah) (fun aj ak=>ZX n h h2 i j k l o c p d q r s t k0 k1 m (wJ (a+1))) n 0) fun g=>bif decide (b<0) then g (decide (b<0)) else bif (decide (b>=(c.length:Int))) then g (decide (b>=(c.length:Int))) else gb true (TR n x some) false fun ai=>g (!ai) else k1 a (decide (a<h2))
def Vp (n:Nat) (b c d e:LL) (f:Int) (g h a i j k l:LL) (K:Int->oP R):oP R:= ZX n a (a.length:Int) b c d e f g h a i j k l (fun m=>K m) (fun o p=>K 0) n 0

def Gj (n:Nat) (b:Int) (c d a e f g h:LL) (a1:Int) (K:Bool->oP R):oP R:= K (bif decide (a1>=0) then (decide (a1<(a.length:Int))) else false)

def UF (n:Nat) (c:Int) (d e b f g h i:LL) (a1 a2:Int) (K:Bool->oP R):oP R:= gb true (Gj n c d e b f g h i a1 some) false fun a=>gb (bif a then (decide (a2>=0)) else false) (Q1 b a1) [] fun j=>gb (bif a then (decide (a2>=0)) else false) (j[3]?) oF fun k=>gb (bif a then (decide (a2>=0)) else false) (pSl 4 k) [] fun l=>K (bif (bif a then (decide (a2>=0)) else false) then (decide (a2<(l.length:Int))) else false)

def Z9 (n:Nat) (x:LL) (h2:Int) (s:LL) (e:Int) (f g b h i j k:LL) (k0:Int->oP R) (k1:Int->Bool->oP R):Nat->Int->oP R
 | 0,_=>none
 | m+1,p=>bif decide (p<h2) then gb true (Q1 x p) [] fun d=>gb true (d[0]?) oF fun t=>gb true (d[1]?) oF fun y=>gb true (d[2]?) oF fun u=>gb true (d[3]?) oF fun z=>gb true (d[4]?) oF fun ab=>gb true (d[5]?) oF fun ac=>gb true (d[6]?) oF fun ad=>gb true (pIw t) 0 fun ae=>gb true (pIw y) 0 fun ag=>gb true (UF n e f g b h i j k ae ag some) false fun a=>gb (!(!a)) (pIw u) 0 fun ah=>gb (!(!a)) (pIw z) 0 fun ai=>gb (!(!a)) (UF n e f g b h i j k ah ai some) false fun c=>gb (!(bif !a then true else (!c))) (pIw t) 0 fun l=>gb (!(bif !a then true else (!c))) (pIw u) 0 fun o=>gb (!(bif (bif !a then true else (!c)) then true else (l == o))) (pIw ab) 0 fun aj=>gb (!(bif (bif !a then true else (!c)) then true else (l == o))) (pIw ac) 0 fun ak=>gb (!(bif (bif !a then true else (!c)) then true else (l == o))) (KL n e f g b h i j k aj ak some) false fun v=>gb (!(bif (bif (bif !a then true else (!c)) then true else (l == o)) then true else (!v))) (pIw ad) 0 fun al=>gb (!(bif (bif (bif !a then true else (!c)) then true else (l == o)) then true else (!v))) (TR n al some) false fun am=>bif (bif (bif (bif (bif !a then true else (!c)) then true else (l == o)) then true else (!v)) then true else (!am)) then k0 4 else gb true (pIw t) 0 fun an=>gb true (Q1 b an) [] fun ao=>gb true (ao[3]?) oF fun ap=>gb true (pSl 4 ap) [] fun aq=>gb true (pIw y) 0 fun ar=>gb true (Q1 aq ar) [] fun q=>gb true (q[0]?) oF fun au=>gb true (q[1]?) oF fun av=>gb true (q[2]?) oF fun aw=>gb true (q[3]?) oF fun ax=>gb true (pIw au) 0 fun ay=>gb true (pIw av) 0 fun az=>gb true (pIw aw) 0 fun ba=>gb true (pIw ax) 0 fun bb=>gb true (Su n e f g b h i j k ay az ba bb some) 0 fun bc=>gb true (Q1 s bc) [] fun bd=>gb true (bd[4]?) oF fun be=>gb true (pIw be) 0 fun aa=>gb true (pIw u) 0 fun bg=>gb true (Q1 b bg) [] fun bh=>gb true (bh[3]?) oF fun bi=>gb true (pSl 4 bi) [] fun bj=>gb true (pIw z) 0 fun bk=>gb true (Q1 bj bk) [] fun r=>gb true (r[0]?) oF fun bl=>gb true (r[1]?) oF fun bm=>gb true (r[2]?) oF fun bn=>gb true (r[3]?) oF fun bo=>gb true (pIw bl) 0 fun bp=>gb true (pIw bm) 0 fun bq=>gb true (pIw bn) 0 fun br=>gb true (pIw bo) 0 fun bt=>gb true (TL n e f g b h i j k bp bq br bt some) 0 fun bu=>gb true (Q1 s bu) [] fun bv=>gb true (bv[4]?) oF fun bx=>gb true (pIw bx) 0 fun bz=>bif (bif (aa == (-1:Int)) then true else (aa != bz)) then k0 11 else Z9 n x h2 s e f g b h i j k k0 k1 m (wJ (p+1)) else k1 p (decide (p<h2))
def WQ (n:Nat) (k l b m:LL) (c:Int) (d e f a g h i:LL) (K:Int->oP R):oP R:= Z9 n a (a.length:Int) b c d e f a g h i (fun j=>K j) (fun o p=>K 0) n 0

def Wi (n:Nat) (a b c d:Int) (K:Bool->oP R):oP R:= K (bif (a == c) then true else (b == d))

def Qc (n:Nat) (c:LL) (h2 d e:Int) (k0:Int->oP R) (k1:Int->Bool->oP R):Nat->Int->oP R
 | 0,_=>none
 | m+1,a=>bif decide (a<h2) then gb true (Q1 c a) [] fun b=>gb true (b[0]?) oF fun f=>gb true (b[1]?) oF fun g=>gb true (b[2]?) oF fun h=>gb true (b[3]?) oF fun i=>gb true (pIw f) 0 fun j=>gb true (pIw g) 0 fun k=>gb true (pIw h) 0 fun o=>gb true (pIw i) 0 fun p=>gb true (Wi n j k d e some) false fun l=>bif l then k0 a else Qc n c h2 d e k0 k1 m (wJ (a+1)) else k1 a (decide (a<h2))
def X4 (n:Nat) (a0:LL) (a b:Int) (K:Int->oP R):oP R:= Qc n a0 (a0.length:Int) a b (fun c=>K c) (fun d e=>K (-1:Int)) n 0

def Qo (n:Nat) (a0:LL) (a b:Int) (K:Bool->oP R):oP R:= gb true (X4 n a0 a b some) 0 fun c=>K (decide (c>=0))

def We (n:Nat) (u:LL) (h2 c:Int) (d e a f b g h:LL) (k0:Int->oP R) (k1:Int->Bool->oP R):Nat->Int->oP R
 | 0,_=>none
 | m+1,i=>bif decide (i<h2) then gb true (Q1 u i) [] fun k=>gb true (k[0]?) oF fun v=>gb true (k[1]?) oF fun x=>gb true (k[2]?) oF fun y=>gb true (k[3]?) oF fun z=>gb true (pIw v) 0 fun ad=>gb true (Gj n c d e a f b g h ad some) false fun j=>gb (!(!j)) (pIw x) 0 fun ae=>gb (!(!j)) (Gj n c d e a f b g h ae some) false fun l=>gb (!(bif !j then true else (!l))) (pIw y) 0 fun ag=>gb (!(bif !j then true else (!l))) (pIw z) 0 fun ah=>gb (!(bif !j then true else (!l))) (KL n c d e a f b g h ag ah some) false fun ai=>bif (bif (bif !j then true else (!l)) then true else (!ai)) then k0 4 else gb true (slB (b.length) none (some i)) (0,0) fun aj=>gb true (pIw v) 0 fun aa=>gb true (pIw x) 0 fun ab=>gb true (pIw y) 0 fun bm=>gb true (pIw z) 0 fun bn=>gb true (Qo n (cut b aj) aa ab some) false fun ak=>bif ak then k0 5 else gb true (Q1 a aa) [] fun o=>gb true (o[0]?) oF fun bo=>gb true (o[1]?) oF fun al=>gb true (o[2]?) oF fun bp=>gb true (o[3]?) oF fun ac=>gb true (Q1 a ab) [] fun p=>gb true (p[0]?) oF fun bq=>gb true (p[1]?) oF fun am=>gb true (p[2]?) oF fun br=>gb true (p[3]?) oF fun an=>gb true (pSl 4 ac) [] fun ao=>gb true (pSl 4 ac) [] fun ap=>gb true (Q1 ao (wJ ((ap.length:Int)-1))) [] fun q=>gb true (q[0]?) oF fun aq=>gb true (q[1]?) oF fun ar=>gb true (q[2]?) oF fun au=>gb true (q[3]?) oF fun av=>gb true (pIw aq) 0 fun aw=>gb true (pIw ar) 0 fun ax=>gb true (pIw au) 0 fun ay=>gb true (pIw av) 0 fun az=>gb true (Su n c d e a f b g h aw ax ay az some) 0 fun s=>gb true (pSl 4 an) [] fun ba=>gb true (Q1 ba 0) [] fun r=>gb true (r[0]?) oF fun bb=>gb true (r[1]?) oF fun bc=>gb true (r[2]?) oF fun bd=>gb true (r[3]?) oF fun be=>gb true (pIw bb) 0 fun bg=>gb true (pIw bc) 0 fun bh=>gb true (pIw bd) 0 fun bi=>gb true (pIw be) 0 fun bj=>gb true (TL n c d e a f b g h bg bh bi bj some) 0 fun t=>gb (!(s != t)) (pIw al) 0 fun bk=>gb (!(s != t)) (pIw am) 0 fun bl=>bif (bif (s != t) then true else (bk != bl)) then k0 11 else We n u h2 c d e a f b g h k0 k1 m (wJ (i+1)) else k1 i (decide (i<h2))
def Vo (n:Nat) (j k l m:LL) (b:Int) (c d e f a g h:LL) (K:Int->oP R):oP R:= We n a (a.length:Int) b c d e f a g h (fun i=>K i) (fun o p=>K 0) n 0

def ZR (n:Nat) (s:LL) (h2 g:Int) (h i j k l o p:LL) (k0:oP R) (k1:Int->Bool->oP R):Nat->Int->oP R
 | 0,_=>none
 | m+1,c=>bif decide (c<h2) then gb true (Q1 s c) [] fun d=>gb true (d[0]?) oF fun t=>gb true (d[1]?) oF fun u=>gb true (d[2]?) oF fun v=>gb true (d[3]?) oF fun x=>gb true (d[4]?) oF fun y=>gb true (pIw t) 0 fun aa=>gb true (pIw u) 0 fun ab=>gb true (UF n g h i j k l o p aa ab some) false fun a=>gb (!(!a)) (pIw v) 0 fun ac=>gb (!(!a)) (pIw x) 0 fun ad=>gb (!(!a)) (UF n g h i j k l o p ac ad some) false fun b=>gb (!(bif !a then true else (!b))) (pIw t) 0 fun e=>gb (!(bif !a then true else (!b))) (pIw v) 0 fun f=>gb ((!(bif !a then true else (!b)))&&(e == f)) (pIw u) 0 fun q=>gb ((!(bif !a then true else (!b)))&&(e == f)) (pIw x) 0 fun r=>gb (!(bif (bif !a then true else (!b)) then true else (bif (e == f) then (q == r) else false))) (pIw y) 0 fun z=>gb (!(bif (bif (bif !a then true else (!b)) then true else (bif (e == f) then (q == r) else false)) then true else (decide (z<0)))) (pIw y) 0 fun ae=>bif (bif (bif (bif (bif !a then true else (!b)) then true else (bif (e == f) then (q == r) else false)) then true else (decide (z<0))) then true else (decide (ae>=g))) then k0 else ZR n s h2 g h i j k l o p k0 k1 m (wJ (c+1)) else k1 c (decide (c<h2))
def Vh (n:Nat) (i j k l:LL) (b:Int) (c d e f g a h:LL) (K:Int->oP R):oP R:= ZR n a (a.length:Int) b c d e f g a h (K 4) (fun m o=>K 0) n 0

def Z8 (n:Nat) (l:LL) (h2:Int) (a:LL) (k0:oP R) (k1:Int->Bool->oP R):Nat->Int->oP R
 | 0,_=>none
 | m+1,e=>bif decide (e<h2) then gb true (Q1 l e) [] fun g=>gb true (g[0]?) oF fun h=>gb true (g[1]?) oF fun i=>gb true (g[2]?) oF fun o=>gb true (pIw h) 0 fun b=>gb (!(decide (b<0))) (pIw h) 0 fun c=>gb (!(bif decide (b<0) then true else (decide (c>=(a.length:Int))))) (pIw i) 0 fun d=>gb (!(bif (bif decide (b<0) then true else (decide (c>=(a.length:Int)))) then true else (decide (d<0)))) (pIw i) 0 fun f=>gb (!(bif (bif (bif decide (b<0) then true else (decide (c>=(a.length:Int)))) then true else (decide (d<0))) then true else (decide (f>=(a.length:Int))))) (pIw h) 0 fun j=>gb (!(bif (bif (bif decide (b<0) then true else (decide (c>=(a.length:Int)))) then true else (decide (d<0))) then true else (decide (f>=(a.length:Int))))) (pIw i) 0 fun k=>gb (!(bif (bif (bif (bif decide (b<0) then true else (decide (c>=(a.length:Int)))) then true else (decide (d<0))) then true else (decide (f>=(a.length:Int)))) then true else (j == k))) (pIw o) 0 fun p=>gb (!(bif (bif (bif (bif (bif decide (b<0) then true else (decide (c>=(a.length:Int)))) then true else (decide (d<0))) then true else (decide (f>=(a.length:Int)))) then true else (j == k)) then true else (decide (p<1)))) (pIw o) 0 fun q=>bif (bif (bif (bif (bif (bif (bif decide (b<0) then true else (decide (c>=(a.length:Int)))) then true else (decide (d<0))) then true else (decide (f>=(a.length:Int)))) then true else (j == k)) then true else (decide (p<1))) then true else (decide (q>1048576))) then k0 else Z8 n l h2 a k0 k1 m (wJ (e+1)) else k1 e (decide (e<h2))
def WJ (n:Nat) (b c d e:LL) (f:Int) (g h i j k l a:LL) (K:Int->oP R):oP R:= Z8 n a (a.length:Int) b (K 4) (fun m o=>K 0) n 0

def Q9o (n:Nat) (a b c d:LL) (e:Int) (f g h i j k l:LL):Bool:= Q80 (Vc n a b c d e f g h i j k l some)&&Q80 (Uw n a b c d e f g h i j k l some)&&Q80 (Uu n a b c d e f g h i j k l some)&&Q80 (Vp n a b c d e f g h i j k l some)&&Q80 (WQ n a b c d e f g h i j k l some)&&Q80 (Vo n a b c d e f g h i j k l some)&&Q80 (Vh n a b c d e f g h i j k l some)&&Q80 (WJ n a b c d e f g h i j k l some)
def WS (n:Nat) (a b c d:LL) (e:Int) (f g h i j k l:LL) (K:Int->oP R):oP R:=bif Q9o n a b c d e f g h i j k l then K 0 else none

end Go.Vx
namespace Go.Vx
theorem Qu {h:Nat} (hh:h<=1000):wJ ((h:Int)+1)=((h+1:Nat):Int):=by rw [Q6 (by omega) (by omega)];omega
theorem Q9 {h k:Nat} (hh:h<k):decide ((h:Int)<((k:Nat):Int))=true:=by simpa using hh
theorem Ql (k:Nat):decide (((k:Nat):Int)<((k:Nat):Int))=false:=by simp
section
variable {R:Type} {St Pt Se Li Sk Ro Ls Ch Tu Sy De:LL} {per:Int} {n:Nat}
theorem Q4W {mn mx:Int} (a:0<=mn) (b:mn<=mx) (h2:mx<mn+per) (c:mn<=1000) (p1:per<=300) (K:Bool->oP R):KL n per Sk Ro Ls Ch Tu Sy De mn mx K=K true:=by
 unfold KL;rw [show decide ((0:Int)<=mn)=true by simpa using a,show decide (mn<=mx)=true by simpa using b,show decide (mx<=(7200:Int))=true by simp;omega,Q6 (by omega) (by omega),show decide (mx<mn+per)=true by simpa using h2];rfl
theorem Q2y {k:Nat} (h:k<Ls.length) (K:Bool->oP R):Gj n per Sk Ro Ls Ch Tu Sy De (k:Int) K=K true:=by
 unfold Gj;rw [show decide ((k:Int)>=0)=true by simp,Q9 h];rfl
theorem CX {k i:Nat} {r:List D} (h:TM Ls k i r) (K:Bool->oP R):UF n per Sk Ro Ls Ch Tu Sy De (k:Int) (i:Int) K=K true:=by
 obtain ⟨nm,w,rides,a,h2⟩:=h;unfold UF;rw [Q2y (Qjk.1 a).1,Q0,show decide ((i:Int)>=0)=true by simp,Qa,a];simp -implicitDefEqProofs only [Q0,List.getElem?_cons_zero,List.getElem?_cons_succ,Q2,XE,QA,Qjl,Qjg,Qjj,Qji,Q9 (Qjk.1 h2).1]
theorem Q8i {w:Int} (a:0<=w) (b:w<=1000) (K:Bool->oP R):TR n w K=K true:=by
 unfold TR;rw [show decide (w>=0)=true by simpa using a,show decide (w<=(1048576:Int))=true by simp;omega];rfl
theorem Q54 {G:Geo} {rt:Nat} {ex mn mx x y:Int} {s:LL} (a:Ro[rt]? = some [D.sl 2 s,Q4 0]) (b:RtOK G s x y) (K:Int->oP R):TL n per Sk Ro Ls Ch Tu Sy De (rt:Int) ex mn mx K=K x:=by
 obtain ⟨d,c⟩:=b.fst;unfold TL;simp -implicitDefEqProofs only [Q0,List.getElem?_cons_zero,List.getElem?_cons_succ,Q2,XE,QA,Qjl,Qjg,Qjj,Qji,Qa,a,c]
theorem Q9C {G:Geo} {rt:Nat} {ex mn mx x y:Int} {s:LL} (b:Ro[rt]? = some [D.sl 2 s,Q4 0]) (a:RtOK G s x y) (K:Int->oP R):Su n per Sk Ro Ls Ch Tu Sy De (rt:Int) ex mn mx K=K y:=by
 obtain ⟨d,c⟩:=a.lst;have l2:=a.l2;have l24:=a.l24;unfold Su;simp -implicitDefEqProofs only [Q0,List.getElem?_cons_zero,List.getElem?_cons_succ,Q2,XE,QA,Qjl,Qjg,Qjj,Qji,Qa,b];rw [Q6 (x:=((s.length:Nat):Int)-0) (by omega) (by omega),Q6 (by omega) (by omega),Int.sub_zero,c];rfl
theorem Qd6 (hs:Q1a Sk) (K:Int->oP R):Uw 400 St Pt Se Li per Sk Ro Ls Ch Tu Sy De K=K 0:=by
 obtain ⟨a,b,c,d,rfl,hk⟩:=hs;have h:Uw 400 St Pt Se Li per [[D.str (bs [88]),Q4 a,Q4 b,Q4 c,Q4 d]] Ro Ls Ch Tu Sy De K=gb true (UR 400 (bs [88]) a b c d some) false (fun r=>bif !r then K 4 else K 0):=by kernel_rfl
 rw [h,BV hk];rfl
end
section
variable {R:Type} {G:Geo} {Sk Ro Ls Ch Tu Sy De:LL} {per:Int} (h:PlanR G per Sk Ro Ls Ch Tu Sy De)
include h
theorem Q6o {k:Nat} (hk:k<Ls.length):∃ r,TM Ls k 0 r:=by
 obtain ⟨w,rides,e,hr,a⟩:=DY h.good hk;obtain ⟨r,_,_,_,b,_⟩:=a 0 (by omega);exact ⟨r,b⟩
theorem Qfi (K:Int->oP R):Vc 400 G.St G.Pt G.Se G.Li per Sk Ro Ls Ch Tu Sy De K=K 0:=by
 have hc:ZN 400 G.St G.Pt G.Se G.Li (some:Int->Option Int)=some 0:=by unfold ZN;rw [h.ok.lay];rfl
 obtain ⟨_,_,_,_,aj,_⟩:=h.sk;obtain ⟨T,hT,_,_,_,ak⟩:=h.tu;have l1:=h.l1;have l2:=h.rl;have a:=h.chl;have c:=h.syl;have d:=h.del;have p0:=h.p0;have p1:=h.p1;have lk:Sk.length=1:=by rw [aj];rfl
 have lt:Tu.length<=20:=by rw [hT];simpa using ak
 have ac:∀ {k:Nat} {b:Int},(k:Int)<=b->decide ((k:Int)>b)=false:=fun h=>by simpa using h
 unfold Vc;rw [hc,Q0,Q8 (by rfl)];simp -implicitDefEqProofs only [jn,ac (show ((Sk.length:Nat):Int)<=8 by omega),ac (show ((Ro.length:Nat):Int)<=48 by omega),ac (show ((Ls.length:Nat):Int)<=16 by omega),ac (show ((Ch.length:Nat):Int)<=32 by omega),ac (show ((Tu.length:Nat):Int)<=32 by omega),ac (show ((Sy.length:Nat):Int)<=32 by omega),ac (show ((De.length:Nat):Int)<=32 by omega),Qjg];refine Qx (r:=fun m h=>ZZ 400 Ls ((Ls.length:Nat):Int) _ _ m h) (N:=Ls.length) (fun m k hk=>?_) (fun m=>?_) Ls.length 400 0 (by omega) (by omega)
 ·obtain ⟨w,rides,e,hr,_⟩:=DY h.good hk;rw [ZZ,Q9 hk,Qa,e];simp -implicitDefEqProofs only [Q0,List.getElem?_cons_zero,List.getElem?_cons_succ,Q2,XE,QA,Qjl,Qjg,Qjj,Qji,ac (show ((rides.length:Nat):Int)<=12 by omega),Qu (show k<=1000 by omega)]
 ·rw [ZZ,Ql,Qjg,show decide (per<2)=false by simp;omega,show decide (per>7200)=false by simp;omega];rfl
theorem Qc6 (K:Int->oP R):Uu 400 G.St G.Pt G.Se G.Li per Sk Ro Ls Ch Tu Sy De K=K 0:=by
 have l2:=h.rl;unfold Uu;refine Qx (r:=fun m h=>Zl 400 Ro ((Ro.length:Nat):Int) G.St G.Pt G.Se G.Li _ _ m h) (N:=Ro.length) (fun m k hk=>?_) (fun m=>?_) Ro.length 400 0 (by omega) (by omega)
 ·obtain ⟨s,x,y,e,hs⟩:=h.good.ro _ (Qjm hk);rw [Zl,Q9 hk,Qa,Qjh hk,e];simp -implicitDefEqProofs only [Q0,List.getElem?_cons_zero,List.getElem?_cons_succ,Q2,XE,QA,Qjl,Qjg,Qjj,Qji,Q60 h.ok.lay rfl hs.l2 hs.l24 hs.rt,Qu (show k<=1000 by omega)];rfl
 ·rw [Zl,Ql,Qjg]
theorem QaE (K:Int->oP R):WJ 400 G.St G.Pt G.Se G.Li per Sk Ro Ls Ch Tu Sy De K=K 0:=by
 have l2:=h.del;have hN:=h.ok.hN;unfold WJ;refine Qx (r:=fun m h=>Z8 400 De ((De.length:Nat):Int) G.St _ _ m h) (N:=De.length) (fun m k hk=>?_) (fun m=>?_) De.length 400 0 (by omega) (by omega)
 ·obtain ⟨f,t,w,e,⟨a,b⟩,⟨c,t1⟩,ac,w0,d⟩:=h.de _ (Qjm hk);rw [Z8,Q9 hk,Qa,Qjh hk,e];simp -implicitDefEqProofs only [Q0,List.getElem?_cons_zero,List.getElem?_cons_succ,Q2,XE,QA,Qjl,Qjg,Qjj,Qji,h.ok.st,show decide (f<0)=false by simpa using a,show decide (f>=((G.N:Nat):Int))=false by simpa using b,show decide (t<0)=false by simpa using c,show decide (t>=((G.N:Nat):Int))=false by simpa using t1,show (f == t)=false by simpa using ac,show decide (w<1)=false by simp;omega,show decide (w>1048576)=false by simp;omega,Qu (show k<=1000 by omega)]
 ·rw [Z8,Ql,Qjg]
theorem Qfe (K:Int->oP R):Vh 400 G.St G.Pt G.Se G.Li per Sk Ro Ls Ch Tu Sy De K=K 0:=by
 have l2:=h.syl;have l0:=h.l0;unfold Vh;refine Qx (r:=fun m h=>ZR 400 Sy ((Sy.length:Nat):Int) per Sk Ro Ls Ch Tu Sy De _ _ m h) (N:=Sy.length) (fun m k hk=>?_) (fun m=>?_) Sy.length 400 0 (by omega) (by omega)
 ·obtain ⟨o,e,a,b,h2⟩:=h.sy _ (Qjm hk);obtain ⟨r,hr⟩:=Q6o h (k:=0) (by omega);obtain ⟨r',ac⟩:=Q6o h (k:=1) (by omega);have e1:=CX (R:=Bool) (per:=per) (Sk:=Sk) (Ro:=Ro) (Ch:=Ch) (Tu:=Tu) (Sy:=Sy) (De:=De) (n:=400) hr some;have e2:=CX (R:=Bool) (per:=per) (Sk:=Sk) (Ro:=Ro) (Ch:=Ch) (Tu:=Tu) (Sy:=Sy) (De:=De) (n:=400) ac some;rw [ZR,Q9 hk,Qa,Qjh hk,e];simp -implicitDefEqProofs only [Q0,List.getElem?_cons_zero,List.getElem?_cons_succ,Q2,XE,QA,Qjl,Qjg,Qjj,Qji,show UF 400 per Sk Ro Ls Ch Tu Sy De 0 0 (some:Bool->Option Bool)=some true from e1,show UF 400 per Sk Ro Ls Ch Tu Sy De 1 0 (some:Bool->Option Bool)=some true from e2,show ((0:Int) == 1)=false from rfl,show decide (o<0)=false by simp;omega,show decide (o>=per)=false by simp;omega,Qu (show k<=1000 by omega)]
 ·rw [ZR,Ql,Qjg]
end
theorem Q27 {n h:Nat} (hh:h<=n):slB n none (some (h:Int))=some (0,h):=by
 unfold slB;rw [show (decide ((0:Int)<=(none:Option Int).getD 0)&&(decide ((none:Option Int).getD 0<=(some (h:Int)).getD (n:Int))&&decide ((some (h:Int)).getD (n:Int)<=(n:Int))))=true by simp;omega];rfl
theorem LX {α:Type} {l:List α} {h:Nat}:cut l (0,h)=l.take h:=by simp [cut]
theorem QeT {i j:Nat} (hi:i<8) (hj:j<8) (h:i≠j):(nmN i == nmN j)=false:=by
 have:∀ i j:Fin 8,i≠j->(nmN i.val == nmN j.val)=false:=by decide
 exact this ⟨i,hi⟩ ⟨j,hj⟩ (by intro e;exact h (by simpa using e))
theorem QgF {i:Nat} (hi:i<8):KV 400 (nmN i) (some:Bool->Option Bool)=some true:=by
 obtain rfl | rfl | rfl | rfl | rfl | rfl | rfl | rfl:i=0\/i=1\/i=2\/i=3\/i=4\/i=5\/i=6\/i=7:=by omega
 all_goals kernel_rfl
section
variable {Sk Ch Tu Sy De:LL} {per:Int}
theorem Q3g {G:Geo} {Ro Ls:LL} {c:Nat} (hg:GoodP G Ro Ls) (hc:c<8) (hl:c<Ls.length):Qq 400 (cut Ls (0,c)) (nmN c) some=some false:=by
 have aj:(cut Ls (0,c)).length=c:=by rw [LX];simp;omega
 unfold Qq X3;rw [aj];refine (congrArg (fun E=>gb true E 0 fun a=>some (decide (a>=(0:Int)))) (a₂:=some (-1)) (Qx (r:=fun m h=>Qb 400 (cut Ls (0,c)) ((c:Nat):Int) (nmN c) _ _ m h) (N:=c) (fun m h hh=>?_) (fun m=>?_) c 400 0 (by omega) (by omega))).trans rfl
 ·obtain ⟨w,ac,e,_,_⟩:=DY hg (show h<Ls.length by omega);have e':(cut Ls (0,c))[h]? = some [D.str (nmN h),Q4 0,Q4 w,D.sl 4 ac]:=by rw [LX,List.getElem?_take_of_lt hh,e]
  rw [Qb,Q9 hh,Qa,e'];simp -implicitDefEqProofs only [Q0,List.getElem?_cons_zero,List.getElem?_cons_succ,Q2,XE,QA,Qjl,Qjg,Qjj,Qji,Wk,QeT (show h<8 by omega) hc (by omega),Qu (show h<=1000 by omega)]
 ·rw [Qb,Ql,Qjg]
theorem Q5A {G:Geo} (hG:G.OK) {Ro Ls rides:LL} {nm:List UInt8} {w:Int} {i:Nat} {r:List D} {x y:Int} {b:Bool} (p0:90<=per) (p1:per<=300) (an:Q1a Sk) (hr:rides[i]? = some r) (hR:PW G Ro r x y b) (hb:i+1=rides.length->b=true) (hl:rides.length<=2)
  (aj:∀ j,j+1=i->∃ r' x' b',rides[j]? = some r'/\PW G Ro r' x' x b'):JU 400 G.St G.Pt G.Se G.Li per Sk Ro Ls Ch Tu Sy De nm 0 w rides (i:Int) (some:Int->Option Int)=some 0:=by
 obtain ⟨rt,ex,mn,mx,s,rfl,ac,hs,⟨h,k⟩,⟨e,f,l,m⟩,hlast⟩:=hR;obtain ⟨a,v,c,d,rfl,hk⟩:=an;have a1:rt<Ro.length:=(Qjk.1 ac).1;have hi:i<rides.length:=(Qjk.1 hr).1;have ak:(bif ((i:Int) == (wJ (((List.length rides:Nat):Int)-(1:Int)))) then (bif (mn != (0:Int)) then true else (mx != (0:Int))) else false)=false:=by
  by_cases g:i+1=rides.length
  ·obtain ⟨rfl,rfl⟩:=hlast (hb g);rw [show ((0:Int) != 0)=false from rfl];cases ((i:Int) == (wJ (((List.length rides:Nat):Int)-(1:Int)))) <;> rfl
  ·rw [Q6 (by omega) (by omega),show ((i:Int) == ((rides.length:Nat):Int)-1)=false by simp;omega];rfl
 unfold JU;rw [Qa,hr];simp -implicitDefEqProofs only [Q0,List.getElem?_cons_zero,List.getElem?_cons_succ,Q2,XE,QA,Qjl,Qjg,Qjj,Qji,jn,show decide ((rt:Int)<0)=false by simp,show decide ((rt:Int)>=((Ro.length:Nat):Int))=false by simp;omega,show decide (ex<0)=false by simp;omega,show decide (ex>=per)=false by simp;omega,Q4W e f (show mx<mn+per by omega) (by omega) p1,ak,Qa,ac,show Q1 [[D.str (bs [88]),Q4 a,Q4 v,Q4 c,Q4 d]] (0:Int)=some [D.str (bs [88]),Q4 a,Q4 v,Q4 c,Q4 d] from rfl,Qdi hG.lay rfl hs.l2 hs.l24 hs.rt hs.st hk,show ((0:Int) != 0)=false from rfl];cases i with
 |zero=>
  rw [show decide (((0:Nat):Int)>0)=false from rfl];simp only [gbF,Qjg]
 |succ j=>
  obtain ⟨r',x',b',ar,au⟩:=aj j rfl;obtain ⟨ay,aw,ax,a2,s',rfl,al,aq,_⟩:=au;simp -implicitDefEqProofs only [Q0,List.getElem?_cons_zero,List.getElem?_cons_succ,Q2,XE,QA,Qjl,Qjg,Qjj,Qji,show decide (((j+1:Nat):Int)>0)=true by simp,Q54 ac hs,show wJ (((j+1:Nat):Int)-1)=(j:Int) by rw [Q6 (by omega) (by omega)];omega,Qa,ar,Q9C al aq,show (x != x)=false by simp]
theorem Qb2 {G:Geo} (hG:G.OK) {Ro Ls rides:LL} {nm:List UInt8} {w:Int} (p0:90<=per) (p1:per<=300) (ac:Q1a Sk) (h:Q3r G Ro rides):(rides.length=1\/rides.length=2)/\∀ i,i<rides.length->JU 400 G.St G.Pt G.Se G.Li per Sk Ro Ls Ch Tu Sy De nm 0 w rides (i:Int) (some:Int->Option Int)=some 0:=by
 rcases h with ⟨r,x,y,rfl,h⟩ | ⟨r,r',x,y,z,rfl,h,h'⟩
 ·refine ⟨.inl rfl,fun i hi=>?_⟩;have hi:i=0:=by simpa using hi
  subst hi;exact Q5A hG p0 p1 ac rfl h (fun _=>rfl) (by simp) fun j hj=>by omega
 ·refine ⟨.inr rfl,fun i hi=>?_⟩;obtain rfl | rfl:i=0\/i=1:=by simp at hi;omega
  ·exact Q5A hG p0 p1 ac rfl h (fun h=>by simp at h) (by simp) fun j hj=>by omega
  ·refine Q5A hG p0 p1 ac rfl h' (fun _=>rfl) (by simp) fun j hj=>?_
   have hj:j=0:=by omega
   subst hj;exact ⟨r,x,false,rfl,h⟩
end
theorem QdQ {R:Type} {G:Geo} {Sk Ro Ls Ch Tu Sy De:LL} {per:Int} (h:PlanR G per Sk Ro Ls Ch Tu Sy De) (K:Int->oP R):Vp 400 G.St G.Pt G.Se G.Li per Sk Ro Ls Ch Tu Sy De K=K 0:=by
 have l1:=h.l1;obtain ⟨_,_,_,_,an,_⟩:=h.sk;have ak:Sk.length=1:=by rw [an];rfl
 unfold Vp;refine Qx (r:=fun m h=>ZX 400 Ls ((Ls.length:Nat):Int) G.St G.Pt G.Se G.Li per Sk Ro Ls Ch Tu Sy De _ _ m h) (N:=Ls.length) (fun m k hk=>?_) (fun m=>?_) Ls.length 400 0 (by omega) (by omega)
 ·obtain ⟨w,rides,e,w0,a,ac⟩:=h.good.ls k _ (Qjh hk);obtain ⟨al,aj⟩:=Qb2 (Ls:=Ls) (Ch:=Ch) (Tu:=Tu) (Sy:=Sy) (De:=De) (nm:=nmN k) (w:=w) h.ok h.p0 h.p1 h.sk ac;rw [ZX,Q9 hk,Qa,Qjh hk,e];simp -implicitDefEqProofs only [Q0,List.getElem?_cons_zero,List.getElem?_cons_succ,Q2,XE,QA,Qjl,Qjg,Qjj,Qji,QgF (show k<8 by omega),Q27 (Nat.le_of_lt hk),Q3g h.good (show k<8 by omega) hk,jn,show decide ((0:Int)<0)=false from rfl,ak,show decide ((0:Int)>=((1:Nat):Int))=false from rfl,Q8i w0 (show w<=1000 by omega),show (((rides.length:Nat):Int) == 0)=false by simp;intro hx;simp [hx] at al];refine (Qx (r:=fun m h=>ZY 400 ((rides.length:Nat):Int) G.St G.Pt G.Se G.Li per Sk Ro Ls Ch Tu Sy De (nmN k) 0 w rides _ _ m h) (N:=rides.length) (fun m i hi=>?_) (fun m=>?_) rides.length 400 0 (by omega) (by omega))
  ·rw [ZY,Q9 hi];simp -implicitDefEqProofs only [Q0,List.getElem?_cons_zero,List.getElem?_cons_succ,Q2,XE,QA,Qjl,Qjg,Qjj,Qji,aj i hi,show ((0:Int) != 0)=false from rfl,Qu (show i<=1000 by omega)]
  ·rw [ZY,Ql,Qjg,Qu (by omega)]
 ·rw [ZX,Ql,Qjg]

theorem Mv {α:Type} {l:List α} (h:l.Nodup) {i:Nat} (hi:i<l.length):∀ x∈l.take i,x≠l[i]:=by
 intro x hx e;subst e;obtain ⟨j,hj,e⟩:=List.getElem_of_mem hx;simp at hj;rw [List.getElem_take] at e;have:=(List.nodup_iff_pairwise_ne.1 h);have:=List.pairwise_iff_getElem.1 this j i (by omega) hi (by omega);exact this e
theorem Q4q {a b:Int} {T:List Tup} (ht:∀ t∈T,(t.1:Int)≠a/\(t.2.1:Int)≠b) (hl:T.length<=30):Qo 400 (T.map tuR) a b some=some false:=by
 have ac:(T.map tuR).length=T.length:=by simp
 unfold Qo X4;rw [ac];refine (congrArg (fun E=>gb true E 0 fun c=>some (decide (c>=(0:Int)))) (a₂:=some (-1)) (Qx (r:=fun m h=>Qc 400 (T.map tuR) ((T.length:Nat):Int) a b _ _ m h) (N:=T.length) (fun m h hh=>?_) (fun m=>?_) T.length 400 0 (by omega) (by omega))).trans rfl
 ·have e:(T.map tuR)[h]? = some (tuR T[h]):=by rw [List.getElem?_map,Qjh hh];rfl
  obtain ⟨d,f⟩:=ht _ (Qjm hh);rw [Qc,Q9 hh,Qa,e];simp -implicitDefEqProofs only [Q0,List.getElem?_cons_zero,List.getElem?_cons_succ,Q2,XE,QA,Qjl,Qjg,Qjj,Qji,tuR,Wi,show ((T[h].1:Int) == a)=false by simpa using d,show ((T[h].2.1:Int) == b)=false by simpa using f,Qu (show h<=1000 by omega)]
 ·rw [Qc,Ql,Qjg]
section
variable {R:Type} {G:Geo} {Sk Ro Ls Ch Tu Sy De:LL} {per:Int} (h:PlanR G per Sk Ro Ls Ch Tu Sy De)
include h
theorem QaQ (K:Int->oP R):WQ 400 G.St G.Pt G.Se G.Li per Sk Ro Ls Ch Tu Sy De K=K 0:=by
 have l2:=h.chl;have p1:=h.p1;unfold WQ;refine Qx (r:=fun m h=>Z9 400 Ch ((Ch.length:Nat):Int) G.Se per Sk Ro Ls Ch Tu Sy De _ _ m h) (N:=Ch.length) (fun m k hk=>?_) (fun m=>?_) Ch.length 400 0 (by omega) (by omega)
 ·obtain ⟨f,fr,t,tr,mn,mx,w,r,r',x,y,x',y',b,b',i,e,hr,ac,hR,aq,a4,⟨a,j,c,d⟩,⟨w0,l⟩,⟨o,a1,c1,d1,g1⟩,⟨p,a2,q,u,g⟩,hi⟩:=h.ch _ (Qjm hk);have hb:=CX (R:=Bool) (per:=per) (Sk:=Sk) (Ro:=Ro) (Ch:=Ch) (Tu:=Tu) (Sy:=Sy) (De:=De) (n:=400) hr;have ar:=CX (R:=Bool) (per:=per) (Sk:=Sk) (Ro:=Ro) (Ch:=Ch) (Tu:=Tu) (Sy:=Sy) (De:=De) (n:=400) ac;obtain ⟨nm,v,rides,e1,e2⟩:=hr;obtain ⟨a6,v',ak,au,al⟩:=ac;obtain ⟨rt,ex,rn,rx,s,rfl,ao,hs,_⟩:=hR;obtain ⟨ay,aw,a5,az,s',rfl,aj,an,_⟩:=aq;rw [Z9,Q9 hk,Qa,Qjh hk,e];simp -implicitDefEqProofs only [Q0,List.getElem?_cons_zero,List.getElem?_cons_succ,Q2,XE,QA,Qjl,Qjg,Qjj,Qji,hb,ar,Q4W a c d (show mn<=1000 by omega) p1,Q8i w0 (show w<=1000 by omega),show ((f:Int) == (t:Int))=false by simp;omega,Qa,e1,e2,au,al,Q9C ao hs,Q54 aj an,g1,g,show (i == (-1:Int))=false by simp;omega,show (i != i)=false by simp,Qu (show k<=1000 by omega)]
 ·rw [Z9,Ql,Qjg]
theorem Qen (K:Int->oP R):Vo 400 G.St G.Pt G.Se G.Li per Sk Ro Ls Ch Tu Sy De K=K 0:=by
 obtain ⟨T,hT,t1,t2,a,o⟩:=h.tu;have hl:Tu.length=T.length:=by rw [hT];simp
 have p0:=h.p0;have p1:=h.p1;unfold Vo;rw [hl];refine Qx (r:=fun m h=>We 400 Tu ((T.length:Nat):Int) per Sk Ro Ls Ch Tu Sy De _ _ m h) (N:=T.length) (fun m k hk=>?_) (fun m=>?_) T.length 400 0 (by omega) (by omega)
 ·have e:Tu[k]? = some (tuR T[k]):=by rw [hT,List.getElem?_map,Qjh hk];rfl
  obtain ⟨c,u2,u3,p,d,q,nm,w,rides,r,r',x,y,z,b,b',e1,e2,u,v,⟨a3,w',ac,f,g⟩,hR,au⟩:=t1 _ (Qjm hk);obtain ⟨rt,ex,rn,rx,s,rfl,aq,hs,_⟩:=hR;obtain ⟨aw,ao,ay,ax,s',rfl,al,an,_⟩:=au;have aj:cut Tu (0,k)=(T.take k).map tuR:=by rw [LX,hT,List.map_take]
  have ak:∀ t∈T.take k,(t.1:Int)≠(T[k].1:Int)/\(t.2.1:Int)≠(T[k].2.1:Int):=by
   intro t ht;have j:=Mv t2 (i:=k) (by simpa using hk) t.1 (by rw [<- List.map_take];exact List.mem_map_of_mem ht);have h2:=Mv a (i:=k) (by simpa using hk) t.2.1 (by rw [<- List.map_take];exact List.mem_map_of_mem ht);rw [List.getElem_map] at j h2;exact ⟨by omega,by omega⟩
  rw [We,Q9 hk,Qa,e];simp -implicitDefEqProofs only [Q0,List.getElem?_cons_zero,List.getElem?_cons_succ,Q2,XE,QA,Qjl,Qjg,Qjj,Qji,tuR,Q2y c,Q2y u2,Q4W (Sk:=Sk) (Ro:=Ro) (Ls:=Ls) (Ch:=Ch) (Tu:=Tu) (Sy:=Sy) (De:=De) (n:=400) (show 0<=T[k].2.2.1 by omega) d (show T[k].2.2.2<T[k].2.2.1+per by omega) (by omega) p1];rw [hl,Q27 (by omega),Q0,aj,Q4q ak (by simp;omega)];have hw:wJ (((rides.length:Nat):Int)-1)=((rides.length-1:Nat):Int):=by rw [Q6 (by omega) (by omega)];omega
  have l:Q1 ac (0:Int)=some [Q4 aw,Q4 ao,Q4 ay,Q4 ax]:=(Qa ac 0).trans g;simp -implicitDefEqProofs only [Q0,List.getElem?_cons_zero,List.getElem?_cons_succ,Q2,XE,QA,Qjl,Qjg,Qjj,Qji,Qa,e1,f,hw,e2,l,Q9C aq hs,Q54 al an,show (y != y)=false by simp,show ((0:Int) != 0)=false from rfl,Qu (show k<=1000 by omega)]
 ·rw [We,Ql,Qjg]
theorem Qcv (K:Int->oP R):WS 400 G.St G.Pt G.Se G.Li per Sk Ro Ls Ch Tu Sy De K=K 0:=by
 unfold WS Q9o;rw [Qfi h,Qd6 h.sk,Qc6 h,QdQ h,QaQ h,Qen h,Qfe h,QaE h];rfl
end

end Go.Vx
namespace Go.Vx
variable {R:Type}
def UD (n:Nat) (b:Int) (d e:D) (k0:Int->Bool->LL->oP R):Nat->Int->LL->oP R
 | 0,_,_=>none
 | m+1,a,c=>gb true (pIw d) 0 fun f=>bif decide (a<f) then gb true (pIw e) 0 fun g=>gb true (Ym ((c.length+[[Q4 g,Q4 b]].length)*16)) () fun h=>UD n b d e k0 m (wJ (a+1)) (c++[[Q4 g,Q4 b]]) else k0 a (decide (a<f)) c
def UL (n:Nat) (d a:LL) (c:Int) (k0:Int->Bool->LL->oP R):Nat->Int->LL->oP R
 | 0,_,_=>none
 | m+1,h2,e=>bif (decide (h2<(wJ ((a.length:Int)-c)))) then gb true (Q1 a h2) [] fun i=>gb true (i[0]?) oF fun j=>gb true (pIw j) 0 fun k=>gb true (Q1 d k) [] fun b=>gb true (b[0]?) oF fun t=>gb true (b[1]?) oF fun f=>gb true (b[2]?) oF fun g=>gb true (b[3]?) oF fun l=>gb true (b[4]?) oF fun u=>gb true (pIw l) 0 fun h=>gb true (Q1 a h2) [] fun o=>gb true (o[1]?) oF fun p=>gb true (pIw p) 0 fun q=>bif (q == 1) then UD n (wJ (0-h)) f g (fun v x r=>UL n d a c k0 m (wJ (h2+1)) r) n 0 e else UD n h f g (fun y z s=>UL n d a c k0 m (wJ (h2+1)) s) n 0 e else k0 h2 (decide (h2<(wJ ((a.length:Int)-c)))) e
def So (n:Nat) (f g a h b:LL) (c:Int) (K:LL->Int->Int->oP R):oP R:= gb true (Ji n f g a h b c some) 0 fun d=>bif (d != 0) then K [] 0 d else UL n a b c (fun p q e=>bif (decide ((e.length:Int)>4000)) then K [] 0 7 else gb true (Q1 b 0) [] fun i=>gb true (i[0]?) oF fun j=>gb true (pIw j) 0 fun k=>gb true (Q1 a k) [] fun l=>gb true (l[1]?) oF fun m=>gb true (pIw m) 0 fun o=>K e o 0) n 0 []
def Yj (n:Nat) (i:List UInt8) (d e f g:Int) (K:Bool->oP R):oP R:= gb true (HU n d 1 40 some) false fun a=>gb a (HU n e 1000 100000 some) false fun b=>gb (bif a then b else false) (HU n f 100 2000 some) false fun c=>gb (bif (bif a then b else false) then c else false) (HU n g 100 2000 some) false fun h=>K (bif (bif (bif a then b else false) then c else false) then h else false)

def Gu (n:Nat) (e b:LL) (c d:Int) (k0:oP R) (k1:Int->Bool->oP R):Nat->Int->oP R
 | 0,_=>none
 | m+1,a=>bif (decide (a<(wJ ((b.length:Int)-c)))) then gb true (Q1 b a) [] fun f=>gb true (f[0]?) oF fun g=>gb true (pIw g) 0 fun h=>gb true (Q1 e h) [] fun i=>gb true (i[1]?) oF fun j=>gb true (pIw j) 0 fun k=>bif (decide (k<(if 2<d then d else 2))) then k0 else Gu n e b c d k0 k1 m (wJ (a+1)) else k1 a (decide (a<(wJ ((b.length:Int)-c))))
def SL (n:Nat) (g h c i d:LL) (e:Int) (j:List UInt8) (f k l m:Int) (K:Int->oP R):oP R:= gb true (So n g h c i d e Tu3) ([],0,0) fun a=>bif (a.2.2 != 0) then K a.2.2 else gb true (Yj n j f k l m some) false fun b=>bif !b then K 1 else Gu n c d e f (K 12) (fun p q=>K 0) n 0

def Gn (n:Nat) (b:LL) (k0:oP R) (k1:Int->Bool->oP R):Nat->Int->oP R
 | 0,_=>none
 | m+1,a=>bif (decide (a<(b.length:Int))) then gb true (Q1 b a) [] fun c=>gb true (c[3]?) oF fun d=>gb true (pSl 4 d) [] fun e=>bif (decide ((e.length:Int)>12)) then k0 else Gn n b k0 k1 m (wJ (a+1)) else k1 a (decide (a<(b.length:Int)))
def Fa (n:Nat) (h:Int) (b c a d e f g:LL) (K:Bool->oP R):oP R:= bif (bif (bif (bif (bif (bif (bif (decide ((b.length:Int)>8)) then true else (decide ((c.length:Int)>48))) then true else (decide ((a.length:Int)>16))) then true else (decide ((d.length:Int)>32))) then true else (decide ((e.length:Int)>32))) then true else (decide ((f.length:Int)>32))) then true else (decide ((g.length:Int)>32))) then K true else Gn n a (K true) (fun i j=>K false) n 0

def J4 (n:Nat) (a0 a1 a2:Int) (K:Bool->oP R):oP R:= K (bif decide (a0>=a1) then (decide (a0<=a2)) else false)

def Kh (n:Nat) (b:Int) (c:LL) (k0:oP R) (k1:Int->Bool->oP R):Nat->Int->oP R
 | 0,_=>none
 | m+1,a=>bif decide (a<b) then gb true (Q1 c a) [] fun d=>gb true (d[0]?) oF fun e=>gb true (Nk e) [] fun f=>gb true (Q1 c b) [] fun g=>gb true (g[0]?) oF fun h=>gb true (Nk h) [] fun i=>bif (f == i) then k0 else Kh n b c k0 k1 m (wJ (a+1)) else k1 a (decide (a<b))
def GM (n:Nat) (s:Int) (b t u v x y z:LL) (a1:Int) (K:Int->oP R):oP R:= gb true (Q1 b a1) [] fun c=>gb true (c[0]?) oF fun d=>gb true (Nk d) [] fun e=>gb true (M1 n e some) false fun f=>bif !f then K 3 else Kh n a1 b (K 5) (fun aa ab=>gb true (Q1 b a1) [] fun a=>gb true (a[0]?) oF fun g=>gb true (a[1]?) oF fun h=>gb true (a[2]?) oF fun i=>gb true (a[3]?) oF fun j=>gb true (a[4]?) oF fun k=>gb true (Nk g) [] fun l=>gb true (pIw h) 0 fun m=>gb true (pIw i) 0 fun o=>gb true (pIw j) 0 fun p=>gb true (pIw k) 0 fun q=>gb true (Yj n l m o p q some) false fun r=>bif !r then K 4 else K 0) n 0

def KE (n:Nat) (a:Int) (b c d e f g h:LL) (a1 a2:Int) (K:Bool->oP R):oP R:= K (bif (bif (bif decide (a1>=0) then (decide (a1<=a2)) else false) then (decide (a2<(wJ (a1+a)))) else false) then (decide (a2<=7200)) else false)

def Gr (n:Nat) (a:LL) (e:Int) (K:Int->oP R):oP R:= gb true (Q1 a 0) [] fun b=>gb true (b[0]?) oF fun c=>gb true (pIw c) 0 fun d=>K d

def Vi (n:Nat) (a:LL) (b:Int) (K:Int->oP R):oP R:= gb true (Q1 a (wJ ((wJ ((a.length:Int)-b))-1))) [] fun c=>gb true (c[0]?) oF fun d=>gb true (pIw d) 0 fun e=>K e

def WX (n:Nat) (b:Int) (c:LL) (d:D) (k0:oP R) (k1:Int->Bool->oP R):Nat->Int->oP R
 | 0,_=>none
 | m+1,a=>bif decide (a<b) then gb true (Q1 c a) [] fun e=>gb true (e[0]?) oF fun f=>gb true (Nk f) [] fun g=>gb true (Nk d) [] fun h=>bif (g == h) then k0 else WX n b c d k0 k1 m (wJ (a+1)) else k1 a (decide (a<b))
def WL (n:Nat) (o p q r:LL) (h:Int) (i c s t u v x:LL) (y e:D) (k0:Int->oP R) (k1:Int->Bool->oP R):Nat->Int->oP R
 | 0,_=>none
 | m+1,a=>gb true (pSl 4 e) [] fun z=>bif (decide (a<(z.length:Int))) then gb true (pSl 4 e) [] fun ai=>gb true (Q1 ai a) [] fun g=>gb true (g[0]?) oF fun j=>gb true (g[1]?) oF fun aj=>gb true (g[2]?) oF fun aa=>gb true (g[3]?) oF fun ab=>gb true (pSl 4 e) [] fun k=>gb true (pIw j) 0 fun ak=>gb true (J4 n ak 0 (wJ ((c.length:Int)-1)) some) false fun b=>gb (!(!b)) (pIw aj) 0 fun al=>gb (!(!b)) (J4 n al 0 (wJ (h-1)) some) false fun d=>gb (!(bif !b then true else (!d))) (pIw aa) 0 fun am=>gb (!(bif !b then true else (!d))) (pIw ab) 0 fun an=>gb (!(bif !b then true else (!d))) (KE n h i c s t u v x am an some) false fun l=>gb ((!(bif (bif !b then true else (!d)) then true else (!l)))&&(a == (wJ ((k.length:Int)-1)))) (pIw aa) 0 fun ac=>gb (((!(bif (bif !b then true else (!d)) then true else (!l)))&&(a == (wJ ((k.length:Int)-1))))&&(!(ac != 0))) (pIw ab) 0 fun ao=>bif (bif (bif (bif !b then true else (!d)) then true else (!l)) then true else (bif (a == (wJ ((k.length:Int)-1))) then (bif (ac != 0) then true else (ao != 0)) else false)) then k0 4 else gb true (pIw j) 0 fun ap=>gb true (Q1 c ap) [] fun ad=>gb true (ad[0]?) oF fun aq=>gb true (ad[1]?) oF fun ar=>gb true (pIw y) 0 fun au=>gb true (Q1 i au) [] fun f=>gb true (f[0]?) oF fun av=>gb true (f[1]?) oF fun aw=>gb true (f[2]?) oF fun ax=>gb true (f[3]?) oF fun ay=>gb true (f[4]?) oF fun az=>gb true (pSl 2 aq) [] fun ba=>gb true (pIw ar) 0 fun bb=>gb true (Nk av) [] fun bc=>gb true (pIw aw) 0 fun bd=>gb true (pIw ax) 0 fun be=>gb true (pIw ay) 0 fun bg=>gb true (pIw az) 0 fun bh=>gb true (SL n o p q r ba bb bc bd be bg bh some) 0 fun ae=>bif (ae != 0) then k0 ae else gb (decide (a>0)) (pIw j) 0 fun bi=>gb (decide (a>0)) (Q1 c bi) [] fun ag=>gb (decide (a>0)) (ag[0]?) oF fun bj=>gb (decide (a>0)) (ag[1]?) oF fun bk=>gb (decide (a>0)) (pSl 2 bj) [] fun bl=>gb (decide (a>0)) (pIw bk) 0 fun bm=>gb (decide (a>0)) (Gr n bl bm some) 0 fun bn=>gb (decide (a>0)) (pSl 4 e) [] fun bo=>gb (decide (a>0)) (Q1 bo (wJ (a-1))) [] fun bp=>gb (decide (a>0)) (bp[0]?) oF fun bq=>gb (decide (a>0)) (pIw bq) 0 fun br=>gb (decide (a>0)) (Q1 c br) [] fun ah=>gb (decide (a>0)) (ah[0]?) oF fun bt=>gb (decide (a>0)) (ah[1]?) oF fun bu=>gb (decide (a>0)) (pSl 2 bt) [] fun bv=>gb (decide (a>0)) (pIw bu) 0 fun bx=>gb (decide (a>0)) (Vi n bv bx some) 0 fun bz=>bif (bif decide (a>0) then (bn != bz) else false) then k0 11 else WL n o p q r h i c s t u v x y e k0 k1 m (wJ (a+1)) else k1 a (decide (a<(z.length:Int)))
def H9 (n:Nat) (h i j k:LL) (l:Int) (d m b o p q r:LL) (a2:Int) (K:Int->oP R):oP R:= gb true (Q1 b a2) [] fun a=>gb true (a[0]?) oF fun e=>gb true (a[1]?) oF fun f=>gb true (a[2]?) oF fun s=>gb true (a[3]?) oF fun g=>gb true (Nk e) [] fun t=>gb true (M1 n t some) false fun u=>bif !u then K 3 else WX n a2 b e (K 5) (fun ab ac=>gb true (pIw f) 0 fun v=>gb true (J4 n v 0 (wJ ((d.length:Int)-1)) some) false fun c=>gb (!(!c)) (pIw s) 0 fun x=>gb (!(!c)) (J4 n x 0 1048576 some) false fun y=>bif (bif !c then true else (!y)) then K 4 else gb true (pSl 4 g) [] fun z=>bif ((z.length:Int) == 0) then K 1 else WL n h i j k l d m b o p q r f g (fun aa=>K aa) (fun ad ae=>K 0) n 0) n 0

def JQ (n:Nat) (g:Int) (h i b j k l m:LL) (a1 a2:Int) (K:Bool->oP R):oP R:= gb true (J4 n a1 0 (wJ ((b.length:Int)-1)) some) false fun a=>gb a (Q1 b a1) [] fun c=>gb a (c[3]?) oF fun d=>gb a (pSl 4 d) [] fun e=>gb a (J4 n a2 0 (wJ ((e.length:Int)-1)) some) false fun f=>K (bif a then f else false)

def Y1 (n:Nat) (l:Int) (m b c o p q r:LL) (a1 a2:Int) (K:D->D->oP R):oP R:= gb true (Q1 c a1) [] fun d=>gb true (d[3]?) oF fun e=>gb true (pSl 4 e) [] fun f=>gb true (Q1 f a2) [] fun g=>gb true (g[0]?) oF fun h=>gb true (pIw h) 0 fun i=>gb true (Q1 b i) [] fun a=>gb true (a[0]?) oF fun j=>gb true (a[1]?) oF fun k=>K j k

def HZ (n:Nat) (am an o ao:LL) (b:Int) (c d e f g h i:LL) (j p k q v x y:Int) (K:Int->oP R):oP R:= gb true (JQ n b c d e f g h i j p some) false fun a=>gb (!(!a)) (JQ n b c d e f g h i k q some) false fun l=>gb (!(bif (bif !a then true else (!l)) then true else (j == k))) (KE n b c d e f g h i v x some) false fun r=>gb (!(bif (bif (bif !a then true else (!l)) then true else (j == k)) then true else (!r))) (J4 n y 0 1048576 some) false fun z=>bif (bif (bif (bif (bif !a then true else (!l)) then true else (j == k)) then true else (!r)) then true else (!z)) then K 4 else gb true (Y1 n b c d e f g h i j p Tu2) ((.bool false),(.bool false)) fun s=>gb true (pSl 2 s.1) [] fun l6=>gb true (pIw s.2) 0 fun i7=>gb true (Vi n l6 i7 some) 0 fun r8=>gb true (Q1 o r8) [] fun r9=>gb true (r9[4]?) oF fun ae=>gb true (pIw ae) 0 fun t=>gb true (Y1 n b c d e f g h i k q Tu2) ((.bool false),(.bool false)) fun u=>gb true (pSl 2 u.1) [] fun ag=>gb true (pIw u.2) 0 fun ah=>gb true (Gr n ag ah some) 0 fun ai=>gb true (Q1 o ai) [] fun aj=>gb true (aj[4]?) oF fun ak=>gb true (pIw ak) 0 fun al=>bif (bif decide (t<0) then true else (t != al)) then K 11 else K 0

def WY (n:Nat) (d:Int) (e:LL) (f g:D) (k0:oP R) (k1:Int->Bool->oP R):Nat->Int->oP R
 | 0,_=>none
 | m+1,a=>bif decide (a<d) then gb true (Q1 e a) [] fun h=>gb true (h[0]?) oF fun i=>gb true (pIw i) 0 fun b=>gb true (pIw f) 0 fun c=>gb (!(b == c)) (Q1 e a) [] fun j=>gb (!(b == c)) (j[1]?) oF fun k=>gb (!(b == c)) (pIw k) 0 fun l=>gb (!(b == c)) (pIw g) 0 fun o=>bif (bif (b == c) then true else (l == o)) then k0 else WY n d e f g k0 k1 m (wJ (a+1)) else k1 a (decide (a<d))
def He (n:Nat) (j:Int) (k l b m d o p:LL) (a1:Int) (K:Int->oP R):oP R:= gb true (Q1 d a1) [] fun a=>gb true (a[0]?) oF fun e=>gb true (a[1]?) oF fun f=>gb true (a[2]?) oF fun v=>gb true (a[3]?) oF fun x=>gb true (pIw e) 0 fun y=>gb true (J4 n y 0 (wJ ((b.length:Int)-1)) some) false fun c=>gb (!(!c)) (pIw f) 0 fun z=>gb (!(!c)) (J4 n z 0 (wJ ((b.length:Int)-1)) some) false fun g=>gb (!(bif !c then true else (!g))) (pIw v) 0 fun aa=>gb (!(bif !c then true else (!g))) (pIw x) 0 fun ab=>gb (!(bif !c then true else (!g))) (KE n j k l b m d o p aa ab some) false fun ac=>bif (bif (bif !c then true else (!g)) then true else (!ac)) then K 4 else WY n a1 d e f (K 5) (fun ar au=>gb true (pIw e) 0 fun ad=>gb true (Q1 b ad) [] fun h=>gb true (h[0]?) oF fun av=>gb true (h[1]?) oF fun ae=>gb true (h[2]?) oF fun aw=>gb true (h[3]?) oF fun ag=>gb true (pIw f) 0 fun ah=>gb true (Q1 b ah) [] fun i=>gb true (i[0]?) oF fun ax=>gb true (i[1]?) oF fun ai=>gb true (i[2]?) oF fun ay=>gb true (i[3]?) oF fun az=>gb true (pIw e) 0 fun aj=>gb true (pSl 4 ag) [] fun ak=>gb true (Y1 n j k l b m d o p aj (wJ ((ak.length:Int)-1)) Tu2) ((.bool false),(.bool false)) fun t=>gb true (pSl 2 t.1) [] fun al=>gb true (pIw t.2) 0 fun am=>gb true (Vi n al am some) 0 fun r=>gb true (pIw f) 0 fun i64=>gb true (Y1 n j k l b m d o p i64 0 Tu2) ((.bool false),(.bool false)) fun u=>gb true (pSl 2 u.1) [] fun an=>gb true (pIw u.2) 0 fun ao=>gb true (Gr n an ao some) 0 fun s=>gb (!(r != s)) (pIw ae) 0 fun ap=>gb (!(r != s)) (pIw ai) 0 fun aq=>bif (bif (r != s) then true else (ap != aq)) then K 11 else K 0) n 0

def WP (n:Nat) (c:Int) (b d e f g h i:LL) (k0:Int->oP R) (k1:Int->Bool->oP R):Nat->Int->oP R
 | 0,_=>none
 | m+1,a=>bif (decide (a<(b.length:Int))) then gb true (GM n c b d e f g h i a some) 0 fun j=>bif (j != 0) then k0 j else WP n c b d e f g h i k0 k1 m (wJ (a+1)) else k1 a (decide (a<(b.length:Int)))
def WK (n:Nat) (c d e f b:LL) (k0:Int->oP R) (k1:Int->Bool->oP R):Nat->Int->oP R
 | 0,_=>none
 | m+1,a=>bif (decide (a<(b.length:Int))) then gb true (Q1 b a) [] fun g=>gb true (g[0]?) oF fun i=>gb true (g[1]?) oF fun j=>gb true (pSl 2 i) [] fun k=>gb true (pIw j) 0 fun l=>gb true (Ji n c d e f k l some) 0 fun h=>bif (h != 0) then k0 h else WK n c d e f b k0 k1 m (wJ (a+1)) else k1 a (decide (a<(b.length:Int)))
def WO (n:Nat) (c d e f:LL) (g:Int) (h i b j k l o:LL) (k0:Int->oP R) (k1:Int->Bool->oP R):Nat->Int->oP R
 | 0,_=>none
 | m+1,a=>bif (decide (a<(b.length:Int))) then gb true (H9 n c d e f g h i b j k l o a some) 0 fun p=>bif (p != 0) then k0 p else WO n c d e f g h i b j k l o k0 k1 m (wJ (a+1)) else k1 a (decide (a<(b.length:Int)))
def Zu (n:Nat) (d e f g:LL) (h:Int) (i j k b l o p:LL) (k0:Int->oP R) (k1:Int->Bool->oP R):Nat->Int->oP R
 | 0,_=>none
 | m+1,c=>bif (decide (c<(b.length:Int))) then gb true (Q1 b c) [] fun a=>gb true (a[0]?) oF fun r=>gb true (a[1]?) oF fun s=>gb true (a[2]?) oF fun t=>gb true (a[3]?) oF fun u=>gb true (a[4]?) oF fun v=>gb true (a[5]?) oF fun x=>gb true (a[6]?) oF fun y=>gb true (pIw r) 0 fun z=>gb true (pIw s) 0 fun aa=>gb true (pIw t) 0 fun ab=>gb true (pIw u) 0 fun ac=>gb true (pIw v) 0 fun ad=>gb true (pIw x) 0 fun ae=>gb true (pIw y) 0 fun ag=>gb true (HZ n d e f g h i j k b l o p z aa ab ac ad ae ag some) 0 fun q=>bif (q != 0) then k0 q else Zu n d e f g h i j k b l o p k0 k1 m (wJ (c+1)) else k1 c (decide (c<(b.length:Int)))
def Zq (n:Nat) (c:Int) (d e f g b h i:LL) (k0:Int->oP R) (k1:Int->Bool->oP R):Nat->Int->oP R
 | 0,_=>none
 | m+1,a=>bif (decide (a<(b.length:Int))) then gb true (He n c d e f g b h i a some) 0 fun j=>bif (j != 0) then k0 j else Zq n c d e f g b h i k0 k1 m (wJ (a+1)) else k1 a (decide (a<(b.length:Int)))
def Zm (n:Nat) (h:Int) (i j k l o c p:LL) (k0:oP R) (k1:Int->Bool->oP R):Nat->Int->oP R
 | 0,_=>none
 | m+1,d=>bif (decide (d<(c.length:Int))) then gb true (Q1 c d) [] fun e=>gb true (e[0]?) oF fun s=>gb true (e[1]?) oF fun t=>gb true (e[2]?) oF fun u=>gb true (e[3]?) oF fun v=>gb true (e[4]?) oF fun x=>gb true (pIw s) 0 fun y=>gb true (pIw t) 0 fun z=>gb true (JQ n h i j k l o c p y z some) false fun a=>gb (!(!a)) (pIw u) 0 fun aa=>gb (!(!a)) (pIw v) 0 fun ab=>gb (!(!a)) (JQ n h i j k l o c p aa ab some) false fun b=>gb (!(bif !a then true else (!b))) (pIw s) 0 fun f=>gb (!(bif !a then true else (!b))) (pIw u) 0 fun g=>gb ((!(bif !a then true else (!b)))&&(f == g)) (pIw t) 0 fun q=>gb ((!(bif !a then true else (!b)))&&(f == g)) (pIw v) 0 fun r=>gb (!(bif (bif !a then true else (!b)) then true else (bif (f == g) then (q == r) else false))) (pIw x) 0 fun ac=>gb (!(bif (bif !a then true else (!b)) then true else (bif (f == g) then (q == r) else false))) (J4 n ac 0 (wJ (h-1)) some) false fun ad=>bif (bif (bif (bif !a then true else (!b)) then true else (bif (f == g) then (q == r) else false)) then true else (!ad)) then k0 else Zm n h i j k l o c p k0 k1 m (wJ (d+1)) else k1 d (decide (d<(c.length:Int)))
def Zs (n:Nat) (e d:LL) (k0:oP R) (k1:Int->Bool->oP R):Nat->Int->oP R
 | 0,_=>none
 | m+1,b=>bif (decide (b<(d.length:Int))) then gb true (Q1 d b) [] fun f=>gb true (f[0]?) oF fun i=>gb true (f[1]?) oF fun j=>gb true (f[2]?) oF fun k=>gb true (pIw i) 0 fun l=>gb true (J4 n l 0 (wJ ((e.length:Int)-1)) some) false fun a=>gb (!(!a)) (pIw j) 0 fun o=>gb (!(!a)) (J4 n o 0 (wJ ((e.length:Int)-1)) some) false fun c=>gb (!(bif !a then true else (!c))) (pIw i) 0 fun g=>gb (!(bif !a then true else (!c))) (pIw j) 0 fun h=>gb (!(bif (bif !a then true else (!c)) then true else (g == h))) (pIw k) 0 fun p=>gb (!(bif (bif !a then true else (!c)) then true else (g == h))) (J4 n p 1 1048576 some) false fun q=>bif (bif (bif (bif !a then true else (!c)) then true else (g == h)) then true else (!q)) then k0 else Zs n e d k0 k1 m (wJ (b+1)) else k1 b (decide (b<(d.length:Int)))
def Zw (n:Nat) (i j k l:LL) (a:Int) (d b e f g h c:LL) (K:Int->oP R):oP R:= gb true (Gh n i j k l some) 0 fun m=>bif (m != 0) then K 1 else gb true (Fa n a d b e f g h c some) false fun o=>bif o then K 7 else gb true (J4 n a 2 7200 some) false fun p=>bif !p then K 4 else WP n a d b e f g h c (fun q=>K q) (fun v x=>WK n i j k l b (fun r=>K r) (fun y z=>WO n i j k l a d b e f g h c (fun s=>K s) (fun aa ab=>Zu n i j k l a d b e f g h c (fun t=>K t) (fun ac ad=>Zq n a d b e f g h c (fun u=>K u) (fun ae ag=>Zm n a d b e f g h c (K 4) (fun ah ai=>Zs n i c (K 4) (fun aj ak=>K 0) n 0) n 0) n 0) n 0) n 0) n 0) n 0

end Go.Vx
namespace Go.Vx
section
variable {R:Type} {n:Nat}
theorem Q4G {x lo hi:Int} (a:lo<=x) (b:x<=hi) (K:Bool->oP R):HU n x lo hi K=K true:=inT (n:=n) a b K
theorem Q4H {x lo hi:Int} (a:lo<=x) (b:x<=hi) (K:Bool->oP R):J4 n x lo hi K=K true:=inT (n:=n) a b K
theorem Qef {a b g:Int} {acc:LL} (c:0<=a) (d:a<=12) (hc:acc.length<=1000) {k0:Int->Bool->LL->oP R} {m:Nat} (hm:12<m):UD n g (Q4 a) (Q4 b) k0 m 0 acc=k0 a false (acc++List.replicate a.toNat [Q4 b,Q4 g]):=by
 have hl:∀ h:Nat,(acc++List.replicate h [Q4 b,Q4 g]).length=acc.length+h:=fun h=>by simp
 have:=Qx (r:=fun m h=>UD n g (Q4 a) (Q4 b) k0 m h (acc++List.replicate h.toNat [Q4 b,Q4 g])) (N:=a.toNat) (e:=k0 a false (acc++List.replicate a.toNat [Q4 b,Q4 g])) (fun m h hh=>?_) (fun m=>?_) a.toNat m 0 (by omega) (by omega)
 ·simpa using this
 ·simp only [Int.toNat_natCast];rw [UD,Q2,Q0,QU (by simp;omega),Q2,Q0,hl,XS (by simp only [List.length_cons,List.length_nil];omega),Q0,Qu (by omega),List.append_assoc,<- List.replicate_succ']
 ·rw [UD,Q2,Q0,Q8 (by simp;omega)];simp only [Int.toNat_natCast];rw [show ((a.toNat:Nat):Int)=a by omega];simp
theorem Qfl {Se s:LL} {k0:Int->Bool->LL->oP R} (hs:∀ row∈s,Co Se row) (hl:s.length<=30) {m:Nat} (hm:s.length<m) (hn:12<n):UL n Se s 0 k0 m 0 []=k0 ((s.length:Nat):Int) false (YC Se s):=by
 have hc:=fun h:Nat=>(S8 (s:=s.take h) fun r hr=>hs r (List.mem_of_mem_take hr)).1
 have hw:wJ (((s.length:Nat):Int)-0)=((s.length:Nat):Int):=by rw [Q6 (by omega) (by omega)];omega
 refine Qx (r:=fun m h=>UL n Se s 0 k0 m h (YC Se (s.take h.toNat))) (N:=s.length) (fun m h hh=>?_) (fun m=>?_) s.length m 0 (by omega) hm
 ·have e:=Qjh hh;obtain ⟨x,d,nm,a,b,c,st,hx,ac,f,hd⟩:=hs _ (Qjm hh);rw [hx] at e;have a0:=f.a0;have a1:=f.a1;have ak:=hc h;simp only [List.length_take] at ak;simp only [Int.toNat_natCast,MA e,HE ac];rw [UL,hw,Q9 hh];simp -implicitDefEqProofs only [Q0,List.getElem?_cons_zero,List.getElem?_cons_succ,Q2,XE,QA,Qjl,Qjg,Qjj,Qji,Qa,e,ac,Qef (n:=n) (b:=b) (acc:=YC Se (s.take h)) (show 0<=a by omega) a1 (by omega) hn,Qu (show h<=1000 by omega)];rw [Q6 (x:=0-c) (by have:=f.c1;omega) (by have:=f.c0;omega),Int.zero_sub];cases g:d == (1:Int) <;> rfl
 ·simp only [Int.toNat_natCast];rw [UL,hw,Ql,Qjg,List.take_length]
end
structure RtF (St Pt Se Li s:LL):Prop where
 lay:P2 400 St Pt Se Li=true
 ref:Qab St Pt Se Li=true
 l2:2<=s.length
 l24:s.length<=24
 rt:rtB Se.length Li s=true
 rt6:QfL Se.length Li s=true
 hops:Q0c Se.length Pt.length Li 0 s=true
 st:∀ r∈s,Co Se r
theorem RtOK.f {G:Geo} (hG:G.OK) {s:LL} {x y:Int} (h:RtOK G s x y):RtF G.St G.Pt G.Se G.Li s:=⟨hG.lay,hG.ref,h.l2,h.l24,h.rt,h.rt6,h.hops,h.st⟩
section
variable {St Pt Se Li s:LL} (h:RtF St Pt Se Li s)
include h
theorem Q9c:So 400 St Pt Se Li s 0 Tu3=some (YC Se s,TC Se s,0):=by
 have l2:=h.l2;have l24:=h.l24;have hl:=(S8 h.st).1;obtain ⟨row,rest,rfl⟩:∃ row rest,s=row::rest:=by
  cases s with
  |nil=>simp at l2
  |cons a b=>exact ⟨a,b,rfl⟩
 obtain ⟨x,d,nm,a,b,c,st,rfl,hs,_,_⟩:=h.st row (by simp);have hf:TC Se ([Q4 x,Q4 d]::rest)=a:=by simp only [TC,hs]
 generalize hS:[Q4 x,Q4 d]::rest=s at *
 unfold So;rw [Q4x h.ref rfl h.l2 h.l24 h.rt6,Q0,Q8 (by decide),Qfl h.st (by omega) (by omega) (by decide),Q8 (by simp;omega),show Q1 s (0:Int)=some [Q4 x,Q4 d] by rw [<- hS];rfl];simp -implicitDefEqProofs only [Q0,List.getElem?_cons_zero,List.getElem?_cons_succ,Q2,XE,QA,Qjl,Qjg,Qjj,Qji,hs,hf]
theorem Q9w {nm:List UInt8} {tl sp ac br:Int} (hk:StkN tl sp ac br):SL 400 St Pt Se Li s 0 nm tl sp ac br (some:Int->Option Int)=some 0:=by
 have l24:=h.l24;have hw:wJ (((s.length:Nat):Int)-0)=((s.length:Nat):Int):=by rw [Q6 (by omega) (by omega)];omega
 have ak:Yj 400 nm tl sp ac br (some:Bool->Option Bool)=some true:=by
  obtain ⟨t1,t2,s1,s2,a1,a2,b1,b2⟩:=hk;unfold Yj;simp -implicitDefEqProofs only [Q0,List.getElem?_cons_zero,List.getElem?_cons_succ,Q2,XE,QA,Qjl,Qjg,Qjj,Qji,Q4G t1 (show tl<=40 by omega),Q4G (show 1000<=sp by omega) (show sp<=100000 by omega),Q4G (show 100<=ac by omega) (show ac<=2000 by omega),Q4G (show 100<=br by omega) (show br<=2000 by omega)]
 unfold SL;rw [Q9c h,Q0,Q8 (by rfl),ak,Q0,Q8 (by decide)];refine Qx (r:=fun m h=>Gu 400 Se s 0 tl _ _ m h) (N:=s.length) (fun m k e=>?_) (fun m=>?_) s.length 400 0 (by omega) (by omega)
 ·obtain ⟨x,d,al,a,b,c,st,hx,aj,hn,_⟩:=h.st _ (Qjm e);have a0:=hn.a0;have t2:=hk.t2;rw [Gu,hw,Q9 e,Qa,Qjh e,hx];simp -implicitDefEqProofs only [Q0,List.getElem?_cons_zero,List.getElem?_cons_succ,Q2,XE,QA,Qjl,Qjg,Qjj,Qji,aj,show decide (a<if 2<tl then tl else 2)=false by simp;split <;> omega,Qu (show k<=1000 by omega)]
 ·rw [Gu,hw,Ql,Qjg]
end
end Go.Vx
namespace Go.Vx
variable {R:Type}
def VK (n:Nat) (b:Int) (k0:Int->Int->Bool->oP R):Nat->Int->Int->oP R
 | 0,_,_=>none
 | m+1,h2,a=>bif decide (a>0) then gb true (nz (wJ (h2+a))) () fun c=>bif (decide ((wJ (h2+a))<=(wJ (Int.tdiv b (wJ (h2+a)))))) then gb true (BY 1) () fun d=>VK n b k0 m (wJ (h2+a)) (shR .i64 a 1) else gb true (BY 1) () fun e=>VK n b k0 m h2 (shR .i64 a 1) else k0 h2 a (decide (a>0))
def Ss (n:Nat) (a0:Int) (K:Int->oP R):oP R:= VK n a0 (fun a b c=>K a) n 0 2147483648
def Je (n:Nat) (b:Int) (k0:Int->Int->Bool->oP R):Nat->Int->Int->oP R
 | 0,_,_=>none
 | m+1,h2,a=>bif decide (h2<a) then gb true (nz 2) () fun c=>bif (decide ((wJ ((wJ (Int.tdiv (wJ ((wJ (h2+a))+1)) 2))*(wJ (Int.tdiv (wJ ((wJ (h2+a))+1)) 2))))<=b)) then Je n b k0 m (wJ (Int.tdiv (wJ ((wJ (h2+a))+1)) 2)) a else Je n b k0 m h2 (wJ ((wJ (Int.tdiv (wJ ((wJ (h2+a))+1)) 2))-1)) else k0 h2 a (decide (h2<a))
def Mi (n:Nat) (a0:Int) (K:Int->oP R):oP R:= bif decide (a0<=0) then K 0 else Je n a0 (fun a b c=>K a) n 0 3037000499

end Go.Vx
namespace Go.Vx
def QaR (x r:Int):Prop:=0<=r/\r*r<=x/\x<(r+1)*(r+1)
theorem Q52 {a b:Int} (c:0<=a) (h:a<=b):a*a<=b*b:=Int.mul_le_mul h h c (by omega)
theorem Q3K {x r s:Int} (h:QaR x r) (g:QaR x s):r=s:=by
 obtain ⟨a0,a1,a2⟩:=h;obtain ⟨b0,b1,b2⟩:=g;rcases Int.lt_trichotomy r s with h | h | h
 ·have:=Q52 (show 0<=r+1 by omega) (show r+1<=s by omega);omega
 ·exact h
 ·have:=Q52 (show 0<=s+1 by omega) (show s+1<=r by omega);omega
theorem Q8P {x r b:Int} (c:0<=r) (hb:0<=b) (h:r*r<=x) (hx:x<(b+1)*(b+1)):r<=b:=by
 by_cases a:r<=b
 ·exact a
 ·have:=Q52 (show 0<=b+1 by omega) (show b+1<=r by omega);omega
theorem Qi4 {a:Int} (b:0<=a) (c:a<=9223372036854775807):shR .i64 a 1=a / 2:=by
 show a.fdiv 2=a / 2;exact Int.fdiv_eq_ediv_of_nonneg a (by decide)
theorem Qfx {R:Type} {n:Nat} {x:Int} (a:0<=x) (hx:x<=1000000000) {k0:Int->Int->Bool->oP R}:∀ (k m:Nat) (ac:Int),k<=31->k+1<m->0<=ac->ac*ac<=x->x<(ac+2 ^ (k+1))*(ac+2 ^ (k+1)) ->
  ∃ r,QaR x r/\VK n x k0 m ac (2 ^ k)=k0 r 0 false
 |k,m+1,ac,hk,hm,b,c,d=>by
  have hr:ac<=40000:=Q8P b (by decide) c (by omega);have hp:∀ j:Nat,(1:Int)<=2 ^ j:=fun j=>by
   have:=Int.ofNat_le.2 (Nat.two_pow_pos j);rw [Int.natCast_pow] at this;exact this
  have f:(2:Int) ^ k<=2147483648:=by
   have:=Int.ofNat_le.2 (Nat.le_trans (Nat.pow_le_pow_right (show 0<2 by decide) hk) (show 2 ^ 31<=2147483648 by decide));rw [Int.natCast_pow] at this;exact this
  have g:=hp k;have hw:wJ (ac+2 ^ k)=ac+2 ^ k:=Q6 (by omega) (by omega);have hs:(2:Int) ^ (k+1)=2 ^ k+2 ^ k:=by rw [Int.pow_succ];omega
  have ak:Int.tdiv x (ac+2 ^ k)=x / (ac+2 ^ k):=Int.tdiv_eq_ediv_of_nonneg a;have i:0<=x / (ac+2 ^ k):=Int.ediv_nonneg a (by omega);have l:x / (ac+2 ^ k)<=x:=Int.ediv_le_self _ a;have e:wJ (Int.tdiv x (ac+2 ^ k))=x / (ac+2 ^ k):=by rw [ak,Q6 (by omega) (by omega)]
  have aj:(ac+2 ^ k<=x / (ac+2 ^ k))↔(ac+2 ^ k)*(ac+2 ^ k)<=x:=Int.le_ediv_iff_mul_le (by omega);have step:∀ r:Int,0<=r->r*r<=x->x<(r+2 ^ k)*(r+2 ^ k)->∃ r',QaR x r'/\VK n x k0 m r (shR .i64 (2 ^ k) 1)=k0 r' 0 false:=by
   intro r a0 a1 a2;rw [Qi4 (by omega) (by omega)];cases k with
   |zero=>
    refine ⟨r,⟨a0,a1,by simpa using a2⟩,?_⟩;obtain ⟨m,rfl⟩:∃ m',m=m'+1:=⟨m-1,by omega⟩;rfl
   |succ k=>
    rw [show (2:Int) ^ (k+1) / 2=2 ^ k by rw [Int.pow_succ,Int.mul_ediv_cancel _ (by decide)]];exact Qfx a hx k m r (by omega) (by omega) a0 a1 a2
  rw [VK,QU (by simp;omega),hw,Ei (by omega),Q0,e];by_cases h:(ac+2 ^ k)*(ac+2 ^ k)<=x
  ·rw [QU (by simpa using aj.2 h)];exact step _ (by omega) h (by rw [Int.add_assoc,<- hs];exact d)
  ·rw [Q8 (by simpa using fun h'=>h (aj.1 h'))];exact step ac b c (by omega)
theorem QgP {x:Int} (a:0<=x) (hx:x<=1000000000):∃ r,QaR x r/\Ss 400 x (some:Int->Option Int)=some r:=
 Qfx a hx 31 400 0 (by decide) (by decide) (by decide) (by simpa using a) (by omega)
theorem QcN {R:Type} {n:Nat} {x:Int} (a:0<=x) (hx:x<=1000000000) {k0:Int->Int->Bool->oP R}:∀ (k m:Nat) (lo hi:Int),k<m->0<=lo->lo<=hi->hi<=3037000499->hi-lo<2 ^ k->lo*lo<=x->x<(hi+1)*(hi+1) ->
  ∃ r,QaR x r/\Je n x k0 m lo hi=k0 r r false
 |k,m+1,lo,hi,hm,l0,l1,l2,hk,b,c=>by
  by_cases h:lo<hi
  ·obtain ⟨k,rfl⟩:∃ k',k=k'+1:=by
    cases k with
    |zero=>simp at hk;omega
    |succ k=>exact ⟨k,rfl⟩
   have hs:(2:Int) ^ (k+1)=2 ^ k+2 ^ k:=by rw [Int.pow_succ];omega
   have e:wJ (Int.tdiv (wJ ((wJ (lo+hi))+(1:Int))) (2:Int))=(lo+hi+1) / 2:=by
    rw [Q6 (x:=lo+hi) (by omega) (by omega),Q6 (x:=lo+hi+1) (by omega) (by omega),Int.tdiv_eq_ediv_of_nonneg (by omega),Q6 (by omega) (by omega)]
   rw [Je,QU (by simpa using h),Ei (by decide),Q0,e];have ac:lo<(lo+hi+1) / 2/\(lo+hi+1) / 2<=hi:=by omega
   generalize hM:(lo+hi+1) / 2=mid at *
   have aj:=Q52 (show 0<=mid by omega) (show mid<=3037000499 by omega);have d:=Int.mul_nonneg (show 0<=mid by omega) (show 0<=mid by omega);rw [Q6 (x:=mid*mid) (by omega) (by omega)];by_cases hq:mid*mid<=x
   ·rw [QU (by simpa using hq)];exact QcN a hx k m mid hi (by omega) (by omega) (by omega) l2 (by omega) hq c
   ·rw [Q8 (by simpa using hq),Q6 (by omega) (by omega)];exact QcN a hx k m lo (mid-1) (by omega) l0 (by omega) (by omega) (by omega) b (by rw [Int.sub_add_cancel];omega)
  ·obtain rfl:lo=hi:=by omega
   rw [Je,Q8 (by simp)];exact ⟨lo,⟨l0,b,c⟩,by simp⟩
theorem Qgl {x r:Int} (a:0<=x) (hx:x<=1000000000) (hr:QaR x r):Mi 400 x (some:Int->Option Int)=some r:=by
 unfold Mi;by_cases h:x<=0
 ·rw [QU (by simpa using h)];have:QaR x 0:=⟨by decide,by omega,by omega⟩;rw [Q3K hr this]
 ·rw [Q8 (by simpa using h)];obtain ⟨r',b,h2⟩:=QcN (R:=Int) (n:=400) (k0:=fun w _ _=>some w) a hx 32 400 0 3037000499 (by decide) (by decide) (by decide) (by decide) (by decide) (by omega) (by omega);rw [Q3K hr b];exact h2
end Go.Vx
namespace Go.Vx
variable {R:Type}
def Z6 (n:Nat) (e:LL) (c:Int) (k0:oP R) (k1:Int->Bool->oP R):Nat->Int->oP R
 | 0,_=>none
 | m+1,a=>bif decide (a<c) then gb true (Q1 e a) [] fun f=>gb true (f[0]?) oF fun g=>gb true (f[1]?) oF fun h=>gb true (pIw g) 0 fun b=>gb (!(decide (b<1000))) (pIw g) 0 fun d=>gb (!(bif decide (b<1000) then true else (decide (d>100000)))) (pIw h) 0 fun i=>gb (!(bif (bif decide (b<1000) then true else (decide (d>100000))) then true else (decide (i<(-40:Int))))) (pIw h) 0 fun j=>bif (bif (bif (bif decide (b<1000) then true else (decide (d>100000))) then true else (decide (i<(-40:Int)))) then true else (decide (j>40))) then k0 else Z6 n e c k0 k1 m (wJ (a+1)) else k1 a (decide (a<c))
def Jx (n:Nat) (a0:LL) (a1:Int) (a:List UInt8) (b c d e:Int) (K:Int->oP R):oP R:= gb true (UR n a b c d e some) false fun f=>bif !f then K 1 else bif (decide ((a0.length:Int)>4000)) then K 7 else Z6 n a0 (a0.length:Int) (K 4) (fun g h=>bif (bif decide (a1<0) then true else (decide (a1>(wJ ((a0.length:Int)-2))))) then K 4 else K 0) n 0
def WU (n:Nat) (c:LL) (b:Int) (k0:Int->Int->Bool->oP R):Nat->Int->Int->oP R
 | 0,_,_=>none
 | m+1,h2,a=>bif decide (a<b) then gb true (Q1 c a) [] fun d=>gb true (d[0]?) oF fun f=>gb true (d[1]?) oF fun g=>gb true (pIw f) 0 fun e=>WU n c b k0 m (if e<h2 then e else h2) (wJ (a+1)) else k0 h2 a (decide (a<b))
def JW (n:Nat) (a0:LL) (a1:Int) (e:List UInt8) (a c f g:Int) (K:Int->oP R):oP R:= gb true (slB (a0.length) (some (if 0<(wJ (a1-a)) then (wJ (a1-a)) else 0)) (some (wJ (a1+1)))) (0,0) fun b=>WU n (cut a0 b) ((List.length (cut a0 b):Nat):Int) (fun d h i=>K d) n c 0

def Tx (n:Nat) (c a:Int) (d:List UInt8) (e f b g:Int) (K:Int->oP R):oP R:= bif decide (a>0) then K (wJ (20000*(if 50<(wJ (b-(wJ (10*a)))) then (wJ (b-(wJ (10*a)))) else 50))) else K (wJ (20000*b))

def Te (n:Nat) (c a:Int) (d:List UInt8) (e f g b:Int) (K:Int->oP R):oP R:= bif decide (a<0) then K (wJ (20000*(if 50<(wJ (b+(wJ (10*a)))) then (wJ (b+(wJ (10*a)))) else 50))) else K (wJ (20000*b))

def YH (n:Nat) (f:LL) (d g:Int) (h:List UInt8) (i j k l:Int) (k0:Int->Int->Bool->LL->oP R):Nat->Int->Int->LL->oP R
 | 0,_,_,_=>none
 | m+1,b,a,e=>bif decide (a<g) then gb true (JW n f a h i j k l some) 0 fun c=>gb true (inB (e.length) (wJ ((wJ (a-1))-d))) () fun z=>gb true (e[(Int.toNat (wJ ((wJ (a-1))-d)))]?) [] fun r=>gb true (r[0]?) oF fun s=>gb true (pIw s) 0 fun o=>gb true (Q1 f (wJ (a-1))) [] fun p=>gb true (p[0]?) oF fun t=>gb true (p[1]?) oF fun u=>gb true (pIw t) 0 fun v=>gb true (pIw u) 0 fun x=>gb true (Tx n v x h i j k l some) 0 fun q=>gb true (inB (e.length) (wJ (a-d))) () fun aa=>gb true (e[(Int.toNat (wJ (a-d)))]?) [] fun y=>YH n f d g h i j k l k0 m c (wJ (a+1)) (List.set e (Int.toNat (wJ (a-d))) (List.set y 0 (Q4 (if (wJ (o+q))<(wJ ((if c<b then c else b)*(if c<b then c else b))) then (wJ (o+q)) else (wJ ((if c<b then c else b)*(if c<b then c else b))))))) else k0 b a (decide (a<g)) e
def Zp (n:Nat) (d:LL) (b:Int) (e:List UInt8) (f g h i:Int) (k0:Int->Bool->LL->oP R):Nat->Int->LL->oP R
 | 0,_,_=>none
 | m+1,a,c=>bif decide (a>b) then gb true (inB (c.length) (wJ (a-b))) () fun z=>gb true (c[(Int.toNat (wJ (a-b)))]?) [] fun p=>gb true (p[0]?) oF fun q=>gb true (pIw q) 0 fun j=>gb true (inB (c.length) (wJ ((wJ (a+1))-b))) () fun aa=>gb true (c[(Int.toNat (wJ ((wJ (a+1))-b)))]?) [] fun r=>gb true (r[0]?) oF fun s=>gb true (pIw s) 0 fun k=>gb true (Q1 d a) [] fun l=>gb true (l[0]?) oF fun t=>gb true (l[1]?) oF fun u=>gb true (pIw t) 0 fun v=>gb true (pIw u) 0 fun x=>gb true (Te n v x e f g h i some) 0 fun o=>gb true (inB (c.length) (wJ (a-b))) () fun ab=>gb true (c[(Int.toNat (wJ (a-b)))]?) [] fun y=>Zp n d b e f g h i k0 m (wJ (a-1)) (List.set c (Int.toNat (wJ (a-b))) (List.set y 0 (Q4 (if (wJ (k+o))<j then (wJ (k+o)) else j)))) else k0 a (decide (a>b)) c
def G0 (n:Nat) (a0:LL) (a1:Int) (a:List UInt8) (b c d e:Int) (K:LL->oP R):oP R:= gb true (bif decide (0<=(wJ ((wJ ((a0.length:Int)-a1))+1)))&&decide ((wJ ((wJ ((a0.length:Int)-a1))+1))<=(wJ ((wJ ((a0.length:Int)-a1))+1))) then some () else none) () fun i=>gb true (Ym (Int.toNat (wJ ((wJ ((a0.length:Int)-a1))+1))*8)) () fun u2=>gb true (JW n a0 a1 a b c d e some) 0 fun f=>YH n a0 a1 (a0.length:Int) a b c d e (fun j k l g=>Zp n a0 a1 a b c d e (fun m o h=>K h) n (wJ ((a0.length:Int)-1)) g) n f (wJ (a1+1)) (List.replicate (Int.toNat (wJ ((wJ ((a0.length:Int)-a1))+1))) [Q4 0])

def W0 (n:Nat) (c:Int) (k0:Int->Bool->LL->oP R):Nat->Int->LL->oP R
 | 0,_,_=>none
 | m+1,a,b=>bif decide (a<c) then gb true (inB (b.length) a) () fun i=>gb true (b[a.toNat]?) [] fun d=>gb true (d[0]?) oF fun e=>gb true (pIw e) 0 fun f=>gb true (Ss n f some) 0 fun g=>gb true (inB (b.length) a) () fun j=>gb true (b[a.toNat]?) [] fun h=>W0 n c k0 m (wJ (a+1)) (List.set b a.toNat (List.set h 0 (Q4 g))) else k0 a (decide (a<c)) b
def GF (n:Nat) (a0:LL) (a1:Int) (a:List UInt8) (b c d e:Int) (K:LL->Int->oP R):oP R:= gb true (Jx n a0 a1 a b c d e some) 0 fun f=>bif (f != 0) then K [] f else gb true (G0 n a0 a1 a b c d e some) [] fun g=>W0 n (g.length:Int) (fun i j h=>K h 0) n 0 g

def Kg (n:Nat) (a0 a1:Int) (K:Int->Int->oP R):oP R:= bif decide (a1<1) then K 0 1 else gb true (nz a1) () fun a=>gb true (nz a1) () fun u2=>bif (decide ((Int.tmod a0 a1)>0)) then K (wJ ((wJ (Int.tdiv a0 a1))+1)) 0 else K (wJ (Int.tdiv a0 a1)) 0

def WZ (n:Nat) (c:LL) (k0:Int->Bool->LL->oP R):Nat->Int->LL->oP R
 | 0,_,_=>none
 | m+1,a,b=>bif (decide (a<(c.length:Int))) then gb true (Q1 c (wJ (a-1))) [] fun d=>gb true (d[0]?) oF fun e=>gb true (pIw e) 0 fun f=>gb true (Q1 c a) [] fun g=>gb true (g[0]?) oF fun h=>gb true (pIw h) 0 fun i=>gb true (Kg n 20000000 (wJ (f+i)) Tu2) (0,0) fun l=>gb true (inB (b.length) (wJ (a-1))) () fun s=>gb true (b[(Int.toNat (wJ (a-1)))]?) [] fun o=>gb true (o[0]?) oF fun p=>gb true (pIw p) 0 fun q=>gb true (inB (b.length) a) () fun t=>gb true (b[a.toNat]?) [] fun r=>WZ n c k0 m (wJ (a+1)) (List.set b a.toNat (List.set r 0 (Q4 (wJ (q+l.1))))) else k0 a (decide (a<(c.length:Int))) b
def JK (n:Nat) (a0:LL) (a1:Int) (b:List UInt8) (c d e f:Int) (K:LL->Int->oP R):oP R:= gb true (GF n a0 a1 b c d e f Tu2) ([],0) fun a=>bif (a.2 != 0) then K [] a.2 else gb true (bif decide (0<=(a.1.length:Int))&&decide ((a.1.length:Int)<=(a.1.length:Int)) then some () else none) () fun u2=>gb true (Ym (Int.toNat (a.1.length:Int)*8)) () fun u3=>WZ n a.1 (fun i j h=>K h 0) n 1 (List.replicate (Int.toNat (a.1.length:Int)) [Q4 0])

def KF (n:Nat) (h2:LL) (k0:oP R) (k1:Int->Bool->oP R):Nat->Int->oP R
 | 0,_=>none
 | m+1,a=>bif (decide (a<(h2.length:Int))) then gb true (Q1 h2 a) [] fun c=>gb true (c[0]?) oF fun d=>gb true (pIw d) 0 fun e=>gb true (HU n e 1000 100000 some) false fun b=>gb (!(!b)) (Q1 h2 a) [] fun f=>gb (!(!b)) (f[1]?) oF fun g=>gb (!(!b)) (pIw g) 0 fun h=>gb (!(!b)) (HU n h (-40:Int) 40 some) false fun i=>bif (bif !b then true else (!i)) then k0 else KF n h2 k0 k1 m (wJ (a+1)) else k1 a (decide (a<(h2.length:Int)))
def CS (n:Nat) (a0:LL) (a1:Int) (a:List UInt8) (b c d e:Int) (K:Int->oP R):oP R:= gb true (Yj n a b c d e some) false fun f=>bif !f then K 1 else bif (decide ((a0.length:Int)>4000)) then K 7 else KF n a0 (K 4) (fun g h=>bif (bif decide (a1<0) then true else (decide (a1>(wJ ((a0.length:Int)-2))))) then K 4 else K 0) n 0

def Jm (n:Nat) (c:LL) (h2:Int) (k0:Int->Int->Bool->oP R):Nat->Int->Int->oP R
 | 0,_,_=>none
 | m+1,b,a=>bif decide (a<=h2) then gb true (Q1 c a) [] fun e=>gb true (e[0]?) oF fun f=>gb true (pIw f) 0 fun d=>Jm n c h2 k0 m (if d<b then d else b) (wJ (a+1)) else k0 b a (decide (a<=h2))
def Sc (n:Nat) (a0:LL) (a1:Int) (d:List UInt8) (a b e f:Int) (K:Int->oP R):oP R:= Jm n a0 a1 (fun c g h=>K c) n b (if 0<(wJ (a1-a)) then (wJ (a1-a)) else 0)

def MI (n:Nat) (c a:Int) (d:List UInt8) (e f b g:Int) (K:Int->oP R):oP R:= bif decide (a>0) then K (if 50<(wJ (b-(wJ (10*a)))) then (wJ (b-(wJ (10*a)))) else 50) else K b

def MF (n:Nat) (c a:Int) (d:List UInt8) (e f g b:Int) (K:Int->oP R):oP R:= bif decide (a<0) then K (if 50<(wJ (b+(wJ (10*a)))) then (wJ (b+(wJ (10*a)))) else 50) else K b

def UX (n:Nat) (e:LL) (f g:Int) (h:List UInt8) (i j k l:Int) (k0:Int->Bool->LL->oP R):Nat->Int->LL->oP R
 | 0,_,_=>none
 | m+1,a,b=>bif decide (a<g) then gb true (Sc n e (wJ ((wJ (f+a))-1)) h i j k l some) 0 fun c=>gb true (Sc n e (wJ (f+a)) h i j k l some) 0 fun d=>gb true (inB (b.length) a) () fun p=>gb true (b[a.toNat]?) [] fun o=>UX n e f g h i j k l k0 m (wJ (a+1)) (List.set b a.toNat (List.set o 0 (Q4 (wJ ((if d<c then d else c)*(if d<c then d else c)))))) else k0 a (decide (a<g)) b
def V2 (n:Nat) (d:LL) (e c:Int) (f:List UInt8) (g h i j:Int) (k0:Int->Bool->LL->oP R):Nat->Int->LL->oP R
 | 0,_,_=>none
 | m+1,a,b=>bif decide (a<c) then gb true (inB (b.length) (wJ (a+1))) () fun z=>gb true (b[(Int.toNat (wJ (a+1)))]?) [] fun q=>gb true (q[0]?) oF fun r=>gb true (pIw r) 0 fun k=>gb true (inB (b.length) a) () fun aa=>gb true (b[a.toNat]?) [] fun s=>gb true (s[0]?) oF fun t=>gb true (pIw t) 0 fun l=>gb true (Q1 d (wJ (e+a))) [] fun o=>gb true (o[0]?) oF fun u=>gb true (o[1]?) oF fun v=>gb true (pIw u) 0 fun x=>gb true (pIw v) 0 fun i64=>gb true (MI n x i64 f g h i j some) 0 fun p=>gb true (inB (b.length) (wJ (a+1))) () fun ab=>gb true (b[(Int.toNat (wJ (a+1)))]?) [] fun y=>V2 n d e c f g h i j k0 m (wJ (a+1)) (List.set b (Int.toNat (wJ (a+1))) (List.set y 0 (Q4 (if (wJ (l+(wJ (20000*p))))<k then (wJ (l+(wJ (20000*p)))) else k)))) else k0 a (decide (a<c)) b
def V5 (n:Nat) (c:LL) (d:Int) (e:List UInt8) (f g h i:Int) (k0:Int->Bool->LL->oP R):Nat->Int->LL->oP R
 | 0,_,_=>none
 | m+1,a,b=>bif decide (a>0) then gb true (inB (b.length) (wJ (a-1))) () fun z=>gb true (b[(Int.toNat (wJ (a-1)))]?) [] fun p=>gb true (p[0]?) oF fun q=>gb true (pIw q) 0 fun j=>gb true (inB (b.length) a) () fun aa=>gb true (b[a.toNat]?) [] fun r=>gb true (r[0]?) oF fun s=>gb true (pIw s) 0 fun k=>gb true (Q1 c (wJ ((wJ (d+a))-1))) [] fun l=>gb true (l[0]?) oF fun t=>gb true (l[1]?) oF fun u=>gb true (pIw t) 0 fun v=>gb true (pIw u) 0 fun x=>gb true (MF n v x e f g h i some) 0 fun o=>gb true (inB (b.length) (wJ (a-1))) () fun ab=>gb true (b[(Int.toNat (wJ (a-1)))]?) [] fun y=>V5 n c d e f g h i k0 m (wJ (a-1)) (List.set b (Int.toNat (wJ (a-1))) (List.set y 0 (Q4 (if (wJ (k+(wJ (20000*o))))<j then (wJ (k+(wJ (20000*o)))) else j)))) else k0 a (decide (a>0)) b
def VV (n:Nat) (c:Int) (k0:Int->Bool->LL->oP R):Nat->Int->LL->oP R
 | 0,_,_=>none
 | m+1,a,b=>bif decide (a<=c) then gb true (inB (b.length) a) () fun i=>gb true (b[a.toNat]?) [] fun d=>gb true (d[0]?) oF fun e=>gb true (pIw e) 0 fun f=>gb true (Mi n f some) 0 fun g=>gb true (inB (b.length) a) () fun j=>gb true (b[a.toNat]?) [] fun h=>VV n c k0 m (wJ (a+1)) (List.set b a.toNat (List.set h 0 (Q4 g))) else k0 a (decide (a<=c)) b
def Rp (n:Nat) (a0:LL) (a1:Int) (a:List UInt8) (b c d e:Int) (K:LL->Int->oP R):oP R:= gb true (CS n a0 a1 a b c d e some) 0 fun f=>bif (f != 0) then K [] f else gb true (bif decide (0<=(wJ ((wJ ((a0.length:Int)-a1))+1)))&&decide ((wJ ((wJ ((a0.length:Int)-a1))+1))<=(wJ ((wJ ((a0.length:Int)-a1))+1))) then some () else none) () fun u2=>gb true (Ym (Int.toNat (wJ ((wJ ((a0.length:Int)-a1))+1))*8)) () fun u3=>UX n a0 a1 (wJ ((a0.length:Int)-a1)) a b c d e (fun k l g=>V2 n a0 a1 (wJ ((a0.length:Int)-a1)) a b c d e (fun m o h=>V5 n a0 a1 a b c d e (fun p q i=>VV n (wJ ((a0.length:Int)-a1)) (fun r s j=>K j 0) n 0 i) n (wJ ((a0.length:Int)-a1)) h) n 0 g) n 1 (List.replicate (Int.toNat (wJ ((wJ ((a0.length:Int)-a1))+1))) [Q4 0])

def JI (n:Nat) (a0 a1:Int) (K:Int->oP R):oP R:= gb true (nz a1) () fun a=>gb true (nz a1) () fun u2=>bif (decide ((Int.tmod a0 a1)>0)) then K (wJ ((wJ (Int.tdiv a0 a1))+1)) else K (wJ (Int.tdiv a0 a1))

def Js (n:Nat) (c:LL) (k0:Int->Bool->LL->oP R):Nat->Int->LL->oP R
 | 0,_,_=>none
 | m+1,a,b=>bif (decide (a<(c.length:Int))) then gb true (inB (b.length) (wJ (a-1))) () fun q=>gb true (b[(Int.toNat (wJ (a-1)))]?) [] fun d=>gb true (d[0]?) oF fun e=>gb true (pIw e) 0 fun f=>gb true (Q1 c (wJ (a-1))) [] fun g=>gb true (g[0]?) oF fun h=>gb true (pIw h) 0 fun i=>gb true (Q1 c a) [] fun j=>gb true (j[0]?) oF fun k=>gb true (pIw k) 0 fun l=>gb true (JI n 20000000 (wJ (i+l)) some) 0 fun o=>gb true (inB (b.length) a) () fun r=>gb true (b[a.toNat]?) [] fun p=>Js n c k0 m (wJ (a+1)) (List.set b a.toNat (List.set p 0 (Q4 (wJ (f+o))))) else k0 a (decide (a<(c.length:Int))) b
def S7 (n:Nat) (a0:LL) (a1:Int) (b:List UInt8) (c d e f:Int) (K:LL->Int->oP R):oP R:= gb true (Rp n a0 a1 b c d e f Tu2) ([],0) fun a=>bif (a.2 != 0) then K [] a.2 else gb true (bif decide (0<=(a.1.length:Int))&&decide ((a.1.length:Int)<=(a.1.length:Int)) then some () else none) () fun u2=>gb true (Ym (Int.toNat (a.1.length:Int)*8)) () fun u3=>Js n a.1 (fun i j h=>K h 0) n 1 (List.replicate (Int.toNat (a.1.length:Int)) [Q4 0])

end Go.Vx
namespace Go.Vx
def cl (C:LL) (k:Nat):Int × Int:=match C[k]? with
 |some [.int _ b,.int _ g]=>(b,g)
 |_=>(0,0)
structure CellsOK (C:LL):Prop where
 row:∀ k,k<C.length->C[k]? = some [Q4 (cl C k).1,Q4 (cl C k).2]
 b0:∀ k,k<C.length->5000<=(cl C k).1
 b1:∀ k,k<C.length->(cl C k).1<=35000
 g0:∀ k,k<C.length -> -10<=(cl C k).2
 g1:∀ k,k<C.length->(cl C k).2<=10
 len:C.length<=300
theorem Q8p {Se:LL}:∀ {s:LL},(∀ row∈s,Co Se row)->s.length<=24->CellsOK (YC Se s):=by
 intro s h hl;have hm:∀ r∈YC Se s,∃ b g:Int,r=[Q4 b,Q4 g]/\5000<=b/\b<=35000 /\ -10<=g/\g<=10:=by
  intro r hr;obtain ⟨row,f,h2⟩:=List.mem_flatMap.1 hr;obtain ⟨x,d,nm,a,b,c,st,rfl,hs,hn,_⟩:=h _ f;rw [HE hs] at h2;have i:=List.eq_of_mem_replicate h2;have c0:=hn.c0;have c1:=hn.c1;refine ⟨_,_,i,hn.b0,hn.b1,?_⟩;cases (d == (1:Int))
  ·exact ⟨c0,c1⟩
  ·show -10 <= -c /\ -c<=10;omega
 have hat:∀ k,k<(YC Se s).length->(YC Se s)[k]? = some [Q4 (cl (YC Se s) k).1,Q4 (cl (YC Se s) k).2]/\5000<=(cl (YC Se s) k).1/\(cl (YC Se s) k).1<=35000 /\ -10<=(cl (YC Se s) k).2/\(cl (YC Se s) k).2<=10:=by
  intro k hk;obtain ⟨b,g,e,f⟩:=hm _ (Qjm hk);have e2:(YC Se s)[k]? = some [Q4 b,Q4 g]:=by rw [Qjh hk,e]
  simp only [cl,e2];exact ⟨trivial,f⟩
 have:=(S8 h).1;exact ⟨fun k hk=>(hat k hk).1,fun k hk=>(hat k hk).2.1,fun k hk=>(hat k hk).2.2.1,fun k hk=>(hat k hk).2.2.2.1,fun k hk=>(hat k hk).2.2.2.2,by omega⟩
def Q9B (v:Int) (r:List D):Int:=match r with
 |.int _ b::_=>if b<v then b else v
 |_=>v
def win (C:LL) (k t:Nat):LL:=(C.drop (k-t)).take (k+1-(k-t))
def Q7u (C:LL) (sp:Int) (k t:Nat):Int:=(win C k t).foldl Q9B sp
theorem Q9R {C:LL} (hC:CellsOK C) {k t i:Nat} (hk:k<C.length) (hi:i<k+1-(k-t)):(win C k t)[i]? = some [Q4 (cl C (k-t+i)).1,Q4 (cl C (k-t+i)).2]:=by
 unfold win;rw [List.getElem?_take_of_lt hi,List.getElem?_drop,hC.row _ (by omega)]
theorem Q5D {C:LL} {k t:Nat} (hk:k<C.length):(win C k t).length=k+1-(k-t):=by
 unfold win;simp;omega
theorem Qat {C:LL} (hC:CellsOK C) {sp:Int} {k t:Nat} (hk:k<C.length) (d:10000<=sp) (c:sp<=25000):5000<=Q7u C sp k t/\Q7u C sp k t<=25000:=by
 have hm:∀ r∈win C k t,∃ b g:Int,r=[Q4 b,Q4 g]/\5000<=b:=by
  intro r hr;obtain ⟨i,hi,rfl⟩:=List.getElem_of_mem hr;have aj:=hi;rw [Q5D hk] at aj;have e:=Q9R hC hk aj;rw [Qjh hi] at e;injection e with e
  exact ⟨_,_,e,hC.b0 _ (by omega)⟩
 unfold Q7u;revert hm;generalize win C k t=L;intro hm;have:∀ (L:LL) (v:Int),(∀ r∈L,∃ b g:Int,r=[Q4 b,Q4 g]/\5000<=b)->5000<=v->v<=25000->5000<=L.foldl Q9B v/\L.foldl Q9B v<=25000:=by
  intro L;induction L with
  |nil=>exact fun v _ a b=>⟨a,b⟩
  |cons r L ih=>
   intro v h a b;obtain ⟨x,g,rfl,hx⟩:=h _ (List.mem_cons_self ..);refine ih _ (fun r hr=>h r (List.mem_cons_of_mem _ hr)) ?_ ?_
   ·show 5000<=if x<v then x else v
    split <;> omega
   ·show (if x<v then x else v)<=25000;split <;> omega
 exact this L sp hm (by omega) c
section
variable {C:LL} (hC:CellsOK C) {nm:List UInt8} {sp ac br:Int} {t k:Nat} (ht:t<=40)
include hC ht
omit hC in
theorem Qea (hk:k<=1000):(if (0:Int)<(wJ ((k:Int)-(t:Int))) then (wJ ((k:Int)-(t:Int))) else (0:Int))=((k-t:Nat):Int):=by
 rw [Q6 (by omega) (by omega)];split <;> omega
theorem QhN (hk:k<C.length):JW 400 C (k:Int) nm (t:Int) sp ac br (some:Int->Option Int)=some (Q7u C sp k t):=by
 have hl:=hC.len;unfold JW;rw [Qea ht (by omega),Qu (by omega)];have hs:slB C.length (some ((k-t:Nat):Int)) (some ((k+1:Nat):Int))=some (k-t,k+1):=by
  unfold slB;rw [show (decide ((0:Int)<=(some ((k-t:Nat):Int)).getD 0)&&(decide ((some ((k-t:Nat):Int)).getD 0<=(some ((k+1:Nat):Int)).getD (C.length:Int))&&decide ((some ((k+1:Nat):Int)).getD (C.length:Int)<=(C.length:Int))))=true by simp;omega];rfl
 rw [hs,Q0,show cut C (k-t,k+1)=win C k t from rfl];have hw:=Q5D (t:=t) hk;refine (Qx (r:=fun m h=>WU 400 (win C k t) (((win C k t).length:Nat):Int) _ m (((win C k t).take h.toNat).foldl Q9B sp) h) (N:=(win C k t).length) (fun m h hh=>?_) (fun m=>?_) (win C k t).length 400 0 (by omega) (by omega))
 ·have e:=Q9R hC hk (show h<k+1-(k-t) by omega);simp only [Int.toNat_natCast];rw [WU,Q9 hh,Qa,e,YJ e,List.foldl_append];simp -implicitDefEqProofs only [Q0,List.getElem?_cons_zero,List.getElem?_cons_succ,Q2,XE,QA,Qjl,Qjg,Qjj,Qji,Qu (show h<=1000 by omega)];rfl
 ·simp only [Int.toNat_natCast];rw [WU,Ql,Qjg,List.take_length];rfl
theorem Qhz (hk:k<C.length):Sc 400 C (k:Int) nm (t:Int) sp ac br (some:Int->Option Int)=some (Q7u C sp k t):=by
 have hl:=hC.len;have hw:=Q5D (t:=t) hk;unfold Sc;rw [Qea ht (by omega)];have:=Qx (r:=fun m h=>Jm 400 C (k:Int) (fun a b c=>some a) m (((win C k t).take h.toNat).foldl Q9B sp) (((k-t:Nat):Int)+h)) (N:=(win C k t).length) (e:=some (Q7u C sp k t)) (fun m h hh=>?_) (fun m=>?_) (win C k t).length 400 0 (by omega) (by omega)
 ·rw [show ((k-t:Nat):Int)+((0:Nat):Int)=((k-t:Nat):Int) by omega] at this;exact this
 ·have e:=Q9R hC hk (show h<k+1-(k-t) by omega);have e2:=hC.row (k-t+h) (by omega);simp only [Int.toNat_natCast];rw [Jm,QU (by simp;omega),show ((k-t:Nat):Int)+(h:Int)=((k-t+h:Nat):Int) by omega,Qa,e2,YJ e,List.foldl_append,Qu (by omega),show ((k-t:Nat):Int)+((h+1:Nat):Int)=((k-t+h+1:Nat):Int) by omega];simp -implicitDefEqProofs only [Q0,List.getElem?_cons_zero,List.getElem?_cons_succ,Q2,XE,QA,Qjl,Qjg,Qjj,Qji];rfl
 ·simp only [Int.toNat_natCast];rw [Jm,Q8 (by simp;omega),List.take_length];rfl
end
def arr (f:Nat->Int) (n:Nat):LL:=(List.range n).map fun i=>[Q4 (f i)]
theorem Zd {f:Nat->Int} {n:Nat}:(arr f n).length=n:=by simp [arr]
theorem Gm {f:Nat->Int} {n i:Nat} (h:i<n):(arr f n)[i]? = some [Q4 (f i)]:=by simp [arr,h]
theorem Y8 {f g:Nat->Int} {n:Nat} (h:∀ i,i<n->f i=g i):arr f n=arr g n:=by
 refine List.map_congr_left fun i hi=>?_
 rw [h i (by simpa using hi)]
theorem Qd4 {f:Nat->Int} {n i:Nat} {v:Int}:(arr f n).set i [Q4 v]=arr (fun j=>if j=i then v else f j) n:=by
 refine List.ext_getElem? fun j=>?_
 by_cases hj:j<n
 ·rw [Gm hj];by_cases h:i=j
  ·subst h;rw [List.getElem?_set_self (by rw [Zd];exact hj),if_pos rfl]
  ·rw [List.getElem?_set_ne h,Gm hj,if_neg (fun e=>h e.symm)]
 ·rw [Qjr (by simp [Zd];omega),Qjr (by simp [Zd];omega)]
theorem CV {n:Nat}:List.replicate n [Q4 0]=arr (fun _=>0) n:=by
 refine List.ext_getElem? fun j=>?_
 by_cases hj:j<n
 ·rw [Gm hj];simp [hj]
 ·rw [Qjr (by simp;omega),Qjr (by simp [Zd];omega)]
def acc (ac g:Int):Int:=if 0<g then (if 50<ac-10*g then ac-10*g else 50) else ac
def brk (br g:Int):Int:=if g<0 then (if 50<br+10*g then br+10*g else 50) else br
theorem Q5e {ac g:Int} (a1:400<=ac) (a2:ac<=800) (g0 : -10<=g) (g1:g<=10):300<=acc ac g/\acc ac g<=800:=by
 unfold acc;split
 ·split <;> omega
 ·omega
theorem Q5j {br g:Int} (a1:400<=br) (a2:br<=800) (g0 : -10<=g) (g1:g<=10):300<=brk br g/\brk br g<=800:=by
 unfold brk;split
 ·split <;> omega
 ·omega
section
variable {nm:List UInt8} {b t sp ac br g:Int} {n:Nat}
theorem QdR (a1:400<=ac) (a2:ac<=800) (g0 : -10<=g) (g1:g<=10):MI n b g nm t sp ac br (some:Int->Option Int)=some (acc ac g):=by
 unfold MI acc;rw [Q6 (x:=10*g) (by omega) (by omega),Q6 (x:=ac-10*g) (by omega) (by omega)];by_cases h:0<g
 ·rw [QU (by simpa using h),if_pos h]
 ·rw [Q8 (by simpa using h),if_neg h]
theorem Qfj (a1:400<=br) (a2:br<=800) (g0 : -10<=g) (g1:g<=10):MF n b g nm t sp ac br (some:Int->Option Int)=some (brk br g):=by
 unfold MF brk;rw [Q6 (x:=10*g) (by omega) (by omega),Q6 (x:=br+10*g) (by omega) (by omega)];by_cases h:g<0
 ·rw [QU (by simpa using h),if_pos h]
 ·rw [Q8 (by simpa using h),if_neg h]
theorem Qgc (a1:400<=ac) (a2:ac<=800) (g0 : -10<=g) (g1:g<=10):Tx n b g nm t sp ac br (some:Int->Option Int)=some (20000*acc ac g):=by
 have hr:=Q5e a1 a2 g0 g1;unfold Tx;rw [Q6 (x:=10*g) (by omega) (by omega),Q6 (x:=ac-10*g) (by omega) (by omega)];unfold acc at hr ⊢;by_cases h:0<g
 ·rw [if_pos h] at hr ⊢;rw [QU (by simpa using h),Q6 (by omega) (by omega)]
 ·rw [if_neg h] at hr ⊢;rw [Q8 (by simpa using h),Q6 (by omega) (by omega)]
theorem Qgt (a1:400<=br) (a2:br<=800) (g0 : -10<=g) (g1:g<=10):Te n b g nm t sp ac br (some:Int->Option Int)=some (20000*brk br g):=by
 have hr:=Q5j a1 a2 g0 g1;unfold Te;rw [Q6 (x:=10*g) (by omega) (by omega),Q6 (x:=br+10*g) (by omega) (by omega)];unfold brk at hr ⊢;by_cases h:g<0
 ·rw [if_pos h] at hr ⊢;rw [QU (by simpa using h),Q6 (by omega) (by omega)]
 ·rw [if_neg h] at hr ⊢;rw [Q8 (by simpa using h),Q6 (by omega) (by omega)]
end
structure Run where
 C:LL
 nm:List UInt8
 sp:Int
 ac:Int
 br:Int
 t:Nat
 st:Nat
 N:Nat
structure Run.OK (X:Run):Prop where
 hC:CellsOK X.C
 hk:StkN X.t X.sp X.ac X.br
 hN:X.C.length=X.st+X.N
 h2:2<=X.N
namespace Run
variable (X:Run)
def lm (b:Nat):Int:=Q7u X.C X.sp (X.st+b) X.t
def lo (b:Nat):Int:=if X.lm b<X.lm (b-1) then X.lm b else X.lm (b-1)
def V (b:Nat):Int:=X.lo b*X.lo b
def G (b:Nat):Int:=20000*acc X.ac (cl X.C (X.st+b)).2
def L (b:Nat):Int:=20000*brk X.br (cl X.C (X.st+b)).2
def F:Nat->Int
 |0=>0
 |b+1=>if F b+X.G b<X.V (b+1) then F b+X.G b else X.V (b+1)
def K:Nat->Int
 |0=>0
 |d+1=>if K d+X.L (X.N-(d+1))<X.F (X.N-(d+1)) then K d+X.L (X.N-(d+1)) else X.F (X.N-(d+1))
variable {X} (h:X.OK)
include h
theorem QbQ {b:Nat} (hb:b<X.N):5000<=X.lm b/\X.lm b<=25000:=Qat h.hC (by have:=h.hN;omega) h.hk.s1 h.hk.s2
theorem Qa5 {b:Nat} (hb:b<X.N):5000<=X.lo b/\X.lo b<=25000:=by
 have a:=QbQ h hb;have h2:=QbQ h (b:=b-1) (by omega);unfold lo;split <;> omega
theorem QcU {b:Nat} (hb:b<X.N):25000000<=X.V b/\X.V b<=625000000:=by
 obtain ⟨a,h2⟩:=Qa5 h hb;have:=Q52 (by decide) a;have:=Q52 (by omega) h2;unfold V;omega
theorem Qci {b:Nat} (hb:b<X.N):6000000<=X.G b/\X.G b<=16000000:=by
 have hN:=h.hN;have:=Q5e h.hk.a1 h.hk.a2 (h.hC.g0 (X.st+b) (by omega)) (h.hC.g1 (X.st+b) (by omega));unfold G;omega
theorem Qbl {b:Nat} (hb:b<X.N):6000000<=X.L b/\X.L b<=16000000:=by
 have hN:=h.hN;have:=Q5j h.hk.b1 h.hk.b2 (h.hC.g0 (X.st+b) (by omega)) (h.hC.g1 (X.st+b) (by omega));unfold L;omega
theorem QaH:∀ b,b<X.N->0<=X.F b/\X.F b<=625000000/\(1<=b->6000000<=X.F b)
 |0,_=>by rw [F];omega
 |b+1,hb=>by
  have a:=QaH b (by omega);have h2:=QcU h hb;have c:=Qci h (b:=b) (by omega);rw [F];split <;> omega
theorem Q4S:∀ d,d<=X.N->0<=X.K d/\X.K d<=625000000/\(1<=d->d<X.N->6000000<=X.K d)
 |0,_=>by rw [K];omega
 |d+1,hd=>by
  have a:=Q4S d (by omega);have h2:=QaH h (X.N-(d+1)) (by omega);have c:=Qbl h (b:=X.N-(d+1)) (by omega);rw [K];split <;> omega
theorem Qgb:X.K X.N=0:=by
 have h2:=h.h2;obtain ⟨d,hd⟩:∃ d,X.N=d+1:=⟨X.N-1,by omega⟩;have a:=Q4S h d (by omega);have c:=Qbl h (b:=0) (by omega);rw [hd,K,show X.N-(d+1)=0 by omega,F,if_neg (by omega)]
theorem row {b:Nat} (hb:b<X.N):X.C[X.st+b]? = some [Q4 (cl X.C (X.st+b)).1,Q4 (cl X.C (X.st+b)).2]:=h.hC.row _ (by have:=h.hN;omega)
end Run

theorem Qal {f:Nat->Int} {n i:Nat} {v:Int} (h:i<n) {R:Type} (K:LL->oP R):gb true (inB n (i:Int)) () (fun _=>gb true ((arr f n)[(Int.toNat (i:Int))]?) [] fun r=>K ((arr f n).set (Int.toNat (i:Int)) (List.set r 0 (D.int .i64 v))))=K (arr (fun j=>if j=i then v else f j) n):=by
 rw [ZI (by omega) (by omega),Q0,Int.toNat_natCast,Gm h,Q0];show K ((arr f n).set i [Q4 v])=_;rw [Qd4]
theorem Q87 {f:Nat->Int} {n i:Nat} (h:i<n) {R:Type} (K:Int->oP R):gb true (inB n (i:Int)) () (fun _=>gb true ((arr f n)[(Int.toNat (i:Int))]?) [] fun r=>gb true (r[0]?) oF fun c=>gb true (pIw c) 0 fun x=>K x)=K (f i):=by
 rw [ZI (by omega) (by omega),Q0,Int.toNat_natCast,Gm h];rfl
theorem wI {a b:Int} (h:a=b) (c : -1000000<=b) (d:b<=1000000000):wJ a=b:=by rw [h,Q6 (by omega) (by omega)]
namespace Run
variable {X:Run} (h:X.OK)
include h
def W (X:Run):LL:=arr (fun j=>X.K (X.N-j)) (X.N+1)
theorem sqA:G0 400 X.C (X.st:Int) X.nm (X.t:Int) X.sp X.ac X.br (some:LL->Option LL)=some X.W:=by
 have hN:=h.hN;have h2:=h.h2;have hl:=h.hC.len;have t2:=h.hk.t2;have al:wJ (wJ (((X.C.length:Nat):Int)-(X.st:Int))+1)=((X.N+1:Nat):Int):=by
  rw [Q6 (x:=((X.C.length:Nat):Int)-(X.st:Int)) (by omega) (by omega),Q6 (by omega) (by omega)];omega
 unfold G0;rw [al,show (bif decide ((0:Int)<=((X.N+1:Nat):Int))&&decide (((X.N+1:Nat):Int)<=((X.N+1:Nat):Int)) then some () else none)=some () by rw [QU (by simp;omega)],Q0,Int.toNat_natCast,XS (by omega),Q0,QhN h.hC (by omega) (by omega),Q0,CV,Qu (by omega)];have k:∀ k0:Int->Int->Bool->LL->Option LL,YH 400 X.C (X.st:Int) ((X.C.length:Nat):Int) X.nm (X.t:Int) X.sp X.ac X.br k0 400 (Q7u X.C X.sp X.st X.t) ((X.st+1:Nat):Int) (arr (fun _=>0) (X.N+1))=k0 (X.lm (X.N-1)) ((X.C.length:Nat):Int) false (arr (fun j=>if j<=X.N-1 then X.F j else 0) (X.N+1)):=by
  intro k0;have:=Qx (r:=fun m i=>YH 400 X.C (X.st:Int) ((X.C.length:Nat):Int) X.nm (X.t:Int) X.sp X.ac X.br k0 m (X.lm i.toNat) ((X.st+1+i.toNat:Nat):Int) (arr (fun j=>if j<=i.toNat then X.F j else 0) (X.N+1))) (N:=X.N-1) (e:=k0 (X.lm (X.N-1)) ((X.C.length:Nat):Int) false (arr (fun j=>if j<=X.N-1 then X.F j else 0) (X.N+1))) (fun m i hi=>?_) (fun m=>?_) (X.N-1) 400 0 (by omega) (by omega)
  ·have e:arr (fun j=>if j<=(((0:Nat):Int)).toNat then X.F j else 0) (X.N+1)=arr (fun _=>0) (X.N+1):=Y8 fun j hj=>by
    split
    ·rename_i d;have d:j=0:=by simpa using d
     subst d;rw [F]
    ·rfl
   rw [e] at this;exact this
  ·simp only [Int.toNat_natCast];have f:=h.hC.g0 (X.st+i) (by omega);have g:=h.hC.g1 (X.st+i) (by omega);have hr:=row h (b:=i) (by omega);have ao:=Qa5 h (b:=i+1) (by omega);have hV:=QcU h (b:=i+1) (by omega);have hF:=QaH h i (by omega);have hG:=Qci h (b:=i) (by omega);rw [YH,Q9 (show X.st+1+i<X.C.length by omega),Qjl,QhN h.hC (by omega) (by omega),Q0,wI (show ((X.st+1+i:Nat):Int)-1=((X.st+i:Nat):Int) by omega) (by omega) (by omega),wI (show ((X.st+i:Nat):Int)-(X.st:Int)=(i:Int) by omega) (by omega) (by omega),Zd,Q87 (by omega),Qa,hr,wI (show ((X.st+1+i:Nat):Int)-(X.st:Int)=((i+1:Nat):Int) by omega) (by omega) (by omega)];simp -implicitDefEqProofs only [Q0,List.getElem?_cons_zero,List.getElem?_cons_succ,Q2,XE,QA,Qjl,Qjg,Qjj,Qji,Qgc h.hk.a1 h.hk.a2 f g];rw [Qal (by omega)];rw [Qu (by omega),show Q7u X.C X.sp (X.st+1+i) X.t=X.lm (i+1) by unfold lm;rw [Nat.add_assoc,Nat.add_comm 1 i],show X.st+1+i+1=X.st+1+(i+1) by omega];refine congrArg _ (Y8 fun j hj=>?_);by_cases ak:j=i+1
   ·subst ak;have e1:(if X.lm (i+1)<X.lm i then X.lm (i+1) else X.lm i)=X.lo (i+1):=rfl;rw [if_pos rfl,if_pos (Nat.le_refl i),e1,wI (a:=X.lo (i+1)*X.lo (i+1)) (b:=X.V (i+1)) rfl (by omega) (by omega),wI (a:=X.F i+20000*acc X.ac (cl X.C (X.st+i)).2) (b:=X.F i+X.G i) rfl (by omega) (by omega),if_pos (Nat.le_refl (i+1)),F]
   ·rw [if_neg ak];by_cases c:j<=i
    ·rw [if_pos c,if_pos (by omega)]
    ·rw [if_neg c,if_neg (by omega)]
  ·simp only [Int.toNat_natCast];rw [show X.st+1+(X.N-1)=X.C.length by omega,YH,Ql,Qjg]
 rw [k,wI (show ((X.C.length:Nat):Int)-1=((X.st+X.N-1:Nat):Int) by omega) (by omega) (by omega)];have:=Qx (r:=fun m i=>Zp 400 X.C (X.st:Int) X.nm (X.t:Int) X.sp X.ac X.br (fun _ _ l=>some l) m ((X.st+X.N-1-i.toNat:Nat):Int) (arr (fun j=>if X.N-j<=i.toNat then X.K (X.N-j) else X.F j) (X.N+1))) (N:=X.N-1) (e:=some X.W) (fun m i hi=>?_) (fun m=>?_) (X.N-1) 400 0 (by omega) (by omega)
 ·have e:arr (fun j=>if X.N-j<=(((0:Nat):Int)).toNat then X.K (X.N-j) else X.F j) (X.N+1)=arr (fun j=>if j<=X.N-1 then X.F j else 0) (X.N+1):=Y8 fun j hj=>by
   by_cases an:j=X.N
   ·subst an;rw [if_pos (by simp),if_neg (by omega),Nat.sub_self,K]
   ·rw [if_neg (by simp;omega),if_pos (by omega)]
  rw [e] at this;exact this
 ·simp only [Int.toNat_natCast];obtain ⟨b,hb⟩:∃ b,b+1=X.N-i:=⟨X.N-i-1,by omega⟩;have o:1<=b:=by omega
  have f:=h.hC.g0 (X.st+b) (by omega);have g:=h.hC.g1 (X.st+b) (by omega);have hr:=row h (b:=b) (by omega);have hK:=Q4S h i (by omega);have hL:=Qbl h (b:=b) (by omega);rw [Zp,show X.st+X.N-1-i=X.st+b by omega,QU (by simp;omega),wI (show ((X.st+b:Nat):Int)-(X.st:Int)=(b:Int) by omega) (by omega) (by omega),Zd,Q87 (by omega),Qu (by omega),wI (show ((X.st+b+1:Nat):Int)-(X.st:Int)=((b+1:Nat):Int) by omega) (by omega) (by omega),Q87 (by omega),Qa,hr];simp -implicitDefEqProofs only [Q0,List.getElem?_cons_zero,List.getElem?_cons_succ,Q2,XE,QA,Qjl,Qjg,Qjj,Qji,Qgt h.hk.b1 h.hk.b2 f g];rw [Qal (by omega),wI (show ((X.st+b:Nat):Int)-1=((X.st+X.N-1-(i+1):Nat):Int) by omega) (by omega) (by omega)];refine congrArg _ (Y8 fun j hj=>?_);by_cases aj:j=b
  ·subst aj;rw [if_pos rfl,if_neg (show ¬ X.N-j<=i by omega),if_pos (show X.N-(j+1)<=i by omega),if_pos (show X.N-j<=i+1 by omega),show X.N-j=i+1 by omega,K,show X.N-(j+1)=i by omega,show X.N-(i+1)=j by omega,wI (a:=X.K i+20000*brk X.br (cl X.C (X.st+j)).2) (b:=X.K i+X.L j) rfl (by omega) (by omega)]
  ·rw [if_neg aj];by_cases c:X.N-j<=i
   ·rw [if_pos c,if_pos (by omega)]
   ·rw [if_neg c,if_neg (by omega)]
 ·simp only [Int.toNat_natCast];rw [Zp,show X.st+X.N-1-(X.N-1)=X.st by omega,Q8 (by simp)];refine congrArg some (Y8 fun j hj=>?_);by_cases n:j=0
  ·subst n;rw [if_neg (by omega),F,Nat.sub_zero,Qgb h]
  ·rw [if_pos (by omega)]
end Run

theorem JE {k:Nat} (a:k<=1000) (b:1<=k):wJ (((k:Nat):Int)-1)=((k-1:Nat):Int):=by rw [Q6 (by omega) (by omega)];omega
section
variable {R:Type} {Sk Ro Ls Ch Tu Sy De:LL} {per:Int} {n:Nat}
theorem Q5I {mn mx:Int} (a:0<=mn) (b:mn<=mx) (h2:mx<mn+per) (c:mn<=1000) (p1:per<=300) (K:Bool->oP R):KE n per Sk Ro Ls Ch Tu Sy De mn mx K=K true:=by
 unfold KE;rw [show decide (mn>=0)=true by simpa using a,show decide (mn<=mx)=true by simpa using b,show decide (mx<=(7200:Int))=true by simp;omega,Q6 (by omega) (by omega),show decide (mx<mn+per)=true by simpa using h2];rfl
theorem Qgp {k i:Nat} {r:List D} (h:TM Ls k i r) (hl:Ls.length<=1000) (hr:∀ nm w rides,Ls[k]? = some [D.str nm,Q4 0,Q4 w,D.sl 4 rides]->rides.length<=1000) (K:Bool->oP R):JQ n per Sk Ro Ls Ch Tu Sy De (k:Int) (i:Int) K=K true:=by
 obtain ⟨nm,w,rides,a,h2⟩:=h;have hk:=(Qjk.1 a).1;have hi:=(Qjk.1 h2).1;have hr:=hr _ _ _ a;unfold JQ;rw [JE hl (by omega),Q4H (by omega) (by omega),Q0,Qa,a];simp -implicitDefEqProofs only [Q0,List.getElem?_cons_zero,List.getElem?_cons_succ,Q2,XE,QA,Qjl,Qjg,Qjj,Qji,JE hr (by omega),Q4H (show (0:Int)<=(i:Int) by omega) (show (i:Int)<=((rides.length-1:Nat):Int) by omega)]
theorem Q9X {G:Geo} {x y:Int} {s:LL} (a:RtOK G s x y) (K:Int->oP R):Gr n s 0 K=K x:=by
 obtain ⟨d,b⟩:=a.fst;unfold Gr;simp -implicitDefEqProofs only [Q0,List.getElem?_cons_zero,List.getElem?_cons_succ,Q2,XE,QA,Qjl,Qjg,Qjj,Qji,b]
theorem Qcc {G:Geo} {x y:Int} {s:LL} (a:RtOK G s x y) (K:Int->oP R):Vi n s 0 K=K y:=by
 obtain ⟨d,b⟩:=a.lst;have l2:=a.l2;have l24:=a.l24;unfold Vi;rw [Q6 (x:=((s.length:Nat):Int)-0) (by omega) (by omega),Q6 (by omega) (by omega),Int.sub_zero,b];simp -implicitDefEqProofs only [Q0,List.getElem?_cons_zero,List.getElem?_cons_succ,Q2,XE,QA,Qjl,Qjg,Qjj,Qji]
theorem B0 {k i:Nat} {rt:Nat} {ex mn mx:Int} {s:LL} (h:TM Ls k i [Q4 rt,Q4 ex,Q4 mn,Q4 mx]) (a:Ro[rt]? = some [D.sl 2 s,Q4 0]) (K:D->D->oP R):Y1 n per Sk Ro Ls Ch Tu Sy De (k:Int) (i:Int) K=K (D.sl 2 s) (Q4 0):=by
 obtain ⟨nm,w,rides,b,h2⟩:=h;unfold Y1;simp -implicitDefEqProofs only [Q0,List.getElem?_cons_zero,List.getElem?_cons_succ,Q2,XE,QA,Qjl,Qjg,Qjj,Qji,Qa,b,h2,a]
theorem Qhj {i:Nat} (hi:i<8):M1 400 (nmN i) (some:Bool->Option Bool)=some true:=by
 obtain rfl | rfl | rfl | rfl | rfl | rfl | rfl | rfl:i=0\/i=1\/i=2\/i=3\/i=4\/i=5\/i=6\/i=7:=by omega
 all_goals kernel_rfl
theorem Qff (hs:Q1a Sk):GM 400 per Sk Ro Ls Ch Tu Sy De 0 (some:Int->Option Int)=some 0:=by
 obtain ⟨a,b,c,d,rfl,t1,t2,s1,s2,a1,a2,b1,b2⟩:=hs;have h:GM 400 per [[D.str (bs [88]),Q4 a,Q4 b,Q4 c,Q4 d]] Ro Ls Ch Tu Sy De 0 (some:Int->Option Int)=gb true (Yj 400 (bs [88]) a b c d some) false (fun r=>bif !r then some 4 else some 0):=by kernel_rfl
 have ac:Yj 400 (bs [88]) a b c d (some:Bool->Option Bool)=some true:=by
  unfold Yj;simp -implicitDefEqProofs only [Q0,List.getElem?_cons_zero,List.getElem?_cons_succ,Q2,XE,QA,Qjl,Qjg,Qjj,Qji,Q4G t1 (show a<=40 by omega),Q4G (show 1000<=b by omega) (show b<=100000 by omega),Q4G (show 100<=c by omega) (show c<=2000 by omega),Q4G (show 100<=d by omega) (show d<=2000 by omega)]
 rw [h,ac];rfl
end
section
variable {R:Type} {G:Geo} {Sk Ro Ls Ch Tu Sy De:LL} {per:Int} (h:PlanR G per Sk Ro Ls Ch Tu Sy De)
include h
theorem Qf2 {k:Nat}:∀ nm w rides,Ls[k]? = some [D.str nm,Q4 0,Q4 w,D.sl 4 rides]->rides.length<=1000:=by
 intro nm w rides e;obtain ⟨w',ac,e',hr,_⟩:=DY h.good (Qjk.1 e).1;rw [e] at e';injection e' with e'
 simp at e';rw [e'.2.2];omega
theorem Q78 {k i:Nat} {r:List D} (hr:TM Ls k i r) (K:Bool->oP R):JQ 400 per Sk Ro Ls Ch Tu Sy De (k:Int) (i:Int) K=K true:=by
 have:=h.l1;exact Qgp hr (by omega) (Qf2 h) K
theorem QgK:Fa 400 per Sk Ro Ls Ch Tu Sy De (some:Bool->Option Bool)=some false:=by
 obtain ⟨_,_,_,_,aj,_⟩:=h.sk;obtain ⟨T,hT,_,_,_,ak⟩:=h.tu;have l1:=h.l1;have l2:=h.rl;have a:=h.chl;have c:=h.syl;have d:=h.del;have lk:Sk.length=1:=by rw [aj];rfl
 have lt:Tu.length<=20:=by rw [hT];simpa using ak
 have ac:∀ {k:Nat} {b:Int},(k:Int)<=b->decide ((k:Int)>b)=false:=fun h=>by simpa using h
 unfold Fa;simp -implicitDefEqProofs only [ac (show ((Sk.length:Nat):Int)<=8 by omega),ac (show ((Ro.length:Nat):Int)<=48 by omega),ac (show ((Ls.length:Nat):Int)<=16 by omega),ac (show ((Ch.length:Nat):Int)<=32 by omega),ac (show ((Tu.length:Nat):Int)<=32 by omega),ac (show ((Sy.length:Nat):Int)<=32 by omega),ac (show ((De.length:Nat):Int)<=32 by omega),Qjg];refine Qx (r:=fun m h=>Gn 400 Ls _ _ m h) (N:=Ls.length) (fun m k hk=>?_) (fun m=>?_) Ls.length 400 0 (by omega) (by omega)
 ·obtain ⟨w,rides,e,hr,_⟩:=DY h.good hk;rw [Gn,Q9 hk,Qa,e];simp -implicitDefEqProofs only [Q0,List.getElem?_cons_zero,List.getElem?_cons_succ,Q2,XE,QA,Qjl,Qjg,Qjj,Qji,ac (show ((rides.length:Nat):Int)<=12 by omega),Qu (show k<=1000 by omega)]
 ·rw [Gn,Ql,Qjg]
theorem Qg8 {k:Nat} (hk:k<Ls.length):H9 400 G.St G.Pt G.Se G.Li per Sk Ro Ls Ch Tu Sy De (k:Int) (some:Int->Option Int)=some 0:=by
 have l1:=h.l1;have p1:=h.p1;have p0:=h.p0;obtain ⟨a,v,c,d,aq,ao⟩:=h.sk;obtain ⟨w,rides,e,w0,t,ac⟩:=h.good.ls k _ (Qjh hk);have e:=(Qjh hk).trans (congrArg some e);have az:rides.length=1\/rides.length=2:=by rcases ac with ⟨_,_,_,rfl,_⟩ | ⟨_,_,_,_,_,rfl,_⟩;exact .inl rfl;exact .inr rfl
 have f:Q1 Sk (0:Int)=some [D.str (bs [88]),Q4 a,Q4 v,Q4 c,Q4 d]:=by rw [aq];rfl
 have au:Sk.length=1:=by rw [aq];rfl
 unfold H9;rw [Qa,e];simp -implicitDefEqProofs only [Q0,List.getElem?_cons_zero,List.getElem?_cons_succ,Q2,XE,QA,Qjl,Qjg,Qjj,Qji,Qhj (show k<8 by omega)];refine (Qx (r:=fun m h=>WX 400 (k:Int) Ls (D.str (nmN k)) _ _ m h) (N:=k) (fun m i hi=>?_) (fun m=>?_) k 400 0 (by omega) (by omega))
 ·obtain ⟨w',ar,e',_⟩:=DY h.good (show i<Ls.length by omega);rw [WX,Q9 hi,Qa,e'];simp -implicitDefEqProofs only [Q0,List.getElem?_cons_zero,List.getElem?_cons_succ,Q2,XE,QA,Qjl,Qjg,Qjj,Qji,QeT (show i<8 by omega) (show k<8 by omega) (show i≠k by omega),Qu (show i<=1000 by omega)]
 ·rw [WX,Ql,Qjg,au,JE (by decide) (by decide)];simp -implicitDefEqProofs only [Q0,List.getElem?_cons_zero,List.getElem?_cons_succ,Q2,XE,QA,Qjl,Qjg,Qjj,Qji,Q4H (show (0:Int)<=0 by omega) (show (0:Int)<=((1-1:Nat):Int) by decide),Q4H w0 (show w<=1048576 by omega),show (((rides.length:Nat):Int) == 0)=false by simp;intro hx;simp [hx] at az];refine (Qx (r:=fun m h=>WL 400 G.St G.Pt G.Se G.Li per Sk Ro Ls Ch Tu Sy De (Q4 0) (D.sl 4 rides) _ _ m h) (N:=rides.length) (fun m i hi=>?_) (fun m=>?_) rides.length 400 0 (by omega) (by omega))
  ·obtain ⟨r,x,y,b,hr,hR,hb,aj⟩:∃ r x y b,rides[i]? = some r/\PW G Ro r x y b/\(i+1=rides.length->b=true)/\(∀ j,j+1=i->∃ r' x' b',rides[j]? = some r'/\PW G Ro r' x' x b'):=by
    rcases ac with ⟨r,x,y,rfl,h⟩ | ⟨r,r',x,y,z,rfl,h,h'⟩
    ·have hi:i=0:=by simpa using hi
     subst hi;exact ⟨r,x,y,true,rfl,h,fun _=>rfl,fun j hj=>by omega⟩
    ·obtain rfl | rfl:i=0\/i=1:=by simp at hi;omega
     ·exact ⟨r,x,y,false,rfl,h,fun h=>by simp at h,fun j hj=>by omega⟩
     ·refine ⟨r',y,z,true,rfl,h',fun _=>rfl,fun j hj=>?_⟩;have hj:j=0:=by omega
      subst hj;exact ⟨r,x,false,rfl,h⟩
   obtain ⟨rt,ex,mn,mx,s,rfl,al,hs,⟨l,u⟩,⟨o,p,m2,m3⟩,hlast⟩:=hR;have a6:rt<Ro.length:=(Qjk.1 al).1;have l2:=h.rl;have hq:∀ z:Bool,(bif ((i:Int) == ((rides.length-1:Nat):Int)) then (bif (mn != (0:Int)) then true else (mx != (0:Int))) else false)=false:=by
    intro z;by_cases q:i+1=rides.length
    ·obtain ⟨rfl,rfl⟩:=hlast (hb q);rw [show ((0:Int) != 0)=false from rfl];cases ((i:Int) == ((rides.length-1:Nat):Int)) <;> rfl
    ·rw [show ((i:Int) == ((rides.length-1:Nat):Int))=false by simp;omega];rfl
   have a1:∀ {g:Bool} {β:Type} {a z:β} {k:β->Option Int},gb g (some a) z k=k a:=fun {g β a z k}=>rfl
   rw [WL,QA,Q0,Q9 hi];simp -implicitDefEqProofs only [Q0,List.getElem?_cons_zero,List.getElem?_cons_succ,Q2,XE,QA,Qjl,Qjg,Qjj,Qji,Qa,hr,JE (show rides.length<=1000 by omega) (show 1<=rides.length by omega),JE (show Ro.length<=1000 by omega) (show 1<=Ro.length by omega),Q6 (x:=per-1) (by omega) (by omega),Q4H (show (0:Int)<=(rt:Int) by omega) (show (rt:Int)<=((Ro.length-1:Nat):Int) by omega),Q4H l (show ex<=per-1 by omega),Q5I (Sk:=Sk) (Ro:=Ro) (Ls:=Ls) (Ch:=Ch) (Tu:=Tu) (Sy:=Sy) (De:=De) (n:=400) o p (show mx<mn+per by omega) (by omega) p1,hq true,al,f,Q9w (hs.f h.ok) ao,show ((0:Int) != 0)=false from rfl];cases i with
   |zero=>
    rw [show decide (((0:Nat):Int)>0)=false from rfl];simp only [gbF,Qjg];rfl
   |succ j=>
    obtain ⟨r',x',b',ax,ay⟩:=aj j rfl;obtain ⟨a5,a2,a4,a7,s',rfl,an,aw,_⟩:=ay;simp -implicitDefEqProofs only [Q0,List.getElem?_cons_zero,List.getElem?_cons_succ,Q2,XE,QA,Qjl,Qjg,Qjj,Qji,show decide (((j+1:Nat):Int)>0)=true by simp,Q9X hs,show wJ (((j+1:Nat):Int)-1)=(j:Int) by rw [Q6 (by omega) (by omega)];omega,Qa,ax,an,Qcc aw,show (x != x)=false by simp,Qu (show j+1<=1000 by omega)]
  ·rw [WL,QA,Q0,Ql,Qjg]
end

section
variable {R:Type} {G:Geo} {Sk Ro Ls Ch Tu Sy De:LL} {per:Int} (h:PlanR G per Sk Ro Ls Ch Tu Sy De)
include h
theorem Qbi {k0:Int->oP R} {k1:Int->Bool->oP R}:Zu 400 G.St G.Pt G.Se G.Li per Sk Ro Ls Ch Tu Sy De k0 k1 400 0=k1 ((Ch.length:Nat):Int) false:=by
 have l2:=h.chl;have p1:=h.p1;refine Qx (r:=fun m h=>Zu 400 G.St G.Pt G.Se G.Li per Sk Ro Ls Ch Tu Sy De _ _ m h) (N:=Ch.length) (fun m k hk=>?_) (fun m=>?_) Ch.length 400 0 (by omega) (by omega)
 ·obtain ⟨f,fr,t,tr,mn,mx,w,r,r',x,y,x',y',b,b',i,e,hr,ac,hR,an,aw,⟨a,j,c,d⟩,⟨w0,l⟩,⟨n,a1,c1,d1,g1⟩,⟨o,a2,p,q,g⟩,hi⟩:=h.ch _ (Qjm hk);have hb:=Q78 (R:=Bool) h hr;have ao:=Q78 (R:=Bool) h ac;obtain ⟨rt,ex,rn,rx,s,rfl,al,hs,_⟩:=hR;obtain ⟨ar,aq,ax,au,s',rfl,aj,ak,_⟩:=an;rw [Zu,Q9 hk,Qa,Qjh hk,e];simp -implicitDefEqProofs only [Q0,List.getElem?_cons_zero,List.getElem?_cons_succ,Q2,XE,QA,Qjl,Qjg,Qjj,Qji,HZ,hb,ao,Q5I a c d (show mn<=1000 by omega) p1,Q4H w0 (show w<=1048576 by omega),show ((f:Int) == (t:Int))=false by simp;omega,B0 hr al,B0 ac aj,Qcc hs,Q9X ak,g1,g,show decide (i<0)=false by simp;omega,show (i != i)=false by simp,show ((0:Int) != 0)=false from rfl,Qu (show k<=1000 by omega)]
 ·rw [Zu,Ql,Qjg]
theorem Qf4 {k0:Int->oP R} {k1:Int->Bool->oP R}:Zq 400 per Sk Ro Ls Ch Tu Sy De k0 k1 400 0=k1 ((Tu.length:Nat):Int) false:=by
 obtain ⟨T,hT,t1,t2,d,t4⟩:=h.tu;have hl:Tu.length=T.length:=by rw [hT];simp
 have p0:=h.p0;have p1:=h.p1;have l1:=h.l1;refine Qx (r:=fun m h=>Zq 400 per Sk Ro Ls Ch Tu Sy De _ _ m h) (N:=Tu.length) (fun m k hk=>?_) (fun m=>?_) Tu.length 400 0 (by omega) (by omega)
 ·have ac:k<T.length:=by omega
  have at':∀ j (hj:j<T.length),Tu[j]? = some (tuR T[j]):=fun j hj=>by rw [hT,List.getElem?_map,Qjh hj];rfl
  obtain ⟨u1,u2,u3,u4,e,u6,nm,w,rides,r,r',x,y,z,b,b',e1,e2,f,e4,c,hR,ar⟩:=t1 _ (Qjm ac);obtain ⟨rt,ex,rn,rx,s,rfl,aq,hs,_⟩:=hR;obtain ⟨a2,az,a4,a3,s',rfl,ak,an,_⟩:=ar;have g:=B0 (R:=D × D) (n:=400) (per:=per) (Sk:=Sk) (Ch:=Ch) (Tu:=Tu) (Sy:=Sy) (De:=De) (Ro:=Ro) ⟨nm,w,rides,e1,e2⟩ aq;have a:=B0 (R:=D × D) (n:=400) (per:=per) (Sk:=Sk) (Ch:=Ch) (Tu:=Tu) (Sy:=Sy) (De:=De) (Ro:=Ro) c ak;obtain ⟨a5,w',al,l,e6⟩:=c;have a:Y1 400 per Sk Ro Ls Ch Tu Sy De (T[k].2.1:Int) 0 Tu2=some (D.sl 2 s',Q4 0):=a _;have aj:∀ t∈T.take k,(t.1:Int)≠(T[k].1:Int)/\(t.2.1:Int)≠(T[k].2.1:Int):=by
   intro t ht;have q:=Mv t2 (i:=k) (by simpa using ac) t.1 (by rw [<- List.map_take];exact List.mem_map_of_mem ht);have h2:=Mv d (i:=k) (by simpa using ac) t.2.1 (by rw [<- List.map_take];exact List.mem_map_of_mem ht);rw [List.getElem_map] at q h2;exact ⟨by omega,by omega⟩
  have ao:He 400 per Sk Ro Ls Ch Tu Sy De (k:Int) (some:Int->Option Int)=some 0:=by
   unfold He;rw [Qa,at' k ac];simp -implicitDefEqProofs only [Q0,List.getElem?_cons_zero,List.getElem?_cons_succ,Q2,XE,QA,Qjl,Qjg,Qjj,Qji,tuR,JE (show Ls.length<=1000 by omega) (show 1<=Ls.length by omega),Q4H (show (0:Int)<=(T[k].1:Int) by omega) (show (T[k].1:Int)<=((Ls.length-1:Nat):Int) by omega),Q4H (show (0:Int)<=(T[k].2.1:Int) by omega) (show (T[k].2.1:Int)<=((Ls.length-1:Nat):Int) by omega),Q5I (Sk:=Sk) (Ro:=Ro) (Ls:=Ls) (Ch:=Ch) (Tu:=Tu) (Sy:=Sy) (De:=De) (n:=400) (show 0<=T[k].2.2.1 by omega) e (show T[k].2.2.2<T[k].2.2.1+per by omega) (by omega) p1];refine (Qx (r:=fun m h=>WY 400 (k:Int) Tu (Q4 (T[k].1:Nat)) (Q4 (T[k].2.1:Nat)) _ _ m h) (N:=k) (fun m i hi=>?_) (fun m=>?_) k 400 0 (by omega) (by omega))
   ·obtain ⟨u,v⟩:=aj T[i] (by rw [List.mem_take_iff_getElem];exact ⟨i,by omega,rfl⟩);rw [WY,Q9 hi,Qa,at' i (by omega)];simp -implicitDefEqProofs only [Q0,List.getElem?_cons_zero,List.getElem?_cons_succ,Q2,XE,QA,Qjl,Qjg,Qjj,Qji,tuR,show ((T[i].1:Int) == (T[k].1:Int))=false by simpa using u,show ((T[i].2.1:Int) == (T[k].2.1:Int))=false by simpa using v,Qu (show i<=1000 by omega)]
   ·rw [WY,Ql,Qjg,Qa,e1];simp -implicitDefEqProofs only [Q0,List.getElem?_cons_zero,List.getElem?_cons_succ,Q2,XE,QA,Qjl,Qjg,Qjj,Qji,Qa,l,JE (show rides.length<=1000 by omega) f,g,a,Qcc hs,Q9X an,show (y != y)=false by simp,show ((0:Int) != 0)=false from rfl]
  rw [Zq,Q9 hk,Qjl,ao,Q0,Q8 (by rfl),Qu (by omega)]
 ·rw [Zq,Ql,Qjg]
theorem Qf7 {k0:oP R} {k1:Int->Bool->oP R}:Zm 400 per Sk Ro Ls Ch Tu Sy De k0 k1 400 0=k1 ((Sy.length:Nat):Int) false:=by
 have l2:=h.syl;have l0:=h.l0;have p1:=h.p1;refine Qx (r:=fun m h=>Zm 400 per Sk Ro Ls Ch Tu Sy De _ _ m h) (N:=Sy.length) (fun m k hk=>?_) (fun m=>?_) Sy.length 400 0 (by omega) (by omega)
 ·obtain ⟨o,e,a,b,h2⟩:=h.sy _ (Qjm hk);obtain ⟨r,hr⟩:=Q6o h (k:=0) (by omega);obtain ⟨r',ac⟩:=Q6o h (k:=1) (by omega);have e1:=Q78 (R:=Bool) h hr some;have e2:=Q78 (R:=Bool) h ac some;rw [Zm,Q9 hk,Qa,Qjh hk,e];simp -implicitDefEqProofs only [Q0,List.getElem?_cons_zero,List.getElem?_cons_succ,Q2,XE,QA,Qjl,Qjg,Qjj,Qji,show JQ 400 per Sk Ro Ls Ch Tu Sy De 0 0 (some:Bool->Option Bool)=some true from e1,show JQ 400 per Sk Ro Ls Ch Tu Sy De 1 0 (some:Bool->Option Bool)=some true from e2,show ((0:Int) == 1)=false from rfl,Q6 (x:=per-1) (by omega) (by omega),Q4H a (show o<=per-1 by omega),Qu (show k<=1000 by omega)]
 ·rw [Zm,Ql,Qjg]
theorem Qar {k0:oP R} {k1:Int->Bool->oP R}:Zs 400 G.St De k0 k1 400 0=k1 ((De.length:Nat):Int) false:=by
 have l2:=h.del;have hN:=h.ok.hN;refine Qx (r:=fun m h=>Zs 400 G.St De _ _ m h) (N:=De.length) (fun m k hk=>?_) (fun m=>?_) De.length 400 0 (by omega) (by omega)
 ·obtain ⟨f,t,w,e,⟨a,c⟩,⟨b,t1⟩,ac,w0,d⟩:=h.de _ (Qjm hk);rw [Zs,Q9 hk,Qa,Qjh hk,e];simp -implicitDefEqProofs only [Q0,List.getElem?_cons_zero,List.getElem?_cons_succ,Q2,XE,QA,Qjl,Qjg,Qjj,Qji,h.ok.st,Q6 (x:=((G.N:Nat):Int)-1) (by omega) (by omega),Q4H a (show f<=((G.N:Nat):Int)-1 by omega),Q4H b (show t<=((G.N:Nat):Int)-1 by omega),Q4H w0 (show w<=1048576 by omega),show (f == t)=false by simpa using ac,Qu (show k<=1000 by omega)]
 ·rw [Zs,Ql,Qjg]
theorem QgH:Zw 400 G.St G.Pt G.Se G.Li per Sk Ro Ls Ch Tu Sy De (some:Int->Option Int)=some 0:=by
 have p0:=h.p0;have p1:=h.p1;have l1:=h.l1;have l2:=h.rl;obtain ⟨_,_,_,_,ac,_⟩:=h.sk;have aj:Sk.length=1:=by rw [ac];rfl
 have e1:Gh 400 G.St G.Pt G.Se G.Li (some:Int->Option Int)=some 0:=Jg h.ok.ref;unfold Zw;simp -implicitDefEqProofs only [Q0,List.getElem?_cons_zero,List.getElem?_cons_succ,Q2,XE,QA,Qjl,Qjg,Qjj,Qji,e1,QgK h,Q4H (show 2<=per by omega) (show per<=7200 by omega),show ((0:Int) != 0)=false from rfl];refine Qx (r:=fun m h=>WP 400 per Sk Ro Ls Ch Tu Sy De _ _ m h) (N:=Sk.length) (fun m k hk=>?_) (fun m=>?_) Sk.length 400 0 (by omega) (by omega)
 ·obtain rfl:k=0:=by omega
  rw [WP,Q9 hk,Qjl,show ((0:Nat):Int)=0 from rfl,Qff h.sk,Q0,Q8 (by rfl)];rfl
 rw [WP,Ql,Qjg];refine Qx (r:=fun m h=>WK 400 G.St G.Pt G.Se G.Li Ro _ _ m h) (N:=Ro.length) (fun m k hk=>?_) (fun m=>?_) Ro.length 400 0 (by omega) (by omega)
 ·obtain ⟨s,x,y,e,hs⟩:=h.good.ro _ (Qjm hk);rw [WK,Q9 hk,Qa,Qjh hk,e];simp -implicitDefEqProofs only [Q0,List.getElem?_cons_zero,List.getElem?_cons_succ,Q2,XE,QA,Qjl,Qjg,Qjj,Qji,Q4x h.ok.ref rfl hs.l2 hs.l24 hs.rt6,show ((0:Int) != 0)=false from rfl,Qu (show k<=1000 by omega)]
 rw [WK,Ql,Qjg];refine Qx (r:=fun m h=>WO 400 G.St G.Pt G.Se G.Li per Sk Ro Ls Ch Tu Sy De _ _ m h) (N:=Ls.length) (fun m k hk=>?_) (fun m=>?_) Ls.length 400 0 (by omega) (by omega)
 ·rw [WO,Q9 hk,Qjl,Qg8 h hk,Q0,Q8 (by rfl),Qu (by omega)]
 rw [WO,Ql,Qjg,Qbi h,Qf4 h,Qf7 h,Qar h]
end

end Go.Vx
namespace Go.Vx
variable {R:Type}
def G3 (n:Nat) (a0:Int) (K:Int->oP R):oP R:= gb true (Kg n a0 1000 Tu2) (0,0) fun a=>K a.1
end Go.Vx
