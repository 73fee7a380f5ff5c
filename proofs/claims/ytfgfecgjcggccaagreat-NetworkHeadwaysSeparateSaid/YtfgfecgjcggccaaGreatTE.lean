/- Part of a proof. No conditions of their own. -/
import Derived.Test.YtfgfecgjcggccaaGreatTD
import Derived.Test.YtfgfecgjcggccaaGreatTB
set_option linter.unusedVariables false
set_option linter.unusedSimpArgs false
abbrev Qe4:=@List.getElem?_cons_zero
abbrev Qe5:=@cond_false
abbrev Qe6:=@List.getElem?_cons_succ
abbrev Qe7:=@decide_eq_false
abbrev Qe8:=@decide_eq_true
abbrev Qe9:=@List.getElem?_eq_getElem
abbrev Qea:=@List.length_map
abbrev Qeb:=@List.getD_eq_getElem?_getD
abbrev Qec:=@if_neg
abbrev Qed:=@Bool.not_true
abbrev Qee:=@Bool.not_false
abbrev Qef:=@Nat.add_sub_cancel
abbrev Qeg:=@Nat.le_refl
abbrev Qeh:=@List.map_append
abbrev Qei:=@List.getElem?_map
abbrev Qej:=@List.length_nil
abbrev Qek:=@List.length_cons
abbrev Qel:=@Option.getD_some
abbrev Qem:=@List.pairwise_cons
abbrev Qen:=@List.mem_map_of_mem
abbrev Qeo:=@Int.tmod_eq_emod_of_nonneg
abbrev Qep:=@Nat.le_of_ble_eq_true
abbrev Qeq:=@List.filter_cons
abbrev Qer:=@List.getElem_mem
abbrev Qes:=@Int.emod_lt_of_pos
abbrev Qet:=@List.mem_singleton
abbrev Qeu:=@Int.emod_nonneg
abbrev Qev:=@List.mem_append
namespace Go.Vx
section
variable {R:Type} {G:Geo} {Sk Ro Ls Ch Tu Sy De:LL} {per:Int} (h:PlanR G per Sk Ro Ls Ch Tu Sy De)
include h
theorem Q7a {k0:Int->oP R} {k1:Int->Bool->oP R}:YB 400 G.St G.Pt G.Se G.Li per Sk Ro Ls Ch Tu Sy De k0 k1 400 0=k1 ((Ch.length:Nat):Int) false:=by
 have l2:=h.chl;have p1:=h.p1;refine QR (r:=fun m h=>YB 400 G.St G.Pt G.Se G.Li per Sk Ro Ls Ch Tu Sy De _ _ m h) (N:=Ch.length) (fun m k hk=>?_) (fun m=>?_) Ch.length 400 0 (by omega) (by omega)
 ·obtain ⟨f,fr,t,tr,mn,mx,w,r,r',x,y,x',y',b,b',i,e,hr,ak,hR,aq,ay,⟨m0,m1,m2,m3⟩,⟨w0,w1⟩,⟨c,a1,c1,d1,g1⟩,⟨d,a2,g,j,a⟩,hi⟩:=h.ch _ (Qer hk);have hb:=Q3B (R:=Bool) h hr;have ar:=Q3B (R:=Bool) h ak;obtain ⟨rt,ex,rn,rx,s,rfl,ao,hs,_⟩:=hR;obtain ⟨aw,au,a6,ax,s',rfl,am,an,_⟩:=aq;rw [YB,Qk hk,Qp,Qe9 hk,e];simp -implicitDefEqProofs only [Q0,Qe4,Qe6,Q1,Xj,X6,cond_true,Qe5,Qed,Qee,Gr,hb,ar,Q2i m0 m2 m3 (show mn<=1000 by omega) p1,Q21 w0 (show w<=1048576 by omega),show ((f:Int) == (t:Int))=false by simp;omega,FW hr ao,FW ak am,Q81 hs,Q62 an,g1,a,show decide (i<0)=false by simp;omega,show (i != i)=false by simp,show ((0:Int) != 0)=false from rfl,Xa (show k<=1000 by omega)]
 ·rw [YB,Xb,Qe5]
theorem Qad {k0:Int->oP R} {k1:Int->Bool->oP R}:Yx 400 per Sk Ro Ls Ch Tu Sy De k0 k1 400 0=k1 ((Tu.length:Nat):Int) false:=by
 obtain ⟨T,hT,t1,t2,c,u⟩:=h.tu;have hl:Tu.length=T.length:=by rw [hT];simp
 have p0:=h.p0;have p1:=h.p1;have l1:=h.l1;refine QR (r:=fun m h=>Yx 400 per Sk Ro Ls Ch Tu Sy De _ _ m h) (N:=Tu.length) (fun m k hk=>?_) (fun m=>?_) Tu.length 400 0 (by omega) (by omega)
 ·have ak:k<T.length:=by omega
  have am:∀ j (hj:j<T.length),Tu[j]? = some (tuR T[j]):=fun j hj=>by rw [hT,Qei,Qe9 hj];rfl
  obtain ⟨v,u2,u3,u4,d,u6,nm,w,rides,r,r',x,y,z,b,b',e1,e2,e,e4,a,hR,ax⟩:=t1 _ (Qer ak);obtain ⟨rt,ex,rn,rx,s,rfl,aw,hs,_⟩:=hR;obtain ⟨bd,a9,bh,bg,s',rfl,ao,ar,_⟩:=ax;have q1:=FW (R:=D × D) (n:=400) (per:=per) (Sk:=Sk) (Ch:=Ch) (Tu:=Tu) (Sy:=Sy) (De:=De) (Ro:=Ro) ⟨nm,w,rides,e1,e2⟩ aw;have q2:=FW (R:=D × D) (n:=400) (per:=per) (Sk:=Sk) (Ch:=Ch) (Tu:=Tu) (Sy:=Sy) (De:=De) (Ro:=Ro) a ao;obtain ⟨bi,w',aq,f,e6⟩:=a;have q2:XI 400 per Sk Ro Ls Ch Tu Sy De (T[k].2.1:Int) 0 Tu2=some (D.sl 2 s',Q5 0):=q2 _;have an:∀ t∈T.take k,(t.1:Int)≠(T[k].1:Int)/\(t.2.1:Int)≠(T[k].2.1:Int):=by
   intro t ht;have o:=Sn t2 (i:=k) (by simpa using ak) t.1 (by rw [<- List.map_take];exact Qen ht);have h2:=Sn c (i:=k) (by simpa using ak) t.2.1 (by rw [<- List.map_take];exact Qen ht);rw [List.getElem_map] at o h2;exact ⟨by omega,by omega⟩
  have au:JT 400 per Sk Ro Ls Ch Tu Sy De (k:Int) (some:Int->Option Int)=some 0:=by
   unfold JT;rw [Qp,am k ak];simp -implicitDefEqProofs only [Q0,Qe4,Qe6,Q1,Xj,X6,cond_true,Qe5,Qed,Qee,tuR,Vi (show Ls.length<=1000 by omega) (show 1<=Ls.length by omega),Q21 (show (0:Int)<=(T[k].1:Int) by omega) (show (T[k].1:Int)<=((Ls.length-1:Nat):Int) by omega),Q21 (show (0:Int)<=(T[k].2.1:Int) by omega) (show (T[k].2.1:Int)<=((Ls.length-1:Nat):Int) by omega),Q2i (Sk:=Sk) (Ro:=Ro) (Ls:=Ls) (Ch:=Ch) (Tu:=Tu) (Sy:=Sy) (De:=De) (n:=400) (show 0<=T[k].2.2.1 by omega) d (show T[k].2.2.2<T[k].2.2.1+per by omega) (by omega) p1];refine (QR (r:=fun m h=>Zy 400 (k:Int) Tu (Q5 (T[k].1:Nat)) (Q5 (T[k].2.1:Nat)) _ _ m h) (N:=k) (fun m i hi=>?_) (fun m=>?_) k 400 0 (by omega) (by omega))
   ·obtain ⟨p,q⟩:=an T[i] (by rw [List.mem_take_iff_getElem];exact ⟨i,by omega,rfl⟩);rw [Zy,Qk hi,Qp,am i (by omega)];simp -implicitDefEqProofs only [Q0,Qe4,Qe6,Q1,Xj,X6,cond_true,Qe5,Qed,Qee,tuR,show ((T[i].1:Int) == (T[k].1:Int))=false by simpa using p,show ((T[i].2.1:Int) == (T[k].2.1:Int))=false by simpa using q,Xa (show i<=1000 by omega)]
   ·rw [Zy,Xb,Qe5,Qp,e1];simp -implicitDefEqProofs only [Q0,Qe4,Qe6,Q1,Xj,X6,cond_true,Qe5,Qed,Qee,Qp,f,Vi (show rides.length<=1000 by omega) e,q1,q2,Q81 hs,Q62 ar,show (y != y)=false by simp,show ((0:Int) != 0)=false from rfl]
  rw [Yx,Qk hk,cond_true,au,Q0,Q8 (by rfl),Xa (by omega)]
 ·rw [Yx,Xb,Qe5]
theorem Qag {k0:oP R} {k1:Int->Bool->oP R}:Yt 400 per Sk Ro Ls Ch Tu Sy De k0 k1 400 0=k1 ((Sy.length:Nat):Int) false:=by
 have l2:=h.syl;have l0:=h.l0;have p1:=h.p1;refine QR (r:=fun m h=>Yt 400 per Sk Ro Ls Ch Tu Sy De _ _ m h) (N:=Sy.length) (fun m k hk=>?_) (fun m=>?_) Sy.length 400 0 (by omega) (by omega)
 ·obtain ⟨o,e,a,b,h2⟩:=h.sy _ (Qer hk);obtain ⟨r,hr⟩:=Q2X h (k:=0) (by omega);obtain ⟨r',ak⟩:=Q2X h (k:=1) (by omega);have e1:=Q3B (R:=Bool) h hr some;have e2:=Q3B (R:=Bool) h ak some;rw [Yt,Qk hk,Qp,Qe9 hk,e];simp -implicitDefEqProofs only [Q0,Qe4,Qe6,Q1,Xj,X6,cond_true,Qe5,Qed,Qee,show V4 400 per Sk Ro Ls Ch Tu Sy De 0 0 (some:Bool->Option Bool)=some true from e1,show V4 400 per Sk Ro Ls Ch Tu Sy De 1 0 (some:Bool->Option Bool)=some true from e2,show ((0:Int) == 1)=false from rfl,Qf (x:=per-1) (by omega) (by omega),Q21 a (show o<=per-1 by omega),Xa (show k<=1000 by omega)]
 ·rw [Yt,Xb,Qe5]
theorem Q6r {k0:oP R} {k1:Int->Bool->oP R}:Yz 400 G.St De k0 k1 400 0=k1 ((De.length:Nat):Int) false:=by
 have l2:=h.del;have hN:=h.ok.hN;refine QR (r:=fun m h=>Yz 400 G.St De _ _ m h) (N:=De.length) (fun m k hk=>?_) (fun m=>?_) De.length 400 0 (by omega) (by omega)
 ·obtain ⟨f,t,w,e,⟨f0,f1⟩,⟨t0,t1⟩,ak,w0,w1⟩:=h.de _ (Qer hk);rw [Yz,Qk hk,Qp,Qe9 hk,e];simp -implicitDefEqProofs only [Q0,Qe4,Qe6,Q1,Xj,X6,cond_true,Qe5,Qed,Qee,h.ok.st,Qf (x:=((G.N:Nat):Int)-1) (by omega) (by omega),Q21 f0 (show f<=((G.N:Nat):Int)-1 by omega),Q21 t0 (show t<=((G.N:Nat):Int)-1 by omega),Q21 w0 (show w<=1048576 by omega),show (f == t)=false by simpa using ak,Xa (show k<=1000 by omega)]
 ·rw [Yz,Xb,Qe5]
theorem QbB:UW 400 G.St G.Pt G.Se G.Li per Sk Ro Ls Ch Tu Sy De (some:Int->Option Int)=some 0:=by
 have p0:=h.p0;have p1:=h.p1;have l1:=h.l1;have l2:=h.rl;obtain ⟨_,_,_,_,ak,_⟩:=h.sk;have am:Sk.length=1:=by rw [ak];rfl
 have e1:Vr 400 G.St G.Pt G.Se G.Li (some:Int->Option Int)=some 0:=Uy h.ok.ref;unfold UW;simp -implicitDefEqProofs only [Q0,Qe4,Qe6,Q1,Xj,X6,cond_true,Qe5,Qed,Qee,e1,QbD h,Q21 (show 2<=per by omega) (show per<=7200 by omega),show ((0:Int) != 0)=false from rfl];refine QR (r:=fun m h=>Zs 400 per Sk Ro Ls Ch Tu Sy De _ _ m h) (N:=Sk.length) (fun m k hk=>?_) (fun m=>?_) Sk.length 400 0 (by omega) (by omega)
 ·obtain rfl:k=0:=by omega
  rw [Zs,Qk hk,cond_true,show ((0:Nat):Int)=0 from rfl,Qap h.sk,Q0,Q8 (by rfl)];rfl
 rw [Zs,Xb,Qe5];refine QR (r:=fun m h=>Zn 400 G.St G.Pt G.Se G.Li Ro _ _ m h) (N:=Ro.length) (fun m k hk=>?_) (fun m=>?_) Ro.length 400 0 (by omega) (by omega)
 ·obtain ⟨s,x,y,e,hs⟩:=h.good.ro _ (Qer hk);rw [Zn,Qk hk,Qp,Qe9 hk,e];simp -implicitDefEqProofs only [Q0,Qe4,Qe6,Q1,Xj,X6,cond_true,Qe5,Qed,Qee,Q18 h.ok.ref rfl hs.l2 hs.l24 hs.rt6,show ((0:Int) != 0)=false from rfl,Xa (show k<=1000 by omega)]
 rw [Zn,Xb,Qe5];refine QR (r:=fun m h=>Zr 400 G.St G.Pt G.Se G.Li per Sk Ro Ls Ch Tu Sy De _ _ m h) (N:=Ls.length) (fun m k hk=>?_) (fun m=>?_) Ls.length 400 0 (by omega) (by omega)
 ·rw [Zr,Qk hk,cond_true,Qb3 h hk,Q0,Q8 (by rfl),Xa (by omega)]
 rw [Zr,Xb,Qe5,Q7a h,Qad h,Qag h,Q6r h]
end
end Go.Vx
namespace Go.Vx
variable {R:Type}
def Vg (n:Nat) (a0:Int) (K:Int->oP R):oP R:= gb true (Jb n a0 1000 Tu2) (0,0) fun a=>K a.1
def Xy (n:Nat) (c e i:LL) (f:Int) (j:LL) (g:Int) (k0:Int->Int->Bool->LL->LL->oP R):Nat->Int->Int->LL->LL->oP R
 | 0,_,_,_,_=>none
 | m+1,b,a,h,d=>bif decide (a<f) then gb true (Q2 i a) [] fun o=>gb true (o[0]?) oF fun r=>gb true (o[1]?) oF fun ac=>gb true (Q2 c b) [] fun s=>gb true (s[0]?) oF fun t=>gb true (pIw t) 0 fun k=>gb true (YD ((h.length+[[Q5 k]].length)*8)) () fun ad=>bif decide (a>0) then gb true (pIw r) 0 fun u=>gb true (Q2 j u) [] fun v=>gb true (v[1]?) oF fun x=>gb true (pIw x) 0 fun l=>bif (decide (a<(wJ ((e.length:Int)-1)))) then gb true (Q2 c (wJ ((wJ (b+l))+g))) [] fun y=>gb true (y[0]?) oF fun z=>gb true (pIw z) 0 fun p=>gb true (YD ((d.length+[[Q5 p]].length)*8)) () fun ae=>Xy n c e i f j g k0 m (wJ (b+l)) (wJ (a+1)) (h++[[Q5 k]]) (d++[[Q5 p]]) else Xy n c e i f j g k0 m (wJ (b+l)) (wJ (a+1)) (h++[[Q5 k]]) d else bif (decide (a<(wJ ((e.length:Int)-1)))) then gb true (Q2 c (wJ (b+g))) [] fun aa=>gb true (aa[0]?) oF fun ab=>gb true (pIw ab) 0 fun q=>gb true (YD ((d.length+[[Q5 q]].length)*8)) () fun ag=>Xy n c e i f j g k0 m b (wJ (a+1)) (h++[[Q5 k]]) (d++[[Q5 q]]) else Xy n c e i f j g k0 m b (wJ (a+1)) (h++[[Q5 k]]) d else k0 b a (decide (a<f)) h d
def JW (n:Nat) (q r f s g:LL) (h:Int) (i:List UInt8) (c j k l:Int) (K:LL->LL->Int->Int->oP R):oP R:= gb true (Ga n q r f s g h i c j k l Tu3) ([],0,0) fun a=>bif (a.2.2 != 0) then K [] [] 0 a.2.2 else gb true (V0 n a.1 a.2.1 i c j k l Tu2) ([],0) fun b=>gb true (We n g h some) [] fun e=>Xy n b.1 e e (e.length:Int) f c (fun m ab ac t o=>gb true (Q2 b.1 m) [] fun u=>gb true (u[0]?) oF fun v=>gb true (pIw v) 0 fun p=>gb true (YD ((o.length+[[Q5 p]].length)*8)) () fun ad=>gb true (Q2 b.1 m) [] fun x=>gb true (x[0]?) oF fun y=>gb true (pIw y) 0 fun z=>gb true (Vg n z some) 0 fun aa=>K t (o++[[Q5 p]]) aa 0) n 0 0 [] []

def KW (n:Nat) (a0 a1:Int) (K:Int->Int->oP R):oP R:= bif decide (a1<1) then K 0 1 else gb true (nz a1) () fun a=>gb true (nz a1) () fun b=>bif (decide ((Int.tmod a0 a1)<0)) then K (wJ ((wJ (Int.tdiv a0 a1))-1)) 0 else K (wJ (Int.tdiv a0 a1)) 0

def U2 (n:Nat) (a0:Int) (K:Int->oP R):oP R:= gb true (KW n a0 1000 Tu2) (0,0) fun a=>K a.1

def UI (n:Nat) (c a b d:LL) (K:LL->oP R):oP R:= gb true (bif decide (0<=(wJ ((b.length:Int)+(a.length:Int))))&&decide ((wJ ((b.length:Int)+(a.length:Int)))<=(wJ ((b.length:Int)+(a.length:Int)))) then some () else none) () fun e=>gb true (YD (Int.toNat (wJ ((b.length:Int)+(a.length:Int)))*24)) () fun f=>K (List.replicate (Int.toNat (wJ ((b.length:Int)+(a.length:Int)))) [Q5 0,Q5 0,Q5 0])

def QU (n:Nat) (a:LL) (a1 a2 a3:Int) (K:LL->oP R):oP R:= gb true (inB (a.length) a1) () fun q=>gb true (a[a1.toNat]?) [] fun d=>gb true (d[1]?) oF fun e=>gb true (pIw e) 0 fun f=>gb true (a[a1.toNat]?) [] fun g=>gb true (g[2]?) oF fun h=>gb true (pIw h) 0 fun i=>bif decide (f<i) then gb true (a[a1.toNat]?) [] fun j=>gb true (j[1]?) oF fun k=>gb true (pIw k) 0 fun b=>gb true (a[a1.toNat]?) [] fun l=>gb true (l[2]?) oF fun m=>gb true (pIw m) 0 fun c=>gb true (a[a1.toNat]?) [] fun o=>K (List.set a a1.toNat (List.set (List.set (List.set o 0 (Q5 a1)) 1 (Q5 (if b<a2 then b else a2))) 2 (Q5 (if a3<c then c else a3)))) else gb true (a[a1.toNat]?) [] fun p=>K (List.set a a1.toNat (List.set (List.set (List.set p 0 (Q5 a1)) 1 (Q5 a2)) 2 (Q5 a3)))

def XA (n:Nat) (c:LL) (h2:Int) (k0:Int->Bool->LL->oP R):Nat->Int->LL->oP R
 | 0,_,_=>none
 | m+1,a,b=>bif decide (a<h2) then gb true (Q2 c a) [] fun d=>gb true (d[0]?) oF fun g=>gb true (d[1]?) oF fun e=>gb true (d[2]?) oF fun f=>gb true (pIw e) 0 fun h=>gb true (pIw f) 0 fun i=>bif decide (h<i) then gb true (YD ((b.length+[[g,e,f]].length)*24)) () fun j=>XA n c h2 k0 m (wJ (a+1)) (b++[[g,e,f]]) else XA n c h2 k0 m (wJ (a+1)) b else k0 a (decide (a<h2)) b
def U9 (n:Nat) (a0:LL) (K:LL->oP R):oP R:= XA n a0 (a0.length:Int) (fun b c a=>K a) n 0 []

def Xs (n:Nat) (d e:LL) (b:Int) (k0:Int->Bool->LL->oP R):Nat->Int->LL->oP R
 | 0,_,_=>none
 | m+1,a,c=>bif decide (a<b) then gb true (Q2 d (wJ (a-1))) [] fun h=>gb true (h[0]?) oF fun i=>gb true (pIw i) 0 fun j=>gb true (U2 n j some) 0 fun f=>gb true (Q2 e a) [] fun k=>gb true (k[0]?) oF fun l=>gb true (pIw l) 0 fun o=>gb true (Vg n o some) 0 fun g=>gb true (YD ((c.length+[[Q5 0,Q5 (wJ (f-16)),Q5 (wJ (g+4))]].length)*24)) () fun p=>Xs n d e b k0 m (wJ (a+1)) (c++[[Q5 0,Q5 (wJ (f-16)),Q5 (wJ (g+4))]]) else k0 a (decide (a<b)) c
def Qh (n:Nat) (f:Int) (l:LL) (g:Int) (h i e j k:LL) (c d:Int) (k0:Int->Bool->LL->LL->oP R):Nat->Int->LL->LL->oP R
 | 0,_,_,_=>none
 | m+1,a,b,q=>bif decide (a<g) then gb true (Q2 l a) [] fun u=>gb true (u[0]?) oF fun r=>gb true (u[1]?) oF fun v=>bif decide (a>f) then gb true (YD ((b.length+[[Q5 0,Q5 c,Q5 d]].length)*24)) () fun bu=>gb true (pIw r) 0 fun ad=>gb true (inB (List.length (b++[[Q5 0,Q5 c,Q5 d]])) a) () fun bv=>gb true ((b++[[Q5 0,Q5 c,Q5 d]])[a.toNat]?) [] fun ae=>gb true (ae[1]?) oF fun ag=>gb true (pIw ag) 0 fun ah=>gb true (inB (List.length (b++[[Q5 0,Q5 c,Q5 d]])) a) () fun bx=>gb true ((b++[[Q5 0,Q5 c,Q5 d]])[a.toNat]?) [] fun ai=>gb true (ai[2]?) oF fun aj=>gb true (pIw aj) 0 fun ak=>gb true (QU n q ad ah ak some) [] fun o=>gb true (Ku o (q.length)) () fun bz=>bif (a == 0) then Qh n f l g h i e j k c d k0 m (wJ (a+1)) (b++[[Q5 0,Q5 c,Q5 d]]) o else gb true (Q2 k (wJ (a-1))) [] fun x=>gb true (x[0]?) oF fun al=>gb true (x[1]?) oF fun am=>gb true (pIw al) 0 fun an=>gb true (pIw am) 0 fun ao=>gb true (pIw r) 0 fun ap=>gb true (pIw v) 0 fun aq=>gb true (YN n h i e j an ao ap aq some) 0 fun s=>bif decide (s<0) then Qh n f l g h i e j k c d k0 m (wJ (a+1)) (b++[[Q5 0,Q5 c,Q5 d]]) o else bif decide (a<=f) then gb true (inB (List.length (b++[[Q5 0,Q5 c,Q5 d]])) a) () fun ca=>gb true ((b++[[Q5 0,Q5 c,Q5 d]])[a.toNat]?) [] fun ar=>gb true (ar[1]?) oF fun au=>gb true (pIw au) 0 fun av=>gb true (inB (List.length (b++[[Q5 0,Q5 c,Q5 d]])) (wJ (a-1))) () fun cb=>gb true ((b++[[Q5 0,Q5 c,Q5 d]])[(Int.toNat (wJ (a-1)))]?) [] fun aw=>gb true (aw[2]?) oF fun ax=>gb true (pIw ax) 0 fun ay=>gb true (QU n o (wJ ((e.length:Int)+s)) av ay some) [] fun y=>gb true (Ku y (o.length)) () fun cc=>Qh n f l g h i e j k c d k0 m (wJ (a+1)) (b++[[Q5 0,Q5 c,Q5 d]]) y else gb true (QU n o (wJ ((e.length:Int)+s)) c d some) [] fun z=>gb true (Ku z (o.length)) () fun ce=>Qh n f l g h i e j k c d k0 m (wJ (a+1)) (b++[[Q5 0,Q5 c,Q5 d]]) z else gb true (pIw r) 0 fun az=>gb true (inB (b.length) a) () fun cf=>gb true (b[a.toNat]?) [] fun ba=>gb true (ba[1]?) oF fun bb=>gb true (pIw bb) 0 fun bc=>gb true (inB (b.length) a) () fun cg=>gb true (b[a.toNat]?) [] fun bd=>gb true (bd[2]?) oF fun be=>gb true (pIw be) 0 fun bg=>gb true (QU n q az bc bg some) [] fun p=>gb true (Ku p (q.length)) () fun ch=>bif (a == 0) then Qh n f l g h i e j k c d k0 m (wJ (a+1)) b p else gb true (Q2 k (wJ (a-1))) [] fun aa=>gb true (aa[0]?) oF fun bh=>gb true (aa[1]?) oF fun bi=>gb true (pIw bh) 0 fun bj=>gb true (pIw bi) 0 fun bk=>gb true (pIw r) 0 fun bl=>gb true (pIw v) 0 fun bm=>gb true (YN n h i e j bj bk bl bm some) 0 fun t=>bif decide (t<0) then Qh n f l g h i e j k c d k0 m (wJ (a+1)) b p else bif decide (a<=f) then gb true (inB (b.length) a) () fun ci=>gb true (b[a.toNat]?) [] fun bn=>gb true (bn[1]?) oF fun bo=>gb true (pIw bo) 0 fun bp=>gb true (inB (b.length) (wJ (a-1))) () fun cj=>gb true (b[(Int.toNat (wJ (a-1)))]?) [] fun bq=>gb true (bq[2]?) oF fun br=>gb true (pIw br) 0 fun bt=>gb true (QU n p (wJ ((e.length:Int)+t)) bp bt some) [] fun ab=>gb true (Ku ab (p.length)) () fun ck=>Qh n f l g h i e j k c d k0 m (wJ (a+1)) b ab else gb true (QU n p (wJ ((e.length:Int)+t)) c d some) [] fun ac=>gb true (Ku ac (p.length)) () fun cm=>Qh n f l g h i e j k c d k0 m (wJ (a+1)) b ac else k0 a (decide (a<g)) b q
def UU (n:Nat) (c d e f b:LL) (k:Int) (l:List UInt8) (m o p q a3 a4:Int) (K:LL->Int->Int->oP R):oP R:= gb true (JW n c d e f b k l m o p q Tu4) ([],[],0,0) fun a=>bif (a.2.2.2 != 0) then K [] 0 a.2.2.2 else gb true (Q2 a.2.1 0) [] fun g=>gb true (g[0]?) oF fun t=>gb true (pIw t) 0 fun u=>gb true (Vg n u some) 0 fun v=>Xs n a.1 a.2.1 (wJ ((a.1.length:Int)-1)) (fun ah ai h=>gb true (Q2 a.1 (wJ ((wJ ((a.1.length:Int)-1))-1))) [] fun x=>gb true (x[0]?) oF fun y=>gb true (pIw y) 0 fun z=>gb true (U2 n z some) 0 fun i=>gb true (YD ((h.length+[[Q5 0,Q5 (wJ (i-16)),Q5 (wJ (a.2.2.1+a4))]].length)*24)) () fun aj=>gb true (Q2 a.1 (wJ ((a.1.length:Int)-1))) [] fun aa=>gb true (aa[0]?) oF fun ab=>gb true (pIw ab) 0 fun ac=>gb true (U2 n ac some) 0 fun ad=>gb true (UI n c d e f some) [] fun ae=>Qh n (wJ ((a.1.length:Int)-1)) b (b.length:Int) c d e f b (wJ (ad-16)) (wJ (a.2.2.1+20)) (fun ak al am ag=>gb true (U9 n ag some) [] fun j=>gb true (NK [j]) () fun an=>K j a.2.2.1 0) n 0 (h++[[Q5 0,Q5 (wJ (i-16)),Q5 (wJ (a.2.2.1+a4))]]) ae) n 1 [[Q5 0,Q5 (wJ (0-a3)),Q5 (wJ (v+4))]]

def Wk (n:Nat) (c d e f g:LL) (h:Int) (i:List UInt8) (j k l m a3 a4:Int) (K:LL->Int->Int->oP R):oP R:= gb true (VI n c d e f g h i j k l m some) 0 fun b=>bif (b != 0) then K [] 0 b else bif (bif (bif (bif decide (a3<0) then true else (decide (a3>65536))) then true else (decide (a4<0))) then true else (decide (a4>65536))) then K [] 0 4 else gb true (UU n c d e f g h i j k l m a3 a4 Tu3) ([],0,0) fun a=>K a.1 a.2.1 a.2.2

def YO (n:Nat) (a i e:LL) (g d:Int) (k0:Int->Int->Bool->LL->LL->oP R):Nat->Int->Int->LL->LL->oP R
 | 0,_,_,_,_=>none
 | m+1,b,c,h,f=>bif (decide (c<(wJ ((e.length:Int)-g)))) then gb true (Q2 a b) [] fun p=>gb true (p[0]?) oF fun q=>gb true (pIw q) 0 fun j=>gb true (YD ((h.length+[[Q5 j]].length)*8)) () fun ab=>bif decide (c>0) then gb true (Q2 e c) [] fun r=>gb true (r[0]?) oF fun s=>gb true (pIw s) 0 fun t=>gb true (Q2 i t) [] fun u=>gb true (u[1]?) oF fun v=>gb true (pIw v) 0 fun k=>gb true (Q2 a (if (wJ ((a.length:Int)-1))<(wJ ((wJ (b+k))+d)) then (wJ ((a.length:Int)-1)) else (wJ ((wJ (b+k))+d)))) [] fun x=>gb true (x[0]?) oF fun y=>gb true (pIw y) 0 fun l=>gb true (YD ((f.length+[[Q5 l]].length)*8)) () fun ac=>YO n a i e g d k0 m (wJ (b+k)) (wJ (c+1)) (h++[[Q5 j]]) (f++[[Q5 l]]) else gb true (Q2 a (if (wJ ((a.length:Int)-1))<(wJ (b+d)) then (wJ ((a.length:Int)-1)) else (wJ (b+d)))) [] fun z=>gb true (z[0]?) oF fun aa=>gb true (pIw aa) 0 fun o=>gb true (YD ((f.length+[[Q5 o]].length)*8)) () fun ad=>YO n a i e g d k0 m b (wJ (c+1)) (h++[[Q5 j]]) (f++[[Q5 o]]) else k0 b c (decide (c<(wJ ((e.length:Int)-g)))) h f
def KU (n:Nat) (i j c k d:LL) (e:Int) (l:List UInt8) (f m o p:Int) (K:LL->LL->Int->Int->oP R):oP R:= gb true (HQ n i j c k d e l f m o p some) 0 fun a=>bif (a != 0) then K [] [] 0 a else gb true (Hw n i j c k d e Tu3) ([],0,0) fun b=>gb true (Hk n b.1 b.2.1 l f m o p Tu2) ([],0) fun h=>YO n h.1 c d e f (fun x y z q r=>gb true (Q2 h.1 (wJ ((h.1.length:Int)-1))) [] fun s=>gb true (s[0]?) oF fun t=>gb true (pIw t) 0 fun u=>gb true (UY n u 1000 some) 0 fun v=>K q r v 0) n 0 0 [] []

def Um (n:Nat) (a0 a1:Int) (K:Int->oP R):oP R:= gb true (nz a1) () fun a=>gb true (nz a1) () fun b=>bif (decide ((Int.tmod a0 a1)<0)) then K (wJ ((wJ (Int.tdiv a0 a1))-1)) else K (wJ (Int.tdiv a0 a1))

def Yj (n:Nat) (q1 q2:LL) (a1 a2 a3:Int) (K:LL->LL->oP R):oP R:= gb true (inB (q1.length) a1) () fun o=>gb true (q1[a1.toNat]?) [] fun c=>gb true (c[0]?) oF fun d=>gb true (PM d) false fun e=>bif e then gb true (inB (q2.length) a1) () fun p=>gb true (q2[a1.toNat]?) [] fun f=>gb true (f[1]?) oF fun g=>gb true (pIw g) 0 fun a=>gb true (inB (q2.length) a1) () fun q=>gb true (q2[a1.toNat]?) [] fun h=>gb true (h[2]?) oF fun i=>gb true (pIw i) 0 fun b=>gb true (inB (q1.length) a1) () fun r=>gb true (q1[a1.toNat]?) [] fun j=>gb true (inB (q2.length) a1) () fun s=>gb true (q2[a1.toNat]?) [] fun k=>K (List.set q1 a1.toNat (List.set j 0 (D.bool true))) (List.set q2 a1.toNat (List.set (List.set (List.set k 0 (Q5 a1)) 1 (Q5 (if a<a2 then a else a2))) 2 (Q5 (if a3<b then b else a3)))) else gb true (inB (q1.length) a1) () fun t=>gb true (q1[a1.toNat]?) [] fun l=>gb true (inB (q2.length) a1) () fun u=>gb true (q2[a1.toNat]?) [] fun m=>K (List.set q1 a1.toNat (List.set l 0 (D.bool true))) (List.set q2 a1.toNat (List.set (List.set (List.set m 0 (Q5 a1)) 1 (Q5 a2)) 2 (Q5 a3)))

def Zg (n:Nat) (l o:Int) (e i:LL) (j b:Int) (p q f r c:LL) (k0:Int->Int->Bool->LL->LL->oP R):Nat->Int->Int->LL->LL->oP R
 | 0,_,_,_,_=>none
 | m+1,v,a,x,y=>bif (decide (a<(c.length:Int))) then jn (fun (t k:Int)=>gb true (Q2 c a) [] fun ad=>gb true (ad[0]?) oF fun ae=>gb true (pIw ae) 0 fun ag=>gb true (Yj n x y ag t k Tu2) ([],[]) fun d=>bif decide (a>0) then gb true (Q2 c (wJ (a-1))) [] fun z=>gb true (z[0]?) oF fun ah=>gb true (z[1]?) oF fun ai=>gb true (Q2 c a) [] fun aa=>gb true (aa[0]?) oF fun aj=>gb true (aa[1]?) oF fun ak=>gb true (pIw ah) 0 fun al=>gb true (pIw ai) 0 fun am=>gb true (pIw aj) 0 fun an=>gb true (pIw ak) 0 fun ao=>gb true (Vh n p q f r al am an ao Tu5) ((.bool false),(.bool false),(.bool false),(.bool false),false) fun u=>gb true (pIw u.2.2.1) 0 fun au=>bif decide (au>=0) then bif decide (a>b) then gb true (pIw u.2.2.1) 0 fun av=>gb true (Yj n d.1 d.2 (wJ ((f.length:Int)+av)) t k Tu2) ([],[]) fun ab=>Zg n l o e i j b p q f r c k0 m k (wJ (a+1)) ab.1 ab.2 else gb true (pIw u.2.2.1) 0 fun aw=>gb true (Yj n d.1 d.2 (wJ ((f.length:Int)+aw)) t v Tu2) ([],[]) fun ac=>Zg n l o e i j b p q f r c k0 m k (wJ (a+1)) ac.1 ac.2 else Zg n l o e i j b p q f r c k0 m k (wJ (a+1)) d.1 d.2 else Zg n l o e i j b p q f r c k0 m k (wJ (a+1)) d.1 d.2) fun s=>bif (a == 0) then gb true (Q2 i 0) [] fun ax=>gb true (ax[0]?) oF fun ay=>gb true (pIw ay) 0 fun az=>gb true (UY n az 1000 some) 0 fun ba=>s (wJ (0-l)) (wJ (ba+4)) else bif decide (a<b) then gb true (Q2 e (wJ (a-1))) [] fun bb=>gb true (bb[0]?) oF fun bc=>gb true (pIw bc) 0 fun bd=>gb true (Um n bd 1000 some) 0 fun be=>gb true (Q2 i a) [] fun bg=>gb true (bg[0]?) oF fun bh=>gb true (pIw bh) 0 fun bi=>gb true (UY n bi 1000 some) 0 fun bj=>s (wJ (be-16)) (wJ (bj+4)) else bif (a == b) then gb true (Q2 e (wJ (b-1))) [] fun bk=>gb true (bk[0]?) oF fun bl=>gb true (pIw bl) 0 fun bm=>gb true (Um n bm 1000 some) 0 fun bn=>s (wJ (bn-16)) (wJ (j+o)) else gb true (Q2 e b) [] fun bo=>gb true (bo[0]?) oF fun bp=>gb true (pIw bp) 0 fun bq=>gb true (Um n bq 1000 some) 0 fun br=>s (wJ (br-16)) (wJ (j+20)) else k0 v a (decide (a<(c.length:Int))) x y
def WT (n:Nat) (b:Int) (c d:LL) (k0:Int->Bool->LL->oP R):Nat->Int->LL->oP R
 | 0,_,_=>none
 | m+1,a,e=>bif decide (a<b) then gb true (inB (c.length) a) () fun o=>gb true (c[a.toNat]?) [] fun j=>gb true (j[0]?) oF fun k=>gb true (PM k) false fun l=>bif l then gb true (inB (d.length) a) () fun p=>gb true (d[a.toNat]?) [] fun f=>gb true (f[0]?) oF fun g=>gb true (f[1]?) oF fun h=>gb true (f[2]?) oF fun i=>gb true (YD ((e.length+[[g,h,i]].length)*24)) () fun q=>WT n b c d k0 m (wJ (a+1)) (e++[[g,h,i]]) else WT n b c d k0 m (wJ (a+1)) e else k0 a (decide (a<b)) e
def Gg (n:Nat) (f a b g h:LL) (j:Int) (k:List UInt8) (l m o p a3 a4:Int) (K:LL->Int->Int->oP R):oP R:= gb true (HQ n f a b g h j k l m o p some) 0 fun d=>bif (d != 0) then K [] 0 d else gb true (Gm n a3 0 65536 some) false fun e=>gb (!(!e)) (Gm n a4 0 65536 some) false fun i=>bif (bif !e then true else (!i)) then K [] 0 4 else gb true (KU n f a b g h j k l m o p Tu4) ([],[],0,0) fun c=>gb true (bif decide (0<=(wJ ((b.length:Int)+(a.length:Int))))&&decide ((wJ ((b.length:Int)+(a.length:Int)))<=(wJ ((b.length:Int)+(a.length:Int)))) then some () else none) () fun u=>gb true (YD (Int.toNat (wJ ((b.length:Int)+(a.length:Int)))*1)) () fun v=>gb true (bif decide (0<=(wJ ((b.length:Int)+(a.length:Int))))&&decide ((wJ ((b.length:Int)+(a.length:Int)))<=(wJ ((b.length:Int)+(a.length:Int)))) then some () else none) () fun x=>gb true (YD (Int.toNat (wJ ((b.length:Int)+(a.length:Int)))*24)) () fun y=>Zg n a3 a4 c.1 c.2.1 c.2.2.1 (wJ ((c.1.length:Int)-1)) f a b g h (fun z aa ab r s=>WT n (wJ ((b.length:Int)+(a.length:Int))) r s (fun ac ad t=>K t c.2.2.1 0) n 0 []) n 0 0 (List.replicate (Int.toNat (wJ ((b.length:Int)+(a.length:Int)))) [D.bool false]) (List.replicate (Int.toNat (wJ ((b.length:Int)+(a.length:Int)))) [Q5 0,Q5 0,Q5 0])

end Go.Vx
namespace Go.Vx
def cd (a b:Int):Int:=if 0<a % b then a / b+1 else a / b
theorem CI {a b:Int} (h0:0<=a) (h1:1<=b):a<=cd a b*b/\0<=cd a b/\cd a b<=a / b+1:=by
 have h2:=Qeu a (show b≠0 by omega);have c:=Qes a (show 0<b by omega);have d:=Int.mul_ediv_add_emod a b;have e:0<=a / b:=Int.ediv_nonneg h0 (by omega);have f:b*(a / b)=a / b*b:=Int.mul_comm ..;have g:(a / b+1)*b=a / b*b+b:=by rw [Int.add_mul,Int.one_mul]
 unfold cd;split <;> refine ⟨?_,?_,?_⟩ <;> omega
theorem Q9Z {a b:Int} (h0:0<=a) (h1:1<=b) (ha:a<=1000000000):nz b=some ()/\(Int.tmod a b=a % b)/\wJ (Int.tdiv a b)=a / b/\wJ (a / b+1)=a / b+1:=by
 have c:0<=a / b:=Int.ediv_nonneg h0 (by omega);have d:a / b<=a:=Int.ediv_le_self _ h0;exact ⟨Ca (by omega),Qeo h0,by rw [Int.tdiv_eq_ediv_of_nonneg h0,Qf (by omega) (by omega)],Qf (by omega) (by omega)⟩
section
variable {n:Nat} {a b:Int} (h0:0<=a) (h1:1<=b) (ha:a<=1000000000)
include h0 h1 ha
theorem Q7L:Jb n a b Tu2=some (cd a b,0):=by
 obtain ⟨e1,e2,e,f⟩:=Q9Z h0 h1 ha;unfold Jb cd;rw [Q8 (by simpa using h1),e1,Q0,Q0,e2,e,f];by_cases h:0<a % b
 ·rw [QJ (by simpa using h),if_pos h]
 ·rw [Q8 (by simpa using h),Qec h]
theorem Q87:UY n a b (some:Int->Option Int)=some (cd a b):=by
 obtain ⟨e1,e2,c,d⟩:=Q9Z h0 h1 ha;unfold UY cd;rw [e1,Q0,Q0,e2,c,d];by_cases h:0<a % b
 ·rw [QJ (by simpa using h),if_pos h]
 ·rw [Q8 (by simpa using h),Qec h]
end
theorem upA {n:Nat} {a:Int} (h0:0<=a) (ha:a<=1000000000):Vg n a (some:Int->Option Int)=some (cd a 1000):=by
 unfold Vg;rw [Q7L h0 (by decide) ha,Q0]
theorem Q7D {a:Int} (h0:0<=a) (ha:a<=1000000000):decide (Int.tmod a 1000<0)=false/\wJ (Int.tdiv a 1000)=a / 1000:=by
 rw [Qeo h0,Int.tdiv_eq_ediv_of_nonneg h0];exact ⟨by simp;omega,Qf (by omega) (by omega)⟩
theorem Qbb {n:Nat} {a:Int} (h0:0<=a) (ha:a<=1000000000):U2 n a (some:Int->Option Int)=some (a / 1000):=by
 obtain ⟨e1,e2⟩:=Q7D h0 ha;unfold U2 KW;rw [Q8 (by decide),Ca (by decide),Q0,Q0,e1,Qe5,e2,Q0]
theorem QaA {n:Nat} {a:Int} (h0:0<=a) (ha:a<=1000000000):Um n a 1000 (some:Int->Option Int)=some (a / 1000):=by
 obtain ⟨e1,e2⟩:=Q7D h0 ha;unfold Um;rw [Ca (by decide),Q0,Q0,e1,Qe5,e2]
def sq (x:Int):Int:=(HA 400 x (some:Int->Option Int)).getD 0
theorem Q2s {x:Int} (h0:0<=x) (hx:x<=1000000000):Q6N x (sq x)/\HA 400 x (some:Int->Option Int)=some (sq x)/\S7 400 x (some:Int->Option Int)=some (sq x):=by
 obtain ⟨r,h1,h2⟩:=QbI h0 hx;have e:sq x=r:=by unfold sq;rw [h2];rfl
 rw [e];exact ⟨h1,h2,Qbe h0 hx h1⟩
namespace Run
variable (X:Run)
def S (j:Nat):Int:=sq (X.K (X.N-j))
def T:Nat->Int
 |0=>0
 |b+1=>T b+cd 20000000 (X.S b+X.S (b+1))
variable {X} (h:X.OK)
include h
theorem Q9u {j:Nat} (hj:j<=X.N):0<=X.S j/\X.S j<=25000/\(1<=j->j<X.N->1000<=X.S j):=by
 have h1:=Q1u h (X.N-j) (by omega);obtain ⟨⟨c,e,f⟩,_,_⟩:=Q2s (x:=X.K (X.N-j)) (by omega) (by omega);refine ⟨c,Q5a c (by decide) e (by omega),fun a b=>?_⟩;have h2:=h1.2.2 (by omega) (by omega);by_cases d:1000<=X.S j
 ·exact d
 ·have:=Q1D (show 0<=sq (X.K (X.N-j))+1 by omega) (show sq (X.K (X.N-j))+1<=1000 by unfold S at d;omega);omega
theorem BW {b:Nat} (hb:b<X.N):1000<=X.S b+X.S (b+1)/\X.S b+X.S (b+1)<=50000/\0<=cd 20000000 (X.S b+X.S (b+1))/\cd 20000000 (X.S b+X.S (b+1))<=20001:=by
 have h2:=h.h2;have a:=Q9u h (j:=b) (by omega);have c:=Q9u h (j:=b+1) (by omega);have hs:1000<=X.S b+X.S (b+1):=by
  by_cases f:b=0
  ·have:=c.2.2 (by omega) (by omega);omega
  ·have:=a.2.2 (by omega) (by omega);omega
 have d:=CI (show (0:Int)<=20000000 by decide) (show 1<=X.S b+X.S (b+1) by omega);have e:20000000 / (X.S b+X.S (b+1))<=20000:=Int.ediv_le_of_le_mul (by omega) (by omega);omega
theorem T_rng:∀ b:Nat,b<=X.N->0<=X.T b/\X.T b<=20001*b
 |0,_=>by rw [T];omega
 |b+1,hb=>by
  have:=T_rng b (by omega);have:=BW h (b:=b) (by omega);rw [T];omega
theorem T_mono {a:Nat}:∀ {b:Nat},a<=b->b<=X.N->X.T a<=X.T b
 |0,h1,_=>by rw [show a=0 by omega];omega
 |b+1,h1,h2=>by
  by_cases e:a=b+1
  ·subst e;omega
  ·have:=T_mono (a:=a) (b:=b) (by omega) (by omega);have:=BW h (b:=b) (by omega);rw [T];omega
def TT (X:Run):LL:=arr X.T (X.N+1)
theorem QcG:VL 400 X.C (X.st:Int) X.nm (X.t:Int) X.sp X.ac X.br Tu2=some (arr X.S (X.N+1),0):=by
 have hN:=h.hN;have h2:=h.h2;have hl:=h.hC.len;have am:UN 400 X.C (X.st:Int) X.nm (X.t:Int) X.sp X.ac X.br (some:Int->Option Int)=some 0:=by
  unfold UN;rw [EN h.hk,Q0,Q8 (by decide),Q8 (by simp;omega)];refine QR (r:=fun m i=>Ye 400 X.C ((X.C.length:Nat):Int) _ _ m i) (N:=X.C.length) (fun m k hk=>?_) (fun m=>?_) X.C.length 400 0 (by omega) (by omega)
  ·have b0:=h.hC.b0 k hk;have b1:=h.hC.b1 k hk;have g0:=h.hC.g0 k hk;have g1:=h.hC.g1 k hk;rw [Ye,Qk hk,Qp,h.hC.row k hk];simp -implicitDefEqProofs only [Q0,Qe4,Qe6,Q1,Xj,X6,cond_true,Qe5,Qed,Qee,show decide ((cl X.C k).1<1000)=false by simp;omega,show decide ((cl X.C k).1>100000)=false by simp;omega,show decide ((cl X.C k).2 < -40)=false by simp;omega,show decide ((cl X.C k).2>40)=false by simp;omega,Xa (show k<=1000 by omega)]
  ·rw [Ye,Xb,Qe5,Qf (by omega) (by omega),show decide ((X.st:Int)<0)=false by simp,show decide ((X.st:Int)>((X.C.length:Nat):Int)-2)=false by simp;omega];rfl
 unfold VL;rw [am,Q0,Q8 (by rfl),sqA h,Q0];have hW:X.W.length=X.N+1:=Yk;rw [hW];have:=QR (r:=fun m i=>Z1 400 ((X.N+1:Nat):Int) (fun _ _ d=>some (d,(0:Int))) m i (arr (fun j=>if j<i.toNat then X.S j else X.K (X.N-j)) (X.N+1))) (N:=X.N+1) (e:=some (arr X.S (X.N+1),0)) (fun m k hk=>?_) (fun m=>?_) (X.N+1) 400 0 (by omega) (by omega)
 ·rw [show arr (fun j=>if j<(((0:Nat):Int)).toNat then X.S j else X.K (X.N-j)) (X.N+1)=X.W from Xw fun j hj=>Qec (by simp)] at this;exact this
 ·simp only [Int.toNat_natCast];have hK:=Q1u h (X.N-k) (by omega);rw [Z1,Qk hk,cond_true,Yk,Q4w hk,Qec (Nat.lt_irrefl k),(Q2s (by omega) (by omega)).2.1,Q0,Q6m hk,Xa (by omega)];refine congrArg _ (Xw fun j hj=>?_);by_cases ak:j=k
  ·subst ak;rw [if_pos rfl,if_pos (by omega)];rfl
  ·rw [Qec ak];by_cases a:j<k
   ·rw [if_pos a,if_pos (by omega)]
   ·rw [Qec a,Qec (by omega)]
 ·simp only [Int.toNat_natCast];rw [Z1,Xb,Qe5];exact congrArg (fun l=>some (l,(0:Int))) (Xw fun j hj=>if_pos hj)
theorem timA:V0 400 X.C (X.st:Int) X.nm (X.t:Int) X.sp X.ac X.br Tu2=some (X.TT,0):=by
 have hN:=h.hN;have hl:=h.hC.len;unfold V0;rw [QcG h,Q0,Q8 (by rfl),Yk,show (bif decide ((0:Int)<=((X.N+1:Nat):Int))&&decide (((X.N+1:Nat):Int)<=((X.N+1:Nat):Int)) then some () else none)=some () by rw [QJ (by simp;omega)],Q0,Int.toNat_natCast,XR (by omega),Q0,FT];have:=QR (r:=fun m i=>Zz 400 (arr X.S (X.N+1)) (fun _ _ g=>some (g,(0:Int))) m ((i.toNat+1:Nat):Int) (arr (fun j=>if j<=i.toNat then X.T j else 0) (X.N+1))) (N:=X.N) (e:=some (X.TT,0)) (fun m k hk=>?_) (fun m=>?_) X.N 400 0 (by omega) (by omega)
 ·rw [show arr (fun j=>if j<=(((0:Nat):Int)).toNat then X.T j else 0) (X.N+1)=arr (fun _=>0) (X.N+1) from Xw fun j hj=>by
   split
   ·rename_i h0;have h0:j=0:=by simpa using h0
    rw [h0,T]
   ·rfl] at this
  exact this
 ·simp only [Int.toNat_natCast];have hi:=BW h hk;have hT:=T_rng h k (by omega);rw [Zz,Yk,Qk (show k+1<X.N+1 by omega),cond_true,Vi (show k+1<=1000 by omega) (by omega),show k+1-1=k by omega,Qp,Qp,Vu (show k<X.N+1 by omega),Vu (show k+1<X.N+1 by omega)];simp -implicitDefEqProofs only [Q0,Qe4,Q1,wI (a:=X.S k+X.S (k+1)) rfl (show -1000000<=X.S k+X.S (k+1) by omega) (show X.S k+X.S (k+1)<=1000000000 by omega),Q7L (n:=400) (show (0:Int)<=20000000 by decide) (show 1<=X.S k+X.S (k+1) by omega) (by decide)];rw [Yk,Q4w (show k<X.N+1 by omega),if_pos (Qeg k),Q6m (show k+1<X.N+1 by omega),Xa (by omega),wI (a:=X.T k+cd 20000000 (X.S k+X.S (k+1))) (b:=X.T (k+1)) rfl (by rw [T];omega) (by rw [T];omega)];refine congrArg _ (Xw fun j hj=>?_);by_cases ak:j=k+1
  ·subst ak;rw [if_pos rfl,if_pos (by omega)]
  ·rw [Qec ak];by_cases c:j<=k
   ·rw [if_pos c,if_pos (by omega)]
   ·rw [Qec c,Qec (by omega)]
 ·simp only [Int.toNat_natCast];rw [Zz,Yk,Xb,Qe5];exact congrArg (fun l=>some (l,(0:Int))) (Xw fun j hj=>if_pos (by omega))
end Run
namespace Run
variable {X:Run} (h:X.OK)
include h
theorem Qcx:FO 400 X.C (X.st:Int) X.nm (X.t:Int) X.sp X.ac X.br (some:Int->Option Int)=some 0:=by
 have hN:=h.hN;have h2:=h.h2;have hl:=h.hC.len;obtain ⟨t1,t2,s1,s2,a1,a2,b1,b2⟩:=h.hk;have ak:XF 400 X.nm (X.t:Int) X.sp X.ac X.br (some:Bool->Option Bool)=some true:=by
  unfold XF;simp -implicitDefEqProofs only [Q0,Qe4,Qe6,Q1,Xj,X6,cond_true,Qe5,Qed,Qee,Q1i t1 (show (X.t:Int)<=40 by omega),Q1i (show 1000<=X.sp by omega) (show X.sp<=100000 by omega),Q1i (show 100<=X.ac by omega) (show X.ac<=2000 by omega),Q1i (show 100<=X.br by omega) (show X.br<=2000 by omega)]
 unfold FO;rw [ak,Q0,Q8 (by decide),Q8 (by simp;omega)];refine QR (r:=fun m i=>Jw 400 X.C _ _ m i) (N:=X.C.length) (fun m k hk=>?_) (fun m=>?_) X.C.length 400 0 (by omega) (by omega)
 ·have b0:=h.hC.b0 k hk;have b1:=h.hC.b1 k hk;have g0:=h.hC.g0 k hk;have g1:=h.hC.g1 k hk;rw [Jw,Qk hk,Qp,h.hC.row k hk];simp -implicitDefEqProofs only [Q0,Qe4,Qe6,Q1,Xj,X6,cond_true,Qe5,Qed,Qee,Q1i (show 1000<=(cl X.C k).1 by omega) (show (cl X.C k).1<=100000 by omega),Q1i (show -40<=(cl X.C k).2 by omega) (show (cl X.C k).2<=40 by omega),Xa (show k<=1000 by omega)]
 ·rw [Jw,Xb,Qe5,Qf (by omega) (by omega),show decide ((X.st:Int)<0)=false by simp,show decide ((X.st:Int)>((X.C.length:Nat):Int)-2)=false by simp;omega];rfl
theorem QcJ:Tm 400 X.C (X.st:Int) X.nm (X.t:Int) X.sp X.ac X.br Tu2=some (arr X.S (X.N+1),0):=by
 have hN:=h.hN;have h2:=h.h2;have hl:=h.hC.len;have t2:=h.hk.t2;have hw:wJ (((X.C.length:Nat):Int)-(X.st:Int))=((X.N:Nat):Int):=by rw [Qf (by omega) (by omega)];omega
 unfold Tm;rw [Qcx h,Q0,Q8 (by rfl),hw,Xa (by omega),show (bif decide ((0:Int)<=((X.N+1:Nat):Int))&&decide (((X.N+1:Nat):Int)<=((X.N+1:Nat):Int)) then some () else none)=some () by rw [QJ (by simp;omega)],Q0,Int.toNat_natCast,XR (by omega),Q0,FT];have e1:∀ k0:Int->Bool->LL->Option (LL × Int),Wq 400 X.C (X.st:Int) ((X.N:Nat):Int) X.nm (X.t:Int) X.sp X.ac X.br k0 400 (1:Int) (arr (fun _=>0) (X.N+1))=k0 ((X.N:Nat):Int) false (arr (fun j=>if 1<=j/\j<=X.N-1 then X.V j else 0) (X.N+1)):=by
  intro k0;have:=QR (r:=fun m i=>Wq 400 X.C (X.st:Int) ((X.N:Nat):Int) X.nm (X.t:Int) X.sp X.ac X.br k0 m ((i.toNat+1:Nat):Int) (arr (fun j=>if 1<=j/\j<=i.toNat then X.V j else 0) (X.N+1))) (N:=X.N-1) (e:=k0 ((X.N:Nat):Int) false (arr (fun j=>if 1<=j/\j<=X.N-1 then X.V j else 0) (X.N+1))) (fun m i hi=>?_) (fun m=>?_) (X.N-1) 400 0 (by omega) (by omega)
  ·rw [show arr (fun j=>if 1<=j/\j<=(((0:Nat):Int)).toNat then X.V j else 0) (X.N+1)=arr (fun _=>0) (X.N+1) from Xw fun j hj=>Qec (by simp;omega)] at this;exact this
  ·simp only [Int.toNat_natCast];have ay:=Q6a h (b:=i+1) (by omega);have hV:=Q8A h (b:=i+1) (by omega);rw [Wq,Qk (show i+1<X.N by omega),cond_true,wI (show (X.st:Int)+((i+1:Nat):Int)=((X.st+(i+1):Nat):Int) by omega) (by omega) (by omega),wI (show ((X.st+(i+1):Nat):Int)-1=((X.st+i:Nat):Int) by omega) (by omega) (by omega),Qcf h.hC (by omega) (by omega),Q0,Qcf h.hC (by omega) (by omega),Q0,Yk,Q6m (by omega),Xa (by omega)];refine congrArg _ (Xw fun j hj=>?_);have e1:(if Q3U X.C X.sp (X.st+(i+1)) X.t<Q3U X.C X.sp (X.st+i) X.t then Q3U X.C X.sp (X.st+(i+1)) X.t else Q3U X.C X.sp (X.st+i) X.t)=X.lo (i+1):=rfl;by_cases ak:j=i+1
   ·subst ak;rw [if_pos rfl,e1,wI (a:=X.lo (i+1)*X.lo (i+1)) (b:=X.V (i+1)) rfl (by omega) (by omega),if_pos (by omega)]
   ·rw [Qec ak];by_cases d:1<=j/\j<=i
    ·rw [if_pos d,if_pos (by omega)]
    ·rw [Qec d,Qec (by omega)]
  ·simp only [Int.toNat_natCast];rw [show X.N-1+1=X.N by omega,Wq,Xb,Qe5]
 rw [e1];have e2:∀ k0:Int->Bool->LL->Option (LL × Int),Wt 400 X.C (X.st:Int) ((X.N:Nat):Int) X.nm (X.t:Int) X.sp X.ac X.br k0 400 (0:Int) (arr (fun j=>if 1<=j/\j<=X.N-1 then X.V j else 0) (X.N+1))=k0 ((X.N:Nat):Int) false (arr (fun j=>if j<=X.N-1 then X.F j else 0) (X.N+1)):=by
  intro k0;have:=QR (r:=fun m i=>Wt 400 X.C (X.st:Int) ((X.N:Nat):Int) X.nm (X.t:Int) X.sp X.ac X.br k0 m i (arr (fun j=>if j<=X.N-1 then (if j<=i.toNat then X.F j else X.V j) else 0) (X.N+1))) (N:=X.N) (e:=k0 ((X.N:Nat):Int) false (arr (fun j=>if j<=X.N-1 then X.F j else 0) (X.N+1))) (fun m i hi=>?_) (fun m=>?_) X.N 400 0 (by omega) (by omega)
  ·rw [show arr (fun j=>if j<=X.N-1 then (if j<=(((0:Nat):Int)).toNat then X.F j else X.V j) else 0) (X.N+1)=arr (fun j=>if 1<=j/\j<=X.N-1 then X.V j else 0) (X.N+1) from Xw fun j hj=>by
    by_cases q:j=0
    ·subst q;rw [if_pos (by omega),if_pos (by simp),Qec (by omega),F]
    ·by_cases c:j<=X.N-1
     ·rw [if_pos c,Qec (by simp;omega),if_pos (by omega)]
     ·rw [Qec c,Qec (by omega)]] at this
   exact this
  ·simp only [Int.toNat_natCast];have f:=h.hC.g0 (X.st+i) (by omega);have g:=h.hC.g1 (X.st+i) (by omega);have hr:=row h (b:=i) (by omega);have hF:=Q6D h i (by omega);have hG:=Q85 h (b:=i) (by omega);have ha:=Q1O h.hk.a1 h.hk.a2 f g;rw [Wt,Qk hi,cond_true,Xa (by omega),Yk,Q4w (show i+1<X.N+1 by omega),Q4w (show i<X.N+1 by omega),wI (show (X.st:Int)+(i:Int)=((X.st+i:Nat):Int) by omega) (by omega) (by omega),Qp,hr];simp -implicitDefEqProofs only [Q0,Qe4,Qe6,Q1,Xj,X6,cond_true,Qe5,Qed,Qee,Q9p h.hk.a1 h.hk.a2 f g];rw [Q6m (show i+1<X.N+1 by omega),if_pos (show i<=X.N-1 by omega),if_pos (Qeg i),Qec (show ¬ i+1<=i by omega),wI (a:=20000*acc X.ac (cl X.C (X.st+i)).2) (b:=X.G i) rfl (by omega) (by omega),wI (a:=X.F i+X.G i) (b:=X.F i+X.G i) rfl (by omega) (by omega)];refine congrArg _ (Xw fun j hj=>?_);by_cases ak:j=i+1
   ·subst ak;rw [if_pos rfl];by_cases n:i+1<=X.N-1
    ·rw [if_pos n,if_pos n,if_pos (Qeg (i+1)),F]
    ·rw [Qec n,Qec (show ¬ X.F i+X.G i<0 by omega),Qec n]
   ·rw [Qec ak];by_cases c:j<=X.N-1
    ·rw [if_pos c,if_pos c];by_cases d:j<=i
     ·rw [if_pos d,if_pos (by omega)]
     ·rw [Qec d,Qec (by omega)]
    ·rw [Qec c,Qec c]
  ·simp only [Int.toNat_natCast];rw [Wt,Xb,Qe5];refine congrArg _ (Xw fun j hj=>?_);by_cases c:j<=X.N-1
   ·rw [if_pos c,if_pos c,if_pos (by omega)]
   ·rw [Qec c,Qec c]
 rw [e2];have s:∀ k0:Int->Bool->LL->Option (LL × Int),Wu 400 X.C (X.st:Int) X.nm (X.t:Int) X.sp X.ac X.br k0 400 ((X.N:Nat):Int) (arr (fun j=>if j<=X.N-1 then X.F j else 0) (X.N+1))=k0 0 false X.W:=by
  intro k0;have:=QR (r:=fun m i=>Wu 400 X.C (X.st:Int) X.nm (X.t:Int) X.sp X.ac X.br k0 m ((X.N-i.toNat:Nat):Int) (arr (fun j=>if X.N-j<=i.toNat then X.K (X.N-j) else X.F j) (X.N+1))) (N:=X.N) (e:=k0 0 false X.W) (fun m i hi=>?_) (fun m=>?_) X.N 400 0 (by omega) (by omega)
  ·rw [show arr (fun j=>if X.N-j<=(((0:Nat):Int)).toNat then X.K (X.N-j) else X.F j) (X.N+1)=arr (fun j=>if j<=X.N-1 then X.F j else 0) (X.N+1) from Xw fun j hj=>by
    by_cases aq:j=X.N
    ·subst aq;rw [if_pos (by simp),Qec (by omega),Nat.sub_self,K]
    ·rw [Qec (by simp;omega),if_pos (by omega)]] at this
   exact this
  ·simp only [Int.toNat_natCast];obtain ⟨b,hb⟩:∃ b,b+1=X.N-i:=⟨X.N-i-1,by omega⟩;have f:=h.hC.g0 (X.st+b) (by omega);have g:=h.hC.g1 (X.st+b) (by omega);have hr:=row h (b:=b) (by omega);have hK:=Q1u h i (by omega);have hL:=Q7d h (b:=b) (by omega);have aw:=Q1V h.hk.b1 h.hk.b2 f g;rw [<- hb,Wu,QJ (by simp),Vi (show b+1<=1000 by omega) (by omega),Qef,Yk,Q4w (show b<X.N+1 by omega),Q4w (show b+1<X.N+1 by omega),wI (show (X.st:Int)+((b+1:Nat):Int)=((X.st+b+1:Nat):Int) by omega) (by omega) (by omega),Vi (show X.st+b+1<=1000 by omega) (by omega),Qef,Qp,hr];simp -implicitDefEqProofs only [Q0,Qe4,Qe6,Q1,Xj,X6,cond_true,Qe5,Qed,Qee,Qas h.hk.b1 h.hk.b2 f g];rw [Q6m (show b<X.N+1 by omega),show X.N-(i+1)=b by omega,Qec (show ¬ X.N-b<=i by omega),if_pos (show X.N-(b+1)<=i by omega),show X.N-(b+1)=i by omega,wI (a:=20000*brk X.br (cl X.C (X.st+b)).2) (b:=X.L b) rfl (by omega) (by omega),wI (a:=X.K i+X.L b) (b:=X.K i+X.L b) rfl (by omega) (by omega)];refine congrArg _ (Xw fun j hj=>?_);by_cases am:j=b
   ·subst am;rw [if_pos rfl,if_pos (show X.N-j<=i+1 by omega),show X.N-j=i+1 by omega,K,show X.N-(i+1)=j by omega]
   ·rw [Qec am];by_cases d:X.N-j<=i
    ·rw [if_pos d,if_pos (by omega)]
    ·rw [Qec d,Qec (by omega)]
  ·simp only [Int.toNat_natCast];rw [Nat.sub_self,Wu,Q8 (by decide)];refine congrArg _ (Xw fun j hj=>if_pos (by omega))
 rw [s];have:=QR (r:=fun m i=>Uj 400 ((X.N:Nat):Int) (fun _ _ t=>some (t,(0:Int))) m i (arr (fun j=>if j<i.toNat then X.S j else X.K (X.N-j)) (X.N+1))) (N:=X.N+1) (e:=some (arr X.S (X.N+1),0)) (fun m k hk=>?_) (fun m=>?_) (X.N+1) 400 0 (by omega) (by omega)
 ·rw [show arr (fun j=>if j<(((0:Nat):Int)).toNat then X.S j else X.K (X.N-j)) (X.N+1)=X.W from Xw fun j hj=>Qec (by simp)] at this;exact this
 ·simp only [Int.toNat_natCast];have hK:=Q1u h (X.N-k) (by omega);rw [Uj,QJ (by simp;omega),Yk,Q4w hk,Qec (Nat.lt_irrefl k),(Q2s (by omega) (by omega)).2.2,Q0,Q6m hk,Xa (by omega)];refine congrArg _ (Xw fun j hj=>?_);by_cases an:j=k
  ·subst an;rw [if_pos rfl,if_pos (by omega)];rfl
  ·rw [Qec an];by_cases d:j<k
   ·rw [if_pos d,if_pos (by omega)]
   ·rw [Qec d,Qec (by omega)]
 ·simp only [Int.toNat_natCast];rw [Uj,Q8 (by simp;omega)];exact congrArg (fun l=>some (l,(0:Int))) (Xw fun j hj=>if_pos hj)
theorem timB:Hk 400 X.C (X.st:Int) X.nm (X.t:Int) X.sp X.ac X.br Tu2=some (X.TT,0):=by
 have hN:=h.hN;have hl:=h.hC.len;unfold Hk;rw [QcJ h,Q0,Q8 (by rfl),Yk,show (bif decide ((0:Int)<=((X.N+1:Nat):Int))&&decide (((X.N+1:Nat):Int)<=((X.N+1:Nat):Int)) then some () else none)=some () by rw [QJ (by simp;omega)],Q0,Int.toNat_natCast,XR (by omega),Q0,FT];have:=QR (r:=fun m i=>UJ 400 (arr X.S (X.N+1)) (fun _ _ o=>some (o,(0:Int))) m ((i.toNat+1:Nat):Int) (arr (fun j=>if j<=i.toNat then X.T j else 0) (X.N+1))) (N:=X.N) (e:=some (X.TT,0)) (fun m k hk=>?_) (fun m=>?_) X.N 400 0 (by omega) (by omega)
 ·rw [show arr (fun j=>if j<=(((0:Nat):Int)).toNat then X.T j else 0) (X.N+1)=arr (fun _=>0) (X.N+1) from Xw fun j hj=>by
   split
   ·rename_i c;have c:j=0:=by simpa using c
    rw [c,T]
   ·rfl] at this
  exact this
 ·simp only [Int.toNat_natCast];have hi:=BW h hk;have hT:=T_rng h k (by omega);rw [UJ,Yk,Qk (show k+1<X.N+1 by omega),cond_true,Vi (show k+1<=1000 by omega) (by omega),show k+1-1=k by omega,Yk,Q4w (show k<X.N+1 by omega),if_pos (Qeg k),Qp,Qp,Vu (show k<X.N+1 by omega),Vu (show k+1<X.N+1 by omega)];simp -implicitDefEqProofs only [Q0,Qe4,Q1,wI (a:=X.S k+X.S (k+1)) rfl (show -1000000<=X.S k+X.S (k+1) by omega) (show X.S k+X.S (k+1)<=1000000000 by omega),Q87 (n:=400) (show (0:Int)<=20000000 by decide) (show 1<=X.S k+X.S (k+1) by omega) (by decide)];rw [Q6m (show k+1<X.N+1 by omega),Xa (by omega),wI (a:=X.T k+cd 20000000 (X.S k+X.S (k+1))) (b:=X.T (k+1)) rfl (by rw [T];omega) (by rw [T];omega)];refine congrArg _ (Xw fun j hj=>?_);by_cases ak:j=k+1
  ·subst ak;rw [if_pos rfl,if_pos (by omega)]
  ·rw [Qec ak];by_cases d:j<=k
   ·rw [if_pos d,if_pos (by omega)]
   ·rw [Qec d,Qec (by omega)]
 ·simp only [Int.toNat_natCast];rw [UJ,Yk,Xb,Qe5];exact congrArg (fun l=>some (l,(0:Int))) (Xw fun j hj=>if_pos (by omega))
end Run

def sl (Se s:LL) (j:Nat):Nat:=(HH Se (s.getD j [])).length
def pos (Se s:LL):Nat->Nat
 |0=>0
 |j+1=>pos Se s j+sl Se s (j+1)
theorem TB {f:Nat->Int} {n:Nat}:arr f n++[[Q5 (f n)]]=arr f (n+1):=by simp [arr,List.range_succ]
section
variable {Se s:LL} (hs:∀ r∈s,Fa Se r)
include hs
theorem LE {j:Nat} (hj:j<s.length):∃ (x d:Int) (nm:List UInt8) (b c st:Int),s[j]? = some [Q5 x,Q5 d]/\Q2 Se x=some [D.str nm,Q5 (sl Se s j),Q5 b,Q5 c,Q5 st]/\2<=sl Se s j/\sl Se s j<=12/\(d=0\/d=1):=by
 obtain ⟨x,d,nm,a,b,c,st,e,f,h2,g⟩:=hs _ (Qer hj);have a0:=h2.a0;have a1:=h2.a1;have e2:s[j]? = some [Q5 x,Q5 d]:=by rw [Qe9 hj,e]
 have h:sl Se s j=a.toNat:=by
  unfold sl;rw [Qeb,e2];show (HH Se [Q5 x,Q5 d]).length=_;rw [Gd f,List.length_replicate]
 refine ⟨x,d,nm,b,c,st,e2,?_,by omega,by omega,g⟩;rw [f,h,show ((a.toNat:Nat):Int)=a by omega]
omit hs in
theorem Q03:∀ {j:Nat},j<s.length->(XS Se (s.take (j+1))).length=sl Se s 0+pos Se s j
 |0,hj=>by
  rw [Su (Qe9 hj)];simp only [List.take_zero,XS,List.flatMap_nil,List.nil_append,pos,sl,Qeb,Qe9 hj,Qel];omega
 |j+1,hj=>by
  have:=Q03 (j:=j) (by omega);rw [Su (Qe9 hj),List.length_append,this,pos];simp only [sl,Qeb,Qe9 hj,Qel];omega
omit hs in
theorem Q5e {i j:Nat} (a:i<=j):pos Se s i<=pos Se s j:=by
 induction j with
 |zero=>rw [show i=0 by omega];omega
 |succ j ih=>
  by_cases e:i=j+1
  ·subst e;omega
  ·have:=ih (by omega);rw [pos];omega
theorem Q2O {i j:Nat} (a:i<j) (h2:j<s.length):pos Se s i+2<=pos Se s j:=by
 obtain ⟨_,_,_,_,_,_,_,_,b,_⟩:=LE hs (j:=i+1) (by omega);have:=Q5e (Se:=Se) (s:=s) (i:=i+1) (j:=j) (by omega);rw [pos] at this;omega
end
def YR (Se s:LL) (nm:List UInt8) (tl sp ac br:Int):Run:=⟨XS Se s,nm,sp,ac,br,tl.toNat,sl Se s 0,pos Se s (s.length-1)⟩
section
variable {St Pt Se Li s:LL} (h:RtF St Pt Se Li s) {nm:List UInt8} {tl sp ac br:Int} (hk:StkN tl sp ac br)
include h
theorem Ey:GR Se s=(sl Se s 0:Int):=by
 have l2:=h.l2;obtain ⟨x,d,_,b,c,st,e,a,_⟩:=LE h.st (j:=0) (by omega);cases s with
 |nil=>cases e
 |cons r t=>
  injection e with e
  subst e;simp only [GR,a]
include hk
theorem Sx:(YR Se s nm tl sp ac br).OK where
 hC:=Q4L h.st h.l24
 hk:=by
  have:=hk.t1;show StkN ((tl.toNat:Nat):Int) sp ac br;rw [show ((tl.toNat:Nat):Int)=tl by omega];exact hk
 hN:=by
  have l2:=h.l2;have:=Q03 (Se:=Se) (s:=s) (j:=s.length-1) (by omega);rw [show s.length-1+1=s.length by omega,List.take_length] at this;exact this
 h2:=by
  have l2:=h.l2;have:=Q2O h.st (i:=0) (j:=s.length-1) (by omega) (by omega);show 2<=pos Se s (s.length-1);omega
end

section
variable {St Pt Se Li s:LL} (h:RtF St Pt Se Li s) {nm:List UInt8} {tl sp ac br:Int} (hk:StkN tl sp ac br)
def fEN (Se s:LL) (X:Run) (j:Nat):Int:=X.T (pos Se s (j-1))
def fLV (Se s:LL) (X:Run) (j:Nat):Int:=if j<s.length-1 then X.T (pos Se s j+X.t) else X.T X.N
def Ao (X:Run):Int:=cd (X.T X.N) 1000
include h hk
theorem tEq:(((YR Se s nm tl sp ac br).t:Nat):Int)=tl:=by
 have _:=h.l2;have:=hk.t1;show ((tl.toNat:Nat):Int)=tl;omega
theorem Q8z:V0 400 (XS Se s) (sl Se s 0:Int) nm tl sp ac br Tu2=some ((YR Se s nm tl sp ac br).TT,0):=by
 have:=Run.timA (Sx h (nm:=nm) hk);rw [tEq h hk] at this;exact this
theorem Q8c:Hk 400 (XS Se s) (sl Se s 0:Int) nm tl sp ac br Tu2=some ((YR Se s nm tl sp ac br).TT,0):=by
 have:=Run.timB (Sx h (nm:=nm) hk);rw [tEq h hk] at this;exact this
theorem Cv {b:Nat} (hb:b<=(YR Se s nm tl sp ac br).N):0<=(YR Se s nm tl sp ac br).T b/\(YR Se s nm tl sp ac br).T b<=7000000:=by
 have hX:=Sx h (nm:=nm) hk;have a:=Run.T_rng hX b hb;have:=hX.hN;have:=hX.hC.len;omega
theorem N7:0<=Ao (YR Se s nm tl sp ac br)/\Ao (YR Se s nm tl sp ac br)<=7001:=by
 have a:=Cv h (nm:=nm) hk (Qeg _);have:=CI a.1 (show (1:Int)<=1000 by decide);unfold Ao;omega
theorem Q8O {j:Nat} (hj:j<s.length):pos Se s j<=(YR Se s nm tl sp ac br).N/\(j<s.length-1->pos Se s j+(YR Se s nm tl sp ac br).t<=(YR Se s nm tl sp ac br).N):=by
 have a:=Q5e (Se:=Se) (s:=s) (i:=j) (j:=s.length-1) (by omega);have h2:=tEq h (nm:=nm) hk;have:=hk.t2;refine ⟨a,fun b=>?_⟩;have:=Q2O h.st (i:=j) (j:=s.length-1) b (by omega);show pos Se s j+_<=pos Se s (s.length-1);omega
theorem Q9C:JW 400 St Pt Se Li s 0 nm tl sp ac br Tu4=some (arr (fEN Se s (YR Se s nm tl sp ac br)) s.length,arr (fLV Se s (YR Se s nm tl sp ac br)) s.length,Ao (YR Se s nm tl sp ac br),0):=by
 have l2:=h.l2;have l24:=h.l24;have ht:=tEq h (nm:=nm) hk;have hX:=Sx h (nm:=nm) hk;have au:=hX.hN;have ar:=hX.hC.len;have ao:=Q8z h (nm:=nm) hk;have am:=fun (j:Nat) (hj:j<s.length)=>Q8O h (nm:=nm) hk hj
 have an:=Cv h (nm:=nm) hk (Qeg _);have hN:(YR Se s nm tl sp ac br).N=pos Se s (s.length-1):=rfl;unfold JW;rw [Qci h.lay rfl h.l2 h.l24 h.rt h.st hk,Q0,Q8 (by rfl),Ey h,ao,Q0,Cs h.l24,Q0];revert hX au ar am an hN ht;generalize YR Se s nm tl sp ac br=X;intro ht hX au ar am an hN;have p:∀ k0:Int->Int->Bool->LL->LL->Option (LL × LL × Int × Int),Xy 400 X.TT s s ((s.length:Nat):Int) Se tl k0 400 0 0 [] []=k0 ((pos Se s (s.length-1):Nat):Int) ((s.length:Nat):Int) false (arr (fEN Se s X) s.length) (arr (fLV Se s X) (s.length-1)):=by
  intro k0;refine QR (r:=fun m i=>Xy 400 X.TT s s ((s.length:Nat):Int) Se tl k0 m ((pos Se s (i.toNat-1):Nat):Int) i (arr (fEN Se s X) i.toNat) (arr (fLV Se s X) (min i.toNat (s.length-1)))) (N:=s.length) (fun m i hi=>?_) (fun m=>?_) s.length 400 0 (by omega) (by omega)
  ·simp only [Int.toNat_natCast];obtain ⟨x,d,a8,b,c,st,e,q,a0,a1,hd⟩:=LE h.st hi;have hp:=am (i-1) (by omega);have f:=am i hi;rw [Xy,Qk hi,cond_true,Qp,e];have hT:Q2 X.TT ((pos Se s (i-1):Nat):Int)=some [Q5 (fEN Se s X i)]:=by rw [Qp];exact Vu (by omega)
   have hr:YD (((arr (fEN Se s X) i).length+List.length [[D.int .i64 (fEN Se s X i)]])*8)=some ():=XR (by simp only [Yk,Qek,Qej];omega);simp -implicitDefEqProofs only [Q0,Qe4,Qe6,Q1,hT,hr,TB,wI (show (i:Int)+1=((i+1:Nat):Int) by omega) (by omega) (by omega),wI (show ((s.length:Nat):Int)-1=((s.length-1:Nat):Int) by omega) (by omega) (by omega)];have aw:i<s.length-1->Q2 X.TT ((pos Se s i+X.t:Nat):Int)=some [Q5 (fLV Se s X i)]:=fun ak=>by
    have:=f.2 ak;rw [Qp];show (arr X.T (X.N+1))[pos Se s i+X.t]? = _;rw [Vu (by omega)];unfold fLV;rw [if_pos ak]
   have a:∀ k,k<=30->YD (((arr (fLV Se s X) k).length+List.length [[D.int .i64 (fLV Se s X k)]])*8)=some ():=fun k hk=>XR (by simp only [Yk,Qek,Qej];omega)
   by_cases t:i=0
   ·subst t;have aq:0<s.length-1:=by omega
    have:=aw aq;rw [show decide (((0:Nat):Int)>0)=false from rfl,Qe5,Qk aq,cond_true,wI (show ((pos Se s (0-1):Nat):Int)+tl=((pos Se s 0+X.t:Nat):Int) by rw [<- ht,show 0-1=0 from rfl];omega) (by omega) (by omega),this,Nat.min_eq_left (by omega),Nat.min_eq_left (by omega)];simp -implicitDefEqProofs only [Q0,Qe4,Q1,a 0 (by omega),TB]
   ·have a7:pos Se s i=pos Se s (i-1)+sl Se s i:=by
     obtain ⟨k,rfl⟩:∃ k,i=k+1:=⟨i-1,by omega⟩;rfl
    rw [show decide ((i:Int)>0)=true by simp;omega,cond_true,q];simp -implicitDefEqProofs only [Q0,Qe4,Qe6,Q1,wI (show ((pos Se s (i-1):Nat):Int)+((sl Se s i:Nat):Int)=((pos Se s i:Nat):Int) by omega) (by omega) (by omega),Qef];by_cases ak:i<s.length-1
    ·rw [Qk ak,cond_true,wI (show ((pos Se s i:Nat):Int)+tl=((pos Se s i+X.t:Nat):Int) by omega) (by have:=f.2 ak;omega) (by have:=f.2 ak;omega),aw ak,Nat.min_eq_left (by omega),Nat.min_eq_left (by omega)];simp -implicitDefEqProofs only [Q0,Qe4,Q1,a i (by omega),TB]
    ·rw [show decide ((i:Int)<((s.length-1:Nat):Int))=false by simp;omega,Qe5,Nat.min_eq_right (by omega),Nat.min_eq_right (by omega)]
  ·simp only [Int.toNat_natCast];rw [Xy,Xb,Qe5,Nat.min_eq_right (by omega)]
 rw [p];have hT:Q2 X.TT ((pos Se s (s.length-1):Nat):Int)=some [Q5 (fLV Se s X (s.length-1))]:=by
  rw [Qp];show (arr X.T (X.N+1))[pos Se s (s.length-1)]? = _;rw [Vu (by omega)];unfold fLV;rw [Qec (by omega),hN]
 have hl:fLV Se s X (s.length-1)=X.T X.N:=by unfold fLV;rw [Qec (by omega)]
 have a:YD (((arr (fLV Se s X) (s.length-1)).length+List.length [[D.int .i64 (fLV Se s X (s.length-1))]])*8)=some ():=XR (by simp only [Yk,Qek,Qej];omega);simp -implicitDefEqProofs only [hT,Q0,Qe4,Q1,a,TB];rw [hl,upA an.1 (by omega),Q0,show s.length-1+1=s.length by omega];rfl
theorem Qbr:KU 400 St Pt Se Li s 0 nm tl sp ac br Tu4=some (arr (fEN Se s (YR Se s nm tl sp ac br)) s.length,arr (fLV Se s (YR Se s nm tl sp ac br)) s.length,Ao (YR Se s nm tl sp ac br),0):=by
 have l2:=h.l2;have l24:=h.l24;have ht:=tEq h (nm:=nm) hk;have t1:=hk.t1;have hX:=Sx h (nm:=nm) hk;have au:=hX.hN;have ar:=hX.hC.len;have aq:=Q8c h (nm:=nm) hk;have ak:=fun (j:Nat) (hj:j<s.length)=>Q8O h (nm:=nm) hk hj
 have an:=Cv h (nm:=nm) hk (Qeg _);have hN:(YR Se s nm tl sp ac br).N=pos Se s (s.length-1):=rfl;unfold KU;rw [Q5G h hk,Q0,Q8 (by rfl),Q5q h,Q0,Ey h,aq,Q0];revert hX au ar ak an hN ht;generalize YR Se s nm tl sp ac br=X;intro ht hX au ar ak an hN;have am:X.TT.length=X.N+1:=Yk;have hw:wJ (((s.length:Nat):Int)-0)=((s.length:Nat):Int):=by rw [Qf (by omega) (by omega)];omega
 have p:∀ k0:Int->Int->Bool->LL->LL->Option (LL × LL × Int × Int),YO 400 X.TT Se s 0 tl k0 400 0 0 [] []=k0 ((pos Se s (s.length-1):Nat):Int) ((s.length:Nat):Int) false (arr (fEN Se s X) s.length) (arr (fLV Se s X) s.length):=by
  intro k0;refine QR (r:=fun m i=>YO 400 X.TT Se s 0 tl k0 m ((pos Se s (i.toNat-1):Nat):Int) i (arr (fEN Se s X) i.toNat) (arr (fLV Se s X) i.toNat)) (N:=s.length) (fun m i hi=>?_) (fun m=>?_) s.length 400 0 (by omega) (by omega)
  ·simp only [Int.toNat_natCast];obtain ⟨x,d,a9,b,c,st,e,q,a0,a1,hd⟩:=LE h.st hi;have hp:=ak (i-1) (by omega);have t:=ak i hi;have hT:Q2 X.TT ((pos Se s (i-1):Nat):Int)=some [Q5 (fEN Se s X i)]:=by rw [Qp];exact Vu (by omega)
   have hr:YD (((arr (fEN Se s X) i).length+List.length [[D.int .i64 (fEN Se s X i)]])*8)=some ():=XR (by simp only [Yk,Qek,Qej];omega);have a:YD (((arr (fLV Se s X) i).length+List.length [[D.int .i64 (fLV Se s X i)]])*8)=some ():=XR (by simp only [Yk,Qek,Qej];omega);have aw:Q2 X.TT (if ((X.N:Nat):Int)<((pos Se s i+X.t:Nat):Int) then ((X.N:Nat):Int) else ((pos Se s i+X.t:Nat):Int))=some [Q5 (fLV Se s X i)]:=by
    unfold fLV;by_cases ao:i<s.length-1
    ·have:=t.2 ao;rw [Qec (by omega),if_pos ao,Qp];exact Vu (by omega)
    ·have e:i=s.length-1:=by omega
     rw [if_pos (by rw [hN,e];omega),Qec ao,Qp];exact Vu (by omega)
   rw [YO,hw,Qk hi,cond_true,am,wI (show ((X.N+1:Nat):Int)-1=((X.N:Nat):Int) by omega) (by omega) (by omega)];simp -implicitDefEqProofs only [Q0,Qe4,Qe6,Q1,hT,hr,TB,wI (show (i:Int)+1=((i+1:Nat):Int) by omega) (by omega) (by omega)];by_cases u:i=0
   ·subst u;rw [show decide (((0:Nat):Int)>0)=false from rfl,Qe5,wI (show ((pos Se s (0-1):Nat):Int)+tl=((pos Se s 0+X.t:Nat):Int) by rw [<- ht,show 0-1=0 from rfl];omega) (by omega) (by omega),aw];simp -implicitDefEqProofs only [Q0,Qe4,Q1,a,TB]
   ·have a7:pos Se s i=pos Se s (i-1)+sl Se s i:=by
     obtain ⟨k,rfl⟩:∃ k,i=k+1:=⟨i-1,by omega⟩;rfl
    rw [show decide ((i:Int)>0)=true by simp;omega,cond_true,Qp,e];simp -implicitDefEqProofs only [Q0,Qe4,Qe6,Q1,q,wI (show ((pos Se s (i-1):Nat):Int)+((sl Se s i:Nat):Int)=((pos Se s i:Nat):Int) by omega) (by omega) (by omega),wI (show ((pos Se s i:Nat):Int)+tl=((pos Se s i+X.t:Nat):Int) by omega) (by omega) (by omega),aw,a,TB,Qef]
  ·simp only [Int.toNat_natCast];rw [YO,hw,Xb,Qe5]
 have hT:Q2 X.TT ((X.N:Nat):Int)=some [Q5 (X.T X.N)]:=by rw [Qp];exact Vu (by omega)
 rw [p,am,wI (show ((X.N+1:Nat):Int)-1=((X.N:Nat):Int) by omega) (by omega) (by omega)];simp -implicitDefEqProofs only [hT,Q0,Qe4,Q1,Q87 (n:=400) an.1 (show (1:Int)<=1000 by decide) (by omega)];rfl
end

abbrev Occ:=Int × Int × Int
def enc (q:Occ):List D:=[Q5 q.1,Q5 q.2.1,Q5 q.2.2]
def HC (q:Occ):Bool:=decide (q.2.1<q.2.2)
def LJ (T:List Occ) (r:Nat) (f t:Int):List Occ:=match T[r]? with
 |some (_,a,b)=>if a<b then T.set r ((r:Int),(if a<f then a else f),(if t<b then b else t)) else T.set r ((r:Int),f,t)
 |none=>T
theorem SA {T:List Occ} {r:Nat} {f t:Int}:(LJ T r f t).length=T.length:=by
 unfold LJ;split
 ·split <;> simp
 ·rfl
theorem Qam {n:Nat} {T:List Occ} {r:Nat} {f t:Int} (h:r<T.length):QU n (T.map enc) (r:Int) f t (some:LL->Option LL)=some ((LJ T r f t).map enc):=by
 obtain ⟨⟨x,a,b⟩,e⟩:∃ q,T[r]? = some q:=⟨T[r],Qe9 h⟩;have e2:(T.map enc)[r]? = some [Q5 x,Q5 a,Q5 b]:=by rw [Qei,e];rfl
 unfold QU;rw [Qea,ZG (by omega) (by omega)];simp -implicitDefEqProofs only [Q0,Qe4,Qe6,Q1,Xj,X6,cond_true,Qe5,Qed,Qee,Int.toNat_natCast,e2,List.set_cons_zero,List.set_cons_succ];unfold LJ;simp only [e];by_cases ak:a<b
 ·rw [show decide (a<b)=true by simpa using ak,cond_true,if_pos ak,List.map_set];rfl
 ·rw [show decide (a<b)=false by simpa using ak,Qe5,Qec ak,List.map_set];rfl
theorem Qc5 {n:Nat} {T:List Occ} {r:Nat} {f t:Int} (h:r<T.length) (am:f<t):Yj n (T.map fun q=>[D.bool (HC q)]) (T.map enc) (r:Int) f t Tu2=some ((LJ T r f t).map (fun q=>[D.bool (HC q)]),(LJ T r f t).map enc):=by
 obtain ⟨⟨x,a,b⟩,e⟩:∃ q,T[r]? = some q:=⟨T[r],Qe9 h⟩;have e2:(T.map enc)[r]? = some [Q5 x,Q5 a,Q5 b]:=by rw [Qei,e];rfl
 have g:(T.map fun q=>[D.bool (HC q)])[r]? = some [D.bool (decide (a<b))]:=by rw [Qei,e];rfl
 unfold Yj;rw [Qea,Qea,ZG (by omega) (by omega)];simp -implicitDefEqProofs only [Q0,Qe4,Qe6,Q1,Xj,X6,cond_true,Qe5,Qed,Qee,Int.toNat_natCast,e2,g,Q1R,List.set_cons_zero,List.set_cons_succ];unfold LJ;simp only [e];by_cases ak:a<b
 ·rw [show decide (a<b)=true by simpa using ak,cond_true,if_pos ak,List.map_set,List.map_set,show HC ((r:Int),(if a<f then a else f),(if t<b then b else t))=true by simp only [HC,decide_eq_true_eq];split <;> split <;> omega];rfl
 ·rw [show decide (a<b)=false by simpa using ak,Qe5,Qec ak,List.map_set,List.map_set,show HC ((r:Int),f,t)=true by simpa [HC] using am];rfl
theorem Q0F:∀ {l:List Occ} {i:Nat} {a:Occ},((l.set i a).filter HC).length<=(l.filter HC).length+1
 |[],i,a=>by simp
 |x::l,0,a=>by
  rw [List.set_cons_zero,Qeq,Qeq];split <;> split <;> simp <;> omega
 |x::l,i+1,a=>by
  have:=Q0F (l:=l) (i:=i) (a:=a);rw [List.set_cons_succ,Qeq,Qeq];split <;> simp <;> omega
theorem Ah {T:List Occ} {r:Nat} {f t:Int}:((LJ T r f t).filter HC).length<=(T.filter HC).length+1:=by
 unfold LJ;split
 ·split <;> exact Q0F
 ·omega
theorem QbZ {T:List Occ} (hl:T.length<=300):U9 400 (T.map enc) (some:LL->Option LL)=some ((T.filter HC).map enc):=by
 unfold U9;rw [Qea];refine QR (r:=fun m i=>XA 400 (T.map enc) ((T.length:Nat):Int) (fun _ _ w=>some w) m i (((T.take i.toNat).filter HC).map enc)) (N:=T.length) (fun m k hk=>?_) (fun m=>?_) T.length 400 0 (by omega) (by omega)
 ·simp only [Int.toNat_natCast];obtain ⟨⟨x,a,b⟩,e⟩:∃ q,T[k]? = some q:=⟨T[k],Qe9 hk⟩;have am:((((T.take k).filter HC).map enc).length)<=300:=by
   rw [Qea];have:=List.length_filter_le HC (T.take k);rw [List.length_take] at this;omega
  rw [XA,Qk hk,Qp,Qei,e,Uc e,List.filter_append,Qeh];simp -implicitDefEqProofs only [Q0,Qe4,Qe6,Q1,Xj,X6,cond_true,Qe5,Qed,Qee,Option.map_some,enc,Xa (show k<=1000 by omega)];by_cases ak:a<b
  ·rw [show decide (a<b)=true by simpa using ak,cond_true,show [(x,a,b)].filter HC=[(x,a,b)] by simp [HC,ak],XR (by simp only [Qek,Qej];omega)];rfl
  ·rw [show decide (a<b)=false by simpa using ak,Qe5,show [(x,a,b)].filter HC=[] by simp [HC,ak],List.map_nil,List.append_nil]
 ·simp only [Int.toNat_natCast];rw [XA,Xb,Qe5,List.take_length]
theorem Qbm {R:Type} {T:List Occ} (hl:T.length<=300) (K:LL->oP R):WT 400 ((T.length:Nat):Int) (T.map fun q=>[D.bool (HC q)]) (T.map enc) (fun _ _ w=>K w) 400 0 []=K ((T.filter HC).map enc):=by
 refine QR (r:=fun m i=>WT 400 ((T.length:Nat):Int) (T.map fun q=>[D.bool (HC q)]) (T.map enc) (fun _ _ w=>K w) m i (((T.take i.toNat).filter HC).map enc)) (N:=T.length) (fun m k hk=>?_) (fun m=>?_) T.length 400 0 (by omega) (by omega)
 ·simp only [Int.toNat_natCast];obtain ⟨⟨x,a,b⟩,e⟩:∃ q,T[k]? = some q:=⟨T[k],Qe9 hk⟩;have am:((((T.take k).filter HC).map enc).length)<=300:=by
   rw [Qea];have:=List.length_filter_le HC (T.take k);rw [List.length_take] at this;omega
  rw [WT,Qk hk,Qea,Qea,ZG (by omega) (by omega),Int.toNat_natCast,Qei,Qei,e,Uc e,List.filter_append,Qeh];simp -implicitDefEqProofs only [Q0,Qe4,Qe6,Q1,Xj,X6,cond_true,Qe5,Qed,Qee,Option.map_some,enc,show HC (x,a,b)=decide (a<b) from rfl,Q1R,Xa (show k<=1000 by omega)];by_cases ak:a<b
  ·rw [show decide (a<b)=true by simpa using ak,cond_true,show [(x,a,b)].filter HC=[(x,a,b)] by simp [HC,ak],XR (by simp only [Qek,Qej];omega)];rfl
  ·rw [show decide (a<b)=false by simpa using ak,Qe5,show [(x,a,b)].filter HC=[] by simp [HC,ak],List.map_nil,List.append_nil]
 ·simp only [Int.toNat_natCast];rw [WT,Xb,Qe5,List.take_length]

def pt (Li s:LL) (i:Nat):Int:=pv (Q9g Li (s.getD (i-1) []) (s.getD i []))
def sec (s:LL) (i:Nat):Nat:=match s.getD i [] with
 |.int _ x::_=>x.toNat
 |_=>0
def fr (Se s:LL) (X:Run) (bf:Int) (i:Nat):Int:=if i=0 then -bf else fEN Se s X (i-1) / 1000-16
def tu (Se s:LL) (X:Run) (af:Int) (i:Nat):Int:=if i<s.length-1 then cd (fLV Se s X i) 1000+4 else Ao X+af
def SN (N NP:Nat) (Li s:LL) (f g:Nat->Int):Nat->List Occ
 |0=>List.replicate (N+NP) (0,0,0)
 |i+1=>if i=0 then LJ (SN N NP Li s f g i) (sec s i) (f i) (g i) else if pt Li s i<0 then LJ (SN N NP Li s f g i) (sec s i) (f i) (g i) else LJ (LJ (SN N NP Li s f g i) (sec s i) (f i) (g i)) (N+(pt Li s i).toNat) (f i) (g (i-1))
theorem KE {N NP:Nat} {Li s:LL} {f g:Nat->Int}:∀ {i:Nat},(SN N NP Li s f g i).length=N+NP
 |0=>by simp [SN]
 |i+1=>by
  rw [SN];split
  ·rw [SA,KE]
  ·split <;> simp only [SA,KE]
theorem Bs {N NP:Nat} {Li s:LL} {f g:Nat->Int} {j:Nat}:SN N NP Li s f g (j+1+1)=if pt Li s (j+1)<0 then LJ (SN N NP Li s f g (j+1)) (sec s (j+1)) (f (j+1)) (g (j+1)) else LJ (LJ (SN N NP Li s f g (j+1)) (sec s (j+1)) (f (j+1)) (g (j+1))) (N+(pt Li s (j+1)).toNat) (f (j+1)) (g j):=by
 show (if j+1=0 then _ else _)=_;rw [Qec (by omega)];rfl
def Q45 (St Pt Se Li s:LL) (X:Run) (bf af:Int):List Occ:=(SN Se.length Pt.length Li s (fr Se s X bf) (tu Se s X af) s.length).filter HC
section
variable {N NP:Nat} {Li:LL}
theorem Q22:∀ {s:LL} {k:Nat},DY N NP Li k s=true->∀ i,i+1<s.length->∃ p,Q9g Li (s.getD i []) (s.getD (i+1) [])=some p/\ptR [] [] (List.replicate N []) Li (s.getD i []) (s.getD (i+1) [])=some p /\ -1<=p/\p<NP
 |[],_,_,i,hi=>by simp at hi
 |[_],_,_,i,hi=>by simp at hi
 |r::r'::t,k,h,i,hi=>by
  rw [DY] at h;split at h
  ·rename_i p q e1 e2;simp only [Bool.and_eq_true,beq_iff_eq,decide_eq_true_eq] at h;obtain ⟨rfl,a,h2,b⟩:=h;cases i with
   |zero=>exact ⟨p,e1,e2,a,h2⟩
   |succ i=>exact Q22 b i (by simpa using hi)
  ·cases h
theorem Q3y:∀ {s:LL} {k:Nat},DY N NP Li k s=true->∀ (c:Nat->Nat),(∀ i,c (i+1)<=c i+(if pt Li s (i+1)<0 then 1 else 2))->c 0<=k->∀ i,i<s.length->c i<=5
 |[],_,_,_,_,_,i,hi=>by simp at hi
 |[r],k,h,c,hc,f,i,hi=>by
  have:i=0:=by simpa using hi
  subst this;have:k<=5:=Qep h;omega
 |r::r'::t,k,h,c,hc,f,i,hi=>by
  rw [DY] at h;split at h
  ·rename_i p q e1 e2;simp only [Bool.and_eq_true,beq_iff_eq,decide_eq_true_eq] at h;obtain ⟨rfl,j,h2,e⟩:=h;have hp:pt Li (r::r'::t) 1=p:=by show pv (Q9g Li r r')=p;rw [e1];rfl
   have d:c 1<=c 0+(if pt Li (r::r'::t) 1<0 then 1 else 2):=hc 0;rw [hp] at d;have g:c 1<=(bif decide (p<0) then k+1 else k+2):=by
    by_cases hq:p<0
    ·rw [if_pos hq] at d;rw [show decide (p<0)=true by simpa using hq,cond_true];omega
    ·rw [Qec hq] at d;rw [show decide (p<0)=false by simpa using hq,Qe5];omega
   have ih:=Q3y e (fun i=>c (i+1)) (fun i=>hc (i+1)) g;cases i with
   |zero=>
    have:=ih 0 (by simp);have hq:c 0<=5:=by
     have ak:∀ {s:LL} {k:Nat},DY N NP Li k s=true->k<=5:=by
      intro s;induction s with
      |nil=>exact fun h=>Qep h
      |cons a s ih=>
       intro k h;cases s with
       |nil=>exact Qep h
       |cons b s=>
        rw [DY] at h;split at h
        ·simp only [Bool.and_eq_true] at h;have:=ih h.2.2.2;revert this;cases decide (_<(0:Int)) <;> simp <;> omega
        ·cases h
     have:=ak e;revert this;cases decide (p<0) <;> simp <;> omega
    exact hq
   |succ i=>exact ih i (by simpa using hi)
  ·cases h
end

theorem Sw {α:Type} {l:List α} {n:Nat} (h:l.length=n):Ku l n=some ():=by
 subst h;unfold Ku;rw [show Nat.beq l.length l.length=true from Nat.beq_refl _];rfl
def spn (f g:Nat->Int) (n:Nat):LL:=(List.range n).map fun i=>[Q5 0,Q5 (f i),Q5 (g i)]
theorem Q4V {f g:Nat->Int} {n:Nat}:(spn f g n).length=n:=by simp [spn]
theorem QaC {f g:Nat->Int} {n i:Nat} (h:i<n):(spn f g n)[i]? = some [Q5 0,Q5 (f i),Q5 (g i)]:=by simp [spn,h]
theorem Q2Y {f g:Nat->Int} {n:Nat}:spn f g n++[[Q5 0,Q5 (f n),Q5 (g n)]]=spn f g (n+1):=by simp [spn,List.range_succ]
theorem BK {St Pt Se Li:LL} (h:H5 400 St Pt Se Li=true):Pt.length<=48/\Se.length<=96:=by
 unfold H5 at h;simp only [Bool.and_eq_true] at h;exact ⟨Qep h.1.1.1.1.1.1.1.2,Qep h.1.1.1.1.1.1.2⟩
theorem Q6n {l:List Occ}:NK [l.map enc]=some ():=by
 unfold NK;rw [show ([l.map enc].all EK)=true by simp [EK,enc,Q0A]];rfl
section
variable {St Pt Se Li s:LL} (h:RtF St Pt Se Li s) {nm:List UInt8} {tl sp ac br bf af:Int} (hk:StkN tl sp ac br) (hb0:0<=bf) (hb1:bf<=65536) (ha0:0<=af) (ha1:af<=65536)
include h hk
theorem Q3M {i j:Nat} (am:i<=j) (hj:j<s.length):0<=fEN Se s (YR Se s nm tl sp ac br) i/\fEN Se s (YR Se s nm tl sp ac br) i<=fLV Se s (YR Se s nm tl sp ac br) j/\fLV Se s (YR Se s nm tl sp ac br) j<=7000000:=by
 have hX:=Sx h (nm:=nm) hk;have a:=Q8O h (nm:=nm) hk hj;have h2:=Q5e (Se:=Se) (s:=s) (i:=i-1) (j:=j) (by omega);have c:=Cv h (nm:=nm) hk (b:=pos Se s (i-1)) (by omega);unfold fEN fLV;by_cases hm:j<s.length-1
 ·rw [if_pos hm];exact ⟨c.1,Run.T_mono hX (by omega) (a.2 hm),(Cv h (nm:=nm) hk (a.2 hm)).2⟩
 ·rw [Qec hm];exact ⟨c.1,Run.T_mono hX (by omega) (Qeg _),(Cv h (nm:=nm) hk (Qeg _)).2⟩
include hb0 hb1 ha0 ha1
theorem Qco {i:Nat} (hi:i<s.length) : -70000<=fr Se s (YR Se s nm tl sp ac br) bf i/\fr Se s (YR Se s nm tl sp ac br) bf i<tu Se s (YR Se s nm tl sp ac br) af i/\tu Se s (YR Se s nm tl sp ac br) af i<=80000/\(1<=i->fr Se s (YR Se s nm tl sp ac br) bf i<tu Se s (YR Se s nm tl sp ac br) af (i-1)):=by
 have l2:=h.l2;have hr:=N7 h (nm:=nm) hk;have hN:=Q3M h (nm:=nm) hk (i:=i-1) (j:=s.length-1) (by omega) (by omega);have c:=Q3M h (nm:=nm) hk (i:=i-1) (j:=i) (by omega) hi;have d:=Q3M h (nm:=nm) hk (i:=i-1) (j:=i-1) (by omega) (by omega);have c1:=CI (a:=fLV Se s (YR Se s nm tl sp ac br) i) (by omega) (show (1:Int)<=1000 by decide);have c0:=CI (a:=fLV Se s (YR Se s nm tl sp ac br) (i-1)) (by omega) (show (1:Int)<=1000 by decide);have hl:fLV Se s (YR Se s nm tl sp ac br) (s.length-1)=(YR Se s nm tl sp ac br).T (YR Se s nm tl sp ac br).N:=by unfold fLV;rw [Qec (by omega)]
 have cN:=CI (a:=fLV Se s (YR Se s nm tl sp ac br) (s.length-1)) (by omega) (show (1:Int)<=1000 by decide);have am:Ao (YR Se s nm tl sp ac br)=cd (fLV Se s (YR Se s nm tl sp ac br) (s.length-1)) 1000:=by rw [hl];rfl
 unfold fr tu;by_cases b:i=0
 ·rw [if_pos b,if_pos (show i<s.length-1 by omega)];exact ⟨by omega,by omega,by omega,fun h=>by omega⟩
 ·rw [Qec b,if_pos (show i-1<s.length-1 by omega)];by_cases ak:i<s.length-1
  ·rw [if_pos ak];exact ⟨by omega,by omega,by omega,fun _=>by omega⟩
  ·rw [Qec ak];exact ⟨by omega,by omega,by omega,fun _=>by omega⟩
theorem QbK:Wk 400 St Pt Se Li s 0 nm tl sp ac br bf af Tu3=some ((Q45 St Pt Se Li s (YR Se s nm tl sp ac br) bf af).map enc,Ao (YR Se s nm tl sp ac br),0):=by
 have l2:=h.l2;have l24:=h.l24;have a9:=N7 h (nm:=nm) hk;have an:=fun i j (bg:i<=j) (hj:j<s.length)=>Q3M h (nm:=nm) hk (i:=i) (j:=j) bg hj
 have aq:=fun i (hi:i<s.length)=>Qco h (nm:=nm) hk hb0 hb1 ha0 ha1 hi
 have bk:=Q9C h (nm:=nm) hk;have bq:=BK h.lay;unfold Wk;rw [Qaw h.lay rfl h.l2 h.l24 h.rt h.st hk,Q0,Q8 (by rfl),show decide (bf<0)=false by simpa using hb0,show decide (bf>65536)=false by simpa using hb1,show decide (af<0)=false by simpa using ha0,show decide (af>65536)=false by simpa using ha1];simp -implicitDefEqProofs only [Qe5];unfold UU;rw [bk];revert a9 an aq;generalize YR Se s nm tl sp ac br=X;intro a9 an aq;have z:wJ (((s.length:Nat):Int)-1)=((s.length-1:Nat):Int):=Vi (by omega) (by omega);have aa:wJ (((s.length-1:Nat):Int)-1)=((s.length-1-1:Nat):Int):=Vi (by omega) (by omega);have ax:∀ i,i<s.length->Q2 (arr (fEN Se s X) s.length) (i:Int)=some [Q5 (fEN Se s X i)]:=fun i hi=>by rw [Qp];exact Vu hi
 have a6:∀ i,i<s.length->Q2 (arr (fLV Se s X) s.length) (i:Int)=some [Q5 (fLV Se s X i)]:=fun i hi=>by rw [Qp];exact Vu hi
 have aw:∀ i,i<s.length->U2 400 (fEN Se s X i) (some:Int->Option Int)=some (fEN Se s X i / 1000):=fun i hi=>Qbb (an i i (Qeg i) hi).1 (by have:=an i i (Qeg i) hi;omega)
 have a8:∀ i,i<s.length->Vg 400 (fLV Se s X i) (some:Int->Option Int)=some (cd (fLV Se s X i) 1000):=fun i hi=>upA (by have:=an i i (Qeg i) hi;omega) (by have:=an i i (Qeg i) hi;omega)
 have ao:∀ (k:Nat) (r:List D),k<=30->YD (((spn (fr Se s X bf) (tu Se s X af) k).length+[r].length)*24)=some ():=fun k r hk=>XR (by simp only [Q4V,Qek,Qej];omega)
 have f0:fr Se s X bf 0 = -bf:=rfl;have t0:tu Se s X af 0=cd (fLV Se s X 0) 1000+4:=by unfold tu;rw [if_pos (by omega)]
 have q0:=aq 0 (by omega);rw [Q0,Q8 (by rfl)];dsimp only;rw [show (0:Int)=((0:Nat):Int) from rfl,a6 0 (by omega)];simp -implicitDefEqProofs only [Q0,Qe4,Q1,a8 0 (by omega),Yk,z];have ab:∀ k0:Int->Bool->LL->Option (LL × Int × Int),Xs 400 (arr (fEN Se s X) s.length) (arr (fLV Se s X) s.length) ((s.length-1:Nat):Int) k0 400 1 (spn (fr Se s X bf) (tu Se s X af) 1)=k0 ((s.length-1:Nat):Int) false (spn (fr Se s X bf) (tu Se s X af) (s.length-1)):=by
  intro k0;refine QR (r:=fun m i=>Xs 400 (arr (fEN Se s X) s.length) (arr (fLV Se s X) s.length) ((s.length-1:Nat):Int) k0 m ((i.toNat+1:Nat):Int) (spn (fr Se s X bf) (tu Se s X af) (i.toNat+1))) (N:=s.length-1-1) (fun m i hi=>?_) (fun m=>?_) (s.length-1-1) 400 0 (by omega) (by omega)
  ·simp only [Int.toNat_natCast];have hf:fr Se s X bf (i+1)=fEN Se s X i / 1000-16:=by unfold fr;rw [Qec (by omega)];rfl
   have ht:tu Se s X af (i+1)=cd (fLV Se s X (i+1)) 1000+4:=by unfold tu;rw [if_pos (by omega)]
   have q:=aq (i+1) (by omega);rw [Xs,Qk (show i+1<s.length-1 by omega),cond_true,Vi (show i+1<=1000 by omega) (by omega),Qef,ax i (by omega)];simp -implicitDefEqProofs only [Q0,Qe4,Q1,aw i (by omega),a6 (i+1) (by omega),a8 (i+1) (by omega),wI hf.symm (by omega) (by omega),wI ht.symm (by omega) (by omega),ao (i+1) _ (by omega),Q2Y,Xa (show i+1<=1000 by omega)]
  ·simp only [Int.toNat_natCast];rw [show s.length-1-1+1=s.length-1 by omega,Xs,Xb,Qe5]
 rw [show ([[D.int .i64 ((0:Nat):Int),D.int .i64 (wJ (((0:Nat):Int)-bf)),D.int .i64 (wJ (cd (fLV Se s X 0) 1000+4))]]:LL)=spn (fr Se s X bf) (tu Se s X af) 1 by
  rw [wI (show ((0:Nat):Int)-bf=fr Se s X bf 0 by omega) (by omega) (by omega),wI t0.symm (by omega) (by omega)];rfl,ab]
 have bi:fr Se s X bf (s.length-1)=fEN Se s X (s.length-1-1) / 1000-16:=by unfold fr;rw [Qec (by omega)]
 have bl:tu Se s X af (s.length-1)=Ao X+af:=by unfold tu;rw [Qec (by omega)]
 have qm:=aq (s.length-1) (by omega);have bc:UI 400 St Pt Se Li (some:LL->Option LL)=some ((SN Se.length Pt.length Li s (fr Se s X bf) (tu Se s X af) 0).map enc):=by
  unfold UI;rw [wI (show ((Se.length:Nat):Int)+((Pt.length:Nat):Int)=((Se.length+Pt.length:Nat):Int) by omega) (by omega) (by omega),show (bif decide ((0:Int)<=((Se.length+Pt.length:Nat):Int))&&decide (((Se.length+Pt.length:Nat):Int)<=((Se.length+Pt.length:Nat):Int)) then some () else none)=some () by rw [QJ (by simp;omega)],Q0,Int.toNat_natCast,XR (by omega),Q0,SN,List.map_replicate];rfl
 rw [aa,ax (s.length-1-1) (by omega)];simp -implicitDefEqProofs only [Q0,Qe4,Q1,aw (s.length-1-1) (by omega),aw (s.length-1) (by omega),ax (s.length-1) (by omega),bc,show ((0:Nat):Int)=0 from rfl,wI bi.symm (by omega) (by omega),wI bl.symm (by omega) (by omega),ao (s.length-1) _ (by omega),Q2Y];rw [show s.length-1+1=s.length by omega];have ad:∀ k0:Int->Bool->LL->LL->Option (LL × Int × Int),Qh 400 ((s.length-1:Nat):Int) s ((s.length:Nat):Int) St Pt Se Li s (wJ (fEN Se s X (s.length-1) / 1000-16)) (wJ (Ao X+20)) k0 400 0 (spn (fr Se s X bf) (tu Se s X af) s.length) ((SN Se.length Pt.length Li s (fr Se s X bf) (tu Se s X af) 0).map enc)=k0 ((s.length:Nat):Int) false (spn (fr Se s X bf) (tu Se s X af) s.length) ((SN Se.length Pt.length Li s (fr Se s X bf) (tu Se s X af) s.length).map enc):=by
  intro k0;refine QR (r:=fun m i=>Qh 400 ((s.length-1:Nat):Int) s ((s.length:Nat):Int) St Pt Se Li s (wJ (fEN Se s X (s.length-1) / 1000-16)) (wJ (Ao X+20)) k0 m i (spn (fr Se s X bf) (tu Se s X af) s.length) ((SN Se.length Pt.length Li s (fr Se s X bf) (tu Se s X af) i.toNat).map enc)) (N:=s.length) (fun m i hi=>?_) (fun m=>?_) s.length 400 0 (by omega) (by omega)
  ·simp only [Int.toNat_natCast];obtain ⟨x,d,bp,b,c,st,e,h1,a0,a1,hd⟩:=LE h.st hi;have hx:=Tn h1;have aj:0<=x/\x<Se.length:=by
    have h2:=hx.1;unfold inB at h2;by_cases hc:0<=x/\x<Se.length
    ·exact hc
    ·rw [show (decide (0<=x)&&decide (x<(Se.length:Int)))=false by simp;omega] at h2;cases h2
   have au:x=((sec s i:Nat):Int):=by
    unfold sec;rw [Qeb,e];show x=((x.toNat:Nat):Int);omega
   have hT:=KE (N:=Se.length) (NP:=Pt.length) (Li:=Li) (s:=s) (f:=fr Se s X bf) (g:=tu Se s X af) (i:=i);have ha:=Qam (n:=400) (T:=SN Se.length Pt.length Li s (fr Se s X bf) (tu Se s X af) i) (r:=sec s i) (f:=fr Se s X bf i) (t:=tu Se s X af i) (by omega);have a7:∀ j,j<s.length->(spn (fr Se s X bf) (tu Se s X af) s.length)[j]? = some [Q5 0,Q5 (fr Se s X bf j),Q5 (tu Se s X af j)]:=fun j hj=>QaC hj
   rw [Qh,Qk hi,Qp,e];simp -implicitDefEqProofs only [cond_true,Q0,Qe4,Qe6,show decide ((i:Int)>((s.length-1:Nat):Int))=false by simp;omega,Qe5,Q1,Q4V,ZG (len:=s.length) (show (0:Int)<=(i:Int) by omega) (show (i:Int)<(s.length:Int) by omega),Int.toNat_natCast,a7 i hi,au,ha,Xa (show i<=1000 by omega),Sw (l:=(LJ (SN Se.length Pt.length Li s (fr Se s X bf) (tu Se s X af) i) (sec s i) (fr Se s X bf i) (tu Se s X af i)).map enc) (n:=((SN Se.length Pt.length Li s (fr Se s X bf) (tu Se s X af) i).map enc).length) (by simp only [Qea,SA])];by_cases ag:i=0
   ·subst ag;rw [show (((0:Nat):Int) == 0)=true from rfl,cond_true];rfl
   ·obtain ⟨j,rfl⟩:∃ j,i=j+1:=⟨i-1,by omega⟩;obtain ⟨x',d',bn,b',c',st',e',bm,_,_,bd⟩:=LE h.st (j:=j) (by omega);obtain ⟨p,a,ak,al,am⟩:=Q22 h.hops j hi;rw [Qeb,Qeb,e,e',Qel,Qel] at a;have bj:=Tn bm;have ar:0<=x'/\x'<Se.length:=by
     have h2:=bj.1;unfold inB at h2;by_cases hc:0<=x'/\x'<Se.length
     ·exact hc
     ·rw [show (decide (0<=x')&&decide (x'<(Se.length:Int)))=false by simp;omega] at h2;cases h2
    have bh:pt Li s (j+1)=p:=by
     unfold pt;rw [Qeb,Qeb,e,Qef,e',Qel,Qel,a];rfl
    have ay:=(Q7Z h.lay ar.1 ar.2 bd (y:=x) (e:=d)).trans a;rw [au] at ay;rw [show (((j+1:Nat):Int) == 0)=false by simp;omega,Qe5,Vi (show j+1<=1000 by omega) (by omega),Qef,Qp,e'];simp -implicitDefEqProofs only [Q0,Qe4,Qe6,Q1,ay];rw [Bs,bh];by_cases hp:p<0
    ·rw [show decide (p<0)=true by simpa using hp,cond_true,if_pos hp]
    ·have ah:=Qam (n:=400) (T:=LJ (SN Se.length Pt.length Li s (fr Se s X bf) (tu Se s X af) (j+1)) (sec s (j+1)) (fr Se s X bf (j+1)) (tu Se s X af (j+1))) (r:=Se.length+p.toNat) (f:=fr Se s X bf (j+1)) (t:=tu Se s X af j) (by rw [SA];omega);rw [show decide (p<0)=false by simpa using hp,Qe5,Qec hp,show decide (((j+1:Nat):Int)<=((s.length-1:Nat):Int))=true by simp;omega,cond_true];simp -implicitDefEqProofs only [ZG (len:=s.length) (show (0:Int)<=(j:Int) by omega) (show (j:Int)<(s.length:Int) by omega),Q0,Qe4,Qe6,Q1,a7 j (by omega),wI (show ((Se.length:Nat):Int)+p=((Se.length+p.toNat:Nat):Int) by omega) (by omega) (by omega),Int.toNat_natCast,ah,Qef];rw [Sw (by simp only [Qea,SA]),Q0]
  ·simp only [Int.toNat_natCast];rw [Qh,Xb,Qe5]
 rw [ad,QbZ (by rw [KE];omega),Q0,Q6n,Q0];rfl
end

theorem QaE {St Pt Se Li L:LL} {x d y e p:Int} (h:ptR [] [] L Li [Q5 x,Q5 d] [Q5 y,Q5 e]=some p):∃ a b c,Vh 400 St Pt Se Li x d y e Tu5=some (a,b,Q5 p,c,true):=by
 rw [Qcm (a':=[]) (b':=[]) (L':=L)];unfold ptR at h;dsimp only at h;split at h
 ·rename_i he;cases h;exact ⟨_,_,_,he⟩
 ·cases h
def Q7M (T:List Occ):LL:=T.map fun q=>[D.bool (HC q)]
section
variable {St Pt Se Li s:LL} (h:RtF St Pt Se Li s) {nm:List UInt8} {tl sp ac br bf af:Int} (hk:StkN tl sp ac br) (hb0:0<=bf) (hb1:bf<=65536) (ha0:0<=af) (ha1:af<=65536)
include h hk hb0 hb1 ha0 ha1
theorem Qbk:Gg 400 St Pt Se Li s 0 nm tl sp ac br bf af Tu3=some ((Q45 St Pt Se Li s (YR Se s nm tl sp ac br) bf af).map enc,Ao (YR Se s nm tl sp ac br),0):=by
 have l2:=h.l2;have l24:=h.l24;have bi:=N7 h (nm:=nm) hk;have a6:=fun i j (bm:i<=j) (hj:j<s.length)=>Q3M h (nm:=nm) hk (i:=i) (j:=j) bm hj
 have a8:=fun i (hi:i<s.length)=>Qco h (nm:=nm) hk hb0 hb1 ha0 ha1 hi
 have bp:=Qbr h (nm:=nm) hk;have b9:=BK h.lay;unfold Gg;rw [Q5G h hk,Q0,Q8 (by rfl),Q1i hb0 hb1,Q0,Q1i ha0 ha1];simp -implicitDefEqProofs only [Q0,Qed,Qe5,Qee];rw [bp];revert bi a6 a8;generalize YR Se s nm tl sp ac br=X;intro bi a6 a8;have t:wJ (((s.length:Nat):Int)-1)=((s.length-1:Nat):Int):=Vi (by omega) (by omega);have bj:∀ i,i<s.length->Q2 (arr (fEN Se s X) s.length) (i:Int)=some [Q5 (fEN Se s X i)]:=fun i hi=>by rw [Qp];exact Vu hi
 have a9:∀ i,i<s.length->Q2 (arr (fLV Se s X) s.length) (i:Int)=some [Q5 (fLV Se s X i)]:=fun i hi=>by rw [Qp];exact Vu hi
 have bc:∀ i,i<s.length->Um 400 (fEN Se s X i) 1000 (some:Int->Option Int)=some (fEN Se s X i / 1000):=fun i hi=>QaA (a6 i i (Qeg i) hi).1 (by have:=a6 i i (Qeg i) hi;omega)
 have bh:∀ i,i<s.length->UY 400 (fLV Se s X i) 1000 (some:Int->Option Int)=some (cd (fLV Se s X i) 1000):=fun i hi=>Q87 (by have:=a6 i i (Qeg i) hi;omega) (by decide) (by have:=a6 i i (Qeg i) hi;omega)
 have bl:wJ (((Se.length:Nat):Int)+((Pt.length:Nat):Int))=((Se.length+Pt.length:Nat):Int):=wI (by omega) (by omega) (by omega);have hg:(bif decide ((0:Int)<=((Se.length+Pt.length:Nat):Int))&&decide (((Se.length+Pt.length:Nat):Int)<=((Se.length+Pt.length:Nat):Int)) then some () else none)=some ():=by rw [QJ (by simp;omega)]
 rw [Q0];dsimp only;simp -implicitDefEqProofs only [bl,hg,Q0,Int.toNat_natCast,XR (show (Se.length+Pt.length)*1<=100000 by omega),XR (show (Se.length+Pt.length)*24<=100000 by omega),Yk,t];let T:Nat->List Occ:=fun i=>SN Se.length Pt.length Li s (fr Se s X bf) (tu Se s X af) i
 have u:∀ k0:Int->Int->Bool->LL->LL->Option (LL × Int × Int),Zg 400 bf af (arr (fEN Se s X) s.length) (arr (fLV Se s X) s.length) (Ao X) ((s.length-1:Nat):Int) St Pt Se Li s k0 400 0 0 (Q7M (T 0)) ((T 0).map enc)=k0 (tu Se s X af (s.length-1)) ((s.length:Nat):Int) false (Q7M (T s.length)) ((T s.length).map enc):=by
  intro k0;refine QR (r:=fun m i=>Zg 400 bf af (arr (fEN Se s X) s.length) (arr (fLV Se s X) s.length) (Ao X) ((s.length-1:Nat):Int) St Pt Se Li s k0 m (if i.toNat=0 then 0 else tu Se s X af (i.toNat-1)) i (Q7M (T i.toNat)) ((T i.toNat).map enc)) (N:=s.length) (fun m i hi=>?_) (fun m=>?_) s.length 400 0 (by omega) (by omega)
  ·simp only [Int.toNat_natCast];obtain ⟨x,d,b2,b,c,st,e,v,a0,a1,hd⟩:=LE h.st hi;have hx:=Tn v;have ax:0<=x/\x<Se.length:=by
    have h2:=hx.1;unfold inB at h2;by_cases hc:0<=x/\x<Se.length
    ·exact hc
    ·rw [show (decide (0<=x)&&decide (x<(Se.length:Int)))=false by simp;omega] at h2;cases h2
   have a7:x=((sec s i:Nat):Int):=by
    unfold sec;rw [Qeb,e];show x=((x.toNat:Nat):Int);omega
   have hT:(T i).length=Se.length+Pt.length:=KE;have q:=a8 i hi;have ha:Yj 400 (Q7M (T i)) ((T i).map enc) ((sec s i:Nat):Int) (fr Se s X bf i) (tu Se s X af i) Tu2=_:=Qc5 (by omega) q.2.1;rw [Zg,Qk hi,cond_true];have hz:∀ (J:Int->Int->Option (LL × Int × Int)),jn J (fun j=>bif ((i:Int) == (0:Int)) then
      gb true (Q2 (arr (fLV Se s X) s.length) (0:Int)) [] fun y=>gb true (y[0]?) oF fun z=>gb true (pIw z) 0 fun aa=>gb true (UY 400 aa (1000:Int) some) 0 fun ab=>j (wJ (0-bf)) (wJ (ab+(4:Int)))
     else bif (decide ((i:Int)<((s.length-1:Nat):Int))) then
      gb true (Q2 (arr (fEN Se s X) s.length) (wJ ((i:Int)-(1:Int)))) [] fun ad=>gb true (ad[0]?) oF fun ae=>gb true (pIw ae) 0 fun ag=>gb true (Um 400 ag (1000:Int) some) 0 fun ah=>
      gb true (Q2 (arr (fLV Se s X) s.length) (i:Int)) [] fun ai=>gb true (ai[0]?) oF fun aj=>gb true (pIw aj) 0 fun ak=>gb true (UY 400 ak (1000:Int) some) 0 fun al=>j (wJ (ah-(16:Int))) (wJ (al+(4:Int)))
     else bif ((i:Int) == ((s.length-1:Nat):Int)) then
      gb true (Q2 (arr (fEN Se s X) s.length) (wJ (((s.length-1:Nat):Int)-(1:Int)))) [] fun am=>gb true (am[0]?) oF fun an=>gb true (pIw an) 0 fun ao=>gb true (Um 400 ao (1000:Int) some) 0 fun ap=>j (wJ (ap-(16:Int))) (wJ (Ao X+af))
     else
      gb true (Q2 (arr (fEN Se s X) s.length) ((s.length-1:Nat):Int)) [] fun aq=>gb true (aq[0]?) oF fun ar=>gb true (pIw ar) 0 fun au=>gb true (Um 400 au (1000:Int) some) 0 fun av=>j (wJ (av-(16:Int))) (wJ (Ao X+(20:Int))))=J (fr Se s X bf i) (tu Se s X af i):=by
    intro J;dsimp only [jn];by_cases g:i=0
    ·subst g;have t0:tu Se s X af 0=cd (fLV Se s X 0) 1000+4:=by unfold tu;rw [if_pos (by omega)]
     have f0:fr Se s X bf 0 = -bf:=rfl;rw [show (((0:Nat):Int) == 0)=true from rfl,cond_true,show (0:Int)=((0:Nat):Int) from rfl,a9 0 hi];simp -implicitDefEqProofs only [Q0,Qe4,Q1,bh 0 hi,wI (show ((0:Nat):Int)-bf=fr Se s X bf 0 by omega) (by omega) (by omega),wI t0.symm (by omega) (by omega)]
    ·have hp:fr Se s X bf i=fEN Se s X (i-1) / 1000-16:=by unfold fr;rw [Qec g]
     rw [show ((i:Int) == 0)=false by simp;omega,Qe5];by_cases bg:i<s.length-1
     ·have ht:tu Se s X af i=cd (fLV Se s X i) 1000+4:=by unfold tu;rw [if_pos bg]
      rw [Qk bg,cond_true,Vi (by omega) (by omega),bj (i-1) (by omega)];simp -implicitDefEqProofs only [Q0,Qe4,Q1,bc (i-1) (by omega),a9 i hi,bh i hi,wI hp.symm (by omega) (by omega),wI ht.symm (by omega) (by omega)]
     ·obtain rfl:i=s.length-1:=by omega
      have ht:tu Se s X af (s.length-1)=Ao X+af:=by unfold tu;rw [Qec (by omega)]
      rw [Xb,Qe5,show (((s.length-1:Nat):Int) == ((s.length-1:Nat):Int))=true by simp,cond_true,Vi (by omega) (by omega),bj (s.length-1-1) (by omega)];simp -implicitDefEqProofs only [Q0,Qe4,Q1,bc (s.length-1-1) (by omega),wI hp.symm (by omega) (by omega),wI ht.symm (by omega) (by omega)]
   rw [hz,Qp,e];simp -implicitDefEqProofs only [Q0,Qe4,Qe6,Q1,a7,ha,Xa (show i<=1000 by omega),Qef,Nat.succ_ne_zero,if_false];by_cases g:i=0
   ·subst g;rw [show decide (((0:Nat):Int)>0)=false from rfl,Qe5];rfl
   ·obtain ⟨j,rfl⟩:∃ j,i=j+1:=⟨i-1,by omega⟩;obtain ⟨x',d',bq,b',c',st',e',ca,_,_,b1⟩:=LE h.st (j:=j) (by omega);obtain ⟨p,l,k,ay,az⟩:=Q22 h.hops j hi;rw [Qeb,Qeb,e,e',Qel,Qel] at l k;have bn:pt Li s (j+1)=p:=by
     unfold pt;rw [Qeb,Qeb,e,Qef,e',Qel,Qel,l];rfl
    rw [a7] at k;obtain ⟨u1,u2,u3,hj⟩:=QaE (St:=St) (Pt:=Pt) (Se:=Se) k;rw [show decide (((j+1:Nat):Int)>0)=true from Qe8 (by omega),cond_true,Vi (show j+1<=1000 by omega) (by omega),Qef,Qp,e'];simp -implicitDefEqProofs only [Q0,Qe4,Qe6,Q1,hj];have bo:T (j+1+1)=if p<0 then LJ (T (j+1)) (sec s (j+1)) (fr Se s X bf (j+1)) (tu Se s X af (j+1)) else LJ (LJ (T (j+1)) (sec s (j+1)) (fr Se s X bf (j+1)) (tu Se s X af (j+1))) (Se.length+p.toNat) (fr Se s X bf (j+1)) (tu Se s X af j):=by
     show SN _ _ _ _ _ _ (j+1+1)=_;rw [Bs,bn]
    rw [bo];by_cases hp:p<0
    ·rw [show decide (p>=0)=false by simp;omega,Qe5,if_pos hp];rfl
    ·have aw:Yj 400 (Q7M (LJ (T (j+1)) (sec s (j+1)) (fr Se s X bf (j+1)) (tu Se s X af (j+1)))) ((LJ (T (j+1)) (sec s (j+1)) (fr Se s X bf (j+1)) (tu Se s X af (j+1))).map enc) ((Se.length+p.toNat:Nat):Int) (fr Se s X bf (j+1)) (tu Se s X af j) Tu2=_:=Qc5 (by rw [SA];omega) (q.2.2.2 (by omega));rw [show decide (p>=0)=true by simp;omega,cond_true,Qec hp,show decide (((j+1:Nat):Int)>((s.length-1:Nat):Int))=false by simp;omega,Qe5];have n:=aw;unfold Q7M at n;simp -implicitDefEqProofs only [Q0,wI (show ((Se.length:Nat):Int)+p=((Se.length+p.toNat:Nat):Int) by omega) (by omega) (by omega),n,Qef,Qec (Nat.succ_ne_zero _)];rfl
  ·simp only [Int.toNat_natCast];rw [Zg,Xb,Qe5,Qec (by omega)]
 have bd:T 0=List.replicate (Se.length+Pt.length) (0,0,0):=rfl;have e1:List.replicate (Se.length+Pt.length) [D.bool false]=Q7M (T 0):=by rw [bd];unfold Q7M;rw [List.map_replicate];rfl
 have e2:List.replicate (Se.length+Pt.length) [D.int .i64 (0:Int),D.int .i64 (0:Int),D.int .i64 (0:Int)]=(T 0).map enc:=by rw [bd,List.map_replicate];rfl
 rw [e1,e2,u];have hl:((Se.length+Pt.length:Nat):Int)=(((T s.length).length:Nat):Int):=by rw [show (T s.length).length=Se.length+Pt.length from KE]
 rw [hl];exact Qbm (by rw [show (T s.length).length=Se.length+Pt.length from KE];omega) _
end

def OL:Int->List Occ->Prop
 |_,[]=>True
 |l,(x,a,b)::r=>l<x /\ -1000<=a/\a<b/\b<=20000/\x<=1000/\OL x r
theorem OL.mono:∀ {l l':Int} {O:List Occ},l'<=l->OL l O->OL l' O
 |_,_,[],_,_=>trivial
 |_,_,(x,a,b)::r,h,⟨c,h2⟩=>⟨by omega,h2⟩
theorem OL.filter {p:Occ->Bool}:∀ {l:Int} {O:List Occ},OL l O->OL l (O.filter p)
 |_,[],_=>trivial
 |l,(x,a,b)::r,⟨d,h2,e,f,g,c⟩=>by
  rw [Qeq];split
  ·exact ⟨d,h2,e,f,g,c.filter⟩
  ·exact (c.filter).mono (by omega)
theorem OL.mem:∀ {l:Int} {O:List Occ},OL l O->∀ q∈O,l<q.1 /\ -1000<=q.2.1/\q.2.1<q.2.2/\q.2.2<=20000/\q.1<=1000
 |_,[],_,_,h=>nomatch h
 |l,(x,a,b)::r,⟨c,h2,d,e,f,g⟩,q,h=>by
  cases h with
  |head=>exact ⟨c,h2,d,e,f⟩
  |tail _ h=>have:=g.mem q h;exact ⟨by omega,this.2⟩
def TI (T:List Occ):Prop:=∀ (r:Nat) (x a b:Int),T[r]? = some (x,a,b)->a<b->x=(r:Int) /\ -1000<=a/\b<=20000
theorem TI.add {T:List Occ} (h:TI T) {r:Nat} {f t:Int} (hf : -1000<=f) (ht:t<=20000):TI (LJ T r f t):=by
 unfold LJ;cases e:T[r]? with
 |none=>exact h
 |some q=>
  obtain ⟨x,a,b⟩:=q;dsimp only;have hr:=(List.getElem?_eq_some_iff.1 e).1;by_cases an:a<b
  ·have c:=h r x a b e an;rw [if_pos an];intro r' x' a' b' e' ak;rw [List.getElem?_set] at e';by_cases am:r=r'
   ·subst am;rw [if_pos rfl,if_pos hr] at e';cases e';refine ⟨rfl,?_,?_⟩ <;> split <;> omega
   ·rw [Qec am] at e';exact h r' x' a' b' e' ak
  ·rw [Qec an];intro r' x' a' b' e' ak;rw [List.getElem?_set] at e';by_cases am:r=r'
   ·subst am;rw [if_pos rfl,if_pos hr] at e';cases e';exact ⟨rfl,hf,ht⟩
   ·rw [Qec am] at e';exact h r' x' a' b' e' ak
theorem TI.ol:∀ {T:List Occ} {k:Nat},T.length+k<=1000->(∀ (r:Nat) (x a b:Int),T[r]? = some (x,a,b)->a<b->x=((r+k:Nat):Int) /\ -1000<=a/\b<=20000)->OL ((k:Int)-1) (T.filter HC)
 |[],_,_,_=>trivial
 |(x,a,b)::T,k,hk,h=>by
  have ih:=TI.ol (T:=T) (k:=k+1) (by simp at hk;omega) fun r x a b e ak=>by
   have:=h (r+1) x a b e ak;rw [show r+1+k=r+(k+1) by omega] at this;exact this
  rw [show ((k+1:Nat):Int)-1=(k:Int) by omega] at ih;have c:=h 0 x a b rfl;rw [Qeq];by_cases ak:a<b
  ·have c:=c ak;rw [show HC (x,a,b)=true by simpa [HC] using ak,if_pos rfl];have hx:x=(k:Int):=by simpa using c.1
   refine ⟨by omega,c.2.1,ak,c.2.2,by simp at hk;omega,?_⟩;rw [hx];exact ih
  ·rw [show HC (x,a,b)=false by simpa [HC] using ak,Qec (by simp)];exact ih.mono (by omega)
section
variable {St Pt Se Li s:LL} (h:RtF St Pt Se Li s) {nm:List UInt8} {tl sp ac br bf af:Int} (hk:StkN tl sp ac br) (hb0:0<=bf) (hb1:bf<=60) (ha0:0<=af) (ha1:af<=5000)
include h hk hb0 hb1 ha0 ha1
theorem Qb4 {i:Nat} (hi:i<s.length) : -1000<=fr Se s (YR Se s nm tl sp ac br) bf i/\tu Se s (YR Se s nm tl sp ac br) af i<=20000:=by
 have l2:=h.l2;have hr:=N7 h (nm:=nm) hk;have b:=Q3M h (nm:=nm) hk (i:=i-1) (j:=i) (by omega) hi;have c1:=CI (a:=fLV Se s (YR Se s nm tl sp ac br) i) (by omega) (show (1:Int)<=1000 by decide);unfold fr tu;constructor
 ·split <;> omega
 ·split <;> omega
theorem Q91:OL (-1) (Q45 St Pt Se Li s (YR Se s nm tl sp ac br) bf af)/\(Q45 St Pt Se Li s (YR Se s nm tl sp ac br) bf af).length<=6:=by
 have an:=BK h.lay;have ak:=fun i (hi:i<s.length)=>Qb4 h (nm:=nm) hk hb0 hb1 ha0 ha1 hi
 have l2:=h.l2;unfold Q45;generalize YR Se s nm tl sp ac br=X at ak;have hT:∀ i,i<=s.length->TI (SN Se.length Pt.length Li s (fr Se s X bf) (tu Se s X af) i):=by
  intro i;induction i with
  |zero=>
   intro _ r x a b e am;have:=List.getElem?_eq_some_iff.1 e;obtain ⟨c,h2⟩:=this;simp only [SN,List.getElem_replicate] at h2;cases h2;omega
  |succ i ih=>
   intro hi;have ih:=ih (by omega);have q:=ak i (by omega);rw [SN];split
   ·exact ih.add q.1 q.2
   ·have q1:=ak (i-1) (by omega);split
    ·exact ih.add q.1 q.2
    ·exact (ih.add q.1 q.2).add q.1 q1.2
 constructor
 ·have:=TI.ol (T:=SN Se.length Pt.length Li s (fr Se s X bf) (tu Se s X af) s.length) (k:=0) (by rw [KE];omega) (fun r x a b e am=>hT _ (Qeg _) r x a b e am);exact this
 ·have hc:=Q3y h.hops (fun i=>((SN Se.length Pt.length Li s (fr Se s X bf) (tu Se s X af) (i+1)).filter HC).length-1) (fun i=>?_) ?_ (s.length-1) (by omega)
  ·rw [show s.length-1+1=s.length by omega] at hc;omega
  ·rw [Bs];have c1:=Ah (T:=SN Se.length Pt.length Li s (fr Se s X bf) (tu Se s X af) (i+1)) (r:=sec s (i+1)) (f:=fr Se s X bf (i+1)) (t:=tu Se s X af (i+1));split
   ·omega
   ·have d:=Ah (T:=LJ (SN Se.length Pt.length Li s (fr Se s X bf) (tu Se s X af) (i+1)) (sec s (i+1)) (fr Se s X bf (i+1)) (tu Se s X af (i+1))) (r:=Se.length+(pt Li s (i+1)).toNat) (f:=fr Se s X bf (i+1)) (t:=tu Se s X af i);omega
  ·have c1:=Ah (T:=SN Se.length Pt.length Li s (fr Se s X bf) (tu Se s X af) 0) (r:=sec s 0) (f:=fr Se s X bf 0) (t:=tu Se s X af 0);have c0:((SN Se.length Pt.length Li s (fr Se s X bf) (tu Se s X af) 0).filter HC).length=0:=by
    rw [SN];simp [HC]
   show ((SN Se.length Pt.length Li s (fr Se s X bf) (tu Se s X af) 1).filter HC).length-1<=0;rw [SN,if_pos rfl];omega
end

end Go.Vx
namespace Go.Vx
variable {R:Type}
def WM (n:Nat) (d:Int) (h2:LL) (c:Int) (k0:Int->oP R) (k1:Int->Bool->oP R):Nat->Int->oP R
 | 0,_=>none
 | m+1,a=>bif decide (a<c) then gb true (Q2 h2 a) [] fun b=>gb true (b[0]?) oF fun f=>gb true (b[1]?) oF fun i=>gb true (b[2]?) oF fun j=>gb true (b[3]?) oF fun g=>gb true (pIw f) 0 fun h=>bif (h == d) then gb true (pIw g) 0 fun e=>k0 (if 60<e then e else 60) else WM n d h2 c k0 k1 m (wJ (a+1)) else k1 a (decide (a<c))
def JZ (n:Nat) (c:Int) (d e f g a h i:LL) (a1:Int) (K:Int->oP R):oP R:= WM n a1 a (a.length:Int) (fun b=>K b) (fun j k=>K 60) n 0
def XK (n:Nat) (p:Int) (ad:LL) (q:Int) (f g h i:LL) (r:Int) (b c s t u v x:LL) (j y:D) (k0:Int->oP R) (k1:Int->Bool->LL->LL->oP R):Nat->Int->LL->LL->oP R
 | 0,_,_,_=>none
 | m+1,a,d,e=>bif decide (a<q) then gb true (Q2 ad a) [] fun aj=>gb true (aj[0]?) oF fun ak=>gb true (aj[1]?) oF fun al=>gb true (aj[2]?) oF fun dw=>gb true (aj[3]?) oF fun au=>gb true (pIw al) 0 fun am=>gb true (pIw au) 0 fun an=>bif (a == 0) then gb true (pSl 4 y) [] fun av=>bif (a == (wJ ((av.length:Int)-1))) then gb true (pIw al) 0 fun aw=>gb true (JZ n r b c s t u v x p some) 0 fun ax=>gb true (pIw ak) 0 fun ay=>gb true (Q2 c ay) [] fun ao=>gb true (ao[0]?) oF fun az=>gb true (ao[1]?) oF fun ba=>gb true (pIw j) 0 fun bb=>gb true (Q2 b bb) [] fun ae=>gb true (ae[0]?) oF fun bc=>gb true (ae[1]?) oF fun bd=>gb true (ae[2]?) oF fun be=>gb true (ae[3]?) oF fun bg=>gb true (ae[4]?) oF fun bh=>gb true (pSl 2 az) [] fun bi=>gb true (pIw ba) 0 fun bj=>gb true (Sv bc) [] fun bk=>gb true (pIw bd) 0 fun bl=>gb true (pIw be) 0 fun bm=>gb true (pIw bg) 0 fun bn=>gb true (pIw bh) 0 fun bo=>gb true (Wk n f g h i bi bj bk bl bm bn bo 60 (wJ (aw+ax)) Tu3) ([],0,0) fun z=>bif (z.2.2 != 0) then k0 z.2.2 else gb true (YD ((d.length+[[D.sl 3 z.1]].length)*24)) () fun dx=>gb true (YD ((e.length+[[Q5 z.2.1]].length)*8)) () fun dy=>XK n p ad q f g h i r b c s t u v x j y k0 k1 m (wJ (a+1)) (d++[[D.sl 3 z.1]]) (e++[[Q5 z.2.1]]) else gb true (pIw ak) 0 fun bp=>gb true (Q2 c bp) [] fun ap=>gb true (ap[0]?) oF fun bq=>gb true (ap[1]?) oF fun br=>gb true (pIw j) 0 fun bt=>gb true (Q2 b bt) [] fun ag=>gb true (ag[0]?) oF fun bu=>gb true (ag[1]?) oF fun bv=>gb true (ag[2]?) oF fun bx=>gb true (ag[3]?) oF fun bz=>gb true (ag[4]?) oF fun ca=>gb true (pSl 2 bq) [] fun cb=>gb true (pIw br) 0 fun cc=>gb true (Sv bu) [] fun ce=>gb true (pIw bv) 0 fun cf=>gb true (pIw bx) 0 fun cg=>gb true (pIw bz) 0 fun ch=>gb true (pIw ca) 0 fun ci=>gb true (Wk n f g h i cb cc ce cf cg ch ci 60 (wJ (am+an)) Tu3) ([],0,0) fun aa=>bif (aa.2.2 != 0) then k0 aa.2.2 else gb true (YD ((d.length+[[D.sl 3 aa.1]].length)*24)) () fun dz=>gb true (YD ((e.length+[[Q5 aa.2.1]].length)*8)) () fun ea=>XK n p ad q f g h i r b c s t u v x j y k0 k1 m (wJ (a+1)) (d++[[D.sl 3 aa.1]]) (e++[[Q5 aa.2.1]]) else gb true (pSl 4 y) [] fun cj=>bif (a == (wJ ((cj.length:Int)-1))) then gb true (pIw al) 0 fun ck=>gb true (JZ n r b c s t u v x p some) 0 fun cm=>gb true (pIw ak) 0 fun cn=>gb true (Q2 c cn) [] fun aq=>gb true (aq[0]?) oF fun co=>gb true (aq[1]?) oF fun cp=>gb true (pIw j) 0 fun cq=>gb true (Q2 b cq) [] fun ah=>gb true (ah[0]?) oF fun cr=>gb true (ah[1]?) oF fun cs=>gb true (ah[2]?) oF fun ct=>gb true (ah[3]?) oF fun cu=>gb true (ah[4]?) oF fun cv=>gb true (pSl 2 co) [] fun cw=>gb true (pIw cp) 0 fun cx=>gb true (Sv cr) [] fun cy=>gb true (pIw cs) 0 fun cz=>gb true (pIw ct) 0 fun da=>gb true (pIw cu) 0 fun db=>gb true (pIw cv) 0 fun dc=>gb true (Wk n f g h i cw cx cy cz da db dc 0 (wJ (ck+cm)) Tu3) ([],0,0) fun ab=>bif (ab.2.2 != 0) then k0 ab.2.2 else gb true (YD ((d.length+[[D.sl 3 ab.1]].length)*24)) () fun eb=>gb true (YD ((e.length+[[Q5 ab.2.1]].length)*8)) () fun ec=>XK n p ad q f g h i r b c s t u v x j y k0 k1 m (wJ (a+1)) (d++[[D.sl 3 ab.1]]) (e++[[Q5 ab.2.1]]) else gb true (pIw ak) 0 fun dd=>gb true (Q2 c dd) [] fun ar=>gb true (ar[0]?) oF fun de=>gb true (ar[1]?) oF fun df=>gb true (pIw j) 0 fun dg=>gb true (Q2 b dg) [] fun ai=>gb true (ai[0]?) oF fun dh=>gb true (ai[1]?) oF fun di=>gb true (ai[2]?) oF fun dj=>gb true (ai[3]?) oF fun dk=>gb true (ai[4]?) oF fun dl=>gb true (pSl 2 de) [] fun dn=>gb true (pIw df) 0 fun dp=>gb true (Sv dh) [] fun dq=>gb true (pIw di) 0 fun dr=>gb true (pIw dj) 0 fun ds=>gb true (pIw dk) 0 fun dt=>gb true (pIw dl) 0 fun du=>gb true (Wk n f g h i dn dp dq dr ds dt du 0 (wJ (am+an)) Tu3) ([],0,0) fun ac=>bif (ac.2.2 != 0) then k0 ac.2.2 else gb true (YD ((d.length+[[D.sl 3 ac.1]].length)*24)) () fun ed=>gb true (YD ((e.length+[[Q5 ac.2.1]].length)*8)) () fun ee=>XK n p ad q f g h i r b c s t u v x j y k0 k1 m (wJ (a+1)) (d++[[D.sl 3 ac.1]]) (e++[[Q5 ac.2.1]]) else k1 a (decide (a<q)) d e
def Z5 (n:Nat) (h2:LL) (c:Int) (d e f g:LL) (h:Int) (i j k l o p q:LL) (k0:Int->oP R) (k1:Int->Bool->LL->LL->oP R):Nat->Int->LL->LL->oP R
 | 0,_,_,_=>none
 | m+1,a,r,s=>bif decide (a<c) then gb true (Q2 h2 a) [] fun b=>gb true (b[0]?) oF fun aa=>gb true (b[1]?) oF fun v=>gb true (b[2]?) oF fun ab=>gb true (b[3]?) oF fun t=>gb true (pSl 4 t) [] fun u=>XK n a u (u.length:Int) d e f g h i j k l o p q v t (fun x=>k0 x) (fun ac ad y z=>Z5 n h2 c d e f g h i j k l o p q k0 k1 m (wJ (a+1)) y z) n 0 r s else k1 a (decide (a<c)) r s
def GK (n:Nat) (b c d e:LL) (f:Int) (g h a i j k l:LL) (K:LL->LL->Int->oP R):oP R:= gb true (UO n b c d e f g h a i j k l some) 0 fun m=>bif (m != 0) then K [] [] 1 else Z5 n a (a.length:Int) b c d e f g h a i j k l (fun o=>K [] [] o) (fun r s p q=>K p q 0) n 0 [] []

def UH (n:Nat) (c:Int) (a:LL) (k0:D->D->D->D->oP R) (k1:Int->Bool->oP R):Nat->Int->oP R
 | 0,_=>none
 | m+1,h2=>bif (decide (h2<(a.length:Int))) then gb true (Q2 a h2) [] fun d=>gb true (d[0]?) oF fun e=>gb true (pIw e) 0 fun f=>bif (f == c) then gb true (Q2 a h2) [] fun b=>gb true (b[0]?) oF fun g=>gb true (b[1]?) oF fun h=>gb true (b[2]?) oF fun i=>gb true (b[3]?) oF fun j=>k0 g h i j else UH n c a k0 k1 m (wJ (h2+1)) else k1 h2 (decide (h2<(a.length:Int)))
def SD (n:Nat) (f:Int) (g h i j a k l:LL) (a1:Int) (K:D->D->D->D->Bool->oP R):oP R:= UH n a1 a (fun b c d e=>K b c d e true) (fun m o=>K (Q5 0) (Q5 0) (Q5 0) (Q5 0) false) n 0

def Y6 (n:Nat) (g:Int) (s t u v:LL) (h:Int) (d i j k l o p:LL) (x e:D) (k0:Int->Bool->LL->LL->oP R):Nat->Int->LL->LL->oP R
 | 0,_,_,_=>none
 | m+1,a,q,r=>gb true (pSl 4 e) [] fun aj=>bif (decide (a<(aj.length:Int))) then gb true (pSl 4 e) [] fun aw=>gb true (Q2 aw a) [] fun ax=>gb true (ax[1]?) oF fun ay=>gb true (pIw ay) 0 fun ak=>bif (a == 0) then jn (fun (az:Int)=>gb true (XI n h d i j k l o p g a Tu2) ((.bool false),(.bool false)) fun al=>gb true (pIw x) 0 fun ba=>gb true (Q2 d ba) [] fun y=>gb true (y[0]?) oF fun bb=>gb true (y[1]?) oF fun bc=>gb true (y[2]?) oF fun bd=>gb true (y[3]?) oF fun be=>gb true (y[4]?) oF fun bg=>gb true (pSl 2 al.1) [] fun bh=>gb true (pIw al.2) 0 fun bi=>gb true (Sv bb) [] fun bj=>gb true (pIw bc) 0 fun bk=>gb true (pIw bd) 0 fun bl=>gb true (pIw be) 0 fun bm=>gb true (pIw bg) 0 fun bn=>gb true (Gg n s t u v bh bi bj bk bl bm bn 60 az Tu3) ([],0,0) fun ac=>gb true (YD ((q.length+[[D.sl 3 ac.1]].length)*24)) () fun ek=>gb true (YD ((r.length+[[Q5 ac.2.1]].length)*8)) () fun el=>Y6 n g s t u v h d i j k l o p x e k0 m (wJ (a+1)) (q++[[D.sl 3 ac.1]]) (r++[[Q5 ac.2.1]])) fun am=>gb true (SD n h d i j k l o p g Tu5) ((.bool false),(.bool false),(.bool false),(.bool false),false) fun an=>gb true (pSl 4 e) [] fun bo=>bif (decide (a<(wJ ((bo.length:Int)-1)))) then gb true (pSl 4 e) [] fun bp=>gb true (Q2 bp a) [] fun bq=>gb true (bq[1]?) oF fun br=>gb true (pIw br) 0 fun bt=>gb true (pSl 4 e) [] fun bu=>gb true (Q2 bu a) [] fun bv=>gb true (bv[3]?) oF fun bx=>gb true (pIw bx) 0 fun bz=>am (wJ (bt+bz)) else bif an.2.2.2.2 then gb true (pSl 4 e) [] fun ca=>gb true (Q2 ca a) [] fun cb=>gb true (cb[1]?) oF fun cc=>gb true (pIw cc) 0 fun ce=>gb true (pIw an.2.2.2.1) 0 fun i64=>am (wJ (ce+(if 60<i64 then i64 else 60))) else gb true (XI n h d i j k l o p g a Tu2) ((.bool false),(.bool false)) fun ao=>gb true (pIw x) 0 fun cf=>gb true (Q2 d cf) [] fun z=>gb true (z[0]?) oF fun cg=>gb true (z[1]?) oF fun ch=>gb true (z[2]?) oF fun ci=>gb true (z[3]?) oF fun cj=>gb true (z[4]?) oF fun ck=>gb true (pSl 2 ao.1) [] fun cm=>gb true (pIw ao.2) 0 fun cn=>gb true (Sv cg) [] fun co=>gb true (pIw ch) 0 fun cp=>gb true (pIw ci) 0 fun cq=>gb true (pIw cj) 0 fun cr=>gb true (pIw ck) 0 fun cs=>gb true (Gg n s t u v cm cn co cp cq cr cs 60 (wJ (ak+60)) Tu3) ([],0,0) fun ad=>gb true (YD ((q.length+[[D.sl 3 ad.1]].length)*24)) () fun em=>gb true (YD ((r.length+[[Q5 ad.2.1]].length)*8)) () fun en=>Y6 n g s t u v h d i j k l o p x e k0 m (wJ (a+1)) (q++[[D.sl 3 ad.1]]) (r++[[Q5 ad.2.1]]) else jn (fun (ct:Int)=>gb true (XI n h d i j k l o p g a Tu2) ((.bool false),(.bool false)) fun ap=>gb true (pIw x) 0 fun cu=>gb true (Q2 d cu) [] fun aa=>gb true (aa[0]?) oF fun cv=>gb true (aa[1]?) oF fun cw=>gb true (aa[2]?) oF fun cx=>gb true (aa[3]?) oF fun cy=>gb true (aa[4]?) oF fun cz=>gb true (pSl 2 ap.1) [] fun da=>gb true (pIw ap.2) 0 fun db=>gb true (Sv cv) [] fun dc=>gb true (pIw cw) 0 fun dd=>gb true (pIw cx) 0 fun de=>gb true (pIw cy) 0 fun df=>gb true (pIw cz) 0 fun dg=>gb true (Gg n s t u v da db dc dd de df dg 0 ct Tu3) ([],0,0) fun ae=>gb true (YD ((q.length+[[D.sl 3 ae.1]].length)*24)) () fun eo=>gb true (YD ((r.length+[[Q5 ae.2.1]].length)*8)) () fun ep=>Y6 n g s t u v h d i j k l o p x e k0 m (wJ (a+1)) (q++[[D.sl 3 ae.1]]) (r++[[Q5 ae.2.1]])) fun aq=>gb true (SD n h d i j k l o p g Tu5) ((.bool false),(.bool false),(.bool false),(.bool false),false) fun ar=>gb true (pSl 4 e) [] fun dh=>bif (decide (a<(wJ ((dh.length:Int)-1)))) then gb true (pSl 4 e) [] fun di=>gb true (Q2 di a) [] fun dj=>gb true (dj[1]?) oF fun dk=>gb true (pIw dk) 0 fun dl=>gb true (pSl 4 e) [] fun dn=>gb true (Q2 dn a) [] fun dp=>gb true (dp[3]?) oF fun dq=>gb true (pIw dq) 0 fun dr=>aq (wJ (dl+dr)) else bif ar.2.2.2.2 then gb true (pSl 4 e) [] fun ds=>gb true (Q2 ds a) [] fun dt=>gb true (dt[1]?) oF fun du=>gb true (pIw du) 0 fun dw=>gb true (pIw ar.2.2.2.1) 0 fun au=>aq (wJ (dw+(if 60<au then au else 60))) else gb true (XI n h d i j k l o p g a Tu2) ((.bool false),(.bool false)) fun av=>gb true (pIw x) 0 fun dx=>gb true (Q2 d dx) [] fun ab=>gb true (ab[0]?) oF fun dy=>gb true (ab[1]?) oF fun dz=>gb true (ab[2]?) oF fun ea=>gb true (ab[3]?) oF fun eb=>gb true (ab[4]?) oF fun ec=>gb true (pSl 2 av.1) [] fun ed=>gb true (pIw av.2) 0 fun ee=>gb true (Sv dy) [] fun ef=>gb true (pIw dz) 0 fun eg=>gb true (pIw ea) 0 fun eh=>gb true (pIw eb) 0 fun ei=>gb true (pIw ec) 0 fun ej=>gb true (Gg n s t u v ed ee ef eg eh ei ej 0 (wJ (ak+60)) Tu3) ([],0,0) fun ag=>gb true (YD ((q.length+[[D.sl 3 ag.1]].length)*24)) () fun eq=>gb true (YD ((r.length+[[Q5 ag.2.1]].length)*8)) () fun er=>Y6 n g s t u v h d i j k l o p x e k0 m (wJ (a+1)) (q++[[D.sl 3 ag.1]]) (r++[[Q5 ag.2.1]]) else k0 a (decide (a<(aj.length:Int))) q r
def Ws (n:Nat) (c d e f:LL) (g:Int) (h i a j k l o:LL) (k0:Int->Bool->LL->LL->oP R):Nat->Int->LL->LL->oP R
 | 0,_,_,_=>none
 | m+1,h2,p,q=>bif (decide (h2<(a.length:Int))) then gb true (Q2 a h2) [] fun b=>gb true (b[0]?) oF fun v=>gb true (b[1]?) oF fun r=>gb true (b[2]?) oF fun x=>gb true (b[3]?) oF fun s=>Y6 n h2 c d e f g h i a j k l o r s (fun y z t u=>Ws n c d e f g h i a j k l o k0 m (wJ (h2+1)) t u) n 0 p q else k0 h2 (decide (h2<(a.length:Int))) p q
def JF (n:Nat) (a b c d:LL) (e:Int) (f g h i j k l:LL) (K:LL->LL->Int->oP R):oP R:= gb true (UW n a b c d e f g h i j k l some) 0 fun m=>bif (m != 0) then K [] [] 1 else Ws n a b c d e f g h i j k l (fun q r o p=>K o p 0) n 0 [] []

end Go.Vx
namespace Go.Vx
def flat {α:Type} (nr:Nat->Nat) (f:Nat->Nat->α):Nat->List α
 |0=>[]
 |i+1=>flat nr f i++(List.range (nr i)).map (f i)
def base (nr:Nat->Nat):Nat->Nat
 |0=>0
 |i+1=>base nr i+nr i
theorem WX {α:Type} {nr:Nat->Nat} {f:Nat->Nat->α}:∀ {i:Nat},(flat nr f i).length=base nr i
 |0=>rfl
 |i+1=>by rw [flat,List.length_append,WX,base,Qea,List.length_range]
theorem Nn {nr:Nat->Nat} {i:Nat}:∀ {j:Nat},i<j->base nr i+nr i<=base nr j
 |0,h=>by omega
 |j+1,h=>by
  rw [base];by_cases ak:i=j
  ·subst ak;omega
  ·have:=Nn (nr:=nr) (i:=i) (j:=j) (by omega);omega
theorem Mu {α:Type} {nr:Nat->Nat} {f:Nat->Nat->α} {i k:Nat} (hk:k<nr i):∀ {L:Nat},i<L->(flat nr f L)[base nr i+k]? = some (f i k)
 |0,h=>by omega
 |L+1,h=>by
  rw [flat];by_cases ak:i=L
  ·subst ak;rw [List.getElem?_append_right (by rw [WX];omega),WX,Nat.add_sub_cancel_left,Qei,List.getElem?_range hk];rfl
  ·have:=Nn (nr:=nr) (i:=i) (j:=L) (by omega);rw [List.getElem?_append_left (by rw [WX];omega)];exact Mu hk (by omega)
theorem FX {nr:Nat->Nat} {a:Nat}:∀ {L:Nat},a<base nr L->∃ i k,i<L/\k<nr i/\a=base nr i+k
 |0,h=>by simp [base] at h
 |L+1,h=>by
  rw [base] at h;by_cases ha:a<base nr L
  ·obtain ⟨i,k,c,h2,b⟩:=FX ha;exact ⟨i,k,by omega,h2,b⟩
  ·exact ⟨L,a-base nr L,by omega,by omega,by omega⟩
def Pe (Ls:LL) (i:Nat):LL:=match Ls[i]? with
 |some [_,_,_,.sl _ r]=>r
 |_=>[]
def wOf (Ls:LL) (i:Nat):Int:=match Ls[i]? with
 |some [_,_,.int _ w,_]=>w
 |_=>0
def rF (Ls:LL) (i k j:Nat):Int:=match ((Pe Ls i).getD k [])[j]? with
 |some (.int _ x)=>x
 |_=>0
def Qcd (Ro:LL) (r:Int):LL:=match Ro[r.toNat]? with
 |some [.sl _ s,_]=>s
 |_=>[]
structure Cx where
 G:Geo
 Ro:LL
 Ls:LL
 T:List Tup
 nm:List UInt8
 tl:Int
 sp:Int
 ac:Int
 br:Int
namespace Cx
variable (X:Cx)
def nr (i:Nat):Nat:=(Pe X.Ls i).length
def w (i:Nat):Int:=wOf X.Ls i
def ex (i k:Nat):Int:=rF X.Ls i k 1
def mn (i k:Nat):Int:=rF X.Ls i k 2
def mx (i k:Nat):Int:=rF X.Ls i k 3
def st (i k:Nat):LL:=Qcd X.Ro (rF X.Ls i k 0)
def rn (i k:Nat):Run:=YR X.G.Se (X.st i k) X.nm X.tl X.sp X.ac X.br
def tn (i:Nat):Option Tup:=X.T.find? fun t=>t.1 == i
def rest (i:Nat):Int:=match X.tn i with
 |some t=>if 60<t.2.2.2 then t.2.2.2 else 60
 |none=>60
def bf (k:Nat):Int:=if k=0 then 60 else 0
def af (i k:Nat):Int:=if k=X.nr i-1 then X.ex i k+X.rest i else X.ex i k+X.mx i k
def occ (i k:Nat):List Occ:=Q45 X.G.St X.G.Pt X.G.Se X.G.Li (X.st i k) (X.rn i k) (bf k) (X.af i k)
def run (i k:Nat):Int:=Ao (X.rn i k)
def L:Nat:=X.Ls.length
structure OK:Prop where
 g:X.G.OK
 sk:StkN X.tl X.sp X.ac X.br
 gd:GoodP X.G X.Ro X.Ls
 l0:1<=X.Ls.length
 l1:X.Ls.length<=3
 tr:∀ t∈X.T,Q5F X.G X.Ro X.Ls t
 fd:(X.T.map (·.1)).Nodup
 td:(X.T.map (·.2.1)).Nodup
 tl:X.T.length<=20
structure RdOK (i k:Nat):Prop where
 row:(Pe X.Ls i)[k]? = some [Q5 (rF X.Ls i k 0),Q5 (X.ex i k),Q5 (X.mn i k),Q5 (X.mx i k)]
 ro:Q2 X.Ro (rF X.Ls i k 0)=some [D.sl 2 (X.st i k),Q5 0]
 rt:RtF X.G.St X.G.Pt X.G.Se X.G.Li (X.st i k)
 ex0:0<=X.ex i k
 ex1:X.ex i k<3
 mn0:0<=X.mn i k
 mn1:X.mn i k<=X.mx i k
 mn2:X.mx i k<=X.mn i k+3
 mn3:X.mn i k<=10
variable {X} (h:X.OK)
include h
theorem line {i:Nat} (hi:i<X.Ls.length):X.Ls[i]? = some [D.str (nmN i),Q5 0,Q5 (X.w i),D.sl 4 (Pe X.Ls i)]/\(X.nr i=1\/X.nr i=2)/\(0<=X.w i/\X.w i<4):=by
 obtain ⟨w,rides,a,h2,c,b⟩:=h.gd.ls i _ (Qe9 hi);have e:X.Ls[i]? = some [D.str (nmN i),Q5 0,Q5 w,D.sl 4 rides]:=by rw [Qe9 hi,a]
 have er:Pe X.Ls i=rides:=by unfold Pe;rw [e]
 have ew:X.w i=w:=by unfold Cx.w wOf;rw [e]
 refine ⟨by rw [er,ew,e],?_,by omega⟩;unfold nr;rw [er];rcases b with ⟨r,x,y,rfl,_⟩ | ⟨r,r',x,y,z,rfl,_,_⟩
 ·exact .inl rfl
 ·exact .inr rfl
theorem rd {i k:Nat} (hi:i<X.Ls.length) (hk:k<X.nr i):X.RdOK i k:=by
 obtain ⟨w,rides,c,h2,g,d⟩:=h.gd.ls i _ (Qe9 hi);have e:X.Ls[i]? = some [D.str (nmN i),Q5 0,Q5 w,D.sl 4 rides]:=by rw [Qe9 hi,c]
 have er:Pe X.Ls i=rides:=by unfold Pe;rw [e]
 have hr:∃ r x y b,rides[k]? = some r/\H8 X.G X.Ro r x y b:=by
  unfold nr at hk;rw [er] at hk;rcases d with ⟨r,x,y,rfl,h⟩ | ⟨r,r',x,y,z,rfl,h,h'⟩
  ·obtain rfl:k=0:=by simpa using hk
   exact ⟨r,x,y,_,rfl,h⟩
  ·obtain rfl | rfl:k=0\/k=1:=by simp at hk;omega
   ·exact ⟨r,x,y,_,rfl,h⟩
   ·exact ⟨r',y,z,_,rfl,h'⟩
 obtain ⟨r,x,y,b,hr,rt,ex,mn,mx,s,rfl,q1,q2,q3,q4,j⟩:=hr;have eg:(Pe X.Ls i).getD k []=[Q5 rt,Q5 ex,Q5 mn,Q5 mx]:=by rw [er,Qeb,hr];rfl
 have a:rF X.Ls i k 0=rt:=by unfold rF;rw [eg];rfl
 have e1:X.ex i k=ex:=by unfold Cx.ex rF;rw [eg];rfl
 have e2:X.mn i k=mn:=by unfold Cx.mn rF;rw [eg];rfl
 have f:X.mx i k=mx:=by unfold Cx.mx rF;rw [eg];rfl
 have es:X.st i k=s:=by unfold st Qcd;rw [a,Int.toNat_natCast,q1]
 exact ⟨by rw [a,e1,e2,f,er,hr],by rw [a,es,Qp,q1],by rw [es];exact q2.f h.g,by omega,by omega,by omega,by omega,by omega,by omega⟩
theorem Bc {i:Nat}:60<=X.rest i/\X.rest i<=60:=by
 unfold rest;cases e:X.tn i with
 |none=>exact ⟨Int.le_refl _,Int.le_refl _⟩
 |some t=>
  have:=h.tr t (List.mem_of_find?_eq_some e);have a:=this.2.2.2.1;have h2:=this.2.2.2.2.2.1;dsimp only;split <;> omega
theorem QbT {i k:Nat} (hi:i<X.Ls.length) (hk:k<X.nr i):(0<=bf k/\bf k<=60)/\0<=X.af i k/\X.af i k<=5000:=by
 have r:=rd h hi hk;have:=Bc h (i:=i);have:=r.ex0;have:=r.ex1;have:=r.mn0;have:=r.mn1;have:=r.mn2;have:=r.mn3;unfold bf af;constructor
 ·split <;> omega
 ·split <;> omega
theorem QbP {i k:Nat} (hi:i<X.Ls.length) (hk:k<X.nr i):Wk 400 X.G.St X.G.Pt X.G.Se X.G.Li (X.st i k) 0 X.nm X.tl X.sp X.ac X.br (bf k) (X.af i k) Tu3=some ((X.occ i k).map enc,X.run i k,0):=by
 have b:=QbT h hi hk;exact QbK (rd h hi hk).rt h.sk b.1.1 (by omega) b.2.1 (by omega)
theorem Qbo {i k:Nat} (hi:i<X.Ls.length) (hk:k<X.nr i):Gg 400 X.G.St X.G.Pt X.G.Se X.G.Li (X.st i k) 0 X.nm X.tl X.sp X.ac X.br (bf k) (X.af i k) Tu3=some ((X.occ i k).map enc,X.run i k,0):=by
 have b:=QbT h hi hk;exact Qbk (rd h hi hk).rt h.sk b.1.1 (by omega) b.2.1 (by omega)
theorem Q0d {i k:Nat} (hi:i<X.Ls.length) (hk:k<X.nr i):OL (-1) (X.occ i k)/\(X.occ i k).length<=6:=by
 have b:=QbT h hi hk;exact Q91 (rd h hi hk).rt h.sk b.1.1 b.1.2 b.2.1 b.2.2
theorem Q1S {i k:Nat} (hi:i<X.Ls.length) (hk:k<X.nr i):0<=X.run i k/\X.run i k<=7001:=N7 (rd h hi hk).rt h.sk
theorem base_le:base X.nr X.L<=6:=by
 have a:=h.l1;have hb:∀ i,i<=X.Ls.length->base X.nr i<=2*i:=by
  intro i;induction i with
  |zero=>intro _;exact Qeg _
  |succ i ih=>
   intro hi;have:=ih (by omega);have:=(line h (i:=i) (by omega)).2.1;rw [base];omega
 have:=hb X.Ls.length (Qeg _);unfold L;omega
end Cx
theorem PlanR.cx {G:Geo} {per:Int} {Sk Ro Ls Ch Tu Sy De:LL} (h:PlanR G per Sk Ro Ls Ch Tu Sy De):∃ X:Cx,X.OK/\X.G=G/\X.Ro=Ro/\X.Ls=Ls/\Tu=X.T.map tuR/\Sk=[[D.str X.nm,Q5 X.tl,Q5 X.sp,Q5 X.ac,Q5 X.br]]:=by
 obtain ⟨T,hT,t1,t2,e,f⟩:=h.tu;obtain ⟨a,b,c,d,hS,hs⟩:=h.sk;exact ⟨⟨G,Ro,Ls,T,bs [88],a,b,c,d⟩,⟨h.ok,hs,h.good,h.l0,h.l1,t1,t2,e,f⟩,rfl,rfl,rfl,hT,hS⟩
def Ut (L:List (List Occ)):LL:=L.map fun o=>[D.sl 3 (o.map enc)]
theorem Ub {L:List (List Occ)} {o:List Occ}:Ut L++[[D.sl 3 (o.map enc)]]=Ut (L++[o]):=by simp [Ut]
theorem Ue {L:List Int} {x:Int}:encI L++[[D.int .i64 x]]=encI (L++[x]):=by simp [encI]
theorem Tl {L:List (List Occ)}:(Ut L).length=L.length:=by simp [Ut]
theorem Zk {α:Type} {A:List α} {f:Nat->α} {k:Nat}:A++(List.range k).map f++[f k]=A++(List.range (k+1)).map f:=by simp [List.range_succ]
namespace Cx
variable {R:Type} {n:Nat} {X:Cx} (h:X.OK)
theorem Q5S {T:List Tup} (hT:T.length<=1000) {i:Nat} {k0:Int->oP R} {k1:Int->Bool->oP R} {E:oP R} (hk:∀ a b,k1 a b=E):∀ (ak:List Tup) (j m:Nat),T.drop j=ak->ak.length<m->WM n (i:Int) (T.map tuR) ((T.length:Nat):Int) k0 k1 m (j:Int)=(match ak.find? (fun t=>t.1 == i) with | some t=>k0 (if 60<t.2.2.2 then t.2.2.2 else 60) | none=>E)
 |[],j,m+1,hd,_=>by
  have:=Y7 hd;rw [WM,show decide ((j:Int)<((T.length:Nat):Int))=false by simpa using this,Qe5,hk];rfl
 |(a,b,lo,hi)::ak,j,m+1,hd,hm=>by
  obtain ⟨e,am,hj⟩:=XG hd;rw [WM,Qk hj,cond_true,QT e];simp -implicitDefEqProofs only [Q0,tuR,Qe4,Qe6,Q1,Xa (show j<=1000 by omega)];rw [List.find?_cons];by_cases ha:a=i
  ·subst ha;rw [show ((a:Int) == (a:Int))=true by simp,cond_true,show ((a,b,lo,hi).1 == a)=true by simp]
  ·rw [show ((a:Int) == (i:Int))=false by simp;omega,Qe5,show ((a,b,lo,hi).1 == i)=false by simpa using ha];exact Q5S hT hk ak (j+1) m am (by simpa using hm)
theorem Q63 {T:List Tup} (hT:T.length<=1000) {i:Nat} {k0:D->D->D->D->oP R} {k1:Int->Bool->oP R} {E:oP R} (hk:∀ a b,k1 a b=E):∀ (ak:List Tup) (j m:Nat),T.drop j=ak->ak.length<m->UH n (i:Int) (T.map tuR) k0 k1 m (j:Int)=(match ak.find? (fun t=>t.1 == i) with | some t=>k0 (Q5 t.1) (Q5 t.2.1) (Q5 t.2.2.1) (Q5 t.2.2.2) | none=>E)
 |[],j,m+1,hd,_=>by
  have:=Y7 hd;rw [UH,Qea,show decide ((j:Int)<((T.length:Nat):Int))=false by simpa using this,Qe5,hk];rfl
 |(a,b,lo,hi)::ak,j,m+1,hd,hm=>by
  obtain ⟨e,am,hj⟩:=XG hd;rw [UH,Qea,Qk hj,cond_true,QT e];simp -implicitDefEqProofs only [Q0,tuR,Qe4,Qe6,Q1,Xa (show j<=1000 by omega)];rw [List.find?_cons];by_cases ha:a=i
  ·subst ha;rw [show ((a:Int) == (a:Int))=true by simp,cond_true,show ((a,b,lo,hi).1 == a)=true by simp]
  ·rw [show ((a:Int) == (i:Int))=false by simp;omega,Qe5,show ((a,b,lo,hi).1 == i)=false by simpa using ha];exact Q63 hT hk ak (j+1) m am (by simpa using hm)
def skR (X:Cx):LL:=[[D.str X.nm,Q5 X.tl,Q5 X.sp,Q5 X.ac,Q5 X.br]]
include h
theorem Qc2 {per:Int} {Sk Ro Ls Ch Sy De:LL} {i:Nat}:JZ 400 per Sk Ro Ls Ch (X.T.map tuR) Sy De (i:Int) (some:Int->Option Int)=some (X.rest i):=by
 unfold JZ;rw [Qea];have:=Q5S (n:=400) (T:=X.T) (i:=i) (k0:=(some:Int->Option Int)) (k1:=fun _ _=>some 60) (by have:=h.tl;omega) (fun _ _=>rfl) X.T 0 400 rfl (by have:=h.tl;omega);refine this.trans ?_;unfold rest tn;cases X.T.find? fun t=>t.1 == i <;> rfl
theorem Q9V {per:Int} {Sk Ro Ls Ch Sy De:LL} {i:Nat} (K:D->D->D->D->Bool->oP R):SD 400 per Sk Ro Ls Ch (X.T.map tuR) Sy De (i:Int) K=(match X.tn i with | some t=>K (Q5 t.1) (Q5 t.2.1) (Q5 t.2.2.1) (Q5 t.2.2.2) true | none=>K (Q5 0) (Q5 0) (Q5 0) (Q5 0) false):=
 Q63 (n:=400) (T:=X.T) (i:=i) (k0:=fun a b c d=>K a b c d true) (k1:=fun _ _=>K (Q5 0) (Q5 0) (Q5 0) (Q5 0) false) (by have:=h.tl;omega) (fun _ _=>rfl) X.T 0 400 rfl (by have:=h.tl;omega)
theorem Q86 {per:Int} {Ch Sy De:LL} {i:Nat} (hi:i<X.Ls.length) {A:List (List Occ)} {B:List Int} (hA:A.length<=100) (hB:B.length<=100) {k0:Int->oP R} {K:LL->LL->oP R} {k1:Int->Bool->LL->LL->oP R} (hk:∀ a b u v,k1 a b u v=K u v) :
  XK 400 (i:Int) (Pe X.Ls i) ((X.nr i:Nat):Int) X.G.St X.G.Pt X.G.Se X.G.Li per X.skR X.Ro X.Ls Ch (X.T.map tuR) Sy De (Q5 0) (D.sl 4 (Pe X.Ls i)) k0 k1 400 0 (Ut A) (encI B)=K (Ut (A++(List.range (X.nr i)).map (X.occ i))) (encI (B++(List.range (X.nr i)).map (X.run i))):=by
 have hl:=(line h hi).2.1;refine QR (r:=fun m k=>XK 400 (i:Int) (Pe X.Ls i) ((X.nr i:Nat):Int) X.G.St X.G.Pt X.G.Se X.G.Li per X.skR X.Ro X.Ls Ch (X.T.map tuR) Sy De (Q5 0) (D.sl 4 (Pe X.Ls i)) k0 k1 m k (Ut (A++(List.range k.toNat).map (X.occ i))) (encI (B++(List.range k.toNat).map (X.run i)))) (N:=X.nr i) (fun m k hk=>?_) (fun m=>?_) (X.nr i) 400 0 (by omega) (by omega) |> Eq.trans (by simp)
 ·simp only [Int.toNat_natCast];have r:=rd h hi hk;have rr:=Bc h (i:=i);have g:=r.ex0;have e1:=r.ex1;have e2:=r.mn0;have j:=r.mn1;have l:=r.mn2;have n:=r.mn3;have hh:=QbP h hi hk;have an:Q2 (Pe X.Ls i) (k:Int)=some [Q5 (rF X.Ls i k 0),Q5 (X.ex i k),Q5 (X.mn i k),Q5 (X.mx i k)]:=by rw [Qp,r.row]
  have ao:Q2 X.skR 0=some [D.str X.nm,Q5 X.tl,Q5 X.sp,Q5 X.ac,Q5 X.br]:=rfl;have ar:=r.ro;have hw:wJ (((List.length (Pe X.Ls i):Nat):Int)-1)=((X.nr i-1:Nat):Int):=Vi (k:=X.nr i) (by omega) (by omega);have d:YD (((Ut (A++(List.range k).map (X.occ i))).length+List.length [[D.sl 3 ((X.occ i k).map enc)]])*24)=some ():=XR (by simp [Tl];omega);have e:YD (((encI (B++(List.range k).map (X.run i))).length+List.length [[D.int .i64 (X.run i k)]])*8)=some ():=XR (by simp [Vj];omega);have am:=Qc2 h (per:=per) (Sk:=X.skR) (Ro:=X.Ro) (Ls:=X.Ls) (Ch:=Ch) (Sy:=Sy) (De:=De) (i:=i);have aq:((k:Int) == ((X.nr i-1:Nat):Int))=decide (k=X.nr i-1):=by
   by_cases hc:k=X.nr i-1
   ·rw [Qe8 hc];simp;omega
   ·rw [Qe7 hc];simp;omega
  have f:((k:Int) == 0)=decide (k=0):=by
   by_cases hc:k=0
   ·rw [Qe8 hc];simp;omega
   ·rw [Qe7 hc];simp;omega
  have w1:wJ (X.ex i k+X.rest i)=X.ex i k+X.rest i:=Qf (by omega) (by omega);have w2:wJ (X.ex i k+X.mx i k)=X.ex i k+X.mx i k:=Qf (by omega) (by omega);rw [XK,Qk hk,cond_true,an];simp -implicitDefEqProofs only [Q0,Qe4,Qe6,Q1,X6,Xj,hw,aq,f,am,ar,ao,w1,w2,Xa (show k<=1000 by omega)];unfold bf af at hh;by_cases c1:k=0 <;> by_cases c:k=X.nr i-1
  ·simp -implicitDefEqProofs only [if_pos c1,if_pos c] at hh;simp -implicitDefEqProofs only [Qe8 c1,Qe8 c,cond_true,hh,Q0,show ((0:Int) != 0)=false from rfl,Qe5,d,e,Ub,Ue,Zk]
  ·simp -implicitDefEqProofs only [if_pos c1,Qec c] at hh;simp -implicitDefEqProofs only [Qe8 c1,Qe7 c,cond_true,hh,Q0,show ((0:Int) != 0)=false from rfl,Qe5,d,e,Ub,Ue,Zk]
  ·simp -implicitDefEqProofs only [Qec c1,if_pos c] at hh;simp -implicitDefEqProofs only [Qe7 c1,Qe8 c,cond_true,hh,Q0,show ((0:Int) != 0)=false from rfl,Qe5,d,e,Ub,Ue,Zk]
  ·simp -implicitDefEqProofs only [Qec c1,Qec c] at hh;simp -implicitDefEqProofs only [Qe7 c1,Qe7 c,cond_true,hh,Q0,show ((0:Int) != 0)=false from rfl,Qe5,d,e,Ub,Ue,Zk]
 ·simp only [Int.toNat_natCast];rw [XK,Xb,Qe5,hk]
end Cx

namespace Cx
variable {R:Type} {n:Nat} {X:Cx} (h:X.OK)
include h
theorem Q7B {per:Int} {Sk Ch Tu Sy De:LL} {i k:Nat} (hi:i<X.Ls.length) (hk:k<X.nr i) (K:D->D->oP R):XI n per Sk X.Ro X.Ls Ch Tu Sy De (i:Int) (k:Int) K=K (D.sl 2 (X.st i k)) (Q5 0):=by
 have r:=rd h hi hk;unfold XI;rw [Qp,(line h hi).1];simp -implicitDefEqProofs only [Q0,Qe4,Qe6,Q1,X6,Qp,r.row,r.ro]
theorem Q97 {per:Int} {Ch Sy De:LL} {i:Nat} (hi:i<X.Ls.length) {A:List (List Occ)} {B:List Int} (hA:A.length<=100) (hB:B.length<=100) {K:LL->LL->oP R} {k1:Int->Bool->LL->LL->oP R} (hk:∀ a b u v,k1 a b u v=K u v) :
  Y6 400 (i:Int) X.G.St X.G.Pt X.G.Se X.G.Li per X.skR X.Ro X.Ls Ch (X.T.map tuR) Sy De (Q5 0) (D.sl 4 (Pe X.Ls i)) k1 400 0 (Ut A) (encI B)=K (Ut (A++(List.range (X.nr i)).map (X.occ i))) (encI (B++(List.range (X.nr i)).map (X.run i))):=by
 have hl:=(line h hi).2.1;refine QR (r:=fun m k=>Y6 400 (i:Int) X.G.St X.G.Pt X.G.Se X.G.Li per X.skR X.Ro X.Ls Ch (X.T.map tuR) Sy De (Q5 0) (D.sl 4 (Pe X.Ls i)) k1 m k (Ut (A++(List.range k.toNat).map (X.occ i))) (encI (B++(List.range k.toNat).map (X.run i)))) (N:=X.nr i) (fun m k hk=>?_) (fun m=>?_) (X.nr i) 400 0 (by omega) (by omega) |> Eq.trans (by simp)
 ·simp only [Int.toNat_natCast];have r:=rd h hi hk;have rr:=Bc h (i:=i);have q:=r.ex0;have e1:=r.ex1;have e2:=r.mn0;have s:=r.mn1;have x:=r.mn2;have y:=r.mn3;have hh:=Qbo h hi hk;have ao:Q2 (Pe X.Ls i) (k:Int)=some [Q5 (rF X.Ls i k 0),Q5 (X.ex i k),Q5 (X.mn i k),Q5 (X.mx i k)]:=by rw [Qp,r.row]
  have aq:Q2 X.skR 0=some [D.str X.nm,Q5 X.tl,Q5 X.sp,Q5 X.ac,Q5 X.br]:=rfl;have hw:wJ (((List.length (Pe X.Ls i):Nat):Int)-1)=((X.nr i-1:Nat):Int):=Vi (k:=X.nr i) (by omega) (by omega);have d:YD (((Ut (A++(List.range k).map (X.occ i))).length+List.length [[D.sl 3 ((X.occ i k).map enc)]])*24)=some ():=XR (by simp [Tl];omega);have f:YD (((encI (B++(List.range k).map (X.run i))).length+List.length [[D.int .i64 (X.run i k)]])*8)=some ():=XR (by simp [Vj];omega);have g:((k:Int) == 0)=decide (k=0):=by
   by_cases hc:k=0
   ·rw [Qe8 hc];simp;omega
   ·rw [Qe7 hc];simp;omega
  have j:decide ((k:Int)<((X.nr i-1:Nat):Int)) = !decide (k=X.nr i-1):=by
   by_cases hc:k=X.nr i-1
   ·rw [Qe8 hc];exact Qe7 (by omega)
   ·rw [Qe7 hc];exact Qe8 (by omega)
  have w1:wJ (X.ex i k+60)=X.ex i k+60:=Qf (by omega) (by omega);have w2:wJ (X.ex i k+X.mx i k)=X.ex i k+X.mx i k:=Qf (by omega) (by omega);have w3:∀ t,X.tn i=some t->wJ (X.ex i k+(if 60<t.2.2.2 then t.2.2.2 else 60))=X.ex i k+X.rest i:=fun t ht=>by
   have e:X.rest i=if 60<t.2.2.2 then t.2.2.2 else 60:=by unfold rest;rw [ht]
   rw [<- e];exact Qf (by omega) (by omega)
  have l:X.tn i=none->wJ (X.ex i k+60)=X.ex i k+X.rest i:=fun ht=>by rw [w1];unfold rest;rw [ht]
  have au:∀ K':D->D->oP R,XI 400 per X.skR X.Ro X.Ls Ch (X.T.map tuR) Sy De (i:Int) (k:Int) K'=K' (D.sl 2 (X.st i k)) (Q5 0):=fun K'=>Q7B h hi hk K'
  have an:=Q7B (n:=400) h (per:=per) (Sk:=X.skR) (Ch:=Ch) (Tu:=X.T.map tuR) (Sy:=Sy) (De:=De) hi hk Tu2;rw [Y6,X6,Q0,show ((Pe X.Ls i).length:Int)=((X.nr i:Nat):Int) from rfl,Qk hk,cond_true];unfold bf af at hh;cases ht:X.tn i with
  |some t=>
   simp -implicitDefEqProofs only [jn,Q0,Qe4,Qe6,Q1,X6,Xj,ao,hw,g,j,Q9V h,ht,w2,w3 t ht,aq,an,cond_true,Xa (show k<=1000 by omega)];by_cases c1:k=0 <;> by_cases c:k=X.nr i-1
   ·simp -implicitDefEqProofs only [if_pos c1,if_pos c] at hh;simp -implicitDefEqProofs only [Qe8 c1,Qe8 c,Qed,Qe5,cond_true,hh,Q0,d,f,Ub,Ue,Zk]
   ·simp -implicitDefEqProofs only [if_pos c1,Qec c] at hh;simp -implicitDefEqProofs only [Qe8 c1,Qe7 c,Qee,Qe5,cond_true,hh,Q0,d,f,Ub,Ue,Zk]
   ·simp -implicitDefEqProofs only [Qec c1,if_pos c] at hh;simp -implicitDefEqProofs only [Qe7 c1,Qe8 c,Qed,Qe5,cond_true,hh,Q0,d,f,Ub,Ue,Zk]
   ·simp -implicitDefEqProofs only [Qec c1,Qec c] at hh;simp -implicitDefEqProofs only [Qe7 c1,Qe7 c,Qee,Qe5,cond_true,hh,Q0,d,f,Ub,Ue,Zk]
  |none=>
   simp -implicitDefEqProofs only [jn,Q0,Qe4,Qe6,Q1,X6,Xj,ao,hw,g,j,Q9V h,ht,w2,l ht,aq,an,Qe5,Xa (show k<=1000 by omega)];by_cases c1:k=0 <;> by_cases c:k=X.nr i-1
   ·simp -implicitDefEqProofs only [if_pos c1,if_pos c] at hh;simp -implicitDefEqProofs only [Qe8 c1,Qe8 c,Qed,Qe5,cond_true,hh,Q0,d,f,Ub,Ue,Zk]
   ·simp -implicitDefEqProofs only [if_pos c1,Qec c] at hh;simp -implicitDefEqProofs only [Qe8 c1,Qe7 c,Qee,Qe5,cond_true,hh,Q0,d,f,Ub,Ue,Zk]
   ·simp -implicitDefEqProofs only [Qec c1,if_pos c] at hh;simp -implicitDefEqProofs only [Qe7 c1,Qe8 c,Qed,Qe5,cond_true,hh,Q0,d,f,Ub,Ue,Zk]
   ·simp -implicitDefEqProofs only [Qec c1,Qec c] at hh;simp -implicitDefEqProofs only [Qe7 c1,Qe7 c,Qee,Qe5,cond_true,hh,Q0,d,f,Ub,Ue,Zk]
 ·simp only [Int.toNat_natCast];rw [Y6,X6,Q0,show ((Pe X.Ls i).length:Int)=((X.nr i:Nat):Int) from rfl,Xb,Qe5,hk]
omit h in
def occs (X:Cx) (i:Nat):List (List Occ):=flat X.nr X.occ i
omit h in
def runs (X:Cx) (i:Nat):List Int:=flat X.nr X.run i
theorem Jd {i:Nat} (hi:i<=X.Ls.length):base X.nr i<=6:=by
 have a:=base_le h;by_cases hc:i=X.Ls.length
 ·rw [hc];exact a
 ·have:=Nn (nr:=X.nr) (i:=i) (j:=X.Ls.length) (by omega);unfold L at a;omega
theorem Qai {per:Int} {Ch Sy De:LL} (hc:UO 400 X.G.St X.G.Pt X.G.Se X.G.Li per X.skR X.Ro X.Ls Ch (X.T.map tuR) Sy De (some:Int->Option Int)=some 0):GK 400 X.G.St X.G.Pt X.G.Se X.G.Li per X.skR X.Ro X.Ls Ch (X.T.map tuR) Sy De Tu3=some (Ut (X.occs X.L),encI (X.runs X.L),(0:Int)):=by
 have l1:=h.l1;unfold GK;rw [hc,Q0,Q8 (by rfl)];refine QR (r:=fun m i=>Z5 400 X.Ls ((X.Ls.length:Nat):Int) X.G.St X.G.Pt X.G.Se X.G.Li per X.skR X.Ro X.Ls Ch (X.T.map tuR) Sy De (fun a=>some ([],[],a)) (fun g j b c=>some (b,c,(0:Int))) m i (Ut (X.occs i.toNat)) (encI (X.runs i.toNat))) (N:=X.Ls.length) (fun m i hi=>?_) (fun m=>?_) X.Ls.length 400 0 (by omega) (by omega)
 ·simp only [Int.toNat_natCast];have hb:=Jd h (i:=i) (by omega);rw [Z5,Qk hi,cond_true,Qp,(line h hi).1];simp -implicitDefEqProofs only [Q0,Qe4,Qe6,X6,Xa (show i<=1000 by omega)];exact Q86 h hi (A:=X.occs i) (B:=X.runs i) (by unfold occs;rw [WX];omega) (by unfold runs;rw [WX];omega) (K:=fun u v=>Z5 400 X.Ls ((X.Ls.length:Nat):Int) X.G.St X.G.Pt X.G.Se X.G.Li per X.skR X.Ro X.Ls Ch (X.T.map tuR) Sy De (fun a=>some ([],[],a)) (fun g j b c=>some (b,c,(0:Int))) m ((i+1:Nat):Int) u v) (fun _ _ _ _=>rfl)
 ·simp only [Int.toNat_natCast];rw [Z5,Xb,Qe5];rfl
theorem ridesQ {per:Int} {Ch Sy De:LL} (hc:UW 400 X.G.St X.G.Pt X.G.Se X.G.Li per X.skR X.Ro X.Ls Ch (X.T.map tuR) Sy De (some:Int->Option Int)=some 0):JF 400 X.G.St X.G.Pt X.G.Se X.G.Li per X.skR X.Ro X.Ls Ch (X.T.map tuR) Sy De Tu3=some (Ut (X.occs X.L),encI (X.runs X.L),(0:Int)):=by
 have l1:=h.l1;unfold JF;rw [hc,Q0,Q8 (by rfl)];refine QR (r:=fun m i=>Ws 400 X.G.St X.G.Pt X.G.Se X.G.Li per X.skR X.Ro X.Ls Ch (X.T.map tuR) Sy De (fun f g a b=>some (a,b,(0:Int))) m i (Ut (X.occs i.toNat)) (encI (X.runs i.toNat))) (N:=X.Ls.length) (fun m i hi=>?_) (fun m=>?_) X.Ls.length 400 0 (by omega) (by omega)
 ·simp only [Int.toNat_natCast];have hb:=Jd h (i:=i) (by omega);rw [Ws,Qk hi,cond_true,Qp,(line h hi).1];simp -implicitDefEqProofs only [Q0,Qe4,Qe6,X6,Xa (show i<=1000 by omega)];exact Q97 h hi (A:=X.occs i) (B:=X.runs i) (by unfold occs;rw [WX];omega) (by unfold runs;rw [WX];omega) (K:=fun u v=>Ws 400 X.G.St X.G.Pt X.G.Se X.G.Li per X.skR X.Ro X.Ls Ch (X.T.map tuR) Sy De (fun f g a b=>some (a,b,(0:Int))) m ((i+1:Nat):Int) u v) (fun _ _ _ _=>rfl)
 ·simp only [Int.toNat_natCast];rw [Ws,Xb,Qe5];rfl
end Cx

end Go.Vx
namespace Go.Vx
variable {R:Type}
def QW (n:Nat) (b c:Int) (k0:Int->Bool->LL->oP R):Nat->Int->LL->oP R
 | 0,_,_=>none
 | m+1,a,d=>bif decide (a<c) then gb true (YD ((d.length+List.length [[Q5 1,Q5 b,Q5 a],[Q5 2,Q5 b,Q5 a]])*24)) () fun e=>QW n b c k0 m (wJ (a+1)) (d++[[Q5 1,Q5 b,Q5 a],[Q5 2,Q5 b,Q5 a]]) else k0 a (decide (a<c)) d
def QH (n:Nat) (e:LL) (h2:Int) (k0:Int->Bool->LL->LL->oP R):Nat->Int->LL->LL->oP R
 | 0,_,_,_=>none
 | m+1,a,d,b=>bif decide (a<h2) then gb true (Q2 e a) [] fun c=>gb true (c[0]?) oF fun i=>gb true (c[1]?) oF fun j=>gb true (c[2]?) oF fun k=>gb true (c[3]?) oF fun f=>gb true (nz 2) () fun l=>gb true (YD ((d.length+[[Q5 (wJ (Int.tdiv (b.length:Int) 2))]].length)*8)) () fun o=>gb true (pSl 4 f) [] fun g=>QW n a (g.length:Int) (fun p q h=>QH n e h2 k0 m (wJ (a+1)) (d++[[Q5 (wJ (Int.tdiv (b.length:Int) 2))]]) h) n 0 b else k0 a (decide (a<h2)) d b
def Y2 (n:Nat) (b c d e:LL) (f:Int) (g h a i j k l q1 q2 q3 q4:LL) (m:Int) (o p:LL) (K:LL->LL->LL->LL->Int->LL->LL->LL->LL->LL->LL->LL->LL->LL->LL->LL->Int->LL->LL->oP R):oP R:= QH n a (a.length:Int) (fun s t q r=>K b c d e f g h a i j k l q q2 q3 q4 m r p) n 0 q1 o
def Xt (n:Nat) (a b c d:LL) (e:Int) (f g h i j k l q1 m o q2:LL) (p:Int) (q3 q4:LL) (a1 a2:Int) (K:Int->LL->LL->LL->LL->Int->LL->LL->LL->LL->LL->LL->LL->LL->LL->LL->LL->Int->LL->LL->oP R):oP R:= gb true (inB (q1.length) a1) () fun t=>gb true (q1[a1.toNat]?) [] fun q=>gb true (q[0]?) oF fun r=>gb true (pIw r) 0 fun s=>K (wJ (s+a2)) a b c d e f g h i j k l q1 m o q2 p q3 q4

def XM (n:Nat) (c d e f:LL) (g:Int) (h i j k l m o q1 p b q2:LL) (q:Int) (q3 q4:LL) (a1 a2 a3 a4 a5:Int) (K:LL->LL->LL->LL->Int->LL->LL->LL->LL->LL->LL->LL->LL->LL->LL->LL->Int->LL->LL->oP R):oP R:= gb true (Q2 b a1) [] fun r=>gb true (r[0]?) oF fun s=>gb true (pIw s) 0 fun a=>gb true (YD ((q2.length+[[Q5 a1,Q5 a2,Q5 (wJ (a+a4)),Q5 (wJ ((wJ (a+a3))+a5))]].length)*32)) () fun t=>K c d e f g h i j k l m o q1 p b (q2++[[Q5 a1,Q5 a2,Q5 (wJ (a+a4)),Q5 (wJ ((wJ (a+a3))+a5))]]) q q3 q4

def Zd (n:Nat) (d e f g:LL) (h:Int) (i j c k l m o q1 p q q2:LL) (r:Int) (q3 q4:LL) (a1:Int) (K:Int->LL->LL->LL->LL->Int->LL->LL->LL->LL->LL->LL->LL->LL->LL->LL->LL->Int->LL->LL->oP R):oP R:= gb true (Q2 c a1) [] fun b=>gb true (b[3]?) oF fun s=>gb true (pSl 4 s) [] fun t=>gb true (Xt n d e f g h i j c k l m o q1 p q q2 r q3 q4 a1 (wJ ((t.length:Int)-1)) Tu20) zZ0 fun a=>K a.1 a.2.1 a.2.2.1 a.2.2.2.1 a.2.2.2.2.1 a.2.2.2.2.2.1 a.2.2.2.2.2.2.1 a.2.2.2.2.2.2.2.1 a.2.2.2.2.2.2.2.2.1 a.2.2.2.2.2.2.2.2.2.1 a.2.2.2.2.2.2.2.2.2.2.1 a.2.2.2.2.2.2.2.2.2.2.2.1 a.2.2.2.2.2.2.2.2.2.2.2.2.1 a.2.2.2.2.2.2.2.2.2.2.2.2.2.1 a.2.2.2.2.2.2.2.2.2.2.2.2.2.2.1 a.2.2.2.2.2.2.2.2.2.2.2.2.2.2.2.1 a.2.2.2.2.2.2.2.2.2.2.2.2.2.2.2.2.1 a.2.2.2.2.2.2.2.2.2.2.2.2.2.2.2.2.2.1 a.2.2.2.2.2.2.2.2.2.2.2.2.2.2.2.2.2.2.1 a.2.2.2.2.2.2.2.2.2.2.2.2.2.2.2.2.2.2.2

def X4 (n:Nat) (ab:Int) (ae:LL) (ac:Int) (k0:Int->Bool->LL->LL->LL->LL->LL->LL->LL->LL->Int->LL->LL->LL->LL->LL->LL->LL->LL->LL->Int->oP R):Nat->Int->LL->LL->LL->LL->LL->LL->LL->LL->Int->LL->LL->LL->LL->LL->LL->LL->LL->LL->Int->oP R
 | 0,_,_,_,_,_,_,_,_,_,_,_,_,_,_,_,_,_,_,_,_=>none
 | m+1,d,ag,ah,ai,aj,ak,al,am,an,ao,ap,aq,ar,au,av,aw,ax,ay,az,ba=>bif decide (d<ac) then gb true (Q2 ae d) [] fun aa=>gb true (aa[0]?) oF fun bh=>gb true (aa[1]?) oF fun bb=>gb true (aa[2]?) oF fun bc=>gb true (aa[3]?) oF fun bd=>gb true (Xt n ak al am an ao ap aq ar au av aw ax ag ay az ah ba ai aj ab d Tu20) zZ0 fun a=>gb true (Xt n a.2.1 a.2.2.1 a.2.2.2.1 a.2.2.2.2.1 a.2.2.2.2.2.1 a.2.2.2.2.2.2.1 a.2.2.2.2.2.2.2.1 a.2.2.2.2.2.2.2.2.1 a.2.2.2.2.2.2.2.2.2.1 a.2.2.2.2.2.2.2.2.2.2.1 a.2.2.2.2.2.2.2.2.2.2.2.1 a.2.2.2.2.2.2.2.2.2.2.2.2.1 a.2.2.2.2.2.2.2.2.2.2.2.2.2.1 a.2.2.2.2.2.2.2.2.2.2.2.2.2.2.1 a.2.2.2.2.2.2.2.2.2.2.2.2.2.2.2.1 a.2.2.2.2.2.2.2.2.2.2.2.2.2.2.2.2.1 a.2.2.2.2.2.2.2.2.2.2.2.2.2.2.2.2.2.1 a.2.2.2.2.2.2.2.2.2.2.2.2.2.2.2.2.2.2.1 a.2.2.2.2.2.2.2.2.2.2.2.2.2.2.2.2.2.2.2 ab (wJ (d+1)) Tu20) zZ0 fun b=>gb true (pIw bb) 0 fun i64=>gb true (pIw bc) 0 fun be=>gb true (pIw bd) 0 fun bg=>gb true (XM n b.2.1 b.2.2.1 b.2.2.2.1 b.2.2.2.2.1 b.2.2.2.2.2.1 b.2.2.2.2.2.2.1 b.2.2.2.2.2.2.2.1 b.2.2.2.2.2.2.2.2.1 b.2.2.2.2.2.2.2.2.2.1 b.2.2.2.2.2.2.2.2.2.2.1 b.2.2.2.2.2.2.2.2.2.2.2.1 b.2.2.2.2.2.2.2.2.2.2.2.2.1 b.2.2.2.2.2.2.2.2.2.2.2.2.2.1 b.2.2.2.2.2.2.2.2.2.2.2.2.2.2.1 b.2.2.2.2.2.2.2.2.2.2.2.2.2.2.2.1 b.2.2.2.2.2.2.2.2.2.2.2.2.2.2.2.2.1 b.2.2.2.2.2.2.2.2.2.2.2.2.2.2.2.2.2.1 b.2.2.2.2.2.2.2.2.2.2.2.2.2.2.2.2.2.2.1 b.2.2.2.2.2.2.2.2.2.2.2.2.2.2.2.2.2.2.2 a.1 b.1 i64 be bg Tu19) zZ1 fun c=>X4 n ab ae ac k0 m (wJ (d+1)) c.2.2.2.2.2.2.2.2.2.2.2.2.1 c.2.2.2.2.2.2.2.2.2.2.2.2.2.2.2.1 c.2.2.2.2.2.2.2.2.2.2.2.2.2.2.2.2.2.1 c.2.2.2.2.2.2.2.2.2.2.2.2.2.2.2.2.2.2 c.1 c.2.1 c.2.2.1 c.2.2.2.1 c.2.2.2.2.1 c.2.2.2.2.2.1 c.2.2.2.2.2.2.1 c.2.2.2.2.2.2.2.1 c.2.2.2.2.2.2.2.2.1 c.2.2.2.2.2.2.2.2.2.1 c.2.2.2.2.2.2.2.2.2.2.1 c.2.2.2.2.2.2.2.2.2.2.2.1 c.2.2.2.2.2.2.2.2.2.2.2.2.2.1 c.2.2.2.2.2.2.2.2.2.2.2.2.2.2.1 c.2.2.2.2.2.2.2.2.2.2.2.2.2.2.2.2.1 else k0 d (decide (d<ac)) ag ah ai aj ak al am an ao ap aq ar au av aw ax ay az ba
def Qu (n:Nat) (d:LL) (h2:Int) (k0:Int->Bool->LL->LL->LL->LL->LL->LL->LL->LL->Int->LL->LL->LL->LL->LL->LL->LL->LL->LL->Int->oP R):Nat->Int->LL->LL->LL->LL->LL->LL->LL->LL->Int->LL->LL->LL->LL->LL->LL->LL->LL->LL->Int->oP R
 | 0,_,_,_,_,_,_,_,_,_,_,_,_,_,_,_,_,_,_,_,_=>none
 | m+1,a,e,f,g,h,i,j,k,l,o,p,q,r,s,t,u,v,x,y,z=>bif decide (a<h2) then gb true (Q2 d a) [] fun b=>gb true (b[0]?) oF fun az=>gb true (b[1]?) oF fun ba=>gb true (b[2]?) oF fun bb=>gb true (b[3]?) oF fun aa=>gb true (pSl 4 aa) [] fun c=>gb true (pSl 4 aa) [] fun ac=>gb true (slB (c.length) none (some (wJ ((ac.length:Int)-1)))) (0,0) fun ab=>X4 n a (cut c ab) ((List.length (cut c ab):Nat):Int) (fun bc bd ad ae ag ah ai aj ak al am an ao ap aq ar au av aw ax ay=>Qu n d h2 k0 m (wJ (a+1)) ad ae ag ah ai aj ak al am an ao ap aq ar au av aw ax ay) n 0 e f g h i j k l o p q r s t u v x y z else k0 a (decide (a<h2)) e f g h i j k l o p q r s t u v x y z
def X3 (n:Nat) (ae:LL) (ab:Int) (k0:Int->Bool->LL->LL->LL->LL->LL->LL->LL->LL->Int->LL->LL->LL->LL->LL->LL->LL->LL->LL->Int->oP R):Nat->Int->LL->LL->LL->LL->LL->LL->LL->LL->Int->LL->LL->LL->LL->LL->LL->LL->LL->LL->Int->oP R
 | 0,_,_,_,_,_,_,_,_,_,_,_,_,_,_,_,_,_,_,_,_=>none
 | m+1,d,ag,ah,ai,aj,ak,al,am,an,ao,ap,aq,ac,ar,au,av,aw,ax,ay,az=>bif decide (d<ab) then gb true (Q2 ae d) [] fun aa=>gb true (aa[0]?) oF fun ba=>gb true (aa[1]?) oF fun bc=>gb true (aa[2]?) oF fun bd=>gb true (aa[3]?) oF fun be=>gb true (pIw ba) 0 fun bg=>gb true (Q2 ac bg) [] fun bh=>gb true (bh[3]?) oF fun bi=>gb true (pSl 4 bi) [] fun bb=>gb true (pIw ba) 0 fun bj=>gb true (Zd n ak al am an ao ap aq ac ar au av aw ag ax ay ah az ai aj bj Tu20) zZ0 fun a=>gb true (pIw bc) 0 fun bk=>gb true (Xt n a.2.1 a.2.2.1 a.2.2.2.1 a.2.2.2.2.1 a.2.2.2.2.2.1 a.2.2.2.2.2.2.1 a.2.2.2.2.2.2.2.1 a.2.2.2.2.2.2.2.2.1 a.2.2.2.2.2.2.2.2.2.1 a.2.2.2.2.2.2.2.2.2.2.1 a.2.2.2.2.2.2.2.2.2.2.2.1 a.2.2.2.2.2.2.2.2.2.2.2.2.1 a.2.2.2.2.2.2.2.2.2.2.2.2.2.1 a.2.2.2.2.2.2.2.2.2.2.2.2.2.2.1 a.2.2.2.2.2.2.2.2.2.2.2.2.2.2.2.1 a.2.2.2.2.2.2.2.2.2.2.2.2.2.2.2.2.1 a.2.2.2.2.2.2.2.2.2.2.2.2.2.2.2.2.2.1 a.2.2.2.2.2.2.2.2.2.2.2.2.2.2.2.2.2.2.1 a.2.2.2.2.2.2.2.2.2.2.2.2.2.2.2.2.2.2.2 bk 0 Tu20) zZ0 fun b=>gb true (Q2 bb (wJ ((bb.length:Int)-1))) [] fun bl=>gb true (bl[1]?) oF fun bm=>gb true (pIw bm) 0 fun bn=>gb true (pIw bd) 0 fun bo=>gb true (pIw be) 0 fun bp=>gb true (XM n b.2.1 b.2.2.1 b.2.2.2.1 b.2.2.2.2.1 b.2.2.2.2.2.1 b.2.2.2.2.2.2.1 b.2.2.2.2.2.2.2.1 b.2.2.2.2.2.2.2.2.1 b.2.2.2.2.2.2.2.2.2.1 b.2.2.2.2.2.2.2.2.2.2.1 b.2.2.2.2.2.2.2.2.2.2.2.1 b.2.2.2.2.2.2.2.2.2.2.2.2.1 b.2.2.2.2.2.2.2.2.2.2.2.2.2.1 b.2.2.2.2.2.2.2.2.2.2.2.2.2.2.1 b.2.2.2.2.2.2.2.2.2.2.2.2.2.2.2.1 b.2.2.2.2.2.2.2.2.2.2.2.2.2.2.2.2.1 b.2.2.2.2.2.2.2.2.2.2.2.2.2.2.2.2.2.1 b.2.2.2.2.2.2.2.2.2.2.2.2.2.2.2.2.2.2.1 b.2.2.2.2.2.2.2.2.2.2.2.2.2.2.2.2.2.2.2 a.1 b.1 bn bo bp Tu19) zZ1 fun c=>X3 n ae ab k0 m (wJ (d+1)) c.2.2.2.2.2.2.2.2.2.2.2.2.1 c.2.2.2.2.2.2.2.2.2.2.2.2.2.2.2.1 c.2.2.2.2.2.2.2.2.2.2.2.2.2.2.2.2.2.1 c.2.2.2.2.2.2.2.2.2.2.2.2.2.2.2.2.2.2 c.1 c.2.1 c.2.2.1 c.2.2.2.1 c.2.2.2.2.1 c.2.2.2.2.2.1 c.2.2.2.2.2.2.1 c.2.2.2.2.2.2.2.1 c.2.2.2.2.2.2.2.2.1 c.2.2.2.2.2.2.2.2.2.1 c.2.2.2.2.2.2.2.2.2.2.1 c.2.2.2.2.2.2.2.2.2.2.2.1 c.2.2.2.2.2.2.2.2.2.2.2.2.2.1 c.2.2.2.2.2.2.2.2.2.2.2.2.2.2.1 c.2.2.2.2.2.2.2.2.2.2.2.2.2.2.2.2.1 else k0 d (decide (d<ab)) ag ah ai aj ak al am an ao ap aq ac ar au av aw ax ay az
def Y8 (n:Nat) (c d e f:LL) (g:Int) (h i a j k l m q1 o p q2:LL) (q:Int) (q3 q4:LL) (K:LL->LL->LL->LL->Int->LL->LL->LL->LL->LL->LL->LL->LL->LL->LL->LL->Int->LL->LL->oP R):oP R:= Qu n a (a.length:Int) (fun bh bi r s t u v x y z aa ab ac ad ae b ag ah ai aj ak=>X3 n b (b.length:Int) (fun bj bk al am an ao ap aq ar au av aw ax ay az ba bb bc bd be bg=>K ap aq ar au av aw ax ay az ba bb bc al bd be am bg an ao) n 0 r s t u v x y z aa ab ac ad ae b ag ah ai aj ak) n 0 q1 q2 q3 q4 c d e f g h i a j k l m o p q

def ZW (n:Nat) (h2:LL) (e:Int) (k0:oP R) (k1:Int->Int->Bool->oP R):Nat->Int->Int->oP R
 | 0,_,_=>none
 | m+1,a,b=>bif decide (b<e) then gb true (Q2 h2 b) [] fun f=>gb true (f[0]?) oF fun g=>gb true (f[1]?) oF fun h=>gb true (f[2]?) oF fun i=>gb true (pIw g) 0 fun c=>gb (!(decide (c<=a))) (pIw h) 0 fun d=>gb (!(bif decide (c<=a) then true else (decide (d<(-65536:Int))))) (pIw h) 0 fun j=>gb (!(bif decide (c<=a) then true else (decide (d<(-65536:Int))))) (pIw i) 0 fun k=>gb (!(bif (bif decide (c<=a) then true else (decide (d<(-65536:Int)))) then true else (decide (j>=k)))) (pIw i) 0 fun l=>bif (bif (bif (bif decide (c<=a) then true else (decide (d<(-65536:Int)))) then true else (decide (j>=k))) then true else (decide (l>65536))) then k0 else gb true (pIw g) 0 fun o=>ZW n h2 e k0 k1 m o (wJ (b+1)) else k1 a b (decide (b<e))
def UQ (n:Nat) (a0:LL) (K:Bool->oP R):oP R:= ZW n a0 (a0.length:Int) (K false) (fun a b c=>K true) n (-1:Int) 0

def W0 (n:Nat) (h2:Int) (d:LL) (b:Int) (k0:oP R) (k1:Int->Bool->oP R):Nat->Int->oP R
 | 0,_=>none
 | m+1,a=>bif decide (a<b) then gb true (Q2 d a) [] fun c=>gb true (c[0]?) oF fun i=>gb true (c[1]?) oF fun e=>gb true (c[2]?) oF fun f=>gb true (pIw f) 0 fun g=>gb true (pIw e) 0 fun h=>bif (decide ((wJ (g-h))>h2)) then k0 else W0 n h2 d b k0 k1 m (wJ (a+1)) else k1 a (decide (a<b))
def GF (n:Nat) (a0:Int) (a1:LL) (K:Bool->oP R):oP R:= gb (!(bif decide (a0<1) then true else (decide (a0>7200)))) (UQ n a1 some) false fun a=>bif (bif (bif decide (a0<1) then true else (decide (a0>7200))) then true else (!a)) then K false else W0 n a0 a1 (a1.length:Int) (K false) (fun b c=>K true) n 0

def XL (n:Nat) (ad c d ae e f h i a b:Int) (j:Bool) (k l m o:LL) (g:Int) (p q r s t u v q4 x y z:LL) (aa:Int) (q5 q6:LL) (K:Int->Int->Int->Int->Bool->LL->LL->LL->LL->Int->LL->LL->LL->LL->LL->LL->LL->LL->LL->LL->LL->Int->LL->LL->oP R):oP R:= K h i a b (bif j then true else (decide ((wJ ((if d<(wJ (b+f)) then (wJ (b+f)) else d)-(if (wJ (a+e))<c then (wJ (a+e)) else c)))>g))) k l m o g p q r s t u v q4 x y z aa q5 q6

def X8 (n:Nat) (f:LL) (c g:Int) (d h e:D) (k0:Int->Bool->LL->LL->LL->LL->LL->LL->LL->Int->LL->LL->LL->LL->LL->LL->LL->LL->LL->LL->Int->Int->Int->Int->Int->Bool->oP R):Nat->Int->LL->LL->LL->LL->LL->LL->LL->Int->LL->LL->LL->LL->LL->LL->LL->LL->LL->LL->Int->Int->Int->Int->Int->Bool->oP R
 | 0,_,_,_,_,_,_,_,_,_,_,_,_,_,_,_,_,_,_,_,_,_,_,_,_,_=>none
 | m+1,b,i,j,k,l,o,p,q,r,s,t,u,v,x,y,z,aa,ab,ac,ad,ae,ag,ah,ai,aj=>bif decide (b<c) then gb true (Q2 f b) [] fun ak=>gb true (ak[0]?) oF fun an=>gb true (ak[1]?) oF fun ao=>gb true (ak[2]?) oF fun ap=>gb true (pIw d) 0 fun al=>gb true (pIw an) 0 fun am=>gb (al == am) (pIw ao) 0 fun aq=>gb (al == am) (pIw e) 0 fun ar=>bif (bif (al == am) then (decide ((wJ (g+aq))<=ar)) else false) then gb true (pIw d) 0 fun au=>gb true (pIw h) 0 fun av=>gb true (pIw e) 0 fun aw=>gb true (pIw an) 0 fun ax=>gb true (pIw ao) 0 fun ay=>gb true (pIw ap) 0 fun az=>gb true (XL n au av aw ax ay az ae ag ah ai aj l o p q r s t u v x y z i aa ab ac ad j k Tu24) (0,0,0,0,false,[],[],[],[],0,[],[],[],[],[],[],[],[],[],[],[],0,[],[]) fun a=>X8 n f c g d h e k0 m (wJ (b+1)) a.2.2.2.2.2.2.2.2.2.2.2.2.2.2.2.2.2.1 a.2.2.2.2.2.2.2.2.2.2.2.2.2.2.2.2.2.2.2.2.2.2.1 a.2.2.2.2.2.2.2.2.2.2.2.2.2.2.2.2.2.2.2.2.2.2.2 a.2.2.2.2.2.1 a.2.2.2.2.2.2.1 a.2.2.2.2.2.2.2.1 a.2.2.2.2.2.2.2.2.1 a.2.2.2.2.2.2.2.2.2.1 a.2.2.2.2.2.2.2.2.2.2.1 a.2.2.2.2.2.2.2.2.2.2.2.1 a.2.2.2.2.2.2.2.2.2.2.2.2.1 a.2.2.2.2.2.2.2.2.2.2.2.2.2.1 a.2.2.2.2.2.2.2.2.2.2.2.2.2.2.1 a.2.2.2.2.2.2.2.2.2.2.2.2.2.2.2.1 a.2.2.2.2.2.2.2.2.2.2.2.2.2.2.2.2.1 a.2.2.2.2.2.2.2.2.2.2.2.2.2.2.2.2.2.2.1 a.2.2.2.2.2.2.2.2.2.2.2.2.2.2.2.2.2.2.2.1 a.2.2.2.2.2.2.2.2.2.2.2.2.2.2.2.2.2.2.2.2.1 a.2.2.2.2.2.2.2.2.2.2.2.2.2.2.2.2.2.2.2.2.2.1 a.1 a.2.1 a.2.2.1 a.2.2.2.1 a.2.2.2.2.1 else X8 n f c g d h e k0 m (wJ (b+1)) i j k l o p q r s t u v x y z aa ab ac ad ae ag ah ai aj else k0 b (decide (b<c)) i j k l o p q r s t u v x y z aa ab ac ad ae ag ah ai aj
def QO (n:Nat) (e:LL) (b f g:Int) (k0:Int->Bool->LL->LL->LL->LL->LL->LL->LL->Int->LL->LL->LL->LL->LL->LL->LL->LL->LL->LL->Int->Int->Int->Int->Int->Bool->oP R):Nat->Int->LL->LL->LL->LL->LL->LL->LL->Int->LL->LL->LL->LL->LL->LL->LL->LL->LL->LL->Int->Int->Int->Int->Int->Bool->oP R
 | 0,_,_,_,_,_,_,_,_,_,_,_,_,_,_,_,_,_,_,_,_,_,_,_,_,_=>none
 | m+1,a,h,i,j,k,l,o,p,q,r,s,t,u,v,x,y,c,z,aa,ab,ac,ad,ae,ag,ah=>bif decide (a<b) then gb true (Q2 e a) [] fun d=>gb true (d[0]?) oF fun aj=>gb true (d[1]?) oF fun ak=>gb true (d[2]?) oF fun al=>gb true (Q2 c f) [] fun am=>gb true (am[0]?) oF fun an=>gb true (pSl 3 an) [] fun ai=>X8 n ai (ai.length:Int) g aj ak al (fun bp bq ao ap aq ar au av aw ax ay az ba bb bc bd be bg bh bi bj bk bl bm bn bo=>QO n e b f g k0 m (wJ (a+1)) ao ap aq ar au av aw ax ay az ba bb bc bd be bg bh bi bj bk bl bm bn bo) n 0 h i j k l o p q r s t u v x y c z aa ab ac ad ae ag ah else k0 a (decide (a<b)) h i j k l o p q r s t u v x y c z aa ab ac ad ae ag ah
def WZ (n:Nat) (c d e f:LL) (g:Int) (h i j k l m o q1 a p q:LL) (r:Int) (q2 q3:LL) (s t u be v x y z:Int) (aa:Bool) (K:LL->LL->LL->LL->Int->LL->LL->LL->LL->LL->LL->LL->LL->LL->LL->LL->Int->LL->LL->Int->Int->Int->Int->Bool->oP R):oP R:= gb true (Q2 a s) [] fun r1=>gb true (r1[0]?) oF fun c2=>gb true (pSl 3 c2) [] fun b=>QO n b (b.length:Int) t u (fun bg bh ad ae ag ah ai aj ak al am an ao ap aq ar au av aw ax ay az ba bb bc bd=>K ah ai aj ak al am an ao ap aq ar au ad av aw ax ay ae ag az ba bb bc bd) n 0 q1 q2 q3 c d e f g h i j k l m o a p q r v x y z aa

def Xi (n:Nat) (b:LL) (h2 c:Int) (k0:oP R) (k1:Int->Bool->oP R):Nat->Int->oP R
 | 0,_=>none
 | m+1,a=>bif decide (a<h2) then gb true (Q2 b a) [] fun d=>gb true (d[0]?) oF fun e=>gb true (pSl 3 e) [] fun f=>gb true (GF n c f some) false fun g=>bif !g then k0 else Xi n b h2 c k0 k1 m (wJ (a+1)) else k1 a (decide (a<h2))
def Xl (n:Nat) (e:LL) (d:Int) (k0:LL->LL->LL->LL->LL->LL->LL->Int->LL->LL->LL->LL->LL->LL->LL->LL->LL->LL->Int->oP R) (k1:Int->Bool->LL->LL->LL->LL->LL->LL->LL->Int->LL->LL->LL->LL->LL->LL->LL->LL->LL->LL->Int->oP R):Nat->Int->LL->LL->LL->LL->LL->LL->LL->Int->LL->LL->LL->LL->LL->LL->LL->LL->LL->LL->Int->oP R
 | 0,_,_,_,_,_,_,_,_,_,_,_,_,_,_,_,_,_,_,_,_=>none
 | m+1,b,f,g,h,i,j,k,l,o,p,q,r,s,t,u,v,x,y,z,aa=>bif decide (b<d) then gb true (Q2 e b) [] fun c=>gb true (c[0]?) oF fun ab=>gb true (c[1]?) oF fun ac=>gb true (c[2]?) oF fun ad=>gb true (c[3]?) oF fun ae=>gb true (pIw ab) 0 fun ag=>gb true (pIw ac) 0 fun ah=>gb true (pIw ad) 0 fun ai=>gb true (pIw ae) 0 fun aj=>gb true (pIw ab) 0 fun ak=>gb true (pIw ac) 0 fun al=>gb true (pIw ad) 0 fun am=>gb true (pIw ae) 0 fun an=>gb true (WZ n i j k l o p q r s t u v f x y z aa g h ag ah ai aj ak al am an false Tu24) ([],[],[],[],0,[],[],[],[],[],[],[],[],[],[],[],0,[],[],0,0,0,0,false) fun a=>bif a.2.2.2.2.2.2.2.2.2.2.2.2.2.2.2.2.2.2.2.2.2.2.2 then k0 a.2.2.2.2.2.2.2.2.2.2.2.2.1 a.2.2.2.2.2.2.2.2.2.2.2.2.2.2.2.2.2.1 a.2.2.2.2.2.2.2.2.2.2.2.2.2.2.2.2.2.2.1 a.1 a.2.1 a.2.2.1 a.2.2.2.1 a.2.2.2.2.1 a.2.2.2.2.2.1 a.2.2.2.2.2.2.1 a.2.2.2.2.2.2.2.1 a.2.2.2.2.2.2.2.2.1 a.2.2.2.2.2.2.2.2.2.1 a.2.2.2.2.2.2.2.2.2.2.1 a.2.2.2.2.2.2.2.2.2.2.2.1 a.2.2.2.2.2.2.2.2.2.2.2.2.2.1 a.2.2.2.2.2.2.2.2.2.2.2.2.2.2.1 a.2.2.2.2.2.2.2.2.2.2.2.2.2.2.2.1 a.2.2.2.2.2.2.2.2.2.2.2.2.2.2.2.2.1 else Xl n e d k0 k1 m (wJ (b+1)) a.2.2.2.2.2.2.2.2.2.2.2.2.1 a.2.2.2.2.2.2.2.2.2.2.2.2.2.2.2.2.2.1 a.2.2.2.2.2.2.2.2.2.2.2.2.2.2.2.2.2.2.1 a.1 a.2.1 a.2.2.1 a.2.2.2.1 a.2.2.2.2.1 a.2.2.2.2.2.1 a.2.2.2.2.2.2.1 a.2.2.2.2.2.2.2.1 a.2.2.2.2.2.2.2.2.1 a.2.2.2.2.2.2.2.2.2.1 a.2.2.2.2.2.2.2.2.2.2.1 a.2.2.2.2.2.2.2.2.2.2.2.1 a.2.2.2.2.2.2.2.2.2.2.2.2.2.1 a.2.2.2.2.2.2.2.2.2.2.2.2.2.2.1 a.2.2.2.2.2.2.2.2.2.2.2.2.2.2.2.1 a.2.2.2.2.2.2.2.2.2.2.2.2.2.2.2.2.1 else k1 b (decide (b<d)) f g h i j k l o p q r s t u v x y z aa
def Z2 (n:Nat) (c d e f:LL) (b:Int) (g h i j k l m q1 a o q2:LL) (p:Int) (q3 q4:LL) (K:Bool->LL->LL->LL->LL->Int->LL->LL->LL->LL->LL->LL->LL->LL->LL->LL->LL->Int->LL->LL->oP R):oP R:= Xi n a (a.length:Int) b (K false c d e f b g h i j k l m q1 a o q2 p q3 q4) (fun bh bi=>Xl n q2 (q2.length:Int) (fun q r s t u v x y z aa ab ac ad ae ag ah ai aj ak=>K false t u v x y z aa ab ac ad ae ag q ah ai aj ak r s) (fun bj bk al am an ao ap aq ar au av aw ax ay az ba bb bc bd be bg=>K true ao ap aq ar au av aw ax ay az ba bb al bc bd be bg am an) n 0 q1 q3 q4 c d e f b g h i j k l m a o q2 p) n 0

def QS (n:Nat) (a b c d:LL) (e:Int) (f g h i j k l q1 m o p:LL) (q:Int) (q2 q3:LL) (a1 a2:Int) (K:Int->LL->LL->LL->LL->Int->LL->LL->LL->LL->LL->LL->LL->LL->LL->LL->LL->Int->LL->LL->oP R):oP R:= gb true (inB (q1.length) a1) () fun u=>gb true (q1[a1.toNat]?) [] fun r=>gb true (r[0]?) oF fun s=>gb true (pIw s) 0 fun t=>K (wJ (t+a2)) a b c d e f g h i j k l q1 m o p q q2 q3

def XT (n:Nat) (a0:Int) (K:Int->oP R):oP R:= K (wJ (2*a0))

def Wp (n:Nat) (a0:Int) (K:Int->oP R):oP R:= K (wJ ((wJ (2*a0))+1))

def X2 (n:Nat) (b c d e:LL) (f:Int) (g h i j k l m q1 o p q:LL) (r:Int) (q2 q3:LL) (a1 a2 a3 a4 a5 a:Int) (K:LL->LL->LL->LL->Int->LL->LL->LL->LL->LL->LL->LL->LL->LL->LL->LL->Int->LL->LL->oP R):oP R:= gb true (YD ((q3.length+[[Q5 a1,Q5 a2,Q5 a3,Q5 a4,Q5 a5,Q5 a]].length)*48)) () fun s=>K b c d e f g h i j k l m q1 o p q r q2 (q3++[[Q5 a1,Q5 a2,Q5 a3,Q5 a4,Q5 a5,Q5 a]])

def WW (n:Nat) (d e f g:LL) (h:Int) (i j c k l m o q1 p q r:LL) (s:Int) (q2 q3:LL) (a1:Int) (K:Int->LL->LL->LL->LL->Int->LL->LL->LL->LL->LL->LL->LL->LL->LL->LL->LL->Int->LL->LL->oP R):oP R:= gb true (Q2 c a1) [] fun b=>gb true (b[3]?) oF fun t=>gb true (pSl 4 t) [] fun u=>gb true (QS n d e f g h i j c k l m o q1 p q r s q2 q3 a1 (wJ ((u.length:Int)-1)) Tu20) zZ0 fun a=>K a.1 a.2.1 a.2.2.1 a.2.2.2.1 a.2.2.2.2.1 a.2.2.2.2.2.1 a.2.2.2.2.2.2.1 a.2.2.2.2.2.2.2.1 a.2.2.2.2.2.2.2.2.1 a.2.2.2.2.2.2.2.2.2.1 a.2.2.2.2.2.2.2.2.2.2.1 a.2.2.2.2.2.2.2.2.2.2.2.1 a.2.2.2.2.2.2.2.2.2.2.2.2.1 a.2.2.2.2.2.2.2.2.2.2.2.2.2.1 a.2.2.2.2.2.2.2.2.2.2.2.2.2.2.1 a.2.2.2.2.2.2.2.2.2.2.2.2.2.2.2.1 a.2.2.2.2.2.2.2.2.2.2.2.2.2.2.2.2.1 a.2.2.2.2.2.2.2.2.2.2.2.2.2.2.2.2.2.1 a.2.2.2.2.2.2.2.2.2.2.2.2.2.2.2.2.2.2.1 a.2.2.2.2.2.2.2.2.2.2.2.2.2.2.2.2.2.2.2

def Qq (n:Nat) (ad:Int) (ae:LL) (aa:Int) (ab ag:D) (k0:Int->Bool->LL->LL->LL->LL->LL->LL->LL->Int->LL->LL->LL->LL->LL->LL->LL->LL->LL->LL->Int->oP R):Nat->Int->LL->LL->LL->LL->LL->LL->LL->Int->LL->LL->LL->LL->LL->LL->LL->LL->LL->LL->Int->oP R
 | 0,_,_,_,_,_,_,_,_,_,_,_,_,_,_,_,_,_,_,_,_=>none
 | m+1,d,ah,ai,aj,ak,al,am,an,ao,ap,aq,ar,au,av,aw,ax,ay,az,ba,bb=>bif decide (d<aa) then gb true (Q2 ae d) [] fun ac=>gb true (ac[0]?) oF fun bv=>gb true (ac[1]?) oF fun bd=>gb true (ac[2]?) oF fun be=>gb true (ac[3]?) oF fun bg=>gb true (QS n ak al am an ao ap aq ar au av aw ax ah ay az ba bb ai aj ad d Tu20) zZ0 fun b=>gb true (Q2 b.2.2.2.2.2.2.2.2.2.2.2.2.2.2.2.1 b.1) [] fun bi=>gb true (bi[0]?) oF fun bj=>gb true (pIw bj) 0 fun bc=>gb true (XT n b.1 some) 0 fun bk=>gb true (Wp n b.1 some) 0 fun bl=>gb true (pIw bd) 0 fun bm=>gb true (pIw ab) 0 fun bn=>gb true (X2 n b.2.1 b.2.2.1 b.2.2.2.1 b.2.2.2.2.1 b.2.2.2.2.2.1 b.2.2.2.2.2.2.1 b.2.2.2.2.2.2.2.1 b.2.2.2.2.2.2.2.2.1 b.2.2.2.2.2.2.2.2.2.1 b.2.2.2.2.2.2.2.2.2.2.1 b.2.2.2.2.2.2.2.2.2.2.2.1 b.2.2.2.2.2.2.2.2.2.2.2.2.1 b.2.2.2.2.2.2.2.2.2.2.2.2.2.1 b.2.2.2.2.2.2.2.2.2.2.2.2.2.2.1 b.2.2.2.2.2.2.2.2.2.2.2.2.2.2.2.1 b.2.2.2.2.2.2.2.2.2.2.2.2.2.2.2.2.1 b.2.2.2.2.2.2.2.2.2.2.2.2.2.2.2.2.2.1 b.2.2.2.2.2.2.2.2.2.2.2.2.2.2.2.2.2.2.1 b.2.2.2.2.2.2.2.2.2.2.2.2.2.2.2.2.2.2.2 1 bk bl bc (wJ (bc+bm)) bn Tu19) zZ1 fun a=>gb true (pSl 4 ag) [] fun bo=>bif (decide (d<(wJ ((bo.length:Int)-1)))) then gb true (Wp n b.1 some) 0 fun bp=>gb true (XT n (wJ (b.1+1)) some) 0 fun bq=>gb true (pIw be) 0 fun br=>gb true (pIw bg) 0 fun bt=>gb true (pIw ab) 0 fun bu=>gb true (X2 n a.1 a.2.1 a.2.2.1 a.2.2.2.1 a.2.2.2.2.1 a.2.2.2.2.2.1 a.2.2.2.2.2.2.1 a.2.2.2.2.2.2.2.1 a.2.2.2.2.2.2.2.2.1 a.2.2.2.2.2.2.2.2.2.1 a.2.2.2.2.2.2.2.2.2.2.1 a.2.2.2.2.2.2.2.2.2.2.2.1 a.2.2.2.2.2.2.2.2.2.2.2.2.1 a.2.2.2.2.2.2.2.2.2.2.2.2.2.1 a.2.2.2.2.2.2.2.2.2.2.2.2.2.2.1 a.2.2.2.2.2.2.2.2.2.2.2.2.2.2.2.1 a.2.2.2.2.2.2.2.2.2.2.2.2.2.2.2.2.1 a.2.2.2.2.2.2.2.2.2.2.2.2.2.2.2.2.2.1 a.2.2.2.2.2.2.2.2.2.2.2.2.2.2.2.2.2.2 2 bp bq br bt bu Tu19) zZ1 fun c=>Qq n ad ae aa ab ag k0 m (wJ (d+1)) c.2.2.2.2.2.2.2.2.2.2.2.2.1 c.2.2.2.2.2.2.2.2.2.2.2.2.2.2.2.2.2.1 c.2.2.2.2.2.2.2.2.2.2.2.2.2.2.2.2.2.2 c.1 c.2.1 c.2.2.1 c.2.2.2.1 c.2.2.2.2.1 c.2.2.2.2.2.1 c.2.2.2.2.2.2.1 c.2.2.2.2.2.2.2.1 c.2.2.2.2.2.2.2.2.1 c.2.2.2.2.2.2.2.2.2.1 c.2.2.2.2.2.2.2.2.2.2.1 c.2.2.2.2.2.2.2.2.2.2.2.1 c.2.2.2.2.2.2.2.2.2.2.2.2.2.1 c.2.2.2.2.2.2.2.2.2.2.2.2.2.2.1 c.2.2.2.2.2.2.2.2.2.2.2.2.2.2.2.1 c.2.2.2.2.2.2.2.2.2.2.2.2.2.2.2.2.1 else Qq n ad ae aa ab ag k0 m (wJ (d+1)) a.2.2.2.2.2.2.2.2.2.2.2.2.1 a.2.2.2.2.2.2.2.2.2.2.2.2.2.2.2.2.2.1 a.2.2.2.2.2.2.2.2.2.2.2.2.2.2.2.2.2.2 a.1 a.2.1 a.2.2.1 a.2.2.2.1 a.2.2.2.2.1 a.2.2.2.2.2.1 a.2.2.2.2.2.2.1 a.2.2.2.2.2.2.2.1 a.2.2.2.2.2.2.2.2.1 a.2.2.2.2.2.2.2.2.2.1 a.2.2.2.2.2.2.2.2.2.2.1 a.2.2.2.2.2.2.2.2.2.2.2.1 a.2.2.2.2.2.2.2.2.2.2.2.2.2.1 a.2.2.2.2.2.2.2.2.2.2.2.2.2.2.1 a.2.2.2.2.2.2.2.2.2.2.2.2.2.2.2.1 a.2.2.2.2.2.2.2.2.2.2.2.2.2.2.2.2.1 else k0 d (decide (d<aa)) ah ai aj ak al am an ao ap aq ar au av aw ax ay az ba bb
def QA (n:Nat) (c:LL) (h2:Int) (k0:Int->Bool->LL->LL->LL->LL->LL->LL->LL->Int->LL->LL->LL->LL->LL->LL->LL->LL->LL->LL->Int->oP R):Nat->Int->LL->LL->LL->LL->LL->LL->LL->Int->LL->LL->LL->LL->LL->LL->LL->LL->LL->LL->Int->oP R
 | 0,_,_,_,_,_,_,_,_,_,_,_,_,_,_,_,_,_,_,_,_=>none
 | m+1,a,d,e,f,g,h,i,j,k,l,o,p,q,r,s,t,u,v,x,y=>bif decide (a<h2) then gb true (Q2 c a) [] fun b=>gb true (b[0]?) oF fun ay=>gb true (b[1]?) oF fun az=>gb true (b[2]?) oF fun ab=>gb true (b[3]?) oF fun z=>gb true (pSl 4 z) [] fun aa=>Qq n a aa (aa.length:Int) ab z (fun ba bb ac ad ae ag ah ai aj ak al am an ao ap aq ar au av aw ax=>QA n c h2 k0 m (wJ (a+1)) ac ad ae ag ah ai aj ak al am an ao ap aq ar au av aw ax) n 0 d e f g h i j k l o p q r s t u v x y else k0 a (decide (a<h2)) d e f g h i j k l o p q r s t u v x y
def QC (n:Nat) (ad:LL) (ab:Int) (k0:Int->Bool->LL->LL->LL->LL->LL->LL->LL->Int->LL->LL->LL->LL->LL->LL->LL->LL->LL->LL->Int->oP R):Nat->Int->LL->LL->LL->LL->LL->LL->LL->Int->LL->LL->LL->LL->LL->LL->LL->LL->LL->LL->Int->oP R
 | 0,_,_,_,_,_,_,_,_,_,_,_,_,_,_,_,_,_,_,_,_=>none
 | m+1,e,ae,ag,ah,ai,aj,ak,al,am,an,ao,ap,aq,ar,au,av,aw,ax,ay,az=>bif decide (e<ab) then gb true (Q2 ad e) [] fun d=>gb true (d[0]?) oF fun ba=>gb true (d[1]?) oF fun bb=>gb true (d[2]?) oF fun bc=>gb true (d[3]?) oF fun bd=>gb true (d[4]?) oF fun be=>gb true (d[5]?) oF fun bg=>gb true (d[6]?) oF fun bh=>gb true (pIw ba) 0 fun bi=>gb true (pIw bb) 0 fun bj=>gb true (QS n ai aj ak al am an ao ap aq ar au av ae aw ax ay az ag ah bi bj Tu20) zZ0 fun a=>gb true (pIw bc) 0 fun bk=>gb true (pIw bd) 0 fun bl=>gb true (QS n a.2.1 a.2.2.1 a.2.2.2.1 a.2.2.2.2.1 a.2.2.2.2.2.1 a.2.2.2.2.2.2.1 a.2.2.2.2.2.2.2.1 a.2.2.2.2.2.2.2.2.1 a.2.2.2.2.2.2.2.2.2.1 a.2.2.2.2.2.2.2.2.2.2.1 a.2.2.2.2.2.2.2.2.2.2.2.1 a.2.2.2.2.2.2.2.2.2.2.2.2.1 a.2.2.2.2.2.2.2.2.2.2.2.2.2.1 a.2.2.2.2.2.2.2.2.2.2.2.2.2.2.1 a.2.2.2.2.2.2.2.2.2.2.2.2.2.2.2.1 a.2.2.2.2.2.2.2.2.2.2.2.2.2.2.2.2.1 a.2.2.2.2.2.2.2.2.2.2.2.2.2.2.2.2.2.1 a.2.2.2.2.2.2.2.2.2.2.2.2.2.2.2.2.2.2.1 a.2.2.2.2.2.2.2.2.2.2.2.2.2.2.2.2.2.2.2 bk bl Tu20) zZ0 fun b=>gb true (Wp n a.1 some) 0 fun bm=>gb true (XT n b.1 some) 0 fun bn=>gb true (pIw be) 0 fun bo=>gb true (pIw bg) 0 fun bp=>gb true (pIw bh) 0 fun bq=>gb true (X2 n b.2.1 b.2.2.1 b.2.2.2.1 b.2.2.2.2.1 b.2.2.2.2.2.1 b.2.2.2.2.2.2.1 b.2.2.2.2.2.2.2.1 b.2.2.2.2.2.2.2.2.1 b.2.2.2.2.2.2.2.2.2.1 b.2.2.2.2.2.2.2.2.2.2.1 b.2.2.2.2.2.2.2.2.2.2.2.1 b.2.2.2.2.2.2.2.2.2.2.2.2.1 b.2.2.2.2.2.2.2.2.2.2.2.2.2.1 b.2.2.2.2.2.2.2.2.2.2.2.2.2.2.1 b.2.2.2.2.2.2.2.2.2.2.2.2.2.2.2.1 b.2.2.2.2.2.2.2.2.2.2.2.2.2.2.2.2.1 b.2.2.2.2.2.2.2.2.2.2.2.2.2.2.2.2.2.1 b.2.2.2.2.2.2.2.2.2.2.2.2.2.2.2.2.2.2.1 b.2.2.2.2.2.2.2.2.2.2.2.2.2.2.2.2.2.2.2 3 bm bn bo bp bq Tu19) zZ1 fun c=>QC n ad ab k0 m (wJ (e+1)) c.2.2.2.2.2.2.2.2.2.2.2.2.1 c.2.2.2.2.2.2.2.2.2.2.2.2.2.2.2.2.2.1 c.2.2.2.2.2.2.2.2.2.2.2.2.2.2.2.2.2.2 c.1 c.2.1 c.2.2.1 c.2.2.2.1 c.2.2.2.2.1 c.2.2.2.2.2.1 c.2.2.2.2.2.2.1 c.2.2.2.2.2.2.2.1 c.2.2.2.2.2.2.2.2.1 c.2.2.2.2.2.2.2.2.2.1 c.2.2.2.2.2.2.2.2.2.2.1 c.2.2.2.2.2.2.2.2.2.2.2.1 c.2.2.2.2.2.2.2.2.2.2.2.2.2.1 c.2.2.2.2.2.2.2.2.2.2.2.2.2.2.1 c.2.2.2.2.2.2.2.2.2.2.2.2.2.2.2.1 c.2.2.2.2.2.2.2.2.2.2.2.2.2.2.2.2.1 else k0 e (decide (e<ab)) ae ag ah ai aj ak al am an ao ap aq ar au av aw ax ay az
def QB (n:Nat) (ad:LL) (ab:Int) (k0:Int->Bool->LL->LL->LL->LL->LL->LL->LL->Int->LL->LL->LL->LL->LL->LL->LL->LL->LL->LL->Int->oP R):Nat->Int->LL->LL->LL->LL->LL->LL->LL->Int->LL->LL->LL->LL->LL->LL->LL->LL->LL->LL->Int->oP R
 | 0,_,_,_,_,_,_,_,_,_,_,_,_,_,_,_,_,_,_,_,_=>none
 | m+1,d,ae,ag,ah,ai,aj,ak,al,am,an,ao,ap,aq,ar,au,av,aw,ax,ay,az=>bif decide (d<ab) then gb true (Q2 ad d) [] fun aa=>gb true (aa[0]?) oF fun ba=>gb true (aa[1]?) oF fun bb=>gb true (aa[2]?) oF fun bc=>gb true (aa[3]?) oF fun bd=>gb true (pIw ba) 0 fun be=>gb true (WW n ai aj ak al am an ao ap aq ar au av ae aw ax ay az ag ah be Tu20) zZ0 fun a=>gb true (Wp n a.1 some) 0 fun bg=>gb true (pIw bb) 0 fun bh=>gb true (QS n a.2.1 a.2.2.1 a.2.2.2.1 a.2.2.2.2.1 a.2.2.2.2.2.1 a.2.2.2.2.2.2.1 a.2.2.2.2.2.2.2.1 a.2.2.2.2.2.2.2.2.1 a.2.2.2.2.2.2.2.2.2.1 a.2.2.2.2.2.2.2.2.2.2.1 a.2.2.2.2.2.2.2.2.2.2.2.1 a.2.2.2.2.2.2.2.2.2.2.2.2.1 a.2.2.2.2.2.2.2.2.2.2.2.2.2.1 a.2.2.2.2.2.2.2.2.2.2.2.2.2.2.1 a.2.2.2.2.2.2.2.2.2.2.2.2.2.2.2.1 a.2.2.2.2.2.2.2.2.2.2.2.2.2.2.2.2.1 a.2.2.2.2.2.2.2.2.2.2.2.2.2.2.2.2.2.1 a.2.2.2.2.2.2.2.2.2.2.2.2.2.2.2.2.2.2.1 a.2.2.2.2.2.2.2.2.2.2.2.2.2.2.2.2.2.2.2 bh 0 Tu20) zZ0 fun b=>gb true (XT n b.1 some) 0 fun bi=>gb true (pIw bc) 0 fun bj=>gb true (pIw bd) 0 fun bk=>gb true (X2 n b.2.1 b.2.2.1 b.2.2.2.1 b.2.2.2.2.1 b.2.2.2.2.2.1 b.2.2.2.2.2.2.1 b.2.2.2.2.2.2.2.1 b.2.2.2.2.2.2.2.2.1 b.2.2.2.2.2.2.2.2.2.1 b.2.2.2.2.2.2.2.2.2.2.1 b.2.2.2.2.2.2.2.2.2.2.2.1 b.2.2.2.2.2.2.2.2.2.2.2.2.1 b.2.2.2.2.2.2.2.2.2.2.2.2.2.1 b.2.2.2.2.2.2.2.2.2.2.2.2.2.2.1 b.2.2.2.2.2.2.2.2.2.2.2.2.2.2.2.1 b.2.2.2.2.2.2.2.2.2.2.2.2.2.2.2.2.1 b.2.2.2.2.2.2.2.2.2.2.2.2.2.2.2.2.2.1 b.2.2.2.2.2.2.2.2.2.2.2.2.2.2.2.2.2.2.1 b.2.2.2.2.2.2.2.2.2.2.2.2.2.2.2.2.2.2.2 4 bg bi bj bk 1 Tu19) zZ1 fun c=>QB n ad ab k0 m (wJ (d+1)) c.2.2.2.2.2.2.2.2.2.2.2.2.1 c.2.2.2.2.2.2.2.2.2.2.2.2.2.2.2.2.2.1 c.2.2.2.2.2.2.2.2.2.2.2.2.2.2.2.2.2.2 c.1 c.2.1 c.2.2.1 c.2.2.2.1 c.2.2.2.2.1 c.2.2.2.2.2.1 c.2.2.2.2.2.2.1 c.2.2.2.2.2.2.2.1 c.2.2.2.2.2.2.2.2.1 c.2.2.2.2.2.2.2.2.2.1 c.2.2.2.2.2.2.2.2.2.2.1 c.2.2.2.2.2.2.2.2.2.2.2.1 c.2.2.2.2.2.2.2.2.2.2.2.2.2.1 c.2.2.2.2.2.2.2.2.2.2.2.2.2.2.1 c.2.2.2.2.2.2.2.2.2.2.2.2.2.2.2.1 c.2.2.2.2.2.2.2.2.2.2.2.2.2.2.2.2.1 else k0 d (decide (d<ab)) ae ag ah ai aj ak al am an ao ap aq ar au av aw ax ay az
def QD (n:Nat) (ad:LL) (ab:Int) (k0:Int->Bool->LL->LL->LL->LL->LL->LL->LL->Int->LL->LL->LL->LL->LL->LL->LL->LL->LL->LL->Int->oP R):Nat->Int->LL->LL->LL->LL->LL->LL->LL->Int->LL->LL->LL->LL->LL->LL->LL->LL->LL->LL->Int->oP R
 | 0,_,_,_,_,_,_,_,_,_,_,_,_,_,_,_,_,_,_,_,_=>none
 | m+1,d,ae,ag,ah,ai,aj,ak,al,am,an,ao,ap,aq,ar,au,av,aw,ax,ay,az=>bif decide (d<ab) then gb true (Q2 ad d) [] fun e=>gb true (e[0]?) oF fun bb=>gb true (e[1]?) oF fun bc=>gb true (e[2]?) oF fun bd=>gb true (e[3]?) oF fun be=>gb true (e[4]?) oF fun ba=>gb true (pIw bb) 0 fun bg=>gb true (pIw bc) 0 fun bh=>gb true (QS n ai aj ak al am an ao ap aq ar au av ae aw ax ay az ag ah bg bh Tu20) zZ0 fun a=>gb true (XT n a.1 some) 0 fun bi=>gb true (pIw bd) 0 fun bj=>gb true (pIw be) 0 fun bk=>gb true (QS n a.2.1 a.2.2.1 a.2.2.2.1 a.2.2.2.2.1 a.2.2.2.2.2.1 a.2.2.2.2.2.2.1 a.2.2.2.2.2.2.2.1 a.2.2.2.2.2.2.2.2.1 a.2.2.2.2.2.2.2.2.2.1 a.2.2.2.2.2.2.2.2.2.2.1 a.2.2.2.2.2.2.2.2.2.2.2.1 a.2.2.2.2.2.2.2.2.2.2.2.2.1 a.2.2.2.2.2.2.2.2.2.2.2.2.2.1 a.2.2.2.2.2.2.2.2.2.2.2.2.2.2.1 a.2.2.2.2.2.2.2.2.2.2.2.2.2.2.2.1 a.2.2.2.2.2.2.2.2.2.2.2.2.2.2.2.2.1 a.2.2.2.2.2.2.2.2.2.2.2.2.2.2.2.2.2.1 a.2.2.2.2.2.2.2.2.2.2.2.2.2.2.2.2.2.2.1 a.2.2.2.2.2.2.2.2.2.2.2.2.2.2.2.2.2.2.2 bj bk Tu20) zZ0 fun b=>gb true (XT n b.1 some) 0 fun bl=>gb true (pIw ba) 0 fun bm=>gb true (pIw ba) 0 fun bn=>gb true (X2 n b.2.1 b.2.2.1 b.2.2.2.1 b.2.2.2.2.1 b.2.2.2.2.2.1 b.2.2.2.2.2.2.1 b.2.2.2.2.2.2.2.1 b.2.2.2.2.2.2.2.2.1 b.2.2.2.2.2.2.2.2.2.1 b.2.2.2.2.2.2.2.2.2.2.1 b.2.2.2.2.2.2.2.2.2.2.2.1 b.2.2.2.2.2.2.2.2.2.2.2.2.1 b.2.2.2.2.2.2.2.2.2.2.2.2.2.1 b.2.2.2.2.2.2.2.2.2.2.2.2.2.2.1 b.2.2.2.2.2.2.2.2.2.2.2.2.2.2.2.1 b.2.2.2.2.2.2.2.2.2.2.2.2.2.2.2.2.1 b.2.2.2.2.2.2.2.2.2.2.2.2.2.2.2.2.2.1 b.2.2.2.2.2.2.2.2.2.2.2.2.2.2.2.2.2.2.1 b.2.2.2.2.2.2.2.2.2.2.2.2.2.2.2.2.2.2.2 5 bi bl bm bn 0 Tu19) zZ1 fun c=>QD n ad ab k0 m (wJ (d+1)) c.2.2.2.2.2.2.2.2.2.2.2.2.1 c.2.2.2.2.2.2.2.2.2.2.2.2.2.2.2.2.2.1 c.2.2.2.2.2.2.2.2.2.2.2.2.2.2.2.2.2.2 c.1 c.2.1 c.2.2.1 c.2.2.2.1 c.2.2.2.2.1 c.2.2.2.2.2.1 c.2.2.2.2.2.2.1 c.2.2.2.2.2.2.2.1 c.2.2.2.2.2.2.2.2.1 c.2.2.2.2.2.2.2.2.2.1 c.2.2.2.2.2.2.2.2.2.2.1 c.2.2.2.2.2.2.2.2.2.2.2.1 c.2.2.2.2.2.2.2.2.2.2.2.2.2.1 c.2.2.2.2.2.2.2.2.2.2.2.2.2.2.1 c.2.2.2.2.2.2.2.2.2.2.2.2.2.2.2.1 c.2.2.2.2.2.2.2.2.2.2.2.2.2.2.2.2.1 else k0 d (decide (d<ab)) ae ag ah ai aj ak al am an ao ap aq ar au av aw ax ay az
def XV (n:Nat) (e f g h:LL) (i:Int) (j k a l m o p q1 q r s:LL) (t:Int) (q2 q3:LL) (K:LL->LL->LL->LL->Int->LL->LL->LL->LL->LL->LL->LL->LL->LL->LL->LL->Int->LL->LL->oP R):oP R:= QA n a (a.length:Int) (fun cz da u v x y z aa ab ac ad ae ag b ah ai aj ak al am an=>QC n b (b.length:Int) (fun db dc ao ap aq ar au av aw ax ay az ba bb c bc bd be bg bh bi=>QB n c (c.length:Int) (fun dd de bj bk bl bm bn bo bp bq br bt bu bv bx d bz ca cb cc ce=>QD n d (d.length:Int) (fun df dg cf cg ch ci cj ck cm cn co cp cq cr cs ct cu cv cw cx cy=>K ci cj ck cm cn co cp cq cr cs ct cu cf cv cw cx cy cg ch) n 0 bj bk bl bm bn bo bp bq br bt bu bv bx d bz ca cb cc ce) n 0 ao ap aq ar au av aw ax ay az ba bb c bc bd be bg bh bi) n 0 u v x y z aa ab ac ad ae ag b ah ai aj ak al am an) n 0 q1 q2 q3 e f g h i j k a l m o p q r s t

def Xe (n:Nat) (a b c d e f:Int) (q1:Int->Bool) (K:(Int->Bool)->oP R):oP R:= K (Q7e q1 a true)

def X9 (n:Nat) (e:LL) (b f:Int) (c g d:D) (k0:Int->Bool->(Int->Bool)->oP R):Nat->Int->(Int->Bool)->oP R
 | 0,_,_=>none
 | m+1,a,h=>bif decide (a<b) then gb true (Q2 e a) [] fun i=>gb true (i[0]?) oF fun l=>gb true (i[1]?) oF fun o=>gb true (i[2]?) oF fun p=>gb true (pIw c) 0 fun j=>gb true (pIw l) 0 fun k=>gb (j == k) (pIw o) 0 fun q=>gb (j == k) (pIw d) 0 fun r=>bif (bif (j == k) then (decide ((wJ (f+q))<=r)) else false) then gb true (pIw c) 0 fun s=>gb true (pIw g) 0 fun t=>gb true (pIw d) 0 fun u=>gb true (pIw l) 0 fun v=>gb true (pIw o) 0 fun x=>gb true (pIw p) 0 fun y=>gb true (Xe n s t u v x y h some) (fun _=>false) fun z=>X9 n e b f c g d k0 m (wJ (a+1)) z else X9 n e b f c g d k0 m (wJ (a+1)) h else k0 a (decide (a<b)) h
def QP (n:Nat) (d:LL) (b e f:Int) (g:LL) (k0:Int->Bool->(Int->Bool)->oP R):Nat->Int->(Int->Bool)->oP R
 | 0,_,_=>none
 | m+1,a,h=>bif decide (a<b) then gb true (Q2 d a) [] fun c=>gb true (c[0]?) oF fun j=>gb true (c[1]?) oF fun k=>gb true (c[2]?) oF fun l=>gb true (Q2 g e) [] fun o=>gb true (o[0]?) oF fun p=>gb true (pSl 3 p) [] fun i=>X9 n i (i.length:Int) f j k l (fun r s q=>QP n d b e f g k0 m (wJ (a+1)) q) n 0 h else k0 a (decide (a<b)) h
def U6 (n:Nat) (c d e f:LL) (g:Int) (h i j k l m o q1 a p q:LL) (r:Int) (q2 q3:LL) (s t u aa:Int) (v:Int->Bool) (K:LL->LL->LL->LL->Int->LL->LL->LL->LL->LL->LL->LL->LL->LL->LL->LL->Int->LL->LL->(Int->Bool)->oP R):oP R:= gb true (Q2 a s) [] fun x=>gb true (x[0]?) oF fun y=>gb true (pSl 3 y) [] fun b=>QP n b (b.length:Int) t u a (fun ab ac z=>K c d e f g h i j k l m o q1 a p q r q2 q3 z) n 0 v

def Qr (n:Nat) (b h2:Int) (g:LL) (d:Int) (k0:Int->Bool->(Int->Bool)->LL->LL->LL->LL->LL->LL->LL->Int->LL->LL->LL->LL->LL->LL->LL->LL->LL->LL->Int->oP R):Nat->Int->(Int->Bool)->LL->LL->LL->LL->LL->LL->LL->Int->LL->LL->LL->LL->LL->LL->LL->LL->LL->LL->Int->oP R
 | 0,_,_,_,_,_,_,_,_,_,_,_,_,_,_,_,_,_,_,_,_,_=>none
 | m+1,c,h,i,j,k,l,o,p,q,r,s,t,u,v,x,y,z,aa,ab,ac,ad=>bif decide (c<d) then gb true (Q2 g c) [] fun e=>gb true (e[0]?) oF fun ae=>gb true (e[1]?) oF fun ag=>gb true (e[2]?) oF fun aj=>gb true (e[3]?) oF fun ak=>gb true (pIw ae) 0 fun f=>gb (f == b) (pIw ag) 0 fun ah=>gb (!(bif (f == b) then (ah == h2) else false)) (pIw ae) 0 fun ai=>gb ((!(bif (f == b) then (ah == h2) else false))&&(ai == h2)) (pIw ag) 0 fun al=>bif (bif (bif (f == b) then (ah == h2) else false) then true else (bif (ai == h2) then (al == b) else false)) then gb true (pIw ae) 0 fun am=>gb true (pIw ag) 0 fun an=>gb true (pIw aj) 0 fun ao=>gb true (pIw ak) 0 fun ap=>gb true (U6 n l o p q r s t u v x y z i aa ab ac ad j k am an ao ap h Tu20) ([],[],[],[],0,[],[],[],[],[],[],[],[],[],[],[],0,[],[],(fun _=>false)) fun a=>Qr n b h2 g d k0 m (wJ (c+1)) a.2.2.2.2.2.2.2.2.2.2.2.2.2.2.2.2.2.2.2 a.2.2.2.2.2.2.2.2.2.2.2.2.1 a.2.2.2.2.2.2.2.2.2.2.2.2.2.2.2.2.2.1 a.2.2.2.2.2.2.2.2.2.2.2.2.2.2.2.2.2.2.1 a.1 a.2.1 a.2.2.1 a.2.2.2.1 a.2.2.2.2.1 a.2.2.2.2.2.1 a.2.2.2.2.2.2.1 a.2.2.2.2.2.2.2.1 a.2.2.2.2.2.2.2.2.1 a.2.2.2.2.2.2.2.2.2.1 a.2.2.2.2.2.2.2.2.2.2.1 a.2.2.2.2.2.2.2.2.2.2.2.1 a.2.2.2.2.2.2.2.2.2.2.2.2.2.1 a.2.2.2.2.2.2.2.2.2.2.2.2.2.2.1 a.2.2.2.2.2.2.2.2.2.2.2.2.2.2.2.1 a.2.2.2.2.2.2.2.2.2.2.2.2.2.2.2.2.1 else Qr n b h2 g d k0 m (wJ (c+1)) h i j k l o p q r s t u v x y z aa ab ac ad else k0 c (decide (c<d)) h i j k l o p q r s t u v x y z aa ab ac ad
def XD (n:Nat) (b c d e:LL) (f:Int) (g h i j k l m q1 o p a:LL) (q:Int) (q2 q3:LL) (a1 a2:Int) (K:(Int->Bool)->LL->LL->LL->LL->Int->LL->LL->LL->LL->LL->LL->LL->LL->LL->LL->LL->Int->LL->LL->oP R):oP R:= Qr n a1 a2 a (a.length:Int) (fun an ao r s t u v x y z aa ab ac ad ae ag ah ai aj ak al am=>K r v x y z aa ab ac ad ae ag ah ai s aj ak al am t u) n 0 (fun _=>false) q1 q2 q3 b c d e f g h i j k l m o p a q

def XH (n:Nat) (c:LL) (h2:Int) (d:Int->Bool) (k0:Int->Bool->LL->oP R):Nat->Int->LL->oP R
 | 0,_,_=>none
 | m+1,a,b=>bif decide (a<h2) then gb true (Q2 c a) [] fun e=>gb true (e[0]?) oF fun f=>gb true (e[1]?) oF fun g=>gb true (e[2]?) oF fun h=>gb true (pIw f) 0 fun i=>bif (!(d i)) then gb true (YD ((b.length+[[f,g,h]].length)*24)) () fun j=>XH n c h2 d k0 m (wJ (a+1)) (b++[[f,g,h]]) else XH n c h2 d k0 m (wJ (a+1)) b else k0 a (decide (a<h2)) b
def Wh (n:Nat) (a0:LL) (a:Int->Bool) (K:LL->(Int->Bool)->oP R):oP R:= XH n a0 (a0.length:Int) a (fun c d b=>K b a) n 0 []

def WC (n:Nat) (a0:Int) (K:Bool->oP R):oP R:= K (bif decide (a0>=1) then (decide (a0<=7200)) else false)

def Pv (n:Nat) (a0 a1:Int) (K:Int->oP R):oP R:= bif decide (a1<1) then K 0 else gb true (nz a1) () fun a=>bif (decide ((Int.tmod a0 a1)<0)) then K (wJ ((Int.tmod a0 a1)+a1)) else K (Int.tmod a0 a1)

def UV (n:Nat) (a1 a2 a3:Int) (K:LL->oP R):oP R:= bif decide (a3<1) then K [] else bif decide (a3>=a1) then gb true (YD ([[Q5 0,Q5 a1]].length*16)) () fun a=>K [[Q5 0,Q5 a1]] else bif (decide ((wJ (a2+a3))<=a1)) then gb true (YD ([[Q5 a2,Q5 (wJ (a2+a3))]].length*16)) () fun b=>K [[Q5 a2,Q5 (wJ (a2+a3))]] else gb true (YD (List.length [[Q5 0,Q5 (wJ ((wJ (a2+a3))-a1))],[Q5 a2,Q5 a1]]*16)) () fun c=>K [[Q5 0,Q5 (wJ ((wJ (a2+a3))-a1))],[Q5 a2,Q5 a1]]

def KC (n:Nat) (a0 a1 a2:Int) (K:LL->Int->oP R):oP R:= gb true (WC n a0 some) false fun a=>bif !a then K [] 4 else gb true (Pv n a1 a0 some) 0 fun b=>gb true (UV n a0 b a2 some) [] fun c=>K c 0

def ZY (n:Nat) (h2:Int) (f:LL) (d:Int) (k0:oP R) (k1:Int->Int->Bool->oP R):Nat->Int->Int->oP R
 | 0,_,_=>none
 | m+1,a,b=>bif decide (b<d) then gb true (Q2 f b) [] fun g=>gb true (g[0]?) oF fun h=>gb true (g[1]?) oF fun e=>gb true (pIw h) 0 fun c=>gb (!(decide (c<=a))) (pIw h) 0 fun i=>gb (!(decide (c<=a))) (pIw e) 0 fun j=>gb (!(bif decide (c<=a) then true else (decide (i>=j)))) (pIw e) 0 fun k=>bif (bif (bif decide (c<=a) then true else (decide (i>=j))) then true else (decide (k>h2))) then k0 else gb true (pIw e) 0 fun l=>ZY n h2 f d k0 k1 m l (wJ (b+1)) else k1 a b (decide (b<d))
def VO (n:Nat) (a0:Int) (a1:LL) (K:Bool->oP R):oP R:= gb true (WC n a0 some) false fun a=>bif !a then K false else ZY n a0 a1 (a1.length:Int) (K false) (fun b c d=>K true) n (-1:Int) 0

def ZS (n:Nat) (h2:Int) (c:LL) (b:Int) (k0:oP R) (k1:Int->Bool->oP R):Nat->Int->oP R
 | 0,_=>none
 | m+1,a=>bif decide (a<b) then gb true (Q2 c a) [] fun d=>gb true (d[0]?) oF fun e=>gb true (pSl 2 e) [] fun f=>gb true (VO n h2 f some) false fun g=>bif !g then k0 else ZS n h2 c b k0 k1 m (wJ (a+1)) else k1 a (decide (a<b))
def GI (n:Nat) (a0:Int) (a1:LL) (K:Int->oP R):oP R:= gb true (WC n a0 some) false fun a=>bif !a then K 4 else ZS n a0 a1 (a1.length:Int) (K 1) (fun b c=>K 0) n 0

def Qz (n:Nat) (a1:Int) (K:LL->oP R):oP R:= bif decide (a1<0) then none else bif (decide ((wJ (a1-(wJ (0-0))))>0)) then gb true (slB 0 none (some 0)) (0,0) fun q2=>gb true (bif decide (0<(wJ (a1-(wJ (0-0))))) then some () else none) () fun a=>gb true (YD (Int.toNat (wJ (a1-(wJ (0-0))))*16)) () fun b=>K [] else K []

def Qc (n:Nat) (c:LL) (b:Int) (k0:Int->Int->Bool->oP R):Nat->Int->Int->oP R
 | 0,_,_=>none
 | m+1,h2,a=>bif decide (a<b) then gb true (Q2 c a) [] fun e=>gb true (e[0]?) oF fun f=>gb true (pSl 2 f) [] fun d=>bif (decide ((wJ (h2+(d.length:Int)))<0)) then none else Qc n c b k0 m (wJ (h2+(d.length:Int))) (wJ (a+1)) else k0 h2 a (decide (a<b))
def Qd (n:Nat) (d:LL) (b:Int) (k0:Int->Bool->LL->oP R):Nat->Int->LL->oP R
 | 0,_,_=>none
 | m+1,a,c=>bif decide (a<b) then gb true (Q2 d a) [] fun f=>gb true (f[0]?) oF fun g=>gb true (pSl 2 g) [] fun e=>gb true (YD ((c.length+e.length)*16)) () fun h=>Qd n d b k0 m (wJ (a+1)) (c++e) else k0 a (decide (a<b)) c
def QE (n:Nat) (a0:LL) (K:LL->oP R):oP R:= Qc n a0 (a0.length:Int) (fun a d e=>gb true (Qz n a some) [] fun b=>Qd n a0 (a0.length:Int) (fun f g c=>K c) n 0 b) n 0 0

def S8 (n:Nat) (a0:Int) (K:Int->oP R):oP R:= bif decide (a0>=65536) then gb true (EO 16) () fun e=>bif (decide ((shR .u32 a0 16)>=256)) then gb true (EO 8) () fun f=>gb true (UA (bs [0,1,2,2,3,3,3,3,4,4,4,4,4,4,4,4,5,5,5,5,5,5,5,5,5,5,5,5,5,5,5,5,6,6,6,6,6,6,6,6,6,6,6,6,6,6,6,6,6,6,6,6,6,6,6,6,6,6,6,6,6,6,6,6,7,7,7,7,7,7,7,7,7,7,7,7,7,7,7,7,7,7,7,7,7,7,7,7,7,7,7,7,7,7,7,7,7,7,7,7,7,7,7,7,7,7,7,7,7,7,7,7,7,7,7,7,7,7,7,7,7,7,7,7,7,7,7,7,8,8,8,8,8,8,8,8,8,8,8,8,8,8,8,8,8,8,8,8,8,8,8,8,8,8,8,8,8,8,8,8,8,8,8,8,8,8,8,8,8,8,8,8,8,8,8,8,8,8,8,8,8,8,8,8,8,8,8,8,8,8,8,8,8,8,8,8,8,8,8,8,8,8,8,8,8,8,8,8,8,8,8,8,8,8,8,8,8,8,8,8,8,8,8,8,8,8,8,8,8,8,8,8,8,8,8,8,8,8,8,8,8,8,8,8,8,8,8,8,8,8,8,8,8,8,8,8]) (IntKind.wrap .u8 (shR .u32 (shR .u32 a0 16) 8))) 0 fun a=>K (wJ ((wJ (16+8))+(wJ a))) else gb true (UA (bs [0,1,2,2,3,3,3,3,4,4,4,4,4,4,4,4,5,5,5,5,5,5,5,5,5,5,5,5,5,5,5,5,6,6,6,6,6,6,6,6,6,6,6,6,6,6,6,6,6,6,6,6,6,6,6,6,6,6,6,6,6,6,6,6,7,7,7,7,7,7,7,7,7,7,7,7,7,7,7,7,7,7,7,7,7,7,7,7,7,7,7,7,7,7,7,7,7,7,7,7,7,7,7,7,7,7,7,7,7,7,7,7,7,7,7,7,7,7,7,7,7,7,7,7,7,7,7,7,8,8,8,8,8,8,8,8,8,8,8,8,8,8,8,8,8,8,8,8,8,8,8,8,8,8,8,8,8,8,8,8,8,8,8,8,8,8,8,8,8,8,8,8,8,8,8,8,8,8,8,8,8,8,8,8,8,8,8,8,8,8,8,8,8,8,8,8,8,8,8,8,8,8,8,8,8,8,8,8,8,8,8,8,8,8,8,8,8,8,8,8,8,8,8,8,8,8,8,8,8,8,8,8,8,8,8,8,8,8,8,8,8,8,8,8,8,8,8,8,8,8,8,8,8,8,8,8]) (IntKind.wrap .u8 (shR .u32 a0 16))) 0 fun b=>K (wJ (16+(wJ b))) else bif decide (a0>=256) then gb true (EO 8) () fun g=>gb true (UA (bs [0,1,2,2,3,3,3,3,4,4,4,4,4,4,4,4,5,5,5,5,5,5,5,5,5,5,5,5,5,5,5,5,6,6,6,6,6,6,6,6,6,6,6,6,6,6,6,6,6,6,6,6,6,6,6,6,6,6,6,6,6,6,6,6,7,7,7,7,7,7,7,7,7,7,7,7,7,7,7,7,7,7,7,7,7,7,7,7,7,7,7,7,7,7,7,7,7,7,7,7,7,7,7,7,7,7,7,7,7,7,7,7,7,7,7,7,7,7,7,7,7,7,7,7,7,7,7,7,8,8,8,8,8,8,8,8,8,8,8,8,8,8,8,8,8,8,8,8,8,8,8,8,8,8,8,8,8,8,8,8,8,8,8,8,8,8,8,8,8,8,8,8,8,8,8,8,8,8,8,8,8,8,8,8,8,8,8,8,8,8,8,8,8,8,8,8,8,8,8,8,8,8,8,8,8,8,8,8,8,8,8,8,8,8,8,8,8,8,8,8,8,8,8,8,8,8,8,8,8,8,8,8,8,8,8,8,8,8,8,8,8,8,8,8,8,8,8,8,8,8,8,8,8,8,8,8]) (IntKind.wrap .u8 (shR .u32 a0 8))) 0 fun c=>K (wJ ((wJ (0+8))+(wJ c))) else gb true (UA (bs [0,1,2,2,3,3,3,3,4,4,4,4,4,4,4,4,5,5,5,5,5,5,5,5,5,5,5,5,5,5,5,5,6,6,6,6,6,6,6,6,6,6,6,6,6,6,6,6,6,6,6,6,6,6,6,6,6,6,6,6,6,6,6,6,7,7,7,7,7,7,7,7,7,7,7,7,7,7,7,7,7,7,7,7,7,7,7,7,7,7,7,7,7,7,7,7,7,7,7,7,7,7,7,7,7,7,7,7,7,7,7,7,7,7,7,7,7,7,7,7,7,7,7,7,7,7,7,7,8,8,8,8,8,8,8,8,8,8,8,8,8,8,8,8,8,8,8,8,8,8,8,8,8,8,8,8,8,8,8,8,8,8,8,8,8,8,8,8,8,8,8,8,8,8,8,8,8,8,8,8,8,8,8,8,8,8,8,8,8,8,8,8,8,8,8,8,8,8,8,8,8,8,8,8,8,8,8,8,8,8,8,8,8,8,8,8,8,8,8,8,8,8,8,8,8,8,8,8,8,8,8,8,8,8,8,8,8,8,8,8,8,8,8,8,8,8,8,8,8,8,8,8,8,8,8,8]) (IntKind.wrap .u8 a0)) 0 fun d=>K (wJ (0+(wJ d)))

def Pp (n:Nat) (a0:Int) (K:Int->oP R):oP R:= bif decide (a0>=4294967296) then gb true (EO 32) () fun i=>bif (decide ((shR .u64 a0 32)>=65536)) then gb true (EO 16) () fun j=>bif (decide ((shR .u64 (shR .u64 a0 32) 16)>=256)) then gb true (EO 8) () fun k=>gb true (UA (bs [0,1,2,2,3,3,3,3,4,4,4,4,4,4,4,4,5,5,5,5,5,5,5,5,5,5,5,5,5,5,5,5,6,6,6,6,6,6,6,6,6,6,6,6,6,6,6,6,6,6,6,6,6,6,6,6,6,6,6,6,6,6,6,6,7,7,7,7,7,7,7,7,7,7,7,7,7,7,7,7,7,7,7,7,7,7,7,7,7,7,7,7,7,7,7,7,7,7,7,7,7,7,7,7,7,7,7,7,7,7,7,7,7,7,7,7,7,7,7,7,7,7,7,7,7,7,7,7,8,8,8,8,8,8,8,8,8,8,8,8,8,8,8,8,8,8,8,8,8,8,8,8,8,8,8,8,8,8,8,8,8,8,8,8,8,8,8,8,8,8,8,8,8,8,8,8,8,8,8,8,8,8,8,8,8,8,8,8,8,8,8,8,8,8,8,8,8,8,8,8,8,8,8,8,8,8,8,8,8,8,8,8,8,8,8,8,8,8,8,8,8,8,8,8,8,8,8,8,8,8,8,8,8,8,8,8,8,8,8,8,8,8,8,8,8,8,8,8,8,8,8,8,8,8,8,8]) (IntKind.wrap .u8 (shR .u64 (shR .u64 (shR .u64 a0 32) 16) 8))) 0 fun a=>K (wJ ((wJ ((wJ (32+16))+8))+(wJ a))) else gb true (UA (bs [0,1,2,2,3,3,3,3,4,4,4,4,4,4,4,4,5,5,5,5,5,5,5,5,5,5,5,5,5,5,5,5,6,6,6,6,6,6,6,6,6,6,6,6,6,6,6,6,6,6,6,6,6,6,6,6,6,6,6,6,6,6,6,6,7,7,7,7,7,7,7,7,7,7,7,7,7,7,7,7,7,7,7,7,7,7,7,7,7,7,7,7,7,7,7,7,7,7,7,7,7,7,7,7,7,7,7,7,7,7,7,7,7,7,7,7,7,7,7,7,7,7,7,7,7,7,7,7,8,8,8,8,8,8,8,8,8,8,8,8,8,8,8,8,8,8,8,8,8,8,8,8,8,8,8,8,8,8,8,8,8,8,8,8,8,8,8,8,8,8,8,8,8,8,8,8,8,8,8,8,8,8,8,8,8,8,8,8,8,8,8,8,8,8,8,8,8,8,8,8,8,8,8,8,8,8,8,8,8,8,8,8,8,8,8,8,8,8,8,8,8,8,8,8,8,8,8,8,8,8,8,8,8,8,8,8,8,8,8,8,8,8,8,8,8,8,8,8,8,8,8,8,8,8,8,8]) (IntKind.wrap .u8 (shR .u64 (shR .u64 a0 32) 16))) 0 fun b=>K (wJ ((wJ (32+16))+(wJ b))) else bif (decide ((shR .u64 a0 32)>=256)) then gb true (EO 8) () fun l=>gb true (UA (bs [0,1,2,2,3,3,3,3,4,4,4,4,4,4,4,4,5,5,5,5,5,5,5,5,5,5,5,5,5,5,5,5,6,6,6,6,6,6,6,6,6,6,6,6,6,6,6,6,6,6,6,6,6,6,6,6,6,6,6,6,6,6,6,6,7,7,7,7,7,7,7,7,7,7,7,7,7,7,7,7,7,7,7,7,7,7,7,7,7,7,7,7,7,7,7,7,7,7,7,7,7,7,7,7,7,7,7,7,7,7,7,7,7,7,7,7,7,7,7,7,7,7,7,7,7,7,7,7,8,8,8,8,8,8,8,8,8,8,8,8,8,8,8,8,8,8,8,8,8,8,8,8,8,8,8,8,8,8,8,8,8,8,8,8,8,8,8,8,8,8,8,8,8,8,8,8,8,8,8,8,8,8,8,8,8,8,8,8,8,8,8,8,8,8,8,8,8,8,8,8,8,8,8,8,8,8,8,8,8,8,8,8,8,8,8,8,8,8,8,8,8,8,8,8,8,8,8,8,8,8,8,8,8,8,8,8,8,8,8,8,8,8,8,8,8,8,8,8,8,8,8,8,8,8,8,8]) (IntKind.wrap .u8 (shR .u64 (shR .u64 a0 32) 8))) 0 fun c=>K (wJ ((wJ (32+8))+(wJ c))) else gb true (UA (bs [0,1,2,2,3,3,3,3,4,4,4,4,4,4,4,4,5,5,5,5,5,5,5,5,5,5,5,5,5,5,5,5,6,6,6,6,6,6,6,6,6,6,6,6,6,6,6,6,6,6,6,6,6,6,6,6,6,6,6,6,6,6,6,6,7,7,7,7,7,7,7,7,7,7,7,7,7,7,7,7,7,7,7,7,7,7,7,7,7,7,7,7,7,7,7,7,7,7,7,7,7,7,7,7,7,7,7,7,7,7,7,7,7,7,7,7,7,7,7,7,7,7,7,7,7,7,7,7,8,8,8,8,8,8,8,8,8,8,8,8,8,8,8,8,8,8,8,8,8,8,8,8,8,8,8,8,8,8,8,8,8,8,8,8,8,8,8,8,8,8,8,8,8,8,8,8,8,8,8,8,8,8,8,8,8,8,8,8,8,8,8,8,8,8,8,8,8,8,8,8,8,8,8,8,8,8,8,8,8,8,8,8,8,8,8,8,8,8,8,8,8,8,8,8,8,8,8,8,8,8,8,8,8,8,8,8,8,8,8,8,8,8,8,8,8,8,8,8,8,8,8,8,8,8,8,8]) (IntKind.wrap .u8 (shR .u64 a0 32))) 0 fun d=>K (wJ (32+(wJ d))) else bif decide (a0>=65536) then gb true (EO 16) () fun m=>bif (decide ((shR .u64 a0 16)>=256)) then gb true (EO 8) () fun o=>gb true (UA (bs [0,1,2,2,3,3,3,3,4,4,4,4,4,4,4,4,5,5,5,5,5,5,5,5,5,5,5,5,5,5,5,5,6,6,6,6,6,6,6,6,6,6,6,6,6,6,6,6,6,6,6,6,6,6,6,6,6,6,6,6,6,6,6,6,7,7,7,7,7,7,7,7,7,7,7,7,7,7,7,7,7,7,7,7,7,7,7,7,7,7,7,7,7,7,7,7,7,7,7,7,7,7,7,7,7,7,7,7,7,7,7,7,7,7,7,7,7,7,7,7,7,7,7,7,7,7,7,7,8,8,8,8,8,8,8,8,8,8,8,8,8,8,8,8,8,8,8,8,8,8,8,8,8,8,8,8,8,8,8,8,8,8,8,8,8,8,8,8,8,8,8,8,8,8,8,8,8,8,8,8,8,8,8,8,8,8,8,8,8,8,8,8,8,8,8,8,8,8,8,8,8,8,8,8,8,8,8,8,8,8,8,8,8,8,8,8,8,8,8,8,8,8,8,8,8,8,8,8,8,8,8,8,8,8,8,8,8,8,8,8,8,8,8,8,8,8,8,8,8,8,8,8,8,8,8,8]) (IntKind.wrap .u8 (shR .u64 (shR .u64 a0 16) 8))) 0 fun e=>K (wJ ((wJ ((wJ (0+16))+8))+(wJ e))) else gb true (UA (bs [0,1,2,2,3,3,3,3,4,4,4,4,4,4,4,4,5,5,5,5,5,5,5,5,5,5,5,5,5,5,5,5,6,6,6,6,6,6,6,6,6,6,6,6,6,6,6,6,6,6,6,6,6,6,6,6,6,6,6,6,6,6,6,6,7,7,7,7,7,7,7,7,7,7,7,7,7,7,7,7,7,7,7,7,7,7,7,7,7,7,7,7,7,7,7,7,7,7,7,7,7,7,7,7,7,7,7,7,7,7,7,7,7,7,7,7,7,7,7,7,7,7,7,7,7,7,7,7,8,8,8,8,8,8,8,8,8,8,8,8,8,8,8,8,8,8,8,8,8,8,8,8,8,8,8,8,8,8,8,8,8,8,8,8,8,8,8,8,8,8,8,8,8,8,8,8,8,8,8,8,8,8,8,8,8,8,8,8,8,8,8,8,8,8,8,8,8,8,8,8,8,8,8,8,8,8,8,8,8,8,8,8,8,8,8,8,8,8,8,8,8,8,8,8,8,8,8,8,8,8,8,8,8,8,8,8,8,8,8,8,8,8,8,8,8,8,8,8,8,8,8,8,8,8,8,8]) (IntKind.wrap .u8 (shR .u64 a0 16))) 0 fun f=>K (wJ ((wJ (0+16))+(wJ f))) else bif decide (a0>=256) then gb true (EO 8) () fun p=>gb true (UA (bs [0,1,2,2,3,3,3,3,4,4,4,4,4,4,4,4,5,5,5,5,5,5,5,5,5,5,5,5,5,5,5,5,6,6,6,6,6,6,6,6,6,6,6,6,6,6,6,6,6,6,6,6,6,6,6,6,6,6,6,6,6,6,6,6,7,7,7,7,7,7,7,7,7,7,7,7,7,7,7,7,7,7,7,7,7,7,7,7,7,7,7,7,7,7,7,7,7,7,7,7,7,7,7,7,7,7,7,7,7,7,7,7,7,7,7,7,7,7,7,7,7,7,7,7,7,7,7,7,8,8,8,8,8,8,8,8,8,8,8,8,8,8,8,8,8,8,8,8,8,8,8,8,8,8,8,8,8,8,8,8,8,8,8,8,8,8,8,8,8,8,8,8,8,8,8,8,8,8,8,8,8,8,8,8,8,8,8,8,8,8,8,8,8,8,8,8,8,8,8,8,8,8,8,8,8,8,8,8,8,8,8,8,8,8,8,8,8,8,8,8,8,8,8,8,8,8,8,8,8,8,8,8,8,8,8,8,8,8,8,8,8,8,8,8,8,8,8,8,8,8,8,8,8,8,8,8]) (IntKind.wrap .u8 (shR .u64 a0 8))) 0 fun g=>K (wJ ((wJ (0+8))+(wJ g))) else gb true (UA (bs [0,1,2,2,3,3,3,3,4,4,4,4,4,4,4,4,5,5,5,5,5,5,5,5,5,5,5,5,5,5,5,5,6,6,6,6,6,6,6,6,6,6,6,6,6,6,6,6,6,6,6,6,6,6,6,6,6,6,6,6,6,6,6,6,7,7,7,7,7,7,7,7,7,7,7,7,7,7,7,7,7,7,7,7,7,7,7,7,7,7,7,7,7,7,7,7,7,7,7,7,7,7,7,7,7,7,7,7,7,7,7,7,7,7,7,7,7,7,7,7,7,7,7,7,7,7,7,7,8,8,8,8,8,8,8,8,8,8,8,8,8,8,8,8,8,8,8,8,8,8,8,8,8,8,8,8,8,8,8,8,8,8,8,8,8,8,8,8,8,8,8,8,8,8,8,8,8,8,8,8,8,8,8,8,8,8,8,8,8,8,8,8,8,8,8,8,8,8,8,8,8,8,8,8,8,8,8,8,8,8,8,8,8,8,8,8,8,8,8,8,8,8,8,8,8,8,8,8,8,8,8,8,8,8,8,8,8,8,8,8,8,8,8,8,8,8,8,8,8,8,8,8,8,8,8,8]) (IntKind.wrap .u8 a0)) 0 fun h=>K (wJ (0+(wJ h)))

def T3 (n:Nat) (a0:Int) (K:Int->oP R):oP R:= bif false then gb true (S8 n (IntKind.wrap .u32 a0) some) 0 fun a=>K a else gb true (Pp n a0 some) 0 fun b=>K b

def J2 (n:Nat) (a0:Int) (K:Bool->oP R):oP R:= K (a0 != a0)

def Jf (n:Nat) (a0 a1:Int) (K:Int->oP R):oP R:= gb true (J2 n a0 some) false fun b=>gb true (J2 n a1 some) false fun a=>bif b then bif a then K 0 else K (-1:Int) else bif a then K 1 else bif decide (a0<a1) then K (-1:Int) else bif decide (a0>a1) then K 1 else K 0

def WD (n:Nat) (a d b e:Int) (K:Int->oP R):oP R:= gb true (Jf n a b some) 0 fun c=>K c

def Qe (n:Nat) (b:Int) (k0:Int->Bool->LL->oP R):Nat->Int->LL->oP R
 | 0,_,_=>none
 | m+1,a,c=>gb (decide (a>b)) (inB (c.length) a) () fun z=>gb (decide (a>b)) (c[a.toNat]?) [] fun g=>gb (decide (a>b)) (g[0]?) oF fun l=>gb (decide (a>b)) (g[1]?) oF fun o=>gb (decide (a>b)) (inB (c.length) (wJ (a-1))) () fun aa=>gb (decide (a>b)) (c[(Int.toNat (wJ (a-1)))]?) [] fun h=>gb (decide (a>b)) (h[0]?) oF fun p=>gb (decide (a>b)) (h[1]?) oF fun q=>gb (decide (a>b)) (pIw l) 0 fun r=>gb (decide (a>b)) (pIw o) 0 fun s=>gb (decide (a>b)) (pIw p) 0 fun t=>gb (decide (a>b)) (pIw q) 0 fun u=>gb (decide (a>b)) (WD n r s t u some) 0 fun i=>bif (bif decide (a>b) then (decide (i<0)) else false) then gb true (inB (c.length) (wJ (a-1))) () fun ab=>gb true (c[(Int.toNat (wJ (a-1)))]?) [] fun j=>gb true (j[0]?) oF fun d=>gb true (j[1]?) oF fun e=>gb true (inB (c.length) a) () fun ac=>gb true (c[a.toNat]?) [] fun k=>gb true (k[0]?) oF fun v=>gb true (k[1]?) oF fun x=>gb true (inB (c.length) a) () fun ad=>gb true (c[a.toNat]?) [] fun f=>gb true (inB (List.length (List.set c a.toNat (List.set (List.set f 0 d) 1 e))) (wJ (a-1))) () fun ae=>gb true ((List.set c a.toNat (List.set (List.set f 0 d) 1 e))[(Int.toNat (wJ (a-1)))]?) [] fun y=>Qe n b k0 m (wJ (a-1)) (List.set (List.set c a.toNat (List.set (List.set f 0 d) 1 e)) (Int.toNat (wJ (a-1))) (List.set (List.set y 0 v) 1 x)) else k0 a (bif decide (a>b) then (decide (i<0)) else false) c
def Q7 (n:Nat) (b h2:Int) (k0:Int->Bool->LL->oP R):Nat->Int->LL->oP R
 | 0,_,_=>none
 | m+1,a,c=>bif decide (a<h2) then Qe n b (fun e f d=>Q7 n b h2 k0 m (wJ (a+1)) d) n a c else k0 a (decide (a<h2)) c
def QG (n:Nat) (a:LL) (a1 a2:Int) (K:LL->oP R):oP R:= Q7 n a1 a2 (fun c d b=>K b) n (wJ (a1+1)) a

def Xk (n:Nat) (a h2 d:Int) (b:LL) (k0:LL->oP R):Nat->oP R
 | 0=>none
 | m+1=>bif (decide ((wJ (h2-a))<=12)) then gb true (QG n b a h2 some) [] fun c=>gb true (Ku c (b.length)) () fun e=>k0 c else bif (d == 0) then none else bif !true then none else none
def QY (n:Nat) (a:LL) (a1 a2 a3:Int) (K:LL->oP R):oP R:= Xk n a1 a2 a3 a (fun b=>K b) n

def Qg (n:Nat) (a:LL) (K:LL->oP R):oP R:= gb true (T3 n (IntKind.wrap .u64 (a.length:Int)) some) 0 fun c=>gb true (QY n a 0 (a.length:Int) c some) [] fun b=>gb true (Ku b (a.length)) () fun d=>K b

def X0 (n:Nat) (c:Int) (d:LL) (k0:Int->Bool->LL->oP R):Nat->Int->LL->oP R
 | 0,_,_=>none
 | m+1,b,a=>bif decide (b<c) then gb true (inB (d.length) b) () fun s=>gb true (d[b.toNat]?) [] fun g=>gb true (g[0]?) oF fun e=>gb true (g[1]?) oF fun f=>gb (decide ((wJ ((a.length:Int)-1))>=0)) (pIw e) 0 fun j=>gb (decide ((wJ ((a.length:Int)-1))>=0)) (inB (a.length) (wJ ((a.length:Int)-1))) () fun t=>gb (decide ((wJ ((a.length:Int)-1))>=0)) (a[(Int.toNat (wJ ((a.length:Int)-1)))]?) [] fun k=>gb (decide ((wJ ((a.length:Int)-1))>=0)) (k[1]?) oF fun l=>gb (decide ((wJ ((a.length:Int)-1))>=0)) (pIw l) 0 fun o=>bif (bif (decide ((wJ ((a.length:Int)-1))>=0)) then (decide (j<=o)) else false) then gb true (inB (a.length) (wJ ((a.length:Int)-1))) () fun u=>gb true (a[(Int.toNat (wJ ((a.length:Int)-1)))]?) [] fun p=>gb true (p[1]?) oF fun q=>gb true (pIw q) 0 fun h=>gb true (pIw f) 0 fun i=>gb true (inB (a.length) (wJ ((a.length:Int)-1))) () fun v=>gb true (a[(Int.toNat (wJ ((a.length:Int)-1)))]?) [] fun r=>X0 n c d k0 m (wJ (b+1)) (List.set a (Int.toNat (wJ ((a.length:Int)-1))) (List.set r 1 (Q5 (if h<i then i else h)))) else gb true (YD ((a.length+[[e,f]].length)*16)) () fun x=>X0 n c d k0 m (wJ (b+1)) (a++[[e,f]]) else k0 b (decide (b<c)) a
def Vd (n:Nat) (b:LL) (K:LL->LL->oP R):oP R:= gb true (Qg n b some) [] fun a=>gb true (Ku a (b.length)) () fun d=>X0 n (a.length:Int) a (fun e f c=>K c a) n 0 []

def GP (n:Nat) (a0:Int) (a1 a2:LL) (K:LL->Int->oP R):oP R:= gb true (GI n a0 [[D.sl 2 a1],[D.sl 2 a2]] some) 0 fun a=>bif (a != 0) then K [] a else gb true (QE n [[D.sl 2 a1],[D.sl 2 a2]] some) [] fun b=>gb true (NK [b]) () fun e=>gb true (Vd n b Tu2) ([],[]) fun c=>gb true (Ku c.2 (b.length)) () fun f=>K c.1 0

def Yy (n:Nat) (i d g j h e b:Int) (q2:LL) (K:Int->LL->oP R):oP R:= gb true (KC n b (wJ ((wJ (d-e))+1)) (wJ ((wJ ((wJ ((wJ (g-h))-1))-(wJ ((wJ (d-e))+1))))+1)) Tu2) ([],0) fun a=>gb true (GP n b q2 a.1 Tu2) ([],0) fun f=>gb true (NK [f.1]) () fun k=>K b f.1

def Qn (n:Nat)  (k0:LL->LL->Bool->LL->Int->oP R):Nat->LL->LL->LL->Int->oP R
 | 0,_,_,_,_=>none
 | m+1,a,h2,e,f=>bif (bif (decide ((a.length:Int)>0)) then (decide ((h2.length:Int)>0)) else false) then gb true (Q2 a 0) [] fun g=>gb true (g[0]?) oF fun b=>gb true (g[1]?) oF fun k=>gb true (g[2]?) oF fun l=>gb true (Q2 h2 0) [] fun h=>gb true (h[0]?) oF fun c=>gb true (h[1]?) oF fun o=>gb true (h[2]?) oF fun p=>gb true (pIw b) 0 fun q=>gb true (pIw c) 0 fun r=>bif (q == r) then gb true (pIw b) 0 fun s=>gb true (pIw k) 0 fun t=>gb true (pIw l) 0 fun u=>gb true (pIw c) 0 fun v=>gb true (pIw o) 0 fun x=>gb true (pIw p) 0 fun y=>gb true (Yy n s t u v x y f e Tu2) (0,[]) fun d=>gb true (pIw b) 0 fun ab=>gb true (pIw c) 0 fun ac=>bif decide (ab<=ac) then gb true (slB (a.length) (some 1) none) (0,0) fun i=>gb true (pIw b) 0 fun ad=>gb true (pIw c) 0 fun ae=>bif decide (ad>=ae) then gb true (slB (h2.length) (some 1) none) (0,0) fun ag=>Qn n k0 m (cut a i) (cut h2 ag) d.2 d.1 else Qn n k0 m (cut a i) h2 d.2 d.1 else gb true (pIw b) 0 fun ah=>gb true (pIw c) 0 fun ai=>bif decide (ah>=ai) then gb true (slB (h2.length) (some 1) none) (0,0) fun aj=>Qn n k0 m a (cut h2 aj) d.2 d.1 else Qn n k0 m a h2 d.2 d.1 else gb true (pIw b) 0 fun ak=>gb true (pIw c) 0 fun al=>bif decide (ak<=al) then gb true (slB (a.length) (some 1) none) (0,0) fun j=>gb true (pIw b) 0 fun am=>gb true (pIw c) 0 fun an=>bif decide (am>=an) then gb true (slB (h2.length) (some 1) none) (0,0) fun ao=>Qn n k0 m (cut a j) (cut h2 ao) e f else Qn n k0 m (cut a j) h2 e f else gb true (pIw b) 0 fun ap=>gb true (pIw c) 0 fun aq=>bif decide (ap>=aq) then gb true (slB (h2.length) (some 1) none) (0,0) fun ar=>Qn n k0 m a (cut h2 ar) e f else Qn n k0 m a h2 e f else k0 a h2 (bif (decide ((a.length:Int)>0)) then (decide ((h2.length:Int)>0)) else false) e f
def JP (n:Nat) (a0 a1:LL) (a:Int) (q2:LL) (K:Int->LL->oP R):oP R:= Qn n (fun d e f b c=>K c b) n a0 a1 q2 a

def UP (n:Nat) (a0:Int) (a1 a2:LL) (K:LL->Int->oP R):oP R:= jn (fun (d:Bool)=>bif d then K [] 4 else jn (fun (e:Bool)=>bif e then K [] 1 else gb true (JP n a1 a2 a0 [] Tu2) (0,[]) fun h=>K h.2 0) fun a=>gb true (UQ n a1 some) false fun b=>bif !b then a (!b) else gb true (UQ n a2 some) false fun i=>a (!i)) fun c=>bif decide (a0<1) then c (decide (a0<1)) else c (decide (a0>7200))

def Ha (n:Nat) (a b:Int) (K:Int->oP R):oP R:= K (wJ (b-a))

def Z7 (n:Nat) (h2:LL) (b:Int) (k0:Int->Int->Bool->oP R):Nat->Int->Int->oP R
 | 0,_,_=>none
 | m+1,c,a=>bif decide (a<b) then gb true (Q2 h2 a) [] fun d=>gb true (d[0]?) oF fun e=>gb true (d[1]?) oF fun f=>gb true (pIw e) 0 fun g=>gb true (pIw f) 0 fun h=>gb true (Ha n g h some) 0 fun i=>Z7 n h2 b k0 m (wJ (c+i)) (wJ (a+1)) else k0 c a (decide (a<b))
def Tf (n:Nat) (a0:LL) (K:Int->oP R):oP R:= Z7 n a0 (a0.length:Int) (fun a b c=>K a) n 0 0

def GT (n:Nat) (a0:Int) (a1:LL) (K:Int->oP R):oP R:= gb true (VO n a0 a1 some) false fun a=>bif !a then K 0 else gb true (Tf n a1 some) 0 fun b=>K b

def YT (n:Nat) (b:Int) (e:LL) (c:Int) (k0:Int->Bool->LL->oP R):Nat->Int->LL->oP R
 | 0,_,_=>none
 | m+1,a,d=>bif decide (a<c) then gb true (Q2 e a) [] fun f=>gb true (f[0]?) oF fun i=>gb true (f[1]?) oF fun j=>gb true (pIw j) 0 fun g=>gb true (pIw i) 0 fun h=>gb true (YD ((d.length+[[Q5 g,Q5 (wJ ((wJ (h+b))-1))]].length)*16)) () fun k=>YT n b e c k0 m (wJ (a+1)) (d++[[Q5 g,Q5 (wJ ((wJ (h+b))-1))]]) else k0 a (decide (a<c)) d
def Yc (n:Nat) (b c:Int) (d:LL) (k0:Int->Bool->LL->oP R):Nat->Int->LL->oP R
 | 0,_,_=>none
 | m+1,a,e=>bif decide (a<c) then gb true (inB (d.length) a) () fun k=>gb true (d[a.toNat]?) [] fun f=>gb true (f[0]?) oF fun i=>gb true (f[1]?) oF fun j=>gb true (pIw j) 0 fun g=>gb true (pIw i) 0 fun h=>gb true (YD ((e.length+[[Q5 g,Q5 (wJ ((wJ (h+b))-1))]].length)*16)) () fun l=>Yc n b c d k0 m (wJ (a+1)) (e++[[Q5 g,Q5 (wJ ((wJ (h+b))-1))]]) else k0 a (decide (a<c)) e
def Ux (n:Nat) (a0:Int) (a1 a2:LL) (K:LL->Int->oP R):oP R:= gb true (UP n a0 a1 a2 Tu2) ([],0) fun a=>bif (a.2 != 0) then K [] a.2 else gb true (GT n a0 a.1 some) 0 fun h=>bif (h == a0) then K [] 13 else gb (decide ((a.1.length:Int)>1)) (inB (a.1.length) 0) () fun u=>gb (decide ((a.1.length:Int)>1)) (a.1[(Int.toNat 0)]?) [] fun i=>gb (decide ((a.1.length:Int)>1)) (i[0]?) oF fun j=>gb (decide ((a.1.length:Int)>1)) (pIw j) 0 fun b=>gb (bif (decide ((a.1.length:Int)>1)) then (b == 0) else false) (inB (a.1.length) (wJ ((a.1.length:Int)-1))) () fun v=>gb (bif (decide ((a.1.length:Int)>1)) then (b == 0) else false) (a.1[(Int.toNat (wJ ((a.1.length:Int)-1)))]?) [] fun k=>gb (bif (decide ((a.1.length:Int)>1)) then (b == 0) else false) (k[1]?) oF fun l=>gb (bif (decide ((a.1.length:Int)>1)) then (b == 0) else false) (pIw l) 0 fun m=>bif (bif (bif (decide ((a.1.length:Int)>1)) then (b == 0) else false) then (m == a0) else false) then gb true (inB (a.1.length) (wJ ((a.1.length:Int)-1))) () fun x=>gb true (a.1[(Int.toNat (wJ ((a.1.length:Int)-1)))]?) [] fun o=>gb true (o[1]?) oF fun p=>gb true (pIw p) 0 fun c=>gb true (inB (a.1.length) 0) () fun y=>gb true (a.1[(Int.toNat 0)]?) [] fun q=>gb true (q[1]?) oF fun r=>gb true (pIw r) 0 fun d=>gb true (inB (a.1.length) (wJ ((a.1.length:Int)-1))) () fun z=>gb true (a.1[(Int.toNat (wJ ((a.1.length:Int)-1)))]?) [] fun e=>gb true (slB (List.length (List.set a.1 (Int.toNat (wJ ((a.1.length:Int)-1))) (List.set e 1 (Q5 (wJ (c+d)))))) (some 1) none) (0,0) fun f=>YT n a0 (cut (List.set a.1 (Int.toNat (wJ ((a.1.length:Int)-1))) (List.set e 1 (Q5 (wJ (c+d))))) f) ((List.length (cut (List.set a.1 (Int.toNat (wJ ((a.1.length:Int)-1))) (List.set e 1 (Q5 (wJ (c+d))))) f):Nat):Int) (fun aa ab s=>K s 0) n 0 [] else Yc n a0 (a.1.length:Int) a.1 (fun ac ad t=>K t 0) n 0 []

def Qv (n:Nat) (d e:Int) (f:LL) (c:Int) (k0:Int->Bool->LL->LL->LL->LL->LL->LL->LL->Int->LL->LL->LL->LL->LL->LL->LL->LL->LL->LL->Int->oP R):Nat->Int->LL->LL->LL->LL->LL->LL->LL->Int->LL->LL->LL->LL->LL->LL->LL->LL->LL->LL->Int->oP R
 | 0,_,_,_,_,_,_,_,_,_,_,_,_,_,_,_,_,_,_,_,_=>none
 | m+1,b,g,h,i,j,k,l,o,p,q,r,s,t,u,v,x,y,z,aa,ab=>bif decide (b<c) then gb true (Q2 f b) [] fun ac=>gb true (ac[0]?) oF fun ad=>gb true (ac[1]?) oF fun ae=>gb true (XT n d some) 0 fun ag=>gb true (XT n e some) 0 fun ah=>gb true (pIw ad) 0 fun ai=>gb true (pIw ae) 0 fun aj=>gb true (X2 n j k l o p q r s t u v x g y z aa ab h i 6 ag ah ai aj 0 Tu19) zZ1 fun a=>Qv n d e f c k0 m (wJ (b+1)) a.2.2.2.2.2.2.2.2.2.2.2.2.1 a.2.2.2.2.2.2.2.2.2.2.2.2.2.2.2.2.2.1 a.2.2.2.2.2.2.2.2.2.2.2.2.2.2.2.2.2.2 a.1 a.2.1 a.2.2.1 a.2.2.2.1 a.2.2.2.2.1 a.2.2.2.2.2.1 a.2.2.2.2.2.2.1 a.2.2.2.2.2.2.2.1 a.2.2.2.2.2.2.2.2.1 a.2.2.2.2.2.2.2.2.2.1 a.2.2.2.2.2.2.2.2.2.2.1 a.2.2.2.2.2.2.2.2.2.2.2.1 a.2.2.2.2.2.2.2.2.2.2.2.2.2.1 a.2.2.2.2.2.2.2.2.2.2.2.2.2.2.1 a.2.2.2.2.2.2.2.2.2.2.2.2.2.2.2.1 a.2.2.2.2.2.2.2.2.2.2.2.2.2.2.2.2.1 else k0 b (decide (b<c)) g h i j k l o p q r s t u v x y z aa ab
def Qx (n:Nat) (e:Int) (k0:Int->LL->LL->LL->LL->LL->LL->LL->Int->LL->LL->LL->LL->LL->LL->LL->LL->LL->LL->Int->oP R) (k1:Int->Bool->LL->LL->LL->LL->LL->LL->LL->Int->LL->LL->LL->LL->LL->LL->LL->LL->LL->LL->Int->oP R):Nat->Int->LL->LL->LL->LL->LL->LL->LL->Int->LL->LL->LL->LL->LL->LL->LL->LL->LL->LL->Int->oP R
 | 0,_,_,_,_,_,_,_,_,_,_,_,_,_,_,_,_,_,_,_,_=>none
 | m+1,b,h,i,j,k,l,o,p,q,r,s,t,u,v,x,y,f,z,aa,ab=>bif (decide (b<(f.length:Int))) then gb true (XD n k l o p q r s t u v x y h f z aa ab i j e b Tu20) ((fun _=>false),[],[],[],[],0,[],[],[],[],[],[],[],[],[],[],[],0,[],[]) fun a=>gb true (Q2 a.2.2.2.2.2.2.2.2.2.2.2.2.2.2.1 e) [] fun ay=>gb true (ay[0]?) oF fun az=>gb true (pSl 3 az) [] fun ba=>gb true (Wh n ba a.1 Tu2) ([],(fun _=>false)) fun ac=>gb true (Q2 a.2.2.2.2.2.2.2.2.2.2.2.2.2.2.1 b) [] fun bb=>gb true (bb[0]?) oF fun bc=>gb true (pSl 3 bc) [] fun bd=>gb true (Wh n bd ac.2 Tu2) ([],(fun _=>false)) fun be=>gb true (Ux n a.2.2.2.2.2.1 ac.1 be.1 Tu2) ([],0) fun g=>bif (g.2 != 0) then k0 g.2 a.2.2.2.2.2.2.2.2.2.2.2.2.2.1 a.2.2.2.2.2.2.2.2.2.2.2.2.2.2.2.2.2.2.1 a.2.2.2.2.2.2.2.2.2.2.2.2.2.2.2.2.2.2.2 a.2.1 a.2.2.1 a.2.2.2.1 a.2.2.2.2.1 a.2.2.2.2.2.1 a.2.2.2.2.2.2.1 a.2.2.2.2.2.2.2.1 a.2.2.2.2.2.2.2.2.1 a.2.2.2.2.2.2.2.2.2.1 a.2.2.2.2.2.2.2.2.2.2.1 a.2.2.2.2.2.2.2.2.2.2.2.1 a.2.2.2.2.2.2.2.2.2.2.2.2.1 a.2.2.2.2.2.2.2.2.2.2.2.2.2.2.1 a.2.2.2.2.2.2.2.2.2.2.2.2.2.2.2.1 a.2.2.2.2.2.2.2.2.2.2.2.2.2.2.2.2.1 a.2.2.2.2.2.2.2.2.2.2.2.2.2.2.2.2.2.1 else Qv n e b g.1 (g.1.length:Int) (fun cc ce bg bh bi bj bk bl bm bn bo bp bq br bt bu bv bx bz ca cb=>Qx n e k0 k1 m (wJ (b+1)) bg bh bi bj bk bl bm bn bo bp bq br bt bu bv bx bz ca cb) n 0 a.2.2.2.2.2.2.2.2.2.2.2.2.2.1 a.2.2.2.2.2.2.2.2.2.2.2.2.2.2.2.2.2.2.1 a.2.2.2.2.2.2.2.2.2.2.2.2.2.2.2.2.2.2.2 a.2.1 a.2.2.1 a.2.2.2.1 a.2.2.2.2.1 a.2.2.2.2.2.1 a.2.2.2.2.2.2.1 a.2.2.2.2.2.2.2.1 a.2.2.2.2.2.2.2.2.1 a.2.2.2.2.2.2.2.2.2.1 a.2.2.2.2.2.2.2.2.2.2.1 a.2.2.2.2.2.2.2.2.2.2.2.1 a.2.2.2.2.2.2.2.2.2.2.2.2.1 a.2.2.2.2.2.2.2.2.2.2.2.2.2.2.1 a.2.2.2.2.2.2.2.2.2.2.2.2.2.2.2.1 a.2.2.2.2.2.2.2.2.2.2.2.2.2.2.2.2.1 a.2.2.2.2.2.2.2.2.2.2.2.2.2.2.2.2.2.1 else k1 b (decide (b<(f.length:Int))) h i j k l o p q r s t u v x y f z aa ab
def Qi (n:Nat) (a:Int) (k0:Int->LL->LL->LL->LL->LL->LL->LL->Int->LL->LL->LL->LL->LL->LL->LL->LL->LL->LL->Int->oP R) (k1:Int->Bool->LL->LL->LL->LL->LL->LL->LL->Int->LL->LL->LL->LL->LL->LL->LL->LL->LL->LL->Int->oP R):Nat->Int->LL->LL->LL->LL->LL->LL->LL->Int->LL->LL->LL->LL->LL->LL->LL->LL->LL->LL->Int->oP R
 | 0,_,_,_,_,_,_,_,_,_,_,_,_,_,_,_,_,_,_,_,_=>none
 | m+1,h2,b,c,d,e,f,g,h,i,j,k,l,o,p,q,r,s,t,u,v=>bif decide (h2<a) then Qx n h2 (fun x y z aa ab ac ad ae ag ah ai aj ak al am an ao ap aq ar=>k0 x y z aa ab ac ad ae ag ah ai aj ak al am an ao ap aq ar) (fun bo bp au av aw ax ay az ba bb bc bd be bg bh bi bj bk bl bm bn=>Qi n a k0 k1 m (wJ (h2+1)) au av aw ax ay az ba bb bc bd be bg bh bi bj bk bl bm bn) n (wJ (h2+1)) b c d e f g h i j k l o p q r s t u v else k1 h2 (decide (h2<a)) b c d e f g h i j k l o p q r s t u v
def YP (n:Nat) (b c d e:LL) (f:Int) (g h i j k l m q1 a o p:LL) (q:Int) (q2 q3:LL) (K:Int->LL->LL->LL->LL->Int->LL->LL->LL->LL->LL->LL->LL->LL->LL->LL->LL->Int->LL->LL->oP R):oP R:= Qi n (a.length:Int) (fun r s t u v x y z aa ab ac ad ae ag ah ai aj ak al am=>K r v x y z aa ab ac ad ae ag ah ai s aj ak al am t u) (fun bj bk an ao ap aq ar au av aw ax ay az ba bb bc bd be bg bh bi=>K 0 aq ar au av aw ax ay az ba bb bc bd an be bg bh bi ao ap) n 0 q1 q2 q3 b c d e f g h i j k l m a o p q

def Wl (n:Nat) (v x y z:LL) (u:Int) (aa ab ac ad ae ag ah:LL) (K:Int->LL->LL->Int->oP R):oP R:= gb true (UO n v x y z u aa ab ac ad ae ag ah some) 0 fun g=>bif (g != 0) then K 0 [] [] 1 else gb true (Y2 n v x y z u aa ab ac ad ae ag ah [] [] [] [] u [] [] Tu19) zZ1 fun a=>bif (decide ((a.2.2.2.2.2.2.2.2.2.2.2.2.2.2.2.2.2.1.length:Int)>48)) then K 0 [] [] 7 else gb true (GK n v x y z u aa ab ac ad ae ag ah Tu3) ([],[],0) fun f=>bif (f.2.2 != 0) then K 0 [] [] f.2.2 else gb true (Y8 n a.1 a.2.1 a.2.2.1 a.2.2.2.1 a.2.2.2.2.1 a.2.2.2.2.2.1 a.2.2.2.2.2.2.1 a.2.2.2.2.2.2.2.1 a.2.2.2.2.2.2.2.2.1 a.2.2.2.2.2.2.2.2.2.1 a.2.2.2.2.2.2.2.2.2.2.1 a.2.2.2.2.2.2.2.2.2.2.2.1 a.2.2.2.2.2.2.2.2.2.2.2.2.1 f.1 f.2.1 a.2.2.2.2.2.2.2.2.2.2.2.2.2.2.2.1 a.2.2.2.2.2.2.2.2.2.2.2.2.2.2.2.2.1 a.2.2.2.2.2.2.2.2.2.2.2.2.2.2.2.2.2.1 a.2.2.2.2.2.2.2.2.2.2.2.2.2.2.2.2.2.2 Tu19) zZ1 fun c=>gb true (Z2 n c.1 c.2.1 c.2.2.1 c.2.2.2.1 c.2.2.2.2.1 c.2.2.2.2.2.1 c.2.2.2.2.2.2.1 c.2.2.2.2.2.2.2.1 c.2.2.2.2.2.2.2.2.1 c.2.2.2.2.2.2.2.2.2.1 c.2.2.2.2.2.2.2.2.2.2.1 c.2.2.2.2.2.2.2.2.2.2.2.1 c.2.2.2.2.2.2.2.2.2.2.2.2.1 c.2.2.2.2.2.2.2.2.2.2.2.2.2.1 c.2.2.2.2.2.2.2.2.2.2.2.2.2.2.1 c.2.2.2.2.2.2.2.2.2.2.2.2.2.2.2.1 c.2.2.2.2.2.2.2.2.2.2.2.2.2.2.2.2.1 c.2.2.2.2.2.2.2.2.2.2.2.2.2.2.2.2.2.1 c.2.2.2.2.2.2.2.2.2.2.2.2.2.2.2.2.2.2 Tu20) (false,[],[],[],[],0,[],[],[],[],[],[],[],[],[],[],[],0,[],[]) fun b=>bif (!b.1) then K 0 [] [] 13 else gb true (XV n b.2.1 b.2.2.1 b.2.2.2.1 b.2.2.2.2.1 b.2.2.2.2.2.1 b.2.2.2.2.2.2.1 b.2.2.2.2.2.2.2.1 b.2.2.2.2.2.2.2.2.1 b.2.2.2.2.2.2.2.2.2.1 b.2.2.2.2.2.2.2.2.2.2.1 b.2.2.2.2.2.2.2.2.2.2.2.1 b.2.2.2.2.2.2.2.2.2.2.2.2.1 b.2.2.2.2.2.2.2.2.2.2.2.2.2.1 b.2.2.2.2.2.2.2.2.2.2.2.2.2.2.1 b.2.2.2.2.2.2.2.2.2.2.2.2.2.2.2.1 b.2.2.2.2.2.2.2.2.2.2.2.2.2.2.2.2.1 b.2.2.2.2.2.2.2.2.2.2.2.2.2.2.2.2.2.1 b.2.2.2.2.2.2.2.2.2.2.2.2.2.2.2.2.2.2.1 b.2.2.2.2.2.2.2.2.2.2.2.2.2.2.2.2.2.2.2 Tu19) zZ1 fun d=>gb true (YP n d.1 d.2.1 d.2.2.1 d.2.2.2.1 d.2.2.2.2.1 d.2.2.2.2.2.1 d.2.2.2.2.2.2.1 d.2.2.2.2.2.2.2.1 d.2.2.2.2.2.2.2.2.1 d.2.2.2.2.2.2.2.2.2.1 d.2.2.2.2.2.2.2.2.2.2.1 d.2.2.2.2.2.2.2.2.2.2.2.1 d.2.2.2.2.2.2.2.2.2.2.2.2.1 d.2.2.2.2.2.2.2.2.2.2.2.2.2.1 d.2.2.2.2.2.2.2.2.2.2.2.2.2.2.1 d.2.2.2.2.2.2.2.2.2.2.2.2.2.2.2.1 d.2.2.2.2.2.2.2.2.2.2.2.2.2.2.2.2.1 d.2.2.2.2.2.2.2.2.2.2.2.2.2.2.2.2.2.1 d.2.2.2.2.2.2.2.2.2.2.2.2.2.2.2.2.2.2 Tu20) zZ0 fun e=>bif (e.1 != 0) then K 0 [] [] e.1 else bif (decide ((e.2.2.2.2.2.2.2.2.2.2.2.2.2.2.2.2.2.2.2.length:Int)>512)) then K 0 [] [] 7 else K e.2.2.2.2.2.2.2.2.2.2.2.2.2.2.2.2.2.1 e.2.2.2.2.2.2.2.2.2.2.2.2.2.2.2.2.2.2.1 e.2.2.2.2.2.2.2.2.2.2.2.2.2.2.2.2.2.2.2 0

end Go.Vx
namespace Go.Vx
namespace Cx
variable (X:Cx)
def evl (i:Nat):Nat->LL
 |0=>[]
 |k+1=>evl i k++[[Q5 1,Q5 i,Q5 k],[Q5 2,Q5 i,Q5 k]]
def evs:Nat->LL
 |0=>[]
 |i+1=>evs i++evl i (X.nr i)
theorem Q2m {i:Nat}:∀ {k:Nat},(evl i k).length=2*k
 |0=>rfl
 |k+1=>by rw [evl,List.length_append,Q2m];simp;omega
variable {X}
theorem evs_len:∀ {i:Nat},(X.evs i).length=2*base X.nr i
 |0=>rfl
 |i+1=>by rw [evs,List.length_append,evs_len,Q2m,base];omega
def fst (X:Cx) (i:Nat):LL:=encI ((List.range i).map fun j=>(base X.nr j:Int))
theorem QaB {i L:Nat} (h:i<L):Q2 (X.fst L) (i:Int)=some [Q5 (base X.nr i)]:=No (by simp [h])
variable {R:Type} {n:Nat} (h:X.OK) {per:Int} {Ch Sy De:LL}
include h
theorem Q8h {O Rn J A:LL} (K:LL->LL->LL->LL->Int->LL->LL->LL->LL->LL->LL->LL->LL->LL->LL->LL->Int->LL->LL->oP R):Y2 400 X.G.St X.G.Pt X.G.Se X.G.Li per X.skR X.Ro X.Ls Ch (X.T.map tuR) Sy De [] O Rn J per [] A K=K X.G.St X.G.Pt X.G.Se X.G.Li per X.skR X.Ro X.Ls Ch (X.T.map tuR) Sy De (X.fst X.L) O Rn J per (X.evs X.L) A:=by
 have l1:=h.l1;unfold Y2;refine QR (r:=fun m i=>QH 400 X.Ls ((X.Ls.length:Nat):Int) (fun _ _ a c=>K X.G.St X.G.Pt X.G.Se X.G.Li per X.skR X.Ro X.Ls Ch (X.T.map tuR) Sy De a O Rn J per c A) m i (X.fst i.toNat) (X.evs i.toNat)) (N:=X.Ls.length) (fun m i hi=>?_) (fun m=>?_) X.Ls.length 400 0 (by omega) (by omega)
 ·simp only [Int.toNat_natCast];have hb:=Jd h (i:=i) (by omega);have hl:=(line h hi).2.1;have e1:wJ (Int.tdiv ((2*base X.nr i:Nat):Int) 2)=(base X.nr i:Int):=by
   rw [Int.tdiv_eq_ediv_of_nonneg (by omega),Qf (by omega) (by omega)];omega
  have e2:X.fst i++[[D.int .i64 (base X.nr i:Int)]]=X.fst (i+1):=by simp [fst,encI,List.range_succ]
  have d:∀ {A B:LL},(X.fst i).length=i:=by simp [fst,encI]
  rw [QH,Qk hi,cond_true,Qp,(line h hi).1];simp -implicitDefEqProofs only [Q0,Qe4,Qe6,X6,Xa (show i<=1000 by omega),Ca (b:=2) (by decide),evs_len,e1,e2,XR (show ((X.fst i).length+[[D.int .i64 (base X.nr i:Int)]].length)*8<=100000 by rw [d (A:=[]) (B:=[])];simp;omega)];refine QR (r:=fun m' k=>QW 400 (i:Int) ((X.nr i:Nat):Int) (fun _ _ e=>QH 400 X.Ls ((X.Ls.length:Nat):Int) (fun _ _ a c=>K X.G.St X.G.Pt X.G.Se X.G.Li per X.skR X.Ro X.Ls Ch (X.T.map tuR) Sy De a O Rn J per c A) m ((i+1:Nat):Int) (X.fst (i+1)) e) m' k (X.evs i++evl i k.toNat)) (N:=X.nr i) (fun m' k hk=>?_) (fun m'=>?_) (X.nr i) 400 0 (by omega) (by omega) |> Eq.trans (by simp [evl];rfl)
  ·simp only [Int.toNat_natCast];rw [QW,Qk hk,cond_true,XR (by simp [evs_len,Q2m];omega),Q0,Xa (by omega),List.append_assoc];rfl
  ·simp only [Int.toNat_natCast];rw [QW,Xb,Qe5];rfl
 ·simp only [Int.toNat_natCast];rw [QH,Xb,Qe5];rfl
omit h in
theorem Q7K {a:Nat} (ha:a<=1000) (K:Int->oP R):XT n (a:Int) K=K ((2*a:Nat):Int):=by
 unfold XT;rw [Qf (by omega) (by omega)];congr 1
omit h in
theorem Qbc {a:Nat} (ha:a<=1000) (K:Int->oP R):Wp n (a:Int) K=K ((2*a+1:Nat):Int):=by
 unfold Wp;rw [Qf (x:=2*(a:Int)) (by omega) (by omega),Qf (by omega) (by omega)];congr 1
theorem Q0j {i k:Nat} (hi:i<X.Ls.length) (hk:k<=10) {O Rn J E A:LL} (K:Int->LL->LL->LL->LL->Int->LL->LL->LL->LL->LL->LL->LL->LL->LL->LL->LL->Int->LL->LL->oP R):Xt n X.G.St X.G.Pt X.G.Se X.G.Li per X.skR X.Ro X.Ls Ch (X.T.map tuR) Sy De (X.fst X.L) O Rn J per E A (i:Int) (k:Int) K=K ((base X.nr i+k:Nat):Int) X.G.St X.G.Pt X.G.Se X.G.Li per X.skR X.Ro X.Ls Ch (X.T.map tuR) Sy De (X.fst X.L) O Rn J per E A:=by
 have hb:=Jd h (i:=i) (by omega);unfold Xt;have e:=QaB (X:=X) (i:=i) (L:=X.L) hi;rw [Qp] at e;have el:(X.fst X.L).length=X.Ls.length:=by simp [fst,encI,L]
 rw [ZG (by omega) (by omega),Q0,Int.toNat_natCast,e,Q0];simp -implicitDefEqProofs only [Q0,Qe4,Q1];rw [Qf (by omega) (by omega)];congr 1
theorem Cy {i k:Nat} (hi:i<X.Ls.length) (hk:k<=10) {O Rn J E A:LL} (K:Int->LL->LL->LL->LL->Int->LL->LL->LL->LL->LL->LL->LL->LL->LL->LL->LL->Int->LL->LL->oP R):QS n X.G.St X.G.Pt X.G.Se X.G.Li per X.skR X.Ro X.Ls Ch (X.T.map tuR) Sy De (X.fst X.L) O Rn J per E A (i:Int) (k:Int) K=K ((base X.nr i+k:Nat):Int) X.G.St X.G.Pt X.G.Se X.G.Li per X.skR X.Ro X.Ls Ch (X.T.map tuR) Sy De (X.fst X.L) O Rn J per E A:=Q0j (n:=n) h hi hk K
theorem Q7S {i:Nat} (hi:i<X.Ls.length) {O Rn J E A:LL} (K:Int->LL->LL->LL->LL->Int->LL->LL->LL->LL->LL->LL->LL->LL->LL->LL->LL->Int->LL->LL->oP R):Zd n X.G.St X.G.Pt X.G.Se X.G.Li per X.skR X.Ro X.Ls Ch (X.T.map tuR) Sy De (X.fst X.L) O Rn J per E A (i:Int) K=K ((base X.nr i+(X.nr i-1):Nat):Int) X.G.St X.G.Pt X.G.Se X.G.Li per X.skR X.Ro X.Ls Ch (X.T.map tuR) Sy De (X.fst X.L) O Rn J per E A:=by
 have hl:=(line h hi).2.1;have hw:wJ (((List.length (Pe X.Ls i):Nat):Int)-1)=((X.nr i-1:Nat):Int):=Vi (k:=X.nr i) (by omega) (by omega);unfold Zd;rw [Qp,(line h hi).1];simp -implicitDefEqProofs only [Q0,Qe4,Qe6,X6,hw,Q0j (n:=n) h hi (show X.nr i-1<=10 by omega)]
theorem Q9P {i:Nat} (hi:i<X.Ls.length) {O Rn J E A:LL} (K:Int->LL->LL->LL->LL->Int->LL->LL->LL->LL->LL->LL->LL->LL->LL->LL->LL->Int->LL->LL->oP R):WW n X.G.St X.G.Pt X.G.Se X.G.Li per X.skR X.Ro X.Ls Ch (X.T.map tuR) Sy De (X.fst X.L) O Rn J per E A (i:Int) K=K ((base X.nr i+(X.nr i-1):Nat):Int) X.G.St X.G.Pt X.G.Se X.G.Li per X.skR X.Ro X.Ls Ch (X.T.map tuR) Sy De (X.fst X.L) O Rn J per E A:=Q7S (n:=n) h hi K
omit h in
def j1 (X:Cx) (i k:Nat):Tup:=(base X.nr i+k,base X.nr i+(k+1),X.run i k+X.mn i k,X.run i k+X.ex i k+X.mx i k)
omit h in
def jT (X:Cx) (t:Tup):Tup:=(base X.nr t.1+(X.nr t.1-1),base X.nr t.2.1+0,X.run t.1 (X.nr t.1-1)+t.2.2.1,X.run t.1 (X.nr t.1-1)+X.ex t.1 (X.nr t.1-1)+t.2.2.2)
omit h in
def jL (X:Cx) (i:Nat):List Tup:=flat (fun i=>X.nr i-1) X.j1 i
omit h in
def jns (X:Cx):List Tup:=X.jL X.L++X.T.map X.jT
omit h in
theorem Q7s {i k:Nat} (hi:i<X.Ls.length) (hk:k<X.nr i):Q2 (encI (X.runs X.L)) ((base X.nr i+k:Nat):Int)=some [Q5 (X.run i k)]:=No (Mu hk hi)
omit h in
theorem Q0e {i k:Nat} (hi:i<X.Ls.length) (hk:k<X.nr i):Q2 (Ut (X.occs X.L)) ((base X.nr i+k:Nat):Int)=some [D.sl 3 ((X.occ i k).map enc)]:=QT (Mu hk hi)
theorem Q9Q {i k b:Nat} (hi:i<X.Ls.length) (hk:k<X.nr i) {ex lo ak:Int} (a:0<=ex) (e1:ex<=1000) (l0:0<=lo) (l1:lo<=1000) (c:0<=ak) (d:ak<=1000) {O E A:LL} {J:List Tup} (hJ:J.length<=100) (K:LL->LL->LL->LL->Int->LL->LL->LL->LL->LL->LL->LL->LL->LL->LL->LL->Int->LL->LL->oP R) :
  XM n X.G.St X.G.Pt X.G.Se X.G.Li per X.skR X.Ro X.Ls Ch (X.T.map tuR) Sy De (X.fst X.L) O (encI (X.runs X.L)) (J.map tuR) per E A ((base X.nr i+k:Nat):Int) (b:Int) ex lo ak K=K X.G.St X.G.Pt X.G.Se X.G.Li per X.skR X.Ro X.Ls Ch (X.T.map tuR) Sy De (X.fst X.L) O (encI (X.runs X.L)) ((J++[(base X.nr i+k,b,X.run i k+lo,X.run i k+ex+ak)]).map tuR) per E A:=by
 have hr:=Q1S h hi hk;unfold XM;rw [Q7s hi hk,Q0];simp -implicitDefEqProofs only [Q0,Qe4,Q1,Qf (x:=X.run i k+lo) (by omega) (by omega),Qf (x:=X.run i k+ex) (by omega) (by omega),Qf (x:=X.run i k+ex+ak) (by omega) (by omega)];rw [XR (by simp;omega),Q0,Qeh];rfl
omit h in
theorem Q4T {i:Nat}:(X.jL i).length=base (fun i=>X.nr i-1) i:=WX
theorem Q8T {i:Nat} (hi:i<=X.Ls.length):(X.jL i).length<=6:=by
 rw [Q4T];have:∀ i,base (fun i=>X.nr i-1) i<=base X.nr i:=by
  intro i;induction i with
  |zero=>exact Qeg _
  |succ i ih=>rw [base,base];omega
 exact Nat.le_trans (this i) (Jd h hi)
theorem Q9s {O E A:LL} (K:LL->LL->LL->LL->Int->LL->LL->LL->LL->LL->LL->LL->LL->LL->LL->LL->Int->LL->LL->oP R):Y8 400 X.G.St X.G.Pt X.G.Se X.G.Li per X.skR X.Ro X.Ls Ch (X.T.map tuR) Sy De (X.fst X.L) O (encI (X.runs X.L)) [] per E A K=K X.G.St X.G.Pt X.G.Se X.G.Li per X.skR X.Ro X.Ls Ch (X.T.map tuR) Sy De (X.fst X.L) O (encI (X.runs X.L)) (X.jns.map tuR) per E A:=by
 have l1:=h.l1;have tl:=h.tl;unfold Y8;have s2:∀ k0:Int->Bool->LL->LL->LL->LL->LL->LL->LL->LL->Int->LL->LL->LL->LL->LL->LL->LL->LL->LL->Int->oP R,Qu 400 X.Ls ((X.Ls.length:Nat):Int) k0 400 0 (X.fst X.L) [] E A X.G.St X.G.Pt X.G.Se X.G.Li per X.skR X.Ro X.Ls Ch (X.T.map tuR) Sy De O (encI (X.runs X.L)) per=k0 ((X.Ls.length:Nat):Int) false (X.fst X.L) ((X.jL X.L).map tuR) E A X.G.St X.G.Pt X.G.Se X.G.Li per X.skR X.Ro X.Ls Ch (X.T.map tuR) Sy De O (encI (X.runs X.L)) per:=by
  intro k0;refine QR (r:=fun m i=>Qu 400 X.Ls ((X.Ls.length:Nat):Int) k0 m i (X.fst X.L) ((X.jL i.toNat).map tuR) E A X.G.St X.G.Pt X.G.Se X.G.Li per X.skR X.Ro X.Ls Ch (X.T.map tuR) Sy De O (encI (X.runs X.L)) per) (N:=X.Ls.length) (fun m i hi=>?_) (fun m=>?_) X.Ls.length 400 0 (by omega) (by omega)
  ·simp only [Int.toNat_natCast];have hl:=(line h hi).2.1;have hJ:=Q8T h (i:=i) (by omega);have hw:wJ (((List.length (Pe X.Ls i):Nat):Int)-1)=((X.nr i-1:Nat):Int):=Vi (k:=X.nr i) (by omega) (by omega);have b0:(cut (Pe X.Ls i) (0,X.nr i-1)).length=X.nr i-1:=by rw [RL,List.length_take];unfold nr;omega
   rw [Qu,Qk hi,cond_true,Qp,(line h hi).1];simp -implicitDefEqProofs only [Q0,Qe4,Qe6,X6,Xa (show i<=1000 by omega),hw,BI (n:=(Pe X.Ls i).length) (h:=X.nr i-1) (Nat.sub_le ..),b0];refine QR (r:=fun m' k=>X4 400 (i:Int) (cut (Pe X.Ls i) (0,X.nr i-1)) ((X.nr i-1:Nat):Int) (fun ce cf ah ai aj ak al am an ao ap aq ar au av aw ax ay az ba bb=>Qu 400 X.Ls ((X.Ls.length:Nat):Int) k0 m ((i+1:Nat):Int) ah ai aj ak al am an ao ap aq ar au av aw ax ay az ba bb) m' k (X.fst X.L) ((X.jL i++(List.range k.toNat).map (X.j1 i)).map tuR) E A X.G.St X.G.Pt X.G.Se X.G.Li per X.skR X.Ro X.Ls Ch (X.T.map tuR) Sy De O (encI (X.runs X.L)) per) (N:=X.nr i-1) (fun m' k hk=>?_) (fun m'=>?_) (X.nr i-1) 400 0 (by omega) (by omega) |> Eq.trans (by simp)
   ·simp only [Int.toNat_natCast];have r:=rd h hi (show k<X.nr i by omega);have a8:Q2 (cut (Pe X.Ls i) (0,X.nr i-1)) (k:Int)=some [Q5 (rF X.Ls i k 0),Q5 (X.ex i k),Q5 (X.mn i k),Q5 (X.mx i k)]:=by rw [RL,Qp,List.getElem?_take_of_lt hk,r.row]
    have f:=r.ex0;have e1:=r.ex1;have e2:=r.mn0;have e3:=r.mn1;have e4:=r.mn2;have e5:=r.mn3;rw [X4,Qk hk,cond_true,a8];simp -implicitDefEqProofs only [Q0,Qe4,Qe6,Q1,Q0j (n:=400) h hi (show k<=10 by omega),Xa (show k<=1000 by omega),Q0j (n:=400) h hi (show k+1<=10 by omega),Q9Q (n:=400) (b:=base X.nr i+(k+1)) h hi (show k<X.nr i by omega) f (show X.ex i k<=1000 by omega) e2 (show X.mn i k<=1000 by omega) (show 0<=X.mx i k by omega) (show X.mx i k<=1000 by omega) (J:=X.jL i++(List.range k).map (X.j1 i)) (by simp;omega)];rw [show (base X.nr i+k,base X.nr i+(k+1),X.run i k+X.mn i k,X.run i k+X.ex i k+X.mx i k)=X.j1 i k from rfl,Zk]
   ·simp only [Int.toNat_natCast];rw [X4,Xb,Qe5];rfl
  ·simp only [Int.toNat_natCast];rw [Qu,Xb,Qe5];rfl
 rw [show (X.Ls.length:Int)=((X.Ls.length:Nat):Int) from rfl,s2];rw [Qea];refine QR (r:=fun m j=>X3 400 (X.T.map tuR) ((X.T.length:Nat):Int) (fun cj ck bc bd be bg bh bi bj bk bl bm bn bo bp bq br bt bu bv bx=>K bh bi bj bk bl bm bn bo bp bq br bt bc bu bv bd bx be bg) m j (X.fst X.L) ((X.jL X.L++(X.T.take j.toNat).map X.jT).map tuR) E A X.G.St X.G.Pt X.G.Se X.G.Li per X.skR X.Ro X.Ls Ch (X.T.map tuR) Sy De O (encI (X.runs X.L)) per) (N:=X.T.length) (fun m j hj=>?_) (fun m=>?_) X.T.length 400 0 (by omega) (by omega) |> Eq.trans (by simp)
 ·simp only [Int.toNat_natCast];obtain ⟨⟨a,b,lo,a6⟩,e⟩:∃ q,X.T[j]? = some q:=⟨X.T[j],Qe9 hj⟩;have ht:=h.tr _ (List.mem_of_getElem? e);have ha:a<X.Ls.length:=ht.1;have hb:b<X.Ls.length:=ht.2.1;have t1:=ht.2.2.1;have t2:=ht.2.2.2.1;have t3:=ht.2.2.2.2.1;have t4:=ht.2.2.2.2.2.1;dsimp only at t1 t2 t3 t4;have hl:=(line h ha).2.1;have hJ:=Q8T h (i:=X.L) (Qeg _);have hw:wJ (((List.length (Pe X.Ls a):Nat):Int)-1)=((X.nr a-1:Nat):Int):=Vi (k:=X.nr a) (by omega) (by omega);have r:=rd h ha (show X.nr a-1<X.nr a by omega);have f:=r.ex0;have e1:=r.ex1;rw [X3,Qk hj,cond_true,QT e];simp -implicitDefEqProofs only [Q0,tuR,Qe4,Qe6,Q1,X6,Qp,(line h ha).1,hw,r.row,Q7S (n:=400) h ha,Xa (show j<=1000 by omega)];have c:=Q0j (R:=Int × LL × LL × LL × LL × Int × LL × LL × LL × LL × LL × LL × LL × LL × LL × LL × LL × Int × LL × LL) (n:=400) h (per:=per) (Ch:=Ch) (Sy:=Sy) (De:=De) hb (Nat.zero_le 10) (O:=O) (Rn:=encI (X.runs X.L)) (J:=(X.jL X.L++(X.T.take j).map X.jT).map tuR) (E:=E) (A:=A) Tu20;have d:=Q9Q (R:=LL × LL × LL × LL × Int × LL × LL × LL × LL × LL × LL × LL × LL × LL × LL × LL × Int × LL × LL) (n:=400) (b:=base X.nr b+0) h (per:=per) (Ch:=Ch) (Sy:=Sy) (De:=De) ha (show X.nr a-1<X.nr a by omega) f (show X.ex a (X.nr a-1)<=1000 by omega) (show 0<=lo by omega) (show lo<=1000 by omega) (show 0<=a6 by omega) (show a6<=1000 by omega) (O:=O) (E:=E) (A:=A) (J:=X.jL X.L++(X.T.take j).map X.jT) (by simp;omega) Tu19;rw [show ((0:Nat):Int)=0 from rfl] at c;rw [c,Q0];dsimp only;have e9:X.jL X.L++(X.T.take (j+1)).map X.jT=X.jL X.L++(X.T.take j).map X.jT++[X.jT (a,b,lo,a6)]:=by rw [Uc e,Qeh,List.append_assoc];rfl
  rw [d,Q0,e9];rfl
 ·simp only [Int.toNat_natCast];rw [X3,Xb,Qe5,List.take_length];rfl
end Cx
end Go.Vx
namespace Go.Vx
variable {R:Type}
def Yq (n:Nat) (d:LL) (k0:oP R) (k1:Int->Bool->oP R):Nat->Int->oP R
 | 0,_=>none
 | m+1,h2=>bif (decide (h2<(d.length:Int))) then gb true (Q2 d h2) [] fun g=>gb true (g[0]?) oF fun h=>gb true (pIw h) 0 fun a=>gb ((!(decide (a<0)))&&(decide (h2>0))) (Q2 d h2) [] fun i=>gb ((!(decide (a<0)))&&(decide (h2>0))) (i[0]?) oF fun j=>gb ((!(decide (a<0)))&&(decide (h2>0))) (pIw j) 0 fun b=>gb ((!(decide (a<0)))&&(decide (h2>0))) (Q2 d (wJ (h2-1))) [] fun k=>gb ((!(decide (a<0)))&&(decide (h2>0))) (k[0]?) oF fun l=>gb ((!(decide (a<0)))&&(decide (h2>0))) (pIw l) 0 fun c=>gb (!(bif decide (a<0) then true else (bif decide (h2>0) then (decide (b<=c)) else false))) (Q2 d h2) [] fun o=>gb (!(bif decide (a<0) then true else (bif decide (h2>0) then (decide (b<=c)) else false))) (o[1]?) oF fun p=>gb (!(bif decide (a<0) then true else (bif decide (h2>0) then (decide (b<=c)) else false))) (pIw p) 0 fun e=>gb (!(bif (bif decide (a<0) then true else (bif decide (h2>0) then (decide (b<=c)) else false)) then true else (decide (e<(-65536:Int))))) (Q2 d h2) [] fun q=>gb (!(bif (bif decide (a<0) then true else (bif decide (h2>0) then (decide (b<=c)) else false)) then true else (decide (e<(-65536:Int))))) (q[2]?) oF fun r=>gb (!(bif (bif decide (a<0) then true else (bif decide (h2>0) then (decide (b<=c)) else false)) then true else (decide (e<(-65536:Int))))) (pIw r) 0 fun f=>gb (!(bif (bif (bif decide (a<0) then true else (bif decide (h2>0) then (decide (b<=c)) else false)) then true else (decide (e<(-65536:Int)))) then true else (decide (f>65536)))) (Q2 d h2) [] fun s=>gb (!(bif (bif (bif decide (a<0) then true else (bif decide (h2>0) then (decide (b<=c)) else false)) then true else (decide (e<(-65536:Int)))) then true else (decide (f>65536)))) (s[1]?) oF fun t=>gb (!(bif (bif (bif decide (a<0) then true else (bif decide (h2>0) then (decide (b<=c)) else false)) then true else (decide (e<(-65536:Int)))) then true else (decide (f>65536)))) (pIw t) 0 fun u=>gb (!(bif (bif (bif decide (a<0) then true else (bif decide (h2>0) then (decide (b<=c)) else false)) then true else (decide (e<(-65536:Int)))) then true else (decide (f>65536)))) (Q2 d h2) [] fun v=>gb (!(bif (bif (bif decide (a<0) then true else (bif decide (h2>0) then (decide (b<=c)) else false)) then true else (decide (e<(-65536:Int)))) then true else (decide (f>65536)))) (v[2]?) oF fun x=>gb (!(bif (bif (bif decide (a<0) then true else (bif decide (h2>0) then (decide (b<=c)) else false)) then true else (decide (e<(-65536:Int)))) then true else (decide (f>65536)))) (pIw x) 0 fun y=>bif (bif (bif (bif (bif decide (a<0) then true else (bif decide (h2>0) then (decide (b<=c)) else false)) then true else (decide (e<(-65536:Int)))) then true else (decide (f>65536))) then true else (decide (u>=y))) then k0 else Yq n d k0 k1 m (wJ (h2+1)) else k1 h2 (decide (h2<(d.length:Int)))
def V8 (n:Nat) (a0:LL) (K:Bool->oP R):oP R:= Yq n a0 (K false) (fun a b=>K true) n 0
def Wj (n:Nat) (b:LL) (h2:Int) (k0:D->D->D->oP R) (k1:Int->Bool->oP R):Nat->Int->oP R
 | 0,_=>none
 | m+1,a=>bif (decide (a<(b.length:Int))) then gb true (Q2 b a) [] fun d=>gb true (d[0]?) oF fun e=>gb true (pIw e) 0 fun f=>bif (f == h2) then gb true (Q2 b a) [] fun c=>gb true (c[0]?) oF fun g=>gb true (c[1]?) oF fun h=>gb true (c[2]?) oF fun i=>k0 g h i else Wj n b h2 k0 k1 m (wJ (a+1)) else k1 a (decide (a<(b.length:Int)))
def EY (n:Nat) (a0:LL) (a1:Int) (K:D->D->D->Bool->oP R):oP R:= Wj n a0 a1 (fun a b c=>K a b c true) (fun d e=>K (Q5 0) (Q5 0) (Q5 0) false) n 0

def E2 (n:Nat) (a0 a1:Int) (K:Int->oP R):oP R:= bif decide (a1<1) then K 0 else gb true (nz a1) () fun a=>bif (decide ((Int.tmod a0 a1)<0)) then K (wJ ((Int.tmod a0 a1)+a1)) else K (Int.tmod a0 a1)

def YA (n:Nat) (b:Int) (f:LL) (g d:Int) (h:D) (k0:Int->Bool->LL->oP R):Nat->Int->LL->oP R
 | 0,_,_=>none
 | m+1,a,c=>bif (bif decide (a<d) then (decide (a<b)) else false) then gb true (Q2 f g) [] fun i=>gb true (i[1]?) oF fun j=>gb true (pIw j) 0 fun k=>gb true (pIw h) 0 fun l=>gb true (E2 n (wJ ((wJ ((wJ (k-l))+1))+a)) b some) 0 fun e=>gb true (inB (c.length) e) () fun p=>gb true (c[e.toNat]?) [] fun o=>YA n b f g d h k0 m (wJ (a+1)) (List.set c e.toNat (List.set o 0 (D.bool true))) else k0 a (bif decide (a<d) then (decide (a<b)) else false) c
def Xx (n:Nat) (d:Int) (b e:LL) (k0:Int->Bool->LL->oP R):Nat->Int->LL->oP R
 | 0,_,_=>none
 | m+1,a,f=>bif (decide (a<(b.length:Int))) then gb true (Q2 b a) [] fun g=>gb true (g[0]?) oF fun h=>gb true (pIw h) 0 fun i=>gb true (EY n e i Tu4) ((.bool false),(.bool false),(.bool false),false) fun c=>bif (!c.2.2.2) then Xx n d b e k0 m (wJ (a+1)) f else gb true (Q2 b a) [] fun p=>gb true (p[2]?) oF fun q=>gb true (pIw q) 0 fun r=>gb true (Q2 b a) [] fun s=>gb true (s[1]?) oF fun t=>gb true (pIw t) 0 fun u=>gb true (pIw c.2.2.1) 0 fun v=>gb true (pIw c.2.1) 0 fun x=>YA n d b a (wJ ((wJ ((wJ ((wJ (r-u))+v))-x))-1)) c.2.2.1 (fun z aa y=>Xx n d b e k0 m (wJ (a+1)) y) n 0 f else k0 a (decide (a<(b.length:Int))) f
def H6 (n:Nat) (a0:Int) (a1 a2:LL) (K:LL->Int->oP R):oP R:= gb true (Uv n a0 1 7200 some) false fun b=>bif !b then K [] 4 else gb true (V8 n a1 some) false fun a=>gb (!(!a)) (V8 n a2 some) false fun c=>bif (bif !a then true else (!c)) then K [] 1 else gb true (bif decide (0<=a0)&&decide (a0<=a0) then some () else none) () fun e=>gb true (YD (Int.toNat a0*1)) () fun f=>Xx n a0 a1 a2 (fun g h d=>K d 0) n 0 (List.replicate a0.toNat [D.bool false])

def Xz (n:Nat) (h2:Int) (c:LL) (k0:Int->Bool->LL->oP R):Nat->Int->LL->oP R
 | 0,_,_=>none
 | m+1,b,a=>bif decide (b<h2) then gb true (Q2 c b) [] fun d=>gb true (d[0]?) oF fun e=>gb true (PM e) false fun f=>bif !f then Xz n h2 c k0 m (wJ (b+1)) a else gb (decide ((a.length:Int)>0)) (inB (a.length) (wJ ((a.length:Int)-1))) () fun k=>gb (decide ((a.length:Int)>0)) (a[(Int.toNat (wJ ((a.length:Int)-1)))]?) [] fun g=>gb (decide ((a.length:Int)>0)) (g[1]?) oF fun h=>gb (decide ((a.length:Int)>0)) (pIw h) 0 fun i=>bif (bif (decide ((a.length:Int)>0)) then (i == b) else false) then gb true (inB (a.length) (wJ ((a.length:Int)-1))) () fun l=>gb true (a[(Int.toNat (wJ ((a.length:Int)-1)))]?) [] fun j=>Xz n h2 c k0 m (wJ (b+1)) (List.set a (Int.toNat (wJ ((a.length:Int)-1))) (List.set j 1 (Q5 (wJ (b+1))))) else gb true (YD ((a.length+[[Q5 b,Q5 (wJ (b+1))]].length)*16)) () fun o=>Xz n h2 c k0 m (wJ (b+1)) (a++[[Q5 b,Q5 (wJ (b+1))]]) else k0 b (decide (b<h2)) a
def V1 (n:Nat) (a0:Int) (a1 a2:LL) (K:LL->Int->oP R):oP R:= gb true (H6 n a0 a1 a2 Tu2) ([],0) fun a=>bif (a.2 != 0) then K [] a.2 else Xz n a0 a.1 (fun d e c=>K c 0) n 0 []

def Yb (n:Nat) (g:Int) (h2:LL) (k0:oP R) (k1:Int->Int->Bool->oP R):Nat->Int->Int->oP R
 | 0,_,_=>none
 | m+1,a,c=>bif (decide (c<(h2.length:Int))) then gb true (Q2 h2 c) [] fun h=>gb true (h[0]?) oF fun i=>gb true (pIw i) 0 fun b=>gb (!(decide (b<=a))) (Q2 h2 c) [] fun j=>gb (!(decide (b<=a))) (j[0]?) oF fun k=>gb (!(decide (b<=a))) (pIw k) 0 fun d=>gb (!(bif decide (b<=a) then true else (decide (d<0)))) (Q2 h2 c) [] fun l=>gb (!(bif decide (b<=a) then true else (decide (d<0)))) (l[1]?) oF fun o=>gb (!(bif decide (b<=a) then true else (decide (d<0)))) (pIw o) 0 fun e=>gb (!(bif decide (b<=a) then true else (decide (d<0)))) (Q2 h2 c) [] fun p=>gb (!(bif decide (b<=a) then true else (decide (d<0)))) (p[0]?) oF fun q=>gb (!(bif decide (b<=a) then true else (decide (d<0)))) (pIw q) 0 fun f=>gb (!(bif (bif decide (b<=a) then true else (decide (d<0))) then true else (decide (e<=f)))) (Q2 h2 c) [] fun r=>gb (!(bif (bif decide (b<=a) then true else (decide (d<0))) then true else (decide (e<=f)))) (r[1]?) oF fun s=>gb (!(bif (bif decide (b<=a) then true else (decide (d<0))) then true else (decide (e<=f)))) (pIw s) 0 fun t=>bif (bif (bif (bif decide (b<=a) then true else (decide (d<0))) then true else (decide (e<=f))) then true else (decide (t>g))) then k0 else gb true (Q2 h2 c) [] fun u=>gb true (u[1]?) oF fun v=>gb true (pIw v) 0 fun x=>Yb n g h2 k0 k1 m x (wJ (c+1)) else k1 a c (decide (c<(h2.length:Int)))
def K4 (n:Nat) (a0:Int) (a1:LL) (K:Bool->oP R):oP R:= bif (bif decide (a0<1) then true else (decide (a0>7200))) then K false else Yb n a0 a1 (K false) (fun a b c=>K true) n (-1:Int) 0

def JB (n:Nat) (c:LL) (a:Int) (k0:oP R) (k1:Int->Bool->oP R):Nat->Int->oP R
 | 0,_=>none
 | m+1,b=>bif (decide (b<(c.length:Int))) then gb true (Q2 c b) [] fun e=>gb true (e[0]?) oF fun f=>gb true (pIw f) 0 fun d=>gb (decide (a>=d)) (Q2 c b) [] fun g=>gb (decide (a>=d)) (g[1]?) oF fun h=>gb (decide (a>=d)) (pIw h) 0 fun i=>bif (bif decide (a>=d) then (decide (a<i)) else false) then k0 else JB n c a k0 k1 m (wJ (b+1)) else k1 b (decide (b<(c.length:Int)))
def NC (n:Nat) (a0:Int) (a1:LL) (a2:Int) (K:Bool->oP R):oP R:= gb true (K4 n a0 a1 some) false fun a=>bif !a then K false else gb true (E2 n a2 a0 some) 0 fun b=>JB n a1 b (K true) (fun c d=>K false) n 0

end Go.Vx
namespace Go.Vx
abbrev Sp2:=Int × Int
def XC (q:Sp2):List D:=[Q5 q.1,Q5 q.2]
def VS (t:Int):Int->List Sp2->Prop
 |_,[]=>True
 |l,(a,b)::r=>l<a/\a<b/\b<=t/\VS t b r
def InS (y:Int) (l:List Sp2):Prop:=∃ q∈l,q.1<=y/\y<q.2
def cnt:List Sp2->Int
 |[]=>0
 |(a,b)::r=>(b-a)+cnt r
theorem He {y:Int}:¬ InS y []:=fun ⟨_,h,_⟩=>nomatch h
theorem UR {y:Int} {q:Sp2} {l:List Sp2}:InS y (q::l)↔(q.1<=y/\y<q.2)\/InS y l:=by
 constructor
 ·rintro ⟨p,hp,h⟩;cases hp with
  |head=>exact .inl h
  |tail _ hp=>exact .inr ⟨p,hp,h⟩
 ·rintro (h | ⟨p,hp,h⟩)
  ·exact ⟨q,.head _,h⟩
  ·exact ⟨p,.tail _ hp,h⟩
theorem D8 {y:Int} {a b:List Sp2}:InS y (a++b)↔InS y a\/InS y b:=by
 constructor
 ·rintro ⟨p,hp,h⟩;rcases Qev.1 hp with hp | hp
  ·exact .inl ⟨p,hp,h⟩
  ·exact .inr ⟨p,hp,h⟩
 ·rintro (⟨p,hp,h⟩ | ⟨p,hp,h⟩)
  ·exact ⟨p,List.mem_append_left _ hp,h⟩
  ·exact ⟨p,List.mem_append_right _ hp,h⟩
theorem Q38 {y:Int} {a b:List Sp2} (h:a.Perm b):InS y a↔InS y b:=⟨fun ⟨p,hp,q⟩=>⟨p,h.mem_iff.1 hp,q⟩,fun ⟨p,hp,q⟩=>⟨p,h.mem_iff.2 hp,q⟩⟩
theorem VS.mono {t:Int}:∀ {l l':Int} {s:List Sp2},l'<=l->VS t l s->VS t l' s
 |_,_,[],_,_=>trivial
 |_,_,(a,b)::r,h,⟨c,h2⟩=>⟨by omega,h2⟩
theorem VS.rng {t:Int}:∀ {l:Int} {s:List Sp2},VS t l s->∀ q∈s,l<q.1/\q.1<q.2/\q.2<=t
 |_,[],_,_,h=>nomatch h
 |l,(a,b)::r,⟨c,h2,d,e⟩,q,h=>by
  cases h with
  |head=>exact ⟨c,h2,d⟩
  |tail _ h=>have:=e.rng q h;exact ⟨by omega,this.2⟩
theorem VS.cnt {t:Int}:∀ {l:Int} {s:List Sp2},l<=t->VS t l s->0<=cnt s/\cnt s<=t-l/\(0<s.length->cnt s<=t-l-1)
 |l,[],h,_=>⟨Int.le_refl _,by simp only [Vx.cnt];omega,fun h=>nomatch h⟩
 |l,(a,b)::r,h,⟨e,h2,c,d⟩=>by
  have:=d.cnt c;simp only [Vx.cnt];omega
theorem Q65 {t:Int}:∀ {l:Int} {s:List Sp2},VS t l s->l<=t->∀ q∈s,q.2-q.1<=cnt s
 |_,[],_,_,_,h=>nomatch h
 |l,(a,b)::r,⟨e,h2,c,d⟩,hl,q,h=>by
  have f:=d.cnt c;cases h with
  |head=>simp only [Vx.cnt];omega
  |tail _ h=>have:=Q65 d c q h;simp only [Vx.cnt];omega
section
variable {R:Type} {n:Nat} {t:Int}
theorem BJ (a:1<=t) (b:t<=7200) (K:Bool->oP R):WC n t K=K true:=by
 unfold WC;simp only [show decide (t>=1)=true from Qe8 a,show decide (t<=7200)=true from Qe8 b,cond_true]
theorem Q33 {l:List Sp2} (hl:l.length<=1000) {k0:oP R} {k1:Int->Int->Bool->oP R} {E:oP R} (hk:∀ a b c,k1 a b c=E):∀ (ak:List Sp2) (i m:Nat) (last:Int),l.drop i=ak->ak.length<m->VS t last ak->ZY n t (l.map XC) ((l.length:Nat):Int) k0 k1 m last (i:Int)=E
 |[],i,m+1,last,hd,_,_=>by
  have:=Y7 hd;rw [ZY,show decide ((i:Int)<((l.length:Nat):Int))=false by simpa using this,Qe5,hk]
 |(a,b)::ak,i,m+1,last,hd,hm,⟨f,h2,g,d⟩=>by
  obtain ⟨e,am,hi⟩:=XG hd;rw [ZY,Qk hi,cond_true,QT e];simp -implicitDefEqProofs only [Q0,XC,Qe4,Qe6,Q1,show decide (a<=last)=false from Qe7 (by omega),show decide (a>=b)=false from Qe7 (by omega),show decide (b>t)=false from Qe7 (by omega),Qe5,Xa (show i<=1000 by omega)];exact Q33 hl hk ak (i+1) m b am (by simpa using hm) d
theorem Dx {l:List Sp2} (a:1<=t) (b:t<=7200) (hl:l.length<=300) (h:VS t (-1) l):VO 400 t (l.map XC) (some:Bool->Option Bool)=some true:=by
 unfold VO;rw [BJ a b,Q0,Q8 (by rfl),Qea];exact Q33 (by omega) (fun _ _ _=>rfl) l 0 400 (-1) rfl (by omega) h
theorem Q2M {l:List Sp2} (hl:l.length<=1000) {k0:Int->Int->Bool->oP R}:∀ (ak:List Sp2) (i m:Nat) (acc:Int),l.drop i=ak->ak.length<m->(∃ u,VS t u ak /\ -1<=u/\u<=t)->t<=7200->0<=acc->acc<=100000-cnt ak->∃ j b,Z7 n (l.map XC) ((l.length:Nat):Int) k0 m acc (i:Int)=k0 (acc+cnt ak) j b
 |[],i,m+1,acc,hd,_,_,_,_,_=>by
  have:=Y7 hd;rw [Z7,show decide ((i:Int)<((l.length:Nat):Int))=false by simpa using this,Qe5];exact ⟨_,_,by rw [cnt,Int.add_zero]⟩
 |(a,b)::ak,i,m+1,acc,hd,hm,⟨u,⟨k,h2,d,f⟩,o,p⟩,ht,q,g=>by
  obtain ⟨e,am,hi⟩:=XG hd;have hc:=f.cnt d;rw [cnt] at g ⊢;rw [Z7,Qk hi,cond_true,QT e];simp -implicitDefEqProofs only [Q0,XC,Qe4,Qe6,Q1,Ha,Qf (x:=b-a) (by omega) (by omega),Qf (x:=acc+(b-a)) (by omega) (by omega),Xa (show i<=1000 by omega)];obtain ⟨j,c,h⟩:=Q2M hl ak (i+1) m (acc+(b-a)) am (by simpa using hm) ⟨b,f,by omega,d⟩ ht (by omega) (by omega);exact ⟨j,c,by rw [h,Int.add_assoc]⟩
theorem QaI {l:List Sp2} (c:1<=t) (a:t<=7200) (hl:l.length<=300) (h:VS t (-1) l):GT 400 t (l.map XC) (some:Int->Option Int)=some (cnt l):=by
 have hc:=h.cnt (by omega);obtain ⟨j,b,e⟩:=Q2M (n:=400) (k0:=fun w _ _=>(some w:Option Int)) (l:=l) (by omega) l 0 400 0 rfl (by omega) ⟨-1,h,by omega,by omega⟩ a (by omega) (by omega);unfold GT;rw [Dx c a hl h,Q0,Q8 (by rfl)];unfold Tf;rw [Qea,show Z7 400 (l.map XC) ((l.length:Nat):Int) (fun w _ _=>(some w:Option Int)) 400 0 0=_ from e,Q0,Int.zero_add]
theorem Qbp {x:Int} (c:1<=t) (d:t<=7200) (h2 : -1000000000<=x) (f:x<=1000000000) (K:Int->oP R):Pv n x t K=K (x % t):=by
 unfold Pv;rw [Q8 (Qe7 (by omega)),Ca (by omega),Q0];have g:=Qeu x (show t≠0 by omega);have h:=Qes x (show 0<t by omega);by_cases hx:0<=x
 ·rw [Qeo hx,Q8 (Qe7 (by omega))]
 ·have e:Int.tmod x t = -((-x) % t):=by
   rw [show x = -(-x) by omega,Int.neg_tmod,Qeo (by omega),Int.neg_neg]
  have e1:x % t=if (-x) % t=0 then 0 else t-(-x) % t:=by
   have a:=Qeu (-x) (show t≠0 by omega);have i:=Qes (-x) (show 0<t by omega);have j:=Int.mul_ediv_add_emod (-x) t;split
   ·rename_i b;rw [show x=t*(-((-x) / t)) by rw [Int.mul_neg];omega];exact Int.mul_emod_right _ _
   ·rename_i b;rw [show x=(t-(-x) % t)+t*(-((-x) / t)-1) by rw [Int.mul_sub,Int.mul_neg];omega,Int.add_mul_emod_self_left];rw [show (t-(-x) % t+t*(-((-x) / t)-1))=x by rw [Int.mul_sub,Int.mul_neg];omega];exact Int.emod_eq_of_lt (by omega) (by omega)
  rw [e];by_cases hz:(-x) % t=0
  ·rw [hz,Q8 (by rfl),e1,if_pos hz];rfl
  ·have a:=Qeu (-x) (show t≠0 by omega);rw [QJ (Qe8 (by omega)),Qf (by omega) (by omega),e1,Qec hz];congr 1;omega
theorem Qc6 {x:Int} (a:1<=t) (b:t<=7200) (h2 : -1000000000<=x) (c:x<=1000000000) (K:Int->oP R):E2 n x t K=K (x % t):=Qbp (n:=n) a b h2 c K
def Q0W (t x k:Int):List Sp2:=if k<1 then [] else if t<=k then [(0,t)] else if x+k<=t then [(x,x+k)] else [(0,x+k-t),(x,t)]
theorem Q5g {x k:Int}:(Q0W t x k).length<=2:=by
 unfold Q0W;split
 ·simp
 split
 ·simp
 split <;> simp
theorem Q6G {x k:Int} (a:1<=t) (hx:0<=x) (ak:x<t):VS t (-1) (Q0W t x k):=by
 unfold Q0W;split
 ·trivial
 split
 ·exact ⟨by omega,by omega,by omega,trivial⟩
 split
 ·exact ⟨by omega,by omega,by omega,trivial⟩
 ·exact ⟨by omega,by omega,by omega,by omega,by omega,by omega,trivial⟩
theorem Qbi {x y:Int} (hx:0<=x) (ak:x<t) (hy:0<=y) (am:y<t):(y-x) % t=if x<=y then y-x else y-x+t:=by
 split
 ·exact Int.emod_eq_of_lt (by omega) (by omega)
 ·rw [show y-x=(y-x+t)+t*(-1) by omega,Int.add_mul_emod_self_left];rw [show y-x+t+t*(-1)+t=y-x+t by omega];exact Int.emod_eq_of_lt (by omega) (by omega)
theorem Q77 {x k y:Int} (hx:0<=x) (an:x<t) (hy:0<=y) (ak:y<t):InS y (Q0W t x k)↔(y-x) % t<k:=by
 rw [Qbi hx an hy ak];unfold Q0W;split
 ·refine ⟨fun h=>absurd h He,fun h=>?_⟩;split at h <;> omega
 split
 ·rw [UR];constructor
  ·intro _;split <;> omega
  ·intro _;exact .inl ⟨hy,ak⟩
 split
 ·rw [UR];constructor
  ·rintro (h | h)
   ·dsimp only at h;rw [if_pos h.1];omega
   ·exact absurd h He
  ·intro h;left;dsimp only;split at h <;> omega
 ·rw [UR,UR];constructor
  ·rintro (h | h | h)
   ·dsimp only at h;split <;> omega
   ·dsimp only at h;rw [if_pos h.1];omega
   ·exact absurd h He
  ·intro h;dsimp only;by_cases am:x<=y
   ·exact .inr (.inl ⟨am,ak⟩)
   ·rw [Qec am] at h;exact .inl ⟨hy,by omega⟩
theorem Qb2 {f k:Int} (c:1<=t) (d:t<=7200) (h2 : -1000000<=f) (j:f<=1000000) (l : -1000000<=k) (m:k<=1000000):KC 400 t f k Tu2=some ((Q0W t (f % t) k).map XC,(0:Int)):=by
 have e:=Qeu f (show t≠0 by omega);have g:=Qes f (show 0<t by omega);unfold KC;rw [BJ c d,Q0,Q8 (by rfl),Qbp c d (by omega) (by omega),Q0];revert e g;generalize f % t=x;intro e g;unfold UV Q0W;by_cases c1:k<1
 ·rw [show decide (k<1)=true from Qe8 c1,cond_true,if_pos c1];rfl
 rw [show decide (k<1)=false from Qe7 c1,Qe5,Qec c1];by_cases a:t<=k
 ·rw [show decide (k>=t)=true from Qe8 a,cond_true,if_pos a];rfl
 rw [show decide (k>=t)=false from Qe7 a,Qe5,Qec a,Qf (x:=x+k) (by omega) (by omega)];by_cases b:x+k<=t
 ·rw [show decide (x+k<=t)=true from Qe8 b,cond_true,if_pos b];rfl
 ·rw [show decide (x+k<=t)=false from Qe7 b,Qe5,Qec b,Qf (x:=x+k-t) (by omega) (by omega)];rfl
end
theorem Qcs {R:Type} {n:Nat} {a b:Int} (K:Int->oP R):Jf n a b K=K (if a<b then -1 else if b<a then 1 else 0):=by
 unfold Jf;have hn:∀ x:Int,J2 n x (some:Bool->Option Bool)=some false:=fun x=>by
  unfold J2;simp
 rw [hn,hn,Q0,Q0,Q8 (by rfl),Q8 (by rfl)];by_cases h:a<b
 ·rw [QJ (Qe8 h),if_pos h]
 ·rw [Q8 (Qe7 h),Qec h];by_cases g:b<a
  ·rw [QJ (Qe8 g),if_pos g]
  ·rw [Q8 (Qe7 g),Qec g]
def Asc (l:List Sp2):Prop:=l.Pairwise fun a b=>a.1<=b.1
theorem Q6j (q:Sp2):(XC q)[0]? = some (Q5 q.1):=rfl
theorem Q4O (q:Sp2):(XC q)[1]? = some (Q5 q.2):=rfl
theorem Qb8 (z q:Sp2):((XC z).set 0 (Q5 q.1)).set 1 (Q5 q.2)=XC q:=rfl
theorem QbA (q:Sp2) (v:Int):(XC q).set 1 (D.int .i64 v)=XC (q.1,v):=rfl
section
variable {R:Type} {n:Nat}
theorem Q9i {A B:LL} {x:List D} {i:Nat} (h:A.length=i):(A++x::B)[i]? = some x:=by
 subst h;rw [List.getElem?_append_right (Qeg _),Nat.sub_self];rfl
theorem Q9o {A B:LL} {x y:List D} {i:Nat} (h:A.length=i):(A++x::B).set i y=A++y::B:=by
 subst h;rw [List.set_append_right _ _ (Qeg _),Nat.sub_self];rfl
theorem Q7m {K:LL->oP R} {k0:Int->Bool->LL->oP R} (hk:∀ a b w,k0 a b w=K w):∀ (c m:Nat) (A:List Sp2) (x:Sp2) (B C:List Sp2),A.length=c->c<m->(A++x::B++C).length<=100->Asc (A++B)->(∀ b∈B,x.1<=b.1) ->
  ∃ L:List Sp2,Qe n 0 k0 m (c:Int) ((A++x::B++C).map XC)=K ((L++C).map XC)/\Asc L/\L.Perm (A++x::B)
 |0,m+1,A,x,B,C,hA,_,_,hs,hx=>by
  obtain rfl:=List.eq_nil_of_length_eq_zero hA;refine ⟨x::B,?_,Qem.2 ⟨hx,hs⟩,List.Perm.refl _⟩;unfold Qe;rw [show decide (((0:Nat):Int)>0)=false from rfl];simp -implicitDefEqProofs only [gbF,Qe5,hk,List.nil_append]
 |c+1,m+1,A,x,B,C,hA,hm,hl,hs,hx=>by
  obtain ⟨A',y,rfl⟩:∃ A' y,A=A'++[y]:=⟨A.dropLast,A.getLast (by intro h;rw [h] at hA;simp at hA),(List.dropLast_concat_getLast _).symm⟩;have ak:A'.length=c:=by simpa using hA
  have an:c+1<((A'++[y]++x::B++C).map XC).length:=by simp;omega
  have hc:c<=100:=by simp at hl;omega
  have e1:((A'++[y]++x::B++C).map XC)=(A'.map XC++[XC y])++XC x::(B++C).map XC:=by simp
  have e2:((A'++[y]++x::B++C).map XC)=A'.map XC++XC y::(XC x::(B++C).map XC):=by simp
  have g1:((A'++[y]++x::B++C).map XC)[c+1]? = some (XC x):=by rw [e1];exact Q9i (by simp [ak])
  have d:((A'++[y]++x::B++C).map XC)[c]? = some (XC y):=by rw [e2];exact Q9i (by simp [ak])
  have s1:((A'++[y]++x::B++C).map XC).set (c+1) (XC y)=A'.map XC++XC y::(XC y::(B++C).map XC):=by rw [e1,Q9o (by simp [ak])];simp
  have e:(A'.map XC++XC y::(XC y::(B++C).map XC))[c]? = some (XC y):=Q9i (by simp [ak]);have s2:(A'.map XC++XC y::(XC y::(B++C).map XC)).set c (XC x)=((A'++x::(y::B)++C).map XC):=by rw [Q9o (by simp [ak])];simp
  have f:inB ((A'++[y]++x::B++C).map XC).length ((c+1:Nat):Int)=some ():=ZG (by omega) (by omega);have g:inB ((A'++[y]++x::B++C).map XC).length ((c:Nat):Int)=some ():=ZG (by omega) (by omega);have i:inB (A'.map XC++XC y::(XC y::(B++C).map XC)).length ((c:Nat):Int)=some ():=ZG (by omega) (by simp;omega);unfold Qe;rw [show decide (((c+1:Nat):Int)>0)=true from Qe8 (by omega),Vi (show c+1<=1000 by omega) (by omega),Qef];unfold WD;simp -implicitDefEqProofs only [f,g,Q0,Int.toNat_natCast,g1,d,Qcs];simp -implicitDefEqProofs only [Q6j,Q4O,Qb8,Q0,Q1,cond_true];by_cases am:x.1<y.1
  ·rw [if_pos am];simp -implicitDefEqProofs only [show decide ((-1:Int)<0)=true from rfl,cond_true,g1,Q6j,Q4O,Qb8,Q0,s1];simp -implicitDefEqProofs only [i,e,Q0,Qb8,s2];obtain ⟨L,j,h2,k⟩:=Q7m hk c m A' x (y::B) C ak (by omega) (by simp at hl ⊢;omega) (by simpa using hs) (fun b hb=>by
    cases hb with
    |head=>omega
    |tail _ hb=>exact hx b hb)
   refine ⟨L,j,h2,k.trans ?_⟩;rw [List.append_assoc];exact List.Perm.append_left _ (List.Perm.swap ..)
  ·refine ⟨A'++[y]++x::B,?_,?_,List.Perm.refl _⟩
   ·rw [Qec am,show decide ((if y.1<x.1 then (1:Int) else 0)<0)=false from Qe7 (by split <;> omega),Qe5,hk]
   ·unfold Asc at hs ⊢;rw [List.pairwise_append] at hs ⊢;refine ⟨hs.1,Qem.2 ⟨hx,hs.2.1⟩,fun a ha b hb=>?_⟩;cases hb with
    |head=>
     rcases Qev.1 ha with h | h
     ·have:=(List.pairwise_append.1 hs.1).2.2 a h y (Qet.2 rfl);omega
     ·obtain rfl:=Qet.1 h;omega
    |tail _ hb=>exact hs.2.2 a ha b hb
theorem Q7k {K:LL->oP R} {k0:Int->Bool->LL->oP R} (hk:∀ a b w,k0 a b w=K w):∀ (ak P:List Sp2) (m:Nat),ak.length<m->(P++ak).length<=100->Asc P ->
  ∃ L:List Sp2,Q7 400 0 (((P++ak).length:Nat):Int) k0 m ((P.length:Nat):Int) ((P++ak).map XC)=K (L.map XC)/\Asc L/\L.Perm (P++ak)
 |[],P,m+1,_,_,hs=>by
  refine ⟨P,?_,hs,by simp⟩;rw [Q7,List.append_nil,Xb,Qe5,hk]
 |x::ak,P,m+1,hm,hl,hs=>by
  rw [Q7,Qk (by simp),cond_true,Xa (by simp at hl;omega)];obtain ⟨L,d,h2,c⟩:=Q7m (n:=400) (K:=fun w=>Q7 400 0 (((P++x::ak).length:Nat):Int) k0 m ((P.length+1:Nat):Int) w) (k0:=fun _ _ w=>Q7 400 0 (((P++x::ak).length:Nat):Int) k0 m ((P.length+1:Nat):Int) w) (fun _ _ _=>rfl) P.length 400 P x [] ak rfl (by simp at hl;omega) (by simp at hl ⊢;omega) (by simpa using hs) (fun b hb=>nomatch hb);rw [show (P++x::ak)=P++[x]++ak by simp] at *
  rw [d];have hL:L.length=P.length+1:=by rw [c.length_eq];simp
  obtain ⟨L',g1,e,f⟩:=Q7k hk ak L m (by simpa using hm) (by simp [hL] at hl ⊢;omega) h2;rw [show (((P++[x]++ak).length:Nat):Int)=(((L++ak).length:Nat):Int) by simp [hL];omega,show ((P.length+1:Nat):Int)=((L.length:Nat):Int) by rw [hL]];exact ⟨L',g1,e,f.trans (c.append_right _)⟩
theorem QcC:((List.range 13).all fun k=>(T3 400 (IntKind.wrap .u64 ((k:Nat):Int)) (some:Int->Option Int)).isSome)=true:=by kernel_rfl
theorem QbQ {l:List Sp2} (hl:l.length<=12):∃ L:List Sp2,Qg 400 (l.map XC) (some:LL->Option LL)=some (L.map XC)/\Asc L/\L.Perm l:=by
 obtain ⟨b,hb⟩:=Option.isSome_iff_exists.1 (List.all_eq_true.1 QcC l.length (List.mem_range.2 (by omega)));unfold Qg;rw [Qea,hb,Q0];unfold QY Xk;rw [Qf (x:=((l.length:Nat):Int)-0) (by omega) (by omega),QJ (Qe8 (by omega))];unfold QG;have am:∀ L:List Sp2,L.length=l.length->(gb true (gb true (some (L.map XC)) [] fun a=>gb true (Ku a (List.length (l.map XC))) () fun f=>some a) [] fun c=>gb true (Ku c l.length) () fun g=>(some c:Option LL))=some (L.map XC):=fun L h=>by
  rw [Q0,Sw (by simp [h]),Q0,Q0,Sw (by simp [h]),Q0]
 rw [show wJ ((0:Int)+1)=((1:Nat):Int) from rfl];cases l with
 |nil=>
  refine ⟨[],?_,List.Pairwise.nil,List.Perm.refl _⟩;rfl
 |cons x ak=>
  obtain ⟨L,e,h2,d⟩:=Q7k (K:=(some:LL->Option LL)) (k0:=fun _ _ w=>some w) (fun _ _ _=>rfl) ak [x] 400 (by simp at hl;omega) (by simp at hl ⊢;omega) (List.pairwise_singleton ..);refine ⟨L,?_,h2,d⟩;rw [show (x::ak)=[x]++ak from rfl,show ((1:Nat):Int)=(([x].length:Nat):Int) from rfl,e];exact am L d.length_eq
def mgS:Int->Int->List Sp2->List Sp2
 |a,b,[]=>[(a,b)]
 |a,b,(c,d)::r=>if c<=b then mgS a (if b<d then d else b) r else (a,b)::mgS c d r
theorem Q28:∀ {a b:Int} {r:List Sp2},(mgS a b r).length<=r.length+1
 |_,_,[]=>Qeg _
 |a,b,(c,d)::r=>by
  rw [mgS];split
  ·have:=Q28 (a:=a) (b:=if b<d then d else b) (r:=r);simp only [Qek];omega
  ·have:=Q28 (a:=c) (b:=d) (r:=r);simp only [Qek];omega
theorem Q5r {t:Int}:∀ {l a b:Int} {r:List Sp2},l<a->a<b->b<=t->Asc ((a,b)::r)->(∀ q∈r,q.1<q.2/\q.2<=t)->VS t l (mgS a b r)
 |l,a,b,[],e,h2,f,_,_=>⟨e,h2,f,trivial⟩
 |l,a,b,(c,d)::r,e,h2,f,h,g=>by
  have hs:=Qem.1 h;have hc:a<=c:=hs.1 (c,d) (.head _);have hd:=g (c,d) (.head _);rw [mgS];split
  ·refine Q5r e (by split <;> omega) (by split <;> simp_all) (Qem.2 ⟨fun q hq=>hs.1 q (.tail _ hq),(Qem.1 hs.2).2⟩) (fun q hq=>g q (.tail _ hq))
  ·exact ⟨e,h2,f,Q5r (by omega) hd.1 hd.2 hs.2 (fun q hq=>g q (.tail _ hq))⟩
theorem Q5k {y:Int}:∀ {a b:Int} {r:List Sp2},Asc ((a,b)::r)->a<b->(∀ q∈r,q.1<q.2)->(InS y (mgS a b r)↔(a<=y/\y<b)\/InS y r)
 |a,b,[],_,_,_=>by rw [mgS,UR]
 |a,b,(c,d)::r,f,h2,e=>by
  have hs:=Qem.1 f;have hc:a<=c:=hs.1 (c,d) (.head _);have hd:=e (c,d) (.head _);rw [mgS,UR];split
  ·rw [Q5k (a:=a) (b:=if b<d then d else b) (Qem.2 ⟨fun q hq=>hs.1 q (.tail _ hq),(Qem.1 hs.2).2⟩) (by split <;> omega) (fun q hq=>e q (.tail _ hq))];dsimp only at hc hd ⊢;rw [<- or_assoc];refine or_congr_left ?_;split <;> omega
  ·rw [UR,Q5k hs.2 hd (fun q hq=>e q (.tail _ hq))]
theorem Aj {K:LL->oP R} {k0:Int->Bool->LL->oP R} (hk:∀ a b w,k0 a b w=K w) {l:List Sp2} (hl:l.length<=100):∀ (ak:List Sp2) (i m:Nat) (A:List Sp2) (a b:Int),l.drop i=ak->ak.length<m->A.length+ak.length<=100 ->
  X0 n ((l.length:Nat):Int) (l.map XC) k0 m (i:Int) ((A++[(a,b)]).map XC)=K ((A++mgS a b ak).map XC)
 |[],i,m+1,A,a,b,hd,_,_=>by
  have:=Y7 hd;rw [X0,show decide ((i:Int)<((l.length:Nat):Int))=false by simpa using this,Qe5,hk,mgS]
 |(c,d)::ak,i,m+1,A,a,b,hd,hm,hA=>by
  obtain ⟨e,aq,hi⟩:=XG hd;have au:A.length<=100:=by omega
  have f:(l.map XC)[i]? = some (XC (c,d)):=by rw [Qei,e];rfl
  have e1:(A++[(a,b)]).map XC=A.map XC++XC (a,b)::[]:=by simp
  have an:((A++[(a,b)]).map XC).length=A.length+1:=by simp
  have g:((A++[(a,b)]).map XC)[A.length]? = some (XC (a,b)):=by rw [e1];exact Q9i (by simp)
  have ao:∀ v,((A++[(a,b)]).map XC).set A.length (XC (a,v))=(A++[(a,v)]).map XC:=fun v=>by rw [e1,Q9o (by simp)];simp
  rw [X0,Qk hi,cond_true,an,Vi (show A.length+1<=1000 by omega) (by omega),Qef,Qea,ZG (by omega) (by omega),ZG (by omega) (by omega),show decide ((A.length:Int)>=0)=true from Qe8 (by omega)];simp -implicitDefEqProofs only [Q0,Int.toNat_natCast,f,g,Xa (show i<=1000 by omega)];simp -implicitDefEqProofs only [Q6j,Q4O,QbA,Q0,Q1,cond_true];rw [mgS];by_cases am:c<=b
  ·rw [show decide (c<=b)=true from Qe8 am,cond_true,if_pos am];rw [ao];exact Aj hk hl ak (i+1) m A a _ aq (by simpa using hm) (by simp at hA;omega)
  ·rw [show decide (c<=b)=false from Qe7 am,Qe5,Qec am,XR (by simp;omega),Q0];have:=Aj hk hl ak (i+1) m (A++[(a,b)]) c d aq (by simpa using hm) (by simp at hA ⊢;omega);rw [show A++(a,b)::mgS c d ak=A++[(a,b)]++mgS c d ak by simp,<- this,Qeh (l₂:=[(c,d)])];rfl
theorem t2a {x y:List D}:decide ((0:Int)<(([x,y].length:Nat):Int))=true:=rfl
theorem t2b {x y:List D}:decide ((1:Int)<(([x,y].length:Nat):Int))=true:=rfl
theorem t2c {x y:List D}:decide ((2:Int)<(([x,y].length:Nat):Int))=false:=rfl
theorem t2d:wJ ((0:Int)+1)=1:=rfl
theorem t2e:wJ ((1:Int)+1)=2:=rfl
theorem t2f {x y:List D}:Q2 [x,y] 0=some x:=rfl
theorem t2g {x y:List D}:Q2 [x,y] 1=some y:=rfl
theorem Q8X {a b:List Sp2} (h:a.length+b.length<=100):QE 400 [[D.sl 2 (a.map XC)],[D.sl 2 (b.map XC)]] (some:LL->Option LL)=some ((a++b).map XC):=by
 have hg:∀ k:Nat,k<=100->Qz 400 (k:Int) (some:LL->Option LL)=some []:=fun k hk=>by
  unfold Qz;rw [Q8 (Qe7 (by omega)),show wJ ((0:Int)-0)=0 from rfl,Qf (x:=(k:Int)-0) (by omega) (by omega)];by_cases c:k=0
  ·subst c;rfl
  ·rw [QJ (Qe8 (by omega)),show slB 0 none (some (0:Int))=some (0,0) from rfl,Q0,QJ (Qe8 (by omega)),Q0,XR (by omega),Q0]
 unfold QE;rw [Qc];simp -implicitDefEqProofs only [t2a,t2b,t2c,t2d,t2e,t2f,t2g,cond_true,Qe5,Q0,Qe4,X6,Qea,Qf (x:=0+(a.length:Int)) (by omega) (by omega),Qf (x:=0+(a.length:Int)+(b.length:Int)) (by omega) (by omega),show decide (0+(a.length:Int)<0)=false from Qe7 (by omega),show decide (0+(a.length:Int)+(b.length:Int)<0)=false from Qe7 (by omega),show 0+(a.length:Int)+(b.length:Int)=((a.length+b.length:Nat):Int) by omega,Qf (x:=((a.length+b.length:Nat):Int)) (by omega) (by omega),show decide (((a.length+b.length:Nat):Int)<0)=false from Qe7 (by omega),hg _ h];rw [Qc];simp -implicitDefEqProofs only [t2a,t2b,t2c,t2d,t2e,t2f,t2g,cond_true,Qe5,Q0,Qe4,X6,Qea,Qf (x:=0+(a.length:Int)) (by omega) (by omega),Qf (x:=0+(a.length:Int)+(b.length:Int)) (by omega) (by omega),show decide (0+(a.length:Int)<0)=false from Qe7 (by omega),show decide (0+(a.length:Int)+(b.length:Int)<0)=false from Qe7 (by omega),show 0+(a.length:Int)+(b.length:Int)=((a.length+b.length:Nat):Int) by omega,Qf (x:=((a.length+b.length:Nat):Int)) (by omega) (by omega),show decide (((a.length+b.length:Nat):Int)<0)=false from Qe7 (by omega),hg _ h];rw [Qc];simp -implicitDefEqProofs only [t2a,t2b,t2c,t2d,t2e,t2f,t2g,cond_true,Qe5,Q0,Qe4,X6,Qea,Qf (x:=0+(a.length:Int)) (by omega) (by omega),Qf (x:=0+(a.length:Int)+(b.length:Int)) (by omega) (by omega),show decide (0+(a.length:Int)<0)=false from Qe7 (by omega),show decide (0+(a.length:Int)+(b.length:Int)<0)=false from Qe7 (by omega),show 0+(a.length:Int)+(b.length:Int)=((a.length+b.length:Nat):Int) by omega,Qf (x:=((a.length+b.length:Nat):Int)) (by omega) (by omega),show decide (((a.length+b.length:Nat):Int)<0)=false from Qe7 (by omega),hg _ h];rw [Qd];simp -implicitDefEqProofs only [t2a,t2b,t2c,t2d,t2e,t2f,t2g,cond_true,Qe5,Q0,Qe4,X6,Qea,List.nil_append,Qej,XR (show (0+a.length)*16<=100000 by omega),XR (show (a.length+b.length)*16<=100000 by omega),Qeh];rw [Qd];simp -implicitDefEqProofs only [t2a,t2b,t2c,t2d,t2e,t2f,t2g,cond_true,Qe5,Q0,Qe4,X6,Qea,List.nil_append,Qej,XR (show (0+a.length)*16<=100000 by omega),XR (show (a.length+b.length)*16<=100000 by omega),Qeh];rw [Qd];simp -implicitDefEqProofs only [t2a,t2b,t2c,t2d,t2e,t2f,t2g,cond_true,Qe5,Q0,Qe4,X6,Qea,List.nil_append,Qej,XR (show (0+a.length)*16<=100000 by omega),XR (show (a.length+b.length)*16<=100000 by omega),Qeh]
theorem Q9A {l:List Sp2}:NK [l.map XC]=some ():=by
 unfold NK;rw [show ([l.map XC].all EK)=true by simp [EK,XC,Q0A]];rfl
theorem Q9w {t:Int} {a b:List Sp2} (c:1<=t) (d:t<=7200) (ha:VS t (-1) a) (hb:VS t (-1) b) (hl:a.length<=300) (ak:b.length<=300):GI 400 t [[D.sl 2 (a.map XC)],[D.sl 2 (b.map XC)]] (some:Int->Option Int)=some 0:=by
 unfold GI;rw [BJ c d,Q0,Q8 (by rfl)];rw [ZS];simp -implicitDefEqProofs only [t2a,t2b,t2c,t2d,t2e,t2f,t2g,cond_true,Qe5,Q0,Qe4,X6,Dx c d hl ha,Dx c d ak hb,Qed];rw [ZS];simp -implicitDefEqProofs only [t2a,t2b,t2c,t2d,t2e,t2f,t2g,cond_true,Qe5,Q0,Qe4,X6,Dx c d hl ha,Dx c d ak hb,Qed];rw [ZS];simp -implicitDefEqProofs only [t2a,t2b,t2c,t2d,t2e,t2f,t2g,cond_true,Qe5,Q0,Qe4,X6,Dx c d hl ha,Dx c d ak hb,Qed]
theorem Qan {t:Int} {a b:List Sp2} (e:1<=t) (f:t<=7200) (ha:VS t (-1) a) (hb:VS t (-1) b) (hl:a.length+b.length<=12):∃ c:List Sp2,GP 400 t (a.map XC) (b.map XC) Tu2=some (c.map XC,(0:Int))/\VS t (-1) c/\c.length<=a.length+b.length/\∀ y,InS y c↔InS y a\/InS y b:=by
 obtain ⟨L,s1,s2,d⟩:=QbQ (l:=a++b) (by simp;omega);have hr:∀ q∈L,-1<q.1/\q.1<q.2/\q.2<=t:=fun q hq=>by
  rcases Qev.1 (d.mem_iff.1 hq) with h | h
  ·exact ha.rng q h
  ·exact hb.rng q h
 have ak:L.length=a.length+b.length:=by rw [d.length_eq];simp
 unfold GP;rw [Q9w e f ha hb (by omega) (by omega),Q0,Q8 (by rfl),Q8X (by omega),Q0,Q9A,Q0];unfold Vd;rw [s1,Q0,Sw (by simp [ak]),Q0,Qea];cases L with
 |nil=>
  refine ⟨[],?_,trivial,by simp,fun y=>?_⟩
  ·rw [Qea,<- d.length_eq,X0,show decide ((0:Int)<((([]:List Sp2).length:Nat):Int))=false from rfl,Qe5];rfl
  ·rw [<- D8,<- Q38 d]
 |cons q L=>
  obtain ⟨x,z⟩:=q;have hq:=hr (x,z) (.head _);have am:L.length+1<=12:=by simp at ak;omega
  have hm:=Aj (n:=400) (K:=fun w=>(some (w,((x,z)::L).map XC):Option (LL × LL))) (k0:=fun _ _ w=>some (w,((x,z)::L).map XC)) (fun _ _ _=>rfl) (l:=(x,z)::L) (by simp;omega) L 1 399 [] x z rfl (by omega) (by simp;omega);have an:∀ k0:Int->Bool->LL->Option (LL × LL),X0 400 ((((x,z)::L).length:Nat):Int) (((x,z)::L).map XC) k0 400 0 []=X0 400 ((((x,z)::L).length:Nat):Int) (((x,z)::L).map XC) k0 399 ((1:Nat):Int) (([]++[(x,z)]).map XC):=fun k0=>by
   rw [X0,show decide ((0:Int)<((((x,z)::L).length:Nat):Int))=true from Qe8 (by simp),cond_true,ZG (by omega) (by simp),show (((x,z)::L).map XC)[Int.toNat 0]? = some (XC (x,z)) from rfl,show decide (wJ (((([]:LL).length:Nat):Int)-1)>=0)=false from rfl];simp -implicitDefEqProofs only [Q0,Q6j,Q4O,gbF,Qe5,t2d];rw [XR (by simp),Q0];rfl
  refine ⟨mgS x z L,?_,Q5r hq.1 hq.2.1 hq.2.2 s2 (fun q h=>(hr q (.tail _ h)).2),?_,fun y=>?_⟩
  ·rw [an,hm,Q0,Sw (by simp at ak ⊢;omega),Q0];rfl
  ·have:=Q28 (a:=x) (b:=z) (r:=L);simp at ak;omega
  ·rw [Q5k s2 hq.2.1 (fun q h=>(hr q (.tail _ h)).2.1),<- D8,<- Q38 d,UR]
end

def FB (t:Int) (A B:List Occ) (y:Int):Prop:=∃ x a b c d,(x,a,b)∈A/\(x,c,d)∈B/\(y-(a-d+1)) % t<b-a+d-c-1
theorem Q6F {t:Int} {q:Occ} {A B:List Occ} {y:Int} (h:∀ p∈B,p.1≠q.1):FB t (q::A) B y↔FB t A B y:=by
 constructor
 ·rintro ⟨x,a,b,c,d,e,h2,f⟩;cases e with
  |head=>exact (h (x,c,d) h2 rfl).elim
  |tail _ e=>exact ⟨x,a,b,c,d,e,h2,f⟩
 ·rintro ⟨x,a,b,c,d,e,h2,f⟩;exact ⟨x,a,b,c,d,.tail _ e,h2,f⟩
theorem Q6P {t:Int} {q:Occ} {A B:List Occ} {y:Int} (h:∀ p∈A,p.1≠q.1):FB t A (q::B) y↔FB t A B y:=by
 constructor
 ·rintro ⟨x,a,b,c,d,e,h2,f⟩;cases h2 with
  |head=>exact (h (x,a,b) e rfl).elim
  |tail _ h2=>exact ⟨x,a,b,c,d,e,h2,f⟩
 ·rintro ⟨x,a,b,c,d,e,h2,f⟩;exact ⟨x,a,b,c,d,e,.tail _ h2,f⟩
theorem Q8V {t x a b c d:Int} {A B:List Occ} {y:Int} (hA:∀ p∈A,p.1≠x) (hB:∀ p∈B,p.1≠x):FB t ((x,a,b)::A) ((x,c,d)::B) y↔(y-(a-d+1)) % t<b-a+d-c-1\/FB t A B y:=by
 constructor
 ·rintro ⟨x',a',b',c',d',e,h2,f⟩;cases e with
  |head=>
   cases h2 with
   |head=>exact .inl f
   |tail _ h2=>exact (hB (x,c',d') h2 rfl).elim
  |tail _ e=>
   cases h2 with
   |head=>exact (hA (x,a',b') e rfl).elim
   |tail _ h2=>exact .inr ⟨x',a',b',c',d',e,h2,f⟩
 ·rintro (h | ⟨x',a',b',c',d',e,h2,f⟩)
  ·exact ⟨x,a,b,c,d,.head _,.head _,h⟩
  ·exact ⟨x',a',b',c',d',.tail _ e,.tail _ h2,f⟩
theorem Q7R (y f t:Int):(y-f % t) % t=(y-f) % t:=by
 rw [Int.sub_emod,Int.emod_emod,<- Int.sub_emod]
section
variable {R:Type} {n:Nat} {t:Int}
theorem Fv (q:Occ):(enc q)[0]? = some (Q5 q.1):=rfl
theorem Fy (q:Occ):(enc q)[1]? = some (Q5 q.2.1):=rfl
theorem D9 (q:Occ):(enc q)[2]? = some (Q5 q.2.2):=rfl
theorem Q0p {O:List Occ} (hl:O.length<=1000) {k0:oP R} {k1:Int->Int->Bool->oP R} {E:oP R} (hk:∀ a b c,k1 a b c=E):∀ (ak:List Occ) (i m:Nat) (last:Int),O.drop i=ak->ak.length<m->OL last ak->ZW n (O.map enc) ((O.length:Nat):Int) k0 k1 m last (i:Int)=E
 |[],i,m+1,last,hd,_,_=>by
  have:=Y7 hd;rw [ZW,show decide ((i:Int)<((O.length:Nat):Int))=false by simpa using this,Qe5,hk]
 |(x,a,b)::ak,i,m+1,last,hd,hm,⟨f,h2,g,h,j,d⟩=>by
  obtain ⟨e,am,hi⟩:=XG hd;rw [ZW,Qk hi,cond_true,QT e];simp -implicitDefEqProofs only [Q0,Fv,Fy,D9,Q1,show decide (x<=last)=false from Qe7 (by omega),show decide (a>=b)=false from Qe7 (by omega),show decide (a < -65536)=false from Qe7 (by omega),show decide (b>65536)=false from Qe7 (by omega),Qe5,Xa (show i<=1000 by omega)];exact Q0p hl hk ak (i+1) m x am (by simpa using hm) d
theorem Q1t {O:List Occ} (hl:O.length<=300) (h:OL (-1) O):UQ 400 (O.map enc) (some:Bool->Option Bool)=some true:=by
 unfold UQ;rw [Qea];exact Q0p (by omega) (fun _ _ _=>rfl) O 0 400 (-1) rfl (by omega) h
theorem Qc4 {α:Type} (q:α) (l:List α):slB (q::l).length (some (1:Int)) none=some (1,l.length+1)/\cut (q::l) (1,l.length+1)=l:=by
 constructor
 ·unfold slB;rw [QJ (by simp;omega)];rfl
 ·simp [cut]
theorem RY (e:1<=t) (j:t<=7200) {K:LL->oP R} {k0:LL->LL->Bool->LL->Int->oP R} (hk:∀ a b c w,k0 a b c w t=K w):∀ (m:Nat) (A B:List Occ) (acc:List Sp2) (lA lB:Int),A.length+B.length<m->OL lA A->OL lB B->VS t (-1) acc->acc.length+2*A.length<=12 ->
  ∃ ak:List Sp2,Qn 400 k0 m (A.map enc) (B.map enc) (acc.map XC) t=K (ak.map XC)/\VS t (-1) ak/\ak.length<=12/\∀ y,0<=y->y<t->(InS y ak↔InS y acc\/FB t A B y)
 |m+1,[],B,acc,lA,lB,_,_,_,hv,hl=>by
  refine ⟨acc,?_,hv,by omega,fun y _ _=>⟨.inl,?_⟩⟩
  ·rw [Qn,show decide (((([]:List Occ).map enc).length:Int)>0)=false from rfl,Qe5,Qe5,hk]
  ·rintro (h | ⟨x,a,b,c,d,h,_⟩)
   ·exact h
   ·nomatch h
 |m+1,q::A,[],acc,lA,lB,_,_,_,hv,hl=>by
  refine ⟨acc,?_,hv,by simp at hl;omega,fun y _ _=>⟨.inl,?_⟩⟩
  ·rw [Qn,show decide (((([]:List Occ).map enc).length:Int)>0)=false from rfl,show decide ((((q::A).map enc).length:Int)>0)=true from Qe8 (by simp),cond_true,Qe5,hk]
  ·rintro (h | ⟨x,a,b,c,d,_,h,_⟩)
   ·exact h
   ·nomatch h
 |m+1,(x,a,b)::A,(x',c,d)::B,acc,lA,lB,hm,hA,hB,hv,hl=>by
  obtain ⟨a1,a2,a3,a4,a5,v⟩:=id hA;obtain ⟨b1,b2,b3,b4,b5,z⟩:=id hB;have ay:A.length+B.length+2<m+1:=by simp at hm;omega
  have a9:acc.length+2*A.length+2<=12:=by simp at hl;omega
  have cA:=Qc4 (enc (x,a,b)) (A.map enc);have cB:=Qc4 (enc (x',c,d)) (B.map enc);have ao:∀ p∈A,x<p.1:=fun p hp=>(v.mem p hp).1
  have an:∀ p∈B,x'<p.1:=fun p hp=>(z.mem p hp).1
  rw [Qn];simp -implicitDefEqProofs only [List.map_cons,show decide ((((enc (x,a,b)::A.map enc).length:Nat):Int)>0)=true from Qe8 (by simp),show decide ((((enc (x',c,d)::B.map enc).length:Nat):Int)>0)=true from Qe8 (by simp),cond_true,show ∀ (r:List D) (l:LL),Q2 (r::l) 0=some r from fun _ _=>rfl,Q0,Fv,Fy,D9,Q1,cA,cB];rcases Int.lt_trichotomy x x' with hx | hx | hx
  ·rw [show (x == x')=false by simp;omega,show decide (x<=x')=true from Qe8 (by omega),show decide (x>=x')=false from Qe7 (by omega)];simp -implicitDefEqProofs only [cond_true,Qe5];obtain ⟨ak,g1,n,o,s⟩:=RY e j hk m A ((x',c,d)::B) acc x lB (by simp;omega) v hB hv (by omega);refine ⟨ak,g1,n,o,fun y g i=>?_⟩;rw [s y g i,Q6F (fun p hp=>?_)];cases hp with
   |head=>dsimp only;omega
   |tail _ hp=>have:=an p hp;dsimp only;omega
  ·subst hx;have f0:wJ (wJ (a-d)+1)=a-d+1:=by rw [Qf (x:=a-d) (by omega) (by omega),Qf (by omega) (by omega)]
   have f1:wJ (wJ (wJ (wJ (b-c)-1)-(a-d+1))+1)=b-a+d-c-1:=by
    rw [Qf (x:=b-c) (by omega) (by omega),Qf (x:=b-c-1) (by omega) (by omega),Qf (x:=b-c-1-(a-d+1)) (by omega) (by omega),Qf (by omega) (by omega)];omega
   have e0:=Qeu (a-d+1) (show t≠0 by omega);have e1:=Qes (a-d+1) (show 0<t by omega);have ar:=Qb2 (t:=t) (f:=a-d+1) (k:=b-a+d-c-1) e j (by omega) (by omega) (by omega) (by omega);have bc:=Q5g (t:=t) (x:=(a-d+1) % t) (k:=b-a+d-c-1);obtain ⟨u,u1,u2,u3,u4⟩:=Qan e j hv (Q6G (k:=b-a+d-c-1) e e0 e1) (by omega);rw [show (x == x)=true by simp,show decide (x<=x)=true from Qe8 (by omega)];simp -implicitDefEqProofs only [cond_true];unfold Yy;rw [f0,f1,ar,Q0,u1,Q0,Q9A,Q0,Q0];obtain ⟨ak,g1,n,o,s⟩:=RY e j hk m A B u x x (by omega) v z u2 (by omega);refine ⟨ak,g1,n,o,fun y g i=>?_⟩;rw [s y g i,u4,Q77 e0 e1 g i,Q7R,Q8V (fun p hp=>by have:=ao p hp;omega) (fun p hp=>by have:=an p hp;omega),or_assoc]
  ·rw [show (x == x')=false by simp;omega,show decide (x<=x')=false from Qe7 (by omega),show decide (x>=x')=true from Qe8 (by omega)];simp -implicitDefEqProofs only [cond_true,Qe5];obtain ⟨ak,g1,n,o,s⟩:=RY e j hk m ((x,a,b)::A) B acc lA x' (by simp;omega) hA z hv hl;refine ⟨ak,g1,n,o,fun y g i=>?_⟩;rw [s y g i,Q6P (fun p hp=>?_)];cases hp with
   |head=>dsimp only;omega
   |tail _ hp=>have:=ao p hp;dsimp only;omega
theorem Qb5 {A B:List Occ} (a:1<=t) (b:t<=7200) (hA:OL (-1) A) (hB:OL (-1) B) (lA:A.length<=6) (lB:B.length<=6):∃ F:List Sp2,UP 400 t (A.map enc) (B.map enc) Tu2=some (F.map XC,(0:Int))/\VS t (-1) F/\F.length<=12/\∀ y,0<=y->y<t->(InS y F↔FB t A B y):=by
 obtain ⟨F,g1,e,f,g⟩:=RY a b (K:=fun w=>(some (t,w):Option (Int × LL))) (k0:=fun _ _ _ w h=>some (h,w)) (fun _ _ _ _=>rfl) 400 A B [] (-1) (-1) (by omega) hA hB trivial (by simp;omega);refine ⟨F,?_,e,f,fun y i j=>?_⟩
 ·unfold UP;dsimp only [jn];rw [Q1t (by omega) hA,Q1t (by omega) hB,show decide (t<1)=false from Qe7 (by omega),show decide (t>7200)=false from Qe7 (by omega)];simp -implicitDefEqProofs only [Qe5,Q0,Qed];unfold JP;rw [show Qn 400 (fun m n o k l=>(some (l,k):Option (Int × LL))) 400 (A.map enc) (B.map enc) [] t=_ from g1,Q0]
 ·rw [g y i j];exact ⟨fun h=>h.elim (fun h=>absurd h He) id,.inr⟩
def Al (t:Int) (q:Sp2):Sp2:=(q.2,q.1+t-1)
theorem Q7r (c:t<=7200) (d:1<=t) {K:LL->oP R} {k0:Int->Bool->LL->oP R} (hk:∀ a b w,k0 a b w=K w) {l:List Sp2} (hl:l.length<=1000):∀ (ak:List Sp2) (i m:Nat),l.drop i=ak->ak.length<m->(∀ q∈l,-1<q.1/\q.1<=t)->YT n t (l.map XC) ((l.length:Nat):Int) k0 m (i:Int) (((l.take i).map (Al t)).map XC)=K ((l.map (Al t)).map XC)
 |[],i,m+1,hd,_,_=>by
  have:=Y7 hd;rw [YT,show decide ((i:Int)<((l.length:Nat):Int))=false by simpa using this,Qe5,hk,List.take_of_length_le this]
 |(a,b)::ak,i,m+1,hd,hm,hr=>by
  obtain ⟨e,am,hi⟩:=XG hd;have ha:=hr (a,b) (List.mem_of_getElem? e);rw [YT,Qk hi,cond_true,QT e];simp -implicitDefEqProofs only [Q0,Q6j,Q4O,Q1,Xa (show i<=1000 by omega),Qf (x:=a+t) (by omega) (by omega),Qf (x:=a+t-1) (by omega) (by omega),XR (show ((((l.take i).map (Al t)).map XC).length+[[D.int .i64 b,D.int .i64 (a+t-1)]].length)*16<=100000 by simp;omega)];have:=Q7r c d hk hl ak (i+1) m am (by simpa using hm) hr;rw [Uc e,Qeh,Qeh] at this;exact this
theorem Q7j (c:t<=7200) (d:1<=t) {K:LL->oP R} {k0:Int->Bool->LL->oP R} (hk:∀ a b w,k0 a b w=K w) {l:List Sp2} (hl:l.length<=1000):∀ (ak:List Sp2) (i m:Nat),l.drop i=ak->ak.length<m->(∀ q∈l,-1<q.1/\q.1<=t)->Yc n t ((l.length:Nat):Int) (l.map XC) k0 m (i:Int) (((l.take i).map (Al t)).map XC)=K ((l.map (Al t)).map XC)
 |[],i,m+1,hd,_,_=>by
  have:=Y7 hd;rw [Yc,show decide ((i:Int)<((l.length:Nat):Int))=false by simpa using this,Qe5,hk,List.take_of_length_le this]
 |(a,b)::ak,i,m+1,hd,hm,hr=>by
  obtain ⟨e,am,hi⟩:=XG hd;have ha:=hr (a,b) (List.mem_of_getElem? e);have f:(l.map XC)[i]? = some (XC (a,b)):=by rw [Qei,e];rfl
  rw [Yc,Qk hi,cond_true,Qea,ZG (by omega) (by omega),Int.toNat_natCast,f];simp -implicitDefEqProofs only [Q0,Q6j,Q4O,Q1,Xa (show i<=1000 by omega),Qf (x:=a+t) (by omega) (by omega),Qf (x:=a+t-1) (by omega) (by omega),XR (show ((((l.take i).map (Al t)).map XC).length+[[D.int .i64 b,D.int .i64 (a+t-1)]].length)*16<=100000 by simp;omega)];have:=Q7j c d hk hl ak (i+1) m am (by simpa using hm) hr;rw [Uc e,Qeh,Qeh] at this;exact this
def Q8p (t:Int) (w:Sp2) (y:Int):Prop:=w.2<w.1+(y-w.1) % t
theorem FP {a b y:Int} (e:0<=a) (f:a<b) (h2:b<=t) (c:0<=y) (d:y<t):Q8p t (Al t (a,b)) y↔a<=y/\y<b:=by
 have hm:(y-b) % t=if b<=y then y-b else y-b+t:=by
  by_cases hb:b=t
  ·subst hb;rw [Qec (by omega),show y-b=y+b*(-1) by omega,Int.add_mul_emod_self_left,Int.emod_eq_of_lt c d];omega
  ·exact Qbi (by omega) (by omega) c d
 unfold Q8p Al;dsimp only;rw [hm];split <;> omega
theorem EW {a c y:Int} (e:0<c) (f:c<a) (h2:a<t) (b:0<=y) (d:y<t):Q8p t (Al t (a,t+c)) y↔y<c\/a<=y:=by
 unfold Q8p Al;dsimp only;rw [show y-(t+c)=(y-c)+t*(-1) by omega,Int.add_mul_emod_self_left,Qbi (by omega) (by omega) b d];split <;> omega
structure WinR (t:Int) (A B:List Occ) (W:List Sp2):Prop where
 rng:∀ w∈W,0<=w.1/\w.1<=w.2/\w.2<w.1+t/\w.2<=2*t
 len:W.length<=12
 viol:∀ y,0<=y->y<t->((∃ w∈W,Q8p t w y)↔FB t A B y)
theorem Q6S {A B:List Occ} (u:2<=t) (g:t<=7200) (hA:OL (-1) A) (hB:OL (-1) B) (lA:A.length<=6) (lB:B.length<=6):Ux 400 t (A.map enc) (B.map enc) Tu2=some ([],(13:Int))\/∃ W:List Sp2,Ux 400 t (A.map enc) (B.map enc) Tu2=some (W.map XC,(0:Int))/\WinR t A B W:=by
 obtain ⟨F,g1,i,m,o⟩:=Qb5 (t:=t) (by omega) g hA hB lA lB;have hc:=i.cnt (by omega);have ay:=Q65 i (by omega);have hr:=i.rng;unfold Ux;rw [g1,Q0,Q8 (by rfl)];dsimp only;rw [QaI (by omega) g (by omega) i,Q0];by_cases aw:cnt F=t
 ·left;rw [QJ (by simpa using aw)]
 right;rw [Q8 (by simpa using aw)];have a7:∀ q∈F,q.2-q.1<=t-1:=fun q hq=>by have:=ay q hq;have:=hc.2.2 (List.length_pos_of_mem hq);omega
 have ak:∃ W:List Sp2,Yc 400 t ((F.length:Nat):Int) (F.map XC) (fun z aa s=>(some (s,(0:Int)):Option (LL × Int))) 400 0 []=some (W.map XC,(0:Int))/\WinR t A B W:=by
  refine ⟨F.map (Al t),Q7j g (by omega) (K:=fun w=>some (w,(0:Int))) (k0:=fun _ _ w=>some (w,(0:Int))) (fun _ _ _=>rfl) (by omega) F 0 400 rfl (by omega) (fun q hq=>by have:=hr q hq;omega),?_,by simpa using m,fun y e f=>?_⟩
  ·intro w hw;obtain ⟨q,hq,rfl⟩:=List.mem_map.1 hw;have:=hr q hq;have:=a7 q hq;unfold Al;dsimp only;omega
  ·rw [<- o y e f];constructor
   ·rintro ⟨w,hw,hv⟩;obtain ⟨q,hq,rfl⟩:=List.mem_map.1 hw;have:=hr q hq;exact ⟨q,hq,(FP (by omega) this.2.1 this.2.2 e f).1 hv⟩
   ·rintro ⟨q,hq,hy⟩;have:=hr q hq;exact ⟨Al t q,Qen hq,(FP (by omega) this.2.1 this.2.2 e f).2 hy⟩
 rw [Qea];rcases F with _ | ⟨⟨a,b⟩,F⟩
 ·rw [show decide (((([]:List Sp2).length:Nat):Int)>1)=false from rfl];simp -implicitDefEqProofs only [gbF,Qe5];exact ak
 rcases List.eq_nil_or_concat F with rfl | ⟨M,⟨c,d⟩,rfl⟩
 ·rw [show decide ((((([(a,b)]:List Sp2)).length:Nat):Int)>1)=false from rfl];simp -implicitDefEqProofs only [gbF,Qe5];exact ak
 obtain ⟨v1,v2,v3,r⟩:=i;have hM:M.length<=10:=by simp at m;omega
 have ao:((a,b)::(M++[(c,d)])).length=M.length+1+1:=by simp
 have bg:=hr (c,d) (by simp);have e1:((a,b)::(M++[(c,d)])).map XC=(XC (a,b)::M.map XC)++XC (c,d)::[]:=by simp
 have gl:(((a,b)::(M++[(c,d)])).map XC)[M.length+1]? = some (XC (c,d)):=by rw [e1];exact Q9i (by simp)
 have sl:∀ v,(((a,b)::(M++[(c,d)])).map XC).set (M.length+1) (XC (c,v))=((a,b)::(M++[(c,v)])).map XC:=fun v=>by rw [e1,Q9o (by simp)];simp
 rw [List.concat_eq_append] at *
 rw [ao,show decide (((M.length+1+1:Nat):Int)>1)=true from Qe8 (by omega),Vi (show M.length+1+1<=1000 by omega) (by omega),Qef,ZG (by omega) (by omega),ZG (by omega) (by omega)];simp -implicitDefEqProofs only [Q0,Int.toNat_natCast,gl,cond_true,show (((a,b)::(M++[(c,d)])).map XC)[Int.toNat 0]? = some (XC (a,b)) from rfl,Q6j,Q4O,Q1,QbA];by_cases au:a=0/\d=t
 ·obtain ⟨rfl,rfl⟩:=au;rw [show ((0:Int) == 0)=true from rfl,show (d == d)=true by simp,cond_true,cond_true,Qf (x:=d+b) (by omega) (by omega),sl];have ar:b<c:=by
   have:∀ {l:Int} {M:List Sp2},VS d l (M++[(c,d)])->l<c:=by
    intro l M;induction M generalizing l with
    |nil=>exact fun h=>h.1
    |cons q M ih=>exact fun h=>by have:=ih h.2.2.2;have:=h.1;have:=h.2.1;omega
   exact this r
  have aq:=Qc4 (XC (0,b)) ((M++[(c,d+b)]).map XC);rw [List.map_cons,aq.1,Q0,aq.2,Qea];have am:∀ q∈M,b<q.1/\q.1<q.2/\q.2<c:=by
   have:∀ {l:Int} {M:List Sp2},VS d l (M++[(c,d)])->∀ q∈M,l<q.1/\q.1<q.2/\q.2<c:=by
    intro l M;induction M generalizing l with
    |nil=>exact fun _ q hq=>nomatch hq
    |cons p M ih=>
     intro h q hq;have ih:=ih h.2.2.2;have g:=h.1;have h2:=h.2.1;cases hq with
     |head=>
      refine ⟨g,h2,?_⟩;have:∀ {l:Int} {M:List Sp2},VS d l (M++[(c,d)])->l<c:=by
       intro l M;induction M generalizing l with
       |nil=>exact fun h=>h.1
       |cons q M ih=>exact fun h=>by have:=ih h.2.2.2;have:=h.1;have:=h.2.1;omega
      exact this h.2.2.2
     |tail _ hq=>have:=ih q hq;exact ⟨by omega,this.2⟩
   exact this r
  have hw:=Q7r (n:=400) g (by omega) (K:=fun w=>(some (w,(0:Int)):Option (LL × Int))) (k0:=fun _ _ w=>some (w,(0:Int))) (fun _ _ _=>rfl) (l:=M++[(c,d+b)]) (by simp;omega) (M++[(c,d+b)]) 0 400 rfl (by simp;omega) (fun q hq=>by
   rcases Qev.1 hq with h | h
   ·have:=am q h;omega
   ·obtain rfl:=Qet.1 h;dsimp only;omega)
  refine ⟨(M++[(c,d+b)]).map (Al d),hw,?_,by simp;omega,fun y e f=>?_⟩
  ·intro w hw;obtain ⟨q,hq,rfl⟩:=List.mem_map.1 hw;unfold Al;dsimp only;rcases Qev.1 hq with h | h
   ·have:=am q h;omega
   ·obtain rfl:=Qet.1 h;dsimp only;omega
  ·rw [<- o y e f,UR,D8,UR];constructor
   ·rintro ⟨w,hw,hv⟩;obtain ⟨q,hq,rfl⟩:=List.mem_map.1 hw;rcases Qev.1 hq with h | h
    ·have:=am q h;exact .inr (.inl ⟨q,h,(FP (by omega) this.2.1 (by omega) e f).1 hv⟩)
    ·obtain rfl:=Qet.1 h;rcases (EW (by omega) ar (by omega) e f).1 hv with h | h
     ·exact .inl ⟨e,h⟩
     ·exact .inr (.inr (.inl ⟨h,f⟩))
   ·rintro (h | ⟨q,h,hy⟩ | h | h)
    ·exact ⟨Al d (c,d+b),Qen (by simp),(EW (by omega) ar (by omega) e f).2 (.inl h.2)⟩
    ·have:=am q h;exact ⟨Al d q,Qen (List.mem_append_left _ h),(FP (by omega) this.2.1 (by omega) e f).2 hy⟩
    ·exact ⟨Al d (c,d+b),Qen (by simp),(EW (by omega) ar (by omega) e f).2 (.inr h.1)⟩
    ·exact absurd h He
 ·have hz:(bif (a == (0:Int)) then (d == t) else false)=false:=by
   by_cases ha:a=0
   ·rw [ha,show ((0:Int) == 0)=true from rfl,cond_true];simp only [beq_eq_false_iff_ne];exact fun h=>au ⟨ha,h⟩
   ·rw [show (a == (0:Int))=false by simpa using ha,Qe5]
  rw [hz,Qe5];rw [ao] at ak;exact ak
end

end Go.Vx
