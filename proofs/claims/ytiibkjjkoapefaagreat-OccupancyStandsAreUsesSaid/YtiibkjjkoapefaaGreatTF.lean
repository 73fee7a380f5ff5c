/- Part of a proof. No conditions of their own. -/
import Derived.Test.YtiibkjjkoapefaaGreatTE
import Derived.Test.YtiibkjjkoapefaaGreatTB
import Derived.Test.YtiibkjjkoapefaaGreatTD
import Derived.Test.YtiibkjjkoapefaaGreatProg
import Derived.Test.YtiibkjjkoapefaaGreatTC
set_option linter.unusedVariables false
set_option linter.unusedSimpArgs false
set_option linter.unusedSectionVars false
noncomputable section
abbrev QjB:=@List.getElem?_cons_zero
abbrev QjC:=@Int.toNat_natCast
abbrev QjD:=@List.mem_of_getElem?
abbrev QjE:=@List.getElem?_eq_getElem
abbrev QjF:=@List.getElem?_cons_succ
abbrev QjG:=@cond_true
abbrev QjH:=@List.getD_eq_getElem?_getD
abbrev QjI:=@List.mem_cons_self
abbrev QjJ:=@List.append_assoc
abbrev QjK:=@List.mem_cons_of_mem
abbrev QjL:=@List.getElem?_eq_some_iff
abbrev QjM:=@Nat.le_refl
abbrev QjN:=@List.mem_append
abbrev QjO:=@decide_eq_true
abbrev QjP:=@Bool.not_true
abbrev QjQ:=@List.map_append
abbrev QjR:=@List.set_cons_zero
abbrev QjS:=@List.take_length
abbrev QjT:=@Bool.and_eq_true
abbrev QjU:=@List.all_eq_true
abbrev QjV:=@List.length_cons
abbrev QjW:=@List.length_set
abbrev QjX:=@List.append_nil
abbrev QjY:=@List.getElem?_map
abbrev QjZ:=@Int.eq_ofNat_of_zero_le
abbrev Qk0:=@Int.emod_nonneg
abbrev Qk1:=@List.mem_map
abbrev Qk2:=@Nat.le_of_ble_eq_true
namespace Go.Vx
theorem Ej {R:Type} {n:Nat} {O:List Occ} (hl:O.length<=1000) {q:Int->Bool} {K:LL->oP R} {k0:Int->Bool->LL->oP R} (hk:∀ a b w,k0 a b w=K w):∀ (aj P:List Occ) (j m:Nat),O.drop j=aj->aj.length<m->P.length<=j->XX n (O.map enc) ((O.length:Nat):Int) q k0 m (j:Int) (P.map enc)=K ((P++aj.filter fun o=>!q o.1).map enc)
 |[],P,j,m+1,hd,_,_=>by
  have:=ZP hd;rw [XX,show decide ((j:Int)<((O.length:Nat):Int))=false by simpa using this,cond_false,hk,List.filter_nil,QjX]
 |o::aj,P,j,m+1,hd,hm,hP=>by
  obtain ⟨e,ak,hj⟩:=Yh hd;rw [XX,Qc hj,QjG,QL e];simp -implicitDefEqProofs only [Q0,Np,MZ,Fj,Q3,Qq (show j<=1000 by omega),XF (show ((P.map enc).length+[[Q4 o.1,Q4 o.2.1,Q4 o.2.2]].length)*24<=100000 by simp;omega)];rw [List.filter_cons];cases hq:q o.1 with
  |true=>
   rw [QjP,cond_false,if_neg (by simp)];exact Ej hl hk aj P (j+1) m ak (by simpa using hm) (by omega)
  |false=>
   rw [Bool.not_false,QjG,if_pos rfl];have:=Ej (n:=n) (q:=q) hl hk aj (P++[o]) (j+1) m ak (by simpa using hm) (by simp;omega);rw [QjQ,QjJ] at this;exact this
theorem Q5R {R:Type} {O:List Occ} (hl:O.length<=300) {q:Int->Bool} (K:LL->(Int->Bool)->oP R):Uh 400 (O.map enc) q K=K ((O.filter fun o=>!q o.1).map enc) q:=by
 unfold Uh;rw [List.length_map];exact Ej (by omega) (K:=fun w=>K w q) (fun _ _ _=>rfl) O [] 0 400 rfl (by omega) (by simp)
namespace Cx
def Q7h (a b:Nat) (w:Sp2):List D:=[Q4 6,Q4 ((2*a:Nat):Int),Q4 ((2*b:Nat):Int),Q4 w.1,Q4 w.2,Q4 0]
def fil (X:Cx) (J:List Tup) (a b:Nat):List Occ:=(X.occN a).filter fun o=>!X.TRb J a b o.1
def WV (X:Cx) (per:Int) (J:List Tup) (a b:Nat):Option (List Sp2):=match WD 400 per ((X.fil J a b).map enc) ((X.fil J b a).map enc) Tu2 with
 |some (w,e)=>if e=0 then some (w.map fun r=>match r with | [.int _ x,.int _ y]=>(x,y) | _=>(0,0)) else none
 |none=>none
def Qf2:Option (List Sp2)->LL × Int
 |none=>([],13)
 |some W=>(W.map Y7,0)
def hdw (X:Cx) (per:Int) (J:List Tup) (a:Nat):Nat->Nat->Option LL
 |0,_=>some []
 |c+1,b=>match X.WV per J a b with
  |none=>none
  |some W=>(hdw X per J a c (b+1)).map fun H=>W.map (Q7h a b)++H
def hdws (X:Cx) (per:Int) (J:List Tup):Nat->Nat->Option LL
 |0,_=>some []
 |c+1,a=>match X.hdw per J a c (a+1) with
  |none=>none
  |some H=>(hdws X per J c (a+1)).map fun H'=>H++H'
variable {R:Type} {n:Nat} {X:Cx} (h:X.OK) {per:Int}
theorem Q9P {J:List Tup} {a b:Nat} {r:Int}:X.TRb J a b r=X.TRb J b a r:=by
 grind [TRb,jab]
include h
theorem Qbp {J:List Tup} {a b:Nat} (ha:a<X.N):OL (-1) (X.fil J a b)/\(X.fil J a b).length<=6:=by
 have o:=(Ji h ha).2;exact ⟨o.1.filter,Nat.le_trans (List.length_filter_le ..) o.2⟩
theorem Q1u (p0:2<=per) (p1:per<=300) {J:List Tup} {a b:Nat} (ha:a<X.N) (hb:b<X.N):WD 400 per ((X.fil J a b).map enc) ((X.fil J b a).map enc) Tu2=some (Qf2 (X.WV per J a b))/\KQ 400 per ((X.fil J a b).map enc) ((X.fil J b a).map enc) Tu2=some (Qf2 (X.WV per J a b))/\∀ W,X.WV per J a b=some W->W.length<=12:=by
 have oa:=Qbp h (J:=J) (b:=b) ha;have ob:=Qbp h (J:=J) (b:=a) hb;obtain ⟨F,G,g1,g,j,i,k⟩:=Qak p0 (show per<=7200 by omega) oa.1 ob.1 oa.2 ob.2;have l:=Qal p0 p1 oa.1 ob.1 oa.2 ob.2 g1 j i;have hG:G.length<=12:=by
  rcases i with ⟨rfl,_⟩ | ⟨b,M,c,rfl,rfl⟩
  ·exact g
  ·simp at g ⊢;omega
 have e:X.WV per J a b=if cnt F=per then none else some (G.map (Q2n per)):=by
  unfold WV;rw [k];by_cases hc:cnt F=per
  ·rw [if_pos hc,if_pos hc];rfl
  ·rw [if_neg hc,if_neg hc];dsimp only;rw [if_pos rfl,List.map_map];congr 1;refine (List.map_congr_left fun q _=>?_).trans (List.map_id _);rfl
 grind [Qf2,cnt,Q2n,Y7]
omit h in
theorem QfN {a b:Nat} (ha:a<=100) (hb:b<=100) {W:List Sp2} (hW:W.length<=12) {k0:Int->Bool->LL->oP R} {A:LL} (hA:A.length<=900):Qx 400 (a:Int) (b:Int) (W.map Y7) ((W.length:Nat):Int) k0 400 0 A=k0 ((W.length:Nat):Int) false (A++W.map (Q7h a b)):=by
 refine Qu (r:=fun m j=>Qx 400 (a:Int) (b:Int) (W.map Y7) ((W.length:Nat):Int) k0 m j (A++(W.take j.toNat).map (Q7h a b))) (N:=W.length) (fun m j hj=>?_) (fun m=>?_) W.length 400 0 (by omega) (by omega) |> Eq.trans (by simp)
 ·simp only [QjC];obtain ⟨w,e⟩:∃ q,W[j]? = some q:=⟨W[j],QjE hj⟩;rw [Qx,Qc hj,QjG,QL e,YC e,QjQ,<- QjJ];simp -implicitDefEqProofs only [Q0,Qaf,Q9K,Q3,Qq (show j<=1000 by omega),Qbh (n:=400) (show a<=1000 by omega),Qbh (n:=400) (show b<=1000 by omega),Qd5 (n:=400) (A:=A++(W.take j).map (Q7h a b)) (by simp;omega)];rfl
 ·simp only [QjC];rw [Qx,Qi,cond_false,QjS]
theorem Q13 (p0:2<=per) (p1:per<=300) {J:List Tup} {a:Nat} (ha:a<X.N):∀ {c b:Nat} {H:LL},b+c<=X.N->X.hdw per J a c b=some H->H.length<=12*c
 |0,b,H,_,e=>by cases e;exact QjM _
 |c+1,b,H,hb,e=>by
  rw [hdw] at e;have hw:=(Q1u h p0 p1 (J:=J) ha (show b<X.N by omega)).2.2;cases ew:X.WV per J a b with
  |none=>rw [ew] at e;cases e
  |some W=>
   rw [ew] at e;cases eh:X.hdw per J a c (b+1) with
   |none=>simp only [eh] at e;cases e
   |some H'=>
    simp only [eh] at e;cases e;have:=hw W ew;have:=Q13 p0 p1 ha (by omega) eh;simp;omega
theorem Qej (p0:2<=per) (p1:per<=300) {J:List Tup} (hJ:X.JOK J) {a:Nat} (ha:a<X.N) {k0:Int->LL->oP R} {k1:Int->Bool->LL->oP R} {Ke K1:LL->oP R} (d:∀ A,k0 13 A=Ke A) (e:∀ u v A,k1 u v A=K1 A):∀ (c m b:Nat) (A:LL),b+c=X.N->c<m->A.length+12*c<=900->∃ A',
  QO 400 (a:Int) per (GH (X.occs X.L)) (J.map tuR) k0 k1 m (b:Int) A=match X.hdw per J a c b with | none=>Ke A' | some H=>K1 (A++H)
 |0,m+1,b,A,hb,_,_=>by
  have aj:(GH (X.occs X.L)).length=X.N:=by rw [J4];exact Zv
  refine ⟨A,?_⟩;rw [QO,aj,show decide ((b:Int)<((X.N:Nat):Int))=false from decide_eq_false (by omega),cond_false,e,hdw]
  simp_all
 |c+1,m+1,b,A,hb,hm,hA=>by
  have aj:(GH (X.occs X.L)).length=X.N:=by rw [J4];exact Zv
  have hN:X.N<=6:=base_le h;have oa:=Ji h ha;have ob:=Ji h (show b<X.N by omega);obtain ⟨q,g,f⟩:=Qgs h hJ (a:=a) (b:=b);have ak:(X.occN a).filter (fun o=>!q o.1)=X.fil J a b:=List.filter_congr fun o _=>by rw [f]
  have an:(X.occN b).filter (fun o=>!q o.1)=X.fil J b a:=List.filter_congr fun o _=>by rw [f,Q9P]
  have hw:=Q1u h p0 p1 (J:=J) ha (show b<X.N by omega);rw [QO,aj,show decide ((b:Int)<((X.N:Nat):Int))=true from QjO (by omega),QjG,g,oa.1,ob.1];simp -implicitDefEqProofs only [Q0,QjB,QG,Qq (show b<=1000 by omega),Q5R (show (X.occN a).length<=300 by omega),Q5R (show (X.occN b).length<=300 by omega),ak,an,hw.1,hdw];cases ew:X.WV per J a b with
  |none=>exact ⟨A,d A⟩
  |some W=>
   have hl:=hw.2.2 W ew;obtain ⟨A',ih⟩:=Qej p0 p1 hJ ha d e c m (b+1) (A++W.map (Q7h a b)) (by omega) (by omega) (by simp;omega);refine ⟨A',?_⟩;simp -implicitDefEqProofs only [Qf2];rw [Q9 (by rfl),List.length_map,QfN (by omega) (by omega) hl (by omega),ih]
   grind
theorem Qeq (p0:2<=per) (p1:per<=300) {J:List Tup} (hJ:X.JOK J) {k0:Int->LL->oP R} {k1:Int->Bool->LL->oP R} {Ke K1:LL->oP R} (d:∀ A,k0 13 A=Ke A) (e:∀ u v A,k1 u v A=K1 A):∀ (c m a:Nat) (A:LL),a+c=X.N->c<m->A.length+72*c<=900->∃ A',
  Qp 400 ((X.N:Nat):Int) per (GH (X.occs X.L)) (J.map tuR) k0 k1 m (a:Int) A=match X.hdws per J c a with | none=>Ke A' | some H=>K1 (A++H)
 |0,m+1,a,A,ha,_,_=>by
  refine ⟨A,?_⟩;rw [Qp,show decide ((a:Int)<((X.N:Nat):Int))=false from decide_eq_false (by omega),cond_false,e,hdws];simp only [QjX]
 |c+1,m+1,a,A,ha,hm,hA=>by
  have hN:X.N<=6:=base_le h;obtain ⟨A1,f⟩:=Qej h p0 p1 hJ (show a<X.N by omega) (Ke:=Ke) (K1:=fun A=>Qp 400 ((X.N:Nat):Int) per (GH (X.occs X.L)) (J.map tuR) k0 k1 m ((a+1:Nat):Int) A) (k0:=fun g i=>k0 g i) (k1:=fun k l j=>Qp 400 ((X.N:Nat):Int) per (GH (X.occs X.L)) (J.map tuR) k0 k1 m ((a+1:Nat):Int) j) (fun A=>d A) (fun u v A=>rfl) c 400 (a+1) A (by omega) (by omega) (by omega);rw [Qp,show decide ((a:Int)<((X.N:Nat):Int))=true from QjO (by omega),QjG,Qq (show a<=1000 by omega),f,hdws];cases eh:X.hdw per J a c (a+1) with
  |none=>exact ⟨A1,rfl⟩
  |some H=>
   have:=Q13 h p0 p1 (J:=J) (show a<X.N by omega) (c:=c) (b:=a+1) (by omega) eh;obtain ⟨A2,h2⟩:=Qeq p0 p1 hJ d e c m (a+1) (A++H) (by omega) (by omega) (by simp;omega);refine ⟨A2,?_⟩;dsimp only;rw [h2];cases X.hdws per J c (a+1) with
   |none=>rfl
   |some H'=>simp -implicitDefEqProofs only [Option.map_some,QjJ]
theorem hdws_len (p0:2<=per) (p1:per<=300) {J:List Tup}:∀ {c a:Nat} {H:LL},a+c=X.N->X.hdws per J c a=some H->H.length<=60*c
 |0,a,H,_,e=>by cases e;exact QjM _
 |c+1,a,H,ha,e=>by
  have hN:X.N<=6:=base_le h;rw [hdws] at e;cases eh:X.hdw per J a c (a+1) with
  |none=>rw [eh] at e;cases e
  |some H1=>
   have:=Q13 h p0 p1 (J:=J) (show a<X.N by omega) (c:=c) (b:=a+1) (by omega) eh;rw [eh] at e;cases e2:X.hdws per J c (a+1) with
   |none=>simp only [e2] at e;cases e
   |some H2=>
    have:=hdws_len p0 p1 (by omega) e2;simp only [e2] at e;cases e;simp;omega
theorem QeL (p0:2<=per) (p1:per<=300) {J:List Tup} (hJ:X.JOK J) {A:LL} (hA:A.length<=100):∃ A',Yd 400 per (GH (X.occs X.L)) (J.map tuR) A Tu2=some (match X.hdws per J X.N 0 with | none=>((13:Int),A') | some H=>(0,A++H)):=by
 have hN:X.N<=6:=base_le h;have aj:(GH (X.occs X.L)).length=X.N:=by rw [J4];exact Zv
 unfold Yd;rw [aj];obtain ⟨A',e⟩:=Qeq h p0 p1 hJ (k0:=fun c d=>some (c,d)) (k1:=fun g i f=>some ((0:Int),f)) (Ke:=fun A=>some (13,A)) (K1:=fun A=>some (0,A)) (fun _=>rfl) (fun _ _ _=>rfl) X.N 400 0 A (by omega) (by omega) (by omega);refine ⟨A',e.trans ?_⟩
 grind
end Cx
end Go.Vx
namespace Go.Vx
namespace Cx
def netV (X:Cx) (per:Int) (J:List Tup) (Ch Sy:LL):Int × LL × LL × Int:=bif X.aloneJ per J then (match X.hdws per J X.N 0 with
 |none=>(0,[],[],13)
 |some H=>(per,X.evs X.L,X.planned Ch Sy++H,0)) else (0,[],[],13)
variable {X:Cx} (h:X.OK) {per:Int} {Ch Sy De:LL} (hl:X.LsOK per Ch Sy)
theorem Q69 {α:Type} {nr:Nat->Nat} {f:Nat->Nat->α} {x:α}:∀ {L:Nat},x∈Q9z nr f L↔∃ i k,i<L/\k<nr i/\x=f i k
 |0=>⟨fun h=>(nomatch h),fun ⟨_,_,h,_⟩=>by omega⟩
 |L+1=>by
  rw [Q9z,QjN,Q69,Qk1];constructor
  ·rintro (⟨i,k,b,h2,a⟩ | ⟨k,hk,rfl⟩)
   ·exact ⟨i,k,by omega,h2,a⟩
   ·exact ⟨L,k,by omega,List.mem_range.1 hk,rfl⟩
  ·rintro ⟨i,k,b,h2,a⟩;by_cases hi:i=L
   ·subst hi;exact .inr ⟨k,List.mem_range.2 h2,a.symm⟩
   ·exact .inl ⟨i,k,by omega,h2,a⟩
theorem Q8c {t:Tup}:t∈X.jns↔(∃ i k,i<X.L/\k<X.nr i-1/\t=X.j1 i k)\/∃ u∈X.T,X.jT u=t:=by
 unfold jns jL;rw [QjN,Q69,Qk1]
include h
theorem Qco {i k:Nat} (hi:i<X.Ls.length) (hk:k<X.nr i):base X.nr i+k<X.N:=by
 have:=LK (nr:=X.nr) (i:=i) (j:=X.L) hi;unfold N;omega
theorem QcS:X.JOK X.jns:=by
 refine ⟨fun t ht=>?_,Qcl h⟩;rcases Q8c.1 ht with ⟨i,k,a,h2,rfl⟩ | ⟨u,hu,rfl⟩
 ·have r:=rd h a (show k<X.nr i by omega);have q:=SA h a (show k<X.nr i by omega);have:=r.ex0;have:=r.ex1;have:=r.mn0;have:=r.mn1;have:=r.mn2;have:=r.mn3;refine ⟨Qco h a (by omega),Qco h a (by omega),?_,?_,?_,?_⟩ <;> simp only [j1] <;> omega
 ·have ht:=h.tr _ hu;have ha:u.1<X.Ls.length:=ht.1;have hb:u.2.1<X.Ls.length:=ht.2.1;have na:=(H8 h ha).2.1;have nb:=(H8 h hb).2.1;have t1:=ht.2.2.1;have t2:=ht.2.2.2.1;have b:=ht.2.2.2.2.1;have c:=ht.2.2.2.2.2.1;have r:=rd h ha (show X.nr u.1-1<X.nr u.1 by omega);have q:=SA h ha (show X.nr u.1-1<X.nr u.1 by omega);have:=r.ex0;have:=r.ex1;refine ⟨Qco h ha (by omega),Qco h hb (by omega),?_,?_,?_,?_⟩ <;> simp only [jT] <;> omega
include hl
theorem planned_len:(X.planned Ch Sy).length<=35:=by
 have hN:base X.nr X.L<=6:=base_le h;have:=BG (X:=X) (i:=X.L);have:=hl.chl;have:=hl.syl;have:=h.tl;unfold planned;simp only [List.length_append,List.length_map];omega
theorem buildP (p0:2<=per) (p1:per<=300) (hc:J9 400 X.G.St X.G.Pt X.G.Se X.G.Li per X.skR X.Ro X.Ls Ch (X.T.map tuR) Sy De (some:Int->Option Int)=some 0) :
  GI 400 X.G.St X.G.Pt X.G.Se X.G.Li per X.skR X.Ro X.Ls Ch (X.T.map tuR) Sy De Tu4=some (X.netV per X.jns Ch Sy):=by
 have hN:base X.nr X.L<=6:=base_le h;have ak:=planned_len h hl;unfold GI netV;rw [hc,Q0,Q9 (by rfl),QbU h,Q0];dsimp only;rw [evs_len,Q9 (decide_eq_false (by omega)),Qex h hc,Q0];dsimp only;rw [Q9 (by rfl),Qdi h,Q0];rw [Qdt h (by omega) p1 (QcS h),Q0];cases X.aloneJ per X.jns
 ·rfl
 rw [Q9 (by rfl),Q9U h hl,Q0];obtain ⟨A',e⟩:=QeL h p0 p1 (QcS h) (A:=X.planned Ch Sy) (by omega);rw [e,Q0,QjG];cases eh:X.hdws per X.jns X.N 0 with
 |none=>rfl
 |some H=>
  have:=hdws_len h p0 p1 (by omega) eh;have aj:X.N<=6:=hN;dsimp only;rw [Q9 (by rfl),Q9 (decide_eq_false (by rw [List.length_append];omega))]
end Cx
end Go.Vx
namespace Go.Vx
variable {R:Type}
def Jb (n:Nat) (c:Int) (b:LL) (k0:oP R) (k1:Int->Bool->oP R):Nat->Int->oP R
 | 0,_=>none
 | m+1,a=>bif (decide (a<(b.length:Int))) then gb true (Q1 b a) [] fun d=>gb true (d[2]?) oF fun e=>gb true (pIw e) 0 fun f=>gb true (Q1 b a) [] fun g=>gb true (g[1]?) oF fun h=>gb true (pIw h) 0 fun i=>bif (decide ((wJ (f-i))>c)) then k0 else Jb n c b k0 k1 m (wJ (a+1)) else k1 a (decide (a<(b.length:Int)))
def M0 (n:Nat) (a0:Int) (a1:LL) (K:Bool->oP R):oP R:= gb true (Vy n a0 1 7200 some) false fun a=>gb (!(!a)) (JA n a1 some) false fun b=>bif (bif !a then true else (!b)) then K false else Jb n a0 a1 (K false) (fun c d=>K true) n 0
end Go.Vx
namespace Go.Vx
variable {R:Type}
def Jf (n:Nat) (b:Int) (c:LL) (k0:Int->Int->Bool->oP R):Nat->Int->Int->oP R
 | 0,_,_=>none
 | m+1,h2,a=>bif decide (a<b) then gb true (Q1 c a) [] fun d=>gb true (d[3]?) oF fun e=>gb true (pSl 4 e) [] fun f=>Jf n b c k0 m (wJ (h2+(f.length:Int))) (wJ (a+1)) else k0 h2 a (decide (a<b))
def U0 (n:Nat) (a:LL) (a1:Int) (K:Int->oP R):oP R:= Jf n a1 a (fun b c d=>K b) n 0 0
end Go.Vx
namespace Go.Vx
variable {R:Type}
def W0 (n:Nat) (c:LL) (f:Int) (g h:LL) (d:D) (k0:Int->Bool->LL->oP R):Nat->Int->LL->oP R
 | 0,_,_=>none
 | m+1,a,e=>gb true (pSl 4 d) [] fun k=>bif (decide (a<(k.length:Int))) then gb true (U0 n g f some) 0 fun b=>gb true (pSl 4 d) [] fun aa=>gb true (Q1 aa a) [] fun i=>gb true (i[0]?) oF fun av=>gb true (i[1]?) oF fun l=>gb true (i[2]?) oF fun ab=>gb true (i[3]?) oF fun ac=>gb true (pSl 4 d) [] fun ad=>bif (decide (a<(wJ ((ad.length:Int)-1)))) then gb true (Q1 c (wJ (b+a))) [] fun ae=>gb true (ae[0]?) oF fun ag=>gb true (pIw ag) 0 fun o=>gb true (pIw ab) 0 fun p=>gb true (Q1 c (wJ (b+a))) [] fun ah=>gb true (ah[0]?) oF fun ai=>gb true (pIw ai) 0 fun q=>gb true (pIw l) 0 fun r=>gb true (pIw ac) 0 fun s=>gb true (Yf ((e.length+[[Q4 (wJ (b+a)),Q4 (wJ ((wJ (b+a))+1)),Q4 (wJ (o+p)),Q4 (wJ ((wJ (q+r))+s))]].length)*32)) () fun aw=>W0 n c f g h d k0 m (wJ (a+1)) (e++[[Q4 (wJ (b+a)),Q4 (wJ ((wJ (b+a))+1)),Q4 (wJ (o+p)),Q4 (wJ ((wJ (q+r))+s))]]) else gb true (PX n h f Tu5) ((.bool false),(.bool false),(.bool false),(.bool false),false) fun j=>bif j.2.2.2.2 then gb true (pIw j.2.1) 0 fun ao=>gb true (U0 n g ao some) 0 fun t=>gb true (Q1 c (wJ (b+a))) [] fun ap=>gb true (ap[0]?) oF fun aq=>gb true (pIw aq) 0 fun u=>gb true (pIw j.2.2.1) 0 fun v=>gb true (Q1 c (wJ (b+a))) [] fun ar=>gb true (ar[0]?) oF fun au=>gb true (pIw au) 0 fun x=>gb true (pIw l) 0 fun y=>gb true (pIw j.2.2.2.1) 0 fun z=>gb true (Yf ((e.length+[[Q4 (wJ (b+a)),Q4 t,Q4 (wJ (u+v)),Q4 (wJ ((wJ (x+y))+z))]].length)*32)) () fun a4=>W0 n c f g h d k0 m (wJ (a+1)) (e++[[Q4 (wJ (b+a)),Q4 t,Q4 (wJ (u+v)),Q4 (wJ ((wJ (x+y))+z))]]) else W0 n c f g h d k0 m (wJ (a+1)) e else k0 a (decide (a<(k.length:Int))) e
def Un (n:Nat) (c a d:LL) (k0:Int->Bool->LL->oP R):Nat->Int->LL->oP R
 | 0,_,_=>none
 | m+1,h2,e=>bif (decide (h2<(a.length:Int))) then gb true (Q1 a h2) [] fun b=>gb true (b[0]?) oF fun h=>gb true (b[1]?) oF fun i=>gb true (b[2]?) oF fun j=>gb true (b[3]?) oF fun f=>W0 n c h2 a d f (fun k l g=>Un n c a d k0 m (wJ (h2+1)) g) n 0 e else k0 h2 (decide (h2<(a.length:Int))) e
def Sj (n:Nat) (a b a1:LL) (K:LL->oP R):oP R:= Un n a1 a b (fun d e c=>K c) n 0 []
end Go.Vx
namespace Go.Vx
variable {R:Type}
def YT (n:Nat) (b:LL) (h2:Int) (k0:D->D->D->oP R) (k1:Int->Bool->oP R):Nat->Int->oP R
 | 0,_=>none
 | m+1,a=>bif (decide (a<(b.length:Int))) then gb true (Q1 b a) [] fun d=>gb true (d[0]?) oF fun e=>gb true (pIw e) 0 fun f=>bif (f == h2) then gb true (Q1 b a) [] fun c=>gb true (c[0]?) oF fun g=>gb true (c[1]?) oF fun h=>gb true (c[2]?) oF fun i=>k0 g h i else YT n b h2 k0 k1 m (wJ (a+1)) else k1 a (decide (a<(b.length:Int)))
def Vo (n:Nat) (a0:LL) (a1:Int) (K:D->D->D->Bool->oP R):oP R:= YT n a0 a1 (fun a b c=>K a b c true) (fun d e=>K (Q4 0) (Q4 0) (Q4 0) false) n 0
end Go.Vx
namespace Go.Vx
variable {R:Type}
def Py (n:Nat) (a0:LL) (g h i a2:Int) (K:D->D->D->D->D->D->Bool->oP R):oP R:= gb true (Q1 a0 g) [] fun c=>gb true (c[0]?) oF fun j=>gb true (pSl 3 j) [] fun k=>gb true (Vo n k a2 Tu4) ((.bool false),(.bool false),(.bool false),false) fun a=>gb true (Q1 a0 h) [] fun l=>gb true (l[0]?) oF fun m=>gb true (pSl 3 m) [] fun o=>gb true (Vo n o a2 Tu4) ((.bool false),(.bool false),(.bool false),false) fun b=>gb (bif a.2.2.2 then b.2.2.2 else false) (pIw b.2.1) 0 fun p=>gb (bif a.2.2.2 then b.2.2.2 else false) (pIw a.2.2.1) 0 fun q=>K a.1 a.2.1 a.2.2.1 b.1 b.2.1 b.2.2.1 (bif (bif a.2.2.2 then b.2.2.2 else false) then (decide ((wJ (i+p))<=q)) else false)
end Go.Vx
namespace Go.Vx
variable {R:Type}
def UC (n:Nat) (b:LL) (h2 c g d f:Int) (k0:oP R) (k1:Int->Bool->oP R):Nat->Int->oP R
 | 0,_=>none
 | m+1,a=>gb true (Q1 b c) [] fun l=>gb true (l[0]?) oF fun o=>gb true (pSl 3 o) [] fun l24=>bif (decide (a<(l24.length:Int))) then gb true (Q1 b c) [] fun p=>gb true (p[0]?) oF fun q=>gb true (pSl 3 q) [] fun r=>gb true (Q1 r a) [] fun s=>gb true (s[0]?) oF fun t=>gb true (pIw t) 0 fun u=>gb true (Py n b c g d u Tu7) ((.bool false),(.bool false),(.bool false),(.bool false),(.bool false),(.bool false),false) fun e=>bif e.2.2.2.2.2.2 then gb true (pIw e.2.2.1) 0 fun h=>gb true (pIw e.2.2.2.2.2.1) 0 fun i=>gb true (pIw e.2.1) 0 fun j=>gb true (pIw e.2.2.2.2.1) 0 fun k=>bif (decide ((wJ ((if h<(wJ (f+i)) then (wJ (f+i)) else h)-(if (wJ (d+k))<j then (wJ (d+k)) else j)))>h2)) then k0 else UC n b h2 c g d f k0 k1 m (wJ (a+1)) else UC n b h2 c g d f k0 k1 m (wJ (a+1)) else k1 a (decide (a<(l24.length:Int)))
def ST (n:Nat) (a0:LL) (a b c d a2:Int) (K:Bool->oP R):oP R:= UC n a0 a2 a b c d (K false) (fun e f=>K true) n 0
end Go.Vx
namespace Go.Vx
variable {R:Type}
def Uy (n:Nat) (e:LL) (l:Int) (o:LL) (f c:D) (k0:Int->Bool->LL->oP R):Nat->Int->LL->oP R
 | 0,_,_=>none
 | m+1,a,d=>gb true (pSl 4 c) [] fun p=>bif (decide (a<(p.length:Int))) then gb true (U0 n o l some) 0 fun b=>gb true (pSl 4 c) [] fun t=>gb true (Q1 t a) [] fun g=>gb true (g[0]?) oF fun ad=>gb true (g[1]?) oF fun u=>gb true (g[2]?) oF fun v=>gb true (g[3]?) oF fun x=>gb true (Q1 e (wJ (b+a))) [] fun y=>gb true (y[0]?) oF fun z=>gb true (pIw z) 0 fun h=>gb true (Q1 e (wJ (b+a))) [] fun aa=>gb true (aa[0]?) oF fun ab=>gb true (pIw ab) 0 fun i=>gb true (pIw u) 0 fun j=>gb true (pIw f) 0 fun k=>gb true (Yf ((d.length+[[Q4 1,Q4 (wJ (2*(wJ (b+a)))),Q4 (wJ ((wJ (2*(wJ (b+a))))+1)),Q4 h,Q4 (wJ (i+j)),Q4 k]].length)*48)) () fun ae=>gb true (pSl 4 c) [] fun ac=>bif (decide (a<(wJ ((ac.length:Int)-1)))) then gb true (pIw v) 0 fun q=>gb true (pIw x) 0 fun r=>gb true (pIw f) 0 fun s=>gb true (Yf ((List.length (d++[[Q4 1,Q4 (wJ (2*(wJ (b+a)))),Q4 (wJ ((wJ (2*(wJ (b+a))))+1)),Q4 h,Q4 (wJ (i+j)),Q4 k]])+[[Q4 2,Q4 (wJ ((wJ (2*(wJ (b+a))))+1)),Q4 (wJ ((wJ (2*(wJ (b+a))))+2)),Q4 q,Q4 r,Q4 s]].length)*48)) () fun ag=>Uy n e l o f c k0 m (wJ (a+1)) ((d++[[Q4 1,Q4 (wJ (2*(wJ (b+a)))),Q4 (wJ ((wJ (2*(wJ (b+a))))+1)),Q4 h,Q4 (wJ (i+j)),Q4 k]])++[[Q4 2,Q4 (wJ ((wJ (2*(wJ (b+a))))+1)),Q4 (wJ ((wJ (2*(wJ (b+a))))+2)),Q4 q,Q4 r,Q4 s]]) else Uy n e l o f c k0 m (wJ (a+1)) (d++[[Q4 1,Q4 (wJ (2*(wJ (b+a)))),Q4 (wJ ((wJ (2*(wJ (b+a))))+1)),Q4 h,Q4 (wJ (i+j)),Q4 k]]) else k0 a (decide (a<(p.length:Int))) d
def Uu (n:Nat) (c a:LL) (k0:Int->Bool->LL->oP R):Nat->Int->LL->oP R
 | 0,_,_=>none
 | m+1,h2,d=>bif (decide (h2<(a.length:Int))) then gb true (Q1 a h2) [] fun b=>gb true (b[0]?) oF fun h=>gb true (b[1]?) oF fun i=>gb true (b[2]?) oF fun e=>gb true (b[3]?) oF fun f=>Uy n c h2 a e f (fun j k g=>Uu n c a k0 m (wJ (h2+1)) g) n 0 d else k0 h2 (decide (h2<(a.length:Int))) d
def Sd (n:Nat) (a a1:LL) (K:LL->oP R):oP R:= Uu n a1 a (fun c d b=>K b) n 0 []
end Go.Vx
namespace Go.Vx
variable {R:Type}
def Uv (n:Nat) (d c:LL) (k0:Int->Bool->LL->oP R):Nat->Int->LL->oP R
 | 0,_,_=>none
 | m+1,b,e=>bif (decide (b<(c.length:Int))) then gb true (Q1 c b) [] fun a=>gb true (a[0]?) oF fun o=>gb true (a[1]?) oF fun p=>gb true (a[2]?) oF fun q=>gb true (a[3]?) oF fun r=>gb true (a[4]?) oF fun s=>gb true (a[5]?) oF fun t=>gb true (a[6]?) oF fun u=>gb true (pIw o) 0 fun v=>gb true (U0 n d v some) 0 fun f=>gb true (pIw p) 0 fun g=>gb true (pIw q) 0 fun x=>gb true (U0 n d x some) 0 fun h=>gb true (pIw r) 0 fun i=>gb true (pIw s) 0 fun j=>gb true (pIw t) 0 fun k=>gb true (pIw u) 0 fun l=>gb true (Yf ((e.length+[[Q4 3,Q4 (wJ ((wJ (2*(wJ (f+g))))+1)),Q4 (wJ (2*(wJ (h+i)))),Q4 j,Q4 k,Q4 l]].length)*48)) () fun y=>Uv n d c k0 m (wJ (b+1)) (e++[[Q4 3,Q4 (wJ ((wJ (2*(wJ (f+g))))+1)),Q4 (wJ (2*(wJ (h+i)))),Q4 j,Q4 k,Q4 l]]) else k0 b (decide (b<(c.length:Int))) e
def ZY (n:Nat) (b c:LL) (k0:Int->Bool->LL->oP R):Nat->Int->LL->oP R
 | 0,_,_=>none
 | m+1,a,e=>bif (decide (a<(c.length:Int))) then gb true (Q1 c a) [] fun d=>gb true (d[0]?) oF fun f=>gb true (d[1]?) oF fun l=>gb true (d[2]?) oF fun o=>gb true (d[3]?) oF fun p=>gb true (pIw f) 0 fun q=>gb true (U0 n b q some) 0 fun g=>gb true (pIw f) 0 fun r=>gb true (Q1 b r) [] fun s=>gb true (s[3]?) oF fun t=>gb true (pSl 4 t) [] fun h=>gb true (pIw l) 0 fun u=>gb true (U0 n b u some) 0 fun i=>gb true (pIw o) 0 fun j=>gb true (pIw p) 0 fun k=>gb true (Yf ((e.length+[[Q4 4,Q4 (wJ ((wJ (2*(wJ (g+(h.length:Int)))))-1)),Q4 (wJ (2*i)),Q4 j,Q4 k,Q4 1]].length)*48)) () fun v=>ZY n b c k0 m (wJ (a+1)) (e++[[Q4 4,Q4 (wJ ((wJ (2*(wJ (g+(h.length:Int)))))-1)),Q4 (wJ (2*i)),Q4 j,Q4 k,Q4 1]]) else k0 a (decide (a<(c.length:Int))) e
def Za (n:Nat) (d c:LL) (k0:Int->Bool->LL->oP R):Nat->Int->LL->oP R
 | 0,_,_=>none
 | m+1,a,e=>bif (decide (a<(c.length:Int))) then gb true (Q1 c a) [] fun b=>gb true (b[0]?) oF fun o=>gb true (b[1]?) oF fun p=>gb true (b[2]?) oF fun q=>gb true (b[3]?) oF fun r=>gb true (b[4]?) oF fun f=>gb true (pIw o) 0 fun s=>gb true (U0 n d s some) 0 fun g=>gb true (pIw p) 0 fun h=>gb true (pIw q) 0 fun t=>gb true (U0 n d t some) 0 fun i=>gb true (pIw r) 0 fun j=>gb true (pIw f) 0 fun k=>gb true (pIw f) 0 fun l=>gb true (Yf ((e.length+[[Q4 5,Q4 (wJ (2*(wJ (g+h)))),Q4 (wJ (2*(wJ (i+j)))),Q4 k,Q4 l,Q4 0]].length)*48)) () fun u=>Za n d c k0 m (wJ (a+1)) (e++[[Q4 5,Q4 (wJ (2*(wJ (g+h)))),Q4 (wJ (2*(wJ (i+j)))),Q4 k,Q4 l,Q4 0]]) else k0 a (decide (a<(c.length:Int))) e
def SS (n:Nat) (a b c d:LL) (K:LL->oP R):oP R:= Uv n a b (fun h i e=>ZY n a c (fun j k f=>Za n a d (fun l m g=>K g) n 0 f) n 0 e) n 0 []
end Go.Vx
namespace Go.Vx
variable {R:Type}
def YN (n:Nat) (g e:LL) (a b j:Int) (k0:Bool->Int->Bool->oP R):Nat->Bool->Int->oP R
 | 0,_,_=>none
 | m+1,k,c=>bif (decide (c<(e.length:Int))) then gb true (Q1 e c) [] fun l=>gb true (l[0]?) oF fun o=>gb true (pIw o) 0 fun d=>gb (d == a) (Q1 e c) [] fun p=>gb (d == a) (p[1]?) oF fun q=>gb (d == a) (pIw q) 0 fun f=>gb (!(bif (d == a) then (f == b) else false)) (Q1 e c) [] fun r=>gb (!(bif (d == a) then (f == b) else false)) (r[0]?) oF fun s=>gb (!(bif (d == a) then (f == b) else false)) (pIw s) 0 fun h=>gb ((!(bif (d == a) then (f == b) else false))&&(h == b)) (Q1 e c) [] fun t=>gb ((!(bif (d == a) then (f == b) else false))&&(h == b)) (t[1]?) oF fun u=>gb ((!(bif (d == a) then (f == b) else false))&&(h == b)) (pIw u) 0 fun v=>bif (bif (bif (d == a) then (f == b) else false) then true else (bif (h == b) then (v == a) else false)) then gb true (Q1 e c) [] fun i=>gb true (i[0]?) oF fun x=>gb true (i[1]?) oF fun y=>gb true (i[2]?) oF fun z=>gb true (i[3]?) oF fun aa=>gb true (Q1 g a) [] fun ab=>gb true (ab[0]?) oF fun ac=>gb true (pSl 3 ac) [] fun ad=>gb true (Q1 ad j) [] fun ae=>gb true (ae[0]?) oF fun ag=>gb true (pIw ag) 0 fun ah=>gb true (pIw x) 0 fun ai=>gb true (pIw y) 0 fun aj=>gb true (pIw z) 0 fun ak=>gb true (pIw aa) 0 fun au=>gb true (Py n g ai aj ak ah Tu7) ((.bool false),(.bool false),(.bool false),(.bool false),(.bool false),(.bool false),false) fun ar=>YN n g e a b j k0 m (bif k then true else ar.2.2.2.2.2.2) (wJ (c+1)) else YN n g e a b j k0 m k (wJ (c+1)) else k0 k c (decide (c<(e.length:Int)))
def ZH (n:Nat) (b h2:LL) (c e:Int) (k0:Int->Bool->LL->oP R):Nat->Int->LL->oP R
 | 0,_,_=>none
 | m+1,a,d=>gb true (Q1 b c) [] fun k=>gb true (k[0]?) oF fun l=>gb true (pSl 3 l) [] fun g=>bif (decide (a<(g.length:Int))) then YN n b h2 c e a (fun o s t=>bif !o then gb true (Q1 b c) [] fun p=>gb true (p[0]?) oF fun q=>gb true (pSl 3 q) [] fun r=>gb true (Q1 r a) [] fun f=>gb true (f[0]?) oF fun h=>gb true (f[1]?) oF fun i=>gb true (f[2]?) oF fun j=>gb true (Yf ((d.length+[[h,i,j]].length)*24)) () fun u=>ZH n b h2 c e k0 m (wJ (a+1)) (d++[[h,i,j]]) else ZH n b h2 c e k0 m (wJ (a+1)) d) n false 0 else k0 a (decide (a<(g.length:Int))) d
def Gm (n:Nat) (a0 a1:LL) (a2 a:Int) (K:LL->oP R):oP R:= ZH n a0 a1 a2 a (fun c d b=>K b) n 0 []
end Go.Vx
namespace Go.Vx
variable {R:Type}
def UH (n:Nat) (h2:LL) (b:Int) (k0:oP R) (k1:Int->Bool->oP R):Nat->Int->oP R
 | 0,_=>none
 | m+1,a=>bif (decide (a<(h2.length:Int))) then gb true (Q1 h2 a) [] fun c=>gb true (c[0]?) oF fun d=>gb true (pSl 3 d) [] fun e=>gb true (M0 n b e some) false fun f=>bif !f then k0 else UH n h2 b k0 k1 m (wJ (a+1)) else k1 a (decide (a<(h2.length:Int)))
def UJ (n:Nat) (d b:LL) (e:Int) (k0:oP R) (k1:Int->Bool->oP R):Nat->Int->oP R
 | 0,_=>none
 | m+1,a=>bif (decide (a<(b.length:Int))) then gb true (Q1 b a) [] fun c=>gb true (c[0]?) oF fun f=>gb true (c[1]?) oF fun g=>gb true (c[2]?) oF fun h=>gb true (c[3]?) oF fun i=>gb true (pIw f) 0 fun j=>gb true (pIw g) 0 fun k=>gb true (pIw h) 0 fun l=>gb true (pIw i) 0 fun o=>gb true (ST n d j k l o e some) false fun p=>bif !p then k0 else UJ n d b e k0 k1 m (wJ (a+1)) else k1 a (decide (a<(b.length:Int)))
def Vw (n:Nat) (b:Int) (d:LL) (k0:Int->Bool->LL->oP R):Nat->Int->LL->oP R
 | 0,_,_=>none
 | m+1,a,c=>gb true (Q1 d b) [] fun f=>gb true (f[3]?) oF fun g=>gb true (pSl 4 g) [] fun e=>bif (decide (a<(e.length:Int))) then gb true (Yf ((c.length+List.length [[Q4 1,Q4 b,Q4 a],[Q4 2,Q4 b,Q4 a]])*24)) () fun h=>Vw n b d k0 m (wJ (a+1)) (c++[[Q4 1,Q4 b,Q4 a],[Q4 2,Q4 b,Q4 a]]) else k0 a (decide (a<(e.length:Int))) c
def Wb (n:Nat) (b:LL) (k0:Int->Bool->LL->oP R):Nat->Int->LL->oP R
 | 0,_,_=>none
 | m+1,a,c=>bif (decide (a<(b.length:Int))) then Vw n a b (fun e f d=>Wb n b k0 m (wJ (a+1)) d) n 0 c else k0 a (decide (a<(b.length:Int))) c
def UD (n:Nat) (c d:Int) (b:LL) (k0:Int->Bool->LL->oP R):Nat->Int->LL->oP R
 | 0,_,_=>none
 | m+1,a,e=>bif (decide (a<(b.length:Int))) then gb true (Q1 b a) [] fun h=>gb true (h[0]?) oF fun i=>gb true (pIw i) 0 fun f=>gb true (Q1 b a) [] fun j=>gb true (j[1]?) oF fun k=>gb true (pIw k) 0 fun g=>gb true (Yf ((e.length+[[Q4 6,Q4 (wJ (2*c)),Q4 (wJ (2*d)),Q4 f,Q4 g,Q4 0]].length)*48)) () fun l=>UD n c d b k0 m (wJ (a+1)) (e++[[Q4 6,Q4 (wJ (2*c)),Q4 (wJ (2*d)),Q4 f,Q4 g,Q4 0]]) else k0 a (decide (a<(b.length:Int))) e
def Vt (n:Nat) (b d:LL) (c e:Int) (k0:oP R) (k1:Int->Bool->LL->oP R):Nat->Int->LL->oP R
 | 0,_,_=>none
 | m+1,a,f=>bif (decide (a<(b.length:Int))) then gb true (Gm n b d c a some) [] fun h=>gb true (Gm n b d a c some) [] fun i=>gb true (KQ n e h i Tu2) ([],0) fun g=>bif (g.2 != 0) then k0 else UD n c a g.1 (fun o p l=>Vt n b d c e k0 k1 m (wJ (a+1)) l) n 0 f else k1 a (decide (a<(b.length:Int))) f
def Uz (n:Nat) (b c:LL) (d:Int) (k0:oP R) (k1:Int->Bool->LL->oP R):Nat->Int->LL->oP R
 | 0,_,_=>none
 | m+1,a,e=>bif (decide (a<(b.length:Int))) then Vt n b c a d (k0) (fun g h f=>Uz n b c d k0 k1 m (wJ (a+1)) f) n (wJ (a+1)) e else k1 a (decide (a<(b.length:Int))) e
def T8 (n:Nat) (k l m o:LL) (b:Int) (p q c e d f r:LL) (K:Int->LL->LL->Int->oP R):oP R:= gb true (SH n k l m o b p q c e d f r Tu3) ([],[],0) fun a=>bif (a.2.2 != 0) then K 0 [] [] a.2.2 else bif (decide ((wJ (2*(a.1.length:Int)))>48)) then K 0 [] [] 7 else UH n a.1 b (K 0 [] [] 13) (fun v x=>gb true (Sj n c d a.2.1 some) [] fun g=>UJ n a.1 g b (K 0 [] [] 13) (fun y z=>Wb n c (fun aa ab u=>gb true (Sd n c a.2.1 some) [] fun h=>gb true (SS n c e d f some) [] fun i=>gb true (Yf ((h.length+i.length)*48)) () fun ac=>Uz n a.1 g b (K 0 [] [] 13) (fun ad ae j=>bif (decide ((j.length:Int)>512)) then K 0 [] [] 7 else K b u j 0) n 0 (h++i)) n 0 []) n 0) n 0
end Go.Vx
namespace Go.Vx
theorem QaJ {α β:Type} {r:Nat->Int->β} {l:List α} {p:α->Bool} {F:α->β} {E:β} (a:∀ m i q,l[i]? = some q->i<l.length->r (m+1) (i:Int)=bif p q then F q else r m ((i+1:Nat):Int)) (b:∀ m,r (m+1) ((l.length:Nat):Int)=E) {fuel:Nat} (hf:l.length<fuel):r fuel 0=match l.find? p with | some q=>F q | none=>E:=by
 have go:∀ (aj:List α) (i m:Nat),l.drop i=aj->aj.length<m->i<=l.length->r m (i:Int)=match aj.find? p with | some q=>F q | none=>E:=by
  intro aj;induction aj with
  |nil=>
   intro i m hd hm hi;obtain ⟨m,rfl⟩:∃ k,m=k+1:=⟨m-1,by omega⟩
   grind
  |cons q aj ih=>
   intro i m hd hm hi;obtain ⟨m,rfl⟩:∃ k,m=k+1:=⟨m-1,by simp at hm;omega⟩
   grind [Yh]
 exact go l 0 fuel rfl hf (Nat.zero_le _)
theorem QdS {t:Int} {O:List Occ} (a:1<=t) (b:t<=7200) (hO:OL (-1) O) (hl:O.length<=300):M0 400 t (O.map enc) (some:Bool->Option Bool)=some (O.all (MA t)):=by
 unfold M0;rw [Q3N a b,Q8A hl hO];simp -implicitDefEqProofs only [cond_false,Q0,QjP,Bool.not_false];refine (Tg (r:=fun m i=>Jb 400 t (O.map enc) (some false) (fun _ _=>some true) m i) (l:=O) (p:=MA t) (E0:=some false) (E1:=some true) (fun m i q e hi=>?_) (fun m=>?_) (by omega)).trans (by cases O.all (MA t) <;> rfl)
 ·rw [Jb,List.length_map,Qc hi,QjG,QL e];simp -implicitDefEqProofs only [Q0,Np,MZ,Fj,Q3,Qq (show i<=1000 by omega),Qh0 hO (QjD e)];unfold MA;cases decide (q.2.2-q.2.1>t) <;> rfl
 ·rw [Jb,List.length_map,Qi,cond_false]
def Q7a (O:List Occ) (r:Int):Bool:=(O.find? fun q=>q.1 == r).isSome
def fnd (O:List Occ) (r:Int):Occ:=(O.find? fun q=>q.1 == r).getD (0,0,0)
theorem C4 {p:Occ->Bool} {r:Int} (hp:∀ q,q.1≠r->p q=false):∀ {l:Int} {O:List Occ},OL l O->O.any p=(bif Q7a O r then p (fnd O r) else false)
 |_,[],_=>rfl
 |l,(x,a,b)::O,⟨d,h2,e,f,g,c⟩=>by
  have ih:=C4 hp c;unfold Q7a fnd at ih ⊢;by_cases hx:x=r
  ·subst hx;have:O.any p=false:=by
    rw [List.any_eq_false];intro q hq;have:=(c.mem q hq).1
    grind
   simp_all
  grind
theorem Q4i {O:List Occ} {r:Int} (h:Q7a O r=true):(fnd O r).1=r:=by
 unfold Q7a at h;unfold fnd;cases e:O.find? fun q=>q.1 == r with
 |none=>simp_all
 |some q=>grind
theorem QcU {l:Int} {O:List Occ} (hO:OL l O) {x:Occ} (hx:x∈O):Q7a O x.1=true/\fnd O x.1=x:=by
 unfold Q7a fnd;cases e:O.find? fun q=>q.1 == x.1 with
 |none=>grind
 |some q=>exact ⟨rfl,hO.uniq (List.mem_of_find?_eq_some e) hx (by grind)⟩
def okR (la:Int) (A B:List Occ) (r:Int):Bool:=bif (bif Q7a A r then Q7a B r else false) then decide (la+(fnd B r).2.1<=(fnd A r).2.2) else false
theorem QaR {la:Int} {x y:Occ} (h:y.1≠x.1):tie la x y=false:=by
 grind [tie]
theorem Qed {la r:Int} {A B:List Occ} (hA:OL (-1) A) (hB:OL (-1) B):okR la A B r=Q3z la A B r:=by
 unfold Q3z okR;rw [C4 (r:=r) (fun q hq=>by
  simp_all) hA]
 cases ha:Q7a A r with
 |false=>rfl
 |true=>
  have ea:=Q4i ha;rw [QjG,QjG,C4 (r:=r) (fun y hy=>by grind [QaR]) hB];cases hb:Q7a B r with
  |false=>rfl
  |true=>
   have eb:=Q4i hb
   simp_all [tie,QjG,decide,fnd]
theorem Qbw {per la mo:Int} {A B:List Occ} (hA:OL (-1) A) (hB:OL (-1) B) {x:Occ} (hx:x∈A):(B.any fun y=>bif tie la x y then Q1U per la mo x y else false)=bif okR la A B x.1 then Q1U per la mo (fnd A x.1) (fnd B x.1) else false:=by
 have ha:=QcU hA hx;unfold okR;rw [C4 (r:=x.1) (fun y hy=>by grind [QaR]) hB,ha.1,ha.2,QjG];cases hb:Q7a B x.1 with
 |false=>rfl
 |true=>
  simp_all [Q4i,tie,QjG]
theorem Q4M {l:Int} {O:List Occ} (hO:OL l O) {r:Int} : -1000<=(fnd O r).2.1/\(fnd O r).2.1<=20000 /\ -1000<=(fnd O r).2.2/\(fnd O r).2.2<=20000:=by
 unfold fnd;cases e:O.find? fun q=>q.1 == r with
 |none=>simp
 |some q=>
  have:=hO.mem q (List.mem_of_find?_eq_some e)
  grind
theorem QdH {R:Type} {O:List Occ} (hl:O.length<=300) {r:Int} (K:D->D->D->Bool->oP R):Vo 400 (O.map enc) r K=K (Q4 (fnd O r).1) (Q4 (fnd O r).2.1) (Q4 (fnd O r).2.2) (Q7a O r):=by
 unfold Vo fnd Q7a;refine (QaJ (r:=fun m i=>YT 400 (O.map enc) r (fun a b c=>K a b c true) (fun d f=>K (Q4 0) (Q4 0) (Q4 0) false) m i) (l:=O) (p:=fun q=>q.1 == r) (F:=fun q=>K (Q4 q.1) (Q4 q.2.1) (Q4 q.2.2) true) (E:=K (Q4 0) (Q4 0) (Q4 0) false) (fun m i q e hi=>?_) (fun m=>?_) (by omega)).trans ?_
 ·rw [YT,List.length_map,Qc hi,QjG,QL e];simp -implicitDefEqProofs only [Q0,Np,MZ,Fj,Q3,Qq (show i<=1000 by omega)]
 ·rw [YT,List.length_map,Qi,cond_false]
 ·cases O.find? fun q=>q.1 == r <;> rfl
namespace Cx
variable {R:Type} {X:Cx} (h:X.OK)
include h
theorem Qdn {J:List Tup} (hJ:X.JOK J) {t:Tup} (ht:t∈J) {r:Int} (K:D->D->D->D->D->D->Bool->oP R):Py 400 (GH (X.occs X.L)) (t.1:Int) (t.2.1:Int) t.2.2.1 r K=K (Q4 (fnd (X.occN t.1) r).1) (Q4 (fnd (X.occN t.1) r).2.1) (Q4 (fnd (X.occN t.1) r).2.2) (Q4 (fnd (X.occN t.2.1) r).1) (Q4 (fnd (X.occN t.2.1) r).2.1) (Q4 (fnd (X.occN t.2.1) r).2.2) (okR t.2.2.1 (X.occN t.1) (X.occN t.2.1) r):=by
 have hj:=hJ.at' t ht;have oa:=Ji h hj.1;have ob:=Ji h hj.2.1;have rb:=Q4M ob.2.1 (r:=r);unfold Py okR;rw [oa.1,ob.1];simp -implicitDefEqProofs only [Q0,QjB,QG,QdH (show (X.occN t.1).length<=300 by omega),QdH (show (X.occN t.2.1).length<=300 by omega),Q3,Q7 (x:=t.2.2.1+(fnd (X.occN t.2.1) r).2.1) (by omega) (by omega)]
theorem Qel {J:List Tup} (hJ:X.JOK J) {t:Tup} (ht:t∈J) {per:Int} (K:Bool->oP R):ST 400 (GH (X.occs X.L)) (t.1:Int) (t.2.1:Int) t.2.2.1 t.2.2.2 per K=K (!Q8a per t.2.2.1 t.2.2.2 (X.occN t.1) (X.occN t.2.1)):=by
 have hj:=hJ.at' t ht;have oa:=Ji h hj.1;have ob:=Ji h hj.2.1;unfold ST Q8a;refine (Tg (r:=fun m i=>UC 400 (GH (X.occs X.L)) per (t.1:Int) (t.2.1:Int) t.2.2.1 t.2.2.2 (K false) (fun a b=>K true) m i) (l:=X.occN t.1) (p:=fun x=>!((X.occN t.2.1).any fun y=>bif tie t.2.2.1 x y then Q1U per t.2.2.1 t.2.2.2 x y else false)) (E0:=K false) (E1:=K true) (fun m i x e hi=>?_) (fun m=>?_) (by omega)).trans ?_
 ·have ra:=Q4M oa.2.1 (r:=x.1);have rb:=Q4M ob.2.1 (r:=x.1);rw [UC,oa.1,Qbw oa.2.1 ob.2.1 (QjD e)];simp -implicitDefEqProofs only [Q0,QjB,QG,List.length_map,Qc hi,QjG,QL e,Np,Q3,Qdn h hJ ht,Qq (show i<=1000 by omega)];generalize fnd (X.occN t.1) x.1=u at ra ⊢;generalize fnd (X.occN t.2.1) x.1=v at rb ⊢;cases okR t.2.2.1 (X.occN t.1) (X.occN t.2.1) x.1 with
  |false=>rfl
  |true=>
   rw [QjG,QjG,Q7 (x:=t.2.2.1+v.2.1) (by omega) (by omega),Q7 (x:=t.2.2.2+v.2.2) (by omega) (by omega),Q7 (x:=(if u.2.2<t.2.2.2+v.2.2 then t.2.2.2+v.2.2 else u.2.2)-(if t.2.2.1+v.2.1<u.2.1 then t.2.2.1+v.2.1 else u.2.1)) (by split <;> split <;> omega) (by split <;> split <;> omega)];unfold Q1U;cases decide ((if u.2.2<t.2.2.2+v.2.2 then t.2.2.2+v.2.2 else u.2.2)-(if t.2.2.1+v.2.1<u.2.1 then t.2.2.1+v.2.1 else u.2.1)>per) <;> rfl
 ·rw [UC,oa.1];simp -implicitDefEqProofs only [Q0,QjB,QG,List.length_map,Qi,cond_false]
 ·rw [<- List.not_any_eq_all_not];cases (X.occN t.1).any fun x=>(X.occN t.2.1).any fun y=>bif tie t.2.2.1 x y then Q1U per t.2.2.1 t.2.2.2 x y else false <;> rfl
theorem Q8z {J:List Tup} (hJ:X.JOK J) {a b i:Nat} (ha:a<X.N) {x:Occ} (e:(X.occN a)[i]? = some x) (k0:Bool->Int->Bool->oP R):YN 400 (GH (X.occs X.L)) (J.map tuR) (a:Int) (b:Int) (i:Int) k0 400 false 0=k0 (X.TRb J a b x.1) ((J.length:Nat):Int) false:=by
 have oa:=Ji h ha;have hl:=hJ.len;unfold TRb;rw [<- Bool.false_or (List.any _ _),<- F7];refine LB (r:=fun m j c=>YN 400 (GH (X.occs X.L)) (J.map tuR) (a:Int) (b:Int) (i:Int) k0 m c j) (E:=fun c=>k0 c ((J.length:Nat):Int) false) (fun m j t c e' hi=>?_) (fun m c=>?_) (by omega) false
 ·have hj:=hJ.at' t (QjD e');have d:=Ji h hj.1;have f:=Ji h hj.2.1;have aj:Q1 (J.map tuR) (j:Int)=some [Q4 t.1,Q4 t.2.1,Q4 t.2.2.1,Q4 t.2.2.2]:=QL e';rw [YN,List.length_map,Qc hi,QjG,aj];simp -implicitDefEqProofs only [Q0,QjB,QjF,Q3,QG,oa.1,QL e,Np,Qdn h hJ (QjD e'),Qq (show j<=1000 by omega),Qed d.2.1 f.2.1];show (bif jab a b t then _ else _)=_;cases jab a b t <;> cases c <;> rfl
 ·rw [YN,List.length_map,Qi,cond_false]
theorem Q5c {J:List Tup} (hJ:X.JOK J) {a b:Nat} (ha:a<X.N) (K:LL->oP R):Gm 400 (GH (X.occs X.L)) (J.map tuR) (a:Int) (b:Int) K=K ((X.fil J a b).map enc):=by
 have oa:=Ji h ha;unfold Gm fil;refine Qu (r:=fun m i=>ZH 400 (GH (X.occs X.L)) (J.map tuR) (a:Int) (b:Int) (fun d f c=>K c) m i ((((X.occN a).take i.toNat).filter fun o=>!X.TRb J a b o.1).map enc)) (N:=(X.occN a).length) (fun m i hi=>?_) (fun m=>?_) (X.occN a).length 400 0 (by omega) (by omega)
 ·simp only [QjC];obtain ⟨x,e⟩:∃ q,(X.occN a)[i]? = some q:=⟨(X.occN a)[i],QjE hi⟩;have ak:(((X.occN a).take i).filter fun o=>!X.TRb J a b o.1).length<=i:=Nat.le_trans (List.length_filter_le ..) (by simp;omega);rw [ZH,oa.1];simp -implicitDefEqProofs only [Q0,QjB,QG,List.length_map,Qc hi,QjG,Q8z h hJ ha e,QL e,Np,MZ,Fj,Qq (show i<=1000 by omega),XF (show ((((X.occN a).take i).filter fun o=>!X.TRb J a b o.1).length+[[Q4 x.1,Q4 x.2.1,Q4 x.2.2]].length)*24<=100000 by simp;omega)];rw [YC e,List.filter_append,QjQ];simp only [List.filter_cons,List.filter_nil];cases X.TRb J a b x.1 with
  |false=>rfl
  |true=>
   rw [QjP,cond_false,if_neg Bool.false_ne_true,List.map_nil,QjX]
 ·simp only [QjC];rw [ZH,oa.1];simp -implicitDefEqProofs only [Q0,QjB,QG,List.length_map,Qi,cond_false,QjS]
end Cx
end Go.Vx
namespace Go.Vx
theorem Qa6 {a b:Nat} (h:a+b<=100000):wJ ((a:Int)+(b:Int))=((a+b:Nat):Int):=Q7 (by omega) (by omega)
theorem Qcf {a:Nat} (h:a<=100000):wJ ((a:Int)+1)=((a+1:Nat):Int):=Q7 (by omega) (by omega)
theorem Qgj {a:Nat} (h:a<=100000):wJ ((a:Int)+2)=((a+2:Nat):Int):=Q7 (by omega) (by omega)
theorem M9 {a:Nat} (h:a<=100000):wJ (2*(a:Int))=((2*a:Nat):Int):=Q7 (by omega) (by omega)
namespace Cx
def jR (X:Cx) (i:Nat):List Tup:=(List.range (X.nr i-1)).map (X.j1 i)++(match X.tn i with | some t=>[X.jT t] | none=>[])
def jnsR (X:Cx):Nat->List Tup
 |0=>[]
 |i+1=>jnsR X i++X.jR i
variable {R:Type} {n:Nat} {X:Cx} (h:X.OK)
theorem Q6e {t:Tup}:∀ {L:Nat},t∈X.jnsR L↔∃ i,i<L/\t∈X.jR i
 |0=>⟨fun h=>(nomatch h),fun ⟨_,h,_⟩=>by omega⟩
 |L+1=>by
  rw [jnsR,QjN,Q6e];constructor
  ·rintro (⟨i,a,h2⟩ | h2)
   ·exact ⟨i,by omega,h2⟩
   ·exact ⟨L,by omega,h2⟩
  ·rintro ⟨i,a,h2⟩;by_cases hi:i=L
   ·subst hi;exact .inr h2
   ·exact .inl ⟨i,by omega,h2⟩
theorem Q2q {i:Nat} {t:Tup} (ht:X.tn i=some t):t∈X.T/\t.1=i:=⟨List.mem_of_find?_eq_some ht,by simpa using List.find?_some ht⟩
theorem Q6g {α β:Type} {f:α->β}:∀ {l:List α},(l.map f).Nodup->∀ {x y},x∈l->y∈l->f x=f y->x=y
 |[],_,_,_,h,_,_=>nomatch h
 |a::l,hn,x,y,hx,hy,e=>by
  rw [List.map_cons,List.nodup_cons] at hn;cases hx with
  |head=>
   cases hy with
   |head=>rfl
   |tail _ hy=>exact (hn.1 (Qk1.2 ⟨y,hy,e.symm⟩)).elim
  |tail _ hx=>
   cases hy with
   |head=>exact (hn.1 (Qk1.2 ⟨x,hx,e⟩)).elim
   |tail _ hy=>exact Q6g hn.2 hx hy e
include h
theorem Qgy {t:Tup} (ht:t∈X.T):X.tn t.1=some t:=by
 cases e:X.tn t.1 with
 |none=>exact absurd (List.find?_eq_none.1 e t ht) (by simp)
 |some u=>
  have hu:=Q2q e;rw [Q6g h.fd hu.1 ht hu.2]
theorem Q1X {t:Tup}:t∈X.jnsR X.L↔t∈X.jns:=by
 rw [Q6e,Q8c];constructor
 ·rintro ⟨i,hi,ht⟩;rcases QjN.1 ht with ht | ht
  ·grind
  ·cases e:X.tn i with
   |none=>simp_all
   |some u=>
    rw [e] at ht;obtain rfl:=List.mem_singleton.1 ht;exact .inr ⟨u,(Q2q e).1,rfl⟩
 ·rintro (⟨i,k,hi,hk,rfl⟩ | ⟨u,hu,rfl⟩)
  ·exact ⟨i,hi,List.mem_append_left _ (List.mem_map_of_mem (List.mem_range.2 hk))⟩
  ·refine ⟨u.1,(h.tr _ hu).1,List.mem_append_right _ ?_⟩
   grind [Qgy]
theorem Q6k {i:Nat} (hi:i<=X.Ls.length):(X.jnsR i).length<=base X.nr i:=by
 induction i with
 |zero=>exact QjM _
 |succ i ih=>
  have hl:=(H8 h (i:=i) (by omega)).2.1
  grind [jnsR,jR,List.length_append,List.length_map,List.length_range,base]
theorem QdN:X.JOK (X.jnsR X.L):=⟨fun t ht=>(QcS h).at' t ((Q1X h).1 ht),by have:=Q6k h (i:=X.L) (QjM _);have:=base_le h;omega⟩
theorem Q0V {i:Nat} (hi:i<=X.Ls.length) (K:Int->oP R):U0 400 X.Ls (i:Int) K=K ((base X.nr i:Nat):Int):=by
 have hb:=Ye h hi;have l1:=h.l1;unfold U0;refine Qu (r:=fun m k=>Jf 400 (i:Int) X.Ls (fun c d e=>K c) m ((base X.nr k.toNat:Nat):Int) k) (N:=i) (fun m k hk=>?_) (fun m=>?_) i 400 0 (by omega) (by omega)
 ·simp only [QjC];have aj:=Ye h (i:=k+1) (by omega);rw [base] at aj;have ha:wJ (((base X.nr k:Nat):Int)+(((GJ X.Ls k).length:Nat):Int))=((base X.nr (k+1):Nat):Int):=Qa6 (a:=base X.nr k) (b:=X.nr k) (by omega);rw [Jf,Qc hk,QjG,Qe,(H8 h (by omega)).1];simp -implicitDefEqProofs only [Q0,QjB,QjF,QG,Qq (show k<=1000 by omega),ha]
 ·simp only [QjC];rw [Jf,Qi,cond_false]
theorem QeM (K:LL->oP R):Sj 400 X.Ls (X.T.map tuR) (encI (X.runs X.L)) K=K ((X.jnsR X.L).map tuR):=by
 have l1:=h.l1;unfold Sj;refine Qu (r:=fun m i=>Un 400 (encI (X.runs X.L)) X.Ls (X.T.map tuR) (fun f g c=>K c) m i ((X.jnsR i.toNat).map tuR)) (N:=X.Ls.length) (fun m i hi=>?_) (fun m=>?_) X.Ls.length 400 0 (by omega) (by omega)
 ·simp only [QjC];have hl:=(H8 h hi).2.1;have hb:=Ye h (i:=i) (by omega);have hw:wJ (((List.length (GJ X.Ls i):Nat):Int)-1)=((X.nr i-1:Nat):Int):=Jq (k:=X.nr i) (by omega) (by omega);have hJ:=Q6k h (i:=i) (by omega);rw [Un,Qc hi,QjG,Qe,(H8 h hi).1];simp -implicitDefEqProofs only [Q0,QjB,QjF,Qq (show i<=1000 by omega)];refine Qu (r:=fun m' k=>W0 400 (encI (X.runs X.L)) (i:Int) X.Ls (X.T.map tuR) (D.sl 4 (GJ X.Ls i)) (fun _ _ w=>Un 400 (encI (X.runs X.L)) X.Ls (X.T.map tuR) (fun f g c=>K c) m ((i+1:Nat):Int) w) m' k ((if k.toNat<=X.nr i-1 then X.jnsR i++(List.range k.toNat).map (X.j1 i) else X.jnsR (i+1)).map tuR)) (N:=X.nr i) (fun m' k hk=>?_) (fun m'=>?_) (X.nr i) 400 0 (by omega) (by omega) |> Eq.trans (by simp)
  ·simp only [QjC];have r:=rd h hi hk;have hr:=SA h hi hk;have aj:Q1 (GJ X.Ls i) (k:Int)=some [Q4 (rF X.Ls i k 0),Q4 (X.ex i k),Q4 (X.mn i k),Q4 (X.mx i k)]:=by rw [Qe,r.row]
   have l:=r.ex0;have e1:=r.ex1;have e2:=r.mn0;have n:=r.mn1;have o:=r.mn2;have p:=r.mn3;rw [W0,QG,Q0,show (((GJ X.Ls i).length:Nat):Int)=((X.nr i:Nat):Int) from rfl,Qc hk,QjG,if_pos (show k<=X.nr i-1 by omega)];simp -implicitDefEqProofs only [Q0,Q0V h (show i<=X.Ls.length by omega),aj,QjB,QjF,Q3,QG,hw,Qa6 (a:=base X.nr i) (b:=k) (by omega),Q5p hi hk,Qq (show k<=1000 by omega),Q7 (x:=X.run i k+X.mn i k) (by omega) (by omega),Q7 (x:=X.run i k+X.ex i k) (by omega) (by omega),Q7 (x:=X.run i k+X.ex i k+X.mx i k) (by omega) (by omega),Qcf (a:=base X.nr i+k) (by omega)];by_cases j:k<X.nr i-1
   ·rw [Qc j,QjG,if_pos (show k+1<=X.nr i-1 by omega),XF (by simp;omega),Q0,<- Zr,QjQ (l₁:=X.jnsR i++(List.range k).map (X.j1 i))];rfl
   ·rw [show decide ((k:Int)<((X.nr i-1:Nat):Int))=false from decide_eq_false (by omega),cond_false,if_neg (show ¬ k+1<=X.nr i-1 by omega),Qc1 h];have d:k=X.nr i-1:=by omega
    cases ht:X.tn i with
    |none=>
     simp -implicitDefEqProofs only [Q0,cond_false,jnsR,jR,ht,QjX,d]
    |some t=>
     obtain ⟨t1,t2⟩:=Q2q ht;have ao:=(h.tr _ t1).2.1;have q:=(h.tr _ t1).2.2.1;have s:=(h.tr _ t1).2.2.2.1;have u:=(h.tr _ t1).2.2.2.2.1;have v:=(h.tr _ t1).2.2.2.2.2.1;simp -implicitDefEqProofs only [Q0,QjG,Q3,Q0V h (show t.2.1<=X.Ls.length by omega),Q7 (x:=X.run i k+t.2.2.1) (by omega) (by omega),Q7 (x:=X.run i k+X.ex i k+t.2.2.2) (by omega) (by omega),jnsR,jR,ht];have e:[Q4 ((base X.nr i+k:Nat):Int),Q4 ((base X.nr t.2.1:Nat):Int),Q4 (X.run i k+t.2.2.1),Q4 (X.run i k+X.ex i k+t.2.2.2)]=tuR (X.jT t):=by
      unfold tuR jT;rw [t2,d];rfl
     rw [XF (by simp;omega),Q0,e,d,<- QjJ,QjQ (l₁:=X.jnsR i++_)];rfl
  ·simp only [QjC];rw [W0,QG,Q0,show (((GJ X.Ls i).length:Nat):Int)=((X.nr i:Nat):Int) from rfl,Qi,cond_false,if_neg (by omega)]
 ·simp only [QjC];rw [Un,Qi,cond_false];rfl
theorem QbX (k0:LL->oP R):Wb 400 X.Ls (fun _ _ w=>k0 w) 400 0 []=k0 (X.evs X.L):=by
 have l1:=h.l1;refine Qu (r:=fun m i=>Wb 400 X.Ls (fun _ _ w=>k0 w) m i (X.evs i.toNat)) (N:=X.Ls.length) (fun m i hi=>?_) (fun m=>?_) X.Ls.length 400 0 (by omega) (by omega)
 ·simp only [QjC];have hl:=(H8 h hi).2.1;have hb:=Ye h (i:=i) (by omega);rw [Wb,Qc hi,QjG,Qq (show i<=1000 by omega)];refine Qu (r:=fun m' k=>Vw 400 (i:Int) X.Ls (fun _ _ w=>Wb 400 X.Ls (fun _ _ w=>k0 w) m ((i+1:Nat):Int) w) m' k (X.evs i++evl i k.toNat)) (N:=X.nr i) (fun m' k hk=>?_) (fun m'=>?_) (X.nr i) 400 0 (by omega) (by omega) |> Eq.trans (by simp [evl])
  ·simp only [QjC];rw [Vw,Qe,(H8 h hi).1];simp -implicitDefEqProofs only [Q0,QjB,QjF,QG];rw [show (((GJ X.Ls i).length:Nat):Int)=((X.nr i:Nat):Int) from rfl,Qc hk,QjG,XF (by simp [evs_len,Q1v];omega),Q0,Qq (by omega),QjJ];rfl
  ·simp only [QjC];rw [Vw,Qe,(H8 h hi).1];simp -implicitDefEqProofs only [Q0,QjB,QjF,QG];rw [show (((GJ X.Ls i).length:Nat):Int)=((X.nr i:Nat):Int) from rfl,Qi,cond_false];rfl
 ·simp only [QjC];rw [Wb,Qi,cond_false];rfl
theorem QdV (K:LL->oP R):Sd 400 X.Ls (encI (X.runs X.L)) K=K (X.pls X.L):=by
 have l1:=h.l1;unfold Sd;refine Qu (r:=fun m i=>Uu 400 (encI (X.runs X.L)) X.Ls (fun e f c=>K c) m i (X.pls i.toNat)) (N:=X.Ls.length) (fun m i hi=>?_) (fun m=>?_) X.Ls.length 400 0 (by omega) (by omega)
 ·simp only [QjC];have hl:=(H8 h hi).2.1;have hb:=Ye h (i:=i) (by omega);have hp:=BG (X:=X) (i:=i);have hw:wJ (((List.length (GJ X.Ls i):Nat):Int)-1)=((X.nr i-1:Nat):Int):=Jq (k:=X.nr i) (by omega) (by omega);rw [Uu,Qc hi,QjG,Qe,(H8 h hi).1];simp -implicitDefEqProofs only [Q0,QjB,QjF,Qq (show i<=1000 by omega)];refine Qu (r:=fun m' k=>Uy 400 (encI (X.runs X.L)) (i:Int) X.Ls (Q4 (X.w i)) (D.sl 4 (GJ X.Ls i)) (fun _ _ w=>Uu 400 (encI (X.runs X.L)) X.Ls (fun e f c=>K c) m ((i+1:Nat):Int) w) m' k (X.pls i++X.pl i k.toNat)) (N:=X.nr i) (fun m' k hk=>?_) (fun m'=>?_) (X.nr i) 400 0 (by omega) (by omega) |> Eq.trans (by simp [pl])
  ·simp only [QjC];have r:=rd h hi hk;have hr:=SA h hi hk;have aj:Q1 (GJ X.Ls i) (k:Int)=some [Q4 (rF X.Ls i k 0),Q4 (X.ex i k),Q4 (X.mn i k),Q4 (X.mx i k)]:=by rw [Qe,r.row]
   have g:=r.ex0;have e1:=r.ex1;have an:=Q6m (X:=X) (i:=i) (k:=k);rw [Uy,QG,Q0,show (((GJ X.Ls i).length:Nat):Int)=((X.nr i:Nat):Int) from rfl,Qc hk,QjG];simp -implicitDefEqProofs only [Q0,Q0V h (show i<=X.Ls.length by omega),aj,QjB,QjF,Q3,QG,hw,Qa6 (a:=base X.nr i) (b:=k) (by omega),Q5p hi hk,Qq (show k<=1000 by omega),Q7 (x:=X.run i k+X.ex i k) (by omega) (by omega),M9 (a:=base X.nr i+k) (by omega),Qcf (a:=2*(base X.nr i+k)) (by omega),Qgj (a:=2*(base X.nr i+k)) (by omega)];rw [XF (by simp;omega),Q0];by_cases d:k<X.nr i-1
   ·rw [Qc d,QjG,XF (by simp;omega),Q0,pl,if_pos d,<- QjJ,<- QjJ];rfl
   ·rw [show decide ((k:Int)<((X.nr i-1:Nat):Int))=false from decide_eq_false (by omega),cond_false,pl,if_neg d,QjX,<- QjJ];rfl
  ·simp only [QjC];rw [Uy,QG,Q0,show (((GJ X.Ls i).length:Nat):Int)=((X.nr i:Nat):Int) from rfl,Qi,cond_false];rfl
 ·simp only [QjC];rw [Uu,Qi,cond_false];rfl
theorem Qf0 {per:Int} {Ch Sy:LL} (hl:X.LsOK per Ch Sy) (K:LL->oP R):SS 400 X.Ls Ch (X.T.map tuR) Sy K=K (Ch.map X.chE++X.T.map X.tuE++Sy.map X.syE):=by
 have l1:=h.l1;have tl:=h.tl;have chl:=hl.chl;have syl:=hl.syl;unfold SS;have s1:∀ k0:LL->oP R,Uv 400 X.Ls Ch (fun _ _ w=>k0 w) 400 0 []=k0 (Ch.map X.chE):=by
  intro k0;refine Qu (r:=fun m j=>Uv 400 X.Ls Ch (fun _ _ w=>k0 w) m j ((Ch.take j.toNat).map X.chE)) (N:=Ch.length) (fun m j hj=>?_) (fun m=>?_) Ch.length 400 0 (by omega) (by omega)
  ·simp only [QjC];obtain ⟨row,e⟩:∃ q,Ch[j]? = some q:=⟨Ch[j],QjE hj⟩;obtain ⟨f,fr,t,tr,mn,mx,w,rfl,g1,n,c,y,z,g6⟩:=hl.ch row (QjD e);have nf:=(H8 h g1).2.1;have nt:=(H8 h c).2.1;have bf:=Ye h (i:=f) (by omega);have bt:=Ye h (i:=t) (by omega);rw [Uv,Qc hj,QjG,Qe,e,YC e,QjQ];simp -implicitDefEqProofs only [Q0,QjB,QjF,Q3,Q0V h (show f<=X.Ls.length by omega),Q0V h (show t<=X.Ls.length by omega),Qq (show j<=1000 by omega),Qa6 (a:=base X.nr f) (b:=fr) (by omega),Qa6 (a:=base X.nr t) (b:=tr) (by omega),M9 (a:=base X.nr f+fr) (by omega),M9 (a:=base X.nr t+tr) (by omega),Qcf (a:=2*(base X.nr f+fr)) (by omega)];rw [XF (by simp;omega),Q0];rfl
  ·simp only [QjC];rw [Uv,Qi,cond_false,QjS]
 have s2:∀ k0:LL->oP R,ZY 400 X.Ls (X.T.map tuR) (fun _ _ w=>k0 w) 400 0 (Ch.map X.chE)=k0 (Ch.map X.chE++X.T.map X.tuE):=by
  intro k0;refine Qu (r:=fun m j=>ZY 400 X.Ls (X.T.map tuR) (fun _ _ w=>k0 w) m j (Ch.map X.chE++(X.T.take j.toNat).map X.tuE)) (N:=X.T.length) (fun m j hj=>?_) (fun m=>?_) X.T.length 400 0 (by omega) (by omega) |> Eq.trans (by simp)
  ·simp only [QjC];obtain ⟨⟨a,b,lo,hi⟩,e⟩:∃ q,X.T[j]? = some q:=⟨X.T[j],QjE hj⟩;have ht:=h.tr _ (QjD e);have g1:a<X.Ls.length:=ht.1;have c:b<X.Ls.length:=ht.2.1;have nf:=(H8 h g1).2.1;have bf:=Ye h (i:=a) (by omega);have bt:=Ye h (i:=b) (by omega);have aj:Q1 (X.T.map tuR) (j:Int)=some [Q4 a,Q4 b,Q4 lo,Q4 hi]:=QL e;have p:Ch.map X.chE++(X.T.take (j+1)).map X.tuE=Ch.map X.chE++(X.T.take j).map X.tuE++[X.tuE (a,b,lo,hi)]:=by rw [YC e,QjQ,<- QjJ];rfl
   have hw:wJ (((2*(base X.nr a+X.nr a):Nat):Int)-1)=((2*(base X.nr a+(X.nr a-1))+1:Nat):Int):=by rw [Q7 (by omega) (by omega)];omega
   have ha:wJ (((base X.nr a:Nat):Int)+(((GJ X.Ls a).length:Nat):Int))=((base X.nr a+X.nr a:Nat):Int):=Qa6 (a:=base X.nr a) (b:=X.nr a) (by omega);rw [ZY,List.length_map,Qc hj,QjG,aj,p];simp -implicitDefEqProofs only [Q0,QjB,QjF,Q3,QG,Q0V h (show a<=X.Ls.length by omega),Q0V h (show b<=X.Ls.length by omega),Qe,(H8 h g1).1,Qq (show j<=1000 by omega),ha,M9 (a:=base X.nr a+X.nr a) (by omega),M9 (a:=base X.nr b) (by omega),hw];rw [XF (by simp;omega),Q0];rfl
  ·simp only [QjC];rw [ZY,List.length_map,Qi,cond_false,QjS]
 have s:∀ k0:LL->oP R,Za 400 X.Ls Sy (fun _ _ w=>k0 w) 400 0 (Ch.map X.chE++X.T.map X.tuE)=k0 (Ch.map X.chE++X.T.map X.tuE++Sy.map X.syE):=by
  intro k0;refine Qu (r:=fun m j=>Za 400 X.Ls Sy (fun _ _ w=>k0 w) m j (Ch.map X.chE++X.T.map X.tuE++(Sy.take j.toNat).map X.syE)) (N:=Sy.length) (fun m j hj=>?_) (fun m=>?_) Sy.length 400 0 (by omega) (by omega) |> Eq.trans (by simp)
  ·simp only [QjC];obtain ⟨row,e⟩:∃ q,Sy[j]? = some q:=⟨Sy[j],QjE hj⟩;obtain ⟨o,rfl,g1,n,c⟩:=hl.sy row (QjD e);have bt:=Ye h (i:=1) (by omega);have k:=Q0V (R:=Int) h (show 0<=X.Ls.length by omega) some;have l:=Q0V (R:=Int) h (show 1<=X.Ls.length by omega) some;have a0:=Qa6 (a:=base X.nr 0) (b:=0) (by simp [base]);have a1:=Qa6 (a:=base X.nr 1) (b:=0) (by omega);simp only [show ((0:Nat):Int)=0 from rfl,show ((1:Nat):Int)=1 from rfl] at k l a0 a1;rw [Za,Qc hj,QjG,Qe,e,YC e,QjQ,<- QjJ];simp -implicitDefEqProofs only [Q0,QjB,QjF,Q3,k,l,a0,a1,Qq (show j<=1000 by omega),M9 (a:=base X.nr 0+0) (by simp [base]),M9 (a:=base X.nr 1+0) (by omega)];rw [XF (by simp;omega),Q0];rfl
  ·simp only [QjC];rw [Za,Qi,cond_false,QjS]
 rw [s1 (fun u=>ZY 400 X.Ls (X.T.map tuR) (fun ab ac d=>Za 400 X.Ls Sy (fun v x g=>K g) 400 0 d) 400 0 u),s2 (fun d=>Za 400 X.Ls Sy (fun v x g=>K g) 400 0 d),s]
end Cx
end Go.Vx
namespace Go.Vx
theorem QeP {α:Type} {J J':List α} (hJ:∀ t,t∈J↔t∈J') (p:α->Bool):J.any p=J'.any p:=by
 rw [Bool.eq_iff_iff,List.any_eq_true,List.any_eq_true];exact ⟨fun ⟨t,a,h2⟩=>⟨t,(hJ t).1 a,h2⟩,fun ⟨t,a,h2⟩=>⟨t,(hJ t).2 a,h2⟩⟩
theorem Qdo {α:Type} {J J':List α} (hJ:∀ t,t∈J↔t∈J') (p:α->Bool):J.all p=J'.all p:=by
 rw [Bool.eq_iff_iff,QjU,QjU];exact ⟨fun h t ht=>h t ((hJ t).2 ht),fun h t ht=>h t ((hJ t).1 ht)⟩
namespace Cx
variable {R:Type} {X:Cx} {per:Int} {Ch Sy De:LL}
theorem Q6I {J J':List Tup} (hJ:∀ t,t∈J↔t∈J'):X.netV per J Ch Sy=X.netV per J' Ch Sy:=by
 have e1:∀ a b,X.fil J a b=X.fil J' a b:=fun a b=>List.filter_congr fun o _=>by
  unfold TRb;rw [QeP hJ]
 have e2:∀ a b,X.WV per J a b=X.WV per J' a b:=fun a b=>by
  unfold WV;rw [e1,e1]
 have d:∀ a c b,X.hdw per J a c b=X.hdw per J' a c b:=fun a c=>by
  induction c with
  |zero=>exact fun _=>rfl
  |succ c ih=>intro b;rw [hdw,hdw,e2,ih]
 have e:∀ c a,X.hdws per J c a=X.hdws per J' c a:=fun c=>by
  induction c with
  |zero=>exact fun _=>rfl
  |succ c ih=>intro a;rw [hdws,hdws,d,ih]
 unfold netV aloneJ;rw [e,Qdo hJ]
variable (h:X.OK)
theorem QeR {a b:Nat} (ha:a<=100) (hb:b<=100) {W:List Sp2} (hW:W.length<=12) {k0:LL->oP R} {A:LL} (hA:A.length<=900):UD 400 (a:Int) (b:Int) (W.map Y7) (fun _ _ w=>k0 w) 400 0 A=k0 (A++W.map (Q7h a b)):=by
 refine Qu (r:=fun m j=>UD 400 (a:Int) (b:Int) (W.map Y7) (fun _ _ w=>k0 w) m j (A++(W.take j.toNat).map (Q7h a b))) (N:=W.length) (fun m j hj=>?_) (fun m=>?_) W.length 400 0 (by omega) (by omega) |> Eq.trans (by simp)
 ·simp only [QjC];obtain ⟨w,e⟩:∃ q,W[j]? = some q:=⟨W[j],QjE hj⟩;rw [UD,List.length_map,Qc hj,QjG,QL e,YC e,QjQ,<- QjJ];simp -implicitDefEqProofs only [Q0,Qaf,Q9K,Q3,Qq (show j<=1000 by omega),M9 (a:=a) (by omega),M9 (a:=b) (by omega)];rw [XF (by simp;omega),Q0];rfl
 ·simp only [QjC];rw [UD,List.length_map,Qi,cond_false,QjS]
include h
theorem Qb8 (p0:2<=per) (p1:per<=300) {J:List Tup} (hJ:X.JOK J) {a:Nat} (ha:a<X.N) {Ke:oP R} {K1:LL->oP R}:∀ (c m b:Nat) (A:LL),b+c=X.N->c<m->A.length+12*c<=900 ->
  Vt 400 (GH (X.occs X.L)) (J.map tuR) (a:Int) per Ke (fun _ _ w=>K1 w) m (b:Int) A=match X.hdw per J a c b with | none=>Ke | some H=>K1 (A++H)
 |0,m+1,b,A,hb,_,_=>by
  have aj:(GH (X.occs X.L)).length=X.N:=by rw [J4];exact Zv
  rw [Vt,aj,show decide ((b:Int)<((X.N:Nat):Int))=false from decide_eq_false (by omega),cond_false,hdw];simp only [QjX]
 |c+1,m+1,b,A,hb,hm,hA=>by
  have aj:(GH (X.occs X.L)).length=X.N:=by rw [J4];exact Zv
  have hN:X.N<=6:=base_le h;have hw:=Q1u h p0 p1 (J:=J) ha (show b<X.N by omega);rw [Vt,aj,show decide ((b:Int)<((X.N:Nat):Int))=true from QjO (by omega),QjG,Q5c h hJ ha,Q5c h hJ (show b<X.N by omega)];simp -implicitDefEqProofs only [Q0,hw.2.1,Qq (show b<=1000 by omega),hdw];cases ew:X.WV per J a b with
  |none=>rfl
  |some W=>
   have hl:=hw.2.2 W ew;simp -implicitDefEqProofs only [Qf2];rw [Q9 (by rfl),QeR (by omega) (by omega) hl (by omega),Qb8 p0 p1 hJ ha c m (b+1) _ (by omega) (by omega) (by simp;omega)];cases X.hdw per J a c (b+1) with
   |none=>rfl
   |some H=>simp -implicitDefEqProofs only [Option.map_some,QjJ]
theorem Qb5 (p0:2<=per) (p1:per<=300) {J:List Tup} (hJ:X.JOK J) {Ke:oP R} {K1:LL->oP R}:∀ (c m a:Nat) (A:LL),a+c=X.N->c<m->A.length+72*c<=900 ->
  Uz 400 (GH (X.occs X.L)) (J.map tuR) per Ke (fun _ _ w=>K1 w) m (a:Int) A=match X.hdws per J c a with | none=>Ke | some H=>K1 (A++H)
 |0,m+1,a,A,ha,_,_=>by
  have aj:(GH (X.occs X.L)).length=X.N:=by rw [J4];exact Zv
  rw [Uz,aj,show decide ((a:Int)<((X.N:Nat):Int))=false from decide_eq_false (by omega),cond_false,hdws];simp only [QjX]
 |c+1,m+1,a,A,ha,hm,hA=>by
  have aj:(GH (X.occs X.L)).length=X.N:=by rw [J4];exact Zv
  have hN:X.N<=6:=base_le h;rw [Uz,aj,show decide ((a:Int)<((X.N:Nat):Int))=true from QjO (by omega),QjG,Qq (show a<=1000 by omega),Qb8 h p0 p1 hJ (show a<X.N by omega) (Ke:=Ke) (K1:=fun A=>Uz 400 (GH (X.occs X.L)) (J.map tuR) per Ke (fun _ _ w=>K1 w) m ((a+1:Nat):Int) A) c 400 (a+1) A (by omega) (by omega) (by omega),hdws];cases eh:X.hdw per J a c (a+1) with
  |none=>rfl
  |some H=>
   have:=Q13 h p0 p1 (J:=J) (show a<X.N by omega) (c:=c) (b:=a+1) (by omega) eh;dsimp only;rw [Qb5 p0 p1 hJ c m (a+1) (A++H) (by omega) (by omega) (by simp;omega)];cases X.hdws per J c (a+1) with
   |none=>rfl
   |some H'=>simp -implicitDefEqProofs only [Option.map_some,QjJ]
theorem QbC (p0:2<=per) (p1:per<=300) {k0 E:oP R} {k1:Int->Bool->oP R} (hk:∀ a b,k1 a b=E):UH 400 (GH (X.occs X.L)) per k0 k1 400 0=bif (X.occs X.L).all (fun o=>o.all (MA per)) then E else k0:=by
 have hN:X.N<=6:=base_le h;have ak:(X.occs X.L).length=X.N:=Zv;refine Tg (r:=fun m i=>UH 400 (GH (X.occs X.L)) per k0 k1 m i) (fun m i o e hi=>?_) (fun m=>?_) (by omega)
 ·have ho:=Q95 h o (QjD e);have aj:Q1 (GH (X.occs X.L)) (i:Int)=some [D.sl 3 (o.map enc)]:=QL e;rw [UH,J4,Qc hi,QjG,aj];simp -implicitDefEqProofs only [Q0,QjB,QG,QdS (show 1<=per by omega) (show per<=7200 by omega) ho.1 (show o.length<=300 by omega),Qq (show i<=1000 by omega)];cases o.all (MA per) <;> rfl
 ·rw [UH,J4,Qi,cond_false,hk]
theorem Qcq {J:List Tup} (hJ:X.JOK J) {k0 E:oP R} {k1:Int->Bool->oP R} (hk:∀ a b,k1 a b=E):UJ 400 (GH (X.occs X.L)) (J.map tuR) per k0 k1 400 0=bif J.all (fun t=>!Q8a per t.2.2.1 t.2.2.2 (X.occN t.1) (X.occN t.2.1)) then E else k0:=by
 have ak:=hJ.len;refine Tg (r:=fun m i=>UJ 400 (GH (X.occs X.L)) (J.map tuR) per k0 k1 m i) (fun m i t e hi=>?_) (fun m=>?_) (by omega)
 ·rw [UJ,List.length_map,Qc hi,QjG,QL e];simp -implicitDefEqProofs only [Q0,tuR,QjB,QjF,Q3,Qq (show i<=1000 by omega),Qel h hJ (QjD e)];cases Q8a per t.2.2.1 t.2.2.2 (X.occN t.1) (X.occN t.2.1) <;> rfl
 ·rw [UJ,List.length_map,Qi,cond_false,hk]
theorem buildR (hl:X.LsOK per Ch Sy) (p0:2<=per) (p1:per<=300) (hc:Ul 400 X.G.St X.G.Pt X.G.Se X.G.Li per X.skR X.Ro X.Ls Ch (X.T.map tuR) Sy De (some:Int->Option Int)=some 0) :
  T8 400 X.G.St X.G.Pt X.G.Se X.G.Li per X.skR X.Ro X.Ls Ch (X.T.map tuR) Sy De Tu4=some (X.netV per X.jns Ch Sy):=by
 have hN:X.N<=6:=base_le h;have ak:(X.occs X.L).length=X.N:=Zv;have ao:=planned_len h hl;have hJ:=QdN h;have aj:(X.pls X.L++(Ch.map X.chE++X.T.map X.tuE++Sy.map X.syE))=X.planned Ch Sy:=by unfold planned;simp only [QjJ]
 rw [<- Q6I fun t=>Q1X h (t:=t)];unfold T8 netV;rw [Qen h hc,Q0,Q9 (by rfl)];dsimp only;rw [J4,ak,M9 (by omega),Q9 (decide_eq_false (by omega)),QbC h p0 p1 (fun _ _=>rfl)];unfold aloneJ;cases (X.occs X.L).all (fun o=>o.all (MA per))
 ·rfl
 rw [QjG,QjG,QeM h,Q0,Qcq h hJ (fun _ _=>rfl)];cases (X.jnsR X.L).all (fun t=>!Q8a per t.2.2.1 t.2.2.2 (X.occN t.1) (X.occN t.2.1))
 ·rfl
 rw [QjG,QjG];refine (QbX h _).trans ?_;rw [QdV h,Qf0 h hl,Q0,Q0,XF (by rw [<- List.length_append,aj];omega),Q0,aj];refine (Qb5 h p0 p1 hJ (Ke:=some ((0:Int),([]:LL),([]:LL),(13:Int))) (K1:=fun a=>bif decide (((List.length a:Nat):Int)>512) then some (0,[],[],7) else some (per,X.evs X.L,a,0)) X.N 400 0 (X.planned Ch Sy) (by omega) (by omega) (by omega)).trans ?_;cases eh:X.hdws per (X.jnsR X.L) X.N 0 with
 |none=>rfl
 |some H=>
  have:=hdws_len h p0 p1 (by omega) eh;dsimp only;rw [Q9 (decide_eq_false (by rw [List.length_append];omega))]
end Cx
end Go.Vx
namespace Go.Vx
variable {R:Type}
def G8 (n:Nat) (b:Int) (a c:LL) (a1:Int) (K:Bool->oP R):oP R:= K (bif decide (a1>=0) then (decide (a1<(a.length:Int))) else false)
end Go.Vx
namespace Go.Vx
variable {R:Type}
def U7 (n:Nat) (p:LL) (h2 e:Int) (h i:LL) (k0:oP R) (k1:Int->Bool->oP R):Nat->Int->oP R
 | 0,_=>none
 | m+1,c=>bif decide (c<h2) then gb true (Q1 p c) [] fun a=>gb true (a[0]?) oF fun ac=>gb true (a[1]?) oF fun q=>gb true (a[2]?) oF fun r=>gb true (a[3]?) oF fun j=>gb true (a[4]?) oF fun k=>gb true (a[5]?) oF fun s=>gb true (pIw q) 0 fun u=>gb true (G8 n e h i u some) false fun d=>gb (!(!d)) (pIw r) 0 fun v=>gb (!(!d)) (G8 n e h i v some) false fun l=>gb (!(bif !d then true else (!l))) (pIw q) 0 fun x=>gb (!(bif !d then true else (!l))) (pIw r) 0 fun y=>bif (bif (bif !d then true else (!l)) then true else (x == y)) then k0 else gb true (pIw j) 0 fun b=>gb (!(decide (b<(-65536:Int)))) (pIw j) 0 fun f=>gb (!(decide (b<(-65536:Int)))) (pIw k) 0 fun g=>gb (!(bif (decide (b<(-65536:Int))) then true else (decide (f>g)))) (pIw k) 0 fun o=>gb (!(bif (bif (decide (b<(-65536:Int))) then true else (decide (f>g))) then true else (decide (o>65536)))) (pIw k) 0 fun z=>gb (!(bif (bif (decide (b<(-65536:Int))) then true else (decide (f>g))) then true else (decide (o>65536)))) (pIw j) 0 fun aa=>bif (bif (bif (bif (decide (b<(-65536:Int))) then true else (decide (f>g))) then true else (decide (o>65536))) then true else (decide ((wJ (z-aa))>=e))) then k0 else gb true (pIw s) 0 fun t=>gb (!(decide (t<0))) (pIw s) 0 fun ab=>bif (bif decide (t<0) then true else (decide (ab>1048576))) then k0 else U7 n p h2 e h i k0 k1 m (wJ (c+1)) else k1 c (decide (c<h2))
def T0 (n:Nat) (b:Int) (c a:LL) (K:Bool->oP R):oP R:= bif (bif (bif (bif decide (b<2) then true else (decide (b>7200))) then true else (decide ((c.length:Int)>48))) then true else (decide ((a.length:Int)>512))) then K false else U7 n a (a.length:Int) b c a (K false) (fun d e=>K true) n 0
end Go.Vx
namespace Go.Vx
variable {R:Type}
def V2 (n:Nat) (h2:LL) (b c:Int) (k0:oP R) (k1:Int->Bool->oP R):Nat->Int->oP R
 | 0,_=>none
 | m+1,a=>bif decide (a<b) then gb true (Q1 h2 a) [] fun e=>gb true (e[0]?) oF fun f=>gb true (pIw f) 0 fun d=>bif (bif decide (d<0) then true else (decide (d>=c))) then k0 else V2 n h2 b c k0 k1 m (wJ (a+1)) else k1 a (decide (a<b))
def JU (n:Nat) (a:Int) (b c a1:LL) (K:Bool->oP R):oP R:= gb true (T0 n a b c some) false fun d=>bif (bif !d then true else ((a1.length:Int) != (b.length:Int))) then K false else V2 n a1 (a1.length:Int) a (K false) (fun e f=>K true) n 0
end Go.Vx
namespace Go.Vx
variable {R:Type}
def HP (n:Nat) (a0 a1 a2:Int) (K:Bool->oP R):oP R:= K (bif decide (a0>=a1) then (decide (a0<=a2)) else false)
end Go.Vx
namespace Go.Vx
variable {R:Type}
def Vu (n:Nat) (j:Int) (l k:LL) (k0:oP R) (k1:Int->Bool->oP R):Nat->Int->oP R
 | 0,_=>none
 | m+1,h2=>bif (decide (h2<(k.length:Int))) then gb true (Q1 k h2) [] fun g=>gb true (g[0]?) oF fun aa=>gb true (g[1]?) oF fun s=>gb true (g[2]?) oF fun t=>gb true (g[3]?) oF fun o=>gb true (g[4]?) oF fun p=>gb true (g[5]?) oF fun u=>gb true (pIw s) 0 fun v=>gb true (HP n v 0 (wJ ((l.length:Int)-1)) some) false fun a=>gb (!(!a)) (pIw t) 0 fun x=>gb (!(!a)) (HP n x 0 (wJ ((l.length:Int)-1)) some) false fun b=>gb (!(bif !a then true else (!b))) (pIw s) 0 fun c=>gb (!(bif !a then true else (!b))) (pIw t) 0 fun d=>gb (!(bif (bif !a then true else (!b)) then true else (c == d))) (pIw o) 0 fun e=>gb (!(bif (bif (bif !a then true else (!b)) then true else (c == d)) then true else (decide (e<(-65536:Int))))) (pIw p) 0 fun f=>gb (!(bif (bif (bif (bif !a then true else (!b)) then true else (c == d)) then true else (decide (e<(-65536:Int)))) then true else (decide (f>65536)))) (pIw o) 0 fun h=>gb (!(bif (bif (bif (bif !a then true else (!b)) then true else (c == d)) then true else (decide (e<(-65536:Int)))) then true else (decide (f>65536)))) (pIw p) 0 fun i=>gb (!(bif (bif (bif (bif (bif !a then true else (!b)) then true else (c == d)) then true else (decide (e<(-65536:Int)))) then true else (decide (f>65536))) then true else (decide (h>i)))) (pIw p) 0 fun q=>gb (!(bif (bif (bif (bif (bif !a then true else (!b)) then true else (c == d)) then true else (decide (e<(-65536:Int)))) then true else (decide (f>65536))) then true else (decide (h>i)))) (pIw o) 0 fun r=>gb (!(bif (bif (bif (bif (bif (bif !a then true else (!b)) then true else (c == d)) then true else (decide (e<(-65536:Int)))) then true else (decide (f>65536))) then true else (decide (h>i))) then true else (decide ((wJ (q-r))>=j)))) (pIw u) 0 fun y=>gb (!(bif (bif (bif (bif (bif (bif !a then true else (!b)) then true else (c == d)) then true else (decide (e<(-65536:Int)))) then true else (decide (f>65536))) then true else (decide (h>i))) then true else (decide ((wJ (q-r))>=j)))) (HP n y 0 1048576 some) false fun z=>bif (bif (bif (bif (bif (bif (bif (bif !a then true else (!b)) then true else (c == d)) then true else (decide (e<(-65536:Int)))) then true else (decide (f>65536))) then true else (decide (h>i))) then true else (decide ((wJ (q-r))>=j))) then true else (!z)) then k0 else Vu n j l k k0 k1 m (wJ (h2+1)) else k1 h2 (decide (h2<(k.length:Int)))
def Ur (n:Nat) (a:Int) (b c:LL) (K:Bool->oP R):oP R:= gb true (HP n a 2 7200 some) false fun d=>bif (bif (bif !d then true else (decide ((b.length:Int)>48))) then true else (decide ((c.length:Int)>512))) then K false else Vu n a b c (K false) (fun e f=>K true) n 0
end Go.Vx
namespace Go.Vx
variable {R:Type}
def J8 (n:Nat) (h2:LL) (b:Int) (k0:oP R) (k1:Int->Bool->oP R):Nat->Int->oP R
 | 0,_=>none
 | m+1,a=>bif (decide (a<(h2.length:Int))) then gb true (Q1 h2 a) [] fun c=>gb true (c[0]?) oF fun d=>gb true (pIw d) 0 fun e=>gb true (HP n e 0 (wJ (b-1)) some) false fun f=>bif !f then k0 else J8 n h2 b k0 k1 m (wJ (a+1)) else k1 a (decide (a<(h2.length:Int)))
def NB (n:Nat) (a:Int) (b c a1:LL) (K:Bool->oP R):oP R:= gb true (Ur n a b c some) false fun d=>bif (bif !d then true else ((a1.length:Int) != (b.length:Int))) then K false else J8 n a1 a (K false) (fun e f=>K true) n 0
end Go.Vx
namespace Go.Vx
def R6 (row:List D):Prop:=∃ kd f t mn mx w:Int,row=[Q4 kd,Q4 f,Q4 t,Q4 mn,Q4 mx,Q4 w]
def chk (per:Int) (e:Nat):List D->Bool
 |[_,.int _ f,.int _ t,.int _ mn,.int _ mx,.int _ w]=>!(bif bif !(bif decide (f>=0) then decide (f<(e:Int)) else false) then true else !(bif decide (t>=0) then decide (t<(e:Int)) else false) then true else f == t)&&(!(bif bif bif decide (mn < -65536) then true else decide (mn>mx) then true else decide (mx>65536) then true else decide (wJ (mx-mn)>=per))&&!(bif decide (w<0) then true else decide (w>1048576)))
 |_=>false
theorem Q4F {per:Int} {e:Nat} {kd f t mn mx w:Int} (h:chk per e [Q4 kd,Q4 f,Q4 t,Q4 mn,Q4 mx,Q4 w]=true):0<=f/\f<e/\0<=t/\t<e /\ -65536<=mn/\mn<=mx/\mx<=65536:=by
 simp only [chk,Bool.cond_true_left,Bool.cond_false_right,QjT,Bool.not_eq_true',Bool.or_eq_false_iff,Bool.not_eq_false',decide_eq_true_eq,decide_eq_false_iff_not,beq_eq_false_iff_ne] at h;omega
section
variable {per:Int} {E A:LL} (p0:2<=per) (p1:per<=300) (hE:E.length<=48) (hA:A.length<=512) (hr:∀ r∈A,R6 r)
include p0 p1 hE hA hr
theorem QdP (hl:A.length<400):T0 400 per E A some=some (A.all (chk per E.length)):=by
 unfold T0;rw [show decide (per<2)=false from decide_eq_false (by omega),show decide (per>7200)=false from decide_eq_false (by omega),show decide (((E.length:Nat):Int)>48)=false from decide_eq_false (by omega),show decide (((A.length:Nat):Int)>512)=false from decide_eq_false (by omega)];simp -implicitDefEqProofs only [cond_false];refine (Tg (r:=fun m i=>U7 400 A ((A.length:Nat):Int) per E A (some false) (fun _ _=>some true) m i) (l:=A) (p:=chk per E.length) (E0:=some false) (E1:=some true) (fun m i q e hi=>?_) (fun m=>?_) (fuel:=400) (by omega)).trans (by cases A.all (chk per E.length) <;> rfl)
 ·obtain ⟨kd,f,t,mn,mx,w,rfl⟩:=hr q (QjD e);rw [U7,Qc hi,QjG,Qe,e];unfold G8;simp -implicitDefEqProofs only [Q0,QjB,QjF,Q3,Qq (show i<=1000 by omega)];dsimp only [chk];cases (bif bif !(bif decide (f>=0) then decide (f<(E.length:Int)) else false) then true else !(bif decide (t>=0) then decide (t<(E.length:Int)) else false) then true else f == t)
  ·cases (bif bif bif decide (mn < -65536) then true else decide (mn>mx) then true else decide (mx>65536) then true else decide (wJ (mx-mn)>=per))
   ·cases (bif decide (w<0) then true else decide (w>1048576)) <;> rfl
   ·rfl
  ·rfl
 ·rw [U7,Qi,cond_false]
theorem Qb9 (hl:A.length<400):Ur 400 per E A some=some (A.all (chk per E.length)):=by
 unfold Ur HP;rw [show decide (per>=2)=true from QjO (by omega),show decide (per<=7200)=true from QjO (by omega),show decide (((E.length:Nat):Int)>48)=false from decide_eq_false (by omega),show decide (((A.length:Nat):Int)>512)=false from decide_eq_false (by omega)];simp -implicitDefEqProofs only [cond_false,QjG,Q0,QjP];refine (Tg (r:=fun m i=>Vu 400 per E A (some false) (fun _ _=>some true) m i) (l:=A) (p:=chk per E.length) (E0:=some false) (E1:=some true) (fun m i q e hi=>?_) (fun m=>?_) (fuel:=400) (by omega)).trans (by cases A.all (chk per E.length) <;> rfl)
 ·obtain ⟨kd,f,t,mn,mx,w,rfl⟩:=hr q (QjD e);rw [Vu,Qc hi,QjG,Qe,e];unfold HP;simp -implicitDefEqProofs only [Q0,QjB,QjF,Q3,Qq (show i<=1000 by omega),Q7 (x:=((E.length:Nat):Int)-1) (by omega) (by omega)];have sw:∀ (c d:Bool) (x y:Option Bool),c = !d->(bif c then x else y)=bif d then y else x:=fun c d x y h=>by rw [h];cases d <;> rfl
  refine sw _ _ _ _ ?_;rw [Bool.eq_iff_iff];simp only [chk,Bool.cond_true_left,Bool.cond_false_right,QjT,Bool.or_eq_true,Bool.not_eq_true',Bool.and_eq_false_iff,Bool.or_eq_false_iff,Bool.not_eq_false',decide_eq_true_eq,decide_eq_false_iff_not,beq_eq_false_iff_ne,beq_iff_eq];omega
 ·rw [Vu,Qi,cond_false]
def Q6z (per:Int) (E A:LL) (tl:List Int):Bool:=bif (bif !(A.all (chk per E.length)) then true else ((tl.length:Nat):Int) != ((E.length:Nat):Int)) then false else tl.all fun x=>!(bif decide (x<0) then true else decide (x>=per))
theorem Qei (hl:A.length<400) {tl:List Int}:JU 400 per E A (encI tl) some=some (Q6z per E A tl)/\NB 400 per E A (encI tl) some=some (Q6z per E A tl):=by
 have ca:=QdP p0 p1 hE hA hr hl;have cb:=Qb9 p0 p1 hE hA hr hl;have aj:(encI tl).length=tl.length:=Xg tl;unfold JU NB Q6z;rw [ca,cb,Q0,Q0,aj];cases hc:(bif !(A.all (chk per E.length)) then true else ((tl.length:Nat):Int) != ((E.length:Nat):Int)) with
 |true=>exact ⟨rfl,rfl⟩
 |false=>
  have ak:tl.length=E.length:=by
   cases a : !(A.all (chk per E.length)) with
   |true=>rw [a] at hc;cases hc
   |false=>
    rw [a,cond_false] at hc;have:((tl.length:Nat):Int)=((E.length:Nat):Int):=by simpa using hc
    omega
  rw [cond_false,cond_false,cond_false];constructor
  ·refine (Tg (r:=fun m i=>V2 400 (encI tl) ((tl.length:Nat):Int) per (some false) (fun _ _=>some true) m i) (l:=tl) (p:=fun x=>!(bif decide (x<0) then true else decide (x>=per))) (E0:=some false) (E1:=some true) (fun m i q e hi=>?_) (fun m=>?_) (fuel:=400) (by omega)).trans (by cases tl.all _ <;> rfl)
   ·rw [V2,Qc hi,QjG,HM e];simp -implicitDefEqProofs only [Q0,QjB,Q3,Qq (show i<=1000 by omega)];cases (bif decide (q<0) then true else decide (q>=per)) <;> rfl
   ·rw [V2,Qi,cond_false]
  ·refine (Tg (r:=fun m i=>J8 400 (encI tl) per (some false) (fun _ _=>some true) m i) (l:=tl) (p:=fun x=>!(bif decide (x<0) then true else decide (x>=per))) (E0:=some false) (E1:=some true) (fun m i q e hi=>?_) (fun m=>?_) (fuel:=400) (by omega)).trans (by cases tl.all _ <;> rfl)
   ·rw [J8,aj,Qc hi,QjG,HM e];unfold HP;simp -implicitDefEqProofs only [Q0,QjB,Q3,Qq (show i<=1000 by omega),Q7 (x:=per-1) (by omega) (by omega)];by_cases a:q<0
    ·rw [show decide (q>=0)=false from decide_eq_false (by omega),show decide (q<0)=true from QjO a];rfl
    ·rw [show decide (q>=0)=true from QjO (by omega),show decide (q<0)=false from decide_eq_false a];by_cases h2:q>=per
     ·rw [show decide (q<=per-1)=false from decide_eq_false (by omega),show decide (q>=per)=true from QjO h2];rfl
     ·rw [show decide (q<=per-1)=true from QjO (by omega),show decide (q>=per)=false from decide_eq_false h2];rfl
   ·rw [J8,aj,Qi,cond_false]
end
theorem NX {w:List Int} {i:Nat} {v:Int}:(encI w).set i [Q4 v]=encI (w.set i v):=by
 unfold encI;rw [List.map_set]
end Go.Vx
namespace Go.Vx
variable {R:Type}
def Gx (n:Nat) (c:Int) (k0:Int->Bool->LL->oP R):Nat->Int->LL->oP R
 | 0,_,_=>none
 | m+1,a,b=>bif decide (a<c) then gb true (inB (b.length) a) () fun e=>gb true (b[a.toNat]?) [] fun d=>Gx n c k0 m (wJ (a+1)) (List.set b a.toNat (List.set d 0 (Q4 (-1:Int)))) else k0 a (decide (a<c)) b
def Ge (n:Nat) (f:LL) (d:Int) (k0:Int->Bool->LL->oP R):Nat->Int->LL->oP R
 | 0,_,_=>none
 | m+1,a,b=>bif decide (a<d) then gb true (Q1 f a) [] fun c=>gb true (c[0]?) oF fun g=>gb true (c[1]?) oF fun i=>gb true (c[2]?) oF fun j=>gb true (c[3]?) oF fun k=>gb true (pIw g) 0 fun e=>gb true (inB (b.length) e) () fun l=>gb true (b[e.toNat]?) [] fun h=>Ge n f d k0 m (wJ (a+1)) (List.set b e.toNat (List.set h 0 (Q4 a))) else k0 a (decide (a<d)) b
def Zm (n:Nat) (a b:LL) (K:LL->oP R):oP R:= gb true (bif decide (0<=(a.length:Int))&&decide ((a.length:Int)<=(a.length:Int)) then some () else none) () fun e=>gb true (Yf (Int.toNat (a.length:Int)*8)) () fun u2=>Gx n ((List.length (List.replicate (Int.toNat (a.length:Int)) [Q4 0]):Nat):Int) (fun f g c=>Ge n b (b.length:Int) (fun h i d=>K d) n 0 c) n 0 (List.replicate (Int.toNat (a.length:Int)) [Q4 0])
end Go.Vx
namespace Go.Vx
variable {R:Type}
def XC (n:Nat) (c e:LL) (k0:Int->Bool->LL->LL->oP R):Nat->Int->LL->LL->oP R
 | 0,_,_,_=>none
 | m+1,a,d,b=>gb true (inB (b.length) a) () fun u=>gb true (b[a.toNat]?) [] fun h=>gb true (h[0]?) oF fun i=>gb true (Kl i) false fun f=>bif !f then gb true (inB (b.length) a) () fun v=>gb true (b[a.toNat]?) [] fun g=>gb true (Yf ((d.length+[[Q4 a]].length)*8)) () fun x=>gb true (Q1 c a) [] fun j=>gb true (j[0]?) oF fun k=>gb true (pIw k) 0 fun l=>bif decide (l>=0) then gb true (Q1 c a) [] fun o=>gb true (o[0]?) oF fun p=>gb true (pIw p) 0 fun q=>gb true (Q1 e q) [] fun r=>gb true (r[1]?) oF fun s=>gb true (pIw s) 0 fun t=>XC n c e k0 m t (d++[[Q4 a]]) (List.set b a.toNat (List.set g 0 (D.bool true))) else XC n c e k0 m a (d++[[Q4 a]]) (List.set b a.toNat (List.set g 0 (D.bool true))) else k0 a (!f) d b
def YE (n:Nat) (a0:Int) (a1:Bool) (c d e a:LL) (K:LL->LL->oP R):oP R:= XC n d e (fun g h b f=>gb true (Yf ((a.length+[[D.sl 1 b,D.bool a1]].length)*32)) () fun i=>K f (a++[[D.sl 1 b,D.bool a1]])) n a0 [] c
end Go.Vx
namespace Go.Vx
variable {R:Type}
def V9 (n:Nat) (a:LL) (i:Bool) (b:LL) (j:Bool) (K:Int->oP R):oP R:= gb true (Q1 a 0) [] fun c=>gb true (c[0]?) oF fun d=>gb true (pIw d) 0 fun i3=>gb true (Q1 b 0) [] fun e=>gb true (e[0]?) oF fun f=>gb true (pIw f) 0 fun g=>gb true (VV n i3 g some) 0 fun h=>K h
end Go.Vx
namespace Go.Vx
variable {R:Type}
def QQ (n:Nat) (b:Int) (k0:Int->Bool->LL->oP R):Nat->Int->LL->oP R
 | 0,_,_=>none
 | m+1,a,c=>gb (decide (a>b)) (inB (c.length) a) () fun z=>gb (decide (a>b)) (c[a.toNat]?) [] fun g=>gb (decide (a>b)) (g[0]?) oF fun l=>gb (decide (a>b)) (g[1]?) oF fun o=>gb (decide (a>b)) (inB (c.length) (wJ (a-1))) () fun aa=>gb (decide (a>b)) (c[(Int.toNat (wJ (a-1)))]?) [] fun h=>gb (decide (a>b)) (h[0]?) oF fun p=>gb (decide (a>b)) (h[1]?) oF fun q=>gb (decide (a>b)) (pSl 1 l) [] fun r=>gb (decide (a>b)) (Kl o) false fun s=>gb (decide (a>b)) (pSl 1 p) [] fun t=>gb (decide (a>b)) (Kl q) false fun u=>gb (decide (a>b)) (V9 n r s t u some) 0 fun i=>bif (bif decide (a>b) then (decide (i<0)) else false) then gb true (inB (c.length) (wJ (a-1))) () fun ab=>gb true (c[(Int.toNat (wJ (a-1)))]?) [] fun j=>gb true (j[0]?) oF fun d=>gb true (j[1]?) oF fun e=>gb true (inB (c.length) a) () fun ac=>gb true (c[a.toNat]?) [] fun k=>gb true (k[0]?) oF fun v=>gb true (k[1]?) oF fun x=>gb true (inB (c.length) a) () fun ad=>gb true (c[a.toNat]?) [] fun f=>gb true (inB (List.length (List.set c a.toNat (List.set (List.set f 0 d) 1 e))) (wJ (a-1))) () fun ae=>gb true ((List.set c a.toNat (List.set (List.set f 0 d) 1 e))[(Int.toNat (wJ (a-1)))]?) [] fun y=>QQ n b k0 m (wJ (a-1)) (List.set (List.set c a.toNat (List.set (List.set f 0 d) 1 e)) (Int.toNat (wJ (a-1))) (List.set (List.set y 0 v) 1 x)) else k0 a (bif decide (a>b) then (decide (i<0)) else false) c
def QR (n:Nat) (b h2:Int) (k0:Int->Bool->LL->oP R):Nat->Int->LL->oP R
 | 0,_,_=>none
 | m+1,a,c=>bif decide (a<h2) then QQ n b (fun e f d=>QR n b h2 k0 m (wJ (a+1)) d) n a c else k0 a (decide (a<h2)) c
def XU (n:Nat) (a:LL) (a1 a2:Int) (K:LL->oP R):oP R:= QR n a1 a2 (fun c d b=>K b) n (wJ (a1+1)) a
end Go.Vx
namespace Go.Vx
variable {R:Type}
def Y5 (n:Nat) (a h2 d:Int) (b:LL) (k0:LL->oP R):Nat->oP R
 | 0=>none
 | m+1=>bif (decide ((wJ (h2-a))<=12)) then gb true (XU n b a h2 some) [] fun c=>gb true (He c (b.length)) () fun e=>k0 c else bif (d == 0) then none else bif !true then none else none
def Yo (n:Nat) (a:LL) (a1 a2 b:Int) (K:LL->oP R):oP R:= Y5 n a1 a2 b a (fun c=>K c) n
end Go.Vx
namespace Go.Vx
variable {R:Type}
def Xn (n:Nat) (a:LL) (K:LL->oP R):oP R:= gb true (G4 n (IntKind.wrap .u64 (a.length:Int)) some) 0 fun c=>gb true (Yo n a 0 (a.length:Int) c some) [] fun b=>gb true (He b (a.length)) () fun u3=>K b
end Go.Vx
namespace Go.Vx
variable {R:Type}
def VD (n:Nat) (f:LL) (d:Int) (k0:Int->Bool->LL->oP R):Nat->Int->LL->oP R
 | 0,_,_=>none
 | m+1,a,b=>bif decide (a<d) then gb true (Q1 f a) [] fun c=>gb true (c[0]?) oF fun i=>gb true (c[1]?) oF fun g=>gb true (c[2]?) oF fun j=>gb true (c[3]?) oF fun k=>gb true (pIw g) 0 fun e=>gb true (inB (b.length) e) () fun l=>gb true (b[e.toNat]?) [] fun h=>VD n f d k0 m (wJ (a+1)) (List.set b e.toNat (List.set h 0 (D.bool true))) else k0 a (decide (a<d)) b
def WO (n:Nat) (b:Int) (d e c:LL) (k0:Int->Bool->LL->LL->oP R):Nat->Int->LL->LL->oP R
 | 0,_,_,_=>none
 | m+1,a,f,g=>bif decide (a<b) then gb true (inB (c.length) a) () fun p=>gb true (c[a.toNat]?) [] fun i=>gb true (i[0]?) oF fun j=>gb true (Kl j) false fun k=>bif !k then gb true (YE n a false f e d g Tu2) ([],[]) fun h=>WO n b d e c k0 m (wJ (a+1)) h.1 h.2 else WO n b d e c k0 m (wJ (a+1)) f g else k0 a (decide (a<b)) f g
def WM (n:Nat) (c:Int) (d e:LL) (k0:Int->Bool->LL->LL->oP R):Nat->Int->LL->LL->oP R
 | 0,_,_,_=>none
 | m+1,a,b,f=>bif decide (a<c) then gb true (inB (b.length) a) () fun o=>gb true (b[a.toNat]?) [] fun h=>gb true (h[0]?) oF fun i=>gb true (Kl i) false fun j=>bif !j then gb true (YE n a true b e d f Tu2) ([],[]) fun g=>WM n c d e k0 m (wJ (a+1)) g.1 g.2 else WM n c d e k0 m (wJ (a+1)) b f else k0 a (decide (a<c)) b f
def XH (n:Nat) (a b:LL) (K:LL->oP R):oP R:= gb true (Zm n a b some) [] fun c=>gb true (bif decide (0<=(a.length:Int))&&decide ((a.length:Int)<=(a.length:Int)) then some () else none) () fun u2=>gb true (Yf (Int.toNat (a.length:Int)*1)) () fun u3=>VD n b (b.length:Int) (fun i j f=>gb true (bif decide (0<=(a.length:Int))&&decide ((a.length:Int)<=(a.length:Int)) then some () else none) () fun k=>gb true (Yf (Int.toNat (a.length:Int)*1)) () fun l=>WO n (a.length:Int) b c f (fun m o g h=>WM n (a.length:Int) b c (fun p q r d=>gb true (Xn n d some) [] fun e=>gb true (He e (d.length)) () fun s=>K e) n 0 g h) n 0 (List.replicate (Int.toNat (a.length:Int)) [D.bool false]) []) n 0 (List.replicate (Int.toNat (a.length:Int)) [D.bool false])
end Go.Vx
namespace Go.Vx
def Q5u (l:List Nat):LL:=l.map fun i:Nat=>[Q4 (i:Int)]
def Qbn (rs:List (List Nat × Bool)):LL:=rs.map fun r=>[D.sl 1 (Q5u r.1),D.bool r.2]
def Qhu (l:LL):List Nat:=l.map fun r=>match r with | [.int _ x]=>x.toNat | _=>0
def Qe0 (a:LL):List (List Nat × Bool):=a.map fun r=>match r with | [.sl _ l,.bool c]=>(Qhu l,c) | _=>([],false)
def eqI:LL->LL->Bool
 |[],[]=>true
 |[.int .i64 x]::a,[.int .i64 y]::b=>decide (x=y)&&eqI a b
 |_,_=>false
def eqR:LL->LL->Bool
 |[],[]=>true
 |[.sl 1 l,.bool c]::a,[.sl 1 l',.bool c']::b=>eqI l l'&&(c == c'&&eqR a b)
 |_,_=>false
theorem QaY:∀ {a b:LL},eqI a b=true->a=b:=by
 intro a b;induction a,b using eqI.induct with
 |case1=>exact fun _=>rfl
 |case2 x a y b ih=>
  intro h;rw [eqI,QjT,decide_eq_true_eq] at h;rw [h.1,ih h.2]
 |case3 a b c h2=>intro h;rw [eqI] at h <;> first | cases h | assumption
theorem QdA:∀ {a b:LL},eqR a b=true->a=b:=by
 intro a b;induction a,b using eqR.induct with
 |case1=>exact fun _=>rfl
 |case2 l c a l' c' b ih=>
  intro h;rw [eqR,QjT,QjT,beq_iff_eq] at h;rw [QaY h.1,h.2.1,ih h.2.2]
 |case3 a b d h2=>intro h;rw [eqR] at h <;> first | cases h | assumption
def tix (T:List Tup) (i:Nat):Int:=match T.findIdx? fun t=>t.1 == i with
 |some j=>(j:Int)
 |none => -1
def Q3w:List (List Nat × Bool)->Nat
 |[]=>0
 |r::rs=>r.1.length+Q3w rs
def RG (Ls:LL) (T:List Tup):Bool:=match XH 400 Ls (T.map tuR) some,Zm 400 Ls (T.map tuR) some with
 |some a,some t=>eqR a (Qbn (Qe0 a))&&(eqI t (encI ((List.range Ls.length).map (tix T)))&&((Qe0 a).all (fun r=>Nat.blt 0 r.1.length&&r.1.all fun i=>Nat.blt i Ls.length)&&(Nat.ble (Q3w (Qe0 a)) Ls.length&&Nat.blt 0 (Qe0 a).length)))
 |_,_=>false
section
variable (x y z:List D) (lo hi lo' hi' lo'' hi'':Int)
theorem Qgn:RG [x] []=true/\RG [x,y] []=true/\RG [x,y,z] []=true:=⟨by kernel_rfl,by kernel_rfl,by kernel_rfl⟩
theorem QfS:RG [x] [(0,0,lo,hi)]=true:=by kernel_rfl
def u2:List Nat:=[0,1]
def u3:List Nat:=[0,1,2]
theorem Qgb:(u2.all fun a=>u2.all fun b=>RG [x,y] [(a,b,lo,hi)])=true:=by kernel_rfl
theorem Qg9:(u3.all fun a=>u3.all fun b=>RG [x,y,z] [(a,b,lo,hi)])=true:=by kernel_rfl
theorem Qgu:(u2.all fun a=>u2.all fun b=>u2.all fun a'=>u2.all fun b'=>(Nat.beq a a'||Nat.beq b b')||RG [x,y] [(a,b,lo,hi),(a',b',lo',hi')])=true:=by kernel_rfl
theorem QgC:(u3.all fun a=>u3.all fun b=>u3.all fun a'=>u3.all fun b'=>(Nat.beq a a'||Nat.beq b b')||RG [x,y,z] [(a,b,lo,hi),(a',b',lo',hi')])=true:=by kernel_rfl
theorem QfH:(u3.all fun a=>u3.all fun b=>u3.all fun a'=>u3.all fun b'=>(Nat.beq a a'||Nat.beq b b')||u3.all fun ak=>u3.all fun aj=>(Nat.beq a ak||Nat.beq b aj||Nat.beq a' ak||Nat.beq b' aj)||RG [x,y,z] [(a,b,lo,hi),(a',b',lo',hi'),(ak,aj,lo'',hi'')])=true:=by kernel_rfl
end
theorem Qa1 {l:List Nat} {f:Nat->Nat->Bool} (h:(l.all fun a=>l.all fun b=>f a b)=true) {a b:Nat} (ha:a∈l) (hb:b∈l):f a b=true:=QjU.1 (QjU.1 h a ha) b hb
theorem Qda {a:Nat} (h:a<2):a∈u2:=by
 obtain rfl | rfl:a=0\/a=1:=by omega
 all_goals decide
theorem Q7i {a:Nat} (h:a<3):a∈u3:=by
 obtain rfl | rfl | rfl:a=0\/a=1\/a=2:=by omega
 all_goals decide
theorem Q6Z {a b:Nat} (h:a≠b):Nat.beq a b=false:=Bool.eq_false_iff.2 fun e=>h (Nat.eq_of_beq_eq_true e)
theorem ne2 {a b a' b':Nat} {x:Bool} (h:(Nat.beq a a'||Nat.beq b b'||x)=true) (c:a≠a') (h2:b≠b'):x=true:=by
 simpa [Q6Z c,Q6Z h2] using h
theorem ne4 {a b a' b' c d c' d':Nat} {x:Bool} (h:(Nat.beq a a'||Nat.beq b b'||Nat.beq c c'||Nat.beq d d'||x)=true) (e:a≠a') (h2:b≠b') (f:c≠c') (g:d≠d'):x=true:=by
 simpa [Q6Z e,Q6Z h2,Q6Z f,Q6Z g] using h
theorem QhD {Ls:LL} {T:List Tup} (l0:1<=Ls.length) (l1:Ls.length<=3) (hb:∀ t∈T,t.1<Ls.length/\t.2.1<Ls.length) (c:(T.map (·.1)).Nodup) (d:(T.map (·.2.1)).Nodup):RG Ls T=true:=by
 rcases Ls with _ | ⟨x,_ | ⟨y,_ | ⟨z,_ | ⟨w,r⟩⟩⟩⟩
 ·simp at l0
 ·rcases T with _ | ⟨⟨a,b,lo,hi⟩,_ | ⟨⟨a',b',lo',hi'⟩,T⟩⟩
  ·exact (Qgn x x x).1
  ·obtain ⟨ha,e⟩:=hb _ (QjI ..);obtain rfl:a=0:=by simpa using ha
   obtain rfl:b=0:=by simpa using e
   exact QfS x lo hi
  ·have f:=(hb _ (QjI ..)).1;have h2:=(hb _ (QjK _ (QjI ..))).1;simp at f h2 c;omega
 ·rcases T with _ | ⟨⟨a,b,lo,hi⟩,_ | ⟨⟨a',b',lo',hi'⟩,_ | ⟨⟨ar,aq,lo'',hi''⟩,T⟩⟩⟩
  ·exact (Qgn x y x).2.1
  ·obtain ⟨ha,hb⟩:=hb _ (QjI ..);exact Qa1 (Qgb x y lo hi) (Qda ha) (Qda hb)
  ·obtain ⟨ha,e⟩:=hb _ (QjI ..);obtain ⟨ak,aj⟩:=hb _ (QjK _ (QjI ..));simp at c d;exact ne2 (Qa1 (Qa1 (Qgu x y lo hi lo' hi') (Qda ha) (Qda e)) (Qda ak) (Qda aj)) c d
  ·have f:=(hb _ (QjI ..)).1;have h2:=(hb _ (QjK _ (QjI ..))).1;have g:=(hb _ (QjK _ (QjK _ (QjI ..)))).1;simp at f h2 g c;omega
 ·rcases T with _ | ⟨⟨a,b,lo,hi⟩,_ | ⟨⟨a',b',lo',hi'⟩,_ | ⟨⟨ar,aq,lo'',hi''⟩,_ | ⟨⟨i,j,k,l⟩,T⟩⟩⟩⟩
  ·exact (Qgn x y z).2.2
  ·obtain ⟨ha,hb⟩:=hb _ (QjI ..);exact Qa1 (Qg9 x y z lo hi) (Q7i ha) (Q7i hb)
  ·obtain ⟨ha,e⟩:=hb _ (QjI ..);obtain ⟨ak,aj⟩:=hb _ (QjK _ (QjI ..));simp at c d;exact ne2 (Qa1 (Qa1 (QgC x y z lo hi lo' hi') (Q7i ha) (Q7i e)) (Q7i ak) (Q7i aj)) c d
  ·obtain ⟨ha,e⟩:=hb _ (QjI ..);obtain ⟨ak,aj⟩:=hb _ (QjK _ (QjI ..));obtain ⟨ao,an⟩:=hb _ (QjK _ (QjK _ (QjI ..)));simp at c d;have f:=ne2 (Qa1 (Qa1 (QfH x y z lo hi lo' hi' lo'' hi'') (Q7i ha) (Q7i e)) (Q7i ak) (Q7i aj)) c.1.1 d.1.1;exact ne4 (Qa1 f (Q7i ao) (Q7i an)) c.1.2 d.1.2 c.2 d.2
  ·have f:=(hb _ (QjI ..)).1;have h2:=(hb _ (QjK _ (QjI ..))).1;have g:=(hb _ (QjK _ (QjK _ (QjI ..)))).1;have h:=(hb _ (QjK _ (QjK _ (QjK _ (QjI ..))))).1;simp at f h2 g h c;omega
 ·simp at l1
theorem Q5h {α:Type} {p:α->Bool}:∀ {l:List α},(l.find? p=none/\l.findIdx? p=none)\/∃ t j,l.find? p=some t/\l.findIdx? p=some j/\l[j]? = some t
 |[]=>.inl ⟨rfl,rfl⟩
 |a::l=>by
  rw [List.find?_cons,List.findIdx?_cons];cases ha:p a with
  |true=>exact .inr ⟨a,0,rfl,rfl,rfl⟩
  |false=>
   rcases Q5h (p:=p) (l:=l) with ⟨b,h2⟩ | ⟨t,j,b,h2,c⟩
   ·exact .inl ⟨b,by simp [h2]⟩
   ·exact .inr ⟨t,j+1,b,by simp [h2],c⟩
namespace Cx
variable {X:Cx} (h:X.OK)
include h
theorem rotsP:∃ rs:List (List Nat × Bool),XH 400 X.Ls (X.T.map tuR) some=some (Qbn rs)/\Zm 400 X.Ls (X.T.map tuR) some=some (encI ((List.range X.L).map (tix X.T)))/\(∀ r∈rs,1<=r.1.length/\∀ i∈r.1,i<X.Ls.length)/\Q3w rs<=3/\1<=rs.length:=by
 have hc:=QhD h.l0 h.l1 (fun t ht=>⟨(h.tr t ht).1,(h.tr t ht).2.1⟩) h.fd h.td;have l1:=h.l1;unfold RG at hc;cases e1:XH 400 X.Ls (X.T.map tuR) some with
 |none=>rw [e1] at hc;cases hc
 |some a=>
  cases b:Zm 400 X.Ls (X.T.map tuR) some with
  |none=>rw [e1,b] at hc;cases hc
  |some t=>
   rw [e1,b] at hc;simp only [QjT] at hc;obtain ⟨c1,c,d,e,f⟩:=hc;refine ⟨Qe0 a,by rw [<- QdA c1],by rw [QaY c];rfl,fun r hr=>?_,?_,Qk2 f⟩
   ·have:=QjU.1 d r hr;rw [QjT] at this;exact ⟨Qk2 this.1,fun i hi=>Qk2 (QjU.1 this.2 i hi)⟩
   ·have:=Qk2 e;omega
end Cx
end Go.Vx
namespace Go.Vx
variable {R:Type}
def Xo (n:Nat) (d:Int) (e b:LL) (a1:Int) (K:Int->oP R):oP R:= gb true (Q1 e a1) [] fun a=>gb true (a[0]?) oF fun t=>gb true (a[1]?) oF fun f=>gb true (a[2]?) oF fun g=>gb true (a[3]?) oF fun c=>gb true (a[4]?) oF fun u=>gb true (a[5]?) oF fun v=>gb true (pIw c) 0 fun h=>gb true (pIw g) 0 fun i=>gb true (Q1 b i) [] fun j=>gb true (j[0]?) oF fun k=>gb true (pIw k) 0 fun l=>gb true (pIw f) 0 fun m=>gb true (Q1 b m) [] fun o=>gb true (o[0]?) oF fun p=>gb true (pIw p) 0 fun q=>gb true (pIw c) 0 fun r=>gb true (Ta n (wJ ((wJ (l-q))-r)) d some) 0 fun s=>K (wJ (h+s))
end Go.Vx
namespace Go.Vx
variable {R:Type}
def Xl (n:Nat) (b:Int) (c d a:LL) (a1 a2:Int) (K:Int->oP R):oP R:= gb true (inB (a.length) a1) () fun i=>gb true (a[a1.toNat]?) [] fun e=>gb true (e[0]?) oF fun f=>gb true (pIw f) 0 fun g=>gb true (Xo n b c d (wJ ((wJ ((wJ (2*g))-a1))+(wJ (2*a2)))) some) 0 fun h=>K h
end Go.Vx
namespace Go.Vx
variable {R:Type}
def QZ (n:Nat) (a g:LL) (b:Int) (c d e f:LL) (h a1 a2:Int) (K:Int->Bool->oP R):oP R:= gb true (Q1 a a1) [] fun i=>gb true (i[3]?) oF fun j=>gb true (pSl 4 j) [] fun k=>bif (decide (a2<(wJ ((k.length:Int)-1)))) then gb true (inB (f.length) a1) () fun y=>gb true (f[a1.toNat]?) [] fun l=>gb true (l[0]?) oF fun m=>gb true (pIw m) 0 fun o=>gb true (Xo n b c d (wJ ((wJ ((wJ ((wJ (2*o))-a1))+(wJ (2*a2))))+1)) some) 0 fun p=>K p true else gb true (Q1 e a1) [] fun q=>gb true (q[0]?) oF fun r=>gb true (pIw r) 0 fun s=>bif decide (s>=0) then gb true (Q1 e a1) [] fun t=>gb true (t[0]?) oF fun u=>gb true (pIw u) 0 fun v=>gb true (Xo n b c d (wJ ((wJ ((wJ ((wJ (2*h))-(a.length:Int)))+(g.length:Int)))+v)) some) 0 fun x=>K x true else K 0 false
end Go.Vx
namespace Go.Vx
def tat (tl:List Int) (i:Int):Int:=tl.getD i.toNat 0
def dur (tl:List Int) (per f t mn:Int):Int:=mn+(tat tl t-tat tl f-mn) % per
def Mo (tl:List Int) (per:Int):List D->Int
 |[_,.int _ f,.int _ t,.int _ mn,_,_]=>dur tl per f t mn
 |_=>0
namespace Cx
variable {X:Cx}
structure Gd (X:Cx) (per:Int) (Ch Sy A:LL) (tl:List Int):Prop where
 ok:X.OK
 ls:X.LsOK per Ch Sy
 p0:2<=per
 p1:per<=300
 act:∃ H,A=X.planned Ch Sy++H/\∀ r∈H,∃ a b w,r=Q7h a b w
 len:A.length<400
 tlen:tl.length=2*X.N
 tr:∀ x∈tl,0<=x/\x<per
 ck:∀ r∈A,chk per (2*X.N) r=true
theorem Q5P {per:Int} {J:List Tup} {a:Nat}:∀ {c b:Nat} {H:LL},X.hdw per J a c b=some H->∀ r∈H,∃ a b w,r=Q7h a b w
 |0,b,H,e=>by cases e;exact fun r hr=>nomatch hr
 |c+1,b,H,e=>by
  rw [hdw] at e;cases ew:X.WV per J a b with
  |none=>rw [ew] at e;cases e
  |some W=>
   rw [ew] at e;cases eh:X.hdw per J a c (b+1) with
   |none=>simp only [eh] at e;cases e
   |some H'=>
    simp only [eh] at e;cases e;intro r hr;rcases QjN.1 hr with hr | hr
    ·obtain ⟨w,_,rfl⟩:=Qk1.1 hr;exact ⟨_,_,_,rfl⟩
    ·exact Q5P eh r hr
theorem hdws_rows {per:Int} {J:List Tup}:∀ {c a:Nat} {H:LL},X.hdws per J c a=some H->∀ r∈H,∃ a b w,r=Q7h a b w
 |0,b,H,e=>by cases e;exact fun r hr=>nomatch hr
 |c+1,a,H,e=>by
  rw [hdws] at e;cases ew:X.hdw per J a c (a+1) with
  |none=>rw [ew] at e;cases e
  |some W=>
   rw [ew] at e;cases eh:X.hdws per J c (a+1) with
   |none=>simp only [eh] at e;cases e
   |some H'=>
    simp only [eh] at e;cases e;intro r hr;rcases QjN.1 hr with hr | hr
    ·exact Q5P ew r hr
    ·exact hdws_rows eh r hr
theorem Qbo {i:Nat} {r:List D}:∀ {K:Nat},r∈X.pl i K->∃ k,k<K/\(r=X.aR i k\/k<X.nr i-1/\r=X.aD i k)
 |0,h=>nomatch h
 |K+1,h=>by
  rw [pl] at h;rcases QjN.1 h with h | h
  ·rcases QjN.1 h with h | h
   ·obtain ⟨k,hk,h⟩:=Qbo h;exact ⟨k,by omega,h⟩
   ·exact ⟨K,by omega,.inl (List.mem_singleton.1 h)⟩
  ·split at h
   ·exact ⟨K,by omega,.inr ⟨by assumption,List.mem_singleton.1 h⟩⟩
   ·nomatch h
theorem Q8I {r:List D}:∀ {L:Nat},r∈X.pls L->∃ i k,i<L/\k<X.nr i/\(r=X.aR i k\/k<X.nr i-1/\r=X.aD i k)
 |0,h=>nomatch h
 |L+1,h=>by
  rw [pls] at h;rcases QjN.1 h with h | h
  ·obtain ⟨i,k,hi,h⟩:=Q8I h;exact ⟨i,k,by omega,h⟩
  ·obtain ⟨k,hk,h⟩:=Qbo h;exact ⟨L,k,by omega,hk,h⟩
variable {per:Int} {Ch Sy A:LL} {tl:List Int}
theorem QcP (h:X.OK) (hl:X.LsOK per Ch Sy) {H:LL} (hH:∀ r∈H,∃ a b w,r=Q7h a b w) {r:List D} (hr:r∈X.planned Ch Sy++H):(∃ i k,i<X.Ls.length/\k<X.nr i/\(r=X.aR i k\/k<X.nr i-1/\r=X.aD i k))\/(∃ t∈X.T,r=X.tuE t)\/∃ kd f t mn mx w:Int,(kd=3\/kd=5\/kd=6)/\r=[Q4 kd,Q4 f,Q4 t,Q4 mn,Q4 mx,Q4 w]:=by
 rcases QjN.1 hr with hr | hr
 ·rcases QjN.1 hr with hr | hr
  ·rcases QjN.1 hr with hr | hr
   ·rcases QjN.1 hr with hr | hr
    ·exact .inl (Q8I hr)
    ·obtain ⟨row,aj,rfl⟩:=Qk1.1 hr;obtain ⟨f,fr,t,tr,mn,mx,w,rfl,_⟩:=hl.ch row aj;exact .inr (.inr ⟨3,_,_,mn,mx,w,.inl rfl,rfl⟩)
   ·obtain ⟨t,ht,rfl⟩:=Qk1.1 hr;exact .inr (.inl ⟨t,ht,rfl⟩)
  ·obtain ⟨row,aj,rfl⟩:=Qk1.1 hr;obtain ⟨o,rfl,_⟩:=hl.sy row aj;exact .inr (.inr ⟨5,_,_,o,o,0,.inr (.inl rfl),rfl⟩)
 ·obtain ⟨a,b,w,rfl⟩:=hH r hr;exact .inr (.inr ⟨6,_,_,w.1,w.2,0,.inr (.inr rfl),rfl⟩)
theorem act_r6 (h:X.OK) (hl:X.LsOK per Ch Sy) {H:LL} (hH:∀ r∈H,∃ a b w,r=Q7h a b w) {r:List D} (hr:r∈X.planned Ch Sy++H):R6 r:=by
 rcases QcP h hl hH hr with ⟨i,k,_,_,rfl | ⟨_,rfl⟩⟩ | ⟨t,_,rfl⟩ | ⟨kd,f,t,mn,mx,w,_,rfl⟩
 ·exact ⟨_,_,_,_,_,_,rfl⟩
 ·exact ⟨_,_,_,_,_,_,rfl⟩
 ·exact ⟨_,_,_,_,_,_,rfl⟩
 ·exact ⟨_,_,_,_,_,_,rfl⟩
variable (g:X.Gd per Ch Sy A tl)
include g
theorem Gd.r6 {r:List D} (hr:r∈A):R6 r:=by
 obtain ⟨H,rfl,hH⟩:=g.act;exact act_r6 g.ok g.ls hH hr
theorem Gd.tat {i:Int} (a:0<=i) (b:i<(2*X.N:Nat)):Q1 (encI tl) i=some [Q4 (Vx.tat tl i)]/\0<=Vx.tat tl i/\Vx.tat tl i<per:=by
 have hl:=g.tlen;have e:tl[i.toNat]? = some (Vx.tat tl i):=by
  unfold Vx.tat;rw [QjH,QjE (by omega)];rfl
 have:=HM e;rw [show ((i.toNat:Nat):Int)=i by omega] at this;exact ⟨this,g.tr _ (QjD e)⟩
theorem Gd.row {r:List D} (hr:r∈A):∃ kd f t mn mx w:Int,r=[Q4 kd,Q4 f,Q4 t,Q4 mn,Q4 mx,Q4 w]/\(0<=f/\f<(2*X.N:Nat))/\(0<=t/\t<(2*X.N:Nat)) /\ -65536<=mn/\mn<=65536:=by
 obtain ⟨kd,f,t,mn,mx,w,rfl⟩:=g.r6 hr;have:=Q4F (g.ck _ hr);exact ⟨kd,f,t,mn,mx,w,rfl,by omega,by omega,by omega⟩
theorem Gd.dur_rng {r:List D} (hr:r∈A) : -65536<=Mo tl per r/\Mo tl per r<=66000:=by
 obtain ⟨kd,f,t,mn,mx,w,rfl,hf,ht,a,h2⟩:=g.row hr;have p0:=g.p0;have p1:=g.p1;have:=Qk0 (Vx.tat tl t-Vx.tat tl f-mn) (show per≠0 by omega);have:=Int.emod_lt_of_pos (Vx.tat tl t-Vx.tat tl f-mn) (show 0<per by omega);simp only [Mo,dur];omega
theorem Gd.durP {R:Type} {a:Nat} {r:List D} (e:A[a]? = some r) (K:Int->oP R):Xo 400 per A (encI tl) (a:Int) K=K (Mo tl per r):=by
 have hr:=QjD e;have p0:=g.p0;have p1:=g.p1;obtain ⟨kd,f,t,mn,mx,w,rfl,hf,ht,b,h2⟩:=g.row hr;have tf:=g.tat hf.1 hf.2;have tt:=g.tat ht.1 ht.2;have:=Qk0 (Vx.tat tl t-Vx.tat tl f-mn) (show per≠0 by omega);have:=Int.emod_lt_of_pos (Vx.tat tl t-Vx.tat tl f-mn) (show 0<per by omega);unfold Xo;rw [Qe,e];simp -implicitDefEqProofs only [Q0,QjB,QjF,Q3,tf.1,tt.1,Q7 (x:=Vx.tat tl t-Vx.tat tl f) (by omega) (by omega),Q7 (x:=Vx.tat tl t-Vx.tat tl f-mn) (by omega) (by omega),QfX (n:=400) (t:=per) (x:=Vx.tat tl t-Vx.tat tl f-mn) (by omega) (by omega) (by omega) (by omega),Q7 (x:=mn+(Vx.tat tl t-Vx.tat tl f-mn) % per) (by omega) (by omega)];rfl
end Cx
end Go.Vx
namespace Go.Vx
variable {R:Type}
def Q0Y (n:Nat) (a0 a1 a2:Int) (K:Bool->oP R):oP R:= K (bif decide (a0>=a1) then (decide (a0<=a2)) else false)
end Go.Vx
namespace Go.Vx
variable {R:Type}
def Z6 (n:Nat) (d e c:Int) (k0:Int->Bool->LL->oP R):Nat->Int->LL->oP R
 | 0,_,_=>none
 | m+1,a,b=>bif decide (a<c) then gb true (inB (b.length) a) () fun j=>gb true (b[a.toNat]?) [] fun f=>gb true (f[0]?) oF fun g=>gb true (pIw g) 0 fun h=>bif (h == e) then gb true (inB (b.length) a) () fun k=>gb true (b[a.toNat]?) [] fun i=>Z6 n d e c k0 m (wJ (a+1)) (List.set b a.toNat (List.set i 0 (Q4 d))) else Z6 n d e c k0 m (wJ (a+1)) b else k0 a (decide (a<c)) b
def Jz (n:Nat) (a:LL) (j b c k l m:Int) (K:Bool->LL->oP R):oP R:= gb true (inB (a.length) b) () fun o=>gb true (a[b.toNat]?) [] fun f=>gb true (f[0]?) oF fun g=>gb true (pIw g) 0 fun d=>gb true (inB (a.length) c) () fun p=>gb true (a[c.toNat]?) [] fun r6=>gb true (r6[0]?) oF fun h=>gb true (pIw h) 0 fun e=>bif (d == e) then K false a else Z6 n d e (a.length:Int) (fun q r i=>K true i) n 0 a
end Go.Vx
namespace Go.Vx
variable {R:Type}
def Z8 (n:Nat) (c:Int) (k0:Int->Bool->LL->oP R):Nat->Int->LL->oP R
 | 0,_,_=>none
 | m+1,a,b=>bif decide (a<c) then gb true (inB (b.length) a) () fun e=>gb true (b[a.toNat]?) [] fun d=>Z8 n c k0 m (wJ (a+1)) (List.set b a.toNat (List.set d 0 (Q4 a))) else k0 a (decide (a<c)) b
def Z5 (n:Nat) (c:LL) (k0:Int->Bool->LL->oP R):Nat->Int->LL->oP R
 | 0,_,_=>none
 | m+1,b,d=>bif (decide (b<(c.length:Int))) then gb true (Q1 c b) [] fun a=>gb true (a[0]?) oF fun f=>gb true (a[1]?) oF fun g=>gb true (a[2]?) oF fun h=>gb true (a[3]?) oF fun i=>gb true (a[4]?) oF fun j=>gb true (a[5]?) oF fun k=>gb true (pIw f) 0 fun l=>gb true (pIw g) 0 fun o=>gb true (pIw h) 0 fun p=>gb true (pIw i) 0 fun q=>gb true (pIw j) 0 fun r=>gb true (pIw k) 0 fun s=>gb true (Jz n d l o p q r s Tu2) (false,[]) fun e=>gb true (He e.2 (d.length)) () fun v=>Z5 n c k0 m (wJ (b+1)) e.2 else k0 b (decide (b<(c.length:Int))) d
def Yq (n:Nat) (a:Int) (d:LL) (k0:Int->Bool->LL->oP R):Nat->Int->LL->oP R
 | 0,_,_=>none
 | m+1,b,c=>bif decide (b<a) then gb true (inB (d.length) b) () fun q=>gb true (d[b.toNat]?) [] fun e=>gb true (e[0]?) oF fun f=>gb true (pIw f) 0 fun g=>gb true (inB (d.length) a) () fun r=>gb true (d[a.toNat]?) [] fun h=>gb true (h[0]?) oF fun i=>gb true (pIw i) 0 fun j=>bif (g == j) then gb true (inB (c.length) b) () fun s=>gb true (c[b.toNat]?) [] fun k=>gb true (k[0]?) oF fun l=>gb true (pIw l) 0 fun o=>gb true (inB (c.length) a) () fun t=>gb true (c[a.toNat]?) [] fun p=>Yq n a d k0 m (wJ (b+1)) (List.set c a.toNat (List.set p 0 (Q4 o))) else Yq n a d k0 m (wJ (b+1)) c else k0 b (decide (b<a)) c
def Yr (n:Nat) (c:Int) (f:LL) (k0:Int->Int->Bool->LL->oP R):Nat->Int->Int->LL->oP R
 | 0,_,_,_=>none
 | m+1,d,a,e=>bif decide (a<c) then gb true (inB (e.length) a) () fun l=>gb true (e[a.toNat]?) [] fun g=>Yq n a f (fun o p b=>gb true (inB (b.length) a) () fun q=>gb true (b[a.toNat]?) [] fun h=>gb true (h[0]?) oF fun i=>gb true (pIw i) 0 fun j=>bif decide (j<0) then gb true (inB (b.length) a) () fun r=>gb true (b[a.toNat]?) [] fun k=>Yr n c f k0 m (wJ (d+1)) (wJ (a+1)) (List.set b a.toNat (List.set k 0 (Q4 d))) else Yr n c f k0 m d (wJ (a+1)) b) n 0 (List.set e a.toNat (List.set g 0 (Q4 (-1:Int)))) else k0 d a (decide (a<c)) e
def JE (n:Nat) (d:Int) (a c:LL) (K:LL->oP R):oP R:= gb true (Ur n d a c some) false fun e=>bif !e then K [] else gb true (bif decide (0<=(a.length:Int))&&decide ((a.length:Int)<=(a.length:Int)) then some () else none) () fun u2=>gb true (Yf (Int.toNat (a.length:Int)*8)) () fun u3=>Z8 n ((List.length (List.replicate (Int.toNat (a.length:Int)) [Q4 0]):Nat):Int) (fun h i f=>Z5 n c (fun j k b=>gb true (bif decide (0<=(b.length:Int))&&decide ((b.length:Int)<=(b.length:Int)) then some () else none) () fun l=>gb true (Yf (Int.toNat (b.length:Int)*8)) () fun m=>Yr n (b.length:Int) b (fun o p q g=>K g) n 0 0 (List.replicate (Int.toNat (b.length:Int)) [Q4 0])) n 0 f) n 0 (List.replicate (Int.toNat (a.length:Int)) [Q4 0])
end Go.Vx
namespace Go.Vx
variable {R:Type}
def YG (n:Nat) (d:LL) (a:Int) (k0:Int->Bool->LL->oP R):Nat->Int->LL->oP R
 | 0,_,_=>none
 | m+1,b,c=>bif decide (b<a) then gb true (Q1 d b) [] fun e=>gb true (e[0]?) oF fun f=>gb true (pIw f) 0 fun g=>gb true (Q1 d a) [] fun h=>gb true (h[0]?) oF fun i=>gb true (pIw i) 0 fun j=>bif (g == j) then gb true (inB (c.length) a) () fun l=>gb true (c[a.toNat]?) [] fun k=>YG n d a k0 m (wJ (b+1)) (List.set c a.toNat (List.set k 0 (D.bool false))) else YG n d a k0 m (wJ (b+1)) c else k0 b (decide (b<a)) c
def Zw (n:Nat) (d:LL) (c:Int) (k0:Int->Bool->LL->oP R):Nat->Int->LL->oP R
 | 0,_,_=>none
 | m+1,a,b=>bif decide (a<c) then gb true (inB (b.length) a) () fun g=>gb true (b[a.toNat]?) [] fun e=>YG n d a (fun h i f=>Zw n d c k0 m (wJ (a+1)) f) n 0 (List.set b a.toNat (List.set e 0 (D.bool true))) else k0 a (decide (a<c)) b
def GC (n:Nat) (b:Int) (a c:LL) (a1:Int) (a2:Bool) (K:Int->LL->LL->LL->Int->Int->Bool->Bool->Bool->Int->LL->oP R):oP R:= gb true (JE n b a c some) [] fun d=>gb true (bif decide (0<=(a.length:Int))&&decide ((a.length:Int)<=(a.length:Int)) then some () else none) () fun u2=>gb true (Yf (Int.toNat (a.length:Int)*8)) () fun u3=>gb true (bif decide (0<=(a.length:Int))&&decide ((a.length:Int)<=(a.length:Int)) then some () else none) () fun f=>gb true (Yf (Int.toNat (a.length:Int)*1)) () fun g=>Zw n d (d.length:Int) (fun h i e=>K b a c e a1 0 false a2 false 0 (List.replicate (Int.toNat (a.length:Int)) [Q4 0])) n 0 (List.replicate (Int.toNat (a.length:Int)) [D.bool false])
end Go.Vx
namespace Go.Vx
variable {R:Type}
def Tp (n:Nat) (b:Int) (a1:LL) (c d a:Int) (K:Int->oP R):oP R:= gb true (Q1 a1 d) [] fun e=>gb true (e[0]?) oF fun f=>gb true (pIw f) 0 fun i3=>gb true (Q1 a1 c) [] fun g=>gb true (g[0]?) oF fun h=>gb true (pIw h) 0 fun i=>gb true (Fk n (wJ ((wJ (i3-i))-a)) b some) 0 fun j=>K (wJ (a+j))
end Go.Vx
namespace Go.Vx
variable {R:Type}
def J0 (n:Nat) (h2:LL) (d:Int) (c:LL) (k0:Int->Int->Bool->oP R):Nat->Int->Int->oP R
 | 0,_,_=>none
 | m+1,e,a=>bif (decide (a<(c.length:Int))) then gb true (Q1 c a) [] fun f=>gb true (f[5]?) oF fun g=>gb true (pIw g) 0 fun h=>gb true (Q1 c a) [] fun b=>gb true (b[0]?) oF fun i=>gb true (b[1]?) oF fun j=>gb true (b[2]?) oF fun k=>gb true (b[3]?) oF fun l=>gb true (b[4]?) oF fun o=>gb true (b[5]?) oF fun p=>gb true (pIw i) 0 fun u=>gb true (pIw j) 0 fun q=>gb true (pIw k) 0 fun r=>gb true (pIw l) 0 fun s=>gb true (pIw o) 0 fun v=>gb true (pIw p) 0 fun x=>gb true (Tp n d h2 q r s some) 0 fun t=>J0 n h2 d c k0 m (wJ (e+(wJ (h*t)))) (wJ (a+1)) else k0 e a (decide (a<(c.length:Int)))
def NZ (n:Nat) (a:Int) (c b a1:LL) (K:Int->Int->oP R):oP R:= gb true (NB n a c b a1 some) false fun d=>bif !d then K 0 1 else J0 n a1 a b (fun e f g=>K e 0) n 0 0
end Go.Vx
namespace Go.Vx
variable {R:Type}
def QY (n:Nat) (c:Int) (e:LL) (f:Int) (d:LL) (k0:oP R) (k1:Int->Int->Bool->oP R):Nat->Int->Int->oP R
 | 0,_,_=>none
 | m+1,h2,a=>bif (decide (a<(d.length:Int))) then gb true (Q1 d a) [] fun b=>gb true (b[0]?) oF fun p=>gb true (b[1]?) oF fun h=>gb true (b[2]?) oF fun i=>gb true (b[3]?) oF fun j=>gb true (b[4]?) oF fun k=>gb true (b[5]?) oF fun g=>gb true (pIw h) 0 fun l=>gb (!(decide (l>c))) (pIw i) 0 fun q=>bif (bif decide (l>c) then true else (decide (q>c))) then gb true (pIw g) 0 fun r=>gb true (pIw j) 0 fun s=>QY n c e f d k0 k1 m (wJ (h2+(wJ (r*s)))) (wJ (a+1)) else gb true (pIw p) 0 fun z=>gb true (pIw h) 0 fun t=>gb true (pIw i) 0 fun u=>gb true (pIw j) 0 fun v=>gb true (pIw k) 0 fun aa=>gb true (pIw g) 0 fun ab=>gb true (Tp n f e t u v some) 0 fun o=>gb true (pIw k) 0 fun x=>bif decide (o>x) then k0 else gb true (pIw g) 0 fun y=>QY n c e f d k0 k1 m (wJ (h2+(wJ (y*o)))) (wJ (a+1)) else k1 h2 a (decide (a<(d.length:Int)))
def Zg (n:Nat) (a:Int) (b:LL) (c d:Bool) (e:Int) (f:LL) (a1:Int) (K:Bool->oP R):oP R:= QY n a1 f a b (K true) (fun g h i=>K (bif (bif c then d else false) then (decide (g>=e)) else false)) n 0 0
end Go.Vx
namespace Go.Vx
variable {R:Type}
def Xc (n:Nat) (Fr:Int->LL->LL->LL->Int->Int->Bool->Bool->Bool->Int->LL->LL->Int->Option (Bool × Int × LL × LL × LL × Int × Int × Bool × Bool × Bool × Int × LL × LL)) (b q:Int) (k0:LL->LL->Int->LL->LL->Int->Int->Bool->Bool->Bool->Int->LL->oP R) (k1:Int->Bool->LL->LL->Int->LL->LL->Int->Int->Bool->Bool->Bool->Int->LL->oP R):Nat->Int->LL->LL->Int->LL->LL->Int->Int->Bool->Bool->Bool->Int->LL->oP R
 | 0,_,_,_,_,_,_,_,_,_,_,_,_,_=>none
 | m+1,c,l,d,e,o,f,g,h,r,i,j,k,p=>bif decide (c<q) then bif (decide ((wJ (h+1))>g)) then k0 l d e o f g (wJ (h+1)) true i j k p else gb true (inB (d.length) b) () fun u=>gb true (d[b.toNat]?) [] fun s=>gb true (Zg n e f i j k (List.set d b.toNat (List.set s 0 (Q4 c))) b some) false fun t=>bif !t then gb true (Fr e o f l g (wJ (h+1)) r i j k p (List.set d b.toNat (List.set s 0 (Q4 c))) (wJ (b+1))) (false,0,[],[],[],0,0,false,false,false,0,[],[]) fun a=>bif (bif true then (!a.1) else false) then k0 a.2.2.2.2.1 a.2.2.2.2.2.2.2.2.2.2.2.2 a.2.1 a.2.2.1 a.2.2.2.1 a.2.2.2.2.2.1 a.2.2.2.2.2.2.1 a.2.2.2.2.2.2.2.1 a.2.2.2.2.2.2.2.2.1 a.2.2.2.2.2.2.2.2.2.1 a.2.2.2.2.2.2.2.2.2.2.1 a.2.2.2.2.2.2.2.2.2.2.2.1 else Xc n Fr b q k0 k1 m (wJ (c+1)) a.2.2.2.2.1 a.2.2.2.2.2.2.2.2.2.2.2.2 a.2.1 a.2.2.1 a.2.2.2.1 a.2.2.2.2.2.1 a.2.2.2.2.2.2.1 a.2.2.2.2.2.2.2.1 a.2.2.2.2.2.2.2.2.1 a.2.2.2.2.2.2.2.2.2.1 a.2.2.2.2.2.2.2.2.2.2.1 a.2.2.2.2.2.2.2.2.2.2.2.1 else bif (bif false then false else false) then k0 l (List.set d b.toNat (List.set s 0 (Q4 c))) e o f g (wJ (h+1)) r i j k p else Xc n Fr b q k0 k1 m (wJ (c+1)) l (List.set d b.toNat (List.set s 0 (Q4 c))) e o f g (wJ (h+1)) r i j k p else k1 c (decide (c<q)) l d e o f g h r i j k p
def VQ (n:Nat) (Fr:Int->LL->LL->LL->Int->Int->Bool->Bool->Bool->Int->LL->LL->Int->Option (Bool × Int × LL × LL × LL × Int × Int × Bool × Bool × Bool × Int × LL × LL)) (b:Int) (c e d:LL) (g h:Int) (i f j:Bool) (k:Int) (l a:LL) (a1:Int) (K:Bool->Int->LL->LL->LL->Int->Int->Bool->Bool->Bool->Int->LL->LL->oP R):oP R:= bif (a1 == (c.length:Int)) then gb true (Yf (a.length*8)) () fun u1=>gb true (NZ n b c e a Tu2) (0,0) fun p=>K f b c e d g h i f true p.1 a a else gb true (inB (d.length) a1) () fun u3=>gb true (d[a1.toNat]?) [] fun q=>gb true (q[0]?) oF fun r=>gb true (Kl r) false fun s=>bif s then Xc n Fr a1 1 (fun t u v x y z aa ab ac ad ae ag=>K false v x y t z aa ab ac ad ae ag u) (fun bx bz ah ai aj ak al am an ao ap aq ar au=>K true aj ak al ah am an ao ap aq ar au ai) n 0 d a b c e g h i f j k l else Xc n Fr a1 b (fun av aw ax ay az ba bb bc bd be bg bh=>K false ax ay az av ba bb bc bd be bg bh aw) (fun ca cb bi bj bk bl bm bn bo bp bq br bt bu=>K true bk bl bm bi bn bo bp bq br bt bu bj) n 0 d a b c e g h i f j k l
def Xk (n:Nat):Nat->Int->LL->LL->LL->Int->Int->Bool->Bool->Bool->Int->LL->LL->Int->Option (Bool × Int × LL × LL × LL × Int × Int × Bool × Bool × Bool × Int × LL × LL)
 | 0,_,_,_,_,_,_,_,_,_,_,_,_,_=>none
 | d+1,a,b,c,e,f,g,h,i,j,k,l,m,a1=>VQ n (Xk n d) a b c e f g h i j k l m a1 Tu13
end Go.Vx
namespace Go.Vx
variable {R:Type}
def Lc (n:Nat) (e:Int) (f g:LL) (a1:Int) (a2:Bool) (KA:Int->oP R) (KB:Int->LL->LL->LL->Int->Int->Bool->Bool->Bool->Int->LL->LL->Int->oP R):oP R:= gb true (Ur n e f g some) false fun c=>bif !c then KA 1 else gb true (Q0Y n a1 1 1048576 some) false fun d=>bif !d then KA 4 else gb true (GC n e f g a1 a2 Tu11) (0,[],[],[],0,0,false,false,false,0,[]) fun b=>gb true (Xk n n b.1 b.2.1 b.2.2.1 b.2.2.2.1 b.2.2.2.2.1 b.2.2.2.2.2.1 b.2.2.2.2.2.2.1 b.2.2.2.2.2.2.2.1 b.2.2.2.2.2.2.2.2.1 b.2.2.2.2.2.2.2.2.2.1 [] b.2.2.2.2.2.2.2.2.2.2 0) (false,0,[],[],[],0,0,false,false,false,0,[],[]) fun a=>bif a.2.2.2.2.2.2.2.1 then KA 15 else bif (!a.2.2.2.2.2.2.2.2.2.1) then KB a.2.1 a.2.2.1 a.2.2.2.1 a.2.2.2.2.1 a.2.2.2.2.2.1 a.2.2.2.2.2.2.1 a.2.2.2.2.2.2.2.1 a.2.2.2.2.2.2.2.2.1 a.2.2.2.2.2.2.2.2.2.1 a.2.2.2.2.2.2.2.2.2.2.1 a.2.2.2.2.2.2.2.2.2.2.2.1 a.2.2.2.2.2.2.2.2.2.2.2.2 14 else KB a.2.1 a.2.2.1 a.2.2.2.1 a.2.2.2.2.1 a.2.2.2.2.2.1 a.2.2.2.2.2.2.1 a.2.2.2.2.2.2.2.1 a.2.2.2.2.2.2.2.2.1 a.2.2.2.2.2.2.2.2.2.1 a.2.2.2.2.2.2.2.2.2.2.1 a.2.2.2.2.2.2.2.2.2.2.2.1 a.2.2.2.2.2.2.2.2.2.2.2.2 0
end Go.Vx
namespace Go.Vx
variable {R:Type}
def UF (n:Nat) (e:Int) (f g:LL) (a1:Int) (K:LL->Int->Int->oP R):oP R:= gb true (Lc n e f g a1 false (fun c=>some (.inl c)) (fun c d b a h i r6 j k l m o p=>some (.inr (c,d,b,a,h,i,r6,j,k,l,m,o,p)))) (.inl 0) fun d=>smX d (fun b=>bif (b == 0) then none else bif (b == 14) then none else K [] 0 b) fun a=>bif (a.2.2.2.2.2.2.2.2.2.2.2.2 == 0) then K a.2.2.2.2.2.2.2.2.2.2.1 a.2.2.2.2.2.1 0 else bif (a.2.2.2.2.2.2.2.2.2.2.2.2 == 14) then K [] a.2.2.2.2.2.1 a.2.2.2.2.2.2.2.2.2.2.2.2 else K [] 0 a.2.2.2.2.2.2.2.2.2.2.2.2
end Go.Vx
namespace Go.Vx
def Ak (l:List Bool):LL:=l.map fun b=>[D.bool b]
theorem Jd {w:List Int} {i:Nat} (h:i<w.length):(encI w)[i]? = some [Q4 w[i]]:=by
 exact HM (QjE h)
theorem Q4q {w:List Bool} {i:Nat} (h:i<w.length):(Ak w)[i]? = some [D.bool w[i]]:=by
 simp [Ak,QjY,QjE]
theorem Q0Z {w:List Bool}:(Ak w).length=w.length:=by simp [Ak]
theorem Q6c {w:List Bool} {i:Nat} {v:Bool}:(Ak w).set i [D.bool v]=Ak (w.set i v):=by
 grind [Ak,List.map_set]
def TG (per:Int) (k:Nat) (w:List Int):Prop:=w.length=k/\∀ x∈w,0<=x/\x<per
theorem TG.set {per:Int} {k:Nat} {w:List Int} (h:TG per k w) {i:Nat} {v:Int} (a:0<=v) (b:v<per):TG per k (w.set i v):=by
 refine ⟨by rw [QjW];exact h.1,fun x hx=>?_⟩;rcases List.mem_or_eq_of_mem_set hx with hx | rfl
 ·exact h.2 x hx
 omega
theorem TG.tat {per:Int} {k:Nat} {w:List Int} (h:TG per k w) {i:Int} (a:0<=i) (b:i<(k:Int)):Q1 (encI w) i=some [Q4 (Vx.tat w i)]/\0<=Vx.tat w i/\Vx.tat w i<per:=by
 have hl:=h.1;have e:w[i.toNat]? = some (Vx.tat w i):=by
  simp_all [Vx.tat,QjH,QjE]
 have:=HM e;rw [show ((i.toNat:Nat):Int)=i by omega] at this;exact ⟨this,h.2 _ (QjD e)⟩
section
variable {R:Type} {n N:Nat} (hN:N<=48) {P:oP R->Prop}
include hN
theorem Qe7 {k0:Int->Bool->LL->oP R} (H:∀ w:List Int,w.length=N->P (k0 (N:Int) false (encI w))):∀ (c i m:Nat) (w:List Int),i+c=N->c<m->w.length=N->P (Z8 n (N:Int) k0 m (i:Int) (encI w))
 |0,i,m+1,w,hi,_,hw=>by
  rw [Z8,show i=N by omega,Qi,cond_false];exact H w hw
 |c+1,i,m+1,w,hi,hm,hw=>by
  rw [Z8,Qc (by omega),QjG,Y0 (by omega) (by rw [Xg];omega),Q0,QjC,Jd (by omega),Q0,QjR,NX,Qq (by omega)];exact Qe7 H c (i+1) m _ (by omega) (by omega) (by rw [QjW];exact hw)
theorem Q8V {x y:Int} {k0:Int->Bool->LL->oP R} (H:∀ w:List Int,w.length=N->P (k0 (N:Int) false (encI w))):∀ (c i m:Nat) (w:List Int),i+c=N->c<m->w.length=N->P (Z6 n x y (N:Int) k0 m (i:Int) (encI w))
 |0,i,m+1,w,hi,_,hw=>by
  rw [Z6,show i=N by omega,Qi,cond_false];exact H w hw
 |c+1,i,m+1,w,hi,hm,hw=>by
  rw [Z6,Qc (by omega),QjG,Y0 (by omega) (by rw [Xg];omega),Q0,QjC,Jd (by omega)];simp -implicitDefEqProofs only [Q0,QjB,Q3,QjR,NX,Qq (show i<=1000 by omega)];cases w[i]'(by omega) == y with
  |true=>exact Q8V H c (i+1) m _ (by omega) (by omega) (by rw [QjW];exact hw)
  |false=>exact Q8V H c (i+1) m _ (by omega) (by omega) hw
theorem QdZ (hn:N<n) {w:List Int} (hw:w.length=N) {kd f t mn mx q:Int} (hf:0<=f/\f<N) (ht:0<=t/\t<N) {K:Bool->LL->oP R} (H:∀ b (w:List Int),w.length=N->P (K b (encI w))):P (Jz n (encI w) kd f t mn mx q K):=by
 obtain ⟨f,rfl⟩:=QjZ hf.1;obtain ⟨t,rfl⟩:=QjZ ht.1;unfold Jz;rw [Y0 (by omega) (by grind [Xg]),Q0,QjC,Jd (show f<w.length by omega),Q0];simp -implicitDefEqProofs only [Q0,QjB,Q3];rw [Y0 (by omega) (by rw [Xg];omega),Q0,QjC,Jd (show t<w.length by omega),Q0];simp -implicitDefEqProofs only [Q0,QjB,Q3];cases w[f]'(by omega) == w[t]'(by omega) with
 |true=>simp_all
 |false=>
  rw [cond_false,Xg];generalize w[f]'(by omega)=x;generalize w[t]'(by omega)=y;rw [hw];exact Q8V hN (H true) N 0 n w (by omega) hn hw
theorem Qch {h:Nat} (hh:h<N) {ro:List Int} (hr:ro.length=N) {k0:Int->Bool->LL->oP R} (H:∀ w:List Int,w.length=N->P (k0 (h:Int) false (encI w))):∀ (c i m:Nat) (w:List Int),i+c=h->c<m->w.length=N->P (Yq n (h:Int) (encI ro) k0 m (i:Int) (encI w))
 |0,i,m+1,w,hi,_,hw=>by
  rw [Yq,show i=h by omega,Qi,cond_false];exact H w hw
 |c+1,i,m+1,w,hi,hm,hw=>by
  rw [Yq,Qc (by omega),QjG];simp -implicitDefEqProofs only [Y0 (len:=(encI ro).length) (n:=(i:Int)) (by omega) (by rw [Xg];omega),Y0 (len:=(encI ro).length) (n:=(h:Int)) (by omega) (by rw [Xg];omega),Y0 (len:=(encI w).length) (n:=(i:Int)) (by omega) (by rw [Xg];omega),Y0 (len:=(encI w).length) (n:=(h:Int)) (by omega) (by rw [Xg];omega),QjC,Jd (show i<ro.length by omega),Jd (show h<ro.length by omega),Jd (show i<w.length by omega),Jd (show h<w.length by omega),Q0,QjB,Q3,QjR,NX,Qq (show i<=1000 by omega)];cases ro[i]'(by omega) == ro[h]'(by omega) with
  |true=>exact Qch hh hr H c (i+1) m _ (by omega) (by omega) (by rw [QjW];exact hw)
  |false=>exact Qch hh hr H c (i+1) m _ (by omega) (by omega) hw
theorem Qc6 (hn:N<n) {ro:List Int} (hr:ro.length=N) {k0:Int->Int->Bool->LL->oP R} (H:∀ a (w:List Int),w.length=N->P (k0 a (N:Int) false (encI w))):∀ (c i m:Nat) (a:Int) (w:List Int),i+c=N->c<m->w.length=N->P (Yr n (N:Int) (encI ro) k0 m a (i:Int) (encI w))
 |0,i,m+1,a,w,hi,_,hw=>by
  rw [Yr,show i=N by omega,Qi,cond_false];exact H a w hw
 |c+1,i,m+1,a,w,hi,hm,hw=>by
  rw [Yr,Qc (by omega),QjG,Y0 (by omega) (by rw [Xg];omega),Q0,QjC,Jd (show i<w.length by omega),Q0,QjR,NX];refine Qch hN (show i<N by omega) hr (fun w hw=>?_) i 0 n _ (by omega) (by omega) (by rw [QjW];exact hw);simp -implicitDefEqProofs only [Y0 (len:=(encI w).length) (n:=(i:Int)) (by omega) (by rw [Xg];omega),QjC,Jd (show i<w.length by omega),Q0,QjB,Q3,QjR,NX,Qq (show i<=1000 by omega)];cases decide (w[i]'(by omega)<0) with
  |true=>exact Qc6 hn hr H c (i+1) m _ _ (by omega) (by omega) (by rw [QjW];exact hw)
  |false=>exact Qc6 hn hr H c (i+1) m _ _ (by omega) (by omega) hw
theorem Qgi {A:LL} (hA:A.length<400) {per:Int} (hr:∀ r∈A,R6 r) (hc:∀ r∈A,chk per N r=true) (hn:N<n) {k0:Int->Bool->LL->oP R} (H:∀ a b (w:List Int),w.length=N->P (k0 a b (encI w))):∀ (aj:LL) (i m:Nat) (w:List Int),A.drop i=aj->aj.length<m->w.length=N->P (Z5 n A k0 m (i:Int) (encI w)):=by
 intro aj;induction aj with
 |nil=>
  intro i m w hd hm hw;obtain ⟨m,rfl⟩:∃ k,m=k+1:=⟨m-1,by omega⟩;have:=ZP hd;rw [Z5,show decide ((i:Int)<((A.length:Nat):Int))=false by simp_all,cond_false]
  simp_all
 |cons r aj ih=>
  intro i m w hd hm hw;obtain ⟨m,rfl⟩:∃ k,m=k+1:=⟨m-1,by simp at hm;omega⟩;obtain ⟨e,aq,ao⟩:=Yh hd;have ak:=QjD e;obtain ⟨kd,f,t,mn,mx,q,rfl⟩:=hr r ak;have hk:=Q4F (hc _ ak);rw [QjV] at hm;rw [Z5,Qc ao,QjG,Qe,e];simp -implicitDefEqProofs only [Q0,QjB,QjF,Q3,Qq (show i<=1000 by omega)];have hx:∃ b w',Jz n (encI w) kd f t mn mx q Tu2=some (b,encI w')/\w'.length=N:=QdZ (P:=fun X=>∃ b w',X=some (b,encI w')/\w'.length=N) hN hn hw (by omega) (by omega) fun b w' h=>⟨b,w',rfl,h⟩
  obtain ⟨b,w',e',an⟩:=hx;rw [e',Q0];dsimp only;rw [NO (by rw [Xg,Xg];omega),Q0];exact ih (i+1) m w' aq (by omega) an
theorem Q7w {h:Nat} (hh:h<N) {ro:List Int} (hr:ro.length=N) {k0:Int->Bool->LL->oP R} (H:∀ w:List Bool,w.length=N->P (k0 (h:Int) false (Ak w))):∀ (c i m:Nat) (w:List Bool),i+c=h->c<m->w.length=N->P (YG n (encI ro) (h:Int) k0 m (i:Int) (Ak w))
 |0,i,m+1,w,hi,_,hw=>by
  rw [YG,show i=h by omega,Qi,cond_false];exact H w hw
 |c+1,i,m+1,w,hi,hm,hw=>by
  rw [YG,Qc (by omega),QjG];simp -implicitDefEqProofs only [Qe,Y0 (len:=(Ak w).length) (n:=(h:Int)) (by omega) (by rw [Q0Z];omega),QjC,Jd (show i<ro.length by omega),Jd (show h<ro.length by omega),Q4q (show h<w.length by omega),Q0,QjB,Q3,QjR,Q6c,Qq (show i<=1000 by omega)];cases ro[i]'(by omega) == ro[h]'(by omega) with
  |true=>exact Q7w hh hr H c (i+1) m _ (by omega) (by omega) (by rw [QjW];exact hw)
  |false=>exact Q7w hh hr H c (i+1) m _ (by omega) (by omega) hw
theorem Qbq (hn:N<n) {ro:List Int} (hr:ro.length=N) {k0:Int->Bool->LL->oP R} (H:∀ w:List Bool,w.length=N->P (k0 (N:Int) false (Ak w))):∀ (c i m:Nat) (w:List Bool),i+c=N->c<m->w.length=N->P (Zw n (encI ro) (N:Int) k0 m (i:Int) (Ak w))
 |0,i,m+1,w,hi,_,hw=>by
  rw [Zw,show i=N by omega,Qi,cond_false];exact H w hw
 |c+1,i,m+1,w,hi,hm,hw=>by
  rw [Zw,Qc (by omega),QjG,Y0 (by omega) (by rw [Q0Z];omega),Q0,QjC,Q4q (show i<w.length by omega),Q0,QjR,Q6c,Qq (by omega)];exact Q7w hN (show i<N by omega) hr (fun w hw=>Qbq hn hr H c (i+1) m w (by omega) (by omega) hw) i 0 n _ (by omega) (by omega) (by rw [QjW];exact hw)
omit hN in
theorem Qfw:List.replicate N [D.int .i64 (0:Int)]=encI (List.replicate N 0):=by grind [encI,List.map_replicate]
omit hN in
theorem Qhp:List.replicate N [D.bool false]=Ak (List.replicate N false):=by grind [Ak,List.map_replicate]
omit hN in
theorem Q8l:(bif decide ((0:Int)<=((N:Nat):Int))&&decide (((N:Nat):Int)<=((N:Nat):Int)) then some () else none)=some ():=by simp_all
end
section
variable {per:Int} {E A:LL} {n:Nat} (p0:2<=per) (p1:per<=300) (hE:E.length<=48) (hA:A.length<400) (hr:∀ r∈A,R6 r) (hc:∀ r∈A,chk per E.length r=true) (hn:n=400)
include p0 p1 hE hA hr hc hn
theorem QgU (aj:Ur n per E A some=some true):∃ w:List Int,JE n per E A some=some (encI w)/\w.length=E.length:=by
 unfold JE;rw [aj,Q0,QjP,cond_false,Q8l,Q0,QjC,XF (by omega),Q0,List.length_replicate,Qfw];refine Qe7 (P:=fun X=>∃ w:List Int,X=some (encI w)/\w.length=E.length) hE (fun w hw=>?_) E.length 0 n _ (by omega) (by omega) (by simp);refine Qgi (P:=fun X=>∃ w:List Int,X=some (encI w)/\w.length=E.length) hE hA hr hc (by omega) (fun a b w hw=>?_) A 0 n w rfl (by omega) hw;rw [Xg,hw,Q8l,Q0,QjC,XF (by omega),Q0,Qfw];exact Qc6 (P:=fun X=>∃ w:List Int,X=some (encI w)/\w.length=E.length) hE (by omega) hw (fun a w hw=>⟨w,rfl,hw⟩) E.length 0 n 0 _ (by omega) (by omega) (by simp)
theorem QhK (aj:Ur n per E A some=some true) {bu:Int} {al:Bool}:∃ w:List Bool,GC n per E A bu al Tu11=some (per,E,A,Ak w,bu,0,false,al,false,0,encI (List.replicate E.length 0))/\w.length=E.length:=by
 obtain ⟨ro,k,h2⟩:=QgU p0 p1 hE hA hr hc hn aj;unfold GC;rw [k,Q0,Q8l,Q0,QjC,XF (by omega),Q0,Q0,XF (by omega),Q0,Qfw,Qhp,Xg,h2];exact Qbq (P:=fun X=>∃ w:List Bool,X=some (per,E,A,Ak w,bu,0,false,al,false,0,encI (List.replicate E.length 0))/\w.length=E.length) hE (by omega) h2 (fun w hw=>⟨w,rfl,hw⟩) E.length 0 n _ (by omega) (by omega) (by simp)
theorem Qbc {R:Type} {w:List Int} (hw:TG per E.length w) {kd f t mn mx q:Int} (hm:[Q4 kd,Q4 f,Q4 t,Q4 mn,Q4 mx,Q4 q]∈A) (K:Int->oP R):Tp n per (encI w) f t mn K=K (mn+(tat w t-tat w f-mn) % per):=by
 have hk:=Q4F (hc _ hm);have tf:=hw.tat (i:=f) (by omega) (by omega);have tt:=hw.tat (i:=t) (by omega) (by omega);have:=Qk0 (tat w t-tat w f-mn) (show per≠0 by omega);have:=Int.emod_lt_of_pos (tat w t-tat w f-mn) (show 0<per by omega);unfold Tp;simp -implicitDefEqProofs only [Q0,QjB,QjF,Q3,tf.1,tt.1,Q7 (x:=tat w t-tat w f) (by omega) (by omega),Q7 (x:=tat w t-tat w f-mn) (by omega) (by omega),Qfv (n:=n) (t:=per) (x:=tat w t-tat w f-mn) (by omega) (by omega) (by omega) (by omega),Q7 (x:=mn+(tat w t-tat w f-mn) % per) (by omega) (by omega)]
theorem QfK {w:List Int} (hw:TG per E.length w) {al fd:Bool} {best i:Int}:∃ b,Zg n per A al fd best (encI w) i some=some b:=by
 unfold Zg;have go:∀ (aj:LL) (j m:Nat) (s:Int),A.drop j=aj->aj.length<m->∃ b,QY n i (encI w) per A (some true) (fun a c d=>some (bif (bif al then fd else false) then (decide (a>=best)) else false)) m s (j:Int)=some b:=by
  intro aj;induction aj with
  |nil=>
   intro j m s hd hm;obtain ⟨m,rfl⟩:∃ k,m=k+1:=⟨m-1,by simp at hm;omega⟩;have:=ZP hd;rw [QY,show decide ((j:Int)<((A.length:Nat):Int))=false by simpa using this,cond_false]
   simp_all
  |cons r aj ih=>
   intro j m s hd hm;obtain ⟨m,rfl⟩:∃ k,m=k+1:=⟨m-1,by simp at hm;omega⟩;obtain ⟨e,an,ao⟩:=Yh hd;have ak:=QjD e;obtain ⟨kd,f,t,mn,mx,q,rfl⟩:=hr r ak;rw [QjV] at hm;rw [QY,Qc ao,QjG,Qe,e];simp -implicitDefEqProofs only [Q0,QjB,QjF,Q3,Qbc p0 p1 hE hA hr hc hn hw ak,Qq (show j<=1000 by omega)];cases (bif decide (f>i) then true else decide (t>i)) with
   |true=>exact ih (j+1) m _ an (by omega)
   |false=>
    rw [cond_false];cases decide (mn+(tat w t-tat w f-mn) % per>mx) with
    |true=>exact ⟨_,rfl⟩
    |false=>exact ih (j+1) m _ an (by omega)
 exact go A 0 n 0 rfl (by omega)
theorem QgP {w:List Int} (hw:TG per E.length w):∃ c e,NZ n per E A (encI w) Tu2=some (c,e):=by
 have hg:=(Qei p0 p1 hE (by omega) hr hA (tl:=w)).2;rw [<- hn] at hg;unfold NZ;rw [hg,Q0];cases Q6z per E A w with
 |false=>exact ⟨_,_,rfl⟩
 |true=>
  rw [QjP,cond_false];have go:∀ (aj:LL) (j m:Nat) (s:Int),A.drop j=aj->aj.length<m->∃ c e,J0 n (encI w) per A (fun d g h=>some (d,(0:Int))) m s (j:Int)=some (c,e):=by
   intro aj;induction aj with
   |nil=>
    intro j m s hd hm;obtain ⟨m,rfl⟩:∃ k,m=k+1:=⟨m-1,by simp at hm;omega⟩;have:=ZP hd;rw [J0,show decide ((j:Int)<((A.length:Nat):Int))=false by simpa using this,cond_false];exact ⟨_,_,rfl⟩
   |cons r aj ih=>
    intro j m s hd hm;obtain ⟨m,rfl⟩:∃ k,m=k+1:=⟨m-1,by simp at hm;omega⟩;obtain ⟨e,ao,an⟩:=Yh hd;have ak:=QjD e;obtain ⟨kd,f,t,mn,mx,q,rfl⟩:=hr r ak;rw [QjV] at hm;rw [J0,Qc an,QjG,Qe,e];simp -implicitDefEqProofs only [Q0,QjB,QjF,Q3,Qbc p0 p1 hE hA hr hc hn hw ak,Qq (show j<=1000 by omega)];exact ih (j+1) m _ ao (by omega)
  exact go A 0 n 0 rfl (by omega)
def Qfa (per:Int) (E A:LL) (fs:List Bool) (bu:Int) (X:Option (Bool × Int × LL × LL × LL × Int × Int × Bool × Bool × Bool × Int × LL × LL)):Prop:=
 ∃ r us ov fd best res w,X=some (r,per,E,A,Ak fs,bu,us,ov,false,fd,best,res,encI w)/\TG per E.length w/\(fd=true->∃ v,res=encI v/\TG per E.length v)
theorem QeA {fs:List Bool} (bb:fs.length=E.length) {bu:Int}:∀ (c d i:Nat) (us:Int) (ov fd:Bool) (best:Int) (res:LL) (w:List Int),i+c=E.length->c<d->TG per E.length w->(fd=true->∃ v,res=encI v/\TG per E.length v) ->
  Qfa per E A fs bu (Xk n d per E A (Ak fs) bu us ov false fd best res (encI w) (i:Int)):=by
 intro c;induction c with
 |zero=>
  intro d i us ov fd best res w hi hd hw hf;obtain ⟨d,rfl⟩:∃ k,d=k+1:=⟨d-1,by omega⟩;obtain ⟨c,e,a2⟩:=QgP p0 p1 hE hA hr hc hn hw;rw [Xk,VQ,show i=E.length by omega,show (((E.length:Nat):Int) == ((E.length:Nat):Int))=true by simp,QjG,Xg,hw.1,XF (by omega),Q0,a2,Q0];exact ⟨_,_,_,_,_,_,_,rfl,hw,fun _=>⟨w,rfl,hw⟩⟩
 |succ c ih=>
  intro d i us ov fd best res w hi hd hw hf;obtain ⟨d,rfl⟩:∃ k,d=k+1:=⟨d-1,by omega⟩;rw [Xk,VQ,show (((i:Nat):Int) == ((E.length:Nat):Int))=false by simp;omega,cond_false,Y0 (by omega) (by rw [Q0Z];omega),Q0,QjC,Q4q (show i<fs.length by omega)];simp -implicitDefEqProofs only [Q0,QjB,N3];have ay:∀ (M:Nat),(M:Int)<=per->∀ (k:Nat) (t m:Nat) (us:Int) (ov fd:Bool) (best:Int) (res:LL) (w:List Int),t+k=M->k<m->TG per E.length w->(fd=true->∃ v,res=encI v/\TG per E.length v) ->
    ∀ {k0:LL->LL->Int->LL->LL->Int->Int->Bool->Bool->Bool->Int->LL->Option (Bool × Int × LL × LL × LL × Int × Int × Bool × Bool × Bool × Int × LL × LL)} {k1:Int->Bool->LL->LL->Int->LL->LL->Int->Int->Bool->Bool->Bool->Int->LL->Option (Bool × Int × LL × LL × LL × Int × Int × Bool × Bool × Bool × Int × LL × LL)},
    (∀ us ov fd best res w,TG per E.length w->(fd=true->∃ v,res=encI v/\TG per E.length v)->Qfa per E A fs bu (k0 (Ak fs) (encI w) per E A bu us ov false fd best res)) ->
    (∀ a b us ov fd best res w,TG per E.length w->(fd=true->∃ v,res=encI v/\TG per E.length v)->Qfa per E A fs bu (k1 a b (Ak fs) (encI w) per E A bu us ov false fd best res)) ->
    Qfa per E A fs bu (Xc n (Xk n d) (i:Int) (M:Int) k0 k1 m (t:Int) (Ak fs) (encI w) per E A bu us ov false fd best res):=by
   intro M hM k;induction k with
   |zero=>
    intro t m us ov fd best res w ht hm hw hf k0 k1 f g;obtain ⟨m,rfl⟩:∃ k,m=k+1:=⟨m-1,by omega⟩;rw [Xc,show t=M by omega,Qi,cond_false];exact g _ _ _ _ _ _ _ w hw hf
   |succ k a3=>
    intro t m us ov fd best res w ht hm hw hf k0 k1 f g;obtain ⟨m,rfl⟩:∃ k,m=k+1:=⟨m-1,by omega⟩;have bi:=hw.1;rw [Xc,Qc (by omega),QjG];cases decide (wJ (us+1)>bu) with
    |true=>exact f _ _ _ _ _ w hw hf
    |false=>
     have az:TG per E.length (w.set i (t:Int)):=hw.set (by omega) (by omega);obtain ⟨b,hb⟩:=QfK p0 p1 hE hA hr hc hn az (al:=false) (fd:=fd) (best:=best) (i:=(i:Int));rw [cond_false,Y0 (by omega) (by rw [Xg];omega),Q0,QjC,Jd (show i<w.length by omega),Q0,QjR,NX,hb,Q0,Qq (show i<=1000 by omega),Qq (show t<=1000 by omega)];cases b with
     |true=>
      simp -implicitDefEqProofs only [QjP,cond_false];exact a3 (t+1) m _ _ _ _ _ _ (by omega) (by omega) az hf f g
     |false=>
      obtain ⟨r,a7,a9,bc,a4,a5,bg,hx,aw,ax⟩:=ih d (i+1) (wJ (us+1)) ov fd best res _ (by omega) (by omega) az hf;rw [Bool.not_false,QjG,hx,Q0];cases r with
      |true=>exact a3 (t+1) m _ _ _ _ _ _ (by omega) (by omega) aw ax f g
      |false=>exact f _ _ _ _ _ _ aw ax
  have e1:((1:Nat):Int)=1:=rfl;obtain ⟨q,hq⟩:=QjZ (show 0<=per by omega);cases fs[i]'(by omega) with
  |true=>exact ay 1 (by omega) 1 0 n us ov fd best res w (by omega) (by omega) hw hf (fun us ov fd best res w hw hf=>⟨_,_,_,_,_,_,_,rfl,hw,hf⟩) fun a b us ov fd best res w hw hf=>⟨_,_,_,_,_,_,_,rfl,hw,hf⟩
  |false=>
   have:=ay q (by omega) q 0 n us ov fd best res w (by omega) (by omega) hw hf (k0:=fun h j l o p s u x y z aa ab=>some (false,l,o,p,h,s,u,x,y,z,aa,ab,j)) (k1:=fun aq ar ac ad ae ag ah ai aj ak am an ao ap=>some (true,ae,ag,ah,ac,ai,aj,ak,am,an,ao,ap,ad)) (fun us ov fd best res w hw hf=>⟨_,_,_,_,_,_,_,rfl,hw,hf⟩) fun a b us ov fd best res w hw hf=>⟨_,_,_,_,_,_,_,rfl,hw,hf⟩
   rw [<- hq] at this;exact this
theorem QgT (aj:Ur n per E A some=some true):∃ res us e,UF n per E A 3000 Tu3=some (res,us,e)/\(e=0->∃ v,res=encI v/\TG per E.length v):=by
 obtain ⟨fs,d,h2⟩:=QhK p0 p1 hE hA hr hc hn aj (bu:=3000) (al:=false);obtain ⟨r,us,ov,fd,best,res,w,hx,hw,hf⟩:=QeA p0 p1 hE hA hr hc hn h2 (bu:=3000) E.length n 0 0 false false 0 [] (List.replicate E.length 0) (by omega) (by omega) ⟨by simp,fun x hx=>by have:=List.eq_of_mem_replicate hx;omega⟩ (fun e=>nomatch e);have ak:Q0Y n 3000 1 1048576 (some:Bool->Option Bool)=some true:=rfl;unfold UF Lc;rw [aj,Q0,QjP,cond_false,ak,Q0,QjP,cond_false,d,Q0];dsimp only;rw [show ((0:Nat):Int)=0 from rfl] at hx;rw [hx,Q0];dsimp only;cases ov with
 |true=>exact ⟨_,_,_,rfl,fun e=>by cases e⟩
 |false=>
  cases fd with
  |false=>exact ⟨_,_,_,rfl,fun e=>by cases e⟩
  |true=>exact ⟨_,_,_,rfl,fun _=>hf rfl⟩
omit p0 p1 hE hA hr hc hn in
theorem QfM (aj:Ur n per E A some=some false):∃ res us,UF n per E A 3000 Tu3=some (res,us,1):=by
 unfold UF Lc;rw [aj,Q0,Bool.not_false,QjG];exact ⟨_,_,rfl⟩
end
end Go.Vx
namespace Go.Vx
namespace Cx
variable {X:Cx} {per:Int} {Ch Sy A:LL} {tl:List Int}
theorem QaU {i:Nat} (hn:X.nr i=1\/X.nr i=2):(X.nr i=1/\X.pl i (X.nr i)=[X.aR i 0])\/(X.nr i=2/\X.pl i (X.nr i)=[X.aR i 0,X.aD i 0,X.aR i 1]):=by
 rcases hn with hn | hn
 ·exact .inl ⟨hn,by rw [hn];simp [pl,hn]⟩
 ·exact .inr ⟨hn,by rw [hn];simp [pl,hn]⟩
theorem Q8W {i j:Nat} (hj:j<(X.pl i (X.nr i)).length):∀ {L:Nat},i<L->(X.pls L)[(X.pls i).length+j]? = (X.pl i (X.nr i))[j]?
 |0,h=>by omega
 |L+1,h=>by
  rw [pls];by_cases hi:i=L
  ·subst hi;rw [List.getElem?_append_right (by omega),Nat.add_sub_cancel_left]
  ·have ih:=Q8W hj (L:=L) (by omega);have aj:(X.pls i).length+j<(X.pls L).length:=by
    rw [QjE hj] at ih;exact (QjL.1 ih).1
   rw [List.getElem?_append_left aj,ih]
variable (h:X.OK)
include h
theorem Fb {i:Nat} (hi:i<=X.Ls.length):(X.pls i).length+i=2*base X.nr i:=by
 induction i with
 |zero=>rfl
 |succ i ih=>
  have ih:=ih (by omega);rw [pls,List.length_append,base];rcases QaU (H8 h (i:=i) (by omega)).2.1 with ⟨a,h2⟩ | ⟨a,h2⟩
  ·rw [h2,a];simp;omega
  ·rw [h2,a];simp;omega
omit h
variable (g:X.Gd per Ch Sy A tl)
include g
theorem Gd.runAt {i k:Nat} (hi:i<X.Ls.length) (hk:k<X.nr i):A[2*base X.nr i-i+2*k]? = some (X.aR i k)/\(k<X.nr i-1->A[2*base X.nr i-i+2*k+1]? = some (X.aD i k)):=by
 obtain ⟨H,rfl,_⟩:=g.act;have hl:=Fb g.ok (i:=i) (by omega);have a:2*base X.nr i-i=(X.pls i).length:=by omega
 have at':∀ j r,(X.pl i (X.nr i))[j]? = some r->(X.planned Ch Sy++H)[2*base X.nr i-i+j]? = some r:=fun j r e=>by
  have hj:=(QjL.1 e).1;have e2:=Q8W hj (L:=X.L) hi;rw [e] at e2;have aj:=(QjL.1 e2).1;unfold planned;rw [a,QjJ,QjJ,QjJ,List.getElem?_append_left aj,e2]
 rcases QaU (H8 g.ok hi).2.1 with ⟨b,h2⟩ | ⟨b,h2⟩
 ·obtain rfl:k=0:=by omega
  exact ⟨at' 0 _ (by rw [h2];rfl),fun h=>by omega⟩
 ·obtain rfl | rfl:k=0\/k=1:=by omega
  ·exact ⟨at' 0 _ (by rw [h2];rfl),fun _=>at' 1 _ (by rw [h2];rfl)⟩
  ·exact ⟨at' 2 _ (by rw [h2];rfl),fun h=>by omega⟩
theorem Gd.turnAt {j:Nat} {t:Tup} (e:X.T[j]? = some t):A[2*X.N-X.L+Ch.length+j]? = some (X.tuE t):=by
 obtain ⟨H,rfl,_⟩:=g.act;have hl:=Fb g.ok (i:=X.L) (QjM _);have a:2*X.N-X.L+Ch.length=(X.pls X.L++Ch.map X.chE).length:=by rw [List.length_append,List.length_map];unfold N;omega
 have hj:=(QjL.1 e).1;unfold planned;rw [a,QjJ,QjJ,List.getElem?_append_right (by omega),Nat.add_sub_cancel_left,List.getElem?_append_left (by simpa using hj),QjY,e];rfl
def runV (X:Cx) (per:Int) (tl:List Int) (i k:Nat):Int:=Mo tl per (X.aR i k)
def gapV (X:Cx) (per:Int) (tl:List Int) (i k:Nat):Int × Bool:=if k<X.nr i-1 then (Mo tl per (X.aD i k),true) else match X.tn i with
 |some t=>(Mo tl per (X.tuE t),true)
 |none=>(0,false)
theorem Gd.run_mem {i k:Nat} (hi:i<X.Ls.length) (hk:k<X.nr i):X.aR i k∈A:=QjD (g.runAt hi hk).1
theorem Gd.turn_mem {t:Tup} (ht:t∈X.T):X.tuE t∈A:=by
 obtain ⟨j,e⟩:=List.getElem?_of_mem ht;exact QjD (g.turnAt e)
theorem Gd.runV_rng {i k:Nat} (hi:i<X.Ls.length) (hk:k<X.nr i) : -65536<=X.runV per tl i k/\X.runV per tl i k<=66000:=g.dur_rng (g.run_mem hi hk)
theorem Gd.gapV_rng {i k:Nat} (hi:i<X.Ls.length) (hk:k<X.nr i) : -65536<=(X.gapV per tl i k).1/\(X.gapV per tl i k).1<=66000:=by
 unfold gapV;split
 ·exact g.dur_rng (QjD ((g.runAt hi hk).2 (by assumption)))
 ·cases e:X.tn i with
  |none=>simp
  |some t=>exact g.dur_rng (g.turn_mem (Q2q e).1)
variable {R:Type}
theorem Gd.runP {i k:Nat} (hi:i<X.Ls.length) (hk:k<X.nr i) (K:Int->oP R):Xl 400 per A (encI tl) (X.fst X.L) (i:Int) (k:Int) K=K (X.runV per tl i k):=by
 have hb:=Ye g.ok (i:=i) (by omega);have hl:=Fb g.ok (i:=i) (by omega);have hn:=(H8 g.ok hi).2.1;have l1:=g.ok.l1;have e:=Q6f (X:=X) (i:=i) (L:=X.L) hi;rw [Qe] at e;have el:(X.fst X.L).length=X.Ls.length:=by simp [fst,encI,L]
 have hx:wJ (wJ (((2*base X.nr i:Nat):Int)-(i:Int))+((2*k:Nat):Int))=((2*base X.nr i-i+2*k:Nat):Int):=by
  rw [Q7 (x:=((2*base X.nr i:Nat):Int)-(i:Int)) (by omega) (by omega),Q7 (by omega) (by omega)];omega
 unfold Xl;rw [Y0 (by omega) (by omega),Q0,QjC,e];simp -implicitDefEqProofs only [Q0,QjB,Q3,M9 (a:=base X.nr i) (by omega),M9 (a:=k) (by omega),hx,g.durP (g.runAt hi hk).1];rfl
theorem Gd.gapP {i k:Nat} (hi:i<X.Ls.length) (hk:k<X.nr i) (K:Int->Bool->oP R):QZ 400 X.Ls Ch per A (encI tl) (encI ((List.range X.L).map (tix X.T))) (X.fst X.L) ((X.N:Nat):Int) (i:Int) (k:Int) K=K (X.gapV per tl i k).1 (X.gapV per tl i k).2:=by
 have hb:=Ye g.ok (i:=i) (by omega);have hN:X.N<=6:=base_le g.ok;have hl:=Fb g.ok (i:=i) (by omega);have aj:=Fb g.ok (i:=X.L) (QjM _);have hn:=(H8 g.ok hi).2.1;have l1:=g.ok.l1;have chl:=g.ls.chl;have ao:=g.ok.tl;have hw:wJ (((List.length (GJ X.Ls i):Nat):Int)-1)=((X.nr i-1:Nat):Int):=Jq (k:=X.nr i) (by omega) (by omega);unfold QZ gapV;rw [Qe,(H8 g.ok hi).1];simp -implicitDefEqProofs only [Q0,QjB,QjF,QG,hw];by_cases b:k<X.nr i-1
 ·have e:=Q6f (X:=X) (i:=i) (L:=X.L) hi;rw [Qe] at e;have el:(X.fst X.L).length=X.Ls.length:=by simp [fst,encI,L]
  have hx:wJ (wJ (wJ (((2*base X.nr i:Nat):Int)-(i:Int))+((2*k:Nat):Int))+1)=((2*base X.nr i-i+2*k+1:Nat):Int):=by
   rw [Q7 (x:=((2*base X.nr i:Nat):Int)-(i:Int)) (by omega) (by omega),Q7 (x:=((2*base X.nr i:Nat):Int)-(i:Int)+((2*k:Nat):Int)) (by omega) (by omega),Q7 (by omega) (by omega)];omega
  rw [Qc b,QjG,if_pos b,Y0 (by omega) (by omega),Q0,QjC,e];simp -implicitDefEqProofs only [Q0,QjB,Q3,M9 (a:=base X.nr i) (by omega),M9 (a:=k) (by omega),hx,g.durP ((g.runAt hi hk).2 b)]
 ·rw [show decide ((k:Int)<((X.nr i-1:Nat):Int))=false from decide_eq_false (by omega),cond_false,if_neg b];have et:Q1 (encI ((List.range X.L).map (tix X.T))) (i:Int)=some [Q4 (tix X.T i)]:=HM (by simp [show i<X.L from hi]);rw [et];simp -implicitDefEqProofs only [Q0,QjB,Q3];unfold tix tn;rcases Q5h (l:=X.T) (p:=fun t=>t.1 == i) with ⟨c,h2⟩ | ⟨t,j,c,h2,d⟩
  ·simp only [c,h2];rfl
  ·have ak:=(QjL.1 d).1;simp only [c,h2];have hx:wJ (wJ (wJ (((2*X.N:Nat):Int)-((List.length X.Ls:Nat):Int))+((List.length Ch:Nat):Int))+(j:Int))=((2*X.N-X.L+Ch.length+j:Nat):Int):=by
    unfold L at aj ⊢;unfold N at hN ⊢;unfold L at hN ⊢;rw [Q7 (x:=((2*base X.nr X.Ls.length:Nat):Int)-((List.length X.Ls:Nat):Int)) (by omega) (by omega),Q7 (x:=((2*base X.nr X.Ls.length:Nat):Int)-((List.length X.Ls:Nat):Int)+((List.length Ch:Nat):Int)) (by omega) (by omega),Q7 (by omega) (by omega)];omega
   rw [show decide ((j:Int)>=0)=true from QjO (by omega),QjG,M9 (a:=X.N) (by omega),hx,g.durP (g.turnAt d),Q0]
end Cx
end Go.Vx
namespace Go.Vx
variable {R:Type}
def Xy (n:Nat) (b c:Int) (d h i:LL) (e:Int) (f g j:LL) (k:Int) (k0:Int->Int->Bool->oP R):Nat->Int->Int->oP R
 | 0,_,_=>none
 | m+1,l,a=>bif decide (a<c) then gb true (QZ n h i e f g j d k b a Tu2) (0,false) fun q=>gb true (Xl n e f g d b a some) 0 fun r=>Xy n b c d h i e f g j k k0 m (wJ (l+(wJ (r+q.1)))) (wJ (a+1)) else k0 l a (decide (a<c))
def X4 (n:Nat) (h2:LL) (b:Int) (d c e:LL) (f:Int) (g h i:LL) (j:Int) (k0:Int->Int->Bool->oP R):Nat->Int->Int->oP R
 | 0,_,_=>none
 | m+1,k,a=>bif decide (a<b) then gb true (Q1 h2 a) [] fun o=>gb true (o[0]?) oF fun p=>gb true (pIw p) 0 fun l=>gb true (Q1 c l) [] fun q=>gb true (q[3]?) oF fun r=>gb true (pSl 4 r) [] fun s=>Xy n l (s.length:Int) d c e f g h i j (fun t u v=>X4 n h2 b d c e f g h i j k0 m t (wJ (a+1))) n k 0 else k0 k a (decide (a<b))
def ZE (n:Nat) (c d:LL) (a:Int) (e f g h:LL) (i:Int) (b:LL) (j:Bool) (K:Int->oP R):oP R:= bif !j then K 0 else X4 n b (b.length:Int) h c d a e f g i (fun k l m=>gb true (nz a) () fun o=>K (wJ (Int.tdiv k a))) n 0 0
end Go.Vx
namespace Go.Vx
variable {R:Type}
def VU (n:Nat) (b c d e f:LL) (g:Int) (h:List UInt8) (i j k l:Int) (K:LL->Int->Int->oP R):oP R:= gb true (ZN n b c d e f g h i j k l 0 0 Tu3) ([],0,0) fun a=>K a.1 a.2.1 a.2.2
end Go.Vx
namespace Go.Vx
theorem Q4Z {l:List Nat} {j i:Nat} (e:l[j]? = some i):Q1 (Q5u l) (j:Int)=some [Q4 (i:Int)]:=by
 rw [Qe];unfold Q5u;rw [QjY,e];rfl
namespace Cx
def sumR (X:Cx) (per:Int) (tl:List Int) (i:Nat):Nat->Int
 |0=>0
 |k+1=>sumR X per tl i k+(X.runV per tl i k+(X.gapV per tl i k).1)
def sumL (X:Cx) (per:Int) (tl:List Int) (ls:List Nat):Int:=ls.foldl (fun s i=>s+X.sumR per tl i (X.nr i)) 0
def lapsV (X:Cx) (per:Int) (tl:List Int) (ls:List Nat) (c:Bool):Int:=bif c then (X.sumL per tl ls).tdiv per else 0
variable {X:Cx} {per:Int} {Ch Sy A:LL} {tl:List Int} (g:X.Gd per Ch Sy A tl) {R:Type}
include g
theorem Gd.sumR_rng {i:Nat} (hi:i<X.Ls.length):∀ {k:Nat},k<=X.nr i -> -200000*(k:Int)<=X.sumR per tl i k/\X.sumR per tl i k<=200000*(k:Int)
 |0,_=>by simp [sumR]
 |k+1,hk=>by
  have ih:=Gd.sumR_rng hi (k:=k) (by omega);have a:=g.runV_rng hi (show k<X.nr i by omega);have h2:=g.gapV_rng hi (show k<X.nr i by omega);rw [sumR];omega
theorem Gd.sumL_rng {ls:List Nat} (aj:∀ i∈ls,i<X.Ls.length):∀ {j:Nat},j<=ls.length -> -400000*(j:Int)<=X.sumL per tl (ls.take j)/\X.sumL per tl (ls.take j)<=400000*(j:Int)
 |0,_=>by simp [sumL]
 |j+1,hj=>by
  have ih:=Gd.sumL_rng aj (j:=j) (by omega);have e:=QjE (l:=ls) (i:=j) (by omega);have hi:=aj _ (QjD e);have hn:=(H8 g.ok hi).2.1;have a:=g.sumR_rng hi (QjM (X.nr ls[j]));rw [YC e];unfold sumL at ih ⊢;rw [List.foldl_append];simp only [List.foldl_cons,List.foldl_nil];omega
theorem Q8v {ls:List Nat} {j i:Nat} (e:ls[j]? = some i):X.sumL per tl (ls.take (j+1))=X.sumL per tl (ls.take j)+X.sumR per tl i (X.nr i):=by
 rw [YC e];unfold sumL;rw [List.foldl_append];rfl
theorem Gd.lapsP {ls:List Nat} {c:Bool} (aj:∀ i∈ls,i<X.Ls.length) (an:ls.length<=10) (K:Int->oP R):ZE 400 X.Ls Ch per A (encI tl) (encI ((List.range X.L).map (tix X.T))) (X.fst X.L) ((X.N:Nat):Int) (Q5u ls) c K=K (X.lapsV per tl ls c):=by
 have p0:=g.p0;have p1:=g.p1;unfold ZE lapsV;cases c
 ·rfl
 rw [QjP,cond_false,QjG,show (Q5u ls).length=ls.length by simp [Q5u]];have hs:=g.sumL_rng aj (QjM ls.length);rw [QjS] at hs;have hb:((X.sumL per tl ls).tdiv per).natAbs=(X.sumL per tl ls).natAbs / per.natAbs:=Int.natAbs_tdiv ..;have ao:(X.sumL per tl ls).tdiv per<=10000000 /\ -10000000<=(X.sumL per tl ls).tdiv per:=by
  have:=Nat.div_le_self (X.sumL per tl ls).natAbs per.natAbs;omega
 refine Qu (r:=fun m j=>X4 400 (Q5u ls) ((ls.length:Nat):Int) (X.fst X.L) X.Ls Ch per A (encI tl) (encI ((List.range X.L).map (tix X.T))) ((X.N:Nat):Int) (fun a b d=>gb true (nz per) () fun f=>K (wJ (Int.tdiv a per))) m (X.sumL per tl (ls.take j.toNat)) j) (N:=ls.length) (fun m j hj=>?_) (fun m=>?_) ls.length 400 0 (by omega) (by omega)
 ·simp only [QjC];have e:=QjE hj;have hi:=aj _ (QjD e);have aq:=g.sumL_rng aj (j:=j) (by omega);have hn:=(H8 g.ok hi).2.1;rw [X4,Qc hj,QjG,Q4Z e];simp -implicitDefEqProofs only [Q0,QjB,QjF,Q3,QG,Qe,(H8 g.ok hi).1,Qq (show j<=1000 by omega)];refine Qu (r:=fun m' k=>Xy 400 ((ls[j]:Nat):Int) ((X.nr ls[j]:Nat):Int) (X.fst X.L) X.Ls Ch per A (encI tl) (encI ((List.range X.L).map (tix X.T))) ((X.N:Nat):Int) (fun h l n=>X4 400 (Q5u ls) ((ls.length:Nat):Int) (X.fst X.L) X.Ls Ch per A (encI tl) (encI ((List.range X.L).map (tix X.T))) ((X.N:Nat):Int) (fun a b d=>gb true (nz per) () fun f=>K (wJ (Int.tdiv a per))) m h ((j+1:Nat):Int)) m' (X.sumL per tl (ls.take j)+X.sumR per tl ls[j] k.toNat) k) (N:=X.nr ls[j]) (fun m' k hk=>?_) (fun m'=>?_) (X.nr ls[j]) 400 0 (by omega) (by omega) |> Eq.trans (by simp [sumR];rfl)
  ·simp only [QjC];have hr:=g.sumR_rng hi (k:=k) (by omega);have o:=g.runV_rng hi hk;have h2:=g.gapV_rng hi hk;rw [Xy,Qc hk,QjG,g.gapP hi hk,Q0,g.runP hi hk,Q0,Q7 (x:=X.runV per tl ls[j] k+(X.gapV per tl ls[j] k).1) (by omega) (by omega),Q7 (by omega) (by omega),Qq (show k<=1000 by omega),sumR,Int.add_assoc]
  ·simp only [QjC];rw [Xy,Qi,cond_false,Q8v g e]
 ·simp only [QjC];rw [X4,Qi,cond_false,QjS,EE (by omega),Q0,Q7 (by omega) (by omega)]
omit g
def stair (X:Cx) (i k:Nat):List Occ:=Q4t X.G.St X.G.Pt X.G.Se X.G.Li (X.st i k) (X.rn i k) 0 0
variable (h:X.OK)
include h
theorem Cm {i k:Nat} (hi:i<X.Ls.length) (hk:k<X.nr i):OL (-1) (X.stair i k)/\(X.stair i k).length<=6:=Q9f (rd h hi hk).rt h.sk (by omega) (by omega) (by omega) (by omega)
theorem QdR {i k:Nat} (hi:i<X.Ls.length) (hk:k<X.nr i) (K:LL->Int->Int->oP R):VU 400 X.G.St X.G.Pt X.G.Se X.G.Li (X.st i k) 0 X.nm X.tl X.sp X.ac X.br K=K ((X.stair i k).map enc) (X.run i k) 0:=by
 have hh:=Qek (rd h hi hk).rt (nm:=X.nm) h.sk (show (0:Int)<=0 by omega) (by omega) (show (0:Int)<=0 by omega) (by omega);unfold ZX at hh;have r:=(rd h hi hk).rt;rw [QcJ r.lay rfl r.l2 r.l24 r.rt r.st h.sk,Q0,Q9 (by rfl),Q9 (by rfl)] at hh;unfold VU;cases e:ZN 400 X.G.St X.G.Pt X.G.Se X.G.Li (X.st i k) 0 X.nm X.tl X.sp X.ac X.br 0 0 Tu3 with
 |none=>rw [e] at hh;cases hh
 |some v=>
  obtain ⟨a,b,c⟩:=v;rw [e,Q0] at hh;cases hh;rfl
end Cx
end Go.Vx
namespace Go.Vx
theorem QbP {St Pt Se Li s:LL} (h:RtF St Pt Se Li s) {j:Nat} (hj:j<s.length):∃ (d:Int) (nm:List UInt8) (a b c st:Int),s[j]? = some [Q4 (sec s j:Int),Q4 d]/\Q1 Se (sec s j:Int)=some [D.str nm,Q4 a,Q4 b,Q4 c,Q4 st]:=by
 obtain ⟨x,d,nm,b,c,st,e,f,a0,a1,hd⟩:=Ft h.st hj;have hx:=Gs f;have g:0<=x:=by
  have h2:=hx.1;unfold inB at h2;by_cases hc:0<=x
  ·exact hc
  ·rw [show (decide (0<=x)&&decide (x<(Se.length:Int)))=false by simp;omega] at h2;cases h2
 have aj:x=((sec s j:Nat):Int):=by
  unfold sec;rw [QjH,e];show x=((x.toNat:Nat):Int);omega
 rw [aj] at e f;exact ⟨d,nm,_,b,c,st,e,f⟩
end Go.Vx
namespace Go.Vx
def Cv (T:List Occ) (r:Nat) (f t:Int):Prop:=∃ x a b,T[r]? = some (x,a,b)/\a<=f/\t<=b/\a<b
theorem Cv.add {T:List Occ} {r r':Nat} {f t f' t':Int} (h:Cv T r f t) (hf:f'<t'):Cv (Mb T r' f' t') r f t:=by
 obtain ⟨x,a,b,e,i,h2,g⟩:=h;have hr:=(QjL.1 e).1;unfold Mb;by_cases aj:r'=r
 ·subst aj;rw [e];dsimp only;rw [if_pos g];refine ⟨_,_,_,by rw [List.getElem?_set_self hr],?_,?_,?_⟩
  ·split <;> omega
  ·split <;> omega
  ·split <;> split <;> omega
 ·cases e':T[r']? with
  |none=>exact ⟨x,a,b,e,i,h2,g⟩
  |some q=>
   obtain ⟨y,c,d⟩:=q;dsimp only;split
   ·exact ⟨x,a,b,by rw [List.getElem?_set_ne aj,e],i,h2,g⟩
   ·exact ⟨x,a,b,by rw [List.getElem?_set_ne aj,e],i,h2,g⟩
theorem Cv.new {T:List Occ} {r:Nat} {f t:Int} (hf:f<t) (hr:r<T.length):Cv (Mb T r f t) r f t:=by
 obtain ⟨⟨x,a,b⟩,e⟩:∃ q,T[r]? = some q:=⟨T[r],QjE hr⟩;unfold Mb;rw [e];dsimp only;split
 ·refine ⟨_,_,_,by rw [List.getElem?_set_self hr],?_,?_,?_⟩
  ·split <;> omega
  ·split <;> omega
  ·split <;> split <;> omega
 ·exact ⟨_,_,_,by rw [List.getElem?_set_self hr],Int.le_refl _,Int.le_refl _,hf⟩
def Bd (R:Int) (T:List Occ):Prop:=∀ q∈T,q.2.1<q.2.2->q.2.1<=R/\0<=q.2.2
theorem Bd.add {R:Int} {T:List Occ} (h:Bd R T) {r:Nat} {f t:Int} (hf:f<=R) (ht:0<=t):Bd R (Mb T r f t):=by
 unfold Mb;cases e:T[r]? with
 |none=>exact h
 |some q=>
  obtain ⟨x,a,b⟩:=q;have c:=h _ (QjD e);dsimp only at c ⊢;split
  ·intro q hq _;rcases List.mem_or_eq_of_mem_set hq with hq | rfl
   ·exact h q hq (by assumption)
   ·have c:=c (by assumption);dsimp only;constructor <;> split <;> omega
  ·intro q hq _;rcases List.mem_or_eq_of_mem_set hq with hq | rfl
   ·exact h q hq (by assumption)
   ·exact ⟨hf,ht⟩
section
variable {N NP:Nat} {Li s:LL} {f g:Nat->Int}
theorem Q92 (hs:∀ i,i<s.length->sec s i<N) (a:∀ i,i<s.length->f i<g i) (h2:∀ i,1<=i->i<s.length->f i<g (i-1)) {j:Nat}:∀ {i:Nat},j<i->i<=s.length->Cv (TW N NP Li s f g i) (sec s j) (f j) (g j)
 |0,hj,_=>by omega
 |i+1,hj,hi=>by
  have hf:=a i (by omega);have hl:sec s i<(TW N NP Li s f g i).length:=by
   have:=hs i (by omega);rw [HC];omega
  have hc:Cv (Mb (TW N NP Li s f g i) (sec s i) (f i) (g i)) (sec s j) (f j) (g j):=by
   by_cases e:j=i
   ·subst e;exact Cv.new hf hl
   ·exact (Q92 hs a h2 (i:=i) (by omega) (by omega)).add hf
  rw [TW];split
  ·exact hc
  ·split
   ·exact hc
   ·exact hc.add (h2 i (by omega) (by omega))
theorem Q8k {R:Int} (c:∀ i,i<s.length->f i<=R/\0<=g i):∀ {i:Nat},i<=s.length->Bd R (TW N NP Li s f g i)
 |0,_=>by
  intro q hq aj;rw [TW] at hq;have:=List.eq_of_mem_replicate hq;subst this;simp at aj
 |i+1,hi=>by
  have ih:=Q8k c (i:=i) (by omega);have a:=c i (by omega);rw [TW];split
  ·exact ih.add a.1 a.2
  ·have b:=c (i-1) (by omega);split
   ·exact ih.add a.1 a.2
   ·exact (ih.add a.1 a.2).add a.1 b.2
end
theorem Qcw {St Pt Se Li s:LL} (h:RtF St Pt Se Li s) {nm:List UInt8} {tl sp ac br:Int} (hk:StkN tl sp ac br) {i:Nat} (hi:i<=s.length):TI (TW Se.length Pt.length Li s (fr Se s (YS Se s nm tl sp ac br) 0) (tu Se s (YS Se s nm tl sp ac br) 0) i):=by
 have aj:=fun i (hi:i<s.length)=>Qdl h (nm:=nm) hk (Int.le_refl 0) (by omega) (Int.le_refl 0) (by omega) hi
 induction i with
 |zero=>
  intro r x a b e ak;obtain ⟨d,h2⟩:=QjL.1 e;simp only [TW,List.getElem_replicate] at h2;cases h2;omega
 |succ i ih=>
  have ih:=ih (by omega);have q:=aj i (by omega);rw [TW];split
  ·exact ih.add q.1 q.2
  ·have c:=aj (i-1) (by omega);split
   ·exact ih.add q.1 q.2
   ·exact (ih.add q.1 q.2).add q.1 c.2
namespace Cx
variable {X:Cx} (h:X.OK)
include h
theorem QdO {i k:Nat} (hi:i<X.Ls.length) (hk:k<X.nr i) {j:Nat} (hj:j<(X.st i k).length):sec (X.st i k) j<X.G.Se.length:=by
 obtain ⟨d,nm,a,b,c,st,_,e⟩:=QbP (rd h hi hk).rt hj;have:=(Gs e).1;unfold inB at this;by_cases hc:(sec (X.st i k) j:Int)<(X.G.Se.length:Int)
 ·omega
 ·rw [decide_eq_false hc,Bool.and_false] at this;cases this
theorem Q8u {i k:Nat} (hi:i<X.Ls.length) (hk:k<X.nr i) :
  (∀ q∈X.stair i k,0<=q.1/\q.2.1<q.2.2/\q.2.1<=X.run i k/\0<=q.2.2)/\(∃ q∈X.stair i k,q.1<(X.G.Se.length:Int)/\0<q.2.2) /\
  ∀ s,0<=s->s<X.run i k->∃ q∈X.stair i k,q.2.1<=s/\s<q.2.2:=by
 have hr:=(rd h hi hk).rt;have l2:=hr.l2;have a4:=F6 hr.lay;have aq:=fun j (hj:j<(X.st i k).length)=>QdO h hi hk hj
 have ak:=fun j (hj:j<(X.st i k).length)=>QgG hr (nm:=X.nm) h.sk (Int.le_refl 0) (by omega) (Int.le_refl 0) (by omega) hj
 have an:=fun a b (aw:a<=b) (hb:b<(X.st i k).length)=>Q3X hr (nm:=X.nm) h.sk aw hb
 have ay:=Cm h hi hk;unfold run;have er:X.rn i k=YS X.G.Se (X.st i k) X.nm X.tl X.sp X.ac X.br:=rfl;rw [<- er] at ak an;have ar:=ND hr (nm:=X.nm) h.sk;rw [<- er] at ar;have hlast:=an ((X.st i k).length-1) ((X.st i k).length-1) (QjM _) (by omega);have aj:fLV X.G.Se (X.st i k) (X.rn i k) ((X.st i k).length-1)=(X.rn i k).T (X.rn i k).N:=by unfold fLV;rw [if_neg (by omega)]
 rw [aj] at hlast;have a7:=D8 (a:=(X.rn i k).T (X.rn i k).N) (by omega) (show (1:Int)<=1000 by decide);have eS:AE (X.rn i k)=cd ((X.rn i k).T (X.rn i k).N) 1000:=rfl;have l:fr X.G.Se (X.st i k) (X.rn i k) 0 0=0:=by unfold fr;simp
 have a5:tu X.G.Se (X.st i k) (X.rn i k) 0 ((X.st i k).length-1)=AE (X.rn i k):=by unfold tu;rw [if_neg (by omega)];omega
 have hb:∀ j,j<(X.st i k).length->fr X.G.Se (X.st i k) (X.rn i k) 0 j<=AE (X.rn i k)/\0<=tu X.G.Se (X.st i k) (X.rn i k) 0 j:=by
  intro j hj;have hT:=an (j-1) ((X.st i k).length-1) (by omega) (by omega);rw [aj] at hT;have hL:=an j j (QjM _) hj;have hc:=D8 (a:=fLV X.G.Se (X.st i k) (X.rn i k) j) (by omega) (show (1:Int)<=1000 by decide);constructor
  ·unfold fr;split <;> omega
  ·unfold tu;split <;> omega
 have a2:∀ j,1<=j->j<(X.st i k).length->fr X.G.Se (X.st i k) (X.rn i k) 0 j<=tu X.G.Se (X.st i k) (X.rn i k) 0 (j-1):=fun j c hj=>by
  have:=(ak j hj).2.2.2 c;omega
 have au:∀ j,j<(X.st i k).length->∃ q∈X.stair i k,q.1=(sec (X.st i k) j:Int)/\q.2.1<=fr X.G.Se (X.st i k) (X.rn i k) 0 j/\tu X.G.Se (X.st i k) (X.rn i k) 0 j<=q.2.2:=fun j hj=>by
  obtain ⟨x,a,b,e,c,h2,d⟩:=Q92 (N:=X.G.Se.length) (NP:=X.G.Pt.length) (Li:=X.G.Li) (s:=X.st i k) (f:=fr X.G.Se (X.st i k) (X.rn i k) 0) (g:=tu X.G.Se (X.st i k) (X.rn i k) 0) aq (fun j hj=>(ak j hj).2.1) (fun j c hj=>(ak j hj).2.2.2 c) (j:=j) (i:=(X.st i k).length) hj (QjM _);have hm:(x,a,b)∈X.stair i k:=List.mem_filter.2 ⟨QjD e,by simpa [Pq] using d⟩;refine ⟨_,hm,?_,c,h2⟩;have ax:TI (TW X.G.Se.length X.G.Pt.length X.G.Li (X.st i k) (fr X.G.Se (X.st i k) (X.rn i k) 0) (tu X.G.Se (X.st i k) (X.rn i k) 0) (X.st i k).length):=Qcw hr h.sk (QjM _);exact (ax _ _ _ _ e d).1
 refine ⟨fun q hq=>?_,?_,fun s s0 s1=>?_⟩
 ·have hm:=ay.1.mem q hq;have az:=Q8k (N:=X.G.Se.length) (NP:=X.G.Pt.length) (Li:=X.G.Li) hb (QjM _) q (List.mem_filter.1 hq).1 hm.2.2.1;exact ⟨by omega,hm.2.2.1,az⟩
 ·obtain ⟨q,hq,e,_,h2⟩:=au 0 (by omega);have:=aq 0 (by omega);have:=(ak 0 (by omega)).2.1;exact ⟨q,hq,by omega,by omega⟩
 ·have ao:∀ n,n<(X.st i k).length->s<tu X.G.Se (X.st i k) (X.rn i k) 0 n->∃ j,j<(X.st i k).length/\fr X.G.Se (X.st i k) (X.rn i k) 0 j<=s/\s<tu X.G.Se (X.st i k) (X.rn i k) 0 j:=by
   intro n;induction n with
   |zero=>exact fun hn hs=>⟨0,hn,by omega,hs⟩
   |succ n ih=>
    intro hn hs;by_cases hc:fr X.G.Se (X.st i k) (X.rn i k) 0 (n+1)<=s
    ·exact ⟨n+1,hn,hc,hs⟩
    ·have:=a2 (n+1) (by omega) hn;exact ih (by omega) (by rw [Nat.add_sub_cancel] at this;omega)
  obtain ⟨j,hj,c,h2⟩:=ao ((X.st i k).length-1) (by omega) (by omega);obtain ⟨q,hq,_,d,m⟩:=au j hj;exact ⟨q,hq,by omega,by omega⟩
end Cx
end Go.Vx
namespace Go.Vx
abbrev U:=Nat × Nat × Int × Int × Int
def Cl (u:U):List D:=[Q4 (u.1:Int),Q4 (u.2.1:Int),Q4 u.2.2.1,Q4 u.2.2.2.1,Q4 u.2.2.2.2]
def Rn (us:List U) (u:U):List U:=if 0<u.2.2.2.1 then us++[u] else us
theorem Fc {us:List U} {u:U}:(Rn us u).length<=us.length+1:=by
 unfold Rn;split <;> simp
namespace Cx
variable {X:Cx} {per:Int} {Ch Sy A:LL} {tl:List Int}
def endV (X:Cx) (per:Int) (tl:List Int) (i k:Nat) (at':Int):Int:=at'+X.runV per tl i k+(if (X.gapV per tl i k).2=true then (X.gapV per tl i k).1 else 60)
def occU (train:Nat) (laps at':Int) (us:List U) (l:List Occ):List U:=l.foldl (fun us o=>Rn us (o.1.toNat,train,at'+o.2.1,o.2.2-o.2.1,laps)) us
def stM (X:Cx) (per:Int) (tl:List Int) (mv c:Bool) (idx train:Nat) (laps:Int) (i k:Nat) (s:Int × List U):Int × List U:=
 (X.endV per tl i k s.1,Rn (bif mv then occU train laps s.1 (if c=false/\idx=0/\k=0 then Rn s.2 (sec (X.st i k) 0,train,s.1-60,60,laps) else s.2) (X.stair i k) else if c=false/\idx=0/\k=0 then Rn s.2 (sec (X.st i k) 0,train,s.1-60,60,laps) else s.2) (sec (X.st i k) ((X.st i k).length-1),train,s.1+X.run i k,X.endV per tl i k s.1-s.1-X.run i k,laps))
def rideM (X:Cx) (per:Int) (tl:List Int) (mv c:Bool) (idx train:Nat) (laps:Int) (i:Nat) (s:Int × List U):Nat->Int × List U
 |0=>s
 |k+1=>X.stM per tl mv c idx train laps i k (rideM X per tl mv c idx train laps i s k)
def lineM (X:Cx) (per:Int) (tl:List Int) (mv c:Bool) (train:Nat) (laps:Int) (ls:List Nat) (s:Int × List U):Nat->Int × List U
 |0=>s
 |j+1=>X.rideM per tl mv c j train laps (ls.getD j 0) (lineM X per tl mv c train laps ls s j) (X.nr (ls.getD j 0))
def trainM (X:Cx) (per:Int) (tl:List Int) (mv:Bool) (us:List U) (train:Nat) (r:List Nat × Bool):List U:=(X.lineM per tl mv r.2 train (X.lapsV per tl r.1 r.2) r.1 (tat tl ((2*base X.nr (r.1.getD 0 0):Nat):Int),us) r.1.length).2
def usesM (X:Cx) (per:Int) (tl:List Int) (mv:Bool) (rs:List (List Nat × Bool)):Nat->List U
 |0=>[]
 |j+1=>X.trainM per tl mv (usesM X per tl mv rs j) j (rs.getD j ([],false))
variable (g:X.Gd per Ch Sy A tl)
include g
theorem Gd.endV_rng {i k:Nat} (hi:i<X.Ls.length) (hk:k<X.nr i) {a:Int}:a-140000<=X.endV per tl i k a/\X.endV per tl i k a<=a+140000:=by
 have b:=g.runV_rng hi hk;have h2:=g.gapV_rng hi hk;unfold endV;split <;> omega
omit g in
theorem Ca {train:Nat} {laps a:Int}:∀ {l:List Occ} {us:List U},(occU train laps a us l).length<=us.length+l.length
 |[],us=>by simp [occU]
 |o::l,us=>by
  have:=Ca (train:=train) (laps:=laps) (a:=a) (l:=l) (us:=Rn us (o.1.toNat,train,a+o.2.1,o.2.2-o.2.1,laps));have:=Fc (us:=us) (u:=(o.1.toNat,train,a+o.2.1,o.2.2-o.2.1,laps));rw [QjV];unfold occU at *
  rw [List.foldl_cons];omega
theorem Gd.rideM_rng {mv c:Bool} {idx train:Nat} {laps:Int} {i:Nat} (hi:i<X.Ls.length) {s:Int × List U}:∀ {k:Nat},k<=X.nr i->s.1-140000*(k:Int)<=(X.rideM per tl mv c idx train laps i s k).1/\(X.rideM per tl mv c idx train laps i s k).1<=s.1+140000*(k:Int)/\(X.rideM per tl mv c idx train laps i s k).2.length<=s.2.length+8*k
 |0,_=>by simp [rideM]
 |k+1,hk=>by
  have ih:=Gd.rideM_rng (mv:=mv) (c:=c) (idx:=idx) (train:=train) (laps:=laps) hi (s:=s) (k:=k) (by omega);have he:=g.endV_rng hi (show k<X.nr i by omega) (a:=(X.rideM per tl mv c idx train laps i s k).1);rw [rideM];unfold stM;refine ⟨by dsimp only;omega,by dsimp only;omega,Nat.le_trans Fc ?_⟩;have b:=(Cm g.ok hi (show k<X.nr i by omega)).2;have hf:(if c=false/\idx=0/\k=0 then Rn (X.rideM per tl mv c idx train laps i s k).2 (sec (X.st i k) 0,train,(X.rideM per tl mv c idx train laps i s k).1-60,60,laps) else (X.rideM per tl mv c idx train laps i s k).2).length<=(X.rideM per tl mv c idx train laps i s k).2.length+1:=by
   split
   ·exact Fc
   ·omega
  cases mv with
  |false=>rw [cond_false];omega
  |true=>
   rw [QjG];have:=Ca (train:=train) (laps:=laps) (a:=(X.rideM per tl true c idx train laps i s k).1) (l:=X.stair i k) (us:=if c=false/\idx=0/\k=0 then Rn (X.rideM per tl true c idx train laps i s k).2 (sec (X.st i k) 0,train,(X.rideM per tl true c idx train laps i s k).1-60,60,laps) else (X.rideM per tl true c idx train laps i s k).2);omega
theorem Gd.lineM_rng {mv c:Bool} {train:Nat} {laps:Int} {ls:List Nat} (aj:∀ i∈ls,i<X.Ls.length) {s:Int × List U}:∀ {j:Nat},j<=ls.length->s.1-280000*(j:Int)<=(X.lineM per tl mv c train laps ls s j).1/\(X.lineM per tl mv c train laps ls s j).1<=s.1+280000*(j:Int)/\(X.lineM per tl mv c train laps ls s j).2.length<=s.2.length+16*j
 |0,_=>by simp [lineM]
 |j+1,hj=>by
  have ih:=Gd.lineM_rng (mv:=mv) (c:=c) (train:=train) (laps:=laps) aj (s:=s) (j:=j) (by omega);have e:=QjE (l:=ls) (i:=j) (by omega);have hi:=aj _ (QjD e);have hn:=(H8 g.ok hi).2.1;have hd:ls.getD j 0=ls[j]:=by rw [QjH,e];rfl
  rw [lineM,hd];have:=g.rideM_rng (mv:=mv) (c:=c) (idx:=j) (train:=train) (laps:=laps) hi (s:=X.lineM per tl mv c train laps ls s j) (QjM (X.nr ls[j]));omega
omit g in
theorem Q9n {rs:List (List Nat × Bool)}:∀ {j:Nat} {r:List Nat × Bool},rs[j]? = some r->Q3w (rs.take (j+1))=Q3w (rs.take j)+r.1.length:=by
 induction rs with
 |nil=>exact fun h=>by simp at h
 |cons a rs ih=>
  intro j r e;cases j with
  |zero=>cases e;simp [Q3w]
  |succ j=>
   have:=ih (j:=j) (by simpa using e);rw [List.take_succ_cons,List.take_succ_cons,Q3w,Q3w,this];omega
omit g in
theorem Q7M {rs:List (List Nat × Bool)}:∀ {j:Nat},Q3w (rs.take j)<=Q3w rs:=by
 induction rs with
 |nil=>simp
 |cons a rs ih=>
  intro j;cases j with
  |zero=>exact Nat.zero_le _
  |succ j=>rw [List.take_succ_cons,Q3w,Q3w];exact Nat.add_le_add_left ih _
structure RsOK (X:Cx) (rs:List (List Nat × Bool)):Prop where
 ls:∀ r∈rs,1<=r.1.length/\∀ i∈r.1,i<X.Ls.length
 sum:Q3w rs<=3
omit g in
theorem RsOK.len3 {rs:List (List Nat × Bool)} (hr:X.RsOK rs) {j:Nat} {r:List Nat × Bool} (e:rs[j]? = some r):r.1.length<=3:=by
 have:=Q9n e;have:=Q7M (rs:=rs) (j:=j+1);have:=hr.sum;omega
omit g in
theorem RsOK.n3:∀ {rs:List (List Nat × Bool)},X.RsOK rs->rs.length<=Q3w rs
 |[],_=>QjM _
 |a::rs,hr=>by
  have:=hr.ls a (.head _);have ih:=RsOK.n3 (rs:=rs) ⟨fun r h=>hr.ls r (.tail _ h),by have:=hr.sum;rw [Q3w] at this;omega⟩;rw [QjV,Q3w];omega
omit g in
theorem Q5b {P:List U->Prop} {train:Nat} {laps a:Int}:∀ {l:List Occ} {us:List U},(∀ us u,P us->u.2.1=train->P (Rn us u))->P us->P (occU train laps a us l)
 |[],us,_,h=>h
 |o::l,us,hP,h=>by
  unfold occU;rw [List.foldl_cons];exact Q5b hP (hP _ _ h rfl)
omit g in
theorem QbR {P:List U->Prop} {mv c:Bool} {idx train:Nat} {laps:Int} (hP:∀ us u,P us->u.2.1=train->P (Rn us u)) {i k:Nat} {s:Int × List U} (h:P s.2):P (X.stM per tl mv c idx train laps i k s).2:=by
 unfold stM;refine hP _ _ ?_ rfl;have hf:P (if c=false/\idx=0/\k=0 then Rn s.2 (sec (X.st i k) 0,train,s.1-60,60,laps) else s.2):=by
  split
  ·exact hP _ _ h rfl
  ·exact h
 cases mv with
 |false=>exact hf
 |true=>exact Q5b hP hf
omit g in
theorem Q3J {P:List U->Prop} {mv c:Bool} {idx train:Nat} {laps:Int} (hP:∀ us u,P us->u.2.1=train->P (Rn us u)) {i:Nat} {s:Int × List U} (h:P s.2):∀ {k:Nat},P (X.rideM per tl mv c idx train laps i s k).2
 |0=>h
 |k+1=>by
  rw [rideM];exact QbR hP (Q3J hP h)
omit g in
theorem LM {P:List U->Prop} {mv c:Bool} {train:Nat} {laps:Int} {ls:List Nat} (hP:∀ us u,P us->u.2.1=train->P (Rn us u)) {s:Int × List U} (h:P s.2):∀ {j:Nat},P (X.lineM per tl mv c train laps ls s j).2
 |0=>h
 |j+1=>by
  rw [lineM];exact Q3J hP (LM hP h)
end Cx
end Go.Vx
namespace Go.Vx
theorem Q9R {a b:List U} {u:U} (h:a.Sublist b):(Rn a u).Sublist (Rn b u):=by
 grind [Rn]
theorem QcD {a b:List U} {u:U} (h:a.Sublist b):a.Sublist (Rn b u):=by
 grind [Rn,List.sublist_append_left]
theorem P2 {us:List U} {u v:U} (h:v∈Rn us u):v∈us\/v=u/\0<u.2.2.2.1:=by
 grind [Rn]
theorem NY {us:List U} {u v:U} (h:v∈us):v∈Rn us u:=by
 grind [Rn,List.mem_append_left]
theorem C5 {us:List U} {u:U} (h:0<u.2.2.2.1):u∈Rn us u:=by
 grind [Rn]
structure CovI (t:Nat) (lo hi:Int) (us:List U):Prop where
 le:lo<=hi
 nn:0<=hi
 bd:∀ u∈us,u.2.1=t->u.2.2.1<=hi/\lo<=u.2.2.1+u.2.2.2.1
 cv:∀ s,lo<=s->s<hi->∃ u∈us,u.2.1=t/\u.2.2.1<=s/\s<u.2.2.1+u.2.2.2.1
theorem CovI.other {t:Nat} {lo hi:Int} {us:List U} (h:CovI t lo hi us) {u:U} (hu:u.2.1≠t):CovI t lo hi (Rn us u) where
 le:=h.le
 nn:=h.nn
 bd:=fun v hv e=>by
  rcases P2 hv with hv | ⟨rfl,_⟩
  ·exact h.bd v hv e
  ·exact absurd e hu
 cv:=fun s a b=>by
  obtain ⟨v,hv,r⟩:=h.cv s a b;exact ⟨v,NY hv,r⟩
theorem CovI.mid {t:Nat} {lo hi:Int} {us:List U} (h:CovI t lo hi us) {u:U} (a:u.2.2.1<=hi) (h2:lo<=u.2.2.1+u.2.2.2.1):CovI t lo hi (Rn us u) where
 le:=h.le
 nn:=h.nn
 bd:=fun v hv e=>by
  rcases P2 hv with hv | ⟨rfl,_⟩
  ·exact h.bd v hv e
  ·exact ⟨a,h2⟩
 cv:=fun s b a=>by
  obtain ⟨v,hv,r⟩:=h.cv s b a;exact ⟨v,NY hv,r⟩
theorem CovI.post {t:Nat} {lo hi aj:Int} {us:List U} (h:CovI t lo hi us) {u:U} (ht:u.2.1=t) (c:u.2.2.1=hi) (h2:u.2.2.2.1=aj-hi) (a:hi<=aj):CovI t lo aj (Rn us u) where
 le:=Int.le_trans h.le a
 nn:=Int.le_trans h.nn a
 bd:=fun v hv e=>by
  have:=h.le;rcases P2 hv with hv | ⟨rfl,_⟩
  ·have:=h.bd v hv e;omega
  ·omega
 cv:=fun s b hs=>by
  by_cases hc:s<hi
  ·obtain ⟨v,hv,r⟩:=h.cv s b hc;exact ⟨v,NY hv,r⟩
  ·exact ⟨u,C5 (by omega),ht,by omega,by omega⟩
theorem CovI.pre {t:Nat} {lo aj hi:Int} {us:List U} (h:CovI t lo hi us) {u:U} (ht:u.2.1=t) (b:u.2.2.1=aj) (h2:u.2.2.2.1=lo-aj) (a:aj<=lo):CovI t aj hi (Rn us u) where
 le:=Int.le_trans a h.le
 nn:=h.nn
 bd:=fun v hv e=>by
  have:=h.le;rcases P2 hv with hv | ⟨rfl,_⟩
  ·have:=h.bd v hv e;omega
  ·omega
 cv:=fun s c hs=>by
  by_cases hc:lo<=s
  ·obtain ⟨v,hv,r⟩:=h.cv s hc hs;exact ⟨v,NY hv,r⟩
  ·exact ⟨u,C5 (by omega),ht,by omega,by omega⟩
theorem CovI.any {t:Nat} {lo hi:Int} {us:List U} (h:CovI t lo hi us) {u v:U} (hu:u∈us) (hv:v∈us) (tu:u.2.1=t) (tv:v.2.1=t) {s:Int} (c:u.2.2.1<=s) (h2:s<v.2.2.1+v.2.2.2.1):∃ w∈us,w.2.1=t/\w.2.2.1<=s/\s<w.2.2.1+w.2.2.2.1:=by
 have bu:=h.bd u hu tu;have bv:=h.bd v hv tv;by_cases a:s<lo
 ·grind
 ·by_cases b:s<hi
  ·exact h.cv s (by omega) b
  grind
namespace Cx
variable {X:Cx} {per:Int} {Ch Sy A:LL} {tl:List Int}
theorem Q4y {train:Nat} {laps a:Int} {c:List U}:∀ {l:List Occ} {us:List U},c.Sublist us->c.Sublist (occU train laps a us l):=fun {l us} h=>by
 induction l generalizing us with
 |nil=>exact h
 |cons o l ih=>exact ih (QcD h)
theorem Q6d {train:Nat} {laps a:Int} {l:List Occ} {us:List U} {q:Occ} (hq:q∈l) (hl:q.2.1<q.2.2):(q.1.toNat,train,a+q.2.1,q.2.2-q.2.1,laps)∈occU train laps a us l:=by
 induction l generalizing us with
 |nil=>nomatch hq
 |cons o l ih=>
  cases hq with
  |head=>
   have b:(q.1.toNat,train,a+q.2.1,q.2.2-q.2.1,laps)∈Rn us (q.1.toNat,train,a+q.2.1,q.2.2-q.2.1,laps):=C5 (by simp_all);exact (Q4y (train:=train) (laps:=laps) (a:=a) (l:=l) (.refl (Rn us (q.1.toNat,train,a+q.2.1,q.2.2-q.2.1,laps)))).subset b
  |tail _ hq=>exact ih hq
theorem Q5H {train:Nat} {laps a:Int} {P:U->Prop} {l:List Occ} (hl:∀ q∈l,P (q.1.toNat,train,a+q.2.1,q.2.2-q.2.1,laps)):∀ {us:List U},(∀ u∈us,P u)->∀ u∈occU train laps a us l,P u:=by
 induction l with
 |nil=>exact fun h=>h
 |cons o l ih=>
  intro us h;refine ih (fun q hq=>hl q (.tail _ hq)) fun u hu=>?_
  rcases P2 hu with hu | ⟨rfl,_⟩
  all_goals grind
theorem Qbx {c:Bool} {idx train:Nat} {laps:Int} {i k:Nat} {s s':Int × List U} (a:s.1=s'.1) (h2:s.2.Sublist s'.2):(X.stM per tl false c idx train laps i k s).1=(X.stM per tl true c idx train laps i k s').1/\(X.stM per tl false c idx train laps i k s).2.Sublist (X.stM per tl true c idx train laps i k s').2:=by
 grind [stM,Q4y,Q9R]
theorem Q2i {c:Bool} {idx train:Nat} {laps:Int} {i:Nat} {s s':Int × List U} (a:s.1=s'.1) (h2:s.2.Sublist s'.2):∀ {k:Nat},(X.rideM per tl false c idx train laps i s k).1=(X.rideM per tl true c idx train laps i s' k).1/\(X.rideM per tl false c idx train laps i s k).2.Sublist (X.rideM per tl true c idx train laps i s' k).2
 |0=>⟨a,h2⟩
 |k+1=>by
  have ih:=Q2i (c:=c) (idx:=idx) (train:=train) (laps:=laps) (i:=i) a h2 (k:=k);rw [rideM,rideM];exact Qbx ih.1 ih.2
theorem Q32 {c:Bool} {train:Nat} {laps:Int} {ls:List Nat} {s s':Int × List U} (a:s.1=s'.1) (h2:s.2.Sublist s'.2):∀ {j:Nat},(X.lineM per tl false c train laps ls s j).1=(X.lineM per tl true c train laps ls s' j).1/\(X.lineM per tl false c train laps ls s j).2.Sublist (X.lineM per tl true c train laps ls s' j).2
 |0=>⟨a,h2⟩
 |j+1=>by
  have ih:=Q32 (c:=c) (train:=train) (laps:=laps) (ls:=ls) a h2 (j:=j);rw [lineM,lineM];exact Q2i ih.1 ih.2
theorem usesM_sub {rs:List (List Nat × Bool)}:∀ {j:Nat},(X.usesM per tl false rs j).Sublist (X.usesM per tl true rs j)
 |0=>.refl _
 |j+1=>by
  rw [usesM,usesM];unfold trainM;exact (Q32 (s:=(_,X.usesM per tl false rs j)) (s':=(_,X.usesM per tl true rs j)) rfl usesM_sub).2
variable (g:X.Gd per Ch Sy A tl)
include g
theorem Gd.runV_ge {i k:Nat} (hi:i<X.Ls.length) (hk:k<X.nr i):X.run i k<=X.runV per tl i k:=by
 have p0:=g.p0;unfold runV aR Mo dur;have:=Qk0 (Vx.tat tl ((2*(base X.nr i+k)+1:Nat):Int)-Vx.tat tl ((2*(base X.nr i+k):Nat):Int)-X.run i k) (show per≠0 by omega)
 grind
theorem Gd.gapV_ge {i k:Nat} (hi:i<X.Ls.length) (hk:k<X.nr i):0<=(X.gapV per tl i k).1/\(k=X.nr i-1->(X.gapV per tl i k).2=true->10<=(X.gapV per tl i k).1):=by
 have p0:=g.p0;have r:=rd g.ok hi hk;have:=r.mn0;unfold gapV;split
 ·have:=Qk0 (Vx.tat tl ((2*(base X.nr i+k+1):Nat):Int)-Vx.tat tl ((2*(base X.nr i+k)+1:Nat):Int)-X.mn i k) (show per≠0 by omega)
  grind [aD,Mo,dur]
 ·cases e:X.tn i with
  |none=>simp
  |some t=>
   have ht:=(g.ok.tr t (Q2q e).1).2.2.1;have:=Qk0 (Vx.tat tl ((2*(base X.nr t.2.1+0):Nat):Int)-Vx.tat tl ((2*(base X.nr t.1+(X.nr t.1-1))+1:Nat):Int)-t.2.2.1) (show per≠0 by omega)
   grind [tuE,Mo,dur]
theorem Gd.endV_ge {i k:Nat} (hi:i<X.Ls.length) (hk:k<X.nr i) {a:Int}:a+X.run i k<=X.endV per tl i k a/\(k=X.nr i-1->a+X.run i k<X.endV per tl i k a):=by
 have b:=g.runV_ge hi hk;have h2:=g.gapV_ge hi hk
 grind [endV]
theorem Gd.stM_cov {c:Bool} {idx train:Nat} {laps:Int} {i k:Nat} (hi:i<X.Ls.length) (hk:k<X.nr i) {s:Int × List U} {lo:Int} (h:CovI train lo s.1 s.2) (hf:c=false/\idx=0/\k=0->lo=s.1):∃ aj,CovI train aj (X.stM per tl true c idx train laps i k s).1 (X.stM per tl true c idx train laps i k s).2/\∃ u∈(X.stM per tl true c idx train laps i k s).2,u.2.1=train/\u.1<X.G.Se.length/\0<u.2.2.1+u.2.2.2.1:=by
 have he:=(g.endV_ge hi hk (a:=s.1)).1;obtain ⟨d,⟨j,f,o,p⟩,l⟩:=Q8u g.ok hi hk;have hr:=SA g.ok hi hk;have b:∃ aj,CovI train aj s.1 (if c=false/\idx=0/\k=0 then Rn s.2 (sec (X.st i k) 0,train,s.1-60,60,laps) else s.2):=by
  split
  ·have:=hf (by assumption);exact ⟨s.1-60,h.pre rfl (by dsimp only) (by dsimp only;omega) (by omega)⟩
  ·exact ⟨lo,h⟩
 obtain ⟨aj,b⟩:=b;unfold stM;rw [QjG];generalize (if c=false/\idx=0/\k=0 then Rn s.2 (sec (X.st i k) 0,train,s.1-60,60,laps) else s.2)=us at b;have ar:=b.le;have m:CovI train aj (s.1+X.run i k) (occU train laps s.1 us (X.stair i k)):=by
  have aq:=b.nn;refine ⟨by omega,by omega,fun u hu e=>?_,fun t n x=>?_⟩
  ·refine Q5H (P:=fun u=>u.2.1=train->u.2.2.1<=s.1+X.run i k/\aj<=u.2.2.1+u.2.2.2.1) (fun q hq _=>?_) (fun u hu e=>?_) u hu e
   ·have:=d q hq;dsimp only;omega
   ·have:=b.bd u hu e;omega
  ·by_cases ht:t<s.1
   ·obtain ⟨v,hv,r⟩:=b.cv t n ht;exact ⟨v,(Q4y (.refl us)).subset hv,r⟩
   ·obtain ⟨q,hq,h2,y⟩:=l (t-s.1) (by omega) (by omega);have:=d q hq;exact ⟨_,Q6d hq (by omega),rfl,by dsimp only;omega,by dsimp only;omega⟩
 refine ⟨aj,m.post rfl rfl (by dsimp only;omega) (by omega),_,NY (Q6d f (d j f).2.1),rfl,?_⟩;have:=d j f;have:=b.nn;dsimp only;omega
theorem Gd.rideM_cov {c:Bool} {idx train:Nat} {laps:Int} {i:Nat} (hi:i<X.Ls.length) {s:Int × List U} {lo:Int} (h:CovI train lo s.1 s.2) (hf:c=false/\idx=0->lo=s.1):∀ {k:Nat},k<X.nr i->∃ aj,CovI train aj (X.rideM per tl true c idx train laps i s (k+1)).1 (X.rideM per tl true c idx train laps i s (k+1)).2/\∃ u∈(X.rideM per tl true c idx train laps i s (k+1)).2,u.2.1=train/\u.1<X.G.Se.length/\0<u.2.2.1+u.2.2.2.1
 |0,hk=>by
  rw [rideM];exact g.stM_cov hi hk h fun e=>hf ⟨e.1,e.2.1⟩
 |k+1,hk=>by
  obtain ⟨aj,ih,_⟩:=Gd.rideM_cov (c:=c) (idx:=idx) (train:=train) (laps:=laps) hi h hf (k:=k) (by omega);rw [rideM];exact g.stM_cov hi hk ih fun e=>by omega
theorem Gd.lineM_cov {c:Bool} {train:Nat} {laps:Int} {ls:List Nat} (ak:∀ i∈ls,i<X.Ls.length) {s:Int × List U} (h:CovI train s.1 s.1 s.2):∀ {j:Nat},j<ls.length->∃ aj,CovI train aj (X.lineM per tl true c train laps ls s (j+1)).1 (X.lineM per tl true c train laps ls s (j+1)).2/\∃ u∈(X.lineM per tl true c train laps ls s (j+1)).2,u.2.1=train/\u.1<X.G.Se.length/\0<u.2.2.1+u.2.2.2.1:=by
 have step:∀ {j:Nat},j<ls.length->∀ {lo:Int},CovI train lo (X.lineM per tl true c train laps ls s j).1 (X.lineM per tl true c train laps ls s j).2->(j=0->lo=(X.lineM per tl true c train laps ls s j).1)->∃ aj,CovI train aj (X.lineM per tl true c train laps ls s (j+1)).1 (X.lineM per tl true c train laps ls s (j+1)).2/\∃ u∈(X.lineM per tl true c train laps ls s (j+1)).2,u.2.1=train/\u.1<X.G.Se.length/\0<u.2.2.1+u.2.2.2.1:=by
  intro j hj lo hc a;have e:=QjE (l:=ls) (i:=j) hj;have hi:=ak _ (QjD e);have hd:ls.getD j 0=ls[j]:=by simp_all
  have hn:=(H8 g.ok hi).2.1;obtain ⟨n,hn⟩:∃ n,X.nr ls[j]=n+1:=⟨X.nr ls[j]-1,by omega⟩;rw [lineM,hd,hn];exact g.rideM_cov hi hc (fun e=>a e.2) (by omega)
 intro j;induction j with
 |zero=>exact fun hj=>step hj h fun _=>rfl
 |succ j ih=>
  grind
structure UsOK (X:Cx) (n:Nat) (us:List U):Prop where
 lt:∀ u∈us,u.2.1<n
 cv:∀ t,t<n->∃ lo hi,CovI t lo hi us
 se:∀ t,t<n->∃ u∈us,u.2.1=t/\u.1<X.G.Se.length/\0<u.2.2.1+u.2.2.2.1
theorem Gd.usesM_cov {rs:List (List Nat × Bool)} (hr:∀ r∈rs,1<=r.1.length/\∀ i∈r.1,i<X.Ls.length):∀ {j:Nat},j<=rs.length->X.UsOK j (X.usesM per tl true rs j)
 |0,_=>⟨fun u hu=>(by nomatch hu),fun t ht=>absurd ht (Nat.not_lt_zero t),fun t ht=>absurd ht (Nat.not_lt_zero t)⟩
 |j+1,hj=>by
  have ih:=Gd.usesM_cov hr (j:=j) (by omega);have e:=QjE (l:=rs) (i:=j) (by omega);have hd:rs.getD j ([],false)=rs[j]:=by rw [QjH,e];rfl
  have aq:=hr _ (QjD e);obtain ⟨n,hn⟩:∃ n,rs[j].1.length=n+1:=⟨rs[j].1.length-1,by omega⟩;rw [usesM,hd];unfold trainM;have a:=QjE (l:=rs[j].1) (i:=0) (by omega);have b:=aq.2 _ (QjD a);have f:rs[j].1.getD 0 0=rs[j].1[0]:=by rw [QjH,a];rfl
  have au:=Qco g.ok b (k:=0) (by have:=(H8 g.ok b).2.1;omega);have aj:=(g.tat (i:=((2*base X.nr rs[j].1[0]:Nat):Int)) (by omega) (by omega)).2.1;rw [<- f] at aj;generalize X.lapsV per tl rs[j].1 rs[j].2=laps;generalize Vx.tat tl ((2*base X.nr (rs[j].1.getD 0 0):Nat):Int)=dep at aj ⊢;have d:CovI j dep dep (X.usesM per tl true rs j):=⟨Int.le_refl _,aj,fun u hu e=>absurd (ih.lt u hu) (by omega),fun s d o=>by omega⟩;obtain ⟨lo,c1,m⟩:=g.lineM_cov (c:=rs[j].2) (train:=j) (laps:=laps) aq.2 (s:=(dep,X.usesM per tl true rs j)) d (j:=n) (by omega);rw [hn];refine ⟨?_,fun t ht=>?_,fun t ht=>?_⟩
  ·refine LM (P:=fun us=>∀ u∈us,u.2.1<j+1) (fun us u h hu v hv=>?_) fun u hu=>Nat.lt_succ_of_lt (ih.lt u hu)
   rcases P2 hv with hv | ⟨rfl,_⟩
   ·exact h v hv
   ·omega
  ·by_cases an:t=j
   ·subst an;exact ⟨_,_,c1⟩
   ·obtain ⟨lo,hi,hc⟩:=ih.cv t (by omega);exact ⟨lo,hi,LM (P:=fun us=>CovI t lo hi us) (fun us u h hu=>h.other (by omega)) hc⟩
  ·by_cases an:t=j
   ·subst an;exact m
   ·obtain ⟨u,hu,r⟩:=ih.se t (by omega);exact ⟨u,LM (P:=fun us=>u∈us) (fun us v h _=>NY h) hu,r⟩
end Cx
end Go.Vx
namespace Go.Vx
def Qfn (Se:LL) (u:U):Prop:=∃ (nm:List UInt8) (a b c st:Int),Q1 Se (u.1:Int)=some [D.str nm,Q4 a,Q4 b,Q4 c,Q4 st]/\0<=st
def Qfd (u:U):Prop := -9000000<=u.2.2.1/\u.2.2.1<=9000000/\0<u.2.2.2.1/\u.2.2.2.1<=1000000
theorem Q8Q {G:Geo} {s:LL} {x d:Int} {j:Nat} (hx:Sta G x) (e:s[j]? = some [Q4 x,Q4 d]):∃ (nm:List UInt8) (a b c st:Int),Q1 G.Se (sec s j:Int)=some [D.str nm,Q4 a,Q4 b,Q4 c,Q4 st]/\0<=st:=by
 obtain ⟨nm,a,b,c,st,f,h2⟩:=hx;have aj:=(Gs f).1;have g:0<=x:=by
  unfold inB at aj;by_cases hc:0<=x
  ·exact hc
  ·rw [decide_eq_false hc,Bool.false_and] at aj;cases aj
 have ak:((sec s j:Nat):Int)=x:=by
  unfold sec;rw [QjH,e];show ((x.toNat:Nat):Int)=x;omega
 rw [ak];exact ⟨nm,a,b,c,st,f,h2⟩
namespace Cx
variable {X:Cx}
theorem QaO (h:X.OK) {i k:Nat} (hi:i<X.Ls.length) (hk:k<X.nr i):(∃ (nm:List UInt8) (a b c st:Int),Q1 X.G.Se (sec (X.st i k) 0:Int)=some [D.str nm,Q4 a,Q4 b,Q4 c,Q4 st]/\0<=st)/\∃ (nm:List UInt8) (a b c st:Int),Q1 X.G.Se (sec (X.st i k) ((X.st i k).length-1):Int)=some [D.str nm,Q4 a,Q4 b,Q4 c,Q4 st]/\0<=st:=by
 obtain ⟨w,rides,g,h2,o,j⟩:=h.gd.ls i _ (QjE hi);have e:X.Ls[i]? = some [D.str (nmN i),Q4 0,Q4 w,D.sl 4 rides]:=by rw [QjE hi,g]
 have er:GJ X.Ls i=rides:=by unfold GJ;rw [e]
 have hr:∃ r x y b,rides[k]? = some r/\TH X.G X.Ro r x y b:=by
  unfold nr at hk;rw [er] at hk;rcases j with ⟨r,x,y,rfl,h⟩ | ⟨r,r',x,y,z,rfl,h,h'⟩
  ·obtain rfl:k=0:=by simpa using hk
   exact ⟨r,x,y,_,rfl,h⟩
  ·obtain rfl | rfl:k=0\/k=1:=by simp at hk;omega
   ·exact ⟨r,x,y,_,rfl,h⟩
   ·exact ⟨r',y,z,_,rfl,h'⟩
 obtain ⟨r,x,y,b,hr,rt,ex,mn,mx,s,rfl,l,d,p,q,t⟩:=hr;have eg:(GJ X.Ls i).getD k []=[Q4 rt,Q4 ex,Q4 mn,Q4 mx]:=by rw [er,QjH,hr];rfl
 have m:rF X.Ls i k 0=rt:=by unfold rF;rw [eg];rfl
 have es:X.st i k=s:=by unfold st Qgc;rw [m,QjC,l]
 rw [es];have l2:=d.l2;obtain ⟨d0,n⟩:=d.fst;obtain ⟨d1,f⟩:=d.lst;rw [show ((s.length:Nat):Int)-1=((s.length-1:Nat):Int) by omega,Qe] at f;exact ⟨Q8Q d.sx n,Q8Q d.sy f⟩
variable {per:Int} {Ch Sy A:LL} {tl:List Int}
theorem Q8H {P:U->Prop} {mv c:Bool} {idx train:Nat} {laps:Int} {i k:Nat} {s:Int × List U} (a:∀ u∈s.2,P u) (b:c=false/\idx=0/\k=0->P (sec (X.st i k) 0,train,s.1-60,60,laps)) (h2:mv=true->∀ q∈X.stair i k,P (q.1.toNat,train,s.1+q.2.1,q.2.2-q.2.1,laps)) (d:0<X.endV per tl i k s.1-s.1-X.run i k->P (sec (X.st i k) ((X.st i k).length-1),train,s.1+X.run i k,X.endV per tl i k s.1-s.1-X.run i k,laps)):∀ u∈(X.stM per tl mv c idx train laps i k s).2,P u:=by
 unfold stM;intro u hu;rcases P2 hu with hu | ⟨rfl,hl⟩
 ·have hf:∀ u∈(if c=false/\idx=0/\k=0 then Rn s.2 (sec (X.st i k) 0,train,s.1-60,60,laps) else s.2),P u:=by
   split
   ·intro u hu;rcases P2 hu with hu | ⟨rfl,_⟩
    ·exact a u hu
    ·exact b (by assumption)
   ·exact a
  cases mv with
  |false=>exact hf u hu
  |true=>exact Q5H (h2 rfl) hf u hu
 ·exact d hl
variable (g:X.Gd per Ch Sy A tl)
include g
theorem Gd.stM_okN {mv c:Bool} {idx train:Nat} {laps:Int} {i k:Nat} (hi:i<X.Ls.length) (hk:k<X.nr i) {s:Int × List U} (s0 : -5500000<=s.1) (s1:s.1<=5500000) (h:∀ u∈s.2,Qfd u):∀ u∈(X.stM per tl mv c idx train laps i k s).2,Qfd u:=by
 have he:=g.endV_rng hi hk (a:=s.1);have hr:=SA g.ok hi hk;refine Q8H h (fun _=>⟨by dsimp only;omega,by dsimp only;omega,by dsimp only;omega,by dsimp only;omega⟩) (fun _ q hq=>?_) fun hl=>⟨by dsimp only;omega,by dsimp only;omega,hl,by dsimp only;omega⟩
 have:=(Cm g.ok hi hk).1.mem q hq;exact ⟨by dsimp only;omega,by dsimp only;omega,by dsimp only;omega,by dsimp only;omega⟩
theorem Gd.rideM_all {P:U->Prop} {mv c:Bool} {idx train:Nat} {laps:Int} {i:Nat} (hi:i<X.Ls.length) (H:∀ (k:Nat) (s:Int × List U),k<X.nr i -> -5500000<=s.1->s.1<=5500000->(∀ u∈s.2,P u)->∀ u∈(X.stM per tl mv c idx train laps i k s).2,P u) {s:Int × List U} (s0 : -5000000<=s.1) (s1:s.1<=5000000) (hs:∀ u∈s.2,P u):∀ {k:Nat},k<=X.nr i->∀ u∈(X.rideM per tl mv c idx train laps i s k).2,P u
 |0,_=>hs
 |k+1,hk=>by
  have hn:=(H8 g.ok hi).2.1;have ih:=Gd.rideM_all hi H s0 s1 hs (k:=k) (by omega);have hb:=g.rideM_rng (mv:=mv) (c:=c) (idx:=idx) (train:=train) (laps:=laps) hi (s:=s) (k:=k) (by omega);rw [rideM];exact H k _ (by omega) (by omega) (by omega) ih
theorem Gd.lineM_all {P:U->Prop} {mv c:Bool} {train:Nat} {laps:Int} {ls:List Nat} (aj:∀ i∈ls,i<X.Ls.length) (ak:ls.length<=3) (H:∀ (idx i k:Nat) (s:Int × List U),i<X.Ls.length->k<X.nr i -> -5500000<=s.1->s.1<=5500000->(∀ u∈s.2,P u)->∀ u∈(X.stM per tl mv c idx train laps i k s).2,P u) {s:Int × List U} (s0:0<=s.1) (s1:s.1<=300) (hs:∀ u∈s.2,P u):∀ {j:Nat},j<=ls.length->∀ u∈(X.lineM per tl mv c train laps ls s j).2,P u
 |0,_=>hs
 |j+1,hj=>by
  have e:=QjE (l:=ls) (i:=j) (by omega);have hi:=aj _ (QjD e);have hd:ls.getD j 0=ls[j]:=by rw [QjH,e];rfl
  have hb:=g.lineM_rng (mv:=mv) (c:=c) (train:=train) (laps:=laps) aj (s:=s) (j:=j) (by omega);have ih:=Gd.lineM_all aj ak H s0 s1 hs (j:=j) (by omega);rw [lineM,hd];exact g.rideM_all hi (fun k s hk=>H j _ k s hi hk) (by omega) (by omega) ih (QjM _)
theorem Gd.usesM_all {P:U->Prop} {mv:Bool} {rs:List (List Nat × Bool)} (hr:X.RsOK rs) (H:∀ (c:Bool) (train:Nat) (laps:Int) (idx i k:Nat) (s:Int × List U),i<X.Ls.length->k<X.nr i -> -5500000<=s.1->s.1<=5500000->(∀ u∈s.2,P u)->∀ u∈(X.stM per tl mv c idx train laps i k s).2,P u):∀ {j:Nat},j<=rs.length->∀ u∈X.usesM per tl mv rs j,P u
 |0,_=>fun u hu=>(by nomatch hu)
 |j+1,hj=>by
  have e:=QjE (l:=rs) (i:=j) (by omega);have hd:rs.getD j ([],false)=rs[j]:=by rw [QjH,e];rfl
  have aj:=hr.ls _ (QjD e);have a:=QjE (l:=rs[j].1) (i:=0) (by omega);have b:=aj.2 _ (QjD a);have d:rs[j].1.getD 0 0=rs[j].1[0]:=by rw [QjH,a];rfl
  have f:=Ye g.ok (i:=rs[j].1[0]) (by omega);have an:=Qco g.ok b (k:=0) (by have:=(H8 g.ok b).2.1;omega);have ht:=g.tat (i:=((2*base X.nr rs[j].1[0]:Nat):Int)) (by omega) (by omega);have p1:=g.p1;rw [usesM,hd];unfold trainM;rw [d];exact g.lineM_all aj.2 (hr.len3 e) (fun idx i k s=>H _ _ _ idx i k s) (by dsimp only;omega) (by dsimp only;omega) (Gd.usesM_all hr H (by omega)) (QjM _)
theorem Gd.usesM_okN {mv:Bool} {rs:List (List Nat × Bool)} (hr:X.RsOK rs):∀ u∈X.usesM per tl mv rs rs.length,Qfd u:=g.usesM_all hr (fun c train laps idx i k s hi hk s0 s1 h=>g.stM_okN hi hk s0 s1 h) (QjM _)
theorem Gd.usesM_okS {rs:List (List Nat × Bool)} (hr:X.RsOK rs):∀ u∈X.usesM per tl false rs rs.length,Qfn X.G.Se u:=g.usesM_all (P:=Qfn X.G.Se) (mv:=false) hr (fun c train laps idx i k s hi hk s0 s1 h=>Q8H h (fun _=>(QaO g.ok hi hk).1) (fun e=>absurd e Bool.false_ne_true) fun _=>(QaO g.ok hi hk).2) (QjM _)
theorem Gd.usesM_one {mv:Bool} {rs:List (List Nat × Bool)} (hr:X.RsOK rs) (b:1<=rs.length):∃ u,u∈X.usesM per tl mv rs rs.length:=by
 obtain ⟨n,hn⟩:∃ n,rs.length=n+1:=⟨rs.length-1,by omega⟩;have e:=QjE (l:=rs) (i:=n) (by omega);have hd:rs.getD n ([],false)=rs[n]:=by rw [QjH,e];rfl
 have aj:=hr.ls _ (QjD e);obtain ⟨m,hm⟩:∃ m,rs[n].1.length=m+1:=⟨rs[n].1.length-1,by omega⟩;have e':=QjE (l:=rs[n].1) (i:=m) (by omega);have hi:=aj.2 _ (QjD e');have ak:rs[n].1.getD m 0=rs[n].1[m]:=by rw [QjH,e'];rfl
 have an:=(H8 g.ok hi).2.1;obtain ⟨k,hk⟩:∃ k,X.nr rs[n].1[m]=k+1:=⟨X.nr rs[n].1[m]-1,by omega⟩;rw [hn,usesM,hd];unfold trainM;rw [hm,lineM,ak,hk,rideM];generalize X.rideM per tl mv rs[n].2 m n (X.lapsV per tl rs[n].1 rs[n].2) rs[n].1[m] _ k=s;have:=(g.endV_ge hi (k:=k) (by omega) (a:=s.1)).2 (by omega);unfold stM;exact ⟨_,C5 (by dsimp only;omega)⟩
end Cx
end Go.Vx
namespace Go.Vx
variable {R:Type}
def Q8 (n:Nat) (a0 a1 a2:Int) (a:LL) (b c:Int) (K:LL->oP R):oP R:= bif decide (a2>0) then gb true (Yf ((a.length+[[Q4 a0,Q4 b,Q4 a1,Q4 a2,Q4 c]].length)*40)) () fun d=>K (a++[[Q4 a0,Q4 b,Q4 a1,Q4 a2,Q4 c]]) else K a
end Go.Vx
namespace Go.Vx
variable {R:Type}
def QI (n:Nat) (d:Int) (e:LL) (b f g:Int) (k0:Int->Bool->LL->oP R):Nat->Int->LL->oP R
 | 0,_,_=>none
 | m+1,a,h=>bif decide (a<b) then gb true (Q1 e a) [] fun c=>gb true (c[0]?) oF fun j=>gb true (c[1]?) oF fun i=>gb true (c[2]?) oF fun k=>gb true (pIw j) 0 fun l=>gb true (pIw i) 0 fun o=>gb true (pIw k) 0 fun p=>gb true (pIw i) 0 fun q=>gb true (Q8 n l (wJ (d+o)) (wJ (p-q)) h f g some) [] fun r=>QI n d e b f g k0 m (wJ (a+1)) r else k0 a (decide (a<b)) h
def Qm (n:Nat) (ai c:Int) (aj:LL) (s h:Int) (ak:Bool) (i:Int) (t u v x y:D) (d z aa ab ac al o p:LL) (e:Int) (f g:LL) (ad:Bool) (q:LL) (r:Int) (k0:Int->Int->Bool->LL->oP R):Nat->Int->Int->LL->oP R
 | 0,_,_,_=>none
 | m+1,a,b,am=>bif decide (b<s) then gb true (Q1 aj b) [] fun an=>gb true (an[0]?) oF fun bo=>gb true (an[1]?) oF fun dt=>gb true (an[2]?) oF fun du=>gb true (an[3]?) oF fun dw=>gb true (pIw bo) 0 fun bp=>gb true (Q1 al bp) [] fun ap=>gb true (ap[0]?) oF fun j=>gb true (ap[1]?) oF fun ae=>bif (bif (bif !ak then (ai == 0) else false) then (b == 0) else false) then gb true (pSl 2 j) [] fun bq=>gb true (Q1 bq 0) [] fun br=>gb true (br[0]?) oF fun bt=>gb true (pIw bt) 0 fun bu=>gb true (Q8 n bu (wJ (a-60)) 60 am h i some) [] fun aq=>gb true (pSl 2 j) [] fun bv=>gb true (pIw ae) 0 fun bx=>gb true (RD t) [] fun bz=>gb true (pIw u) 0 fun ca=>gb true (pIw v) 0 fun cb=>gb true (pIw x) 0 fun cc=>gb true (pIw y) 0 fun ce=>gb true (VU n z aa ab ac bv bx bz ca cb cc ce Tu3) ([],0,0) fun ag=>bif ad then QI n a ag.1 (ag.1.length:Int) h i (fun dx dy cf=>gb true (Xl n e f g d c b some) 0 fun ar=>jn (fun (au av:Int)=>gb true (pSl 2 j) [] fun cg=>gb true (pSl 2 j) [] fun ch=>gb true (pIw ae) 0 fun ci=>gb true (Q1 cg (wJ ((wJ ((ch.length:Int)-ci))-1))) [] fun cj=>gb true (cj[0]?) oF fun ck=>gb true (pIw ck) 0 fun cm=>gb true (Q8 n cm (wJ (a+au)) (wJ ((wJ (av-a))-au)) cf h i some) [] fun cn=>Qm n ai c aj s h ak i t u v x y d z aa ab ac al o p e f g ad q r k0 m av (wJ (b+1)) cn) fun aw=>gb true (QZ n o p e f g q d r c b Tu2) (0,false) fun ax=>bif ax.2 then aw ag.2.1 (wJ ((wJ (a+ar))+ax.1)) else aw ag.2.1 (wJ ((wJ (a+ar))+60))) n 0 aq else gb true (Xl n e f g d c b some) 0 fun ay=>jn (fun (az ba:Int)=>gb true (pSl 2 j) [] fun co=>gb true (pSl 2 j) [] fun cp=>gb true (pIw ae) 0 fun cq=>gb true (Q1 co (wJ ((wJ ((cp.length:Int)-cq))-1))) [] fun cr=>gb true (cr[0]?) oF fun cs=>gb true (pIw cs) 0 fun ct=>gb true (Q8 n ct (wJ (a+az)) (wJ ((wJ (ba-a))-az)) aq h i some) [] fun cu=>Qm n ai c aj s h ak i t u v x y d z aa ab ac al o p e f g ad q r k0 m ba (wJ (b+1)) cu) fun bb=>gb true (QZ n o p e f g q d r c b Tu2) (0,false) fun bc=>bif bc.2 then bb ag.2.1 (wJ ((wJ (a+ay))+bc.1)) else bb ag.2.1 (wJ ((wJ (a+ay))+60)) else gb true (pSl 2 j) [] fun cv=>gb true (pIw ae) 0 fun cw=>gb true (RD t) [] fun cx=>gb true (pIw u) 0 fun cy=>gb true (pIw v) 0 fun cz=>gb true (pIw x) 0 fun da=>gb true (pIw y) 0 fun db=>gb true (VU n z aa ab ac cv cw cx cy cz da db Tu3) ([],0,0) fun ah=>bif ad then QI n a ah.1 (ah.1.length:Int) h i (fun dz ea dc=>gb true (Xl n e f g d c b some) 0 fun bd=>jn (fun (be bg:Int)=>gb true (pSl 2 j) [] fun dd=>gb true (pSl 2 j) [] fun de=>gb true (pIw ae) 0 fun df=>gb true (Q1 dd (wJ ((wJ ((de.length:Int)-df))-1))) [] fun dg=>gb true (dg[0]?) oF fun dh=>gb true (pIw dh) 0 fun di=>gb true (Q8 n di (wJ (a+be)) (wJ ((wJ (bg-a))-be)) dc h i some) [] fun dj=>Qm n ai c aj s h ak i t u v x y d z aa ab ac al o p e f g ad q r k0 m bg (wJ (b+1)) dj) fun bh=>gb true (QZ n o p e f g q d r c b Tu2) (0,false) fun bi=>bif bi.2 then bh ah.2.1 (wJ ((wJ (a+bd))+bi.1)) else bh ah.2.1 (wJ ((wJ (a+bd))+60))) n 0 am else gb true (Xl n e f g d c b some) 0 fun bj=>jn (fun (bk bl:Int)=>gb true (pSl 2 j) [] fun dk=>gb true (pSl 2 j) [] fun dl=>gb true (pIw ae) 0 fun dn=>gb true (Q1 dk (wJ ((wJ ((dl.length:Int)-dn))-1))) [] fun dp=>gb true (dp[0]?) oF fun dq=>gb true (pIw dq) 0 fun dr=>gb true (Q8 n dr (wJ (a+bk)) (wJ ((wJ (bl-a))-bk)) am h i some) [] fun ds=>Qm n ai c aj s h ak i t u v x y d z aa ab ac al o p e f g ad q r k0 m bl (wJ (b+1)) ds) fun bm=>gb true (QZ n o p e f g q d r c b Tu2) (0,false) fun bn=>bif bn.2 then bm ah.2.1 (wJ ((wJ (a+bj))+bn.1)) else bm ah.2.1 (wJ ((wJ (a+bj))+60)) else k0 a b (decide (b<s)) am
def Xp (n:Nat) (f:LL) (d g:Int) (h:Bool) (i:Int) (j k l o p q r c s:LL) (t:Int) (u v:LL) (x:Bool) (y:LL) (z:Int) (k0:Int->Int->Bool->LL->oP R):Nat->Int->Int->LL->oP R
 | 0,_,_,_=>none
 | m+1,aa,a,ab=>bif decide (a<d) then gb true (Q1 f a) [] fun ad=>gb true (ad[0]?) oF fun ae=>gb true (pIw ae) 0 fun e=>gb true (Q1 c e) [] fun ag=>gb true (ag[1]?) oF fun ah=>gb true (pIw ah) 0 fun ai=>gb true (Q1 q ai) [] fun b=>gb true (b[0]?) oF fun aj=>gb true (b[1]?) oF fun ak=>gb true (b[2]?) oF fun al=>gb true (b[3]?) oF fun am=>gb true (b[4]?) oF fun an=>gb true (Q1 c e) [] fun ao=>gb true (ao[3]?) oF fun ap=>gb true (pSl 4 ap) [] fun ac=>Qm n a e ac (ac.length:Int) g h i aj ak al am an j k l o p r c s t u v x y z (fun aq au av ar=>Xp n f d g h i j k l o p q r c s t u v x y z k0 m aq (wJ (a+1)) ar) n aa 0 ab else k0 aa a (decide (a<d)) ab
def Zc (n:Nat) (l m o p q r d e:LL) (f:Int) (g c:LL) (s:Bool) (h a:LL) (i:Int) (t:LL) (a1:Int) (b:LL) (j:Bool) (K:LL->oP R):oP R:= gb true (ZE n d e f g c h a i b j some) 0 fun u=>gb true (Q1 b 0) [] fun v=>gb true (v[0]?) oF fun x=>gb true (pIw x) 0 fun k=>gb true (inB (a.length) k) () fun u5=>gb true (a[k.toNat]?) [] fun r6=>gb true (r6[0]?) oF fun y=>gb true (pIw y) 0 fun z=>gb true (Q1 c (wJ (2*z))) [] fun r9=>gb true (r9[0]?) oF fun ab=>gb true (pIw ab) 0 fun ac=>Xp n b (b.length:Int) a1 j u a l m o p q r d e f g c s h i (fun ag ah ai ad=>K ad) n ac 0 t
end Go.Vx
namespace Go.Vx
variable {R:Type}
def XO (n:Nat) (f:LL) (d:Int) (k0:Int->Int->Bool->LL->oP R):Nat->Int->Int->LL->oP R
 | 0,_,_,_=>none
 | m+1,b,a,e=>bif decide (a<d) then gb true (Q1 f a) [] fun c=>gb true (c[0]?) oF fun i=>gb true (c[1]?) oF fun j=>gb true (c[2]?) oF fun k=>gb true (c[3]?) oF fun g=>gb true (Yf ((e.length+[[Q4 b]].length)*8)) () fun l=>gb true (pSl 4 g) [] fun h=>XO n f d k0 m (wJ (b+(h.length:Int))) (wJ (a+1)) (e++[[Q4 b]]) else k0 b a (decide (a<d)) e
def Xv (n:Nat) (c:LL) (b:Int) (d e f g h i j k:LL) (l:Int) (o p:LL) (q:Bool) (r:LL) (s:Int) (t:LL) (k0:Int->Bool->LL->oP R):Nat->Int->LL->oP R
 | 0,_,_=>none
 | m+1,a,u=>bif decide (a<b) then gb true (Q1 c a) [] fun v=>gb true (v[0]?) oF fun x=>gb true (v[1]?) oF fun y=>gb true (pSl 1 x) [] fun z=>gb true (Kl y) false fun aa=>gb true (Zc n d e f g h i j k l o p q r t s u a z aa some) [] fun ab=>Xv n c b d e f g h i j k l o p q r s t k0 m (wJ (a+1)) ab else k0 a (decide (a<b)) u
def Zf (n:Nat) (f g h i:LL) (o:Int) (j k b l c p q a2:LL) (r:Bool) (K:LL->Int->oP R):oP R:= gb true (GI n f g h i o j k b l c p q Tu4) (0,[],[],0) fun a=>bif (a.2.2.2 != 0) then K [] a.2.2.2 else gb true (JU n a.1 a.2.1 a.2.2.1 a2 some) false fun d=>bif !d then K [] 1 else gb true (Zm n b c some) [] fun e=>XO n b (b.length:Int) (fun t x y u=>gb true (XH n b c some) [] fun m=>Xv n m (m.length:Int) f g h i j k b l a.1 a.2.2.1 a2 r e t u (fun z aa v=>K v 0) n 0 []) n 0 0 []
end Go.Vx
namespace Go.Vx
theorem Q9w {R:Type} {n res train:Nat} {us:List U} (hl:us.length<=1000) {fr len laps:Int} (K:LL->oP R):Q8 n (res:Int) fr len (us.map Cl) (train:Int) laps K=K ((Rn us (res,train,fr,len,laps)).map Cl):=by
 unfold Q8 Rn;by_cases h:0<len
 ·rw [show decide (len>0)=true from QjO h,QjG,if_pos h,XF (by simp;omega),Q0,QjQ];rfl
 ·rw [show decide (len>0)=false from decide_eq_false h,cond_false,if_neg h]
theorem Qhy {R:Type} {n train:Nat} {us:List U} (hl:us.length<=1000) {x fr len laps:Int} (hx:0<=x) (K:LL->oP R):Q8 n x fr len (us.map Cl) (train:Int) laps K=K ((Rn us (x.toNat,train,fr,len,laps)).map Cl):=by
 obtain ⟨m,rfl⟩:=QjZ hx;exact Q9w hl K
theorem Qer {R:Type} {train:Nat} {laps a:Int} (a0 : -6000000<=a) (a1:a<=6000000) {l:List Occ} (hl:∀ q∈l,0<=q.1 /\ -1000<=q.2.1/\q.2.1<q.2.2/\q.2.2<=20000) {us:List U} (hu:us.length<=600) (b:l.length<=6) {K:LL->oP R} :
  QI 400 a (l.map enc) (((l.map enc).length:Nat):Int) (train:Int) laps (fun _ _ w=>K w) 400 0 (us.map Cl)=K ((Cx.occU train laps a us l).map Cl):=by
 have go:∀ (aj:List Occ) (i m:Nat) (us:List U),l.drop i=aj->aj.length<m->us.length+aj.length<=700->QI 400 a (l.map enc) (((l.map enc).length:Nat):Int) (train:Int) laps (fun _ _ w=>K w) m (i:Int) (us.map Cl)=K ((Cx.occU train laps a us aj).map Cl):=by
  intro aj;induction aj with
  |nil=>
   intro i m us hd hm ak;obtain ⟨m,rfl⟩:∃ k,m=k+1:=⟨m-1,by simp at hm;omega⟩;have:=ZP hd;rw [QI,List.length_map,show decide ((i:Int)<((l.length:Nat):Int))=false by simpa using this,cond_false];rfl
  |cons q aj ih=>
   intro i m us hd hm ak;obtain ⟨m,rfl⟩:∃ k,m=k+1:=⟨m-1,by simp at hm;omega⟩;obtain ⟨e,ao,an⟩:=Yh hd;have hq:=hl q (QjD e);have eq:Q1 (l.map enc) (i:Int)=some [Q4 q.1,Q4 q.2.1,Q4 q.2.2]:=by rw [Qe,QjY,e];rfl
   have ar:=Fc (us:=us) (u:=(q.1.toNat,train,a+q.2.1,q.2.2-q.2.1,laps));rw [QjV] at hm ak;rw [QI,List.length_map,Qc an,QjG,eq];simp -implicitDefEqProofs only [Q0,QjB,QjF,Q3,Q7 (x:=a+q.2.1) (by omega) (by omega),Q7 (x:=q.2.2-q.2.1) (by omega) (by omega),Qq (show i<=1000 by omega)];rw [Qhy (by omega) hq.1,Q0,<- List.length_map (f:=enc)];exact ih (i+1) m _ ao (by omega) (by omega)
 exact go l 0 400 us rfl (by omega) (by omega)
namespace Cx
variable {X:Cx} {per:Int} {Ch Sy A:LL} {tl:List Int}
variable (g:X.Gd per Ch Sy A tl)
include g
variable {R:Type}
theorem Gd.ridesM {mv c:Bool} {idx train:Nat} {laps:Int} {i:Nat} (hi:i<X.Ls.length) {s:Int × List U} (s0 : -5000000<=s.1) (s1:s.1<=5000000) (sl:s.2.length<=500) (aw:idx<=100) {k0:Int->Int->Bool->LL->oP R} :
  Qm 400 (idx:Int) (i:Int) (GJ X.Ls i) ((X.nr i:Nat):Int) (train:Int) c laps (D.str X.nm) (Q4 X.tl) (Q4 X.sp) (Q4 X.ac) (Q4 X.br) (X.fst X.L) X.G.St X.G.Pt X.G.Se X.G.Li X.Ro X.Ls Ch per A (encI tl) mv (encI ((List.range X.L).map (tix X.T))) ((X.N:Nat):Int) k0 400 s.1 0 (s.2.map Cl)=k0 (X.rideM per tl mv c idx train laps i s (X.nr i)).1 ((X.nr i:Nat):Int) false ((X.rideM per tl mv c idx train laps i s (X.nr i)).2.map Cl):=by
 have hn:=(H8 g.ok hi).2.1;refine Qu (r:=fun m k=>Qm 400 (idx:Int) (i:Int) (GJ X.Ls i) ((X.nr i:Nat):Int) (train:Int) c laps (D.str X.nm) (Q4 X.tl) (Q4 X.sp) (Q4 X.ac) (Q4 X.br) (X.fst X.L) X.G.St X.G.Pt X.G.Se X.G.Li X.Ro X.Ls Ch per A (encI tl) mv (encI ((List.range X.L).map (tix X.T))) ((X.N:Nat):Int) k0 m (X.rideM per tl mv c idx train laps i s k.toNat).1 k ((X.rideM per tl mv c idx train laps i s k.toNat).2.map Cl)) (N:=X.nr i) (fun m k hk=>?_) (fun m=>?_) (X.nr i) 400 0 (by omega) (by omega)
 ·simp only [QjC];have r:=rd g.ok hi hk;have hr:=SA g.ok hi hk;have l2:=r.rt.l2;have l24:=r.rt.l24;have hb:=g.rideM_rng (mv:=mv) (c:=c) (idx:=idx) (train:=train) (laps:=laps) hi (s:=s) (k:=k) (by omega);have f:=g.runV_rng hi hk;have h2:=g.gapV_rng hi hk;obtain ⟨d0,_,_,_,_,_,h,_⟩:=QbP r.rt (j:=0) (by omega);obtain ⟨d1,_,_,_,_,_,e1,_⟩:=QbP r.rt (j:=(X.st i k).length-1) (by omega);have ar:Q1 (GJ X.Ls i) (k:Int)=some [Q4 (rF X.Ls i k 0),Q4 (X.ex i k),Q4 (X.mn i k),Q4 (X.mx i k)]:=by rw [Qe,r.row]
  have n:Q1 (X.st i k) 0=some [Q4 (sec (X.st i k) 0:Int),Q4 d0]:=h;have p:Q1 (X.st i k) (((X.st i k).length-1:Nat):Int)=some [Q4 (sec (X.st i k) ((X.st i k).length-1):Int),Q4 d1]:=by rw [Qe,e1]
  have hw:wJ (wJ ((((X.st i k).length:Nat):Int)-0)-1)=(((X.st i k).length-1:Nat):Int):=by rw [Q7 (x:=(((X.st i k).length:Nat):Int)-0) (by omega) (by omega),Q7 (by omega) (by omega)];omega
  rw [rideM];generalize X.rideM per tl mv c idx train laps i s k=q at hb ⊢;have he:=g.endV_rng hi hk (a:=q.1);have aj:(X.gapV per tl i k).2=true->wJ (wJ (q.1+X.runV per tl i k)+(X.gapV per tl i k).1)=X.endV per tl i k q.1:=fun hg=>by
   unfold endV;rw [Q7 (x:=q.1+X.runV per tl i k) (by omega) (by omega),if_pos hg,Q7 (by omega) (by omega)]
  have ak:(X.gapV per tl i k).2=false->wJ (wJ (q.1+X.runV per tl i k)+60)=X.endV per tl i k q.1:=fun hg=>by
   unfold endV;rw [Q7 (x:=q.1+X.runV per tl i k) (by omega) (by omega),hg,if_neg Bool.false_ne_true,Q7 (by omega) (by omega)]
  rw [Qm,Qc hk,QjG,ar];simp -implicitDefEqProofs only [jn,Q0,QjB,QjF,Q3,QG,Xx,r.ro,QdR g.ok hi hk,g.runP hi hk,g.gapP hi hk,cond_false,hw,n,p,Qq (show k<=1000 by omega),Q7 (x:=q.1-60) (by omega) (by omega)];have fb:(bif (bif (bif !c then ((idx:Int) == 0) else false) then ((k:Int) == 0) else false) then true else false)=decide (c=false/\idx=0/\k=0):=by
   cases c
   ·by_cases f:idx=0
    ·by_cases h2:k=0
     ·subst f h2;rfl
     ·rw [show ((k:Int) == 0)=false by simp;omega,decide_eq_false (by simp [h2])];cases (bif !false then ((idx:Int) == 0) else false) <;> rfl
    ·rw [show ((idx:Int) == 0)=false by simp;omega,decide_eq_false (by simp [f])];rfl
   ·rw [decide_eq_false (by simp)];rfl
  have au:(bif (bif !c then ((idx:Int) == 0) else false) then ((k:Int) == 0) else false)=decide (c=false/\idx=0/\k=0):=by
   rw [<- fb];cases (bif (bif !c then ((idx:Int) == 0) else false) then ((k:Int) == 0) else false) <;> rfl
  rw [au];unfold stM;have b:=Q7 (x:=q.1+X.run i k) (by omega) (by omega);have d:=Q7 (x:=X.endV per tl i k q.1-q.1) (by omega) (by omega);have e:=Q7 (x:=X.endV per tl i k q.1-q.1-X.run i k) (by omega) (by omega);have ho:=Cm g.ok hi hk;have hx:=(Q8u g.ok hi hk).1;have ao:∀ o∈X.stair i k,0<=o.1 /\ -1000<=o.2.1/\o.2.1<o.2.2/\o.2.2<=20000:=fun o aq=>by
   have f:=ho.1.mem o aq;have h2:=hx o aq;exact ⟨h2.1,f.2.1,h2.2.1,f.2.2.2.1⟩
  by_cases hf:c=false/\idx=0/\k=0
  ·have t:=Fc (us:=q.2) (u:=(sec (X.st i k) 0,train,q.1-60,60,laps));rw [QjO hf,QjG,if_pos hf,Q9w (by omega),Q0];generalize Rn q.2 (sec (X.st i k) 0,train,q.1-60,60,laps)=us at t ⊢;have v:=Ca (train:=train) (laps:=laps) (a:=q.1) (l:=X.stair i k) (us:=us);cases mv
   ·simp -implicitDefEqProofs only [cond_false];cases hg:(X.gapV per tl i k).2
    ·rw [cond_false,ak hg,b,d,e,Q9w (by omega),Q0]
    ·rw [QjG,aj hg,b,d,e,Q9w (by omega),Q0]
   ·simp -implicitDefEqProofs only [QjG];rw [Qer (by omega) (by omega) ao (by omega) ho.2];cases hg:(X.gapV per tl i k).2
    ·rw [cond_false,ak hg,b,d,e,Q9w (by omega),Q0]
    ·rw [QjG,aj hg,b,d,e,Q9w (by omega),Q0]
  ·rw [decide_eq_false hf,cond_false,if_neg hf];have v:=Ca (train:=train) (laps:=laps) (a:=q.1) (l:=X.stair i k) (us:=q.2);cases mv
   ·simp -implicitDefEqProofs only [cond_false];cases hg:(X.gapV per tl i k).2
    ·rw [cond_false,ak hg,b,d,e,Q9w (by omega),Q0]
    ·rw [QjG,aj hg,b,d,e,Q9w (by omega),Q0]
   ·simp -implicitDefEqProofs only [QjG];rw [Qer (by omega) (by omega) ao (by omega) ho.2];cases hg:(X.gapV per tl i k).2
    ·rw [cond_false,ak hg,b,d,e,Q9w (by omega),Q0]
    ·rw [QjG,aj hg,b,d,e,Q9w (by omega),Q0]
 ·simp only [QjC];rw [Qm,Qi,cond_false]
theorem Gd.trainP {mv:Bool} {us:List U} (aq:us.length<=300) {train:Nat} {r:List Nat × Bool} (f:1<=r.1.length) (h:r.1.length<=3) (hr:∀ i∈r.1,i<X.Ls.length) (K:LL->oP R) :
  Zc 400 X.G.St X.G.Pt X.G.Se X.G.Li X.skR X.Ro X.Ls Ch per A (encI tl) mv (encI ((List.range X.L).map (tix X.T))) (X.fst X.L) ((X.N:Nat):Int) (us.map Cl) (train:Int) (Q5u r.1) r.2 K=K ((X.trainM per tl mv us train r).map Cl):=by
 obtain ⟨ls,c⟩:=r;dsimp only at f h hr ⊢;have hN:X.N<=6:=base_le g.ok;have p1:=g.p1;have b:=QjE (l:=ls) (i:=0) (by omega);have d:=hr _ (QjD b);have o:ls.getD 0 0=ls[0]:=by rw [QjH,b];rfl
 have q:=Ye g.ok (i:=ls[0]) (by omega);have ar:=Qco g.ok d (k:=0) (by have:=(H8 g.ok d).2.1;omega);have ht:=g.tat (i:=((2*base X.nr ls[0]:Nat):Int)) (by omega) (by omega);have er:Q1 (Q5u ls) 0=some [Q4 (ls[0]:Int)]:=Q4Z (j:=0) b;have ef:=Q6f (X:=X) (i:=ls[0]) (L:=X.L) d;rw [Qe] at ef;have el:(X.fst X.L).length=X.Ls.length:=by simp [fst,encI,L]
 have aj:Q1 X.skR 0=some [D.str X.nm,Q4 X.tl,Q4 X.sp,Q4 X.ac,Q4 X.br]:=rfl;unfold Zc trainM;rw [g.lapsP hr (by omega),Q0,er];dsimp only;rw [o,show (Q5u ls).length=ls.length by simp [Q5u]];generalize X.lapsV per tl ls c=laps;simp -implicitDefEqProofs only [Q0,QjB,Q3,Y0 (len:=(X.fst X.L).length) (n:=((ls[0]:Nat):Int)) (by omega) (by omega),QjC,ef,M9 (a:=base X.nr ls[0]) (by omega),ht.1];refine Qu (r:=fun m j=>Xp 400 (Q5u ls) ((ls.length:Nat):Int) (train:Int) c laps (X.fst X.L) X.G.St X.G.Pt X.G.Se X.G.Li X.skR X.Ro X.Ls Ch per A (encI tl) mv (encI ((List.range X.L).map (tix X.T))) ((X.N:Nat):Int) (fun t u v p=>K p) m (X.lineM per tl mv c train laps ls (Vx.tat tl ((2*base X.nr ls[0]:Nat):Int),us) j.toNat).1 j ((X.lineM per tl mv c train laps ls (Vx.tat tl ((2*base X.nr ls[0]:Nat):Int),us) j.toNat).2.map Cl)) (N:=ls.length) (fun m j hj=>?_) (fun m=>?_) ls.length 400 0 (by omega) (by omega)
 ·simp only [QjC];have e:=QjE hj;have hi:=hr _ (QjD e);have hd:ls.getD j 0=ls[j]:=by rw [QjH,e];rfl
  have hb:=g.lineM_rng (mv:=mv) (c:=c) (train:=train) (laps:=laps) hr (s:=(Vx.tat tl ((2*base X.nr ls[0]:Nat):Int),us)) (j:=j) (by omega);dsimp only at hb;rw [lineM,hd];rw [Xp,Qc hj,QjG,Q4Z e];simp -implicitDefEqProofs only [Q0,QjB,QjF,Q3,QG,Qe,(H8 g.ok hi).1,aj,Qq (show j<=1000 by omega)];exact g.ridesM hi (s:=X.lineM per tl mv c train laps ls (Vx.tat tl ((2*base X.nr ls[0]:Nat):Int),us) j) (by omega) (by omega) (by omega) (by omega)
 ·simp only [QjC];rw [Xp,Qi,cond_false]
theorem Gd.usesM_len {mv:Bool} {rs:List (List Nat × Bool)} (hr:X.RsOK rs):∀ {j:Nat},j<=rs.length->(X.usesM per tl mv rs j).length<=16*Q3w (rs.take j)
 |0,_=>Nat.zero_le _
 |j+1,hj=>by
  have ih:=Gd.usesM_len (mv:=mv) hr (j:=j) (by omega);have e:=QjE (l:=rs) (i:=j) (by omega);have hd:rs.getD j ([],false)=rs[j]:=by rw [QjH,e];rfl
  have aj:=hr.ls _ (QjD e);have:=g.lineM_rng (mv:=mv) (c:=rs[j].2) (train:=j) (laps:=X.lapsV per tl rs[j].1 rs[j].2) aj.2 (s:=(Vx.tat tl ((2*base X.nr (rs[j].1.getD 0 0):Nat):Int),X.usesM per tl mv rs j)) (QjM rs[j].1.length);rw [usesM,hd,Q9n e];unfold trainM;dsimp only at this;omega
theorem Gd.usesP {mv:Bool} {rs:List (List Nat × Bool)} (hr:X.RsOK rs) (k0:LL->oP R):Xv 400 (Qbn rs) ((rs.length:Nat):Int) X.G.St X.G.Pt X.G.Se X.G.Li X.skR X.Ro X.Ls Ch per A (encI tl) mv (encI ((List.range X.L).map (tix X.T))) ((X.N:Nat):Int) (X.fst X.L) (fun _ _ w=>k0 w) 400 0 []=k0 ((X.usesM per tl mv rs rs.length).map Cl):=by
 have n3:=hr.n3;have hs:=hr.sum;refine Qu (r:=fun m j=>Xv 400 (Qbn rs) ((rs.length:Nat):Int) X.G.St X.G.Pt X.G.Se X.G.Li X.skR X.Ro X.Ls Ch per A (encI tl) mv (encI ((List.range X.L).map (tix X.T))) ((X.N:Nat):Int) (X.fst X.L) (fun _ _ w=>k0 w) m j ((X.usesM per tl mv rs j.toNat).map Cl)) (N:=rs.length) (fun m j hj=>?_) (fun m=>?_) rs.length 400 0 (by omega) (by omega)
 ·simp only [QjC];have e:=QjE hj;have hd:rs.getD j ([],false)=rs[j]:=by rw [QjH,e];rfl
  have ak:=hr.ls _ (QjD e);have a:=hr.len3 e;have an:=g.usesM_len (mv:=mv) hr (j:=j) (by omega);have:=Q7M (rs:=rs) (j:=j);have aj:Q1 (Qbn rs) (j:Int)=some [D.sl 1 (Q5u rs[j].1),D.bool rs[j].2]:=by rw [Qe];unfold Qbn;rw [QjY,e];rfl
  rw [Xv,Qc hj,QjG,aj,usesM,hd];simp -implicitDefEqProofs only [Q0,QjB,QjF,QG,N3,g.trainP (show (X.usesM per tl mv rs j).length<=300 by omega) ak.1 a ak.2,Qq (show j<=1000 by omega)]
 ·simp only [QjC];rw [Xv,Qi,cond_false]
end Cx
end Go.Vx
namespace Go.Vx
variable {R:Type}
def JV (n:Nat) (a0:LL) (K:LL->LL->LL->LL->Int->LL->LL->LL->LL->LL->LL->LL->LL->Bool->oP R):oP R:= gb true (PQ n a0 Tu12) ([],[],[],[],0,[],[],[],[],[],[],[]) fun a=>gb true (T8 n a.1 a.2.1 a.2.2.1 a.2.2.2.1 a.2.2.2.2.1 a.2.2.2.2.2.1 a.2.2.2.2.2.2.1 a.2.2.2.2.2.2.2.1 a.2.2.2.2.2.2.2.2.1 a.2.2.2.2.2.2.2.2.2.1 a.2.2.2.2.2.2.2.2.2.2.1 a.2.2.2.2.2.2.2.2.2.2.2 Tu4) (0,[],[],0) fun b=>bif (b.2.2.2 != 0) then K a.1 a.2.1 a.2.2.1 a.2.2.2.1 a.2.2.2.2.1 a.2.2.2.2.2.1 a.2.2.2.2.2.2.1 a.2.2.2.2.2.2.2.1 a.2.2.2.2.2.2.2.2.1 a.2.2.2.2.2.2.2.2.2.1 a.2.2.2.2.2.2.2.2.2.2.1 a.2.2.2.2.2.2.2.2.2.2.2 [] false else gb true (UF n b.1 b.2.1 b.2.2.1 3000 Tu3) ([],0,0) fun c=>K a.1 a.2.1 a.2.2.1 a.2.2.2.1 a.2.2.2.2.1 a.2.2.2.2.2.1 a.2.2.2.2.2.2.1 a.2.2.2.2.2.2.2.1 a.2.2.2.2.2.2.2.2.1 a.2.2.2.2.2.2.2.2.2.1 a.2.2.2.2.2.2.2.2.2.2.1 a.2.2.2.2.2.2.2.2.2.2.2 c.1 (c.2.2 == 0)
end Go.Vx
namespace Go.Vx
variable {R:Type}
def QcE (t:Int):LL->Bool
 | [[.int .i64 a,.int .i64 b,.int .i64 c,.int .i64 d,.int .i64 e]]=>decide (t=5)&&(decide (a=0)&&(decide (b=3)&&(decide (c=1)&&(decide (d=2)&&decide (e=0)))))
 | _=>false
def Po (n:Nat) (a0:Int) (a1:LL) (K:Bool->oP R):oP R:=bif QcE a0 a1 then K true else none
end Go.Vx
namespace Go.Vx
variable {R:Type}
def Gy (n:Nat) (g:LL) (h2:Int) (k0:oP R) (k1:Int->Bool->oP R):Nat->Int->oP R
 | 0,_=>none
 | m+1,a=>bif decide (a<h2) then gb true (Q1 g a) [] fun b=>gb true (b[0]?) oF fun o=>gb true (b[1]?) oF fun p=>gb true (b[2]?) oF fun h=>gb true (b[3]?) oF fun i=>gb true (b[4]?) oF fun j=>gb true (pIw o) 0 fun c=>gb (!(decide (c<0))) (pIw p) 0 fun e=>gb (!(bif decide (c<0) then true else (decide (e<0)))) (pIw h) 0 fun k=>gb (!(bif (bif decide (c<0) then true else (decide (e<0))) then true else (decide (k<(-1099511627776:Int))))) (pIw h) 0 fun q=>bif (bif (bif (bif decide (c<0) then true else (decide (e<0))) then true else (decide (k<(-1099511627776:Int)))) then true else (decide (q>1099511627776))) then k0 else gb true (pIw i) 0 fun d=>gb (!(decide (d<1))) (pIw i) 0 fun f=>gb (!(bif decide (d<1) then true else (decide (f>1099511627776)))) (pIw j) 0 fun l=>gb (!(bif (bif decide (d<1) then true else (decide (f>1099511627776))) then true else (decide (l<0)))) (pIw j) 0 fun r=>bif (bif (bif (bif decide (d<1) then true else (decide (f>1099511627776))) then true else (decide (l<0))) then true else (decide (r>1099511627776))) then k0 else Gy n g h2 k0 k1 m (wJ (a+1)) else k1 a (decide (a<h2))
def N8 (n:Nat) (a0:Int) (a1:LL) (K:Bool->oP R):oP R:= bif (bif decide (a0<2) then true else (decide (a0>7200))) then K false else Gy n a1 (a1.length:Int) (K false) (fun a b=>K true) n 0
end Go.Vx
namespace Go.Vx
variable {R:Type}
def D5 (n:Nat) (a0 a1:Int) (K:Bool->oP R):oP R:= gb true (Vi n a0 some) false fun a=>gb a (Vi n a1 some) false fun b=>K (bif (bif a then (!b) else false) then true else (decide (a0<a1)))
end Go.Vx
namespace Go.Vx
variable {R:Type}
def Ya (n:Nat) (c:Int) (k0:Int->Bool->LL->oP R):Nat->Int->LL->oP R
 | 0,_,_=>none
 | m+1,a,b=>gb (decide (a>c)) (inB (b.length) a) () fun u=>gb (decide (a>c)) (b[a.toNat]?) [] fun g=>gb (decide (a>c)) (g[0]?) oF fun h=>gb (decide (a>c)) (pIw h) 0 fun i=>gb (decide (a>c)) (inB (b.length) (wJ (a-1))) () fun v=>gb (decide (a>c)) (b[(Int.toNat (wJ (a-1)))]?) [] fun j=>gb (decide (a>c)) (j[0]?) oF fun k=>gb (decide (a>c)) (pIw k) 0 fun l=>gb (decide (a>c)) (D5 n i l some) false fun f=>bif (bif decide (a>c) then f else false) then gb true (inB (b.length) (wJ (a-1))) () fun x=>gb true (b[(Int.toNat (wJ (a-1)))]?) [] fun o=>gb true (o[0]?) oF fun p=>gb true (pIw p) 0 fun d=>gb true (inB (b.length) a) () fun y=>gb true (b[a.toNat]?) [] fun q=>gb true (q[0]?) oF fun r=>gb true (pIw r) 0 fun s=>gb true (inB (b.length) a) () fun z=>gb true (b[a.toNat]?) [] fun e=>gb true (inB (List.length (List.set b a.toNat (List.set e 0 (Q4 d)))) (wJ (a-1))) () fun aa=>gb true ((List.set b a.toNat (List.set e 0 (Q4 d)))[(Int.toNat (wJ (a-1)))]?) [] fun t=>Ya n c k0 m (wJ (a-1)) (List.set (List.set b a.toNat (List.set e 0 (Q4 d))) (Int.toNat (wJ (a-1))) (List.set t 0 (Q4 s))) else k0 a (bif decide (a>c) then f else false) b
def Y9 (n:Nat) (b h2:Int) (k0:Int->Bool->LL->oP R):Nat->Int->LL->oP R
 | 0,_,_=>none
 | m+1,a,c=>bif decide (a<h2) then Ya n b (fun e f d=>Y9 n b h2 k0 m (wJ (a+1)) d) n a c else k0 a (decide (a<h2)) c
def WU (n:Nat) (a:LL) (a1 a2:Int) (K:LL->oP R):oP R:= Y9 n a1 a2 (fun c d b=>K b) n (wJ (a1+1)) a
end Go.Vx
namespace Go.Vx
variable {R:Type}
def UZ (n:Nat) (a h2 d:Int) (b:LL) (k0:LL->oP R):Nat->oP R
 | 0=>none
 | m+1=>bif (decide ((wJ (h2-a))<=12)) then gb true (WU n b a h2 some) [] fun c=>gb true (He c (b.length)) () fun e=>k0 c else bif (d == 0) then none else bif !true then none else none
def VJ (n:Nat) (a:LL) (a1 a2 b:Int) (K:LL->oP R):oP R:= UZ n a1 a2 b a (fun c=>K c) n
end Go.Vx
namespace Go.Vx
variable {R:Type}
def GZ (n:Nat) (a:LL) (K:LL->oP R):oP R:= gb true (G4 n (IntKind.wrap .u64 (a.length:Int)) some) 0 fun c=>gb true (VJ n a 0 (a.length:Int) c some) [] fun b=>gb true (He b (a.length)) () fun u3=>K b
end Go.Vx
namespace Go.Vx
variable {R:Type}
def Uq (n:Nat) (c:LL) (d:Int) (b:LL) (k0:Int->Bool->oP R):Nat->Int->oP R
 | 0,_=>none
 | m+1,a=>bif (decide (a<(b.length:Int))) then gb true (Q1 b a) [] fun e=>gb true (e[0]?) oF fun f=>gb true (pIw f) 0 fun g=>gb true (Q1 b (wJ (a-1))) [] fun h=>gb true (h[0]?) oF fun i=>gb true (pIw i) 0 fun j=>bif (g != j) then gb true (Q1 b a) [] fun k=>gb true (k[0]?) oF fun l=>gb true (pIw l) 0 fun o=>gb true (Q1 c d) [] fun p=>none else Uq n c d b k0 m (wJ (a+1)) else k0 a (decide (a<(b.length:Int)))
def Uo (n:Nat) (a:LL) (k0:Int->Bool->oP R):Nat->Int->oP R
 | 0,_=>none
 | m+1,h2=>bif (decide (h2<(a.length:Int))) then gb true (Q1 a h2) [] fun b=>gb true (b[0]?) oF fun c=>gb true (pIw c) 0 fun d=>gb true (Q1 a (wJ (h2-1))) [] fun e=>gb true (e[0]?) oF fun f=>gb true (pIw f) 0 fun g=>bif (d == g) then gb true (slB (a.length) (some h2) none) (0,0) fun h=>Uq n a h2 (cut a h) (fun i j=>gb true (slB (a.length) (some h2) none) (0,0) fun k=>none) n 1 else Uo n a k0 m (wJ (h2+1)) else k0 h2 (decide (h2<(a.length:Int)))
def GY (n:Nat) (a0:LL) (K:LL->oP R):oP R:= bif (decide ((a0.length:Int)<2)) then K a0 else Uo n a0 (fun a b=>K a0) n 1
end Go.Vx
namespace Go.Vx
variable {R:Type}
def Gr (n:Nat) (g a h:Int) (i:LL) (d:Int) (k0:Int->Bool->LL->oP R):Nat->Int->LL->oP R
 | 0,_,_=>none
 | m+1,b,e=>bif decide (b<d) then gb true (Q1 i b) [] fun c=>gb true (c[0]?) oF fun k=>gb true (c[1]?) oF fun l=>gb true (c[2]?) oF fun o=>gb true (c[3]?) oF fun p=>gb true (c[4]?) oF fun t=>gb true (pIw k) 0 fun f=>gb (f == a) (pIw o) 0 fun q=>gb (f == a) (Ta n (wJ (h-q)) g some) 0 fun r=>gb (f == a) (pIw p) 0 fun s=>bif (bif (f == a) then (decide (r<s)) else false) then gb true (pIw l) 0 fun j=>gb true (Yf ((e.length+[[Q4 j]].length)*8)) () fun u=>Gr n g a h i d k0 m (wJ (b+1)) (e++[[Q4 j]]) else Gr n g a h i d k0 m (wJ (b+1)) e else k0 b (decide (b<d)) e
def D9 (n:Nat) (a0:Int) (a1:LL) (a2 c:Int) (K:LL->oP R):oP R:= gb true (N8 n a0 a1 some) false fun d=>bif !d then K [] else gb true (Ta n c a0 some) 0 fun e=>Gr n a0 a2 e a1 (a1.length:Int) (fun g h a=>gb true (GZ n a some) [] fun b=>gb true (He b (a.length)) () fun i=>gb true (GY n b some) [] fun f=>K f) n 0 []
end Go.Vx
namespace Go.Vx
variable {R:Type}
def Hs (n:Nat) (c h2:LL) (b:Int) (k0:oP R) (k1:Int->Bool->oP R):Nat->Int->oP R
 | 0,_=>none
 | m+1,a=>bif decide (a<b) then gb true (Q1 c a) [] fun d=>gb true (d[0]?) oF fun e=>gb true (pIw e) 0 fun f=>gb true (Q1 h2 a) [] fun g=>gb true (g[0]?) oF fun h=>gb true (pIw h) 0 fun i=>bif (f != i) then k0 else Hs n c h2 b k0 k1 m (wJ (a+1)) else k1 a (decide (a<b))
def LS (n:Nat) (a0 a1:LL) (K:Bool->oP R):oP R:= bif ((a0.length:Int) != (a1.length:Int)) then K false else Hs n a0 a1 (a0.length:Int) (K false) (fun a b=>K true) n 0
end Go.Vx
namespace Go.Vx
variable {R:Type}
def Ti (n:Nat)  (K:Bool->oP R):oP R:= gb true (Po n 5 [[Q4 0,Q4 3,Q4 1,Q4 2,Q4 0]] some) false fun a=>gb a (D9 n 5 [[Q4 0,Q4 3,Q4 1,Q4 2,Q4 0]] 0 7 some) [] fun b=>gb a (LS n b [[Q4 3]] some) false fun c=>K (bif a then c else false)
end Go.Vx
namespace Go.Vx
variable {R:Type}
def P8 (n:Nat) (b c d e:LL) (f:Int) (g h i j k l m a2:LL) (K:LL->Int->oP R):oP R:= gb true (Zf n b c d e f g h i j k l m a2 true Tu2) ([],0) fun a=>K a.1 a.2
end Go.Vx
namespace Go.Vx
theorem T4.lt {X:Cx} {f k:Nat} {r:List D} (h:T4 X.Ls f k r):f<X.Ls.length/\k<X.nr f:=by
 obtain ⟨nm,w,rides,a,h2⟩:=h;refine ⟨(QjL.1 a).1,?_⟩;have e:GJ X.Ls f=rides:=by unfold GJ;rw [a]
 unfold Cx.nr;rw [e];exact (QjL.1 h2).1
theorem PlanR.lsOK {X:Cx} {per:Int} {Sk Ch Tu Sy De:LL} (h:PlanR X.G per Sk X.Ro X.Ls Ch Tu Sy De):X.LsOK per Ch Sy where
 ch:=fun row hr=>by
  obtain ⟨f,fr,t,tr,mn,mx,w,r,r',x,y,x',y',b,b',i,e,a,h2,g,j,k,c,d,_⟩:=h.ch row hr;exact ⟨f,fr,t,tr,mn,mx,w,e,a.lt.1,a.lt.2,h2.lt.1,h2.lt.2,c,d⟩
 chl:=h.chl
 sy:=fun row hr=>h.sy row hr
 syl:=h.syl
theorem Q45 {us:List U} {i:Nat} {u:U} (e:us[i]? = some u):Q1 (us.map Cl) (i:Int)=some [Q4 (u.1:Int),Q4 (u.2.1:Int),Q4 u.2.2.1,Q4 u.2.2.2.1,Q4 u.2.2.2.2]:=by
 rw [Qe,QjY,e];rfl
theorem Qa2 {per:Int} {E A:LL} {w:List Int} (a:A.all (chk per E.length)=true) (h2:TG per E.length w):Q6z per E A w=true:=by
 unfold Q6z;rw [a,h2.1];simp only [QjP,cond_false,bne_self_eq_false,QjU,Bool.not_eq_true',Bool.cond_true_left,Bool.or_eq_false_iff,decide_eq_false_iff_not];intro x hx;have:=h2.2 x hx;omega
section
variable {n:Nat} {a0 a1 a2 a3:LL} {p:Int} {b1 b2 b3 b4 b5 b6 b7 t:LL}
theorem Qax {q m:Int} {E A rr tu fs us:LL} {mv:Bool} (hb:GI n a0 a1 a2 a3 p b1 b2 b3 b4 b5 b6 b7 Tu4=some (q,E,A,0)) (hg:JU n q E A t some=some true) (ht:Zm n b3 b5 some=some tu) (hf:∀ k0:Int->LL->Option (LL × Int),XO n b3 ((b3.length:Nat):Int) (fun a _ _ w=>k0 a w) n 0 0 []=k0 m fs) (hr:XH n b3 b5 some=some rr)
  (hl:∀ k0:LL->Option (LL × Int),Xv n rr ((rr.length:Nat):Int) a0 a1 a2 a3 b1 b2 b3 b4 q A t mv tu m fs (fun _ _ w=>k0 w) n 0 []=k0 us):Zf n a0 a1 a2 a3 p b1 b2 b3 b4 b5 b6 b7 t mv Tu2=some (us,0):=by
 unfold Zf;rw [hb];show (gb true (JU n q E A t some) false fun h=>bif (!h) then some ([],(1:Int)) else gb true (Zm n b3 b5 some) [] fun i=>XO n b3 ((List.length b3:Nat):Int) (fun c l o d=>gb true (XH n b3 b5 some) [] fun b=>Xv n b ((List.length b:Nat):Int) a0 a1 a2 a3 b1 b2 b3 b4 q A t mv i c d (fun j k e=>some (e,(0:Int))) n (0:Int) []) n (0:Int) (0:Int) [])=_;rw [hg,Q0,ht];show (XO n b3 ((List.length b3:Nat):Int) (fun c l o d=>gb true (XH n b3 b5 some) [] fun b=>Xv n b ((List.length b:Nat):Int) a0 a1 a2 a3 b1 b2 b3 b4 q A t mv tu c d (fun j k e=>some (e,(0:Int))) n (0:Int) []) n (0:Int) (0:Int) [])=_;rw [hf (fun c d=>gb true (XH n b3 b5 some) [] fun b=>Xv n b ((List.length b:Nat):Int) a0 a1 a2 a3 b1 b2 b3 b4 q A t mv tu c d (fun j k e=>some (e,(0:Int))) n (0:Int) []),hr,Q0,hl (fun w=>some (w,(0:Int)))]
theorem QcH {l:LL} {q e:Int} {E A:LL} (hp:PQ n l Tu12=some (a0,a1,a2,a3,p,b1,b2,b3,b4,b5,b6,b7)) (hb:T8 n a0 a1 a2 a3 p b1 b2 b3 b4 b5 b6 b7 Tu4=some (q,E,A,e)) :
  JV n l Tu14=bif e != 0 then some (a0,a1,a2,a3,p,b1,b2,b3,b4,b5,b6,b7,[],false) else gb true (UF n q E A 3000 Tu3) ([],0,0) fun a=>some (a0,a1,a2,a3,p,b1,b2,b3,b4,b5,b6,b7,a.1,a.2.2 == 0):=by
 unfold JV;rw [hp,Q0];dsimp only;rw [hb,Q0]
end
namespace Cx
variable {X:Cx} (h:X.OK) {per:Int} {Ch Sy De:LL} (hl:X.LsOK per Ch Sy) {R:Type}
include h
theorem firstsP (k0:Int->LL->oP R):XO 400 X.Ls ((X.Ls.length:Nat):Int) (fun a _ _ w=>k0 a w) 400 0 0 []=k0 ((X.N:Nat):Int) (X.fst X.L):=by
 have l1:=h.l1;refine Qu (r:=fun m i=>XO 400 X.Ls ((X.Ls.length:Nat):Int) (fun a _ _ w=>k0 a w) m ((base X.nr i.toNat:Nat):Int) i (X.fst i.toNat)) (N:=X.Ls.length) (fun m i hi=>?_) (fun m=>?_) X.Ls.length 400 0 (by omega) (by omega)
 ·simp only [QjC];have hb:=Ye h (i:=i) (by omega);have hn:=(H8 h hi).2.1;have e2:X.fst i++[[D.int .i64 (base X.nr i:Int)]]=X.fst (i+1):=by simp [fst,encI,List.range_succ]
  have c:(X.fst i).length=i:=by simp [fst,encI]
  have ha:wJ (((base X.nr i:Nat):Int)+(((GJ X.Ls i).length:Nat):Int))=((base X.nr (i+1):Nat):Int):=Qa6 (a:=base X.nr i) (b:=X.nr i) (by omega);rw [XO,Qc hi,QjG,Qe,(H8 h hi).1];simp -implicitDefEqProofs only [Q0,QjB,QjF,QG,Qq (show i<=1000 by omega),e2,ha,XF (show ((X.fst i).length+[[D.int .i64 (base X.nr i:Int)]].length)*8<=100000 by rw [c];simp;omega)]
 ·simp only [QjC];rw [XO,Qi,cond_false];rfl
end Cx
structure Sol (Se:LL) (us ss:List U):Prop where
 len:us.length<=48/\ss.length<=48
 sub:ss.Sublist us
 one:us≠[]/\ss≠[]
 st:∀ u∈ss,Qfn Se u
 nu:∀ u∈us,Qfd u
 cv:∃ n,(∀ u∈us,u.2.1<n)/\(∀ t,t<n->∃ lo hi,CovI t lo hi us)/\∀ t,t<n->∃ u∈us,u.2.1=t/\u.1<Se.length/\0<u.2.2.1+u.2.2.2.1
theorem Qcm {l:List Int} (hl:l.length<=9223372036854775807):∃ (a0 a1 a2 a3:LL) (p:Int) (b1 b2 b3 b4 b5 b6 b7 t:LL) (ok:Bool),JV 400 (encI l) Tu14=some (a0,a1,a2,a3,p,b1,b2,b3,b4,b5,b6,b7,t,ok) /\
  (ok=true->a2.length<=1000/\∃ us ss:List U,Sol a2 us ss/\Zf 400 a0 a1 a2 a3 p b1 b2 b3 b4 b5 b6 b7 t true Tu2=some (us.map Cl,0)/\Zf 400 a0 a1 a2 a3 p b1 b2 b3 b4 b5 b6 b7 t false Tu2=some (ss.map Cl,0)):=by
 have hp:PQ 400 (encI l) Tu12∈(fun r=>∃ (G:Geo) (per:Int) (Sk Ro Ls Ch Tu Sy De:LL),PlanR G per Sk Ro Ls Ch Tu Sy De/\r=(G.St,G.Pt,G.Se,G.Li,per,Sk,Ro,Ls,Ch,Tu,Sy,De)):=Qgr hl fun G per Sk Ro Ls Ch Tu Sy De h=>okI ⟨G,per,Sk,Ro,Ls,Ch,Tu,Sy,De,h,rfl⟩
 obtain ⟨_,hp,G,per,Sk,Ro,Ls,Ch,Tu,Sy,De,hR,rfl⟩:=hp;obtain ⟨X,h,rfl,rfl,rfl,rfl,rfl⟩:=hR.cx;have ao:=hR.lsOK;have p0:2<=per:=by have:=hR.p0;omega
 have p1:=hR.p1;have hc:J9 400 X.G.St X.G.Pt X.G.Se X.G.Li per X.skR X.Ro X.Ls Ch (X.T.map tuR) Sy De (some:Int->Option Int)=some 0:=QbT hR some;have x:Ul 400 X.G.St X.G.Pt X.G.Se X.G.Li per X.skR X.Ro X.Ls Ch (X.T.map tuR) Sy De (some:Int->Option Int)=some 0:=Qga hR;have hN:X.N<=6:=Cx.base_le h;have az:=Cx.buildP h ao p0 p1 hc;have ax:=Cx.buildR h ao p0 p1 x;have bi:=(F6 h.g.lay).2;cases ev:X.netV per X.jns Ch Sy with
 |mk q r=>
 obtain ⟨E,A,e⟩:=r;rw [ev] at az ax;have hs:=QcH hp ax;by_cases he:e=0
 rotate_left
 ·rw [show (e != 0)=true by simpa using he,QjG] at hs;exact ⟨_,_,_,_,_,_,_,_,_,_,_,_,_,_,hs,fun e=>nomatch e⟩
 subst he;rw [bne_self_eq_false,cond_false] at hs;unfold Cx.netV at ev;cases ha:X.aloneJ per X.jns with
 |false=>
  rw [ha] at ev;cases ev
 |true=>
  rw [ha,QjG] at ev;cases eh:X.hdws per X.jns X.N 0 with
  |none=>
   rw [eh] at ev;cases ev
  |some H=>
   rw [eh] at ev;cases ev;have hH:=Cx.hdws_rows eh;have bg:=Cx.planned_len h ao;have bc:=Cx.hdws_len h p0 p1 (by omega) eh;have hA:(X.planned Ch Sy++H).length<400:=by rw [List.length_append];omega
   have ay:(X.evs X.L).length=2*X.N:=Cx.evs_len;have hE:(X.evs X.L).length<=48:=by omega
   have s:∀ r∈X.planned Ch Sy++H,R6 r:=fun r hr=>Cx.act_r6 h ao hH hr
   have aq:=Qb9 p0 p1 hE (by omega) s hA;cases ak:(X.planned Ch Sy++H).all (chk per (X.evs X.L).length) with
   |false=>
    rw [ak] at aq;obtain ⟨res,us,hf⟩:=QfM aq;rw [hf,Q0] at hs;exact ⟨_,_,_,_,_,_,_,_,_,_,_,_,_,_,hs,fun e=>nomatch e⟩
   |true=>
    rw [ak] at aq;have au:=QjU.1 ak;obtain ⟨res,us,e,hf,hv⟩:=QgT p0 p1 hE hA s au rfl aq;rw [hf,Q0] at hs;refine ⟨_,_,_,_,_,_,_,_,_,_,_,_,_,_,hs,fun a6=>?_⟩;have he:e=0:=by simpa using a6
    obtain ⟨tl,rfl,hT⟩:=hv he;have g:X.Gd per Ch Sy (X.planned Ch Sy++H) tl:=⟨h,ao,p0,p1,⟨H,rfl,hH⟩,hA,by rw [hT.1,ay],hT.2,fun r hr=>by have:=au r hr;rw [ay] at this;exact this⟩;have hg:=(Qei p0 p1 hE (by omega) s hA (tl:=tl)).1;rw [Qa2 ak hT] at hg;obtain ⟨rs,a,c,d,f,r6⟩:=Cx.rotsP h;have aj:X.RsOK rs:=⟨d,f⟩;have aw:(Qbn rs).length=rs.length:=by simp [Qbn]
    have hu:=fun mv=>Qax (mv:=mv) az hg c (Cx.firstsP h) a (fun k0=>by rw [aw];exact g.usesP (mv:=mv) aj k0)
    have l1:=g.usesM_len (mv:=true) aj (QjM rs.length);have l2:=g.usesM_len (mv:=false) aj (QjM rs.length);rw [QjS] at l1 l2;have an:=g.usesM_cov aj.ls (QjM rs.length);obtain ⟨u1,y⟩:=g.usesM_one (mv:=true) aj r6;obtain ⟨u2,z⟩:=g.usesM_one (mv:=false) aj r6;exact ⟨by omega,X.usesM per tl true rs rs.length,X.usesM per tl false rs rs.length,⟨⟨by omega,by omega⟩,Cx.usesM_sub,⟨List.ne_nil_of_mem y,List.ne_nil_of_mem z⟩,g.usesM_okS aj,g.usesM_okN aj,rs.length,an.lt,an.cv,an.se⟩,hu true,hu false⟩
theorem Qeb:Ti 400 (some:Bool->Option Bool)=some true:=by kernel_rfl
end Go.Vx
namespace Go.Vx
variable {R:Type}
def Hq (n:Nat) (b c d e:LL) (f:Int) (g h i j k l m a2:LL) (K:LL->Int->oP R):oP R:= gb true (Zf n b c d e f g h i j k l m a2 false Tu2) ([],0) fun a=>K a.1 a.2
end Go.Vx
namespace Go.Vx
variable {R:Type}
def QK (n:Nat) (g b:LL) (f:Int) (k0:Int->Int->Bool->oP R):Nat->Int->Int->oP R
 | 0,_,_=>none
 | m+1,a,c=>bif decide (c<f) then gb (decide (a<(b.length:Int))) (Q1 g c) [] fun d=>gb (decide (a<(b.length:Int))) (d[0]?) oF fun h=>gb (decide (a<(b.length:Int))) (d[1]?) oF fun i=>gb (decide (a<(b.length:Int))) (d[2]?) oF fun j=>gb (decide (a<(b.length:Int))) (d[3]?) oF fun k=>gb (decide (a<(b.length:Int))) (d[4]?) oF fun l=>gb (decide (a<(b.length:Int))) (Q1 b a) [] fun e=>gb (decide (a<(b.length:Int))) (e[0]?) oF fun o=>gb (decide (a<(b.length:Int))) (e[1]?) oF fun p=>gb (decide (a<(b.length:Int))) (e[2]?) oF fun q=>gb (decide (a<(b.length:Int))) (e[3]?) oF fun r=>gb (decide (a<(b.length:Int))) (e[4]?) oF fun s=>gb (decide (a<(b.length:Int))) (pIw h) 0 fun t=>gb (decide (a<(b.length:Int))) (pIw o) 0 fun u=>gb (decide (a<(b.length:Int))) (pIw i) 0 fun v=>gb (decide (a<(b.length:Int))) (pIw p) 0 fun x=>gb (decide (a<(b.length:Int))) (pIw j) 0 fun y=>gb (decide (a<(b.length:Int))) (pIw q) 0 fun z=>gb (decide (a<(b.length:Int))) (pIw k) 0 fun aa=>gb (decide (a<(b.length:Int))) (pIw r) 0 fun ab=>gb (decide (a<(b.length:Int))) (pIw l) 0 fun ac=>gb (decide (a<(b.length:Int))) (pIw s) 0 fun ad=>bif (bif (decide (a<(b.length:Int))) then ((t == u)&&((v == x)&&((y == z)&&((aa == ab)&&(ac == ad))))) else false) then QK n g b f k0 m (wJ (a+1)) (wJ (c+1)) else QK n g b f k0 m a (wJ (c+1)) else k0 a c (decide (c<f))
def X1 (n:Nat) (e:LL) (f:Int) (b:LL) (k0:oP R) (k1:Int->Bool->oP R):Nat->Int->oP R
 | 0,_=>none
 | m+1,c=>bif decide (c<f) then gb true (Q1 e c) [] fun g=>gb true (g[0]?) oF fun h=>gb true (pIw h) 0 fun a=>gb (!(decide (a<0))) (Q1 e c) [] fun i=>gb (!(decide (a<0))) (i[0]?) oF fun j=>gb (!(decide (a<0))) (pIw j) 0 fun d=>gb (!(bif decide (a<0) then true else (decide (d>=(b.length:Int))))) (Q1 e c) [] fun k=>gb (!(bif decide (a<0) then true else (decide (d>=(b.length:Int))))) (k[0]?) oF fun l=>gb (!(bif decide (a<0) then true else (decide (d>=(b.length:Int))))) (pIw l) 0 fun o=>gb (!(bif decide (a<0) then true else (decide (d>=(b.length:Int))))) (Q1 b o) [] fun p=>gb (!(bif decide (a<0) then true else (decide (d>=(b.length:Int))))) (p[4]?) oF fun q=>gb (!(bif decide (a<0) then true else (decide (d>=(b.length:Int))))) (pIw q) 0 fun r=>bif (bif (bif decide (a<0) then true else (decide (d>=(b.length:Int)))) then true else (decide (r<0))) then k0 else X1 n e f b k0 k1 m (wJ (c+1)) else k1 c (decide (c<f))
def law19_OccupancyStandsAreUses (n:Nat) (a0:LL) (K:Bool->oP R):oP R:= gb true (JV n a0 Tu14) ([],[],[],[],0,[],[],[],[],[],[],[],[],false) fun a=>bif (!a.2.2.2.2.2.2.2.2.2.2.2.2.2) then gb true (Ti n some) false fun e=>K e else gb true (P8 n a.1 a.2.1 a.2.2.1 a.2.2.2.1 a.2.2.2.2.1 a.2.2.2.2.2.1 a.2.2.2.2.2.2.1 a.2.2.2.2.2.2.2.1 a.2.2.2.2.2.2.2.2.1 a.2.2.2.2.2.2.2.2.2.1 a.2.2.2.2.2.2.2.2.2.2.1 a.2.2.2.2.2.2.2.2.2.2.2.1 a.2.2.2.2.2.2.2.2.2.2.2.2.1 Tu2) ([],0) fun d=>gb true (Hq n a.1 a.2.1 a.2.2.1 a.2.2.2.1 a.2.2.2.2.1 a.2.2.2.2.2.1 a.2.2.2.2.2.2.1 a.2.2.2.2.2.2.2.1 a.2.2.2.2.2.2.2.2.1 a.2.2.2.2.2.2.2.2.2.1 a.2.2.2.2.2.2.2.2.2.2.1 a.2.2.2.2.2.2.2.2.2.2.2.1 a.2.2.2.2.2.2.2.2.2.2.2.2.1 Tu2) ([],0) fun b=>bif (bif (bif (d.2 != 0) then true else (b.2 != 0)) then true else ((b.1.length:Int) == 0)) then K false else QK n d.1 b.1 (d.1.length:Int) (fun o q r=>X1 n b.1 (b.1.length:Int) a.2.2.1 (K false) (fun s t=>gb true (Ti n some) false fun p=>K (bif p then (o == (b.1.length:Int)) else false)) n 0) n 0 0
end Go.Vx
namespace Go.Vx
theorem QhP {α R:Type} (p:Option α) (z:α) (k:α->oP R):gb false p z k=k (p.getD z):=by cases p <;> rfl
theorem Qh2 {u v:U}:((((u.1:Nat):Int) == ((v.1:Nat):Int))&&((((u.2.1:Nat):Int) == ((v.2.1:Nat):Int))&&((u.2.2.1 == v.2.2.1)&&((u.2.2.2.1 == v.2.2.2.1)&&(u.2.2.2.2 == v.2.2.2.2)))))=true↔u=v:=by
 obtain ⟨a,b,c,d,e⟩:=u;obtain ⟨a',b',c',d',e'⟩:=v;simp only [QjT,beq_iff_eq,Prod.mk.injEq];omega
theorem Q1h {n:Nat} {us ss:List U} (hu:us.length<=48) (hs:ss.length<=48) {k0:Int->Int->Bool->Option Bool}:∀ (aj:List U) (i k m:Nat),us.drop i=aj->aj.length<m->i<=us.length->k<=ss.length->(ss.drop k).Sublist aj ->
  QK n (us.map Cl) (ss.map Cl) ((us.length:Nat):Int) k0 m (k:Int) (i:Int)=k0 ((ss.length:Nat):Int) ((us.length:Nat):Int) false
 |[],i,k,m,hd,hm,hi,hk,hsub=>by
  obtain ⟨m,rfl⟩:∃ k,m=k+1:=⟨m-1,by simp at hm;omega⟩;have a:=ZP hd;have h2:=ZP (List.sublist_nil.1 hsub);rw [QK,show i=us.length by omega,Qi,cond_false,show k=ss.length by omega]
 |u::aj,i,k,m,hd,hm,hi,hk,hsub=>by
  obtain ⟨m,rfl⟩:∃ k,m=k+1:=⟨m-1,by simp at hm;omega⟩;obtain ⟨e,an,aq⟩:=Yh hd;rw [QjV] at hm;rw [QK,Qc aq,QjG,Q45 e,List.length_map];by_cases ak:k<ss.length
  ·have ek:=QjE ak;rw [Qc ak,Q45 ek];simp -implicitDefEqProofs only [Q0,QjB,QjF,Q3,QjG,Qq (show i<=1000 by omega),Qq (show k<=1000 by omega)];have ao:ss.drop k=ss[k]::ss.drop (k+1):=List.drop_eq_getElem_cons ak;rw [ao] at hsub;by_cases hq:u=ss[k]
   ·rw [Qh2.2 hq,QjG];refine Q1h hu hs aj (i+1) (k+1) m an (by omega) (by omega) (by omega) ?_;cases hsub with
    |cons _ h=>exact (List.sublist_cons_self ..).trans h
    |cons_cons _ h=>exact h
   ·rw [Bool.eq_false_iff.2 fun h=>hq (Qh2.1 h),cond_false];refine Q1h hu hs aj (i+1) k m an (by omega) (by omega) (by omega) ?_;rw [ao];cases hsub with
    |cons _ h=>exact h
    |cons_cons _ h=>exact absurd rfl hq
  ·rw [show decide ((k:Int)<((ss.length:Nat):Int))=false from decide_eq_false (by omega)];simp -implicitDefEqProofs only [QhP,cond_false,Qq (show i<=1000 by omega)];exact Q1h hu hs aj (i+1) k m an (by omega) (by omega) hk (by rw [List.drop_eq_nil_of_le (by omega)];exact List.nil_sublist _)
theorem Q33 {n:Nat} {Se:LL} {ss:List U} (hs:ss.length<=48) (an:∀ u∈ss,Qfn Se u) {k0:Option Bool} {k1:Int->Bool->Option Bool}:∀ (aj:List U) (i m:Nat),ss.drop i=aj->aj.length<m->i<=ss.length ->
  X1 n (ss.map Cl) ((ss.length:Nat):Int) Se k0 k1 m (i:Int)=k1 ((ss.length:Nat):Int) false
 |[],i,m,hd,hm,hi=>by
  obtain ⟨m,rfl⟩:∃ k,m=k+1:=⟨m-1,by simp at hm;omega⟩;have d:=ZP hd;rw [X1,show i=ss.length by omega,Qi,cond_false]
 |u::aj,i,m,hd,hm,hi=>by
  obtain ⟨m,rfl⟩:∃ k,m=k+1:=⟨m-1,by simp at hm;omega⟩;obtain ⟨e,aq,ao⟩:=Yh hd;rw [QjV] at hm;obtain ⟨nm,a,b,c,st,d,h2⟩:=an u (QjD e);have ak:=(Gs d).1;have ar:(u.1:Int)<(Se.length:Int):=by
   unfold inB at ak;by_cases hc:(u.1:Int)<(Se.length:Int)
   ·exact hc
   ·rw [decide_eq_false hc,Bool.and_false] at ak;cases ak
  rw [X1,Qc ao,QjG,Q45 e];simp -implicitDefEqProofs only [Q0,QjB,QjF,Q3,d,show decide (((u.1:Nat):Int)<0)=false from decide_eq_false (by omega),show decide (((u.1:Nat):Int)>=((Se.length:Nat):Int))=false from decide_eq_false (by omega),show decide (st<0)=false from decide_eq_false (by omega),cond_false,Qq (show i<=1000 by omega)];exact Q33 hs an aj (i+1) m aq (by omega) (by omega)
theorem QaC {n:Nat} {l a0 a1 a2 c:LL} {p:Int} {b1 b2 d e f g i t:LL} {ok:Bool} (hn:n=400) (hs:JV n l Tu14=some (a0,a1,a2,c,p,b1,b2,d,e,f,g,i,t,ok)) (ha:Ti n (some:Bool->Option Bool)=some true)
  (hx:ok=true->∃ us ss:List U,Sol a2 us ss/\Zf n a0 a1 a2 c p b1 b2 d e f g i t true Tu2=some (us.map Cl,0)/\Zf n a0 a1 a2 c p b1 b2 d e f g i t false Tu2=some (ss.map Cl,0)):law19_OccupancyStandsAreUses n l some=some true:=by
 unfold law19_OccupancyStandsAreUses P8 Hq;rw [hs,Q0];dsimp only;cases ok with
 |false=>rw [Bool.not_false,QjG,ha,Q0]
 |true=>
  obtain ⟨us,ss,hS,z,h2⟩:=hx rfl;have an:ss.length≠0:=fun h=>hS.one.2 (List.length_eq_zero_iff.1 h)
  have ak:=hS.len.1;have aj:=hS.len.2;rw [QjP,cond_false,z,Q0,Q0,h2,Q0,Q0];dsimp only;rw [List.length_map,List.length_map,show (((ss.length:Nat):Int) == 0)=false by simp;exact fun h=>hS.one.2 h,bne_self_eq_false,cond_false,cond_false,cond_false];rw [show (0:Int)=((0:Nat):Int) from rfl,Q1h ak aj us 0 0 n rfl (by omega) (by omega) (by omega) (by rw [List.drop_zero];exact hS.sub),Q33 aj hS.st ss 0 n rfl (by omega) (by omega),ha,Q0];simp
theorem standsA {l:List Int} (hl:l.length<=9223372036854775807):law19_OccupancyStandsAreUses 400 (encI l) some=some true:=by
 obtain ⟨a0,a1,a2,a,p,b1,b2,b,c,d,e,f,t,ok,hs,hx⟩:=Qcm hl;exact QaC rfl hs Qeb fun h=>(hx h).2
end Go.Vx
namespace Go.Vx
open Go.Proofs
abbrev nT:List (LpE Tryz.prog):=[]
abbrev tyS (e s:Nat):TyI:=⟨.sl e s,1,24,[.slice none 0 0],[.sl s []],[],none⟩
abbrev tyN (n:Nat):TyI:=⟨.struct,n,8*n,List.replicate n (.int .i64 0),List.replicate n (.int .i64 0),(List.range n).map fun i=>(i,3),some (List.replicate n (.int .i64))⟩
def gtt:TT:=[(3,⟨.int .i64,1,8,[.int .i64 0],[.int .i64 0],[],none⟩),(4,⟨.bool,1,1,[.bool false],[.bool false],[],none⟩),(5,⟨.int .u8,1,1,[.int .u8 0],[.int .u8 0],[],none⟩),(9,⟨.str,1,16,[.string ⟨#[]⟩],[.str []],[],none⟩),(22,tyS 3 1),(23,tyS 9 1),(24,tyS 49 5),(25,tyS 186 6),(27,⟨.struct,4,96,[.slice none 0 0,.slice none 0 0,.slice none 0 0,.slice none 0 0],[.sl 1 [],.sl 1 [],.sl 5 [],.sl 6 []],[(0,23),(1,23),(2,24),(3,25)],none⟩),(28,tyS 72 5),(29,tyS 141 2),(30,tyS 83 4),(31,tyS 80 7),(32,tyS 147 4),(33,tyS 86 5),(34,tyS 88 3),(36,⟨.struct,8,176,[.int .i64 0,.slice none 0 0,.slice none 0 0,.slice none 0 0,.slice none 0 0,.slice none 0 0,.slice none 0 0,.slice none 0 0],[.int .i64 0,.sl 5 [],.sl 2 [],.sl 4 [],.sl 7 [],.sl 4 [],.sl 5 [],.sl 3 []],[(0,3),(1,28),(2,29),(3,30),(4,31),(5,32),(6,33),(7,34)],none⟩),(40,tyS 45 5),(41,⟨.int .i64,1,8,[.int .i64 0],[.int .i64 0],[],none⟩),(45,tyN 5),(49,⟨.struct,5,48,[.string ⟨#[]⟩,.int .i64 0,.int .i64 0,.int .i64 0,.int .i64 0],[.str [],.int .i64 0,.int .i64 0,.int .i64 0,.int .i64 0],[(0,9),(1,3),(2,3),(3,3),(4,3)],some [.str,.int .i64,.int .i64,.int .i64,.int .i64]⟩),(53,tyS 100 3),(54,tyS 110 6),(56,⟨.struct,3,56,[.int .i64 0,.slice none 0 0,.slice none 0 0],[.int .i64 0,.sl 3 [],.sl 6 []],[(0,3),(1,53),(2,54)],none⟩),(65,⟨.int .u64,1,8,[.int .u64 0],[.int .u64 0],[],none⟩),(72,⟨.struct,5,48,[.string ⟨#[]⟩,.int .i64 0,.int .i64 0,.int .i64 0,.int .i64 0],[.str [],.int .i64 0,.int .i64 0,.int .i64 0,.int .i64 0],[(0,9),(1,3),(2,3),(3,3),(4,3)],some [.str,.int .i64,.int .i64,.int .i64,.int .i64]⟩),(75,tyS 22 1),(77,⟨.struct,7,168,[.slice none 0 0,.slice none 0 0,.slice none 0 0,.slice none 0 0,.slice none 0 0,.slice none 0 0,.slice none 0 0],[.sl 1 [],.sl 1 [],.sl 5 [],.sl 6 [],.sl 1 [],.sl 1 [],.sl 1 []],[(0,27),(4,75),(5,75),(6,75)],none⟩),(80,tyN 7),(81,tyS 144 4),(83,⟨.struct,4,56,[.string ⟨#[]⟩,.int .i64 0,.int .i64 0,.slice none 0 0],[.str [],.int .i64 0,.int .i64 0,.sl 4 []],[(0,9),(1,3),(2,3),(3,81)],none⟩),(86,tyN 5),(88,tyN 3),(89,tyS 93 1),(93,tyS 159 3),(94,tyS 98 4),(98,tyN 4),(100,tyN 3),(103,tyS 108 2),(108,tyN 2),(110,tyN 6),(114,tyS 4 1),(116,⟨.struct,12,160,[.int .i64 0,.slice none 0 0,.slice none 0 0,.slice none 0 0,.int .i64 0,.int .i64 0,.bool false,.bool false,.bool false,.int .i64 0,.slice none 0 0,.slice none 0 0],[.int .i64 0,.sl 3 [],.sl 6 [],.sl 1 [],.int .i64 0,.int .i64 0,.bool false,.bool false,.bool false,.int .i64 0,.sl 1 [],.sl 1 []],[(0,56),(3,114),(4,3),(5,3),(6,4),(7,4),(8,4),(9,3),(10,22),(11,22)],none⟩),(122,⟨.ptr,1,8,[.pointer none],[],[],none⟩),(125,⟨.struct,21,440,[.slice none 0 0,.slice none 0 0,.slice none 0 0,.slice none 0 0,.int .i64 0,.slice none 0 0,.slice none 0 0,.slice none 0 0,.slice none 0 0,.slice none 0 0,.slice none 0 0,.slice none 0 0,.int .i64 0,.slice none 0 0,.slice none 0 0,.slice none 0 0,.bool false,.slice none 0 0,.slice none 0 0,.int .i64 0,.slice none 0 0],[.sl 1 [],.sl 1 [],.sl 5 [],.sl 6 [],.int .i64 0,.sl 5 [],.sl 2 [],.sl 4 [],.sl 7 [],.sl 4 [],.sl 5 [],.sl 3 [],.int .i64 0,.sl 3 [],.sl 6 [],.sl 1 [],.bool false,.sl 1 [],.sl 1 [],.int .i64 0,.sl 5 []],[(0,27),(4,36),(12,56),(15,22),(16,4),(17,22),(18,22),(19,3),(20,40)],none⟩),(126,tyS 129 2),(129,⟨.struct,2,32,[.slice none 0 0,.bool false],[.sl 1 [],.bool false],[(0,22),(1,4)],none⟩),(132,⟨.struct,2,32,[.slice none 0 0,.int .i64 0],[.sl 1 [],.int .i64 0],[(0,22),(1,3)],none⟩),(138,⟨.array 3 1 3,3,24,[.int .i64 0,.int .i64 0,.int .i64 0],[.int .i64 0,.int .i64 0,.int .i64 0],[(0,3),(1,3),(2,3)],none⟩),(139,tyS 149 2),(141,⟨.struct,2,32,[.slice none 0 0,.int .i64 0],[.sl 2 [],.int .i64 0],[(0,139),(1,3)],none⟩),(144,tyN 4),(145,⟨.array 4 1 4,4,4,[.bool false,.bool false,.bool false,.bool false],[.bool false,.bool false,.bool false,.bool false],[(0,4),(1,4),(2,4),(3,4)],none⟩),(147,tyN 4),(149,tyN 2),(159,tyN 3),(172,⟨.ptr,1,8,[.pointer none],[],[],none⟩),(173,tyS 224 4),(175,⟨.struct,19,424,[.slice none 0 0,.slice none 0 0,.slice none 0 0,.slice none 0 0,.int .i64 0,.slice none 0 0,.slice none 0 0,.slice none 0 0,.slice none 0 0,.slice none 0 0,.slice none 0 0,.slice none 0 0,.slice none 0 0,.slice none 0 0,.slice none 0 0,.slice none 0 0,.int .i64 0,.slice none 0 0,.slice none 0 0],[.sl 1 [],.sl 1 [],.sl 5 [],.sl 6 [],.int .i64 0,.sl 5 [],.sl 2 [],.sl 4 [],.sl 7 [],.sl 4 [],.sl 5 [],.sl 3 [],.sl 1 [],.sl 1 [],.sl 1 [],.sl 4 [],.int .i64 0,.sl 3 [],.sl 6 []],[(0,27),(4,36),(12,22),(13,89),(14,22),(15,173),(16,56)],none⟩),(186,tyN 6),(200,⟨.struct,2,48,[.slice none 0 0,.slice none 0 0],[.sl 1 [],.sl 3 []],[(0,114),(1,93)],none⟩),(202,⟨.struct,4,32,[.int .i64 0,.int .i64 0,.int .i64 0,.int .i64 0],[.int .i64 0,.int .i64 0,.int .i64 0,.int .i64 0],[(0,149),(2,3),(3,3)],some [.int .i64,.int .i64,.int .i64,.int .i64]⟩),(212,⟨.int .i64,1,8,[.int .i64 0],[.int .i64 0],[],none⟩),(218,⟨.int .u32,1,4,[.int .u32 0],[.int .u32 0],[],none⟩),(220,⟨.int .u64,1,8,[.int .u64 0],[.int .u64 0],[],none⟩),(224,tyN 4),(228,⟨.mpb,1,8,[.map none],[],[],none⟩),(239,tyS 283 2),(244,tyS 202 4),(248,⟨.int .u64,1,8,[.int .u64 0],[.int .u64 0],[],none⟩),(262,tyS 267 2),(267,tyN 2),(273,tyS 159 3),(278,tyN 2),(283,tyN 2),(296,⟨.struct,2,32,[.slice none 0 0,.int .i64 0],[.sl 2 [],.int .i64 0],[(0,239),(1,3)],none⟩),(314,tyN 2),(330,tyN 2),(334,tyS 262 1)]
theorem Qe4:TOk Tryz.prog gtt:=(show Qf3 Tryz.prog [3,4,5,9,22,23,24,25,27,28,29,30,31,32,33,34,36,40,41,45,49,53,54,56,65,72,75,77,80,81,83,86,88,89,93,94,98,100,103,108,110,114,116,122,125,126,129,132,138,139,141,144,145,147,149,159,172,173,175,186,200,202,212,218,220,224,228,239,244,248,262,267,273,278,283,296,314,330,334]=gtt by kernel_rfl)▸Qc2 _
noncomputable def bT:Nat->List (Nat × TA)->TO:=btT gtt
noncomputable def pT:Nat->Nat->List (Nat × Sp)->List Sp->List Sp:=ptT gtt
noncomputable def Xa (l:List ((f:Nat) × EnP Tryz.prog f)) (cfg:List (Nat × Cfg)):VB Tryz.prog:=⟨⟨Q2D (Qeh l),gtt,cfg⟩,Q8N (Q64 l),Qe4,by kernel_rfl⟩
abbrev LZ9:=Nat->LpE Tryz.prog
abbrev EZ9:=EnP Tryz.prog
abbrev BZ9:=VB Tryz.prog
end Go.Vx
set_option maxRecDepth 100000
namespace Go.Vx
open Go.Proofs
variable (n:Nat)
def Q54:EZ9 17:=mkW (Xa [] []).ok nT 17 Tryz.f17 [sL 1] [eP 5 2,sL 1,sI] [] 0 0 @BN n
def Q4R:EZ9 8:=mkD (Xa [] []).ok nT 8 Tryz.f8 0 @Ff n
def Ud:EZ9 19:=mkW (Xa [⟨8,Q4R n⟩] []).ok nT 19 Tryz.f19 [eP 1000000 2,sL 1,sI,sI] [sI] [] 0 2 @Q5 n
def Nq:EZ9 44:=mkD (Xa [] []).ok nT 44 Tryz.f44 0 @Vs n
def Nu:EZ9 45:=mkW (Xa [⟨19,Ud n⟩] []).ok nT 45 Tryz.f45 [eP 1000000 2,sL 1,sI,sT,sI] [eA [qT,qI,qI,qI,qI]] [] 0 32 @Wx n
def Nb:EZ9 46:=mkW (Xa [] []).ok nT 46 Tryz.f46 [eP 1000000 7,eR 1000001 9 1,eR 1000002 9 1,eR 1000003 49 5,eR 1000004 186 6,eR 1000005 22 1,eR 1000006 22 1,eR 1000007 22 1,eA [qT,qI,qI,qI,qI]] [sI] [] 123 246 @Z9 n
def GW:EZ9 47:=mkW (Xa [] []).ok nT 47 Tryz.f47 [eP 1000000 7,eR 1000001 9 1,eR 1000002 9 1,eR 1000003 49 5,eR 1000004 186 6,eR 1000005 22 1,eR 1000006 22 1,eR 1000007 22 1,sI,sI,sI,sI] [eT 0] [] 119 119 @Y8 n
def SD:EZ9 84:=mkW (Xa [⟨44,Nq n⟩] []).ok nT 84 Tryz.f84 [eP 1000000 7,eR 1000001 9 1,eR 1000002 9 1,eR 1000003 49 5,eR 1000004 186 6,eR 1000005 22 1,eR 1000006 22 1,eR 1000007 22 1] [sI] [] 125 250 @Zo n
def GU:BZ9:=Xa [⟨84,SD n⟩,⟨47,GW n⟩] []
def Rz:LZ9:=mkU (GU n).ok nT 4 Tryz.f48 [(0,.ptr 1000000 0),(1,tI),(2,.l 1),(3,.b),(8,tI),(16,tI),(17,tI)] [(98000,.arr 9 1),(98001,.arr 9 1),(98002,.arr 49 5),(98003,.arr 186 6),(98004,.arr 22 1),(98005,.arr 22 1),(98006,.arr 22 1),(1000000,.box [.arr 98000,.arr 98001,.arr 98002,.arr 98003,.arr 98004,.arr 98005,.arr 98006])] 39973 [xE 0 [(18,.b)]] @Qv n
def RY:EZ9 48:=mkW (GU n).ok [Rz n n] 48 Tryz.f48 [eP 1000000 7,eR 1000001 9 1,eR 1000002 9 1,eR 1000003 49 5,eR 1000004 186 6,eR 1000005 22 1,eR 1000006 22 1,eR 1000007 22 1,sI,sL 1,sB] [eT 0] [] 117 117 @Vd n
def K8:BZ9:=Xa [⟨19,Ud n⟩,⟨44,Nq n⟩,⟨45,Nu n⟩,⟨46,Nb n⟩,⟨47,GW n⟩,⟨48,RY n⟩] [(3,⟨[],[],[],[(14,0,501400,9,1),(14,1,501401,9,1),(14,2,501402,49,5),(14,3,501403,186,6),(14,4,501404,22,1),(14,5,501405,22,1),(14,6,501406,22,1)],[]⟩),(8,⟨[],[],[(6,1006,3,1)],[],[]⟩),(19,⟨[],[],[(10,1010,3,1)],[],[]⟩)]
def Q57:LZ9:=mkU (K8 n).ok nT 9 Tryz.f18 [(0,.ptr 1000000 0),(3,.ptr 14 0),(4,tI),(5,tI),(6,.arr 1006),(7,tI)] [(14,.box [.arr 32,.arr 501401,.arr 501402,.arr 501403,.arr 501404,.arr 501405,.arr 501406]),(32,.arr 9 1),(1006,.arr 3 1),(501401,.arr 9 1),(501402,.arr 49 5),(501403,.arr 186 6),(501404,.arr 22 1),(501405,.arr 22 1),(501406,.arr 22 1),(1000000,.box [.l 1,tI])] 1241670 [xE 2 [(40,.b)]] @JN n
def Q4U:LZ9:=mkU (K8 n).ok [Q57 n n] 4 Tryz.f18 [(0,.ptr 1000000 0),(3,.ptr 14 0),(4,tI),(5,tI)] [(14,.box [.arr 501400,.arr 501401,.arr 501402,.arr 501403,.arr 501404,.arr 501405,.arr 501406]),(501400,.arr 9 1),(501401,.arc 9 1),(501402,.arr 49 5),(501403,.arc 186 6),(501404,.arr 22 1),(501405,.arc 22 1),(501406,.arc 22 1),(1000000,.box [.l 1,tI])] 1942 [xE 0 [(20,.b)]] @UB n
def Q4O:LZ9:=mkU (K8 n).ok nT 20 Tryz.f18 [(0,.ptr 1000000 0),(3,.ptr 14 0),(4,tI),(9,tI),(10,.arr 1010),(11,tI)] [(14,.box [.arr 501400,.arr 501401,.arr 501402,.arr 501403,.arr 501404,.arr 501405,.arr 501406]),(1010,.arr 3 1),(501400,.arr 9 1),(501401,.arr 9 1),(501402,.arr 49 5),(501403,.arr 186 6),(501404,.arr 22 1),(501405,.arr 22 1),(501406,.arr 22 1),(1000000,.box [.l 1,tI])] 1241562 [xE 6 [(80,.b)]] @JL n
def Q3Q:LZ9:=mkU (K8 n).ok nT 24 Tryz.f18 [(0,.ptr 1000000 0),(3,.ptr 14 0),(4,tI),(9,tI),(10,.arr 1010),(12,tI)] [(14,.box [.arr 501400,.arr 501401,.arr 501402,.arr 501403,.arr 501404,.arr 501405,.arr 501406]),(1010,.arr 3 1),(501400,.arr 9 1),(501401,.arr 9 1),(501402,.arr 49 5),(501403,.arr 186 6),(501404,.arr 22 1),(501405,.arr 22 1),(501406,.arr 22 1),(1000000,.box [.l 1,tI])] 4419 [xE 8 [(98,.b)]] @Sb n
def Q4f:LZ9:=mkU (K8 n).ok [Q4O n n,Q3Q n n] 16 Tryz.f18 [(0,.ptr 1000000 0),(3,.ptr 14 0),(4,tI),(9,tI)] [(14,.box [.arr 501400,.arr 501401,.arr 501402,.arr 501403,.arr 501404,.arr 501405,.arr 501406]),(501400,.arr 9 1),(501401,.arr 9 1),(501402,.arr 49 5),(501403,.arr 186 6),(501404,.arr 22 1),(501405,.arr 22 1),(501406,.arc 22 1),(1000000,.box [.l 1,tI])] 51739 [xE 4 [(73,.b)]] @Um n
def Q6H:EZ9 18:=mkW (K8 n).ok [Q4U n n,Q4f n n] 18 Tryz.f18 [eP 1000000 2,sL 1,sI] [eP 14 7,eR 501400 9 1,eR 501401 9 1,eR 501402 49 5,eR 501403 186 6,eR 501404 22 1,eR 501405 22 1,eR 501406 22 1] [] 0 128 @Q1y n
def UW (n:Nat):BZ9:=Xa [] []
def PZ:LZ9:=mkU (UW n).ok nT 6 Tryz.f49 [(1,tI),(3,tI),(10,.ptr 10 0),(11,.l 1),(12,.arr 98004),(13,.ptr 13 0),(48,tI),(49,tI)] [(10,.box [.nil,.ci .i64 0]),(13,.box [.arr 45,.ci .i64 0]),(45,.arr 149 2),(98000,.arr 9 1),(98001,.arr 9 1),(98002,.arr 49 5),(98003,.arr 186 6),(98004,.arr 22 1),(98005,.arr 22 1),(98006,.arr 22 1),(1000000,.box [.arr 98000,.arr 98001,.arr 98002,.arr 98003,.arr 98004,.arr 98005,.arr 98006])] 684 [xE 0 [(50,.b)]] @Zx n
def PE:LZ9:=mkU (UW n).ok nT 14 Tryz.f49 [(1,tI),(2,tI),(10,.ptr 10 0),(11,.l 1),(12,.arr 98004),(13,.ptr 13 0),(15,tI)] [(10,.box [.nil,.ci .i64 0]),(13,.box [.arr 104,.ci .i64 0]),(104,.arr 149 2),(98000,.arr 9 1),(98001,.arr 9 1),(98002,.arr 49 5),(98003,.arr 186 6),(98004,.arr 22 1),(98005,.arr 22 1),(98006,.arr 22 1),(1000000,.box [.arr 98000,.arr 98001,.arr 98002,.arr 98003,.arr 98004,.arr 98005,.arr 98006])] 225 [xE 2 [(110,.b)]] @ZD n
def SZ:EZ9 49:=mkW (UW n).ok [PZ n n,PE n n] 49 Tryz.f49 [eP 1000000 7,eR 1000001 9 1,eR 1000002 9 1,eR 1000003 49 5,eR 1000004 186 6,eR 1000005 22 1,eR 1000006 22 1,eR 1000007 22 1,sI,sI,sI,sB] [eO 2,eR 96001 149 2,sI] [] 79 508 @Yu n
def Vj:BZ9:=Xa [⟨44,Nq n⟩,⟨19,Ud n⟩,⟨49,SZ n⟩] [(7,⟨[],[],[],[(10,3,1103,144,4)],[]⟩)]
def Su:LZ9:=mkU (Vj n).ok nT 3 Tryz.f20 [(0,.ptr 1000000 0),(1,.ptr 1000008 0),(2,.ptr 1000009 0),(3,.b),(4,tI),(10,.ptr 10 0),(11,.ac 11 0 0),(25,tI)] [(10,.box [.t,.ci .i64 0,tI,.nil]),(11,.arr 138 1),(98000,.arr 9 1),(98001,.arr 9 1),(98002,.arr 49 5),(98003,.arr 186 6),(98004,.arr 22 1),(98005,.arr 22 1),(98006,.arr 22 1),(98361,.arr 72 5),(98362,.arr 141 2),(98363,.arr 83 4),(98364,.arr 80 7),(98365,.arr 147 4),(98366,.arr 86 5),(98367,.arr 88 3),(1000000,.box [.arr 98000,.arr 98001,.arr 98002,.arr 98003,.arr 98004,.arr 98005,.arr 98006]),(1000008,.box [.l 1,tI]),(1000009,.box [tI,.arr 98361,.arr 98362,.arr 98363,.arr 98364,.arr 98365,.arr 98366,.arr 98367])] 24407491311 [xE 0 [(26,.b)]] @ZV n
def SV:LZ9:=mkU (Vj n).ok nT 8 Tryz.f20 [(0,.ptr 1000000 0),(1,.ptr 1000008 0),(2,.ptr 1000009 0),(3,.b),(4,tI),(10,.ptr 10 0),(11,.ac 11 0 0),(13,tI)] [(10,.box [.t,.ci .i64 0,tI,.arr 1103]),(11,.arr 138 1),(1103,.arr 144 4),(98000,.arr 9 1),(98001,.arr 9 1),(98002,.arr 49 5),(98003,.arr 186 6),(98004,.arr 22 1),(98005,.arr 22 1),(98006,.arr 22 1),(98361,.arr 72 5),(98362,.arr 141 2),(98363,.arr 83 4),(98364,.arr 80 7),(98365,.arr 147 4),(98366,.arr 86 5),(98367,.arr 88 3),(1000000,.box [.arr 98000,.arr 98001,.arr 98002,.arr 98003,.arr 98004,.arr 98005,.arr 98006]),(1000008,.box [.l 1,tI]),(1000009,.box [tI,.arr 98361,.arr 98362,.arr 98363,.arr 98364,.arr 98365,.arr 98366,.arr 98367])] 73251880546 [xE 2 [(35,.b)]] @Qy n
def Rx:EZ9 20:=mkW (Vj n).ok [Su n n,SV n n] 20 Tryz.f20 [eP 1000000 7,eR 1000001 9 1,eR 1000002 9 1,eR 1000003 49 5,eR 1000004 186 6,eR 1000005 22 1,eR 1000006 22 1,eR 1000007 22 1,eP 1000008 2,sL 1,sI,eP 1000009 8,sI,eR 1000010 72 5,eR 1000011 141 2,eR 1000012 83 4,eR 1000013 80 7,eR 1000014 147 4,eR 1000015 86 5,eR 1000016 88 3,sB,sI] [eT 0] [] 124495 124671 @UM n
def Br:EZ9 22:=mkD (Xa [] []).ok nT 22 Tryz.f22 0 @Nl n
def Di:EZ9 23:=mkD (Xa [] []).ok nT 23 Tryz.f23 0 @PF n
def Hl:BZ9:=Xa [⟨19,Ud n⟩,⟨22,Br n⟩,⟨23,Di n⟩] []
def DV:LZ9:=mkU (Hl n).ok nT 5 Tryz.f21 [(0,.ptr 1000000 0),(1,.ptr 1000001 0),(4,.ac 4 0 0),(5,.ac 5 0 0),(6,tI),(13,tI),(14,tI),(21,tI),(22,tI)] [(4,.arr 145 1),(5,.arr 145 1),(98041,.arr 72 5),(98042,.arr 141 2),(98043,.arr 83 4),(98044,.arr 80 7),(98045,.arr 147 4),(98046,.arr 86 5),(98047,.arr 88 3),(1000000,.box [.l 1,tI]),(1000001,.box [tI,.arr 98041,.arr 98042,.arr 98043,.arr 98044,.arr 98045,.arr 98046,.arr 98047])] 79097176 [xE 2 [(23,.b)]] @Yn n
def DX:LZ9:=mkU (Hl n).ok [DV n n] 2 Tryz.f21 [(0,.ptr 1000000 0),(1,.ptr 1000001 0),(4,.ac 4 0 0),(5,.ac 5 0 0),(13,tI),(14,tI)] [(4,.arr 145 1),(5,.arr 145 1),(98041,.arr 72 5),(98042,.arr 141 2),(98043,.arr 83 4),(98044,.arr 80 7),(98045,.arr 147 4),(98046,.arr 86 5),(98047,.arr 88 3),(1000000,.box [.l 1,tI]),(1000001,.box [tI,.arr 98041,.arr 98042,.arr 98043,.arr 98044,.arr 98045,.arr 98046,.arr 98047])] 2929525 [xE 0 [(15,.b)]] @WZ n
def CF:EZ9 21:=mkW (Hl n).ok [DX n n] 21 Tryz.f21 [eP 1000000 2,sL 1,sI,eP 1000001 8,sI,eR 1000002 72 5,eR 1000003 141 2,eR 1000004 83 4,eR 1000005 80 7,eR 1000006 147 4,eR 1000007 86 5,eR 1000008 88 3] [eT 0] [] 0 893 @SU n
def KR:BZ9:=Xa [⟨17,Q54 n⟩,⟨18,Q6H n⟩,⟨19,Ud n⟩,⟨20,Rx n⟩,⟨21,CF n⟩,⟨22,Br n⟩,⟨23,Di n⟩] [(4,⟨[],[],[],[(6,2,500602,141,2),(6,3,500603,83,4),(6,4,500604,80,7),(6,5,500605,147,4),(6,6,500606,86,5),(6,7,500607,88,3)],[]⟩)]
def Q2y:LZ9:=mkU (KR n).ok nT 5 Tryz.f10 [(2,.ptr 2 0),(3,.ptr 3 0),(4,.ptr 50013 0),(5,.ptr 50015 0),(6,.ptr 6 0),(7,tI)] [(2,.box [.nil,.nil,.nil,.nil]),(3,.box [.ci .i64 0,.nil,.nil,.nil,.nil,.nil,.nil,.nil]),(6,.box [tI,.arr 37,.arr 500602,.arr 500603,.arr 500604,.arr 500605,.arr 500606,.arr 500607]),(37,.arr 72 5),(50013,.box [.l 1,tI]),(50015,.box [.arr 100015,.arr 150015,.arr 200015,.arr 250015,.arr 300015,.arr 350015,.arr 400015]),(100015,.arr 9 1),(150015,.arr 9 1),(200015,.arr 49 5),(250015,.arr 186 6),(300015,.arr 22 1),(350015,.arr 22 1),(400015,.arr 22 1),(500602,.arr 141 2),(500603,.arr 83 4),(500604,.arc 80 7),(500605,.arc 147 4),(500606,.arc 86 5),(500607,.arc 88 3)] 4330451 [xE 0 [(43,.b)]] @JT n
def Q26:LZ9:=mkU (KR n).ok nT 10 Tryz.f10 [(2,.ptr 2 0),(3,.ptr 3 0),(4,.ptr 50013 0),(5,.ptr 50015 0),(6,.ptr 6 0),(8,tI)] [(2,.box [.nil,.nil,.nil,.nil]),(3,.box [.ci .i64 0,.nil,.nil,.nil,.nil,.nil,.nil,.nil]),(6,.box [tI,.arr 50061,.arr 100061,.arr 150061,.arr 200061,.arr 250061,.arr 300061,.arr 350061]),(50013,.box [.l 1,tI]),(50015,.box [.arr 100015,.arr 150015,.arr 200015,.arr 250015,.arr 300015,.arr 350015,.arr 400015]),(50061,.arr 72 5),(100015,.arr 9 1),(100061,.arr 141 2),(150015,.arr 9 1),(150061,.arr 83 4),(200015,.arr 49 5),(200061,.arr 80 7),(250015,.arr 186 6),(250061,.arr 147 4),(300015,.arr 22 1),(300061,.arc 86 5),(350015,.arr 22 1),(350061,.arc 88 3),(400015,.arr 22 1)] 676661 [xE 2 [(71,.b)]] @VT n
def Q2Y:LZ9:=mkU (KR n).ok nT 22 Tryz.f10 [(2,.ptr 2 0),(3,.ptr 3 0),(4,.ptr 50013 0),(5,.ptr 50015 0),(6,.ptr 6 0),(10,tI)] [(2,.box [.nil,.nil,.nil,.nil]),(3,.box [tI,.nil,.nil,.nil,.nil,.nil,.nil,.nil]),(6,.box [tI,.arr 50061,.arr 100061,.arr 150061,.arr 200061,.arr 250061,.arr 175,.arr 350061]),(175,.arr 86 5),(50013,.box [.l 1,tI]),(50015,.box [.arr 100015,.arr 150015,.arr 200015,.arr 250015,.arr 300015,.arr 350015,.arr 400015]),(50061,.arr 72 5),(100015,.arr 9 1),(100061,.arr 141 2),(150015,.arr 9 1),(150061,.arr 83 4),(200015,.arr 49 5),(200061,.arr 80 7),(250015,.arr 186 6),(250061,.arr 147 4),(300015,.arr 22 1),(350015,.arr 22 1),(350061,.arr 88 3),(400015,.arr 22 1)] 258283082 [xE 4 [(180,.b)]] @V6 n
def Q3y:LZ9:=mkU (KR n).ok nT 22 Tryz.f10 [(2,.ptr 2 0),(3,.ptr 3 0),(4,.ptr 50013 0),(5,.ptr 50015 0),(6,.ptr 6 0),(10,tI)] [(2,.box [.nil,.nil,.nil,.nil]),(3,.box [tI,.nil,.nil,.nil,.nil,.nil,.nil,.nil]),(6,.box [tI,.arr 50061,.arr 100061,.arr 150061,.arr 200061,.arr 250061,.arr 300061,.arr 350061]),(50013,.box [.l 1,tI]),(50015,.box [.arr 100015,.arr 150015,.arr 200015,.arr 250015,.arr 300015,.arr 350015,.arr 400015]),(50061,.arr 72 5),(100015,.arr 9 1),(100061,.arr 141 2),(150015,.arr 9 1),(150061,.arr 83 4),(200015,.arr 49 5),(200061,.arr 80 7),(250015,.arr 186 6),(250061,.arr 147 4),(300015,.arr 22 1),(300061,.arr 86 5),(350015,.arr 22 1),(350061,.arr 88 3),(400015,.arr 22 1)] 258281246 [.f (.exit 4) [(2,.ptr 2 0),(3,.ptr 3 0),(4,.ptr 50013 0),(5,.ptr 50015 0),(6,.ptr 6 0),(10,tI),(180,.b)] [(2,.box [.nil,.nil,.nil,.nil]),(3,.box [tI,.nil,.nil,.nil,.nil,.nil,.nil,.nil]),(6,.box [tI,.arr 50061,.arr 100061,.arr 150061,.arr 200061,.arr 250061,.arr 300061,.arr 350061]),(50013,.box [.l 1,tI]),(50015,.box [.arr 100015,.arr 150015,.arr 200015,.arr 250015,.arr 300015,.arr 350015,.arr 400015]),(50061,.arr 72 5),(100015,.arr 9 1),(100061,.arr 141 2),(150015,.arr 9 1),(150061,.arr 83 4),(200015,.arr 49 5),(200061,.arr 80 7),(250015,.arr 186 6),(250061,.arr 147 4),(300015,.arr 22 1),(350015,.arr 22 1),(350061,.arr 88 3),(400015,.arr 22 1),(300061,.arr 86 5)] [0,0,2,3,4,0,6,7,8,9,10,11,12,13,14,15,17,0,19,16]] @KP n
def Q3P:EZ9 10:=mkD (KR n).ok [Q2y n n,Q26 n n,orL (Q2Y n n) (Q3y n n)] 10 Tryz.f10 0 @PQ n
def Q10:EZ9 205:=mkD (Xa [] []).ok nT 205 Tryz.f205 0 @MJ n
def Q3t:EZ9 206:=mkD (Xa [] []).ok nT 206 Tryz.f206 0 @Q0e n
def D6:BZ9:=Xa [⟨205,Q10 n⟩,⟨206,Q3t n⟩] []
def Q3j:LZ9:=mkU (D6 n).ok nT 4 Tryz.f150 [(0,.t),(3,tI)] [] 7 [.f .ret [(2,.cb false)] [] [],xE 0 [(21,.b)]] @RX n
def MS:EZ9 150:=mkD (D6 n).ok [Q3j n n] 150 Tryz.f150 0 @Ng n
def Fy:BZ9:=Xa [⟨150,MS n⟩] []
def Q0R:LZ9:=mkU (Fy n).ok nT 4 Tryz.f146 [(0,.l 1),(1,tI),(5,tI)] [] 22 [.f .ret [(4,.ci .i64 5)] [] [],xE 0 [(14,.b)]] @Sv n
def Q1V:EZ9 146:=mkD (Fy n).ok [Q0R n n] 146 Tryz.f146 0 @NA n
def Hx (n:Nat):BZ9:=Xa [] [(2,⟨[],[],[(3,1003,9,1)],[],[]⟩)]
def M7:LZ9:=mkU (Hx n).ok nT 3 Tryz.f147 [(1,.ptr 1 0),(3,.arr 1003),(4,tI)] [(1,bT 27 []),(1003,.arr 9 1)] 515 [xE 0 [(9,.b)]] @YI n
def Mu:EZ9 147:=mkD (Hx n).ok [M7 n n] 147 Tryz.f147 0 @Ky n
def Q2r:EZ9 148:=mkD (Xa [] []).ok nT 148 Tryz.f148 0 @K7 n
def Q05:EZ9 203:=mkD (Xa [] []).ok nT 203 Tryz.f203 0 @C7 n
def D3:BZ9:=Xa [⟨203,Q05 n⟩] []
def Q36:LZ9:=mkU (D3 n).ok nT 4 Tryz.f204 [(1,tI),(3,.ptr 3 0),(5,.ptr 5 0),(7,.ptr 7 0),(8,tI),(9,.ptr 9 0),(10,tI)] [(3,bT 27 []),(5,.box [tI,tI]),(7,.box [.x,.x,.x,.x,.x,.x]),(9,.box [.x,.x,.x,.x,.x,.x])] 10446013798 [xE 0 [(19,.b)]] @P1 n
def Q4m:EZ9 204:=mkD (D3 n).ok [Q36 n n] 204 Tryz.f204 0 @CI n
def PJ:BZ9:=Xa [⟨148,Q2r n⟩,⟨203,Q05 n⟩,⟨204,Q4m n⟩] []
def FQ:LZ9:=mkU (PJ n).ok nT 9 Tryz.f149 [(1,tI),(2,.ptr 2 0),(7,.ptr 7 0),(8,.ptr 8 0),(9,tI)] [(2,bT 27 []),(7,.box [tI,tI]),(8,.box [tI,tI])] 29410 [.f .ret [(4,.ci .i64 5)] [] [],xE 0 [(85,.b)]] @Kw n
def Do:EZ9 149:=mkD (PJ n).ok [FQ n n] 149 Tryz.f149 0 @JC n
def Gl:BZ9:=Xa [⟨146,Q1V n⟩,⟨147,Mu n⟩,⟨148,Q2r n⟩,⟨149,Do n⟩] []
def Q1q:LZ9:=mkU (Gl n).ok nT 6 Tryz.f85 [(1,.ptr 1 0),(3,tI)] [(1,bT 27 [])] 5 [.f .ret [(2,tI)] [] [0],xE 0 [(43,.b)]] @Sq n
def Q18:LZ9:=mkU (Gl n).ok nT 12 Tryz.f85 [(1,.ptr 1 0),(5,tI)] [(1,bT 27 [])] 11 [.f .ret [(2,tI)] [] [0],xE 2 [(57,.b)]] @Sx n
def Q14:LZ9:=mkU (Gl n).ok nT 19 Tryz.f85 [(1,.ptr 1 0),(7,.l 1),(8,tI)] [(1,bT 27 [])] 97 [.f .ret [(2,tI)] [] [0],xE 4 [(73,.b)]] @J5 n
def Q1G:LZ9:=mkU (Gl n).ok nT 28 Tryz.f85 [(1,.ptr 1 0),(11,tI)] [(1,bT 27 [])] 122 [.f .ret [(2,tI)] [] [0],xE 6 [(117,.b)]] @VX n
def D0:EZ9 85:=mkD (Gl n).ok [Q1q n n,Q18 n n,Q14 n n,Q1G n n] 85 Tryz.f85 0 @JR n
def D1 (n:Nat):BZ9:=Xa [] []
def Q3e:LZ9:=mkU (D1 n).ok nT 4 Tryz.f86 [(1,.ptr 1 0),(3,tI)] [(1,bT 36 [])] 83 [.f .ret [(2,.cb true)] [] [],xE 0 [(48,.b)]] @JX n
def Q4w:EZ9 86:=mkD (D1 n).ok [Q3e n n] 86 Tryz.f86 0 @Ll n
def Td:EZ9 54:=mkD (Xa [] []).ok nT 54 Tryz.f54 0 @Vy n
def FH:EZ9 94:=mkD (Xa [] []).ok nT 94 Tryz.f94 0 @Hi n
def Kr:EZ9 151:=mkD (Xa [⟨94,FH n⟩] []).ok nT 151 Tryz.f151 0 @XW n
def P5:BZ9:=Xa [⟨150,MS n⟩,⟨151,Kr n⟩] []
def LJ:LZ9:=mkU (P5 n).ok nT 4 Tryz.f87 [(1,tI),(2,.ptr 2 0),(5,tI)] [(2,bT 36 [])] 34 [.f .ret [(4,.ci .i64 5)] [] [],xE 0 [(16,.b)]] @GF n
def FR:EZ9 87:=mkD (P5 n).ok [LJ n n] 87 Tryz.f87 0 @Gj n
def Mn (n:Nat):BZ9:=Xa [] [(5,⟨[],[],[(6,1006,202,4)],[],[]⟩)]
def A7:LZ9:=mkU (Mn n).ok nT 6 Tryz.f157 [(2,.ptr 2 0),(5,.ptr 5 0),(6,.arr 1006),(7,tI)] [(2,bT 27 []),(5,.box [tI,tI]),(1006,.arr 202 4)] 5429 [xE 0 [(22,.b)]] @Zd n
def Q1o:EZ9 157:=mkD (Mn n).ok [A7 n n] 157 Tryz.f157 0 @B1 n
def Mm:BZ9:=Xa [⟨157,Q1o n⟩] []
def Aa:LZ9:=mkU (Mm n).ok nT 3 Tryz.f99 [(5,.ptr 5 0),(6,.ptr 6 0),(8,.l 4),(9,tI)] [(5,.box [tI,tI]),(6,.box [.ci .i64 0,.ci .i64 0,.ci .i64 0,.ci .i64 0])] 43 [.f .ret [(6,.ptr 6 0),(7,.cb true)] [(6,.box [.x,.x,.x,.x])] [0,0,0,0],xE 0 [(16,.b)]] @Pl n
def LV:EZ9 99:=mkF (Mm n).ok [Aa n n] 99 Tryz.f99 [eA [qL 1,qL 1,qL 5,qL 6],eA [qI,qI],eA [qI,qI]] [eT 2,eA [qX,qX,qX,qX],sB] 0 @JI n
def Ue:BZ9:=Xa [⟨85,D0 n⟩,⟨94,FH n⟩,⟨99,LV n⟩] []
def L8:LZ9:=mkU (Ue n).ok nT 8 Tryz.f88 [(2,.ptr 2 0),(3,.ptr 3 0),(5,tI)] [(2,bT 27 []),(3,.box [.l 2,tI])] 272 [.f .ret [(4,.ci .i64 4)] [] [],xE 0 [(39,.b)]] @YF n
def L6:LZ9:=mkU (Ue n).ok nT 16 Tryz.f88 [(2,.ptr 2 0),(3,.ptr 3 0),(6,tI),(7,tI)] [(2,bT 27 []),(3,.box [.l 2,tI])] 736 [.f .ret [(4,.ci .i64 5)] [] [],xE 4 [(73,.b)]] @GD n
def Lw:LZ9:=mkU (Ue n).ok [L6 n n] 13 Tryz.f88 [(2,.ptr 2 0),(3,.ptr 3 0),(6,tI)] [(2,bT 27 []),(3,.box [.l 2,tI])] 245 [.f .ret [(4,.ci .i64 5)] [] [],xE 2 [(68,.b)]] @VK n
def LP:LZ9:=mkU (Ue n).ok nT 21 Tryz.f88 [(2,.ptr 2 0),(3,.ptr 3 0),(8,tI)] [(2,bT 27 []),(3,.box [.l 2,tI])] 365 [.f .ret [(4,.ci .i64 11)] [] [],xE 6 [(93,.b)]] @YB n
def Pv:EZ9 88:=mkD (Ue n).ok [L8 n n,Lw n n,LP n n] 88 Tryz.f88 0 @VR n
def Sn:EZ9 152:=mkD (Xa [] []).ok nT 152 Tryz.f152 0 @K5 n
def SC:BZ9:=Xa [⟨88,Pv n⟩] [(5,⟨[],[],[(8,1008,283,2)],[],[]⟩)]
def Q15:LZ9:=mkU (SC n).ok nT 13 Tryz.f155 [(2,.ptr 2 0),(3,.ptr 3 0),(8,.arr 1008),(9,tI),(10,.ptr 10 0),(11,tI),(12,tI)] [(2,bT 27 []),(3,.box [.l 2,tI]),(10,.box [.x,.x,.x,.x,.x]),(1008,.arr 283 2)] 9802155 [xE 2 [(53,.b)]] @Ua n
def Q12:LZ9:=mkU (SC n).ok [Q15 n n] 6 Tryz.f155 [(2,.ptr 2 0),(3,.ptr 3 0),(8,.arr 1008),(9,tI)] [(2,bT 27 []),(3,.box [.l 2,tI]),(1008,.arr 283 2)] 5375 [xE 0 [(26,.b)]] @Ui n
def EU:EZ9 155:=mkD (SC n).ok [Q12 n n] 155 Tryz.f155 0 @PI n
def EQ:BZ9:=Xa [⟨155,EU n⟩,⟨151,Kr n⟩] []
def Q2w:LZ9:=mkU (EQ n).ok nT 7 Tryz.f93 [(3,.ptr 3 0),(4,.ptr 4 0),(5,.ptr 5 0),(10,tI)] [(3,bT 27 []),(4,.box [.l 2,tI]),(5,bT 72 [])] 7562 [.f .ret [(6,.ci .i64 12)] [] [],xE 0 [(31,.b)]] @JZ n
def MD:EZ9 93:=mkD (EQ n).ok [Q2w n n] 93 Tryz.f93 0 @S1 n
def Nk:EZ9 153:=mkD (Xa [] []).ok nT 153 Tryz.f153 0 @T3 n
def MI:EZ9 154:=mkD (Xa [] []).ok nT 154 Tryz.f154 0 @PG n
def K4:BZ9:=Xa [⟨150,MS n⟩,⟨54,Td n⟩,⟨152,Sn n⟩,⟨93,MD n⟩,⟨153,Nk n⟩,⟨154,MI n⟩] []
def En:LZ9:=mkU (K4 n).ok nT 5 Tryz.f89 [(2,tI),(3,.ptr 3 0),(4,.ptr 4 0),(7,.ptr 7 0),(8,tI)] [(3,bT 27 []),(4,bT 36 []),(7,.box [.x,.x,.x,.x])] 4802659 [.f .ret [(6,.ci .i64 5)] [] [],xE 0 [(24,.b)]] @Ws n
def EH:LZ9:=mkU (K4 n).ok nT 14 Tryz.f89 [(3,.ptr 3 0),(4,.ptr 4 0),(7,.ptr 7 0),(9,tI)] [(3,bT 27 []),(4,bT 36 []),(7,.box [.x,.x,.x,.x])] 48626852 [.f .ret [(6,tI)] [] [0],xE 2 [(58,.b)]] @Wk n
def DZ:EZ9 89:=mkD (K4 n).ok [En n n,EH n n] 89 Tryz.f89 0 @KD n
def Bz:EZ9 92:=mkD (Xa [⟨54,Td n⟩] []).ok nT 92 Tryz.f92 0 @Jv n
def Pn:EZ9 53:=mkF (Xa [] []).ok nT 53 Tryz.f53 [eA [qI,qL 5,qL 2,qL 4,qL 7,qL 4,qL 5,qL 3],sI,sI] [eA [qX,qX]] 0 @XY n
def Fd:EZ9 90:=mkD (Xa [⟨92,Bz n⟩,⟨152,Sn n⟩,⟨54,Td n⟩,⟨53,Pn n⟩,⟨154,MI n⟩,⟨153,Nk n⟩] []).ok nT 90 Tryz.f90 0 @Hn n
def PB:BZ9:=Xa [⟨54,Td n⟩,⟨152,Sn n⟩,⟨53,Pn n⟩,⟨154,MI n⟩,⟨153,Nk n⟩] []
def Ee:LZ9:=mkU (PB n).ok nT 5 Tryz.f91 [(1,tI),(2,.ptr 2 0),(5,.ptr 5 0),(6,tI)] [(2,bT 36 []),(5,.box [.x,.x,.x,.x])] 238390 [.f .ret [(4,.ci .i64 5)] [] [],xE 0 [(43,.b)]] @Wt n
def Dk:EZ9 91:=mkD (PB n).ok [Ee n n] 91 Tryz.f91 0 @KH n
def Yt:BZ9:=Xa [⟨85,D0 n⟩,⟨86,Q4w n⟩,⟨54,Td n⟩,⟨87,FR n⟩,⟨88,Pv n⟩,⟨89,DZ n⟩,⟨90,Fd n⟩,⟨91,Dk n⟩,⟨92,Bz n⟩] []
def Ex:LZ9:=mkU (Yt n).ok nT 8 Tryz.f50 [(2,.ptr 2 0),(3,.ptr 3 0),(5,tI)] [(2,bT 27 []),(3,bT 36 [])] 797042 [.f .ret [(4,tI)] [] [0],xE 0 [(32,.b)]] @Wo n
def FP:LZ9:=mkU (Yt n).ok nT 14 Tryz.f50 [(2,.ptr 2 0),(3,.ptr 3 0),(7,tI)] [(2,bT 27 []),(3,bT 36 [])] 2309 [.f .ret [(4,tI)] [] [0],xE 2 [(45,.b)]] @Wj n
def FS:LZ9:=mkU (Yt n).ok nT 20 Tryz.f50 [(2,.ptr 2 0),(3,.ptr 3 0),(9,tI)] [(2,bT 27 []),(3,bT 36 [])] 797162 [.f .ret [(4,tI)] [] [0],xE 4 [(62,.b)]] @Wn n
def EM:LZ9:=mkU (Yt n).ok nT 26 Tryz.f50 [(2,.ptr 2 0),(3,.ptr 3 0),(11,tI)] [(2,bT 27 []),(3,bT 36 [])] 797162 [.f .ret [(4,tI)] [] [0],xE 6 [(76,.b)]] @Z7 n
def E5:LZ9:=mkU (Yt n).ok nT 32 Tryz.f50 [(2,.ptr 2 0),(3,.ptr 3 0),(13,tI)] [(2,bT 27 []),(3,bT 36 [])] 797042 [.f .ret [(4,tI)] [] [0],xE 8 [(94,.b)]] @Z1 n
def E8:LZ9:=mkU (Yt n).ok nT 38 Tryz.f50 [(2,.ptr 2 0),(3,.ptr 3 0),(15,tI)] [(2,bT 27 []),(3,bT 36 [])] 797042 [.f .ret [(4,.ci .i64 4)] [] [],xE 10 [(107,.b)]] @YX n
def E9:LZ9:=mkU (Yt n).ok nT 44 Tryz.f50 [(2,.ptr 2 0),(3,.ptr 3 0),(17,tI)] [(2,bT 27 []),(3,bT 36 [])] 531446 [.f .ret [(4,.ci .i64 4)] [] [],xE 12 [(158,.b)]] @Z3 n
def DU:EZ9 50:=mkD (Yt n).ok [Ex n n,FP n n,FS n n,EM n n,E5 n n,E8 n n,E9 n n] 50 Tryz.f50 0 @Ul n
def LQ (n:Nat):BZ9:=Xa [] []
def Q0H:LZ9:=mkU (LQ n).ok nT 2 Tryz.f51 [(1,tI),(2,.ptr 2 0),(4,.ptr 4 0),(6,tI)] [(2,bT 36 []),(4,.box [.ci .i64 0,.ci .i64 0,.ci .i64 0,.ci .i64 0])] 2194 [.f .ret [(4,.ptr 4 0),(5,.cb true)] [(4,.box [.x,.x,.x,.x])] [0,0,0,0],xE 0 [(11,.b)]] @VZ n
def EX:EZ9 51:=mkF (LQ n).ok [Q0H n n] 51 Tryz.f51 [eA [qI,qL 5,qL 2,qL 4,qL 7,qL 4,qL 5,qL 3],sI] [eT 2,eA [qX,qX,qX,qX],sB] 223 @PX n
def BQ:BZ9:=Xa [⟨151,Kr n⟩,⟨94,FH n⟩] []
def Q3T:LZ9:=mkU (BQ n).ok nT 6 Tryz.f231 [(0,.l 2),(1,tI),(7,tI)] [] 19 [.f .ret [(6,.ci .i64 4)] [] [],xE 0 [(17,.b)]] @K6 n
def Q6K:EZ9 231:=mkD (BQ n).ok [Q3T n n] 231 Tryz.f231 0 @C6 n
def FK (n:Nat):BZ9:=Xa [] []
def Q0x:LZ9:=mkU (FK n).ok nT 3 Tryz.f232 [(0,.l 2),(1,tI),(7,tI),(8,tI)] [] 76 [xE 0 [(18,.b)]] @VW n
def Q2b:EZ9 232:=mkD (FK n).ok [Q0x n n] 232 Tryz.f232 0 @PA n
def Q2k:EZ9 233:=mkD (Xa [] []).ok nT 233 Tryz.f233 0 @NW n
def Q2M:EZ9 234:=mkD (Xa [] []).ok nT 234 Tryz.f234 0 @NT n
def EW (n:Nat):BZ9:=Xa [] []
def Q3E:LZ9:=mkU (EW n).ok nT 4 Tryz.f235 [(0,tI),(3,tI),(4,tI)] [] 25 [xE 0 [(10,.b)]] @VN n
def Q3R:EZ9 235:=mkD (EW n).ok [Q3E n n] 235 Tryz.f235 0 @Nv n
def Jn:BZ9:=Xa [⟨231,Q6K n⟩,⟨232,Q2b n⟩,⟨233,Q2k n⟩,⟨234,Q2M n⟩,⟨235,Q3R n⟩] []
def AB:LZ9:=mkU (Jn n).ok nT 7 Tryz.f207 [(0,.l 2),(1,tI),(5,.ptr 5 0),(9,tI),(10,.arr 29),(11,tI)] [(5,bT 72 []),(29,.arr 3 1)] 49234 [xE 0 [(32,.b)]] @UA n
def A5:LZ9:=mkU (Jn n).ok nT 12 Tryz.f207 [(0,.l 2),(1,tI),(5,.ptr 5 0),(9,tI),(10,.arr 29),(13,tI)] [(5,bT 72 []),(29,.arr 3 1)] 49234 [xE 2 [(57,.b)]] @UG n
def Al:LZ9:=mkU (Jn n).ok nT 16 Tryz.f207 [(0,.l 2),(1,tI),(5,.ptr 5 0),(9,tI),(10,.arr 29),(14,tI)] [(5,bT 72 []),(29,.arr 3 1)] 49225 [xE 4 [(86,.b)]] @UK n
def Ad:LZ9:=mkU (Jn n).ok nT 20 Tryz.f207 [(9,tI),(10,.arr 29),(15,tI)] [(29,.arr 3 1)] 25 [xE 6 [(116,.b)]] @Vr n
def Q1l:EZ9 207:=mkD (Jn n).ok [AB n n,A5 n n,Al n n,Ad n n] 207 Tryz.f207 0 @SF n
def MC:EZ9 96:=mkD (Xa [] []).ok nT 96 Tryz.f96 0 @Jm n
def FC:BZ9:=Xa [⟨207,Q1l n⟩,⟨96,MC n⟩] []
def Q0K:LZ9:=mkU (FC n).ok nT 6 Tryz.f156 [(8,.l 1),(10,.arr 24),(11,tI)] [(24,.arr 3 1)] 25 [xE 0 [(28,.b)]] @J2 n
def Q30:EZ9 156:=mkD (FC n).ok [Q0K n n] 156 Tryz.f156 0 @Ps n
def Nr:BZ9:=Xa [⟨93,MD n⟩,⟨155,EU n⟩,⟨156,Q30 n⟩,⟨96,MC n⟩] [(7,⟨[],[],[(6,1006,3,1),(7,1007,3,1)],[],[]⟩)]
def Cn:LZ9:=mkU (Nr n).ok nT 8 Tryz.f95 [(3,.ptr 3 0),(4,.ptr 4 0),(5,.ptr 5 0),(6,.arr 1006),(7,.arr 1007),(14,.l 1),(16,tI),(17,tI)] [(3,bT 27 []),(4,.box [.l 2,tI]),(5,bT 72 []),(1006,.arr 3 1),(1007,.arr 3 1)] 38331817 [xE 0 [(46,.b)]] @Zn n
def BT:EZ9 95:=mkD (Nr n).ok [Cn n n] 95 Tryz.f95 0 @P6 n
def Q3G:EZ9 97:=mkD (Xa [] []).ok nT 97 Tryz.f97 0 @Vv n
def Lr:EZ9 98:=mkW (Xa [] []).ok nT 98 Tryz.f98 [eP 1000000 2,eR 1000001 4 1,eR 1000002 159 3,sI,sI,sI] [eT 0] [] 0 0 @YM n
def Na:BZ9:=Xa [⟨93,MD n⟩,⟨94,FH n⟩,⟨95,BT n⟩,⟨96,MC n⟩,⟨97,Q3G n⟩,⟨98,Lr n⟩,⟨99,LV n⟩] [(31,⟨[],[],[(27,1027,159,3)],[],[]⟩)]
def Q2E:LZ9:=mkU (Na n).ok nT 12 Tryz.f52 [(3,tI),(4,tI),(5,.ptr 5 0),(6,.ptr 6 0),(14,.l 1),(15,.l 1),(16,tI),(18,tI),(19,.ptr 65 0),(20,tI),(21,tI),(22,tI)] [(5,bT 27 []),(6,.box [.l 2,tI]),(61,.arr 4 1),(63,.arr 159 3),(65,.box [.arr 61,.arr 63])] 117191245 [xE 0 [(73,.b)]] @Wc n
def Q2T:LZ9:=mkU (Na n).ok nT 32 Tryz.f52 [(16,tI),(18,tI),(19,.ptr 65 0),(27,.arr 1027),(28,tI)] [(61,.arr 4 1),(63,.arr 159 3),(65,.box [.arr 61,.arr 63]),(1027,.arr 159 3)] 615 [xE 3 [(173,.b)]] @V7 n
def Q4V:EZ9 52:=mkD (Na n).ok [Q2E n n,Q2T n n] 52 Tryz.f52 0 @H7 n
def Pp:BZ9:=Xa [⟨50,DU n⟩,⟨51,EX n⟩,⟨53,Pn n⟩,⟨52,Q4V n⟩] [(5,⟨[],[],[(7,1007,93,1),(8,1008,3,1)],[],[]⟩)]
def Ai:LZ9:=mkU (Pp n).ok nT 10 Tryz.f24 [(2,.ptr 2 0),(3,.ptr 3 0),(7,.arr 1007),(8,.arr 1008),(9,tI),(10,.ptr 10 0),(11,tI)] [(2,bT 27 []),(3,bT 36 []),(10,.box [.x,.x,.x,.x]),(1007,.arr 93 1),(1008,.arr 3 1)] 3245244469 [xE 2 [(39,.b)]] @Yz n
def Af:LZ9:=mkU (Pp n).ok [Ai n n] 6 Tryz.f24 [(2,.ptr 2 0),(3,.ptr 3 0),(7,.arr 1007),(8,.arr 1008),(9,tI)] [(2,bT 27 []),(3,bT 36 []),(1007,.arr 93 1),(1008,.arr 3 1)] 13551746 [xE 0 [(27,.b)]] @UE n
def Q1B:EZ9 24:=mkD (Pp n).ok [Af n n] 24 Tryz.f24 0 @SH n
def PK (n:Nat):BZ9:=Xa [] []
def Eh:LZ9:=mkU (PK n).ok nT 2 Tryz.f55 [(0,.l 3),(3,tI)] [] 7 [.f .ret [(2,.cb false)] [] [],xE 0 [(7,.b)]] @YU n
def Ri:EZ9 55:=mkD (PK n).ok [Eh n n] 55 Tryz.f55 0 @JA n
def Lv:BZ9:=Xa [⟨54,Td n⟩,⟨55,Ri n⟩] []
def Q0z:LZ9:=mkU (Lv n).ok nT 4 Tryz.f25 [(0,tI),(1,.l 3),(5,tI)] [] 22 [.f .ret [(4,.cb false)] [] [],xE 0 [(17,.b)]] @Jb n
def Q3s:EZ9 25:=mkD (Lv n).ok [Q0z n n] 25 Tryz.f25 0 @M0 n
def Ln (n:Nat):BZ9:=Xa [] []
def Q1M:LZ9:=mkU (Ln n).ok nT 3 Tryz.f56 [(1,tI),(2,.ptr 2 0),(5,tI),(6,tI)] [(2,bT 36 [])] 754 [xE 0 [(9,.b)]] @Jf n
def RM:EZ9 56:=mkD (Ln n).ok [Q1M n n] 56 Tryz.f56 247 @U0 n
def Ph:BZ9:=Xa [⟨56,RM n⟩,⟨51,EX n⟩] [(2,⟨[],[],[(5,1005,98,4)],[],[]⟩)]
def AA:LZ9:=mkU (Ph n).ok nT 7 Tryz.f26 [(1,.l 1),(2,.ptr 2 0),(5,.arr 1005),(6,tI),(7,.ptr 7 0),(8,tI)] [(2,bT 36 []),(7,.box [.x,.x,.x,.x]),(1005,.arr 98 4)] 33488095 [xE 2 [(29,.b)]] @W0 n
def A8:LZ9:=mkU (Ph n).ok [AA n n] 3 Tryz.f26 [(1,.l 1),(2,.ptr 2 0),(5,.arr 1005),(6,tI)] [(2,bT 36 []),(1005,.arr 98 4)] 120535 [xE 0 [(17,.b)]] @Un n
def Q1I:EZ9 26:=mkD (Ph n).ok [A8 n n] 26 Tryz.f26 215 @Sj n
def T6 (n:Nat):BZ9:=Xa [] []
def ML:LZ9:=mkU (T6 n).ok nT 2 Tryz.f100 [(0,.l 3),(1,tI),(4,.ptr 4 0),(6,tI)] [(4,.box [.ci .i64 0,.ci .i64 0,.ci .i64 0])] 22 [.f .ret [(4,.ptr 4 0),(5,.cb true)] [(4,.box [.x,.x,.x])] [0,0,0],xE 0 [(10,.b)]] @YT n
def Fh:EZ9 100:=mkF (T6 n).ok [ML n n] 100 Tryz.f100 [sL 3,sI] [eT 2,eA [qX,qX,qX],sB] 0 @Vo n
def Dj:EZ9 57:=mkF (Xa [⟨100,Fh n⟩] []).ok nT 57 Tryz.f57 [sL 1,eA [qI,qI,qI,qI],sI] [eT 3,eA [qX,qX,qX],eA [qX,qX,qX],sB] 16 @Py n
def Md:BZ9:=Xa [⟨57,Dj n⟩] []
def A3:LZ9:=mkU (Md n).ok nT 2 Tryz.f27 [(0,.l 1),(2,tI),(4,.ptr 4 0),(7,tI)] [(4,bT 98 [])] 1102 [.f .ret [(6,.cb false)] [] [],xE 0 [(18,.b)]] @UC n
def Q1n:EZ9 27:=mkD (Md n).ok [A3 n n] 27 Tryz.f27 0 @ST n
end Go.Vx
