/- Part of a proof. No conditions of their own. -/
import Derived.Test.YtnfomkijfeokoaaGreatTE
import Derived.Test.YtnfomkijfeokoaaGreatTD
import Derived.Test.YtnfomkijfeokoaaGreatTB
set_option linter.unusedVariables false
set_option linter.unusedSimpArgs false
set_option linter.unusedSectionVars false
noncomputable section
abbrev QlF:=@List.getElem?_cons_zero
abbrev QlG:=@Int.toNat_natCast
abbrev QlH:=@cond_false
abbrev QlI:=@List.getElem?_cons_succ
abbrev QlJ:=@List.mem_of_getElem?
abbrev QlK:=@List.length_map
abbrev QlL:=@List.getElem?_eq_getElem
abbrev QlM:=@decide_eq_true
abbrev QlN:=@List.getD_eq_getElem?_getD
abbrev QlO:=@List.append_assoc
abbrev QlP:=@List.map_append
abbrev QlQ:=@List.mem_append
abbrev QlR:=@List.mem_cons_self
abbrev QlS:=@List.mem_cons_of_mem
abbrev QlT:=@List.mem_singleton
abbrev QlU:=@Nat.le_refl
abbrev QlV:=@List.getElem?_eq_some_iff
abbrev QlW:=@Bool.not_true
abbrev QlX:=@List.take_length
abbrev QlY:=@Int.emod_lt_of_pos
abbrev QlZ:=@Int.emod_nonneg
abbrev Qm0:=@List.mem_append_left
abbrev Qm1:=@List.pairwise_cons
abbrev Qm2:=@List.append_nil
abbrev Qm3:=@List.mem_append_right
abbrev Qm4:=@List.set_cons_zero
abbrev Qm5:=@List.getElem?_map
abbrev Qm6:=@List.pairwise_append
abbrev Qm7:=@Bool.and_eq_true
abbrev Qm8:=@Int.emod_eq_of_lt
abbrev Qm9:=@Bool.not_false
abbrev Qma:=@List.all_eq_true
abbrev Qmb:=@List.length_cons
abbrev Qmc:=@List.length_set
abbrev Qmd:=@if_neg
abbrev Qme:=@Int.eq_ofNat_of_zero_le
abbrev Qmf:=@Int.le_refl
abbrev Qmg:=@Eq.trans
abbrev Qmh:=@List.foldl_cons
abbrev Qmi:=@List.mem_map
abbrev Qmj:=@Nat.le_of_ble_eq_true
abbrev Qmk:=@Nat.zero_le
namespace Go.Vx
namespace Cx
variable (X:Cx)
def evl (i:Nat):Nat->LL
 |0=>[]
 |k+1=>evl i k++[[Q4 1,Q4 i,Q4 k],[Q4 2,Q4 i,Q4 k]]
def evs:Nat->LL
 |0=>[]
 |i+1=>evs i++evl i (X.nr i)
theorem Q2A {i:Nat}:∀ {k:Nat},(evl i k).length=2*k
 |0=>rfl
 |k+1=>by rw [evl,List.length_append,Q2A];simp;omega
variable {X}
theorem evs_len:∀ {i:Nat},(X.evs i).length=2*base X.nr i
 |0=>rfl
 |i+1=>by rw [evs,List.length_append,evs_len,Q2A,base];omega
def fst (X:Cx) (i:Nat):LL:=encI ((List.range i).map fun j=>(base X.nr j:Int))
theorem Q7l {i L:Nat} (h:i<L):Q1 (X.fst L) (i:Int)=some [Q4 (base X.nr i)]:=Jm (by simp [h])
variable {R:Type} {n:Nat} (h:X.OK)
include h
theorem Qdj (K:LL->LL->oP R):YC 400 X.Ls [] [] K=K (X.fst X.L) (X.evs X.L):=by
 have l1:=h.l1;unfold YC;refine Qm (r:=fun m i=>QM 400 X.Ls ((X.Ls.length:Nat):Int) (fun _ _ u v=>K u v) m i (X.fst i.toNat) (X.evs i.toNat)) (N:=X.Ls.length) (fun m i hi=>?_) (fun m=>?_) X.Ls.length 400 0 (by omega) (by omega)
 ·simp only [QlG];have hb:=XS h (i:=i) (by omega);have hl:=(Jv h hi).2.1;have e1:wJ (Int.tdiv ((2*base X.nr i:Nat):Int) 2)=(base X.nr i:Int):=by
   rw [Int.tdiv_eq_ediv_of_nonneg (by omega),Q6 (by omega) (by omega)];omega
  have e2:X.fst i++[[D.int .i64 (base X.nr i:Int)]]=X.fst (i+1):=by simp [fst,encI,List.range_succ]
  have a:(X.fst i).length=i:=by simp [fst,encI]
  rw [QM,Q8 hi,cond_true,Q9,(Jv h hi).1];simp -implicitDefEqProofs only [Q0,QlF,QlI,Qw,Ql (show i<=1000 by omega),Ek (b:=2) (by decide),evs_len,e1,e2,Xr (show ((X.fst i).length+[[D.int .i64 (base X.nr i:Int)]].length)*8<=100000 by rw [a];simp;omega)];refine Qm (r:=fun m' k=>X3 400 (i:Int) ((X.nr i:Nat):Int) (fun _ _ w=>QM 400 X.Ls ((X.Ls.length:Nat):Int) (fun _ _ u v=>K u v) m ((i+1:Nat):Int) (X.fst (i+1)) w) m' k (X.evs i++evl i k.toNat)) (N:=X.nr i) (fun m' k hk=>?_) (fun m'=>?_) (X.nr i) 400 0 (by omega) (by omega) |> Qmg (by simp [evl];rfl)
  ·simp only [QlG];rw [X3,Q8 hk,cond_true,Xr (by simp [evs_len,Q2A];omega),Q0,Ql (by omega),QlO];rfl
  ·simp only [QlG];rw [X3,Qi,QlH];rfl
 ·simp only [QlG];rw [QM,Qi,QlH];rfl
omit h in
theorem QcE {a:Nat} (ha:a<=1000) (K:Int->oP R):Yp n (a:Int) K=K ((2*a:Nat):Int):=by
 grind [Yp,Q6]
omit h in
theorem Qhb {a:Nat} (ha:a<=1000) (K:Int->oP R):UL n (a:Int) K=K ((2*a+1:Nat):Int):=by
 grind [UL,Q6]
theorem Q3O {i k:Nat} (hi:i<X.Ls.length) (hk:k<=10) (K:Int->oP R):XN n (X.fst X.L) (i:Int) (k:Int) K=K ((base X.nr i+k:Nat):Int):=by
 have hb:=XS h (i:=i) (by omega);unfold XN
 grind [Q7l,L,Q9,fst,encI,Y0,Q0,Int.toNat_natCast,List.getElem?_cons_zero,Q2,Q6]
theorem Q12 {i k:Nat} (hi:i<X.Ls.length) (hk:k<=10) (K:Int->oP R):QY n (X.fst X.L) (i:Int) (k:Int) K=K ((base X.nr i+k:Nat):Int):=Q3O (n:=n) h hi hk K
theorem QcM {i:Nat} (hi:i<X.Ls.length) (K:Int->oP R):Wi n X.Ls (X.fst X.L) (i:Int) K=K ((base X.nr i+(X.nr i-1):Nat):Int):=by
 have hl:=(Jv h hi).2.1;have hw:wJ (((List.length (Gr X.Ls i):Nat):Int)-1)=((X.nr i-1:Nat):Int):=Jy (k:=X.nr i) (by omega) (by omega)
 grind [Wi,Q9,Jv,Q0,List.getElem?_cons_zero,List.getElem?_cons_succ,Qw,Q3O]
theorem Qf4 {i:Nat} (hi:i<X.Ls.length) (K:Int->oP R):Vr n X.Ls (X.fst X.L) (i:Int) K=K ((base X.nr i+(X.nr i-1):Nat):Int):=QcM (n:=n) h hi K
omit h in
def j1 (X:Cx) (i k:Nat):Tup:=(base X.nr i+k,base X.nr i+(k+1),X.run i k+X.mn i k,X.run i k+X.ex i k+X.mx i k)
omit h in
def jT (X:Cx) (t:Tup):Tup:=(base X.nr t.1+(X.nr t.1-1),base X.nr t.2.1+0,X.run t.1 (X.nr t.1-1)+t.2.2.1,X.run t.1 (X.nr t.1-1)+X.ex t.1 (X.nr t.1-1)+t.2.2.2)
omit h in
def jL (X:Cx) (i:Nat):List Tup:=QaM (fun i=>X.nr i-1) X.j1 i
omit h in
def jns (X:Cx):List Tup:=X.jL X.L++X.T.map X.jT
omit h in
theorem Q6w {i k:Nat} (hi:i<X.Ls.length) (hk:k<X.nr i):Q1 (encI (X.runs X.L)) ((base X.nr i+k:Nat):Int)=some [Q4 (X.run i k)]:=Jm (Lr hk hi)
omit h in
theorem Qfw {i k:Nat} (hi:i<X.Ls.length) (hk:k<X.nr i):Q1 (Kb (X.occs X.L)) ((base X.nr i+k:Nat):Int)=some [D.sl 3 ((X.occ i k).map enc)]:=QJ (Lr hk hi)
theorem Qf6 {i k b:Nat} (hi:i<X.Ls.length) (hk:k<X.nr i) {ex lo ac:Int} (a:0<=ex) (e1:ex<=1000) (l0:0<=lo) (l1:lo<=1000) (c:0<=ac) (d:ac<=1000) {J:List Tup} (hJ:J.length<=100) (K:LL->oP R) :
  Yc n (encI (X.runs X.L)) (J.map tuR) ((base X.nr i+k:Nat):Int) (b:Int) ex lo ac K=K ((J++[(base X.nr i+k,b,X.run i k+lo,X.run i k+ex+ac)]).map tuR):=by
 have hr:=PN h hi hk;unfold Yc;rw [Q6w hi hk,Q0];simp -implicitDefEqProofs only [Q0,QlF,Q2,Q6 (x:=X.run i k+lo) (by omega) (by omega),Q6 (x:=X.run i k+ex) (by omega) (by omega),Q6 (x:=X.run i k+ex+ac) (by omega) (by omega)];rw [Xr (by simp;omega),Q0,QlP];rfl
omit h in
theorem QeX {i:Nat}:(X.jL i).length=base (fun i=>X.nr i-1) i:=ZE
theorem Qe6 {i:Nat} (hi:i<=X.Ls.length):(X.jL i).length<=6:=by
 rw [QeX];have:∀ i,base (fun i=>X.nr i-1) i<=base X.nr i:=by
  intro i;induction i with
  |zero=>exact QlU _
  |succ i ih=>grind [base]
 grind [Nat.le_trans,XS]
theorem QeD (K:LL->oP R):YH 400 X.Ls (X.T.map tuR) (X.fst X.L) (encI (X.runs X.L)) [] K=K (X.jns.map tuR):=by
 have l1:=h.l1;have tl:=h.tl;unfold YH;have s2:∀ k0:Int->Bool->LL->oP R,Qy 400 X.Ls ((X.Ls.length:Nat):Int) (X.fst X.L) (encI (X.runs X.L)) k0 400 0 []=k0 ((X.Ls.length:Nat):Int) false ((X.jL X.L).map tuR):=by
  intro k0;refine Qm (r:=fun m i=>Qy 400 X.Ls ((X.Ls.length:Nat):Int) (X.fst X.L) (encI (X.runs X.L)) k0 m i ((X.jL i.toNat).map tuR)) (N:=X.Ls.length) (fun m i hi=>?_) (fun m=>?_) X.Ls.length 400 0 (by omega) (by omega)
  ·simp only [QlG];have hl:=(Jv h hi).2.1;have hJ:=Qe6 h (i:=i) (by omega);have hw:wJ (((List.length (Gr X.Ls i):Nat):Int)-1)=((X.nr i-1:Nat):Int):=Jy (k:=X.nr i) (by omega) (by omega);have ao:(cut (Gr X.Ls i) (0,X.nr i-1)).length=X.nr i-1:=by rw [LX,List.length_take];unfold nr;omega
   rw [Qy,Q8 hi,cond_true,Q9,(Jv h hi).1];simp -implicitDefEqProofs only [Q0,QlF,QlI,Qw,Ql (show i<=1000 by omega),hw,Q2h (n:=(Gr X.Ls i).length) (h:=X.nr i-1) (Nat.sub_le ..),ao];refine Qm (r:=fun m' k=>Xg 400 (i:Int) (cut (Gr X.Ls i) (0,X.nr i-1)) ((X.nr i-1:Nat):Int) (X.fst X.L) (encI (X.runs X.L)) (fun _ _ w=>Qy 400 X.Ls ((X.Ls.length:Nat):Int) (X.fst X.L) (encI (X.runs X.L)) k0 m ((i+1:Nat):Int) w) m' k ((X.jL i++(List.range k.toNat).map (X.j1 i)).map tuR)) (N:=X.nr i-1) (fun m' k hk=>?_) (fun m'=>?_) (X.nr i-1) 400 0 (by omega) (by omega) |> Qmg (by simp)
   ·simp only [QlG];have r:=rd h hi (show k<X.nr i by omega);have ak:Q1 (cut (Gr X.Ls i) (0,X.nr i-1)) (k:Int)=some [Q4 (rF X.Ls i k 0),Q4 (X.ex i k),Q4 (X.mn i k),Q4 (X.mx i k)]:=by rw [LX,Q9,List.getElem?_take_of_lt hk,r.row]
    have c:=r.ex0;have e1:=r.ex1;have e2:=r.mn0;have o:=r.mn1;have p:=r.mn2;have s:=r.mn3;rw [Xg,Q8 hk,cond_true,ak];simp -implicitDefEqProofs only [Q0,QlF,QlI,Q2,Q3O (n:=400) h hi (show k<=10 by omega),Ql (show k<=1000 by omega),Q3O (n:=400) h hi (show k+1<=10 by omega),Qf6 (n:=400) (b:=base X.nr i+(k+1)) h hi (show k<X.nr i by omega) c (show X.ex i k<=1000 by omega) e2 (show X.mn i k<=1000 by omega) (show 0<=X.mx i k by omega) (show X.mx i k<=1000 by omega) (J:=X.jL i++(List.range k).map (X.j1 i)) (by simp;omega)];rw [show (base X.nr i+k,base X.nr i+(k+1),X.run i k+X.mn i k,X.run i k+X.ex i k+X.mx i k)=X.j1 i k from rfl,ZA]
   ·simp only [QlG];rw [Xg,Qi,QlH];rfl
  ·simp only [QlG];rw [Qy,Qi,QlH];rfl
 rw [s2];rw [QlK];refine Qm (r:=fun m j=>Xe 400 (X.T.map tuR) ((X.T.length:Nat):Int) (X.fst X.L) X.Ls (encI (X.runs X.L)) (fun _ _ w=>K w) m j ((X.jL X.L++(X.T.take j.toNat).map X.jT).map tuR)) (N:=X.T.length) (fun m j hj=>?_) (fun m=>?_) X.T.length 400 0 (by omega) (by omega) |> Qmg (by simp)
 ·simp only [QlG];obtain ⟨⟨a,b,lo,ac⟩,e⟩:∃ q,X.T[j]? = some q:=⟨X.T[j],QlL hj⟩;have ht:=h.tr _ (QlJ e);have ha:a<X.Ls.length:=ht.1;have hb:b<X.Ls.length:=ht.2.1;have t1:=ht.2.2.1;have t2:=ht.2.2.2.1;have f:=ht.2.2.2.2.1;have g:=ht.2.2.2.2.2.1;dsimp only at t1 t2 f g;have hl:=(Jv h ha).2.1;have hJ:=Qe6 h (i:=X.L) (QlU _);have hw:wJ (((List.length (Gr X.Ls a):Nat):Int)-1)=((X.nr a-1:Nat):Int):=Jy (k:=X.nr a) (by omega) (by omega);have r:=rd h ha (show X.nr a-1<X.nr a by omega);have c:=r.ex0;have e1:=r.ex1;rw [Xe,Q8 hj,cond_true,QJ e];simp -implicitDefEqProofs only [Q0,tuR,QlF,QlI,Q2,Qw,Q9,(Jv h ha).1,hw,r.row,QcM (n:=400) h ha,Ql (show j<=1000 by omega)];have d:=Q3O (R:=Int) (n:=400) h hb (Qmk 10) some;rw [show ((0:Nat):Int)=0 from rfl] at d;rw [d,Q0];have l:X.jL X.L++(X.T.take (j+1)).map X.jT=X.jL X.L++(X.T.take j).map X.jT++[X.jT (a,b,lo,ac)]:=by rw [Yn e,QlP,QlO];rfl
  rw [Qf6 (n:=400) (b:=base X.nr b+0) h ha (show X.nr a-1<X.nr a by omega) c (show X.ex a (X.nr a-1)<=1000 by omega) (show 0<=lo by omega) (show lo<=1000 by omega) (show 0<=ac by omega) (show ac<=1000 by omega) (J:=X.jL X.L++(X.T.take j).map X.jT) (by simp;omega),Q0,l];rfl
 ·simp only [QlG];rw [Xe,Qi,QlH,QlX];rfl
end Cx
abbrev Sp2:=Int × Int
def Yf (q:Sp2):List D:=[Q4 q.1,Q4 q.2]
def VS (t:Int):Int->List Sp2->Prop
 |_,[]=>True
 |l,(a,b)::r=>l<a/\a<b/\b<=t/\VS t b r
def InS (y:Int) (l:List Sp2):Prop:=∃ q∈l,q.1<=y/\y<q.2
def cnt:List Sp2->Int
 |[]=>0
 |(a,b)::r=>(b-a)+cnt r
theorem LU {y:Int}:¬ InS y []:=fun ⟨_,h,_⟩=>nomatch h
theorem TB {y:Int} {q:Sp2} {l:List Sp2}:InS y (q::l)↔(q.1<=y/\y<q.2)\/InS y l:=by
 constructor
 ·rintro ⟨p,hp,h⟩;cases hp with
  |head=>exact .inl h
  |tail _ hp=>exact .inr ⟨p,hp,h⟩
 ·rintro (h | ⟨p,hp,h⟩)
  ·exact ⟨q,.head _,h⟩
  ·exact ⟨p,.tail _ hp,h⟩
theorem Qa0 {y:Int} {a b:List Sp2}:InS y (a++b)↔InS y a\/InS y b:=by
 constructor
 ·rintro ⟨p,hp,h⟩;rcases QlQ.1 hp with hp | hp
  ·exact .inl ⟨p,hp,h⟩
  ·exact .inr ⟨p,hp,h⟩
 ·rintro (⟨p,hp,h⟩ | ⟨p,hp,h⟩)
  ·exact ⟨p,Qm0 _ hp,h⟩
  ·exact ⟨p,Qm3 _ hp,h⟩
theorem Q6S {y:Int} {a b:List Sp2} (h:a.Perm b):InS y a↔InS y b:=⟨fun ⟨p,hp,q⟩=>⟨p,h.mem_iff.1 hp,q⟩,fun ⟨p,hp,q⟩=>⟨p,h.mem_iff.2 hp,q⟩⟩
theorem VS.rng {t:Int}:∀ {l:Int} {s:List Sp2},VS t l s->∀ q∈s,l<q.1/\q.1<q.2/\q.2<=t
 |_,[],_,_,h=>nomatch h
 |l,(a,b)::r,⟨c,h2,d,e⟩,q,h=>by
  cases h with
  |head=>exact ⟨c,h2,d⟩
  |tail _ h=>have:=e.rng q h;exact ⟨by omega,this.2⟩
theorem VS.cnt {t:Int}:∀ {l:Int} {s:List Sp2},l<=t->VS t l s->0<=cnt s/\cnt s<=t-l/\(0<s.length->cnt s<=t-l-1)
 |l,[],h,_=>⟨Qmf _,by simp only [Vx.cnt];omega,fun h=>nomatch h⟩
 |l,(a,b)::r,h,⟨e,h2,c,d⟩=>by
  have:=d.cnt c;simp only [Vx.cnt];omega
theorem Qax {t:Int}:∀ {l:Int} {s:List Sp2},VS t l s->l<=t->∀ q∈s,q.2-q.1<=cnt s
 |_,[],_,_,_,h=>nomatch h
 |l,(a,b)::r,⟨e,h2,c,d⟩,hl,q,h=>by
  have f:=d.cnt c;cases h with
  |head=>simp only [Vx.cnt];omega
  |tail _ h=>have:=Qax d c q h;simp only [Vx.cnt];omega
section
variable {R:Type} {n:Nat} {t:Int}
theorem Q2i (a:1<=t) (b:t<=7200) (K:Bool->oP R):V4 n t K=K true:=by
 unfold V4;simp only [show decide (t>=1)=true from QlM a,show decide (t<=7200)=true from QlM b,cond_true]
theorem Q6O {l:List Sp2} (hl:l.length<=1000) {k0:oP R} {k1:Int->Int->Bool->oP R} {E:oP R} (hk:∀ a b c,k1 a b c=E):∀ (ac:List Sp2) (i m:Nat) (last:Int),l.drop i=ac->ac.length<m->VS t last ac->Um n t (l.map Yf) ((l.length:Nat):Int) k0 k1 m last (i:Int)=E
 |[],i,m+1,last,hd,_,_=>by
  have:=U4 hd;rw [Um,show decide ((i:Int)<((l.length:Nat):Int))=false by simpa using this,QlH,hk]
 |(a,b)::ac,i,m+1,last,hd,hm,⟨f,h2,g,d⟩=>by
  obtain ⟨e,aj,hi⟩:=Yb hd;rw [Um,Q8 hi,cond_true,QJ e];simp -implicitDefEqProofs only [Q0,Yf,QlF,QlI,Q2,show decide (a<=last)=false from decide_eq_false (by omega),show decide (a>=b)=false from decide_eq_false (by omega),show decide (b>t)=false from decide_eq_false (by omega),QlH,Ql (show i<=1000 by omega)];exact Q6O hl hk ac (i+1) m b aj (by simpa using hm) d
theorem AS {l:List Sp2} (a:1<=t) (b:t<=7200) (hl:l.length<=300) (h:VS t (-1) l):GD 400 t (l.map Yf) (some:Bool->Option Bool)=some true:=by
 unfold GD;rw [Q2i a b,Q0,Qa (by rfl),QlK];exact Q6O (by omega) (fun _ _ _=>rfl) l 0 400 (-1) rfl (by omega) h
theorem Q6u {l:List Sp2} (hl:l.length<=1000) {k0:Int->Int->Bool->oP R}:∀ (ac:List Sp2) (i m:Nat) (acc:Int),l.drop i=ac->ac.length<m->(∃ u,VS t u ac /\ -1<=u/\u<=t)->t<=7200->0<=acc->acc<=100000-cnt ac->∃ j b,ZU n (l.map Yf) ((l.length:Nat):Int) k0 m acc (i:Int)=k0 (acc+cnt ac) j b
 |[],i,m+1,acc,hd,_,_,_,_,_=>by
  have:=U4 hd;rw [ZU,show decide ((i:Int)<((l.length:Nat):Int))=false by simpa using this,QlH];exact ⟨_,_,by rw [cnt,Int.add_zero]⟩
 |(a,b)::ac,i,m+1,acc,hd,hm,⟨u,⟨k,h2,d,f⟩,o,p⟩,ht,q,g=>by
  obtain ⟨e,aj,hi⟩:=Yb hd;have hc:=f.cnt d;rw [cnt] at g ⊢;rw [ZU,Q8 hi,cond_true,QJ e];simp -implicitDefEqProofs only [Q0,Yf,QlF,QlI,Q2,PQ,Q6 (x:=b-a) (by omega) (by omega),Q6 (x:=acc+(b-a)) (by omega) (by omega),Ql (show i<=1000 by omega)];obtain ⟨j,c,h⟩:=Q6u hl ac (i+1) m (acc+(b-a)) aj (by simpa using hm) ⟨b,f,by omega,d⟩ ht (by omega) (by omega);exact ⟨j,c,by rw [h,Int.add_assoc]⟩
theorem Qgs {l:List Sp2} (c:1<=t) (a:t<=7200) (hl:l.length<=300) (h:VS t (-1) l):Tw 400 t (l.map Yf) (some:Int->Option Int)=some (cnt l):=by
 have hc:=h.cnt (by omega);obtain ⟨j,b,e⟩:=Q6u (n:=400) (k0:=fun w _ _=>(some w:Option Int)) (l:=l) (by omega) l 0 400 0 rfl (by omega) ⟨-1,h,by omega,by omega⟩ a (by omega) (by omega);unfold Tw;rw [AS c a hl h,Q0,Qa (by rfl)];unfold Ra;rw [QlK,show ZU 400 (l.map Yf) ((l.length:Nat):Int) (fun w _ _=>(some w:Option Int)) 400 0 0=_ from e,Q0,Int.zero_add]
theorem Qeq {x:Int} (c:1<=t) (d:t<=7200) (h2 : -1000000000<=x) (f:x<=1000000000) (K:Int->oP R):Hn n x t K=K (x % t):=by
 unfold Hn;rw [Qa (decide_eq_false (by omega)),Ek (by omega),Q0];have g:=QlZ x (show t≠0 by omega);have h:=QlY x (show 0<t by omega);by_cases hx:0<=x
 ·rw [Int.tmod_eq_emod_of_nonneg hx,Qa (decide_eq_false (by omega))]
 ·have e:Int.tmod x t = -((-x) % t):=by
   rw [show x = -(-x) by omega,Int.neg_tmod,Int.tmod_eq_emod_of_nonneg (by omega),Int.neg_neg]
  have e1:x % t=if (-x) % t=0 then 0 else t-(-x) % t:=by
   have a:=QlZ (-x) (show t≠0 by omega);have i:=QlY (-x) (show 0<t by omega);have j:=Int.mul_ediv_add_emod (-x) t;split
   ·rename_i b;rw [show x=t*(-((-x) / t)) by rw [Int.mul_neg];omega];exact Int.mul_emod_right _ _
   ·rename_i b;rw [show x=(t-(-x) % t)+t*(-((-x) / t)-1) by rw [Int.mul_sub,Int.mul_neg];omega,Int.add_mul_emod_self_left];rw [show (t-(-x) % t+t*(-((-x) / t)-1))=x by rw [Int.mul_sub,Int.mul_neg];omega];exact Qm8 (by omega) (by omega)
  rw [e];by_cases hz:(-x) % t=0
  ·rw [hz,Qa (by rfl),e1,if_pos hz];rfl
  ·have a:=QlZ (-x) (show t≠0 by omega);rw [QZ (QlM (by omega)),Q6 (by omega) (by omega),e1,Qmd hz];congr 1;omega
theorem QgA {x:Int} (a:1<=t) (b:t<=7200) (h2 : -1000000000<=x) (c:x<=1000000000) (K:Int->oP R):E8 n x t K=K (x % t):=Qeq (n:=n) a b h2 c K
def Q4r (t x k:Int):List Sp2:=if k<1 then [] else if t<=k then [(0,t)] else if x+k<=t then [(x,x+k)] else [(0,x+k-t),(x,t)]
theorem Q9o {x k:Int}:(Q4r t x k).length<=2:=by
 unfold Q4r;split
 ·simp
 split
 ·simp
 split <;> simp
theorem Qbk {x k:Int} (a:1<=t) (hx:0<=x) (ac:x<t):VS t (-1) (Q4r t x k):=by
 unfold Q4r;split
 ·trivial
 split
 ·exact ⟨by omega,by omega,by omega,trivial⟩
 split
 ·exact ⟨by omega,by omega,by omega,trivial⟩
 ·exact ⟨by omega,by omega,by omega,by omega,by omega,by omega,trivial⟩
theorem QiS {x y:Int} (hx:0<=x) (ac:x<t) (hy:0<=y) (aj:y<t):(y-x) % t=if x<=y then y-x else y-x+t:=by
 split
 ·exact Qm8 (by omega) (by omega)
 ·rw [show y-x=(y-x+t)+t*(-1) by omega,Int.add_mul_emod_self_left];rw [show y-x+t+t*(-1)+t=y-x+t by omega];exact Qm8 (by omega) (by omega)
theorem QbR {x k y:Int} (hx:0<=x) (ak:x<t) (hy:0<=y) (ac:y<t):InS y (Q4r t x k)↔(y-x) % t<k:=by
 rw [QiS hx ak hy ac];unfold Q4r;split
 ·refine ⟨fun h=>absurd h LU,fun h=>?_⟩;split at h <;> omega
 split
 ·rw [TB];constructor
  ·intro _;split <;> omega
  ·intro _;exact .inl ⟨hy,ac⟩
 split
 ·rw [TB];constructor
  ·rintro (h | h)
   ·dsimp only at h;rw [if_pos h.1];omega
   ·exact absurd h LU
  ·intro h;left;dsimp only;split at h <;> omega
 ·rw [TB,TB];constructor
  ·rintro (h | h | h)
   ·dsimp only at h;split <;> omega
   ·dsimp only at h;rw [if_pos h.1];omega
   ·exact absurd h LU
  ·intro h;dsimp only;by_cases aj:x<=y
   ·exact .inr (.inl ⟨aj,ac⟩)
   ·rw [Qmd aj] at h;exact .inl ⟨hy,by omega⟩
theorem QgZ {f k:Int} (c:1<=t) (d:t<=7200) (h2 : -1000000<=f) (j:f<=1000000) (l : -1000000<=k) (m:k<=1000000):Pi 400 t f k Tu2=some ((Q4r t (f % t) k).map Yf,(0:Int)):=by
 have e:=QlZ f (show t≠0 by omega);have g:=QlY f (show 0<t by omega);unfold Pi;rw [Q2i c d,Q0,Qa (by rfl),Qeq c d (by omega) (by omega),Q0];revert e g;generalize f % t=x;intro e g;unfold JA Q4r;by_cases c1:k<1
 ·rw [show decide (k<1)=true from QlM c1,cond_true,if_pos c1];rfl
 rw [show decide (k<1)=false from decide_eq_false c1,QlH,Qmd c1];by_cases a:t<=k
 ·rw [show decide (k>=t)=true from QlM a,cond_true,if_pos a];rfl
 rw [show decide (k>=t)=false from decide_eq_false a,QlH,Qmd a,Q6 (x:=x+k) (by omega) (by omega)];by_cases b:x+k<=t
 ·rw [show decide (x+k<=t)=true from QlM b,cond_true,if_pos b];rfl
 ·rw [show decide (x+k<=t)=false from decide_eq_false b,QlH,Qmd b,Q6 (x:=x+k-t) (by omega) (by omega)];rfl
end
theorem QiJ {R:Type} {n:Nat} {a b:Int} (K:Int->oP R):Jd n a b K=K (if a<b then -1 else if b<a then 1 else 0):=by
 unfold Jd;have hn:∀ x:Int,GS n x (some:Bool->Option Bool)=some false:=fun x=>by
  grind [GS]
 rw [hn,hn,Q0,Q0,Qa (by rfl),Qa (by rfl)]
 grind
def Asc (l:List Sp2):Prop:=l.Pairwise fun a b=>a.1<=b.1
theorem Qbu (q:Sp2):(Yf q)[0]? = some (Q4 q.1):=rfl
theorem QaY (q:Sp2):(Yf q)[1]? = some (Q4 q.2):=rfl
theorem Qh5 (z q:Sp2):((Yf z).set 0 (Q4 q.1)).set 1 (Q4 q.2)=Yf q:=rfl
theorem Qis (q:Sp2) (v:Int):(Yf q).set 1 (D.int .i64 v)=Yf (q.1,v):=rfl
section
variable {R:Type} {n:Nat}
theorem Qgk {A B:LL} {x:List D} {i:Nat} (h:A.length=i):(A++x::B)[i]? = some x:=by
 simp_all
theorem Qgz {A B:LL} {x y:List D} {i:Nat} (h:A.length=i):(A++x::B).set i y=A++y::B:=by
 simp_all
theorem Qc8 {K:LL->oP R} {k0:Int->Bool->LL->oP R} (hk:∀ a b w,k0 a b w=K w):∀ (c m:Nat) (A:List Sp2) (x:Sp2) (B C:List Sp2),A.length=c->c<m->(A++x::B++C).length<=100->Asc (A++B)->(∀ b∈B,x.1<=b.1) ->
  ∃ L:List Sp2,Qh n 0 k0 m (c:Int) ((A++x::B++C).map Yf)=K ((L++C).map Yf)/\Asc L/\L.Perm (A++x::B)
 |0,m+1,A,x,B,C,hA,_,_,hs,hx=>by
  obtain rfl:=List.eq_nil_of_length_eq_zero hA;refine ⟨x::B,?_,Qm1.2 ⟨hx,hs⟩,List.Perm.refl _⟩;unfold Qh;rw [show decide (((0:Nat):Int)>0)=false from rfl];simp -implicitDefEqProofs only [gbF,QlH,hk,List.nil_append]
 |c+1,m+1,A,x,B,C,hA,hm,hl,hs,hx=>by
  obtain ⟨A',y,rfl⟩:∃ A' y,A=A'++[y]:=⟨A.dropLast,A.getLast (by intro h;rw [h] at hA;simp at hA),(List.dropLast_concat_getLast _).symm⟩;have ac:A'.length=c:=by simpa using hA
  have ak:c+1<((A'++[y]++x::B++C).map Yf).length:=by simp;omega
  have hc:c<=100:=by simp at hl;omega
  have e1:((A'++[y]++x::B++C).map Yf)=(A'.map Yf++[Yf y])++Yf x::(B++C).map Yf:=by simp
  have e2:((A'++[y]++x::B++C).map Yf)=A'.map Yf++Yf y::(Yf x::(B++C).map Yf):=by simp
  have g1:((A'++[y]++x::B++C).map Yf)[c+1]? = some (Yf x):=by rw [e1];exact Qgk (by simp [ac])
  have d:((A'++[y]++x::B++C).map Yf)[c]? = some (Yf y):=by rw [e2];exact Qgk (by simp [ac])
  have s1:((A'++[y]++x::B++C).map Yf).set (c+1) (Yf y)=A'.map Yf++Yf y::(Yf y::(B++C).map Yf):=by rw [e1,Qgz (by simp [ac])];simp
  have e:(A'.map Yf++Yf y::(Yf y::(B++C).map Yf))[c]? = some (Yf y):=Qgk (by simp [ac]);have s2:(A'.map Yf++Yf y::(Yf y::(B++C).map Yf)).set c (Yf x)=((A'++x::(y::B)++C).map Yf):=by rw [Qgz (by simp [ac])];simp
  have f:inB ((A'++[y]++x::B++C).map Yf).length ((c+1:Nat):Int)=some ():=Y0 (by omega) (by omega);have g:inB ((A'++[y]++x::B++C).map Yf).length ((c:Nat):Int)=some ():=Y0 (by omega) (by omega);have i:inB (A'.map Yf++Yf y::(Yf y::(B++C).map Yf)).length ((c:Nat):Int)=some ():=Y0 (by omega) (by simp;omega);unfold Qh;rw [show decide (((c+1:Nat):Int)>0)=true from QlM (by omega),Jy (show c+1<=1000 by omega) (by omega),Nat.add_sub_cancel];unfold V5;simp -implicitDefEqProofs only [f,g,Q0,QlG,g1,d,QiJ];simp -implicitDefEqProofs only [Qbu,QaY,Qh5,Q0,Q2,cond_true];by_cases aj:x.1<y.1
  ·rw [if_pos aj];simp -implicitDefEqProofs only [show decide ((-1:Int)<0)=true from rfl,cond_true,g1,Qbu,QaY,Qh5,Q0,s1];simp -implicitDefEqProofs only [i,e,Q0,Qh5,s2];obtain ⟨L,j,h2,k⟩:=Qc8 hk c m A' x (y::B) C ac (by omega) (by simp at hl ⊢;omega) (by simpa using hs) (fun b hb=>by
    cases hb with
    |head=>omega
    |tail _ hb=>exact hx b hb)
   refine ⟨L,j,h2,k.trans ?_⟩;rw [QlO];exact List.Perm.append_left _ (List.Perm.swap ..)
  ·refine ⟨A'++[y]++x::B,?_,?_,List.Perm.refl _⟩
   ·rw [Qmd aj,show decide ((if y.1<x.1 then (1:Int) else 0)<0)=false from decide_eq_false (by split <;> omega),QlH,hk]
   ·unfold Asc at hs ⊢;rw [Qm6] at hs ⊢;refine ⟨hs.1,Qm1.2 ⟨hx,hs.2.1⟩,fun a ha b hb=>?_⟩;cases hb with
    |head=>
     rcases QlQ.1 ha with h | h
     ·have:=(Qm6.1 hs.1).2.2 a h y (QlT.2 rfl);omega
     ·obtain rfl:=QlT.1 h;omega
    |tail _ hb=>exact hs.2.2 a ha b hb
theorem Qc7 {K:LL->oP R} {k0:Int->Bool->LL->oP R} (hk:∀ a b w,k0 a b w=K w):∀ (ac P:List Sp2) (m:Nat),ac.length<m->(P++ac).length<=100->Asc P ->
  ∃ L:List Sp2,Q7 400 0 (((P++ac).length:Nat):Int) k0 m ((P.length:Nat):Int) ((P++ac).map Yf)=K (L.map Yf)/\Asc L/\L.Perm (P++ac)
 |[],P,m+1,_,_,hs=>by
  refine ⟨P,?_,hs,by simp⟩;rw [Q7,Qm2,Qi,QlH,hk]
 |x::ac,P,m+1,hm,hl,hs=>by
  rw [Q7,Q8 (by simp),cond_true,Ql (by simp at hl;omega)];obtain ⟨L,d,h2,c⟩:=Qc8 (n:=400) (K:=fun w=>Q7 400 0 (((P++x::ac).length:Nat):Int) k0 m ((P.length+1:Nat):Int) w) (k0:=fun _ _ w=>Q7 400 0 (((P++x::ac).length:Nat):Int) k0 m ((P.length+1:Nat):Int) w) (fun _ _ _=>rfl) P.length 400 P x [] ac rfl (by simp at hl;omega) (by simp at hl ⊢;omega) (by simpa using hs) (fun b hb=>nomatch hb);rw [show (P++x::ac)=P++[x]++ac by simp] at *
  rw [d];have hL:L.length=P.length+1:=by rw [c.length_eq];simp
  obtain ⟨L',g1,e,f⟩:=Qc7 hk ac L m (by simpa using hm) (by simp [hL] at hl ⊢;omega) h2;rw [show (((P++[x]++ac).length:Nat):Int)=(((L++ac).length:Nat):Int) by simp [hL];omega,show ((P.length+1:Nat):Int)=((L.length:Nat):Int) by rw [hL]];exact ⟨L',g1,e,f.trans (c.append_right _)⟩
theorem QiY:((List.range 13).all fun k=>(T7 400 (IntKind.wrap .u64 ((k:Nat):Int)) (some:Int->Option Int)).isSome)=true:=by kernel_rfl
theorem QhV {l:List Sp2} (hl:l.length<=12):∃ L:List Sp2,Qv 400 (l.map Yf) (some:LL->Option LL)=some (L.map Yf)/\Asc L/\L.Perm l:=by
 obtain ⟨b,hb⟩:=Option.isSome_iff_exists.1 (Qma.1 QiY l.length (List.mem_range.2 (by omega)));unfold Qv;rw [QlK,hb,Q0];unfold XO XE;rw [Q6 (x:=((l.length:Nat):Int)-0) (by omega) (by omega),QZ (QlM (by omega))];unfold Xm;have aj:∀ L:List Sp2,L.length=l.length->(gb true (gb true (some (L.map Yf)) [] fun a=>gb true (Tc a (List.length (l.map Yf))) () fun f=>some a) [] fun c=>gb true (Tc c l.length) () fun u3=>(some c:Option LL))=some (L.map Yf):=fun L h=>by
  grind [Q0,MA]
 rw [show wJ ((0:Int)+1)=((1:Nat):Int) from rfl];cases l with
 |nil=>
  refine ⟨[],?_,List.Pairwise.nil,List.Perm.refl _⟩;rfl
 |cons x ac=>
  obtain ⟨L,e,h2,d⟩:=Qc7 (K:=(some:LL->Option LL)) (k0:=fun _ _ w=>some w) (fun _ _ _=>rfl) ac [x] 400 (by grind) (by simp at hl ⊢;omega) (List.pairwise_singleton ..);refine ⟨L,?_,h2,d⟩;rw [show (x::ac)=[x]++ac from rfl,show ((1:Nat):Int)=(([x].length:Nat):Int) from rfl,e];exact aj L d.length_eq
def mgS:Int->Int->List Sp2->List Sp2
 |a,b,[]=>[(a,b)]
 |a,b,(c,d)::r=>if c<=b then mgS a (if b<d then d else b) r else (a,b)::mgS c d r
theorem Q5J:∀ {a b:Int} {r:List Sp2},(mgS a b r).length<=r.length+1
 |_,_,[]=>QlU _
 |a,b,(c,d)::r=>by
  rw [mgS];split
  ·have:=Q5J (a:=a) (b:=if b<d then d else b) (r:=r);simp only [Qmb];omega
  ·have:=Q5J (a:=c) (b:=d) (r:=r);simp only [Qmb];omega
theorem Q9E {t:Int}:∀ {l a b:Int} {r:List Sp2},l<a->a<b->b<=t->Asc ((a,b)::r)->(∀ q∈r,q.1<q.2/\q.2<=t)->VS t l (mgS a b r)
 |l,a,b,[],e,h2,f,_,_=>⟨e,h2,f,trivial⟩
 |l,a,b,(c,d)::r,e,h2,f,h,g=>by
  have hs:=Qm1.1 h;have hc:a<=c:=hs.1 (c,d) (.head _);have hd:=g (c,d) (.head _);rw [mgS];split
  ·refine Q9E e (by split <;> omega) (by split <;> simp_all) (Qm1.2 ⟨fun q hq=>hs.1 q (.tail _ hq),(Qm1.1 hs.2).2⟩) (fun q hq=>g q (.tail _ hq))
  ·exact ⟨e,h2,f,Q9E (by omega) hd.1 hd.2 hs.2 (fun q hq=>g q (.tail _ hq))⟩
theorem Q9s {y:Int}:∀ {a b:Int} {r:List Sp2},Asc ((a,b)::r)->a<b->(∀ q∈r,q.1<q.2)->(InS y (mgS a b r)↔(a<=y/\y<b)\/InS y r)
 |a,b,[],_,_,_=>by rw [mgS,TB]
 |a,b,(c,d)::r,f,h2,e=>by
  have hs:=Qm1.1 f;have hc:a<=c:=hs.1 (c,d) (.head _);have hd:=e (c,d) (.head _);rw [mgS,TB];split
  ·rw [Q9s (a:=a) (b:=if b<d then d else b) (Qm1.2 ⟨fun q hq=>hs.1 q (.tail _ hq),(Qm1.1 hs.2).2⟩) (by split <;> omega) (fun q hq=>e q (.tail _ hq))];dsimp only at hc hd ⊢;rw [<- or_assoc];refine or_congr_left ?_;split <;> omega
  ·rw [TB,Q9s hs.2 hd (fun q hq=>e q (.tail _ hq))]
theorem Q2V {K:LL->oP R} {k0:Int->Bool->LL->oP R} (hk:∀ a b w,k0 a b w=K w) {l:List Sp2} (hl:l.length<=100):∀ (ac:List Sp2) (i m:Nat) (A:List Sp2) (a b:Int),l.drop i=ac->ac.length<m->A.length+ac.length<=100 ->
  X7 n ((l.length:Nat):Int) (l.map Yf) k0 m (i:Int) ((A++[(a,b)]).map Yf)=K ((A++mgS a b ac).map Yf)
 |[],i,m+1,A,a,b,hd,_,_=>by
  have:=U4 hd;rw [X7,show decide ((i:Int)<((l.length:Nat):Int))=false by simp_all,QlH,hk,mgS]
 |(c,d)::ac,i,m+1,A,a,b,hd,hm,hA=>by
  obtain ⟨e,ao,hi⟩:=Yb hd;have ar:A.length<=100:=by omega
  have f:(l.map Yf)[i]? = some (Yf (c,d)):=by rw [Qm5,e];rfl
  have e1:(A++[(a,b)]).map Yf=A.map Yf++Yf (a,b)::[]:=by simp
  have ak:((A++[(a,b)]).map Yf).length=A.length+1:=by simp
  have g:((A++[(a,b)]).map Yf)[A.length]? = some (Yf (a,b)):=by rw [e1];exact Qgk (by simp)
  have an:∀ v,((A++[(a,b)]).map Yf).set A.length (Yf (a,v))=(A++[(a,v)]).map Yf:=fun v=>by rw [e1,Qgz (by simp)];simp
  rw [X7,Q8 hi,cond_true,ak,Jy (show A.length+1<=1000 by omega) (by omega),Nat.add_sub_cancel,QlK,Y0 (by omega) (by omega),Y0 (by omega) (by omega),show decide ((A.length:Int)>=0)=true from QlM (by omega)];simp -implicitDefEqProofs only [Q0,QlG,f,g,Ql (show i<=1000 by omega)];simp -implicitDefEqProofs only [Qbu,QaY,Qis,Q0,Q2,cond_true];rw [mgS];by_cases aj:c<=b
  ·rw [show decide (c<=b)=true from QlM aj,cond_true,if_pos aj];rw [an];exact Q2V hk hl ac (i+1) m A a _ ao (by simpa using hm) (by simp at hA;omega)
  ·rw [show decide (c<=b)=false from decide_eq_false aj,QlH,Qmd aj,Xr (by simp;omega),Q0];have:=Q2V hk hl ac (i+1) m (A++[(a,b)]) c d ao (by simpa using hm) (by simp at hA ⊢;omega);rw [show A++(a,b)::mgS c d ac=A++[(a,b)]++mgS c d ac by simp,<- this,QlP (l₂:=[(c,d)])];rfl
theorem t2a {x y:List D}:decide ((0:Int)<(([x,y].length:Nat):Int))=true:=rfl
theorem t2b {x y:List D}:decide ((1:Int)<(([x,y].length:Nat):Int))=true:=rfl
theorem t2c {x y:List D}:decide ((2:Int)<(([x,y].length:Nat):Int))=false:=rfl
theorem t2d:wJ ((0:Int)+1)=1:=rfl
theorem t2e:wJ ((1:Int)+1)=2:=rfl
theorem t2f {x y:List D}:Q1 [x,y] 0=some x:=rfl
theorem t2g {x y:List D}:Q1 [x,y] 1=some y:=rfl
theorem Qe9 {a b:List Sp2} (h:a.length+b.length<=100):QI 400 [[D.sl 2 (a.map Yf)],[D.sl 2 (b.map Yf)]] (some:LL->Option LL)=some ((a++b).map Yf):=by
 have hg:∀ k:Nat,k<=100->QB 400 (k:Int) (some:LL->Option LL)=some []:=fun k hk=>by
  unfold QB;rw [Qa (decide_eq_false (by omega)),show wJ ((0:Int)-0)=0 from rfl,Q6 (x:=(k:Int)-0) (by omega) (by omega)];by_cases c:k=0
  ·subst c;rfl
  ·rw [QZ (QlM (by omega)),show slB 0 none (some (0:Int))=some (0,0) from rfl,Q0,QZ (QlM (by omega)),Q0,Xr (by omega),Q0]
 unfold QI;rw [Qf];simp -implicitDefEqProofs only [t2a,t2b,t2c,t2d,t2e,t2f,t2g,cond_true,QlH,Q0,QlF,Qw,QlK,Q6 (x:=0+(a.length:Int)) (by omega) (by omega),Q6 (x:=0+(a.length:Int)+(b.length:Int)) (by omega) (by omega),show decide (0+(a.length:Int)<0)=false from decide_eq_false (by omega),show decide (0+(a.length:Int)+(b.length:Int)<0)=false from decide_eq_false (by omega),show 0+(a.length:Int)+(b.length:Int)=((a.length+b.length:Nat):Int) by omega,Q6 (x:=((a.length+b.length:Nat):Int)) (by omega) (by omega),show decide (((a.length+b.length:Nat):Int)<0)=false from decide_eq_false (by omega),hg _ h];rw [Qf];simp -implicitDefEqProofs only [t2a,t2b,t2c,t2d,t2e,t2f,t2g,cond_true,QlH,Q0,QlF,Qw,QlK,Q6 (x:=0+(a.length:Int)) (by omega) (by omega),Q6 (x:=0+(a.length:Int)+(b.length:Int)) (by omega) (by omega),show decide (0+(a.length:Int)<0)=false from decide_eq_false (by omega),show decide (0+(a.length:Int)+(b.length:Int)<0)=false from decide_eq_false (by omega),show 0+(a.length:Int)+(b.length:Int)=((a.length+b.length:Nat):Int) by omega,Q6 (x:=((a.length+b.length:Nat):Int)) (by omega) (by omega),show decide (((a.length+b.length:Nat):Int)<0)=false from decide_eq_false (by omega),hg _ h];rw [Qf];simp -implicitDefEqProofs only [t2a,t2b,t2c,t2d,t2e,t2f,t2g,cond_true,QlH,Q0,QlF,Qw,QlK,Q6 (x:=0+(a.length:Int)) (by omega) (by omega),Q6 (x:=0+(a.length:Int)+(b.length:Int)) (by omega) (by omega),show decide (0+(a.length:Int)<0)=false from decide_eq_false (by omega),show decide (0+(a.length:Int)+(b.length:Int)<0)=false from decide_eq_false (by omega),show 0+(a.length:Int)+(b.length:Int)=((a.length+b.length:Nat):Int) by omega,Q6 (x:=((a.length+b.length:Nat):Int)) (by omega) (by omega),show decide (((a.length+b.length:Nat):Int)<0)=false from decide_eq_false (by omega),hg _ h];rw [Qg];simp -implicitDefEqProofs only [t2a,t2b,t2c,t2d,t2e,t2f,t2g,cond_true,QlH,Q0,QlF,Qw,QlK,List.nil_append,List.length_nil,Xr (show (0+a.length)*16<=100000 by omega),Xr (show (a.length+b.length)*16<=100000 by omega),QlP];rw [Qg];simp -implicitDefEqProofs only [t2a,t2b,t2c,t2d,t2e,t2f,t2g,cond_true,QlH,Q0,QlF,Qw,QlK,List.nil_append,List.length_nil,Xr (show (0+a.length)*16<=100000 by omega),Xr (show (a.length+b.length)*16<=100000 by omega),QlP];rw [Qg];simp -implicitDefEqProofs only [t2a,t2b,t2c,t2d,t2e,t2f,t2g,cond_true,QlH,Q0,QlF,Qw,QlK,List.nil_append,List.length_nil,Xr (show (0+a.length)*16<=100000 by omega),Xr (show (a.length+b.length)*16<=100000 by omega),QlP]
theorem QeN {l:List Sp2}:FY [l.map Yf]=some ():=by
 unfold FY;rw [show ([l.map Yf].all A3)=true by simp [A3,Yf,Q5I]];rfl
theorem QeK {t:Int} {a b:List Sp2} (c:1<=t) (d:t<=7200) (ha:VS t (-1) a) (hb:VS t (-1) b) (hl:a.length<=300) (ac:b.length<=300):Ti 400 t [[D.sl 2 (a.map Yf)],[D.sl 2 (b.map Yf)]] (some:Int->Option Int)=some 0:=by
 unfold Ti;rw [Q2i c d,Q0,Qa (by rfl)];rw [Uf];simp -implicitDefEqProofs only [t2a,t2b,t2c,t2d,t2e,t2f,t2g,cond_true,QlH,Q0,QlF,Qw,AS c d hl ha,AS c d ac hb,QlW];rw [Uf];simp -implicitDefEqProofs only [t2a,t2b,t2c,t2d,t2e,t2f,t2g,cond_true,QlH,Q0,QlF,Qw,AS c d hl ha,AS c d ac hb,QlW];rw [Uf];simp -implicitDefEqProofs only [t2a,t2b,t2c,t2d,t2e,t2f,t2g,cond_true,QlH,Q0,QlF,Qw,AS c d hl ha,AS c d ac hb,QlW]
theorem Qg1 {t:Int} {a b:List Sp2} (e:1<=t) (f:t<=7200) (ha:VS t (-1) a) (hb:VS t (-1) b) (hl:a.length+b.length<=12):∃ c:List Sp2,Tp 400 t (a.map Yf) (b.map Yf) Tu2=some (c.map Yf,(0:Int))/\VS t (-1) c/\c.length<=a.length+b.length/\∀ y,InS y c↔InS y a\/InS y b:=by
 obtain ⟨L,s1,s2,d⟩:=QhV (l:=a++b) (by simp;omega);have hr:∀ q∈L,-1<q.1/\q.1<q.2/\q.2<=t:=fun q hq=>by
  rcases QlQ.1 (d.mem_iff.1 hq) with h | h
  ·exact ha.rng q h
  ·exact hb.rng q h
 have ac:L.length=a.length+b.length:=by rw [d.length_eq];simp
 unfold Tp;rw [QeK e f ha hb (by omega) (by omega),Q0,Qa (by rfl),Qe9 (by omega),Q0,QeN,Q0];unfold HU;rw [s1,Q0,MA (by simp [ac]),Q0,QlK];cases L with
 |nil=>
  refine ⟨[],?_,trivial,by simp,fun y=>?_⟩
  ·rw [QlK,<- d.length_eq,X7,show decide ((0:Int)<((([]:List Sp2).length:Nat):Int))=false from rfl,QlH];rfl
  ·rw [<- Qa0,<- Q6S d]
 |cons q L=>
  obtain ⟨x,z⟩:=q;have hq:=hr (x,z) (.head _);have aj:L.length+1<=12:=by simp at ac;omega
  have hm:=Q2V (n:=400) (K:=fun w=>(some (w,((x,z)::L).map Yf):Option (LL × LL))) (k0:=fun _ _ w=>some (w,((x,z)::L).map Yf)) (fun _ _ _=>rfl) (l:=(x,z)::L) (by simp;omega) L 1 399 [] x z rfl (by omega) (by simp;omega);have ak:∀ k0:Int->Bool->LL->Option (LL × LL),X7 400 ((((x,z)::L).length:Nat):Int) (((x,z)::L).map Yf) k0 400 0 []=X7 400 ((((x,z)::L).length:Nat):Int) (((x,z)::L).map Yf) k0 399 ((1:Nat):Int) (([]++[(x,z)]).map Yf):=fun k0=>by
   rw [X7,show decide ((0:Int)<((((x,z)::L).length:Nat):Int))=true from QlM (by simp),cond_true,Y0 (by omega) (by simp),show (((x,z)::L).map Yf)[Int.toNat 0]? = some (Yf (x,z)) from rfl,show decide (wJ (((([]:LL).length:Nat):Int)-1)>=0)=false from rfl];simp -implicitDefEqProofs only [Q0,Qbu,QaY,gbF,QlH,t2d];rw [Xr (by simp),Q0];rfl
  refine ⟨mgS x z L,?_,Q9E hq.1 hq.2.1 hq.2.2 s2 (fun q h=>(hr q (.tail _ h)).2),?_,fun y=>?_⟩
  ·rw [ak,hm,Q0,MA (by simp at ac ⊢;omega),Q0];rfl
  ·have:=Q5J (a:=x) (b:=z) (r:=L);simp at ac;omega
  ·rw [Q9s s2 hq.2.1 (fun q h=>(hr q (.tail _ h)).2.1),<- Qa0,<- Q6S d,TB]
end
def FB (t:Int) (A B:List Occ) (y:Int):Prop:=∃ x a b c d,(x,a,b)∈A/\(x,c,d)∈B/\(y-(a-d+1)) % t<b-a+d-c-1
theorem Qbj {t:Int} {q:Occ} {A B:List Occ} {y:Int} (h:∀ p∈B,p.1≠q.1):FB t (q::A) B y↔FB t A B y:=by
 constructor
 ·rintro ⟨x,a,b,c,d,e,h2,f⟩;cases e with
  |head=>grind
  |tail _ e=>exact ⟨x,a,b,c,d,e,h2,f⟩
 ·rintro ⟨x,a,b,c,d,e,h2,f⟩;exact ⟨x,a,b,c,d,.tail _ e,h2,f⟩
theorem Qbv {t:Int} {q:Occ} {A B:List Occ} {y:Int} (h:∀ p∈A,p.1≠q.1):FB t A (q::B) y↔FB t A B y:=by
 constructor
 ·rintro ⟨x,a,b,c,d,e,h2,f⟩;cases h2 with
  |head=>grind
  |tail _ h2=>exact ⟨x,a,b,c,d,e,h2,f⟩
 ·rintro ⟨x,a,b,c,d,e,h2,f⟩;exact ⟨x,a,b,c,d,e,.tail _ h2,f⟩
theorem Qe7 {t x a b c d:Int} {A B:List Occ} {y:Int} (hA:∀ p∈A,p.1≠x) (hB:∀ p∈B,p.1≠x):FB t ((x,a,b)::A) ((x,c,d)::B) y↔(y-(a-d+1)) % t<b-a+d-c-1\/FB t A B y:=by
 constructor
 ·rintro ⟨x',a',b',c',d',e,h2,f⟩;cases e with
  |head=>
   grind
  |tail _ e=>
   cases h2 with
   |head=>exact (hA (x,a',b') e rfl).elim
   |tail _ h2=>exact .inr ⟨x',a',b',c',d',e,h2,f⟩
 ·rintro (h | ⟨x',a',b',c',d',e,h2,f⟩)
  ·exact ⟨x,a,b,c,d,.head _,.head _,h⟩
  ·exact ⟨x',a',b',c',d',.tail _ e,.tail _ h2,f⟩
theorem Qgl (y f t:Int):(y-f % t) % t=(y-f) % t:=by
 rw [Int.sub_emod,Int.emod_emod,<- Int.sub_emod]
section
variable {R:Type} {n:Nat} {t:Int}
theorem Np (q:Occ):(enc q)[0]? = some (Q4 q.1):=rfl
theorem MX (q:Occ):(enc q)[1]? = some (Q4 q.2.1):=rfl
theorem LH (q:Occ):(enc q)[2]? = some (Q4 q.2.2):=rfl
theorem Q3W {O:List Occ} (hl:O.length<=1000) {k0:oP R} {k1:Int->Int->Bool->oP R} {E:oP R} (hk:∀ a b c,k1 a b c=E):∀ (ac:List Occ) (i m:Nat) (last:Int),O.drop i=ac->ac.length<m->OL last ac->Uj n (O.map enc) ((O.length:Nat):Int) k0 k1 m last (i:Int)=E
 |[],i,m+1,last,hd,_,_=>by
  have:=U4 hd;rw [Uj,show decide ((i:Int)<((O.length:Nat):Int))=false by simpa using this,QlH,hk]
 |(x,a,b)::ac,i,m+1,last,hd,hm,⟨f,h2,g,h,j,d⟩=>by
  obtain ⟨e,aj,hi⟩:=Yb hd;rw [Uj,Q8 hi,cond_true,QJ e];simp -implicitDefEqProofs only [Q0,Np,MX,LH,Q2,show decide (x<=last)=false from decide_eq_false (by omega),show decide (a>=b)=false from decide_eq_false (by omega),show decide (a < -65536)=false from decide_eq_false (by omega),show decide (b>65536)=false from decide_eq_false (by omega),QlH,Ql (show i<=1000 by omega)];exact Q3W hl hk ac (i+1) m x aj (by simpa using hm) d
theorem Q51 {O:List Occ} (hl:O.length<=300) (h:OL (-1) O):Jt 400 (O.map enc) (some:Bool->Option Bool)=some true:=by
 unfold Jt;rw [QlK];exact Q3W (by omega) (fun _ _ _=>rfl) O 0 400 (-1) rfl (by omega) h
theorem Qii {α:Type} (q:α) (l:List α):slB (q::l).length (some (1:Int)) none=some (1,l.length+1)/\cut (q::l) (1,l.length+1)=l:=by
 grind [slB,cut]
theorem Fc (e:1<=t) (j:t<=7200) {K:LL->oP R} {k0:LL->LL->Bool->LL->oP R} (hk:∀ a b c w,k0 a b c w=K w):∀ (m:Nat) (A B:List Occ) (acc:List Sp2) (lA lB:Int),A.length+B.length<m->OL lA A->OL lB B->VS t (-1) acc->acc.length+2*A.length<=12 ->
  ∃ ac:List Sp2,Qr 400 t k0 m (A.map enc) (B.map enc) (acc.map Yf)=K (ac.map Yf)/\VS t (-1) ac/\ac.length<=12/\∀ y,0<=y->y<t->(InS y ac↔InS y acc\/FB t A B y)
 |m+1,[],B,acc,lA,lB,_,_,_,hv,hl=>by
  refine ⟨acc,?_,hv,by omega,fun y _ _=>⟨.inl,?_⟩⟩
  ·rw [Qr,show decide (((([]:List Occ).map enc).length:Int)>0)=false from rfl,QlH,QlH,hk]
  ·rintro (h | ⟨x,a,b,c,d,h,_⟩)
   all_goals grind
 |m+1,q::A,[],acc,lA,lB,_,_,_,hv,hl=>by
  refine ⟨acc,?_,hv,by simp at hl;omega,fun y _ _=>⟨.inl,?_⟩⟩
  ·rw [Qr,show decide (((([]:List Occ).map enc).length:Int)>0)=false from rfl,show decide ((((q::A).map enc).length:Int)>0)=true from QlM (by simp),cond_true,QlH,hk]
  ·rintro (h | ⟨x,a,b,c,d,_,h,_⟩)
   ·exact h
   ·nomatch h
 |m+1,(x,a,b)::A,(x',c,d)::B,acc,lA,lB,hm,hA,hB,hv,hl=>by
  obtain ⟨a1,a2,a3,a4,a5,v⟩:=id hA;obtain ⟨b1,b2,b3,b4,b5,z⟩:=id hB;have ax:A.length+B.length+2<m+1:=by simp at hm;omega
  have a8:acc.length+2*A.length+2<=12:=by simp at hl;omega
  have cA:=Qii (enc (x,a,b)) (A.map enc);have cB:=Qii (enc (x',c,d)) (B.map enc);have an:∀ p∈A,x<p.1:=fun p hp=>(v.mem p hp).1
  have ak:∀ p∈B,x'<p.1:=fun p hp=>(z.mem p hp).1
  rw [Qr];simp -implicitDefEqProofs only [List.map_cons,show decide ((((enc (x,a,b)::A.map enc).length:Nat):Int)>0)=true from QlM (by simp),show decide ((((enc (x',c,d)::B.map enc).length:Nat):Int)>0)=true from QlM (by simp),cond_true,show ∀ (r:List D) (l:LL),Q1 (r::l) 0=some r from fun _ _=>rfl,Q0,Np,MX,LH,Q2,cA,cB];rcases Int.lt_trichotomy x x' with hx | hx | hx
  ·rw [show (x == x')=false by simp;omega,show decide (x<=x')=true from QlM (by omega),show decide (x>=x')=false from decide_eq_false (by omega)];simp -implicitDefEqProofs only [cond_true,QlH];obtain ⟨ac,g1,n,o,s⟩:=Fc e j hk m A ((x',c,d)::B) acc x lB (by simp;omega) v hB hv (by omega);refine ⟨ac,g1,n,o,fun y g i=>?_⟩;rw [s y g i,Qbj (fun p hp=>?_)];cases hp with
   |head=>dsimp only;omega
   |tail _ hp=>have:=ak p hp;dsimp only;omega
  ·subst hx;have f0:wJ (wJ (a-d)+1)=a-d+1:=by rw [Q6 (x:=a-d) (by omega) (by omega),Q6 (by omega) (by omega)]
   have f1:wJ (wJ (wJ (wJ (b-c)-1)-(a-d+1))+1)=b-a+d-c-1:=by
    rw [Q6 (x:=b-c) (by omega) (by omega),Q6 (x:=b-c-1) (by omega) (by omega),Q6 (x:=b-c-1-(a-d+1)) (by omega) (by omega),Q6 (by omega) (by omega)];omega
   have e0:=QlZ (a-d+1) (show t≠0 by omega);have e1:=QlY (a-d+1) (show 0<t by omega);have aq:=QgZ (t:=t) (f:=a-d+1) (k:=b-a+d-c-1) e j (by omega) (by omega) (by omega) (by omega);have a9:=Q9o (t:=t) (x:=(a-d+1) % t) (k:=b-a+d-c-1);obtain ⟨u,u1,u2,u3,u4⟩:=Qg1 e j hv (Qbk (k:=b-a+d-c-1) e e0 e1) (by omega);rw [show (x == x)=true by simp,show decide (x<=x)=true from QlM (by omega)];simp -implicitDefEqProofs only [cond_true];unfold Zc;rw [f0,f1,aq,Q0,u1,Q0,QeN,Q0];obtain ⟨ac,g1,n,o,s⟩:=Fc e j hk m A B u x x (by omega) v z u2 (by omega);refine ⟨ac,g1,n,o,fun y g i=>?_⟩;rw [s y g i,u4,QbR e0 e1 g i,Qgl,Qe7 (fun p hp=>by have:=an p hp;omega) (fun p hp=>by have:=ak p hp;omega),or_assoc]
  ·rw [show (x == x')=false by simp;omega,show decide (x<=x')=false from decide_eq_false (by omega),show decide (x>=x')=true from QlM (by omega)];simp -implicitDefEqProofs only [cond_true,QlH];obtain ⟨ac,g1,n,o,s⟩:=Fc e j hk m ((x,a,b)::A) B acc lA x' (by simp;omega) hA z hv hl;refine ⟨ac,g1,n,o,fun y g i=>?_⟩;rw [s y g i,Qbv (fun p hp=>?_)];cases hp with
   |head=>dsimp only;omega
   |tail _ hp=>have:=an p hp;dsimp only;omega
theorem Qh1 {A B:List Occ} (a:1<=t) (b:t<=7200) (hA:OL (-1) A) (hB:OL (-1) B) (lA:A.length<=6) (lB:B.length<=6):∃ F:List Sp2,Jr 400 t (A.map enc) (B.map enc) Tu2=some (F.map Yf,(0:Int))/\VS t (-1) F/\F.length<=12/\∀ y,0<=y->y<t->(InS y F↔FB t A B y):=by
 obtain ⟨F,g1,e,f,g⟩:=Fc a b (K:=fun w=>(some w:Option LL)) (k0:=fun _ _ _ w=>some w) (fun _ _ _ _=>rfl) 400 A B [] (-1) (-1) (by omega) hA hB trivial (by simp;omega);refine ⟨F,?_,e,f,fun y i j=>?_⟩
 ·unfold Jr;dsimp only [jn];rw [Q51 (by omega) hA,Q51 (by omega) hB,show decide (t<1)=false from decide_eq_false (by omega),show decide (t>7200)=false from decide_eq_false (by omega)];simp -implicitDefEqProofs only [QlH,Q0,QlW];unfold KV;rw [show Qr 400 t (fun l m n k=>(some k:Option LL)) 400 (A.map enc) (B.map enc) []=_ from g1,Q0]
 ·rw [g y i j];exact ⟨fun h=>h.elim (fun h=>absurd h LU) id,.inr⟩
def B2 (t:Int) (q:Sp2):Sp2:=(q.2,q.1+t-1)
theorem Qcf (c:t<=7200) (d:1<=t) {K:LL->oP R} {k0:Int->Bool->LL->oP R} (hk:∀ a b w,k0 a b w=K w) {l:List Sp2} (hl:l.length<=1000):∀ (ac:List Sp2) (i m:Nat),l.drop i=ac->ac.length<m->(∀ q∈l,-1<q.1/\q.1<=t)->ZB n t (l.map Yf) ((l.length:Nat):Int) k0 m (i:Int) (((l.take i).map (B2 t)).map Yf)=K ((l.map (B2 t)).map Yf)
 |[],i,m+1,hd,_,_=>by
  have:=U4 hd;rw [ZB,show decide ((i:Int)<((l.length:Nat):Int))=false by simpa using this,QlH,hk,List.take_of_length_le this]
 |(a,b)::ac,i,m+1,hd,hm,hr=>by
  obtain ⟨e,aj,hi⟩:=Yb hd;have ha:=hr (a,b) (QlJ e);rw [ZB,Q8 hi,cond_true,QJ e];simp -implicitDefEqProofs only [Q0,Qbu,QaY,Q2,Ql (show i<=1000 by omega),Q6 (x:=a+t) (by omega) (by omega),Q6 (x:=a+t-1) (by omega) (by omega),Xr (show ((((l.take i).map (B2 t)).map Yf).length+[[D.int .i64 b,D.int .i64 (a+t-1)]].length)*16<=100000 by simp;omega)];have:=Qcf c d hk hl ac (i+1) m aj (by simpa using hm) hr;rw [Yn e,QlP,QlP] at this;exact this
theorem Qc4 (c:t<=7200) (d:1<=t) {K:LL->oP R} {k0:Int->Bool->LL->oP R} (hk:∀ a b w,k0 a b w=K w) {l:List Sp2} (hl:l.length<=1000):∀ (ac:List Sp2) (i m:Nat),l.drop i=ac->ac.length<m->(∀ q∈l,-1<q.1/\q.1<=t)->YK n t ((l.length:Nat):Int) (l.map Yf) k0 m (i:Int) (((l.take i).map (B2 t)).map Yf)=K ((l.map (B2 t)).map Yf)
 |[],i,m+1,hd,_,_=>by
  have:=U4 hd;rw [YK,show decide ((i:Int)<((l.length:Nat):Int))=false by simp_all,QlH,hk,List.take_of_length_le this]
 |(a,b)::ac,i,m+1,hd,hm,hr=>by
  obtain ⟨e,aj,hi⟩:=Yb hd;have ha:=hr (a,b) (QlJ e);have f:(l.map Yf)[i]? = some (Yf (a,b)):=by rw [Qm5,e];rfl
  rw [YK,Q8 hi,cond_true,QlK,Y0 (by omega) (by omega),QlG,f];simp -implicitDefEqProofs only [Q0,Qbu,QaY,Q2,Ql (show i<=1000 by omega),Q6 (x:=a+t) (by omega) (by omega),Q6 (x:=a+t-1) (by omega) (by omega),Xr (show ((((l.take i).map (B2 t)).map Yf).length+[[D.int .i64 b,D.int .i64 (a+t-1)]].length)*16<=100000 by simp;omega)];have:=Qc4 c d hk hl ac (i+1) m aj (by simpa using hm) hr;rw [Yn e,QlP,QlP] at this;exact this
def WR (t:Int) (F G:List Sp2):Prop:=(G=F/\∀ b M c,F≠(0,b)::(M++[(c,t)]))\/∃ b M c,F=(0,b)::(M++[(c,t)])/\G=M++[(c,t+b)]
theorem Q70 {A B:List Occ} (r:2<=t) (f:t<=7200) (hA:OL (-1) A) (hB:OL (-1) B) (lA:A.length<=6) (lB:B.length<=6):∃ F G:List Sp2,VS t (-1) F/\F.length<=12/\(∀ y,0<=y->y<t->(InS y F↔FB t A B y))/\WR t F G /\
  WU 400 t (A.map enc) (B.map enc) Tu2=some (if cnt F=t then ([],(13:Int)) else ((G.map (B2 t)).map Yf,(0:Int))):=by
 obtain ⟨F,g1,j,k,m⟩:=Qh1 (t:=t) (by omega) f hA hB lA lB;have hr:=j.rng;suffices h:∃ G,WR t F G/\WU 400 t (A.map enc) (B.map enc) Tu2=some (if cnt F=t then ([],(13:Int)) else ((G.map (B2 t)).map Yf,(0:Int))) by
  obtain ⟨G,h⟩:=h;exact ⟨F,G,j,k,m,h⟩
 unfold WU;rw [g1,Q0,Qa (by rfl)];dsimp only;rw [Qgs (by omega) f (by omega) j,Q0];have ac:YK 400 t ((F.length:Nat):Int) (F.map Yf) (fun s u o=>(some (o,(0:Int)):Option (LL × Int))) 400 0 []=some ((F.map (B2 t)).map Yf,(0:Int)):=Qc4 f (by omega) (K:=fun w=>some (w,(0:Int))) (k0:=fun _ _ w=>some (w,(0:Int))) (fun _ _ _=>rfl) (by omega) F 0 400 rfl (by omega) (fun q hq=>by have:=hr q hq;omega);by_cases aj:cnt F=t
 ·simp only [if_pos aj];rw [QZ (by simpa using aj)];by_cases hw:∃ b M c,F=(0,b)::(M++[(c,t)])
  ·obtain ⟨b,M,c,e⟩:=hw;exact ⟨_,.inr ⟨b,M,c,e,rfl⟩,rfl⟩
  ·exact ⟨F,.inl ⟨rfl,fun b M c e=>hw ⟨b,M,c,e⟩⟩,rfl⟩
 simp only [Qmd aj];rw [Qa (by simpa using aj),QlK];rcases F with _ | ⟨⟨a,b⟩,F⟩
 ·refine ⟨[],.inl ⟨rfl,fun b M c e=>(nomatch e)⟩,?_⟩;rw [show decide (((([]:List Sp2).length:Nat):Int)>1)=false from rfl];simp -implicitDefEqProofs only [gbF,QlH];exact ac
 rcases List.eq_nil_or_concat F with rfl | ⟨M,⟨c,d⟩,rfl⟩
 ·refine ⟨[(a,b)],.inl ⟨rfl,fun b M c e=>by have:=congrArg List.length e;simp at this⟩,?_⟩;rw [show decide ((((([(a,b)]:List Sp2)).length:Nat):Int)>1)=false from rfl];simp -implicitDefEqProofs only [gbF,QlH];exact ac
 have hM:M.length<=10:=by simp at k;omega
 have ak:((a,b)::(M++[(c,d)])).length=M.length+1+1:=by simp
 have ay:=hr (c,d) (by simp);have aq:=hr (a,b) (by simp);have e1:((a,b)::(M++[(c,d)])).map Yf=(Yf (a,b)::M.map Yf)++Yf (c,d)::[]:=by simp
 have gl:(((a,b)::(M++[(c,d)])).map Yf)[M.length+1]? = some (Yf (c,d)):=by rw [e1];exact Qgk (by simp)
 have sl:∀ v,(((a,b)::(M++[(c,d)])).map Yf).set (M.length+1) (Yf (c,v))=((a,b)::(M++[(c,v)])).map Yf:=fun v=>by rw [e1,Qgz (by simp)];simp
 rw [List.concat_eq_append] at *
 rw [ak,show decide (((M.length+1+1:Nat):Int)>1)=true from QlM (by omega),Jy (show M.length+1+1<=1000 by omega) (by omega),Nat.add_sub_cancel,Y0 (by omega) (by omega),Y0 (by omega) (by omega)];simp -implicitDefEqProofs only [Q0,QlG,gl,cond_true,show (((a,b)::(M++[(c,d)])).map Yf)[Int.toNat 0]? = some (Yf (a,b)) from rfl,Qbu,QaY,Q2,Qis];by_cases ao:a=0/\d=t
 ·obtain ⟨rfl,rfl⟩:=ao;refine ⟨M++[(c,d+b)],.inr ⟨b,M,c,rfl,rfl⟩,?_⟩;rw [show ((0:Int) == 0)=true from rfl,show (d == d)=true by simp,cond_true,cond_true,Q6 (x:=d+b) (by omega) (by omega),sl];have an:=Qii (Yf (0,b)) ((M++[(c,d+b)]).map Yf);rw [List.map_cons,an.1,Q0,an.2,QlK];exact Qcf (n:=400) f (by omega) (K:=fun w=>(some (w,(0:Int)):Option (LL × Int))) (k0:=fun _ _ w=>some (w,(0:Int))) (fun _ _ _=>rfl) (l:=M++[(c,d+b)]) (by simp;omega) (M++[(c,d+b)]) 0 400 rfl (by simp;omega) (fun q hq=>by
   rcases QlQ.1 hq with h | h
   ·have:=hr q (.tail _ (Qm0 _ h));omega
   ·obtain rfl:=QlT.1 h;dsimp only at *
    omega)
 ·have hz:(bif (a == (0:Int)) then (d == t) else false)=false:=by
   by_cases ha:a=0
   ·rw [ha,show ((0:Int) == 0)=true from rfl,cond_true];simp only [beq_eq_false_iff_ne];exact fun h=>ao ⟨ha,h⟩
   ·rw [show (a == (0:Int))=false by simpa using ha,QlH]
  refine ⟨_,.inl ⟨rfl,fun b' M' c' e=>ao ?_⟩,?_⟩
  ·have e2:=List.cons.inj e;have p:=List.append_inj_right' e2.2 rfl;have:=(Prod.mk.inj e2.1).1;have:=(Prod.mk.inj (List.cons.inj p).1).2;exact ⟨by omega,by omega⟩
  rw [hz,QlH];rw [ak] at ac;exact ac
end
theorem TQ {α β:Type} {r:Nat->Int->β} {l:List α} {p:α->Bool} {E0 E1:β} (a:∀ m i q,l[i]? = some q->i<l.length->r (m+1) (i:Int)=bif p q then r m ((i+1:Nat):Int) else E0) (b:∀ m,r (m+1) ((l.length:Nat):Int)=E1) {fuel:Nat} (hf:l.length<fuel):r fuel 0=bif l.all p then E1 else E0:=by
 have go:∀ (ac:List α) (i m:Nat),l.drop i=ac->ac.length<m->i<=l.length->r m (i:Int)=bif ac.all p then E1 else E0:=by
  intro ac;induction ac with
  |nil=>
   intro i m hd hm hi;obtain ⟨m,rfl⟩:∃ k,m=k+1:=⟨m-1,by omega⟩
   grind
  |cons q ac ih=>
   intro i m hd hm hi;obtain ⟨m,rfl⟩:∃ k,m=k+1:=⟨m-1,by omega⟩
   grind [Yb]
 exact go l 0 fuel rfl hf (Qmk _)
theorem Ft {α β S:Type} {r:Nat->Int->S->β} {l:List α} {f:S->α->S} {E:S->β} (a:∀ m i q s,l[i]? = some q->i<l.length->r (m+1) (i:Int) s=r m ((i+1:Nat):Int) (f s q)) (b:∀ m s,r (m+1) ((l.length:Nat):Int) s=E s) {fuel:Nat} (hf:l.length<fuel) (s:S):r fuel 0 s=E (l.foldl f s):=by
 have go:∀ (ac:List α) (i m:Nat) (s:S),l.drop i=ac->ac.length<m->i<=l.length->r m (i:Int) s=E (ac.foldl f s):=by
  intro ac;induction ac with
  |nil=>
   intro i m s hd hm hi;obtain ⟨m,rfl⟩:∃ k,m=k+1:=⟨m-1,by omega⟩
   grind
  |cons q ac ih=>
   intro i m s hd hm hi;obtain ⟨m,rfl⟩:∃ k,m=k+1:=⟨m-1,by omega⟩;obtain ⟨e,ak,aj⟩:=Yb hd;rw [a m i q s e aj,Qmh,ih (i+1) m _ ak (by simp_all) aj]
 exact go l 0 fuel s rfl hf (Qmk _)
theorem FU {α:Type} {p:α->Bool}:∀ {l:List α} {c:Bool},l.foldl (fun c q=>c||p q) c=(c||l.any p)
 |[],c=>(Bool.or_false c).symm
 |q::l,c=>by rw [Qmh,FU,List.any_cons,Bool.or_assoc]
def So (t:Int) (q:Occ):Bool:=!decide (q.2.2-q.2.1>t)
theorem Qin {l:Int} {O:List Occ} (hO:OL l O) {q:Occ} (hq:q∈O):wJ (q.2.2-q.2.1)=q.2.2-q.2.1:=by
 have:=hO.mem q hq
 grind [Q6]
theorem QfS {t:Int} {O:List Occ} (a:1<=t) (b:t<=7200) (hO:OL (-1) O) (hl:O.length<=300):Te 400 t (O.map enc) (some:Bool->Option Bool)=some (O.all (So t)):=by
 unfold Te;rw [show decide (t<1)=false from decide_eq_false (by omega),show decide (t>7200)=false from decide_eq_false (by omega),Q51 hl hO];simp -implicitDefEqProofs only [QlH,Q0,QlW,Qm9,QlK];refine (TQ (r:=fun m i=>Uo 400 t (O.map enc) ((O.length:Nat):Int) (some false) (fun _ _=>some true) m i) (l:=O) (p:=So t) (E0:=some false) (E1:=some true) (fun m i q e hi=>?_) (fun m=>?_) (by omega)).trans (by cases O.all (So t) <;> rfl)
 ·rw [Uo,Q8 hi,cond_true,QJ e];simp -implicitDefEqProofs only [Q0,Np,MX,LH,Q2,Ql (show i<=1000 by omega),Qin hO (QlJ e)];unfold So;cases decide (q.2.2-q.2.1>t) <;> rfl
 ·rw [Uo,Qi,QlH]
def tie (la:Int) (x y:Occ):Bool:=bif x.1 == y.1 then decide (la+y.2.1<=x.2.2) else false
def Bi (per la mo:Int) (x y:Occ):Bool:=decide ((if x.2.2<mo+y.2.2 then mo+y.2.2 else x.2.2)-(if la+y.2.1<x.2.1 then la+y.2.1 else x.2.1)>per)
def Q8m (per la mo:Int) (A B:List Occ):Bool:=A.any fun x=>B.any fun y=>bif tie la x y then Bi per la mo x y else false
def Q1g (la:Int) (A B:List Occ) (r:Int):Bool:=A.any fun x=>B.any fun y=>bif tie la x y then x.1 == r else false
namespace Cx
variable {R:Type} {n:Nat} {X:Cx}
theorem Qh6 {per la mo:Int} {O:List Occ} (hO:OL (-1) O) (hl:O.length<=300) {x:Occ} (hx : -1000<=x.2.1/\x.2.1<x.2.2/\x.2.2<=20000) (d:0<=la) (f:la<=20000) (h2:0<=mo) (g:mo<=20000) {k0:Int->Bool->Bool->oP R} {Kc:Bool->oP R} (hk:∀ a b c,k0 a b c=Kc c) (c:Bool) :
  QH n (O.map enc) ((O.length:Nat):Int) la (Q4 x.1) (Q4 x.2.1) (Q4 x.2.2) per la mo k0 400 0 c=Kc (c||O.any fun y=>bif tie la x y then Bi per la mo x y else false):=by
 rw [<- FU];refine Ft (r:=fun m i c=>QH n (O.map enc) ((O.length:Nat):Int) la (Q4 x.1) (Q4 x.2.1) (Q4 x.2.2) per la mo k0 m i c) (E:=Kc) (fun m i q c e hi=>?_) (fun m c=>?_) (by omega) c
 ·have:=hO.mem q (QlJ e);rw [QH,Q8 hi,cond_true,QJ e];simp -implicitDefEqProofs only [Q0,Np,MX,LH,Q2,Ql (show i<=1000 by omega),Q6 (x:=la+q.2.1) (by omega) (by omega)];unfold Ya;simp -implicitDefEqProofs only [Q0,Q6 (x:=la+q.2.1) (by omega) (by omega),Q6 (x:=mo+q.2.2) (by omega) (by omega)];rw [Q6 (x:=(if x.2.2<mo+q.2.2 then mo+q.2.2 else x.2.2)-(if la+q.2.1<x.2.1 then la+q.2.1 else x.2.1)) (by split <;> split <;> omega) (by split <;> split <;> omega)];show (bif tie la x q then QH n (O.map enc) ((O.length:Nat):Int) la (Q4 x.1) (Q4 x.2.1) (Q4 x.2.2) per la mo k0 m ((i+1:Nat):Int) (bif c then true else Bi per la mo x q) else _)=_;cases tie la x q <;> cases c <;> rfl
 ·rw [QH,Qi,QlH,hk]
theorem map1 {la:Int} {O:List Occ} (hO:OL (-1) O) (hl:O.length<=300) {x:Occ} (d:0<=la) (f:la<=20000) {k0:Int->Bool->(Int->Bool)->oP R} {Kc:(Int->Bool)->oP R} (hk:∀ a b c,k0 a b c=Kc c) (c:Int->Bool) :
  QW n (O.map enc) ((O.length:Nat):Int) la (Q4 x.1) (Q4 x.2.1) (Q4 x.2.2) k0 400 0 c=Kc (O.foldl (fun c y=>bif tie la x y then Q7x c x.1 true else c) c):=by
 refine Ft (r:=fun m i c=>QW n (O.map enc) ((O.length:Nat):Int) la (Q4 x.1) (Q4 x.2.1) (Q4 x.2.2) k0 m i c) (E:=Kc) (fun m i q c e hi=>?_) (fun m c=>?_) (by omega) c
 ·have:=hO.mem q (QlJ e);rw [QW,Q8 hi,cond_true,QJ e];simp -implicitDefEqProofs only [Q0,Np,MX,LH,Q2,Ql (show i<=1000 by omega),Q6 (x:=la+q.2.1) (by omega) (by omega)];unfold Xv;simp -implicitDefEqProofs only [Q0];show (bif tie la x q then _ else _)=_;cases tie la x q <;> rfl
 ·rw [QW,Qi,QlH,hk]
theorem Qfl {q:Int->Bool} {x r:Int}:Q7x q x true r=(q r||(x == r)):=by
 grind [Q7x]
theorem Qfu {la:Int} {x:Occ} {r:Int}:∀ {O:List Occ} {c:Int->Bool},O.foldl (fun c y=>bif tie la x y then Q7x c x.1 true else c) c r=(c r||O.any fun y=>bif tie la x y then x.1 == r else false)
 |[],c=>(Bool.or_false _).symm
 |y::O,c=>by
  rw [Qmh,Qfu,List.any_cons];cases tie la x y
  ·rfl
  ·rw [cond_true,cond_true,Qfl,Bool.or_assoc]
def occN (X:Cx) (a:Nat):List Occ:=(X.occs X.L).getD a []
def N (X:Cx):Nat:=base X.nr X.L
variable (h:X.OK)
include h
theorem Jz {a:Nat} (ha:a<X.N):Q1 (Kb (X.occs X.L)) (a:Int)=some [D.sl 3 ((X.occN a).map enc)]/\OL (-1) (X.occN a)/\(X.occN a).length<=6:=by
 obtain ⟨i,k,b,h2,rfl⟩:=Q71 ha;have e:X.occN (base X.nr i+k)=X.occ i k:=by
  unfold occN;rw [QlN,show (X.occs X.L)[base X.nr i+k]? = some (X.occ i k) from Lr h2 b];rfl
 rw [e];exact ⟨Qfw b h2,Q6L h b h2⟩
theorem QdK:X.jns.length<=30:=by
 have:=Qe6 h (i:=X.L) (QlU _);have:=h.tl
 grind [jns,List.length_append,List.length_map]
structure JOK (X:Cx) (J:List Tup):Prop where
 at':∀ t∈J,t.1<X.N/\t.2.1<X.N/\0<=t.2.2.1/\t.2.2.1<=20000/\0<=t.2.2.2/\t.2.2.2<=20000
 len:J.length<=30
theorem QhN {J:List Tup} (hJ:X.JOK J) {per:Int} {t:Tup} (ht:t∈J) (K:Bool->oP R):Wa 400 per (Kb (X.occs X.L)) (t.1:Int) (t.2.1:Int) t.2.2.1 t.2.2.1 t.2.2.2 false K=K (Q8m per t.2.2.1 t.2.2.2 (X.occN t.1) (X.occN t.2.1)):=by
 have hj:=hJ.at' t ht;have oa:=Jz h hj.1;have ob:=Jz h hj.2.1;unfold Wa Q8m;rw [oa.1];simp -implicitDefEqProofs only [Q0,QlF,Qw,QlK];rw [<- Bool.false_or (List.any _ _),<- FU];refine Ft (r:=fun m i c=>Xj 400 ((X.occN t.1).map enc) (((X.occN t.1).length:Nat):Int) (t.2.1:Int) t.2.2.1 per (Kb (X.occs X.L)) t.2.2.1 t.2.2.2 (fun b d a=>K a) m i c) (E:=K) (fun m i q c e hi=>?_) (fun m c=>?_) (by omega) false
 ·have hq:=oa.2.1.mem q (QlJ e);rw [Xj,Q8 hi,cond_true,QJ e,ob.1];simp -implicitDefEqProofs only [Q0,Np,MX,LH,QlF,Qw,QlK,Ql (show i<=1000 by omega)];exact Qh6 (per:=per) ob.2.1 (by omega) ⟨hq.2.1,hq.2.2.1,hq.2.2.2.1⟩ hj.2.2.1 hj.2.2.2.1 hj.2.2.2.2.1 hj.2.2.2.2.2 (Kc:=fun c=>Xj 400 ((X.occN t.1).map enc) (((X.occN t.1).length:Nat):Int) (t.2.1:Int) t.2.2.1 per (Kb (X.occs X.L)) t.2.2.1 t.2.2.2 (fun b d a=>K a) m ((i+1:Nat):Int) c) (fun _ _ _=>rfl) c
 ·rw [Xj,Qi,QlH]
theorem QiZ {J:List Tup} (hJ:X.JOK J) {t:Tup} (ht:t∈J) (q:Int->Bool):∃ q',(∀ K:(Int->Bool)->oP R,Wc 400 (Kb (X.occs X.L)) (t.1:Int) (t.2.1:Int) t.2.2.1 q K=K q')/\∀ r,q' r=(q r||Q1g t.2.2.1 (X.occN t.1) (X.occN t.2.1) r):=by
 have hj:=hJ.at' t ht;have oa:=Jz h hj.1;have ob:=Jz h hj.2.1;refine ⟨(X.occN t.1).foldl (fun q x=>(X.occN t.2.1).foldl (fun c y=>bif tie t.2.2.1 x y then Q7x c x.1 true else c) q) q,fun K=>?_,fun r=>?_⟩
 ·unfold Wc;rw [oa.1];simp -implicitDefEqProofs only [Q0,QlF,Qw,QlK];refine Ft (r:=fun m i c=>Xk 400 ((X.occN t.1).map enc) (((X.occN t.1).length:Nat):Int) (t.2.1:Int) t.2.2.1 (Kb (X.occs X.L)) (fun b d a=>K a) m i c) (E:=K) (fun m i q c e hi=>?_) (fun m c=>?_) (by omega) q
  ·rw [Xk,Q8 hi,cond_true,QJ e,ob.1];simp -implicitDefEqProofs only [Q0,Np,MX,LH,QlF,Qw,QlK,Ql (show i<=1000 by omega)];exact map1 ob.2.1 (by omega) hj.2.2.1 hj.2.2.2.1 (Kc:=fun c=>Xk 400 ((X.occN t.1).map enc) (((X.occN t.1).length:Nat):Int) (t.2.1:Int) t.2.2.1 (Kb (X.occs X.L)) (fun b d a=>K a) m ((i+1:Nat):Int) c) (fun _ _ _=>rfl) c
  ·rw [Xk,Qi,QlH]
 ·unfold Q1g;generalize X.occN t.1=A;induction A generalizing q with
  |nil=>exact (Bool.or_false _).symm
  |cons x A ih=>rw [Qmh,ih,Qfu,List.any_cons,Bool.or_assoc]
def jab (a b:Nat) (t:Tup):Bool:=bif (bif (t.1:Int) == (a:Int) then (t.2.1:Int) == (b:Int) else false) then true else bif (t.1:Int) == (b:Int) then (t.2.1:Int) == (a:Int) else false
def TRb (X:Cx) (J:List Tup) (a b:Nat) (r:Int):Bool:=J.any fun t=>bif jab a b t then Q1g t.2.2.1 (X.occN t.1) (X.occN t.2.1) r else false
theorem QhQ {J:List Tup} (hJ:X.JOK J) {a b:Nat}:∃ q,(Y3 400 (Kb (X.occs X.L)) (J.map tuR) (a:Int) (b:Int) some:Option (Int->Bool))=some q/\∀ r,q r=X.TRb J a b r:=by
 have hl:=hJ.len;unfold Y3;rw [QlK];have go:∀ (ac:List Tup) (i m:Nat) (q:Int->Bool),J.drop i=ac->ac.length<m->∃ q',(Qu 400 (a:Int) (b:Int) (J.map tuR) ((J.length:Nat):Int) (Kb (X.occs X.L)) (fun n o j=>some j) m (i:Int) q:Option (Int->Bool))=some q'/\∀ r,q' r=(q r||X.TRb ac a b r):=by
  intro ac;induction ac with
  |nil=>
   intro i m q hd hm;obtain ⟨m,rfl⟩:∃ k,m=k+1:=⟨m-1,by simp at hm;omega⟩;have:=U4 hd;exact ⟨q,by rw [Qu,show decide ((i:Int)<((J.length:Nat):Int))=false by simpa using this,QlH],fun r=>(Bool.or_false _).symm⟩
  |cons t ac ih=>
   intro i m q hd hm;obtain ⟨m,rfl⟩:∃ k,m=k+1:=⟨m-1,by simp at hm;omega⟩;obtain ⟨e,ak,hi⟩:=Yb hd;obtain ⟨l,c,h2⟩:=QiZ (R:=Int->Bool) h hJ (QlJ e) q;rw [Qu,Q8 hi,cond_true,QJ e];simp -implicitDefEqProofs only [Q0,tuR,QlF,QlI,Q2,Ql (show i<=1000 by omega),c];show ∃ q',(bif jab a b t then _ else _)=some q'/\_;cases aj:jab a b t with
   |false=>
    obtain ⟨d,f,g⟩:=ih (i+1) m q ak (by simpa using hm);refine ⟨d,f,fun r=>?_⟩;rw [g,TRb,TRb,List.any_cons,aj,QlH,Bool.false_or]
   |true=>
    obtain ⟨d,f,g⟩:=ih (i+1) m l ak (by simpa using hm);refine ⟨d,f,fun r=>?_⟩;rw [g,h2,TRb,TRb,List.any_cons,aj,cond_true,Bool.or_assoc]
 obtain ⟨q,c,h2⟩:=go J 0 400 (fun _=>false) rfl (by omega);exact ⟨q,c,fun r=>by rw [h2,Bool.false_or]⟩
theorem Qai:∀ o∈X.occs X.L,OL (-1) o/\o.length<=6:=by
 intro o ho;obtain ⟨a,ha⟩:=List.getElem?_of_mem ho;have ac:=(QlV.1 ha).1;rw [show (X.occs X.L).length=X.N from ZE] at ac;obtain ⟨b,h2⟩:=(Jz h ac).2
 simp_all [occN,QlN]
def aloneJ (X:Cx) (per:Int) (J:List Tup):Bool:=bif (X.occs X.L).all (fun o=>o.all (So per)) then J.all fun t=>!Q8m per t.2.2.1 t.2.2.2 (X.occN t.1) (X.occN t.2.1) else false
theorem QeO {per:Int} (p0:1<=per) (p1:per<=300) {J:List Tup} (hJ:X.JOK J) (K:Bool->oP R):ZN 400 per (Kb (X.occs X.L)) (J.map tuR) K=K (X.aloneJ per J):=by
 have hN:(X.occs X.L).length<=6:=by rw [show (X.occs X.L).length=base X.nr X.L from ZE];exact base_le h
 have hl:=hJ.len;have hO:=Qai h;unfold ZN;rw [Jn,QlK];refine (TQ (r:=fun m i=>XB 400 (Kb (X.occs X.L)) (((X.occs X.L).length:Nat):Int) per (K false) (fun c d=>X9 400 (J.map tuR) ((J.length:Nat):Int) per (Kb (X.occs X.L)) (K false) (fun a b=>K true) 400 0) m i) (l:=X.occs X.L) (p:=fun o=>o.all (So per)) (E0:=K false) (E1:=bif J.all (fun t=>!Q8m per t.2.2.1 t.2.2.2 (X.occN t.1) (X.occN t.2.1)) then K true else K false) (fun m i o e hi=>?_) (fun m=>?_) (by omega)).trans ?_
 ·have ho:=hO o (QlJ e);have ac:Q1 (Kb (X.occs X.L)) (i:Int)=some [D.sl 3 (o.map enc)]:=QJ e;rw [XB,Q8 hi,cond_true,ac];simp -implicitDefEqProofs only [Q0,QlF,Qw,QfS p0 (show per<=7200 by omega) ho.1 (show o.length<=300 by omega),Ql (show i<=1000 by omega)];cases o.all (So per) <;> rfl
 ·rw [XB,Qi,QlH];refine TQ (r:=fun m i=>X9 400 (J.map tuR) ((J.length:Nat):Int) per (Kb (X.occs X.L)) (K false) (fun a b=>K true) m i) (fun m i t e hi=>?_) (fun m=>?_) (by omega)
  ·rw [X9,Q8 hi,cond_true,QJ e];simp -implicitDefEqProofs only [Q0,tuR,QlF,QlI,Q2,Ql (show i<=1000 by omega),QhN h hJ (QlJ e)];cases Q8m per t.2.2.1 t.2.2.2 (X.occN t.1) (X.occN t.2.1) <;> rfl
  ·rw [X9,Qi,QlH]
 ·unfold aloneJ;cases (X.occs X.L).all (fun o=>o.all (So per)) <;> cases J.all (fun t=>!Q8m per t.2.2.1 t.2.2.2 (X.occN t.1) (X.occN t.2.1)) <;> rfl
end Cx
namespace Cx
def aR (X:Cx) (i k:Nat):List D:=[Q4 1,Q4 ((2*(base X.nr i+k):Nat):Int),Q4 ((2*(base X.nr i+k)+1:Nat):Int),Q4 (X.run i k),Q4 (X.run i k+X.ex i k),Q4 (X.w i)]
def aD (X:Cx) (i k:Nat):List D:=[Q4 2,Q4 ((2*(base X.nr i+k)+1:Nat):Int),Q4 ((2*(base X.nr i+k+1):Nat):Int),Q4 (X.mn i k),Q4 (X.mx i k),Q4 (X.w i)]
def pl (X:Cx) (i:Nat):Nat->LL
 |0=>[]
 |k+1=>pl X i k++[X.aR i k]++(if k<X.nr i-1 then [X.aD i k] else [])
def pls (X:Cx):Nat->LL
 |0=>[]
 |i+1=>pls X i++X.pl i (X.nr i)
def chE (X:Cx) (row:List D):List D:=match row with
 |[.int _ f,.int _ fr,.int _ t,.int _ tr,mn,mx,w]=>[Q4 3,Q4 ((2*(base X.nr f.toNat+fr.toNat)+1:Nat):Int),Q4 ((2*(base X.nr t.toNat+tr.toNat):Nat):Int),mn,mx,w]
 |_=>[]
def tuE (X:Cx) (t:Tup):List D:=[Q4 4,Q4 ((2*(base X.nr t.1+(X.nr t.1-1))+1:Nat):Int),Q4 ((2*(base X.nr t.2.1+0):Nat):Int),Q4 t.2.2.1,Q4 t.2.2.2,Q4 1]
def syE (X:Cx) (row:List D):List D:=match row with
 |[_,_,_,_,o]=>[Q4 5,Q4 ((2*(base X.nr 0+0):Nat):Int),Q4 ((2*(base X.nr 1+0):Nat):Int),o,o,Q4 0]
 |_=>[]
def planned (X:Cx) (Ch Sy:LL):LL:=X.pls X.L++Ch.map X.chE++X.T.map X.tuE++Sy.map X.syE
variable {R:Type} {n:Nat} {X:Cx}
theorem Q7t {i:Nat}:∀ {k:Nat},(X.pl i k).length<=2*k
 |0=>QlU _
 |k+1=>by
  have:=Q7t (i:=i) (k:=k);rw [pl,List.length_append,List.length_append];split <;> simp <;> omega
theorem AK:∀ {i:Nat},(X.pls i).length<=2*base X.nr i
 |0=>QlU _
 |i+1=>by
  have:=AK (i:=i);have:=Q7t (X:=X) (i:=i) (k:=X.nr i);rw [pls,List.length_append,base];omega
structure LsOK (X:Cx) (per:Int) (Ch Sy:LL):Prop where
 ch:∀ row∈Ch,∃ (f fr t tr:Nat) (mn mx w:Int),row=[Q4 f,Q4 fr,Q4 t,Q4 tr,Q4 mn,Q4 mx,Q4 w]/\f<X.Ls.length/\fr<X.nr f/\t<X.Ls.length/\tr<X.nr t/\(0<=mn/\mn<20/\mn<=mx/\mx<mn+per)/\0<=w/\w<3
 chl:Ch.length<=2
 sy:∀ row∈Sy,∃ o:Int,row=[Q4 0,Q4 0,Q4 1,Q4 0,Q4 o]/\0<=o/\o<per/\2<=X.Ls.length
 syl:Sy.length<=1
variable (h:X.OK) {per:Int} {Ch Sy De:LL} (hl:X.LsOK per Ch Sy)
theorem Qep {A:LL} (hA:A.length<=1000) {a1 a2 a b c d:Int} (K:LL->oP R):Xd n A a1 a2 a b c d K=K (A++[[Q4 a1,Q4 a2,Q4 a,Q4 b,Q4 c,Q4 d]]):=by
 grind [Xd,Xr,Q0]
include h
theorem Qhg {i:Nat} (hi:i<X.Ls.length) {k0:Int->Bool->LL->oP R}:Qt 400 (i:Int) (Gr X.Ls i) ((X.nr i:Nat):Int) (Q4 (X.w i)) (D.sl 4 (Gr X.Ls i)) (X.fst X.L) (encI (X.runs X.L)) k0 400 0 (X.pls i)=k0 ((X.nr i:Nat):Int) false (X.pls i++X.pl i (X.nr i)):=by
 have hn:=(Jv h hi).2.1;have hb:=XS h (i:=i) (by omega);have hp:=AK (X:=X) (i:=i);have hw:wJ (((List.length (Gr X.Ls i):Nat):Int)-1)=((X.nr i-1:Nat):Int):=Jy (k:=X.nr i) (by omega) (by omega);refine Qm (r:=fun m k=>Qt 400 (i:Int) (Gr X.Ls i) ((X.nr i:Nat):Int) (Q4 (X.w i)) (D.sl 4 (Gr X.Ls i)) (X.fst X.L) (encI (X.runs X.L)) k0 m k (X.pls i++X.pl i k.toNat)) (N:=X.nr i) (fun m k hk=>?_) (fun m=>?_) (X.nr i) 400 0 (by omega) (by omega) |> Qmg (by simp [pl])
 ·simp only [QlG];have r:=rd h hi hk;have b:=r.ex0;have e1:=r.ex1;have hr:=PN h hi hk;have ac:Q1 (Gr X.Ls i) (k:Int)=some [Q4 (rF X.Ls i k 0),Q4 (X.ex i k),Q4 (X.mn i k),Q4 (X.mx i k)]:=by rw [Q9,r.row]
  have ak:=Q7t (X:=X) (i:=i) (k:=k);have aj:=Q6w (X:=X) hi hk;rw [Qt,Q8 hk,cond_true,ac];simp -implicitDefEqProofs only [Q0,QlF,QlI,Q2,Qw,hw,Q12 (n:=400) h hi (show k<=10 by omega),aj,Ql (show k<=1000 by omega),QcE (n:=400) (show base X.nr i+k<=1000 by omega),Qhb (n:=400) (show base X.nr i+k<=1000 by omega),Ql (show base X.nr i+k<=1000 by omega),QcE (n:=400) (show base X.nr i+k+1<=1000 by omega),Q6 (x:=X.run i k+X.ex i k) (by omega) (by omega),Qep (n:=400) (A:=X.pls i++X.pl i k) (by simp;omega),Qep (n:=400) (A:=X.pls i++X.pl i k++[[Q4 1,Q4 ((2*(base X.nr i+k):Nat):Int),Q4 ((2*(base X.nr i+k)+1:Nat):Int),Q4 (X.run i k),Q4 (X.run i k+X.ex i k),Q4 (X.w i)]]) (by simp;omega)];by_cases a:k<X.nr i-1
  ·rw [Q8 a,cond_true,pl,if_pos a,<- QlO,<- QlO];rfl
  ·rw [show decide ((k:Int)<((X.nr i-1:Nat):Int))=false from decide_eq_false (by omega),QlH,pl,Qmd a,Qm2,<- QlO];rfl
 ·simp only [QlG];rw [Qt,Qi,QlH]
include hl
theorem Qb4 (K:LL->oP R):Ys 400 X.Ls Ch (X.T.map tuR) Sy (X.fst X.L) (encI (X.runs X.L)) [] K=K (X.planned Ch Sy):=by
 have l1:=h.l1;have tl:=h.tl;have hp:=AK (X:=X) (i:=X.L);have hb:=base_le h;have chl:=hl.chl;have syl:=hl.syl;unfold Ys;have s2:∀ k0:Int->Bool->LL->oP R,QC 400 X.Ls ((X.Ls.length:Nat):Int) (X.fst X.L) (encI (X.runs X.L)) k0 400 0 []=k0 ((X.Ls.length:Nat):Int) false (X.pls X.L):=by
  intro k0;refine Qm (r:=fun m i=>QC 400 X.Ls ((X.Ls.length:Nat):Int) (X.fst X.L) (encI (X.runs X.L)) k0 m i (X.pls i.toNat)) (N:=X.Ls.length) (fun m i hi=>?_) (fun m=>?_) X.Ls.length 400 0 (by omega) (by omega)
  ·simp only [QlG];rw [QC,Q8 hi,cond_true,Q9,(Jv h hi).1];simp -implicitDefEqProofs only [Q0,QlF,QlI,Qw,Ql (show i<=1000 by omega)];exact Qhg h hi
  ·simp only [QlG];rw [QC,Qi,QlH];rfl
 have k:∀ k0:Int->Bool->LL->oP R,QE 400 Ch ((Ch.length:Nat):Int) (X.fst X.L) k0 400 0 (X.pls X.L)=k0 ((Ch.length:Nat):Int) false (X.pls X.L++Ch.map X.chE):=by
  intro k0;refine Qm (r:=fun m j=>QE 400 Ch ((Ch.length:Nat):Int) (X.fst X.L) k0 m j (X.pls X.L++(Ch.take j.toNat).map X.chE)) (N:=Ch.length) (fun m j hj=>?_) (fun m=>?_) Ch.length 400 0 (by omega) (by omega) |> Qmg (by simp)
  ·simp only [QlG];obtain ⟨row,e⟩:∃ q,Ch[j]? = some q:=⟨Ch[j],QlL hj⟩;obtain ⟨f,fr,t,tr,mn,mx,w,rfl,g1,l,c,v,x,y⟩:=hl.ch row (QlJ e);have nf:=(Jv h g1).2.1;have nt:=(Jv h c).2.1;have bf:=XS h (i:=f) (by omega);have bt:=XS h (i:=t) (by omega);rw [QE,Q8 hj,cond_true,Q9,e,Yn e,QlP,<- QlO];simp -implicitDefEqProofs only [Q0,QlF,QlI,Q2,Q12 (n:=400) h g1 (show fr<=10 by omega),Q12 (n:=400) h c (show tr<=10 by omega),Ql (show j<=1000 by omega),Qhb (n:=400) (show base X.nr f+fr<=1000 by omega),QcE (n:=400) (show base X.nr t+tr<=1000 by omega),Qep (n:=400) (A:=X.pls X.L++(Ch.take j).map X.chE) (by simp;omega)];rfl
  ·simp only [QlG];rw [QE,Qi,QlH,QlX]
 have p:∀ k0:Int->Bool->LL->oP R,QD 400 (X.T.map tuR) ((X.T.length:Nat):Int) (X.fst X.L) X.Ls k0 400 0 (X.pls X.L++Ch.map X.chE)=k0 ((X.T.length:Nat):Int) false (X.pls X.L++Ch.map X.chE++X.T.map X.tuE):=by
  intro k0;refine Qm (r:=fun m j=>QD 400 (X.T.map tuR) ((X.T.length:Nat):Int) (X.fst X.L) X.Ls k0 m j (X.pls X.L++Ch.map X.chE++(X.T.take j.toNat).map X.tuE)) (N:=X.T.length) (fun m j hj=>?_) (fun m=>?_) X.T.length 400 0 (by omega) (by omega) |> Qmg (by simp)
  ·simp only [QlG];obtain ⟨⟨a,b,lo,hi⟩,e⟩:∃ q,X.T[j]? = some q:=⟨X.T[j],QlL hj⟩;have ht:=h.tr _ (QlJ e);have g1:a<X.Ls.length:=ht.1;have c:b<X.Ls.length:=ht.2.1;have nf:=(Jv h g1).2.1;have bf:=XS h (i:=a) (by omega);have bt:=XS h (i:=b) (by omega);have ac:Q1 (X.T.map tuR) (j:Int)=some [Q4 a,Q4 b,Q4 lo,Q4 hi]:=QJ e;have s:X.pls X.L++Ch.map X.chE++(X.T.take (j+1)).map X.tuE=X.pls X.L++Ch.map X.chE++(X.T.take j).map X.tuE++[X.tuE (a,b,lo,hi)]:=by rw [Yn e,QlP,<- QlO];rfl
   have d:=Q12 (R:=Int) (n:=400) h c (Qmk 10) some;rw [show ((0:Nat):Int)=0 from rfl] at d;rw [QD,Q8 hj,cond_true,ac,s];simp -implicitDefEqProofs only [Q0,QlF,QlI,Q2,Qf4 (n:=400) h g1,d,Ql (show j<=1000 by omega),Qhb (n:=400) (show base X.nr a+(X.nr a-1)<=1000 by omega),QcE (n:=400) (show base X.nr b+0<=1000 by omega),Qep (n:=400) (A:=X.pls X.L++Ch.map X.chE++(X.T.take j).map X.tuE) (by simp;omega)];rfl
  ·simp only [QlG];rw [QD,Qi,QlH,QlX]
 have u:∀ k0:Int->Bool->LL->oP R,QF 400 Sy ((Sy.length:Nat):Int) (X.fst X.L) k0 400 0 (X.pls X.L++Ch.map X.chE++X.T.map X.tuE)=k0 ((Sy.length:Nat):Int) false (X.planned Ch Sy):=by
  intro k0;refine Qm (r:=fun m j=>QF 400 Sy ((Sy.length:Nat):Int) (X.fst X.L) k0 m j (X.pls X.L++Ch.map X.chE++X.T.map X.tuE++(Sy.take j.toNat).map X.syE)) (N:=Sy.length) (fun m j hj=>?_) (fun m=>?_) Sy.length 400 0 (by omega) (by omega) |> Qmg (by simp)
  ·simp only [QlG];obtain ⟨row,e⟩:∃ q,Sy[j]? = some q:=⟨Sy[j],QlL hj⟩;obtain ⟨o,rfl,g1,l,c⟩:=hl.sy row (QlJ e);have bt:=XS h (i:=1) (by omega);have d:=Q12 (R:=Int) (n:=400) h (show 0<X.Ls.length by omega) (Qmk 10) some;have g:=Q12 (R:=Int) (n:=400) h (show 1<X.Ls.length by omega) (Qmk 10) some;simp only [show ((0:Nat):Int)=0 from rfl,show ((1:Nat):Int)=1 from rfl] at d g;rw [QF,Q8 hj,cond_true,Q9,e,Yn e,QlP,<- QlO];simp -implicitDefEqProofs only [Q0,QlF,QlI,Q2,d,g,Ql (show j<=1000 by omega),QcE (n:=400) (show base X.nr 0+0<=1000 by simp [base]),QcE (n:=400) (show base X.nr 1+0<=1000 by omega),Qep (n:=400) (A:=X.pls X.L++Ch.map X.chE++X.T.map X.tuE++(Sy.take j).map X.syE) (by simp;omega)];rfl
  ·simp only [QlG];rw [QF,Qi,QlH,QlX];rfl
 rw [s2,k,QlK,p,u]
end Cx
theorem OL.uniq:∀ {l:Int} {O:List Occ},OL l O->∀ {p q:Occ},p∈O->q∈O->p.1=q.1->p=q
 |_,[],_,_,_,h,_,_=>nomatch h
 |l,(x,a,b)::r,⟨d,h2,f,g,i,c⟩,p,q,hp,hq,e=>by
  cases hp with
  |head=>
   cases hq with
   |head=>rfl
   |tail _ hq=>have:=(c.mem q hq).1;dsimp only at e;omega
  |tail _ hp=>
   cases hq with
   |head=>have:=(c.mem p hp).1;dsimp only at e;omega
   |tail _ hq=>exact c.uniq hp hq e
theorem QcJ {t:Int} {A A' B:List Occ} {y:Int}:FB t (A++A') B y↔FB t A B y\/FB t A' B y:=by
 constructor
 ·rintro ⟨x,a,b,c,d,e,h2,f⟩;rcases QlQ.1 e with e | e
  ·exact .inl ⟨x,a,b,c,d,e,h2,f⟩
  ·exact .inr ⟨x,a,b,c,d,e,h2,f⟩
 ·rintro (⟨x,a,b,c,d,e,h2,f⟩ | ⟨x,a,b,c,d,e,h2,f⟩)
  ·exact ⟨x,a,b,c,d,Qm0 _ e,h2,f⟩
  ·exact ⟨x,a,b,c,d,Qm3 _ e,h2,f⟩
def EA (f:Nat->Bool) (n:Nat):LL:=(List.range n).map fun i=>[D.bool (f i)]
theorem Q77 {f:Nat->Bool} {n:Nat}:(EA f n).length=n:=by simp [EA]
theorem Dy {f:Nat->Bool} {n i:Nat} (h:i<n):(EA f n)[i]? = some [D.bool (f i)]:=by simp [EA,h]
theorem Qbo {f g:Nat->Bool} {n i:Nat} (h:∀ y,y<n->g y=if y=i then true else f y):(EA f n).set i [D.bool true]=EA g n:=by
 apply List.ext_getElem?;intro j
 grind [Dy,List.getElem?_eq_none,Q77]
section
variable {R:Type} {n:Nat} {t:Int}
theorem Q6o {O:List Occ} (hl:O.length<=1000) {k0:oP R} {k1:Int->Bool->oP R} {E:oP R} (hk:∀ b c,k1 b c=E):∀ (ac:List Occ) (i m:Nat) (last:Int),O.drop i=ac->ac.length<m -> -1<=last->OL last ac->(0<i->∃ a b,O[i-1]? = some (last,a,b))->Z4 n (O.map enc) k0 k1 m (i:Int)=E
 |[],i,m+1,last,hd,_,_,_,_=>by
  have:=U4 hd;rw [Z4,QlK,show decide ((i:Int)<((O.length:Nat):Int))=false by simpa using this,QlH,hk]
 |(x,a,b)::ac,i,m+1,last,hd,hm,an,⟨g,h2,h,j,k,d⟩,hp=>by
  obtain ⟨e,aj,hi⟩:=Yb hd;have ih:=Q6o (k0:=k0) hl hk ac (i+1) m x aj (by simpa using hm) (by omega) d (fun _=>⟨a,b,e⟩);rw [Z4,QlK,Q8 hi,cond_true,QJ e];simp -implicitDefEqProofs only [Q0,Np,MX,LH,Q2,show decide (x<0)=false from decide_eq_false (by omega),Qm9,Bool.true_and,QlH,Ql (show i<=1000 by omega)];have rest:∀ z:Bool,z=false->(bif bif bif bif z then true else decide (a<(-65536:Int)) then true else decide (b>(65536:Int)) then true else decide (a>=b) then k0 else Z4 n (O.map enc) k0 k1 m ((i+1:Nat):Int))=E:=fun z hz=>by
   rw [hz,show decide (a < -65536)=false from decide_eq_false (by omega),show decide (b>65536)=false from decide_eq_false (by omega),show decide (a>=b)=false from decide_eq_false (by omega)];exact ih
  by_cases f:i=0
  ·subst f;simp -implicitDefEqProofs only [show decide (((0:Nat):Int)>0)=false from rfl,gbF,QlH];exact rest false rfl
  ·obtain ⟨a',b',e'⟩:=hp (by omega);rw [Jy (show i<=1000 by omega) (by omega),QJ e'];simp -implicitDefEqProofs only [Q0,Np,Q2,show decide ((i:Int)>0)=true from QlM (by omega),cond_true];exact rest _ (decide_eq_false (by omega))
theorem Q9M {O:List Occ} (hl:O.length<=300) (h:OL (-1) O):JP 400 (O.map enc) (some:Bool->Option Bool)=some true:=by
 exact Q6o (by omega) (fun _ _=>rfl) O 0 400 (-1) rfl (by omega) (by omega) h (fun h=>by omega)
theorem Q97 {O:List Occ} (hl:O.length<=1000) {x:Int} {K:D->D->D->Bool->oP R} {k0:D->D->D->oP R} {k1:Int->Bool->oP R} (g:∀ a b c,k0 a b c=K a b c true) (h:∀ a b,k1 a b=K (Q4 0) (Q4 0) (Q4 0) false):∀ (ac:List Occ) (i m:Nat),O.drop i=ac->ac.length<m->(∃ c d,(x,c,d)∈ac/\UB n (O.map enc) x k0 k1 m (i:Int)=K (Q4 x) (Q4 c) (Q4 d) true)\/((∀ p∈ac,p.1≠x)/\UB n (O.map enc) x k0 k1 m (i:Int)=K (Q4 0) (Q4 0) (Q4 0) false)
 |[],i,m+1,hd,_=>by
  have:=U4 hd;refine .inr ⟨fun p hp=>(nomatch hp),?_⟩;rw [UB,QlK,show decide ((i:Int)<((O.length:Nat):Int))=false by simpa using this,QlH,h]
 |(x',a,b)::ac,i,m+1,hd,hm=>by
  obtain ⟨e,aj,hi⟩:=Yb hd;rw [UB,QlK,Q8 hi,cond_true,QJ e];simp -implicitDefEqProofs only [Q0,Np,MX,LH,Q2,Ql (show i<=1000 by omega),g];by_cases hx:x'=x
  ·subst hx;exact .inl ⟨a,b,.head _,by rw [show (x' == x')=true by simp,cond_true]⟩
  ·rw [show (x' == x)=false by simpa using hx,QlH];rcases Q97 hl g h ac (i+1) m aj (by simpa using hm) with ⟨c,d,f,h2⟩ | ⟨f,h2⟩
   ·exact .inl ⟨c,d,.tail _ f,h2⟩
   ·refine .inr ⟨fun p hp=>?_,h2⟩;cases hp with
    |head=>exact hx
    |tail _ hp=>exact f p hp
theorem Qft {f k y:Int} (a:1<=t) (hy:0<=y) (ac:y<t) (hk:0<=k) (aj:k<t):y=(f+k) % t↔(y-f) % t=k:=by
 constructor
 ·intro h;rw [h,Int.sub_emod,Int.emod_emod,<- Int.sub_emod,show f+k-f=k by omega];exact Qm8 hk aj
 ·intro h;rw [<- h,Int.add_emod,Int.emod_emod,<- Int.add_emod,show f+(y-f)=y by omega];exact (Qm8 hy ac).symm
theorem Qed (c:1<=t) (o:t<=300) {K:LL->oP R} {k0:Int->Bool->LL->oP R} (hk:∀ a b w,k0 a b w=K w) {A:List Occ} {i:Nat} {x a b d nn:Int} (e:A[i]? = some (x,a,b)) (ha : -1000<=a) (ar:a<=20000) (hd : -1000<=d) (aq:d<=20000) {f:Nat->Bool} :
  ∃ g:Nat->Bool,Ze n t (A.map enc) (i:Int) nn (Q4 d) k0 400 0 (EA f t.toNat)=K (EA g t.toNat)/\∀ y,y<t.toNat->(g y=true↔f y=true\/((y:Int)-(a-d+1)) % t<nn):=by
 let N:Nat:=(if nn<t then nn else t).toNat;have hN:(N:Int)=if nn<0 then 0 else if nn<t then nn else t:=by
  show (((if nn<t then nn else t).toNat:Nat):Int)=_;split <;> split <;> omega
 have aj:(N:Int)<=t:=by rw [hN];split <;> (try split) <;> omega
 have ao:(N:Int)<=nn\/N=0:=by
  by_cases h:nn<0
  ·rw [if_pos h] at hN;right;omega
  ·rw [Qmd h] at hN;left;rw [hN];split <;> omega
 refine ⟨fun y=>f y||decide (((y:Int)-(a-d+1)) % t<(N:Int)),?_,fun y hy=>?_⟩
 ·have j:EA f t.toNat=EA (fun y=>f y||decide (((y:Int)-(a-d+1)) % t<((0:Nat):Int))) t.toNat:=by
   unfold EA;apply List.map_congr_left;intro y _;have:=QlZ ((y:Int)-(a-d+1)) (show t≠0 by omega);show [D.bool (f y)]=[D.bool (f y||decide (((y:Int)-(a-d+1)) % t<((0:Nat):Int)))];rw [show decide (((y:Int)-(a-d+1)) % t<((0:Nat):Int))=false from decide_eq_false (by omega),Bool.or_false]
  rw [j];refine Qm (r:=fun m k=>Ze n t (A.map enc) (i:Int) nn (Q4 d) k0 m k (EA (fun y=>f y||decide (((y:Int)-(a-d+1)) % t<k)) t.toNat)) (N:=N) (fun m k ak=>?_) (fun m=>?_) N 400 0 (by omega) (by omega)
  ·have l:=QlZ (a-d+1+(k:Int)) (show t≠0 by omega);have p:=QlY (a-d+1+(k:Int)) (show 0<t by omega);rw [Ze,show decide ((k:Int)<nn)=true from QlM (by omega),show decide ((k:Int)<t)=true from QlM (by omega),cond_true,cond_true,QJ e];simp -implicitDefEqProofs only [Q0,MX,Q2,Q6 (x:=a-d) (by omega) (by omega),Q6 (x:=a-d+1) (by omega) (by omega),Q6 (x:=a-d+1+(k:Int)) (by omega) (by omega),QgA (n:=n) (x:=a-d+1+(k:Int)) c (show t<=7200 by omega) (by omega) (by omega),Q77,Y0 (len:=t.toNat) l (by omega),Dy (f:=fun y=>f y||decide (((y:Int)-(a-d+1)) % t<(k:Int))) (n:=t.toNat) (i:=((a-d+1+(k:Int)) % t).toNat) (by omega),Qm4];rw [Qbo (g:=fun y=>f y||decide (((y:Int)-(a-d+1)) % t<((k+1:Nat):Int))) (fun y hy=>?_),Q6 (by omega) (by omega)]
   ·rfl
   ·have hd:=Qft (t:=t) (f:=a-d+1) (k:=k) (y:=y) c (by omega) (by omega) (by omega) (by omega);by_cases ac:y=((a-d+1+(k:Int)) % t).toNat
    ·rw [if_pos ac,show decide (((y:Int)-(a-d+1)) % t<((k+1:Nat):Int))=true from QlM (by have:=hd.1 (by omega);omega),Bool.or_true]
    ·rw [Qmd ac];congr 1;rw [decide_eq_decide];have:¬ ((y:Int)-(a-d+1)) % t=(k:Int):=fun h=>ac (by have:=hd.2 h;omega)
     omega
  ·rw [Ze];rw [show (bif decide ((N:Int)<nn) then decide ((N:Int)<t) else false)=false by
    by_cases h:(N:Int)<nn
    ·rw [QlM h,cond_true];exact decide_eq_false (by rw [hN];split <;> (try split) <;> omega)
    ·rw [decide_eq_false h,QlH],QlH,hk]
 ·have q:=QlZ ((y:Int)-(a-d+1)) (show t≠0 by omega);have s:=QlY ((y:Int)-(a-d+1)) (show 0<t by omega);rw [Bool.or_eq_true,decide_eq_true_eq];refine or_congr_right ?_;rw [hN];split <;> (try split) <;> omega
theorem Q1W (o:1<=t) (p:t<=300) {K:LL->oP R} {k0:Int->Bool->LL->oP R} (hk:∀ a b w,k0 a b w=K w) {A B:List Occ} (hA:OL (-1) A) (hB:OL (-1) B) (lA:A.length<=100) (lB:B.length<=300):∀ (ac P:List Occ) (m:Nat) (f:Nat->Bool),A=P++ac->ac.length<m->(∀ y,y<t.toNat->(f y=true↔FB t P B y)) ->
  ∃ g:Nat->Bool,Y9 400 t (A.map enc) (B.map enc) k0 m ((P.length:Nat):Int) (EA f t.toNat)=K (EA g t.toNat)/\∀ y,y<t.toNat->(g y=true↔FB t A B y)
 |[],P,m+1,f,hP,_,hf=>by
  rw [Qm2] at hP;subst hP;refine ⟨f,?_,hf⟩;rw [Y9,QlK,Qi,QlH,hk]
 |(x,a,b)::ac,P,m+1,f,hP,hm,hf=>by
  have e:A[P.length]? = some (x,a,b):=by rw [hP,List.getElem?_append_right (QlU _),Nat.sub_self];rfl
  have hi:P.length<A.length:=by rw [hP];simp
  have hq:=hA.mem (x,a,b) (QlJ e);dsimp only at hq;have ak:A=(P++[(x,a,b)])++ac:=by rw [hP];simp
  have aj:=Q97 (n:=400) (O:=B) (x:=x) (K:=fun i j k z=>(some (i,j,k,z):Option (D × D × D × Bool))) (k0:=fun i j k=>some (i,j,k,true)) (k1:=fun _ _=>some (Q4 0,Q4 0,Q4 0,false)) (by omega) (fun _ _ _=>rfl) (fun _ _=>rfl) B 0 400 rfl (by omega);rw [Y9,QlK,Q8 hi,cond_true,QJ e];simp -implicitDefEqProofs only [Q0,Np,MX,LH,Q2];unfold Ak;have nx:wJ ((P.length:Int)+1)=(((P++[(x,a,b)]).length:Nat):Int):=by rw [Q6 (by omega) (by omega)];simp
  rw [nx];rcases aj with ⟨c,d,g1,q⟩ | ⟨g1,q⟩
  ·have u:=hB.mem (x,c,d) g1;dsimp only at u;rw [show UB 400 (B.map enc) x (fun i j k=>(some (i,j,k,true):Option (D × D × D × Bool))) (fun v aa=>some (D.int .i64 (0:Int),D.int .i64 (0:Int),D.int .i64 (0:Int),false)) 400 0=some (Q4 x,Q4 c,Q4 d,true) from q];simp -implicitDefEqProofs only [Q0,QlW,QlH,Q2];have aq:wJ (wJ (wJ (wJ (b-a)+d)-c)-1)=b-a+d-c-1:=by
    rw [Q6 (x:=b-a) (by omega) (by omega),Q6 (x:=b-a+d) (by omega) (by omega),Q6 (x:=b-a+d-c) (by omega) (by omega),Q6 (by omega) (by omega)]
   rw [aq];obtain ⟨g,k1,k2⟩:=Qed (n:=400) (nn:=b-a+d-c-1) o p (K:=fun w=>Y9 400 t (A.map enc) (B.map enc) k0 m (((P++[(x,a,b)]).length:Nat):Int) w) (k0:=fun _ _ w=>Y9 400 t (A.map enc) (B.map enc) k0 m (((P++[(x,a,b)]).length:Nat):Int) w) (fun _ _ _=>rfl) (f:=f) e (d:=d) (by omega) (by omega) (by omega) (by omega);rw [k1];refine Q1W o p hk hA hB lA lB ac _ m g ak (by simpa using hm) (fun y hy=>?_);rw [k2 y hy,QcJ,hf y hy];refine or_congr_right ⟨fun h=>⟨x,a,b,c,d,.head _,g1,h⟩,?_⟩;rintro ⟨x',a',b',c',d',l,r,s⟩;cases l with
   |head=>
    cases hB.uniq r g1 rfl;exact s
   |tail _ l=>nomatch l
  ·rw [show UB 400 (B.map enc) x (fun i j k=>(some (i,j,k,true):Option (D × D × D × Bool))) (fun v aa=>some (D.int .i64 (0:Int),D.int .i64 (0:Int),D.int .i64 (0:Int),false)) 400 0=some (Q4 0,Q4 0,Q4 0,false) from q];simp -implicitDefEqProofs only [Q0,Qm9,cond_true];refine Q1W o p hk hA hB lA lB ac _ m f ak (by simpa using hm) (fun y hy=>?_);rw [QcJ,hf y hy];refine ⟨.inl,fun h=>h.elim id ?_⟩;rintro ⟨x',a',b',c',d',l,r,s⟩;cases l with
   |head=>exact (g1 _ r rfl).elim
   |tail _ l=>nomatch l
theorem VS.lastlt {t c d:Int}:∀ {l:Int} {M:List Sp2},VS t l (M++[(c,d)])->(∀ q∈M,q.2<c)/\c<d/\d<=t
 |l,[],⟨g,h2,f,_⟩=>⟨fun q hq=>(nomatch hq),h2,f⟩
 |l,(a,b)::M,⟨g,h2,f,e⟩=>by
  have ih:=e.lastlt;refine ⟨fun q hq=>?_,ih.2⟩;cases hq with
  |head=>
   cases M with
   |nil=>exact e.1
   |cons p M=>have:=ih.1 p (.head _);have:=e.1;have:=e.2.1;dsimp only at *;omega
  |tail _ hq=>exact ih.1 q hq
theorem VS.pw {t:Int}:∀ {l:Int} {F:List Sp2},VS t l F->F.Pairwise fun p q=>p.2<q.1
 |_,[],_=>.nil
 |l,(a,b)::r,⟨d,h2,e,c⟩=>.cons (fun q hq=>(c.rng q hq).1) c.pw
theorem VS.sep {t:Int}:∀ {l:Int} {F:List Sp2},VS t l F->∀ p∈F,∀ q∈F,p=q\/p.2<q.1\/q.2<p.1
 |_,[],_,p,hp,_,_=>nomatch hp
 |l,(a,b)::r,⟨d,h2,e,c⟩,p,hp,q,hq=>by
  have hr:=c.rng;cases hp with
  |head=>
   cases hq with
   |head=>exact .inl rfl
   |tail _ hq=>exact .inr (.inl (hr q hq).1)
  |tail _ hp=>
   cases hq with
   |head=>exact .inr (.inr (hr p hp).1)
   |tail _ hq=>exact c.sep p hp q hq
structure GP (t:Int) (F G:List Sp2):Prop where
 asc:G.Pairwise fun p q=>p.1<q.1
 rng:∀ q∈G,0<=q.1/\q.1<t/\q.1<q.2/\q.2<q.1+t
 ins:∀ q∈G,∀ z,q.1<=z->z<q.2->InS (z % t) F
 out:∀ q∈G,¬ InS (q.2 % t) F
 st:∀ x,0<=x->x<t->((InS x F/\¬ InS ((x-1) % t) F)↔∃ q∈G,q.1=x)
theorem QaO {z t:Int} (a:0<=z) (b:z<t):z % t=z:=Qm8 a b
theorem QiB {z t:Int} (a:t<=z) (b:z<t+t):z % t=z-t:=by
 rw [<- Qm8 (show 0<=z-t by omega) (show z-t<t by omega),Int.sub_emod_right]
theorem Qip {t:Int} (h:1<=t):(-1:Int) % t=t-1:=by
 rw [<- Qm8 (show 0<=t-1 by omega) (show t-1<t by omega),show t-1 = -1+t by omega,Int.add_emod_right]
theorem WR.gp {t:Int} {F G:List Sp2} (l:1<=t) (hv:VS t (-1) F) (hc:cnt F≠t) (hw:WR t F G):GP t F G:=by
 have hr:=hv.rng;have hs:=hv.sep;have a2:=hv.cnt (by omega);have az:=Qax hv (by omega);have gap:∀ q∈F,¬ InS q.2 F:=fun q hq ⟨p,hp,h⟩=>by
  grind
 have aj:∀ q∈F,¬ InS (q.1-1) F:=fun q hq ⟨p,hp,h⟩=>by
  grind
 have ac:∀ q∈F,q.2-q.1<t:=fun q hq=>by
  have:=az q hq;have:=a2.2.2 (List.length_pos_of_mem hq);omega
 have ak:∀ x,0<=x->x<t->InS x F->¬ InS ((x-1) % t) F->∃ q∈F,q.1=x:=fun x i j ⟨q,hq,h⟩ hn=>by
  have:=hr q hq;by_cases hx:q.1=x
  ·exact ⟨q,hq,hx⟩
  ·exact (hn ⟨q,hq,by rw [QaO (by omega) (by omega)];omega,by rw [QaO (by omega) (by omega)];omega⟩).elim
 rcases hw with ⟨rfl,hw⟩ | ⟨b,M,c,rfl,rfl⟩
 ·have ar:∀ p∈G,∀ q∈G,p.1=0->q.2=t->False:=fun p hp q hq o h2=>by
   have ax:p≠q:=fun e=>by have:=ac p hp;rw [<- e] at h2;omega
   rcases G with _ | ⟨⟨a,b⟩,G⟩
   ·nomatch hp
   obtain ⟨r,s,u,f⟩:=id hv;have an:=f.rng;have a3:p=(a,b):=by
    cases hp with
    |head=>rfl
    |tail _ hp=>have:=an p hp;omega
   subst a3;obtain rfl:a=0:=o;rcases List.eq_nil_or_concat G with rfl | ⟨M,⟨c,d⟩,rfl⟩
   ·cases hq with
    |head=>exact ax rfl
    |tail _ hq=>nomatch hq
   ·rw [List.concat_eq_append] at *
    have hl:=f.lastlt;cases hq with
    |head=>exact ax rfl
    |tail _ hq=>
     rcases QlQ.1 hq with hq | hq
     ·have:=hl.1 q hq;omega
     ·obtain rfl:=QlT.1 hq;obtain rfl:d=t:=h2;exact hw b M c rfl
  refine ⟨hv.pw.imp_of_mem fun {p q} hp hq h=>by have:=hr p hp;omega,fun q hq=>by have:=hr q hq;have:=ac q hq;omega,fun q hq z g k=>?_,fun q hq=>?_,fun x i j=>⟨fun h=>ak x i j h.1 h.2,?_⟩⟩
  ·have:=hr q hq;rw [QaO (by omega) (by omega)];exact ⟨q,hq,g,k⟩
  ·have:=hr q hq;by_cases m:q.2=t
   ·rw [m,Int.emod_self];rintro ⟨p,hp,h⟩;have:=hr p hp;exact ar p hp q hq (by omega) m
   ·rw [QaO (by omega) (by omega)];exact gap q hq
  ·rintro ⟨q,hq,rfl⟩;have:=hr q hq;refine ⟨⟨q,hq,Qmf _,this.2.1⟩,?_⟩;by_cases n:q.1=0
   ·rw [n,show (0:Int)-1 = -1 by omega,Qip l];rintro ⟨p,hp,h⟩;have:=hr p hp;exact ar q hq p hp n (by omega)
   ·rw [QaO (by omega) (by omega)];exact aj q hq
 ·obtain ⟨r,s,u,f⟩:=id hv;have hl:=f.lastlt;have an:=f.rng;have hM:∀ q∈M,b<q.1/\q.1<q.2/\q.2<c:=fun q hq=>by
   have:=an q (Qm0 _ hq);have:=hl.1 q hq;omega
  have aq:∀ q∈M,q∈(0,b)::(M++[(c,t)]):=fun q hq=>.tail _ (Qm0 _ hq)
  have ao:(c,t)∈(0,b)::(M++[(c,t)]):=.tail _ (Qm3 _ (.head _));have ay:(0,b)∈(0,b)::(M++[(c,t)]):=.head _;have a5:b<c:=(an (c,t) (Qm3 _ (.head _))).1;refine ⟨?_,fun q hq=>?_,fun q hq z g k=>?_,fun q hq=>?_,fun x i j=>⟨fun h=>?_,?_⟩⟩
  ·refine Qm6.2 ⟨(Qm6.1 f.pw).1.imp_of_mem fun {p q} hp hq h=>by have:=hM p hp;omega,List.pairwise_singleton _ _,fun p hp q hq=>?_⟩;obtain rfl:=QlT.1 hq;have:=hM p hp;dsimp only;omega
  ·rcases QlQ.1 hq with h | h
   ·have:=hM q h;omega
   ·obtain rfl:=QlT.1 h;dsimp only;omega
  ·rcases QlQ.1 hq with h | h
   ·have:=hM q h;rw [QaO (by omega) (by omega)];exact ⟨q,aq q h,g,k⟩
   ·obtain rfl:=QlT.1 h;dsimp only at g k;by_cases hz:z<t
    ·rw [QaO (by omega) hz];exact ⟨_,ao,g,hz⟩
    ·rw [QiB (by omega) (by omega)];exact ⟨_,ay,by dsimp only;omega,by dsimp only;omega⟩
  ·rcases QlQ.1 hq with h | h
   ·have:=hM q h;rw [QaO (by omega) (by omega)];exact gap q (aq q h)
   ·obtain rfl:=QlT.1 h;dsimp only;rw [QiB (by omega) (by omega),show t+b-t=b by omega];exact gap _ ay
  ·obtain ⟨q,hq,rfl⟩:=ak x i j h.1 h.2;cases hq with
   |head=>
    refine (h.2 ?_).elim;dsimp only;rw [show (0:Int)-1 = -1 by omega,Qip l];exact ⟨_,ao,by dsimp only;omega,by dsimp only;omega⟩
   |tail _ hq=>
    rcases QlQ.1 hq with hq | hq
    ·exact ⟨q,Qm0 _ hq,rfl⟩
    ·obtain rfl:=QlT.1 hq;exact ⟨(c,t+b),Qm3 _ (.head _),rfl⟩
  ·rintro ⟨q,hq,rfl⟩;rcases QlQ.1 hq with h | h
   ·have:=hM q h;refine ⟨⟨q,aq q h,Qmf _,this.2.1⟩,?_⟩;rw [QaO (by omega) (by omega)];exact aj q (aq q h)
   ·obtain rfl:=QlT.1 h;dsimp only;refine ⟨⟨_,ao,Qmf _,hl.2.1⟩,?_⟩;rw [QaO (by omega) (by omega)];exact aj _ ao
theorem Qb9 {t:Int} {F:List Sp2} (i:1<=t) (hv:VS t (-1) F):cnt F=t↔∀ y,0<=y->y<t->InS y F:=by
 rcases F with _ | ⟨⟨a,b⟩,r⟩
 ·exact ⟨fun h=>by grind [cnt],fun h=>absurd (h 0 (by omega) (by omega)) LU⟩
 obtain ⟨j,k,f,e⟩:=hv;have hc:=e.cnt f;rcases r with _ | ⟨⟨c,d⟩,r⟩
 ·simp only [cnt,TB];constructor
  ·omega
  ·intro h;have g:=(h 0 (by omega) (by omega)).resolve_right LU;have h2:=(h (t-1) (by omega) (by omega)).resolve_right LU;omega
 ·have:=hc.2.2 (by simp);have w:=e.1;constructor
  ·grind [cnt]
  ·intro h;have ac:=e.rng;have:=ac (c,d) (.head _);dsimp only at this;obtain ⟨p,hp,g,h2⟩:=h b (by omega) (by omega)
   grind
theorem Q5K (d:t<=300) {f:Nat->Bool} {k0:Int->Int->Bool->oP R} {K:Int->oP R} (hk:∀ a b c,k0 a b c=K a):∀ (c m x:Nat) (w:Int),(x:Int)+c=t->c<m->0<=w->w<=x->(w=x↔∀ y:Nat,y<x->f y=true)->∃ w',WL n t (EA f t.toNat) k0 m w (x:Int)=K w'/\(w'=t↔∀ y:Nat,(y:Int)<t->f y=true)
 |0,m+1,x,w,hx,_,_,_,hw=>⟨w,by rw [WL,show decide ((x:Int)<t)=false from decide_eq_false (by omega),QlH,hk],by
  grind⟩
 |c+1,m+1,x,w,hx,hm,w0,e,hw=>by
  have ac:Q1 (EA f t.toNat) (x:Int)=some [D.bool (f x)]:=by grind [Q9,Dy]
  rw [WL,show decide ((x:Int)<t)=true from QlM (by omega),cond_true,ac];simp -implicitDefEqProofs only [Q0,QlF,PM,Ql (show x<=1000 by omega)];cases aj:f x with
  |false=>
   refine Q5K d hk c m (x+1) w (by omega) (by omega) w0 (by omega) ⟨fun h=>by omega,fun h=>?_⟩
   simp_all
  |true=>
   rw [cond_true,Q6 (by omega) (by omega)];refine Q5K d hk c m (x+1) (w+1) (by omega) (by omega) (by omega) (by omega) ⟨fun h y hy=>?_,fun h=>?_⟩
   all_goals grind
theorem QfC (b:1<=t) (c:t<=300) {f:Nat->Bool} {k0:Int->Bool->oP R} {a:Int} {L:Nat} (a0:0<=a) (a1:a<t) (hL:(L:Int)<t) (aj:∀ k:Nat,k<L->f ((a+k) % t).toNat=true) (ac:f ((a+L) % t).toNat=false):WX n t (EA f t.toNat) a k0 400 0=k0 (L:Int) false:=by
 have step:∀ k:Nat,k<=L->Q1 (EA f t.toNat) (Int.tmod (wJ (a+k)) t)=some [D.bool (f ((a+k) % t).toNat)]:=fun k hk=>by
  have d:=QlZ (a+(k:Int)) (show t≠0 by omega);have e:=QlY (a+(k:Int)) (show 0<t by omega);rw [Q6 (by omega) (by omega),Int.tmod_eq_emod_of_nonneg (by omega)];obtain ⟨z,hz⟩:∃ z:Nat,(a+(k:Int)) % t=z:=⟨((a+(k:Int)) % t).toNat,by omega⟩;rw [hz,Q9,QlG];exact Dy (by omega)
 refine Qm (r:=fun m k=>WX n t (EA f t.toNat) a k0 m k) (N:=L) (fun m k hk=>?_) (fun m=>?_) L 400 0 (by omega) (by omega)
 ·rw [WX,Ek (by omega),step k (by omega)];simp -implicitDefEqProofs only [Q0,QlF,PM,aj k hk,cond_true,Ql (show k<=1000 by omega)]
 ·rw [WX,Ek (by omega),step L (QlU _)];simp -implicitDefEqProofs only [Q0,QlF,PM,ac,QlH]
theorem Q5C (g:1<=t) (i:t<=300) {f:Nat->Bool} {F G:List Sp2} (hf:∀ y:Nat,(y:Int)<t->(f y=true↔InS y F)) (hG:GP t F G) {K:LL->oP R} {k0:Int->Bool->LL->oP R} (hk:∀ a b w,k0 a b w=K w):∀ (c m x:Nat) (P S:List Sp2),(x:Int)+c=t->c<m->G=P++S->P.length<=x->(∀ q∈P,q.1<x)->(∀ q∈S,(x:Int)<=q.1)->Ym 400 t (EA f t.toNat) k0 m (x:Int) ((P.map (B2 t)).map Yf)=K ((G.map (B2 t)).map Yf)
 |0,m+1,x,P,S,hx,_,ac,_,_,hS=>by
  have:S=[]:=by
   cases S with
   |nil=>rfl
   |cons q S=>have:=hS q (.head _);have:=hG.rng q (by simp_all);omega
  rw [Ym,show decide ((x:Int)<t)=false from decide_eq_false (by omega),QlH,hk,ac,this,Qm2]
 |c+1,m+1,x,P,S,hx,hm,ac,hl,hP,hS=>by
  have fi:∀ z:Int,f (z % t).toNat=true↔InS (z % t) F:=fun z=>by
   have l:=QlZ z (show t≠0 by omega);have o:=QlY z (show 0<t by omega);have:=hf (z % t).toNat (by omega);rw [show (((z % t).toNat:Nat):Int)=z % t by omega] at this;exact this
  have ar:Q1 (EA f t.toNat) (x:Int)=some [D.bool (f x)]:=by rw [Q9];exact Dy (by omega)
  have l:=QlZ ((x:Int)-1) (show t≠0 by omega);have o:=QlY ((x:Int)-1) (show 0<t by omega);have an:Q1 (EA f t.toNat) (((x:Int)-1) % t)=some [D.bool (f (((x:Int)-1) % t).toNat)]:=by
   obtain ⟨z,hz⟩:∃ z:Nat,((x:Int)-1) % t=z:=⟨(((x:Int)-1) % t).toNat,by omega⟩;rw [hz,Q9,QlG];exact Dy (by omega)
  rw [Ym,show decide ((x:Int)<t)=true from QlM (by omega),cond_true,ar];simp -implicitDefEqProofs only [Q0,QlF,PM,Ql (show x<=1000 by omega),Q6 (x:=(x:Int)-1) (by omega) (by omega),QgA (n:=400) (x:=(x:Int)-1) g (show t<=7200 by omega) (by omega) (by omega),an];have ak:=hG.st x (by omega) (by omega);have ao:=hf x (by omega);have au:=fi ((x:Int)-1);have a4:∀ (R':Type) (p:Bool) (d:R') (v:R') (k:R'->oP R),gb p (some v) d k=gb p (some v) d k:=fun _ _ _ _ _=>rfl
  have skip:(∀ q∈G,q.1≠x)->Ym 400 t (EA f t.toNat) k0 m ((x+1:Nat):Int) ((P.map (B2 t)).map Yf)=K ((G.map (B2 t)).map Yf):=fun aw=>by
   refine Q5C g i hf hG hk c m (x+1) P S (by omega) (by omega) ac (by omega) (fun q hq=>by have:=hP q hq;omega) (fun q hq=>?_);have:=hS q hq;have:=aw q (by rw [ac];exact Qm3 _ hq);omega
  cases hb:f x with
  |false=>
   simp -implicitDefEqProofs only [Qm9,QlW,gbF,cond_true];refine skip fun q hq e=>?_
   have:=(ak.2 ⟨q,hq,e⟩).1;rw [<- ao,hb] at this;cases this
  |true=>
   simp -implicitDefEqProofs only [Qm9,QlW,Q0,QlH];cases j:f (((x:Int)-1) % t).toNat with
   |true=>
    rw [cond_true];refine skip fun q hq e=>?_
    exact (ak.2 ⟨q,hq,e⟩).2 (au.1 j)
   |false=>
    rw [QlH];obtain ⟨q,hq,ax⟩:=ak.1 ⟨ao.1 hb,fun h=>by rw [<- au,j] at h;cases h⟩;obtain ⟨S',az⟩:∃ S',S=q::S':=by
     rw [ac] at hq;rcases QlQ.1 hq with h | h
     ·have:=hP q h;omega
     cases S with
     |nil=>nomatch h
     |cons p S=>
      cases h with
      |head=>exact ⟨S,rfl⟩
      |tail _ h=>
       have ha:=hG.asc;rw [ac] at ha;have:=(Qm1.1 (Qm6.1 ha).2.1).1 q h;have:=hS p (.head _);omega
    subst az;have hr:=hG.rng q hq;obtain ⟨L,hL⟩:∃ L:Nat,q.2=x+L:=⟨(q.2-q.1).toNat,by omega⟩;have ay:=hG.ins q hq;have aq:=hG.out q hq;rw [QfC (n:=400) (k0:=_) (a:=(x:Int)) (L:=L) g i (by omega) (by omega) (by omega) (fun k hk=>(fi _).2 (ay _ (by omega) (by omega))) (by
     cases h:f (((x:Int)+L) % t).toNat with
     |false=>rfl
     |true=>rw [<- hL] at h;exact (aq ((fi _).1 h)).elim)]
    have hw:[Q4 ((x:Int)+L),Q4 ((x:Int)+t-1)]=Yf (B2 t q):=by rw [<- hL,<- ax];rfl
    rw [Q6 (x:=(x:Int)+L) (by omega) (by omega),Q6 (x:=(x:Int)+t) (by omega) (by omega),Q6 (x:=(x:Int)+t-1) (by omega) (by omega),Xr (by simp;omega),Q0];have:=Q5C g i hf hG hk c m (x+1) (P++[q]) S' (by omega) (by omega) (by rw [ac];simp) (by simp;omega) (fun p hp=>by
     rcases QlQ.1 hp with h | h
     ·have:=hP p h;omega
     ·obtain rfl:=QlT.1 h;omega) (fun p hp=>by
     have ha:=hG.asc;rw [ac] at ha;have:=(Qm1.1 (Qm6.1 ha).2.1).1 p hp;omega)
    rw [QlP,QlP,List.map_singleton,List.map_singleton,<- hw] at this;exact this
theorem QbC {A B:List Occ} (p:2<=t) (a:t<=300) (hA:OL (-1) A) (hB:OL (-1) B) (lA:A.length<=6) (lB:B.length<=6) {F G:List Sp2} (hv:VS t (-1) F) (hF:∀ y,0<=y->y<t->(InS y F↔FB t A B y)) (hw:WR t F G) :
  Hk 400 t (A.map enc) (B.map enc) Tu2=some (if cnt F=t then ([],(13:Int)) else ((G.map (B2 t)).map Yf,(0:Int))):=by
 obtain ⟨f,i,j⟩:=Q1W (by omega) a (K:=fun w=>(some (w,(0:Int)):Option (LL × Int))) (k0:=fun _ _ w=>some (w,(0:Int))) (fun _ _ _=>rfl) hA hB (by omega) (by omega) A [] 400 (fun _=>false) rfl (by omega) (fun y _=>⟨fun h=>(nomatch h),fun ⟨_,_,_,_,_,h,_⟩=>(nomatch h)⟩);have hf:∀ y:Nat,(y:Int)<t->(f y=true↔InS y F):=fun y hy=>by rw [j y (by omega),hF y (by omega) hy]
 have hm:H5 400 t (A.map enc) (B.map enc) Tu2=some (EA f t.toNat,(0:Int)):=by
  unfold H5;rw [Q4R (by omega) (show t<=7200 by omega),Q9M (by omega) hA,Q9M (by omega) hB];simp -implicitDefEqProofs only [Q0,QlW,Qm9,QlH];rw [show (bif decide ((0:Int)<=t)&&decide (t<=t) then some () else none)=some () by rw [QZ (by simp;omega)],Q0,Xr (by omega),Q0];have e:List.replicate t.toNat [D.bool false]=EA (fun _=>false) t.toNat:=by unfold EA;rw [List.map_const',List.length_range]
  rw [e];exact i
 unfold Hk;rw [hm,Q0,Qa (by rfl)];obtain ⟨w,k,l⟩:=Q5K (n:=400) a (f:=f) (K:=fun d=>bif (d == t) then (some ([],(13:Int)):Option (LL × Int)) else Ym 400 t (EA f t.toNat) (fun m o g=>some (g,(0:Int))) 400 (0:Int) []) (k0:=fun d r s=>bif (d == t) then (some ([],(13:Int)):Option (LL × Int)) else Ym 400 t (EA f t.toNat) (fun m o g=>some (g,(0:Int))) 400 (0:Int) []) (fun _ _ _=>rfl) t.toNat 400 0 0 (by omega) (by omega) (by omega) (by omega) ⟨fun _ y hy=>by omega,fun _=>rfl⟩;refine k.trans ?_;have hc:w=t↔cnt F=t:=by
  rw [l,Qb9 (by omega) hv];constructor
  ·intro h y u v;have:=(hf y.toNat (by omega)).1 (h y.toNat (by omega));rw [show ((y.toNat:Nat):Int)=y by omega] at this;exact this
  ·exact fun h y hy=>(hf y hy).2 (h y (by omega) hy)
 by_cases ac:cnt F=t
 ·rw [if_pos ac,QZ (by simpa using hc.2 ac)]
 ·rw [Qmd ac,Qa (by simpa using fun h=>ac (hc.1 h))];exact Q5C (by omega) a hf (hw.gp (by omega) hv ac) (K:=fun w=>some (w,(0:Int))) (k0:=fun _ _ w=>some (w,(0:Int))) (fun _ _ _=>rfl) t.toNat 400 0 [] G (by omega) (by omega) rfl (by simp) (fun q hq=>nomatch hq) (fun q hq=>((hw.gp (by omega) hv ac).rng q hq).1)
end
theorem D6 {R:Type} {n:Nat} {O:List Occ} (hl:O.length<=1000) {q:Int->Bool} {K:LL->oP R} {k0:Int->Bool->LL->oP R} (hk:∀ a b w,k0 a b w=K w):∀ (ac P:List Occ) (j m:Nat),O.drop j=ac->ac.length<m->P.length<=j->Y5 n (O.map enc) ((O.length:Nat):Int) q k0 m (j:Int) (P.map enc)=K ((P++ac.filter fun o=>!q o.1).map enc)
 |[],P,j,m+1,hd,_,_=>by
  have:=U4 hd;rw [Y5,show decide ((j:Int)<((O.length:Nat):Int))=false by simpa using this,QlH,hk,List.filter_nil,Qm2]
 |o::ac,P,j,m+1,hd,hm,hP=>by
  obtain ⟨e,aj,hj⟩:=Yb hd;rw [Y5,Q8 hj,cond_true,QJ e];simp -implicitDefEqProofs only [Q0,Np,MX,LH,Q2,Ql (show j<=1000 by omega),Xr (show ((P.map enc).length+[[Q4 o.1,Q4 o.2.1,Q4 o.2.2]].length)*24<=100000 by simp;omega)];rw [List.filter_cons];cases hq:q o.1 with
  |true=>
   rw [QlW,QlH,Qmd (by simp)];exact D6 hl hk ac P (j+1) m aj (by simpa using hm) (by omega)
  |false=>
   rw [Qm9,cond_true,if_pos rfl];have:=D6 (n:=n) (q:=q) hl hk ac (P++[o]) (j+1) m aj (by simpa using hm) (by simp;omega);rw [QlP,QlO] at this;exact this
theorem Q6X {R:Type} {O:List Occ} (hl:O.length<=300) {q:Int->Bool} (K:LL->(Int->Bool)->oP R):Ux 400 (O.map enc) q K=K ((O.filter fun o=>!q o.1).map enc) q:=by
 unfold Ux;rw [QlK];exact D6 (by omega) (K:=fun w=>K w q) (fun _ _ _=>rfl) O [] 0 400 rfl (by omega) (by simp)
namespace Cx
def Q5Q (a b:Nat) (w:Sp2):List D:=[Q4 6,Q4 ((2*a:Nat):Int),Q4 ((2*b:Nat):Int),Q4 w.1,Q4 w.2,Q4 0]
def fil (X:Cx) (J:List Tup) (a b:Nat):List Occ:=(X.occN a).filter fun o=>!X.TRb J a b o.1
def WV (X:Cx) (per:Int) (J:List Tup) (a b:Nat):Option (List Sp2):=match WU 400 per ((X.fil J a b).map enc) ((X.fil J b a).map enc) Tu2 with
 |some (w,e)=>if e=0 then some (w.map fun r=>match r with | [.int _ x,.int _ y]=>(x,y) | _=>(0,0)) else none
 |none=>none
def Qgt:Option (List Sp2)->LL × Int
 |none=>([],13)
 |some W=>(W.map Yf,0)
def hdw (X:Cx) (per:Int) (J:List Tup) (a:Nat):Nat->Nat->Option LL
 |0,_=>some []
 |c+1,b=>match X.WV per J a b with
  |none=>none
  |some W=>(hdw X per J a c (b+1)).map fun H=>W.map (Q5Q a b)++H
def hdws (X:Cx) (per:Int) (J:List Tup):Nat->Nat->Option LL
 |0,_=>some []
 |c+1,a=>match X.hdw per J a c (a+1) with
  |none=>none
  |some H=>(hdws X per J c (a+1)).map fun H'=>H++H'
variable {R:Type} {n:Nat} {X:Cx} (h:X.OK) {per:Int}
theorem Q6q {J:List Tup} {a b:Nat} {r:Int}:X.TRb J a b r=X.TRb J b a r:=by
 grind [TRb,jab]
include h
theorem Q7m {J:List Tup} {a b:Nat} (ha:a<X.N):OL (-1) (X.fil J a b)/\(X.fil J a b).length<=6:=by
 have o:=(Jz h ha).2;exact ⟨o.1.filter,Nat.le_trans (List.length_filter_le ..) o.2⟩
theorem Q2y (p0:2<=per) (p1:per<=300) {J:List Tup} {a b:Nat} (ha:a<X.N) (hb:b<X.N):WU 400 per ((X.fil J a b).map enc) ((X.fil J b a).map enc) Tu2=some (Qgt (X.WV per J a b))/\Hk 400 per ((X.fil J a b).map enc) ((X.fil J b a).map enc) Tu2=some (Qgt (X.WV per J a b))/\∀ W,X.WV per J a b=some W->W.length<=12:=by
 have oa:=Q7m h (J:=J) (b:=b) ha;have ob:=Q7m h (J:=J) (b:=a) hb;obtain ⟨F,G,g1,g,j,i,k⟩:=Q70 p0 (show per<=7200 by omega) oa.1 ob.1 oa.2 ob.2;have l:=QbC p0 p1 oa.1 ob.1 oa.2 ob.2 g1 j i;have hG:G.length<=12:=by
  rcases i with ⟨rfl,_⟩ | ⟨b,M,c,rfl,rfl⟩
  ·exact g
  ·simp at g ⊢;omega
 have e:X.WV per J a b=if cnt F=per then none else some (G.map (B2 per)):=by
  unfold WV;rw [k];by_cases hc:cnt F=per
  ·rw [if_pos hc,if_pos hc];rfl
  ·rw [Qmd hc,Qmd hc];dsimp only;rw [if_pos rfl,List.map_map];congr 1;refine (List.map_congr_left fun q _=>?_).trans (List.map_id _);rfl
 grind [Qgt,cnt,B2,Yf]
omit h in
theorem Qhf {a b:Nat} (ha:a<=100) (hb:b<=100) {W:List Sp2} (hW:W.length<=12) {k0:Int->Bool->LL->oP R} {A:LL} (hA:A.length<=900):Qz 400 (a:Int) (b:Int) (W.map Yf) ((W.length:Nat):Int) k0 400 0 A=k0 ((W.length:Nat):Int) false (A++W.map (Q5Q a b)):=by
 refine Qm (r:=fun m j=>Qz 400 (a:Int) (b:Int) (W.map Yf) ((W.length:Nat):Int) k0 m j (A++(W.take j.toNat).map (Q5Q a b))) (N:=W.length) (fun m j hj=>?_) (fun m=>?_) W.length 400 0 (by omega) (by omega) |> Qmg (by simp)
 ·simp only [QlG];obtain ⟨w,e⟩:∃ q,W[j]? = some q:=⟨W[j],QlL hj⟩;rw [Qz,Q8 hj,cond_true,QJ e,Yn e,QlP,<- QlO];simp -implicitDefEqProofs only [Q0,Qbu,QaY,Q2,Ql (show j<=1000 by omega),QcE (n:=400) (show a<=1000 by omega),QcE (n:=400) (show b<=1000 by omega),Qep (n:=400) (A:=A++(W.take j).map (Q5Q a b)) (by simp;omega)];rfl
 ·simp only [QlG];rw [Qz,Qi,QlH,QlX]
theorem Q27 (p0:2<=per) (p1:per<=300) {J:List Tup} {a:Nat} (ha:a<X.N):∀ {c b:Nat} {H:LL},b+c<=X.N->X.hdw per J a c b=some H->H.length<=12*c
 |0,b,H,_,e=>by cases e;exact QlU _
 |c+1,b,H,hb,e=>by
  rw [hdw] at e;have hw:=(Q2y h p0 p1 (J:=J) ha (show b<X.N by omega)).2.2;cases ew:X.WV per J a b with
  |none=>rw [ew] at e;cases e
  |some W=>
   rw [ew] at e;cases eh:X.hdw per J a c (b+1) with
   |none=>simp only [eh] at e;cases e
   |some H'=>
    simp only [eh] at e;cases e;have:=hw W ew;have:=Q27 p0 p1 ha (by omega) eh;simp;omega
theorem QfG (p0:2<=per) (p1:per<=300) {J:List Tup} (hJ:X.JOK J) {a:Nat} (ha:a<X.N) {k0:Int->LL->oP R} {k1:Int->Bool->LL->oP R} {Ke K1:LL->oP R} (d:∀ A,k0 13 A=Ke A) (e:∀ u v A,k1 u v A=K1 A):∀ (c m b:Nat) (A:LL),b+c=X.N->c<m->A.length+12*c<=900->∃ A',
  QQ 400 (a:Int) per (Kb (X.occs X.L)) (J.map tuR) k0 k1 m (b:Int) A=match X.hdw per J a c b with | none=>Ke A' | some H=>K1 (A++H)
 |0,m+1,b,A,hb,_,_=>by
  have ac:(Kb (X.occs X.L)).length=X.N:=by rw [Jn];exact ZE
  refine ⟨A,?_⟩;rw [QQ,ac,show decide ((b:Int)<((X.N:Nat):Int))=false from decide_eq_false (by omega),QlH,e,hdw]
  simp_all
 |c+1,m+1,b,A,hb,hm,hA=>by
  have ac:(Kb (X.occs X.L)).length=X.N:=by rw [Jn];exact ZE
  have hN:X.N<=6:=base_le h;have oa:=Jz h ha;have ob:=Jz h (show b<X.N by omega);obtain ⟨q,g,f⟩:=QhQ h hJ (a:=a) (b:=b);have aj:(X.occN a).filter (fun o=>!q o.1)=X.fil J a b:=List.filter_congr fun o _=>by rw [f]
  have ak:(X.occN b).filter (fun o=>!q o.1)=X.fil J b a:=List.filter_congr fun o _=>by rw [f,Q6q]
  have hw:=Q2y h p0 p1 (J:=J) ha (show b<X.N by omega);rw [QQ,ac,show decide ((b:Int)<((X.N:Nat):Int))=true from QlM (by omega),cond_true,g,oa.1,ob.1];simp -implicitDefEqProofs only [Q0,QlF,Qw,Ql (show b<=1000 by omega),Q6X (show (X.occN a).length<=300 by omega),Q6X (show (X.occN b).length<=300 by omega),aj,ak,hw.1,hdw];cases ew:X.WV per J a b with
  |none=>exact ⟨A,d A⟩
  |some W=>
   have hl:=hw.2.2 W ew;obtain ⟨A',ih⟩:=QfG p0 p1 hJ ha d e c m (b+1) (A++W.map (Q5Q a b)) (by omega) (by omega) (by simp;omega);refine ⟨A',?_⟩;simp -implicitDefEqProofs only [Qgt];rw [Qa (by rfl),QlK,Qhf (by omega) (by omega) hl (by omega),ih]
   grind
theorem QfO (p0:2<=per) (p1:per<=300) {J:List Tup} (hJ:X.JOK J) {k0:Int->LL->oP R} {k1:Int->Bool->LL->oP R} {Ke K1:LL->oP R} (d:∀ A,k0 13 A=Ke A) (e:∀ u v A,k1 u v A=K1 A):∀ (c m a:Nat) (A:LL),a+c=X.N->c<m->A.length+72*c<=900->∃ A',
  Qs 400 ((X.N:Nat):Int) per (Kb (X.occs X.L)) (J.map tuR) k0 k1 m (a:Int) A=match X.hdws per J c a with | none=>Ke A' | some H=>K1 (A++H)
 |0,m+1,a,A,ha,_,_=>by
  refine ⟨A,?_⟩;rw [Qs,show decide ((a:Int)<((X.N:Nat):Int))=false from decide_eq_false (by omega),QlH,e,hdws];simp only [Qm2]
 |c+1,m+1,a,A,ha,hm,hA=>by
  have hN:X.N<=6:=base_le h;obtain ⟨A1,f⟩:=QfG h p0 p1 hJ (show a<X.N by omega) (Ke:=Ke) (K1:=fun A=>Qs 400 ((X.N:Nat):Int) per (Kb (X.occs X.L)) (J.map tuR) k0 k1 m ((a+1:Nat):Int) A) (k0:=fun g i=>k0 g i) (k1:=fun k l j=>Qs 400 ((X.N:Nat):Int) per (Kb (X.occs X.L)) (J.map tuR) k0 k1 m ((a+1:Nat):Int) j) (fun A=>d A) (fun u v A=>rfl) c 400 (a+1) A (by omega) (by omega) (by omega);rw [Qs,show decide ((a:Int)<((X.N:Nat):Int))=true from QlM (by omega),cond_true,Ql (show a<=1000 by omega),f,hdws];cases eh:X.hdw per J a c (a+1) with
  |none=>exact ⟨A1,rfl⟩
  |some H=>
   have:=Q27 h p0 p1 (J:=J) (show a<X.N by omega) (c:=c) (b:=a+1) (by omega) eh;obtain ⟨A2,h2⟩:=QfO p0 p1 hJ d e c m (a+1) (A++H) (by omega) (by omega) (by simp;omega);refine ⟨A2,?_⟩;dsimp only;rw [h2];cases X.hdws per J c (a+1) with
   |none=>rfl
   |some H'=>simp -implicitDefEqProofs only [Option.map_some,QlO]
theorem hdws_len (p0:2<=per) (p1:per<=300) {J:List Tup}:∀ {c a:Nat} {H:LL},a+c=X.N->X.hdws per J c a=some H->H.length<=60*c
 |0,a,H,_,e=>by cases e;exact QlU _
 |c+1,a,H,ha,e=>by
  have hN:X.N<=6:=base_le h;rw [hdws] at e;cases eh:X.hdw per J a c (a+1) with
  |none=>rw [eh] at e;cases e
  |some H1=>
   have:=Q27 h p0 p1 (J:=J) (show a<X.N by omega) (c:=c) (b:=a+1) (by omega) eh;rw [eh] at e;cases e2:X.hdws per J c (a+1) with
   |none=>simp only [e2] at e;cases e
   |some H2=>
    have:=hdws_len p0 p1 (by omega) e2;simp only [e2] at e;cases e;simp;omega
theorem Qgb (p0:2<=per) (p1:per<=300) {J:List Tup} (hJ:X.JOK J) {A:LL} (hA:A.length<=100):∃ A',Yk 400 per (Kb (X.occs X.L)) (J.map tuR) A Tu2=some (match X.hdws per J X.N 0 with | none=>((13:Int),A') | some H=>(0,A++H)):=by
 have hN:X.N<=6:=base_le h;have ac:(Kb (X.occs X.L)).length=X.N:=by rw [Jn];exact ZE
 unfold Yk;rw [ac];obtain ⟨A',e⟩:=QfO h p0 p1 hJ (k0:=fun c d=>some (c,d)) (k1:=fun g i f=>some ((0:Int),f)) (Ke:=fun A=>some (13,A)) (K1:=fun A=>some (0,A)) (fun _=>rfl) (fun _ _ _=>rfl) X.N 400 0 A (by omega) (by omega) (by omega);refine ⟨A',e.trans ?_⟩
 grind
end Cx
namespace Cx
def netV (X:Cx) (per:Int) (J:List Tup) (Ch Sy:LL):Int × LL × LL × Int:=bif X.aloneJ per J then (match X.hdws per J X.N 0 with
 |none=>(0,[],[],13)
 |some H=>(per,X.evs X.L,X.planned Ch Sy++H,0)) else (0,[],[],13)
variable {X:Cx} (h:X.OK) {per:Int} {Ch Sy De:LL} (hl:X.LsOK per Ch Sy)
theorem Q7g {α:Type} {nr:Nat->Nat} {f:Nat->Nat->α} {x:α}:∀ {L:Nat},x∈QaM nr f L↔∃ i k,i<L/\k<nr i/\x=f i k
 |0=>⟨fun h=>(nomatch h),fun ⟨_,_,h,_⟩=>by omega⟩
 |L+1=>by
  rw [QaM,QlQ,Q7g,Qmi];constructor
  ·rintro (⟨i,k,b,h2,a⟩ | ⟨k,hk,rfl⟩)
   ·exact ⟨i,k,by omega,h2,a⟩
   ·exact ⟨L,k,by omega,List.mem_range.1 hk,rfl⟩
  ·rintro ⟨i,k,b,h2,a⟩;by_cases hi:i=L
   ·subst hi;exact .inr ⟨k,List.mem_range.2 h2,a.symm⟩
   ·exact .inl ⟨i,k,by omega,h2,a⟩
theorem Q5q {t:Tup}:t∈X.jns↔(∃ i k,i<X.L/\k<X.nr i-1/\t=X.j1 i k)\/∃ u∈X.T,X.jT u=t:=by
 unfold jns jL;rw [QlQ,Q7g,Qmi]
include h
theorem QcD {i k:Nat} (hi:i<X.Ls.length) (hk:k<X.nr i):base X.nr i+k<X.N:=by
 have:=Su (nr:=X.nr) (i:=i) (j:=X.L) hi;unfold N;omega
theorem Qec:X.JOK X.jns:=by
 refine ⟨fun t ht=>?_,QdK h⟩;rcases Q5q.1 ht with ⟨i,k,a,h2,rfl⟩ | ⟨u,hu,rfl⟩
 ·have r:=rd h a (show k<X.nr i by omega);have q:=PN h a (show k<X.nr i by omega);have:=r.ex0;have:=r.ex1;have:=r.mn0;have:=r.mn1;have:=r.mn2;have:=r.mn3;refine ⟨QcD h a (by omega),QcD h a (by omega),?_,?_,?_,?_⟩ <;> simp only [j1] <;> omega
 ·have ht:=h.tr _ hu;have ha:u.1<X.Ls.length:=ht.1;have hb:u.2.1<X.Ls.length:=ht.2.1;have na:=(Jv h ha).2.1;have nb:=(Jv h hb).2.1;have t1:=ht.2.2.1;have t2:=ht.2.2.2.1;have b:=ht.2.2.2.2.1;have c:=ht.2.2.2.2.2.1;have r:=rd h ha (show X.nr u.1-1<X.nr u.1 by omega);have q:=PN h ha (show X.nr u.1-1<X.nr u.1 by omega);have:=r.ex0;have:=r.ex1;refine ⟨QcD h ha (by omega),QcD h hb (by omega),?_,?_,?_,?_⟩ <;> simp only [jT] <;> omega
include hl
theorem planned_len:(X.planned Ch Sy).length<=35:=by
 have hN:base X.nr X.L<=6:=base_le h;have:=AK (X:=X) (i:=X.L);have:=hl.chl;have:=hl.syl;have:=h.tl;unfold planned;simp only [List.length_append,QlK];omega
theorem buildP (p0:2<=per) (p1:per<=300) (hc:Vd 400 X.G.St X.G.Pt X.G.Se X.G.Li per X.skR X.Ro X.Ls Ch (X.T.map tuR) Sy De (some:Int->Option Int)=some 0) :
  Kf 400 X.G.St X.G.Pt X.G.Se X.G.Li per X.skR X.Ro X.Ls Ch (X.T.map tuR) Sy De Tu4=some (X.netV per X.jns Ch Sy):=by
 have hN:base X.nr X.L<=6:=base_le h;have aj:=planned_len h hl;unfold Kf netV;rw [hc,Q0,Qa (by rfl),Qdj h,Q0];dsimp only;rw [evs_len,Qa (decide_eq_false (by omega)),QfV h hc,Q0];dsimp only;rw [Qa (by rfl),QeD h,Q0];rw [QeO h (by omega) p1 (Qec h),Q0];cases X.aloneJ per X.jns
 ·rfl
 rw [Qa (by rfl),Qb4 h hl,Q0];obtain ⟨A',e⟩:=Qgb h p0 p1 (Qec h) (A:=X.planned Ch Sy) (by omega);rw [e,Q0,cond_true];cases eh:X.hdws per X.jns X.N 0 with
 |none=>rfl
 |some H=>
  have:=hdws_len h p0 p1 (by omega) eh;have ac:X.N<=6:=hN;dsimp only;rw [Qa (by rfl),Qa (decide_eq_false (by rw [List.length_append];omega))]
end Cx
theorem Q7A {α β:Type} {r:Nat->Int->β} {l:List α} {p:α->Bool} {F:α->β} {E:β} (a:∀ m i q,l[i]? = some q->i<l.length->r (m+1) (i:Int)=bif p q then F q else r m ((i+1:Nat):Int)) (b:∀ m,r (m+1) ((l.length:Nat):Int)=E) {fuel:Nat} (hf:l.length<fuel):r fuel 0=match l.find? p with | some q=>F q | none=>E:=by
 have go:∀ (ac:List α) (i m:Nat),l.drop i=ac->ac.length<m->i<=l.length->r m (i:Int)=match ac.find? p with | some q=>F q | none=>E:=by
  intro ac;induction ac with
  |nil=>
   intro i m hd hm hi;obtain ⟨m,rfl⟩:∃ k,m=k+1:=⟨m-1,by omega⟩
   grind
  |cons q ac ih=>
   intro i m hd hm hi;obtain ⟨m,rfl⟩:∃ k,m=k+1:=⟨m-1,by simp at hm;omega⟩
   grind [Yb]
 exact go l 0 fuel rfl hf (Qmk _)
theorem Qfh {t:Int} {O:List Occ} (a:1<=t) (b:t<=7200) (hO:OL (-1) O) (hl:O.length<=300):MN 400 t (O.map enc) (some:Bool->Option Bool)=some (O.all (So t)):=by
 unfold MN;rw [Q4R a b,Q9M hl hO];simp -implicitDefEqProofs only [QlH,Q0,QlW,Qm9];refine (TQ (r:=fun m i=>Js 400 t (O.map enc) (some false) (fun _ _=>some true) m i) (l:=O) (p:=So t) (E0:=some false) (E1:=some true) (fun m i q e hi=>?_) (fun m=>?_) (by omega)).trans (by cases O.all (So t) <;> rfl)
 ·rw [Js,QlK,Q8 hi,cond_true,QJ e];simp -implicitDefEqProofs only [Q0,Np,MX,LH,Q2,Ql (show i<=1000 by omega),Qin hO (QlJ e)];unfold So;cases decide (q.2.2-q.2.1>t) <;> rfl
 ·rw [Js,QlK,Qi,QlH]
def Q8g (O:List Occ) (r:Int):Bool:=(O.find? fun q=>q.1 == r).isSome
def fnd (O:List Occ) (r:Int):Occ:=(O.find? fun q=>q.1 == r).getD (0,0,0)
theorem CZ {p:Occ->Bool} {r:Int} (hp:∀ q,q.1≠r->p q=false):∀ {l:Int} {O:List Occ},OL l O->O.any p=(bif Q8g O r then p (fnd O r) else false)
 |_,[],_=>rfl
 |l,(x,a,b)::O,⟨d,h2,e,f,g,c⟩=>by
  have ih:=CZ hp c;unfold Q8g fnd at ih ⊢;by_cases hx:x=r
  ·subst hx;have:O.any p=false:=by
    rw [List.any_eq_false];intro q hq;have:=(c.mem q hq).1
    grind
   simp_all
  grind
theorem Q5l {O:List Occ} {r:Int} (h:Q8g O r=true):(fnd O r).1=r:=by
 unfold Q8g at h;unfold fnd;cases e:O.find? fun q=>q.1 == r with
 |none=>simp_all
 |some q=>grind
theorem Q69 {l:Int} {O:List Occ} (hO:OL l O) {x:Occ} (hx:x∈O):Q8g O x.1=true/\fnd O x.1=x:=by
 unfold Q8g fnd;cases e:O.find? fun q=>q.1 == x.1 with
 |none=>grind
 |some q=>exact ⟨rfl,hO.uniq (List.mem_of_find?_eq_some e) hx (by grind)⟩
def okR (la:Int) (A B:List Occ) (r:Int):Bool:=bif (bif Q8g A r then Q8g B r else false) then decide (la+(fnd B r).2.1<=(fnd A r).2.2) else false
theorem Qc9 {la:Int} {x y:Occ} (h:y.1≠x.1):tie la x y=false:=by
 grind [tie]
theorem QfA {la r:Int} {A B:List Occ} (hA:OL (-1) A) (hB:OL (-1) B):okR la A B r=Q1g la A B r:=by
 unfold Q1g okR;rw [CZ (r:=r) (fun q hq=>by
  simp_all) hA]
 cases ha:Q8g A r with
 |false=>rfl
 |true=>
  have ea:=Q5l ha;rw [cond_true,cond_true,CZ (r:=r) (fun y hy=>by grind [Qc9]) hB];cases hb:Q8g B r with
  |false=>rfl
  |true=>
   have eb:=Q5l hb
   simp_all [tie,cond_true,decide,fnd]
theorem QcR {per la mo:Int} {A B:List Occ} (hA:OL (-1) A) (hB:OL (-1) B) {x:Occ} (hx:x∈A):(B.any fun y=>bif tie la x y then Bi per la mo x y else false)=bif okR la A B x.1 then Bi per la mo (fnd A x.1) (fnd B x.1) else false:=by
 have ha:=Q69 hA hx;unfold okR;rw [CZ (r:=x.1) (fun y hy=>by grind [Qc9]) hB,ha.1,ha.2,cond_true];cases hb:Q8g B x.1 with
 |false=>rfl
 |true=>
  simp_all [Q5l,tie,cond_true]
theorem Q5R {l:Int} {O:List Occ} (hO:OL l O) {r:Int} : -1000<=(fnd O r).2.1/\(fnd O r).2.1<=20000 /\ -1000<=(fnd O r).2.2/\(fnd O r).2.2<=20000:=by
 unfold fnd;cases e:O.find? fun q=>q.1 == r with
 |none=>simp
 |some q=>
  have:=hO.mem q (List.mem_of_find?_eq_some e)
  grind
theorem Qf2 {R:Type} {O:List Occ} (hl:O.length<=300) {r:Int} (K:D->D->D->Bool->oP R):VI 400 (O.map enc) r K=K (Q4 (fnd O r).1) (Q4 (fnd O r).2.1) (Q4 (fnd O r).2.2) (Q8g O r):=by
 unfold VI fnd Q8g;refine (Q7A (r:=fun m i=>Z3 400 (O.map enc) r (fun a b c=>K a b c true) (fun d f=>K (Q4 0) (Q4 0) (Q4 0) false) m i) (l:=O) (p:=fun q=>q.1 == r) (F:=fun q=>K (Q4 q.1) (Q4 q.2.1) (Q4 q.2.2) true) (E:=K (Q4 0) (Q4 0) (Q4 0) false) (fun m i q e hi=>?_) (fun m=>?_) (by omega)).trans ?_
 ·rw [Z3,QlK,Q8 hi,cond_true,QJ e];simp -implicitDefEqProofs only [Q0,Np,MX,LH,Q2,Ql (show i<=1000 by omega)]
 ·rw [Z3,QlK,Qi,QlH]
 ·cases O.find? fun q=>q.1 == r <;> rfl
namespace Cx
variable {R:Type} {X:Cx} (h:X.OK)
include h
theorem QeI {J:List Tup} (hJ:X.JOK J) {t:Tup} (ht:t∈J) {r:Int} (K:D->D->D->D->D->D->Bool->oP R):S4 400 (Kb (X.occs X.L)) (t.1:Int) (t.2.1:Int) t.2.2.1 r K=K (Q4 (fnd (X.occN t.1) r).1) (Q4 (fnd (X.occN t.1) r).2.1) (Q4 (fnd (X.occN t.1) r).2.2) (Q4 (fnd (X.occN t.2.1) r).1) (Q4 (fnd (X.occN t.2.1) r).2.1) (Q4 (fnd (X.occN t.2.1) r).2.2) (okR t.2.2.1 (X.occN t.1) (X.occN t.2.1) r):=by
 have hj:=hJ.at' t ht;have oa:=Jz h hj.1;have ob:=Jz h hj.2.1;have rb:=Q5R ob.2.1 (r:=r);unfold S4 okR;rw [oa.1,ob.1];simp -implicitDefEqProofs only [Q0,QlF,Qw,Qf2 (show (X.occN t.1).length<=300 by omega),Qf2 (show (X.occN t.2.1).length<=300 by omega),Q2,Q6 (x:=t.2.2.1+(fnd (X.occN t.2.1) r).2.1) (by omega) (by omega)]
theorem QfI {J:List Tup} (hJ:X.JOK J) {t:Tup} (ht:t∈J) {per:Int} (K:Bool->oP R):RJ 400 (Kb (X.occs X.L)) (t.1:Int) (t.2.1:Int) t.2.2.1 t.2.2.2 per K=K (!Q8m per t.2.2.1 t.2.2.2 (X.occN t.1) (X.occN t.2.1)):=by
 have hj:=hJ.at' t ht;have oa:=Jz h hj.1;have ob:=Jz h hj.2.1;unfold RJ Q8m;refine (TQ (r:=fun m i=>UQ 400 (Kb (X.occs X.L)) per (t.1:Int) (t.2.1:Int) t.2.2.1 t.2.2.2 (K false) (fun a b=>K true) m i) (l:=X.occN t.1) (p:=fun x=>!((X.occN t.2.1).any fun y=>bif tie t.2.2.1 x y then Bi per t.2.2.1 t.2.2.2 x y else false)) (E0:=K false) (E1:=K true) (fun m i x e hi=>?_) (fun m=>?_) (by omega)).trans ?_
 ·have ra:=Q5R oa.2.1 (r:=x.1);have rb:=Q5R ob.2.1 (r:=x.1);rw [UQ,oa.1,QcR oa.2.1 ob.2.1 (QlJ e)];simp -implicitDefEqProofs only [Q0,QlF,Qw,QlK,Q8 hi,cond_true,QJ e,Np,Q2,QeI h hJ ht,Ql (show i<=1000 by omega)];generalize fnd (X.occN t.1) x.1=u at ra ⊢;generalize fnd (X.occN t.2.1) x.1=v at rb ⊢;cases okR t.2.2.1 (X.occN t.1) (X.occN t.2.1) x.1 with
  |false=>rfl
  |true=>
   rw [cond_true,cond_true,Q6 (x:=t.2.2.1+v.2.1) (by omega) (by omega),Q6 (x:=t.2.2.2+v.2.2) (by omega) (by omega),Q6 (x:=(if u.2.2<t.2.2.2+v.2.2 then t.2.2.2+v.2.2 else u.2.2)-(if t.2.2.1+v.2.1<u.2.1 then t.2.2.1+v.2.1 else u.2.1)) (by split <;> split <;> omega) (by split <;> split <;> omega)];unfold Bi;cases decide ((if u.2.2<t.2.2.2+v.2.2 then t.2.2.2+v.2.2 else u.2.2)-(if t.2.2.1+v.2.1<u.2.1 then t.2.2.1+v.2.1 else u.2.1)>per) <;> rfl
 ·rw [UQ,oa.1];simp -implicitDefEqProofs only [Q0,QlF,Qw,QlK,Qi,QlH]
 ·rw [<- List.not_any_eq_all_not];cases (X.occN t.1).any fun x=>(X.occN t.2.1).any fun y=>bif tie t.2.2.1 x y then Bi per t.2.2.1 t.2.2.2 x y else false <;> rfl
theorem Q9L {J:List Tup} (hJ:X.JOK J) {a b i:Nat} (ha:a<X.N) {x:Occ} (e:(X.occN a)[i]? = some x) (k0:Bool->Int->Bool->oP R):YY 400 (Kb (X.occs X.L)) (J.map tuR) (a:Int) (b:Int) (i:Int) k0 400 false 0=k0 (X.TRb J a b x.1) ((J.length:Nat):Int) false:=by
 have oa:=Jz h ha;have hl:=hJ.len;unfold TRb;rw [<- Bool.false_or (List.any _ _),<- FU];refine Ft (r:=fun m j c=>YY 400 (Kb (X.occs X.L)) (J.map tuR) (a:Int) (b:Int) (i:Int) k0 m c j) (E:=fun c=>k0 c ((J.length:Nat):Int) false) (fun m j t c e' hi=>?_) (fun m c=>?_) (by omega) false
 ·have hj:=hJ.at' t (QlJ e');have d:=Jz h hj.1;have f:=Jz h hj.2.1;have ac:Q1 (J.map tuR) (j:Int)=some [Q4 t.1,Q4 t.2.1,Q4 t.2.2.1,Q4 t.2.2.2]:=QJ e';rw [YY,QlK,Q8 hi,cond_true,ac];simp -implicitDefEqProofs only [Q0,QlF,QlI,Q2,Qw,oa.1,QJ e,Np,QeI h hJ (QlJ e'),Ql (show j<=1000 by omega),QfA d.2.1 f.2.1];show (bif jab a b t then _ else _)=_;cases jab a b t <;> cases c <;> rfl
 ·rw [YY,QlK,Qi,QlH]
theorem Q6g {J:List Tup} (hJ:X.JOK J) {a b:Nat} (ha:a<X.N) (K:LL->oP R):GK 400 (Kb (X.occs X.L)) (J.map tuR) (a:Int) (b:Int) K=K ((X.fil J a b).map enc):=by
 have oa:=Jz h ha;unfold GK fil;refine Qm (r:=fun m i=>ZS 400 (Kb (X.occs X.L)) (J.map tuR) (a:Int) (b:Int) (fun d f c=>K c) m i ((((X.occN a).take i.toNat).filter fun o=>!X.TRb J a b o.1).map enc)) (N:=(X.occN a).length) (fun m i hi=>?_) (fun m=>?_) (X.occN a).length 400 0 (by omega) (by omega)
 ·simp only [QlG];obtain ⟨x,e⟩:∃ q,(X.occN a)[i]? = some q:=⟨(X.occN a)[i],QlL hi⟩;have aj:(((X.occN a).take i).filter fun o=>!X.TRb J a b o.1).length<=i:=Nat.le_trans (List.length_filter_le ..) (by simp;omega);rw [ZS,oa.1];simp -implicitDefEqProofs only [Q0,QlF,Qw,QlK,Q8 hi,cond_true,Q9L h hJ ha e,QJ e,Np,MX,LH,Ql (show i<=1000 by omega),Xr (show ((((X.occN a).take i).filter fun o=>!X.TRb J a b o.1).length+[[Q4 x.1,Q4 x.2.1,Q4 x.2.2]].length)*24<=100000 by simp;omega)];rw [Yn e,List.filter_append,QlP];simp only [List.filter_cons,List.filter_nil];cases X.TRb J a b x.1 with
  |false=>rfl
  |true=>
   rw [QlW,QlH,Qmd Bool.false_ne_true,List.map_nil,Qm2]
 ·simp only [QlG];rw [ZS,oa.1];simp -implicitDefEqProofs only [Q0,QlF,Qw,QlK,Qi,QlH,QlX]
end Cx
theorem Q9j {a b:Nat} (h:a+b<=100000):wJ ((a:Int)+(b:Int))=((a+b:Nat):Int):=Q6 (by omega) (by omega)
theorem Q9C {a:Nat} (h:a<=100000):wJ ((a:Int)+1)=((a+1:Nat):Int):=Q6 (by omega) (by omega)
theorem Qfx {a:Nat} (h:a<=100000):wJ ((a:Int)+2)=((a+2:Nat):Int):=Q6 (by omega) (by omega)
theorem Sb {a:Nat} (h:a<=100000):wJ (2*(a:Int))=((2*a:Nat):Int):=Q6 (by omega) (by omega)
namespace Cx
def jR (X:Cx) (i:Nat):List Tup:=(List.range (X.nr i-1)).map (X.j1 i)++(match X.tn i with | some t=>[X.jT t] | none=>[])
def jnsR (X:Cx):Nat->List Tup
 |0=>[]
 |i+1=>jnsR X i++X.jR i
variable {R:Type} {n:Nat} {X:Cx} (h:X.OK)
theorem Q7k {t:Tup}:∀ {L:Nat},t∈X.jnsR L↔∃ i,i<L/\t∈X.jR i
 |0=>⟨fun h=>(nomatch h),fun ⟨_,h,_⟩=>by omega⟩
 |L+1=>by
  rw [jnsR,QlQ,Q7k];constructor
  ·rintro (⟨i,a,h2⟩ | h2)
   ·exact ⟨i,by omega,h2⟩
   ·exact ⟨L,by omega,h2⟩
  ·rintro ⟨i,a,h2⟩;by_cases hi:i=L
   ·subst hi;exact .inr h2
   ·exact .inl ⟨i,by omega,h2⟩
theorem DO {i:Nat} {t:Tup} (ht:X.tn i=some t):t∈X.T/\t.1=i:=⟨List.mem_of_find?_eq_some ht,by simpa using List.find?_some ht⟩
theorem Q2E {α β:Type} {f:α->β}:∀ {l:List α},(l.map f).Nodup->∀ {x y},x∈l->y∈l->f x=f y->x=y
 |[],_,_,_,h,_,_=>nomatch h
 |a::l,hn,x,y,hx,hy,e=>by
  rw [List.map_cons,List.nodup_cons] at hn;cases hx with
  |head=>
   cases hy with
   |head=>rfl
   |tail _ hy=>exact (hn.1 (Qmi.2 ⟨y,hy,e.symm⟩)).elim
  |tail _ hx=>
   cases hy with
   |head=>exact (hn.1 (Qmi.2 ⟨x,hx,e⟩)).elim
   |tail _ hy=>exact Q2E hn.2 hx hy e
include h
theorem QdM {t:Tup} (ht:t∈X.T):X.tn t.1=some t:=by
 cases e:X.tn t.1 with
 |none=>exact absurd (List.find?_eq_none.1 e t ht) (by simp)
 |some u=>
  have hu:=DO e;rw [Q2E h.fd hu.1 ht hu.2]
theorem Q35 {t:Tup}:t∈X.jnsR X.L↔t∈X.jns:=by
 rw [Q7k,Q5q];constructor
 ·rintro ⟨i,hi,ht⟩;rcases QlQ.1 ht with ht | ht
  ·grind
  ·cases e:X.tn i with
   |none=>simp_all
   |some u=>
    rw [e] at ht;obtain rfl:=QlT.1 ht;exact .inr ⟨u,(DO e).1,rfl⟩
 ·rintro (⟨i,k,hi,hk,rfl⟩ | ⟨u,hu,rfl⟩)
  ·exact ⟨i,hi,Qm0 _ (List.mem_map_of_mem (List.mem_range.2 hk))⟩
  ·refine ⟨u.1,(h.tr _ hu).1,Qm3 _ ?_⟩
   grind [QdM]
theorem Q7q {i:Nat} (hi:i<=X.Ls.length):(X.jnsR i).length<=base X.nr i:=by
 induction i with
 |zero=>exact QlU _
 |succ i ih=>
  have hl:=(Jv h (i:=i) (by omega)).2.1
  grind [jnsR,jR,List.length_append,List.length_map,List.length_range,base]
theorem Qf9:X.JOK (X.jnsR X.L):=⟨fun t ht=>(Qec h).at' t ((Q35 h).1 ht),by have:=Q7q h (i:=X.L) (QlU _);have:=base_le h;omega⟩
theorem EX {i:Nat} (hi:i<=X.Ls.length) (K:Int->oP R):YQ 400 X.Ls (i:Int) K=K ((base X.nr i:Nat):Int):=by
 have hb:=XS h hi;have l1:=h.l1;unfold YQ;refine Qm (r:=fun m k=>Jw 400 (i:Int) X.Ls (fun c d e=>K c) m ((base X.nr k.toNat:Nat):Int) k) (N:=i) (fun m k hk=>?_) (fun m=>?_) i 400 0 (by omega) (by omega)
 ·simp only [QlG];have ac:=XS h (i:=k+1) (by omega);rw [base] at ac;have ha:wJ (((base X.nr k:Nat):Int)+(((Gr X.Ls k).length:Nat):Int))=((base X.nr (k+1):Nat):Int):=Q9j (a:=base X.nr k) (b:=X.nr k) (by omega);rw [Jw,Q8 hk,cond_true,Q9,(Jv h (by omega)).1];simp -implicitDefEqProofs only [Q0,QlF,QlI,Qw,Ql (show k<=1000 by omega),ha]
 ·simp only [QlG];rw [Jw,Qi,QlH]
theorem Qgd (K:LL->oP R):R1 400 X.Ls (X.T.map tuR) (encI (X.runs X.L)) K=K ((X.jnsR X.L).map tuR):=by
 have l1:=h.l1;unfold R1;refine Qm (r:=fun m i=>UE 400 (encI (X.runs X.L)) X.Ls (X.T.map tuR) (fun f g c=>K c) m i ((X.jnsR i.toNat).map tuR)) (N:=X.Ls.length) (fun m i hi=>?_) (fun m=>?_) X.Ls.length 400 0 (by omega) (by omega)
 ·simp only [QlG];have hl:=(Jv h hi).2.1;have hb:=XS h (i:=i) (by omega);have hw:wJ (((List.length (Gr X.Ls i):Nat):Int)-1)=((X.nr i-1:Nat):Int):=Jy (k:=X.nr i) (by omega) (by omega);have hJ:=Q7q h (i:=i) (by omega);rw [UE,Q8 hi,cond_true,Q9,(Jv h hi).1];simp -implicitDefEqProofs only [Q0,QlF,QlI,Ql (show i<=1000 by omega)];refine Qm (r:=fun m' k=>Wm 400 (encI (X.runs X.L)) (i:Int) X.Ls (X.T.map tuR) (D.sl 4 (Gr X.Ls i)) (fun _ _ w=>UE 400 (encI (X.runs X.L)) X.Ls (X.T.map tuR) (fun f g c=>K c) m ((i+1:Nat):Int) w) m' k ((if k.toNat<=X.nr i-1 then X.jnsR i++(List.range k.toNat).map (X.j1 i) else X.jnsR (i+1)).map tuR)) (N:=X.nr i) (fun m' k hk=>?_) (fun m'=>?_) (X.nr i) 400 0 (by omega) (by omega) |> Qmg (by simp)
  ·simp only [QlG];have r:=rd h hi hk;have hr:=PN h hi hk;have ac:Q1 (Gr X.Ls i) (k:Int)=some [Q4 (rF X.Ls i k 0),Q4 (X.ex i k),Q4 (X.mn i k),Q4 (X.mx i k)]:=by rw [Q9,r.row]
   have l:=r.ex0;have e1:=r.ex1;have e2:=r.mn0;have n:=r.mn1;have o:=r.mn2;have p:=r.mn3;rw [Wm,Qw,Q0,show (((Gr X.Ls i).length:Nat):Int)=((X.nr i:Nat):Int) from rfl,Q8 hk,cond_true,if_pos (show k<=X.nr i-1 by omega)];simp -implicitDefEqProofs only [Q0,EX h (show i<=X.Ls.length by omega),ac,QlF,QlI,Q2,Qw,hw,Q9j (a:=base X.nr i) (b:=k) (by omega),Q6w hi hk,Ql (show k<=1000 by omega),Q6 (x:=X.run i k+X.mn i k) (by omega) (by omega),Q6 (x:=X.run i k+X.ex i k) (by omega) (by omega),Q6 (x:=X.run i k+X.ex i k+X.mx i k) (by omega) (by omega),Q9C (a:=base X.nr i+k) (by omega)];by_cases j:k<X.nr i-1
   ·rw [Q8 j,cond_true,if_pos (show k+1<=X.nr i-1 by omega),Xr (by simp;omega),Q0,<- ZA,QlP (l₁:=X.jnsR i++(List.range k).map (X.j1 i))];rfl
   ·rw [show decide ((k:Int)<((X.nr i-1:Nat):Int))=false from decide_eq_false (by omega),QlH,Qmd (show ¬ k+1<=X.nr i-1 by omega),Qbl h];have d:k=X.nr i-1:=by omega
    cases ht:X.tn i with
    |none=>
     simp -implicitDefEqProofs only [Q0,QlH,jnsR,jR,ht,Qm2,d]
    |some t=>
     obtain ⟨t1,t2⟩:=DO ht;have an:=(h.tr _ t1).2.1;have q:=(h.tr _ t1).2.2.1;have s:=(h.tr _ t1).2.2.2.1;have u:=(h.tr _ t1).2.2.2.2.1;have v:=(h.tr _ t1).2.2.2.2.2.1;simp -implicitDefEqProofs only [Q0,cond_true,Q2,EX h (show t.2.1<=X.Ls.length by omega),Q6 (x:=X.run i k+t.2.2.1) (by omega) (by omega),Q6 (x:=X.run i k+X.ex i k+t.2.2.2) (by omega) (by omega),jnsR,jR,ht];have e:[Q4 ((base X.nr i+k:Nat):Int),Q4 ((base X.nr t.2.1:Nat):Int),Q4 (X.run i k+t.2.2.1),Q4 (X.run i k+X.ex i k+t.2.2.2)]=tuR (X.jT t):=by
      unfold tuR jT;rw [t2,d];rfl
     rw [Xr (by simp;omega),Q0,e,d,<- QlO,QlP (l₁:=X.jnsR i++_)];rfl
  ·simp only [QlG];rw [Wm,Qw,Q0,show (((Gr X.Ls i).length:Nat):Int)=((X.nr i:Nat):Int) from rfl,Qi,QlH,Qmd (by omega)]
 ·simp only [QlG];rw [UE,Qi,QlH];rfl
theorem Qdm (k0:LL->oP R):Wo 400 X.Ls (fun _ _ w=>k0 w) 400 0 []=k0 (X.evs X.L):=by
 have l1:=h.l1;refine Qm (r:=fun m i=>Wo 400 X.Ls (fun _ _ w=>k0 w) m i (X.evs i.toNat)) (N:=X.Ls.length) (fun m i hi=>?_) (fun m=>?_) X.Ls.length 400 0 (by omega) (by omega)
 ·simp only [QlG];have hl:=(Jv h hi).2.1;have hb:=XS h (i:=i) (by omega);rw [Wo,Q8 hi,cond_true,Ql (show i<=1000 by omega)];refine Qm (r:=fun m' k=>VQ 400 (i:Int) X.Ls (fun _ _ w=>Wo 400 X.Ls (fun _ _ w=>k0 w) m ((i+1:Nat):Int) w) m' k (X.evs i++evl i k.toNat)) (N:=X.nr i) (fun m' k hk=>?_) (fun m'=>?_) (X.nr i) 400 0 (by omega) (by omega) |> Qmg (by simp [evl])
  ·simp only [QlG];rw [VQ,Q9,(Jv h hi).1];simp -implicitDefEqProofs only [Q0,QlF,QlI,Qw];rw [show (((Gr X.Ls i).length:Nat):Int)=((X.nr i:Nat):Int) from rfl,Q8 hk,cond_true,Xr (by simp [evs_len,Q2A];omega),Q0,Ql (by omega),QlO];rfl
  ·simp only [QlG];rw [VQ,Q9,(Jv h hi).1];simp -implicitDefEqProofs only [Q0,QlF,QlI,Qw];rw [show (((Gr X.Ls i).length:Nat):Int)=((X.nr i:Nat):Int) from rfl,Qi,QlH];rfl
 ·simp only [QlG];rw [Wo,Qi,QlH];rfl
theorem Qfk (K:LL->oP R):SX 400 X.Ls (encI (X.runs X.L)) K=K (X.pls X.L):=by
 have l1:=h.l1;unfold SX;refine Qm (r:=fun m i=>UJ 400 (encI (X.runs X.L)) X.Ls (fun e f c=>K c) m i (X.pls i.toNat)) (N:=X.Ls.length) (fun m i hi=>?_) (fun m=>?_) X.Ls.length 400 0 (by omega) (by omega)
 ·simp only [QlG];have hl:=(Jv h hi).2.1;have hb:=XS h (i:=i) (by omega);have hp:=AK (X:=X) (i:=i);have hw:wJ (((List.length (Gr X.Ls i):Nat):Int)-1)=((X.nr i-1:Nat):Int):=Jy (k:=X.nr i) (by omega) (by omega);rw [UJ,Q8 hi,cond_true,Q9,(Jv h hi).1];simp -implicitDefEqProofs only [Q0,QlF,QlI,Ql (show i<=1000 by omega)];refine Qm (r:=fun m' k=>UM 400 (encI (X.runs X.L)) (i:Int) X.Ls (Q4 (X.w i)) (D.sl 4 (Gr X.Ls i)) (fun _ _ w=>UJ 400 (encI (X.runs X.L)) X.Ls (fun e f c=>K c) m ((i+1:Nat):Int) w) m' k (X.pls i++X.pl i k.toNat)) (N:=X.nr i) (fun m' k hk=>?_) (fun m'=>?_) (X.nr i) 400 0 (by omega) (by omega) |> Qmg (by simp [pl])
  ·simp only [QlG];have r:=rd h hi hk;have hr:=PN h hi hk;have ac:Q1 (Gr X.Ls i) (k:Int)=some [Q4 (rF X.Ls i k 0),Q4 (X.ex i k),Q4 (X.mn i k),Q4 (X.mx i k)]:=by rw [Q9,r.row]
   have g:=r.ex0;have e1:=r.ex1;have ak:=Q7t (X:=X) (i:=i) (k:=k);rw [UM,Qw,Q0,show (((Gr X.Ls i).length:Nat):Int)=((X.nr i:Nat):Int) from rfl,Q8 hk,cond_true];simp -implicitDefEqProofs only [Q0,EX h (show i<=X.Ls.length by omega),ac,QlF,QlI,Q2,Qw,hw,Q9j (a:=base X.nr i) (b:=k) (by omega),Q6w hi hk,Ql (show k<=1000 by omega),Q6 (x:=X.run i k+X.ex i k) (by omega) (by omega),Sb (a:=base X.nr i+k) (by omega),Q9C (a:=2*(base X.nr i+k)) (by omega),Qfx (a:=2*(base X.nr i+k)) (by omega)];rw [Xr (by simp;omega),Q0];by_cases d:k<X.nr i-1
   ·rw [Q8 d,cond_true,Xr (by simp;omega),Q0,pl,if_pos d,<- QlO,<- QlO];rfl
   ·rw [show decide ((k:Int)<((X.nr i-1:Nat):Int))=false from decide_eq_false (by omega),QlH,pl,Qmd d,Qm2,<- QlO];rfl
  ·simp only [QlG];rw [UM,Qw,Q0,show (((Gr X.Ls i).length:Nat):Int)=((X.nr i:Nat):Int) from rfl,Qi,QlH];rfl
 ·simp only [QlG];rw [UJ,Qi,QlH];rfl
theorem Qgr {per:Int} {Ch Sy:LL} (hl:X.LsOK per Ch Sy) (K:LL->oP R):RH 400 X.Ls Ch (X.T.map tuR) Sy K=K (Ch.map X.chE++X.T.map X.tuE++Sy.map X.syE):=by
 have l1:=h.l1;have tl:=h.tl;have chl:=hl.chl;have syl:=hl.syl;unfold RH;have s1:∀ k0:LL->oP R,UK 400 X.Ls Ch (fun _ _ w=>k0 w) 400 0 []=k0 (Ch.map X.chE):=by
  intro k0;refine Qm (r:=fun m j=>UK 400 X.Ls Ch (fun _ _ w=>k0 w) m j ((Ch.take j.toNat).map X.chE)) (N:=Ch.length) (fun m j hj=>?_) (fun m=>?_) Ch.length 400 0 (by omega) (by omega)
  ·simp only [QlG];obtain ⟨row,e⟩:∃ q,Ch[j]? = some q:=⟨Ch[j],QlL hj⟩;obtain ⟨f,fr,t,tr,mn,mx,w,rfl,g1,n,c,y,z,g6⟩:=hl.ch row (QlJ e);have nf:=(Jv h g1).2.1;have nt:=(Jv h c).2.1;have bf:=XS h (i:=f) (by omega);have bt:=XS h (i:=t) (by omega);rw [UK,Q8 hj,cond_true,Q9,e,Yn e,QlP];simp -implicitDefEqProofs only [Q0,QlF,QlI,Q2,EX h (show f<=X.Ls.length by omega),EX h (show t<=X.Ls.length by omega),Ql (show j<=1000 by omega),Q9j (a:=base X.nr f) (b:=fr) (by omega),Q9j (a:=base X.nr t) (b:=tr) (by omega),Sb (a:=base X.nr f+fr) (by omega),Sb (a:=base X.nr t+tr) (by omega),Q9C (a:=2*(base X.nr f+fr)) (by omega)];rw [Xr (by simp;omega),Q0];rfl
  ·simp only [QlG];rw [UK,Qi,QlH,QlX]
 have s2:∀ k0:LL->oP R,Wk 400 X.Ls (X.T.map tuR) (fun _ _ w=>k0 w) 400 0 (Ch.map X.chE)=k0 (Ch.map X.chE++X.T.map X.tuE):=by
  intro k0;refine Qm (r:=fun m j=>Wk 400 X.Ls (X.T.map tuR) (fun _ _ w=>k0 w) m j (Ch.map X.chE++(X.T.take j.toNat).map X.tuE)) (N:=X.T.length) (fun m j hj=>?_) (fun m=>?_) X.T.length 400 0 (by omega) (by omega) |> Qmg (by simp)
  ·simp only [QlG];obtain ⟨⟨a,b,lo,hi⟩,e⟩:∃ q,X.T[j]? = some q:=⟨X.T[j],QlL hj⟩;have ht:=h.tr _ (QlJ e);have g1:a<X.Ls.length:=ht.1;have c:b<X.Ls.length:=ht.2.1;have nf:=(Jv h g1).2.1;have bf:=XS h (i:=a) (by omega);have bt:=XS h (i:=b) (by omega);have aj:Q1 (X.T.map tuR) (j:Int)=some [Q4 a,Q4 b,Q4 lo,Q4 hi]:=QJ e;have p:Ch.map X.chE++(X.T.take (j+1)).map X.tuE=Ch.map X.chE++(X.T.take j).map X.tuE++[X.tuE (a,b,lo,hi)]:=by rw [Yn e,QlP,<- QlO];rfl
   have hw:wJ (((2*(base X.nr a+X.nr a):Nat):Int)-1)=((2*(base X.nr a+(X.nr a-1))+1:Nat):Int):=by rw [Q6 (by omega) (by omega)];omega
   have ha:wJ (((base X.nr a:Nat):Int)+(((Gr X.Ls a).length:Nat):Int))=((base X.nr a+X.nr a:Nat):Int):=Q9j (a:=base X.nr a) (b:=X.nr a) (by omega);rw [Wk,QlK,Q8 hj,cond_true,aj,p];simp -implicitDefEqProofs only [Q0,QlF,QlI,Q2,Qw,EX h (show a<=X.Ls.length by omega),EX h (show b<=X.Ls.length by omega),Q9,(Jv h g1).1,Ql (show j<=1000 by omega),ha,Sb (a:=base X.nr a+X.nr a) (by omega),Sb (a:=base X.nr b) (by omega),hw];rw [Xr (by simp;omega),Q0];rfl
  ·simp only [QlG];rw [Wk,QlK,Qi,QlH,QlX]
 have s:∀ k0:LL->oP R,Zk 400 X.Ls Sy (fun _ _ w=>k0 w) 400 0 (Ch.map X.chE++X.T.map X.tuE)=k0 (Ch.map X.chE++X.T.map X.tuE++Sy.map X.syE):=by
  intro k0;refine Qm (r:=fun m j=>Zk 400 X.Ls Sy (fun _ _ w=>k0 w) m j (Ch.map X.chE++X.T.map X.tuE++(Sy.take j.toNat).map X.syE)) (N:=Sy.length) (fun m j hj=>?_) (fun m=>?_) Sy.length 400 0 (by omega) (by omega) |> Qmg (by simp)
  ·simp only [QlG];obtain ⟨row,e⟩:∃ q,Sy[j]? = some q:=⟨Sy[j],QlL hj⟩;obtain ⟨o,rfl,g1,n,c⟩:=hl.sy row (QlJ e);have bt:=XS h (i:=1) (by omega);have k:=EX (R:=Int) h (show 0<=X.Ls.length by omega) some;have l:=EX (R:=Int) h (show 1<=X.Ls.length by omega) some;have a0:=Q9j (a:=base X.nr 0) (b:=0) (by simp [base]);have a1:=Q9j (a:=base X.nr 1) (b:=0) (by omega);simp only [show ((0:Nat):Int)=0 from rfl,show ((1:Nat):Int)=1 from rfl] at k l a0 a1;rw [Zk,Q8 hj,cond_true,Q9,e,Yn e,QlP,<- QlO];simp -implicitDefEqProofs only [Q0,QlF,QlI,Q2,k,l,a0,a1,Ql (show j<=1000 by omega),Sb (a:=base X.nr 0+0) (by simp [base]),Sb (a:=base X.nr 1+0) (by omega)];rw [Xr (by simp;omega),Q0];rfl
  ·simp only [QlG];rw [Zk,Qi,QlH,QlX]
 rw [s1 (fun u=>Wk 400 X.Ls (X.T.map tuR) (fun ab ac d=>Zk 400 X.Ls Sy (fun v x g=>K g) 400 0 d) 400 0 u),s2 (fun d=>Zk 400 X.Ls Sy (fun v x g=>K g) 400 0 d),s]
end Cx
theorem Qgg {α:Type} {J J':List α} (hJ:∀ t,t∈J↔t∈J') (p:α->Bool):J.any p=J'.any p:=by
 rw [Bool.eq_iff_iff,List.any_eq_true,List.any_eq_true];exact ⟨fun ⟨t,a,h2⟩=>⟨t,(hJ t).1 a,h2⟩,fun ⟨t,a,h2⟩=>⟨t,(hJ t).2 a,h2⟩⟩
theorem QeJ {α:Type} {J J':List α} (hJ:∀ t,t∈J↔t∈J') (p:α->Bool):J.all p=J'.all p:=by
 rw [Bool.eq_iff_iff,Qma,Qma];exact ⟨fun h t ht=>h t ((hJ t).2 ht),fun h t ht=>h t ((hJ t).1 ht)⟩
namespace Cx
variable {R:Type} {X:Cx} {per:Int} {Ch Sy De:LL}
theorem Q7Q {J J':List Tup} (hJ:∀ t,t∈J↔t∈J'):X.netV per J Ch Sy=X.netV per J' Ch Sy:=by
 have e1:∀ a b,X.fil J a b=X.fil J' a b:=fun a b=>List.filter_congr fun o _=>by
  unfold TRb;rw [Qgg hJ]
 have e2:∀ a b,X.WV per J a b=X.WV per J' a b:=fun a b=>by
  unfold WV;rw [e1,e1]
 have d:∀ a c b,X.hdw per J a c b=X.hdw per J' a c b:=fun a c=>by
  induction c with
  |zero=>exact fun _=>rfl
  |succ c ih=>intro b;rw [hdw,hdw,e2,ih]
 have e:∀ c a,X.hdws per J c a=X.hdws per J' c a:=fun c=>by
  induction c with
  |zero=>exact fun _=>rfl
  |succ c ih=>intro a;rw [hdws,hdws,d,ih]
 unfold netV aloneJ;rw [e,QeJ hJ]
variable (h:X.OK)
theorem Qgi {a b:Nat} (ha:a<=100) (hb:b<=100) {W:List Sp2} (hW:W.length<=12) {k0:LL->oP R} {A:LL} (hA:A.length<=900):UR 400 (a:Int) (b:Int) (W.map Yf) (fun _ _ w=>k0 w) 400 0 A=k0 (A++W.map (Q5Q a b)):=by
 refine Qm (r:=fun m j=>UR 400 (a:Int) (b:Int) (W.map Yf) (fun _ _ w=>k0 w) m j (A++(W.take j.toNat).map (Q5Q a b))) (N:=W.length) (fun m j hj=>?_) (fun m=>?_) W.length 400 0 (by omega) (by omega) |> Qmg (by simp)
 ·simp only [QlG];obtain ⟨w,e⟩:∃ q,W[j]? = some q:=⟨W[j],QlL hj⟩;rw [UR,QlK,Q8 hj,cond_true,QJ e,Yn e,QlP,<- QlO];simp -implicitDefEqProofs only [Q0,Qbu,QaY,Q2,Ql (show j<=1000 by omega),Sb (a:=a) (by omega),Sb (a:=b) (by omega)];rw [Xr (by simp;omega),Q0];rfl
 ·simp only [QlG];rw [UR,QlK,Qi,QlH,QlX]
include h
theorem Qcs (p0:2<=per) (p1:per<=300) {J:List Tup} (hJ:X.JOK J) {a:Nat} (ha:a<X.N) {Ke:oP R} {K1:LL->oP R}:∀ (c m b:Nat) (A:LL),b+c=X.N->c<m->A.length+12*c<=900 ->
  VN 400 (Kb (X.occs X.L)) (J.map tuR) (a:Int) per Ke (fun _ _ w=>K1 w) m (b:Int) A=match X.hdw per J a c b with | none=>Ke | some H=>K1 (A++H)
 |0,m+1,b,A,hb,_,_=>by
  have ac:(Kb (X.occs X.L)).length=X.N:=by rw [Jn];exact ZE
  rw [VN,ac,show decide ((b:Int)<((X.N:Nat):Int))=false from decide_eq_false (by omega),QlH,hdw];simp only [Qm2]
 |c+1,m+1,b,A,hb,hm,hA=>by
  have ac:(Kb (X.occs X.L)).length=X.N:=by rw [Jn];exact ZE
  have hN:X.N<=6:=base_le h;have hw:=Q2y h p0 p1 (J:=J) ha (show b<X.N by omega);rw [VN,ac,show decide ((b:Int)<((X.N:Nat):Int))=true from QlM (by omega),cond_true,Q6g h hJ ha,Q6g h hJ (show b<X.N by omega)];simp -implicitDefEqProofs only [Q0,hw.2.1,Ql (show b<=1000 by omega),hdw];cases ew:X.WV per J a b with
  |none=>rfl
  |some W=>
   have hl:=hw.2.2 W ew;simp -implicitDefEqProofs only [Qgt];rw [Qa (by rfl),Qgi (by omega) (by omega) hl (by omega),Qcs p0 p1 hJ ha c m (b+1) _ (by omega) (by omega) (by simp;omega)];cases X.hdw per J a c (b+1) with
   |none=>rfl
   |some H=>simp -implicitDefEqProofs only [Option.map_some,QlO]
theorem Qcq (p0:2<=per) (p1:per<=300) {J:List Tup} (hJ:X.JOK J) {Ke:oP R} {K1:LL->oP R}:∀ (c m a:Nat) (A:LL),a+c=X.N->c<m->A.length+72*c<=900 ->
  UN 400 (Kb (X.occs X.L)) (J.map tuR) per Ke (fun _ _ w=>K1 w) m (a:Int) A=match X.hdws per J c a with | none=>Ke | some H=>K1 (A++H)
 |0,m+1,a,A,ha,_,_=>by
  have ac:(Kb (X.occs X.L)).length=X.N:=by rw [Jn];exact ZE
  rw [UN,ac,show decide ((a:Int)<((X.N:Nat):Int))=false from decide_eq_false (by omega),QlH,hdws];simp only [Qm2]
 |c+1,m+1,a,A,ha,hm,hA=>by
  have ac:(Kb (X.occs X.L)).length=X.N:=by rw [Jn];exact ZE
  have hN:X.N<=6:=base_le h;rw [UN,ac,show decide ((a:Int)<((X.N:Nat):Int))=true from QlM (by omega),cond_true,Ql (show a<=1000 by omega),Qcs h p0 p1 hJ (show a<X.N by omega) (Ke:=Ke) (K1:=fun A=>UN 400 (Kb (X.occs X.L)) (J.map tuR) per Ke (fun _ _ w=>K1 w) m ((a+1:Nat):Int) A) c 400 (a+1) A (by omega) (by omega) (by omega),hdws];cases eh:X.hdw per J a c (a+1) with
  |none=>rfl
  |some H=>
   have:=Q27 h p0 p1 (J:=J) (show a<X.N by omega) (c:=c) (b:=a+1) (by omega) eh;dsimp only;rw [Qcq p0 p1 hJ c m (a+1) (A++H) (by omega) (by omega) (by simp;omega)];cases X.hdws per J c (a+1) with
   |none=>rfl
   |some H'=>simp -implicitDefEqProofs only [Option.map_some,QlO]
theorem QcY (p0:2<=per) (p1:per<=300) {k0 E:oP R} {k1:Int->Bool->oP R} (hk:∀ a b,k1 a b=E):UV 400 (Kb (X.occs X.L)) per k0 k1 400 0=bif (X.occs X.L).all (fun o=>o.all (So per)) then E else k0:=by
 have hN:X.N<=6:=base_le h;have aj:(X.occs X.L).length=X.N:=ZE;refine TQ (r:=fun m i=>UV 400 (Kb (X.occs X.L)) per k0 k1 m i) (fun m i o e hi=>?_) (fun m=>?_) (by omega)
 ·have ho:=Qai h o (QlJ e);have ac:Q1 (Kb (X.occs X.L)) (i:Int)=some [D.sl 3 (o.map enc)]:=QJ e;rw [UV,Jn,Q8 hi,cond_true,ac];simp -implicitDefEqProofs only [Q0,QlF,Qw,Qfh (show 1<=per by omega) (show per<=7200 by omega) ho.1 (show o.length<=300 by omega),Ql (show i<=1000 by omega)];cases o.all (So per) <;> rfl
 ·rw [UV,Jn,Qi,QlH,hk]
theorem QdO {J:List Tup} (hJ:X.JOK J) {k0 E:oP R} {k1:Int->Bool->oP R} (hk:∀ a b,k1 a b=E):UW 400 (Kb (X.occs X.L)) (J.map tuR) per k0 k1 400 0=bif J.all (fun t=>!Q8m per t.2.2.1 t.2.2.2 (X.occN t.1) (X.occN t.2.1)) then E else k0:=by
 have aj:=hJ.len;refine TQ (r:=fun m i=>UW 400 (Kb (X.occs X.L)) (J.map tuR) per k0 k1 m i) (fun m i t e hi=>?_) (fun m=>?_) (by omega)
 ·rw [UW,QlK,Q8 hi,cond_true,QJ e];simp -implicitDefEqProofs only [Q0,tuR,QlF,QlI,Q2,Ql (show i<=1000 by omega),QfI h hJ (QlJ e)];cases Q8m per t.2.2.1 t.2.2.2 (X.occN t.1) (X.occN t.2.1) <;> rfl
 ·rw [UW,QlK,Qi,QlH,hk]
theorem buildR (hl:X.LsOK per Ch Sy) (p0:2<=per) (p1:per<=300) (hc:UC 400 X.G.St X.G.Pt X.G.Se X.G.Li per X.skR X.Ro X.Ls Ch (X.T.map tuR) Sy De (some:Int->Option Int)=some 0) :
  JY 400 X.G.St X.G.Pt X.G.Se X.G.Li per X.skR X.Ro X.Ls Ch (X.T.map tuR) Sy De Tu4=some (X.netV per X.jns Ch Sy):=by
 have hN:X.N<=6:=base_le h;have aj:(X.occs X.L).length=X.N:=ZE;have an:=planned_len h hl;have hJ:=Qf9 h;have ac:(X.pls X.L++(Ch.map X.chE++X.T.map X.tuE++Sy.map X.syE))=X.planned Ch Sy:=by unfold planned;simp only [QlO]
 rw [<- Q7Q fun t=>Q35 h (t:=t)];unfold JY netV;rw [QfL h hc,Q0,Qa (by rfl)];dsimp only;rw [Jn,aj,Sb (by omega),Qa (decide_eq_false (by omega)),QcY h p0 p1 (fun _ _=>rfl)];unfold aloneJ;cases (X.occs X.L).all (fun o=>o.all (So per))
 ·rfl
 rw [cond_true,cond_true,Qgd h,Q0,QdO h hJ (fun _ _=>rfl)];cases (X.jnsR X.L).all (fun t=>!Q8m per t.2.2.1 t.2.2.2 (X.occN t.1) (X.occN t.2.1))
 ·rfl
 rw [cond_true,cond_true];refine (Qdm h _).trans ?_;rw [Qfk h,Qgr h hl,Q0,Q0,Xr (by rw [<- List.length_append,ac];omega),Q0,ac];refine (Qcq h p0 p1 hJ (Ke:=some ((0:Int),([]:LL),([]:LL),(13:Int))) (K1:=fun a=>bif decide (((List.length a:Nat):Int)>512) then some (0,[],[],7) else some (per,X.evs X.L,a,0)) X.N 400 0 (X.planned Ch Sy) (by omega) (by omega) (by omega)).trans ?_;cases eh:X.hdws per (X.jnsR X.L) X.N 0 with
 |none=>rfl
 |some H=>
  have:=hdws_len h p0 p1 (by omega) eh;dsimp only;rw [Qa (decide_eq_false (by rw [List.length_append];omega))]
end Cx
def R6 (row:List D):Prop:=∃ kd f t mn mx w:Int,row=[Q4 kd,Q4 f,Q4 t,Q4 mn,Q4 mx,Q4 w]
def chk (per:Int) (e:Nat):List D->Bool
 |[_,.int _ f,.int _ t,.int _ mn,.int _ mx,.int _ w]=>!(bif bif !(bif decide (f>=0) then decide (f<(e:Int)) else false) then true else !(bif decide (t>=0) then decide (t<(e:Int)) else false) then true else f == t)&&(!(bif bif bif decide (mn < -65536) then true else decide (mn>mx) then true else decide (mx>65536) then true else decide (wJ (mx-mn)>=per))&&!(bif decide (w<0) then true else decide (w>1048576)))
 |_=>false
theorem Q2f {per:Int} {e:Nat} {kd f t mn mx w:Int} (h:chk per e [Q4 kd,Q4 f,Q4 t,Q4 mn,Q4 mx,Q4 w]=true):0<=f/\f<e/\0<=t/\t<e /\ -65536<=mn/\mn<=mx/\mx<=65536:=by
 simp only [chk,Bool.cond_true_left,Bool.cond_false_right,Qm7,Bool.not_eq_true',Bool.or_eq_false_iff,Bool.not_eq_false',decide_eq_true_eq,decide_eq_false_iff_not,beq_eq_false_iff_ne] at h;omega
section
variable {per:Int} {E A:LL} (p0:2<=per) (p1:per<=300) (hE:E.length<=48) (hA:A.length<=512) (hr:∀ r∈A,R6 r)
include p0 p1 hE hA hr
theorem Qfc (hl:A.length<400):Tz 400 per E A some=some (A.all (chk per E.length)):=by
 unfold Tz;rw [show decide (per<2)=false from decide_eq_false (by omega),show decide (per>7200)=false from decide_eq_false (by omega),show decide (((E.length:Nat):Int)>48)=false from decide_eq_false (by omega),show decide (((A.length:Nat):Int)>512)=false from decide_eq_false (by omega)];simp -implicitDefEqProofs only [QlH];refine (TQ (r:=fun m i=>Ul 400 A ((A.length:Nat):Int) per E A (some false) (fun _ _=>some true) m i) (l:=A) (p:=chk per E.length) (E0:=some false) (E1:=some true) (fun m i q e hi=>?_) (fun m=>?_) (fuel:=400) (by omega)).trans (by cases A.all (chk per E.length) <;> rfl)
 ·obtain ⟨kd,f,t,mn,mx,w,rfl⟩:=hr q (QlJ e);rw [Ul,Q8 hi,cond_true,Q9,e];unfold Gx;simp -implicitDefEqProofs only [Q0,QlF,QlI,Q2,Ql (show i<=1000 by omega)];dsimp only [chk];cases (bif bif !(bif decide (f>=0) then decide (f<(E.length:Int)) else false) then true else !(bif decide (t>=0) then decide (t<(E.length:Int)) else false) then true else f == t)
  ·cases (bif bif bif decide (mn < -65536) then true else decide (mn>mx) then true else decide (mx>65536) then true else decide (wJ (mx-mn)>=per))
   ·cases (bif decide (w<0) then true else decide (w>1048576)) <;> rfl
   ·rfl
  ·rfl
 ·rw [Ul,Qi,QlH]
theorem Qcv (hl:A.length<400):UF 400 per E A some=some (A.all (chk per E.length)):=by
 unfold UF Tn;rw [show decide (per>=2)=true from QlM (by omega),show decide (per<=7200)=true from QlM (by omega),show decide (((E.length:Nat):Int)>48)=false from decide_eq_false (by omega),show decide (((A.length:Nat):Int)>512)=false from decide_eq_false (by omega)];simp -implicitDefEqProofs only [QlH,cond_true,Q0,QlW];refine (TQ (r:=fun m i=>VO 400 per E A (some false) (fun _ _=>some true) m i) (l:=A) (p:=chk per E.length) (E0:=some false) (E1:=some true) (fun m i q e hi=>?_) (fun m=>?_) (fuel:=400) (by omega)).trans (by cases A.all (chk per E.length) <;> rfl)
 ·obtain ⟨kd,f,t,mn,mx,w,rfl⟩:=hr q (QlJ e);rw [VO,Q8 hi,cond_true,Q9,e];unfold Tn;simp -implicitDefEqProofs only [Q0,QlF,QlI,Q2,Ql (show i<=1000 by omega),Q6 (x:=((E.length:Nat):Int)-1) (by omega) (by omega)];have sw:∀ (c d:Bool) (x y:Option Bool),c = !d->(bif c then x else y)=bif d then y else x:=fun c d x y h=>by rw [h];cases d <;> rfl
  refine sw _ _ _ _ ?_;rw [Bool.eq_iff_iff];simp only [chk,Bool.cond_true_left,Bool.cond_false_right,Qm7,Bool.or_eq_true,Bool.not_eq_true',Bool.and_eq_false_iff,Bool.or_eq_false_iff,Bool.not_eq_false',decide_eq_true_eq,decide_eq_false_iff_not,beq_eq_false_iff_ne,beq_iff_eq];omega
 ·rw [VO,Qi,QlH]
def Q7I (per:Int) (E A:LL) (tl:List Int):Bool:=bif (bif !(A.all (chk per E.length)) then true else ((tl.length:Nat):Int) != ((E.length:Nat):Int)) then false else tl.all fun x=>!(bif decide (x<0) then true else decide (x>=per))
theorem QfF (hl:A.length<400) {tl:List Int}:Gg 400 per E A (encI tl) some=some (Q7I per E A tl)/\Kz 400 per E A (encI tl) some=some (Q7I per E A tl):=by
 have ca:=Qfc p0 p1 hE hA hr hl;have cb:=Qcv p0 p1 hE hA hr hl;have ac:(encI tl).length=tl.length:=QN tl;unfold Gg Kz Q7I;rw [ca,cb,Q0,Q0,ac];cases hc:(bif !(A.all (chk per E.length)) then true else ((tl.length:Nat):Int) != ((E.length:Nat):Int)) with
 |true=>exact ⟨rfl,rfl⟩
 |false=>
  have aj:tl.length=E.length:=by
   cases a : !(A.all (chk per E.length)) with
   |true=>rw [a] at hc;cases hc
   |false=>
    rw [a,QlH] at hc;have:((tl.length:Nat):Int)=((E.length:Nat):Int):=by simpa using hc
    omega
  rw [QlH,QlH,QlH];constructor
  ·refine (TQ (r:=fun m i=>Vi 400 (encI tl) ((tl.length:Nat):Int) per (some false) (fun _ _=>some true) m i) (l:=tl) (p:=fun x=>!(bif decide (x<0) then true else decide (x>=per))) (E0:=some false) (E1:=some true) (fun m i q e hi=>?_) (fun m=>?_) (fuel:=400) (by omega)).trans (by cases tl.all _ <;> rfl)
   ·rw [Vi,Q8 hi,cond_true,Jm e];simp -implicitDefEqProofs only [Q0,QlF,Q2,Ql (show i<=1000 by omega)];cases (bif decide (q<0) then true else decide (q>=per)) <;> rfl
   ·rw [Vi,Qi,QlH]
  ·refine (TQ (r:=fun m i=>Jq 400 (encI tl) per (some false) (fun _ _=>some true) m i) (l:=tl) (p:=fun x=>!(bif decide (x<0) then true else decide (x>=per))) (E0:=some false) (E1:=some true) (fun m i q e hi=>?_) (fun m=>?_) (fuel:=400) (by omega)).trans (by cases tl.all _ <;> rfl)
   ·rw [Jq,ac,Q8 hi,cond_true,Jm e];unfold Tn;simp -implicitDefEqProofs only [Q0,QlF,Q2,Ql (show i<=1000 by omega),Q6 (x:=per-1) (by omega) (by omega)];by_cases a:q<0
    ·rw [show decide (q>=0)=false from decide_eq_false (by omega),show decide (q<0)=true from QlM a];rfl
    ·rw [show decide (q>=0)=true from QlM (by omega),show decide (q<0)=false from decide_eq_false a];by_cases h2:q>=per
     ·rw [show decide (q<=per-1)=false from decide_eq_false (by omega),show decide (q>=per)=true from QlM h2];rfl
     ·rw [show decide (q<=per-1)=true from QlM (by omega),show decide (q>=per)=false from decide_eq_false h2];rfl
   ·rw [Jq,ac,Qi,QlH]
end
theorem MK {w:List Int} {i:Nat} {v:Int}:(encI w).set i [Q4 v]=encI (w.set i v):=by
 unfold encI;rw [List.map_set]
def EB (l:List Nat):LL:=l.map fun i:Nat=>[Q4 (i:Int)]
def Q30 (rs:List (List Nat × Bool)):LL:=rs.map fun r=>[D.sl 1 (EB r.1),D.bool r.2]
def QiR (l:LL):List Nat:=l.map fun r=>match r with | [.int _ x]=>x.toNat | _=>0
def Qdu (a:LL):List (List Nat × Bool):=a.map fun r=>match r with | [.sl _ l,.bool c]=>(QiR l,c) | _=>([],false)
def eqI:LL->LL->Bool
 |[],[]=>true
 |[.int .i64 x]::a,[.int .i64 y]::b=>decide (x=y)&&eqI a b
 |_,_=>false
def eqR:LL->LL->Bool
 |[],[]=>true
 |[.sl 1 l,.bool c]::a,[.sl 1 l',.bool c']::b=>eqI l l'&&(c == c'&&eqR a b)
 |_,_=>false
theorem Qcj:∀ {a b:LL},eqI a b=true->a=b:=by
 intro a b;induction a,b using eqI.induct with
 |case1=>exact fun _=>rfl
 |case2 x a y b ih=>
  intro h;rw [eqI,Qm7,decide_eq_true_eq] at h;rw [h.1,ih h.2]
 |case3 a b c h2=>intro h;rw [eqI] at h <;> first | cases h | assumption
theorem Qcb:∀ {a b:LL},eqR a b=true->a=b:=by
 intro a b;induction a,b using eqR.induct with
 |case1=>exact fun _=>rfl
 |case2 l c a l' c' b ih=>
  intro h;rw [eqR,Qm7,Qm7,beq_iff_eq] at h;rw [Qcj h.1,h.2.1,ih h.2.2]
 |case3 a b d h2=>intro h;rw [eqR] at h <;> first | cases h | assumption
def tix (T:List Tup) (i:Nat):Int:=match T.findIdx? fun t=>t.1 == i with
 |some j=>(j:Int)
 |none => -1
def Q32:List (List Nat × Bool)->Nat
 |[]=>0
 |r::rs=>r.1.length+Q32 rs
def nx (r:List Nat × Bool) (x:Nat):Option Nat:=bif Nat.blt (x+1) r.1.length then r.1[x+1]? else bif r.2 then r.1[0]? else none
def QhT (rs:List (List Nat × Bool)) (i:Nat):Nat × Nat:=(rs.findIdx fun r=>r.1.any (Nat.beq i),(rs.getD (rs.findIdx fun r=>r.1.any (Nat.beq i)) ([],false)).1.findIdx (Nat.beq i))
def eqO:Option Nat->Nat->Bool
 |some a,b=>Nat.beq a b
 |none,_=>false
def QbB (T:List Tup) (rs:List (List Nat × Bool)):Bool:=
 ((List.range rs.length).all fun j=>(List.range (rs.getD j ([],false)).1.length).all fun x=>Nat.beq (QhT rs ((rs.getD j ([],false)).1.getD x 0)).1 j&&Nat.beq (QhT rs ((rs.getD j ([],false)).1.getD x 0)).2 x) &&
 ((T.all fun t=>rs.any fun r=>(List.range r.1.length).any fun x=>eqO (r.1[x]?) t.1&&eqO (nx r x) t.2.1) &&
 rs.all fun r=>(List.range r.1.length).all fun x=>match nx r x with
  |some b=>T.any fun t=>eqO (r.1[x]?) t.1&&Nat.beq t.2.1 b
  |none=>true)
def Nx (Ls:LL) (T:List Tup):Bool:=match X8 400 Ls (T.map tuR) some,Jb 400 Ls (T.map tuR) some,Zu 400 Ls (T.map tuR) some with
 |some a,some b,some t=>eqR a (Q30 (Qdu a))&&(eqR b (Q30 (Qdu a))&&(eqI t (encI ((List.range Ls.length).map (tix T)))&&((Qdu a).all (fun r=>Nat.blt 0 r.1.length&&r.1.all fun i=>Nat.blt i Ls.length)&&(Nat.ble (Q32 (Qdu a)) Ls.length&&(Nat.blt 0 (Qdu a).length&&QbB T (Qdu a))))))
 |_,_,_=>false
section
variable (x y z:List D) (lo hi lo' hi' lo'' hi'':Int)
theorem QhM:Nx [x] []=true/\Nx [x,y] []=true/\Nx [x,y,z] []=true:=⟨by kernel_rfl,by kernel_rfl,by kernel_rfl⟩
theorem Qhj:Nx [x] [(0,0,lo,hi)]=true:=by kernel_rfl
def u2:List Nat:=[0,1]
def u3:List Nat:=[0,1,2]
theorem QhB:(u2.all fun a=>u2.all fun b=>Nx [x,y] [(a,b,lo,hi)])=true:=by kernel_rfl
theorem Qhz:(u3.all fun a=>u3.all fun b=>Nx [x,y,z] [(a,b,lo,hi)])=true:=by kernel_rfl
theorem QhS:(u2.all fun a=>u2.all fun b=>u2.all fun a'=>u2.all fun b'=>(Nat.beq a a'||Nat.beq b b')||Nx [x,y] [(a,b,lo,hi),(a',b',lo',hi')])=true:=by kernel_rfl
theorem QhZ:(u3.all fun a=>u3.all fun b=>u3.all fun a'=>u3.all fun b'=>(Nat.beq a a'||Nat.beq b b')||Nx [x,y,z] [(a,b,lo,hi),(a',b',lo',hi')])=true:=by kernel_rfl
theorem Qh9:(u3.all fun a=>u3.all fun b=>u3.all fun a'=>u3.all fun b'=>(Nat.beq a a'||Nat.beq b b')||u3.all fun aj=>u3.all fun ac=>(Nat.beq a aj||Nat.beq b ac||Nat.beq a' aj||Nat.beq b' ac)||Nx [x,y,z] [(a,b,lo,hi),(a',b',lo',hi'),(aj,ac,lo'',hi'')])=true:=by kernel_rfl
end
theorem Qbe {l:List Nat} {f:Nat->Nat->Bool} (h:(l.all fun a=>l.all fun b=>f a b)=true) {a b:Nat} (ha:a∈l) (hb:b∈l):f a b=true:=Qma.1 (Qma.1 h a ha) b hb
theorem Qev {a:Nat} (h:a<2):a∈u2:=by
 obtain rfl | rfl:a=0\/a=1:=by omega
 all_goals decide
theorem Q8o {a:Nat} (h:a<3):a∈u3:=by
 obtain rfl | rfl | rfl:a=0\/a=1\/a=2:=by omega
 all_goals decide
theorem Q87 {a b:Nat} (h:a≠b):Nat.beq a b=false:=Bool.eq_false_iff.2 fun e=>h (Nat.eq_of_beq_eq_true e)
theorem ne2 {a b a' b':Nat} {x:Bool} (h:(Nat.beq a a'||Nat.beq b b'||x)=true) (c:a≠a') (h2:b≠b'):x=true:=by
 simpa [Q87 c,Q87 h2] using h
theorem ne4 {a b a' b' c d c' d':Nat} {x:Bool} (h:(Nat.beq a a'||Nat.beq b b'||Nat.beq c c'||Nat.beq d d'||x)=true) (e:a≠a') (h2:b≠b') (f:c≠c') (g:d≠d'):x=true:=by
 simpa [Q87 e,Q87 h2,Q87 f,Q87 g] using h
theorem Qj0 {Ls:LL} {T:List Tup} (l0:1<=Ls.length) (l1:Ls.length<=3) (hb:∀ t∈T,t.1<Ls.length/\t.2.1<Ls.length) (c:(T.map (·.1)).Nodup) (d:(T.map (·.2.1)).Nodup):Nx Ls T=true:=by
 rcases Ls with _ | ⟨x,_ | ⟨y,_ | ⟨z,_ | ⟨w,r⟩⟩⟩⟩
 ·simp at l0
 ·rcases T with _ | ⟨⟨a,b,lo,hi⟩,_ | ⟨⟨a',b',lo',hi'⟩,T⟩⟩
  ·exact (QhM x x x).1
  ·obtain ⟨ha,e⟩:=hb _ (QlR ..);obtain rfl:a=0:=by simpa using ha
   obtain rfl:b=0:=by simpa using e
   exact Qhj x lo hi
  ·have f:=(hb _ (QlR ..)).1;have h2:=(hb _ (QlS _ (QlR ..))).1;simp at f h2 c;omega
 ·rcases T with _ | ⟨⟨a,b,lo,hi⟩,_ | ⟨⟨a',b',lo',hi'⟩,_ | ⟨⟨aq,ao,lo'',hi''⟩,T⟩⟩⟩
  ·exact (QhM x y x).2.1
  ·obtain ⟨ha,hb⟩:=hb _ (QlR ..);exact Qbe (QhB x y lo hi) (Qev ha) (Qev hb)
  ·obtain ⟨ha,e⟩:=hb _ (QlR ..);obtain ⟨aj,ac⟩:=hb _ (QlS _ (QlR ..));simp at c d;exact ne2 (Qbe (Qbe (QhS x y lo hi lo' hi') (Qev ha) (Qev e)) (Qev aj) (Qev ac)) c d
  ·have f:=(hb _ (QlR ..)).1;have h2:=(hb _ (QlS _ (QlR ..))).1;have g:=(hb _ (QlS _ (QlS _ (QlR ..)))).1;simp at f h2 g c;omega
 ·rcases T with _ | ⟨⟨a,b,lo,hi⟩,_ | ⟨⟨a',b',lo',hi'⟩,_ | ⟨⟨aq,ao,lo'',hi''⟩,_ | ⟨⟨i,j,k,l⟩,T⟩⟩⟩⟩
  ·exact (QhM x y z).2.2
  ·obtain ⟨ha,hb⟩:=hb _ (QlR ..);exact Qbe (Qhz x y z lo hi) (Q8o ha) (Q8o hb)
  ·obtain ⟨ha,e⟩:=hb _ (QlR ..);obtain ⟨aj,ac⟩:=hb _ (QlS _ (QlR ..));simp at c d;exact ne2 (Qbe (Qbe (QhZ x y z lo hi lo' hi') (Q8o ha) (Q8o e)) (Q8o aj) (Q8o ac)) c d
  ·obtain ⟨ha,e⟩:=hb _ (QlR ..);obtain ⟨aj,ac⟩:=hb _ (QlS _ (QlR ..));obtain ⟨an,ak⟩:=hb _ (QlS _ (QlS _ (QlR ..)));simp at c d;have f:=ne2 (Qbe (Qbe (Qh9 x y z lo hi lo' hi' lo'' hi'') (Q8o ha) (Q8o e)) (Q8o aj) (Q8o ac)) c.1.1 d.1.1;exact ne4 (Qbe f (Q8o an) (Q8o ak)) c.1.2 d.1.2 c.2 d.2
  ·have f:=(hb _ (QlR ..)).1;have h2:=(hb _ (QlS _ (QlR ..))).1;have g:=(hb _ (QlS _ (QlS _ (QlR ..)))).1;have h:=(hb _ (QlS _ (QlS _ (QlS _ (QlR ..))))).1;simp at f h2 g h c;omega
 ·simp at l1
theorem Q6m {α:Type} {p:α->Bool}:∀ {l:List α},(l.find? p=none/\l.findIdx? p=none)\/∃ t j,l.find? p=some t/\l.findIdx? p=some j/\l[j]? = some t
 |[]=>.inl ⟨rfl,rfl⟩
 |a::l=>by
  rw [List.find?_cons,List.findIdx?_cons];cases ha:p a with
  |true=>exact .inr ⟨a,0,rfl,rfl,rfl⟩
  |false=>
   rcases Q6m (p:=p) (l:=l) with ⟨b,h2⟩ | ⟨t,j,b,h2,c⟩
   ·exact .inl ⟨b,by simp [h2]⟩
   ·exact .inr ⟨t,j+1,b,by simp [h2],c⟩
namespace Cx
variable {X:Cx} (h:X.OK)
include h
theorem rotsP:∃ rs:List (List Nat × Bool),X8 400 X.Ls (X.T.map tuR) some=some (Q30 rs)/\Jb 400 X.Ls (X.T.map tuR) some=some (Q30 rs)/\Zu 400 X.Ls (X.T.map tuR) some=some (encI ((List.range X.L).map (tix X.T)))/\(∀ r∈rs,1<=r.1.length/\∀ i∈r.1,i<X.Ls.length)/\Q32 rs<=3/\1<=rs.length/\QbB X.T rs=true:=by
 have hc:=Qj0 h.l0 h.l1 (fun t ht=>⟨(h.tr t ht).1,(h.tr t ht).2.1⟩) h.fd h.td;have l1:=h.l1;unfold Nx at hc;cases e1:X8 400 X.Ls (X.T.map tuR) some with
 |none=>rw [e1] at hc;cases hc
 |some a=>
  cases e2:Jb 400 X.Ls (X.T.map tuR) some with
  |none=>rw [e1,e2] at hc;cases hc
  |some b=>
   cases c:Zu 400 X.Ls (X.T.map tuR) some with
   |none=>rw [e1,e2,c] at hc;cases hc
   |some t=>
    rw [e1,e2,c] at hc;simp only [Qm7] at hc;obtain ⟨c1,d,e,f,g,j,k⟩:=hc;refine ⟨Qdu a,by rw [<- Qcb c1],by rw [Qcb d],by rw [Qcj e];rfl,fun r hr=>?_,?_,Qmj j,k⟩
    ·have:=Qma.1 f r hr;rw [Qm7] at this;exact ⟨Qmj this.1,fun i hi=>Qmj (Qma.1 this.2 i hi)⟩
    ·have:=Qmj g;omega
end Cx
def tat (tl:List Int) (i:Int):Int:=tl.getD i.toNat 0
def dur (tl:List Int) (per f t mn:Int):Int:=mn+(tat tl t-tat tl f-mn) % per
def Vq (tl:List Int) (per:Int):List D->Int
 |[_,.int _ f,.int _ t,.int _ mn,_,_]=>dur tl per f t mn
 |_=>0
namespace Cx
variable {X:Cx}
structure Gd (X:Cx) (per:Int) (Ch Sy A:LL) (tl:List Int):Prop where
 ok:X.OK
 ls:X.LsOK per Ch Sy
 p0:2<=per
 p1:per<=300
 act:∃ H,A=X.planned Ch Sy++H/\∀ r∈H,∃ a b w,r=Q5Q a b w
 len:A.length<400
 tlen:tl.length=2*X.N
 tr:∀ x∈tl,0<=x/\x<per
 ck:∀ r∈A,chk per (2*X.N) r=true
theorem Q6V {per:Int} {J:List Tup} {a:Nat}:∀ {c b:Nat} {H:LL},X.hdw per J a c b=some H->∀ r∈H,∃ a b w,r=Q5Q a b w
 |0,b,H,e=>by cases e;exact fun r hr=>nomatch hr
 |c+1,b,H,e=>by
  rw [hdw] at e;cases ew:X.WV per J a b with
  |none=>rw [ew] at e;cases e
  |some W=>
   rw [ew] at e;cases eh:X.hdw per J a c (b+1) with
   |none=>simp only [eh] at e;cases e
   |some H'=>
    simp only [eh] at e;cases e;intro r hr;rcases QlQ.1 hr with hr | hr
    ·obtain ⟨w,_,rfl⟩:=Qmi.1 hr;exact ⟨_,_,_,rfl⟩
    ·exact Q6V eh r hr
theorem hdws_rows {per:Int} {J:List Tup}:∀ {c a:Nat} {H:LL},X.hdws per J c a=some H->∀ r∈H,∃ a b w,r=Q5Q a b w
 |0,b,H,e=>by cases e;exact fun r hr=>nomatch hr
 |c+1,a,H,e=>by
  rw [hdws] at e;cases ew:X.hdw per J a c (a+1) with
  |none=>rw [ew] at e;cases e
  |some W=>
   rw [ew] at e;cases eh:X.hdws per J c (a+1) with
   |none=>simp only [eh] at e;cases e
   |some H'=>
    simp only [eh] at e;cases e;intro r hr;rcases QlQ.1 hr with hr | hr
    ·exact Q6V ew r hr
    ·exact hdws_rows eh r hr
theorem QcK {i:Nat} {r:List D}:∀ {K:Nat},r∈X.pl i K->∃ k,k<K/\(r=X.aR i k\/k<X.nr i-1/\r=X.aD i k)
 |0,h=>nomatch h
 |K+1,h=>by
  rw [pl] at h;rcases QlQ.1 h with h | h
  ·rcases QlQ.1 h with h | h
   ·obtain ⟨k,hk,h⟩:=QcK h;exact ⟨k,by omega,h⟩
   ·exact ⟨K,by omega,.inl (QlT.1 h)⟩
  ·split at h
   ·exact ⟨K,by omega,.inr ⟨by assumption,QlT.1 h⟩⟩
   ·nomatch h
theorem Q9T {r:List D}:∀ {L:Nat},r∈X.pls L->∃ i k,i<L/\k<X.nr i/\(r=X.aR i k\/k<X.nr i-1/\r=X.aD i k)
 |0,h=>nomatch h
 |L+1,h=>by
  rw [pls] at h;rcases QlQ.1 h with h | h
  ·obtain ⟨i,k,hi,h⟩:=Q9T h;exact ⟨i,k,by omega,h⟩
  ·obtain ⟨k,hk,h⟩:=QcK h;exact ⟨L,k,by omega,hk,h⟩
variable {per:Int} {Ch Sy A:LL} {tl:List Int}
theorem Q2I (h:X.OK) (hl:X.LsOK per Ch Sy) {H:LL} (hH:∀ r∈H,∃ a b w,r=Q5Q a b w) {r:List D} (hr:r∈X.planned Ch Sy++H):(∃ i k,i<X.Ls.length/\k<X.nr i/\(r=X.aR i k\/k<X.nr i-1/\r=X.aD i k))\/(∃ t∈X.T,r=X.tuE t)\/∃ kd f t mn mx w:Int,(kd=3\/kd=5\/kd=6)/\r=[Q4 kd,Q4 f,Q4 t,Q4 mn,Q4 mx,Q4 w]:=by
 rcases QlQ.1 hr with hr | hr
 ·rcases QlQ.1 hr with hr | hr
  ·rcases QlQ.1 hr with hr | hr
   ·rcases QlQ.1 hr with hr | hr
    ·exact .inl (Q9T hr)
    ·obtain ⟨row,ac,rfl⟩:=Qmi.1 hr;obtain ⟨f,fr,t,tr,mn,mx,w,rfl,_⟩:=hl.ch row ac;exact .inr (.inr ⟨3,_,_,mn,mx,w,.inl rfl,rfl⟩)
   ·obtain ⟨t,ht,rfl⟩:=Qmi.1 hr;exact .inr (.inl ⟨t,ht,rfl⟩)
  ·obtain ⟨row,ac,rfl⟩:=Qmi.1 hr;obtain ⟨o,rfl,_⟩:=hl.sy row ac;exact .inr (.inr ⟨5,_,_,o,o,0,.inr (.inl rfl),rfl⟩)
 ·obtain ⟨a,b,w,rfl⟩:=hH r hr;exact .inr (.inr ⟨6,_,_,w.1,w.2,0,.inr (.inr rfl),rfl⟩)
theorem act_r6 (h:X.OK) (hl:X.LsOK per Ch Sy) {H:LL} (hH:∀ r∈H,∃ a b w,r=Q5Q a b w) {r:List D} (hr:r∈X.planned Ch Sy++H):R6 r:=by
 rcases Q2I h hl hH hr with ⟨i,k,_,_,rfl | ⟨_,rfl⟩⟩ | ⟨t,_,rfl⟩ | ⟨kd,f,t,mn,mx,w,_,rfl⟩
 ·exact ⟨_,_,_,_,_,_,rfl⟩
 ·exact ⟨_,_,_,_,_,_,rfl⟩
 ·exact ⟨_,_,_,_,_,_,rfl⟩
 ·exact ⟨_,_,_,_,_,_,rfl⟩
variable (g:X.Gd per Ch Sy A tl)
include g
theorem Gd.r6 {r:List D} (hr:r∈A):R6 r:=by
 obtain ⟨H,rfl,hH⟩:=g.act;exact act_r6 g.ok g.ls hH hr
theorem Gd.tat {i:Int} (a:0<=i) (b:i<(2*X.N:Nat)):Q1 (encI tl) i=some [Q4 (Vx.tat tl i)]/\0<=Vx.tat tl i/\Vx.tat tl i<per:=by
 have hl:=g.tlen;have e:tl[i.toNat]? = some (Vx.tat tl i):=by
  unfold Vx.tat;rw [QlN,QlL (by omega)];rfl
 have:=Jm e;rw [show ((i.toNat:Nat):Int)=i by omega] at this;exact ⟨this,g.tr _ (QlJ e)⟩
theorem Gd.row {r:List D} (hr:r∈A):∃ kd f t mn mx w:Int,r=[Q4 kd,Q4 f,Q4 t,Q4 mn,Q4 mx,Q4 w]/\(0<=f/\f<(2*X.N:Nat))/\(0<=t/\t<(2*X.N:Nat)) /\ -65536<=mn/\mn<=65536:=by
 obtain ⟨kd,f,t,mn,mx,w,rfl⟩:=g.r6 hr;have:=Q2f (g.ck _ hr);exact ⟨kd,f,t,mn,mx,w,rfl,by omega,by omega,by omega⟩
theorem Gd.dur_rng {r:List D} (hr:r∈A) : -65536<=Vq tl per r/\Vq tl per r<=66000:=by
 obtain ⟨kd,f,t,mn,mx,w,rfl,hf,ht,a,h2⟩:=g.row hr;have p0:=g.p0;have p1:=g.p1;have:=QlZ (Vx.tat tl t-Vx.tat tl f-mn) (show per≠0 by omega);have:=QlY (Vx.tat tl t-Vx.tat tl f-mn) (show 0<per by omega);simp only [Vq,dur];omega
theorem Gd.durP {R:Type} {a:Nat} {r:List D} (e:A[a]? = some r) (K:Int->oP R):Xt 400 per A (encI tl) (a:Int) K=K (Vq tl per r):=by
 have hr:=QlJ e;have p0:=g.p0;have p1:=g.p1;obtain ⟨kd,f,t,mn,mx,w,rfl,hf,ht,b,h2⟩:=g.row hr;have tf:=g.tat hf.1 hf.2;have tt:=g.tat ht.1 ht.2;have:=QlZ (Vx.tat tl t-Vx.tat tl f-mn) (show per≠0 by omega);have:=QlY (Vx.tat tl t-Vx.tat tl f-mn) (show 0<per by omega);unfold Xt;rw [Q9,e];simp -implicitDefEqProofs only [Q0,QlF,QlI,Q2,tf.1,tt.1,Q6 (x:=Vx.tat tl t-Vx.tat tl f) (by omega) (by omega),Q6 (x:=Vx.tat tl t-Vx.tat tl f-mn) (by omega) (by omega),Qeq (n:=400) (t:=per) (x:=Vx.tat tl t-Vx.tat tl f-mn) (by omega) (by omega) (by omega) (by omega),Q6 (x:=mn+(Vx.tat tl t-Vx.tat tl f-mn) % per) (by omega) (by omega)];rfl
end Cx
def Q0l (l:List Bool):LL:=l.map fun b=>[D.bool b]
theorem Ju {w:List Int} {i:Nat} (h:i<w.length):(encI w)[i]? = some [Q4 w[i]]:=by
 exact Jm (QlL h)
theorem Q5t {w:List Bool} {i:Nat} (h:i<w.length):(Q0l w)[i]? = some [D.bool w[i]]:=by
 simp [Q0l,Qm5,QlL]
theorem Q23 {w:List Bool}:(Q0l w).length=w.length:=by simp [Q0l]
theorem Q7j {w:List Bool} {i:Nat} {v:Bool}:(Q0l w).set i [D.bool v]=Q0l (w.set i v):=by
 grind [Q0l,List.map_set]
def TG (per:Int) (k:Nat) (w:List Int):Prop:=w.length=k/\∀ x∈w,0<=x/\x<per
theorem TG.set {per:Int} {k:Nat} {w:List Int} (h:TG per k w) {i:Nat} {v:Int} (a:0<=v) (b:v<per):TG per k (w.set i v):=by
 refine ⟨by rw [Qmc];exact h.1,fun x hx=>?_⟩;rcases List.mem_or_eq_of_mem_set hx with hx | rfl
 ·exact h.2 x hx
 omega
theorem TG.tat {per:Int} {k:Nat} {w:List Int} (h:TG per k w) {i:Int} (a:0<=i) (b:i<(k:Int)):Q1 (encI w) i=some [Q4 (Vx.tat w i)]/\0<=Vx.tat w i/\Vx.tat w i<per:=by
 have hl:=h.1;have e:w[i.toNat]? = some (Vx.tat w i):=by
  simp_all [Vx.tat,QlN,QlL]
 have:=Jm e;rw [show ((i.toNat:Nat):Int)=i by omega] at this;exact ⟨this,h.2 _ (QlJ e)⟩
section
variable {R:Type} {n N:Nat} (hN:N<=48) {P:oP R->Prop}
include hN
theorem Qfv {k0:Int->Bool->LL->oP R} (H:∀ w:List Int,w.length=N->P (k0 (N:Int) false (encI w))):∀ (c i m:Nat) (w:List Int),i+c=N->c<m->w.length=N->P (Zi n (N:Int) k0 m (i:Int) (encI w))
 |0,i,m+1,w,hi,_,hw=>by
  rw [Zi,show i=N by omega,Qi,QlH];exact H w hw
 |c+1,i,m+1,w,hi,hm,hw=>by
  rw [Zi,Q8 (by omega),cond_true,Y0 (by omega) (by rw [QN];omega),Q0,QlG,Ju (by omega),Q0,Qm4,MK,Ql (by omega)];exact Qfv H c (i+1) m _ (by omega) (by omega) (by rw [Qmc];exact hw)
theorem Qa6 {x y:Int} {k0:Int->Bool->LL->oP R} (H:∀ w:List Int,w.length=N->P (k0 (N:Int) false (encI w))):∀ (c i m:Nat) (w:List Int),i+c=N->c<m->w.length=N->P (Zg n x y (N:Int) k0 m (i:Int) (encI w))
 |0,i,m+1,w,hi,_,hw=>by
  rw [Zg,show i=N by omega,Qi,QlH];exact H w hw
 |c+1,i,m+1,w,hi,hm,hw=>by
  rw [Zg,Q8 (by omega),cond_true,Y0 (by omega) (by rw [QN];omega),Q0,QlG,Ju (by omega)];simp -implicitDefEqProofs only [Q0,QlF,Q2,Qm4,MK,Ql (show i<=1000 by omega)];cases w[i]'(by omega) == y with
  |true=>exact Qa6 H c (i+1) m _ (by omega) (by omega) (by rw [Qmc];exact hw)
  |false=>exact Qa6 H c (i+1) m _ (by omega) (by omega) hw
theorem Qfo (hn:N<n) {w:List Int} (hw:w.length=N) {kd f t mn mx q:Int} (hf:0<=f/\f<N) (ht:0<=t/\t<N) {K:Bool->LL->oP R} (H:∀ b (w:List Int),w.length=N->P (K b (encI w))):P (JO n (encI w) kd f t mn mx q K):=by
 obtain ⟨f,rfl⟩:=Qme hf.1;obtain ⟨t,rfl⟩:=Qme ht.1;unfold JO;rw [Y0 (by omega) (by grind [QN]),Q0,QlG,Ju (show f<w.length by omega),Q0];simp -implicitDefEqProofs only [Q0,QlF,Q2];rw [Y0 (by omega) (by rw [QN];omega),Q0,QlG,Ju (show t<w.length by omega),Q0];simp -implicitDefEqProofs only [Q0,QlF,Q2];cases w[f]'(by omega) == w[t]'(by omega) with
 |true=>simp_all
 |false=>
  rw [QlH,QN];generalize w[f]'(by omega)=x;generalize w[t]'(by omega)=y;rw [hw];exact Qa6 hN (H true) N 0 n w (by omega) hn hw
theorem QdG {h:Nat} (hh:h<N) {ro:List Int} (hr:ro.length=N) {k0:Int->Bool->LL->oP R} (H:∀ w:List Int,w.length=N->P (k0 (h:Int) false (encI w))):∀ (c i m:Nat) (w:List Int),i+c=h->c<m->w.length=N->P (Yw n (h:Int) (encI ro) k0 m (i:Int) (encI w))
 |0,i,m+1,w,hi,_,hw=>by
  rw [Yw,show i=h by omega,Qi,QlH];exact H w hw
 |c+1,i,m+1,w,hi,hm,hw=>by
  rw [Yw,Q8 (by omega),cond_true];simp -implicitDefEqProofs only [Y0 (len:=(encI ro).length) (n:=(i:Int)) (by omega) (by rw [QN];omega),Y0 (len:=(encI ro).length) (n:=(h:Int)) (by omega) (by rw [QN];omega),Y0 (len:=(encI w).length) (n:=(i:Int)) (by omega) (by rw [QN];omega),Y0 (len:=(encI w).length) (n:=(h:Int)) (by omega) (by rw [QN];omega),QlG,Ju (show i<ro.length by omega),Ju (show h<ro.length by omega),Ju (show i<w.length by omega),Ju (show h<w.length by omega),Q0,QlF,Q2,Qm4,MK,Ql (show i<=1000 by omega)];cases ro[i]'(by omega) == ro[h]'(by omega) with
  |true=>exact QdG hh hr H c (i+1) m _ (by omega) (by omega) (by rw [Qmc];exact hw)
  |false=>exact QdG hh hr H c (i+1) m _ (by omega) (by omega) hw
theorem Qdw (hn:N<n) {ro:List Int} (hr:ro.length=N) {k0:Int->Int->Bool->LL->oP R} (H:∀ a (w:List Int),w.length=N->P (k0 a (N:Int) false (encI w))):∀ (c i m:Nat) (a:Int) (w:List Int),i+c=N->c<m->w.length=N->P (Yx n (N:Int) (encI ro) k0 m a (i:Int) (encI w))
 |0,i,m+1,a,w,hi,_,hw=>by
  rw [Yx,show i=N by omega,Qi,QlH];exact H a w hw
 |c+1,i,m+1,a,w,hi,hm,hw=>by
  rw [Yx,Q8 (by omega),cond_true,Y0 (by omega) (by rw [QN];omega),Q0,QlG,Ju (show i<w.length by omega),Q0,Qm4,MK];refine QdG hN (show i<N by omega) hr (fun w hw=>?_) i 0 n _ (by omega) (by omega) (by rw [Qmc];exact hw);simp -implicitDefEqProofs only [Y0 (len:=(encI w).length) (n:=(i:Int)) (by omega) (by rw [QN];omega),QlG,Ju (show i<w.length by omega),Q0,QlF,Q2,Qm4,MK,Ql (show i<=1000 by omega)];cases decide (w[i]'(by omega)<0) with
  |true=>exact Qdw hn hr H c (i+1) m _ _ (by omega) (by omega) (by rw [Qmc];exact hw)
  |false=>exact Qdw hn hr H c (i+1) m _ _ (by omega) (by omega) hw
theorem QhI {A:LL} (hA:A.length<400) {per:Int} (hr:∀ r∈A,R6 r) (hc:∀ r∈A,chk per N r=true) (hn:N<n) {k0:Int->Bool->LL->oP R} (H:∀ a b (w:List Int),w.length=N->P (k0 a b (encI w))):∀ (ac:LL) (i m:Nat) (w:List Int),A.drop i=ac->ac.length<m->w.length=N->P (Zf n A k0 m (i:Int) (encI w)):=by
 intro ac;induction ac with
 |nil=>
  intro i m w hd hm hw;obtain ⟨m,rfl⟩:∃ k,m=k+1:=⟨m-1,by omega⟩;have:=U4 hd;rw [Zf,show decide ((i:Int)<((A.length:Nat):Int))=false by simp_all,QlH]
  simp_all
 |cons r ac ih=>
  intro i m w hd hm hw;obtain ⟨m,rfl⟩:∃ k,m=k+1:=⟨m-1,by simp at hm;omega⟩;obtain ⟨e,ao,an⟩:=Yb hd;have aj:=QlJ e;obtain ⟨kd,f,t,mn,mx,q,rfl⟩:=hr r aj;have hk:=Q2f (hc _ aj);rw [Qmb] at hm;rw [Zf,Q8 an,cond_true,Q9,e];simp -implicitDefEqProofs only [Q0,QlF,QlI,Q2,Ql (show i<=1000 by omega)];have hx:∃ b w',JO n (encI w) kd f t mn mx q Tu2=some (b,encI w')/\w'.length=N:=Qfo (P:=fun X=>∃ b w',X=some (b,encI w')/\w'.length=N) hN hn hw (by omega) (by omega) fun b w' h=>⟨b,w',rfl,h⟩
  obtain ⟨b,w',e',ak⟩:=hx;rw [e',Q0];dsimp only;rw [MA (by rw [QN,QN];omega),Q0];exact ih (i+1) m w' ao (by omega) ak
theorem Q8C {h:Nat} (hh:h<N) {ro:List Int} (hr:ro.length=N) {k0:Int->Bool->LL->oP R} (H:∀ w:List Bool,w.length=N->P (k0 (h:Int) false (Q0l w))):∀ (c i m:Nat) (w:List Bool),i+c=h->c<m->w.length=N->P (YP n (encI ro) (h:Int) k0 m (i:Int) (Q0l w))
 |0,i,m+1,w,hi,_,hw=>by
  rw [YP,show i=h by omega,Qi,QlH];exact H w hw
 |c+1,i,m+1,w,hi,hm,hw=>by
  rw [YP,Q8 (by omega),cond_true];simp -implicitDefEqProofs only [Q9,Y0 (len:=(Q0l w).length) (n:=(h:Int)) (by omega) (by rw [Q23];omega),QlG,Ju (show i<ro.length by omega),Ju (show h<ro.length by omega),Q5t (show h<w.length by omega),Q0,QlF,Q2,Qm4,Q7j,Ql (show i<=1000 by omega)];cases ro[i]'(by omega) == ro[h]'(by omega) with
  |true=>exact Q8C hh hr H c (i+1) m _ (by omega) (by omega) (by rw [Qmc];exact hw)
  |false=>exact Q8C hh hr H c (i+1) m _ (by omega) (by omega) hw
theorem QcL (hn:N<n) {ro:List Int} (hr:ro.length=N) {k0:Int->Bool->LL->oP R} (H:∀ w:List Bool,w.length=N->P (k0 (N:Int) false (Q0l w))):∀ (c i m:Nat) (w:List Bool),i+c=N->c<m->w.length=N->P (ZF n (encI ro) (N:Int) k0 m (i:Int) (Q0l w))
 |0,i,m+1,w,hi,_,hw=>by
  rw [ZF,show i=N by omega,Qi,QlH];exact H w hw
 |c+1,i,m+1,w,hi,hm,hw=>by
  rw [ZF,Q8 (by omega),cond_true,Y0 (by omega) (by rw [Q23];omega),Q0,QlG,Q5t (show i<w.length by omega),Q0,Qm4,Q7j,Ql (by omega)];exact Q8C hN (show i<N by omega) hr (fun w hw=>QcL hn hr H c (i+1) m w (by omega) (by omega) hw) i 0 n _ (by omega) (by omega) (by rw [Qmc];exact hw)
omit hN in
theorem QgY:List.replicate N [D.int .i64 (0:Int)]=encI (List.replicate N 0):=by grind [encI,List.map_replicate]
omit hN in
theorem QiM:List.replicate N [D.bool false]=Q0l (List.replicate N false):=by grind [Q0l,List.map_replicate]
omit hN in
theorem Q9v:(bif decide ((0:Int)<=((N:Nat):Int))&&decide (((N:Nat):Int)<=((N:Nat):Int)) then some () else none)=some ():=by simp_all
end
def FsB (A:LL) (per:Int) (i:Nat) (w:List Int):Prop:=∀ kd f t mn mx q:Int,[Q4 kd,Q4 f,Q4 t,Q4 mn,Q4 mx,Q4 q]∈A->0<=f->f<(i:Int)->0<=t->t<(i:Int)->mn+(tat w t-tat w f-mn) % per<=mx
def TF (A:LL) (per:Int) (k i:Nat) (w:List Int):Prop:=TG per k w/\FsB A per i w
section
variable {per:Int} {E A:LL} {n:Nat} (p0:2<=per) (p1:per<=300) (hE:E.length<=48) (hA:A.length<400) (hr:∀ r∈A,R6 r) (hc:∀ r∈A,chk per E.length r=true) (hn:n=400)
include p0 p1 hE hA hr hc hn
theorem Qig (ac:UF n per E A some=some true):∃ w:List Int,JU n per E A some=some (encI w)/\w.length=E.length:=by
 unfold JU;rw [ac,Q0,QlW,QlH,Q9v,Q0,QlG,Xr (by omega),Q0,List.length_replicate,QgY];refine Qfv (P:=fun X=>∃ w:List Int,X=some (encI w)/\w.length=E.length) hE (fun w hw=>?_) E.length 0 n _ (by omega) (by omega) (by simp);refine QhI (P:=fun X=>∃ w:List Int,X=some (encI w)/\w.length=E.length) hE hA hr hc (by omega) (fun a b w hw=>?_) A 0 n w rfl (by omega) hw;rw [QN,hw,Q9v,Q0,QlG,Xr (by omega),Q0,QgY];exact Qdw (P:=fun X=>∃ w:List Int,X=some (encI w)/\w.length=E.length) hE (by omega) hw (fun a w hw=>⟨w,rfl,hw⟩) E.length 0 n 0 _ (by omega) (by omega) (by simp)
theorem Qj7 (ac:UF n per E A some=some true) {bu:Int} {al:Bool}:∃ w:List Bool,K3 n per E A bu al Tu11=some (per,E,A,Q0l w,bu,0,false,al,false,0,encI (List.replicate E.length 0))/\w.length=E.length:=by
 obtain ⟨ro,k,h2⟩:=Qig p0 p1 hE hA hr hc hn ac;unfold K3;rw [k,Q0,Q9v,Q0,QlG,Xr (by omega),Q0,Q0,Xr (by omega),Q0,QgY,QiM,QN,h2];exact QcL (P:=fun X=>∃ w:List Bool,X=some (per,E,A,Q0l w,bu,0,false,al,false,0,encI (List.replicate E.length 0))/\w.length=E.length) hE (by omega) h2 (fun w hw=>⟨w,rfl,hw⟩) E.length 0 n _ (by omega) (by omega) (by simp)
theorem Qcy {R:Type} {w:List Int} (hw:TG per E.length w) {kd f t mn mx q:Int} (hm:[Q4 kd,Q4 f,Q4 t,Q4 mn,Q4 mx,Q4 q]∈A) (K:Int->oP R):G8 n per (encI w) f t mn K=K (mn+(tat w t-tat w f-mn) % per):=by
 have hk:=Q2f (hc _ hm);have tf:=hw.tat (i:=f) (by omega) (by omega);have tt:=hw.tat (i:=t) (by omega) (by omega);have:=QlZ (tat w t-tat w f-mn) (show per≠0 by omega);have:=QlY (tat w t-tat w f-mn) (show 0<per by omega);unfold G8;simp -implicitDefEqProofs only [Q0,QlF,QlI,Q2,tf.1,tt.1,Q6 (x:=tat w t-tat w f) (by omega) (by omega),Q6 (x:=tat w t-tat w f-mn) (by omega) (by omega),QgA (n:=n) (t:=per) (x:=tat w t-tat w f-mn) (by omega) (by omega) (by omega) (by omega),Q6 (x:=mn+(tat w t-tat w f-mn) % per) (by omega) (by omega)]
theorem Qhc {w:List Int} (hw:TG per E.length w) {al fd:Bool} {best i:Int}:∃ b,Zp n per A al fd best (encI w) i some=some b/\(al=false->b=false->∀ kd f t mn mx q:Int,[Q4 kd,Q4 f,Q4 t,Q4 mn,Q4 mx,Q4 q]∈A->f<=i->t<=i->mn+(tat w t-tat w f-mn) % per<=mx):=by
 unfold Zp;have go:∀ (ac:LL) (j m:Nat) (s:Int),A.drop j=ac->ac.length<m->∃ b,X0 n i (encI w) per A (some true) (fun o u v=>some (bif (bif al then fd else false) then (decide (o>=best)) else false)) m s (j:Int)=some b/\(al=false->b=false->∀ kd f t mn mx q:Int,[Q4 kd,Q4 f,Q4 t,Q4 mn,Q4 mx,Q4 q]∈ac->f<=i->t<=i->mn+(tat w t-tat w f-mn) % per<=mx):=by
  intro ac;induction ac with
  |nil=>
   intro j m s hd hm;obtain ⟨m,rfl⟩:∃ k,m=k+1:=⟨m-1,by simp at hm;omega⟩;have:=U4 hd;rw [X0,show decide ((j:Int)<((A.length:Nat):Int))=false by simpa using this,QlH]
   simp_all
  |cons r ac ih=>
   intro j m s hd hm;obtain ⟨m,rfl⟩:∃ k,m=k+1:=⟨m-1,by simp at hm;omega⟩;obtain ⟨e,ar,aw⟩:=Yb hd;have aq:=QlJ e;obtain ⟨kd,f,t,mn,mx,q,rfl⟩:=hr r aq;rw [Qmb] at hm;rw [X0,Q8 aw,cond_true,Q9,e];simp -implicitDefEqProofs only [Q0,QlF,QlI,Q2,Qcy p0 p1 hE hA hr hc hn hw aq,Ql (show j<=1000 by omega)];cases l:(bif decide (f>i) then true else decide (t>i)) with
   |true=>
    obtain ⟨b,hb,an⟩:=ih (j+1) m (wJ (s+wJ (q*mn))) ar (by omega);refine ⟨b,hb,fun a h2 ak f' t' aj ao q' c d g=>?_⟩;rcases List.mem_cons.1 c with h | h
    ·cases h;rw [decide_eq_false (by omega),decide_eq_false (by omega)] at l;cases l
    ·exact an a h2 ak f' t' aj ao q' h d g
   |false=>
    rw [QlH];cases p:decide (mn+(tat w t-tat w f-mn) % per>mx) with
    |true=>exact ⟨_,rfl,fun _ h=>nomatch h⟩
    |false=>
     obtain ⟨b,hb,an⟩:=ih (j+1) m (wJ (s+wJ (q*(mn+(tat w t-tat w f-mn) % per)))) ar (by omega);refine ⟨b,hb,fun a h2 ak f' t' aj ao q' c d g=>?_⟩;rcases List.mem_cons.1 c with h | h
     ·cases h;have:=of_decide_eq_false p;omega
     ·exact an a h2 ak f' t' aj ao q' h d g
 exact go A 0 n 0 rfl (by omega)
theorem Qib {w:List Int} (hw:TG per E.length w):∃ c e,MM n per E A (encI w) Tu2=some (c,e):=by
 have hg:=(QfF p0 p1 hE (by omega) hr hA (tl:=w)).2;rw [<- hn] at hg;unfold MM;rw [hg,Q0];cases Q7I per E A w with
 |false=>exact ⟨_,_,rfl⟩
 |true=>
  rw [QlW,QlH];have go:∀ (ac:LL) (j m:Nat) (s:Int),A.drop j=ac->ac.length<m->∃ c e,Ji n (encI w) per A (fun d g h=>some (d,(0:Int))) m s (j:Int)=some (c,e):=by
   intro ac;induction ac with
   |nil=>
    intro j m s hd hm;obtain ⟨m,rfl⟩:∃ k,m=k+1:=⟨m-1,by simp at hm;omega⟩;have:=U4 hd;rw [Ji,show decide ((j:Int)<((A.length:Nat):Int))=false by simpa using this,QlH];exact ⟨_,_,rfl⟩
   |cons r ac ih=>
    intro j m s hd hm;obtain ⟨m,rfl⟩:∃ k,m=k+1:=⟨m-1,by simp at hm;omega⟩;obtain ⟨e,an,ak⟩:=Yb hd;have aj:=QlJ e;obtain ⟨kd,f,t,mn,mx,q,rfl⟩:=hr r aj;rw [Qmb] at hm;rw [Ji,Q8 ak,cond_true,Q9,e];simp -implicitDefEqProofs only [Q0,QlF,QlI,Q2,Qcy p0 p1 hE hA hr hc hn hw aj,Ql (show j<=1000 by omega)];exact ih (j+1) m _ an (by omega)
  exact go A 0 n 0 rfl (by omega)
omit p0 p1 hE hA hr hc hn in
theorem TF.dn {i:Nat} {w:List Int} {k:Nat} (h:TF A per k (i+1) w):TF A per k i w:=⟨h.1,fun kd f t mn mx q hm a b h2 c=>h.2 kd f t mn mx q hm a (by omega) h2 (by omega)⟩
omit p0 p1 hE hA hr hc hn in
theorem TF.set {i:Nat} {w:List Int} {k:Nat} {v:Int} (h:TF A per k i w) (c:0<=v) (d:v<per):TF A per k i (w.set i v):=by
 refine ⟨h.1.set c d,fun kd f t mn mx q hm g0 g1 a b=>?_⟩;have e:∀ x:Int,0<=x->x<(i:Int)->tat (w.set i v) x=tat w x:=fun x g j=>by
  unfold tat;rw [QlN,QlN,List.getElem?_set_ne (by omega)]
 rw [e f g0 g1,e t a b];exact h.2 kd f t mn mx q hm g0 g1 a b
def QgD (per:Int) (E A:LL) (i:Nat) (fs:List Bool) (bu:Int) (X:Option (Bool × Int × LL × LL × LL × Int × Int × Bool × Bool × Bool × Int × LL × LL)):Prop:=
 ∃ r us ov fd best res w,X=some (r,per,E,A,Q0l fs,bu,us,ov,false,fd,best,res,encI w)/\TF A per E.length i w/\(fd=true->∃ v,res=encI v/\TF A per E.length E.length v)
theorem Qg0 {fs:List Bool} (bg:fs.length=E.length) {bu:Int}:∀ (c d i:Nat) (us:Int) (ov fd:Bool) (best:Int) (res:LL) (w:List Int),i+c=E.length->c<d->TF A per E.length i w->(fd=true->∃ v,res=encI v/\TF A per E.length E.length v) ->
  QgD per E A i fs bu (Xn n d per E A (Q0l fs) bu us ov false fd best res (encI w) (i:Int)):=by
 intro c;induction c with
 |zero=>
  intro d i us ov fd best res w hi hd hw hf;obtain ⟨d,rfl⟩:∃ k,d=k+1:=⟨d-1,by omega⟩;obtain ⟨c,e,a2⟩:=Qib p0 p1 hE hA hr hc hn hw.1;obtain rfl:i=E.length:=by omega
  rw [Xn,J8,show (((E.length:Nat):Int) == ((E.length:Nat):Int))=true by simp,cond_true,QN,hw.1.1,Xr (by omega),Q0,a2,Q0];exact ⟨_,_,_,_,_,_,_,rfl,hw,fun _=>⟨w,rfl,hw⟩⟩
 |succ c ih=>
  intro d i us ov fd best res w hi hd hw hf;obtain ⟨d,rfl⟩:∃ k,d=k+1:=⟨d-1,by omega⟩;rw [Xn,J8,show (((i:Nat):Int) == ((E.length:Nat):Int))=false by simp;omega,QlH,Y0 (by omega) (by rw [Q23];omega),Q0,QlG,Q5t (show i<fs.length by omega)];simp -implicitDefEqProofs only [Q0,QlF,PM];have ay:∀ (M:Nat),(M:Int)<=per->∀ (k:Nat) (t m:Nat) (us:Int) (ov fd:Bool) (best:Int) (res:LL) (w:List Int),t+k=M->k<m->TF A per E.length i w->(fd=true->∃ v,res=encI v/\TF A per E.length E.length v) ->
    ∀ {k0:LL->LL->Int->LL->LL->Int->Int->Bool->Bool->Bool->Int->LL->Option (Bool × Int × LL × LL × LL × Int × Int × Bool × Bool × Bool × Int × LL × LL)} {k1:Int->Bool->LL->LL->Int->LL->LL->Int->Int->Bool->Bool->Bool->Int->LL->Option (Bool × Int × LL × LL × LL × Int × Int × Bool × Bool × Bool × Int × LL × LL)},
    (∀ us ov fd best res w,TF A per E.length i w->(fd=true->∃ v,res=encI v/\TF A per E.length E.length v)->QgD per E A i fs bu (k0 (Q0l fs) (encI w) per E A bu us ov false fd best res)) ->
    (∀ a b us ov fd best res w,TF A per E.length i w->(fd=true->∃ v,res=encI v/\TF A per E.length E.length v)->QgD per E A i fs bu (k1 a b (Q0l fs) (encI w) per E A bu us ov false fd best res)) ->
    QgD per E A i fs bu (Xf n (Xn n d) (i:Int) (M:Int) k0 k1 m (t:Int) (Q0l fs) (encI w) per E A bu us ov false fd best res):=by
   intro M hM k;induction k with
   |zero=>
    intro t m us ov fd best res w ht hm hw hf k0 k1 g h;obtain ⟨m,rfl⟩:∃ k,m=k+1:=⟨m-1,by omega⟩;rw [Xf,show t=M by omega,Qi,QlH];exact h _ _ _ _ _ _ _ w hw hf
   |succ k a3=>
    intro t m us ov fd best res w ht hm hw hf k0 k1 g h;obtain ⟨m,rfl⟩:∃ k,m=k+1:=⟨m-1,by omega⟩;have bk:=hw.1.1;rw [Xf,Q8 (by omega),cond_true];cases decide (wJ (us+1)>bu) with
    |true=>exact g _ _ _ _ _ w hw hf
    |false=>
     have az:TF A per E.length i (w.set i (t:Int)):=hw.set (by omega) (by omega);obtain ⟨b,hb,a4⟩:=Qhc p0 p1 hE hA hr hc hn az.1 (al:=false) (fd:=fd) (best:=best) (i:=(i:Int));rw [QlH,Y0 (by omega) (by rw [QN];omega),Q0,QlG,Ju (show i<w.length by omega),Q0,Qm4,MK,hb,Q0,Ql (show i<=1000 by omega),Ql (show t<=1000 by omega)];cases b with
     |true=>
      simp -implicitDefEqProofs only [QlW,QlH];exact a3 (t+1) m _ _ _ _ _ _ (by omega) (by omega) az hf g h
     |false=>
      obtain ⟨r,a8,bb,bh,a5,a6,bi,hx,aw,ax⟩:=ih d (i+1) (wJ (us+1)) ov fd best res _ (by omega) (by omega) ⟨az.1,fun kd f t mn mx q hm g h h2 h3=>a4 rfl rfl kd f t mn mx q hm (by omega) (by omega)⟩ hf;rw [Qm9,cond_true,hx,Q0];cases r with
      |true=>exact a3 (t+1) m _ _ _ _ _ _ (by omega) (by omega) aw.dn ax g h
      |false=>exact g _ _ _ _ _ _ aw.dn ax
  have e1:((1:Nat):Int)=1:=rfl;obtain ⟨q,hq⟩:=Qme (show 0<=per by omega);cases fs[i]'(by omega) with
  |true=>exact ay 1 (by omega) 1 0 n us ov fd best res w (by omega) (by omega) hw hf (fun us ov fd best res w hw hf=>⟨_,_,_,_,_,_,_,rfl,hw,hf⟩) fun a b us ov fd best res w hw hf=>⟨_,_,_,_,_,_,_,rfl,hw,hf⟩
  |false=>
   have:=ay q (by omega) q 0 n us ov fd best res w (by omega) (by omega) hw hf (k0:=fun j l o p s u x y z aa ab ac=>some (false,o,p,s,j,u,x,y,z,aa,ab,ac,l)) (k1:=fun au av ad ae ag ah ai aj ak am an ao ap aq=>some (true,ag,ah,ai,ad,aj,ak,am,an,ao,ap,aq,ae)) (fun us ov fd best res w hw hf=>⟨_,_,_,_,_,_,_,rfl,hw,hf⟩) fun a b us ov fd best res w hw hf=>⟨_,_,_,_,_,_,_,rfl,hw,hf⟩
   rw [<- hq] at this;exact this
theorem Qif (ac:UF n per E A some=some true):∃ res us e,UT n per E A 3000 Tu3=some (res,us,e)/\(e=0->∃ v,res=encI v/\TG per E.length v/\FsB A per E.length v):=by
 obtain ⟨fs,a,h2⟩:=Qj7 p0 p1 hE hA hr hc hn ac (bu:=3000) (al:=false);obtain ⟨r,us,ov,fd,best,res,w,hx,hw,hf⟩:=Qg0 p0 p1 hE hA hr hc hn h2 (bu:=3000) E.length n 0 0 false false 0 [] (List.replicate E.length 0) (by omega) (by omega) ⟨⟨by simp,fun x hx=>by have:=List.eq_of_mem_replicate hx;omega⟩,fun kd f t mn mx q hm g a=>by omega⟩ (fun e=>nomatch e);have aj:Q22 n 3000 1 1048576 (some:Bool->Option Bool)=some true:=rfl;unfold UT F4;rw [ac,Q0,QlW,QlH,aj,Q0,QlW,QlH,a,Q0];dsimp only;rw [show ((0:Nat):Int)=0 from rfl] at hx;rw [hx,Q0];dsimp only;cases ov with
 |true=>exact ⟨_,_,_,rfl,fun e=>by cases e⟩
 |false=>
  cases fd with
  |false=>exact ⟨_,_,_,rfl,fun e=>by cases e⟩
  |true=>exact ⟨_,_,_,rfl,fun _=>hf rfl⟩
omit p0 p1 hE hA hr hc hn in
theorem Qhe (ac:UF n per E A some=some false):∃ res us,UT n per E A 3000 Tu3=some (res,us,1):=by
 unfold UT F4;rw [ac,Q0,Qm9,cond_true];exact ⟨_,_,rfl⟩
end
namespace Cx
variable {X:Cx} {per:Int} {Ch Sy A:LL} {tl:List Int}
theorem Qcd {i:Nat} (hn:X.nr i=1\/X.nr i=2):(X.nr i=1/\X.pl i (X.nr i)=[X.aR i 0])\/(X.nr i=2/\X.pl i (X.nr i)=[X.aR i 0,X.aD i 0,X.aR i 1]):=by
 rcases hn with hn | hn
 ·exact .inl ⟨hn,by rw [hn];simp [pl,hn]⟩
 ·exact .inr ⟨hn,by rw [hn];simp [pl,hn]⟩
theorem Qa7 {i j:Nat} (hj:j<(X.pl i (X.nr i)).length):∀ {L:Nat},i<L->(X.pls L)[(X.pls i).length+j]? = (X.pl i (X.nr i))[j]?
 |0,h=>by omega
 |L+1,h=>by
  rw [pls];by_cases hi:i=L
  ·subst hi;rw [List.getElem?_append_right (by omega),Nat.add_sub_cancel_left]
  ·have ih:=Qa7 hj (L:=L) (by omega);have ac:(X.pls i).length+j<(X.pls L).length:=by
    rw [QlL hj] at ih;exact (QlV.1 ih).1
   rw [List.getElem?_append_left ac,ih]
variable (h:X.OK)
include h
theorem FZ {i:Nat} (hi:i<=X.Ls.length):(X.pls i).length+i=2*base X.nr i:=by
 induction i with
 |zero=>rfl
 |succ i ih=>
  have ih:=ih (by omega);rw [pls,List.length_append,base];rcases Qcd (Jv h (i:=i) (by omega)).2.1 with ⟨a,h2⟩ | ⟨a,h2⟩
  ·rw [h2,a];simp;omega
  ·rw [h2,a];simp;omega
omit h
variable (g:X.Gd per Ch Sy A tl)
include g
theorem Gd.runAt {i k:Nat} (hi:i<X.Ls.length) (hk:k<X.nr i):A[2*base X.nr i-i+2*k]? = some (X.aR i k)/\(k<X.nr i-1->A[2*base X.nr i-i+2*k+1]? = some (X.aD i k)):=by
 obtain ⟨H,rfl,_⟩:=g.act;have hl:=FZ g.ok (i:=i) (by omega);have a:2*base X.nr i-i=(X.pls i).length:=by omega
 have at':∀ j r,(X.pl i (X.nr i))[j]? = some r->(X.planned Ch Sy++H)[2*base X.nr i-i+j]? = some r:=fun j r e=>by
  have hj:=(QlV.1 e).1;have e2:=Qa7 hj (L:=X.L) hi;rw [e] at e2;have ac:=(QlV.1 e2).1;unfold planned;rw [a,QlO,QlO,QlO,List.getElem?_append_left ac,e2]
 rcases Qcd (Jv g.ok hi).2.1 with ⟨b,h2⟩ | ⟨b,h2⟩
 ·obtain rfl:k=0:=by omega
  exact ⟨at' 0 _ (by rw [h2];rfl),fun h=>by omega⟩
 ·obtain rfl | rfl:k=0\/k=1:=by omega
  ·exact ⟨at' 0 _ (by rw [h2];rfl),fun _=>at' 1 _ (by rw [h2];rfl)⟩
  ·exact ⟨at' 2 _ (by rw [h2];rfl),fun h=>by omega⟩
theorem Gd.turnAt {j:Nat} {t:Tup} (e:X.T[j]? = some t):A[2*X.N-X.L+Ch.length+j]? = some (X.tuE t):=by
 obtain ⟨H,rfl,_⟩:=g.act;have hl:=FZ g.ok (i:=X.L) (QlU _);have a:2*X.N-X.L+Ch.length=(X.pls X.L++Ch.map X.chE).length:=by rw [List.length_append,QlK];unfold N;omega
 have hj:=(QlV.1 e).1;unfold planned;rw [a,QlO,QlO,List.getElem?_append_right (by omega),Nat.add_sub_cancel_left,List.getElem?_append_left (by simpa using hj),Qm5,e];rfl
def runV (X:Cx) (per:Int) (tl:List Int) (i k:Nat):Int:=Vq tl per (X.aR i k)
def gapV (X:Cx) (per:Int) (tl:List Int) (i k:Nat):Int × Bool:=if k<X.nr i-1 then (Vq tl per (X.aD i k),true) else match X.tn i with
 |some t=>(Vq tl per (X.tuE t),true)
 |none=>(0,false)
theorem Gd.run_mem {i k:Nat} (hi:i<X.Ls.length) (hk:k<X.nr i):X.aR i k∈A:=QlJ (g.runAt hi hk).1
theorem Gd.turn_mem {t:Tup} (ht:t∈X.T):X.tuE t∈A:=by
 obtain ⟨j,e⟩:=List.getElem?_of_mem ht;exact QlJ (g.turnAt e)
theorem Gd.runV_rng {i k:Nat} (hi:i<X.Ls.length) (hk:k<X.nr i) : -65536<=X.runV per tl i k/\X.runV per tl i k<=66000:=g.dur_rng (g.run_mem hi hk)
theorem Gd.gapV_rng {i k:Nat} (hi:i<X.Ls.length) (hk:k<X.nr i) : -65536<=(X.gapV per tl i k).1/\(X.gapV per tl i k).1<=66000:=by
 unfold gapV;split
 ·exact g.dur_rng (QlJ ((g.runAt hi hk).2 (by assumption)))
 ·cases e:X.tn i with
  |none=>simp
  |some t=>exact g.dur_rng (g.turn_mem (DO e).1)
variable {R:Type}
theorem Gd.runP {i k:Nat} (hi:i<X.Ls.length) (hk:k<X.nr i) (K:Int->oP R):Xo 400 per A (encI tl) (X.fst X.L) (i:Int) (k:Int) K=K (X.runV per tl i k):=by
 have hb:=XS g.ok (i:=i) (by omega);have hl:=FZ g.ok (i:=i) (by omega);have hn:=(Jv g.ok hi).2.1;have l1:=g.ok.l1;have e:=Q7l (X:=X) (i:=i) (L:=X.L) hi;rw [Q9] at e;have el:(X.fst X.L).length=X.Ls.length:=by simp [fst,encI,L]
 have hx:wJ (wJ (((2*base X.nr i:Nat):Int)-(i:Int))+((2*k:Nat):Int))=((2*base X.nr i-i+2*k:Nat):Int):=by
  rw [Q6 (x:=((2*base X.nr i:Nat):Int)-(i:Int)) (by omega) (by omega),Q6 (by omega) (by omega)];omega
 unfold Xo;rw [Y0 (by omega) (by omega),Q0,QlG,e];simp -implicitDefEqProofs only [Q0,QlF,Q2,Sb (a:=base X.nr i) (by omega),Sb (a:=k) (by omega),hx,g.durP (g.runAt hi hk).1];rfl
theorem Gd.gapP {i k:Nat} (hi:i<X.Ls.length) (hk:k<X.nr i) (K:Int->Bool->oP R):X1 400 X.Ls Ch per A (encI tl) (encI ((List.range X.L).map (tix X.T))) (X.fst X.L) ((X.N:Nat):Int) (i:Int) (k:Int) K=K (X.gapV per tl i k).1 (X.gapV per tl i k).2:=by
 have hb:=XS g.ok (i:=i) (by omega);have hN:X.N<=6:=base_le g.ok;have hl:=FZ g.ok (i:=i) (by omega);have ac:=FZ g.ok (i:=X.L) (QlU _);have hn:=(Jv g.ok hi).2.1;have l1:=g.ok.l1;have chl:=g.ls.chl;have an:=g.ok.tl;have hw:wJ (((List.length (Gr X.Ls i):Nat):Int)-1)=((X.nr i-1:Nat):Int):=Jy (k:=X.nr i) (by omega) (by omega);unfold X1 gapV;rw [Q9,(Jv g.ok hi).1];simp -implicitDefEqProofs only [Q0,QlF,QlI,Qw,hw];by_cases b:k<X.nr i-1
 ·have e:=Q7l (X:=X) (i:=i) (L:=X.L) hi;rw [Q9] at e;have el:(X.fst X.L).length=X.Ls.length:=by simp [fst,encI,L]
  have hx:wJ (wJ (wJ (((2*base X.nr i:Nat):Int)-(i:Int))+((2*k:Nat):Int))+1)=((2*base X.nr i-i+2*k+1:Nat):Int):=by
   rw [Q6 (x:=((2*base X.nr i:Nat):Int)-(i:Int)) (by omega) (by omega),Q6 (x:=((2*base X.nr i:Nat):Int)-(i:Int)+((2*k:Nat):Int)) (by omega) (by omega),Q6 (by omega) (by omega)];omega
  rw [Q8 b,cond_true,if_pos b,Y0 (by omega) (by omega),Q0,QlG,e];simp -implicitDefEqProofs only [Q0,QlF,Q2,Sb (a:=base X.nr i) (by omega),Sb (a:=k) (by omega),hx,g.durP ((g.runAt hi hk).2 b)]
 ·rw [show decide ((k:Int)<((X.nr i-1:Nat):Int))=false from decide_eq_false (by omega),QlH,Qmd b];have et:Q1 (encI ((List.range X.L).map (tix X.T))) (i:Int)=some [Q4 (tix X.T i)]:=Jm (by simp [show i<X.L from hi]);rw [et];simp -implicitDefEqProofs only [Q0,QlF,Q2];unfold tix tn;rcases Q6m (l:=X.T) (p:=fun t=>t.1 == i) with ⟨c,h2⟩ | ⟨t,j,c,h2,d⟩
  ·simp only [c,h2];rfl
  ·have aj:=(QlV.1 d).1;simp only [c,h2];have hx:wJ (wJ (wJ (((2*X.N:Nat):Int)-((List.length X.Ls:Nat):Int))+((List.length Ch:Nat):Int))+(j:Int))=((2*X.N-X.L+Ch.length+j:Nat):Int):=by
    unfold L at ac ⊢;unfold N at hN ⊢;unfold L at hN ⊢;rw [Q6 (x:=((2*base X.nr X.Ls.length:Nat):Int)-((List.length X.Ls:Nat):Int)) (by omega) (by omega),Q6 (x:=((2*base X.nr X.Ls.length:Nat):Int)-((List.length X.Ls:Nat):Int)+((List.length Ch:Nat):Int)) (by omega) (by omega),Q6 (by omega) (by omega)];omega
   rw [show decide ((j:Int)>=0)=true from QlM (by omega),cond_true,Sb (a:=X.N) (by omega),hx,g.durP (g.turnAt d),Q0]
end Cx
end Go.Vx
namespace Go.Vx
variable {R:Type} (n:Nat)
def Jc (b c d e f:LL) (g:Int) (h:List UInt8) (i j k l:Int) (K:LL->Int->Int->oP R):oP R:=Qjl R (ZY n b c d e f g h i j k l 0 0 Tu3) fun a=>K a.1 a.2.1 a.2.2
end Go.Vx
namespace Go.Vx
theorem Ma {l:List Nat} {j i:Nat} (e:l[j]? = some i):Q1 (EB l) (j:Int)=some [Q4 (i:Int)]:=by
 rw [Q9];unfold EB;rw [Qm5,e];rfl
namespace Cx
def sumR (X:Cx) (per:Int) (tl:List Int) (i:Nat):Nat->Int
 |0=>0
 |k+1=>sumR X per tl i k+(X.runV per tl i k+(X.gapV per tl i k).1)
def sumL (X:Cx) (per:Int) (tl:List Int) (ls:List Nat):Int:=ls.foldl (fun s i=>s+X.sumR per tl i (X.nr i)) 0
def lapsV (X:Cx) (per:Int) (tl:List Int) (ls:List Nat) (c:Bool):Int:=bif c then (X.sumL per tl ls).tdiv per else 0
variable {X:Cx} {per:Int} {Ch Sy A:LL} {tl:List Int} (g:X.Gd per Ch Sy A tl) {R:Type}
include g
theorem Gd.sumR_rng {i:Nat} (hi:i<X.Ls.length):∀ {k:Nat},k<=X.nr i -> -200000*(k:Int)<=X.sumR per tl i k/\X.sumR per tl i k<=200000*(k:Int)
 |0,_=>by simp [sumR]
 |k+1,hk=>by
  have ih:=Gd.sumR_rng hi (k:=k) (by omega);have a:=g.runV_rng hi (show k<X.nr i by omega);have h2:=g.gapV_rng hi (show k<X.nr i by omega);rw [sumR];omega
theorem Gd.sumL_rng {ls:List Nat} (ac:∀ i∈ls,i<X.Ls.length):∀ {j:Nat},j<=ls.length -> -400000*(j:Int)<=X.sumL per tl (ls.take j)/\X.sumL per tl (ls.take j)<=400000*(j:Int)
 |0,_=>by simp [sumL]
 |j+1,hj=>by
  have ih:=Gd.sumL_rng ac (j:=j) (by omega);have e:=QlL (l:=ls) (i:=j) (by omega);have hi:=ac _ (QlJ e);have hn:=(Jv g.ok hi).2.1;have a:=g.sumR_rng hi (QlU (X.nr ls[j]));rw [Yn e];unfold sumL at ih ⊢;rw [List.foldl_append];simp only [Qmh,List.foldl_nil];omega
theorem Ai {ls:List Nat} {j i:Nat} (e:ls[j]? = some i):X.sumL per tl (ls.take (j+1))=X.sumL per tl (ls.take j)+X.sumR per tl i (X.nr i):=by
 rw [Yn e];unfold sumL;rw [List.foldl_append];rfl
theorem Gd.lapsP {ls:List Nat} {c:Bool} (ac:∀ i∈ls,i<X.Ls.length) (ak:ls.length<=10) (K:Int->oP R):ZP 400 X.Ls Ch per A (encI tl) (encI ((List.range X.L).map (tix X.T))) (X.fst X.L) ((X.N:Nat):Int) (EB ls) c K=K (X.lapsV per tl ls c):=by
 have p0:=g.p0;have p1:=g.p1;unfold ZP lapsV;cases c
 ·rfl
 rw [QlW,QlH,cond_true,show (EB ls).length=ls.length by simp [EB]];have hs:=g.sumL_rng ac (QlU ls.length);rw [QlX] at hs;have hb:((X.sumL per tl ls).tdiv per).natAbs=(X.sumL per tl ls).natAbs / per.natAbs:=Int.natAbs_tdiv ..;have an:(X.sumL per tl ls).tdiv per<=10000000 /\ -10000000<=(X.sumL per tl ls).tdiv per:=by
  have:=Nat.div_le_self (X.sumL per tl ls).natAbs per.natAbs;omega
 refine Qm (r:=fun m j=>X5 400 (EB ls) ((ls.length:Nat):Int) (X.fst X.L) X.Ls Ch per A (encI tl) (encI ((List.range X.L).map (tix X.T))) ((X.N:Nat):Int) (fun a b d=>gb true (nz per) () fun f=>K (wJ (Int.tdiv a per))) m (X.sumL per tl (ls.take j.toNat)) j) (N:=ls.length) (fun m j hj=>?_) (fun m=>?_) ls.length 400 0 (by omega) (by omega)
 ·simp only [QlG];have e:=QlL hj;have hi:=ac _ (QlJ e);have ao:=g.sumL_rng ac (j:=j) (by omega);have hn:=(Jv g.ok hi).2.1;rw [X5,Q8 hj,cond_true,Ma e];simp -implicitDefEqProofs only [Q0,QlF,QlI,Q2,Qw,Q9,(Jv g.ok hi).1,Ql (show j<=1000 by omega)];refine Qm (r:=fun m' k=>XC 400 ((ls[j]:Nat):Int) ((X.nr ls[j]:Nat):Int) (X.fst X.L) X.Ls Ch per A (encI tl) (encI ((List.range X.L).map (tix X.T))) ((X.N:Nat):Int) (fun h l n=>X5 400 (EB ls) ((ls.length:Nat):Int) (X.fst X.L) X.Ls Ch per A (encI tl) (encI ((List.range X.L).map (tix X.T))) ((X.N:Nat):Int) (fun a b d=>gb true (nz per) () fun f=>K (wJ (Int.tdiv a per))) m h ((j+1:Nat):Int)) m' (X.sumL per tl (ls.take j)+X.sumR per tl ls[j] k.toNat) k) (N:=X.nr ls[j]) (fun m' k hk=>?_) (fun m'=>?_) (X.nr ls[j]) 400 0 (by omega) (by omega) |> Qmg (by simp [sumR];rfl)
  ·simp only [QlG];have hr:=g.sumR_rng hi (k:=k) (by omega);have o:=g.runV_rng hi hk;have h2:=g.gapV_rng hi hk;rw [XC,Q8 hk,cond_true,g.gapP hi hk,Q0,g.runP hi hk,Q0,Q6 (x:=X.runV per tl ls[j] k+(X.gapV per tl ls[j] k).1) (by omega) (by omega),Q6 (by omega) (by omega),Ql (show k<=1000 by omega),sumR,Int.add_assoc]
  ·simp only [QlG];rw [XC,Qi,QlH,Ai g e]
 ·simp only [QlG];rw [X5,Qi,QlH,QlX,Ek (by omega),Q0,Q6 (by omega) (by omega)]
omit g
def stair (X:Cx) (i k:Nat):List Occ:=Q5w X.G.St X.G.Pt X.G.Se X.G.Li (X.st i k) (X.rn i k) 0 0
variable (h:X.OK)
include h
theorem Eu {i k:Nat} (hi:i<X.Ls.length) (hk:k<X.nr i):OL (-1) (X.stair i k)/\(X.stair i k).length<=6:=Qas (rd h hi hk).rt h.sk (by omega) (by omega) (by omega) (by omega)
theorem Qfg {i k:Nat} (hi:i<X.Ls.length) (hk:k<X.nr i) (K:LL->Int->Int->oP R):Jc 400 X.G.St X.G.Pt X.G.Se X.G.Li (X.st i k) 0 X.nm X.tl X.sp X.ac X.br K=K ((X.stair i k).map enc) (X.run i k) 0:=by
 have hh:=QfH (rd h hi hk).rt (nm:=X.nm) h.sk (show (0:Int)<=0 by omega) (by omega) (show (0:Int)<=0 by omega) (by omega);unfold Wj at hh;have r:=(rd h hi hk).rt;rw [Qe4 r.lay rfl r.l2 r.l24 r.rt r.st h.sk,Q0,Qa (by rfl),Qa (by rfl)] at hh;unfold Jc;cases e:ZY 400 X.G.St X.G.Pt X.G.Se X.G.Li (X.st i k) 0 X.nm X.tl X.sp X.ac X.br 0 0 Tu3 with
 |none=>rw [e] at hh;cases hh
 |some v=>
  obtain ⟨a,b,c⟩:=v;rw [e,Q0] at hh;cases hh;rfl
end Cx
theorem Q8Z {St Pt Se Li s:LL} (h:RtF St Pt Se Li s) {j:Nat} (hj:j<s.length):∃ (d:Int) (nm:List UInt8) (a b c st:Int),s[j]? = some [Q4 (sec s j:Int),Q4 d]/\Q1 Se (sec s j:Int)=some [D.str nm,Q4 a,Q4 b,Q4 c,Q4 st]:=by
 obtain ⟨x,d,nm,b,c,st,e,f,a0,a1,hd⟩:=Ef h.st hj;have hx:=H8 f;have g:0<=x:=by
  have h2:=hx.1;unfold inB at h2;by_cases hc:0<=x
  ·exact hc
  ·rw [show (decide (0<=x)&&decide (x<(Se.length:Int)))=false by simp;omega] at h2;cases h2
 have ac:x=((sec s j:Nat):Int):=by
  unfold sec;rw [QlN,e];show x=((x.toNat:Nat):Int);omega
 rw [ac] at e f;exact ⟨d,nm,_,b,c,st,e,f⟩
def Cv (T:List Occ) (r:Nat) (f t:Int):Prop:=∃ x a b,T[r]? = some (x,a,b)/\a<=f/\t<=b/\a<b
theorem Cv.add {T:List Occ} {r r':Nat} {f t f' t':Int} (h:Cv T r f t) (hf:f'<t'):Cv (Nq T r' f' t') r f t:=by
 obtain ⟨x,a,b,e,i,h2,g⟩:=h;have hr:=(QlV.1 e).1;unfold Nq;by_cases ac:r'=r
 ·subst ac;rw [e];dsimp only;rw [if_pos g];refine ⟨_,_,_,by rw [List.getElem?_set_self hr],?_,?_,?_⟩
  ·split <;> omega
  ·split <;> omega
  ·split <;> split <;> omega
 ·cases e':T[r']? with
  |none=>exact ⟨x,a,b,e,i,h2,g⟩
  |some q=>
   obtain ⟨y,c,d⟩:=q;dsimp only;split
   ·exact ⟨x,a,b,by rw [List.getElem?_set_ne ac,e],i,h2,g⟩
   ·exact ⟨x,a,b,by rw [List.getElem?_set_ne ac,e],i,h2,g⟩
theorem Cv.new {T:List Occ} {r:Nat} {f t:Int} (hf:f<t) (hr:r<T.length):Cv (Nq T r f t) r f t:=by
 obtain ⟨⟨x,a,b⟩,e⟩:∃ q,T[r]? = some q:=⟨T[r],QlL hr⟩;unfold Nq;rw [e];dsimp only;split
 ·refine ⟨_,_,_,by rw [List.getElem?_set_self hr],?_,?_,?_⟩
  ·split <;> omega
  ·split <;> omega
  ·split <;> split <;> omega
 ·exact ⟨_,_,_,by rw [List.getElem?_set_self hr],Qmf _,Qmf _,hf⟩
def Bd (R:Int) (T:List Occ):Prop:=∀ q∈T,q.2.1<q.2.2->q.2.1<=R/\0<=q.2.2
theorem Bd.add {R:Int} {T:List Occ} (h:Bd R T) {r:Nat} {f t:Int} (hf:f<=R) (ht:0<=t):Bd R (Nq T r f t):=by
 unfold Nq;cases e:T[r]? with
 |none=>exact h
 |some q=>
  obtain ⟨x,a,b⟩:=q;have c:=h _ (QlJ e);dsimp only at c ⊢;split
  ·intro q hq _;rcases List.mem_or_eq_of_mem_set hq with hq | rfl
   ·exact h q hq (by assumption)
   ·have c:=c (by assumption);dsimp only;constructor <;> split <;> omega
  ·intro q hq _;rcases List.mem_or_eq_of_mem_set hq with hq | rfl
   ·exact h q hq (by assumption)
   ·exact ⟨hf,ht⟩
section
variable {N NP:Nat} {Li s:LL} {f g:Nat->Int}
theorem Q5Y (hs:∀ i,i<s.length->sec s i<N) (a:∀ i,i<s.length->f i<g i) (h2:∀ i,1<=i->i<s.length->f i<g (i-1)) {j:Nat}:∀ {i:Nat},j<i->i<=s.length->Cv (Tg N NP Li s f g i) (sec s j) (f j) (g j)
 |0,hj,_=>by omega
 |i+1,hj,hi=>by
  have hf:=a i (by omega);have hl:sec s i<(Tg N NP Li s f g i).length:=by
   have:=hs i (by omega);rw [T9];omega
  have hc:Cv (Nq (Tg N NP Li s f g i) (sec s i) (f i) (g i)) (sec s j) (f j) (g j):=by
   by_cases e:j=i
   ·subst e;exact Cv.new hf hl
   ·exact (Q5Y hs a h2 (i:=i) (by omega) (by omega)).add hf
  rw [Tg];split
  ·exact hc
  ·split
   ·exact hc
   ·exact hc.add (h2 i (by omega) (by omega))
theorem Q9u {R:Int} (c:∀ i,i<s.length->f i<=R/\0<=g i):∀ {i:Nat},i<=s.length->Bd R (Tg N NP Li s f g i)
 |0,_=>by
  intro q hq ac;rw [Tg] at hq;have:=List.eq_of_mem_replicate hq;subst this;simp at ac
 |i+1,hi=>by
  have ih:=Q9u c (i:=i) (by omega);have a:=c i (by omega);rw [Tg];split
  ·exact ih.add a.1 a.2
  ·have b:=c (i-1) (by omega);split
   ·exact ih.add a.1 a.2
   ·exact (ih.add a.1 a.2).add a.1 b.2
end
theorem QdT {St Pt Se Li s:LL} (h:RtF St Pt Se Li s) {nm:List UInt8} {tl sp ac br:Int} (hk:StkN tl sp ac br) {i:Nat} (hi:i<=s.length):TI (Tg Se.length Pt.length Li s (fr Se s (YV Se s nm tl sp ac br) 0) (tu Se s (YV Se s nm tl sp ac br) 0) i):=by
 have aj:=fun i (hi:i<s.length)=>QcS h (nm:=nm) hk (Qmf 0) (by omega) (Qmf 0) (by omega) hi
 induction i with
 |zero=>
  intro r x a b e ak;obtain ⟨d,h2⟩:=QlV.1 e;simp only [Tg,List.getElem_replicate] at h2;cases h2;omega
 |succ i ih=>
  have ih:=ih (by omega);have q:=aj i (by omega);rw [Tg];split
  ·exact ih.add q.1 q.2
  ·have c:=aj (i-1) (by omega);split
   ·exact ih.add q.1 q.2
   ·exact (ih.add q.1 q.2).add q.1 c.2
namespace Cx
variable {X:Cx} (h:X.OK)
include h
theorem Qch {i k:Nat} (hi:i<X.Ls.length) (hk:k<X.nr i) {j:Nat} (hj:j<(X.st i k).length):sec (X.st i k) j<X.G.Se.length:=by
 obtain ⟨d,nm,a,b,c,st,_,e⟩:=Q8Z (rd h hi hk).rt hj;have:=(H8 e).1;unfold inB at this;by_cases hc:(sec (X.st i k) j:Int)<(X.G.Se.length:Int)
 ·omega
 ·rw [decide_eq_false hc,Bool.and_false] at this;cases this
theorem Q9H {i k:Nat} (hi:i<X.Ls.length) (hk:k<X.nr i) :
  (∀ q∈X.stair i k,0<=q.1/\q.2.1<q.2.2/\q.2.1<=X.run i k/\0<=q.2.2)/\(∃ q∈X.stair i k,q.1<(X.G.Se.length:Int)/\0<q.2.2) /\
  ∀ s,0<=s->s<X.run i k->∃ q∈X.stair i k,q.2.1<=s/\s<q.2.2:=by
 have hr:=(rd h hi hk).rt;have l2:=hr.l2;have a4:=MH hr.lay;have aq:=fun j (hj:j<(X.st i k).length)=>Qch h hi hk hj
 have ak:=fun j (hj:j<(X.st i k).length)=>Qgc hr (nm:=X.nm) h.sk (Qmf 0) (by omega) (Qmf 0) (by omega) hj
 have an:=fun a b (aw:a<=b) (hb:b<(X.st i k).length)=>Q1s hr (nm:=X.nm) h.sk aw hb
 have ay:=Eu h hi hk;unfold run;have er:X.rn i k=YV X.G.Se (X.st i k) X.nm X.tl X.sp X.ac X.br:=rfl;rw [<- er] at ak an;have ar:=Mp hr (nm:=X.nm) h.sk;rw [<- er] at ar;have hlast:=an ((X.st i k).length-1) ((X.st i k).length-1) (QlU _) (by omega);have aj:fLV X.G.Se (X.st i k) (X.rn i k) ((X.st i k).length-1)=(X.rn i k).T (X.rn i k).N:=by unfold fLV;rw [Qmd (by omega)]
 rw [aj] at hlast;have a7:=L9 (a:=(X.rn i k).T (X.rn i k).N) (by omega) (show (1:Int)<=1000 by decide);have eS:Q0F (X.rn i k)=cd ((X.rn i k).T (X.rn i k).N) 1000:=rfl;have l:fr X.G.Se (X.st i k) (X.rn i k) 0 0=0:=by unfold fr;simp
 have a5:tu X.G.Se (X.st i k) (X.rn i k) 0 ((X.st i k).length-1)=Q0F (X.rn i k):=by unfold tu;rw [Qmd (by omega)];omega
 have hb:∀ j,j<(X.st i k).length->fr X.G.Se (X.st i k) (X.rn i k) 0 j<=Q0F (X.rn i k)/\0<=tu X.G.Se (X.st i k) (X.rn i k) 0 j:=by
  intro j hj;have hT:=an (j-1) ((X.st i k).length-1) (by omega) (by omega);rw [aj] at hT;have hL:=an j j (QlU _) hj;have hc:=L9 (a:=fLV X.G.Se (X.st i k) (X.rn i k) j) (by omega) (show (1:Int)<=1000 by decide);constructor
  ·unfold fr;split <;> omega
  ·unfold tu;split <;> omega
 have a2:∀ j,1<=j->j<(X.st i k).length->fr X.G.Se (X.st i k) (X.rn i k) 0 j<=tu X.G.Se (X.st i k) (X.rn i k) 0 (j-1):=fun j c hj=>by
  have:=(ak j hj).2.2.2 c;omega
 have au:∀ j,j<(X.st i k).length->∃ q∈X.stair i k,q.1=(sec (X.st i k) j:Int)/\q.2.1<=fr X.G.Se (X.st i k) (X.rn i k) 0 j/\tu X.G.Se (X.st i k) (X.rn i k) 0 j<=q.2.2:=fun j hj=>by
  obtain ⟨x,a,b,e,c,h2,d⟩:=Q5Y (N:=X.G.Se.length) (NP:=X.G.Pt.length) (Li:=X.G.Li) (s:=X.st i k) (f:=fr X.G.Se (X.st i k) (X.rn i k) 0) (g:=tu X.G.Se (X.st i k) (X.rn i k) 0) aq (fun j hj=>(ak j hj).2.1) (fun j c hj=>(ak j hj).2.2.2 c) (j:=j) (i:=(X.st i k).length) hj (QlU _);have hm:(x,a,b)∈X.stair i k:=List.mem_filter.2 ⟨QlJ e,by simpa [Pf] using d⟩;refine ⟨_,hm,?_,c,h2⟩;have ax:TI (Tg X.G.Se.length X.G.Pt.length X.G.Li (X.st i k) (fr X.G.Se (X.st i k) (X.rn i k) 0) (tu X.G.Se (X.st i k) (X.rn i k) 0) (X.st i k).length):=QdT hr h.sk (QlU _);exact (ax _ _ _ _ e d).1
 refine ⟨fun q hq=>?_,?_,fun s s0 s1=>?_⟩
 ·have hm:=ay.1.mem q hq;have az:=Q9u (N:=X.G.Se.length) (NP:=X.G.Pt.length) (Li:=X.G.Li) hb (QlU _) q (List.mem_filter.1 hq).1 hm.2.2.1;exact ⟨by omega,hm.2.2.1,az⟩
 ·obtain ⟨q,hq,e,_,h2⟩:=au 0 (by omega);have:=aq 0 (by omega);have:=(ak 0 (by omega)).2.1;exact ⟨q,hq,by omega,by omega⟩
 ·have ao:∀ n,n<(X.st i k).length->s<tu X.G.Se (X.st i k) (X.rn i k) 0 n->∃ j,j<(X.st i k).length/\fr X.G.Se (X.st i k) (X.rn i k) 0 j<=s/\s<tu X.G.Se (X.st i k) (X.rn i k) 0 j:=by
   intro n;induction n with
   |zero=>exact fun hn hs=>⟨0,hn,by omega,hs⟩
   |succ n ih=>
    intro hn hs;by_cases hc:fr X.G.Se (X.st i k) (X.rn i k) 0 (n+1)<=s
    ·exact ⟨n+1,hn,hc,hs⟩
    ·have:=a2 (n+1) (by omega) hn;exact ih (by omega) (by rw [Nat.add_sub_cancel] at this;omega)
  obtain ⟨j,hj,c,h2⟩:=ao ((X.st i k).length-1) (by omega) (by omega);obtain ⟨q,hq,_,d,m⟩:=au j hj;exact ⟨q,hq,by omega,by omega⟩
end Cx
abbrev U:=Nat × Nat × Int × Int × Int
def LW (u:U):List D:=[Q4 (u.1:Int),Q4 (u.2.1:Int),Q4 u.2.2.1,Q4 u.2.2.2.1,Q4 u.2.2.2.2]
def Dj (us:List U) (u:U):List U:=if 0<u.2.2.2.1 then us++[u] else us
theorem Ru {us:List U} {u:U}:(Dj us u).length<=us.length+1:=by
 unfold Dj;split <;> simp
namespace Cx
variable {X:Cx} {per:Int} {Ch Sy A:LL} {tl:List Int}
def endV (X:Cx) (per:Int) (tl:List Int) (i k:Nat) (at':Int):Int:=at'+X.runV per tl i k+(if (X.gapV per tl i k).2=true then (X.gapV per tl i k).1 else 60)
def occU (train:Nat) (laps at':Int) (us:List U) (l:List Occ):List U:=l.foldl (fun us o=>Dj us (o.1.toNat,train,at'+o.2.1,o.2.2-o.2.1,laps)) us
def stM (X:Cx) (per:Int) (tl:List Int) (mv c:Bool) (idx train:Nat) (laps:Int) (i k:Nat) (s:Int × List U):Int × List U:=
 (X.endV per tl i k s.1,Dj (bif mv then occU train laps s.1 (if c=false/\idx=0/\k=0 then Dj s.2 (sec (X.st i k) 0,train,s.1-60,60,laps) else s.2) (X.stair i k) else if c=false/\idx=0/\k=0 then Dj s.2 (sec (X.st i k) 0,train,s.1-60,60,laps) else s.2) (sec (X.st i k) ((X.st i k).length-1),train,s.1+X.run i k,X.endV per tl i k s.1-s.1-X.run i k,laps))
def rideM (X:Cx) (per:Int) (tl:List Int) (mv c:Bool) (idx train:Nat) (laps:Int) (i:Nat) (s:Int × List U):Nat->Int × List U
 |0=>s
 |k+1=>X.stM per tl mv c idx train laps i k (rideM X per tl mv c idx train laps i s k)
def lineM (X:Cx) (per:Int) (tl:List Int) (mv c:Bool) (train:Nat) (laps:Int) (ls:List Nat) (s:Int × List U):Nat->Int × List U
 |0=>s
 |j+1=>X.rideM per tl mv c j train laps (ls.getD j 0) (lineM X per tl mv c train laps ls s j) (X.nr (ls.getD j 0))
def trainM (X:Cx) (per:Int) (tl:List Int) (mv:Bool) (us:List U) (train:Nat) (r:List Nat × Bool):List U:=(X.lineM per tl mv r.2 train (X.lapsV per tl r.1 r.2) r.1 (tat tl ((2*base X.nr (r.1.getD 0 0):Nat):Int),us) r.1.length).2
def usesM (X:Cx) (per:Int) (tl:List Int) (mv:Bool) (rs:List (List Nat × Bool)):Nat->List U
 |0=>[]
 |j+1=>X.trainM per tl mv (usesM X per tl mv rs j) j (rs.getD j ([],false))
variable (g:X.Gd per Ch Sy A tl)
include g
theorem Gd.endV_rng {i k:Nat} (hi:i<X.Ls.length) (hk:k<X.nr i) {a:Int}:a-140000<=X.endV per tl i k a/\X.endV per tl i k a<=a+140000:=by
 have b:=g.runV_rng hi hk;have h2:=g.gapV_rng hi hk;unfold endV;split <;> omega
omit g in
theorem B4 {train:Nat} {laps a:Int}:∀ {l:List Occ} {us:List U},(occU train laps a us l).length<=us.length+l.length
 |[],us=>by simp [occU]
 |o::l,us=>by
  have:=B4 (train:=train) (laps:=laps) (a:=a) (l:=l) (us:=Dj us (o.1.toNat,train,a+o.2.1,o.2.2-o.2.1,laps));have:=Ru (us:=us) (u:=(o.1.toNat,train,a+o.2.1,o.2.2-o.2.1,laps));rw [Qmb];unfold occU at *
  rw [Qmh];omega
theorem Gd.rideM_rng {mv c:Bool} {idx train:Nat} {laps:Int} {i:Nat} (hi:i<X.Ls.length) {s:Int × List U}:∀ {k:Nat},k<=X.nr i->s.1-140000*(k:Int)<=(X.rideM per tl mv c idx train laps i s k).1/\(X.rideM per tl mv c idx train laps i s k).1<=s.1+140000*(k:Int)/\(X.rideM per tl mv c idx train laps i s k).2.length<=s.2.length+8*k
 |0,_=>by simp [rideM]
 |k+1,hk=>by
  have ih:=Gd.rideM_rng (mv:=mv) (c:=c) (idx:=idx) (train:=train) (laps:=laps) hi (s:=s) (k:=k) (by omega);have he:=g.endV_rng hi (show k<X.nr i by omega) (a:=(X.rideM per tl mv c idx train laps i s k).1);rw [rideM];unfold stM;refine ⟨by dsimp only;omega,by dsimp only;omega,Nat.le_trans Ru ?_⟩;have b:=(Eu g.ok hi (show k<X.nr i by omega)).2;have hf:(if c=false/\idx=0/\k=0 then Dj (X.rideM per tl mv c idx train laps i s k).2 (sec (X.st i k) 0,train,(X.rideM per tl mv c idx train laps i s k).1-60,60,laps) else (X.rideM per tl mv c idx train laps i s k).2).length<=(X.rideM per tl mv c idx train laps i s k).2.length+1:=by
   split
   ·exact Ru
   ·omega
  cases mv with
  |false=>rw [QlH];omega
  |true=>
   rw [cond_true];have:=B4 (train:=train) (laps:=laps) (a:=(X.rideM per tl true c idx train laps i s k).1) (l:=X.stair i k) (us:=if c=false/\idx=0/\k=0 then Dj (X.rideM per tl true c idx train laps i s k).2 (sec (X.st i k) 0,train,(X.rideM per tl true c idx train laps i s k).1-60,60,laps) else (X.rideM per tl true c idx train laps i s k).2);omega
theorem Gd.lineM_rng {mv c:Bool} {train:Nat} {laps:Int} {ls:List Nat} (ac:∀ i∈ls,i<X.Ls.length) {s:Int × List U}:∀ {j:Nat},j<=ls.length->s.1-280000*(j:Int)<=(X.lineM per tl mv c train laps ls s j).1/\(X.lineM per tl mv c train laps ls s j).1<=s.1+280000*(j:Int)/\(X.lineM per tl mv c train laps ls s j).2.length<=s.2.length+16*j
 |0,_=>by simp [lineM]
 |j+1,hj=>by
  have ih:=Gd.lineM_rng (mv:=mv) (c:=c) (train:=train) (laps:=laps) ac (s:=s) (j:=j) (by omega);have e:=QlL (l:=ls) (i:=j) (by omega);have hi:=ac _ (QlJ e);have hn:=(Jv g.ok hi).2.1;have hd:ls.getD j 0=ls[j]:=by rw [QlN,e];rfl
  rw [lineM,hd];have:=g.rideM_rng (mv:=mv) (c:=c) (idx:=j) (train:=train) (laps:=laps) hi (s:=X.lineM per tl mv c train laps ls s j) (QlU (X.nr ls[j]));omega
omit g in
theorem Q6d {rs:List (List Nat × Bool)}:∀ {j:Nat} {r:List Nat × Bool},rs[j]? = some r->Q32 (rs.take (j+1))=Q32 (rs.take j)+r.1.length:=by
 induction rs with
 |nil=>exact fun h=>by simp at h
 |cons a rs ih=>
  intro j r e;cases j with
  |zero=>cases e;simp [Q32]
  |succ j=>
   have:=ih (j:=j) (by simpa using e);rw [List.take_succ_cons,List.take_succ_cons,Q32,Q32,this];omega
omit g in
theorem Q8T {rs:List (List Nat × Bool)}:∀ {j:Nat},Q32 (rs.take j)<=Q32 rs:=by
 induction rs with
 |nil=>simp
 |cons a rs ih=>
  intro j;cases j with
  |zero=>exact Qmk _
  |succ j=>rw [List.take_succ_cons,Q32,Q32];exact Nat.add_le_add_left ih _
structure RsOK (X:Cx) (rs:List (List Nat × Bool)):Prop where
 ls:∀ r∈rs,1<=r.1.length/\∀ i∈r.1,i<X.Ls.length
 sum:Q32 rs<=3
omit g in
theorem RsOK.len3 {rs:List (List Nat × Bool)} (hr:X.RsOK rs) {j:Nat} {r:List Nat × Bool} (e:rs[j]? = some r):r.1.length<=3:=by
 have:=Q6d e;have:=Q8T (rs:=rs) (j:=j+1);have:=hr.sum;omega
omit g in
theorem RsOK.n3:∀ {rs:List (List Nat × Bool)},X.RsOK rs->rs.length<=Q32 rs
 |[],_=>QlU _
 |a::rs,hr=>by
  have:=hr.ls a (.head _);have ih:=RsOK.n3 (rs:=rs) ⟨fun r h=>hr.ls r (.tail _ h),by have:=hr.sum;rw [Q32] at this;omega⟩;rw [Qmb,Q32];omega
end Cx
theorem MC {us:List U} {u v:U} (h:v∈Dj us u):v∈us\/v=u/\0<u.2.2.2.1:=by
 grind [Dj]
theorem Q2u {us:List U} {u v:U} (h:v∈us):v∈Dj us u:=by
 grind [Dj,List.mem_append_left]
theorem QaU {us:List U} {u:U} (h:0<u.2.2.2.1):u∈Dj us u:=by
 grind [Dj]
structure CovI (t:Nat) (lo hi:Int) (us:List U):Prop where
 le:lo<=hi
 nn:0<=hi
 bd:∀ u∈us,u.2.1=t->u.2.2.1<=hi/\lo<=u.2.2.1+u.2.2.2.1
 cv:∀ s,lo<=s->s<hi->∃ u∈us,u.2.1=t/\u.2.2.1<=s/\s<u.2.2.1+u.2.2.2.1
theorem CovI.other {t:Nat} {lo hi:Int} {us:List U} (h:CovI t lo hi us) {u:U} (hu:u.2.1≠t):CovI t lo hi (Dj us u) where
 le:=h.le
 nn:=h.nn
 bd:=fun v hv e=>by
  rcases MC hv with hv | ⟨rfl,_⟩
  ·exact h.bd v hv e
  ·exact absurd e hu
 cv:=fun s a b=>by
  obtain ⟨v,hv,r⟩:=h.cv s a b;exact ⟨v,Q2u hv,r⟩
theorem CovI.mid {t:Nat} {lo hi:Int} {us:List U} (h:CovI t lo hi us) {u:U} (a:u.2.2.1<=hi) (h2:lo<=u.2.2.1+u.2.2.2.1):CovI t lo hi (Dj us u) where
 le:=h.le
 nn:=h.nn
 bd:=fun v hv e=>by
  rcases MC hv with hv | ⟨rfl,_⟩
  ·exact h.bd v hv e
  ·exact ⟨a,h2⟩
 cv:=fun s b a=>by
  obtain ⟨v,hv,r⟩:=h.cv s b a;exact ⟨v,Q2u hv,r⟩
theorem CovI.post {t:Nat} {lo hi ac:Int} {us:List U} (h:CovI t lo hi us) {u:U} (ht:u.2.1=t) (c:u.2.2.1=hi) (h2:u.2.2.2.1=ac-hi) (a:hi<=ac):CovI t lo ac (Dj us u) where
 le:=Int.le_trans h.le a
 nn:=Int.le_trans h.nn a
 bd:=fun v hv e=>by
  have:=h.le;rcases MC hv with hv | ⟨rfl,_⟩
  ·have:=h.bd v hv e;omega
  ·omega
 cv:=fun s b hs=>by
  by_cases hc:s<hi
  ·obtain ⟨v,hv,r⟩:=h.cv s b hc;exact ⟨v,Q2u hv,r⟩
  ·exact ⟨u,QaU (by omega),ht,by omega,by omega⟩
theorem CovI.any {t:Nat} {lo hi:Int} {us:List U} (h:CovI t lo hi us) {u v:U} (hu:u∈us) (hv:v∈us) (tu:u.2.1=t) (tv:v.2.1=t) {s:Int} (c:u.2.2.1<=s) (h2:s<v.2.2.1+v.2.2.2.1):∃ w∈us,w.2.1=t/\w.2.2.1<=s/\s<w.2.2.1+w.2.2.2.1:=by
 have bu:=h.bd u hu tu;have bv:=h.bd v hv tv;by_cases a:s<lo
 ·grind
 ·by_cases b:s<hi
  ·exact h.cv s (by omega) b
  grind
namespace Cx
variable {X:Cx} {per:Int} {Ch Sy A:LL} {tl:List Int}
theorem Qbr {train:Nat} {laps a:Int} {P:U->Prop} {l:List Occ} (hl:∀ q∈l,P (q.1.toNat,train,a+q.2.1,q.2.2-q.2.1,laps)):∀ {us:List U},(∀ u∈us,P u)->∀ u∈occU train laps a us l,P u:=by
 induction l with
 |nil=>exact fun h=>h
 |cons o l ih=>
  intro us h;refine ih (fun q hq=>hl q (.tail _ hq)) fun u hu=>?_
  rcases MC hu with hu | ⟨rfl,_⟩
  all_goals grind
variable (g:X.Gd per Ch Sy A tl)
include g
structure UsOK (X:Cx) (n:Nat) (us:List U):Prop where
 lt:∀ u∈us,u.2.1<n
 cv:∀ t,t<n->∃ lo hi,CovI t lo hi us
 se:∀ t,t<n->∃ u∈us,u.2.1=t/\u.1<X.G.Se.length/\0<u.2.2.1+u.2.2.2.1
end Cx
def QgP (Se:LL) (u:U):Prop:=∃ (nm:List UInt8) (a b c st:Int),Q1 Se (u.1:Int)=some [D.str nm,Q4 a,Q4 b,Q4 c,Q4 st]/\0<=st/\u.1<6/\2<=a
def Qf3 (u:U):Prop := -9000000<=u.2.2.1/\u.2.2.1<=9000000/\0<u.2.2.2.1/\u.2.2.2.1<=1000000
theorem Qa1 {G:Geo} {s:LL} {x d:Int} {j:Nat} (hx:Sta G x) (e:s[j]? = some [Q4 x,Q4 d]):∃ (nm:List UInt8) (a b c st:Int),Q1 G.Se (sec s j:Int)=some [D.str nm,Q4 a,Q4 b,Q4 c,Q4 st]/\0<=st/\sec s j<6/\2<=a:=by
 obtain ⟨nm,a,b,c,st,f,h2⟩:=hx;have ac:=(H8 f).1;have g:0<=x:=by
  unfold inB at ac;by_cases hc:0<=x
  ·exact hc
  ·rw [decide_eq_false hc,Bool.false_and] at ac;cases ac
 have aj:((sec s j:Nat):Int)=x:=by
  unfold sec;rw [QlN,e];show ((x.toNat:Nat):Int)=x;omega
 rw [aj];exact ⟨nm,a,b,c,st,f,h2.1,by omega,h2.2.2⟩
namespace Cx
variable {X:Cx}
theorem Qc6 (h:X.OK) {i k:Nat} (hi:i<X.Ls.length) (hk:k<X.nr i):(∃ (nm:List UInt8) (a b c st:Int),Q1 X.G.Se (sec (X.st i k) 0:Int)=some [D.str nm,Q4 a,Q4 b,Q4 c,Q4 st]/\0<=st/\sec (X.st i k) 0<6/\2<=a)/\∃ (nm:List UInt8) (a b c st:Int),Q1 X.G.Se (sec (X.st i k) ((X.st i k).length-1):Int)=some [D.str nm,Q4 a,Q4 b,Q4 c,Q4 st]/\0<=st/\sec (X.st i k) ((X.st i k).length-1)<6/\2<=a:=by
 obtain ⟨w,rides,g,h2,o,j⟩:=h.gd.ls i _ (QlL hi);have e:X.Ls[i]? = some [D.str (nmN i),Q4 0,Q4 w,D.sl 4 rides]:=by rw [QlL hi,g]
 have er:Gr X.Ls i=rides:=by unfold Gr;rw [e]
 have hr:∃ r x y b,rides[k]? = some r/\Pg X.G X.Ro r x y b:=by
  unfold nr at hk;rw [er] at hk;rcases j with ⟨r,x,y,rfl,h⟩ | ⟨r,r',x,y,z,rfl,h,h'⟩
  ·obtain rfl:k=0:=by simpa using hk
   exact ⟨r,x,y,_,rfl,h⟩
  ·obtain rfl | rfl:k=0\/k=1:=by simp at hk;omega
   ·exact ⟨r,x,y,_,rfl,h⟩
   ·exact ⟨r',y,z,_,rfl,h'⟩
 obtain ⟨r,x,y,b,hr,rt,ex,mn,mx,s,rfl,l,d,p,q,t⟩:=hr;have eg:(Gr X.Ls i).getD k []=[Q4 rt,Q4 ex,Q4 mn,Q4 mx]:=by rw [er,QlN,hr];rfl
 have m:rF X.Ls i k 0=rt:=by unfold rF;rw [eg];rfl
 have es:X.st i k=s:=by unfold st QhC;rw [m,QlG,l]
 rw [es];have l2:=d.l2;obtain ⟨d0,n⟩:=d.fst;obtain ⟨d1,f⟩:=d.lst;rw [show ((s.length:Nat):Int)-1=((s.length-1:Nat):Int) by omega,Q9] at f;exact ⟨Qa1 d.sx n,Qa1 d.sy f⟩
variable {per:Int} {Ch Sy A:LL} {tl:List Int}
theorem Q5N {P:U->Prop} {mv c:Bool} {idx train:Nat} {laps:Int} {i k:Nat} {s:Int × List U} (a:∀ u∈s.2,P u) (b:c=false/\idx=0/\k=0->P (sec (X.st i k) 0,train,s.1-60,60,laps)) (h2:mv=true->∀ q∈X.stair i k,P (q.1.toNat,train,s.1+q.2.1,q.2.2-q.2.1,laps)) (d:0<X.endV per tl i k s.1-s.1-X.run i k->P (sec (X.st i k) ((X.st i k).length-1),train,s.1+X.run i k,X.endV per tl i k s.1-s.1-X.run i k,laps)):∀ u∈(X.stM per tl mv c idx train laps i k s).2,P u:=by
 unfold stM;intro u hu;rcases MC hu with hu | ⟨rfl,hl⟩
 ·have hf:∀ u∈(if c=false/\idx=0/\k=0 then Dj s.2 (sec (X.st i k) 0,train,s.1-60,60,laps) else s.2),P u:=by
   split
   ·intro u hu;rcases MC hu with hu | ⟨rfl,_⟩
    ·exact a u hu
    ·exact b (by assumption)
   ·exact a
  cases mv with
  |false=>exact hf u hu
  |true=>exact Qbr (h2 rfl) hf u hu
 ·exact d hl
variable (g:X.Gd per Ch Sy A tl)
include g
theorem Gd.stM_okN {mv c:Bool} {idx train:Nat} {laps:Int} {i k:Nat} (hi:i<X.Ls.length) (hk:k<X.nr i) {s:Int × List U} (s0 : -5500000<=s.1) (s1:s.1<=5500000) (h:∀ u∈s.2,Qf3 u):∀ u∈(X.stM per tl mv c idx train laps i k s).2,Qf3 u:=by
 have he:=g.endV_rng hi hk (a:=s.1);have hr:=PN g.ok hi hk;refine Q5N h (fun _=>⟨by dsimp only;omega,by dsimp only;omega,by dsimp only;omega,by dsimp only;omega⟩) (fun _ q hq=>?_) fun hl=>⟨by dsimp only;omega,by dsimp only;omega,hl,by dsimp only;omega⟩
 have:=(Eu g.ok hi hk).1.mem q hq;exact ⟨by dsimp only;omega,by dsimp only;omega,by dsimp only;omega,by dsimp only;omega⟩
theorem Gd.rideM_all {P:U->Prop} {mv c:Bool} {idx train:Nat} {laps:Int} {i:Nat} (hi:i<X.Ls.length) (H:∀ (k:Nat) (s:Int × List U),k<X.nr i -> -5500000<=s.1->s.1<=5500000->(∀ u∈s.2,P u)->∀ u∈(X.stM per tl mv c idx train laps i k s).2,P u) {s:Int × List U} (s0 : -5000000<=s.1) (s1:s.1<=5000000) (hs:∀ u∈s.2,P u):∀ {k:Nat},k<=X.nr i->∀ u∈(X.rideM per tl mv c idx train laps i s k).2,P u
 |0,_=>hs
 |k+1,hk=>by
  have hn:=(Jv g.ok hi).2.1;have ih:=Gd.rideM_all hi H s0 s1 hs (k:=k) (by omega);have hb:=g.rideM_rng (mv:=mv) (c:=c) (idx:=idx) (train:=train) (laps:=laps) hi (s:=s) (k:=k) (by omega);rw [rideM];exact H k _ (by omega) (by omega) (by omega) ih
theorem Gd.lineM_all {P:U->Prop} {mv c:Bool} {train:Nat} {laps:Int} {ls:List Nat} (ac:∀ i∈ls,i<X.Ls.length) (aj:ls.length<=3) (H:∀ (idx i k:Nat) (s:Int × List U),i<X.Ls.length->k<X.nr i -> -5500000<=s.1->s.1<=5500000->(∀ u∈s.2,P u)->∀ u∈(X.stM per tl mv c idx train laps i k s).2,P u) {s:Int × List U} (s0:0<=s.1) (s1:s.1<=300) (hs:∀ u∈s.2,P u):∀ {j:Nat},j<=ls.length->∀ u∈(X.lineM per tl mv c train laps ls s j).2,P u
 |0,_=>hs
 |j+1,hj=>by
  have e:=QlL (l:=ls) (i:=j) (by omega);have hi:=ac _ (QlJ e);have hd:ls.getD j 0=ls[j]:=by rw [QlN,e];rfl
  have hb:=g.lineM_rng (mv:=mv) (c:=c) (train:=train) (laps:=laps) ac (s:=s) (j:=j) (by omega);have ih:=Gd.lineM_all ac aj H s0 s1 hs (j:=j) (by omega);rw [lineM,hd];exact g.rideM_all hi (fun k s hk=>H j _ k s hi hk) (by omega) (by omega) ih (QlU _)
theorem Gd.usesM_all {P:U->Prop} {mv:Bool} {rs:List (List Nat × Bool)} (hr:X.RsOK rs) (H:∀ (c:Bool) (train:Nat) (laps:Int) (idx i k:Nat) (s:Int × List U),i<X.Ls.length->k<X.nr i -> -5500000<=s.1->s.1<=5500000->(∀ u∈s.2,P u)->∀ u∈(X.stM per tl mv c idx train laps i k s).2,P u):∀ {j:Nat},j<=rs.length->∀ u∈X.usesM per tl mv rs j,P u
 |0,_=>fun u hu=>(by nomatch hu)
 |j+1,hj=>by
  have e:=QlL (l:=rs) (i:=j) (by omega);have hd:rs.getD j ([],false)=rs[j]:=by rw [QlN,e];rfl
  have ac:=hr.ls _ (QlJ e);have a:=QlL (l:=rs[j].1) (i:=0) (by omega);have b:=ac.2 _ (QlJ a);have d:rs[j].1.getD 0 0=rs[j].1[0]:=by rw [QlN,a];rfl
  have f:=XS g.ok (i:=rs[j].1[0]) (by omega);have aj:=QcD g.ok b (k:=0) (by have:=(Jv g.ok b).2.1;omega);have ht:=g.tat (i:=((2*base X.nr rs[j].1[0]:Nat):Int)) (by omega) (by omega);have p1:=g.p1;rw [usesM,hd];unfold trainM;rw [d];exact g.lineM_all ac.2 (hr.len3 e) (fun idx i k s=>H _ _ _ idx i k s) (by dsimp only;omega) (by dsimp only;omega) (Gd.usesM_all hr H (by omega)) (QlU _)
theorem Gd.usesM_okN {mv:Bool} {rs:List (List Nat × Bool)} (hr:X.RsOK rs):∀ u∈X.usesM per tl mv rs rs.length,Qf3 u:=g.usesM_all hr (fun c train laps idx i k s hi hk s0 s1 h=>g.stM_okN hi hk s0 s1 h) (QlU _)
theorem Gd.usesM_okS {rs:List (List Nat × Bool)} (hr:X.RsOK rs):∀ u∈X.usesM per tl false rs rs.length,QgP X.G.Se u:=g.usesM_all (P:=QgP X.G.Se) (mv:=false) hr (fun c train laps idx i k s hi hk s0 s1 h=>Q5N h (fun _=>(Qc6 g.ok hi hk).1) (fun e=>absurd e Bool.false_ne_true) fun _=>(Qc6 g.ok hi hk).2) (QlU _)
end Cx
end Go.Vx
namespace Go.Vx
variable {R:Type} (n:Nat)
def QL (d:Int) (e:LL) (b f g:Int) (k0:Int->Bool->LL->oP R):Nat->Int->LL->oP R
 | 0,_,_=>none
 | m+1,a,h=>bif decide (a<b) then QjK R e a fun j i k=>Qjw R j i fun l o=>Qjw R k i fun p q=>Qjl R (Qb n l (wJ (d+o)) (wJ (p-q)) h f g some) fun r=>QL d e b f g k0 m (wJ (a+1)) r else k0 a (decide (a<b)) h
def Qp (ai c:Int) (aj:LL) (s h:Int) (ak:Bool) (i:Int) (t u v x y:D) (d z aa ab ac al o p:LL) (e:Int) (f g:LL) (ad:Bool) (q:LL) (r:Int) (k0:Int->Int->Bool->LL->oP R):Nat->Int->Int->LL->oP R
 | 0,_,_,_=>none
 | m+1,a,b,am=>bif decide (b<s) then QjA R aj b fun an bo=>Qjl R an[1]? fun dt=>Qk3 R an (Qk8 R bo al fun j ae=>Qjk R (wJ (b+1)) fun k=>bif Qji (Qji (!ak) (ai==0)) (b==0) then Qjl R (pSl 2 j) fun bq=>Qjx R bq 0 fun bu=>Qjl R (Qb n bu (wJ (a-60)) 60 am h i some) fun aq=>QjM R j ae fun bv bx=>Qjl R (Nk t) fun bz=>QjW R u v x y fun ca cb cc ce=>Qjl R (Jc n z aa ab ac bv bx bz ca cb cc ce Tu3) fun ag=>bif ad then QL n a ag.1 (ag.1.length:Int) h i (fun dx dy cf=>Qjl R (Xo n e f g d c b some) fun ar=>jn (fun (au av:Int)=>(Qjl R (pSl 2 j) fun cg=>QjM R j ae fun ch ci=>Qjx R cg (wJ (wJ ((ch.length:Int)-ci)-1)) fun cm=>Qjl R (Qb n cm (wJ (a+au)) (wJ (wJ (av-a)-au)) cf h i some) fun cn=>Qp ai c aj s h ak i t u v x y d z aa ab ac al o p e f g ad q r k0 m av k cn:oP R)) fun aw=>gb true (X1 n o p e f g q d r c b Tu2) (0,false) fun ax=>bif ax.2 then aw ag.2.1 (wJ (wJ (a+ar)+ax.1)) else aw ag.2.1 (wJ (wJ (a+ar)+60))) n 0 aq else Qjl R (Xo n e f g d c b some) fun ay=>jn (fun (az ba:Int)=>(Qjl R (pSl 2 j) fun co=>QjM R j ae fun cp cq=>Qjx R co (wJ (wJ ((cp.length:Int)-cq)-1)) fun ct=>Qjl R (Qb n ct (wJ (a+az)) (wJ (wJ (ba-a)-az)) aq h i some) fun cu=>Qp ai c aj s h ak i t u v x y d z aa ab ac al o p e f g ad q r k0 m ba k cu:oP R)) fun bb=>gb true (X1 n o p e f g q d r c b Tu2) (0,false) fun bc=>bif bc.2 then bb ag.2.1 (wJ (wJ (a+ay)+bc.1)) else bb ag.2.1 (wJ (wJ (a+ay)+60)) else QjM R j ae fun cv cw=>Qjl R (Nk t) fun cx=>QjW R u v x y fun cy cz da db=>Qjl R (Jc n z aa ab ac cv cw cx cy cz da db Tu3) fun ah=>bif ad then QL n a ah.1 (ah.1.length:Int) h i (fun dz ea dc=>Qjl R (Xo n e f g d c b some) fun bd=>jn (fun (be bg:Int)=>(Qjl R (pSl 2 j) fun dd=>QjM R j ae fun de df=>Qjx R dd (wJ (wJ ((de.length:Int)-df)-1)) fun di=>Qjl R (Qb n di (wJ (a+be)) (wJ (wJ (bg-a)-be)) dc h i some) fun dj=>Qp ai c aj s h ak i t u v x y d z aa ab ac al o p e f g ad q r k0 m bg k dj:oP R)) fun bh=>gb true (X1 n o p e f g q d r c b Tu2) (0,false) fun bi=>bif bi.2 then bh ah.2.1 (wJ (wJ (a+bd)+bi.1)) else bh ah.2.1 (wJ (wJ (a+bd)+60))) n 0 am else Qjl R (Xo n e f g d c b some) fun bj=>jn (fun (bk bl:Int)=>(Qjl R (pSl 2 j) fun dk=>QjM R j ae fun dl dn=>Qjx R dk (wJ (wJ ((dl.length:Int)-dn)-1)) fun dr=>Qjl R (Qb n dr (wJ (a+bk)) (wJ (wJ (bl-a)-bk)) am h i some) fun ds=>Qp ai c aj s h ak i t u v x y d z aa ab ac al o p e f g ad q r k0 m bl k ds:oP R)) fun bm=>gb true (X1 n o p e f g q d r c b Tu2) (0,false) fun bn=>bif bn.2 then bm ah.2.1 (wJ (wJ (a+bj)+bn.1)) else bm ah.2.1 (wJ (wJ (a+bj)+60))) else k0 a b (decide (b<s)) am
def Xu (f:LL) (d g:Int) (h:Bool) (i:Int) (j k l o p q r c s:LL) (t:Int) (u v:LL) (x:Bool) (y:LL) (z:Int) (k0:Int->Int->Bool->LL->oP R):Nat->Int->Int->LL->oP R
 | 0,_,_,_=>none
 | m+1,aa,a,ab=>bif decide (a<d) then Qjx R f a fun e=>QjF R c e fun ai=>Qjy R q ai fun b aj ak al=>QjI R b fun am an=>QjG R c e fun ac=>Qp n a e ac (ac.length:Int) g h i aj ak al am an j k l o p r c s t u v x y z (fun aq au av ar=>Xu f d g h i j k l o p q r c s t u v x y z k0 m aq (wJ (a+1)) ar) n aa 0 ab else k0 aa a (decide (a<d)) ab
def Zm (l m o p q r d e:LL) (f:Int) (g c:LL) (s:Bool) (h a:LL) (i:Int) (t:LL) (a1:Int) (b:LL) (j:Bool) (K:LL->oP R):oP R:=Qjl R (ZP n d e f g c h a i b j some) fun u=>Qjx R b 0 fun k=>QjD R a.length k a k.toNat fun z=>Qjx R c (wJ (2*z)) fun ac=>Xu n b (b.length:Int) a1 j u a l m o p q r d e f g c s h i (fun ag ah ai ad=>K ad) n ac 0 t
def XV (n:Nat) (f:LL) (d:Int) (k0:Int->Int->Bool->LL->oP R):Nat->Int->Int->LL->oP R
 | 0,_,_,_=>none
 | m+1,b,a,e=>bif decide (a<d) then QjQ R f a fun g=>Qjl R (Y6 ((e.length+[[Q4 b]].length)*8)) fun l=>Qjl R (pSl 4 g) fun h=>XV n f d k0 m (wJ (b+(h.length:Int))) (wJ (a+1)) (e++[[Q4 b]]) else k0 b a (decide (a<d)) e
def XA (c:LL) (b:Int) (d e f g h i j k:LL) (l:Int) (o p:LL) (q:Bool) (r:LL) (s:Int) (t:LL) (k0:Int->Bool->LL->oP R):Nat->Int->LL->oP R
 | 0,_,_=>none
 | m+1,a,u=>bif decide (a<b) then QjJ R c a fun x y=>Qjl R (pSl 1 x) fun z=>Qjl R (G6 y) fun aa=>Qjl R (Zm n d e f g h i j k l o p q r t s u a z aa some) fun ab=>XA c b d e f g h i j k l o p q r s t k0 m (wJ (a+1)) ab else k0 a (decide (a<b)) u
def JQ (f g h i:LL) (o:Int) (j k b l c p q a2:LL) (r:Bool) (K:LL->Int->oP R):oP R:=gb true (Kf n f g h i o j k b l c p q Tu4) (0,[],[],0) fun a=>bif a.2.2.2 !=0 then K [] a.2.2.2 else Qjl R (Gg n a.1 a.2.1 a.2.2.1 a2 some) fun d=>bif !d then K [] 1 else Qjl R (Zu n b c some) fun e=>XV n b (b.length:Int) (fun t x y u=>Qjl R (X8 n b c some) fun m=>XA n m (m.length:Int) f g h i j k b l a.1 a.2.2.1 a2 r e t u (fun z aa v=>K v 0) n 0 []) n 0 0 []
end Go.Vx
namespace Go.Vx
theorem QaJ {R:Type} {n res train:Nat} {us:List U} (hl:us.length<=1000) {fr len laps:Int} (K:LL->oP R):Qb n (res:Int) fr len (us.map LW) (train:Int) laps K=K ((Dj us (res,train,fr,len,laps)).map LW):=by
 unfold Qb Dj;by_cases h:0<len
 ·rw [show decide (len>0)=true from QlM h,cond_true,if_pos h,Xr (by simp;omega),Q0,QlP];rfl
 ·rw [show decide (len>0)=false from decide_eq_false h,QlH,Qmd h]
theorem QiV {R:Type} {n train:Nat} {us:List U} (hl:us.length<=1000) {x fr len laps:Int} (hx:0<=x) (K:LL->oP R):Qb n x fr len (us.map LW) (train:Int) laps K=K ((Dj us (x.toNat,train,fr,len,laps)).map LW):=by
 obtain ⟨m,rfl⟩:=Qme hx;exact QaJ hl K
theorem QfP {R:Type} {train:Nat} {laps a:Int} (a0 : -6000000<=a) (a1:a<=6000000) {l:List Occ} (hl:∀ q∈l,0<=q.1 /\ -1000<=q.2.1/\q.2.1<q.2.2/\q.2.2<=20000) {us:List U} (hu:us.length<=600) (b:l.length<=6) {K:LL->oP R} :
  QL 400 a (l.map enc) (((l.map enc).length:Nat):Int) (train:Int) laps (fun _ _ w=>K w) 400 0 (us.map LW)=K ((Cx.occU train laps a us l).map LW):=by
 have go:∀ (ac:List Occ) (i m:Nat) (us:List U),l.drop i=ac->ac.length<m->us.length+ac.length<=700->QL 400 a (l.map enc) (((l.map enc).length:Nat):Int) (train:Int) laps (fun _ _ w=>K w) m (i:Int) (us.map LW)=K ((Cx.occU train laps a us ac).map LW):=by
  intro ac;induction ac with
  |nil=>
   intro i m us hd hm aj;obtain ⟨m,rfl⟩:∃ k,m=k+1:=⟨m-1,by simp at hm;omega⟩;have:=U4 hd;rw [QL,QlK,show decide ((i:Int)<((l.length:Nat):Int))=false by simpa using this,QlH];rfl
  |cons q ac ih=>
   intro i m us hd hm aj;obtain ⟨m,rfl⟩:∃ k,m=k+1:=⟨m-1,by simp at hm;omega⟩;obtain ⟨e,an,ak⟩:=Yb hd;have hq:=hl q (QlJ e);have eq:Q1 (l.map enc) (i:Int)=some [Q4 q.1,Q4 q.2.1,Q4 q.2.2]:=by rw [Q9,Qm5,e];rfl
   have aq:=Ru (us:=us) (u:=(q.1.toNat,train,a+q.2.1,q.2.2-q.2.1,laps));rw [Qmb] at hm aj;rw [QL,QlK,Q8 ak,cond_true,eq];simp -implicitDefEqProofs only [Q0,QlF,QlI,Q2,Q6 (x:=a+q.2.1) (by omega) (by omega),Q6 (x:=q.2.2-q.2.1) (by omega) (by omega),Ql (show i<=1000 by omega)];rw [QiV (by omega) hq.1,Q0,<- QlK (f:=enc)];exact ih (i+1) m _ an (by omega) (by omega)
 exact go l 0 400 us rfl (by omega) (by omega)
namespace Cx
variable {X:Cx} {per:Int} {Ch Sy A:LL} {tl:List Int}
variable (g:X.Gd per Ch Sy A tl)
include g
variable {R:Type}
theorem Gd.ridesM {mv c:Bool} {idx train:Nat} {laps:Int} {i:Nat} (hi:i<X.Ls.length) {s:Int × List U} (s0 : -5000000<=s.1) (s1:s.1<=5000000) (sl:s.2.length<=500) (aw:idx<=100) {k0:Int->Int->Bool->LL->oP R} :
  Qp 400 (idx:Int) (i:Int) (Gr X.Ls i) ((X.nr i:Nat):Int) (train:Int) c laps (D.str X.nm) (Q4 X.tl) (Q4 X.sp) (Q4 X.ac) (Q4 X.br) (X.fst X.L) X.G.St X.G.Pt X.G.Se X.G.Li X.Ro X.Ls Ch per A (encI tl) mv (encI ((List.range X.L).map (tix X.T))) ((X.N:Nat):Int) k0 400 s.1 0 (s.2.map LW)=k0 (X.rideM per tl mv c idx train laps i s (X.nr i)).1 ((X.nr i:Nat):Int) false ((X.rideM per tl mv c idx train laps i s (X.nr i)).2.map LW):=by
 have hn:=(Jv g.ok hi).2.1;refine Qm (r:=fun m k=>Qp 400 (idx:Int) (i:Int) (Gr X.Ls i) ((X.nr i:Nat):Int) (train:Int) c laps (D.str X.nm) (Q4 X.tl) (Q4 X.sp) (Q4 X.ac) (Q4 X.br) (X.fst X.L) X.G.St X.G.Pt X.G.Se X.G.Li X.Ro X.Ls Ch per A (encI tl) mv (encI ((List.range X.L).map (tix X.T))) ((X.N:Nat):Int) k0 m (X.rideM per tl mv c idx train laps i s k.toNat).1 k ((X.rideM per tl mv c idx train laps i s k.toNat).2.map LW)) (N:=X.nr i) (fun m k hk=>?_) (fun m=>?_) (X.nr i) 400 0 (by omega) (by omega)
 ·simp only [QlG];have r:=rd g.ok hi hk;have hr:=PN g.ok hi hk;have l2:=r.rt.l2;have l24:=r.rt.l24;have hb:=g.rideM_rng (mv:=mv) (c:=c) (idx:=idx) (train:=train) (laps:=laps) hi (s:=s) (k:=k) (by omega);have f:=g.runV_rng hi hk;have h2:=g.gapV_rng hi hk;obtain ⟨d0,_,_,_,_,_,h,_⟩:=Q8Z r.rt (j:=0) (by omega);obtain ⟨d1,_,_,_,_,_,e1,_⟩:=Q8Z r.rt (j:=(X.st i k).length-1) (by omega);have ar:Q1 (Gr X.Ls i) (k:Int)=some [Q4 (rF X.Ls i k 0),Q4 (X.ex i k),Q4 (X.mn i k),Q4 (X.mx i k)]:=by rw [Q9,r.row]
  have n:Q1 (X.st i k) 0=some [Q4 (sec (X.st i k) 0:Int),Q4 d0]:=h;have p:Q1 (X.st i k) (((X.st i k).length-1:Nat):Int)=some [Q4 (sec (X.st i k) ((X.st i k).length-1):Int),Q4 d1]:=by rw [Q9,e1]
  have hw:wJ (wJ ((((X.st i k).length:Nat):Int)-0)-1)=(((X.st i k).length-1:Nat):Int):=by rw [Q6 (x:=(((X.st i k).length:Nat):Int)-0) (by omega) (by omega),Q6 (by omega) (by omega)];omega
  rw [rideM];generalize X.rideM per tl mv c idx train laps i s k=q at hb ⊢;have he:=g.endV_rng hi hk (a:=q.1);have aj:(X.gapV per tl i k).2=true->wJ (wJ (q.1+X.runV per tl i k)+(X.gapV per tl i k).1)=X.endV per tl i k q.1:=fun hg=>by
   unfold endV;rw [Q6 (x:=q.1+X.runV per tl i k) (by omega) (by omega),if_pos hg,Q6 (by omega) (by omega)]
  have ak:(X.gapV per tl i k).2=false->wJ (wJ (q.1+X.runV per tl i k)+60)=X.endV per tl i k q.1:=fun hg=>by
   unfold endV;rw [Q6 (x:=q.1+X.runV per tl i k) (by omega) (by omega),hg,Qmd Bool.false_ne_true,Q6 (by omega) (by omega)]
  rw [Qp,Q8 hk,cond_true,ar];simp -implicitDefEqProofs only [jn,Q0,QlF,QlI,Q2,Qw,Xw,r.ro,Qfg g.ok hi hk,g.runP hi hk,g.gapP hi hk,QlH,hw,n,p,Ql (show k<=1000 by omega),Q6 (x:=q.1-60) (by omega) (by omega)];have fb:(bif (bif (bif !c then ((idx:Int) == 0) else false) then ((k:Int) == 0) else false) then true else false)=decide (c=false/\idx=0/\k=0):=by
   cases c
   ·by_cases f:idx=0
    ·by_cases h2:k=0
     ·subst f h2;rfl
     ·rw [show ((k:Int) == 0)=false by simp;omega,decide_eq_false (by simp [h2])];cases (bif !false then ((idx:Int) == 0) else false) <;> rfl
    ·rw [show ((idx:Int) == 0)=false by simp;omega,decide_eq_false (by simp [f])];rfl
   ·rw [decide_eq_false (by simp)];rfl
  have au:(bif (bif !c then ((idx:Int) == 0) else false) then ((k:Int) == 0) else false)=decide (c=false/\idx=0/\k=0):=by
   rw [<- fb];cases (bif (bif !c then ((idx:Int) == 0) else false) then ((k:Int) == 0) else false) <;> rfl
  rw [au];unfold stM;have b:=Q6 (x:=q.1+X.run i k) (by omega) (by omega);have d:=Q6 (x:=X.endV per tl i k q.1-q.1) (by omega) (by omega);have e:=Q6 (x:=X.endV per tl i k q.1-q.1-X.run i k) (by omega) (by omega);have ho:=Eu g.ok hi hk;have hx:=(Q9H g.ok hi hk).1;have ao:∀ o∈X.stair i k,0<=o.1 /\ -1000<=o.2.1/\o.2.1<o.2.2/\o.2.2<=20000:=fun o aq=>by
   have f:=ho.1.mem o aq;have h2:=hx o aq;exact ⟨h2.1,f.2.1,h2.2.1,f.2.2.2.1⟩
  by_cases hf:c=false/\idx=0/\k=0
  ·have t:=Ru (us:=q.2) (u:=(sec (X.st i k) 0,train,q.1-60,60,laps));rw [QlM hf,cond_true,if_pos hf,QaJ (by omega),Q0];generalize Dj q.2 (sec (X.st i k) 0,train,q.1-60,60,laps)=us at t ⊢;have v:=B4 (train:=train) (laps:=laps) (a:=q.1) (l:=X.stair i k) (us:=us);cases mv
   ·simp -implicitDefEqProofs only [QlH];cases hg:(X.gapV per tl i k).2
    ·rw [QlH,ak hg,b,d,e,QaJ (by omega),Q0]
    ·rw [cond_true,aj hg,b,d,e,QaJ (by omega),Q0]
   ·simp -implicitDefEqProofs only [cond_true];rw [QfP (by omega) (by omega) ao (by omega) ho.2];cases hg:(X.gapV per tl i k).2
    ·rw [QlH,ak hg,b,d,e,QaJ (by omega),Q0]
    ·rw [cond_true,aj hg,b,d,e,QaJ (by omega),Q0]
  ·rw [decide_eq_false hf,QlH,Qmd hf];have v:=B4 (train:=train) (laps:=laps) (a:=q.1) (l:=X.stair i k) (us:=q.2);cases mv
   ·simp -implicitDefEqProofs only [QlH];cases hg:(X.gapV per tl i k).2
    ·rw [QlH,ak hg,b,d,e,QaJ (by omega),Q0]
    ·rw [cond_true,aj hg,b,d,e,QaJ (by omega),Q0]
   ·simp -implicitDefEqProofs only [cond_true];rw [QfP (by omega) (by omega) ao (by omega) ho.2];cases hg:(X.gapV per tl i k).2
    ·rw [QlH,ak hg,b,d,e,QaJ (by omega),Q0]
    ·rw [cond_true,aj hg,b,d,e,QaJ (by omega),Q0]
 ·simp only [QlG];rw [Qp,Qi,QlH]
theorem Gd.trainP {mv:Bool} {us:List U} (aq:us.length<=300) {train:Nat} {r:List Nat × Bool} (f:1<=r.1.length) (h:r.1.length<=3) (hr:∀ i∈r.1,i<X.Ls.length) (K:LL->oP R) :
  Zm 400 X.G.St X.G.Pt X.G.Se X.G.Li X.skR X.Ro X.Ls Ch per A (encI tl) mv (encI ((List.range X.L).map (tix X.T))) (X.fst X.L) ((X.N:Nat):Int) (us.map LW) (train:Int) (EB r.1) r.2 K=K ((X.trainM per tl mv us train r).map LW):=by
 obtain ⟨ls,c⟩:=r;dsimp only at f h hr ⊢;have hN:X.N<=6:=base_le g.ok;have p1:=g.p1;have b:=QlL (l:=ls) (i:=0) (by omega);have d:=hr _ (QlJ b);have o:ls.getD 0 0=ls[0]:=by rw [QlN,b];rfl
 have q:=XS g.ok (i:=ls[0]) (by omega);have ar:=QcD g.ok d (k:=0) (by have:=(Jv g.ok d).2.1;omega);have ht:=g.tat (i:=((2*base X.nr ls[0]:Nat):Int)) (by omega) (by omega);have er:Q1 (EB ls) 0=some [Q4 (ls[0]:Int)]:=Ma (j:=0) b;have ef:=Q7l (X:=X) (i:=ls[0]) (L:=X.L) d;rw [Q9] at ef;have el:(X.fst X.L).length=X.Ls.length:=by simp [fst,encI,L]
 have aj:Q1 X.skR 0=some [D.str X.nm,Q4 X.tl,Q4 X.sp,Q4 X.ac,Q4 X.br]:=rfl;unfold Zm trainM;rw [g.lapsP hr (by omega),Q0,er];dsimp only;rw [o,show (EB ls).length=ls.length by simp [EB]];generalize X.lapsV per tl ls c=laps;simp -implicitDefEqProofs only [Q0,QlF,Q2,Y0 (len:=(X.fst X.L).length) (n:=((ls[0]:Nat):Int)) (by omega) (by omega),QlG,ef,Sb (a:=base X.nr ls[0]) (by omega),ht.1];refine Qm (r:=fun m j=>Xu 400 (EB ls) ((ls.length:Nat):Int) (train:Int) c laps (X.fst X.L) X.G.St X.G.Pt X.G.Se X.G.Li X.skR X.Ro X.Ls Ch per A (encI tl) mv (encI ((List.range X.L).map (tix X.T))) ((X.N:Nat):Int) (fun t u v p=>K p) m (X.lineM per tl mv c train laps ls (Vx.tat tl ((2*base X.nr ls[0]:Nat):Int),us) j.toNat).1 j ((X.lineM per tl mv c train laps ls (Vx.tat tl ((2*base X.nr ls[0]:Nat):Int),us) j.toNat).2.map LW)) (N:=ls.length) (fun m j hj=>?_) (fun m=>?_) ls.length 400 0 (by omega) (by omega)
 ·simp only [QlG];have e:=QlL hj;have hi:=hr _ (QlJ e);have hd:ls.getD j 0=ls[j]:=by rw [QlN,e];rfl
  have hb:=g.lineM_rng (mv:=mv) (c:=c) (train:=train) (laps:=laps) hr (s:=(Vx.tat tl ((2*base X.nr ls[0]:Nat):Int),us)) (j:=j) (by omega);dsimp only at hb;rw [lineM,hd];rw [Xu,Q8 hj,cond_true,Ma e];simp -implicitDefEqProofs only [Q0,QlF,QlI,Q2,Qw,Q9,(Jv g.ok hi).1,aj,Ql (show j<=1000 by omega)];exact g.ridesM hi (s:=X.lineM per tl mv c train laps ls (Vx.tat tl ((2*base X.nr ls[0]:Nat):Int),us) j) (by omega) (by omega) (by omega) (by omega)
 ·simp only [QlG];rw [Xu,Qi,QlH]
theorem Gd.usesM_len {mv:Bool} {rs:List (List Nat × Bool)} (hr:X.RsOK rs):∀ {j:Nat},j<=rs.length->(X.usesM per tl mv rs j).length<=16*Q32 (rs.take j)
 |0,_=>Qmk _
 |j+1,hj=>by
  have ih:=Gd.usesM_len (mv:=mv) hr (j:=j) (by omega);have e:=QlL (l:=rs) (i:=j) (by omega);have hd:rs.getD j ([],false)=rs[j]:=by rw [QlN,e];rfl
  have ac:=hr.ls _ (QlJ e);have:=g.lineM_rng (mv:=mv) (c:=rs[j].2) (train:=j) (laps:=X.lapsV per tl rs[j].1 rs[j].2) ac.2 (s:=(Vx.tat tl ((2*base X.nr (rs[j].1.getD 0 0):Nat):Int),X.usesM per tl mv rs j)) (QlU rs[j].1.length);rw [usesM,hd,Q6d e];unfold trainM;dsimp only at this;omega
theorem Gd.usesP {mv:Bool} {rs:List (List Nat × Bool)} (hr:X.RsOK rs) (k0:LL->oP R):XA 400 (Q30 rs) ((rs.length:Nat):Int) X.G.St X.G.Pt X.G.Se X.G.Li X.skR X.Ro X.Ls Ch per A (encI tl) mv (encI ((List.range X.L).map (tix X.T))) ((X.N:Nat):Int) (X.fst X.L) (fun _ _ w=>k0 w) 400 0 []=k0 ((X.usesM per tl mv rs rs.length).map LW):=by
 have n3:=hr.n3;have hs:=hr.sum;refine Qm (r:=fun m j=>XA 400 (Q30 rs) ((rs.length:Nat):Int) X.G.St X.G.Pt X.G.Se X.G.Li X.skR X.Ro X.Ls Ch per A (encI tl) mv (encI ((List.range X.L).map (tix X.T))) ((X.N:Nat):Int) (X.fst X.L) (fun _ _ w=>k0 w) m j ((X.usesM per tl mv rs j.toNat).map LW)) (N:=rs.length) (fun m j hj=>?_) (fun m=>?_) rs.length 400 0 (by omega) (by omega)
 ·simp only [QlG];have e:=QlL hj;have hd:rs.getD j ([],false)=rs[j]:=by rw [QlN,e];rfl
  have aj:=hr.ls _ (QlJ e);have a:=hr.len3 e;have ak:=g.usesM_len (mv:=mv) hr (j:=j) (by omega);have:=Q8T (rs:=rs) (j:=j);have ac:Q1 (Q30 rs) (j:Int)=some [D.sl 1 (EB rs[j].1),D.bool rs[j].2]:=by rw [Q9];unfold Q30;rw [Qm5,e];rfl
  rw [XA,Q8 hj,cond_true,ac,usesM,hd];simp -implicitDefEqProofs only [Q0,QlF,QlI,Qw,PM,g.trainP (show (X.usesM per tl mv rs j).length<=300 by omega) aj.1 a aj.2,Ql (show j<=1000 by omega)]
 ·simp only [QlG];rw [XA,Qi,QlH]
end Cx
theorem TD.lt {X:Cx} {f k:Nat} {r:List D} (h:TD X.Ls f k r):f<X.Ls.length/\k<X.nr f:=by
 obtain ⟨nm,w,rides,a,h2⟩:=h;refine ⟨(QlV.1 a).1,?_⟩;have e:Gr X.Ls f=rides:=by unfold Gr;rw [a]
 unfold Cx.nr;rw [e];exact (QlV.1 h2).1
theorem PlanR.lsOK {X:Cx} {per:Int} {Sk Ch Tu Sy De:LL} (h:PlanR X.G per Sk X.Ro X.Ls Ch Tu Sy De):X.LsOK per Ch Sy where
 ch:=fun row hr=>by
  obtain ⟨f,fr,t,tr,mn,mx,w,r,r',x,y,x',y',b,b',i,e,a,h2,g,j,k,c,d,_⟩:=h.ch row hr;exact ⟨f,fr,t,tr,mn,mx,w,e,a.lt.1,a.lt.2,h2.lt.1,h2.lt.2,c,d⟩
 chl:=h.chl
 sy:=fun row hr=>h.sy row hr
 syl:=h.syl
theorem Q8U {us:List U} {i:Nat} {u:U} (e:us[i]? = some u):Q1 (us.map LW) (i:Int)=some [Q4 (u.1:Int),Q4 (u.2.1:Int),Q4 u.2.2.1,Q4 u.2.2.2.1,Q4 u.2.2.2.2]:=by
 rw [Q9,Qm5,e];rfl
theorem Qbg {per:Int} {E A:LL} {w:List Int} (a:A.all (chk per E.length)=true) (h2:TG per E.length w):Q7I per E A w=true:=by
 unfold Q7I;rw [a,h2.1];simp only [QlW,QlH,bne_self_eq_false,Qma,Bool.not_eq_true',Bool.cond_true_left,Bool.or_eq_false_iff,decide_eq_false_iff_not];intro x hx;have:=h2.2 x hx;omega
section
variable {n:Nat} {a0 a1 a2 a3:LL} {p:Int} {b1 b2 b3 b4 b5 b6 b7 t:LL}
theorem QbP {q m:Int} {E A rr tu fs us:LL} {mv:Bool} (hb:Kf n a0 a1 a2 a3 p b1 b2 b3 b4 b5 b6 b7 Tu4=some (q,E,A,0)) (hg:Gg n q E A t some=some true) (ht:Zu n b3 b5 some=some tu) (hf:∀ k0:Int->LL->Option (LL × Int),XV n b3 ((b3.length:Nat):Int) (fun a _ _ w=>k0 a w) n 0 0 []=k0 m fs) (hr:X8 n b3 b5 some=some rr)
  (hl:∀ k0:LL->Option (LL × Int),XA n rr ((rr.length:Nat):Int) a0 a1 a2 a3 b1 b2 b3 b4 q A t mv tu m fs (fun _ _ w=>k0 w) n 0 []=k0 us):JQ n a0 a1 a2 a3 p b1 b2 b3 b4 b5 b6 b7 t mv Tu2=some (us,0):=by
 unfold JQ;rw [hb];show (gb true (Gg n q E A t some) false fun h=>bif (!h) then some ([],(1:Int)) else gb true (Zu n b3 b5 some) [] fun i=>XV n b3 ((List.length b3:Nat):Int) (fun c l o d=>gb true (X8 n b3 b5 some) [] fun b=>XA n b ((List.length b:Nat):Int) a0 a1 a2 a3 b1 b2 b3 b4 q A t mv i c d (fun j k e=>some (e,(0:Int))) n (0:Int) []) n (0:Int) (0:Int) [])=_;rw [hg,Q0,ht];show (XV n b3 ((List.length b3:Nat):Int) (fun c l o d=>gb true (X8 n b3 b5 some) [] fun b=>XA n b ((List.length b:Nat):Int) a0 a1 a2 a3 b1 b2 b3 b4 q A t mv tu c d (fun j k e=>some (e,(0:Int))) n (0:Int) []) n (0:Int) (0:Int) [])=_;rw [hf (fun c d=>gb true (X8 n b3 b5 some) [] fun b=>XA n b ((List.length b:Nat):Int) a0 a1 a2 a3 b1 b2 b3 b4 q A t mv tu c d (fun j k e=>some (e,(0:Int))) n (0:Int) []),hr,Q0,hl (fun w=>some (w,(0:Int)))]
end
namespace Cx
variable {X:Cx} (h:X.OK) {per:Int} {Ch Sy De:LL} (hl:X.LsOK per Ch Sy) {R:Type}
include h
theorem firstsP (k0:Int->LL->oP R):XV 400 X.Ls ((X.Ls.length:Nat):Int) (fun a _ _ w=>k0 a w) 400 0 0 []=k0 ((X.N:Nat):Int) (X.fst X.L):=by
 have l1:=h.l1;refine Qm (r:=fun m i=>XV 400 X.Ls ((X.Ls.length:Nat):Int) (fun a _ _ w=>k0 a w) m ((base X.nr i.toNat:Nat):Int) i (X.fst i.toNat)) (N:=X.Ls.length) (fun m i hi=>?_) (fun m=>?_) X.Ls.length 400 0 (by omega) (by omega)
 ·simp only [QlG];have hb:=XS h (i:=i) (by omega);have hn:=(Jv h hi).2.1;have e2:X.fst i++[[D.int .i64 (base X.nr i:Int)]]=X.fst (i+1):=by simp [fst,encI,List.range_succ]
  have c:(X.fst i).length=i:=by simp [fst,encI]
  have ha:wJ (((base X.nr i:Nat):Int)+(((Gr X.Ls i).length:Nat):Int))=((base X.nr (i+1):Nat):Int):=Q9j (a:=base X.nr i) (b:=X.nr i) (by omega);rw [XV,Q8 hi,cond_true,Q9,(Jv h hi).1];simp -implicitDefEqProofs only [Q0,QlF,QlI,Qw,Ql (show i<=1000 by omega),e2,ha,Xr (show ((X.fst i).length+[[D.int .i64 (base X.nr i:Int)]].length)*8<=100000 by rw [c];simp;omega)]
 ·simp only [QlG];rw [XV,Qi,QlH];rfl
end Cx
end Go.Vx
namespace Go.Vx
variable {R:Type} (n:Nat)
def HX (b c d e:LL) (f:Int) (g h i j k l m a2:LL) (K:LL->Int->oP R):oP R:=Qjl R (JQ n b c d e f g h i j k l m a2 false Tu2) fun a=>K a.1 a.2
def HV (c d e f:LL) (g:Int) (h i a j b k l:LL) (K:LL->Int->oP R):oP R:=Qjl R (Vd n c d e f g h i a j b k l some) fun m=>bif m !=0 then K [] 1 else Qjl R (X8 n a b some) fun o=>K o 0
def XZ (e:Int) (i j:LL) (f:Int) (g:LL) (a:Int) (k l:LL) (k0:oP R) (k1:Int->Bool->LL->oP R):Nat->Int->LL->oP R
 | 0,_,_=>none
 | m+1,b,c=>bif decide (b<f) then Qjy R j b fun d q r s=>Qjl R d[3]? fun t=>Qjl R d[4]? fun ao=>Qjl R (pIw q) fun u=>Qjl R (Q1 g u) fun v=>QjZ R v fun y=>bif y !=e then XZ e i j f g a k l k0 k1 m (wJ (b+1)) c else bif (c.length:Int)==16 then k0 else Qjl R (pIw r) fun z=>QjC R i z fun ab=>Qjl R (pSl 1 ab) fun ac=>Qjx R ac 0 fun ag=>Qk2 R l ag fun ai=>Qjw R ai s fun aj ak=>Qjl R (Hn n ak a some) fun o=>Qjl R (pIw t) fun h=>QjF R k aj fun an=>Qjl R (GL n g e an some) fun p=>Qjk R [[Q4 o,Q4 (if a<h then a else h),D.sl 1 p]] fun aq=>Qjl R (Y6 ((c.length+aq.length)*40)) fun ap=>XZ e i j f g a k l k0 k1 m (wJ (b+1)) (c++aq) else k1 b (decide (b<f)) c
def J3 (b i c j:LL) (d:Int) (e k f l m o p a2:LL) (g:Int) (K:LL->Int->oP R):oP R:=Qjl R (HX n b i c j d e k f l m o p a2 Tu2) fun a=>bif a.2 !=0 then K [] a.2 else bif Qjh (decide (g<0)) (decide (g>=(b.length:Int))) then K [] 4 else Qjl R (HV n b i c j d e k f l m o p Tu2) fun q=>XZ n g q.1 a.1 (a.1.length:Int) c d e f (K [] 7) (fun s t r=>K r 0) n 0 []
def QG (e:Int) (b:LL) (c:Int) (f:LL) (g:Int) (k0:Bool->oP R) (k1:Int->Bool->LL->oP R):Nat->Int->LL->oP R
 | 0,_,_=>none
 | m+1,a,d=>bif decide (a<c) then Qjx R b a fun k=>Qjl R (Q1 f k) fun l=>QjZ R l fun p=>bif p==e then Qjl R (Q1 b a) fun q=>Qjl R q[3]? fun r=>Qjl R (pIw r) fun s=>bif decide (s>g) then Qjl R (VG n some) fun t=>k0 t else Qjx R b a fun h=>Qjl R (Y6 ((d.length+[[Q4 h]].length)*8)) fun x=>QG e b c f g k0 k1 m (wJ (a+1)) (d++[[Q4 h]]) else QG e b c f g k0 k1 m (wJ (a+1)) d else k1 a (decide (a<c)) d
def law20_PlatformAsPlanned (a0:LL) (a1:Int) (K:Bool->oP R):oP R:=gb true (Sw n a0 Tu12) ([],[],[],[],0,[],[],[],[],[],[],[]) fun a=>Qjk R a.2.2.2.2.2.2.2.2.2.2.2 fun c=>Qjk R a.2.2.2.2.2.2.2.2.2.2.1 fun k=>Qjk R a.2.2.2.2.2.2.2.2.2.1 fun l=>Qjk R a.2.2.2.2.1 fun s=>Qjk R a.2.2.2.2.2.2.2.2.1 fun t=>Qjk R a.2.2.2.2.2.2.2.1 fun u=>Qjk R a.2.2.2.2.2.2.1 fun v=>Qjk R a.2.2.2.2.2.1 fun x=>Qjk R a.2.2.1 fun y=>Qjk R a.2.2.2.1 fun z=>gb true (JY n a.1 a.2.1 y z s x v u t l k c Tu4) (0,[],[],0) fun b=>bif b.2.2.2 !=0 then Qjl R (VG n some) fun d=>K d else Qjl R (UT n b.1 b.2.1 b.2.2.1 3000 Tu3) fun e=>bif e.2.2 !=0 then Qjl R (VG n some) fun h=>K h else Qjl R (SF n a1 (a.1.length:Int) some) fun r6=>Qjl R (J3 n a.1 a.2.1 y z s x v u t l k c e.1 r6 Tu2) fun f=>bif f.2 !=0 then Qjl R (VG n some) fun i=>K (Qji i (f.2==7)) else Qjl R (Hg n a.1 a.2.1 y z s x v u t l k c e.1 Tu2) fun g=>QG n r6 g.1 (g.1.length:Int) y s (fun m=>K m) (fun q r o=>Qjl R (VG n some) fun j=>Qjm R j (Zw n s f.1 o some) fun p=>K (Qji j p)) n 0 []
end Go.Vx
namespace Go.Vx
theorem Q6i {N:Nat} {l0 l1 l2 e:LL}:∀ {l:LL} {ac:List (List UInt8)},HO N l0 l1 l2 e ac l=true->∀ r∈l,∃ (s:List UInt8) (a b c d:Int),r=[D.str s,Q4 a,Q4 b,Q4 c,Q4 d]
 |[],_,_,r,hr=>nomatch hr
 |row::l,ac,h,r,hr=>by
  unfold HO at h;split at h
  ·rename_i s a b c d;simp only [Qm7] at h;cases hr with
   |head=>exact ⟨s,a,b,c,d,rfl⟩
   |tail _ hr=>exact Q6i h.2 r hr
  ·cases h
theorem Qby {St Pt Se Li:LL} (h:TU 400 St Pt Se Li=true):∀ r∈Se,∃ (s:List UInt8) (a b c d:Int),r=[D.str s,Q4 a,Q4 b,Q4 c,Q4 d]:=by
 unfold TU at h;simp only [Qm7] at h;exact Q6i h.1.2
def okT (s tl:Int):List D->Bool
 |[_,.int _ a,_,_,.int _ d]=>bif d == s then decide (a>=tl) else false
 |_=>false
def trk (Se:LL) (s tl:Int):Nat->List Int
 |0=>[]
 |i+1=>bif (bif okT s tl (Se.getD i []) then decide (((trk Se s tl i).length:Int)<8) else false) then trk Se s tl i++[(i:Int)] else trk Se s tl i
section
variable {Se:LL} {s tl:Int}
theorem Q3r:∀ {i:Nat},(trk Se s tl i).length<=8/\(trk Se s tl i).length<=i/\(∀ x∈trk Se s tl i,0<=x/\x<i)/\(trk Se s tl i).Pairwise (· < ·)
 |0=>⟨by simp [trk],by simp [trk],fun x hx=>(nomatch hx),List.Pairwise.nil⟩
 |i+1=>by
  obtain ⟨c,h2,a,b⟩:=Q3r (i:=i);rw [trk];cases hc:(bif okT s tl (Se.getD i []) then decide (((trk Se s tl i).length:Int)<8) else false) with
  |false=>exact ⟨c,by rw [QlH];omega,fun x hx=>by have:=a x hx;omega,b⟩
  |true=>
   have d:((trk Se s tl i).length:Int)<8:=by
    cases ho:okT s tl (Se.getD i []) with
    |false=>rw [ho] at hc;cases hc
    |true=>rw [ho,cond_true] at hc;exact of_decide_eq_true hc
   rw [cond_true];refine ⟨by simp;omega,by simp;omega,fun x hx=>?_,Qm6.2 ⟨b,List.pairwise_singleton ..,fun x hx y hy=>?_⟩⟩
   ·rcases QlQ.1 hx with hx | hx
    ·have:=a x hx;omega
    ·rw [QlT.1 hx];omega
   ·rw [QlT.1 hy];exact (a x hx).2
theorem Q9F {x:Nat} (a:x<8) (ho:okT s tl (Se.getD x [])=true):∀ {i:Nat},x<i->(x:Int)∈trk Se s tl i
 |0,h=>by omega
 |i+1,h=>by
  rw [trk];by_cases hx:x=i
  ·subst hx;have:=(Q3r (Se:=Se) (s:=s) (tl:=tl) (i:=x)).2.1;rw [ho,cond_true,QlM (by omega),cond_true];exact Qm3 _ (.head _)
  ·have ih:=Q9F a ho (i:=i) (by omega);cases (bif okT s tl (Se.getD i []) then decide (((trk Se s tl i).length:Int)<8) else false) with
   |false=>exact ih
   |true=>exact Qm0 _ ih
theorem Qd2 {R:Type} (hS:Se.length<=96) (hr:∀ r∈Se,∃ (s:List UInt8) (a b c d:Int),r=[D.str s,Q4 a,Q4 b,Q4 c,Q4 d]) (K:LL->oP R):GL 400 Se s tl K=K (encI (trk Se s tl Se.length)):=by
 unfold GL;refine Qm (r:=fun m i=>YM 400 s tl Se ((Se.length:Nat):Int) (fun _ _ w=>K w) m i (encI (trk Se s tl i.toNat))) (N:=Se.length) (fun m i hi=>?_) (fun m=>?_) Se.length 400 0 (by omega) (by omega)
 ·simp only [QlG];have e:=QlL hi;obtain ⟨nm,a,b,c,d,er⟩:=hr _ (QlJ e);have hk:=(Q3r (Se:=Se) (s:=s) (tl:=tl) (i:=i)).1;have ac:Q1 Se (i:Int)=some [D.str nm,Q4 a,Q4 b,Q4 c,Q4 d]:=by rw [Q9,e,er]
  have hg:Se.getD i []=[D.str nm,Q4 a,Q4 b,Q4 c,Q4 d]:=by rw [QlN,e,er];rfl
  rw [YM,Q8 hi,cond_true,ac,trk,hg];simp -implicitDefEqProofs only [Q0,QlF,QlI,Q2,Ql (show i<=1000 by omega),QN,Xr (show ((trk Se s tl i).length+[[D.int .i64 (i:Int)]].length)*8<=100000 by simp;omega),okT];have hx:encI (trk Se s tl i)++[[D.int .i64 (i:Int)]]=encI (trk Se s tl i++[(i:Int)]):=by unfold encI;rw [QlP];rfl
  rw [hx];cases (bif bif d == s then decide (a>=tl) else false then decide (((trk Se s tl i).length:Int)<8) else false) <;> rfl
 ·simp only [QlG];rw [YM,Qi,QlH]
end
def Q4P (v:Int × Int × List Int):List D:=[Q4 v.1,Q4 v.2.1,D.sl 1 (encI v.2.2)]
def sta (Se:LL) (u:U):Int:=match Se.getD u.1 [] with
 |[_,_,_,_,.int _ d]=>d
 |_ => -1
def Q2W (Se:LL) (per s tl:Int) (u:U):Int × Int × List Int:=(u.2.2.1 % per,(if per<u.2.2.2.1 then per else u.2.2.2.1),trk Se s tl Se.length)
def inS (Se:LL) (s:Int) (us:List U):List U:=us.filter fun u=>sta Se u == s
theorem Q6t {Se:LL} {s:Int} {us:List U} {i:Nat} {u:U} (e:us[i]? = some u):inS Se s (us.take (i+1))=if sta Se u=s then inS Se s (us.take i)++[u] else inS Se s (us.take i):=by
 unfold inS;rw [Yn e,List.filter_append];by_cases h:sta Se u=s
 ·rw [if_pos h,List.filter_cons_of_pos (by simpa using h),List.filter_nil]
 ·rw [Qmd h,List.filter_cons_of_neg (by simpa using h),List.filter_nil,Qm2]
theorem Q5i {Se:LL} {s:Int} {us:List U}:(inS Se s us).length<=us.length:=List.length_filter_le ..
theorem Qaa {Se:LL} {u:U} {nm:List UInt8} {a b c d:Int} (e:Q1 Se (u.1:Int)=some [D.str nm,Q4 a,Q4 b,Q4 c,Q4 d]):sta Se u=d:=by
 rw [Q9] at e;unfold sta;rw [QlN,e];rfl
namespace Cx
variable {X:Cx} (h:X.OK) {per:Int} {R:Type}
include h
theorem visP (p0:2<=per) (p1:per<=300) {rs:List (List Nat × Bool)} (aq:X.RsOK rs) {us:List U} (a2:us.length<=12) (ao:∀ u∈us,QgP X.G.Se u) (ax:∀ u∈us,Qf3 u) (ht:∀ u∈us,u.2.1<rs.length) (s:Int) (k0:oP R) (k1:LL->oP R) :
  XZ 400 s (Q30 rs) (us.map LW) ((us.length:Nat):Int) X.G.Se per X.skR X.Ls k0 (fun _ _ w=>k1 w) 400 0 []=k1 (((inS X.G.Se s us).map (Q2W X.G.Se per s X.tl)).map Q4P):=by
 have aj:=Qby h.g.lay;have aw:=(MH h.g.lay).2;have ak:Q1 X.skR 0=some [D.str X.nm,Q4 X.tl,Q4 X.sp,Q4 X.ac,Q4 X.br]:=rfl;refine Qm (r:=fun m i=>XZ 400 s (Q30 rs) (us.map LW) ((us.length:Nat):Int) X.G.Se per X.skR X.Ls k0 (fun _ _ w=>k1 w) m i (((inS X.G.Se s (us.take i.toNat)).map (Q2W X.G.Se per s X.tl)).map Q4P)) (N:=us.length) (fun m i hi=>?_) (fun m=>?_) us.length 400 0 (by omega) (by omega)
 ·simp only [QlG];have e:=QlL hi;generalize us[i]=u at e;have hm:=QlJ e;obtain ⟨nm,a,b,c,st,d,p,q⟩:=ao u hm;have hn:=ax u hm;have eu:Q1 (us.map LW) (i:Int)=some [Q4 (u.1:Int),Q4 (u.2.1:Int),Q4 u.2.2.1,Q4 u.2.2.2.1,Q4 u.2.2.2.2]:=Q8U e;have ar:=ht u hm;have er:=QlL ar;have an:=aq.ls _ (QlJ er);have f:=QlL (l:=rs[u.2.1].1) (i:=0) (by omega);have g:=an.2 _ (QlJ f);have k:Q1 (Q30 rs) (u.2.1:Int)=some [D.sl 1 (EB rs[u.2.1].1),D.bool rs[u.2.1].2]:=by rw [Q9];unfold Q30;rw [Qm5,er];rfl
  have o:Q1 (EB rs[u.2.1].1) 0=some [Q4 (rs[u.2.1].1[0]:Int)]:=Ma (j:=0) f;have au:Q1 X.Ls ((rs[u.2.1].1[0]:Nat):Int)=some [D.str (nmN rs[u.2.1].1[0]),Q4 0,Q4 (X.w rs[u.2.1].1[0]),D.sl 4 (Gr X.Ls rs[u.2.1].1[0])]:=by rw [Q9,(Jv h g).1]
  have a4:(inS X.G.Se s (us.take i)).length<=i:=Nat.le_trans Q5i (by rw [List.length_take];omega);rw [XZ,Q8 hi,cond_true,eu,Q6t e,Qaa d];by_cases hs:st=s
  ·rw [if_pos hs,QlP,QlP];simp -implicitDefEqProofs only [Q0,QlF,QlI,Q2,Qw,d,show (st != s)=false by simpa using hs,QlH,QlK,show ((((inS X.G.Se s (us.take i)).length:Nat):Int) == 16)=false by simp;omega,k,o,au,ak,Qeq (n:=400) (t:=per) (x:=u.2.2.1) (by omega) (by omega) (by have:=hn.1;omega) (by have:=hn.2.1;omega),Qd2 aw aj,Xr (show ((inS X.G.Se s (us.take i)).length+[[D.int .i64 (u.2.2.1 % per),D.int .i64 (if per<u.2.2.2.1 then per else u.2.2.2.1),D.sl 1 (encI (trk X.G.Se s X.tl X.G.Se.length))]].length)*40<=100000 by simp;omega),Ql (show i<=1000 by omega)];rfl
  ·rw [Qmd hs];simp -implicitDefEqProofs only [Q0,QlF,QlI,Q2,d,show (st != s)=true by simpa using hs,cond_true,Ql (show i<=1000 by omega)]
 ·simp only [QlG];rw [XZ,Qi,QlH,QlX]
theorem tracksL {us:List U} (ak:us.length<=12) (aj:∀ u∈us,QgP X.G.Se u) (ac:∀ u∈us,u.2.2.2.1<=per) (s:Int) (k0:Bool->oP R) (k1:LL->oP R) :
  QG 400 s (us.map LW) ((us.length:Nat):Int) X.G.Se per k0 (fun _ _ w=>k1 w) 400 0 []=k1 (encI ((inS X.G.Se s us).map fun u=>(u.1:Int))):=by
 refine Qm (r:=fun m i=>QG 400 s (us.map LW) ((us.length:Nat):Int) X.G.Se per k0 (fun _ _ w=>k1 w) m i (encI ((inS X.G.Se s (us.take i.toNat)).map fun u=>(u.1:Int)))) (N:=us.length) (fun m i hi=>?_) (fun m=>?_) us.length 400 0 (by omega) (by omega)
 ·simp only [QlG];have e:=QlL hi;generalize us[i]=u at e;have hm:=QlJ e;obtain ⟨nm,a,b,c,st,d,f,g⟩:=aj u hm;have hl:=ac u hm;have eu:Q1 (us.map LW) (i:Int)=some [Q4 (u.1:Int),Q4 (u.2.1:Int),Q4 u.2.2.1,Q4 u.2.2.2.1,Q4 u.2.2.2.2]:=Q8U e;have ao:(inS X.G.Se s (us.take i)).length<=i:=Nat.le_trans Q5i (by rw [List.length_take];omega);rw [QG,Q8 hi,cond_true,eu,Q6t e,Qaa d];by_cases hs:st=s
  ·rw [if_pos hs,QlP];simp -implicitDefEqProofs only [Q0,QlF,QlI,Q2,d,show (st == s)=true by simpa using hs,cond_true,decide_eq_false (show ¬ u.2.2.2.1>per by omega),QlH,QN,QlK,Xr (show ((inS X.G.Se s (us.take i)).length+[[D.int .i64 (u.1:Int)]].length)*8<=100000 by simp;omega),Ql (show i<=1000 by omega)];unfold encI;rw [QlP];rfl
  ·rw [Qmd hs];simp -implicitDefEqProofs only [Q0,QlF,QlI,Q2,d,show (st == s)=false by simpa using hs,QlH,Ql (show i<=1000 by omega)]
 ·simp only [QlG];rw [QG,Qi,QlH,QlX]
end Cx
end Go.Vx
