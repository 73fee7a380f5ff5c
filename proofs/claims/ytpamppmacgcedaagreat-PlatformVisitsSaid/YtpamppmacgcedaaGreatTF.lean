/- Part of a proof. No conditions of their own. -/
import Derived.Test.YtpamppmacgcedaaGreatTE
import Derived.Test.YtpamppmacgcedaaGreatTB
import Derived.Test.YtpamppmacgcedaaGreatTD
import Derived.Test.YtpamppmacgcedaaGreatProg
import Derived.Test.YtpamppmacgcedaaGreatTC
set_option linter.unusedVariables false
set_option linter.unusedSimpArgs false
set_option linter.unusedSectionVars false
noncomputable section
abbrev QjU:=@List.getElem?_cons_zero
abbrev QjV:=@Int.toNat_natCast
abbrev QjW:=@cond_false
abbrev QjX:=@List.getElem?_cons_succ
abbrev QjY:=@List.mem_of_getElem?
abbrev QjZ:=@cond_true
abbrev Qk0:=@List.getElem?_eq_getElem
abbrev Qk1:=@List.length_map
abbrev Qk2:=@List.getD_eq_getElem?_getD
abbrev Qk3:=@List.mem_append
abbrev Qk4:=@List.mem_cons_self
abbrev Qk5:=@List.append_assoc
abbrev Qk6:=@decide_eq_true
abbrev Qk7:=@List.mem_cons_of_mem
abbrev Qk8:=@List.map_append
abbrev Qk9:=@List.mem_singleton
abbrev Qka:=@List.take_length
abbrev Qkb:=@List.getElem?_eq_some_iff
abbrev Qkc:=@Nat.le_refl
abbrev Qkd:=@Bool.and_eq_true
abbrev Qke:=@Bool.not_true
abbrev Qkf:=@List.append_nil
abbrev Qkg:=@List.all_eq_true
abbrev Qkh:=@Int.emod_lt_of_pos
abbrev Qki:=@List.getElem?_map
abbrev Qkj:=@Int.emod_nonneg
abbrev Qkk:=@List.mem_append_right
abbrev Qkl:=@Bool.cond_false_right
abbrev Qkm:=@Bool.not_false
abbrev Qkn:=@List.mem_of_find?_eq_some
abbrev Qko:=@List.mem_append_left
abbrev Qkp:=@decide_eq_true_eq
abbrev Qkq:=@List.mem_map
abbrev Qkr:=@Bool.cond_true_left
abbrev Qks:=@Bool.false_ne_true
abbrev Qkt:=@Int.emod_eq_of_lt
namespace Go.Vx
theorem OL.uniq:∀ {l:Int} {O:List Occ},OL l O->∀ {p q:Occ},p∈O->q∈O->p.1=q.1->p=q
 |_,[],_,_,_,h,_,_=>nomatch h
 |l,(x,a,b)::r,⟨d,h2,f,g,i,c⟩,p,q,hp,hq,e=>by
  cases hp with
  |head=>
   cases hq with
   |head=>rfl
   |tail _ hq=>have:=(c.mem q hq).1;dsimp only at e;omega
  |tail _ hp=>
   cases hq with
   |head=>have:=(c.mem p hp).1;dsimp only at e;omega
   |tail _ hq=>exact c.uniq hp hq e
theorem QbY {t:Int} {A A' B:List Occ} {y:Int}:FB t (A++A') B y↔FB t A B y\/FB t A' B y:=by
 constructor
 ·rintro ⟨x,a,b,c,d,e,h2,f⟩;rcases Qk3.1 e with e | e
  ·exact .inl ⟨x,a,b,c,d,e,h2,f⟩
  ·exact .inr ⟨x,a,b,c,d,e,h2,f⟩
 ·rintro (⟨x,a,b,c,d,e,h2,f⟩ | ⟨x,a,b,c,d,e,h2,f⟩)
  ·exact ⟨x,a,b,c,d,Qko _ e,h2,f⟩
  ·exact ⟨x,a,b,c,d,Qkk _ e,h2,f⟩
def Ey (f:Nat->Bool) (n:Nat):LL:=(List.range n).map fun i=>[D.bool (f i)]
theorem B6 {f:Nat->Bool} {n:Nat}:(Ey f n).length=n:=by simp [Ey]
theorem LR {f:Nat->Bool} {n i:Nat} (h:i<n):(Ey f n)[i]? = some [D.bool (f i)]:=by simp [Ey,h]
theorem QaO {f g:Nat->Bool} {n i:Nat} (h:∀ y,y<n->g y=if y=i then true else f y):(Ey f n).set i [D.bool true]=Ey g n:=by
 apply List.ext_getElem?;intro j;rw [List.getElem?_set,B6];by_cases hj:j<n
 ·rw [LR hj,LR hj,h j hj];by_cases ac:i=j
  ·subst ac;rw [if_pos rfl,if_pos hj,if_pos rfl]
  ·rw [if_neg ac,if_neg (fun e=>ac e.symm)]
 ·rw [List.getElem?_eq_none (by rw [B6];omega),List.getElem?_eq_none (by rw [B6];omega)];by_cases ac:i=j
  ·subst ac;rw [if_pos rfl,if_neg hj]
  ·rw [if_neg ac]
section
variable {R:Type} {n:Nat} {t:Int}
theorem Q67 {O:List Occ} (hl:O.length<=1000) {k0:oP R} {k1:Int->Bool->oP R} {E:oP R} (hk:∀ b c,k1 b c=E):∀ (ac:List Occ) (i m:Nat) (last:Int),O.drop i=ac->ac.length<m -> -1<=last->OL last ac->(0<i->∃ a b,O[i-1]? = some (last,a,b))->Zj n (O.map enc) k0 k1 m (i:Int)=E
 |[],i,m+1,last,hd,_,_,_,_=>by
  have:=Uf hd;rw [Zj,Qk1,show decide ((i:Int)<((O.length:Nat):Int))=false by simpa using this,QjW,hk]
 |(x,a,b)::ac,i,m+1,last,hd,hm,al,⟨g,h2,h,j,k,d⟩,hp=>by
  obtain ⟨e,aj,hi⟩:=Zg hd;have ih:=Q67 (k0:=k0) hl hk ac (i+1) m x aj (by simpa using hm) Zzq d (fun _=>⟨a,b,e⟩);rw [Zj,Qk1,Q9 hi,QjZ,QK e];simp -implicitDefEqProofs only [Q0,Np,MX,LG,Q2,show decide (x<0)=false from decide_eq_false Zzq,Qkm,Bool.true_and,QjW,Qu (show i<=1000 by omega)];have rest:∀ z:Bool,z=false->(bif bif bif bif z then true else decide (a<(-65536:Int)) then true else decide (b>(65536:Int)) then true else decide (a>=b) then k0 else Zj n (O.map enc) k0 k1 m ((i+1:Nat):Int))=E:=fun z hz=>by
   rw [hz,show decide (a < -65536)=false from decide_eq_false Zzq,show decide (b>65536)=false from decide_eq_false Zzq,show decide (a>=b)=false from decide_eq_false Zzq];exact ih
  by_cases f:i=0
  ·subst f;simp -implicitDefEqProofs only [show decide (((0:Nat):Int)>0)=false from rfl,gbF,QjW];exact rest false rfl
  ·obtain ⟨a',b',e'⟩:=hp Zzq;rw [JE (show i<=1000 by omega) Zzq,QK e'];simp -implicitDefEqProofs only [Q0,Np,Q2,show decide ((i:Int)>0)=true from Qk6 Zzq,QjZ];exact rest _ (decide_eq_false Zzq)
theorem Q9k {O:List Occ} (hl:O.length<=300) (h:OL (-1) O):J1 400 (O.map enc) (some:Bool->Option Bool)=some true:=by
 unfold J1;exact Q67 Zzq (fun _ _=>rfl) O 0 400 (-1) rfl Zzq Zzq h (fun h=>by omega)
theorem Q8I {O:List Occ} (hl:O.length<=1000) {x:Int} {K:D->D->D->Bool->oP R} {k0:D->D->D->oP R} {k1:Int->Bool->oP R} (g:∀ a b c,k0 a b c=K a b c true) (h:∀ a b,k1 a b=K (Q4 0) (Q4 0) (Q4 0) false):∀ (ac:List Occ) (i m:Nat),O.drop i=ac->ac.length<m->(∃ c d,(x,c,d)∈ac/\UN n (O.map enc) x k0 k1 m (i:Int)=K (Q4 x) (Q4 c) (Q4 d) true)\/((∀ p∈ac,p.1≠x)/\UN n (O.map enc) x k0 k1 m (i:Int)=K (Q4 0) (Q4 0) (Q4 0) false)
 |[],i,m+1,hd,_=>by
  have:=Uf hd;refine .inr ⟨fun p hp=>(nomatch hp),?_⟩;rw [UN,Qk1,show decide ((i:Int)<((O.length:Nat):Int))=false by simpa using this,QjW,h]
 |(x',a,b)::ac,i,m+1,hd,hm=>by
  obtain ⟨e,aj,hi⟩:=Zg hd;rw [UN,Qk1,Q9 hi,QjZ,QK e];simp -implicitDefEqProofs only [Q0,Np,MX,LG,Q2,Qu (show i<=1000 by omega),g];by_cases hx:x'=x
  ·subst hx;exact .inl ⟨a,b,.head _,by rw [show (x' == x')=true by simp,QjZ]⟩
  ·rw [show (x' == x)=false by simpa using hx,QjW];rcases Q8I hl g h ac (i+1) m aj (by simpa using hm) with ⟨c,d,f,h2⟩ | ⟨f,h2⟩
   ·exact .inl ⟨c,d,.tail _ f,h2⟩
   ·refine .inr ⟨fun p hp=>?_,h2⟩;cases hp with
    |head=>exact hx
    |tail _ hp=>exact f p hp
theorem QeJ {f k y:Int} (a:1<=t) (hy:0<=y) (ac:y<t) (hk:0<=k) (aj:k<t):y=(f+k) % t↔(y-f) % t=k:=by
 constructor
 ·intro h;rw [h,Int.sub_emod,Int.emod_emod,<- Int.sub_emod,show f+k-f=k by omega];exact Qkt hk aj
 ·intro h;rw [<- h,Int.add_emod,Int.emod_emod,<- Int.add_emod,show f+(y-f)=y by omega];exact (Qkt hy ac).symm
theorem Qdt (c:1<=t) (o:t<=300) {K:LL->oP R} {k0:Int->Bool->LL->oP R} (hk:∀ a b w,k0 a b w=K w) {A:List Occ} {i:Nat} {x a b d nn:Int} (e:A[i]? = some (x,a,b)) (ha : -1000<=a) (aq:a<=20000) (hd : -1000<=d) (ao:d<=20000) {f:Nat->Bool} :
  ∃ g:Nat->Bool,Zt n t (A.map enc) (i:Int) nn (Q4 d) k0 400 0 (Ey f t.toNat)=K (Ey g t.toNat)/\∀ y,y<t.toNat->(g y=true↔f y=true\/((y:Int)-(a-d+1)) % t<nn):=by
 let N:Nat:=(if nn<t then nn else t).toNat;have hN:(N:Int)=if nn<0 then 0 else if nn<t then nn else t:=by
  show (((if nn<t then nn else t).toNat:Nat):Int)=_;split <;> split <;> omega
 have aj:(N:Int)<=t:=by rw [hN];split <;> (try split) <;> omega
 have an:(N:Int)<=nn\/N=0:=by
  by_cases h:nn<0
  ·rw [if_pos h] at hN;right;omega
  ·rw [if_neg h] at hN;left;rw [hN];split <;> omega
 refine ⟨fun y=>f y||decide (((y:Int)-(a-d+1)) % t<(N:Int)),?_,fun y hy=>?_⟩
 ·have j:Ey f t.toNat=Ey (fun y=>f y||decide (((y:Int)-(a-d+1)) % t<((0:Nat):Int))) t.toNat:=by
   unfold Ey;apply List.map_congr_left;intro y _;have:=Qkj ((y:Int)-(a-d+1)) (show t≠0 by omega);show [D.bool (f y)]=[D.bool (f y||decide (((y:Int)-(a-d+1)) % t<((0:Nat):Int)))];rw [show decide (((y:Int)-(a-d+1)) % t<((0:Nat):Int))=false from decide_eq_false Zzq,Bool.or_false]
  rw [j];refine Qx (r:=fun m k=>Zt n t (A.map enc) (i:Int) nn (Q4 d) k0 m k (Ey (fun y=>f y||decide (((y:Int)-(a-d+1)) % t<k)) t.toNat)) (N:=N) (fun m k ak=>?_) (fun m=>?_) N 400 0 Zzq Zzq
  ·have l:=Qkj (a-d+1+(k:Int)) (show t≠0 by omega);have p:=Qkh (a-d+1+(k:Int)) (show 0<t by omega);rw [Zt,show decide ((k:Int)<nn)=true from Qk6 Zzq,show decide ((k:Int)<t)=true from Qk6 Zzq,QjZ,QjZ,QK e];simp -implicitDefEqProofs only [Q0,MX,Q2,Q6 (x:=a-d) Zzq Zzq,Q6 (x:=a-d+1) Zzq Zzq,Q6 (x:=a-d+1+(k:Int)) Zzq Zzq,QfK (n:=n) (x:=a-d+1+(k:Int)) c (show t<=7200 by omega) Zzq Zzq,B6,ZI (len:=t.toNat) l Zzq,LR (f:=fun y=>f y||decide (((y:Int)-(a-d+1)) % t<(k:Int))) (n:=t.toNat) (i:=((a-d+1+(k:Int)) % t).toNat) Zzq,List.set_cons_zero];rw [QaO (g:=fun y=>f y||decide (((y:Int)-(a-d+1)) % t<((k+1:Nat):Int))) (fun y hy=>?_),Q6 Zzq Zzq]
   ·rfl
   ·have hd:=QeJ (t:=t) (f:=a-d+1) (k:=k) (y:=y) c Zzq Zzq Zzq Zzq;by_cases ac:y=((a-d+1+(k:Int)) % t).toNat
    ·rw [if_pos ac,show decide (((y:Int)-(a-d+1)) % t<((k+1:Nat):Int))=true from Qk6 (by have:=hd.1 Zzq;omega),Bool.or_true]
    ·rw [if_neg ac];congr 1;rw [decide_eq_decide];have:¬ ((y:Int)-(a-d+1)) % t=(k:Int):=fun h=>ac (by have:=hd.2 h;omega)
     omega
  ·rw [Zt];rw [show (bif decide ((N:Int)<nn) then decide ((N:Int)<t) else false)=false by
    by_cases h:(N:Int)<nn
    ·rw [Qk6 h,QjZ];exact decide_eq_false (by rw [hN];split <;> (try split) <;> omega)
    ·rw [decide_eq_false h,QjW],QjW,hk]
 ·have q:=Qkj ((y:Int)-(a-d+1)) (show t≠0 by omega);have s:=Qkh ((y:Int)-(a-d+1)) (show 0<t by omega);rw [Bool.or_eq_true,Qkp];refine or_congr_right ?_;rw [hN];split <;> (try split) <;> omega
theorem Q1P (o:1<=t) (p:t<=300) {K:LL->oP R} {k0:Int->Bool->LL->oP R} (hk:∀ a b w,k0 a b w=K w) {A B:List Occ} (hA:OL (-1) A) (hB:OL (-1) B) (lA:A.length<=100) (lB:B.length<=300):∀ (ac P:List Occ) (m:Nat) (f:Nat->Bool),A=P++ac->ac.length<m->(∀ y,y<t.toNat->(f y=true↔FB t P B y)) ->
  ∃ g:Nat->Bool,Yo 400 t (A.map enc) (B.map enc) k0 m ((P.length:Nat):Int) (Ey f t.toNat)=K (Ey g t.toNat)/\∀ y,y<t.toNat->(g y=true↔FB t A B y)
 |[],P,m+1,f,hP,_,hf=>by
  rw [Qkf] at hP;subst hP;refine ⟨f,?_,hf⟩;rw [Yo,Qk1,Ql,QjW,hk]
 |(x,a,b)::ac,P,m+1,f,hP,hm,hf=>by
  have e:A[P.length]? = some (x,a,b):=by rw [hP,List.getElem?_append_right (Qkc _),Nat.sub_self];rfl
  have hi:P.length<A.length:=by rw [hP];simp
  have hq:=hA.mem (x,a,b) (QjY e);dsimp only at hq;have ak:A=(P++[(x,a,b)])++ac:=by rw [hP];simp
  have aj:=Q8I (n:=400) (O:=B) (x:=x) (K:=fun i j k z=>(some (i,j,k,z):Option (D × D × D × Bool))) (k0:=fun i j k=>some (i,j,k,true)) (k1:=fun _ _=>some (Q4 0,Q4 0,Q4 0,false)) Zzq (fun _ _ _=>rfl) (fun _ _=>rfl) B 0 400 rfl Zzq;rw [Yo,Qk1,Q9 hi,QjZ,QK e];simp -implicitDefEqProofs only [Q0,Np,MX,LG,Q2];unfold Ac;have nx:wJ ((P.length:Int)+1)=(((P++[(x,a,b)]).length:Nat):Int):=by rw [Q6 Zzq Zzq];simp
  rw [nx];rcases aj with ⟨c,d,g1,q⟩ | ⟨g1,q⟩
  ·have u:=hB.mem (x,c,d) g1;dsimp only at u;rw [show UN 400 (B.map enc) x (fun i j k=>(some (i,j,k,true):Option (D × D × D × Bool))) (fun v aa=>some (D.int .i64 (0:Int),D.int .i64 (0:Int),D.int .i64 (0:Int),false)) 400 0=some (Q4 x,Q4 c,Q4 d,true) from q];simp -implicitDefEqProofs only [Q0,Qke,QjW,Q2];have ao:wJ (wJ (wJ (wJ (b-a)+d)-c)-1)=b-a+d-c-1:=by
    rw [Q6 (x:=b-a) Zzq Zzq,Q6 (x:=b-a+d) Zzq Zzq,Q6 (x:=b-a+d-c) Zzq Zzq,Q6 Zzq Zzq]
   rw [ao];obtain ⟨g,k1,k2⟩:=Qdt (n:=400) (nn:=b-a+d-c-1) o p (K:=fun w=>Yo 400 t (A.map enc) (B.map enc) k0 m (((P++[(x,a,b)]).length:Nat):Int) w) (k0:=fun _ _ w=>Yo 400 t (A.map enc) (B.map enc) k0 m (((P++[(x,a,b)]).length:Nat):Int) w) (fun _ _ _=>rfl) (f:=f) e (d:=d) Zzq Zzq Zzq Zzq;rw [k1];refine Q1P o p hk hA hB lA lB ac _ m g ak (by simpa using hm) (fun y hy=>?_);rw [k2 y hy,QbY,hf y hy];refine or_congr_right ⟨fun h=>⟨x,a,b,c,d,.head _,g1,h⟩,?_⟩;rintro ⟨x',a',b',c',d',l,r,s⟩;cases l with
   |head=>
    cases hB.uniq r g1 rfl;exact s
   |tail _ l=>nomatch l
  ·rw [show UN 400 (B.map enc) x (fun i j k=>(some (i,j,k,true):Option (D × D × D × Bool))) (fun v aa=>some (D.int .i64 (0:Int),D.int .i64 (0:Int),D.int .i64 (0:Int),false)) 400 0=some (Q4 0,Q4 0,Q4 0,false) from q];simp -implicitDefEqProofs only [Q0,Qkm,QjZ];refine Q1P o p hk hA hB lA lB ac _ m f ak (by simpa using hm) (fun y hy=>?_);rw [QbY,hf y hy];refine ⟨.inl,fun h=>h.elim id ?_⟩;rintro ⟨x',a',b',c',d',l,r,s⟩;cases l with
   |head=>exact (g1 _ r rfl).elim
   |tail _ l=>nomatch l
theorem VS.lastlt {t c d:Int}:∀ {l:Int} {M:List Sp2},VS t l (M++[(c,d)])->(∀ q∈M,q.2<c)/\c<d/\d<=t
 |l,[],⟨g,h2,f,_⟩=>⟨fun q hq=>(nomatch hq),h2,f⟩
 |l,(a,b)::M,⟨g,h2,f,e⟩=>by
  have ih:=e.lastlt;refine ⟨fun q hq=>?_,ih.2⟩;cases hq with
  |head=>
   cases M with
   |nil=>exact e.1
   |cons p M=>have:=ih.1 p (.head _);have:=e.1;have:=e.2.1;dsimp only at *;omega
  |tail _ hq=>exact ih.1 q hq
theorem VS.pw {t:Int}:∀ {l:Int} {F:List Sp2},VS t l F->F.Pairwise fun p q=>p.2<q.1
 |_,[],_=>.nil
 |l,(a,b)::r,⟨d,h2,e,c⟩=>.cons (fun q hq=>(c.rng q hq).1) c.pw
theorem VS.sep {t:Int}:∀ {l:Int} {F:List Sp2},VS t l F->∀ p∈F,∀ q∈F,p=q\/p.2<q.1\/q.2<p.1
 |_,[],_,p,hp,_,_=>nomatch hp
 |l,(a,b)::r,⟨d,h2,e,c⟩,p,hp,q,hq=>by
  have hr:=c.rng;cases hp with
  |head=>
   cases hq with
   |head=>exact .inl rfl
   |tail _ hq=>exact .inr (.inl (hr q hq).1)
  |tail _ hp=>
   cases hq with
   |head=>exact .inr (.inr (hr p hp).1)
   |tail _ hq=>exact c.sep p hp q hq
structure GP (t:Int) (F G:List Sp2):Prop where
 asc:G.Pairwise fun p q=>p.1<q.1
 rng:∀ q∈G,0<=q.1/\q.1<t/\q.1<q.2/\q.2<q.1+t
 ins:∀ q∈G,∀ z,q.1<=z->z<q.2->InS (z % t) F
 out:∀ q∈G,¬ InS (q.2 % t) F
 st:∀ x,0<=x->x<t->((InS x F/\¬ InS ((x-1) % t) F)↔∃ q∈G,q.1=x)
theorem Qah {z t:Int} (a:0<=z) (b:z<t):z % t=z:=Qkt a b
theorem QhE {z t:Int} (a:t<=z) (b:z<t+t):z % t=z-t:=by
 rw [<- Qkt (show 0<=z-t by omega) (show z-t<t by omega),Int.sub_emod_right]
theorem Qhs {t:Int} (h:1<=t):(-1:Int) % t=t-1:=by
 rw [<- Qkt (show 0<=t-1 by omega) (show t-1<t by omega),show t-1 = -1+t by omega,Int.add_emod_right]
theorem WR.gp {t:Int} {F G:List Sp2} (l:1<=t) (hv:VS t (-1) F) (hc:cnt F≠t) (hw:WR t F G):GP t F G:=by
 have hr:=hv.rng;have hs:=hv.sep;have az:=hv.cnt Zzq;have ay:=Qa0 hv Zzq;have gap:∀ q∈F,¬ InS q.2 F:=fun q hq ⟨p,hp,h⟩=>by
  have:=hr q hq;rcases hs p hp q hq with rfl | h' | h' <;> omega
 have aj:∀ q∈F,¬ InS (q.1-1) F:=fun q hq ⟨p,hp,h⟩=>by
  have:=hr q hq;rcases hs p hp q hq with rfl | h' | h' <;> omega
 have ac:∀ q∈F,q.2-q.1<t:=fun q hq=>by
  have:=ay q hq;have:=az.2.2 (List.length_pos_of_mem hq);omega
 have ak:∀ x,0<=x->x<t->InS x F->¬ InS ((x-1) % t) F->∃ q∈F,q.1=x:=fun x i j ⟨q,hq,h⟩ hn=>by
  have:=hr q hq;by_cases hx:q.1=x
  ·exact ⟨q,hq,hx⟩
  ·exact (hn ⟨q,hq,by rw [Qah Zzq Zzq];omega,by rw [Qah Zzq Zzq];omega⟩).elim
 rcases hw with ⟨rfl,hw⟩ | ⟨b,M,c,rfl,rfl⟩
 ·have aq:∀ p∈G,∀ q∈G,p.1=0->q.2=t->False:=fun p hp q hq o h2=>by
   have aw:p≠q:=fun e=>by have:=ac p hp;rw [<- e] at h2;omega
   rcases G with _ | ⟨⟨a,b⟩,G⟩
   ·nomatch hp
   obtain ⟨r,s,u,f⟩:=id hv;have al:=f.rng;have a1:p=(a,b):=by
    cases hp with
    |head=>rfl
    |tail _ hp=>have:=al p hp;omega
   subst a1;obtain rfl:a=0:=o;rcases List.eq_nil_or_concat G with rfl | ⟨M,⟨c,d⟩,rfl⟩
   ·cases hq with
    |head=>exact aw rfl
    |tail _ hq=>nomatch hq
   ·rw [List.concat_eq_append] at *
    have hl:=f.lastlt;cases hq with
    |head=>exact aw rfl
    |tail _ hq=>
     rcases Qk3.1 hq with hq | hq
     ·have:=hl.1 q hq;omega
     ·obtain rfl:=Qk9.1 hq;obtain rfl:d=t:=h2;exact hw b M c rfl
  refine ⟨hv.pw.imp_of_mem fun {p q} hp hq h=>by have:=hr p hp;omega,fun q hq=>by have:=hr q hq;have:=ac q hq;omega,fun q hq z g k=>?_,fun q hq=>?_,fun x i j=>⟨fun h=>ak x i j h.1 h.2,?_⟩⟩
  ·have:=hr q hq;rw [Qah Zzq Zzq];exact ⟨q,hq,g,k⟩
  ·have:=hr q hq;by_cases m:q.2=t
   ·rw [m,Int.emod_self];rintro ⟨p,hp,h⟩;have:=hr p hp;exact aq p hp q hq Zzq m
   ·rw [Qah Zzq Zzq];exact gap q hq
  ·rintro ⟨q,hq,rfl⟩;have:=hr q hq;refine ⟨⟨q,hq,Int.le_refl _,this.2.1⟩,?_⟩;by_cases n:q.1=0
   ·rw [n,show (0:Int)-1 = -1 by omega,Qhs l];rintro ⟨p,hp,h⟩;have:=hr p hp;exact aq q hq p hp n Zzq
   ·rw [Qah Zzq Zzq];exact aj q hq
 ·obtain ⟨r,s,u,f⟩:=id hv;have hl:=f.lastlt;have al:=f.rng;have hM:∀ q∈M,b<q.1/\q.1<q.2/\q.2<c:=fun q hq=>by
   have:=al q (Qko _ hq);have:=hl.1 q hq;omega
  have ao:∀ q∈M,q∈(0,b)::(M++[(c,t)]):=fun q hq=>.tail _ (Qko _ hq)
  have an:(c,t)∈(0,b)::(M++[(c,t)]):=.tail _ (Qkk _ (.head _));have ax:(0,b)∈(0,b)::(M++[(c,t)]):=.head _;have a4:b<c:=(al (c,t) (Qkk _ (.head _))).1;refine ⟨?_,fun q hq=>?_,fun q hq z g k=>?_,fun q hq=>?_,fun x i j=>⟨fun h=>?_,?_⟩⟩
  ·refine List.pairwise_append.2 ⟨(List.pairwise_append.1 f.pw).1.imp_of_mem fun {p q} hp hq h=>by have:=hM p hp;omega,List.pairwise_singleton _ _,fun p hp q hq=>?_⟩;obtain rfl:=Qk9.1 hq;have:=hM p hp;dsimp only;omega
  ·rcases Qk3.1 hq with h | h
   ·have:=hM q h;omega
   ·obtain rfl:=Qk9.1 h;dsimp only;omega
  ·rcases Qk3.1 hq with h | h
   ·have:=hM q h;rw [Qah Zzq Zzq];exact ⟨q,ao q h,g,k⟩
   ·obtain rfl:=Qk9.1 h;dsimp only at g k;by_cases hz:z<t
    ·rw [Qah Zzq hz];exact ⟨_,an,g,hz⟩
    ·rw [QhE Zzq Zzq];exact ⟨_,ax,by dsimp only;omega,by dsimp only;omega⟩
  ·rcases Qk3.1 hq with h | h
   ·have:=hM q h;rw [Qah Zzq Zzq];exact gap q (ao q h)
   ·obtain rfl:=Qk9.1 h;dsimp only;rw [QhE Zzq Zzq,show t+b-t=b by omega];exact gap _ ax
  ·obtain ⟨q,hq,rfl⟩:=ak x i j h.1 h.2;cases hq with
   |head=>
    refine (h.2 ?_).elim;dsimp only;rw [show (0:Int)-1 = -1 by omega,Qhs l];exact ⟨_,an,by dsimp only;omega,by dsimp only;omega⟩
   |tail _ hq=>
    rcases Qk3.1 hq with hq | hq
    ·exact ⟨q,Qko _ hq,rfl⟩
    ·obtain rfl:=Qk9.1 hq;exact ⟨(c,t+b),Qkk _ (.head _),rfl⟩
  ·rintro ⟨q,hq,rfl⟩;rcases Qk3.1 hq with h | h
   ·have:=hM q h;refine ⟨⟨q,ao q h,Int.le_refl _,this.2.1⟩,?_⟩;rw [Qah Zzq Zzq];exact aj q (ao q h)
   ·obtain rfl:=Qk9.1 h;dsimp only;refine ⟨⟨_,an,Int.le_refl _,hl.2.1⟩,?_⟩;rw [Qah Zzq Zzq];exact aj _ an
theorem QaA {t:Int} {F:List Sp2} (i:1<=t) (hv:VS t (-1) F):cnt F=t↔∀ y,0<=y->y<t->InS y F:=by
 rcases F with _ | ⟨⟨a,b⟩,r⟩
 ·exact ⟨fun h=>by simp only [cnt] at h;omega,fun h=>absurd (h 0 Zzq Zzq) LV⟩
 obtain ⟨j,k,f,e⟩:=hv;have hc:=e.cnt f;rcases r with _ | ⟨⟨c,d⟩,r⟩
 ·simp only [cnt,TK];constructor
  ·exact fun h y l m=>.inl Zzq
  ·intro h;have g:=(h 0 Zzq Zzq).resolve_right LV;have h2:=(h (t-1) Zzq Zzq).resolve_right LV;omega
 ·have:=hc.2.2 (by simp);have w:=e.1;constructor
  ·intro h;rw [cnt] at h;omega
  ·intro h;have ac:=e.rng;have:=ac (c,d) (.head _);dsimp only at this;obtain ⟨p,hp,g,h2⟩:=h b Zzq Zzq;cases hp with
   |head=>dsimp only at h2;omega
   |tail _ hp=>have:=ac p hp;omega
theorem Q5w (d:t<=300) {f:Nat->Bool} {k0:Int->Int->Bool->oP R} {K:Int->oP R} (hk:∀ a b c,k0 a b c=K a):∀ (c m x:Nat) (w:Int),(x:Int)+c=t->c<m->0<=w->w<=x->(w=x↔∀ y:Nat,y<x->f y=true)->∃ w',U0 n t (Ey f t.toNat) k0 m w (x:Int)=K w'/\(w'=t↔∀ y:Nat,(y:Int)<t->f y=true)
 |0,m+1,x,w,hx,_,_,_,hw=>⟨w,by rw [U0,show decide ((x:Int)<t)=false from decide_eq_false Zzq,QjW,hk],by
  rw [show t=(x:Int) by omega,hw];exact ⟨fun h y hy=>h y Zzq,fun h y hy=>h y Zzq⟩⟩
 |c+1,m+1,x,w,hx,hm,w0,e,hw=>by
  have aj:Q1 (Ey f t.toNat) (x:Int)=some [D.bool (f x)]:=by rw [Qa];exact LR Zzq
  rw [U0,show decide ((x:Int)<t)=true from Qk6 Zzq,QjZ,aj];simp -implicitDefEqProofs only [Q0,QjU,Rj,Qu (show x<=1000 by omega)];cases ac:f x with
  |false=>
   refine Q5w d hk c m (x+1) w Zzq Zzq w0 Zzq ⟨fun h=>by omega,fun h=>?_⟩;have:=h x Zzq;rw [ac] at this;cases this
  |true=>
   rw [QjZ,Q6 Zzq Zzq];refine Q5w d hk c m (x+1) (w+1) Zzq Zzq Zzq Zzq ⟨fun h y hy=>?_,fun h=>?_⟩
   ·by_cases al:y=x
    ·rw [al,ac]
    ·exact hw.1 Zzq y Zzq
   ·have:=hw.2 fun y hy=>h y Zzq
    omega
theorem QeS (b:1<=t) (c:t<=300) {f:Nat->Bool} {k0:Int->Bool->oP R} {a:Int} {L:Nat} (a0:0<=a) (a1:a<t) (hL:(L:Int)<t) (aj:∀ k:Nat,k<L->f ((a+k) % t).toNat=true) (ac:f ((a+L) % t).toNat=false):U9 n t (Ey f t.toNat) a k0 400 0=k0 (L:Int) false:=by
 have step:∀ k:Nat,k<=L->Q1 (Ey f t.toNat) (Int.tmod (wJ (a+k)) t)=some [D.bool (f ((a+k) % t).toNat)]:=fun k hk=>by
  have d:=Qkj (a+(k:Int)) (show t≠0 by omega);have e:=Qkh (a+(k:Int)) (show 0<t by omega);rw [Q6 Zzq Zzq,Int.tmod_eq_emod_of_nonneg Zzq];obtain ⟨z,hz⟩:∃ z:Nat,(a+(k:Int)) % t=z:=⟨((a+(k:Int)) % t).toNat,by omega⟩;rw [hz,Qa,QjV];exact LR Zzq
 refine Qx (r:=fun m k=>U9 n t (Ey f t.toNat) a k0 m k) (N:=L) (fun m k hk=>?_) (fun m=>?_) L 400 0 Zzq Zzq
 ·rw [U9,Ei Zzq,step k Zzq];simp -implicitDefEqProofs only [Q0,QjU,Rj,aj k hk,QjZ,Qu (show k<=1000 by omega)]
 ·rw [U9,Ei Zzq,step L (Qkc _)];simp -implicitDefEqProofs only [Q0,QjU,Rj,ac,QjW]
theorem Q5q (g:1<=t) (i:t<=300) {f:Nat->Bool} {F G:List Sp2} (hf:∀ y:Nat,(y:Int)<t->(f y=true↔InS y F)) (hG:GP t F G) {K:LL->oP R} {k0:Int->Bool->LL->oP R} (hk:∀ a b w,k0 a b w=K w):∀ (c m x:Nat) (P S:List Sp2),(x:Int)+c=t->c<m->G=P++S->P.length<=x->(∀ q∈P,q.1<x)->(∀ q∈S,(x:Int)<=q.1)->YA 400 t (Ey f t.toNat) k0 m (x:Int) ((P.map (Q3h t)).map Yt)=K ((G.map (Q3h t)).map Yt)
 |0,m+1,x,P,S,hx,_,ac,_,_,hS=>by
  have:S=[]:=by
   cases S with
   |nil=>rfl
   |cons q S=>have:=hS q (.head _);have:=hG.rng q (by rw [ac];simp);omega
  rw [YA,show decide ((x:Int)<t)=false from decide_eq_false Zzq,QjW,hk,ac,this,Qkf]
 |c+1,m+1,x,P,S,hx,hm,ac,hl,hP,hS=>by
  have fi:∀ z:Int,f (z % t).toNat=true↔InS (z % t) F:=fun z=>by
   have l:=Qkj z (show t≠0 by omega);have o:=Qkh z (show 0<t by omega);have:=hf (z % t).toNat Zzq;rw [show (((z % t).toNat:Nat):Int)=z % t by omega] at this;exact this
  have aq:Q1 (Ey f t.toNat) (x:Int)=some [D.bool (f x)]:=by rw [Qa];exact LR Zzq
  have l:=Qkj ((x:Int)-1) (show t≠0 by omega);have o:=Qkh ((x:Int)-1) (show 0<t by omega);have al:Q1 (Ey f t.toNat) (((x:Int)-1) % t)=some [D.bool (f (((x:Int)-1) % t).toNat)]:=by
   obtain ⟨z,hz⟩:∃ z:Nat,((x:Int)-1) % t=z:=⟨(((x:Int)-1) % t).toNat,by omega⟩;rw [hz,Qa,QjV];exact LR Zzq
  rw [YA,show decide ((x:Int)<t)=true from Qk6 Zzq,QjZ,aq];simp -implicitDefEqProofs only [Q0,QjU,Rj,Qu (show x<=1000 by omega),Q6 (x:=(x:Int)-1) Zzq Zzq,QfK (n:=400) (x:=(x:Int)-1) g (show t<=7200 by omega) Zzq Zzq,al];have ak:=hG.st x Zzq Zzq;have an:=hf x Zzq;have ar:=fi ((x:Int)-1);have a2:∀ (R':Type) (p:Bool) (d:R') (v:R') (k:R'->oP R),gb p (some v) d k=gb p (some v) d k:=fun _ _ _ _ _=>rfl
  have skip:(∀ q∈G,q.1≠x)->YA 400 t (Ey f t.toNat) k0 m ((x+1:Nat):Int) ((P.map (Q3h t)).map Yt)=K ((G.map (Q3h t)).map Yt):=fun au=>by
   refine Q5q g i hf hG hk c m (x+1) P S Zzq Zzq ac Zzq (fun q hq=>by have:=hP q hq;omega) (fun q hq=>?_);have:=hS q hq;have:=au q (by rw [ac];exact Qkk _ hq);omega
  cases hb:f x with
  |false=>
   simp -implicitDefEqProofs only [Qkm,Qke,gbF,QjZ];refine skip fun q hq e=>?_
   have:=(ak.2 ⟨q,hq,e⟩).1;rw [<- an,hb] at this;cases this
  |true=>
   simp -implicitDefEqProofs only [Qkm,Qke,Q0,QjW];cases j:f (((x:Int)-1) % t).toNat with
   |true=>
    rw [QjZ];refine skip fun q hq e=>?_
    exact (ak.2 ⟨q,hq,e⟩).2 (ar.1 j)
   |false=>
    rw [QjW];obtain ⟨q,hq,aw⟩:=ak.1 ⟨an.1 hb,fun h=>by rw [<- ar,j] at h;cases h⟩;obtain ⟨S',ay⟩:∃ S',S=q::S':=by
     rw [ac] at hq;rcases Qk3.1 hq with h | h
     ·have:=hP q h;omega
     cases S with
     |nil=>nomatch h
     |cons p S=>
      cases h with
      |head=>exact ⟨S,rfl⟩
      |tail _ h=>
       have ha:=hG.asc;rw [ac] at ha;have:=(List.pairwise_cons.1 (List.pairwise_append.1 ha).2.1).1 q h;have:=hS p (.head _);omega
    subst ay;have hr:=hG.rng q hq;obtain ⟨L,hL⟩:∃ L:Nat,q.2=x+L:=⟨(q.2-q.1).toNat,by omega⟩;have ax:=hG.ins q hq;have ao:=hG.out q hq;rw [QeS (n:=400) (k0:=_) (a:=(x:Int)) (L:=L) g i Zzq Zzq Zzq (fun k hk=>(fi _).2 (ax _ Zzq Zzq)) (by
     cases h:f (((x:Int)+L) % t).toNat with
     |false=>rfl
     |true=>rw [<- hL] at h;exact (ao ((fi _).1 h)).elim)]
    have hw:[Q4 ((x:Int)+L),Q4 ((x:Int)+t-1)]=Yt (Q3h t q):=by rw [<- hL,<- aw];rfl
    rw [Q6 (x:=(x:Int)+L) Zzq Zzq,Q6 (x:=(x:Int)+t) Zzq Zzq,Q6 (x:=(x:Int)+t-1) Zzq Zzq,XS (by simp;omega),Q0];have:=Q5q g i hf hG hk c m (x+1) (P++[q]) S' Zzq Zzq (by rw [ac];simp) (by simp;omega) (fun p hp=>by
     rcases Qk3.1 hp with h | h
     ·have:=hP p h;omega
     ·obtain rfl:=Qk9.1 h;omega) (fun p hp=>by
     have ha:=hG.asc;rw [ac] at ha;have:=(List.pairwise_cons.1 (List.pairwise_append.1 ha).2.1).1 p hp;omega)
    rw [Qk8,Qk8,List.map_singleton,List.map_singleton,<- hw] at this;exact this
theorem Qb0 {A B:List Occ} (p:2<=t) (a:t<=300) (hA:OL (-1) A) (hB:OL (-1) B) (lA:A.length<=6) (lB:B.length<=6) {F G:List Sp2} (hv:VS t (-1) F) (hF:∀ y,0<=y->y<t->(InS y F↔FB t A B y)) (hw:WR t F G) :
  Hp 400 t (A.map enc) (B.map enc) Tu2=some (if cnt F=t then ([],(13:Int)) else ((G.map (Q3h t)).map Yt,(0:Int))):=by
 obtain ⟨f,i,j⟩:=Q1P Zzq a (K:=fun w=>(some (w,(0:Int)):Option (LL × Int))) (k0:=fun _ _ w=>some (w,(0:Int))) (fun _ _ _=>rfl) hA hB Zzq Zzq A [] 400 (fun _=>false) rfl Zzq (fun y _=>⟨fun h=>(nomatch h),fun ⟨_,_,_,_,_,h,_⟩=>(nomatch h)⟩);have hf:∀ y:Nat,(y:Int)<t->(f y=true↔InS y F):=fun y hy=>by rw [j y Zzq,hF y Zzq hy]
 have hm:Hd 400 t (A.map enc) (B.map enc) Tu2=some (Ey f t.toNat,(0:Int)):=by
  unfold Hd;rw [Q4H Zzq (show t<=7200 by omega),Q9k Zzq hA,Q9k Zzq hB];simp -implicitDefEqProofs only [Q0,Qke,Qkm,QjW];rw [show (bif decide ((0:Int)<=t)&&decide (t<=t) then some () else none)=some () by rw [QU (by simp;omega)],Q0,XS Zzq,Q0];have e:List.replicate t.toNat [D.bool false]=Ey (fun _=>false) t.toNat:=by unfold Ey;rw [List.map_const',List.length_range]
  rw [e];exact i
 unfold Hp;rw [hm,Q0,Q8 (by rfl)];obtain ⟨w,k,l⟩:=Q5w (n:=400) a (f:=f) (K:=fun d=>bif (d == t) then (some ([],(13:Int)):Option (LL × Int)) else YA 400 t (Ey f t.toNat) (fun m o g=>some (g,(0:Int))) 400 (0:Int) []) (k0:=fun d r s=>bif (d == t) then (some ([],(13:Int)):Option (LL × Int)) else YA 400 t (Ey f t.toNat) (fun m o g=>some (g,(0:Int))) 400 (0:Int) []) (fun _ _ _=>rfl) t.toNat 400 0 0 Zzq Zzq Zzq Zzq ⟨fun _ y hy=>by omega,fun _=>rfl⟩;refine k.trans ?_;have hc:w=t↔cnt F=t:=by
  rw [l,QaA Zzq hv];constructor
  ·intro h y u v;have:=(hf y.toNat Zzq).1 (h y.toNat Zzq);rw [show ((y.toNat:Nat):Int)=y by omega] at this;exact this
  ·exact fun h y hy=>(hf y hy).2 (h y Zzq hy)
 by_cases ac:cnt F=t
 ·rw [if_pos ac,QU (by simpa using hc.2 ac)]
 ·rw [if_neg ac,Q8 (by simpa using fun h=>ac (hc.1 h))];exact Q5q Zzq a hf (hw.gp Zzq hv ac) (K:=fun w=>some (w,(0:Int))) (k0:=fun _ _ w=>some (w,(0:Int))) (fun _ _ _=>rfl) t.toNat 400 0 [] G Zzq Zzq rfl (by simp) (fun q hq=>nomatch hq) (fun q hq=>((hw.gp Zzq hv ac).rng q hq).1)
end
theorem D3 {R:Type} {n:Nat} {O:List Occ} (hl:O.length<=1000) {q:Int->Bool} {K:LL->oP R} {k0:Int->Bool->LL->oP R} (hk:∀ a b w,k0 a b w=K w):∀ (ac P:List Occ) (j m:Nat),O.drop j=ac->ac.length<m->P.length<=j->Yk n (O.map enc) ((O.length:Nat):Int) q k0 m (j:Int) (P.map enc)=K ((P++ac.filter fun o=>!q o.1).map enc)
 |[],P,j,m+1,hd,_,_=>by
  have:=Uf hd;rw [Yk,show decide ((j:Int)<((O.length:Nat):Int))=false by simpa using this,QjW,hk,List.filter_nil,Qkf]
 |o::ac,P,j,m+1,hd,hm,hP=>by
  obtain ⟨e,aj,hj⟩:=Zg hd;rw [Yk,Q9 hj,QjZ,QK e];simp -implicitDefEqProofs only [Q0,Np,MX,LG,Q2,Qu (show j<=1000 by omega),XS (show ((P.map enc).length+[[Q4 o.1,Q4 o.2.1,Q4 o.2.2]].length)*24<=100000 by simp;omega)];rw [List.filter_cons];cases hq:q o.1 with
  |true=>
   rw [Qke,QjW,if_neg (by simp)];exact D3 hl hk ac P (j+1) m aj (by simpa using hm) Zzq
  |false=>
   rw [Qkm,QjZ,if_pos rfl];have:=D3 (n:=n) (q:=q) hl hk ac (P++[o]) (j+1) m aj (by simpa using hm) (by simp;omega);rw [Qk8,Qk5] at this;exact this
theorem Q6E {R:Type} {O:List Occ} (hl:O.length<=300) {q:Int->Bool} (K:LL->(Int->Bool)->oP R):UK 400 (O.map enc) q K=K ((O.filter fun o=>!q o.1).map enc) q:=by
 unfold UK;rw [Qk1];exact D3 Zzq (K:=fun w=>K w q) (fun _ _ _=>rfl) O [] 0 400 rfl Zzq (by simp)
namespace Cx
def Q81 (a b:Nat) (w:Sp2):List D:=[Q4 6,Q4 ((2*a:Nat):Int),Q4 ((2*b:Nat):Int),Q4 w.1,Q4 w.2,Q4 0]
def fil (X:Cx) (J:List Tup) (a b:Nat):List Occ:=(X.occN a).filter fun o=>!X.TRb J a b o.1
def WV (X:Cx) (per:Int) (J:List Tup) (a b:Nat):Option (List Sp2):=match U7 400 per ((X.fil J a b).map enc) ((X.fil J b a).map enc) Tu2 with
 |some (w,e)=>if e=0 then some (w.map fun r=>match r with | [.int _ x,.int _ y]=>(x,y) | _=>(0,0)) else none
 |none=>none
def QfE:Option (List Sp2)->LL × Int
 |none=>([],13)
 |some W=>(W.map Yt,0)
def hdw (X:Cx) (per:Int) (J:List Tup) (a:Nat):Nat->Nat->Option LL
 |0,_=>some []
 |c+1,b=>match X.WV per J a b with
  |none=>none
  |some W=>(hdw X per J a c (b+1)).map fun H=>W.map (Q81 a b)++H
def hdws (X:Cx) (per:Int) (J:List Tup):Nat->Nat->Option LL
 |0,_=>some []
 |c+1,a=>match X.hdw per J a c (a+1) with
  |none=>none
  |some H=>(hdws X per J c (a+1)).map fun H'=>H++H'
variable {R:Type} {n:Nat} {X:Cx} (h:X.OK) {per:Int}
theorem Qas {J:List Tup} {a b:Nat} {r:Int}:X.TRb J a b r=X.TRb J b a r:=by
 unfold TRb jab;congr 1;funext t;generalize ((t.1:Int) == (a:Int))=c;generalize ((t.1:Int) == (b:Int))=d;generalize ((t.2.1:Int) == (a:Int))=e;generalize ((t.2.1:Int) == (b:Int))=f;cases c <;> cases d <;> cases e <;> cases f <;> rfl
include h
theorem Qc1 {J:List Tup} {a b:Nat} (ha:a<X.N):OL (-1) (X.fil J a b)/\(X.fil J a b).length<=6:=by
 have o:=(JF h ha).2;exact ⟨o.1.filter,Nat.le_trans (List.length_filter_le ..) o.2⟩
theorem Q2n (p0:2<=per) (p1:per<=300) {J:List Tup} {a b:Nat} (ha:a<X.N) (hb:b<X.N):U7 400 per ((X.fil J a b).map enc) ((X.fil J b a).map enc) Tu2=some (QfE (X.WV per J a b))/\Hp 400 per ((X.fil J a b).map enc) ((X.fil J b a).map enc) Tu2=some (QfE (X.WV per J a b))/\∀ W,X.WV per J a b=some W->W.length<=12:=by
 have oa:=Qc1 h (J:=J) (b:=b) ha;have ob:=Qc1 h (J:=J) (b:=a) hb;obtain ⟨F,G,g1,g,k,i,j⟩:=QaZ p0 (show per<=7200 by omega) oa.1 ob.1 oa.2 ob.2;have l:=Qb0 p0 p1 oa.1 ob.1 oa.2 ob.2 g1 k i;have hG:G.length<=12:=by
  rcases i with ⟨rfl,_⟩ | ⟨b,M,c,rfl,rfl⟩
  ·exact g
  ·simp at g ⊢;omega
 have e:X.WV per J a b=if cnt F=per then none else some (G.map (Q3h per)):=by
  unfold WV;rw [j];by_cases hc:cnt F=per
  ·rw [if_pos hc,if_pos hc];rfl
  ·rw [if_neg hc,if_neg hc];dsimp only;rw [if_pos rfl,List.map_map];congr 1;refine (List.map_congr_left fun q _=>?_).trans (List.map_id _);rfl
 have e2:QfE (X.WV per J a b)=if cnt F=per then ([],13) else ((G.map (Q3h per)).map Yt,0):=by
  rw [e];split <;> rfl
 rw [e2];refine ⟨j,l,fun W hW=>?_⟩;rw [e] at hW;split at hW
 ·cases hW
 ·cases hW;simpa using hG
omit h in
theorem Qgm {a b:Nat} (ha:a<=100) (hb:b<=100) {W:List Sp2} (hW:W.length<=12) {k0:Int->Bool->LL->oP R} {A:LL} (hA:A.length<=900):QF 400 (a:Int) (b:Int) (W.map Yt) ((W.length:Nat):Int) k0 400 0 A=k0 ((W.length:Nat):Int) false (A++W.map (Q81 a b)):=by
 refine Qx (r:=fun m j=>QF 400 (a:Int) (b:Int) (W.map Yt) ((W.length:Nat):Int) k0 m j (A++(W.take j.toNat).map (Q81 a b))) (N:=W.length) (fun m j hj=>?_) (fun m=>?_) W.length 400 0 Zzq Zzq |> Eq.trans (by simp)
 ·simp only [QjV];obtain ⟨w,e⟩:∃ q,W[j]? = some q:=⟨W[j],Qk0 hj⟩;rw [QF,Q9 hj,QjZ,QK e,YJ e,Qk8,<- Qk5];simp -implicitDefEqProofs only [Q0,QaT,Qaq,Q2,Qu (show j<=1000 by omega),QbT (n:=400) (show a<=1000 by omega),QbT (n:=400) (show b<=1000 by omega),QdH (n:=400) (A:=A++(W.take j).map (Q81 a b)) (by simp;omega)];rfl
 ·simp only [QjV];rw [QF,Ql,QjW,Qka]
theorem Q1X (p0:2<=per) (p1:per<=300) {J:List Tup} {a:Nat} (ha:a<X.N):∀ {c b:Nat} {H:LL},b+c<=X.N->X.hdw per J a c b=some H->H.length<=12*c
 |0,b,H,_,e=>by cases e;exact Qkc _
 |c+1,b,H,hb,e=>by
  rw [hdw] at e;have hw:=(Q2n h p0 p1 (J:=J) ha (show b<X.N by omega)).2.2;cases ew:X.WV per J a b with
  |none=>rw [ew] at e;cases e
  |some W=>
   rw [ew] at e;cases eh:X.hdw per J a c (b+1) with
   |none=>simp only [eh] at e;cases e
   |some H'=>
    simp only [eh] at e;cases e;have:=hw W ew;have:=Q1X p0 p1 ha Zzq eh;simp;omega
theorem QeV (p0:2<=per) (p1:per<=300) {J:List Tup} (hJ:X.JOK J) {a:Nat} (ha:a<X.N) {k0:Int->LL->oP R} {k1:Int->Bool->LL->oP R} {Ke K1:LL->oP R} (d:∀ A,k0 13 A=Ke A) (e:∀ u v A,k1 u v A=K1 A):∀ (c m b:Nat) (A:LL),b+c=X.N->c<m->A.length+12*c<=900->∃ A',
  QY 400 (a:Int) per (Kl (X.occs X.L)) (J.map tuR) k0 k1 m (b:Int) A=match X.hdw per J a c b with | none=>Ke A' | some H=>K1 (A++H)
 |0,m+1,b,A,hb,_,_=>by
  have ac:(Kl (X.occs X.L)).length=X.N:=by rw [Jv];exact ZT
  refine ⟨A,?_⟩;rw [QY,ac,show decide ((b:Int)<((X.N:Nat):Int))=false from decide_eq_false Zzq,QjW,e,hdw];simp only [Qkf]
 |c+1,m+1,b,A,hb,hm,hA=>by
  have ac:(Kl (X.occs X.L)).length=X.N:=by rw [Jv];exact ZT
  have hN:X.N<=6:=base_le h;have oa:=JF h ha;have ob:=JF h (show b<X.N by omega);obtain ⟨q,g,f⟩:=QgX h hJ (a:=a) (b:=b);have aj:(X.occN a).filter (fun o=>!q o.1)=X.fil J a b:=List.filter_congr fun o _=>by rw [f]
  have ak:(X.occN b).filter (fun o=>!q o.1)=X.fil J b a:=List.filter_congr fun o _=>by rw [f,Qas]
  have hw:=Q2n h p0 p1 (J:=J) ha (show b<X.N by omega);rw [QY,ac,show decide ((b:Int)<((X.N:Nat):Int))=true from Qk6 Zzq,QjZ,g,oa.1,ob.1];simp -implicitDefEqProofs only [Q0,QjU,QA,Qu (show b<=1000 by omega),Q6E (show (X.occN a).length<=300 by omega),Q6E (show (X.occN b).length<=300 by omega),aj,ak,hw.1,hdw];cases ew:X.WV per J a b with
  |none=>exact ⟨A,d A⟩
  |some W=>
   have hl:=hw.2.2 W ew;obtain ⟨A',ih⟩:=QeV p0 p1 hJ ha d e c m (b+1) (A++W.map (Q81 a b)) Zzq Zzq (by simp;omega);refine ⟨A',?_⟩;simp -implicitDefEqProofs only [QfE];rw [Q8 (by rfl),Qk1,Qgm Zzq Zzq hl Zzq,ih];cases X.hdw per J a c (b+1) with
   |none=>rfl
   |some H=>simp -implicitDefEqProofs only [Option.map_some,Qk5]
theorem Qf3 (p0:2<=per) (p1:per<=300) {J:List Tup} (hJ:X.JOK J) {k0:Int->LL->oP R} {k1:Int->Bool->LL->oP R} {Ke K1:LL->oP R} (d:∀ A,k0 13 A=Ke A) (e:∀ u v A,k1 u v A=K1 A):∀ (c m a:Nat) (A:LL),a+c=X.N->c<m->A.length+72*c<=900->∃ A',
  Qt 400 ((X.N:Nat):Int) per (Kl (X.occs X.L)) (J.map tuR) k0 k1 m (a:Int) A=match X.hdws per J c a with | none=>Ke A' | some H=>K1 (A++H)
 |0,m+1,a,A,ha,_,_=>by
  refine ⟨A,?_⟩;rw [Qt,show decide ((a:Int)<((X.N:Nat):Int))=false from decide_eq_false Zzq,QjW,e,hdws];simp only [Qkf]
 |c+1,m+1,a,A,ha,hm,hA=>by
  have hN:X.N<=6:=base_le h;obtain ⟨A1,f⟩:=QeV h p0 p1 hJ (show a<X.N by omega) (Ke:=Ke) (K1:=fun A=>Qt 400 ((X.N:Nat):Int) per (Kl (X.occs X.L)) (J.map tuR) k0 k1 m ((a+1:Nat):Int) A) (k0:=fun g i=>k0 g i) (k1:=fun k l j=>Qt 400 ((X.N:Nat):Int) per (Kl (X.occs X.L)) (J.map tuR) k0 k1 m ((a+1:Nat):Int) j) (fun A=>d A) (fun u v A=>rfl) c 400 (a+1) A Zzq Zzq Zzq;rw [Qt,show decide ((a:Int)<((X.N:Nat):Int))=true from Qk6 Zzq,QjZ,Qu (show a<=1000 by omega),f,hdws];cases eh:X.hdw per J a c (a+1) with
  |none=>exact ⟨A1,rfl⟩
  |some H=>
   have:=Q1X h p0 p1 (J:=J) (show a<X.N by omega) (c:=c) (b:=a+1) Zzq eh;obtain ⟨A2,h2⟩:=Qf3 p0 p1 hJ d e c m (a+1) (A++H) Zzq Zzq (by simp;omega);refine ⟨A2,?_⟩;dsimp only;rw [h2];cases X.hdws per J c (a+1) with
   |none=>rfl
   |some H'=>simp -implicitDefEqProofs only [Option.map_some,Qk5]
theorem CR (p0:2<=per) (p1:per<=300) {J:List Tup}:∀ {c a:Nat} {H:LL},a+c=X.N->X.hdws per J c a=some H->H.length<=60*c
 |0,a,H,_,e=>by cases e;exact Qkc _
 |c+1,a,H,ha,e=>by
  have hN:X.N<=6:=base_le h;rw [hdws] at e;cases eh:X.hdw per J a c (a+1) with
  |none=>rw [eh] at e;cases e
  |some H1=>
   have:=Q1X h p0 p1 (J:=J) (show a<X.N by omega) (c:=c) (b:=a+1) Zzq eh;rw [eh] at e;cases e2:X.hdws per J c (a+1) with
   |none=>simp only [e2] at e;cases e
   |some H2=>
    have:=CR p0 p1 Zzq e2;simp only [e2] at e;cases e;simp;omega
theorem Qfn (p0:2<=per) (p1:per<=300) {J:List Tup} (hJ:X.JOK J) {A:LL} (hA:A.length<=100):∃ A',Yy 400 per (Kl (X.occs X.L)) (J.map tuR) A Tu2=some (match X.hdws per J X.N 0 with | none=>((13:Int),A') | some H=>(0,A++H)):=by
 have hN:X.N<=6:=base_le h;have ac:(Kl (X.occs X.L)).length=X.N:=by rw [Jv];exact ZT
 unfold Yy;rw [ac];obtain ⟨A',e⟩:=Qf3 h p0 p1 hJ (k0:=fun c d=>some (c,d)) (k1:=fun g i f=>some ((0:Int),f)) (Ke:=fun A=>some (13,A)) (K1:=fun A=>some (0,A)) (fun _=>rfl) (fun _ _ _=>rfl) X.N 400 0 A Zzq Zzq Zzq;refine ⟨A',e.trans ?_⟩;cases X.hdws per J X.N 0 <;> rfl
end Cx

namespace Cx
def netV (X:Cx) (per:Int) (J:List Tup) (Ch Sy:LL):Int × LL × LL × Int:=bif X.aloneJ per J then (match X.hdws per J X.N 0 with
 |none=>(0,[],[],13)
 |some H=>(per,X.evs X.L,X.planned Ch Sy++H,0)) else (0,[],[],13)
variable {X:Cx} (h:X.OK) {per:Int} {Ch Sy De:LL} (hl:X.LsOK per Ch Sy)
theorem Q6W {α:Type} {nr:Nat->Nat} {f:Nat->Nat->α} {x:α}:∀ {L:Nat},x∈flat nr f L↔∃ i k,i<L/\k<nr i/\x=f i k
 |0=>⟨fun h=>(nomatch h),fun ⟨_,_,h,_⟩=>by omega⟩
 |L+1=>by
  rw [flat,Qk3,Q6W,Qkq];constructor
  ·rintro (⟨i,k,b,h2,a⟩ | ⟨k,hk,rfl⟩)
   ·exact ⟨i,k,by omega,h2,a⟩
   ·exact ⟨L,k,by omega,List.mem_range.1 hk,rfl⟩
  ·rintro ⟨i,k,b,h2,a⟩;by_cases hi:i=L
   ·subst hi;exact .inr ⟨k,List.mem_range.2 h2,a.symm⟩
   ·exact .inl ⟨i,k,by omega,h2,a⟩
theorem Q8Y {t:Tup}:t∈X.jns↔(∃ i k,i<X.L/\k<X.nr i-1/\t=X.j1 i k)\/∃ u∈X.T,X.jT u=t:=by
 unfold jns jL;rw [Qk3,Q6W,Qkq]
include h
theorem Qd0 {i k:Nat} (hi:i<X.Ls.length) (hk:k<X.nr i):base X.nr i+k<X.N:=by
 have:=SB (nr:=X.nr) (i:=i) (j:=X.L) hi;unfold N;omega
theorem Qds:X.JOK X.jns:=by
 refine ⟨fun t ht=>?_,QcW h⟩;rcases Q8Y.1 ht with ⟨i,k,a,h2,rfl⟩ | ⟨u,hu,rfl⟩
 ·have r:=rd h a (show k<X.nr i by omega);have q:=Rk h a (show k<X.nr i by omega);have:=r.ex0;have:=r.ex1;have:=r.mn0;have:=r.mn1;have:=r.mn2;have:=r.mn3;refine ⟨Qd0 h a Zzq,Qd0 h a Zzq,?_,?_,?_,?_⟩ <;> simp only [j1] <;> omega
 ·have ht:=h.tr _ hu;have ha:u.1<X.Ls.length:=ht.1;have hb:u.2.1<X.Ls.length:=ht.2.1;have na:=(Gg h ha).2.1;have nb:=(Gg h hb).2.1;have t1:=ht.2.2.1;have t2:=ht.2.2.2.1;have b:=ht.2.2.2.2.1;have c:=ht.2.2.2.2.2.1;have r:=rd h ha (show X.nr u.1-1<X.nr u.1 by omega);have q:=Rk h ha (show X.nr u.1-1<X.nr u.1 by omega);have:=r.ex0;have:=r.ex1;refine ⟨Qd0 h ha Zzq,Qd0 h hb Zzq,?_,?_,?_,?_⟩ <;> simp only [jT] <;> omega
include hl
theorem Lg:(X.planned Ch Sy).length<=35:=by
 have hN:base X.nr X.L<=6:=base_le h;have:=AB (X:=X) (i:=X.L);have:=hl.chl;have:=hl.syl;have:=h.tl;unfold planned;simp only [List.length_append,Qk1];omega
theorem Qfa (p0:2<=per) (p1:per<=300) (hc:WS 400 X.G.St X.G.Pt X.G.Se X.G.Li per X.skR X.Ro X.Ls Ch (X.T.map tuR) Sy De (some:Int->Option Int)=some 0) :
  VP 400 X.G.St X.G.Pt X.G.Se X.G.Li per X.skR X.Ro X.Ls Ch (X.T.map tuR) Sy De Tu4=some (X.netV per X.jns Ch Sy):=by
 have hN:base X.nr X.L<=6:=base_le h;have aj:=Lg h hl;unfold VP netV;rw [hc,Q0,Q8 (by rfl),Qcw h,Q0];dsimp only;rw [evs_len,Q8 (decide_eq_false Zzq),Qf9 h hc,Q0];dsimp only;rw [Q8 (by rfl),QdU h,Q0];rw [Qe5 h Zzq p1 (Qds h),Q0];cases X.aloneJ per X.jns
 ·rfl
 rw [Q8 (by rfl),Qaw h hl,Q0];obtain ⟨A',e⟩:=Qfn h p0 p1 (Qds h) (A:=X.planned Ch Sy) Zzq;rw [e,Q0,QjZ];cases eh:X.hdws per X.jns X.N 0 with
 |none=>rfl
 |some H=>
  have:=CR h p0 p1 Zzq eh;have ac:X.N<=6:=hN;dsimp only;rw [Q8 (by rfl),Q8 (decide_eq_false (by rw [List.length_append];omega))]
end Cx

end Go.Vx
namespace Go.Vx
variable {R:Type}
def JA (n:Nat) (c:Int) (b:LL) (k0:oP R) (k1:Int->Bool->oP R):Nat->Int->oP R
 | 0,_=>none
 | m+1,a=>bif (decide (a<(b.length:Int))) then gb true (Q1 b a) [] fun d=>gb true (d[2]?) oF fun e=>gb true (pIw e) 0 fun f=>gb true (Q1 b a) [] fun g=>gb true (g[1]?) oF fun h=>gb true (pIw h) 0 fun i=>bif (decide ((wJ (f-i))>c)) then k0 else JA n c b k0 k1 m (wJ (a+1)) else k1 a (decide (a<(b.length:Int)))
def MK (n:Nat) (a0:Int) (a1:LL) (K:Bool->oP R):oP R:= gb true (J4 n a0 1 7200 some) false fun a=>gb (!(!a)) (J1 n a1 some) false fun b=>bif (bif !a then true else (!b)) then K false else JA n a0 a1 (K false) (fun c d=>K true) n 0
def JC (n:Nat) (b:Int) (c:LL) (k0:Int->Int->Bool->oP R):Nat->Int->Int->oP R
 | 0,_,_=>none
 | m+1,h2,a=>bif decide (a<b) then gb true (Q1 c a) [] fun d=>gb true (d[3]?) oF fun e=>gb true (pSl 4 e) [] fun f=>JC n b c k0 m (wJ (h2+(f.length:Int))) (wJ (a+1)) else k0 h2 a (decide (a<b))
def Z5 (n:Nat) (a:LL) (a1:Int) (K:Int->oP R):oP R:= JC n a1 a (fun b c d=>K b) n 0 0

def Wy (n:Nat) (c:LL) (f:Int) (g h:LL) (d:D) (k0:Int->Bool->LL->oP R):Nat->Int->LL->oP R
 | 0,_,_=>none
 | m+1,a,e=>gb true (pSl 4 d) [] fun k=>bif (decide (a<(k.length:Int))) then gb true (Z5 n g f some) 0 fun b=>gb true (pSl 4 d) [] fun aa=>gb true (Q1 aa a) [] fun i=>gb true (i[0]?) oF fun av=>gb true (i[1]?) oF fun l=>gb true (i[2]?) oF fun ab=>gb true (i[3]?) oF fun ac=>gb true (pSl 4 d) [] fun ad=>bif (decide (a<(wJ ((ad.length:Int)-1)))) then gb true (Q1 c (wJ (b+a))) [] fun ae=>gb true (ae[0]?) oF fun ag=>gb true (pIw ag) 0 fun o=>gb true (pIw ab) 0 fun p=>gb true (Q1 c (wJ (b+a))) [] fun ah=>gb true (ah[0]?) oF fun ai=>gb true (pIw ai) 0 fun q=>gb true (pIw l) 0 fun r=>gb true (pIw ac) 0 fun s=>gb true (Ym ((e.length+[[Q4 (wJ (b+a)),Q4 (wJ ((wJ (b+a))+1)),Q4 (wJ (o+p)),Q4 (wJ ((wJ (q+r))+s))]].length)*32)) () fun aw=>Wy n c f g h d k0 m (wJ (a+1)) (e++[[Q4 (wJ (b+a)),Q4 (wJ ((wJ (b+a))+1)),Q4 (wJ (o+p)),Q4 (wJ ((wJ (q+r))+s))]]) else gb true (KT n h f Tu5) ((.bool false),(.bool false),(.bool false),(.bool false),false) fun j=>bif j.2.2.2.2 then gb true (pIw j.2.1) 0 fun ao=>gb true (Z5 n g ao some) 0 fun t=>gb true (Q1 c (wJ (b+a))) [] fun ap=>gb true (ap[0]?) oF fun aq=>gb true (pIw aq) 0 fun u=>gb true (pIw j.2.2.1) 0 fun v=>gb true (Q1 c (wJ (b+a))) [] fun ar=>gb true (ar[0]?) oF fun au=>gb true (pIw au) 0 fun x=>gb true (pIw l) 0 fun y=>gb true (pIw j.2.2.2.1) 0 fun z=>gb true (Ym ((e.length+[[Q4 (wJ (b+a)),Q4 t,Q4 (wJ (u+v)),Q4 (wJ ((wJ (x+y))+z))]].length)*32)) () fun a2=>Wy n c f g h d k0 m (wJ (a+1)) (e++[[Q4 (wJ (b+a)),Q4 t,Q4 (wJ (u+v)),Q4 (wJ ((wJ (x+y))+z))]]) else Wy n c f g h d k0 m (wJ (a+1)) e else k0 a (decide (a<(k.length:Int))) e
def UP (n:Nat) (c a d:LL) (k0:Int->Bool->LL->oP R):Nat->Int->LL->oP R
 | 0,_,_=>none
 | m+1,h2,e=>bif (decide (h2<(a.length:Int))) then gb true (Q1 a h2) [] fun b=>gb true (b[0]?) oF fun h=>gb true (b[1]?) oF fun i=>gb true (b[2]?) oF fun j=>gb true (b[3]?) oF fun f=>Wy n c h2 a d f (fun k l g=>UP n c a d k0 m (wJ (h2+1)) g) n 0 e else k0 h2 (decide (h2<(a.length:Int))) e
def R5 (n:Nat) (a b a1:LL) (K:LL->oP R):oP R:= UP n a1 a b (fun d e c=>K c) n 0 []

def Zi (n:Nat) (b:LL) (h2:Int) (k0:D->D->D->oP R) (k1:Int->Bool->oP R):Nat->Int->oP R
 | 0,_=>none
 | m+1,a=>bif (decide (a<(b.length:Int))) then gb true (Q1 b a) [] fun d=>gb true (d[0]?) oF fun e=>gb true (pIw e) 0 fun f=>bif (f == h2) then gb true (Q1 b a) [] fun c=>gb true (c[0]?) oF fun g=>gb true (c[1]?) oF fun h=>gb true (c[2]?) oF fun i=>k0 g h i else Zi n b h2 k0 k1 m (wJ (a+1)) else k1 a (decide (a<(b.length:Int)))
def VR (n:Nat) (a0:LL) (a1:Int) (K:D->D->D->Bool->oP R):oP R:= Zi n a0 a1 (fun a b c=>K a b c true) (fun d e=>K (Q4 0) (Q4 0) (Q4 0) false) n 0

def Sa (n:Nat) (a0:LL) (g h i a2:Int) (K:D->D->D->D->D->D->Bool->oP R):oP R:= gb true (Q1 a0 g) [] fun c=>gb true (c[0]?) oF fun j=>gb true (pSl 3 j) [] fun k=>gb true (VR n k a2 Tu4) ((.bool false),(.bool false),(.bool false),false) fun a=>gb true (Q1 a0 h) [] fun l=>gb true (l[0]?) oF fun m=>gb true (pSl 3 m) [] fun o=>gb true (VR n o a2 Tu4) ((.bool false),(.bool false),(.bool false),false) fun b=>gb (bif a.2.2.2 then b.2.2.2 else false) (pIw b.2.1) 0 fun p=>gb (bif a.2.2.2 then b.2.2.2 else false) (pIw a.2.2.1) 0 fun q=>K a.1 a.2.1 a.2.2.1 b.1 b.2.1 b.2.2.1 (bif (bif a.2.2.2 then b.2.2.2 else false) then (decide ((wJ (i+p))<=q)) else false)

def UZ (n:Nat) (b:LL) (h2 c g d f:Int) (k0:oP R) (k1:Int->Bool->oP R):Nat->Int->oP R
 | 0,_=>none
 | m+1,a=>gb true (Q1 b c) [] fun l=>gb true (l[0]?) oF fun o=>gb true (pSl 3 o) [] fun l24=>bif (decide (a<(l24.length:Int))) then gb true (Q1 b c) [] fun p=>gb true (p[0]?) oF fun q=>gb true (pSl 3 q) [] fun r=>gb true (Q1 r a) [] fun s=>gb true (s[0]?) oF fun t=>gb true (pIw t) 0 fun u=>gb true (Sa n b c g d u Tu7) ((.bool false),(.bool false),(.bool false),(.bool false),(.bool false),(.bool false),false) fun e=>bif e.2.2.2.2.2.2 then gb true (pIw e.2.2.1) 0 fun h=>gb true (pIw e.2.2.2.2.2.1) 0 fun i=>gb true (pIw e.2.1) 0 fun j=>gb true (pIw e.2.2.2.2.1) 0 fun k=>bif (decide ((wJ ((if h<(wJ (f+i)) then (wJ (f+i)) else h)-(if (wJ (d+k))<j then (wJ (d+k)) else j)))>h2)) then k0 else UZ n b h2 c g d f k0 k1 m (wJ (a+1)) else UZ n b h2 c g d f k0 k1 m (wJ (a+1)) else k1 a (decide (a<(l24.length:Int)))
def RJ (n:Nat) (a0:LL) (a b c d a2:Int) (K:Bool->oP R):oP R:= UZ n a0 a2 a b c d (K false) (fun e f=>K true) n 0

def UV (n:Nat) (e:LL) (l:Int) (o:LL) (f c:D) (k0:Int->Bool->LL->oP R):Nat->Int->LL->oP R
 | 0,_,_=>none
 | m+1,a,d=>gb true (pSl 4 c) [] fun p=>bif (decide (a<(p.length:Int))) then gb true (Z5 n o l some) 0 fun b=>gb true (pSl 4 c) [] fun t=>gb true (Q1 t a) [] fun g=>gb true (g[0]?) oF fun ad=>gb true (g[1]?) oF fun u=>gb true (g[2]?) oF fun v=>gb true (g[3]?) oF fun x=>gb true (Q1 e (wJ (b+a))) [] fun y=>gb true (y[0]?) oF fun z=>gb true (pIw z) 0 fun h=>gb true (Q1 e (wJ (b+a))) [] fun aa=>gb true (aa[0]?) oF fun ab=>gb true (pIw ab) 0 fun i=>gb true (pIw u) 0 fun j=>gb true (pIw f) 0 fun k=>gb true (Ym ((d.length+[[Q4 1,Q4 (wJ (2*(wJ (b+a)))),Q4 (wJ ((wJ (2*(wJ (b+a))))+1)),Q4 h,Q4 (wJ (i+j)),Q4 k]].length)*48)) () fun ae=>gb true (pSl 4 c) [] fun ac=>bif (decide (a<(wJ ((ac.length:Int)-1)))) then gb true (pIw v) 0 fun q=>gb true (pIw x) 0 fun r=>gb true (pIw f) 0 fun s=>gb true (Ym ((List.length (d++[[Q4 1,Q4 (wJ (2*(wJ (b+a)))),Q4 (wJ ((wJ (2*(wJ (b+a))))+1)),Q4 h,Q4 (wJ (i+j)),Q4 k]])+[[Q4 2,Q4 (wJ ((wJ (2*(wJ (b+a))))+1)),Q4 (wJ ((wJ (2*(wJ (b+a))))+2)),Q4 q,Q4 r,Q4 s]].length)*48)) () fun ag=>UV n e l o f c k0 m (wJ (a+1)) ((d++[[Q4 1,Q4 (wJ (2*(wJ (b+a)))),Q4 (wJ ((wJ (2*(wJ (b+a))))+1)),Q4 h,Q4 (wJ (i+j)),Q4 k]])++[[Q4 2,Q4 (wJ ((wJ (2*(wJ (b+a))))+1)),Q4 (wJ ((wJ (2*(wJ (b+a))))+2)),Q4 q,Q4 r,Q4 s]]) else UV n e l o f c k0 m (wJ (a+1)) (d++[[Q4 1,Q4 (wJ (2*(wJ (b+a)))),Q4 (wJ ((wJ (2*(wJ (b+a))))+1)),Q4 h,Q4 (wJ (i+j)),Q4 k]]) else k0 a (decide (a<(p.length:Int))) d
def US (n:Nat) (c a:LL) (k0:Int->Bool->LL->oP R):Nat->Int->LL->oP R
 | 0,_,_=>none
 | m+1,h2,d=>bif (decide (h2<(a.length:Int))) then gb true (Q1 a h2) [] fun b=>gb true (b[0]?) oF fun h=>gb true (b[1]?) oF fun i=>gb true (b[2]?) oF fun e=>gb true (b[3]?) oF fun f=>UV n c h2 a e f (fun j k g=>US n c a k0 m (wJ (h2+1)) g) n 0 d else k0 h2 (decide (h2<(a.length:Int))) d
def R0 (n:Nat) (a a1:LL) (K:LL->oP R):oP R:= US n a1 a (fun c d b=>K b) n 0 []

def UT (n:Nat) (d c:LL) (k0:Int->Bool->LL->oP R):Nat->Int->LL->oP R
 | 0,_,_=>none
 | m+1,b,e=>bif (decide (b<(c.length:Int))) then gb true (Q1 c b) [] fun a=>gb true (a[0]?) oF fun o=>gb true (a[1]?) oF fun p=>gb true (a[2]?) oF fun q=>gb true (a[3]?) oF fun r=>gb true (a[4]?) oF fun s=>gb true (a[5]?) oF fun t=>gb true (a[6]?) oF fun u=>gb true (pIw o) 0 fun v=>gb true (Z5 n d v some) 0 fun f=>gb true (pIw p) 0 fun g=>gb true (pIw q) 0 fun x=>gb true (Z5 n d x some) 0 fun h=>gb true (pIw r) 0 fun i=>gb true (pIw s) 0 fun j=>gb true (pIw t) 0 fun k=>gb true (pIw u) 0 fun l=>gb true (Ym ((e.length+[[Q4 3,Q4 (wJ ((wJ (2*(wJ (f+g))))+1)),Q4 (wJ (2*(wJ (h+i)))),Q4 j,Q4 k,Q4 l]].length)*48)) () fun y=>UT n d c k0 m (wJ (b+1)) (e++[[Q4 3,Q4 (wJ ((wJ (2*(wJ (f+g))))+1)),Q4 (wJ (2*(wJ (h+i)))),Q4 j,Q4 k,Q4 l]]) else k0 b (decide (b<(c.length:Int))) e
def Ww (n:Nat) (b c:LL) (k0:Int->Bool->LL->oP R):Nat->Int->LL->oP R
 | 0,_,_=>none
 | m+1,a,e=>bif (decide (a<(c.length:Int))) then gb true (Q1 c a) [] fun d=>gb true (d[0]?) oF fun f=>gb true (d[1]?) oF fun l=>gb true (d[2]?) oF fun o=>gb true (d[3]?) oF fun p=>gb true (pIw f) 0 fun q=>gb true (Z5 n b q some) 0 fun g=>gb true (pIw f) 0 fun r=>gb true (Q1 b r) [] fun s=>gb true (s[3]?) oF fun t=>gb true (pSl 4 t) [] fun h=>gb true (pIw l) 0 fun u=>gb true (Z5 n b u some) 0 fun i=>gb true (pIw o) 0 fun j=>gb true (pIw p) 0 fun k=>gb true (Ym ((e.length+[[Q4 4,Q4 (wJ ((wJ (2*(wJ (g+(h.length:Int)))))-1)),Q4 (wJ (2*i)),Q4 j,Q4 k,Q4 1]].length)*48)) () fun v=>Ww n b c k0 m (wJ (a+1)) (e++[[Q4 4,Q4 (wJ ((wJ (2*(wJ (g+(h.length:Int)))))-1)),Q4 (wJ (2*i)),Q4 j,Q4 k,Q4 1]]) else k0 a (decide (a<(c.length:Int))) e
def Zy (n:Nat) (d c:LL) (k0:Int->Bool->LL->oP R):Nat->Int->LL->oP R
 | 0,_,_=>none
 | m+1,a,e=>bif (decide (a<(c.length:Int))) then gb true (Q1 c a) [] fun b=>gb true (b[0]?) oF fun o=>gb true (b[1]?) oF fun p=>gb true (b[2]?) oF fun q=>gb true (b[3]?) oF fun r=>gb true (b[4]?) oF fun f=>gb true (pIw o) 0 fun s=>gb true (Z5 n d s some) 0 fun g=>gb true (pIw p) 0 fun h=>gb true (pIw q) 0 fun t=>gb true (Z5 n d t some) 0 fun i=>gb true (pIw r) 0 fun j=>gb true (pIw f) 0 fun k=>gb true (pIw f) 0 fun l=>gb true (Ym ((e.length+[[Q4 5,Q4 (wJ (2*(wJ (g+h)))),Q4 (wJ (2*(wJ (i+j)))),Q4 k,Q4 l,Q4 0]].length)*48)) () fun u=>Zy n d c k0 m (wJ (a+1)) (e++[[Q4 5,Q4 (wJ (2*(wJ (g+h)))),Q4 (wJ (2*(wJ (i+j)))),Q4 k,Q4 l,Q4 0]]) else k0 a (decide (a<(c.length:Int))) e
def RH (n:Nat) (a b c d:LL) (K:LL->oP R):oP R:= UT n a b (fun h i e=>Ww n a c (fun j k f=>Zy n a d (fun l m g=>K g) n 0 f) n 0 e) n 0 []

def Zc (n:Nat) (g e:LL) (a b j:Int) (k0:Bool->Int->Bool->oP R):Nat->Bool->Int->oP R
 | 0,_,_=>none
 | m+1,k,c=>bif (decide (c<(e.length:Int))) then gb true (Q1 e c) [] fun l=>gb true (l[0]?) oF fun o=>gb true (pIw o) 0 fun d=>gb (d == a) (Q1 e c) [] fun p=>gb (d == a) (p[1]?) oF fun q=>gb (d == a) (pIw q) 0 fun f=>gb (!(bif (d == a) then (f == b) else false)) (Q1 e c) [] fun r=>gb (!(bif (d == a) then (f == b) else false)) (r[0]?) oF fun s=>gb (!(bif (d == a) then (f == b) else false)) (pIw s) 0 fun h=>gb ((!(bif (d == a) then (f == b) else false))&&(h == b)) (Q1 e c) [] fun t=>gb ((!(bif (d == a) then (f == b) else false))&&(h == b)) (t[1]?) oF fun u=>gb ((!(bif (d == a) then (f == b) else false))&&(h == b)) (pIw u) 0 fun v=>bif (bif (bif (d == a) then (f == b) else false) then true else (bif (h == b) then (v == a) else false)) then gb true (Q1 e c) [] fun i=>gb true (i[0]?) oF fun x=>gb true (i[1]?) oF fun y=>gb true (i[2]?) oF fun z=>gb true (i[3]?) oF fun aa=>gb true (Q1 g a) [] fun ab=>gb true (ab[0]?) oF fun ac=>gb true (pSl 3 ac) [] fun ad=>gb true (Q1 ad j) [] fun ae=>gb true (ae[0]?) oF fun ag=>gb true (pIw ag) 0 fun ah=>gb true (pIw x) 0 fun ai=>gb true (pIw y) 0 fun aj=>gb true (pIw z) 0 fun ak=>gb true (pIw aa) 0 fun au=>gb true (Sa n g ai aj ak ah Tu7) ((.bool false),(.bool false),(.bool false),(.bool false),(.bool false),(.bool false),false) fun ar=>Zc n g e a b j k0 m (bif k then true else ar.2.2.2.2.2.2) (wJ (c+1)) else Zc n g e a b j k0 m k (wJ (c+1)) else k0 k c (decide (c<(e.length:Int)))
def Wh (n:Nat) (b h2:LL) (c e:Int) (k0:Int->Bool->LL->oP R):Nat->Int->LL->oP R
 | 0,_,_=>none
 | m+1,a,d=>gb true (Q1 b c) [] fun k=>gb true (k[0]?) oF fun l=>gb true (pSl 3 l) [] fun g=>bif (decide (a<(g.length:Int))) then Zc n b h2 c e a (fun o s t=>bif !o then gb true (Q1 b c) [] fun p=>gb true (p[0]?) oF fun q=>gb true (pSl 3 q) [] fun r=>gb true (Q1 r a) [] fun f=>gb true (f[0]?) oF fun h=>gb true (f[1]?) oF fun i=>gb true (f[2]?) oF fun j=>gb true (Ym ((d.length+[[h,i,j]].length)*24)) () fun u=>Wh n b h2 c e k0 m (wJ (a+1)) (d++[[h,i,j]]) else Wh n b h2 c e k0 m (wJ (a+1)) d) n false 0 else k0 a (decide (a<(g.length:Int))) d
def GR (n:Nat) (a0 a1:LL) (a2 a:Int) (K:LL->oP R):oP R:= Wh n a0 a1 a2 a (fun c d b=>K b) n 0 []

def V3 (n:Nat) (h2:LL) (b:Int) (k0:oP R) (k1:Int->Bool->oP R):Nat->Int->oP R
 | 0,_=>none
 | m+1,a=>bif (decide (a<(h2.length:Int))) then gb true (Q1 h2 a) [] fun c=>gb true (c[0]?) oF fun d=>gb true (pSl 3 d) [] fun e=>gb true (MK n b e some) false fun f=>bif !f then k0 else V3 n h2 b k0 k1 m (wJ (a+1)) else k1 a (decide (a<(h2.length:Int)))
def V4 (n:Nat) (d b:LL) (e:Int) (k0:oP R) (k1:Int->Bool->oP R):Nat->Int->oP R
 | 0,_=>none
 | m+1,a=>bif (decide (a<(b.length:Int))) then gb true (Q1 b a) [] fun c=>gb true (c[0]?) oF fun f=>gb true (c[1]?) oF fun g=>gb true (c[2]?) oF fun h=>gb true (c[3]?) oF fun i=>gb true (pIw f) 0 fun j=>gb true (pIw g) 0 fun k=>gb true (pIw h) 0 fun l=>gb true (pIw i) 0 fun o=>gb true (RJ n d j k l o e some) false fun p=>bif !p then k0 else V4 n d b e k0 k1 m (wJ (a+1)) else k1 a (decide (a<(b.length:Int)))
def J3 (n:Nat) (b:Int) (d:LL) (k0:Int->Bool->LL->oP R):Nat->Int->LL->oP R
 | 0,_,_=>none
 | m+1,a,c=>gb true (Q1 d b) [] fun f=>gb true (f[3]?) oF fun g=>gb true (pSl 4 g) [] fun e=>bif (decide (a<(e.length:Int))) then gb true (Ym ((c.length+List.length [[Q4 1,Q4 b,Q4 a],[Q4 2,Q4 b,Q4 a]])*24)) () fun h=>J3 n b d k0 m (wJ (a+1)) (c++[[Q4 1,Q4 b,Q4 a],[Q4 2,Q4 b,Q4 a]]) else k0 a (decide (a<(e.length:Int))) c
def WA (n:Nat) (b:LL) (k0:Int->Bool->LL->oP R):Nat->Int->LL->oP R
 | 0,_,_=>none
 | m+1,a,c=>bif (decide (a<(b.length:Int))) then J3 n a b (fun e f d=>WA n b k0 m (wJ (a+1)) d) n 0 c else k0 a (decide (a<(b.length:Int))) c
def V0 (n:Nat) (c d:Int) (b:LL) (k0:Int->Bool->LL->oP R):Nat->Int->LL->oP R
 | 0,_,_=>none
 | m+1,a,e=>bif (decide (a<(b.length:Int))) then gb true (Q1 b a) [] fun h=>gb true (h[0]?) oF fun i=>gb true (pIw i) 0 fun f=>gb true (Q1 b a) [] fun j=>gb true (j[1]?) oF fun k=>gb true (pIw k) 0 fun g=>gb true (Ym ((e.length+[[Q4 6,Q4 (wJ (2*c)),Q4 (wJ (2*d)),Q4 f,Q4 g,Q4 0]].length)*48)) () fun l=>V0 n c d b k0 m (wJ (a+1)) (e++[[Q4 6,Q4 (wJ (2*c)),Q4 (wJ (2*d)),Q4 f,Q4 g,Q4 0]]) else k0 a (decide (a<(b.length:Int))) e
def VZ (n:Nat) (b d:LL) (c e:Int) (k0:oP R) (k1:Int->Bool->LL->oP R):Nat->Int->LL->oP R
 | 0,_,_=>none
 | m+1,a,f=>bif (decide (a<(b.length:Int))) then gb true (GR n b d c a some) [] fun h=>gb true (GR n b d a c some) [] fun i=>gb true (Hp n e h i Tu2) ([],0) fun g=>bif (g.2 != 0) then k0 else V0 n c a g.1 (fun o p l=>VZ n b d c e k0 k1 m (wJ (a+1)) l) n 0 f else k1 a (decide (a<(b.length:Int))) f
def UW (n:Nat) (b c:LL) (d:Int) (k0:oP R) (k1:Int->Bool->LL->oP R):Nat->Int->LL->oP R
 | 0,_,_=>none
 | m+1,a,e=>bif (decide (a<(b.length:Int))) then VZ n b c a d (k0) (fun g h f=>UW n b c d k0 k1 m (wJ (a+1)) f) n (wJ (a+1)) e else k1 a (decide (a<(b.length:Int))) e
def VE (n:Nat) (k l m o:LL) (b:Int) (p q c e d f r:LL) (K:Int->LL->LL->Int->oP R):oP R:= gb true (Rr n k l m o b p q c e d f r Tu3) ([],[],0) fun a=>bif (a.2.2 != 0) then K 0 [] [] a.2.2 else bif (decide ((wJ (2*(a.1.length:Int)))>48)) then K 0 [] [] 7 else V3 n a.1 b (K 0 [] [] 13) (fun v x=>gb true (R5 n c d a.2.1 some) [] fun g=>V4 n a.1 g b (K 0 [] [] 13) (fun y z=>WA n c (fun aa ab u=>gb true (R0 n c a.2.1 some) [] fun h=>gb true (RH n c e d f some) [] fun i=>gb true (Ym ((h.length+i.length)*48)) () fun ac=>UW n a.1 g b (K 0 [] [] 13) (fun ad ae j=>bif (decide ((j.length:Int)>512)) then K 0 [] [] 7 else K b u j 0) n 0 (h++i)) n 0 []) n 0) n 0

end Go.Vx
namespace Go.Vx
theorem Q7c {α β:Type} {r:Nat->Int->β} {l:List α} {p:α->Bool} {F:α->β} {E:β} (a:∀ m i q,l[i]? = some q->i<l.length->r (m+1) (i:Int)=bif p q then F q else r m ((i+1:Nat):Int)) (b:∀ m,r (m+1) ((l.length:Nat):Int)=E) {fuel:Nat} (hf:l.length<fuel):r fuel 0=match l.find? p with | some q=>F q | none=>E:=by
 have go:∀ (ac:List α) (i m:Nat),l.drop i=ac->ac.length<m->i<=l.length->r m (i:Int)=match ac.find? p with | some q=>F q | none=>E:=by
  intro ac;induction ac with
  |nil=>
   intro i m hd hm hi;obtain ⟨m,rfl⟩:∃ k,m=k+1:=⟨m-1,by simp at hm;omega⟩;have:=Uf hd;rw [show i=l.length by omega,b];rfl
  |cons q ac ih=>
   intro i m hd hm hi;obtain ⟨m,rfl⟩:∃ k,m=k+1:=⟨m-1,by simp at hm;omega⟩;obtain ⟨e,ak,aj⟩:=Zg hd;rw [a m i q e aj,List.find?_cons,ih (i+1) m ak (by simpa using hm) aj];cases p q <;> rfl
 exact go l 0 fuel rfl hf (Nat.zero_le _)
theorem Qew {t:Int} {O:List Occ} (a:1<=t) (b:t<=7200) (hO:OL (-1) O) (hl:O.length<=300):MK 400 t (O.map enc) (some:Bool->Option Bool)=some (O.all (Lr t)):=by
 unfold MK;rw [Q4H a b,Q9k hl hO];simp -implicitDefEqProofs only [QjW,Q0,Qke,Qkm];refine (KN (r:=fun m i=>JA 400 t (O.map enc) (some false) (fun _ _=>some true) m i) (l:=O) (p:=Lr t) (E0:=some false) (E1:=some true) (fun m i q e hi=>?_) (fun m=>?_) Zzq).trans (by cases O.all (Lr t) <;> rfl)
 ·rw [JA,Qk1,Q9 hi,QjZ,QK e];simp -implicitDefEqProofs only [Q0,Np,MX,LG,Q2,Qu (show i<=1000 by omega),Qhq hO (QjY e)];unfold Lr;cases decide (q.2.2-q.2.1>t) <;> rfl
 ·rw [JA,Qk1,Ql,QjW]
def Q7V (O:List Occ) (r:Int):Bool:=(O.find? fun q=>q.1 == r).isSome
def fnd (O:List Occ) (r:Int):Occ:=(O.find? fun q=>q.1 == r).getD (0,0,0)
theorem CQ {p:Occ->Bool} {r:Int} (hp:∀ q,q.1≠r->p q=false):∀ {l:Int} {O:List Occ},OL l O->O.any p=(bif Q7V O r then p (fnd O r) else false)
 |_,[],_=>rfl
 |l,(x,a,b)::O,⟨d,h2,e,f,g,c⟩=>by
  have ih:=CQ hp c;unfold Q7V fnd at ih ⊢;rw [List.any_cons,List.find?_cons];by_cases hx:x=r
  ·subst hx;have:O.any p=false:=by
    rw [List.any_eq_false];intro q hq;have:=(c.mem q hq).1;rw [hp q Zzq];exact Qks
   rw [this,show (((x,a,b):Occ).1 == x)=true by simp,Bool.or_false];rfl
  ·rw [hp _ hx,Bool.false_or,ih,show (((x,a,b):Occ).1 == r)=false by simpa using hx]
theorem Q5b {O:List Occ} {r:Int} (h:Q7V O r=true):(fnd O r).1=r:=by
 unfold Q7V at h;unfold fnd;cases e:O.find? fun q=>q.1 == r with
 |none=>rw [e] at h;cases h
 |some q=>simpa using List.find?_some e
theorem Qdu {l:Int} {O:List Occ} (hO:OL l O) {x:Occ} (hx:x∈O):Q7V O x.1=true/\fnd O x.1=x:=by
 unfold Q7V fnd;cases e:O.find? fun q=>q.1 == x.1 with
 |none=>exact absurd (List.find?_eq_none.1 e x hx) (by simp)
 |some q=>exact ⟨rfl,hO.uniq (Qkn e) hx (by simpa using List.find?_some e)⟩
def okR (la:Int) (A B:List Occ) (r:Int):Bool:=bif (bif Q7V A r then Q7V B r else false) then decide (la+(fnd B r).2.1<=(fnd A r).2.2) else false
theorem Qbv {la:Int} {x y:Occ} (h:y.1≠x.1):tie la x y=false:=by
 unfold tie;rw [show (x.1 == y.1)=false by simpa using fun e=>h e.symm,QjW]
theorem QeQ {la r:Int} {A B:List Occ} (hA:OL (-1) A) (hB:OL (-1) B):okR la A B r=Q4u la A B r:=by
 unfold Q4u okR;rw [CQ (r:=r) (fun q hq=>by
  rw [List.any_eq_false];intro y hy;rw [show (q.1 == r)=false by simpa using hq];cases tie la q y <;> exact Qks) hA]
 cases ha:Q7V A r with
 |false=>rfl
 |true=>
  have ea:=Q5b ha;rw [QjZ,QjZ,CQ (r:=r) (fun y hy=>by rw [Qbv Zzq];rfl) hB];cases hb:Q7V B r with
  |false=>rfl
  |true=>
   have eb:=Q5b hb;unfold tie;rw [ea,eb,show (r == r)=true by simp,QjZ,QjZ];cases decide (la+(fnd B r).2.1<=(fnd A r).2.2) <;> rfl
theorem Qc7 {per la mo:Int} {A B:List Occ} (hA:OL (-1) A) (hB:OL (-1) B) {x:Occ} (hx:x∈A):(B.any fun y=>bif tie la x y then Q2N per la mo x y else false)=bif okR la A B x.1 then Q2N per la mo (fnd A x.1) (fnd B x.1) else false:=by
 have ha:=Qdu hA hx;unfold okR;rw [CQ (r:=x.1) (fun y hy=>by rw [Qbv hy];rfl) hB,ha.1,ha.2,QjZ];cases hb:Q7V B x.1 with
 |false=>rfl
 |true=>
  have eb:=Q5b hb;unfold tie;rw [eb,show (x.1 == x.1)=true by simp,QjZ,QjZ]
theorem Q5C {l:Int} {O:List Occ} (hO:OL l O) {r:Int} : -1000<=(fnd O r).2.1/\(fnd O r).2.1<=20000 /\ -1000<=(fnd O r).2.2/\(fnd O r).2.2<=20000:=by
 unfold fnd;cases e:O.find? fun q=>q.1 == r with
 |none=>simp
 |some q=>
  have:=hO.mem q (Qkn e);simp only [Option.getD_some];omega
theorem Qej {R:Type} {O:List Occ} (hl:O.length<=300) {r:Int} (K:D->D->D->Bool->oP R):VR 400 (O.map enc) r K=K (Q4 (fnd O r).1) (Q4 (fnd O r).2.1) (Q4 (fnd O r).2.2) (Q7V O r):=by
 unfold VR fnd Q7V;refine (Q7c (r:=fun m i=>Zi 400 (O.map enc) r (fun a b c=>K a b c true) (fun d f=>K (Q4 0) (Q4 0) (Q4 0) false) m i) (l:=O) (p:=fun q=>q.1 == r) (F:=fun q=>K (Q4 q.1) (Q4 q.2.1) (Q4 q.2.2) true) (E:=K (Q4 0) (Q4 0) (Q4 0) false) (fun m i q e hi=>?_) (fun m=>?_) Zzq).trans ?_
 ·rw [Zi,Qk1,Q9 hi,QjZ,QK e];simp -implicitDefEqProofs only [Q0,Np,MX,LG,Q2,Qu (show i<=1000 by omega)]
 ·rw [Zi,Qk1,Ql,QjW]
 ·cases O.find? fun q=>q.1 == r <;> rfl
namespace Cx
variable {R:Type} {X:Cx} (h:X.OK)
include h
theorem QdY {J:List Tup} (hJ:X.JOK J) {t:Tup} (ht:t∈J) {r:Int} (K:D->D->D->D->D->D->Bool->oP R):Sa 400 (Kl (X.occs X.L)) (t.1:Int) (t.2.1:Int) t.2.2.1 r K=K (Q4 (fnd (X.occN t.1) r).1) (Q4 (fnd (X.occN t.1) r).2.1) (Q4 (fnd (X.occN t.1) r).2.2) (Q4 (fnd (X.occN t.2.1) r).1) (Q4 (fnd (X.occN t.2.1) r).2.1) (Q4 (fnd (X.occN t.2.1) r).2.2) (okR t.2.2.1 (X.occN t.1) (X.occN t.2.1) r):=by
 have hj:=hJ.at' t ht;have oa:=JF h hj.1;have ob:=JF h hj.2.1;have rb:=Q5C ob.2.1 (r:=r);unfold Sa okR;rw [oa.1,ob.1];simp -implicitDefEqProofs only [Q0,QjU,QA,Qej (show (X.occN t.1).length<=300 by omega),Qej (show (X.occN t.2.1).length<=300 by omega),Q2,Q6 (x:=t.2.2.1+(fnd (X.occN t.2.1) r).2.1) Zzq Zzq]
theorem QeX {J:List Tup} (hJ:X.JOK J) {t:Tup} (ht:t∈J) {per:Int} (K:Bool->oP R):RJ 400 (Kl (X.occs X.L)) (t.1:Int) (t.2.1:Int) t.2.2.1 t.2.2.2 per K=K (!Q8W per t.2.2.1 t.2.2.2 (X.occN t.1) (X.occN t.2.1)):=by
 have hj:=hJ.at' t ht;have oa:=JF h hj.1;have ob:=JF h hj.2.1;unfold RJ Q8W;refine (KN (r:=fun m i=>UZ 400 (Kl (X.occs X.L)) per (t.1:Int) (t.2.1:Int) t.2.2.1 t.2.2.2 (K false) (fun a b=>K true) m i) (l:=X.occN t.1) (p:=fun x=>!((X.occN t.2.1).any fun y=>bif tie t.2.2.1 x y then Q2N per t.2.2.1 t.2.2.2 x y else false)) (E0:=K false) (E1:=K true) (fun m i x e hi=>?_) (fun m=>?_) Zzq).trans ?_
 ·have ra:=Q5C oa.2.1 (r:=x.1);have rb:=Q5C ob.2.1 (r:=x.1);rw [UZ,oa.1,Qc7 oa.2.1 ob.2.1 (QjY e)];simp -implicitDefEqProofs only [Q0,QjU,QA,Qk1,Q9 hi,QjZ,QK e,Np,Q2,QdY h hJ ht,Qu (show i<=1000 by omega)];generalize fnd (X.occN t.1) x.1=u at ra ⊢;generalize fnd (X.occN t.2.1) x.1=v at rb ⊢;cases okR t.2.2.1 (X.occN t.1) (X.occN t.2.1) x.1 with
  |false=>rfl
  |true=>
   rw [QjZ,QjZ,Q6 (x:=t.2.2.1+v.2.1) Zzq Zzq,Q6 (x:=t.2.2.2+v.2.2) Zzq Zzq,Q6 (x:=(if u.2.2<t.2.2.2+v.2.2 then t.2.2.2+v.2.2 else u.2.2)-(if t.2.2.1+v.2.1<u.2.1 then t.2.2.1+v.2.1 else u.2.1)) (by split <;> split <;> omega) (by split <;> split <;> omega)];unfold Q2N;cases decide ((if u.2.2<t.2.2.2+v.2.2 then t.2.2.2+v.2.2 else u.2.2)-(if t.2.2.1+v.2.1<u.2.1 then t.2.2.1+v.2.1 else u.2.1)>per) <;> rfl
 ·rw [UZ,oa.1];simp -implicitDefEqProofs only [Q0,QjU,QA,Qk1,Ql,QjW]
 ·rw [<- List.not_any_eq_all_not];cases (X.occN t.1).any fun x=>(X.occN t.2.1).any fun y=>bif tie t.2.2.1 x y then Q2N per t.2.2.1 t.2.2.2 x y else false <;> rfl
theorem Q9j {J:List Tup} (hJ:X.JOK J) {a b i:Nat} (ha:a<X.N) {x:Occ} (e:(X.occN a)[i]? = some x) (k0:Bool->Int->Bool->oP R):Zc 400 (Kl (X.occs X.L)) (J.map tuR) (a:Int) (b:Int) (i:Int) k0 400 false 0=k0 (X.TRb J a b x.1) ((J.length:Nat):Int) false:=by
 have oa:=JF h ha;have hl:=hJ.len;unfold TRb;rw [<- Bool.false_or (List.any _ _),<- FS];refine Ft (r:=fun m j c=>Zc 400 (Kl (X.occs X.L)) (J.map tuR) (a:Int) (b:Int) (i:Int) k0 m c j) (E:=fun c=>k0 c ((J.length:Nat):Int) false) (fun m j t c e' hi=>?_) (fun m c=>?_) Zzq false
 ·have hj:=hJ.at' t (QjY e');have d:=JF h hj.1;have f:=JF h hj.2.1;have ac:Q1 (J.map tuR) (j:Int)=some [Q4 t.1,Q4 t.2.1,Q4 t.2.2.1,Q4 t.2.2.2]:=QK e';rw [Zc,Qk1,Q9 hi,QjZ,ac];simp -implicitDefEqProofs only [Q0,QjU,QjX,Q2,QA,oa.1,QK e,Np,QdY h hJ (QjY e'),Qu (show j<=1000 by omega),QeQ d.2.1 f.2.1];show (bif jab a b t then _ else _)=_;cases jab a b t <;> cases c <;> rfl
 ·rw [Zc,Qk1,Ql,QjW]
theorem Q5Z {J:List Tup} (hJ:X.JOK J) {a b:Nat} (ha:a<X.N) (K:LL->oP R):GR 400 (Kl (X.occs X.L)) (J.map tuR) (a:Int) (b:Int) K=K ((X.fil J a b).map enc):=by
 have oa:=JF h ha;unfold GR fil;refine Qx (r:=fun m i=>Wh 400 (Kl (X.occs X.L)) (J.map tuR) (a:Int) (b:Int) (fun d f c=>K c) m i ((((X.occN a).take i.toNat).filter fun o=>!X.TRb J a b o.1).map enc)) (N:=(X.occN a).length) (fun m i hi=>?_) (fun m=>?_) (X.occN a).length 400 0 Zzq Zzq
 ·simp only [QjV];obtain ⟨x,e⟩:∃ q,(X.occN a)[i]? = some q:=⟨(X.occN a)[i],Qk0 hi⟩;have aj:(((X.occN a).take i).filter fun o=>!X.TRb J a b o.1).length<=i:=Nat.le_trans (List.length_filter_le ..) (by simp;omega);rw [Wh,oa.1];simp -implicitDefEqProofs only [Q0,QjU,QA,Qk1,Q9 hi,QjZ,Q9j h hJ ha e,QK e,Np,MX,LG,Qu (show i<=1000 by omega),XS (show ((((X.occN a).take i).filter fun o=>!X.TRb J a b o.1).length+[[Q4 x.1,Q4 x.2.1,Q4 x.2.2]].length)*24<=100000 by simp;omega)];rw [YJ e,List.filter_append,Qk8];simp only [List.filter_cons,List.filter_nil];cases X.TRb J a b x.1 with
  |false=>rfl
  |true=>
   rw [Qke,QjW,if_neg Qks,List.map_nil,Qkf]
 ·simp only [QjV];rw [Wh,oa.1];simp -implicitDefEqProofs only [Q0,QjU,QA,Qk1,Ql,QjW,Qka]
end Cx
theorem Q8U {a b:Nat} (h:a+b<=100000):wJ ((a:Int)+(b:Int))=((a+b:Nat):Int):=Q6 Zzq Zzq
theorem Q9b {a:Nat} (h:a<=100000):wJ ((a:Int)+1)=((a+1:Nat):Int):=Q6 Zzq Zzq
theorem QeO {a:Nat} (h:a<=100000):wJ ((a:Int)+2)=((a+2:Nat):Int):=Q6 Zzq Zzq
theorem Si {a:Nat} (h:a<=100000):wJ (2*(a:Int))=((2*a:Nat):Int):=Q6 Zzq Zzq
namespace Cx
def jR (X:Cx) (i:Nat):List Tup:=(List.range (X.nr i-1)).map (X.j1 i)++(match X.tn i with | some t=>[X.jT t] | none=>[])
def jnsR (X:Cx):Nat->List Tup
 |0=>[]
 |i+1=>jnsR X i++X.jR i
variable {R:Type} {n:Nat} {X:Cx} (h:X.OK)
theorem Q6Z {t:Tup}:∀ {L:Nat},t∈X.jnsR L↔∃ i,i<L/\t∈X.jR i
 |0=>⟨fun h=>(nomatch h),fun ⟨_,h,_⟩=>by omega⟩
 |L+1=>by
  rw [jnsR,Qk3,Q6Z];constructor
  ·rintro (⟨i,a,h2⟩ | h2)
   ·exact ⟨i,by omega,h2⟩
   ·exact ⟨L,by omega,h2⟩
  ·rintro ⟨i,a,h2⟩;by_cases hi:i=L
   ·subst hi;exact .inr h2
   ·exact .inl ⟨i,by omega,h2⟩
theorem Q3k {i:Nat} {t:Tup} (ht:X.tn i=some t):t∈X.T/\t.1=i:=⟨Qkn ht,by simpa using List.find?_some ht⟩
theorem Q2s {α β:Type} {f:α->β}:∀ {l:List α},(l.map f).Nodup->∀ {x y},x∈l->y∈l->f x=f y->x=y
 |[],_,_,_,h,_,_=>nomatch h
 |a::l,hn,x,y,hx,hy,e=>by
  rw [List.map_cons,List.nodup_cons] at hn;cases hx with
  |head=>
   cases hy with
   |head=>rfl
   |tail _ hy=>exact (hn.1 (Qkq.2 ⟨y,hy,e.symm⟩)).elim
  |tail _ hx=>
   cases hy with
   |head=>exact (hn.1 (Qkq.2 ⟨x,hx,e⟩)).elim
   |tail _ hy=>exact Q2s hn.2 hx hy e
include h
theorem Qh4 {t:Tup} (ht:t∈X.T):X.tn t.1=some t:=by
 cases e:X.tn t.1 with
 |none=>exact absurd (List.find?_eq_none.1 e t ht) (by simp)
 |some u=>
  have hu:=Q3k e;rw [Q2s h.fd hu.1 ht hu.2]
theorem Q2Q {t:Tup}:t∈X.jnsR X.L↔t∈X.jns:=by
 rw [Q6Z,Q8Y];constructor
 ·rintro ⟨i,hi,ht⟩;rcases Qk3.1 ht with ht | ht
  ·obtain ⟨k,hk,rfl⟩:=Qkq.1 ht;exact .inl ⟨i,k,hi,List.mem_range.1 hk,rfl⟩
  ·cases e:X.tn i with
   |none=>rw [e] at ht;nomatch ht
   |some u=>
    rw [e] at ht;obtain rfl:=Qk9.1 ht;exact .inr ⟨u,(Q3k e).1,rfl⟩
 ·rintro (⟨i,k,hi,hk,rfl⟩ | ⟨u,hu,rfl⟩)
  ·exact ⟨i,hi,Qko _ (List.mem_map_of_mem (List.mem_range.2 hk))⟩
  ·refine ⟨u.1,(h.tr _ hu).1,Qkk _ ?_⟩;rw [Qh4 h hu];exact .head _
theorem Q74 {i:Nat} (hi:i<=X.Ls.length):(X.jnsR i).length<=base X.nr i:=by
 induction i with
 |zero=>exact Qkc _
 |succ i ih=>
  have:=ih Zzq;have hl:=(Gg h (i:=i) Zzq).2.1;rw [jnsR,jR,List.length_append,List.length_append,Qk1,List.length_range,base];cases X.tn i
  ·simp;omega
  ·simp;omega
theorem Qep:X.JOK (X.jnsR X.L):=⟨fun t ht=>(Qds h).at' t ((Q2Q h).1 ht),by have:=Q74 h (i:=X.L) (Qkc _);have:=base_le h;omega⟩
theorem EU {i:Nat} (hi:i<=X.Ls.length) (K:Int->oP R):Z5 400 X.Ls (i:Int) K=K ((base X.nr i:Nat):Int):=by
 have hb:=Ya h hi;have l1:=h.l1;unfold Z5;refine Qx (r:=fun m k=>JC 400 (i:Int) X.Ls (fun c d e=>K c) m ((base X.nr k.toNat:Nat):Int) k) (N:=i) (fun m k hk=>?_) (fun m=>?_) i 400 0 Zzq Zzq
 ·simp only [QjV];have ac:=Ya h (i:=k+1) Zzq;rw [base] at ac;have ha:wJ (((base X.nr k:Nat):Int)+(((Kr X.Ls k).length:Nat):Int))=((base X.nr (k+1):Nat):Int):=Q8U (a:=base X.nr k) (b:=X.nr k) Zzq;rw [JC,Q9 hk,QjZ,Qa,(Gg h Zzq).1];simp -implicitDefEqProofs only [Q0,QjU,QjX,QA,Qu (show k<=1000 by omega),ha]
 ·simp only [QjV];rw [JC,Ql,QjW]
theorem Qfo (K:LL->oP R):R5 400 X.Ls (X.T.map tuR) (encI (X.runs X.L)) K=K ((X.jnsR X.L).map tuR):=by
 have l1:=h.l1;unfold R5;refine Qx (r:=fun m i=>UP 400 (encI (X.runs X.L)) X.Ls (X.T.map tuR) (fun f g c=>K c) m i ((X.jnsR i.toNat).map tuR)) (N:=X.Ls.length) (fun m i hi=>?_) (fun m=>?_) X.Ls.length 400 0 Zzq Zzq
 ·simp only [QjV];have hl:=(Gg h hi).2.1;have hb:=Ya h (i:=i) Zzq;have hw:wJ (((List.length (Kr X.Ls i):Nat):Int)-1)=((X.nr i-1:Nat):Int):=JE (k:=X.nr i) Zzq Zzq;have hJ:=Q74 h (i:=i) Zzq;rw [UP,Q9 hi,QjZ,Qa,(Gg h hi).1];simp -implicitDefEqProofs only [Q0,QjU,QjX,Qu (show i<=1000 by omega)];refine Qx (r:=fun m' k=>Wy 400 (encI (X.runs X.L)) (i:Int) X.Ls (X.T.map tuR) (D.sl 4 (Kr X.Ls i)) (fun _ _ w=>UP 400 (encI (X.runs X.L)) X.Ls (X.T.map tuR) (fun f g c=>K c) m ((i+1:Nat):Int) w) m' k ((if k.toNat<=X.nr i-1 then X.jnsR i++(List.range k.toNat).map (X.j1 i) else X.jnsR (i+1)).map tuR)) (N:=X.nr i) (fun m' k hk=>?_) (fun m'=>?_) (X.nr i) 400 0 Zzq Zzq |> Eq.trans (by simp)
  ·simp only [QjV];have r:=rd h hi hk;have hr:=Rk h hi hk;have ac:Q1 (Kr X.Ls i) (k:Int)=some [Q4 (rF X.Ls i k 0),Q4 (X.ex i k),Q4 (X.mn i k),Q4 (X.mx i k)]:=by rw [Qa,r.row]
   have l:=r.ex0;have e1:=r.ex1;have e2:=r.mn0;have n:=r.mn1;have o:=r.mn2;have p:=r.mn3;rw [Wy,QA,Q0,show (((Kr X.Ls i).length:Nat):Int)=((X.nr i:Nat):Int) from rfl,Q9 hk,QjZ,if_pos (show k<=X.nr i-1 by omega)];simp -implicitDefEqProofs only [Q0,EU h (show i<=X.Ls.length by omega),ac,QjU,QjX,Q2,QA,hw,Q8U (a:=base X.nr i) (b:=k) Zzq,Q6e hi hk,Qu (show k<=1000 by omega),Q6 (x:=X.run i k+X.mn i k) Zzq Zzq,Q6 (x:=X.run i k+X.ex i k) Zzq Zzq,Q6 (x:=X.run i k+X.ex i k+X.mx i k) Zzq Zzq,Q9b (a:=base X.nr i+k) Zzq];by_cases j:k<X.nr i-1
   ·rw [Q9 j,QjZ,if_pos (show k+1<=X.nr i-1 by omega),XS (by simp;omega),Q0,<- ZP,Qk8 (l₁:=X.jnsR i++(List.range k).map (X.j1 i))];rfl
   ·rw [show decide ((k:Int)<((X.nr i-1:Nat):Int))=false from decide_eq_false Zzq,QjW,if_neg (show ¬ k+1<=X.nr i-1 by omega),QaK h];have d:k=X.nr i-1:=by omega
    cases ht:X.tn i with
    |none=>
     simp -implicitDefEqProofs only [Q0,QjW,jnsR,jR,ht,Qkf,d]
    |some t=>
     obtain ⟨t1,t2⟩:=Q3k ht;have al:=(h.tr _ t1).2.1;have q:=(h.tr _ t1).2.2.1;have s:=(h.tr _ t1).2.2.2.1;have u:=(h.tr _ t1).2.2.2.2.1;have v:=(h.tr _ t1).2.2.2.2.2.1;simp -implicitDefEqProofs only [Q0,QjZ,Q2,EU h (show t.2.1<=X.Ls.length by omega),Q6 (x:=X.run i k+t.2.2.1) Zzq Zzq,Q6 (x:=X.run i k+X.ex i k+t.2.2.2) Zzq Zzq,jnsR,jR,ht];have e:[Q4 ((base X.nr i+k:Nat):Int),Q4 ((base X.nr t.2.1:Nat):Int),Q4 (X.run i k+t.2.2.1),Q4 (X.run i k+X.ex i k+t.2.2.2)]=tuR (X.jT t):=by
      unfold tuR jT;rw [t2,d];rfl
     rw [XS (by simp;omega),Q0,e,d,<- Qk5,Qk8 (l₁:=X.jnsR i++_)];rfl
  ·simp only [QjV];rw [Wy,QA,Q0,show (((Kr X.Ls i).length:Nat):Int)=((X.nr i:Nat):Int) from rfl,Ql,QjW,if_neg Zzq]
 ·simp only [QjV];rw [UP,Ql,QjW];rfl
theorem QcA (k0:LL->oP R):WA 400 X.Ls (fun _ _ w=>k0 w) 400 0 []=k0 (X.evs X.L):=by
 have l1:=h.l1;refine Qx (r:=fun m i=>WA 400 X.Ls (fun _ _ w=>k0 w) m i (X.evs i.toNat)) (N:=X.Ls.length) (fun m i hi=>?_) (fun m=>?_) X.Ls.length 400 0 Zzq Zzq
 ·simp only [QjV];have hl:=(Gg h hi).2.1;have hb:=Ya h (i:=i) Zzq;rw [WA,Q9 hi,QjZ,Qu (show i<=1000 by omega)];refine Qx (r:=fun m' k=>J3 400 (i:Int) X.Ls (fun _ _ w=>WA 400 X.Ls (fun _ _ w=>k0 w) m ((i+1:Nat):Int) w) m' k (X.evs i++evl i k.toNat)) (N:=X.nr i) (fun m' k hk=>?_) (fun m'=>?_) (X.nr i) 400 0 Zzq Zzq |> Eq.trans (by simp [evl])
  ·simp only [QjV];rw [J3,Qa,(Gg h hi).1];simp -implicitDefEqProofs only [Q0,QjU,QjX,QA];rw [show (((Kr X.Ls i).length:Nat):Int)=((X.nr i:Nat):Int) from rfl,Q9 hk,QjZ,XS (by simp [evs_len,Q2p];omega),Q0,Qu Zzq,Qk5];rfl
  ·simp only [QjV];rw [J3,Qa,(Gg h hi).1];simp -implicitDefEqProofs only [Q0,QjU,QjX,QA];rw [show (((Kr X.Ls i).length:Nat):Int)=((X.nr i:Nat):Int) from rfl,Ql,QjW];rfl
 ·simp only [QjV];rw [WA,Ql,QjW];rfl
theorem Qez (K:LL->oP R):R0 400 X.Ls (encI (X.runs X.L)) K=K (X.pls X.L):=by
 have l1:=h.l1;unfold R0;refine Qx (r:=fun m i=>US 400 (encI (X.runs X.L)) X.Ls (fun e f c=>K c) m i (X.pls i.toNat)) (N:=X.Ls.length) (fun m i hi=>?_) (fun m=>?_) X.Ls.length 400 0 Zzq Zzq
 ·simp only [QjV];have hl:=(Gg h hi).2.1;have hb:=Ya h (i:=i) Zzq;have hp:=AB (X:=X) (i:=i);have hw:wJ (((List.length (Kr X.Ls i):Nat):Int)-1)=((X.nr i-1:Nat):Int):=JE (k:=X.nr i) Zzq Zzq;rw [US,Q9 hi,QjZ,Qa,(Gg h hi).1];simp -implicitDefEqProofs only [Q0,QjU,QjX,Qu (show i<=1000 by omega)];refine Qx (r:=fun m' k=>UV 400 (encI (X.runs X.L)) (i:Int) X.Ls (Q4 (X.w i)) (D.sl 4 (Kr X.Ls i)) (fun _ _ w=>US 400 (encI (X.runs X.L)) X.Ls (fun e f c=>K c) m ((i+1:Nat):Int) w) m' k (X.pls i++X.pl i k.toNat)) (N:=X.nr i) (fun m' k hk=>?_) (fun m'=>?_) (X.nr i) 400 0 Zzq Zzq |> Eq.trans (by simp [pl])
  ·simp only [QjV];have r:=rd h hi hk;have hr:=Rk h hi hk;have ac:Q1 (Kr X.Ls i) (k:Int)=some [Q4 (rF X.Ls i k 0),Q4 (X.ex i k),Q4 (X.mn i k),Q4 (X.mx i k)]:=by rw [Qa,r.row]
   have g:=r.ex0;have e1:=r.ex1;have ak:=Q76 (X:=X) (i:=i) (k:=k);rw [UV,QA,Q0,show (((Kr X.Ls i).length:Nat):Int)=((X.nr i:Nat):Int) from rfl,Q9 hk,QjZ];simp -implicitDefEqProofs only [Q0,EU h (show i<=X.Ls.length by omega),ac,QjU,QjX,Q2,QA,hw,Q8U (a:=base X.nr i) (b:=k) Zzq,Q6e hi hk,Qu (show k<=1000 by omega),Q6 (x:=X.run i k+X.ex i k) Zzq Zzq,Si (a:=base X.nr i+k) Zzq,Q9b (a:=2*(base X.nr i+k)) Zzq,QeO (a:=2*(base X.nr i+k)) Zzq];rw [XS (by simp;omega),Q0];by_cases d:k<X.nr i-1
   ·rw [Q9 d,QjZ,XS (by simp;omega),Q0,pl,if_pos d,<- Qk5,<- Qk5];rfl
   ·rw [show decide ((k:Int)<((X.nr i-1:Nat):Int))=false from decide_eq_false Zzq,QjW,pl,if_neg d,Qkf,<- Qk5];rfl
  ·simp only [QjV];rw [UV,QA,Q0,show (((Kr X.Ls i).length:Nat):Int)=((X.nr i:Nat):Int) from rfl,Ql,QjW];rfl
 ·simp only [QjV];rw [US,Ql,QjW];rfl
theorem QfC {per:Int} {Ch Sy:LL} (hl:X.LsOK per Ch Sy) (K:LL->oP R):RH 400 X.Ls Ch (X.T.map tuR) Sy K=K (Ch.map X.chE++X.T.map X.tuE++Sy.map X.syE):=by
 have l1:=h.l1;have tl:=h.tl;have chl:=hl.chl;have syl:=hl.syl;unfold RH;have s1:∀ k0:LL->oP R,UT 400 X.Ls Ch (fun _ _ w=>k0 w) 400 0 []=k0 (Ch.map X.chE):=by
  intro k0;refine Qx (r:=fun m j=>UT 400 X.Ls Ch (fun _ _ w=>k0 w) m j ((Ch.take j.toNat).map X.chE)) (N:=Ch.length) (fun m j hj=>?_) (fun m=>?_) Ch.length 400 0 Zzq Zzq
  ·simp only [QjV];obtain ⟨row,e⟩:∃ q,Ch[j]? = some q:=⟨Ch[j],Qk0 hj⟩;obtain ⟨f,fr,t,tr,mn,mx,w,rfl,g1,n,c,y,z,g6⟩:=hl.ch row (QjY e);have nf:=(Gg h g1).2.1;have nt:=(Gg h c).2.1;have bf:=Ya h (i:=f) Zzq;have bt:=Ya h (i:=t) Zzq;rw [UT,Q9 hj,QjZ,Qa,e,YJ e,Qk8];simp -implicitDefEqProofs only [Q0,QjU,QjX,Q2,EU h (show f<=X.Ls.length by omega),EU h (show t<=X.Ls.length by omega),Qu (show j<=1000 by omega),Q8U (a:=base X.nr f) (b:=fr) Zzq,Q8U (a:=base X.nr t) (b:=tr) Zzq,Si (a:=base X.nr f+fr) Zzq,Si (a:=base X.nr t+tr) Zzq,Q9b (a:=2*(base X.nr f+fr)) Zzq];rw [XS (by simp;omega),Q0];rfl
  ·simp only [QjV];rw [UT,Ql,QjW,Qka]
 have s2:∀ k0:LL->oP R,Ww 400 X.Ls (X.T.map tuR) (fun _ _ w=>k0 w) 400 0 (Ch.map X.chE)=k0 (Ch.map X.chE++X.T.map X.tuE):=by
  intro k0;refine Qx (r:=fun m j=>Ww 400 X.Ls (X.T.map tuR) (fun _ _ w=>k0 w) m j (Ch.map X.chE++(X.T.take j.toNat).map X.tuE)) (N:=X.T.length) (fun m j hj=>?_) (fun m=>?_) X.T.length 400 0 Zzq Zzq |> Eq.trans (by simp)
  ·simp only [QjV];obtain ⟨⟨a,b,lo,hi⟩,e⟩:∃ q,X.T[j]? = some q:=⟨X.T[j],Qk0 hj⟩;have ht:=h.tr _ (QjY e);have g1:a<X.Ls.length:=ht.1;have c:b<X.Ls.length:=ht.2.1;have nf:=(Gg h g1).2.1;have bf:=Ya h (i:=a) Zzq;have bt:=Ya h (i:=b) Zzq;have aj:Q1 (X.T.map tuR) (j:Int)=some [Q4 a,Q4 b,Q4 lo,Q4 hi]:=QK e;have p:Ch.map X.chE++(X.T.take (j+1)).map X.tuE=Ch.map X.chE++(X.T.take j).map X.tuE++[X.tuE (a,b,lo,hi)]:=by rw [YJ e,Qk8,<- Qk5];rfl
   have hw:wJ (((2*(base X.nr a+X.nr a):Nat):Int)-1)=((2*(base X.nr a+(X.nr a-1))+1:Nat):Int):=by rw [Q6 Zzq Zzq];omega
   have ha:wJ (((base X.nr a:Nat):Int)+(((Kr X.Ls a).length:Nat):Int))=((base X.nr a+X.nr a:Nat):Int):=Q8U (a:=base X.nr a) (b:=X.nr a) Zzq;rw [Ww,Qk1,Q9 hj,QjZ,aj,p];simp -implicitDefEqProofs only [Q0,QjU,QjX,Q2,QA,EU h (show a<=X.Ls.length by omega),EU h (show b<=X.Ls.length by omega),Qa,(Gg h g1).1,Qu (show j<=1000 by omega),ha,Si (a:=base X.nr a+X.nr a) Zzq,Si (a:=base X.nr b) Zzq,hw];rw [XS (by simp;omega),Q0];rfl
  ·simp only [QjV];rw [Ww,Qk1,Ql,QjW,Qka]
 have s:∀ k0:LL->oP R,Zy 400 X.Ls Sy (fun _ _ w=>k0 w) 400 0 (Ch.map X.chE++X.T.map X.tuE)=k0 (Ch.map X.chE++X.T.map X.tuE++Sy.map X.syE):=by
  intro k0;refine Qx (r:=fun m j=>Zy 400 X.Ls Sy (fun _ _ w=>k0 w) m j (Ch.map X.chE++X.T.map X.tuE++(Sy.take j.toNat).map X.syE)) (N:=Sy.length) (fun m j hj=>?_) (fun m=>?_) Sy.length 400 0 Zzq Zzq |> Eq.trans (by simp)
  ·simp only [QjV];obtain ⟨row,e⟩:∃ q,Sy[j]? = some q:=⟨Sy[j],Qk0 hj⟩;obtain ⟨o,rfl,g1,n,c⟩:=hl.sy row (QjY e);have bt:=Ya h (i:=1) Zzq;have k:=EU (R:=Int) h (show 0<=X.Ls.length by omega) some;have l:=EU (R:=Int) h (show 1<=X.Ls.length by omega) some;have a0:=Q8U (a:=base X.nr 0) (b:=0) (by simp [base]);have a1:=Q8U (a:=base X.nr 1) (b:=0) Zzq;simp only [show ((0:Nat):Int)=0 from rfl,show ((1:Nat):Int)=1 from rfl] at k l a0 a1;rw [Zy,Q9 hj,QjZ,Qa,e,YJ e,Qk8,<- Qk5];simp -implicitDefEqProofs only [Q0,QjU,QjX,Q2,k,l,a0,a1,Qu (show j<=1000 by omega),Si (a:=base X.nr 0+0) (by simp [base]),Si (a:=base X.nr 1+0) Zzq];rw [XS (by simp;omega),Q0];rfl
  ·simp only [QjV];rw [Zy,Ql,QjW,Qka]
 rw [s1 (fun u=>Ww 400 X.Ls (X.T.map tuR) (fun ab ac d=>Zy 400 X.Ls Sy (fun v x g=>K g) 400 0 d) 400 0 u),s2 (fun d=>Zy 400 X.Ls Sy (fun v x g=>K g) 400 0 d),s]
end Cx

theorem Qfr {α:Type} {J J':List α} (hJ:∀ t,t∈J↔t∈J') (p:α->Bool):J.any p=J'.any p:=by
 rw [Bool.eq_iff_iff,List.any_eq_true,List.any_eq_true];exact ⟨fun ⟨t,a,h2⟩=>⟨t,(hJ t).1 a,h2⟩,fun ⟨t,a,h2⟩=>⟨t,(hJ t).2 a,h2⟩⟩
theorem QdZ {α:Type} {J J':List α} (hJ:∀ t,t∈J↔t∈J') (p:α->Bool):J.all p=J'.all p:=by
 rw [Bool.eq_iff_iff,Qkg,Qkg];exact ⟨fun h t ht=>h t ((hJ t).2 ht),fun h t ht=>h t ((hJ t).1 ht)⟩
namespace Cx
variable {R:Type} {X:Cx} {per:Int} {Ch Sy De:LL}
theorem Q7t {J J':List Tup} (hJ:∀ t,t∈J↔t∈J'):X.netV per J Ch Sy=X.netV per J' Ch Sy:=by
 have e1:∀ a b,X.fil J a b=X.fil J' a b:=fun a b=>List.filter_congr fun o _=>by
  unfold TRb;rw [Qfr hJ]
 have e2:∀ a b,X.WV per J a b=X.WV per J' a b:=fun a b=>by
  unfold WV;rw [e1,e1]
 have d:∀ a c b,X.hdw per J a c b=X.hdw per J' a c b:=fun a c=>by
  induction c with
  |zero=>exact fun _=>rfl
  |succ c ih=>intro b;rw [hdw,hdw,e2,ih]
 have e:∀ c a,X.hdws per J c a=X.hdws per J' c a:=fun c=>by
  induction c with
  |zero=>exact fun _=>rfl
  |succ c ih=>intro a;rw [hdws,hdws,d,ih]
 unfold netV aloneJ;rw [e,QdZ hJ]
variable (h:X.OK)
theorem Qft {a b:Nat} (ha:a<=100) (hb:b<=100) {W:List Sp2} (hW:W.length<=12) {k0:LL->oP R} {A:LL} (hA:A.length<=900):V0 400 (a:Int) (b:Int) (W.map Yt) (fun _ _ w=>k0 w) 400 0 A=k0 (A++W.map (Q81 a b)):=by
 refine Qx (r:=fun m j=>V0 400 (a:Int) (b:Int) (W.map Yt) (fun _ _ w=>k0 w) m j (A++(W.take j.toNat).map (Q81 a b))) (N:=W.length) (fun m j hj=>?_) (fun m=>?_) W.length 400 0 Zzq Zzq |> Eq.trans (by simp)
 ·simp only [QjV];obtain ⟨w,e⟩:∃ q,W[j]? = some q:=⟨W[j],Qk0 hj⟩;rw [V0,Qk1,Q9 hj,QjZ,QK e,YJ e,Qk8,<- Qk5];simp -implicitDefEqProofs only [Q0,QaT,Qaq,Q2,Qu (show j<=1000 by omega),Si (a:=a) Zzq,Si (a:=b) Zzq];rw [XS (by simp;omega),Q0];rfl
 ·simp only [QjV];rw [V0,Qk1,Ql,QjW,Qka]
include h
theorem QbM (p0:2<=per) (p1:per<=300) {J:List Tup} (hJ:X.JOK J) {a:Nat} (ha:a<X.N) {Ke:oP R} {K1:LL->oP R}:∀ (c m b:Nat) (A:LL),b+c=X.N->c<m->A.length+12*c<=900 ->
  VZ 400 (Kl (X.occs X.L)) (J.map tuR) (a:Int) per Ke (fun _ _ w=>K1 w) m (b:Int) A=match X.hdw per J a c b with | none=>Ke | some H=>K1 (A++H)
 |0,m+1,b,A,hb,_,_=>by
  have ac:(Kl (X.occs X.L)).length=X.N:=by rw [Jv];exact ZT
  rw [VZ,ac,show decide ((b:Int)<((X.N:Nat):Int))=false from decide_eq_false Zzq,QjW,hdw];simp only [Qkf]
 |c+1,m+1,b,A,hb,hm,hA=>by
  have ac:(Kl (X.occs X.L)).length=X.N:=by rw [Jv];exact ZT
  have hN:X.N<=6:=base_le h;have hw:=Q2n h p0 p1 (J:=J) ha (show b<X.N by omega);rw [VZ,ac,show decide ((b:Int)<((X.N:Nat):Int))=true from Qk6 Zzq,QjZ,Q5Z h hJ ha,Q5Z h hJ (show b<X.N by omega)];simp -implicitDefEqProofs only [Q0,hw.2.1,Qu (show b<=1000 by omega),hdw];cases ew:X.WV per J a b with
  |none=>rfl
  |some W=>
   have hl:=hw.2.2 W ew;simp -implicitDefEqProofs only [QfE];rw [Q8 (by rfl),Qft Zzq Zzq hl Zzq,QbM p0 p1 hJ ha c m (b+1) _ Zzq Zzq (by simp;omega)];cases X.hdw per J a c (b+1) with
   |none=>rfl
   |some H=>simp -implicitDefEqProofs only [Option.map_some,Qk5]
theorem QbK (p0:2<=per) (p1:per<=300) {J:List Tup} (hJ:X.JOK J) {Ke:oP R} {K1:LL->oP R}:∀ (c m a:Nat) (A:LL),a+c=X.N->c<m->A.length+72*c<=900 ->
  UW 400 (Kl (X.occs X.L)) (J.map tuR) per Ke (fun _ _ w=>K1 w) m (a:Int) A=match X.hdws per J c a with | none=>Ke | some H=>K1 (A++H)
 |0,m+1,a,A,ha,_,_=>by
  have ac:(Kl (X.occs X.L)).length=X.N:=by rw [Jv];exact ZT
  rw [UW,ac,show decide ((a:Int)<((X.N:Nat):Int))=false from decide_eq_false Zzq,QjW,hdws];simp only [Qkf]
 |c+1,m+1,a,A,ha,hm,hA=>by
  have ac:(Kl (X.occs X.L)).length=X.N:=by rw [Jv];exact ZT
  have hN:X.N<=6:=base_le h;rw [UW,ac,show decide ((a:Int)<((X.N:Nat):Int))=true from Qk6 Zzq,QjZ,Qu (show a<=1000 by omega),QbM h p0 p1 hJ (show a<X.N by omega) (Ke:=Ke) (K1:=fun A=>UW 400 (Kl (X.occs X.L)) (J.map tuR) per Ke (fun _ _ w=>K1 w) m ((a+1:Nat):Int) A) c 400 (a+1) A Zzq Zzq Zzq,hdws];cases eh:X.hdw per J a c (a+1) with
  |none=>rfl
  |some H=>
   have:=Q1X h p0 p1 (J:=J) (show a<X.N by omega) (c:=c) (b:=a+1) Zzq eh;dsimp only;rw [QbK p0 p1 hJ c m (a+1) (A++H) Zzq Zzq (by simp;omega)];cases X.hdws per J c (a+1) with
   |none=>rfl
   |some H'=>simp -implicitDefEqProofs only [Option.map_some,Qk5]
theorem Qcd (p0:2<=per) (p1:per<=300) {k0 E:oP R} {k1:Int->Bool->oP R} (hk:∀ a b,k1 a b=E):V3 400 (Kl (X.occs X.L)) per k0 k1 400 0=bif (X.occs X.L).all (fun o=>o.all (Lr per)) then E else k0:=by
 have hN:X.N<=6:=base_le h;have aj:(X.occs X.L).length=X.N:=ZT;refine KN (r:=fun m i=>V3 400 (Kl (X.occs X.L)) per k0 k1 m i) (fun m i o e hi=>?_) (fun m=>?_) Zzq
 ·have ho:=Q9M h o (QjY e);have ac:Q1 (Kl (X.occs X.L)) (i:Int)=some [D.sl 3 (o.map enc)]:=QK e;rw [V3,Jv,Q9 hi,QjZ,ac];simp -implicitDefEqProofs only [Q0,QjU,QA,Qew (show 1<=per by omega) (show per<=7200 by omega) ho.1 (show o.length<=300 by omega),Qu (show i<=1000 by omega)];cases o.all (Lr per) <;> rfl
 ·rw [V3,Jv,Ql,QjW,hk]
theorem Qd2 {J:List Tup} (hJ:X.JOK J) {k0 E:oP R} {k1:Int->Bool->oP R} (hk:∀ a b,k1 a b=E):V4 400 (Kl (X.occs X.L)) (J.map tuR) per k0 k1 400 0=bif J.all (fun t=>!Q8W per t.2.2.1 t.2.2.2 (X.occN t.1) (X.occN t.2.1)) then E else k0:=by
 have aj:=hJ.len;refine KN (r:=fun m i=>V4 400 (Kl (X.occs X.L)) (J.map tuR) per k0 k1 m i) (fun m i t e hi=>?_) (fun m=>?_) Zzq
 ·rw [V4,Qk1,Q9 hi,QjZ,QK e];simp -implicitDefEqProofs only [Q0,tuR,QjU,QjX,Q2,Qu (show i<=1000 by omega),QeX h hJ (QjY e)];cases Q8W per t.2.2.1 t.2.2.2 (X.occN t.1) (X.occN t.2.1) <;> rfl
 ·rw [V4,Qk1,Ql,QjW,hk]
theorem buildR (hl:X.LsOK per Ch Sy) (p0:2<=per) (p1:per<=300) (hc:Zw 400 X.G.St X.G.Pt X.G.Se X.G.Li per X.skR X.Ro X.Ls Ch (X.T.map tuR) Sy De (some:Int->Option Int)=some 0) :
  VE 400 X.G.St X.G.Pt X.G.Se X.G.Li per X.skR X.Ro X.Ls Ch (X.T.map tuR) Sy De Tu4=some (X.netV per X.jns Ch Sy):=by
 have hN:X.N<=6:=base_le h;have aj:(X.occs X.L).length=X.N:=ZT;have al:=Lg h hl;have hJ:=Qep h;have ac:(X.pls X.L++(Ch.map X.chE++X.T.map X.tuE++Sy.map X.syE))=X.planned Ch Sy:=by unfold planned;simp only [Qk5]
 rw [<- Q7t fun t=>Q2Q h (t:=t)];unfold VE netV;rw [QeZ h hc,Q0,Q8 (by rfl)];dsimp only;rw [Jv,aj,Si Zzq,Q8 (decide_eq_false Zzq),Qcd h p0 p1 (fun _ _=>rfl)];unfold aloneJ;cases (X.occs X.L).all (fun o=>o.all (Lr per))
 ·rfl
 rw [QjZ,QjZ,Qfo h,Q0,Qd2 h hJ (fun _ _=>rfl)];cases (X.jnsR X.L).all (fun t=>!Q8W per t.2.2.1 t.2.2.2 (X.occN t.1) (X.occN t.2.1))
 ·rfl
 rw [QjZ,QjZ];refine (QcA h _).trans ?_;rw [Qez h,QfC h hl,Q0,Q0,XS (by rw [<- List.length_append,ac];omega),Q0,ac];refine (QbK h p0 p1 hJ (Ke:=some ((0:Int),([]:LL),([]:LL),(13:Int))) (K1:=fun a=>bif decide (((List.length a:Nat):Int)>512) then some (0,[],[],7) else some (per,X.evs X.L,a,0)) X.N 400 0 (X.planned Ch Sy) Zzq Zzq Zzq).trans ?_;cases eh:X.hdws per (X.jnsR X.L) X.N 0 with
 |none=>rfl
 |some H=>
  have:=CR h p0 p1 Zzq eh;dsimp only;rw [Q8 (decide_eq_false (by rw [List.length_append];omega))]
end Cx

end Go.Vx
namespace Go.Vx
variable {R:Type}
def GD (n:Nat) (b:Int) (a c:LL) (a1:Int) (K:Bool->oP R):oP R:= K (bif decide (a1>=0) then (decide (a1<(a.length:Int))) else false)
def Uz (n:Nat) (p:LL) (h2 e:Int) (h i:LL) (k0:oP R) (k1:Int->Bool->oP R):Nat->Int->oP R
 | 0,_=>none
 | m+1,c=>bif decide (c<h2) then gb true (Q1 p c) [] fun a=>gb true (a[0]?) oF fun ac=>gb true (a[1]?) oF fun q=>gb true (a[2]?) oF fun r=>gb true (a[3]?) oF fun j=>gb true (a[4]?) oF fun k=>gb true (a[5]?) oF fun s=>gb true (pIw q) 0 fun u=>gb true (GD n e h i u some) false fun d=>gb (!(!d)) (pIw r) 0 fun v=>gb (!(!d)) (GD n e h i v some) false fun l=>gb (!(bif !d then true else (!l))) (pIw q) 0 fun x=>gb (!(bif !d then true else (!l))) (pIw r) 0 fun y=>bif (bif (bif !d then true else (!l)) then true else (x == y)) then k0 else gb true (pIw j) 0 fun b=>gb (!(decide (b<(-65536:Int)))) (pIw j) 0 fun f=>gb (!(decide (b<(-65536:Int)))) (pIw k) 0 fun g=>gb (!(bif (decide (b<(-65536:Int))) then true else (decide (f>g)))) (pIw k) 0 fun o=>gb (!(bif (bif (decide (b<(-65536:Int))) then true else (decide (f>g))) then true else (decide (o>65536)))) (pIw k) 0 fun z=>gb (!(bif (bif (decide (b<(-65536:Int))) then true else (decide (f>g))) then true else (decide (o>65536)))) (pIw j) 0 fun aa=>bif (bif (bif (bif (decide (b<(-65536:Int))) then true else (decide (f>g))) then true else (decide (o>65536))) then true else (decide ((wJ (z-aa))>=e))) then k0 else gb true (pIw s) 0 fun t=>gb (!(decide (t<0))) (pIw s) 0 fun ab=>bif (bif decide (t<0) then true else (decide (ab>1048576))) then k0 else Uz n p h2 e h i k0 k1 m (wJ (c+1)) else k1 c (decide (c<h2))
def TJ (n:Nat) (b:Int) (c a:LL) (K:Bool->oP R):oP R:= bif (bif (bif (bif decide (b<2) then true else (decide (b>7200))) then true else (decide ((c.length:Int)>48))) then true else (decide ((a.length:Int)>512))) then K false else Uz n a (a.length:Int) b c a (K false) (fun d e=>K true) n 0

def Vq (n:Nat) (h2:LL) (b c:Int) (k0:oP R) (k1:Int->Bool->oP R):Nat->Int->oP R
 | 0,_=>none
 | m+1,a=>bif decide (a<b) then gb true (Q1 h2 a) [] fun e=>gb true (e[0]?) oF fun f=>gb true (pIw f) 0 fun d=>bif (bif decide (d<0) then true else (decide (d>=c))) then k0 else Vq n h2 b c k0 k1 m (wJ (a+1)) else k1 a (decide (a<b))
def Vu (n:Nat) (a:Int) (b c a1:LL) (K:Bool->oP R):oP R:= gb true (TJ n a b c some) false fun d=>bif (bif !d then true else ((a1.length:Int) != (b.length:Int))) then K false else Vq n a1 (a1.length:Int) a (K false) (fun e f=>K true) n 0

def Tw (n:Nat) (a0 a1 a2:Int) (K:Bool->oP R):oP R:= K (bif decide (a0>=a1) then (decide (a0<=a2)) else false)

def J0 (n:Nat) (j:Int) (l k:LL) (k0:oP R) (k1:Int->Bool->oP R):Nat->Int->oP R
 | 0,_=>none
 | m+1,h2=>bif (decide (h2<(k.length:Int))) then gb true (Q1 k h2) [] fun g=>gb true (g[0]?) oF fun aa=>gb true (g[1]?) oF fun s=>gb true (g[2]?) oF fun t=>gb true (g[3]?) oF fun o=>gb true (g[4]?) oF fun p=>gb true (g[5]?) oF fun u=>gb true (pIw s) 0 fun v=>gb true (Tw n v 0 (wJ ((l.length:Int)-1)) some) false fun a=>gb (!(!a)) (pIw t) 0 fun x=>gb (!(!a)) (Tw n x 0 (wJ ((l.length:Int)-1)) some) false fun b=>gb (!(bif !a then true else (!b))) (pIw s) 0 fun c=>gb (!(bif !a then true else (!b))) (pIw t) 0 fun d=>gb (!(bif (bif !a then true else (!b)) then true else (c == d))) (pIw o) 0 fun e=>gb (!(bif (bif (bif !a then true else (!b)) then true else (c == d)) then true else (decide (e<(-65536:Int))))) (pIw p) 0 fun f=>gb (!(bif (bif (bif (bif !a then true else (!b)) then true else (c == d)) then true else (decide (e<(-65536:Int)))) then true else (decide (f>65536)))) (pIw o) 0 fun h=>gb (!(bif (bif (bif (bif !a then true else (!b)) then true else (c == d)) then true else (decide (e<(-65536:Int)))) then true else (decide (f>65536)))) (pIw p) 0 fun i=>gb (!(bif (bif (bif (bif (bif !a then true else (!b)) then true else (c == d)) then true else (decide (e<(-65536:Int)))) then true else (decide (f>65536))) then true else (decide (h>i)))) (pIw p) 0 fun q=>gb (!(bif (bif (bif (bif (bif !a then true else (!b)) then true else (c == d)) then true else (decide (e<(-65536:Int)))) then true else (decide (f>65536))) then true else (decide (h>i)))) (pIw o) 0 fun r=>gb (!(bif (bif (bif (bif (bif (bif !a then true else (!b)) then true else (c == d)) then true else (decide (e<(-65536:Int)))) then true else (decide (f>65536))) then true else (decide (h>i))) then true else (decide ((wJ (q-r))>=j)))) (pIw u) 0 fun y=>gb (!(bif (bif (bif (bif (bif (bif !a then true else (!b)) then true else (c == d)) then true else (decide (e<(-65536:Int)))) then true else (decide (f>65536))) then true else (decide (h>i))) then true else (decide ((wJ (q-r))>=j)))) (Tw n y 0 1048576 some) false fun z=>bif (bif (bif (bif (bif (bif (bif (bif !a then true else (!b)) then true else (c == d)) then true else (decide (e<(-65536:Int)))) then true else (decide (f>65536))) then true else (decide (h>i))) then true else (decide ((wJ (q-r))>=j))) then true else (!z)) then k0 else J0 n j l k k0 k1 m (wJ (h2+1)) else k1 h2 (decide (h2<(k.length:Int)))
def R3 (n:Nat) (a:Int) (b c:LL) (K:Bool->oP R):oP R:= gb true (Tw n a 2 7200 some) false fun d=>bif (bif (bif !d then true else (decide ((b.length:Int)>48))) then true else (decide ((c.length:Int)>512))) then K false else J0 n a b c (K false) (fun e f=>K true) n 0

def Jy (n:Nat) (h2:LL) (b:Int) (k0:oP R) (k1:Int->Bool->oP R):Nat->Int->oP R
 | 0,_=>none
 | m+1,a=>bif (decide (a<(h2.length:Int))) then gb true (Q1 h2 a) [] fun c=>gb true (c[0]?) oF fun d=>gb true (pIw d) 0 fun e=>gb true (Tw n e 0 (wJ (b-1)) some) false fun f=>bif !f then k0 else Jy n h2 b k0 k1 m (wJ (a+1)) else k1 a (decide (a<(h2.length:Int)))
def Gl (n:Nat) (a:Int) (b c a1:LL) (K:Bool->oP R):oP R:= gb true (R3 n a b c some) false fun d=>bif (bif !d then true else ((a1.length:Int) != (b.length:Int))) then K false else Jy n a1 a (K false) (fun e f=>K true) n 0

def Ju (n:Nat) (c d:Int) (e:LL) (k0:Int->Bool->LL->Int->oP R):Nat->Int->LL->Int->oP R
 | 0,_,_,_=>none
 | m+1,a,b,f=>bif decide (a<c) then gb true (Q5 n e f d Tu2) (0,0) fun g=>gb true (inB (b.length) a) () fun k=>gb true (b[a.toNat]?) [] fun j=>Ju n c d e k0 m (wJ (a+1)) (List.set b a.toNat (List.set j 0 (Q4 g.1))) g.2 else k0 a (decide (a<c)) b f
def ST (n:Nat) (c:Int) (a f a1:LL) (K:LL->oP R):oP R:= gb true (Mf n a1 Tu2) ([],0) fun b=>gb true (bif decide (0<=(a.length:Int))&&decide ((a.length:Int)<=(a.length:Int)) then some () else none) () fun u2=>gb true (Ym (Int.toNat (a.length:Int)*8)) () fun u3=>Ju n ((List.length (List.replicate (Int.toNat (a.length:Int)) [Q4 0]):Nat):Int) c b.1 (fun g h e i=>K e) n 0 (List.replicate (Int.toNat (a.length:Int)) [Q4 0]) b.2

end Go.Vx
namespace Go.Vx
def R6 (row:List D):Prop:=∃ kd f t mn mx w:Int,row=[Q4 kd,Q4 f,Q4 t,Q4 mn,Q4 mx,Q4 w]
def chk (per:Int) (e:Nat):List D->Bool
 |[_,.int _ f,.int _ t,.int _ mn,.int _ mx,.int _ w]=>!(bif bif !(bif decide (f>=0) then decide (f<(e:Int)) else false) then true else !(bif decide (t>=0) then decide (t<(e:Int)) else false) then true else f == t)&&(!(bif bif bif decide (mn < -65536) then true else decide (mn>mx) then true else decide (mx>65536) then true else decide (wJ (mx-mn)>=per))&&!(bif decide (w<0) then true else decide (w>1048576)))
 |_=>false
theorem QcY {per:Int} {e:Nat} {kd f t mn mx w:Int} (h:chk per e [Q4 kd,Q4 f,Q4 t,Q4 mn,Q4 mx,Q4 w]=true):0<=f/\f<e/\0<=t/\t<e /\ -65536<=mn/\mn<=mx/\mx<=65536:=by
 simp only [chk,Qkr,Qkl,Qkd,Bool.not_eq_true',Bool.or_eq_false_iff,Bool.not_eq_false',Qkp,decide_eq_false_iff_not,beq_eq_false_iff_ne] at h;omega
section
variable {per:Int} {E A:LL} (p0:2<=per) (p1:per<=300) (hE:E.length<=48) (hA:A.length<=512) (hr:∀ r∈A,R6 r)
include p0 p1 hE hA hr
theorem Qer (hl:A.length<400):TJ 400 per E A some=some (A.all (chk per E.length)):=by
 unfold TJ;rw [show decide (per<2)=false from decide_eq_false Zzq,show decide (per>7200)=false from decide_eq_false Zzq,show decide (((E.length:Nat):Int)>48)=false from decide_eq_false Zzq,show decide (((A.length:Nat):Int)>512)=false from decide_eq_false Zzq];simp -implicitDefEqProofs only [QjW];refine (KN (r:=fun m i=>Uz 400 A ((A.length:Nat):Int) per E A (some false) (fun _ _=>some true) m i) (l:=A) (p:=chk per E.length) (E0:=some false) (E1:=some true) (fun m i q e hi=>?_) (fun m=>?_) (fuel:=400) Zzq).trans (by cases A.all (chk per E.length) <;> rfl)
 ·obtain ⟨kd,f,t,mn,mx,w,rfl⟩:=hr q (QjY e);rw [Uz,Q9 hi,QjZ,Qa,e];unfold GD;simp -implicitDefEqProofs only [Q0,QjU,QjX,Q2,Qu (show i<=1000 by omega)];dsimp only [chk];cases (bif bif !(bif decide (f>=0) then decide (f<(E.length:Int)) else false) then true else !(bif decide (t>=0) then decide (t<(E.length:Int)) else false) then true else f == t)
  ·cases (bif bif bif decide (mn < -65536) then true else decide (mn>mx) then true else decide (mx>65536) then true else decide (wJ (mx-mn)>=per))
   ·cases (bif decide (w<0) then true else decide (w>1048576)) <;> rfl
   ·rfl
  ·rfl
 ·rw [Uz,Ql,QjW]
theorem Qf1 (hl:A.length<400):R3 400 per E A some=some (A.all (chk per E.length)):=by
 unfold R3 Tw;rw [show decide (per>=2)=true from Qk6 Zzq,show decide (per<=7200)=true from Qk6 Zzq,show decide (((E.length:Nat):Int)>48)=false from decide_eq_false Zzq,show decide (((A.length:Nat):Int)>512)=false from decide_eq_false Zzq];simp -implicitDefEqProofs only [QjW,QjZ,Q0,Qke];refine (KN (r:=fun m i=>J0 400 per E A (some false) (fun _ _=>some true) m i) (l:=A) (p:=chk per E.length) (E0:=some false) (E1:=some true) (fun m i q e hi=>?_) (fun m=>?_) (fuel:=400) Zzq).trans (by cases A.all (chk per E.length) <;> rfl)
 ·obtain ⟨kd,f,t,mn,mx,w,rfl⟩:=hr q (QjY e);rw [J0,Q9 hi,QjZ,Qa,e];unfold Tw;simp -implicitDefEqProofs only [Q0,QjU,QjX,Q2,Qu (show i<=1000 by omega),Q6 (x:=((E.length:Nat):Int)-1) Zzq Zzq];have sw:∀ (c d:Bool) (x y:Option Bool),c = !d->(bif c then x else y)=bif d then y else x:=fun c d x y h=>by rw [h];cases d <;> rfl
  refine sw _ _ _ _ ?_;rw [Bool.eq_iff_iff];simp only [chk,Qkr,Qkl,Qkd,Bool.or_eq_true,Bool.not_eq_true',Bool.and_eq_false_iff,Bool.or_eq_false_iff,Bool.not_eq_false',Qkp,decide_eq_false_iff_not,beq_eq_false_iff_ne,beq_iff_eq];omega
 ·rw [J0,Ql,QjW]
def Q7k (per:Int) (E A:LL) (tl:List Int):Bool:=bif (bif !(A.all (chk per E.length)) then true else ((tl.length:Nat):Int) != ((E.length:Nat):Int)) then false else tl.all fun x=>!(bif decide (x<0) then true else decide (x>=per))
theorem QgR (hl:A.length<400) {tl:List Int}:Vu 400 per E A (encI tl) some=some (Q7k per E A tl)/\Gl 400 per E A (encI tl) some=some (Q7k per E A tl):=by
 have ca:=Qer p0 p1 hE hA hr hl;have cb:=Qf1 p0 p1 hE hA hr hl;have ac:(encI tl).length=tl.length:=Jf tl;unfold Vu Gl Q7k;rw [ca,cb,Q0,Q0,ac];cases hc:(bif !(A.all (chk per E.length)) then true else ((tl.length:Nat):Int) != ((E.length:Nat):Int)) with
 |true=>exact ⟨rfl,rfl⟩
 |false=>
  have aj:tl.length=E.length:=by
   cases a : !(A.all (chk per E.length)) with
   |true=>rw [a] at hc;cases hc
   |false=>
    rw [a,QjW] at hc;have:((tl.length:Nat):Int)=((E.length:Nat):Int):=by simpa using hc
    omega
  rw [QjW,QjW,QjW];constructor
  ·refine (KN (r:=fun m i=>Vq 400 (encI tl) ((tl.length:Nat):Int) per (some false) (fun _ _=>some true) m i) (l:=tl) (p:=fun x=>!(bif decide (x<0) then true else decide (x>=per))) (E0:=some false) (E1:=some true) (fun m i q e hi=>?_) (fun m=>?_) (fuel:=400) Zzq).trans (by cases tl.all _ <;> rfl)
   ·rw [Vq,Q9 hi,QjZ,Tn e];simp -implicitDefEqProofs only [Q0,QjU,Q2,Qu (show i<=1000 by omega)];cases (bif decide (q<0) then true else decide (q>=per)) <;> rfl
   ·rw [Vq,Ql,QjW]
  ·refine (KN (r:=fun m i=>Jy 400 (encI tl) per (some false) (fun _ _=>some true) m i) (l:=tl) (p:=fun x=>!(bif decide (x<0) then true else decide (x>=per))) (E0:=some false) (E1:=some true) (fun m i q e hi=>?_) (fun m=>?_) (fuel:=400) Zzq).trans (by cases tl.all _ <;> rfl)
   ·rw [Jy,ac,Q9 hi,QjZ,Tn e];unfold Tw;simp -implicitDefEqProofs only [Q0,QjU,Q2,Qu (show i<=1000 by omega),Q6 (x:=per-1) Zzq Zzq];by_cases a:q<0
    ·rw [show decide (q>=0)=false from decide_eq_false Zzq,show decide (q<0)=true from Qk6 a];rfl
    ·rw [show decide (q>=0)=true from Qk6 Zzq,show decide (q<0)=false from decide_eq_false a];by_cases h2:q>=per
     ·rw [show decide (q<=per-1)=false from decide_eq_false Zzq,show decide (q>=per)=true from Qk6 h2];rfl
     ·rw [show decide (q<=per-1)=true from Qk6 Zzq,show decide (q>=per)=false from decide_eq_false h2];rfl
   ·rw [Jy,ac,Ql,QjW]
omit p0 p1 hE hA hr in
theorem QaN {tl:List Int} (hg:Q7k per E A tl=true):tl.length=E.length/\(∀ x∈tl,0<=x/\x<per)/\∀ r∈A,chk per E.length r=true:=by
 unfold Q7k at hg;cases a:A.all (chk per E.length) with
 |false=>rw [a] at hg;cases hg
 |true=>
  rw [a,Qke,QjW] at hg;cases h2:(((tl.length:Nat):Int) != ((E.length:Nat):Int)) with
  |true=>rw [h2] at hg;cases hg
  |false=>
   rw [h2,QjW] at hg;have aj:((tl.length:Nat):Int)=((E.length:Nat):Int):=by simpa using h2
   refine ⟨by omega,fun x hx=>?_,Qkg.1 a⟩;have:=Qkg.1 hg x hx;simp only [Qkr,Bool.not_eq_true',Bool.or_eq_false_iff,decide_eq_false_iff_not] at this;omega
end
theorem Qb8 {w:List Int} {i:Nat} {v:Int}:(encI w).set i [Q4 v]=encI (w.set i v):=by
 unfold encI;rw [List.map_set]
theorem Qe3 {per:Int} {E A:LL} {l:List Int} (hl:l.length<=9223372036854775807) (hE:E.length<=48) (hp:E.length=0\/1<=per/\per<=300):∃ w:List Int,ST 400 per E A (encI l) some=some (encI w):=by
 unfold ST Mf;rw [Q0,show (bif decide ((0:Int)<=((List.length E:Nat):Int))&&decide (((List.length E:Nat):Int)<=((List.length E:Nat):Int)) then some () else none)=some () by rw [QU (by simp)],Q0,QjV,XS Zzq,Q0,List.length_replicate];have go:∀ (c i m j:Nat) (w:List Int),i+c=E.length->c<m->w.length=E.length->j<=l.length->∃ w',Ju 400 ((E.length:Nat):Int) per (encI l) (fun b d a f=>some a) m (i:Int) (encI w) (j:Int)=some (encI w'):=by
  intro c;induction c with
  |zero=>
   intro i m j w hi hm hw hj;obtain ⟨m,rfl⟩:∃ k,m=k+1:=⟨m-1,by omega⟩;exact ⟨w,by rw [Ju,show decide ((i:Int)<((E.length:Nat):Int))=false from decide_eq_false Zzq,QjW]⟩
  |succ c ih=>
   intro i m j w hi hm hw hj;obtain ⟨m,rfl⟩:∃ k,m=k+1:=⟨m-1,by omega⟩;obtain ⟨v,j',g,h,ac,e⟩:=Q9r 400 hl hj (m:=per) Zzq Zzq;have hg:(encI w)[i]? = some [Q4 w[i]]:=by
    rw [<- Qa];exact Tn (Qk0 Zzq)
   rw [Ju,show decide ((i:Int)<((E.length:Nat):Int))=true from Qk6 Zzq,QjZ,e,Q0,ZI Zzq (by rw [Jf];omega),Q0,QjV,hg,Q0,List.set_cons_zero,Qb8,Qu (show i<=1000 by omega)];exact ih (i+1) m j' _ Zzq Zzq (by rw [List.length_set];exact hw) ac
 have e:List.replicate E.length [D.int .i64 (0:Int)]=encI (List.replicate E.length 0):=by unfold encI;rw [List.map_replicate]
 rw [e];exact go E.length 0 400 0 _ Zzq Zzq (by simp) Zzq
end Go.Vx
namespace Go.Vx
variable {R:Type}
def K4 (n:Nat) (c:Int) (k0:Int->Bool->LL->oP R):Nat->Int->LL->oP R
 | 0,_,_=>none
 | m+1,a,b=>bif decide (a<c) then gb true (inB (b.length) a) () fun e=>gb true (b[a.toNat]?) [] fun d=>K4 n c k0 m (wJ (a+1)) (List.set b a.toNat (List.set d 0 (Q4 (-1:Int)))) else k0 a (decide (a<c)) b
def GH (n:Nat) (f:LL) (d:Int) (k0:Int->Bool->LL->oP R):Nat->Int->LL->oP R
 | 0,_,_=>none
 | m+1,a,b=>bif decide (a<d) then gb true (Q1 f a) [] fun c=>gb true (c[0]?) oF fun g=>gb true (c[1]?) oF fun i=>gb true (c[2]?) oF fun j=>gb true (c[3]?) oF fun k=>gb true (pIw g) 0 fun e=>gb true (inB (b.length) e) () fun l=>gb true (b[e.toNat]?) [] fun h=>GH n f d k0 m (wJ (a+1)) (List.set b e.toNat (List.set h 0 (Q4 a))) else k0 a (decide (a<d)) b
def YY (n:Nat) (a b:LL) (K:LL->oP R):oP R:= gb true (bif decide (0<=(a.length:Int))&&decide ((a.length:Int)<=(a.length:Int)) then some () else none) () fun e=>gb true (Ym (Int.toNat (a.length:Int)*8)) () fun u2=>K4 n ((List.length (List.replicate (Int.toNat (a.length:Int)) [Q4 0]):Nat):Int) (fun f g c=>GH n b (b.length:Int) (fun h i d=>K d) n 0 c) n 0 (List.replicate (Int.toNat (a.length:Int)) [Q4 0])
def XV (n:Nat) (c e:LL) (k0:Int->Bool->LL->LL->oP R):Nat->Int->LL->LL->oP R
 | 0,_,_,_=>none
 | m+1,a,d,b=>gb true (inB (b.length) a) () fun u=>gb true (b[a.toNat]?) [] fun h=>gb true (h[0]?) oF fun i=>gb true (Gx i) false fun f=>bif !f then gb true (inB (b.length) a) () fun v=>gb true (b[a.toNat]?) [] fun g=>gb true (Ym ((d.length+[[Q4 a]].length)*8)) () fun x=>gb true (Q1 c a) [] fun j=>gb true (j[0]?) oF fun k=>gb true (pIw k) 0 fun l=>bif decide (l>=0) then gb true (Q1 c a) [] fun o=>gb true (o[0]?) oF fun p=>gb true (pIw p) 0 fun q=>gb true (Q1 e q) [] fun r=>gb true (r[1]?) oF fun s=>gb true (pIw s) 0 fun t=>XV n c e k0 m t (d++[[Q4 a]]) (List.set b a.toNat (List.set g 0 (D.bool true))) else XV n c e k0 m a (d++[[Q4 a]]) (List.set b a.toNat (List.set g 0 (D.bool true))) else k0 a (!f) d b
def Z2 (n:Nat) (a0:Int) (a1:Bool) (c d e a:LL) (K:LL->LL->oP R):oP R:= XV n d e (fun g h b f=>gb true (Ym ((a.length+[[D.sl 1 b,D.bool a1]].length)*32)) () fun i=>K f (a++[[D.sl 1 b,D.bool a1]])) n a0 [] c

def Vw (n:Nat) (a:LL) (j:Bool) (b:LL) (k:Bool) (K:Int->oP R):oP R:= gb true (Q1 a 0) [] fun c=>gb true (c[0]?) oF fun d=>gb true (pIw d) 0 fun e=>gb true (Q1 b 0) [] fun f=>gb true (f[0]?) oF fun g=>gb true (pIw g) 0 fun h=>gb true (Jl n e h some) 0 fun i=>K i

def QZ (n:Nat) (b:Int) (k0:Int->Bool->LL->oP R):Nat->Int->LL->oP R
 | 0,_,_=>none
 | m+1,a,c=>gb (decide (a>b)) (inB (c.length) a) () fun z=>gb (decide (a>b)) (c[a.toNat]?) [] fun g=>gb (decide (a>b)) (g[0]?) oF fun l=>gb (decide (a>b)) (g[1]?) oF fun o=>gb (decide (a>b)) (inB (c.length) (wJ (a-1))) () fun aa=>gb (decide (a>b)) (c[(Int.toNat (wJ (a-1)))]?) [] fun h=>gb (decide (a>b)) (h[0]?) oF fun p=>gb (decide (a>b)) (h[1]?) oF fun q=>gb (decide (a>b)) (pSl 1 l) [] fun r=>gb (decide (a>b)) (Gx o) false fun s=>gb (decide (a>b)) (pSl 1 p) [] fun t=>gb (decide (a>b)) (Gx q) false fun u=>gb (decide (a>b)) (Vw n r s t u some) 0 fun i=>bif (bif decide (a>b) then (decide (i<0)) else false) then gb true (inB (c.length) (wJ (a-1))) () fun ab=>gb true (c[(Int.toNat (wJ (a-1)))]?) [] fun j=>gb true (j[0]?) oF fun d=>gb true (j[1]?) oF fun e=>gb true (inB (c.length) a) () fun ac=>gb true (c[a.toNat]?) [] fun k=>gb true (k[0]?) oF fun v=>gb true (k[1]?) oF fun x=>gb true (inB (c.length) a) () fun ad=>gb true (c[a.toNat]?) [] fun f=>gb true (inB (List.length (List.set c a.toNat (List.set (List.set f 0 d) 1 e))) (wJ (a-1))) () fun ae=>gb true ((List.set c a.toNat (List.set (List.set f 0 d) 1 e))[(Int.toNat (wJ (a-1)))]?) [] fun y=>QZ n b k0 m (wJ (a-1)) (List.set (List.set c a.toNat (List.set (List.set f 0 d) 1 e)) (Int.toNat (wJ (a-1))) (List.set (List.set y 0 v) 1 x)) else k0 a (bif decide (a>b) then (decide (i<0)) else false) c
def X2 (n:Nat) (b h2:Int) (k0:Int->Bool->LL->oP R):Nat->Int->LL->oP R
 | 0,_,_=>none
 | m+1,a,c=>bif decide (a<h2) then QZ n b (fun e f d=>X2 n b h2 k0 m (wJ (a+1)) d) n a c else k0 a (decide (a<h2)) c
def Xe (n:Nat) (a:LL) (a1 a2:Int) (K:LL->oP R):oP R:= X2 n a1 a2 (fun c d b=>K b) n (wJ (a1+1)) a

def Ys (n:Nat) (a h2 d:Int) (b:LL) (k0:LL->oP R):Nat->oP R
 | 0=>none
 | m+1=>bif (decide ((wJ (h2-a))<=12)) then gb true (Xe n b a h2 some) [] fun c=>gb true (G2 c (b.length)) () fun e=>k0 c else bif (d == 0) then none else bif !true then none else none
def XG (n:Nat) (a:LL) (a1 a2 b:Int) (K:LL->oP R):oP R:= Ys n a1 a2 b a (fun c=>K c) n

def QI (n:Nat) (a:LL) (K:LL->oP R):oP R:= gb true (Tf n (IntKind.wrap .u64 (a.length:Int)) some) 0 fun c=>gb true (XG n a 0 (a.length:Int) c some) [] fun b=>gb true (G2 b (a.length)) () fun u3=>K b

def J7 (n:Nat) (f:LL) (d:Int) (k0:Int->Bool->LL->oP R):Nat->Int->LL->oP R
 | 0,_,_=>none
 | m+1,a,b=>bif decide (a<d) then gb true (Q1 f a) [] fun c=>gb true (c[0]?) oF fun i=>gb true (c[1]?) oF fun g=>gb true (c[2]?) oF fun j=>gb true (c[3]?) oF fun k=>gb true (pIw g) 0 fun e=>gb true (inB (b.length) e) () fun l=>gb true (b[e.toNat]?) [] fun h=>J7 n f d k0 m (wJ (a+1)) (List.set b e.toNat (List.set h 0 (D.bool true))) else k0 a (decide (a<d)) b
def Ui (n:Nat) (b:Int) (d e c:LL) (k0:Int->Bool->LL->LL->oP R):Nat->Int->LL->LL->oP R
 | 0,_,_,_=>none
 | m+1,a,f,g=>bif decide (a<b) then gb true (inB (c.length) a) () fun p=>gb true (c[a.toNat]?) [] fun i=>gb true (i[0]?) oF fun j=>gb true (Gx j) false fun k=>bif !k then gb true (Z2 n a false f e d g Tu2) ([],[]) fun h=>Ui n b d e c k0 m (wJ (a+1)) h.1 h.2 else Ui n b d e c k0 m (wJ (a+1)) f g else k0 a (decide (a<b)) f g
def Ug (n:Nat) (c:Int) (d e:LL) (k0:Int->Bool->LL->LL->oP R):Nat->Int->LL->LL->oP R
 | 0,_,_,_=>none
 | m+1,a,b,f=>bif decide (a<c) then gb true (inB (b.length) a) () fun o=>gb true (b[a.toNat]?) [] fun h=>gb true (h[0]?) oF fun i=>gb true (Gx i) false fun j=>bif !j then gb true (Z2 n a true b e d f Tu2) ([],[]) fun g=>Ug n c d e k0 m (wJ (a+1)) g.1 g.2 else Ug n c d e k0 m (wJ (a+1)) b f else k0 a (decide (a<c)) b f
def X1 (n:Nat) (a b:LL) (K:LL->oP R):oP R:= gb true (YY n a b some) [] fun c=>gb true (bif decide (0<=(a.length:Int))&&decide ((a.length:Int)<=(a.length:Int)) then some () else none) () fun u2=>gb true (Ym (Int.toNat (a.length:Int)*1)) () fun u3=>J7 n b (b.length:Int) (fun i j f=>gb true (bif decide (0<=(a.length:Int))&&decide ((a.length:Int)<=(a.length:Int)) then some () else none) () fun k=>gb true (Ym (Int.toNat (a.length:Int)*1)) () fun l=>Ui n (a.length:Int) b c f (fun m o g h=>Ug n (a.length:Int) b c (fun p q r d=>gb true (QI n d some) [] fun e=>gb true (G2 e (d.length)) () fun s=>K e) n 0 g h) n 0 (List.replicate (Int.toNat (a.length:Int)) [D.bool false]) []) n 0 (List.replicate (Int.toNat (a.length:Int)) [D.bool false])

def NF (n:Nat) (b:Int) (a:LL) (k0:oP R) (k1:Int->Bool->oP R):Nat->Int->oP R
 | 0,_=>none
 | m+1,h2=>bif (decide (h2<(a.length:Int))) then gb true (Q1 a h2) [] fun c=>gb true (c[1]?) oF fun d=>gb true (pIw d) 0 fun e=>bif (e == b) then k0 else NF n b a k0 k1 m (wJ (h2+1)) else k1 h2 (decide (h2<(a.length:Int)))
def Q2W (n:Nat) (a:LL) (a1:Int) (K:Bool->oP R):oP R:= NF n a1 a (K true) (fun b c=>K false) n 0

def KI (n:Nat) (d:Int) (e:LL) (k0:Bool->LL->oP R):Nat->Int->LL->oP R
 | 0,_,_=>none
 | m+1,h2,a=>gb true (KT n e h2 Tu5) ((.bool false),(.bool false),(.bool false),(.bool false),false) fun b=>bif (!b.2.2.2.2) then k0 false a else gb true (pIw b.2.1) 0 fun k=>bif (k == d) then k0 true a else gb true (pIw b.2.1) 0 fun c=>gb true (Ym ((a.length+[[Q4 c]].length)*8)) () fun l=>KI n d e k0 m c (a++[[Q4 c]])
def Ha (n:Nat) (a:LL) (a1:Int) (K:LL->Bool->oP R):oP R:= KI n a1 a (fun b c=>K c b) n a1 [[Q4 a1]]

def HQ (n:Nat) (b:Int) (d:LL) (k0:Int->Bool->LL->oP R):Nat->Int->LL->oP R
 | 0,_,_=>none
 | m+1,h2,a=>bif decide (h2<b) then gb true (Q1 d h2) [] fun e=>gb true (e[0]?) oF fun f=>gb true (pIw f) 0 fun c=>gb true (inB (a.length) c) () fun h=>gb true (a[c.toNat]?) [] fun g=>HQ n b d k0 m (wJ (h2+1)) (List.set a c.toNat (List.set g 0 (D.bool true))) else k0 h2 (decide (h2<b)) a
def Tq (n:Nat) (b a:LL) (d:Bool) (K:LL->oP R):oP R:= HQ n (a.length:Int) a (fun e f c=>K c) n 0 b

def Gz (n:Nat) (c:Int) (d:LL) (k0:Int->Bool->LL->LL->oP R):Nat->Int->LL->LL->oP R
 | 0,_,_,_=>none
 | m+1,a,b,e=>bif decide (a<c) then gb true (Q2W n d a some) false fun h=>bif !h then gb true (inB (b.length) a) () fun l=>gb true (b[a.toNat]?) [] fun i=>gb true (Ha n d a Tu2) ([],false) fun f=>gb true (Tq n e f.1 f.2 some) [] fun g=>gb true (G2 g (e.length)) () fun o=>Gz n c d k0 m (wJ (a+1)) (List.set b a.toNat (List.set i 0 (D.bool true))) g else Gz n c d k0 m (wJ (a+1)) b e else k0 a (decide (a<c)) b e
def Kj (n:Nat) (d:Int) (e:LL) (k0:Int->Bool->LL->LL->oP R):Nat->Int->LL->LL->oP R
 | 0,_,_,_=>none
 | m+1,a,c,b=>bif decide (a<d) then gb true (inB (b.length) a) () fun p=>gb true (b[a.toNat]?) [] fun h=>gb true (h[0]?) oF fun i=>gb true (Gx i) false fun j=>bif !j then gb true (inB (c.length) a) () fun q=>gb true (c[a.toNat]?) [] fun k=>gb true (Ha n e a Tu2) ([],false) fun f=>gb true (Tq n b f.1 f.2 some) [] fun g=>gb true (G2 g (b.length)) () fun r=>Kj n d e k0 m (wJ (a+1)) (List.set c a.toNat (List.set k 0 (D.bool true))) g else Kj n d e k0 m (wJ (a+1)) c b else k0 a (decide (a<d)) c b
def GU (n:Nat) (b:Int) (f c:LL) (k0:Int->Bool->LL->oP R):Nat->Int->LL->oP R
 | 0,_,_=>none
 | m+1,a,d=>bif decide (a<b) then gb true (inB (c.length) a) () fun l=>gb true (c[a.toNat]?) [] fun g=>gb true (g[0]?) oF fun h=>gb true (Gx h) false fun i=>bif i then gb true (Ha n f a Tu2) ([],false) fun e=>gb true (Ym ((d.length+[[D.sl 1 e.1,D.bool e.2]].length)*32)) () fun o=>GU n b f c k0 m (wJ (a+1)) (d++[[D.sl 1 e.1,D.bool e.2]]) else GU n b f c k0 m (wJ (a+1)) d else k0 a (decide (a<b)) d
def WF (n:Nat) (a b:LL) (K:LL->oP R):oP R:= gb true (bif decide (0<=(a.length:Int))&&decide ((a.length:Int)<=(a.length:Int)) then some () else none) () fun g=>gb true (Ym (Int.toNat (a.length:Int)*1)) () fun u2=>gb true (bif decide (0<=(a.length:Int))&&decide ((a.length:Int)<=(a.length:Int)) then some () else none) () fun u3=>gb true (Ym (Int.toNat (a.length:Int)*1)) () fun h=>Gz n ((List.length (List.replicate (Int.toNat (a.length:Int)) [D.bool false]):Nat):Int) b (fun i j c e=>Kj n (c.length:Int) b (fun k l d m=>GU n (d.length:Int) b d (fun o p f=>K f) n 0 []) n 0 c e) n 0 (List.replicate (Int.toNat (a.length:Int)) [D.bool false]) (List.replicate (Int.toNat (a.length:Int)) [D.bool false])

end Go.Vx
namespace Go.Vx
def Ez (l:List Nat):LL:=l.map fun i:Nat=>[Q4 (i:Int)]
def AN (rs:List (List Nat × Bool)):LL:=rs.map fun r=>[D.sl 1 (Ez r.1),D.bool r.2]
def QhV (l:LL):List Nat:=l.map fun r=>match r with | [.int _ x]=>x.toNat | _=>0
def QeD (a:LL):List (List Nat × Bool):=a.map fun r=>match r with | [.sl _ l,.bool c]=>(QhV l,c) | _=>([],false)
def eqI:LL->LL->Bool
 |[],[]=>true
 |[.int .i64 x]::a,[.int .i64 y]::b=>decide (x=y)&&eqI a b
 |_,_=>false
def eqR:LL->LL->Bool
 |[],[]=>true
 |[.sl 1 l,.bool c]::a,[.sl 1 l',.bool c']::b=>eqI l l'&&(c == c'&&eqR a b)
 |_,_=>false
theorem QbD:∀ {a b:LL},eqI a b=true->a=b:=by
 intro a b;induction a,b using eqI.induct with
 |case1=>exact fun _=>rfl
 |case2 x a y b ih=>
  intro h;rw [eqI,Qkd,Qkp] at h;rw [h.1,ih h.2]
 |case3 a b c h2=>intro h;rw [eqI] at h <;> first | cases h | assumption
theorem Qbx:∀ {a b:LL},eqR a b=true->a=b:=by
 intro a b;induction a,b using eqR.induct with
 |case1=>exact fun _=>rfl
 |case2 l c a l' c' b ih=>
  intro h;rw [eqR,Qkd,Qkd,beq_iff_eq] at h;rw [QbD h.1,h.2.1,ih h.2.2]
 |case3 a b d h2=>intro h;rw [eqR] at h <;> first | cases h | assumption
def tix (T:List Tup) (i:Nat):Int:=match T.findIdx? fun t=>t.1 == i with
 |some j=>(j:Int)
 |none => -1
def Q4r:List (List Nat × Bool)->Nat
 |[]=>0
 |r::rs=>r.1.length+Q4r rs
def Nw (Ls:LL) (T:List Tup):Bool:=match X1 400 Ls (T.map tuR) some,WF 400 Ls (T.map tuR) some,YY 400 Ls (T.map tuR) some with
 |some a,some b,some t=>eqR a (AN (QeD a))&&(eqR b (AN (QeD a))&&(eqI t (encI ((List.range Ls.length).map (tix T)))&&((QeD a).all (fun r=>Nat.blt 0 r.1.length&&r.1.all fun i=>Nat.blt i Ls.length)&&Nat.ble (Q4r (QeD a)) Ls.length)))
 |_,_,_=>false
section
variable (x y z:List D) (lo hi lo' hi' lo'' hi'':Int)
theorem QgS:Nw [x] []=true/\Nw [x,y] []=true/\Nw [x,y,z] []=true:=⟨by kernel_rfl,by kernel_rfl,by kernel_rfl⟩
theorem Qgq:Nw [x] [(0,0,lo,hi)]=true:=by kernel_rfl
def u2:List Nat:=[0,1]
def u3:List Nat:=[0,1,2]
theorem QgI:(u2.all fun a=>u2.all fun b=>Nw [x,y] [(a,b,lo,hi)])=true:=by kernel_rfl
theorem QgG:(u3.all fun a=>u3.all fun b=>Nw [x,y,z] [(a,b,lo,hi)])=true:=by kernel_rfl
theorem QgZ:(u2.all fun a=>u2.all fun b=>u2.all fun a'=>u2.all fun b'=>(Nat.beq a a'||Nat.beq b b')||Nw [x,y] [(a,b,lo,hi),(a',b',lo',hi')])=true:=by kernel_rfl
theorem Qh9:(u3.all fun a=>u3.all fun b=>u3.all fun a'=>u3.all fun b'=>(Nat.beq a a'||Nat.beq b b')||Nw [x,y,z] [(a,b,lo,hi),(a',b',lo',hi')])=true:=by kernel_rfl
theorem Qgi:(u3.all fun a=>u3.all fun b=>u3.all fun a'=>u3.all fun b'=>(Nat.beq a a'||Nat.beq b b')||u3.all fun aj=>u3.all fun ac=>(Nat.beq a aj||Nat.beq b ac||Nat.beq a' aj||Nat.beq b' ac)||Nw [x,y,z] [(a,b,lo,hi),(a',b',lo',hi'),(aj,ac,lo'',hi'')])=true:=by kernel_rfl
end
theorem QaF {l:List Nat} {f:Nat->Nat->Bool} (h:(l.all fun a=>l.all fun b=>f a b)=true) {a b:Nat} (ha:a∈l) (hb:b∈l):f a b=true:=Qkg.1 (Qkg.1 h a ha) b hb
theorem QdM {a:Nat} (h:a<2):a∈u2:=by
 obtain rfl | rfl:a=0\/a=1:=by omega
 all_goals decide
theorem Q82 {a:Nat} (h:a<3):a∈u3:=by
 obtain rfl | rfl | rfl:a=0\/a=1\/a=2:=by omega
 all_goals decide
theorem Q7K {a b:Nat} (h:a≠b):Nat.beq a b=false:=Bool.eq_false_iff.2 fun e=>h (Nat.eq_of_beq_eq_true e)
theorem ne2 {a b a' b':Nat} {x:Bool} (h:(Nat.beq a a'||Nat.beq b b'||x)=true) (c:a≠a') (h2:b≠b'):x=true:=by
 simpa [Q7K c,Q7K h2] using h
theorem ne4 {a b a' b' c d c' d':Nat} {x:Bool} (h:(Nat.beq a a'||Nat.beq b b'||Nat.beq c c'||Nat.beq d d'||x)=true) (e:a≠a') (h2:b≠b') (f:c≠c') (g:d≠d'):x=true:=by
 simpa [Q7K e,Q7K h2,Q7K f,Q7K g] using h
theorem Qi3 {Ls:LL} {T:List Tup} (l0:1<=Ls.length) (l1:Ls.length<=3) (hb:∀ t∈T,t.1<Ls.length/\t.2.1<Ls.length) (c:(T.map (·.1)).Nodup) (d:(T.map (·.2.1)).Nodup):Nw Ls T=true:=by
 rcases Ls with _ | ⟨x,_ | ⟨y,_ | ⟨z,_ | ⟨w,r⟩⟩⟩⟩
 ·simp at l0
 ·rcases T with _ | ⟨⟨a,b,lo,hi⟩,_ | ⟨⟨a',b',lo',hi'⟩,T⟩⟩
  ·exact (QgS x x x).1
  ·obtain ⟨ha,e⟩:=hb _ (Qk4 ..);obtain rfl:a=0:=by simpa using ha
   obtain rfl:b=0:=by simpa using e
   exact Qgq x lo hi
  ·have f:=(hb _ (Qk4 ..)).1;have h2:=(hb _ (Qk7 _ (Qk4 ..))).1;simp at f h2 c;omega
 ·rcases T with _ | ⟨⟨a,b,lo,hi⟩,_ | ⟨⟨a',b',lo',hi'⟩,_ | ⟨⟨ao,an,lo'',hi''⟩,T⟩⟩⟩
  ·exact (QgS x y x).2.1
  ·obtain ⟨ha,hb⟩:=hb _ (Qk4 ..);exact QaF (QgI x y lo hi) (QdM ha) (QdM hb)
  ·obtain ⟨ha,e⟩:=hb _ (Qk4 ..);obtain ⟨aj,ac⟩:=hb _ (Qk7 _ (Qk4 ..));simp at c d;exact ne2 (QaF (QaF (QgZ x y lo hi lo' hi') (QdM ha) (QdM e)) (QdM aj) (QdM ac)) c d
  ·have f:=(hb _ (Qk4 ..)).1;have h2:=(hb _ (Qk7 _ (Qk4 ..))).1;have g:=(hb _ (Qk7 _ (Qk7 _ (Qk4 ..)))).1;simp at f h2 g c;omega
 ·rcases T with _ | ⟨⟨a,b,lo,hi⟩,_ | ⟨⟨a',b',lo',hi'⟩,_ | ⟨⟨ao,an,lo'',hi''⟩,_ | ⟨⟨i,j,k,l⟩,T⟩⟩⟩⟩
  ·exact (QgS x y z).2.2
  ·obtain ⟨ha,hb⟩:=hb _ (Qk4 ..);exact QaF (QgG x y z lo hi) (Q82 ha) (Q82 hb)
  ·obtain ⟨ha,e⟩:=hb _ (Qk4 ..);obtain ⟨aj,ac⟩:=hb _ (Qk7 _ (Qk4 ..));simp at c d;exact ne2 (QaF (QaF (Qh9 x y z lo hi lo' hi') (Q82 ha) (Q82 e)) (Q82 aj) (Q82 ac)) c d
  ·obtain ⟨ha,e⟩:=hb _ (Qk4 ..);obtain ⟨aj,ac⟩:=hb _ (Qk7 _ (Qk4 ..));obtain ⟨al,ak⟩:=hb _ (Qk7 _ (Qk7 _ (Qk4 ..)));simp at c d;have f:=ne2 (QaF (QaF (Qgi x y z lo hi lo' hi' lo'' hi'') (Q82 ha) (Q82 e)) (Q82 aj) (Q82 ac)) c.1.1 d.1.1;exact ne4 (QaF f (Q82 al) (Q82 ak)) c.1.2 d.1.2 c.2 d.2
  ·have f:=(hb _ (Qk4 ..)).1;have h2:=(hb _ (Qk7 _ (Qk4 ..))).1;have g:=(hb _ (Qk7 _ (Qk7 _ (Qk4 ..)))).1;have h:=(hb _ (Qk7 _ (Qk7 _ (Qk7 _ (Qk4 ..))))).1;simp at f h2 g h c;omega
 ·simp at l1
theorem Q65 {α:Type} {p:α->Bool}:∀ {l:List α},(l.find? p=none/\l.findIdx? p=none)\/∃ t j,l.find? p=some t/\l.findIdx? p=some j/\l[j]? = some t
 |[]=>.inl ⟨rfl,rfl⟩
 |a::l=>by
  rw [List.find?_cons,List.findIdx?_cons];cases ha:p a with
  |true=>exact .inr ⟨a,0,rfl,rfl,rfl⟩
  |false=>
   rcases Q65 (p:=p) (l:=l) with ⟨b,h2⟩ | ⟨t,j,b,h2,c⟩
   ·exact .inl ⟨b,by simp [h2]⟩
   ·exact .inr ⟨t,j+1,b,by simp [h2],c⟩
namespace Cx
variable {X:Cx} (h:X.OK)
include h
theorem Qh7:∃ rs:List (List Nat × Bool),X1 400 X.Ls (X.T.map tuR) some=some (AN rs)/\WF 400 X.Ls (X.T.map tuR) some=some (AN rs)/\YY 400 X.Ls (X.T.map tuR) some=some (encI ((List.range X.L).map (tix X.T)))/\(∀ r∈rs,1<=r.1.length/\∀ i∈r.1,i<X.Ls.length)/\Q4r rs<=3:=by
 have hc:=Qi3 h.l0 h.l1 (fun t ht=>⟨(h.tr t ht).1,(h.tr t ht).2.1⟩) h.fd h.td;have l1:=h.l1;unfold Nw at hc;cases e1:X1 400 X.Ls (X.T.map tuR) some with
 |none=>rw [e1] at hc;cases hc
 |some a=>
  cases e2:WF 400 X.Ls (X.T.map tuR) some with
  |none=>rw [e1,e2] at hc;cases hc
  |some b=>
   cases c:YY 400 X.Ls (X.T.map tuR) some with
   |none=>rw [e1,e2,c] at hc;cases hc
   |some t=>
    rw [e1,e2,c] at hc;simp only [Qkd] at hc;obtain ⟨c1,d,e,f,g⟩:=hc;refine ⟨QeD a,by rw [<- Qbx c1],by rw [Qbx d],by rw [QbD e];rfl,fun r hr=>?_,?_⟩
    ·have:=Qkg.1 f r hr;rw [Qkd] at this;exact ⟨Nat.le_of_ble_eq_true this.1,fun i hi=>Nat.le_of_ble_eq_true (Qkg.1 this.2 i hi)⟩
    ·have:=Nat.le_of_ble_eq_true g;omega
end Cx
end Go.Vx
namespace Go.Vx
variable {R:Type}
def XB (n:Nat) (d:Int) (e b:LL) (a1:Int) (K:Int->oP R):oP R:= gb true (Q1 e a1) [] fun a=>gb true (a[0]?) oF fun t=>gb true (a[1]?) oF fun f=>gb true (a[2]?) oF fun g=>gb true (a[3]?) oF fun c=>gb true (a[4]?) oF fun u=>gb true (a[5]?) oF fun v=>gb true (pIw c) 0 fun h=>gb true (pIw g) 0 fun i=>gb true (Q1 b i) [] fun j=>gb true (j[0]?) oF fun k=>gb true (pIw k) 0 fun l=>gb true (pIw f) 0 fun m=>gb true (Q1 b m) [] fun o=>gb true (o[0]?) oF fun p=>gb true (pIw p) 0 fun q=>gb true (pIw c) 0 fun r=>gb true (Hs n (wJ ((wJ (l-q))-r)) d some) 0 fun s=>K (wJ (h+s))
def Xy (n:Nat) (b:Int) (c d a:LL) (a1 a2:Int) (K:Int->oP R):oP R:= gb true (inB (a.length) a1) () fun i=>gb true (a[a1.toNat]?) [] fun e=>gb true (e[0]?) oF fun f=>gb true (pIw f) 0 fun g=>gb true (XB n b c d (wJ ((wJ ((wJ (2*g))-a1))+(wJ (2*a2)))) some) 0 fun h=>K h

def X9 (n:Nat) (a g:LL) (b:Int) (c d e f:LL) (h a1 a2:Int) (K:Int->Bool->oP R):oP R:= gb true (Q1 a a1) [] fun i=>gb true (i[3]?) oF fun j=>gb true (pSl 4 j) [] fun k=>bif (decide (a2<(wJ ((k.length:Int)-1)))) then gb true (inB (f.length) a1) () fun y=>gb true (f[a1.toNat]?) [] fun l=>gb true (l[0]?) oF fun m=>gb true (pIw m) 0 fun o=>gb true (XB n b c d (wJ ((wJ ((wJ ((wJ (2*o))-a1))+(wJ (2*a2))))+1)) some) 0 fun p=>K p true else gb true (Q1 e a1) [] fun q=>gb true (q[0]?) oF fun r=>gb true (pIw r) 0 fun s=>bif decide (s>=0) then gb true (Q1 e a1) [] fun t=>gb true (t[0]?) oF fun u=>gb true (pIw u) 0 fun v=>gb true (XB n b c d (wJ ((wJ ((wJ ((wJ (2*h))-(a.length:Int)))+(g.length:Int)))+v)) some) 0 fun x=>K x true else K 0 false

def LN (n:Nat) (b:Int) (a1:LL) (c d a:Int) (K:Int->oP R):oP R:= gb true (Q1 a1 d) [] fun e=>gb true (e[0]?) oF fun f=>gb true (pIw f) 0 fun g=>gb true (Q1 a1 c) [] fun h=>gb true (h[0]?) oF fun i=>gb true (pIw i) 0 fun j=>gb true (MJ n (wJ ((wJ (g-j))-a)) b some) 0 fun k=>K (wJ (a+k))

def Yb (n:Nat) (c h2 f g:Int) (d h:LL) (k0:Int->oP R) (k1:Int->Bool->oP R):Nat->Int->oP R
 | 0,_=>none
 | m+1,b=>bif (decide (b<(d.length:Int))) then gb true (Q1 d b) [] fun a=>gb true (a[0]?) oF fun i=>gb true (a[1]?) oF fun j=>gb true (a[2]?) oF fun k=>gb true (a[3]?) oF fun o=>gb true (a[4]?) oF fun p=>gb true (a[5]?) oF fun q=>gb true (pIw i) 0 fun e=>gb (e == c) (pIw j) 0 fun l=>gb (bif (e == c) then (l == h2) else false) (pIw k) 0 fun r=>bif (bif (bif (e == c) then (l == h2) else false) then (r == f) else false) then gb true (pIw i) 0 fun x=>gb true (pIw j) 0 fun s=>gb true (pIw k) 0 fun t=>gb true (pIw o) 0 fun u=>gb true (pIw p) 0 fun y=>gb true (pIw q) 0 fun z=>gb true (LN n g h s t u some) 0 fun v=>k0 v else Yb n c h2 f g d h k0 k1 m (wJ (b+1)) else k1 b (decide (b<(d.length:Int)))
def Yz (n:Nat) (a:Int) (b c:LL) (a1 a2 d:Int) (K:Int->oP R):oP R:= Yb n a1 a2 d a b c (fun e=>K e) (fun f g=>K 0) n 0

def XA (n:Nat) (b:LL) (c:Int) (d e:LL) (a1 a2:Int) (K:Int->oP R):oP R:= gb true (Z5 n b a1 some) 0 fun a=>gb true (Yz n c d e 1 (wJ (2*(wJ (a+a2)))) (wJ ((wJ (2*(wJ (a+a2))))+1)) some) 0 fun f=>K f

def YI (n:Nat) (b g:LL) (d:Int) (e f:LL) (a1 a2:Int) (K:Int->Bool->oP R):oP R:= gb true (Z5 n b a1 some) 0 fun a=>gb true (Q1 b a1) [] fun c=>gb true (c[3]?) oF fun h=>gb true (pSl 4 h) [] fun i=>bif (decide (a2<(wJ ((i.length:Int)-1)))) then gb true (Yz n d e f 2 (wJ ((wJ (2*(wJ (a+a2))))+1)) (wJ ((wJ (2*(wJ (a+a2))))+2)) some) 0 fun j=>K j true else gb true (KT n g a1 Tu5) ((.bool false),(.bool false),(.bool false),(.bool false),false) fun r6=>bif r6.2.2.2.2 then gb true (pIw r6.2.1) 0 fun o=>gb true (Z5 n b o some) 0 fun p=>gb true (Yz n d e f 4 (wJ ((wJ (2*(wJ (a+a2))))+1)) (wJ (2*p)) some) 0 fun q=>K q true else K 0 false

end Go.Vx
namespace Go.Vx
def tat (tl:List Int) (i:Int):Int:=tl.getD i.toNat 0
def dur (tl:List Int) (per f t mn:Int):Int:=mn+(tat tl t-tat tl f-mn) % per
def Le (tl:List Int) (per:Int):List D->Int
 |[_,.int _ f,.int _ t,.int _ mn,_,_]=>dur tl per f t mn
 |_=>0
def mt (kd f t:Int):List D->Bool
 |[.int _ ac,.int _ f',.int _ t',_,_,_]=>bif (bif ac == kd then f' == f else false) then t' == t else false
 |_=>false
namespace Cx
variable {X:Cx}
structure Gd (X:Cx) (per:Int) (Ch Sy A:LL) (tl:List Int):Prop where
 ok:X.OK
 ls:X.LsOK per Ch Sy
 p0:2<=per
 p1:per<=300
 act:∃ H,A=X.planned Ch Sy++H/\∀ r∈H,∃ a b w,r=Q81 a b w
 len:A.length<400
 tlen:tl.length=2*X.N
 tr:∀ x∈tl,0<=x/\x<per
 ck:∀ r∈A,chk per (2*X.N) r=true
theorem Q6C {per:Int} {J:List Tup} {a:Nat}:∀ {c b:Nat} {H:LL},X.hdw per J a c b=some H->∀ r∈H,∃ a b w,r=Q81 a b w
 |0,b,H,e=>by cases e;exact fun r hr=>nomatch hr
 |c+1,b,H,e=>by
  rw [hdw] at e;cases ew:X.WV per J a b with
  |none=>rw [ew] at e;cases e
  |some W=>
   rw [ew] at e;cases eh:X.hdw per J a c (b+1) with
   |none=>simp only [eh] at e;cases e
   |some H'=>
    simp only [eh] at e;cases e;intro r hr;rcases Qk3.1 hr with hr | hr
    ·obtain ⟨w,_,rfl⟩:=Qkq.1 hr;exact ⟨_,_,_,rfl⟩
    ·exact Q6C eh r hr
theorem Q4v {per:Int} {J:List Tup}:∀ {c a:Nat} {H:LL},X.hdws per J c a=some H->∀ r∈H,∃ a b w,r=Q81 a b w
 |0,b,H,e=>by cases e;exact fun r hr=>nomatch hr
 |c+1,a,H,e=>by
  rw [hdws] at e;cases ew:X.hdw per J a c (a+1) with
  |none=>rw [ew] at e;cases e
  |some W=>
   rw [ew] at e;cases eh:X.hdws per J c (a+1) with
   |none=>simp only [eh] at e;cases e
   |some H'=>
    simp only [eh] at e;cases e;intro r hr;rcases Qk3.1 hr with hr | hr
    ·exact Q6C ew r hr
    ·exact Q4v eh r hr
theorem QbZ {i:Nat} {r:List D}:∀ {K:Nat},r∈X.pl i K->∃ k,k<K/\(r=X.aR i k\/k<X.nr i-1/\r=X.aD i k)
 |0,h=>nomatch h
 |K+1,h=>by
  rw [pl] at h;rcases Qk3.1 h with h | h
  ·rcases Qk3.1 h with h | h
   ·obtain ⟨k,hk,h⟩:=QbZ h;exact ⟨k,by omega,h⟩
   ·exact ⟨K,by omega,.inl (Qk9.1 h)⟩
  ·split at h
   ·exact ⟨K,by omega,.inr ⟨by assumption,Qk9.1 h⟩⟩
   ·nomatch h
theorem Q9s {r:List D}:∀ {L:Nat},r∈X.pls L->∃ i k,i<L/\k<X.nr i/\(r=X.aR i k\/k<X.nr i-1/\r=X.aD i k)
 |0,h=>nomatch h
 |L+1,h=>by
  rw [pls] at h;rcases Qk3.1 h with h | h
  ·obtain ⟨i,k,hi,h⟩:=Q9s h;exact ⟨i,k,by omega,h⟩
  ·obtain ⟨k,hk,h⟩:=QbZ h;exact ⟨L,k,by omega,hk,h⟩
variable {per:Int} {Ch Sy A:LL} {tl:List Int}
theorem Q2w (h:X.OK) (hl:X.LsOK per Ch Sy) {H:LL} (hH:∀ r∈H,∃ a b w,r=Q81 a b w) {r:List D} (hr:r∈X.planned Ch Sy++H):(∃ i k,i<X.Ls.length/\k<X.nr i/\(r=X.aR i k\/k<X.nr i-1/\r=X.aD i k))\/(∃ t∈X.T,r=X.tuE t)\/∃ kd f t mn mx w:Int,(kd=3\/kd=5\/kd=6)/\r=[Q4 kd,Q4 f,Q4 t,Q4 mn,Q4 mx,Q4 w]:=by
 rcases Qk3.1 hr with hr | hr
 ·rcases Qk3.1 hr with hr | hr
  ·rcases Qk3.1 hr with hr | hr
   ·rcases Qk3.1 hr with hr | hr
    ·exact .inl (Q9s hr)
    ·obtain ⟨row,ac,rfl⟩:=Qkq.1 hr;obtain ⟨f,fr,t,tr,mn,mx,w,rfl,_⟩:=hl.ch row ac;exact .inr (.inr ⟨3,_,_,mn,mx,w,.inl rfl,rfl⟩)
   ·obtain ⟨t,ht,rfl⟩:=Qkq.1 hr;exact .inr (.inl ⟨t,ht,rfl⟩)
  ·obtain ⟨row,ac,rfl⟩:=Qkq.1 hr;obtain ⟨o,rfl,_⟩:=hl.sy row ac;exact .inr (.inr ⟨5,_,_,o,o,0,.inr (.inl rfl),rfl⟩)
 ·obtain ⟨a,b,w,rfl⟩:=hH r hr;exact .inr (.inr ⟨6,_,_,w.1,w.2,0,.inr (.inr rfl),rfl⟩)
theorem Qc0 (h:X.OK) (hl:X.LsOK per Ch Sy) {H:LL} (hH:∀ r∈H,∃ a b w,r=Q81 a b w) {r:List D} (hr:r∈X.planned Ch Sy++H):R6 r:=by
 rcases Q2w h hl hH hr with ⟨i,k,_,_,rfl | ⟨_,rfl⟩⟩ | ⟨t,_,rfl⟩ | ⟨kd,f,t,mn,mx,w,_,rfl⟩
 ·exact ⟨_,_,_,_,_,_,rfl⟩
 ·exact ⟨_,_,_,_,_,_,rfl⟩
 ·exact ⟨_,_,_,_,_,_,rfl⟩
 ·exact ⟨_,_,_,_,_,_,rfl⟩
variable (g:X.Gd per Ch Sy A tl)
include g
theorem Gd.r6 {r:List D} (hr:r∈A):R6 r:=by
 obtain ⟨H,rfl,hH⟩:=g.act;exact Qc0 g.ok g.ls hH hr
theorem Gd.tat {i:Int} (a:0<=i) (b:i<(2*X.N:Nat)):Q1 (encI tl) i=some [Q4 (Vx.tat tl i)]/\0<=Vx.tat tl i/\Vx.tat tl i<per:=by
 have hl:=g.tlen;have e:tl[i.toNat]? = some (Vx.tat tl i):=by
  unfold Vx.tat;rw [Qk2,Qk0 Zzq];rfl
 have:=Tn e;rw [show ((i.toNat:Nat):Int)=i by omega] at this;exact ⟨this,g.tr _ (QjY e)⟩
theorem Gd.row {r:List D} (hr:r∈A):∃ kd f t mn mx w:Int,r=[Q4 kd,Q4 f,Q4 t,Q4 mn,Q4 mx,Q4 w]/\(0<=f/\f<(2*X.N:Nat))/\(0<=t/\t<(2*X.N:Nat)) /\ -65536<=mn/\mn<=65536:=by
 obtain ⟨kd,f,t,mn,mx,w,rfl⟩:=g.r6 hr;have:=QcY (g.ck _ hr);exact ⟨kd,f,t,mn,mx,w,rfl,by omega,by omega,by omega⟩
theorem Gd.dur_rng {r:List D} (hr:r∈A) : -65536<=Le tl per r/\Le tl per r<=66000:=by
 obtain ⟨kd,f,t,mn,mx,w,rfl,hf,ht,a,h2⟩:=g.row hr;have p0:=g.p0;have p1:=g.p1;have:=Qkj (Vx.tat tl t-Vx.tat tl f-mn) (show per≠0 by omega);have:=Qkh (Vx.tat tl t-Vx.tat tl f-mn) (show 0<per by omega);simp only [Le,dur];omega
theorem Gd.durP {R:Type} {a:Nat} {r:List D} (e:A[a]? = some r) (K:Int->oP R):XB 400 per A (encI tl) (a:Int) K=K (Le tl per r):=by
 have hr:=QjY e;have p0:=g.p0;have p1:=g.p1;obtain ⟨kd,f,t,mn,mx,w,rfl,hf,ht,b,h2⟩:=g.row hr;have tf:=g.tat hf.1 hf.2;have tt:=g.tat ht.1 ht.2;have:=Qkj (Vx.tat tl t-Vx.tat tl f-mn) (show per≠0 by omega);have:=Qkh (Vx.tat tl t-Vx.tat tl f-mn) (show 0<per by omega);unfold XB;rw [Qa,e];simp -implicitDefEqProofs only [Q0,QjU,QjX,Q2,tf.1,tt.1,Q6 (x:=Vx.tat tl t-Vx.tat tl f) Zzq Zzq,Q6 (x:=Vx.tat tl t-Vx.tat tl f-mn) Zzq Zzq,QfQ (n:=400) (t:=per) (x:=Vx.tat tl t-Vx.tat tl f-mn) Zzq Zzq Zzq Zzq,Q6 (x:=mn+(Vx.tat tl t-Vx.tat tl f-mn) % per) Zzq Zzq];rfl
theorem Gd.lenP {R:Type} {kd f t:Int} {r:List D} (hr:r∈A) (hm:mt kd f t r=true) (hu:∀ r'∈A,mt kd f t r'=true->r'=r) (K:Int->oP R):Yz 400 per A (encI tl) kd f t K=K (Le tl per r):=by
 have hl:=g.len;have p0:=g.p0;have p1:=g.p1;unfold Yz;refine (Q7c (r:=fun m i=>Yb 400 kd f t per A (encI tl) (fun a=>K a) (fun b c=>K 0) m i) (l:=A) (p:=mt kd f t) (F:=fun r=>K (Le tl per r)) (E:=K 0) (fun m i q e hi=>?_) (fun m=>?_) (fuel:=400) hl).trans ?_
 ·obtain ⟨ao,f',t',mn,mx,w,rfl,hf,ht,d,h2⟩:=g.row (QjY e);have tf:=g.tat hf.1 hf.2;have tt:=g.tat ht.1 ht.2;have:=Qkj (Vx.tat tl t'-Vx.tat tl f'-mn) (show per≠0 by omega);have:=Qkh (Vx.tat tl t'-Vx.tat tl f'-mn) (show 0<per by omega);rw [Yb,Q9 hi,QjZ,Qa,e];unfold LN;simp -implicitDefEqProofs only [Q0,QjU,QjX,Q2,tf.1,tt.1,Q6 (x:=Vx.tat tl t'-Vx.tat tl f') Zzq Zzq,Q6 (x:=Vx.tat tl t'-Vx.tat tl f'-mn) Zzq Zzq,QfK (n:=400) (t:=per) (x:=Vx.tat tl t'-Vx.tat tl f'-mn) Zzq Zzq Zzq Zzq,Q6 (x:=mn+(Vx.tat tl t'-Vx.tat tl f'-mn) % per) Zzq Zzq,Qu (show i<=1000 by omega),mt,Le,dur]
 ·rw [Yb,Ql,QjW]
 ·cases e:A.find? (mt kd f t) with
  |none=>exact absurd hm (by simpa using List.find?_eq_none.1 e r hr)
  |some q=>
   rw [hu q (Qkn e) (List.find?_some e)]
end Cx
theorem P3 {kd f t ac f' t' mn mx w:Int}:mt kd f t [Q4 ac,Q4 f',Q4 t',Q4 mn,Q4 mx,Q4 w]=true↔ac=kd/\f'=f/\t'=t:=by
 simp only [mt,Qkl,Qkd,beq_iff_eq,and_assoc]
namespace Cx
variable {X:Cx} {per:Int} {Ch Sy A:LL} {tl:List Int}
theorem Qbz {i:Nat} (hn:X.nr i=1\/X.nr i=2):(X.nr i=1/\X.pl i (X.nr i)=[X.aR i 0])\/(X.nr i=2/\X.pl i (X.nr i)=[X.aR i 0,X.aD i 0,X.aR i 1]):=by
 rcases hn with hn | hn
 ·exact .inl ⟨hn,by rw [hn];simp [pl,hn]⟩
 ·exact .inr ⟨hn,by rw [hn];simp [pl,hn]⟩
theorem Q9E {i j:Nat} (hj:j<(X.pl i (X.nr i)).length):∀ {L:Nat},i<L->(X.pls L)[(X.pls i).length+j]? = (X.pl i (X.nr i))[j]?
 |0,h=>by omega
 |L+1,h=>by
  rw [pls];by_cases hi:i=L
  ·subst hi;rw [List.getElem?_append_right Zzq,Nat.add_sub_cancel_left]
  ·have ih:=Q9E hj (L:=L) Zzq;have ac:(X.pls i).length+j<(X.pls L).length:=by
    rw [Qk0 hj] at ih;exact (Qkb.1 ih).1
   rw [List.getElem?_append_left ac,ih]
variable (h:X.OK)
include h
theorem FY {i:Nat} (hi:i<=X.Ls.length):(X.pls i).length+i=2*base X.nr i:=by
 induction i with
 |zero=>rfl
 |succ i ih=>
  have ih:=ih Zzq;rw [pls,List.length_append,base];rcases Qbz (Gg h (i:=i) Zzq).2.1 with ⟨a,h2⟩ | ⟨a,h2⟩
  ·rw [h2,a];simp;omega
  ·rw [h2,a];simp;omega
omit h
variable (g:X.Gd per Ch Sy A tl)
include g
theorem Gd.runAt {i k:Nat} (hi:i<X.Ls.length) (hk:k<X.nr i):A[2*base X.nr i-i+2*k]? = some (X.aR i k)/\(k<X.nr i-1->A[2*base X.nr i-i+2*k+1]? = some (X.aD i k)):=by
 obtain ⟨H,rfl,_⟩:=g.act;have hl:=FY g.ok (i:=i) Zzq;have a:2*base X.nr i-i=(X.pls i).length:=by omega
 have at':∀ j r,(X.pl i (X.nr i))[j]? = some r->(X.planned Ch Sy++H)[2*base X.nr i-i+j]? = some r:=fun j r e=>by
  have hj:=(Qkb.1 e).1;have e2:=Q9E hj (L:=X.L) hi;rw [e] at e2;have ac:=(Qkb.1 e2).1;unfold planned;rw [a,Qk5,Qk5,Qk5,List.getElem?_append_left ac,e2]
 rcases Qbz (Gg g.ok hi).2.1 with ⟨b,h2⟩ | ⟨b,h2⟩
 ·obtain rfl:k=0:=by omega
  exact ⟨at' 0 _ (by rw [h2];rfl),fun h=>by omega⟩
 ·obtain rfl | rfl:k=0\/k=1:=by omega
  ·exact ⟨at' 0 _ (by rw [h2];rfl),fun _=>at' 1 _ (by rw [h2];rfl)⟩
  ·exact ⟨at' 2 _ (by rw [h2];rfl),fun h=>by omega⟩
theorem Gd.turnAt {j:Nat} {t:Tup} (e:X.T[j]? = some t):A[2*X.N-X.L+Ch.length+j]? = some (X.tuE t):=by
 obtain ⟨H,rfl,_⟩:=g.act;have hl:=FY g.ok (i:=X.L) (Qkc _);have a:2*X.N-X.L+Ch.length=(X.pls X.L++Ch.map X.chE).length:=by rw [List.length_append,Qk1];unfold N;omega
 have hj:=(Qkb.1 e).1;unfold planned;rw [a,Qk5,Qk5,List.getElem?_append_right Zzq,Nat.add_sub_cancel_left,List.getElem?_append_left (by simpa using hj),Qki,e];rfl
def runV (X:Cx) (per:Int) (tl:List Int) (i k:Nat):Int:=Le tl per (X.aR i k)
def gapV (X:Cx) (per:Int) (tl:List Int) (i k:Nat):Int × Bool:=if k<X.nr i-1 then (Le tl per (X.aD i k),true) else match X.tn i with
 |some t=>(Le tl per (X.tuE t),true)
 |none=>(0,false)
theorem Gd.run_mem {i k:Nat} (hi:i<X.Ls.length) (hk:k<X.nr i):X.aR i k∈A:=QjY (g.runAt hi hk).1
theorem Gd.turn_mem {t:Tup} (ht:t∈X.T):X.tuE t∈A:=by
 obtain ⟨j,e⟩:=List.getElem?_of_mem ht;exact QjY (g.turnAt e)
theorem Gd.runV_rng {i k:Nat} (hi:i<X.Ls.length) (hk:k<X.nr i) : -65536<=X.runV per tl i k/\X.runV per tl i k<=66000:=g.dur_rng (g.run_mem hi hk)
theorem Gd.gapV_rng {i k:Nat} (hi:i<X.Ls.length) (hk:k<X.nr i) : -65536<=(X.gapV per tl i k).1/\(X.gapV per tl i k).1<=66000:=by
 unfold gapV;split
 ·exact g.dur_rng (QjY ((g.runAt hi hk).2 (by assumption)))
 ·cases e:X.tn i with
  |none=>simp
  |some t=>exact g.dur_rng (g.turn_mem (Q3k e).1)
variable {R:Type}
theorem Gd.runP {i k:Nat} (hi:i<X.Ls.length) (hk:k<X.nr i) (K:Int->oP R):Xy 400 per A (encI tl) (X.fst X.L) (i:Int) (k:Int) K=K (X.runV per tl i k):=by
 have hb:=Ya g.ok (i:=i) Zzq;have hl:=FY g.ok (i:=i) Zzq;have hn:=(Gg g.ok hi).2.1;have l1:=g.ok.l1;have e:=Q70 (X:=X) (i:=i) (L:=X.L) hi;rw [Qa] at e;have el:(X.fst X.L).length=X.Ls.length:=by simp [fst,encI,L]
 have hx:wJ (wJ (((2*base X.nr i:Nat):Int)-(i:Int))+((2*k:Nat):Int))=((2*base X.nr i-i+2*k:Nat):Int):=by
  rw [Q6 (x:=((2*base X.nr i:Nat):Int)-(i:Int)) Zzq Zzq,Q6 Zzq Zzq];omega
 unfold Xy;rw [ZI Zzq Zzq,Q0,QjV,e];simp -implicitDefEqProofs only [Q0,QjU,Q2,Si (a:=base X.nr i) Zzq,Si (a:=k) Zzq,hx,g.durP (g.runAt hi hk).1];rfl
theorem Gd.runR {i k:Nat} (hi:i<X.Ls.length) (hk:k<X.nr i) (K:Int->oP R):XA 400 X.Ls per A (encI tl) (i:Int) (k:Int) K=K (X.runV per tl i k):=by
 have hb:=Ya g.ok (i:=i) Zzq;have hn:=(Gg g.ok hi).2.1;unfold XA;rw [EU g.ok Zzq,Q0,Q8U Zzq,Si Zzq,Q9b Zzq,g.lenP (g.run_mem hi hk) (P3.2 ⟨rfl,rfl,rfl⟩) (fun r hr hm=>?_),Q0]
 ·rfl
 obtain ⟨H,rfl,hH⟩:=g.act;rcases Q2w g.ok g.ls hH hr with ⟨i',k',aj,ac,rfl | ⟨_,rfl⟩⟩ | ⟨t,_,rfl⟩ | ⟨kd,f,t,mn,mx,w,ak,rfl⟩
 ·obtain ⟨_,a,_⟩:=P3.1 hm;obtain ⟨rfl,rfl⟩:=Aa (nr:=X.nr) ac hk Zzq;rfl
 ·have:=(P3.1 hm).1;omega
 ·have:=(P3.1 hm).1;omega
 ·have:=(P3.1 hm).1;omega
theorem Gd.gapP {i k:Nat} (hi:i<X.Ls.length) (hk:k<X.nr i) (K:Int->Bool->oP R):X9 400 X.Ls Ch per A (encI tl) (encI ((List.range X.L).map (tix X.T))) (X.fst X.L) ((X.N:Nat):Int) (i:Int) (k:Int) K=K (X.gapV per tl i k).1 (X.gapV per tl i k).2:=by
 have hb:=Ya g.ok (i:=i) Zzq;have hN:X.N<=6:=base_le g.ok;have hl:=FY g.ok (i:=i) Zzq;have ac:=FY g.ok (i:=X.L) (Qkc _);have hn:=(Gg g.ok hi).2.1;have l1:=g.ok.l1;have chl:=g.ls.chl;have al:=g.ok.tl;have hw:wJ (((List.length (Kr X.Ls i):Nat):Int)-1)=((X.nr i-1:Nat):Int):=JE (k:=X.nr i) Zzq Zzq;unfold X9 gapV;rw [Qa,(Gg g.ok hi).1];simp -implicitDefEqProofs only [Q0,QjU,QjX,QA,hw];by_cases b:k<X.nr i-1
 ·have e:=Q70 (X:=X) (i:=i) (L:=X.L) hi;rw [Qa] at e;have el:(X.fst X.L).length=X.Ls.length:=by simp [fst,encI,L]
  have hx:wJ (wJ (wJ (((2*base X.nr i:Nat):Int)-(i:Int))+((2*k:Nat):Int))+1)=((2*base X.nr i-i+2*k+1:Nat):Int):=by
   rw [Q6 (x:=((2*base X.nr i:Nat):Int)-(i:Int)) Zzq Zzq,Q6 (x:=((2*base X.nr i:Nat):Int)-(i:Int)+((2*k:Nat):Int)) Zzq Zzq,Q6 Zzq Zzq];omega
  rw [Q9 b,QjZ,if_pos b,ZI Zzq Zzq,Q0,QjV,e];simp -implicitDefEqProofs only [Q0,QjU,Q2,Si (a:=base X.nr i) Zzq,Si (a:=k) Zzq,hx,g.durP ((g.runAt hi hk).2 b)]
 ·rw [show decide ((k:Int)<((X.nr i-1:Nat):Int))=false from decide_eq_false Zzq,QjW,if_neg b];have et:Q1 (encI ((List.range X.L).map (tix X.T))) (i:Int)=some [Q4 (tix X.T i)]:=Tn (by simp [show i<X.L from hi]);rw [et];simp -implicitDefEqProofs only [Q0,QjU,Q2];unfold tix tn;rcases Q65 (l:=X.T) (p:=fun t=>t.1 == i) with ⟨c,h2⟩ | ⟨t,j,c,h2,d⟩
  ·simp only [c,h2];rfl
  ·have aj:=(Qkb.1 d).1;simp only [c,h2];have hx:wJ (wJ (wJ (((2*X.N:Nat):Int)-((List.length X.Ls:Nat):Int))+((List.length Ch:Nat):Int))+(j:Int))=((2*X.N-X.L+Ch.length+j:Nat):Int):=by
    unfold L at ac ⊢;unfold N at hN ⊢;unfold L at hN ⊢;rw [Q6 (x:=((2*base X.nr X.Ls.length:Nat):Int)-((List.length X.Ls:Nat):Int)) Zzq Zzq,Q6 (x:=((2*base X.nr X.Ls.length:Nat):Int)-((List.length X.Ls:Nat):Int)+((List.length Ch:Nat):Int)) Zzq Zzq,Q6 Zzq Zzq];omega
   rw [show decide ((j:Int)>=0)=true from Qk6 Zzq,QjZ,Si (a:=X.N) Zzq,hx,g.durP (g.turnAt d),Q0]
theorem Gd.gapR {i k:Nat} (hi:i<X.Ls.length) (hk:k<X.nr i) (K:Int->Bool->oP R):YI 400 X.Ls (X.T.map tuR) per A (encI tl) (i:Int) (k:Int) K=K (X.gapV per tl i k).1 (X.gapV per tl i k).2:=by
 have hb:=Ya g.ok (i:=i) Zzq;have hn:=(Gg g.ok hi).2.1;have hw:wJ (((List.length (Kr X.Ls i):Nat):Int)-1)=((X.nr i-1:Nat):Int):=JE (k:=X.nr i) Zzq Zzq;unfold YI gapV;rw [EU g.ok Zzq,Qa,(Gg g.ok hi).1];simp -implicitDefEqProofs only [Q0,QjU,QjX,QA,hw,Q8U (a:=base X.nr i) (b:=k) Zzq,Si (a:=base X.nr i+k) Zzq,Q9b (a:=2*(base X.nr i+k)) Zzq,QeO (a:=2*(base X.nr i+k)) Zzq];by_cases c:k<X.nr i-1
 ·rw [Q9 c,QjZ,if_pos c,show 2*(base X.nr i+k)+2=2*(base X.nr i+k+1) by omega,g.lenP (QjY ((g.runAt hi hk).2 c)) (P3.2 ⟨rfl,rfl,rfl⟩) (fun r hr hm=>?_),Q0];obtain ⟨H,rfl,hH⟩:=g.act;rcases Q2w g.ok g.ls hH hr with ⟨i',k',aj,ac,rfl | ⟨_,rfl⟩⟩ | ⟨t,_,rfl⟩ | ⟨kd,f,t,mn,mx,w,ak,rfl⟩
  ·have:=(P3.1 hm).1;omega
  ·obtain ⟨_,d,_⟩:=P3.1 hm;obtain ⟨rfl,rfl⟩:=Aa (nr:=X.nr) ac hk Zzq;rfl
  ·have:=(P3.1 hm).1;omega
  ·have:=(P3.1 hm).1;omega
 ·rw [show decide ((k:Int)<((X.nr i-1:Nat):Int))=false from decide_eq_false Zzq,QjW,if_neg c,QaK g.ok];cases ht:X.tn i with
  |none=>rfl
  |some t=>
   obtain ⟨t1,t2⟩:=Q3k ht;have aq:t.2.1<X.Ls.length:=(g.ok.tr _ t1).2.1;have h:=Ya g.ok (i:=t.2.1) Zzq;simp -implicitDefEqProofs only [Q0,QjZ,Q2,EU g.ok (show t.2.1<=X.Ls.length by omega),Si (a:=base X.nr t.2.1) Zzq];rw [g.lenP (kd:=4) (f:=((2*(base X.nr i+k)+1:Nat):Int)) (t:=((2*base X.nr t.2.1:Nat):Int)) (g.turn_mem t1) (P3.2 ⟨rfl,by rw [t2];omega,rfl⟩) (fun r hr hm=>?_),Q0];obtain ⟨H,rfl,hH⟩:=g.act;rcases Q2w g.ok g.ls hH hr with ⟨i',k',aj,ac,rfl | ⟨_,rfl⟩⟩ | ⟨u,hu,rfl⟩ | ⟨kd,f,t,mn,mx,w,ak,rfl⟩
   ·have:=(P3.1 hm).1;omega
   ·have:=(P3.1 hm).1;omega
   ·obtain ⟨_,d,_⟩:=P3.1 hm;have e:u.1<X.Ls.length:=(g.ok.tr _ hu).1;have nu:=(Gg g.ok e).2.1;obtain ⟨h2,j⟩:=Aa (nr:=X.nr) (i:=u.1) (k:=X.nr u.1-1) (i':=i) (k':=k) Zzq hk Zzq;rw [Q2s g.ok.fd hu t1 (by rw [h2,t2])]
   ·have:=(P3.1 hm).1;omega
end Cx

end Go.Vx
namespace Go.Vx
variable {R:Type}
def XP (n:Nat) (b c:Int) (d h i:LL) (e:Int) (f g j:LL) (k:Int) (k0:Int->Int->Bool->oP R):Nat->Int->Int->oP R
 | 0,_,_=>none
 | m+1,l,a=>bif decide (a<c) then gb true (X9 n h i e f g j d k b a Tu2) (0,false) fun q=>gb true (Xy n e f g d b a some) 0 fun r=>XP n b c d h i e f g j k k0 m (wJ (l+(wJ (r+q.1)))) (wJ (a+1)) else k0 l a (decide (a<c))
def Xg (n:Nat) (h2:LL) (b:Int) (d c e:LL) (f:Int) (g h i:LL) (j:Int) (k0:Int->Int->Bool->oP R):Nat->Int->Int->oP R
 | 0,_,_=>none
 | m+1,k,a=>bif decide (a<b) then gb true (Q1 h2 a) [] fun o=>gb true (o[0]?) oF fun p=>gb true (pIw p) 0 fun l=>gb true (Q1 c l) [] fun q=>gb true (q[3]?) oF fun r=>gb true (pSl 4 r) [] fun s=>XP n l (s.length:Int) d c e f g h i j (fun t u v=>Xg n h2 b d c e f g h i j k0 m t (wJ (a+1))) n k 0 else k0 k a (decide (a<b))
def Wd (n:Nat) (c d:LL) (a:Int) (e f g h:LL) (i:Int) (b:LL) (j:Bool) (K:Int->oP R):oP R:= bif !j then K 0 else Xg n b (b.length:Int) h c d a e f g i (fun k l m=>gb true (nz a) () fun o=>K (wJ (Int.tdiv k a))) n 0 0
def Yn (n:Nat) (b c:Int) (d e i:LL) (f:Int) (g h:LL) (k0:Int->Int->Bool->oP R):Nat->Int->Int->oP R
 | 0,_,_=>none
 | m+1,j,a=>bif decide (a<c) then gb true (Q1 d b) [] fun k=>gb true (k[0]?) oF fun l=>gb true (pIw l) 0 fun o=>gb true (YI n e i f g h o a Tu2) (0,false) fun r=>gb true (Q1 d b) [] fun s=>gb true (s[0]?) oF fun t=>gb true (pIw t) 0 fun u=>gb true (XA n e f g h u a some) 0 fun v=>Yn n b c d e i f g h k0 m (wJ (j+(wJ (v+r.1)))) (wJ (a+1)) else k0 j a (decide (a<c))
def Y2 (n:Nat) (h2:Int) (b c d:LL) (e:Int) (f g:LL) (k0:Int->Int->Bool->oP R):Nat->Int->Int->oP R
 | 0,_,_=>none
 | m+1,h,a=>bif decide (a<h2) then gb true (Q1 b a) [] fun i=>gb true (i[0]?) oF fun j=>gb true (pIw j) 0 fun k=>gb true (Q1 c k) [] fun l=>gb true (l[3]?) oF fun o=>gb true (pSl 4 o) [] fun p=>Yn n a (p.length:Int) b c d e f g (fun q r s=>Y2 n h2 b c d e f g k0 m q (wJ (a+1))) n h 0 else k0 h a (decide (a<h2))
def Va (n:Nat) (c d:LL) (a:Int) (e f b:LL) (g:Bool) (K:Int->oP R):oP R:= bif !g then K 0 else Y2 n (b.length:Int) b c d a e f (fun h i j=>gb true (nz a) () fun k=>K (wJ (Int.tdiv h a))) n 0 0

def Jk (n:Nat) (b c d e f:LL) (g:Int) (h:List UInt8) (i j k l:Int) (K:LL->Int->Int->oP R):oP R:= gb true (Wm n b c d e f g h i j k l 0 0 Tu3) ([],0,0) fun a=>K a.1 a.2.1 a.2.2

def RI (n:Nat) (b c d e f:LL) (g:Int) (h:List UInt8) (i j k l:Int) (K:LL->Int->Int->oP R):oP R:= gb true (Ki n b c d e f g h i j k l 0 0 Tu3) ([],0,0) fun a=>K a.1 a.2.1 a.2.2

end Go.Vx
namespace Go.Vx
theorem Ma {l:List Nat} {j i:Nat} (e:l[j]? = some i):Q1 (Ez l) (j:Int)=some [Q4 (i:Int)]:=by
 rw [Qa];unfold Ez;rw [Qki,e];rfl
namespace Cx
def sumR (X:Cx) (per:Int) (tl:List Int) (i:Nat):Nat->Int
 |0=>0
 |k+1=>sumR X per tl i k+(X.runV per tl i k+(X.gapV per tl i k).1)
def sumL (X:Cx) (per:Int) (tl:List Int) (ls:List Nat):Int:=ls.foldl (fun s i=>s+X.sumR per tl i (X.nr i)) 0
def lapsV (X:Cx) (per:Int) (tl:List Int) (ls:List Nat) (c:Bool):Int:=bif c then (X.sumL per tl ls).tdiv per else 0
variable {X:Cx} {per:Int} {Ch Sy A:LL} {tl:List Int} (g:X.Gd per Ch Sy A tl) {R:Type}
include g
theorem Gd.sumR_rng {i:Nat} (hi:i<X.Ls.length):∀ {k:Nat},k<=X.nr i -> -200000*(k:Int)<=X.sumR per tl i k/\X.sumR per tl i k<=200000*(k:Int)
 |0,_=>by simp [sumR]
 |k+1,hk=>by
  have ih:=Gd.sumR_rng hi (k:=k) Zzq;have a:=g.runV_rng hi (show k<X.nr i by omega);have h2:=g.gapV_rng hi (show k<X.nr i by omega);rw [sumR];omega
theorem Gd.sumL_rng {ls:List Nat} (ac:∀ i∈ls,i<X.Ls.length):∀ {j:Nat},j<=ls.length -> -400000*(j:Int)<=X.sumL per tl (ls.take j)/\X.sumL per tl (ls.take j)<=400000*(j:Int)
 |0,_=>by simp [sumL]
 |j+1,hj=>by
  have ih:=Gd.sumL_rng ac (j:=j) Zzq;have e:=Qk0 (l:=ls) (i:=j) Zzq;have hi:=ac _ (QjY e);have hn:=(Gg g.ok hi).2.1;have a:=g.sumR_rng hi (Qkc (X.nr ls[j]));rw [YJ e];unfold sumL at ih ⊢;rw [List.foldl_append];simp only [List.foldl_cons,List.foldl_nil];omega
theorem Q3T {ls:List Nat} {j i:Nat} (e:ls[j]? = some i):X.sumL per tl (ls.take (j+1))=X.sumL per tl (ls.take j)+X.sumR per tl i (X.nr i):=by
 rw [YJ e];unfold sumL;rw [List.foldl_append];rfl
theorem Gd.lapsP {ls:List Nat} {c:Bool} (ac:∀ i∈ls,i<X.Ls.length) (ak:ls.length<=10) (K:Int->oP R):Wd 400 X.Ls Ch per A (encI tl) (encI ((List.range X.L).map (tix X.T))) (X.fst X.L) ((X.N:Nat):Int) (Ez ls) c K=K (X.lapsV per tl ls c):=by
 have p0:=g.p0;have p1:=g.p1;unfold Wd lapsV;cases c
 ·rfl
 rw [Qke,QjW,QjZ,show (Ez ls).length=ls.length by simp [Ez]];have hs:=g.sumL_rng ac (Qkc ls.length);rw [Qka] at hs;have hb:((X.sumL per tl ls).tdiv per).natAbs=(X.sumL per tl ls).natAbs / per.natAbs:=Int.natAbs_tdiv ..;have al:(X.sumL per tl ls).tdiv per<=10000000 /\ -10000000<=(X.sumL per tl ls).tdiv per:=by
  have:=Nat.div_le_self (X.sumL per tl ls).natAbs per.natAbs;omega
 refine Qx (r:=fun m j=>Xg 400 (Ez ls) ((ls.length:Nat):Int) (X.fst X.L) X.Ls Ch per A (encI tl) (encI ((List.range X.L).map (tix X.T))) ((X.N:Nat):Int) (fun a b d=>gb true (nz per) () fun f=>K (wJ (Int.tdiv a per))) m (X.sumL per tl (ls.take j.toNat)) j) (N:=ls.length) (fun m j hj=>?_) (fun m=>?_) ls.length 400 0 Zzq Zzq
 ·simp only [QjV];have e:=Qk0 hj;have hi:=ac _ (QjY e);have an:=g.sumL_rng ac (j:=j) Zzq;have hn:=(Gg g.ok hi).2.1;rw [Xg,Q9 hj,QjZ,Ma e];simp -implicitDefEqProofs only [Q0,QjU,QjX,Q2,QA,Qa,(Gg g.ok hi).1,Qu (show j<=1000 by omega)];refine Qx (r:=fun m' k=>XP 400 ((ls[j]:Nat):Int) ((X.nr ls[j]:Nat):Int) (X.fst X.L) X.Ls Ch per A (encI tl) (encI ((List.range X.L).map (tix X.T))) ((X.N:Nat):Int) (fun h l n=>Xg 400 (Ez ls) ((ls.length:Nat):Int) (X.fst X.L) X.Ls Ch per A (encI tl) (encI ((List.range X.L).map (tix X.T))) ((X.N:Nat):Int) (fun a b d=>gb true (nz per) () fun f=>K (wJ (Int.tdiv a per))) m h ((j+1:Nat):Int)) m' (X.sumL per tl (ls.take j)+X.sumR per tl ls[j] k.toNat) k) (N:=X.nr ls[j]) (fun m' k hk=>?_) (fun m'=>?_) (X.nr ls[j]) 400 0 Zzq Zzq |> Eq.trans (by simp [sumR];rfl)
  ·simp only [QjV];have hr:=g.sumR_rng hi (k:=k) Zzq;have o:=g.runV_rng hi hk;have h2:=g.gapV_rng hi hk;rw [XP,Q9 hk,QjZ,g.gapP hi hk,Q0,g.runP hi hk,Q0,Q6 (x:=X.runV per tl ls[j] k+(X.gapV per tl ls[j] k).1) Zzq Zzq,Q6 Zzq Zzq,Qu (show k<=1000 by omega),sumR,Int.add_assoc]
  ·simp only [QjV];rw [XP,Ql,QjW,Q3T g e]
 ·simp only [QjV];rw [Xg,Ql,QjW,Qka,Ei Zzq,Q0,Q6 Zzq Zzq]
theorem Gd.lapsR {ls:List Nat} {c:Bool} (ac:∀ i∈ls,i<X.Ls.length) (ak:ls.length<=10) (K:Int->oP R):Va 400 X.Ls (X.T.map tuR) per A (encI tl) (Ez ls) c K=K (X.lapsV per tl ls c):=by
 have p0:=g.p0;have p1:=g.p1;unfold Va lapsV;cases c
 ·rfl
 rw [Qke,QjW,QjZ,show (Ez ls).length=ls.length by simp [Ez]];have hs:=g.sumL_rng ac (Qkc ls.length);rw [Qka] at hs;have hb:((X.sumL per tl ls).tdiv per).natAbs=(X.sumL per tl ls).natAbs / per.natAbs:=Int.natAbs_tdiv ..;have al:(X.sumL per tl ls).tdiv per<=10000000 /\ -10000000<=(X.sumL per tl ls).tdiv per:=by
  have:=Nat.div_le_self (X.sumL per tl ls).natAbs per.natAbs;omega
 refine Qx (r:=fun m j=>Y2 400 ((ls.length:Nat):Int) (Ez ls) X.Ls (X.T.map tuR) per A (encI tl) (fun a b d=>gb true (nz per) () fun f=>K (wJ (Int.tdiv a per))) m (X.sumL per tl (ls.take j.toNat)) j) (N:=ls.length) (fun m j hj=>?_) (fun m=>?_) ls.length 400 0 Zzq Zzq
 ·simp only [QjV];have e:=Qk0 hj;have hi:=ac _ (QjY e);have an:=g.sumL_rng ac (j:=j) Zzq;have hn:=(Gg g.ok hi).2.1;rw [Y2,Q9 hj,QjZ,Ma e];simp -implicitDefEqProofs only [Q0,QjU,QjX,Q2,QA,Qa,(Gg g.ok hi).1,Qu (show j<=1000 by omega)];refine Qx (r:=fun m' k=>Yn 400 ((j:Nat):Int) ((X.nr ls[j]:Nat):Int) (Ez ls) X.Ls (X.T.map tuR) per A (encI tl) (fun h l n=>Y2 400 ((ls.length:Nat):Int) (Ez ls) X.Ls (X.T.map tuR) per A (encI tl) (fun a b d=>gb true (nz per) () fun f=>K (wJ (Int.tdiv a per))) m h ((j+1:Nat):Int)) m' (X.sumL per tl (ls.take j)+X.sumR per tl ls[j] k.toNat) k) (N:=X.nr ls[j]) (fun m' k hk=>?_) (fun m'=>?_) (X.nr ls[j]) 400 0 Zzq Zzq |> Eq.trans (by simp [sumR];rfl)
  ·simp only [QjV];have hr:=g.sumR_rng hi (k:=k) Zzq;have o:=g.runV_rng hi hk;have h2:=g.gapV_rng hi hk;rw [Yn,Q9 hk,QjZ,Ma e];simp -implicitDefEqProofs only [Q0,QjU,Q2,g.gapR hi hk,g.runR hi hk,Q6 (x:=X.runV per tl ls[j] k+(X.gapV per tl ls[j] k).1) Zzq Zzq,Q6 (x:=X.sumL per tl (ls.take j)+X.sumR per tl ls[j] k+(X.runV per tl ls[j] k+(X.gapV per tl ls[j] k).1)) Zzq Zzq,Qu (show k<=1000 by omega)];rw [sumR,Int.add_assoc]
  ·simp only [QjV];rw [Yn,Ql,QjW,Q3T g e]
 ·simp only [QjV];rw [Y2,Ql,QjW,Qka,Ei Zzq,Q0,Q6 Zzq Zzq]
omit g
def stair (X:Cx) (i k:Nat):List Occ:=Q5k X.G.St X.G.Pt X.G.Se X.G.Li (X.st i k) (X.rn i k) 0 0
variable (h:X.OK)
include h
theorem Qbm {i k:Nat} (hi:i<X.Ls.length) (hk:k<X.nr i):OL (-1) (X.stair i k)/\(X.stair i k).length<=6:=Q9W (rd h hi hk).rt h.sk Zzq Zzq Zzq Zzq
theorem Qeq {i k:Nat} (hi:i<X.Ls.length) (hk:k<X.nr i) (K:LL->Int->Int->oP R):RI 400 X.G.St X.G.Pt X.G.Se X.G.Li (X.st i k) 0 X.nm X.tl X.sp X.ac X.br K=K ((X.stair i k).map enc) (X.run i k) 0:=by
 unfold RI;rw [Qes (rd h hi hk).rt h.sk (show (0:Int)<=0 by omega) Zzq (show (0:Int)<=0 by omega) Zzq,Q0];rfl
theorem Qev {i k:Nat} (hi:i<X.Ls.length) (hk:k<X.nr i) (K:LL->Int->Int->oP R):Jk 400 X.G.St X.G.Pt X.G.Se X.G.Li (X.st i k) 0 X.nm X.tl X.sp X.ac X.br K=K ((X.stair i k).map enc) (X.run i k) 0:=by
 have hh:=QeW (rd h hi hk).rt (nm:=X.nm) h.sk (show (0:Int)<=0 by omega) Zzq (show (0:Int)<=0 by omega) Zzq;unfold Wu at hh;have r:=(rd h hi hk).rt;rw [Qdi r.lay rfl r.l2 r.l24 r.rt r.st h.sk,Q0,Q8 (by rfl),Q8 (by rfl)] at hh;unfold Jk;cases e:Wm 400 X.G.St X.G.Pt X.G.Se X.G.Li (X.st i k) 0 X.nm X.tl X.sp X.ac X.br 0 0 Tu3 with
 |none=>rw [e] at hh;cases hh
 |some v=>
  obtain ⟨a,b,c⟩:=v;rw [e,Q0] at hh;cases hh;rfl
end Cx
end Go.Vx
namespace Go.Vx
variable {R:Type}
def Qe (n:Nat) (a0 a1 a2:Int) (a:LL) (b c:Int) (K:LL->oP R):oP R:= bif decide (a2>0) then gb true (Ym ((a.length+[[Q4 a0,Q4 b,Q4 a1,Q4 a2,Q4 c]].length)*40)) () fun d=>K (a++[[Q4 a0,Q4 b,Q4 a1,Q4 a2,Q4 c]]) else K a
def YS (n:Nat) (d:Int) (e:LL) (b f g:Int) (k0:Int->Bool->LL->oP R):Nat->Int->LL->oP R
 | 0,_,_=>none
 | m+1,a,h=>bif decide (a<b) then gb true (Q1 e a) [] fun c=>gb true (c[0]?) oF fun j=>gb true (c[1]?) oF fun i=>gb true (c[2]?) oF fun k=>gb true (pIw j) 0 fun l=>gb true (pIw i) 0 fun o=>gb true (pIw k) 0 fun p=>gb true (pIw i) 0 fun q=>gb true (Qe n l (wJ (d+o)) (wJ (p-q)) h f g some) [] fun r=>YS n d e b f g k0 m (wJ (a+1)) r else k0 a (decide (a<b)) h
def Qp (n:Nat) (ai c:Int) (aj:LL) (s h:Int) (ak:Bool) (i:Int) (t u v x y:D) (d z aa ab ac al o p:LL) (e:Int) (f g:LL) (ad:Bool) (q:LL) (r:Int) (k0:Int->Int->Bool->LL->oP R):Nat->Int->Int->LL->oP R
 | 0,_,_,_=>none
 | m+1,a,b,am=>bif decide (b<s) then gb true (Q1 aj b) [] fun an=>gb true (an[0]?) oF fun bo=>gb true (an[1]?) oF fun dt=>gb true (an[2]?) oF fun du=>gb true (an[3]?) oF fun dw=>gb true (pIw bo) 0 fun bp=>gb true (Q1 al bp) [] fun ap=>gb true (ap[0]?) oF fun j=>gb true (ap[1]?) oF fun ae=>bif (bif (bif !ak then (ai == 0) else false) then (b == 0) else false) then gb true (pSl 2 j) [] fun bq=>gb true (Q1 bq 0) [] fun br=>gb true (br[0]?) oF fun bt=>gb true (pIw bt) 0 fun bu=>gb true (Qe n bu (wJ (a-60)) 60 am h i some) [] fun aq=>gb true (pSl 2 j) [] fun bv=>gb true (pIw ae) 0 fun bx=>gb true (Nk t) [] fun bz=>gb true (pIw u) 0 fun ca=>gb true (pIw v) 0 fun cb=>gb true (pIw x) 0 fun cc=>gb true (pIw y) 0 fun ce=>gb true (Jk n z aa ab ac bv bx bz ca cb cc ce Tu3) ([],0,0) fun ag=>bif ad then YS n a ag.1 (ag.1.length:Int) h i (fun dx dy cf=>gb true (Xy n e f g d c b some) 0 fun ar=>jn (fun (au av:Int)=>gb true (pSl 2 j) [] fun cg=>gb true (pSl 2 j) [] fun ch=>gb true (pIw ae) 0 fun ci=>gb true (Q1 cg (wJ ((wJ ((ch.length:Int)-ci))-1))) [] fun cj=>gb true (cj[0]?) oF fun ck=>gb true (pIw ck) 0 fun cm=>gb true (Qe n cm (wJ (a+au)) (wJ ((wJ (av-a))-au)) cf h i some) [] fun cn=>Qp n ai c aj s h ak i t u v x y d z aa ab ac al o p e f g ad q r k0 m av (wJ (b+1)) cn) fun aw=>gb true (X9 n o p e f g q d r c b Tu2) (0,false) fun ax=>bif ax.2 then aw ag.2.1 (wJ ((wJ (a+ar))+ax.1)) else aw ag.2.1 (wJ ((wJ (a+ar))+60))) n 0 aq else gb true (Xy n e f g d c b some) 0 fun ay=>jn (fun (az ba:Int)=>gb true (pSl 2 j) [] fun co=>gb true (pSl 2 j) [] fun cp=>gb true (pIw ae) 0 fun cq=>gb true (Q1 co (wJ ((wJ ((cp.length:Int)-cq))-1))) [] fun cr=>gb true (cr[0]?) oF fun cs=>gb true (pIw cs) 0 fun ct=>gb true (Qe n ct (wJ (a+az)) (wJ ((wJ (ba-a))-az)) aq h i some) [] fun cu=>Qp n ai c aj s h ak i t u v x y d z aa ab ac al o p e f g ad q r k0 m ba (wJ (b+1)) cu) fun bb=>gb true (X9 n o p e f g q d r c b Tu2) (0,false) fun bc=>bif bc.2 then bb ag.2.1 (wJ ((wJ (a+ay))+bc.1)) else bb ag.2.1 (wJ ((wJ (a+ay))+60)) else gb true (pSl 2 j) [] fun cv=>gb true (pIw ae) 0 fun cw=>gb true (Nk t) [] fun cx=>gb true (pIw u) 0 fun cy=>gb true (pIw v) 0 fun cz=>gb true (pIw x) 0 fun da=>gb true (pIw y) 0 fun db=>gb true (Jk n z aa ab ac cv cw cx cy cz da db Tu3) ([],0,0) fun ah=>bif ad then YS n a ah.1 (ah.1.length:Int) h i (fun dz ea dc=>gb true (Xy n e f g d c b some) 0 fun bd=>jn (fun (be bg:Int)=>gb true (pSl 2 j) [] fun dd=>gb true (pSl 2 j) [] fun de=>gb true (pIw ae) 0 fun df=>gb true (Q1 dd (wJ ((wJ ((de.length:Int)-df))-1))) [] fun dg=>gb true (dg[0]?) oF fun dh=>gb true (pIw dh) 0 fun di=>gb true (Qe n di (wJ (a+be)) (wJ ((wJ (bg-a))-be)) dc h i some) [] fun dj=>Qp n ai c aj s h ak i t u v x y d z aa ab ac al o p e f g ad q r k0 m bg (wJ (b+1)) dj) fun bh=>gb true (X9 n o p e f g q d r c b Tu2) (0,false) fun bi=>bif bi.2 then bh ah.2.1 (wJ ((wJ (a+bd))+bi.1)) else bh ah.2.1 (wJ ((wJ (a+bd))+60))) n 0 am else gb true (Xy n e f g d c b some) 0 fun bj=>jn (fun (bk bl:Int)=>gb true (pSl 2 j) [] fun dk=>gb true (pSl 2 j) [] fun dl=>gb true (pIw ae) 0 fun dn=>gb true (Q1 dk (wJ ((wJ ((dl.length:Int)-dn))-1))) [] fun dp=>gb true (dp[0]?) oF fun dq=>gb true (pIw dq) 0 fun dr=>gb true (Qe n dr (wJ (a+bk)) (wJ ((wJ (bl-a))-bk)) am h i some) [] fun ds=>Qp n ai c aj s h ak i t u v x y d z aa ab ac al o p e f g ad q r k0 m bl (wJ (b+1)) ds) fun bm=>gb true (X9 n o p e f g q d r c b Tu2) (0,false) fun bn=>bif bn.2 then bm ah.2.1 (wJ ((wJ (a+bj))+bn.1)) else bm ah.2.1 (wJ ((wJ (a+bj))+60)) else k0 a b (decide (b<s)) am
def XC (n:Nat) (f:LL) (d g:Int) (h:Bool) (i:Int) (j k l o p q r c s:LL) (t:Int) (u v:LL) (x:Bool) (y:LL) (z:Int) (k0:Int->Int->Bool->LL->oP R):Nat->Int->Int->LL->oP R
 | 0,_,_,_=>none
 | m+1,aa,a,ab=>bif decide (a<d) then gb true (Q1 f a) [] fun ad=>gb true (ad[0]?) oF fun ae=>gb true (pIw ae) 0 fun e=>gb true (Q1 c e) [] fun ag=>gb true (ag[1]?) oF fun ah=>gb true (pIw ah) 0 fun ai=>gb true (Q1 q ai) [] fun b=>gb true (b[0]?) oF fun aj=>gb true (b[1]?) oF fun ak=>gb true (b[2]?) oF fun al=>gb true (b[3]?) oF fun am=>gb true (b[4]?) oF fun an=>gb true (Q1 c e) [] fun ao=>gb true (ao[3]?) oF fun ap=>gb true (pSl 4 ap) [] fun ac=>Qp n a e ac (ac.length:Int) g h i aj ak al am an j k l o p r c s t u v x y z (fun aq au av ar=>XC n f d g h i j k l o p q r c s t u v x y z k0 m aq (wJ (a+1)) ar) n aa 0 ab else k0 aa a (decide (a<d)) ab
def ZA (n:Nat) (l m o p q r d e:LL) (f:Int) (g c:LL) (s:Bool) (h a:LL) (i:Int) (t:LL) (a1:Int) (b:LL) (j:Bool) (K:LL->oP R):oP R:= gb true (Wd n d e f g c h a i b j some) 0 fun u=>gb true (Q1 b 0) [] fun v=>gb true (v[0]?) oF fun x=>gb true (pIw x) 0 fun k=>gb true (inB (a.length) k) () fun u5=>gb true (a[k.toNat]?) [] fun r6=>gb true (r6[0]?) oF fun y=>gb true (pIw y) 0 fun z=>gb true (Q1 c (wJ (2*z))) [] fun r9=>gb true (r9[0]?) oF fun ab=>gb true (pIw ab) 0 fun ac=>XC n b (b.length:Int) a1 j u a l m o p q r d e f g c s h i (fun ag ah ai ad=>K ad) n ac 0 t

end Go.Vx
namespace Go.Vx
abbrev U:=Nat × Nat × Int × Int × Int
def B7 (u:U):List D:=[Q4 (u.1:Int),Q4 (u.2.1:Int),Q4 u.2.2.1,Q4 u.2.2.2.1,Q4 u.2.2.2.2]
def Qaf (us:List U) (u:U):List U:=if 0<u.2.2.2.1 then us++[u] else us
theorem Q2c {us:List U} {u:U}:(Qaf us u).length<=us.length+1:=by
 unfold Qaf;split <;> simp
theorem QeL {R:Type} {n res train:Nat} {us:List U} (hl:us.length<=1000) {fr len laps:Int} (K:LL->oP R):Qe n (res:Int) fr len (us.map B7) (train:Int) laps K=K ((Qaf us (res,train,fr,len,laps)).map B7):=by
 unfold Qe Qaf;by_cases h:0<len
 ·rw [show decide (len>0)=true from Qk6 h,QjZ,if_pos h,XS (by simp;omega),Q0,Qk8];rfl
 ·rw [show decide (len>0)=false from decide_eq_false h,QjW,if_neg h]
theorem Q7r {St Pt Se Li s:LL} (h:RtF St Pt Se Li s) {j:Nat} (hj:j<s.length):∃ (d:Int) (nm:List UInt8) (a b c st:Int),s[j]? = some [Q4 (sec s j:Int),Q4 d]/\Q1 Se (sec s j:Int)=some [D.str nm,Q4 a,Q4 b,Q4 c,Q4 st]:=by
 obtain ⟨x,d,nm,b,c,st,e,f,a0,a1,hd⟩:=Ed h.st hj;have hx:=PD f;have g:0<=x:=by
  have h2:=hx.1;unfold inB at h2;by_cases hc:0<=x
  ·exact hc
  ·rw [show (decide (0<=x)&&decide (x<(Se.length:Int)))=false by simp;omega] at h2;cases h2
 have ac:x=((sec s j:Nat):Int):=by
  unfold sec;rw [Qk2,e];show x=((x.toNat:Nat):Int);omega
 rw [ac] at e f;exact ⟨d,nm,_,b,c,st,e,f⟩
namespace Cx
variable {X:Cx} {per:Int} {Ch Sy A:LL} {tl:List Int}
def endV (X:Cx) (per:Int) (tl:List Int) (i k:Nat) (at':Int):Int:=at'+X.runV per tl i k+(if (X.gapV per tl i k).2=true then (X.gapV per tl i k).1 else 60)
def stU (X:Cx) (per:Int) (tl:List Int) (c:Bool) (idx train:Nat) (laps:Int) (i k:Nat) (s:Int × List U):Int × List U:=
 (X.endV per tl i k s.1,Qaf (if c=false/\idx=0/\k=0 then Qaf s.2 (sec (X.st i k) 0,train,s.1-60,60,laps) else s.2) (sec (X.st i k) ((X.st i k).length-1),train,s.1+X.run i k,X.endV per tl i k s.1-s.1-X.run i k,laps))
def rideU (X:Cx) (per:Int) (tl:List Int) (c:Bool) (idx train:Nat) (laps:Int) (i:Nat) (s:Int × List U):Nat->Int × List U
 |0=>s
 |k+1=>X.stU per tl c idx train laps i k (rideU X per tl c idx train laps i s k)
def lineU (X:Cx) (per:Int) (tl:List Int) (c:Bool) (train:Nat) (laps:Int) (ls:List Nat) (s:Int × List U):Nat->Int × List U
 |0=>s
 |j+1=>X.rideU per tl c j train laps (ls.getD j 0) (lineU X per tl c train laps ls s j) (X.nr (ls.getD j 0))
variable (g:X.Gd per Ch Sy A tl)
include g
theorem Gd.endV_rng {i k:Nat} (hi:i<X.Ls.length) (hk:k<X.nr i) {a:Int}:a-140000<=X.endV per tl i k a/\X.endV per tl i k a<=a+140000:=by
 have b:=g.runV_rng hi hk;have h2:=g.gapV_rng hi hk;unfold endV;split <;> omega
theorem Gd.rideU_rng {c:Bool} {idx train:Nat} {laps:Int} {i:Nat} (hi:i<X.Ls.length) {s:Int × List U}:∀ {k:Nat},k<=X.nr i->s.1-140000*(k:Int)<=(X.rideU per tl c idx train laps i s k).1/\(X.rideU per tl c idx train laps i s k).1<=s.1+140000*(k:Int)/\(X.rideU per tl c idx train laps i s k).2.length<=s.2.length+2*k
 |0,_=>by simp [rideU]
 |k+1,hk=>by
  have ih:=Gd.rideU_rng (c:=c) (idx:=idx) (train:=train) (laps:=laps) hi (s:=s) (k:=k) Zzq;have he:=g.endV_rng hi (show k<X.nr i by omega) (a:=(X.rideU per tl c idx train laps i s k).1);rw [rideU];unfold stU;refine ⟨by dsimp only;omega,by dsimp only;omega,Nat.le_trans Q2c ?_⟩;split
  ·have:=Q2c (us:=(X.rideU per tl c idx train laps i s k).2) (u:=(sec (X.st i k) 0,train,(X.rideU per tl c idx train laps i s k).1-60,60,laps));omega
  ·omega
theorem Gd.lineU_rng {c:Bool} {train:Nat} {laps:Int} {ls:List Nat} (ac:∀ i∈ls,i<X.Ls.length) {s:Int × List U}:∀ {j:Nat},j<=ls.length->s.1-280000*(j:Int)<=(X.lineU per tl c train laps ls s j).1/\(X.lineU per tl c train laps ls s j).1<=s.1+280000*(j:Int)/\(X.lineU per tl c train laps ls s j).2.length<=s.2.length+4*j
 |0,_=>by simp [lineU]
 |j+1,hj=>by
  have ih:=Gd.lineU_rng (c:=c) (train:=train) (laps:=laps) ac (s:=s) (j:=j) Zzq;have e:=Qk0 (l:=ls) (i:=j) Zzq;have hi:=ac _ (QjY e);have hn:=(Gg g.ok hi).2.1;have hd:ls.getD j 0=ls[j]:=by rw [Qk2,e];rfl
  rw [lineU,hd];have:=g.rideU_rng (c:=c) (idx:=j) (train:=train) (laps:=laps) hi (s:=X.lineU per tl c train laps ls s j) (Qkc (X.nr ls[j]));omega
variable {R:Type}
theorem Gd.ridesU {c:Bool} {idx train:Nat} {laps:Int} {i:Nat} (hi:i<X.Ls.length) {s:Int × List U} (s0 : -5000000<=s.1) (s1:s.1<=5000000) (sl:s.2.length<=500) (aq:idx<=100) {k0:Int->Int->Bool->LL->oP R} :
  Qp 400 (idx:Int) (i:Int) (Kr X.Ls i) ((X.nr i:Nat):Int) (train:Int) c laps (D.str X.nm) (Q4 X.tl) (Q4 X.sp) (Q4 X.ac) (Q4 X.br) (X.fst X.L) X.G.St X.G.Pt X.G.Se X.G.Li X.Ro X.Ls Ch per A (encI tl) false (encI ((List.range X.L).map (tix X.T))) ((X.N:Nat):Int) k0 400 s.1 0 (s.2.map B7)=k0 (X.rideU per tl c idx train laps i s (X.nr i)).1 ((X.nr i:Nat):Int) false ((X.rideU per tl c idx train laps i s (X.nr i)).2.map B7):=by
 have hn:=(Gg g.ok hi).2.1;refine Qx (r:=fun m k=>Qp 400 (idx:Int) (i:Int) (Kr X.Ls i) ((X.nr i:Nat):Int) (train:Int) c laps (D.str X.nm) (Q4 X.tl) (Q4 X.sp) (Q4 X.ac) (Q4 X.br) (X.fst X.L) X.G.St X.G.Pt X.G.Se X.G.Li X.Ro X.Ls Ch per A (encI tl) false (encI ((List.range X.L).map (tix X.T))) ((X.N:Nat):Int) k0 m (X.rideU per tl c idx train laps i s k.toNat).1 k ((X.rideU per tl c idx train laps i s k.toNat).2.map B7)) (N:=X.nr i) (fun m k hk=>?_) (fun m=>?_) (X.nr i) 400 0 Zzq Zzq
 ·simp only [QjV];have r:=rd g.ok hi hk;have hr:=Rk g.ok hi hk;have l2:=r.rt.l2;have l24:=r.rt.l24;have hb:=g.rideU_rng (c:=c) (idx:=idx) (train:=train) (laps:=laps) hi (s:=s) (k:=k) Zzq;have f:=g.runV_rng hi hk;have h2:=g.gapV_rng hi hk;obtain ⟨d0,_,_,_,_,_,h,_⟩:=Q7r r.rt (j:=0) Zzq;obtain ⟨d1,_,_,_,_,_,e1,_⟩:=Q7r r.rt (j:=(X.st i k).length-1) Zzq;have an:Q1 (Kr X.Ls i) (k:Int)=some [Q4 (rF X.Ls i k 0),Q4 (X.ex i k),Q4 (X.mn i k),Q4 (X.mx i k)]:=by rw [Qa,r.row]
  have l:Q1 (X.st i k) 0=some [Q4 (sec (X.st i k) 0:Int),Q4 d0]:=h;have n:Q1 (X.st i k) (((X.st i k).length-1:Nat):Int)=some [Q4 (sec (X.st i k) ((X.st i k).length-1):Int),Q4 d1]:=by rw [Qa,e1]
  have hw:wJ (wJ ((((X.st i k).length:Nat):Int)-0)-1)=(((X.st i k).length-1:Nat):Int):=by rw [Q6 (x:=(((X.st i k).length:Nat):Int)-0) Zzq Zzq,Q6 Zzq Zzq];omega
  rw [rideU];generalize X.rideU per tl c idx train laps i s k=q at hb ⊢;have he:=g.endV_rng hi hk (a:=q.1);have aj:(X.gapV per tl i k).2=true->wJ (wJ (q.1+X.runV per tl i k)+(X.gapV per tl i k).1)=X.endV per tl i k q.1:=fun hg=>by
   unfold endV;rw [Q6 (x:=q.1+X.runV per tl i k) Zzq Zzq,if_pos hg,Q6 Zzq Zzq]
  have ak:(X.gapV per tl i k).2=false->wJ (wJ (q.1+X.runV per tl i k)+60)=X.endV per tl i k q.1:=fun hg=>by
   unfold endV;rw [Q6 (x:=q.1+X.runV per tl i k) Zzq Zzq,hg,if_neg Qks,Q6 Zzq Zzq]
  rw [Qp,Q9 hk,QjZ,an];simp -implicitDefEqProofs only [jn,Q0,QjU,QjX,Q2,QA,XE,r.ro,Qev g.ok hi hk,g.runP hi hk,g.gapP hi hk,QjW,hw,l,n,Qu (show k<=1000 by omega),Q6 (x:=q.1-60) Zzq Zzq];have fb:(bif (bif (bif !c then ((idx:Int) == 0) else false) then ((k:Int) == 0) else false) then true else false)=decide (c=false/\idx=0/\k=0):=by
   cases c
   ·by_cases f:idx=0
    ·by_cases h2:k=0
     ·subst f h2;rfl
     ·rw [show ((k:Int) == 0)=false by simp;omega,decide_eq_false (by simp [h2])];cases (bif !false then ((idx:Int) == 0) else false) <;> rfl
    ·rw [show ((idx:Int) == 0)=false by simp;omega,decide_eq_false (by simp [f])];rfl
   ·rw [decide_eq_false (by simp)];rfl
  have ao:(bif (bif !c then ((idx:Int) == 0) else false) then ((k:Int) == 0) else false)=decide (c=false/\idx=0/\k=0):=by
   rw [<- fb];cases (bif (bif !c then ((idx:Int) == 0) else false) then ((k:Int) == 0) else false) <;> rfl
  rw [ao];unfold stU;have b:=Q6 (x:=q.1+X.run i k) Zzq Zzq;have d:=Q6 (x:=X.endV per tl i k q.1-q.1) Zzq Zzq;have e:=Q6 (x:=X.endV per tl i k q.1-q.1-X.run i k) Zzq Zzq;by_cases hf:c=false/\idx=0/\k=0
  ·have o:=Q2c (us:=q.2) (u:=(sec (X.st i k) 0,train,q.1-60,60,laps));rw [Qk6 hf,QjZ,if_pos hf,QeL Zzq,Q0];cases hg:(X.gapV per tl i k).2
   ·rw [QjW,ak hg,b,d,e,QeL Zzq,Q0]
   ·rw [QjZ,aj hg,b,d,e,QeL Zzq,Q0]
  ·rw [decide_eq_false hf,QjW,if_neg hf];cases hg:(X.gapV per tl i k).2
   ·rw [QjW,ak hg,b,d,e,QeL Zzq,Q0]
   ·rw [QjZ,aj hg,b,d,e,QeL Zzq,Q0]
 ·simp only [QjV];rw [Qp,Ql,QjW]
def trainU (X:Cx) (per:Int) (tl:List Int) (us:List U) (train:Nat) (r:List Nat × Bool):List U:=(X.lineU per tl r.2 train (X.lapsV per tl r.1 r.2) r.1 (tat tl ((2*base X.nr (r.1.getD 0 0):Nat):Int),us) r.1.length).2
theorem Gd.trainP {us:List U} (ao:us.length<=300) {train:Nat} {r:List Nat × Bool} (f:1<=r.1.length) (h:r.1.length<=3) (hr:∀ i∈r.1,i<X.Ls.length) (K:LL->oP R) :
  ZA 400 X.G.St X.G.Pt X.G.Se X.G.Li X.skR X.Ro X.Ls Ch per A (encI tl) false (encI ((List.range X.L).map (tix X.T))) (X.fst X.L) ((X.N:Nat):Int) (us.map B7) (train:Int) (Ez r.1) r.2 K=K ((X.trainU per tl us train r).map B7):=by
 obtain ⟨ls,c⟩:=r;dsimp only at f h hr ⊢;have hN:X.N<=6:=base_le g.ok;have p1:=g.p1;have b:=Qk0 (l:=ls) (i:=0) Zzq;have d:=hr _ (QjY b);have o:ls.getD 0 0=ls[0]:=by rw [Qk2,b];rfl
 have q:=Ya g.ok (i:=ls[0]) Zzq;have aq:=Qd0 g.ok d (k:=0) (by have:=(Gg g.ok d).2.1;omega);have ht:=g.tat (i:=((2*base X.nr ls[0]:Nat):Int)) Zzq Zzq;have er:Q1 (Ez ls) 0=some [Q4 (ls[0]:Int)]:=Ma (j:=0) b;have ef:=Q70 (X:=X) (i:=ls[0]) (L:=X.L) d;rw [Qa] at ef;have el:(X.fst X.L).length=X.Ls.length:=by simp [fst,encI,L]
 have aj:Q1 X.skR 0=some [D.str X.nm,Q4 X.tl,Q4 X.sp,Q4 X.ac,Q4 X.br]:=rfl;unfold ZA trainU;rw [g.lapsP hr Zzq,Q0,er];dsimp only;rw [o,show (Ez ls).length=ls.length by simp [Ez]];generalize X.lapsV per tl ls c=laps;simp -implicitDefEqProofs only [Q0,QjU,Q2,ZI (len:=(X.fst X.L).length) (n:=((ls[0]:Nat):Int)) Zzq Zzq,QjV,ef,Si (a:=base X.nr ls[0]) Zzq,ht.1];refine Qx (r:=fun m j=>XC 400 (Ez ls) ((ls.length:Nat):Int) (train:Int) c laps (X.fst X.L) X.G.St X.G.Pt X.G.Se X.G.Li X.skR X.Ro X.Ls Ch per A (encI tl) false (encI ((List.range X.L).map (tix X.T))) ((X.N:Nat):Int) (fun t u v p=>K p) m (X.lineU per tl c train laps ls (Vx.tat tl ((2*base X.nr ls[0]:Nat):Int),us) j.toNat).1 j ((X.lineU per tl c train laps ls (Vx.tat tl ((2*base X.nr ls[0]:Nat):Int),us) j.toNat).2.map B7)) (N:=ls.length) (fun m j hj=>?_) (fun m=>?_) ls.length 400 0 Zzq Zzq
 ·simp only [QjV];have e:=Qk0 hj;have hi:=hr _ (QjY e);have hd:ls.getD j 0=ls[j]:=by rw [Qk2,e];rfl
  have hb:=g.lineU_rng (c:=c) (train:=train) (laps:=laps) hr (s:=(Vx.tat tl ((2*base X.nr ls[0]:Nat):Int),us)) (j:=j) Zzq;dsimp only at hb;rw [lineU,hd];rw [XC,Q9 hj,QjZ,Ma e];simp -implicitDefEqProofs only [Q0,QjU,QjX,Q2,QA,Qa,(Gg g.ok hi).1,aj,Qu (show j<=1000 by omega)];exact g.ridesU hi (s:=X.lineU per tl c train laps ls (Vx.tat tl ((2*base X.nr ls[0]:Nat):Int),us) j) Zzq Zzq Zzq Zzq
 ·simp only [QjV];rw [XC,Ql,QjW]
end Cx
end Go.Vx
namespace Go.Vx
variable {R:Type}
def Xm (n:Nat) (a b:LL) (d e f c g:Int) (a2:Bool) (K:LL->LL->oP R):oP R:= bif decide (c>0) then gb true (Ym ((a.length+[[Q4 d,Q4 e,Q4 f,Q4 c,Q4 g]].length)*40)) () fun h=>gb true (Ym ((b.length+[[D.bool a2]].length)*1)) () fun u2=>K (a++[[Q4 d,Q4 e,Q4 f,Q4 c,Q4 g]]) (b++[[D.bool a2]]) else K a b
def Xq (n:Nat) (d e f:Int) (b:LL) (c:Int) (k0:Int->Bool->LL->LL->oP R):Nat->Int->LL->LL->oP R
 | 0,_,_,_=>none
 | m+1,a,g,h=>bif decide (a<c) then gb true (Q1 b a) [] fun j=>gb true (j[0]?) oF fun k=>gb true (pIw k) 0 fun l=>gb true (Q1 b a) [] fun o=>gb true (o[1]?) oF fun p=>gb true (pIw p) 0 fun q=>gb true (Q1 b a) [] fun r=>gb true (r[2]?) oF fun s=>gb true (pIw s) 0 fun t=>gb true (Q1 b a) [] fun u=>gb true (u[1]?) oF fun v=>gb true (pIw v) 0 fun x=>gb true (Xm n g h l d (wJ (f+q)) (wJ (t-x)) e false Tu2) ([],[]) fun i=>Xq n d e f b c k0 m (wJ (a+1)) i.1 i.2 else k0 a (decide (a<c)) g h
def Qi (n:Nat) (i j s e q:Int) (t:Bool) (u v x y:LL) (z:Int) (r aa f ab p ac ad:LL) (k:Int) (l o:LL) (k0:Int->Int->Bool->LL->LL->oP R):Nat->Int->Int->LL->LL->oP R
 | 0,_,_,_,_=>none
 | m+1,a,d,ag,ah=>bif decide (d<q) then gb true (Y1 n z r aa f ab p ac ad e d Tu2) ((.bool false),(.bool false)) fun g=>gb true (Q1 f e) [] fun az=>gb true (az[1]?) oF fun ba=>gb true (pIw ba) 0 fun bb=>gb true (Q1 r bb) [] fun ae=>gb true (ae[0]?) oF fun bc=>gb true (ae[1]?) oF fun bd=>gb true (ae[2]?) oF fun be=>gb true (ae[3]?) oF fun bg=>gb true (ae[4]?) oF fun bh=>gb true (pSl 2 g.1) [] fun bi=>gb true (pIw g.2) 0 fun bj=>gb true (Nk bc) [] fun bk=>gb true (pIw bd) 0 fun bl=>gb true (pIw be) 0 fun bm=>gb true (pIw bg) 0 fun bn=>gb true (pIw bh) 0 fun bo=>gb true (RI n u v x y bi bj bk bl bm bn bo Tu3) ([],0,0) fun h=>bif (bif (bif (s == 0) then (d == 0) else false) then (!t) else false) then gb true (pSl 2 g.1) [] fun bq=>gb true (pIw g.2) 0 fun br=>gb true (Gr n bq br some) 0 fun bt=>gb true (Xm n ag ah bt i (wJ (a-60)) 60 j true Tu2) ([],[]) fun ak=>Xq n i j a h.1 (h.1.length:Int) (fun cj ck al am=>gb true (YI n f p k l o e d Tu2) (0,false) fun ai=>bif (!ai.2) then gb true (XA n f k l o e d some) 0 fun an=>gb true (pSl 2 g.1) [] fun bu=>gb true (pIw g.2) 0 fun bv=>gb true (Vi n bu bv some) 0 fun bx=>gb true (Xm n al am bx i (wJ (a+h.2.1)) (wJ ((wJ ((wJ ((wJ (a+an))+60))-a))-h.2.1)) j true Tu2) ([],[]) fun ao=>Qi n i j s e q t u v x y z r aa f ab p ac ad k l o k0 m (wJ ((wJ (a+an))+60)) (wJ (d+1)) ao.1 ao.2 else gb true (XA n f k l o e d some) 0 fun ap=>gb true (pSl 2 g.1) [] fun bz=>gb true (pIw g.2) 0 fun ca=>gb true (Vi n bz ca some) 0 fun cb=>gb true (Xm n al am cb i (wJ (a+h.2.1)) (wJ ((wJ ((wJ ((wJ (a+ap))+ai.1))-a))-h.2.1)) j true Tu2) ([],[]) fun aq=>Qi n i j s e q t u v x y z r aa f ab p ac ad k l o k0 m (wJ ((wJ (a+ap))+ai.1)) (wJ (d+1)) aq.1 aq.2) n 0 ak.1 ak.2 else Xq n i j a h.1 (h.1.length:Int) (fun cm cn ar au=>gb true (YI n f p k l o e d Tu2) (0,false) fun aj=>bif (!aj.2) then gb true (XA n f k l o e d some) 0 fun av=>gb true (pSl 2 g.1) [] fun cc=>gb true (pIw g.2) 0 fun ce=>gb true (Vi n cc ce some) 0 fun cf=>gb true (Xm n ar au cf i (wJ (a+h.2.1)) (wJ ((wJ ((wJ ((wJ (a+av))+60))-a))-h.2.1)) j true Tu2) ([],[]) fun aw=>Qi n i j s e q t u v x y z r aa f ab p ac ad k l o k0 m (wJ ((wJ (a+av))+60)) (wJ (d+1)) aw.1 aw.2 else gb true (XA n f k l o e d some) 0 fun ax=>gb true (pSl 2 g.1) [] fun cg=>gb true (pIw g.2) 0 fun ch=>gb true (Vi n cg ch some) 0 fun ci=>gb true (Xm n ar au ci i (wJ (a+h.2.1)) (wJ ((wJ ((wJ ((wJ (a+ax))+aj.1))-a))-h.2.1)) j true Tu2) ([],[]) fun ay=>Qi n i j s e q t u v x y z r aa f ab p ac ad k l o k0 m (wJ ((wJ (a+ax))+aj.1)) (wJ (d+1)) ay.1 ay.2) n 0 ag ah else k0 a d (decide (d<q)) ag ah
def Yg (n:Nat) (d e b:Int) (f:LL) (g:Bool) (h i j k:LL) (l:Int) (o p c q r s t:LL) (u:Int) (v x:LL) (k0:Int->Int->Bool->LL->LL->oP R):Nat->Int->Int->LL->LL->oP R
 | 0,_,_,_,_=>none
 | m+1,y,a,z,aa=>bif decide (a<b) then gb true (Q1 f a) [] fun ac=>gb true (ac[0]?) oF fun ad=>gb true (pIw ad) 0 fun ab=>gb true (Q1 c ab) [] fun ae=>gb true (ae[3]?) oF fun ag=>gb true (pSl 4 ag) [] fun ah=>Qi n d e a ab (ah.length:Int) g h i j k l o p c q r s t u v x (fun ai al am aj ak=>Yg n d e b f g h i j k l o p c q r s t u v x k0 m ai (wJ (a+1)) aj ak) n y 0 z aa else k0 y a (decide (a<b)) z aa
def UM (n:Nat) (h i j k:LL) (l:Int) (m o b p d q r:LL) (e:Int) (f c s t:LL) (a1:Int) (a:LL) (g:Bool) (K:LL->LL->oP R):oP R:= gb true (Va n b d e f c a g some) 0 fun u=>gb true (Q1 a 0) [] fun v=>gb true (v[0]?) oF fun x=>gb true (pIw x) 0 fun y=>gb true (Z5 n b y some) 0 fun z=>gb true (Q1 c (wJ (2*z))) [] fun r6=>gb true (r6[0]?) oF fun c7=>gb true (pIw c7) 0 fun i8=>Yg n a1 u (a.length:Int) a g h i j k l m o b p d q r e f c (fun ae ag ah ac ad=>K ac ad) n i8 0 s t

end Go.Vx
namespace Go.Vx
def enW (W:List (U × Bool)):LL:=W.map fun w=>B7 w.1
def enF (W:List (U × Bool)):LL:=W.map fun w=>[D.bool w.2]
def WG (W:List (U × Bool)):List U:=(W.filter (·.2)).map (·.1)
def adW (W:List (U × Bool)) (u:U) (b:Bool):List (U × Bool):=if 0<u.2.2.2.1 then W++[(u,b)] else W
theorem Q4M {W:List (U × Bool)} {u:U} {b:Bool}:(adW W u b).length<=W.length+1:=by
 unfold adW;split <;> simp
theorem Q6F {W:List (U × Bool)} {u:U}:WG (adW W u true)=Qaf (WG W) u:=by
 unfold adW Qaf WG;split <;> simp
theorem Q8N {W:List (U × Bool)} {u:U}:WG (adW W u false)=WG W:=by
 unfold adW WG;split <;> simp
theorem Qg3 {R:Type} {n res train:Nat} {W:List (U × Bool)} (hl:W.length<=1000) {fr len laps:Int} {b:Bool} (K:LL->LL->oP R):Xm n (enW W) (enF W) (res:Int) (train:Int) fr len laps b K=K (enW (adW W (res,train,fr,len,laps) b)) (enF (adW W (res,train,fr,len,laps) b)):=by
 unfold Xm adW;by_cases h:0<len
 ·rw [show decide (len>0)=true from Qk6 h,QjZ,if_pos h,XS (by simp [enW];omega),Q0,XS (by simp [enF];omega),Q0];unfold enW enF;rw [Qk8,Qk8];rfl
 ·rw [show decide (len>0)=false from decide_eq_false h,QjW,if_neg h]
theorem Qib {R:Type} {O:List Occ} (hO:OL (-1) O) (hl:O.length<=100) {train:Nat} {laps at':Int} (a0 : -10000000<=at') (a1:at'<=10000000) {W:List (U × Bool)} (hW:W.length<=800):∃ W',(∀ k0:LL->LL->oP R,Xq 400 (train:Int) laps at' (O.map enc) ((O.length:Nat):Int) (fun _ _ u v=>k0 u v) 400 0 (enW W) (enF W)=k0 (enW W') (enF W'))/\WG W'=WG W/\W'.length<=W.length+O.length:=by
 have go:∀ (ac:List Occ) (i m:Nat) (W:List (U × Bool)),O.drop i=ac->ac.length<m->W.length+ac.length<=900->∃ W',(∀ k0:LL->LL->oP R,Xq 400 (train:Int) laps at' (O.map enc) ((O.length:Nat):Int) (fun _ _ u v=>k0 u v) m (i:Int) (enW W) (enF W)=k0 (enW W') (enF W'))/\WG W'=WG W/\W'.length<=W.length+ac.length:=by
  intro ac;induction ac with
  |nil=>
   intro i m W hd hm hw;obtain ⟨m,rfl⟩:∃ k,m=k+1:=⟨m-1,by simp at hm;omega⟩;have:=Uf hd;exact ⟨W,fun k0=>by rw [Xq,show decide ((i:Int)<((O.length:Nat):Int))=false by simpa using this,QjW],rfl,by simp⟩
  |cons q ac ih=>
   intro i m W hd hm hw;obtain ⟨m,rfl⟩:∃ k,m=k+1:=⟨m-1,by simp at hm;omega⟩;obtain ⟨e,aj,hi⟩:=Zg hd;have hq:=hO.mem q (QjY e);obtain ⟨x,hx⟩:∃ x:Nat,q.1=x:=⟨q.1.toNat,by omega⟩;rw [List.length_cons] at hw;have al:=Q4M (W:=W) (u:=(x,train,at'+q.2.1,q.2.2-q.2.1,laps)) (b:=false);obtain ⟨W',a,h2,c⟩:=ih (i+1) m (adW W (x,train,at'+q.2.1,q.2.2-q.2.1,laps) false) aj (by simpa using hm) Zzq;refine ⟨W',fun k0=>?_,by rw [h2,Q8N],by rw [List.length_cons];omega⟩;rw [Xq,Q9 hi,QjZ,QK e];simp -implicitDefEqProofs only [Q0,Np,MX,LG,Q2,Qu (show i<=1000 by omega),Q6 (x:=at'+q.2.1) Zzq Zzq,Q6 (x:=q.2.2-q.2.1) Zzq Zzq,hx,Qg3 (show W.length<=1000 by omega)];exact a k0
 exact go O 0 400 W rfl Zzq Zzq
namespace Cx
variable {X:Cx} {per:Int} {Ch Sy De A:LL} {tl:List Int} (g:X.Gd per Ch Sy A tl)
include g
variable {R:Type}
theorem Gd.rideR {c:Bool} {idx train:Nat} {laps:Int} {i k m:Nat} (hi:i<X.Ls.length) (hk:k<X.nr i) {at':Int} (a0 : -9000000<=at') (a1:at'<=9000000) {W:List (U × Bool)} (hW:W.length<=700) (aw:idx<=100):∃ W',
  (∀ k0:Int->Int->Bool->LL->LL->oP R,Qi 400 (train:Int) laps (idx:Int) (i:Int) ((X.nr i:Nat):Int) c X.G.St X.G.Pt X.G.Se X.G.Li per X.skR X.Ro X.Ls Ch (X.T.map tuR) Sy De per A (encI tl) k0 (m+1) at' (k:Int) (enW W) (enF W)=Qi 400 (train:Int) laps (idx:Int) (i:Int) ((X.nr i:Nat):Int) c X.G.St X.G.Pt X.G.Se X.G.Li per X.skR X.Ro X.Ls Ch (X.T.map tuR) Sy De per A (encI tl) k0 m (X.stU per tl c idx train laps i k (at',WG W)).1 ((k+1:Nat):Int) (enW W') (enF W'))/\WG W'=(X.stU per tl c idx train laps i k (at',WG W)).2/\W'.length<=W.length+8:=by
 have hn:=(Gg g.ok hi).2.1;have r:=rd g.ok hi hk;have hr:=Rk g.ok hi hk;have so:=Qbm g.ok hi hk;have l2:=r.rt.l2;have l24:=r.rt.l24;have h:=g.runV_rng hi hk;have h2:=g.gapV_rng hi hk;obtain ⟨d0,_,_,_,_,_,y,_⟩:=Q7r r.rt (j:=0) Zzq;obtain ⟨d1,_,_,_,_,_,e1,_⟩:=Q7r r.rt (j:=(X.st i k).length-1) Zzq;have z:Q1 (X.st i k) 0=some [Q4 (sec (X.st i k) 0:Int),Q4 d0]:=y;have aa:Q1 (X.st i k) (((X.st i k).length-1:Nat):Int)=some [Q4 (sec (X.st i k) ((X.st i k).length-1):Int),Q4 d1]:=by rw [Qa,e1]
 have hw:wJ (wJ ((((X.st i k).length:Nat):Int)-0)-1)=(((X.st i k).length-1:Nat):Int):=by rw [Q6 (x:=(((X.st i k).length:Nat):Int)-0) Zzq Zzq,Q6 Zzq Zzq];omega
 have he:=g.endV_rng hi hk (a:=at');have aj:(X.gapV per tl i k).2=true->wJ (wJ (at'+X.runV per tl i k)+(X.gapV per tl i k).1)=X.endV per tl i k at':=fun hg=>by
  unfold endV;rw [Q6 (x:=at'+X.runV per tl i k) Zzq Zzq,if_pos hg,Q6 Zzq Zzq]
 have an:(X.gapV per tl i k).2=false->wJ (wJ (at'+X.runV per tl i k)+60)=X.endV per tl i k at':=fun hg=>by
  unfold endV;rw [Q6 (x:=at'+X.runV per tl i k) Zzq Zzq,hg,if_neg Qks,Q6 Zzq Zzq]
 have au:∀ K':D->D->Option (D × D),Y1 400 per X.skR X.Ro X.Ls Ch (X.T.map tuR) Sy De (i:Int) (k:Int) K'=K' (D.sl 2 (X.st i k)) (Q4 0):=fun K'=>Q95 g.ok hi hk K'
 have aq:Q1 X.skR 0=some [D.str X.nm,Q4 X.tl,Q4 X.sp,Q4 X.ac,Q4 X.br]:=rfl;have fb:(bif (bif ((idx:Int) == 0) then ((k:Int) == 0) else false) then !c else false)=decide (c=false/\idx=0/\k=0):=by
  cases c
  ·by_cases h:idx=0
   ·by_cases h2:k=0
    ·subst h h2;rfl
    ·rw [show ((k:Int) == 0)=false by simp;omega,decide_eq_false (by simp [h2])];cases ((idx:Int) == 0) <;> rfl
   ·rw [show ((idx:Int) == 0)=false by simp;omega,decide_eq_false (by simp [h])];rfl
  ·rw [decide_eq_false (by simp)];cases (bif ((idx:Int) == 0) then ((k:Int) == 0) else false) <;> rfl
 have n:=Q6 (x:=at'+X.run i k) Zzq Zzq;have o:=Q6 (x:=X.endV per tl i k at'-at') Zzq Zzq;have p:=Q6 (x:=X.endV per tl i k at'-at'-X.run i k) Zzq Zzq;have tail:∀ (k0:Int->Int->Bool->LL->LL->oP R) (W1:List (U × Bool)),W1.length<=800->(gb true (YI 400 X.Ls (X.T.map tuR) per A (encI tl) (i:Int) (k:Int) Tu2) (0,false) fun l=>
   bif (!l.2) then
   gb true (XA 400 X.Ls per A (encI tl) (i:Int) (k:Int) some) 0 fun q=>
   gb true (pSl 2 (D.sl 2 (X.st i k))) [] fun ab=>
   gb true (pIw (Q4 0)) 0 fun ac=>
   gb true (Vi 400 ab ac some) 0 fun ad=>
   gb true (Xm 400 (enW W1) (enF W1) ad (train:Int) (wJ (at'+X.run i k)) (wJ ((wJ ((wJ ((wJ (at'+q))+(60:Int)))-at'))-X.run i k)) laps true Tu2) ([],[]) fun s=>
   Qi 400 (train:Int) laps (idx:Int) (i:Int) ((X.nr i:Nat):Int) c X.G.St X.G.Pt X.G.Se X.G.Li per X.skR X.Ro X.Ls Ch (X.T.map tuR) Sy De per A (encI tl) k0 m (wJ ((wJ (at'+q))+(60:Int))) ((k+1:Nat):Int) s.1 s.2
   else
   gb true (XA 400 X.Ls per A (encI tl) (i:Int) (k:Int) some) 0 fun t=>
   gb true (pSl 2 (D.sl 2 (X.st i k))) [] fun ae=>
   gb true (pIw (Q4 0)) 0 fun ag=>
   gb true (Vi 400 ae ag some) 0 fun ah=>
   gb true (Xm 400 (enW W1) (enF W1) ah (train:Int) (wJ (at'+X.run i k)) (wJ ((wJ ((wJ ((wJ (at'+t))+l.1))-at'))-X.run i k)) laps true Tu2) ([],[]) fun v=>
   Qi 400 (train:Int) laps (idx:Int) (i:Int) ((X.nr i:Nat):Int) c X.G.St X.G.Pt X.G.Se X.G.Li per X.skR X.Ro X.Ls Ch (X.T.map tuR) Sy De per A (encI tl) k0 m (wJ ((wJ (at'+t))+l.1)) ((k+1:Nat):Int) v.1 v.2)=Qi 400 (train:Int) laps (idx:Int) (i:Int) ((X.nr i:Nat):Int) c X.G.St X.G.Pt X.G.Se X.G.Li per X.skR X.Ro X.Ls Ch (X.T.map tuR) Sy De per A (encI tl) k0 m (X.endV per tl i k at') ((k+1:Nat):Int) (enW (adW W1 (sec (X.st i k) ((X.st i k).length-1),train,at'+X.run i k,X.endV per tl i k at'-at'-X.run i k,laps) true)) (enF (adW W1 (sec (X.st i k) ((X.st i k).length-1),train,at'+X.run i k,X.endV per tl i k at'-at'-X.run i k,laps) true)):=fun k0 W1 ar=>by
  rw [g.gapR hi hk,Q0];unfold Vi;simp -implicitDefEqProofs only [g.runR hi hk,Q0,QA,Q2,hw,aa,QjU];cases hg:(X.gapV per tl i k).2
  ·rw [Qkm,QjZ,an hg,n,o,p,Qg3 Zzq,Q0]
  ·rw [Qke,QjW,aj hg,n,o,p,Qg3 Zzq,Q0]
 have ak:=Q4M (W:=W) (u:=(sec (X.st i k) 0,train,at'-60,60,laps)) (b:=true);obtain ⟨W1,f,o2,o3⟩:=Qib (R:=R) so.1 Zzq (train:=train) (laps:=laps) (show -10000000<=at' by omega) Zzq (W:=if c=false/\idx=0/\k=0 then adW W (sec (X.st i k) 0,train,at'-60,60,laps) true else W) (by split <;> omega);have ar:W1.length<=W.length+7:=by split at o3 <;> omega
 have al:=Q4M (W:=W1) (u:=(sec (X.st i k) ((X.st i k).length-1),train,at'+X.run i k,X.endV per tl i k at'-at'-X.run i k,laps)) (b:=true);refine ⟨adW W1 (sec (X.st i k) ((X.st i k).length-1),train,at'+X.run i k,X.endV per tl i k at'-at'-X.run i k,laps) true,fun k0=>?_,?_,by omega⟩
 ·rw [Qi,Q9 hk,QjZ,au,Q0,Qa,(Gg g.ok hi).1];simp -implicitDefEqProofs only [Q0,QjU,QjX,Q2,QA,XE,aq,Qeq g.ok hi hk,fb,Qk1,Qu (show k<=1000 by omega),Q6 (x:=at'-60) Zzq Zzq];by_cases hf:c=false/\idx=0/\k=0
  ·unfold Gr;rw [if_pos hf] at f;rw [Qk6 hf,QjZ];simp -implicitDefEqProofs only [Q0,z,QjU,Q2,Qg3 (show W.length<=1000 by omega)];exact (f _).trans (tail k0 W1 Zzq)
  ·rw [if_neg hf] at f;rw [decide_eq_false hf,QjW];exact (f _).trans (tail k0 W1 Zzq)
 ·rw [Q6F,o2];unfold stU;by_cases hf:c=false/\idx=0/\k=0
  ·rw [if_pos hf,if_pos hf,Q6F]
  ·rw [if_neg hf,if_neg hf]
end Cx
end Go.Vx
namespace Go.Vx
variable {R:Type}
def Yc (n:Nat) (f:LL) (d:Int) (k0:Int->Int->Bool->LL->oP R):Nat->Int->Int->LL->oP R
 | 0,_,_,_=>none
 | m+1,b,a,e=>bif decide (a<d) then gb true (Q1 f a) [] fun c=>gb true (c[0]?) oF fun i=>gb true (c[1]?) oF fun j=>gb true (c[2]?) oF fun k=>gb true (c[3]?) oF fun g=>gb true (Ym ((e.length+[[Q4 b]].length)*8)) () fun l=>gb true (pSl 4 g) [] fun h=>Yc n f d k0 m (wJ (b+(h.length:Int))) (wJ (a+1)) (e++[[Q4 b]]) else k0 b a (decide (a<d)) e
def XN (n:Nat) (c:LL) (b:Int) (d e f g h i j k:LL) (l:Int) (o p:LL) (q:Bool) (r:LL) (s:Int) (t:LL) (k0:Int->Bool->LL->oP R):Nat->Int->LL->oP R
 | 0,_,_=>none
 | m+1,a,u=>bif decide (a<b) then gb true (Q1 c a) [] fun v=>gb true (v[0]?) oF fun x=>gb true (v[1]?) oF fun y=>gb true (pSl 1 x) [] fun z=>gb true (Gx y) false fun aa=>gb true (ZA n d e f g h i j k l o p q r t s u a z aa some) [] fun ab=>XN n c b d e f g h i j k l o p q r s t k0 m (wJ (a+1)) ab else k0 a (decide (a<b)) u
def JV (n:Nat) (f g h i:LL) (o:Int) (j k b l c p q a2:LL) (r:Bool) (K:LL->Int->oP R):oP R:= gb true (VP n f g h i o j k b l c p q Tu4) (0,[],[],0) fun a=>bif (a.2.2.2 != 0) then K [] a.2.2.2 else gb true (Vu n a.1 a.2.1 a.2.2.1 a2 some) false fun d=>bif !d then K [] 1 else gb true (YY n b c some) [] fun e=>Yc n b (b.length:Int) (fun t x y u=>gb true (X1 n b c some) [] fun m=>XN n m (m.length:Int) f g h i j k b l a.1 a.2.2.1 a2 r e t u (fun z aa v=>K v 0) n 0 []) n 0 0 []
def XK (n:Nat) (b c d e:LL) (f:Int) (g h i j k l m a2:LL) (K:LL->Int->oP R):oP R:= gb true (JV n b c d e f g h i j k l m a2 false Tu2) ([],0) fun a=>K a.1 a.2

def Wp (n:Nat) (c:LL) (b:Int) (d e f g:LL) (h:Int) (i j k l o p q:LL) (r:Int) (s t:LL) (k0:Int->Bool->LL->LL->oP R):Nat->Int->LL->LL->oP R
 | 0,_,_,_=>none
 | m+1,a,u,v=>bif decide (a<b) then gb true (Q1 c a) [] fun x=>gb true (x[0]?) oF fun z=>gb true (x[1]?) oF fun aa=>gb true (pSl 1 z) [] fun ab=>gb true (Gx aa) false fun ac=>gb true (UM n d e f g h i j k l o p q r s t u v a ab ac Tu2) ([],[]) fun y=>Wp n c b d e f g h i j k l o p q r s t k0 m (wJ (a+1)) y.1 y.2 else k0 a (decide (a<b)) u v
def VY (n:Nat) (e f g h:LL) (i:Int) (j k b l c m o a2:LL) (KA:Int->oP R) (KB:LL->LL->LL->LL->Int->LL->LL->LL->LL->LL->LL->LL->Int->LL->LL->LL->LL->LL->Int->oP R):oP R:= gb true (VE n e f g h i j k b l c m o Tu4) (0,[],[],0) fun a=>bif (a.2.2.2 != 0) then KA a.2.2.2 else gb true (Gl n a.1 a.2.1 a.2.2.1 a2 some) false fun p=>bif !p then KA 1 else gb true (WF n b c some) [] fun d=>Wp n d (d.length:Int) e f g h i j k b l c m o a.1 a.2.2.1 a2 (fun t u r s=>KB e f g h i j k b l c m o a.1 a.2.1 a.2.2.1 a2 r s 0) n 0 [] []

def YZ (n:Nat) (c:Int) (d e:LL) (k0:Int->Bool->LL->oP R):Nat->Int->LL->oP R
 | 0,_,_=>none
 | m+1,a,f=>bif decide (a<c) then gb true (inB (e.length) a) () fun q=>gb true (e[a.toNat]?) [] fun l=>gb true (l[0]?) oF fun o=>gb true (Gx o) false fun p=>bif p then gb true (inB (d.length) a) () fun r=>gb true (d[a.toNat]?) [] fun b=>gb true (b[0]?) oF fun g=>gb true (b[1]?) oF fun h=>gb true (b[2]?) oF fun i=>gb true (b[3]?) oF fun j=>gb true (b[4]?) oF fun k=>gb true (Ym ((f.length+[[g,h,i,j,k]].length)*40)) () fun s=>YZ n c d e k0 m (wJ (a+1)) (f++[[g,h,i,j,k]]) else YZ n c d e k0 m (wJ (a+1)) f else k0 a (decide (a<c)) f
def Wv (n:Nat) (e f g h:LL) (i:Int) (j k l m o p q a2:LL) (K:LL->Int->oP R):oP R:= gb true (VY n e f g h i j k l m o p q a2 (fun c=>some (.inl c)) (fun c d b a r s r6 t u v x y z aa ab ac ad ae ag=>some (.inr (c,d,b,a,r,s,r6,t,u,v,x,y,z,aa,ab,ac,ad,ae,ag)))) (.inl 0) fun d=>smX d (fun b=>bif (b != 0) then K [] b else none) fun a=>bif (a.2.2.2.2.2.2.2.2.2.2.2.2.2.2.2.2.2.2 != 0) then K [] a.2.2.2.2.2.2.2.2.2.2.2.2.2.2.2.2.2.2 else YZ n (a.2.2.2.2.2.2.2.2.2.2.2.2.2.2.2.2.1.length:Int) a.2.2.2.2.2.2.2.2.2.2.2.2.2.2.2.2.1 a.2.2.2.2.2.2.2.2.2.2.2.2.2.2.2.2.2.1 (fun ai aj ah=>K ah 0) n 0 []

end Go.Vx
namespace Go.Vx
theorem Qcp {us:List U} {j:Nat} {u:U} (e:us[j]? = some u):Q1 (us.map B7) (j:Int)=some (B7 u):=by
 rw [Qa,Qki,e];rfl
theorem Qco {R:Type} {W:List (U × Bool)} (hl:W.length<=380) (K:LL->oP R):YZ 400 ((W.length:Nat):Int) (enW W) (enF W) (fun _ _ w=>K w) 400 0 []=K ((WG W).map B7):=by
 refine Qx (r:=fun m j=>YZ 400 ((W.length:Nat):Int) (enW W) (enF W) (fun _ _ w=>K w) m j ((WG (W.take j.toNat)).map B7)) (N:=W.length) (fun m j hj=>?_) (fun m=>?_) W.length 400 0 Zzq Zzq
 ·simp only [QjV];have e:=Qk0 hj;generalize W[j]=w at e;have e1:(enW W)[j]? = some (B7 w.1):=by unfold enW;rw [Qki,e];rfl
  have e2:(enF W)[j]? = some [D.bool w.2]:=by unfold enF;rw [Qki,e];rfl
  have hs:(WG (W.take j)).length<=j:=by
   unfold WG;rw [Qk1];exact Nat.le_trans (List.length_filter_le ..) (by simp;omega)
  rw [YZ,Q9 hj,QjZ,ZI Zzq (by simp [enF];omega),ZI Zzq (by simp [enW];omega),QjV,e1,e2,YJ e];simp -implicitDefEqProofs only [Q0,QjU,QjX,Rj,Qu (show j<=1000 by omega),B7];unfold WG at hs ⊢;rw [List.filter_append];cases hw:w.2 with
  |true=>
   rw [QjZ,XS (by simp at hs ⊢;omega),Q0,List.filter_cons_of_pos (by simpa using hw),List.filter_nil,Qk8,Qk8];rfl
  |false=>rw [QjW,List.filter_cons_of_neg (by simp [hw]),List.filter_nil,Qkf]
 ·simp only [QjV];rw [YZ,Ql,QjW,Qka]
namespace Cx
variable {X:Cx} {per:Int} {Ch Sy De A:LL} {tl:List Int} (g:X.Gd per Ch Sy A tl)
include g
variable {R:Type}
theorem Gd.ridesR {cl:Bool} {idx train:Nat} {laps:Int} {i:Nat} (hi:i<X.Ls.length) {s:Int × List U} (s0 : -5000000<=s.1) (s1:s.1<=5000000) (ac:idx<=100):∀ (c m k:Nat) (W:List (U × Bool)),k+c=X.nr i->c<m->W.length+8*c<=700->WG W=(X.rideU per tl cl idx train laps i s k).2->∃ W',
  (∀ k0:Int->LL->LL->oP R,Qi 400 (train:Int) laps (idx:Int) (i:Int) ((X.nr i:Nat):Int) cl X.G.St X.G.Pt X.G.Se X.G.Li per X.skR X.Ro X.Ls Ch (X.T.map tuR) Sy De per A (encI tl) (fun a _ _ u v=>k0 a u v) m (X.rideU per tl cl idx train laps i s k).1 (k:Int) (enW W) (enF W)=k0 (X.rideU per tl cl idx train laps i s (X.nr i)).1 (enW W') (enF W'))/\WG W'=(X.rideU per tl cl idx train laps i s (X.nr i)).2/\W'.length<=W.length+8*c
 |0,m+1,k,W,hk,_,_,hs=>⟨W,fun k0=>by
  rw [Qi,show decide ((k:Int)<((X.nr i:Nat):Int))=false from decide_eq_false Zzq,QjW,show k=X.nr i by omega],by rw [hs,show k=X.nr i by omega],by omega⟩
 |c+1,m+1,k,W,hk,hm,hW,hs=>by
  have hn:=(Gg g.ok hi).2.1;have hb:=g.rideU_rng (c:=cl) (idx:=idx) (train:=train) (laps:=laps) hi (s:=s) (k:=k) Zzq;have aj:X.rideU per tl cl idx train laps i s k=((X.rideU per tl cl idx train laps i s k).1,WG W):=by rw [hs]
  obtain ⟨W1,b,h2,d⟩:=g.rideR (R:=R) (c:=cl) (idx:=idx) (train:=train) (laps:=laps) (m:=m) (De:=De) hi (show k<X.nr i by omega) (at':=(X.rideU per tl cl idx train laps i s k).1) Zzq Zzq (W:=W) Zzq ac;have ak:WG W1=(X.rideU per tl cl idx train laps i s (k+1)).2:=by rw [rideU,aj,h2]
  obtain ⟨W',t1,t2,e⟩:=Gd.ridesR hi s0 s1 ac c m (k+1) W1 Zzq Zzq Zzq ak;refine ⟨W',fun k0=>?_,t2,by omega⟩;rw [b];have e1:(X.stU per tl cl idx train laps i k ((X.rideU per tl cl idx train laps i s k).1,WG W)).1=(X.rideU per tl cl idx train laps i s (k+1)).1:=by rw [rideU,<- aj]
  rw [e1];exact t1 k0
theorem Gd.linesR {cl:Bool} {train:Nat} {laps:Int} {ls:List Nat} (ac:∀ i∈ls,i<X.Ls.length) (ak:ls.length<=3) {s:Int × List U} (s0:0<=s.1) (s1:s.1<=300):∀ (c m j:Nat) (W:List (U × Bool)),j+c=ls.length->c<m->W.length+16*c<=600->WG W=(X.lineU per tl cl train laps ls s j).2->∃ W',
  (∀ k0:LL->LL->oP R,Yg 400 (train:Int) laps ((ls.length:Nat):Int) (Ez ls) cl X.G.St X.G.Pt X.G.Se X.G.Li per X.skR X.Ro X.Ls Ch (X.T.map tuR) Sy De per A (encI tl) (fun _ _ _ u v=>k0 u v) m (X.lineU per tl cl train laps ls s j).1 (j:Int) (enW W) (enF W)=k0 (enW W') (enF W'))/\WG W'=(X.lineU per tl cl train laps ls s ls.length).2/\W'.length<=W.length+16*c
 |0,m+1,j,W,hj,_,_,hs=>⟨W,fun k0=>by
  rw [Yg,show decide ((j:Int)<((ls.length:Nat):Int))=false from decide_eq_false Zzq,QjW],by rw [hs,show j=ls.length by omega],by omega⟩
 |c+1,m+1,j,W,hj,hm,hW,hs=>by
  have aj:j<ls.length:=by omega
  have e:=Qk0 aj;have hi:=ac _ (QjY e);have hd:ls.getD j 0=ls[j]:=by rw [Qk2,e];rfl
  have hn:=(Gg g.ok hi).2.1;have hb:=g.lineU_rng (c:=cl) (train:=train) (laps:=laps) ac (s:=s) (j:=j) Zzq;obtain ⟨W1,a,h2,b⟩:=g.ridesR (R:=R) (cl:=cl) (idx:=j) (train:=train) (laps:=laps) (De:=De) hi (s:=X.lineU per tl cl train laps ls s j) Zzq Zzq Zzq (X.nr ls[j]) 400 0 W Zzq Zzq Zzq hs;have al:WG W1=(X.lineU per tl cl train laps ls s (j+1)).2:=by rw [h2,lineU,hd]
  obtain ⟨W',t1,t2,d⟩:=Gd.linesR ac ak s0 s1 c m (j+1) W1 Zzq Zzq Zzq al;refine ⟨W',fun k0=>?_,t2,by omega⟩;rw [Yg,Q9 aj,QjZ,Ma e];simp -implicitDefEqProofs only [Q0,QjU,QjX,Q2,QA,Qa,(Gg g.ok hi).1,Qu (show j<=1000 by omega)];refine (a _).trans ?_;have e1:(X.rideU per tl cl j train laps ls[j] (X.lineU per tl cl train laps ls s j) (X.nr ls[j])).1=(X.lineU per tl cl train laps ls s (j+1)).1:=by rw [lineU,hd]
  rw [e1];exact t1 k0
theorem Gd.trainR {W:List (U × Bool)} (hW:W.length<=500) {train:Nat} {r:List Nat × Bool} (f:1<=r.1.length) (d:r.1.length<=3) (hr:∀ i∈r.1,i<X.Ls.length):∃ W',(∀ K:LL->LL->oP R,
  UM 400 X.G.St X.G.Pt X.G.Se X.G.Li per X.skR X.Ro X.Ls Ch (X.T.map tuR) Sy De per A (encI tl) (enW W) (enF W) (train:Int) (Ez r.1) r.2 K=K (enW W') (enF W'))/\WG W'=X.trainU per tl (WG W) train r/\W'.length<=W.length+48:=by
 obtain ⟨ls,c⟩:=r;dsimp only at f d hr ⊢;have hN:X.N<=6:=base_le g.ok;have p1:=g.p1;have b:=Qk0 (l:=ls) (i:=0) Zzq;have e:=hr _ (QjY b);have h:ls.getD 0 0=ls[0]:=by rw [Qk2,b];rfl
 have m:=Ya g.ok (i:=ls[0]) Zzq;have ak:=Qd0 g.ok e (k:=0) (by have:=(Gg g.ok e).2.1;omega);have ht:=g.tat (i:=((2*base X.nr ls[0]:Nat):Int)) Zzq Zzq;have er:Q1 (Ez ls) 0=some [Q4 (ls[0]:Int)]:=Ma (j:=0) b;unfold trainU;dsimp only;rw [h];obtain ⟨W',t1,t2,n⟩:=g.linesR (R:=R) (cl:=c) (train:=train) (laps:=X.lapsV per tl ls c) (De:=De) hr d (s:=(Vx.tat tl ((2*base X.nr ls[0]:Nat):Int),WG W)) (by dsimp only;omega) (by dsimp only;omega) ls.length 400 0 W Zzq Zzq Zzq rfl;refine ⟨W',fun K=>?_,t2,by omega⟩;unfold UM;rw [g.lapsR hr Zzq,Q0,er];simp -implicitDefEqProofs only [Q0,QjU,Q2,EU g.ok (show ls[0]<=X.Ls.length by omega),Si (a:=base X.nr ls[0]) Zzq,ht.1,show (Ez ls).length=ls.length by simp [Ez]];exact t1 K
def usesU (X:Cx) (per:Int) (tl:List Int) (rs:List (List Nat × Bool)):Nat->List U
 |0=>[]
 |j+1=>X.trainU per tl (usesU X per tl rs j) j (rs.getD j ([],false))
omit g in
theorem Qa3 {rs:List (List Nat × Bool)}:∀ {j:Nat} {r:List Nat × Bool},rs[j]? = some r->Q4r (rs.take (j+1))=Q4r (rs.take j)+r.1.length:=by
 induction rs with
 |nil=>exact fun h=>by simp at h
 |cons a rs ih=>
  intro j r e;cases j with
  |zero=>cases e;simp [Q4r]
  |succ j=>
   have:=ih (j:=j) (by simpa using e);rw [List.take_succ_cons,List.take_succ_cons,Q4r,Q4r,this];omega
omit g in
theorem Q8x {rs:List (List Nat × Bool)}:∀ {j:Nat},Q4r (rs.take j)<=Q4r rs:=by
 induction rs with
 |nil=>simp
 |cons a rs ih=>
  intro j;cases j with
  |zero=>exact Nat.zero_le _
  |succ j=>rw [List.take_succ_cons,Q4r,Q4r];exact Nat.add_le_add_left ih _
structure RsOK (X:Cx) (rs:List (List Nat × Bool)):Prop where
 ls:∀ r∈rs,1<=r.1.length/\∀ i∈r.1,i<X.Ls.length
 sum:Q4r rs<=3
omit g in
theorem RsOK.len3 {rs:List (List Nat × Bool)} (hr:X.RsOK rs) {j:Nat} {r:List Nat × Bool} (e:rs[j]? = some r):r.1.length<=3:=by
 have:=Qa3 e;have:=Q8x (rs:=rs) (j:=j+1);have:=hr.sum;omega
omit g in
theorem RsOK.n3:∀ {rs:List (List Nat × Bool)},X.RsOK rs->rs.length<=Q4r rs
 |[],_=>Qkc _
 |a::rs,hr=>by
  have:=hr.ls a (.head _);have ih:=RsOK.n3 (rs:=rs) ⟨fun r h=>hr.ls r (.tail _ h),by have:=hr.sum;rw [Q4r] at this;omega⟩;rw [List.length_cons,Q4r];omega
theorem Gd.usesU_len {rs:List (List Nat × Bool)} (hr:X.RsOK rs):∀ {j:Nat},j<=rs.length->(X.usesU per tl rs j).length<=4*Q4r (rs.take j)
 |0,_=>Nat.zero_le _
 |j+1,hj=>by
  have ih:=Gd.usesU_len hr (j:=j) Zzq;have e:=Qk0 (l:=rs) (i:=j) Zzq;have hd:rs.getD j ([],false)=rs[j]:=by rw [Qk2,e];rfl
  have ac:=hr.ls _ (QjY e);have:=g.lineU_rng (c:=rs[j].2) (train:=j) (laps:=X.lapsV per tl rs[j].1 rs[j].2) ac.2 (s:=(Vx.tat tl ((2*base X.nr (rs[j].1.getD 0 0):Nat):Int),X.usesU per tl rs j)) (Qkc rs[j].1.length);rw [usesU,hd,Qa3 e];unfold trainU;dsimp only at this;omega
theorem Gd.usesP {rs:List (List Nat × Bool)} (hr:X.RsOK rs) (k0:LL->oP R):XN 400 (AN rs) ((rs.length:Nat):Int) X.G.St X.G.Pt X.G.Se X.G.Li X.skR X.Ro X.Ls Ch per A (encI tl) false (encI ((List.range X.L).map (tix X.T))) ((X.N:Nat):Int) (X.fst X.L) (fun _ _ w=>k0 w) 400 0 []=k0 ((X.usesU per tl rs rs.length).map B7):=by
 have n3:=hr.n3;have hs:=hr.sum;refine Qx (r:=fun m j=>XN 400 (AN rs) ((rs.length:Nat):Int) X.G.St X.G.Pt X.G.Se X.G.Li X.skR X.Ro X.Ls Ch per A (encI tl) false (encI ((List.range X.L).map (tix X.T))) ((X.N:Nat):Int) (X.fst X.L) (fun _ _ w=>k0 w) m j ((X.usesU per tl rs j.toNat).map B7)) (N:=rs.length) (fun m j hj=>?_) (fun m=>?_) rs.length 400 0 Zzq Zzq
 ·simp only [QjV];have e:=Qk0 hj;have hd:rs.getD j ([],false)=rs[j]:=by rw [Qk2,e];rfl
  have aj:=hr.ls _ (QjY e);have a:=hr.len3 e;have ak:=g.usesU_len hr (j:=j) Zzq;have:=Q8x (rs:=rs) (j:=j);have ac:Q1 (AN rs) (j:Int)=some [D.sl 1 (Ez rs[j].1),D.bool rs[j].2]:=by rw [Qa];unfold AN;rw [Qki,e];rfl
  rw [XN,Q9 hj,QjZ,ac,usesU,hd];simp -implicitDefEqProofs only [Q0,QjU,QjX,QA,Rj,g.trainP (show (X.usesU per tl rs j).length<=300 by omega) aj.1 a aj.2,Qu (show j<=1000 by omega)]
 ·simp only [QjV];rw [XN,Ql,QjW]
theorem Gd.usesR {rs:List (List Nat × Bool)} (hr:X.RsOK rs):∃ W:List (U × Bool),(∀ k0:LL->LL->oP R,Wp 400 (AN rs) ((rs.length:Nat):Int) X.G.St X.G.Pt X.G.Se X.G.Li per X.skR X.Ro X.Ls Ch (X.T.map tuR) Sy De per A (encI tl) (fun _ _ u v=>k0 u v) 400 0 [] []=k0 (enW W) (enF W))/\WG W=X.usesU per tl rs rs.length/\W.length<=380:=by
 have n3:=hr.n3;have hs:=hr.sum;have go:∀ (c m j:Nat) (W:List (U × Bool)),j+c=rs.length->c<m->W.length<=48*j->WG W=X.usesU per tl rs j->∃ W':List (U × Bool),(∀ k0:LL->LL->oP R,Wp 400 (AN rs) ((rs.length:Nat):Int) X.G.St X.G.Pt X.G.Se X.G.Li per X.skR X.Ro X.Ls Ch (X.T.map tuR) Sy De per A (encI tl) (fun _ _ u v=>k0 u v) m (j:Int) (enW W) (enF W)=k0 (enW W') (enF W'))/\WG W'=X.usesU per tl rs rs.length/\W'.length<=48*rs.length:=by
  intro c;induction c with
  |zero=>
   intro m j W hj hm hW ac;obtain ⟨m,rfl⟩:∃ k,m=k+1:=⟨m-1,by omega⟩;refine ⟨W,fun k0=>?_,by rw [ac,show j=rs.length by omega],by omega⟩;rw [Wp,show decide ((j:Int)<((rs.length:Nat):Int))=false from decide_eq_false Zzq,QjW]
  |succ c ih=>
   intro m j W hj hm hW ac;obtain ⟨m,rfl⟩:∃ k,m=k+1:=⟨m-1,by omega⟩;have ak:j<rs.length:=by omega
   have e:=Qk0 ak;have hd:rs.getD j ([],false)=rs[j]:=by rw [Qk2,e];rfl
   have aj:=hr.ls _ (QjY e);obtain ⟨W1,b,h2,d⟩:=g.trainR (R:=LL × LL) (De:=De) (W:=W) Zzq (train:=j) aj.1 (hr.len3 e) aj.2;obtain ⟨W',t1,t2,a⟩:=ih m (j+1) W1 Zzq Zzq Zzq (by rw [h2,ac,usesU,hd]);refine ⟨W',fun k0=>?_,t2,a⟩;have al:Q1 (AN rs) (j:Int)=some [D.sl 1 (Ez rs[j].1),D.bool rs[j].2]:=by rw [Qa];unfold AN;rw [Qki,e];rfl
   rw [Wp,Q9 ak,QjZ,al];simp -implicitDefEqProofs only [Q0,QjU,QjX,QA,Rj,b,Qu (show j<=1000 by omega)];exact t1 k0
 obtain ⟨W',t1,t2,a⟩:=go rs.length 400 0 [] Zzq Zzq (by simp) rfl;exact ⟨W',t1,t2,by omega⟩
end Cx
end Go.Vx
namespace Go.Vx
variable {R:Type}
def T1 (n:Nat) (c d e f:LL) (g:Int) (h i a j b k l:LL) (K:LL->Int->oP R):oP R:= gb true (WS n c d e f g h i a j b k l some) 0 fun m=>bif (m != 0) then K [] 1 else gb true (X1 n a b some) [] fun o=>K o 0
def Z3 (n:Nat) (d h2:Int) (f:LL) (e:Int) (k0:Int->Bool->LL->oP R):Nat->Int->LL->oP R
 | 0,_,_=>none
 | m+1,a,b=>bif decide (a<e) then gb true (Q1 f a) [] fun c=>gb true (c[0]?) oF fun k=>gb true (c[1]?) oF fun h=>gb true (c[2]?) oF fun l=>gb true (c[3]?) oF fun o=>gb true (c[4]?) oF fun i=>gb true (pIw i) 0 fun g=>gb (g == d) (pIw h) 0 fun j=>bif (bif (bif (g == d) then (decide (j>=h2)) else false) then (decide ((b.length:Int)<8)) else false) then gb true (Ym ((b.length+[[Q4 a]].length)*8)) () fun p=>Z3 n d h2 f e k0 m (wJ (a+1)) (b++[[Q4 a]]) else Z3 n d h2 f e k0 m (wJ (a+1)) b else k0 a (decide (a<e)) b
def P1 (n:Nat) (a:LL) (a1 a2:Int) (K:LL->oP R):oP R:= Z3 n a1 a2 a (a.length:Int) (fun c d b=>K b) n 0 []

def XX (n:Nat) (e:Int) (i j:LL) (f:Int) (g:LL) (a:Int) (k l:LL) (k0:oP R) (k1:Int->Bool->LL->oP R):Nat->Int->LL->oP R
 | 0,_,_=>none
 | m+1,b,c=>bif decide (b<f) then gb true (Q1 j b) [] fun d=>gb true (d[0]?) oF fun q=>gb true (d[1]?) oF fun r=>gb true (d[2]?) oF fun s=>gb true (d[3]?) oF fun t=>gb true (d[4]?) oF fun ao=>gb true (pIw q) 0 fun u=>gb true (Q1 g u) [] fun v=>gb true (v[4]?) oF fun x=>gb true (pIw x) 0 fun y=>bif (y != e) then XX n e i j f g a k l k0 k1 m (wJ (b+1)) c else bif ((c.length:Int) == 16) then k0 else gb true (pIw r) 0 fun z=>gb true (Q1 i z) [] fun aa=>gb true (aa[0]?) oF fun ab=>gb true (pSl 1 ab) [] fun ac=>gb true (Q1 ac 0) [] fun ad=>gb true (ad[0]?) oF fun ae=>gb true (pIw ae) 0 fun ag=>gb true (Q1 l ag) [] fun ah=>gb true (ah[1]?) oF fun ai=>gb true (pIw ai) 0 fun aj=>gb true (pIw s) 0 fun ak=>gb true (Hs n ak a some) 0 fun o=>gb true (pIw t) 0 fun h=>gb true (Q1 k aj) [] fun al=>gb true (al[1]?) oF fun am=>gb true (pIw am) 0 fun an=>gb true (P1 n g e an some) [] fun p=>gb true (Ym ((c.length+[[Q4 o,Q4 (if a<h then a else h),D.sl 1 p]].length)*40)) () fun ap=>XX n e i j f g a k l k0 k1 m (wJ (b+1)) (c++[[Q4 o,Q4 (if a<h then a else h),D.sl 1 p]]) else k1 b (decide (b<f)) c
def XM (n:Nat) (b i c j:LL) (d:Int) (e k f l m o p a2:LL) (g:Int) (K:LL->Int->oP R):oP R:= gb true (XK n b i c j d e k f l m o p a2 Tu2) ([],0) fun a=>bif (a.2 != 0) then K [] a.2 else bif (bif decide (g<0) then true else (decide (g>=(b.length:Int)))) then K [] 4 else gb true (T1 n b i c j d e k f l m o p Tu2) ([],0) fun q=>XX n g q.1 a.1 (a.1.length:Int) c d e f (K [] 7) (fun s t r=>K r 0) n 0 []

def CW (n:Nat) (a0 a1 a2:Int) (K:Bool->oP R):oP R:= K (bif decide (a0>=a1) then (decide (a0<=a2)) else false)

def Z0 (n:Nat) (b h2 d:Int) (e:LL) (k0:Int->Bool->LL->oP R):Nat->Int->LL->oP R
 | 0,_,_=>none
 | m+1,a,c=>bif decide (a<d) then gb true (Q1 e a) [] fun g=>gb true (g[4]?) oF fun h=>gb true (pIw h) 0 fun f=>gb (f == b) (Q1 e a) [] fun i=>gb (f == b) (i[1]?) oF fun j=>gb (f == b) (pIw j) 0 fun k=>bif (bif (bif (f == b) then (decide (k>=h2)) else false) then (decide ((c.length:Int)<8)) else false) then gb true (Ym ((c.length+[[Q4 a]].length)*8)) () fun l=>Z0 n b h2 d e k0 m (wJ (a+1)) (c++[[Q4 a]]) else Z0 n b h2 d e k0 m (wJ (a+1)) c else k0 a (decide (a<d)) c
def P0 (n:Nat) (a:LL) (a1 a2:Int) (K:LL->oP R):oP R:= Z0 n a1 a2 (a.length:Int) a (fun c d b=>K b) n 0 []

def YB (n:Nat) (d:Int) (c i:LL) (e:Int) (f:LL) (b:Int) (j k:LL) (k0:Int->Bool->LL->oP R):Nat->Int->LL->oP R
 | 0,_,_=>none
 | m+1,a,g=>bif decide (a<e) then gb true (Q1 c a) [] fun p=>gb true (p[0]?) oF fun q=>gb true (pIw q) 0 fun r=>gb true (Q1 f r) [] fun s=>gb true (s[4]?) oF fun t=>gb true (pIw t) 0 fun u=>bif (u != d) then YB n d c i e f b j k k0 m (wJ (a+1)) g else gb true (Q1 c a) [] fun v=>gb true (v[1]?) oF fun x=>gb true (pIw x) 0 fun y=>gb true (Q1 i y) [] fun z=>gb true (z[0]?) oF fun aa=>gb true (pSl 1 aa) [] fun ab=>gb true (Q1 ab 0) [] fun ac=>gb true (ac[0]?) oF fun ad=>gb true (pIw ad) 0 fun ae=>gb true (Q1 k ae) [] fun ag=>gb true (ag[1]?) oF fun ah=>gb true (pIw ah) 0 fun ai=>gb true (Q1 j ai) [] fun aj=>gb true (aj[1]?) oF fun ak=>gb true (pIw ak) 0 fun al=>gb true (Q1 c a) [] fun am=>gb true (am[2]?) oF fun an=>gb true (pIw an) 0 fun ao=>gb true (MJ n ao b some) 0 fun l=>gb true (Q1 c a) [] fun ap=>gb true (ap[3]?) oF fun aq=>gb true (pIw aq) 0 fun h=>gb true (P0 n f d al some) [] fun o=>gb true (Ym ((g.length+[[Q4 l,Q4 (if b<h then b else h),D.sl 1 o]].length)*40)) () fun ar=>YB n d c i e f b j k k0 m (wJ (a+1)) (g++[[Q4 l,Q4 (if b<h then b else h),D.sl 1 o]]) else k0 a (decide (a<e)) g
def YN (n:Nat) (c j d k:LL) (e:Int) (f l b m g o p a2:LL) (h:Int) (K:LL->Int->oP R):oP R:= gb true (Wv n c j d k e f l b m g o p a2 Tu2) ([],0) fun a=>bif (a.2 != 0) then K [] a.2 else gb true (CW n h 0 (wJ ((c.length:Int)-1)) some) false fun r=>bif !r then K [] 4 else gb true (WF n b g some) [] fun s=>YB n h a.1 s (a.1.length:Int) d e f b (fun t u i=>bif (decide ((i.length:Int)>16)) then K [] 7 else K i 0) n 0 []

end Go.Vx
namespace Go.Vx
theorem Q61 {N:Nat} {l0 l1 l2 e:LL}:∀ {l:LL} {ac:List (List UInt8)},HW N l0 l1 l2 e ac l=true->∀ r∈l,∃ (s:List UInt8) (a b c d:Int),r=[D.str s,Q4 a,Q4 b,Q4 c,Q4 d]
 |[],_,_,r,hr=>nomatch hr
 |row::l,ac,h,r,hr=>by
  unfold HW at h;split at h
  ·rename_i s a b c d;simp only [Qkd] at h;cases hr with
   |head=>exact ⟨s,a,b,c,d,rfl⟩
   |tail _ hr=>exact Q61 h.2 r hr
  ·cases h
theorem QaW {St Pt Se Li:LL} (h:P2 400 St Pt Se Li=true):∀ r∈Se,∃ (s:List UInt8) (a b c d:Int),r=[D.str s,Q4 a,Q4 b,Q4 c,Q4 d]:=by
 unfold P2 at h;simp only [Qkd] at h;exact Q61 h.1.2
def okU (X:Cx) (n:Nat) (u:U):Prop:=(∃ (nm:List UInt8) (a b c st:Int),Q1 X.G.Se (u.1:Int)=some [D.str nm,Q4 a,Q4 b,Q4 c,Q4 st])/\u.2.1<n /\ -10000000<=u.2.2.1/\u.2.2.1<=10000000
theorem Q83 {X:Cx} {n:Nat} {us:List U} {u:U} (h:∀ v∈us,okU X n v) (hu:okU X n u):∀ v∈Qaf us u,okU X n v:=by
 unfold Qaf;split
 ·intro v hv;rcases Qk3.1 hv with hv | hv
  ·exact h v hv
  ·rw [Qk9.1 hv];exact hu
 ·exact h
section
variable {n:Nat} {a0 a1 a2 a3:LL} {p:Int} {b1 b2 b3 b4 b5 b6 b7 t:LL}
theorem Qch {c d f g:LL} {h:Int} {i j k l m o q:LL} {r:Int} {s u v W1 W2:LL} (e:VY n a0 a1 a2 a3 p b1 b2 b3 b4 b5 b6 b7 t (fun a=>(some (.inl a):Option (Int ⊕ (LL × LL × LL × LL × Int × LL × LL × LL × LL × LL × LL × LL × Int × LL × LL × LL × LL × LL × Int)))) (fun a b x y z r5 r6 r7 r8 r9 ae ag ah ai aj ak al am an=>some (.inr (a,b,x,y,z,r5,r6,r7,r8,r9,ae,ag,ah,ai,aj,ak,al,am,an)))=some (.inr (c,d,f,g,h,i,j,k,l,m,o,q,r,s,u,v,W1,W2,0))) :
  Wv n a0 a1 a2 a3 p b1 b2 b3 b4 b5 b6 b7 t Tu2=YZ n ((W1.length:Nat):Int) W1 W2 (fun _ _ w=>some (w,(0:Int))) n 0 []:=by
 unfold Wv;rw [e];rfl
theorem Q1z {c:Int} (hc:c≠0) (e:VY n a0 a1 a2 a3 p b1 b2 b3 b4 b5 b6 b7 t (fun a=>(some (.inl a):Option (Int ⊕ (LL × LL × LL × LL × Int × LL × LL × LL × LL × LL × LL × LL × Int × LL × LL × LL × LL × LL × Int)))) (fun a b d f g h r6 i j k l m o q r s u v x=>some (.inr (a,b,d,f,g,h,r6,i,j,k,l,m,o,q,r,s,u,v,x)))=some (.inl c)) :
  Wv n a0 a1 a2 a3 p b1 b2 b3 b4 b5 b6 b7 t Tu2=some ([],c):=by
 unfold Wv;rw [e,Q0];show (bif (c != 0) then some ([],c) else none)=_;rw [show (c != 0)=true by simpa using hc];rfl
theorem Q0S {R:Type} {q e:Int} {E A:LL} (he:e≠0) (hb:VE n a0 a1 a2 a3 p b1 b2 b3 b4 b5 b6 b7 Tu4=some (q,E,A,e)) (KA:Int->oP R) (KB):VY n a0 a1 a2 a3 p b1 b2 b3 b4 b5 b6 b7 t KA KB=KA e:=by
 unfold VY;rw [hb,Q0];show (bif (e != 0) then KA e else _)=_;rw [show (e != 0)=true by simpa using he];rfl
theorem Q7Q {R:Type} {q:Int} {E A:LL} (hb:VE n a0 a1 a2 a3 p b1 b2 b3 b4 b5 b6 b7 Tu4=some (q,E,A,0)) (hg:Gl n q E A t some=some false) (KA:Int->oP R) (KB):VY n a0 a1 a2 a3 p b1 b2 b3 b4 b5 b6 b7 t KA KB=KA 1:=by
 unfold VY;rw [hb,Q0];show (gb true (Gl n q E A t some) false fun a=>bif (!a) then KA (1:Int) else _)=_;rw [hg];rfl
theorem Q8g {R:Type} {q:Int} {E A rr W1 W2:LL} (hb:VE n a0 a1 a2 a3 p b1 b2 b3 b4 b5 b6 b7 Tu4=some (q,E,A,0)) (hg:Gl n q E A t some=some true) (hr:WF n b3 b5 some=some rr)
  (hl:∀ k0:LL->LL->oP R,Wp n rr ((rr.length:Nat):Int) a0 a1 a2 a3 p b1 b2 b3 b4 b5 b6 b7 q A t (fun _ _ u v=>k0 u v) n 0 [] []=k0 W1 W2) (KA:Int->oP R) (KB):VY n a0 a1 a2 a3 p b1 b2 b3 b4 b5 b6 b7 t KA KB=KB a0 a1 a2 a3 p b1 b2 b3 b4 b5 b6 b7 q E A t W1 W2 0:=by
 unfold VY;rw [hb,Q0];show (gb true (Gl n q E A t some) false fun b=>bif (!b) then KA (1:Int) else gb true (WF n b3 b5 some) [] fun a=>Wp n a ((List.length a:Nat):Int) a0 a1 a2 a3 p b1 b2 b3 b4 b5 b6 b7 q A t (fun g h e f=>KB a0 a1 a2 a3 p b1 b2 b3 b4 b5 b6 b7 q E A t e f (0:Int)) n (0:Int) [] [])=_;rw [hg,Q0,hr];exact hl (fun u v=>KB a0 a1 a2 a3 p b1 b2 b3 b4 b5 b6 b7 q E A t u v (0:Int))
theorem Q6t {q e:Int} {E A:LL} {mv:Bool} (he:e≠0) (hb:VP n a0 a1 a2 a3 p b1 b2 b3 b4 b5 b6 b7 Tu4=some (q,E,A,e)):XK n a0 a1 a2 a3 p b1 b2 b3 b4 b5 b6 b7 t Tu2=some ([],e):=by
 unfold XK JV;rw [hb];show (gb true (bif (e != 0) then some ([],e) else _) ([],0) fun a=>some (a.1,a.2))=_;rw [show (e != 0)=true by simpa using he];rfl
theorem QaL {q:Int} {E A:LL} (hb:VP n a0 a1 a2 a3 p b1 b2 b3 b4 b5 b6 b7 Tu4=some (q,E,A,0)) (hg:Vu n q E A t some=some false):XK n a0 a1 a2 a3 p b1 b2 b3 b4 b5 b6 b7 t Tu2=some ([],1):=by
 unfold XK JV;rw [hb];show (gb true (gb true (Vu n q E A t some) false fun c=>bif (!c) then some ([],(1:Int)) else _) ([],0) fun a=>some (a.1,a.2))=_;rw [hg];rfl
theorem Qc8 {q m:Int} {E A rr tu fs us:LL} (hb:VP n a0 a1 a2 a3 p b1 b2 b3 b4 b5 b6 b7 Tu4=some (q,E,A,0)) (hg:Vu n q E A t some=some true) (ht:YY n b3 b5 some=some tu) (hf:∀ k0:Int->LL->Option (LL × Int),Yc n b3 ((b3.length:Nat):Int) (fun a _ _ w=>k0 a w) n 0 0 []=k0 m fs) (hr:X1 n b3 b5 some=some rr)
  (hl:∀ k0:LL->Option (LL × Int),XN n rr ((rr.length:Nat):Int) a0 a1 a2 a3 b1 b2 b3 b4 q A t false tu m fs (fun _ _ w=>k0 w) n 0 []=k0 us):XK n a0 a1 a2 a3 p b1 b2 b3 b4 b5 b6 b7 t Tu2=some (us,0):=by
 unfold XK JV;rw [hb];show (gb true (gb true (Vu n q E A t some) false fun h=>bif (!h) then some ([],(1:Int)) else gb true (YY n b3 b5 some) [] fun i=>Yc n b3 ((List.length b3:Nat):Int) (fun d l o e=>gb true (X1 n b3 b5 some) [] fun c=>XN n c ((List.length c:Nat):Int) a0 a1 a2 a3 b1 b2 b3 b4 q A t false i d e (fun j k f=>some (f,(0:Int))) n (0:Int) []) n (0:Int) (0:Int) []) ([],0) fun b=>some (b.1,b.2))=_;rw [hg,Q0,ht];show (gb true (Yc n b3 ((List.length b3:Nat):Int) (fun d l o e=>gb true (X1 n b3 b5 some) [] fun c=>XN n c ((List.length c:Nat):Int) a0 a1 a2 a3 b1 b2 b3 b4 q A t false tu d e (fun j k f=>some (f,(0:Int))) n (0:Int) []) n (0:Int) (0:Int) []) ([],0) fun b=>some (b.1,b.2))=_;rw [hf (fun d e=>gb true (X1 n b3 b5 some) [] fun c=>XN n c ((List.length c:Nat):Int) a0 a1 a2 a3 b1 b2 b3 b4 q A t false tu d e (fun j k f=>some (f,(0:Int))) n (0:Int) []),hr,Q0,hl (fun w=>some (w,(0:Int)))];rfl
end
namespace Cx
section
variable {X:Cx} {per:Int} {Ch Sy De A:LL} {tl:List Int} (g:X.Gd per Ch Sy A tl)
include g
theorem Gd.rideU_ok {c:Bool} {idx train n:Nat} (ht:train<n) {laps:Int} {i:Nat} (hi:i<X.Ls.length) {s:Int × List U} (s0 : -5000000<=s.1) (s1:s.1<=5000000) (hs:∀ u∈s.2,okU X n u):∀ {k:Nat},k<=X.nr i->∀ u∈(X.rideU per tl c idx train laps i s k).2,okU X n u
 |0,_=>hs
 |k+1,hk=>by
  have hn:=(Gg g.ok hi).2.1;have ih:=Gd.rideU_ok (c:=c) (idx:=idx) ht (laps:=laps) hi s0 s1 hs (k:=k) Zzq;have hb:=g.rideU_rng (c:=c) (idx:=idx) (train:=train) (laps:=laps) hi (s:=s) (k:=k) Zzq;have r:=rd g.ok hi (show k<X.nr i by omega);have hr:=Rk g.ok hi (show k<X.nr i by omega);have l2:=r.rt.l2;obtain ⟨_,a0,b0,c0,d0,d,_,a⟩:=Q7r r.rt (j:=0) Zzq;obtain ⟨_,a1,b1,c1,d1,e1,_,b⟩:=Q7r r.rt (j:=(X.st i k).length-1) Zzq;rw [rideU];unfold stU;refine Q83 ?_ ⟨⟨_,_,_,_,_,b⟩,ht,by dsimp only;omega,by dsimp only;omega⟩;split
  ·exact Q83 ih ⟨⟨_,_,_,_,_,a⟩,ht,by dsimp only;omega,by dsimp only;omega⟩
  ·exact ih
theorem Gd.lineU_ok {c:Bool} {train n:Nat} (ht:train<n) {laps:Int} {ls:List Nat} (ac:∀ i∈ls,i<X.Ls.length) (aj:ls.length<=3) {s:Int × List U} (s0:0<=s.1) (s1:s.1<=300) (hs:∀ u∈s.2,okU X n u):∀ {j:Nat},j<=ls.length->∀ u∈(X.lineU per tl c train laps ls s j).2,okU X n u
 |0,_=>hs
 |j+1,hj=>by
  have e:=Qk0 (l:=ls) (i:=j) Zzq;have hi:=ac _ (QjY e);have hd:ls.getD j 0=ls[j]:=by rw [Qk2,e];rfl
  have hb:=g.lineU_rng (c:=c) (train:=train) (laps:=laps) ac (s:=s) (j:=j) Zzq;have ih:=Gd.lineU_ok (c:=c) ht (laps:=laps) ac aj s0 s1 hs (j:=j) Zzq;rw [lineU,hd];exact g.rideU_ok ht hi Zzq Zzq ih (Qkc _)
theorem Gd.usesU_ok {rs:List (List Nat × Bool)} (hr:X.RsOK rs):∀ {j:Nat},j<=rs.length->∀ u∈X.usesU per tl rs j,okU X rs.length u
 |0,_=>fun u hu=>nomatch hu
 |j+1,hj=>by
  have e:=Qk0 (l:=rs) (i:=j) Zzq;have hd:rs.getD j ([],false)=rs[j]:=by rw [Qk2,e];rfl
  have ac:=hr.ls _ (QjY e);have a:=Qk0 (l:=rs[j].1) (i:=0) Zzq;have b:=ac.2 _ (QjY a);have c:rs[j].1.getD 0 0=rs[j].1[0]:=by rw [Qk2,a];rfl
  have d:=Ya g.ok (i:=rs[j].1[0]) Zzq;have aj:=Qd0 g.ok b (k:=0) (by have:=(Gg g.ok b).2.1;omega);have ht:=g.tat (i:=((2*base X.nr rs[j].1[0]:Nat):Int)) Zzq Zzq;have p1:=g.p1;rw [usesU,hd];unfold trainU;rw [c];exact g.lineU_ok (show j<rs.length by omega) ac.2 (hr.len3 e) (by dsimp only;omega) (by dsimp only;omega) (Gd.usesU_ok hr Zzq) (Qkc _)
end
variable {X:Cx} (h:X.OK) {per:Int} {Ch Sy De:LL} (hl:X.LsOK per Ch Sy) {R:Type}
include h
theorem QcX (k0:Int->LL->oP R):Yc 400 X.Ls ((X.Ls.length:Nat):Int) (fun a _ _ w=>k0 a w) 400 0 0 []=k0 ((X.N:Nat):Int) (X.fst X.L):=by
 have l1:=h.l1;refine Qx (r:=fun m i=>Yc 400 X.Ls ((X.Ls.length:Nat):Int) (fun a _ _ w=>k0 a w) m ((base X.nr i.toNat:Nat):Int) i (X.fst i.toNat)) (N:=X.Ls.length) (fun m i hi=>?_) (fun m=>?_) X.Ls.length 400 0 Zzq Zzq
 ·simp only [QjV];have hb:=Ya h (i:=i) Zzq;have hn:=(Gg h hi).2.1;have e2:X.fst i++[[D.int .i64 (base X.nr i:Int)]]=X.fst (i+1):=by simp [fst,encI,List.range_succ]
  have c:(X.fst i).length=i:=by simp [fst,encI]
  have ha:wJ (((base X.nr i:Nat):Int)+(((Kr X.Ls i).length:Nat):Int))=((base X.nr (i+1):Nat):Int):=Q8U (a:=base X.nr i) (b:=X.nr i) Zzq;rw [Yc,Q9 hi,QjZ,Qa,(Gg h hi).1];simp -implicitDefEqProofs only [Q0,QjU,QjX,QA,Qu (show i<=1000 by omega),e2,ha,XS (show ((X.fst i).length+[[D.int .i64 (base X.nr i:Int)]].length)*8<=100000 by rw [c];simp;omega)]
 ·simp only [QjV];rw [Yc,Ql,QjW];rfl
include hl
theorem Qdm (p0:2<=per) (p1:per<=300) (hc:WS 400 X.G.St X.G.Pt X.G.Se X.G.Li per X.skR X.Ro X.Ls Ch (X.T.map tuR) Sy De (some:Int->Option Int)=some 0) (c:Zw 400 X.G.St X.G.Pt X.G.Se X.G.Li per X.skR X.Ro X.Ls Ch (X.T.map tuR) Sy De (some:Int->Option Int)=some 0) (tl:List Int) {rs:List (List Nat × Bool)} (ac:X.RsOK rs) (d:X1 400 X.Ls (X.T.map tuR) some=some (AN rs)) (f:WF 400 X.Ls (X.T.map tuR) some=some (AN rs)) (i:YY 400 X.Ls (X.T.map tuR) some=some (encI ((List.range X.L).map (tix X.T)))) :
  ∃ (us:List U) (e:Int),XK 400 X.G.St X.G.Pt X.G.Se X.G.Li per X.skR X.Ro X.Ls Ch (X.T.map tuR) Sy De (encI tl) Tu2=some (us.map B7,e)/\Wv 400 X.G.St X.G.Pt X.G.Se X.G.Li per X.skR X.Ro X.Ls Ch (X.T.map tuR) Sy De (encI tl) Tu2=some (us.map B7,e)/\us.length<=12/\∀ u∈us,okU X rs.length u:=by
 have hN:X.N<=6:=base_le h;have al:(AN rs).length=rs.length:=by simp [AN]
 have ak:=Qfa h hl p0 p1 hc;have aj:=buildR h hl p0 p1 c;cases ev:X.netV per X.jns Ch Sy with
 |mk q r=>
 obtain ⟨E,A,e⟩:=r;rw [ev] at ak aj;unfold netV at ev;cases ha:X.aloneJ per X.jns with
 |false=>
  rw [ha] at ev;cases ev;exact ⟨[],13,Q6t (mv:=true) (by decide) ak,Q1z (by decide) (Q0S (by decide) aj _ _),by simp,fun u hu=>nomatch hu⟩
 |true=>
  rw [ha,QjZ] at ev;cases eh:X.hdws per X.jns X.N 0 with
  |none=>
   rw [eh] at ev;cases ev;exact ⟨[],13,Q6t (mv:=true) (by decide) ak,Q1z (by decide) (Q0S (by decide) aj _ _),by simp,fun u hu=>nomatch hu⟩
  |some H=>
   rw [eh] at ev;cases ev;have hH:=Q4v eh;have az:=Lg h hl;have ay:=CR h p0 p1 Zzq eh;have hA:(X.planned Ch Sy++H).length<400:=by rw [List.length_append];omega
   have aq:(X.evs X.L).length=2*X.N:=evs_len;have hg:=QgR p0 p1 (E:=X.evs X.L) (A:=X.planned Ch Sy++H) Zzq Zzq (fun r hr=>Qc0 h hl hH hr) hA (tl:=tl);cases an:Q7k per (X.evs X.L) (X.planned Ch Sy++H) tl with
   |false=>
    rw [an] at hg;exact ⟨[],1,QaL ak hg.1,Q1z (by decide) (Q7Q aj hg.2 _ _),by simp,fun u hu=>nomatch hu⟩
   |true=>
    rw [an] at hg;have gu:=QaN an;have g:X.Gd per Ch Sy (X.planned Ch Sy++H) tl:=⟨h,hl,p0,p1,⟨H,rfl,hH⟩,hA,by rw [gu.1,aq],gu.2.1,fun r hr=>by have:=gu.2.2 r hr;rw [aq] at this;exact this⟩;obtain ⟨W,j,k,l⟩:=g.usesR (R:=Int ⊕ (LL × LL × LL × LL × Int × LL × LL × LL × LL × LL × LL × LL × Int × LL × LL × LL × LL × LL × Int)) (De:=De) ac;refine ⟨X.usesU per tl rs rs.length,0,Qc8 ak hg.1 i (QcX h) d (fun k0=>by rw [al];exact g.usesP ac k0),(Qch (Q8g aj hg.2 f (fun k0=>by rw [al];exact j k0) _ _)).trans ?_,?_,g.usesU_ok ac (Qkc _)⟩
    ·rw [show (enW W).length=W.length by simp [enW],Qco l (fun w=>some (w,(0:Int))),k]
    ·have:=g.usesU_len ac (Qkc rs.length);rw [Qka] at this;have:=ac.sum;omega
end Cx
end Go.Vx
namespace Go.Vx
variable {R:Type}
def UB (n:Nat) (c h2:LL) (b:Int) (k0:oP R) (k1:Int->Bool->oP R):Nat->Int->oP R
 | 0,_=>none
 | m+1,a=>bif decide (a<b) then gb true (Q1 c a) [] fun d=>gb true (d[0]?) oF fun e=>gb true (pIw e) 0 fun f=>gb true (Q1 h2 a) [] fun g=>gb true (g[0]?) oF fun h=>gb true (pIw h) 0 fun i=>bif (f != i) then k0 else UB n c h2 b k0 k1 m (wJ (a+1)) else k1 a (decide (a<b))
def Tp (n:Nat) (a0 a1:LL) (K:Bool->oP R):oP R:= bif ((a0.length:Int) != (a1.length:Int)) then K false else UB n a0 a1 (a0.length:Int) (K false) (fun a b=>K true) n 0
def Wb (n:Nat) (f h2:LL) (g:Int) (k0:oP R) (k1:Int->Bool->oP R):Nat->Int->oP R
 | 0,_=>none
 | m+1,c=>bif decide (c<g) then gb true (Q1 f c) [] fun h=>gb true (h[0]?) oF fun i=>gb true (pIw i) 0 fun a=>gb true (Q1 h2 c) [] fun j=>gb true (j[0]?) oF fun k=>gb true (pIw k) 0 fun b=>gb (!(a != b)) (Q1 f c) [] fun l=>gb (!(a != b)) (l[1]?) oF fun o=>gb (!(a != b)) (pIw o) 0 fun d=>gb (!(a != b)) (Q1 h2 c) [] fun p=>gb (!(a != b)) (p[1]?) oF fun q=>gb (!(a != b)) (pIw q) 0 fun e=>gb (!(bif (a != b) then true else (d != e))) (Q1 f c) [] fun r=>gb (!(bif (a != b) then true else (d != e))) (r[2]?) oF fun s=>gb (!(bif (a != b) then true else (d != e))) (pSl 1 s) [] fun t=>gb (!(bif (a != b) then true else (d != e))) (Q1 h2 c) [] fun u=>gb (!(bif (a != b) then true else (d != e))) (u[2]?) oF fun v=>gb (!(bif (a != b) then true else (d != e))) (pSl 1 v) [] fun x=>gb (!(bif (a != b) then true else (d != e))) (Tp n t x some) false fun y=>bif (bif (bif (a != b) then true else (d != e)) then true else (!y)) then k0 else Wb n f h2 g k0 k1 m (wJ (c+1)) else k1 c (decide (c<g))
def ZL (n:Nat) (a0 a1:LL) (K:Bool->oP R):oP R:= bif ((a0.length:Int) != (a1.length:Int)) then K false else Wb n a0 a1 (a0.length:Int) (K false) (fun a b=>K true) n 0

def Ak (n:Nat)  (K:LL->oP R):oP R:= K [[Q4 8,Q4 4,D.sl 1 [[Q4 1],[Q4 2]]],[Q4 0,Q4 3,D.sl 1 [[Q4 1]]]]

def KP (n:Nat) (c:LL) (b:Int) (k0:oP R) (k1:Int->Int->Bool->oP R):Nat->Int->Int->oP R
 | 0,_,_=>none
 | m+1,d,a=>bif decide (a<b) then gb true (Q1 c a) [] fun f=>gb true (f[0]?) oF fun g=>gb true (pIw g) 0 fun e=>bif decide (e<=d) then k0 else KP n c b k0 k1 m e (wJ (a+1)) else k1 d a (decide (a<b))
def KR (n:Nat) (a:Int) (h2:LL) (e:Int) (k0:oP R) (k1:Int->Bool->oP R):Nat->Int->oP R
 | 0,_=>none
 | m+1,b=>bif decide (b<e) then gb true (Q1 h2 b) [] fun f=>gb true (f[0]?) oF fun h=>gb true (f[1]?) oF fun i=>gb true (f[2]?) oF fun j=>gb true (pIw h) 0 fun c=>gb (!(decide (c<0))) (pIw h) 0 fun d=>gb (!(bif decide (c<0) then true else (decide (d>=a)))) (pIw i) 0 fun g=>gb (!(bif (bif decide (c<0) then true else (decide (d>=a))) then true else (decide (g<1)))) (pIw i) 0 fun k=>gb (!(bif (bif (bif decide (c<0) then true else (decide (d>=a))) then true else (decide (g<1))) then true else (decide (k>a)))) (pSl 1 j) [] fun o=>bif (bif (bif (bif (bif decide (c<0) then true else (decide (d>=a))) then true else (decide (g<1))) then true else (decide (k>a))) then true else (decide ((o.length:Int)>8))) then k0 else gb true (pSl 1 j) [] fun l=>KP n l (l.length:Int) (k0) (fun p q r=>KR n a h2 e k0 k1 m (wJ (b+1))) n (-1:Int) 0 else k1 b (decide (b<e))
def L8 (n:Nat) (a0:Int) (a1:LL) (K:Bool->oP R):oP R:= bif (bif (bif decide (a0<2) then true else (decide (a0>7200))) then true else (decide ((a1.length:Int)>16))) then K false else KR n a0 a1 (a1.length:Int) (K false) (fun a b=>K true) n 0

def VO (n:Nat) (c:LL) (h2 b:Int) (k0:Int->oP R) (k1:Int->Bool->oP R):Nat->Int->oP R
 | 0,_=>none
 | m+1,a=>bif decide (a<b) then gb true (Q1 c a) [] fun d=>gb true (d[0]?) oF fun e=>gb true (pIw e) 0 fun f=>bif (h2 == f) then k0 a else VO n c h2 b k0 k1 m (wJ (a+1)) else k1 a (decide (a<b))
def Tc (n:Nat) (a0:LL) (a1:Int) (K:Int->oP R):oP R:= VO n a0 a1 (a0.length:Int) (fun a=>K a) (fun b c=>K (-1:Int)) n 0

def K8 (n:Nat) (a0:LL) (a1:Int) (K:Bool->oP R):oP R:= gb true (Tc n a0 a1 some) 0 fun a=>K (decide (a>=0))

def Nb (n:Nat) (a0 a b c e:Int) (K:Bool->oP R):oP R:= gb true (Hs n (wJ (c-a)) a0 some) 0 fun d=>gb (!(decide (d<b))) (Hs n (wJ (a-c)) a0 some) 0 fun f=>K (bif decide (d<b) then true else (decide (f<e)))

def T4 (n:Nat) (g:Int) (h2 h:LL) (i a d:Int) (k0:oP R) (k1:Int->Bool->oP R):Nat->Int->oP R
 | 0,_=>none
 | m+1,c=>bif decide (c<d) then gb true (Q1 h c) [] fun j=>gb true (j[0]?) oF fun k=>gb true (pIw k) 0 fun b=>gb (b == a) (Q1 h2 c) [] fun e=>gb (b == a) (e[0]?) oF fun l=>gb (b == a) (e[1]?) oF fun o=>gb (b == a) (e[2]?) oF fun p=>gb (b == a) (Q1 h2 i) [] fun f=>gb (b == a) (f[0]?) oF fun q=>gb (b == a) (f[1]?) oF fun r=>gb (b == a) (f[2]?) oF fun s=>gb (b == a) (pIw l) 0 fun t=>gb (b == a) (pIw o) 0 fun u=>gb (b == a) (pSl 1 p) [] fun z=>gb (b == a) (pIw q) 0 fun v=>gb (b == a) (pIw r) 0 fun x=>gb (b == a) (pSl 1 s) [] fun aa=>gb (b == a) (Nb n g t u v x some) false fun y=>bif (bif (b == a) then y else false) then k0 else T4 n g h2 h i a d k0 k1 m (wJ (c+1)) else k1 c (decide (c<d))
def F4 (n:Nat) (a0:Int) (a1 a2:LL) (a b:Int) (K:Bool->oP R):oP R:= T4 n a0 a1 a2 a b a (K false) (fun c d=>K true) n 0

def K3 (n:Nat) (h2:Int) (b d e:LL) (c:Int) (k0:oP R) (k1:Int->Bool->oP R):Nat->Int->oP R
 | 0,_=>none
 | m+1,a=>bif decide (a<c) then gb true (Q1 e a) [] fun g=>gb true (g[0]?) oF fun h=>gb true (pIw h) 0 fun f=>gb true (Q1 b a) [] fun i=>gb true (i[2]?) oF fun j=>gb true (pSl 1 j) [] fun k=>gb true (K8 n k f some) false fun l=>bif !l then k0 else gb true (F4 n h2 b d a f some) false fun o=>bif !o then k0 else K3 n h2 b d e c k0 k1 m (wJ (a+1)) else k1 a (decide (a<c))
def P5 (n:Nat) (a0:Int) (a1 a2:LL) (K:Bool->oP R):oP R:= gb true (L8 n a0 a1 some) false fun a=>bif (bif !a then true else ((a2.length:Int) != (a1.length:Int))) then K false else K3 n a0 a1 a2 a2 (a2.length:Int) (K false) (fun b c=>K true) n 0

def Pc (n:Nat)  (K:Bool->oP R):oP R:= gb true (Ak n some) [] fun b=>gb true (P5 n 10 b [[Q4 2],[Q4 1]] some) false fun a=>gb a (Ak n some) [] fun c=>gb a (P5 n 10 c [[Q4 1],[Q4 1]] some) false fun d=>K (bif a then (!d) else false)

def Y4 (n:Nat) (c b d e f:LL) (g:Int) (h i j k l o p:LL) (k0:oP R) (k1:Int->Bool->oP R):Nat->Int->oP R
 | 0,_=>none
 | m+1,a=>bif (decide (a<=(b.length:Int))) then gb true (XM n b d e f g h i j k l o p c a Tu2) ([],0) fun s=>gb true (YN n b d e f g h i j k l o p c a Tu2) ([],0) fun t=>gb true (ZL n s.1 t.1 some) false fun u=>bif (bif !u then true else (s.2 != t.2)) then k0 else Y4 n c b d e f g h i j k l o p k0 k1 m (wJ (a+1)) else k1 a (decide (a<=(b.length:Int)))
def law20_PlatformVisits (n:Nat) (a0 a1:LL) (a2:Int) (e:Bool) (K:Bool->oP R):oP R:= gb true (SD n a0 Tu12) ([],[],[],[],0,[],[],[],[],[],[],[]) fun a=>gb true (VE n a.1 a.2.1 a.2.2.1 a.2.2.2.1 a.2.2.2.2.1 a.2.2.2.2.2.1 a.2.2.2.2.2.2.1 a.2.2.2.2.2.2.2.1 a.2.2.2.2.2.2.2.2.1 a.2.2.2.2.2.2.2.2.2.1 a.2.2.2.2.2.2.2.2.2.2.1 a.2.2.2.2.2.2.2.2.2.2.2 Tu4) (0,[],[],0) fun c=>gb true (ST n c.1 c.2.1 c.2.2.1 a1 some) [] fun d=>bif e then Y4 n a1 a.1 a.2.1 a.2.2.1 a.2.2.2.1 a.2.2.2.2.1 a.2.2.2.2.2.1 a.2.2.2.2.2.2.1 a.2.2.2.2.2.2.2.1 a.2.2.2.2.2.2.2.2.1 a.2.2.2.2.2.2.2.2.2.1 a.2.2.2.2.2.2.2.2.2.2.1 a.2.2.2.2.2.2.2.2.2.2.2 (K false) (fun t u=>gb true (XM n a.1 a.2.1 a.2.2.1 a.2.2.2.1 a.2.2.2.2.1 a.2.2.2.2.2.1 a.2.2.2.2.2.2.1 a.2.2.2.2.2.2.2.1 a.2.2.2.2.2.2.2.2.1 a.2.2.2.2.2.2.2.2.2.1 a.2.2.2.2.2.2.2.2.2.2.1 a.2.2.2.2.2.2.2.2.2.2.2 a1 a2 Tu2) ([],0) fun m=>gb true (YN n a.1 a.2.1 a.2.2.1 a.2.2.2.1 a.2.2.2.2.1 a.2.2.2.2.2.1 a.2.2.2.2.2.2.1 a.2.2.2.2.2.2.2.1 a.2.2.2.2.2.2.2.2.1 a.2.2.2.2.2.2.2.2.2.1 a.2.2.2.2.2.2.2.2.2.2.1 a.2.2.2.2.2.2.2.2.2.2.2 a1 a2 Tu2) ([],0) fun o=>gb true (Pc n some) false fun p=>K (bif p then (m.2 == o.2) else false)) n (-1:Int) else Y4 n d a.1 a.2.1 a.2.2.1 a.2.2.2.1 a.2.2.2.2.1 a.2.2.2.2.2.1 a.2.2.2.2.2.2.1 a.2.2.2.2.2.2.2.1 a.2.2.2.2.2.2.2.2.1 a.2.2.2.2.2.2.2.2.2.1 a.2.2.2.2.2.2.2.2.2.2.1 a.2.2.2.2.2.2.2.2.2.2.2 (K false) (fun v x=>gb true (XM n a.1 a.2.1 a.2.2.1 a.2.2.2.1 a.2.2.2.2.1 a.2.2.2.2.2.1 a.2.2.2.2.2.2.1 a.2.2.2.2.2.2.2.1 a.2.2.2.2.2.2.2.2.1 a.2.2.2.2.2.2.2.2.2.1 a.2.2.2.2.2.2.2.2.2.2.1 a.2.2.2.2.2.2.2.2.2.2.2 d a2 Tu2) ([],0) fun q=>gb true (YN n a.1 a.2.1 a.2.2.1 a.2.2.2.1 a.2.2.2.2.1 a.2.2.2.2.2.1 a.2.2.2.2.2.2.1 a.2.2.2.2.2.2.2.1 a.2.2.2.2.2.2.2.2.1 a.2.2.2.2.2.2.2.2.2.1 a.2.2.2.2.2.2.2.2.2.2.1 a.2.2.2.2.2.2.2.2.2.2.2 d a2 Tu2) ([],0) fun r=>gb true (Pc n some) false fun s=>K (bif s then (q.2 == r.2) else false)) n (-1:Int)

end Go.Vx
namespace Go.Vx
theorem TM.lt {X:Cx} {f k:Nat} {r:List D} (h:TM X.Ls f k r):f<X.Ls.length/\k<X.nr f:=by
 obtain ⟨nm,w,rides,a,h2⟩:=h;refine ⟨(Qkb.1 a).1,?_⟩;have e:Kr X.Ls f=rides:=by unfold Kr;rw [a]
 unfold Cx.nr;rw [e];exact (Qkb.1 h2).1
theorem PlanR.lsOK {X:Cx} {per:Int} {Sk Ch Tu Sy De:LL} (h:PlanR X.G per Sk X.Ro X.Ls Ch Tu Sy De):X.LsOK per Ch Sy where
 ch:=fun row hr=>by
  obtain ⟨f,fr,t,tr,mn,mx,w,r,r',x,y,x',y',b,b',i,e,a,h2,g,j,k,c,d,_⟩:=h.ch row hr;exact ⟨f,fr,t,tr,mn,mx,w,e,a.lt.1,a.lt.2,h2.lt.1,h2.lt.2,c,d⟩
 chl:=h.chl
 sy:=fun row hr=>h.sy row hr
 syl:=h.syl
theorem QcD {Se:LL} (hS:Se.length<=96) (hr:∀ r∈Se,∃ (s:List UInt8) (a b c d:Int),r=[D.str s,Q4 a,Q4 b,Q4 c,Q4 d]) (st ln:Int):∃ t:List Int,t.length<=96/\P1 400 Se st ln some=some (encI t)/\P0 400 Se st ln some=some (encI t):=by
 have go:∀ (ac:LL) (i m:Nat) (t:List Int),Se.drop i=ac->ac.length<m->t.length<=i->i<=Se.length->∃ t':List Int,t'.length<=Se.length/\Z3 400 st ln Se ((Se.length:Nat):Int) (fun g f h=>(some h:Option LL)) m (i:Int) (encI t)=some (encI t')/\Z0 400 st ln ((Se.length:Nat):Int) Se (fun l g f=>(some f:Option LL)) m (i:Int) (encI t)=some (encI t'):=by
  intro ac;induction ac with
  |nil=>
   intro i m t hd hm ht hi;obtain ⟨m,rfl⟩:∃ k,m=k+1:=⟨m-1,by simp at hm;omega⟩;have:=Uf hd;exact ⟨t,by omega,by rw [Z3,show decide ((i:Int)<((Se.length:Nat):Int))=false by simpa using this,QjW],by rw [Z0,show decide ((i:Int)<((Se.length:Nat):Int))=false by simpa using this,QjW]⟩
  |cons r ac ih=>
   intro i m t hd hm ht hi;obtain ⟨m,rfl⟩:∃ k,m=k+1:=⟨m-1,by simp at hm;omega⟩;obtain ⟨e,al,aj⟩:=Zg hd;obtain ⟨s,a,b,c,d,rfl⟩:=hr r (QjY e);have ao:Q1 Se (i:Int)=some [D.str s,Q4 a,Q4 b,Q4 c,Q4 d]:=by rw [Qa,e]
   have ak:(encI t).length=t.length:=Jf t;rw [Z3,Z0,Q9 aj,QjZ,QjZ,ao];simp -implicitDefEqProofs only [Q0,QjU,QjX,Q2,Qu (show i<=1000 by omega),XS (show ((encI t).length+[[D.int .i64 (i:Int)]].length)*8<=100000 by rw [ak];simp;omega)];have hx:encI t++[[D.int .i64 (i:Int)]]=encI (t++[(i:Int)]):=by unfold encI;rw [Qk8];rfl
   rw [hx];cases (bif bif d == st then decide (a>=ln) else false then decide (((encI t).length:Int)<8) else false) with
   |true=>exact ih (i+1) m _ al (by simpa using hm) (by simp;omega) aj
   |false=>exact ih (i+1) m t al (by simpa using hm) Zzq aj
 obtain ⟨t,n,h2,j⟩:=go Se 0 400 [] rfl Zzq (by simp) Zzq;exact ⟨t,by omega,h2,j⟩
def Q04 (v:Int × Int × List Int):List D:=[Q4 v.1,Q4 v.2.1,D.sl 1 (encI v.2.2)]
theorem Qh0 {t:List Int} (ht:t.length<=300):Tp 400 (encI t) (encI t) (some:Bool->Option Bool)=some true:=by
 unfold Tp;rw [show (((List.length (encI t):Nat):Int) != ((List.length (encI t):Nat):Int))=false by simp,QjW,Jf];refine (KN (r:=fun m i=>UB 400 (encI t) (encI t) ((t.length:Nat):Int) (some false) (fun _ _=>some true) m i) (l:=t) (p:=fun _=>true) (E0:=some false) (E1:=some true) (fun m i q e hi=>?_) (fun m=>?_) (fuel:=400) Zzq).trans (by rw [Qkg.2 (fun _ _=>rfl)];rfl)
 ·rw [UB,Q9 hi,QjZ,Tn e];simp -implicitDefEqProofs only [Q0,QjU,Q2,Qu (show i<=1000 by omega),bne_self_eq_false,QjW,QjZ]
 ·rw [UB,Ql,QjW]
theorem QeG {V:List (Int × Int × List Int)} (hV:V.length<=300) (ht:∀ v∈V,v.2.2.length<=300):ZL 400 (V.map Q04) (V.map Q04) (some:Bool->Option Bool)=some true:=by
 unfold ZL;rw [show (((List.length (V.map Q04):Nat):Int) != ((List.length (V.map Q04):Nat):Int))=false by simp,QjW,Qk1];refine (KN (r:=fun m i=>Wb 400 (V.map Q04) (V.map Q04) ((V.length:Nat):Int) (some false) (fun _ _=>some true) m i) (l:=V) (p:=fun _=>true) (E0:=some false) (E1:=some true) (fun m i q e hi=>?_) (fun m=>?_) (fuel:=400) Zzq).trans (by rw [Qkg.2 (fun _ _=>rfl)];rfl)
 ·have ac:Q1 (V.map Q04) (i:Int)=some [Q4 q.1,Q4 q.2.1,D.sl 1 (encI q.2.2)]:=QK e;rw [Wb,Q9 hi,QjZ,ac];simp -implicitDefEqProofs only [Q0,QjU,QjX,Q2,QA,Qh0 (ht q (QjY e)),Qu (show i<=1000 by omega),bne_self_eq_false,QjW,QjZ,Qke]
 ·rw [Wb,Ql,QjW]
section
variable {n:Nat} {a0 a1 a2 a3:LL} {p s:Int} {b1 b2 b3 b4 b5 b6 b7 t us rr:LL}
theorem QcE {e:Int} (he:e≠0) (hs:XK n a0 a1 a2 a3 p b1 b2 b3 b4 b5 b6 b7 t Tu2=some (us,e)):XM n a0 a1 a2 a3 p b1 b2 b3 b4 b5 b6 b7 t s Tu2=some ([],e):=by
 unfold XM;rw [hs,Q0];show (bif (e != 0) then some ([],e) else _)=_;rw [show (e != 0)=true by simpa using he];rfl
theorem Qdk (ho:s<0\/s>=(a0.length:Int)) (hs:XK n a0 a1 a2 a3 p b1 b2 b3 b4 b5 b6 b7 t Tu2=some (us,0)):XM n a0 a1 a2 a3 p b1 b2 b3 b4 b5 b6 b7 t s Tu2=some ([],4):=by
 unfold XM;rw [hs,Q0];show (bif (bif decide (s<0) then true else decide (s>=(a0.length:Int))) then some ([],(4:Int)) else _)=_;rw [show (bif decide (s<0) then true else decide (s>=(a0.length:Int)))=true by simp only [Qkr,Bool.or_eq_true,Qkp];exact ho];rfl
theorem Qet (c:0<=s) (d:s<(a0.length:Int)) (hs:XK n a0 a1 a2 a3 p b1 b2 b3 b4 b5 b6 b7 t Tu2=some (us,0)) (hc:WS n a0 a1 a2 a3 p b1 b2 b3 b4 b5 b6 b7 some=some 0) (hr:X1 n b3 b5 some=some rr):XM n a0 a1 a2 a3 p b1 b2 b3 b4 b5 b6 b7 t s Tu2=XX n s rr us ((us.length:Nat):Int) a2 p b1 b3 (some ([],7)) (fun _ _ w=>some (w,0)) n 0 []:=by
 unfold XM T1;rw [hs,Q0,hc,Q0,hr];show (bif (bif decide (s<0) then true else decide (s>=(a0.length:Int))) then some ([],(4:Int)) else _)=_;rw [show (bif decide (s<0) then true else decide (s>=(a0.length:Int)))=false by simp only [Qkr,Bool.or_eq_false_iff,decide_eq_false_iff_not];omega];rfl
theorem Qak {e:Int} (he:e≠0) (hs:Wv n a0 a1 a2 a3 p b1 b2 b3 b4 b5 b6 b7 t Tu2=some (us,e)):YN n a0 a1 a2 a3 p b1 b2 b3 b4 b5 b6 b7 t s Tu2=some ([],e):=by
 unfold YN;rw [hs,Q0];show (bif (e != 0) then some ([],e) else _)=_;rw [show (e != 0)=true by simpa using he];rfl
theorem QaX (hl:a0.length<=1000) (ho:s<0\/s>=(a0.length:Int)) (hs:Wv n a0 a1 a2 a3 p b1 b2 b3 b4 b5 b6 b7 t Tu2=some (us,0)):YN n a0 a1 a2 a3 p b1 b2 b3 b4 b5 b6 b7 t s Tu2=some ([],4):=by
 unfold YN CW;rw [hs,Q0,Q6 (x:=(a0.length:Int)-1) Zzq Zzq];show (bif !(bif decide (s>=0) then decide (s<=(a0.length:Int)-1) else false) then some ([],(4:Int)) else _)=_;rw [show (bif decide (s>=0) then decide (s<=(a0.length:Int)-1) else false)=false by simp only [Qkl,Bool.and_eq_false_iff,decide_eq_false_iff_not];omega];rfl
theorem Qcy (hl:a0.length<=1000) (c:0<=s) (d:s<(a0.length:Int)) (hs:Wv n a0 a1 a2 a3 p b1 b2 b3 b4 b5 b6 b7 t Tu2=some (us,0)) (hr:WF n b3 b5 some=some rr):YN n a0 a1 a2 a3 p b1 b2 b3 b4 b5 b6 b7 t s Tu2=YB n s us rr ((us.length:Nat):Int) a2 p b1 b3 (fun _ _ w=>bif decide (((List.length w:Nat):Int)>16) then some ([],7) else some (w,0)) n 0 []:=by
 unfold YN CW;rw [hs,Q0,Q6 (x:=(a0.length:Int)-1) Zzq Zzq,hr];show (bif !(bif decide (s>=0) then decide (s<=(a0.length:Int)-1) else false) then some ([],(4:Int)) else _)=_;rw [show (bif decide (s>=0) then decide (s<=(a0.length:Int)-1) else false)=true by simp only [Qkl,Qkd,Qkp];omega];rfl
end
namespace Cx
variable {X:Cx} (h:X.OK) {per:Int} {Ch Sy De:LL} {R:Type}
include h
theorem Qd8 (p0:2<=per) (p1:per<=300) {rs:List (List Nat × Bool)} (a5:X.RsOK rs) {us:List U} (a9:us.length<=12) (hu:∀ u∈us,okU X rs.length u) (s:Int):∃ V:List (Int × Int × List Int),V.length<=12/\(∀ v∈V,v.2.2.length<=96) /\
  (∀ (k0:Option (LL × Int)) (k1:LL->Option (LL × Int)),XX 400 s (AN rs) (us.map B7) ((us.length:Nat):Int) X.G.Se per X.skR X.Ls k0 (fun _ _ w=>k1 w) 400 0 []=k1 (V.map Q04)) /\
  ∀ k1:LL->Option (LL × Int),YB 400 s (us.map B7) (AN rs) ((us.length:Nat):Int) X.G.Se per X.skR X.Ls (fun _ _ w=>k1 w) 400 0 []=k1 (V.map Q04):=by
 have aw:=QaW h.g.lay;have a6:=(B4 h.g.lay).2;have go:∀ (al:List U) (i m:Nat) (V:List (Int × Int × List Int)),us.drop i=al->al.length<m->V.length<=i->i<=us.length->(∀ v∈V,v.2.2.length<=96)->∃ V':List (Int × Int × List Int),V'.length<=us.length/\(∀ v∈V',v.2.2.length<=96) /\
   (∀ (k0:Option (LL × Int)) (k1:LL->Option (LL × Int)),XX 400 s (AN rs) (us.map B7) ((us.length:Nat):Int) X.G.Se per X.skR X.Ls k0 (fun _ _ w=>k1 w) m (i:Int) (V.map Q04)=k1 (V'.map Q04)) /\
   ∀ k1:LL->Option (LL × Int),YB 400 s (us.map B7) (AN rs) ((us.length:Nat):Int) X.G.Se per X.skR X.Ls (fun _ _ w=>k1 w) m (i:Int) (V.map Q04)=k1 (V'.map Q04):=by
  intro al;induction al with
  |nil=>
   intro i m V hd hm hV hi hv;obtain ⟨m,rfl⟩:∃ k,m=k+1:=⟨m-1,by simp at hm;omega⟩;have:=Uf hd;exact ⟨V,by omega,hv,fun k0 k1=>by rw [XX,show decide ((i:Int)<((us.length:Nat):Int))=false by simpa using this,QjW],fun k1=>by rw [YB,show decide ((i:Int)<((us.length:Nat):Int))=false by simpa using this,QjW]⟩
  |cons u al ih=>
   intro i m V hd hm hV hi hv;obtain ⟨m,rfl⟩:∃ k,m=k+1:=⟨m-1,by simp at hm;omega⟩;obtain ⟨e,au,aj⟩:=Zg hd;obtain ⟨⟨nm,a,b,c,st,d⟩,y,f3,f4⟩:=hu u (QjY e);have eu:Q1 (us.map B7) (i:Int)=some [Q4 (u.1:Int),Q4 (u.2.1:Int),Q4 u.2.2.1,Q4 u.2.2.2.1,Q4 u.2.2.2.2]:=Qcp e;have er:=Qk0 y;have ay:=a5.ls _ (QjY er);have p:=Qk0 (l:=rs[u.2.1].1) (i:=0) Zzq;have z:=ay.2 _ (QjY p);have q:Q1 (AN rs) (u.2.1:Int)=some [D.sl 1 (Ez rs[u.2.1].1),D.bool rs[u.2.1].2]:=by rw [Qa];unfold AN;rw [Qki,er];rfl
   have r:Q1 (Ez rs[u.2.1].1) 0=some [Q4 (rs[u.2.1].1[0]:Int)]:=Ma (j:=0) p;have aq:Q1 X.skR 0=some [D.str X.nm,Q4 X.tl,Q4 X.sp,Q4 X.ac,Q4 X.br]:=rfl;have ar:Q1 X.Ls ((rs[u.2.1].1[0]:Nat):Int)=some [D.str (nmN rs[u.2.1].1[0]),Q4 0,Q4 (X.w rs[u.2.1].1[0]),D.sl 4 (Kr X.Ls rs[u.2.1].1[0])]:=by rw [Qa,(Gg h z).1]
   by_cases an:st=s
   ·obtain ⟨t,t1,t2,t3⟩:=QcD a6 aw s X.tl;obtain ⟨V',g1,o,f,g⟩:=ih (i+1) m (V++[(u.2.2.1 % per,(if per<u.2.2.2.1 then per else u.2.2.2.1),t)]) au (by simpa using hm) (by simp;omega) aj (fun v az=>by
     rcases Qk3.1 az with h' | h'
     ·exact hv v h'
     ·rw [Qk9.1 h'];exact t1)
    rw [Qk8] at f g;have ak:Ym (((V.map Q04).length+[[D.int .i64 (u.2.2.1 % per),D.int .i64 (if per<u.2.2.2.1 then per else u.2.2.2.1),D.sl 1 (encI t)]].length)*40)=some ():=XS (by simp;omega);refine ⟨V',g1,o,fun k0 k1=>?_,fun k1=>?_⟩
    ·rw [XX,Q9 aj,QjZ,eu];simp -implicitDefEqProofs only [Q0,QjU,QjX,Q2,QA,d,show (st != s)=false by simpa using an,QjW,show ((((V.map Q04).length:Nat):Int) == 16)=false by simp;omega,q,r,ar,aq,QfQ (n:=400) (t:=per) (x:=u.2.2.1) Zzq Zzq Zzq Zzq,t2,ak,Qu (show i<=1000 by omega)];exact f k0 k1
    ·rw [YB,Q9 aj,QjZ,eu];simp -implicitDefEqProofs only [Q0,QjU,QjX,Q2,QA,d,show (st != s)=false by simpa using an,QjW,q,r,ar,aq,QfK (n:=400) (t:=per) (x:=u.2.2.1) Zzq Zzq Zzq Zzq,t3,ak,Qu (show i<=1000 by omega)];exact g k1
   ·obtain ⟨V',g1,o,f,g⟩:=ih (i+1) m V au (by simpa using hm) Zzq aj hv;refine ⟨V',g1,o,fun k0 k1=>?_,fun k1=>?_⟩
    ·rw [XX,Q9 aj,QjZ,eu];simp -implicitDefEqProofs only [Q0,QjU,QjX,Q2,d,show (st != s)=true by simpa using an,QjZ,Qu (show i<=1000 by omega)];exact f k0 k1
    ·rw [YB,Q9 aj,QjZ,eu];simp -implicitDefEqProofs only [Q0,QjU,QjX,Q2,d,show (st != s)=true by simpa using an,QjZ,Qu (show i<=1000 by omega)];exact g k1
 obtain ⟨V,h1,h2,h3,h4⟩:=go us 0 400 [] rfl Zzq (by simp) Zzq (fun v hv=>nomatch hv);exact ⟨V,by omega,h2,h3,h4⟩
theorem visE (hl:X.LsOK per Ch Sy) (p0:2<=per) (p1:per<=300) (hc:WS 400 X.G.St X.G.Pt X.G.Se X.G.Li per X.skR X.Ro X.Ls Ch (X.T.map tuR) Sy De (some:Int->Option Int)=some 0) (d:Zw 400 X.G.St X.G.Pt X.G.Se X.G.Li per X.skR X.Ro X.Ls Ch (X.T.map tuR) Sy De (some:Int->Option Int)=some 0) (tl:List Int) (s:Int) :
  ∃ (V:List (Int × Int × List Int)) (e:Int),XM 400 X.G.St X.G.Pt X.G.Se X.G.Li per X.skR X.Ro X.Ls Ch (X.T.map tuR) Sy De (encI tl) s Tu2=some (V.map Q04,e)/\YN 400 X.G.St X.G.Pt X.G.Se X.G.Li per X.skR X.Ro X.Ls Ch (X.T.map tuR) Sy De (encI tl) s Tu2=some (V.map Q04,e)/\ZL 400 (V.map Q04) (V.map Q04) (some:Bool->Option Bool)=some true:=by
 obtain ⟨rs,a,c,f,g,i⟩:=Qh7 h;have ac:X.RsOK rs:=⟨g,i⟩;obtain ⟨us,e,s1,s2,j,k⟩:=Qdm h hl p0 p1 hc d tl ac a c f;have aj:X.G.St.length<=1000:=by have:=h.g.st;have:=h.g.hN;omega
 have nil:ZL 400 (List.map Q04 []) (List.map Q04 []) (some:Bool->Option Bool)=some true:=QeG (V:=[]) (by simp) (fun v hv=>nomatch hv);by_cases he:e=0
 ·subst he;by_cases hs:0<=s/\s<(X.G.St.length:Int)
  ·obtain ⟨V,o,l,m,n⟩:=Qd8 h p0 p1 ac j k s;refine ⟨V,0,?_,?_,QeG Zzq (fun v hv=>by have:=l v hv;omega)⟩
   ·rw [Qet hs.1 hs.2 s1 hc a,Qk1];exact m _ (fun w=>some (w,0))
   ·rw [Qcy aj hs.1 hs.2 s2 c,Qk1];refine (n (fun w=>bif decide (((List.length w:Nat):Int)>16) then some ([],7) else some (w,0))).trans ?_;rw [Q8 (decide_eq_false (by simp;omega))]
  ·exact ⟨[],4,Qdk Zzq s1,QaX aj Zzq s2,nil⟩
 ·exact ⟨[],e,QcE he s1,Qak he s2,nil⟩
end Cx
theorem Qec:Pc 400 (some:Bool->Option Bool)=some true:=by kernel_rfl
theorem Q4V {n:Nat} {a0 a1 a2 a3:LL} {p:Int} {b1 b2 b3 b4 b5 b6 b7 t:LL} (hv:∀ s:Int,∃ (V:LL) (e:Int),XM n a0 a1 a2 a3 p b1 b2 b3 b4 b5 b6 b7 t s Tu2=some (V,e)/\YN n a0 a1 a2 a3 p b1 b2 b3 b4 b5 b6 b7 t s Tu2=some (V,e)/\ZL n V V (some:Bool->Option Bool)=some true) {k0 E:Option Bool} {k1:Int->Bool->Option Bool} (hk:∀ a b,k1 a b=E):∀ (c m:Nat) (i:Int),i+c=a0.length+1->c<m -> -1<=i->a0.length<=1000->Y4 n t a0 a1 a2 a3 p b1 b2 b3 b4 b5 b6 b7 k0 k1 m i=E
 |0,m+1,i,hi,_,_,_=>by
  rw [Y4,show decide (i<=((List.length a0:Nat):Int))=false from decide_eq_false Zzq,QjW,hk]
 |c+1,m+1,i,hi,hm,k,hl=>by
  obtain ⟨V,e,g,h,j⟩:=hv i;rw [Y4,show decide (i<=((List.length a0:Nat):Int))=true from Qk6 Zzq,QjZ,g,Q0,h,Q0];simp -implicitDefEqProofs only [j,Q0,Qke,QjW,bne_self_eq_false,Q6 (x:=i+1) Zzq Zzq];exact Q4V hv hk c m (i+1) Zzq Zzq Zzq hl
theorem QdF {n:Nat} {a0 a1 a2 a3:LL} {p:Int} {b1 b2 b3 b4 b5 b6 b7 l t w E A:LL} {q e s:Int} {ac:Bool} (hl:a0.length<=300) (hn:n=400) (hp:SD n l Tu12=some (a0,a1,a2,a3,p,b1,b2,b3,b4,b5,b6,b7)) (hb:VE n a0 a1 a2 a3 p b1 b2 b3 b4 b5 b6 b7 Tu4=some (q,E,A,e)) (ht:ST n q E A t some=some w)
  (hv:∀ (x:LL),x=t\/x=w->∀ s:Int,∃ (V:LL) (e:Int),XM n a0 a1 a2 a3 p b1 b2 b3 b4 b5 b6 b7 x s Tu2=some (V,e)/\YN n a0 a1 a2 a3 p b1 b2 b3 b4 b5 b6 b7 x s Tu2=some (V,e)/\ZL n V V (some:Bool->Option Bool)=some true) (ha:Pc n (some:Bool->Option Bool)=some true):law20_PlatformVisits n l t s ac some=some true:=by
 unfold law20_PlatformVisits;rw [hp,Q0];dsimp only;rw [hb,Q0];dsimp only;rw [ht,Q0];cases ac with
 |true=>
  obtain ⟨V,e',h,i,y⟩:=hv t (.inl rfl) s;rw [QjZ];refine Q4V (hv t (.inl rfl)) (fun a b=>?_) (a0.length+2) n (-1) Zzq Zzq Zzq Zzq;rw [h,i,ha,Q0,Q0,Q0];simp
 |false=>
  obtain ⟨V,e',h,i,y⟩:=hv w (.inr rfl) s;rw [QjW];refine Q4V (hv w (.inr rfl)) (fun a b=>?_) (a0.length+2) n (-1) Zzq Zzq Zzq Zzq;rw [h,i,ha,Q0,Q0,Q0];simp
theorem visitsA {l t:List Int} (hl:l.length<=9223372036854775807) (ht:t.length<=9223372036854775807) (s:Int) (ak:Bool):law20_PlatformVisits 400 (encI l) (encI t) s ak some=some true:=by
 have hp:SD 400 (encI l) Tu12∈(fun r=>∃ (G:Geo) (per:Int) (Sk Ro Ls Ch Tu Sy De:LL),PlanR G per Sk Ro Ls Ch Tu Sy De/\r=(G.St,G.Pt,G.Se,G.Li,per,Sk,Ro,Ls,Ch,Tu,Sy,De)):=QgW hl fun G per Sk Ro Ls Ch Tu Sy De h=>okI ⟨G,per,Sk,Ro,Ls,Ch,Tu,Sy,De,h,rfl⟩
 obtain ⟨_,hp,G,per,Sk,Ro,Ls,Ch,Tu,Sy,De,h,rfl⟩:=hp;obtain ⟨X,hX,rfl,rfl,rfl,rfl,rfl⟩:=h.cx;have aj:=h.lsOK;have p0:=h.p0;have p1:=h.p1;have hc:WS 400 X.G.St X.G.Pt X.G.Se X.G.Li per X.skR X.Ro X.Ls Ch (X.T.map tuR) Sy De (some:Int->Option Int)=some 0:=Qcv h some;have a:Zw 400 X.G.St X.G.Pt X.G.Se X.G.Li per X.skR X.Ro X.Ls Ch (X.T.map tuR) Sy De (some:Int->Option Int)=some 0:=QgH h;have al:X.G.St.length<=300:=by have:=hX.g.st;have:=hX.g.hN;omega
 have hb:=Cx.buildR hX aj Zzq p1 a;have hN:X.N<=6:=Cx.base_le hX;have hE:(X.netV per X.jns Ch Sy).2.1.length<=48/\((X.netV per X.jns Ch Sy).2.1.length=0\/1<=(X.netV per X.jns Ch Sy).1/\(X.netV per X.jns Ch Sy).1<=300):=by
  unfold Cx.netV;cases X.aloneJ per X.jns with
  |false=>exact ⟨by simp,.inl rfl⟩
  |true=>
   cases X.hdws per X.jns X.N 0 with
   |none=>exact ⟨by simp,.inl rfl⟩
   |some H=>
    have ar:(X.evs X.L).length=2*X.N:=Cx.evs_len;simp only [QjZ];omega
 obtain ⟨w,hw⟩:=Qe3 (A:=(X.netV per X.jns Ch Sy).2.2.1) ht hE.1 hE.2;refine QdF (q:=(X.netV per X.jns Ch Sy).1) (E:=(X.netV per X.jns Ch Sy).2.1) (A:=(X.netV per X.jns Ch Sy).2.2.1) (e:=(X.netV per X.jns Ch Sy).2.2.2) (w:=encI w) al rfl hp hb hw (fun x hx s=>?_) Qec;obtain ⟨y,rfl⟩:∃ y,x=encI y:=by
  rcases hx with rfl | rfl
  ·exact ⟨t,rfl⟩
  ·exact ⟨w,rfl⟩
 obtain ⟨V,e,p,u,v⟩:=Cx.visE hX aj Zzq p1 hc a y s;exact ⟨_,e,p,u,v⟩
end Go.Vx
namespace Go.Vx
open Go.Proofs
abbrev nT:List (LpE Tryz.prog):=[]
def gtt:TT:=[(3,⟨.int .i64,1,8,[.int .i64 0],[.int .i64 0],[],none⟩),(4,⟨.bool,1,1,[.bool false],[.bool false],[],none⟩),(5,⟨.int .u8,1,1,[.int .u8 0],[.int .u8 0],[],none⟩),(9,⟨.str,1,16,[.string ⟨#[]⟩],[.str []],[],none⟩),(22,⟨.sl 3 1,1,24,[.slice none 0 0],[.sl 1 []],[],none⟩),(23,⟨.sl 9 1,1,24,[.slice none 0 0],[.sl 1 []],[],none⟩),(24,⟨.sl 72 5,1,24,[.slice none 0 0],[.sl 5 []],[],none⟩),(25,⟨.sl 166 6,1,24,[.slice none 0 0],[.sl 6 []],[],none⟩),(27,⟨.struct,4,96,[.slice none 0 0,.slice none 0 0,.slice none 0 0,.slice none 0 0],[.sl 1 [],.sl 1 [],.sl 5 [],.sl 6 []],[(0,23),(1,23),(2,24),(3,25)],none⟩),(28,⟨.sl 59 5,1,24,[.slice none 0 0],[.sl 5 []],[],none⟩),(29,⟨.sl 129 2,1,24,[.slice none 0 0],[.sl 2 []],[],none⟩),(30,⟨.sl 70 4,1,24,[.slice none 0 0],[.sl 4 []],[],none⟩),(31,⟨.sl 67 7,1,24,[.slice none 0 0],[.sl 7 []],[],none⟩),(32,⟨.sl 135 4,1,24,[.slice none 0 0],[.sl 4 []],[],none⟩),(33,⟨.sl 75 5,1,24,[.slice none 0 0],[.sl 5 []],[],none⟩),(34,⟨.sl 77 3,1,24,[.slice none 0 0],[.sl 3 []],[],none⟩),(36,⟨.struct,8,176,[.int .i64 0,.slice none 0 0,.slice none 0 0,.slice none 0 0,.slice none 0 0,.slice none 0 0,.slice none 0 0,.slice none 0 0],[.int .i64 0,.sl 5 [],.sl 2 [],.sl 4 [],.sl 7 [],.sl 4 [],.sl 5 [],.sl 3 []],[(0,3),(1,28),(2,29),(3,30),(4,31),(5,32),(6,33),(7,34)],none⟩),(39,⟨.sl 89 3,1,24,[.slice none 0 0],[.sl 3 []],[],none⟩),(40,⟨.sl 99 6,1,24,[.slice none 0 0],[.sl 6 []],[],none⟩),(42,⟨.struct,3,56,[.int .i64 0,.slice none 0 0,.slice none 0 0],[.int .i64 0,.sl 3 [],.sl 6 []],[(0,3),(1,39),(2,40)],none⟩),(43,⟨.int .i64,1,8,[.int .i64 0],[.int .i64 0],[],none⟩),(47,⟨.sl 113 3,1,24,[.slice none 0 0],[.sl 3 []],[],none⟩),(59,⟨.struct,5,48,[.string ⟨#[]⟩,.int .i64 0,.int .i64 0,.int .i64 0,.int .i64 0],[.str [],.int .i64 0,.int .i64 0,.int .i64 0,.int .i64 0],[(0,9),(1,3),(2,3),(3,3),(4,3)],some [.str,.int .i64,.int .i64,.int .i64,.int .i64]⟩),(62,⟨.sl 22 1,1,24,[.slice none 0 0],[.sl 1 []],[],none⟩),(64,⟨.struct,7,168,[.slice none 0 0,.slice none 0 0,.slice none 0 0,.slice none 0 0,.slice none 0 0,.slice none 0 0,.slice none 0 0],[.sl 1 [],.sl 1 [],.sl 5 [],.sl 6 [],.sl 1 [],.sl 1 [],.sl 1 []],[(0,27),(4,62),(5,62),(6,62)],none⟩),(67,⟨.struct,7,56,[.int .i64 0,.int .i64 0,.int .i64 0,.int .i64 0,.int .i64 0,.int .i64 0,.int .i64 0],[.int .i64 0,.int .i64 0,.int .i64 0,.int .i64 0,.int .i64 0,.int .i64 0,.int .i64 0],[(0,3),(1,3),(2,3),(3,3),(4,3),(5,3),(6,3)],some [.int .i64,.int .i64,.int .i64,.int .i64,.int .i64,.int .i64,.int .i64]⟩),(68,⟨.sl 132 4,1,24,[.slice none 0 0],[.sl 4 []],[],none⟩),(70,⟨.struct,4,56,[.string ⟨#[]⟩,.int .i64 0,.int .i64 0,.slice none 0 0],[.str [],.int .i64 0,.int .i64 0,.sl 4 []],[(0,9),(1,3),(2,3),(3,68)],none⟩),(72,⟨.struct,5,48,[.string ⟨#[]⟩,.int .i64 0,.int .i64 0,.int .i64 0,.int .i64 0],[.str [],.int .i64 0,.int .i64 0,.int .i64 0,.int .i64 0],[(0,9),(1,3),(2,3),(3,3),(4,3)],some [.str,.int .i64,.int .i64,.int .i64,.int .i64]⟩),(75,⟨.struct,5,40,[.int .i64 0,.int .i64 0,.int .i64 0,.int .i64 0,.int .i64 0],[.int .i64 0,.int .i64 0,.int .i64 0,.int .i64 0,.int .i64 0],[(0,3),(1,3),(2,3),(3,3),(4,3)],some [.int .i64,.int .i64,.int .i64,.int .i64,.int .i64]⟩),(77,⟨.struct,3,24,[.int .i64 0,.int .i64 0,.int .i64 0],[.int .i64 0,.int .i64 0,.int .i64 0],[(0,3),(1,3),(2,3)],some [.int .i64,.int .i64,.int .i64]⟩),(78,⟨.sl 82 1,1,24,[.slice none 0 0],[.sl 1 []],[],none⟩),(82,⟨.sl 146 3,1,24,[.slice none 0 0],[.sl 3 []],[],none⟩),(83,⟨.sl 87 4,1,24,[.slice none 0 0],[.sl 4 []],[],none⟩),(87,⟨.struct,4,32,[.int .i64 0,.int .i64 0,.int .i64 0,.int .i64 0],[.int .i64 0,.int .i64 0,.int .i64 0,.int .i64 0],[(0,3),(1,3),(2,3),(3,3)],some [.int .i64,.int .i64,.int .i64,.int .i64]⟩),(89,⟨.struct,3,24,[.int .i64 0,.int .i64 0,.int .i64 0],[.int .i64 0,.int .i64 0,.int .i64 0],[(0,3),(1,3),(2,3)],some [.int .i64,.int .i64,.int .i64]⟩),(92,⟨.sl 97 2,1,24,[.slice none 0 0],[.sl 2 []],[],none⟩),(97,⟨.struct,2,16,[.int .i64 0,.int .i64 0],[.int .i64 0,.int .i64 0],[(0,3),(1,3)],some [.int .i64,.int .i64]⟩),(99,⟨.struct,6,48,[.int .i64 0,.int .i64 0,.int .i64 0,.int .i64 0,.int .i64 0,.int .i64 0],[.int .i64 0,.int .i64 0,.int .i64 0,.int .i64 0,.int .i64 0,.int .i64 0],[(0,3),(1,3),(2,3),(3,3),(4,3),(5,3)],some [.int .i64,.int .i64,.int .i64,.int .i64,.int .i64,.int .i64]⟩),(100,⟨.sl 107 5,1,24,[.slice none 0 0],[.sl 5 []],[],none⟩),(103,⟨.sl 109 2,1,24,[.slice none 0 0],[.sl 2 []],[],none⟩),(107,⟨.struct,5,40,[.int .i64 0,.int .i64 0,.int .i64 0,.int .i64 0,.int .i64 0],[.int .i64 0,.int .i64 0,.int .i64 0,.int .i64 0,.int .i64 0],[(0,3),(1,3),(2,3),(3,3),(4,3)],some [.int .i64,.int .i64,.int .i64,.int .i64,.int .i64]⟩),(109,⟨.struct,2,32,[.slice none 0 0,.bool false],[.sl 1 [],.bool false],[(0,22),(1,4)],none⟩),(113,⟨.struct,3,40,[.int .i64 0,.int .i64 0,.slice none 0 0],[.int .i64 0,.int .i64 0,.sl 1 []],[(0,3),(1,3),(2,22)],none⟩),(120,⟨.struct,2,32,[.slice none 0 0,.int .i64 0],[.sl 1 [],.int .i64 0],[(0,22),(1,3)],none⟩),(126,⟨.array 3 1 3,3,24,[.int .i64 0,.int .i64 0,.int .i64 0],[.int .i64 0,.int .i64 0,.int .i64 0],[(0,3),(1,3),(2,3)],none⟩),(127,⟨.sl 137 2,1,24,[.slice none 0 0],[.sl 2 []],[],none⟩),(129,⟨.struct,2,32,[.slice none 0 0,.int .i64 0],[.sl 2 [],.int .i64 0],[(0,127),(1,3)],none⟩),(132,⟨.struct,4,32,[.int .i64 0,.int .i64 0,.int .i64 0,.int .i64 0],[.int .i64 0,.int .i64 0,.int .i64 0,.int .i64 0],[(0,3),(1,3),(2,3),(3,3)],some [.int .i64,.int .i64,.int .i64,.int .i64]⟩),(133,⟨.array 4 1 4,4,4,[.bool false,.bool false,.bool false,.bool false],[.bool false,.bool false,.bool false,.bool false],[(0,4),(1,4),(2,4),(3,4)],none⟩),(135,⟨.struct,4,32,[.int .i64 0,.int .i64 0,.int .i64 0,.int .i64 0],[.int .i64 0,.int .i64 0,.int .i64 0,.int .i64 0],[(0,3),(1,3),(2,3),(3,3)],some [.int .i64,.int .i64,.int .i64,.int .i64]⟩),(137,⟨.struct,2,16,[.int .i64 0,.int .i64 0],[.int .i64 0,.int .i64 0],[(0,3),(1,3)],some [.int .i64,.int .i64]⟩),(146,⟨.struct,3,24,[.int .i64 0,.int .i64 0,.int .i64 0],[.int .i64 0,.int .i64 0,.int .i64 0],[(0,3),(1,3),(2,3)],some [.int .i64,.int .i64,.int .i64]⟩),(150,⟨.sl 4 1,1,24,[.slice none 0 0],[.sl 1 []],[],none⟩),(158,⟨.struct,18,400,[.slice none 0 0,.slice none 0 0,.slice none 0 0,.slice none 0 0,.int .i64 0,.slice none 0 0,.slice none 0 0,.slice none 0 0,.slice none 0 0,.slice none 0 0,.slice none 0 0,.slice none 0 0,.int .i64 0,.slice none 0 0,.slice none 0 0,.slice none 0 0,.slice none 0 0,.slice none 0 0],[.sl 1 [],.sl 1 [],.sl 5 [],.sl 6 [],.int .i64 0,.sl 5 [],.sl 2 [],.sl 4 [],.sl 7 [],.sl 4 [],.sl 5 [],.sl 3 [],.int .i64 0,.sl 3 [],.sl 6 [],.sl 1 [],.sl 5 [],.sl 1 []],[(0,27),(4,36),(12,42),(15,22),(16,100),(17,150)],none⟩),(166,⟨.struct,6,48,[.int .i64 0,.int .i64 0,.int .i64 0,.int .i64 0,.int .i64 0,.int .i64 0],[.int .i64 0,.int .i64 0,.int .i64 0,.int .i64 0,.int .i64 0,.int .i64 0],[(0,3),(1,3),(2,3),(3,3),(4,3),(5,3)],some [.int .i64,.int .i64,.int .i64,.int .i64,.int .i64,.int .i64]⟩),(168,⟨.int .u64,1,8,[.int .u64 0],[.int .u64 0],[],none⟩),(181,⟨.struct,2,48,[.slice none 0 0,.slice none 0 0],[.sl 1 [],.sl 3 []],[(0,150),(1,82)],none⟩),(184,⟨.struct,4,32,[.int .i64 0,.int .i64 0,.int .i64 0,.int .i64 0],[.int .i64 0,.int .i64 0,.int .i64 0,.int .i64 0],[(0,137),(2,3),(3,3)],some [.int .i64,.int .i64,.int .i64,.int .i64]⟩),(190,⟨.ptr,1,8,[.pointer none],[],[],none⟩),(193,⟨.struct,21,440,[.slice none 0 0,.slice none 0 0,.slice none 0 0,.slice none 0 0,.int .i64 0,.slice none 0 0,.slice none 0 0,.slice none 0 0,.slice none 0 0,.slice none 0 0,.slice none 0 0,.slice none 0 0,.int .i64 0,.slice none 0 0,.slice none 0 0,.slice none 0 0,.bool false,.slice none 0 0,.slice none 0 0,.int .i64 0,.slice none 0 0],[.sl 1 [],.sl 1 [],.sl 5 [],.sl 6 [],.int .i64 0,.sl 5 [],.sl 2 [],.sl 4 [],.sl 7 [],.sl 4 [],.sl 5 [],.sl 3 [],.int .i64 0,.sl 3 [],.sl 6 [],.sl 1 [],.bool false,.sl 1 [],.sl 1 [],.int .i64 0,.sl 5 []],[(0,27),(4,36),(12,42),(15,22),(16,4),(17,22),(18,22),(19,3),(20,100)],none⟩),(207,⟨.sl 241 2,1,24,[.slice none 0 0],[.sl 2 []],[],none⟩),(212,⟨.sl 184 4,1,24,[.slice none 0 0],[.sl 4 []],[],none⟩),(214,⟨.ptr,1,8,[.pointer none],[],[],none⟩),(215,⟨.sl 244 4,1,24,[.slice none 0 0],[.sl 4 []],[],none⟩),(217,⟨.struct,19,424,[.slice none 0 0,.slice none 0 0,.slice none 0 0,.slice none 0 0,.int .i64 0,.slice none 0 0,.slice none 0 0,.slice none 0 0,.slice none 0 0,.slice none 0 0,.slice none 0 0,.slice none 0 0,.slice none 0 0,.slice none 0 0,.slice none 0 0,.slice none 0 0,.int .i64 0,.slice none 0 0,.slice none 0 0],[.sl 1 [],.sl 1 [],.sl 5 [],.sl 6 [],.int .i64 0,.sl 5 [],.sl 2 [],.sl 4 [],.sl 7 [],.sl 4 [],.sl 5 [],.sl 3 [],.sl 1 [],.sl 1 [],.sl 1 [],.sl 4 [],.int .i64 0,.sl 3 [],.sl 6 []],[(0,27),(4,36),(12,22),(13,78),(14,22),(15,215),(16,42)],none⟩),(236,⟨.struct,2,16,[.int .i64 0,.int .i64 0],[.int .i64 0,.int .i64 0],[(0,3),(1,3)],some [.int .i64,.int .i64]⟩),(241,⟨.struct,2,16,[.int .i64 0,.int .i64 0],[.int .i64 0,.int .i64 0],[(0,3),(1,3)],some [.int .i64,.int .i64]⟩),(244,⟨.struct,4,32,[.int .i64 0,.int .i64 0,.int .i64 0,.int .i64 0],[.int .i64 0,.int .i64 0,.int .i64 0,.int .i64 0],[(0,3),(1,3),(2,3),(3,3)],some [.int .i64,.int .i64,.int .i64,.int .i64]⟩),(248,⟨.mpb,1,8,[.map none],[],[],none⟩),(268,⟨.int .u32,1,4,[.int .u32 0],[.int .u32 0],[],none⟩),(270,⟨.int .u64,1,8,[.int .u64 0],[.int .u64 0],[],none⟩),(275,⟨.sl 280 2,1,24,[.slice none 0 0],[.sl 2 []],[],none⟩),(280,⟨.struct,2,16,[.int .i64 0,.int .i64 0],[.int .i64 0,.int .i64 0],[(0,3),(1,3)],some [.int .i64,.int .i64]⟩),(281,⟨.sl 146 3,1,24,[.slice none 0 0],[.sl 3 []],[],none⟩),(288,⟨.struct,2,16,[.int .i64 0,.int .i64 0],[.int .i64 0,.int .i64 0],[(0,3),(1,3)],some [.int .i64,.int .i64]⟩),(297,⟨.struct,2,32,[.slice none 0 0,.int .i64 0],[.sl 2 [],.int .i64 0],[(0,207),(1,3)],none⟩),(300,⟨.int .u64,1,8,[.int .u64 0],[.int .u64 0],[],none⟩),(317,⟨.struct,2,16,[.int .i64 0,.int .i64 0],[.int .i64 0,.int .i64 0],[(0,3),(1,3)],some [.int .i64,.int .i64]⟩),(330,⟨.sl 275 1,1,24,[.slice none 0 0],[.sl 1 []],[],none⟩)]
theorem QeI:TOk Tryz.prog gtt:=(show QfF Tryz.prog [3,4,5,9,22,23,24,25,27,28,29,30,31,32,33,34,36,39,40,42,43,47,59,62,64,67,68,70,72,75,77,78,82,83,87,89,92,97,99,100,103,107,109,113,120,126,127,129,132,133,135,137,146,150,158,166,168,181,184,190,193,207,212,214,215,217,236,241,244,248,268,270,275,280,281,288,297,300,317,330]=gtt by kernel_rfl)▸QcG _
noncomputable def bT:Nat->List (Nat × TA)->TO:=btT gtt
noncomputable def pT:Nat->Nat->List (Nat × Sp)->List Sp->List Sp:=ptT gtt
noncomputable def Xa (l:List ((f:Nat) × EnP Tryz.prog f)) (cfg:List (Nat × Cfg)):VB Tryz.prog:=⟨⟨Q3x (QeU l),gtt,cfg⟩,Q9x (Q6S l),QeI,by kernel_rfl⟩
abbrev LZ9:=Nat->LpE Tryz.prog
abbrev EZ9:=EnP Tryz.prog
abbrev BZ9:=VB Tryz.prog
end Go.Vx
set_option maxRecDepth 100000
namespace Go.Vx
open Go.Proofs
variable (n:Nat)
def AI:EZ9 11:=mkW (Xa [] []).ok nT 11 Tryz.f11 [sL 1] [eP 5 2,sL 1,sI] [] 0 0 @Mf n
def Q5H:EZ9 43:=mkD (Xa [] []).ok nT 43 Tryz.f43 0 @E4 n
def ZW:EZ9 13:=mkW (Xa [⟨43,Q5H n⟩] []).ok nT 13 Tryz.f13 [eP 1000000 2,sL 1,sI,sI] [sI] [] 0 2 @Q5 n
def Mc:EZ9 38:=mkD (Xa [] []).ok nT 38 Tryz.f38 0 @VW n
def Mh:EZ9 39:=mkW (Xa [⟨13,ZW n⟩] []).ok nT 39 Tryz.f39 [eP 1000000 2,sL 1,sI,sT,sI] [eA [qT,qI,qI,qI,qI]] [] 0 32 @U1 n
def NX:EZ9 40:=mkW (Xa [] []).ok nT 40 Tryz.f40 [eP 1000000 7,eR 1000001 9 1,eR 1000002 9 1,eR 1000003 72 5,eR 1000004 166 6,eR 1000005 22 1,eR 1000006 22 1,eR 1000007 22 1,eA [qT,qI,qI,qI,qI]] [sI] [] 123 246 @Zv n
def Kx:EZ9 41:=mkW (Xa [] []).ok nT 41 Tryz.f41 [eP 1000000 7,eR 1000001 9 1,eR 1000002 9 1,eR 1000003 72 5,eR 1000004 166 6,eR 1000005 22 1,eR 1000006 22 1,eR 1000007 22 1,sI,sI,sI,sI] [eT 0] [] 119 119 @Yu n
def Rm:EZ9 64:=mkW (Xa [⟨38,Mc n⟩] []).ok nT 64 Tryz.f64 [eP 1000000 7,eR 1000001 9 1,eR 1000002 9 1,eR 1000003 72 5,eR 1000004 166 6,eR 1000005 22 1,eR 1000006 22 1,eR 1000007 22 1] [sI] [] 125 250 @ZK n
end Go.Vx
